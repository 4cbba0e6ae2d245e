/-
  Part 5 of the texts that the statement stands on.
-/
import Derived.Test.YthccglceomoboaaGreatDoorZ4
import Derived.Lib.TrailingZeros
set_option linter.all false
open And renaming intro → Zs
open List renaming getElem?_eq_getElem → ZD, getElem?_eq_some_iff → za, length_map → zb, getElem?_map → zc, length_cons → zd, length_nil → ze, length_append → zp, drop_eq_getElem_cons → zt, all_eq_true → zw, getD_eq_getElem?_getD → zP, length_take → Zac, getElem_mem → Zad, replicate → Zag, append_assoc → Zam, map_nil → Zao, map_cons → Zap, mem_singleton → Zat, range → Zaw, mem_append → ZaB, map_append → ZaC, drop_zero → ZaE, take_succ_eq_append_getElem → ZaG, append_nil → ZaH, mem_cons → ZaJ, take_length → ZaL, drop_length → ZaO, drop_of_length_le → ZaT, length_drop → ZaU, mem_map → ZaV, nil_append → ZaW, mem_range → ZaX, take_of_length_le → Za2, ext_getElem → Za6, length_replicate → Za7, getElem?_cons_succ → Za8, take_zero → Zba, cons_append → Zbq, take_succ_cons → Zbw, filter_append → ZbB, getElem_range → ZbC, pairwise_iff_getElem → ZbD, range_succ → ZbI, getElem_map → ZbN, take_add_one → ZbW, cons → Zb4, pairwise_cons → Zb5, filter_eq_nil_iff → Zb6, filter_congr → Zb7, length_range → Zb8, foldl_nil → Zca, map_set → Zcb, any_cons → Zci, map_take → Zcj, filter_cons_of_pos → Zcv, findIdx_cons → Zcz, pairwise_lt_range → ZcE, getElem_set → ZcI, getElem_mapIdx → ZcQ, zip_cons_cons → ZcV, map_replicate → ZcY, all_cons → Zc0, getElem_take → Zc3, getElem_append_right → Zc5, getElem_append_left → Zda, mem_filter → Zdf, filter_nil → Zdh, getElem_cons_succ → Zdo, range_add → Zdx, mem_iff_getElem → ZdB
open Bool renaming and_eq_true → ZZ, false_eq_true → zj, true_and → Zaf, and_self → Zai, not_eq_true' → ZaN, false_and → ZaS, eq_false_iff → Za0, false_or → Zbj, and_false → Zbm, not_false → ZbM, and_true → ZbS, not_true → ZbT, true_or → Zb0
open Nat renaming beq → Z1, le_refl → zg, le_trans → zR, mul_le_mul_right → Zah, zero_add → Zaj, zero_le → ZaI, min_eq_left → Za4, add_assoc → Za9, div_lt_of_lt_mul → Zbr, mod_lt → Zbs, sub_zero → ZbH, sub_self → ZbO, pow_succ' → Zb3, mod_eq_of_lt → Zcf, div_div_eq_div_mul → ZcF, min_eq_right → ZcH, testBit_two_pow_mul_add → ZcW, pow_succ → Zdb, pow_le_pow_right → ZdC, testBit_succ → Zd2
open Option renaming map_some → Zae, map_eq_some_iff → Zaq, bind_some → ZaZ
open Int renaming lt_irrefl → Zar, tmod_eq_emod_of_nonneg → Zas, toNat_natCast → Zav, tdiv_eq_ediv_of_nonneg → Zbk, toNat_of_nonneg → Zbv, ediv_nonneg → ZbR, le_refl → ZcD, ediv_le_ediv → ZcJ, fdiv_eq_ediv_of_nonneg → Zc1, ediv_le_self → Zd3
open BitVec renaming ofInt → Zau, getLsbD_ushiftRight → ZbU, getLsbD_and → Zcq, ofNat → Zcr, eq_of_getLsbD_eq → Zcw, eq_of_toNat_eq → ZcL, allOnes → ZcR, testBit_toNat → ZdD, ofInt_natCast → ZdE, toNat_ofNat → ZdU, toNat_sub → Zd1
namespace Go.Proofs.YthccglceomoboaaGreatDoor.V
def ajD {α:Type}(p:α→Bool)(l:List α):Int:=if l.any p then (l.findIdx p:Int) else -1
theorem Tv {α:Type}(p:α→Bool)(l:List α):decide (ajD p l ≥ 0)=l.any p:=by
 unfold ajD
 cases l.any p
 ·rfl
 ·simp only [if_true];exact decide_eq_true (by omega)
def eqF {α β:Type}(eq:α→β→Bool)(l:List α)(m:List β):Bool:=decide (l.length=m.length)&&(l.zip m).all fun q=>eq q.1 q.2
--+
theorem ajE {α:Type}{enc:α→PV}{l:List α}{p:α→Bool}{gf:Nat}{caps:List PV}(hp:∀ x∈l,cal env gf (enc x::caps)=some [(.bool (p x),false)])(hs:∀ x,part (enc x).cells 0 none=some (enc x))(hl:l.length≤lim)
  {st:St} (h:st.head [0,1,7,8] st.boxes.length=some ⟨[.pv (.list 1 (l.map enc)),.pv (.func gf caps),.any,.any,.any,.any,.any,.pv (.int .i64 l.length),.pv (.int .i64 (0:Nat)),.any,.any,.any,.any,.any,.any,.any,.any,.any,.any],[],[],none⟩) :
  den env Iz st=if l.any p then some (.ret,⟨[.any,.any,.any,.any,.pv (.int .i64 (l.findIdx p)),.any,.any,.any,.any,.any,.any,.any,.any,.any,.any,.any,.any,.any,.any],[],[],none⟩) else some (.normal,⟨[.any,.any,.any,.any,.any,.any,.any,.any,.any,.any,.any,.any,.any,.any,.any,.any,.any,.any,.any],[],[],none⟩):=by
 unfold Iz
 rw [bG l.length (fun i=>⟨[.pv (.list 1 (l.map enc)),.pv (.func gf caps),.any,.any,.any,.any,.any,.pv (.int .i64 l.length),.pv (.int .i64 i),.any,.any,.any,.any,.any,.any,.any,.any,.any,.any],[],[],none⟩)
  (fun i=>if (l.drop i).any p then some (.ret,⟨[.any,.any,.any,.any,.pv (.int .i64 ((i+(l.drop i).findIdx p:Nat):Int)),.any,.any,.any,.any,.any,.any,.any,.any,.any,.any,.any,.any,.any,.any],[],[],none⟩) else some (.normal,⟨[.any,.any,.any,.any,.any,.any,.any,.any,.any,.any,.any,.any,.any,.any,.any,.any,.any,.any,.any],[],[],none⟩)) h (fun _=>rfl) (fun _=>rfl) ?_ ?_]
 ·simp only [ZaE,Zaj]
 ·intro i rb hi ih
  have hi1:=bH hi hl
  have F1:((i:Int)<(l.length:Int))=True:=eq_true (by omega)
  simp only [Iy,F1,zb,aC hi,zc,ZD hi,hp _ (Zad hi),hs,jX,reduceCtorEq,Nat.reduceEqDiff,Nat.reduceAdd,Nat.reduceLT,Nat.reduceLeDiff,Z1]
  (try simp only [dV,fF,dX]);refine dD (fun hb=>?_) (fun hb=>?_)<;>try simp only [hb,aY,reduceCtorEq,Nat.reduceEqDiff,Nat.reduceAdd,Nat.reduceLT,Nat.reduceLeDiff,Z1]
  ·rw [zt hi]
   simp only [Zci,hb,Zb0,if_true,Zcz,cond_true,Nat.add_zero]
   rfl
  ·rw [ih _ (by simp only [hi1];rfl),zt hi]
   simp only [Zci,hb,Zbj,Zcz,cond_false,Za9,Nat.add_comm 1]
 ·intro rb
  simp only [Iy,Zar,jX,reduceCtorEq,Nat.reduceEqDiff,Nat.reduceAdd,Nat.reduceLT,Nat.reduceLeDiff,Z1]
  simp only [ZaO,List.any_nil,zj,if_false]
  rfl
theorem anQ {α:Type}{enc:α→PV}{l:List α}{p:α→Bool}{gf:Nat}{caps:List PV}(hp:∀ x∈l,cal env gf (enc x::caps)=some [(.bool (p x),false)])(hs:∀ x,part (enc x).cells 0 none=some (enc x))(hl:l.length≤lim) :
  cal env 266 [.list 1 (l.map enc),.func gf caps]=some [(.int .i64 (ajD p l),false)]:=by
 rw [aj anM rfl];simp only [Tj];simp only [start,aH,aK,aF,aJ,aA,aB,aG,aI,Nat.reduceAdd,Nat.reduceSub]
 simp only [zb,jX,reduceCtorEq,Nat.reduceEqDiff,Nat.reduceAdd,Nat.reduceLT,Nat.reduceLeDiff,Z1]
 rw [ajE hp hs hl]
 rotate_left
 ·rfl
 ·simp only [ajD]
  split<;>simp only [jX,reduceCtorEq,Nat.reduceEqDiff,Nat.reduceAdd,Nat.reduceLT,Nat.reduceLeDiff,Z1]
--+
theorem anR {α:Type}{enc:α→PV}{l:List α}{p:α→Bool}{gf:Nat}{caps:List PV}(hp:∀ x∈l,cal env gf (enc x::caps)=some [(.bool (p x),false)])(hs:∀ x,part (enc x).cells 0 none=some (enc x))(hl:l.length≤lim) :
  cal env 223 [.list 1 (l.map enc),.func gf caps]=some [(.bool (l.any p),false)]:=by
 rw [aj ano rfl];simp only [Sr];simp only [start,aH,aK,aF,aJ,aA,aB,aG,aI,Nat.reduceAdd,Nat.reduceSub]
 simp only [anQ hp hs hl,Tv,jX,reduceCtorEq,Nat.reduceEqDiff,Nat.reduceAdd,Nat.reduceLT,Nat.reduceLeDiff,Z1]
--+
theorem anS {l m:List Int}(hlm:l.length=m.length)(hl:l.length≤lim)
  {st:St} (h:st.head [0,1,12,13] st.boxes.length=some ⟨[.pv (.list 1 (l.map eI)),.pv (.list 1 (m.map eI)),.any,.any,.any,.any,.any,.any,.any,.any,.any,.any,.pv (.int .i64 l.length),.pv (.int .i64 (0:Nat)),.any,.any,.any,.any,.any,.any,.any,.any,.any,.any,.any,.any],[],[],none⟩) :
  den env Om st=if l=m then some (.normal,⟨[.any,.any,.any,.any,.any,.any,.any,.any,.any,.any,.any,.any,.any,.any,.any,.any,.any,.any,.any,.any,.any,.any,.any,.any,.any,.any],[],[],none⟩) else some (.ret,⟨[.any,.any,.any,.any,.pv (.bool false),.any,.any,.any,.any,.any,.any,.any,.any,.any,.any,.any,.any,.any,.any,.any,.any,.any,.any,.any,.any,.any],[],[],none⟩):=by
 unfold Om
 rw [bG l.length (fun i=>⟨[.pv (.list 1 (l.map eI)),.pv (.list 1 (m.map eI)),.any,.any,.any,.any,.any,.any,.any,.any,.any,.any,.pv (.int .i64 l.length),.pv (.int .i64 i),.any,.any,.any,.any,.any,.any,.any,.any,.any,.any,.any,.any],[],[],none⟩)
  (fun i=>if l.drop i=m.drop i then some (.normal,⟨[.any,.any,.any,.any,.any,.any,.any,.any,.any,.any,.any,.any,.any,.any,.any,.any,.any,.any,.any,.any,.any,.any,.any,.any,.any,.any],[],[],none⟩) else some (.ret,⟨[.any,.any,.any,.any,.pv (.bool false),.any,.any,.any,.any,.any,.any,.any,.any,.any,.any,.any,.any,.any,.any,.any,.any,.any,.any,.any,.any,.any],[],[],none⟩)) h (fun _=>rfl) (fun _=>rfl) ?_ ?_]
 ·simp only [ZaE]
 ·intro i rb hi ih
  have hi1:=bH hi hl
  have hj:i<m.length:=by omega
  have F1:((i:Int)<(l.length:Int))=True:=eq_true (by omega)
  simp only [Ol,F1,zb,aC hi,aC hj,zc,ZD hi,ZD hj,eI,fQ,aU,yg,iF,pz,iT,jX,reduceCtorEq,Nat.reduceEqDiff,Nat.reduceAdd,Nat.reduceLT,Nat.reduceLeDiff,Z1]
  (try simp only [dV,fF,dX]);refine dD (fun hb=>?_) (fun hb=>?_)<;>try simp only [hb,aY,reduceCtorEq,Nat.reduceEqDiff,Nat.reduceAdd,Nat.reduceLT,Nat.reduceLeDiff,Z1]
  ·rw [ih _ (by simp only [hi1];rfl),zt hi,zt hj]
   have e:l[i]=m[i]:=by
    revert hb
    generalize l[i]=x
    generalize m[i]=y
    first|(intro hb;simpa using hb)|(cases x;cases y;intro hb;simpa using hb)
   simp only [e,Zb4.injEq,true_and]
  ·rw [zt hi,zt hj,if_neg (fun e=>?_)]
   ·rfl
   ·have e:=(Zb4.inj e).1
    rw [e] at hb
    simp at hb
 ·intro rb
  simp only [Ol,Zar,jX,reduceCtorEq,Nat.reduceEqDiff,Nat.reduceAdd,Nat.reduceLT,Nat.reduceLeDiff,Z1]
  rw [ZaO,hlm,ZaO,if_pos rfl]
  rfl
theorem aqF {l m:List Int}(hl:l.length≤lim) :
  cal env 99 [.list 1 (l.map eI),.list 1 (m.map eI)]=some [(.bool (decide (l=m)),false)]:=by
 rw [aj aqE rfl];simp only [ad8];simp only [start,aH,aK,aF,aJ,aA,aB,aG,aI,Nat.reduceAdd,Nat.reduceSub]
 simp only [zb,jX,reduceCtorEq,Nat.reduceEqDiff,Nat.reduceAdd,Nat.reduceLT,Nat.reduceLeDiff,Z1]
 (try simp only [dV,fF,dX]);refine dD (fun hb=>?_) (fun hb=>?_)<;>try simp only [hb,aY,reduceCtorEq,Nat.reduceEqDiff,Nat.reduceAdd,Nat.reduceLT,Nat.reduceLeDiff,Z1]
 ·have hlm:l.length=m.length:=by simp at hb;omega
  rw [anS hlm hl]
  rotate_left
  ·rfl
  ·by_cases e:l=m
   ·simp only [e,jX,reduceCtorEq,Nat.reduceEqDiff,Nat.reduceAdd,Nat.reduceLT,Nat.reduceLeDiff,Z1]
   ·simp only [e,jX,reduceCtorEq,Nat.reduceEqDiff,Nat.reduceAdd,Nat.reduceLT,Nat.reduceLeDiff,Z1]
 ·have:l≠m:=fun e=>by subst e;simp at hb
  simp only [this,jX,reduceCtorEq,Nat.reduceEqDiff,Nat.reduceAdd,Nat.reduceLT,Nat.reduceLeDiff,Z1]
--+
theorem ajF {l m:List bf}(hlm:l.length=m.length)(hl:l.length≤lim)
  {st:St} (h:st.head [0,1,12,13] st.boxes.length=some ⟨[.pv (.list 2 (l.map aU)),.pv (.list 2 (m.map aU)),.any,.any,.any,.any,.any,.any,.any,.any,.any,.any,.pv (.int .i64 l.length),.pv (.int .i64 (0:Nat)),.any,.any,.any,.any,.any,.any,.any,.any,.any,.any,.any,.any],[],[],none⟩) :
  den env GZ st=if l=m then some (.normal,⟨[.any,.any,.any,.any,.any,.any,.any,.any,.any,.any,.any,.any,.any,.any,.any,.any,.any,.any,.any,.any,.any,.any,.any,.any,.any,.any],[],[],none⟩) else some (.ret,⟨[.any,.any,.any,.any,.pv (.bool false),.any,.any,.any,.any,.any,.any,.any,.any,.any,.any,.any,.any,.any,.any,.any,.any,.any,.any,.any,.any,.any],[],[],none⟩):=by
 unfold GZ
 rw [bG l.length (fun i=>⟨[.pv (.list 2 (l.map aU)),.pv (.list 2 (m.map aU)),.any,.any,.any,.any,.any,.any,.any,.any,.any,.any,.pv (.int .i64 l.length),.pv (.int .i64 i),.any,.any,.any,.any,.any,.any,.any,.any,.any,.any,.any,.any],[],[],none⟩)
  (fun i=>if l.drop i=m.drop i then some (.normal,⟨[.any,.any,.any,.any,.any,.any,.any,.any,.any,.any,.any,.any,.any,.any,.any,.any,.any,.any,.any,.any,.any,.any,.any,.any,.any,.any],[],[],none⟩) else some (.ret,⟨[.any,.any,.any,.any,.pv (.bool false),.any,.any,.any,.any,.any,.any,.any,.any,.any,.any,.any,.any,.any,.any,.any,.any,.any,.any,.any,.any,.any],[],[],none⟩)) h (fun _=>rfl) (fun _=>rfl) ?_ ?_]
 ·simp only [ZaE]
 ·intro i rb hi ih
  have hi1:=bH hi hl
  have hj:i<m.length:=by omega
  have F1:((i:Int)<(l.length:Int))=True:=eq_true (by omega)
  simp only [GY,F1,zb,aC hi,aC hj,zc,ZD hi,ZD hj,eI,fQ,aU,yg,iF,pz,iT,jX,reduceCtorEq,Nat.reduceEqDiff,Nat.reduceAdd,Nat.reduceLT,Nat.reduceLeDiff,Z1]
  (try simp only [dV,fF,dX]);refine dD (fun hb=>?_) (fun hb=>?_)<;>try simp only [hb,aY,reduceCtorEq,Nat.reduceEqDiff,Nat.reduceAdd,Nat.reduceLT,Nat.reduceLeDiff,Z1]
  ·rw [ih _ (by simp only [hi1];rfl),zt hi,zt hj]
   have e:l[i]=m[i]:=by
    revert hb
    generalize l[i]=x
    generalize m[i]=y
    first|(intro hb;simpa using hb)|(cases x;cases y;intro hb;simpa using hb)
   simp only [e,Zb4.injEq,true_and]
  ·rw [zt hi,zt hj,if_neg (fun e=>?_)]
   ·rfl
   ·have e:=(Zb4.inj e).1
    rw [e] at hb
    simp at hb
 ·intro rb
  simp only [GY,Zar,jX,reduceCtorEq,Nat.reduceEqDiff,Nat.reduceAdd,Nat.reduceLT,Nat.reduceLeDiff,Z1]
  rw [ZaO,hlm,ZaO,if_pos rfl]
  rfl
theorem anT {l m:List bf}(hl:l.length≤lim) :
  cal env 140 [.list 2 (l.map aU),.list 2 (m.map aU)]=some [(.bool (decide (l=m)),false)]:=by
 rw [aj amU rfl];simp only [Rl];simp only [start,aH,aK,aF,aJ,aA,aB,aG,aI,Nat.reduceAdd,Nat.reduceSub]
 simp only [zb,jX,reduceCtorEq,Nat.reduceEqDiff,Nat.reduceAdd,Nat.reduceLT,Nat.reduceLeDiff,Z1]
 (try simp only [dV,fF,dX]);refine dD (fun hb=>?_) (fun hb=>?_)<;>try simp only [hb,aY,reduceCtorEq,Nat.reduceEqDiff,Nat.reduceAdd,Nat.reduceLT,Nat.reduceLeDiff,Z1]
 ·have hlm:l.length=m.length:=by simp at hb;omega
  rw [ajF hlm hl]
  rotate_left
  ·rfl
  ·by_cases e:l=m
   ·simp only [e,jX,reduceCtorEq,Nat.reduceEqDiff,Nat.reduceAdd,Nat.reduceLT,Nat.reduceLeDiff,Z1]
   ·simp only [e,jX,reduceCtorEq,Nat.reduceEqDiff,Nat.reduceAdd,Nat.reduceLT,Nat.reduceLeDiff,Z1]
 ·have:l≠m:=fun e=>by subst e;simp at hb
  simp only [this,jX,reduceCtorEq,Nat.reduceEqDiff,Nat.reduceAdd,Nat.reduceLT,Nat.reduceLeDiff,Z1]
--+
theorem ajG {α β:Type}{enc:α→PV}{enc2:β→PV}{eq:α→β→Bool}{l:List α}{m:List β}{gf:Nat}{caps:List PV}(hp:∀ x∈l,∀ y∈m,cal env gf (enc x::enc2 y::caps)=some [(.bool (eq x y),false)])(hs:∀ x,part (enc x).cells 0 none=some (enc x))(hs2:∀ x,part (enc2 x).cells 0 none=some (enc2 x))(hlm:l.length=m.length)(hl:l.length≤lim)
  {st:St} (h:st.head [0,1,2,15,16,17] st.boxes.length=some ⟨[.pv (.list 1 (l.map enc)),.pv (.list 1 (m.map enc2)),.pv (.func gf caps),.any,.any,.any,.any,.any,.any,.any,.any,.any,.any,.any,.any,.pv (.list 1 (l.map enc)),.pv (.int .i64 l.length),.pv (.int .i64 (0:Nat)),.any,.any,.any,.any,.any,.any,.any,.any,.any,.any,.any,.any,.any,.any],[],[],none⟩) :
  den env GX st=if (l.zip m).all (fun q=>eq q.1 q.2) then some (.normal,⟨[.any,.any,.any,.any,.any,.any,.any,.any,.any,.any,.any,.any,.any,.any,.any,.any,.any,.any,.any,.any,.any,.any,.any,.any,.any,.any,.any,.any,.any,.any,.any,.any],[],[],none⟩) else some (.ret,⟨[.any,.any,.any,.any,.any,.any,.pv (.bool false),.any,.any,.any,.any,.any,.any,.any,.any,.any,.any,.any,.any,.any,.any,.any,.any,.any,.any,.any,.any,.any,.any,.any,.any,.any],[],[],none⟩):=by
 unfold GX
 rw [bG l.length (fun i=>⟨[.pv (.list 1 (l.map enc)),.pv (.list 1 (m.map enc2)),.pv (.func gf caps),.any,.any,.any,.any,.any,.any,.any,.any,.any,.any,.any,.any,.pv (.list 1 (l.map enc)),.pv (.int .i64 l.length),.pv (.int .i64 i),.any,.any,.any,.any,.any,.any,.any,.any,.any,.any,.any,.any,.any,.any],[],[],none⟩)
  (fun i=>if ((l.drop i).zip (m.drop i)).all (fun q=>eq q.1 q.2) then some (.normal,⟨[.any,.any,.any,.any,.any,.any,.any,.any,.any,.any,.any,.any,.any,.any,.any,.any,.any,.any,.any,.any,.any,.any,.any,.any,.any,.any,.any,.any,.any,.any,.any,.any],[],[],none⟩) else some (.ret,⟨[.any,.any,.any,.any,.any,.any,.pv (.bool false),.any,.any,.any,.any,.any,.any,.any,.any,.any,.any,.any,.any,.any,.any,.any,.any,.any,.any,.any,.any,.any,.any,.any,.any,.any],[],[],none⟩)) h (fun _=>rfl) (fun _=>rfl) ?_ ?_]
 ·simp only [ZaE]
 ·intro i rb hi ih
  have hi1:=bH hi hl
  have hj:i<m.length:=by omega
  have F1:((i:Int)<(l.length:Int))=True:=eq_true (by omega)
  simp only [GV,F1,zb,aC hi,aC hj,zc,ZD hi,ZD hj,hs,hs2,hp _ (Zad hi) _ (Zad hj),jX,reduceCtorEq,Nat.reduceEqDiff,Nat.reduceAdd,Nat.reduceLT,Nat.reduceLeDiff,Z1]
  (try simp only [dV,fF,dX]);refine dD (fun hb=>?_) (fun hb=>?_)<;>try simp only [hb,aY,reduceCtorEq,Nat.reduceEqDiff,Nat.reduceAdd,Nat.reduceLT,Nat.reduceLeDiff,Z1]
  ·rw [ih _ (by simp only [hi1];rfl),zt hi,zt hj]
   simp only [ZcV,Zc0,hb,Zaf]
  ·rw [zt hi,zt hj]
   simp only [ZcV,Zc0,hb,ZaS,zj,if_false]
   rfl
 ·intro rb
  simp only [GV,Zar,jX,reduceCtorEq,Nat.reduceEqDiff,Nat.reduceAdd,Nat.reduceLT,Nat.reduceLeDiff,Z1]
  rw [ZaO]
  rfl
theorem anU {α β:Type}{enc:α→PV}{enc2:β→PV}{eq:α→β→Bool}{l:List α}{m:List β}{gf:Nat}{caps:List PV}(hp:∀ x∈l,∀ y∈m,cal env gf (enc x::enc2 y::caps)=some [(.bool (eq x y),false)])(hs:∀ x,part (enc x).cells 0 none=some (enc x))(hs2:∀ x,part (enc2 x).cells 0 none=some (enc2 x))(hl:l.length≤lim) :
  cal env 138 [.list 1 (l.map enc),.list 1 (m.map enc2),.func gf caps]=some [(.bool (eqF eq l m),false)]:=by
 rw [aj amS rfl];simp only [Rj];simp only [start,aH,aK,aF,aJ,aA,aB,aG,aI,Nat.reduceAdd,Nat.reduceSub]
 simp only [zb,jX,reduceCtorEq,Nat.reduceEqDiff,Nat.reduceAdd,Nat.reduceLT,Nat.reduceLeDiff,Z1]
 (try simp only [dV,fF,dX]);refine dD (fun hb=>?_) (fun hb=>?_)<;>try simp only [hb,aY,reduceCtorEq,Nat.reduceEqDiff,Nat.reduceAdd,Nat.reduceLT,Nat.reduceLeDiff,Z1]
 ·have hlm:l.length=m.length:=by simp at hb;omega
  rw [ajG hp hs hs2 hlm hl]
  rotate_left
  ·rfl
  ·simp only [eqF,decide_eq_true hlm,Zaf]
   cases (l.zip m).all (fun q=>eq q.1 q.2)<;>simp only [jX,reduceCtorEq,Nat.reduceEqDiff,Nat.reduceAdd,Nat.reduceLT,Nat.reduceLeDiff,Z1]
 ·have:¬ l.length=m.length:=fun e=>by rw [e] at hb;simp at hb
  simp only [eqF,decide_eq_false this,jX,reduceCtorEq,Nat.reduceEqDiff,Nat.reduceAdd,Nat.reduceLT,Nat.reduceLeDiff,Z1]
--+
theorem anV {es:List PV}(hl:es.length≤lim):cal env 133 [.list 8 es]=some [(.list 8 es,true)]:=(yS amO).trans (if_pos ⟨rfl,hl⟩)
def eG (l:List Int):Int:=if l.length<1∨8<l.length then 6 else if l.any (fun n=>decide (n<1) || decide (n > 4096)) then 2 else 0
def dw (im:jc):List Int:=im.map fun v=>(v.length:Int)
def dR (im:jc):Int:=eG (dw im)
def BL (im:jc)(w:o7):Int :=
 if w.volume<0∨(im.length:Int)≤w.volume then 7 else if w.data.length=0 then 1
 else if w.start<0∨((im.getD w.volume.toNat []).length:Int) - w.data.length<w.start then 2 else 0
def nJ (l:List Int):jc:=l.map fun n=>Zag n.toNat vg
theorem zA {α β:Type}(f:α→β){l:List α}{i:Nat}(h:i<l.length):(l.take i).map f++[f l[i]]=(l.take (i+1)).map f:=by
 rw [List.take_succ,ZD h,ZaC];rfl
theorem ajH {α:Type}{enc:α→PV}{l:List α}{g:α→Int}{gf:Nat}{caps:List PV}(hp:∀ x∈l,cal env gf (enc x::caps)=some [(eI (g x),false)])(hs:∀ x,part (enc x).cells 0 none=some (enc x))(hs3:∀ x,(enc x).cells.length=1)(hl:l.length≤lim)
  {st:St} (h:st.head [0,1,5,10,11,12,13,22] st.boxes.length=some ⟨[.pv (.list 1 (l.map enc)),.pv (.func gf caps),.any,.any,.any,.row 1 [],.any,.any,.any,.any,.any,.pv (.list 1 (l.map enc)),.pv (.int .i64 l.length),.pv (.int .i64 (0:Nat)),.any,.any,.any,.any,.any,.any,.any,.any,.any,.any,.any],[],[],none⟩) :
  den env Hz st=some (.normal,⟨[.any,.any,.any,.any,.any,.row 1 (l.map fun x=>eI (g x)),.any,.any,.any,.any,.any,.any,.any,.any,.any,.any,.any,.any,.any,.any,.any,.any,.any,.any,.any],[],[],none⟩):=by
 unfold Hz
 rw [bG l.length (fun i=>⟨[.pv (.list 1 (l.map enc)),.pv (.func gf caps),.any,.any,.any,.row 1 ((l.take i).map fun x=>eI (g x)),.any,.any,.any,.any,.any,.pv (.list 1 (l.map enc)),.pv (.int .i64 l.length),.pv (.int .i64 i),.any,.any,.any,.any,.any,.any,.any,.any,.any,.any,.any],[],[],none⟩)
  (fun i=>some (.normal,⟨[.any,.any,.any,.any,.any,.row 1 (l.map fun x=>eI (g x)),.any,.any,.any,.any,.any,.any,.any,.any,.any,.any,.any,.any,.any,.any,.any,.any,.any,.any,.any],[],[],none⟩)) h (fun _=>rfl) (fun _=>rfl) ?_ ?_]
 ·intro i rb hi ih
  have hi1:=bH hi hl
  have F1:((i:Int)<(l.length:Int))=True:=eq_true (by omega)
  have F2:((l.take i).length+1≤lim)=True:=eq_true (by rw [Zac];omega)
  have hpi:cal env gf (enc l[i]::caps)=some [((PV.int .i64 (g l[i])),false)]:=hp _ (Zad hi)
  try simp only [aU] at hpi
  simp only [Hy,F1,F2,aC hi,zc,ZD hi,hpi,hs,hs3,aY,reduceCtorEq,Nat.reduceEqDiff,Nat.reduceAdd,Nat.reduceLT,Nat.reduceLeDiff,Z1]
  rw [ih _ (by simp only [hi1];rw [← zA _ hi];rfl)]
 ·intro rb
  simp only [Hy,Zar,jX,reduceCtorEq,Nat.reduceEqDiff,Nat.reduceAdd,Nat.reduceLT,Nat.reduceLeDiff,Z1]
  rw [ZaL]
  rfl
theorem anW {α:Type}{enc:α→PV}{l:List α}{g:α→Int}{gf:Nat}{caps:List PV}(hp:∀ x∈l,cal env gf (enc x::caps)=some [(eI (g x),false)])(hs:∀ x,part (enc x).cells 0 none=some (enc x))(hs3:∀ x,(enc x).cells.length=1)(hl:l.length≤lim) :
  cal env 228 [.list 1 (l.map enc),.func gf caps]=some [(.list 1 (l.map fun x=>eI (g x)),true)]:=by
 rw [aj anq rfl];simp only [Sz];simp only [start,aH,aK,aF,aJ,aA,aB,aG,aI,Nat.reduceAdd,Nat.reduceSub]
 have F1:((l.length:Int)≤(lim:Int))=True:=eq_true (by omega)
 have F2:((0:Int)≤(l.length:Int))=True:=eq_true (by omega)
 simp only [F1,F2,ZcD,aY,reduceCtorEq,Nat.reduceEqDiff,Nat.reduceAdd,Nat.reduceLT,Nat.reduceLeDiff,Z1]
 rw [ajH hp hs hs3 hl]
 rotate_left
 ·rfl
 ·simp only [aY,reduceCtorEq,Nat.reduceEqDiff,Nat.reduceAdd,Nat.reduceLT,Nat.reduceLeDiff,Z1]
theorem anX {x:Int}:cal env 227 [eI x]=some [(.bool (decide (x<1) || decide (x > 4096)),false)]:=by
 unfold eI
 rw [aj anp rfl];simp only [Sv];simp only [start,aH,aK,aF,aJ,aA,aB,aG,aI,Nat.reduceAdd,Nat.reduceSub]
 simp only [aY,reduceCtorEq,Nat.reduceEqDiff,Nat.reduceAdd,Nat.reduceLT,Nat.reduceLeDiff,Z1]
 (try simp only [dV,fF,dX]);refine dD (fun hb=>?_) (fun hb=>?_)<;>try simp only [hb,aY,reduceCtorEq,Nat.reduceEqDiff,Nat.reduceAdd,Nat.reduceLT,Nat.reduceLeDiff,Z1]
theorem anY {l:List Int}(hl:l.length≤lim):cal env 165 [.list 1 (l.map eI)]=some [(.int .i64 (eG l),false)]:=by
 have e1:=anR (l:=l) (enc:=eI) (fun x _=>anX (x:=x)) (fun x=>rfl) hl
 rw [aj am1 rfl];simp only [Rx];simp only [start,aH,aK,aF,aJ,aA,aB,aG,aI,Nat.reduceAdd,Nat.reduceSub]
 simp only [e1,aY,reduceCtorEq,Nat.reduceEqDiff,Nat.reduceAdd,Nat.reduceLT,Nat.reduceLeDiff,Z1]
 repeat' ((try simp only [dV,fF,dX]);refine dD (fun hb=>?_) (fun hb=>?_)<;>try simp only [hb,e1,aY,reduceCtorEq,Nat.reduceEqDiff,Nat.reduceAdd,Nat.reduceLT,Nat.reduceLeDiff,Z1])
 all_goals grind [eG]
theorem anZ {v:List dN}:cal env 229 [bM v]=some [(eI v.length,false)]:=by
 unfold bM eI
 rw [aj anr rfl];simp only [SA];simp only [start,aH,aK,aF,aJ,aA,aB,aG,aI,Nat.reduceAdd,Nat.reduceSub]
 simp only [aY,reduceCtorEq,Nat.reduceEqDiff,Nat.reduceAdd,Nat.reduceLT,Nat.reduceLeDiff,Z1]
theorem Xd {im:jc}(hl:im.length≤lim):cal env 166 [.list 1 (im.map bM)]=some [(.list 1 ((dw im).map eI),true)]:=by
 have e1:=anW (enc:=bM) (l:=im) (fun x _=>anZ (v:=x)) (fun x=>rfl) (fun x=>rfl) hl
 rw [aj am2 rfl];simp only [Ry];simp only [start,aH,aK,aF,aJ,aA,aB,aG,aI,Nat.reduceAdd,Nat.reduceSub]
 simp only [e1,aY,reduceCtorEq,Nat.reduceEqDiff,Nat.reduceAdd,Nat.reduceLT,Nat.reduceLeDiff,Z1]
 simp [dw]
theorem alv {im:jc}(hl:im.length≤lim):cal env 76 [.list 1 (im.map bM)]=some [(.int .i64 (dR im),false)]:=by
 have h2:(dw im).length≤lim:=by simpa [dw] using hl
 have e1:=Xd hl
 have e2:=anY h2
 rw [aj aqC rfl];simp only [ad6];simp only [start,aH,aK,aF,aJ,aA,aB,aG,aI,Nat.reduceAdd,Nat.reduceSub]
 simp only [e1,e2,aY,reduceCtorEq,Nat.reduceEqDiff,Nat.reduceAdd,Nat.reduceLT,Nat.reduceLeDiff,Z1]
 rfl
theorem afn {α:Type}[DecidableEq α]:∀ (l m:List α),eqF (fun x y=>decide (x=y)) l m=decide (l=m)
 |[],[]=>by simp [eqF]
 |[],_::_=>by simp [eqF]
 |_::_,[]=>by simp [eqF]
 |x::l,y::m=>by
  have:=afn l m
  simp only [eqF,zd,ZcV,Zc0,Zb4.injEq,Bool.decide_and] at *
  rw [← this]
  by_cases h:l.length=m.length<;>simp [h]
theorem ajI {l:List Int}(hl:l.length≤lim){st:St}(h:st.head [0,3] st.boxes.length=some ⟨[.pv (.list 1 (l.map eI)),.any,.any,.pv (.int .i64 (0:Nat)),.any,.any,.any,.any,.any,.any,.any,.any,.any,.any,.any,.any,.any,.any,.any,.any,.any,.any,.any,.any,.any,.any,.any,.any,.any,.any],[],[],none⟩) :
  den env G8 st=if l.any (fun n=>decide (n<1) || decide (n > 4096)) then some (.ret,⟨[.any,.any,.pv (.int .i64 2),.any,.any,.any,.any,.any,.any,.any,.any,.any,.any,.any,.any,.any,.any,.any,.any,.any,.any,.any,.any,.any,.any,.any,.any,.any,.any,.any],[],[],none⟩) else some (.normal,⟨[.any,.any,.any,.any,.any,.any,.any,.any,.any,.any,.any,.any,.any,.any,.any,.any,.any,.any,.any,.any,.any,.any,.any,.any,.any,.any,.any,.any,.any,.any],[],[],none⟩):=by
 unfold G8
 rw [ bG (env:=env) (l.length) (fun i=>⟨[.pv (.list 1 (l.map eI)),.any,.any,.pv (.int .i64 i),.any,.any,.any,.any,.any,.any,.any,.any,.any,.any,.any,.any,.any,.any,.any,.any,.any,.any,.any,.any,.any,.any,.any,.any,.any,.any],[],[],none⟩) (fun i=>if (l.drop i).any (fun n=>decide (n<1) || decide (n > 4096)) then some (.ret,⟨[.any,.any,.pv (.int .i64 2),.any,.any,.any,.any,.any,.any,.any,.any,.any,.any,.any,.any,.any,.any,.any,.any,.any,.any,.any,.any,.any,.any,.any,.any,.any,.any,.any],[],[],none⟩) else some (.normal,⟨[.any,.any,.any,.any,.any,.any,.any,.any,.any,.any,.any,.any,.any,.any,.any,.any,.any,.any,.any,.any,.any,.any,.any,.any,.any,.any,.any,.any,.any,.any],[],[],none⟩)) h (fun _=>rfl) (fun _=>rfl) ?_ ?_]
 ·first|rfl|simp only [ZaE,Zba,Zao,Zaj,ZaW,Zca]
 ·intro i rb hi ih
  have hi1:=bH hi hl;have F1:((i:Int)<(l.length:Int))=True:=eq_true (by omega)
  simp only [G7,eI,F1,aC hi,zc,ZD hi,aY,reduceCtorEq,Nat.reduceEqDiff,Nat.reduceAdd,Nat.reduceLT,Nat.reduceLeDiff,Z1]
  rw [zt hi]
  repeat' ((try simp only [dV,fF,dX]);refine dD (fun hb=>?_) (fun hb=>?_)<;>try simp only [hb,eI,aC hi,zc,ZD hi,aY,reduceCtorEq,Nat.reduceEqDiff,Nat.reduceAdd,Nat.reduceLT,Nat.reduceLeDiff,Z1])
  ·rfl
  ·rfl
  ·rw [ih _ (by simp only [hi1];rfl)]
 ·intro rb
  simp only [G7,Zar,eI,aY,reduceCtorEq,Nat.reduceEqDiff,Nat.reduceAdd,Nat.reduceLT,Nat.reduceLeDiff,Z1]
  rw [ZaO]
  rfl
theorem an0 {l:List Int}(hl:l.length≤lim):cal env 143 [.list 1 (l.map eI)]=some [(.int .i64 (eG l),false)]:=by
 rw [aj amX rfl];simp only [Rq];simp only [start,aH,aK,aF,aJ,aA,aB,aG,aI,Nat.reduceAdd,Nat.reduceSub]
 simp only [eI,aY,reduceCtorEq,Nat.reduceEqDiff,Nat.reduceAdd,Nat.reduceLT,Nat.reduceLeDiff,Z1]
 repeat' ((try simp only [dV,fF,dX]);refine dD (fun hb=>?_) (fun hb=>?_)<;>try simp only [hb,eI,aY,reduceCtorEq,Nat.reduceEqDiff,Nat.reduceAdd,Nat.reduceLT,Nat.reduceLeDiff,Z1])
 ·grind [eG]
 ·grind [eG]
 ·rw [ajI hl]
  rotate_left
  ·rfl
  ·by_cases h:l.any (fun n=>decide (n<1) || decide (n > 4096))=true
   ·simp only [h,jX,reduceCtorEq,Nat.reduceEqDiff,Nat.reduceAdd,Nat.reduceLT,Nat.reduceLeDiff,Z1]
    grind [eG]
   ·simp only [h,jX,reduceCtorEq,Nat.reduceEqDiff,Nat.reduceAdd,Nat.reduceLT,Nat.reduceLeDiff,Z1]
    grind [eG]
theorem an1 {a b:List dN}(hl:a.length≤lim)(hab:a.length=b.length){st:St}(h:st.head [0,1,5] st.boxes.length=some ⟨[.pv (.list 8 (a.map fQ)),.pv (.list 8 (b.map fQ)),.any,.any,.any,.pv (.int .i64 (0:Nat)),.any,.any,.any,.any,.any,.any,.any,.any,.any,.any,.any,.any,.any,.any,.any,.any,.any,.any,.any,.any],[],[],none⟩) :
  den env Oe st=if a=b then some (.normal,⟨[.any,.any,.any,.any,.any,.any,.any,.any,.any,.any,.any,.any,.any,.any,.any,.any,.any,.any,.any,.any,.any,.any,.any,.any,.any,.any],[],[],none⟩) else some (.ret,⟨[.any,.any,.any,.any,.pv (.bool false),.any,.any,.any,.any,.any,.any,.any,.any,.any,.any,.any,.any,.any,.any,.any,.any,.any,.any,.any,.any,.any],[],[],none⟩):=by
 unfold Oe
 rw [ bG (env:=env) (a.length) (fun i=>⟨[.pv (.list 8 (a.map fQ)),.pv (.list 8 (b.map fQ)),.any,.any,.any,.pv (.int .i64 i),.any,.any,.any,.any,.any,.any,.any,.any,.any,.any,.any,.any,.any,.any,.any,.any,.any,.any,.any,.any],[],[],none⟩) (fun i=>if a.drop i=b.drop i then some (.normal,⟨[.any,.any,.any,.any,.any,.any,.any,.any,.any,.any,.any,.any,.any,.any,.any,.any,.any,.any,.any,.any,.any,.any,.any,.any,.any,.any],[],[],none⟩) else some (.ret,⟨[.any,.any,.any,.any,.pv (.bool false),.any,.any,.any,.any,.any,.any,.any,.any,.any,.any,.any,.any,.any,.any,.any,.any,.any,.any,.any,.any,.any],[],[],none⟩)) h (fun _=>rfl) (fun _=>rfl) ?_ ?_]
 ·first|rfl|simp only [ZaE,Zba,Zao,Zaj,ZaW,Zca]
 ·intro i rb hi ih
  have hi1:=bH hi hl
  have hj:i<b.length:=by omega
  have F1:((i:Int)<(a.length:Int))=True:=eq_true (by omega)
  simp only [Oc,F1,fQ,aC hi,aC hj,zc,ZD hi,ZD hj,yg,iF,pz,aY,reduceCtorEq,Nat.reduceEqDiff,Nat.reduceAdd,Nat.reduceLT,Nat.reduceLeDiff,Z1]
  rw [zt hi,zt hj]
  (try simp only [dV,fF,dX]);refine dD (fun hb=>?_) (fun hb=>?_)<;>try simp only [hb,aY,reduceCtorEq,Nat.reduceEqDiff,Nat.reduceAdd,Nat.reduceLT,Nat.reduceLeDiff,Z1]
  ·rw [ih _ (by simp only [hi1];rfl)]
   simp only [decide_eq_true_eq] at hb
   simp only [hb,Zb4.injEq,true_and]
  ·simp only [decide_eq_false_iff_not] at hb
   simp only [hb,Zb4.injEq,false_and,if_false]
   rfl
 ·intro rb
  simp only [Oc,Zar,aY,reduceCtorEq,Nat.reduceEqDiff,Nat.reduceAdd,Nat.reduceLT,Nat.reduceLeDiff,Z1]
  rw [ZaO,hab,ZaO,if_pos rfl]
  rfl
theorem aqG {a b:List dN}(hl:a.length≤lim):cal env 85 [.list 8 (a.map fQ),.list 8 (b.map fQ)]=some [(.bool (decide (a=b)),false)]:=by
 rw [aj aqD rfl];simp only [ad7];simp only [start,aH,aK,aF,aJ,aA,aB,aG,aI,Nat.reduceAdd,Nat.reduceSub]
 simp only [aY,reduceCtorEq,Nat.reduceEqDiff,Nat.reduceAdd,Nat.reduceLT,Nat.reduceLeDiff,Z1]
 (try simp only [dV,fF,dX]);refine dD (fun hb=>?_) (fun hb=>?_)<;>try simp only [hb,aY,reduceCtorEq,Nat.reduceEqDiff,Nat.reduceAdd,Nat.reduceLT,Nat.reduceLeDiff,Z1]
 ·have hab:a.length=b.length:=by simp at hb;omega
  rw [an1 hl hab]
  rotate_left
  ·rfl
  ·by_cases e:a=b<;>simp only [e,jX,reduceCtorEq,Nat.reduceEqDiff,Nat.reduceAdd,Nat.reduceLT,Nat.reduceLeDiff,Z1]
 ·have:a≠b:=fun e=>by subst e;simp at hb
  simp only [this,jX,reduceCtorEq,Nat.reduceEqDiff,Nat.reduceAdd,Nat.reduceLT,Nat.reduceLeDiff,Z1]
theorem an2 {a b:jc}(hl:a.length≤lim)(hr:∀ v∈a,v.length≤lim)(hab:a.length=b.length){st:St}(h:st.head [0,1,5] st.boxes.length=some ⟨[.pv (.list 1 (a.map bM)),.pv (.list 1 (b.map bM)),.any,.any,.any,.pv (.int .i64 (0:Nat)),.any,.any,.any,.any,.any,.any,.any,.any,.any,.any,.any,.any,.any,.any,.any,.any,.any,.any,.any,.any,.any],[],[],none⟩) :
  den env NU st=if a=b then some (.normal,⟨[.any,.any,.any,.any,.any,.any,.any,.any,.any,.any,.any,.any,.any,.any,.any,.any,.any,.any,.any,.any,.any,.any,.any,.any,.any,.any,.any],[],[],none⟩) else some (.ret,⟨[.any,.any,.any,.any,.pv (.bool false),.any,.any,.any,.any,.any,.any,.any,.any,.any,.any,.any,.any,.any,.any,.any,.any,.any,.any,.any,.any,.any,.any],[],[],none⟩):=by
 unfold NU
 rw [ bG (env:=env) (a.length) (fun i=>⟨[.pv (.list 1 (a.map bM)),.pv (.list 1 (b.map bM)),.any,.any,.any,.pv (.int .i64 i),.any,.any,.any,.any,.any,.any,.any,.any,.any,.any,.any,.any,.any,.any,.any,.any,.any,.any,.any,.any,.any],[],[],none⟩) (fun i=>if a.drop i=b.drop i then some (.normal,⟨[.any,.any,.any,.any,.any,.any,.any,.any,.any,.any,.any,.any,.any,.any,.any,.any,.any,.any,.any,.any,.any,.any,.any,.any,.any,.any,.any],[],[],none⟩) else some (.ret,⟨[.any,.any,.any,.any,.pv (.bool false),.any,.any,.any,.any,.any,.any,.any,.any,.any,.any,.any,.any,.any,.any,.any,.any,.any,.any,.any,.any,.any,.any],[],[],none⟩)) h (fun _=>rfl) (fun _=>rfl) ?_ ?_]
 ·first|rfl|simp only [ZaE,Zba,Zao,Zaj,ZaW,Zca]
 ·intro i rb hi ih
  have hi1:=bH hi hl
  have hj:i<b.length:=by omega
  have F1:((i:Int)<(a.length:Int))=True:=eq_true (by omega)
  have e1:=aqG (b:=b[i]) (hr _ (Zad hi))
  simp only [NT,F1,e1,bM,aC hi,aC hj,zc,ZD hi,ZD hj,aY,reduceCtorEq,Nat.reduceEqDiff,Nat.reduceAdd,Nat.reduceLT,Nat.reduceLeDiff,Z1]
  rw [zt hi,zt hj]
  (try simp only [dV,fF,dX]);refine dD (fun hb=>?_) (fun hb=>?_)<;>try simp only [hb,aY,reduceCtorEq,Nat.reduceEqDiff,Nat.reduceAdd,Nat.reduceLT,Nat.reduceLeDiff,Z1]
  ·rw [ih _ (by simp only [hi1];rfl)]
   simp only [decide_eq_true_eq] at hb
   simp only [hb,Zb4.injEq,true_and]
  ·simp only [decide_eq_false_iff_not] at hb
   simp only [hb,Zb4.injEq,false_and,if_false]
   rfl
 ·intro rb
  simp only [NT,Zar,aY,reduceCtorEq,Nat.reduceEqDiff,Nat.reduceAdd,Nat.reduceLT,Nat.reduceLeDiff,Z1]
  rw [ZaO,hab,ZaO,if_pos rfl]
  rfl
theorem aqH {a b:jc}(hl:a.length≤lim)(hr:∀ v∈a,v.length≤lim):cal env 22 [.list 1 (a.map bM),.list 1 (b.map bM)]=some [(.bool (decide (a=b)),false)]:=by
 rw [aj aqw rfl];simp only [ad1];simp only [start,aH,aK,aF,aJ,aA,aB,aG,aI,Nat.reduceAdd,Nat.reduceSub]
 simp only [aY,reduceCtorEq,Nat.reduceEqDiff,Nat.reduceAdd,Nat.reduceLT,Nat.reduceLeDiff,Z1]
 (try simp only [dV,fF,dX]);refine dD (fun hb=>?_) (fun hb=>?_)<;>try simp only [hb,aY,reduceCtorEq,Nat.reduceEqDiff,Nat.reduceAdd,Nat.reduceLT,Nat.reduceLeDiff,Z1]
 ·have hab:a.length=b.length:=by simp at hb;omega
  rw [an2 hl hr hab]
  rotate_left
  ·rfl
  ·by_cases e:a=b<;>simp only [e,jX,reduceCtorEq,Nat.reduceEqDiff,Nat.reduceAdd,Nat.reduceLT,Nat.reduceLeDiff,Z1]
 ·have:a≠b:=fun e=>by subst e;simp at hb
  simp only [this,jX,reduceCtorEq,Nat.reduceEqDiff,Nat.reduceAdd,Nat.reduceLT,Nat.reduceLeDiff,Z1]
end Go.Proofs.YthccglceomoboaaGreatDoor.V
namespace Go.Proofs.YthccglceomoboaaGreatDoor
noncomputable def iter (env:Env)(f:Nat)(caps:List PV)(stop:Option Nat):Option (List (List PV)):=jV (den env) env f caps stop
def zU (n:Nat)(caps:List PV)(stop:Option Nat):St:=⟨.oM::(caps.map .pv++Zag (n - (caps.length+1)) .any),[],[],some stop⟩
def an3:Ex×St→Option (List (List PV))
 |(.exit _,_)=>none
 |(.pJ _ _,_)=>none
 |(_,st)=>some st.ys
section
variable {env:Env}
theorem TA (st:St):an3 (.normal,st)=some st.ys:=(rfl)
theorem afo (st:St):an3 (.ret,st)=some st.ys:=(rfl)
theorem qL {f:Nat}{fn:dH}{caps:List PV}{stop:Option Nat}(h:env f=some (.code fn))(hl:caps.length+1=fn.nargs)(hr:fn.results.isEmpty=true):iter env f caps stop=(den env fn.body (zU fn.ntmps caps stop)).bind an3:=by
 unfold iter jV
 rw [h]
 simp only [if_pos (Zs hl hr)]
 show (den env fn.body _).bind _=_
 congr 1
 funext ⟨e,st⟩
 cases e<;>rfl
noncomputable def vU (env:Env)(slots:List AV)(ps:List Nat)(assign body:ay)(nb:Nat)(x:List PV)(st:St):Option (Ex×St) :=
 (gy slots ps x).bind fun sl=>(den env assign { st with slots:=sl }).bind fun p=>match p with
  |(.normal,st)=>(den env body st).bind fun p=>match p with
   |(.normal,st)=>if nb≤st.boxes.length then some (.normal,{ st with boxes:=st.boxes.take nb }) else none
   |(.pJ _ _,_)=>none
   |p=>some p
  |_=>none
theorem jF {slots:List AV}{ps:List Nat}{assign body:ay}{nb k:Nat}{x:List PV}{xs:List (List PV)}{st:St} :
  rounds (den env) slots ps assign body nb k (x::xs) st=(vU env slots ps assign body nb x st).bind fun p=>match p with
   |(.normal,st)=>rounds (den env) slots ps assign body nb (k+1) xs st
   |(e,st)=>some (some (e,k+1),st):=by
 conv=>lhs;unfold rounds
 unfold vU
 show (gy slots ps x).bind _=_
 cases gy slots ps x with
 |none=>rfl
 |some sl =>
  simp only [ZaZ]
  show (den env assign _).bind _=_
  cases den env assign { st with slots:=sl } with
  |none=>rfl
  |some p =>
   obtain ⟨e,s⟩:=p
   simp only [ZaZ]
   cases e with
   |normal =>
    simp only
    show (den env body _).bind _=_
    cases den env body s with
    |none=>rfl
    |some p =>
     obtain ⟨e,s⟩:=p
     simp only [ZaZ]
     cases e with
     |normal =>
      simp only
      split<;>rfl
     |exit i=>rfl
     |ret=>rfl
     |pJ t n=>rfl
   |exit i=>rfl
   |ret=>rfl
   |pJ t n=>rfl
theorem Et {slots:List AV}{ps:List Nat}{assign body:ay}{nb:Nat}{e:Ex}{m:Nat}{s:St}:∀ {xs:List (List PV)} {k:Nat} {st:St},rounds (den env) slots ps assign body nb k xs st=some (some (e,m),s) →
  k<m∧m≤k+xs.length∧rounds (den env) slots ps assign body nb k (xs.take (m - k)) st=some (some (e,m),s)
 |[],k,st,h=>by cases h
 |x::xs,k,st,h=>by
  rw [jF] at h
  cases hr:vU env slots ps assign body nb x st with
  |none=>rw [hr] at h;cases h
  |some p =>
   obtain ⟨e1,s1⟩:=p
   rw [hr] at h
   simp only [ZaZ] at h
   cases e1 with
   |normal =>
    obtain ⟨h1,h2,h3⟩:=Et h
    refine ⟨by omega,by simp only [zd];omega,?_⟩
    rw [show m - k=(m - (k+1))+1 by omega,Zbw,jF,hr]
    exact h3
   |exit i =>
    cases h
    refine ⟨by omega,by simp,?_⟩
    rw [show k+1 - k=0+1 by omega,Zbw,jF,hr]
    rfl
   |ret =>
    cases h
    refine ⟨by omega,by simp,?_⟩
    rw [show k+1 - k=0+1 by omega,Zbw,jF,hr]
    rfl
   |pJ t0 n0 =>
    cases h
    refine ⟨by omega,by simp,?_⟩
    rw [show k+1 - k=0+1 by omega,Zbw,jF,hr]
    rfl
theorem ajJ {g:bJ}{ps:List Nat}{assign body:ay}{st st1:St}{f:Nat}{caps:List PV}{xs:List (List PV)}(hg:st.bY g=some (.func f caps))(hi:iter env f caps none=some xs)
  (hr:rounds (den env) (st.slots.map AV.froze) ps assign body st.boxes.length 0 xs { st with slots:=st.slots.map AV.froze }=some (none,st1)):den env (.rng g ps assign body) st=some (.normal,{ st1 with slots:=st.slots.map AV.froze }):=by
 rw [kZ]
 show ranged (den env) env g ps assign body st=_
 unfold ranged
 rw [hg]
 unfold iter at hi
 simp only [Dc,ZaZ,hi,hr]
theorem ajK {g:bJ}{ps:List Nat}{assign body:ay}{st st1:St}{f:Nat}{caps:List PV}{xs:List (List PV)}{e:Ex}{k:Nat}(hg:st.bY g=some (.func f caps))(hi:iter env f caps none=some xs)
  (hr:rounds (den env) (st.slots.map AV.froze) ps assign body st.boxes.length 0 xs { st with slots:=st.slots.map AV.froze }=some (some (e,k),st1)) (hi2:iter env f caps (some k)=some (xs.take k)):den env (.rng g ps assign body) st=some (e,{ st1 with slots:=st.slots.map AV.froze }):=by
 obtain ⟨h1,h2,h3⟩:=Et hr
 rw [kZ]
 show ranged (den env) env g ps assign body st=_
 unfold ranged
 rw [hg]
 unfold iter at hi hi2
 simp only [ZbH] at h3
 have hl:(xs.take k).length=k:=by rw [Zac];omega
 simp only [Dc,ZaZ,hi,hr,hi2,h3,hl,and_self,if_true]
theorem yX (B:Nat→List Box){g:bJ}{ps:List Nat}{assign body:ay}{st:St}{f:Nat}{caps:List PV}{xs:List (List PV)}(hg:st.bY g=some (.func f caps))(hi:iter env f caps none=some xs)(hB:st.boxes=B 0)
  (h:∀ j x,xs[j]?=some x→∀ sl0,∃ sl1,vU env (st.slots.map AV.froze) ps assign body st.boxes.length x ⟨sl0,B j,st.ys,st.stop⟩=some (.normal,⟨sl1,B (j+1),st.ys,st.stop⟩)) :
  den env (.rng g ps assign body) st=some (.normal,⟨st.slots.map AV.froze,B xs.length,st.ys,st.stop⟩):=by
 have key:∀ (l:List (List PV)) (j:Nat),xs.drop j=l→∀ (k:Nat) (sl0:List AV),∃ sl1,rounds (den env) (st.slots.map AV.froze) ps assign body st.boxes.length k l ⟨sl0,B j,st.ys,st.stop⟩=some (none,⟨sl1,B (j+l.length),st.ys,st.stop⟩):=by
  intro l
  induction l with
  |nil=>intro j _ k sl0;exact ⟨sl0,rfl⟩
  |cons x l ih =>
   intro j hj k sl0
   have hx:xs[j]?=some x:=by rw [← List.head?_drop,hj];rfl
   have hd:xs.drop (j+1)=l:=by rw [← List.drop_drop,hj];rfl
   obtain ⟨sl1,q⟩:=h j x hx sl0
   obtain ⟨sl2,q2⟩:=ih (j+1) hd (k+1) sl1
   refine ⟨sl2,?_⟩
   rw [jF,q]
   simp only [ZaZ,q2,zd]
   rw [show j+1+l.length=j+(l.length+1) by omega]
 obtain ⟨sl1,q⟩:=key xs 0 (by simp) 0 (st.slots.map AV.froze)
 rw [← hB,Zaj] at q
 have r:=ajJ hg hi q
 exact r
theorem TB (B:Nat→List Box)(m:Nat){g:bJ}{ps:List Nat}{assign body:ay}{st s:St}{e:Ex}{f:Nat}{caps:List PV}{xs:List (List PV)}(hg:st.bY g=some (.func f caps))(hi:iter env f caps none=some xs)(hi2:iter env f caps (some (m+1))=some (xs.take (m+1)))(hB:st.boxes=B 0)(hm:m<xs.length)
  (h:∀ j x,j<m→xs[j]?=some x→∀ sl0,∃ sl1,vU env (st.slots.map AV.froze) ps assign body st.boxes.length x ⟨sl0,B j,st.ys,st.stop⟩=some (.normal,⟨sl1,B (j+1),st.ys,st.stop⟩))
  (he:e≠.normal) (hl:∀ x,xs[m]?=some x→∀ sl0,∃ sl1,vU env (st.slots.map AV.froze) ps assign body st.boxes.length x ⟨sl0,B m,st.ys,st.stop⟩=some (e,{ s with slots:=sl1 })) :
  den env (.rng g ps assign body) st=some (e,{ s with slots:=st.slots.map AV.froze }):=by
 have key:∀ (d j:Nat),j+d=m→∀ (k:Nat) (sl0:List AV),∃ sl1,rounds (den env) (st.slots.map AV.froze) ps assign body st.boxes.length k (xs.drop j) ⟨sl0,B j,st.ys,st.stop⟩=some (some (e,k+d+1),{ s with slots:=sl1 }):=by
  intro d
  induction d with
  |zero =>
   intro j hj k sl0
   obtain rfl:j=m:=by omega
   rw [zt hm]
   obtain ⟨sl1,q⟩:=hl _ (ZD hm) sl0
   refine ⟨sl1,?_⟩
   rw [jF,q]
   cases e with
   |normal=>exact absurd rfl he
   |exit i=>rfl
   |ret=>rfl
   |pJ t n=>rfl
  |succ d ih =>
   intro j hj k sl0
   have hj':j<xs.length:=by omega
   rw [zt hj']
   obtain ⟨sl1,q⟩:=h j _ (by omega) (ZD hj') sl0
   obtain ⟨sl2,q2⟩:=ih (j+1) (by omega) (k+1) sl1
   refine ⟨sl2,?_⟩
   rw [jF,q]
   simp only [ZaZ,q2]
   rw [show k+1+d+1=k+(d+1)+1 by omega]
 obtain ⟨sl1,q⟩:=key m 0 (by omega) 0 (st.slots.map AV.froze)
 rw [ZaE,← hB,Zaj] at q
 have r:=ajK hg hi q hi2
 exact r
noncomputable def Yb (env:Env)(body:ay)(nb:Nat):Ex×St→Option (Ex×St)
 |(.normal,st)=>(den env body st).bind fun p=>match p with
  |(.normal,st)=>if nb≤st.boxes.length then some (.normal,{ st with boxes:=st.boxes.take nb }) else none
  |(.pJ _ _,_)=>none
  |p=>some p
 |_=>none
def rend (nb:Nat):Ex×St→Option (Ex×St)
 |(.normal,st)=>if nb≤st.boxes.length then some (.normal,{ st with boxes:=st.boxes.take nb }) else none
 |(.pJ _ _,_)=>none
 |p=>some p
theorem aaI (slots:List AV)(ps:List Nat)(assign body:ay)(nb:Nat)(x:List PV)(st:St):vU env slots ps assign body nb x st=(gy slots ps x).bind fun sl=>(den env assign { st with slots:=sl }).bind (Yb env body nb):=by
 unfold vU
 rfl
theorem IG (body:ay)(nb:Nat)(st:St):Yb env body nb (.normal,st)=(den env body st).bind (rend nb):=by
 rfl
theorem TD (nb:Nat)(st:St):rend nb (.normal,st)=if nb≤st.boxes.length then some (.normal,{ st with boxes:=st.boxes.take nb }) else none:=(rfl)
theorem aaJ (nb i:Nat)(st:St):rend nb (.exit i,st)=some (.exit i,st):=(rfl)
theorem afp (nb:Nat)(st:St):rend nb (.ret,st)=some (.ret,st):=(rfl)
theorem afq (slots:List AV):gy slots [] []=some slots:=(rfl)
theorem aaK (slots:List AV)(p:Nat)(ps:List Nat)(v:PV)(vs:List PV):gy slots (p::ps) (v::vs)=gy (slots.set p (.pv v)) ps vs:=(rfl)
theorem afr (v:PV):AV.froze (.pv v)=.pv v:=(rfl)
theorem aaL (sz:Nat)(es:List PV):AV.froze (.row sz es)=.pv (.list sz es):=(rfl)
theorem aaM:AV.froze .any=.any:=(rfl)
theorem aaN (k:Bool)(l:List AV):AV.froze (.lS k l)=.any:=(rfl)
theorem aaO (r:Root)(i j:Nat):AV.froze (.ref r i j)=.any:=(rfl)
theorem aaP (r:Root)(i j:Nat):AV.froze (.pU r i j)=.any:=(rfl)
theorem Xe (i j:Nat):AV.froze (.aX i j)=.aX i j:=(rfl)
theorem afs (f:Nat)(l:List AV):AV.froze (.fn f l)=.fn f l:=(rfl)
theorem aaQ:AV.froze .oM=.oM:=(rfl)
end
def rH:=Zs @aaI (Zs @IG (Zs @TD (Zs @aaJ (Zs @afp (Zs @afq (Zs @aaK (Zs @afr (Zs @aaL (Zs @aaM (Zs @aaN (Zs @aaO (Zs @aaP (Zs @Xe (Zs @afs (Zs @aaQ (Zs @TA @afo))))))))))))))))
end Go.Proofs.YthccglceomoboaaGreatDoor
namespace Go.Proofs.YthccglceomoboaaGreatDoor.V
def dif (a b:List dN)(i:Nat):Bool:=decide (a[i]?≠b[i]?)
def II (a b:List dN)(n:Nat):List Nat:=(Zaw n).filter (dif a b)
def EK (a b:List dN):List Nat:=II a b a.length
def wI (out:List bf)(i:Nat):List bf:=match out.getLast? with
 |some x=>if x.start+x.count=(i:Int) then out.dropLast++[⟨x.start,x.count+1⟩] else out++[⟨i,1⟩]
 |none=>[⟨i,1⟩]
def exts (l:List Nat):List bf:=l.foldl wI []
def vV (a b:List dN):List bf:=exts (EK a b)
theorem Ls (a b:List dN)(n:Nat):II a b (n+1)=if dif a b n then II a b n++[n] else II a b n:=by
 simp only [II,ZbI,ZbB,List.filter_cons,Zdh]
 cases dif a b n<;>simp
theorem iy (pre:List bf)(x:bf)(i:Nat):wI (pre++[x]) i=if x.start+x.count=(i:Int) then pre++[⟨x.start,x.count+1⟩] else pre++[x]++[⟨i,1⟩]:=by
 simp [wI]
theorem qM (l:List Nat)(i:Nat):exts (l++[i])=wI (exts l) i:=by simp [exts]
theorem jJ {α:Type}(l:List α):l=[]∨∃ p x,l=p++[x]:=by
 rcases List.eq_nil_or_concat l with h|⟨p,x,h⟩
 ·exact .inl h
 ·exact .inr ⟨p,x,by rw [h];simp⟩
theorem Dl:∀ (n:Nat) (l:List Nat),l.length=n→∀ i:Nat,∃ pre x,exts (l++[i])=pre++[x]∧x.start+x.count=(i:Int)+1∧0≤x.start∧1≤x.count∧pre.length≤l.length:=by
 intro n
 induction n with
 |zero =>
  intro l hl i
  have:=List.eq_nil_of_length_eq_zero hl
  subst this
  exact ⟨[],⟨i,1⟩,rfl,rfl,by simp,by simp,by simp⟩
 |succ n ih =>
  intro l hl i
  rcases jJ l with rfl|⟨p,j,rfl⟩
  ·simp at hl
  ·obtain ⟨pre,x,e,h1,h2,h3,h4⟩:=ih p (by simpa using hl) j
   rw [qM,e,iy]
   split
   ·rename_i hx
    exact ⟨pre,_,rfl,by simp;omega,h2,by simp;omega,by simp;omega⟩
   ·exact ⟨pre++[x],_,rfl,by simp,by simp,by simp,by simp;omega⟩
theorem ajL {a b:List dN}{n i:Nat}(h:i∈II a b n):i<n:=by
 simp [II] at h;exact h.1
theorem Lu {n:Nat}(h:n≤lim):IntKind.i64.wrap (((n+1:Nat):Int) - 1)=(n:Int):=by
 rw [aP (by unfold lim at h;omega)];omega
theorem an4 {a b:List dN}:cal env 221 [.list 8 (a.map fQ),.list 8 (b.map fQ)]=some [(.func 265 [.cu [.list 8 (a.map fQ)] 0,.cu [.list 8 (b.map fQ)] 0],false)]:=by
 rw [aj anl rfl];simp only [Sj];simp only [start,aH,aK,aF,aJ,aA,aB,aG,aI,Nat.reduceAdd,Nat.reduceSub]
 simp only [aY,reduceCtorEq,Nat.reduceEqDiff,Nat.reduceAdd,Nat.reduceLT,Nat.reduceLeDiff,Z1]
def yI (l:List Nat):List (List PV):=l.map fun (i:Nat)=>[PV.int .i64 (i:Int)]
theorem ajM (l:List Nat)(i:Nat):yI (l++[i])=yI l++[[.int .i64 (i:Int)]]:=by simp [yI]
theorem ajN {a b:List dN}(hl:a.length≤lim)(hab:a.length=b.length):iter env 265 [.cu [.list 8 (a.map fQ)] 0,.cu [.list 8 (b.map fQ)] 0] none=some (yI (EK a b)):=by
 have loop:∀ {st:St} (h:st.head [0,1,2,6,7] st.boxes.length=some ⟨[.oM,.pv (.cu [.list 8 (a.map fQ)] 0),.pv (.cu [.list 8 (b.map fQ)] 0),.any,.any,.any,.pv (.int .i64 a.length),.pv (.int .i64 (0:Nat)),.any,.any,.any,.any,.any,.any,.any,.any,.any,.any,.any,.any,.any,.any,.any,.any,.any,.any],[],yI (II a b 0),some none⟩),
   den env Iw st=some (.normal,⟨[.any,.any,.any,.any,.any,.any,.any,.any,.any,.any,.any,.any,.any,.any,.any,.any,.any,.any,.any,.any,.any,.any,.any,.any,.any,.any],[],yI (II a b a.length),some none⟩):=by
  intro st h
  unfold Iw
  refine bG (env:=env) a.length (fun i=>⟨[.oM,.pv (.cu [.list 8 (a.map fQ)] 0),.pv (.cu [.list 8 (b.map fQ)] 0),.any,.any,.any,.pv (.int .i64 a.length),.pv (.int .i64 i),.any,.any,.any,.any,.any,.any,.any,.any,.any,.any,.any,.any,.any,.any,.any,.any,.any,.any],[],yI (II a b i),some none⟩) (fun _=>some (.normal,⟨[.any,.any,.any,.any,.any,.any,.any,.any,.any,.any,.any,.any,.any,.any,.any,.any,.any,.any,.any,.any,.any,.any,.any,.any,.any,.any],[],yI (II a b a.length),some none⟩)) h (fun _=>rfl) (fun _=>rfl) ?_ ?_
  ·intro i rb hi ih
   have hi1:=bH hi hl
   have hj:i<b.length:=by omega
   have F1:((i:Int)<(a.length:Int))=True:=eq_true (by omega)
   by_cases hd:a[i]=b[i]
   ·simp only [BJ,F1,fQ,aC hi,aC hj,zc,ZD hi,ZD hj,yg,iF,pz,hd,decide_true,aY,reduceCtorEq,Nat.reduceEqDiff,Nat.reduceAdd,Nat.reduceLT,Nat.reduceLeDiff,Z1]
    rw [ih _ (by simp only [hi1];rw [Ls,if_neg (by simp [dif,ZD hi,ZD hj,hd])];rfl)]
   ·have hdd:dif a b i=true:=by simp [dif,ZD hi,ZD hj,hd]
    have hdf:=decide_eq_false hd
    simp only [BJ,F1,fQ,aC hi,aC hj,zc,ZD hi,ZD hj,yg,iF,pz,hdf,aY,reduceCtorEq,Nat.reduceEqDiff,Nat.reduceAdd,Nat.reduceLT,Nat.reduceLeDiff,Z1]
    rw [ih _ (by simp only [hi1];rw [Ls,if_pos hdd,ajM];rfl)]
  ·intro rb
   simp only [BJ,Zar,aY,reduceCtorEq,Nat.reduceEqDiff,Nat.reduceAdd,Nat.reduceLT,Nat.reduceLeDiff,Z1]
   rfl
 rw [qL anL rfl rfl]
 simp only [Tf,zU,aH,aK,aF,aJ,aA,aB,aG,aI,Nat.reduceAdd,Nat.reduceSub]
 simp only [aY,reduceCtorEq,Nat.reduceEqDiff,Nat.reduceAdd,Nat.reduceLT,Nat.reduceLeDiff,Z1]
 rw [loop]
 rotate_left
 ·rfl
 ·rfl
def TF (l:List Nat):Int:=match l.getLast? with
 |some i=>i+1
 |none=>-1
theorem IJ (l:List Nat)(i:Nat):TF (l++[i])=(i:Int)+1:=by simp [TF]
theorem TG {a b:List dN}{j:Nat}{i:Nat}(h:(EK a b)[j]?=some i):i<a.length∧j≤i∧∀ k∈(EK a b).take j,k<i:=by
 have hs:(EK a b).Pairwise (·<·):=(ZcE (n:=a.length)).filter _
 obtain ⟨hj,rfl⟩:=za.1 h
 refine ⟨ajL (Zad hj),?_,?_⟩
 ·have:∀ (l:List Nat),l.Pairwise (·<·)→∀ (j:Nat) (hj:j<l.length),j≤l[j]:=by
   intro l
   induction l with
   |nil=>intro _ j hj;simp at hj
   |cons x l ih =>
    intro hp j hj
    cases j with
    |zero=>simp
    |succ j =>
     have h1:=ih (Zb5.1 hp).2
     simp only [zd,Nat.add_lt_add_iff_right] at hj
     simp only [Zdo]
     cases j with
     |zero=>have:=(Zb5.1 hp).1 l[0] (Zad hj);omega
     |succ j =>
      have h2:=h1 (j+1) hj
      have h3:∀ (m:Nat) (hm:m<l.length),x+m+1≤l[m]:=by
       intro m
       induction m with
       |zero=>intro hm;have:=(Zb5.1 hp).1 l[0] (Zad hm);omega
       |succ m ihm =>
        intro hm
        have:=ihm (by omega)
        have h4:=ZbD.1 (Zb5.1 hp).2 m (m+1) (by omega) hm (by omega)
        omega
      have:=h3 (j+1) hj
      omega
  exact this _ hs j hj
 ·intro k hk
  obtain ⟨m,hm,rfl⟩:=ZdB.1 hk
  rw [Zc3]
  simp only [Zac] at hm
  exact ZbD.1 hs m j (by omega) hj (by omega)
theorem an5 {a b:List dN}(hl:a.length≤lim)(hab:a.length=b.length):cal env 159 [.list 8 (a.map fQ),.list 8 (b.map fQ)]=some [(.list 2 ((vV a b).map aU),true)]:=by
 have e1:=an4 (a:=a) (b:=b)
 rw [aj am0 rfl];simp only [Rw];simp only [start,aH,aK,aF,aJ,aA,aB,aG,aI,Nat.reduceAdd,Nat.reduceSub]
 simp only [e1,aY,reduceCtorEq,Nat.reduceEqDiff,Nat.reduceAdd,Nat.reduceLT,Nat.reduceLeDiff,Z1]
 rw [yX (env:=env) (fun j=>[⟨false,[.row 2 ((exts ((EK a b).take j)).map aU)]⟩,⟨false,[.pv (.int .i64 (TF ((EK a b).take j)))]⟩]) (xs:=yI (EK a b)) rfl (ajN hl hab) rfl ?_]
 ·simp only [yI,zb,ZaL,rH,aY,reduceCtorEq,Nat.reduceEqDiff,Nat.reduceAdd,Nat.reduceLT,Nat.reduceLeDiff,Z1]
  rfl
 ·intro j x hx sl0
  simp only [yI,zc,Zaq] at hx
  obtain ⟨i,hi,rfl⟩:=hx
  obtain ⟨k1,k2,k3⟩:=TG hi
  have hlim:lim=1073741824:=rfl
  have hj:=(za.1 hi).1
  have ht:(EK a b).take (j+1)=(EK a b).take j++[i]:=by rw [ZbW,hi];rfl
  have hlen:((EK a b).take j).length=j:=by simp;omega
  rw [ht]
  rcases jJ ((EK a b).take j) with h0|⟨p,q,h0⟩
  ·have F2:((i:Int)==-1)=false:=by simp
   have F3:(0+1≤lim)=True:=eq_true (by omega)
   have F4:IntKind.i64.wrap ((i:Int)+1)=(i:Int)+1:=aP (by omega)
   have e0:exts ([]:List Nat)=[]:=rfl
   have e1:TF ([]:List Nat)=-1:=rfl
   have e2:exts [i]=[⟨i,1⟩]:=rfl
   have e3:TF [i]=(i:Int)+1:=rfl
   refine ⟨?_,?_⟩
   rotate_left
   ·simp only [h0,Bv,Bz,F2,F3,F4,e0,e1,e2,e3,aU,Zao,rH,aY,reduceCtorEq,Nat.reduceEqDiff,Nat.reduceAdd,Nat.reduceLT,Nat.reduceLeDiff,Z1]
    rfl
  ·obtain ⟨pre,⟨s,c⟩,e0,h1,h2,h3,h4⟩:=Dl _ p rfl q
   have hqi:q<i:=k3 q (by rw [h0];simp)
   simp only at h1 h2 h3
   have hpl:p.length+1=j:=by rw [h0] at hlen;simpa using hlen
   have F3:=Lu (n:=pre.length) (by omega)
   have F4:IntKind.i64.wrap ((i:Int)+1)=(i:Int)+1:=aP (by omega)
   have F5:IntKind.i64.wrap (c+1)=c+1:=aP (by omega)
   have F6:(pre.length+1+1≤lim)=True:=eq_true (by omega)
   have F7:index (.int .i64 (pre.length:Int)) (pre.length+1)=some pre.length:=aC (by omega)
   by_cases hc:(i:Int)=(q:Int)+1
   ·have F8:((i:Int)==(q:Int)+1)=true:=by simpa using hc
    have e2:exts (p++[q]++[i])=pre++[⟨s,c+1⟩]:=by rw [qM,e0,iy,if_pos (by simp only;omega)]
    refine ⟨?_,?_⟩
    rotate_left
    ·simp only [h0,Bv,Bz,IJ,e0,e2,F3,F4,F5,F6,F7,F8,aU,ZaC,Zap,Zao,rH,aY,reduceCtorEq,Nat.reduceEqDiff,Nat.reduceAdd,Nat.reduceLT,Nat.reduceLeDiff,Z1]
     rfl
   ·have F8:((i:Int)==(q:Int)+1)=false:=by simpa using hc
    have e2:exts (p++[q]++[i])=pre++[⟨s,c⟩]++[⟨i,1⟩]:=by rw [qM,e0,iy,if_neg (by simp only;omega)]
    refine ⟨?_,?_⟩
    rotate_left
    ·simp only [h0,Bv,Bz,IJ,e0,e2,F3,F4,F5,F6,F7,F8,aU,ZaC,Zap,Zao,rH,aY,reduceCtorEq,Nat.reduceEqDiff,Nat.reduceAdd,Nat.reduceLT,Nat.reduceLeDiff,Z1]
     rfl
def ext (p:Nat→Bool)(n:Nat):List bf:=exts ((Zaw n).filter p)
theorem TI (p:Nat→Bool):ext p 0=[]:=rfl
theorem nK (p:Nat→Bool)(n:Nat):ext p (n+1)=if p n then wI (ext p n) n else ext p n:=by
 unfold ext
 rw [ZbI,ZbB]
 cases h:p n
 ·simp [h]
 ·rw [Zcv h,Zdh,qM];rfl
theorem ajO {p:Nat→Bool}{n:Nat}(h:n=0∨p (n - 1)=false):wI (ext p n) n=ext p n++[⟨(n:Int),1⟩]:=by
 unfold ext
 rcases jJ ((Zaw n).filter p) with h0|⟨l,j,h0⟩
 ·rw [h0];rfl
 ·obtain ⟨pre,⟨s,c⟩,e0,h1,h2,h3,h4⟩:=Dl _ l rfl j
  have hmem:j∈(Zaw n).filter p:=by rw [h0];simp
  obtain ⟨q1,q2⟩:=Zdf.1 hmem
  have hj:=ZaX.1 q1
  simp only at h1
  rw [h0,e0,iy,if_neg]
  intro hh
  simp only at hh
  have:j=n - 1:=by omega
  rcases h with h|h
  ·omega
  ·rw [← this,q2] at h;cases h
theorem yY {p:Nat→Bool}{a:Nat}:∀ k,(∀ s,a≤s→s<a+k→p s=false)→ext p (a+k)=ext p a
 |0,_=>rfl
 |k+1,h=>by
  rw [← Za9,nK,h (a+k) (by omega) (by omega),if_neg (by simp)]
  exact yY k fun s h1 h2=>h s h1 (by omega)
theorem IK {p:Nat→Bool}{a:Nat}{pre:List bf}{s0:Int}(h0:ext p a=pre++[⟨s0,a - s0⟩]):∀ k,(∀ s,a≤s→s<a+k→p s=true)→ext p (a+k)=pre++[⟨s0,((a+k:Nat):Int) - s0⟩]
 |0,_=>h0
 |k+1,h=>by
  rw [← Za9,nK,h (a+k) (by omega) (by omega),if_pos rfl,IK h0 k fun s h1 h2=>h s h1 (by omega),iy,if_pos (by simp only;omega)]
  congr 2
  simp only [bf.mk.injEq,true_and]
  omega
theorem aaR {p:Nat→Bool}{a k:Nat}(hn:a=0∨p (a - 1)=false)(h:∀ s,a≤s→s<a+(k+1)→p s=true):ext p (a+(k+1))=ext p a++[⟨(a:Int),((a+(k+1):Nat):Int) - a⟩]:=by
 have h1:ext p (a+1)=ext p a++[⟨(a:Int),((a+1:Nat):Int) - a⟩]:=by
  rw [nK,h a (zg _) (by omega),if_pos rfl,ajO hn]
  congr 2
  simp only [bf.mk.injEq,true_and]
  omega
 have:=IK (a:=a+1) h1 k fun s h2 h3=>h s (by omega) (by omega)
 rw [show a+(k+1)=a+1+k by omega]
 exact this
theorem oG {p q:Nat→Bool}{n:Nat}(h:∀ s,s<n→p s=q s):ext p n=ext q n:=by
 unfold ext
 rw [Zb7 fun s hs=>h s (ZaX.1 hs)]
def dep (i:Nat)(s:Nat):List End→Int
 |[]=>0
 |x::l=>(if x.list=i∧x.pos≤s then x.step else 0)+dep i s l
def tot (i:Nat):List End→Int
 |[]=>0
 |x::l=>(if x.list=i then x.step else 0)+tot i l
theorem yZ (i s:Nat):∀ l m:List End,dep i s (l++m)=dep i s l+dep i s m
 |[],m=>by simp [dep]
 |x::l,m=>by simp only [Zbq,dep,yZ i s l m];omega
theorem Yc {i s:Nat}:∀ {l:List End},(∀ x∈l,x.pos≤s)→dep i s l=tot i l
 |[],_=>rfl
 |x::l,h=>by
  have h1:=h x (by simp)
  have ih:=Yc (i:=i) (s:=s) (l:=l) fun y hy=>h y (by simp [hy])
  simp only [dep,tot,ih,h1,and_true]
theorem BM {i s:Nat}:∀ {l:List End},(∀ x∈l,s<x.pos)→dep i s l=0
 |[],_=>rfl
 |x::l,h=>by
  have h1:=h x (by simp)
  have ih:=BM (i:=i) (s:=s) (l:=l) fun y hy=>h y (by simp [hy])
  simp only [dep,ih]
  rw [if_neg (by omega)];rfl
theorem BN (i:Nat):∀ l m:List End,tot i (l++m)=tot i l+tot i m
 |[],m=>by simp [tot]
 |x::l,m=>by simp only [Zbq,tot,BN i l m];omega
def lq (keep:Bool→Bool→Bool)(l:List End)(s:Nat):Bool:=keep (decide (dep 0 s l > 0)) (decide (dep 1 s l > 0))
def jL (x:End):List End→Bool
 |[]=>false
 |y::_=>decide (y.pos=x.pos)
def Dn (keep:Bool→Bool→Bool):List End→Int→Int→Int→Bool→List bf
 |[],_,_,_,_=>[]
 |x::l,d0,d1,st,ins =>
  if jL x l then Dn keep l (if x.list=0 then d0+x.step else d0) (if x.list=1 then d1+x.step else d1) st ins
  else
   (if !keep (decide ((if x.list=0 then d0+x.step else d0) > 0)) (decide ((if x.list=1 then d1+x.step else d1) > 0))&&ins then [⟨st,x.pos - st⟩] else []) ++
   Dn keep l (if x.list=0 then d0+x.step else d0) (if x.list=1 then d1+x.step else d1)
    (if keep (decide ((if x.list=0 then d0+x.step else d0) > 0)) (decide ((if x.list=1 then d1+x.step else d1) > 0))&&!ins then x.pos else st)
    (keep (decide ((if x.list=0 then d0+x.step else d0) > 0)) (decide ((if x.list=1 then d1+x.step else d1) > 0)))
def Asc:List End→Prop
 |[]=>True
 |[_]=>True
 |x::y::l=>x.pos≤y.pos∧Asc (y::l)
theorem Asc.tail {x:End}{l:List End}(h:Asc (x::l)):Asc l:=by
 cases l with
 |nil=>trivial
 |cons y l=>exact h.2
theorem Asc.le {x:End}:∀ {l:List End},Asc (x::l)→∀ y∈l,x.pos≤y.pos
 |[],_,y,hy=>by cases hy
 |z::l,h,y,hy=>by
  rcases ZaJ.1 hy with rfl|hy
  ·exact h.1
  ·exact zR h.1 (Asc.le h.2 y hy)
def atStart (N:Nat):List End→Nat→Prop
 |[],a=>a=N
 |x::_,a=>a=x.pos
theorem y5 {keep:Bool→Bool→Bool}(hk:keep false false=false){L:List End}{N:Nat}(hN:∀ x∈L,x.pos≤N)(h0:tot 0 L=0)(h1:tot 1 L=0) :
  ∀ (R P:List End) (out:List bf) (st:Int) (ins:Bool) (a:Nat),L=P++R→Asc R→(∀ x∈P,∀ y∈R,x.pos≤y.pos)→(∀ x∈P,x.pos≤a) →
   atStart N R a→ext (lq keep L) a=out++(if ins then [⟨st,a - st⟩] else [])→(a=0∨ins=true∨lq keep L (a - 1)=false)→(R=[]→ins=false)→(a=0→ins=false) →
   ext (lq keep L) N=out++Dn keep R (tot 0 P) (tot 1 P) st ins
 |[],P,out,st,ins,a,hL,_,_,_,ha,he,hi,hr,_=>by
  have ha:a=N:=ha
  rw [hr rfl] at he
  rw [ha] at he
  simpa [Dn] using he
 |x::l,P,out,st,ins,a,hL,hs,hP,hPa,ha,he,hi,_,hz=>by
  have ha:a=x.pos:=ha
  subst ha
  have hL2:L=(P++[x])++l:=by rw [hL];simp
  have t0:tot 0 (P++[x])=(if x.list=0 then tot 0 P+x.step else tot 0 P):=by
   rw [BN];simp only [tot];split<;>omega
  have t1:tot 1 (P++[x])=(if x.list=1 then tot 1 P+x.step else tot 1 P):=by
   rw [BN];simp only [tot];split<;>omega
  have hP2:∀ z∈P++[x],∀ y∈l,z.pos≤y.pos:=by
   intro z hz y hy
   rcases ZaB.1 hz with hz|hz
   ·exact hP z hz y (by simp [hy])
   ·simp only [Zat] at hz;rw [hz];exact hs.le y hy
  have hPx:∀ z∈P++[x],z.pos≤x.pos:=by
   intro z hz
   rcases ZaB.1 hz with hz|hz
   ·exact hP z hz x (by simp)
   ·simp only [Zat] at hz;rw [hz];exact zg _
  unfold Dn
  rw [← t0,← t1]
  by_cases hn:jL x l=true
  ·rw [if_pos hn]
   cases l with
   |nil=>simp [jL] at hn
   |cons y l =>
    have hy:y.pos=x.pos:=by simpa [jL] using hn
    exact y5 hk hN h0 h1 (y::l) (P++[x]) out st ins x.pos hL2 hs.tail hP2 hPx hy.symm he hi (fun e=>by cases e) hz
  ·rw [if_neg hn]
   -- the next place
   obtain ⟨b,hb,hbl,hbx,hbm⟩:∃ b,x.pos≤b∧(∀ y∈l,b≤y.pos)∧(l≠[]→x.pos<b)∧atStart N l b:=by
    cases l with
    |nil=>exact ⟨N,hN x (by rw [hL];simp),fun y hy=>(by cases hy),fun h=>absurd rfl h,rfl⟩
    |cons y l =>
     have hy:y.pos≠x.pos:=by simpa [jL] using hn
     have:=hs.1
     exact ⟨y.pos,hs.1,fun z hz=>by
      rcases ZaJ.1 hz with rfl|hz
      ·exact zg _
      ·exact hs.tail.le z hz,fun _=>by omega,rfl⟩
   have hconst:∀ s,x.pos≤s→s<b→lq keep L s=keep (decide (tot 0 (P++[x]) > 0)) (decide (tot 1 (P++[x]) > 0)):=by
    intro s hs1 hs2
    unfold lq
    have e:∀ i,dep i s L=tot i (P++[x]):=by
     intro i
     rw [hL2,yZ,Yc (fun z hz=>by have:=hPx z hz;omega),BM (fun z hz=>by have:=hbl z hz;omega)]
     omega
    rw [e 0,e 1]
   have hlast:l=[]→keep (decide (tot 0 (P++[x]) > 0)) (decide (tot 1 (P++[x]) > 0))=false:=by
    intro hl
    have e0:tot 0 (P++[x])=0:=by rw [← h0,hL2,hl,ZaH]
    have e1:tot 1 (P++[x])=0:=by rw [← h1,hL2,hl,ZaH]
    rw [e0,e1]
    exact hk
   have hPb:∀ z∈P++[x],z.pos≤b:=fun z hz=>zR (hPx z hz) hb
   obtain ⟨k,rfl⟩:∃ k,b=x.pos+k:=⟨b - x.pos,by omega⟩
   generalize keep (decide (tot 0 (P++[x]) > 0)) (decide (tot 1 (P++[x]) > 0))=now at *
   have alx:k≠0→lq keep L (x.pos+k - 1)=now:=fun hk0=>hconst _ (by omega) (by omega)
   cases now with
   |false =>
    have hf:=yY (p:=lq keep L) (a:=x.pos) k fun s q1 q2=>hconst s q1 q2
    cases ins with
    |false =>
     simp only [ZbM,Zbm,zj,if_false,ZaW,ZbS,ZaS,ZaH,if_true] at he ⊢
     refine y5 hk hN h0 h1 l (P++[x]) out _ false (x.pos+k) hL2 hs.tail hP2 hPb hbm ?_ ?_ (fun _=>rfl) (fun _=>rfl)
     ·rw [hf,he];simp
     ·by_cases hk0:k=0
      ·subst hk0
       rcases hi with hi|hi|hi
       ·exact .inl hi
       ·cases hi
       ·exact .inr (.inr hi)
      ·exact .inr (.inr (alx hk0))
    |true =>
     simp only [ZbM,Zai,if_true,ZbT,Zbm,ZaS,zj,if_false] at he ⊢
     rw [← Zam]
     by_cases hk0:k=0
     ·subst hk0
      have hl:l=[]:=by
       cases l with
       |nil=>rfl
       |cons y l=>have:=hbx (by simp);omega
      subst hl
      have hb2:x.pos+0=N:=hbm
      simp only [Dn,ZaH]
      rw [← hb2]
      exact he
     ·refine y5 hk hN h0 h1 l (P++[x]) _ _ false (x.pos+k) hL2 hs.tail hP2 hPb hbm ?_ (.inr (.inr (alx hk0))) (fun _=>rfl) (fun _=>rfl)
      rw [hf,he];simp
   |true =>
    have hl:l≠[]:=fun e=>by have:=hlast e;cases this
    have hk1:=hbx hl
    obtain ⟨j,rfl⟩:∃ j,k=j+1:=⟨k - 1,by omega⟩
    cases ins with
    |false =>
     simp only [ZbT,ZaS,zj,if_false,ZaW,ZbM,Zai,if_true,ZaH] at he ⊢
     refine y5 hk hN h0 h1 l (P++[x]) out _ true (x.pos+(j+1)) hL2 hs.tail hP2 hPb hbm ?_ (.inr (.inl rfl)) (fun e=>absurd e hl) (fun e=>by omega)
     have hi2:x.pos=0∨lq keep L (x.pos - 1)=false:=by
      rcases hi with hi|hi|hi
      ·exact .inl hi
      ·cases hi
      ·exact .inr hi
     rw [aaR hi2 fun s q1 q2=>hconst s q1 q2,he]
     simp
    |true =>
     simp only [ZbT,ZaS,zj,if_false,ZaW,Zbm,if_true] at he ⊢
     refine y5 hk hN h0 h1 l (P++[x]) out st true (x.pos+(j+1)) hL2 hs.tail hP2 hPb hbm ?_ (.inr (.inl rfl)) (fun e=>absurd e hl) (fun e=>by omega)
     rw [IK he (j+1) fun s q1 q2=>hconst s q1 q2]
     simp
theorem aft {keep:Bool→Bool→Bool}(hk:keep false false=false){L:List End}{N:Nat}(hs:Asc L)(hN:∀ x∈L,x.pos≤N)(h0:tot 0 L=0)(h1:tot 1 L=0) :
  Dn keep L 0 0 0 false=ext (lq keep L) N:=by
 cases L with
 |nil =>
  have:ext (lq keep ([]:List End)) (0+N)=ext (lq keep []) 0:=yY N fun s _ _=>hk
  rw [Zaj] at this
  rw [this];rfl
 |cons x l =>
  have hb:ext (lq keep (x::l)) (0+x.pos)=ext (lq keep (x::l)) 0:=yY x.pos fun s _ h2=>by
   unfold lq
   have e:∀ i,dep i s (x::l)=0:=fun i=>BM fun y hy=>by
    rcases ZaJ.1 hy with rfl|hy
    ·omega
    ·have:=hs.le y hy;omega
   rw [e 0,e 1]
   exact hk
  rw [Zaj] at hb
  have:=y5 hk hN h0 h1 (x::l) [] [] 0 false x.pos rfl hs (fun z hz=>by cases hz) (fun z hz=>by cases hz) rfl (by rw [hb];rfl) (by
   by_cases h:x.pos=0
   ·exact .inl h
   ·refine .inr (.inr ?_)
    unfold lq
    have e:∀ i,dep i (x.pos - 1) (x::l)=0:=fun i=>BM fun y hy=>by
     rcases ZaJ.1 hy with rfl|hy
     ·omega
     ·have:=hs.le y hy;omega
    rw [e 0,e 1]
    exact hk) (fun e=>by cases e) (fun _=>rfl)
  rw [this];rfl
abbrev Wd:=BitVec 64
structure Bm where
 size:Int
 ws:List Wd
 deriving DecidableEq
def eW (w:Wd):PV:=.int .u64 (w.toNat:Int)
def y7 (b:Bm):PV:=.agg [.int .i64 b.size,.list 1 (b.ws.map eW)]
def bit (ws:List Wd)(i:Nat):Bool:=(ws.getD (i / 64) 0).getLsbD (i % 64)
theorem IL {ws:List Wd}{k:Nat}(h:k<ws.length){j:Nat}(hj:j<64):bit ws (64*k+j)=ws[k].getLsbD j:=by
 unfold bit
 have e1:(64*k+j) / 64=k:=by omega
 have e2:(64*k+j) % 64=j:=by omega
 rw [e1,e2];simp [h]
theorem IQ {ws:List Wd}{i:Nat}(h:i / 64<ws.length):bit ws i=ws[i / 64].getLsbD (i % 64):=by
 unfold bit;simp [h]
theorem BO {ws:List Wd}{i:Nat}(h:64*ws.length≤i):bit ws i=false:=by
 unfold bit
 have:ws.length≤i / 64:=by omega
 rw [zP,List.getElem?_eq_none this];simp
theorem an6 {a b:List Wd}(hl:a.length=b.length)(h:∀ i,i<64*a.length→bit a i=bit b i):a=b:=by
 apply Za6 hl
 intro k h1 h2
 apply Zcw
 intro j hj
 rw [← IL h1 hj,← IL h2 hj,h _ (by omega)]
theorem aaS (w:Wd):Zau 64 (w.toNat:Int)=w:=by
 apply ZcL
 have:=w.isLt
 rw [BitVec.toNat_ofInt]
 omega
theorem afu (n:Int):IntKind.u64.wrap n=n % 2 ^ 64:=by
 simp only [IntKind.wrap,IntKind.bits,IntKind.signed,ZaS,zj,if_false]
theorem Xf (w:Wd):IntKind.u64.wrap (w.toNat:Int)=(w.toNat:Int):=by
 have:=w.isLt
 simp only [IntKind.wrap,IntKind.bits,IntKind.signed,ZaS,zj,if_false]
 omega
theorem auc (a b:Wd):IntKind.u64.wrap ((Zau IntKind.u64.bits (a.toNat:Int) ||| Zau IntKind.u64.bits (b.toNat:Int)).toNat:Int)=((a ||| b).toNat:Int):=by
 show IntKind.u64.wrap ((Zau 64 (a.toNat:Int) ||| Zau 64 (b.toNat:Int)).toNat:Int)=_
 rw [aaS,aaS,Xf]
theorem afv (a b:Wd):IntKind.u64.wrap ((Zau IntKind.u64.bits (a.toNat:Int) &&& Zau IntKind.u64.bits (b.toNat:Int)).toNat:Int)=((a &&& b).toNat:Int):=by
 show IntKind.u64.wrap ((Zau 64 (a.toNat:Int) &&& Zau 64 (b.toNat:Int)).toNat:Int)=_
 rw [aaS,aaS,Xf]
theorem afw (a b:Wd):IntKind.u64.wrap ((Zau IntKind.u64.bits (a.toNat:Int) &&& ~~~Zau IntKind.u64.bits (b.toNat:Int)).toNat:Int)=((a &&& ~~~b).toNat:Int):=by
 show IntKind.u64.wrap ((Zau 64 (a.toNat:Int) &&& ~~~Zau 64 (b.toNat:Int)).toNat:Int)=_
 rw [aaS,aaS,Xf]
theorem afx (w:Wd){s:Int}{n:Nat}(hs:s=(n:Int)):(w.toNat:Int).fdiv (2 ^ (min s.toNat IntKind.u64.bits))=((w >>> n).toNat:Int):=by
 subst hs
 rw [BitVec.toNat_ushiftRight,Nat.shiftRight_eq_div_pow,Zav]
 have hw:=w.isLt
 show (w.toNat:Int).fdiv (2 ^ (min n 64))=_
 by_cases h:n≤64
 ·have h2:(0:Int)≤2 ^ n:=by have:=Int.natCast_nonneg (2 ^ n);push_cast at this;exact this
  rw [Za4 h,Zc1 _ h2]
  push_cast
  rfl
 ·rw [ZcH (by omega),Zc1 _ (by decide)]
  have h1:w.toNat / 2 ^ n=0:=Nat.div_eq_of_lt (Nat.lt_of_lt_of_le hw (ZdC (by decide) (by omega)))
  rw [h1]
  omega
theorem aqI (w:Wd){s:Int}{n:Nat}(hs:s=(n:Int)):IntKind.u64.wrap ((w.toNat:Int)*2 ^ (min s.toNat IntKind.u64.bits))=((w <<< n).toNat:Int):=by
 subst hs
 rw [BitVec.toNat_shiftLeft,Nat.shiftLeft_eq,Zav]
 have hw:=w.isLt
 rw [afu]
 show ((w.toNat:Int)*2 ^ (min n 64)) % 2 ^ 64=_
 by_cases h:n≤64
 ·have e2:((2 ^ n:Nat):Int)=2 ^ n:=by push_cast;rfl
  have e3:((2 ^ 64:Nat):Int)=2 ^ 64:=by decide
  rw [Za4 h,Int.natCast_emod,Int.natCast_mul,e2,e3]
 ·rw [ZcH (by omega)]
  have e:2 ^ n=2 ^ 64*2 ^ (n - 64):=by rw [← Nat.pow_add];congr 1;omega
  have:w.toNat*2 ^ n % 2 ^ 64=0:=by
   rw [e,Nat.mul_left_comm];exact Nat.mul_mod_right _ _
  rw [this]
  exact Int.mul_emod_left _ _
theorem aqJ (a b:Wd):IntKind.u64.wrap ((a.toNat:Int) - (b.toNat:Int))=((a - b).toNat:Int):=by
 have h1:=a.isLt
 have h2:=b.isLt
 simp only [IntKind.wrap,IntKind.bits,IntKind.signed,ZaS,zj,if_false]
 rw [Zd1]
 omega
theorem afy (a b:Wd):((a.toNat:Int)==(b.toNat:Int))=decide (a=b):=by
 by_cases h:a=b
 ·subst h;simp
 ·have:a.toNat≠b.toNat:=fun e=>h (ZcL e)
  simp [h];omega
def wJ (k:Nat)(a b:Int):Wd :=
 if max (a - 64*(k:Int)) 0 ≥ min (b - 64*(k:Int)) 64 then 0
 else (ZcR 64 >>> (64 - (min (b - 64*(k:Int)) 64 - max (a - 64*(k:Int)) 0)).toNat) <<< (max (a - 64*(k:Int)) 0).toNat
theorem IU (k:Nat)(a b:Int){j:Nat}(hj:j<64):(wJ k a b).getLsbD j=decide (a≤64*(k:Int)+j∧64*(k:Int)+j<b):=by
 unfold wJ
 split
 ·rename_i h
  rw [show (0:Wd).getLsbD j=false by simp]
  symm
  apply decide_eq_false
  omega
 ·rename_i h
  rw [BitVec.getLsbD_shiftLeft,ZbU,BitVec.getLsbD_allOnes]
  rw [Bool.eq_iff_iff]
  simp only [ZZ,decide_eq_true_eq,ZaN,decide_eq_false_iff_not]
  omega
def bitsOf (w:Wd):List Nat:=(Zaw 64).filter fun j=>w.getLsbD j
theorem aaT:bitsOf 0=[]:=by
 unfold bitsOf
 rw [Zb6]
 intro j _
 simp
theorem Yd {w:Wd}(h:w≠0):Lib.ctz 64 w.toNat<64∧(∀ j,j<Lib.ctz 64 w.toNat→w.getLsbD j=false)∧w.getLsbD (Lib.ctz 64 w.toNat)=true∧∀ j,j<64→(w &&& (w - 1)).getLsbD j=(w.getLsbD j&&decide (j≠Lib.ctz 64 w.toNat)):=by
 have h0:0<w.toNat:=by
  rcases Nat.eq_zero_or_pos w.toNat with e|e
  ·exact absurd (ZcL (by simpa using e)) h
  ·exact e
 have hl:Lib.ctz 64 w.toNat=Lib.ctzFrom 64 w.toNat:=by unfold Lib.ctz;rw [if_neg (by omega)]
 rw [hl]
 obtain ⟨m,h1,h2⟩:=Lib.ctzFrom_spec 64 w.toNat h0 w.isLt
 generalize Lib.ctzFrom 64 w.toNat=c at h1 h2
 have hbit:∀ j,w.getLsbD j=if j<c then false else (2*m+1).testBit (j - c):=fun j=>by
  rw [← ZdD,h1,Nat.testBit_two_pow_mul]
  by_cases hc:j<c
  ·rw [if_pos hc,decide_eq_false (by omega),ZaS]
  ·rw [if_neg hc,decide_eq_true (by omega),Zaf]
 have hsub:(w - 1).toNat=2 ^ c*(2*m)+(2 ^ c - 1):=by
  have hp:0<2 ^ c:=Nat.pow_pos (by decide)
  rw [Zd1]
  have:=w.isLt
  have e1:(1:Wd).toNat=1:=rfl
  rw [e1,show 2 ^ 64 - 1+w.toNat=(w.toNat - 1)+2 ^ 64 by omega,Nat.add_mod_right,Zcf (by omega),h1,Nat.mul_add,Nat.mul_one]
  omega
 have aqK:∀ j,(w - 1).getLsbD j=if j<c then true else (2*m).testBit (j - c):=fun j=>by
  rw [← ZdD,hsub]
  have hp:2 ^ c - 1<2 ^ c:=by have:0<2 ^ c:=Nat.pow_pos (by decide);omega
  by_cases hc:j<c
  ·rw [if_pos hc,ZcW _ hp,if_pos hc,Nat.testBit_two_pow_sub_one]
   simp [hc]
  ·rw [if_neg hc,ZcW _ hp,if_neg hc]
 refine ⟨h2,fun j hj=>by rw [hbit,if_pos hj],by rw [hbit,if_neg (Nat.lt_irrefl _),ZbO];simp,fun j hj=>?_⟩
 rw [Zcq,hbit,aqK]
 by_cases hc:j<c
 ·simp [hc]
 ·rw [if_neg hc,if_neg hc]
  by_cases he:j=c
  ·subst he;simp
  ·obtain ⟨d,hd⟩:∃ d,j - c=d+1:=⟨j - c - 1,by omega⟩
   rw [hd,Zd2,Zd2,show (2*m+1) / 2=m by omega,show 2*m / 2=m by omega]
   simp [he]
theorem Ox {p q:Nat→Bool}{c n:Nat}(hc:c<n)(hlow:∀ j,j<c→p j=false)(hp:p c=true)(hq:∀ j,j<n→q j=(p j&&decide (j≠c))):(Zaw n).filter p=c::(Zaw n).filter q:=by
 have e:Zaw n=Zaw c++(c::(Zaw (n - c - 1)).map (c+1+·)):=by
  apply Za6
  ·simp;omega
  ·intro i h1 h2
   simp only [Zb8] at h1
   rw [ZbC,List.getElem_append]
   split
   ·simp
   ·rename_i h
    simp only [Zb8] at h ⊢
    obtain ⟨d,hd⟩:∃ d,i=c+d:=⟨i - c,by omega⟩
    subst hd
    cases d with
    |zero=>simp
    |succ d=>simp [show c+(d+1) - c=d+1 by omega];omega
 have hq':∀ j,j∈Zaw n→q j=(p j&&decide (j≠c)):=fun j hj=>hq j (ZaX.1 hj)
 rw [Zb7 hq',e,ZbB,ZbB]
 have h1:(Zaw c).filter p=[]:=by
  rw [Zb6];intro j hj;rw [hlow j (ZaX.1 hj)];simp
 have h2:(Zaw c).filter (fun j=>p j&&decide (j≠c))=[]:=by
  rw [Zb6];intro j hj;rw [hlow j (ZaX.1 hj)];simp
 rw [h1,h2,ZaW,ZaW,Zcv hp,List.filter_cons_of_neg (by simp)]
 congr 1
 apply Zb7
 intro j hj
 obtain ⟨d,_,rfl⟩:=ZaV.1 hj
 simp;omega
theorem aaU {w:Wd}(h:w≠0):bitsOf w=Lib.ctz 64 w.toNat::bitsOf (w &&& (w - 1)):=by
 obtain ⟨h1,h2,h3,h4⟩:=Yd h
 exact Ox h1 h2 h3 h4
def yh (ws:List Wd)(a b:Int):List Nat:=(Zaw (64*ws.length)).filter fun (i:Nat)=>bit ws i&&decide (a≤(i:Int)∧(i:Int)<b)
theorem range_add (n m:Nat):Zaw (n+m)=Zaw n++(Zaw m).map (n+·):=Zdx
theorem Xg {ws:List Wd}{k:Nat}(h:k<ws.length)(a b:Int):(Zaw (64*(k+1))).filter (fun (i:Nat)=>bit ws i&&decide (a≤(i:Int)∧(i:Int)<b))
  = (Zaw (64*k)).filter (fun (i:Nat)=>bit ws i&&decide (a≤(i:Int)∧(i:Int)<b))++(bitsOf (ws[k] &&& wJ k a b)).map (64*k+·):=by
 rw [show 64*(k+1)=64*k+64 by omega,Zdx,ZbB,List.filter_map]
 congr 2
 unfold bitsOf
 apply Zb7
 intro j hj
 have hj:=ZaX.1 hj
 rw [Zcq,IU k a b hj]
 show (bit ws (64*k+j)&&_)=_
 rw [IL h hj]
 push_cast
 rfl
def setW (ws:List Wd)(a b:Int):List Wd:=ws.mapIdx fun k w=>w ||| wJ k a b
def JM (ws:List Wd)(a b:Int):List Wd:=ws.mapIdx fun k w=>w &&& ~~~wJ k a b
theorem Ye {ws:List Wd}{a b:Int}{i:Nat}(h:i<64*ws.length):bit (setW ws a b) i=(bit ws i || decide (a≤(i:Int)∧(i:Int)<b)):=by
 have hk:i / 64<ws.length:=by omega
 have hk2:i / 64<(setW ws a b).length:=by simp [setW,hk]
 rw [IQ hk,IQ hk2]
 simp only [setW,ZcQ,BitVec.getLsbD_or]
 rw [IU _ _ _ (Zbs _ (by decide))]
 congr 2
 have:(64*((i / 64:Nat):Int))+((i % 64:Nat):Int)=(i:Int):=by omega
 rw [this]
theorem ajP {ws:List Wd}{a b:Int}{i:Nat}(h:i<64*ws.length):bit (JM ws a b) i=(bit ws i&&!decide (a≤(i:Int)∧(i:Int)<b)):=by
 have hk:i / 64<ws.length:=by omega
 have hk2:i / 64<(JM ws a b).length:=by simp [JM,hk]
 rw [IQ hk,IQ hk2]
 simp only [JM,ZcQ,Zcq,BitVec.getLsbD_not]
 rw [IU _ _ _ (Zbs _ (by decide))]
 have:(64*((i / 64:Nat):Int))+((i % 64:Nat):Int)=(i:Int):=by omega
 rw [this]
 have h64:decide (i % 64<64)=true:=decide_eq_true (Zbs _ (by decide))
 rw [h64,Zaf]
def l7 (n:Int):Int:=(n+63) / 64
def okB (b:Bm):Bool:=decide (0≤b.size∧b.size≤4096∧(b.ws.length:Int)=l7 b.size)&&(Zaw (64*b.ws.length)).all fun (i:Nat)=>decide ((i:Int)<b.size) || !bit b.ws i
theorem jK {b:Bm}:okB b=true ↔ (0≤b.size∧b.size≤4096∧(b.ws.length:Int)=l7 b.size)∧∀ i:Nat,b.size≤(i:Int)→bit b.ws i=false:=by
 unfold okB
 simp only [ZZ,decide_eq_true_eq,zw,ZaX,Bool.or_eq_true,ZaN]
 refine and_congr Iff.rfl ⟨fun h i hi=>?_,fun h i hi=>?_⟩
 ·by_cases c:i<64*b.ws.length
  ·exact (h i c).resolve_left (by omega)
  ·exact BO (by omega)
 ·by_cases c:(i:Int)<b.size
  ·exact .inl c
  ·exact .inr (h i (by omega))
theorem kL {b:Bm}(h:okB b=true):0≤b.size∧b.size≤4096∧b.ws.length≤64∧b.size≤64*(b.ws.length:Int)∧64*(b.ws.length:Int)<b.size+64:=by
 have:=(jK.1 h).1
 unfold l7 at this
 omega
theorem TJ {b:Bm}(h:okB b=true){i:Nat}(hb:bit b.ws i=true):(i:Int)<b.size:=by
 rcases Int.lt_or_le (i:Int) b.size with c|c
 ·exact c
 ·rw [(jK.1 h).2 i c] at hb;cases hb
theorem an7 {a b:Bm}(ha:okB a=true)(hb:okB b=true)(hs:a.size=b.size)(h:∀ i:Nat,(i:Int)<a.size→bit a.ws i=bit b.ws i):a=b:=by
 have h1:=(jK.1 ha)
 have h2:=(jK.1 hb)
 have e:a.ws=b.ws:=an6 (by have:=h1.1.2.2;have:=h2.1.2.2;rw [hs] at *;omega) fun i _=>by
  rcases Int.lt_or_le (i:Int) a.size with c|c
  ·exact h i c
  ·rw [h1.2 i c,h2.2 i (by omega)]
 cases a;cases b;simp_all
theorem afz {b:Bm}(h:0≤b.size∧b.size≤4096∧(b.ws.length:Int)=l7 b.size):okB b=true ↔ (b.size % 64=0∨∀ (hw:b.ws.length - 1<b.ws.length),b.ws[b.ws.length - 1] >>> (b.size % 64).toNat=0):=by
 rw [jK]
 unfold l7 at h ⊢
 constructor
 ·rintro ⟨_,h2⟩
  by_cases c:b.size % 64=0
  ·exact .inl c
  ·refine .inr fun hw=>?_
   apply Zcw
   intro j hj
   rw [ZbU]
   by_cases cj:(b.size % 64).toNat+j<64
   ·rw [← IL hw cj,h2 _ (by omega)];simp
   ·rw [BitVec.getLsbD_of_ge _ _ (by omega)];simp
 ·intro hr
  refine ⟨by omega,fun i hi=>?_⟩
  by_cases c:i<64*b.ws.length
  ·have hw:b.ws.length - 1<b.ws.length:=by omega
   have hk:i / 64=b.ws.length - 1:=by omega
   rcases hr with hr|hr
   ·omega
   ·have:=congrArg (fun w:Wd=>w.getLsbD (i % 64 - (b.size % 64).toNat)) (hr hw)
    simp only [ZbU,BitVec.getLsbD_zero] at this
    rw [show (b.size % 64).toNat+(i % 64 - (b.size % 64).toNat)=i % 64 by omega] at this
    rw [show i=64*(b.ws.length - 1)+i % 64 by omega,IL hw (Zbs _ (by decide))]
    simpa using this
  ·exact BO (by omega)
def Oy (b:Bm):List bf:=ext (bit b.ws) b.size.toNat
def bmE (b:Bm):Int:=if okB b then 0 else 3
theorem afB {b:Bm}(h:okB b=true)(a:Int)(ha:a≤0):yh b.ws a b.size=(Zaw b.size.toNat).filter (bit b.ws):=by
 unfold yh
 obtain ⟨h1,h2,h3,h4,h5⟩:=kL h
 rw [show 64*b.ws.length=b.size.toNat+(64*b.ws.length - b.size.toNat) by omega,Zdx,ZbB]
 have e:(((Zaw (64*b.ws.length - b.size.toNat)).map (b.size.toNat+·)).filter fun (i:Nat)=>bit b.ws i&&decide (a≤(i:Int)∧(i:Int)<b.size))=[]:=by
  rw [Zb6]
  intro i hi
  obtain ⟨d,_,rfl⟩:=ZaV.1 hi
  rw [decide_eq_false (by omega)];simp
 rw [e,ZaH]
 apply Zb7
 intro i hi
 have hi:=ZaX.1 hi
 rw [decide_eq_true (by omega),ZbS]
theorem Dp {b:Bm}(h:okB b=true):bmE b=0:=by unfold bmE;rw [if_pos h]
theorem yj {b:Bm}(h:okB b=false):bmE b=3:=by unfold bmE;rw [if_neg (by rw [h];exact Bool.false_ne_true)]
theorem q64 {n:Int}(h:0≤n):(n+64 - 1).tdiv 64=l7 n:=by
 unfold l7;rw [Zbk (by omega)];congr 1;omega
theorem z64:((64:Int)=0)=False:=eq_false (by decide)
theorem afC {n:Int}(h:0≤n∧n≤4096):cal env 222 [.int .i64 n]=some [(.int .i64 (l7 n),false)]:=by
 have W1:IntKind.i64.wrap (n+64)=n+64:=aP (by omega)
 have W2:IntKind.i64.wrap (n+64 - 1)=n+64 - 1:=aP (by omega)
 have W3:IntKind.i64.wrap (l7 n)=l7 n:=aP (by unfold l7;omega)
 rw [aj anm rfl];simp only [Sm];simp only [start,aH,aK,aF,aJ,aA,aB,aG,aI,Nat.reduceAdd,Nat.reduceSub]
 simp only [W1,W2,q64 h.1,W3,z64,aY,reduceCtorEq,Nat.reduceEqDiff,Nat.reduceAdd,Nat.reduceLT,Nat.reduceLeDiff,Z1]
theorem Oz {b:Bm}:cal env 161 [y7 b]=some [(.int .i64 (bmE b),false)]:=by
 unfold y7
 have P:∀ x y:PV,part [x,y] 0 (some 2)=some (.agg [x,y]):=fun _ _=>rfl
 by_cases c0:b.size<0
 ·have hE:bmE b=3:=yj (by rw [Za0];intro h;have:=kL h;omega)
  rw [hE]
  rw [aj Dk rfl];simp only [zy];simp only [start,aH,aK,aF,aJ,aA,aB,aG,aI,Nat.reduceAdd,Nat.reduceSub]
  simp only [c0,P,aY,reduceCtorEq,Nat.reduceEqDiff,Nat.reduceAdd,Nat.reduceLT,Nat.reduceLeDiff,Z1]
 ·by_cases c1:b.size > 4096
  ·have hE:bmE b=3:=yj (by rw [Za0];intro h;have:=kL h;omega)
   rw [hE]
   have F1:(b.size > 4096)=True:=eq_true c1
   rw [aj Dk rfl];simp only [zy];simp only [start,aH,aK,aF,aJ,aA,aB,aG,aI,Nat.reduceAdd,Nat.reduceSub]
   simp only [c0,F1,P,aY,reduceCtorEq,Nat.reduceEqDiff,Nat.reduceAdd,Nat.reduceLT,Nat.reduceLeDiff,Z1]
  ·have F1:(b.size > 4096)=False:=eq_false c1
   have e1:=afC (n:=b.size) (by omega)
   by_cases c2:(b.ws.length:Int)=l7 b.size
   ·have F2:((b.ws.length:Int) != l7 b.size)=false:=by simp [c2]
    have hr:=afz (b:=b) ⟨by omega,by omega,c2⟩
    have hw:=c2
    unfold l7 at hw
    have M:b.size.tmod 64=b.size % 64:=Zas (by omega)
    by_cases c3:b.size % 64=0
    ·have hE:bmE b=0:=Dp (hr.2 (.inl c3))
     rw [hE]
     have F3:(b.size % 64 > 0)=False:=eq_false (by omega)
     rw [aj Dk rfl];simp only [zy];simp only [start,aH,aK,aF,aJ,aA,aB,aG,aI,Nat.reduceAdd,Nat.reduceSub]
     simp only [c0,F1,F2,F3,M,e1,z64,P,aY,reduceCtorEq,Nat.reduceEqDiff,Nat.reduceAdd,Nat.reduceLT,Nat.reduceLeDiff,Z1]
    ·have F3:(b.size % 64 > 0)=True:=eq_true (by omega)
     have hi:b.ws.length - 1<b.ws.length:=by omega
     have W:IntKind.i64.wrap ((b.ws.length:Int) - 1)=((b.ws.length - 1:Nat):Int):=by rw [aP (by omega)];omega
     have S0:(b.size % 64<0)=False:=eq_false (by omega)
     have S:=afx b.ws[b.ws.length - 1] (s:=b.size % 64) (n:=(b.size % 64).toNat) (by omega)
     have B:=afy (b.ws[b.ws.length - 1] >>> (b.size % 64).toNat) 0
     have B0:((0:Wd).toNat:Int)=0:=rfl
     rw [B0] at B
     have B':(((b.ws[b.ws.length - 1] >>> (b.size % 64).toNat).toNat:Int) != 0)=!decide (b.ws[b.ws.length - 1] >>> (b.size % 64).toNat=0):=by unfold bne;rw [B]
     by_cases c4:b.ws[b.ws.length - 1] >>> (b.size % 64).toNat=0
     ·have hE:bmE b=0:=Dp (hr.2 (.inr fun _=>c4))
      rw [hE]
      rw [decide_eq_true c4] at B'
      rw [aj Dk rfl];simp only [zy];simp only [start,aH,aK,aF,aJ,aA,aB,aG,aI,Nat.reduceAdd,Nat.reduceSub]
      simp only [c0,F1,F2,F3,M,e1,z64,P,W,S0,S,B',aC hi,eW,zc,ZD hi,aY,reduceCtorEq,Nat.reduceEqDiff,Nat.reduceAdd,Nat.reduceLT,Nat.reduceLeDiff,Z1]
     ·have hE:bmE b=3:=yj (by
       rw [Za0];intro h
       rcases hr.1 h with h|h
       ·exact c3 h
       ·exact c4 (h hi))
      rw [hE]
      rw [decide_eq_false c4] at B'
      rw [aj Dk rfl];simp only [zy];simp only [start,aH,aK,aF,aJ,aA,aB,aG,aI,Nat.reduceAdd,Nat.reduceSub]
      simp only [c0,F1,F2,F3,M,e1,z64,P,W,S0,S,B',aC hi,eW,zc,ZD hi,aY,reduceCtorEq,Nat.reduceEqDiff,Nat.reduceAdd,Nat.reduceLT,Nat.reduceLeDiff,Z1]
   ·have F2:((b.ws.length:Int) != l7 b.size)=true:=by simp [c2]
    have hE:bmE b=3:=yj (by rw [Za0];intro h;exact c2 (jK.1 h).1.2.2)
    rw [hE]
    rw [aj Dk rfl];simp only [zy];simp only [start,aH,aK,aF,aJ,aA,aB,aG,aI,Nat.reduceAdd,Nat.reduceSub]
    simp only [c0,F1,F2,e1,P,aY,reduceCtorEq,Nat.reduceEqDiff,Nat.reduceAdd,Nat.reduceLT,Nat.reduceLeDiff,Z1]
theorem afD {k:Nat}{a b:Int}(hk:k≤100000)(ha:-1000000≤a∧a≤1000000)(hb':-1000000≤b∧b≤1000000):cal env 263 [.int .i64 (k:Nat),.int .i64 a,.int .i64 b]=some [(eW (wJ k a b),false)]:=by
 have W0:IntKind.i64.wrap ((k:Int)*64)=64*(k:Int):=by rw [aP (by omega)];omega
 have W1:IntKind.i64.wrap (a - 64*(k:Int))=a - 64*(k:Int):=aP (by omega)
 have W2:IntKind.i64.wrap (b - 64*(k:Int))=b - 64*(k:Int):=aP (by omega)
 have X1:(if a - 64*(k:Int)<0 then 0 else a - 64*(k:Int))=max (a - 64*(k:Int)) 0:=by split<;>omega
 have X2:(if 64<b - 64*(k:Int) then 64 else b - 64*(k:Int))=min (b - 64*(k:Int)) 64:=by split<;>omega
 unfold wJ eW
 generalize hf:max (a - 64*(k:Int)) 0=f at X1 ⊢
 generalize ht:min (b - 64*(k:Int)) 64=t at X2 ⊢
 by_cases c:f ≥ t
 ·have F1:(f ≥ t)=True:=eq_true c
  rw [if_pos c]
  have B0:((0:Wd).toNat:Int)=0:=rfl
  rw [B0]
  rw [aj afk rfl];simp only [Lr];simp only [start,aH,aK,aF,aJ,aA,aB,aG,aI,Nat.reduceAdd,Nat.reduceSub]
  simp only [W0,W1,W2,X1,X2,F1,aY,reduceCtorEq,Nat.reduceEqDiff,Nat.reduceAdd,Nat.reduceLT,Nat.reduceLeDiff,Z1]
 ·have F1:(f ≥ t)=False:=eq_false c
  rw [if_neg c]
  have W3:IntKind.i64.wrap (t - f)=t - f:=aP (by omega)
  have W4:IntKind.i64.wrap (64 - (t - f))=64 - (t - f):=aP (by omega)
  have A:(18446744073709551615:Int)=((ZcR 64).toNat:Int):=rfl
  have S0:(64 - (t - f)<0)=False:=eq_false (by omega)
  have S1:(f<0)=False:=eq_false (by omega)
  have S2:=afx (ZcR 64) (s:=64 - (t - f)) (n:=(64 - (t - f)).toNat) (by omega)
  have S3:=aqI (ZcR 64 >>> (64 - (t - f)).toNat) (s:=f) (n:=f.toNat) (by omega)
  rw [← A] at S2
  rw [aj afk rfl];simp only [Lr];simp only [start,aH,aK,aF,aJ,aA,aB,aG,aI,Nat.reduceAdd,Nat.reduceSub]
  simp only [W0,W1,W2,W3,W4,X1,X2,F1,S0,S1,S2,S3,aY,reduceCtorEq,Nat.reduceEqDiff,Nat.reduceAdd,Nat.reduceLT,Nat.reduceLeDiff,Z1]
def eB2 (b:Bm):List PV:=[.int .i64 b.size,.list 1 (b.ws.map eW)]
def tz (w:Wd):Nat:=Lib.ctz 64 w.toNat
theorem an8 {w:Wd}:cal env 264 [.int .u64 (w.toNat:Int)]=some [(.int .i64 (tz w:Nat),false)]:=by
 rw [yS anK]
 have:=w.isLt
 have e:tzX [.int .u64 (w.toNat:Int)]=if (0:Int)≤(w.toNat:Int)∧(w.toNat:Int)<18446744073709551616 then some [(.int .i64 (Lib.ctz 64 (w.toNat:Int).toNat:Nat),false)] else none:=rfl
 rw [e,if_pos (by omega),Zav]
 rfl
theorem ajQ {b:Bm}{a:Int}{k:Nat}{w0:Wd}{ys0:List (List PV)}(hk:k≤100000)
  {st:St} (h:st.head [0,1,2,4,5,10,11,12] st.boxes.length=some ⟨[.oM,.pv (.cu (eB2 b) 0),.pv (.cu [.int .i64 a] 0),.any,.pv (.int .i64 (k:Nat)),.pv (eW w0),.any,.any,.any,.any,.pv (.list 1 (b.ws.map eW)),.pv (.int .i64 b.ws.length),.pv (.int .i64 (k:Nat)),.any,.any,.any,.any,.any,.any,.any,.any,.any,.any,.any,.any,.any,.any,.any,.any,.any,.any,.any,.any,.any,.any,.any,.any,.any,.any],[],ys0,some none⟩) :
  den env Iq st=some (.normal,⟨[.oM,.pv (.cu (eB2 b) 0),.pv (.cu [.int .i64 a] 0),.any,.any,.any,.any,.any,.any,.any,.pv (.list 1 (b.ws.map eW)),.pv (.int .i64 b.ws.length),.pv (.int .i64 (k:Nat)),.any,.any,.any,.any,.any,.any,.any,.any,.any,.any,.any,.any,.any,.any,.any,.any,.any,.any,.any,.any,.any,.any,.any,.any,.any,.any],[],ys0++yI ((bitsOf w0).map (64*k+·)),some none⟩):=by
 unfold Iq
 refine KW (env:=env) (fun p:Wd×List (List PV)=>⟨[.oM,.pv (.cu (eB2 b) 0),.pv (.cu [.int .i64 a] 0),.any,.pv (.int .i64 (k:Nat)),.pv (eW p.1),.any,.any,.any,.any,.pv (.list 1 (b.ws.map eW)),.pv (.int .i64 b.ws.length),.pv (.int .i64 (k:Nat)),.any,.any,.any,.any,.any,.any,.any,.any,.any,.any,.any,.any,.any,.any,.any,.any,.any,.any,.any,.any,.any,.any,.any,.any,.any,.any],[],p.2,some none⟩)
  (fun p=>some (.normal,⟨[.oM,.pv (.cu (eB2 b) 0),.pv (.cu [.int .i64 a] 0),.any,.any,.any,.any,.any,.any,.any,.pv (.list 1 (b.ws.map eW)),.pv (.int .i64 b.ws.length),.pv (.int .i64 (k:Nat)),.any,.any,.any,.any,.any,.any,.any,.any,.any,.any,.any,.any,.any,.any,.any,.any,.any,.any,.any,.any,.any,.any,.any,.any,.any,.any],[],p.2++yI ((bitsOf p.1).map (64*k+·)),some none⟩)) (fun _=>True) (fun p=>(bitsOf p.1).length) (w0,ys0) h trivial (fun _=>rfl) (fun _=>rfl) ?_
 rintro ⟨w,ys⟩ rb _ ih
 simp only [eW] at ih ⊢
 have B:=afy w 0
 have B0:((0:Wd).toNat:Int)=0:=rfl
 rw [B0] at B
 have B':((w.toNat:Int) != 0)=!decide (w=0):=by unfold bne;rw [B]
 by_cases c:w=0
 ·rw [decide_eq_true c] at B'
  subst c
  simp only [Ip,B',aaT,Zao,aY,reduceCtorEq,Nat.reduceEqDiff,Nat.reduceAdd,Nat.reduceLT,Nat.reduceLeDiff,Z1]
  simp only [yI,Zao,ZaH]
  rfl
 ·rw [decide_eq_false c] at B'
  have e1:=an8 (w:=w)
  have ht:=(Yd c).1
  have W0:IntKind.i64.wrap ((k:Int)*64)=64*(k:Int):=by rw [aP (by omega)];omega
  have W1:IntKind.i64.wrap (64*(k:Int)+((tz w:Nat):Int))=((64*k+tz w:Nat):Int):=by unfold tz;rw [aP (by omega)];omega
  have W2:=aqJ w 1
  have W3:=afv w (w - 1)
  have B1:((1:Wd).toNat:Int)=1:=rfl
  rw [B1] at W2
  have hc:=aaU c
  simp only [Ip,B',e1,W0,W1,W2,W3,aY,reduceCtorEq,Nat.reduceEqDiff,Nat.reduceAdd,Nat.reduceLT,Nat.reduceLeDiff,Z1]
  rw [ih (w &&& (w - 1),ys++[[.int .i64 ((64*k+tz w:Nat):Int)]]) (by simp only;rw [hc,zd];omega) trivial _ rfl]
  rw [hc]
  simp only [yI,Zap,Zam,Zbq,ZaW]
  rfl
theorem afE {b:Bm}{a:Int}(hb:b.ws.length≤64)(hs:0≤b.size∧b.size≤4096)(ha:-1000000≤a∧a≤1000000)
  {st:St} (h:st.head [0,1,2,10,11,12] st.boxes.length=some ⟨[.oM,.pv (.cu (eB2 b) 0),.pv (.cu [.int .i64 a] 0),.any,.any,.any,.any,.any,.any,.any,.pv (.list 1 (b.ws.map eW)),.pv (.int .i64 b.ws.length),.pv (.int .i64 (0:Nat)),.any,.any,.any,.any,.any,.any,.any,.any,.any,.any,.any,.any,.any,.any,.any,.any,.any,.any,.any,.any,.any,.any,.any,.any,.any,.any],[],[],some none⟩) :
  den env Iu st=some (.normal,⟨[.any,.any,.any,.any,.any,.any,.any,.any,.any,.any,.any,.any,.any,.any,.any,.any,.any,.any,.any,.any,.any,.any,.any,.any,.any,.any,.any,.any,.any,.any,.any,.any,.any,.any,.any,.any,.any,.any,.any],[],yI (yh b.ws a b.size),some none⟩):=by
 unfold Iu
 refine bG (env:=env) b.ws.length (fun k=>⟨[.oM,.pv (.cu (eB2 b) 0),.pv (.cu [.int .i64 a] 0),.any,.any,.any,.any,.any,.any,.any,.pv (.list 1 (b.ws.map eW)),.pv (.int .i64 b.ws.length),.pv (.int .i64 k),.any,.any,.any,.any,.any,.any,.any,.any,.any,.any,.any,.any,.any,.any,.any,.any,.any,.any,.any,.any,.any,.any,.any,.any,.any,.any],[],yI ((Zaw (64*k)).filter fun (i:Nat)=>bit b.ws i&&decide (a≤(i:Int)∧(i:Int)<b.size)),some none⟩)
  (fun _=>some (.normal,⟨[.any,.any,.any,.any,.any,.any,.any,.any,.any,.any,.any,.any,.any,.any,.any,.any,.any,.any,.any,.any,.any,.any,.any,.any,.any,.any,.any,.any,.any,.any,.any,.any,.any,.any,.any,.any,.any,.any,.any],[],yI (yh b.ws a b.size),some none⟩)) h (fun _=>rfl) (fun _=>rfl) ?_ ?_
 ·intro k rb hi ih
  have hi1:=bH hi (by unfold lim;omega)
  have F1:((k:Int)<(b.ws.length:Int))=True:=eq_true (by omega)
  have e1:=afD (k:=k) (a:=a) (b:=b.size) (by omega) ha (by omega)
  have W3:=afv b.ws[k] (wJ k a b.size)
  rw [Xg hi] at ih
  unfold eW at e1
  simp only [Ir,F1,e1,W3,eB2,eW,aC hi,zc,ZD hi,aY,reduceCtorEq,Nat.reduceEqDiff,Nat.reduceAdd,Nat.reduceLT,Nat.reduceLeDiff,Z1]
  rw [ajQ (b:=b) (a:=a) (k:=k) (w0:=b.ws[k] &&& wJ k a b.size) (ys0:=yI ((Zaw (64*k)).filter fun (i:Nat)=>bit b.ws i&&decide (a≤(i:Int)∧(i:Int)<b.size))) (by omega)]
  rotate_left
  ·rfl
  simp only [aY,reduceCtorEq,Nat.reduceEqDiff,Nat.reduceAdd,Nat.reduceLT,Nat.reduceLeDiff,Z1]
  rw [ih _ (by simp only [hi1];simp only [yI,ZaC];rfl)]
 ·intro rb
  simp only [Ir,Zar,aY,reduceCtorEq,Nat.reduceEqDiff,Nat.reduceAdd,Nat.reduceLT,Nat.reduceLeDiff,Z1]
  rfl
theorem ajR {b:Bm}{a:Int}(ha:-1000000≤a∧a≤1000000):iter env 262 [.cu (eB2 b) 0,.cu [.int .i64 a] 0] none=some (yI (if okB b then yh b.ws a b.size else [])):=by
 have P:part (eB2 b) 0 (some 2)=some (y7 b):=rfl
 have e1:=Oz (b:=b)
 rw [qL anJ rfl rfl]
 simp only [Td,zU,aH,aK,aF,aJ,aA,aB,aG,aI,Nat.reduceAdd,Nat.reduceSub]
 cases c:okB b with
 |false =>
  rw [yj c] at e1
  have Z:((3:Int) != 0)=true:=rfl
  simp only [P,e1,Z,rH,aY,reduceCtorEq,Nat.reduceEqDiff,Nat.reduceAdd,Nat.reduceLT,Nat.reduceLeDiff,Z1]
  rfl
 |true =>
  rw [Dp c] at e1
  have Z:((0:Int) != 0)=false:=rfl
  obtain ⟨h1,h2,h3,_⟩:=kL c
  have P2:part (eB2 b) 1 none=some (.list 1 (b.ws.map eW)):=rfl
  simp only [P,P2,e1,Z,zb,rH,aY,reduceCtorEq,Nat.reduceEqDiff,Nat.reduceAdd,Nat.reduceLT,Nat.reduceLeDiff,Z1]
  rw [afE (a:=a) h3 ⟨h1,h2⟩ ha]
  rotate_left
  ·rfl
  ·rfl
theorem an9 {b:Bm}{a:Int}:cal env 219 [y7 b,.int .i64 a]=some [(.func 262 [.cu (eB2 b) 0,.cu [.int .i64 a] 0],false)]:=by
 unfold y7 eB2
 rw [aj ank rfl];simp only [Si];simp only [start,aH,aK,aF,aJ,aA,aB,aG,aI,Nat.reduceAdd,Nat.reduceSub]
 simp only [aY,reduceCtorEq,Nat.reduceEqDiff,Nat.reduceAdd,Nat.reduceLT,Nat.reduceLeDiff,Z1]
end Go.Proofs.YthccglceomoboaaGreatDoor.V
namespace Go.Proofs.YthccglceomoboaaGreatDoor
def look:List (Nat×AV)→Nat→AV
 |[],_=>.any
 |(j,v)::l,i=>eP (Z1 i j) v (look l i)
def sl (n:Nat)(l:List (Nat×AV)):List AV:=(Zaw n).map (look l)
def mapA (f:AV→AV):List (Nat×AV)→List (Nat×AV)
 |[]=>[]
 |(j,v)::l=>(j,f v)::mapA f l
def keepA (l:List (Nat×AV)):List Nat→List (Nat×AV)
 |[]=>[]
 |k::ks=>(k,look l k)::keepA l ks
def Eu:Nat→List PV→List (Nat×AV)
 |_,[]=>[]
 |k,v::l=>(k,.pv v)::Eu (k+1) l
def TL (nb:Nat):List (Nat×AV)→Bool
 |[]=>true
 |(_,v)::l=>AV.low nb v&&TL nb l
def Xh (n:Nat):List Nat→Bool
 |[]=>true
 |k::ks=>decide (k<n)&&Xh n ks
theorem afF (i:Nat)(v:AV)(l:List (Nat×AV)):look ((i,v)::l) i=v:=by
 show eP (Z1 i i) v _=v
 rw [Nat.beq_refl];rfl
theorem look_nil (i:Nat):look [] i=.any:=(rfl)
theorem aoa {n i:Nat}{l:List (Nat×AV)}(h':i<n):(sl n l).getD i .any=look l i:=by
 simp [sl,zP,h']
theorem ajS {n i:Nat}{l:List (Nat×AV)}(h':i<n):(sl n l)[i]?=some (look l i):=by
 simp [sl,h']
theorem oH (l:List (Nat×AV))(i j:Nat)(v:AV):look ((j,v)::l) i=if i=j then v else look l i:=by
 show eP (Z1 i j) v _=_
 by_cases h:i=j
 ·subst h;rw [Nat.beq_refl,if_pos rfl];rfl
 ·rw [if_neg h]
  have:Z1 i j=false:=by
   cases e:Z1 i j with
   |false=>rfl
   |true=>exact absurd (Nat.eq_of_beq_eq_true e) h
  rw [this];rfl
theorem aob (n i:Nat)(v:AV)(l:List (Nat×AV)):(sl n l).set i v=sl n ((i,v)::l):=by
 apply Za6 (by simp [sl])
 intro k h1 h2
 have hk:k<n:=by simpa [sl] using h2
 simp only [sl,ZcI,ZbN,ZbC,oH]
 by_cases h:i=k
 ·subst h;simp
 ·rw [if_neg h,if_neg (fun e=>h e.symm)]
theorem aaV {i j:Nat}{v:AV}{l:List (Nat×AV)}(h:(i==j)=false):look ((j,v)::l) i=look l i:=by
 rw [oH,if_neg (by simpa using h)]
theorem LC (f:AV→AV)(hf:f .any=.any):∀ (l:List (Nat×AV)) (i:Nat),look (mapA f l) i=f (look l i)
 |[],i=>hf.symm
 |(j,v)::l,i=>by
  show look ((j,f v)::mapA f l) i=_
  rw [oH,oH,LC f hf l i]
  split<;>rfl
theorem OA {f:AV→AV}(hf:f .any=.any)(n:Nat)(l:List (Nat×AV)):(sl n l).map f=sl n (mapA f l):=by
 unfold sl
 rw [List.map_map]
 apply List.map_congr_left
 intro i _
 exact (LC f hf l i).symm
theorem ajT (n d:Nat)(l:List (Nat×AV)):(sl n l).map (AV.kill d)=sl n (mapA (AV.kill d) l):=OA rfl n l
theorem afG (n d:Nat)(l:List (Nat×AV)):(sl n l).map (AV.dB d)=sl n (mapA (AV.dB d) l):=OA rfl n l
theorem afH (n d y:Nat)(l:List (Nat×AV)):(sl n l).map (AV.iJ d y)=sl n (mapA (AV.iJ d y) l):=OA rfl n l
theorem afI (n:Nat)(l:List (Nat×AV)):(sl n l).map AV.froze=sl n (mapA AV.froze l):=OA rfl n l
theorem afJ (f:AV→AV):mapA f []=[]:=(rfl)
theorem aaW (f:AV→AV)(j:Nat)(v:AV)(l:List (Nat×AV)):mapA f ((j,v)::l)=(j,f v)::mapA f l:=(rfl)
theorem aaX (l:List (Nat×AV)):keepA l []=[]:=(rfl)
theorem zV (l:List (Nat×AV))(k:Nat)(ks:List Nat):keepA l (k::ks)=(k,look l k)::keepA l ks:=(rfl)
theorem afK (nb:Nat):TL nb []=true:=(rfl)
theorem LD (nb k:Nat)(v:AV)(l:List (Nat×AV)):TL nb ((k,v)::l)=(AV.low nb v&&TL nb l):=(rfl)
theorem afL (n:Nat):Xh n []=true:=(rfl)
theorem LG (n k:Nat)(l:List Nat):Xh n (k::l)=(decide (k<n)&&Xh n l):=(rfl)
theorem aaY (k:Nat):Eu k []=[]:=(rfl)
theorem IV (k:Nat)(v:PV)(l:List PV):Eu k (v::l)=(k,.pv v)::Eu (k+1) l:=(rfl)
theorem zW (l:List (Nat×AV)):∀ (ks:List Nat) (i:Nat),look (keepA l ks) i=if ks.contains i then look l i else .any
 |[],i=>rfl
 |k::ks,i=>by
  rw [zV,oH,zW l ks i,List.contains_cons]
  by_cases h:i=k
  ·subst h;simp
  ·have:(i==k)=false:=by simpa using h
   rw [if_neg h,this,Zbj]
theorem TN (nb n:Nat)(l:List (Nat×AV)):∀ ks:List Nat,Xh n ks=true→(TL nb (keepA l ks)=true ↔ ∀ k∈ks,(look l k).low nb=true)
 |[],_=>by simp [keepA,TL]
 |k::ks,h=>by
  rw [LG,ZZ] at h
  rw [zV,LD,ZZ,TN nb n l ks h.2]
  simp
theorem Yf {n nb:Nat}{l:List (Nat×AV)}{keep:List Nat}{bx:List Box}{ys:List (List PV)}{sp:Option (Option Nat)}(h:Xh n keep=true)(hb:nb≤bx.length)(hl:TL nb (keepA l keep)=true) :
  St.head ⟨sl n l,bx,ys,sp⟩ keep nb=some ⟨sl n (keepA l keep),bx.take nb,ys,sp⟩:=by
 have e:((sl n l).zipIdx.map fun (v,i)=>if keep.contains i then v else AV.any)=sl n (keepA l keep):=by
  apply Za6 (by simp [sl])
  intro i h1 h2
  simp only [sl,ZbN,List.getElem_zipIdx,ZbC,zW,Zaj]
 unfold St.head
 simp only
 rw [e,if_pos]
 rw [ZZ,decide_eq_true_eq]
 refine ⟨?_,hb⟩
 rw [zw]
 intro v hv
 unfold sl at hv
 obtain ⟨i,hi,rfl⟩:=ZaV.1 hv
 rw [zW]
 split
 ·rename_i hc
  exact (TN nb n l keep h).1 hl i (by simpa using hc)
 ·rfl
theorem afM {n nb:Nat}{e:Ex}{l:List (Nat×AV)}{keep:List Nat}{bx:List Box}{ys:List (List PV)}{sp:Option (Option Nat)}(h:Xh n keep=true)(hb:nb≤bx.length)(hl:TL nb (keepA l keep)=true) :
  nG keep nb (e,⟨sl n l,bx,ys,sp⟩)=some (e,⟨sl n (keepA l keep),bx.take nb,ys,sp⟩):=by
 unfold nG
 simp only
 rw [Yf h hb hl]
 rfl
theorem IW:∀ (l:List PV) (k i:Nat),look (Eu k l) i=if k≤i then ((l[i - k]?).map AV.pv).getD .any else .any:=by
 intro l
 induction l with
 |nil=>intro k i;simp [Eu,look]
 |cons v l ih =>
  intro k i
  rw [IV,oH,ih]
  by_cases h1:i=k
  ·subst h1;simp
  ·rw [if_neg h1]
   by_cases h2:k≤i
   ·rw [if_pos (by omega),if_pos h2,show i - k=(i - (k+1))+1 by omega,Za8]
   ·rw [if_neg (by omega),if_neg h2]
theorem aaZ {n:Nat}{x:lD}{args:List PV}(hn:args.length+1≤n):V4 n x args=⟨sl n ((0,x.av)::Eu 1 args),x.boxes,[],none⟩:=by
 unfold V4
 congr 1
 apply Za6 (by simp [sl];omega)
 intro i h1 h2
 simp only [sl,ZbN,ZbC,oH,IW]
 cases i with
 |zero=>simp
 |succ i =>
  rw [Zdo,if_neg (by omega),if_pos (by omega),show i+1 - 1=i by omega]
  by_cases hi:i<args.length
  ·rw [Zda (by simpa using hi)]
   simp [hi]
  ·rw [Zc5 (by simp;omega)]
   simp [hi]
theorem afN {n:Nat}{args:List PV}(hn:args.length≤n):start n args=⟨sl n (Eu 0 args),[],[],none⟩:=by
 have key:=IW
 unfold start
 congr 1
 apply Za6 (by simp [sl];omega)
 intro i h1 h2
 simp only [sl,ZbN,ZbC,key,ZaI,if_true,ZbH]
 by_cases hi:i<args.length
 ·rw [Zda (by simpa using hi)]
  simp [hi]
 ·rw [Zc5 (by simp;omega)]
  simp [hi]
theorem aoc (nb:Nat)(v:PV):AV.low nb (.pv v)=true:=(rfl)
theorem ajU (nb:Nat):AV.low nb .any=true:=(rfl)
theorem ajV (nb:Nat):AV.low nb .oM=true:=(rfl)
theorem ajW (nb sz:Nat)(es:List PV):AV.low nb (.row sz es)=true:=(rfl)
theorem afO (nb o j:Nat):AV.low nb (.aX o j)=decide (o<nb):=(rfl)
theorem afP (nb t off len:Nat):AV.low nb (.ref (.slot t) off len)=true:=(rfl)
theorem afQ (nb o j off len:Nat):AV.low nb (.ref (.cell o j) off len)=decide (o<nb):=(rfl)
theorem afR (nb t i j:Nat):AV.low nb (.pU (.slot t) i j)=true:=(rfl)
theorem afS (nb o q i j:Nat):AV.low nb (.pU (.cell o q) i j)=decide (o<nb):=(rfl)
theorem aod (nb f:Nat)(caps:List AV):AV.low nb (.fn f caps)=caps.all fun c=>match c with
  |.pv _=>true
  |.aX o _=>o<nb
  |_=>false:=(rfl)
def aQ:=Zs @afF (Zs @aaV (Zs @look_nil (Zs @aoa (Zs @ajS (Zs @aob (Zs @ajT (Zs (Zs @afG @afH) (Zs @afI (Zs @afJ (Zs @aaW (Zs @aaX (Zs @zV (Zs @afK (Zs @LD (Zs @afL (Zs @LG (Zs @aaY (Zs @IV (Zs @Yf (Zs @afM (Zs @afN (Zs @aaZ (Zs @aoc (Zs @ajU (Zs @ajV (Zs @ajW (Zs @afO (Zs @afP (Zs @afQ (Zs @afR (Zs @afS (@aod))))))))))))))))))))))))))))))))
def aN:=Zs @aQ (Zs @dY (Zs @afm @jX))
end Go.Proofs.YthccglceomoboaaGreatDoor
namespace Go.Proofs.YthccglceomoboaaGreatDoor.V
theorem TP:y7 ⟨0,[]⟩=.agg [.int .i64 0,.list 1 []]:=rfl
def Pj (x y:Wd):Wd:=x ||| y
theorem ajX {n:Int}(h:0≤n):((l7 n).toNat:Int)=l7 n:=by unfold l7;omega
def newE (n:Int):Int:=if n<0∨n > 4096 then 2 else 0
def uI (n:Int):Bm:=if n<0∨n > 4096 then ⟨0,[]⟩ else ⟨n,Zag (l7 n).toNat 0⟩
theorem afT {n:Int}:cal env 169 [.int .i64 n]=some [(y7 (uI n),false),(.int .i64 (newE n),false)]:=by
 have hz:=TP
 unfold newE uI
 by_cases c0:n<0
 ·rw [if_pos (.inl c0),if_pos (.inl c0),hz]
  have F0:(n<0)=True:=eq_true c0
  rw [aj Xb rfl];simp only [He,aQ,Nat.reduceBEq,Nat.reduceLeDiff,Nat.reduceAdd,zd,ze]
  simp only [F0,aN,Nat.reduceMul,Nat.reduceBEq,Nat.reduceLT,Nat.reduceLeDiff,reduceCtorEq,Nat.reduceEqDiff,Nat.reduceAdd,Z1]
 ·have F0:(n<0)=False:=eq_false c0
  by_cases c1:n > 4096
  ·rw [if_pos (.inr c1),if_pos (.inr c1),hz]
   have F1:(n > 4096)=True:=eq_true c1
   rw [aj Xb rfl];simp only [He,aQ,Nat.reduceBEq,Nat.reduceLeDiff,Nat.reduceAdd,zd,ze]
   simp only [F0,F1,aN,Nat.reduceMul,Nat.reduceBEq,Nat.reduceLT,Nat.reduceLeDiff,reduceCtorEq,Nat.reduceEqDiff,Nat.reduceAdd,Z1]
  ·have F1:(n > 4096)=False:=eq_false c1
   rw [if_neg (by omega),if_neg (by omega)]
   have e1:=afC (n:=n) (by omega)
   have hw:0≤l7 n∧l7 n≤64:=by unfold l7;omega
   have F3:(0≤l7 n)=True:=eq_true hw.1
   have F4:(l7 n≤(lim:Int))=True:=eq_true (by unfold lim;omega)
   have F5:(l7 n≤l7 n)=True:=eq_true (ZcD _)
   have z0:eW 0=.int .u64 0:=rfl
   unfold y7
   rw [ZcY,z0]
   rw [aj Xb rfl];simp only [He,aQ,Nat.reduceBEq,Nat.reduceLeDiff,Nat.reduceAdd,zd,ze]
   simp only [F0,F1,e1,F3,F4,F5,aN,Nat.reduceMul,Nat.reduceBEq,Nat.reduceLT,Nat.reduceLeDiff,reduceCtorEq,Nat.reduceEqDiff,Nat.reduceAdd,Z1]
def uJ (size:Int)(e:bf):Bool:=decide (0≤e.start)&&decide (0≤e.count)&&decide (e.start≤size)&&decide (e.count≤size - e.start)
theorem mM {size:Int}{e:bf}:uJ size e=true ↔ 0≤e.start∧0≤e.count∧e.start≤size∧e.count≤size - e.start:=by
 unfold uJ;simp [and_assoc]
theorem aoe {size:Int}{e:bf}(hs:0≤size∧size≤4096):cal env 267 [aU e,.int .i64 size]=some [(.bool (uJ size e),false)]:=by
 unfold uJ aU
 by_cases c0:0≤e.start
 ·have F0:(e.start ≥ 0)=True:=eq_true c0
  rw [decide_eq_true c0]
  by_cases c1:0≤e.count
  ·have F1:(e.count ≥ 0)=True:=eq_true c1
   rw [decide_eq_true c1]
   by_cases c2:e.start≤size
   ·have F2:(e.start≤size)=True:=eq_true c2
    have W:IntKind.i64.wrap (size - e.start)=size - e.start:=aP (by omega)
    rw [decide_eq_true c2]
    rw [aj Ou rfl];simp only [Ep,aQ,Nat.reduceBEq,Nat.reduceLeDiff,Nat.reduceAdd,zd,ze]
    simp only [F0,F1,F2,W,aN,Nat.reduceMul,Nat.reduceBEq,Nat.reduceLT,Nat.reduceLeDiff,reduceCtorEq,Nat.reduceEqDiff,Nat.reduceAdd,Z1]
   ·have F2:(e.start≤size)=False:=eq_false c2
    rw [decide_eq_false c2]
    rw [aj Ou rfl];simp only [Ep,aQ,Nat.reduceBEq,Nat.reduceLeDiff,Nat.reduceAdd,zd,ze]
    simp only [F0,F1,F2,aN,Nat.reduceMul,Nat.reduceBEq,Nat.reduceLT,Nat.reduceLeDiff,reduceCtorEq,Nat.reduceEqDiff,Nat.reduceAdd,Z1]
  ·have F1:(e.count ≥ 0)=False:=eq_false c1
   rw [decide_eq_false c1]
   rw [aj Ou rfl];simp only [Ep,aQ,Nat.reduceBEq,Nat.reduceLeDiff,Nat.reduceAdd,zd,ze]
   simp only [F0,F1,aN,Nat.reduceMul,Nat.reduceBEq,Nat.reduceLT,Nat.reduceLeDiff,reduceCtorEq,Nat.reduceEqDiff,Nat.reduceAdd,Z1]
 ·have F0:(e.start ≥ 0)=False:=eq_false c0
  rw [decide_eq_false c0]
  rw [aj Ou rfl];simp only [Ep,aQ,Nat.reduceBEq,Nat.reduceLeDiff,Nat.reduceAdd,zd,ze]
  simp only [F0,aN,Nat.reduceMul,Nat.reduceBEq,Nat.reduceLT,Nat.reduceLeDiff,reduceCtorEq,Nat.reduceEqDiff,Nat.reduceAdd,Z1]
def chW (f:Wd→Wd→Wd)(ws:List Wd)(e:bf):List Wd:=ws.mapIdx fun k w=>f w (wJ k e.start (e.start+e.count))
theorem Yg (f:Wd→Wd→Wd)(ws:List Wd)(e:bf):(chW f ws e).length=ws.length:=by simp [chW]
def EZ (b:Bm)(e:bf):Int:=if okB b=false then 3 else if uJ b.size e=false then 2 else 0
def Ai (f:Wd→Wd→Wd)(b:Bm)(e:bf):Bm:=if EZ b e=0 then ⟨b.size,chW f b.ws e⟩ else ⟨0,[]⟩
def Dq (a b:List Wd)(i:Nat):List PV:=(a.take i++b.drop i).map eW
theorem afV {a b:List Wd}(h:a.length=b.length)(i:Nat):(Dq a b i).length=b.length:=by simp [Dq];omega
theorem afW {a b:List Wd}(h:a.length=b.length){i:Nat}(hi:i<b.length):(Dq a b i)[i]?=some (eW b[i]):=by
 unfold Dq
 rw [zc,List.getElem?_append_right (by simp;omega),Zac,Za4 (by omega),ZbO,List.getElem?_drop,Nat.add_zero,ZD hi]
 rfl
theorem afX {a b:List Wd}(h:a.length=b.length){i:Nat}(hi:i<a.length):(Dq a b i).set i (eW a[i])=Dq a b (i+1):=by
 unfold Dq
 rw [← Zcb,List.set_append_right _ _ (by simp;omega),Zac,Za4 (by omega),ZbO,ZaG hi,Zam]
 congr 2
 rw [zt (show i<b.length by omega)]
 rfl
theorem aa0 (a b:List Wd):Dq a b 0=b.map eW:=by simp [Dq]
theorem afY {a b:List Wd}(h:a.length=b.length):Dq a b b.length=a.map eW:=by
 unfold Dq
 rw [Za2 (by omega),ZaT (zg _),ZaH]
theorem ajY {f:Wd→Wd→Wd}{ws:List Wd}{e:bf}{i:Nat}(h:i<(chW f ws e).length)(h2:i<ws.length):(chW f ws e)[i]=f ws[i] (wJ i e.start (e.start+e.count)):=by
 simp [chW]
theorem aof {es:List PV}(hl:es.length≤lim):cal env 120 [.list 1 es]=some [(.list 1 es,true)]:=(yS amM).trans (if_pos ⟨rfl,hl⟩)
set_option maxRecDepth 20000 in
theorem ajZ {b:Bm}{e:bf}{f:Wd→Wd→Wd}{gf:Nat}(hf:∀ x y,cal env gf [eW x,eW y]=some [(eW (f x y),false)])(hm:b.ws.length≤64)(he:0≤e.start∧e.start≤4096∧0≤e.count∧e.count≤4096){st:St}(h:st.head [3,4,5,6,9,25,27,28] st.boxes.length=some ⟨sl 55 [(3,.aX 0 0),(4,.aX 1 0),(5,.aX 2 0),(6,.aX 3 0),(9,.row 1 (Dq (chW f b.ws e) b.ws ((0:Nat)))),(25,.any),(27,.pv (.int .i64 b.ws.length)),(28,.pv (.int .i64 (0:Nat)))],[⟨false,[.pv (.func gf [])]⟩,⟨false,[.pv (.int .i64 b.size),.pv (.list 1 (b.ws.map eW))]⟩,⟨false,[.pv (.int .i64 e.start),.pv (.int .i64 e.count)]⟩,⟨false,[.pv (.int .i64 0),.row 1 []]⟩],[],none⟩) :
  den env H6 st=some (.normal,⟨sl 55 [(4,.aX 1 0),(6,.aX 3 0),(7,.any),(9,.row 1 ((chW f b.ws e).map eW))],[⟨false,[.pv (.func gf [])]⟩,⟨false,[.pv (.int .i64 b.size),.pv (.list 1 (b.ws.map eW))]⟩,⟨false,[.pv (.int .i64 e.start),.pv (.int .i64 e.count)]⟩,⟨false,[.pv (.int .i64 0),.row 1 []]⟩],[],none⟩):=by
 unfold H6
 refine bG (env:=env) (nb:=4) (b.ws.length) (fun i=>⟨sl 55 [(3,.aX 0 0),(4,.aX 1 0),(5,.aX 2 0),(6,.aX 3 0),(9,.row 1 (Dq (chW f b.ws e) b.ws (i))),(25,.any),(27,.pv (.int .i64 b.ws.length)),(28,.pv (.int .i64 i))],[⟨false,[.pv (.func gf [])]⟩,⟨false,[.pv (.int .i64 b.size),.pv (.list 1 (b.ws.map eW))]⟩,⟨false,[.pv (.int .i64 e.start),.pv (.int .i64 e.count)]⟩,⟨false,[.pv (.int .i64 0),.row 1 []]⟩],[],none⟩) (fun i=>some (.normal,⟨sl 55 [(4,.aX 1 0),(6,.aX 3 0),(7,.any),(9,.row 1 ((chW f b.ws e).map eW))],[⟨false,[.pv (.func gf [])]⟩,⟨false,[.pv (.int .i64 b.size),.pv (.list 1 (b.ws.map eW))]⟩,⟨false,[.pv (.int .i64 e.start),.pv (.int .i64 e.count)]⟩,⟨false,[.pv (.int .i64 0),.row 1 []]⟩],[],none⟩)) h (fun _=>rfl) (fun _=>by simp only [aQ,dY,Nat.reduceMul,Nat.reduceBEq,Nat.reduceLT,Nat.reduceLeDiff,Nat.reduceAdd,decide_true,Zai,Zaf]) ?_ ?_
 ·intro i rb hi ih
  have hi1:=bH hi (by unfold lim;omega)
  have F1:((i:Int)<(b.ws.length:Int))=True:=eq_true (by omega)
  have hcl:=Yg f b.ws e
  have f1:=afV hcl i
  have f2:=afW hcl hi
  have f3:=afX hcl (i:=i) (by omega)
  have e1:=hf b.ws[i] (wJ i e.start (e.start+e.count))
  rw [ajY (by omega) hi] at f3
  have W:IntKind.i64.wrap (e.start+e.count)=e.start+e.count:=aP (by omega)
  have e2:=afD (k:=i) (a:=e.start) (b:=e.start+e.count) (by omega) (by omega) (by omega)
  unfold eW at e1 e2 f2 f3 ih ⊢
  simp only [HY,F1,W,e1,e2,f1,f2,f3,aC hi,Zae,zb,aN,Nat.reduceMul,Nat.reduceBEq,Nat.reduceLT,Nat.reduceLeDiff,reduceCtorEq,Nat.reduceEqDiff,Nat.reduceAdd,Z1]
  rw [ih _ (by simp only [hi1,aN,Nat.reduceMul,Nat.reduceBEq,Nat.reduceLT,Nat.reduceLeDiff,reduceCtorEq,Nat.reduceEqDiff,Nat.reduceAdd,Z1]<;>rfl)]
 ·intro rb
  rw [afY (Yg f b.ws e)]
  simp only [HY,Zar,aN,Nat.reduceMul,Nat.reduceBEq,Nat.reduceLT,Nat.reduceLeDiff,reduceCtorEq,Nat.reduceEqDiff,Nat.reduceAdd,Z1]
theorem afZ {b:Bm}{e:bf}{f:Wd→Wd→Wd}{gf:Nat}(hf:∀ x y,cal env gf [eW x,eW y]=some [(eW (f x y),false)]) :
  cal env 234 [.agg [.func gf []],y7 b,aU e]=some [(y7 (Ai f b e),false),(.int .i64 (EZ b e),false)]:=by
 have P:∀ b:Bm,part [PV.int .i64 b.size,.list 1 (b.ws.map eW)] 0 (some 2)=some (y7 b):=fun _=>rfl
 have e1:=Oz (b:=b)
 have Z0:((0:Int) != 0)=false:=rfl
 have Z3:((3:Int) != 0)=true:=rfl
 have hz:=TP
 have eA:y7 b=.agg [.int .i64 b.size,.list 1 (b.ws.map eW)]:=rfl
 have eX:aU e=.agg [.int .i64 e.start,.int .i64 e.count]:=rfl
 unfold Ai
 cases c1:okB b with
 |false =>
  have hE:EZ b e=3:=by unfold EZ;rw [if_pos c1]
  rw [hE,if_neg (by decide),hz]
  rw [yj c1] at e1
  rw [eA] at e1 ⊢;rw [eX]
  rw [aj Xc rfl];simp only [H7,aQ,Nat.reduceBEq,Nat.reduceLeDiff,Nat.reduceAdd,zd,ze]
  simp only [e1,Z3,yT,KZ,QX,aN,Nat.reduceMul,Nat.reduceBEq,Nat.reduceLT,Nat.reduceLeDiff,reduceCtorEq,Nat.reduceEqDiff,Nat.reduceAdd,Z1]
 |true =>
  rw [Dp c1] at e1
  have hsz:=kL c1
  have e2:=aoe (size:=b.size) (e:=e) ⟨hsz.1,hsz.2.1⟩
  cases c2:uJ b.size e with
  |false =>
   have hE:EZ b e=2:=by unfold EZ;rw [if_neg (by rw [c1];decide),if_pos c2]
   rw [hE,if_neg (by decide),hz]
   rw [c2] at e2
   rw [eA] at e1 ⊢;rw [eX] at e2 ⊢
   rw [aj Xc rfl];simp only [H7,aQ,Nat.reduceBEq,Nat.reduceLeDiff,Nat.reduceAdd,zd,ze]
   simp only [e1,e2,Z0,aN,Nat.reduceMul,Nat.reduceBEq,Nat.reduceLT,Nat.reduceLeDiff,reduceCtorEq,Nat.reduceEqDiff,Nat.reduceAdd,Z1]
  |true =>
   have hE:EZ b e=0:=by unfold EZ;rw [if_neg (by rw [c1];decide),if_neg (by rw [c2];decide)]
   rw [hE,if_pos rfl]
   rw [c2] at e2
   have hfi:=mM.1 c2
   have k1:=aof (es:=b.ws.map eW) (by rw [zb];unfold lim;omega)
   rw [eA] at e1 ⊢;rw [eX] at e2 ⊢
   rw [aj Xc rfl];simp only [H7,aQ,Nat.reduceBEq,Nat.reduceLeDiff,Nat.reduceAdd,zd,ze]
   simp only [e1,e2,k1,Z0,zb,aN,Nat.reduceMul,Nat.reduceBEq,Nat.reduceLT,Nat.reduceLeDiff,reduceCtorEq,Nat.reduceEqDiff,Nat.reduceAdd,Z1]
   have q1:b.ws.length≤64:=by omega
   have q2:0≤e.start∧e.start≤4096∧0≤e.count∧e.count≤4096:=by omega
   rw [ajZ hf q1 q2]
   rotate_left
   ·rw [aa0]
    simp only [aQ,dY,Nat.reduceMul,Nat.reduceBEq,Nat.reduceLT,Nat.reduceLeDiff,Nat.reduceAdd,decide_true,Zai,Zaf]<;>rfl
   ·simp only [e1,e2,k1,Z0,zb,aN,Nat.reduceMul,Nat.reduceBEq,Nat.reduceLT,Nat.reduceLeDiff,reduceCtorEq,Nat.reduceEqDiff,Nat.reduceAdd,Z1]
    rfl
theorem aog (x y:Wd):cal env 233 [eW x,eW y]=some [(eW (x ||| y),false)]:=by
 have W:=auc x y
 unfold eW
 rw [aj ant rfl];simp only [SB];simp only [start,aH,aK,aF,aJ,aA,aB,aG,aI,Nat.reduceAdd,Nat.reduceSub]
 simp only [W,aY,reduceCtorEq,Nat.reduceEqDiff,Nat.reduceAdd,Nat.reduceLT,Nat.reduceLeDiff,Z1]
theorem aoh (x y:Wd):cal env 272 [eW x,eW y]=some [(eW (x &&& ~~~y),false)]:=by
 have W:=afw x y
 unfold eW
 rw [aj anP rfl];simp only [Tt];simp only [start,aH,aK,aF,aJ,aA,aB,aG,aI,Nat.reduceAdd,Nat.reduceSub]
 simp only [W,aY,reduceCtorEq,Nat.reduceEqDiff,Nat.reduceAdd,Nat.reduceLT,Nat.reduceLeDiff,Z1]
def clW (x y:Wd):Wd:=x &&& ~~~y
--+
theorem af0 {b:Bm}{e:bf}:cal env 170 [y7 b,aU e]=some [(y7 (Ai Pj b e),false),(.int .i64 (EZ b e),false)]:=by
 have e1:=afZ (b:=b) (e:=e) (f:=Pj) (gf:=233) aog
 have eA:∀ a:Bm,y7 a=.agg [.int .i64 a.size,.list 1 (a.ws.map eW)]:=fun _=>rfl
 have eX:aU e=.agg [.int .i64 e.start,.int .i64 e.count]:=rfl
 rw [eA,eA,eX] at e1 ⊢
 rw [aj am3 rfl];simp only [Rz];simp only [start,aH,aK,aF,aJ,aA,aB,aG,aI,Nat.reduceAdd,Nat.reduceSub]
 simp only [e1,aY,reduceCtorEq,Nat.reduceEqDiff,Nat.reduceAdd,Nat.reduceLT,Nat.reduceLeDiff,Z1]
--+
theorem aoi {b:Bm}{e:bf}:cal env 253 [y7 b,aU e]=some [(y7 (Ai clW b e),false),(.int .i64 (EZ b e),false)]:=by
 have e1:=afZ (b:=b) (e:=e) (f:=clW) (gf:=272) aoh
 have eA:∀ a:Bm,y7 a=.agg [.int .i64 a.size,.list 1 (a.ws.map eW)]:=fun _=>rfl
 have eX:aU e=.agg [.int .i64 e.start,.int .i64 e.count]:=rfl
 rw [eA,eA,eX] at e1 ⊢
 rw [aj anF rfl];simp only [SQ];simp only [start,aH,aK,aF,aJ,aA,aB,aG,aI,Nat.reduceAdd,Nat.reduceSub]
 simp only [e1,aY,reduceCtorEq,Nat.reduceEqDiff,Nat.reduceAdd,Nat.reduceLT,Nat.reduceLeDiff,Z1]
theorem sorted_at {l:List Nat}(hs:l.Pairwise (·<·)){j i:Nat}(h:l[j]?=some i):j≤i∧∀ k∈l.take j,k<i:=by
 obtain ⟨hj,rfl⟩:=za.1 h
 have hp:=ZbD.1 hs
 refine ⟨?_,fun k hk=>?_⟩
 ·clear h
  induction j with
  |zero=>exact ZaI _
  |succ j ih =>
   have h1:=ih (by omega)
   have h2:=hp j (j+1) (by omega) hj (by omega)
   omega
 ·obtain ⟨m,hm,rfl⟩:=ZdB.1 hk
  rw [Zc3]
  simp only [Zac] at hm
  exact hp m j (by omega) hj (by omega)
def IX (b:Bm):List Nat:=if okB b then yh b.ws 0 b.size else []
theorem aj0 {b:Bm}{j i:Nat}(h:(IX b)[j]?=some i):i<4096∧j≤i∧∀ k∈(IX b).take j,k<i:=by
 unfold IX at h ⊢
 split at h
 ·rename_i c
  rw [if_pos c]
  have hs:(yh b.ws 0 b.size).Pairwise (·<·):=ZcE.filter _
  have hm:=List.mem_of_getElem? h
  simp only [yh,Zdf,ZaX,ZZ,decide_eq_true_eq] at hm
  have:=kL c
  exact ⟨by omega,sorted_at hs h⟩
 ·simp at h
def JO (b:Bm):List bf:=if okB b then Oy b else []
theorem aoj (b:Bm):exts (IX b)=JO b:=by
 unfold IX JO Oy ext
 split
 ·rename_i c;rw [afB c 0 (by omega)]
 ·rfl
theorem aok {b:Bm}:cal env 154 [y7 b]=some [(.list 2 ((JO b).map aU),true)]:=by
 have e1:=an9 (b:=b) (a:=0)
 have eA:∀ a:Bm,y7 a=.agg [.int .i64 a.size,.list 1 (a.ws.map eW)]:=fun _=>rfl
 rw [eA] at e1 ⊢
 rw [aj amY rfl];simp only [Rt];simp only [start,aH,aK,aF,aJ,aA,aB,aG,aI,Nat.reduceAdd,Nat.reduceSub]
 simp only [e1,aY,reduceCtorEq,Nat.reduceEqDiff,Nat.reduceAdd,Nat.reduceLT,Nat.reduceLeDiff,Z1]
 rw [yX (env:=env) (fun j=>[⟨false,[.pv (.int .i64 b.size),.pv (.list 1 (b.ws.map eW))]⟩,⟨false,[.row 2 ((exts ((IX b).take j)).map aU)]⟩]) (xs:=yI (IX b)) rfl (by have:=ajR (b:=b) (a:=0) (by omega);exact this) rfl ?_]
 ·simp only [yI,zb,ZaL,rH,aY,reduceCtorEq,Nat.reduceEqDiff,Nat.reduceAdd,Nat.reduceLT,Nat.reduceLeDiff,Z1]
  rw [aoj]
 ·intro j x hx sl0
  simp only [yI,zc,Zaq] at hx
  obtain ⟨i,hi,rfl⟩:=hx
  obtain ⟨k1,k2,k3⟩:=aj0 hi
  have hlim:lim=1073741824:=rfl
  have hj:=(za.1 hi).1
  have ht:(IX b).take (j+1)=(IX b).take j++[i]:=by rw [ZbW,hi];rfl
  have hlen:((IX b).take j).length=j:=by simp;omega
  rw [ht]
  rcases jJ ((IX b).take j) with h0|⟨p,q,h0⟩
  ·have F2:(((0:Nat):Int) > 0)=False:=eq_false (by omega)
   have F3:(0+1≤lim)=True:=eq_true (by omega)
   have e0:exts ([]:List Nat)=[]:=rfl
   have e2:exts [i]=[⟨i,1⟩]:=rfl
   refine ⟨?_,?_⟩
   rotate_left
   ·simp only [h0,ZaW,Bl,Bo,F2,F3,e0,e2,aU,Zao,Zap,rH,aY,reduceCtorEq,Nat.reduceEqDiff,Nat.reduceAdd,Nat.reduceLT,Nat.reduceLeDiff,Z1]
    rfl
  ·obtain ⟨pre,⟨s,c⟩,e0,h1,h2,h3,h4⟩:=Dl _ p rfl q
   have hqi:q<i:=k3 q (by rw [h0];simp)
   simp only at h1 h2 h3
   have hpl:p.length+1=j:=by rw [h0] at hlen;simpa using hlen
   have F2:(((pre.length+1:Nat):Int) > 0)=True:=eq_true (by omega)
   have F3:=Lu (n:=pre.length) (by omega)
   have F4:IntKind.i64.wrap (s+c)=s+c:=aP (by omega)
   have F5:IntKind.i64.wrap (c+1)=c+1:=aP (by omega)
   have F6:(pre.length+1+1≤lim)=True:=eq_true (by omega)
   have F7:index (.int .i64 (pre.length:Int)) (pre.length+1)=some pre.length:=aC (by omega)
   by_cases hc:s+c=(i:Int)
   ·have F8:(s+c==(i:Int))=true:=by simpa using hc
    have e2:exts (p++[q]++[i])=pre++[⟨s,c+1⟩]:=by rw [qM,e0,iy,if_pos hc]
    refine ⟨?_,?_⟩
    rotate_left
    ·simp only [h0,Bl,Bo,e0,e2,F2,F3,F4,F5,F6,F7,F8,aU,ZaC,Zap,Zao,rH,aY,reduceCtorEq,Nat.reduceEqDiff,Nat.reduceAdd,Nat.reduceLT,Nat.reduceLeDiff,Z1]
     rfl
   ·have F8:(s+c==(i:Int))=false:=by simpa using hc
    have e2:exts (p++[q]++[i])=pre++[⟨s,c⟩]++[⟨i,1⟩]:=by rw [qM,e0,iy,if_neg hc]
    refine ⟨?_,?_⟩
    rotate_left
    ·simp only [h0,Bl,Bo,e0,e2,F2,F3,F4,F5,F6,F7,F8,aU,ZaC,Zap,Zao,rH,aY,reduceCtorEq,Nat.reduceEqDiff,Nat.reduceAdd,Nat.reduceLT,Nat.reduceLeDiff,Z1]
     rfl
theorem aqL (w:Wd)(s:Nat):(w >>> s &&& 1==(1:Wd))=w.getLsbD s:=by
 have h:w >>> s &&& 1=if w.getLsbD s then 1 else 0:=by
  apply Zcw
  intro j hj
  rw [Zcq,ZbU]
  cases j with
  |zero=>cases h:w.getLsbD s<;>simp [h]
  |succ j =>
   have:(1:Wd).getLsbD (j+1)=false:=by
    rw [show (1:Wd)=1#64 from rfl,BitVec.getLsbD_one];simp
   rw [this,Zbm]
   cases w.getLsbD s<;>simp
 rw [h]
 cases w.getLsbD s<;>rfl
def vW (b:Bm)(s:Int):Bool:=okB b&&(decide (0≤s)&&(decide (s<b.size)&&bit b.ws s.toNat))
theorem Xi {b:Bm}{s:Int}:cal env 177 [y7 b,.int .i64 s]=some [(.bool (vW b s),false)]:=by
 have e1:=Oz (b:=b)
 have P:∀ x y:PV,part [x,y] 0 (some 2)=some (.agg [x,y]):=fun _ _=>rfl
 have eA:y7 b=.agg [.int .i64 b.size,.list 1 (b.ws.map eW)]:=rfl
 have Z0:((0:Int)==0)=true:=rfl
 have Z3:((3:Int)==0)=false:=rfl
 unfold vW
 rw [eA] at e1 ⊢
 cases c:okB b with
 |false =>
  rw [yj c] at e1
  rw [aj Ot rfl];simp only [Eo,aQ,Nat.reduceBEq,Nat.reduceLeDiff,Nat.reduceAdd,zd,ze]
  simp only [e1,Z3,P,aN,Nat.reduceMul,Nat.reduceBEq,Nat.reduceLT,Nat.reduceLeDiff,reduceCtorEq,Nat.reduceEqDiff,Nat.reduceAdd,Z1]
 |true =>
  rw [Dp c] at e1
  have hs:=kL c
  by_cases c0:0≤s
  ·have F0:(s ≥ 0)=True:=eq_true c0
   rw [decide_eq_true c0]
   by_cases c1:s<b.size
   ·have F1:(s<b.size)=True:=eq_true c1
    rw [decide_eq_true c1]
    obtain ⟨i,rfl⟩:∃ i:Nat,s=(i:Int):=⟨s.toNat,by omega⟩
    have h:i / 64<b.ws.length:=by omega
    have T1:(i:Int).tdiv 64=((i / 64:Nat):Int):=by rw [Zbk (by omega)];omega
    have T2:(i:Int).tmod 64=((i % 64:Nat):Int):=by rw [Zas (by omega)];omega
    have W1:IntKind.i64.wrap ((i / 64:Nat):Int)=((i / 64:Nat):Int):=aP (by omega)
    have S0:(((i % 64:Nat):Int)<0)=False:=eq_false (by omega)
    have S1:=afx b.ws[i / 64] (s:=((i % 64:Nat):Int)) (n:=i % 64) rfl
    have S2:=afv (b.ws[i / 64] >>> (i % 64)) 1
    have B1:((1:Wd).toNat:Int)=1:=rfl
    have S3:=afy (b.ws[i / 64] >>> (i % 64) &&& 1) 1
    rw [B1] at S2 S3
    have S4:decide (b.ws[i / 64] >>> (i % 64) &&& 1=(1:Wd))=bit b.ws i:=by rw [IQ h,← aqL];rfl
    rw [S4] at S3
    have e9:(i:Int).toNat=i:=by omega
    rw [e9]
    rw [aj Ot rfl];simp only [Eo,aQ,Nat.reduceBEq,Nat.reduceLeDiff,Nat.reduceAdd,zd,ze]
    simp only [e1,Z0,P,F0,F1,z64,T1,T2,W1,S0,S1,S2,S3,eW,aC h,zc,ZD h,aN,Nat.reduceMul,Nat.reduceBEq,Nat.reduceLT,Nat.reduceLeDiff,reduceCtorEq,Nat.reduceEqDiff,Nat.reduceAdd,Z1]
   ·have F1:(s<b.size)=False:=eq_false c1
    rw [decide_eq_false c1]
    rw [aj Ot rfl];simp only [Eo,aQ,Nat.reduceBEq,Nat.reduceLeDiff,Nat.reduceAdd,zd,ze]
    simp only [e1,Z0,P,F0,F1,aN,Nat.reduceMul,Nat.reduceBEq,Nat.reduceLT,Nat.reduceLeDiff,reduceCtorEq,Nat.reduceEqDiff,Nat.reduceAdd,Z1]
  ·have F0:(s ≥ 0)=False:=eq_false c0
   rw [decide_eq_false c0]
   rw [aj Ot rfl];simp only [Eo,aQ,Nat.reduceBEq,Nat.reduceLeDiff,Nat.reduceAdd,zd,ze]
   simp only [e1,Z0,P,F0,aN,Nat.reduceMul,Nat.reduceBEq,Nat.reduceLT,Nat.reduceLeDiff,reduceCtorEq,Nat.reduceEqDiff,Nat.reduceAdd,Z1]
structure iZ where
 size:Int
 bg:Int
 act:List Int
 bm:Bm
def qg (i:iZ):PV:=.agg [.int .i64 i.size,.int .i64 i.bg,.list 1 (i.act.map eI),.int .i64 i.bm.size,.list 1 (i.bm.ws.map eW)]
def aa1:iZ:=⟨0,0,[],⟨0,[]⟩⟩
theorem iP:qg aa1=.agg [.int .i64 0,.int .i64 0,.list 1 [],.int .i64 0,.list 1 []]:=rfl
def lM (s g:Int):Bool:=decide (1≤s)&&decide (s≤4096)&&decide (1≤g)&&decide (g≤4096)
theorem dA {s g:Int}:lM s g=true ↔ 1≤s∧s≤4096∧1≤g∧g≤4096:=by unfold lM;simp [and_assoc]
--+
theorem af2 {s g:Int}:cal env 172 [.int .i64 s,.int .i64 g]=some [(.bool (lM s g),false)]:=by
 unfold lM
 by_cases c0:1≤s
 ·have F0:(s ≥ 1)=True:=eq_true c0
  rw [decide_eq_true c0]
  by_cases c1:s≤4096
  ·have F1:(s≤4096)=True:=eq_true c1
   rw [decide_eq_true c1]
   by_cases c2:1≤g
   ·have F2:(g ≥ 1)=True:=eq_true c2
    rw [decide_eq_true c2]
    rw [aj Oo rfl];simp only [Em,aQ,Nat.reduceBEq,Nat.reduceLeDiff,Nat.reduceAdd,zd,ze]
    simp only [F0,F1,F2,aN,Nat.reduceMul,Nat.reduceBEq,Nat.reduceLT,Nat.reduceLeDiff,reduceCtorEq,Nat.reduceEqDiff,Nat.reduceAdd,Z1]
   ·have F2:(g ≥ 1)=False:=eq_false c2
    rw [decide_eq_false c2]
    rw [aj Oo rfl];simp only [Em,aQ,Nat.reduceBEq,Nat.reduceLeDiff,Nat.reduceAdd,zd,ze]
    simp only [F0,F1,F2,aN,Nat.reduceMul,Nat.reduceBEq,Nat.reduceLT,Nat.reduceLeDiff,reduceCtorEq,Nat.reduceEqDiff,Nat.reduceAdd,Z1]
  ·have F1:(s≤4096)=False:=eq_false c1
   rw [decide_eq_false c1]
   rw [aj Oo rfl];simp only [Em,aQ,Nat.reduceBEq,Nat.reduceLeDiff,Nat.reduceAdd,zd,ze]
   simp only [F0,F1,aN,Nat.reduceMul,Nat.reduceBEq,Nat.reduceLT,Nat.reduceLeDiff,reduceCtorEq,Nat.reduceEqDiff,Nat.reduceAdd,Z1]
 ·have F0:(s ≥ 1)=False:=eq_false c0
  rw [decide_eq_false c0]
  rw [aj Oo rfl];simp only [Em,aQ,Nat.reduceBEq,Nat.reduceLeDiff,Nat.reduceAdd,zd,ze]
  simp only [F0,aN,Nat.reduceMul,Nat.reduceBEq,Nat.reduceLT,Nat.reduceLeDiff,reduceCtorEq,Nat.reduceEqDiff,Nat.reduceAdd,Z1]
def nM (s g:Int):Int:=(s+g - 1) / g
theorem l9 {s g:Int}(h:lM s g=true):1≤nM s g∧nM s g≤s:=by
 obtain ⟨h1,h2,h3,h4⟩:=dA.1 h
 unfold nM
 constructor
 ·exact (Int.le_ediv_iff_mul_le (by omega)).2 (by omega)
 ·have:s+g - 1<(s+1)*g:=by
   have h5:s≤s*g:=by
    have:=Int.mul_le_mul_of_nonneg_left h3 (show 0≤s by omega)
    omega
   rw [Int.add_mul,Int.one_mul];omega
  have:=Int.ediv_lt_of_lt_mul (by omega) this
  omega
--+
theorem af4 {s g:Int}(h:lM s g=true):cal env 173 [.int .i64 s,.int .i64 g]=some [(.int .i64 (nM s g),false)]:=by
 obtain ⟨h1,h2,h3,h4⟩:=dA.1 h
 have hg:=l9 h
 have W1:IntKind.i64.wrap (s+g)=s+g:=aP (by omega)
 have W2:IntKind.i64.wrap (s+g - 1)=s+g - 1:=aP (by omega)
 have Q:(s+g - 1).tdiv g=nM s g:=by unfold nM;exact Zbk (by omega)
 have W3:IntKind.i64.wrap (nM s g)=nM s g:=aP (by omega)
 have Z:(g=0)=False:=eq_false (by omega)
 rw [aj am4 rfl];simp only [RD,aQ,Nat.reduceBEq,Nat.reduceLeDiff,Nat.reduceAdd,zd,ze]
 simp only [W1,W2,Q,W3,Z,aN,Nat.reduceMul,Nat.reduceBEq,Nat.reduceLT,Nat.reduceLeDiff,reduceCtorEq,Nat.reduceEqDiff,Nat.reduceAdd,Z1]
def zB (s g:Int):Int:=if lM s g then 0 else 2
def jY (s g:Int):iZ:=if lM s g then ⟨s,g,Zag (nM s g).toNat 0,uI (nM s g)⟩ else aa1
theorem aly {s g:Int}:cal env 87 [.int .i64 s,.int .i64 g]=some [(qg (jY s g),false),(.int .i64 (zB s g),false)]:=by
 have e0:=af2 (s:=s) (g:=g)
 unfold jY zB
 cases c:lM s g with
 |false =>
  rw [if_neg (by decide),if_neg (by decide),iP]
  rw [c] at e0
  rw [aj alr rfl];simp only [aaF,aQ,Nat.reduceBEq,Nat.reduceLeDiff,Nat.reduceAdd,zd,ze]
  simp only [e0,aN,Nat.reduceMul,Nat.reduceBEq,Nat.reduceLT,Nat.reduceLeDiff,reduceCtorEq,Nat.reduceEqDiff,Nat.reduceAdd,Z1]
 |true =>
  rw [if_pos rfl,if_pos rfl]
  rw [c] at e0
  have hg:=l9 c
  obtain ⟨_,h2,_,_⟩:=dA.1 c
  have e1:=af4 c
  have e2:=afT (n:=nM s g)
  have hE:newE (nM s g)=0:=by unfold newE;rw [if_neg (by omega)]
  rw [hE] at e2
  have F3:(0≤nM s g)=True:=eq_true (by omega)
  have F4:(nM s g≤(lim:Int))=True:=eq_true (by unfold lim;omega)
  have F5:(nM s g≤nM s g)=True:=eq_true (ZcD _)
  have eA:y7 (uI (nM s g))=.agg [.int .i64 (uI (nM s g)).size,.list 1 ((uI (nM s g)).ws.map eW)]:=rfl
  rw [eA] at e2
  unfold qg
  rw [ZcY,show eI 0=.int .i64 0 from rfl]
  rw [aj alr rfl];simp only [aaF,aQ,Nat.reduceBEq,Nat.reduceLeDiff,Nat.reduceAdd,zd,ze]
  simp only [e0,e1,e2,F3,F4,F5,aN,Nat.reduceMul,Nat.reduceBEq,Nat.reduceLT,Nat.reduceLeDiff,reduceCtorEq,Nat.reduceEqDiff,Nat.reduceAdd,Z1]
def IY (i:iZ)(g:Nat)(n:Int):Bool:=decide (n<0) || (decide (n > 4096) || (decide (n > 0)&&!vW i.bm g))
def kM (i:iZ)(k:Nat):Bool:=((Zaw i.act.length).drop k).all fun g=>!IY i g (i.act.getD g 0)
theorem aa2 {i:iZ}{k:Nat}(h:k<i.act.length):kM i k=(!IY i k i.act[k]&&kM i (k+1)):=by
 unfold kM
 rw [zt (by rw [Zb8];exact h),Zc0,ZbC]
 congr 2
 rw [zP,ZD h]
 rfl
theorem af5 (i:iZ):kM i i.act.length=true:=by
 unfold kM
 rw [ZaT (by rw [Zb8];exact zg _)]
 rfl
def aol (i:iZ):Bool:=lM i.size i.bg&&(decide ((i.act.length:Int)=nM i.size i.bg)&&(okB i.bm&&decide (i.bm.size=(i.act.length:Int))))
def gB (i:iZ):Bool:=aol i&&kM i 0
def af6 (i:iZ):Int:=if gB i then 0 else 3
def ug (i:iZ):List BV:=[.pv (.int .i64 i.size),.pv (.int .i64 i.bg),.pv (.list 1 (i.act.map eI)),.pv (.int .i64 i.bm.size),.pv (.list 1 (i.bm.ws.map eW))]
theorem bP (i:iZ):ug i=[.pv (.int .i64 i.size),.pv (.int .i64 i.bg),.pv (.list 1 (i.act.map eI)),.pv (.int .i64 i.bm.size),.pv (.list 1 (i.bm.ws.map eW))]:=rfl
def aj1 (n:Nat)(i:iZ)(b:Bool):Option (Ex×St):=if b then some (.normal,⟨sl n [(2,.any)],[⟨false,ug i⟩],[],none⟩) else some (.ret,⟨sl n [(2,.pv (.int .i64 3))],[⟨false,ug i⟩],[],none⟩)
theorem af7 (n:Nat)(i:iZ):aj1 n i true=some (.normal,⟨sl n [(2,.any)],[⟨false,ug i⟩],[],none⟩):=rfl
theorem OB (n:Nat)(i:iZ):aj1 n i false=some (.ret,⟨sl n [(2,.pv (.int .i64 3))],[⟨false,ug i⟩],[],none⟩):=rfl
theorem eF (a b c:PV)(x y:PV):part [a,b,c,x,y] 3 (some 2)=some (.agg [x,y]):=rfl
set_option maxRecDepth 20000 in
theorem aj2 {i0:iZ}(hl:i0.act.length≤lim){st:St}(h:st.head [1,38,39,40] st.boxes.length=some ⟨sl 63 [(1,.aX 0 0),(38,.pv (.list 1 (i0.act.map eI))),(39,.pv (.int .i64 i0.act.length)),(40,.pv (.int .i64 (0:Nat)))],[⟨false,ug i0⟩],[],none⟩) :
  den env Hf st=aj1 63 i0 (kM i0 ((0:Nat))):=by
 unfold Hf
 refine bG (env:=env) (nb:=1) (i0.act.length) (fun i=>⟨sl 63 [(1,.aX 0 0),(38,.pv (.list 1 (i0.act.map eI))),(39,.pv (.int .i64 i0.act.length)),(40,.pv (.int .i64 i))],[⟨false,ug i0⟩],[],none⟩) (fun i=>aj1 63 i0 (kM i0 (i))) h (fun _=>rfl) (fun _=>by simp only [aQ,dY,Nat.reduceMul,Nat.reduceBEq,Nat.reduceLT,Nat.reduceLeDiff,Nat.reduceAdd,decide_true,Zai,Zaf]) ?_ ?_
 ·intro i rb hi ih
  have hi1:=bH hi hl
  have F1:((i:Int)<(i0.act.length:Int))=True:=eq_true (by omega)
  rw [aa2 hi]
  have e1:=Xi (b:=i0.bm) (s:=(i:Int))
  have eA:y7 i0.bm=.agg [.int .i64 i0.bm.size,.list 1 (i0.bm.ws.map eW)]:=rfl
  rw [eA] at e1
  have hx:(i0.act.map eI)[i]?=some (.int .i64 i0.act[i]):=by rw [zc,ZD hi];rfl
  unfold IY
  generalize i0.act[i]=n at *
  by_cases c0:n<0
  ·have F2:(n<0)=True:=eq_true c0
   rw [decide_eq_true c0]
   simp only [rF,F1,F2,hx,aC hi,zb,bP,OB,aN,Nat.reduceMul,Nat.reduceBEq,Nat.reduceLT,Nat.reduceLeDiff,reduceCtorEq,Nat.reduceEqDiff,Nat.reduceAdd,Z1]
  ·have F2:(n<0)=False:=eq_false c0
   rw [decide_eq_false c0]
   by_cases c1:n > 4096
   ·have F3:(n > 4096)=True:=eq_true c1
    rw [decide_eq_true c1]
    simp only [rF,F1,F2,F3,hx,aC hi,zb,bP,OB,aN,Nat.reduceMul,Nat.reduceBEq,Nat.reduceLT,Nat.reduceLeDiff,reduceCtorEq,Nat.reduceEqDiff,Nat.reduceAdd,Z1]
   ·have F3:(n > 4096)=False:=eq_false c1
    rw [decide_eq_false c1]
    by_cases c2:n > 0
    ·have F4:(n > 0)=True:=eq_true c2
     rw [decide_eq_true c2]
     cases c3:vW i0.bm (i:Int) with
     |true =>
      rw [c3] at e1
      simp only [rF,F1,F2,F3,F4,hx,e1,eF,aC hi,zb,bP,aN,Nat.reduceMul,Nat.reduceBEq,Nat.reduceLT,Nat.reduceLeDiff,reduceCtorEq,Nat.reduceEqDiff,Nat.reduceAdd,Z1]
      rw [ih _ (by simp only [hi1,bP,aN,Nat.reduceMul,Nat.reduceBEq,Nat.reduceLT,Nat.reduceLeDiff,reduceCtorEq,Nat.reduceEqDiff,Nat.reduceAdd,Z1]<;>rfl)]
     |false =>
      rw [c3] at e1
      simp only [rF,F1,F2,F3,F4,hx,e1,eF,aC hi,zb,bP,OB,aN,Nat.reduceMul,Nat.reduceBEq,Nat.reduceLT,Nat.reduceLeDiff,reduceCtorEq,Nat.reduceEqDiff,Nat.reduceAdd,Z1]
    ·have F4:(n > 0)=False:=eq_false c2
     rw [decide_eq_false c2]
     simp only [rF,F1,F2,F3,F4,hx,aC hi,zb,bP,aN,Nat.reduceMul,Nat.reduceBEq,Nat.reduceLT,Nat.reduceLeDiff,reduceCtorEq,Nat.reduceEqDiff,Nat.reduceAdd,Z1]
     rw [ih _ (by simp only [hi1,bP,aN,Nat.reduceMul,Nat.reduceBEq,Nat.reduceLT,Nat.reduceLeDiff,reduceCtorEq,Nat.reduceEqDiff,Nat.reduceAdd,Z1]<;>rfl)]
 ·intro rb
  rw [af5,af7]
  simp only [rF,Zar,bP,aN,Nat.reduceMul,Nat.reduceBEq,Nat.reduceLT,Nat.reduceLeDiff,reduceCtorEq,Nat.reduceEqDiff,Nat.reduceAdd,Z1]
theorem Xj {i:iZ}(hl:i.act.length≤lim):cal env 181 [qg i]=some [(.int .i64 (af6 i),false)]:=by
 have e0:=af2 (s:=i.size) (g:=i.bg)
 have e2:=Oz (b:=i.bm)
 have eA:y7 i.bm=.agg [.int .i64 i.bm.size,.list 1 (i.bm.ws.map eW)]:=rfl
 have E5:qg i=.agg [.int .i64 i.size,.int .i64 i.bg,.list 1 (i.act.map eI),.int .i64 i.bm.size,.list 1 (i.bm.ws.map eW)]:=rfl
 have Z0:((0:Int) != 0)=false:=rfl
 have Z3:((3:Int) != 0)=true:=rfl
 rw [eA] at e2
 rw [E5]
 unfold af6 gB aol
 cases c0:lM i.size i.bg with
 |false =>
  rw [c0] at e0
  rw [aj IB rfl];simp only [BF,aQ,Nat.reduceBEq,Nat.reduceLeDiff,Nat.reduceAdd,zd,ze]
  simp only [e0,aN,Nat.reduceMul,Nat.reduceBEq,Nat.reduceLT,Nat.reduceLeDiff,reduceCtorEq,Nat.reduceEqDiff,Nat.reduceAdd,Z1]
 |true =>
  rw [c0] at e0
  have e1:=af4 c0
  by_cases c1:(i.act.length:Int)=nM i.size i.bg
  ·have G1:((i.act.length:Int) != nM i.size i.bg)=false:=by simp [c1]
   rw [decide_eq_true c1]
   cases c2:okB i.bm with
   |false =>
    rw [yj c2] at e2
    rw [aj IB rfl];simp only [BF,aQ,Nat.reduceBEq,Nat.reduceLeDiff,Nat.reduceAdd,zd,ze]
    simp only [e0,e1,e2,G1,Z3,eF,zb,aN,Nat.reduceMul,Nat.reduceBEq,Nat.reduceLT,Nat.reduceLeDiff,reduceCtorEq,Nat.reduceEqDiff,Nat.reduceAdd,Z1]
   |true =>
    rw [Dp c2] at e2
    by_cases c3:i.bm.size=(i.act.length:Int)
    ·have G3:(i.bm.size != (i.act.length:Int))=false:=by simp [c3]
     rw [decide_eq_true c3]
     rw [aj IB rfl];simp only [BF,aQ,Nat.reduceBEq,Nat.reduceLeDiff,Nat.reduceAdd,zd,ze]
     simp only [e0,e1,e2,G1,G3,Z0,eF,zb,aN,Nat.reduceMul,Nat.reduceBEq,Nat.reduceLT,Nat.reduceLeDiff,reduceCtorEq,Nat.reduceEqDiff,Nat.reduceAdd,Z1]
     rw [aj2 (i0:=i) hl]
     rotate_left
     ·rw [bP]
      simp only [aQ,dY,Nat.reduceMul,Nat.reduceBEq,Nat.reduceLT,Nat.reduceLeDiff,Nat.reduceAdd,decide_true,Zai,Zaf]<;>rfl
     ·cases kM i 0 with
      |true =>
       rw [af7,bP]
       simp only [e0,e1,e2,G1,G3,Z0,eF,zb,aN,Nat.reduceMul,Nat.reduceBEq,Nat.reduceLT,Nat.reduceLeDiff,reduceCtorEq,Nat.reduceEqDiff,Nat.reduceAdd,Z1]
      |false =>
       rw [OB,bP]
       simp only [e0,e1,e2,G1,G3,Z0,eF,zb,aN,Nat.reduceMul,Nat.reduceBEq,Nat.reduceLT,Nat.reduceLeDiff,reduceCtorEq,Nat.reduceEqDiff,Nat.reduceAdd,Z1]
    ·have G3:(i.bm.size != (i.act.length:Int))=true:=by simp [c3]
     rw [decide_eq_false c3]
     rw [aj IB rfl];simp only [BF,aQ,Nat.reduceBEq,Nat.reduceLeDiff,Nat.reduceAdd,zd,ze]
     simp only [e0,e1,e2,G1,G3,Z0,eF,zb,aN,Nat.reduceMul,Nat.reduceBEq,Nat.reduceLT,Nat.reduceLeDiff,reduceCtorEq,Nat.reduceEqDiff,Nat.reduceAdd,Z1]
  ·have G1:((i.act.length:Int) != nM i.size i.bg)=true:=by simp [c1]
   rw [decide_eq_false c1]
   rw [aj IB rfl];simp only [BF,aQ,Nat.reduceBEq,Nat.reduceLeDiff,Nat.reduceAdd,zd,ze]
   simp only [e0,e1,G1,zb,aN,Nat.reduceMul,Nat.reduceBEq,Nat.reduceLT,Nat.reduceLeDiff,reduceCtorEq,Nat.reduceEqDiff,Nat.reduceAdd,Z1]
def oI (s:Int)(e:bf):Bool:=decide (0≤e.start)&&(decide (1≤e.count)&&(decide (e.start<s)&&decide (e.count≤s - e.start)))
theorem kN {s:Int}{e:bf}:oI s e=true ↔ 0≤e.start∧1≤e.count∧e.start<s∧e.count≤s - e.start:=by unfold oI;simp
def jA (s g:Int)(e:bf):bf:=if oI s e then ⟨e.start / g,(e.start+e.count - 1) / g - e.start / g+1⟩ else ⟨0,0⟩
def aom (s:Int)(e:bf):Int:=if oI s e then 0 else 2
theorem Dt {s g:Int}{e:bf}(h:lM s g=true)(hb:oI s e=true):0≤(jA s g e).start∧1≤(jA s g e).count∧(jA s g e).start+(jA s g e).count≤nM s g:=by
 obtain ⟨h1,h2,h3,h4⟩:=dA.1 h
 obtain ⟨b1,b2,b3,b4⟩:=kN.1 hb
 have k0:0≤e.start / g:=ZbR b1 (by omega)
 have k1:e.start / g≤(e.start+e.count - 1) / g:=ZcJ (by omega) (by omega)
 have k2:(e.start+e.count - 1) / g≤(s - 1) / g:=ZcJ (by omega) (by omega)
 have k3:nM s g=(s - 1) / g+1:=by
  unfold nM
  rw [show s+g - 1=(s - 1)+1*g by omega,Int.add_mul_ediv_right _ _ (by omega)]
 unfold jA
 rw [if_pos hb,k3]
 simp only
 omega
theorem aon {i:iZ}{e:bf}(h:lM i.size i.bg=true):cal env 235 [qg i,aU e]=some [(aU (jA i.size i.bg e),false),(.int .i64 (aom i.size e),false)]:=by
 obtain ⟨h1,h2,h3,h4⟩:=dA.1 h
 have E5:qg i=.agg [.int .i64 i.size,.int .i64 i.bg,.list 1 (i.act.map eI),.int .i64 i.bm.size,.list 1 (i.bm.ws.map eW)]:=rfl
 have eX:aU e=.agg [.int .i64 e.start,.int .i64 e.count]:=rfl
 have hz:aU ⟨0,0⟩=.agg [.int .i64 0,.int .i64 0]:=rfl
 rw [E5,eX]
 unfold aom jA
 by_cases c0:e.start<0
 ·have F0:(e.start<0)=True:=eq_true c0
  have hb:oI i.size e=false:=by rw [Za0];intro hh;have:=kN.1 hh;omega
  rw [hb,if_neg (by decide),if_neg (by decide),hz]
  rw [aj IC rfl];simp only [BG,aQ,Nat.reduceBEq,Nat.reduceLeDiff,Nat.reduceAdd,zd,ze]
  simp only [F0,aN,Nat.reduceMul,Nat.reduceBEq,Nat.reduceLT,Nat.reduceLeDiff,reduceCtorEq,Nat.reduceEqDiff,Nat.reduceAdd,Z1]
 ·have F0:(e.start<0)=False:=eq_false c0
  by_cases c1:e.count<1
  ·have F1:(e.count<1)=True:=eq_true c1
   have hb:oI i.size e=false:=by rw [Za0];intro hh;have:=kN.1 hh;omega
   rw [hb,if_neg (by decide),if_neg (by decide),hz]
   rw [aj IC rfl];simp only [BG,aQ,Nat.reduceBEq,Nat.reduceLeDiff,Nat.reduceAdd,zd,ze]
   simp only [F0,F1,aN,Nat.reduceMul,Nat.reduceBEq,Nat.reduceLT,Nat.reduceLeDiff,reduceCtorEq,Nat.reduceEqDiff,Nat.reduceAdd,Z1]
  ·have F1:(e.count<1)=False:=eq_false c1
   by_cases c2:e.start ≥ i.size
   ·have F2:(e.start ≥ i.size)=True:=eq_true c2
    have hb:oI i.size e=false:=by rw [Za0];intro hh;have:=kN.1 hh;omega
    rw [hb,if_neg (by decide),if_neg (by decide),hz]
    rw [aj IC rfl];simp only [BG,aQ,Nat.reduceBEq,Nat.reduceLeDiff,Nat.reduceAdd,zd,ze]
    simp only [F0,F1,F2,aN,Nat.reduceMul,Nat.reduceBEq,Nat.reduceLT,Nat.reduceLeDiff,reduceCtorEq,Nat.reduceEqDiff,Nat.reduceAdd,Z1]
   ·have F2:(e.start ≥ i.size)=False:=eq_false c2
    have W1:IntKind.i64.wrap (i.size - e.start)=i.size - e.start:=aP (by omega)
    by_cases c3:e.count > i.size - e.start
    ·have F3:(e.count > i.size - e.start)=True:=eq_true c3
     have hb:oI i.size e=false:=by rw [Za0];intro hh;have:=kN.1 hh;omega
     rw [hb,if_neg (by decide),if_neg (by decide),hz]
     rw [aj IC rfl];simp only [BG,aQ,Nat.reduceBEq,Nat.reduceLeDiff,Nat.reduceAdd,zd,ze]
     simp only [F0,F1,F2,F3,W1,aN,Nat.reduceMul,Nat.reduceBEq,Nat.reduceLT,Nat.reduceLeDiff,reduceCtorEq,Nat.reduceEqDiff,Nat.reduceAdd,Z1]
    ·have F3:(e.count > i.size - e.start)=False:=eq_false c3
     have hb:oI i.size e=true:=kN.2 (by omega)
     have hin:=Dt h hb
     have hgl:=l9 h
     rw [hb,if_pos rfl,if_pos rfl]
     have Zg:(i.bg=0)=False:=eq_false (by omega)
     have Q1:e.start.tdiv i.bg=e.start / i.bg:=Zbk (by omega)
     have Q2:(e.start+e.count - 1).tdiv i.bg=(e.start+e.count - 1) / i.bg:=Zbk (by omega)
     have d1:0≤e.start / i.bg∧e.start / i.bg≤4096:=by
      refine ⟨ZbR (by omega) (by omega),?_⟩
      have:=Zd3 i.bg (show 0≤e.start by omega);omega
     have d2:0≤(e.start+e.count - 1) / i.bg∧(e.start+e.count - 1) / i.bg≤4096:=by
      refine ⟨ZbR (by omega) (by omega),?_⟩
      have:=Zd3 i.bg (show 0≤e.start+e.count - 1 by omega);omega
     have W2:IntKind.i64.wrap (e.start / i.bg)=e.start / i.bg:=aP (by omega)
     have W3:IntKind.i64.wrap (e.start+e.count)=e.start+e.count:=aP (by omega)
     have W4:IntKind.i64.wrap (e.start+e.count - 1)=e.start+e.count - 1:=aP (by omega)
     have W5:IntKind.i64.wrap ((e.start+e.count - 1) / i.bg)=(e.start+e.count - 1) / i.bg:=aP (by omega)
     have W6:IntKind.i64.wrap ((e.start+e.count - 1) / i.bg - e.start / i.bg)=(e.start+e.count - 1) / i.bg - e.start / i.bg:=aP (by omega)
     have W7:IntKind.i64.wrap ((e.start+e.count - 1) / i.bg - e.start / i.bg+1)=(e.start+e.count - 1) / i.bg - e.start / i.bg+1:=aP (by omega)
     unfold aU
     rw [aj IC rfl];simp only [BG,aQ,Nat.reduceBEq,Nat.reduceLeDiff,Nat.reduceAdd,zd,ze]
     simp only [F0,F1,F2,F3,W1,W2,W3,W4,W5,W6,W7,Q1,Q2,Zg,aN,Nat.reduceMul,Nat.reduceBEq,Nat.reduceLT,Nat.reduceLeDiff,reduceCtorEq,Nat.reduceEqDiff,Nat.reduceAdd,Z1]
def yR (s:Int)(n:Nat):List (List PV):=(Zaw n).map fun (j:Nat)=>[PV.int .i64 (s+(j:Int))]
theorem OC (s:Int)(n:Nat):yR s (n+1)=yR s n++[[.int .i64 (s+(n:Int))]]:=by simp [yR,ZbI]
theorem yt (s:Int)(n:Nat):(yR s n).length=n:=by simp [yR]
theorem aj3 (s:Int){n m:Nat}(h:m≤n):(yR s n).take m=yR s m:=by
 unfold yR
 rw [← Zcj,List.take_range,Za4 h]
theorem Yh {s:Int}{n j:Nat}{x:List PV}(h:(yR s n)[j]?=some x):j<n∧x=[.int .i64 (s+(j:Int))]:=by
 have hj:=(za.1 h).1
 rw [yt] at hj
 refine ⟨hj,?_⟩
 unfold yR at h
 rw [zc,List.getElem?_range hj] at h
 simpa using h.symm
theorem aj6 {s:Int}{n:Nat}(hs:0≤s∧s≤100000)(hn:n≤100000)
  {st:St} (h:st.head [0,1,5,6] st.boxes.length=some ⟨[.oM,.pv (.cu [.int .i64 s,.int .i64 n] 0),.any,.any,.any,.pv (.int .i64 n),.pv (.int .i64 (0:Nat)),.any,.any,.any,.any,.any,.any,.any,.any,.any,.any],[],[],some none⟩) :
  den env xZ st=some (.normal,⟨[.any,.any,.any,.any,.any,.any,.any,.any,.any,.any,.any,.any,.any,.any,.any,.any,.any],[],yR s n,some none⟩):=by
 unfold xZ
 refine bG (env:=env) n (fun i=>⟨[.oM,.pv (.cu [.int .i64 s,.int .i64 n] 0),.any,.any,.any,.pv (.int .i64 n),.pv (.int .i64 i),.any,.any,.any,.any,.any,.any,.any,.any,.any,.any],[],yR s i,some none⟩) (fun _=>some (.normal,⟨[.any,.any,.any,.any,.any,.any,.any,.any,.any,.any,.any,.any,.any,.any,.any,.any,.any],[],yR s n,some none⟩)) h (fun _=>rfl) (fun _=>rfl) ?_ ?_
 ·intro i rb hi ih
  have hi1:=bH hi (by unfold lim;omega)
  have F1:((i:Int)<(n:Int))=True:=eq_true (by omega)
  have W1:IntKind.i64.wrap (s+(i:Int))=s+(i:Int):=aP (by omega)
  simp only [xY,F1,W1,aY,reduceCtorEq,Nat.reduceEqDiff,Nat.reduceAdd,Nat.reduceLT,Nat.reduceLeDiff,Z1]
  rw [ih _ (by simp only [hi1];rw [OC];rfl)]
 ·intro rb
  simp only [xY,Zar,aY,reduceCtorEq,Nat.reduceEqDiff,Nat.reduceAdd,Nat.reduceLT,Nat.reduceLeDiff,Z1]
  rfl
theorem af8 {s:Int}{n m:Nat}(hs:0≤s∧s≤100000)(hn:n≤100000)(hm:m<n)
  {st:St} (h:st.head [0,1,5,6] st.boxes.length=some ⟨[.oM,.pv (.cu [.int .i64 s,.int .i64 n] 0),.any,.any,.any,.pv (.int .i64 n),.pv (.int .i64 (0:Nat)),.any,.any,.any,.any,.any,.any,.any,.any,.any,.any],[],[],some (some (m+1))⟩) :
  den env xZ st=some (.ret,⟨[.any,.any,.any,.any,.any,.any,.any,.any,.any,.any,.any,.any,.any,.any,.any,.any,.any],[],yR s (m+1),some (some (m+1))⟩):=by
 unfold xZ
 refine bG (env:=env) m (fun i=>⟨[.oM,.pv (.cu [.int .i64 s,.int .i64 n] 0),.any,.any,.any,.pv (.int .i64 n),.pv (.int .i64 i),.any,.any,.any,.any,.any,.any,.any,.any,.any,.any],[],yR s i,some (some (m+1))⟩) (fun _=>some (.ret,⟨[.any,.any,.any,.any,.any,.any,.any,.any,.any,.any,.any,.any,.any,.any,.any,.any,.any],[],yR s (m+1),some (some (m+1))⟩)) h (fun _=>rfl) (fun _=>rfl) ?_ ?_
 ·intro i rb hi ih
  have hi1:=bH hi (by unfold lim;omega)
  have F1:((i:Int)<(n:Int))=True:=eq_true (by omega)
  have F2:((yR s i).length<m+1)=True:=eq_true (by rw [yt];omega)
  have F3:((yR s i).length+1==m+1)=false:=by rw [yt];simp;omega
  have W1:IntKind.i64.wrap (s+(i:Int))=s+(i:Int):=aP (by omega)
  simp only [xY,F1,F2,F3,W1,aY,reduceCtorEq,Nat.reduceEqDiff,Nat.reduceAdd,Nat.reduceLT,Nat.reduceLeDiff,Z1]
  rw [ih _ (by simp only [hi1];rw [OC];rfl)]
 ·intro rb
  have F1:((m:Int)<(n:Int))=True:=eq_true (by omega)
  have F2:((yR s m).length<m+1)=True:=eq_true (by rw [yt];omega)
  have F3:((yR s m).length+1==m+1)=true:=by rw [yt];simp
  have W1:IntKind.i64.wrap (s+(m:Int))=s+(m:Int):=aP (by omega)
  simp only [xY,F1,F2,F3,W1,aY,reduceCtorEq,Nat.reduceEqDiff,Nat.reduceAdd,Nat.reduceLT,Nat.reduceLeDiff,Z1]
  rw [OC]
  rfl
theorem Yi {s:Int}{n:Nat}(hs:0≤s∧s≤100000)(hn:n≤100000):iter env 236 [.cu [.int .i64 s,.int .i64 n] 0] none=some (yR s n):=by
 rw [qL afg rfl rfl]
 simp only [Lj,zU,aH,aK,aF,aJ,aA,aB,aG,aI,Nat.reduceAdd,Nat.reduceSub]
 simp only [aY,reduceCtorEq,Nat.reduceEqDiff,Nat.reduceAdd,Nat.reduceLT,Nat.reduceLeDiff,Z1]
 rw [aj6 hs hn]
 rotate_left
 ·rfl
 ·rfl
theorem af9 {s:Int}{n m:Nat}(hs:0≤s∧s≤100000)(hn:n≤100000)(hm:m<n):iter env 236 [.cu [.int .i64 s,.int .i64 n] 0] (some (m+1))=some ((yR s n).take (m+1)):=by
 rw [aj3 s (by omega),qL afg rfl rfl]
 simp only [Lj,zU,aH,aK,aF,aJ,aA,aB,aG,aI,Nat.reduceAdd,Nat.reduceSub]
 simp only [aY,reduceCtorEq,Nat.reduceEqDiff,Nat.reduceAdd,Nat.reduceLT,Nat.reduceLeDiff,Z1]
 rw [af8 hs hn hm]
 rotate_left
 ·rfl
 ·rfl
theorem aga {e:bf}:cal env 176 [aU e]=some [(.func 236 [.cu [.int .i64 e.start,.int .i64 e.count] 0],false)]:=by
 unfold aU
 rw [aj am5 rfl];simp only [RF];simp only [start,aH,aK,aF,aJ,aA,aB,aG,aI,Nat.reduceAdd,Nat.reduceSub]
 simp only [aY,reduceCtorEq,Nat.reduceEqDiff,Nat.reduceAdd,Nat.reduceLT,Nat.reduceLeDiff,Z1]
def zX (n:Int):Int:=if n=4096 then 0 else n+1
def rZ (n:Int):Int:=if n=4096 then 6 else 0
def vX (n:Int):Int:=if n=0 then 0 else n - 1
def oJ (n:Int):Int:=if n=0 then 12 else 0
theorem aoo {n:Int}(hn:0≤n∧n≤4096):cal env 175 [.int .i64 n]=some [(.int .i64 (zX n),false),(.int .i64 (rZ n),false)]:=by
 have W:IntKind.i64.wrap (n+1)=n+1:=aP (by omega)
 unfold zX rZ
 by_cases c:n=4096
 ·have F1:(n==4096)=true:=by simp [c]
  rw [if_pos c,if_pos c]
  rw [aj afd rfl];simp only [Ld];simp only [start,aH,aK,aF,aJ,aA,aB,aG,aI,Nat.reduceAdd,Nat.reduceSub]
  simp only [F1,aY,reduceCtorEq,Nat.reduceEqDiff,Nat.reduceAdd,Nat.reduceLT,Nat.reduceLeDiff,Z1]
 ·have F1:(n==4096)=false:=by simp [c]
  rw [if_neg c,if_neg c]
  rw [aj afd rfl];simp only [Ld];simp only [start,aH,aK,aF,aJ,aA,aB,aG,aI,Nat.reduceAdd,Nat.reduceSub]
  simp only [F1,W,aY,reduceCtorEq,Nat.reduceEqDiff,Nat.reduceAdd,Nat.reduceLT,Nat.reduceLeDiff,Z1]
theorem aop {n:Int}(hn:0≤n∧n≤4096):cal env 254 [.int .i64 n]=some [(.int .i64 (vX n),false),(.int .i64 (oJ n),false)]:=by
 have W:IntKind.i64.wrap (n - 1)=n - 1:=aP (by omega)
 unfold vX oJ
 by_cases c:n=0
 ·have F1:(n==0)=true:=by simp [c]
  rw [if_pos c,if_pos c]
  rw [aj afj rfl];simp only [Lp];simp only [start,aH,aK,aF,aJ,aA,aB,aG,aI,Nat.reduceAdd,Nat.reduceSub]
  simp only [F1,aY,reduceCtorEq,Nat.reduceEqDiff,Nat.reduceAdd,Nat.reduceLT,Nat.reduceLeDiff,Z1]
 ·have F1:(n==0)=false:=by simp [c]
  rw [if_neg c,if_neg c]
  rw [aj afj rfl];simp only [Lp];simp only [start,aH,aK,aF,aJ,aA,aB,aG,aI,Nat.reduceAdd,Nat.reduceSub]
  simp only [F1,W,aY,reduceCtorEq,Nat.reduceEqDiff,Nat.reduceAdd,Nat.reduceLT,Nat.reduceLeDiff,Z1]
theorem agb {i:iZ}:kM i 0=true ↔ ∀ g (h:g<i.act.length),IY i g i.act[g]=false:=by
 unfold kM
 rw [ZaE,zw]
 constructor
 ·intro h g hg
  have:=h g (ZaX.2 hg)
  rw [zP,ZD hg] at this
  simpa using this
 ·intro h g hg
  have hg:=ZaX.1 hg
  rw [zP,ZD hg]
  simpa using h g hg
theorem bQ {i:iZ}:gB i=true ↔ lM i.size i.bg=true∧(i.act.length:Int)=nM i.size i.bg∧okB i.bm=true∧i.bm.size=(i.act.length:Int)∧∀ g (h:g<i.act.length),IY i g i.act[g]=false:=by
 unfold gB aol
 rw [ZZ,agb]
 simp [and_assoc]
theorem BP {i:iZ}{g:Nat}{n:Int}(h:IY i g n=false):(0≤n∧n≤4096)∧(0<n→vW i.bm g=true):=by
 unfold IY at h
 simp only [Bool.or_eq_false_iff,decide_eq_false_iff_not,Bool.and_eq_false_iff,Bool.not_eq_false'] at h
 obtain ⟨h1,h2,h3⟩:=h
 refine ⟨by omega,fun h4=>?_⟩
 rcases h3 with h3|h3
 ·omega
 ·simpa using h3
theorem aoq {i:iZ}(h:gB i=true){g:Nat}(hg:g<i.act.length):0≤i.act[g]∧i.act[g]≤4096:=(BP ((bQ.1 h).2.2.2.2 g hg)).1
def kP (v:Int→Int)(l:List Int)(s j:Nat):List Int:=l.mapIdx fun k n=>if s≤k∧k<s+j then v n else n
theorem fG (v:Int→Int)(l:List Int)(s j:Nat):(kP v l s j).length=l.length:=by simp [kP]
theorem pF {v:Int→Int}{l:List Int}{s j k:Nat}(h:k<(kP v l s j).length):(kP v l s j)[k]=if s≤k∧k<s+j then v (l[k]'(by rw [fG] at h;exact h)) else l[k]'(by rw [fG] at h;exact h):=ZcQ
theorem zY (v:Int→Int)(l:List Int)(s:Nat):kP v l s 0=l:=by
 apply Za6
 ·exact fG ..
 ·intro k h1 h2
  rw [pF,if_neg (by omega)]
theorem aa3 (v:Int→Int){l:List Int}{s j:Nat}(h:s+j<l.length):(kP v l s j)[s+j]?=some l[s+j]:=by
 rw [ZD (by rw [fG];exact h),pF,if_neg (by omega)]
theorem aa4 (v:Int→Int){l:List Int}{s j:Nat}(h:s+j<l.length):(kP v l s j).set (s+j) (v l[s+j])=kP v l s (j+1):=by
 apply Za6
 ·simp [fG]
 ·intro k h1 h2
  rw [ZcI,pF,pF]
  split
  ·subst_vars;rw [if_pos (by omega)]
  ·by_cases c:s≤k∧k<s+j
   ·rw [if_pos c,if_pos (by omega)]
   ·rw [if_neg c,if_neg (by omega)]
def Du (er:Int→Int)(l:List Int)(s c:Nat):Int:=match ((l.drop s).take c).find? fun n=>er n != 0 with
 |some n=>er n
 |none=>0
theorem rJ (er:Int→Int){l:List Int}{s c:Nat}(h:s+c≤l.length):(Du er l s c=0∧∀ j (hj:j<c),er (l[s+j]'(by omega))=0)∨∃ m,∃ hm:m<c,(∀ j (hj:j<m),er (l[s+j]'(by omega))=0)∧er (l[s+m]'(by omega))≠0∧Du er l s c=er (l[s+m]'(by omega)):=by
 induction c generalizing s with
 |zero=>exact .inl ⟨by simp [Du],fun j hj=>by omega⟩
 |succ c ih =>
  have hs:s<l.length:=by omega
  have e:Du er l s (c+1)=if er l[s]=0 then Du er l (s+1) c else er l[s]:=by
   unfold Du
   rw [zt hs,Zbw,List.find?_cons]
   by_cases c0:er l[s]=0
   ·rw [if_pos c0];simp [c0]
   ·rw [if_neg c0]
    have:(er l[s] != 0)=true:=by simp [c0]
    rw [this]
  rw [e]
  by_cases c0:er l[s]=0
  ·rw [if_pos c0]
   rcases ih (s:=s+1) (by omega) with ⟨h1,h2⟩|⟨m,hm,h1,h2,h3⟩
   ·refine .inl ⟨h1,fun j hj=>?_⟩
    cases j with
    |zero=>exact c0
    |succ j =>
     have:=h2 j (by omega)
     simp only [show s+1+j=s+(j+1) by omega] at this
     exact this
   ·refine .inr ⟨m+1,by omega,fun j hj=>?_,?_,?_⟩
    ·cases j with
     |zero=>exact c0
     |succ j =>
      have:=h1 j (by omega)
      simp only [show s+1+j=s+(j+1) by omega] at this
      exact this
    ·simp only [show s+1+m=s+(m+1) by omega] at h2
     exact h2
    ·rw [h3]
     simp only [show s+1+m=s+(m+1) by omega]
  ·rw [if_neg c0]
   exact .inr ⟨0,by omega,fun j hj=>by omega,c0,rfl⟩
def EM (er:Int→Int)(i:iZ)(e:bf):Int:=if gB i=false then 3 else if oI i.size e=false then 2 else Du er i.act (jA i.size i.bg e).start.toNat (jA i.size i.bg e).count.toNat
def Pm (v er:Int→Int)(i:iZ)(e:bf):iZ:=if EM er i e=0 then { i with act:=kP v i.act (jA i.size i.bg e).start.toNat (jA i.size i.bg e).count.toNat } else aa1
def cgX (er:Int→Int)(i:iZ)(e:bf):bf:=if EM er i e=0 then jA i.size i.bg e else ⟨0,0⟩
theorem agc {es:List PV}(hl:es.length≤lim):cal env 107 [.list 1 es]=some [(.list 1 es,true)]:=(yS amL).trans (if_pos ⟨rfl,hl⟩)
set_option maxRecDepth 20000 in
theorem agd {f:Nat}{v er:Int→Int}(hf:∀ n,0≤n∧n≤4096→cal env f [.int .i64 n]=some [(.int .i64 (v n),false),(.int .i64 (er n),false)]){i:iZ}{e:bf}(hl:i.act.length≤lim) :
  cal env 174 [qg i,aU e,.func f []]=some [(qg (Pm v er i e),false),(aU (cgX er i e),false),(.int .i64 (EM er i e),false)]:=by
 have e0:=Xj (i:=i) hl
 have E5:qg i=.agg [.int .i64 i.size,.int .i64 i.bg,.list 1 (i.act.map eI),.int .i64 i.bm.size,.list 1 (i.bm.ws.map eW)]:=rfl
 have eX:aU e=.agg [.int .i64 e.start,.int .i64 e.count]:=rfl
 have hz:aU ⟨0,0⟩=.agg [.int .i64 0,.int .i64 0]:=rfl
 have Z0:((0:Int) != 0)=false:=rfl
 have Z3:((3:Int) != 0)=true:=rfl
 have Z2:((2:Int) != 0)=true:=rfl
 have N3:¬ ((3:Int)=0):=by decide
 have N2:¬ ((2:Int)=0):=by decide
 unfold af6 at e0
 cases c0:gB i with
 |false =>
  have hE:EM er i e=3:=by unfold EM;rw [c0];rfl
  unfold Pm cgX
  rw [hE,if_neg N3,if_neg N3,hz,iP]
  rw [c0] at e0
  rw [E5] at e0 ⊢
  rw [eX]
  rw [aj Oq rfl];simp only [En,aQ,Nat.reduceBEq,Nat.reduceLeDiff,Nat.reduceAdd,zd,ze]
  simp only [e0,Z3,aN,Nat.reduceMul,Nat.reduceBEq,Nat.reduceLT,Nat.reduceLeDiff,reduceCtorEq,Nat.reduceEqDiff,Nat.reduceAdd,Z1]
 |true =>
  obtain ⟨h1,h2,h3,h4,h5⟩:=bQ.1 c0
  rw [c0,if_pos rfl] at e0
  have e1:=aon (i:=i) (e:=e) h1
  unfold aom at e1
  have P5:∀ a b c d e:PV,part [a,b,c,d,e] 0 (some 5)=some (.agg [a,b,c,d,e]):=fun _ _ _ _ _=>rfl
  have P2:∀ a b:PV,part [a,b] 0 (some 2)=some (.agg [a,b]):=fun _ _=>rfl
  cases c1:oI i.size e with
  |false =>
   have hE:EM er i e=2:=by unfold EM;rw [c0,c1];rfl
   unfold Pm cgX
   rw [hE,if_neg N2,if_neg N2,hz,iP]
   have ht:jA i.size i.bg e=⟨0,0⟩:=by unfold jA;rw [c1];rfl
   rw [c1,ht,hz,if_neg (by decide)] at e1
   rw [E5] at e0 e1 ⊢
   rw [eX] at e1 ⊢
   rw [aj Oq rfl];simp only [En,aQ,Nat.reduceBEq,Nat.reduceLeDiff,Nat.reduceAdd,zd,ze]
   simp only [e0,e1,Z0,Z2,P5,P2,aN,Nat.reduceMul,Nat.reduceBEq,Nat.reduceLT,Nat.reduceLeDiff,reduceCtorEq,Nat.reduceEqDiff,Nat.reduceAdd,Z1]
  |true =>
   have hgl:=l9 h1
   obtain ⟨t1,t2,t3⟩:=Dt h1 c1
   have e2:=aga (e:=jA i.size i.bg e)
   have e4:=agc (es:=i.act.map eI) (by simpa using hl)
   have hE:EM er i e=Du er i.act (jA i.size i.bg e).start.toNat (jA i.size i.bg e).count.toNat:=by unfold EM;rw [c0,c1];rfl
   rw [c1,if_pos rfl] at e1
   unfold Pm cgX
   rw [hE]
   generalize jA i.size i.bg e=t at *
   obtain ⟨ts,tc⟩:=t
   simp only at t1 t2 t3
   obtain ⟨s,rfl⟩:∃ s:Nat,ts=(s:Int):=⟨ts.toNat,by omega⟩
   obtain ⟨c,rfl⟩:∃ c:Nat,tc=(c:Int):=⟨tc.toNat,by omega⟩
   simp only [Zav]
   have hx:aU ⟨(s:Int),(c:Int)⟩=.agg [.int .i64 (s:Int),.int .i64 (c:Int)]:=rfl
   rw [hx] at e1 e2
   rw [E5] at e0 e1 ⊢
   rw [eX] at e1 ⊢
   have hlen:i.act.length≤4096:=by have:=(dA.1 h1).2.1;omega
   have hsc:s+c≤i.act.length:=by omega
   have hit:=Yi (s:=(s:Int)) (n:=c) (by omega) (by omega)
   have hb0:(i.act.map eI)=(kP v i.act s 0).map eI:=by rw [zY]
   have hset:∀ j (hj:j<c),((kP v i.act s j).map eI).set (s+j) (.int .i64 (v (i.act[s+j]'(by omega))))=(kP v i.act s (j+1)).map eI:=fun j hj=>by
    rw [← aa4 v (show s+j<i.act.length by omega),Zcb];rfl
   have hget:∀ j (hj:j<c),((kP v i.act s j).map eI)[s+j]?=some (.int .i64 (i.act[s+j]'(by omega))):=fun j hj=>by
    rw [zc,aa3 v (show s+j<i.act.length by omega)];rfl
   have hcl:∀ j,(kP v i.act s j).length=i.act.length:=fun j=>fG ..
   have hact:∀ j (hj:j<c),0≤i.act[s+j]'(by omega)∧i.act[s+j]'(by omega)≤4096:=fun j hj=>aoq c0 _
   have Xk:∀ j (hj:j<c),cal env f [.int .i64 (i.act[s+j]'(by omega))]=some [(.int .i64 (v (i.act[s+j]'(by omega))),false),(.int .i64 (er (i.act[s+j]'(by omega))),false)]:=fun j hj=>hf _ (hact j hj)
   rcases rJ er hsc with ⟨b1,b2⟩|⟨m,hm,b1,b2,b3⟩
   ·rw [if_pos b1,if_pos b1,b1,hx]
    rw [aj Oq rfl];simp only [En];simp only [start,aH,aK,aF,aJ,aA,aB,aG,aI,Nat.reduceAdd,Nat.reduceSub]
    simp only [e0,e1,e2,e4,Z0,Z2,P5,P2,zb,aY,reduceCtorEq,Nat.reduceEqDiff,Nat.reduceAdd,Nat.reduceLT,Nat.reduceLeDiff,Z1]
    rw [yX (env:=env) (fun j=>[⟨false,[.pv (.int .i64 i.size),.pv (.int .i64 i.bg),.row 1 ((kP v i.act s j).map eI),.pv (.int .i64 i.bm.size),.pv (.list 1 (i.bm.ws.map eW))]⟩,⟨false,[.pv (.int .i64 e.start),.pv (.int .i64 e.count)]⟩,⟨false,[.pv (.func f [])]⟩,⟨false,[.pv (.int .i64 0),.pv (.int .i64 0),.row 1 [],.pv (.int .i64 0),.row 1 []]⟩,⟨false,[.pv (.int .i64 0),.pv (.int .i64 0)]⟩,⟨false,[.pv (.int .i64 0)]⟩,⟨false,[.pv (.int .i64 (s:Int)),.pv (.int .i64 (c:Int))]⟩,⟨false,[.pv (.int .i64 0)]⟩]) (xs:=yR s c) rfl hit (by simp only [zY]) ?_]
    ·simp only [yt,qg,rH,aY,reduceCtorEq,Nat.reduceEqDiff,Nat.reduceAdd,Nat.reduceLT,Nat.reduceLeDiff,Z1]
    ·intro j x hj sl0
     obtain ⟨hjc,rfl⟩:=Yh hj
     have g1:=hget j hjc
     have g2:=hset j hjc
     have g3:=Xk j hjc
     have g4:er (i.act[s+j]'(by omega))=0:=b2 j hjc
     rw [g4] at g3
     have g5:(s:Int)+(j:Int)=((s+j:Nat):Int):=by omega
     have g6:index (.int .i64 ((s+j:Nat):Int)) i.act.length=some (s+j):=aC (by omega)
     rw [g5]
     refine ⟨?_,?_⟩
     rotate_left
     ·simp only [BA,BD,g1,g2,g3,g6,hcl,Z0,zb,rH,aY,reduceCtorEq,Nat.reduceEqDiff,Nat.reduceAdd,Nat.reduceLT,Nat.reduceLeDiff,Z1]
      rfl
   ·rw [if_neg (by rw [b3];exact b2),if_neg (by rw [b3];exact b2),b3,hz,iP]
    rw [aj Oq rfl];simp only [En];simp only [start,aH,aK,aF,aJ,aA,aB,aG,aI,Nat.reduceAdd,Nat.reduceSub]
    simp only [e0,e1,e2,e4,Z0,Z2,P5,P2,zb,aY,reduceCtorEq,Nat.reduceEqDiff,Nat.reduceAdd,Nat.reduceLT,Nat.reduceLeDiff,Z1]
    have aud:=af9 (s:=(s:Int)) (n:=c) (m:=m) (by omega) (by omega) hm
    rw [TB (env:=env) (fun j=>[⟨false,[.pv (.int .i64 i.size),.pv (.int .i64 i.bg),.row 1 ((kP v i.act s j).map eI),.pv (.int .i64 i.bm.size),.pv (.list 1 (i.bm.ws.map eW))]⟩,⟨false,[.pv (.int .i64 e.start),.pv (.int .i64 e.count)]⟩,⟨false,[.pv (.func f [])]⟩,⟨false,[.pv (.int .i64 0),.pv (.int .i64 0),.row 1 [],.pv (.int .i64 0),.row 1 []]⟩,⟨false,[.pv (.int .i64 0),.pv (.int .i64 0)]⟩,⟨false,[.pv (.int .i64 0)]⟩,⟨false,[.pv (.int .i64 (s:Int)),.pv (.int .i64 (c:Int))]⟩,⟨false,[.pv (.int .i64 0)]⟩]) m (e:=.ret) (s:=⟨[],[⟨false,[.pv (.int .i64 i.size),.pv (.int .i64 i.bg),.row 1 ((kP v i.act s (m+1)).map eI),.pv (.int .i64 i.bm.size),.pv (.list 1 (i.bm.ws.map eW))]⟩,⟨false,[.pv (.int .i64 e.start),.pv (.int .i64 e.count)]⟩,⟨false,[.pv (.func f [])]⟩,⟨false,[.pv (.int .i64 0),.pv (.int .i64 0),.pv (.list 1 []),.pv (.int .i64 0),.pv (.list 1 [])]⟩,⟨false,[.pv (.int .i64 0),.pv (.int .i64 0)]⟩,⟨false,[.pv (.int .i64 (er (i.act[s+m]'(by omega))))]⟩,⟨false,[.pv (.int .i64 (s:Int)),.pv (.int .i64 (c:Int))]⟩,⟨true,[.pv (.int .i64 (er (i.act[s+m]'(by omega))))]⟩],[],none⟩) rfl hit aud (by simp only [zY]) (by rw [yt];exact hm) ?_ (by intro h;cases h) ?_]
    ·simp only [rH,aY,reduceCtorEq,Nat.reduceEqDiff,Nat.reduceAdd,Nat.reduceLT,Nat.reduceLeDiff,Z1]
    ·intro j x hjm hj sl0
     obtain ⟨hjc,rfl⟩:=Yh hj
     have g1:=hget j hjc
     have g2:=hset j hjc
     have g3:=Xk j hjc
     have g4:er (i.act[s+j]'(by omega))=0:=b1 j hjm
     rw [g4] at g3
     have g5:(s:Int)+(j:Int)=((s+j:Nat):Int):=by omega
     have g6:index (.int .i64 ((s+j:Nat):Int)) i.act.length=some (s+j):=aC (by omega)
     rw [g5]
     refine ⟨?_,?_⟩
     rotate_left
     ·simp only [BA,BD,g1,g2,g3,g6,hcl,Z0,zb,rH,aY,reduceCtorEq,Nat.reduceEqDiff,Nat.reduceAdd,Nat.reduceLT,Nat.reduceLeDiff,Z1]
      rfl
    ·intro x hj sl0
     obtain ⟨hjc,rfl⟩:=Yh hj
     have g1:=hget m hjc
     have g2:=hset m hjc
     have g3:=Xk m hjc
     have g5:(s:Int)+(m:Int)=((s+m:Nat):Int):=by omega
     have g6:index (.int .i64 ((s+m:Nat):Int)) i.act.length=some (s+m):=aC (by omega)
     have g7:(er (i.act[s+m]'(by omega)) != 0)=true:=by simpa using b2
     rw [g5]
     refine ⟨?_,?_⟩
     rotate_left
     ·simp only [BA,BD,g1,g2,g3,g6,g7,hcl,zb,rH,aY,reduceCtorEq,Nat.reduceEqDiff,Nat.reduceAdd,Nat.reduceLT,Nat.reduceLeDiff,Z1]
      rfl
def newG (b:Bm)(s:Int)(n:Nat):Bool:=(Zaw n).any fun (k:Nat)=>!vW b (s+(k:Int))
theorem aa5 (b:Bm)(s:Int)(n:Nat):newG b s (n+1)=(newG b s n || !vW b (s+(n:Int))):=by
 unfold newG
 rw [ZbI,List.any_append]
 simp
def bgE (i:iZ)(e:bf):Int:=EM rZ i e
def bgS (i:iZ)(e:bf):Bool:=decide (bgE i e=0)&&newG i.bm (jA i.size i.bg e).start (jA i.size i.bg e).count.toNat
def JQ (i:iZ)(e:bf):iZ:=if bgE i e=0 then { Pm zX rZ i e with bm:=Ai Pj i.bm (jA i.size i.bg e) } else aa1
theorem alz {er:Int→Int}{i:iZ}{e:bf}(hn:∀ n,er n=0∨er n=6∨er n=12)(h:EM er i e=0):gB i=true∧oI i.size e=true:=by
 unfold EM at h
 split at h
 ·cases h
 ·split at h
  ·cases h
  ·rename_i h1 h2
   exact ⟨by simpa using h1,by simpa using h2⟩
theorem IZ (n:Int):rZ n=0∨rZ n=6∨rZ n=12:=by unfold rZ;split<;>simp
theorem aj8 {i:iZ}{e:bf}(h:gB i=true)(hb:oI i.size e=true):EZ i.bm (jA i.size i.bg e)=0:=by
 obtain ⟨h1,h2,h3,h4,h5⟩:=bQ.1 h
 obtain ⟨t1,t2,t3⟩:=Dt h1 hb
 unfold EZ
 have:uJ i.bm.size (jA i.size i.bg e)=true:=mM.2 (by omega)
 rw [h3,this]
 rfl
set_option maxRecDepth 20000 in
theorem aqM {i:iZ}{e:bf}(hl:i.act.length≤lim) :
  cal env 88 [qg i,aU e]=some [(qg (JQ i e),false),(.bool (bgS i e),false),(.int .i64 (bgE i e),false)]:=by
 have e0:=agd (v:=zX) (er:=rZ) (fun n hn=>aoo hn) (i:=i) (e:=e) hl
 have E5:∀ i:iZ,qg i=.agg [.int .i64 i.size,.int .i64 i.bg,.list 1 (i.act.map eI),.int .i64 i.bm.size,.list 1 (i.bm.ws.map eW)]:=fun _=>rfl
 have eX:∀ e:bf,aU e=.agg [.int .i64 e.start,.int .i64 e.count]:=fun _=>rfl
 have P5:∀ a b c d e:PV,part [a,b,c,d,e] 0 (some 5)=some (.agg [a,b,c,d,e]):=fun _ _ _ _ _=>rfl
 have P2:∀ a b:PV,part [a,b] 0 (some 2)=some (.agg [a,b]):=fun _ _=>rfl
 have Z0:((0:Int) != 0)=false:=rfl
 unfold bgS JQ bgE
 by_cases c0:EM rZ i e=0
 ·obtain ⟨k0,k1⟩:=alz IZ c0
  obtain ⟨h1,h2,h3,h4,h5⟩:=bQ.1 k0
  obtain ⟨t1,t2,t3⟩:=Dt h1 k1
  have hgl:=l9 h1
  have hlen:i.act.length≤4096:=by have:=(dA.1 h1).2.1;omega
  have hX:cgX rZ i e=jA i.size i.bg e:=by unfold cgX;rw [if_pos c0]
  have e3:=af0 (b:=i.bm) (e:=jA i.size i.bg e)
  have e2:=aga (e:=jA i.size i.bg e)
  rw [aj8 k0 k1] at e3
  rw [hX,c0] at e0
  rw [if_pos c0,decide_eq_true c0,c0]
  generalize Pm zX rZ i e=o at *
  generalize jA i.size i.bg e=t at *
  obtain ⟨ts,tc⟩:=t
  simp only at t1 t2 t3 ⊢
  obtain ⟨s,rfl⟩:∃ s:Nat,ts=(s:Int):=⟨ts.toNat,by omega⟩
  obtain ⟨c,rfl⟩:∃ c:Nat,tc=(c:Int):=⟨tc.toNat,by omega⟩
  simp only [Zav,Zaf]
  have hit:=Yi (s:=(s:Int)) (n:=c) (by omega) (by omega)
  generalize Ai Pj i.bm ⟨(s:Int),(c:Int)⟩=b2 at *
  have eA:∀ b:Bm,y7 b=.agg [.int .i64 b.size,.list 1 (b.ws.map eW)]:=fun _=>rfl
  rw [eA,eX,eA] at e3
  simp only [eX] at e2
  simp only [E5,eX] at e0 ⊢
  rw [aj als rfl];simp only [aaG];simp only [start,aH,aK,aF,aJ,aA,aB,aG,aI,Nat.reduceAdd,Nat.reduceSub]
  simp only [e0,e2,e3,Z0,P5,P2,eF,zb,aY,reduceCtorEq,Nat.reduceEqDiff,Nat.reduceAdd,Nat.reduceLT,Nat.reduceLeDiff,Z1]
  rw [yX (env:=env) (fun j=>[⟨false,[.pv (.int .i64 i.size),.pv (.int .i64 i.bg),.pv (.list 1 (i.act.map eI)),.pv (.int .i64 i.bm.size),.pv (.list 1 (i.bm.ws.map eW))]⟩,⟨false,[.pv (.int .i64 e.start),.pv (.int .i64 e.count)]⟩,⟨false,[.pv (.int .i64 0),.pv (.int .i64 0),.row 1 [],.pv (.int .i64 0),.row 1 []]⟩,⟨false,[.pv (.int .i64 o.size),.pv (.int .i64 o.bg),.pv (.list 1 (o.act.map eI)),.pv (.int .i64 o.bm.size),.pv (.list 1 (o.bm.ws.map eW))]⟩,⟨false,[.pv (.int .i64 (s:Int)),.pv (.int .i64 (c:Int))]⟩,⟨false,[.pv (.bool (newG i.bm s j))]⟩]) (xs:=yR s c) rfl hit rfl ?_]
  ·simp only [yt,e3,P5,P2,eF,rH,aY,reduceCtorEq,Nat.reduceEqDiff,Nat.reduceAdd,Nat.reduceLT,Nat.reduceLeDiff,Z1]
  ·intro j x hj sl0
   obtain ⟨hjc,rfl⟩:=Yh hj
   have g1:=Xi (b:=i.bm) (s:=(s:Int)+(j:Int))
   rw [eA] at g1
   simp only [aa5]
   cases hb:newG i.bm s j with
   |true =>
    refine ⟨?_,?_⟩
    rotate_left
    ·simp only [Og,Oh,g1,eF,Zb0,rH,aY,reduceCtorEq,Nat.reduceEqDiff,Nat.reduceAdd,Nat.reduceLT,Nat.reduceLeDiff,Z1]
     rfl
   |false =>
    refine ⟨?_,?_⟩
    rotate_left
    ·simp only [Og,Oh,g1,eF,Zbj,rH,aY,reduceCtorEq,Nat.reduceEqDiff,Nat.reduceAdd,Nat.reduceLT,Nat.reduceLeDiff,Z1]
     rfl
 ·have hI:Pm zX rZ i e=aa1:=by unfold Pm;rw [if_neg c0]
  have hX:cgX rZ i e=⟨0,0⟩:=by unfold cgX;rw [if_neg c0]
  have Zc:(EM rZ i e != 0)=true:=by simpa using c0
  rw [hI,hX] at e0
  rw [if_neg c0,decide_eq_false c0,ZaS]
  simp only [eX,iP] at e0 ⊢
  rw [E5] at e0 ⊢
  rw [aj als rfl];simp only [aaG];simp only [start,aH,aK,aF,aJ,aA,aB,aG,aI,Nat.reduceAdd,Nat.reduceSub]
  simp only [e0,Zc,P5,P2,aY,reduceCtorEq,Nat.reduceEqDiff,Nat.reduceAdd,Nat.reduceLT,Nat.reduceLeDiff,Z1]
theorem aor {i:iZ}{e:bf}(hl:i.act.length≤lim) :
  cal env 212 [qg i,aU e]=some [(qg (Pm vX oJ i e),false),(.int .i64 (EM oJ i e),false)]:=by
 have e0:=agd (v:=vX) (er:=oJ) (fun n hn=>aop hn) (i:=i) (e:=e) hl
 have E5:∀ i:iZ,qg i=.agg [.int .i64 i.size,.int .i64 i.bg,.list 1 (i.act.map eI),.int .i64 i.bm.size,.list 1 (i.bm.ws.map eW)]:=fun _=>rfl
 have eX:∀ e:bf,aU e=.agg [.int .i64 e.start,.int .i64 e.count]:=fun _=>rfl
 have P5:∀ a b c d e:PV,part [a,b,c,d,e] 0 (some 5)=some (.agg [a,b,c,d,e]):=fun _ _ _ _ _=>rfl
 have P2:∀ a b:PV,part [a,b] 0 (some 2)=some (.agg [a,b]):=fun _ _=>rfl
 generalize Pm vX oJ i e=o at *
 generalize EM oJ i e=q at *
 generalize cgX oJ i e=t at *
 simp only [E5,eX] at e0 ⊢
 rw [aj ang rfl];simp only [RV];simp only [start,aH,aK,aF,aJ,aA,aB,aG,aI,Nat.reduceAdd,Nat.reduceSub]
 simp only [e0,P5,P2,aY,reduceCtorEq,Nat.reduceEqDiff,Nat.reduceAdd,Nat.reduceLT,Nat.reduceLeDiff,Z1]
def iE (i:iZ):Nat→Bm×Bool
 |0=>(i.bm,false)
 |k+1=>if i.act.getD k 0=0∧vW i.bm k=true then (Ai clW (iE i k).1 ⟨k,1⟩,true) else iE i k
theorem aj9 {i:iZ}{k:Nat}(h:k<i.act.length)(h0:i.act[k]=0)(h1:vW i.bm k=true):iE i (k+1)=(Ai clW (iE i k).1 ⟨k,1⟩,true):=by
 rw [iE,if_pos]
 rw [zP,ZD h]
 exact ⟨h0,h1⟩
theorem agh {i:iZ}{k:Nat}(h:k<i.act.length)(h1:¬ (i.act[k]=0∧vW i.bm k=true)):iE i (k+1)=iE i k:=by
 rw [iE,if_neg]
 rw [zP,ZD h]
 exact h1
def agi (i:iZ)(p:Bm×Bool):List BV:=[.pv (.int .i64 i.size),.pv (.int .i64 i.bg),if p.2 then .pv (.list 1 (i.act.map eI)) else .row 1 (i.act.map eI),.pv (.int .i64 p.1.size),.pv (.list 1 (p.1.ws.map eW))]
theorem vY (i:iZ)(b:Bm):agi i (b,true)=[.pv (.int .i64 i.size),.pv (.int .i64 i.bg),.pv (.list 1 (i.act.map eI)),.pv (.int .i64 b.size),.pv (.list 1 (b.ws.map eW))]:=rfl
theorem yu (i:iZ)(b:Bm):agi i (b,false)=[.pv (.int .i64 i.size),.pv (.int .i64 i.bg),.row 1 (i.act.map eI),.pv (.int .i64 b.size),.pv (.list 1 (b.ws.map eW))]:=rfl
def Yj (i:iZ):Option (Ex×St):=some (.normal,⟨sl 45 [(2,.aX 1 0),(3,.any),(4,.aX 2 0),(5,.pv (.bool (iE i i.act.length).2))],[⟨false,ug i⟩,⟨false,[.pv (.int .i64 0),.pv (.int .i64 0),.row 1 [],.pv (.int .i64 0),.row 1 []]⟩,⟨false,agi i (iE i i.act.length)⟩],[],none⟩)
set_option maxRecDepth 20000 in
theorem akb {i0:iZ}(hl:i0.act.length≤lim){st:St}(h:st.head [1,2,4,5,18,19,20] st.boxes.length=some ⟨sl 45 [(1,.aX 0 0),(2,.aX 1 0),(4,.aX 2 0),(5,.pv (.bool (iE i0 ((0:Nat))).2)),(18,.pv (.list 1 (i0.act.map eI))),(19,.pv (.int .i64 i0.act.length)),(20,.pv (.int .i64 (0:Nat)))],[⟨false,ug i0⟩,⟨false,[.pv (.int .i64 0),.pv (.int .i64 0),.row 1 [],.pv (.int .i64 0),.row 1 []]⟩,⟨false,agi i0 (iE i0 ((0:Nat)))⟩],[],none⟩) :
  den env Hw st=Yj i0:=by
 unfold Hw
 refine bG (env:=env) (nb:=3) (i0.act.length) (fun i=>⟨sl 45 [(1,.aX 0 0),(2,.aX 1 0),(4,.aX 2 0),(5,.pv (.bool (iE i0 (i)).2)),(18,.pv (.list 1 (i0.act.map eI))),(19,.pv (.int .i64 i0.act.length)),(20,.pv (.int .i64 i))],[⟨false,ug i0⟩,⟨false,[.pv (.int .i64 0),.pv (.int .i64 0),.row 1 [],.pv (.int .i64 0),.row 1 []]⟩,⟨false,agi i0 (iE i0 (i))⟩],[],none⟩) (fun i=>Yj i0) h (fun _=>rfl) (fun _=>by simp only [aQ,dY,Nat.reduceMul,Nat.reduceBEq,Nat.reduceLT,Nat.reduceLeDiff,Nat.reduceAdd,decide_true,Zai,Zaf]) ?_ ?_
 ·intro i rb hi ih
  have hi1:=bH hi hl
  have F1:((i:Int)<(i0.act.length:Int))=True:=eq_true (by omega)
  have e1:=Xi (b:=i0.bm) (s:=(i:Int))
  have eA:∀ b:Bm,y7 b=.agg [.int .i64 b.size,.list 1 (b.ws.map eW)]:=fun _=>rfl
  have eX:∀ e:bf,aU e=.agg [.int .i64 e.start,.int .i64 e.count]:=fun _=>rfl
  have e2:=aoi (b:=(iE i0 i).1) (e:=⟨(i:Int),1⟩)
  rw [eA] at e1
  have hx:(i0.act.map eI)[i]?=some (.int .i64 i0.act[i]):=by rw [zc,ZD hi];rfl
  by_cases c0:i0.act[i]=0
  ·have F2:(i0.act[i]==0)=true:=by simpa using c0
   cases c1:vW i0.bm (i:Int) with
   |true =>
    rw [c1] at e1
    have hn:=aj9 hi c0 c1
    generalize iE i0 i=p at *
    rw [hn] at ih
    generalize Ai clW p.1 ⟨(i:Int),1⟩=b2 at *
    rw [eA,eX,eA] at e2
    obtain ⟨pb,pf⟩:=p
    cases pf with
    |true =>
     simp only [nH,F1,F2,hx,e1,e2,eF,aC hi,zb,bP,vY,aN,Nat.reduceMul,Nat.reduceBEq,Nat.reduceLT,Nat.reduceLeDiff,reduceCtorEq,Nat.reduceEqDiff,Nat.reduceAdd,Z1]
     rw [ih _ (by simp only [hi1,bP,vY,aN,Nat.reduceMul,Nat.reduceBEq,Nat.reduceLT,Nat.reduceLeDiff,reduceCtorEq,Nat.reduceEqDiff,Nat.reduceAdd,Z1]<;>rfl)]
    |false =>
     simp only [nH,F1,F2,hx,e1,e2,eF,aC hi,zb,bP,yu,aN,Nat.reduceMul,Nat.reduceBEq,Nat.reduceLT,Nat.reduceLeDiff,reduceCtorEq,Nat.reduceEqDiff,Nat.reduceAdd,Z1]
     rw [ih _ (by simp only [hi1,bP,vY,aN,Nat.reduceMul,Nat.reduceBEq,Nat.reduceLT,Nat.reduceLeDiff,reduceCtorEq,Nat.reduceEqDiff,Nat.reduceAdd,Z1]<;>rfl)]
   |false =>
    rw [c1] at e1
    have hn:=agh hi (by rw [c1];simp)
    generalize iE i0 i=p at *
    rw [hn] at ih
    obtain ⟨pb,pf⟩:=p
    cases pf with
    |true =>
     simp only [nH,F1,F2,hx,e1,eF,aC hi,zb,bP,vY,aN,Nat.reduceMul,Nat.reduceBEq,Nat.reduceLT,Nat.reduceLeDiff,reduceCtorEq,Nat.reduceEqDiff,Nat.reduceAdd,Z1]
     rw [ih _ (by simp only [hi1,bP,vY,aN,Nat.reduceMul,Nat.reduceBEq,Nat.reduceLT,Nat.reduceLeDiff,reduceCtorEq,Nat.reduceEqDiff,Nat.reduceAdd,Z1]<;>rfl)]
    |false =>
     simp only [nH,F1,F2,hx,e1,eF,aC hi,zb,bP,yu,aN,Nat.reduceMul,Nat.reduceBEq,Nat.reduceLT,Nat.reduceLeDiff,reduceCtorEq,Nat.reduceEqDiff,Nat.reduceAdd,Z1]
     rw [ih _ (by simp only [hi1,bP,yu,aN,Nat.reduceMul,Nat.reduceBEq,Nat.reduceLT,Nat.reduceLeDiff,reduceCtorEq,Nat.reduceEqDiff,Nat.reduceAdd,Z1]<;>rfl)]
  ·have F2:(i0.act[i]==0)=false:=by simpa using c0
   have hn:=agh hi (fun h=>c0 h.1)
   generalize iE i0 i=p at *
   rw [hn] at ih
   obtain ⟨pb,pf⟩:=p
   cases pf with
   |true =>
    simp only [nH,F1,F2,hx,eF,aC hi,zb,bP,vY,aN,Nat.reduceMul,Nat.reduceBEq,Nat.reduceLT,Nat.reduceLeDiff,reduceCtorEq,Nat.reduceEqDiff,Nat.reduceAdd,Z1]
    rw [ih _ (by simp only [hi1,bP,vY,aN,Nat.reduceMul,Nat.reduceBEq,Nat.reduceLT,Nat.reduceLeDiff,reduceCtorEq,Nat.reduceEqDiff,Nat.reduceAdd,Z1]<;>rfl)]
   |false =>
    simp only [nH,F1,F2,hx,eF,aC hi,zb,bP,yu,aN,Nat.reduceMul,Nat.reduceBEq,Nat.reduceLT,Nat.reduceLeDiff,reduceCtorEq,Nat.reduceEqDiff,Nat.reduceAdd,Z1]
    rw [ih _ (by simp only [hi1,bP,yu,aN,Nat.reduceMul,Nat.reduceBEq,Nat.reduceLT,Nat.reduceLeDiff,reduceCtorEq,Nat.reduceEqDiff,Nat.reduceAdd,Z1]<;>rfl)]
 ·intro rb
  unfold Yj
  generalize iE i0 i0.act.length=p at *
  obtain ⟨pb,pf⟩:=p
  cases pf with
  |true=>simp only [nH,Zar,bP,vY,aN,Nat.reduceMul,Nat.reduceBEq,Nat.reduceLT,Nat.reduceLeDiff,reduceCtorEq,Nat.reduceEqDiff,Nat.reduceAdd,Z1]
  |false=>simp only [nH,Zar,bP,yu,aN,Nat.reduceMul,Nat.reduceBEq,Nat.reduceLT,Nat.reduceLeDiff,reduceCtorEq,Nat.reduceEqDiff,Nat.reduceAdd,Z1]
def zl (i:iZ):iZ:=if gB i then { i with bm:=(iE i i.act.length).1 } else i
def aos (i:iZ):Bool:=gB i&&(iE i i.act.length).2
theorem aot {i:iZ}(hl:i.act.length≤lim):cal env 211 [qg i]=some [(qg (zl i),false),(.bool (aos i),false)]:=by
 have e0:=Xj (i:=i) hl
 have E5:∀ i:iZ,qg i=.agg [.int .i64 i.size,.int .i64 i.bg,.list 1 (i.act.map eI),.int .i64 i.bm.size,.list 1 (i.bm.ws.map eW)]:=fun _=>rfl
 have P5:∀ a b c d e:PV,part [a,b,c,d,e] 0 (some 5)=some (.agg [a,b,c,d,e]):=fun _ _ _ _ _=>rfl
 have Z0:((0:Int) != 0)=false:=rfl
 have Z3:((3:Int) != 0)=true:=rfl
 have e4:=agc (es:=i.act.map eI) (by simpa using hl)
 unfold af6 at e0
 unfold zl aos
 cases c0:gB i with
 |false =>
  rw [c0,if_neg (by decide)] at e0
  rw [if_neg (by decide)]
  rw [E5] at e0 ⊢
  rw [aj aff rfl];simp only [Lh,aQ,Nat.reduceBEq,Nat.reduceLeDiff,Nat.reduceAdd,zd,ze]
  simp only [e0,Z3,P5,aN,Nat.reduceMul,Nat.reduceBEq,Nat.reduceLT,Nat.reduceLeDiff,reduceCtorEq,Nat.reduceEqDiff,Nat.reduceAdd,Z1]
 |true =>
  rw [c0,if_pos rfl] at e0
  rw [if_pos rfl,Zaf]
  simp only [E5] at e0 ⊢
  rw [aj aff rfl];simp only [Lh,aQ,Nat.reduceBEq,Nat.reduceLeDiff,Nat.reduceAdd,zd,ze]
  simp only [e0,e4,Z0,P5,zb,aN,Nat.reduceMul,Nat.reduceBEq,Nat.reduceLT,Nat.reduceLeDiff,reduceCtorEq,Nat.reduceEqDiff,Nat.reduceAdd,Z1]
  rw [akb (i0:=i) hl]
  rotate_left
  ·rw [bP,iE,yu]
   simp only [aQ,dY,Nat.reduceMul,Nat.reduceBEq,Nat.reduceLT,Nat.reduceLeDiff,Nat.reduceAdd,decide_true,Zai,Zaf]<;>rfl
  ·unfold Yj
   rw [bP]
   generalize iE i i.act.length=p at *
   obtain ⟨pb,pf⟩:=p
   cases pf with
   |true =>
    rw [vY]
    simp only [e0,e4,Z0,P5,zb,aN,Nat.reduceMul,Nat.reduceBEq,Nat.reduceLT,Nat.reduceLeDiff,reduceCtorEq,Nat.reduceEqDiff,Nat.reduceAdd,Z1]
   |false =>
    rw [yu]
    simp only [e0,e4,Z0,P5,zb,aN,Nat.reduceMul,Nat.reduceBEq,Nat.reduceLT,Nat.reduceLeDiff,reduceCtorEq,Nat.reduceEqDiff,Nat.reduceAdd,Z1]
theorem agj {n:Nat}(h:n≤4096):newE (n:Int)=0∧okB (uI (n:Int))=true∧(uI (n:Int)).size=(n:Int)∧∀ s,bit (uI (n:Int)).ws s=false:=by
 have e1:newE (n:Int)=0:=by unfold newE;rw [if_neg (by omega)]
 have e2:uI (n:Int)=⟨n,Zag (l7 n).toNat 0⟩:=by unfold uI;rw [if_neg (by omega)]
 have hb:∀ s,bit (Zag (l7 n).toNat (0:Wd)) s=false:=fun s=>by
  unfold bit
  rw [zP,List.getElem?_replicate]
  split<;>simp
 rw [e2]
 refine ⟨e1,jK.2 ⟨⟨by show (0:Int)≤(n:Int);omega,by show (n:Int)≤4096;omega,?_⟩,fun i _=>hb i⟩,rfl,hb⟩
 show ((Zag (l7 n).toNat (0:Wd)).length:Int)=l7 n
 rw [Za7]
 exact ajX (by omega)
theorem akc (ws:List Wd)(e:bf):chW Pj ws e=setW ws e.start (e.start+e.count):=rfl
theorem Xl {b:Bm}{e:bf}(h:okB b=true)(hf:uJ b.size e=true):EZ b e=0∧okB (Ai Pj b e)=true∧(Ai Pj b e).size=b.size∧∀ s:Nat,(s:Int)<b.size→bit (Ai Pj b e).ws s=(bit b.ws s || decide (e.start≤(s:Int)∧(s:Int)<e.start+e.count)):=by
 have hE:EZ b e=0:=by unfold EZ;rw [if_neg (by rw [h];decide),if_neg (by rw [hf];decide)]
 have hO:Ai Pj b e=⟨b.size,setW b.ws e.start (e.start+e.count)⟩:=by unfold Ai;rw [if_pos hE,akc]
 have hs:=kL h
 have hf:=mM.1 hf
 rw [hO]
 have hl:(setW b.ws e.start (e.start+e.count)).length=b.ws.length:=by simp [setW]
 refine ⟨hE,jK.2 ⟨⟨hs.1,hs.2.1,?_⟩,fun i hi=>?_⟩,rfl,fun s hlt=>Ye (by omega)⟩
 ·show ((setW b.ws e.start (e.start+e.count)).length:Int)=_
  rw [hl];exact (jK.1 h).1.2.2
 ·have hi:b.size≤(i:Int):=hi
  by_cases c:i<64*b.ws.length
  ·show bit (setW b.ws e.start (e.start+e.count)) i=false
   rw [Ye c,(jK.1 h).2 i hi,decide_eq_false (by omega)]
   rfl
  ·exact BO (by show 64*(setW b.ws e.start (e.start+e.count)).length≤i;rw [hl];omega)
theorem nN {b:Bm}(h:okB b=true)(g:Nat):vW b (g:Int)=bit b.ws g:=by
 unfold vW
 rw [h,Zaf,decide_eq_true (by omega),Zaf,Zav]
 cases hb:bit b.ws g with
 |false=>rw [Zbm]
 |true=>rw [decide_eq_true (TJ h hb)];rfl
theorem aou {b:Bm}{e:bf}(h:okB b=true)(hf:uJ b.size e=true):EZ b e=0∧okB (Ai clW b e)=true∧(Ai clW b e).size=b.size∧∀ s:Nat,bit (Ai clW b e).ws s=(bit b.ws s&&!decide (e.start≤(s:Int)∧(s:Int)<e.start+e.count)):=by
 have hE:EZ b e=0:=by unfold EZ;rw [if_neg (by rw [h];decide),if_neg (by rw [hf];decide)]
 have hO:Ai clW b e=⟨b.size,JM b.ws e.start (e.start+e.count)⟩:=by unfold Ai;rw [if_pos hE];rfl
 have hs:=kL h
 have hl:(JM b.ws e.start (e.start+e.count)).length=b.ws.length:=by simp [JM]
 have hb:∀ s:Nat,bit (JM b.ws e.start (e.start+e.count)) s=(bit b.ws s&&!decide (e.start≤(s:Int)∧(s:Int)<e.start+e.count)):=fun s=>by
  by_cases c:s<64*b.ws.length
  ·exact ajP c
  ·rw [BO (by rw [hl];omega),BO (show 64*b.ws.length≤s by omega),ZaS]
 rw [hO]
 refine ⟨hE,jK.2 ⟨⟨hs.1,hs.2.1,?_⟩,fun i hi=>?_⟩,rfl,hb⟩
 ·show ((JM b.ws e.start (e.start+e.count)).length:Int)=_
  rw [hl];exact (jK.1 h).1.2.2
 ·show bit (JM b.ws e.start (e.start+e.count)) i=false
  rw [hb,(jK.1 h).2 i hi,ZaS]
theorem Yk {b:Bm}{e:bf}(h:okB b=true)(hf:uJ b.size e=true)(s:Nat):bit (Ai Pj b e).ws s=(bit b.ws s || decide (e.start≤(s:Int)∧(s:Int)<e.start+e.count)):=by
 obtain ⟨_,h2,h3,h4⟩:=Xl h hf
 by_cases c:(s:Int)<b.size
 ·exact h4 s c
 ·have:=mM.1 hf
  rw [(jK.1 h2).2 s (by rw [h3];omega),(jK.1 h).2 s (by omega),decide_eq_false (by omega)]
  rfl
theorem akd {n:Int}(h:0≤n∧n≤4096)(he:rZ n=0):0<zX n∧zX n≤4096:=by
 unfold rZ at he
 unfold zX
 split at he
 ·cases he
 ·rename_i c
  rw [if_neg c];omega
theorem ake {n:Int}(h:0≤n∧n≤4096)(he:oJ n=0):(0≤vX n∧vX n≤4096)∧0<n:=by
 unfold oJ at he
 unfold vX
 split at he
 ·cases he
 ·rename_i c
  rw [if_neg c];omega
theorem y8 {i:iZ}{e:bf}(h:gB i=true)(hb:oI i.size e=true):∃ s c:Nat,jA i.size i.bg e=⟨(s:Int),(c:Int)⟩∧1≤c∧s+c≤i.act.length∧uJ i.bm.size ⟨(s:Int),(c:Int)⟩=true:=by
 obtain ⟨h1,h2,h3,h4,h5⟩:=bQ.1 h
 obtain ⟨t1,t2,t3⟩:=Dt h1 hb
 refine ⟨(jA i.size i.bg e).start.toNat,(jA i.size i.bg e).count.toNat,?_,by omega,by omega,mM.2 (by simp only;omega)⟩
 generalize jA i.size i.bg e=t at *
 obtain ⟨a,b⟩:=t
 simp only at *
 simp only [bf.mk.injEq]
 omega
theorem BQ {v er:Int→Int}{i:iZ}{e:bf}{s c:Nat}(h:gB i=true)(hb:oI i.size e=true)(ht:jA i.size i.bg e=⟨(s:Int),(c:Int)⟩):EM er i e=Du er i.act s c∧(Du er i.act s c=0→Pm v er i e={ i with act:=kP v i.act s c }):=by
 have hE:EM er i e=Du er i.act s c:=by
  unfold EM
  rw [if_neg (by rw [h];decide),if_neg (by rw [hb];decide),ht]
  rfl
 refine ⟨hE,fun h0=>?_⟩
 unfold Pm
 rw [if_pos (by rw [hE];exact h0),ht]
 rfl
theorem alA {i:iZ}{e:bf}{s c:Nat}(h:gB i=true)(hb:oI i.size e=true)(ht:jA i.size i.bg e=⟨(s:Int),(c:Int)⟩)(h0:bgE i e=0) :
  JQ i e=⟨i.size,i.bg,kP zX i.act s c,Ai Pj i.bm ⟨(s:Int),(c:Int)⟩⟩∧gB (JQ i e)=true:=by
 obtain ⟨h1,h2,h3,h4,h5⟩:=bQ.1 h
 obtain ⟨hE,hI⟩:=BQ (v:=zX) (er:=rZ) h hb ht
 have h0':Du rZ i.act s c=0:=by rw [← hE];exact h0
 obtain ⟨s',c',ht',k1,k2,k3⟩:=y8 h hb
 obtain ⟨rfl,rfl⟩:s'=s∧c'=c:=by rw [ht] at ht';simp only [bf.mk.injEq] at ht';omega
 have e1:JQ i e=⟨i.size,i.bg,kP zX i.act s' c',Ai Pj i.bm ⟨(s':Int),(c':Int)⟩⟩:=by
  unfold JQ
  rw [if_pos h0,hI h0',ht]
 refine ⟨e1,?_⟩
 obtain ⟨g1,g2,g3,-⟩:=Xl h3 k3
 have g4:=Yk h3 k3
 have hbad:=(rJ rZ k2).resolve_right (fun ⟨m,hm,_,q2,q3⟩=>q2 (by rw [← q3];exact h0'))
 rw [e1]
 refine bQ.2 ⟨h1,by rw [fG];exact h2,g2,by rw [fG,g3];exact h4,fun g hg=>?_⟩
 rw [fG] at hg
 rw [pF]
 have q:=h5 g hg
 obtain ⟨q1,q2⟩:=BP q
 have hx:vW (Ai Pj i.bm ⟨(s':Int),(c':Int)⟩) (g:Int)=(bit i.bm.ws g || decide ((s':Int)≤(g:Int)∧(g:Int)<(s':Int)+(c':Int))):=by rw [nN g2,g4]
 unfold IY
 split
 ·rename_i cc
  have hz:=hbad.2 (g - s') (by omega)
  simp only [show s'+(g - s')=g by omega] at hz
  have:=akd q1 hz
  rw [hx,decide_eq_false (by omega),decide_eq_false (by omega),decide_eq_true (show (s':Int)≤(g:Int)∧(g:Int)<(s':Int)+(c':Int) by omega)]
  simp
 ·rw [hx,decide_eq_false (by omega),decide_eq_false (by omega)]
  by_cases c0:0<i.act[g]
  ·have:=q2 c0
   rw [nN h3] at this
   rw [this]
   simp
  ·rw [decide_eq_false (by omega)]
   simp
theorem aqN {i:iZ}{e:bf}{s c:Nat}(h:gB i=true)(hb:oI i.size e=true)(ht:jA i.size i.bg e=⟨(s:Int),(c:Int)⟩)(h0:EM oJ i e=0) :
  Pm vX oJ i e=⟨i.size,i.bg,kP vX i.act s c,i.bm⟩∧gB (Pm vX oJ i e)=true:=by
 obtain ⟨h1,h2,h3,h4,h5⟩:=bQ.1 h
 obtain ⟨hE,hI⟩:=BQ (v:=vX) (er:=oJ) h hb ht
 have h0':Du oJ i.act s c=0:=by rw [← hE];exact h0
 obtain ⟨s',c',ht',k1,k2,k3⟩:=y8 h hb
 obtain ⟨rfl,rfl⟩:s'=s∧c'=c:=by rw [ht] at ht';simp only [bf.mk.injEq] at ht';omega
 have e1:=hI h0'
 refine ⟨e1,?_⟩
 have hbad:=(rJ oJ k2).resolve_right (fun ⟨m,hm,_,q2,q3⟩=>q2 (by rw [← q3];exact h0'))
 rw [e1]
 refine bQ.2 ⟨h1,by rw [fG];exact h2,h3,by rw [fG];exact h4,fun g hg=>?_⟩
 rw [fG] at hg
 rw [pF]
 have q:=h5 g hg
 obtain ⟨q1,q2⟩:=BP q
 split
 ·rename_i cc
  have hz:=hbad.2 (g - s') (by omega)
  simp only [show s'+(g - s')=g by omega] at hz
  obtain ⟨r1,r2⟩:=ake q1 hz
  unfold IY
  rw [q2 r2,decide_eq_false (by omega),decide_eq_false (by omega)]
  simp
 ·exact q
theorem agk {i:iZ}(h:gB i=true):∀ k,k≤i.act.length→okB (iE i k).1=true∧(iE i k).1.size=i.bm.size∧(∀ s:Nat,bit (iE i k).1.ws s=(bit i.bm.ws s&&!decide (s<k∧i.act.getD s 0=0)))∧((iE i k).2=true ↔ ∃ s,s<k∧i.act.getD s 0=0∧bit i.bm.ws s=true)
 |0,_=>⟨(bQ.1 h).2.2.1,rfl,fun s=>by simp [iE],by simp [iE]⟩
 |k+1,hk=>by
  obtain ⟨h1,h2,h3,h4,h5⟩:=bQ.1 h
  obtain ⟨q1,q2,q3,q4⟩:=agk h k (by omega)
  unfold iE
  rw [nN h3]
  by_cases c:i.act.getD k 0=0∧bit i.bm.ws k=true
  ·rw [if_pos c]
   obtain ⟨r1,r2,r3,r4⟩:=aou (b:=(iE i k).1) (e:=⟨(k:Int),1⟩) q1 (mM.2 (by rw [q2];simp only;omega))
   refine ⟨r2,r3.trans q2,fun s=>?_,⟨fun _=>⟨k,by omega,c⟩,fun _=>rfl⟩⟩
   show bit (Ai clW (iE i k).1 ⟨(k:Int),1⟩).ws s=_
   rw [r4,q3]
   by_cases e1:s=k
   ·subst e1
    rw [decide_eq_true (show ((s:Int)≤(s:Int)∧(s:Int)<(s:Int)+1) by omega),decide_eq_true (show s<s+1∧i.act.getD s 0=0 from ⟨by omega,c.1⟩)]
    simp
   ·rw [decide_eq_false (show ¬ ((k:Int)≤(s:Int)∧(s:Int)<(k:Int)+1) by omega)]
    have:decide (s<k+1∧i.act.getD s 0=0)=decide (s<k∧i.act.getD s 0=0):=by
     apply decide_eq_decide.2
     constructor
     ·rintro ⟨a,b⟩;exact ⟨by omega,b⟩
     ·rintro ⟨a,b⟩;exact ⟨by omega,b⟩
    rw [this]
    simp
  ·rw [if_neg c]
   refine ⟨q1,q2,fun s=>?_,?_⟩
   ·rw [q3]
    by_cases e1:s=k
    ·subst e1
     rw [decide_eq_false (show ¬ (s<s∧i.act.getD s 0=0) by omega)]
     cases hb:bit i.bm.ws s with
     |false=>simp
     |true =>
      have:¬ i.act.getD s 0=0:=fun hh=>c ⟨hh,hb⟩
      rw [decide_eq_false (fun hh=>this hh.2)]
    ·have:decide (s<k+1∧i.act.getD s 0=0)=decide (s<k∧i.act.getD s 0=0):=by
      apply decide_eq_decide.2
      constructor
      ·rintro ⟨a,b⟩;exact ⟨by omega,b⟩
      ·rintro ⟨a,b⟩;exact ⟨by omega,b⟩
     rw [this]
   ·rw [q4]
    constructor
    ·rintro ⟨s,a,b⟩;exact ⟨s,by omega,b⟩
    ·rintro ⟨s,a,b⟩
     by_cases e1:s=k
     ·subst e1;exact absurd b c
     ·exact ⟨s,by omega,b⟩
theorem OD {s g:Int}(h:lM s g=true):jY s g=⟨s,g,Zag (nM s g).toNat 0,uI (nM s g)⟩∧zB s g=0∧gB (jY s g)=true:=by
 have hg:=l9 h
 have h2:=(dA.1 h).2.1
 have e1:jY s g=⟨s,g,Zag (nM s g).toNat 0,uI (nM s g)⟩:=by unfold jY;rw [if_pos h]
 refine ⟨e1,by unfold zB;rw [if_pos h],?_⟩
 obtain ⟨n1,n2,n3,n4⟩:=agj (n:=(nM s g).toNat) (by omega)
 have hc:(((nM s g).toNat:Nat):Int)=nM s g:=by omega
 rw [hc] at n1 n2 n3 n4
 rw [e1]
 refine bQ.2 ⟨h,by simp only [Za7];omega,n2,by simp only [Za7];rw [n3];omega,fun g hg=>?_⟩
 unfold IY
 simp
def eY (c:Nat):PV:=.int .u8 (c:Int)
def most:Nat:=9007199254740991
def jW (n:Int):Nat:=if n<0∨n > 9007199254740991 then 0 else n.toNat
theorem akf (n:Int):jW n≤most:=by unfold jW most;split<;>omega
def jZ:Nat→Nat→List Nat
 |0,n=>[n % 256]
 |f+1,n=>if n<128 then [n] else (n % 128+128)::jZ f (n / 128)
def zn (n:Nat):List Nat:=jZ 8 n
def encI (n:Int):List Nat:=zn (jW n)
def uK (n:Nat):Nat:=(zn n).length - 1
theorem I4:∀ f n,1≤(jZ f n).length∧(jZ f n).length≤f+1
 |0,n=>by simp [jZ]
 |f+1,n=>by
  unfold jZ
  split
  ·simp
  ·have:=I4 f (n / 128)
   simp only [zd];omega
theorem LH:∀ f n,∀ c∈jZ f n,c<256
 |0,n,c,h=>by simp [jZ] at h;omega
 |f+1,n,c,h=>by
  unfold jZ at h
  split at h
  ·simp at h;omega
  ·rcases ZaJ.1 h with h|h
   ·omega
   ·exact LH f (n / 128) c h
theorem TQ (n:Nat):1≤(zn n).length∧(zn n).length≤9:=I4 8 n
theorem nO (n:Int):1≤(encI n).length∧(encI n).length≤9:=TQ _
theorem uM (n:Int):∀ c∈encI n,c<256:=LH 8 _
theorem Yl:∀ (f n i:Nat),n<128 ^ (f+1)→i+1<(jZ f n).length→128≤n / 128 ^ i∧(jZ f n)[i]?=some (n / 128 ^ i % 128+128)
 |0,n,i,hn,hi=>by simp [jZ] at hi
 |f+1,n,i,hn,hi=>by
  unfold jZ at hi ⊢
  by_cases c:n<128
  ·rw [if_pos c] at hi;simp at hi
  ·rw [if_neg c] at hi ⊢
   cases i with
   |zero=>simp;omega
   |succ i =>
    have h2:n / 128<128 ^ (f+1):=Zbr (by rw [← Zb3];exact hn)
    have:=Yl f (n / 128) i h2 (by simp only [zd] at hi;omega)
    rw [ZcF,← Zb3] at this
    exact ⟨this.1,by rw [Za8];exact this.2⟩
theorem LJ:∀ (f n:Nat),n<128 ^ (f+1)→n / 128 ^ ((jZ f n).length - 1)<128∧jZ f n=(jZ f n).take ((jZ f n).length - 1)++[n / 128 ^ ((jZ f n).length - 1)]
 |0,n,hn=>by
  have:n<128:=by simpa using hn
  simp [jZ];omega
 |f+1,n,hn=>by
  unfold jZ
  by_cases c:n<128
  ·rw [if_pos c];simp;exact c
  ·rw [if_neg c]
   have h2:n / 128<128 ^ (f+1):=Zbr (by rw [← Zb3];exact hn)
   obtain ⟨h3,h4⟩:=LJ f (n / 128) h2
   have h5:=(I4 f (n / 128)).1
   rw [ZcF,← Zb3] at h3 h4
   have e:((n % 128+128)::jZ f (n / 128)).length - 1=(jZ f (n / 128)).length - 1+1:=by simp only [zd];omega
   rw [e]
   refine ⟨h3,?_⟩
   rw [Zbw,Zbq,← h4]
theorem TS {n:Nat}(h:n≤most):n<128 ^ (8+1):=by unfold most at h;omega
theorem Ym {n i:Nat}(h:n≤most)(hi:i<uK n):128≤n / 128 ^ i∧(zn n)[i]?=some (n / 128 ^ i % 128+128):=Yl 8 n i (TS h) (by unfold uK zn at hi;omega)
theorem Dv {n:Nat}(h:n≤most):n / 128 ^ uK n<128∧zn n=(zn n).take (uK n)++[n / 128 ^ uK n]:=LJ 8 n (TS h)
theorem aa6 {n i:Nat}(h:n≤most)(hi:i<uK n):(zn n).take (i+1)=(zn n).take i++[n / 128 ^ i % 128+128]:=by
 have e:=(Ym h hi).2
 obtain ⟨h1,h2⟩:=za.1 e
 rw [ZaG h1,h2]
def rM:Nat→Nat→Nat→List Nat→Nat×Nat×Nat
 |0,_,_,_=>(3,0,0)
 |_+1,_,_,[]=>(10,0,0)
 |k+1,i,n,b::l=>if b<128 then (if (b=0∧0<i)∨most<n+b*128 ^ i then (3,0,0) else (0,n+b*128 ^ i,i+1)) else rM k (i+1) (n+b % 128*128 ^ i) l
def dL (l:List Nat):Nat×Nat×Nat:=rM 8 0 0 l
theorem LK:∀ (k i n:Nat) (l:List Nat),(rM k i n l).1=0→i<(rM k i n l).2.2∧(rM k i n l).2.2≤i+l.length∧(rM k i n l).2.1≤most
 |0,_,_,_,h=>by simp [rM] at h
 |k+1,_,_,[],h=>by simp [rM] at h
 |k+1,i,n,b::l,h=>by
  unfold rM at h ⊢
  by_cases c:b<128
  ·rw [if_pos c] at h ⊢
   by_cases c2:(b=0∧0<i)∨most<n+b*128 ^ i
   ·rw [if_pos c2] at h;simp at h
   ·rw [if_neg c2]
    simp only [zd]
    omega
  ·rw [if_neg c] at h ⊢
   have:=LK k (i+1) _ l h
   simp only [zd]
   omega
theorem LM {l:List Nat}(h:(dL l).1=0):0<(dL l).2.2∧(dL l).2.2≤l.length∧(dL l).2.1≤most:=by
 unfold dL at h ⊢
 obtain ⟨h1,h2,h3⟩:=LK 8 0 0 l h
 exact ⟨h1,by omega,h3⟩
theorem TU:∀ (f n i acc:Nat) (rest:List Nat),n<128 ^ (f+1)→(0<i→0<n)→acc+n*128 ^ i≤most→rM (f+1) i acc (jZ f n++rest)=(0,acc+n*128 ^ i,i+(jZ f n).length)
 |0,n,i,acc,rest,hn,h0,hm=>by
  have hn:n<128:=by simpa using hn
  have e:jZ 0 n=[n]:=by simp [jZ];omega
  rw [e]
  show rM 1 i acc (n::rest)=_
  unfold rM
  rw [if_pos hn,if_neg (by omega)]
  rfl
 |f+1,n,i,acc,rest,hn,h0,hm=>by
  unfold jZ
  by_cases c:n<128
  ·rw [if_pos c]
   show rM (f+2) i acc (n::rest)=_
   unfold rM
   rw [if_pos c,if_neg (by omega)]
   rfl
  ·rw [if_neg c]
   show rM (f+2) i acc ((n % 128+128)::(jZ f (n / 128)++rest))=_
   unfold rM
   rw [if_neg (by omega)]
   have h2:n / 128<128 ^ (f+1):=Zbr (by rw [← Zb3];exact hn)
   have e1:(n % 128+128) % 128=n % 128:=by omega
   have e2:acc+n % 128*128 ^ i+n / 128*128 ^ (i+1)=acc+n*128 ^ i:=by
    rw [Zb3,← Nat.mul_assoc,Za9,← Nat.add_mul]
    congr 2
    omega
   rw [e1,TU f (n / 128) (i+1) _ rest h2 (fun _=>by omega) (by rw [e2];exact hm),e2]
   simp only [zd]
   congr 2
   omega
theorem aa7:∀ (f n:Nat),n<128 ^ f→jZ f n=jZ (f - 1) n∨f=0
 |0,_,_=>.inr rfl
 |f+1,n,h=>by
  left
  show jZ (f+1) n=jZ f n
  induction f generalizing n with
  |zero =>
   have h:n<128:=by simpa using h
   simp [jZ,h];omega
  |succ f ih =>
   show (if n<128 then [n] else (n % 128+128)::jZ (f+1) (n / 128))=(if n<128 then [n] else (n % 128+128)::jZ f (n / 128))
   by_cases c:n<128
   ·rw [if_pos c,if_pos c]
   ·rw [if_neg c,if_neg c,ih (n / 128) (Zbr (by rw [← Zb3];exact h))]
theorem Xm {n:Nat}(h:n≤most):zn n=jZ 7 n:=by
 rcases aa7 8 n (by unfold most at h;omega) with e|e
 ·exact e
 ·cases e
theorem akg {n:Nat}(h:n≤most)(rest:List Nat):dL (zn n++rest)=(0,n,(zn n).length):=by
 rw [Xm h]
 have:=TU 7 n 0 0 rest (by unfold most at h;omega) (fun e=>absurd e (Nat.lt_irrefl _)) (by simpa using h)
 simpa [dL] using this
def wP (l:List Nat)(m i:Nat):List Nat:=l++(zn m).take i
theorem aa8 (l:List Nat)(m:Nat):wP l m 0=l:=by simp [wP]
theorem aa9 {m i:Nat}(l:List Nat)(h:m≤most)(hi:i<uK m):wP l m (i+1)=wP l m i++[m / 128 ^ i % 128+128]:=by
 unfold wP;rw [aa6 h hi,Zam]
theorem TV (l:List Nat)(m i:Nat):(wP l m i).length≤l.length+9:=by
 have:=TQ m
 unfold wP;rw [zp,Zac];omega
theorem abb {m:Nat}(l:List Nat)(h:m≤most):wP l m (uK m)++[m / 128 ^ uK m]=l++zn m:=by
 unfold wP
 rw [Zam,← (Dv h).2]
theorem aqO {x:Nat}(h:x<128):IntKind.u8.wrap ((Zau IntKind.u8.bits (x:Int) ||| Zau IntKind.u8.bits 128).toNat:Int)=((x+128:Nat):Int):=by
 have key:∀ x:Fin 128,IntKind.u8.wrap ((Zau IntKind.u8.bits ((x.val:Nat):Int) ||| Zau IntKind.u8.bits 128).toNat:Int)=((x.val+128:Nat):Int):=by decide +kernel
 exact key ⟨x,h⟩
theorem agl {x:Nat}(h:x<256):IntKind.u8.wrap (x:Int)=(x:Int):=by
 simp only [IntKind.wrap,IntKind.bits,IntKind.signed,ZaS,zj,if_false]
 omega
theorem agm (x:Nat):((x:Nat):Int).tmod 128=((x % 128:Nat):Int):=by rw [Zas (by omega)];omega
theorem agn (m i:Nat):((m / 128 ^ i:Nat):Int).tdiv 128=((m / 128 ^ (i+1):Nat):Int):=by
 rw [Zdb,← ZcF]
 generalize m / 128 ^ i=q
 rw [Zbk (by omega)];omega
theorem akh {q:Nat}(h:q≤most):IntKind.i64.wrap (q:Int)=(q:Int):=aP (by unfold most at h;omega)
theorem aqP:((128:Int)=0)=False:=eq_false (by decide)
theorem aov (m i:Nat):m / 128 ^ i≤m:=Nat.div_le_self _ _
theorem aki {l:List Nat}{m:Nat}(hm:m≤most)(hl:l.length≤1000000){st:St}(h:st.head [0,1,21] st.boxes.length=some ⟨sl 27 [(0,.row 1 ((wP l m ((0:Nat))).map eY)),(1,.pv (.int .i64 ((m / 128 ^ ((0:Nat)):Nat):Int))),(21,.any)],[],[],none⟩) :
  den env Ib st=some (.normal,⟨sl 27 [(0,.row 1 ((wP l m (uK m)).map eY)),(1,.pv (.int .i64 ((m / 128 ^ uK m:Nat):Int))),(4,.any)],[],[],none⟩):=by
 unfold Ib
 refine bG (env:=env) (uK m) (fun i=>⟨sl 27 [(0,.row 1 ((wP l m (i)).map eY)),(1,.pv (.int .i64 ((m / 128 ^ (i):Nat):Int))),(21,.any)],[],[],none⟩) (fun i=>some (.normal,⟨sl 27 [(0,.row 1 ((wP l m (uK m)).map eY)),(1,.pv (.int .i64 ((m / 128 ^ uK m:Nat):Int))),(4,.any)],[],[],none⟩)) h (fun _=>rfl) (fun _=>by simp only [aQ,dY,Nat.reduceMul,Nat.reduceBEq,Nat.reduceLT,Nat.reduceLeDiff,Nat.reduceAdd,decide_true,Zai,Zaf]) ?_ ?_
 ·intro i rb hi ih
  obtain ⟨q1,_⟩:=Ym hm hi
  have F1:(((m / 128 ^ i:Nat):Int) ≥ 128)=True:=eq_true (by omega)
  have F2:=agm (m / 128 ^ i)
  have hx:m / 128 ^ i % 128<128:=Zbs _ (by decide)
  have F3:=agl (x:=m / 128 ^ i % 128) (by omega)
  have F4:=aqO hx
  have F5:=agn m i
  have hd:=aov m (i+1)
  have F6:=akh (zR hd hm)
  have F7:((wP l m i).length+1≤lim)=True:=eq_true (by have:=TV l m i;unfold lim;omega)
  have hs:(wP l m (i+1)).map eY=(wP l m i).map eY++[.int .u8 ((m / 128 ^ i % 128+128:Nat):Int)]:=by rw [aa9 l hm hi,ZaC];rfl
  simp only [Ia,F1,F2,F3,F4,F5,F6,F7,aqP,zb,aN,Nat.reduceMul,Nat.reduceBEq,Nat.reduceLT,Nat.reduceLeDiff,reduceCtorEq,Nat.reduceEqDiff,Nat.reduceAdd,Z1]
  rw [ih _ (by rw [hs];simp only [aN,Nat.reduceMul,Nat.reduceBEq,Nat.reduceLT,Nat.reduceLeDiff,reduceCtorEq,Nat.reduceEqDiff,Nat.reduceAdd,Z1]<;>rfl)]
 ·intro rb
  have F1:(((m / 128 ^ uK m:Nat):Int) ≥ 128)=False:=eq_false (by have:=(Dv hm).1;omega)
  simp only [Ia,F1,aN,Nat.reduceMul,Nat.reduceBEq,Nat.reduceLT,Nat.reduceLeDiff,reduceCtorEq,Nat.reduceEqDiff,Nat.reduceAdd,Z1]
theorem OE {l:List Nat}{n:Int}(hl:l.length≤1000000):xU env 244 (.row 1 (l.map eY)) [.int .i64 n]=some ([(.list 1 ((l++encI n).map eY),true)],none):=by
 have hc:=akf n
 have key:∀ {st:St},st.head [0,1,21] st.boxes.length=some ⟨sl 27 [(0,.row 1 (l.map eY)),(1,.pv (.int .i64 ((jW n:Nat):Int))),(21,.any)],[],[],none⟩→_:=fun {st} h=>aki (l:=l) (m:=jW n) hc hl (st:=st) (by rw [aa8];simpa using h)
 have F8:=agl (x:=jW n / 128 ^ uK (jW n)) (by have:=(Dv hc).1;omega)
 have F9:((wP l (jW n) (uK (jW n))).length+1≤lim)=True:=eq_true (by have:=TV l (jW n) (uK (jW n));unfold lim;omega)
 have hr:(l++encI n).map eY=(wP l (jW n) (uK (jW n))).map eY++[.int .u8 ((jW n / 128 ^ uK (jW n):Nat):Int)]:=by
  show (l++zn (jW n)).map eY=_
  rw [← abb l hc,ZaC];rfl
 rw [hr]
 rw [kV anA rfl]
 by_cases c0:n<0
 ·have F0:(n<0)=True:=eq_true c0
  have e0:jW n=0:=by unfold jW;rw [if_pos (.inl c0)]
  simp only [Ic,aQ,Nat.reduceBEq,Nat.reduceLeDiff,Nat.reduceAdd,zd,ze]
  simp only [F0,aN,Nat.reduceMul,Nat.reduceBEq,Nat.reduceLT,Nat.reduceLeDiff,reduceCtorEq,Nat.reduceEqDiff,Nat.reduceAdd,Z1]
  rw [key (by rw [e0];simp only [aQ,dY,Nat.reduceMul,Nat.reduceBEq,Nat.reduceLT,Nat.reduceLeDiff,Nat.reduceAdd,decide_true,Zai,Zaf]<;>rfl)]
  simp only [F8,F9,zb,aN,Nat.reduceMul,Nat.reduceBEq,Nat.reduceLT,Nat.reduceLeDiff,reduceCtorEq,Nat.reduceEqDiff,Nat.reduceAdd,Z1]
 ·have F0:(n<0)=False:=eq_false c0
  by_cases c1:n > 9007199254740991
  ·have F1:(n > 9007199254740991)=True:=eq_true c1
   have e0:jW n=0:=by unfold jW;rw [if_pos (.inr c1)]
   simp only [Ic,aQ,Nat.reduceBEq,Nat.reduceLeDiff,Nat.reduceAdd,zd,ze]
   simp only [F0,F1,aN,Nat.reduceMul,Nat.reduceBEq,Nat.reduceLT,Nat.reduceLeDiff,reduceCtorEq,Nat.reduceEqDiff,Nat.reduceAdd,Z1]
   rw [key (by rw [e0];simp only [aQ,dY,Nat.reduceMul,Nat.reduceBEq,Nat.reduceLT,Nat.reduceLeDiff,Nat.reduceAdd,decide_true,Zai,Zaf]<;>rfl)]
   simp only [F8,F9,zb,aN,Nat.reduceMul,Nat.reduceBEq,Nat.reduceLT,Nat.reduceLeDiff,reduceCtorEq,Nat.reduceEqDiff,Nat.reduceAdd,Z1]
  ·have F1:(n > 9007199254740991)=False:=eq_false c1
   have e0:((jW n:Nat):Int)=n:=by unfold jW;rw [if_neg (by omega)];omega
   simp only [Ic,aQ,Nat.reduceBEq,Nat.reduceLeDiff,Nat.reduceAdd,zd,ze]
   simp only [F0,F1,aN,Nat.reduceMul,Nat.reduceBEq,Nat.reduceLT,Nat.reduceLeDiff,reduceCtorEq,Nat.reduceEqDiff,Nat.reduceAdd,Z1]
   rw [key (by rw [e0];simp only [aQ,dY,Nat.reduceMul,Nat.reduceBEq,Nat.reduceLT,Nat.reduceLeDiff,Nat.reduceAdd,decide_true,Zai,Zaf]<;>rfl)]
   simp only [F8,F9,zb,aN,Nat.reduceMul,Nat.reduceBEq,Nat.reduceLT,Nat.reduceLeDiff,reduceCtorEq,Nat.reduceEqDiff,Nat.reduceAdd,Z1]
def JR:Nat→Nat→Nat→List Nat→Option (Nat×Nat×Nat)
 |0,_,_,_=>none
 |_+1,_,_,[]=>some (10,0,0)
 |k+1,i,n,b::l=>if b<128 then some (if (b=0∧0<i)∨most<n+b*128 ^ i then (3,0,0) else (0,n+b*128 ^ i,i+1)) else JR k (i+1) (n+b % 128*128 ^ i) l
theorem Xn:∀ (k i n:Nat) (l:List Nat),rM k i n l=(JR k i n l).getD (3,0,0)
 |0,_,_,_=>rfl
 |_+1,_,_,[]=>rfl
 |k+1,i,n,b::l=>by
  unfold rM JR
  by_cases c:b<128
  ·rw [if_pos c,if_pos c];rfl
  ·rw [if_neg c,if_neg c];exact Xn k (i+1) _ l
def vZ (l:List Nat):Nat→Nat
 |0=>0
 |i+1=>vZ l i+l.getD i 0 % 128*128 ^ i
theorem Yn (l:List Nat):∀ i,vZ l i<128 ^ i
 |0=>by simp [vZ]
 |i+1=>by
  have h:=Yn l i
  have h2:l.getD i 0 % 128<128:=Zbs _ (by decide)
  have h3:l.getD i 0 % 128*128 ^ i≤127*128 ^ i:=Zah _ (by omega)
  unfold vZ
  rw [Zdb]
  omega
theorem aqQ {i:Nat}(h:i<8):128 ^ (i+1)≤72057594037927936:=by
 have:128 ^ (i+1)≤128 ^ 8:=ZdC (by decide) (by omega)
 exact zR this (by decide)
theorem OG (i:Nat):128 ^ i=2 ^ (7*i):=by rw [Nat.pow_mul]
theorem agp (f:Nat){b:Nat}(h:b<256):IntKind.u8.wrap ((Zau IntKind.u8.bits (b:Int) &&& Zau IntKind.u8.bits 127).toNat:Int)=((b % 128:Nat):Int):=by
 have key:∀ x:Fin 256,IntKind.u8.wrap ((Zau IntKind.u8.bits ((x.val:Nat):Int) &&& Zau IntKind.u8.bits 127).toNat:Int)=((x.val % 128:Nat):Int):=by decide +kernel
 exact key ⟨b,h⟩
theorem agq {b:Nat}(h:b<256):(IntKind.u8.wrap ((Zau IntKind.u8.bits (b:Int) &&& Zau IntKind.u8.bits 128).toNat:Int) != 0)=decide (128≤b):=by
 have key:∀ x:Fin 256,(IntKind.u8.wrap ((Zau IntKind.u8.bits ((x.val:Nat):Int) &&& Zau IntKind.u8.bits 128).toNat:Int) != 0)=decide (128≤x.val):=by decide +kernel
 exact key ⟨b,h⟩
theorem akj {x i:Nat}(hx:x<128)(hi:i<8):IntKind.i64.wrap ((x:Int)*2 ^ (min (7*(i:Int)).toNat IntKind.i64.bits))=((x*128 ^ i:Nat):Int):=by
 have h1:(7*(i:Int)).toNat=7*i:=by omega
 have h2:min (7*i) IntKind.i64.bits=7*i:=Za4 (by show 7*i≤64;omega)
 have h3:=aqQ hi
 have h4:x*128 ^ i≤127*128 ^ i:=Zah _ (by omega)
 rw [Zdb] at h3
 rw [h1,h2]
 have h5:(x:Int)*2 ^ (7*i)=((x*128 ^ i:Nat):Int):=by rw [OG];push_cast;rfl
 rw [h5]
 exact aP (by omega)
theorem aow {a x i:Nat}(ha:a<128 ^ i)(hx:x<128)(hi:i<8):IntKind.i64.wrap ((Zau IntKind.i64.bits (a:Int) ||| Zau IntKind.i64.bits ((x*128 ^ i:Nat):Int)).toNat:Int)=((a+x*128 ^ i:Nat):Int):=by
 have h3:=aqQ hi
 have h4:x*128 ^ i≤127*128 ^ i:=Zah _ (by omega)
 rw [Zdb] at h3
 have e1:(Zau IntKind.i64.bits (a:Int))=Zcr 64 a:=ZdE 64 a
 have e2:(Zau IntKind.i64.bits ((x*128 ^ i:Nat):Int))=Zcr 64 (x*128 ^ i):=ZdE 64 _
 have e3:(Zcr 64 a ||| Zcr 64 (x*128 ^ i)).toNat=a+x*128 ^ i:=by
  rw [BitVec.toNat_or,ZdU,ZdU,Zcf (by omega),Zcf (by omega),Nat.or_comm,Nat.mul_comm x,OG,← Nat.two_pow_add_eq_or_of_lt (by rw [← OG];exact ha),Nat.add_comm]
 rw [e1,e2]
 show IntKind.i64.wrap (((Zcr 64 a ||| Zcr 64 (x*128 ^ i)).toNat:Nat):Int)=_
 rw [e3]
 exact aP (by omega)
def akk (l:List Nat):Option (Nat×Nat×Nat)→Option (Ex×St)
 |none=>some (.normal,⟨sl 57 [(2,.any),(3,.any)],[⟨false,[.pv (.list 1 (l.map eY))]⟩],[],none⟩)
 |some (e,n,u)=>some (.ret,⟨sl 57 [(2,.pv (.int .i64 (n:Int))),(3,.pv (.int .i64 (e:Int)))],[⟨false,[.pv (.list 1 ((l.drop u).map eY))]⟩],[],none⟩)
theorem LP (l:List Nat):akk l none=some (.normal,⟨sl 57 [(2,.any),(3,.any)],[⟨false,[.pv (.list 1 (l.map eY))]⟩],[],none⟩):=rfl
theorem oK (l:List Nat)(e n u:Nat):akk l (some (e,n,u))=some (.ret,⟨sl 57 [(2,.pv (.int .i64 (n:Int))),(3,.pv (.int .i64 (e:Int)))],[⟨false,[.pv (.list 1 ((l.drop u).map eY))]⟩],[],none⟩):=rfl
theorem akl {l:List Nat}(hb:∀ c∈l,c<256)(hl:l.length≤1000000){st:St}(h:st.head [0,4,7] st.boxes.length=some ⟨sl 57 [(0,.aX 0 0),(4,.pv (.int .i64 (vZ l ((0:Nat)):Int))),(7,.pv (.int .i64 (0:Nat)))],[⟨false,[.pv (.list 1 (l.map eY))]⟩],[],none⟩) :
  den env H8 st=akk l (JR (8 - ((0:Nat))) ((0:Nat)) (vZ l ((0:Nat))) (l.drop ((0:Nat)))):=by
 unfold H8
 refine bG (env:=env) (nb:=1) (8) (fun i=>⟨sl 57 [(0,.aX 0 0),(4,.pv (.int .i64 (vZ l (i):Int))),(7,.pv (.int .i64 i))],[⟨false,[.pv (.list 1 (l.map eY))]⟩],[],none⟩) (fun i=>akk l (JR (8 - (i)) (i) (vZ l (i)) (l.drop (i)))) h (fun _=>rfl) (fun _=>by simp only [aQ,dY,Nat.reduceMul,Nat.reduceBEq,Nat.reduceLT,Nat.reduceLeDiff,Nat.reduceAdd,decide_true,Zai,Zaf]) ?_ ?_
 ·intro i rb hi ih
  have hi1:=bH hi (by unfold lim;omega)
  have F1:((i:Int)<8)=True:=eq_true (by omega)
  rw [show 8 - i=(7 - i)+1 by omega]
  by_cases c:i<l.length
  ·have F2:((i:Int) ≥ (l.length:Int))=False:=eq_false (by omega)
   have hbi:=hb _ (Zad c)
   have e0:l.drop i=l[i]::l.drop (i+1):=zt c
   have eg:l.getD i 0=l[i]:=by rw [zP,ZD c];rfl
   have ha:=Yn l i
   have hx:l[i] % 128<128:=Zbs _ (by decide)
   have F3:=agp i hbi
   have F4:IntKind.i64.wrap ((l[i] % 128:Nat):Int)=((l[i] % 128:Nat):Int):=aP (by omega)
   have F5:IntKind.i64.wrap (7*(i:Int))=7*(i:Int):=aP (by omega)
   have F6:(7*(i:Int)<0)=False:=eq_false (by omega)
   have F7:=akj hx hi
   have F8:=aow ha hx hi
   have F9:=agq hbi
   have hs:vZ l (i+1)=vZ l i+l[i] % 128*128 ^ i:=by show vZ l i+l.getD i 0 % 128*128 ^ i=_;rw [eg]
   rw [← hs] at F8
   rw [e0]
   unfold JR
   by_cases c2:l[i]<128
   ·rw [if_pos c2]
    rw [decide_eq_false (show ¬ 128≤l[i] by omega)] at F9
    have e5:vZ l i+l[i]*128 ^ i=vZ l (i+1):=by rw [hs,Zcf c2]
    rw [e5]
    by_cases c3:l[i]=0∧0<i
    ·rw [if_pos (.inl c3)]
     have G1:((l[i]:Int)==0)=true:=by simp [c3.1]
     have G2:((i:Int) > 0)=True:=eq_true (by omega)
     simp only [nI,F1,F2,F3,F4,F5,F6,F7,F8,F9,G1,G2,eY,aC c,zc,ZD c,Zae,zb,oK,ZaE,aN,Nat.reduceMul,Nat.reduceBEq,Nat.reduceLT,Nat.reduceLeDiff,reduceCtorEq,Nat.reduceEqDiff,Nat.reduceAdd,Z1]
     rfl
    ·by_cases c4:most<vZ l (i+1)
     ·rw [if_pos (.inr c4)]
      have G3:((vZ l (i+1):Int) > 9007199254740991)=True:=eq_true (by unfold most at c4;omega)
      by_cases c5:l[i]=0
      ·have G1:((l[i]:Int)==0)=true:=by simp [c5]
       have G2:((i:Int) > 0)=False:=eq_false (by omega)
       simp only [nI,F1,F2,F3,F4,F5,F6,F7,F8,F9,G1,G2,G3,eY,aC c,zc,ZD c,Zae,zb,oK,ZaE,aN,Nat.reduceMul,Nat.reduceBEq,Nat.reduceLT,Nat.reduceLeDiff,reduceCtorEq,Nat.reduceEqDiff,Nat.reduceAdd,Z1]
       rfl
      ·have G1:((l[i]:Int)==0)=false:=by simp [c5]
       simp only [nI,F1,F2,F3,F4,F5,F6,F7,F8,F9,G1,G3,eY,aC c,zc,ZD c,Zae,zb,oK,ZaE,aN,Nat.reduceMul,Nat.reduceBEq,Nat.reduceLT,Nat.reduceLeDiff,reduceCtorEq,Nat.reduceEqDiff,Nat.reduceAdd,Z1]
       rfl
     ·rw [if_neg (by omega)]
      have G3:((vZ l (i+1):Int) > 9007199254740991)=False:=eq_false (by unfold most at c4;omega)
      have hj:IntKind.i64.wrap ((i:Int)+1)=((i+1:Nat):Int):=by rw [aP (by omega)];omega
      have B1:(0≤((i+1:Nat):Int)∧((i+1:Nat):Int)≤(l.length:Int))=True:=eq_true (by omega)
      have B2:((i+1:Nat):Int).toNat=i+1:=by omega
      have B3:(0≤(l.length:Int)∧(l.length:Int)≤(l.length:Int))=True:=eq_true (by omega)
      have hdr:((l.map eY).drop (i+1)).take (l.length - (i+1))=(l.drop (i+1)).map eY:=by
       rw [← List.map_drop,← Zcj,Za2 (by rw [ZaU];exact zg _)]
      by_cases c5:l[i]=0
      ·have G1:((l[i]:Int)==0)=true:=by simp [c5]
       have G2:((i:Int) > 0)=False:=eq_false (by omega)
       simp only [nI,F1,F2,F3,F4,F5,F6,F7,F8,F9,G1,G2,G3,hj,B1,B2,B3,hdr,bound,eY,aC c,zc,ZD c,Zae,zb,oK,aN,Nat.reduceMul,Nat.reduceBEq,Nat.reduceLT,Nat.reduceLeDiff,reduceCtorEq,Nat.reduceEqDiff,Nat.reduceAdd,Z1]
       rfl
      ·have G1:((l[i]:Int)==0)=false:=by simp [c5]
       simp only [nI,F1,F2,F3,F4,F5,F6,F7,F8,F9,G1,G3,hj,B1,B2,B3,hdr,bound,eY,aC c,zc,ZD c,Zae,zb,oK,aN,Nat.reduceMul,Nat.reduceBEq,Nat.reduceLT,Nat.reduceLeDiff,reduceCtorEq,Nat.reduceEqDiff,Nat.reduceAdd,Z1]
       rfl
   ·rw [if_neg c2]
    rw [decide_eq_true (show 128≤l[i] by omega)] at F9
    rw [← hs,show 7 - i=8 - (i+1) by omega]
    simp only [nI,F1,F2,F3,F4,F5,F6,F7,F8,F9,eY,aC c,zc,ZD c,Zae,zb,aN,Nat.reduceMul,Nat.reduceBEq,Nat.reduceLT,Nat.reduceLeDiff,reduceCtorEq,Nat.reduceEqDiff,Nat.reduceAdd,Z1]
    rw [ih _ (by simp only [hi1,aN,Nat.reduceMul,Nat.reduceBEq,Nat.reduceLT,Nat.reduceLeDiff,reduceCtorEq,Nat.reduceEqDiff,Nat.reduceAdd,Z1]<;>rfl)]
  ·have F2:((i:Int) ≥ (l.length:Int))=True:=eq_true (by omega)
   have e0:l.drop i=[]:=ZaT (by omega)
   rw [e0]
   unfold JR
   simp only [nI,F1,F2,zb,oK,ZaE,aN,Nat.reduceMul,Nat.reduceBEq,Nat.reduceLT,Nat.reduceLeDiff,reduceCtorEq,Nat.reduceEqDiff,Nat.reduceAdd,Z1]
   rfl
 ·intro rb
  rw [ZbO]
  unfold JR
  have F1:(((8:Nat):Int)<8)=False:=eq_false (by omega)
  simp only [nI,F1,LP,aN,Nat.reduceMul,Nat.reduceBEq,Nat.reduceLT,Nat.reduceLeDiff,reduceCtorEq,Nat.reduceEqDiff,Nat.reduceAdd,Z1]
def dQ (l:List Nat):List Nat:=l.drop (dL l).2.2
theorem abd {k i n:Nat}{l:List Nat}(h:JR k i n l=none):rM k i n l=(3,0,0):=by rw [Xn,h];rfl
theorem OH {l:List Nat}(hb:∀ c∈l,c<256)(hl:l.length≤1000000):xU env 238 (.box [.list 1 (l.map eY)]) []=some ([(.int .i64 ((dL l).2.1:Int),false),(.int .i64 ((dL l).1:Int),false)],some [.list 1 ((dQ l).map eY)]):=by
 rw [kV anu rfl]
 simp only [SC,aQ,Nat.reduceBEq,Nat.reduceLeDiff,Nat.reduceAdd,zd,ze]
 simp only [aN,Nat.reduceMul,Nat.reduceBEq,Nat.reduceLT,Nat.reduceLeDiff,reduceCtorEq,Nat.reduceEqDiff,Nat.reduceAdd,Z1]
 have key:∀ {st:St},st.head [0,4,7] st.boxes.length=some ⟨sl 57 [(0,.aX 0 0),(4,.pv (.int .i64 ((vZ l 0:Nat):Int))),(7,.pv (.int .i64 (0:Nat)))],[⟨false,[.pv (.list 1 (l.map eY))]⟩],[],none⟩→_:=fun {st} h=>akl (l:=l) hb hl (st:=st) h
 rw [key (by simp only [aQ,dY,Nat.reduceMul,Nat.reduceBEq,Nat.reduceLT,Nat.reduceLeDiff,Nat.reduceAdd,decide_true,Zai,Zaf]<;>rfl)]
 unfold dQ dL
 cases e:JR 8 0 0 l with
 |none =>
  rw [abd e,show 8 - 0=8 from rfl,show vZ l 0=0 from rfl,ZaE,e,LP]
  simp only [aN,Nat.reduceMul,Nat.reduceBEq,Nat.reduceLT,Nat.reduceLeDiff,reduceCtorEq,Nat.reduceEqDiff,Nat.reduceAdd,Z1]
  rfl
 |some q =>
  obtain ⟨x,n,u⟩:=q
  have:rM 8 0 0 l=(x,n,u):=by rw [Xn,e];rfl
  rw [this,show 8 - 0=8 from rfl,show vZ l 0=0 from rfl,ZaE,e,oK]
  simp only [aN,Nat.reduceMul,Nat.reduceBEq,Nat.reduceLT,Nat.reduceLeDiff,reduceCtorEq,Nat.reduceEqDiff,Nat.reduceAdd,Z1]
def lu (e:bf):List Nat:=encI e.start++encI e.count
theorem TY (e:bf):(lu e).length≤18:=by
 have h1:=nO e.start
 have h2:=nO e.count
 unfold lu;rw [zp];omega
def zZ (es:List bf):List Nat:=encI es.length++es.flatMap lu
def EN (l:List Nat)(es:List bf)(i:Nat):List Nat:=l++encI es.length++(es.take i).flatMap lu
theorem agr (es:List bf):(es.flatMap lu).length≤18*es.length:=by
 induction es with
 |nil=>simp
 |cons e es ih=>have:=TY e;simp only [List.flatMap_cons,zp,zd];omega
theorem ags (l:List Nat)(es:List bf)(i:Nat):(EN l es i).length≤l.length+9+18*es.length:=by
 have h1:=nO es.length
 have h2:=agr (es.take i)
 have h3:(es.take i).length≤es.length:=List.length_take_le' _ _
 unfold EN;rw [zp,zp];omega
theorem abe (l:List Nat)(es:List bf):EN l es 0=l++encI es.length:=by simp [EN]
theorem abf (l:List Nat){es:List bf}{i:Nat}(h:i<es.length):EN l es (i+1)=EN l es i++lu es[i]:=by
 unfold EN
 rw [ZaG h,List.flatMap_append]
 simp [Zam]
theorem agt (l:List Nat)(es:List bf):EN l es es.length=l++zZ es:=by
 unfold EN zZ;rw [ZaL,Zam]
theorem aox {l:List Nat}{e:bf}(hl:l.length≤900000):xU env 247 (.row 1 (l.map eY)) [aU e]=some ([(.list 1 ((l++lu e).map eY),true)],none):=by
 have h1:=nO e.start
 have e1:=OE (l:=l) (n:=e.start) (by omega)
 have e2:=OE (l:=l++encI e.start) (n:=e.count) (by rw [zp];omega)
 have eX:aU e=.agg [.int .i64 e.start,.int .i64 e.count]:=rfl
 unfold lu
 rw [eX,← Zam]
 rw [kV anD rfl]
 simp only [SL,aQ,Nat.reduceBEq,Nat.reduceLeDiff,Nat.reduceAdd,zd,ze]
 simp only [e1,e2,aN,Nat.reduceMul,Nat.reduceBEq,Nat.reduceLT,Nat.reduceLeDiff,reduceCtorEq,Nat.reduceEqDiff,Nat.reduceAdd,Z1]
theorem akm {l:List Nat}{es:List bf}{gf:Nat}(hf:∀ {l:List Nat} {e:bf},l.length≤900000→xU env gf (.row 1 (l.map eY)) [aU e]=some ([(.list 1 ((l++lu e).map eY),true)],none))(hl:l.length≤400000)(hes:es.length≤10000){st:St}(h:st.head [0,1,2,12,13,14,15,22] st.boxes.length=some ⟨sl 25 [(0,.row 1 ((EN l es ((0:Nat))).map eY)),(1,.pv (.list 2 (es.map aU))),(2,.pv (.func gf [])),(12,.any),(13,.pv (.list 2 (es.map aU))),(14,.pv (.int .i64 es.length)),(15,.pv (.int .i64 (0:Nat))),(22,.any)],[],[],none⟩) :
  den env Ig st=some (.normal,⟨sl 25 [(0,.row 1 ((l++zZ es).map eY)),(6,.any)],[],[],none⟩):=by
 unfold Ig
 refine bG (env:=env) (es.length) (fun i=>⟨sl 25 [(0,.row 1 ((EN l es (i)).map eY)),(1,.pv (.list 2 (es.map aU))),(2,.pv (.func gf [])),(12,.any),(13,.pv (.list 2 (es.map aU))),(14,.pv (.int .i64 es.length)),(15,.pv (.int .i64 i)),(22,.any)],[],[],none⟩) (fun i=>some (.normal,⟨sl 25 [(0,.row 1 ((l++zZ es).map eY)),(6,.any)],[],[],none⟩)) h (fun _=>rfl) (fun _=>by simp only [aQ,dY,Nat.reduceMul,Nat.reduceBEq,Nat.reduceLT,Nat.reduceLeDiff,Nat.reduceAdd,decide_true,Zai,Zaf]) ?_ ?_
 ·intro i rb hi ih
  have hi1:=bH hi (by unfold lim;omega)
  have F1:((i:Int)<(es.length:Int))=True:=eq_true (by omega)
  have e1:=hf (l:=EN l es i) (e:=es[i]) (by have:=ags l es i;omega)
  rw [← abf l hi] at e1
  have eX:aU es[i]=.agg [.int .i64 es[i].start,.int .i64 es[i].count]:=rfl
  rw [eX] at e1
  simp only [Ie,F1,e1,aU,aC hi,zc,ZD hi,Zae,zb,aN,Nat.reduceMul,Nat.reduceBEq,Nat.reduceLT,Nat.reduceLeDiff,reduceCtorEq,Nat.reduceEqDiff,Nat.reduceAdd,Z1]
  rw [ih _ (by simp only [hi1,aN,Nat.reduceMul,Nat.reduceBEq,Nat.reduceLT,Nat.reduceLeDiff,reduceCtorEq,Nat.reduceEqDiff,Nat.reduceAdd,Z1]<;>rfl)]
 ·intro rb
  rw [agt]
  simp only [Ie,Zar,aN,Nat.reduceMul,Nat.reduceBEq,Nat.reduceLT,Nat.reduceLeDiff,reduceCtorEq,Nat.reduceEqDiff,Nat.reduceAdd,Z1]
theorem aoy {l:List Nat}{es:List bf}{gf:Nat}(hf:∀ {l:List Nat} {e:bf},l.length≤900000→xU env gf (.row 1 (l.map eY)) [aU e]=some ([(.list 1 ((l++lu e).map eY),true)],none))(hl:l.length≤400000)(hes:es.length≤10000) :
  xU env 246 (.row 1 (l.map eY)) [.list 2 (es.map aU),.func gf []]=some ([(.list 1 ((l++zZ es).map eY),true)],none):=by
 have e1:=OE (l:=l) (n:=es.length) (by omega)
 rw [kV anC rfl]
 simp only [SK,aQ,Nat.reduceBEq,Nat.reduceLeDiff,Nat.reduceAdd,zd,ze]
 simp only [e1,zb,aN,Nat.reduceMul,Nat.reduceBEq,Nat.reduceLT,Nat.reduceLeDiff,reduceCtorEq,Nat.reduceEqDiff,Nat.reduceAdd,Z1]
 rw [akm (l:=l) (es:=es) (gf:=gf) hf hl hes]
 rotate_left
 ·rw [abe]
  simp only [aQ,dY,Nat.reduceMul,Nat.reduceBEq,Nat.reduceLT,Nat.reduceLeDiff,Nat.reduceAdd,decide_true,Zai,Zaf]<;>rfl
 ·simp only [aN,Nat.reduceMul,Nat.reduceBEq,Nat.reduceLT,Nat.reduceLeDiff,reduceCtorEq,Nat.reduceEqDiff,Nat.reduceAdd,Z1]
theorem OI {es:List PV}(hl:es.length≤lim):cal env 245 [.list 1 es]=some [(.list 1 es,true)]:=(yS anB).trans (if_pos ⟨rfl,hl⟩)
theorem agu {l:List Nat}{n:Int}(hl:l.length≤1000000):cal env 182 [.list 1 (l.map eY),.int .i64 n]=some [(.list 1 ((l++encI n).map eY),true)]:=by
 have e0:=OI (es:=l.map eY) (by rw [zb];unfold lim;omega)
 have e1:=OE (l:=l) (n:=n) hl
 rw [aj am9 rfl];simp only [RJ,aQ,Nat.reduceBEq,Nat.reduceLeDiff,Nat.reduceAdd,zd,ze]
 simp only [e0,e1,aN,Nat.reduceMul,Nat.reduceBEq,Nat.reduceLT,Nat.reduceLeDiff,reduceCtorEq,Nat.reduceEqDiff,Nat.reduceAdd,Z1]
theorem aoz {l:List Nat}{es:List bf}(hl:l.length≤400000)(hes:es.length≤10000):cal env 183 [.list 1 (l.map eY),.list 2 (es.map aU)]=some [(.list 1 ((l++zZ es).map eY),true)]:=by
 have e0:=OI (es:=l.map eY) (by rw [zb];unfold lim;omega)
 have e1:=aoy (l:=l) (es:=es) (gf:=247) (fun {l e} h=>aox h) hl hes
 rw [aj ana rfl];simp only [RN,aQ,Nat.reduceBEq,Nat.reduceLeDiff,Nat.reduceAdd,zd,ze]
 simp only [e0,e1,aN,Nat.reduceMul,Nat.reduceBEq,Nat.reduceLT,Nat.reduceLeDiff,reduceCtorEq,Nat.reduceEqDiff,Nat.reduceAdd,Z1]
theorem pG {l:List Nat}{c:Nat}(h:c∈dQ l):c∈l:=List.mem_of_mem_drop h
theorem jM (l:List Nat):(dQ l).length≤l.length:=by unfold dQ;rw [ZaU];omega
theorem LQ:∀ (k i n:Nat) (l:List Nat),(rM k i n l).1≠0→(rM k i n l).2.1=0
 |0,_,_,_,_=>rfl
 |_+1,_,_,[],_=>rfl
 |k+1,i,n,b::l,hne=>by
  unfold rM at hne ⊢
  by_cases c:b<128
  ·rw [if_pos c] at hne ⊢
   by_cases c2:(b=0∧0<i)∨most<n+b*128 ^ i
   ·rw [if_pos c2]
   ·rw [if_neg c2] at hne;exact absurd rfl hne
  ·rw [if_neg c] at hne ⊢;exact LQ k _ _ _ hne
theorem LU {l:List Nat}(h:(dL l).1≠0):(dL l).2.1=0:=LQ 8 0 0 l h
theorem LV (l:List Nat):(dL l).2.1≤most:=by
 by_cases h:(dL l).1=0
 ·exact (LM h).2.2
 ·rw [LU h];exact ZaI _
def JU (l:List Nat):Nat:=if (dL l).1=0∧65536<(dL l).2.1 then 5 else (dL l).1
theorem aoA {l:List Nat}(hb:∀ c∈l,c<256)(hl:l.length≤1000000):xU env 268 (.box [.list 1 (l.map eY)]) []=some ([(.int .i64 ((dL l).2.1:Int),false),(.int .i64 (JU l:Int),false)],some [.list 1 ((dQ l).map eY)]):=by
 have e1:=OH hb hl
 unfold JU
 rw [kV anN rfl]
 simp only [Tm,aQ,Nat.reduceBEq,Nat.reduceLeDiff,Nat.reduceAdd,zd,ze]
 by_cases c:(dL l).1=0
 ·rw [c] at e1
  have G1:(((0:Nat):Int)==0)=true:=rfl
  by_cases c2:65536<(dL l).2.1
  ·have F1:(((dL l).2.1:Int) > 65536)=True:=eq_true (by omega)
   rw [if_pos ⟨c,c2⟩]
   simp only [e1,G1,F1,aN,Nat.reduceMul,Nat.reduceBEq,Nat.reduceLT,Nat.reduceLeDiff,reduceCtorEq,Nat.reduceEqDiff,Nat.reduceAdd,Z1]
   rfl
  ·have F1:(((dL l).2.1:Int) > 65536)=False:=eq_false (by omega)
   rw [if_neg (by omega),c]
   simp only [e1,G1,F1,aN,Nat.reduceMul,Nat.reduceBEq,Nat.reduceLT,Nat.reduceLeDiff,reduceCtorEq,Nat.reduceEqDiff,Nat.reduceAdd,Z1]
 ·have G1:(((dL l).1:Int)==0)=false:=by simp [c]
  rw [if_neg (by omega)]
  simp only [e1,G1,aN,Nat.reduceMul,Nat.reduceBEq,Nat.reduceLT,Nat.reduceLeDiff,reduceCtorEq,Nat.reduceEqDiff,Nat.reduceAdd,Z1]
def fM (l:List Nat):Nat×bf×List Nat:=if (dL l).1=0 then ((dL (dQ l)).1,⟨((dL l).2.1:Int),((dL (dQ l)).2.1:Int)⟩,dQ (dQ l)) else ((dL l).1,⟨0,0⟩,dQ l)
theorem abg {l:List Nat}{c:Nat}(h:c∈(fM l).2.2):c∈l:=by
 unfold fM at h
 split at h
 ·exact pG (pG h)
 ·exact pG h
theorem LW (l:List Nat):(fM l).2.2.length≤l.length:=by
 have h1:=jM l
 have h2:=jM (dQ l)
 unfold fM
 split<;>simp only<;>omega
theorem aoB {l:List Nat}(hb:∀ c∈l,c<256)(hl:l.length≤1000000):xU env 269 (.box [.list 1 (l.map eY)]) []=some ([(.int .i64 (fM l).2.1.start,false),(.int .i64 (fM l).2.1.count,false),(.int .i64 ((fM l).1:Int),false)],some [.list 1 ((fM l).2.2.map eY)]):=by
 have e1:=OH hb hl
 have e2:=OH (l:=dQ l) (fun c h=>hb c (pG h)) (zR (jM l) hl)
 unfold fM
 rw [kV anO rfl]
 simp only [Tq,aQ,Nat.reduceBEq,Nat.reduceLeDiff,Nat.reduceAdd,zd,ze]
 by_cases c:(dL l).1=0
 ·rw [c] at e1
  have G1:(((0:Nat):Int) != 0)=false:=rfl
  rw [if_pos c]
  simp only [e1,e2,G1,aN,Nat.reduceMul,Nat.reduceBEq,Nat.reduceLT,Nat.reduceLeDiff,reduceCtorEq,Nat.reduceEqDiff,Nat.reduceAdd,Z1]
 ·have G1:(((dL l).1:Int) != 0)=true:=by simp [c]
  rw [if_neg c]
  simp only [e1,G1,aN,Nat.reduceMul,Nat.reduceBEq,Nat.reduceLT,Nat.reduceLeDiff,reduceCtorEq,Nat.reduceEqDiff,Nat.reduceAdd,Z1]
theorem aoC {l:List Nat}(hb:∀ c∈l,c<256)(hl:l.length≤1000000):xU env 242 (.box [.list 1 (l.map eY)]) []=some ([(aU (fM l).2.1,false),(.int .i64 ((fM l).1:Int),false)],some [.list 1 ((fM l).2.2.map eY)]):=by
 have e1:=aoB hb hl
 unfold aU
 rw [kV anx rfl]
 simp only [SH,aQ,Nat.reduceBEq,Nat.reduceLeDiff,Nat.reduceAdd,zd,ze]
 simp only [e1,aN,Nat.reduceMul,Nat.reduceBEq,Nat.reduceLT,Nat.reduceLeDiff,reduceCtorEq,Nat.reduceEqDiff,Nat.reduceAdd,Z1]
def wQ:Nat→List Nat→List bf→Nat×List bf×List Nat
 |0,l,acc=>(0,acc,l)
 |k+1,l,acc=>if (fM l).1=0 then wQ k (fM l).2.2 (acc++[(fM l).2.1]) else ((fM l).1,acc,(fM l).2.2)
def yw (l:List Nat):Nat→List Nat
 |0=>l
 |i+1=>(fM (yw l i)).2.2
def Dw (l:List Nat)(i:Nat):List bf:=(Zaw i).map fun j=>(fM (yw l j)).2.1
theorem abh (l:List Nat)(i:Nat):Dw l (i+1)=Dw l i++[(fM (yw l i)).2.1]:=by simp [Dw,ZbI]
theorem agv (l:List Nat)(i:Nat):(Dw l i).length=i:=by simp [Dw]
theorem Ua {l:List Nat}{c:Nat}:∀ {i:Nat},c∈yw l i→c∈l
 |0,h=>h
 |i+1,h=>Ua (i:=i) (abg h)
theorem Ub (l:List Nat):∀ i,(yw l i).length≤l.length
 |0=>zg _
 |i+1=>zR (LW _) (Ub l i)
def agw (n:Nat)(q:Nat×List bf×List Nat):Option (Ex×St) :=
 if q.1=0 then some (.normal,⟨sl n [(4,.any),(5,.any),(8,.row 2 (q.2.1.map aU))],[⟨false,[.pv (.list 1 (q.2.2.map eY))]⟩],[],none⟩)
 else some (.ret,⟨sl n [(4,.row 2 []),(5,.pv (.int .i64 (q.1:Int))),(8,.row 2 (q.2.1.map aU))],[⟨false,[.pv (.list 1 (q.2.2.map eY))]⟩],[],none⟩)
theorem akn {l:List Nat}{n gf:Nat}(hf:∀ {l:List Nat},(∀ c∈l,c<256)→l.length≤1000000→xU env gf (.box [.list 1 (l.map eY)]) []=some ([(aU (fM l).2.1,false),(.int .i64 ((fM l).1:Int),false)],some [.list 1 ((fM l).2.2.map eY)]))(hb:∀ c∈l,c<256)(hl:l.length≤1000000)(hn:n≤65536){st:St}(h:st.head [0,1,8,19,20,34] st.boxes.length=some ⟨sl 37 [(0,.aX 0 0),(1,.pv (.func gf [])),(8,.row 2 ((Dw l ((0:Nat))).map aU)),(19,.pv (.int .i64 n)),(20,.pv (.int .i64 (0:Nat))),(34,.any)],[⟨false,[.pv (.list 1 ((yw l ((0:Nat))).map eY))]⟩],[],none⟩) :
  den env H9 st=agw 37 (wQ (n - ((0:Nat))) (yw l ((0:Nat))) (Dw l ((0:Nat)))):=by
 unfold H9
 refine bG (env:=env) (nb:=1) (n) (fun i=>⟨sl 37 [(0,.aX 0 0),(1,.pv (.func gf [])),(8,.row 2 ((Dw l (i)).map aU)),(19,.pv (.int .i64 n)),(20,.pv (.int .i64 i)),(34,.any)],[⟨false,[.pv (.list 1 ((yw l (i)).map eY))]⟩],[],none⟩) (fun i=>agw 37 (wQ (n - (i)) (yw l (i)) (Dw l (i)))) h (fun _=>rfl) (fun _=>by simp only [aQ,dY,Nat.reduceMul,Nat.reduceBEq,Nat.reduceLT,Nat.reduceLeDiff,Nat.reduceAdd,decide_true,Zai,Zaf]) ?_ ?_
 ·intro i rb hi ih
  have hi1:=bH hi (by unfold lim;omega)
  have F1:((i:Int)<(n:Int))=True:=eq_true (by omega)
  have e1:=hf (l:=yw l i) (fun c h=>hb c (Ua h)) (zR (Ub l i) hl)
  have hr:yw l (i+1)=(fM (yw l i)).2.2:=rfl
  have hacc:=abh l i
  have F3:((Dw l i).length+1≤lim)=True:=eq_true (by rw [agv];unfold lim;omega)
  rw [show n - i=(n - (i+1))+1 by omega]
  unfold wQ
  by_cases c:(fM (yw l i)).1=0
  ·rw [if_pos c,← hr,← hacc]
   rw [c,← hr] at e1
   have G1:(((0:Nat):Int) != 0)=false:=rfl
   have hs:(Dw l (i+1)).map aU=(Dw l i).map aU++[.agg [.int .i64 (fM (yw l i)).2.1.start,.int .i64 (fM (yw l i)).2.1.count]]:=by rw [hacc,ZaC];rfl
   unfold aU at e1
   simp only [BH,F1,F3,e1,G1,zb,yT,aN,Nat.reduceMul,Nat.reduceBEq,Nat.reduceLT,Nat.reduceLeDiff,reduceCtorEq,Nat.reduceEqDiff,Nat.reduceAdd,Z1]
   rw [ih _ (by rw [hs];simp only [hi1,aN,Nat.reduceMul,Nat.reduceBEq,Nat.reduceLT,Nat.reduceLeDiff,reduceCtorEq,Nat.reduceEqDiff,Nat.reduceAdd,Z1]<;>rfl)]
  ·rw [if_neg c]
   unfold agw
   rw [if_neg c]
   have G1:(((fM (yw l i)).1:Int) != 0)=true:=by simp [c]
   unfold aU at e1
   simp only [BH,F1,F3,e1,G1,zb,yT,aN,Nat.reduceMul,Nat.reduceBEq,Nat.reduceLT,Nat.reduceLeDiff,reduceCtorEq,Nat.reduceEqDiff,Nat.reduceAdd,Z1]
 ·intro rb
  rw [ZbO]
  unfold wQ agw
  rw [if_pos rfl]
  simp only [BH,Zar,aN,Nat.reduceMul,Nat.reduceBEq,Nat.reduceLT,Nat.reduceLeDiff,reduceCtorEq,Nat.reduceEqDiff,Nat.reduceAdd,Z1]
def agx (q:Nat×List bf×List Nat):Nat×List bf×List Nat:=(q.1,if q.1=0 then q.2.1 else [],q.2.2)
def je (l:List Nat):Nat×List bf×List Nat:=if JU l=0 then agx (wQ (dL l).2.1 (dQ l) []) else (JU l,[],dQ l)
theorem LX {l:List Nat}(h:JU l=0):(dL l).1=0∧(dL l).2.1≤65536:=by
 unfold JU at h
 split at h
 ·cases h
 ·omega
theorem aoD {l:List Nat}{gf:Nat}(hf:∀ {l:List Nat},(∀ c∈l,c<256)→l.length≤1000000→xU env gf (.box [.list 1 (l.map eY)]) []=some ([(aU (fM l).2.1,false),(.int .i64 ((fM l).1:Int),false)],some [.list 1 ((fM l).2.2.map eY)]))(hb:∀ c∈l,c<256)(hl:l.length≤1000000) :
  xU env 241 (.box [.list 1 (l.map eY)]) [.func gf []]=some ([(.list 2 ((je l).2.1.map aU),true),(.int .i64 ((je l).1:Int),false)],some [.list 1 ((je l).2.2.map eY)]):=by
 have e1:=aoA hb hl
 unfold je
 rw [kV anw rfl]
 simp only [SG,aQ,Nat.reduceBEq,Nat.reduceLeDiff,Nat.reduceAdd,zd,ze]
 by_cases c:JU l=0
 ·rw [if_pos c]
  rw [c] at e1
  have G1:(((0:Nat):Int) != 0)=false:=rfl
  simp only [e1,G1,aN,Nat.reduceMul,Nat.reduceBEq,Nat.reduceLT,Nat.reduceLeDiff,reduceCtorEq,Nat.reduceEqDiff,Nat.reduceAdd,Z1]
  rw [akn (l:=dQ l) (n:=(dL l).2.1) (gf:=gf) hf (fun c h=>hb c (pG h)) (zR (jM l) hl) (LX c).2]
  rotate_left
  ·simp only [aQ,dY,Nat.reduceMul,Nat.reduceBEq,Nat.reduceLT,Nat.reduceLeDiff,Nat.reduceAdd,decide_true,Zai,Zaf]<;>rfl
  ·rw [ZbH,show yw (dQ l) 0=dQ l from rfl,show Dw (dQ l) 0=[] from rfl]
   unfold agw agx
   by_cases c2:(wQ (dL l).2.1 (dQ l) []).1=0
   ·rw [if_pos c2,if_pos c2,c2]
    simp only [zb,aN,Nat.reduceMul,Nat.reduceBEq,Nat.reduceLT,Nat.reduceLeDiff,reduceCtorEq,Nat.reduceEqDiff,Nat.reduceAdd,Z1]
    rfl
   ·rw [if_neg c2,if_neg c2,Zao]
    simp only [aN,Nat.reduceMul,Nat.reduceBEq,Nat.reduceLT,Nat.reduceLeDiff,reduceCtorEq,Nat.reduceEqDiff,Nat.reduceAdd,Z1]
 ·rw [if_neg c]
  have G1:((JU l:Int) != 0)=true:=by simp [c]
  simp only [e1,G1,aN,Nat.reduceMul,Nat.reduceBEq,Nat.reduceLT,Nat.reduceLeDiff,reduceCtorEq,Nat.reduceEqDiff,Nat.reduceAdd,Z1]
theorem aoE {l:List Nat}(hb:∀ c∈l,c<256)(hl:l.length≤1000000):cal env 237 [.list 1 (l.map eY),.func 238 []]=some [(.int .i64 ((dL l).2.1:Int),false),(.list 1 ((if (dL l).1=0 then dQ l else []).map eY),true),(.int .i64 ((dL l).1:Int),false)]:=by
 have e1:=OH hb hl
 have e2:=OI (es:=(dQ l).map eY) (by have:=jM l;rw [zb];unfold lim;omega)
 by_cases c:(dL l).1=0
 ·rw [if_pos c]
  rw [c] at e1 ⊢
  have G1:(((0:Nat):Int) != 0)=false:=rfl
  rw [aj afh rfl];simp only [Ll,aQ,Nat.reduceBEq,Nat.reduceLeDiff,Nat.reduceAdd,zd,ze]
  simp only [e1,e2,G1,aN,Nat.reduceMul,Nat.reduceBEq,Nat.reduceLT,Nat.reduceLeDiff,reduceCtorEq,Nat.reduceEqDiff,Nat.reduceAdd,Z1]
  rfl
 ·have G1:(((dL l).1:Int) != 0)=true:=by simp [c]
  have hz:(dL l).2.1=0:=by
   have:=LU c
   exact this
  rw [if_neg c,Zao]
  rw [hz] at e1 ⊢
  rw [aj afh rfl];simp only [Ll,aQ,Nat.reduceBEq,Nat.reduceLeDiff,Nat.reduceAdd,zd,ze]
  simp only [e1,G1,aN,Nat.reduceMul,Nat.reduceBEq,Nat.reduceLT,Nat.reduceLeDiff,reduceCtorEq,Nat.reduceEqDiff,Nat.reduceAdd,Z1]
  rfl
theorem agy {l:List Nat}(hb:∀ c∈l,c<256)(hl:l.length≤1000000):cal env 178 [.list 1 (l.map eY)]=some [(.int .i64 ((dL l).2.1:Int),false),(.list 1 ((if (dL l).1=0 then dQ l else []).map eY),true),(.int .i64 ((dL l).1:Int),false)]:=by
 have e1:=aoE hb hl
 rw [aj am6 rfl];simp only [RG,aQ,Nat.reduceBEq,Nat.reduceLeDiff,Nat.reduceAdd,zd,ze]
 simp only [e1,aN,Nat.reduceMul,Nat.reduceBEq,Nat.reduceLT,Nat.reduceLeDiff,reduceCtorEq,Nat.reduceEqDiff,Nat.reduceAdd,Z1]
theorem aoF {l:List Nat}(hb:∀ c∈l,c<256)(hl:l.length≤1000000):xU env 240 (.box [.list 1 (l.map eY)]) []=some ([(.list 2 ((je l).2.1.map aU),true),(.int .i64 ((je l).1:Int),false)],some [.list 1 ((je l).2.2.map eY)]):=by
 have e1:=aoD (gf:=242) (fun {l} h1 h2=>aoC h1 h2) hb hl
 rw [kV anv rfl]
 simp only [SE,aQ,Nat.reduceBEq,Nat.reduceLeDiff,Nat.reduceAdd,zd,ze]
 simp only [e1,aN,Nat.reduceMul,Nat.reduceBEq,Nat.reduceLT,Nat.reduceLeDiff,reduceCtorEq,Nat.reduceEqDiff,Nat.reduceAdd,Z1]
theorem Uc:∀ (k:Nat) (l:List Nat) (acc:List bf),(wQ k l acc).2.2.length≤l.length∧(wQ k l acc).2.1.length≤acc.length+k
 |0,l,acc=>⟨zg _,zg _⟩
 |k+1,l,acc=>by
  have h1:=LW l
  unfold wQ
  split
  ·have:=Uc k (fM l).2.2 (acc++[(fM l).2.1])
   rw [zp] at this
   simp only [zd,ze] at this
   omega
  ·simp only;omega
theorem agz (l:List Nat):(je l).2.2.length≤l.length∧(je l).2.1.length≤65536:=by
 unfold je agx
 have h2:=jM l
 split
 ·rename_i h
  have h1:=Uc (dL l).2.1 (dQ l) []
  have h3:=(LX h).2
  simp only [ze] at h1
  refine ⟨by simp only;omega,?_⟩
  simp only
  split
  ·omega
  ·simp
 ·exact ⟨h2,by simp⟩
theorem aoG {l:List Nat}(hb:∀ c∈l,c<256)(hl:l.length≤1000000):cal env 239 [.list 1 (l.map eY),.func 240 []]=some [(.list 2 ((if (je l).1=0 then (je l).2.1 else []).map aU),true),(.list 1 ((if (je l).1=0 then (je l).2.2 else []).map eY),true),(.int .i64 ((je l).1:Int),false)]:=by
 have e1:=aoF hb hl
 have e2:=OI (es:=(je l).2.2.map eY) (by have:=(agz l).1;rw [zb];unfold lim;omega)
 by_cases c:(je l).1=0
 ·rw [if_pos c,if_pos c]
  rw [c] at e1 ⊢
  have G1:(((0:Nat):Int) != 0)=false:=rfl
  rw [aj afi rfl];simp only [Lm,aQ,Nat.reduceBEq,Nat.reduceLeDiff,Nat.reduceAdd,zd,ze]
  simp only [e1,e2,G1,zb,aN,Nat.reduceMul,Nat.reduceBEq,Nat.reduceLT,Nat.reduceLeDiff,reduceCtorEq,Nat.reduceEqDiff,Nat.reduceAdd,Z1]
  rfl
 ·have G1:(((je l).1:Int) != 0)=true:=by simp [c]
  rw [if_neg c,if_neg c,Zao,Zao]
  rw [aj afi rfl];simp only [Lm,aQ,Nat.reduceBEq,Nat.reduceLeDiff,Nat.reduceAdd,zd,ze]
  simp only [e1,G1,zb,aN,Nat.reduceMul,Nat.reduceBEq,Nat.reduceLT,Nat.reduceLeDiff,reduceCtorEq,Nat.reduceEqDiff,Nat.reduceAdd,Z1]
theorem aoH {l:List Nat}(hb:∀ c∈l,c<256)(hl:l.length≤1000000):cal env 179 [.list 1 (l.map eY)]=some [(.list 2 ((if (je l).1=0 then (je l).2.1 else []).map aU),true),(.list 1 ((if (je l).1=0 then (je l).2.2 else []).map eY),true),(.int .i64 ((je l).1:Int),false)]:=by
 have e1:=aoG hb hl
 rw [aj am7 rfl];simp only [RH,aQ,Nat.reduceBEq,Nat.reduceLeDiff,Nat.reduceAdd,zd,ze]
 simp only [e1,aN,Nat.reduceMul,Nat.reduceBEq,Nat.reduceLT,Nat.reduceLeDiff,reduceCtorEq,Nat.reduceEqDiff,Nat.reduceAdd,Z1]
theorem Aa {α:Type}{l:List α}{i:Nat}(h:i<l.length):l.take (i+1)=l.take i++[l[i]]:=by rw [ZaG h]
def okE (x:bf):Prop:=(-9223372036854775808≤x.start∧x.start≤9223372036854775807)∧(-9223372036854775808≤x.count∧x.count≤9223372036854775807)
def nU (l:List bf):Prop:=∀ x∈l,okE x
def wK (e:bf):Int:=max e.start 0
def wTo (e:bf):Int:=if e.start<0∨e.count<4096 - e.start then min (e.start+e.count) 4096 else 4096
def wX (e:bf):Int×Int×Bool:=if e.count≤0 then (0,0,false) else (wK e,wTo e,decide (wK e<wTo e))
def tq (e:bf)(s:Nat):Bool:=decide (0<e.count)&&(decide (e.start≤(s:Int))&&decide ((s:Int)<e.start+e.count))
def nC (l:List bf)(s:Nat):Bool:=l.any fun e=>tq e s
theorem OJ {e:bf}(h:(wX e).2.2=true):∃ n m:Nat,wX e=((n:Int),(m:Int),true)∧n<m∧m≤4096∧∀ s:Nat,s<4096→(tq e s=true ↔ n≤s∧s<m):=by
 unfold wX at h ⊢
 by_cases c:e.count≤0
 ·rw [if_pos c] at h;cases h
 ·rw [if_neg c] at h ⊢
  have h2:wK e<wTo e:=by simpa using h
  have h3:0≤wK e:=by unfold wK;omega
  have h4:wTo e≤4096:=by unfold wTo;split<;>omega
  refine ⟨(wK e).toNat,(wTo e).toNat,?_,by omega,by omega,fun s hs=>?_⟩
  ·rw [Zbv h3,Zbv (by omega),decide_eq_true h2]
  ·unfold tq
   simp only [ZZ,decide_eq_true_eq]
   have e1:(wK e).toNat≤s ↔ wK e≤(s:Int):=by omega
   have e2:s<(wTo e).toNat ↔ (s:Int)<wTo e:=by omega
   rw [e1,e2]
   unfold wK wTo
   split<;>omega
theorem agA {e:bf}(h:(wX e).2.2=false){s:Nat}(hs:s<4096):tq e s=false:=by
 unfold wX at h
 by_cases c:e.count≤0
 ·unfold tq
  rw [decide_eq_false (by omega),ZaS]
 ·rw [if_neg c] at h
  have h2:¬ wK e<wTo e:=by simpa using h
  unfold tq
  cases hq:(decide (0<e.count)&&(decide (e.start≤(s:Int))&&decide ((s:Int)<e.start+e.count))) with
  |false=>rfl
  |true =>
   exfalso
   simp only [ZZ,decide_eq_true_eq] at hq
   apply h2
   unfold wK wTo
   split<;>omega
theorem aoI {e:bf}(ho:okE e):cal env 273 [aU e]=some [(.int .i64 (wX e).1,false),(.int .i64 (wX e).2.1,false),(.bool (wX e).2.2,false)]:=by
 obtain ⟨⟨o1,o2⟩,o3,o4⟩:=ho
 unfold wX
 simp only [aU]
 by_cases c:e.count≤0
 ·rw [if_pos c]
  rw [aj Ov rfl];simp only [Es,aQ,Nat.reduceBEq,Nat.reduceLeDiff,Nat.reduceAdd,zd,ze]
  simp only [c,aN,Nat.reduceMul,Nat.reduceBEq,Nat.reduceLT,Nat.reduceLeDiff,reduceCtorEq,Nat.reduceEqDiff,Nat.reduceAdd,Z1]
 ·rw [if_neg c]
  unfold wK wTo
  have hmin:min (e.start+e.count) 4096=if 4096<e.start+e.count then 4096 else e.start+e.count:=by split<;>omega
  by_cases c1:e.start<0
  ·have hmax:max e.start 0=0:=by omega
   rw [hmin,hmax]
   have W1:IntKind.i64.wrap (e.start+e.count)=e.start+e.count:=aP (by omega)
   rw [if_pos (.inl c1)]
   rw [aj Ov rfl];simp only [Es,aQ,Nat.reduceBEq,Nat.reduceLeDiff,Nat.reduceAdd,zd,ze]
   simp only [c,c1,W1,aN,Nat.reduceMul,Nat.reduceBEq,Nat.reduceLT,Nat.reduceLeDiff,reduceCtorEq,Nat.reduceEqDiff,Nat.reduceAdd,Z1]
  ·have hmax:max e.start 0=e.start:=by omega
   rw [hmin,hmax]
   have W2:IntKind.i64.wrap (4096 - e.start)=4096 - e.start:=aP (by omega)
   by_cases c2:e.count<4096 - e.start
   ·have W1:IntKind.i64.wrap (e.start+e.count)=e.start+e.count:=aP (by omega)
    rw [if_pos (.inr c2)]
    rw [aj Ov rfl];simp only [Es,aQ,Nat.reduceBEq,Nat.reduceLeDiff,Nat.reduceAdd,zd,ze]
    simp only [c,c1,c2,W1,W2,aN,Nat.reduceMul,Nat.reduceBEq,Nat.reduceLT,Nat.reduceLeDiff,reduceCtorEq,Nat.reduceEqDiff,Nat.reduceAdd,Z1]
   ·rw [if_neg (by omega)]
    rw [aj Ov rfl];simp only [Es,aQ,Nat.reduceBEq,Nat.reduceLeDiff,Nat.reduceAdd,zd,ze]
    simp only [c,c1,c2,W2,aN,Nat.reduceMul,Nat.reduceBEq,Nat.reduceLT,Nat.reduceLeDiff,reduceCtorEq,Nat.reduceEqDiff,Nat.reduceAdd,Z1]
def fZ (i:Nat)(l:List bf):List End:=l.flatMap fun e=>if (wX e).2.2 then [⟨(wX e).1.toNat,i,1⟩,⟨(wX e).2.1.toNat,i,-1⟩] else []
theorem I5 (i:Nat)(l:List bf)(e:bf):fZ i (l++[e])=fZ i l++(if (wX e).2.2 then [⟨(wX e).1.toNat,i,1⟩,⟨(wX e).2.1.toNat,i,-1⟩] else []):=by simp [fZ]
theorem Dx (i:Nat):∀ l:List bf,(fZ i l).length≤2*l.length
 |[]=>zg _
 |e::l=>by
  have:=Dx i l
  have h:fZ i (e::l)=(if (wX e).2.2 then [⟨(wX e).1.toNat,i,1⟩,⟨(wX e).2.1.toNat,i,-1⟩] else [])++fZ i l:=by simp [fZ]
  rw [h,zp,zd]
  split<;>simp<;>omega
def dF:Nat→List (List bf)→List End
 |_,[]=>[]
 |i,l::ls=>fZ i l++dF (i+1) ls
theorem BR:∀ (ls:List (List bf)) (i:Nat) (l:List bf),dF i (ls++[l])=dF i ls++fZ (i+ls.length) l
 |[],i,l=>by simp [dF]
 |m::ls,i,l=>by
  simp only [Zbq,dF,BR ls (i+1) l,zd,Zam]
  rw [show i+1+ls.length=i+(ls.length+1) by omega]
theorem tu {n:Nat}:∀ (ls:List (List bf)) (i:Nat),(∀ l∈ls,l.length≤n)→(dF i ls).length≤2*n*ls.length
 |[],i,_=>ZaI _
 |l::ls,i,h=>by
  have h1:=tu ls (i+1) fun x hx=>h x (by simp [hx])
  have h2:=Dx i l
  have h3:=h l (by simp)
  simp only [dF,zp,zd]
  rw [Nat.mul_add]
  omega
set_option maxRecDepth 20000 in
theorem ako {D:PV}{l:List bf}{pre:List End}{v n:Nat}{q17:AV}(hq:q17=.pv (.list 2 (l.map aU)))(ho:nU l)(hl:l.length≤100000)(hpre:pre.length≤10000000){st:St}(h:st.head [0,3,4,5,11,12,13,17,18,19,20,39] st.boxes.length=some ⟨sl 45 [(0,.pv D),(3,.row 3 ((pre++fZ v (l.take ((0:Nat)))).map jd)),(4,.pv (.int .i64 v)),(5,.pv (.list 2 (l.map aU))),(11,.pv D),(12,.pv (.int .i64 n)),(13,.pv (.int .i64 v)),(17,.pv (.list 2 (l.map aU))),(18,.pv (.list 2 (l.map aU))),(19,.pv (.int .i64 l.length)),(20,.pv (.int .i64 (0:Nat))),(39,.any)],[],[],none⟩) :
  den env Ik st=some (.normal,⟨sl 45 [(0,.pv D),(2,.any),(3,.row 3 ((pre++fZ v l).map jd)),(11,.pv D),(12,.pv (.int .i64 n)),(13,.pv (.int .i64 v)),(39,.any)],[],[],none⟩):=by
 unfold Ik
 refine bG (env:=env) (l.length) (fun i=>⟨sl 45 [(0,.pv D),(3,.row 3 ((pre++fZ v (l.take (i))).map jd)),(4,.pv (.int .i64 v)),(5,.pv (.list 2 (l.map aU))),(11,.pv D),(12,.pv (.int .i64 n)),(13,.pv (.int .i64 v)),(17,.pv (.list 2 (l.map aU))),(18,.pv (.list 2 (l.map aU))),(19,.pv (.int .i64 l.length)),(20,.pv (.int .i64 i)),(39,.any)],[],[],none⟩) (fun i=>some (.normal,⟨sl 45 [(0,.pv D),(2,.any),(3,.row 3 ((pre++fZ v l).map jd)),(11,.pv D),(12,.pv (.int .i64 n)),(13,.pv (.int .i64 v)),(39,.any)],[],[],none⟩)) h (fun _=>rfl) (fun _=>by simp only [aQ,dY,Nat.reduceMul,Nat.reduceBEq,Nat.reduceLT,Nat.reduceLeDiff,Nat.reduceAdd,decide_true,Zai,Zaf]) ?_ ?_
 ·intro i rb hi ih
  have hlim:lim=1073741824:=rfl
  have hi1:=bH hi (by omega)
  have F1:((i:Int)<(l.length:Int))=True:=eq_true (by omega)
  have hx:l[i]?=some l[i]:=ZD hi
  have ht:=Aa hi
  have hox:=ho _ (Zad hi)
  generalize l[i]=x at *
  have e1:=aoI hox
  have hrl:=Dx v (l.take i)
  rw [Zac] at hrl
  have P2:part [PV.int .i64 x.start,.int .i64 x.count] 0 (some 2)=some (.agg [.int .i64 x.start,.int .i64 x.count]):=rfl
  simp only [aU] at e1
  cases hw:(wX x).2.2 with
  |false =>
   rw [hw] at e1
   have hs:fZ v (l.take (i+1))=fZ v (l.take i):=by rw [ht,I5,hw];simp
   simp only [BI,F1,hx,e1,aU,P2,aC hi,zc,Zae,zb,zd,ze,aN,Nat.reduceMul,Nat.reduceBEq,Nat.reduceLT,Nat.reduceLeDiff,reduceCtorEq,Nat.reduceEqDiff,Nat.reduceAdd,Z1]
   rw [ih _ (by simp only [hi1,hs,aN,Nat.reduceMul,Nat.reduceBEq,Nat.reduceLT,Nat.reduceLeDiff,reduceCtorEq,Nat.reduceEqDiff,Nat.reduceAdd,Z1]<;>rfl)]
  |true =>
   obtain ⟨a,b,hab,-,-,-⟩:=OJ hw
   have hs:fZ v (l.take (i+1))=fZ v (l.take i)++[⟨a,v,1⟩,⟨b,v,-1⟩]:=by rw [ht,I5,hab];simp
   rw [hab] at e1
   have F2:((pre++fZ v (l.take i)).length+1+1≤lim)=True:=eq_true (by rw [zp];omega)
   have F3:((pre++fZ v (l.take i)).length+2≤lim)=True:=eq_true (by rw [zp];omega)
   simp only [BI,F1,F2,F3,hx,e1,aU,P2,aC hi,zc,Zae,zb,zd,ze,aN,Nat.reduceMul,Nat.reduceBEq,Nat.reduceLT,Nat.reduceLeDiff,reduceCtorEq,Nat.reduceEqDiff,Nat.reduceAdd,Z1]
   rw [ih _ (by simp only [hi1,hs,← Zam,ZaC,Zap,Zao,jd,aN,Nat.reduceMul,Nat.reduceBEq,Nat.reduceLT,Nat.reduceLeDiff,reduceCtorEq,Nat.reduceEqDiff,Nat.reduceAdd,Z1]<;>rfl)]
 ·intro rb
  simp only [BI,Zar,zb,ZaL,aN,Nat.reduceMul,Nat.reduceBEq,Nat.reduceLT,Nat.reduceLeDiff,reduceCtorEq,Nat.reduceEqDiff,Nat.reduceAdd,Z1]
set_option maxRecDepth 20000 in
theorem abj {ls:List (List bf)}(ho:∀ l∈ls,nU l)(hr:∀ l∈ls,l.length≤100000)(hl:ls.length≤10){st:St}(h:st.head [0,3,11,12,13,39] st.boxes.length=some ⟨sl 45 [(0,.pv (.list 1 (ls.map bT))),(3,.row 3 ((dF 0 (ls.take ((0:Nat)))).map jd)),(11,.pv (.list 1 (ls.map bT))),(12,.pv (.int .i64 ls.length)),(13,.pv (.int .i64 (0:Nat))),(39,.any)],[],[],none⟩) :
  den env Io st=some (.normal,⟨sl 45 [(2,.any),(3,.row 3 ((dF 0 ls).map jd))],[],[],none⟩):=by
 unfold Io
 refine bG (env:=env) (ls.length) (fun i=>⟨sl 45 [(0,.pv (.list 1 (ls.map bT))),(3,.row 3 ((dF 0 (ls.take (i))).map jd)),(11,.pv (.list 1 (ls.map bT))),(12,.pv (.int .i64 ls.length)),(13,.pv (.int .i64 i)),(39,.any)],[],[],none⟩) (fun i=>some (.normal,⟨sl 45 [(2,.any),(3,.row 3 ((dF 0 ls).map jd))],[],[],none⟩)) h (fun _=>rfl) (fun _=>by simp only [aQ,dY,Nat.reduceMul,Nat.reduceBEq,Nat.reduceLT,Nat.reduceLeDiff,Nat.reduceAdd,decide_true,Zai,Zaf]) ?_ ?_
 ·intro i rb hi ih
  have hlim:lim=1073741824:=rfl
  have hi1:=bH hi (by omega)
  have F1:((i:Int)<(ls.length:Int))=True:=eq_true (by omega)
  have hx:ls[i]?=some ls[i]:=ZD hi
  have ht:=Aa hi
  have hox:=ho _ (Zad hi)
  have hrx:=hr _ (Zad hi)
  have hli:(ls.take i).length=i:=by rw [Zac];omega
  have hp:=tu (n:=100000) (ls.take i) 0 fun l hl=>hr l (List.mem_of_mem_take hl)
  rw [hli] at hp
  generalize ls[i]=l at *
  have hs:dF 0 (ls.take (i+1))=dF 0 (ls.take i)++fZ i l:=by rw [ht,BR,hli,Zaj]
  have hr0:fZ i ([]:List bf)=[]:=rfl
  simp only [Il,F1,hx,bT,aC hi,zc,Zae,zb,aN,Nat.reduceMul,Nat.reduceBEq,Nat.reduceLT,Nat.reduceLeDiff,reduceCtorEq,Nat.reduceEqDiff,Nat.reduceAdd,Z1]
  rw [ako (l:=l) (pre:=dF 0 (ls.take i)) (v:=i) (q17:=.pv (.list 2 (l.map aU))) rfl hox hrx (by omega)]
  rotate_left
  ·simp only [sW,hr0,ZaH,bT,aN,Nat.reduceMul,Nat.reduceBEq,Nat.reduceLT,Nat.reduceLeDiff,reduceCtorEq,Nat.reduceEqDiff,Nat.reduceAdd,Z1]<;>rfl
  simp only [aN,Nat.reduceMul,Nat.reduceBEq,Nat.reduceLT,Nat.reduceLeDiff,reduceCtorEq,Nat.reduceEqDiff,Nat.reduceAdd,Z1]
  rw [ih _ (by simp only [hi1,hs,bT,aN,Nat.reduceMul,Nat.reduceBEq,Nat.reduceLT,Nat.reduceLeDiff,reduceCtorEq,Nat.reduceEqDiff,Nat.reduceAdd,Z1]<;>rfl)]
 ·intro rb
  simp only [Il,Zar,zb,ZaL,aN,Nat.reduceMul,Nat.reduceBEq,Nat.reduceLT,Nat.reduceLeDiff,reduceCtorEq,Nat.reduceEqDiff,Nat.reduceAdd,Z1]
def mg (ls:List (List bf)):List End:=sZ (dF 0 ls)
theorem aoJ {ls:List (List bf)}(ho:∀ l∈ls,nU l)(hr:∀ l∈ls,l.length≤10000)(hl:ls.length≤2)(hsl:(mg ls).length=(dF 0 ls).length):cal env 257 [.list 1 (ls.map bT)]=some [(.list 3 ((mg ls).map jd),true)]:=by
 have hp:=tu (n:=10000) ls 0 hr
 have hp2:(dF 0 ls).length≤1000000:=by
  have:2*10000*ls.length≤2*10000*2:=Nat.mul_le_mul_left _ hl
  omega
 have h1:=JL (g:=275) (l:=dF 0 ls) hp2
 have h2:((sZ (dF 0 ls)).map jd).length=((dF 0 ls).map jd).length:=by
  rw [zb,zb];exact hsl
 unfold mg
 have hcond:(0=0∧(dF 0 ls).length=((dF 0 ls).map jd).length∧((sZ (dF 0 ls)).map jd).length=((dF 0 ls).map jd).length)=True:=eq_true ⟨rfl,by simp,h2⟩
 rw [aj anI rfl];simp only [S9,aQ,Nat.reduceBEq,Nat.reduceLeDiff,Nat.reduceAdd,zd,ze]
 simp only [zb,afl,h1,hsl,aN,Nat.reduceMul,Nat.reduceBEq,Nat.reduceLT,Nat.reduceLeDiff,reduceCtorEq,Nat.reduceEqDiff,Nat.reduceAdd,Z1]
 rw [abj ho (fun l h=>by have:=hr l h;omega) (by omega) (by simp only [sW,dF,Zao,aN,Nat.reduceMul,Nat.reduceBEq,Nat.reduceLT,Nat.reduceLeDiff,reduceCtorEq,Nat.reduceEqDiff,Nat.reduceAdd,Z1]<;>rfl)]
 simp only [h2,zb,afl,h1,hsl,aN,Nat.reduceMul,Nat.reduceBEq,Nat.reduceLT,Nat.reduceLeDiff,reduceCtorEq,Nat.reduceEqDiff,Nat.reduceAdd,Z1]
 rw [← hsl]
 unfold mg
 rw [Bh]
end Go.Proofs.YthccglceomoboaaGreatDoor.V
