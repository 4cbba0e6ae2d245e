/-
  Part 9 of the texts that the statement stands on.
-/
import Derived.Test.YthccglceomoboaaGreatDoorX8
import Derived.Test.YthccglceomoboaaGreatDoorRows
import Derived.WalkSmall
import Derived.WalkSpells
import Derived.Lib.SliceRun
set_option linter.all false
open List renaming getElem?_eq_getElem → ZD, length_map → Z3, getElem?_eq_some_iff → zb, getElem?_map → zc, length_cons → zd, length_nil → zj, getElem?_set → zp, drop_eq_getElem_cons → zr, length_append → zE, getD_eq_getElem?_getD → zR, length_take → Zaa, getElem?_append_right → Zab, getElem?_append_left → Zac, mem_of_getElem? → Zad, map_append → Zag, eq_nil_of_length_eq_zero → Zah, map_cons → Zai, getElem?_take → Zak, range → Zam, getElem_mem → Zap, mem_singleton → Zaq, map_nil → Zar, append_assoc → Zav, getElem?_cons_zero → Zaz, getElem?_drop → ZaC, take_of_length_le → ZaH, mem_cons → ZaK, length_drop → ZaL, getElem?_eq_none → ZaO, mem_map → ZaS, drop_zero → ZaT, filterMap_cons → ZaZ, getElem?_cons_succ → Za3, drop_of_length_le → Za7, mem_range → Zbc, range_succ → Zbe, filterMap_nil → Zbj, getElem?_toArray → Zbk, foldl_cons → Zbq, map_toArray → ZbC, ext_getElem → ZbF, take_add_one → ZbL, foldl_append → ZbM, getElem?_take_of_lt → Zb2, ext_getElem? → Zb8, findIdx_cons → Zca, contains_cons → ZcA, length_range → ZcG, any_eq_true → ZcO, mem_flatMap → ZcP, length_set → ZcT, contains_iff_mem → Zc7, Pairwise → Zdh
open Option renaming some → ZS, map_some → Zae, map_eq_some_iff → Zao, getD_some → Zbh
open Bool renaming and_eq_true → ZZ, true_and → zz, and_self → zP, or_eq_false_iff → Zco
open Nat renaming beq → Z6, le_refl → ze, le_trans → Zaf, zero_add → Zaj, mul_le_mul_right → Zal, lt_of_lt_of_le → Zan, add_mul → Zau, zero_le → ZaD, lt_or_ge → ZaJ, add_assoc → Za0, add_zero → Za4, add_sub_cancel → Zb1
open Array renaming getElem?_eq_some_iff → zw, length_toList → ZaB
open Int renaming lt_irrefl → Zat, toNat_natCast → Zay, eq_ofNat_of_zero_le → Zbr, natCast_mul → ZbV
namespace Go.Proofs.YthccglceomoboaaGreatDoor.V
def DC (p:Nat→Bool)(n i:Nat):Option Nat:=((Zam n).drop i).find? p
theorem Rh {n i:Nat}(h:i<n):(Zam n).drop i=i::(Zam n).drop (i+1):=by
 have h':i<(Zam n).length:=by rw [ZcG];exact h
 rw [zr h',List.getElem_range]
theorem DF {p:Nat→Bool}{n i:Nat}(h:i<n)(c:p i=true):DC p n i=some i:=by
 unfold DC;rw [Rh h,List.find?_cons,c]
theorem yM {p:Nat→Bool}{n i:Nat}(h:i<n)(c:p i=false):DC p n i=DC p n (i+1):=by
 unfold DC;rw [Rh h,List.find?_cons,c]
theorem MS (p:Nat→Bool)(n:Nat):DC p n n=none:=by
 unfold DC;rw [Za7 (by rw [ZcG];exact ze _)];rfl
theorem Hr {p:Nat→Bool}{n:Nat}:DC p n 0=none ↔ ∀ i,i<n→p i=false:=by
 unfold DC
 rw [ZaT,List.find?_eq_none]
 constructor
 ·intro h i hi
  have:=h i (Zbc.2 hi)
  cases c:p i
  ·rfl
  ·exact absurd c this
 ·intro h i hi
  rw [h i (Zbc.1 hi)];decide
def xQ (n:Nat)(a b:List cZ)(i:Nat):Bool:=!decide (wu n a i=wu n b i)
def Di (n:Nat)(a b:List cZ)(la lb:List Int)(i:Nat):Bool:=xQ n a b i&&la.getD i 0==lb.getD i 0
def vg (la lb:List Int)(k i:Nat):Bool:=(iq la k).getD i 0 != (iq lb k).getD i 0
def Zr (la lb:List Int)(k i:Nat):Bool:=if 2*i+1<(iq la k).length then vg la lb k (2*i) || vg la lb k (2*i+1) else vg la lb k (2*i)
def U8 (la lb:List Int)(k i:Nat):Bool:=Zr la lb k i&&(iq la (k+1)).getD i 0==(iq lb (k+1)).getD i 0
def U9 (la lb:List Int)(k:Nat):Bool:=(DC (U8 la lb k) (cd la.length (k+1)) 0).isSome
theorem wG {l:List Int}{k:Nat}(h:k≤gZ l.length):((fG l).map iJ)[k]?=some (.list 1 ((iq l k).map eU)):=by
 rw [zc,ZD (by rw [dI];omega),nM];rfl
theorem CO {l:List Int}{k:Nat}(h:k<l.length):(l.map eU)[k]?=some (.int .u64 (l.getD k 0)):=by
 rw [zc,zR,ZD h];rfl
set_option maxRecDepth 20000 in
theorem ak1 {a b:List cZ}{n:Nat}{la lb:List Int}(h1:1≤a.length∧a.length≤4096)(hab:a.length=b.length)(h2:1≤n∧n≤4096)(ea:la.length=Dh n a.length)(eb:lb.length=la.length)(hla:la.length≤4096){st:St}(h:st.head [0,1,2,9,11,13,14,58] st.boxes.length=some ⟨sl 176 [(0,.pv (.list 8 (a.map bH))),(1,.pv (.list 8 (b.map bH))),(2,.pv (.int .i64 (n:Int))),(9,.aO 0 0),(11,.aO 1 0),(13,.row 1 ((dZ (xQ n a b) ((0:Nat))).map fun (i:Nat)=>eI (i:Int))),(14,.pv (.int .i64 (0:Nat))),(58,.any)],[⟨false,[.pv (.int .i64 (a.length:Int)),.pv (.int .i64 (n:Int)),.pv (.list 1 ((fG la).map iJ))]⟩,⟨false,[.pv (.int .i64 (a.length:Int)),.pv (.int .i64 (n:Int)),.pv (.list 1 ((fG lb).map iJ))]⟩],[],none⟩) :
  den env LP st=match DC (Di n a b la lb) la.length ((0:Nat)) with
 |some j=>some (.ret,⟨sl 176 [(0,.pv (.list 8 (a.map bH))),(2,.pv (.int .i64 (n:Int))),(6,.row 2 []),(7,.pv (.int .i64 0)),(8,.pv (.bool false)),(9,.aO 0 0),(11,.aO 1 0),(13,.row 1 ((dZ (xQ n a b) (j+1)).map fun (i:Nat)=>eI (i:Int))),(58,.any)],[⟨false,[.pv (.int .i64 (a.length:Int)),.pv (.int .i64 (n:Int)),.pv (.list 1 ((fG la).map iJ))]⟩,⟨false,[.pv (.int .i64 (a.length:Int)),.pv (.int .i64 (n:Int)),.pv (.list 1 ((fG lb).map iJ))]⟩],[],none⟩)
 |none=>some (.normal,⟨sl 176 [(0,.pv (.list 8 (a.map bH))),(2,.pv (.int .i64 (n:Int))),(6,.any),(7,.any),(8,.any),(9,.aO 0 0),(11,.aO 1 0),(13,.row 1 ((dZ (xQ n a b) la.length).map fun (i:Nat)=>eI (i:Int))),(58,.any)],[⟨false,[.pv (.int .i64 (a.length:Int)),.pv (.int .i64 (n:Int)),.pv (.list 1 ((fG la).map iJ))]⟩,⟨false,[.pv (.int .i64 (a.length:Int)),.pv (.int .i64 (n:Int)),.pv (.list 1 ((fG lb).map iJ))]⟩],[],none⟩):=by
 unfold LP
 refine aY (env:=env) (nb:=2) (la.length) (fun i=>⟨sl 176 [(0,.pv (.list 8 (a.map bH))),(1,.pv (.list 8 (b.map bH))),(2,.pv (.int .i64 (n:Int))),(9,.aO 0 0),(11,.aO 1 0),(13,.row 1 ((dZ (xQ n a b) (i)).map fun (i:Nat)=>eI (i:Int))),(14,.pv (.int .i64 i)),(58,.any)],[⟨false,[.pv (.int .i64 (a.length:Int)),.pv (.int .i64 (n:Int)),.pv (.list 1 ((fG la).map iJ))]⟩,⟨false,[.pv (.int .i64 (a.length:Int)),.pv (.int .i64 (n:Int)),.pv (.list 1 ((fG lb).map iJ))]⟩],[],none⟩) (fun i=>match DC (Di n a b la lb) la.length (i) with
 |some j=>some (.ret,⟨sl 176 [(0,.pv (.list 8 (a.map bH))),(2,.pv (.int .i64 (n:Int))),(6,.row 2 []),(7,.pv (.int .i64 0)),(8,.pv (.bool false)),(9,.aO 0 0),(11,.aO 1 0),(13,.row 1 ((dZ (xQ n a b) (j+1)).map fun (i:Nat)=>eI (i:Int))),(58,.any)],[⟨false,[.pv (.int .i64 (a.length:Int)),.pv (.int .i64 (n:Int)),.pv (.list 1 ((fG la).map iJ))]⟩,⟨false,[.pv (.int .i64 (a.length:Int)),.pv (.int .i64 (n:Int)),.pv (.list 1 ((fG lb).map iJ))]⟩],[],none⟩)
 |none=>some (.normal,⟨sl 176 [(0,.pv (.list 8 (a.map bH))),(2,.pv (.int .i64 (n:Int))),(6,.any),(7,.any),(8,.any),(9,.aO 0 0),(11,.aO 1 0),(13,.row 1 ((dZ (xQ n a b) la.length).map fun (i:Nat)=>eI (i:Int))),(58,.any)],[⟨false,[.pv (.int .i64 (a.length:Int)),.pv (.int .i64 (n:Int)),.pv (.list 1 ((fG la).map iJ))]⟩,⟨false,[.pv (.int .i64 (a.length:Int)),.pv (.int .i64 (n:Int)),.pv (.list 1 ((fG lb).map iJ))]⟩],[],none⟩)) h (fun _=>rfl) (fun _=>by simp only [aW,bI,Nat.reduceMul,Nat.reduceBEq,Nat.reduceLT,Nat.reduceLeDiff,Nat.reduceAdd,decide_true,zP,zz]) ?_ ?_
 ·intro i rb hi ih
  have hi1:=bC hi (by unfold lim;omega)
  have F1:((i:Int)<(la.length:Int))=True:=eq_true (by omega)
  have u0:∀ l:List Int,iq l 0=l:=fun _=>rfl
  have ha:=wG (l:=la) (k:=0) (by omega)
  have hb:=wG (l:=lb) (k:=0) (by omega)
  rw [u0] at ha hb
  have hll:index (.int .i64 0) (fG la).length=some 0:=au (i:=0) (by rw [dI];omega)
  have hlb:index (.int .i64 0) (fG lb).length=some 0:=au (i:=0) (by rw [dI];omega)
  have xa:=CO (l:=la) (k:=i) hi
  have xb:=CO (l:=lb) (k:=i) (by omega)
  have hin:i*n<a.length:=by rw [ea] at hi;exact (rE h2.1).1 hi
  have e1:=U4 (l:=a) (n:=n) (i:=i) h1.2 h2 hin
  have e2:=U4 (l:=b) (n:=n) (i:=i) (by omega) h2 (by omega)
  have e3:=ahW (a:=wu n a i) (b:=wu n b i) (by unfold wu;rw [Zaa];unfold lim;omega)
  have F4:((dZ (xQ n a b) i).length+1≤lim)=True:=eq_true (by have:=jD (xQ n a b) i;unfold lim;omega)
  have es:dZ (xQ n a b) (i+1)=if xQ n a b i then dZ (xQ n a b) i++[i] else dZ (xQ n a b) i:=Ad _ _
  have ii:eI (i:Int)=.int .i64 (i:Int):=rfl
  by_cases c:wu n a i=wu n b i
  ·have d:xQ n a b i=false:=by unfold xQ;rw [decide_eq_true c];rfl
   have d2:Di n a b la lb i=false:=by unfold Di;rw [d];rfl
   rw [yM hi d2]
   rw [es,d,if_neg (by decide)] at ih
   rw [decide_eq_true c] at e3
   simp only [zH,F1,F4,e1,e2,e3,ha,hb,xa,xb,au hi,hll,hlb,Z3,aC,Nat.reduceMul,Nat.reduceBEq,Nat.reduceLT,Nat.reduceLeDiff,reduceCtorEq,Nat.reduceEqDiff,Nat.reduceAdd,Z6]
   rw [ih _ (by simp only [hi1,aC,Nat.reduceMul,Nat.reduceBEq,Nat.reduceLT,Nat.reduceLeDiff,reduceCtorEq,Nat.reduceEqDiff,Nat.reduceAdd,Z6]<;>rfl)]
  ·have d:xQ n a b i=true:=by unfold xQ;rw [decide_eq_false c];rfl
   rw [es,d,if_pos rfl,Zag,Zai,Zar] at ih
   rw [decide_eq_false c] at e3
   have hj:i<lb.length:=by omega
   by_cases g:la.getD i 0=lb.getD i 0
   ·have G:(la.getD i 0==lb.getD i 0)=true:=beq_iff_eq.2 g
    have d2:Di n a b la lb i=true:=by unfold Di;rw [d,G];rfl
    rw [DF hi d2]
    simp only [es,d,zH,F1,F4,G,e1,e2,e3,ha,hb,xa,xb,au hi,au hj,hll,hlb,Z3,Zag,Zai,Zar,ii,if_true,aC,Nat.reduceMul,Nat.reduceBEq,Nat.reduceLT,Nat.reduceLeDiff,reduceCtorEq,Nat.reduceEqDiff,Nat.reduceAdd,Z6]
   ·have G:(la.getD i 0==lb.getD i 0)=false:=beq_eq_false_iff_ne.2 g
    have d2:Di n a b la lb i=false:=by unfold Di;rw [d,G];rfl
    rw [yM hi d2]
    simp only [zH,F1,F4,G,e1,e2,e3,ha,hb,xa,xb,au hi,au hj,hll,hlb,Z3,aC,Nat.reduceMul,Nat.reduceBEq,Nat.reduceLT,Nat.reduceLeDiff,reduceCtorEq,Nat.reduceEqDiff,Nat.reduceAdd,Z6]
    rw [ih _ (by simp only [hi1,aC,Nat.reduceMul,Nat.reduceBEq,Nat.reduceLT,Nat.reduceLeDiff,reduceCtorEq,Nat.reduceEqDiff,Nat.reduceAdd,Z6]<;>rfl)]
 ·intro rb
  have u0:∀ l:List Int,iq l 0=l:=fun _=>rfl
  have ha:=wG (l:=la) (k:=0) (by omega)
  rw [u0] at ha
  have hll:index (.int .i64 0) (fG la).length=some 0:=au (i:=0) (by rw [dI];omega)
  rw [MS]
  simp only [zH,Zat,ha,hll,Z3,aC,Nat.reduceMul,Nat.reduceBEq,Nat.reduceLT,Nat.reduceLeDiff,reduceCtorEq,Nat.reduceEqDiff,Nat.reduceAdd,Z6]
theorem WL (la lb:List Int)(k i:Nat):((iq la k).getD i 0 != (iq lb k).getD i 0)=vg la lb k i:=rfl
set_option maxHeartbeats 4000000 in
set_option maxRecDepth 20000 in
theorem aeu {a:List cZ}{n k:Nat}{la lb:List Int}{D:List PV}(eb:lb.length=la.length)(hla:1≤la.length∧la.length≤4096)(hk:k+1≤gZ la.length){st:St}(h:st.head [0,2,9,11,13,15,16,58] st.boxes.length=some ⟨sl 176 [(0,.pv (.list 8 (a.map bH))),(2,.pv (.int .i64 (n:Int))),(9,.aO 0 0),(11,.aO 1 0),(13,.row 1 D),(15,.pv (.int .i64 ((k+1:Nat):Int))),(16,.pv (.int .i64 (0:Nat))),(58,.any)],[⟨false,[.pv (.int .i64 (a.length:Int)),.pv (.int .i64 (n:Int)),.pv (.list 1 ((fG la).map iJ))]⟩,⟨false,[.pv (.int .i64 (a.length:Int)),.pv (.int .i64 (n:Int)),.pv (.list 1 ((fG lb).map iJ))]⟩],[],none⟩) :
  den env LQ st=match DC (U8 la lb k) (cd la.length (k+1)) ((0:Nat)) with
 |some _=>some (.ret,⟨sl 176 [(0,.pv (.list 8 (a.map bH))),(2,.pv (.int .i64 (n:Int))),(6,.row 2 []),(7,.pv (.int .i64 0)),(8,.pv (.bool false)),(9,.aO 0 0),(11,.aO 1 0),(13,.row 1 D),(15,.pv (.int .i64 ((k+1:Nat):Int))),(58,.any)],[⟨false,[.pv (.int .i64 (a.length:Int)),.pv (.int .i64 (n:Int)),.pv (.list 1 ((fG la).map iJ))]⟩,⟨false,[.pv (.int .i64 (a.length:Int)),.pv (.int .i64 (n:Int)),.pv (.list 1 ((fG lb).map iJ))]⟩],[],none⟩)
 |none=>some (.normal,⟨sl 176 [(0,.pv (.list 8 (a.map bH))),(2,.pv (.int .i64 (n:Int))),(6,.any),(7,.any),(8,.any),(9,.aO 0 0),(11,.aO 1 0),(13,.row 1 D),(15,.pv (.int .i64 ((k+1:Nat):Int))),(58,.any)],[⟨false,[.pv (.int .i64 (a.length:Int)),.pv (.int .i64 (n:Int)),.pv (.list 1 ((fG la).map iJ))]⟩,⟨false,[.pv (.int .i64 (a.length:Int)),.pv (.int .i64 (n:Int)),.pv (.list 1 ((fG lb).map iJ))]⟩],[],none⟩):=by
 unfold LQ
 refine aY (env:=env) (nb:=2) (cd la.length (k+1)) (fun i=>⟨sl 176 [(0,.pv (.list 8 (a.map bH))),(2,.pv (.int .i64 (n:Int))),(9,.aO 0 0),(11,.aO 1 0),(13,.row 1 D),(15,.pv (.int .i64 ((k+1:Nat):Int))),(16,.pv (.int .i64 i)),(58,.any)],[⟨false,[.pv (.int .i64 (a.length:Int)),.pv (.int .i64 (n:Int)),.pv (.list 1 ((fG la).map iJ))]⟩,⟨false,[.pv (.int .i64 (a.length:Int)),.pv (.int .i64 (n:Int)),.pv (.list 1 ((fG lb).map iJ))]⟩],[],none⟩) (fun i=>match DC (U8 la lb k) (cd la.length (k+1)) (i) with
 |some _=>some (.ret,⟨sl 176 [(0,.pv (.list 8 (a.map bH))),(2,.pv (.int .i64 (n:Int))),(6,.row 2 []),(7,.pv (.int .i64 0)),(8,.pv (.bool false)),(9,.aO 0 0),(11,.aO 1 0),(13,.row 1 D),(15,.pv (.int .i64 ((k+1:Nat):Int))),(58,.any)],[⟨false,[.pv (.int .i64 (a.length:Int)),.pv (.int .i64 (n:Int)),.pv (.list 1 ((fG la).map iJ))]⟩,⟨false,[.pv (.int .i64 (a.length:Int)),.pv (.int .i64 (n:Int)),.pv (.list 1 ((fG lb).map iJ))]⟩],[],none⟩)
 |none=>some (.normal,⟨sl 176 [(0,.pv (.list 8 (a.map bH))),(2,.pv (.int .i64 (n:Int))),(6,.any),(7,.any),(8,.any),(9,.aO 0 0),(11,.aO 1 0),(13,.row 1 D),(15,.pv (.int .i64 ((k+1:Nat):Int))),(58,.any)],[⟨false,[.pv (.int .i64 (a.length:Int)),.pv (.int .i64 (n:Int)),.pv (.list 1 ((fG la).map iJ))]⟩,⟨false,[.pv (.int .i64 (a.length:Int)),.pv (.int .i64 (n:Int)),.pv (.list 1 ((fG lb).map iJ))]⟩],[],none⟩)) h (fun _=>rfl) (fun _=>by simp only [aW,bI,Nat.reduceMul,Nat.reduceBEq,Nat.reduceLT,Nat.reduceLeDiff,Nat.reduceAdd,decide_true,zP,zz]) ?_ ?_
 ·intro i rb hi ih
  have ec:cd la.length (k+1)=(cd la.length k+1) / 2:=rfl
  have ecb:cd lb.length (k+1)=cd la.length (k+1):=by rw [eb]
  have apW:cd lb.length k=cd la.length k:=by rw [eb]
  have hcl:=zV la.length k hla.1
  have hi1:=bC hi (by unfold lim;omega)
  have d3:=(jk hla.1 hla.2).2.2
  have lA:(iq la (k+1)).length=cd la.length (k+1):=fE _ _
  have lB:(iq lb (k+1)).length=cd la.length (k+1):=by rw [fE];exact ecb
  have lA0:(iq la k).length=cd la.length k:=fE _ _
  have lB0:(iq lb k).length=cd la.length k:=by rw [fE];exact apW
  have F1:((i:Int)<((iq la (k+1)).length:Int))=True:=eq_true (by omega)
  have ha:=wG (l:=la) (k:=k+1) hk
  have hb:=wG (l:=lb) (k:=k+1) (by rw [eb];exact hk)
  have ha0:=wG (l:=la) (k:=k) (by omega)
  have hb0:=wG (l:=lb) (k:=k) (by rw [eb];omega)
  have hll:index (.int .i64 ((k+1:Nat):Int)) (fG la).length=some (k+1):=au (by rw [dI];omega)
  have hlb:index (.int .i64 ((k+1:Nat):Int)) (fG lb).length=some (k+1):=au (by rw [dI,eb];omega)
  have Zt:index (.int .i64 (k:Int)) (fG la).length=some k:=au (by rw [dI];omega)
  have hlb0:index (.int .i64 (k:Int)) (fG lb).length=some k:=au (by rw [dI,eb];omega)
  have W0:IntKind.i64.wrap (((k+1:Nat):Int) - 1)=(k:Int):=by rw [aI (by omega)];omega
  have W1:IntKind.i64.wrap (2*(i:Int))=((2*i:Nat):Int):=by rw [aI (by omega)];omega
  have W2:IntKind.i64.wrap (((2*i:Nat):Int)+1)=((2*i+1:Nat):Int):=by rw [aI (by omega)];omega
  have xa:=CO (l:=iq la (k+1)) (k:=i) (by omega)
  have xb:=CO (l:=iq lb (k+1)) (k:=i) (by omega)
  have xa0:=CO (l:=iq la k) (k:=2*i) (by omega)
  have xb0:=CO (l:=iq lb k) (k:=2*i) (by omega)
  have ja:=au (k:=.i64) (show i<(iq la (k+1)).length by omega)
  have jb:=au (k:=.i64) (show i<(iq lb (k+1)).length by omega)
  have ja0:=au (k:=.i64) (show 2*i<(iq la k).length by omega)
  have jb0:=au (k:=.i64) (show 2*i<(iq lb k).length by omega)
  have D0:=WL la lb k (2*i)
  have D1:=WL la lb k (2*i+1)
  have EC:U8 la lb k i=(Zr la lb k i&&(iq la (k+1)).getD i 0==(iq lb (k+1)).getD i 0):=rfl
  by_cases c:2*i+1<(iq la k).length
  ·have F2:(((2*i+1:Nat):Int)<((iq la k).length:Int))=True:=eq_true (by omega)
   have xa1:=CO (l:=iq la k) (k:=2*i+1) c
   have xb1:=CO (l:=iq lb k) (k:=2*i+1) (by omega)
   have ja1:=au (k:=.i64) c
   have jb1:=au (k:=.i64) (show 2*i+1<(iq lb k).length by omega)
   have ed:Zr la lb k i=(vg la lb k (2*i) || vg la lb k (2*i+1)):=if_pos c
   rw [ed] at EC
   cases c0:vg la lb k (2*i)<;>cases c1:vg la lb k (2*i+1)<;>rw [c0] at D0 EC<;>rw [c1] at D1 EC
   ·rw [yM hi EC]
    simp only [qZ,F1,F2,W0,W1,W2,ha,hb,ha0,hb0,xa,xb,xa0,xb0,xa1,xb1,ja,jb,ja0,jb0,ja1,jb1,hll,hlb,Zt,hlb0,D0,D1,Z3,aC,Nat.reduceMul,Nat.reduceBEq,Nat.reduceLT,Nat.reduceLeDiff,reduceCtorEq,Nat.reduceEqDiff,Nat.reduceAdd,Z6]
    rw [ih _ (by simp only [hi1,aC,Nat.reduceMul,Nat.reduceBEq,Nat.reduceLT,Nat.reduceLeDiff,reduceCtorEq,Nat.reduceEqDiff,Nat.reduceAdd,Z6]<;>rfl)]
   all_goals
    cases G:((iq la (k+1)).getD i 0==(iq lb (k+1)).getD i 0)
    ·rw [G] at EC
     rw [yM hi EC]
     simp only [qZ,F1,F2,W0,W1,W2,ha,hb,ha0,hb0,xa,xb,xa0,xb0,xa1,xb1,ja,jb,ja0,jb0,ja1,jb1,hll,hlb,Zt,hlb0,D0,D1,G,Z3,aC,Nat.reduceMul,Nat.reduceBEq,Nat.reduceLT,Nat.reduceLeDiff,reduceCtorEq,Nat.reduceEqDiff,Nat.reduceAdd,Z6]
     rw [ih _ (by simp only [hi1,aC,Nat.reduceMul,Nat.reduceBEq,Nat.reduceLT,Nat.reduceLeDiff,reduceCtorEq,Nat.reduceEqDiff,Nat.reduceAdd,Z6]<;>rfl)]
    ·rw [G] at EC
     rw [DF hi EC]
     simp only [qZ,F1,F2,W0,W1,W2,ha,hb,ha0,hb0,xa,xb,xa0,xb0,xa1,xb1,ja,jb,ja0,jb0,ja1,jb1,hll,hlb,Zt,hlb0,D0,D1,G,Z3,aC,Nat.reduceMul,Nat.reduceBEq,Nat.reduceLT,Nat.reduceLeDiff,reduceCtorEq,Nat.reduceEqDiff,Nat.reduceAdd,Z6]
  ·have F2:(((2*i+1:Nat):Int)<((iq la k).length:Int))=False:=eq_false (by omega)
   have ed:Zr la lb k i=vg la lb k (2*i):=if_neg c
   rw [ed] at EC
   cases c0:vg la lb k (2*i)<;>rw [c0] at D0 EC
   ·rw [yM hi EC]
    simp only [qZ,F1,F2,W0,W1,W2,ha,hb,ha0,hb0,xa,xb,xa0,xb0,ja,jb,ja0,jb0,hll,hlb,Zt,hlb0,D0,Z3,aC,Nat.reduceMul,Nat.reduceBEq,Nat.reduceLT,Nat.reduceLeDiff,reduceCtorEq,Nat.reduceEqDiff,Nat.reduceAdd,Z6]
    rw [ih _ (by simp only [hi1,aC,Nat.reduceMul,Nat.reduceBEq,Nat.reduceLT,Nat.reduceLeDiff,reduceCtorEq,Nat.reduceEqDiff,Nat.reduceAdd,Z6]<;>rfl)]
   ·cases G:((iq la (k+1)).getD i 0==(iq lb (k+1)).getD i 0)
    ·rw [G] at EC
     rw [yM hi EC]
     simp only [qZ,F1,F2,W0,W1,W2,ha,hb,ha0,hb0,xa,xb,xa0,xb0,ja,jb,ja0,jb0,hll,hlb,Zt,hlb0,D0,G,Z3,aC,Nat.reduceMul,Nat.reduceBEq,Nat.reduceLT,Nat.reduceLeDiff,reduceCtorEq,Nat.reduceEqDiff,Nat.reduceAdd,Z6]
     rw [ih _ (by simp only [hi1,aC,Nat.reduceMul,Nat.reduceBEq,Nat.reduceLT,Nat.reduceLeDiff,reduceCtorEq,Nat.reduceEqDiff,Nat.reduceAdd,Z6]<;>rfl)]
    ·rw [G] at EC
     rw [DF hi EC]
     simp only [qZ,F1,F2,W0,W1,W2,ha,hb,ha0,hb0,xa,xb,xa0,xb0,ja,jb,ja0,jb0,hll,hlb,Zt,hlb0,D0,G,Z3,aC,Nat.reduceMul,Nat.reduceBEq,Nat.reduceLT,Nat.reduceLeDiff,reduceCtorEq,Nat.reduceEqDiff,Nat.reduceAdd,Z6]
 ·intro rb
  have ha:=wG (l:=la) (k:=k+1) hk
  have hll:index (.int .i64 ((k+1:Nat):Int)) (fG la).length=some (k+1):=au (by rw [dI];omega)
  have F1:((cd la.length (k+1):Int)<((iq la (k+1)).length:Int))=False:=eq_false (by rw [fE];omega)
  rw [MS]
  simp only [qZ,F1,ha,hll,Z3,aC,Nat.reduceMul,Nat.reduceBEq,Nat.reduceLT,Nat.reduceLeDiff,reduceCtorEq,Nat.reduceEqDiff,Nat.reduceAdd,Z6]
set_option maxRecDepth 20000 in
theorem aev {a:List cZ}{n:Nat}{la lb:List Int}{D:List PV}(eb:lb.length=la.length)(hla:1≤la.length∧la.length≤4096){st:St}(h:st.head [0,2,9,11,13,15,58] st.boxes.length=some ⟨sl 176 [(0,.pv (.list 8 (a.map bH))),(2,.pv (.int .i64 (n:Int))),(9,.aO 0 0),(11,.aO 1 0),(13,.row 1 D),(15,.pv (.int .i64 ((((0:Nat))+1:Nat):Int))),(58,.any)],[⟨false,[.pv (.int .i64 (a.length:Int)),.pv (.int .i64 (n:Int)),.pv (.list 1 ((fG la).map iJ))]⟩,⟨false,[.pv (.int .i64 (a.length:Int)),.pv (.int .i64 (n:Int)),.pv (.list 1 ((fG lb).map iJ))]⟩],[],none⟩) :
  den env LV st=match DC (U9 la lb) (gZ la.length) ((0:Nat)) with
 |some _=>some (.ret,⟨sl 176 [(0,.pv (.list 8 (a.map bH))),(2,.pv (.int .i64 (n:Int))),(6,.row 2 []),(7,.pv (.int .i64 0)),(8,.pv (.bool false)),(13,.row 1 D)],[⟨false,[.pv (.int .i64 (a.length:Int)),.pv (.int .i64 (n:Int)),.pv (.list 1 ((fG la).map iJ))]⟩,⟨false,[.pv (.int .i64 (a.length:Int)),.pv (.int .i64 (n:Int)),.pv (.list 1 ((fG lb).map iJ))]⟩],[],none⟩)
 |none=>some (.normal,⟨sl 176 [(0,.pv (.list 8 (a.map bH))),(2,.pv (.int .i64 (n:Int))),(6,.any),(7,.any),(8,.any),(13,.row 1 D)],[⟨false,[.pv (.int .i64 (a.length:Int)),.pv (.int .i64 (n:Int)),.pv (.list 1 ((fG la).map iJ))]⟩,⟨false,[.pv (.int .i64 (a.length:Int)),.pv (.int .i64 (n:Int)),.pv (.list 1 ((fG lb).map iJ))]⟩],[],none⟩):=by
 unfold LV
 refine aY (env:=env) (nb:=2) (gZ la.length) (fun i=>⟨sl 176 [(0,.pv (.list 8 (a.map bH))),(2,.pv (.int .i64 (n:Int))),(9,.aO 0 0),(11,.aO 1 0),(13,.row 1 D),(15,.pv (.int .i64 (((i)+1:Nat):Int))),(58,.any)],[⟨false,[.pv (.int .i64 (a.length:Int)),.pv (.int .i64 (n:Int)),.pv (.list 1 ((fG la).map iJ))]⟩,⟨false,[.pv (.int .i64 (a.length:Int)),.pv (.int .i64 (n:Int)),.pv (.list 1 ((fG lb).map iJ))]⟩],[],none⟩) (fun i=>match DC (U9 la lb) (gZ la.length) (i) with
 |some _=>some (.ret,⟨sl 176 [(0,.pv (.list 8 (a.map bH))),(2,.pv (.int .i64 (n:Int))),(6,.row 2 []),(7,.pv (.int .i64 0)),(8,.pv (.bool false)),(13,.row 1 D)],[⟨false,[.pv (.int .i64 (a.length:Int)),.pv (.int .i64 (n:Int)),.pv (.list 1 ((fG la).map iJ))]⟩,⟨false,[.pv (.int .i64 (a.length:Int)),.pv (.int .i64 (n:Int)),.pv (.list 1 ((fG lb).map iJ))]⟩],[],none⟩)
 |none=>some (.normal,⟨sl 176 [(0,.pv (.list 8 (a.map bH))),(2,.pv (.int .i64 (n:Int))),(6,.any),(7,.any),(8,.any),(13,.row 1 D)],[⟨false,[.pv (.int .i64 (a.length:Int)),.pv (.int .i64 (n:Int)),.pv (.list 1 ((fG la).map iJ))]⟩,⟨false,[.pv (.int .i64 (a.length:Int)),.pv (.int .i64 (n:Int)),.pv (.list 1 ((fG lb).map iJ))]⟩],[],none⟩)) h (fun _=>rfl) (fun _=>by simp only [aW,bI,Nat.reduceMul,Nat.reduceBEq,Nat.reduceLT,Nat.reduceLeDiff,Nat.reduceAdd,decide_true,zP,zz]) ?_ ?_
 ·intro i rb hi ih
  have d3:=(jk hla.1 hla.2).2.2
  have F1:(((i+1:Nat):Int)<((fG la).length:Int))=True:=eq_true (by rw [dI];omega)
  have W1:IntKind.i64.wrap (((i+1:Nat):Int)+1)=((i+1+1:Nat):Int):=by rw [aI (by omega)];omega
  have EC:U9 la lb i=(DC (U8 la lb i) (cd la.length (i+1)) 0).isSome:=rfl
  simp only [LU,F1,Z3,aC,Nat.reduceMul,Nat.reduceBEq,Nat.reduceLT,Nat.reduceLeDiff,reduceCtorEq,Nat.reduceEqDiff,Nat.reduceAdd,Z6]
  rw [aeu (a:=a) (n:=n) (k:=i) (la:=la) (lb:=lb) (D:=D) eb hla (by omega) (by simp only [aW,bI,Nat.reduceMul,Nat.reduceBEq,Nat.reduceLT,Nat.reduceLeDiff,Nat.reduceAdd,decide_true,zP,zz]<;>rfl)]
  cases c:DC (U8 la lb i) (cd la.length (i+1)) 0 with
  |none =>
   rw [c] at EC
   rw [yM hi EC]
   simp only [aC,Nat.reduceMul,Nat.reduceBEq,Nat.reduceLT,Nat.reduceLeDiff,reduceCtorEq,Nat.reduceEqDiff,Nat.reduceAdd,Z6]
   rw [ih _ (by simp only [W1,aC,Nat.reduceMul,Nat.reduceBEq,Nat.reduceLT,Nat.reduceLeDiff,reduceCtorEq,Nat.reduceEqDiff,Nat.reduceAdd,Z6]<;>rfl)]
  |some j =>
   rw [c] at EC
   rw [DF hi EC]
   simp only [aC,Nat.reduceMul,Nat.reduceBEq,Nat.reduceLT,Nat.reduceLeDiff,reduceCtorEq,Nat.reduceEqDiff,Nat.reduceAdd,Z6]
 ·intro rb
  have F1:(((gZ la.length+1:Nat):Int)<((fG la).length:Int))=False:=eq_false (by rw [dI];omega)
  rw [MS]
  simp only [LU,F1,Z3,aC,Nat.reduceMul,Nat.reduceBEq,Nat.reduceLT,Nat.reduceLeDiff,reduceCtorEq,Nat.reduceEqDiff,Nat.reduceAdd,Z6]
def aew (n:Nat)(a b:List cZ):Bool:=(DC (Di n a b (iL n a) (iL n b)) (iL n a).length 0).isSome || (DC (U9 (iL n a) (iL n b)) (gZ (iL n a).length) 0).isSome
def yO (n:Nat)(a b:List cZ):List Nat:=dZ (xQ n a b) (iL n a).length
set_option maxRecDepth 20000 in
theorem am4 {a b:List cZ}{n:Nat}(h1:1≤a.length∧a.length≤4096)(hab:a.length=b.length)(h2:1≤n∧n≤4096):cal env 41 [.list 8 (a.map bH),.list 8 (b.map bH),.int .i64 (n:Int)]=some (if aew n a b then [(.list 2 [],true),(.int .i64 0,false),(.bool false,false)] else [(.list 2 ((IK (a.length:Int) (n:Int) (yO n a b)).map aZ),true),(.int .i64 ((yO n a b).length:Int),false),(.bool true,false)]):=by
 have hT:=wz h1 h2
 have hT2:=wz (l:=b) (n:=n) (by omega) h2
 have e1:=ad5 (l:=a) (n:=n) h1 h2
 have e2:=ad5 (l:=b) (n:=n) (by omega) h2
 rw [← hab] at e2
 rw [lG] at e1 e2
 have ea:(iL n a).length=Dh n a.length:=jB n a
 have eb:(iL n b).length=(iL n a).length:=by rw [jB,jB,hab]
 have hla:=hT.len
 have e3:=ak0 (sz:=(a.length:Int)) (lf:=(n:Int)) (ns:=yO n a b) hT.s hT.f (by have:=jD (xQ n a b) (iL n a).length;unfold yO;omega) (fun m hm=>by
  have:=(mQ.1 hm).1
  rw [ea] at this
  have:=(rE h2.1).1 this
  have e:(m:Int)*(n:Int)=((m*n:Nat):Int):=by rw [ZbV]
  rw [e];omega)
 have hdl:(yO n a b).length≤4096:=by have:=jD (xQ n a b) (iL n a).length;unfold yO;omega
 have ed:dZ (xQ n a b) (iL n a).length=yO n a b:=rfl
 have f0:dZ (xQ n a b) 0=[]:=rfl
 have Z:((0:Int) != 0)=false:=rfl
 have CA:aew n a b=((DC (Di n a b (iL n a) (iL n b)) (iL n a).length 0).isSome || (DC (U9 (iL n a) (iL n b)) (gZ (iL n a).length) 0).isSome):=rfl
 generalize hA:iL n a=la at *
 generalize hB:iL n b=lb at *
 rw [aA amE rfl];simp only [abX,aW,Nat.reduceBEq,Nat.reduceLeDiff,Nat.reduceAdd,zd,zj]
 simp only [e1,e2,Z,P3,Z3,aC,Nat.reduceMul,Nat.reduceBEq,Nat.reduceLT,Nat.reduceLeDiff,reduceCtorEq,Nat.reduceEqDiff,Nat.reduceAdd,Z6]
 rw [ak1 (a:=a) (b:=b) (n:=n) (la:=la) (lb:=lb) h1 hab h2 ea eb hla.2 (by rw [f0];simp only [aW,bI,Nat.reduceMul,Nat.reduceBEq,Nat.reduceLT,Nat.reduceLeDiff,Nat.reduceAdd,decide_true,zP,zz]<;>rfl)]
 cases c:DC (Di n a b la lb) la.length 0 with
 |some j =>
  rw [c] at CA
  rw [CA]
  simp only [e1,e2,Z,P3,Z3,aC,Nat.reduceMul,Nat.reduceBEq,Nat.reduceLT,Nat.reduceLeDiff,reduceCtorEq,Nat.reduceEqDiff,Nat.reduceAdd,Z6]
  rfl
 |none =>
  rw [ed]
  simp only [e1,e2,Z,P3,Z3,aC,Nat.reduceMul,Nat.reduceBEq,Nat.reduceLT,Nat.reduceLeDiff,reduceCtorEq,Nat.reduceEqDiff,Nat.reduceAdd,Z6]
  rw [aev (a:=a) (n:=n) (la:=la) (lb:=lb) (D:=(yO n a b).map fun (i:Nat)=>eI (i:Int)) eb hla (by simp only [aW,bI,Nat.reduceMul,Nat.reduceBEq,Nat.reduceLT,Nat.reduceLeDiff,Nat.reduceAdd,decide_true,zP,zz]<;>rfl)]
  rw [c] at CA
  cases c2:DC (U9 la lb) (gZ la.length) 0 with
  |some j =>
   rw [c2] at CA
   rw [CA]
   simp only [e1,e2,Z,P3,Z3,aC,Nat.reduceMul,Nat.reduceBEq,Nat.reduceLT,Nat.reduceLeDiff,reduceCtorEq,Nat.reduceEqDiff,Nat.reduceAdd,Z6]
   rfl
  |none =>
   rw [c2] at CA
   rw [CA]
   simp only [e3,P3,Z3,aC,Nat.reduceMul,Nat.reduceBEq,Nat.reduceLT,Nat.reduceLeDiff,reduceCtorEq,Nat.reduceEqDiff,Nat.reduceAdd,Z6]
   rfl
def Va (sz lf:Int)(l:List Int):nT:=⟨Bh sz lf l,[⟨0,1⟩],(gZ l.length:Int),[],0,false⟩
theorem aex {sz lf:Int}{l:List Int}(h:U2 sz lf l):mX sz lf l (Va sz lf l) (gZ l.length) (fun _=>true):=by
 obtain ⟨h1,h2⟩:=h.len
 obtain ⟨d1,-,-⟩:=jk h1 h2
 refine ⟨rfl,h,ze _,rfl,?_,?_,rfl,⟨Int.le_refl _,by show (0:Int)≤8000;decide⟩,rfl⟩
 ·rw [d1];rfl
 ·rw [d1];decide
set_option maxRecDepth 20000 in
theorem am5 {sz lf:Int}{l:List Int}(h:U2 sz lf l):cal env 28 [Bg (Bh sz lf l)]=some [(Zj (Va sz lf l),false),(.list 8 [Am (uZ (Va sz lf l))],true),(.int .i64 0,false)]:=by
 obtain ⟨h1,h2⟩:=h.len
 obtain ⟨d1,d2,d3⟩:=jk h1 h2
 have hll:=dI l
 have k1:=Wv h
 have k2:=Wx (t:=Bh sz lf l) (by show (fG l).length≤100;omega) (fun x hx=>by
  have hx:x∈fG l:=hx
  obtain ⟨i,hi,rfl⟩:=List.getElem_of_mem hx
  rw [nM];exact yI h1 h2 i)
 have k3:=ah0 (w:=Va sz lf l) (by show 1≤4096;decide)
 have W1:IntKind.i64.wrap (((fG l).length:Int) - 1)=(gZ l.length:Int):=by rw [aI (by omega)];omega
 have Z:((0:Int) != 0)=false:=rfl
 have er:Am (uZ (Va sz lf l))=.agg [.int .i64 13,.int .i64 0,.int .i64 0,.int .i64 (gZ l.length:Int),.int .i64 0,.int .i64 0,.list 1 ((vals (Va sz lf l)).map eI),.list 1 []]:=rfl
 have ew:Zj (Va sz lf l)=.agg [.int .i64 sz,.int .i64 lf,.list 1 ((fG l).map iJ),.list 2 [.agg [.int .i64 0,.int .i64 1]],.int .i64 (gZ l.length:Int),.list 2 [],.int .i64 0,.bool false]:=rfl
 have ep:wP (Va sz lf l)=[.int .i64 sz,.int .i64 lf,.list 1 ((fG l).map iJ),.list 2 [.agg [.int .i64 0,.int .i64 1]],.int .i64 (gZ l.length:Int),.list 2 [],.int .i64 0,.bool false]:=rfl
 rw [er,ep] at k3
 rw [er,ew]
 rw [lG] at k1 k2 ⊢
 generalize (vals (Va sz lf l)).map eI=V8 at *
 have sc8:(PV.agg [.int .i64 13,.int .i64 0,.int .i64 0,.int .i64 (gZ l.length:Int),.int .i64 0,.int .i64 0,.list 1 V8,.list 1 []]).scalar=false:=rfl
 rw [aA amA rfl];simp only [abU,aW,Nat.reduceBEq,Nat.reduceLeDiff,Nat.reduceAdd,zd,zj]
 simp only [k1,k2,k3,P3,P8,W1,Z,sc8,Z3,aC,Nat.reduceMul,Nat.reduceBEq,Nat.reduceLT,Nat.reduceLeDiff,reduceCtorEq,Nat.reduceEqDiff,Nat.reduceAdd,Z6]
def gK (lb:List Int)(k:Nat):Int→Int:=fun n=>(iq lb k).getD n.toNat 0
theorem am6 {lb:List Int}(h:∀ d∈lb,QI d)(k:Nat):okG (gK lb k):=⟨fun n=>by
 unfold gK
 rw [zR]
 cases hx:(iq lb k)[n.toNat]? with
 |none=>exact ⟨by decide,by decide⟩
 |some d=>exact U0 h k d (Zad hx)⟩
theorem ah5 {sz lf:Int}{la:List Int}{w:nT}{k:Nat}{p:Nat→Bool}{g:Int→Int}(h:mX sz lf la w k p)(hl:la.length≤200)(hs:w.sent≤7000) :
  ((vk sz lf la w k p g).fin=true∧(vk sz lf la w k p g).pend=[])∨(1≤k∧dZ (qW la k p g) (cd la.length k)≠[]∧mX sz lf la (vk sz lf la w k p g) (k - 1) (fun i=>qW la k p g (i / 2))∧(vk sz lf la w k p g).sent≤w.sent+200):=by
 obtain ⟨h1,h2⟩:=h.T.len
 have hfl:=jD p (cd la.length k)
 have hcl:=zV la.length k h1
 by_cases k0:k=0
 ·left;unfold vk;rw [if_pos k0];exact ⟨rfl,rfl⟩
 ·by_cases q0:dZ (qW la k p g) (cd la.length k)=[]
  ·left;unfold vk;rw [if_neg k0,if_pos q0];exact ⟨rfl,rfl⟩
  ·right
   refine ⟨by omega,q0,?_,?_⟩
   ·obtain ⟨m,rfl⟩:∃ m,k=m+1:=⟨k - 1,by omega⟩
    unfold vk
    rw [if_neg k0,if_neg q0]
    refine ⟨h.t,h.T,by have:=h.kd;omega,rfl,?_,?_,h.found,?_,h.fin⟩
    ·show pN (cd la.length (m+1 - 1)) _=_
     rw [Zb1,ah3]
    ·intro e
     apply q0
     cases hx:dZ (qW la (m+1) p g) (cd la.length (m+1)) with
     |nil=>rfl
     |cons n r =>
      exfalso
      have hn:n∈dZ (qW la (m+1) p g) (cd la.length (m+1)):=by rw [hx];simp
      obtain ⟨a1,a2⟩:=mQ.1 hn
      have:2*n∈dZ (fun i=>qW la (m+1) p g (i / 2)) (cd la.length (m+1 - 1)):=by
       refine mQ.2 ⟨?_,?_⟩
       ·have e2:cd la.length (m+1)=(cd la.length m+1) / 2:=rfl
        rw [Zb1];omega
       ·show qW la (m+1) p g (2*n / 2)=true
        rw [show 2*n / 2=n by omega];exact a2
      rw [e] at this
      simp at this
    ·have:=h.sent
     show 0≤w.sent+_∧w.sent+_≤8000
     omega
   ·unfold vk
    rw [if_neg k0,if_neg q0]
    show w.sent+_≤w.sent+200
    omega
def sQ (sz lf:Int)(la lb:List Int):Nat→nT×(Nat→Bool)
 |0=>(Va sz lf la,fun _=>true)
 |j+1=>(vk sz lf la (sQ sz lf la lb j).1 (gZ la.length - j) (sQ sz lf la lb j).2 (gK lb (gZ la.length - j)),fun i=>qW la (gZ la.length - j) (sQ sz lf la lb j).2 (gK lb (gZ la.length - j)) (i / 2))
theorem ah6 {sz lf:Int}{la lb:List Int}(h:U2 sz lf la)(hl:la.length≤200):∀ j,j≤gZ la.length→(∀ i,i<j→mX sz lf la (sQ sz lf la lb (i+1)).1 (gZ la.length - (i+1)) (sQ sz lf la lb (i+1)).2∧(sQ sz lf la lb (i+1)).1.sent≤200*((i+1:Nat):Int))∨∃ J,1≤J∧J≤j∧((sQ sz lf la lb J).1.fin=true∧(sQ sz lf la lb J).1.pend=[])∧∀ i,i<J→mX sz lf la (sQ sz lf la lb i).1 (gZ la.length - i) (sQ sz lf la lb i).2∧(sQ sz lf la lb i).1.sent≤200*(i:Int)
 |0,_=>.inl fun i hi=>absurd hi (Nat.not_lt_zero _)
 |j+1,hj=>by
  obtain ⟨d1,d2,d3⟩:=jk h.len.1 h.len.2
  rcases ah6 (lb:=lb) h hl j (by omega) with ih|⟨J,a1,a2,a3,a4⟩
  ·have hj0:mX sz lf la (sQ sz lf la lb j).1 (gZ la.length - j) (sQ sz lf la lb j).2∧(sQ sz lf la lb j).1.sent≤200*(j:Int):=by
    cases j with
    |zero=>exact ⟨aex h,by show (0:Int)≤_;omega⟩
    |succ j=>exact ih j (by omega)
   have all:∀ i,i<j+1→mX sz lf la (sQ sz lf la lb i).1 (gZ la.length - i) (sQ sz lf la lb i).2∧(sQ sz lf la lb i).1.sent≤200*(i:Int):=fun i hi=>by
    cases i with
    |zero=>exact ⟨aex h,by show (0:Int)≤_;omega⟩
    |succ i=>exact ih i (by omega)
   rcases ah5 (g:=gK lb (gZ la.length - j)) hj0.1 hl (by have:=hj0.2;omega) with ⟨f1,f2⟩|⟨c1,c2,c3,c4⟩
   ·exact .inr ⟨j+1,by omega,ze _,⟨f1,f2⟩,all⟩
   ·left
    intro i hi
    rcases ZaJ i j with c|c
    ·exact ih i c
    ·obtain rfl:i=j:=by omega
     refine ⟨?_,?_⟩
     ·have:=c3
      rw [show gZ la.length - i - 1=gZ la.length - (i+1) by omega] at this
      exact this
     ·have h2:=hj0.2
      have h3:(sQ sz lf la lb (i+1)).1.sent≤(sQ sz lf la lb i).1.sent+200:=c4
      omega
  ·exact .inr ⟨J,a1,by omega,a3,a4⟩
theorem ak2 {sz lf:Int}{la:List Int}(lb:List Int)(h:U2 sz lf la)(hl:la.length≤200):∃ J,1≤J∧J≤14∧((sQ sz lf la lb J).1.fin=true∧(sQ sz lf la lb J).1.pend=[])∧(∀ i,i<J→mX sz lf la (sQ sz lf la lb i).1 (gZ la.length - i) (sQ sz lf la lb i).2∧(sQ sz lf la lb i).1.sent≤200*(i:Int))∧J≤gZ la.length+1:=by
 obtain ⟨d1,d2,d3⟩:=jk h.len.1 h.len.2
 rcases ah6 (lb:=lb) h hl (gZ la.length) (ze _) with ih|⟨J,a1,a2,a3,a4⟩
 ·have all:∀ i,i<gZ la.length+1→mX sz lf la (sQ sz lf la lb i).1 (gZ la.length - i) (sQ sz lf la lb i).2∧(sQ sz lf la lb i).1.sent≤200*(i:Int):=fun i hi=>by
   cases i with
   |zero=>exact ⟨aex h,by show (0:Int)≤_;omega⟩
   |succ i=>exact ih i (by omega)
  have hd:=all (gZ la.length) (by omega)
  rcases ah5 (g:=gK lb (gZ la.length - gZ la.length)) hd.1 hl (by have:=hd.2;omega) with f|⟨c1,_⟩
  ·exact ⟨gZ la.length+1,by omega,by omega,f,all,ze _⟩
  ·omega
 ·exact ⟨J,a1,by omega,a3,a4,by omega⟩
end Go.Proofs.YthccglceomoboaaGreatDoor.V
namespace Go.Proofs.YthccglceomoboaaGreatDoor
open Go.RowKit
structure rX (W:World)(g:Nat) where
 w:World
 grown:W.grownBy w (some g)
instance (W:World) (g:Nat):Nonempty (rX W g):=⟨⟨W,World.grownBy.refl _ _⟩⟩
theorem rX.of {W w:World}{g:Nat}(h:W.grownBy w (some g)):∃ x:rX W g,w=x.w:=⟨⟨w,h⟩,rfl⟩
theorem grown_drew (W:World)(row:Option Nat):W.grownBy W.drew row:=⟨rfl,rfl,rfl,ze _,fun _ _ _=>rfl⟩
theorem rX.drew (W:World)(g:Nat):∃ x:rX W g,W.drew=x.w:=rX.of (grown_drew _ _)
theorem uG {w:World}{g:Nat}{a:Addr}{v:Value}(h:w.cell? a=some v)(hne:a.block≠g):∀ x:rX w g,x.w.cell? a=some v:=fun x =>
 x.grown.cell h fun e=>hne (ZS.inj e)
theorem Ri {a b c:World}{row:Option Nat}(h:a.grownBy b row)(k:b.grownBy c row):a.grownBy c row :=
 ⟨k.os.trans h.os,k.tape.trans h.tape,k.output.trans h.output,Zaf h.size k.size,fun i hi hr=>(k.block i (Zan hi h.size) hr).trans (h.block i hi hr)⟩
theorem grown_below {B:Nat}{w w':World}{row:Option Nat}(h:w.grownBy w' row)(hB:B≤w.heap.size)(hr:∀ k,row=some k→B≤k):Below B w w':=(Below.refl B w).grown h hB hr
theorem below_grown {w w':World}(h:Below w.heap.size w w'):w.grownBy w' none:=⟨h.os,h.tape,h.output,h.size,fun k hk _=>h.block k hk⟩
theorem MV {w w1:World}{cs:Array Value}{T:TypeId}(hb:Below (w.alloc (.cells cs T)).heap.size (w.alloc (.cells cs T)) w1){j:Nat}{v:Value}(h:cs[j]?=some v):w1.cell? ⟨w.heap.size,j,none⟩=some v:=by
 rw [hb.cell (p:=⟨w.heap.size,j,none⟩) (by simp),World.cell?_alloc_mark w cs T (0,0) j,h]
theorem Rj (w:World)(E:TypeId)(cs:Array Value):∀ j u,cs.toList[j]?=some u→(w.alloc (.cells cs E)).cell? ((⟨w.heap.size,0,none⟩:Addr).add j)=some u:=fun j u hu=>by
 rw [Addr.add_lit,Zaj,World.cell?_alloc_mark w cs E (0,0) j]
 simpa using hu
theorem aey {α:Type}{r:Rep α}{ok:Nat→Prop}{w w':World}{cs:List Value}{x:α}(h:r.rd ok w cs x)(hb:Below w.heap.size w w'):r.rd ok w' cs x :=
 r.mono (fun _ hb=>hb.1) (r.frame (fun b hb'=>hb.block b hb'.2) (r.live h))
theorem Rk {α:Type}{r:Rep α}{ok:Nat→Prop}{w:World}{cs:List Value}{x:α}(h:r.rd ok w cs x){o:Obj}:r.rd ok (w.alloc o) cs x:=aey h ((Below.refl _ _).alloc (ze _) _)
def dJ {α:Type}(r:Rep α)(tag:Nat→Nat)(ok:Nat→Prop)(w:World):Nat→List Value→List α→Prop
 |_,xs,[]=>xs=[]
 |i,xs,x::l=>∃ c rest,xs=c++rest∧r.rd (fun b=>ok b∧tag b=i) w c x∧dJ r tag ok w (i+1) rest l
section
variable {α:Type}{r:Rep α}{tag tag':Nat→Nat}{ok ok':Nat→Prop}{w w':World}
theorem dJ.mono (hk:∀ b,ok b→ok' b):∀ {l:List α} {i:Nat} {xs:List Value},dJ r tag ok w i xs l→dJ r tag ok' w i xs l
 |[],_,_,h=>h
 |_::_,_,_,⟨c,rest,e,h1,h2⟩=>⟨c,rest,e,r.mono (fun b hb=>⟨hk b hb.1,hb.2⟩) h1,h2.mono hk⟩
theorem dJ.retag (hk:∀ b,ok b→tag' b=tag b):∀ {l:List α} {i:Nat} {xs:List Value},dJ r tag ok w i xs l→dJ r tag' ok w i xs l
 |[],_,_,h=>h
 |_::_,_,_,⟨c,rest,e,h1,h2⟩=>⟨c,rest,e,r.mono (fun b hb=>⟨hb.1,by rw [hk b hb.1];exact hb.2⟩) h1,h2.retag hk⟩
theorem dJ.live:∀ {l:List α} {i:Nat} {xs:List Value},dJ r tag ok w i xs l→dJ r tag (fun b=>ok b∧b<w.heap.size) w i xs l
 |[],_,_,h=>h
 |_::_,_,_,⟨c,rest,e,h1,h2⟩=>⟨c,rest,e,r.mono (fun b hb=>⟨⟨hb.1.1,hb.2⟩,hb.1.2⟩) (r.live h1),h2.live⟩
theorem dJ.frame (hf:∀ b,ok b→w'.heap[b]?=w.heap[b]?):∀ {l:List α} {i:Nat} {xs:List Value},dJ r tag ok w i xs l→dJ r tag ok w' i xs l
 |[],_,_,h=>h
 |_::_,_,_,⟨c,rest,e,h1,h2⟩=>⟨c,rest,e,r.frame (fun b hb=>hf b hb.1) h1,h2.frame hf⟩
theorem dJ.chunks:∀ {l:List α} {i:Nat} {xs:List Value},dJ r tag ok w i xs l→Chunks r ok w xs l
 |[],_,_,h=>h
 |_::_,_,_,⟨c,rest,e,h1,h2⟩=>⟨c,rest,e,r.mono (fun b hb=>hb.1) h1,h2.chunks⟩
theorem dJ.snoc {c:List Value}{x:α}:∀ {l:List α} {i:Nat} {xs:List Value},dJ r tag ok w i xs l→r.rd (fun b=>ok b∧tag b=i+l.length) w c x→dJ r tag ok w i (xs++c) (l++[x])
 |[],i,xs,h,hc=>by
  simp only [dJ] at h
  subst h
  exact ⟨c,[],by simp,by simpa using hc,rfl⟩
 |y::l,i,xs,⟨d,rest,e,h1,h2⟩,hc=>⟨d,rest++c,by rw [e,Zav],h1,h2.snoc (by rw [zd] at hc;rw [show i+1+l.length=i+(l.length+1) by omega];exact hc)⟩
theorem dJ.pick:∀ {l:List α} {i:Nat} {xs:List Value},dJ r tag ok w i xs l→∀ {k:Nat} {x:α},l[k]?=some x →
  ∃ c,(∀ j,j<r.sz→xs[k*r.sz+j]?=c[j]?)∧r.rd (fun b=>ok b∧tag b=i+k) w c x ∧
   ∀ (w':World) (x':α),(∀ b,ok b→tag b≠i+k→w'.heap[b]?=w.heap[b]?)→r.rd (fun b=>ok b∧tag b=i+k) w' c x'→dJ r tag ok w' i xs (l.set k x')
 |[],_,_,_,k,x,hx=>by simp at hx
 |y::l,i,xs,⟨c,rest,e,h1,h2⟩,0,x,hx=>by
  simp only [Zaz,ZS.injEq] at hx
  subst hx
  refine ⟨c,fun j hj=>by rw [e,Nat.zero_mul,Zaj,Zac (by rw [r.len h1];exact hj)],h1,fun w' x' hf hr=>?_⟩
  refine ⟨c,rest,e,hr,?_⟩
  -- the tail's elements bear other tags
  have:∀ {l:List α} {m:Nat} {xs:List Value},i<m→dJ r tag ok w m xs l→dJ r tag ok w' m xs l:=by
   intro l
   induction l with
   |nil=>intro m xs _ h;exact h
   |cons z l ih =>
    intro m xs hm h
    obtain ⟨d,rs,e',h3,h4⟩:=h
    exact ⟨d,rs,e',r.frame (fun b hb=>hf b hb.1 (by rw [hb.2];omega)) h3,ih (by omega) h4⟩
  exact this (Nat.lt_succ_self _) h2
 |y::l,i,xs,⟨c,rest,e,h1,h2⟩,k+1,x,hx=>by
  obtain ⟨d,h3,h4,h5⟩:=h2.pick (k:=k) (x:=x) (by simpa using hx)
  have ei:i+1+k=i+(k+1):=by omega
  refine ⟨d,fun j hj=>?_,by rw [← ei];exact h4,fun w' x' hf hr=>?_⟩
  ·rw [e,Zab (by rw [r.len h1,Zau];omega),r.len h1,← h3 j hj]
   congr 1
   rw [Zau];omega
  ·refine ⟨c,rest,e,r.frame (fun b hb=>hf b hb.1 (by rw [hb.2];omega)) h1,?_⟩
   exact h5 w' x' (fun b hb hne=>hf b hb (by rw [← ei];exact hne)) (by rw [ei];exact hr)
end
def kW {α:Type}(r:Rep α)(B F:Nat)(E:TypeId)(w:World)(v:Value)(l:List α):Prop :=
 ∃ tag xs,w.ownsRow B E r.sz v l.length xs∧dJ r tag (fun b=>B≤b∧b<F∧ZS b≠v.ownBlock) w 0 xs l
section
variable {α:Type}{r:Rep α}{B F:Nat}{E:TypeId}{w w':World}{v:Value}{l:List α}
theorem kW.nil (r:Rep α)(B F:Nat)(E:TypeId)(w:World):kW r B F E w (.slice none 0 0) []:=⟨fun _=>0,[],World.ownsRow_nil _ _ _ _,rfl⟩
theorem kW.up {F':Nat}(h:kW r B F E w v l)(hF:F≤F'):kW r B F' E w v l :=
 let ⟨tag,xs,h1,h2⟩:=h;⟨tag,xs,h1,h2.mono fun _ hb=>⟨hb.1,Zan hb.2.1 hF,hb.2.2⟩⟩
theorem kW.live (h:kW r B F E w v l):kW r B w.heap.size E w v l :=
 let ⟨tag,xs,h1,h2⟩:=h;⟨tag,xs,h1,h2.live.mono fun _ hb=>⟨hb.1.1,hb.2,hb.1.2.2⟩⟩
theorem kW.lt (h:kW r B F E w v l):∀ k,v.ownBlock=some k→B≤k∧k<w.heap.size:=let ⟨_,_,h1,_⟩:=h;h1.lt
theorem kW.below (h:kW r B F E w v l)(hb:Below w.heap.size w w'):kW r B F E w' v l:=by
 obtain ⟨tag,xs,h1,h2⟩:=h
 exact ⟨tag,xs,h1.kept (below_grown hb) (by cases v.ownBlock<;>simp),(dJ.frame (fun b hb'=>hb.block b hb'.2) h2.live).mono fun b hb=>hb.1⟩
theorem kW.own (h:kW r B F E w v l):Own r B E (B≤·) w v l :=
 let ⟨_,xs,h1,h2⟩:=h;⟨xs,h1,h2.chunks.mono fun _ hb=>⟨hb.1,hb.2.2⟩⟩
theorem kW.sl (h:kW r B F E w v l):∃ a n c,v=.slice a n c∧Sl r (B≤·) w a n c l :=
 let ⟨a,n,c,e,h⟩:=h.own.sl;⟨a,n,c,e,h.mono fun _ hb=>hb.elim id id⟩
theorem CP {P:Program}{ops:Array Oper}{rest:List Oper}{o:Oper}{a:Act}{Q:Exit→Act→World→Prop}{T bytes:Nat}{z:Value}(ht:ou P T E r.sz bytes z)(hgd:o.guard=none)(s x:Operand)
  (ho:o.op=.call { callee:=.builtin .append,args:=#[s,x],argTypes:=#[T,T] }) (hs:a.eval s=v) (h:kW r B F E w v l) {ad:Addr} {c:Nat} (hx:a.eval x=.slice (some ad) 1 c)
  {y:α} {news:List Value} (hnews:∀ j u,news[j]?=some u→w.cell? (ad.add j)=some u) (hrd:r.rd (F≤·) w news y) (hown:∀ k,v.ownBlock=some k→k<F)
  (h63:l.length+1≤maxLen) (hby:(l.length+1)*bytes≤140737488355328) (hB:B≤F) (hF:F≤w.heap.size)
  (hk:∀ v' w',kW r B w'.heap.size E w' v' (l++[y])→w.grownBy w' v.ownBlock→(v'.ownBlock=v.ownBlock∨v'.ownBlock=some w.heap.size)→wpList P ops Q rest (a.put o.dst v') w'):wpList P ops Q (o::rest) a w:=by
 refine wpList_plain hgd fun K hK=>?_
 obtain ⟨i,hi,hz0,hz1,hz2⟩:=info_parts ht.i
 obtain ⟨tag,xs,h1,h2⟩:=h
 obtain ⟨v',w',hr,h3,h4,_,h6⟩:=run_append_own_at (P:=P) w B T o.type E i z r.sz bytes ht.u hi hz0 hz1 hz2 ht.zs ht.pos v l.length xs h1 ad 1 c news (by rw [r.len hrd];simp) hnews (r.one hrd) h63 hby (by omega)
 unfold Oper.wp execOp
 simp only [ho,resolve,invoke,builtin,Sem.run_bind,Sem.run_pure,Result.andThen_ok,ZbC,Zai,Zar,hs,hx,hr]
 refine hK _ _ (hk v' w' ?_ h4 h6)
 refine ⟨fun b=>if F≤b then l.length else tag b,xs++news,by rw [zE];exact h3,?_⟩
 have hne:∀ b,b<w.heap.size→ZS b≠v.ownBlock→ZS b≠v'.ownBlock:=fun b hb hn=>by
  rcases h6 with h6|h6
  ·rw [h6];exact hn
  ·rw [h6];intro e;have:=ZS.inj e;omega
 refine dJ.snoc ?_ ?_
 ·have e1:dJ r (fun b=>if F≤b then l.length else tag b) (fun b=>B≤b∧b<F∧ZS b≠v.ownBlock) w 0 xs l:=h2.retag fun b hb=>by
   show (if F≤b then l.length else tag b)=tag b
   rw [if_neg (by omega)]
  refine (dJ.frame (fun b hb=>h4.block b (by omega) hb.2.2) e1).mono fun b hb=>⟨hb.1,Zan hb.2.1 (Zaf hF h4.size),hne b (by omega) hb.2.2⟩
 ·have hno:∀ b,F≤b→ZS b≠v.ownBlock:=fun b hb e=>by have:=hown b e.symm;omega
  refine r.mono (fun b hb=>⟨⟨by omega,Zan hb.2 h4.size,hne b hb.2 (hno b hb.1)⟩,?_⟩) (r.frame (fun b hb=>h4.block b hb.2 (hno b hb.1)) (r.live hrd))
  show (if F≤b then l.length else tag b)=0+l.length
  rw [if_pos hb.1,Zaj]
def aez {α:Type}(r:Rep α)(ok:Nat→Prop)(w:World)(l:List α)(err:Int):Ending→World→Prop:=fun e w' =>
 ∃ a n c,e=.returned (.tuple #[.slice a n c,.int .i64 err])∧Sl r ok w' a n c l∧Below w.heap.size w w'
theorem aez.mk {α:Type}{r:Rep α}{ok:Nat→Prop}{w w':World}{l:List α}{err err':Int}{a:Option Addr}{n c:Nat}(he:err'=err)(h:Sl r ok w' a n c l)(hB:Below w.heap.size w w') :
  aez r ok w l err (.returned (.tuple #[.slice a n c,.int .i64 err'])) w':=⟨a,n,c,by rw [he],h,hB⟩
theorem Sl.nil0 {α:Type}(r:Rep α)(ok:Nat→Prop)(w:World):Sl r ok w none 0 0 []:=⟨rfl,ze _,ZaD _,fun _=>rfl,.inl rfl⟩
def Flat {α:Type}(r:Rep α):Prop:=∀ {ok ok':Nat→Prop} {w w':World} {cs:List Value} {x:α},r.rd ok w cs x→r.rd ok' w' cs x
theorem Flat.int:Flat vw:=fun h=>h
theorem Flat.sec:Flat yU:=fun h=>h
theorem Flat.u8:Flat u8R:=fun h=>h
theorem Flat.u64:Flat apq:=fun h=>h
theorem Flat.bool:Flat alZ:=fun h=>h
theorem Chunks.flat {α:Type}{r:Rep α}(hf:Flat r){ok ok':Nat→Prop}{w w':World}:∀ {l:List α} {xs:List Value},Chunks r ok w xs l→Chunks r ok' w' xs l
 |[],_,h=>h
 |_::_,_,⟨c,rest,e,h1,h2⟩=>⟨c,rest,e,hf h1,h2.flat hf⟩
theorem Src.flat {α:Type}{r:Rep α}(hf:Flat r){ok ok':Nat→Prop}{w:World}{ao:Option Addr}{m c:Nat}{ys:List α}(h:Src r ok w ao m c ys):Src r ok' w ao m c ys :=
 let ⟨h1,h2,news,h3,h4⟩:=h;⟨h1,h2,news,h3,h4.flat hf⟩
theorem Own.aeA {α:Type}(r:Rep α){B:Nat}{E:TypeId}{ok:Nat→Prop}{w:World}(hB:B≤w.heap.size):Own r B E ok (w.alloc (.cells #[] E)) (.slice (some ⟨w.heap.size,0,none⟩) 0 0) [] :=
 ⟨[],World.ownsRow_lit w #[] 0 hB (ZaD _) (by simp),rfl⟩
theorem kW.at (h:kW r B F E w v l){k:Nat}{x:α}(hx:l[k]?=some x) :
  ∃ g cap c,∃ okk:Nat→Prop,v=.slice (some ⟨g,0,none⟩) l.length cap∧B≤g∧g<w.heap.size∧(∀ j,j<r.sz→w.cell? ⟨g,k*r.sz+j,none⟩=c[j]?)∧r.rd okk w c x∧(∀ b,okk b→B≤b∧b<F∧b≠g) ∧
   ∀ (w':World) (x':α),(∀ b,b<w.heap.size→¬ okk b→w'.heap[b]?=w.heap[b]?)→w'.os=w.os→w'.tape=w.tape→w'.output=w.output→w.heap.size≤w'.heap.size→r.rd okk w' c x'→kW r B F E w' v (l.set k x'):=by
 obtain ⟨tag,xs,h1,h2⟩:=h
 have hk:=(zb.1 hx).1
 obtain ⟨g,cap,rfl,hBg,hg⟩:∃ g cap,v=.slice (some ⟨g,0,none⟩) l.length cap∧B≤g∧g<w.heap.size:=by
  rcases h1.2 with ⟨_,h0⟩|⟨g,cap,cur,hv,hb,hg,_⟩
  ·omega
  ·exact ⟨g,cap,hv,hb,(zw.1 hg).1⟩
 obtain ⟨c,h3,h4,h5⟩:=h2.live.pick hx
 refine ⟨g,cap,c,_,rfl,hBg,hg,fun j hj=>?_,h4,fun b hb=>⟨hb.1.1.1,hb.1.1.2.1,fun e=>hb.1.1.2.2 (by rw [e];rfl)⟩,fun w' x' hf hos htp hout hsz hr=>?_⟩
 ·rw [← h3 j hj,h1.cellAt]
  calc k*r.sz+j<k*r.sz+r.sz:=by omega
   _=(k+1)*r.sz:=by rw [Zau];omega
   _≤l.length*r.sz:=Zal _ (by omega)
 ·have h6:=h5 w' x' (fun b hb hne=>hf b hb.2 fun e=>hne (by simpa using e.2)) hr
  refine ⟨tag,xs,?_,h6.mono fun b hb=>hb.1⟩
  rw [ZcT]
  have hgk:w'.heap[g]?=w.heap[g]?:=hf g hg fun e=>e.1.1.2.2 rfl
  obtain ⟨hl,⟨hv,h0⟩|⟨g',cap',cur,hv,r1,r2,r3⟩⟩:=h1
  ·cases hv
  ·cases hv
   exact ⟨hl,.inr ⟨g,cap,cur,rfl,r1,by rw [hgk];exact r2,r3⟩⟩
end
def fH {α:Type}(r:Rep α)(E:TypeId):Rep (List α) where
 sz:=1
 rd ok w cs l:=∃ v,cs=[v]∧(∀ b,v.ownBlock=some b→ok b)∧Own r 0 E (fun _=>False) w v l∧(l=[]→v=.slice none 0 0∨∃ g c,v=.slice (some ⟨g,0,none⟩) 0 c)
 len h:=by obtain ⟨v,rfl,_⟩:=h;rfl
 mono hk h:=let ⟨v,e,h1,h2⟩:=h;⟨v,e,fun b hb=>hk b (h1 b hb),h2⟩
 live h:=let ⟨v,e,h1,h2,h3⟩:=h;⟨v,e,fun b hb=>⟨h1 b hb,(h2.lt b hb).2⟩,h2,h3⟩
 frame hf h:=by
  obtain ⟨v,e,h1,⟨xs,h2,h3⟩,h4⟩:=h
  refine ⟨v,e,h1,⟨xs,⟨h2.1,?_⟩,(Chunks.frame (fun b hb=>hb.1.elim) h3)⟩,h4⟩
  rcases h2.2 with h0|⟨g,cap,cur,hv,hb,hg,rest⟩
  ·exact .inl h0
  ·refine .inr ⟨g,cap,cur,hv,hb,?_,rest⟩
   rw [hf g (h1 g (by rw [hv];rfl))];exact hg
 one h:=by
  obtain ⟨v,rfl,_,⟨xs,h2,_⟩,_⟩:=h
  intro u hu
  cases Zaq.1 hu
  rcases h2.2 with ⟨rfl,_⟩|⟨g,cap,cur,rfl,_⟩<;>rfl
theorem fH.sl {α:Type}{r:Rep α}{E:TypeId}{ok:Nat→Prop}{w:World}{v:Value}{l:List α}(hf:Flat r)(h:(fH r E).rd ok w [v] l):∃ a n c,v=.slice a n c∧Sl r ok w a n c l:=by
 obtain ⟨_,e,h1,h2,_⟩:=h
 cases e
 obtain ⟨a,n,c,rfl,h3⟩:=h2.sl
 refine ⟨a,n,c,rfl,h3.len,h3.cap,h3.bnd,h3.nil,h3.cells.imp id fun ⟨b,off,e,_,hb,hc⟩=>⟨b,off,e,h1 b (by rw [e];rfl),hb,fun i x hx=>let ⟨cs,g1,g2⟩:=hc i x hx;⟨cs,g1,hf g2⟩⟩⟩
theorem fH.mk {α:Type}{r:Rep α}{B:Nat}{E:TypeId}{w:World}{v:Value}{l:List α}(h:Own r B E (fun _=>False) w v l)(hv:l=[]→v=.slice none 0 0∨∃ g c,v=.slice (some ⟨g,0,none⟩) 0 c):(fH r E).rd (B≤·) w [v] l:=by
 refine ⟨v,rfl,fun b hb=>(h.lt b hb).1,?_,hv⟩
 obtain ⟨xs,h1,h2⟩:=h
 refine ⟨xs,⟨h1.1,h1.2.imp id fun ⟨g,cap,cur,a1,a2,a3⟩=>⟨g,cap,cur,a1,ZaD _,a3⟩⟩,h2⟩
section
variable {P:Program}{ops:Array Oper}{rest:List Oper}{o:Oper}{a:Act}{Q:Exit→Act→World→Prop}{α:Type}{r:Rep α}{B:Nat}{E:TypeId}{w:World}
theorem Ae {T bytes:Nat}{z:Value}(ht:ou P T E r.sz bytes z)(hg:o.guard=none)(l c:Operand)(hop:o.op=Op.makeSlice T l c)
  {kl kc:IntKind} {n:Nat} (hl:a.eval l=.int kl 0) (hc:a.eval c=.int kc (n:Int)) (b2:bytes*n≤281474976710656) (b3:n≤maxLen) (b4:B≤w.heap.size)
  (hK:∀ w',(∀ F,kW r B F E w' (.slice (some ⟨w.heap.size,0,none⟩) 0 n) [])→Below w.heap.size w w'→wpList P ops Q rest (a.put o.dst (.slice (some ⟨w.heap.size,0,none⟩) 0 n)) w'):wpList P ops Q (o::rest) a w:=by
 obtain ⟨i,hi,hz0,hz1,hz2⟩:=info_parts ht.i
 refine wpList_make_own w hg l c T hop B E i z r.sz ht.u hi hz0 hz1 kl kc (n:Int) n hl hc rfl (by rw [hz2];exact b2) b3 b4 fun w' h1 h2=>hK w' (fun F=>⟨fun _=>0,[],h1,rfl⟩) (grown_below h2 (ze _) (fun k e=>by cases e))
end
section
variable {P:Program}{α:Type}{r:Rep α}{B:Nat}{E:TypeId}{w:World}{g cap:Nat}{l:List α}
theorem MW (h:Own r B E (fun _=>False) w (.slice (some ⟨g,0,none⟩) l.length cap) l){s:Nat}{ys:List α}{news:List Value}(hn:Chunks r (fun _=>False) w news ys)(hs:s+ys.length≤l.length)(hne:l≠[]∨ys≠[]) :
  ∃ w',(storeCells ⟨g,s*r.sz,none⟩ news).run P w=.ok () w'∧Own r B E (fun _=>False) w' (.slice (some ⟨g,0,none⟩) l.length cap) (l.take s++ys++l.drop (s+ys.length))∧w.grownBy w' (some g)∧w'.heap.size=w.heap.size:=by
 obtain ⟨xs,h1,h2⟩:=h
 obtain ⟨hx,⟨hv,_⟩|⟨g',cap',cur,hv,hb,hg,hnc,hcm,hcs,ht⟩⟩:=h1
 ·cases hv
 ·cases hv
  have hnl:=hn.length
  have hxl:=h2.length
  have hfit:s*r.sz+0+news.length≤cur.size:=by
   rw [hcs,hnl,Za4,← Zau]
   exact Zal _ (by omega)
  have hrun:=run_storeCells_at P g (s*r.sz) E news 0 cur w hg hfit hn.one
  rw [Za4] at hrun
  refine ⟨_,hrun,?_,⟨rfl,rfl,rfl,by simp,fun k _ hk=>setRow_other w g k _ (fun e=>hk (by simp [e]))⟩,by simp⟩
  have hlen':(l.take s++ys++l.drop (s+ys.length)).length=l.length:=by simp;omega
  have hcell:∀ i,(xs.take (s*r.sz)++news++xs.drop (s*r.sz+news.length))[i]?=if i<s*r.sz then xs[i]? else if i<s*r.sz+news.length then news[i - s*r.sz]? else xs[i]?:=by
   intro i
   have hs1:s*r.sz≤xs.length:=by rw [hxl];exact Zal _ (by omega)
   have e1:(xs.take (s*r.sz)).length=s*r.sz:=by rw [Zaa];omega
   by_cases hi:i<s*r.sz
   ·rw [if_pos hi,Zav,Zac (by rw [e1];exact hi),Zak,if_pos hi]
   ·rw [if_neg hi]
    by_cases hi2:i<s*r.sz+news.length
    ·rw [if_pos hi2,Zac (by rw [zE,e1];exact hi2),Zab (by rw [e1];omega),e1]
    ·rw [if_neg hi2,Zab (by rw [zE,e1];omega),zE,e1,ZaC]
     congr 1;omega
  refine ⟨xs.take (s*r.sz)++news++xs.drop (s*r.sz+news.length),⟨?_,.inr ⟨g,cap,_,by rw [hlen'],hb,setRow_heap w g cur _ E _ hg,by rw [hlen'];exact hnc,hcm,?_,?_⟩⟩,?_⟩
  ·rw [hlen',zE,zE,Zaa,ZaL,hxl,hnl]
   have:(s+ys.length)*r.sz≤l.length*r.sz:=Zal _ hs
   rw [Zau] at this
   omega
  ·rw [List.size_toArray,zE,zE,Zaa,ZaL,ZaB]
   omega
  ·rw [hlen',← ht]
   have hA:s*r.sz+news.length≤l.length*r.sz:=by rw [hnl,← Zau];exact Zal _ hs
   have hB2:l.length*r.sz≤cur.size:=by rw [hcs];exact Zal _ hnc
   apply Zb8
   intro i
   have e1:(cur.toList.take (s*r.sz)).length=s*r.sz:=by rw [Zaa,ZaB];omega
   have e2:((cur.toList.take (l.length*r.sz)).take (s*r.sz)).length=s*r.sz:=by simp only [Zaa,ZaB];omega
   by_cases hi:i<s*r.sz
   ·rw [Zak,if_pos (by omega),Zav,Zac (by rw [e1];exact hi),Zav,Zac (by rw [e2];exact hi),Zak,if_pos hi,Zak,if_pos hi,Zak,if_pos (by omega)]
   ·by_cases hi2:i<s*r.sz+news.length
    ·rw [Zak,if_pos (by omega),Zac (by rw [zE,e1];exact hi2),Zab (by rw [e1];omega),e1,
      Zac (by rw [zE,e2];exact hi2),Zab (by rw [e2];omega),e2]
    ·rw [Zak,Zab (by rw [zE,e1];omega),Zab (by rw [zE,e2];omega),zE,zE,e1,e2,ZaC,ZaC,Zak]
     have:s*r.sz+news.length+(i - (s*r.sz+news.length))=i:=by omega
     rw [this]
  ·-- the elements
   have:=Chunks.ZR (r:=r) (ok:=fun b=>False∧ZS b≠(Value.slice (some ⟨g,0,none⟩) l.length cap).ownBlock) (w:=w.setRow g (cur.toList.take (s*r.sz)++news++cur.toList.drop (s*r.sz+news.length)).toArray) (xs:=xs.take (s*r.sz)++news++xs.drop (s*r.sz+news.length)) (l:=l.take s++ys++l.drop (s+ys.length)) 0 (by
     rw [hlen',zE,zE,Zaa,ZaL,hxl,hnl]
     have:(s+ys.length)*r.sz≤l.length*r.sz:=Zal _ hs
     rw [Zau] at this
     omega) (fun i x hx=>by
     have key:∃ c w0,(∀ j,j<r.sz→(xs.take (s*r.sz)++news++xs.drop (s*r.sz+news.length))[i*r.sz+j]?=c[j]?)∧r.rd (fun _=>False) w0 c x:=by
      have es:(l.take s).length=s:=by rw [Zaa];omega
      by_cases hi:i<s
      ·rw [Zav,Zac (by rw [es];exact hi),Zak,if_pos hi] at hx
       obtain ⟨c,h3,h4⟩:=h2.at hx
       refine ⟨c,w,fun j hj=>?_,r.mono (fun b hb=>hb.1) h4⟩
       rw [hcell,if_pos,h3 j hj]
       calc i*r.sz+j<i*r.sz+r.sz:=by omega
        _=(i+1)*r.sz:=by rw [Zau];omega
        _≤s*r.sz:=Zal _ (by omega)
      ·by_cases hi2:i<s+ys.length
       ·rw [Zac (by rw [zE,es];exact hi2),Zab (by rw [es];omega),es] at hx
        obtain ⟨c,h3,h4⟩:=hn.at hx
        refine ⟨c,w,fun j hj=>?_,h4⟩
        have e3:s*r.sz≤i*r.sz:=Zal _ (by omega)
        have e4:(i+1)*r.sz≤(s+ys.length)*r.sz:=Zal _ (by omega)
        rw [Zau,Zau] at e4
        rw [hcell,if_neg (by omega),if_pos (by rw [hnl];omega),← h3 j hj]
        congr 1
        rw [Nat.sub_mul];omega
       ·rw [Zab (by rw [zE,es];omega),zE,es,ZaC,show s+ys.length+(i - (s+ys.length))=i by omega] at hx
        obtain ⟨c,h3,h4⟩:=h2.at hx
        refine ⟨c,w,fun j hj=>?_,r.mono (fun b hb=>hb.1) h4⟩
        have e3:(s+ys.length)*r.sz≤i*r.sz:=Zal _ (by omega)
        rw [Zau] at e3
        rw [hcell,if_neg (by omega),if_neg (by rw [hnl];omega),h3 j hj]
     obtain ⟨c,w0,h3,h4⟩:=key
     exact ⟨c,fun j hj=>by rw [Zaj];exact h3 j hj,r.mono (fun b hb=>hb.elim) (r.frame (fun b hb=>hb.elim) h4)⟩)
   simpa using this
end
def uH (a:Option Addr)(c lo sz:Nat):Option Addr:=if c=lo then a else a.map (·.add (lo*sz))
theorem Rl {P:Program}{T E sz:Nat}(hT:P.underlying T=some (.slice E))(hi:(P.info? E).map (·.size)=some sz)(a:Option Addr)(n c s:Nat)(h:s≤n)(w:World) :
  (Instr.sliceAt T (.slice a n c) (some (.int .i64 (s:Int))) none none).run P w=.ok (.slice (uH a c s sz) (n - s) (c - s)) w:=by
 have he:P.elem T=E:=by simp [Program.elem,hT]
 have hT':P.underlying T=some (.slice (P.elem T)):=by rw [he];exact hT
 have hz:(sizeOf (P.elem T)).run P w=.ok sz w:=by
  obtain ⟨i,hi,hs⟩:=Zao.1 hi
  rw [he];simp [sizeOf,typeInfo,hi,hs]
 rw [run_sliceAt_slice w T _ _ _ _ hT',run_slice_l w T a n c hT' .i64 s (by omega) (by omega),hz,Result.andThen_ok]
 simp only [sliced,uH,Zay]
theorem Sl.sub {α:Type}{r:Rep α}{ok:Nat→Prop}{w:World}{a:Option Addr}{n c:Nat}{l:List α}(h:Sl r ok w a n c l){s k:Nat}(hk:s+k≤n):Sl r ok w (uH a c s r.sz) k (c - s) ((l.drop s).take k):=by
 have h1:=h.len
 have h2:=h.cap
 refine ⟨by simp;omega,by omega,Zaf (Nat.sub_le _ _) h.bnd,fun e=>?_,?_⟩
 ·unfold uH at e
  split at e
  ·omega
  ·have:a=none:=by simpa using e
   have:=h.nil this
   omega
 ·rcases h.cells with h0|⟨b,off,rfl,hb,hlt,hc⟩
  ·left;omega
  ·by_cases hk0:k=0
   ·exact .inl hk0
   ·refine .inr ⟨b,off+s*r.sz,?_,hb,hlt,fun i x hx=>?_⟩
    ·unfold uH
     rw [if_neg (by omega)]
     simp [Addr.add_lit]
    ·have hik:i<k:=by have:=(zb.1 hx).1;simp at this;omega
     rw [Zak,if_pos hik,ZaC] at hx
     obtain ⟨cs,g1,g2⟩:=hc (s+i) x hx
     refine ⟨cs,fun j hj=>?_,g2⟩
     rw [← g1 j hj,Zau,Za0 off]
section
variable {P:Program}{ops:Array Oper}{rest:List Oper}{o:Oper}{a:Act}{Q:Exit→Act→World→Prop}{α:Type}{r:Rep α}{B:Nat}{E:TypeId}{w:World}{g cap:Nat}{l:List α}
theorem Ht {T bytes:Nat}{z:Value}(ht:ou P T E r.sz bytes z)(hfl:Flat r)(hgd:o.guard=none)(d x:Operand)
  (ho:o.op=.call { callee:=.builtin .copy,args:=#[d,x],argTypes:=#[T,T] }) {s dl dc:Nat} (hd:a.eval d=.slice (some ⟨g,s*r.sz,none⟩) dl dc) {ao:Option Addr} {m c:Nat} (hx:a.eval x=.slice ao m c)
  (h:Own r B E (fun _=>False) w (.slice (some ⟨g,0,none⟩) l.length cap) l) {ok:Nat→Prop} {ys:List α} (hs:Sl r ok w ao m c ys) (hle:s+m≤l.length) (hm:0<m) (hdl:m≤dl)
  (hk:∀ w',Own r B E (fun _=>False) w' (.slice (some ⟨g,0,none⟩) l.length cap) (l.take s++ys++l.drop (s+ys.length))→w.grownBy w' (some g)→w'.heap.size=w.heap.size→wpList P ops Q rest (a.put o.dst (.int .i64 m)) w'):wpList P ops Q (o::rest) a w:=by
 refine wpList_plain hgd fun K hK=>?_
 obtain ⟨i,hi,_,hz1,_⟩:=info_parts ht.i
 obtain ⟨hlen,hnil,news,hnews,hch⟩:=Src.IZ hs
 obtain ⟨ad,rfl⟩:∃ ad,ao=some ad:=by
  cases ao with
  |some ad=>exact ⟨ad,rfl⟩
  |none=>have:=(hnil rfl).1;omega
 have hnl:=hch.length
 obtain ⟨w',hst,h1,h2,h3⟩:=MW (P:=P) h (s:=s) (ys:=ys) (hch.flat hfl) (by omega) (.inr (by intro e;rw [e] at hlen;simp at hlen;omega))
 have hld:=run_loadCells_list (P:=P) (w:=w) ad news (hnews ad rfl)
 have hmin:Nat.min m dl=m:=Nat.min_eq_left hdl
 rw [hnl,hlen] at hld
 unfold Oper.wp execOp
 have hrun:(Builtin.copy_ #[T,T] o.type #[.slice (some ⟨g,s*r.sz,none⟩) dl dc,.slice (some ad) m c]).run P w=.ok (goInt m) w':=by
  simp [Builtin.copy_,run_underlying ht.u,Builtin.lenOf,Builtin.firstCells,sizeOf,typeInfo,hi,hz1,hmin,hld,hst]
 simp only [ho,resolve,invoke,builtin,Sem.run_bind,Sem.run_pure,Result.andThen_ok,ZbC,Zai,Zar,hd,hx,hrun]
 exact hK _ _ (hk w' h1 h2 h3)
end
section
variable {ok:Nat→Prop}{w:World}{n c:Nat}
theorem Sl.wr {b off:Nat}{l:List (Int×Int×List cZ)}(h:Sl (Nl vw (Nl vw (Vr yU))) ok w (some ⟨b,off,none⟩) n c l){k:Nat}{v s:Int}{d:List cZ}(hx:l[k]?=some (v,s,d)) :
  ∃ a' n' c',w.cell? ⟨b,off+k*3,none⟩=some (.int .i64 v)∧w.cell? ⟨b,off+k*3+1,none⟩=some (.int .i64 s)∧w.cell? ⟨b,off+k*3+2,none⟩=some (.slice a' n' c')∧nV v∧nV s∧Sl yU ok w a' n' c' d:=by
 obtain ⟨cs,h1,c1,c2,rfl,⟨rfl,hv⟩,c3,c4,rfl,⟨rfl,hs⟩,a',n',c',rfl,hd⟩:=h.at hx
 refine ⟨a',n',c',?_,?_,?_,hv,hs,hd⟩
 ·exact h1 0 (by show 0<3;omega)
 ·exact h1 1 (by show 1<3;omega)
 ·exact h1 2 (by show 2<3;omega)
theorem Sl.ext {b off:Nat}{l:List (Int×Int)}(h:Sl (Nl vw vw) ok w (some ⟨b,off,none⟩) n c l){k:Nat}{s m:Int}(hx:l[k]?=some (s,m)) :
  w.cell? ⟨b,off+k*2,none⟩=some (.int .i64 s)∧w.cell? ⟨b,off+k*2+1,none⟩=some (.int .i64 m)∧nV s∧nV m:=by
 obtain ⟨cs,h1,c1,c2,rfl,⟨rfl,hv⟩,⟨rfl,hs⟩⟩:=h.at hx
 exact ⟨h1 0 (by show 0<2;omega),h1 1 (by show 1<2;omega),hv,hs⟩
end
abbrev mY:Rep (List cZ):=Vr yU
abbrev Wr:=Int×Int×List cZ
abbrev wrR:Rep Wr:=Nl vw (Nl vw mY)
theorem Tryz.mixed:Tryz.prog.follows .mixedOrders=true:=by kernel_rfl
theorem Tryz.ah7:ou Tryz.prog 35 3 1 8 (.int .i64 0):=⟨Tryz.underlying35,by kernel_rfl,rfl,by decide⟩
theorem Tryz.ah8:ou Tryz.prog 71 129 8 8 (.agg #[.int .u8 0,.int .u8 0,.int .u8 0,.int .u8 0,.int .u8 0,.int .u8 0,.int .u8 0,.int .u8 0]):=⟨Tryz.underlying71,by kernel_rfl,rfl,by decide⟩
theorem Tryz.aeB:ou Tryz.prog 31 71 1 24 (.slice none 0 0):=⟨Tryz.underlying31,by kernel_rfl,rfl,by decide⟩
theorem o8 {k:IntKind}{a b:Int}(h:a=b):Ending.returned (.int k a)=.returned (.int k b):=by rw [h]
theorem wH {a b:Bool}(h:a=b):Ending.returned (.bool a)=.returned (.bool b):=by rw [h]
theorem Zu {n:Nat}(h:n≤maxLen):nV (n:Int):=by unfold nV maxLen at *;omega
theorem Sl.i64 {α:Type}{r:Rep α}{ok:Nat→Prop}{w:World}{a:Option Addr}{n c:Nat}{l:List α}(h:Sl r ok w a n c l):nV (n:Int):=Zu (Zaf h.cap h.bnd)
theorem Sl.small {α:Type}{r:Rep α}{ok:Nat→Prop}{w:World}{a:Option Addr}{n c:Nat}{l:List α}(h:Sl r ok w a n c l):n≤9223372036854775807:=by
 have:=Zaf h.cap h.bnd;unfold maxLen at this;omega
theorem IL {α:Type}{p:α→Bool}{l:List α}{k:Nat}{x:α}(h:l[k]?=some x):(l.take (k+1)).any p=((l.take k).any p || p x):=by
 rw [ZbL,h];simp
theorem any_true {α:Type}{p:α→Bool}{l:List α}{k:Nat}{x:α}(h:l[k]?=some x)(hp:p x=true):l.any p=true:=by
 rw [ZcO];exact ⟨x,Zad h,hp⟩
theorem nU {α:Type}{l:List α}{k:Nat}{x:α}(h:l[k]?=some x):l.take (k+1)=l.take k++[x]:=by
 rw [ZbL,h];rfl
theorem Af {α:Type}{l:List α}{n:Nat}(h:l.length=n):l.take n=l:=ZaH (by omega)
def mV (n:Int):Bool:=decide (n<1) || decide (4096<n)
def kU (l:List Int):Int:=if l.length<1∨8<l.length then 6 else if l.any mV then 2 else 0
def lens (im:List (List cZ)):List Int:=im.map fun v=>(v.length:Int)
def qo (im:List (List cZ)):Int:=kU (lens im)
def kJ (sizes:List Int)(ZP start:Int)(len:Nat):Int :=
 if ZP<0∨(sizes.length:Int)≤ZP then 7 else if len=0 then 1
 else if start<0∨sizes.getD ZP.toNat 0≤start∨sizes.getD ZP.toNat 0 - start<len then 2 else 0
theorem DI {α:Type}{l:List α}{k:Nat}{x d:α}(h:l[k]?=some x):l.getD k d=x:=by simp [List.getD,h]
def zS (im:List (List cZ))(ZP start:Int)(len:Nat):Int:=if qo im≠0 then qo im else kJ (lens im) ZP start len
theorem WM {x:Int}{w:World}(_hx:nV x):Calls Tryz.prog 227 #[.int .i64 x] w fun e w'=>e=.returned (.bool (mV x))∧Below w.heap.size w w':=by
 by_cases h1:x<1
 ·go_enter Tryz.func227,Tryz.ntmps227
  go_wp2
  go_ret
  exact ⟨wH (by simp [mV,h1]),Below.refl _ _⟩
 ·by_cases h2:4096<x
  ·go_enter Tryz.func227,Tryz.ntmps227
   go_wp2
   go_ret
   exact ⟨wH (by simp [mV,h2]),Below.refl _ _⟩
  ·go_enter Tryz.func227,Tryz.ntmps227
   go_wp2
   go_ret
   exact ⟨wH (by simp [mV];omega),Below.refl _ _⟩
set_option maxHeartbeats 1000000 in
theorem Bv {a:Option Addr}{n c:Nat}{l:List Int}{ok:Nat→Prop}{w:World}(h:Sl vw ok w a n c l) :
  Calls Tryz.prog 266 #[.slice a n c,.func (.func 227) #[] #[]] w fun e w'=>∃ z:Int,e=.returned (.int .i64 z)∧(0≤z ↔ l.any mV=true)∧nV z∧Below w.heap.size w w':=by
 have hs:=h.small
 go_enter Tryz.func266,Tryz.ntmps266
 go_wp2
 go_loopw [5,8] (fun _ i wr=>∃ k:Nat,k≤n∧i=.int .i64 k∧Hid ((l.take k).any mV=false)∧Below w.heap.size w wr) (fun _ i _=>n - (intOf i).toNat)
 case atStart=>exact ⟨0,ZaD _,rfl,rfl,Below.refl _ _⟩
 case round =>
  obtain ⟨k,hk,rfl,HT,hB⟩:=hrel
  by_cases hlt:k<n
  ·obtain ⟨b,off,rfl,_,_⟩:=h.addr hlt
   obtain ⟨x,hx⟩:=h.get hlt
   obtain ⟨hcell,hi⟩:=(h.below hB).int hx
   have HX:=Lib.hid hx
   clear hx
   cases hp:mV x with
   |true =>
    have HP:=Lib.hid hp
    have hcall:=WM (w:=wr) hi
    rw [hp] at hcall
    clear hp
    go_wp2_with (fail)
    refine hcall.mono ?_
    rintro e w1 ⟨rfl,hB1⟩
    go_wp2
    go_ret
    exact ⟨k,rfl,by rw [any_true HX.out HP.out];simp,by unfold nV;omega,hB.trans (hB1.mono hB.size)⟩
   |false =>
    have HP:=Lib.hid hp
    have hcall:=WM (w:=wr) hi
    rw [hp] at hcall
    clear hp
    go_wp2_with (fail)
    refine hcall.mono ?_
    rintro e w1 ⟨rfl,hB1⟩
    go_wp2
    go_roundw
    case rel=>exact ⟨k+1,by omega,by go_num,by show _=false;rw [IL HX.out,HT.out,HP.out];rfl,hB.trans (hB1.mono hB.size)⟩
    case measure=>simp [intOf];omega
  ·go_wp2
   go_ret
   obtain rfl:k=n:=by omega
   have e:=HT.out
   rw [Af h.len] at e
   exact ⟨-1,rfl,by rw [e];simp,by unfold nV;omega,hB⟩
theorem MX {a:Option Addr}{n c:Nat}{l:List Int}{ok:Nat→Prop}{w:World}(h:Sl vw ok w a n c l) :
  Calls Tryz.prog 223 #[.slice a n c,.func (.func 227) #[] #[]] w fun e w'=>e=.returned (.bool (l.any mV))∧Below w.heap.size w w':=by
 go_enter Tryz.func223,Tryz.ntmps223
 go_wp2_with fail
 refine (Bv h).mono ?_
 rintro e w1 ⟨z,rfl,hz,hi,hB⟩
 unfold nV at hi
 cases hp:l.any mV with
 |true =>
  have hz0:0≤z:=hz.2 hp
  have HP:=Lib.hid hp
  clear hz hp
  go_wp2
  go_ret
  exact ⟨wH HP.out.symm,hB⟩
 |false =>
  have hz0:z<0:=by rw [hp] at hz;simp at hz;omega
  have HP:=Lib.hid hp
  clear hz hp
  go_wp2
  go_ret
  exact ⟨wH (by rw [HP.out];simp;omega),hB⟩
theorem Hu {a:Option Addr}{n c:Nat}{l:List Int}{ok:Nat→Prop}{w:World}(h:Sl vw ok w a n c l) :
  Calls Tryz.prog 165 #[.slice a n c] w fun e w'=>e=.returned (.int .i64 (kU l))∧Below w.heap.size w w':=by
 have hs:=h.small
 by_cases hn1:n<1
 ·obtain rfl:n=0:=by omega
  go_enter Tryz.func165,Tryz.ntmps165
  go_wp2
  go_ret
  exact ⟨by simp [kU,h.len],Below.refl _ _⟩
 by_cases hn8:8<n
 ·go_enter Tryz.func165,Tryz.ntmps165
  go_wp2
  go_ret
  exact ⟨o8 (by rw [kU,if_pos (by rw [h.len];exact .inr hn8)]),Below.refl _ _⟩
 go_enter Tryz.func165,Tryz.ntmps165
 go_wp2_with fail
 refine (MX h).mono ?_
 rintro e w1 ⟨rfl,hB⟩
 cases hp:l.any mV with
 |true =>
  have HP:=Lib.hid hp;clear hp
  go_wp2
  go_ret
  exact ⟨o8 (by rw [kU,if_neg (by rw [h.len];omega),if_pos HP.out]),hB⟩
 |false =>
  have HP:=Lib.hid hp;clear hp
  go_wp2
  go_ret
  exact ⟨o8 (by rw [kU,if_neg (by rw [h.len];omega),HP.out];rfl),hB⟩
theorem aeC {a:Option Addr}{n c:Nat}{l:List cZ}{ok:Nat→Prop}{w:World}(h:Sl yU ok w a n c l) :
  Calls Tryz.prog 229 #[.slice a n c] w fun e w'=>∃ z:Int,e=.returned (.int .i64 z)∧vw.rd (w.heap.size≤·) w' [.int .i64 z] (l.length:Int)∧Below w.heap.size w w':=by
 have hs:=h.small
 go_enter Tryz.func229,Tryz.ntmps229
 go_wp2
 go_ret
 exact ⟨_,rfl,⟨by rw [h.len],by rw [h.len];exact h.i64⟩,Below.refl _ _⟩
set_option maxHeartbeats 1000000 in
theorem Vb {a:Option Addr}{n c:Nat}{l:List (List cZ)}{ok:Nat→Prop}{w:World}(h:Sl mY ok w a n c l)(hn:n≤1000000) :
  Calls Tryz.prog 228 #[.slice a n c,.func (.func 229) #[] #[]] w fun e w'=>∃ v,e=.returned v∧kW vw w.heap.size w'.heap.size 3 w' v (l.map (fun v:List cZ=>(v.length:Int)))∧Below w.heap.size w w':=by
 go_enter Tryz.func228,Tryz.ntmps228
 go_wp2_with (at_make;refine Ae (r:=vw) (B:=w.heap.size) Tryz.ah7 rfl _ _ rfl rfl rfl ?b2 ?b3 ?b4 ?_)
 case b2=>omega
 case b3=>unfold maxLen;omega
 case b4=>exact ze _
 intro w0 hown0 hB0
 have hs:=h.small
 go_wp2
 go_loopw [5,13] (fun v i wr=>∃ k:Nat,k≤n∧i=.int .i64 k∧kW vw w.heap.size wr.heap.size 3 wr v ((l.map (fun v:List cZ=>(v.length:Int))).take k)∧Below w.heap.size w wr) (fun _ i _=>n - (intOf i).toNat)
 case atStart=>exact ⟨0,ZaD _,rfl,hown0 _,hB0⟩
 case round =>
  obtain ⟨k,hk,rfl,hown,hB⟩:=hrel
  by_cases hlt:k<n
  ·obtain ⟨b,off,rfl,_,_⟩:=h.addr hlt
   obtain ⟨x,hx⟩:=h.get hlt
   obtain ⟨a',n',c',hcell,hx'⟩:=(h.below hB).slice hx
   have hlen:((l.map (fun v:List cZ=>(v.length:Int))).take k).length=k:=by have:=h.len;simp;omega
   have HL:=Lib.hid hlen;clear hlen
   have HX:=Lib.hid hx;clear hx
   go_wp2_with (fail)
   refine (aeC hx').mono ?_
   rintro e w1 ⟨z,rfl,hrd,hB1⟩
   have Rn:=hown.lt
   have hz1:=hB1.size
   have hz:=hB.size
   go_wp2_with (at_builtin;refine CP Tryz.ah7 rfl _ _ rfl rfl ((hown.below hB1).below ((Below.refl _ _).alloc (ze _) _)) rfl (Rj w1 3 #[.int .i64 z]) (Rk hrd) (fun k hk=>(Rn k hk).2) ?c1 ?c2 ?c3 ?c4 ?_)
   case c1=>rw [HL.out];unfold maxLen;omega
   case c2=>rw [HL.out];omega
   case c3=>omega
   case c4=>simp;omega
   intro v' w2 hown1 hgrow _
   go_wp2
   go_roundw
   case rel=>exact ⟨k+1,by omega,by go_num,by
    have e:(l.map (fun v:List cZ=>(v.length:Int))).take (k+1)=(l.map (fun v:List cZ=>(v.length:Int))).take k++[(fun v:List cZ=>(v.length:Int)) x]:=nU (by rw [zc,HX.out];rfl)
    rw [e];exact hown1,((hB.trans (hB1.mono hB.size)).alloc (by omega) _).grown hgrow (by simp;omega) (fun k hk=>(Rn k hk).1)⟩
   case measure=>simp [intOf];omega
  ·go_wp2
   go_ret
   obtain rfl:k=n:=by omega
   rw [Af (by rw [Z3];exact h.len)] at hown
   exact ⟨_,rfl,hown,hB⟩
theorem Vd {a:Option Addr}{n c:Nat}{im:List (List cZ)}{ok:Nat→Prop}{w:World}(h:Sl mY ok w a n c im)(hn:n≤1000000) :
  Calls Tryz.prog 166 #[.slice a n c] w fun e w'=>∃ a' n' c',e=.returned (.slice a' n' c')∧Sl vw (w.heap.size≤·) w' a' n' c' (lens im)∧Below w.heap.size w w':=by
 go_enter Tryz.func166,Tryz.ntmps166
 go_wp2_with fail
 refine (Vb h hn).mono ?_
 rintro e w1 ⟨v,rfl,hown,hB⟩
 obtain ⟨a',n',c',rfl,h1⟩:=hown.sl
 go_wp2
 go_ret
 exact ⟨_,_,_,rfl,h1,hB⟩
theorem Hw {a:Option Addr}{n c:Nat}{im:List (List cZ)}{ok:Nat→Prop}{w:World}(h:Sl mY ok w a n c im)(hn:n≤1000000) :
  Calls Tryz.prog 76 #[.slice a n c] w fun e w'=>e=.returned (.int .i64 (qo im))∧Below w.heap.size w w':=by
 go_enter Tryz.func76,Tryz.ntmps76
 go_wp2_with fail
 refine (Vd h hn).mono ?_
 rintro e w1 ⟨a',n',c',rfl,h1,hB⟩
 go_wp2_with fail
 refine (Hu h1).mono ?_
 rintro e w2 ⟨rfl,hB2⟩
 go_wp2
 go_ret
 exact ⟨rfl,hB.trans (hB2.mono hB.size)⟩
def WO {α:Type}(e:Int)(l:List α):List α:=if e=0 then l else []
theorem aeD {α:Type}{e:Int}{l:List α}(h:e=0):WO e l=l:=if_pos h
theorem Zv {α:Type}{e:Int}{l:List α}(h:¬ e=0):WO e l=[]:=if_neg h
set_option maxHeartbeats 1000000 in
theorem Zw {a:Option Addr}{n c:Nat}{l:List cZ}{ok:Nat→Prop}{w:World}(h:Sl yU ok w a n c l)(hn:n≤1000000) :
  Calls Tryz.prog 133 #[.slice a n c] w fun e w'=>∃ a' n' c',e=.returned (.slice a' n' c')∧(fH yU 129).rd (w.heap.size≤·) w' [.slice a' n' c'] l∧Below w.heap.size w w':=by
 have heq:=fun (a:Option Addr) (n c:Nat) (w:World)=>Lib.run_eql_slice_nil (P:=Tryz.prog) w 71 129 a n c 0 0 Tryz.underlying71
 cases a with
 |none =>
  have h0:l=[]:=Zah (by rw [h.len];have:=h.nil rfl;have:=h.cap;omega)
  have H0:=Lib.hid h0;clear h0
  go_enter Tryz.func133,Tryz.ntmps133
  go_wp2
  go_ret
  refine ⟨_,_,_,rfl,?_,Below.refl _ _⟩
  rw [H0.out]
  exact fH.mk (Own.nil _ _ _ _ _) (fun _=>.inl rfl)
 |some ad =>
  have hs:=h.small
  go_enter Tryz.func133,Tryz.ntmps133
  go_wp2_with (at_builtin;refine pK Tryz.ah8 rfl _ _ rfl rfl (Own.aeA yU (ok:=fun _=>False) (ze _)) rfl ((Src.IZ (h.below ((Below.refl _ _).alloc (ze _) _))).flat Flat.sec) ?c1 ?c2 ?c3 ?_)
  case c1=>simp;unfold maxLen;omega
  case c2=>simp;omega
  case c3=>simp
  intro v' w1 hown hgrow hat
  obtain ⟨a',n',c',rfl,_⟩:=hown.sl
  go_wp2
  go_ret
  refine ⟨_,_,_,rfl,fH.mk (by simpa using hown) (fun e=>?_),((Below.refl _ _).alloc (ze _) _).grown hgrow (by simp) (fun k hk=>by cases hk;exact ze _)⟩
  subst e
  obtain ⟨xs,h1,_⟩:=hown
  rcases h1.2 with ⟨hv,_⟩|⟨g,cap,cur,hv,_⟩
  ·exact .inl hv
  ·exact .inr ⟨g,cap,by simpa using hv⟩
def qp (v:List cZ):List cZ:=v
theorem aeE (l:List (List cZ)):l.map qp=l:=List.map_id l
abbrev o9:Rep (List cZ):=fH yU 129
set_option maxHeartbeats 1000000 in
theorem MZ {a:Option Addr}{n c:Nat}{l:List (List cZ)}{ok:Nat→Prop}{w:World}(h:Sl mY ok w a n c l)(hn:n≤1000000)(hv:∀ v∈l,v.length≤1000000) :
  Calls Tryz.prog 200 #[.slice a n c,.func (.func 133) #[] #[]] w fun e w'=>∃ v,e=.returned v∧kW o9 w.heap.size w'.heap.size 71 w' v (l.map qp)∧Below w.heap.size w w':=by
 go_enter Tryz.func200,Tryz.ntmps200
 go_wp2_with (at_make;refine Ae (r:=o9) (B:=w.heap.size) Tryz.aeB rfl _ _ rfl rfl rfl ?b2 ?b3 ?b4 ?_)
 case b2=>omega
 case b3=>unfold maxLen;omega
 case b4=>exact ze _
 intro w0 hown0 hB0
 have hs:=h.small
 go_wp2
 go_loopw [5,13] (fun v i wr=>∃ k:Nat,k≤n∧i=.int .i64 k∧kW o9 w.heap.size wr.heap.size 71 wr v ((l.map qp).take k)∧Below w.heap.size w wr) (fun _ i _=>n - (intOf i).toNat)
 case atStart=>exact ⟨0,ZaD _,rfl,hown0 _,hB0⟩
 case round =>
  obtain ⟨k,hk,rfl,hown,hB⟩:=hrel
  by_cases hlt:k<n
  ·obtain ⟨b,off,rfl,_,_⟩:=h.addr hlt
   obtain ⟨x,hx⟩:=h.get hlt
   obtain ⟨a',n',c',hcell,hx'⟩:=(h.below hB).slice hx;have hv':=hv x (Zad hx)
   have hlen:((l.map qp).take k).length=k:=by have:=h.len;simp;omega
   have HL:=Lib.hid hlen;clear hlen
   have HX:=Lib.hid hx;clear hx
   go_wp2_with (fail)
   refine (Zw hx' (by rw [← hx'.len];exact hv')).mono ?_
   rintro e w1 ⟨a2,n2,c2,rfl,hrd,hB1⟩
   have Rn:=hown.lt
   have hz1:=hB1.size
   have hz:=hB.size
   go_wp2_with (at_builtin;refine CP Tryz.aeB rfl _ _ rfl rfl ((hown.below hB1).below ((Below.refl _ _).alloc (ze _) _)) rfl (Rj w1 71 #[.slice a2 n2 c2]) (Rk hrd) (fun k hk=>(Rn k hk).2) ?c1 ?c2 ?c3 ?c4 ?_)
   case c1=>rw [HL.out];unfold maxLen;omega
   case c2=>rw [HL.out];omega
   case c3=>omega
   case c4=>simp;omega
   intro v' w2 hown1 hgrow _
   go_wp2
   go_roundw
   case rel=>exact ⟨k+1,by omega,by go_num,by
    have e:(l.map qp).take (k+1)=(l.map qp).take k++[qp x]:=nU (by rw [zc,HX.out];rfl)
    rw [e];exact hown1,((hB.trans (hB1.mono hB.size)).alloc (by omega) _).grown hgrow (by simp;omega) (fun k hk=>(Rn k hk).1)⟩
   case measure=>simp [intOf];omega
  ·go_wp2
   go_ret
   obtain rfl:k=n:=by omega
   rw [Af (by rw [Z3];exact h.len)] at hown
   exact ⟨_,rfl,hown,hB⟩
theorem Ve {a:Option Addr}{n c:Nat}{im:List (List cZ)}{ok:Nat→Prop}{w:World}(h:Sl mY ok w a n c im)(hn:n≤1000000)(hv:∀ v∈im,v.length≤1000000) :
  Calls Tryz.prog 124 #[.slice a n c] w fun e w'=>∃ v,e=.returned v∧kW o9 w.heap.size w'.heap.size 71 w' v im∧Below w.heap.size w w':=by
 go_enter Tryz.func124,Tryz.ntmps124
 go_wp2_with fail
 refine (MZ h hn hv).mono ?_
 rintro e w1 ⟨v,rfl,hown,hB⟩
 go_wp2
 go_ret
 exact ⟨_,rfl,by rw [aeE] at hown;exact hown,hB⟩
theorem Sl.imp {α:Type}{r s:Rep α}{ok:Nat→Prop}{w:World}{a:Option Addr}{n c:Nat}{l:List α}(hz:s.sz=r.sz)(hi:∀ cs x,r.rd ok w cs x→s.rd ok w cs x)(h:Sl r ok w a n c l):Sl s ok w a n c l :=
 ⟨h.len,h.cap,h.bnd,h.nil,h.cells.imp id fun ⟨b,off,e,hb,hl,hc⟩=>⟨b,off,e,hb,hl,fun i x hx=>let ⟨cs,g1,g2⟩:=hc i x hx;⟨cs,by rw [hz];exact g1,hi cs x g2⟩⟩⟩
theorem Na {ok:Nat→Prop}{w:World}{cs:List Value}{x:List cZ}(h:o9.rd ok w cs x):mY.rd ok w cs x:=by
 obtain ⟨v,rfl,h1⟩:=h
 obtain ⟨a,n,c,rfl,h2⟩:=fH.sl Flat.sec (v:=v) ⟨v,rfl,h1⟩
 exact ⟨a,n,c,rfl,h2⟩
theorem kW.img {B F:Nat}{E:TypeId}{w:World}{v:Value}{im:List (List cZ)}(h:kW o9 B F E w v im):∃ a n c,v=.slice a n c∧Sl mY (B≤·) w a n c im :=
 let ⟨a,n,c,e,h⟩:=h.sl;⟨a,n,c,e,Sl.imp (r:=o9) (s:=mY) rfl (fun _ _ g=>Na g) h⟩
set_option maxHeartbeats 2000000 in
theorem JW {a:Option Addr}{n c:Nat}{im:List (List cZ)}{ok:Nat→Prop}{w:World}(h:Sl mY ok w a n c im){ZP start:Int}(hv:nV ZP)(hst:nV start)
  {da:Option Addr} {dn dc:Nat} (hd:dn≤9223372036854775807) :
  Calls Tryz.prog 125 #[.slice a n c,.agg #[.int .i64 ZP,.int .i64 start,.slice da dn dc]] w fun e w'=>e=.returned (.int .i64 (kJ (lens im) ZP start dn))∧Below w.heap.size w w':=by
 have hs:=h.small
 unfold nV at hv hst
 have hlen:(lens im).length=n:=by simp [lens,h.len]
 have HL:=Lib.hid hlen;clear hlen
 have hB0:Below w.heap.size w (w.alloc (.cells #[.int .i64 ZP,.int .i64 start,.slice da dn dc] 105)):=(Below.refl _ _).alloc (ze _) _
 by_cases h1:ZP<0
 ·go_enter Tryz.func125,Tryz.ntmps125
  go_wp2
  go_ret
  exact ⟨o8 (by rw [kJ,if_pos (.inl h1)]),hB0⟩
 obtain ⟨k,rfl⟩:=Zbr (Int.not_lt.1 h1)
 by_cases h2:n≤k
 ·go_enter Tryz.func125,Tryz.ntmps125
  go_wp2
  go_ret
  exact ⟨o8 (by rw [kJ,if_pos (.inr (by rw [HL.out];omega))]),hB0⟩
 have hlt:k<n:=by omega
 obtain ⟨b,off,rfl,_,_⟩:=h.addr hlt
 obtain ⟨x,hx⟩:=h.get hlt
 have HX:Hid ((lens im)[k]?=some (x.length:Int)):=by show _=_;rw [lens,zc,hx];rfl
 obtain ⟨a',n',c',hcell,hx'⟩:=(h.below hB0).slice hx
 have hs':=hx'.small
 have hn':=hx'.len
 have HN:=Lib.hid hn';clear hn'
 clear hx
 by_cases h3:dn=0
 ·subst h3
  go_enter Tryz.func125,Tryz.ntmps125
  go_wp2
  go_ret
  exact ⟨o8 (by rw [kJ,if_neg (by rw [HL.out];omega),if_pos rfl]),hB0⟩
 have h3':0<dn:=by omega
 clear h3
 by_cases h4:start<0
 ·have d1:decide (start<0)=true:=by simp;omega
  go_enter Tryz.func125,Tryz.ntmps125
  go_wp2_with fail
  refine wp_region_quiet_lit (by kernel_rfl) (by kernel_rfl) ?_
  repeat (go_big_quiet_step (fail))
  refine wpQuiet_nil ?_
  rintro _ ⟨nq,rfl⟩
  go_wp2
  go_ret
  exact ⟨o8 (by rw [kJ,if_neg (by rw [HL.out];omega),if_neg (by omega),if_pos (.inl h4)]),below_drewN hB0 _⟩
 have h4':0≤start:=by omega
 have d1:decide (start<0)=false:=by simp;omega
 by_cases h5:(n':Int) - dn<start
 ·have d2:decide ((n':Int) - dn<start)=true:=by simp;omega
  go_enter Tryz.func125,Tryz.ntmps125
  go_wp2_with fail
  refine wp_region_quiet_lit (by kernel_rfl) (by kernel_rfl) ?_
  repeat (go_big_quiet_step (fail))
  refine wpQuiet_nil ?_
  rintro _ ⟨nq,rfl⟩
  go_wp2
  go_ret
  exact ⟨o8 (by rw [kJ,if_neg (by rw [HL.out];omega),if_neg (by omega),if_pos (by rw [Zay,DI HX.out,HN.out];omega)]),below_drewN hB0 _⟩
 ·have h5':start≤(n':Int) - dn:=by omega
  have d2:decide ((n':Int) - dn<start)=false:=by simp;omega
  go_enter Tryz.func125,Tryz.ntmps125
  go_wp2_with fail
  refine wp_region_quiet_lit (by kernel_rfl) (by kernel_rfl) ?_
  repeat (go_big_quiet_step (fail))
  refine wpQuiet_nil ?_
  rintro _ ⟨nq,rfl⟩
  go_wp2
  go_ret
  exact ⟨o8 (by rw [kJ,if_neg (by rw [HL.out];omega),if_neg (by omega),if_neg (by rw [Zay,DI HX.out,HN.out];omega)]),below_drewN hB0 _⟩
theorem Tryz.am8:(Tryz.prog.info? 129).map (·.size)=some 8:=by kernel_rfl
def Ag (l:List cZ)(s:Nat)(d:List cZ):List cZ:=l.take s++d++l.drop (s+d.length)
def Dj (im:List (List cZ))(x:Wr):List (List cZ):=im.set x.1.toNat (Ag (im.getD x.1.toNat []) x.2.1.toNat x.2.2)
def yP (sz:List Int)(x:Wr):Int:=kJ sz x.1 x.2.1 x.2.2.length
def dQ (sz:List Int):List Wr→Nat→Int×Int
 |[],_=>(0,0)
 |x::l,i=>if yP sz x≠0 then (i,yP sz x) else dQ sz l (i+1)
def qw (im:List (List cZ))(l:List Wr):List (List cZ):=if qo im≠0 then [] else WO (dQ (lens im) l 0).2 (l.foldl Dj im)
def qx (im:List (List cZ))(l:List Wr):Int:=if qo im≠0 then 0 else (dQ (lens im) l 0).1
def qy (im:List (List cZ))(l:List Wr):Int:=if qo im≠0 then qo im else (dQ (lens im) l 0).2
def qA (w:World)(im:List (List cZ))(l:List Wr):Ending→World→Prop:=fun e w' =>
 ∃ a n c,e=.returned (.tuple #[.slice a n c,.int .i64 (qx im l),.int .i64 (qy im l)])∧Sl mY (w.heap.size≤·) w' a n c (qw im l)∧(a=none∨qy im l=0)∧Below w.heap.size w w'
theorem qA.mk {w w':World}{im:List (List cZ)}{l:List Wr}{a:Option Addr}{n c:Nat}{i e:Int}(hi:i=qx im l)(he:e=qy im l)(h:Sl mY (w.heap.size≤·) w' a n c (qw im l))(hz:a=none∨qy im l=0)(hB:Below w.heap.size w w') :
  qA w im l (.returned (.tuple #[.slice a n c,.int .i64 i,.int .i64 e])) w':=⟨a,n,c,by rw [hi,he],h,hz,hB⟩
theorem IQ {sz:List Int}{l:List Wr}{k:Nat}{x:Wr}(hx:l[k]?=some x)(h:dQ sz l 0=dQ sz (l.drop k) k)(hf:yP sz x=0):dQ sz l 0=dQ sz (l.drop (k+1)) (k+1):=by
 obtain ⟨hk,rfl⟩:=zb.1 hx
 rw [h,zr hk,dQ,if_neg (by rw [hf];decide)]
theorem Nb {sz:List Int}{l:List Wr}{k:Nat}{x:Wr}(hx:l[k]?=some x)(h:dQ sz l 0=dQ sz (l.drop k) k)(hf:yP sz x≠0):dQ sz l 0=((k:Int),yP sz x):=by
 obtain ⟨hk,rfl⟩:=zb.1 hx
 rw [h,zr hk,dQ,if_pos hf]
theorem Nc {sz:List Int}{l:List Wr}{k:Nat}(hk:l.length≤k)(h:dQ sz l 0=dQ sz (l.drop k) k):dQ sz l 0=(0,0):=by
 rw [h,List.drop_eq_nil_of_le hk,dQ]
theorem wI {l d:List cZ}{s:Nat}(h:s+d.length≤l.length):(Ag l s d).length=l.length:=by
 unfold Ag;simp;omega
theorem WQ {im:List (List cZ)}{v s:Int}{d:List cZ}(h:yP (lens im) (v,s,d)=0):0≤v∧v<im.length∧0<d.length∧0≤s∧∃ x,im[v.toNat]?=some x∧s+d.length≤x.length:=by
 unfold yP kJ at h
 simp only at h
 split at h
 ·omega
 ·rename_i h1
  split at h
  ·omega
  ·rename_i h2
   split at h
   ·omega
   ·rename_i h3
    have h4:v.toNat<im.length:=by simp [lens] at h1;omega
    have e:(lens im).getD v.toNat 0=((im[v.toNat]'h4).length:Int):=by simp [lens,List.getD,h4]
    rw [e] at h3
    simp [lens] at h1
    exact ⟨by omega,by omega,by omega,by omega,_,ZD h4,by omega⟩
theorem Ro {im:List (List cZ)}{x:Wr}(h:yP (lens im) x=0):lens (Dj im x)=lens im:=by
 obtain ⟨v,s,d⟩:=x
 obtain ⟨h1,h2,h3,h4,y,hy,h5⟩:=WQ h
 unfold lens Dj
 rw [List.map_set]
 apply Zb8
 intro i
 rw [zp]
 by_cases hi:v.toNat=i
 ·subst hi
  have hl:=(zb.1 hy).1
  simp only [Z3,if_true,if_pos hl,zc,hy,Zae]
  rw [DI hy,wI (by omega)]
 ·rw [if_neg hi]
set_option maxHeartbeats 4000000 in
theorem Vf {a:Option Addr}{n c:Nat}{im:List (List cZ)}{ok ok2:Nat→Prop}{w:World}(h:Sl mY ok w a n c im)(hn:n≤1000000)(hvs:∀ v∈im,v.length≤1000000)
  {la:Option Addr} {ln lc:Nat} {l:List Wr} (hl:Sl wrR ok2 w la ln lc l) :
  Calls Tryz.prog 39 #[.slice a n c,.slice la ln lc] w (qA w im l):=by
 by_cases he:qo im=0
 rotate_left
 ·have hb:(qo im != 0)=true:=by simp [he]
  have HE:=Lib.hid he;clear he
  go_enter Tryz.func39,Tryz.ntmps39
  go_wp2_with fail
  refine (Hw h hn).mono ?_
  rintro e w1 ⟨rfl,hB1⟩
  go_wp2
  go_ret3
  exact qA.mk (by rw [qx,if_pos HE.out]) (by rw [qy,if_pos HE.out]) (by rw [qw,if_pos HE.out];exact Sl.nil0 _ _ _) (.inl rfl) hB1
 have hb:(qo im != 0)=false:=by simp [he]
 have HE:=Lib.hid he;clear he
 have hls:=hl.small
 go_enter Tryz.func39,Tryz.ntmps39
 go_wp2_with fail
 refine (Hw h hn).mono ?_
 rintro e w1 ⟨rfl,hB1⟩
 go_wp2_with fail
 refine (Ve (h.below hB1) hn hvs).mono ?_
 rintro e w2 ⟨v0,rfl,hown0,hB2⟩
 have hB3:=hB1.trans (hB2.mono hB1.size)
 go_wp2
 go_loopw [21] (fun i wr=>∃ k:Nat,k≤ln∧i=.int .i64 k∧Hid (dQ (lens im) l 0=dQ (lens im) (l.drop k) k∧lens ((l.take k).foldl Dj im)=lens im)∧kW o9 w1.heap.size wr.heap.size 71 wr v0 ((l.take k).foldl Dj im)∧Below w1.heap.size w1 wr) (fun i _=>ln - (intOf i).toNat)
 case atStart=>exact ⟨0,ZaD _,rfl,⟨rfl,rfl⟩,hown0,hB2⟩
 case round =>
  obtain ⟨k,hk,rfl,HK,hown,hB⟩:=hrel
  by_cases hlt:k<ln
  ·obtain ⟨b,off,rfl,_,_⟩:=hl.addr hlt
   obtain ⟨⟨v,s,d⟩,hx⟩:=hl.get hlt
   obtain ⟨da,dn,dc,hc0,hc1,hc2,hv,hs,hd⟩:=(hl.below (hB1.trans (hB.mono hB1.size))).wr hx
   have HX:=Lib.hid hx;clear hx
   obtain ⟨a2,n2,c2,rfl,Zx⟩:=hown.img
   generalize hcur:(l.take k).foldl Dj im=cur at *
   have HC:=Lib.hid hcur;clear hcur
   have hds:=hd.small
   by_cases hf:kJ (lens cur) v s dn=0
   rotate_left
   ·have hfb:(kJ (lens cur) v s dn != 0)=true:=by simp [hf]
    have HF:=Lib.hid hf;clear hf
    go_wp2_with fail
    refine (JW (Zx.below ((Below.refl _ _).alloc (ze _) _)) hv hs hds).mono ?_
    rintro e w3 ⟨rfl,hB4⟩
    go_wp2
    go_ret3
    have e0:dQ (lens im) l 0=((k:Int),kJ (lens cur) v s dn):=by
     have e1:yP (lens im) (v,s,d)=kJ (lens cur) v s dn:=by unfold yP;rw [HK.out.2,hd.len]
     rw [← e1]
     exact Nb HX.out HK.out.1 (by rw [e1];exact HF.out)
    exact qA.mk (by rw [qx,if_neg (by simp [HE.out]),e0]) (by rw [qy,if_neg (by simp [HE.out]),e0]) (by rw [qw,if_neg (by simp [HE.out]),e0,Zv HF.out];exact Sl.nil0 _ _ _) (.inl rfl)
     ((hB1.trans (hB.mono hB1.size)).trans (((Below.refl _ _).alloc (ze _) _).trans (hB4.mono (by simp)) |>.mono (Zaf hB1.size hB.size)))
   ·have hfb:(kJ (lens cur) v s dn != 0)=false:=by simp [hf]
    have hfw:yP (lens cur) (v,s,d)=0:=by unfold yP;rw [hd.len];exact hf
    obtain ⟨h1,h2,h3,h4,x,hx,h5⟩:=WQ hfw
    obtain ⟨v,rfl⟩:=Zbr h1
    obtain ⟨s,rfl⟩:=Zbr h4
    rw [Zay] at hx
    have HFW:=Lib.hid hfw;clear hfw
    have HF:=Lib.hid hf;clear hf
    have hdn:0<dn:=by rw [← hd.len];exact h3
    have h5':s+dn≤x.length:=by rw [hd.len] at h5;omega
    have h2':v<n2:=by rw [← Zx.len];omega
    go_wp2_with fail
    refine (JW (Zx.below ((Below.refl _ _).alloc (ze _) _)) hv hs hds).mono ?_
    rintro e w3 ⟨rfl,hB4⟩
    have hB5:Below wr.heap.size wr w3:=((Below.refl _ _).alloc (ze _) _).trans (hB4.mono (by simp))
    -- the row that is written
    obtain ⟨g,cap,cc,okk,hvv,hBg,hg,hcc,⟨u,rfl,hub,hu,_⟩,ap0,hput⟩:=((hown.below hB5).below ((Below.refl _ _).drew)).at hx
    cases hvv
    have hu':=hu
    obtain ⟨xs,hrow,_⟩:=hu
    obtain ⟨gi,Rq,rfl⟩:∃ gi Rq,u=.slice (some ⟨gi,0,none⟩) x.length Rq:=by
     rcases hrow.2 with ⟨_,h0⟩|⟨gi,Rq,cur',hvu,_⟩
     ·omega
     ·exact ⟨gi,Rq,hvu⟩
    have hcap:x.length≤Rq:=by obtain ⟨_,_,_,e,q⟩:=hu'.sl;cases e;exact q.cap
    have hcell:w3.cell? ⟨g,v,none⟩=some (.slice (some ⟨gi,0,none⟩) x.length Rq):=by have:=hcc 0 Nat.zero_lt_one;simpa [o9,fH] using this
    have hgi:=ap0 gi (hub gi rfl)
    have hw3:=hB5.size
    have hl0:=uG (g:=gi) (MV hB4 (j:=0) rfl) (by show wr.heap.size≠gi;omega)
    have hl1:=uG (g:=gi) (MV hB4 (j:=1) rfl) (by show wr.heap.size≠gi;omega)
    have hl2:=uG (g:=gi) (MV hB4 (j:=2) rfl) (by show wr.heap.size≠gi;omega)
    have hl3:=uG (g:=gi) hcell (fun e=>hgi.2.2 e.symm)
    have hsl:=fun w=>Rl Tryz.underlying71 Tryz.am8 (some ⟨gi,0,none⟩) x.length Rq s (by omega) w
    have hsub:uH (some ⟨gi,0,none⟩) Rq s 8=some ⟨gi,s*8,none⟩:=by unfold uH;rw [if_neg (by omega)];simp [Addr.add_lit]
    rw [hsub] at hsl
    have HS:=Lib.hid hsub;clear hsub
    have arp:s≤x.length:=by omega
    clear h5 hcc
    go_wp2_with fail
    refine DN (fun w'=>∃ x:rX (w3) (gi),w'=x.w) [([0,1,2,3,4,5,6,7,8,9],10)] [] Tryz.mixed (by kernel_rfl) (rX.drew _ _) ?_
    refine RV ?_
    simp only [pick,ZaZ,Zbj,Zbk,Za3,Zaz]
    change wpQuiet _ _ _ _ [_,_,_,_,_,_,_,_,_,_] _
    repeat (go_big_quiet_step (fail))
    refine wpQuiet_nil ?_
    change wpList _ _ _ [_] _ _
    refine Ht Tryz.ah8 Flat.sec rfl _ _ rfl (s:=s) (r:=yU) rfl rfl hu' (ys:=d) (((hd.below hB5).below ((Below.refl _ _).drew))) (by omega) hdn (by omega) ?_
    intro w4 hrow4 Zy apP
    have hgr:w3.grownBy w4 (some gi):=Ri (grown_drew _ _) Zy
    have hown4:=hput w4 (Ag x s d) (fun b hb hne=>Zy.block b hb (fun e=>hne (by rw [ZS.inj e];exact hub gi rfl))) Zy.os Zy.tape Zy.output Zy.size ⟨_,rfl,hub,hrow4,fun e=>by
     have:=wI (l:=x) (d:=d) (s:=s) (by rw [hd.len];omega)
     rw [e] at this;simp at this;omega⟩
    have e1:Dj cur ((v:Int),(s:Int),d)=cur.set v (Ag x s d):=by
     unfold Dj;rw [Zay,Zay,DI hx]
    have H1:=Lib.hid e1;clear e1
    have HXX:=Lib.hid hx;clear hx
    go_wp2_with fail
    refine ⟨rX.of hgr,?_⟩
    refine Nq ?_
    simp only [pick,ZaZ,Zbj,Zbk,Za3,Zaz]
    change wpQuiet _ _ _ _ [] _
    repeat (go_big_quiet_step (fail))
    refine wpQuiet_nil ?_
    go_wp2
    go_roundw
    case rel =>
     refine ⟨k+1,by omega,by go_num,?_,?_,(hB.trans (hB5.mono hB.size)).grown hgr (by have:=hB.size;omega) (fun j hj=>by cases hj;omega)⟩
     ·show _∧_
      have hfw:yP (lens im) ((v:Int),(s:Int),d)=0:=by rw [← HK.out.2];exact HFW.out
      refine ⟨IQ HX.out HK.out.1 hfw,?_⟩
      rw [nU HX.out,ZbM,HC.out]
      show lens (Dj cur _)=_
      rw [Ro HFW.out,HK.out.2]
     ·rw [nU HX.out,ZbM,HC.out]
      show kW _ _ _ _ _ _ (Dj cur _)
      rw [H1.out]
      exact hown4.up (by have:=hgr.size;omega)
    case measure=>simp [intOf];omega
  ·obtain rfl:k=ln:=by omega
   obtain ⟨a2,n2,c2,rfl,Zx⟩:=hown.img
   go_wp2
   go_ret3
   have e0:=Nc (Nat.le_of_eq hl.len) HK.out.1
   rw [Af hl.len] at Zx
   exact qA.mk (by rw [qx,if_neg (by simp [HE.out]),e0]) (by rw [qy,if_neg (by simp [HE.out]),e0]) (by rw [qw,if_neg (by simp [HE.out]),e0,aeD rfl];exact Zx.mono fun b hb=>Zaf hB1.size hb) (.inr (by rw [qy,if_neg (by simp [HE.out]),e0]))
    (hB1.trans (hB.mono hB1.size))
end Go.Proofs.YthccglceomoboaaGreatDoor
namespace Go.Proofs.YthccglceomoboaaGreatDoor
open Go.RowKit V
theorem Vg {w:World}{b o:Nat}{u:Value}(h:w.cell? ⟨b,o,none⟩=some u):bZ w b:=by
 unfold World.cell? at h
 simp only at h
 split at h
 ·rename_i e;exact ⟨_,_,_,e⟩
 ·cases h
theorem yQ {α:Type}{r:Rep α}{enc:α→PV}{ok:Nat→Prop}{w:World}{l:List α}{sz:Nat}{v:Value}(hsz:sz=r.sz)(hc:∀ x,(enc x).cells.length=r.sz)
  (hr:∀ x∈l,∀ (cs:List Value),cs.length=r.sz→(∀ (j:Nat) p u,(enc x).cells[j]?=some p→cs[j]?=some u→aG ok w p u)→r.rd ok w cs x) (h:aG ok w (.list sz (l.map enc)) v):∃ a n c,v=.slice a n c∧Sl r ok w a n c l:=by
 generalize he:l.map enc=es at h
 cases h with
 |nil _ a =>
  have:l=[]:=by simpa using he
  subst this
  exact ⟨a,0,0,rfl,⟨rfl,ze _,ZaD _,fun _=>rfl,.inl rfl⟩⟩
 |list _ _ b off c cv h1 h2 h3 h4 h6 h7 h8 =>
  subst hsz he
  refine ⟨_,_,c,rfl,⟨by simp,h3,h4,(fun e=>by cases e),.inr ⟨b,off,rfl,h1,h2.lt,fun i x hx=>?_⟩⟩⟩
  have hi:(l.map enc)[i]?=some (enc x):=by simp [hx]
  refine ⟨(Zam r.sz).map (cv i),fun j hj=>?_,hr x (Zad hx) _ (by simp) fun j p u hp hu=>?_⟩
  ·have hj':j<(enc x).cells.length:=by rw [hc];exact hj
   rw [(h7 i _ j _ hi (ZD hj')).1]
   simp [hj]
  ·have hj:j<r.sz:=by have:=(zb.1 hp).1;rw [hc] at this;exact this
   have:u=cv i j:=by simp [hj] at hu;exact hu.symm
   rw [this]
   exact h8 i _ j _ hi hp
theorem Hy {α:Type}{r:Rep α}{enc:α→PV}{ok ok':Nat→Prop}{w:World}{l:List α}{a:Option Addr}{n c:Nat}(hk:∀ b,ok b→b<w.heap.size→ok' b)(hp0:0<r.sz)(hc:∀ x,(enc x).cells.length=r.sz)
  (hr:∀ x∈l,∀ (cs:List Value),cs.length=r.sz→r.rd ok w cs x→∀ (j:Nat) p u,(enc x).cells[j]?=some p→cs[j]?=some u→u.oneCell'=true∧aG ok' w p u) (hz:l=[]→c=0) (h:Sl r ok w a n c l):aG ok' w (.list r.sz (l.map enc)) (.slice a n c):=by
 obtain ⟨h1,h2,h3,h4,h5⟩:=h
 by_cases hl:l=[]
 ·have:=hz hl
  subst hl
  have:n=0:=by simpa using h1.symm
  subst this
  have:c=0:=by omega
  subst this
  exact .nil _ _
 ·rcases h5 with h5|⟨b,off,rfl,hb,hlt,h6⟩
  ·exact absurd (Zah (by omega)) hl
  ·have hn:n=(l.map enc).length:=by simp [h1]
   rw [hn]
   have key:∀ (i:Nat) (x:α) (j:Nat) (p:PV),l[i]?=some x→(enc x).cells[j]?=some p→∃ u,w.cell? ⟨b,off+i*r.sz+j,none⟩=some u∧u.oneCell'=true∧aG ok' w p u:=by
    intro i x j p hx hp
    obtain ⟨cs,g1,g2⟩:=h6 i x hx
    have hj:j<r.sz:=by have:=(zb.1 hp).1;rw [hc] at this;exact this
    have hl2:=r.len g2
    have hu:cs[j]?=some (cs[j]'(by omega)):=ZD (by omega)
    obtain ⟨k1,k2⟩:=hr x (Zad hx) cs hl2 g2 j p _ hp hu
    exact ⟨_,by rw [g1 j hj,hu],k1,k2⟩
   have get:∀ {i:Nat} {e:PV},(l.map enc)[i]?=some e→∃ x,l[i]?=some x∧e=enc x:=by
    intro i e he
    rw [zc] at he
    cases hx:l[i]? with
    |none=>rw [hx] at he;cases he
    |some x=>rw [hx] at he;cases he;exact ⟨x,rfl,rfl⟩
   have hce:bZ w b:=by
    cases l with
    |nil=>exact absurd rfl hl
    |cons x l =>
     have hj:0<(enc x).cells.length:=by rw [hc];exact hp0
     obtain ⟨u,k1,_⟩:=key 0 x 0 _ rfl (ZD hj)
     exact Vg k1
   refine .list _ _ b off c (fun i j=>(w.cell? ⟨b,off+i*r.sz+j,none⟩).getD undef) (hk b hb hlt) hce (by simp;omega) h3 (fun e he=>?_) (fun i e j x hi hj=>?_) fun i e j x hi hj=>?_
   ·obtain ⟨x,_,rfl⟩:=ZaS.1 he;exact hc x
   ·obtain ⟨x',hx,rfl⟩:=get hi
    obtain ⟨u,k1,k2,k3⟩:=key i x' j x hx hj
    rw [k1];exact ⟨rfl,k2⟩
   ·obtain ⟨x',hx,rfl⟩:=get hi
    obtain ⟨u,k1,k2,k3⟩:=key i x' j x hx hj
    rw [k1];exact k3
theorem WR {ok:Nat→Prop}{w:World}{l:List cZ}{v:Value}(h:aG ok w (eP l) v):∃ a n c,v=.slice a n c∧Sl yU ok w a n c l:=by
 refine yQ (r:=yU) (enc:=bH) rfl (fun x=>fV x) (fun x _ cs hl hcs=>?_) h
 show cs=lW x
 refine Zb8 fun j=>?_
 by_cases hj:j<8
 ·have h1:cs[j]?=some (cs[j]'(by rw [hl];exact hj)):=ZD _
  have h2:(bH x).cells[j]?=some (.int .u8 ((x.toList[j]'(by simpa using hj)).toNat:Int)):=by
   show (je x)[j]?=_
   have hj':j<x.toList.length:=by simpa using hj
   simp only [je,zc,ZD hj',Zae]
  have:=(hcs j _ _ h2 h1).dA
  have hj':j<x.toList.length:=by simpa using hj
  rw [h1,this]
  simp only [lW,zc,ZD hj',Zae]
 ·have e1:cs.length=8:=hl
  rw [ZaO (by omega),ZaO (by rw [uP];omega)]
theorem ak3 {ok:Nat→Prop}{w:World}{l:List (List cZ)}{v:Value}(h:aG ok w (.list 1 (l.map eP)) v):∃ a n c,v=.slice a n c∧Sl mY ok w a n c l:=by
 refine yQ (r:=mY) (enc:=eP) rfl (fun x=>rfl) (fun x _ cs hl hcs=>?_) h
 match cs,hl with
 |[u],_ =>
  obtain ⟨a,n,c,rfl,hs⟩:=WR (hcs 0 _ u rfl rfl)
  exact ⟨a,n,c,rfl,hs⟩
theorem ak4 {ok:Nat→Prop}{w:World}{l:List kM}{v:Value}(hok:∀ x∈l,uY x.volume=true∧uY x.start=true)(h:aG ok w (.list 3 (l.map DV)) v):∃ a n c,v=.slice a n c∧Sl wrR ok w a n c (l.map fun x=>(x.volume,x.start,x.data)):=by
 have:∃ a n c,v=.slice a n c∧Sl (α:=kM) ⟨3,fun ok w cs x=>wrR.rd ok w cs (x.volume,x.start,x.data),fun h=>wrR.len h,fun hk h=>wrR.mono hk h,fun h=>wrR.live h,fun hf h=>wrR.frame hf h,fun h=>wrR.one h⟩ ok w a n c l:=by
  refine yQ rfl (fun x=>rfl) (fun x hx cs hl hcs=>?_) h
  match cs,hl with
  |[u,u2,u3],_ =>
   have e1:=(hcs 0 _ u rfl rfl).dA
   have e2:=(hcs 1 _ u2 rfl rfl).dA
   obtain ⟨a,n,c,rfl,hs⟩:=WR (l:=x.data) (hcs 2 _ u3 rfl rfl)
   obtain ⟨o1,o2⟩:=hok x hx
   simp only [uY,ZZ,decide_eq_true_eq] at o1 o2
   exact ⟨[u],[u2,.slice a n c],rfl,⟨by rw [e1],o1⟩,⟨[u2],[.slice a n c],rfl,⟨by rw [e2],o2⟩,a,n,c,rfl,hs⟩⟩
 obtain ⟨a,n,c,rfl,h1,h2,h3,h4,h5⟩:=this
 refine ⟨a,n,c,rfl,⟨by simpa using h1,h2,h3,h4,h5.imp id fun ⟨b,off,g1,g2,g3,g4⟩=>⟨b,off,g1,g2,g3,fun i x hx=>?_⟩⟩⟩
 rw [zc] at hx
 cases hx':l[i]? with
 |none=>rw [hx'] at hx;cases hx
 |some y=>rw [hx'] at hx;cases hx;exact g4 i y hx'
theorem ahz {ok ok':Nat→Prop}{w:World}{l:List (List cZ)}{a:Option Addr}{n c:Nat}(hk:∀ b,ok b→b<w.heap.size→ok' b)(hz:l=[]→c=0)(hne:∀ x∈l,x≠[])(h:Sl mY ok w a n c l):aG ok' w (.list 1 (l.map eP)) (.slice a n c):=by
 refine Hy (r:=mY) (enc:=eP) hk (by decide) (fun x=>rfl) (fun x hx cs hl hrd j p u hp hu=>?_) hz h
 obtain ⟨a,n,c,rfl,hs⟩:=hrd
 match j with
 |j+1=>simp [eP,PV.cells] at hp
 |0 =>
  cases hp
  cases hu
  refine ⟨rfl,Hy (r:=yU) (enc:=bH) hk (by decide) (fun x=>fV x) (fun s _ cs hl hrd j p u hp hu=>?_) (fun e=>absurd e (hne x hx)) hs⟩
  have hrd:cs=lW s:=hrd
  subst hrd
  simp only [lW,zc,Zao] at hu
  have hp:(je s)[j]?=some p:=hp
  simp only [je,zc,Zao] at hp
  obtain ⟨b,h1,rfl⟩:=hu
  obtain ⟨b',h2,rfl⟩:=hp
  rw [h1] at h2
  cases h2
  exact ⟨rfl,.int _ _⟩
theorem JX (sz:List Int)(x:kM):sJ sz x=yP sz (x.volume,x.start,x.data):=by
 simp only [yP,kJ,sJ]
 repeat' split
 all_goals first|rfl|omega
theorem Bz (sz:List Int):∀ (l:List kM) (i:Nat),ql sz l i=dQ sz (l.map fun x=>(x.volume,x.start,x.data)) i
 |[],_=>rfl
 |x::l,i=>by rw [Zai,ql,dQ,JX,Bz sz l (i+1)]
theorem Vh (im:List (List cZ))(l:List kM):UJ im l=qy im (l.map fun x=>(x.volume,x.start,x.data)):=by
 unfold UJ qy;rw [Bz];rfl
theorem ak5 (im:List (List cZ))(l:List kM):apI im l=qx im (l.map fun x=>(x.volume,x.start,x.data)):=by
 unfold apI qx;rw [Bz];rfl
theorem ahA (im:List (List cZ))(x:kM):EI im x=Dj im (x.volume,x.start,x.data):=rfl
theorem WS:∀ (l:List kM) (im:List (List cZ)),l.foldl EI im=(l.map fun x=>(x.volume,x.start,x.data)).foldl Dj im
 |[],_=>rfl
 |x::l,im=>by rw [Zai,Zbq,Zbq,ahA,WS l]
theorem ak6 (im:List (List cZ))(l:List kM):O5 im l=qw im (l.map fun x=>(x.volume,x.start,x.data)):=by
 unfold O5 qw
 rw [Vh,WS]
 unfold qy WO
 by_cases h:qo im=0
 ·simp [h]
 ·simp [h]
theorem Rt {im:List (List cZ)}{x:kM}(h:sJ (dS im) x=0):dS (EI im x)=dS im:=by
 rw [JX] at h
 exact Ro h
theorem Hz:∀ (l:List kM) (im:List (List cZ)) (i:Nat),(ql (dS im) l i).2=0→dS (l.foldl EI im)=dS im
 |[],_,_,_=>rfl
 |x::l,im,i,h=>by
  unfold ql at h
  split at h
  ·rename_i h2;exact absurd h h2
  ·rename_i h2
   have h2:sJ (dS im) x=0:=by omega
   have e:=Rt h2
   rw [Zbq,Hz l (EI im x) (i+1) (by rw [e];exact h),e]
theorem JY {im:List (List cZ)}{l:List kM}(h:UJ im l=0):dS (O5 im l)=dS im:=by
 unfold O5
 rw [if_pos h]
 unfold UJ at h
 split at h
 ·rename_i h2;exact absurd h h2
 ·exact Hz l im 0 h
theorem aeF {im:List (List cZ)}(h:zF (dS im)=0):im≠[]∧∀ v∈im,v≠[]:=by
 unfold zF at h
 split at h
 ·cases h
 ·rename_i h1
  split at h
  ·cases h
  ·rename_i h2
   refine ⟨fun e=>by subst e;simp [dS] at h1,fun v hv e=>?_⟩
   subst e
   refine h2 (ZcO.2 ⟨0,?_,by decide⟩)
   exact ZaS.2 ⟨[],hv,rfl⟩
theorem aeG {im:List (List cZ)}{l:List kM}:(UJ im l=0→O5 im l≠[])∧∀ v∈O5 im l,v≠[]:=by
 by_cases h:UJ im l=0
 ·have h0:zF (dS im)=0:=by
   unfold UJ at h
   split at h
   ·rename_i h2;exact absurd h h2
   ·omega
  have:=aeF (im:=O5 im l) (by rw [JY h];exact h0)
  exact ⟨fun _=>this.1,this.2⟩
 ·exact ⟨fun e=>absurd e h,fun v hv=>by unfold O5 at hv;rw [if_neg h] at hv;cases hv⟩
theorem aeH {f:Nat}(hc:callable Tryz.prog f=true)(hA:∀ {a:Option Addr} {n c:Nat} {im:List (List cZ)} {ok ok2:Nat→Prop} {w:World},Sl mY ok w a n c im→n≤1000000→(∀ v∈im,v.length≤1000000) →
  ∀ {la:Option Addr} {ln lc:Nat} {l:List Wr},Sl wrR ok2 w la ln lc l→Calls Tryz.prog f #[.slice a n c,.slice la ln lc] w (qA w im l)) :
  ∀ args rs,uy args=some rs→callable Tryz.prog f=true∧lq Tryz.prog f args rs:=fun args rs h=>by
 obtain ⟨im,l,rfl,hw,hn,hv,rfl⟩:=YP h
 refine ⟨hc,fun T0 w vs h1 h2 h3 h4 _=>?_⟩
 match vs,h3 with
 |[v0,v1],_ =>
  obtain ⟨a,n,c,rfl,hs⟩:=ak3 (h4 0 _ v0 rfl rfl)
  obtain ⟨la,ln,lc,rfl,hl⟩:=ak4 hw (h4 1 _ v1 rfl rfl)
  refine (hA hs (by rw [← hs.len];exact hn) hv hl).mono ?_
  rintro e w' ⟨a',n',c',rfl,hr,hz,hB⟩
  rw [← ak5,← Vh]
  rw [← ak6] at hr
  rw [← Vh] at hz
  refine ⟨_,fun b=>if w.heap.size≤b∧b<w'.heap.size then .ro else T0 b,rfl,hB,fun b hb=>if_neg (by omega),fun b hb=>?_,#[_,_,_],rfl,rfl,fun i r u hr' hu=>?_⟩
  ·show (if _ then _ else T0 b)=_
   rw [if_neg (by omega)];exact h2 b (by have:=hB.size;omega)
  ·match i with
   |0 =>
    cases hr';cases hu
    refine ahz (ok:=(w.heap.size≤·)) (fun b hb hlt=>if_pos ⟨hb,hlt⟩) (fun e=>?_) aeG.2 hr
    rcases hz with hz|hz
    ·exact hr.nil hz
    ·exact absurd e (aeG.1 hz)
   |1=>cases hr';cases hu;exact .int _ _
   |2=>cases hr';cases hu;exact .int _ _
   |i+3=>simp at hr'
theorem Zz:∀ args rs,uy args=some rs→callable Tryz.prog 39=true∧lq Tryz.prog 39 args rs:=aeH (by kernel_rfl) fun h hn hv _ _ _ _ hl=>Vf h hn hv hl
def BA (f:Nat)(fn:dP):Env:=fun k=>if k=f then some (.code fn) else none
theorem xG {P:Program}{f:Nat}{fn:dP}(h:bf P f fn=true):Ci P (BA f fn):=fun k d hk=>by
 unfold BA at hk
 split at hk
 ·rename_i e;subst e;cases hk;exact h
 ·cases hk
def WT (n:Nat):Rep Unit where
 sz:=n
 rd _ _ cs _:=cs.length=n∧∀ u∈cs,u.oneCell'=true
 len h:=h.1
 mono _ h:=h
 live h:=h
 frame _ h:=h
 one h:=h.2
theorem Flat.em (n:Nat):Flat (WT n):=fun h=>h
theorem Nh {ok:Nat→Prop}{w:World}{sz:Nat}{v:Value}(h:aG ok w (.list sz []) v):∃ a c,v=.slice a 0 c∧Sl (WT sz) (fun _=>True) w a 0 c []:=by
 obtain ⟨l,hl⟩:∃ l:List PV,l=[]:=⟨_,rfl⟩
 rw [← hl] at h
 cases h with
 |nil _ a=>exact ⟨a,0,rfl,⟨rfl,ze _,ZaD _,fun _=>rfl,.inl rfl⟩⟩
 |list _ _ b off c cv h1 h2 h3 h4 h6 h7 h8=>subst hl;exact ⟨_,c,rfl,⟨rfl,ZaD _,h4,(fun e=>by cases e),.inl rfl⟩⟩
--+
theorem ak7:ou Tryz.prog 71 129 8 8 (.agg #[.int .u8 0,.int .u8 0,.int .u8 0,.int .u8 0,.int .u8 0,.int .u8 0,.int .u8 0,.int .u8 0]):=⟨Tryz.underlying71,by kernel_rfl,rfl,by decide⟩
set_option maxHeartbeats 1000000 in
theorem ZA {a:Option Addr}{n c:Nat}{l:List Unit}{ok:Nat→Prop}{w:World}(h:Sl (WT 8) ok w a n c l)(hn:n≤1000000) :
  Calls Tryz.prog 133 #[.slice a n c] w fun e w'=>∃ a' n' c',e=.returned (.slice a' n' c')∧(fH (WT 8) 129).rd (w.heap.size≤·) w' [.slice a' n' c'] l∧Below w.heap.size w w':=by
 have heq:=fun (a:Option Addr) (n c:Nat) (w:World)=>Lib.run_eql_slice_nil (P:=Tryz.prog) w 71 129 a n c 0 0 Tryz.underlying71
 cases a with
 |none =>
  have h0:l=[]:=Zah (by rw [h.len];have:=h.nil rfl;have:=h.cap;omega)
  have H0:=Lib.hid h0;clear h0
  go_enter Tryz.func133,Tryz.ntmps133
  go_wp2
  go_ret
  refine ⟨_,_,_,rfl,?_,Below.refl _ _⟩
  rw [H0.out]
  exact fH.mk (Own.nil _ _ _ _ _) (fun _=>.inl rfl)
 |some ad =>
  have hs:n≤9223372036854775807:=by have:=Zaf h.cap h.bnd;unfold maxLen at this;omega
  go_enter Tryz.func133,Tryz.ntmps133
  go_wp2_with (at_builtin;refine pK ak7 rfl _ _ rfl rfl (Own.aeA (WT 8) (ok:=fun _=>False) (ze _)) rfl ((Src.IZ (h.below ((Below.refl _ _).alloc (ze _) _))).flat (Flat.em 8)) ?c1 ?c2 ?c3 ?_)
  case c1=>simp;unfold maxLen;omega
  case c2=>simp;omega
  case c3=>simp
  intro v' w1 hown hgrow hat
  obtain ⟨a',n',c',rfl,_⟩:=hown.sl
  go_wp2
  go_ret
  refine ⟨_,_,_,rfl,fH.mk (by simpa using hown) (fun e=>?_),((Below.refl _ _).alloc (ze _) _).grown hgrow (by simp) (fun k hk=>by cases hk;exact ze _)⟩
  subst e
  obtain ⟨xs,h1,_⟩:=hown
  rcases h1.2 with ⟨hv,_⟩|⟨g,cap,cur,hv,_⟩
  ·exact .inl hv
  ·exact .inr ⟨g,cap,by simpa using hv⟩
theorem Ru:bf Tryz.prog 133 V5=true:=by kernel_rfl
theorem IU {en:Env}(hen:en 133=some (.code V5)){e:PV}{es:List PV}(hl:(e::es).length≤lim):cal en 133 [.list 8 (e::es)]=some [(.list 8 (e::es),true)]:=by
 have F1:(es.length+1≤lim)=True:=eq_true (by simpa using hl)
 rw [aA hen rfl]
 simp only [V5]
 simp only [start,aN,aU,aJ,aT,aF,aH,aK,aP,Nat.reduceAdd,Nat.reduceSub]
 simp only [F1,aP,bJ,reduceCtorEq,Nat.reduceEqDiff,Nat.reduceAdd,Nat.reduceLT,Nat.reduceLeDiff,Z6]
theorem Rw:∀ args rs,jA 8 args=some rs→callable Tryz.prog 133=true∧lq Tryz.prog 133 args rs:=fun args rs h=>by
 unfold jA at h
 split at h
 case h_2=>cases h
 rename_i sz es
 split at h
 case isFalse=>cases h
 rename_i hc
 obtain ⟨rfl,hl⟩:=hc
 cases h
 cases es with
 |cons e es =>
  obtain ⟨n,hn⟩:=kT (IU (en:=BA 133 V5) (if_pos rfl) hl)
  exact sH (xG Ru) hn
 |nil =>
  refine ⟨by kernel_rfl,fun T0 w vs h1 h2 h3 h4 _=>?_⟩
  match vs,h3 with
  |[v],_ =>
   have hv:=h4 0 _ v rfl rfl
   obtain ⟨a,c,rfl,hsl⟩:=Nh hv
   refine (ZA (ok:=fun _=>True) hsl (by omega)).mono ?_
   rintro e w' ⟨a',n',c',rfl,hrd,hB⟩
   obtain ⟨v,hv,hb,⟨xs,hown,_⟩,hnil⟩:=hrd
   obtain rfl:Value.slice a' n' c'=v:=by simpa using hv
   rcases hown.2 with ⟨e1,_⟩|⟨g,cap,cur,e1,_,hg,_,hm,hs,_⟩
   ·refine ⟨_,T0,rfl,hB,fun _ _=>rfl,fun b hb=>h2 b (by have:=hB.size;omega),#[_],rfl,rfl,fun i r u hr hu=>?_⟩
    cases i with
    |zero=>cases hr;cases hu;exact .inl ⟨rfl,none,e1⟩
    |succ i=>simp at hr
   ·have hg0:w.heap.size≤g:=hb g (by rw [e1];rfl)
    have hgl:g<w'.heap.size:=(zw.1 hg).1
    refine ⟨_,fun b=>if b=g then .row (.part 0 0) else T0 b,rfl,hB,fun b hb=>if_neg (by omega),fun b hb=>?_,#[_],rfl,rfl,fun i r u hr hu=>?_⟩
    ·show (if b=g then _ else T0 b)=_
     rw [if_neg (by omega)];exact h2 b (by have:=hB.size;omega)
    ·cases i with
     |zero =>
      cases hr;cases hu
      exact .inr ⟨g,cap,cur,_,e1,if_pos rfl,hg,hs,ZaD _,hm,(fun e he=>by cases he),fun i e j x hi=>by simp at hi⟩
     |succ i=>simp at hr
--+
theorem ak8:ou Tryz.prog 35 3 1 8 (.int .i64 0):=⟨Tryz.underlying35,by kernel_rfl,rfl,by decide⟩
set_option maxHeartbeats 1000000 in
theorem ZB {a:Option Addr}{n c:Nat}{l:List Unit}{ok:Nat→Prop}{w:World}(h:Sl (WT 1) ok w a n c l)(hn:n≤1000000) :
  Calls Tryz.prog 107 #[.slice a n c] w fun e w'=>∃ a' n' c',e=.returned (.slice a' n' c')∧(fH (WT 1) 3).rd (w.heap.size≤·) w' [.slice a' n' c'] l∧Below w.heap.size w w':=by
 have heq:=fun (a:Option Addr) (n c:Nat) (w:World)=>Lib.run_eql_slice_nil (P:=Tryz.prog) w 35 3 a n c 0 0 Tryz.underlying35
 cases a with
 |none =>
  have h0:l=[]:=Zah (by rw [h.len];have:=h.nil rfl;have:=h.cap;omega)
  have H0:=Lib.hid h0;clear h0
  go_enter Tryz.func107,Tryz.ntmps107
  go_wp2
  go_ret
  refine ⟨_,_,_,rfl,?_,Below.refl _ _⟩
  rw [H0.out]
  exact fH.mk (Own.nil _ _ _ _ _) (fun _=>.inl rfl)
 |some ad =>
  have hs:n≤9223372036854775807:=by have:=Zaf h.cap h.bnd;unfold maxLen at this;omega
  go_enter Tryz.func107,Tryz.ntmps107
  go_wp2_with (at_builtin;refine pK ak8 rfl _ _ rfl rfl (Own.aeA (WT 1) (ok:=fun _=>False) (ze _)) rfl ((Src.IZ (h.below ((Below.refl _ _).alloc (ze _) _))).flat (Flat.em 1)) ?c1 ?c2 ?c3 ?_)
  case c1=>simp;unfold maxLen;omega
  case c2=>simp;omega
  case c3=>simp
  intro v' w1 hown hgrow hat
  obtain ⟨a',n',c',rfl,_⟩:=hown.sl
  go_wp2
  go_ret
  refine ⟨_,_,_,rfl,fH.mk (by simpa using hown) (fun e=>?_),((Below.refl _ _).alloc (ze _) _).grown hgrow (by simp) (fun k hk=>by cases hk;exact ze _)⟩
  subst e
  obtain ⟨xs,h1,_⟩:=hown
  rcases h1.2 with ⟨hv,_⟩|⟨g,cap,cur,hv,_⟩
  ·exact .inl hv
  ·exact .inr ⟨g,cap,by simpa using hv⟩
theorem Rx:bf Tryz.prog 107 VZ=true:=by kernel_rfl
theorem IV {en:Env}(hen:en 107=some (.code VZ)){e:PV}{es:List PV}(hl:(e::es).length≤lim):cal en 107 [.list 1 (e::es)]=some [(.list 1 (e::es),true)]:=by
 have F1:(es.length+1≤lim)=True:=eq_true (by simpa using hl)
 rw [aA hen rfl]
 simp only [VZ]
 simp only [start,aN,aU,aJ,aT,aF,aH,aK,aP,Nat.reduceAdd,Nat.reduceSub]
 simp only [F1,aP,bJ,reduceCtorEq,Nat.reduceEqDiff,Nat.reduceAdd,Nat.reduceLT,Nat.reduceLeDiff,Z6]
theorem Ry:∀ args rs,jA 1 args=some rs→callable Tryz.prog 107=true∧lq Tryz.prog 107 args rs:=fun args rs h=>by
 unfold jA at h
 split at h
 case h_2=>cases h
 rename_i sz es
 split at h
 case isFalse=>cases h
 rename_i hc
 obtain ⟨rfl,hl⟩:=hc
 cases h
 cases es with
 |cons e es =>
  obtain ⟨n,hn⟩:=kT (IV (en:=BA 107 VZ) (if_pos rfl) hl)
  exact sH (xG Rx) hn
 |nil =>
  refine ⟨by kernel_rfl,fun T0 w vs h1 h2 h3 h4 _=>?_⟩
  match vs,h3 with
  |[v],_ =>
   have hv:=h4 0 _ v rfl rfl
   obtain ⟨a,c,rfl,hsl⟩:=Nh hv
   refine (ZB (ok:=fun _=>True) hsl (by omega)).mono ?_
   rintro e w' ⟨a',n',c',rfl,hrd,hB⟩
   obtain ⟨v,hv,hb,⟨xs,hown,_⟩,hnil⟩:=hrd
   obtain rfl:Value.slice a' n' c'=v:=by simpa using hv
   rcases hown.2 with ⟨e1,_⟩|⟨g,cap,cur,e1,_,hg,_,hm,hs,_⟩
   ·refine ⟨_,T0,rfl,hB,fun _ _=>rfl,fun b hb=>h2 b (by have:=hB.size;omega),#[_],rfl,rfl,fun i r u hr hu=>?_⟩
    cases i with
    |zero=>cases hr;cases hu;exact .inl ⟨rfl,none,e1⟩
    |succ i=>simp at hr
   ·have hg0:w.heap.size≤g:=hb g (by rw [e1];rfl)
    have hgl:g<w'.heap.size:=(zw.1 hg).1
    refine ⟨_,fun b=>if b=g then .row (.part 0 0) else T0 b,rfl,hB,fun b hb=>if_neg (by omega),fun b hb=>?_,#[_],rfl,rfl,fun i r u hr hu=>?_⟩
    ·show (if b=g then _ else T0 b)=_
     rw [if_neg (by omega)];exact h2 b (by have:=hB.size;omega)
    ·cases i with
     |zero =>
      cases hr;cases hu
      exact .inr ⟨g,cap,cur,_,e1,if_pos rfl,hg,hs,ZaD _,hm,(fun e he=>by cases he),fun i e j x hi=>by simp at hi⟩
     |succ i=>simp at hr
--+
theorem ak9:ou Tryz.prog 57 193 1 8 (.int .u64 0):=⟨Tryz.underlying57,by kernel_rfl,rfl,by decide⟩
set_option maxHeartbeats 1000000 in
theorem ZC {a:Option Addr}{n c:Nat}{l:List Unit}{ok:Nat→Prop}{w:World}(h:Sl (WT 1) ok w a n c l)(hn:n≤1000000) :
  Calls Tryz.prog 120 #[.slice a n c] w fun e w'=>∃ a' n' c',e=.returned (.slice a' n' c')∧(fH (WT 1) 193).rd (w.heap.size≤·) w' [.slice a' n' c'] l∧Below w.heap.size w w':=by
 have heq:=fun (a:Option Addr) (n c:Nat) (w:World)=>Lib.run_eql_slice_nil (P:=Tryz.prog) w 57 193 a n c 0 0 Tryz.underlying57
 cases a with
 |none =>
  have h0:l=[]:=Zah (by rw [h.len];have:=h.nil rfl;have:=h.cap;omega)
  have H0:=Lib.hid h0;clear h0
  go_enter Tryz.func120,Tryz.ntmps120
  go_wp2
  go_ret
  refine ⟨_,_,_,rfl,?_,Below.refl _ _⟩
  rw [H0.out]
  exact fH.mk (Own.nil _ _ _ _ _) (fun _=>.inl rfl)
 |some ad =>
  have hs:n≤9223372036854775807:=by have:=Zaf h.cap h.bnd;unfold maxLen at this;omega
  go_enter Tryz.func120,Tryz.ntmps120
  go_wp2_with (at_builtin;refine pK ak9 rfl _ _ rfl rfl (Own.aeA (WT 1) (ok:=fun _=>False) (ze _)) rfl ((Src.IZ (h.below ((Below.refl _ _).alloc (ze _) _))).flat (Flat.em 1)) ?c1 ?c2 ?c3 ?_)
  case c1=>simp;unfold maxLen;omega
  case c2=>simp;omega
  case c3=>simp
  intro v' w1 hown hgrow hat
  obtain ⟨a',n',c',rfl,_⟩:=hown.sl
  go_wp2
  go_ret
  refine ⟨_,_,_,rfl,fH.mk (by simpa using hown) (fun e=>?_),((Below.refl _ _).alloc (ze _) _).grown hgrow (by simp) (fun k hk=>by cases hk;exact ze _)⟩
  subst e
  obtain ⟨xs,h1,_⟩:=hown
  rcases h1.2 with ⟨hv,_⟩|⟨g,cap,cur,hv,_⟩
  ·exact .inl hv
  ·exact .inr ⟨g,cap,by simpa using hv⟩
theorem Rz:bf Tryz.prog 120 V4=true:=by kernel_rfl
theorem IW {en:Env}(hen:en 120=some (.code V4)){e:PV}{es:List PV}(hl:(e::es).length≤lim):cal en 120 [.list 1 (e::es)]=some [(.list 1 (e::es),true)]:=by
 have F1:(es.length+1≤lim)=True:=eq_true (by simpa using hl)
 rw [aA hen rfl]
 simp only [V4]
 simp only [start,aN,aU,aJ,aT,aF,aH,aK,aP,Nat.reduceAdd,Nat.reduceSub]
 simp only [F1,aP,bJ,reduceCtorEq,Nat.reduceEqDiff,Nat.reduceAdd,Nat.reduceLT,Nat.reduceLeDiff,Z6]
theorem RD:∀ args rs,jA 1 args=some rs→callable Tryz.prog 120=true∧lq Tryz.prog 120 args rs:=fun args rs h=>by
 unfold jA at h
 split at h
 case h_2=>cases h
 rename_i sz es
 split at h
 case isFalse=>cases h
 rename_i hc
 obtain ⟨rfl,hl⟩:=hc
 cases h
 cases es with
 |cons e es =>
  obtain ⟨n,hn⟩:=kT (IW (en:=BA 120 V4) (if_pos rfl) hl)
  exact sH (xG Rz) hn
 |nil =>
  refine ⟨by kernel_rfl,fun T0 w vs h1 h2 h3 h4 _=>?_⟩
  match vs,h3 with
  |[v],_ =>
   have hv:=h4 0 _ v rfl rfl
   obtain ⟨a,c,rfl,hsl⟩:=Nh hv
   refine (ZC (ok:=fun _=>True) hsl (by omega)).mono ?_
   rintro e w' ⟨a',n',c',rfl,hrd,hB⟩
   obtain ⟨v,hv,hb,⟨xs,hown,_⟩,hnil⟩:=hrd
   obtain rfl:Value.slice a' n' c'=v:=by simpa using hv
   rcases hown.2 with ⟨e1,_⟩|⟨g,cap,cur,e1,_,hg,_,hm,hs,_⟩
   ·refine ⟨_,T0,rfl,hB,fun _ _=>rfl,fun b hb=>h2 b (by have:=hB.size;omega),#[_],rfl,rfl,fun i r u hr hu=>?_⟩
    cases i with
    |zero=>cases hr;cases hu;exact .inl ⟨rfl,none,e1⟩
    |succ i=>simp at hr
   ·have hg0:w.heap.size≤g:=hb g (by rw [e1];rfl)
    have hgl:g<w'.heap.size:=(zw.1 hg).1
    refine ⟨_,fun b=>if b=g then .row (.part 0 0) else T0 b,rfl,hB,fun b hb=>if_neg (by omega),fun b hb=>?_,#[_],rfl,rfl,fun i r u hr hu=>?_⟩
    ·show (if b=g then _ else T0 b)=_
     rw [if_neg (by omega)];exact h2 b (by have:=hB.size;omega)
    ·cases i with
     |zero =>
      cases hr;cases hu
      exact .inr ⟨g,cap,cur,_,e1,if_pos rfl,hg,hs,ZaD _,hm,(fun e he=>by cases he),fun i e j x hi=>by simp at hi⟩
     |succ i=>simp at hr
--+
theorem ala:ou Tryz.prog 72 5 1 1 (.int .u8 0):=⟨Tryz.underlying72,by kernel_rfl,rfl,by decide⟩
set_option maxHeartbeats 1000000 in
theorem ZE {a:Option Addr}{n c:Nat}{l:List Unit}{ok:Nat→Prop}{w:World}(h:Sl (WT 1) ok w a n c l)(hn:n≤1000000) :
  Calls Tryz.prog 245 #[.slice a n c] w fun e w'=>∃ a' n' c',e=.returned (.slice a' n' c')∧(fH (WT 1) 5).rd (w.heap.size≤·) w' [.slice a' n' c'] l∧Below w.heap.size w w':=by
 have heq:=fun (a:Option Addr) (n c:Nat) (w:World)=>Lib.run_eql_slice_nil (P:=Tryz.prog) w 72 5 a n c 0 0 Tryz.underlying72
 cases a with
 |none =>
  have h0:l=[]:=Zah (by rw [h.len];have:=h.nil rfl;have:=h.cap;omega)
  have H0:=Lib.hid h0;clear h0
  go_enter Tryz.func245,Tryz.ntmps245
  go_wp2
  go_ret
  refine ⟨_,_,_,rfl,?_,Below.refl _ _⟩
  rw [H0.out]
  exact fH.mk (Own.nil _ _ _ _ _) (fun _=>.inl rfl)
 |some ad =>
  have hs:n≤9223372036854775807:=by have:=Zaf h.cap h.bnd;unfold maxLen at this;omega
  go_enter Tryz.func245,Tryz.ntmps245
  go_wp2_with (at_builtin;refine pK ala rfl _ _ rfl rfl (Own.aeA (WT 1) (ok:=fun _=>False) (ze _)) rfl ((Src.IZ (h.below ((Below.refl _ _).alloc (ze _) _))).flat (Flat.em 1)) ?c1 ?c2 ?c3 ?_)
  case c1=>simp;unfold maxLen;omega
  case c2=>simp;omega
  case c3=>simp
  intro v' w1 hown hgrow hat
  obtain ⟨a',n',c',rfl,_⟩:=hown.sl
  go_wp2
  go_ret
  refine ⟨_,_,_,rfl,fH.mk (by simpa using hown) (fun e=>?_),((Below.refl _ _).alloc (ze _) _).grown hgrow (by simp) (fun k hk=>by cases hk;exact ze _)⟩
  subst e
  obtain ⟨xs,h1,_⟩:=hown
  rcases h1.2 with ⟨hv,_⟩|⟨g,cap,cur,hv,_⟩
  ·exact .inl hv
  ·exact .inr ⟨g,cap,by simpa using hv⟩
theorem RF:bf Tryz.prog 245 V6=true:=by kernel_rfl
theorem IX {en:Env}(hen:en 245=some (.code V6)){e:PV}{es:List PV}(hl:(e::es).length≤lim):cal en 245 [.list 1 (e::es)]=some [(.list 1 (e::es),true)]:=by
 have F1:(es.length+1≤lim)=True:=eq_true (by simpa using hl)
 rw [aA hen rfl]
 simp only [V6]
 simp only [start,aN,aU,aJ,aT,aF,aH,aK,aP,Nat.reduceAdd,Nat.reduceSub]
 simp only [F1,aP,bJ,reduceCtorEq,Nat.reduceEqDiff,Nat.reduceAdd,Nat.reduceLT,Nat.reduceLeDiff,Z6]
theorem RG:∀ args rs,jA 1 args=some rs→callable Tryz.prog 245=true∧lq Tryz.prog 245 args rs:=fun args rs h=>by
 unfold jA at h
 split at h
 case h_2=>cases h
 rename_i sz es
 split at h
 case isFalse=>cases h
 rename_i hc
 obtain ⟨rfl,hl⟩:=hc
 cases h
 cases es with
 |cons e es =>
  obtain ⟨n,hn⟩:=kT (IX (en:=BA 245 V6) (if_pos rfl) hl)
  exact sH (xG RF) hn
 |nil =>
  refine ⟨by kernel_rfl,fun T0 w vs h1 h2 h3 h4 _=>?_⟩
  match vs,h3 with
  |[v],_ =>
   have hv:=h4 0 _ v rfl rfl
   obtain ⟨a,c,rfl,hsl⟩:=Nh hv
   refine (ZE (ok:=fun _=>True) hsl (by omega)).mono ?_
   rintro e w' ⟨a',n',c',rfl,hrd,hB⟩
   obtain ⟨v,hv,hb,⟨xs,hown,_⟩,hnil⟩:=hrd
   obtain rfl:Value.slice a' n' c'=v:=by simpa using hv
   rcases hown.2 with ⟨e1,_⟩|⟨g,cap,cur,e1,_,hg,_,hm,hs,_⟩
   ·refine ⟨_,T0,rfl,hB,fun _ _=>rfl,fun b hb=>h2 b (by have:=hB.size;omega),#[_],rfl,rfl,fun i r u hr hu=>?_⟩
    cases i with
    |zero=>cases hr;cases hu;exact .inl ⟨rfl,none,e1⟩
    |succ i=>simp at hr
   ·have hg0:w.heap.size≤g:=hb g (by rw [e1];rfl)
    have hgl:g<w'.heap.size:=(zw.1 hg).1
    refine ⟨_,fun b=>if b=g then .row (.part 0 0) else T0 b,rfl,hB,fun b hb=>if_neg (by omega),fun b hb=>?_,#[_],rfl,rfl,fun i r u hr hu=>?_⟩
    ·show (if b=g then _ else T0 b)=_
     rw [if_neg (by omega)];exact h2 b (by have:=hB.size;omega)
    ·cases i with
     |zero =>
      cases hr;cases hu
      exact .inr ⟨g,cap,cur,_,e1,if_pos rfl,hg,hs,ZaD _,hm,(fun e he=>by cases he),fun i e j x hi=>by simp at hi⟩
     |succ i=>simp at hr
end Go.Proofs.YthccglceomoboaaGreatDoor
namespace Go.Proofs.YthccglceomoboaaGreatDoor.V
def Ah (a b:nY):Int:=if iy a≠0 then iy a else if iy b≠0 then iy b else if gJ a=gJ b then 0 else 22
theorem BF {a b:nY}(h:gJ a=gJ b):a.length=b.length∧∀ i (h1:i<a.length) (h2:i<b.length),a[i].length=b[i].length:=by
 have hl:a.length=b.length:=by simpa [gJ] using congrArg List.length h
 refine ⟨hl,fun i h1 h2=>?_⟩
 have:=congrArg (fun l=>l[i]?) h
 simp only [gJ,zc,ZD h1,ZD h2,Zae,ZS.injEq] at this
 omega
theorem getD_lt {α:Type}{l:List α}{i:Nat}{d:α}(h:i<l.length):l.getD i d=l[i]:=by simp [zR,ZD h]
def okW (l:List kM):Prop:=∀ w∈l,uY w.volume=true∧uY w.start=true
theorem am9 {im:nY}{l:List kM}(hw:okW l)(hl:im.length≤1000000)(hr:∀ v∈im,v.length≤1000000):cal env 39 [.list 1 (im.map eP),.list 3 (l.map DV)]=some [(.list 1 ((O5 im l).map eP),false),(.int .i64 (apI im l),false),(.int .i64 (UJ im l),false)] :=
 (Du amD).trans (UK hw hl hr)
def oq {α β:Type}(g:Nat→α→β)(l:List α):List β:=l.mapIdx g
theorem xH {α β:Type}(g:Nat→α→β)(l:List α):(oq g l).length=l.length:=by simp [oq]
theorem ZF {α β:Type}(g:Nat→α→β){l:List α}{i:Nat}(h:i<l.length):(oq g l)[i]?=some (g i l[i]):=by simp [oq,h]
theorem Vj {α β γ:Type}(g:Nat→α→β)(f:β→γ){l:List α}{i:Nat}(h:i<l.length):((oq g l).take i).map f++[f (g i l[i])]=((oq g l).take (i+1)).map f:=by
 have h2:i<(oq g l).length:=by rw [xH];exact h
 rw [List.take_succ,ZF g h,Zag];rfl
--+
theorem ahB {l:List (List bP)}{g:Nat→List bP→Bool}{gf:Nat}{caps:List PV}(hp:∀ i (h:i<l.length),cal env gf (.int .i64 (i:Nat)::.list 2 (l[i].map aZ)::caps)=some [(eB (g i l[i]),false)])(hl:l.length≤lim)
  {st:St} (h:st.head [0,1,5,8,9,10,21] st.boxes.length=some ⟨[.pv (.list 1 (l.map jf)),.pv (.func gf caps),.any,.any,.any,.row 1 [],.any,.any,.pv (.list 1 (l.map jf)),.pv (.int .i64 l.length),.pv (.int .i64 (0:Nat)),.any,.any,.any,.any,.any,.any,.any,.any,.any,.any,.any,.any,.any],[],[],none⟩) :
  den env FX st=some (.normal,⟨[.any,.any,.any,.any,.any,.row 1 ((oq g l).map eB),.any,.any,.any,.any,.any,.any,.any,.any,.any,.any,.any,.any,.any,.any,.any,.any,.any,.any],[],[],none⟩):=by
 unfold FX
 rw [aY l.length (fun i=>⟨[.pv (.list 1 (l.map jf)),.pv (.func gf caps),.any,.any,.any,.row 1 (((oq g l).take i).map eB),.any,.any,.pv (.list 1 (l.map jf)),.pv (.int .i64 l.length),.pv (.int .i64 i),.any,.any,.any,.any,.any,.any,.any,.any,.any,.any,.any,.any,.any],[],[],none⟩)
  (fun i=>some (.normal,⟨[.any,.any,.any,.any,.any,.row 1 ((oq g l).map eB),.any,.any,.any,.any,.any,.any,.any,.any,.any,.any,.any,.any,.any,.any,.any,.any,.any,.any],[],[],none⟩)) h (fun _=>rfl) (fun _=>rfl) ?_ ?_]
 ·intro i rb hi ih
  have hi1:=bC hi hl
  have F1:((i:Int)<(l.length:Int))=True:=eq_true (by omega)
  have F2:(((oq g l).take i).length+1≤lim)=True:=eq_true (by rw [Zaa,xH];omega)
  have hpi:cal env gf (.int .i64 (i:Nat)::.list 2 (l[i].map aZ)::caps)=some [((PV.bool (g i l[i])),false)]:=hp i hi
  simp only [FW,F1,F2,jf,au hi,zc,ZD hi,hpi,bJ,reduceCtorEq,Nat.reduceEqDiff,Nat.reduceAdd,Nat.reduceLT,Nat.reduceLeDiff,Z6]
  rw [ih _ (by simp only [hi1];rw [← Vj g eB hi];rfl)]
 ·intro rb
  have hz:(oq g l).take l.length=oq g l:=ZaH (by rw [xH];exact ze _)
  simp only [FW,Zat,hz,jl,reduceCtorEq,Nat.reduceEqDiff,Nat.reduceAdd,Nat.reduceLT,Nat.reduceLeDiff,Z6]
  rfl
theorem alb {l:List (List bP)}{g:Nat→List bP→Bool}{gf:Nat}{caps:List PV}(hp:∀ i (h:i<l.length),cal env gf (.int .i64 (i:Nat)::.list 2 (l[i].map aZ)::caps)=some [(eB (g i l[i]),false)])(hl:l.length≤lim) :
  cal env 206 [.list 1 (l.map jf),.func gf caps]=some [(.list 1 ((oq g l).map eB),true)]:=by
 rw [aA ajC rfl];simp only [Qc];simp only [start,aN,aU,aJ,aT,aF,aH,aK,aP,Nat.reduceAdd,Nat.reduceSub]
 simp only [Z3,bJ,reduceCtorEq,Nat.reduceEqDiff,Nat.reduceAdd,Nat.reduceLT,Nat.reduceLeDiff,Z6]
 rw [ahB hp hl]
 rotate_left
 ·rfl
 ·simp only [bJ,reduceCtorEq,Nat.reduceEqDiff,Nat.reduceAdd,Nat.reduceLT,Nat.reduceLeDiff,Z6]
--+
theorem ahC {l:List Bool}{v:Bool}(hl:l.length≤lim){st:St}(h:st.head [0,1,7,8] st.boxes.length=some ⟨[.pv (.list 1 (l.map eB)),.pv (.bool v),.any,.any,.any,.any,.any,.pv (.int .i64 l.length),.pv (.int .i64 (0:Nat)),.any,.any,.any,.any,.any,.any,.any,.any,.any,.any],[],[],none⟩) :
  den env Gu st=if l.contains v then some (.ret,⟨[.any,.any,.any,.any,.pv (.int .i64 ((l.findIdx (fun b=>v==b):Nat):Int)),.any,.any,.any,.any,.any,.any,.any,.any,.any,.any,.any,.any,.any,.any],[],[],none⟩) else some (.normal,⟨[.any,.any,.any,.any,.any,.any,.any,.any,.any,.any,.any,.any,.any,.any,.any,.any,.any,.any,.any],[],[],none⟩):=by
 unfold Gu
 rw [ aY (env:=env) (l.length) (fun i=>⟨[.pv (.list 1 (l.map eB)),.pv (.bool v),.any,.any,.any,.any,.any,.pv (.int .i64 l.length),.pv (.int .i64 i),.any,.any,.any,.any,.any,.any,.any,.any,.any,.any],[],[],none⟩) (fun i=>if (l.drop i).contains v then some (.ret,⟨[.any,.any,.any,.any,.pv (.int .i64 ((i+(l.drop i).findIdx (fun b=>v==b):Nat):Int)),.any,.any,.any,.any,.any,.any,.any,.any,.any,.any,.any,.any,.any,.any],[],[],none⟩) else some (.normal,⟨[.any,.any,.any,.any,.any,.any,.any,.any,.any,.any,.any,.any,.any,.any,.any,.any,.any,.any,.any],[],[],none⟩)) h (fun _=>rfl) (fun _=>rfl) ?_ ?_]
 ·first|rfl|simp only [ZaT,List.take_zero,Zar,Zaj,List.nil_append,List.foldl_nil]
 ·intro i rb hi ih
  have hi1:=bC hi hl
  have F1:((i:Int)<(l.length:Int))=True:=eq_true (by omega)
  simp only [Gt,F1,eB,au hi,zc,ZD hi,bJ,reduceCtorEq,Nat.reduceEqDiff,Nat.reduceAdd,Nat.reduceLT,Nat.reduceLeDiff,Z6]
  rw [zr hi]
  (try simp only [dB,dO,dD]);refine bV (fun hb=>?_) (fun hb=>?_)<;>try simp only [hb,bJ,reduceCtorEq,Nat.reduceEqDiff,Nat.reduceAdd,Nat.reduceLT,Nat.reduceLeDiff,Z6]
  ·have e:(v==l[i])=true:=hb
   simp only [ZcA,e,Bool.true_or,if_true,Zca,cond_true,Za4]
   rfl
  ·have e:(v==l[i])=false:=hb
   rw [ih _ (by simp only [hi1];rfl)]
   simp only [ZcA,e,Bool.false_or,Zca,cond_false,Za0,Nat.add_comm 1]
 ·intro rb
  simp only [Gt,Zat,bJ,reduceCtorEq,Nat.reduceEqDiff,Nat.reduceAdd,Nat.reduceLT,Nat.reduceLeDiff,Z6]
  simp only [List.drop_length,List.contains_nil,Bool.false_eq_true,if_false]
  rfl
theorem alc {l:List Bool}{v:Bool}(hl:l.length≤lim):cal env 252 [.list 1 (l.map eB),.bool v]=some [(.int .i64 (if l.contains v then ((l.findIdx (fun b=>v==b):Nat):Int) else -1),false)]:=by
 rw [aA ajR rfl];simp only [Qs];simp only [start,aN,aU,aJ,aT,aF,aH,aK,aP,Nat.reduceAdd,Nat.reduceSub]
 simp only [Z3,jl,reduceCtorEq,Nat.reduceEqDiff,Nat.reduceAdd,Nat.reduceLT,Nat.reduceLeDiff,Z6]
 rw [ahC (v:=v) hl]
 rotate_left
 ·rfl
 ·split<;>simp only [jl,reduceCtorEq,Nat.reduceEqDiff,Nat.reduceAdd,Nat.reduceLT,Nat.reduceLeDiff,Z6]
theorem ald {l:List Bool}{v:Bool}(hl:l.length≤lim):cal env 208 [.list 1 (l.map eB),.bool v]=some [(.bool (l.contains v),false)]:=by
 have e1:=alc (v:=v) hl
 have G:decide ((if l.contains v then ((l.findIdx (fun b=>v==b):Nat):Int) else -1) ≥ 0)=l.contains v:=by
  cases l.contains v
  ·rfl
  ·simp only [if_true];exact decide_eq_true (by omega)
 rw [aA ajE rfl];simp only [Qe];simp only [start,aN,aU,aJ,aT,aF,aH,aK,aP,Nat.reduceAdd,Nat.reduceSub]
 simp only [e1,G,bJ,reduceCtorEq,Nat.reduceEqDiff,Nat.reduceAdd,Nat.reduceLT,Nat.reduceLeDiff,Z6]
def Vk (im:nY)(l:List (List bP)):List Bool:=oq (fun i x=>decide (sU x ((im.getD i []).length:Int)=0)) l
def qH (im:nY)(l:List (List bP)):Int:=if l.length≠im.length then 6 else if (Vk im l).contains false then 3 else 0
theorem ale {im:nY}{x:List bP}{i:Nat}(hi:i<im.length)(ho:uD x)(hl:x.length≤10000):cal env 207 [.int .i64 (i:Nat),.list 2 (x.map aZ),.cu [.list 1 (im.map eP)] 0]=some [(.bool (decide (sU x ((im.getD i []).length:Int)=0)),false)]:=by
 have e1:=U7 (size:=(im[i].length:Int)) ho hl
 have e2:im.getD i []=im[i]:=by simp [hi]
 have e3:(sU x (im[i].length:Int)==0)=decide (sU x (im[i].length:Int)=0):=rfl
 rw [e2]
 rw [aA ajD rfl];simp only [Qd];simp only [start,aN,aU,aJ,aT,aF,aH,aK,aP,Nat.reduceAdd,Nat.reduceSub]
 simp only [e1,e3,eP,au hi,zc,ZD hi,bJ,reduceCtorEq,Nat.reduceEqDiff,Nat.reduceAdd,Nat.reduceLT,Nat.reduceLeDiff,Z6]
theorem alf {im:nY}{l:List (List bP)}(ho:∀ x∈l,uD x)(hr:∀ x∈l,x.length≤10000)(hl:l.length≤lim):cal env 131 [.list 1 (im.map eP),.list 1 (l.map jf)]=some [(.int .i64 (qH im l),false)]:=by
 unfold qH
 by_cases c:l.length=im.length
 ·have G1:(((l.length:Int)) != (im.length:Int))=false:=by simp;omega
  have e1:=alb (l:=l) (g:=fun i x=>decide (sU x ((im.getD i []).length:Int)=0)) (gf:=207) (caps:=[.cu [.list 1 (im.map eP)] 0]) (fun i h=>ale (by omega) (ho _ (Zap h)) (hr _ (Zap h))) hl
  have e2:=ald (l:=Vk im l) (v:=false) (by unfold Vk;rw [xH];exact hl)
  rw [if_neg (by simpa using c)]
  unfold Vk at e2 ⊢
  rw [aA ads rfl];simp only [JG];simp only [start,aN,aU,aJ,aT,aF,aH,aK,aP,Nat.reduceAdd,Nat.reduceSub]
  simp only [e1,e2,G1,bJ,reduceCtorEq,Nat.reduceEqDiff,Nat.reduceAdd,Nat.reduceLT,Nat.reduceLeDiff,Z6]
  (try simp only [dB,dO,dD]);refine bV (fun hb=>?_) (fun hb=>?_)<;>try simp only [hb,e1,e2,G1,bJ,reduceCtorEq,Nat.reduceEqDiff,Nat.reduceAdd,Nat.reduceLT,Nat.reduceLeDiff,Z6]
 ·have G1:(((l.length:Int)) != (im.length:Int))=true:=by simp;omega
  rw [if_pos c]
  rw [aA ads rfl];simp only [JG];simp only [start,aN,aU,aJ,aT,aF,aH,aK,aP,Nat.reduceAdd,Nat.reduceSub]
  simp only [G1,bJ,reduceCtorEq,Nat.reduceEqDiff,Nat.reduceAdd,Nat.reduceLT,Nat.reduceLeDiff,Z6]
theorem aeI {a b:nY}(h:Ah a b=0):a.length=b.length∧iy a=0∧iy b=0∧gJ a=gJ b:=by
 unfold Ah at h
 split at h
 ·omega
 ·split at h
  ·omega
  ·split at h
   ·rename_i c
    rename_i h1 h2
    exact ⟨(BF c).1,by omega,by omega,c⟩
   ·omega
theorem Ai {a:nY}{l:List (List bP)}(h:qH a l=0):l.length=a.length:=by
 unfold qH at h
 split at h
 ·omega
 ·rename_i c;simpa using c
def yR (im:nY)(v s:Nat):cZ:=(im.getD v []).getD s yY
def hit (w:kM)(v s:Nat):Bool:=decide (w.volume=(v:Int))&&(decide (w.start≤(s:Int))&&decide ((s:Int) - w.start<w.data.length))
def mW (v s:Nat)(x:cZ)(w:kM):cZ:=if hit w v s then w.data.getD ((s:Int) - w.start).toNat yY else x
def BG (v s:Nat)(l:List kM)(x:cZ):cZ:=l.foldl (mW v s) x
theorem RH {im:nY}{w:kM}(h:sJ (dS im) w=0):0≤w.volume∧w.volume<(im.length:Int)∧0<w.data.length∧0≤w.start∧w.start+w.data.length≤((im.getD w.volume.toNat []).length:Int):=by
 unfold sJ at h
 have hl:(dS im).length=im.length:=by simp [dS]
 rw [hl] at h
 split at h
 ·omega
 ·rename_i h1
  split at h
  ·omega
  ·rename_i h2
   split at h
   ·omega
   ·rename_i h3
    have h4:w.volume.toNat<im.length:=by omega
    have e:(dS im).getD w.volume.toNat 0=((im.getD w.volume.toNat []).length:Int):=by
     simp only [dS,zR,zc,ZD h4,Zae,Zbh]
    rw [e] at h3
    exact ⟨by omega,by omega,by omega,by omega,by omega⟩
theorem ZG {l d:List cZ}{s k:Nat}(h:s+d.length≤l.length)(hk:k<l.length):(putAt l s d).getD k yY=if s≤k∧k<s+d.length then d.getD (k - s) yY else l.getD k yY:=by
 have h1:(l.take s).length=s:=by rw [Zaa];omega
 simp only [putAt,zR]
 by_cases c1:k<s
 ·rw [Zav,Zac (by omega),if_neg (by omega),Zb2 c1]
 ·by_cases c2:k<s+d.length
  ·rw [Zav,Zab (by omega),h1,Zac (by omega),if_pos (by omega)]
  ·rw [Zab (by simp;omega),if_neg (by omega)]
   simp only [zE,h1,ZaC]
   congr 2;omega
theorem aeJ {im:nY}{w:kM}{v s:Nat}(h:sJ (dS im) w=0)(hv:v<im.length)(hs:s<(im.getD v []).length):yR (EI im w) v s=mW v s (yR im v s) w:=by
 obtain ⟨h1,h2,h3,h4,h5⟩:=RH h
 unfold yR EI mW hit
 by_cases e:w.volume.toNat=v
 ·subst e
  have:(im.set w.volume.toNat (putAt (im.getD w.volume.toNat []) w.start.toNat w.data)).getD w.volume.toNat []=putAt (im.getD w.volume.toNat []) w.start.toNat w.data:=by
   simp [zR,zp,hv]
  rw [this,ZG (by omega) hs]
  have ev:decide (w.volume=((w.volume.toNat:Nat):Int))=true:=by simp;omega
  rw [ev,zz]
  by_cases c:w.start.toNat≤s∧s<w.start.toNat+w.data.length
  ·rw [if_pos c,decide_eq_true (show w.start≤(s:Int) by omega),decide_eq_true (show (s:Int) - w.start<w.data.length by omega)]
   simp only [zP,if_true]
   congr 1;omega
  ·rw [if_neg c]
   by_cases c1:w.start≤(s:Int)
   ·rw [decide_eq_true c1,decide_eq_false (show ¬ (s:Int) - w.start<w.data.length by omega)];rfl
   ·rw [decide_eq_false c1];rfl
 ·have:(im.set w.volume.toNat (putAt (im.getD w.volume.toNat []) w.start.toNat w.data)).getD v []=im.getD v []:=by
   simp [zR,zp,e]
  rw [this,decide_eq_false (show ¬ w.volume=(v:Int) by omega)]
  rfl
theorem RI {a b:nY}(h:dS a=dS b)(v:Nat):(a.getD v []).length=(b.getD v []).length∧a.length=b.length:=by
 obtain ⟨h1,h2⟩:=BF (a:=a) (b:=b) h
 refine ⟨?_,h1⟩
 by_cases hv:v<a.length
 ·rw [getD_lt hv,getD_lt (show v<b.length by omega)];exact h2 v hv (by omega)
 ·simp [zR,ZaO (show a.length≤v by omega),ZaO (show b.length≤v by omega)]
theorem RJ:∀ (l:List kM) (im:nY) (i:Nat),(ql (dS im) l i).2=0→∀ {v s:Nat},v<im.length→s<(im.getD v []).length→yR (l.foldl EI im) v s=BG v s l (yR im v s)
 |[],_,_,_,_,_,_,_=>rfl
 |w::l,im,i,h,v,s,hv,hs=>by
  unfold ql at h
  split at h
  ·rename_i h2;exact absurd h h2
  ·rename_i h2
   have h2:sJ (dS im) w=0:=by omega
   have e:=Rt h2
   obtain ⟨q1,q2⟩:=RI e v
   rw [Zbq,RJ l (EI im w) (i+1) (by rw [e];exact h) (by omega) (by omega),aeJ h2 hv hs]
   rfl
theorem WU {l:List bP}{s:Nat}:qG l s=true ↔ ∃ e∈l,JQ e s=true:=by simp [qG]
theorem JZ (v s:Nat):∀ (l:List kM) (x:cZ),(∀ w∈l,¬ hit w v s=true)→BG v s l x=x
 |[],_,_=>rfl
 |w::l,x,h=>by
  show BG v s l (mW v s x w)=x
  have:mW v s x w=x:=by unfold mW;rw [if_neg (h w (by simp))]
  rw [this]
  exact JZ v s l x fun y hy=>h y (by simp [hy])
theorem WV {p:Nat→Bool}{n:Nat}:∀ k,(∀ s,n≤s→p s=false)→ext p (n+k)=ext p n
 |0,_=>rfl
 |k+1,h=>by
  rw [show n+(k+1)=n+k+1 by omega,iI,h (n+k) (by omega)]
  exact WV k h
theorem aeK {p:Nat→Bool}{n m:Nat}(h:n≤m)(hp:∀ s,n≤s→p s=false):ext p m=ext p n:=by
 rw [show m=n+(m - n) by omega];exact WV _ hp
theorem pI {p q:Nat→Bool}{n:Nat}(h:∀ i,i<n→p i=q i):dZ p n=dZ q n:=by
 unfold dZ
 exact List.filter_congr fun x hx=>h x (Zbc.1 hx)
theorem jE (q:Nat→Bool)(j:Nat):(dZ q (j+1)).length=(dZ q j).length+if q j then 1 else 0:=by
 rw [Ad];cases q j<;>simp
theorem Aj (q:Nat→Bool){i:Nat}:∀ j,(dZ q i).length≤(dZ q (i+j)).length
 |0=>ze _
 |j+1=>by
  have:=Aj q (i:=i) j
  have:=jE q (i+j)
  rw [show i+(j+1)=i+j+1 by omega];omega
theorem aeL {p q:Nat→Bool}{m:Nat}(h:∀ i,p i=true→2*i<m→q (2*i)=true∨(2*i+1<m∧q (2*i+1)=true)):∀ j,2*j≤m+1→(dZ p j).length≤(dZ q (min m (2*j))).length
 |0,_=>ZaD _
 |j+1,hj=>by
  have ih:=aeL h j (by omega)
  have e0:min m (2*j)=2*j:=by omega
  rw [e0] at ih
  have s0:=jE q (2*j)
  have s1:=jE q (2*j+1)
  have sp:=jE p j
  have hh:=h j
  rcases ZaJ (2*j+1) m with c|c
  ·rw [show min m (2*(j+1))=2*j+1+1 by omega]
   cases hp:p j
   ·rw [hp] at sp;simp at sp;omega
   ·rw [hp] at sp
    simp at sp
    rcases hh hp (by omega) with a|⟨-,a⟩
    ·rw [a] at s0;simp at s0;omega
    ·rw [a] at s1;simp at s1;omega
  ·rw [show min m (2*(j+1))=2*j+1 by omega]
   cases hp:p j
   ·rw [hp] at sp;simp at sp;omega
   ·rw [hp] at sp
    simp at sp
    rcases hh hp (by omega) with a|⟨a,-⟩
    ·rw [a] at s0;simp at s0;omega
    ·omega
theorem WW (q:Nat→Bool):∀ j,(dZ (fun i=>q (i / 2)) (2*j)).length=2*(dZ q j).length
 |0=>rfl
 |j+1=>by
  have ih:=WW q j
  have s0:=jE (fun i=>q (i / 2)) (2*j)
  have s1:=jE (fun i=>q (i / 2)) (2*j+1)
  have sp:=jE q j
  rw [show 2*j / 2=j by omega] at s0
  rw [show (2*j+1) / 2=j by omega] at s1
  rw [show 2*(j+1)=2*j+1+1 by omega,s1,s0,sp,ih]
  cases q j<;>simp<;>omega
theorem aeM (q:Nat→Bool)(m:Nat):(dZ (fun i=>q (i / 2)) m).length≤2*(dZ q ((m+1) / 2)).length:=by
 rw [← WW]
 have:=Aj (fun i=>q (i / 2)) (i:=m) (2*((m+1) / 2) - m)
 rwa [show m+(2*((m+1) / 2) - m)=2*((m+1) / 2) by omega] at this
theorem aeN {l:List Int}{k i:Nat}(h:i<cd l.length (k+1)):(iq l (k+1)).getD i 0=upK (iq l k) i:=by
 have hl:i<(iq l (k+1)).length:=by rw [fE];exact h
 rw [zR,ZD hl]
 exact UZ hl
structure NoC (la lb:List Int)(q:Nat→Bool):Prop where
 len:lb.length=la.length
 l0:∀ i,i<la.length→vg la lb 0 i=q i
 l1:∀ k,k<gZ la.length→∀ i,i<cd la.length (k+1)→vg la lb (k+1) i=Zr la lb k i
theorem isS {α:Type}{o:Option α}(h:o.isSome=false):o=none:=by cases o with|none=>rfl|some _=>cases h
theorem alh {n:Nat}{a b:List cZ}(hab:a.length=b.length)(h:aew n a b=false):NoC (iL n a) (iL n b) (xQ n a b):=by
 have hl:(iL n b).length=(iL n a).length:=by rw [jB,jB,hab]
 unfold aew at h
 obtain ⟨h1,h2⟩:=Zco.1 h
 have h1:=Hr.1 (isS h1)
 have h2:=Hr.1 (isS h2)
 refine ⟨hl,fun i hi=>?_,fun k hk i hi=>?_⟩
 ·have c:=h1 i hi
  unfold Di at c
  have xa:(iL n a).getD i 0=hash (iV (wu n a i)):=by rw [zR,ZD hi,MH];rfl
  have xb:(iL n b).getD i 0=hash (iV (wu n b i)):=by rw [zR,ZD (show i<(iL n b).length by omega),MH];rfl
  have ed:vg (iL n a) (iL n b) 0 i=((iL n a).getD i 0 != (iL n b).getD i 0):=rfl
  rw [ed]
  cases hq:xQ n a b i with
  |true =>
   rw [hq,zz] at c
   show (!((iL n a).getD i 0==(iL n b).getD i 0))=true
   rw [c];rfl
  |false =>
   have e:wu n a i=wu n b i:=by
    unfold xQ at hq
    have:decide (wu n a i=wu n b i)=true:=by cases hd:decide (wu n a i=wu n b i)<;>rw [hd] at hq<;>first|rfl|cases hq
    exact of_decide_eq_true this
   rw [xa,xb,e]
   show (!(_==_))=false
   rw [beq_self_eq_true];rfl
 ·have c:=h2 k hk
  unfold U9 at c
  have c:=Hr.1 (isS c) i hi
  unfold U8 at c
  have ed:vg (iL n a) (iL n b) (k+1) i=((iq (iL n a) (k+1)).getD i 0 != (iq (iL n b) (k+1)).getD i 0):=rfl
  rw [ed]
  cases hq:Zr (iL n a) (iL n b) k i with
  |true =>
   rw [hq,zz] at c
   show (!(_==_))=true
   rw [c];rfl
  |false =>
   rw [aeN hi,aeN (by rw [hl];exact hi)]
   have hll:(iq (iL n b) k).length=(iq (iL n a) k).length:=by rw [fE,fE,hl]
   have nE:∀ j,vg (iL n a) (iL n b) k j=false→(iq (iL n a) k).getD j 0=(iq (iL n b) k).getD j 0:=fun j hj=>by
    unfold vg at hj
    exact bne_eq_false_iff_eq.1 hj
   have e:upK (iq (iL n a) k) i=upK (iq (iL n b) k) i:=by
    unfold upK
    unfold Zr at hq
    rw [hll]
    by_cases d:2*i+1<(iq (iL n a) k).length
    ·rw [if_pos d] at hq
     rw [if_pos d,if_pos d]
     obtain ⟨q1,q2⟩:=Zco.1 hq
     rw [nE _ q1,nE _ q2]
    ·rw [if_neg d] at hq
     rw [if_neg d,if_neg d]
     exact nE _ hq
   rw [e]
   show (!(_==_))=false
   rw [beq_self_eq_true];rfl
theorem ah9 (la lb:List Int)(k:Nat)(p:Nat→Bool)(i:Nat):qW la k p (gK lb k) i=(p i&&vg la lb k i):=by
 unfold qW gK vg
 rw [Zay]
 congr 1
 by_cases c:(iq lb k).getD i 0=(iq la k).getD i 0
 ·rw [decide_eq_false (fun h=>h c),c]
  show false=!(_==_)
  rw [beq_self_eq_true];rfl
 ·rw [decide_eq_true c]
  symm
  exact bne_iff_ne.2 fun h=>c h.symm
theorem ali {la lb:List Int}{k i:Nat}(hi:i<(iq la k).length)(h:vg la lb k i=true):Zr la lb k (i / 2)=true:=by
 unfold Zr
 rcases Nat.mod_two_eq_zero_or_one i with c|c
 ·have e:2*(i / 2)=i:=by omega
  rw [e]
  split
  ·rw [h];rfl
  ·exact h
 ·have e:2*(i / 2)+1=i:=by omega
  rw [e,if_pos hi,h,Bool.or_true]
theorem alj {la lb:List Int}{k i:Nat}(h:Zr la lb k i=true):vg la lb k (2*i)=true∨(2*i+1<(iq la k).length∧vg la lb k (2*i+1)=true):=by
 unfold Zr at h
 split at h
 ·next c =>
  rcases Bool.or_eq_true_iff.1 h with a|a
  ·exact .inl a
  ·exact .inr ⟨c,a⟩
 ·exact .inl h
theorem aia {la lb:List Int}{q:Nat→Bool}(hN:NoC la lb q){k i:Nat}(hk:k<gZ la.length)(hi:i<cd la.length k)(h:vg la lb k i=true):vg la lb (k+1) (i / 2)=true:=by
 have hi2:i / 2<cd la.length (k+1):=by show i / 2<(cd la.length k+1) / 2;omega
 rw [hN.l1 k hk _ hi2]
 exact ali (by rw [fE];exact hi) h
theorem alk (sz lf:Int){la lb:List Int}{q:Nat→Bool}(hN:NoC la lb q):∀ j,j≤gZ la.length→∀ i,i<cd la.length (gZ la.length - j)→qW la (gZ la.length - j) (sQ sz lf la lb j).2 (gK lb (gZ la.length - j)) i=vg la lb (gZ la.length - j) i
 |0,_,i,hi=>by
  rw [ah9]
  exact zz _
 |j+1,hj,i,hi=>by
  obtain ⟨k,hk⟩:∃ k,k=gZ la.length - (j+1):=⟨_,rfl⟩
  have hk1:gZ la.length - j=k+1:=by omega
  have ih:=alk sz lf hN j (by omega)
  rw [hk1] at ih
  rw [← hk] at hi ⊢
  rw [ah9]
  have ep:(sQ sz lf la lb (j+1)).2 i=qW la (gZ la.length - j) (sQ sz lf la lb j).2 (gK lb (gZ la.length - j)) (i / 2):=rfl
  rw [ep,hk1]
  have hi2:i / 2<cd la.length (k+1):=by show i / 2<(cd la.length k+1) / 2;omega
  rw [ih _ hi2]
  cases hd:vg la lb k i with
  |false=>exact Bool.and_false _
  |true=>rw [aia hN (by omega) hi hd];rfl
def cF (la lb:List Int)(k:Nat):Nat:=(dZ (vg la lb k) (cd la.length k)).length
theorem aib {la lb:List Int}{q:Nat→Bool}(hN:NoC la lb q):∀ k,k≤gZ la.length→cF la lb k≤(dZ q la.length).length
 |0,_=>by
  unfold cF
  rw [show cd la.length 0=la.length from rfl,pI fun i hi=>hN.l0 i hi];exact ze _
 |k+1,hk=>by
  have ih:=aib hN k (by omega)
  refine Zaf ?_ ih
  unfold cF
  have e:dZ (vg la lb (k+1)) (cd la.length (k+1))=dZ (Zr la lb k) (cd la.length (k+1)):=pI fun i hi=>hN.l1 k (by omega) i hi
  rw [e]
  have hl:(iq la k).length=cd la.length k:=fE _ _
  have:=aeL (p:=Zr la lb k) (q:=vg la lb k) (m:=cd la.length k) (fun i hp _=>by
   rw [← hl];exact alj hp) ((cd la.length k+1) / 2) (by omega)
  rw [show min (cd la.length k) (2*((cd la.length k+1) / 2))=cd la.length k by omega] at this
  exact this
theorem WX {la lb:List Int}{q:Nat→Bool}(hN:NoC la lb q):∀ k,k≤gZ la.length→dZ (vg la lb k) (cd la.length k)=[]→dZ q la.length=[]
 |0,_,h=>by
  rw [← pI fun i hi=>hN.l0 i hi];exact h
 |k+1,hk,h=>by
  refine WX hN k (by omega) ?_
  cases hx:dZ (vg la lb k) (cd la.length k) with
  |nil=>rfl
  |cons i r =>
   exfalso
   have hm:i∈dZ (vg la lb k) (cd la.length k):=by rw [hx];simp
   obtain ⟨m1,m2⟩:=mQ.1 hm
   have:i / 2∈dZ (vg la lb (k+1)) (cd la.length (k+1)):=mQ.2 ⟨by show i / 2<(cd la.length k+1) / 2;omega,aia hN (by omega) m1 m2⟩
   rw [h] at this
   simp at this
theorem WY (sz lf:Int)(la:List Int)(w:nT)(k:Nat)(p:Nat→Bool)(g:Int→Int):(vk sz lf la w k p g).sent=w.sent+((dZ p (cd la.length k)).length:Int):=by
 unfold vk
 split
 ·rfl
 ·split<;>rfl
theorem WZ (sz lf:Int){la lb:List Int}{q:Nat→Bool}(hN:NoC la lb q)(h1:1≤la.length∧la.length≤4096):∀ j,j≤gZ la.length→(sQ sz lf la lb (j+1)).1.sent+(bS (dZ q la.length).length la.length (gZ la.length - j):Int)≤(bS (dZ q la.length).length la.length (gZ la.length):Int)+1
 |0,_=>by
  have e:(sQ sz lf la lb 1).1.sent=(0:Int)+((dZ (fun _=>true) (cd la.length (gZ la.length))).length:Int):=WY ..
  have:=jD (fun _=>true) (cd la.length (gZ la.length))
  rw [(jk h1.1 h1.2).1] at this e
  rw [e,Nat.sub_zero];omega
 |j+1,hj=>by
  have ih:=WZ sz lf hN h1 j (by omega)
  obtain ⟨k,hk⟩:∃ k,k=gZ la.length - (j+1):=⟨_,rfl⟩
  have hk1:gZ la.length - j=k+1:=by omega
  have e:(sQ sz lf la lb (j+1+1)).1.sent=(sQ sz lf la lb (j+1)).1.sent+((dZ (sQ sz lf la lb (j+1)).2 (cd la.length (gZ la.length - (j+1)))).length:Int):=WY ..
  rw [e,← hk]
  rw [hk1] at ih
  have ep:dZ (sQ sz lf la lb (j+1)).2 (cd la.length k)=dZ (fun i=>vg la lb (k+1) (i / 2)) (cd la.length k):=pI fun i hi=>by
   have hi2:i / 2<cd la.length (k+1):=by show i / 2<(cd la.length k+1) / 2;omega
   have:=alk sz lf hN j (by omega) (i / 2) (by rw [hk1];exact hi2)
   rw [hk1] at this
   rw [← this,← hk1];rfl
  rw [ep]
  have b1:=jD (fun i=>vg la lb (k+1) (i / 2)) (cd la.length k)
  have b2:=aeM (vg la lb (k+1)) (cd la.length k)
  have b3:(dZ (vg la lb (k+1)) ((cd la.length k+1) / 2)).length=cF la lb (k+1):=rfl
  have b4:=aib hN (k+1) (by omega)
  have b5:cF la lb (k+1)≤cd la.length (k+1):=jD _ _
  have eb:bS (dZ q la.length).length la.length (k+1)=bS (dZ q la.length).length la.length k+min (cd la.length k) (2*min (dZ q la.length).length (cd la.length (k+1))):=rfl
  omega
theorem aeO (d n:Nat):∀ i,1≤bS d n i
 |0=>ze _
 |i+1=>by
  have:=aeO d n i
  show 1≤bS d n i+_
  omega
theorem W9 {sz lf:Nat}{q:Nat→Bool}{n:Nat}(hz:sz≤4096)(hl:1≤lf)(hn:∀ i,i<n ↔ i*lf<sz):U5 (jJ (sz:Int) (lf:Int) (dZ q n))=IK (sz:Int) (lf:Int) (dZ q n)∧IK (sz:Int) (lf:Int) (dZ q n)=ext (fun s=>q (s / lf)) sz:=by
 have hsn:sz≤n*lf:=by
  rcases ZaJ (n*lf) sz with c|c
  ·exact absurd ((hn n).2 c) (Nat.lt_irrefl _)
  ·exact c
 have e1:=aer (sz:=sz) hl q n fun i hi=>(hn i).1 hi
 rw [show min sz (n*lf)=sz by omega] at e1
 refine ⟨?_,e1⟩
 rw [e1,akP]
 have e2:ext (qG (jJ (sz:Int) (lf:Int) (dZ q n))) 4096=ext (fun s=>decide (s<sz)&&q (s / lf)) 4096:=pG fun s _=>by
  have key:qG (jJ (sz:Int) (lf:Int) (dZ q n)) s=true ↔ (s<sz∧q (s / lf)=true):=by
   unfold qG jJ
   rw [List.any_map,ZcO]
   have hcs:∀ i,(Function.comp (fun e=>JQ e s) (JU (sz:Int) (lf:Int))) i=JQ (JU (sz:Int) (lf:Int) i) s:=fun _=>rfl
   have hin:∀ i,i*lf<sz→(JQ (JU (sz:Int) (lf:Int) i) s=true ↔ (i*lf≤s∧s<sz∧s<i*lf+lf)):=fun i hi=>by
    unfold JQ JU
    have em:(i:Int)*(lf:Int)=((i*lf:Nat):Int):=by rw [ZbV]
    simp only [em]
    generalize i*lf=m at *
    rw [ZZ,ZZ,decide_eq_true_eq,decide_eq_true_eq,decide_eq_true_eq]
    split<;>omega
   constructor
   ·rintro ⟨i,hi,hx⟩
    obtain ⟨i1,i2⟩:=mQ.1 hi
    rw [hcs,hin i ((hn i).1 i1)] at hx
    have:s / lf=i:=Nat.div_eq_of_lt_le hx.1 (by rw [Zau,Nat.one_mul];omega)
    exact ⟨hx.2.1,by rw [this];exact i2⟩
   ·rintro ⟨h1,h2⟩
    have hd:s / lf*lf≤s:=Nat.div_mul_le_self _ _
    have hm:s<s / lf*lf+lf:=by
     have:=Nat.lt_mul_div_succ s (show 0<lf by omega)
     rw [Nat.mul_add,Nat.mul_one,Nat.mul_comm] at this
     exact this
    refine ⟨s / lf,mQ.2 ⟨(hn _).2 (by omega),h2⟩,?_⟩
    rw [hcs,hin _ (by omega)]
    exact ⟨hd,h1,hm⟩
  cases hc:(decide (s<sz)&&q (s / lf)) with
  |true =>
   rw [ZZ,decide_eq_true_eq] at hc
   exact key.2 hc
  |false =>
   cases hi:qG (jJ (sz:Int) (lf:Int) (dZ q n)) s with
   |false=>rfl
   |true =>
    obtain ⟨k1,k2⟩:=key.1 hi
    rw [decide_eq_true k1,k2] at hc
    cases hc
 rw [e2,aeK hz fun s hs=>by rw [decide_eq_false (by omega),Bool.false_and]]
 exact pG fun s hs=>by rw [decide_eq_true hs,zz]
theorem alm {sz lf:Nat}{la lb:List Int}{q:Nat→Bool}(hN:NoC la lb q)(hT:U2 (sz:Int) (lf:Int) la)(hn:∀ i,i<la.length ↔ i*lf<sz){J:Nat}(J1:1≤J)(J2:J≤gZ la.length+1)(hf:(sQ (sz:Int) (lf:Int) la lb J).1.fin=true)(hI:∀ i,i<J→mX (sz:Int) (lf:Int) la (sQ (sz:Int) (lf:Int) la lb i).1 (gZ la.length - i) (sQ (sz:Int) (lf:Int) la lb i).2) :
  (sQ (sz:Int) (lf:Int) la lb J).1.found=IK (sz:Int) (lf:Int) (dZ q la.length)∧(sQ (sz:Int) (lf:Int) la lb J).1.sent≤(bS (dZ q la.length).length la.length (gZ la.length):Int):=by
 obtain ⟨m,rfl⟩:∃ m,J=m+1:=⟨J - 1,by omega⟩
 have hs:=hT.s
 have hlf:=hT.f
 have hb:=WZ (sz:Int) (lf:Int) hN hT.len m (by omega)
 have hbp:=aeO (dZ q la.length).length la.length (gZ la.length - m)
 refine ⟨?_,by omega⟩
 have hw:=hI m (by omega)
 have hq:=alk (sz:Int) (lf:Int) hN m (by omega)
 have es:(sQ (sz:Int) (lf:Int) la lb (m+1)).1=vk (sz:Int) (lf:Int) la (sQ (sz:Int) (lf:Int) la lb m).1 (gZ la.length - m) (sQ (sz:Int) (lf:Int) la lb m).2 (gK lb (gZ la.length - m)):=rfl
 rw [es] at hf ⊢
 have eq:=pI hq
 have hkd:gZ la.length - m≤gZ la.length:=by omega
 generalize gZ la.length - m=k at *
 unfold vk at hf ⊢
 by_cases k0:k=0
 ·subst k0
  rw [if_pos rfl]
  dsimp only
  rw [eq]
  have e0:dZ (vg la lb 0) (cd la.length 0)=dZ q la.length:=pI fun i hi=>hN.l0 i hi
  rw [e0]
  exact (W9 (by omega) (by omega) hn).1
 ·rw [if_neg k0] at hf ⊢
  by_cases c:dZ (qW la k (sQ (sz:Int) (lf:Int) la lb m).2 (gK lb k)) (cd la.length k)=[]
  ·rw [if_pos c]
   show (sQ (sz:Int) (lf:Int) la lb m).1.found=_
   rw [hw.found]
   rw [eq] at c
   rw [WX hN k hkd c];rfl
  ·rw [if_neg c] at hf
   have:=hw.fin
   have hf:(sQ (sz:Int) (lf:Int) la lb m).1.fin=true:=hf
   rw [this] at hf
   cases hf
theorem aln {n:Nat}{a b:List cZ}(hn:1≤n){s:Nat}(h:a.getD s yY≠b.getD s yY):xQ n a b (s / n)=true:=by
 unfold xQ
 rw [decide_eq_false fun e=>h ?_]
 ·rfl
 ·have hx:∀ l:List cZ,(wu n l (s / n))[s % n]?=l[s]?:=fun l=>by
   unfold wu
   rw [Zb2 (Nat.mod_lt _ hn),ZaC]
   congr 1
   rw [Nat.mul_comm];exact Nat.div_add_mod s n
  rw [zR,zR,← hx a,← hx b,e]
theorem RN {size:Int}:∀ (l:List bP) (nx:Int),kV size nx l=0→∀ e∈l,0≤e.start∧1≤e.count∧e.start+e.count≤size
 |[],_,_,e,he=>by cases he
 |x::l,nx,h,e,he=>by
  unfold kV at h
  split at h
  ·omega
  ·split at h
   ·omega
   ·split at h
    ·omega
    ·rcases ZaK.1 he with rfl|he
     ·omega
     ·exact RN l _ h e he
theorem Xa {l:List bP}{size:Int}(h:sU l size=0):∀ e∈l,0≤e.start∧1≤e.count∧e.start+e.count≤size:=by
 unfold sU at h
 split at h
 ·omega
 ·exact RN l 0 h
theorem Vl {im:nY}{l:List (List bP)}(h:qH im l=0){i:Nat}(hi:i<l.length)(hj:i<im.length):sU l[i] (im[i].length:Int)=0:=by
 unfold qH at h
 split at h
 ·omega
 ·split at h
  ·omega
  ·rename_i c
   have h2:(Vk im l)[i]?=some (decide (sU l[i] (im[i].length:Int)=0)):=by simp [Vk,oq,hi,hj]
   cases hd:decide (sU l[i] (im[i].length:Int)=0) with
   |true=>simpa using hd
   |false =>
    rw [hd] at h2
    exact absurd (Zc7.2 (Zad h2)) c
def Nj (im:nY)(v:Nat)(e:bP):kM:=⟨v,e.start,((im.getD v []).drop e.start.toNat).take e.count.toNat⟩
def wrV (im:nY)(v:Nat)(x:List bP):List kM:=x.map (Nj im v)
def Xb (im:nY)(l:List (List bP))(n:Nat):List kM:=(Zam n).flatMap fun v=>wrV im v (l.getD v [])
def HY (im:nY)(l:List (List bP)):List kM:=Xb im l l.length
def wrE (im:nY)(l:List (List bP)):Int:=if iy im≠0 then iy im else qH im l
def wrO (im:nY)(l:List (List bP)):List kM:=if wrE im l=0 then HY im l else []
theorem H6 (im:nY)(l:List (List bP))(n:Nat):Xb im l (n+1)=Xb im l n++wrV im n (l.getD n []):=by simp [Xb,Zbe]
def yS (v:Nat)(x:List bP):List (List PV):=x.map fun e=>[.int .i64 (v:Int),aZ e]
def xK (l:List (List bP))(n:Nat):List (List PV):=(Zam n).flatMap fun v=>yS v (l.getD v [])
theorem BH (l:List (List bP))(n:Nat):xK l (n+1)=xK l n++yS n (l.getD n []):=by simp [xK,Zbe]
theorem ahE {l:List (List bP)}{v:Nat}{x:List bP}(hl:x.length≤lim){ys:List (List PV)}
  {st:St} (h:st.head [0,3,4,7,8,9,13,14,15,16] st.boxes.length=some ⟨[.lV,.any,.any,.pv (.int .i64 v),.pv (.list 2 (x.map aZ)),.any,.any,.pv (.list 1 (l.map jf)),.pv (.int .i64 l.length),.pv (.int .i64 v),.any,.any,.any,.pv (.list 2 (x.map aZ)),.pv (.list 2 (x.map aZ)),.pv (.int .i64 x.length),.pv (.int .i64 (0:Nat)),.any,.any,.any,.any,.any,.any,.any,.any,.any,.any],[],ys,some none⟩) :
  den env FZ st=some (.normal,⟨[.lV,.any,.any,.any,.any,.any,.any,.pv (.list 1 (l.map jf)),.pv (.int .i64 l.length),.pv (.int .i64 v),.any,.any,.any,.any,.any,.any,.any,.any,.any,.any,.any,.any,.any,.any,.any,.any,.any],[],ys++yS v x,some none⟩):=by
 unfold FZ
 refine aY (env:=env) x.length (fun i=>⟨[.lV,.any,.any,.pv (.int .i64 v),.pv (.list 2 (x.map aZ)),.any,.any,.pv (.list 1 (l.map jf)),.pv (.int .i64 l.length),.pv (.int .i64 v),.any,.any,.any,.pv (.list 2 (x.map aZ)),.pv (.list 2 (x.map aZ)),.pv (.int .i64 x.length),.pv (.int .i64 i),.any,.any,.any,.any,.any,.any,.any,.any,.any,.any],[],ys++yS v (x.take i),some none⟩)
  (fun _=>some (.normal,⟨[.lV,.any,.any,.any,.any,.any,.any,.pv (.list 1 (l.map jf)),.pv (.int .i64 l.length),.pv (.int .i64 v),.any,.any,.any,.any,.any,.any,.any,.any,.any,.any,.any,.any,.any,.any,.any,.any,.any],[],ys++yS v x,some none⟩)) (by rw [h];simp [yS]) (fun _=>rfl) (fun _=>rfl) ?_ ?_
 ·intro i rb hi ih
  have hi1:=bC hi hl
  have F1:((i:Int)<(x.length:Int))=True:=eq_true (by omega)
  have P:∀ x:bP,part [PV.int .i64 x.start,.int .i64 x.count] 0 (some 2)=some (.agg [.int .i64 x.start,.int .i64 x.count]):=fun x=>rfl
  have e2:ys++yS v (x.take (i+1))=ys++yS v (x.take i)++[[.int .i64 (v:Int),.agg [.int .i64 x[i].start,.int .i64 x[i].count]]]:=by
   rw [List.take_succ_eq_append_getElem hi];simp only [yS,Zag,Zai,Zar,Zav,aZ]
  simp only [FY,F1,P,aZ,au hi,zc,ZD hi,Zae,zd,zj,bJ,reduceCtorEq,Nat.reduceEqDiff,Nat.reduceAdd,Nat.reduceLT,Nat.reduceLeDiff,Z6]
  rw [ih _ (by simp only [hi1];rw [e2];rfl)]
 ·intro rb
  simp only [FY,Zat,bJ,reduceCtorEq,Nat.reduceEqDiff,Nat.reduceAdd,Nat.reduceLT,Nat.reduceLeDiff,Z6]
  rfl
theorem aeP {l:List (List bP)}(hl:l.length≤lim)(hr:∀ x∈l,x.length≤lim)
  {st:St} (h:st.head [0,7,8,9] st.boxes.length=some ⟨[.lV,.any,.any,.any,.any,.any,.any,.pv (.list 1 (l.map jf)),.pv (.int .i64 l.length),.pv (.int .i64 (0:Nat)),.any,.any,.any,.any,.any,.any,.any,.any,.any,.any,.any,.any,.any,.any,.any,.any,.any],[],xK l 0,some none⟩) :
  den env Gg st=some (.normal,⟨[.any,.any,.any,.any,.any,.any,.any,.any,.any,.any,.any,.any,.any,.any,.any,.any,.any,.any,.any,.any,.any,.any,.any,.any,.any,.any,.any],[],xK l l.length,some none⟩):=by
 unfold Gg
 refine aY (env:=env) l.length (fun i=>⟨[.lV,.any,.any,.any,.any,.any,.any,.pv (.list 1 (l.map jf)),.pv (.int .i64 l.length),.pv (.int .i64 i),.any,.any,.any,.any,.any,.any,.any,.any,.any,.any,.any,.any,.any,.any,.any,.any,.any],[],xK l i,some none⟩) (fun _=>some (.normal,⟨[.any,.any,.any,.any,.any,.any,.any,.any,.any,.any,.any,.any,.any,.any,.any,.any,.any,.any,.any,.any,.any,.any,.any,.any,.any,.any,.any],[],xK l l.length,some none⟩)) h (fun _=>rfl) (fun _=>rfl) ?_ ?_
 ·intro i rb hi ih
  have hi1:=bC hi hl
  have F1:((i:Int)<(l.length:Int))=True:=eq_true (by omega)
  have e2:l.getD i []=l[i]:=by simp [hi]
  rw [BH,e2] at ih
  simp only [Gf,F1,jf,au hi,zc,ZD hi,Zae,Z3,bJ,reduceCtorEq,Nat.reduceEqDiff,Nat.reduceAdd,Nat.reduceLT,Nat.reduceLeDiff,Z6]
  rw [ahE (l:=l) (v:=i) (x:=l[i]) (hr _ (Zap hi))]
  rotate_left
  ·rfl
  simp only [bJ,reduceCtorEq,Nat.reduceEqDiff,Nat.reduceAdd,Nat.reduceLT,Nat.reduceLeDiff,Z6]
  rw [ih _ (by simp only [hi1];rfl)]
 ·intro rb
  simp only [Gf,Zat,bJ,reduceCtorEq,Nat.reduceEqDiff,Nat.reduceAdd,Nat.reduceLT,Nat.reduceLeDiff,Z6]
  rfl
theorem ahF {l:List (List bP)}(hl:l.length≤lim)(hr:∀ x∈l,x.length≤lim):iter env 209 [.cu [.list 1 (l.map jf)] 0] none=some (xK l l.length):=by
 rw [nK ajF rfl rfl]
 simp only [Qg,vZ,aN,aU,aJ,aT,aF,aH,aK,aP,Nat.reduceAdd,Nat.reduceSub]
 simp only [Z3,bJ,reduceCtorEq,Nat.reduceEqDiff,Nat.reduceAdd,Nat.reduceLT,Nat.reduceLeDiff,Z6]
 rw [aeP hl hr]
 rotate_left
 ·rfl
 simp only [xJ,bJ,reduceCtorEq,Nat.reduceEqDiff,Nat.reduceAdd,Nat.reduceLT,Nat.reduceLeDiff,Z6]
theorem alo {l:List PV}:cal env 132 [.list 1 l]=some [(.func 209 [.cu [.list 1 l] 0],false)]:=by
 rw [aA ajj rfl];simp only [Py];simp only [start,aN,aU,aJ,aT,aF,aH,aK,aP,Nat.reduceAdd,Nat.reduceSub]
 simp only [bJ,reduceCtorEq,Nat.reduceEqDiff,Nat.reduceAdd,Nat.reduceLT,Nat.reduceLeDiff,Z6]
def wF (im:nY)(acc:List kM):List PV→List kM
 |[.int _ v,.agg [.int _ s,.int _ c]]=>acc++[Nj im v.toNat ⟨s,c⟩]
 |_=>acc
theorem J6 (im:nY)(v:Nat):∀ (x:List bP) (acc:List kM),(yS v x).foldl (wF im) acc=acc++wrV im v x
 |[],acc=>by simp [yS,wrV]
 |e::x,acc=>by
  have h:=J6 im v x (acc++[Nj im v e])
  have e2:yS v (e::x)=[.int .i64 (v:Int),aZ e]::yS v x:=rfl
  have e3:wF im acc [.int .i64 (v:Int),aZ e]=acc++[Nj im v e]:=by simp [wF,aZ]
  rw [e2,Zbq,e3,h]
  simp [wrV]
theorem J7 (im:nY)(l:List (List bP)):∀ n,(xK l n).foldl (wF im) []=Xb im l n
 |0=>by simp [xK,Xb]
 |n+1=>by rw [BH,ZbM,J7 im l n,J6,H6]
theorem aeQ (im:nY)(l:List (List bP))(n:Nat):(xK l n).length=(Xb im l n).length:=by
 induction n with
 |zero=>simp [xK,Xb]
 |succ n ih=>rw [BH,H6,zE,zE,ih];simp [yS,wrV]
theorem aeR {l:List (List bP)}{n:Nat}{x:List PV}(h:x∈xK l n):∃ v,v<n∧∃ e∈l.getD v [],x=[.int .i64 (v:Int),aZ e]:=by
 simp only [xK,ZcP,Zbc] at h
 obtain ⟨v,hv,hx⟩:=h
 simp only [yS,ZaS] at hx
 obtain ⟨e,he,rfl⟩:=hx
 exact ⟨v,hv,e,he,rfl⟩
theorem anb {im:nY}{l:List (List bP)}(hi:im.length≤lim)(hri:∀ v∈im,v.length≤1000000)(ho:∀ x∈l,uD x)(hr:∀ x∈l,x.length≤10000)(hl:l.length≤lim)(hL:qH im l=0→(HY im l).length≤1000000) :
  cal env 43 [.list 1 (im.map eP),.list 1 (l.map jf)]=some [(.list 3 ((wrO im l).map DV),true),(.int .i64 (wrE im l),false)]:=by
 have e1:=amQ hi
 have e2:=alf (im:=im) ho hr hl
 have e3:=alo (l:=l.map jf)
 unfold wrO wrE
 by_cases c1:iy im=0
 ·rw [c1] at e1
  have n1:(if iy im≠0 then iy im else qH im l)=qH im l:=if_neg (by simpa using c1)
  rw [n1]
  have Z:((0:Int) != 0)=false:=rfl
  by_cases c2:qH im l=0
  ·have hL:=hL c2
   have hfl:=Ai c2
   rw [c2] at e2
   rw [c2]
   have hlim:lim=1073741824:=rfl
   have hvl:(xK l l.length).length=(HY im l).length:=aeQ im l l.length
   rw [aA adq rfl];simp only [UQ];simp only [start,aN,aU,aJ,aT,aF,aH,aK,aP,Nat.reduceAdd,Nat.reduceSub]
   simp only [e1,e2,e3,Z,bJ,reduceCtorEq,Nat.reduceEqDiff,Nat.reduceAdd,Nat.reduceLT,Nat.reduceLeDiff,Z6]
   rw [Zg (fun acc=>[⟨false,[.pv (.list 1 (im.map eP))]⟩,⟨false,[.row 3 (acc.map DV)]⟩]) (wF im) (fun j acc=>acc.length≤j) [] rfl (ahF hl (fun x hx=>Zaf (hr x hx) (by decide))) rfl (ZaD _) ?_]
   ·have hz:(xK l l.length).foldl (wF im) []=HY im l:=J7 im l l.length
    simp only [hz,xJ,bJ,reduceCtorEq,Nat.reduceEqDiff,Nat.reduceAdd,Nat.reduceLT,Nat.reduceLeDiff,Z6]
   ·intro j acc x hb hx sl0
    have hj:=(zb.1 hx).1
    obtain ⟨v,hv,e,he,rfl⟩:=aeR (Zad hx)
    have hvi:v<im.length:=by omega
    have e4:l.getD v []=l[v]:=by simp [hv]
    rw [e4] at he
    obtain ⟨q1,q2,q3⟩:=Xa (Vl c2 hv hvi) e he
    have aqP:=hri _ (Zap hvi)
    have F1:(acc.length+1≤lim)=True:=eq_true (by omega)
    have W:IntKind.i64.wrap (e.start+e.count)=e.start+e.count:=aI (by omega)
    have B1:(0≤e.start∧e.start≤((e.start+e.count).toNat:Int))=True:=eq_true (by omega)
    have B2:(0≤e.start+e.count∧e.start+e.count≤(im[v].length:Int))=True:=eq_true (by omega)
    have hcl:=aj1 (es:=((im[v].map bH).drop e.start.toNat).take ((e.start+e.count).toNat - e.start.toNat)) (by simp;omega)
    have e5:wF im acc [.int .i64 (v:Int),aZ e]=acc++[Nj im v e]:=by simp [wF,aZ]
    have e6:(e.start+e.count).toNat - e.start.toNat=e.count.toNat:=by omega
    have e7:((im[v].map bH).drop e.start.toNat).take e.count.toNat=((im[v].drop e.start.toNat).take e.count.toNat).map bH:=by simp [List.map_take,List.map_drop]
    have e8:im.getD v []=im[v]:=by simp [hvi]
    rw [e6,e7] at hcl
    rw [e5]
    refine ⟨by simp;omega,?_⟩
    refine ⟨?_,?_⟩
    rotate_left
    ·simp only [VX,VY,F1,W,B1,B2,e6,e7,hcl,eP,aZ,DV,Nj,e8,au hvi,zc,ZD hvi,Zae,Z3,Zag,Zai,Zar,xJ,bJ,reduceCtorEq,Nat.reduceEqDiff,Nat.reduceAdd,Nat.reduceLT,Nat.reduceLeDiff,Z6]
     rfl
  ·have G:(qH im l != 0)=true:=by simp [c2]
   rw [if_neg c2]
   rw [aA adq rfl];simp only [UQ];simp only [start,aN,aU,aJ,aT,aF,aH,aK,aP,Nat.reduceAdd,Nat.reduceSub]
   simp only [e1,e2,G,Z,bJ,reduceCtorEq,Nat.reduceEqDiff,Nat.reduceAdd,Nat.reduceLT,Nat.reduceLeDiff,Z6]
   all_goals rfl
 ·have G:(iy im != 0)=true:=by simp [c1]
  have n1:(if iy im≠0 then iy im else qH im l)=iy im:=if_pos c1
  rw [n1,if_neg c1]
  rw [aA adq rfl];simp only [UQ];simp only [start,aN,aU,aJ,aT,aF,aH,aK,aP,Nat.reduceAdd,Nat.reduceSub]
  simp only [e1,G,bJ,reduceCtorEq,Nat.reduceEqDiff,Nat.reduceAdd,Nat.reduceLT,Nat.reduceLeDiff,Z6]
  all_goals rfl
def anc (x w:kM):Prop:=x.volume<w.volume∨x.volume=w.volume∧x.start+x.data.length<w.start
def ane (im:nY)(l:List kM):Prop:=(∀ w∈l,zS im w=0)∧∀ i (h:i+1<l.length),anc l[i] l[i+1]
theorem ahG {im:nY}{w:kM}(h:zS im w=0):0≤w.volume∧w.volume<im.length∧0≤w.start∧w.start+w.data.length≤((im.getD w.volume.toNat []).length:Int):=by
 unfold zS at h
 split at h
 ·omega
 ·split at h
  ·omega
  ·split at h
   ·omega
   ·omega
theorem aeS {im:nY}(hr:∀ v∈im,v.length≤1000000)(v:Nat):(im.getD v []).length≤1000000:=by
 by_cases h:v<im.length
 ·have e:im.getD v []=im[v]:=by simp [h]
  rw [e];exact hr _ (Zap h)
 ·have e:im.getD v []=[]:=by simp [zR,ZaO (Nat.le_of_not_lt h)]
  rw [e];simp
theorem H7 {size:Int}:∀ (l:List bP) (nx:Int),kV size nx l=0→(∀ e∈l,nx≤e.start∧1≤e.count)∧l.Pairwise (fun a b=>a.start+a.count<b.start)
 |[],_,_=>⟨fun e he=>(by cases he),Zdh.nil⟩
 |x::l,nx,h=>by
  unfold kV at h
  split at h
  ·omega
  ·split at h
   ·omega
   ·split at h
    ·omega
    ·obtain ⟨h1,h2⟩:=H7 l _ h
     refine ⟨fun e he=>?_,List.pairwise_cons.2 ⟨fun e he=>by have:=h1 e he;omega,h2⟩⟩
     rcases ZaK.1 he with rfl|he
     ·omega
     ·have:=h1 e he;omega
theorem ZH {l:List bP}{size:Int}(h:sU l size=0):l.Pairwise (fun a b=>a.start+a.count<b.start):=by
 unfold sU at h
 split at h
 ·omega
 ·exact (H7 l 0 h).2
theorem Ak {im:nY}{v:Nat}{e:bP}(h0:0≤e.start)(h1:1≤e.count)(h2:e.start+e.count≤((im.getD v []).length:Int)):(((Nj im v e).data.length:Nat):Int)=e.count:=by
 simp only [Nj,Zaa,ZaL];omega
theorem DJ {im:nY}{l:List (List bP)}{n:Nat}{w:kM}(h:w∈Xb im l n):∃ v,v<n∧∃ e∈l.getD v [],w=Nj im v e:=by
 simp only [Xb,ZcP,Zbc,wrV,ZaS] at h
 obtain ⟨v,hv,e,he,rfl⟩:=h
 exact ⟨v,hv,e,he,rfl⟩
theorem J8 {im:nY}{l:List (List bP)}(h:qH im l=0){v:Nat}(hv:v<l.length){e:bP}(he:e∈l.getD v []):0≤e.start∧1≤e.count∧e.start+e.count≤((im.getD v []).length:Int):=by
 have hf:=Ai h
 have e1:l.getD v []=l[v]:=by simp [hv]
 have e2:im.getD v []=im[v]:=by simp [show v<im.length by omega]
 rw [e1] at he
 rw [e2]
 exact Xa (Vl h hv (by omega)) e he
theorem ahH {im:nY}{l:List (List bP)}(h:qH im l=0):ane im (HY im l):=by
 have hf:=Ai h
 refine ⟨fun w hw=>?_,?_⟩
 ·obtain ⟨v,hv,e,he,rfl⟩:=DJ hw
  obtain ⟨q1,q2,q3⟩:=J8 h hv he
  have q4:=Ak q1 q2 q3
  have e1:(Nj im v e).volume=(v:Int):=rfl
  have e2:(Nj im v e).start=e.start:=rfl
  unfold zS
  rw [if_neg (by rw [e1];omega),if_neg (by omega),if_neg (by rw [e1,e2,q4,Zay];omega)]
 ·have hp:(HY im l).Pairwise anc:=by
   unfold HY Xb
   rw [List.pairwise_flatMap]
   refine ⟨fun v hv=>?_,?_⟩
   ·have hv:=Zbc.1 hv
    unfold wrV
    rw [List.pairwise_map]
    have e1:l.getD v []=l[v]:=by simp [hv]
    have hp:=ZH (Vl h hv (by omega))
    rw [e1]
    refine Zdh.imp_of_mem ?_ hp
    intro a b ha hb hab
    rw [← e1] at ha
    obtain ⟨q1,q2,q3⟩:=J8 h hv ha
    have q4:=Ak q1 q2 q3
    refine .inr ⟨rfl,?_⟩
    rw [q4]
    exact hab
   ·refine Zdh.imp ?_ List.pairwise_lt_range
    intro a b hab x hx y hy
    obtain ⟨_,_,rfl⟩:=ZaS.1 hx
    obtain ⟨_,_,rfl⟩:=ZaS.1 hy
    exact .inl (show ((a:Nat):Int)<(b:Int) by omega)
  exact fun i hi=>List.pairwise_iff_getElem.1 hp i (i+1) (by omega) hi (by omega)
theorem Xc {im:nY}{l:List (List bP)}{k:Nat}(hr:∀ x∈l,x.length≤k):∀ n,n≤l.length→(Xb im l n).length≤k*n
 |0,_=>by simp [Xb]
 |n+1,h=>by
  have ih:=Xc (im:=im) hr n (by omega)
  have h2:=hr _ (Zap (show n<l.length by omega))
  rw [H6,zE,show l.getD n []=l[n] by simp [show n<l.length by omega],Nat.mul_add,Nat.mul_one]
  simp only [wrV,Z3]
  omega
theorem J9 (sz:List Int):∀ (l:List kM) (i:Nat),(∀ w∈l,sJ sz w=0)→(ql sz l i).2=0
 |[],_,_=>rfl
 |w::l,i,h=>by
  unfold ql
  rw [if_neg (by rw [h w (by simp)];simp)]
  exact J9 sz l (i+1) fun x hx=>h x (by simp [hx])
theorem RP (v s:Nat)(B:cZ):∀ (l:List kM) (x:cZ),(∀ w∈l,hit w v s=true→w.data.getD ((s:Int) - w.start).toNat yY=B)→(x=B∨∃ w∈l,hit w v s=true)→BG v s l x=B
 |[],x,_,h=>by
  rcases h with h|⟨w,hw,_⟩
  ·exact h
  ·cases hw
 |w::l,x,hh,h=>by
  show BG v s l (mW v s x w)=B
  refine RP v s B l _ (fun y hy=>hh y (by simp [hy])) ?_
  by_cases c:hit w v s=true
  ·left;unfold mW;rw [if_pos c];exact hh w (by simp) c
  ·rcases h with h|⟨y,hy,hc⟩
   ·left;unfold mW;rw [if_neg c];exact h
   ·rcases ZaK.1 hy with rfl|hy
    ·exact absurd hc c
    ·exact .inr ⟨y,hy,hc⟩
theorem seq_ok {im:nY}{l:List kM}(h:ane im l)(hl:im.length≤lim)(hr:∀ v∈im,v.length≤1000000):okW l:=fun w hw=>by
 obtain ⟨q1,q2,q3,q4⟩:=ahG (h.1 w hw)
 have q5:=aeS hr w.volume.toNat
 have hlim:lim=1073741824:=rfl
 simp only [uY,ZZ,decide_eq_true_eq]
 omega
theorem alp {a:nY}{v:Nat}(hv:v<a.length):(dS a).getD v 0=((a.getD v []).length:Int):=by
 rw [getD_lt hv]
 simp only [dS,zR,zc,ZD hv,Zae,Zbh]
theorem alq {a b:nY}{x:List (List bP)}(hs:gJ a=gJ b)(hf:qH a x=0){w:kM}(hw:w∈HY a x):sJ (dS b) w=0:=by
 have hs':dS a=dS b:=hs
 obtain ⟨v,hv,e,he,rfl⟩:=DJ hw
 have hl:=Ai hf
 obtain ⟨q1,q2,q3⟩:=J8 hf hv he
 have q4:=Ak q1 q2 q3
 have hva:v<a.length:=by omega
 have hsz:(dS a).length=a.length:=by simp [dS]
 rw [← hs']
 unfold sJ
 have e1:(Nj a v e).volume=(v:Int):=rfl
 have e2:(Nj a v e).start=e.start:=rfl
 rw [e1,e2,hsz,Zay,alp hva]
 rw [if_neg (by omega),if_neg (by omega),if_neg (by omega)]
theorem Nk {a:nY}{i v s:Nat}{e:bP}(q1:0≤e.start)(q2:1≤e.count)(q3:e.start+e.count≤((a.getD i []).length:Int)):hit (Nj a i e) v s=true ↔ i=v∧JQ e s=true:=by
 have q4:=Ak q1 q2 q3
 have e1:(Nj a i e).volume=(i:Int):=rfl
 have e2:(Nj a i e).start=e.start:=rfl
 unfold hit JQ
 rw [e1,e2,q4]
 simp only [ZZ,decide_eq_true_eq]
 omega
theorem ahI {a:nY}{x:List (List bP)}(hf:qH a x=0){v s:Nat}(hv:v<a.length)(hs:s<(a.getD v []).length)(y:cZ) :
  BG v s (HY a x) y=if qG (x.getD v []) s then yR a v s else y:=by
 have hl:=Ai hf
 by_cases c:qG (x.getD v []) s=true
 ·rw [if_pos c]
  obtain ⟨e,he,hi⟩:=WU.1 c
  refine RP v s _ _ _ (fun w hw hh=>?_) (.inr ⟨Nj a v e,?_,?_⟩)
  ·obtain ⟨i,hi',e',he',rfl⟩:=DJ hw
   obtain ⟨q1,q2,q3⟩:=J8 hf hi' he'
   obtain ⟨rfl,h2⟩:=(Nk q1 q2 q3).1 hh
   simp only [JQ,ZZ,decide_eq_true_eq] at h2
   have q4:=Ak q1 q2 q3
   have e2:(Nj a i e').start=e'.start:=rfl
   have e3:(Nj a i e').data=((a.getD i []).drop e'.start.toNat).take e'.count.toNat:=rfl
   have hk:((s:Int) - e'.start).toNat<(((a.getD i []).drop e'.start.toNat).take e'.count.toNat).length:=by rw [Zaa,ZaL];omega
   unfold yR
   rw [e2,e3,getD_lt hk,getD_lt hs,List.getElem_take,List.getElem_drop]
   congr 1;omega
  ·unfold HY Xb
   exact ZcP.2 ⟨v,Zbc.2 (by omega),ZaS.2 ⟨e,he,rfl⟩⟩
  ·obtain ⟨q1,q2,q3⟩:=J8 hf (show v<x.length by omega) he
   exact (Nk q1 q2 q3).2 ⟨rfl,hi⟩
 ·rw [if_neg c]
  refine JZ v s _ _ fun w hw hh=>c ?_
  obtain ⟨i,hi',e',he',rfl⟩:=DJ hw
  obtain ⟨q1,q2,q3⟩:=J8 hf hi' he'
  obtain ⟨rfl,h2⟩:=(Nk q1 q2 q3).1 hh
  exact WU.2 ⟨e',he',h2⟩
theorem aic {a b:nY}{x:List (List bP)}(hs:gJ a=gJ b)(hf:qH a x=0)(h0:iy b=0) :
  UJ b (HY a x)=0∧dS (O5 b (HY a x))=dS a∧∀ v s,v<a.length→s<(a.getD v []).length→yR (O5 b (HY a x)) v s=if qG (x.getD v []) s then yR a v s else yR b v s:=by
 have h0':zF (dS b)=0:=h0
 have hs':dS b=dS a:=hs.symm
 have hE:=J9 (dS b) (HY a x) 0 fun w hw=>alq hs hf hw
 have he:UJ b (HY a x)=0:=by unfold UJ;rw [if_neg (by rw [h0'];simp)];exact hE
 have hO:O5 b (HY a x)=(HY a x).foldl EI b:=by unfold O5;rw [if_pos he]
 refine ⟨he,(JY he).trans hs',fun v s hv hsv=>?_⟩
 obtain ⟨g1,g2⟩:=RI hs' v
 rw [hO,RJ (HY a x) b 0 hE (show v<b.length by omega) (by omega)]
 exact ahI hf hv hsv _
theorem alr {p q:nY}(h:dS p=dS q)(hg:∀ v s,v<p.length→s<(p.getD v []).length→yR p v s=yR q v s):p=q:=by
 obtain ⟨y1,y2⟩:=BF (a:=p) (b:=q) h
 apply ZbF y1
 intro v h1 h2
 apply ZbF (y2 v h1 h2)
 intro s h3 h4
 have:=hg v s h1 (by rw [getD_lt h1];exact h3)
 unfold yR at this
 rw [getD_lt h1,getD_lt h3,getD_lt h2,getD_lt h4] at this
 exact this
def Hits (a b:nY)(l:List (List bP)):Prop:=∀ v s,v<a.length→s<(a.getD v []).length→yR a v s≠yR b v s→qG (l.getD v []) s=true
theorem als {a b:nY}{l:List (List bP)}(hs:gJ a=gJ b)(hf:qH a l=0)(h0:iy b=0):O5 b (HY a l)=a ↔ Hits a b l:=by
 obtain ⟨h1,h2,h3⟩:=aic hs hf h0
 constructor
 ·intro e v s hv hsv hd
  have:=h3 v s hv hsv
  rw [e] at this
  by_cases c:qG (l.getD v []) s=true
  ·exact c
  ·rw [if_neg c] at this;exact absurd this hd
 ·intro hh
  refine (alr h2.symm fun v s hv hsv=>?_).symm
  rw [h3 v s hv hsv]
  by_cases c:qG (l.getD v []) s=true
  ·rw [if_pos c]
  ·rw [if_neg c]
   exact Classical.byContradiction fun hd=>c (hh v s hv hsv hd)
theorem alu {a:nY}{x:List (List bP)}(hl:x.length=a.length)(h:∀ v,v<a.length→sU (x.getD v []) ((a.getD v []).length:Int)=0):qH a x=0:=by
 unfold qH
 rw [if_neg (by omega),if_neg]
 intro hc
 have hm:=Zc7.1 hc
 unfold Vk oq at hm
 obtain ⟨i,hi,e⟩:=List.mem_mapIdx.1 hm
 have:=h i (by omega)
 rw [getD_lt hi] at this
 rw [this] at e
 simp at e
theorem aeT {v:List cZ}(h:1≤v.length∧v.length≤60):iy [v]=0:=by
 show zF (dS [v])=0
 unfold zF dS
 simp
 omega
theorem DK {α:Type}{p:α→Prop}{x:α}(h:p x):∀ y∈[x],p y:=fun y hy=>by
 rw [Zaq.1 hy];exact h
structure anf (a b:nY)(l:List (List bP)):Prop where
 la:a.length=1
 lb:b.length=1
 ll:l.length=1
 ra:∀ v∈a,v.length≤60
 rb:∀ v∈b,v.length≤60
 ol:∀ x∈l,uD x
 rl:∀ x∈l,x.length≤4096
 pe:Ah a b=0
 ft:qH a l=0
 hh:Hits a b l
theorem aeU {A B:List cZ}(h:A.length=B.length)(h1:1≤A.length∧A.length≤60):Ah [A] [B]=0:=by
 unfold Ah
 have e1:=aeT h1
 have e2:=aeT (v:=B) (by omega)
 simp [e1,e2,gJ,h]
theorem ahJ {A B:List cZ}{L:List bP}(h:A.length=B.length)(h1:1≤A.length∧A.length≤60)(ho:uD L)(hl:L.length≤4096)(hc:sU L (A.length:Int)=0)(hh:∀ s:Nat,s<A.length→A.getD s yY≠B.getD s yY→qG L s=true):anf [A] [B] [L]:=by
 refine ⟨rfl,rfl,rfl,DK h1.2,DK (by omega),DK ho,DK hl,aeU h h1,alu rfl fun v hv=>?_,fun v s hv hs hd=>?_⟩
 ·obtain rfl:v=0:=by simp at hv;omega
  exact hc
 ·obtain rfl:v=0:=by simp at hv;omega
  exact hh s hs hd
theorem ang {sz lf:Int}{l:List Int}{w:nT}{k:Nat}{p:Nat→Bool}{g:Int→Int}(h:mX sz lf l w k p)(hg:okG g):cal env 30 [Zj w,Am (MP w g)]=some [(Zj (vk sz lf l w k p g),false),(.list 8 (Zp (vk sz lf l w k p g)),true),(.int .i64 0,false)]:=by
 cases k with
 |zero =>
  have e:Zp (vk sz lf l w 0 p g)=[]:=by unfold vk;rw [if_pos rfl];rfl
  rw [e]
  exact akT h hg
 |succ k =>
  by_cases q0:dZ (qW l (k+1) p g) (cd l.length (k+1))=[]
  ·have e:Zp (vk sz lf l w (k+1) p g)=[]:=by unfold vk;rw [if_neg (by omega),if_pos q0];rfl
   rw [e]
   exact akU h hg q0
  ·have e:Zp (vk sz lf l w (k+1) p g)=[Am (uZ (vk sz lf l w (k+1) p g))]:=by
    have:(vk sz lf l w (k+1) p g).fin=false:=by unfold vk;rw [if_neg (by omega),if_neg q0];exact h.fin
    unfold Zp
    rw [this];rfl
   rw [e]
   exact akV h hg q0
theorem ahK {sz lf:Int}{l:List Int}{w:nT}{k:Nat}{p:Nat→Bool}(h:mX sz lf l w k p):Zp w=[Am (uZ w)]:=by
 unfold Zp;rw [h.fin];rfl
set_option maxRecDepth 20000 in
theorem alv {sz lf:Int}{la lb:List Int}{J:Nat}(ha:U2 sz lf la)(hb:U2 sz lf lb)(hab:lb.length=la.length)(hJ:J≤14)(hfin:(sQ sz lf la lb J).1.fin=true)(hI:∀ i,i<J→mX sz lf la (sQ sz lf la lb i).1 (gZ la.length - i) (sQ sz lf la lb i).2){st:St}(h:st.head [3,7,8,9,15,59] st.boxes.length=some ⟨sl 68 [(3,.aO 1 0),(7,.aO 2 0),(8,.row 8 (Zp (sQ sz lf la lb ((0:Nat))).1)),(9,.pv (.int .i64 0)),(15,.any),(59,.any)],[⟨false,aB sz lf la⟩,⟨false,aB sz lf lb⟩,⟨false,wB (sQ sz lf la lb ((0:Nat))).1⟩],[],none⟩) :
  den env LJ st=some (.normal,⟨sl 68 [(4,.any),(5,.any),(6,.any),(7,.aO 2 0),(9,.pv (.int .i64 0))],[⟨false,aB sz lf la⟩,⟨false,aB sz lf lb⟩,⟨false,wB (sQ sz lf la lb J).1⟩],[],none⟩):=by
 unfold LJ
 refine aY (env:=env) (nb:=3) (J) (fun i=>⟨sl 68 [(3,.aO 1 0),(7,.aO 2 0),(8,.row 8 (Zp (sQ sz lf la lb (i)).1)),(9,.pv (.int .i64 0)),(15,.any),(59,.any)],[⟨false,aB sz lf la⟩,⟨false,aB sz lf lb⟩,⟨false,wB (sQ sz lf la lb (i)).1⟩],[],none⟩) (fun i=>some (.normal,⟨sl 68 [(4,.any),(5,.any),(6,.any),(7,.aO 2 0),(9,.pv (.int .i64 0))],[⟨false,aB sz lf la⟩,⟨false,aB sz lf lb⟩,⟨false,wB (sQ sz lf la lb J).1⟩],[],none⟩)) h (fun _=>rfl) (fun _=>by simp only [aW,bI,Nat.reduceMul,Nat.reduceBEq,Nat.reduceLT,Nat.reduceLeDiff,Nat.reduceAdd,decide_true,zP,zz]) ?_ ?_
 ·intro i rb hi ih
  have hw:=hI i hi
  have hnM:=ahK hw
  have k1:=am1 hw hb hab
  have k2:=ang (g:=gK lb (gZ la.length - i)) hw (am6 hb.u _)
  have eg:(fun n:Int=>(iq lb (gZ la.length - i)).getD n.toNat 0)=gK lb (gZ la.length - i):=rfl
  rw [eg] at k1
  have es:(sQ sz lf la lb (i+1)).1=vk sz lf la (sQ sz lf la lb i).1 (gZ la.length - i) (sQ sz lf la lb i).2 (gK lb (gZ la.length - i)):=rfl
  rw [← es] at k2
  rw [hnM]
  generalize (sQ sz lf la lb (i+1)).1=w' at *
  generalize (sQ sz lf la lb i).1=w at *
  rw [MG,MG,lG] at k1
  rw [rW,MG,rW] at k2
  generalize Zp w'=M at *
  rw [MG]
  have E0:((0:Int)==0)=true:=rfl
  have F1:(((1:Nat):Int) > 0)=True:=eq_true (by decide)
  have i0:index (.int .i64 0) 1=some 0:=rfl
  simp only [LH,k1,k2,P3,P8,E0,F1,i0,sW,jZ,aC,Nat.reduceMul,Nat.reduceBEq,Nat.reduceLT,Nat.reduceLeDiff,reduceCtorEq,Nat.reduceEqDiff,Nat.reduceAdd,Z6]
  rw [ih _ (by simp only [sW,jZ,aC,Nat.reduceMul,Nat.reduceBEq,Nat.reduceLT,Nat.reduceLeDiff,reduceCtorEq,Nat.reduceEqDiff,Nat.reduceAdd,Z6]<;>rfl)]
  simp only [sW,jZ]
 ·intro rb
  have hnM:Zp (sQ sz lf la lb J).1=[]:=by unfold Zp;rw [hfin];rfl
  have E0:((0:Int)==0)=true:=rfl
  have F1:(((0:Nat):Int) > 0)=False:=eq_false (by decide)
  rw [hnM]
  simp only [LH,E0,F1,sW,jZ,aC,Nat.reduceMul,Nat.reduceBEq,Nat.reduceLT,Nat.reduceLeDiff,reduceCtorEq,Nat.reduceEqDiff,Nat.reduceAdd,Z6]
set_option maxRecDepth 20000 in
theorem anh {sz lf:Int}{la lb:List Int}{J:Nat}(ha:U2 sz lf la)(hb:U2 sz lf lb)(hab:lb.length=la.length)(hJ:J≤14)(hfin:(sQ sz lf la lb J).1.fin=true)(hI:∀ i,i<J→mX sz lf la (sQ sz lf la lb i).1 (gZ la.length - i) (sQ sz lf la lb i).2):cal env 27 [Bg (Bh sz lf la),Bg (Bh sz lf lb)]=some [(.list 2 ((sQ sz lf la lb J).1.found.map aZ),false),(.int .i64 (sQ sz lf la lb J).1.sent,false),(.int .i64 0,false)]:=by
 have k1:=am5 ha
 have k2:=Wv hb
 have E0:((0:Int)==0)=true:=rfl
 have E1:((0:Int) != 0)=false:=rfl
 have N1:(sz != sz)=false:=by simp
 have N2:(lf != lf)=false:=by simp
 have hs0:(sQ sz lf la lb 0).1=Va sz lf la:=rfl
 have hn0:Zp (Va sz lf la)=[Am (uZ (Va sz lf la))]:=rfl
 have hloop:=fun st=>alv (st:=st) ha hb hab hJ hfin hI
 rw [hs0,hn0] at hloop
 rw [lG] at k1 k2 ⊢
 rw [lG]
 rw [rW] at k1
 rw [jZ] at hloop
 generalize Am (uZ (Va sz lf la))=M0 at *
 have hd:(Va sz lf la).fin=false:=rfl
 rw [aA amy rfl];simp only [abT,aW,Nat.reduceBEq,Nat.reduceLeDiff,Nat.reduceAdd,zd,zj]
 simp only [k1,k2,P3,P8,E0,E1,N1,N2,Z3,aC,Nat.reduceMul,Nat.reduceBEq,Nat.reduceLT,Nat.reduceLeDiff,reduceCtorEq,Nat.reduceEqDiff,Nat.reduceAdd,Z6]
 rw [hloop _ (by rw [sW,sW];simp only [aW,bI,Nat.reduceMul,Nat.reduceBEq,Nat.reduceLT,Nat.reduceLeDiff,Nat.reduceAdd,decide_true,zP,zz]<;>rfl)]
 simp only [jZ,sW,E0,E1,aC,Nat.reduceMul,Nat.reduceBEq,Nat.reduceLT,Nat.reduceLeDiff,reduceCtorEq,Nat.reduceEqDiff,Nat.reduceAdd,Z6]
def Vm (s:Int)(d:List cZ)(o:List cZ):Nat→List cZ
 |0=>o
 |k+1=>if 0≤IntKind.i64.wrap (s+(k:Int))∧IntKind.i64.wrap (s+(k:Int))<(o.length:Int) then (Vm s d o k).set (IntKind.i64.wrap (s+(k:Int))).toNat (d.getD k yY) else Vm s d o k
theorem DL (s:Int)(d o:List cZ):∀ k,(Vm s d o k).length=o.length
 |0=>rfl
 |k+1=>by
  unfold Vm
  split
  ·rw [ZcT,DL s d o k]
  ·exact DL s d o k
def chV (o:List cZ)(w:kM):List cZ:=Vm w.start w.data o w.data.length
def BI (o:List cZ)(l:List kM):List cZ:=l.foldl chV o
theorem ZI (o:List cZ)(l:List kM)(w:kM):BI o (l++[w])=chV (BI o l) w:=by simp [BI]
theorem H8:∀ (l:List kM) (o:List cZ),(BI o l).length=o.length
 |[],_=>rfl
 |w::l,o=>by
  show (BI (chV o w) l).length=_
  rw [H8 l]
  exact DL _ _ _ _
def szT (l:List kM):Prop:=∀ x∈l,x.data.length≤140737488351232
set_option maxRecDepth 20000 in
theorem alx {l o:List cZ}{ch:List kM}{v sa:Int}{d:List cZ}{j:Nat}(h1:1≤o.length)(hd:d.length≤140737488351232)(hj:j<ch.length)(hx:ch[j]=⟨v,sa,d⟩){st:St}(h:st.head [0,1,6,7,8,12] st.boxes.length=some ⟨sl 62 [(0,.pv (.list 8 (l.map bH))),(1,.pv (.list 3 (ch.map DV))),(6,.row 8 ((Vm sa d o ((0:Nat))).map bH)),(7,.pv (.int .i64 j)),(8,.pv (.int .i64 (0:Nat))),(12,.any)],[],[],none⟩) :
  den env LC st=some (.normal,⟨sl 62 [(0,.pv (.list 8 (l.map bH))),(1,.pv (.list 3 (ch.map DV))),(4,.any),(5,.any),(6,.row 8 ((Vm sa d o d.length).map bH)),(7,.pv (.int .i64 j)),(12,.any)],[],[],none⟩):=by
 unfold LC
 refine aY (env:=env) (nb:=0) (d.length) (fun i=>⟨sl 62 [(0,.pv (.list 8 (l.map bH))),(1,.pv (.list 3 (ch.map DV))),(6,.row 8 ((Vm sa d o (i)).map bH)),(7,.pv (.int .i64 j)),(8,.pv (.int .i64 i)),(12,.any)],[],[],none⟩) (fun i=>some (.normal,⟨sl 62 [(0,.pv (.list 8 (l.map bH))),(1,.pv (.list 3 (ch.map DV))),(4,.any),(5,.any),(6,.row 8 ((Vm sa d o d.length).map bH)),(7,.pv (.int .i64 j)),(12,.any)],[],[],none⟩)) h (fun _=>rfl) (fun _=>by simp only [aW,bI,Nat.reduceMul,Nat.reduceBEq,Nat.reduceLT,Nat.reduceLeDiff,Nat.reduceAdd,decide_true,zP,zz]) ?_ ?_
 ·intro i rb hi ih
  have hi1:IntKind.i64.wrap ((i:Int)+1)=((i+1:Nat):Int):=by rw [aI (by omega)];omega
  have F1:((i:Int)<(d.length:Int))=True:=eq_true (by omega)
  have F2:((o.length:Int) > 0)=True:=eq_true (by omega)
  have hc:(ch.map DV)[j]?=some (.agg [.int .i64 v,.int .i64 sa,.list 8 (d.map bH)]):=by rw [zc,ZD hj,hx];rfl
  have hs:(d.map bH)[i]?=some (bH (d.getD i yY)):=by rw [zc,zR,ZD hi];rfl
  have hol:(Vm sa d o i).length=o.length:=DL ..
  have ei:Vm sa d o (i+1)=if 0≤IntKind.i64.wrap (sa+(i:Int))∧IntKind.i64.wrap (sa+(i:Int))<(o.length:Int) then (Vm sa d o i).set (IntKind.i64.wrap (sa+(i:Int))).toNat (d.getD i yY) else Vm sa d o i:=rfl
  rw [ei] at ih
  generalize Vm sa d o i=O at *
  generalize d.getD i yY=y at *
  generalize hat:IntKind.i64.wrap (sa+(i:Int))=at' at *
  have hI:0≤at'→at'<(o.length:Int)→index (.int .i64 at') o.length=some at'.toNat:=fun a b=>A8 a b
  have pc:part (je y) 0 (some 8)=some (bH y):=sO y
  by_cases c1:0≤at'
  ·have G1:(at' ≥ 0)=True:=eq_true (by omega)
   by_cases c2:at'<(o.length:Int)
   ·have G2:=eq_true c2
    have hI:=hI c1 c2
    have hlt:at'.toNat<O.length:=by omega
    have hg:(O.map bH)[at'.toNat]?=some (bH O[at'.toNat]):=by rw [zc,ZD hlt];rfl
    have ce:∀ z:cZ,(bH z).cells=je z:=fun _=>rfl
    have le:∀ z:cZ,(je z).length=8:=fV
    have de:∀ z:cZ,List.drop 8 (je z)=[]:=fun z=>Za7 (by rw [le];exact ze _)
    have re:∀ z:cZ,(bH z).tC (je y)=some (bH y):=fun z=>rfl
    rw [if_pos ⟨c1,c2⟩,List.map_set] at ih
    simp only [zG,hat,pc,hg,ce,le,de,re,F1,F2,G1,G2,hI,hc,hs,hol,au hj,au hi,Z3,aC,Nat.reduceMul,Nat.reduceBEq,Nat.reduceLT,Nat.reduceLeDiff,reduceCtorEq,Nat.reduceEqDiff,Nat.reduceAdd,Z6]
    rw [ih _ (by simp only [hi1,aC,Nat.reduceMul,Nat.reduceBEq,Nat.reduceLT,Nat.reduceLeDiff,reduceCtorEq,Nat.reduceEqDiff,Nat.reduceAdd,Z6]<;>rfl)]
   ·have G2:=eq_false c2
    rw [if_neg fun q=>c2 q.2] at ih
    simp only [zG,hat,F1,F2,G1,G2,hc,hol,au hj,Z3,aC,Nat.reduceMul,Nat.reduceBEq,Nat.reduceLT,Nat.reduceLeDiff,reduceCtorEq,Nat.reduceEqDiff,Nat.reduceAdd,Z6]
    rw [ih _ (by simp only [hi1,aC,Nat.reduceMul,Nat.reduceBEq,Nat.reduceLT,Nat.reduceLeDiff,reduceCtorEq,Nat.reduceEqDiff,Nat.reduceAdd,Z6]<;>rfl)]
  ·have G1:(at' ≥ 0)=False:=eq_false (by omega)
   rw [if_neg fun q=>c1 q.1] at ih
   simp only [zG,hat,F1,F2,G1,hc,hol,au hj,Z3,aC,Nat.reduceMul,Nat.reduceBEq,Nat.reduceLT,Nat.reduceLeDiff,reduceCtorEq,Nat.reduceEqDiff,Nat.reduceAdd,Z6]
   rw [ih _ (by simp only [hi1,aC,Nat.reduceMul,Nat.reduceBEq,Nat.reduceLT,Nat.reduceLeDiff,reduceCtorEq,Nat.reduceEqDiff,Nat.reduceAdd,Z6]<;>rfl)]
 ·intro rb
  have hc:(ch.map DV)[j]?=some (.agg [.int .i64 v,.int .i64 sa,.list 8 (d.map bH)]):=by rw [zc,ZD hj,hx];rfl
  simp only [zG,Zat,hc,au hj,Z3,aC,Nat.reduceMul,Nat.reduceBEq,Nat.reduceLT,Nat.reduceLeDiff,reduceCtorEq,Nat.reduceEqDiff,Nat.reduceAdd,Z6]
set_option maxRecDepth 20000 in
theorem aeV {l:List cZ}{ch:List kM}(h1:1≤l.length)(hl:ch.length≤1000)(hd:szT ch){st:St}(h:st.head [0,1,6,7,12] st.boxes.length=some ⟨sl 62 [(0,.pv (.list 8 (l.map bH))),(1,.pv (.list 3 (ch.map DV))),(6,.row 8 ((BI l (ch.take ((0:Nat)))).map bH)),(7,.pv (.int .i64 (0:Nat))),(12,.any)],[],[],none⟩) :
  den env LG st=some (.normal,⟨sl 62 [(0,.pv (.list 8 (l.map bH))),(4,.any),(5,.any),(6,.row 8 ((BI l ch).map bH))],[],[],none⟩):=by
 unfold LG
 refine aY (env:=env) (nb:=0) (ch.length) (fun i=>⟨sl 62 [(0,.pv (.list 8 (l.map bH))),(1,.pv (.list 3 (ch.map DV))),(6,.row 8 ((BI l (ch.take (i))).map bH)),(7,.pv (.int .i64 i)),(12,.any)],[],[],none⟩) (fun i=>some (.normal,⟨sl 62 [(0,.pv (.list 8 (l.map bH))),(4,.any),(5,.any),(6,.row 8 ((BI l ch).map bH))],[],[],none⟩)) h (fun _=>rfl) (fun _=>by simp only [aW,bI,Nat.reduceMul,Nat.reduceBEq,Nat.reduceLT,Nat.reduceLeDiff,Nat.reduceAdd,decide_true,zP,zz]) ?_ ?_
 ·intro i rb hi ih
  have hi1:=bC hi (by unfold lim;omega)
  have F1:((i:Int)<(ch.length:Int))=True:=eq_true (by omega)
  have hdi:=hd _ (Zap hi)
  have e0:∀ (s:Int) (d o:List cZ),Vm s d o 0=o:=fun _ _ _=>rfl
  rw [take_snoc hi,ZI] at ih
  unfold chV at ih
  have hlen:=H8 (ch.take i) l
  generalize BI l (ch.take i)=o at *
  simp only [LD,F1,Z3,aC,Nat.reduceMul,Nat.reduceBEq,Nat.reduceLT,Nat.reduceLeDiff,reduceCtorEq,Nat.reduceEqDiff,Nat.reduceAdd,Z6]
  rw [alx (l:=l) (o:=o) (ch:=ch) (v:=ch[i].volume) (sa:=ch[i].start) (d:=ch[i].data) (j:=i) (by omega) hdi hi rfl (by rw [e0];simp only [aW,bI,Nat.reduceMul,Nat.reduceBEq,Nat.reduceLT,Nat.reduceLeDiff,Nat.reduceAdd,decide_true,zP,zz]<;>rfl)]
  simp only [aC,Nat.reduceMul,Nat.reduceBEq,Nat.reduceLT,Nat.reduceLeDiff,reduceCtorEq,Nat.reduceEqDiff,Nat.reduceAdd,Z6]
  rw [ih _ (by simp only [hi1,aC,Nat.reduceMul,Nat.reduceBEq,Nat.reduceLT,Nat.reduceLeDiff,reduceCtorEq,Nat.reduceEqDiff,Nat.reduceAdd,Z6]<;>rfl)]
 ·intro rb
  rw [List.take_length]
  simp only [LD,Zat,Z3,aC,Nat.reduceMul,Nat.reduceBEq,Nat.reduceLT,Nat.reduceLeDiff,reduceCtorEq,Nat.reduceEqDiff,Nat.reduceAdd,Z6]
set_option maxRecDepth 20000 in
theorem ani {l:List cZ}{ch:List kM}(h1:1≤l.length)(hll:l.length≤lim)(hl:ch.length≤1000)(hd:szT ch):cal env 25 [.list 8 (l.map bH),.list 3 (ch.map DV)]=some [(.list 8 (l.map bH),false),(.list 8 ((BI l ch).map bH),true)]:=by
 have F1:=eq_true hll
 have e0:BI l (List.take 0 ch)=l:=rfl
 rw [aA amw rfl];simp only [abR,aW,Nat.reduceBEq,Nat.reduceLeDiff,Nat.reduceAdd,zd,zj]
 simp only [F1,Z3,aC,Nat.reduceMul,Nat.reduceBEq,Nat.reduceLT,Nat.reduceLeDiff,reduceCtorEq,Nat.reduceEqDiff,Nat.reduceAdd,Z6]
 rw [aeV (l:=l) (ch:=ch) h1 hl hd (by rw [e0];simp only [aW,bI,Nat.reduceMul,Nat.reduceBEq,Nat.reduceLT,Nat.reduceLeDiff,Nat.reduceAdd,decide_true,zP,zz]<;>rfl)]
 simp only [F1,Z3,aC,Nat.reduceMul,Nat.reduceBEq,Nat.reduceLT,Nat.reduceLeDiff,reduceCtorEq,Nat.reduceEqDiff,Nat.reduceAdd,Z6]
end Go.Proofs.YthccglceomoboaaGreatDoor.V
