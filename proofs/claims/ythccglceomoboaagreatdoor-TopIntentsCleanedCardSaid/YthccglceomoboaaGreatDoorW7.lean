/-
  Part 7 of the texts that the statement stands on.
-/
import Derived.Test.YthccglceomoboaaGreatDoorW6
import Derived.Test.YthccglceomoboaaGreatDoorRows
import Derived.WalkSmall
import Derived.WalkSpells
import Derived.Lib.SliceRun
set_option linter.all false
open Option renaming some → ZD, map_some → Zak, map_eq_some_iff → Zar
open Bool renaming and_eq_true → ZS, false_eq_true → zm, true_and → Zai, and_self → Zal, eq_false_iff → Za2, and_false → Zbi, eq_iff_iff → Zbv, false_or → Zbz, not_false → ZbI, and_true → ZbO, not_true → ZbP, true_or → Zce
open List renaming getElem?_eq_getElem → ZZ, getElem?_eq_some_iff → Z1, length_map → za, length_cons → zc, getElem?_map → zd, length_nil → ze, length_append → zp, getElem?_set → zr, mem_of_getElem? → zz, getElem?_append_right → zP, getElem?_append_left → zR, eq_nil_of_length_eq_zero → Zac, getElem?_take → Zad, replicate → Zae, getD_eq_getElem?_getD → Zaf, drop_eq_getElem_cons → Zah, length_take → Zam, append_assoc → Zan, mem_singleton → Zao, map_cons → Zat, getElem?_cons_zero → Zau, map_nil → Zav, mem_append → Zax, getElem?_drop → Zaz, getElem_mem → ZaD, append_nil → ZaE, take_succ_eq_append_getElem → ZaF, map_append → ZaH, mem_cons → ZaI, drop_zero → ZaK, getElem?_cons_succ → ZaO, drop_of_length_le → ZaS, filterMap_cons → ZaU, length_drop → ZaV, take_length → ZaW, getElem?_eq_none → ZaY, getElem?_toArray → ZaZ, filterMap_nil → Za8, mem_map → Za9, mem_map_of_mem → Zbk, drop_length → Zbq, take_zero → Zbt, take_of_length_le → Zby, ext_getElem? → ZbR, map_toArray → ZbT, getElem_map → ZbV, any_eq_true → ZbW, foldl_cons → ZbZ, map_set → Zb4, mem_append_left → Zb8, map → Zci, take_add_one → Zcp, flatMap_cons → Zcq, foldl_append → Zcr, drop_eq_nil_of_le → Zcs, map_take → Zcv, getElem_set → Zcz, not_mem_nil → ZcA, getElem?_of_mem → ZcH, any_cons → ZcR, length_set → Zc7, drop → Zc9, map_drop → Zdt, getElem_of_mem → Zdx, countP_append → ZdF
open Nat renaming beq → zb, le_refl → zg, le_trans → Zaa, lt_of_lt_of_le → Zab, mul_le_mul_right → Zag, zero_add → Zaj, add_mul → Zap, zero_le → ZaG, sub_zero → ZbE
open Array renaming getElem?_eq_some_iff → zt, length_toList → Zay
open Int renaming tmod_eq_emod_of_nonneg → Zaq, toNat_natCast → Zaw, lt_irrefl → ZaL, eq_ofNat_of_zero_le → ZbG, ediv_nonneg → Zb1, mul_le_mul_of_nonneg_right → ZcG
namespace Go.Proofs.YthccglceomoboaaGreatDoor.V
structure alQ where
 d0:Int
 d1:Int
 st:Int
 ins:Bool
 out:List bH
def mY (keep:Bool→Bool→Bool)(x:End)(same:Bool)(s:alQ):alQ :=
 if same then ⟨if x.list=0 then s.d0+x.step else s.d0,if x.list=1 then s.d1+x.step else s.d1,s.st,s.ins,s.out⟩
 else ⟨if x.list=0 then s.d0+x.step else s.d0,if x.list=1 then s.d1+x.step else s.d1,
  if keep (decide ((if x.list=0 then s.d0+x.step else s.d0) > 0)) (decide ((if x.list=1 then s.d1+x.step else s.d1) > 0))&&!s.ins then x.pos else s.st,
  keep (decide ((if x.list=0 then s.d0+x.step else s.d0) > 0)) (decide ((if x.list=1 then s.d1+x.step else s.d1) > 0)),
  s.out++(if !keep (decide ((if x.list=0 then s.d0+x.step else s.d0) > 0)) (decide ((if x.list=1 then s.d1+x.step else s.d1) > 0))&&s.ins then [⟨s.st,x.pos - s.st⟩] else [])⟩
def jF (keep:Bool→Bool→Bool)(L:List End):Nat→alQ
 |0=>⟨0,0,0,false,[]⟩
 |i+1=>match L[i]? with
  |some x=>mY keep x (jy x (L.drop (i+1))) (jF keep L i)
  |none=>jF keep L i
theorem Cb {keep:Bool→Bool→Bool}{L:List End}{i:Nat}{x:End}(h:L[i]?=some x):jF keep L (i+1)=mY keep x (jy x (L.drop (i+1))) (jF keep L i):=by
 show (match L[i]? with
  |some x=>mY keep x (jy x (L.drop (i+1))) (jF keep L i)
  |none=>jF keep L i)=_
 rw [h]
theorem VF (keep:Bool→Bool→Bool)(L:List End):∀ i,i≤L.length→(jF keep L i).out++BO keep (L.drop i) (jF keep L i).d0 (jF keep L i).d1 (jF keep L i).st (jF keep L i).ins=BO keep L 0 0 0 false
 |0,_=>rfl
 |i+1,hi=>by
  have ih:=VF keep L i (by omega)
  have hx:L[i]?=some L[i]:=ZZ (by omega)
  rw [← ih,Cb hx,Zah (show i<L.length by omega)]
  generalize L[i]=x
  generalize jF keep L i=s
  conv=>rhs;unfold BO
  unfold mY
  cases jy x (L.drop (i+1)) with
  |true=>rfl
  |false=>simp only [zm,if_false,Zan]
theorem aeI (keep:Bool→Bool→Bool)(L:List End):(jF keep L L.length).out=BO keep L 0 0 0 false:=by
 have:=VF keep L L.length (zg _)
 rw [Zbq] at this
 simpa [BO] using this
theorem GY {keep:Bool→Bool→Bool}{L:List End}(h:∀ x∈L,(x.step=1∨x.step=-1)∧x.pos≤4096):∀ i:Nat,(-(i:Int)≤(jF keep L i).d0∧(jF keep L i).d0≤i)∧(-(i:Int)≤(jF keep L i).d1∧(jF keep L i).d1≤i)∧(0≤(jF keep L i).st∧(jF keep L i).st≤4096)
 |0=>by simp [jF]
 |i+1=>by
  obtain ⟨h1,h2,h3⟩:=GY (keep:=keep) h i
  cases hx:L[i]? with
  |none =>
   have:jF keep L (i+1)=jF keep L i:=by
    show (match L[i]? with
     |some x=>mY keep x (jy x (L.drop (i+1))) (jF keep L i)
     |none=>jF keep L i)=_
    rw [hx]
   rw [this]
   omega
  |some x =>
   rw [Cb hx]
   obtain ⟨k1,k2⟩:=h x (zz hx)
   generalize jF keep L i=s at *
   unfold mY
   split
   ·simp only
    refine ⟨?_,?_,h3⟩
    ·split<;>omega
    ·split<;>omega
   ·simp only
    refine ⟨?_,?_,?_⟩
    ·split<;>omega
    ·split<;>omega
    ·split<;>omega
def yE (l:List bH):List (List PV):=l.map fun x=>[aZ x]
theorem MJ (l m:List bH):yE (l++m)=yE l++yE m:=by simp [yE]
theorem VG (n m:Nat):((n:Int)==(m:Int))=decide (n=m):=by
 by_cases h:n=m
 ·subst h;simp
 ·rw [decide_eq_false h];simp;omega
set_option maxRecDepth 20000 in
set_option maxHeartbeats 2000000 in
theorem ain {keep:Bool→Bool→Bool}{kf:Nat}(hk:∀ p q,cal env kf [.bool p,.bool q]=some [(.bool (keep p q),false)]){L:List End}(hL:∀ x∈L,((x.step=1∨x.step=-1)∧x.pos≤4096)∧x.list<2)(hl:L.length≤1000000)
  {st:St} (h:st.head [0,3,5,6,7,8,15,16,17,18] st.boxes.length=some ⟨sl 80 [(0,.qX),(3,.pv (.dD [.func kf []] 0)),(5,.row 3 (L.map iM)),(6,.aP 0 0),(7,.pv (.int .i64 0)),(8,.pv (.bool false)),(15,.any),(16,.ref (.slot 5) 0 L.length),(17,.pv (.int .i64 L.length)),(18,.pv (.int .i64 (0:Nat)))],[⟨false,[.pv (.int .i64 0),.pv (.int .i64 0)]⟩],[],some none⟩) :
  den env Gf st=some (.normal,⟨sl 80 [],[⟨false,[.pv (.int .i64 (jF keep L L.length).d0),.pv (.int .i64 (jF keep L L.length).d1)]⟩],yE (jF keep L L.length).out,some none⟩):=by
 unfold Gf
 have hlim:lim=1073741824:=rfl
 have hsm:=GY (keep:=keep) fun x hx=>(hL x hx).1
 refine dL (env:=env) L.length (fun i=>⟨sl 80 [(0,.qX),(3,.pv (.dD [.func kf []] 0)),(5,.row 3 (L.map iM)),(6,.aP 0 0),(7,.pv (.int .i64 (jF keep L i).st)),(8,.pv (.bool (jF keep L i).ins)),(15,.any),(16,.ref (.slot 5) 0 L.length),(17,.pv (.int .i64 L.length)),(18,.pv (.int .i64 i))],[⟨false,[.pv (.int .i64 (jF keep L i).d0),.pv (.int .i64 (jF keep L i).d1)]⟩],yE (jF keep L i).out,some none⟩) (fun _=>some (.normal,⟨sl 80 [],[⟨false,[.pv (.int .i64 (jF keep L L.length).d0),.pv (.int .i64 (jF keep L L.length).d1)]⟩],yE (jF keep L L.length).out,some none⟩)) h (fun _=>rfl) (fun _=>by simp only [aG,dN,Nat.reduceMul,Nat.reduceBEq,Nat.reduceLT,Nat.reduceLeDiff,Nat.reduceAdd,decide_true,Zal,Zai]) ?_ ?_
 ·intro i rb hi ih
  have hi1:=dV hi (by omega)
  have F1:((i:Int)<(L.length:Int))=True:=eq_true (by omega)
  have hx:L[i]?=some L[i]:=ZZ hi
  obtain ⟨⟨x1,x2⟩,x3⟩:=hL _ (ZaD hi)
  have anK:=Cb (keep:=keep) hx
  obtain ⟨⟨s1,s2⟩,⟨s3,s4⟩,s5,s6⟩:=hsm i
  rw [anK] at ih
  clear anK
  generalize L[i]=x at *
  generalize hs:jF keep L i=s at *
  obtain ⟨d0,d1,sp,ins,out⟩:=s
  obtain ⟨p,k,t⟩:=x
  simp only at x1 x2 x3 s1 s2 s3 s4 s5 s6 ih
  have hlist:k=0∨k=1:=by omega
  have W0:IntKind.i64.wrap (d0+t)=d0+t:=aF (by omega)
  have W1:IntKind.i64.wrap (d1+t)=d1+t:=aF (by omega)
  have W2:IntKind.i64.wrap ((p:Int) - sp)=(p:Int) - sp:=aF (by omega)
  have I0:index (.int .i64 0) 2=some 0:=rfl
  have I1:index (.int .i64 1) 2=some 1:=rfl
  have IN0:index (.int .i64 ((0:Nat):Int)) 2=some 0:=rfl
  have IN1:index (.int .i64 ((1:Nat):Int)) 2=some 1:=rfl
  have P3:∀ a b c:PV,part [a,b,c] 0 (some 3)=some (.agg [a,b,c]):=fun a b c=>rfl
  -- the next end
  have hnx:(∃ y,L[i+1]?=some y∧jy ⟨p,k,t⟩ (L.drop (i+1))=decide (y.pos=p)∧(((i+1:Nat):Int)<(L.length:Int))∧index (.int .i64 ((i+1:Nat):Int)) L.length=some (i+1))∨(jy ⟨p,k,t⟩ (L.drop (i+1))=false∧¬ (((i+1:Nat):Int)<(L.length:Int))):=by
   by_cases hlt:i+1<L.length
   ·left
    refine ⟨L[i+1],ZZ hlt,?_,by omega,aB hlt⟩
    rw [Zah hlt];rfl
   ·right
    refine ⟨?_,by omega⟩
    rw [Zcs (by omega)];rfl
  rcases hlist with rfl|rfl
  ·-- list 0
   have e1:=hk (decide (d0+t > 0)) (decide (d1 > 0))
   have same:mY keep ⟨p,0,t⟩ true ⟨d0,d1,sp,ins,out⟩=⟨d0+t,d1,sp,ins,out⟩:=by simp [mY]
   have diff:mY keep ⟨p,0,t⟩ false ⟨d0,d1,sp,ins,out⟩=⟨d0+t,d1,if keep (decide (d0+t > 0)) (decide (d1 > 0))&&!ins then (p:Int) else sp,keep (decide (d0+t > 0)) (decide (d1 > 0)),out++(if !keep (decide (d0+t > 0)) (decide (d1 > 0))&&ins then [⟨sp,(p:Int) - sp⟩] else [])⟩:=by simp [mY]
   rcases hnx with ⟨y,hy,hns,hlt,hix⟩|⟨hns,hlt⟩
   ·have F2:(((i+1:Nat):Int)<(L.length:Int))=True:=eq_true hlt
    rw [hns] at ih
    have B:=VG y.pos p
    generalize hb:decide (y.pos=p)=b at ih B
    cases b with
    |true =>
     rw [same] at ih
     simp only [oC,F1,hx,hi1,W0,W1,W2,I0,I1,IN0,IN1,P3,iM,aB hi,zd,Zak,za,zc,ze,F2,hy,hix,B,aC,Nat.reduceMul,Nat.reduceBEq,Nat.reduceLT,Nat.reduceLeDiff,reduceCtorEq,Nat.reduceEqDiff,Nat.reduceAdd,zb]
     rw [ih _ (by simp only [hi1,aC,Nat.reduceMul,Nat.reduceBEq,Nat.reduceLT,Nat.reduceLeDiff,reduceCtorEq,Nat.reduceEqDiff,Nat.reduceAdd,zb]<;>rfl)]
    |false =>
     rw [diff] at ih
     generalize keep (decide (d0+t > 0)) (decide (d1 > 0))=now at *
     cases now<;>cases ins<;>simp only [ZbP,ZbI,ZbO,Zbi,Zal,zm,if_true,if_false,ZaE,MJ] at ih<;>simp only [oC,F1,hx,hi1,W0,W1,W2,I0,I1,IN0,IN1,P3,iM,aB hi,zd,Zak,za,zc,ze,F2,hy,hix,B,e1,aC,Nat.reduceMul,Nat.reduceBEq,Nat.reduceLT,Nat.reduceLeDiff,reduceCtorEq,Nat.reduceEqDiff,Nat.reduceAdd,zb]<;>rw [ih _ (by simp only [hi1,yE,Zat,Zav,aZ,aC,Nat.reduceMul,Nat.reduceBEq,Nat.reduceLT,Nat.reduceLeDiff,reduceCtorEq,Nat.reduceEqDiff,Nat.reduceAdd,zb]<;>rfl)]
   ·have F2:(((i+1:Nat):Int)<(L.length:Int))=False:=eq_false hlt
    rw [hns,diff] at ih
    generalize keep (decide (d0+t > 0)) (decide (d1 > 0))=now at *
    cases now<;>cases ins<;>simp only [ZbP,ZbI,ZbO,Zbi,Zal,zm,if_true,if_false,ZaE,MJ] at ih<;>simp only [oC,F1,hx,hi1,W0,W1,W2,I0,I1,IN0,IN1,P3,iM,aB hi,zd,Zak,za,zc,ze,F2,e1,aC,Nat.reduceMul,Nat.reduceBEq,Nat.reduceLT,Nat.reduceLeDiff,reduceCtorEq,Nat.reduceEqDiff,Nat.reduceAdd,zb]<;>rw [ih _ (by simp only [hi1,yE,Zat,Zav,aZ,aC,Nat.reduceMul,Nat.reduceBEq,Nat.reduceLT,Nat.reduceLeDiff,reduceCtorEq,Nat.reduceEqDiff,Nat.reduceAdd,zb]<;>rfl)]
  ·-- list 1
   have e1:=hk (decide (d0 > 0)) (decide (d1+t > 0))
   have same:mY keep ⟨p,1,t⟩ true ⟨d0,d1,sp,ins,out⟩=⟨d0,d1+t,sp,ins,out⟩:=by simp [mY]
   have diff:mY keep ⟨p,1,t⟩ false ⟨d0,d1,sp,ins,out⟩=⟨d0,d1+t,if keep (decide (d0 > 0)) (decide (d1+t > 0))&&!ins then (p:Int) else sp,keep (decide (d0 > 0)) (decide (d1+t > 0)),out++(if !keep (decide (d0 > 0)) (decide (d1+t > 0))&&ins then [⟨sp,(p:Int) - sp⟩] else [])⟩:=by simp [mY]
   rcases hnx with ⟨y,hy,hns,hlt,hix⟩|⟨hns,hlt⟩
   ·have F2:(((i+1:Nat):Int)<(L.length:Int))=True:=eq_true hlt
    rw [hns] at ih
    have B:=VG y.pos p
    generalize hb:decide (y.pos=p)=b at ih B
    cases b with
    |true =>
     rw [same] at ih
     simp only [oC,F1,hx,hi1,W0,W1,W2,I0,I1,IN0,IN1,P3,iM,aB hi,zd,Zak,za,zc,ze,F2,hy,hix,B,aC,Nat.reduceMul,Nat.reduceBEq,Nat.reduceLT,Nat.reduceLeDiff,reduceCtorEq,Nat.reduceEqDiff,Nat.reduceAdd,zb]
     rw [ih _ (by simp only [hi1,aC,Nat.reduceMul,Nat.reduceBEq,Nat.reduceLT,Nat.reduceLeDiff,reduceCtorEq,Nat.reduceEqDiff,Nat.reduceAdd,zb]<;>rfl)]
    |false =>
     rw [diff] at ih
     generalize keep (decide (d0 > 0)) (decide (d1+t > 0))=now at *
     cases now<;>cases ins<;>simp only [ZbP,ZbI,ZbO,Zbi,Zal,zm,if_true,if_false,ZaE,MJ] at ih<;>simp only [oC,F1,hx,hi1,W0,W1,W2,I0,I1,IN0,IN1,P3,iM,aB hi,zd,Zak,za,zc,ze,F2,hy,hix,B,e1,aC,Nat.reduceMul,Nat.reduceBEq,Nat.reduceLT,Nat.reduceLeDiff,reduceCtorEq,Nat.reduceEqDiff,Nat.reduceAdd,zb]<;>rw [ih _ (by simp only [hi1,yE,Zat,Zav,aZ,aC,Nat.reduceMul,Nat.reduceBEq,Nat.reduceLT,Nat.reduceLeDiff,reduceCtorEq,Nat.reduceEqDiff,Nat.reduceAdd,zb]<;>rfl)]
   ·have F2:(((i+1:Nat):Int)<(L.length:Int))=False:=eq_false hlt
    rw [hns,diff] at ih
    generalize keep (decide (d0 > 0)) (decide (d1+t > 0))=now at *
    cases now<;>cases ins<;>simp only [ZbP,ZbI,ZbO,Zbi,Zal,zm,if_true,if_false,ZaE,MJ] at ih<;>simp only [oC,F1,hx,hi1,W0,W1,W2,I0,I1,IN0,IN1,P3,iM,aB hi,zd,Zak,za,zc,ze,F2,e1,aC,Nat.reduceMul,Nat.reduceBEq,Nat.reduceLT,Nat.reduceLeDiff,reduceCtorEq,Nat.reduceEqDiff,Nat.reduceAdd,zb]<;>rw [ih _ (by simp only [hi1,yE,Zat,Zav,aZ,aC,Nat.reduceMul,Nat.reduceBEq,Nat.reduceLT,Nat.reduceLeDiff,reduceCtorEq,Nat.reduceEqDiff,Nat.reduceAdd,zb]<;>rfl)]
 ·intro rb
  simp only [oC,ZaL,aC,Nat.reduceMul,Nat.reduceBEq,Nat.reduceLT,Nat.reduceLeDiff,reduceCtorEq,Nat.reduceEqDiff,Nat.reduceAdd,zb]
def setOf (keep:Bool→Bool→Bool)(a b:List bH):List bH:=ext (fun s=>keep (vk a s) (vk b s)) 4096
theorem MK {α:Type}{P:α→Prop}{a b:α}(ha:P a)(hb:P b):∀ l∈[a,b],P l:=by
 intro l hl
 simp only [ZaI,ZcA,or_false] at hl
 rcases hl with rfl|rfl
 ·exact ha
 ·exact hb
theorem QB {i s:Nat}{l m:List End}(h:l.Perm m):dep i s l=dep i s m:=by
 induction h with
 |nil=>rfl
 |cons x _ ih=>simp only [dep,ih]
 |swap x y l=>simp only [dep];omega
 |trans _ _ h1 h2=>exact h1.trans h2
theorem aeJ {i:Nat}{l m:List End}(h:l.Perm m):tot i l=tot i m:=by
 induction h with
 |nil=>rfl
 |cons x _ ih=>simp only [tot,ih]
 |swap x y l=>simp only [tot];omega
 |trans _ _ h1 h2=>exact h1.trans h2
theorem uS (i:Nat)(e:bH)(l:List bH):fJ i (e::l)=(if (wX e).2.2 then [⟨(wX e).1.toNat,i,1⟩,⟨(wX e).2.1.toNat,i,-1⟩] else [])++fJ i l:=by simp [fJ]
theorem tN {i:Nat}:∀ {l:List bH} {x:End},x∈fJ i l→((x.step=1∨x.step=-1)∧x.pos≤4096)∧x.list=i
 |[],x,h=>by simp [fJ] at h
 |e::l,x,h=>by
  rw [uS] at h
  rcases Zax.1 h with h|h
  ·cases hw:(wX e).2.2 with
   |false=>rw [hw] at h;simp at h
   |true =>
    obtain ⟨n,m,hnm,h1,h2,-⟩:=MI hw
    rw [hnm] at h
    simp only [if_true,Zaw,ZaI,ZcA,or_false] at h
    rcases h with rfl|rfl
    ·exact ⟨⟨.inl rfl,by simp only;omega⟩,rfl⟩
    ·exact ⟨⟨.inr rfl,h2⟩,rfl⟩
  ·exact tN h
theorem ML {i j:Nat}:∀ l:List bH,tot j (fJ i l)=0
 |[]=>rfl
 |e::l=>by
  rw [uS,AB,ML l]
  split
  ·simp only [tot];split<;>omega
  ·rfl
theorem Cc {i j s:Nat}(h:i≠j):∀ l:List bH,dep j s (fJ i l)=0
 |[]=>rfl
 |e::l=>by
  rw [uS,yt,Cc h l]
  split
  ·simp [dep,h]
  ·rfl
theorem MO {i s:Nat}(hs:s<4096):∀ l:List bH,0≤dep i s (fJ i l)∧(dep i s (fJ i l) > 0 ↔ vk l s=true)
 |[]=>by simp [fJ,dep,vk]
 |e::l=>by
  obtain ⟨h1,h2⟩:=MO (i:=i) hs l
  rw [uS,yt]
  have h3:vk (e::l) s=(uh e s || vk l s):=rfl
  rw [h3]
  cases hw:(wX e).2.2 with
  |false =>
   rw [aeF hw hs]
   simp only [zm,if_false,dep,Int.zero_add,Zbz]
   exact ⟨h1,h2⟩
  |true =>
   obtain ⟨n,m,hnm,g1,g2,g3⟩:=MI hw
   have g4:=g3 s hs
   rw [hnm]
   simp only [if_true,Zaw,dep,true_and]
   cases hin:uh e s with
   |false =>
    rw [Zbz,← h2]
    have:¬ (n≤s∧s<m):=fun h=>by rw [g4.2 h] at hin;cases hin
    split<;>split<;>omega
   |true =>
    obtain ⟨k1,k2⟩:=g4.1 hin
    rw [if_pos k1,if_neg (by omega)]
    simp only [Zce,iff_true]
    omega
theorem aeK:∀ {l:List End},(∀ i j:Nat,i<j→j<l.length→¬ l[j]!.pos<l[i]!.pos)→Asc l
 |[],_=>trivial
 |[x],_=>trivial
 |x::y::l,h=>by
  refine ⟨?_,aeK fun i j hij hj=>?_⟩
  ·have:=h 0 1 (by omega) (by simp)
   simp at this
   omega
  ·have:=h (i+1) (j+1) (by omega) (by simp at hj ⊢;omega)
   simpa using this
theorem YU {keep:Bool→Bool→Bool}(hk:keep false false=false)(a b:List bH):BO keep (lH [a,b]) 0 0 0 false=setOf keep a b:=by
 obtain ⟨h1,h2,h3⟩:=zq (cu 0 [a,b])
 have hr:cu 0 [a,b]=fJ 0 a++fJ 1 b:=by simp [cu]
 have hmem:∀ x∈lH [a,b],x.pos≤4096:=fun x hx=>by
  have:=h1.mem_iff.1 hx
  rw [hr] at this
  rcases Zax.1 this with q|q
  ·exact (tN q).1.2
  ·exact (tN q).1.2
 have ht:∀ j,tot j (lH [a,b])=0:=fun j=>by
  unfold lH
  rw [aeJ h1,hr,AB,ML,ML];rfl
 have hasc:Asc (lH [a,b]):=aeK fun i j hij hj=>h3 i j hij (by unfold lH at hj;omega)
 rw [adz hk hasc hmem (ht 0) (ht 1)]
 unfold setOf
 apply BN
 intro s hs
 unfold kJ lH
 rw [QB h1,QB h1,hr,yt,yt,Cc (i:=1) (j:=0) (by decide),Cc (i:=0) (j:=1) (by decide),Int.add_zero,Int.zero_add]
 have e1:=(MO (i:=0) hs a).2
 have e2:=(MO (i:=1) hs b).2
 have f1:decide (dep 0 s (fJ 0 a) > 0)=vk a s:=by
  cases h:vk a s
  ·exact decide_eq_false fun q=>by rw [e1.1 q] at h;cases h
  ·exact decide_eq_true (e1.2 h)
 have f2:decide (dep 1 s (fJ 1 b) > 0)=vk b s:=by
  cases h:vk b s
  ·exact decide_eq_false fun q=>by rw [e2.1 q] at h;cases h
  ·exact decide_eq_true (e2.2 h)
 rw [f1,f2]
set_option maxRecDepth 20000 in
theorem aio {keep:Bool→Bool→Bool}(h0:keep false false=false){kf:Nat}(hk:∀ p q,cal env kf [.bool p,.bool q]=some [(.bool (keep p q),false)]){a b:List bH}(ha:MH a)(hb:MH b)(la:a.length≤10000)(lb:b.length≤10000) :
  iter env 256 [.dD [.list 2 (a.map aZ)] 0,.dD [.list 2 (b.map aZ)] 0,.dD [.func kf []] 0] none=some (yE (setOf keep a b)):=by
 have hlim:lim=1073741824:=rfl
 obtain ⟨h1,h2,h3⟩:=zq (cu 0 [a,b])
 have hr:cu 0 [a,b]=fJ 0 a++fJ 1 b:=by simp [cu]
 have hp:=rQ (n:=10000) [a,b] 0 (MK la lb)
 have e1:=alO (ls:=[a,b]) (MK ha hb) (MK la lb) (by simp) h2
 have hE:(lH [a,b]).length≤1000000:=by unfold lH;rw [h2];simp at hp;omega
 have hm:∀ x∈lH [a,b],((x.step=1∨x.step=-1)∧x.pos≤4096)∧x.list<2:=fun x hx=>by
  have:=h1.mem_iff.1 hx
  rw [hr] at this
  rcases Zax.1 this with q|q
  ·have:=tN q;exact ⟨this.1,by omega⟩
  ·have:=tN q;exact ⟨this.1,by omega⟩
 have hres:=(aeI keep (lH [a,b])).trans (YU h0 a b)
 simp only [Zat,Zav,Af] at e1
 have L2:(2≤lim)=True:=eq_true (by omega)
 rw [yg akV rfl rfl]
 have hy:Gt 80 [.dD [.list 2 (a.map aZ)] 0,.dD [.list 2 (b.map aZ)] 0,.dD [.func kf []] 0] none=⟨sl 80 [(0,.qX),(1,.pv (.dD [.list 2 (a.map aZ)] 0)),(2,.pv (.dD [.list 2 (b.map aZ)] 0)),(3,.pv (.dD [.func kf []] 0))],[],[],some none⟩:=rfl
 simp only [PZ]
 rw [hy]
 simp only [e1,L2,za,aC,Nat.reduceMul,Nat.reduceBEq,Nat.reduceLT,Nat.reduceLeDiff,reduceCtorEq,Nat.reduceEqDiff,Nat.reduceAdd,zb]
 rw [ain hk hm hE (by simp only [aC,Nat.reduceMul,Nat.reduceBEq,Nat.reduceLT,Nat.reduceLeDiff,reduceCtorEq,Nat.reduceEqDiff,Nat.reduceAdd,zb]<;>rfl)]
 rw [hres]
 rfl
theorem alR {g:Nat}{caps:List PV}{l:List bH}(hi:iter env g caps none=some (yE l))(hl:l.length≤1000000):cal env 255 [.kY 2,.func g caps]=some [(.list 2 (l.map aZ),true)]:=by
 have hlim:lim=1073741824:=rfl
 rw [ak akU rfl];simp only [PY];simp only [start,aT,aY,aQ,aX,aK,aN,aS,aU,Nat.reduceAdd,Nat.reduceSub]
 simp only [dF,reduceCtorEq,Nat.reduceEqDiff,Nat.reduceAdd,Nat.reduceLT,Nat.reduceLeDiff,zb]
 rw [Ef (env:=env) (fun j=>[⟨false,[.row 2 ((l.take j).map aZ)]⟩]) (xs:=yE l) rfl hi rfl ?_]
 ·simp only [yE,za,ZaW,yC,dF,reduceCtorEq,Nat.reduceEqDiff,Nat.reduceAdd,Nat.reduceLT,Nat.reduceLeDiff,zb]
 ·intro j x hx sl0
  simp only [yE,zd,Zar] at hx
  obtain ⟨e,he,rfl⟩:=hx
  have hj:=(Z1.1 he).1
  have F3:((l.take j).length+1≤lim)=True:=eq_true (by rw [Zam];omega)
  have ht:l.take (j+1)=l.take j++[e]:=by rw [Zcp,he];rfl
  rw [ht]
  refine ⟨?_,?_⟩
  rotate_left
  ·simp only [PU,PX,F3,aZ,ZaH,Zat,Zav,yC,dF,reduceCtorEq,Nat.reduceEqDiff,Nat.reduceAdd,Nat.reduceLT,Nat.reduceLeDiff,zb]
   rfl
theorem alS {g:Nat}{caps:List PV}{l:List bH}(hi:iter env g caps none=some (yE l))(hl:l.length≤1000000):cal env 213 [.func g caps]=some [(.list 2 (l.map aZ),true)]:=by
 have e1:=alR hi hl
 rw [ak akF rfl];simp only [Pv];simp only [start,aT,aY,aQ,aX,aK,aN,aS,aU,Nat.reduceAdd,Nat.reduceSub]
 simp only [e1,dF,reduceCtorEq,Nat.reduceEqDiff,Nat.reduceAdd,Nat.reduceLT,Nat.reduceLeDiff,zb]
def orB (p q:Bool):Bool:=p || q
theorem YV (l:List bH)(i:Nat):(wS l i).length≤l.length+1:=by
 rcases lD l with rfl|⟨p,x,rfl⟩
 ·simp [wS]
 ·rw [jq];split<;>simp
theorem AQ (p:Nat→Bool):∀ n,(ext p n).length≤n
 |0=>zg _
 |n+1=>by
  rw [mV]
  have:=AQ p n
  have:=YV (ext p n) n
  split<;>omega
theorem YW (keep:Bool→Bool→Bool)(a b:List bH):(setOf keep a b).length≤4096:=AQ _ _
theorem alT {a b:List PV}{kf:Nat}:cal env 214 [.list 2 a,.list 2 b,.func kf []]=some [(.func 256 [.dD [.list 2 a] 0,.dD [.list 2 b] 0,.dD [.func kf []] 0],false)]:=by
 rw [ak akG rfl];simp only [Px,aG,Nat.reduceBEq,Nat.reduceLeDiff,Nat.reduceAdd,zc,ze]
 simp only [aC,Nat.reduceMul,Nat.reduceBEq,Nat.reduceLT,Nat.reduceLeDiff,reduceCtorEq,Nat.reduceEqDiff,Nat.reduceAdd,zb]
theorem alU (p q:Bool):cal env 243 [.bool p,.bool q]=some [(.bool (orB p q),false)]:=by
 cases p<;>cases q<;>(rw [ak akO rfl];simp only [PL,aG,Nat.reduceBEq,Nat.reduceLeDiff,Nat.reduceAdd,zc,ze];simp only [aC,Nat.reduceMul,Nat.reduceBEq,Nat.reduceLT,Nat.reduceLeDiff,reduceCtorEq,Nat.reduceEqDiff,Nat.reduceAdd,zb]<;>rfl)
theorem alV {a b:List bH}(ha:MH a)(hb:MH b)(la:a.length≤10000)(lb:b.length≤10000):cal env 180 [.list 2 (a.map aZ),.list 2 (b.map aZ)]=some [(.list 2 ((setOf orB a b).map aZ),true)]:=by
 have e1:=alT (a:=a.map aZ) (b:=b.map aZ) (kf:=243)
 have hi:=aio (keep:=orB) rfl (kf:=243) (fun p q=>alU p q) ha hb la lb
 have hlen:=YW orB a b
 have e2:=alS hi (by omega)
 rw [ak akB rfl];simp only [Pm,aG,Nat.reduceBEq,Nat.reduceLeDiff,Nat.reduceAdd,zc,ze]
 simp only [e1,e2,aC,Nat.reduceMul,Nat.reduceBEq,Nat.reduceLT,Nat.reduceLeDiff,reduceCtorEq,Nat.reduceEqDiff,Nat.reduceAdd,zb]
--+
def orS (l:List bH):List bH:=setOf orB l []
theorem Ce (p:Nat→Bool)(n:Nat):(∀ x∈ext p n,0≤x.start∧1≤x.count∧x.start+x.count≤(n:Int)):=by
 induction n with
 |zero=>intro x hx;cases hx
 |succ n ih =>
  rw [mV]
  split
  ·rcases lD (ext p n) with e|⟨pre,y,e⟩
   ·rw [e]
    intro x hx
    have:wS [] n=[⟨(n:Int),1⟩]:=rfl
    rw [this] at hx
    simp only [Zao] at hx
    subst hx
    simp only;omega
   ·rw [e] at ih ⊢
    intro x hx
    rw [jq] at hx
    split at hx
    ·rcases Zax.1 hx with h|h
     ·have:=ih x (by simp [h]);omega
     ·simp only [Zao] at h
      have:=ih y (by simp)
      subst h;simp only;omega
    ·rcases Zax.1 hx with h|h
     ·have:=ih x h;omega
     ·simp only [Zao] at h
      subst h;simp only;omega
  ·intro x hx;have:=ih x hx;omega
def yF (b:Bm)(l:List bH):Bm:=l.foldl (fun b e=>zA Np b e) b
def Zx:Bm→List bH→Int
 |_,[]=>0
 |b,e::l=>if Eh b e=0 then Zx (zA Np b e) l else Eh b e
def fxE (n:Int)(l:List bH):Int:=if newE n=0 then Zx (tu n) l else newE n
def Zy (n:Int)(l:List bH):Bm:=if fxE n l=0 then yF (tu n) l else ⟨0,[]⟩
theorem aeL {b:Bm}{l:List bH}{k:Nat}(h:k<l.length):Zx (yF b (l.take k)) (l.drop k)=if Eh (yF b (l.take k)) l[k]=0 then Zx (yF b (l.take (k+1))) (l.drop (k+1)) else Eh (yF b (l.take k)) l[k]:=by
 rw [Zah h,Zx]
 congr 2
 unfold yF
 rw [ZaF h,Zcr]
 rfl
def J4 (n:Nat)(b0:Bm)(l:List bH)(e:Int):Option (Ex×St) :=
 if e=0 then some (.normal,⟨sl n [(4,.aP 0 0),(5,.any),(6,.aP 1 0)],[⟨false,[.pv (.int .i64 0),.row 1 []]⟩,⟨false,[.pv (.int .i64 (yF b0 l).size),.pv (.list 1 ((yF b0 l).ws.map eW))]⟩],[],none⟩)
 else some (.ret,⟨sl n [(4,.aP 0 0),(5,.pv (.int .i64 e)),(6,.aP 1 0)],[⟨false,[.pv (.int .i64 0),.pv (.list 1 [])]⟩,⟨false,[.pv (.int .i64 0),.pv (.list 1 [])]⟩],[],none⟩)
theorem VH {l:List bH}{b0:Bm}(hl:l.length≤lim){st:St}(h:st.head [1,4,6,19,20,21] st.boxes.length=some ⟨sl 37 [(1,.pv (.list 2 (l.map aZ))),(4,.aP 0 0),(6,.aP 1 0),(19,.pv (.list 2 (l.map aZ))),(20,.pv (.int .i64 l.length)),(21,.pv (.int .i64 (0:Nat)))],[⟨false,[.pv (.int .i64 0),.row 1 []]⟩,⟨false,[.pv (.int .i64 (yF b0 (l.take ((0:Nat)))).size),.pv (.list 1 ((yF b0 (l.take ((0:Nat)))).ws.map eW))]⟩],[],none⟩) :
  den env Fz st=J4 37 b0 l (Zx (yF b0 (l.take ((0:Nat)))) (l.drop ((0:Nat)))):=by
 unfold Fz
 refine dL (env:=env) (nb:=2) (l.length) (fun i=>⟨sl 37 [(1,.pv (.list 2 (l.map aZ))),(4,.aP 0 0),(6,.aP 1 0),(19,.pv (.list 2 (l.map aZ))),(20,.pv (.int .i64 l.length)),(21,.pv (.int .i64 i))],[⟨false,[.pv (.int .i64 0),.row 1 []]⟩,⟨false,[.pv (.int .i64 (yF b0 (l.take (i))).size),.pv (.list 1 ((yF b0 (l.take (i))).ws.map eW))]⟩],[],none⟩) (fun i=>J4 37 b0 l (Zx (yF b0 (l.take (i))) (l.drop (i)))) h (fun _=>rfl) (fun _=>by simp only [aG,dN,Nat.reduceMul,Nat.reduceBEq,Nat.reduceLT,Nat.reduceLeDiff,Nat.reduceAdd,decide_true,Zal,Zai]) ?_ ?_
 ·intro i rb hi ih
  have hi1:=dV hi hl
  have F1:((i:Int)<(l.length:Int))=True:=eq_true (by omega)
  have eA:∀ b:Bm,wU b=.agg [.int .i64 b.size,.list 1 (b.ws.map eW)]:=fun _=>rfl
  have eX:∀ e:bH,aZ e=.agg [.int .i64 e.start,.int .i64 e.count]:=fun _=>rfl
  have P2:∀ a b:PV,part [a,b] 0 (some 2)=some (.agg [a,b]):=fun _ _=>rfl
  have e2:=ad9 (b:=yF b0 (l.take i)) (e:=l[i])
  have hx:(l.map aZ)[i]?=some (aZ l[i]):=by rw [zd,ZZ hi];rfl
  have hs:yF b0 (l.take (i+1))=zA Np (yF b0 (l.take i)) l[i]:=by unfold yF;rw [ZaF hi,Zcr];rfl
  rw [aeL hi]
  by_cases c0:Eh (yF b0 (l.take i)) l[i]=0
  ·have Z:((0:Int) != 0)=false:=rfl
   rw [if_pos c0]
   rw [c0,← hs] at e2
   generalize yF b0 (l.take i)=p at *
   generalize yF b0 (l.take (i+1))=q at *
   rw [eA,eA,eX] at e2
   rw [eX] at hx
   simp only [Ai,F1,Z,hx,e2,P2,aB hi,za,aC,Nat.reduceMul,Nat.reduceBEq,Nat.reduceLT,Nat.reduceLeDiff,reduceCtorEq,Nat.reduceEqDiff,Nat.reduceAdd,zb]
   rw [ih _ (by simp only [hi1,aC,Nat.reduceMul,Nat.reduceBEq,Nat.reduceLT,Nat.reduceLeDiff,reduceCtorEq,Nat.reduceEqDiff,Nat.reduceAdd,zb]<;>rfl)]
  ·have Z:(Eh (yF b0 (l.take i)) l[i] != 0)=true:=by simpa using c0
   rw [if_neg c0]
   unfold J4
   rw [if_neg c0]
   have hz:zA Np (yF b0 (l.take i)) l[i]=⟨0,[]⟩:=by unfold zA;rw [if_neg c0]
   have hz2:wU ⟨0,[]⟩=.agg [.int .i64 0,.list 1 []]:=rfl
   rw [hz,hz2] at e2
   generalize yF b0 (l.take i)=p at *
   rw [eA,eX] at e2
   rw [eX] at hx
   simp only [Ai,F1,Z,hx,e2,P2,aB hi,za,aC,Nat.reduceMul,Nat.reduceBEq,Nat.reduceLT,Nat.reduceLeDiff,reduceCtorEq,Nat.reduceEqDiff,Nat.reduceAdd,zb]
 ·intro rb
  unfold J4
  rw [Zbq,ZaW,Zx,if_pos rfl]
  simp only [Ai,ZaL,aC,Nat.reduceMul,Nat.reduceBEq,Nat.reduceLT,Nat.reduceLeDiff,reduceCtorEq,Nat.reduceEqDiff,Nat.reduceAdd,zb]
theorem alW {l:List bH}{n:Int}(hl:l.length≤lim):cal env 116 [.int .i64 n,.list 2 (l.map aZ)]=some [(wU (Zy n l),false),(.int .i64 (fxE n l),false)]:=by
 have e0:=ad2 (n:=n)
 have eA:∀ b:Bm,wU b=.agg [.int .i64 b.size,.list 1 (b.ws.map eW)]:=fun _=>rfl
 have hz2:wU ⟨0,[]⟩=.agg [.int .i64 0,.list 1 []]:=rfl
 have P2:∀ a b:PV,part [a,b] 0 (some 2)=some (.agg [a,b]):=fun _ _=>rfl
 have Z:((0:Int) != 0)=false:=rfl
 by_cases c0:newE n=0
 ·have hE:fxE n l=Zx (tu n) l:=by unfold fxE;rw [if_pos c0]
  unfold Zy
  rw [hE]
  rw [c0] at e0
  rw [eA] at e0
  generalize hb:tu n=b0 at *
  by_cases c1:Zx b0 l=0
  ·rw [if_pos c1,c1,eA]
   rw [ak Um rfl];simp only [FB,aG,Nat.reduceBEq,Nat.reduceLeDiff,Nat.reduceAdd,zc,ze]
   simp only [e0,Z,P2,za,aC,Nat.reduceMul,Nat.reduceBEq,Nat.reduceLT,Nat.reduceLeDiff,reduceCtorEq,Nat.reduceEqDiff,Nat.reduceAdd,zb]
   rw [VH (l:=l) (b0:=b0) hl]
   rotate_left
   ·rw [Zbt]
    simp only [aG,dN,Nat.reduceMul,Nat.reduceBEq,Nat.reduceLT,Nat.reduceLeDiff,Nat.reduceAdd,decide_true,Zal,Zai]<;>rfl
   ·rw [Zbt,ZaK]
    unfold J4
    rw [show yF b0 []=b0 from rfl,if_pos c1]
    simp only [e0,Z,P2,za,aC,Nat.reduceMul,Nat.reduceBEq,Nat.reduceLT,Nat.reduceLeDiff,reduceCtorEq,Nat.reduceEqDiff,Nat.reduceAdd,zb]
  ·rw [if_neg c1,hz2]
   rw [ak Um rfl];simp only [FB,aG,Nat.reduceBEq,Nat.reduceLeDiff,Nat.reduceAdd,zc,ze]
   simp only [e0,Z,P2,za,aC,Nat.reduceMul,Nat.reduceBEq,Nat.reduceLT,Nat.reduceLeDiff,reduceCtorEq,Nat.reduceEqDiff,Nat.reduceAdd,zb]
   rw [VH (l:=l) (b0:=b0) hl]
   rotate_left
   ·rw [Zbt]
    simp only [aG,dN,Nat.reduceMul,Nat.reduceBEq,Nat.reduceLT,Nat.reduceLeDiff,Nat.reduceAdd,decide_true,Zal,Zai]<;>rfl
   ·rw [Zbt,ZaK]
    unfold J4
    rw [show yF b0 []=b0 from rfl,if_neg c1]
    simp only [e0,Z,P2,za,aC,Nat.reduceMul,Nat.reduceBEq,Nat.reduceLT,Nat.reduceLeDiff,reduceCtorEq,Nat.reduceEqDiff,Nat.reduceAdd,zb]
 ·have hE:fxE n l=newE n:=by unfold fxE;rw [if_neg c0]
  unfold Zy
  rw [hE,if_neg c0,hz2]
  have Zn:(newE n != 0)=true:=by simpa using c0
  rw [eA] at e0
  rw [ak Um rfl];simp only [FB,aG,Nat.reduceBEq,Nat.reduceLeDiff,Nat.reduceAdd,zc,ze]
  simp only [e0,Zn,P2,za,aC,Nat.reduceMul,Nat.reduceBEq,Nat.reduceLT,Nat.reduceLeDiff,reduceCtorEq,Nat.reduceEqDiff,Nat.reduceAdd,zb]
theorem aeM (b:Bm):(Ir b).length≤4096:=by
 unfold Ir
 split
 ·rename_i c
  have h:=jU c
  have:=AQ (bit b.ws) b.size.toNat
  unfold LZ
  omega
 ·simp
def jL (i:iL):List Nat:=if fP i then encI i.size++encI i.aV++zo (Ir i.bm) else []
theorem aeN {i:iL}(hl:i.act.length≤lim):cal env 90 [oW i]=some [(.list 1 ((jL i).map eY),true)]:=by
 have e0:=Ux (i:=i) hl
 have Ei:∀ i:iL,oW i=.agg [.int .i64 i.size,.int .i64 i.aV,.list 1 (i.act.map eI),.int .i64 i.bm.size,.list 1 (i.bm.ws.map eW)]:=fun _=>rfl
 have P5:∀ a b c d e:PV,part [a,b,c,d,e] 0 (some 5)=some (.agg [a,b,c,d,e]):=fun _ _ _ _ _=>rfl
 have Z0:((0:Int) != 0)=false:=rfl
 have Z3:((3:Int) != 0)=true:=rfl
 unfold aed at e0
 unfold jL
 cases c0:fP i with
 |false =>
  rw [c0,if_neg (by decide)] at e0
  rw [if_neg (by decide)]
  rw [Ei] at e0 ⊢
  rw [ak ai9 rfl];simp only [Yi,aG,Nat.reduceBEq,Nat.reduceLeDiff,Nat.reduceAdd,zc,ze]
  simp only [e0,Z3,P5,aC,Nat.reduceMul,Nat.reduceBEq,Nat.reduceLT,Nat.reduceLeDiff,reduceCtorEq,Nat.reduceEqDiff,Nat.reduceAdd,zb]
 |true =>
  rw [c0,if_pos rfl] at e0
  rw [if_pos rfl]
  have e1:=aez (l:=[]) (n:=i.size) (by simp)
  have q1:=mX i.size
  have q2:=mX i.aV
  have e2:=aez (l:=encI i.size) (n:=i.aV) (by omega)
  have e3:=alf (b:=i.bm)
  have e4:=alE (l:=encI i.size++encI i.aV) (es:=Ir i.bm) (by rw [zp];omega) (by have:=aeM i.bm;omega)
  have eA:∀ b:Bm,wU b=.agg [.int .i64 b.size,.list 1 (b.ws.map eW)]:=fun _=>rfl
  rw [Zav,List.nil_append] at e1
  rw [eA] at e3
  rw [Ei] at e0 ⊢
  rw [ak ai9 rfl];simp only [Yi,aG,Nat.reduceBEq,Nat.reduceLeDiff,Nat.reduceAdd,zc,ze]
  simp only [e0,e1,e2,e3,e4,Z0,P5,dO,aC,Nat.reduceMul,Nat.reduceBEq,Nat.reduceLT,Nat.reduceLeDiff,reduceCtorEq,Nat.reduceEqDiff,Nat.reduceAdd,zb]
def VI (e:bH):Prop:=(0≤e.start∧e.start≤(most:Int))∧(0≤e.count∧e.count≤(most:Int))
theorem alX {e:bH}(h:VI e):okE e:=by
 have:most=9007199254740991:=rfl
 unfold VI at h
 unfold okE
 omega
theorem VJ {l:List Nat}(h:(dA l).1=0):(dH l).length+1≤l.length:=by
 obtain ⟨h1,h2,_⟩:=JU h
 unfold dH
 rw [ZaV]
 omega
theorem aeO {l:List Nat}(h:(fE l).1=0):VI (fE l).2.1∧(fE l).2.2.length+2≤l.length:=by
 unfold fE at h ⊢
 split at h
 ·rename_i c
  rw [if_pos c]
  simp only at h ⊢
  have h1:=VJ c
  have h2:=VJ h
  have m1:=JY l
  have m2:=JY (dH l)
  unfold VI
  simp only
  omega
 ·rename_i c
  simp only at h
  exact absurd h c
theorem VK:∀ (k:Nat) (l:List Nat) (acc:List bH),(∀ e∈acc,VI e)→(vN k l acc).1=0→(∀ e∈(vN k l acc).2.1,VI e)∧2*(vN k l acc).2.1.length≤l.length+2*acc.length
 |0,l,acc,ha,_=>⟨ha,by simp only [vN];omega⟩
 |k+1,l,acc,ha,h=>by
  unfold vN at h ⊢
  split at h
  ·rename_i c
   rw [if_pos c]
   obtain ⟨h1,h2⟩:=aeO c
   obtain ⟨g1,g2⟩:=VK k _ _ (by
    intro e he
    rcases Zax.1 he with he|he
    ·exact ha e he
    ·rw [Zao.1 he];exact h1) h
   refine ⟨g1,?_⟩
   rw [zp] at g2
   simp only [List.length_singleton] at g2
   omega
  ·rename_i c
   exact absurd h c
theorem aip {l:List Nat}(h:(iO l).1=0):(∀ e∈(iO l).2.1,VI e)∧2*(iO l).2.1.length≤l.length:=by
 unfold iO at h ⊢
 split at h
 ·rename_i c
  rw [if_pos c]
  unfold aeC at h ⊢
  simp only at h ⊢
  rw [if_pos h]
  obtain ⟨g1,g2⟩:=VK _ _ _ (by simp) h
  refine ⟨g1,?_⟩
  have:=jA l
  simp only [ze] at g2
  omega
 ·rename_i c
  simp only at h
  exact absurd h c
def tV (b:List Nat):Nat×Int×Int×List bH :=
 if (dA b).1=0 then
  if (dA (dH b)).1=0 then
   if (iO (dH (dH b))).1=0 then
    (if (iO (dH (dH b))).2.2=[] then 0 else 3,(dA b).2.1,(dA (dH b)).2.1,(iO (dH (dH b))).2.1)
   else ((iO (dH (dH b))).1,(dA b).2.1,(dA (dH b)).2.1,[])
  else ((dA (dH b)).1,0,0,[])
 else ((dA b).1,0,0,[])
theorem aiq (b:List Nat):(∀ e∈(tV b).2.2.2,VI e)∧2*(tV b).2.2.2.length≤b.length:=by
 unfold tV
 split
 ·split
  ·split
   ·rename_i c1 c2 c3
    obtain ⟨g1,g2⟩:=aip c3
    have h1:=jA b
    have h2:=jA (dH b)
    refine ⟨g1,?_⟩
    simp only
    omega
   ·simp
  ·simp
 ·simp
theorem xk {n:Int}(h:0≤n∧n≤(most:Int))(rest:List Nat):dA (encI n++rest)=(0,n.toNat,(encI n).length)∧dH (encI n++rest)=rest:=by
 have hm:most=9007199254740991:=rfl
 have hc:jI n=n.toNat:=by unfold jI;rw [if_neg (by omega)]
 have h1:dA (encI n++rest)=(0,n.toNat,(encI n).length):=by
  unfold encI
  rw [hc]
  exact aia (by omega) rest
 refine ⟨h1,?_⟩
 unfold dH
 rw [h1]
 simp
theorem aeP {e:bH}(h:VI e)(rest:List Nat):fE (kK e++rest)=(0,e,rest):=by
 obtain ⟨h1,h2⟩:=xk h.1 (encI e.count++rest)
 obtain ⟨h3,h4⟩:=xk h.2 rest
 unfold fE kK
 rw [Zan,h1,h2,h3,h4]
 obtain ⟨s,c⟩:=e
 unfold VI at h
 simp only at h ⊢
 rw [if_pos trivial]
 simp only [Prod.mk.injEq,bH.mk.injEq,true_and,and_true]
 omega
theorem VL:∀ (es:List bH) (rest:List Nat) (acc:List bH),(∀ e∈es,VI e)→vN es.length (es.flatMap kK++rest) acc=(0,acc++es,rest)
 |[],rest,acc,_=>by simp [vN]
 |e::es,rest,acc,h=>by
  have hp:=aeP (h e (by simp)) (es.flatMap kK++rest)
  rw [zc,vN,Zcq,Zan,hp]
  simp only
  rw [if_pos trivial,VL es rest _ (fun x hx=>h x (by simp [hx]))]
  simp
theorem air {es:List bH}(h:∀ e∈es,VI e)(hl:es.length≤65536)(rest:List Nat):iO (zo es++rest)=(0,es,rest):=by
 have hm:most=9007199254740991:=rfl
 obtain ⟨h1,h2⟩:=xk (n:=(es.length:Int)) (by omega) (es.flatMap kK++rest)
 have hE:Iy (encI (es.length:Int)++(es.flatMap kK++rest))=0:=by
  unfold Iy
  rw [h1]
  simp only [Zaw]
  rw [if_neg (by omega)]
 unfold zo
 rw [Zan]
 unfold iO
 rw [if_pos hE,h1,h2]
 simp only [Zaw]
 rw [VL es rest [] h]
 unfold aeC
 simp
theorem aeQ {s g:Int}{es:List bH}(hs:0≤s∧s≤(most:Int))(hg:0≤g∧g≤(most:Int))(h:∀ e∈es,VI e)(hl:es.length≤65536):tV (encI s++encI g++zo es)=(0,s,g,es):=by
 obtain ⟨h1,h2⟩:=xk hs (encI g++zo es)
 obtain ⟨h3,h4⟩:=xk hg (zo es)
 have h5:=air h hl []
 rw [ZaE] at h5
 unfold tV
 rw [Zan,h1,h2,h3,h4,h5]
 simp only
 rw [if_pos trivial,if_pos trivial,if_pos trivial,if_pos trivial]
 simp only [Prod.mk.injEq,true_and,and_true]
 omega
theorem ais {size:Int}{e:bH}(h:tC size e=true)(s:Nat):uh e s=decide (e.start≤(s:Int)∧(s:Int)<e.start+e.count):=by
 have h:=lS.1 h
 unfold uh
 rw [Zbv]
 simp only [ZS,decide_eq_true_eq]
 omega
theorem aje:∀ (l:List bH) {b:Bm},okB b=true→(∀ e∈l,tC b.size e=true)→Zx b l=0∧okB (yF b l)=true∧(yF b l).size=b.size∧∀ s:Nat,(s:Int)<b.size→bit (yF b l).ws s=(bit b.ws s || vk l s)
 |[],b,h,_=>⟨rfl,h,rfl,fun s _=>by simp [yF,vk]⟩
 |e::l,b,h,hf=>by
  obtain ⟨k1,k2,k3,k4⟩:=Uz h (hf e (by simp))
  obtain ⟨g1,g2,g3,g4⟩:=aje l k2 (fun x hx=>by rw [k3];exact hf x (by simp [hx]))
  refine ⟨?_,g2,g3.trans k3,fun s hs=>?_⟩
  ·unfold Zx
   rw [if_pos k1]
   exact g1
  ·have:=g4 s (by rw [k3];exact hs)
   show bit (yF (zA Np b e) l).ws s=_
   rw [this,k4 s hs,← ais (hf e (by simp)) s,Bool.or_assoc]
   rfl
theorem ajf {n:Nat}{l:List bH}(hn:n≤4096)(h:∀ e∈l,0≤e.start∧1≤e.count∧e.start+e.count≤(n:Int)):fxE n l=0∧Zy n l=yF (tu n) l∧okB (Zy n l)=true∧(Zy n l).size=(n:Int)∧∀ s:Nat,s<n→bit (Zy n l).ws s=vk l s:=by
 obtain ⟨h1,h2,h3,h4⟩:=aeo hn
 obtain ⟨g1,g2,g3,g4⟩:=aje l h2 (fun e he=>by
  obtain ⟨q1,q2,q3⟩:=h e he
  rw [h3]
  exact lS.2 (by omega))
 have e1:fxE n l=0:=by unfold fxE;rw [if_pos h1];exact g1
 have e2:Zy n l=yF (tu n) l:=by unfold Zy;rw [if_pos e1]
 rw [e2]
 refine ⟨e1,rfl,g2,g3.trans h3,fun s hs=>?_⟩
 rw [g4 s (by rw [h3];omega),h4 s,Zbz]
end Go.Proofs.YthccglceomoboaaGreatDoor.V
namespace Go.Proofs.YthccglceomoboaaGreatDoor
end Go.Proofs.YthccglceomoboaaGreatDoor
namespace Go.Proofs.YthccglceomoboaaGreatDoor.V
def mk (f:Nat→Bool):List Bool:=(List.range 4096).map f
theorem GZ (l:List bH)(e:bH)(s:Nat):vk (l++[e]) s=(vk l s || uh e s):=by simp [vk]
def mZ (size:Int):Int→List bH→Int
 |_,[]=>0
 |nx,e::l=>if e.count≤0 then 1 else if e.start<0∨e.count > size - e.start then 2 else if e.start<nx then 3 else mZ size (e.start+e.count+1) l
def G5 (l:List bH)(size:Int):Int:=if size<0∨4096<size then 2 else mZ size 0 l
def QC (l:List bH):Nat→Int
 |0=>0
 |i+1=>match l[i]? with
  |some e=>e.start+e.count+1
  |none=>0
theorem QD {l:List bH}{i:Nat}{e:bH}(h:l[i]?=some e):QC l (i+1)=e.start+e.count+1:=by
 show (match l[i]? with
  |some e=>e.start+e.count+1
  |none=>0)=_
 rw [h]
set_option maxRecDepth 20000 in
theorem ait {l:List bH}{size:Int}(hs:0≤size∧size≤4096)(ho:MH l)(hl:l.length≤10000){st:St}(h:st.head [0,1,5,14,15,16] st.boxes.length=some ⟨sl 49 [(0,.pv (.list 2 (l.map aZ))),(1,.pv (.int .i64 size)),(5,.pv (.int .i64 (QC l ((0:Nat))))),(14,.pv (.list 2 (l.map aZ))),(15,.pv (.int .i64 l.length)),(16,.pv (.int .i64 (0:Nat)))],[],[],none⟩) :
  den env Fq st=if mZ size (QC l ((0:Nat))) (l.drop ((0:Nat)))=0 then some (.normal,⟨sl 49 [(4,.any)],[],[],none⟩) else some (.ret,⟨sl 49 [(4,.pv (.int .i64 (mZ size (QC l ((0:Nat))) (l.drop ((0:Nat))))))],[],[],none⟩):=by
 unfold Fq
 refine dL (env:=env) (l.length) (fun i=>⟨sl 49 [(0,.pv (.list 2 (l.map aZ))),(1,.pv (.int .i64 size)),(5,.pv (.int .i64 (QC l (i)))),(14,.pv (.list 2 (l.map aZ))),(15,.pv (.int .i64 l.length)),(16,.pv (.int .i64 i))],[],[],none⟩) (fun i=>if mZ size (QC l (i)) (l.drop (i))=0 then some (.normal,⟨sl 49 [(4,.any)],[],[],none⟩) else some (.ret,⟨sl 49 [(4,.pv (.int .i64 (mZ size (QC l (i)) (l.drop (i)))))],[],[],none⟩)) h (fun _=>rfl) (fun _=>by simp only [aG,dN,Nat.reduceMul,Nat.reduceBEq,Nat.reduceLT,Nat.reduceLeDiff,Nat.reduceAdd,decide_true,Zal,Zai]) ?_ ?_
 ·intro i rb hi ih
  have hlim:lim=1073741824:=rfl
  have hi1:=dV hi (by omega)
  have F1:((i:Int)<(l.length:Int))=True:=eq_true (by omega)
  have hx:l[i]?=some l[i]:=ZZ hi
  obtain ⟨⟨o1,o2⟩,o3,o4⟩:=ho _ (ZaD hi)
  rw [QD hx] at ih
  rw [Zah hi]
  generalize l[i]=x at *
  have P2:part [PV.int .i64 x.start,.int .i64 x.count] 0 (some 2)=some (.agg [.int .i64 x.start,.int .i64 x.count]):=rfl
  have ch:mZ size (QC l i) (x::l.drop (i+1))=if x.count≤0 then 1 else if x.start<0∨x.count > size - x.start then 2 else if x.start<QC l i then 3 else mZ size (x.start+x.count+1) (l.drop (i+1)):=rfl
  by_cases c1:x.count≤0
  ·rw [ch,if_pos c1]
   simp only [qK,F1,hx,aZ,P2,c1,aB hi,zd,Zak,za,aC,Nat.reduceMul,Nat.reduceBEq,Nat.reduceLT,Nat.reduceLeDiff,reduceCtorEq,Nat.reduceEqDiff,Nat.reduceAdd,zb]
   rfl
  ·by_cases c2:x.start<0
   ·have hv:mZ size (QC l i) (x::l.drop (i+1))=2:=by rw [ch,if_neg c1,if_pos (.inl c2)]
    rw [hv]
    simp only [qK,F1,hx,aZ,P2,c1,c2,aB hi,zd,Zak,za,aC,Nat.reduceMul,Nat.reduceBEq,Nat.reduceLT,Nat.reduceLeDiff,reduceCtorEq,Nat.reduceEqDiff,Nat.reduceAdd,zb]
    rfl
   ·have W1:IntKind.i64.wrap (size - x.start)=size - x.start:=aF (by omega)
    by_cases c3:x.count > size - x.start
    ·have hv:mZ size (QC l i) (x::l.drop (i+1))=2:=by rw [ch,if_neg c1,if_pos (.inr c3)]
     rw [hv]
     have c3':(x.count > size - x.start)=True:=eq_true c3
     simp only [qK,F1,hx,aZ,P2,c1,c2,c3',W1,aB hi,zd,Zak,za,aC,Nat.reduceMul,Nat.reduceBEq,Nat.reduceLT,Nat.reduceLeDiff,reduceCtorEq,Nat.reduceEqDiff,Nat.reduceAdd,zb]
     rfl
    ·have c3':(x.count > size - x.start)=False:=eq_false c3
     by_cases c4:x.start<QC l i
     ·have hv:mZ size (QC l i) (x::l.drop (i+1))=3:=by rw [ch,if_neg c1,if_neg (by omega),if_pos c4]
      rw [hv]
      simp only [qK,F1,hx,aZ,P2,c1,c2,c3',c4,W1,aB hi,zd,Zak,za,aC,Nat.reduceMul,Nat.reduceBEq,Nat.reduceLT,Nat.reduceLeDiff,reduceCtorEq,Nat.reduceEqDiff,Nat.reduceAdd,zb]
      rfl
     ·have hv:mZ size (QC l i) (x::l.drop (i+1))=mZ size (x.start+x.count+1) (l.drop (i+1)):=by rw [ch,if_neg c1,if_neg (by omega),if_neg c4]
      rw [hv]
      have W2:IntKind.i64.wrap (x.start+x.count)=x.start+x.count:=aF (by omega)
      have W3:IntKind.i64.wrap (x.start+x.count+1)=x.start+x.count+1:=aF (by omega)
      simp only [qK,F1,hx,aZ,P2,c1,c2,c3',c4,W1,W2,W3,aB hi,zd,Zak,za,aC,Nat.reduceMul,Nat.reduceBEq,Nat.reduceLT,Nat.reduceLeDiff,reduceCtorEq,Nat.reduceEqDiff,Nat.reduceAdd,zb]
      have hn:QC l (i+1)=x.start+x.count+1:=QD hx
      rw [ih _ (by simp only [hi1,hn,aC,Nat.reduceMul,Nat.reduceBEq,Nat.reduceLT,Nat.reduceLeDiff,reduceCtorEq,Nat.reduceEqDiff,Nat.reduceAdd,zb]<;>rfl)]
 ·intro rb
  simp only [qK,ZaL,za,Zbq,mZ,if_true,aC,Nat.reduceMul,Nat.reduceBEq,Nat.reduceLT,Nat.reduceLeDiff,reduceCtorEq,Nat.reduceEqDiff,Nat.reduceAdd,zb]
theorem alY {l:List bH}{size:Int}(ho:MH l)(hl:l.length≤10000):cal env 106 [.list 2 (l.map aZ),.int .i64 size]=some [(.int .i64 (G5 l size),false)]:=by
 unfold G5
 by_cases c1:size<0
 ·rw [if_pos (.inl c1)]
  rw [ak Ul rfl];simp only [Fv,aG,Nat.reduceBEq,Nat.reduceLeDiff,Nat.reduceAdd,zc,ze]
  simp only [c1,aC,Nat.reduceMul,Nat.reduceBEq,Nat.reduceLT,Nat.reduceLeDiff,reduceCtorEq,Nat.reduceEqDiff,Nat.reduceAdd,zb]
 ·by_cases c2:4096<size
  ·rw [if_pos (.inr c2)]
   have c2':(size > 4096)=True:=eq_true c2
   rw [ak Ul rfl];simp only [Fv,aG,Nat.reduceBEq,Nat.reduceLeDiff,Nat.reduceAdd,zc,ze]
   simp only [c1,c2',aC,Nat.reduceMul,Nat.reduceBEq,Nat.reduceLT,Nat.reduceLeDiff,reduceCtorEq,Nat.reduceEqDiff,Nat.reduceAdd,zb]
  ·rw [if_neg (by omega)]
   have c2':(size > 4096)=False:=eq_false c2
   rw [ak Ul rfl];simp only [Fv,aG,Nat.reduceBEq,Nat.reduceLeDiff,Nat.reduceAdd,zc,ze]
   simp only [c1,c2',za,aC,Nat.reduceMul,Nat.reduceBEq,Nat.reduceLT,Nat.reduceLeDiff,reduceCtorEq,Nat.reduceEqDiff,Nat.reduceAdd,zb]
   rw [ait (size:=size) ⟨by omega,by omega⟩ ho hl (by simp only [QC,aC,Nat.reduceMul,Nat.reduceBEq,Nat.reduceLT,Nat.reduceLeDiff,reduceCtorEq,Nat.reduceEqDiff,Nat.reduceAdd,zb]<;>rfl)]
   rw [ZaK]
   have h0:QC l 0=0:=rfl
   rw [h0]
   split
   ·rename_i h
    rw [h]
    simp only [c1,c2',za,aC,Nat.reduceMul,Nat.reduceBEq,Nat.reduceLT,Nat.reduceLeDiff,reduceCtorEq,Nat.reduceEqDiff,Nat.reduceAdd,zb]
   ·simp only [c1,c2',za,aC,Nat.reduceMul,Nat.reduceBEq,Nat.reduceLT,Nat.reduceLeDiff,reduceCtorEq,Nat.reduceEqDiff,Nat.reduceAdd,zb]
theorem QE {size:Int}:∀ (l:List bH) (nx:Int),mZ size nx l=0→∀ e∈l,0≤e.start∧1≤e.count∧e.start+e.count≤size
 |[],_,_,e,he=>by cases he
 |x::l,nx,h,e,he=>by
  unfold mZ at h
  split at h
  ·omega
  ·split at h
   ·omega
   ·split at h
    ·omega
    ·rcases ZaI.1 he with rfl|he
     ·omega
     ·exact QE l _ h e he
theorem aiu {l:List bH}{size:Int}(h:G5 l size=0):∀ e∈l,0≤e.start∧1≤e.count∧e.start+e.count≤size:=by
 unfold G5 at h
 split at h
 ·omega
 ·exact QE l 0 h
def tX (s g:Int)(x:bH):bH:=⟨x.start*g,(if s<(x.start+x.count)*g then s else (x.start+x.count)*g) - x.start*g⟩
def MP (s g:Int)(b:List Nat):Int :=
 if yK s g=0 then
  if (tV b).1=0 then
   if (tV b).2.1=s∧(tV b).2.2.1=g then
    if G5 (tV b).2.2.2 (mW s g)=0 then 0 else 3
   else 22
  else ((tV b).1:Int)
 else yK s g
def rcI (s g:Int)(b:List Nat):iL:=if MP s g b=0 then { jJ s g with bm:=Zy (mW s g) (tV b).2.2.2 } else YE
def VN (s g:Int)(b:List Nat):List bH:=if MP s g b=0 then orS ((tV b).2.2.2.map (tX s g)) else []
theorem Ci {n k:Int}{x:bH}(hn:1≤n∧n≤4096)(hk:1≤k∧k≤4096)(hx:0≤x.start∧1≤x.count∧x.start+x.count≤mW n k):(0≤x.start*k∧x.start*k≤16777216)∧(0≤(x.start+x.count)*k∧(x.start+x.count)*k≤16777216)∧x.start*k<n∧x.start*k+k≤(x.start+x.count)*k:=by
 have hg:mW n k≤4096:=by have:=(lG (cZ.2 ⟨hn.1,hn.2,hk.1,hk.2⟩)).2;omega
 have h1:x.start*k≤4096*4096:=Int.mul_le_mul (by omega) (by omega) (by omega) (by omega)
 have h2:(x.start+x.count)*k≤4096*4096:=Int.mul_le_mul (by omega) (by omega) (by omega) (by omega)
 have h3:0≤x.start*k:=Int.mul_nonneg (by omega) (by omega)
 have h4:0≤(x.start+x.count)*k:=Int.mul_nonneg (by omega) (by omega)
 have h5:mW n k*k≤n+k - 1:=by unfold mW;exact Int.ediv_mul_le _ (by omega)
 have h6:(x.start+1)*k≤mW n k*k:=ZcG (by omega) (by omega)
 have h7:(x.start+1)*k≤(x.start+x.count)*k:=ZcG (by omega) (by omega)
 rw [Int.add_mul,Int.one_mul] at h6 h7
 omega
def aeR (o:iL)(b:Bm):List BV:=[.pv (.int .i64 o.size),.pv (.int .i64 o.aV),.pv (.list 1 (o.act.map eI)),.pv (.int .i64 b.size),.pv (.list 1 (b.ws.map eW))]
theorem VO (o:iL)(b:Bm):aeR o b=[.pv (.int .i64 o.size),.pv (.int .i64 o.aV),.pv (.list 1 (o.act.map eI)),.pv (.int .i64 b.size),.pv (.list 1 (b.ws.map eW))]:=rfl
theorem alZ {n k:Int}{l:List bH}{o:iL}{b:Bm}(hn:1≤n∧n≤4096)(hk:1≤k∧k≤4096)(hx:∀ x∈l,0≤x.start∧1≤x.count∧x.start+x.count≤mW n k)(hl:l.length≤lim){st:St}(h:st.head [0,1,6,9,10,13,14,51,89,90,91,114] st.boxes.length=some ⟨sl 120 [(0,.pv (.int .i64 n)),(1,.pv (.int .i64 k)),(6,.aP 0 0),(9,.aP 1 0),(10,.pv (.int .i64 0)),(13,.pv (.list 2 (l.map aZ))),(14,.row 2 (((l.take ((0:Nat))).map (tX n k)).map aZ)),(51,.any),(89,.pv (.list 2 (l.map aZ))),(90,.pv (.int .i64 l.length)),(91,.pv (.int .i64 (0:Nat))),(114,.any)],[⟨false,[.pv (.int .i64 0),.pv (.int .i64 0),.row 1 [],.pv (.int .i64 0),.row 1 []]⟩,⟨false,aeR o b⟩],[],none⟩) :
  den env LP st=some (.normal,⟨sl 120 [(6,.aP 0 0),(7,.any),(8,.any),(9,.aP 1 0),(10,.pv (.int .i64 0)),(14,.row 2 ((l.map (tX n k)).map aZ))],[⟨false,[.pv (.int .i64 0),.pv (.int .i64 0),.row 1 [],.pv (.int .i64 0),.row 1 []]⟩,⟨false,aeR o b⟩],[],none⟩):=by
 unfold LP
 refine dL (env:=env) (nb:=2) (l.length) (fun i=>⟨sl 120 [(0,.pv (.int .i64 n)),(1,.pv (.int .i64 k)),(6,.aP 0 0),(9,.aP 1 0),(10,.pv (.int .i64 0)),(13,.pv (.list 2 (l.map aZ))),(14,.row 2 (((l.take (i)).map (tX n k)).map aZ)),(51,.any),(89,.pv (.list 2 (l.map aZ))),(90,.pv (.int .i64 l.length)),(91,.pv (.int .i64 i)),(114,.any)],[⟨false,[.pv (.int .i64 0),.pv (.int .i64 0),.row 1 [],.pv (.int .i64 0),.row 1 []]⟩,⟨false,aeR o b⟩],[],none⟩) (fun i=>some (.normal,⟨sl 120 [(6,.aP 0 0),(7,.any),(8,.any),(9,.aP 1 0),(10,.pv (.int .i64 0)),(14,.row 2 ((l.map (tX n k)).map aZ))],[⟨false,[.pv (.int .i64 0),.pv (.int .i64 0),.row 1 [],.pv (.int .i64 0),.row 1 []]⟩,⟨false,aeR o b⟩],[],none⟩)) h (fun _=>rfl) (fun _=>by simp only [aG,dN,Nat.reduceMul,Nat.reduceBEq,Nat.reduceLT,Nat.reduceLeDiff,Nat.reduceAdd,decide_true,Zal,Zai]) ?_ ?_
 ·intro i rb hi ih
  have hi1:=dV hi hl
  have F1:((i:Int)<(l.length:Int))=True:=eq_true (by omega)
  have eX:∀ e:bH,aZ e=.agg [.int .i64 e.start,.int .i64 e.count]:=fun _=>rfl
  have hg:(l.map aZ)[i]?=some (aZ l[i]):=by rw [zd,ZZ hi];rfl
  obtain ⟨a1,a2,a3,a4⟩:=Ci hn hk (hx _ (ZaD hi))
  have q:=hx _ (ZaD hi)
  have hgl:=(lG (cZ.2 ⟨hn.1,hn.2,hk.1,hk.2⟩)).2
  have W1:IntKind.i64.wrap (l[i].start*k)=l[i].start*k:=aF (by omega)
  have W2:IntKind.i64.wrap (l[i].start+l[i].count)=l[i].start+l[i].count:=aF (by omega)
  have W3:IntKind.i64.wrap ((l[i].start+l[i].count)*k)=(l[i].start+l[i].count)*k:=aF (by omega)
  have W4:IntKind.i64.wrap ((if n<(l[i].start+l[i].count)*k then n else (l[i].start+l[i].count)*k) - l[i].start*k)=(if n<(l[i].start+l[i].count)*k then n else (l[i].start+l[i].count)*k) - l[i].start*k:=aF (by split<;>omega)
  have hs:((l.take (i+1)).map (tX n k)).map aZ=((l.take i).map (tX n k)).map aZ++[.agg [.int .i64 (l[i].start*k),.int .i64 ((if n<(l[i].start+l[i].count)*k then n else (l[i].start+l[i].count)*k) - l[i].start*k)]]:=by
   rw [ZaF hi,ZaH,ZaH];rfl
  have F3:((((l.take i).map (tX n k)).map aZ).length+1≤lim)=True:=eq_true (by rw [za,za,Zam];omega)
  rw [eX] at hg
  rw [hs] at ih
  generalize ((l.take i).map (tX n k)).map aZ=m at *
  simp only [LM,F1,F3,hg,W1,W2,W3,W4,aB hi,za,ZaW,aC,Nat.reduceMul,Nat.reduceBEq,Nat.reduceLT,Nat.reduceLeDiff,reduceCtorEq,Nat.reduceEqDiff,Nat.reduceAdd,zb]
  rw [ih _ (by simp only [hi1,aC,Nat.reduceMul,Nat.reduceBEq,Nat.reduceLT,Nat.reduceLeDiff,reduceCtorEq,Nat.reduceEqDiff,Nat.reduceAdd,zb]<;>rfl)]
 ·intro rb
  rw [ZaW]
  simp only [LM,ZaL,aC,Nat.reduceMul,Nat.reduceBEq,Nat.reduceLT,Nat.reduceLeDiff,reduceCtorEq,Nat.reduceEqDiff,Nat.reduceAdd,zb]
theorem anL {s g:Int}{b:List Nat}(hb:∀ c∈b,c<256)(hl:b.length≤10000):cal env 89 [.int .i64 s,.int .i64 g,.list 1 (b.map eY)]=some [(oW (rcI s g b),false),(.list 2 ((VN s g b).map aZ),true),(.int .i64 (MP s g b),false)]:=by
 have e0:=ajb (s:=s) (g:=g)
 have e1:=aeD hb (show b.length≤1000000 by omega)
 have Ei:∀ i:iL,oW i=.agg [.int .i64 i.size,.int .i64 i.aV,.list 1 (i.act.map eI),.int .i64 i.bm.size,.list 1 (i.bm.ws.map eW)]:=fun _=>rfl
 have eA:∀ b:Bm,wU b=.agg [.int .i64 b.size,.list 1 (b.ws.map eW)]:=fun _=>rfl
 have P5:∀ a b c d e:PV,part [a,b,c,d,e] 0 (some 5)=some (.agg [a,b,c,d,e]):=fun _ _ _ _ _=>rfl
 have Z0:((0:Int) != 0)=false:=rfl
 have Zn:(((0:Nat):Int) != 0)=false:=rfl
 have Z3:((3:Int) != 0)=true:=rfl
 have Zl:(((0:Nat):Int) > 0)=False:=eq_false (by omega)
 unfold rcI VN
 by_cases c0:yK s g=0
 ·have h0:lT s g=true:=by
   unfold yK at c0
   split at c0
   ·assumption
   ·cases c0
  have hgl:=lG h0
  obtain ⟨z1,z2,z3,z4⟩:=cZ.1 h0
  rw [c0,Ei] at e0
  by_cases c1:(dA b).1=0
  ·rw [c1,if_pos rfl] at e1
   have e2:=aeD (l:=dH b) (fun c h=>hb c (oI h)) (by have:=jA b;omega)
   by_cases c2:(dA (dH b)).1=0
   ·rw [c2,if_pos rfl] at e2
    have e3:=alM (l:=dH (dH b)) (fun c h=>hb c (oI (oI h))) (by have:=jA b;have:=jA (dH b);omega)
    by_cases c3:(iO (dH (dH b))).1=0
    ·rw [c3,if_pos rfl,if_pos rfl] at e3
     by_cases c4:(iO (dH (dH b))).2.2=[]
     ·rw [c4,Zav] at e3
      have hD:tV b=(0,((dA b).2.1:Int),((dA (dH b)).2.1:Int),(iO (dH (dH b))).2.1):=by
       unfold tV;rw [if_pos c1,if_pos c2,if_pos c3,if_pos c4]
      obtain ⟨k1,k2⟩:=aiq b
      rw [hD] at k1 k2
      simp only at k1 k2
      have hR:MP s g b=if ((dA b).2.1:Int)=s∧((dA (dH b)).2.1:Int)=g then if G5 (iO (dH (dH b))).2.1 (mW s g)=0 then 0 else 3 else 22:=by
       unfold MP;rw [if_pos c0,hD];simp only;rw [if_pos trivial]
      rw [hD]
      simp only
      generalize MP s g b=E at *
      generalize ((dA b).2.1:Int)=n at *
      generalize ((dA (dH b)).2.1:Int)=k at *
      generalize (iO (dH (dH b))).2.1=l at *
      by_cases c5:n=s∧k=g
      ·rw [if_pos c5] at hR
       obtain ⟨rfl,rfl⟩:=c5
       have B1:(n != n)=false:=by simp
       have B2:(k != k)=false:=by simp
       have hact:((jJ n k).act.length:Int)=mW n k:=by
        unfold jJ;rw [if_pos h0,List.length_replicate];omega
       have e4:=alY (l:=l) (size:=mW n k) (fun x hx=>alX (k1 x hx)) (by omega)
       by_cases c6:G5 l (mW n k)=0
       ·rw [if_pos c6] at hR
        rw [c6] at e4
        subst hR
        rw [if_pos rfl,if_pos rfl]
        have e5:=alW (l:=l) (n:=mW n k) (by unfold lim;omega)
        have hin:=aiu c6
        have hfx:fxE (mW n k) l=0:=by
         have:=(ajf (n:=(mW n k).toNat) (l:=l) (by omega) (fun e he=>by obtain ⟨q1,q2,q3⟩:=hin e he;omega)).1
         rwa [show (((mW n k).toNat:Nat):Int)=mW n k by omega] at this
        rw [eA,hfx] at e5
        have e6:=alV (a:=l.map (tX n k)) (b:=[]) (fun x hx=>by
         obtain ⟨y,hy,rfl⟩:=Za9.1 hx
         obtain ⟨a1,a2,a3,a4⟩:=Ci ⟨z1,z2⟩ ⟨z3,z4⟩ (hin y hy)
         unfold tX okE
         simp only
         split<;>omega) (fun x hx=>by cases hx) (by rw [za];omega) (by simp)
        rw [Zav] at e6
        unfold orS
        generalize jJ n k=o at *
        generalize Zy (mW n k) l=b2 at *
        have hsc:(PV.agg [.int .i64 b2.size,.list 1 (b2.ws.map eW)]).scalar=false:=rfl
        simp only [Ei]
        rw [ak Az rfl];simp only [BL,aG,Nat.reduceBEq,Nat.reduceLeDiff,Nat.reduceAdd,zc,ze]
        simp only [e0,e1,e2,e3,e4,e5,hsc,Z0,Zn,Z3,Zl,B1,B2,P5,dO,hact,za,ze,aC,Nat.reduceMul,Nat.reduceBEq,Nat.reduceLT,Nat.reduceLeDiff,reduceCtorEq,Nat.reduceEqDiff,Nat.reduceAdd,zb]
        rw [alZ (n:=n) (k:=k) (l:=l) (o:=o) (b:=b2) ⟨z1,z2⟩ ⟨z3,z4⟩ hin (by unfold lim;omega)]
        rotate_left
        ·rw [Zbt,Zav,Zav,VO]
         simp only [aG,dN,Nat.reduceMul,Nat.reduceBEq,Nat.reduceLT,Nat.reduceLeDiff,Nat.reduceAdd,decide_true,Zal,Zai]<;>rfl
        ·rw [VO]
         generalize (l.map (tX n k)).map aZ=m at *
         simp only [e6,P5,ZaW,aC,Nat.reduceMul,Nat.reduceBEq,Nat.reduceLT,Nat.reduceLeDiff,reduceCtorEq,Nat.reduceEqDiff,Nat.reduceAdd,zb]
       ·rw [if_neg c6] at hR
        have G:(G5 l (mW n k) != 0)=true:=by simpa using c6
        rw [if_neg (by rw [hR];decide),if_neg (by rw [hR];decide),hR,iD]
        generalize jJ n k=o at *
        rw [ak Az rfl];simp only [BL,aG,Nat.reduceBEq,Nat.reduceLeDiff,Nat.reduceAdd,zc,ze]
        simp only [e0,e1,e2,e3,e4,Z0,Zn,Z3,Zl,B1,B2,G,P5,dO,hact,za,ze,aC,Nat.reduceMul,Nat.reduceBEq,Nat.reduceLT,Nat.reduceLeDiff,reduceCtorEq,Nat.reduceEqDiff,Nat.reduceAdd,zb]
      ·rw [if_neg c5] at hR
       rw [if_neg (by rw [hR];decide),if_neg (by rw [hR];decide),hR,iD]
       generalize jJ s g=o at *
       by_cases c6:n=s
       ·have B1:(n != s)=false:=by simpa using c6
        have B2:(k != g)=true:=by
         have:k≠g:=fun h=>c5 ⟨c6,h⟩
         simpa using this
        rw [ak Az rfl];simp only [BL,aG,Nat.reduceBEq,Nat.reduceLeDiff,Nat.reduceAdd,zc,ze]
        simp only [e0,e1,e2,e3,Z0,Zn,Z3,Zl,B1,B2,P5,dO,za,ze,aC,Nat.reduceMul,Nat.reduceBEq,Nat.reduceLT,Nat.reduceLeDiff,reduceCtorEq,Nat.reduceEqDiff,Nat.reduceAdd,zb]
       ·have B1:(n != s)=true:=by simpa using c6
        rw [ak Az rfl];simp only [BL,aG,Nat.reduceBEq,Nat.reduceLeDiff,Nat.reduceAdd,zc,ze]
        simp only [e0,e1,e2,e3,Z0,Zn,Z3,Zl,B1,P5,dO,za,ze,aC,Nat.reduceMul,Nat.reduceBEq,Nat.reduceLT,Nat.reduceLeDiff,reduceCtorEq,Nat.reduceEqDiff,Nat.reduceAdd,zb]
     ·have hR:MP s g b=3:=by
       unfold MP tV;rw [if_pos c0,if_pos c1,if_pos c2,if_pos c3,if_neg c4];rfl
      have Zl2:((((iO (dH (dH b))).2.2.length:Nat):Int) > 0)=True:=eq_true (by
       have:(iO (dH (dH b))).2.2.length≠0:=fun h=>c4 (List.length_eq_zero_iff.1 h)
       omega)
      rw [if_neg (by rw [hR];decide),if_neg (by rw [hR];decide),hR,iD]
      generalize jJ s g=o at *
      generalize (dA (dH b)).2.1=k at *
      generalize (dA b).2.1=n at *
      rw [ak Az rfl];simp only [BL,aG,Nat.reduceBEq,Nat.reduceLeDiff,Nat.reduceAdd,zc,ze]
      simp only [e0,e1,e2,e3,Z0,Zn,Z3,Zl2,P5,dO,za,ze,aC,Nat.reduceMul,Nat.reduceBEq,Nat.reduceLT,Nat.reduceLeDiff,reduceCtorEq,Nat.reduceEqDiff,Nat.reduceAdd,zb]
    ·have hR:MP s g b=((iO (dH (dH b))).1:Int):=by
      unfold MP tV;rw [if_pos c0,if_pos c1,if_pos c2,if_neg c3];exact if_neg c3
     have Zr:(((iO (dH (dH b))).1:Int) != 0)=true:=by simpa using c3
     rw [if_neg (by rw [hR];omega),if_neg (by rw [hR];omega),hR,iD]
     generalize jJ s g=o at *
     generalize (dA (dH b)).2.1=k at *
     generalize (dA b).2.1=n at *
     rw [ak Az rfl];simp only [BL,aG,Nat.reduceBEq,Nat.reduceLeDiff,Nat.reduceAdd,zc,ze]
     simp only [e0,e1,e2,e3,Z0,Zn,Zr,P5,dO,za,ze,aC,Nat.reduceMul,Nat.reduceBEq,Nat.reduceLT,Nat.reduceLeDiff,reduceCtorEq,Nat.reduceEqDiff,Nat.reduceAdd,zb]
   ·have hR:MP s g b=((dA (dH b)).1:Int):=by
     unfold MP tV;rw [if_pos c0,if_pos c1,if_neg c2];exact if_neg c2
    have Zr:(((dA (dH b)).1:Int) != 0)=true:=by simpa using c2
    rw [if_neg (by rw [hR];omega),if_neg (by rw [hR];omega),hR,iD]
    generalize jJ s g=o at *
    generalize (dA b).2.1=n at *
    rw [ak Az rfl];simp only [BL,aG,Nat.reduceBEq,Nat.reduceLeDiff,Nat.reduceAdd,zc,ze]
    simp only [e0,e1,e2,Z0,Zn,Zr,P5,dO,za,ze,aC,Nat.reduceMul,Nat.reduceBEq,Nat.reduceLT,Nat.reduceLeDiff,reduceCtorEq,Nat.reduceEqDiff,Nat.reduceAdd,zb]
  ·have hR:MP s g b=((dA b).1:Int):=by
    unfold MP tV;rw [if_pos c0,if_neg c1];exact if_neg c1
   have Zr:(((dA b).1:Int) != 0)=true:=by simpa using c1
   rw [if_neg (by rw [hR];omega),if_neg (by rw [hR];omega),hR,iD]
   generalize jJ s g=o at *
   rw [ak Az rfl];simp only [BL,aG,Nat.reduceBEq,Nat.reduceLeDiff,Nat.reduceAdd,zc,ze]
   simp only [e0,e1,Z0,Zr,P5,dO,za,ze,aC,Nat.reduceMul,Nat.reduceBEq,Nat.reduceLT,Nat.reduceLeDiff,reduceCtorEq,Nat.reduceEqDiff,Nat.reduceAdd,zb]
 ·have hR:MP s g b=yK s g:=by
   unfold MP;rw [if_neg c0]
  have Zr:(yK s g != 0)=true:=by simpa using c0
  rw [if_neg (by rw [hR];exact c0),if_neg (by rw [hR];exact c0),hR,iD]
  rw [Ei] at e0
  generalize jJ s g=o at *
  rw [ak Az rfl];simp only [BL,aG,Nat.reduceBEq,Nat.reduceLeDiff,Nat.reduceAdd,zc,ze]
  simp only [e0,Zr,P5,dO,za,ze,aC,Nat.reduceMul,Nat.reduceBEq,Nat.reduceLT,Nat.reduceLeDiff,reduceCtorEq,Nat.reduceEqDiff,Nat.reduceAdd,zb]
theorem aeS (l:List bH):orS l=ext (vk l) 4096:=by
 unfold orS setOf
 exact BN fun s _=>by simp [orB,vk]
theorem aiv {l:List bH}{n:Nat}(h:∀ x∈l,0≤x.start∧1≤x.count∧x.start+x.count≤(n:Int))(s:Nat):vk (wS l n) s=(vk l s || decide (s=n)):=by
 rcases lD l with e|⟨pre,y,e⟩
 ·subst e
  show vk [⟨(n:Int),1⟩] s=_
  rw [Zbv]
  simp [vk,uh];omega
 ·subst e
  have hy:=h y (by simp)
  rw [jq]
  split
  ·rw [GZ,GZ,Bool.or_assoc]
   congr 1
   rw [Zbv]
   simp [uh];omega
  ·rw [GZ (pre++[y])]
   congr 1
   rw [Zbv]
   simp [uh];omega
theorem yx (p:Nat→Bool)(s:Nat):∀ n,vk (ext p n) s=(decide (s<n)&&p s)
 |0=>by simp [Qj,vk]
 |n+1=>by
  rw [mV]
  by_cases h:p n=true
  ·rw [if_pos h,aiv (Ce p n),yx p s n]
   by_cases h2:s=n
   ·subst h2;rw [h];simp
   ·rw [decide_eq_false h2,Bool.or_false]
    congr 1
    rw [Zbv];simp;omega
  ·rw [if_neg h,yx p s n]
   by_cases h2:s=n
   ·subst h2;simp [h]
   ·congr 1
    rw [Zbv];simp;omega
def can:Int→List bH→Prop
 |_,[]=>True
 |nx,x::l=>nx≤x.start∧1≤x.count∧can (x.start+x.count+1) l
def QF:Int→List bH→Int
 |nx,[]=>nx
 |_,x::l=>QF (x.start+x.count+1) l
theorem tY:∀ (l:List bH) (nx:Int) (x:bH),QF nx (l++[x])=x.start+x.count+1
 |[],_,_=>rfl
 |y::l,_,x=>tY l (y.start+y.count+1) x
theorem AU:∀ (l:List bH) (nx:Int) (x:bH),can nx (l++[x]) ↔ can nx l∧QF nx l≤x.start∧1≤x.count
 |[],nx,x=>by simp [can,QF]
 |y::l,nx,x=>by
  have:=AU l (y.start+y.count+1) x
  show nx≤y.start∧1≤y.count∧can _ (l++[x]) ↔ (nx≤y.start∧1≤y.count∧can _ l)∧QF _ l≤x.start∧1≤x.count
  rw [this]
  constructor
  ·rintro ⟨a,b,c,d⟩;exact ⟨⟨a,b,c⟩,d⟩
  ·rintro ⟨⟨a,b,c⟩,d⟩;exact ⟨a,b,c,d⟩
theorem VP (p:Nat→Bool):∀ n:Nat,can 0 (ext p n)∧QF 0 (ext p n)≤(n:Int)+1
 |0=>by rw [Qj];exact ⟨trivial,by simp [QF]⟩
 |n+1=>by
  obtain ⟨h1,h2⟩:=VP p n
  rw [mV]
  split
  ·rcases lD (ext p n) with e|⟨pre,x,e⟩
   ·rw [e]
    have:wS [] n=[⟨(n:Int),1⟩]:=rfl
    rw [this]
    exact ⟨⟨by simp only;omega,by simp only;omega,trivial⟩,by simp only [QF];omega⟩
   ·rw [e] at h1 h2 ⊢
    have hx:=Ce p n x (by rw [e];simp)
    rw [tY] at h2
    obtain ⟨c1,c2,c3⟩:=(AU _ _ _).1 h1
    rw [jq]
    split
    ·exact ⟨(AU _ _ _).2 ⟨c1,c2,by simp only;omega⟩,by rw [tY];simp only;omega⟩
    ·exact ⟨(AU _ _ _).2 ⟨h1,by rw [tY];simp only;omega,by simp⟩,by rw [tY];simp only;omega⟩
  ·exact ⟨h1,by omega⟩
theorem VQ {size:Int}:∀ (l:List bH) (nx:Int),can nx l→(∀ x∈l,0≤x.start∧x.start+x.count≤size)→mZ size nx l=0
 |[],_,_,_=>rfl
 |x::l,nx,h,hb=>by
  obtain ⟨h1,h2,h3⟩:=h
  have hx:=hb x (by simp)
  unfold mZ
  rw [if_neg (by omega),if_neg (by omega),if_neg (by omega)]
  exact VQ l _ h3 fun y hy=>hb y (by simp [hy])
theorem aeT (p:Nat→Bool)(n:Nat):mZ n 0 (ext p n)=0:=VQ _ 0 (VP p n).1 fun x hx=>by have:=Ce p n x hx;omega
theorem aiw {i:iL}{e:bH}(h:fP i=true)(h0:Zv i e=0):fP (Iu i e)=true∧(Iu i e).size=i.size∧(Iu i e).aV=i.aV∧(Iu i e).act.length=i.act.length:=by
 obtain ⟨-,hb⟩:=ajc GR h0
 obtain ⟨s,c,ht,-⟩:=yw h hb
 obtain ⟨e1,e2⟩:=ajd h hb ht h0
 refine ⟨e2,?_⟩
 rw [e1]
 exact ⟨rfl,rfl,eH ..⟩
theorem aeU (p:Nat→Bool){n:Nat}(hn:n≤4096):G5 (ext p n) n=0:=by
 unfold G5
 rw [if_neg (by omega)]
 exact aeT p n
theorem YX {b:Bm}(h:okB b=true):Ir b=ext (bit b.ws) b.size.toNat:=by
 unfold Ir LZ
 rw [if_pos h]
theorem aix {b:Bm}(h:okB b=true):Zy b.size (Ir b)=b:=by
 have hs:=jU h
 have hc:((b.size.toNat:Nat):Int)=b.size:=by omega
 obtain ⟨-,-,g2,g3,g4⟩:=ajf (n:=b.size.toNat) (l:=Ir b) (by omega) (fun e he=>by
  rw [YX h] at he
  exact Ce _ _ e he)
 rw [hc] at g2 g3 g4
 refine ak7 g2 h g3 fun s hlt=>?_
 rw [g3] at hlt
 rw [g4 s (by omega),YX h,yx,decide_eq_true (by omega),Zai]
theorem VR {n g:Int}{x:bH}(hn:1≤n∧n≤4096)(hg:1≤g∧g≤4096)(hx:0≤x.start∧1≤x.count∧x.start+x.count≤mW n g){s:Nat}(hs:(s:Int)<n):uh (tX n g x) s=uh x (((s:Int) / g).toNat):=by
 obtain ⟨a1,a2,a3,a4⟩:=Ci hn hg hx
 have k0:0≤(s:Int) / g:=Zb1 (by omega) (by omega)
 have k1:x.start≤(s:Int) / g ↔ x.start*g≤(s:Int):=Int.le_ediv_iff_mul_le (by omega)
 have k2:(s:Int) / g<x.start+x.count ↔ (s:Int)<(x.start+x.count)*g:=Int.ediv_lt_iff_lt_mul (by omega)
 have kc:((((s:Int) / g).toNat:Nat):Int)=(s:Int) / g:=by omega
 unfold uh tX
 simp only
 rw [kc,Zbv]
 simp only [ZS,decide_eq_true_eq]
 rw [k1,k2]
 split<;>omega
theorem VT {i:iL}(h:fP i=true):(∀ c∈jL i,c<256)∧MP i.size i.aV (jL i)=0∧rcI i.size i.aV (jL i)=⟨i.size,i.aV,Zae i.act.length 0,i.bm⟩ ∧
  (∀ s:Nat,(s:Int)<i.size→vk (VN i.size i.aV (jL i)) s=vK i.bm ((s:Int) / i.aV))∧(VN i.size i.aV (jL i)).length≤4096∧∀ x∈VN i.size i.aV (jL i),0≤x.start∧1≤x.count∧x.start+x.count≤4096:=by
 obtain ⟨h1,h2,h3,h4,h5⟩:=bP.1 h
 obtain ⟨z1,z2,z3,z4⟩:=cZ.1 h1
 have hg:=lG h1
 have hm:(most:Int)=9007199254740991:=rfl
 have hB:jL i=encI i.size++encI i.aV++zo (Ir i.bm):=by unfold jL;rw [if_pos h]
 have al0:∀ e∈Ir i.bm,0≤e.start∧1≤e.count∧e.start+e.count≤mW i.size i.aV:=fun e he=>by
  rw [YX h3] at he
  have:=Ce _ _ e he
  omega
 have hD:tV (jL i)=(0,i.size,i.aV,Ir i.bm):=by
  rw [hB]
  refine aeQ (by omega) (by omega) (fun e he=>?_) (Zaa (aeM _) (by decide))
  have:=al0 e he
  unfold VI
  omega
 obtain ⟨e1,e2,-⟩:=Me h1
 have hck:G5 (Ir i.bm) (mW i.size i.aV)=0:=by
  rw [YX h3]
  have:=aeU (bit i.bm.ws) (n:=i.bm.size.toNat) (by omega)
  rwa [show ((i.bm.size.toNat:Nat):Int)=mW i.size i.aV by omega] at this
 have hE:MP i.size i.aV (jL i)=0:=by
  unfold MP
  rw [hD,if_pos e2]
  simp only
  rw [if_pos trivial,if_pos ⟨trivial,trivial⟩,if_pos hck]
 have hL:VN i.size i.aV (jL i)=ext (vk ((Ir i.bm).map (tX i.size i.aV))) 4096:=by
  unfold VN
  rw [if_pos hE,hD,aeS]
 refine ⟨?_,hE,?_,?_,?_,?_⟩
 ·rw [hB]
  intro c hc
  rcases Zax.1 hc with hc|hc
  ·rcases Zax.1 hc with hc|hc
   ·exact tK _ c hc
   ·exact tK _ c hc
  ·unfold zo at hc
   rcases Zax.1 hc with hc|hc
   ·exact tK _ c hc
   ·obtain ⟨e,-,hc⟩:=List.mem_flatMap.1 hc
    unfold kK at hc
    rcases Zax.1 hc with hc|hc
    ·exact tK _ c hc
    ·exact tK _ c hc
 ·unfold rcI
  rw [if_pos hE,hD,e1]
  simp only
  rw [show mW i.size i.aV=i.bm.size by omega,aix h3,show i.bm.size.toNat=i.act.length by omega]
 ·intro s hs
  rw [hL,yx,decide_eq_true (by omega),Zai]
  have k0:0≤(s:Int) / i.aV:=Zb1 (by omega) (by omega)
  have kc:((((s:Int) / i.aV).toNat:Nat):Int)=(s:Int) / i.aV:=by omega
  have e3:vk ((Ir i.bm).map (tX i.size i.aV)) s=vk (Ir i.bm) (((s:Int) / i.aV).toNat):=by
   unfold vk
   rw [List.any_map]
   rw [Zbv,ZbW,ZbW]
   constructor
   ·rintro ⟨x,hx,hh⟩
    refine ⟨x,hx,?_⟩
    rw [← VR ⟨z1,z2⟩ ⟨z3,z4⟩ (al0 x hx) hs]
    exact hh
   ·rintro ⟨x,hx,hh⟩
    refine ⟨x,hx,?_⟩
    show uh (tX i.size i.aV x) s=true
    rw [VR ⟨z1,z2⟩ ⟨z3,z4⟩ (al0 x hx) hs]
    exact hh
  have hgx:∀ k:Int,0≤k→vK i.bm k=bit i.bm.ws k.toNat:=fun k hk=>by
   obtain ⟨m,rfl⟩:∃ m:Nat,k=(m:Int):=⟨k.toNat,by omega⟩
   rw [oH h3,Zaw]
  rw [e3,YX h3,yx,hgx _ k0]
  cases hb:bit i.bm.ws (((s:Int) / i.aV).toNat) with
  |false=>rw [Zbi]
  |true=>rw [decide_eq_true (by have:=Gz h3 hb;omega)];rfl
 ·rw [hL];exact AQ _ _
 ·rw [hL];exact fun x hx=>Ce _ _ x hx
theorem aiy {i:iL}(hs:i.size≤256):(jL i).length≤10000:=by
 unfold jL
 split
 ·rename_i h
  obtain ⟨h1,h2,h3,h4,h5⟩:=bP.1 h
  have hg:=lG h1
  have q1:=mX i.size
  have q2:=mX i.aV
  have q3:=mX ((Ir i.bm).length:Int)
  have q4:(Ir i.bm).length≤256:=by
   rw [YX h3]
   have:=AQ (bit i.bm.ws) i.bm.size.toNat
   omega
  have q5:∀ l:List bH,(l.flatMap kK).length≤18*l.length:=by
   intro l
   induction l with
   |nil=>simp
   |cons e l ih =>
    rw [Zcq,zp,zc]
    have:=Qu e
    omega
  have q6:=q5 (Ir i.bm)
  rw [zp,zp]
  unfold zo
  rw [zp]
  omega
 ·simp
theorem aeV {b:Bm}{s:Int}{n:Nat}:newG b s n=true ↔ ∃ k:Nat,k<n∧vK b (s+(k:Int))=false:=by
 unfold newG
 simp [ZbW]
structure PW (α:Type) where
 e:bH
 f:Bool
 s:Bool
 v:Nat→α
structure MW (α:Type) where
 log:iL
 st:List Nat
 a:List α
 b:List α
 ws:List (PW α)
 ok:Bool
def ovE (a b:bH):Bool:=decide (a.start<b.start+b.count)&&decide (b.start<a.start+a.count)
section
variable {α:Type}[Inhabited α]
def wrA (l:List α)(e:bH)(v:Nat→α):List α:=l.mapIdx fun k x=>if uh e k then v k else x
def G6 (m:MW α)(e:bH)(v:Nat→α):MW α:=⟨Iu m.log e,if bgS m.log e then jL (Iu m.log e) else m.st,m.a,m.b,m.ws++[⟨e,false,false,v⟩],m.ok&&decide (Zv m.log e=0)⟩
def Zz (p1 p2:Bool)(w:PW α):PW α:=⟨w.e,w.f || p1,w.s || p2,w.v⟩
def D6 (m:MW α)(p1 p2:Bool)(k:Nat)(w:PW α):MW α:=⟨m.log,m.st,if p1 then wrA m.a w.e w.v else m.a,if p2 then wrA m.b w.e w.v else m.b,m.ws.set k (Zz p1 p2 w),m.ok⟩
def YZ (m:MW α)(k:Nat)(e:bH):MW α:=⟨Nq uO nT m.log e,m.st,m.a,m.b,m.ws.take k++m.ws.drop (k+1),m.ok&&decide (DZ nT m.log e=0)⟩
def Y0 (m:MW α)(sv:Bool):MW α:=⟨tH m.log,if sv then jL (tH m.log) else m.st,m.a,m.b,m.ws,m.ok⟩
def tO (n g:Int)(k:Nat)(e:bH):Bool:=decide ((jc n g e).start≤(k:Int)∧(k:Int)<(jc n g e).start+(jc n g e).count)
structure Inv (n g:Int)(N:Nat)(m:MW α)(j:iL)(c:Nat):Prop where
 ok:m.ok=true
 la:m.a.length=N
 lb:m.b.length=N
 lg:fP m.log=true
 sz:m.log.size=n
 gr:m.log.aV=g
 jl:fP j=true
 js:j.size=n
 jg:j.aV=g
 st:m.st=jL j
 su:∀ k:Nat,bit m.log.bm.ws k=true→bit j.bm.ws k=true
 wf:∀ e∈m.ws.map (·.e),oD n e=true
 ac:∀ k (h:k<m.log.act.length),m.log.act[k]=(((m.ws.map (·.e)).countP (tO n g k):Nat):Int)
 df:∀ s:Nat,s<N→m.a.getD s default≠m.b.getD s default→∃ e∈m.ws.map (·.e),uh e s=true
 ds:(m.ws.map (·.e)).Pairwise fun p q=>ovE p q=false
 va:∀ p∈m.ws,p.f=true→∀ s:Nat,uh p.e s=true→m.a.getD s default=p.v s
 vb:∀ p∈m.ws,p.s=true→∀ s:Nat,uh p.e s=true→m.b.getD s default=p.v s
 wl:m.ws.length≤c
theorem Inv.mono {n g:Int}{N:Nat}{m:MW α}{j:iL}{c d:Nat}(h:Inv n g N m j c)(hd:c≤d):Inv n g N m j d:={ h with wl:=Zaa h.wl hd }
theorem uT {e:bH}{s:Nat}:uh e s=true ↔ 0<e.count∧e.start≤(s:Int)∧(s:Int)<e.start+e.count:=by unfold uh;simp [and_assoc]
theorem al1 {p q:bH}{s:Nat}(h1:uh p s=true)(h2:uh q s=true):ovE p q=true:=by
 have a:=uT.1 h1
 have b:=uT.1 h2
 unfold ovE
 simp only [ZS,decide_eq_true_eq];omega
theorem aeX (p q:bH):ovE p q=ovE q p:=by unfold ovE;rw [Bool.and_comm]
theorem Inv.n60 {n g:Int}{N:Nat}{m:MW α}{j:iL}{c:Nat}(h:Inv n g N m j c):lT n g=true:=by
 have:=(bP.1 h.lg).1
 rwa [h.sz,h.gr] at this
theorem count_le {β:Type}(l:List β)(p:β→Bool):l.countP p≤l.length:=List.countP_le_length
theorem UE {n g:Int}{e:bH}{s c:Nat}(ht:jc n g e=⟨(s:Int),(c:Int)⟩)(k:Nat):tO n g k e=decide (s≤k∧k<s+c):=by
 unfold tO
 rw [ht]
 apply decide_eq_decide.2
 simp only;omega
theorem UF {n g:Int}{N:Nat}{m:MW α}{j:iL}{c:Nat}(h:Inv n g N m j c)(hc:c<4096){e:bH}(hb:oD n e=true):Zv m.log e=0:=by
 have hb':oD m.log.size e=true:=by rw [h.sz];exact hb
 obtain ⟨s,q,ht,k1,k2,k3⟩:=yw h.lg hb'
 unfold Zv
 rw [(AO (v:=zl) h.lg hb' ht).1]
 rcases qO ru k2 with ⟨h1,_⟩|⟨i,hi,_,h2,_⟩
 ·exact h1
 ·exfalso
  apply h2
  unfold ru
  rw [if_neg]
  rw [h.ac]
  have:=count_le (m.ws.map (·.e)) (tO n g (s+i))
  have:=h.wl
  simp only [za] at *
  omega
theorem aiA {n g:Int}{N:Nat}{m:MW α}{j:iL}{c:Nat}(h:Inv n g N m j c)(hc:c<4096){E:bH}(hb:oD n E=true)(v:Nat→α)(hds:∀ q∈m.ws,ovE q.e E=false):∃ j',Inv n g N (G6 m E v) j' (c+1):=by
 have hE:=UF h hc hb
 have hb':oD m.log.size E=true:=by rw [h.sz];exact hb
 obtain ⟨s,q,ht,k1,k2,k3⟩:=yw h.lg hb'
 obtain ⟨e1,ok1⟩:=ajd h.lg hb' ht hE
 have htn:jc n g E=⟨(s:Int),(q:Int)⟩:=by rw [h.sz,h.gr] at ht;exact ht
 have hbm:=(bP.1 h.lg).2.2.1
 have anM:=VA hbm k3
 have hsub:bgS m.log E=false→∀ k:Nat,bit (Iu m.log E).bm.ws k=true→bit m.log.bm.ws k=true:=fun hS k hk=>by
  rw [e1] at hk
  simp only at hk
  rw [anM] at hk
  unfold bgS at hS
  rw [decide_eq_true hE,Zai,ht] at hS
  cases hx:bit m.log.bm.ws k with
  |true=>rfl
  |false =>
   rw [hx,Zbz,decide_eq_true_eq] at hk
   simp only at hk
   have:newG m.log.bm (s:Int) (Int.toNat (q:Int))=true:=aeV.2 ⟨k - s,by omega,by rw [show ((s:Int)+((k - s:Nat):Int))=((k:Nat):Int) by omega,oH hbm];exact hx⟩
   simp only at hS
   rw [this] at hS;cases hS
 have key:∀ j',fP j'=true→j'.size=n→j'.aV=g→(G6 m E v).st=jL j'→(∀ k:Nat,bit (Iu m.log E).bm.ws k=true→bit j'.bm.ws k=true)→Inv n g N (G6 m E v) j' (c+1):=fun j' a1 a2 a3 a4 a5=>by
  have hl:(G6 m E v).log=Iu m.log E:=by rfl
  have hw:(G6 m E v).ws.map (·.e)=m.ws.map (·.e)++[E]:=by unfold G6;simp
  have hwl:(G6 m E v).ws.length=m.ws.length+1:=by unfold G6;simp
  refine ⟨(by show (m.ok&&decide _)=true;rw [h.ok,decide_eq_true hE];rfl),h.la,h.lb,by rw [hl];exact ok1,by rw [hl,e1];exact h.sz,by rw [hl,e1];exact h.gr,a1,a2,a3,a4,by rw [hl];exact a5,?_,?_,?_,?_,?_,?_,?_⟩
  ·rw [hw];intro e he
   rcases Zax.1 he with he|he
   ·exact h.wf e he
   ·rw [Zao.1 he];exact hb
  ·rw [hw]
   intro k hk
   have hk':k<m.log.act.length:=by rw [hl,e1] at hk;simpa only [eH] using hk
   have:(G6 m E v).log.act[k]=(jX zl m.log.act s q)[k]'(by rw [eH];exact hk'):=by
    congr 1
    rw [hl,e1]
   rw [this,oG,ZdF,List.countP_singleton,UE htn,h.ac k hk']
   have hcc:=count_le (m.ws.map (·.e)) (tO n g k)
   have:=h.wl
   simp only [za] at hcc
   by_cases cc:s≤k∧k<s+q
   ·rw [if_pos cc,decide_eq_true cc]
    unfold zl
    rw [if_neg (by omega)]
    simp
   ·rw [if_neg cc,decide_eq_false cc]
    simp
  ·rw [hw];intro t h60 hd
   obtain ⟨e,he,hi⟩:=h.df t h60 hd
   exact ⟨e,Zb8 _ he,hi⟩
  ·rw [hw]
   refine List.pairwise_append.2 ⟨h.ds,List.pairwise_singleton _ _,fun a ha b hb2=>?_⟩
   rw [Zao.1 hb2]
   obtain ⟨p,hp,rfl⟩:=Za9.1 ha
   exact hds p hp
  ·intro p hp hf
   rcases Zax.1 (show p∈m.ws++_ from hp) with hp|hp
   ·exact h.va p hp hf
   ·rw [Zao.1 hp] at hf;cases hf
  ·intro p hp hf
   rcases Zax.1 (show p∈m.ws++_ from hp) with hp|hp
   ·exact h.vb p hp hf
   ·rw [Zao.1 hp] at hf;cases hf
  ·have:=h.wl;omega
 cases hS:bgS m.log E with
 |true=>exact ⟨Iu m.log E,key _ ok1 (by rw [e1];exact h.sz) (by rw [e1];exact h.gr) (by show (if bgS m.log E=true then jL (Iu m.log E) else m.st)=_;rw [hS];rfl) fun k hk=>hk⟩
 |false=>exact ⟨j,key j h.jl h.js h.jg (by show (if bgS m.log E=true then jL (Iu m.log E) else m.st)=_;rw [hS];exact h.st) fun k hk=>h.su k (hsub hS k hk)⟩
theorem G7 {i:iL}(h:fP i=true):fP (tH i)=true∧(tH i).size=i.size∧(tH i).aV=i.aV∧(tH i).act=i.act∧∀ k:Nat,bit (tH i).bm.ws k=true→bit i.bm.ws k=true:=by
 obtain ⟨h1,h2,h3,h4,h5⟩:=bP.1 h
 obtain ⟨q1,q2,q3,q4⟩:=UA h i.act.length (zg _)
 have e:tH i={ i with bm:=(gB i i.act.length).1 }:=by unfold tH;rw [if_pos h]
 rw [e]
 refine ⟨bP.2 ⟨h1,h2,q1,q2.trans h4,fun g hg=>?_⟩,rfl,rfl,rfl,fun k hk=>?_⟩
 ·obtain ⟨r1,r2⟩:=Ej (h5 g hg)
  unfold GL
  simp only
  rw [decide_eq_false (by omega),decide_eq_false (by omega)]
  by_cases c0:0<i.act[g]
  ·have:=r2 c0
   rw [oH h3] at this
   rw [oH q1,q3,this]
   have hz:¬ (g<i.act.length∧i.act.getD g 0=0):=by
    rintro ⟨_,hz⟩
    rw [Zaf,ZZ hg] at hz
    simp only [Option.getD_some] at hz
    omega
   rw [decide_eq_false hz]
   simp
  ·rw [decide_eq_false (by omega)]
   simp
 ·simp only at hk
  rw [q3] at hk
  exact (ZS _ _ ▸ hk).1
theorem aiB {n g:Int}{N:Nat}{m:MW α}{j:iL}{c:Nat}(h:Inv n g N m j c)(sv:Bool):∃ j',Inv n g N (Y0 m sv) j' (c+1):=by
 obtain ⟨k1,k2,k3,k4,k5⟩:=G7 h.lg
 have key:∀ j',fP j'=true→j'.size=n→j'.aV=g→(Y0 m sv).st=jL j'→(∀ k:Nat,bit (tH m.log).bm.ws k=true→bit j'.bm.ws k=true)→Inv n g N (Y0 m sv) j' (c+1):=fun j' a1 a2 a3 a4 a5 =>
  ⟨h.ok,h.la,h.lb,k1,k2.trans h.sz,k3.trans h.gr,a1,a2,a3,a4,a5,h.wf,fun k hk=>by
   have hk':k<m.log.act.length:=by rw [← k4];exact hk
   refine Eq.trans ?_ (h.ac k hk')
   have:(Y0 m sv).log.act=m.log.act:=k4
   congr 1,h.df,h.ds,h.va,h.vb,by have:=h.wl;show m.ws.length≤_;omega⟩
 by_cases cw:sv=true
 ·exact ⟨tH m.log,key _ k1 (k2.trans h.sz) (k3.trans h.gr) (by show (if sv=true then _ else _)=_;rw [if_pos cw]) fun k hk=>hk⟩
 ·exact ⟨j,key j h.jl h.js h.jg (by show (if sv=true then _ else _)=_;rw [if_neg cw];exact h.st) fun k hk=>h.su k (k5 k hk)⟩
theorem MQ (l:List α)(e:bH)(v:Nat→α):(wrA l e v).length=l.length:=by simp [wrA]
theorem aeY {l:List α}{e:bH}{v:Nat→α}{s:Nat}(h:s<l.length):(wrA l e v).getD s default=if uh e s then v s else l.getD s default:=by
 rw [Zaf,Zaf,ZZ (by rw [MQ];exact h),ZZ h]
 simp [wrA]
theorem aeZ {n g:Int}{N:Nat}{m:MW α}{j:iL}{c:Nat}(h:Inv n g N m j c)(hn:n≤N){e:bH}(he:e∈m.ws.map (·.e)){s:Nat}(hi:uh e s=true):s<N:=by
 have a:=jW.1 (h.wf e he)
 have b:=uT.1 hi
 omega
theorem G8 {ws:List (PW α)}{k:Nat}{w v:PW α}(hk:ws[k]?=some w)(he:v.e=w.e):(ws.set k v).map (·.e)=ws.map (·.e):=by
 apply ZbR
 intro i
 rw [zd,zd,zr]
 split
 ·rename_i hik
  subst hik
  have hl:=(Z1.1 hk).1
  rw [if_pos hl,hk]
  simp [he]
 ·rfl
theorem VU {n g:Int}{N:Nat}{m:MW α}{j:iL}{c:Nat}(h:Inv n g N m j c)(hn:n≤N)(p1 p2:Bool){k:Nat}{w:PW α}(hk:m.ws[k]?=some w):Inv n g N (D6 m p1 p2 k w) j (c+1):=by
 have hE:(D6 m p1 p2 k w).ws.map (·.e)=m.ws.map (·.e):=G8 hk rfl
 obtain ⟨hkl,hkw⟩:=Z1.1 hk
 have hmem:w∈m.ws:=zz hk
 have ha:(D6 m p1 p2 k w).a=if p1=true then wrA m.a w.e w.v else m.a:=rfl
 have hb:(D6 m p1 p2 k w).b=if p2=true then wrA m.b w.e w.v else m.b:=rfl
 have la:(D6 m p1 p2 k w).a.length=N:=by
  rw [ha];split
  ·rw [MQ];exact h.la
  ·exact h.la
 have lb:(D6 m p1 p2 k w).b.length=N:=by
  rw [hb];split
  ·rw [MQ];exact h.lb
  ·exact h.lb
 have ga:∀ s,s<N→(D6 m p1 p2 k w).a.getD s default=if p1=true∧uh w.e s=true then w.v s else m.a.getD s default:=fun s hs=>by
  rw [ha]
  by_cases c1:p1=true
  ·rw [if_pos c1,aeY (by rw [h.la];exact hs)]
   by_cases c2:uh w.e s=true
   ·rw [if_pos c2,if_pos ⟨c1,c2⟩]
   ·rw [if_neg c2,if_neg (fun q=>c2 q.2)]
  ·rw [if_neg c1,if_neg (fun q=>c1 q.1)]
 have gb:∀ s,s<N→(D6 m p1 p2 k w).b.getD s default=if p2=true∧uh w.e s=true then w.v s else m.b.getD s default:=fun s hs=>by
  rw [hb]
  by_cases c1:p2=true
  ·rw [if_pos c1,aeY (by rw [h.lb];exact hs)]
   by_cases c2:uh w.e s=true
   ·rw [if_pos c2,if_pos ⟨c1,c2⟩]
   ·rw [if_neg c2,if_neg (fun q=>c2 q.2)]
  ·rw [if_neg c1,if_neg (fun q=>c1 q.1)]
 have dis:∀ (i:Nat) (p:PW α),m.ws[i]?=some p→i≠k→∀ s,uh p.e s=true→uh w.e s=false:=fun i p hp hik s hs=>by
  rw [Za2]
  intro hw
  obtain ⟨hil,hiw⟩:=Z1.1 hp
  have hpw:=List.pairwise_iff_getElem.1 h.ds
  have hov:=al1 hs hw
  rcases Nat.lt_or_ge i k with cc|cc
  ·have:=hpw i k (by simpa using hil) (by simpa using hkl) cc
   simp only [ZbV,hiw,hkw] at this
   rw [this] at hov;cases hov
  ·have:=hpw k i (by simpa using hkl) (by simpa using hil) (by omega)
   simp only [ZbV,hiw,hkw] at this
   rw [aeX,this] at hov;cases hov
 refine ⟨h.ok,la,lb,h.lg,h.sz,h.gr,h.jl,h.js,h.jg,h.st,h.su,by rw [hE];exact h.wf,fun q hq=>by rw [hE];exact h.ac q hq,fun s h60 hd=>?_,by rw [hE];exact h.ds,fun p hp hf s hs=>?_,fun p hp hf s hs=>?_,?_⟩
 ·rw [hE]
  by_cases cw:uh w.e s=true
  ·exact ⟨w.e,Zbk hmem,cw⟩
  ·rw [ga s h60,gb s h60,if_neg (fun q=>cw q.2),if_neg (fun q=>cw q.2)] at hd
   exact h.df s h60 hd
 ·obtain ⟨i,hi,rfl⟩:=Zdx (show p∈m.ws.set k (Zz p1 p2 w) from hp)
  have hi':i<m.ws.length:=by simpa using hi
  have h60:s<N:=aeZ h hn (e:=(m.ws.set k (Zz p1 p2 w))[i].e) (by rw [← G8 hk (v:=Zz p1 p2 w) rfl];exact Zbk (ZaD hi)) hs
  rw [ga s h60]
  rw [Zcz] at hf hs ⊢
  by_cases cik:k=i
  ·rw [if_pos cik] at hf hs ⊢
   by_cases c1:p1=true
   ·rw [if_pos ⟨c1,hs⟩];rfl
   ·rw [if_neg (fun q=>c1 q.1)]
    refine h.va w hmem ?_ s hs
    unfold Zz at hf
    simpa [c1] using hf
  ·rw [if_neg cik] at hf hs ⊢
   rw [if_neg (fun q=>by have:=dis i m.ws[i] (ZZ hi') (fun e=>cik e.symm) s hs;rw [this] at q;cases q.2)]
   exact h.va _ (ZaD hi') hf s hs
 ·obtain ⟨i,hi,rfl⟩:=Zdx (show p∈m.ws.set k (Zz p1 p2 w) from hp)
  have hi':i<m.ws.length:=by simpa using hi
  have h60:s<N:=aeZ h hn (e:=(m.ws.set k (Zz p1 p2 w))[i].e) (by rw [← G8 hk (v:=Zz p1 p2 w) rfl];exact Zbk (ZaD hi)) hs
  rw [gb s h60]
  rw [Zcz] at hf hs ⊢
  by_cases cik:k=i
  ·rw [if_pos cik] at hf hs ⊢
   by_cases c1:p2=true
   ·rw [if_pos ⟨c1,hs⟩];rfl
   ·rw [if_neg (fun q=>c1 q.1)]
    refine h.vb w hmem ?_ s hs
    unfold Zz at hf
    simpa [c1] using hf
  ·rw [if_neg cik] at hf hs ⊢
   rw [if_neg (fun q=>by have:=dis i m.ws[i] (ZZ hi') (fun e=>cik e.symm) s hs;rw [this] at q;cases q.2)]
   exact h.vb _ (ZaD hi') hf s hs
 ·have:=h.wl
  show (m.ws.set k (Zz p1 p2 w)).length≤_
  rw [Zc7];omega
theorem VW {n g:Int}{N:Nat}{m:MW α}{j:iL}{c:Nat}(h:Inv n g N m j c)(hn:n≤N){k:Nat}{w:PW α}(hk:m.ws[k]?=some w)(hf:w.f=true)(hs:w.s=true):Inv n g N (YZ m k w.e) j c∧DZ nT m.log w.e=0:=by
 obtain ⟨hkl,hkw⟩:=Z1.1 hk
 have hmem:w∈m.ws:=zz hk
 have hb:oD n w.e=true:=h.wf _ (Zbk hmem)
 have hb':oD m.log.size w.e=true:=by rw [h.sz];exact hb
 obtain ⟨s,q,ht,k1,k2,k3⟩:=yw h.lg hb'
 have htn:jc n g w.e=⟨(s:Int),(q:Int)⟩:=by rw [h.sz,h.gr] at ht;exact ht
 have hsplit:m.ws=m.ws.take k++w::m.ws.drop (k+1):=by
  rw [← hkw,← Zah hkl,List.take_append_drop]
 have hcnt:∀ i:Nat,(m.ws.map (·.e)).countP (tO n g i)=((m.ws.take k++m.ws.drop (k+1)).map (·.e)).countP (tO n g i)+if tO n g i w.e then 1 else 0:=fun i=>by
  conv=>lhs;rw [hsplit]
  simp only [ZaH,Zat,ZdF,List.countP_cons]
  omega
 have hE:DZ nT m.log w.e=0:=by
  rw [(AO (v:=uO) h.lg hb' ht).1]
  rcases qO nT k2 with ⟨h1,_⟩|⟨i,hi,_,h2,_⟩
  ·exact h1
  ·exfalso
   apply h2
   unfold nT
   rw [if_neg]
   rw [h.ac,hcnt,UE htn,decide_eq_true (by omega)]
   simp only [if_true]
   omega
 obtain ⟨e1,ok1⟩:=anF h.lg hb' ht hE
 have hsub:(m.ws.take k++m.ws.drop (k+1)).Sublist m.ws:=by
  conv=>rhs;rw [hsplit]
  exact List.Sublist.append_left (List.sublist_cons_self _ _) _
 have hl:(YZ m k w.e).log=Nq uO nT m.log w.e:=rfl
 have hw:(YZ m k w.e).ws=m.ws.take k++m.ws.drop (k+1):=rfl
 refine ⟨⟨?_,h.la,h.lb,by rw [hl];exact ok1,by rw [hl,e1];exact h.sz,by rw [hl,e1];exact h.gr,h.jl,h.js,h.jg,h.st,by rw [hl,e1];exact h.su,fun e he=>?_,fun i hi=>?_,fun t h60 hd=>?_,?_,fun p hp=>h.va p (hsub.subset hp),fun p hp=>h.vb p (hsub.subset hp),?_⟩,hE⟩
 ·show (m.ok&&decide _)=true
  rw [h.ok,decide_eq_true hE];rfl
 ·rw [hw] at he
  exact h.wf e ((hsub.map _).subset he)
 ·have hi':i<m.log.act.length:=by rw [hl,e1] at hi;simpa only [eH] using hi
  have:(YZ m k w.e).log.act[i]=(jX uO m.log.act s q)[i]'(by rw [eH];exact hi'):=by
   congr 1
   rw [hl,e1]
  rw [this,oG,h.ac i hi',hcnt,UE htn,hw]
  by_cases cc:s≤i∧i<s+q
  ·rw [if_pos cc,decide_eq_true cc]
   unfold uO
   simp only [if_true]
   rw [if_neg (by omega)]
   omega
  ·rw [if_neg cc,decide_eq_false cc]
   simp
 ·obtain ⟨e,he,hi⟩:=h.df t h60 hd
  rw [hsplit] at he
  simp only [ZaH,Zat,Zax,ZaI] at he
  rw [hw,ZaH]
  rcases he with he|he|he
  ·exact ⟨e,Zb8 _ he,hi⟩
  ·exfalso
   subst he
   apply hd
   show m.a.getD t default=m.b.getD t default
   rw [h.va w hmem hf t hi,h.vb w hmem hs t hi]
  ·exact ⟨e,List.mem_append_right _ he,hi⟩
 ·rw [hw]
  exact h.ds.sublist (hsub.map _)
 ·rw [hw]
  exact Zaa hsub.length_le h.wl
def m0W (n g:Int)(l:List α):MW α:=⟨jJ n g,jL (jJ n g),l,l,[],true⟩
theorem aiC {n g:Int}(h:lT n g=true)(l:List α):Inv n g l.length (m0W n g l) (jJ n g) 0:=by
 obtain ⟨e1,-,ok⟩:=Me h
 refine ⟨rfl,rfl,rfl,ok,by show (jJ n g).size=n;rw [e1],by show (jJ n g).aV=g;rw [e1],ok,by rw [e1],by rw [e1],rfl,fun k hk=>hk,fun e he=>by simp [m0W] at he,fun k hk=>?_,fun s hN hd=>absurd rfl hd,by simp [m0W],fun p hp=>by simp [m0W] at hp,fun p hp=>by simp [m0W] at hp,by simp [m0W]⟩
 have:(m0W n g l).log.act=Zae (mW n g).toNat 0:=by show (jJ n g).act=_;rw [e1]
 simp only [this,List.getElem_replicate]
 simp [m0W]
theorem ae0 {n g:Int}{N:Nat}{m:MW α}{j:iL}{c:Nat}(h:Inv n g N m j c)(hw:m.ws=[]):m.a=m.b:=by
 apply List.ext_getElem
 ·rw [h.la,h.lb]
 ·intro s h1 h2
  by_cases hd:m.a.getD s default=m.b.getD s default
  ·rw [Zaf,Zaf,ZZ h1,ZZ h2] at hd
   exact hd
  ·obtain ⟨e,he,_⟩:=h.df s (by rw [← h.la];exact h1) hd
   rw [hw] at he
   simp at he
end
structure TE where
 kd:Nat
 wh:Nat
 st:Nat
 dat:List eG
def pU (x:TE):PV:=.agg [.int .u8 (x.kd:Int),.int .u8 (x.wh:Int),.int .u8 (x.st:Int),.list 8 (x.dat.map eP)]
theorem oZ (x:TE):pU x=.agg [.int .u8 (x.kd:Int),.int .u8 (x.wh:Int),.int .u8 (x.st:Int),.list 8 (x.dat.map eP)]:=rfl
def uU (x:TE):Prop:=x.kd<256∧x.wh<256∧x.st<256
def Iz (l:List TE)(i:Nat):Bool:=(l.drop i).any fun x=>decide (8<x.dat.length)
theorem Y1 {l:List TE}{i:Nat}(h:i<l.length):Iz l i=(decide (8<l[i].dat.length) || Iz l (i+1)):=by
 unfold Iz
 rw [Zah h,ZcR]
theorem ae1 (l:List TE):Iz l l.length=false:=by
 unfold Iz
 rw [ZaS (zg _)];rfl
def smT (l:List TE):Bool:=!Iz l 0&&decide (l.length≤30)
def resT (l:List TE)(b:Bool):Option (Ex×St):=if b then some (.ret,⟨sl 20 [(0,.pv (.list 4 (l.map pU))),(2,.pv (.bool false))],[],[],none⟩) else some (.normal,⟨sl 20 [(0,.pv (.list 4 (l.map pU))),(2,.any)],[],[],none⟩)
theorem ae2 (l:List TE):resT l true=some (.ret,⟨sl 20 [(0,.pv (.list 4 (l.map pU))),(2,.pv (.bool false))],[],[],none⟩):=rfl
theorem ae3 (l:List TE):resT l false=some (.normal,⟨sl 20 [(0,.pv (.list 4 (l.map pU))),(2,.any)],[],[],none⟩):=rfl
theorem al3 {l:List TE}(hl:l.length≤140737488351232){st:St}(h:st.head [0,3] st.boxes.length=some ⟨sl 20 [(0,.pv (.list 4 (l.map pU))),(3,.pv (.int .i64 (0:Nat)))],[],[],none⟩) :
  den env Lr st=resT l (Iz l ((0:Nat))):=by
 unfold Lr
 refine dL (env:=env) (nb:=0) (l.length) (fun i=>⟨sl 20 [(0,.pv (.list 4 (l.map pU))),(3,.pv (.int .i64 i))],[],[],none⟩) (fun i=>resT l (Iz l (i))) h (fun _=>rfl) (fun _=>by simp only [aG,dN,Nat.reduceMul,Nat.reduceBEq,Nat.reduceLT,Nat.reduceLeDiff,Nat.reduceAdd,decide_true,Zal,Zai]) ?_ ?_
 ·intro i rb hi ih
  have hi1:IntKind.i64.wrap ((i:Int)+1)=((i+1:Nat):Int):=by rw [aF (by omega)];omega
  have F1:((i:Int)<(l.length:Int))=True:=eq_true (by omega)
  have hx:(l.map pU)[i]?=some (pU l[i]):=by rw [zd,ZZ hi];rfl
  rw [oZ] at hx
  rw [Y1 hi]
  by_cases c:8<l[i].dat.length
  ·have F2:((l[i].dat.length:Int) > 8)=True:=eq_true (by omega)
   rw [decide_eq_true c,Zce,ae2]
   simp only [Ee,F1,F2,hx,aB hi,za,aC,Nat.reduceMul,Nat.reduceBEq,Nat.reduceLT,Nat.reduceLeDiff,reduceCtorEq,Nat.reduceEqDiff,Nat.reduceAdd,zb]
  ·have F2:((l[i].dat.length:Int) > 8)=False:=eq_false (by omega)
   rw [decide_eq_false c,Zbz]
   simp only [Ee,F1,F2,hx,aB hi,za,aC,Nat.reduceMul,Nat.reduceBEq,Nat.reduceLT,Nat.reduceLeDiff,reduceCtorEq,Nat.reduceEqDiff,Nat.reduceAdd,zb]
   rw [ih _ (by simp only [hi1,aC,Nat.reduceMul,Nat.reduceBEq,Nat.reduceLT,Nat.reduceLeDiff,reduceCtorEq,Nat.reduceEqDiff,Nat.reduceAdd,zb]<;>rfl)]
 ·intro rb
  rw [ae1,ae3]
  simp only [Ee,ZaL,za,aC,Nat.reduceMul,Nat.reduceBEq,Nat.reduceLT,Nat.reduceLeDiff,reduceCtorEq,Nat.reduceEqDiff,Nat.reduceAdd,zb]
theorem anN {l:List TE}(hl:l.length≤140737488351232):cal env 44 [.list 4 (l.map pU)]=some [(.bool (smT l),false)]:=by
 unfold smT
 have hd:(((l.length:Int))≤30)=(l.length≤30):=by rw [eq_iff_iff];omega
 rw [ak anu rfl];simp only [abz,aG,Nat.reduceBEq,Nat.reduceLeDiff,Nat.reduceAdd,zc,ze]
 simp only [hd,za,aC,Nat.reduceMul,Nat.reduceBEq,Nat.reduceLT,Nat.reduceLeDiff,reduceCtorEq,Nat.reduceEqDiff,Nat.reduceAdd,zb]
 rw [al3 (l:=l) hl (by simp only [aG,dN,Nat.reduceMul,Nat.reduceBEq,Nat.reduceLT,Nat.reduceLeDiff,Nat.reduceAdd,decide_true,Zal,Zai]<;>rfl)]
 cases Iz l 0 with
 |true=>rw [ae2];simp only [hd,za,aC,Nat.reduceMul,Nat.reduceBEq,Nat.reduceLT,Nat.reduceLeDiff,reduceCtorEq,Nat.reduceEqDiff,Nat.reduceAdd,zb]
 |false=>rw [ae3];simp only [hd,za,aC,Nat.reduceMul,Nat.reduceBEq,Nat.reduceLT,Nat.reduceLeDiff,reduceCtorEq,Nat.reduceEqDiff,Nat.reduceAdd,zb]
end Go.Proofs.YthccglceomoboaaGreatDoor.V
namespace Go.Proofs.YthccglceomoboaaGreatDoor
open Go.RowKit V
def zE:Value:=.agg #[.int .u8 0,.int .u8 0,.int .u8 0,.slice none 0 0]
theorem Tryz.anO:lW Tryz.prog 116 119 4 32 zE:=⟨Tryz.underlying116,by kernel_rfl,rfl,by decide⟩
theorem J5 {w:World}{base:Nat}{E:TypeId}{z:Array Value}{v:Value}{n:Nat}{xs:List Value}{es:List PV}(h:tq w base E z v n xs)(hz:z.size=4)(hn:n=es.length)(hc:bJ (fun b=>b<w.heap.size) w 4 es xs):aA (fun b=>b<w.heap.size) w (.list 4 es) v:=by
 subst hn
 obtain ⟨h1,h2⟩:=h
 rcases h2 with ⟨rfl,h0⟩|⟨g,cap,cur,rfl,a2,a3,a4,a5,a6,a7,-⟩
 ·rw [Zac h0];exact .nil _ _
 ·rw [hz] at a6 a7 h1
  have hcell:∀ k u,xs[k]?=some u→w.cell? ⟨g,k,none⟩=some u:=fun k u hu=>by
   rw [cell_of_row w g k cur E (0,0) a3]
   rw [← a7,Zad] at hu
   split at hu
   ·simpa using hu
   ·cases hu
  refine .list 4 es g 0 cap (fun i j=>(xs[i*4+j]?).getD undef) (zt.1 a3).1 ⟨_,_,_,a3⟩ a4 a5 hc.wid (fun i e j x hi hj=>?_) (fun i e j x hi hj=>?_)
  ·obtain ⟨u,g1,g2,g3⟩:=hc.rep i e j x hi hj
   rw [g1,Zaj]
   exact ⟨hcell _ _ g1,g2⟩
  ·obtain ⟨u,g1,g2,g3⟩:=hc.rep i e j x hi hj
   rw [g1]
   exact g3
structure Cj (w w':World)(g q:Nat):Prop where
 other:∀ b,b≠g→b<w.heap.size→w'.heap[b]?=w.heap[b]?
 cells:∃ arr arr' E E',w.heap[g]?=some (.cells arr E (0,0))∧w'.heap[g]?=some (.cells arr' E' (0,0))∧∀ k,k≠q→arr'[k]?=arr[k]?
 here:w.cell? ⟨g,q,none⟩=some (.int .u8 0)
 behind:∃ x n c,w.cell? ⟨g,q+3,none⟩=some (.slice x n c)
 ahead:1≤q→∃ x n c,w.cell? ⟨g,q - 1,none⟩=some (.slice x n c)
theorem Cj.cell {w w':World}{g q:Nat}(h:Cj w w' g q){b k:Nat}(hl:b<w.heap.size)(hb:b=g→k≠q):w'.cell? ⟨b,k,none⟩=w.cell? ⟨b,k,none⟩:=by
 by_cases e:b=g
 ·subst e
  obtain ⟨arr,arr',E,E',h1,h2,h3⟩:=h.cells
  rw [cell_of_row w b k arr E (0,0) h1,cell_of_row w' b k arr' E' (0,0) h2]
  exact h3 k (hb rfl)
 ·exact World.cell?_of_block (a:=⟨b,k,none⟩) (h.other b e hl)
theorem Cj.zN {w w':World}{g q:Nat}(h:Cj w w' g q){b:Nat}(hb:bV w b):bV w' b:=by
 by_cases e:b=g
 ·subst e
  obtain ⟨arr,arr',E,E',h1,h2,h3⟩:=h.cells
  exact ⟨_,_,_,h2⟩
 ·exact hb.same (h.other b e hb.lt)
theorem Cj.list {w w':World}{g q:Nat}(h:Cj w w' g q){ok ok':Nat→Prop}(hok:∀ b,ok b→ok' b){sz:Nat}{es:List PV}{v:Value}(hp:aA ok w (.list sz es) v)
  (hq:∀ b off,(∀ i e,es[i]?=some e→Mem ok w b (off+i*sz) e.cells)→b=g→∀ i e j x,es[i]?=some e→e.cells[j]?=some x→off+i*sz+j≠q)
  (hs:∀ e∈es,∀ x∈e.cells,∀ u,aA ok w x u→aA ok' w' x u):aA ok' w' (.list sz es) v:=by
 cases hp with
 |nil sz x=>exact .nil _ _
 |list sz es b off c cv h1 h2 h3 h4 h6 h7 h8 =>
  have hm:∀ i e,es[i]?=some e→Mem ok w b (off+i*sz) e.cells:=fun i e hi k x hk=>⟨cv i k,(h7 i e k x hi hk).1,(h7 i e k x hi hk).2,h8 i e k x hi hk⟩
  refine .list sz es b off c cv (hok b h1) (h.zN h2) h3 h4 h6 (fun i e j x hi hj=>?_) (fun i e j x hi hj=>hs e (zz hi) x (zz hj) _ (h8 i e j x hi hj))
  rw [h.cell h2.lt (fun e'=>hq b off hm e' i e j x hi hj)]
  exact h7 i e j x hi hj
theorem Em {ok ok':Nat→Prop}{w w':World}{n:Int}{u:Value}(h:aA ok w (.int .u8 n) u):aA ok' w' (.int .u8 n) u:=by
 rw [h.bD];exact .int _ _
theorem G9 (s:eG){j:Nat}(hj:j<8):∃ n,(eP s).cells[j]?=some (.int .u8 n):=by
 have e:(eP s).cells=kS s:=rfl
 have hl:j<(kS s).length:=by rw [iJ];exact hj
 have hm:(kS s)[j]∈kS s:=ZaD hl
 obtain ⟨b,-,hb⟩:=Za9.1 (show (kS s)[j]∈s.toList.map fun b=>PV.int .u8 (b.toNat:Int) from hm)
 exact ⟨_,by rw [e,ZZ hl,← hb]⟩
theorem Cj.Y2 {w w':World}{g q:Nat}(h:Cj w w' g q){ok ok':Nat→Prop}(hok:∀ b,ok b→ok' b){A:List eG}{v:Value}(hp:aA ok w (.list 8 (A.map eP)) v):aA ok' w' (.list 8 (A.map eP)) v:=by
 have hS:∀ (i:Nat) (e:PV),(A.map eP)[i]?=some e→∃ s,e=eP s:=fun i e hi=>by
  rw [zd] at hi
  cases hx:A[i]? with
  |none=>rw [hx] at hi;cases hi
  |some s=>rw [hx] at hi;exact ⟨s,(ZD.inj hi).symm⟩
 refine h.list hok hp (fun b off hm hb i e j x hi hj hq=>?_) (fun e he x hx u hu=>?_)
 ·subst hb
  obtain ⟨s,rfl⟩:=hS i e hi
  have hj8:j<8:=by have:=(Z1.1 hj).1;rwa [show (eP s).cells.length=8 from iJ s] at this
  have hM:=hm i _ hi
  rcases Nat.eq_zero_or_pos j with j0|j0
  ·obtain ⟨n,hn⟩:=G9 s (j:=3) (by decide)
   obtain ⟨u,u1,_,u3⟩:=hM 3 _ hn
   obtain ⟨y,m,c,hc⟩:=h.behind
   rw [show off+i*8+3=q+3 by omega,hc] at u1
   cases u1
   have:=u3.bD
   cases this
  ·obtain ⟨n,hn⟩:=G9 s (j:=j - 1) (by omega)
   obtain ⟨u,u1,_,u3⟩:=hM (j - 1) _ hn
   obtain ⟨y,m,c,hc⟩:=h.ahead (by omega)
   rw [show off+i*8+(j - 1)=q - 1 by omega,hc] at u1
   cases u1
   have:=u3.bD
   cases this
 ·obtain ⟨i,hi⟩:=ZcH he
  obtain ⟨s,rfl⟩:=hS i e hi
  obtain ⟨j,hj⟩:=ZcH hx
  have hj8:j<8:=by have:=(Z1.1 hj).1;rwa [show (eP s).cells.length=8 from iJ s] at this
  obtain ⟨n,hn⟩:=G9 s hj8
  rw [hn] at hj
  cases hj
  exact Em hu
theorem Cj.img {w w':World}{g q:Nat}(h:Cj w w' g q){ok ok':Nat→Prop}(hok:∀ b,ok b→ok' b){im:Img}{v:Value}(hp:aA ok w (.list 1 (im.map dh)) v):aA ok' w' (.list 1 (im.map dh)) v:=by
 have hS:∀ (i:Nat) (e:PV),(im.map dh)[i]?=some e→∃ A:List eG,e=.list 8 (A.map eP):=fun i e hi=>by
  rw [zd] at hi
  cases hx:im[i]? with
  |none=>rw [hx] at hi;cases hi
  |some s=>rw [hx] at hi;exact ⟨s,(ZD.inj hi).symm⟩
 refine h.list hok hp (fun b off hm hb i e j x hi hj hq=>?_) (fun e he x hx u hu=>?_)
 ·subst hb
  obtain ⟨A,rfl⟩:=hS i e hi
  obtain ⟨u,u1,_,u3⟩:=hm i _ hi j x hj
  have hx:x=.list 8 (A.map eP):=by
   have e1:(PV.list 8 (A.map eP)).cells=[.list 8 (A.map eP)]:=rfl
   rw [e1] at hj
   match j,hj with
   |0,hj=>cases hj;rfl
  subst hx
  rw [hq,h.here] at u1
  cases u1
  obtain ⟨y,c,e2,_⟩:=u3.dU
  cases e2
 ·obtain ⟨i,hi⟩:=ZcH he
  obtain ⟨A,rfl⟩:=hS i e hi
  have hx:x=.list 8 (A.map eP):=by
   have e1:(PV.list 8 (A.map eP)).cells=[.list 8 (A.map eP)]:=rfl
   rw [e1] at hx
   exact Zao.1 hx
  subst hx
  exact h.Y2 hok hu
end Go.Proofs.YthccglceomoboaaGreatDoor
namespace Go.Proofs.YthccglceomoboaaGreatDoor.V
def oJ (im:Img):PV:=.list 1 (im.map dh)
structure TW where
 st:Int
 dat:List eG
 f:Bool
 s:Bool
structure TM where
 a:List eG
 b:List eG
 log:iL
 Hy:List Nat
 ws:List TW
 ok:Bool
def Bc (w:TW):PV:=.agg [.int .i64 0,.int .i64 w.st,.list 8 (w.dat.map eP),.bool w.f,.bool w.s]
theorem UG (w:TW):Bc w=.agg [.int .i64 0,.int .i64 w.st,.list 8 (w.dat.map eP),.bool w.f,.bool w.s]:=rfl
def zB (m:TM):PV:=.agg [oJ [m.a],oJ [m.b],.int .i64 m.log.size,.int .i64 m.log.aV,.list 1 (m.log.act.map eI),.int .i64 m.log.bm.size,.list 1 (m.log.bm.ws.map eW),.list 1 (m.Hy.map eY),.list 5 (m.ws.map Bc),.bool m.ok]
def cT (m:TM):List BV:=[.pv (oJ [m.a]),.pv (oJ [m.b]),.pv (.int .i64 m.log.size),.pv (.int .i64 m.log.aV),.pv (.list 1 (m.log.act.map eI)),.pv (.int .i64 m.log.bm.size),.pv (.list 1 (m.log.bm.ws.map eW)),.pv (.list 1 (m.Hy.map eY)),.pv (.list 5 (m.ws.map Bc)),.pv (.bool m.ok)]
def VX (ws:List TW)(st:Int)(dl:Nat)(i:Nat):Bool:=(ws.drop i).any fun o=>decide (st<o.st+(o.dat.length:Int))&&decide (o.st<st+(dl:Int))
theorem ae4 {ws:List TW}{st:Int}{dl i:Nat}(h:i<ws.length):VX ws st dl i=((decide (st<ws[i].st+(ws[i].dat.length:Int))&&decide (ws[i].st<st+(dl:Int))) || VX ws st dl (i+1)):=by
 unfold VX
 rw [Zah h,ZcR]
theorem aiD (ws:List TW)(st:Int)(dl:Nat):VX ws st dl ws.length=false:=by
 unfold VX
 rw [ZaS (zg _)];rfl
theorem tZ (m:TM):cT m=[.pv (oJ [m.a]),.pv (oJ [m.b]),.pv (.int .i64 m.log.size),.pv (.int .i64 m.log.aV),.pv (.list 1 (m.log.act.map eI)),.pv (.int .i64 m.log.bm.size),.pv (.list 1 (m.log.bm.ws.map eW)),.pv (.list 1 (m.Hy.map eY)),.pv (.list 5 (m.ws.map Bc)),.pv (.bool m.ok)]:=rfl
def bW (st:Int)(dat:List eG):List BV:=[.pv (.int .i64 0),.pv (.int .i64 st),.pv (.list 8 (dat.map eP))]
theorem DI (st:Int)(dat:List eG):bW st dat=[.pv (.int .i64 0),.pv (.int .i64 st),.pv (.list 8 (dat.map eP))]:=rfl
def aiE (m:TM)(st:Int)(dat:List eG)(V Z:List BV)(b:Bool):Option (Ex×St):=if b then some (.ret,⟨sl 126 [(2,.aP 0 0),(4,.aP 2 0),(6,.aP 3 0)],[⟨false,cT m⟩,⟨false,V⟩,⟨false,cT m⟩,⟨false,bW st dat⟩],[],none⟩) else some (.normal,⟨sl 126 [(2,.aP 0 0),(4,.aP 2 0),(6,.aP 3 0)],[⟨false,cT m⟩,⟨false,V⟩,⟨false,Z⟩,⟨false,bW st dat⟩],[],none⟩)
theorem ae5 (m:TM)(st:Int)(dat:List eG)(V Z:List BV):aiE m st dat V Z true=some (.ret,⟨sl 126 [(2,.aP 0 0),(4,.aP 2 0),(6,.aP 3 0)],[⟨false,cT m⟩,⟨false,V⟩,⟨false,cT m⟩,⟨false,bW st dat⟩],[],none⟩):=rfl
theorem ae6 (m:TM)(st:Int)(dat:List eG)(V Z:List BV):aiE m st dat V Z false=some (.normal,⟨sl 126 [(2,.aP 0 0),(4,.aP 2 0),(6,.aP 3 0)],[⟨false,cT m⟩,⟨false,V⟩,⟨false,Z⟩,⟨false,bW st dat⟩],[],none⟩):=rfl
def anP (ws:List TW):Prop:=∀ w∈ws,0≤w.st∧w.st+(w.dat.length:Int)≤4096
set_option maxRecDepth 20000 in
theorem aiF {m:TM}{sa:Int}{dat:List eG}{V Z:List BV}(hl:m.ws.length≤1000)(hw:anP m.ws)(hst:0≤sa∧sa+(dat.length:Int)≤4096)(hZ:Z.length=10){st:St}(h:st.head [2,4,6,7] st.boxes.length=some ⟨sl 126 [(2,.aP 0 0),(4,.aP 2 0),(6,.aP 3 0),(7,.pv (.int .i64 (0:Nat)))],[⟨false,cT m⟩,⟨false,V⟩,⟨false,Z⟩,⟨false,bW sa dat⟩],[],none⟩) :
  den env FK st=aiE m sa dat V Z (VX m.ws sa dat.length ((0:Nat))):=by
 unfold FK
 refine dL (env:=env) (nb:=4) (m.ws.length) (fun i=>⟨sl 126 [(2,.aP 0 0),(4,.aP 2 0),(6,.aP 3 0),(7,.pv (.int .i64 i))],[⟨false,cT m⟩,⟨false,V⟩,⟨false,Z⟩,⟨false,bW sa dat⟩],[],none⟩) (fun i=>aiE m sa dat V Z (VX m.ws sa dat.length (i))) h (fun _=>rfl) (fun _=>by simp only [aG,dN,Nat.reduceMul,Nat.reduceBEq,Nat.reduceLT,Nat.reduceLeDiff,Nat.reduceAdd,decide_true,Zal,Zai]) ?_ ?_
 ·intro i rb hi ih
  have hi1:=dV hi (by unfold lim;omega)
  have F1:((i:Int)<(m.ws.length:Int))=True:=eq_true (by omega)
  have q:=hw _ (ZaD hi)
  have hx:(m.ws.map Bc)[i]?=some (Bc m.ws[i]):=by rw [zd,ZZ hi];rfl
  rw [UG] at hx
  have hZd:Zc9 10 Z=[]:=ZaS (by omega)
  have P3:∀ x0 x1 x2 x3 x4:PV,part [x0,x1,x2,x3,x4] 0 (some 3)=some (.agg [x0,x1,x2]):=fun _ _ _ _ _=>rfl
  have zC:∀ x0 x1 x2 x3 x4 x5 x6 x7 x8 x9:PV,part [x0,x1,x2,x3,x4,x5,x6,x7,x8,x9] 0 (some 10)=some (.agg [x0,x1,x2,x3,x4,x5,x6,x7,x8,x9]):=fun _ _ _ _ _ _ _ _ _ _=>rfl
  rw [ae4 hi]
  generalize m.ws[i]=o at *
  have W1:IntKind.i64.wrap (o.st+(o.dat.length:Int))=o.st+(o.dat.length:Int):=aF (by omega)
  have W2:IntKind.i64.wrap (sa+(dat.length:Int))=sa+(dat.length:Int):=aF (by omega)
  by_cases c1:sa<o.st+(o.dat.length:Int)
  ·have F2:=eq_true c1
   rw [decide_eq_true c1,Zai]
   by_cases c2:o.st<sa+(dat.length:Int)
   ·have F3:=eq_true c2
    rw [decide_eq_true c2,Zce,ae5]
    simp only [wO,F1,F2,F3,W1,W2,P3,zC,hx,hZ,hZd,tZ,DI,aB hi,za,aC,Nat.reduceMul,Nat.reduceBEq,Nat.reduceLT,Nat.reduceLeDiff,reduceCtorEq,Nat.reduceEqDiff,Nat.reduceAdd,zb]
   ·have F3:=eq_false c2
    rw [decide_eq_false c2,Zbz]
    simp only [wO,F1,F2,F3,W1,W2,P3,hx,tZ,DI,aB hi,za,aC,Nat.reduceMul,Nat.reduceBEq,Nat.reduceLT,Nat.reduceLeDiff,reduceCtorEq,Nat.reduceEqDiff,Nat.reduceAdd,zb]
    rw [ih _ (by simp only [hi1,tZ,DI,aC,Nat.reduceMul,Nat.reduceBEq,Nat.reduceLT,Nat.reduceLeDiff,reduceCtorEq,Nat.reduceEqDiff,Nat.reduceAdd,zb]<;>rfl)]
  ·have F2:=eq_false c1
   rw [decide_eq_false c1,Bool.false_and,Zbz]
   simp only [wO,F1,F2,W1,W2,P3,hx,tZ,DI,aB hi,za,aC,Nat.reduceMul,Nat.reduceBEq,Nat.reduceLT,Nat.reduceLeDiff,reduceCtorEq,Nat.reduceEqDiff,Nat.reduceAdd,zb]
   rw [ih _ (by simp only [hi1,tZ,DI,aC,Nat.reduceMul,Nat.reduceBEq,Nat.reduceLT,Nat.reduceLeDiff,reduceCtorEq,Nat.reduceEqDiff,Nat.reduceAdd,zb]<;>rfl)]
 ·intro rb
  rw [aiD,ae6]
  simp only [wO,ZaL,tZ,DI,za,aC,Nat.reduceMul,Nat.reduceBEq,Nat.reduceLT,Nat.reduceLeDiff,reduceCtorEq,Nat.reduceEqDiff,Nat.reduceAdd,zb]
def ni (m:TM)(x:TE):Nat:=x.st % m.a.length
def pV (m:TM)(x:TE):List eG:=x.dat.take (min x.dat.length (m.a.length - ni m x))
def Q5 (m:TM)(x:TE):bH:=⟨(ni m x:Int),((pV m x).length:Int)⟩
def MR (m:TM)(x:TE):TM:=if x.dat.length=0 then m else if VX m.ws (ni m x:Int) (pV m x).length 0 then m else
 ⟨m.a,m.b,Iu m.log (Q5 m x),if bgS m.log (Q5 m x) then jL (Iu m.log (Q5 m x)) else m.Hy,m.ws++[⟨(ni m x:Int),pV m x,false,false⟩],true⟩
set_option maxRecDepth 20000 in
theorem al4 {m:TM}{x:TE}(ha:1≤m.a.length∧m.a.length≤60)(ho:fP m.log=true)(hx:uU x)(hdl:x.dat.length≤1000)(hw:anP m.ws)(hl:m.ws.length≤1000)(hok:m.ok=true)(hE:x.dat.length≠0→Zv m.log (Q5 m x)=0):cal env 210 [zB m,pU x]=some [(zB (MR m x),false)]:=by
 obtain ⟨x1,x2,x3⟩:=hx
 have eX:oJ [m.a]=.list 1 [.list 8 (m.a.map eP)]:=rfl
 have zC:∀ x0 x1 x2 x3 x4 x5 x6 x7 x8 x9:PV,part [x0,x1,x2,x3,x4,x5,x6,x7,x8,x9] 0 (some 10)=some (.agg [x0,x1,x2,x3,x4,x5,x6,x7,x8,x9]):=fun _ _ _ _ _ _ _ _ _ _=>rfl
 have N1:(((1:Nat):Int) != 1)=false:=rfl
 have i0:index (PV.int IntKind.i64 0) 1=some 0:=rfl
 have A0:((m.a.length:Int)==0)=false:=by simp;intro e;rw [e] at ha;simp at ha
 by_cases c0:x.dat.length=0
 ·have D0:((x.dat.length:Int)==0)=true:=by rw [c0];rfl
  have hQ:MR m x=m:=by unfold MR;rw [if_pos c0]
  rw [hQ]
  unfold zB
  rw [eX,oZ]
  rw [ak adi rfl];simp only [JB,aG,Nat.reduceBEq,Nat.reduceLeDiff,Nat.reduceAdd,zc,ze]
  simp only [zC,N1,i0,A0,D0,za,aC,Nat.reduceMul,Nat.reduceBEq,Nat.reduceLT,Nat.reduceLeDiff,reduceCtorEq,Nat.reduceEqDiff,Nat.reduceAdd,zb]
  done
 ·have D0:((x.dat.length:Int)==0)=false:=by simpa using c0
  have MW:(x.st:Int).tmod (m.a.length:Int)=((ni m x:Nat):Int):=by rw [Zaq (by omega)];rfl
  have FL:((m.a.length:Int)=0)=False:=eq_false (by omega)
  have W1:IntKind.i64.wrap (x.st:Int)=x.st:=aF (by omega)
  have hp:ni m x<m.a.length:=Nat.mod_lt _ (by omega)
  have W2:IntKind.i64.wrap ((m.a.length:Int) - (ni m x:Int))=(m.a.length:Int) - (ni m x:Int):=aF (by omega)
  obtain ⟨dl,hd⟩:∃ dl,min x.dat.length (m.a.length - ni m x)=dl:=⟨_,rfl⟩
  have MN:(if (m.a.length:Int) - (ni m x:Int)<(x.dat.length:Int) then (m.a.length:Int) - (ni m x:Int) else (x.dat.length:Int))=(dl:Int):=by
   rw [← hd];split<;>omega
  have B0:(0≤(dl:Int))=True:=eq_true (by omega)
  have B1:((dl:Int)≤(x.dat.length:Int))=True:=eq_true (by omega)
  have TK:List.take dl (x.dat.map eP)=(pV m x).map eP:=by unfold pV;rw [hd,Zcv]
  have aqx:(pV m x).length=dl:=by unfold pV;rw [hd,Zam];omega
  unfold zB
  rw [eX,oZ]
  rw [ak adi rfl];simp only [JB,aG,Nat.reduceBEq,Nat.reduceLeDiff,Nat.reduceAdd,zc,ze]
  simp only [zC,N1,i0,A0,D0,MW,FL,W1,W2,MN,B0,B1,TK,Zaw,ZbE,za,aC,Nat.reduceMul,Nat.reduceBEq,Nat.reduceLT,Nat.reduceLeDiff,reduceCtorEq,Nat.reduceEqDiff,Nat.reduceAdd,zb]
  rw [aiF (m:=m) (sa:=(ni m x:Int)) (dat:=pV m x) (Z:=[.pv (.list 0 []),.pv (.list 0 []),.pv (.int .i64 0),.pv (.int .i64 0),.pv (.list 0 []),.pv (.int .i64 0),.pv (.list 0 []),.pv (.list 0 []),.pv (.list 0 []),.pv (.bool false)]) hl hw (by rw [aqx];omega) rfl (by simp only [tZ,DI,eX];simp only [aG,dN,Nat.reduceMul,Nat.reduceBEq,Nat.reduceLT,Nat.reduceLeDiff,Nat.reduceAdd,decide_true,Zal,Zai]<;>rfl)]
  cases hov:VX m.ws (ni m x:Int) (pV m x).length 0 with
  |true =>
   have hQ:MR m x=m:=by unfold MR;rw [if_neg c0,hov];rfl
   rw [hQ,ae5]
   simp only [tZ,eX]
   simp only [zC,N1,i0,A0,D0,MW,FL,W1,W2,MN,B0,B1,TK,Zaw,ZbE,za,aC,Nat.reduceMul,Nat.reduceBEq,Nat.reduceLT,Nat.reduceLeDiff,reduceCtorEq,Nat.reduceEqDiff,Nat.reduceAdd,zb]
   done
  |false =>
   rw [ae6]
   have hE:=hE c0
   obtain ⟨i1,i2,i3,i4,i5⟩:=bP.1 ho
   obtain ⟨z1,z2,z3,z4⟩:=cZ.1 i1
   have hla:m.log.act.length≤lim:=by have:=lG i1;unfold lim;omega
   obtain ⟨I,hI⟩:∃ I,Iu m.log (Q5 m x)=I:=⟨_,rfl⟩
   have hIk:=aiw ho hE
   rw [hI] at hIk
   have hB:cal env 88 [.agg [.int .i64 m.log.size,.int .i64 m.log.aV,.list 1 (m.log.act.map eI),.int .i64 m.log.bm.size,.list 1 (m.log.bm.ws.map eW)],.agg [.int .i64 (ni m x:Int),.int .i64 ((pV m x).length:Int)]]=some [(.agg [.int .i64 I.size,.int .i64 I.aV,.list 1 (I.act.map eI),.int .i64 I.bm.size,.list 1 (I.bm.ws.map eW)],false),(.bool (bgS m.log (Q5 m x)),false),(.int .i64 0,false)]:=by
    have:=anE (i:=m.log) (e:=Q5 m x) hla
    rw [hI,hE] at this
    exact this
   have hN:cal env 90 [.agg [.int .i64 I.size,.int .i64 I.aV,.list 1 (I.act.map eI),.int .i64 I.bm.size,.list 1 (I.bm.ws.map eW)]]=some [(.list 1 ((jL I).map eY),true)]:=aeN (by rw [hIk.2.2.2];exact hla)
   have P5:∀ a b c d e:PV,part [a,b,c,d,e] 0 (some 5)=some (.agg [a,b,c,d,e]):=fun _ _ _ _ _=>rfl
   have P3:∀ a b c:PV,part [a,b,c] 0 (some 3)=some (.agg [a,b,c]):=fun _ _ _=>rfl
   have E0:((0:Int)==0)=true:=rfl
   have L1:m.ws.length≤lim:=by unfold lim;omega
   have L2:m.ws.length+1≤lim:=by unfold lim;omega
   have hW:Zci Bc m.ws++[.agg [.int .i64 0,.int .i64 (ni m x:Int),.list 8 ((pV m x).map eP),.bool false,.bool false]]=(m.ws++[(⟨(ni m x:Int),pV m x,false,false⟩:TW)]).map Bc:=by rw [ZaH];rfl
   simp only [tZ,DI,eX]
   cases hb:bgS m.log (Q5 m x) with
   |true =>
    have hQ:MR m x=⟨m.a,m.b,I,jL I,m.ws++[⟨(ni m x:Int),pV m x,false,false⟩],true⟩:=by unfold MR;rw [if_neg c0,hov,hI,hb];rfl
    rw [hb] at hB
    rw [hQ]
    simp only [zC,P5,P3,E0,hok,hB,hN,L1,L2,hW,N1,i0,Zaw,ZbE,za,aC,Nat.reduceMul,Nat.reduceBEq,Nat.reduceLT,Nat.reduceLeDiff,reduceCtorEq,Nat.reduceEqDiff,Nat.reduceAdd,zb]
    rfl
   |false =>
    have hQ:MR m x=⟨m.a,m.b,I,m.Hy,m.ws++[⟨(ni m x:Int),pV m x,false,false⟩],true⟩:=by unfold MR;rw [if_neg c0,hov,hI,hb];rfl
    rw [hb] at hB
    rw [hQ]
    simp only [zC,P5,P3,E0,hok,hB,hN,L1,L2,hW,N1,i0,Zaw,ZbE,za,aC,Nat.reduceMul,Nat.reduceBEq,Nat.reduceLT,Nat.reduceLeDiff,reduceCtorEq,Nat.reduceEqDiff,Nat.reduceAdd,zb]
    rfl
def clT (m:TM)(x:TE):TM:=⟨m.a,m.b,tH m.log,if x.wh % 2=0 then jL (tH m.log) else m.Hy,m.ws,m.ok⟩
set_option maxRecDepth 20000 in
theorem aiG {m q:TM}{x:TE}(hx:uU x)(hK:x.kd % 5=0)(hB:cal env 210 [zB m,pU x]=some [(zB q,false)]):cal env 134 [zB m,pU x]=some [(zB q,false)]:=by
 obtain ⟨x1,x2,x3⟩:=hx
 have hk5:(x.kd:Int).tmod 5=0:=by rw [Zaq (by omega)];omega
 have F5:((5:Int)=0)=False:=eq_false (by decide)
 have E0:((0:Int)==0)=true:=rfl
 have zC:∀ x0 x1 x2 x3 x4 x5 x6 x7 x8 x9:PV,part [x0,x1,x2,x3,x4,x5,x6,x7,x8,x9] 0 (some 10)=some (.agg [x0,x1,x2,x3,x4,x5,x6,x7,x8,x9]):=fun _ _ _ _ _ _ _ _ _ _=>rfl
 have P4:∀ a b c d:PV,part [a,b,c,d] 0 (some 4)=some (.agg [a,b,c,d]):=fun _ _ _ _=>rfl
 unfold zB at hB ⊢
 rw [oZ] at hB ⊢
 rw [ak qN rfl];simp only [qL,aG,Nat.reduceBEq,Nat.reduceLeDiff,Nat.reduceAdd,zc,ze]
 simp only [zC,P4,hk5,F5,E0,hB,za,aC,Nat.reduceMul,Nat.reduceBEq,Nat.reduceLT,Nat.reduceLeDiff,reduceCtorEq,Nat.reduceEqDiff,Nat.reduceAdd,zb]
set_option maxRecDepth 20000 in
theorem aiH {m:TM}{x:TE}(ho:fP m.log=true)(hx:uU x)(hK:x.kd % 5=4):cal env 134 [zB m,pU x]=some [(zB (clT m x),false)]:=by
 obtain ⟨x1,x2,x3⟩:=hx
 have hk5:(x.kd:Int).tmod 5=4:=by rw [Zaq (by omega)];omega
 have hw2:(x.wh:Int).tmod 2=((x.wh % 2:Nat):Int):=by rw [Zaq (by omega)];rfl
 have F5:((5:Int)=0)=False:=eq_false (by decide)
 have F2:((2:Int)=0)=False:=eq_false (by decide)
 have E0:((4:Int)==0)=false:=rfl
 have E1:((4:Int)==4)=true:=rfl
 obtain ⟨i1,i2,i3,i4,i5⟩:=bP.1 ho
 have hla:m.log.act.length≤lim:=by have:=lG i1;have:=cZ.1 i1;unfold lim;omega
 obtain ⟨I,hI⟩:∃ I,tH m.log=I:=⟨_,rfl⟩
 have hC:cal env 211 [.agg [.int .i64 m.log.size,.int .i64 m.log.aV,.list 1 (m.log.act.map eI),.int .i64 m.log.bm.size,.list 1 (m.log.bm.ws.map eW)]]=some [(.agg [.int .i64 I.size,.int .i64 I.aV,.list 1 (I.act.map eI),.int .i64 I.bm.size,.list 1 (I.bm.ws.map eW)],false),(.bool (alx m.log),false)]:=by
  have:=aly hla
  rw [hI] at this
  exact this
 have hIa:I.act=m.log.act:=by rw [← hI];exact (G7 ho).2.2.2.1
 have hN:cal env 90 [.agg [.int .i64 I.size,.int .i64 I.aV,.list 1 (I.act.map eI),.int .i64 I.bm.size,.list 1 (I.bm.ws.map eW)]]=some [(.list 1 ((jL I).map eY),true)]:=aeN (by rw [hIa];exact hla)
 have P5:∀ a b c d e:PV,part [a,b,c,d,e] 0 (some 5)=some (.agg [a,b,c,d,e]):=fun _ _ _ _ _=>rfl
 have zC:∀ x0 x1 x2 x3 x4 x5 x6 x7 x8 x9:PV,part [x0,x1,x2,x3,x4,x5,x6,x7,x8,x9] 0 (some 10)=some (.agg [x0,x1,x2,x3,x4,x5,x6,x7,x8,x9]):=fun _ _ _ _ _ _ _ _ _ _=>rfl
 unfold clT
 rw [hI]
 unfold zB
 rw [oZ]
 rcases (by omega:x.wh % 2=0∨x.wh % 2=1) with cw|cw
 ·have W0:(((x.wh % 2:Nat):Int)==0)=true:=by rw [cw];rfl
  rw [if_pos cw]
  rw [ak qN rfl];simp only [qL,aG,Nat.reduceBEq,Nat.reduceLeDiff,Nat.reduceAdd,zc,ze]
  simp only [P5,zC,hk5,hw2,F5,F2,E0,E1,hC,hN,W0,za,aC,Nat.reduceMul,Nat.reduceBEq,Nat.reduceLT,Nat.reduceLeDiff,reduceCtorEq,Nat.reduceEqDiff,Nat.reduceAdd,zb]
 ·have W0:(((x.wh % 2:Nat):Int)==0)=false:=by rw [cw];rfl
  rw [if_neg (by omega)]
  rw [ak qN rfl];simp only [qL,aG,Nat.reduceBEq,Nat.reduceLeDiff,Nat.reduceAdd,zc,ze]
  simp only [P5,zC,hk5,hw2,F5,F2,E0,E1,hC,hN,W0,za,aC,Nat.reduceMul,Nat.reduceBEq,Nat.reduceLT,Nat.reduceLeDiff,reduceCtorEq,Nat.reduceEqDiff,Nat.reduceAdd,zb]
set_option maxRecDepth 20000 in
theorem aiI {m:TM}{x:TE}(hx:uU x)(hK0:x.kd % 5≠0)(hK4:x.kd % 5≠4)(hw:m.ws=[]):cal env 134 [zB m,pU x]=some [(zB m,false)]:=by
 obtain ⟨x1,x2,x3⟩:=hx
 obtain ⟨K,hk⟩:∃ K,x.kd % 5=K:=⟨_,rfl⟩
 rw [hk] at hK0 hK4
 have hk5:(x.kd:Int).tmod 5=(K:Int):=by rw [Zaq (by omega)];omega
 have F5:((5:Int)=0)=False:=eq_false (by decide)
 have E0:((K:Int)==0)=false:=by simp;omega
 have E4:((K:Int)==4)=false:=by simp;omega
 have EL:((m.ws.length:Int)==0)=true:=by rw [hw];rfl
 have zC:∀ x0 x1 x2 x3 x4 x5 x6 x7 x8 x9:PV,part [x0,x1,x2,x3,x4,x5,x6,x7,x8,x9] 0 (some 10)=some (.agg [x0,x1,x2,x3,x4,x5,x6,x7,x8,x9]):=fun _ _ _ _ _ _ _ _ _ _=>rfl
 unfold zB
 rw [oZ]
 rw [ak qN rfl];simp only [qL,aG,Nat.reduceBEq,Nat.reduceLeDiff,Nat.reduceAdd,zc,ze]
 simp only [zC,hk5,F5,E0,E4,EL,za,aC,Nat.reduceMul,Nat.reduceBEq,Nat.reduceLT,Nat.reduceLeDiff,reduceCtorEq,Nat.reduceEqDiff,Nat.reduceAdd,zb]
instance:Inhabited eG:=⟨E5⟩
theorem al6 {a d:List eG}{s:Nat}(h:s+d.length≤a.length):putAt a s d=wrA a ⟨(s:Int),(d.length:Int)⟩ (fun k=>d.getD (k - s) E5):=by
 apply ZbR
 intro k
 unfold putAt wrA
 rw [List.getElem?_mapIdx]
 by_cases c1:k<s
 ·rw [Zan,zR (by simp;omega),Zad,if_pos c1]
  have:uh ⟨(s:Int),(d.length:Int)⟩ k=false:=by
   rw [Za2];intro e;have:=uT.1 e;simp only at this;omega
  simp [this]
 ·by_cases c2:k<s+d.length
  ·have:uh ⟨(s:Int),(d.length:Int)⟩ k=true:=uT.2 (by simp only;omega)
   rw [zR (by simp;omega),zP (by simp;omega)]
   have hk:k - (a.take s).length=k - s:=by simp;omega
   rw [hk,ZZ (show k<a.length by omega),ZZ (show k - s<d.length by omega)]
   simp [this,Zaf,ZZ (show k - s<d.length by omega)]
  ·have:uh ⟨(s:Int),(d.length:Int)⟩ k=false:=by
    rw [Za2];intro e;have:=uT.1 e;simp only at this;omega
   rw [zP (by simp;omega)]
   have hk:k - (a.take s++d).length=k - (s+d.length):=by simp;omega
   rw [hk,Zaz,show s+d.length+(k - (s+d.length))=k by omega]
   simp [this]
end Go.Proofs.YthccglceomoboaaGreatDoor.V
namespace Go.Proofs.YthccglceomoboaaGreatDoor
open Go.RowKit
structure lI (W:World)(g:Nat) where
 w:World
 grown:W.grownBy w (some g)
instance (W:World) (g:Nat):Nonempty (lI W g):=⟨⟨W,World.grownBy.refl _ _⟩⟩
theorem lI.of {W w:World}{g:Nat}(h:W.grownBy w (some g)):∃ x:lI W g,w=x.w:=⟨⟨w,h⟩,rfl⟩
theorem grown_drew (W:World)(row:Option Nat):W.grownBy W.drew row:=⟨rfl,rfl,rfl,zg _,fun _ _ _=>rfl⟩
theorem lI.drew (W:World)(g:Nat):∃ x:lI W g,W.drew=x.w:=lI.of (grown_drew _ _)
theorem nV {w:World}{g:Nat}{a:Addr}{v:Value}(h:w.cell? a=some v)(hne:a.block≠g):∀ x:lI w g,x.w.cell? a=some v:=fun x =>
 x.grown.cell h fun e=>hne (ZD.inj e)
theorem DJ {a b c:World}{row:Option Nat}(h:a.grownBy b row)(k:b.grownBy c row):a.grownBy c row :=
 ⟨k.os.trans h.os,k.tape.trans h.tape,k.output.trans h.output,Zaa h.size k.size,fun i hi hr=>(k.block i (Zab hi h.size) hr).trans (h.block i hi hr)⟩
theorem Cm {w w':World}{row:Option Nat}(h:w.grownBy w' none):w.grownBy w' row:=⟨h.os,h.tape,h.output,h.size,fun k hk _=>h.block k hk (by simp)⟩
theorem grown_below {B:Nat}{w w':World}{row:Option Nat}(h:w.grownBy w' row)(hB:B≤w.heap.size)(hr:∀ k,row=some k→B≤k):Below B w w':=(Below.refl B w).grown h hB hr
theorem below_grown {w w':World}(h:Below w.heap.size w w'):w.grownBy w' none:=⟨h.os,h.tape,h.output,h.size,fun k hk _=>h.block k hk⟩
theorem MS {w w1:World}{cs:Array Value}{T:TypeId}(hb:Below (w.alloc (.cells cs T)).heap.size (w.alloc (.cells cs T)) w1){j:Nat}{v:Value}(h:cs[j]?=some v):w1.cell? ⟨w.heap.size,j,none⟩=some v:=by
 rw [hb.cell (p:=⟨w.heap.size,j,none⟩) (by simp),World.cell?_alloc_mark w cs T (0,0) j,h]
theorem AX (w:World)(E:TypeId)(cs:Array Value):∀ j u,cs.toList[j]?=some u→(w.alloc (.cells cs E)).cell? ((⟨w.heap.size,0,none⟩:Addr).add j)=some u:=fun j u hu=>by
 rw [Addr.add_lit,Zaj,World.cell?_alloc_mark w cs E (0,0) j]
 simpa using hu
theorem ae7 {α:Type}{r:Rep α}{ok:Nat→Prop}{w w':World}{cs:List Value}{x:α}(h:r.rd ok w cs x)(hb:Below w.heap.size w w'):r.rd ok w' cs x :=
 r.mono (fun _ hb=>hb.1) (r.frame (fun b hb'=>hb.block b hb'.2) (r.live h))
theorem QG {α:Type}{r:Rep α}{ok:Nat→Prop}{w:World}{cs:List Value}{x:α}(h:r.rd ok w cs x){o:Obj}:r.rd ok (w.alloc o) cs x:=ae7 h ((Below.refl _ _).alloc (zg _) _)
def dB {α:Type}(r:Rep α)(tag:Nat→Nat)(ok:Nat→Prop)(w:World):Nat→List Value→List α→Prop
 |_,xs,[]=>xs=[]
 |i,xs,x::l=>∃ c rest,xs=c++rest∧r.rd (fun b=>ok b∧tag b=i) w c x∧dB r tag ok w (i+1) rest l
section
variable {α:Type}{r:Rep α}{tag tag':Nat→Nat}{ok ok':Nat→Prop}{w w':World}
theorem dB.mono (hk:∀ b,ok b→ok' b):∀ {l:List α} {i:Nat} {xs:List Value},dB r tag ok w i xs l→dB r tag ok' w i xs l
 |[],_,_,h=>h
 |_::_,_,_,⟨c,rest,e,h1,h2⟩=>⟨c,rest,e,r.mono (fun b hb=>⟨hk b hb.1,hb.2⟩) h1,h2.mono hk⟩
theorem dB.retag (hk:∀ b,ok b→tag' b=tag b):∀ {l:List α} {i:Nat} {xs:List Value},dB r tag ok w i xs l→dB r tag' ok w i xs l
 |[],_,_,h=>h
 |_::_,_,_,⟨c,rest,e,h1,h2⟩=>⟨c,rest,e,r.mono (fun b hb=>⟨hb.1,by rw [hk b hb.1];exact hb.2⟩) h1,h2.retag hk⟩
theorem dB.live:∀ {l:List α} {i:Nat} {xs:List Value},dB r tag ok w i xs l→dB r tag (fun b=>ok b∧b<w.heap.size) w i xs l
 |[],_,_,h=>h
 |_::_,_,_,⟨c,rest,e,h1,h2⟩=>⟨c,rest,e,r.mono (fun b hb=>⟨⟨hb.1.1,hb.2⟩,hb.1.2⟩) (r.live h1),h2.live⟩
theorem dB.frame (hf:∀ b,ok b→w'.heap[b]?=w.heap[b]?):∀ {l:List α} {i:Nat} {xs:List Value},dB r tag ok w i xs l→dB r tag ok w' i xs l
 |[],_,_,h=>h
 |_::_,_,_,⟨c,rest,e,h1,h2⟩=>⟨c,rest,e,r.frame (fun b hb=>hf b hb.1) h1,h2.frame hf⟩
theorem dB.chunks:∀ {l:List α} {i:Nat} {xs:List Value},dB r tag ok w i xs l→Chunks r ok w xs l
 |[],_,_,h=>h
 |_::_,_,_,⟨c,rest,e,h1,h2⟩=>⟨c,rest,e,r.mono (fun b hb=>hb.1) h1,h2.chunks⟩
theorem dB.snoc {c:List Value}{x:α}:∀ {l:List α} {i:Nat} {xs:List Value},dB r tag ok w i xs l→r.rd (fun b=>ok b∧tag b=i+l.length) w c x→dB r tag ok w i (xs++c) (l++[x])
 |[],i,xs,h,hc=>by
  simp only [dB] at h
  subst h
  exact ⟨c,[],by simp,by simpa using hc,rfl⟩
 |y::l,i,xs,⟨d,rest,e,h1,h2⟩,hc=>⟨d,rest++c,by rw [e,Zan],h1,h2.snoc (by rw [zc] at hc;rw [show i+1+l.length=i+(l.length+1) by omega];exact hc)⟩
theorem dB.pick:∀ {l:List α} {i:Nat} {xs:List Value},dB r tag ok w i xs l→∀ {k:Nat} {x:α},l[k]?=some x →
  ∃ c,(∀ j,j<r.sz→xs[k*r.sz+j]?=c[j]?)∧r.rd (fun b=>ok b∧tag b=i+k) w c x ∧
   ∀ (w':World) (x':α),(∀ b,ok b→tag b≠i+k→w'.heap[b]?=w.heap[b]?)→r.rd (fun b=>ok b∧tag b=i+k) w' c x'→dB r tag ok w' i xs (l.set k x')
 |[],_,_,_,k,x,hx=>by simp at hx
 |y::l,i,xs,⟨c,rest,e,h1,h2⟩,0,x,hx=>by
  simp only [Zau,ZD.injEq] at hx
  subst hx
  refine ⟨c,fun j hj=>by rw [e,Nat.zero_mul,Zaj,zR (by rw [r.len h1];exact hj)],h1,fun w' x' hf hr=>?_⟩
  refine ⟨c,rest,e,hr,?_⟩
  -- the tail's elements bear other tags
  have:∀ {l:List α} {m:Nat} {xs:List Value},i<m→dB r tag ok w m xs l→dB r tag ok w' m xs l:=by
   intro l
   induction l with
   |nil=>intro m xs _ h;exact h
   |cons z l ih =>
    intro m xs hm h
    obtain ⟨d,rs,e',h3,h4⟩:=h
    exact ⟨d,rs,e',r.frame (fun b hb=>hf b hb.1 (by rw [hb.2];omega)) h3,ih (by omega) h4⟩
  exact this (Nat.lt_succ_self _) h2
 |y::l,i,xs,⟨c,rest,e,h1,h2⟩,k+1,x,hx=>by
  obtain ⟨d,h3,h4,h5⟩:=h2.pick (k:=k) (x:=x) (by simpa using hx)
  have ei:i+1+k=i+(k+1):=by omega
  refine ⟨d,fun j hj=>?_,by rw [← ei];exact h4,fun w' x' hf hr=>?_⟩
  ·rw [e,zP (by rw [r.len h1,Zap];omega),r.len h1,← h3 j hj]
   congr 1
   rw [Zap];omega
  ·refine ⟨c,rest,e,r.frame (fun b hb=>hf b hb.1 (by rw [hb.2];omega)) h1,?_⟩
   exact h5 w' x' (fun b hb hne=>hf b hb (by rw [← ei];exact hne)) (by rw [ei];exact hr)
end
def kU {α:Type}(r:Rep α)(B F:Nat)(E:TypeId)(w:World)(v:Value)(l:List α):Prop :=
 ∃ tag xs,w.ownsRow B E r.sz v l.length xs∧dB r tag (fun b=>B≤b∧b<F∧ZD b≠v.ownBlock) w 0 xs l
section
variable {α:Type}{r:Rep α}{B F:Nat}{E:TypeId}{w w':World}{v:Value}{l:List α}
theorem kU.nil (r:Rep α)(B F:Nat)(E:TypeId)(w:World):kU r B F E w (.slice none 0 0) []:=⟨fun _=>0,[],World.ownsRow_nil _ _ _ _,rfl⟩
theorem kU.up {F':Nat}(h:kU r B F E w v l)(hF:F≤F'):kU r B F' E w v l :=
 let ⟨tag,xs,h1,h2⟩:=h;⟨tag,xs,h1,h2.mono fun _ hb=>⟨hb.1,Zab hb.2.1 hF,hb.2.2⟩⟩
theorem kU.live (h:kU r B F E w v l):kU r B w.heap.size E w v l :=
 let ⟨tag,xs,h1,h2⟩:=h;⟨tag,xs,h1,h2.live.mono fun _ hb=>⟨hb.1.1,hb.2,hb.1.2.2⟩⟩
theorem kU.lt (h:kU r B F E w v l):∀ k,v.ownBlock=some k→B≤k∧k<w.heap.size:=let ⟨_,_,h1,_⟩:=h;h1.lt
theorem kU.below (h:kU r B F E w v l)(hb:Below w.heap.size w w'):kU r B F E w' v l:=by
 obtain ⟨tag,xs,h1,h2⟩:=h
 exact ⟨tag,xs,h1.kept (below_grown hb) (by cases v.ownBlock<;>simp),(dB.frame (fun b hb'=>hb.block b hb'.2) h2.live).mono fun b hb=>hb.1⟩
theorem kU.own (h:kU r B F E w v l):Own r B E (B≤·) w v l :=
 let ⟨_,xs,h1,h2⟩:=h;⟨xs,h1,h2.chunks.mono fun _ hb=>⟨hb.1,hb.2.2⟩⟩
theorem kU.sl (h:kU r B F E w v l):∃ a n c,v=.slice a n c∧Sl r (B≤·) w a n c l :=
 let ⟨a,n,c,e,h⟩:=h.own.sl;⟨a,n,c,e,h.mono fun _ hb=>hb.elim id id⟩
theorem DK {P:Program}{ops:Array Oper}{rest:List Oper}{o:Oper}{a:Act}{Q:Exit→Act→World→Prop}{T bytes:Nat}{z:Value}(ht:lW P T E r.sz bytes z)(hgd:o.guard=none)(s x:Operand)
  (ho:o.op=.call { callee:=.builtin .append,args:=#[s,x],argTypes:=#[T,T] }) (hs:a.eval s=v) (h:kU r B F E w v l) {ad:Addr} {c:Nat} (hx:a.eval x=.slice (some ad) 1 c)
  {y:α} {news:List Value} (hnews:∀ j u,news[j]?=some u→w.cell? (ad.add j)=some u) (hrd:r.rd (F≤·) w news y) (hown:∀ k,v.ownBlock=some k→k<F)
  (h63:l.length+1≤maxLen) (hby:(l.length+1)*bytes≤140737488355328) (hB:B≤F) (hF:F≤w.heap.size)
  (hk:∀ v' w',kU r B w'.heap.size E w' v' (l++[y])→w.grownBy w' v.ownBlock→(v'.ownBlock=v.ownBlock∨v'.ownBlock=some w.heap.size)→wpList P ops Q rest (a.put o.dst v') w'):wpList P ops Q (o::rest) a w:=by
 refine wpList_plain hgd fun K hK=>?_
 obtain ⟨i,hi,hz0,hz1,hz2⟩:=info_parts ht.i
 obtain ⟨tag,xs,h1,h2⟩:=h
 obtain ⟨v',w',hr,h3,h4,_,h6⟩:=run_append_own_at (P:=P) w B T o.type E i z r.sz bytes ht.u hi hz0 hz1 hz2 ht.zs ht.pos v l.length xs h1 ad 1 c news (by rw [r.len hrd];simp) hnews (r.one hrd) h63 hby (by omega)
 unfold Oper.wp execOp
 simp only [ho,resolve,invoke,builtin,Sem.run_bind,Sem.run_pure,Result.andThen_ok,ZbT,Zat,Zav,hs,hx,hr]
 refine hK _ _ (hk v' w' ?_ h4 h6)
 refine ⟨fun b=>if F≤b then l.length else tag b,xs++news,by rw [zp];exact h3,?_⟩
 have hne:∀ b,b<w.heap.size→ZD b≠v.ownBlock→ZD b≠v'.ownBlock:=fun b hb hn=>by
  rcases h6 with h6|h6
  ·rw [h6];exact hn
  ·rw [h6];intro e;have:=ZD.inj e;omega
 refine dB.snoc ?_ ?_
 ·have e1:dB r (fun b=>if F≤b then l.length else tag b) (fun b=>B≤b∧b<F∧ZD b≠v.ownBlock) w 0 xs l:=h2.retag fun b hb=>by
   show (if F≤b then l.length else tag b)=tag b
   rw [if_neg (by omega)]
  refine (dB.frame (fun b hb=>h4.block b (by omega) hb.2.2) e1).mono fun b hb=>⟨hb.1,Zab hb.2.1 (Zaa hF h4.size),hne b (by omega) hb.2.2⟩
 ·have hno:∀ b,F≤b→ZD b≠v.ownBlock:=fun b hb e=>by have:=hown b e.symm;omega
  refine r.mono (fun b hb=>⟨⟨by omega,Zab hb.2 h4.size,hne b hb.2 (hno b hb.1)⟩,?_⟩) (r.frame (fun b hb=>h4.block b hb.2 (hno b hb.1)) (r.live hrd))
  show (if F≤b then l.length else tag b)=0+l.length
  rw [if_pos hb.1,Zaj]
def ae8 {α:Type}(r:Rep α)(ok:Nat→Prop)(w:World)(l:List α)(err:Int):Ending→World→Prop:=fun e w' =>
 ∃ a n c,e=.returned (.tuple #[.slice a n c,.int .i64 err])∧Sl r ok w' a n c l∧Below w.heap.size w w'
theorem ae8.mk {α:Type}{r:Rep α}{ok:Nat→Prop}{w w':World}{l:List α}{err err':Int}{a:Option Addr}{n c:Nat}(he:err'=err)(h:Sl r ok w' a n c l)(hB:Below w.heap.size w w') :
  ae8 r ok w l err (.returned (.tuple #[.slice a n c,.int .i64 err'])) w':=⟨a,n,c,by rw [he],h,hB⟩
theorem Sl.nil0 {α:Type}(r:Rep α)(ok:Nat→Prop)(w:World):Sl r ok w none 0 0 []:=⟨rfl,zg _,ZaG _,fun _=>rfl,.inl rfl⟩
def Flat {α:Type}(r:Rep α):Prop:=∀ {ok ok':Nat→Prop} {w w':World} {cs:List Value} {x:α},r.rd ok w cs x→r.rd ok' w' cs x
theorem Flat.int:Flat vP:=fun h=>h
theorem Flat.sec:Flat zD:=fun h=>h
theorem Flat.u8:Flat u8R:=fun h=>h
theorem Flat.u64:Flat ap2:=fun h=>h
theorem Flat.bool:Flat amT:=fun h=>h
theorem Chunks.flat {α:Type}{r:Rep α}(hf:Flat r){ok ok':Nat→Prop}{w w':World}:∀ {l:List α} {xs:List Value},Chunks r ok w xs l→Chunks r ok' w' xs l
 |[],_,h=>h
 |_::_,_,⟨c,rest,e,h1,h2⟩=>⟨c,rest,e,hf h1,h2.flat hf⟩
theorem Src.flat {α:Type}{r:Rep α}(hf:Flat r){ok ok':Nat→Prop}{w:World}{ao:Option Addr}{m c:Nat}{ys:List α}(h:Src r ok w ao m c ys):Src r ok' w ao m c ys :=
 let ⟨h1,h2,news,h3,h4⟩:=h;⟨h1,h2,news,h3,h4.flat hf⟩
theorem Own.ae9 {α:Type}(r:Rep α){B:Nat}{E:TypeId}{ok:Nat→Prop}{w:World}(hB:B≤w.heap.size):Own r B E ok (w.alloc (.cells #[] E)) (.slice (some ⟨w.heap.size,0,none⟩) 0 0) [] :=
 ⟨[],World.ownsRow_lit w #[] 0 hB (ZaG _) (by simp),rfl⟩
theorem kU.at (h:kU r B F E w v l){k:Nat}{x:α}(hx:l[k]?=some x) :
  ∃ g cap c,∃ okk:Nat→Prop,v=.slice (some ⟨g,0,none⟩) l.length cap∧B≤g∧g<w.heap.size∧(∀ j,j<r.sz→w.cell? ⟨g,k*r.sz+j,none⟩=c[j]?)∧r.rd okk w c x∧(∀ b,okk b→B≤b∧b<F∧b≠g) ∧
   ∀ (w':World) (x':α),(∀ b,b<w.heap.size→¬ okk b→w'.heap[b]?=w.heap[b]?)→w'.os=w.os→w'.tape=w.tape→w'.output=w.output→w.heap.size≤w'.heap.size→r.rd okk w' c x'→kU r B F E w' v (l.set k x'):=by
 obtain ⟨tag,xs,h1,h2⟩:=h
 have hk:=(Z1.1 hx).1
 obtain ⟨g,cap,rfl,hBg,hg⟩:∃ g cap,v=.slice (some ⟨g,0,none⟩) l.length cap∧B≤g∧g<w.heap.size:=by
  rcases h1.2 with ⟨_,h0⟩|⟨g,cap,cur,hv,hb,hg,_⟩
  ·omega
  ·exact ⟨g,cap,hv,hb,(zt.1 hg).1⟩
 obtain ⟨c,h3,h4,h5⟩:=h2.live.pick hx
 refine ⟨g,cap,c,_,rfl,hBg,hg,fun j hj=>?_,h4,fun b hb=>⟨hb.1.1.1,hb.1.1.2.1,fun e=>hb.1.1.2.2 (by rw [e];rfl)⟩,fun w' x' hf hos htp hout hsz hr=>?_⟩
 ·rw [← h3 j hj,h1.cellAt]
  calc k*r.sz+j<k*r.sz+r.sz:=by omega
   _=(k+1)*r.sz:=by rw [Zap];omega
   _≤l.length*r.sz:=Zag _ (by omega)
 ·have h6:=h5 w' x' (fun b hb hne=>hf b hb.2 fun e=>hne (by simpa using e.2)) hr
  refine ⟨tag,xs,?_,h6.mono fun b hb=>hb.1⟩
  rw [Zc7]
  have hgk:w'.heap[g]?=w.heap[g]?:=hf g hg fun e=>e.1.1.2.2 rfl
  obtain ⟨hl,⟨hv,h0⟩|⟨g',cap',cur,hv,r1,r2,r3⟩⟩:=h1
  ·cases hv
  ·cases hv
   exact ⟨hl,.inr ⟨g,cap,cur,rfl,r1,by rw [hgk];exact r2,r3⟩⟩
end
def fG {α:Type}(r:Rep α)(E:TypeId):Rep (List α) where
 sz:=1
 rd ok w cs l:=∃ v,cs=[v]∧(∀ b,v.ownBlock=some b→ok b)∧Own r 0 E (fun _=>False) w v l∧(l=[]→v=.slice none 0 0∨∃ g c,v=.slice (some ⟨g,0,none⟩) 0 c)
 len h:=by obtain ⟨v,rfl,_⟩:=h;rfl
 mono hk h:=let ⟨v,e,h1,h2⟩:=h;⟨v,e,fun b hb=>hk b (h1 b hb),h2⟩
 live h:=let ⟨v,e,h1,h2,h3⟩:=h;⟨v,e,fun b hb=>⟨h1 b hb,(h2.lt b hb).2⟩,h2,h3⟩
 frame hf h:=by
  obtain ⟨v,e,h1,⟨xs,h2,h3⟩,h4⟩:=h
  refine ⟨v,e,h1,⟨xs,⟨h2.1,?_⟩,(Chunks.frame (fun b hb=>hb.1.elim) h3)⟩,h4⟩
  rcases h2.2 with h0|⟨g,cap,cur,hv,hb,hg,rest⟩
  ·exact .inl h0
  ·refine .inr ⟨g,cap,cur,hv,hb,?_,rest⟩
   rw [hf g (h1 g (by rw [hv];rfl))];exact hg
 one h:=by
  obtain ⟨v,rfl,_,⟨xs,h2,_⟩,_⟩:=h
  intro u hu
  cases Zao.1 hu
  rcases h2.2 with ⟨rfl,_⟩|⟨g,cap,cur,rfl,_⟩<;>rfl
theorem fG.sl {α:Type}{r:Rep α}{E:TypeId}{ok:Nat→Prop}{w:World}{v:Value}{l:List α}(hf:Flat r)(h:(fG r E).rd ok w [v] l):∃ a n c,v=.slice a n c∧Sl r ok w a n c l:=by
 obtain ⟨_,e,h1,h2,_⟩:=h
 cases e
 obtain ⟨a,n,c,rfl,h3⟩:=h2.sl
 refine ⟨a,n,c,rfl,h3.len,h3.cap,h3.bnd,h3.nil,h3.cells.imp id fun ⟨b,off,e,_,hb,hc⟩=>⟨b,off,e,h1 b (by rw [e];rfl),hb,fun i x hx=>let ⟨cs,g1,g2⟩:=hc i x hx;⟨cs,g1,hf g2⟩⟩⟩
theorem fG.mk {α:Type}{r:Rep α}{B:Nat}{E:TypeId}{w:World}{v:Value}{l:List α}(h:Own r B E (fun _=>False) w v l)(hv:l=[]→v=.slice none 0 0∨∃ g c,v=.slice (some ⟨g,0,none⟩) 0 c):(fG r E).rd (B≤·) w [v] l:=by
 refine ⟨v,rfl,fun b hb=>(h.lt b hb).1,?_,hv⟩
 obtain ⟨xs,h1,h2⟩:=h
 refine ⟨xs,⟨h1.1,h1.2.imp id fun ⟨g,cap,cur,a1,a2,a3⟩=>⟨g,cap,cur,a1,ZaG _,a3⟩⟩,h2⟩
section
variable {P:Program}{ops:Array Oper}{rest:List Oper}{o:Oper}{a:Act}{Q:Exit→Act→World→Prop}{α:Type}{r:Rep α}{B:Nat}{E:TypeId}{w:World}
theorem AY {T bytes:Nat}{z:Value}(ht:lW P T E r.sz bytes z)(hg:o.guard=none)(l c:Operand)(hop:o.op=Op.makeSlice T l c)
  {kl kc:IntKind} {n:Nat} (hl:a.eval l=.int kl 0) (hc:a.eval c=.int kc (n:Int)) (b2:bytes*n≤281474976710656) (b3:n≤maxLen) (b4:B≤w.heap.size)
  (hK:∀ w',(∀ F,kU r B F E w' (.slice (some ⟨w.heap.size,0,none⟩) 0 n) [])→Below w.heap.size w w'→wpList P ops Q rest (a.put o.dst (.slice (some ⟨w.heap.size,0,none⟩) 0 n)) w'):wpList P ops Q (o::rest) a w:=by
 obtain ⟨i,hi,hz0,hz1,hz2⟩:=info_parts ht.i
 refine wpList_make_own w hg l c T hop B E i z r.sz ht.u hi hz0 hz1 kl kc (n:Int) n hl hc rfl (by rw [hz2];exact b2) b3 b4 fun w' h1 h2=>hK w' (fun F=>⟨fun _=>0,[],h1,rfl⟩) (grown_below h2 (zg _) (fun k e=>by cases e))
end
section
variable {P:Program}{α:Type}{r:Rep α}{B:Nat}{E:TypeId}{w:World}{g cap:Nat}{l:List α}
theorem MV (h:Own r B E (fun _=>False) w (.slice (some ⟨g,0,none⟩) l.length cap) l){s:Nat}{ys:List α}{news:List Value}(hn:Chunks r (fun _=>False) w news ys)(hs:s+ys.length≤l.length)(hne:l≠[]∨ys≠[]) :
  ∃ w',(storeCells ⟨g,s*r.sz,none⟩ news).run P w=.ok () w'∧Own r B E (fun _=>False) w' (.slice (some ⟨g,0,none⟩) l.length cap) (l.take s++ys++l.drop (s+ys.length))∧w.grownBy w' (some g)∧w'.heap.size=w.heap.size:=by
 obtain ⟨xs,h1,h2⟩:=h
 obtain ⟨hx,⟨hv,_⟩|⟨g',cap',cur,hv,hb,hg,hnc,hcm,hcs,ht⟩⟩:=h1
 ·cases hv
 ·cases hv
  have hnl:=hn.length
  have hxl:=h2.length
  have hfit:s*r.sz+0+news.length≤cur.size:=by
   rw [hcs,hnl,Nat.add_zero,← Zap]
   exact Zag _ (by omega)
  have hrun:=run_storeCells_at P g (s*r.sz) E news 0 cur w hg hfit hn.one
  rw [Nat.add_zero] at hrun
  refine ⟨_,hrun,?_,⟨rfl,rfl,rfl,by simp,fun k _ hk=>setRow_other w g k _ (fun e=>hk (by simp [e]))⟩,by simp⟩
  have hlen':(l.take s++ys++l.drop (s+ys.length)).length=l.length:=by simp;omega
  have hcell:∀ i,(xs.take (s*r.sz)++news++xs.drop (s*r.sz+news.length))[i]?=if i<s*r.sz then xs[i]? else if i<s*r.sz+news.length then news[i - s*r.sz]? else xs[i]?:=by
   intro i
   have hs1:s*r.sz≤xs.length:=by rw [hxl];exact Zag _ (by omega)
   have e1:(xs.take (s*r.sz)).length=s*r.sz:=by rw [Zam];omega
   by_cases hi:i<s*r.sz
   ·rw [if_pos hi,Zan,zR (by rw [e1];exact hi),Zad,if_pos hi]
   ·rw [if_neg hi]
    by_cases hi2:i<s*r.sz+news.length
    ·rw [if_pos hi2,zR (by rw [zp,e1];exact hi2),zP (by rw [e1];omega),e1]
    ·rw [if_neg hi2,zP (by rw [zp,e1];omega),zp,e1,Zaz]
     congr 1;omega
  refine ⟨xs.take (s*r.sz)++news++xs.drop (s*r.sz+news.length),⟨?_,.inr ⟨g,cap,_,by rw [hlen'],hb,setRow_heap w g cur _ E _ hg,by rw [hlen'];exact hnc,hcm,?_,?_⟩⟩,?_⟩
  ·rw [hlen',zp,zp,Zam,ZaV,hxl,hnl]
   have:(s+ys.length)*r.sz≤l.length*r.sz:=Zag _ hs
   rw [Zap] at this
   omega
  ·rw [List.size_toArray,zp,zp,Zam,ZaV,Zay]
   omega
  ·rw [hlen',← ht]
   have hA:s*r.sz+news.length≤l.length*r.sz:=by rw [hnl,← Zap];exact Zag _ hs
   have hB2:l.length*r.sz≤cur.size:=by rw [hcs];exact Zag _ hnc
   apply ZbR
   intro i
   have e1:(cur.toList.take (s*r.sz)).length=s*r.sz:=by rw [Zam,Zay];omega
   have e2:((cur.toList.take (l.length*r.sz)).take (s*r.sz)).length=s*r.sz:=by simp only [Zam,Zay];omega
   by_cases hi:i<s*r.sz
   ·rw [Zad,if_pos (by omega),Zan,zR (by rw [e1];exact hi),Zan,zR (by rw [e2];exact hi),Zad,if_pos hi,Zad,if_pos hi,Zad,if_pos (by omega)]
   ·by_cases hi2:i<s*r.sz+news.length
    ·rw [Zad,if_pos (by omega),zR (by rw [zp,e1];exact hi2),zP (by rw [e1];omega),e1,
      zR (by rw [zp,e2];exact hi2),zP (by rw [e2];omega),e2]
    ·rw [Zad,zP (by rw [zp,e1];omega),zP (by rw [zp,e2];omega),zp,zp,e1,e2,Zaz,Zaz,Zad]
     have:s*r.sz+news.length+(i - (s*r.sz+news.length))=i:=by omega
     rw [this]
  ·-- the elements
   have:=Chunks.ZB (r:=r) (ok:=fun b=>False∧ZD b≠(Value.slice (some ⟨g,0,none⟩) l.length cap).ownBlock) (w:=w.setRow g (cur.toList.take (s*r.sz)++news++cur.toList.drop (s*r.sz+news.length)).toArray) (xs:=xs.take (s*r.sz)++news++xs.drop (s*r.sz+news.length)) (l:=l.take s++ys++l.drop (s+ys.length)) 0 (by
     rw [hlen',zp,zp,Zam,ZaV,hxl,hnl]
     have:(s+ys.length)*r.sz≤l.length*r.sz:=Zag _ hs
     rw [Zap] at this
     omega) (fun i x hx=>by
     have key:∃ c w0,(∀ j,j<r.sz→(xs.take (s*r.sz)++news++xs.drop (s*r.sz+news.length))[i*r.sz+j]?=c[j]?)∧r.rd (fun _=>False) w0 c x:=by
      have es:(l.take s).length=s:=by rw [Zam];omega
      by_cases hi:i<s
      ·rw [Zan,zR (by rw [es];exact hi),Zad,if_pos hi] at hx
       obtain ⟨c,h3,h4⟩:=h2.at hx
       refine ⟨c,w,fun j hj=>?_,r.mono (fun b hb=>hb.1) h4⟩
       rw [hcell,if_pos,h3 j hj]
       calc i*r.sz+j<i*r.sz+r.sz:=by omega
        _=(i+1)*r.sz:=by rw [Zap];omega
        _≤s*r.sz:=Zag _ (by omega)
      ·by_cases hi2:i<s+ys.length
       ·rw [zR (by rw [zp,es];exact hi2),zP (by rw [es];omega),es] at hx
        obtain ⟨c,h3,h4⟩:=hn.at hx
        refine ⟨c,w,fun j hj=>?_,h4⟩
        have e3:s*r.sz≤i*r.sz:=Zag _ (by omega)
        have e4:(i+1)*r.sz≤(s+ys.length)*r.sz:=Zag _ (by omega)
        rw [Zap,Zap] at e4
        rw [hcell,if_neg (by omega),if_pos (by rw [hnl];omega),← h3 j hj]
        congr 1
        rw [Nat.sub_mul];omega
       ·rw [zP (by rw [zp,es];omega),zp,es,Zaz,show s+ys.length+(i - (s+ys.length))=i by omega] at hx
        obtain ⟨c,h3,h4⟩:=h2.at hx
        refine ⟨c,w,fun j hj=>?_,r.mono (fun b hb=>hb.1) h4⟩
        have e3:(s+ys.length)*r.sz≤i*r.sz:=Zag _ (by omega)
        rw [Zap] at e3
        rw [hcell,if_neg (by omega),if_neg (by rw [hnl];omega),h3 j hj]
     obtain ⟨c,w0,h3,h4⟩:=key
     exact ⟨c,fun j hj=>by rw [Zaj];exact h3 j hj,r.mono (fun b hb=>hb.elim) (r.frame (fun b hb=>hb.elim) h4)⟩)
   simpa using this
end
def uV (a:Option Addr)(c lo sz:Nat):Option Addr:=if c=lo then a else a.map (·.add (lo*sz))
theorem QH {P:Program}{T E sz:Nat}(hT:P.underlying T=some (.slice E))(hi:(P.info? E).map (·.size)=some sz)(a:Option Addr)(n c s:Nat)(h:s≤n)(w:World) :
  (Instr.sliceAt T (.slice a n c) (some (.int .i64 (s:Int))) none none).run P w=.ok (.slice (uV a c s sz) (n - s) (c - s)) w:=by
 have he:P.elem T=E:=by simp [Program.elem,hT]
 have hT':P.underlying T=some (.slice (P.elem T)):=by rw [he];exact hT
 have hz:(sizeOf (P.elem T)).run P w=.ok sz w:=by
  obtain ⟨i,hi,hs⟩:=Zar.1 hi
  rw [he];simp [sizeOf,typeInfo,hi,hs]
 rw [run_sliceAt_slice w T _ _ _ _ hT',run_slice_l w T a n c hT' .i64 s (by omega) (by omega),hz,Result.andThen_ok]
 simp only [sliced,uV,Zaw]
theorem Sl.sub {α:Type}{r:Rep α}{ok:Nat→Prop}{w:World}{a:Option Addr}{n c:Nat}{l:List α}(h:Sl r ok w a n c l){s k:Nat}(hk:s+k≤n):Sl r ok w (uV a c s r.sz) k (c - s) ((l.drop s).take k):=by
 have h1:=h.len
 have h2:=h.cap
 refine ⟨by simp;omega,by omega,Zaa (Nat.sub_le _ _) h.bnd,fun e=>?_,?_⟩
 ·unfold uV at e
  split at e
  ·omega
  ·have:a=none:=by simpa using e
   have:=h.nil this
   omega
 ·rcases h.cells with h0|⟨b,off,rfl,hb,hlt,hc⟩
  ·left;omega
  ·by_cases hk0:k=0
   ·exact .inl hk0
   ·refine .inr ⟨b,off+s*r.sz,?_,hb,hlt,fun i x hx=>?_⟩
    ·unfold uV
     rw [if_neg (by omega)]
     simp [Addr.add_lit]
    ·have hik:i<k:=by have:=(Z1.1 hx).1;simp at this;omega
     rw [Zad,if_pos hik,Zaz] at hx
     obtain ⟨cs,g1,g2⟩:=hc (s+i) x hx
     refine ⟨cs,fun j hj=>?_,g2⟩
     rw [← g1 j hj,Zap,Nat.add_assoc off]
section
variable {P:Program}{ops:Array Oper}{rest:List Oper}{o:Oper}{a:Act}{Q:Exit→Act→World→Prop}{α:Type}{r:Rep α}{B:Nat}{E:TypeId}{w:World}{g cap:Nat}{l:List α}
theorem He {T bytes:Nat}{z:Value}(ht:lW P T E r.sz bytes z)(hfl:Flat r)(hgd:o.guard=none)(d x:Operand)
  (ho:o.op=.call { callee:=.builtin .copy,args:=#[d,x],argTypes:=#[T,T] }) {s dl dc:Nat} (hd:a.eval d=.slice (some ⟨g,s*r.sz,none⟩) dl dc) {ao:Option Addr} {m c:Nat} (hx:a.eval x=.slice ao m c)
  (h:Own r B E (fun _=>False) w (.slice (some ⟨g,0,none⟩) l.length cap) l) {ok:Nat→Prop} {ys:List α} (hs:Sl r ok w ao m c ys) (hle:s+m≤l.length) (hm:0<m) (hdl:m≤dl)
  (hk:∀ w',Own r B E (fun _=>False) w' (.slice (some ⟨g,0,none⟩) l.length cap) (l.take s++ys++l.drop (s+ys.length))→w.grownBy w' (some g)→w'.heap.size=w.heap.size→wpList P ops Q rest (a.put o.dst (.int .i64 m)) w'):wpList P ops Q (o::rest) a w:=by
 refine wpList_plain hgd fun K hK=>?_
 obtain ⟨i,hi,_,hz1,_⟩:=info_parts ht.i
 obtain ⟨hlen,hnil,news,hnews,hch⟩:=Src.IL hs
 obtain ⟨ad,rfl⟩:∃ ad,ao=some ad:=by
  cases ao with
  |some ad=>exact ⟨ad,rfl⟩
  |none=>have:=(hnil rfl).1;omega
 have hnl:=hch.length
 obtain ⟨w',hst,h1,h2,h3⟩:=MV (P:=P) h (s:=s) (ys:=ys) (hch.flat hfl) (by omega) (.inr (by intro e;rw [e] at hlen;simp at hlen;omega))
 have hld:=run_loadCells_list (P:=P) (w:=w) ad news (hnews ad rfl)
 have hmin:Nat.min m dl=m:=Nat.min_eq_left hdl
 rw [hnl,hlen] at hld
 unfold Oper.wp execOp
 have hrun:(Builtin.copy_ #[T,T] o.type #[.slice (some ⟨g,s*r.sz,none⟩) dl dc,.slice (some ad) m c]).run P w=.ok (goInt m) w':=by
  simp [Builtin.copy_,run_underlying ht.u,Builtin.lenOf,Builtin.firstCells,sizeOf,typeInfo,hi,hz1,hmin,hld,hst]
 simp only [ho,resolve,invoke,builtin,Sem.run_bind,Sem.run_pure,Result.andThen_ok,ZbT,Zat,Zav,hd,hx,hrun]
 exact hK _ _ (hk w' h1 h2 h3)
end
section
variable {ok:Nat→Prop}{w:World}{n c:Nat}
theorem Sl.wr {b off:Nat}{l:List (Int×Int×List eG)}(h:Sl (Nr vP (Nr vP (UU zD))) ok w (some ⟨b,off,none⟩) n c l){k:Nat}{v s:Int}{d:List eG}(hx:l[k]?=some (v,s,d)) :
  ∃ a' n' c',w.cell? ⟨b,off+k*3,none⟩=some (.int .i64 v)∧w.cell? ⟨b,off+k*3+1,none⟩=some (.int .i64 s)∧w.cell? ⟨b,off+k*3+2,none⟩=some (.slice a' n' c')∧oh v∧oh s∧Sl zD ok w a' n' c' d:=by
 obtain ⟨cs,h1,c1,c2,rfl,⟨rfl,hv⟩,c3,c4,rfl,⟨rfl,hs⟩,a',n',c',rfl,hd⟩:=h.at hx
 refine ⟨a',n',c',?_,?_,?_,hv,hs,hd⟩
 ·exact h1 0 (by show 0<3;omega)
 ·exact h1 1 (by show 1<3;omega)
 ·exact h1 2 (by show 2<3;omega)
theorem Sl.ext {b off:Nat}{l:List (Int×Int)}(h:Sl (Nr vP vP) ok w (some ⟨b,off,none⟩) n c l){k:Nat}{s m:Int}(hx:l[k]?=some (s,m)) :
  w.cell? ⟨b,off+k*2,none⟩=some (.int .i64 s)∧w.cell? ⟨b,off+k*2+1,none⟩=some (.int .i64 m)∧oh s∧oh m:=by
 obtain ⟨cs,h1,c1,c2,rfl,⟨rfl,hv⟩,⟨rfl,hs⟩⟩:=h.at hx
 exact ⟨h1 0 (by show 0<2;omega),h1 1 (by show 1<2;omega),hv,hs⟩
end
abbrev ny:Rep (List eG):=UU zD
abbrev Wr:=Int×Int×List eG
abbrev wrR:Rep Wr:=Nr vP (Nr vP ny)
def aiK:eG:=Vector.replicate 8 0
theorem Tryz.mixed:Tryz.prog.follows .mixedOrders=true:=by kernel_rfl
theorem Tryz.ajh:lW Tryz.prog 35 3 1 8 (.int .i64 0):=⟨Tryz.underlying35,by kernel_rfl,rfl,by decide⟩
theorem Tryz.aji:lW Tryz.prog 71 129 8 8 (.agg #[.int .u8 0,.int .u8 0,.int .u8 0,.int .u8 0,.int .u8 0,.int .u8 0,.int .u8 0,.int .u8 0]):=⟨Tryz.underlying71,by kernel_rfl,rfl,by decide⟩
theorem Tryz.afa:lW Tryz.prog 31 71 1 24 (.slice none 0 0):=⟨Tryz.underlying31,by kernel_rfl,rfl,by decide⟩
theorem pW {k:IntKind}{a b:Int}(h:a=b):Ending.returned (.int k a)=.returned (.int k b):=by rw [h]
theorem xq {a b:Bool}(h:a=b):Ending.returned (.bool a)=.returned (.bool b):=by rw [h]
theorem Y3 {n:Nat}(h:n≤maxLen):oh (n:Int):=by unfold oh maxLen at *;omega
theorem Sl.i64 {α:Type}{r:Rep α}{ok:Nat→Prop}{w:World}{a:Option Addr}{n c:Nat}{l:List α}(h:Sl r ok w a n c l):oh (n:Int):=Y3 (Zaa h.cap h.bnd)
theorem Sl.small {α:Type}{r:Rep α}{ok:Nat→Prop}{w:World}{a:Option Addr}{n c:Nat}{l:List α}(h:Sl r ok w a n c l):n≤9223372036854775807:=by
 have:=Zaa h.cap h.bnd;unfold maxLen at this;omega
theorem IB {α:Type}{p:α→Bool}{l:List α}{k:Nat}{x:α}(h:l[k]?=some x):(l.take (k+1)).any p=((l.take k).any p || p x):=by
 rw [Zcp,h];simp
theorem any_true {α:Type}{p:α→Bool}{l:List α}{k:Nat}{x:α}(h:l[k]?=some x)(hp:p x=true):l.any p=true:=by
 rw [ZbW];exact ⟨x,zz h,hp⟩
theorem og {α:Type}{l:List α}{k:Nat}{x:α}(h:l[k]?=some x):l.take (k+1)=l.take k++[x]:=by
 rw [Zcp,h];rfl
theorem AZ {α:Type}{l:List α}{n:Nat}(h:l.length=n):l.take n=l:=Zby (by omega)
def ng (n:Int):Bool:=decide (n<1) || decide (4096<n)
def fD (l:List Int):Int:=if l.length<1∨8<l.length then 6 else if l.any ng then 2 else 0
def lens (im:List (List eG)):List Int:=im.map fun v=>(v.length:Int)
def uX (im:List (List eG)):Int:=fD (lens im)
def lJ (sizes:List Int)(Y2 start:Int)(len:Nat):Int :=
 if Y2<0∨(sizes.length:Int)≤Y2 then 7 else if len=0 then 1
 else if start<0∨sizes.getD Y2.toNat 0≤start∨sizes.getD Y2.toNat 0 - start<len then 2 else 0
theorem En {α:Type}{l:List α}{k:Nat}{x d:α}(h:l[k]?=some x):l.getD k d=x:=by simp [List.getD,h]
theorem VY {x:Int}{w:World}(_hx:oh x):Calls Tryz.prog 227 #[.int .i64 x] w fun e w'=>e=.returned (.bool (ng x))∧Below w.heap.size w w':=by
 by_cases h1:x<1
 ·go_enter Tryz.func227,Tryz.ntmps227
  go_wp2
  go_ret
  exact ⟨xq (by simp [ng,h1]),Below.refl _ _⟩
 ·by_cases h2:4096<x
  ·go_enter Tryz.func227,Tryz.ntmps227
   go_wp2
   go_ret
   exact ⟨xq (by simp [ng,h2]),Below.refl _ _⟩
  ·go_enter Tryz.func227,Tryz.ntmps227
   go_wp2
   go_ret
   exact ⟨xq (by simp [ng];omega),Below.refl _ _⟩
set_option maxHeartbeats 1000000 in
theorem CB {a:Option Addr}{n c:Nat}{l:List Int}{ok:Nat→Prop}{w:World}(h:Sl vP ok w a n c l) :
  Calls Tryz.prog 266 #[.slice a n c,.func (.func 227) #[] #[]] w fun e w'=>∃ z:Int,e=.returned (.int .i64 z)∧(0≤z ↔ l.any ng=true)∧oh z∧Below w.heap.size w w':=by
 have hs:=h.small
 go_enter Tryz.func266,Tryz.ntmps266
 go_wp2
 go_loopw [5,8] (fun _ i wr=>∃ k:Nat,k≤n∧i=.int .i64 k∧Hid ((l.take k).any ng=false)∧Below w.heap.size w wr) (fun _ i _=>n - (intOf i).toNat)
 case atStart=>exact ⟨0,ZaG _,rfl,rfl,Below.refl _ _⟩
 case round =>
  obtain ⟨k,hk,rfl,HT,hB⟩:=hrel
  by_cases hlt:k<n
  ·obtain ⟨b,off,rfl,_,_⟩:=h.addr hlt
   obtain ⟨x,hx⟩:=h.get hlt
   obtain ⟨hcell,hi⟩:=(h.below hB).int hx
   have HX:=Lib.hid hx
   clear hx
   cases hp:ng x with
   |true =>
    have HP:=Lib.hid hp
    have hcall:=VY (w:=wr) hi
    rw [hp] at hcall
    clear hp
    go_wp2_with (fail)
    refine hcall.mono ?_
    rintro e w1 ⟨rfl,hB1⟩
    go_wp2
    go_ret
    exact ⟨k,rfl,by rw [any_true HX.out HP.out];simp,by unfold oh;omega,hB.trans (hB1.mono hB.size)⟩
   |false =>
    have HP:=Lib.hid hp
    have hcall:=VY (w:=wr) hi
    rw [hp] at hcall
    clear hp
    go_wp2_with (fail)
    refine hcall.mono ?_
    rintro e w1 ⟨rfl,hB1⟩
    go_wp2
    go_roundw
    case rel=>exact ⟨k+1,by omega,by go_num,by show _=false;rw [IB HX.out,HT.out,HP.out];rfl,hB.trans (hB1.mono hB.size)⟩
    case measure=>simp [intOf];omega
  ·go_wp2
   go_ret
   obtain rfl:k=n:=by omega
   have e:=HT.out
   rw [AZ h.len] at e
   exact ⟨-1,rfl,by rw [e];simp,by unfold oh;omega,hB⟩
theorem MX {a:Option Addr}{n c:Nat}{l:List Int}{ok:Nat→Prop}{w:World}(h:Sl vP ok w a n c l) :
  Calls Tryz.prog 223 #[.slice a n c,.func (.func 227) #[] #[]] w fun e w'=>e=.returned (.bool (l.any ng))∧Below w.heap.size w w':=by
 go_enter Tryz.func223,Tryz.ntmps223
 go_wp2_with fail
 refine (CB h).mono ?_
 rintro e w1 ⟨z,rfl,hz,hi,hB⟩
 unfold oh at hi
 cases hp:l.any ng with
 |true =>
  have hz0:0≤z:=hz.2 hp
  have HP:=Lib.hid hp
  clear hz hp
  go_wp2
  go_ret
  exact ⟨xq HP.out.symm,hB⟩
 |false =>
  have hz0:z<0:=by rw [hp] at hz;simp at hz;omega
  have HP:=Lib.hid hp
  clear hz hp
  go_wp2
  go_ret
  exact ⟨xq (by rw [HP.out];simp;omega),hB⟩
theorem Hf {a:Option Addr}{n c:Nat}{l:List Int}{ok:Nat→Prop}{w:World}(h:Sl vP ok w a n c l) :
  Calls Tryz.prog 165 #[.slice a n c] w fun e w'=>e=.returned (.int .i64 (fD l))∧Below w.heap.size w w':=by
 have hs:=h.small
 by_cases hn1:n<1
 ·obtain rfl:n=0:=by omega
  go_enter Tryz.func165,Tryz.ntmps165
  go_wp2
  go_ret
  exact ⟨by simp [fD,h.len],Below.refl _ _⟩
 by_cases hn8:8<n
 ·go_enter Tryz.func165,Tryz.ntmps165
  go_wp2
  go_ret
  exact ⟨pW (by rw [fD,if_pos (by rw [h.len];exact .inr hn8)]),Below.refl _ _⟩
 go_enter Tryz.func165,Tryz.ntmps165
 go_wp2_with fail
 refine (MX h).mono ?_
 rintro e w1 ⟨rfl,hB⟩
 cases hp:l.any ng with
 |true =>
  have HP:=Lib.hid hp;clear hp
  go_wp2
  go_ret
  exact ⟨pW (by rw [fD,if_neg (by rw [h.len];omega),if_pos HP.out]),hB⟩
 |false =>
  have HP:=Lib.hid hp;clear hp
  go_wp2
  go_ret
  exact ⟨pW (by rw [fD,if_neg (by rw [h.len];omega),HP.out];rfl),hB⟩
theorem afb {a:Option Addr}{n c:Nat}{l:List eG}{ok:Nat→Prop}{w:World}(h:Sl zD ok w a n c l) :
  Calls Tryz.prog 229 #[.slice a n c] w fun e w'=>∃ z:Int,e=.returned (.int .i64 z)∧vP.rd (w.heap.size≤·) w' [.int .i64 z] (l.length:Int)∧Below w.heap.size w w':=by
 have hs:=h.small
 go_enter Tryz.func229,Tryz.ntmps229
 go_wp2
 go_ret
 exact ⟨_,rfl,⟨by rw [h.len],by rw [h.len];exact h.i64⟩,Below.refl _ _⟩
set_option maxHeartbeats 1000000 in
theorem UH {a:Option Addr}{n c:Nat}{l:List (List eG)}{ok:Nat→Prop}{w:World}(h:Sl ny ok w a n c l)(hn:n≤1000000) :
  Calls Tryz.prog 228 #[.slice a n c,.func (.func 229) #[] #[]] w fun e w'=>∃ v,e=.returned v∧kU vP w.heap.size w'.heap.size 3 w' v (l.map (fun v:List eG=>(v.length:Int)))∧Below w.heap.size w w':=by
 go_enter Tryz.func228,Tryz.ntmps228
 go_wp2_with (at_make;refine AY (r:=vP) (B:=w.heap.size) Tryz.ajh rfl _ _ rfl rfl rfl ?b2 ?b3 ?b4 ?_)
 case b2=>omega
 case b3=>unfold maxLen;omega
 case b4=>exact zg _
 intro w0 hown0 hB0
 have hs:=h.small
 go_wp2
 go_loopw [5,13] (fun v i wr=>∃ k:Nat,k≤n∧i=.int .i64 k∧kU vP w.heap.size wr.heap.size 3 wr v ((l.map (fun v:List eG=>(v.length:Int))).take k)∧Below w.heap.size w wr) (fun _ i _=>n - (intOf i).toNat)
 case atStart=>exact ⟨0,ZaG _,rfl,hown0 _,hB0⟩
 case round =>
  obtain ⟨k,hk,rfl,hown,hB⟩:=hrel
  by_cases hlt:k<n
  ·obtain ⟨b,off,rfl,_,_⟩:=h.addr hlt
   obtain ⟨x,hx⟩:=h.get hlt
   obtain ⟨a',n',c',hcell,hx'⟩:=(h.below hB).slice hx
   have hlen:((l.map (fun v:List eG=>(v.length:Int))).take k).length=k:=by have:=h.len;simp;omega
   have HL:=Lib.hid hlen;clear hlen
   have HX:=Lib.hid hx;clear hx
   go_wp2_with (fail)
   refine (afb hx').mono ?_
   rintro e w1 ⟨z,rfl,hrd,hB1⟩
   have yL:=hown.lt
   have hz1:=hB1.size
   have hz:=hB.size
   go_wp2_with (at_builtin;refine DK Tryz.ajh rfl _ _ rfl rfl ((hown.below hB1).below ((Below.refl _ _).alloc (zg _) _)) rfl (AX w1 3 #[.int .i64 z]) (QG hrd) (fun k hk=>(yL k hk).2) ?c1 ?c2 ?c3 ?c4 ?_)
   case c1=>rw [HL.out];unfold maxLen;omega
   case c2=>rw [HL.out];omega
   case c3=>omega
   case c4=>simp;omega
   intro v' w2 hown1 hgrow _
   go_wp2
   go_roundw
   case rel=>exact ⟨k+1,by omega,by go_num,by
    have e:(l.map (fun v:List eG=>(v.length:Int))).take (k+1)=(l.map (fun v:List eG=>(v.length:Int))).take k++[(fun v:List eG=>(v.length:Int)) x]:=og (by rw [zd,HX.out];rfl)
    rw [e];exact hown1,((hB.trans (hB1.mono hB.size)).alloc (by omega) _).grown hgrow (by simp;omega) (fun k hk=>(yL k hk).1)⟩
   case measure=>simp [intOf];omega
  ·go_wp2
   go_ret
   obtain rfl:k=n:=by omega
   rw [AZ (by rw [za];exact h.len)] at hown
   exact ⟨_,rfl,hown,hB⟩
theorem UJ {a:Option Addr}{n c:Nat}{im:List (List eG)}{ok:Nat→Prop}{w:World}(h:Sl ny ok w a n c im)(hn:n≤1000000) :
  Calls Tryz.prog 166 #[.slice a n c] w fun e w'=>∃ a' n' c',e=.returned (.slice a' n' c')∧Sl vP (w.heap.size≤·) w' a' n' c' (lens im)∧Below w.heap.size w w':=by
 go_enter Tryz.func166,Tryz.ntmps166
 go_wp2_with fail
 refine (UH h hn).mono ?_
 rintro e w1 ⟨v,rfl,hown,hB⟩
 obtain ⟨a',n',c',rfl,h1⟩:=hown.sl
 go_wp2
 go_ret
 exact ⟨_,_,_,rfl,h1,hB⟩
theorem Hg {a:Option Addr}{n c:Nat}{im:List (List eG)}{ok:Nat→Prop}{w:World}(h:Sl ny ok w a n c im)(hn:n≤1000000) :
  Calls Tryz.prog 76 #[.slice a n c] w fun e w'=>e=.returned (.int .i64 (uX im))∧Below w.heap.size w w':=by
 go_enter Tryz.func76,Tryz.ntmps76
 go_wp2_with fail
 refine (UJ h hn).mono ?_
 rintro e w1 ⟨a',n',c',rfl,h1,hB⟩
 go_wp2_with fail
 refine (Hf h1).mono ?_
 rintro e w2 ⟨rfl,hB2⟩
 go_wp2
 go_ret
 exact ⟨rfl,hB.trans (hB2.mono hB.size)⟩
def VZ {α:Type}(e:Int)(l:List α):List α:=if e=0 then l else []
theorem afc {α:Type}{e:Int}{l:List α}(h:e=0):VZ e l=l:=if_pos h
theorem Y4 {α:Type}{e:Int}{l:List α}(h:¬ e=0):VZ e l=[]:=if_neg h
def zeros (n:Int):List eG:=Zae n.toNat aiK
def mQ (l:List Int):List (List eG):=l.map zeros
set_option maxHeartbeats 1000000 in
theorem Y5 {a:Option Addr}{n c:Nat}{l:List eG}{ok:Nat→Prop}{w:World}(h:Sl zD ok w a n c l)(hn:n≤1000000) :
  Calls Tryz.prog 133 #[.slice a n c] w fun e w'=>∃ a' n' c',e=.returned (.slice a' n' c')∧(fG zD 129).rd (w.heap.size≤·) w' [.slice a' n' c'] l∧Below w.heap.size w w':=by
 have heq:=fun (a:Option Addr) (n c:Nat) (w:World)=>Lib.run_eql_slice_nil (P:=Tryz.prog) w 71 129 a n c 0 0 Tryz.underlying71
 cases a with
 |none =>
  have h0:l=[]:=Zac (by rw [h.len];have:=h.nil rfl;have:=h.cap;omega)
  have H0:=Lib.hid h0;clear h0
  go_enter Tryz.func133,Tryz.ntmps133
  go_wp2
  go_ret
  refine ⟨_,_,_,rfl,?_,Below.refl _ _⟩
  rw [H0.out]
  exact fG.mk (Own.nil _ _ _ _ _) (fun _=>.inl rfl)
 |some ad =>
  have hs:=h.small
  go_enter Tryz.func133,Tryz.ntmps133
  go_wp2_with (at_builtin;refine qo Tryz.aji rfl _ _ rfl rfl (Own.ae9 zD (ok:=fun _=>False) (zg _)) rfl ((Src.IL (h.below ((Below.refl _ _).alloc (zg _) _))).flat Flat.sec) ?c1 ?c2 ?c3 ?_)
  case c1=>simp;unfold maxLen;omega
  case c2=>simp;omega
  case c3=>simp
  intro v' w1 hown hgrow hat
  obtain ⟨a',n',c',rfl,_⟩:=hown.sl
  go_wp2
  go_ret
  refine ⟨_,_,_,rfl,fG.mk (by simpa using hown) (fun e=>?_),((Below.refl _ _).alloc (zg _) _).grown hgrow (by simp) (fun k hk=>by cases hk;exact zg _)⟩
  subst e
  obtain ⟨xs,h1,_⟩:=hown
  rcases h1.2 with ⟨hv,_⟩|⟨g,cap,cur,hv,_⟩
  ·exact .inl hv
  ·exact .inr ⟨g,cap,by simpa using hv⟩
def qQ (v:List eG):List eG:=v
theorem afd (l:List (List eG)):l.map qQ=l:=List.map_id l
abbrev pX:Rep (List eG):=fG zD 129
set_option maxHeartbeats 1000000 in
theorem MZ {a:Option Addr}{n c:Nat}{l:List (List eG)}{ok:Nat→Prop}{w:World}(h:Sl ny ok w a n c l)(hn:n≤1000000)(hv:∀ v∈l,v.length≤1000000) :
  Calls Tryz.prog 200 #[.slice a n c,.func (.func 133) #[] #[]] w fun e w'=>∃ v,e=.returned v∧kU pX w.heap.size w'.heap.size 71 w' v (l.map qQ)∧Below w.heap.size w w':=by
 go_enter Tryz.func200,Tryz.ntmps200
 go_wp2_with (at_make;refine AY (r:=pX) (B:=w.heap.size) Tryz.afa rfl _ _ rfl rfl rfl ?b2 ?b3 ?b4 ?_)
 case b2=>omega
 case b3=>unfold maxLen;omega
 case b4=>exact zg _
 intro w0 hown0 hB0
 have hs:=h.small
 go_wp2
 go_loopw [5,13] (fun v i wr=>∃ k:Nat,k≤n∧i=.int .i64 k∧kU pX w.heap.size wr.heap.size 71 wr v ((l.map qQ).take k)∧Below w.heap.size w wr) (fun _ i _=>n - (intOf i).toNat)
 case atStart=>exact ⟨0,ZaG _,rfl,hown0 _,hB0⟩
 case round =>
  obtain ⟨k,hk,rfl,hown,hB⟩:=hrel
  by_cases hlt:k<n
  ·obtain ⟨b,off,rfl,_,_⟩:=h.addr hlt
   obtain ⟨x,hx⟩:=h.get hlt
   obtain ⟨a',n',c',hcell,hx'⟩:=(h.below hB).slice hx;have hv':=hv x (zz hx)
   have hlen:((l.map qQ).take k).length=k:=by have:=h.len;simp;omega
   have HL:=Lib.hid hlen;clear hlen
   have HX:=Lib.hid hx;clear hx
   go_wp2_with (fail)
   refine (Y5 hx' (by rw [← hx'.len];exact hv')).mono ?_
   rintro e w1 ⟨a2,n2,c2,rfl,hrd,hB1⟩
   have yL:=hown.lt
   have hz1:=hB1.size
   have hz:=hB.size
   go_wp2_with (at_builtin;refine DK Tryz.afa rfl _ _ rfl rfl ((hown.below hB1).below ((Below.refl _ _).alloc (zg _) _)) rfl (AX w1 71 #[.slice a2 n2 c2]) (QG hrd) (fun k hk=>(yL k hk).2) ?c1 ?c2 ?c3 ?c4 ?_)
   case c1=>rw [HL.out];unfold maxLen;omega
   case c2=>rw [HL.out];omega
   case c3=>omega
   case c4=>simp;omega
   intro v' w2 hown1 hgrow _
   go_wp2
   go_roundw
   case rel=>exact ⟨k+1,by omega,by go_num,by
    have e:(l.map qQ).take (k+1)=(l.map qQ).take k++[qQ x]:=og (by rw [zd,HX.out];rfl)
    rw [e];exact hown1,((hB.trans (hB1.mono hB.size)).alloc (by omega) _).grown hgrow (by simp;omega) (fun k hk=>(yL k hk).1)⟩
   case measure=>simp [intOf];omega
  ·go_wp2
   go_ret
   obtain rfl:k=n:=by omega
   rw [AZ (by rw [za];exact h.len)] at hown
   exact ⟨_,rfl,hown,hB⟩
theorem UK {a:Option Addr}{n c:Nat}{im:List (List eG)}{ok:Nat→Prop}{w:World}(h:Sl ny ok w a n c im)(hn:n≤1000000)(hv:∀ v∈im,v.length≤1000000) :
  Calls Tryz.prog 124 #[.slice a n c] w fun e w'=>∃ v,e=.returned v∧kU pX w.heap.size w'.heap.size 71 w' v im∧Below w.heap.size w w':=by
 go_enter Tryz.func124,Tryz.ntmps124
 go_wp2_with fail
 refine (MZ h hn hv).mono ?_
 rintro e w1 ⟨v,rfl,hown,hB⟩
 go_wp2
 go_ret
 exact ⟨_,rfl,by rw [afd] at hown;exact hown,hB⟩
theorem Sl.imp {α:Type}{r s:Rep α}{ok:Nat→Prop}{w:World}{a:Option Addr}{n c:Nat}{l:List α}(hz:s.sz=r.sz)(hi:∀ cs x,r.rd ok w cs x→s.rd ok w cs x)(h:Sl r ok w a n c l):Sl s ok w a n c l :=
 ⟨h.len,h.cap,h.bnd,h.nil,h.cells.imp id fun ⟨b,off,e,hb,hl,hc⟩=>⟨b,off,e,hb,hl,fun i x hx=>let ⟨cs,g1,g2⟩:=hc i x hx;⟨cs,by rw [hz];exact g1,hi cs x g2⟩⟩⟩
theorem Na {ok:Nat→Prop}{w:World}{cs:List Value}{x:List eG}(h:pX.rd ok w cs x):ny.rd ok w cs x:=by
 obtain ⟨v,rfl,h1⟩:=h
 obtain ⟨a,n,c,rfl,h2⟩:=fG.sl Flat.sec (v:=v) ⟨v,rfl,h1⟩
 exact ⟨a,n,c,rfl,h2⟩
theorem kU.img {B F:Nat}{E:TypeId}{w:World}{v:Value}{im:List (List eG)}(h:kU pX B F E w v im):∃ a n c,v=.slice a n c∧Sl ny (B≤·) w a n c im :=
 let ⟨a,n,c,e,h⟩:=h.sl;⟨a,n,c,e,Sl.imp (r:=pX) (s:=ny) rfl (fun _ _ g=>Na g) h⟩
set_option maxHeartbeats 2000000 in
theorem J6 {a:Option Addr}{n c:Nat}{im:List (List eG)}{ok:Nat→Prop}{w:World}(h:Sl ny ok w a n c im){Y2 start:Int}(hv:oh Y2)(hst:oh start)
  {da:Option Addr} {dn dc:Nat} (hd:dn≤9223372036854775807) :
  Calls Tryz.prog 125 #[.slice a n c,.agg #[.int .i64 Y2,.int .i64 start,.slice da dn dc]] w fun e w'=>e=.returned (.int .i64 (lJ (lens im) Y2 start dn))∧Below w.heap.size w w':=by
 have hs:=h.small
 unfold oh at hv hst
 have hlen:(lens im).length=n:=by simp [lens,h.len]
 have HL:=Lib.hid hlen;clear hlen
 have hB0:Below w.heap.size w (w.alloc (.cells #[.int .i64 Y2,.int .i64 start,.slice da dn dc] 105)):=(Below.refl _ _).alloc (zg _) _
 by_cases h1:Y2<0
 ·go_enter Tryz.func125,Tryz.ntmps125
  go_wp2
  go_ret
  exact ⟨pW (by rw [lJ,if_pos (.inl h1)]),hB0⟩
 obtain ⟨k,rfl⟩:=ZbG (Int.not_lt.1 h1)
 by_cases h2:n≤k
 ·go_enter Tryz.func125,Tryz.ntmps125
  go_wp2
  go_ret
  exact ⟨pW (by rw [lJ,if_pos (.inr (by rw [HL.out];omega))]),hB0⟩
 have hlt:k<n:=by omega
 obtain ⟨b,off,rfl,_,_⟩:=h.addr hlt
 obtain ⟨x,hx⟩:=h.get hlt
 have HX:Hid ((lens im)[k]?=some (x.length:Int)):=by show _=_;rw [lens,zd,hx];rfl
 obtain ⟨a',n',c',hcell,hx'⟩:=(h.below hB0).slice hx
 have hs':=hx'.small
 have hn':=hx'.len
 have HN:=Lib.hid hn';clear hn'
 clear hx
 by_cases h3:dn=0
 ·subst h3
  go_enter Tryz.func125,Tryz.ntmps125
  go_wp2
  go_ret
  exact ⟨pW (by rw [lJ,if_neg (by rw [HL.out];omega),if_pos rfl]),hB0⟩
 have h3':0<dn:=by omega
 clear h3
 by_cases h4:start<0
 ·have d1:decide (start<0)=true:=by simp;omega
  go_enter Tryz.func125,Tryz.ntmps125
  go_wp2_with fail
  refine wp_region_quiet_lit (by kernel_rfl) (by kernel_rfl) ?_
  repeat (go_big_quiet_step (fail))
  refine wpQuiet_nil ?_
  rintro _ ⟨nq,rfl⟩
  go_wp2
  go_ret
  exact ⟨pW (by rw [lJ,if_neg (by rw [HL.out];omega),if_neg (by omega),if_pos (.inl h4)]),below_drewN hB0 _⟩
 have h4':0≤start:=by omega
 have d1:decide (start<0)=false:=by simp;omega
 by_cases h5:(n':Int) - dn<start
 ·have d2:decide ((n':Int) - dn<start)=true:=by simp;omega
  go_enter Tryz.func125,Tryz.ntmps125
  go_wp2_with fail
  refine wp_region_quiet_lit (by kernel_rfl) (by kernel_rfl) ?_
  repeat (go_big_quiet_step (fail))
  refine wpQuiet_nil ?_
  rintro _ ⟨nq,rfl⟩
  go_wp2
  go_ret
  exact ⟨pW (by rw [lJ,if_neg (by rw [HL.out];omega),if_neg (by omega),if_pos (by rw [Zaw,En HX.out,HN.out];omega)]),below_drewN hB0 _⟩
 ·have h5':start≤(n':Int) - dn:=by omega
  have d2:decide ((n':Int) - dn<start)=false:=by simp;omega
  go_enter Tryz.func125,Tryz.ntmps125
  go_wp2_with fail
  refine wp_region_quiet_lit (by kernel_rfl) (by kernel_rfl) ?_
  repeat (go_big_quiet_step (fail))
  refine wpQuiet_nil ?_
  rintro _ ⟨nq,rfl⟩
  go_wp2
  go_ret
  exact ⟨pW (by rw [lJ,if_neg (by rw [HL.out];omega),if_neg (by omega),if_neg (by rw [Zaw,En HX.out,HN.out];omega)]),below_drewN hB0 _⟩
theorem Tryz.anR:(Tryz.prog.info? 129).map (·.size)=some 8:=by kernel_rfl
def A8 (l:List eG)(s:Nat)(d:List eG):List eG:=l.take s++d++l.drop (s+d.length)
def D7 (im:List (List eG))(x:Wr):List (List eG):=im.set x.1.toNat (A8 (im.getD x.1.toNat []) x.2.1.toNat x.2.2)
def zu (sz:List Int)(x:Wr):Int:=lJ sz x.1 x.2.1 x.2.2.length
def dP (sz:List Int):List Wr→Nat→Int×Int
 |[],_=>(0,0)
 |x::l,i=>if zu sz x≠0 then (i,zu sz x) else dP sz l (i+1)
def qR (im:List (List eG))(l:List Wr):List (List eG):=if uX im≠0 then [] else VZ (dP (lens im) l 0).2 (l.foldl D7 im)
def qU (im:List (List eG))(l:List Wr):Int:=if uX im≠0 then 0 else (dP (lens im) l 0).1
def qV (im:List (List eG))(l:List Wr):Int:=if uX im≠0 then uX im else (dP (lens im) l 0).2
def qW (w:World)(im:List (List eG))(l:List Wr):Ending→World→Prop:=fun e w' =>
 ∃ a n c,e=.returned (.tuple #[.slice a n c,.int .i64 (qU im l),.int .i64 (qV im l)])∧Sl ny (w.heap.size≤·) w' a n c (qR im l)∧(a=none∨qV im l=0)∧Below w.heap.size w w'
theorem qW.mk {w w':World}{im:List (List eG)}{l:List Wr}{a:Option Addr}{n c:Nat}{i e:Int}(hi:i=qU im l)(he:e=qV im l)(h:Sl ny (w.heap.size≤·) w' a n c (qR im l))(hz:a=none∨qV im l=0)(hB:Below w.heap.size w w') :
  qW w im l (.returned (.tuple #[.slice a n c,.int .i64 i,.int .i64 e])) w':=⟨a,n,c,by rw [hi,he],h,hz,hB⟩
theorem IC {sz:List Int}{l:List Wr}{k:Nat}{x:Wr}(hx:l[k]?=some x)(h:dP sz l 0=dP sz (l.drop k) k)(hf:zu sz x=0):dP sz l 0=dP sz (l.drop (k+1)) (k+1):=by
 obtain ⟨hk,rfl⟩:=Z1.1 hx
 rw [h,Zah hk,dP,if_neg (by rw [hf];decide)]
theorem Nb {sz:List Int}{l:List Wr}{k:Nat}{x:Wr}(hx:l[k]?=some x)(h:dP sz l 0=dP sz (l.drop k) k)(hf:zu sz x≠0):dP sz l 0=((k:Int),zu sz x):=by
 obtain ⟨hk,rfl⟩:=Z1.1 hx
 rw [h,Zah hk,dP,if_pos hf]
theorem Nc {sz:List Int}{l:List Wr}{k:Nat}(hk:l.length≤k)(h:dP sz l 0=dP sz (l.drop k) k):dP sz l 0=(0,0):=by
 rw [h,Zcs hk,dP]
theorem xu {l d:List eG}{s:Nat}(h:s+d.length≤l.length):(A8 l s d).length=l.length:=by
 unfold A8;simp;omega
theorem V3 {im:List (List eG)}{v s:Int}{d:List eG}(h:zu (lens im) (v,s,d)=0):0≤v∧v<im.length∧0<d.length∧0≤s∧∃ x,im[v.toNat]?=some x∧s+d.length≤x.length:=by
 unfold zu lJ at h
 simp only at h
 split at h
 ·omega
 ·rename_i h1
  split at h
  ·omega
  ·rename_i h2
   split at h
   ·omega
   ·rename_i h3
    have h4:v.toNat<im.length:=by simp [lens] at h1;omega
    have e:(lens im).getD v.toNat 0=((im[v.toNat]'h4).length:Int):=by simp [lens,List.getD,h4]
    rw [e] at h3
    simp [lens] at h1
    exact ⟨by omega,by omega,by omega,by omega,_,ZZ h4,by omega⟩
theorem QI {im:List (List eG)}{x:Wr}(h:zu (lens im) x=0):lens (D7 im x)=lens im:=by
 obtain ⟨v,s,d⟩:=x
 obtain ⟨h1,h2,h3,h4,y,hy,h5⟩:=V3 h
 unfold lens D7
 rw [Zb4]
 apply ZbR
 intro i
 rw [zr]
 by_cases hi:v.toNat=i
 ·subst hi
  have hl:=(Z1.1 hy).1
  simp only [za,if_true,if_pos hl,zd,hy,Zak]
  rw [En hy,xu (by omega)]
 ·rw [if_neg hi]
set_option maxHeartbeats 4000000 in
theorem UL {a:Option Addr}{n c:Nat}{im:List (List eG)}{ok ok2:Nat→Prop}{w:World}(h:Sl ny ok w a n c im)(hn:n≤1000000)(hvs:∀ v∈im,v.length≤1000000)
  {la:Option Addr} {ln lc:Nat} {l:List Wr} (hl:Sl wrR ok2 w la ln lc l) :
  Calls Tryz.prog 39 #[.slice a n c,.slice la ln lc] w (qW w im l):=by
 by_cases he:uX im=0
 rotate_left
 ·have hb:(uX im != 0)=true:=by simp [he]
  have HE:=Lib.hid he;clear he
  go_enter Tryz.func39,Tryz.ntmps39
  go_wp2_with fail
  refine (Hg h hn).mono ?_
  rintro e w1 ⟨rfl,hB1⟩
  go_wp2
  go_ret3
  exact qW.mk (by rw [qU,if_pos HE.out]) (by rw [qV,if_pos HE.out]) (by rw [qR,if_pos HE.out];exact Sl.nil0 _ _ _) (.inl rfl) hB1
 have hb:(uX im != 0)=false:=by simp [he]
 have HE:=Lib.hid he;clear he
 have hls:=hl.small
 go_enter Tryz.func39,Tryz.ntmps39
 go_wp2_with fail
 refine (Hg h hn).mono ?_
 rintro e w1 ⟨rfl,hB1⟩
 go_wp2_with fail
 refine (UK (h.below hB1) hn hvs).mono ?_
 rintro e w2 ⟨v0,rfl,hown0,hB2⟩
 have hB3:=hB1.trans (hB2.mono hB1.size)
 go_wp2
 go_loopw [21] (fun i wr=>∃ k:Nat,k≤ln∧i=.int .i64 k∧Hid (dP (lens im) l 0=dP (lens im) (l.drop k) k∧lens ((l.take k).foldl D7 im)=lens im)∧kU pX w1.heap.size wr.heap.size 71 wr v0 ((l.take k).foldl D7 im)∧Below w1.heap.size w1 wr) (fun i _=>ln - (intOf i).toNat)
 case atStart=>exact ⟨0,ZaG _,rfl,⟨rfl,rfl⟩,hown0,hB2⟩
 case round =>
  obtain ⟨k,hk,rfl,HK,hown,hB⟩:=hrel
  by_cases hlt:k<ln
  ·obtain ⟨b,off,rfl,_,_⟩:=hl.addr hlt
   obtain ⟨⟨v,s,d⟩,hx⟩:=hl.get hlt
   obtain ⟨da,dn,dc,hc0,hc1,hc2,hv,hs,hd⟩:=(hl.below (hB1.trans (hB.mono hB1.size))).wr hx
   have HX:=Lib.hid hx;clear hx
   obtain ⟨a2,n2,c2,rfl,Y6⟩:=hown.img
   generalize hcur:(l.take k).foldl D7 im=cur at *
   have HC:=Lib.hid hcur;clear hcur
   have hds:=hd.small
   by_cases hf:lJ (lens cur) v s dn=0
   rotate_left
   ·have hfb:(lJ (lens cur) v s dn != 0)=true:=by simp [hf]
    have HF:=Lib.hid hf;clear hf
    go_wp2_with fail
    refine (J6 (Y6.below ((Below.refl _ _).alloc (zg _) _)) hv hs hds).mono ?_
    rintro e w3 ⟨rfl,hB4⟩
    go_wp2
    go_ret3
    have e0:dP (lens im) l 0=((k:Int),lJ (lens cur) v s dn):=by
     have e1:zu (lens im) (v,s,d)=lJ (lens cur) v s dn:=by unfold zu;rw [HK.out.2,hd.len]
     rw [← e1]
     exact Nb HX.out HK.out.1 (by rw [e1];exact HF.out)
    exact qW.mk (by rw [qU,if_neg (by simp [HE.out]),e0]) (by rw [qV,if_neg (by simp [HE.out]),e0]) (by rw [qR,if_neg (by simp [HE.out]),e0,Y4 HF.out];exact Sl.nil0 _ _ _) (.inl rfl)
     ((hB1.trans (hB.mono hB1.size)).trans (((Below.refl _ _).alloc (zg _) _).trans (hB4.mono (by simp)) |>.mono (Zaa hB1.size hB.size)))
   ·have hfb:(lJ (lens cur) v s dn != 0)=false:=by simp [hf]
    have hfw:zu (lens cur) (v,s,d)=0:=by unfold zu;rw [hd.len];exact hf
    obtain ⟨h1,h2,h3,h4,x,hx,h5⟩:=V3 hfw
    obtain ⟨v,rfl⟩:=ZbG h1
    obtain ⟨s,rfl⟩:=ZbG h4
    rw [Zaw] at hx
    have HFW:=Lib.hid hfw;clear hfw
    have HF:=Lib.hid hf;clear hf
    have hdn:0<dn:=by rw [← hd.len];exact h3
    have h5':s+dn≤x.length:=by rw [hd.len] at h5;omega
    have h2':v<n2:=by rw [← Y6.len];omega
    go_wp2_with fail
    refine (J6 (Y6.below ((Below.refl _ _).alloc (zg _) _)) hv hs hds).mono ?_
    rintro e w3 ⟨rfl,hB4⟩
    have hB5:Below wr.heap.size wr w3:=((Below.refl _ _).alloc (zg _) _).trans (hB4.mono (by simp))
    -- the row that is written
    obtain ⟨g,cap,cc,okk,hvv,hBg,hg,hcc,⟨u,rfl,hub,hu,_⟩,aqy,hput⟩:=((hown.below hB5).below ((Below.refl _ _).drew)).at hx
    cases hvv
    have hu':=hu
    obtain ⟨xs,hrow,_⟩:=hu
    obtain ⟨gi,QJ,rfl⟩:∃ gi QJ,u=.slice (some ⟨gi,0,none⟩) x.length QJ:=by
     rcases hrow.2 with ⟨_,h0⟩|⟨gi,QJ,cur',hvu,_⟩
     ·omega
     ·exact ⟨gi,QJ,hvu⟩
    have hcap:x.length≤QJ:=by obtain ⟨_,_,_,e,q⟩:=hu'.sl;cases e;exact q.cap
    have hcell:w3.cell? ⟨g,v,none⟩=some (.slice (some ⟨gi,0,none⟩) x.length QJ):=by have:=hcc 0 Nat.zero_lt_one;simpa [pX,fG] using this
    have hgi:=aqy gi (hub gi rfl)
    have hw3:=hB5.size
    have hl0:=nV (g:=gi) (MS hB4 (j:=0) rfl) (by show wr.heap.size≠gi;omega)
    have hl1:=nV (g:=gi) (MS hB4 (j:=1) rfl) (by show wr.heap.size≠gi;omega)
    have hl2:=nV (g:=gi) (MS hB4 (j:=2) rfl) (by show wr.heap.size≠gi;omega)
    have hl3:=nV (g:=gi) hcell (fun e=>hgi.2.2 e.symm)
    have hsl:=fun w=>QH Tryz.underlying71 Tryz.anR (some ⟨gi,0,none⟩) x.length QJ s (by omega) w
    have hsub:uV (some ⟨gi,0,none⟩) QJ s 8=some ⟨gi,s*8,none⟩:=by unfold uV;rw [if_neg (by omega)];simp [Addr.add_lit]
    rw [hsub] at hsl
    have HS:=Lib.hid hsub;clear hsub
    have ar7:s≤x.length:=by omega
    clear h5 hcc
    go_wp2_with fail
    refine vS (fun w'=>∃ x:lI (w3) (gi),w'=x.w) [([0,1,2,3,4,5,6,7,8,9],10)] [] Tryz.mixed (by kernel_rfl) (lI.drew _ _) ?_
    refine yM ?_
    simp only [pick,ZaU,Za8,ZaZ,ZaO,Zau]
    change wpQuiet _ _ _ _ [_,_,_,_,_,_,_,_,_,_] _
    repeat (go_big_quiet_step (fail))
    refine wpQuiet_nil ?_
    change wpList _ _ _ [_] _ _
    refine He Tryz.aji Flat.sec rfl _ _ rfl (s:=s) (r:=zD) rfl rfl hu' (ys:=d) (((hd.below hB5).below ((Below.refl _ _).drew))) (by omega) hdn (by omega) ?_
    intro w4 hrow4 Y7 aqn
    have hgr:w3.grownBy w4 (some gi):=DJ (grown_drew _ _) Y7
    have hown4:=hput w4 (A8 x s d) (fun b hb hne=>Y7.block b hb (fun e=>hne (by rw [ZD.inj e];exact hub gi rfl))) Y7.os Y7.tape Y7.output Y7.size ⟨_,rfl,hub,hrow4,fun e=>by
     have:=xu (l:=x) (d:=d) (s:=s) (by rw [hd.len];omega)
     rw [e] at this;simp at this;omega⟩
    have e1:D7 cur ((v:Int),(s:Int),d)=cur.set v (A8 x s d):=by
     unfold D7;rw [Zaw,Zaw,En hx]
    have H1:=Lib.hid e1;clear e1
    have HXX:=Lib.hid hx;clear hx
    go_wp2_with fail
    refine ⟨lI.of hgr,?_⟩
    refine CQ ?_
    simp only [pick,ZaU,Za8,ZaZ,ZaO,Zau]
    change wpQuiet _ _ _ _ [] _
    repeat (go_big_quiet_step (fail))
    refine wpQuiet_nil ?_
    go_wp2
    go_roundw
    case rel =>
     refine ⟨k+1,by omega,by go_num,?_,?_,(hB.trans (hB5.mono hB.size)).grown hgr (by have:=hB.size;omega) (fun j hj=>by cases hj;omega)⟩
     ·show _∧_
      have hfw:zu (lens im) ((v:Int),(s:Int),d)=0:=by rw [← HK.out.2];exact HFW.out
      refine ⟨IC HX.out HK.out.1 hfw,?_⟩
      rw [og HX.out,Zcr,HC.out]
      show lens (D7 cur _)=_
      rw [QI HFW.out,HK.out.2]
     ·rw [og HX.out,Zcr,HC.out]
      show kU _ _ _ _ _ _ (D7 cur _)
      rw [H1.out]
      exact hown4.up (by have:=hgr.size;omega)
    case measure=>simp [intOf];omega
  ·obtain rfl:k=ln:=by omega
   obtain ⟨a2,n2,c2,rfl,Y6⟩:=hown.img
   go_wp2
   go_ret3
   have e0:=Nc (Nat.le_of_eq hl.len) HK.out.1
   rw [AZ hl.len] at Y6
   exact qW.mk (by rw [qU,if_neg (by simp [HE.out]),e0]) (by rw [qV,if_neg (by simp [HE.out]),e0]) (by rw [qR,if_neg (by simp [HE.out]),e0,afc rfl];exact Y6.mono fun b hb=>Zaa hB1.size hb) (.inr (by rw [qV,if_neg (by simp [HE.out]),e0]))
    (hB1.trans (hB.mono hB1.size))
end Go.Proofs.YthccglceomoboaaGreatDoor
namespace Go.Proofs.YthccglceomoboaaGreatDoor
open Go.RowKit V
theorem UM {w:World}{b o:Nat}{u:Value}(h:w.cell? ⟨b,o,none⟩=some u):bV w b:=by
 unfold World.cell? at h
 simp only at h
 split at h
 ·rename_i e;exact ⟨_,_,_,e⟩
 ·cases h
theorem zx {α:Type}{r:Rep α}{enc:α→PV}{ok:Nat→Prop}{w:World}{l:List α}{sz:Nat}{v:Value}(hsz:sz=r.sz)(hc:∀ x,(enc x).cells.length=r.sz)
  (hr:∀ x∈l,∀ (cs:List Value),cs.length=r.sz→(∀ (j:Nat) p u,(enc x).cells[j]?=some p→cs[j]?=some u→aA ok w p u)→r.rd ok w cs x) (h:aA ok w (.list sz (l.map enc)) v):∃ a n c,v=.slice a n c∧Sl r ok w a n c l:=by
 generalize he:l.map enc=es at h
 cases h with
 |nil _ a =>
  have:l=[]:=by simpa using he
  subst this
  exact ⟨a,0,0,rfl,⟨rfl,zg _,ZaG _,fun _=>rfl,.inl rfl⟩⟩
 |list _ _ b off c cv h1 h2 h3 h4 h6 h7 h8 =>
  subst hsz he
  refine ⟨_,_,c,rfl,⟨by simp,h3,h4,(fun e=>by cases e),.inr ⟨b,off,rfl,h1,h2.lt,fun i x hx=>?_⟩⟩⟩
  have hi:(l.map enc)[i]?=some (enc x):=by simp [hx]
  refine ⟨(List.range r.sz).map (cv i),fun j hj=>?_,hr x (zz hx) _ (by simp) fun j p u hp hu=>?_⟩
  ·have hj':j<(enc x).cells.length:=by rw [hc];exact hj
   rw [(h7 i _ j _ hi (ZZ hj')).1]
   simp [hj]
  ·have hj:j<r.sz:=by have:=(Z1.1 hp).1;rw [hc] at this;exact this
   have:u=cv i j:=by simp [hj] at hu;exact hu.symm
   rw [this]
   exact h8 i _ j _ hi hp
theorem Hl {α:Type}{r:Rep α}{enc:α→PV}{ok ok':Nat→Prop}{w:World}{l:List α}{a:Option Addr}{n c:Nat}(hk:∀ b,ok b→b<w.heap.size→ok' b)(hp0:0<r.sz)(hc:∀ x,(enc x).cells.length=r.sz)
  (hr:∀ x∈l,∀ (cs:List Value),cs.length=r.sz→r.rd ok w cs x→∀ (j:Nat) p u,(enc x).cells[j]?=some p→cs[j]?=some u→u.oneCell'=true∧aA ok' w p u) (hz:l=[]→c=0) (h:Sl r ok w a n c l):aA ok' w (.list r.sz (l.map enc)) (.slice a n c):=by
 obtain ⟨h1,h2,h3,h4,h5⟩:=h
 by_cases hl:l=[]
 ·have:=hz hl
  subst hl
  have:n=0:=by simpa using h1.symm
  subst this
  have:c=0:=by omega
  subst this
  exact .nil _ _
 ·rcases h5 with h5|⟨b,off,rfl,hb,hlt,h6⟩
  ·exact absurd (Zac (by omega)) hl
  ·have hn:n=(l.map enc).length:=by simp [h1]
   rw [hn]
   have key:∀ (i:Nat) (x:α) (j:Nat) (p:PV),l[i]?=some x→(enc x).cells[j]?=some p→∃ u,w.cell? ⟨b,off+i*r.sz+j,none⟩=some u∧u.oneCell'=true∧aA ok' w p u:=by
    intro i x j p hx hp
    obtain ⟨cs,g1,g2⟩:=h6 i x hx
    have hj:j<r.sz:=by have:=(Z1.1 hp).1;rw [hc] at this;exact this
    have hl2:=r.len g2
    have hu:cs[j]?=some (cs[j]'(by omega)):=ZZ (by omega)
    obtain ⟨k1,k2⟩:=hr x (zz hx) cs hl2 g2 j p _ hp hu
    exact ⟨_,by rw [g1 j hj,hu],k1,k2⟩
   have get:∀ {i:Nat} {e:PV},(l.map enc)[i]?=some e→∃ x,l[i]?=some x∧e=enc x:=by
    intro i e he
    rw [zd] at he
    cases hx:l[i]? with
    |none=>rw [hx] at he;cases he
    |some x=>rw [hx] at he;cases he;exact ⟨x,rfl,rfl⟩
   have hce:bV w b:=by
    cases l with
    |nil=>exact absurd rfl hl
    |cons x l =>
     have hj:0<(enc x).cells.length:=by rw [hc];exact hp0
     obtain ⟨u,k1,_⟩:=key 0 x 0 _ rfl (ZZ hj)
     exact UM k1
   refine .list _ _ b off c (fun i j=>(w.cell? ⟨b,off+i*r.sz+j,none⟩).getD undef) (hk b hb hlt) hce (by simp;omega) h3 (fun e he=>?_) (fun i e j x hi hj=>?_) fun i e j x hi hj=>?_
   ·obtain ⟨x,_,rfl⟩:=Za9.1 he;exact hc x
   ·obtain ⟨x',hx,rfl⟩:=get hi
    obtain ⟨u,k1,k2,k3⟩:=key i x' j x hx hj
    rw [k1];exact ⟨rfl,k2⟩
   ·obtain ⟨x',hx,rfl⟩:=get hi
    obtain ⟨u,k1,k2,k3⟩:=key i x' j x hx hj
    rw [k1];exact k3
theorem V4 {ok:Nat→Prop}{w:World}{l:List eG}{v:Value}(h:aA ok w (dh l) v):∃ a n c,v=.slice a n c∧Sl zD ok w a n c l:=by
 refine zx (r:=zD) (enc:=eP) rfl (fun x=>iJ x) (fun x _ cs hl hcs=>?_) h
 show cs=lV x
 refine ZbR fun j=>?_
 by_cases hj:j<8
 ·have h1:cs[j]?=some (cs[j]'(by rw [hl];exact hj)):=ZZ _
  have h2:(eP x).cells[j]?=some (.int .u8 ((x.toList[j]'(by simpa using hj)).toNat:Int)):=by
   show (kS x)[j]?=_
   have hj':j<x.toList.length:=by simpa using hj
   simp only [kS,zd,ZZ hj',Zak]
  have:=(hcs j _ _ h2 h1).bD
  have hj':j<x.toList.length:=by simpa using hj
  rw [h1,this]
  simp only [lV,zd,ZZ hj',Zak]
 ·have e1:cs.length=8:=hl
  rw [ZaY (by omega),ZaY (by rw [uZ];omega)]
theorem al7 {ok:Nat→Prop}{w:World}{l:List (List eG)}{v:Value}(h:aA ok w (.list 1 (l.map dh)) v):∃ a n c,v=.slice a n c∧Sl ny ok w a n c l:=by
 refine zx (r:=ny) (enc:=dh) rfl (fun x=>rfl) (fun x _ cs hl hcs=>?_) h
 match cs,hl with
 |[u],_ =>
  obtain ⟨a,n,c,rfl,hs⟩:=V4 (hcs 0 _ u rfl rfl)
  exact ⟨a,n,c,rfl,hs⟩
theorem al8 {ok:Nat→Prop}{w:World}{l:List zy}{v:Value}(hok:∀ x∈l,vJ x.volume=true∧vJ x.start=true)(h:aA ok w (.list 3 (l.map Zt)) v):∃ a n c,v=.slice a n c∧Sl wrR ok w a n c (l.map fun x=>(x.volume,x.start,x.data)):=by
 have:∃ a n c,v=.slice a n c∧Sl (α:=zy) ⟨3,fun ok w cs x=>wrR.rd ok w cs (x.volume,x.start,x.data),fun h=>wrR.len h,fun hk h=>wrR.mono hk h,fun h=>wrR.live h,fun hf h=>wrR.frame hf h,fun h=>wrR.one h⟩ ok w a n c l:=by
  refine zx rfl (fun x=>rfl) (fun x hx cs hl hcs=>?_) h
  match cs,hl with
  |[u,u2,u3],_ =>
   have e1:=(hcs 0 _ u rfl rfl).bD
   have e2:=(hcs 1 _ u2 rfl rfl).bD
   obtain ⟨a,n,c,rfl,hs⟩:=V4 (l:=x.data) (hcs 2 _ u3 rfl rfl)
   obtain ⟨o1,o2⟩:=hok x hx
   simp only [vJ,ZS,decide_eq_true_eq] at o1 o2
   exact ⟨[u],[u2,.slice a n c],rfl,⟨by rw [e1],o1⟩,⟨[u2],[.slice a n c],rfl,⟨by rw [e2],o2⟩,a,n,c,rfl,hs⟩⟩
 obtain ⟨a,n,c,rfl,h1,h2,h3,h4,h5⟩:=this
 refine ⟨a,n,c,rfl,⟨by simpa using h1,h2,h3,h4,h5.imp id fun ⟨b,off,g1,g2,g3,g4⟩=>⟨b,off,g1,g2,g3,fun i x hx=>?_⟩⟩⟩
 rw [zd] at hx
 cases hx':l[i]? with
 |none=>rw [hx'] at hx;cases hx
 |some y=>rw [hx'] at hx;cases hx;exact g4 i y hx'
theorem aiL {ok ok':Nat→Prop}{w:World}{l:List (List eG)}{a:Option Addr}{n c:Nat}(hk:∀ b,ok b→b<w.heap.size→ok' b)(hz:l=[]→c=0)(hne:∀ x∈l,x≠[])(h:Sl ny ok w a n c l):aA ok' w (.list 1 (l.map dh)) (.slice a n c):=by
 refine Hl (r:=ny) (enc:=dh) hk (by decide) (fun x=>rfl) (fun x hx cs hl hrd j p u hp hu=>?_) hz h
 obtain ⟨a,n,c,rfl,hs⟩:=hrd
 match j with
 |j+1=>simp [dh,PV.cells] at hp
 |0 =>
  cases hp
  cases hu
  refine ⟨rfl,Hl (r:=zD) (enc:=eP) hk (by decide) (fun x=>iJ x) (fun s _ cs hl hrd j p u hp hu=>?_) (fun e=>absurd e (hne x hx)) hs⟩
  have hrd:cs=lV s:=hrd
  subst hrd
  simp only [lV,zd,Zar] at hu
  have hp:(kS s)[j]?=some p:=hp
  simp only [kS,zd,Zar] at hp
  obtain ⟨b,h1,rfl⟩:=hu
  obtain ⟨b',h2,rfl⟩:=hp
  rw [h1] at h2
  cases h2
  exact ⟨rfl,.int _ _⟩
theorem J7 (sz:List Int)(x:zy):Du sz x=zu sz (x.volume,x.start,x.data):=by
 simp only [zu,lJ,Du]
 repeat' split
 all_goals first|rfl|omega
theorem CG (sz:List Int):∀ (l:List zy) (i:Nat),wM sz l i=dP sz (l.map fun x=>(x.volume,x.start,x.data)) i
 |[],_=>rfl
 |x::l,i=>by rw [Zat,wM,dP,J7,CG sz l (i+1)]
theorem UN (im:List (List eG))(l:List zy):Vj im l=qV im (l.map fun x=>(x.volume,x.start,x.data)):=by
 unfold Vj qV;rw [CG];rfl
theorem al9 (im:List (List eG))(l:List zy):apI im l=qU im (l.map fun x=>(x.volume,x.start,x.data)):=by
 unfold apI qU;rw [CG];rfl
theorem aiM (im:List (List eG))(x:zy):Yc im x=D7 im (x.volume,x.start,x.data):=rfl
theorem V5:∀ (l:List zy) (im:List (List eG)),l.foldl Yc im=(l.map fun x=>(x.volume,x.start,x.data)).foldl D7 im
 |[],_=>rfl
 |x::l,im=>by rw [Zat,ZbZ,ZbZ,aiM,V5 l]
theorem ama (im:List (List eG))(l:List zy):Vk im l=qR im (l.map fun x=>(x.volume,x.start,x.data)):=by
 unfold Vk qR
 rw [UN,V5]
 unfold qV VZ
 by_cases h:uX im=0
 ·simp [h]
 ·simp [h]
theorem afe {im:List (List eG)}{x:zy}(h:Du (kT im) x=0):kT (Yc im x)=kT im:=by
 rw [J7] at h
 exact QI h
theorem Ho:∀ (l:List zy) (im:List (List eG)) (i:Nat),(wM (kT im) l i).2=0→kT (l.foldl Yc im)=kT im
 |[],_,_,_=>rfl
 |x::l,im,i,h=>by
  unfold wM at h
  split at h
  ·rename_i h2;exact absurd h h2
  ·rename_i h2
   have h2:Du (kT im) x=0:=by omega
   have e:=afe h2
   rw [ZbZ,Ho l (Yc im x) (i+1) (by rw [e];exact h),e]
theorem Y8 {im:List (List eG)}{l:List zy}(h:Vj im l=0):kT (Vk im l)=kT im:=by
 unfold Vk
 rw [if_pos h]
 unfold Vj at h
 split at h
 ·rename_i h2;exact absurd h h2
 ·exact Ho l im 0 h
theorem aff {im:List (List eG)}(h:Dt (kT im)=0):im≠[]∧∀ v∈im,v≠[]:=by
 unfold Dt at h
 split at h
 ·cases h
 ·rename_i h1
  split at h
  ·cases h
  ·rename_i h2
   refine ⟨fun e=>by subst e;simp [kT] at h1,fun v hv e=>?_⟩
   subst e
   refine h2 (ZbW.2 ⟨0,?_,by decide⟩)
   exact Za9.2 ⟨[],hv,rfl⟩
theorem afg {im:List (List eG)}{l:List zy}:(Vj im l=0→Vk im l≠[])∧∀ v∈Vk im l,v≠[]:=by
 by_cases h:Vj im l=0
 ·have h0:Dt (kT im)=0:=by
   unfold Vj at h
   split at h
   ·rename_i h2;exact absurd h h2
   ·omega
  have:=aff (im:=Vk im l) (by rw [Y8 h];exact h0)
  exact ⟨fun _=>this.1,this.2⟩
 ·exact ⟨fun e=>absurd e h,fun v hv=>by unfold Vk at hv;rw [if_neg h] at hv;cases hv⟩
theorem afh {f:Nat}(hc:callable Tryz.prog f=true)(hA:∀ {a:Option Addr} {n c:Nat} {im:List (List eG)} {ok ok2:Nat→Prop} {w:World},Sl ny ok w a n c im→n≤1000000→(∀ v∈im,v.length≤1000000) →
  ∀ {la:Option Addr} {ln lc:Nat} {l:List Wr},Sl wrR ok2 w la ln lc l→Calls Tryz.prog f #[.slice a n c,.slice la ln lc] w (qW w im l)) :
  ∀ args rs,uN args=some rs→callable Tryz.prog f=true∧kZ Tryz.prog f args rs:=fun args rs h=>by
 obtain ⟨im,l,rfl,hw,hn,hv,rfl⟩:=Yd h
 refine ⟨hc,fun T0 w vs h1 h2 h3 h4 _=>?_⟩
 match vs,h3 with
 |[v0,v1],_ =>
  obtain ⟨a,n,c,rfl,hs⟩:=al7 (h4 0 _ v0 rfl rfl)
  obtain ⟨la,ln,lc,rfl,hl⟩:=al8 hw (h4 1 _ v1 rfl rfl)
  refine (hA hs (by rw [← hs.len];exact hn) hv hl).mono ?_
  rintro e w' ⟨a',n',c',rfl,hr,hz,hB⟩
  rw [← al9,← UN]
  rw [← ama] at hr
  rw [← UN] at hz
  refine ⟨_,fun b=>if w.heap.size≤b∧b<w'.heap.size then .ro else T0 b,rfl,hB,fun b hb=>if_neg (by omega),fun b hb=>?_,#[_,_,_],rfl,rfl,fun i r u hr' hu=>?_⟩
  ·show (if _ then _ else T0 b)=_
   rw [if_neg (by omega)];exact h2 b (by have:=hB.size;omega)
  ·match i with
   |0 =>
    cases hr';cases hu
    refine aiL (ok:=(w.heap.size≤·)) (fun b hb hlt=>if_pos ⟨hb,hlt⟩) (fun e=>?_) afg.2 hr
    rcases hz with hz|hz
    ·exact hr.nil hz
    ·exact absurd e (afg.1 hz)
   |1=>cases hr';cases hu;exact .int _ _
   |2=>cases hr';cases hu;exact .int _ _
   |i+3=>simp at hr'
theorem Y9:∀ args rs,uN args=some rs→callable Tryz.prog 39=true∧kZ Tryz.prog 39 args rs:=afh (by kernel_rfl) fun h hn hv _ _ _ _ hl=>UL h hn hv hl
def CJ (f:Nat)(fn:dQ):Env:=fun k=>if k=f then some (.code fn) else none
theorem yA {P:Program}{f:Nat}{fn:dQ}(h:aW P f fn=true):Ae P (CJ f fn):=fun k d hk=>by
 unfold CJ at hk
 split at hk
 ·rename_i e;subst e;cases hk;exact h
 ·cases hk
def V6 (n:Nat):Rep Unit where
 sz:=n
 rd _ _ cs _:=cs.length=n∧∀ u∈cs,u.oneCell'=true
 len h:=h.1
 mono _ h:=h
 live h:=h
 frame _ h:=h
 one h:=h.2
theorem Flat.em (n:Nat):Flat (V6 n):=fun h=>h
theorem Nh {ok:Nat→Prop}{w:World}{sz:Nat}{v:Value}(h:aA ok w (.list sz []) v):∃ a c,v=.slice a 0 c∧Sl (V6 sz) (fun _=>True) w a 0 c []:=by
 obtain ⟨l,hl⟩:∃ l:List PV,l=[]:=⟨_,rfl⟩
 rw [← hl] at h
 cases h with
 |nil _ a=>exact ⟨a,0,rfl,⟨rfl,zg _,ZaG _,fun _=>rfl,.inl rfl⟩⟩
 |list _ _ b off c cv h1 h2 h3 h4 h6 h7 h8=>subst hl;exact ⟨_,c,rfl,⟨rfl,ZaG _,h4,(fun e=>by cases e),.inl rfl⟩⟩
--+
theorem amb:lW Tryz.prog 71 129 8 8 (.agg #[.int .u8 0,.int .u8 0,.int .u8 0,.int .u8 0,.int .u8 0,.int .u8 0,.int .u8 0,.int .u8 0]):=⟨Tryz.underlying71,by kernel_rfl,rfl,by decide⟩
set_option maxHeartbeats 1000000 in
theorem Za {a:Option Addr}{n c:Nat}{l:List Unit}{ok:Nat→Prop}{w:World}(h:Sl (V6 8) ok w a n c l)(hn:n≤1000000) :
  Calls Tryz.prog 133 #[.slice a n c] w fun e w'=>∃ a' n' c',e=.returned (.slice a' n' c')∧(fG (V6 8) 129).rd (w.heap.size≤·) w' [.slice a' n' c'] l∧Below w.heap.size w w':=by
 have heq:=fun (a:Option Addr) (n c:Nat) (w:World)=>Lib.run_eql_slice_nil (P:=Tryz.prog) w 71 129 a n c 0 0 Tryz.underlying71
 cases a with
 |none =>
  have h0:l=[]:=Zac (by rw [h.len];have:=h.nil rfl;have:=h.cap;omega)
  have H0:=Lib.hid h0;clear h0
  go_enter Tryz.func133,Tryz.ntmps133
  go_wp2
  go_ret
  refine ⟨_,_,_,rfl,?_,Below.refl _ _⟩
  rw [H0.out]
  exact fG.mk (Own.nil _ _ _ _ _) (fun _=>.inl rfl)
 |some ad =>
  have hs:n≤9223372036854775807:=by have:=Zaa h.cap h.bnd;unfold maxLen at this;omega
  go_enter Tryz.func133,Tryz.ntmps133
  go_wp2_with (at_builtin;refine qo amb rfl _ _ rfl rfl (Own.ae9 (V6 8) (ok:=fun _=>False) (zg _)) rfl ((Src.IL (h.below ((Below.refl _ _).alloc (zg _) _))).flat (Flat.em 8)) ?c1 ?c2 ?c3 ?_)
  case c1=>simp;unfold maxLen;omega
  case c2=>simp;omega
  case c3=>simp
  intro v' w1 hown hgrow hat
  obtain ⟨a',n',c',rfl,_⟩:=hown.sl
  go_wp2
  go_ret
  refine ⟨_,_,_,rfl,fG.mk (by simpa using hown) (fun e=>?_),((Below.refl _ _).alloc (zg _) _).grown hgrow (by simp) (fun k hk=>by cases hk;exact zg _)⟩
  subst e
  obtain ⟨xs,h1,_⟩:=hown
  rcases h1.2 with ⟨hv,_⟩|⟨g,cap,cur,hv,_⟩
  ·exact .inl hv
  ·exact .inr ⟨g,cap,by simpa using hv⟩
theorem QK:aW Tryz.prog 133 Vo=true:=by kernel_rfl
theorem IE {en:Env}(hen:en 133=some (.code Vo)){e:PV}{es:List PV}(hl:(e::es).length≤lim):cal en 133 [.list 8 (e::es)]=some [(.list 8 (e::es),true)]:=by
 have F1:(es.length+1≤lim)=True:=eq_true (by simpa using hl)
 rw [ak hen rfl]
 simp only [Vo]
 simp only [start,aT,aY,aQ,aX,aK,aN,aS,aU,Nat.reduceAdd,Nat.reduceSub]
 simp only [F1,aU,dF,reduceCtorEq,Nat.reduceEqDiff,Nat.reduceAdd,Nat.reduceLT,Nat.reduceLeDiff,zb]
theorem QL:∀ args rs,jo 8 args=some rs→callable Tryz.prog 133=true∧kZ Tryz.prog 133 args rs:=fun args rs h=>by
 unfold jo at h
 split at h
 case h_2=>cases h
 rename_i sz es
 split at h
 case isFalse=>cases h
 rename_i hc
 obtain ⟨rfl,hl⟩:=hc
 cases h
 cases es with
 |cons e es =>
  obtain ⟨n,hn⟩:=jC (IE (en:=CJ 133 Vo) (if_pos rfl) hl)
  exact qh (yA QK) hn
 |nil =>
  refine ⟨by kernel_rfl,fun T0 w vs h1 h2 h3 h4 _=>?_⟩
  match vs,h3 with
  |[v],_ =>
   have hv:=h4 0 _ v rfl rfl
   obtain ⟨a,c,rfl,hsl⟩:=Nh hv
   refine (Za (ok:=fun _=>True) hsl (by omega)).mono ?_
   rintro e w' ⟨a',n',c',rfl,hrd,hB⟩
   obtain ⟨v,hv,hb,⟨xs,hown,_⟩,hnil⟩:=hrd
   obtain rfl:Value.slice a' n' c'=v:=by simpa using hv
   rcases hown.2 with ⟨e1,_⟩|⟨g,cap,cur,e1,_,hg,_,hm,hs,_⟩
   ·refine ⟨_,T0,rfl,hB,fun _ _=>rfl,fun b hb=>h2 b (by have:=hB.size;omega),#[_],rfl,rfl,fun i r u hr hu=>?_⟩
    cases i with
    |zero=>cases hr;cases hu;exact .inl ⟨rfl,none,e1⟩
    |succ i=>simp at hr
   ·have hg0:w.heap.size≤g:=hb g (by rw [e1];rfl)
    have hgl:g<w'.heap.size:=(zt.1 hg).1
    refine ⟨_,fun b=>if b=g then .row (.part 0 0) else T0 b,rfl,hB,fun b hb=>if_neg (by omega),fun b hb=>?_,#[_],rfl,rfl,fun i r u hr hu=>?_⟩
    ·show (if b=g then _ else T0 b)=_
     rw [if_neg (by omega)];exact h2 b (by have:=hB.size;omega)
    ·cases i with
     |zero =>
      cases hr;cases hu
      exact .inr ⟨g,cap,cur,_,e1,if_pos rfl,hg,hs,ZaG _,hm,(fun e he=>by cases he),fun i e j x hi=>by simp at hi⟩
     |succ i=>simp at hr
--+
theorem amc:lW Tryz.prog 35 3 1 8 (.int .i64 0):=⟨Tryz.underlying35,by kernel_rfl,rfl,by decide⟩
set_option maxHeartbeats 1000000 in
theorem Zb {a:Option Addr}{n c:Nat}{l:List Unit}{ok:Nat→Prop}{w:World}(h:Sl (V6 1) ok w a n c l)(hn:n≤1000000) :
  Calls Tryz.prog 107 #[.slice a n c] w fun e w'=>∃ a' n' c',e=.returned (.slice a' n' c')∧(fG (V6 1) 3).rd (w.heap.size≤·) w' [.slice a' n' c'] l∧Below w.heap.size w w':=by
 have heq:=fun (a:Option Addr) (n c:Nat) (w:World)=>Lib.run_eql_slice_nil (P:=Tryz.prog) w 35 3 a n c 0 0 Tryz.underlying35
 cases a with
 |none =>
  have h0:l=[]:=Zac (by rw [h.len];have:=h.nil rfl;have:=h.cap;omega)
  have H0:=Lib.hid h0;clear h0
  go_enter Tryz.func107,Tryz.ntmps107
  go_wp2
  go_ret
  refine ⟨_,_,_,rfl,?_,Below.refl _ _⟩
  rw [H0.out]
  exact fG.mk (Own.nil _ _ _ _ _) (fun _=>.inl rfl)
 |some ad =>
  have hs:n≤9223372036854775807:=by have:=Zaa h.cap h.bnd;unfold maxLen at this;omega
  go_enter Tryz.func107,Tryz.ntmps107
  go_wp2_with (at_builtin;refine qo amc rfl _ _ rfl rfl (Own.ae9 (V6 1) (ok:=fun _=>False) (zg _)) rfl ((Src.IL (h.below ((Below.refl _ _).alloc (zg _) _))).flat (Flat.em 1)) ?c1 ?c2 ?c3 ?_)
  case c1=>simp;unfold maxLen;omega
  case c2=>simp;omega
  case c3=>simp
  intro v' w1 hown hgrow hat
  obtain ⟨a',n',c',rfl,_⟩:=hown.sl
  go_wp2
  go_ret
  refine ⟨_,_,_,rfl,fG.mk (by simpa using hown) (fun e=>?_),((Below.refl _ _).alloc (zg _) _).grown hgrow (by simp) (fun k hk=>by cases hk;exact zg _)⟩
  subst e
  obtain ⟨xs,h1,_⟩:=hown
  rcases h1.2 with ⟨hv,_⟩|⟨g,cap,cur,hv,_⟩
  ·exact .inl hv
  ·exact .inr ⟨g,cap,by simpa using hv⟩
theorem QM:aW Tryz.prog 107 Vl=true:=by kernel_rfl
theorem IG {en:Env}(hen:en 107=some (.code Vl)){e:PV}{es:List PV}(hl:(e::es).length≤lim):cal en 107 [.list 1 (e::es)]=some [(.list 1 (e::es),true)]:=by
 have F1:(es.length+1≤lim)=True:=eq_true (by simpa using hl)
 rw [ak hen rfl]
 simp only [Vl]
 simp only [start,aT,aY,aQ,aX,aK,aN,aS,aU,Nat.reduceAdd,Nat.reduceSub]
 simp only [F1,aU,dF,reduceCtorEq,Nat.reduceEqDiff,Nat.reduceAdd,Nat.reduceLT,Nat.reduceLeDiff,zb]
theorem QN:∀ args rs,jo 1 args=some rs→callable Tryz.prog 107=true∧kZ Tryz.prog 107 args rs:=fun args rs h=>by
 unfold jo at h
 split at h
 case h_2=>cases h
 rename_i sz es
 split at h
 case isFalse=>cases h
 rename_i hc
 obtain ⟨rfl,hl⟩:=hc
 cases h
 cases es with
 |cons e es =>
  obtain ⟨n,hn⟩:=jC (IG (en:=CJ 107 Vl) (if_pos rfl) hl)
  exact qh (yA QM) hn
 |nil =>
  refine ⟨by kernel_rfl,fun T0 w vs h1 h2 h3 h4 _=>?_⟩
  match vs,h3 with
  |[v],_ =>
   have hv:=h4 0 _ v rfl rfl
   obtain ⟨a,c,rfl,hsl⟩:=Nh hv
   refine (Zb (ok:=fun _=>True) hsl (by omega)).mono ?_
   rintro e w' ⟨a',n',c',rfl,hrd,hB⟩
   obtain ⟨v,hv,hb,⟨xs,hown,_⟩,hnil⟩:=hrd
   obtain rfl:Value.slice a' n' c'=v:=by simpa using hv
   rcases hown.2 with ⟨e1,_⟩|⟨g,cap,cur,e1,_,hg,_,hm,hs,_⟩
   ·refine ⟨_,T0,rfl,hB,fun _ _=>rfl,fun b hb=>h2 b (by have:=hB.size;omega),#[_],rfl,rfl,fun i r u hr hu=>?_⟩
    cases i with
    |zero=>cases hr;cases hu;exact .inl ⟨rfl,none,e1⟩
    |succ i=>simp at hr
   ·have hg0:w.heap.size≤g:=hb g (by rw [e1];rfl)
    have hgl:g<w'.heap.size:=(zt.1 hg).1
    refine ⟨_,fun b=>if b=g then .row (.part 0 0) else T0 b,rfl,hB,fun b hb=>if_neg (by omega),fun b hb=>?_,#[_],rfl,rfl,fun i r u hr hu=>?_⟩
    ·show (if b=g then _ else T0 b)=_
     rw [if_neg (by omega)];exact h2 b (by have:=hB.size;omega)
    ·cases i with
     |zero =>
      cases hr;cases hu
      exact .inr ⟨g,cap,cur,_,e1,if_pos rfl,hg,hs,ZaG _,hm,(fun e he=>by cases he),fun i e j x hi=>by simp at hi⟩
     |succ i=>simp at hr
--+
theorem amd:lW Tryz.prog 57 193 1 8 (.int .u64 0):=⟨Tryz.underlying57,by kernel_rfl,rfl,by decide⟩
set_option maxHeartbeats 1000000 in
theorem Zd {a:Option Addr}{n c:Nat}{l:List Unit}{ok:Nat→Prop}{w:World}(h:Sl (V6 1) ok w a n c l)(hn:n≤1000000) :
  Calls Tryz.prog 120 #[.slice a n c] w fun e w'=>∃ a' n' c',e=.returned (.slice a' n' c')∧(fG (V6 1) 193).rd (w.heap.size≤·) w' [.slice a' n' c'] l∧Below w.heap.size w w':=by
 have heq:=fun (a:Option Addr) (n c:Nat) (w:World)=>Lib.run_eql_slice_nil (P:=Tryz.prog) w 57 193 a n c 0 0 Tryz.underlying57
 cases a with
 |none =>
  have h0:l=[]:=Zac (by rw [h.len];have:=h.nil rfl;have:=h.cap;omega)
  have H0:=Lib.hid h0;clear h0
  go_enter Tryz.func120,Tryz.ntmps120
  go_wp2
  go_ret
  refine ⟨_,_,_,rfl,?_,Below.refl _ _⟩
  rw [H0.out]
  exact fG.mk (Own.nil _ _ _ _ _) (fun _=>.inl rfl)
 |some ad =>
  have hs:n≤9223372036854775807:=by have:=Zaa h.cap h.bnd;unfold maxLen at this;omega
  go_enter Tryz.func120,Tryz.ntmps120
  go_wp2_with (at_builtin;refine qo amd rfl _ _ rfl rfl (Own.ae9 (V6 1) (ok:=fun _=>False) (zg _)) rfl ((Src.IL (h.below ((Below.refl _ _).alloc (zg _) _))).flat (Flat.em 1)) ?c1 ?c2 ?c3 ?_)
  case c1=>simp;unfold maxLen;omega
  case c2=>simp;omega
  case c3=>simp
  intro v' w1 hown hgrow hat
  obtain ⟨a',n',c',rfl,_⟩:=hown.sl
  go_wp2
  go_ret
  refine ⟨_,_,_,rfl,fG.mk (by simpa using hown) (fun e=>?_),((Below.refl _ _).alloc (zg _) _).grown hgrow (by simp) (fun k hk=>by cases hk;exact zg _)⟩
  subst e
  obtain ⟨xs,h1,_⟩:=hown
  rcases h1.2 with ⟨hv,_⟩|⟨g,cap,cur,hv,_⟩
  ·exact .inl hv
  ·exact .inr ⟨g,cap,by simpa using hv⟩
theorem QO:aW Tryz.prog 120 Vm=true:=by kernel_rfl
theorem II {en:Env}(hen:en 120=some (.code Vm)){e:PV}{es:List PV}(hl:(e::es).length≤lim):cal en 120 [.list 1 (e::es)]=some [(.list 1 (e::es),true)]:=by
 have F1:(es.length+1≤lim)=True:=eq_true (by simpa using hl)
 rw [ak hen rfl]
 simp only [Vm]
 simp only [start,aT,aY,aQ,aX,aK,aN,aS,aU,Nat.reduceAdd,Nat.reduceSub]
 simp only [F1,aU,dF,reduceCtorEq,Nat.reduceEqDiff,Nat.reduceAdd,Nat.reduceLT,Nat.reduceLeDiff,zb]
theorem QS:∀ args rs,jo 1 args=some rs→callable Tryz.prog 120=true∧kZ Tryz.prog 120 args rs:=fun args rs h=>by
 unfold jo at h
 split at h
 case h_2=>cases h
 rename_i sz es
 split at h
 case isFalse=>cases h
 rename_i hc
 obtain ⟨rfl,hl⟩:=hc
 cases h
 cases es with
 |cons e es =>
  obtain ⟨n,hn⟩:=jC (II (en:=CJ 120 Vm) (if_pos rfl) hl)
  exact qh (yA QO) hn
 |nil =>
  refine ⟨by kernel_rfl,fun T0 w vs h1 h2 h3 h4 _=>?_⟩
  match vs,h3 with
  |[v],_ =>
   have hv:=h4 0 _ v rfl rfl
   obtain ⟨a,c,rfl,hsl⟩:=Nh hv
   refine (Zd (ok:=fun _=>True) hsl (by omega)).mono ?_
   rintro e w' ⟨a',n',c',rfl,hrd,hB⟩
   obtain ⟨v,hv,hb,⟨xs,hown,_⟩,hnil⟩:=hrd
   obtain rfl:Value.slice a' n' c'=v:=by simpa using hv
   rcases hown.2 with ⟨e1,_⟩|⟨g,cap,cur,e1,_,hg,_,hm,hs,_⟩
   ·refine ⟨_,T0,rfl,hB,fun _ _=>rfl,fun b hb=>h2 b (by have:=hB.size;omega),#[_],rfl,rfl,fun i r u hr hu=>?_⟩
    cases i with
    |zero=>cases hr;cases hu;exact .inl ⟨rfl,none,e1⟩
    |succ i=>simp at hr
   ·have hg0:w.heap.size≤g:=hb g (by rw [e1];rfl)
    have hgl:g<w'.heap.size:=(zt.1 hg).1
    refine ⟨_,fun b=>if b=g then .row (.part 0 0) else T0 b,rfl,hB,fun b hb=>if_neg (by omega),fun b hb=>?_,#[_],rfl,rfl,fun i r u hr hu=>?_⟩
    ·show (if b=g then _ else T0 b)=_
     rw [if_neg (by omega)];exact h2 b (by have:=hB.size;omega)
    ·cases i with
     |zero =>
      cases hr;cases hu
      exact .inr ⟨g,cap,cur,_,e1,if_pos rfl,hg,hs,ZaG _,hm,(fun e he=>by cases he),fun i e j x hi=>by simp at hi⟩
     |succ i=>simp at hr
--+
theorem ame:lW Tryz.prog 72 5 1 1 (.int .u8 0):=⟨Tryz.underlying72,by kernel_rfl,rfl,by decide⟩
set_option maxHeartbeats 1000000 in
theorem Ze {a:Option Addr}{n c:Nat}{l:List Unit}{ok:Nat→Prop}{w:World}(h:Sl (V6 1) ok w a n c l)(hn:n≤1000000) :
  Calls Tryz.prog 245 #[.slice a n c] w fun e w'=>∃ a' n' c',e=.returned (.slice a' n' c')∧(fG (V6 1) 5).rd (w.heap.size≤·) w' [.slice a' n' c'] l∧Below w.heap.size w w':=by
 have heq:=fun (a:Option Addr) (n c:Nat) (w:World)=>Lib.run_eql_slice_nil (P:=Tryz.prog) w 72 5 a n c 0 0 Tryz.underlying72
 cases a with
 |none =>
  have h0:l=[]:=Zac (by rw [h.len];have:=h.nil rfl;have:=h.cap;omega)
  have H0:=Lib.hid h0;clear h0
  go_enter Tryz.func245,Tryz.ntmps245
  go_wp2
  go_ret
  refine ⟨_,_,_,rfl,?_,Below.refl _ _⟩
  rw [H0.out]
  exact fG.mk (Own.nil _ _ _ _ _) (fun _=>.inl rfl)
 |some ad =>
  have hs:n≤9223372036854775807:=by have:=Zaa h.cap h.bnd;unfold maxLen at this;omega
  go_enter Tryz.func245,Tryz.ntmps245
  go_wp2_with (at_builtin;refine qo ame rfl _ _ rfl rfl (Own.ae9 (V6 1) (ok:=fun _=>False) (zg _)) rfl ((Src.IL (h.below ((Below.refl _ _).alloc (zg _) _))).flat (Flat.em 1)) ?c1 ?c2 ?c3 ?_)
  case c1=>simp;unfold maxLen;omega
  case c2=>simp;omega
  case c3=>simp
  intro v' w1 hown hgrow hat
  obtain ⟨a',n',c',rfl,_⟩:=hown.sl
  go_wp2
  go_ret
  refine ⟨_,_,_,rfl,fG.mk (by simpa using hown) (fun e=>?_),((Below.refl _ _).alloc (zg _) _).grown hgrow (by simp) (fun k hk=>by cases hk;exact zg _)⟩
  subst e
  obtain ⟨xs,h1,_⟩:=hown
  rcases h1.2 with ⟨hv,_⟩|⟨g,cap,cur,hv,_⟩
  ·exact .inl hv
  ·exact .inr ⟨g,cap,by simpa using hv⟩
theorem QT:aW Tryz.prog 245 Vp=true:=by kernel_rfl
theorem IJ {en:Env}(hen:en 245=some (.code Vp)){e:PV}{es:List PV}(hl:(e::es).length≤lim):cal en 245 [.list 1 (e::es)]=some [(.list 1 (e::es),true)]:=by
 have F1:(es.length+1≤lim)=True:=eq_true (by simpa using hl)
 rw [ak hen rfl]
 simp only [Vp]
 simp only [start,aT,aY,aQ,aX,aK,aN,aS,aU,Nat.reduceAdd,Nat.reduceSub]
 simp only [F1,aU,dF,reduceCtorEq,Nat.reduceEqDiff,Nat.reduceAdd,Nat.reduceLT,Nat.reduceLeDiff,zb]
theorem QU:∀ args rs,jo 1 args=some rs→callable Tryz.prog 245=true∧kZ Tryz.prog 245 args rs:=fun args rs h=>by
 unfold jo at h
 split at h
 case h_2=>cases h
 rename_i sz es
 split at h
 case isFalse=>cases h
 rename_i hc
 obtain ⟨rfl,hl⟩:=hc
 cases h
 cases es with
 |cons e es =>
  obtain ⟨n,hn⟩:=jC (IJ (en:=CJ 245 Vp) (if_pos rfl) hl)
  exact qh (yA QT) hn
 |nil =>
  refine ⟨by kernel_rfl,fun T0 w vs h1 h2 h3 h4 _=>?_⟩
  match vs,h3 with
  |[v],_ =>
   have hv:=h4 0 _ v rfl rfl
   obtain ⟨a,c,rfl,hsl⟩:=Nh hv
   refine (Ze (ok:=fun _=>True) hsl (by omega)).mono ?_
   rintro e w' ⟨a',n',c',rfl,hrd,hB⟩
   obtain ⟨v,hv,hb,⟨xs,hown,_⟩,hnil⟩:=hrd
   obtain rfl:Value.slice a' n' c'=v:=by simpa using hv
   rcases hown.2 with ⟨e1,_⟩|⟨g,cap,cur,e1,_,hg,_,hm,hs,_⟩
   ·refine ⟨_,T0,rfl,hB,fun _ _=>rfl,fun b hb=>h2 b (by have:=hB.size;omega),#[_],rfl,rfl,fun i r u hr hu=>?_⟩
    cases i with
    |zero=>cases hr;cases hu;exact .inl ⟨rfl,none,e1⟩
    |succ i=>simp at hr
   ·have hg0:w.heap.size≤g:=hb g (by rw [e1];rfl)
    have hgl:g<w'.heap.size:=(zt.1 hg).1
    refine ⟨_,fun b=>if b=g then .row (.part 0 0) else T0 b,rfl,hB,fun b hb=>if_neg (by omega),fun b hb=>?_,#[_],rfl,rfl,fun i r u hr hu=>?_⟩
    ·show (if b=g then _ else T0 b)=_
     rw [if_neg (by omega)];exact h2 b (by have:=hB.size;omega)
    ·cases i with
     |zero =>
      cases hr;cases hu
      exact .inr ⟨g,cap,cur,_,e1,if_pos rfl,hg,hs,ZaG _,hm,(fun e he=>by cases he),fun i e j x hi=>by simp at hi⟩
     |succ i=>simp at hr
end Go.Proofs.YthccglceomoboaaGreatDoor
namespace Go.Proofs.YthccglceomoboaaGreatDoor.V
def okW (l:List zy):Prop:=∀ w∈l,vJ w.volume=true∧vJ w.start=true
theorem anS {im:Img}{l:List zy}(hw:okW l)(hl:im.length≤1000000)(hr:∀ v∈im,v.length≤1000000):cal env 39 [.list 1 (im.map dh),.list 3 (l.map Zt)]=some [(.list 1 ((Vk im l).map dh),false),(.int .i64 (apI im l),false),(.int .i64 (Vj im l),false)] :=
 (Ag ant).trans (Uj hw hl hr)
--+
set_option maxRecDepth 20000 in
theorem afi {m:TM}{x:TE}{w:TW}{A:List eG}{i0:Int}(hx:uU x)(hl:m.ws.length≤1000)(hok:m.ok=true)(hK:x.kd % 5=1)(hw:m.ws[x.wh % m.ws.length]?=some w)(hA:cal env 39 [oJ [m.a],.list 3 [Zt ⟨0,w.st,w.dat⟩]]=some [(oJ [A],false),(.int .i64 i0,false),(.int .i64 0,false)]) :
  cal env 134 [zB m,pU x]=some [(zB ⟨A,m.b,m.log,m.Hy,m.ws.set (x.wh % m.ws.length) ⟨w.st,w.dat,true,w.s⟩,true⟩,false)]:=by
 obtain ⟨hkl,hkw⟩:=Z1.1 hw
 obtain ⟨x1,x2,x3⟩:=hx
 have hk5:(x.kd:Int).tmod 5=((1:Nat):Int):=by rw [Zaq (by omega)];omega
 have F5:((5:Int)=0)=False:=eq_false (by decide)
 have E0:(((1:Nat):Int)==0)=false:=rfl
 have E4:(((1:Nat):Int)==4)=false:=rfl
 have E1:(((1:Nat):Int)==1)=decide (1=1):=rfl
 have E2:(((2:Nat):Int)==2)=true:=rfl
 have D1:decide (1=1)=true:=rfl
 have D2:decide (2=1)=false:=rfl
 have Z0:((0:Int)==0)=true:=rfl
 have EL:((m.ws.length:Int)==0)=false:=by simp;intro e;rw [e] at hkl;simp at hkl
 have FL:((m.ws.length:Int)=0)=False:=eq_false (by omega)
 have W1:IntKind.i64.wrap (x.wh:Int)=x.wh:=aF (by omega)
 have MW:(x.wh:Int).tmod (m.ws.length:Int)=((x.wh % m.ws.length:Nat):Int):=by rw [Zaq (by omega)];rfl
 obtain ⟨k,hk⟩:∃ k,x.wh % m.ws.length=k:=⟨_,rfl⟩
 rw [hk] at hkl hw MW ⊢
 have hxk:(m.ws.map Bc)[k]?=some (.agg [.int .i64 0,.int .i64 w.st,.list 8 (w.dat.map eP),.bool w.f,.bool w.s]):=by rw [zd,hw];rfl
 have L0:m.ws.length≤lim:=by unfold lim;omega
 have zC:∀ x0 x1 x2 x3 x4 x5 x6 x7 x8 x9:PV,part [x0,x1,x2,x3,x4,x5,x6,x7,x8,x9] 0 (some 10)=some (.agg [x0,x1,x2,x3,x4,x5,x6,x7,x8,x9]):=fun _ _ _ _ _ _ _ _ _ _=>rfl
 have P5:∀ a b c d e:PV,part [a,b,c,d,e] 0 (some 5)=some (.agg [a,b,c,d,e]):=fun _ _ _ _ _=>rfl
 have P3:∀ x0 x1 x2 x3 x4:PV,part [x0,x1,x2,x3,x4] 0 (some 3)=some (.agg [x0,x1,x2]):=fun _ _ _ _ _=>rfl
 have hset:(m.ws.map Bc).set k (Bc ⟨w.st,w.dat,true,w.s⟩)=(m.ws.set k ⟨w.st,w.dat,true,w.s⟩).map Bc:=by rw [Zb4]
 rw [UG] at hset
 have eWe:Zt ⟨0,w.st,w.dat⟩=.agg [.int .i64 0,.int .i64 w.st,.list 8 (w.dat.map eP)]:=rfl
 have eIe:∀ z:List eG,oJ [z]=.list 1 [.list 8 (z.map eP)]:=fun _=>rfl
 rw [eWe,eIe,eIe] at hA
 unfold zB
 simp only [eIe]
 rw [oZ]
 rw [ak qN rfl];simp only [qL,aG,Nat.reduceBEq,Nat.reduceLeDiff,Nat.reduceAdd,zc,ze]
 simp only [zC,P5,P3,hk5,F5,E0,E4,E1,E2,D1,D2,Z0,EL,FL,W1,MW,hxk,L0,hok,hA,hset,aB hkl,za,aC,Nat.reduceMul,Nat.reduceBEq,Nat.reduceLT,Nat.reduceLeDiff,reduceCtorEq,Nat.reduceEqDiff,Nat.reduceAdd,zb]
--+
set_option maxRecDepth 20000 in
theorem afk {m:TM}{x:TE}{w:TW}{A:List eG}{i0:Int}(hx:uU x)(hl:m.ws.length≤1000)(hok:m.ok=true)(hK:x.kd % 5=2)(hw:m.ws[x.wh % m.ws.length]?=some w)(hA:cal env 39 [oJ [m.b],.list 3 [Zt ⟨0,w.st,w.dat⟩]]=some [(oJ [A],false),(.int .i64 i0,false),(.int .i64 0,false)]) :
  cal env 134 [zB m,pU x]=some [(zB ⟨m.a,A,m.log,m.Hy,m.ws.set (x.wh % m.ws.length) ⟨w.st,w.dat,w.f,true⟩,true⟩,false)]:=by
 obtain ⟨hkl,hkw⟩:=Z1.1 hw
 obtain ⟨x1,x2,x3⟩:=hx
 have hk5:(x.kd:Int).tmod 5=((2:Nat):Int):=by rw [Zaq (by omega)];omega
 have F5:((5:Int)=0)=False:=eq_false (by decide)
 have E0:(((2:Nat):Int)==0)=false:=rfl
 have E4:(((2:Nat):Int)==4)=false:=rfl
 have E1:(((2:Nat):Int)==1)=decide (2=1):=rfl
 have E2:(((2:Nat):Int)==2)=true:=rfl
 have D1:decide (1=1)=true:=rfl
 have D2:decide (2=1)=false:=rfl
 have Z0:((0:Int)==0)=true:=rfl
 have EL:((m.ws.length:Int)==0)=false:=by simp;intro e;rw [e] at hkl;simp at hkl
 have FL:((m.ws.length:Int)=0)=False:=eq_false (by omega)
 have W1:IntKind.i64.wrap (x.wh:Int)=x.wh:=aF (by omega)
 have MW:(x.wh:Int).tmod (m.ws.length:Int)=((x.wh % m.ws.length:Nat):Int):=by rw [Zaq (by omega)];rfl
 obtain ⟨k,hk⟩:∃ k,x.wh % m.ws.length=k:=⟨_,rfl⟩
 rw [hk] at hkl hw MW ⊢
 have hxk:(m.ws.map Bc)[k]?=some (.agg [.int .i64 0,.int .i64 w.st,.list 8 (w.dat.map eP),.bool w.f,.bool w.s]):=by rw [zd,hw];rfl
 have L0:m.ws.length≤lim:=by unfold lim;omega
 have zC:∀ x0 x1 x2 x3 x4 x5 x6 x7 x8 x9:PV,part [x0,x1,x2,x3,x4,x5,x6,x7,x8,x9] 0 (some 10)=some (.agg [x0,x1,x2,x3,x4,x5,x6,x7,x8,x9]):=fun _ _ _ _ _ _ _ _ _ _=>rfl
 have P5:∀ a b c d e:PV,part [a,b,c,d,e] 0 (some 5)=some (.agg [a,b,c,d,e]):=fun _ _ _ _ _=>rfl
 have P3:∀ x0 x1 x2 x3 x4:PV,part [x0,x1,x2,x3,x4] 0 (some 3)=some (.agg [x0,x1,x2]):=fun _ _ _ _ _=>rfl
 have hset:(m.ws.map Bc).set k (Bc ⟨w.st,w.dat,w.f,true⟩)=(m.ws.set k ⟨w.st,w.dat,w.f,true⟩).map Bc:=by rw [Zb4]
 rw [UG] at hset
 have eWe:Zt ⟨0,w.st,w.dat⟩=.agg [.int .i64 0,.int .i64 w.st,.list 8 (w.dat.map eP)]:=rfl
 have eIe:∀ z:List eG,oJ [z]=.list 1 [.list 8 (z.map eP)]:=fun _=>rfl
 rw [eWe,eIe,eIe] at hA
 unfold zB
 simp only [eIe]
 rw [oZ]
 rw [ak qN rfl];simp only [qL,aG,Nat.reduceBEq,Nat.reduceLeDiff,Nat.reduceAdd,zc,ze]
 simp only [zC,P5,P3,hk5,F5,E0,E4,E1,E2,D1,D2,Z0,EL,FL,W1,MW,hxk,L0,hok,hA,hset,aB hkl,za,aC,Nat.reduceMul,Nat.reduceBEq,Nat.reduceLT,Nat.reduceLeDiff,reduceCtorEq,Nat.reduceEqDiff,Nat.reduceAdd,zb]
set_option maxRecDepth 20000 in
theorem aiN {m:TM}{x:TE}{w:TW}(hx:uU x)(hl:m.ws.length≤1000)(hok:m.ok=true)(hK:x.kd % 5=3)(hw:m.ws[x.wh % m.ws.length]?=some w)(hfs:w.f=false∨w.s=false) :
  cal env 134 [zB m,pU x]=some [(zB m,false)]:=by
 obtain ⟨hkl,hkw⟩:=Z1.1 hw
 obtain ⟨x1,x2,x3⟩:=hx
 have hk5:(x.kd:Int).tmod 5=((3:Nat):Int):=by rw [Zaq (by omega)];omega
 have F5:((5:Int)=0)=False:=eq_false (by decide)
 have E0:(((3:Nat):Int)==0)=false:=rfl
 have E4:(((3:Nat):Int)==4)=false:=rfl
 have E1:(((3:Nat):Int)==1)=false:=rfl
 have E2:(((3:Nat):Int)==2)=false:=rfl
 have E3:(((3:Nat):Int)==3)=true:=rfl
 have Z0:((0:Int)==0)=true:=rfl
 have EL:((m.ws.length:Int)==0)=false:=by simp;intro e;rw [e] at hkl;simp at hkl
 have FL:((m.ws.length:Int)=0)=False:=eq_false (by omega)
 have W1:IntKind.i64.wrap (x.wh:Int)=x.wh:=aF (by omega)
 have MW:(x.wh:Int).tmod (m.ws.length:Int)=((x.wh % m.ws.length:Nat):Int):=by rw [Zaq (by omega)];rfl
 obtain ⟨k,hk⟩:∃ k,x.wh % m.ws.length=k:=⟨_,rfl⟩
 rw [hk] at hkl hw MW
 have hxk:(m.ws.map Bc)[k]?=some (.agg [.int .i64 0,.int .i64 w.st,.list 8 (w.dat.map eP),.bool w.f,.bool w.s]):=by rw [zd,hw];rfl
 have L0:m.ws.length≤lim:=by unfold lim;omega
 have zC:∀ x0 x1 x2 x3 x4 x5 x6 x7 x8 x9:PV,part [x0,x1,x2,x3,x4,x5,x6,x7,x8,x9] 0 (some 10)=some (.agg [x0,x1,x2,x3,x4,x5,x6,x7,x8,x9]):=fun _ _ _ _ _ _ _ _ _ _=>rfl
 have P5:∀ a b c d e:PV,part [a,b,c,d,e] 0 (some 5)=some (.agg [a,b,c,d,e]):=fun _ _ _ _ _=>rfl
 have P3:∀ x0 x1 x2 x3 x4:PV,part [x0,x1,x2,x3,x4] 0 (some 3)=some (.agg [x0,x1,x2]):=fun _ _ _ _ _=>rfl
 have hset:(m.ws.map Bc).set k (.agg [.int .i64 0,.int .i64 w.st,.list 8 (w.dat.map eP),.bool w.f,.bool w.s])=m.ws.map Bc:=by
  obtain ⟨h1,h2⟩:=Z1.1 hxk
  rw [← h2,List.set_getElem_self]
 have eIe:∀ z:List eG,oJ [z]=.list 1 [.list 8 (z.map eP)]:=fun _=>rfl
 unfold zB
 simp only [eIe]
 rw [oZ]
 rcases hfs with hf|hs
 ·cases hs:w.s with
  |true =>
   rw [hf,hs] at hset
   rw [ak qN rfl];simp only [qL,aG,Nat.reduceBEq,Nat.reduceLeDiff,Nat.reduceAdd,zc,ze]
   simp only [zC,P5,P3,hk5,F5,E0,E4,E1,E2,E3,Z0,EL,FL,W1,MW,hxk,L0,hf,hs,hset,aB hkl,za,aC,Nat.reduceMul,Nat.reduceBEq,Nat.reduceLT,Nat.reduceLeDiff,reduceCtorEq,Nat.reduceEqDiff,Nat.reduceAdd,zb]
  |false =>
   rw [hf,hs] at hset
   rw [ak qN rfl];simp only [qL,aG,Nat.reduceBEq,Nat.reduceLeDiff,Nat.reduceAdd,zc,ze]
   simp only [zC,P5,P3,hk5,F5,E0,E4,E1,E2,E3,Z0,EL,FL,W1,MW,hxk,L0,hf,hs,hset,aB hkl,za,aC,Nat.reduceMul,Nat.reduceBEq,Nat.reduceLT,Nat.reduceLeDiff,reduceCtorEq,Nat.reduceEqDiff,Nat.reduceAdd,zb]
 ·cases hf:w.f with
  |true =>
   rw [hf,hs] at hset
   rw [ak qN rfl];simp only [qL,aG,Nat.reduceBEq,Nat.reduceLeDiff,Nat.reduceAdd,zc,ze]
   simp only [zC,P5,P3,hk5,F5,E0,E4,E1,E2,E3,Z0,EL,FL,W1,MW,hxk,L0,hf,hs,hset,aB hkl,za,aC,Nat.reduceMul,Nat.reduceBEq,Nat.reduceLT,Nat.reduceLeDiff,reduceCtorEq,Nat.reduceEqDiff,Nat.reduceAdd,zb]
  |false =>
   rw [hf,hs] at hset
   rw [ak qN rfl];simp only [qL,aG,Nat.reduceBEq,Nat.reduceLeDiff,Nat.reduceAdd,zc,ze]
   simp only [zC,P5,P3,hk5,F5,E0,E4,E1,E2,E3,Z0,EL,FL,W1,MW,hxk,L0,hf,hs,hset,aB hkl,za,aC,Nat.reduceMul,Nat.reduceBEq,Nat.reduceLT,Nat.reduceLeDiff,reduceCtorEq,Nat.reduceEqDiff,Nat.reduceAdd,zb]
set_option maxRecDepth 20000 in
theorem aiO {m:TM}{x:TE}{w:TW}{I:iL}(hx:uU x)(hl:m.ws.length≤1000)(hok:m.ok=true)(hK:x.kd % 5=3)(hw:m.ws[x.wh % m.ws.length]?=some w)(hf:w.f=true)(hs:w.s=true)(hEn:cal env 212 [.agg [.int .i64 m.log.size,.int .i64 m.log.aV,.list 1 (m.log.act.map eI),.int .i64 m.log.bm.size,.list 1 (m.log.bm.ws.map eW)],.agg [.int .i64 w.st,.int .i64 (w.dat.length:Int)]]=some [(.agg [.int .i64 I.size,.int .i64 I.aV,.list 1 (I.act.map eI),.int .i64 I.bm.size,.list 1 (I.bm.ws.map eW)],false),(.int .i64 0,false)]) :
  cal env 134 [zB m,pU x]=some [(zB ⟨m.a,m.b,I,m.Hy,m.ws.take (x.wh % m.ws.length)++m.ws.drop (x.wh % m.ws.length+1),true⟩,false)]:=by
 obtain ⟨hkl,hkw⟩:=Z1.1 hw
 obtain ⟨x1,x2,x3⟩:=hx
 have hk5:(x.kd:Int).tmod 5=((3:Nat):Int):=by rw [Zaq (by omega)];omega
 have F5:((5:Int)=0)=False:=eq_false (by decide)
 have E0:(((3:Nat):Int)==0)=false:=rfl
 have E4:(((3:Nat):Int)==4)=false:=rfl
 have E1:(((3:Nat):Int)==1)=false:=rfl
 have E2:(((3:Nat):Int)==2)=false:=rfl
 have E3:(((3:Nat):Int)==3)=true:=rfl
 have Z0:((0:Int)==0)=true:=rfl
 have EL:((m.ws.length:Int)==0)=false:=by simp;intro e;rw [e] at hkl;simp at hkl
 have FL:((m.ws.length:Int)=0)=False:=eq_false (by omega)
 have W1:IntKind.i64.wrap (x.wh:Int)=x.wh:=aF (by omega)
 have MW:(x.wh:Int).tmod (m.ws.length:Int)=((x.wh % m.ws.length:Nat):Int):=by rw [Zaq (by omega)];rfl
 obtain ⟨k,hk⟩:∃ k,x.wh % m.ws.length=k:=⟨_,rfl⟩
 rw [hk] at hkl hw MW ⊢
 have hxk:(m.ws.map Bc)[k]?=some (.agg [.int .i64 0,.int .i64 w.st,.list 8 (w.dat.map eP),.bool w.f,.bool w.s]):=by rw [zd,hw];rfl
 have L0:m.ws.length≤lim:=by unfold lim;omega
 have zC:∀ x0 x1 x2 x3 x4 x5 x6 x7 x8 x9:PV,part [x0,x1,x2,x3,x4,x5,x6,x7,x8,x9] 0 (some 10)=some (.agg [x0,x1,x2,x3,x4,x5,x6,x7,x8,x9]):=fun _ _ _ _ _ _ _ _ _ _=>rfl
 have P5:∀ a b c d e:PV,part [a,b,c,d,e] 0 (some 5)=some (.agg [a,b,c,d,e]):=fun _ _ _ _ _=>rfl
 have P3:∀ x0 x1 x2 x3 x4:PV,part [x0,x1,x2,x3,x4] 0 (some 3)=some (.agg [x0,x1,x2]):=fun _ _ _ _ _=>rfl
 have C0:(0≤(k:Int))=True:=eq_true (by omega)
 have C1:((k:Int)≤(m.ws.length:Int))=True:=eq_true (by omega)
 have C2:(0≤((k+1:Nat):Int))=True:=eq_true (by omega)
 have C3:(((k+1:Nat):Int)≤(m.ws.length:Int))=True:=eq_true (by omega)
 have T1:List.take (m.ws.length - (k+1)) (Zc9 (k+1) (Zci Bc m.ws))=Zc9 (k+1) (Zci Bc m.ws):=Zby (by simp<;>omega)
 have T2:(List.take k (Zci Bc m.ws)).length+(Zc9 (k+1) (Zci Bc m.ws)).length≤lim:=by unfold lim;simp<;>omega
 have T3:List.take k (Zci Bc m.ws)++Zc9 (k+1) (Zci Bc m.ws)=(m.ws.take k++m.ws.drop (k+1)).map Bc:=by rw [ZaH,Zcv,Zdt]
 have WK:IntKind.i64.wrap ((k:Int)+1)=((k+1:Nat):Int):=by rw [aF (by omega)];omega
 have eIe:∀ z:List eG,oJ [z]=.list 1 [.list 8 (z.map eP)]:=fun _=>rfl
 unfold zB
 simp only [eIe]
 rw [oZ]
 rw [ak qN rfl];simp only [qL,aG,Nat.reduceBEq,Nat.reduceLeDiff,Nat.reduceAdd,zc,ze]
 simp only [zC,P5,P3,hk5,F5,E0,E4,E1,E2,E3,Z0,EL,FL,W1,MW,hxk,L0,hf,hs,hEn,hok,C0,C1,C2,C3,T1,T2,T3,WK,Zaw,aB hkl,za,aC,Nat.reduceMul,Nat.reduceBEq,Nat.reduceLT,Nat.reduceLeDiff,reduceCtorEq,Nat.reduceEqDiff,Nat.reduceAdd,zb]
def toW (w:TW):PW eG:=⟨⟨w.st,(w.dat.length:Int)⟩,w.f,w.s,fun k=>w.dat.getD (k - w.st.toNat) E5⟩
def toM (m:TM):MW eG:=⟨m.log,m.Hy,m.a,m.b,m.ws.map toW,m.ok⟩
theorem afl {m:TM}{x:TE}(h:VX m.ws (ni m x:Int) (pV m x).length 0=false):∀ q∈(toM m).ws,ovE q.e (Q5 m x)=false:=fun q hq=>by
 obtain ⟨w,hw,rfl⟩:=Za9.1 (show q∈m.ws.map toW from hq)
 unfold VX at h
 rw [ZaK,List.any_eq_false] at h
 have:=h w hw
 rw [Bool.not_eq_true] at this
 unfold ovE toW Q5
 rw [Bool.and_comm]
 exact this
theorem amf {m:TM}{x:TE}(hok:m.ok=true)(h0:x.dat.length≠0)(hov:VX m.ws (ni m x:Int) (pV m x).length 0=false)(hE:Zv m.log (Q5 m x)=0):toM (MR m x)=G6 (toM m) (Q5 m x) (fun k=>(pV m x).getD (k - ni m x) E5):=by
 unfold MR
 rw [if_neg h0,hov]
 unfold G6 toM
 simp only [zm,if_false,ZaH,Zat,Zav,hok,hE,decide_true,Zal]
 rfl
theorem amg (m:TM)(x:TE):toM (clT m x)=Y0 (toM m) (decide (x.wh % 2=0)):=by
 unfold clT toM Y0
 simp only [decide_eq_true_eq]
theorem aiP {m:TM}{k:Nat}{w:TW}(hok:m.ok=true)(hE:DZ nT m.log (toW w).e=0):toM ⟨m.a,m.b,Nq uO nT m.log (toW w).e,m.Hy,m.ws.take k++m.ws.drop (k+1),true⟩=YZ (toM m) k (toW w).e:=by
 unfold toM YZ
 simp only [ZaH,Zcv,Zdt,hok,hE,decide_true,Zal]
theorem V7 {a:List eG}{w:TW}(h0:0≤w.st)(h:w.st+(w.dat.length:Int)≤(a.length:Int)):putAt a w.st.toNat w.dat=wrA a (toW w).e (toW w).v:=by
 rw [al6 (by omega)]
 unfold toW
 simp only
 rw [show ((w.st.toNat:Nat):Int)=w.st by omega]
theorem amh {m:TM}{k:Nat}{w:TW}(hok:m.ok=true)(h0:0≤w.st)(h:w.st+(w.dat.length:Int)≤(m.a.length:Int)):toM ⟨putAt m.a w.st.toNat w.dat,m.b,m.log,m.Hy,m.ws.set k ⟨w.st,w.dat,true,w.s⟩,true⟩=D6 (toM m) true false k (toW w):=by
 rw [V7 h0 h]
 unfold toM D6 Zz
 simp [Zb4,hok,toW]
theorem ami {m:TM}{k:Nat}{w:TW}(hok:m.ok=true)(h0:0≤w.st)(h:w.st+(w.dat.length:Int)≤(m.b.length:Int)):toM ⟨m.a,putAt m.b w.st.toNat w.dat,m.log,m.Hy,m.ws.set k ⟨w.st,w.dat,w.f,true⟩,true⟩=D6 (toM m) false true k (toW w):=by
 rw [V7 h0 h]
 unfold toM D6 Zz
 simp [Zb4,hok,toW]
def enT (m:TM)(k:Nat)(w:TW):TM:=⟨m.a,m.b,Nq uO nT m.log (toW w).e,m.Hy,m.ws.take k++m.ws.drop (k+1),true⟩
def Q7 (m:TM)(x:TE):TM :=
 if x.kd % 5=0 then MR m x else if x.kd % 5=4 then clT m x else
 match m.ws[x.wh % m.ws.length]? with
 |none=>m
 |some w =>
  if x.kd % 5=1 then ⟨putAt m.a w.st.toNat w.dat,m.b,m.log,m.Hy,m.ws.set (x.wh % m.ws.length) ⟨w.st,w.dat,true,w.s⟩,true⟩ else
  if x.kd % 5=2 then ⟨m.a,putAt m.b w.st.toNat w.dat,m.log,m.Hy,m.ws.set (x.wh % m.ws.length) ⟨w.st,w.dat,w.f,true⟩,true⟩ else
  if w.f=true∧w.s=true then enT m (x.wh % m.ws.length) w else m
theorem amj {n g:Int}{N:Nat}{m:TM}{j:iL}{c:Nat}(h:Inv n g N (toM m) j c)(hN:n=(N:Int))(hc:c<4096)(x:TE):∃ j',Inv n g N (toM (Q7 m x)) j' (c+1):=by
 have hok:m.ok=true:=h.ok
 have hla:m.a.length=N:=h.la
 have hlb:m.b.length=N:=h.lb
 obtain ⟨z1,z2,z3,z4⟩:=cZ.1 h.n60
 unfold Q7
 by_cases k0:x.kd % 5=0
 ·rw [if_pos k0]
  by_cases d0:x.dat.length=0
  ·exact ⟨j,by unfold MR;rw [if_pos d0];exact h.mono (by omega)⟩
  ·cases hov:VX m.ws (ni m x:Int) (pV m x).length 0 with
   |true=>exact ⟨j,by unfold MR;rw [if_neg d0,hov];exact h.mono (by omega)⟩
   |false =>
    have hp:ni m x<m.a.length:=Nat.mod_lt _ (by omega)
    have hdl:(pV m x).length=min x.dat.length (m.a.length - ni m x):=by unfold pV;rw [Zam];omega
    have hb:oD n (Q5 m x)=true:=jW.2 (by unfold Q5;simp only;omega)
    have hE:Zv m.log (Q5 m x)=0:=UF h hc hb
    rw [amf hok d0 hov hE]
    exact aiA h hc hb _ (afl hov)
 ·rw [if_neg k0]
  by_cases k4:x.kd % 5=4
  ·rw [if_pos k4,amg]
   exact aiB h _
  ·rw [if_neg k4]
   cases hw:m.ws[x.wh % m.ws.length]? with
   |none=>exact ⟨j,h.mono (by omega)⟩
   |some w =>
    have hk:(toM m).ws[x.wh % m.ws.length]?=some (toW w):=by show (m.ws.map toW)[_]?=_;rw [zd,hw];rfl
    have hb:=jW.1 (h.wf (toW w).e (Zbk (zz hk)))
    have hb1:0≤w.st:=hb.1
    have hb2:w.st+(w.dat.length:Int)≤n:=by have:=hb.2.2.2;unfold toW at this;simp only at this;omega
    simp only
    by_cases k1:x.kd % 5=1
    ·rw [if_pos k1,amh hok hb1 (by omega)]
     exact ⟨j,VU h (by omega) true false hk⟩
    ·rw [if_neg k1]
     by_cases k2:x.kd % 5=2
     ·rw [if_pos k2,ami hok hb1 (by omega)]
      exact ⟨j,VU h (by omega) false true hk⟩
     ·rw [if_neg k2]
      by_cases hfs:w.f=true∧w.s=true
      ·rw [if_pos hfs]
       obtain ⟨e1,e2⟩:=VW h (by omega) hk hfs.1 hfs.2
       unfold enT
       rw [aiP hok e2]
       exact ⟨j,e1.mono (by omega)⟩
      ·rw [if_neg hfs]
       exact ⟨j,h.mono (by omega)⟩
end Go.Proofs.YthccglceomoboaaGreatDoor.V
