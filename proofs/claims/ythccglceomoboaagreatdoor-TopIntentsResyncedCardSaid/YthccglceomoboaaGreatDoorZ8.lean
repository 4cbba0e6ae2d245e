/-
  Part 8 of the texts that the statement stands on.
-/
import Derived.Test.YthccglceomoboaaGreatDoorZ7
import Derived.Test.YthccglceomoboaaGreatDoorRows
import Derived.WalkSmall
import Derived.WalkSpells
import Derived.Lib.SliceRun
set_option linter.all false
open List renaming getElem?_eq_getElem → ZD, getElem?_eq_some_iff → za, length_map → zb, getElem?_map → zc, length_cons → zd, length_nil → ze, length_append → zp, getElem?_set → zr, drop_eq_getElem_cons → zt, getElem?_append_right → zE, getD_eq_getElem?_getD → zP, getElem?_append_left → Zaa, mem_of_getElem? → Zab, length_take → Zac, getElem_mem → Zad, replicate → Zag, getElem?_take → Zak, eq_nil_of_length_eq_zero → Zal, append_assoc → Zam, map_nil → Zao, map_cons → Zap, mem_singleton → Zat, range → Zaw, getElem?_drop → Zay, mem_append → ZaB, map_append → ZaC, getElem?_cons_zero → ZaD, drop_zero → ZaE, take_succ_eq_append_getElem → ZaG, append_nil → ZaH, mem_cons → ZaJ, take_length → ZaL, getElem?_eq_none → ZaM, drop_length → ZaO, drop_of_length_le → ZaT, length_drop → ZaU, mem_map → ZaV, nil_append → ZaW, take_of_length_le → Za2, getElem?_cons_succ → Za8, take_zero → Zba, filterMap_cons → Zbd, mem_map_of_mem → Zbn, filterMap_nil → Zby, getElem?_toArray → Zbz, foldl_cons → ZbG, foldl_append → ZbJ, getElem_map → ZbN, ext_getElem? → ZbV, take_add_one → ZbW, any_eq_true → Zb1, map_set → Zcb, map_toArray → Zcd, mem_append_left → Zch, any_cons → Zci, map_take → Zcj, map → Zcs, drop_eq_nil_of_le → ZcB, getElem_set → ZcI, map_drop → Zc2, flatMap_cons → Zc4, length_set → Zdg, find?_cons → Zdi, drop → Zdj, getElem_of_mem → ZdM, countP_append → ZdV, not_mem_nil → Zd4, getElem_zip → Zd5
open Option renaming some → ZS, map_some → Zae, map_eq_some_iff → Zaq
open Bool renaming and_eq_true → ZZ, false_eq_true → zj, true_and → Zaf, and_self → Zai, eq_false_iff → Za0, false_or → Zbj, and_false → Zbm, eq_iff_iff → Zbu, not_false → ZbM, and_true → ZbS, not_true → ZbT, true_or → Zb0
open Nat renaming beq → Z1, le_refl → zg, le_trans → zR, mul_le_mul_right → Zah, zero_add → Zaj, lt_of_lt_of_le → Zan, add_mul → Zax, zero_le → ZaI, sub_zero → ZbH
open Array renaming getElem?_eq_some_iff → zz, length_toList → ZaF
open Int renaming lt_irrefl → Zar, tmod_eq_emod_of_nonneg → Zas, toNat_natCast → Zav, eq_ofNat_of_zero_le → ZbL, ediv_nonneg → ZbR, ediv_le_ediv → ZcJ, mul_le_mul_of_nonneg_right → ZcP
namespace Go.Proofs.YthccglceomoboaaGreatDoor.V
structure aoL where
 d0:Int
 d1:Int
 st:Int
 ins:Bool
 out:List bf
def nP (keep:Bool→Bool→Bool)(x:End)(same:Bool)(s:aoL):aoL :=
 if same then ⟨if x.list=0 then s.d0+x.step else s.d0,if x.list=1 then s.d1+x.step else s.d1,s.st,s.ins,s.out⟩
 else ⟨if x.list=0 then s.d0+x.step else s.d0,if x.list=1 then s.d1+x.step else s.d1,
  if keep (decide ((if x.list=0 then s.d0+x.step else s.d0) > 0)) (decide ((if x.list=1 then s.d1+x.step else s.d1) > 0))&&!s.ins then x.pos else s.st,
  keep (decide ((if x.list=0 then s.d0+x.step else s.d0) > 0)) (decide ((if x.list=1 then s.d1+x.step else s.d1) > 0)),
  s.out++(if !keep (decide ((if x.list=0 then s.d0+x.step else s.d0) > 0)) (decide ((if x.list=1 then s.d1+x.step else s.d1) > 0))&&s.ins then [⟨s.st,x.pos - s.st⟩] else [])⟩
def jR (keep:Bool→Bool→Bool)(L:List End):Nat→aoL
 |0=>⟨0,0,0,false,[]⟩
 |i+1=>match L[i]? with
  |some x=>nP keep x (jL x (L.drop (i+1))) (jR keep L i)
  |none=>jR keep L i
theorem Dy {keep:Bool→Bool→Bool}{L:List End}{i:Nat}{x:End}(h:L[i]?=some x):jR keep L (i+1)=nP keep x (jL x (L.drop (i+1))) (jR keep L i):=by
 show (match L[i]? with
  |some x=>nP keep x (jL x (L.drop (i+1))) (jR keep L i)
  |none=>jR keep L i)=_
 rw [h]
theorem Yo (keep:Bool→Bool→Bool)(L:List End):∀ i,i≤L.length→(jR keep L i).out++Dn keep (L.drop i) (jR keep L i).d0 (jR keep L i).d1 (jR keep L i).st (jR keep L i).ins=Dn keep L 0 0 0 false
 |0,_=>rfl
 |i+1,hi=>by
  have ih:=Yo keep L i (by omega)
  have hx:L[i]?=some L[i]:=ZD (by omega)
  rw [← ih,Dy hx,zt (show i<L.length by omega)]
  generalize L[i]=x
  generalize jR keep L i=s
  conv=>rhs;unfold Dn
  unfold nP
  cases jL x (L.drop (i+1)) with
  |true=>rfl
  |false=>simp only [zj,if_false,Zam]
theorem agD (keep:Bool→Bool→Bool)(L:List End):(jR keep L L.length).out=Dn keep L 0 0 0 false:=by
 have:=Yo keep L L.length (zg _)
 rw [ZaO] at this
 simpa [Dn] using this
theorem I7 {keep:Bool→Bool→Bool}{L:List End}(h:∀ x∈L,(x.step=1∨x.step=-1)∧x.pos≤4096):∀ i:Nat,(-(i:Int)≤(jR keep L i).d0∧(jR keep L i).d0≤i)∧(-(i:Int)≤(jR keep L i).d1∧(jR keep L i).d1≤i)∧(0≤(jR keep L i).st∧(jR keep L i).st≤4096)
 |0=>by simp [jR]
 |i+1=>by
  obtain ⟨h1,h2,h3⟩:=I7 (keep:=keep) h i
  cases hx:L[i]? with
  |none =>
   have:jR keep L (i+1)=jR keep L i:=by
    show (match L[i]? with
     |some x=>nP keep x (jL x (L.drop (i+1))) (jR keep L i)
     |none=>jR keep L i)=_
    rw [hx]
   rw [this]
   omega
  |some x =>
   rw [Dy hx]
   obtain ⟨k1,k2⟩:=h x (Zab hx)
   generalize jR keep L i=s at *
   unfold nP
   split
   ·simp only
    refine ⟨?_,?_,h3⟩
    ·split<;>omega
    ·split<;>omega
   ·simp only
    refine ⟨?_,?_,?_⟩
    ·split<;>omega
    ·split<;>omega
    ·split<;>omega
def yE (l:List bf):List (List PV):=l.map fun x=>[aU x]
theorem OL (l m:List bf):yE (l++m)=yE l++yE m:=by simp [yE]
theorem Yp (n m:Nat):((n:Int)==(m:Int))=decide (n=m):=by
 by_cases h:n=m
 ·subst h;simp
 ·rw [decide_eq_false h];simp;omega
set_option maxRecDepth 20000 in
set_option maxHeartbeats 2000000 in
theorem akp {keep:Bool→Bool→Bool}{kf:Nat}(hk:∀ p q,cal env kf [.bool p,.bool q]=some [(.bool (keep p q),false)]){L:List End}(hL:∀ x∈L,((x.step=1∨x.step=-1)∧x.pos≤4096)∧x.list<2)(hl:L.length≤1000000)
  {st:St} (h:st.head [0,3,5,6,7,8,15,16,17,18] st.boxes.length=some ⟨sl 80 [(0,.oM),(3,.pv (.cu [.func kf []] 0)),(5,.row 3 (L.map jd)),(6,.aX 0 0),(7,.pv (.int .i64 0)),(8,.pv (.bool false)),(15,.any),(16,.ref (.slot 5) 0 L.length),(17,.pv (.int .i64 L.length)),(18,.pv (.int .i64 (0:Nat)))],[⟨false,[.pv (.int .i64 0),.pv (.int .i64 0)]⟩],[],some none⟩) :
  den env Ij st=some (.normal,⟨sl 80 [],[⟨false,[.pv (.int .i64 (jR keep L L.length).d0),.pv (.int .i64 (jR keep L L.length).d1)]⟩],yE (jR keep L L.length).out,some none⟩):=by
 unfold Ij
 have hlim:lim=1073741824:=rfl
 have hsm:=I7 (keep:=keep) fun x hx=>(hL x hx).1
 refine bG (env:=env) L.length (fun i=>⟨sl 80 [(0,.oM),(3,.pv (.cu [.func kf []] 0)),(5,.row 3 (L.map jd)),(6,.aX 0 0),(7,.pv (.int .i64 (jR keep L i).st)),(8,.pv (.bool (jR keep L i).ins)),(15,.any),(16,.ref (.slot 5) 0 L.length),(17,.pv (.int .i64 L.length)),(18,.pv (.int .i64 i))],[⟨false,[.pv (.int .i64 (jR keep L i).d0),.pv (.int .i64 (jR keep L i).d1)]⟩],yE (jR keep L i).out,some none⟩) (fun _=>some (.normal,⟨sl 80 [],[⟨false,[.pv (.int .i64 (jR keep L L.length).d0),.pv (.int .i64 (jR keep L L.length).d1)]⟩],yE (jR keep L L.length).out,some none⟩)) h (fun _=>rfl) (fun _=>by simp only [aQ,dY,Nat.reduceMul,Nat.reduceBEq,Nat.reduceLT,Nat.reduceLeDiff,Nat.reduceAdd,decide_true,Zai,Zaf]) ?_ ?_
 ·intro i rb hi ih
  have hi1:=bH hi (by omega)
  have F1:((i:Int)<(L.length:Int))=True:=eq_true (by omega)
  have hx:L[i]?=some L[i]:=ZD hi
  obtain ⟨⟨x1,x2⟩,x3⟩:=hL _ (Zad hi)
  have aqR:=Dy (keep:=keep) hx
  obtain ⟨⟨s1,s2⟩,⟨s3,s4⟩,s5,s6⟩:=hsm i
  rw [aqR] at ih
  clear aqR
  generalize L[i]=x at *
  generalize hs:jR keep L i=s at *
  obtain ⟨d0,d1,sp,ins,out⟩:=s
  obtain ⟨p,k,t⟩:=x
  simp only at x1 x2 x3 s1 s2 s3 s4 s5 s6 ih
  have hlist:k=0∨k=1:=by omega
  have W0:IntKind.i64.wrap (d0+t)=d0+t:=aP (by omega)
  have W1:IntKind.i64.wrap (d1+t)=d1+t:=aP (by omega)
  have W2:IntKind.i64.wrap ((p:Int) - sp)=(p:Int) - sp:=aP (by omega)
  have I0:index (.int .i64 0) 2=some 0:=rfl
  have I1:index (.int .i64 1) 2=some 1:=rfl
  have IN0:index (.int .i64 ((0:Nat):Int)) 2=some 0:=rfl
  have IN1:index (.int .i64 ((1:Nat):Int)) 2=some 1:=rfl
  have P3:∀ a b c:PV,part [a,b,c] 0 (some 3)=some (.agg [a,b,c]):=fun a b c=>rfl
  -- the next end
  have hnx:(∃ y,L[i+1]?=some y∧jL ⟨p,k,t⟩ (L.drop (i+1))=decide (y.pos=p)∧(((i+1:Nat):Int)<(L.length:Int))∧index (.int .i64 ((i+1:Nat):Int)) L.length=some (i+1))∨(jL ⟨p,k,t⟩ (L.drop (i+1))=false∧¬ (((i+1:Nat):Int)<(L.length:Int))):=by
   by_cases hlt:i+1<L.length
   ·left
    refine ⟨L[i+1],ZD hlt,?_,by omega,aC hlt⟩
    rw [zt hlt];rfl
   ·right
    refine ⟨?_,by omega⟩
    rw [ZcB (by omega)];rfl
  rcases hlist with rfl|rfl
  ·-- list 0
   have e1:=hk (decide (d0+t > 0)) (decide (d1 > 0))
   have same:nP keep ⟨p,0,t⟩ true ⟨d0,d1,sp,ins,out⟩=⟨d0+t,d1,sp,ins,out⟩:=by simp [nP]
   have diff:nP keep ⟨p,0,t⟩ false ⟨d0,d1,sp,ins,out⟩=⟨d0+t,d1,if keep (decide (d0+t > 0)) (decide (d1 > 0))&&!ins then (p:Int) else sp,keep (decide (d0+t > 0)) (decide (d1 > 0)),out++(if !keep (decide (d0+t > 0)) (decide (d1 > 0))&&ins then [⟨sp,(p:Int) - sp⟩] else [])⟩:=by simp [nP]
   rcases hnx with ⟨y,hy,hns,hlt,hix⟩|⟨hns,hlt⟩
   ·have F2:(((i+1:Nat):Int)<(L.length:Int))=True:=eq_true hlt
    rw [hns] at ih
    have B:=Yp y.pos p
    generalize hb:decide (y.pos=p)=b at ih B
    cases b with
    |true =>
     rw [same] at ih
     simp only [pq,F1,hx,hi1,W0,W1,W2,I0,I1,IN0,IN1,P3,jd,aC hi,zc,Zae,zb,zd,ze,F2,hy,hix,B,aN,Nat.reduceMul,Nat.reduceBEq,Nat.reduceLT,Nat.reduceLeDiff,reduceCtorEq,Nat.reduceEqDiff,Nat.reduceAdd,Z1]
     rw [ih _ (by simp only [hi1,aN,Nat.reduceMul,Nat.reduceBEq,Nat.reduceLT,Nat.reduceLeDiff,reduceCtorEq,Nat.reduceEqDiff,Nat.reduceAdd,Z1]<;>rfl)]
    |false =>
     rw [diff] at ih
     generalize keep (decide (d0+t > 0)) (decide (d1 > 0))=now at *
     cases now<;>cases ins<;>simp only [ZbT,ZbM,ZbS,Zbm,Zai,zj,if_true,if_false,ZaH,OL] at ih<;>simp only [pq,F1,hx,hi1,W0,W1,W2,I0,I1,IN0,IN1,P3,jd,aC hi,zc,Zae,zb,zd,ze,F2,hy,hix,B,e1,aN,Nat.reduceMul,Nat.reduceBEq,Nat.reduceLT,Nat.reduceLeDiff,reduceCtorEq,Nat.reduceEqDiff,Nat.reduceAdd,Z1]<;>rw [ih _ (by simp only [hi1,yE,Zap,Zao,aU,aN,Nat.reduceMul,Nat.reduceBEq,Nat.reduceLT,Nat.reduceLeDiff,reduceCtorEq,Nat.reduceEqDiff,Nat.reduceAdd,Z1]<;>rfl)]
   ·have F2:(((i+1:Nat):Int)<(L.length:Int))=False:=eq_false hlt
    rw [hns,diff] at ih
    generalize keep (decide (d0+t > 0)) (decide (d1 > 0))=now at *
    cases now<;>cases ins<;>simp only [ZbT,ZbM,ZbS,Zbm,Zai,zj,if_true,if_false,ZaH,OL] at ih<;>simp only [pq,F1,hx,hi1,W0,W1,W2,I0,I1,IN0,IN1,P3,jd,aC hi,zc,Zae,zb,zd,ze,F2,e1,aN,Nat.reduceMul,Nat.reduceBEq,Nat.reduceLT,Nat.reduceLeDiff,reduceCtorEq,Nat.reduceEqDiff,Nat.reduceAdd,Z1]<;>rw [ih _ (by simp only [hi1,yE,Zap,Zao,aU,aN,Nat.reduceMul,Nat.reduceBEq,Nat.reduceLT,Nat.reduceLeDiff,reduceCtorEq,Nat.reduceEqDiff,Nat.reduceAdd,Z1]<;>rfl)]
  ·-- list 1
   have e1:=hk (decide (d0 > 0)) (decide (d1+t > 0))
   have same:nP keep ⟨p,1,t⟩ true ⟨d0,d1,sp,ins,out⟩=⟨d0,d1+t,sp,ins,out⟩:=by simp [nP]
   have diff:nP keep ⟨p,1,t⟩ false ⟨d0,d1,sp,ins,out⟩=⟨d0,d1+t,if keep (decide (d0 > 0)) (decide (d1+t > 0))&&!ins then (p:Int) else sp,keep (decide (d0 > 0)) (decide (d1+t > 0)),out++(if !keep (decide (d0 > 0)) (decide (d1+t > 0))&&ins then [⟨sp,(p:Int) - sp⟩] else [])⟩:=by simp [nP]
   rcases hnx with ⟨y,hy,hns,hlt,hix⟩|⟨hns,hlt⟩
   ·have F2:(((i+1:Nat):Int)<(L.length:Int))=True:=eq_true hlt
    rw [hns] at ih
    have B:=Yp y.pos p
    generalize hb:decide (y.pos=p)=b at ih B
    cases b with
    |true =>
     rw [same] at ih
     simp only [pq,F1,hx,hi1,W0,W1,W2,I0,I1,IN0,IN1,P3,jd,aC hi,zc,Zae,zb,zd,ze,F2,hy,hix,B,aN,Nat.reduceMul,Nat.reduceBEq,Nat.reduceLT,Nat.reduceLeDiff,reduceCtorEq,Nat.reduceEqDiff,Nat.reduceAdd,Z1]
     rw [ih _ (by simp only [hi1,aN,Nat.reduceMul,Nat.reduceBEq,Nat.reduceLT,Nat.reduceLeDiff,reduceCtorEq,Nat.reduceEqDiff,Nat.reduceAdd,Z1]<;>rfl)]
    |false =>
     rw [diff] at ih
     generalize keep (decide (d0 > 0)) (decide (d1+t > 0))=now at *
     cases now<;>cases ins<;>simp only [ZbT,ZbM,ZbS,Zbm,Zai,zj,if_true,if_false,ZaH,OL] at ih<;>simp only [pq,F1,hx,hi1,W0,W1,W2,I0,I1,IN0,IN1,P3,jd,aC hi,zc,Zae,zb,zd,ze,F2,hy,hix,B,e1,aN,Nat.reduceMul,Nat.reduceBEq,Nat.reduceLT,Nat.reduceLeDiff,reduceCtorEq,Nat.reduceEqDiff,Nat.reduceAdd,Z1]<;>rw [ih _ (by simp only [hi1,yE,Zap,Zao,aU,aN,Nat.reduceMul,Nat.reduceBEq,Nat.reduceLT,Nat.reduceLeDiff,reduceCtorEq,Nat.reduceEqDiff,Nat.reduceAdd,Z1]<;>rfl)]
   ·have F2:(((i+1:Nat):Int)<(L.length:Int))=False:=eq_false hlt
    rw [hns,diff] at ih
    generalize keep (decide (d0 > 0)) (decide (d1+t > 0))=now at *
    cases now<;>cases ins<;>simp only [ZbT,ZbM,ZbS,Zbm,Zai,zj,if_true,if_false,ZaH,OL] at ih<;>simp only [pq,F1,hx,hi1,W0,W1,W2,I0,I1,IN0,IN1,P3,jd,aC hi,zc,Zae,zb,zd,ze,F2,e1,aN,Nat.reduceMul,Nat.reduceBEq,Nat.reduceLT,Nat.reduceLeDiff,reduceCtorEq,Nat.reduceEqDiff,Nat.reduceAdd,Z1]<;>rw [ih _ (by simp only [hi1,yE,Zap,Zao,aU,aN,Nat.reduceMul,Nat.reduceBEq,Nat.reduceLT,Nat.reduceLeDiff,reduceCtorEq,Nat.reduceEqDiff,Nat.reduceAdd,Z1]<;>rfl)]
 ·intro rb
  simp only [pq,Zar,aN,Nat.reduceMul,Nat.reduceBEq,Nat.reduceLT,Nat.reduceLeDiff,reduceCtorEq,Nat.reduceEqDiff,Nat.reduceAdd,Z1]
def setOf (keep:Bool→Bool→Bool)(a b:List bf):List bf:=ext (fun s=>keep (nC a s) (nC b s)) 4096
theorem OM {α:Type}{P:α→Prop}{a b:α}(ha:P a)(hb:P b):∀ l∈[a,b],P l:=by
 intro l hl
 simp only [ZaJ,Zd4,or_false] at hl
 rcases hl with rfl|rfl
 ·exact ha
 ·exact hb
theorem Ug {i s:Nat}{l m:List End}(h:l.Perm m):dep i s l=dep i s m:=by
 induction h with
 |nil=>rfl
 |cons x _ ih=>simp only [dep,ih]
 |swap x y l=>simp only [dep];omega
 |trans _ _ h1 h2=>exact h1.trans h2
theorem agE {i:Nat}{l m:List End}(h:l.Perm m):tot i l=tot i m:=by
 induction h with
 |nil=>rfl
 |cons x _ ih=>simp only [tot,ih]
 |swap x y l=>simp only [tot];omega
 |trans _ _ h1 h2=>exact h1.trans h2
theorem wo (i:Nat)(e:bf)(l:List bf):fZ i (e::l)=(if (wX e).2.2 then [⟨(wX e).1.toNat,i,1⟩,⟨(wX e).2.1.toNat,i,-1⟩] else [])++fZ i l:=by simp [fZ]
theorem uN {i:Nat}:∀ {l:List bf} {x:End},x∈fZ i l→((x.step=1∨x.step=-1)∧x.pos≤4096)∧x.list=i
 |[],x,h=>by simp [fZ] at h
 |e::l,x,h=>by
  rw [wo] at h
  rcases ZaB.1 h with h|h
  ·cases hw:(wX e).2.2 with
   |false=>rw [hw] at h;simp at h
   |true =>
    obtain ⟨n,m,hnm,h1,h2,-⟩:=OJ hw
    rw [hnm] at h
    simp only [if_true,Zav,ZaJ,Zd4,or_false] at h
    rcases h with rfl|rfl
    ·exact ⟨⟨.inl rfl,by simp only;omega⟩,rfl⟩
    ·exact ⟨⟨.inr rfl,h2⟩,rfl⟩
  ·exact uN h
theorem OO {i j:Nat}:∀ l:List bf,tot j (fZ i l)=0
 |[]=>rfl
 |e::l=>by
  rw [wo,BN,OO l]
  split
  ·simp only [tot];split<;>omega
  ·rfl
theorem Dz {i j s:Nat}(h:i≠j):∀ l:List bf,dep j s (fZ i l)=0
 |[]=>rfl
 |e::l=>by
  rw [wo,yZ,Dz h l]
  split
  ·simp [dep,h]
  ·rfl
theorem OQ {i s:Nat}(hs:s<4096):∀ l:List bf,0≤dep i s (fZ i l)∧(dep i s (fZ i l) > 0 ↔ nC l s=true)
 |[]=>by simp [fZ,dep,nC]
 |e::l=>by
  obtain ⟨h1,h2⟩:=OQ (i:=i) hs l
  rw [wo,yZ]
  have h3:nC (e::l) s=(tq e s || nC l s):=rfl
  rw [h3]
  cases hw:(wX e).2.2 with
  |false =>
   rw [agA hw hs]
   simp only [zj,if_false,dep,Int.zero_add,Zbj]
   exact ⟨h1,h2⟩
  |true =>
   obtain ⟨n,m,hnm,g1,g2,g3⟩:=OJ hw
   have g4:=g3 s hs
   rw [hnm]
   simp only [if_true,Zav,dep,true_and]
   cases hin:tq e s with
   |false =>
    rw [Zbj,← h2]
    have:¬ (n≤s∧s<m):=fun h=>by rw [g4.2 h] at hin;cases hin
    split<;>split<;>omega
   |true =>
    obtain ⟨k1,k2⟩:=g4.1 hin
    rw [if_pos k1,if_neg (by omega)]
    simp only [Zb0,iff_true]
    omega
theorem agF:∀ {l:List End},(∀ i j:Nat,i<j→j<l.length→¬ l[j]!.pos<l[i]!.pos)→Asc l
 |[],_=>trivial
 |[x],_=>trivial
 |x::y::l,h=>by
  refine ⟨?_,agF fun i j hij hj=>?_⟩
  ·have:=h 0 1 (by omega) (by simp)
   simp at this
   omega
  ·have:=h (i+1) (j+1) (by omega) (by simp at hj ⊢;omega)
   simpa using this
theorem abk {keep:Bool→Bool→Bool}(hk:keep false false=false)(a b:List bf):Dn keep (mg [a,b]) 0 0 0 false=setOf keep a b:=by
 obtain ⟨h1,h2,h3⟩:=Ac (dF 0 [a,b])
 have hr:dF 0 [a,b]=fZ 0 a++fZ 1 b:=by simp [dF]
 have hmem:∀ x∈mg [a,b],x.pos≤4096:=fun x hx=>by
  have:=h1.mem_iff.1 hx
  rw [hr] at this
  rcases ZaB.1 this with q|q
  ·exact (uN q).1.2
  ·exact (uN q).1.2
 have ht:∀ j,tot j (mg [a,b])=0:=fun j=>by
  unfold mg
  rw [agE h1,hr,BN,OO,OO];rfl
 have hasc:Asc (mg [a,b]):=agF fun i j hij hj=>h3 i j hij (by unfold mg at hj;omega)
 rw [aft hk hasc hmem (ht 0) (ht 1)]
 unfold setOf
 apply oG
 intro s hs
 unfold lq mg
 rw [Ug h1,Ug h1,hr,yZ,yZ,Dz (i:=1) (j:=0) (by decide),Dz (i:=0) (j:=1) (by decide),Int.add_zero,Int.zero_add]
 have e1:=(OQ (i:=0) hs a).2
 have e2:=(OQ (i:=1) hs b).2
 have f1:decide (dep 0 s (fZ 0 a) > 0)=nC a s:=by
  cases h:nC a s
  ·exact decide_eq_false fun q=>by rw [e1.1 q] at h;cases h
  ·exact decide_eq_true (e1.2 h)
 have f2:decide (dep 1 s (fZ 1 b) > 0)=nC b s:=by
  cases h:nC b s
  ·exact decide_eq_false fun q=>by rw [e2.1 q] at h;cases h
  ·exact decide_eq_true (e2.2 h)
 rw [f1,f2]
set_option maxRecDepth 20000 in
theorem Yq {keep:Bool→Bool→Bool}(h0:keep false false=false){kf:Nat}(hk:∀ p q,cal env kf [.bool p,.bool q]=some [(.bool (keep p q),false)]){a b:List bf}(ha:nU a)(hb:nU b)(la:a.length≤10000)(lb:b.length≤10000) :
  iter env 256 [.cu [.list 2 (a.map aU)] 0,.cu [.list 2 (b.map aU)] 0,.cu [.func kf []] 0] none=some (yE (setOf keep a b)):=by
 have hlim:lim=1073741824:=rfl
 obtain ⟨h1,h2,h3⟩:=Ac (dF 0 [a,b])
 have hr:dF 0 [a,b]=fZ 0 a++fZ 1 b:=by simp [dF]
 have hp:=tu (n:=10000) [a,b] 0 (OM la lb)
 have e1:=aoJ (ls:=[a,b]) (OM ha hb) (OM la lb) (by simp) h2
 have hE:(mg [a,b]).length≤1000000:=by unfold mg;rw [h2];simp at hp;omega
 have hm:∀ x∈mg [a,b],((x.step=1∨x.step=-1)∧x.pos≤4096)∧x.list<2:=fun x hx=>by
  have:=h1.mem_iff.1 hx
  rw [hr] at this
  rcases ZaB.1 this with q|q
  ·have:=uN q;exact ⟨this.1,by omega⟩
  ·have:=uN q;exact ⟨this.1,by omega⟩
 have hres:=(agD keep (mg [a,b])).trans (abk h0 a b)
 simp only [Zap,Zao,bT] at e1
 have L2:(2≤lim)=True:=eq_true (by omega)
 rw [qL anH rfl rfl]
 have hy:zU 80 [.cu [.list 2 (a.map aU)] 0,.cu [.list 2 (b.map aU)] 0,.cu [.func kf []] 0] none=⟨sl 80 [(0,.oM),(1,.pv (.cu [.list 2 (a.map aU)] 0)),(2,.pv (.cu [.list 2 (b.map aU)] 0)),(3,.pv (.cu [.func kf []] 0))],[],[],some none⟩:=rfl
 simp only [SY]
 rw [hy]
 simp only [e1,L2,zb,aN,Nat.reduceMul,Nat.reduceBEq,Nat.reduceLT,Nat.reduceLeDiff,reduceCtorEq,Nat.reduceEqDiff,Nat.reduceAdd,Z1]
 rw [akp hk hm hE (by simp only [aN,Nat.reduceMul,Nat.reduceBEq,Nat.reduceLT,Nat.reduceLeDiff,reduceCtorEq,Nat.reduceEqDiff,Nat.reduceAdd,Z1]<;>rfl)]
 rw [hres]
 rfl
theorem aoM {g:Nat}{caps:List PV}{l:List bf}(hi:iter env g caps none=some (yE l))(hl:l.length≤1000000):cal env 255 [.lV 2,.func g caps]=some [(.list 2 (l.map aU),true)]:=by
 have hlim:lim=1073741824:=rfl
 rw [aj anG rfl];simp only [SX];simp only [start,aH,aK,aF,aJ,aA,aB,aG,aI,Nat.reduceAdd,Nat.reduceSub]
 simp only [aY,reduceCtorEq,Nat.reduceEqDiff,Nat.reduceAdd,Nat.reduceLT,Nat.reduceLeDiff,Z1]
 rw [yX (env:=env) (fun j=>[⟨false,[.row 2 ((l.take j).map aU)]⟩]) (xs:=yE l) rfl hi rfl ?_]
 ·simp only [yE,zb,ZaL,rH,aY,reduceCtorEq,Nat.reduceEqDiff,Nat.reduceAdd,Nat.reduceLT,Nat.reduceLeDiff,Z1]
 ·intro j x hx sl0
  simp only [yE,zc,Zaq] at hx
  obtain ⟨e,he,rfl⟩:=hx
  have hj:=(za.1 he).1
  have F3:((l.take j).length+1≤lim)=True:=eq_true (by rw [Zac];omega)
  have ht:l.take (j+1)=l.take j++[e]:=by rw [ZbW,he];rfl
  rw [ht]
  refine ⟨?_,?_⟩
  rotate_left
  ·simp only [SS,SV,F3,aU,ZaC,Zap,Zao,rH,aY,reduceCtorEq,Nat.reduceEqDiff,Nat.reduceAdd,Nat.reduceLT,Nat.reduceLeDiff,Z1]
   rfl
theorem agG {g:Nat}{caps:List PV}{l:List bf}(hi:iter env g caps none=some (yE l))(hl:l.length≤1000000):cal env 213 [.func g caps]=some [(.list 2 (l.map aU),true)]:=by
 have e1:=aoM hi hl
 rw [aj anh rfl];simp only [RX];simp only [start,aH,aK,aF,aJ,aA,aB,aG,aI,Nat.reduceAdd,Nat.reduceSub]
 simp only [e1,aY,reduceCtorEq,Nat.reduceEqDiff,Nat.reduceAdd,Nat.reduceLT,Nat.reduceLeDiff,Z1]
def orB (p q:Bool):Bool:=p || q
def OT (p q:Bool):Bool:=p&&q
theorem abl (l:List bf)(i:Nat):(wI l i).length≤l.length+1:=by
 rcases jJ l with rfl|⟨p,x,rfl⟩
 ·simp [wI]
 ·rw [iy];split<;>simp
theorem wu (p:Nat→Bool):∀ n,(ext p n).length≤n
 |0=>zg _
 |n+1=>by
  rw [nK]
  have:=wu p n
  have:=abl (ext p n) n
  split<;>omega
theorem DC (keep:Bool→Bool→Bool)(a b:List bf):(setOf keep a b).length≤4096:=wu _ _
theorem agH {a b:List PV}{kf:Nat}:cal env 214 [.list 2 a,.list 2 b,.func kf []]=some [(.func 256 [.cu [.list 2 a] 0,.cu [.list 2 b] 0,.cu [.func kf []] 0],false)]:=by
 rw [aj ani rfl];simp only [RY,aQ,Nat.reduceBEq,Nat.reduceLeDiff,Nat.reduceAdd,zd,ze]
 simp only [aN,Nat.reduceMul,Nat.reduceBEq,Nat.reduceLT,Nat.reduceLeDiff,reduceCtorEq,Nat.reduceEqDiff,Nat.reduceAdd,Z1]
theorem aoN (p q:Bool):cal env 243 [.bool p,.bool q]=some [(.bool (orB p q),false)]:=by
 cases p<;>cases q<;>(rw [aj anz rfl];simp only [SI,aQ,Nat.reduceBEq,Nat.reduceLeDiff,Nat.reduceAdd,zd,ze];simp only [aN,Nat.reduceMul,Nat.reduceBEq,Nat.reduceLT,Nat.reduceLeDiff,reduceCtorEq,Nat.reduceEqDiff,Nat.reduceAdd,Z1]<;>rfl)
theorem aoO (p q:Bool):cal env 215 [.bool p,.bool q]=some [(.bool (OT p q),false)]:=by
 cases p<;>cases q<;>(rw [aj anj rfl];simp only [RZ,aQ,Nat.reduceBEq,Nat.reduceLeDiff,Nat.reduceAdd,zd,ze];simp only [aN,Nat.reduceMul,Nat.reduceBEq,Nat.reduceLT,Nat.reduceLeDiff,reduceCtorEq,Nat.reduceEqDiff,Nat.reduceAdd,Z1]<;>rfl)
theorem agI {a b:List bf}(ha:nU a)(hb:nU b)(la:a.length≤10000)(lb:b.length≤10000):cal env 180 [.list 2 (a.map aU),.list 2 (b.map aU)]=some [(.list 2 ((setOf orB a b).map aU),true)]:=by
 have e1:=agH (a:=a.map aU) (b:=b.map aU) (kf:=243)
 have hi:=Yq (keep:=orB) rfl (kf:=243) (fun p q=>aoN p q) ha hb la lb
 have hlen:=DC orB a b
 have e2:=agG hi (by omega)
 rw [aj am8 rfl];simp only [RI,aQ,Nat.reduceBEq,Nat.reduceLeDiff,Nat.reduceAdd,zd,ze]
 simp only [e1,e2,aN,Nat.reduceMul,Nat.reduceBEq,Nat.reduceLT,Nat.reduceLeDiff,reduceCtorEq,Nat.reduceEqDiff,Nat.reduceAdd,Z1]
--+
theorem aoP {a b:List bf}(ha:nU a)(hb:nU b)(la:a.length≤10000)(lb:b.length≤10000):cal env 137 [.list 2 (a.map aU),.list 2 (b.map aU)]=some [(.list 2 ((setOf OT a b).map aU),true)]:=by
 have e1:=agH (a:=a.map aU) (b:=b.map aU) (kf:=215)
 have hi:=Yq (keep:=OT) rfl (kf:=215) (fun p q=>aoO p q) ha hb la lb
 have hlen:=DC OT a b
 have e2:=agG hi (by omega)
 rw [aj amR rfl];simp only [Ri,aQ,Nat.reduceBEq,Nat.reduceLeDiff,Nat.reduceAdd,zd,ze]
 simp only [e1,e2,aN,Nat.reduceMul,Nat.reduceBEq,Nat.reduceLT,Nat.reduceLeDiff,reduceCtorEq,Nat.reduceEqDiff,Nat.reduceAdd,Z1]
theorem agJ:nU []:=fun x hx=>by cases hx
def E8 (l:List bf):List bf:=setOf orB l []
def jS (l:List bf):Int:=(l.map fun x=>x.count).sum
theorem y9 (l:List bf)(x:bf):jS (l++[x])=jS l+x.count:=by simp [jS]
theorem yx (p:Nat→Bool)(n:Nat):(∀ x∈ext p n,0≤x.start∧1≤x.count∧x.start+x.count≤(n:Int)):=by
 induction n with
 |zero=>intro x hx;cases hx
 |succ n ih =>
  rw [nK]
  split
  ·rcases jJ (ext p n) with e|⟨pre,y,e⟩
   ·rw [e]
    intro x hx
    have:wI [] n=[⟨(n:Int),1⟩]:=rfl
    rw [this] at hx
    simp only [Zat] at hx
    subst hx
    simp only;omega
   ·rw [e] at ih ⊢
    intro x hx
    rw [iy] at hx
    split at hx
    ·rcases ZaB.1 hx with h|h
     ·have:=ih x (by simp [h]);omega
     ·simp only [Zat] at h
      have:=ih y (by simp)
      subst h;simp only;omega
    ·rcases ZaB.1 hx with h|h
     ·have:=ih x h;omega
     ·simp only [Zat] at h
      subst h;simp only;omega
  ·intro x hx;have:=ih x hx;omega
theorem Fa (p:Nat→Bool):∀ n,jS (ext p n)=(((Zaw n).filter p).length:Int)
 |0=>rfl
 |n+1=>by
  have ih:=Fa p n
  rw [nK,List.range_succ,List.filter_append,zp]
  cases h:p n with
  |false=>rw [List.filter_cons_of_neg (by simp [h])];simpa using ih
  |true =>
   rw [List.filter_cons_of_pos h,List.filter_nil,if_pos rfl]
   have:jS (wI (ext p n) n)=jS (ext p n)+1:=by
    rcases jJ (ext p n) with e|⟨pre,y,e⟩
    ·rw [e];rfl
    ·rw [e,iy]
     split
     ·rw [y9,y9];simp only;omega
     ·rw [y9]
   rw [this,ih];simp
theorem agK {l:List bf}(h:∀ x∈l,0≤x.count∧x.count≤4096):∀ i,0≤jS (l.take i)∧jS (l.take i)≤4096*(l.take i).length:=by
 intro i
 have:∀ m:List bf,(∀ x∈m,0≤x.count∧x.count≤4096)→0≤jS m∧jS m≤4096*m.length:=by
  intro m
  induction m with
  |nil=>intro _;simp [jS]
  |cons x m ih =>
   intro hm
   have h1:=hm x (by simp)
   have h2:=ih fun y hy=>hm y (by simp [hy])
   have:jS (x::m)=x.count+jS m:=by simp [jS]
   rw [this,zd]
   omega
 exact this _ fun x hx=>h x (List.mem_of_mem_take hx)
theorem akq {l:List bf}(hl:l.length≤10000)(hc:∀ x∈l,0≤x.count∧x.count≤4096){st:St}(h:st.head [3,7,8,9] st.boxes.length=some ⟨sl 19 [(3,.pv (.int .i64 (jS (l.take ((0:Nat)))))),(7,.row 2 (l.map aU)),(8,.pv (.int .i64 l.length)),(9,.pv (.int .i64 (0:Nat)))],[],[],none⟩) :
  den env GH st=some (.normal,⟨sl 19 [(2,.any),(3,.pv (.int .i64 (jS l)))],[],[],none⟩):=by
 unfold GH
 refine bG (env:=env) (l.length) (fun i=>⟨sl 19 [(3,.pv (.int .i64 (jS (l.take (i))))),(7,.row 2 (l.map aU)),(8,.pv (.int .i64 l.length)),(9,.pv (.int .i64 i))],[],[],none⟩) (fun i=>some (.normal,⟨sl 19 [(2,.any),(3,.pv (.int .i64 (jS l)))],[],[],none⟩)) h (fun _=>rfl) (fun _=>by simp only [aQ,dY,Nat.reduceMul,Nat.reduceBEq,Nat.reduceLT,Nat.reduceLeDiff,Nat.reduceAdd,decide_true,Zai,Zaf]) ?_ ?_
 ·intro i rb hi ih
  have hlim:lim=1073741824:=rfl
  have hi1:=bH hi (by omega)
  have F1:((i:Int)<(l.length:Int))=True:=eq_true (by omega)
  have hx:l[i]?=some l[i]:=ZD hi
  have ht:=Aa hi
  obtain ⟨t1,t2⟩:=agK hc i
  have hcx:=hc _ (Zad hi)
  have hlt:(l.take i).length≤l.length:=by rw [Zac];omega
  generalize l[i]=x at *
  have P2:part [PV.int .i64 x.start,.int .i64 x.count] 0 (some 2)=some (.agg [.int .i64 x.start,.int .i64 x.count]):=rfl
  have W:IntKind.i64.wrap (jS (l.take i)+x.count)=jS (l.take i)+x.count:=aP (by omega)
  simp only [Gz,F1,hx,aU,P2,W,aC hi,zc,Zae,zb,aN,Nat.reduceMul,Nat.reduceBEq,Nat.reduceLT,Nat.reduceLeDiff,reduceCtorEq,Nat.reduceEqDiff,Nat.reduceAdd,Z1]
  rw [ih _ (by simp only [hi1,ht,y9,aN,Nat.reduceMul,Nat.reduceBEq,Nat.reduceLT,Nat.reduceLeDiff,reduceCtorEq,Nat.reduceEqDiff,Nat.reduceAdd,Z1]<;>rfl)]
 ·intro rb
  simp only [Gz,Zar,zb,ZaL,aN,Nat.reduceMul,Nat.reduceBEq,Nat.reduceLT,Nat.reduceLeDiff,reduceCtorEq,Nat.reduceEqDiff,Nat.reduceAdd,Z1]
theorem aoQ {l:List bf}(ho:nU l)(hl:l.length≤10000):cal env 100 [.list 2 (l.map aU)]=some [(.int .i64 (jS (E8 l)),false)]:=by
 have e1:=agI ho agJ hl (by simp)
 simp only [Zao] at e1
 have h1:=DC orB l []
 have h2:=yx (fun s=>orB (nC l s) (nC [] s)) 4096
 unfold E8
 have hc:∀ x∈setOf orB l [],0≤x.count∧x.count≤4096:=fun x hx=>by have:=h2 x hx;omega
 generalize setOf orB l []=r at *
 rw [aj amK rfl];simp only [Q8,aQ,Nat.reduceBEq,Nat.reduceLeDiff,Nat.reduceAdd,zd,ze]
 simp only [e1,zb,aN,Nat.reduceMul,Nat.reduceBEq,Nat.reduceLT,Nat.reduceLeDiff,reduceCtorEq,Nat.reduceEqDiff,Nat.reduceAdd,Z1]
 rw [akq (l:=r) (by omega) hc (by simp only [Zba,jS,Zao,List.sum_nil,aN,Nat.reduceMul,Nat.reduceBEq,Nat.reduceLT,Nat.reduceLeDiff,reduceCtorEq,Nat.reduceEqDiff,Nat.reduceAdd,Z1]<;>rfl)]
 simp only [e1,zb,aN,Nat.reduceMul,Nat.reduceBEq,Nat.reduceLT,Nat.reduceLeDiff,reduceCtorEq,Nat.reduceEqDiff,Nat.reduceAdd,Z1]
def zo (b:Bm)(l:List bf):Bm:=l.foldl (fun b e=>Ai Pj b e) b
def frE:Bm→List bf→Int
 |_,[]=>0
 |b,e::l=>if EZ b e=0 then frE (Ai Pj b e) l else EZ b e
def fxE (n:Int)(l:List bf):Int:=if newE n=0 then frE (uI n) l else newE n
def fxO (n:Int)(l:List bf):Bm:=if fxE n l=0 then zo (uI n) l else ⟨0,[]⟩
theorem agL {b:Bm}{l:List bf}{k:Nat}(h:k<l.length):frE (zo b (l.take k)) (l.drop k)=if EZ (zo b (l.take k)) l[k]=0 then frE (zo b (l.take (k+1))) (l.drop (k+1)) else EZ (zo b (l.take k)) l[k]:=by
 rw [zt h,frE]
 congr 2
 unfold zo
 rw [ZaG h,ZbJ]
 rfl
def LY (n:Nat)(b0:Bm)(l:List bf)(e:Int):Option (Ex×St) :=
 if e=0 then some (.normal,⟨sl n [(4,.aX 0 0),(5,.any),(6,.aX 1 0)],[⟨false,[.pv (.int .i64 0),.row 1 []]⟩,⟨false,[.pv (.int .i64 (zo b0 l).size),.pv (.list 1 ((zo b0 l).ws.map eW))]⟩],[],none⟩)
 else some (.ret,⟨sl n [(4,.aX 0 0),(5,.pv (.int .i64 e)),(6,.aX 1 0)],[⟨false,[.pv (.int .i64 0),.pv (.list 1 [])]⟩,⟨false,[.pv (.int .i64 0),.pv (.list 1 [])]⟩],[],none⟩)
theorem Yr {l:List bf}{b0:Bm}(hl:l.length≤lim){st:St}(h:st.head [1,4,6,19,20,21] st.boxes.length=some ⟨sl 37 [(1,.pv (.list 2 (l.map aU))),(4,.aX 0 0),(6,.aX 1 0),(19,.pv (.list 2 (l.map aU))),(20,.pv (.int .i64 l.length)),(21,.pv (.int .i64 (0:Nat)))],[⟨false,[.pv (.int .i64 0),.row 1 []]⟩,⟨false,[.pv (.int .i64 (zo b0 (l.take ((0:Nat)))).size),.pv (.list 1 ((zo b0 (l.take ((0:Nat)))).ws.map eW))]⟩],[],none⟩) :
  den env GL st=LY 37 b0 l (frE (zo b0 (l.take ((0:Nat)))) (l.drop ((0:Nat)))):=by
 unfold GL
 refine bG (env:=env) (nb:=2) (l.length) (fun i=>⟨sl 37 [(1,.pv (.list 2 (l.map aU))),(4,.aX 0 0),(6,.aX 1 0),(19,.pv (.list 2 (l.map aU))),(20,.pv (.int .i64 l.length)),(21,.pv (.int .i64 i))],[⟨false,[.pv (.int .i64 0),.row 1 []]⟩,⟨false,[.pv (.int .i64 (zo b0 (l.take (i))).size),.pv (.list 1 ((zo b0 (l.take (i))).ws.map eW))]⟩],[],none⟩) (fun i=>LY 37 b0 l (frE (zo b0 (l.take (i))) (l.drop (i)))) h (fun _=>rfl) (fun _=>by simp only [aQ,dY,Nat.reduceMul,Nat.reduceBEq,Nat.reduceLT,Nat.reduceLeDiff,Nat.reduceAdd,decide_true,Zai,Zaf]) ?_ ?_
 ·intro i rb hi ih
  have hi1:=bH hi hl
  have F1:((i:Int)<(l.length:Int))=True:=eq_true (by omega)
  have eA:∀ b:Bm,y7 b=.agg [.int .i64 b.size,.list 1 (b.ws.map eW)]:=fun _=>rfl
  have eX:∀ e:bf,aU e=.agg [.int .i64 e.start,.int .i64 e.count]:=fun _=>rfl
  have P2:∀ a b:PV,part [a,b] 0 (some 2)=some (.agg [a,b]):=fun _ _=>rfl
  have e2:=af0 (b:=zo b0 (l.take i)) (e:=l[i])
  have hx:(l.map aU)[i]?=some (aU l[i]):=by rw [zc,ZD hi];rfl
  have hs:zo b0 (l.take (i+1))=Ai Pj (zo b0 (l.take i)) l[i]:=by unfold zo;rw [ZaG hi,ZbJ];rfl
  rw [agL hi]
  by_cases c0:EZ (zo b0 (l.take i)) l[i]=0
  ·have Z:((0:Int) != 0)=false:=rfl
   rw [if_pos c0]
   rw [c0,← hs] at e2
   generalize zo b0 (l.take i)=p at *
   generalize zo b0 (l.take (i+1))=q at *
   rw [eA,eA,eX] at e2
   rw [eX] at hx
   simp only [Bj,F1,Z,hx,e2,P2,aC hi,zb,aN,Nat.reduceMul,Nat.reduceBEq,Nat.reduceLT,Nat.reduceLeDiff,reduceCtorEq,Nat.reduceEqDiff,Nat.reduceAdd,Z1]
   rw [ih _ (by simp only [hi1,aN,Nat.reduceMul,Nat.reduceBEq,Nat.reduceLT,Nat.reduceLeDiff,reduceCtorEq,Nat.reduceEqDiff,Nat.reduceAdd,Z1]<;>rfl)]
  ·have Z:(EZ (zo b0 (l.take i)) l[i] != 0)=true:=by simpa using c0
   rw [if_neg c0]
   unfold LY
   rw [if_neg c0]
   have hz:Ai Pj (zo b0 (l.take i)) l[i]=⟨0,[]⟩:=by unfold Ai;rw [if_neg c0]
   have hz2:y7 ⟨0,[]⟩=.agg [.int .i64 0,.list 1 []]:=rfl
   rw [hz,hz2] at e2
   generalize zo b0 (l.take i)=p at *
   rw [eA,eX] at e2
   rw [eX] at hx
   simp only [Bj,F1,Z,hx,e2,P2,aC hi,zb,aN,Nat.reduceMul,Nat.reduceBEq,Nat.reduceLT,Nat.reduceLeDiff,reduceCtorEq,Nat.reduceEqDiff,Nat.reduceAdd,Z1]
 ·intro rb
  unfold LY
  rw [ZaO,ZaL,frE,if_pos rfl]
  simp only [Bj,Zar,aN,Nat.reduceMul,Nat.reduceBEq,Nat.reduceLT,Nat.reduceLeDiff,reduceCtorEq,Nat.reduceEqDiff,Nat.reduceAdd,Z1]
theorem aoR {l:List bf}{n:Int}(hl:l.length≤lim):cal env 116 [.int .i64 n,.list 2 (l.map aU)]=some [(y7 (fxO n l),false),(.int .i64 (fxE n l),false)]:=by
 have e0:=afT (n:=n)
 have eA:∀ b:Bm,y7 b=.agg [.int .i64 b.size,.list 1 (b.ws.map eW)]:=fun _=>rfl
 have hz2:y7 ⟨0,[]⟩=.agg [.int .i64 0,.list 1 []]:=rfl
 have P2:∀ a b:PV,part [a,b] 0 (some 2)=some (.agg [a,b]):=fun _ _=>rfl
 have Z:((0:Int) != 0)=false:=rfl
 by_cases c0:newE n=0
 ·have hE:fxE n l=frE (uI n) l:=by unfold fxE;rw [if_pos c0]
  unfold fxO
  rw [hE]
  rw [c0] at e0
  rw [eA] at e0
  generalize hb:uI n=b0 at *
  by_cases c1:frE b0 l=0
  ·rw [if_pos c1,c1,eA]
   rw [aj Xa rfl];simp only [GN,aQ,Nat.reduceBEq,Nat.reduceLeDiff,Nat.reduceAdd,zd,ze]
   simp only [e0,Z,P2,zb,aN,Nat.reduceMul,Nat.reduceBEq,Nat.reduceLT,Nat.reduceLeDiff,reduceCtorEq,Nat.reduceEqDiff,Nat.reduceAdd,Z1]
   rw [Yr (l:=l) (b0:=b0) hl]
   rotate_left
   ·rw [Zba]
    simp only [aQ,dY,Nat.reduceMul,Nat.reduceBEq,Nat.reduceLT,Nat.reduceLeDiff,Nat.reduceAdd,decide_true,Zai,Zaf]<;>rfl
   ·rw [Zba,ZaE]
    unfold LY
    rw [show zo b0 []=b0 from rfl,if_pos c1]
    simp only [e0,Z,P2,zb,aN,Nat.reduceMul,Nat.reduceBEq,Nat.reduceLT,Nat.reduceLeDiff,reduceCtorEq,Nat.reduceEqDiff,Nat.reduceAdd,Z1]
  ·rw [if_neg c1,hz2]
   rw [aj Xa rfl];simp only [GN,aQ,Nat.reduceBEq,Nat.reduceLeDiff,Nat.reduceAdd,zd,ze]
   simp only [e0,Z,P2,zb,aN,Nat.reduceMul,Nat.reduceBEq,Nat.reduceLT,Nat.reduceLeDiff,reduceCtorEq,Nat.reduceEqDiff,Nat.reduceAdd,Z1]
   rw [Yr (l:=l) (b0:=b0) hl]
   rotate_left
   ·rw [Zba]
    simp only [aQ,dY,Nat.reduceMul,Nat.reduceBEq,Nat.reduceLT,Nat.reduceLeDiff,Nat.reduceAdd,decide_true,Zai,Zaf]<;>rfl
   ·rw [Zba,ZaE]
    unfold LY
    rw [show zo b0 []=b0 from rfl,if_neg c1]
    simp only [e0,Z,P2,zb,aN,Nat.reduceMul,Nat.reduceBEq,Nat.reduceLT,Nat.reduceLeDiff,reduceCtorEq,Nat.reduceEqDiff,Nat.reduceAdd,Z1]
 ·have hE:fxE n l=newE n:=by unfold fxE;rw [if_neg c0]
  unfold fxO
  rw [hE,if_neg c0,hz2]
  have Zn:(newE n != 0)=true:=by simpa using c0
  rw [eA] at e0
  rw [aj Xa rfl];simp only [GN,aQ,Nat.reduceBEq,Nat.reduceLeDiff,Nat.reduceAdd,zd,ze]
  simp only [e0,Zn,P2,zb,aN,Nat.reduceMul,Nat.reduceBEq,Nat.reduceLT,Nat.reduceLeDiff,reduceCtorEq,Nat.reduceEqDiff,Nat.reduceAdd,Z1]
theorem agM (b:Bm):(JO b).length≤4096:=by
 unfold JO
 split
 ·rename_i c
  have h:=kL c
  have:=wu (bit b.ws) b.size.toNat
  unfold Oy
  omega
 ·simp
def ku (i:iZ):List Nat:=if gB i then encI i.size++encI i.bg++zZ (JO i.bm) else []
theorem agN {i:iZ}(hl:i.act.length≤lim):cal env 90 [qg i]=some [(.list 1 ((ku i).map eY),true)]:=by
 have e0:=Xj (i:=i) hl
 have E5:∀ i:iZ,qg i=.agg [.int .i64 i.size,.int .i64 i.bg,.list 1 (i.act.map eI),.int .i64 i.bm.size,.list 1 (i.bm.ws.map eW)]:=fun _=>rfl
 have P5:∀ a b c d e:PV,part [a,b,c,d,e] 0 (some 5)=some (.agg [a,b,c,d,e]):=fun _ _ _ _ _=>rfl
 have Z0:((0:Int) != 0)=false:=rfl
 have Z3:((3:Int) != 0)=true:=rfl
 unfold af6 at e0
 unfold ku
 cases c0:gB i with
 |false =>
  rw [c0,if_neg (by decide)] at e0
  rw [if_neg (by decide)]
  rw [E5] at e0 ⊢
  rw [aj alu rfl];simp only [aaH,aQ,Nat.reduceBEq,Nat.reduceLeDiff,Nat.reduceAdd,zd,ze]
  simp only [e0,Z3,P5,aN,Nat.reduceMul,Nat.reduceBEq,Nat.reduceLT,Nat.reduceLeDiff,reduceCtorEq,Nat.reduceEqDiff,Nat.reduceAdd,Z1]
 |true =>
  rw [c0,if_pos rfl] at e0
  rw [if_pos rfl]
  have e1:=agu (l:=[]) (n:=i.size) (by simp)
  have q1:=nO i.size
  have q2:=nO i.bg
  have e2:=agu (l:=encI i.size) (n:=i.bg) (by omega)
  have e3:=aok (b:=i.bm)
  have e4:=aoz (l:=encI i.size++encI i.bg) (es:=JO i.bm) (by rw [zp];omega) (by have:=agM i.bm;omega)
  have eA:∀ b:Bm,y7 b=.agg [.int .i64 b.size,.list 1 (b.ws.map eW)]:=fun _=>rfl
  rw [Zao,ZaW] at e1
  rw [eA] at e3
  rw [E5] at e0 ⊢
  rw [aj alu rfl];simp only [aaH,aQ,Nat.reduceBEq,Nat.reduceLeDiff,Nat.reduceAdd,zd,ze]
  simp only [e0,e1,e2,e3,e4,Z0,P5,eF,aN,Nat.reduceMul,Nat.reduceBEq,Nat.reduceLT,Nat.reduceLeDiff,reduceCtorEq,Nat.reduceEqDiff,Nat.reduceAdd,Z1]
def Yt (e:bf):Prop:=(0≤e.start∧e.start≤(most:Int))∧(0≤e.count∧e.count≤(most:Int))
theorem aoS {e:bf}(h:Yt e):okE e:=by
 have:most=9007199254740991:=rfl
 unfold Yt at h
 unfold okE
 omega
theorem Yu {l:List Nat}(h:(dL l).1=0):(dQ l).length+1≤l.length:=by
 obtain ⟨h1,h2,_⟩:=LM h
 unfold dQ
 rw [ZaU]
 omega
theorem agO {l:List Nat}(h:(fM l).1=0):Yt (fM l).2.1∧(fM l).2.2.length+2≤l.length:=by
 unfold fM at h ⊢
 split at h
 ·rename_i c
  rw [if_pos c]
  simp only at h ⊢
  have h1:=Yu c
  have h2:=Yu h
  have m1:=LV l
  have m2:=LV (dQ l)
  unfold Yt
  simp only
  omega
 ·rename_i c
  simp only at h
  exact absurd h c
theorem Yv:∀ (k:Nat) (l:List Nat) (acc:List bf),(∀ e∈acc,Yt e)→(wQ k l acc).1=0→(∀ e∈(wQ k l acc).2.1,Yt e)∧2*(wQ k l acc).2.1.length≤l.length+2*acc.length
 |0,l,acc,ha,_=>⟨ha,by simp only [wQ];omega⟩
 |k+1,l,acc,ha,h=>by
  unfold wQ at h ⊢
  split at h
  ·rename_i c
   rw [if_pos c]
   obtain ⟨h1,h2⟩:=agO c
   obtain ⟨g1,g2⟩:=Yv k _ _ (by
    intro e he
    rcases ZaB.1 he with he|he
    ·exact ha e he
    ·rw [Zat.1 he];exact h1) h
   refine ⟨g1,?_⟩
   rw [zp] at g2
   simp only [List.length_singleton] at g2
   omega
  ·rename_i c
   exact absurd h c
theorem akr {l:List Nat}(h:(je l).1=0):(∀ e∈(je l).2.1,Yt e)∧2*(je l).2.1.length≤l.length:=by
 unfold je at h ⊢
 split at h
 ·rename_i c
  rw [if_pos c]
  unfold agx at h ⊢
  simp only at h ⊢
  rw [if_pos h]
  obtain ⟨g1,g2⟩:=Yv _ _ _ (by simp) h
  refine ⟨g1,?_⟩
  have:=jM l
  simp only [ze] at g2
  omega
 ·rename_i c
  simp only at h
  exact absurd h c
def uO (b:List Nat):Nat×Int×Int×List bf :=
 if (dL b).1=0 then
  if (dL (dQ b)).1=0 then
   if (je (dQ (dQ b))).1=0 then
    (if (je (dQ (dQ b))).2.2=[] then 0 else 3,(dL b).2.1,(dL (dQ b)).2.1,(je (dQ (dQ b))).2.1)
   else ((je (dQ (dQ b))).1,(dL b).2.1,(dL (dQ b)).2.1,[])
  else ((dL (dQ b)).1,0,0,[])
 else ((dL b).1,0,0,[])
theorem aks (b:List Nat):(∀ e∈(uO b).2.2.2,Yt e)∧2*(uO b).2.2.2.length≤b.length:=by
 unfold uO
 split
 ·split
  ·split
   ·rename_i c1 c2 c3
    obtain ⟨g1,g2⟩:=akr c3
    have h1:=jM b
    have h2:=jM (dQ b)
    refine ⟨g1,?_⟩
    simp only
    omega
   ·simp
  ·simp
 ·simp
theorem yA {n:Int}(h:0≤n∧n≤(most:Int))(rest:List Nat):dL (encI n++rest)=(0,n.toNat,(encI n).length)∧dQ (encI n++rest)=rest:=by
 have hm:most=9007199254740991:=rfl
 have hc:jW n=n.toNat:=by unfold jW;rw [if_neg (by omega)]
 have h1:dL (encI n++rest)=(0,n.toNat,(encI n).length):=by
  unfold encI
  rw [hc]
  exact akg (by omega) rest
 refine ⟨h1,?_⟩
 unfold dQ
 rw [h1]
 simp
theorem agP {e:bf}(h:Yt e)(rest:List Nat):fM (lu e++rest)=(0,e,rest):=by
 obtain ⟨h1,h2⟩:=yA h.1 (encI e.count++rest)
 obtain ⟨h3,h4⟩:=yA h.2 rest
 unfold fM lu
 rw [Zam,h1,h2,h3,h4]
 obtain ⟨s,c⟩:=e
 unfold Yt at h
 simp only at h ⊢
 rw [if_pos trivial]
 simp only [Prod.mk.injEq,bf.mk.injEq,true_and,and_true]
 omega
theorem Yw:∀ (es:List bf) (rest:List Nat) (acc:List bf),(∀ e∈es,Yt e)→wQ es.length (es.flatMap lu++rest) acc=(0,acc++es,rest)
 |[],rest,acc,_=>by simp [wQ]
 |e::es,rest,acc,h=>by
  have hp:=agP (h e (by simp)) (es.flatMap lu++rest)
  rw [zd,wQ,Zc4,Zam,hp]
  simp only
  rw [if_pos trivial,Yw es rest _ (fun x hx=>h x (by simp [hx]))]
  simp
theorem akt {es:List bf}(h:∀ e∈es,Yt e)(hl:es.length≤65536)(rest:List Nat):je (zZ es++rest)=(0,es,rest):=by
 have hm:most=9007199254740991:=rfl
 obtain ⟨h1,h2⟩:=yA (n:=(es.length:Int)) (by omega) (es.flatMap lu++rest)
 have hE:JU (encI (es.length:Int)++(es.flatMap lu++rest))=0:=by
  unfold JU
  rw [h1]
  simp only [Zav]
  rw [if_neg (by omega)]
 unfold zZ
 rw [Zam]
 unfold je
 rw [if_pos hE,h1,h2]
 simp only [Zav]
 rw [Yw es rest [] h]
 unfold agx
 simp
theorem agQ {s g:Int}{es:List bf}(hs:0≤s∧s≤(most:Int))(hg:0≤g∧g≤(most:Int))(h:∀ e∈es,Yt e)(hl:es.length≤65536):uO (encI s++encI g++zZ es)=(0,s,g,es):=by
 obtain ⟨h1,h2⟩:=yA hs (encI g++zZ es)
 obtain ⟨h3,h4⟩:=yA hg (zZ es)
 have h5:=akt h hl []
 rw [ZaH] at h5
 unfold uO
 rw [Zam,h1,h2,h3,h4,h5]
 simp only
 rw [if_pos trivial,if_pos trivial,if_pos trivial,if_pos trivial]
 simp only [Prod.mk.injEq,true_and,and_true]
 omega
theorem aku {size:Int}{e:bf}(h:uJ size e=true)(s:Nat):tq e s=decide (e.start≤(s:Int)∧(s:Int)<e.start+e.count):=by
 have h:=mM.1 h
 unfold tq
 rw [Zbu]
 simp only [ZZ,decide_eq_true_eq]
 omega
theorem alB:∀ (l:List bf) {b:Bm},okB b=true→(∀ e∈l,uJ b.size e=true)→frE b l=0∧okB (zo b l)=true∧(zo b l).size=b.size∧∀ s:Nat,(s:Int)<b.size→bit (zo b l).ws s=(bit b.ws s || nC l s)
 |[],b,h,_=>⟨rfl,h,rfl,fun s _=>by simp [zo,nC]⟩
 |e::l,b,h,hf=>by
  obtain ⟨k1,k2,k3,k4⟩:=Xl h (hf e (by simp))
  obtain ⟨g1,g2,g3,g4⟩:=alB l k2 (fun x hx=>by rw [k3];exact hf x (by simp [hx]))
  refine ⟨?_,g2,g3.trans k3,fun s hs=>?_⟩
  ·unfold frE
   rw [if_pos k1]
   exact g1
  ·have:=g4 s (by rw [k3];exact hs)
   show bit (zo (Ai Pj b e) l).ws s=_
   rw [this,k4 s hs,← aku (hf e (by simp)) s,Bool.or_assoc]
   rfl
theorem alC {n:Nat}{l:List bf}(hn:n≤4096)(h:∀ e∈l,0≤e.start∧1≤e.count∧e.start+e.count≤(n:Int)):fxE n l=0∧fxO n l=zo (uI n) l∧okB (fxO n l)=true∧(fxO n l).size=(n:Int)∧∀ s:Nat,s<n→bit (fxO n l).ws s=nC l s:=by
 obtain ⟨h1,h2,h3,h4⟩:=agj hn
 obtain ⟨g1,g2,g3,g4⟩:=alB l h2 (fun e he=>by
  obtain ⟨q1,q2,q3⟩:=h e he
  rw [h3]
  exact mM.2 (by omega))
 have e1:fxE n l=0:=by unfold fxE;rw [if_pos h1];exact g1
 have e2:fxO n l=zo (uI n) l:=by unfold fxO;rw [if_pos e1]
 rw [e2]
 refine ⟨e1,rfl,g2,g3.trans h3,fun s hs=>?_⟩
 rw [g4 s (by rw [h3];omega),h4 s,Zbj]
end Go.Proofs.YthccglceomoboaaGreatDoor.V
namespace Go.Proofs.YthccglceomoboaaGreatDoor
end Go.Proofs.YthccglceomoboaaGreatDoor
namespace Go.Proofs.YthccglceomoboaaGreatDoor.V
def mk (f:Nat→Bool):List Bool:=(Zaw 4096).map f
theorem I8 (l:List bf)(e:bf)(s:Nat):nC (l++[e]) s=(nC l s || tq e s):=by simp [nC]
def lN (size:Int):Int→List bf→Int
 |_,[]=>0
 |nx,e::l=>if e.count≤0 then 1 else if e.start<0∨e.count > size - e.start then 2 else if e.start<nx then 3 else lN size (e.start+e.count+1) l
def qh (l:List bf)(size:Int):Int:=if size<0∨4096<size then 2 else lN size 0 l
def Uh (l:List bf):Nat→Int
 |0=>0
 |i+1=>match l[i]? with
  |some e=>e.start+e.count+1
  |none=>0
theorem Ui {l:List bf}{i:Nat}{e:bf}(h:l[i]?=some e):Uh l (i+1)=e.start+e.count+1:=by
 show (match l[i]? with
  |some e=>e.start+e.count+1
  |none=>0)=_
 rw [h]
set_option maxRecDepth 20000 in
theorem akv {l:List bf}{size:Int}(hs:0≤size∧size≤4096)(ho:nU l)(hl:l.length≤10000){st:St}(h:st.head [0,1,5,14,15,16] st.boxes.length=some ⟨sl 49 [(0,.pv (.list 2 (l.map aU))),(1,.pv (.int .i64 size)),(5,.pv (.int .i64 (Uh l ((0:Nat))))),(14,.pv (.list 2 (l.map aU))),(15,.pv (.int .i64 l.length)),(16,.pv (.int .i64 (0:Nat)))],[],[],none⟩) :
  den env GI st=if lN size (Uh l ((0:Nat))) (l.drop ((0:Nat)))=0 then some (.normal,⟨sl 49 [(4,.any)],[],[],none⟩) else some (.ret,⟨sl 49 [(4,.pv (.int .i64 (lN size (Uh l ((0:Nat))) (l.drop ((0:Nat))))))],[],[],none⟩):=by
 unfold GI
 refine bG (env:=env) (l.length) (fun i=>⟨sl 49 [(0,.pv (.list 2 (l.map aU))),(1,.pv (.int .i64 size)),(5,.pv (.int .i64 (Uh l (i)))),(14,.pv (.list 2 (l.map aU))),(15,.pv (.int .i64 l.length)),(16,.pv (.int .i64 i))],[],[],none⟩) (fun i=>if lN size (Uh l (i)) (l.drop (i))=0 then some (.normal,⟨sl 49 [(4,.any)],[],[],none⟩) else some (.ret,⟨sl 49 [(4,.pv (.int .i64 (lN size (Uh l (i)) (l.drop (i)))))],[],[],none⟩)) h (fun _=>rfl) (fun _=>by simp only [aQ,dY,Nat.reduceMul,Nat.reduceBEq,Nat.reduceLT,Nat.reduceLeDiff,Nat.reduceAdd,decide_true,Zai,Zaf]) ?_ ?_
 ·intro i rb hi ih
  have hlim:lim=1073741824:=rfl
  have hi1:=bH hi (by omega)
  have F1:((i:Int)<(l.length:Int))=True:=eq_true (by omega)
  have hx:l[i]?=some l[i]:=ZD hi
  obtain ⟨⟨o1,o2⟩,o3,o4⟩:=ho _ (Zad hi)
  rw [Ui hx] at ih
  rw [zt hi]
  generalize l[i]=x at *
  have P2:part [PV.int .i64 x.start,.int .i64 x.count] 0 (some 2)=some (.agg [.int .i64 x.start,.int .i64 x.count]):=rfl
  have ch:lN size (Uh l i) (x::l.drop (i+1))=if x.count≤0 then 1 else if x.start<0∨x.count > size - x.start then 2 else if x.start<Uh l i then 3 else lN size (x.start+x.count+1) (l.drop (i+1)):=rfl
  by_cases c1:x.count≤0
  ·rw [ch,if_pos c1]
   simp only [rD,F1,hx,aU,P2,c1,aC hi,zc,Zae,zb,aN,Nat.reduceMul,Nat.reduceBEq,Nat.reduceLT,Nat.reduceLeDiff,reduceCtorEq,Nat.reduceEqDiff,Nat.reduceAdd,Z1]
   rfl
  ·by_cases c2:x.start<0
   ·have hv:lN size (Uh l i) (x::l.drop (i+1))=2:=by rw [ch,if_neg c1,if_pos (.inl c2)]
    rw [hv]
    simp only [rD,F1,hx,aU,P2,c1,c2,aC hi,zc,Zae,zb,aN,Nat.reduceMul,Nat.reduceBEq,Nat.reduceLT,Nat.reduceLeDiff,reduceCtorEq,Nat.reduceEqDiff,Nat.reduceAdd,Z1]
    rfl
   ·have W1:IntKind.i64.wrap (size - x.start)=size - x.start:=aP (by omega)
    by_cases c3:x.count > size - x.start
    ·have hv:lN size (Uh l i) (x::l.drop (i+1))=2:=by rw [ch,if_neg c1,if_pos (.inr c3)]
     rw [hv]
     have c3':(x.count > size - x.start)=True:=eq_true c3
     simp only [rD,F1,hx,aU,P2,c1,c2,c3',W1,aC hi,zc,Zae,zb,aN,Nat.reduceMul,Nat.reduceBEq,Nat.reduceLT,Nat.reduceLeDiff,reduceCtorEq,Nat.reduceEqDiff,Nat.reduceAdd,Z1]
     rfl
    ·have c3':(x.count > size - x.start)=False:=eq_false c3
     by_cases c4:x.start<Uh l i
     ·have hv:lN size (Uh l i) (x::l.drop (i+1))=3:=by rw [ch,if_neg c1,if_neg (by omega),if_pos c4]
      rw [hv]
      simp only [rD,F1,hx,aU,P2,c1,c2,c3',c4,W1,aC hi,zc,Zae,zb,aN,Nat.reduceMul,Nat.reduceBEq,Nat.reduceLT,Nat.reduceLeDiff,reduceCtorEq,Nat.reduceEqDiff,Nat.reduceAdd,Z1]
      rfl
     ·have hv:lN size (Uh l i) (x::l.drop (i+1))=lN size (x.start+x.count+1) (l.drop (i+1)):=by rw [ch,if_neg c1,if_neg (by omega),if_neg c4]
      rw [hv]
      have W2:IntKind.i64.wrap (x.start+x.count)=x.start+x.count:=aP (by omega)
      have W3:IntKind.i64.wrap (x.start+x.count+1)=x.start+x.count+1:=aP (by omega)
      simp only [rD,F1,hx,aU,P2,c1,c2,c3',c4,W1,W2,W3,aC hi,zc,Zae,zb,aN,Nat.reduceMul,Nat.reduceBEq,Nat.reduceLT,Nat.reduceLeDiff,reduceCtorEq,Nat.reduceEqDiff,Nat.reduceAdd,Z1]
      have hn:Uh l (i+1)=x.start+x.count+1:=Ui hx
      rw [ih _ (by simp only [hi1,hn,aN,Nat.reduceMul,Nat.reduceBEq,Nat.reduceLT,Nat.reduceLeDiff,reduceCtorEq,Nat.reduceEqDiff,Nat.reduceAdd,Z1]<;>rfl)]
 ·intro rb
  simp only [rD,Zar,zb,ZaO,lN,if_true,aN,Nat.reduceMul,Nat.reduceBEq,Nat.reduceLT,Nat.reduceLeDiff,reduceCtorEq,Nat.reduceEqDiff,Nat.reduceAdd,Z1]
theorem agR {l:List bf}{size:Int}(ho:nU l)(hl:l.length≤10000):cal env 106 [.list 2 (l.map aU),.int .i64 size]=some [(.int .i64 (qh l size),false)]:=by
 unfold qh
 by_cases c1:size<0
 ·rw [if_pos (.inl c1)]
  rw [aj W9 rfl];simp only [GK,aQ,Nat.reduceBEq,Nat.reduceLeDiff,Nat.reduceAdd,zd,ze]
  simp only [c1,aN,Nat.reduceMul,Nat.reduceBEq,Nat.reduceLT,Nat.reduceLeDiff,reduceCtorEq,Nat.reduceEqDiff,Nat.reduceAdd,Z1]
 ·by_cases c2:4096<size
  ·rw [if_pos (.inr c2)]
   have c2':(size > 4096)=True:=eq_true c2
   rw [aj W9 rfl];simp only [GK,aQ,Nat.reduceBEq,Nat.reduceLeDiff,Nat.reduceAdd,zd,ze]
   simp only [c1,c2',aN,Nat.reduceMul,Nat.reduceBEq,Nat.reduceLT,Nat.reduceLeDiff,reduceCtorEq,Nat.reduceEqDiff,Nat.reduceAdd,Z1]
  ·rw [if_neg (by omega)]
   have c2':(size > 4096)=False:=eq_false c2
   rw [aj W9 rfl];simp only [GK,aQ,Nat.reduceBEq,Nat.reduceLeDiff,Nat.reduceAdd,zd,ze]
   simp only [c1,c2',zb,aN,Nat.reduceMul,Nat.reduceBEq,Nat.reduceLT,Nat.reduceLeDiff,reduceCtorEq,Nat.reduceEqDiff,Nat.reduceAdd,Z1]
   rw [akv (size:=size) ⟨by omega,by omega⟩ ho hl (by simp only [Uh,aN,Nat.reduceMul,Nat.reduceBEq,Nat.reduceLT,Nat.reduceLeDiff,reduceCtorEq,Nat.reduceEqDiff,Nat.reduceAdd,Z1]<;>rfl)]
   rw [ZaE]
   have h0:Uh l 0=0:=rfl
   rw [h0]
   split
   ·rename_i h
    rw [h]
    simp only [c1,c2',zb,aN,Nat.reduceMul,Nat.reduceBEq,Nat.reduceLT,Nat.reduceLeDiff,reduceCtorEq,Nat.reduceEqDiff,Nat.reduceAdd,Z1]
   ·simp only [c1,c2',zb,aN,Nat.reduceMul,Nat.reduceBEq,Nat.reduceLT,Nat.reduceLeDiff,reduceCtorEq,Nat.reduceEqDiff,Nat.reduceAdd,Z1]
theorem Uj {size:Int}:∀ (l:List bf) (nx:Int),lN size nx l=0→∀ e∈l,0≤e.start∧1≤e.count∧e.start+e.count≤size
 |[],_,_,e,he=>by cases he
 |x::l,nx,h,e,he=>by
  unfold lN at h
  split at h
  ·omega
  ·split at h
   ·omega
   ·split at h
    ·omega
    ·rcases ZaJ.1 he with rfl|he
     ·omega
     ·exact Uj l _ h e he
theorem OU {l:List bf}{size:Int}(h:qh l size=0):∀ e∈l,0≤e.start∧1≤e.count∧e.start+e.count≤size:=by
 unfold qh at h
 split at h
 ·omega
 ·exact Uj l 0 h
def uP (s g:Int)(x:bf):bf:=⟨x.start*g,(if s<(x.start+x.count)*g then s else (x.start+x.count)*g) - x.start*g⟩
def LZ (s g:Int)(b:List Nat):Int :=
 if zB s g=0 then
  if (uO b).1=0 then
   if (uO b).2.1=s∧(uO b).2.2.1=g then
    if qh (uO b).2.2.2 (nM s g)=0 then 0 else 3
   else 22
  else ((uO b).1:Int)
 else zB s g
def rcI (s g:Int)(b:List Nat):iZ:=if LZ s g b=0 then { jY s g with bm:=fxO (nM s g) (uO b).2.2.2 } else aa1
def Xo (s g:Int)(b:List Nat):List bf:=if LZ s g b=0 then E8 ((uO b).2.2.2.map (uP s g)) else []
theorem DF {n k:Int}{x:bf}(hn:1≤n∧n≤4096)(hk:1≤k∧k≤4096)(hx:0≤x.start∧1≤x.count∧x.start+x.count≤nM n k):(0≤x.start*k∧x.start*k≤16777216)∧(0≤(x.start+x.count)*k∧(x.start+x.count)*k≤16777216)∧x.start*k<n∧x.start*k+k≤(x.start+x.count)*k:=by
 have hg:nM n k≤4096:=by have:=(l9 (dA.2 ⟨hn.1,hn.2,hk.1,hk.2⟩)).2;omega
 have h1:x.start*k≤4096*4096:=Int.mul_le_mul (by omega) (by omega) (by omega) (by omega)
 have h2:(x.start+x.count)*k≤4096*4096:=Int.mul_le_mul (by omega) (by omega) (by omega) (by omega)
 have h3:0≤x.start*k:=Int.mul_nonneg (by omega) (by omega)
 have h4:0≤(x.start+x.count)*k:=Int.mul_nonneg (by omega) (by omega)
 have h5:nM n k*k≤n+k - 1:=by unfold nM;exact Int.ediv_mul_le _ (by omega)
 have h6:(x.start+1)*k≤nM n k*k:=ZcP (by omega) (by omega)
 have h7:(x.start+1)*k≤(x.start+x.count)*k:=ZcP (by omega) (by omega)
 rw [Int.add_mul,Int.one_mul] at h6 h7
 omega
def agS (o:iZ)(b:Bm):List BV:=[.pv (.int .i64 o.size),.pv (.int .i64 o.bg),.pv (.list 1 (o.act.map eI)),.pv (.int .i64 b.size),.pv (.list 1 (b.ws.map eW))]
theorem Yx (o:iZ)(b:Bm):agS o b=[.pv (.int .i64 o.size),.pv (.int .i64 o.bg),.pv (.list 1 (o.act.map eI)),.pv (.int .i64 b.size),.pv (.list 1 (b.ws.map eW))]:=rfl
theorem aoT {n k:Int}{l:List bf}{o:iZ}{b:Bm}(hn:1≤n∧n≤4096)(hk:1≤k∧k≤4096)(hx:∀ x∈l,0≤x.start∧1≤x.count∧x.start+x.count≤nM n k)(hl:l.length≤lim){st:St}(h:st.head [0,1,6,9,10,13,14,51,89,90,91,114] st.boxes.length=some ⟨sl 120 [(0,.pv (.int .i64 n)),(1,.pv (.int .i64 k)),(6,.aX 0 0),(9,.aX 1 0),(10,.pv (.int .i64 0)),(13,.pv (.list 2 (l.map aU))),(14,.row 2 (((l.take ((0:Nat))).map (uP n k)).map aU)),(51,.any),(89,.pv (.list 2 (l.map aU))),(90,.pv (.int .i64 l.length)),(91,.pv (.int .i64 (0:Nat))),(114,.any)],[⟨false,[.pv (.int .i64 0),.pv (.int .i64 0),.row 1 [],.pv (.int .i64 0),.row 1 []]⟩,⟨false,agS o b⟩],[],none⟩) :
  den env Oj st=some (.normal,⟨sl 120 [(6,.aX 0 0),(7,.any),(8,.any),(9,.aX 1 0),(10,.pv (.int .i64 0)),(14,.row 2 ((l.map (uP n k)).map aU))],[⟨false,[.pv (.int .i64 0),.pv (.int .i64 0),.row 1 [],.pv (.int .i64 0),.row 1 []]⟩,⟨false,agS o b⟩],[],none⟩):=by
 unfold Oj
 refine bG (env:=env) (nb:=2) (l.length) (fun i=>⟨sl 120 [(0,.pv (.int .i64 n)),(1,.pv (.int .i64 k)),(6,.aX 0 0),(9,.aX 1 0),(10,.pv (.int .i64 0)),(13,.pv (.list 2 (l.map aU))),(14,.row 2 (((l.take (i)).map (uP n k)).map aU)),(51,.any),(89,.pv (.list 2 (l.map aU))),(90,.pv (.int .i64 l.length)),(91,.pv (.int .i64 i)),(114,.any)],[⟨false,[.pv (.int .i64 0),.pv (.int .i64 0),.row 1 [],.pv (.int .i64 0),.row 1 []]⟩,⟨false,agS o b⟩],[],none⟩) (fun i=>some (.normal,⟨sl 120 [(6,.aX 0 0),(7,.any),(8,.any),(9,.aX 1 0),(10,.pv (.int .i64 0)),(14,.row 2 ((l.map (uP n k)).map aU))],[⟨false,[.pv (.int .i64 0),.pv (.int .i64 0),.row 1 [],.pv (.int .i64 0),.row 1 []]⟩,⟨false,agS o b⟩],[],none⟩)) h (fun _=>rfl) (fun _=>by simp only [aQ,dY,Nat.reduceMul,Nat.reduceBEq,Nat.reduceLT,Nat.reduceLeDiff,Nat.reduceAdd,decide_true,Zai,Zaf]) ?_ ?_
 ·intro i rb hi ih
  have hi1:=bH hi hl
  have F1:((i:Int)<(l.length:Int))=True:=eq_true (by omega)
  have eX:∀ e:bf,aU e=.agg [.int .i64 e.start,.int .i64 e.count]:=fun _=>rfl
  have hg:(l.map aU)[i]?=some (aU l[i]):=by rw [zc,ZD hi];rfl
  obtain ⟨a1,a2,a3,a4⟩:=DF hn hk (hx _ (Zad hi))
  have q:=hx _ (Zad hi)
  have hgl:=(l9 (dA.2 ⟨hn.1,hn.2,hk.1,hk.2⟩)).2
  have W1:IntKind.i64.wrap (l[i].start*k)=l[i].start*k:=aP (by omega)
  have W2:IntKind.i64.wrap (l[i].start+l[i].count)=l[i].start+l[i].count:=aP (by omega)
  have W3:IntKind.i64.wrap ((l[i].start+l[i].count)*k)=(l[i].start+l[i].count)*k:=aP (by omega)
  have W4:IntKind.i64.wrap ((if n<(l[i].start+l[i].count)*k then n else (l[i].start+l[i].count)*k) - l[i].start*k)=(if n<(l[i].start+l[i].count)*k then n else (l[i].start+l[i].count)*k) - l[i].start*k:=aP (by split<;>omega)
  have hs:((l.take (i+1)).map (uP n k)).map aU=((l.take i).map (uP n k)).map aU++[.agg [.int .i64 (l[i].start*k),.int .i64 ((if n<(l[i].start+l[i].count)*k then n else (l[i].start+l[i].count)*k) - l[i].start*k)]]:=by
   rw [ZaG hi,ZaC,ZaC];rfl
  have F3:((((l.take i).map (uP n k)).map aU).length+1≤lim)=True:=eq_true (by rw [zb,zb,Zac];omega)
  rw [eX] at hg
  rw [hs] at ih
  generalize ((l.take i).map (uP n k)).map aU=m at *
  simp only [Oi,F1,F3,hg,W1,W2,W3,W4,aC hi,zb,ZaL,aN,Nat.reduceMul,Nat.reduceBEq,Nat.reduceLT,Nat.reduceLeDiff,reduceCtorEq,Nat.reduceEqDiff,Nat.reduceAdd,Z1]
  rw [ih _ (by simp only [hi1,aN,Nat.reduceMul,Nat.reduceBEq,Nat.reduceLT,Nat.reduceLeDiff,reduceCtorEq,Nat.reduceEqDiff,Nat.reduceAdd,Z1]<;>rfl)]
 ·intro rb
  rw [ZaL]
  simp only [Oi,Zar,aN,Nat.reduceMul,Nat.reduceBEq,Nat.reduceLT,Nat.reduceLeDiff,reduceCtorEq,Nat.reduceEqDiff,Nat.reduceAdd,Z1]
theorem aqS {s g:Int}{b:List Nat}(hb:∀ c∈b,c<256)(hl:b.length≤10000):cal env 89 [.int .i64 s,.int .i64 g,.list 1 (b.map eY)]=some [(qg (rcI s g b),false),(.list 2 ((Xo s g b).map aU),true),(.int .i64 (LZ s g b),false)]:=by
 have e0:=aly (s:=s) (g:=g)
 have e1:=agy hb (show b.length≤1000000 by omega)
 have E5:∀ i:iZ,qg i=.agg [.int .i64 i.size,.int .i64 i.bg,.list 1 (i.act.map eI),.int .i64 i.bm.size,.list 1 (i.bm.ws.map eW)]:=fun _=>rfl
 have eA:∀ b:Bm,y7 b=.agg [.int .i64 b.size,.list 1 (b.ws.map eW)]:=fun _=>rfl
 have P5:∀ a b c d e:PV,part [a,b,c,d,e] 0 (some 5)=some (.agg [a,b,c,d,e]):=fun _ _ _ _ _=>rfl
 have Z0:((0:Int) != 0)=false:=rfl
 have Zn:(((0:Nat):Int) != 0)=false:=rfl
 have Z3:((3:Int) != 0)=true:=rfl
 have Zl:(((0:Nat):Int) > 0)=False:=eq_false (by omega)
 unfold rcI Xo
 by_cases c0:zB s g=0
 ·have h0:lM s g=true:=by
   unfold zB at c0
   split at c0
   ·assumption
   ·cases c0
  have hgl:=l9 h0
  obtain ⟨z1,z2,z3,z4⟩:=dA.1 h0
  rw [c0,E5] at e0
  by_cases c1:(dL b).1=0
  ·rw [c1,if_pos rfl] at e1
   have e2:=agy (l:=dQ b) (fun c h=>hb c (pG h)) (by have:=jM b;omega)
   by_cases c2:(dL (dQ b)).1=0
   ·rw [c2,if_pos rfl] at e2
    have e3:=aoH (l:=dQ (dQ b)) (fun c h=>hb c (pG (pG h))) (by have:=jM b;have:=jM (dQ b);omega)
    by_cases c3:(je (dQ (dQ b))).1=0
    ·rw [c3,if_pos rfl,if_pos rfl] at e3
     by_cases c4:(je (dQ (dQ b))).2.2=[]
     ·rw [c4,Zao] at e3
      have hD:uO b=(0,((dL b).2.1:Int),((dL (dQ b)).2.1:Int),(je (dQ (dQ b))).2.1):=by
       unfold uO;rw [if_pos c1,if_pos c2,if_pos c3,if_pos c4]
      obtain ⟨k1,k2⟩:=aks b
      rw [hD] at k1 k2
      simp only at k1 k2
      have hR:LZ s g b=if ((dL b).2.1:Int)=s∧((dL (dQ b)).2.1:Int)=g then if qh (je (dQ (dQ b))).2.1 (nM s g)=0 then 0 else 3 else 22:=by
       unfold LZ;rw [if_pos c0,hD];simp only;rw [if_pos trivial]
      rw [hD]
      simp only
      generalize LZ s g b=E at *
      generalize ((dL b).2.1:Int)=n at *
      generalize ((dL (dQ b)).2.1:Int)=k at *
      generalize (je (dQ (dQ b))).2.1=l at *
      by_cases c5:n=s∧k=g
      ·rw [if_pos c5] at hR
       obtain ⟨rfl,rfl⟩:=c5
       have B1:(n != n)=false:=by simp
       have B2:(k != k)=false:=by simp
       have hact:((jY n k).act.length:Int)=nM n k:=by
        unfold jY;rw [if_pos h0,List.length_replicate];omega
       have e4:=agR (l:=l) (size:=nM n k) (fun x hx=>aoS (k1 x hx)) (by omega)
       by_cases c6:qh l (nM n k)=0
       ·rw [if_pos c6] at hR
        rw [c6] at e4
        subst hR
        rw [if_pos rfl,if_pos rfl]
        have e5:=aoR (l:=l) (n:=nM n k) (by unfold lim;omega)
        have hin:=OU c6
        have hfx:fxE (nM n k) l=0:=by
         have:=(alC (n:=(nM n k).toNat) (l:=l) (by omega) (fun e he=>by obtain ⟨q1,q2,q3⟩:=hin e he;omega)).1
         rwa [show (((nM n k).toNat:Nat):Int)=nM n k by omega] at this
        rw [eA,hfx] at e5
        have e6:=agI (a:=l.map (uP n k)) (b:=[]) (fun x hx=>by
         obtain ⟨y,hy,rfl⟩:=ZaV.1 hx
         obtain ⟨a1,a2,a3,a4⟩:=DF ⟨z1,z2⟩ ⟨z3,z4⟩ (hin y hy)
         unfold uP okE
         simp only
         split<;>omega) (fun x hx=>by cases hx) (by rw [zb];omega) (by simp)
        rw [Zao] at e6
        unfold E8
        generalize jY n k=o at *
        generalize fxO (nM n k) l=b2 at *
        have hsc:(PV.agg [.int .i64 b2.size,.list 1 (b2.ws.map eW)]).scalar=false:=rfl
        simp only [E5]
        rw [aj BK rfl];simp only [Dj,aQ,Nat.reduceBEq,Nat.reduceLeDiff,Nat.reduceAdd,zd,ze]
        simp only [e0,e1,e2,e3,e4,e5,hsc,Z0,Zn,Z3,Zl,B1,B2,P5,eF,hact,zb,ze,aN,Nat.reduceMul,Nat.reduceBEq,Nat.reduceLT,Nat.reduceLeDiff,reduceCtorEq,Nat.reduceEqDiff,Nat.reduceAdd,Z1]
        rw [aoT (n:=n) (k:=k) (l:=l) (o:=o) (b:=b2) ⟨z1,z2⟩ ⟨z3,z4⟩ hin (by unfold lim;omega)]
        rotate_left
        ·rw [Zba,Zao,Zao,Yx]
         simp only [aQ,dY,Nat.reduceMul,Nat.reduceBEq,Nat.reduceLT,Nat.reduceLeDiff,Nat.reduceAdd,decide_true,Zai,Zaf]<;>rfl
        ·rw [Yx]
         generalize (l.map (uP n k)).map aU=m at *
         simp only [e6,P5,ZaL,aN,Nat.reduceMul,Nat.reduceBEq,Nat.reduceLT,Nat.reduceLeDiff,reduceCtorEq,Nat.reduceEqDiff,Nat.reduceAdd,Z1]
       ·rw [if_neg c6] at hR
        have G:(qh l (nM n k) != 0)=true:=by simpa using c6
        rw [if_neg (by rw [hR];decide),if_neg (by rw [hR];decide),hR,iP]
        generalize jY n k=o at *
        rw [aj BK rfl];simp only [Dj,aQ,Nat.reduceBEq,Nat.reduceLeDiff,Nat.reduceAdd,zd,ze]
        simp only [e0,e1,e2,e3,e4,Z0,Zn,Z3,Zl,B1,B2,G,P5,eF,hact,zb,ze,aN,Nat.reduceMul,Nat.reduceBEq,Nat.reduceLT,Nat.reduceLeDiff,reduceCtorEq,Nat.reduceEqDiff,Nat.reduceAdd,Z1]
      ·rw [if_neg c5] at hR
       rw [if_neg (by rw [hR];decide),if_neg (by rw [hR];decide),hR,iP]
       generalize jY s g=o at *
       by_cases c6:n=s
       ·have B1:(n != s)=false:=by simpa using c6
        have B2:(k != g)=true:=by
         have:k≠g:=fun h=>c5 ⟨c6,h⟩
         simpa using this
        rw [aj BK rfl];simp only [Dj,aQ,Nat.reduceBEq,Nat.reduceLeDiff,Nat.reduceAdd,zd,ze]
        simp only [e0,e1,e2,e3,Z0,Zn,Z3,Zl,B1,B2,P5,eF,zb,ze,aN,Nat.reduceMul,Nat.reduceBEq,Nat.reduceLT,Nat.reduceLeDiff,reduceCtorEq,Nat.reduceEqDiff,Nat.reduceAdd,Z1]
       ·have B1:(n != s)=true:=by simpa using c6
        rw [aj BK rfl];simp only [Dj,aQ,Nat.reduceBEq,Nat.reduceLeDiff,Nat.reduceAdd,zd,ze]
        simp only [e0,e1,e2,e3,Z0,Zn,Z3,Zl,B1,P5,eF,zb,ze,aN,Nat.reduceMul,Nat.reduceBEq,Nat.reduceLT,Nat.reduceLeDiff,reduceCtorEq,Nat.reduceEqDiff,Nat.reduceAdd,Z1]
     ·have hR:LZ s g b=3:=by
       unfold LZ uO;rw [if_pos c0,if_pos c1,if_pos c2,if_pos c3,if_neg c4];rfl
      have Zl2:((((je (dQ (dQ b))).2.2.length:Nat):Int) > 0)=True:=eq_true (by
       have:(je (dQ (dQ b))).2.2.length≠0:=fun h=>c4 (List.length_eq_zero_iff.1 h)
       omega)
      rw [if_neg (by rw [hR];decide),if_neg (by rw [hR];decide),hR,iP]
      generalize jY s g=o at *
      generalize (dL (dQ b)).2.1=k at *
      generalize (dL b).2.1=n at *
      rw [aj BK rfl];simp only [Dj,aQ,Nat.reduceBEq,Nat.reduceLeDiff,Nat.reduceAdd,zd,ze]
      simp only [e0,e1,e2,e3,Z0,Zn,Z3,Zl2,P5,eF,zb,ze,aN,Nat.reduceMul,Nat.reduceBEq,Nat.reduceLT,Nat.reduceLeDiff,reduceCtorEq,Nat.reduceEqDiff,Nat.reduceAdd,Z1]
    ·have hR:LZ s g b=((je (dQ (dQ b))).1:Int):=by
      unfold LZ uO;rw [if_pos c0,if_pos c1,if_pos c2,if_neg c3];exact if_neg c3
     have Zr:(((je (dQ (dQ b))).1:Int) != 0)=true:=by simpa using c3
     rw [if_neg (by rw [hR];omega),if_neg (by rw [hR];omega),hR,iP]
     generalize jY s g=o at *
     generalize (dL (dQ b)).2.1=k at *
     generalize (dL b).2.1=n at *
     rw [aj BK rfl];simp only [Dj,aQ,Nat.reduceBEq,Nat.reduceLeDiff,Nat.reduceAdd,zd,ze]
     simp only [e0,e1,e2,e3,Z0,Zn,Zr,P5,eF,zb,ze,aN,Nat.reduceMul,Nat.reduceBEq,Nat.reduceLT,Nat.reduceLeDiff,reduceCtorEq,Nat.reduceEqDiff,Nat.reduceAdd,Z1]
   ·have hR:LZ s g b=((dL (dQ b)).1:Int):=by
     unfold LZ uO;rw [if_pos c0,if_pos c1,if_neg c2];exact if_neg c2
    have Zr:(((dL (dQ b)).1:Int) != 0)=true:=by simpa using c2
    rw [if_neg (by rw [hR];omega),if_neg (by rw [hR];omega),hR,iP]
    generalize jY s g=o at *
    generalize (dL b).2.1=n at *
    rw [aj BK rfl];simp only [Dj,aQ,Nat.reduceBEq,Nat.reduceLeDiff,Nat.reduceAdd,zd,ze]
    simp only [e0,e1,e2,Z0,Zn,Zr,P5,eF,zb,ze,aN,Nat.reduceMul,Nat.reduceBEq,Nat.reduceLT,Nat.reduceLeDiff,reduceCtorEq,Nat.reduceEqDiff,Nat.reduceAdd,Z1]
  ·have hR:LZ s g b=((dL b).1:Int):=by
    unfold LZ uO;rw [if_pos c0,if_neg c1];exact if_neg c1
   have Zr:(((dL b).1:Int) != 0)=true:=by simpa using c1
   rw [if_neg (by rw [hR];omega),if_neg (by rw [hR];omega),hR,iP]
   generalize jY s g=o at *
   rw [aj BK rfl];simp only [Dj,aQ,Nat.reduceBEq,Nat.reduceLeDiff,Nat.reduceAdd,zd,ze]
   simp only [e0,e1,Z0,Zr,P5,eF,zb,ze,aN,Nat.reduceMul,Nat.reduceBEq,Nat.reduceLT,Nat.reduceLeDiff,reduceCtorEq,Nat.reduceEqDiff,Nat.reduceAdd,Z1]
 ·have hR:LZ s g b=zB s g:=by
   unfold LZ;rw [if_neg c0]
  have Zr:(zB s g != 0)=true:=by simpa using c0
  rw [if_neg (by rw [hR];exact c0),if_neg (by rw [hR];exact c0),hR,iP]
  rw [E5] at e0
  generalize jY s g=o at *
  rw [aj BK rfl];simp only [Dj,aQ,Nat.reduceBEq,Nat.reduceLeDiff,Nat.reduceAdd,zd,ze]
  simp only [e0,Zr,P5,eF,zb,ze,aN,Nat.reduceMul,Nat.reduceBEq,Nat.reduceLT,Nat.reduceLeDiff,reduceCtorEq,Nat.reduceEqDiff,Nat.reduceAdd,Z1]
theorem Xp (l:List bf):E8 l=ext (nC l) 4096:=by
 unfold E8 setOf
 exact oG fun s _=>by simp [orB,nC]
theorem akw {l:List bf}{n:Nat}(h:∀ x∈l,0≤x.start∧1≤x.count∧x.start+x.count≤(n:Int))(s:Nat):nC (wI l n) s=(nC l s || decide (s=n)):=by
 rcases jJ l with e|⟨pre,y,e⟩
 ·subst e
  show nC [⟨(n:Int),1⟩] s=_
  rw [Zbu]
  simp [nC,tq];omega
 ·subst e
  have hy:=h y (by simp)
  rw [iy]
  split
  ·rw [I8,I8,Bool.or_assoc]
   congr 1
   rw [Zbu]
   simp [tq];omega
  ·rw [I8 (pre++[y])]
   congr 1
   rw [Zbu]
   simp [tq];omega
theorem oQ (p:Nat→Bool)(s:Nat):∀ n,nC (ext p n) s=(decide (s<n)&&p s)
 |0=>by simp [TI,nC]
 |n+1=>by
  rw [nK]
  by_cases h:p n=true
  ·rw [if_pos h,akw (yx p n),oQ p s n]
   by_cases h2:s=n
   ·subst h2;rw [h];simp
   ·rw [decide_eq_false h2,Bool.or_false]
    congr 1
    rw [Zbu];simp;omega
  ·rw [if_neg h,oQ p s n]
   by_cases h2:s=n
   ·subst h2;simp [h]
   ·congr 1
    rw [Zbu];simp;omega
theorem Uk (p:Nat→Bool){n:Nat}(hn:n≤4096):nU (ext p n):=fun x hx=>by
 have:=yx p n x hx
 exact ⟨by omega,by omega⟩
def can:Int→List bf→Prop
 |_,[]=>True
 |nx,x::l=>nx≤x.start∧1≤x.count∧can (x.start+x.count+1) l
def Ul:Int→List bf→Int
 |nx,[]=>nx
 |_,x::l=>Ul (x.start+x.count+1) l
theorem uQ:∀ (l:List bf) (nx:Int) (x:bf),Ul nx (l++[x])=x.start+x.count+1
 |[],_,_=>rfl
 |y::l,_,x=>uQ l (y.start+y.count+1) x
theorem BU:∀ (l:List bf) (nx:Int) (x:bf),can nx (l++[x]) ↔ can nx l∧Ul nx l≤x.start∧1≤x.count
 |[],nx,x=>by simp [can,Ul]
 |y::l,nx,x=>by
  have:=BU l (y.start+y.count+1) x
  show nx≤y.start∧1≤y.count∧can _ (l++[x]) ↔ (nx≤y.start∧1≤y.count∧can _ l)∧Ul _ l≤x.start∧1≤x.count
  rw [this]
  constructor
  ·rintro ⟨a,b,c,d⟩;exact ⟨⟨a,b,c⟩,d⟩
  ·rintro ⟨⟨a,b,c⟩,d⟩;exact ⟨a,b,c,d⟩
theorem Yy (p:Nat→Bool):∀ n:Nat,can 0 (ext p n)∧Ul 0 (ext p n)≤(n:Int)+1
 |0=>by rw [TI];exact ⟨trivial,by simp [Ul]⟩
 |n+1=>by
  obtain ⟨h1,h2⟩:=Yy p n
  rw [nK]
  split
  ·rcases jJ (ext p n) with e|⟨pre,x,e⟩
   ·rw [e]
    have:wI [] n=[⟨(n:Int),1⟩]:=rfl
    rw [this]
    exact ⟨⟨by simp only;omega,by simp only;omega,trivial⟩,by simp only [Ul];omega⟩
   ·rw [e] at h1 h2 ⊢
    have hx:=yx p n x (by rw [e];simp)
    rw [uQ] at h2
    obtain ⟨c1,c2,c3⟩:=(BU _ _ _).1 h1
    rw [iy]
    split
    ·exact ⟨(BU _ _ _).2 ⟨c1,c2,by simp only;omega⟩,by rw [uQ];simp only;omega⟩
    ·exact ⟨(BU _ _ _).2 ⟨h1,by rw [uQ];simp only;omega,by simp⟩,by rw [uQ];simp only;omega⟩
  ·exact ⟨h1,by omega⟩
theorem Yz {size:Int}:∀ (l:List bf) (nx:Int),can nx l→(∀ x∈l,0≤x.start∧x.start+x.count≤size)→lN size nx l=0
 |[],_,_,_=>rfl
 |x::l,nx,h,hb=>by
  obtain ⟨h1,h2,h3⟩:=h
  have hx:=hb x (by simp)
  unfold lN
  rw [if_neg (by omega),if_neg (by omega),if_neg (by omega)]
  exact Yz l _ h3 fun y hy=>hb y (by simp [hy])
theorem Um (p:Nat→Bool)(n:Nat):lN n 0 (ext p n)=0:=Yz _ 0 (Yy p n).1 fun x hx=>by have:=yx p n x hx;omega
theorem akx {i:iZ}{e:bf}(h:gB i=true)(h0:bgE i e=0):gB (JQ i e)=true∧(JQ i e).size=i.size∧(JQ i e).bg=i.bg∧(JQ i e).act.length=i.act.length:=by
 obtain ⟨-,hb⟩:=alz IZ h0
 obtain ⟨s,c,ht,-⟩:=y8 h hb
 obtain ⟨e1,e2⟩:=alA h hb ht h0
 refine ⟨e2,?_⟩
 rw [e1]
 exact ⟨rfl,rfl,fG ..⟩
theorem Un (p:Nat→Bool){n:Nat}(hn:n≤4096):qh (ext p n) n=0:=by
 unfold qh
 rw [if_neg (by omega)]
 exact Um p n
theorem abm {b:Bm}(h:okB b=true):JO b=ext (bit b.ws) b.size.toNat:=by
 unfold JO Oy
 rw [if_pos h]
theorem aky {b:Bm}(h:okB b=true):fxO b.size (JO b)=b:=by
 have hs:=kL h
 have hc:((b.size.toNat:Nat):Int)=b.size:=by omega
 obtain ⟨-,-,g2,g3,g4⟩:=alC (n:=b.size.toNat) (l:=JO b) (by omega) (fun e he=>by
  rw [abm h] at he
  exact yx _ _ e he)
 rw [hc] at g2 g3 g4
 refine an7 g2 h g3 fun s hlt=>?_
 rw [g3] at hlt
 rw [g4 s (by omega),abm h,oQ,decide_eq_true (by omega),Zaf]
theorem YA {n g:Int}{x:bf}(hn:1≤n∧n≤4096)(hg:1≤g∧g≤4096)(hx:0≤x.start∧1≤x.count∧x.start+x.count≤nM n g){s:Nat}(hs:(s:Int)<n):tq (uP n g x) s=tq x (((s:Int) / g).toNat):=by
 obtain ⟨a1,a2,a3,a4⟩:=DF hn hg hx
 have k0:0≤(s:Int) / g:=ZbR (by omega) (by omega)
 have k1:x.start≤(s:Int) / g ↔ x.start*g≤(s:Int):=Int.le_ediv_iff_mul_le (by omega)
 have k2:(s:Int) / g<x.start+x.count ↔ (s:Int)<(x.start+x.count)*g:=Int.ediv_lt_iff_lt_mul (by omega)
 have kc:((((s:Int) / g).toNat:Nat):Int)=(s:Int) / g:=by omega
 unfold tq uP
 simp only
 rw [kc,Zbu]
 simp only [ZZ,decide_eq_true_eq]
 rw [k1,k2]
 split<;>omega
theorem Fb {i:iZ}(h:gB i=true):(∀ c∈ku i,c<256)∧LZ i.size i.bg (ku i)=0∧rcI i.size i.bg (ku i)=⟨i.size,i.bg,Zag i.act.length 0,i.bm⟩ ∧
  (∀ s:Nat,(s:Int)<i.size→nC (Xo i.size i.bg (ku i)) s=vW i.bm ((s:Int) / i.bg))∧(Xo i.size i.bg (ku i)).length≤4096∧∀ x∈Xo i.size i.bg (ku i),0≤x.start∧1≤x.count∧x.start+x.count≤4096:=by
 obtain ⟨h1,h2,h3,h4,h5⟩:=bQ.1 h
 obtain ⟨z1,z2,z3,z4⟩:=dA.1 h1
 have hg:=l9 h1
 have hm:(most:Int)=9007199254740991:=rfl
 have hB:ku i=encI i.size++encI i.bg++zZ (JO i.bm):=by unfold ku;rw [if_pos h]
 have aoU:∀ e∈JO i.bm,0≤e.start∧1≤e.count∧e.start+e.count≤nM i.size i.bg:=fun e he=>by
  rw [abm h3] at he
  have:=yx _ _ e he
  omega
 have hD:uO (ku i)=(0,i.size,i.bg,JO i.bm):=by
  rw [hB]
  refine agQ (by omega) (by omega) (fun e he=>?_) (zR (agM _) (by decide))
  have:=aoU e he
  unfold Yt
  omega
 obtain ⟨e1,e2,-⟩:=OD h1
 have hck:qh (JO i.bm) (nM i.size i.bg)=0:=by
  rw [abm h3]
  have:=Un (bit i.bm.ws) (n:=i.bm.size.toNat) (by omega)
  rwa [show ((i.bm.size.toNat:Nat):Int)=nM i.size i.bg by omega] at this
 have hE:LZ i.size i.bg (ku i)=0:=by
  unfold LZ
  rw [hD,if_pos e2]
  simp only
  rw [if_pos trivial,if_pos ⟨trivial,trivial⟩,if_pos hck]
 have hL:Xo i.size i.bg (ku i)=ext (nC ((JO i.bm).map (uP i.size i.bg))) 4096:=by
  unfold Xo
  rw [if_pos hE,hD,Xp]
 refine ⟨?_,hE,?_,?_,?_,?_⟩
 ·rw [hB]
  intro c hc
  rcases ZaB.1 hc with hc|hc
  ·rcases ZaB.1 hc with hc|hc
   ·exact uM _ c hc
   ·exact uM _ c hc
  ·unfold zZ at hc
   rcases ZaB.1 hc with hc|hc
   ·exact uM _ c hc
   ·obtain ⟨e,-,hc⟩:=List.mem_flatMap.1 hc
    unfold lu at hc
    rcases ZaB.1 hc with hc|hc
    ·exact uM _ c hc
    ·exact uM _ c hc
 ·unfold rcI
  rw [if_pos hE,hD,e1]
  simp only
  rw [show nM i.size i.bg=i.bm.size by omega,aky h3,show i.bm.size.toNat=i.act.length by omega]
 ·intro s hs
  rw [hL,oQ,decide_eq_true (by omega),Zaf]
  have k0:0≤(s:Int) / i.bg:=ZbR (by omega) (by omega)
  have kc:((((s:Int) / i.bg).toNat:Nat):Int)=(s:Int) / i.bg:=by omega
  have e3:nC ((JO i.bm).map (uP i.size i.bg)) s=nC (JO i.bm) (((s:Int) / i.bg).toNat):=by
   unfold nC
   rw [List.any_map]
   rw [Zbu,Zb1,Zb1]
   constructor
   ·rintro ⟨x,hx,hh⟩
    refine ⟨x,hx,?_⟩
    rw [← YA ⟨z1,z2⟩ ⟨z3,z4⟩ (aoU x hx) hs]
    exact hh
   ·rintro ⟨x,hx,hh⟩
    refine ⟨x,hx,?_⟩
    show tq (uP i.size i.bg x) s=true
    rw [YA ⟨z1,z2⟩ ⟨z3,z4⟩ (aoU x hx) hs]
    exact hh
  have hgx:∀ k:Int,0≤k→vW i.bm k=bit i.bm.ws k.toNat:=fun k hk=>by
   obtain ⟨m,rfl⟩:∃ m:Nat,k=(m:Int):=⟨k.toNat,by omega⟩
   rw [nN h3,Zav]
  rw [e3,abm h3,oQ,hgx _ k0]
  cases hb:bit i.bm.ws (((s:Int) / i.bg).toNat) with
  |false=>rw [Zbm]
  |true=>rw [decide_eq_true (by have:=TJ h3 hb;omega)];rfl
 ·rw [hL];exact wu _ _
 ·rw [hL];exact fun x hx=>yx _ _ x hx
theorem akz {i:iZ}(hs:i.size≤256):(ku i).length≤10000:=by
 unfold ku
 split
 ·rename_i h
  obtain ⟨h1,h2,h3,h4,h5⟩:=bQ.1 h
  have hg:=l9 h1
  have q1:=nO i.size
  have q2:=nO i.bg
  have q3:=nO ((JO i.bm).length:Int)
  have q4:(JO i.bm).length≤256:=by
   rw [abm h3]
   have:=wu (bit i.bm.ws) i.bm.size.toNat
   omega
  have q5:∀ l:List bf,(l.flatMap lu).length≤18*l.length:=by
   intro l
   induction l with
   |nil=>simp
   |cons e l ih =>
    rw [Zc4,zp,zd]
    have:=TY e
    omega
  have q6:=q5 (JO i.bm)
  rw [zp,zp]
  unfold zZ
  rw [zp]
  omega
 ·simp
theorem agT {b:Bm}{s:Int}{n:Nat}:newG b s n=true ↔ ∃ k:Nat,k<n∧vW b (s+(k:Int))=false:=by
 unfold newG
 simp [Zb1]
structure PW (α:Type) where
 e:bf
 f:Bool
 s:Bool
 v:Nat→α
structure MW (α:Type) where
 log:iZ
 st:List Nat
 a:List α
 b:List α
 ws:List (PW α)
 ok:Bool
def ovE (a b:bf):Bool:=decide (a.start<b.start+b.count)&&decide (b.start<a.start+a.count)
section
variable {α:Type}[Inhabited α]
def wrA (l:List α)(e:bf)(v:Nat→α):List α:=l.mapIdx fun k x=>if tq e k then v k else x
def I9 (m:MW α)(e:bf)(v:Nat→α):MW α:=⟨JQ m.log e,if bgS m.log e then ku (JQ m.log e) else m.st,m.a,m.b,m.ws++[⟨e,false,false,v⟩],m.ok&&decide (bgE m.log e=0)⟩
def wrW (p1 p2:Bool)(w:PW α):PW α:=⟨w.e,w.f || p1,w.s || p2,w.v⟩
def EO (m:MW α)(p1 p2:Bool)(k:Nat)(w:PW α):MW α:=⟨m.log,m.st,if p1 then wrA m.a w.e w.v else m.a,if p2 then wrA m.b w.e w.v else m.b,m.ws.set k (wrW p1 p2 w),m.ok⟩
def abn (m:MW α)(k:Nat)(e:bf):MW α:=⟨Pm vX oJ m.log e,m.st,m.a,m.b,m.ws.take k++m.ws.drop (k+1),m.ok&&decide (EM oJ m.log e=0)⟩
def abo (m:MW α)(sv:Bool):MW α:=⟨zl m.log,if sv then ku (zl m.log) else m.st,m.a,m.b,m.ws,m.ok⟩
def tO (n g:Int)(k:Nat)(e:bf):Bool:=decide ((jA n g e).start≤(k:Int)∧(k:Int)<(jA n g e).start+(jA n g e).count)
structure Inv (n g:Int)(N:Nat)(m:MW α)(j:iZ)(c:Nat):Prop where
 ok:m.ok=true
 la:m.a.length=N
 lb:m.b.length=N
 lg:gB m.log=true
 sz:m.log.size=n
 gr:m.log.bg=g
 jl:gB j=true
 js:j.size=n
 jg:j.bg=g
 st:m.st=ku j
 su:∀ k:Nat,bit m.log.bm.ws k=true→bit j.bm.ws k=true
 wf:∀ e∈m.ws.map (·.e),oI n e=true
 ac:∀ k (h:k<m.log.act.length),m.log.act[k]=(((m.ws.map (·.e)).countP (tO n g k):Nat):Int)
 df:∀ s:Nat,s<N→m.a.getD s default≠m.b.getD s default→∃ e∈m.ws.map (·.e),tq e s=true
 ds:(m.ws.map (·.e)).Pairwise fun p q=>ovE p q=false
 va:∀ p∈m.ws,p.f=true→∀ s:Nat,tq p.e s=true→m.a.getD s default=p.v s
 vb:∀ p∈m.ws,p.s=true→∀ s:Nat,tq p.e s=true→m.b.getD s default=p.v s
 wl:m.ws.length≤c
theorem Inv.mono {n g:Int}{N:Nat}{m:MW α}{j:iZ}{c d:Nat}(h:Inv n g N m j c)(hd:c≤d):Inv n g N m j d:={ h with wl:=zR h.wl hd }
theorem tC {e:bf}{s:Nat}:tq e s=true ↔ 0<e.count∧e.start≤(s:Int)∧(s:Int)<e.start+e.count:=by unfold tq;simp [and_assoc]
theorem aoV {p q:bf}{s:Nat}(h1:tq p s=true)(h2:tq q s=true):ovE p q=true:=by
 have a:=tC.1 h1
 have b:=tC.1 h2
 unfold ovE
 simp only [ZZ,decide_eq_true_eq];omega
theorem agV (p q:bf):ovE p q=ovE q p:=by unfold ovE;rw [Bool.and_comm]
theorem aqT {n g:Int}(hs:lM n g=true){e:bf}(hb:oI n e=true){s:Nat}(h:tq e s=true):tO n g ((s:Int) / g).toNat e=true:=by
 obtain ⟨h1,h2,h3,h4⟩:=dA.1 hs
 have a:=tC.1 h
 have k0:0≤(s:Int) / g:=ZbR (by omega) (by omega)
 have k1:e.start / g≤(s:Int) / g:=ZcJ (by omega) a.2.1
 have k2:(s:Int) / g≤(e.start+e.count - 1) / g:=ZcJ (by omega) (by omega)
 unfold tO jA
 rw [if_pos hb]
 simp only [decide_eq_true_eq]
 omega
theorem Inv.n60 {n g:Int}{N:Nat}{m:MW α}{j:iZ}{c:Nat}(h:Inv n g N m j c):lM n g=true:=by
 have:=(bQ.1 h.lg).1
 rwa [h.sz,h.gr] at this
theorem count_le {β:Type}(l:List β)(p:β→Bool):l.countP p≤l.length:=List.countP_le_length
theorem abp {β:Type}{l:List β}{p:β→Bool}{x:β}(hx:x∈l)(hp:p x=true):1≤l.countP p:=List.countP_pos_iff.2 ⟨x,hx,hp⟩
theorem akB {n g:Int}{N:Nat}{m:MW α}{j:iZ}{c:Nat}(h:Inv n g N m j c):LZ n g m.st=0∧∀ s:Nat,s<N→(s:Int)<n→m.a.getD s default≠m.b.getD s default→nC (Xo n g m.st) s=true:=by
 obtain ⟨r1,r2,r3,r4,r5⟩:=Fb h.jl
 rw [h.js,h.jg] at r2 r4
 rw [h.st]
 refine ⟨r2,fun s hN hs hd=>?_⟩
 rw [r4 s (by omega)]
 obtain ⟨e,he,hi⟩:=h.df s hN hd
 have hb:=h.wf e he
 have ht:=aqT h.n60 hb hi
 obtain ⟨i1,i2,i3,i4,i5⟩:=bQ.1 h.lg
 obtain ⟨q1,q2,q3,q4⟩:=dA.1 h.n60
 have k0:0≤(s:Int) / g:=ZbR (by omega) (by omega)
 obtain ⟨t1,t2,t3⟩:=Dt h.n60 hb
 have hkl:((s:Int) / g).toNat<m.log.act.length:=by
  unfold tO at ht
  simp only [decide_eq_true_eq] at ht
  rw [h.sz,h.gr] at i2
  omega
 have hp:0<m.log.act[((s:Int) / g).toNat]:=by
  rw [h.ac _ hkl]
  have:=abp he ht
  omega
 have hg:=(BP (i5 _ hkl)).2 hp
 rw [nN i3] at hg
 have hj:=h.su _ hg
 have:=nN (bQ.1 h.jl).2.2.1 ((s:Int) / g).toNat
 rw [hj,show (((((s:Int) / g).toNat):Nat):Int)=(s:Int) / g by omega] at this
 exact this
theorem Xq {n g:Int}{e:bf}{s c:Nat}(ht:jA n g e=⟨(s:Int),(c:Int)⟩)(k:Nat):tO n g k e=decide (s≤k∧k<s+c):=by
 unfold tO
 rw [ht]
 apply decide_eq_decide.2
 simp only;omega
theorem Xr {n g:Int}{N:Nat}{m:MW α}{j:iZ}{c:Nat}(h:Inv n g N m j c)(hc:c<4096){e:bf}(hb:oI n e=true):bgE m.log e=0:=by
 have hb':oI m.log.size e=true:=by rw [h.sz];exact hb
 obtain ⟨s,q,ht,k1,k2,k3⟩:=y8 h.lg hb'
 unfold bgE
 rw [(BQ (v:=zX) h.lg hb' ht).1]
 rcases rJ rZ k2 with ⟨h1,_⟩|⟨i,hi,_,h2,_⟩
 ·exact h1
 ·exfalso
  apply h2
  unfold rZ
  rw [if_neg]
  rw [h.ac]
  have:=count_le (m.ws.map (·.e)) (tO n g (s+i))
  have:=h.wl
  simp only [zb] at *
  omega
theorem akC {n g:Int}{N:Nat}{m:MW α}{j:iZ}{c:Nat}(h:Inv n g N m j c)(hc:c<4096){E:bf}(hb:oI n E=true)(v:Nat→α)(hds:∀ q∈m.ws,ovE q.e E=false):∃ j',Inv n g N (I9 m E v) j' (c+1):=by
 have hE:=Xr h hc hb
 have hb':oI m.log.size E=true:=by rw [h.sz];exact hb
 obtain ⟨s,q,ht,k1,k2,k3⟩:=y8 h.lg hb'
 obtain ⟨e1,ok1⟩:=alA h.lg hb' ht hE
 have htn:jA n g E=⟨(s:Int),(q:Int)⟩:=by rw [h.sz,h.gr] at ht;exact ht
 have hbm:=(bQ.1 h.lg).2.2.1
 have aqU:=Yk hbm k3
 have hsub:bgS m.log E=false→∀ k:Nat,bit (JQ m.log E).bm.ws k=true→bit m.log.bm.ws k=true:=fun hS k hk=>by
  rw [e1] at hk
  simp only at hk
  rw [aqU] at hk
  unfold bgS at hS
  rw [decide_eq_true hE,Zaf,ht] at hS
  cases hx:bit m.log.bm.ws k with
  |true=>rfl
  |false =>
   rw [hx,Zbj,decide_eq_true_eq] at hk
   simp only at hk
   have:newG m.log.bm (s:Int) (Int.toNat (q:Int))=true:=agT.2 ⟨k - s,by omega,by rw [show ((s:Int)+((k - s:Nat):Int))=((k:Nat):Int) by omega,nN hbm];exact hx⟩
   simp only at hS
   rw [this] at hS;cases hS
 have key:∀ j',gB j'=true→j'.size=n→j'.bg=g→(I9 m E v).st=ku j'→(∀ k:Nat,bit (JQ m.log E).bm.ws k=true→bit j'.bm.ws k=true)→Inv n g N (I9 m E v) j' (c+1):=fun j' a1 a2 a3 a4 a5=>by
  have hl:(I9 m E v).log=JQ m.log E:=by rfl
  have hw:(I9 m E v).ws.map (·.e)=m.ws.map (·.e)++[E]:=by unfold I9;simp
  have hwl:(I9 m E v).ws.length=m.ws.length+1:=by unfold I9;simp
  refine ⟨(by show (m.ok&&decide _)=true;rw [h.ok,decide_eq_true hE];rfl),h.la,h.lb,by rw [hl];exact ok1,by rw [hl,e1];exact h.sz,by rw [hl,e1];exact h.gr,a1,a2,a3,a4,by rw [hl];exact a5,?_,?_,?_,?_,?_,?_,?_⟩
  ·rw [hw];intro e he
   rcases ZaB.1 he with he|he
   ·exact h.wf e he
   ·rw [Zat.1 he];exact hb
  ·rw [hw]
   intro k hk
   have hk':k<m.log.act.length:=by rw [hl,e1] at hk;simpa only [fG] using hk
   have:(I9 m E v).log.act[k]=(kP zX m.log.act s q)[k]'(by rw [fG];exact hk'):=by
    congr 1
    rw [hl,e1]
   rw [this,pF,ZdV,List.countP_singleton,Xq htn,h.ac k hk']
   have hcc:=count_le (m.ws.map (·.e)) (tO n g k)
   have:=h.wl
   simp only [zb] at hcc
   by_cases cc:s≤k∧k<s+q
   ·rw [if_pos cc,decide_eq_true cc]
    unfold zX
    rw [if_neg (by omega)]
    simp
   ·rw [if_neg cc,decide_eq_false cc]
    simp
  ·rw [hw];intro t h60 hd
   obtain ⟨e,he,hi⟩:=h.df t h60 hd
   exact ⟨e,Zch _ he,hi⟩
  ·rw [hw]
   refine List.pairwise_append.2 ⟨h.ds,List.pairwise_singleton _ _,fun a ha b hb2=>?_⟩
   rw [Zat.1 hb2]
   obtain ⟨p,hp,rfl⟩:=ZaV.1 ha
   exact hds p hp
  ·intro p hp hf
   rcases ZaB.1 (show p∈m.ws++_ from hp) with hp|hp
   ·exact h.va p hp hf
   ·rw [Zat.1 hp] at hf;cases hf
  ·intro p hp hf
   rcases ZaB.1 (show p∈m.ws++_ from hp) with hp|hp
   ·exact h.vb p hp hf
   ·rw [Zat.1 hp] at hf;cases hf
  ·have:=h.wl;omega
 cases hS:bgS m.log E with
 |true=>exact ⟨JQ m.log E,key _ ok1 (by rw [e1];exact h.sz) (by rw [e1];exact h.gr) (by show (if bgS m.log E=true then ku (JQ m.log E) else m.st)=_;rw [hS];rfl) fun k hk=>hk⟩
 |false=>exact ⟨j,key j h.jl h.js h.jg (by show (if bgS m.log E=true then ku (JQ m.log E) else m.st)=_;rw [hS];exact h.st) fun k hk=>h.su k (hsub hS k hk)⟩
theorem Uo {i:iZ}(h:gB i=true):gB (zl i)=true∧(zl i).size=i.size∧(zl i).bg=i.bg∧(zl i).act=i.act∧∀ k:Nat,bit (zl i).bm.ws k=true→bit i.bm.ws k=true:=by
 obtain ⟨h1,h2,h3,h4,h5⟩:=bQ.1 h
 obtain ⟨q1,q2,q3,q4⟩:=agk h i.act.length (zg _)
 have e:zl i={ i with bm:=(iE i i.act.length).1 }:=by unfold zl;rw [if_pos h]
 rw [e]
 refine ⟨bQ.2 ⟨h1,h2,q1,q2.trans h4,fun g hg=>?_⟩,rfl,rfl,rfl,fun k hk=>?_⟩
 ·obtain ⟨r1,r2⟩:=BP (h5 g hg)
  unfold IY
  simp only
  rw [decide_eq_false (by omega),decide_eq_false (by omega)]
  by_cases c0:0<i.act[g]
  ·have:=r2 c0
   rw [nN h3] at this
   rw [nN q1,q3,this]
   have hz:¬ (g<i.act.length∧i.act.getD g 0=0):=by
    rintro ⟨_,hz⟩
    rw [zP,ZD hg] at hz
    simp only [Option.getD_some] at hz
    omega
   rw [decide_eq_false hz]
   simp
  ·rw [decide_eq_false (by omega)]
   simp
 ·simp only at hk
  rw [q3] at hk
  exact (ZZ _ _ ▸ hk).1
theorem akD {n g:Int}{N:Nat}{m:MW α}{j:iZ}{c:Nat}(h:Inv n g N m j c)(sv:Bool):∃ j',Inv n g N (abo m sv) j' (c+1):=by
 obtain ⟨k1,k2,k3,k4,k5⟩:=Uo h.lg
 have key:∀ j',gB j'=true→j'.size=n→j'.bg=g→(abo m sv).st=ku j'→(∀ k:Nat,bit (zl m.log).bm.ws k=true→bit j'.bm.ws k=true)→Inv n g N (abo m sv) j' (c+1):=fun j' a1 a2 a3 a4 a5 =>
  ⟨h.ok,h.la,h.lb,k1,k2.trans h.sz,k3.trans h.gr,a1,a2,a3,a4,a5,h.wf,fun k hk=>by
   have hk':k<m.log.act.length:=by rw [← k4];exact hk
   refine Eq.trans ?_ (h.ac k hk')
   have:(abo m sv).log.act=m.log.act:=k4
   congr 1,h.df,h.ds,h.va,h.vb,by have:=h.wl;show m.ws.length≤_;omega⟩
 by_cases cw:sv=true
 ·exact ⟨zl m.log,key _ k1 (k2.trans h.sz) (k3.trans h.gr) (by show (if sv=true then _ else _)=_;rw [if_pos cw]) fun k hk=>hk⟩
 ·exact ⟨j,key j h.jl h.js h.jg (by show (if sv=true then _ else _)=_;rw [if_neg cw];exact h.st) fun k hk=>h.su k (k5 k hk)⟩
theorem OV (l:List α)(e:bf)(v:Nat→α):(wrA l e v).length=l.length:=by simp [wrA]
theorem agW {l:List α}{e:bf}{v:Nat→α}{s:Nat}(h:s<l.length):(wrA l e v).getD s default=if tq e s then v s else l.getD s default:=by
 rw [zP,zP,ZD (by rw [OV];exact h),ZD h]
 simp [wrA]
theorem agX {n g:Int}{N:Nat}{m:MW α}{j:iZ}{c:Nat}(h:Inv n g N m j c)(hn:n≤N){e:bf}(he:e∈m.ws.map (·.e)){s:Nat}(hi:tq e s=true):s<N:=by
 have a:=kN.1 (h.wf e he)
 have b:=tC.1 hi
 omega
theorem Ja {ws:List (PW α)}{k:Nat}{w v:PW α}(hk:ws[k]?=some w)(he:v.e=w.e):(ws.set k v).map (·.e)=ws.map (·.e):=by
 apply ZbV
 intro i
 rw [zc,zc,zr]
 split
 ·rename_i hik
  subst hik
  have hl:=(za.1 hk).1
  rw [if_pos hl,hk]
  simp [he]
 ·rfl
theorem YB {n g:Int}{N:Nat}{m:MW α}{j:iZ}{c:Nat}(h:Inv n g N m j c)(hn:n≤N)(p1 p2:Bool){k:Nat}{w:PW α}(hk:m.ws[k]?=some w):Inv n g N (EO m p1 p2 k w) j (c+1):=by
 have hE:(EO m p1 p2 k w).ws.map (·.e)=m.ws.map (·.e):=Ja hk rfl
 obtain ⟨hkl,hkw⟩:=za.1 hk
 have hmem:w∈m.ws:=Zab hk
 have ha:(EO m p1 p2 k w).a=if p1=true then wrA m.a w.e w.v else m.a:=rfl
 have hb:(EO m p1 p2 k w).b=if p2=true then wrA m.b w.e w.v else m.b:=rfl
 have la:(EO m p1 p2 k w).a.length=N:=by
  rw [ha];split
  ·rw [OV];exact h.la
  ·exact h.la
 have lb:(EO m p1 p2 k w).b.length=N:=by
  rw [hb];split
  ·rw [OV];exact h.lb
  ·exact h.lb
 have ga:∀ s,s<N→(EO m p1 p2 k w).a.getD s default=if p1=true∧tq w.e s=true then w.v s else m.a.getD s default:=fun s hs=>by
  rw [ha]
  by_cases c1:p1=true
  ·rw [if_pos c1,agW (by rw [h.la];exact hs)]
   by_cases c2:tq w.e s=true
   ·rw [if_pos c2,if_pos ⟨c1,c2⟩]
   ·rw [if_neg c2,if_neg (fun q=>c2 q.2)]
  ·rw [if_neg c1,if_neg (fun q=>c1 q.1)]
 have gb:∀ s,s<N→(EO m p1 p2 k w).b.getD s default=if p2=true∧tq w.e s=true then w.v s else m.b.getD s default:=fun s hs=>by
  rw [hb]
  by_cases c1:p2=true
  ·rw [if_pos c1,agW (by rw [h.lb];exact hs)]
   by_cases c2:tq w.e s=true
   ·rw [if_pos c2,if_pos ⟨c1,c2⟩]
   ·rw [if_neg c2,if_neg (fun q=>c2 q.2)]
  ·rw [if_neg c1,if_neg (fun q=>c1 q.1)]
 have dis:∀ (i:Nat) (p:PW α),m.ws[i]?=some p→i≠k→∀ s,tq p.e s=true→tq w.e s=false:=fun i p hp hik s hs=>by
  rw [Za0]
  intro hw
  obtain ⟨hil,hiw⟩:=za.1 hp
  have hpw:=List.pairwise_iff_getElem.1 h.ds
  have hov:=aoV hs hw
  rcases Nat.lt_or_ge i k with cc|cc
  ·have:=hpw i k (by simpa using hil) (by simpa using hkl) cc
   simp only [ZbN,hiw,hkw] at this
   rw [this] at hov;cases hov
  ·have:=hpw k i (by simpa using hkl) (by simpa using hil) (by omega)
   simp only [ZbN,hiw,hkw] at this
   rw [agV,this] at hov;cases hov
 refine ⟨h.ok,la,lb,h.lg,h.sz,h.gr,h.jl,h.js,h.jg,h.st,h.su,by rw [hE];exact h.wf,fun q hq=>by rw [hE];exact h.ac q hq,fun s h60 hd=>?_,by rw [hE];exact h.ds,fun p hp hf s hs=>?_,fun p hp hf s hs=>?_,?_⟩
 ·rw [hE]
  by_cases cw:tq w.e s=true
  ·exact ⟨w.e,Zbn hmem,cw⟩
  ·rw [ga s h60,gb s h60,if_neg (fun q=>cw q.2),if_neg (fun q=>cw q.2)] at hd
   exact h.df s h60 hd
 ·obtain ⟨i,hi,rfl⟩:=ZdM (show p∈m.ws.set k (wrW p1 p2 w) from hp)
  have hi':i<m.ws.length:=by simpa using hi
  have h60:s<N:=agX h hn (e:=(m.ws.set k (wrW p1 p2 w))[i].e) (by rw [← Ja hk (v:=wrW p1 p2 w) rfl];exact Zbn (Zad hi)) hs
  rw [ga s h60]
  rw [ZcI] at hf hs ⊢
  by_cases cik:k=i
  ·rw [if_pos cik] at hf hs ⊢
   by_cases c1:p1=true
   ·rw [if_pos ⟨c1,hs⟩];rfl
   ·rw [if_neg (fun q=>c1 q.1)]
    refine h.va w hmem ?_ s hs
    unfold wrW at hf
    simpa [c1] using hf
  ·rw [if_neg cik] at hf hs ⊢
   rw [if_neg (fun q=>by have:=dis i m.ws[i] (ZD hi') (fun e=>cik e.symm) s hs;rw [this] at q;cases q.2)]
   exact h.va _ (Zad hi') hf s hs
 ·obtain ⟨i,hi,rfl⟩:=ZdM (show p∈m.ws.set k (wrW p1 p2 w) from hp)
  have hi':i<m.ws.length:=by simpa using hi
  have h60:s<N:=agX h hn (e:=(m.ws.set k (wrW p1 p2 w))[i].e) (by rw [← Ja hk (v:=wrW p1 p2 w) rfl];exact Zbn (Zad hi)) hs
  rw [gb s h60]
  rw [ZcI] at hf hs ⊢
  by_cases cik:k=i
  ·rw [if_pos cik] at hf hs ⊢
   by_cases c1:p2=true
   ·rw [if_pos ⟨c1,hs⟩];rfl
   ·rw [if_neg (fun q=>c1 q.1)]
    refine h.vb w hmem ?_ s hs
    unfold wrW at hf
    simpa [c1] using hf
  ·rw [if_neg cik] at hf hs ⊢
   rw [if_neg (fun q=>by have:=dis i m.ws[i] (ZD hi') (fun e=>cik e.symm) s hs;rw [this] at q;cases q.2)]
   exact h.vb _ (Zad hi') hf s hs
 ·have:=h.wl
  show (m.ws.set k (wrW p1 p2 w)).length≤_
  rw [Zdg];omega
theorem YC {n g:Int}{N:Nat}{m:MW α}{j:iZ}{c:Nat}(h:Inv n g N m j c)(hn:n≤N){k:Nat}{w:PW α}(hk:m.ws[k]?=some w)(hf:w.f=true)(hs:w.s=true):Inv n g N (abn m k w.e) j c∧EM oJ m.log w.e=0:=by
 obtain ⟨hkl,hkw⟩:=za.1 hk
 have hmem:w∈m.ws:=Zab hk
 have hb:oI n w.e=true:=h.wf _ (Zbn hmem)
 have hb':oI m.log.size w.e=true:=by rw [h.sz];exact hb
 obtain ⟨s,q,ht,k1,k2,k3⟩:=y8 h.lg hb'
 have htn:jA n g w.e=⟨(s:Int),(q:Int)⟩:=by rw [h.sz,h.gr] at ht;exact ht
 have hsplit:m.ws=m.ws.take k++w::m.ws.drop (k+1):=by
  rw [← hkw,← zt hkl,List.take_append_drop]
 have hcnt:∀ i:Nat,(m.ws.map (·.e)).countP (tO n g i)=((m.ws.take k++m.ws.drop (k+1)).map (·.e)).countP (tO n g i)+if tO n g i w.e then 1 else 0:=fun i=>by
  conv=>lhs;rw [hsplit]
  simp only [ZaC,Zap,ZdV,List.countP_cons]
  omega
 have hE:EM oJ m.log w.e=0:=by
  rw [(BQ (v:=vX) h.lg hb' ht).1]
  rcases rJ oJ k2 with ⟨h1,_⟩|⟨i,hi,_,h2,_⟩
  ·exact h1
  ·exfalso
   apply h2
   unfold oJ
   rw [if_neg]
   rw [h.ac,hcnt,Xq htn,decide_eq_true (by omega)]
   simp only [if_true]
   omega
 obtain ⟨e1,ok1⟩:=aqN h.lg hb' ht hE
 have hsub:(m.ws.take k++m.ws.drop (k+1)).Sublist m.ws:=by
  conv=>rhs;rw [hsplit]
  exact List.Sublist.append_left (List.sublist_cons_self _ _) _
 have hl:(abn m k w.e).log=Pm vX oJ m.log w.e:=rfl
 have hw:(abn m k w.e).ws=m.ws.take k++m.ws.drop (k+1):=rfl
 refine ⟨⟨?_,h.la,h.lb,by rw [hl];exact ok1,by rw [hl,e1];exact h.sz,by rw [hl,e1];exact h.gr,h.jl,h.js,h.jg,h.st,by rw [hl,e1];exact h.su,fun e he=>?_,fun i hi=>?_,fun t h60 hd=>?_,?_,fun p hp=>h.va p (hsub.subset hp),fun p hp=>h.vb p (hsub.subset hp),?_⟩,hE⟩
 ·show (m.ok&&decide _)=true
  rw [h.ok,decide_eq_true hE];rfl
 ·rw [hw] at he
  exact h.wf e ((hsub.map _).subset he)
 ·have hi':i<m.log.act.length:=by rw [hl,e1] at hi;simpa only [fG] using hi
  have:(abn m k w.e).log.act[i]=(kP vX m.log.act s q)[i]'(by rw [fG];exact hi'):=by
   congr 1
   rw [hl,e1]
  rw [this,pF,h.ac i hi',hcnt,Xq htn,hw]
  by_cases cc:s≤i∧i<s+q
  ·rw [if_pos cc,decide_eq_true cc]
   unfold vX
   simp only [if_true]
   rw [if_neg (by omega)]
   omega
  ·rw [if_neg cc,decide_eq_false cc]
   simp
 ·obtain ⟨e,he,hi⟩:=h.df t h60 hd
  rw [hsplit] at he
  simp only [ZaC,Zap,ZaB,ZaJ] at he
  rw [hw,ZaC]
  rcases he with he|he|he
  ·exact ⟨e,Zch _ he,hi⟩
  ·exfalso
   subst he
   apply hd
   show m.a.getD t default=m.b.getD t default
   rw [h.va w hmem hf t hi,h.vb w hmem hs t hi]
  ·exact ⟨e,List.mem_append_right _ he,hi⟩
 ·rw [hw]
  exact h.ds.sublist (hsub.map _)
 ·rw [hw]
  exact zR hsub.length_le h.wl
def m0W (n g:Int)(l:List α):MW α:=⟨jY n g,ku (jY n g),l,l,[],true⟩
theorem akE {n g:Int}(h:lM n g=true)(l:List α):Inv n g l.length (m0W n g l) (jY n g) 0:=by
 obtain ⟨e1,-,ok⟩:=OD h
 refine ⟨rfl,rfl,rfl,ok,by show (jY n g).size=n;rw [e1],by show (jY n g).bg=g;rw [e1],ok,by rw [e1],by rw [e1],rfl,fun k hk=>hk,fun e he=>by simp [m0W] at he,fun k hk=>?_,fun s hN hd=>absurd rfl hd,by simp [m0W],fun p hp=>by simp [m0W] at hp,fun p hp=>by simp [m0W] at hp,by simp [m0W]⟩
 have:(m0W n g l).log.act=Zag (nM n g).toNat 0:=by show (jY n g).act=_;rw [e1]
 simp only [this,List.getElem_replicate]
 simp [m0W]
end
structure TE where
 kd:Nat
 wh:Nat
 st:Nat
 dat:List dN
def Aj (x:TE):PV:=.agg [.int .u8 (x.kd:Int),.int .u8 (x.wh:Int),.int .u8 (x.st:Int),.list 8 (x.dat.map fQ)]
theorem qj (x:TE):Aj x=.agg [.int .u8 (x.kd:Int),.int .u8 (x.wh:Int),.int .u8 (x.st:Int),.list 8 (x.dat.map fQ)]:=rfl
def Ad (x:TE):Prop:=x.kd<256∧x.wh<256∧x.st<256
def JV (l:List TE)(i:Nat):Bool:=(l.drop i).any fun x=>decide (8<x.dat.length)
theorem abq {l:List TE}{i:Nat}(h:i<l.length):JV l i=(decide (8<l[i].dat.length) || JV l (i+1)):=by
 unfold JV
 rw [zt h,Zci]
theorem agY (l:List TE):JV l l.length=false:=by
 unfold JV
 rw [ZaT (zg _)];rfl
def smT (l:List TE):Bool:=!JV l 0&&decide (l.length≤30)
def resT (l:List TE)(b:Bool):Option (Ex×St):=if b then some (.ret,⟨sl 20 [(0,.pv (.list 4 (l.map Aj))),(2,.pv (.bool false))],[],[],none⟩) else some (.normal,⟨sl 20 [(0,.pv (.list 4 (l.map Aj))),(2,.any)],[],[],none⟩)
theorem agZ (l:List TE):resT l true=some (.ret,⟨sl 20 [(0,.pv (.list 4 (l.map Aj))),(2,.pv (.bool false))],[],[],none⟩):=rfl
theorem ag0 (l:List TE):resT l false=some (.normal,⟨sl 20 [(0,.pv (.list 4 (l.map Aj))),(2,.any)],[],[],none⟩):=rfl
theorem aoX {l:List TE}(hl:l.length≤140737488351232){st:St}(h:st.head [0,3] st.boxes.length=some ⟨sl 20 [(0,.pv (.list 4 (l.map Aj))),(3,.pv (.int .i64 (0:Nat)))],[],[],none⟩) :
  den env NV st=resT l (JV l ((0:Nat))):=by
 unfold NV
 refine bG (env:=env) (nb:=0) (l.length) (fun i=>⟨sl 20 [(0,.pv (.list 4 (l.map Aj))),(3,.pv (.int .i64 i))],[],[],none⟩) (fun i=>resT l (JV l (i))) h (fun _=>rfl) (fun _=>by simp only [aQ,dY,Nat.reduceMul,Nat.reduceBEq,Nat.reduceLT,Nat.reduceLeDiff,Nat.reduceAdd,decide_true,Zai,Zaf]) ?_ ?_
 ·intro i rb hi ih
  have hi1:IntKind.i64.wrap ((i:Int)+1)=((i+1:Nat):Int):=by rw [aP (by omega)];omega
  have F1:((i:Int)<(l.length:Int))=True:=eq_true (by omega)
  have hx:(l.map Aj)[i]?=some (Aj l[i]):=by rw [zc,ZD hi];rfl
  rw [qj] at hx
  rw [abq hi]
  by_cases c:8<l[i].dat.length
  ·have F2:((l[i].dat.length:Int) > 8)=True:=eq_true (by omega)
   rw [decide_eq_true c,Zb0,agZ]
   simp only [EY,F1,F2,hx,aC hi,zb,aN,Nat.reduceMul,Nat.reduceBEq,Nat.reduceLT,Nat.reduceLeDiff,reduceCtorEq,Nat.reduceEqDiff,Nat.reduceAdd,Z1]
  ·have F2:((l[i].dat.length:Int) > 8)=False:=eq_false (by omega)
   rw [decide_eq_false c,Zbj]
   simp only [EY,F1,F2,hx,aC hi,zb,aN,Nat.reduceMul,Nat.reduceBEq,Nat.reduceLT,Nat.reduceLeDiff,reduceCtorEq,Nat.reduceEqDiff,Nat.reduceAdd,Z1]
   rw [ih _ (by simp only [hi1,aN,Nat.reduceMul,Nat.reduceBEq,Nat.reduceLT,Nat.reduceLeDiff,reduceCtorEq,Nat.reduceEqDiff,Nat.reduceAdd,Z1]<;>rfl)]
 ·intro rb
  rw [agY,ag0]
  simp only [EY,Zar,zb,aN,Nat.reduceMul,Nat.reduceBEq,Nat.reduceLT,Nat.reduceLeDiff,reduceCtorEq,Nat.reduceEqDiff,Nat.reduceAdd,Z1]
theorem aqW {l:List TE}(hl:l.length≤140737488351232):cal env 44 [.list 4 (l.map Aj)]=some [(.bool (smT l),false)]:=by
 unfold smT
 have hd:(((l.length:Int))≤30)=(l.length≤30):=by rw [eq_iff_iff];omega
 rw [aj aqz rfl];simp only [ad3,aQ,Nat.reduceBEq,Nat.reduceLeDiff,Nat.reduceAdd,zd,ze]
 simp only [hd,zb,aN,Nat.reduceMul,Nat.reduceBEq,Nat.reduceLT,Nat.reduceLeDiff,reduceCtorEq,Nat.reduceEqDiff,Nat.reduceAdd,Z1]
 rw [aoX (l:=l) hl (by simp only [aQ,dY,Nat.reduceMul,Nat.reduceBEq,Nat.reduceLT,Nat.reduceLeDiff,Nat.reduceAdd,decide_true,Zai,Zaf]<;>rfl)]
 cases JV l 0 with
 |true=>rw [agZ];simp only [hd,zb,aN,Nat.reduceMul,Nat.reduceBEq,Nat.reduceLT,Nat.reduceLeDiff,reduceCtorEq,Nat.reduceEqDiff,Nat.reduceAdd,Z1]
 |false=>rw [ag0];simp only [hd,zb,aN,Nat.reduceMul,Nat.reduceBEq,Nat.reduceLT,Nat.reduceLeDiff,reduceCtorEq,Nat.reduceEqDiff,Nat.reduceAdd,Z1]
def mP (im:jc):PV:=.list 1 (im.map bM)
def fO (a b:jc):Int:=if dR a≠0 then dR a else if dR b≠0 then dR b else if dw a=dw b then 0 else 22
def differ (a b:jc):List (List bf):=(a.zip b).map fun q=>vV q.1 q.2
def uS (a b:jc):List (List bf):=if fO a b=0 then differ a b else []
theorem oL {a b:jc}(h:dw a=dw b):a.length=b.length∧∀ i (h1:i<a.length) (h2:i<b.length),a[i].length=b[i].length:=by
 have hl:a.length=b.length:=by simpa [dw] using congrArg List.length h
 refine ⟨hl,fun i h1 h2=>?_⟩
 have:=congrArg (fun l=>l[i]?) h
 simp only [dw,zc,ZD h1,ZD h2,Zae,ZS.injEq] at this
 omega
theorem akF {A B:PV}{l:List jc}(hl:l.length≤lim)(hi0:∀ im∈l,im.length≤lim){st:St}(h:st.head [0,1,10,11,12] st.boxes.length=some ⟨[.pv A,.pv B,.any,.any,.any,.any,.any,.any,.any,.any,.row 1 (l.map mP),.pv (.int .i64 l.length),.pv (.int .i64 (0:Nat)),.any,.any,.any,.any,.any,.any,.any,.any,.any,.any,.any,.any,.any,.any,.any],[],[],none⟩) :
  den env G9 st=match l.find? (fun im=>decide (dR im≠0)) with|some im=>some (.ret,⟨[.pv A,.pv B,.any,.any,.pv (.int .i64 (dR im)),.any,.any,.any,.any,.any,.any,.any,.any,.any,.any,.any,.any,.any,.any,.any,.any,.any,.any,.any,.any,.any,.any,.any],[],[],none⟩)|none=>some (.normal,⟨[.pv A,.pv B,.any,.any,.any,.any,.any,.any,.any,.any,.any,.any,.any,.any,.any,.any,.any,.any,.any,.any,.any,.any,.any,.any,.any,.any,.any,.any],[],[],none⟩):=by
 unfold G9
 rw [ bG (env:=env) (l.length) (fun i=>⟨[.pv A,.pv B,.any,.any,.any,.any,.any,.any,.any,.any,.row 1 (l.map mP),.pv (.int .i64 l.length),.pv (.int .i64 i),.any,.any,.any,.any,.any,.any,.any,.any,.any,.any,.any,.any,.any,.any,.any],[],[],none⟩) (fun i=>match (l.drop i).find? (fun im=>decide (dR im≠0)) with|some im=>some (.ret,⟨[.pv A,.pv B,.any,.any,.pv (.int .i64 (dR im)),.any,.any,.any,.any,.any,.any,.any,.any,.any,.any,.any,.any,.any,.any,.any,.any,.any,.any,.any,.any,.any,.any,.any],[],[],none⟩)|none=>some (.normal,⟨[.pv A,.pv B,.any,.any,.any,.any,.any,.any,.any,.any,.any,.any,.any,.any,.any,.any,.any,.any,.any,.any,.any,.any,.any,.any,.any,.any,.any,.any],[],[],none⟩)) h (fun _=>rfl) (fun _=>rfl) ?_ ?_]
 ·first|rfl|simp only [ZaE,Zba,Zao,Zaj,ZaW,List.foldl_nil]
 ·intro i rb hi ih
  have hi1:=bH hi hl
  have F1:((i:Int)<(l.length:Int))=True:=eq_true (by omega)
  have e1:=alv (hi0 _ (Zad hi))
  rw [zt hi,Zdi]
  by_cases hc:dR l[i]=0
  ·have F2:(dR l[i] != 0)=false:=by simp [hc]
   simp only [Bq,F1,F2,e1,mP,aC hi,zc,ZD hi,aY,reduceCtorEq,Nat.reduceEqDiff,Nat.reduceAdd,Nat.reduceLT,Nat.reduceLeDiff,Z1]
   rw [ih _ (by simp only [hi1];rfl)]
   simp only [hc,ne_eq,not_true,decide_false]
  ·have F2:(dR l[i] != 0)=true:=by simp [hc]
   simp only [Bq,F1,F2,e1,mP,aC hi,zc,ZD hi,aY,reduceCtorEq,Nat.reduceEqDiff,Nat.reduceAdd,Nat.reduceLT,Nat.reduceLeDiff,Z1]
   simp only [hc,ne_eq,not_false_eq_true,decide_true]
   rfl
 ·intro rb
  simp only [Bq,Zar,aY,reduceCtorEq,Nat.reduceEqDiff,Nat.reduceAdd,Nat.reduceLT,Nat.reduceLeDiff,Z1]
  rw [ZaO]
  rfl
theorem aoY {a b:jc}(ha:a.length≤lim)(hb:b.length≤lim):cal env 158 [.list 1 (a.map bM),.list 1 (b.map bM)]=some [(.int .i64 (fO a b),false)]:=by
 have h2:∀ im∈[a,b],im.length≤lim:=by simp;exact ⟨ha,hb⟩
 have e1:=Xd ha
 have e2:=Xd hb
 have e3:=aqF (l:=dw a) (m:=dw b) (by simpa [dw] using ha)
 rw [aj amZ rfl];simp only [Ru];simp only [start,aH,aK,aF,aJ,aA,aB,aG,aI,Nat.reduceAdd,Nat.reduceSub]
 simp only [e1,e2,e3,aY,reduceCtorEq,Nat.reduceEqDiff,Nat.reduceAdd,Nat.reduceLT,Nat.reduceLeDiff,Z1]
 rw [akF (l:=[a,b]) (by simp [lim]) h2]
 rotate_left
 ·rfl
 ·simp only [Zdi,List.find?_nil,fO]
  by_cases c1:dR a=0
  ·by_cases c2:dR b=0
   ·by_cases c4:dw a=dw b
    ·have hd:=decide_eq_true c4
     simp only [c1,c2,hd,ne_eq,not_true,decide_false,e1,e2,e3,aY,reduceCtorEq,Nat.reduceEqDiff,Nat.reduceAdd,Nat.reduceLT,Nat.reduceLeDiff,Z1]
     rw [if_pos c4]
    ·have hd:=decide_eq_false c4
     simp only [c1,c2,hd,ne_eq,not_true,decide_false,e1,e2,e3,aY,reduceCtorEq,Nat.reduceEqDiff,Nat.reduceAdd,Nat.reduceLT,Nat.reduceLeDiff,Z1]
     rw [if_neg c4]
   ·simp only [c1,c2,ne_eq,not_true,not_false_eq_true,decide_false,decide_true,if_false,if_true,e1,e2,e3,aY,reduceCtorEq,Nat.reduceEqDiff,Nat.reduceAdd,Nat.reduceLT,Nat.reduceLeDiff,Z1]
  ·simp only [c1,ne_eq,not_true,not_false_eq_true,decide_false,decide_true,if_false,if_true,e1,e2,e3,aY,reduceCtorEq,Nat.reduceEqDiff,Nat.reduceAdd,Nat.reduceLT,Nat.reduceLeDiff,Z1]
theorem aoZ {a b:jc}(hl:a.length≤lim)(hr:∀ v∈a,v.length≤lim)(hab:a.length=b.length)(hs:∀ i (h1:i<a.length) (h2:i<b.length),a[i].length=b[i].length)
  {st:St} (h:st.head [0,1,7,16,17,31] st.boxes.length=some ⟨[.pv (.list 1 (a.map bM)),.pv (.list 1 (b.map bM)),.any,.any,.any,.any,.any,.row 1 [],.any,.any,.any,.any,.any,.any,.any,.any,.pv (.int .i64 a.length),.pv (.int .i64 (0:Nat)),.any,.any,.any,.any,.any,.any,.any,.any,.any,.any,.any,.any,.any,.any,.any,.any],[],[],none⟩) :
  den env Ob st=some (.normal,⟨[.any,.any,.any,.any,.any,.any,.any,.row 1 ((differ a b).map bT),.any,.any,.any,.any,.any,.any,.any,.any,.any,.any,.any,.any,.any,.any,.any,.any,.any,.any,.any,.any,.any,.any,.any,.any,.any,.any],[],[],none⟩):=by
 unfold Ob
 have hz:(a.zip b).length=a.length:=by simp;omega
 refine bG (env:=env) a.length (fun i=>⟨[.pv (.list 1 (a.map bM)),.pv (.list 1 (b.map bM)),.any,.any,.any,.any,.any,.row 1 (((a.zip b).take i).map fun q=>bT (vV q.1 q.2)),.any,.any,.any,.any,.any,.any,.any,.any,.pv (.int .i64 a.length),.pv (.int .i64 i),.any,.any,.any,.any,.any,.any,.any,.any,.any,.any,.any,.any,.any,.any,.any,.any],[],[],none⟩) (fun i=>some (.normal,⟨[.any,.any,.any,.any,.any,.any,.any,.row 1 ((differ a b).map bT),.any,.any,.any,.any,.any,.any,.any,.any,.any,.any,.any,.any,.any,.any,.any,.any,.any,.any,.any,.any,.any,.any,.any,.any,.any,.any],[],[],none⟩)) h (fun _=>rfl) (fun _=>rfl) ?_ ?_
 ·intro i rb hi ih
  have hi1:=bH hi hl
  have hj:i<b.length:=by omega
  have hiz:i<(a.zip b).length:=by omega
  have F1:((i:Int)<(a.length:Int))=True:=eq_true (by omega)
  have F2:(((a.zip b).take i).length+1≤lim)=True:=eq_true (by rw [Zac];omega)
  have e1:=an5 (hr _ (Zad hi)) (hs i hi hj)
  simp only [Oa,F1,F2,e1,bM,aC hi,aC hj,zc,ZD hi,ZD hj,aY,reduceCtorEq,Nat.reduceEqDiff,Nat.reduceAdd,Nat.reduceLT,Nat.reduceLeDiff,Z1]
  rw [ih _ (by simp only [hi1];rw [← zA _ hiz,Zd5];rfl)]
 ·intro rb
  simp only [Oa,Zar,aY,reduceCtorEq,Nat.reduceEqDiff,Nat.reduceAdd,Nat.reduceLT,Nat.reduceLeDiff,Z1]
  rw [← hz,ZaL]
  simp only [differ,List.map_map]
  rfl
theorem alE {a b:jc}(ha:a.length≤lim)(hb':b.length≤lim)(hr:∀ v∈a,v.length≤lim):cal env 67 [.list 1 (a.map bM),.list 1 (b.map bM)]=some [(.list 1 ((uS a b).map bT),true),(.int .i64 (fO a b),false)]:=by
 have e1:=aoY ha hb'
 unfold uS
 by_cases c:fO a b=0
 ·have hs:dw a=dw b:=by
   unfold fO at c
   split at c
   ·omega
   ·split at c
    ·omega
    ·split at c
     ·assumption
     ·omega
  have G1:(fO a b != 0)=false:=by simp [c]
  rw [aj alq rfl];simp only [aaE];simp only [start,aH,aK,aF,aJ,aA,aB,aG,aI,Nat.reduceAdd,Nat.reduceSub]
  simp only [G1,e1,aY,reduceCtorEq,Nat.reduceEqDiff,Nat.reduceAdd,Nat.reduceLT,Nat.reduceLeDiff,Z1]
  rw [aoZ ha hr (oL hs).1 (oL hs).2]
  rotate_left
  ·rfl
  ·simp only [c,aY,reduceCtorEq,Nat.reduceEqDiff,Nat.reduceAdd,Nat.reduceLT,Nat.reduceLeDiff,Z1]
 ·have G1:(fO a b != 0)=true:=by simp [c]
  rw [aj alq rfl];simp only [aaE];simp only [start,aH,aK,aF,aJ,aA,aB,aG,aI,Nat.reduceAdd,Nat.reduceSub]
  simp only [G1,e1,aY,reduceCtorEq,Nat.reduceEqDiff,Nat.reduceAdd,Nat.reduceLT,Nat.reduceLeDiff,Z1]
  simp only [c,if_false]
  rfl
structure TW where
 st:Int
 dat:List dN
 f:Bool
 s:Bool
structure TM where
 a:List dN
 b:List dN
 log:iZ
 Jb:List Nat
 ws:List TW
 ok:Bool
def Cj (w:TW):PV:=.agg [.int .i64 0,.int .i64 w.st,.list 8 (w.dat.map fQ),.bool w.f,.bool w.s]
theorem Xt (w:TW):Cj w=.agg [.int .i64 0,.int .i64 w.st,.list 8 (w.dat.map fQ),.bool w.f,.bool w.s]:=rfl
def Ak (m:TM):PV:=.agg [mP [m.a],mP [m.b],.int .i64 m.log.size,.int .i64 m.log.bg,.list 1 (m.log.act.map eI),.int .i64 m.log.bm.size,.list 1 (m.log.bm.ws.map eW),.list 1 (m.Jb.map eY),.list 5 (m.ws.map Cj),.bool m.ok]
def cT (m:TM):List BV:=[.pv (mP [m.a]),.pv (mP [m.b]),.pv (.int .i64 m.log.size),.pv (.int .i64 m.log.bg),.pv (.list 1 (m.log.act.map eI)),.pv (.int .i64 m.log.bm.size),.pv (.list 1 (m.log.bm.ws.map eW)),.pv (.list 1 (m.Jb.map eY)),.pv (.list 5 (m.ws.map Cj)),.pv (.bool m.ok)]
def ovT (ws:List TW)(st:Int)(dl:Nat)(i:Nat):Bool:=(ws.drop i).any fun o=>decide (st<o.st+(o.dat.length:Int))&&decide (o.st<st+(dl:Int))
theorem ag1 {ws:List TW}{st:Int}{dl i:Nat}(h:i<ws.length):ovT ws st dl i=((decide (st<ws[i].st+(ws[i].dat.length:Int))&&decide (ws[i].st<st+(dl:Int))) || ovT ws st dl (i+1)):=by
 unfold ovT
 rw [zt h,Zci]
theorem akG (ws:List TW)(st:Int)(dl:Nat):ovT ws st dl ws.length=false:=by
 unfold ovT
 rw [ZaT (zg _)];rfl
theorem uT (m:TM):cT m=[.pv (mP [m.a]),.pv (mP [m.b]),.pv (.int .i64 m.log.size),.pv (.int .i64 m.log.bg),.pv (.list 1 (m.log.act.map eI)),.pv (.int .i64 m.log.bm.size),.pv (.list 1 (m.log.bm.ws.map eW)),.pv (.list 1 (m.Jb.map eY)),.pv (.list 5 (m.ws.map Cj)),.pv (.bool m.ok)]:=rfl
def bW (st:Int)(dat:List dN):List BV:=[.pv (.int .i64 0),.pv (.int .i64 st),.pv (.list 8 (dat.map fQ))]
theorem Ew (st:Int)(dat:List dN):bW st dat=[.pv (.int .i64 0),.pv (.int .i64 st),.pv (.list 8 (dat.map fQ))]:=rfl
def akH (m:TM)(st:Int)(dat:List dN)(V Z:List BV)(b:Bool):Option (Ex×St):=if b then some (.ret,⟨sl 126 [(2,.aX 0 0),(4,.aX 2 0),(6,.aX 3 0)],[⟨false,cT m⟩,⟨false,V⟩,⟨false,cT m⟩,⟨false,bW st dat⟩],[],none⟩) else some (.normal,⟨sl 126 [(2,.aX 0 0),(4,.aX 2 0),(6,.aX 3 0)],[⟨false,cT m⟩,⟨false,V⟩,⟨false,Z⟩,⟨false,bW st dat⟩],[],none⟩)
theorem ag2 (m:TM)(st:Int)(dat:List dN)(V Z:List BV):akH m st dat V Z true=some (.ret,⟨sl 126 [(2,.aX 0 0),(4,.aX 2 0),(6,.aX 3 0)],[⟨false,cT m⟩,⟨false,V⟩,⟨false,cT m⟩,⟨false,bW st dat⟩],[],none⟩):=rfl
theorem ag3 (m:TM)(st:Int)(dat:List dN)(V Z:List BV):akH m st dat V Z false=some (.normal,⟨sl 126 [(2,.aX 0 0),(4,.aX 2 0),(6,.aX 3 0)],[⟨false,cT m⟩,⟨false,V⟩,⟨false,Z⟩,⟨false,bW st dat⟩],[],none⟩):=rfl
def aqX (ws:List TW):Prop:=∀ w∈ws,0≤w.st∧w.st+(w.dat.length:Int)≤4096
set_option maxRecDepth 20000 in
theorem akI {m:TM}{sa:Int}{dat:List dN}{V Z:List BV}(hl:m.ws.length≤1000)(hw:aqX m.ws)(hst:0≤sa∧sa+(dat.length:Int)≤4096)(hZ:Z.length=10){st:St}(h:st.head [2,4,6,7] st.boxes.length=some ⟨sl 126 [(2,.aX 0 0),(4,.aX 2 0),(6,.aX 3 0),(7,.pv (.int .i64 (0:Nat)))],[⟨false,cT m⟩,⟨false,V⟩,⟨false,Z⟩,⟨false,bW sa dat⟩],[],none⟩) :
  den env Hu st=akH m sa dat V Z (ovT m.ws sa dat.length ((0:Nat))):=by
 unfold Hu
 refine bG (env:=env) (nb:=4) (m.ws.length) (fun i=>⟨sl 126 [(2,.aX 0 0),(4,.aX 2 0),(6,.aX 3 0),(7,.pv (.int .i64 i))],[⟨false,cT m⟩,⟨false,V⟩,⟨false,Z⟩,⟨false,bW sa dat⟩],[],none⟩) (fun i=>akH m sa dat V Z (ovT m.ws sa dat.length (i))) h (fun _=>rfl) (fun _=>by simp only [aQ,dY,Nat.reduceMul,Nat.reduceBEq,Nat.reduceLT,Nat.reduceLeDiff,Nat.reduceAdd,decide_true,Zai,Zaf]) ?_ ?_
 ·intro i rb hi ih
  have hi1:=bH hi (by unfold lim;omega)
  have F1:((i:Int)<(m.ws.length:Int))=True:=eq_true (by omega)
  have q:=hw _ (Zad hi)
  have hx:(m.ws.map Cj)[i]?=some (Cj m.ws[i]):=by rw [zc,ZD hi];rfl
  rw [Xt] at hx
  have hZd:Zdj 10 Z=[]:=ZaT (by omega)
  have P3:∀ x0 x1 x2 x3 x4:PV,part [x0,x1,x2,x3,x4] 0 (some 3)=some (.agg [x0,x1,x2]):=fun _ _ _ _ _=>rfl
  have Am:∀ x0 x1 x2 x3 x4 x5 x6 x7 x8 x9:PV,part [x0,x1,x2,x3,x4,x5,x6,x7,x8,x9] 0 (some 10)=some (.agg [x0,x1,x2,x3,x4,x5,x6,x7,x8,x9]):=fun _ _ _ _ _ _ _ _ _ _=>rfl
  rw [ag1 hi]
  generalize m.ws[i]=o at *
  have W1:IntKind.i64.wrap (o.st+(o.dat.length:Int))=o.st+(o.dat.length:Int):=aP (by omega)
  have W2:IntKind.i64.wrap (sa+(dat.length:Int))=sa+(dat.length:Int):=aP (by omega)
  by_cases c1:sa<o.st+(o.dat.length:Int)
  ·have F2:=eq_true c1
   rw [decide_eq_true c1,Zaf]
   by_cases c2:o.st<sa+(dat.length:Int)
   ·have F3:=eq_true c2
    rw [decide_eq_true c2,Zb0,ag2]
    simp only [xX,F1,F2,F3,W1,W2,P3,Am,hx,hZ,hZd,uT,Ew,aC hi,zb,aN,Nat.reduceMul,Nat.reduceBEq,Nat.reduceLT,Nat.reduceLeDiff,reduceCtorEq,Nat.reduceEqDiff,Nat.reduceAdd,Z1]
   ·have F3:=eq_false c2
    rw [decide_eq_false c2,Zbj]
    simp only [xX,F1,F2,F3,W1,W2,P3,hx,uT,Ew,aC hi,zb,aN,Nat.reduceMul,Nat.reduceBEq,Nat.reduceLT,Nat.reduceLeDiff,reduceCtorEq,Nat.reduceEqDiff,Nat.reduceAdd,Z1]
    rw [ih _ (by simp only [hi1,uT,Ew,aN,Nat.reduceMul,Nat.reduceBEq,Nat.reduceLT,Nat.reduceLeDiff,reduceCtorEq,Nat.reduceEqDiff,Nat.reduceAdd,Z1]<;>rfl)]
  ·have F2:=eq_false c1
   rw [decide_eq_false c1,Bool.false_and,Zbj]
   simp only [xX,F1,F2,W1,W2,P3,hx,uT,Ew,aC hi,zb,aN,Nat.reduceMul,Nat.reduceBEq,Nat.reduceLT,Nat.reduceLeDiff,reduceCtorEq,Nat.reduceEqDiff,Nat.reduceAdd,Z1]
   rw [ih _ (by simp only [hi1,uT,Ew,aN,Nat.reduceMul,Nat.reduceBEq,Nat.reduceLT,Nat.reduceLeDiff,reduceCtorEq,Nat.reduceEqDiff,Nat.reduceAdd,Z1]<;>rfl)]
 ·intro rb
  rw [akG,ag3]
  simp only [xX,Zar,uT,Ew,zb,aN,Nat.reduceMul,Nat.reduceBEq,Nat.reduceLT,Nat.reduceLeDiff,reduceCtorEq,Nat.reduceEqDiff,Nat.reduceAdd,Z1]
def pI (m:TM)(x:TE):Nat:=x.st % m.a.length
def sD (m:TM)(x:TE):List dN:=x.dat.take (min x.dat.length (m.a.length - pI m x))
def U2 (m:TM)(x:TE):bf:=⟨(pI m x:Int),((sD m x).length:Int)⟩
def YD (m:TM)(x:TE):TM:=if x.dat.length=0 then m else if ovT m.ws (pI m x:Int) (sD m x).length 0 then m else
 ⟨m.a,m.b,JQ m.log (U2 m x),if bgS m.log (U2 m x) then ku (JQ m.log (U2 m x)) else m.Jb,m.ws++[⟨(pI m x:Int),sD m x,false,false⟩],true⟩
set_option maxRecDepth 20000 in
theorem ao0 {m:TM}{x:TE}(ha:1≤m.a.length∧m.a.length≤60)(ho:gB m.log=true)(hx:Ad x)(hdl:x.dat.length≤1000)(hw:aqX m.ws)(hl:m.ws.length≤1000)(hok:m.ok=true)(hE:x.dat.length≠0→bgE m.log (U2 m x)=0):cal env 210 [Ak m,Aj x]=some [(Ak (YD m x),false)]:=by
 obtain ⟨x1,x2,x3⟩:=hx
 have eX:mP [m.a]=.list 1 [.list 8 (m.a.map fQ)]:=rfl
 have Am:∀ x0 x1 x2 x3 x4 x5 x6 x7 x8 x9:PV,part [x0,x1,x2,x3,x4,x5,x6,x7,x8,x9] 0 (some 10)=some (.agg [x0,x1,x2,x3,x4,x5,x6,x7,x8,x9]):=fun _ _ _ _ _ _ _ _ _ _=>rfl
 have N1:(((1:Nat):Int) != 1)=false:=rfl
 have i0:index (PV.int IntKind.i64 0) 1=some 0:=rfl
 have A0:((m.a.length:Int)==0)=false:=by simp;intro e;rw [e] at ha;simp at ha
 by_cases c0:x.dat.length=0
 ·have D0:((x.dat.length:Int)==0)=true:=by rw [c0];rfl
  have hQ:YD m x=m:=by unfold YD;rw [if_pos c0]
  rw [hQ]
  unfold Ak
  rw [eX,qj]
  rw [aj afe rfl];simp only [Le,aQ,Nat.reduceBEq,Nat.reduceLeDiff,Nat.reduceAdd,zd,ze]
  simp only [Am,N1,i0,A0,D0,zb,aN,Nat.reduceMul,Nat.reduceBEq,Nat.reduceLT,Nat.reduceLeDiff,reduceCtorEq,Nat.reduceEqDiff,Nat.reduceAdd,Z1]
  done
 ·have D0:((x.dat.length:Int)==0)=false:=by simpa using c0
  have MW:(x.st:Int).tmod (m.a.length:Int)=((pI m x:Nat):Int):=by rw [Zas (by omega)];rfl
  have FL:((m.a.length:Int)=0)=False:=eq_false (by omega)
  have W1:IntKind.i64.wrap (x.st:Int)=x.st:=aP (by omega)
  have hp:pI m x<m.a.length:=Nat.mod_lt _ (by omega)
  have W2:IntKind.i64.wrap ((m.a.length:Int) - (pI m x:Int))=(m.a.length:Int) - (pI m x:Int):=aP (by omega)
  obtain ⟨dl,hd⟩:∃ dl,min x.dat.length (m.a.length - pI m x)=dl:=⟨_,rfl⟩
  have MN:(if (m.a.length:Int) - (pI m x:Int)<(x.dat.length:Int) then (m.a.length:Int) - (pI m x:Int) else (x.dat.length:Int))=(dl:Int):=by
   rw [← hd];split<;>omega
  have B0:(0≤(dl:Int))=True:=eq_true (by omega)
  have B1:((dl:Int)≤(x.dat.length:Int))=True:=eq_true (by omega)
  have TK:List.take dl (x.dat.map fQ)=(sD m x).map fQ:=by unfold sD;rw [hd,Zcj]
  have aue:(sD m x).length=dl:=by unfold sD;rw [hd,Zac];omega
  unfold Ak
  rw [eX,qj]
  rw [aj afe rfl];simp only [Le,aQ,Nat.reduceBEq,Nat.reduceLeDiff,Nat.reduceAdd,zd,ze]
  simp only [Am,N1,i0,A0,D0,MW,FL,W1,W2,MN,B0,B1,TK,Zav,ZbH,zb,aN,Nat.reduceMul,Nat.reduceBEq,Nat.reduceLT,Nat.reduceLeDiff,reduceCtorEq,Nat.reduceEqDiff,Nat.reduceAdd,Z1]
  rw [akI (m:=m) (sa:=(pI m x:Int)) (dat:=sD m x) (Z:=[.pv (.list 0 []),.pv (.list 0 []),.pv (.int .i64 0),.pv (.int .i64 0),.pv (.list 0 []),.pv (.int .i64 0),.pv (.list 0 []),.pv (.list 0 []),.pv (.list 0 []),.pv (.bool false)]) hl hw (by rw [aue];omega) rfl (by simp only [uT,Ew,eX];simp only [aQ,dY,Nat.reduceMul,Nat.reduceBEq,Nat.reduceLT,Nat.reduceLeDiff,Nat.reduceAdd,decide_true,Zai,Zaf]<;>rfl)]
  cases hov:ovT m.ws (pI m x:Int) (sD m x).length 0 with
  |true =>
   have hQ:YD m x=m:=by unfold YD;rw [if_neg c0,hov];rfl
   rw [hQ,ag2]
   simp only [uT,eX]
   simp only [Am,N1,i0,A0,D0,MW,FL,W1,W2,MN,B0,B1,TK,Zav,ZbH,zb,aN,Nat.reduceMul,Nat.reduceBEq,Nat.reduceLT,Nat.reduceLeDiff,reduceCtorEq,Nat.reduceEqDiff,Nat.reduceAdd,Z1]
   done
  |false =>
   rw [ag3]
   have hE:=hE c0
   obtain ⟨i1,i2,i3,i4,i5⟩:=bQ.1 ho
   obtain ⟨z1,z2,z3,z4⟩:=dA.1 i1
   have hla:m.log.act.length≤lim:=by have:=l9 i1;unfold lim;omega
   obtain ⟨I,hI⟩:∃ I,JQ m.log (U2 m x)=I:=⟨_,rfl⟩
   have hIk:=akx ho hE
   rw [hI] at hIk
   have hB:cal env 88 [.agg [.int .i64 m.log.size,.int .i64 m.log.bg,.list 1 (m.log.act.map eI),.int .i64 m.log.bm.size,.list 1 (m.log.bm.ws.map eW)],.agg [.int .i64 (pI m x:Int),.int .i64 ((sD m x).length:Int)]]=some [(.agg [.int .i64 I.size,.int .i64 I.bg,.list 1 (I.act.map eI),.int .i64 I.bm.size,.list 1 (I.bm.ws.map eW)],false),(.bool (bgS m.log (U2 m x)),false),(.int .i64 0,false)]:=by
    have:=aqM (i:=m.log) (e:=U2 m x) hla
    rw [hI,hE] at this
    exact this
   have hN:cal env 90 [.agg [.int .i64 I.size,.int .i64 I.bg,.list 1 (I.act.map eI),.int .i64 I.bm.size,.list 1 (I.bm.ws.map eW)]]=some [(.list 1 ((ku I).map eY),true)]:=agN (by rw [hIk.2.2.2];exact hla)
   have P5:∀ a b c d e:PV,part [a,b,c,d,e] 0 (some 5)=some (.agg [a,b,c,d,e]):=fun _ _ _ _ _=>rfl
   have P3:∀ a b c:PV,part [a,b,c] 0 (some 3)=some (.agg [a,b,c]):=fun _ _ _=>rfl
   have E0:((0:Int)==0)=true:=rfl
   have L1:m.ws.length≤lim:=by unfold lim;omega
   have L2:m.ws.length+1≤lim:=by unfold lim;omega
   have hW:Zcs Cj m.ws++[.agg [.int .i64 0,.int .i64 (pI m x:Int),.list 8 ((sD m x).map fQ),.bool false,.bool false]]=(m.ws++[(⟨(pI m x:Int),sD m x,false,false⟩:TW)]).map Cj:=by rw [ZaC];rfl
   simp only [uT,Ew,eX]
   cases hb:bgS m.log (U2 m x) with
   |true =>
    have hQ:YD m x=⟨m.a,m.b,I,ku I,m.ws++[⟨(pI m x:Int),sD m x,false,false⟩],true⟩:=by unfold YD;rw [if_neg c0,hov,hI,hb];rfl
    rw [hb] at hB
    rw [hQ]
    simp only [Am,P5,P3,E0,hok,hB,hN,L1,L2,hW,N1,i0,Zav,ZbH,zb,aN,Nat.reduceMul,Nat.reduceBEq,Nat.reduceLT,Nat.reduceLeDiff,reduceCtorEq,Nat.reduceEqDiff,Nat.reduceAdd,Z1]
    rfl
   |false =>
    have hQ:YD m x=⟨m.a,m.b,I,m.Jb,m.ws++[⟨(pI m x:Int),sD m x,false,false⟩],true⟩:=by unfold YD;rw [if_neg c0,hov,hI,hb];rfl
    rw [hb] at hB
    rw [hQ]
    simp only [Am,P5,P3,E0,hok,hB,hN,L1,L2,hW,N1,i0,Zav,ZbH,zb,aN,Nat.reduceMul,Nat.reduceBEq,Nat.reduceLT,Nat.reduceLeDiff,reduceCtorEq,Nat.reduceEqDiff,Nat.reduceAdd,Z1]
    rfl
def clT (m:TM)(x:TE):TM:=⟨m.a,m.b,zl m.log,if x.wh % 2=0 then ku (zl m.log) else m.Jb,m.ws,m.ok⟩
set_option maxRecDepth 20000 in
theorem akJ {m q:TM}{x:TE}(hx:Ad x)(hK:x.kd % 5=0)(hB:cal env 210 [Ak m,Aj x]=some [(Ak q,false)]):cal env 134 [Ak m,Aj x]=some [(Ak q,false)]:=by
 obtain ⟨x1,x2,x3⟩:=hx
 have hk5:(x.kd:Int).tmod 5=0:=by rw [Zas (by omega)];omega
 have F5:((5:Int)=0)=False:=eq_false (by decide)
 have E0:((0:Int)==0)=true:=rfl
 have Am:∀ x0 x1 x2 x3 x4 x5 x6 x7 x8 x9:PV,part [x0,x1,x2,x3,x4,x5,x6,x7,x8,x9] 0 (some 10)=some (.agg [x0,x1,x2,x3,x4,x5,x6,x7,x8,x9]):=fun _ _ _ _ _ _ _ _ _ _=>rfl
 have P4:∀ a b c d:PV,part [a,b,c,d] 0 (some 4)=some (.agg [a,b,c,d]):=fun _ _ _ _=>rfl
 unfold Ak at hB ⊢
 rw [qj] at hB ⊢
 rw [aj rG rfl];simp only [rE,aQ,Nat.reduceBEq,Nat.reduceLeDiff,Nat.reduceAdd,zd,ze]
 simp only [Am,P4,hk5,F5,E0,hB,zb,aN,Nat.reduceMul,Nat.reduceBEq,Nat.reduceLT,Nat.reduceLeDiff,reduceCtorEq,Nat.reduceEqDiff,Nat.reduceAdd,Z1]
set_option maxRecDepth 20000 in
theorem akK {m:TM}{x:TE}(ho:gB m.log=true)(hx:Ad x)(hK:x.kd % 5=4):cal env 134 [Ak m,Aj x]=some [(Ak (clT m x),false)]:=by
 obtain ⟨x1,x2,x3⟩:=hx
 have hk5:(x.kd:Int).tmod 5=4:=by rw [Zas (by omega)];omega
 have hw2:(x.wh:Int).tmod 2=((x.wh % 2:Nat):Int):=by rw [Zas (by omega)];rfl
 have F5:((5:Int)=0)=False:=eq_false (by decide)
 have F2:((2:Int)=0)=False:=eq_false (by decide)
 have E0:((4:Int)==0)=false:=rfl
 have E1:((4:Int)==4)=true:=rfl
 obtain ⟨i1,i2,i3,i4,i5⟩:=bQ.1 ho
 have hla:m.log.act.length≤lim:=by have:=l9 i1;have:=dA.1 i1;unfold lim;omega
 obtain ⟨I,hI⟩:∃ I,zl m.log=I:=⟨_,rfl⟩
 have hC:cal env 211 [.agg [.int .i64 m.log.size,.int .i64 m.log.bg,.list 1 (m.log.act.map eI),.int .i64 m.log.bm.size,.list 1 (m.log.bm.ws.map eW)]]=some [(.agg [.int .i64 I.size,.int .i64 I.bg,.list 1 (I.act.map eI),.int .i64 I.bm.size,.list 1 (I.bm.ws.map eW)],false),(.bool (aos m.log),false)]:=by
  have:=aot hla
  rw [hI] at this
  exact this
 have hIa:I.act=m.log.act:=by rw [← hI];exact (Uo ho).2.2.2.1
 have hN:cal env 90 [.agg [.int .i64 I.size,.int .i64 I.bg,.list 1 (I.act.map eI),.int .i64 I.bm.size,.list 1 (I.bm.ws.map eW)]]=some [(.list 1 ((ku I).map eY),true)]:=agN (by rw [hIa];exact hla)
 have P5:∀ a b c d e:PV,part [a,b,c,d,e] 0 (some 5)=some (.agg [a,b,c,d,e]):=fun _ _ _ _ _=>rfl
 have Am:∀ x0 x1 x2 x3 x4 x5 x6 x7 x8 x9:PV,part [x0,x1,x2,x3,x4,x5,x6,x7,x8,x9] 0 (some 10)=some (.agg [x0,x1,x2,x3,x4,x5,x6,x7,x8,x9]):=fun _ _ _ _ _ _ _ _ _ _=>rfl
 unfold clT
 rw [hI]
 unfold Ak
 rw [qj]
 rcases (by omega:x.wh % 2=0∨x.wh % 2=1) with cw|cw
 ·have W0:(((x.wh % 2:Nat):Int)==0)=true:=by rw [cw];rfl
  rw [if_pos cw]
  rw [aj rG rfl];simp only [rE,aQ,Nat.reduceBEq,Nat.reduceLeDiff,Nat.reduceAdd,zd,ze]
  simp only [P5,Am,hk5,hw2,F5,F2,E0,E1,hC,hN,W0,zb,aN,Nat.reduceMul,Nat.reduceBEq,Nat.reduceLT,Nat.reduceLeDiff,reduceCtorEq,Nat.reduceEqDiff,Nat.reduceAdd,Z1]
 ·have W0:(((x.wh % 2:Nat):Int)==0)=false:=by rw [cw];rfl
  rw [if_neg (by omega)]
  rw [aj rG rfl];simp only [rE,aQ,Nat.reduceBEq,Nat.reduceLeDiff,Nat.reduceAdd,zd,ze]
  simp only [P5,Am,hk5,hw2,F5,F2,E0,E1,hC,hN,W0,zb,aN,Nat.reduceMul,Nat.reduceBEq,Nat.reduceLT,Nat.reduceLeDiff,reduceCtorEq,Nat.reduceEqDiff,Nat.reduceAdd,Z1]
set_option maxRecDepth 20000 in
theorem akL {m:TM}{x:TE}(hx:Ad x)(hK0:x.kd % 5≠0)(hK4:x.kd % 5≠4)(hw:m.ws=[]):cal env 134 [Ak m,Aj x]=some [(Ak m,false)]:=by
 obtain ⟨x1,x2,x3⟩:=hx
 obtain ⟨K,hk⟩:∃ K,x.kd % 5=K:=⟨_,rfl⟩
 rw [hk] at hK0 hK4
 have hk5:(x.kd:Int).tmod 5=(K:Int):=by rw [Zas (by omega)];omega
 have F5:((5:Int)=0)=False:=eq_false (by decide)
 have E0:((K:Int)==0)=false:=by simp;omega
 have E4:((K:Int)==4)=false:=by simp;omega
 have EL:((m.ws.length:Int)==0)=true:=by rw [hw];rfl
 have Am:∀ x0 x1 x2 x3 x4 x5 x6 x7 x8 x9:PV,part [x0,x1,x2,x3,x4,x5,x6,x7,x8,x9] 0 (some 10)=some (.agg [x0,x1,x2,x3,x4,x5,x6,x7,x8,x9]):=fun _ _ _ _ _ _ _ _ _ _=>rfl
 unfold Ak
 rw [qj]
 rw [aj rG rfl];simp only [rE,aQ,Nat.reduceBEq,Nat.reduceLeDiff,Nat.reduceAdd,zd,ze]
 simp only [Am,hk5,F5,E0,E4,EL,zb,aN,Nat.reduceMul,Nat.reduceBEq,Nat.reduceLT,Nat.reduceLeDiff,reduceCtorEq,Nat.reduceEqDiff,Nat.reduceAdd,Z1]
instance:Inhabited dN:=⟨vg⟩
theorem ao1 {a d:List dN}{s:Nat}(h:s+d.length≤a.length):putAt a s d=wrA a ⟨(s:Int),(d.length:Int)⟩ (fun k=>d.getD (k - s) vg):=by
 apply ZbV
 intro k
 unfold putAt wrA
 rw [List.getElem?_mapIdx]
 by_cases c1:k<s
 ·rw [Zam,Zaa (by simp;omega),Zak,if_pos c1]
  have:tq ⟨(s:Int),(d.length:Int)⟩ k=false:=by
   rw [Za0];intro e;have:=tC.1 e;simp only at this;omega
  simp [this]
 ·by_cases c2:k<s+d.length
  ·have:tq ⟨(s:Int),(d.length:Int)⟩ k=true:=tC.2 (by simp only;omega)
   rw [Zaa (by simp;omega),zE (by simp;omega)]
   have hk:k - (a.take s).length=k - s:=by simp;omega
   rw [hk,ZD (show k<a.length by omega),ZD (show k - s<d.length by omega)]
   simp [this,zP,ZD (show k - s<d.length by omega)]
  ·have:tq ⟨(s:Int),(d.length:Int)⟩ k=false:=by
    rw [Za0];intro e;have:=tC.1 e;simp only at this;omega
   rw [zE (by simp;omega)]
   have hk:k - (a.take s++d).length=k - (s+d.length):=by simp;omega
   rw [hk,Zay,show s+d.length+(k - (s+d.length))=k by omega]
   simp [this]
end Go.Proofs.YthccglceomoboaaGreatDoor.V
namespace Go.Proofs.YthccglceomoboaaGreatDoor
open Go.RowKit
structure uh (W:World)(g:Nat) where
 w:World
 grown:W.grownBy w (some g)
instance (W:World) (g:Nat):Nonempty (uh W g):=⟨⟨W,World.grownBy.refl _ _⟩⟩
theorem uh.of {W w:World}{g:Nat}(h:W.grownBy w (some g)):∃ x:uh W g,w=x.w:=⟨⟨w,h⟩,rfl⟩
theorem grown_drew (W:World)(row:Option Nat):W.grownBy W.drew row:=⟨rfl,rfl,rfl,zg _,fun _ _ _=>rfl⟩
theorem uh.drew (W:World)(g:Nat):∃ x:uh W g,W.drew=x.w:=uh.of (grown_drew _ _)
theorem wz {w:World}{g:Nat}{a:Addr}{v:Value}(h:w.cell? a=some v)(hne:a.block≠g):∀ x:uh w g,x.w.cell? a=some v:=fun x =>
 x.grown.cell h fun e=>hne (ZS.inj e)
theorem Ur {a b c:World}{row:Option Nat}(h:a.grownBy b row)(k:b.grownBy c row):a.grownBy c row :=
 ⟨k.os.trans h.os,k.tape.trans h.tape,k.output.trans h.output,zR h.size k.size,fun i hi hr=>(k.block i (Zan hi h.size) hr).trans (h.block i hi hr)⟩
theorem grown_below {B:Nat}{w w':World}{row:Option Nat}(h:w.grownBy w' row)(hB:B≤w.heap.size)(hr:∀ k,row=some k→B≤k):Below B w w':=(Below.refl B w).grown h hB hr
theorem below_grown {w w':World}(h:Below w.heap.size w w'):w.grownBy w' none:=⟨h.os,h.tape,h.output,h.size,fun k hk _=>h.block k hk⟩
theorem OW {w w1:World}{cs:Array Value}{T:TypeId}(hb:Below (w.alloc (.cells cs T)).heap.size (w.alloc (.cells cs T)) w1){j:Nat}{v:Value}(h:cs[j]?=some v):w1.cell? ⟨w.heap.size,j,none⟩=some v:=by
 rw [hb.cell (p:=⟨w.heap.size,j,none⟩) (by simp),World.cell?_alloc_mark w cs T (0,0) j,h]
theorem Us (w:World)(E:TypeId)(cs:Array Value):∀ j u,cs.toList[j]?=some u→(w.alloc (.cells cs E)).cell? ((⟨w.heap.size,0,none⟩:Addr).add j)=some u:=fun j u hu=>by
 rw [Addr.add_lit,Zaj,World.cell?_alloc_mark w cs E (0,0) j]
 simpa using hu
theorem ag4 {α:Type}{r:Rep α}{ok:Nat→Prop}{w w':World}{cs:List Value}{x:α}(h:r.rd ok w cs x)(hb:Below w.heap.size w w'):r.rd ok w' cs x :=
 r.mono (fun _ hb=>hb.1) (r.frame (fun b hb'=>hb.block b hb'.2) (r.live h))
theorem Ut {α:Type}{r:Rep α}{ok:Nat→Prop}{w:World}{cs:List Value}{x:α}(h:r.rd ok w cs x){o:Obj}:r.rd ok (w.alloc o) cs x:=ag4 h ((Below.refl _ _).alloc (zg _) _)
def dM {α:Type}(r:Rep α)(tag:Nat→Nat)(ok:Nat→Prop)(w:World):Nat→List Value→List α→Prop
 |_,xs,[]=>xs=[]
 |i,xs,x::l=>∃ c rest,xs=c++rest∧r.rd (fun b=>ok b∧tag b=i) w c x∧dM r tag ok w (i+1) rest l
section
variable {α:Type}{r:Rep α}{tag tag':Nat→Nat}{ok ok':Nat→Prop}{w w':World}
theorem dM.mono (hk:∀ b,ok b→ok' b):∀ {l:List α} {i:Nat} {xs:List Value},dM r tag ok w i xs l→dM r tag ok' w i xs l
 |[],_,_,h=>h
 |_::_,_,_,⟨c,rest,e,h1,h2⟩=>⟨c,rest,e,r.mono (fun b hb=>⟨hk b hb.1,hb.2⟩) h1,h2.mono hk⟩
theorem dM.retag (hk:∀ b,ok b→tag' b=tag b):∀ {l:List α} {i:Nat} {xs:List Value},dM r tag ok w i xs l→dM r tag' ok w i xs l
 |[],_,_,h=>h
 |_::_,_,_,⟨c,rest,e,h1,h2⟩=>⟨c,rest,e,r.mono (fun b hb=>⟨hb.1,by rw [hk b hb.1];exact hb.2⟩) h1,h2.retag hk⟩
theorem dM.live:∀ {l:List α} {i:Nat} {xs:List Value},dM r tag ok w i xs l→dM r tag (fun b=>ok b∧b<w.heap.size) w i xs l
 |[],_,_,h=>h
 |_::_,_,_,⟨c,rest,e,h1,h2⟩=>⟨c,rest,e,r.mono (fun b hb=>⟨⟨hb.1.1,hb.2⟩,hb.1.2⟩) (r.live h1),h2.live⟩
theorem dM.frame (hf:∀ b,ok b→w'.heap[b]?=w.heap[b]?):∀ {l:List α} {i:Nat} {xs:List Value},dM r tag ok w i xs l→dM r tag ok w' i xs l
 |[],_,_,h=>h
 |_::_,_,_,⟨c,rest,e,h1,h2⟩=>⟨c,rest,e,r.frame (fun b hb=>hf b hb.1) h1,h2.frame hf⟩
theorem dM.chunks:∀ {l:List α} {i:Nat} {xs:List Value},dM r tag ok w i xs l→Chunks r ok w xs l
 |[],_,_,h=>h
 |_::_,_,_,⟨c,rest,e,h1,h2⟩=>⟨c,rest,e,r.mono (fun b hb=>hb.1) h1,h2.chunks⟩
theorem dM.snoc {c:List Value}{x:α}:∀ {l:List α} {i:Nat} {xs:List Value},dM r tag ok w i xs l→r.rd (fun b=>ok b∧tag b=i+l.length) w c x→dM r tag ok w i (xs++c) (l++[x])
 |[],i,xs,h,hc=>by
  simp only [dM] at h
  subst h
  exact ⟨c,[],by simp,by simpa using hc,rfl⟩
 |y::l,i,xs,⟨d,rest,e,h1,h2⟩,hc=>⟨d,rest++c,by rw [e,Zam],h1,h2.snoc (by rw [zd] at hc;rw [show i+1+l.length=i+(l.length+1) by omega];exact hc)⟩
theorem dM.pick:∀ {l:List α} {i:Nat} {xs:List Value},dM r tag ok w i xs l→∀ {k:Nat} {x:α},l[k]?=some x →
  ∃ c,(∀ j,j<r.sz→xs[k*r.sz+j]?=c[j]?)∧r.rd (fun b=>ok b∧tag b=i+k) w c x ∧
   ∀ (w':World) (x':α),(∀ b,ok b→tag b≠i+k→w'.heap[b]?=w.heap[b]?)→r.rd (fun b=>ok b∧tag b=i+k) w' c x'→dM r tag ok w' i xs (l.set k x')
 |[],_,_,_,k,x,hx=>by simp at hx
 |y::l,i,xs,⟨c,rest,e,h1,h2⟩,0,x,hx=>by
  simp only [ZaD,ZS.injEq] at hx
  subst hx
  refine ⟨c,fun j hj=>by rw [e,Nat.zero_mul,Zaj,Zaa (by rw [r.len h1];exact hj)],h1,fun w' x' hf hr=>?_⟩
  refine ⟨c,rest,e,hr,?_⟩
  -- the tail's elements bear other tags
  have:∀ {l:List α} {m:Nat} {xs:List Value},i<m→dM r tag ok w m xs l→dM r tag ok w' m xs l:=by
   intro l
   induction l with
   |nil=>intro m xs _ h;exact h
   |cons z l ih =>
    intro m xs hm h
    obtain ⟨d,rs,e',h3,h4⟩:=h
    exact ⟨d,rs,e',r.frame (fun b hb=>hf b hb.1 (by rw [hb.2];omega)) h3,ih (by omega) h4⟩
  exact this (Nat.lt_succ_self _) h2
 |y::l,i,xs,⟨c,rest,e,h1,h2⟩,k+1,x,hx=>by
  obtain ⟨d,h3,h4,h5⟩:=h2.pick (k:=k) (x:=x) (by simpa using hx)
  have ei:i+1+k=i+(k+1):=by omega
  refine ⟨d,fun j hj=>?_,by rw [← ei];exact h4,fun w' x' hf hr=>?_⟩
  ·rw [e,zE (by rw [r.len h1,Zax];omega),r.len h1,← h3 j hj]
   congr 1
   rw [Zax];omega
  ·refine ⟨c,rest,e,r.frame (fun b hb=>hf b hb.1 (by rw [hb.2];omega)) h1,?_⟩
   exact h5 w' x' (fun b hb hne=>hf b hb (by rw [← ei];exact hne)) (by rw [ei];exact hr)
end
def lQ {α:Type}(r:Rep α)(B F:Nat)(E:TypeId)(w:World)(v:Value)(l:List α):Prop :=
 ∃ tag xs,w.ownsRow B E r.sz v l.length xs∧dM r tag (fun b=>B≤b∧b<F∧ZS b≠v.ownBlock) w 0 xs l
section
variable {α:Type}{r:Rep α}{B F:Nat}{E:TypeId}{w w':World}{v:Value}{l:List α}
theorem lQ.nil (r:Rep α)(B F:Nat)(E:TypeId)(w:World):lQ r B F E w (.slice none 0 0) []:=⟨fun _=>0,[],World.ownsRow_nil _ _ _ _,rfl⟩
theorem lQ.up {F':Nat}(h:lQ r B F E w v l)(hF:F≤F'):lQ r B F' E w v l :=
 let ⟨tag,xs,h1,h2⟩:=h;⟨tag,xs,h1,h2.mono fun _ hb=>⟨hb.1,Zan hb.2.1 hF,hb.2.2⟩⟩
theorem lQ.live (h:lQ r B F E w v l):lQ r B w.heap.size E w v l :=
 let ⟨tag,xs,h1,h2⟩:=h;⟨tag,xs,h1,h2.live.mono fun _ hb=>⟨hb.1.1,hb.2,hb.1.2.2⟩⟩
theorem lQ.lt (h:lQ r B F E w v l):∀ k,v.ownBlock=some k→B≤k∧k<w.heap.size:=let ⟨_,_,h1,_⟩:=h;h1.lt
theorem lQ.below (h:lQ r B F E w v l)(hb:Below w.heap.size w w'):lQ r B F E w' v l:=by
 obtain ⟨tag,xs,h1,h2⟩:=h
 exact ⟨tag,xs,h1.kept (below_grown hb) (by cases v.ownBlock<;>simp),(dM.frame (fun b hb'=>hb.block b hb'.2) h2.live).mono fun b hb=>hb.1⟩
theorem lQ.own (h:lQ r B F E w v l):Own r B E (B≤·) w v l :=
 let ⟨_,xs,h1,h2⟩:=h;⟨xs,h1,h2.chunks.mono fun _ hb=>⟨hb.1,hb.2.2⟩⟩
theorem lQ.sl (h:lQ r B F E w v l):∃ a n c,v=.slice a n c∧Sl r (B≤·) w a n c l :=
 let ⟨a,n,c,e,h⟩:=h.own.sl;⟨a,n,c,e,h.mono fun _ hb=>hb.elim id id⟩
theorem Ey {P:Program}{ops:Array Oper}{rest:List Oper}{o:Oper}{a:Act}{Q:Exit→Act→World→Prop}{T bytes:Nat}{z:Value}(ht:pO P T E r.sz bytes z)(hgd:o.guard=none)(s x:Operand)
  (ho:o.op=.call { callee:=.builtin .append,args:=#[s,x],argTypes:=#[T,T] }) (hs:a.eval s=v) (h:lQ r B F E w v l) {ad:Addr} {c:Nat} (hx:a.eval x=.slice (some ad) 1 c)
  {y:α} {news:List Value} (hnews:∀ j u,news[j]?=some u→w.cell? (ad.add j)=some u) (hrd:r.rd (F≤·) w news y) (hown:∀ k,v.ownBlock=some k→k<F)
  (h63:l.length+1≤maxLen) (hby:(l.length+1)*bytes≤140737488355328) (hB:B≤F) (hF:F≤w.heap.size)
  (hk:∀ v' w',lQ r B w'.heap.size E w' v' (l++[y])→w.grownBy w' v.ownBlock→(v'.ownBlock=v.ownBlock∨v'.ownBlock=some w.heap.size)→wpList P ops Q rest (a.put o.dst v') w'):wpList P ops Q (o::rest) a w:=by
 refine wpList_plain hgd fun K hK=>?_
 obtain ⟨i,hi,hz0,hz1,hz2⟩:=info_parts ht.i
 obtain ⟨tag,xs,h1,h2⟩:=h
 obtain ⟨v',w',hr,h3,h4,_,h6⟩:=run_append_own_at (P:=P) w B T o.type E i z r.sz bytes ht.u hi hz0 hz1 hz2 ht.zs ht.pos v l.length xs h1 ad 1 c news (by rw [r.len hrd];simp) hnews (r.one hrd) h63 hby (by omega)
 unfold Oper.wp execOp
 simp only [ho,resolve,invoke,builtin,Sem.run_bind,Sem.run_pure,Result.andThen_ok,Zcd,Zap,Zao,hs,hx,hr]
 refine hK _ _ (hk v' w' ?_ h4 h6)
 refine ⟨fun b=>if F≤b then l.length else tag b,xs++news,by rw [zp];exact h3,?_⟩
 have hne:∀ b,b<w.heap.size→ZS b≠v.ownBlock→ZS b≠v'.ownBlock:=fun b hb hn=>by
  rcases h6 with h6|h6
  ·rw [h6];exact hn
  ·rw [h6];intro e;have:=ZS.inj e;omega
 refine dM.snoc ?_ ?_
 ·have e1:dM r (fun b=>if F≤b then l.length else tag b) (fun b=>B≤b∧b<F∧ZS b≠v.ownBlock) w 0 xs l:=h2.retag fun b hb=>by
   show (if F≤b then l.length else tag b)=tag b
   rw [if_neg (by omega)]
  refine (dM.frame (fun b hb=>h4.block b (by omega) hb.2.2) e1).mono fun b hb=>⟨hb.1,Zan hb.2.1 (zR hF h4.size),hne b (by omega) hb.2.2⟩
 ·have hno:∀ b,F≤b→ZS b≠v.ownBlock:=fun b hb e=>by have:=hown b e.symm;omega
  refine r.mono (fun b hb=>⟨⟨by omega,Zan hb.2 h4.size,hne b hb.2 (hno b hb.1)⟩,?_⟩) (r.frame (fun b hb=>h4.block b hb.2 (hno b hb.1)) (r.live hrd))
  show (if F≤b then l.length else tag b)=0+l.length
  rw [if_pos hb.1,Zaj]
def ag5 {α:Type}(r:Rep α)(ok:Nat→Prop)(w:World)(l:List α)(err:Int):Ending→World→Prop:=fun e w' =>
 ∃ a n c,e=.returned (.tuple #[.slice a n c,.int .i64 err])∧Sl r ok w' a n c l∧Below w.heap.size w w'
theorem ag5.mk {α:Type}{r:Rep α}{ok:Nat→Prop}{w w':World}{l:List α}{err err':Int}{a:Option Addr}{n c:Nat}(he:err'=err)(h:Sl r ok w' a n c l)(hB:Below w.heap.size w w') :
  ag5 r ok w l err (.returned (.tuple #[.slice a n c,.int .i64 err'])) w':=⟨a,n,c,by rw [he],h,hB⟩
theorem Sl.nil0 {α:Type}(r:Rep α)(ok:Nat→Prop)(w:World):Sl r ok w none 0 0 []:=⟨rfl,zg _,ZaI _,fun _=>rfl,.inl rfl⟩
def Flat {α:Type}(r:Rep α):Prop:=∀ {ok ok':Nat→Prop} {w w':World} {cs:List Value} {x:α},r.rd ok w cs x→r.rd ok' w' cs x
theorem Flat.int:Flat wZ:=fun h=>h
theorem Flat.sec:Flat Ap:=fun h=>h
theorem Flat.u8:Flat u8R:=fun h=>h
theorem Flat.u64:Flat atF:=fun h=>h
theorem Flat.bool:Flat apY:=fun h=>h
theorem Chunks.flat {α:Type}{r:Rep α}(hf:Flat r){ok ok':Nat→Prop}{w w':World}:∀ {l:List α} {xs:List Value},Chunks r ok w xs l→Chunks r ok' w' xs l
 |[],_,h=>h
 |_::_,_,⟨c,rest,e,h1,h2⟩=>⟨c,rest,e,hf h1,h2.flat hf⟩
theorem Src.flat {α:Type}{r:Rep α}(hf:Flat r){ok ok':Nat→Prop}{w:World}{ao:Option Addr}{m c:Nat}{ys:List α}(h:Src r ok w ao m c ys):Src r ok' w ao m c ys :=
 let ⟨h1,h2,news,h3,h4⟩:=h;⟨h1,h2,news,h3,h4.flat hf⟩
theorem Own.ag6 {α:Type}(r:Rep α){B:Nat}{E:TypeId}{ok:Nat→Prop}{w:World}(hB:B≤w.heap.size):Own r B E ok (w.alloc (.cells #[] E)) (.slice (some ⟨w.heap.size,0,none⟩) 0 0) [] :=
 ⟨[],World.ownsRow_lit w #[] 0 hB (ZaI _) (by simp),rfl⟩
theorem lQ.at (h:lQ r B F E w v l){k:Nat}{x:α}(hx:l[k]?=some x) :
  ∃ g cap c,∃ okk:Nat→Prop,v=.slice (some ⟨g,0,none⟩) l.length cap∧B≤g∧g<w.heap.size∧(∀ j,j<r.sz→w.cell? ⟨g,k*r.sz+j,none⟩=c[j]?)∧r.rd okk w c x∧(∀ b,okk b→B≤b∧b<F∧b≠g) ∧
   ∀ (w':World) (x':α),(∀ b,b<w.heap.size→¬ okk b→w'.heap[b]?=w.heap[b]?)→w'.os=w.os→w'.tape=w.tape→w'.output=w.output→w.heap.size≤w'.heap.size→r.rd okk w' c x'→lQ r B F E w' v (l.set k x'):=by
 obtain ⟨tag,xs,h1,h2⟩:=h
 have hk:=(za.1 hx).1
 obtain ⟨g,cap,rfl,hBg,hg⟩:∃ g cap,v=.slice (some ⟨g,0,none⟩) l.length cap∧B≤g∧g<w.heap.size:=by
  rcases h1.2 with ⟨_,h0⟩|⟨g,cap,cur,hv,hb,hg,_⟩
  ·omega
  ·exact ⟨g,cap,hv,hb,(zz.1 hg).1⟩
 obtain ⟨c,h3,h4,h5⟩:=h2.live.pick hx
 refine ⟨g,cap,c,_,rfl,hBg,hg,fun j hj=>?_,h4,fun b hb=>⟨hb.1.1.1,hb.1.1.2.1,fun e=>hb.1.1.2.2 (by rw [e];rfl)⟩,fun w' x' hf hos htp hout hsz hr=>?_⟩
 ·rw [← h3 j hj,h1.cellAt]
  calc k*r.sz+j<k*r.sz+r.sz:=by omega
   _=(k+1)*r.sz:=by rw [Zax];omega
   _≤l.length*r.sz:=Zah _ (by omega)
 ·have h6:=h5 w' x' (fun b hb hne=>hf b hb.2 fun e=>hne (by simpa using e.2)) hr
  refine ⟨tag,xs,?_,h6.mono fun b hb=>hb.1⟩
  rw [Zdg]
  have hgk:w'.heap[g]?=w.heap[g]?:=hf g hg fun e=>e.1.1.2.2 rfl
  obtain ⟨hl,⟨hv,h0⟩|⟨g',cap',cur,hv,r1,r2,r3⟩⟩:=h1
  ·cases hv
  ·cases hv
   exact ⟨hl,.inr ⟨g,cap,cur,rfl,r1,by rw [hgk];exact r2,r3⟩⟩
end
def fU {α:Type}(r:Rep α)(E:TypeId):Rep (List α) where
 sz:=1
 rd ok w cs l:=∃ v,cs=[v]∧(∀ b,v.ownBlock=some b→ok b)∧Own r 0 E (fun _=>False) w v l∧(l=[]→v=.slice none 0 0∨∃ g c,v=.slice (some ⟨g,0,none⟩) 0 c)
 len h:=by obtain ⟨v,rfl,_⟩:=h;rfl
 mono hk h:=let ⟨v,e,h1,h2⟩:=h;⟨v,e,fun b hb=>hk b (h1 b hb),h2⟩
 live h:=let ⟨v,e,h1,h2,h3⟩:=h;⟨v,e,fun b hb=>⟨h1 b hb,(h2.lt b hb).2⟩,h2,h3⟩
 frame hf h:=by
  obtain ⟨v,e,h1,⟨xs,h2,h3⟩,h4⟩:=h
  refine ⟨v,e,h1,⟨xs,⟨h2.1,?_⟩,(Chunks.frame (fun b hb=>hb.1.elim) h3)⟩,h4⟩
  rcases h2.2 with h0|⟨g,cap,cur,hv,hb,hg,rest⟩
  ·exact .inl h0
  ·refine .inr ⟨g,cap,cur,hv,hb,?_,rest⟩
   rw [hf g (h1 g (by rw [hv];rfl))];exact hg
 one h:=by
  obtain ⟨v,rfl,_,⟨xs,h2,_⟩,_⟩:=h
  intro u hu
  cases Zat.1 hu
  rcases h2.2 with ⟨rfl,_⟩|⟨g,cap,cur,rfl,_⟩<;>rfl
theorem fU.sl {α:Type}{r:Rep α}{E:TypeId}{ok:Nat→Prop}{w:World}{v:Value}{l:List α}(hf:Flat r)(h:(fU r E).rd ok w [v] l):∃ a n c,v=.slice a n c∧Sl r ok w a n c l:=by
 obtain ⟨_,e,h1,h2,_⟩:=h
 cases e
 obtain ⟨a,n,c,rfl,h3⟩:=h2.sl
 refine ⟨a,n,c,rfl,h3.len,h3.cap,h3.bnd,h3.nil,h3.cells.imp id fun ⟨b,off,e,_,hb,hc⟩=>⟨b,off,e,h1 b (by rw [e];rfl),hb,fun i x hx=>let ⟨cs,g1,g2⟩:=hc i x hx;⟨cs,g1,hf g2⟩⟩⟩
theorem fU.mk {α:Type}{r:Rep α}{B:Nat}{E:TypeId}{w:World}{v:Value}{l:List α}(h:Own r B E (fun _=>False) w v l)(hv:l=[]→v=.slice none 0 0∨∃ g c,v=.slice (some ⟨g,0,none⟩) 0 c):(fU r E).rd (B≤·) w [v] l:=by
 refine ⟨v,rfl,fun b hb=>(h.lt b hb).1,?_,hv⟩
 obtain ⟨xs,h1,h2⟩:=h
 refine ⟨xs,⟨h1.1,h1.2.imp id fun ⟨g,cap,cur,a1,a2,a3⟩=>⟨g,cap,cur,a1,ZaI _,a3⟩⟩,h2⟩
section
variable {P:Program}{ops:Array Oper}{rest:List Oper}{o:Oper}{a:Act}{Q:Exit→Act→World→Prop}{α:Type}{r:Rep α}{B:Nat}{E:TypeId}{w:World}
theorem BX {T bytes:Nat}{z:Value}(ht:pO P T E r.sz bytes z)(hg:o.guard=none)(l c:Operand)(hop:o.op=Op.makeSlice T l c)
  {kl kc:IntKind} {n:Nat} (hl:a.eval l=.int kl 0) (hc:a.eval c=.int kc (n:Int)) (b2:bytes*n≤281474976710656) (b3:n≤maxLen) (b4:B≤w.heap.size)
  (hK:∀ w',(∀ F,lQ r B F E w' (.slice (some ⟨w.heap.size,0,none⟩) 0 n) [])→Below w.heap.size w w'→wpList P ops Q rest (a.put o.dst (.slice (some ⟨w.heap.size,0,none⟩) 0 n)) w'):wpList P ops Q (o::rest) a w:=by
 obtain ⟨i,hi,hz0,hz1,hz2⟩:=info_parts ht.i
 refine wpList_make_own w hg l c T hop B E i z r.sz ht.u hi hz0 hz1 kl kc (n:Int) n hl hc rfl (by rw [hz2];exact b2) b3 b4 fun w' h1 h2=>hK w' (fun F=>⟨fun _=>0,[],h1,rfl⟩) (grown_below h2 (zg _) (fun k e=>by cases e))
end
section
variable {P:Program}{α:Type}{r:Rep α}{B:Nat}{E:TypeId}{w:World}{g cap:Nat}{l:List α}
theorem OX (h:Own r B E (fun _=>False) w (.slice (some ⟨g,0,none⟩) l.length cap) l){s:Nat}{ys:List α}{news:List Value}(hn:Chunks r (fun _=>False) w news ys)(hs:s+ys.length≤l.length)(hne:l≠[]∨ys≠[]) :
  ∃ w',(storeCells ⟨g,s*r.sz,none⟩ news).run P w=.ok () w'∧Own r B E (fun _=>False) w' (.slice (some ⟨g,0,none⟩) l.length cap) (l.take s++ys++l.drop (s+ys.length))∧w.grownBy w' (some g)∧w'.heap.size=w.heap.size:=by
 obtain ⟨xs,h1,h2⟩:=h
 obtain ⟨hx,⟨hv,_⟩|⟨g',cap',cur,hv,hb,hg,hnc,hcm,hcs,ht⟩⟩:=h1
 ·cases hv
 ·cases hv
  have hnl:=hn.length
  have hxl:=h2.length
  have hfit:s*r.sz+0+news.length≤cur.size:=by
   rw [hcs,hnl,Nat.add_zero,← Zax]
   exact Zah _ (by omega)
  have hrun:=run_storeCells_at P g (s*r.sz) E news 0 cur w hg hfit hn.one
  rw [Nat.add_zero] at hrun
  refine ⟨_,hrun,?_,⟨rfl,rfl,rfl,by simp,fun k _ hk=>setRow_other w g k _ (fun e=>hk (by simp [e]))⟩,by simp⟩
  have hlen':(l.take s++ys++l.drop (s+ys.length)).length=l.length:=by simp;omega
  have hcell:∀ i,(xs.take (s*r.sz)++news++xs.drop (s*r.sz+news.length))[i]?=if i<s*r.sz then xs[i]? else if i<s*r.sz+news.length then news[i - s*r.sz]? else xs[i]?:=by
   intro i
   have hs1:s*r.sz≤xs.length:=by rw [hxl];exact Zah _ (by omega)
   have e1:(xs.take (s*r.sz)).length=s*r.sz:=by rw [Zac];omega
   by_cases hi:i<s*r.sz
   ·rw [if_pos hi,Zam,Zaa (by rw [e1];exact hi),Zak,if_pos hi]
   ·rw [if_neg hi]
    by_cases hi2:i<s*r.sz+news.length
    ·rw [if_pos hi2,Zaa (by rw [zp,e1];exact hi2),zE (by rw [e1];omega),e1]
    ·rw [if_neg hi2,zE (by rw [zp,e1];omega),zp,e1,Zay]
     congr 1;omega
  refine ⟨xs.take (s*r.sz)++news++xs.drop (s*r.sz+news.length),⟨?_,.inr ⟨g,cap,_,by rw [hlen'],hb,setRow_heap w g cur _ E _ hg,by rw [hlen'];exact hnc,hcm,?_,?_⟩⟩,?_⟩
  ·rw [hlen',zp,zp,Zac,ZaU,hxl,hnl]
   have:(s+ys.length)*r.sz≤l.length*r.sz:=Zah _ hs
   rw [Zax] at this
   omega
  ·rw [List.size_toArray,zp,zp,Zac,ZaU,ZaF]
   omega
  ·rw [hlen',← ht]
   have hA:s*r.sz+news.length≤l.length*r.sz:=by rw [hnl,← Zax];exact Zah _ hs
   have hB2:l.length*r.sz≤cur.size:=by rw [hcs];exact Zah _ hnc
   apply ZbV
   intro i
   have e1:(cur.toList.take (s*r.sz)).length=s*r.sz:=by rw [Zac,ZaF];omega
   have e2:((cur.toList.take (l.length*r.sz)).take (s*r.sz)).length=s*r.sz:=by simp only [Zac,ZaF];omega
   by_cases hi:i<s*r.sz
   ·rw [Zak,if_pos (by omega),Zam,Zaa (by rw [e1];exact hi),Zam,Zaa (by rw [e2];exact hi),Zak,if_pos hi,Zak,if_pos hi,Zak,if_pos (by omega)]
   ·by_cases hi2:i<s*r.sz+news.length
    ·rw [Zak,if_pos (by omega),Zaa (by rw [zp,e1];exact hi2),zE (by rw [e1];omega),e1,
      Zaa (by rw [zp,e2];exact hi2),zE (by rw [e2];omega),e2]
    ·rw [Zak,zE (by rw [zp,e1];omega),zE (by rw [zp,e2];omega),zp,zp,e1,e2,Zay,Zay,Zak]
     have:s*r.sz+news.length+(i - (s*r.sz+news.length))=i:=by omega
     rw [this]
  ·-- the elements
   have:=Chunks.ab5 (r:=r) (ok:=fun b=>False∧ZS b≠(Value.slice (some ⟨g,0,none⟩) l.length cap).ownBlock) (w:=w.setRow g (cur.toList.take (s*r.sz)++news++cur.toList.drop (s*r.sz+news.length)).toArray) (xs:=xs.take (s*r.sz)++news++xs.drop (s*r.sz+news.length)) (l:=l.take s++ys++l.drop (s+ys.length)) 0 (by
     rw [hlen',zp,zp,Zac,ZaU,hxl,hnl]
     have:(s+ys.length)*r.sz≤l.length*r.sz:=Zah _ hs
     rw [Zax] at this
     omega) (fun i x hx=>by
     have key:∃ c w0,(∀ j,j<r.sz→(xs.take (s*r.sz)++news++xs.drop (s*r.sz+news.length))[i*r.sz+j]?=c[j]?)∧r.rd (fun _=>False) w0 c x:=by
      have es:(l.take s).length=s:=by rw [Zac];omega
      by_cases hi:i<s
      ·rw [Zam,Zaa (by rw [es];exact hi),Zak,if_pos hi] at hx
       obtain ⟨c,h3,h4⟩:=h2.at hx
       refine ⟨c,w,fun j hj=>?_,r.mono (fun b hb=>hb.1) h4⟩
       rw [hcell,if_pos,h3 j hj]
       calc i*r.sz+j<i*r.sz+r.sz:=by omega
        _=(i+1)*r.sz:=by rw [Zax];omega
        _≤s*r.sz:=Zah _ (by omega)
      ·by_cases hi2:i<s+ys.length
       ·rw [Zaa (by rw [zp,es];exact hi2),zE (by rw [es];omega),es] at hx
        obtain ⟨c,h3,h4⟩:=hn.at hx
        refine ⟨c,w,fun j hj=>?_,h4⟩
        have e3:s*r.sz≤i*r.sz:=Zah _ (by omega)
        have e4:(i+1)*r.sz≤(s+ys.length)*r.sz:=Zah _ (by omega)
        rw [Zax,Zax] at e4
        rw [hcell,if_neg (by omega),if_pos (by rw [hnl];omega),← h3 j hj]
        congr 1
        rw [Nat.sub_mul];omega
       ·rw [zE (by rw [zp,es];omega),zp,es,Zay,show s+ys.length+(i - (s+ys.length))=i by omega] at hx
        obtain ⟨c,h3,h4⟩:=h2.at hx
        refine ⟨c,w,fun j hj=>?_,r.mono (fun b hb=>hb.1) h4⟩
        have e3:(s+ys.length)*r.sz≤i*r.sz:=Zah _ (by omega)
        rw [Zax] at e3
        rw [hcell,if_neg (by omega),if_neg (by rw [hnl];omega),h3 j hj]
     obtain ⟨c,w0,h3,h4⟩:=key
     exact ⟨c,fun j hj=>by rw [Zaj];exact h3 j hj,r.mono (fun b hb=>hb.elim) (r.frame (fun b hb=>hb.elim) h4)⟩)
   simpa using this
end
def wB (a:Option Addr)(c lo sz:Nat):Option Addr:=if c=lo then a else a.map (·.add (lo*sz))
theorem Uu {P:Program}{T E sz:Nat}(hT:P.underlying T=some (.slice E))(hi:(P.info? E).map (·.size)=some sz)(a:Option Addr)(n c s:Nat)(h:s≤n)(w:World) :
  (Instr.sliceAt T (.slice a n c) (some (.int .i64 (s:Int))) none none).run P w=.ok (.slice (wB a c s sz) (n - s) (c - s)) w:=by
 have he:P.elem T=E:=by simp [Program.elem,hT]
 have hT':P.underlying T=some (.slice (P.elem T)):=by rw [he];exact hT
 have hz:(sizeOf (P.elem T)).run P w=.ok sz w:=by
  obtain ⟨i,hi,hs⟩:=Zaq.1 hi
  rw [he];simp [sizeOf,typeInfo,hi,hs]
 rw [run_sliceAt_slice w T _ _ _ _ hT',run_slice_l w T a n c hT' .i64 s (by omega) (by omega),hz,Result.andThen_ok]
 simp only [sliced,wB,Zav]
theorem Sl.sub {α:Type}{r:Rep α}{ok:Nat→Prop}{w:World}{a:Option Addr}{n c:Nat}{l:List α}(h:Sl r ok w a n c l){s k:Nat}(hk:s+k≤n):Sl r ok w (wB a c s r.sz) k (c - s) ((l.drop s).take k):=by
 have h1:=h.len
 have h2:=h.cap
 refine ⟨by simp;omega,by omega,zR (Nat.sub_le _ _) h.bnd,fun e=>?_,?_⟩
 ·unfold wB at e
  split at e
  ·omega
  ·have:a=none:=by simpa using e
   have:=h.nil this
   omega
 ·rcases h.cells with h0|⟨b,off,rfl,hb,hlt,hc⟩
  ·left;omega
  ·by_cases hk0:k=0
   ·exact .inl hk0
   ·refine .inr ⟨b,off+s*r.sz,?_,hb,hlt,fun i x hx=>?_⟩
    ·unfold wB
     rw [if_neg (by omega)]
     simp [Addr.add_lit]
    ·have hik:i<k:=by have:=(za.1 hx).1;simp at this;omega
     rw [Zak,if_pos hik,Zay] at hx
     obtain ⟨cs,g1,g2⟩:=hc (s+i) x hx
     refine ⟨cs,fun j hj=>?_,g2⟩
     rw [← g1 j hj,Zax,Nat.add_assoc off]
section
variable {P:Program}{ops:Array Oper}{rest:List Oper}{o:Oper}{a:Act}{Q:Exit→Act→World→Prop}{α:Type}{r:Rep α}{B:Nat}{E:TypeId}{w:World}{g cap:Nat}{l:List α}
theorem Jc {T bytes:Nat}{z:Value}(ht:pO P T E r.sz bytes z)(hfl:Flat r)(hgd:o.guard=none)(d x:Operand)
  (ho:o.op=.call { callee:=.builtin .copy,args:=#[d,x],argTypes:=#[T,T] }) {s dl dc:Nat} (hd:a.eval d=.slice (some ⟨g,s*r.sz,none⟩) dl dc) {ao:Option Addr} {m c:Nat} (hx:a.eval x=.slice ao m c)
  (h:Own r B E (fun _=>False) w (.slice (some ⟨g,0,none⟩) l.length cap) l) {ok:Nat→Prop} {ys:List α} (hs:Sl r ok w ao m c ys) (hle:s+m≤l.length) (hm:0<m) (hdl:m≤dl)
  (hk:∀ w',Own r B E (fun _=>False) w' (.slice (some ⟨g,0,none⟩) l.length cap) (l.take s++ys++l.drop (s+ys.length))→w.grownBy w' (some g)→w'.heap.size=w.heap.size→wpList P ops Q rest (a.put o.dst (.int .i64 m)) w'):wpList P ops Q (o::rest) a w:=by
 refine wpList_plain hgd fun K hK=>?_
 obtain ⟨i,hi,_,hz1,_⟩:=info_parts ht.i
 obtain ⟨hlen,hnil,news,hnews,hch⟩:=Src.J6 hs
 obtain ⟨ad,rfl⟩:∃ ad,ao=some ad:=by
  cases ao with
  |some ad=>exact ⟨ad,rfl⟩
  |none=>have:=(hnil rfl).1;omega
 have hnl:=hch.length
 obtain ⟨w',hst,h1,h2,h3⟩:=OX (P:=P) h (s:=s) (ys:=ys) (hch.flat hfl) (by omega) (.inr (by intro e;rw [e] at hlen;simp at hlen;omega))
 have hld:=run_loadCells_list (P:=P) (w:=w) ad news (hnews ad rfl)
 have hmin:Nat.min m dl=m:=Nat.min_eq_left hdl
 rw [hnl,hlen] at hld
 unfold Oper.wp execOp
 have hrun:(Builtin.copy_ #[T,T] o.type #[.slice (some ⟨g,s*r.sz,none⟩) dl dc,.slice (some ad) m c]).run P w=.ok (goInt m) w':=by
  simp [Builtin.copy_,run_underlying ht.u,Builtin.lenOf,Builtin.firstCells,sizeOf,typeInfo,hi,hz1,hmin,hld,hst]
 simp only [ho,resolve,invoke,builtin,Sem.run_bind,Sem.run_pure,Result.andThen_ok,Zcd,Zap,Zao,hd,hx,hrun]
 exact hK _ _ (hk w' h1 h2 h3)
end
section
variable {ok:Nat→Prop}{w:World}{n c:Nat}
theorem Sl.wr {b off:Nat}{l:List (Int×Int×List dN)}(h:Sl (Pn wZ (Pn wZ (XG Ap))) ok w (some ⟨b,off,none⟩) n c l){k:Nat}{v s:Int}{d:List dN}(hx:l[k]?=some (v,s,d)) :
  ∃ a' n' c',w.cell? ⟨b,off+k*3,none⟩=some (.int .i64 v)∧w.cell? ⟨b,off+k*3+1,none⟩=some (.int .i64 s)∧w.cell? ⟨b,off+k*3+2,none⟩=some (.slice a' n' c')∧oW v∧oW s∧Sl Ap ok w a' n' c' d:=by
 obtain ⟨cs,h1,c1,c2,rfl,⟨rfl,hv⟩,c3,c4,rfl,⟨rfl,hs⟩,a',n',c',rfl,hd⟩:=h.at hx
 refine ⟨a',n',c',?_,?_,?_,hv,hs,hd⟩
 ·exact h1 0 (by show 0<3;omega)
 ·exact h1 1 (by show 1<3;omega)
 ·exact h1 2 (by show 2<3;omega)
theorem Sl.ext {b off:Nat}{l:List (Int×Int)}(h:Sl (Pn wZ wZ) ok w (some ⟨b,off,none⟩) n c l){k:Nat}{s m:Int}(hx:l[k]?=some (s,m)) :
  w.cell? ⟨b,off+k*2,none⟩=some (.int .i64 s)∧w.cell? ⟨b,off+k*2+1,none⟩=some (.int .i64 m)∧oW s∧oW m:=by
 obtain ⟨cs,h1,c1,c2,rfl,⟨rfl,hv⟩,⟨rfl,hs⟩⟩:=h.at hx
 exact ⟨h1 0 (by show 0<2;omega),h1 1 (by show 1<2;omega),hv,hs⟩
end
abbrev nV:Rep (List dN):=XG Ap
abbrev Wr:=Int×Int×List dN
abbrev wrR:Rep Wr:=Pn wZ (Pn wZ nV)
def akN:dN:=Vector.replicate 8 0
theorem Tryz.mixed:Tryz.prog.follows .mixedOrders=true:=by kernel_rfl
theorem Tryz.alF:pO Tryz.prog 35 3 1 8 (.int .i64 0):=⟨Tryz.underlying35,by kernel_rfl,rfl,by decide⟩
theorem Tryz.alG:pO Tryz.prog 71 129 8 8 (.agg #[.int .u8 0,.int .u8 0,.int .u8 0,.int .u8 0,.int .u8 0,.int .u8 0,.int .u8 0,.int .u8 0]):=⟨Tryz.underlying71,by kernel_rfl,rfl,by decide⟩
theorem Tryz.ag7:pO Tryz.prog 31 71 1 24 (.slice none 0 0):=⟨Tryz.underlying31,by kernel_rfl,rfl,by decide⟩
theorem qG {k:IntKind}{a b:Int}(h:a=b):Ending.returned (.int k a)=.returned (.int k b):=by rw [h]
theorem yB {a b:Bool}(h:a=b):Ending.returned (.bool a)=.returned (.bool b):=by rw [h]
theorem abt {n:Nat}(h:n≤maxLen):oW (n:Int):=by unfold oW maxLen at *;omega
theorem Sl.i64 {α:Type}{r:Rep α}{ok:Nat→Prop}{w:World}{a:Option Addr}{n c:Nat}{l:List α}(h:Sl r ok w a n c l):oW (n:Int):=abt (zR h.cap h.bnd)
theorem Sl.small {α:Type}{r:Rep α}{ok:Nat→Prop}{w:World}{a:Option Addr}{n c:Nat}{l:List α}(h:Sl r ok w a n c l):n≤9223372036854775807:=by
 have:=zR h.cap h.bnd;unfold maxLen at this;omega
theorem JW {α:Type}{p:α→Bool}{l:List α}{k:Nat}{x:α}(h:l[k]?=some x):(l.take (k+1)).any p=((l.take k).any p || p x):=by
 rw [ZbW,h];simp
theorem any_true {α:Type}{p:α→Bool}{l:List α}{k:Nat}{x:α}(h:l[k]?=some x)(hp:p x=true):l.any p=true:=by
 rw [Zb1];exact ⟨x,Zab h,hp⟩
theorem oU {α:Type}{l:List α}{k:Nat}{x:α}(h:l[k]?=some x):l.take (k+1)=l.take k++[x]:=by
 rw [ZbW,h];rfl
theorem BZ {α:Type}{l:List α}{n:Nat}(h:l.length=n):l.take n=l:=Za2 (by omega)
def nR (n:Int):Bool:=decide (n<1) || decide (4096<n)
def eG (l:List Int):Int:=if l.length<1∨8<l.length then 6 else if l.any nR then 2 else 0
def lens (im:List (List dN)):List Int:=im.map fun v=>(v.length:Int)
def rO (im:List (List dN)):Int:=eG (lens im)
def lC (sizes:List Int)(vol start:Int)(len:Nat):Int :=
 if vol<0∨(sizes.length:Int)≤vol then 7 else if len=0 then 1
 else if start<0∨sizes.getD vol.toNat 0≤start∨sizes.getD vol.toNat 0 - start<len then 2 else 0
theorem Fe {α:Type}{l:List α}{k:Nat}{x d:α}(h:l[k]?=some x):l.getD k d=x:=by simp [List.getD,h]
def BL (im:List (List dN))(vol start:Int)(len:Nat):Int:=if rO im≠0 then rO im else lC (lens im) vol start len
theorem YE {x:Int}{w:World}(_hx:oW x):Calls Tryz.prog 227 #[.int .i64 x] w fun e w'=>e=.returned (.bool (nR x))∧Below w.heap.size w w':=by
 by_cases h1:x<1
 ·go_enter Tryz.func227,Tryz.ntmps227
  go_wp2
  go_ret
  exact ⟨yB (by simp [nR,h1]),Below.refl _ _⟩
 ·by_cases h2:4096<x
  ·go_enter Tryz.func227,Tryz.ntmps227
   go_wp2
   go_ret
   exact ⟨yB (by simp [nR,h2]),Below.refl _ _⟩
  ·go_enter Tryz.func227,Tryz.ntmps227
   go_wp2
   go_ret
   exact ⟨yB (by simp [nR];omega),Below.refl _ _⟩
set_option maxHeartbeats 1000000 in
theorem DI {a:Option Addr}{n c:Nat}{l:List Int}{ok:Nat→Prop}{w:World}(h:Sl wZ ok w a n c l) :
  Calls Tryz.prog 266 #[.slice a n c,.func (.func 227) #[] #[]] w fun e w'=>∃ z:Int,e=.returned (.int .i64 z)∧(0≤z ↔ l.any nR=true)∧oW z∧Below w.heap.size w w':=by
 have hs:=h.small
 go_enter Tryz.func266,Tryz.ntmps266
 go_wp2
 go_loopw [5,8] (fun _ i wr=>∃ k:Nat,k≤n∧i=.int .i64 k∧Hid ((l.take k).any nR=false)∧Below w.heap.size w wr) (fun _ i _=>n - (intOf i).toNat)
 case atStart=>exact ⟨0,ZaI _,rfl,rfl,Below.refl _ _⟩
 case round =>
  obtain ⟨k,hk,rfl,HT,hB⟩:=hrel
  by_cases hlt:k<n
  ·obtain ⟨b,off,rfl,_,_⟩:=h.addr hlt
   obtain ⟨x,hx⟩:=h.get hlt
   obtain ⟨hcell,hi⟩:=(h.below hB).int hx
   have HX:=Lib.hid hx
   clear hx
   cases hp:nR x with
   |true =>
    have HP:=Lib.hid hp
    have hcall:=YE (w:=wr) hi
    rw [hp] at hcall
    clear hp
    go_wp2_with (fail)
    refine hcall.mono ?_
    rintro e w1 ⟨rfl,hB1⟩
    go_wp2
    go_ret
    exact ⟨k,rfl,by rw [any_true HX.out HP.out];simp,by unfold oW;omega,hB.trans (hB1.mono hB.size)⟩
   |false =>
    have HP:=Lib.hid hp
    have hcall:=YE (w:=wr) hi
    rw [hp] at hcall
    clear hp
    go_wp2_with (fail)
    refine hcall.mono ?_
    rintro e w1 ⟨rfl,hB1⟩
    go_wp2
    go_roundw
    case rel=>exact ⟨k+1,by omega,by go_num,by show _=false;rw [JW HX.out,HT.out,HP.out];rfl,hB.trans (hB1.mono hB.size)⟩
    case measure=>simp [intOf];omega
  ·go_wp2
   go_ret
   obtain rfl:k=n:=by omega
   have e:=HT.out
   rw [BZ h.len] at e
   exact ⟨-1,rfl,by rw [e];simp,by unfold oW;omega,hB⟩
theorem OY {a:Option Addr}{n c:Nat}{l:List Int}{ok:Nat→Prop}{w:World}(h:Sl wZ ok w a n c l) :
  Calls Tryz.prog 223 #[.slice a n c,.func (.func 227) #[] #[]] w fun e w'=>e=.returned (.bool (l.any nR))∧Below w.heap.size w w':=by
 go_enter Tryz.func223,Tryz.ntmps223
 go_wp2_with fail
 refine (DI h).mono ?_
 rintro e w1 ⟨z,rfl,hz,hi,hB⟩
 unfold oW at hi
 cases hp:l.any nR with
 |true =>
  have hz0:0≤z:=hz.2 hp
  have HP:=Lib.hid hp
  clear hz hp
  go_wp2
  go_ret
  exact ⟨yB HP.out.symm,hB⟩
 |false =>
  have hz0:z<0:=by rw [hp] at hz;simp at hz;omega
  have HP:=Lib.hid hp
  clear hz hp
  go_wp2
  go_ret
  exact ⟨yB (by rw [HP.out];simp;omega),hB⟩
theorem Jd {a:Option Addr}{n c:Nat}{l:List Int}{ok:Nat→Prop}{w:World}(h:Sl wZ ok w a n c l) :
  Calls Tryz.prog 165 #[.slice a n c] w fun e w'=>e=.returned (.int .i64 (eG l))∧Below w.heap.size w w':=by
 have hs:=h.small
 by_cases hn1:n<1
 ·obtain rfl:n=0:=by omega
  go_enter Tryz.func165,Tryz.ntmps165
  go_wp2
  go_ret
  exact ⟨by simp [eG,h.len],Below.refl _ _⟩
 by_cases hn8:8<n
 ·go_enter Tryz.func165,Tryz.ntmps165
  go_wp2
  go_ret
  exact ⟨qG (by rw [eG,if_pos (by rw [h.len];exact .inr hn8)]),Below.refl _ _⟩
 go_enter Tryz.func165,Tryz.ntmps165
 go_wp2_with fail
 refine (OY h).mono ?_
 rintro e w1 ⟨rfl,hB⟩
 cases hp:l.any nR with
 |true =>
  have HP:=Lib.hid hp;clear hp
  go_wp2
  go_ret
  exact ⟨qG (by rw [eG,if_neg (by rw [h.len];omega),if_pos HP.out]),hB⟩
 |false =>
  have HP:=Lib.hid hp;clear hp
  go_wp2
  go_ret
  exact ⟨qG (by rw [eG,if_neg (by rw [h.len];omega),HP.out];rfl),hB⟩
theorem ag8 {a:Option Addr}{n c:Nat}{l:List dN}{ok:Nat→Prop}{w:World}(h:Sl Ap ok w a n c l) :
  Calls Tryz.prog 229 #[.slice a n c] w fun e w'=>∃ z:Int,e=.returned (.int .i64 z)∧wZ.rd (w.heap.size≤·) w' [.int .i64 z] (l.length:Int)∧Below w.heap.size w w':=by
 have hs:=h.small
 go_enter Tryz.func229,Tryz.ntmps229
 go_wp2
 go_ret
 exact ⟨_,rfl,⟨by rw [h.len],by rw [h.len];exact h.i64⟩,Below.refl _ _⟩
set_option maxHeartbeats 1000000 in
theorem Xu {a:Option Addr}{n c:Nat}{l:List (List dN)}{ok:Nat→Prop}{w:World}(h:Sl nV ok w a n c l)(hn:n≤1000000) :
  Calls Tryz.prog 228 #[.slice a n c,.func (.func 229) #[] #[]] w fun e w'=>∃ v,e=.returned v∧lQ wZ w.heap.size w'.heap.size 3 w' v (l.map (fun v:List dN=>(v.length:Int)))∧Below w.heap.size w w':=by
 go_enter Tryz.func228,Tryz.ntmps228
 go_wp2_with (at_make;refine BX (r:=wZ) (B:=w.heap.size) Tryz.alF rfl _ _ rfl rfl rfl ?b2 ?b3 ?b4 ?_)
 case b2=>omega
 case b3=>unfold maxLen;omega
 case b4=>exact zg _
 intro w0 hown0 hB0
 have hs:=h.small
 go_wp2
 go_loopw [5,13] (fun v i wr=>∃ k:Nat,k≤n∧i=.int .i64 k∧lQ wZ w.heap.size wr.heap.size 3 wr v ((l.map (fun v:List dN=>(v.length:Int))).take k)∧Below w.heap.size w wr) (fun _ i _=>n - (intOf i).toNat)
 case atStart=>exact ⟨0,ZaI _,rfl,hown0 _,hB0⟩
 case round =>
  obtain ⟨k,hk,rfl,hown,hB⟩:=hrel
  by_cases hlt:k<n
  ·obtain ⟨b,off,rfl,_,_⟩:=h.addr hlt
   obtain ⟨x,hx⟩:=h.get hlt
   obtain ⟨a',n',c',hcell,hx'⟩:=(h.below hB).slice hx
   have hlen:((l.map (fun v:List dN=>(v.length:Int))).take k).length=k:=by have:=h.len;simp;omega
   have HL:=Lib.hid hlen;clear hlen
   have HX:=Lib.hid hx;clear hx
   go_wp2_with (fail)
   refine (ag8 hx').mono ?_
   rintro e w1 ⟨z,rfl,hrd,hB1⟩
   have Uw:=hown.lt
   have hz1:=hB1.size
   have hz:=hB.size
   go_wp2_with (at_builtin;refine Ey Tryz.alF rfl _ _ rfl rfl ((hown.below hB1).below ((Below.refl _ _).alloc (zg _) _)) rfl (Us w1 3 #[.int .i64 z]) (Ut hrd) (fun k hk=>(Uw k hk).2) ?c1 ?c2 ?c3 ?c4 ?_)
   case c1=>rw [HL.out];unfold maxLen;omega
   case c2=>rw [HL.out];omega
   case c3=>omega
   case c4=>simp;omega
   intro v' w2 hown1 hgrow _
   go_wp2
   go_roundw
   case rel=>exact ⟨k+1,by omega,by go_num,by
    have e:(l.map (fun v:List dN=>(v.length:Int))).take (k+1)=(l.map (fun v:List dN=>(v.length:Int))).take k++[(fun v:List dN=>(v.length:Int)) x]:=oU (by rw [zc,HX.out];rfl)
    rw [e];exact hown1,((hB.trans (hB1.mono hB.size)).alloc (by omega) _).grown hgrow (by simp;omega) (fun k hk=>(Uw k hk).1)⟩
   case measure=>simp [intOf];omega
  ·go_wp2
   go_ret
   obtain rfl:k=n:=by omega
   rw [BZ (by rw [zb];exact h.len)] at hown
   exact ⟨_,rfl,hown,hB⟩
theorem Xv {a:Option Addr}{n c:Nat}{im:List (List dN)}{ok:Nat→Prop}{w:World}(h:Sl nV ok w a n c im)(hn:n≤1000000) :
  Calls Tryz.prog 166 #[.slice a n c] w fun e w'=>∃ a' n' c',e=.returned (.slice a' n' c')∧Sl wZ (w.heap.size≤·) w' a' n' c' (lens im)∧Below w.heap.size w w':=by
 go_enter Tryz.func166,Tryz.ntmps166
 go_wp2_with fail
 refine (Xu h hn).mono ?_
 rintro e w1 ⟨v,rfl,hown,hB⟩
 obtain ⟨a',n',c',rfl,h1⟩:=hown.sl
 go_wp2
 go_ret
 exact ⟨_,_,_,rfl,h1,hB⟩
theorem Je {a:Option Addr}{n c:Nat}{im:List (List dN)}{ok:Nat→Prop}{w:World}(h:Sl nV ok w a n c im)(hn:n≤1000000) :
  Calls Tryz.prog 76 #[.slice a n c] w fun e w'=>e=.returned (.int .i64 (rO im))∧Below w.heap.size w w':=by
 go_enter Tryz.func76,Tryz.ntmps76
 go_wp2_with fail
 refine (Xv h hn).mono ?_
 rintro e w1 ⟨a',n',c',rfl,h1,hB⟩
 go_wp2_with fail
 refine (Jd h1).mono ?_
 rintro e w2 ⟨rfl,hB2⟩
 go_wp2
 go_ret
 exact ⟨rfl,hB.trans (hB2.mono hB.size)⟩
def YF {α:Type}(e:Int)(l:List α):List α:=if e=0 then l else []
theorem ag9 {α:Type}{e:Int}{l:List α}(h:e=0):YF e l=l:=if_pos h
theorem abu {α:Type}{e:Int}{l:List α}(h:¬ e=0):YF e l=[]:=if_neg h
def zeros (n:Int):List dN:=Zag n.toNat akN
def nJ (l:List Int):List (List dN):=l.map zeros
set_option maxHeartbeats 1000000 in
theorem abv {a:Option Addr}{n c:Nat}{l:List dN}{ok:Nat→Prop}{w:World}(h:Sl Ap ok w a n c l)(hn:n≤1000000) :
  Calls Tryz.prog 133 #[.slice a n c] w fun e w'=>∃ a' n' c',e=.returned (.slice a' n' c')∧(fU Ap 129).rd (w.heap.size≤·) w' [.slice a' n' c'] l∧Below w.heap.size w w':=by
 have heq:=fun (a:Option Addr) (n c:Nat) (w:World)=>Lib.run_eql_slice_nil (P:=Tryz.prog) w 71 129 a n c 0 0 Tryz.underlying71
 cases a with
 |none =>
  have h0:l=[]:=Zal (by rw [h.len];have:=h.nil rfl;have:=h.cap;omega)
  have H0:=Lib.hid h0;clear h0
  go_enter Tryz.func133,Tryz.ntmps133
  go_wp2
  go_ret
  refine ⟨_,_,_,rfl,?_,Below.refl _ _⟩
  rw [H0.out]
  exact fU.mk (Own.nil _ _ _ _ _) (fun _=>.inl rfl)
 |some ad =>
  have hs:=h.small
  go_enter Tryz.func133,Tryz.ntmps133
  go_wp2_with (at_builtin;refine qO Tryz.alG rfl _ _ rfl rfl (Own.ag6 Ap (ok:=fun _=>False) (zg _)) rfl ((Src.J6 (h.below ((Below.refl _ _).alloc (zg _) _))).flat Flat.sec) ?c1 ?c2 ?c3 ?_)
  case c1=>simp;unfold maxLen;omega
  case c2=>simp;omega
  case c3=>simp
  intro v' w1 hown hgrow hat
  obtain ⟨a',n',c',rfl,_⟩:=hown.sl
  go_wp2
  go_ret
  refine ⟨_,_,_,rfl,fU.mk (by simpa using hown) (fun e=>?_),((Below.refl _ _).alloc (zg _) _).grown hgrow (by simp) (fun k hk=>by cases hk;exact zg _)⟩
  subst e
  obtain ⟨xs,h1,_⟩:=hown
  rcases h1.2 with ⟨hv,_⟩|⟨g,cap,cur,hv,_⟩
  ·exact .inl hv
  ·exact .inr ⟨g,cap,by simpa using hv⟩
def rP (v:List dN):List dN:=v
theorem aha (l:List (List dN)):l.map rP=l:=List.map_id l
abbrev qH:Rep (List dN):=fU Ap 129
set_option maxHeartbeats 1000000 in
theorem OZ {a:Option Addr}{n c:Nat}{l:List (List dN)}{ok:Nat→Prop}{w:World}(h:Sl nV ok w a n c l)(hn:n≤1000000)(hv:∀ v∈l,v.length≤1000000) :
  Calls Tryz.prog 200 #[.slice a n c,.func (.func 133) #[] #[]] w fun e w'=>∃ v,e=.returned v∧lQ qH w.heap.size w'.heap.size 71 w' v (l.map rP)∧Below w.heap.size w w':=by
 go_enter Tryz.func200,Tryz.ntmps200
 go_wp2_with (at_make;refine BX (r:=qH) (B:=w.heap.size) Tryz.ag7 rfl _ _ rfl rfl rfl ?b2 ?b3 ?b4 ?_)
 case b2=>omega
 case b3=>unfold maxLen;omega
 case b4=>exact zg _
 intro w0 hown0 hB0
 have hs:=h.small
 go_wp2
 go_loopw [5,13] (fun v i wr=>∃ k:Nat,k≤n∧i=.int .i64 k∧lQ qH w.heap.size wr.heap.size 71 wr v ((l.map rP).take k)∧Below w.heap.size w wr) (fun _ i _=>n - (intOf i).toNat)
 case atStart=>exact ⟨0,ZaI _,rfl,hown0 _,hB0⟩
 case round =>
  obtain ⟨k,hk,rfl,hown,hB⟩:=hrel
  by_cases hlt:k<n
  ·obtain ⟨b,off,rfl,_,_⟩:=h.addr hlt
   obtain ⟨x,hx⟩:=h.get hlt
   obtain ⟨a',n',c',hcell,hx'⟩:=(h.below hB).slice hx;have hv':=hv x (Zab hx)
   have hlen:((l.map rP).take k).length=k:=by have:=h.len;simp;omega
   have HL:=Lib.hid hlen;clear hlen
   have HX:=Lib.hid hx;clear hx
   go_wp2_with (fail)
   refine (abv hx' (by rw [← hx'.len];exact hv')).mono ?_
   rintro e w1 ⟨a2,n2,c2,rfl,hrd,hB1⟩
   have Uw:=hown.lt
   have hz1:=hB1.size
   have hz:=hB.size
   go_wp2_with (at_builtin;refine Ey Tryz.ag7 rfl _ _ rfl rfl ((hown.below hB1).below ((Below.refl _ _).alloc (zg _) _)) rfl (Us w1 71 #[.slice a2 n2 c2]) (Ut hrd) (fun k hk=>(Uw k hk).2) ?c1 ?c2 ?c3 ?c4 ?_)
   case c1=>rw [HL.out];unfold maxLen;omega
   case c2=>rw [HL.out];omega
   case c3=>omega
   case c4=>simp;omega
   intro v' w2 hown1 hgrow _
   go_wp2
   go_roundw
   case rel=>exact ⟨k+1,by omega,by go_num,by
    have e:(l.map rP).take (k+1)=(l.map rP).take k++[rP x]:=oU (by rw [zc,HX.out];rfl)
    rw [e];exact hown1,((hB.trans (hB1.mono hB.size)).alloc (by omega) _).grown hgrow (by simp;omega) (fun k hk=>(Uw k hk).1)⟩
   case measure=>simp [intOf];omega
  ·go_wp2
   go_ret
   obtain rfl:k=n:=by omega
   rw [BZ (by rw [zb];exact h.len)] at hown
   exact ⟨_,rfl,hown,hB⟩
theorem Xw {a:Option Addr}{n c:Nat}{im:List (List dN)}{ok:Nat→Prop}{w:World}(h:Sl nV ok w a n c im)(hn:n≤1000000)(hv:∀ v∈im,v.length≤1000000) :
  Calls Tryz.prog 124 #[.slice a n c] w fun e w'=>∃ v,e=.returned v∧lQ qH w.heap.size w'.heap.size 71 w' v im∧Below w.heap.size w w':=by
 go_enter Tryz.func124,Tryz.ntmps124
 go_wp2_with fail
 refine (OZ h hn hv).mono ?_
 rintro e w1 ⟨v,rfl,hown,hB⟩
 go_wp2
 go_ret
 exact ⟨_,rfl,by rw [aha] at hown;exact hown,hB⟩
theorem Sl.imp {α:Type}{r s:Rep α}{ok:Nat→Prop}{w:World}{a:Option Addr}{n c:Nat}{l:List α}(hz:s.sz=r.sz)(hi:∀ cs x,r.rd ok w cs x→s.rd ok w cs x)(h:Sl r ok w a n c l):Sl s ok w a n c l :=
 ⟨h.len,h.cap,h.bnd,h.nil,h.cells.imp id fun ⟨b,off,e,hb,hl,hc⟩=>⟨b,off,e,hb,hl,fun i x hx=>let ⟨cs,g1,g2⟩:=hc i x hx;⟨cs,by rw [hz];exact g1,hi cs x g2⟩⟩⟩
theorem O1 {ok:Nat→Prop}{w:World}{cs:List Value}{x:List dN}(h:qH.rd ok w cs x):nV.rd ok w cs x:=by
 obtain ⟨v,rfl,h1⟩:=h
 obtain ⟨a,n,c,rfl,h2⟩:=fU.sl Flat.sec (v:=v) ⟨v,rfl,h1⟩
 exact ⟨a,n,c,rfl,h2⟩
theorem lQ.img {B F:Nat}{E:TypeId}{w:World}{v:Value}{im:List (List dN)}(h:lQ qH B F E w v im):∃ a n c,v=.slice a n c∧Sl nV (B≤·) w a n c im :=
 let ⟨a,n,c,e,h⟩:=h.sl;⟨a,n,c,e,Sl.imp (r:=qH) (s:=nV) rfl (fun _ _ g=>O1 g) h⟩
set_option maxHeartbeats 2000000 in
theorem L6 {a:Option Addr}{n c:Nat}{im:List (List dN)}{ok:Nat→Prop}{w:World}(h:Sl nV ok w a n c im){vol start:Int}(hv:oW vol)(hst:oW start)
  {da:Option Addr} {dn dc:Nat} (hd:dn≤9223372036854775807) :
  Calls Tryz.prog 125 #[.slice a n c,.agg #[.int .i64 vol,.int .i64 start,.slice da dn dc]] w fun e w'=>e=.returned (.int .i64 (lC (lens im) vol start dn))∧Below w.heap.size w w':=by
 have hs:=h.small
 unfold oW at hv hst
 have hlen:(lens im).length=n:=by simp [lens,h.len]
 have HL:=Lib.hid hlen;clear hlen
 have hB0:Below w.heap.size w (w.alloc (.cells #[.int .i64 vol,.int .i64 start,.slice da dn dc] 105)):=(Below.refl _ _).alloc (zg _) _
 by_cases h1:vol<0
 ·go_enter Tryz.func125,Tryz.ntmps125
  go_wp2
  go_ret
  exact ⟨qG (by rw [lC,if_pos (.inl h1)]),hB0⟩
 obtain ⟨k,rfl⟩:=ZbL (Int.not_lt.1 h1)
 by_cases h2:n≤k
 ·go_enter Tryz.func125,Tryz.ntmps125
  go_wp2
  go_ret
  exact ⟨qG (by rw [lC,if_pos (.inr (by rw [HL.out];omega))]),hB0⟩
 have hlt:k<n:=by omega
 obtain ⟨b,off,rfl,_,_⟩:=h.addr hlt
 obtain ⟨x,hx⟩:=h.get hlt
 have HX:Hid ((lens im)[k]?=some (x.length:Int)):=by show _=_;rw [lens,zc,hx];rfl
 obtain ⟨a',n',c',hcell,hx'⟩:=(h.below hB0).slice hx
 have hs':=hx'.small
 have hn':=hx'.len
 have HN:=Lib.hid hn';clear hn'
 clear hx
 by_cases h3:dn=0
 ·subst h3
  go_enter Tryz.func125,Tryz.ntmps125
  go_wp2
  go_ret
  exact ⟨qG (by rw [lC,if_neg (by rw [HL.out];omega),if_pos rfl]),hB0⟩
 have h3':0<dn:=by omega
 clear h3
 by_cases h4:start<0
 ·have d1:decide (start<0)=true:=by simp;omega
  go_enter Tryz.func125,Tryz.ntmps125
  go_wp2_with fail
  refine wp_region_quiet_lit (by kernel_rfl) (by kernel_rfl) ?_
  repeat (go_big_quiet_step (fail))
  refine wpQuiet_nil ?_
  rintro _ ⟨nq,rfl⟩
  go_wp2
  go_ret
  exact ⟨qG (by rw [lC,if_neg (by rw [HL.out];omega),if_neg (by omega),if_pos (.inl h4)]),below_drewN hB0 _⟩
 have h4':0≤start:=by omega
 have d1:decide (start<0)=false:=by simp;omega
 by_cases h5:(n':Int) - dn<start
 ·have d2:decide ((n':Int) - dn<start)=true:=by simp;omega
  go_enter Tryz.func125,Tryz.ntmps125
  go_wp2_with fail
  refine wp_region_quiet_lit (by kernel_rfl) (by kernel_rfl) ?_
  repeat (go_big_quiet_step (fail))
  refine wpQuiet_nil ?_
  rintro _ ⟨nq,rfl⟩
  go_wp2
  go_ret
  exact ⟨qG (by rw [lC,if_neg (by rw [HL.out];omega),if_neg (by omega),if_pos (by rw [Zav,Fe HX.out,HN.out];omega)]),below_drewN hB0 _⟩
 ·have h5':start≤(n':Int) - dn:=by omega
  have d2:decide ((n':Int) - dn<start)=false:=by simp;omega
  go_enter Tryz.func125,Tryz.ntmps125
  go_wp2_with fail
  refine wp_region_quiet_lit (by kernel_rfl) (by kernel_rfl) ?_
  repeat (go_big_quiet_step (fail))
  refine wpQuiet_nil ?_
  rintro _ ⟨nq,rfl⟩
  go_wp2
  go_ret
  exact ⟨qG (by rw [lC,if_neg (by rw [HL.out];omega),if_neg (by omega),if_neg (by rw [Zav,Fe HX.out,HN.out];omega)]),below_drewN hB0 _⟩
theorem Tryz.aq0:(Tryz.prog.info? 129).map (·.size)=some 8:=by kernel_rfl
def Cb (l:List dN)(s:Nat)(d:List dN):List dN:=l.take s++d++l.drop (s+d.length)
def EP (im:List (List dN))(x:Wr):List (List dN):=im.set x.1.toNat (Cb (im.getD x.1.toNat []) x.2.1.toNat x.2.2)
def Ae (sz:List Int)(x:Wr):Int:=lC sz x.1 x.2.1 x.2.2.length
def eH (sz:List Int):List Wr→Nat→Int×Int
 |[],_=>(0,0)
 |x::l,i=>if Ae sz x≠0 then (i,Ae sz x) else eH sz l (i+1)
def rQ (im:List (List dN))(l:List Wr):List (List dN):=if rO im≠0 then [] else YF (eH (lens im) l 0).2 (l.foldl EP im)
def rU (im:List (List dN))(l:List Wr):Int:=if rO im≠0 then 0 else (eH (lens im) l 0).1
def rV (im:List (List dN))(l:List Wr):Int:=if rO im≠0 then rO im else (eH (lens im) l 0).2
def rW (w:World)(im:List (List dN))(l:List Wr):Ending→World→Prop:=fun e w' =>
 ∃ a n c,e=.returned (.tuple #[.slice a n c,.int .i64 (rU im l),.int .i64 (rV im l)])∧Sl nV (w.heap.size≤·) w' a n c (rQ im l)∧(a=none∨rV im l=0)∧Below w.heap.size w w'
theorem rW.mk {w w':World}{im:List (List dN)}{l:List Wr}{a:Option Addr}{n c:Nat}{i e:Int}(hi:i=rU im l)(he:e=rV im l)(h:Sl nV (w.heap.size≤·) w' a n c (rQ im l))(hz:a=none∨rV im l=0)(hB:Below w.heap.size w w') :
  rW w im l (.returned (.tuple #[.slice a n c,.int .i64 i,.int .i64 e])) w':=⟨a,n,c,by rw [hi,he],h,hz,hB⟩
theorem JX {sz:List Int}{l:List Wr}{k:Nat}{x:Wr}(hx:l[k]?=some x)(h:eH sz l 0=eH sz (l.drop k) k)(hf:Ae sz x=0):eH sz l 0=eH sz (l.drop (k+1)) (k+1):=by
 obtain ⟨hk,rfl⟩:=za.1 hx
 rw [h,zt hk,eH,if_neg (by rw [hf];decide)]
theorem O4 {sz:List Int}{l:List Wr}{k:Nat}{x:Wr}(hx:l[k]?=some x)(h:eH sz l 0=eH sz (l.drop k) k)(hf:Ae sz x≠0):eH sz l 0=((k:Int),Ae sz x):=by
 obtain ⟨hk,rfl⟩:=za.1 hx
 rw [h,zt hk,eH,if_pos hf]
theorem O5 {sz:List Int}{l:List Wr}{k:Nat}(hk:l.length≤k)(h:eH sz l 0=eH sz (l.drop k) k):eH sz l 0=(0,0):=by
 rw [h,ZcB hk,eH]
theorem yC {l d:List dN}{s:Nat}(h:s+d.length≤l.length):(Cb l s d).length=l.length:=by
 unfold Cb;simp;omega
theorem YG {im:List (List dN)}{v s:Int}{d:List dN}(h:Ae (lens im) (v,s,d)=0):0≤v∧v<im.length∧0<d.length∧0≤s∧∃ x,im[v.toNat]?=some x∧s+d.length≤x.length:=by
 unfold Ae lC at h
 simp only at h
 split at h
 ·omega
 ·rename_i h1
  split at h
  ·omega
  ·rename_i h2
   split at h
   ·omega
   ·rename_i h3
    have h4:v.toNat<im.length:=by simp [lens] at h1;omega
    have e:(lens im).getD v.toNat 0=((im[v.toNat]'h4).length:Int):=by simp [lens,List.getD,h4]
    rw [e] at h3
    simp [lens] at h1
    exact ⟨by omega,by omega,by omega,by omega,_,ZD h4,by omega⟩
theorem Ux {im:List (List dN)}{x:Wr}(h:Ae (lens im) x=0):lens (EP im x)=lens im:=by
 obtain ⟨v,s,d⟩:=x
 obtain ⟨h1,h2,h3,h4,y,hy,h5⟩:=YG h
 unfold lens EP
 rw [Zcb]
 apply ZbV
 intro i
 rw [zr]
 by_cases hi:v.toNat=i
 ·subst hi
  have hl:=(za.1 hy).1
  simp only [zb,if_true,if_pos hl,zc,hy,Zae]
  rw [Fe hy,yC (by omega)]
 ·rw [if_neg hi]
set_option maxHeartbeats 4000000 in
theorem Xx {a:Option Addr}{n c:Nat}{im:List (List dN)}{ok ok2:Nat→Prop}{w:World}(h:Sl nV ok w a n c im)(hn:n≤1000000)(hvs:∀ v∈im,v.length≤1000000)
  {la:Option Addr} {ln lc:Nat} {l:List Wr} (hl:Sl wrR ok2 w la ln lc l) :
  Calls Tryz.prog 39 #[.slice a n c,.slice la ln lc] w (rW w im l):=by
 by_cases he:rO im=0
 rotate_left
 ·have hb:(rO im != 0)=true:=by simp [he]
  have HE:=Lib.hid he;clear he
  go_enter Tryz.func39,Tryz.ntmps39
  go_wp2_with fail
  refine (Je h hn).mono ?_
  rintro e w1 ⟨rfl,hB1⟩
  go_wp2
  go_ret3
  exact rW.mk (by rw [rU,if_pos HE.out]) (by rw [rV,if_pos HE.out]) (by rw [rQ,if_pos HE.out];exact Sl.nil0 _ _ _) (.inl rfl) hB1
 have hb:(rO im != 0)=false:=by simp [he]
 have HE:=Lib.hid he;clear he
 have hls:=hl.small
 go_enter Tryz.func39,Tryz.ntmps39
 go_wp2_with fail
 refine (Je h hn).mono ?_
 rintro e w1 ⟨rfl,hB1⟩
 go_wp2_with fail
 refine (Xw (h.below hB1) hn hvs).mono ?_
 rintro e w2 ⟨v0,rfl,hown0,hB2⟩
 have hB3:=hB1.trans (hB2.mono hB1.size)
 go_wp2
 go_loopw [21] (fun i wr=>∃ k:Nat,k≤ln∧i=.int .i64 k∧Hid (eH (lens im) l 0=eH (lens im) (l.drop k) k∧lens ((l.take k).foldl EP im)=lens im)∧lQ qH w1.heap.size wr.heap.size 71 wr v0 ((l.take k).foldl EP im)∧Below w1.heap.size w1 wr) (fun i _=>ln - (intOf i).toNat)
 case atStart=>exact ⟨0,ZaI _,rfl,⟨rfl,rfl⟩,hown0,hB2⟩
 case round =>
  obtain ⟨k,hk,rfl,HK,hown,hB⟩:=hrel
  by_cases hlt:k<ln
  ·obtain ⟨b,off,rfl,_,_⟩:=hl.addr hlt
   obtain ⟨⟨v,s,d⟩,hx⟩:=hl.get hlt
   obtain ⟨da,dn,dc,hc0,hc1,hc2,hv,hs,hd⟩:=(hl.below (hB1.trans (hB.mono hB1.size))).wr hx
   have HX:=Lib.hid hx;clear hx
   obtain ⟨a2,n2,c2,rfl,abw⟩:=hown.img
   generalize hcur:(l.take k).foldl EP im=cur at *
   have HC:=Lib.hid hcur;clear hcur
   have hds:=hd.small
   by_cases hf:lC (lens cur) v s dn=0
   rotate_left
   ·have hfb:(lC (lens cur) v s dn != 0)=true:=by simp [hf]
    have HF:=Lib.hid hf;clear hf
    go_wp2_with fail
    refine (L6 (abw.below ((Below.refl _ _).alloc (zg _) _)) hv hs hds).mono ?_
    rintro e w3 ⟨rfl,hB4⟩
    go_wp2
    go_ret3
    have e0:eH (lens im) l 0=((k:Int),lC (lens cur) v s dn):=by
     have e1:Ae (lens im) (v,s,d)=lC (lens cur) v s dn:=by unfold Ae;rw [HK.out.2,hd.len]
     rw [← e1]
     exact O4 HX.out HK.out.1 (by rw [e1];exact HF.out)
    exact rW.mk (by rw [rU,if_neg (by simp [HE.out]),e0]) (by rw [rV,if_neg (by simp [HE.out]),e0]) (by rw [rQ,if_neg (by simp [HE.out]),e0,abu HF.out];exact Sl.nil0 _ _ _) (.inl rfl)
     ((hB1.trans (hB.mono hB1.size)).trans (((Below.refl _ _).alloc (zg _) _).trans (hB4.mono (by simp)) |>.mono (zR hB1.size hB.size)))
   ·have hfb:(lC (lens cur) v s dn != 0)=false:=by simp [hf]
    have hfw:Ae (lens cur) (v,s,d)=0:=by unfold Ae;rw [hd.len];exact hf
    obtain ⟨h1,h2,h3,h4,x,hx,h5⟩:=YG hfw
    obtain ⟨v,rfl⟩:=ZbL h1
    obtain ⟨s,rfl⟩:=ZbL h4
    rw [Zav] at hx
    have HFW:=Lib.hid hfw;clear hfw
    have HF:=Lib.hid hf;clear hf
    have hdn:0<dn:=by rw [← hd.len];exact h3
    have h5':s+dn≤x.length:=by rw [hd.len] at h5;omega
    have h2':v<n2:=by rw [← abw.len];omega
    go_wp2_with fail
    refine (L6 (abw.below ((Below.refl _ _).alloc (zg _) _)) hv hs hds).mono ?_
    rintro e w3 ⟨rfl,hB4⟩
    have hB5:Below wr.heap.size wr w3:=((Below.refl _ _).alloc (zg _) _).trans (hB4.mono (by simp))
    -- the row that is written
    obtain ⟨g,cap,cc,okk,hvv,hBg,hg,hcc,⟨u,rfl,hub,hu,_⟩,auf,hput⟩:=((hown.below hB5).below ((Below.refl _ _).drew)).at hx
    cases hvv
    have hu':=hu
    obtain ⟨xs,hrow,_⟩:=hu
    obtain ⟨gi,Uy,rfl⟩:∃ gi Uy,u=.slice (some ⟨gi,0,none⟩) x.length Uy:=by
     rcases hrow.2 with ⟨_,h0⟩|⟨gi,Uy,cur',hvu,_⟩
     ·omega
     ·exact ⟨gi,Uy,hvu⟩
    have hcap:x.length≤Uy:=by obtain ⟨_,_,_,e,q⟩:=hu'.sl;cases e;exact q.cap
    have hcell:w3.cell? ⟨g,v,none⟩=some (.slice (some ⟨gi,0,none⟩) x.length Uy):=by have:=hcc 0 Nat.zero_lt_one;simpa [qH,fU] using this
    have hgi:=auf gi (hub gi rfl)
    have hw3:=hB5.size
    have hl0:=wz (g:=gi) (OW hB4 (j:=0) rfl) (by show wr.heap.size≠gi;omega)
    have hl1:=wz (g:=gi) (OW hB4 (j:=1) rfl) (by show wr.heap.size≠gi;omega)
    have hl2:=wz (g:=gi) (OW hB4 (j:=2) rfl) (by show wr.heap.size≠gi;omega)
    have hl3:=wz (g:=gi) hcell (fun e=>hgi.2.2 e.symm)
    have hsl:=fun w=>Uu Tryz.underlying71 Tryz.aq0 (some ⟨gi,0,none⟩) x.length Uy s (by omega) w
    have hsub:wB (some ⟨gi,0,none⟩) Uy s 8=some ⟨gi,s*8,none⟩:=by unfold wB;rw [if_neg (by omega)];simp [Addr.add_lit]
    rw [hsub] at hsl
    have HS:=Lib.hid hsub;clear hsub
    have avM:s≤x.length:=by omega
    clear h5 hcc
    go_wp2_with fail
    refine Fv (fun w'=>∃ x:uh (w3) (gi),w'=x.w) [([0,1,2,3,4,5,6,7,8,9],10)] [] Tryz.mixed (by kernel_rfl) (uh.drew _ _) ?_
    refine U3 ?_
    simp only [pick,Zbd,Zby,Zbz,Za8,ZaD]
    change wpQuiet _ _ _ _ [_,_,_,_,_,_,_,_,_,_] _
    repeat (go_big_quiet_step (fail))
    refine wpQuiet_nil ?_
    change wpList _ _ _ [_] _ _
    refine Jc Tryz.alG Flat.sec rfl _ _ rfl (s:=s) (r:=Ap) rfl rfl hu' (ys:=d) (((hd.below hB5).below ((Below.refl _ _).drew))) (by omega) hdn (by omega) ?_
    intro w4 hrow4 abx at6
    have hgr:w3.grownBy w4 (some gi):=Ur (grown_drew _ _) abx
    have hown4:=hput w4 (Cb x s d) (fun b hb hne=>abx.block b hb (fun e=>hne (by rw [ZS.inj e];exact hub gi rfl))) abx.os abx.tape abx.output abx.size ⟨_,rfl,hub,hrow4,fun e=>by
     have:=yC (l:=x) (d:=d) (s:=s) (by rw [hd.len];omega)
     rw [e] at this;simp at this;omega⟩
    have e1:EP cur ((v:Int),(s:Int),d)=cur.set v (Cb x s d):=by
     unfold EP;rw [Zav,Zav,Fe hx]
    have H1:=Lib.hid e1;clear e1
    have HXX:=Lib.hid hx;clear hx
    go_wp2_with fail
    refine ⟨uh.of hgr,?_⟩
    refine Pq ?_
    simp only [pick,Zbd,Zby,Zbz,Za8,ZaD]
    change wpQuiet _ _ _ _ [] _
    repeat (go_big_quiet_step (fail))
    refine wpQuiet_nil ?_
    go_wp2
    go_roundw
    case rel =>
     refine ⟨k+1,by omega,by go_num,?_,?_,(hB.trans (hB5.mono hB.size)).grown hgr (by have:=hB.size;omega) (fun j hj=>by cases hj;omega)⟩
     ·show _∧_
      have hfw:Ae (lens im) ((v:Int),(s:Int),d)=0:=by rw [← HK.out.2];exact HFW.out
      refine ⟨JX HX.out HK.out.1 hfw,?_⟩
      rw [oU HX.out,ZbJ,HC.out]
      show lens (EP cur _)=_
      rw [Ux HFW.out,HK.out.2]
     ·rw [oU HX.out,ZbJ,HC.out]
      show lQ _ _ _ _ _ _ (EP cur _)
      rw [H1.out]
      exact hown4.up (by have:=hgr.size;omega)
    case measure=>simp [intOf];omega
  ·obtain rfl:k=ln:=by omega
   obtain ⟨a2,n2,c2,rfl,abw⟩:=hown.img
   go_wp2
   go_ret3
   have e0:=O5 (Nat.le_of_eq hl.len) HK.out.1
   rw [BZ hl.len] at abw
   exact rW.mk (by rw [rU,if_neg (by simp [HE.out]),e0]) (by rw [rV,if_neg (by simp [HE.out]),e0]) (by rw [rQ,if_neg (by simp [HE.out]),e0,ag9 rfl];exact abw.mono fun b hb=>zR hB1.size hb) (.inr (by rw [rV,if_neg (by simp [HE.out]),e0]))
    (hB1.trans (hB.mono hB1.size))
end Go.Proofs.YthccglceomoboaaGreatDoor
namespace Go.Proofs.YthccglceomoboaaGreatDoor
open Go.RowKit V
theorem Xy {w:World}{b o:Nat}{u:Value}(h:w.cell? ⟨b,o,none⟩=some u):cZ w b:=by
 unfold World.cell? at h
 simp only at h
 split at h
 ·rename_i e;exact ⟨_,_,_,e⟩
 ·cases h
theorem Af {α:Type}{r:Rep α}{enc:α→PV}{ok:Nat→Prop}{w:World}{l:List α}{sz:Nat}{v:Value}(hsz:sz=r.sz)(hc:∀ x,(enc x).cells.length=r.sz)
  (hr:∀ x∈l,∀ (cs:List Value),cs.length=r.sz→(∀ (j:Nat) p u,(enc x).cells[j]?=some p→cs[j]?=some u→aO ok w p u)→r.rd ok w cs x) (h:aO ok w (.list sz (l.map enc)) v):∃ a n c,v=.slice a n c∧Sl r ok w a n c l:=by
 generalize he:l.map enc=es at h
 cases h with
 |nil _ a =>
  have:l=[]:=by simpa using he
  subst this
  exact ⟨a,0,0,rfl,⟨rfl,zg _,ZaI _,fun _=>rfl,.inl rfl⟩⟩
 |list _ _ b off c cv h1 h2 h3 h4 h6 h7 h8 =>
  subst hsz he
  refine ⟨_,_,c,rfl,⟨by simp,h3,h4,(fun e=>by cases e),.inr ⟨b,off,rfl,h1,h2.lt,fun i x hx=>?_⟩⟩⟩
  have hi:(l.map enc)[i]?=some (enc x):=by simp [hx]
  refine ⟨(Zaw r.sz).map (cv i),fun j hj=>?_,hr x (Zab hx) _ (by simp) fun j p u hp hu=>?_⟩
  ·have hj':j<(enc x).cells.length:=by rw [hc];exact hj
   rw [(h7 i _ j _ hi (ZD hj')).1]
   simp [hj]
  ·have hj:j<r.sz:=by have:=(za.1 hp).1;rw [hc] at this;exact this
   have:u=cv i j:=by simp [hj] at hu;exact hu.symm
   rw [this]
   exact h8 i _ j _ hi hp
theorem Jf {α:Type}{r:Rep α}{enc:α→PV}{ok ok':Nat→Prop}{w:World}{l:List α}{a:Option Addr}{n c:Nat}(hk:∀ b,ok b→b<w.heap.size→ok' b)(hp0:0<r.sz)(hc:∀ x,(enc x).cells.length=r.sz)
  (hr:∀ x∈l,∀ (cs:List Value),cs.length=r.sz→r.rd ok w cs x→∀ (j:Nat) p u,(enc x).cells[j]?=some p→cs[j]?=some u→u.oneCell'=true∧aO ok' w p u) (hz:l=[]→c=0) (h:Sl r ok w a n c l):aO ok' w (.list r.sz (l.map enc)) (.slice a n c):=by
 obtain ⟨h1,h2,h3,h4,h5⟩:=h
 by_cases hl:l=[]
 ·have:=hz hl
  subst hl
  have:n=0:=by simpa using h1.symm
  subst this
  have:c=0:=by omega
  subst this
  exact .nil _ _
 ·rcases h5 with h5|⟨b,off,rfl,hb,hlt,h6⟩
  ·exact absurd (Zal (by omega)) hl
  ·have hn:n=(l.map enc).length:=by simp [h1]
   rw [hn]
   have key:∀ (i:Nat) (x:α) (j:Nat) (p:PV),l[i]?=some x→(enc x).cells[j]?=some p→∃ u,w.cell? ⟨b,off+i*r.sz+j,none⟩=some u∧u.oneCell'=true∧aO ok' w p u:=by
    intro i x j p hx hp
    obtain ⟨cs,g1,g2⟩:=h6 i x hx
    have hj:j<r.sz:=by have:=(za.1 hp).1;rw [hc] at this;exact this
    have hl2:=r.len g2
    have hu:cs[j]?=some (cs[j]'(by omega)):=ZD (by omega)
    obtain ⟨k1,k2⟩:=hr x (Zab hx) cs hl2 g2 j p _ hp hu
    exact ⟨_,by rw [g1 j hj,hu],k1,k2⟩
   have get:∀ {i:Nat} {e:PV},(l.map enc)[i]?=some e→∃ x,l[i]?=some x∧e=enc x:=by
    intro i e he
    rw [zc] at he
    cases hx:l[i]? with
    |none=>rw [hx] at he;cases he
    |some x=>rw [hx] at he;cases he;exact ⟨x,rfl,rfl⟩
   have hce:cZ w b:=by
    cases l with
    |nil=>exact absurd rfl hl
    |cons x l =>
     have hj:0<(enc x).cells.length:=by rw [hc];exact hp0
     obtain ⟨u,k1,_⟩:=key 0 x 0 _ rfl (ZD hj)
     exact Xy k1
   refine .list _ _ b off c (fun i j=>(w.cell? ⟨b,off+i*r.sz+j,none⟩).getD undef) (hk b hb hlt) hce (by simp;omega) h3 (fun e he=>?_) (fun i e j x hi hj=>?_) fun i e j x hi hj=>?_
   ·obtain ⟨x,_,rfl⟩:=ZaV.1 he;exact hc x
   ·obtain ⟨x',hx,rfl⟩:=get hi
    obtain ⟨u,k1,k2,k3⟩:=key i x' j x hx hj
    rw [k1];exact ⟨rfl,k2⟩
   ·obtain ⟨x',hx,rfl⟩:=get hi
    obtain ⟨u,k1,k2,k3⟩:=key i x' j x hx hj
    rw [k1];exact k3
theorem YH {ok:Nat→Prop}{w:World}{l:List dN}{v:Value}(h:aO ok w (bM l) v):∃ a n c,v=.slice a n c∧Sl Ap ok w a n c l:=by
 refine Af (r:=Ap) (enc:=fQ) rfl (fun x=>iF x) (fun x _ cs hl hcs=>?_) h
 show cs=mQ x
 refine ZbV fun j=>?_
 by_cases hj:j<8
 ·have h1:cs[j]?=some (cs[j]'(by rw [hl];exact hj)):=ZD _
  have h2:(fQ x).cells[j]?=some (.int .u8 ((x.toList[j]'(by simpa using hj)).toNat:Int)):=by
   show (ql x)[j]?=_
   have hj':j<x.toList.length:=by simpa using hj
   simp only [ql,zc,ZD hj',Zae]
  have:=(hcs j _ _ h2 h1).dh
  have hj':j<x.toList.length:=by simpa using hj
  rw [h1,this]
  simp only [mQ,zc,ZD hj',Zae]
 ·have e1:cs.length=8:=hl
  rw [ZaM (by omega),ZaM (by rw [wE];omega)]
theorem ao2 {ok:Nat→Prop}{w:World}{l:List (List dN)}{v:Value}(h:aO ok w (.list 1 (l.map bM)) v):∃ a n c,v=.slice a n c∧Sl nV ok w a n c l:=by
 refine Af (r:=nV) (enc:=bM) rfl (fun x=>rfl) (fun x _ cs hl hcs=>?_) h
 match cs,hl with
 |[u],_ =>
  obtain ⟨a,n,c,rfl,hs⟩:=YH (hcs 0 _ u rfl rfl)
  exact ⟨a,n,c,rfl,hs⟩
theorem ao3 {ok:Nat→Prop}{w:World}{l:List o7}{v:Value}(hok:∀ x∈l,vS x.volume=true∧vS x.start=true)(h:aO ok w (.list 3 (l.map U6)) v):∃ a n c,v=.slice a n c∧Sl wrR ok w a n c (l.map fun x=>(x.volume,x.start,x.data)):=by
 have:∃ a n c,v=.slice a n c∧Sl (α:=o7) ⟨3,fun ok w cs x=>wrR.rd ok w cs (x.volume,x.start,x.data),fun h=>wrR.len h,fun hk h=>wrR.mono hk h,fun h=>wrR.live h,fun hf h=>wrR.frame hf h,fun h=>wrR.one h⟩ ok w a n c l:=by
  refine Af rfl (fun x=>rfl) (fun x hx cs hl hcs=>?_) h
  match cs,hl with
  |[u,u2,u3],_ =>
   have e1:=(hcs 0 _ u rfl rfl).dh
   have e2:=(hcs 1 _ u2 rfl rfl).dh
   obtain ⟨a,n,c,rfl,hs⟩:=YH (l:=x.data) (hcs 2 _ u3 rfl rfl)
   obtain ⟨o1,o2⟩:=hok x hx
   simp only [vS,ZZ,decide_eq_true_eq] at o1 o2
   exact ⟨[u],[u2,.slice a n c],rfl,⟨by rw [e1],o1⟩,⟨[u2],[.slice a n c],rfl,⟨by rw [e2],o2⟩,a,n,c,rfl,hs⟩⟩
 obtain ⟨a,n,c,rfl,h1,h2,h3,h4,h5⟩:=this
 refine ⟨a,n,c,rfl,⟨by simpa using h1,h2,h3,h4,h5.imp id fun ⟨b,off,g1,g2,g3,g4⟩=>⟨b,off,g1,g2,g3,fun i x hx=>?_⟩⟩⟩
 rw [zc] at hx
 cases hx':l[i]? with
 |none=>rw [hx'] at hx;cases hx
 |some y=>rw [hx'] at hx;cases hx;exact g4 i y hx'
theorem akO {ok ok':Nat→Prop}{w:World}{l:List (List dN)}{a:Option Addr}{n c:Nat}(hk:∀ b,ok b→b<w.heap.size→ok' b)(hz:l=[]→c=0)(hne:∀ x∈l,x≠[])(h:Sl nV ok w a n c l):aO ok' w (.list 1 (l.map bM)) (.slice a n c):=by
 refine Jf (r:=nV) (enc:=bM) hk (by decide) (fun x=>rfl) (fun x hx cs hl hrd j p u hp hu=>?_) hz h
 obtain ⟨a,n,c,rfl,hs⟩:=hrd
 match j with
 |j+1=>simp [bM,PV.cells] at hp
 |0 =>
  cases hp
  cases hu
  refine ⟨rfl,Jf (r:=Ap) (enc:=fQ) hk (by decide) (fun x=>iF x) (fun s _ cs hl hrd j p u hp hu=>?_) (fun e=>absurd e (hne x hx)) hs⟩
  have hrd:cs=mQ s:=hrd
  subst hrd
  simp only [mQ,zc,Zaq] at hu
  have hp:(ql s)[j]?=some p:=hp
  simp only [ql,zc,Zaq] at hp
  obtain ⟨b,h1,rfl⟩:=hu
  obtain ⟨b',h2,rfl⟩:=hp
  rw [h1] at h2
  cases h2
  exact ⟨rfl,.int _ _⟩
theorem L8 (sz:List Int)(x:o7):rC sz x=Ae sz (x.volume,x.start,x.data):=by
 simp only [Ae,lC,rC]
 repeat' split
 all_goals first|rfl|omega
theorem DJ (sz:List Int):∀ (l:List o7) (i:Nat),qc sz l i=eH sz (l.map fun x=>(x.volume,x.start,x.data)) i
 |[],_=>rfl
 |x::l,i=>by rw [Zap,qc,eH,L8,DJ sz l (i+1)]
theorem Xz (im:List (List dN))(l:List o7):QY im l=rV im (l.map fun x=>(x.volume,x.start,x.data)):=by
 unfold QY rV;rw [DJ];rfl
theorem ao4 (im:List (List dN))(l:List o7):apI im l=rU im (l.map fun x=>(x.volume,x.start,x.data)):=by
 unfold apI rU;rw [DJ];rfl
theorem akP (im:List (List dN))(x:o7):Gx im x=EP im (x.volume,x.start,x.data):=rfl
theorem YI:∀ (l:List o7) (im:List (List dN)),l.foldl Gx im=(l.map fun x=>(x.volume,x.start,x.data)).foldl EP im
 |[],_=>rfl
 |x::l,im=>by rw [Zap,ZbG,ZbG,akP,YI l]
theorem ao5 (im:List (List dN))(l:List o7):NP im l=rQ im (l.map fun x=>(x.volume,x.start,x.data)):=by
 unfold NP rQ
 rw [Xz,YI]
 unfold rV YF
 by_cases h:rO im=0
 ·simp [h]
 ·simp [h]
theorem Uz {im:List (List dN)}{x:o7}(h:rC (dI im) x=0):dI (Gx im x)=dI im:=by
 rw [L8] at h
 exact Ux h
theorem Jg:∀ (l:List o7) (im:List (List dN)) (i:Nat),(qc (dI im) l i).2=0→dI (l.foldl Gx im)=dI im
 |[],_,_,_=>rfl
 |x::l,im,i,h=>by
  unfold qc at h
  split at h
  ·rename_i h2;exact absurd h h2
  ·rename_i h2
   have h2:rC (dI im) x=0:=by omega
   have e:=Uz h2
   rw [ZbG,Jg l (Gx im x) (i+1) (by rw [e];exact h),e]
theorem L9 {im:List (List dN)}{l:List o7}(h:QY im l=0):dI (NP im l)=dI im:=by
 unfold NP
 rw [if_pos h]
 unfold QY at h
 split at h
 ·rename_i h2;exact absurd h h2
 ·exact Jg l im 0 h
theorem ahb {im:List (List dN)}(h:xW (dI im)=0):im≠[]∧∀ v∈im,v≠[]:=by
 unfold xW at h
 split at h
 ·cases h
 ·rename_i h1
  split at h
  ·cases h
  ·rename_i h2
   refine ⟨fun e=>by subst e;simp [dI] at h1,fun v hv e=>?_⟩
   subst e
   refine h2 (Zb1.2 ⟨0,?_,by decide⟩)
   exact ZaV.2 ⟨[],hv,rfl⟩
theorem ahc {im:List (List dN)}{l:List o7}:(QY im l=0→NP im l≠[])∧∀ v∈NP im l,v≠[]:=by
 by_cases h:QY im l=0
 ·have h0:xW (dI im)=0:=by
   unfold QY at h
   split at h
   ·rename_i h2;exact absurd h h2
   ·omega
  have:=ahb (im:=NP im l) (by rw [L9 h];exact h0)
  exact ⟨fun _=>this.1,this.2⟩
 ·exact ⟨fun e=>absurd e h,fun v hv=>by unfold NP at hv;rw [if_neg h] at hv;cases hv⟩
theorem ahd {f:Nat}(hc:callable Tryz.prog f=true)(hA:∀ {a:Option Addr} {n c:Nat} {im:List (List dN)} {ok ok2:Nat→Prop} {w:World},Sl nV ok w a n c im→n≤1000000→(∀ v∈im,v.length≤1000000) →
  ∀ {la:Option Addr} {ln lc:Nat} {l:List Wr},Sl wrR ok2 w la ln lc l→Calls Tryz.prog f #[.slice a n c,.slice la ln lc] w (rW w im l)) :
  ∀ args rs,vT args=some rs→callable Tryz.prog f=true∧lW Tryz.prog f args rs:=fun args rs h=>by
 obtain ⟨im,l,rfl,hw,hn,hv,rfl⟩:=aaz h
 refine ⟨hc,fun T0 w vs h1 h2 h3 h4 _=>?_⟩
 match vs,h3 with
 |[v0,v1],_ =>
  obtain ⟨a,n,c,rfl,hs⟩:=ao2 (h4 0 _ v0 rfl rfl)
  obtain ⟨la,ln,lc,rfl,hl⟩:=ao3 hw (h4 1 _ v1 rfl rfl)
  refine (hA hs (by rw [← hs.len];exact hn) hv hl).mono ?_
  rintro e w' ⟨a',n',c',rfl,hr,hz,hB⟩
  rw [← ao4,← Xz]
  rw [← ao5] at hr
  rw [← Xz] at hz
  refine ⟨_,fun b=>if w.heap.size≤b∧b<w'.heap.size then .ro else T0 b,rfl,hB,fun b hb=>if_neg (by omega),fun b hb=>?_,#[_,_,_],rfl,rfl,fun i r u hr' hu=>?_⟩
  ·show (if _ then _ else T0 b)=_
   rw [if_neg (by omega)];exact h2 b (by have:=hB.size;omega)
  ·match i with
   |0 =>
    cases hr';cases hu
    refine akO (ok:=(w.heap.size≤·)) (fun b hb hlt=>if_pos ⟨hb,hlt⟩) (fun e=>?_) ahc.2 hr
    rcases hz with hz|hz
    ·exact hr.nil hz
    ·exact absurd e (ahc.1 hz)
   |1=>cases hr';cases hu;exact .int _ _
   |2=>cases hr';cases hu;exact .int _ _
   |i+3=>simp at hr'
theorem aby:∀ args rs,vT args=some rs→callable Tryz.prog 39=true∧lW Tryz.prog 39 args rs:=ahd (by kernel_rfl) fun h hn hv _ _ _ _ hl=>Xx h hn hv hl
def DK (f:Nat)(fn:dH):Env:=fun k=>if k=f then some (.code fn) else none
theorem zf {P:Program}{f:Nat}{fn:dH}(h:aZ P f fn=true):Ef P (DK f fn):=fun k d hk=>by
 unfold DK at hk
 split at hk
 ·rename_i e;subst e;cases hk;exact h
 ·cases hk
def YJ (n:Nat):Rep Unit where
 sz:=n
 rd _ _ cs _:=cs.length=n∧∀ u∈cs,u.oneCell'=true
 len h:=h.1
 mono _ h:=h
 live h:=h
 frame _ h:=h
 one h:=h.2
theorem Flat.em (n:Nat):Flat (YJ n):=fun h=>h
theorem O6 {ok:Nat→Prop}{w:World}{sz:Nat}{v:Value}(h:aO ok w (.list sz []) v):∃ a c,v=.slice a 0 c∧Sl (YJ sz) (fun _=>True) w a 0 c []:=by
 obtain ⟨l,hl⟩:∃ l:List PV,l=[]:=⟨_,rfl⟩
 rw [← hl] at h
 cases h with
 |nil _ a=>exact ⟨a,0,rfl,⟨rfl,zg _,ZaI _,fun _=>rfl,.inl rfl⟩⟩
 |list _ _ b off c cv h1 h2 h3 h4 h6 h7 h8=>subst hl;exact ⟨_,c,rfl,⟨rfl,ZaI _,h4,(fun e=>by cases e),.inl rfl⟩⟩
--+
theorem ao6:pO Tryz.prog 71 129 8 8 (.agg #[.int .u8 0,.int .u8 0,.int .u8 0,.int .u8 0,.int .u8 0,.int .u8 0,.int .u8 0,.int .u8 0]):=⟨Tryz.underlying71,by kernel_rfl,rfl,by decide⟩
set_option maxHeartbeats 1000000 in
theorem abz {a:Option Addr}{n c:Nat}{l:List Unit}{ok:Nat→Prop}{w:World}(h:Sl (YJ 8) ok w a n c l)(hn:n≤1000000) :
  Calls Tryz.prog 133 #[.slice a n c] w fun e w'=>∃ a' n' c',e=.returned (.slice a' n' c')∧(fU (YJ 8) 129).rd (w.heap.size≤·) w' [.slice a' n' c'] l∧Below w.heap.size w w':=by
 have heq:=fun (a:Option Addr) (n c:Nat) (w:World)=>Lib.run_eql_slice_nil (P:=Tryz.prog) w 71 129 a n c 0 0 Tryz.underlying71
 cases a with
 |none =>
  have h0:l=[]:=Zal (by rw [h.len];have:=h.nil rfl;have:=h.cap;omega)
  have H0:=Lib.hid h0;clear h0
  go_enter Tryz.func133,Tryz.ntmps133
  go_wp2
  go_ret
  refine ⟨_,_,_,rfl,?_,Below.refl _ _⟩
  rw [H0.out]
  exact fU.mk (Own.nil _ _ _ _ _) (fun _=>.inl rfl)
 |some ad =>
  have hs:n≤9223372036854775807:=by have:=zR h.cap h.bnd;unfold maxLen at this;omega
  go_enter Tryz.func133,Tryz.ntmps133
  go_wp2_with (at_builtin;refine qO ao6 rfl _ _ rfl rfl (Own.ag6 (YJ 8) (ok:=fun _=>False) (zg _)) rfl ((Src.J6 (h.below ((Below.refl _ _).alloc (zg _) _))).flat (Flat.em 8)) ?c1 ?c2 ?c3 ?_)
  case c1=>simp;unfold maxLen;omega
  case c2=>simp;omega
  case c3=>simp
  intro v' w1 hown hgrow hat
  obtain ⟨a',n',c',rfl,_⟩:=hown.sl
  go_wp2
  go_ret
  refine ⟨_,_,_,rfl,fU.mk (by simpa using hown) (fun e=>?_),((Below.refl _ _).alloc (zg _) _).grown hgrow (by simp) (fun k hk=>by cases hk;exact zg _)⟩
  subst e
  obtain ⟨xs,h1,_⟩:=hown
  rcases h1.2 with ⟨hv,_⟩|⟨g,cap,cur,hv,_⟩
  ·exact .inl hv
  ·exact .inr ⟨g,cap,by simpa using hv⟩
theorem UA:aZ Tryz.prog 133 X9=true:=by kernel_rfl
theorem JY {en:Env}(hen:en 133=some (.code X9)){e:PV}{es:List PV}(hl:(e::es).length≤lim):cal en 133 [.list 8 (e::es)]=some [(.list 8 (e::es),true)]:=by
 have F1:(es.length+1≤lim)=True:=eq_true (by simpa using hl)
 rw [aj hen rfl]
 simp only [X9]
 simp only [start,aH,aK,aF,aJ,aA,aB,aG,aI,Nat.reduceAdd,Nat.reduceSub]
 simp only [F1,aI,aY,reduceCtorEq,Nat.reduceEqDiff,Nat.reduceAdd,Nat.reduceLT,Nat.reduceLeDiff,Z1]
theorem UC:∀ args rs,jy 8 args=some rs→callable Tryz.prog 133=true∧lW Tryz.prog 133 args rs:=fun args rs h=>by
 unfold jy at h
 split at h
 case h_2=>cases h
 rename_i sz es
 split at h
 case isFalse=>cases h
 rename_i hc
 obtain ⟨rfl,hl⟩:=hc
 cases h
 cases es with
 |cons e es =>
  obtain ⟨n,hn⟩:=lK (JY (en:=DK 133 X9) (if_pos rfl) hl)
  exact uG (zf UA) hn
 |nil =>
  refine ⟨by kernel_rfl,fun T0 w vs h1 h2 h3 h4 _=>?_⟩
  match vs,h3 with
  |[v],_ =>
   have hv:=h4 0 _ v rfl rfl
   obtain ⟨a,c,rfl,hsl⟩:=O6 hv
   refine (abz (ok:=fun _=>True) hsl (by omega)).mono ?_
   rintro e w' ⟨a',n',c',rfl,hrd,hB⟩
   obtain ⟨v,hv,hb,⟨xs,hown,_⟩,hnil⟩:=hrd
   obtain rfl:Value.slice a' n' c'=v:=by simpa using hv
   rcases hown.2 with ⟨e1,_⟩|⟨g,cap,cur,e1,_,hg,_,hm,hs,_⟩
   ·refine ⟨_,T0,rfl,hB,fun _ _=>rfl,fun b hb=>h2 b (by have:=hB.size;omega),#[_],rfl,rfl,fun i r u hr hu=>?_⟩
    cases i with
    |zero=>cases hr;cases hu;exact .inl ⟨rfl,none,e1⟩
    |succ i=>simp at hr
   ·have hg0:w.heap.size≤g:=hb g (by rw [e1];rfl)
    have hgl:g<w'.heap.size:=(zz.1 hg).1
    refine ⟨_,fun b=>if b=g then .row (.part 0 0) else T0 b,rfl,hB,fun b hb=>if_neg (by omega),fun b hb=>?_,#[_],rfl,rfl,fun i r u hr hu=>?_⟩
    ·show (if b=g then _ else T0 b)=_
     rw [if_neg (by omega)];exact h2 b (by have:=hB.size;omega)
    ·cases i with
     |zero =>
      cases hr;cases hu
      exact .inr ⟨g,cap,cur,_,e1,if_pos rfl,hg,hs,ZaI _,hm,(fun e he=>by cases he),fun i e j x hi=>by simp at hi⟩
     |succ i=>simp at hr
--+
theorem ao7:pO Tryz.prog 35 3 1 8 (.int .i64 0):=⟨Tryz.underlying35,by kernel_rfl,rfl,by decide⟩
set_option maxHeartbeats 1000000 in
theorem abA {a:Option Addr}{n c:Nat}{l:List Unit}{ok:Nat→Prop}{w:World}(h:Sl (YJ 1) ok w a n c l)(hn:n≤1000000) :
  Calls Tryz.prog 107 #[.slice a n c] w fun e w'=>∃ a' n' c',e=.returned (.slice a' n' c')∧(fU (YJ 1) 3).rd (w.heap.size≤·) w' [.slice a' n' c'] l∧Below w.heap.size w w':=by
 have heq:=fun (a:Option Addr) (n c:Nat) (w:World)=>Lib.run_eql_slice_nil (P:=Tryz.prog) w 35 3 a n c 0 0 Tryz.underlying35
 cases a with
 |none =>
  have h0:l=[]:=Zal (by rw [h.len];have:=h.nil rfl;have:=h.cap;omega)
  have H0:=Lib.hid h0;clear h0
  go_enter Tryz.func107,Tryz.ntmps107
  go_wp2
  go_ret
  refine ⟨_,_,_,rfl,?_,Below.refl _ _⟩
  rw [H0.out]
  exact fU.mk (Own.nil _ _ _ _ _) (fun _=>.inl rfl)
 |some ad =>
  have hs:n≤9223372036854775807:=by have:=zR h.cap h.bnd;unfold maxLen at this;omega
  go_enter Tryz.func107,Tryz.ntmps107
  go_wp2_with (at_builtin;refine qO ao7 rfl _ _ rfl rfl (Own.ag6 (YJ 1) (ok:=fun _=>False) (zg _)) rfl ((Src.J6 (h.below ((Below.refl _ _).alloc (zg _) _))).flat (Flat.em 1)) ?c1 ?c2 ?c3 ?_)
  case c1=>simp;unfold maxLen;omega
  case c2=>simp;omega
  case c3=>simp
  intro v' w1 hown hgrow hat
  obtain ⟨a',n',c',rfl,_⟩:=hown.sl
  go_wp2
  go_ret
  refine ⟨_,_,_,rfl,fU.mk (by simpa using hown) (fun e=>?_),((Below.refl _ _).alloc (zg _) _).grown hgrow (by simp) (fun k hk=>by cases hk;exact zg _)⟩
  subst e
  obtain ⟨xs,h1,_⟩:=hown
  rcases h1.2 with ⟨hv,_⟩|⟨g,cap,cur,hv,_⟩
  ·exact .inl hv
  ·exact .inr ⟨g,cap,by simpa using hv⟩
theorem UD:aZ Tryz.prog 107 X7=true:=by kernel_rfl
theorem JZ {en:Env}(hen:en 107=some (.code X7)){e:PV}{es:List PV}(hl:(e::es).length≤lim):cal en 107 [.list 1 (e::es)]=some [(.list 1 (e::es),true)]:=by
 have F1:(es.length+1≤lim)=True:=eq_true (by simpa using hl)
 rw [aj hen rfl]
 simp only [X7]
 simp only [start,aH,aK,aF,aJ,aA,aB,aG,aI,Nat.reduceAdd,Nat.reduceSub]
 simp only [F1,aI,aY,reduceCtorEq,Nat.reduceEqDiff,Nat.reduceAdd,Nat.reduceLT,Nat.reduceLeDiff,Z1]
theorem UE:∀ args rs,jy 1 args=some rs→callable Tryz.prog 107=true∧lW Tryz.prog 107 args rs:=fun args rs h=>by
 unfold jy at h
 split at h
 case h_2=>cases h
 rename_i sz es
 split at h
 case isFalse=>cases h
 rename_i hc
 obtain ⟨rfl,hl⟩:=hc
 cases h
 cases es with
 |cons e es =>
  obtain ⟨n,hn⟩:=lK (JZ (en:=DK 107 X7) (if_pos rfl) hl)
  exact uG (zf UD) hn
 |nil =>
  refine ⟨by kernel_rfl,fun T0 w vs h1 h2 h3 h4 _=>?_⟩
  match vs,h3 with
  |[v],_ =>
   have hv:=h4 0 _ v rfl rfl
   obtain ⟨a,c,rfl,hsl⟩:=O6 hv
   refine (abA (ok:=fun _=>True) hsl (by omega)).mono ?_
   rintro e w' ⟨a',n',c',rfl,hrd,hB⟩
   obtain ⟨v,hv,hb,⟨xs,hown,_⟩,hnil⟩:=hrd
   obtain rfl:Value.slice a' n' c'=v:=by simpa using hv
   rcases hown.2 with ⟨e1,_⟩|⟨g,cap,cur,e1,_,hg,_,hm,hs,_⟩
   ·refine ⟨_,T0,rfl,hB,fun _ _=>rfl,fun b hb=>h2 b (by have:=hB.size;omega),#[_],rfl,rfl,fun i r u hr hu=>?_⟩
    cases i with
    |zero=>cases hr;cases hu;exact .inl ⟨rfl,none,e1⟩
    |succ i=>simp at hr
   ·have hg0:w.heap.size≤g:=hb g (by rw [e1];rfl)
    have hgl:g<w'.heap.size:=(zz.1 hg).1
    refine ⟨_,fun b=>if b=g then .row (.part 0 0) else T0 b,rfl,hB,fun b hb=>if_neg (by omega),fun b hb=>?_,#[_],rfl,rfl,fun i r u hr hu=>?_⟩
    ·show (if b=g then _ else T0 b)=_
     rw [if_neg (by omega)];exact h2 b (by have:=hB.size;omega)
    ·cases i with
     |zero =>
      cases hr;cases hu
      exact .inr ⟨g,cap,cur,_,e1,if_pos rfl,hg,hs,ZaI _,hm,(fun e he=>by cases he),fun i e j x hi=>by simp at hi⟩
     |succ i=>simp at hr
--+
theorem ao8:pO Tryz.prog 57 193 1 8 (.int .u64 0):=⟨Tryz.underlying57,by kernel_rfl,rfl,by decide⟩
set_option maxHeartbeats 1000000 in
theorem abB {a:Option Addr}{n c:Nat}{l:List Unit}{ok:Nat→Prop}{w:World}(h:Sl (YJ 1) ok w a n c l)(hn:n≤1000000) :
  Calls Tryz.prog 120 #[.slice a n c] w fun e w'=>∃ a' n' c',e=.returned (.slice a' n' c')∧(fU (YJ 1) 193).rd (w.heap.size≤·) w' [.slice a' n' c'] l∧Below w.heap.size w w':=by
 have heq:=fun (a:Option Addr) (n c:Nat) (w:World)=>Lib.run_eql_slice_nil (P:=Tryz.prog) w 57 193 a n c 0 0 Tryz.underlying57
 cases a with
 |none =>
  have h0:l=[]:=Zal (by rw [h.len];have:=h.nil rfl;have:=h.cap;omega)
  have H0:=Lib.hid h0;clear h0
  go_enter Tryz.func120,Tryz.ntmps120
  go_wp2
  go_ret
  refine ⟨_,_,_,rfl,?_,Below.refl _ _⟩
  rw [H0.out]
  exact fU.mk (Own.nil _ _ _ _ _) (fun _=>.inl rfl)
 |some ad =>
  have hs:n≤9223372036854775807:=by have:=zR h.cap h.bnd;unfold maxLen at this;omega
  go_enter Tryz.func120,Tryz.ntmps120
  go_wp2_with (at_builtin;refine qO ao8 rfl _ _ rfl rfl (Own.ag6 (YJ 1) (ok:=fun _=>False) (zg _)) rfl ((Src.J6 (h.below ((Below.refl _ _).alloc (zg _) _))).flat (Flat.em 1)) ?c1 ?c2 ?c3 ?_)
  case c1=>simp;unfold maxLen;omega
  case c2=>simp;omega
  case c3=>simp
  intro v' w1 hown hgrow hat
  obtain ⟨a',n',c',rfl,_⟩:=hown.sl
  go_wp2
  go_ret
  refine ⟨_,_,_,rfl,fU.mk (by simpa using hown) (fun e=>?_),((Below.refl _ _).alloc (zg _) _).grown hgrow (by simp) (fun k hk=>by cases hk;exact zg _)⟩
  subst e
  obtain ⟨xs,h1,_⟩:=hown
  rcases h1.2 with ⟨hv,_⟩|⟨g,cap,cur,hv,_⟩
  ·exact .inl hv
  ·exact .inr ⟨g,cap,by simpa using hv⟩
theorem UF:aZ Tryz.prog 120 X8=true:=by kernel_rfl
theorem J3 {en:Env}(hen:en 120=some (.code X8)){e:PV}{es:List PV}(hl:(e::es).length≤lim):cal en 120 [.list 1 (e::es)]=some [(.list 1 (e::es),true)]:=by
 have F1:(es.length+1≤lim)=True:=eq_true (by simpa using hl)
 rw [aj hen rfl]
 simp only [X8]
 simp only [start,aH,aK,aF,aJ,aA,aB,aG,aI,Nat.reduceAdd,Nat.reduceSub]
 simp only [F1,aI,aY,reduceCtorEq,Nat.reduceEqDiff,Nat.reduceAdd,Nat.reduceLT,Nat.reduceLeDiff,Z1]
theorem UG:∀ args rs,jy 1 args=some rs→callable Tryz.prog 120=true∧lW Tryz.prog 120 args rs:=fun args rs h=>by
 unfold jy at h
 split at h
 case h_2=>cases h
 rename_i sz es
 split at h
 case isFalse=>cases h
 rename_i hc
 obtain ⟨rfl,hl⟩:=hc
 cases h
 cases es with
 |cons e es =>
  obtain ⟨n,hn⟩:=lK (J3 (en:=DK 120 X8) (if_pos rfl) hl)
  exact uG (zf UF) hn
 |nil =>
  refine ⟨by kernel_rfl,fun T0 w vs h1 h2 h3 h4 _=>?_⟩
  match vs,h3 with
  |[v],_ =>
   have hv:=h4 0 _ v rfl rfl
   obtain ⟨a,c,rfl,hsl⟩:=O6 hv
   refine (abB (ok:=fun _=>True) hsl (by omega)).mono ?_
   rintro e w' ⟨a',n',c',rfl,hrd,hB⟩
   obtain ⟨v,hv,hb,⟨xs,hown,_⟩,hnil⟩:=hrd
   obtain rfl:Value.slice a' n' c'=v:=by simpa using hv
   rcases hown.2 with ⟨e1,_⟩|⟨g,cap,cur,e1,_,hg,_,hm,hs,_⟩
   ·refine ⟨_,T0,rfl,hB,fun _ _=>rfl,fun b hb=>h2 b (by have:=hB.size;omega),#[_],rfl,rfl,fun i r u hr hu=>?_⟩
    cases i with
    |zero=>cases hr;cases hu;exact .inl ⟨rfl,none,e1⟩
    |succ i=>simp at hr
   ·have hg0:w.heap.size≤g:=hb g (by rw [e1];rfl)
    have hgl:g<w'.heap.size:=(zz.1 hg).1
    refine ⟨_,fun b=>if b=g then .row (.part 0 0) else T0 b,rfl,hB,fun b hb=>if_neg (by omega),fun b hb=>?_,#[_],rfl,rfl,fun i r u hr hu=>?_⟩
    ·show (if b=g then _ else T0 b)=_
     rw [if_neg (by omega)];exact h2 b (by have:=hB.size;omega)
    ·cases i with
     |zero =>
      cases hr;cases hu
      exact .inr ⟨g,cap,cur,_,e1,if_pos rfl,hg,hs,ZaI _,hm,(fun e he=>by cases he),fun i e j x hi=>by simp at hi⟩
     |succ i=>simp at hr
--+
theorem ao9:pO Tryz.prog 72 5 1 1 (.int .u8 0):=⟨Tryz.underlying72,by kernel_rfl,rfl,by decide⟩
set_option maxHeartbeats 1000000 in
theorem abC {a:Option Addr}{n c:Nat}{l:List Unit}{ok:Nat→Prop}{w:World}(h:Sl (YJ 1) ok w a n c l)(hn:n≤1000000) :
  Calls Tryz.prog 245 #[.slice a n c] w fun e w'=>∃ a' n' c',e=.returned (.slice a' n' c')∧(fU (YJ 1) 5).rd (w.heap.size≤·) w' [.slice a' n' c'] l∧Below w.heap.size w w':=by
 have heq:=fun (a:Option Addr) (n c:Nat) (w:World)=>Lib.run_eql_slice_nil (P:=Tryz.prog) w 72 5 a n c 0 0 Tryz.underlying72
 cases a with
 |none =>
  have h0:l=[]:=Zal (by rw [h.len];have:=h.nil rfl;have:=h.cap;omega)
  have H0:=Lib.hid h0;clear h0
  go_enter Tryz.func245,Tryz.ntmps245
  go_wp2
  go_ret
  refine ⟨_,_,_,rfl,?_,Below.refl _ _⟩
  rw [H0.out]
  exact fU.mk (Own.nil _ _ _ _ _) (fun _=>.inl rfl)
 |some ad =>
  have hs:n≤9223372036854775807:=by have:=zR h.cap h.bnd;unfold maxLen at this;omega
  go_enter Tryz.func245,Tryz.ntmps245
  go_wp2_with (at_builtin;refine qO ao9 rfl _ _ rfl rfl (Own.ag6 (YJ 1) (ok:=fun _=>False) (zg _)) rfl ((Src.J6 (h.below ((Below.refl _ _).alloc (zg _) _))).flat (Flat.em 1)) ?c1 ?c2 ?c3 ?_)
  case c1=>simp;unfold maxLen;omega
  case c2=>simp;omega
  case c3=>simp
  intro v' w1 hown hgrow hat
  obtain ⟨a',n',c',rfl,_⟩:=hown.sl
  go_wp2
  go_ret
  refine ⟨_,_,_,rfl,fU.mk (by simpa using hown) (fun e=>?_),((Below.refl _ _).alloc (zg _) _).grown hgrow (by simp) (fun k hk=>by cases hk;exact zg _)⟩
  subst e
  obtain ⟨xs,h1,_⟩:=hown
  rcases h1.2 with ⟨hv,_⟩|⟨g,cap,cur,hv,_⟩
  ·exact .inl hv
  ·exact .inr ⟨g,cap,by simpa using hv⟩
theorem UH:aZ Tryz.prog 245 Ya=true:=by kernel_rfl
theorem J4 {en:Env}(hen:en 245=some (.code Ya)){e:PV}{es:List PV}(hl:(e::es).length≤lim):cal en 245 [.list 1 (e::es)]=some [(.list 1 (e::es),true)]:=by
 have F1:(es.length+1≤lim)=True:=eq_true (by simpa using hl)
 rw [aj hen rfl]
 simp only [Ya]
 simp only [start,aH,aK,aF,aJ,aA,aB,aG,aI,Nat.reduceAdd,Nat.reduceSub]
 simp only [F1,aI,aY,reduceCtorEq,Nat.reduceEqDiff,Nat.reduceAdd,Nat.reduceLT,Nat.reduceLeDiff,Z1]
theorem UJ:∀ args rs,jy 1 args=some rs→callable Tryz.prog 245=true∧lW Tryz.prog 245 args rs:=fun args rs h=>by
 unfold jy at h
 split at h
 case h_2=>cases h
 rename_i sz es
 split at h
 case isFalse=>cases h
 rename_i hc
 obtain ⟨rfl,hl⟩:=hc
 cases h
 cases es with
 |cons e es =>
  obtain ⟨n,hn⟩:=lK (J4 (en:=DK 245 Ya) (if_pos rfl) hl)
  exact uG (zf UH) hn
 |nil =>
  refine ⟨by kernel_rfl,fun T0 w vs h1 h2 h3 h4 _=>?_⟩
  match vs,h3 with
  |[v],_ =>
   have hv:=h4 0 _ v rfl rfl
   obtain ⟨a,c,rfl,hsl⟩:=O6 hv
   refine (abC (ok:=fun _=>True) hsl (by omega)).mono ?_
   rintro e w' ⟨a',n',c',rfl,hrd,hB⟩
   obtain ⟨v,hv,hb,⟨xs,hown,_⟩,hnil⟩:=hrd
   obtain rfl:Value.slice a' n' c'=v:=by simpa using hv
   rcases hown.2 with ⟨e1,_⟩|⟨g,cap,cur,e1,_,hg,_,hm,hs,_⟩
   ·refine ⟨_,T0,rfl,hB,fun _ _=>rfl,fun b hb=>h2 b (by have:=hB.size;omega),#[_],rfl,rfl,fun i r u hr hu=>?_⟩
    cases i with
    |zero=>cases hr;cases hu;exact .inl ⟨rfl,none,e1⟩
    |succ i=>simp at hr
   ·have hg0:w.heap.size≤g:=hb g (by rw [e1];rfl)
    have hgl:g<w'.heap.size:=(zz.1 hg).1
    refine ⟨_,fun b=>if b=g then .row (.part 0 0) else T0 b,rfl,hB,fun b hb=>if_neg (by omega),fun b hb=>?_,#[_],rfl,rfl,fun i r u hr hu=>?_⟩
    ·show (if b=g then _ else T0 b)=_
     rw [if_neg (by omega)];exact h2 b (by have:=hB.size;omega)
    ·cases i with
     |zero =>
      cases hr;cases hu
      exact .inr ⟨g,cap,cur,_,e1,if_pos rfl,hg,hs,ZaI _,hm,(fun e he=>by cases he),fun i e j x hi=>by simp at hi⟩
     |succ i=>simp at hr
end Go.Proofs.YthccglceomoboaaGreatDoor
namespace Go.Proofs.YthccglceomoboaaGreatDoor.V
theorem YK {a b:jc}{i:Nat}(h1:i<a.length)(h2:i<b.length):(differ a b)[i]?=some (vV a[i] b[i]):=by
 have hz:i<(a.zip b).length:=by simp;omega
 simp only [differ,zc,ZD hz,Zae,Zd5]
theorem getD_lt {α:Type}{l:List α}{i:Nat}{d:α}(h:i<l.length):l.getD i d=l[i]:=by simp [zP,ZD h]
def okW (l:List o7):Prop:=∀ w∈l,vS w.volume=true∧vS w.start=true
theorem alH {im:jc}{l:List o7}(hw:okW l)(hl:im.length≤1000000)(hr:∀ v∈im,v.length≤1000000):cal env 39 [.list 1 (im.map bM),.list 3 (l.map U6)]=some [(.list 1 ((NP im l).map bM),false),(.int .i64 (apI im l),false),(.int .i64 (QY im l),false)] :=
 (yS aqy).trans (WU hw hl hr)
--+
set_option maxRecDepth 20000 in
theorem ahe {m:TM}{x:TE}{w:TW}{A:List dN}{i0:Int}(hx:Ad x)(hl:m.ws.length≤1000)(hok:m.ok=true)(hK:x.kd % 5=1)(hw:m.ws[x.wh % m.ws.length]?=some w)(hA:cal env 39 [mP [m.a],.list 3 [U6 ⟨0,w.st,w.dat⟩]]=some [(mP [A],false),(.int .i64 i0,false),(.int .i64 0,false)]) :
  cal env 134 [Ak m,Aj x]=some [(Ak ⟨A,m.b,m.log,m.Jb,m.ws.set (x.wh % m.ws.length) ⟨w.st,w.dat,true,w.s⟩,true⟩,false)]:=by
 obtain ⟨hkl,hkw⟩:=za.1 hw
 obtain ⟨x1,x2,x3⟩:=hx
 have hk5:(x.kd:Int).tmod 5=((1:Nat):Int):=by rw [Zas (by omega)];omega
 have F5:((5:Int)=0)=False:=eq_false (by decide)
 have E0:(((1:Nat):Int)==0)=false:=rfl
 have E4:(((1:Nat):Int)==4)=false:=rfl
 have E1:(((1:Nat):Int)==1)=decide (1=1):=rfl
 have E2:(((2:Nat):Int)==2)=true:=rfl
 have D1:decide (1=1)=true:=rfl
 have D2:decide (2=1)=false:=rfl
 have Z0:((0:Int)==0)=true:=rfl
 have EL:((m.ws.length:Int)==0)=false:=by simp;intro e;rw [e] at hkl;simp at hkl
 have FL:((m.ws.length:Int)=0)=False:=eq_false (by omega)
 have W1:IntKind.i64.wrap (x.wh:Int)=x.wh:=aP (by omega)
 have MW:(x.wh:Int).tmod (m.ws.length:Int)=((x.wh % m.ws.length:Nat):Int):=by rw [Zas (by omega)];rfl
 obtain ⟨k,hk⟩:∃ k,x.wh % m.ws.length=k:=⟨_,rfl⟩
 rw [hk] at hkl hw MW ⊢
 have hxk:(m.ws.map Cj)[k]?=some (.agg [.int .i64 0,.int .i64 w.st,.list 8 (w.dat.map fQ),.bool w.f,.bool w.s]):=by rw [zc,hw];rfl
 have L0:m.ws.length≤lim:=by unfold lim;omega
 have Am:∀ x0 x1 x2 x3 x4 x5 x6 x7 x8 x9:PV,part [x0,x1,x2,x3,x4,x5,x6,x7,x8,x9] 0 (some 10)=some (.agg [x0,x1,x2,x3,x4,x5,x6,x7,x8,x9]):=fun _ _ _ _ _ _ _ _ _ _=>rfl
 have P5:∀ a b c d e:PV,part [a,b,c,d,e] 0 (some 5)=some (.agg [a,b,c,d,e]):=fun _ _ _ _ _=>rfl
 have P3:∀ x0 x1 x2 x3 x4:PV,part [x0,x1,x2,x3,x4] 0 (some 3)=some (.agg [x0,x1,x2]):=fun _ _ _ _ _=>rfl
 have hset:(m.ws.map Cj).set k (Cj ⟨w.st,w.dat,true,w.s⟩)=(m.ws.set k ⟨w.st,w.dat,true,w.s⟩).map Cj:=by rw [Zcb]
 rw [Xt] at hset
 have eWe:U6 ⟨0,w.st,w.dat⟩=.agg [.int .i64 0,.int .i64 w.st,.list 8 (w.dat.map fQ)]:=rfl
 have eIe:∀ z:List dN,mP [z]=.list 1 [.list 8 (z.map fQ)]:=fun _=>rfl
 rw [eWe,eIe,eIe] at hA
 unfold Ak
 simp only [eIe]
 rw [qj]
 rw [aj rG rfl];simp only [rE,aQ,Nat.reduceBEq,Nat.reduceLeDiff,Nat.reduceAdd,zd,ze]
 simp only [Am,P5,P3,hk5,F5,E0,E4,E1,E2,D1,D2,Z0,EL,FL,W1,MW,hxk,L0,hok,hA,hset,aC hkl,zb,aN,Nat.reduceMul,Nat.reduceBEq,Nat.reduceLT,Nat.reduceLeDiff,reduceCtorEq,Nat.reduceEqDiff,Nat.reduceAdd,Z1]
--+
set_option maxRecDepth 20000 in
theorem ahg {m:TM}{x:TE}{w:TW}{A:List dN}{i0:Int}(hx:Ad x)(hl:m.ws.length≤1000)(hok:m.ok=true)(hK:x.kd % 5=2)(hw:m.ws[x.wh % m.ws.length]?=some w)(hA:cal env 39 [mP [m.b],.list 3 [U6 ⟨0,w.st,w.dat⟩]]=some [(mP [A],false),(.int .i64 i0,false),(.int .i64 0,false)]) :
  cal env 134 [Ak m,Aj x]=some [(Ak ⟨m.a,A,m.log,m.Jb,m.ws.set (x.wh % m.ws.length) ⟨w.st,w.dat,w.f,true⟩,true⟩,false)]:=by
 obtain ⟨hkl,hkw⟩:=za.1 hw
 obtain ⟨x1,x2,x3⟩:=hx
 have hk5:(x.kd:Int).tmod 5=((2:Nat):Int):=by rw [Zas (by omega)];omega
 have F5:((5:Int)=0)=False:=eq_false (by decide)
 have E0:(((2:Nat):Int)==0)=false:=rfl
 have E4:(((2:Nat):Int)==4)=false:=rfl
 have E1:(((2:Nat):Int)==1)=decide (2=1):=rfl
 have E2:(((2:Nat):Int)==2)=true:=rfl
 have D1:decide (1=1)=true:=rfl
 have D2:decide (2=1)=false:=rfl
 have Z0:((0:Int)==0)=true:=rfl
 have EL:((m.ws.length:Int)==0)=false:=by simp;intro e;rw [e] at hkl;simp at hkl
 have FL:((m.ws.length:Int)=0)=False:=eq_false (by omega)
 have W1:IntKind.i64.wrap (x.wh:Int)=x.wh:=aP (by omega)
 have MW:(x.wh:Int).tmod (m.ws.length:Int)=((x.wh % m.ws.length:Nat):Int):=by rw [Zas (by omega)];rfl
 obtain ⟨k,hk⟩:∃ k,x.wh % m.ws.length=k:=⟨_,rfl⟩
 rw [hk] at hkl hw MW ⊢
 have hxk:(m.ws.map Cj)[k]?=some (.agg [.int .i64 0,.int .i64 w.st,.list 8 (w.dat.map fQ),.bool w.f,.bool w.s]):=by rw [zc,hw];rfl
 have L0:m.ws.length≤lim:=by unfold lim;omega
 have Am:∀ x0 x1 x2 x3 x4 x5 x6 x7 x8 x9:PV,part [x0,x1,x2,x3,x4,x5,x6,x7,x8,x9] 0 (some 10)=some (.agg [x0,x1,x2,x3,x4,x5,x6,x7,x8,x9]):=fun _ _ _ _ _ _ _ _ _ _=>rfl
 have P5:∀ a b c d e:PV,part [a,b,c,d,e] 0 (some 5)=some (.agg [a,b,c,d,e]):=fun _ _ _ _ _=>rfl
 have P3:∀ x0 x1 x2 x3 x4:PV,part [x0,x1,x2,x3,x4] 0 (some 3)=some (.agg [x0,x1,x2]):=fun _ _ _ _ _=>rfl
 have hset:(m.ws.map Cj).set k (Cj ⟨w.st,w.dat,w.f,true⟩)=(m.ws.set k ⟨w.st,w.dat,w.f,true⟩).map Cj:=by rw [Zcb]
 rw [Xt] at hset
 have eWe:U6 ⟨0,w.st,w.dat⟩=.agg [.int .i64 0,.int .i64 w.st,.list 8 (w.dat.map fQ)]:=rfl
 have eIe:∀ z:List dN,mP [z]=.list 1 [.list 8 (z.map fQ)]:=fun _=>rfl
 rw [eWe,eIe,eIe] at hA
 unfold Ak
 simp only [eIe]
 rw [qj]
 rw [aj rG rfl];simp only [rE,aQ,Nat.reduceBEq,Nat.reduceLeDiff,Nat.reduceAdd,zd,ze]
 simp only [Am,P5,P3,hk5,F5,E0,E4,E1,E2,D1,D2,Z0,EL,FL,W1,MW,hxk,L0,hok,hA,hset,aC hkl,zb,aN,Nat.reduceMul,Nat.reduceBEq,Nat.reduceLT,Nat.reduceLeDiff,reduceCtorEq,Nat.reduceEqDiff,Nat.reduceAdd,Z1]
set_option maxRecDepth 20000 in
theorem akQ {m:TM}{x:TE}{w:TW}(hx:Ad x)(hl:m.ws.length≤1000)(hok:m.ok=true)(hK:x.kd % 5=3)(hw:m.ws[x.wh % m.ws.length]?=some w)(hfs:w.f=false∨w.s=false) :
  cal env 134 [Ak m,Aj x]=some [(Ak m,false)]:=by
 obtain ⟨hkl,hkw⟩:=za.1 hw
 obtain ⟨x1,x2,x3⟩:=hx
 have hk5:(x.kd:Int).tmod 5=((3:Nat):Int):=by rw [Zas (by omega)];omega
 have F5:((5:Int)=0)=False:=eq_false (by decide)
 have E0:(((3:Nat):Int)==0)=false:=rfl
 have E4:(((3:Nat):Int)==4)=false:=rfl
 have E1:(((3:Nat):Int)==1)=false:=rfl
 have E2:(((3:Nat):Int)==2)=false:=rfl
 have E3:(((3:Nat):Int)==3)=true:=rfl
 have Z0:((0:Int)==0)=true:=rfl
 have EL:((m.ws.length:Int)==0)=false:=by simp;intro e;rw [e] at hkl;simp at hkl
 have FL:((m.ws.length:Int)=0)=False:=eq_false (by omega)
 have W1:IntKind.i64.wrap (x.wh:Int)=x.wh:=aP (by omega)
 have MW:(x.wh:Int).tmod (m.ws.length:Int)=((x.wh % m.ws.length:Nat):Int):=by rw [Zas (by omega)];rfl
 obtain ⟨k,hk⟩:∃ k,x.wh % m.ws.length=k:=⟨_,rfl⟩
 rw [hk] at hkl hw MW
 have hxk:(m.ws.map Cj)[k]?=some (.agg [.int .i64 0,.int .i64 w.st,.list 8 (w.dat.map fQ),.bool w.f,.bool w.s]):=by rw [zc,hw];rfl
 have L0:m.ws.length≤lim:=by unfold lim;omega
 have Am:∀ x0 x1 x2 x3 x4 x5 x6 x7 x8 x9:PV,part [x0,x1,x2,x3,x4,x5,x6,x7,x8,x9] 0 (some 10)=some (.agg [x0,x1,x2,x3,x4,x5,x6,x7,x8,x9]):=fun _ _ _ _ _ _ _ _ _ _=>rfl
 have P5:∀ a b c d e:PV,part [a,b,c,d,e] 0 (some 5)=some (.agg [a,b,c,d,e]):=fun _ _ _ _ _=>rfl
 have P3:∀ x0 x1 x2 x3 x4:PV,part [x0,x1,x2,x3,x4] 0 (some 3)=some (.agg [x0,x1,x2]):=fun _ _ _ _ _=>rfl
 have hset:(m.ws.map Cj).set k (.agg [.int .i64 0,.int .i64 w.st,.list 8 (w.dat.map fQ),.bool w.f,.bool w.s])=m.ws.map Cj:=by
  obtain ⟨h1,h2⟩:=za.1 hxk
  rw [← h2,List.set_getElem_self]
 have eIe:∀ z:List dN,mP [z]=.list 1 [.list 8 (z.map fQ)]:=fun _=>rfl
 unfold Ak
 simp only [eIe]
 rw [qj]
 rcases hfs with hf|hs
 ·cases hs:w.s with
  |true =>
   rw [hf,hs] at hset
   rw [aj rG rfl];simp only [rE,aQ,Nat.reduceBEq,Nat.reduceLeDiff,Nat.reduceAdd,zd,ze]
   simp only [Am,P5,P3,hk5,F5,E0,E4,E1,E2,E3,Z0,EL,FL,W1,MW,hxk,L0,hf,hs,hset,aC hkl,zb,aN,Nat.reduceMul,Nat.reduceBEq,Nat.reduceLT,Nat.reduceLeDiff,reduceCtorEq,Nat.reduceEqDiff,Nat.reduceAdd,Z1]
  |false =>
   rw [hf,hs] at hset
   rw [aj rG rfl];simp only [rE,aQ,Nat.reduceBEq,Nat.reduceLeDiff,Nat.reduceAdd,zd,ze]
   simp only [Am,P5,P3,hk5,F5,E0,E4,E1,E2,E3,Z0,EL,FL,W1,MW,hxk,L0,hf,hs,hset,aC hkl,zb,aN,Nat.reduceMul,Nat.reduceBEq,Nat.reduceLT,Nat.reduceLeDiff,reduceCtorEq,Nat.reduceEqDiff,Nat.reduceAdd,Z1]
 ·cases hf:w.f with
  |true =>
   rw [hf,hs] at hset
   rw [aj rG rfl];simp only [rE,aQ,Nat.reduceBEq,Nat.reduceLeDiff,Nat.reduceAdd,zd,ze]
   simp only [Am,P5,P3,hk5,F5,E0,E4,E1,E2,E3,Z0,EL,FL,W1,MW,hxk,L0,hf,hs,hset,aC hkl,zb,aN,Nat.reduceMul,Nat.reduceBEq,Nat.reduceLT,Nat.reduceLeDiff,reduceCtorEq,Nat.reduceEqDiff,Nat.reduceAdd,Z1]
  |false =>
   rw [hf,hs] at hset
   rw [aj rG rfl];simp only [rE,aQ,Nat.reduceBEq,Nat.reduceLeDiff,Nat.reduceAdd,zd,ze]
   simp only [Am,P5,P3,hk5,F5,E0,E4,E1,E2,E3,Z0,EL,FL,W1,MW,hxk,L0,hf,hs,hset,aC hkl,zb,aN,Nat.reduceMul,Nat.reduceBEq,Nat.reduceLT,Nat.reduceLeDiff,reduceCtorEq,Nat.reduceEqDiff,Nat.reduceAdd,Z1]
set_option maxRecDepth 20000 in
theorem akR {m:TM}{x:TE}{w:TW}{I:iZ}(hx:Ad x)(hl:m.ws.length≤1000)(hok:m.ok=true)(hK:x.kd % 5=3)(hw:m.ws[x.wh % m.ws.length]?=some w)(hf:w.f=true)(hs:w.s=true)(hEn:cal env 212 [.agg [.int .i64 m.log.size,.int .i64 m.log.bg,.list 1 (m.log.act.map eI),.int .i64 m.log.bm.size,.list 1 (m.log.bm.ws.map eW)],.agg [.int .i64 w.st,.int .i64 (w.dat.length:Int)]]=some [(.agg [.int .i64 I.size,.int .i64 I.bg,.list 1 (I.act.map eI),.int .i64 I.bm.size,.list 1 (I.bm.ws.map eW)],false),(.int .i64 0,false)]) :
  cal env 134 [Ak m,Aj x]=some [(Ak ⟨m.a,m.b,I,m.Jb,m.ws.take (x.wh % m.ws.length)++m.ws.drop (x.wh % m.ws.length+1),true⟩,false)]:=by
 obtain ⟨hkl,hkw⟩:=za.1 hw
 obtain ⟨x1,x2,x3⟩:=hx
 have hk5:(x.kd:Int).tmod 5=((3:Nat):Int):=by rw [Zas (by omega)];omega
 have F5:((5:Int)=0)=False:=eq_false (by decide)
 have E0:(((3:Nat):Int)==0)=false:=rfl
 have E4:(((3:Nat):Int)==4)=false:=rfl
 have E1:(((3:Nat):Int)==1)=false:=rfl
 have E2:(((3:Nat):Int)==2)=false:=rfl
 have E3:(((3:Nat):Int)==3)=true:=rfl
 have Z0:((0:Int)==0)=true:=rfl
 have EL:((m.ws.length:Int)==0)=false:=by simp;intro e;rw [e] at hkl;simp at hkl
 have FL:((m.ws.length:Int)=0)=False:=eq_false (by omega)
 have W1:IntKind.i64.wrap (x.wh:Int)=x.wh:=aP (by omega)
 have MW:(x.wh:Int).tmod (m.ws.length:Int)=((x.wh % m.ws.length:Nat):Int):=by rw [Zas (by omega)];rfl
 obtain ⟨k,hk⟩:∃ k,x.wh % m.ws.length=k:=⟨_,rfl⟩
 rw [hk] at hkl hw MW ⊢
 have hxk:(m.ws.map Cj)[k]?=some (.agg [.int .i64 0,.int .i64 w.st,.list 8 (w.dat.map fQ),.bool w.f,.bool w.s]):=by rw [zc,hw];rfl
 have L0:m.ws.length≤lim:=by unfold lim;omega
 have Am:∀ x0 x1 x2 x3 x4 x5 x6 x7 x8 x9:PV,part [x0,x1,x2,x3,x4,x5,x6,x7,x8,x9] 0 (some 10)=some (.agg [x0,x1,x2,x3,x4,x5,x6,x7,x8,x9]):=fun _ _ _ _ _ _ _ _ _ _=>rfl
 have P5:∀ a b c d e:PV,part [a,b,c,d,e] 0 (some 5)=some (.agg [a,b,c,d,e]):=fun _ _ _ _ _=>rfl
 have P3:∀ x0 x1 x2 x3 x4:PV,part [x0,x1,x2,x3,x4] 0 (some 3)=some (.agg [x0,x1,x2]):=fun _ _ _ _ _=>rfl
 have C0:(0≤(k:Int))=True:=eq_true (by omega)
 have C1:((k:Int)≤(m.ws.length:Int))=True:=eq_true (by omega)
 have C2:(0≤((k+1:Nat):Int))=True:=eq_true (by omega)
 have C3:(((k+1:Nat):Int)≤(m.ws.length:Int))=True:=eq_true (by omega)
 have T1:List.take (m.ws.length - (k+1)) (Zdj (k+1) (Zcs Cj m.ws))=Zdj (k+1) (Zcs Cj m.ws):=Za2 (by simp<;>omega)
 have T2:(List.take k (Zcs Cj m.ws)).length+(Zdj (k+1) (Zcs Cj m.ws)).length≤lim:=by unfold lim;simp<;>omega
 have T3:List.take k (Zcs Cj m.ws)++Zdj (k+1) (Zcs Cj m.ws)=(m.ws.take k++m.ws.drop (k+1)).map Cj:=by rw [ZaC,Zcj,Zc2]
 have WK:IntKind.i64.wrap ((k:Int)+1)=((k+1:Nat):Int):=by rw [aP (by omega)];omega
 have eIe:∀ z:List dN,mP [z]=.list 1 [.list 8 (z.map fQ)]:=fun _=>rfl
 unfold Ak
 simp only [eIe]
 rw [qj]
 rw [aj rG rfl];simp only [rE,aQ,Nat.reduceBEq,Nat.reduceLeDiff,Nat.reduceAdd,zd,ze]
 simp only [Am,P5,P3,hk5,F5,E0,E4,E1,E2,E3,Z0,EL,FL,W1,MW,hxk,L0,hf,hs,hEn,hok,C0,C1,C2,C3,T1,T2,T3,WK,Zav,aC hkl,zb,aN,Nat.reduceMul,Nat.reduceBEq,Nat.reduceLT,Nat.reduceLeDiff,reduceCtorEq,Nat.reduceEqDiff,Nat.reduceAdd,Z1]
def toW (w:TW):PW dN:=⟨⟨w.st,(w.dat.length:Int)⟩,w.f,w.s,fun k=>w.dat.getD (k - w.st.toNat) vg⟩
def toM (m:TM):MW dN:=⟨m.log,m.Jb,m.a,m.b,m.ws.map toW,m.ok⟩
theorem ahh {m:TM}{x:TE}(h:ovT m.ws (pI m x:Int) (sD m x).length 0=false):∀ q∈(toM m).ws,ovE q.e (U2 m x)=false:=fun q hq=>by
 obtain ⟨w,hw,rfl⟩:=ZaV.1 (show q∈m.ws.map toW from hq)
 unfold ovT at h
 rw [ZaE,List.any_eq_false] at h
 have:=h w hw
 rw [Bool.not_eq_true] at this
 unfold ovE toW U2
 rw [Bool.and_comm]
 exact this
theorem apa {m:TM}{x:TE}(hok:m.ok=true)(h0:x.dat.length≠0)(hov:ovT m.ws (pI m x:Int) (sD m x).length 0=false)(hE:bgE m.log (U2 m x)=0):toM (YD m x)=I9 (toM m) (U2 m x) (fun k=>(sD m x).getD (k - pI m x) vg):=by
 unfold YD
 rw [if_neg h0,hov]
 unfold I9 toM
 simp only [zj,if_false,ZaC,Zap,Zao,hok,hE,decide_true,Zai]
 rfl
theorem apc (m:TM)(x:TE):toM (clT m x)=abo (toM m) (decide (x.wh % 2=0)):=by
 unfold clT toM abo
 simp only [decide_eq_true_eq]
theorem akS {m:TM}{k:Nat}{w:TW}(hok:m.ok=true)(hE:EM oJ m.log (toW w).e=0):toM ⟨m.a,m.b,Pm vX oJ m.log (toW w).e,m.Jb,m.ws.take k++m.ws.drop (k+1),true⟩=abn (toM m) k (toW w).e:=by
 unfold toM abn
 simp only [ZaC,Zcj,Zc2,hok,hE,decide_true,Zai]
theorem YL {a:List dN}{w:TW}(h0:0≤w.st)(h:w.st+(w.dat.length:Int)≤(a.length:Int)):putAt a w.st.toNat w.dat=wrA a (toW w).e (toW w).v:=by
 rw [ao1 (by omega)]
 unfold toW
 simp only
 rw [show ((w.st.toNat:Nat):Int)=w.st by omega]
theorem apd {m:TM}{k:Nat}{w:TW}(hok:m.ok=true)(h0:0≤w.st)(h:w.st+(w.dat.length:Int)≤(m.a.length:Int)):toM ⟨putAt m.a w.st.toNat w.dat,m.b,m.log,m.Jb,m.ws.set k ⟨w.st,w.dat,true,w.s⟩,true⟩=EO (toM m) true false k (toW w):=by
 rw [YL h0 h]
 unfold toM EO wrW
 simp [Zcb,hok,toW]
theorem ape {m:TM}{k:Nat}{w:TW}(hok:m.ok=true)(h0:0≤w.st)(h:w.st+(w.dat.length:Int)≤(m.b.length:Int)):toM ⟨m.a,putAt m.b w.st.toNat w.dat,m.log,m.Jb,m.ws.set k ⟨w.st,w.dat,w.f,true⟩,true⟩=EO (toM m) false true k (toW w):=by
 rw [YL h0 h]
 unfold toM EO wrW
 simp [Zcb,hok,toW]
def enT (m:TM)(k:Nat)(w:TW):TM:=⟨m.a,m.b,Pm vX oJ m.log (toW w).e,m.Jb,m.ws.take k++m.ws.drop (k+1),true⟩
def stT (m:TM)(x:TE):TM :=
 if x.kd % 5=0 then YD m x else if x.kd % 5=4 then clT m x else
 match m.ws[x.wh % m.ws.length]? with
 |none=>m
 |some w =>
  if x.kd % 5=1 then ⟨putAt m.a w.st.toNat w.dat,m.b,m.log,m.Jb,m.ws.set (x.wh % m.ws.length) ⟨w.st,w.dat,true,w.s⟩,true⟩ else
  if x.kd % 5=2 then ⟨m.a,putAt m.b w.st.toNat w.dat,m.log,m.Jb,m.ws.set (x.wh % m.ws.length) ⟨w.st,w.dat,w.f,true⟩,true⟩ else
  if w.f=true∧w.s=true then enT m (x.wh % m.ws.length) w else m
theorem aph {n g:Int}{N:Nat}{m:TM}{j:iZ}{c:Nat}(h:Inv n g N (toM m) j c)(hN:n=(N:Int))(hc:c<4096)(x:TE):∃ j',Inv n g N (toM (stT m x)) j' (c+1):=by
 have hok:m.ok=true:=h.ok
 have hla:m.a.length=N:=h.la
 have hlb:m.b.length=N:=h.lb
 obtain ⟨z1,z2,z3,z4⟩:=dA.1 h.n60
 unfold stT
 by_cases k0:x.kd % 5=0
 ·rw [if_pos k0]
  by_cases d0:x.dat.length=0
  ·exact ⟨j,by unfold YD;rw [if_pos d0];exact h.mono (by omega)⟩
  ·cases hov:ovT m.ws (pI m x:Int) (sD m x).length 0 with
   |true=>exact ⟨j,by unfold YD;rw [if_neg d0,hov];exact h.mono (by omega)⟩
   |false =>
    have hp:pI m x<m.a.length:=Nat.mod_lt _ (by omega)
    have hdl:(sD m x).length=min x.dat.length (m.a.length - pI m x):=by unfold sD;rw [Zac];omega
    have hb:oI n (U2 m x)=true:=kN.2 (by unfold U2;simp only;omega)
    have hE:bgE m.log (U2 m x)=0:=Xr h hc hb
    rw [apa hok d0 hov hE]
    exact akC h hc hb _ (ahh hov)
 ·rw [if_neg k0]
  by_cases k4:x.kd % 5=4
  ·rw [if_pos k4,apc]
   exact akD h _
  ·rw [if_neg k4]
   cases hw:m.ws[x.wh % m.ws.length]? with
   |none=>exact ⟨j,h.mono (by omega)⟩
   |some w =>
    have hk:(toM m).ws[x.wh % m.ws.length]?=some (toW w):=by show (m.ws.map toW)[_]?=_;rw [zc,hw];rfl
    have hb:=kN.1 (h.wf (toW w).e (Zbn (Zab hk)))
    have hb1:0≤w.st:=hb.1
    have hb2:w.st+(w.dat.length:Int)≤n:=by have:=hb.2.2.2;unfold toW at this;simp only at this;omega
    simp only
    by_cases k1:x.kd % 5=1
    ·rw [if_pos k1,apd hok hb1 (by omega)]
     exact ⟨j,YB h (by omega) true false hk⟩
    ·rw [if_neg k1]
     by_cases k2:x.kd % 5=2
     ·rw [if_pos k2,ape hok hb1 (by omega)]
      exact ⟨j,YB h (by omega) false true hk⟩
     ·rw [if_neg k2]
      by_cases hfs:w.f=true∧w.s=true
      ·rw [if_pos hfs]
       obtain ⟨e1,e2⟩:=YC h (by omega) hk hfs.1 hfs.2
       unfold enT
       rw [akS hok e2]
       exact ⟨j,e1.mono (by omega)⟩
      ·rw [if_neg hfs]
       exact ⟨j,h.mono (by omega)⟩
end Go.Proofs.YthccglceomoboaaGreatDoor.V
