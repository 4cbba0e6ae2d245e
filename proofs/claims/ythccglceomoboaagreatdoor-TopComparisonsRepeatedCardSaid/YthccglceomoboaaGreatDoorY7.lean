/-
  Part 7 of the texts that the statement stands on.
-/
import Derived.Test.YthccglceomoboaaGreatDoorY6
set_option linter.all false
open List renaming getElem?_eq_getElem → ZZ, getElem?_eq_some_iff → Z3, length_map → za, getElem?_map → zc, length_cons → zd, length_nil → zm, drop_eq_getElem_cons → zw, length_take → Zaa, map_cons → Zai, mem_singleton → Zal, map_append → Zam, take_length → Zaq, getElem_mem → Zas, range → Zau, map_nil → Zaw, append_nil → ZaB, mem_append → ZaC, append_assoc → ZaD, mem_cons → ZaL, drop_length → ZaQ, drop_zero → Za4, mem_map → Za8, range_succ → Zbe, filter_append → Zbw, take_zero → ZbB, drop_succ_cons → ZbJ, not_mem_nil → Zc4
open Nat renaming beq → zb, le_refl → ze
open Bool renaming false_eq_true → zj, and_self → zz, true_and → zE, not_false → Zbi, and_false → Zbj, not_true → Zbn, and_true → Zbu, eq_iff_iff → ZbL, false_or → Zce
open Option renaming map_some → Zae, map_eq_some_iff → Zaj
open Int renaming lt_irrefl → ZaA, toNat_natCast → ZaS
namespace Go.Proofs.YthccglceomoboaaGreatDoor.V
structure afj where
 d0:Int
 d1:Int
 st:Int
 ins:Bool
 out:List dJ
def lF (keep:Bool→Bool→Bool)(x:End)(same:Bool)(s:afj):afj :=
 if same then ⟨if x.list=0 then s.d0+x.step else s.d0,if x.list=1 then s.d1+x.step else s.d1,s.st,s.ins,s.out⟩
 else ⟨if x.list=0 then s.d0+x.step else s.d0,if x.list=1 then s.d1+x.step else s.d1,
  if keep (decide ((if x.list=0 then s.d0+x.step else s.d0) > 0)) (decide ((if x.list=1 then s.d1+x.step else s.d1) > 0))&&!s.ins then x.pos else s.st,
  keep (decide ((if x.list=0 then s.d0+x.step else s.d0) > 0)) (decide ((if x.list=1 then s.d1+x.step else s.d1) > 0)),
  s.out++(if !keep (decide ((if x.list=0 then s.d0+x.step else s.d0) > 0)) (decide ((if x.list=1 then s.d1+x.step else s.d1) > 0))&&s.ins then [⟨s.st,x.pos - s.st⟩] else [])⟩
def ji (keep:Bool→Bool→Bool)(L:List End):Nat→afj
 |0=>⟨0,0,0,false,[]⟩
 |i+1=>match L[i]? with
  |some x=>lF keep x (jc x (L.drop (i+1))) (ji keep L i)
  |none=>ji keep L i
theorem yO {keep:Bool→Bool→Bool}{L:List End}{i:Nat}{x:End}(h:L[i]?=some x):ji keep L (i+1)=lF keep x (jc x (L.drop (i+1))) (ji keep L i):=by
 show (match L[i]? with
  |some x=>lF keep x (jc x (L.drop (i+1))) (ji keep L i)
  |none=>ji keep L i)=_
 rw [h]
theorem Qs (keep:Bool→Bool→Bool)(L:List End):∀ i,i≤L.length→(ji keep L i).out++yK keep (L.drop i) (ji keep L i).d0 (ji keep L i).d1 (ji keep L i).st (ji keep L i).ins=yK keep L 0 0 0 false
 |0,_=>rfl
 |i+1,hi=>by
  have ih:=Qs keep L i (by omega)
  have hx:L[i]?=some L[i]:=ZZ (by omega)
  rw [← ih,yO hx,zw (show i<L.length by omega)]
  generalize L[i]=x
  generalize ji keep L i=s
  conv=>rhs;unfold yK
  unfold lF
  cases jc x (L.drop (i+1)) with
  |true=>rfl
  |false=>simp only [zj,if_false,ZaD]
theorem ZH (keep:Bool→Bool→Bool)(L:List End):(ji keep L L.length).out=yK keep L 0 0 0 false:=by
 have:=Qs keep L L.length (ze _)
 rw [ZaQ] at this
 simpa [yK] using this
theorem Dp {keep:Bool→Bool→Bool}{L:List End}(h:∀ x∈L,(x.step=1∨x.step=-1)∧x.pos≤4096):∀ i:Nat,(-(i:Int)≤(ji keep L i).d0∧(ji keep L i).d0≤i)∧(-(i:Int)≤(ji keep L i).d1∧(ji keep L i).d1≤i)∧(0≤(ji keep L i).st∧(ji keep L i).st≤4096)
 |0=>by simp [ji]
 |i+1=>by
  obtain ⟨h1,h2,h3⟩:=Dp (keep:=keep) h i
  cases hx:L[i]? with
  |none =>
   have:ji keep L (i+1)=ji keep L i:=by
    show (match L[i]? with
     |some x=>lF keep x (jc x (L.drop (i+1))) (ji keep L i)
     |none=>ji keep L i)=_
    rw [hx]
   rw [this]
   omega
  |some x =>
   rw [yO hx]
   obtain ⟨k1,k2⟩:=h x (List.mem_of_getElem? hx)
   generalize ji keep L i=s at *
   unfold lF
   split
   ·simp only
    refine ⟨?_,?_,h3⟩
    ·split<;>omega
    ·split<;>omega
   ·simp only
    refine ⟨?_,?_,?_⟩
    ·split<;>omega
    ·split<;>omega
    ·split<;>omega
def yE (l:List dJ):List (List PV):=l.map fun x=>[aV x]
theorem Hw (l m:List dJ):yE (l++m)=yE l++yE m:=by simp [yE]
theorem Qu (n m:Nat):((n:Int)==(m:Int))=decide (n=m):=by
 by_cases h:n=m
 ·subst h;simp
 ·rw [decide_eq_false h];simp;omega
set_option maxRecDepth 20000 in
set_option maxHeartbeats 2000000 in
theorem acC {keep:Bool→Bool→Bool}{kf:Nat}(hk:∀ p q,cal env kf [.bool p,.bool q]=some [(.bool (keep p q),false)]){L:List End}(hL:∀ x∈L,((x.step=1∨x.step=-1)∧x.pos≤4096)∧x.list<2)(hl:L.length≤1000000)
  {st:St} (h:st.head [0,3,5,6,7,8,15,16,17,18] st.boxes.length=some ⟨sl 80 [(0,.lY),(3,.pv (.bW [.func kf []] 0)),(5,.row 3 (L.map iy)),(6,.aJ 0 0),(7,.pv (.int .i64 0)),(8,.pv (.bool false)),(15,.any),(16,.ref (.slot 5) 0 L.length),(17,.pv (.int .i64 L.length)),(18,.pv (.int .i64 (0:Nat)))],[⟨false,[.pv (.int .i64 0),.pv (.int .i64 0)]⟩],[],some none⟩) :
  den env CJ st=some (.normal,⟨sl 80 [],[⟨false,[.pv (.int .i64 (ji keep L L.length).d0),.pv (.int .i64 (ji keep L L.length).d1)]⟩],yE (ji keep L L.length).out,some none⟩):=by
 unfold CJ
 have hlim:lim=1073741824:=rfl
 have hsm:=Dp (keep:=keep) fun x hx=>(hL x hx).1
 refine aY (env:=env) L.length (fun i=>⟨sl 80 [(0,.lY),(3,.pv (.bW [.func kf []] 0)),(5,.row 3 (L.map iy)),(6,.aJ 0 0),(7,.pv (.int .i64 (ji keep L i).st)),(8,.pv (.bool (ji keep L i).ins)),(15,.any),(16,.ref (.slot 5) 0 L.length),(17,.pv (.int .i64 L.length)),(18,.pv (.int .i64 i))],[⟨false,[.pv (.int .i64 (ji keep L i).d0),.pv (.int .i64 (ji keep L i).d1)]⟩],yE (ji keep L i).out,some none⟩) (fun _=>some (.normal,⟨sl 80 [],[⟨false,[.pv (.int .i64 (ji keep L L.length).d0),.pv (.int .i64 (ji keep L L.length).d1)]⟩],yE (ji keep L L.length).out,some none⟩)) h (fun _=>rfl) (fun _=>by simp only [aN,bJ,Nat.reduceMul,Nat.reduceBEq,Nat.reduceLT,Nat.reduceLeDiff,Nat.reduceAdd,decide_true,zz,zE]) ?_ ?_
 ·intro i rb hi ih
  have hi1:=bU hi (by omega)
  have F1:((i:Int)<(L.length:Int))=True:=eq_true (by omega)
  have hx:L[i]?=some L[i]:=ZZ hi
  obtain ⟨⟨x1,x2⟩,x3⟩:=hL _ (Zas hi)
  have ag5:=yO (keep:=keep) hx
  obtain ⟨⟨s1,s2⟩,⟨s3,s4⟩,s5,s6⟩:=hsm i
  rw [ag5] at ih
  clear ag5
  generalize L[i]=x at *
  generalize hs:ji keep L i=s at *
  obtain ⟨d0,d1,sp,ins,out⟩:=s
  obtain ⟨p,k,t⟩:=x
  simp only at x1 x2 x3 s1 s2 s3 s4 s5 s6 ih
  have hlist:k=0∨k=1:=by omega
  have W0:IntKind.i64.wrap (d0+t)=d0+t:=aQ (by omega)
  have W1:IntKind.i64.wrap (d1+t)=d1+t:=aQ (by omega)
  have W2:IntKind.i64.wrap ((p:Int) - sp)=(p:Int) - sp:=aQ (by omega)
  have I0:index (.int .i64 0) 2=some 0:=rfl
  have I1:index (.int .i64 1) 2=some 1:=rfl
  have IN0:index (.int .i64 ((0:Nat):Int)) 2=some 0:=rfl
  have IN1:index (.int .i64 ((1:Nat):Int)) 2=some 1:=rfl
  have P3:∀ a b c:PV,part [a,b,c] 0 (some 3)=some (.agg [a,b,c]):=fun a b c=>rfl
  -- the next end
  have hnx:(∃ y,L[i+1]?=some y∧jc ⟨p,k,t⟩ (L.drop (i+1))=decide (y.pos=p)∧(((i+1:Nat):Int)<(L.length:Int))∧index (.int .i64 ((i+1:Nat):Int)) L.length=some (i+1))∨(jc ⟨p,k,t⟩ (L.drop (i+1))=false∧¬ (((i+1:Nat):Int)<(L.length:Int))):=by
   by_cases hlt:i+1<L.length
   ·left
    refine ⟨L[i+1],ZZ hlt,?_,by omega,ay hlt⟩
    rw [zw hlt];rfl
   ·right
    refine ⟨?_,by omega⟩
    rw [List.drop_eq_nil_of_le (by omega)];rfl
  rcases hlist with rfl|rfl
  ·-- list 0
   have e1:=hk (decide (d0+t > 0)) (decide (d1 > 0))
   have same:lF keep ⟨p,0,t⟩ true ⟨d0,d1,sp,ins,out⟩=⟨d0+t,d1,sp,ins,out⟩:=by simp [lF]
   have diff:lF keep ⟨p,0,t⟩ false ⟨d0,d1,sp,ins,out⟩=⟨d0+t,d1,if keep (decide (d0+t > 0)) (decide (d1 > 0))&&!ins then (p:Int) else sp,keep (decide (d0+t > 0)) (decide (d1 > 0)),out++(if !keep (decide (d0+t > 0)) (decide (d1 > 0))&&ins then [⟨sp,(p:Int) - sp⟩] else [])⟩:=by simp [lF]
   rcases hnx with ⟨y,hy,hns,hlt,hix⟩|⟨hns,hlt⟩
   ·have F2:(((i+1:Nat):Int)<(L.length:Int))=True:=eq_true hlt
    rw [hns] at ih
    have B:=Qu y.pos p
    generalize hb:decide (y.pos=p)=b at ih B
    cases b with
    |true =>
     rw [same] at ih
     simp only [mM,F1,hx,hi1,W0,W1,W2,I0,I1,IN0,IN1,P3,iy,ay hi,zc,Zae,za,zd,zm,F2,hy,hix,B,aC,Nat.reduceMul,Nat.reduceBEq,Nat.reduceLT,Nat.reduceLeDiff,reduceCtorEq,Nat.reduceEqDiff,Nat.reduceAdd,zb]
     rw [ih _ (by simp only [hi1,aC,Nat.reduceMul,Nat.reduceBEq,Nat.reduceLT,Nat.reduceLeDiff,reduceCtorEq,Nat.reduceEqDiff,Nat.reduceAdd,zb]<;>rfl)]
    |false =>
     rw [diff] at ih
     generalize keep (decide (d0+t > 0)) (decide (d1 > 0))=now at *
     cases now<;>cases ins<;>simp only [Zbn,Zbi,Zbu,Zbj,zz,zj,if_true,if_false,ZaB,Hw] at ih<;>simp only [mM,F1,hx,hi1,W0,W1,W2,I0,I1,IN0,IN1,P3,iy,ay hi,zc,Zae,za,zd,zm,F2,hy,hix,B,e1,aC,Nat.reduceMul,Nat.reduceBEq,Nat.reduceLT,Nat.reduceLeDiff,reduceCtorEq,Nat.reduceEqDiff,Nat.reduceAdd,zb]<;>rw [ih _ (by simp only [hi1,yE,Zai,Zaw,aV,aC,Nat.reduceMul,Nat.reduceBEq,Nat.reduceLT,Nat.reduceLeDiff,reduceCtorEq,Nat.reduceEqDiff,Nat.reduceAdd,zb]<;>rfl)]
   ·have F2:(((i+1:Nat):Int)<(L.length:Int))=False:=eq_false hlt
    rw [hns,diff] at ih
    generalize keep (decide (d0+t > 0)) (decide (d1 > 0))=now at *
    cases now<;>cases ins<;>simp only [Zbn,Zbi,Zbu,Zbj,zz,zj,if_true,if_false,ZaB,Hw] at ih<;>simp only [mM,F1,hx,hi1,W0,W1,W2,I0,I1,IN0,IN1,P3,iy,ay hi,zc,Zae,za,zd,zm,F2,e1,aC,Nat.reduceMul,Nat.reduceBEq,Nat.reduceLT,Nat.reduceLeDiff,reduceCtorEq,Nat.reduceEqDiff,Nat.reduceAdd,zb]<;>rw [ih _ (by simp only [hi1,yE,Zai,Zaw,aV,aC,Nat.reduceMul,Nat.reduceBEq,Nat.reduceLT,Nat.reduceLeDiff,reduceCtorEq,Nat.reduceEqDiff,Nat.reduceAdd,zb]<;>rfl)]
  ·-- list 1
   have e1:=hk (decide (d0 > 0)) (decide (d1+t > 0))
   have same:lF keep ⟨p,1,t⟩ true ⟨d0,d1,sp,ins,out⟩=⟨d0,d1+t,sp,ins,out⟩:=by simp [lF]
   have diff:lF keep ⟨p,1,t⟩ false ⟨d0,d1,sp,ins,out⟩=⟨d0,d1+t,if keep (decide (d0 > 0)) (decide (d1+t > 0))&&!ins then (p:Int) else sp,keep (decide (d0 > 0)) (decide (d1+t > 0)),out++(if !keep (decide (d0 > 0)) (decide (d1+t > 0))&&ins then [⟨sp,(p:Int) - sp⟩] else [])⟩:=by simp [lF]
   rcases hnx with ⟨y,hy,hns,hlt,hix⟩|⟨hns,hlt⟩
   ·have F2:(((i+1:Nat):Int)<(L.length:Int))=True:=eq_true hlt
    rw [hns] at ih
    have B:=Qu y.pos p
    generalize hb:decide (y.pos=p)=b at ih B
    cases b with
    |true =>
     rw [same] at ih
     simp only [mM,F1,hx,hi1,W0,W1,W2,I0,I1,IN0,IN1,P3,iy,ay hi,zc,Zae,za,zd,zm,F2,hy,hix,B,aC,Nat.reduceMul,Nat.reduceBEq,Nat.reduceLT,Nat.reduceLeDiff,reduceCtorEq,Nat.reduceEqDiff,Nat.reduceAdd,zb]
     rw [ih _ (by simp only [hi1,aC,Nat.reduceMul,Nat.reduceBEq,Nat.reduceLT,Nat.reduceLeDiff,reduceCtorEq,Nat.reduceEqDiff,Nat.reduceAdd,zb]<;>rfl)]
    |false =>
     rw [diff] at ih
     generalize keep (decide (d0 > 0)) (decide (d1+t > 0))=now at *
     cases now<;>cases ins<;>simp only [Zbn,Zbi,Zbu,Zbj,zz,zj,if_true,if_false,ZaB,Hw] at ih<;>simp only [mM,F1,hx,hi1,W0,W1,W2,I0,I1,IN0,IN1,P3,iy,ay hi,zc,Zae,za,zd,zm,F2,hy,hix,B,e1,aC,Nat.reduceMul,Nat.reduceBEq,Nat.reduceLT,Nat.reduceLeDiff,reduceCtorEq,Nat.reduceEqDiff,Nat.reduceAdd,zb]<;>rw [ih _ (by simp only [hi1,yE,Zai,Zaw,aV,aC,Nat.reduceMul,Nat.reduceBEq,Nat.reduceLT,Nat.reduceLeDiff,reduceCtorEq,Nat.reduceEqDiff,Nat.reduceAdd,zb]<;>rfl)]
   ·have F2:(((i+1:Nat):Int)<(L.length:Int))=False:=eq_false hlt
    rw [hns,diff] at ih
    generalize keep (decide (d0 > 0)) (decide (d1+t > 0))=now at *
    cases now<;>cases ins<;>simp only [Zbn,Zbi,Zbu,Zbj,zz,zj,if_true,if_false,ZaB,Hw] at ih<;>simp only [mM,F1,hx,hi1,W0,W1,W2,I0,I1,IN0,IN1,P3,iy,ay hi,zc,Zae,za,zd,zm,F2,e1,aC,Nat.reduceMul,Nat.reduceBEq,Nat.reduceLT,Nat.reduceLeDiff,reduceCtorEq,Nat.reduceEqDiff,Nat.reduceAdd,zb]<;>rw [ih _ (by simp only [hi1,yE,Zai,Zaw,aV,aC,Nat.reduceMul,Nat.reduceBEq,Nat.reduceLT,Nat.reduceLeDiff,reduceCtorEq,Nat.reduceEqDiff,Nat.reduceAdd,zb]<;>rfl)]
 ·intro rb
  simp only [mM,ZaA,aC,Nat.reduceMul,Nat.reduceBEq,Nat.reduceLT,Nat.reduceLeDiff,reduceCtorEq,Nat.reduceEqDiff,Nat.reduceAdd,zb]
def setOf (keep:Bool→Bool→Bool)(a b:List dJ):List dJ:=ext (fun s=>keep (uS a s) (uS b s)) 4096
theorem Hy {α:Type}{P:α→Prop}{a b:α}(ha:P a)(hb:P b):∀ l∈[a,b],P l:=by
 intro l hl
 simp only [ZaL,Zc4,or_false] at hl
 rcases hl with rfl|rfl
 ·exact ha
 ·exact hb
theorem Lm {i s:Nat}{l m:List End}(h:l.Perm m):dep i s l=dep i s m:=by
 induction h with
 |nil=>rfl
 |cons x _ ih=>simp only [dep,ih]
 |swap x y l=>simp only [dep];omega
 |trans _ _ h1 h2=>exact h1.trans h2
theorem ZI {i:Nat}{l m:List End}(h:l.Perm m):tot i l=tot i m:=by
 induction h with
 |nil=>rfl
 |cons x _ ih=>simp only [tot,ih]
 |swap x y l=>simp only [tot];omega
 |trans _ _ h1 h2=>exact h1.trans h2
theorem rJ (i:Nat)(e:dJ)(l:List dJ):dW i (e::l)=(if (wX e).2.2 then [⟨(wX e).1.toNat,i,1⟩,⟨(wX e).2.1.toNat,i,-1⟩] else [])++dW i l:=by simp [dW]
theorem qJ {i:Nat}:∀ {l:List dJ} {x:End},x∈dW i l→((x.step=1∨x.step=-1)∧x.pos≤4096)∧x.list=i
 |[],x,h=>by simp [dW] at h
 |e::l,x,h=>by
  rw [rJ] at h
  rcases ZaC.1 h with h|h
  ·cases hw:(wX e).2.2 with
   |false=>rw [hw] at h;simp at h
   |true =>
    obtain ⟨n,m,hnm,h1,h2,-⟩:=Hu hw
    rw [hnm] at h
    simp only [if_true,ZaS,ZaL,Zc4,or_false] at h
    rcases h with rfl|rfl
    ·exact ⟨⟨.inl rfl,by simp only;omega⟩,rfl⟩
    ·exact ⟨⟨.inr rfl,h2⟩,rfl⟩
  ·exact qJ h
theorem Hz {i j:Nat}:∀ l:List dJ,tot j (dW i l)=0
 |[]=>rfl
 |e::l=>by
  rw [rJ,xG,Hz l]
  split
  ·simp only [tot];split<;>omega
  ·rfl
theorem yP {i j s:Nat}(h:i≠j):∀ l:List dJ,dep j s (dW i l)=0
 |[]=>rfl
 |e::l=>by
  rw [rJ,uG,yP h l]
  split
  ·simp [dep,h]
  ·rfl
theorem HY {i s:Nat}(hs:s<4096):∀ l:List dJ,0≤dep i s (dW i l)∧(dep i s (dW i l) > 0 ↔ uS l s=true)
 |[]=>by simp [dW,dep,uS]
 |e::l=>by
  obtain ⟨h1,h2⟩:=HY (i:=i) hs l
  rw [rJ,uG]
  have h3:uS (e::l) s=(UK e s || uS l s):=rfl
  rw [h3]
  cases hw:(wX e).2.2 with
  |false =>
   rw [ZE hw hs]
   simp only [zj,if_false,dep,Int.zero_add,Zce]
   exact ⟨h1,h2⟩
  |true =>
   obtain ⟨n,m,hnm,g1,g2,g3⟩:=Hu hw
   have g4:=g3 s hs
   rw [hnm]
   simp only [if_true,ZaS,dep,true_and]
   cases hin:UK e s with
   |false =>
    rw [Zce,← h2]
    have:¬ (n≤s∧s<m):=fun h=>by rw [g4.2 h] at hin;cases hin
    split<;>split<;>omega
   |true =>
    obtain ⟨k1,k2⟩:=g4.1 hin
    rw [if_pos k1,if_neg (by omega)]
    simp only [Bool.true_or,iff_true]
    omega
theorem ZJ:∀ {l:List End},(∀ i j:Nat,i<j→j<l.length→¬ l[j]!.pos<l[i]!.pos)→Asc l
 |[],_=>trivial
 |[x],_=>trivial
 |x::y::l,h=>by
  refine ⟨?_,ZJ fun i j hij hj=>?_⟩
  ·have:=h 0 1 (by omega) (by simp)
   simp at this
   omega
  ·have:=h (i+1) (j+1) (by omega) (by simp at hj ⊢;omega)
   simpa using this
theorem Uo {keep:Bool→Bool→Bool}(hk:keep false false=false)(a b:List dJ):yK keep (kJ [a,b]) 0 0 0 false=setOf keep a b:=by
 obtain ⟨h1,h2,h3⟩:=vV (bZ 0 [a,b])
 have hr:bZ 0 [a,b]=dW 0 a++dW 1 b:=by simp [bZ]
 have hmem:∀ x∈kJ [a,b],x.pos≤4096:=fun x hx=>by
  have:=h1.mem_iff.1 hx
  rw [hr] at this
  rcases ZaC.1 this with q|q
  ·exact (qJ q).1.2
  ·exact (qJ q).1.2
 have ht:∀ j,tot j (kJ [a,b])=0:=fun j=>by
  unfold kJ
  rw [ZI h1,hr,xG,Hz,Hz];rfl
 have hasc:Asc (kJ [a,b]):=ZJ fun i j hij hj=>h3 i j hij (by unfold kJ at hj;omega)
 rw [Y9 hk hasc hmem (ht 0) (ht 1)]
 unfold setOf
 apply uF
 intro s hs
 unfold jL kJ
 rw [Lm h1,Lm h1,hr,uG,uG,yP (i:=1) (j:=0) (by decide),yP (i:=0) (j:=1) (by decide),Int.add_zero,Int.zero_add]
 have e1:=(HY (i:=0) hs a).2
 have e2:=(HY (i:=1) hs b).2
 have f1:decide (dep 0 s (dW 0 a) > 0)=uS a s:=by
  cases h:uS a s
  ·exact decide_eq_false fun q=>by rw [e1.1 q] at h;cases h
  ·exact decide_eq_true (e1.2 h)
 have f2:decide (dep 1 s (dW 1 b) > 0)=uS b s:=by
  cases h:uS b s
  ·exact decide_eq_false fun q=>by rw [e2.1 q] at h;cases h
  ·exact decide_eq_true (e2.2 h)
 rw [f1,f2]
set_option maxRecDepth 20000 in
theorem acD {keep:Bool→Bool→Bool}(h0:keep false false=false){kf:Nat}(hk:∀ p q,cal env kf [.bool p,.bool q]=some [(.bool (keep p q),false)]){a b:List dJ}(ha:xI a)(hb:xI b)(la:a.length≤10000)(lb:b.length≤10000) :
  iter env 256 [.bW [.list 2 (a.map aV)] 0,.bW [.list 2 (b.map aV)] 0,.bW [.func kf []] 0] none=some (yE (setOf keep a b)):=by
 have hlim:lim=1073741824:=rfl
 obtain ⟨h1,h2,h3⟩:=vV (bZ 0 [a,b])
 have hr:bZ 0 [a,b]=dW 0 a++dW 1 b:=by simp [bZ]
 have hp:=pW (n:=10000) [a,b] 0 (Hy la lb)
 have e1:=afh (ls:=[a,b]) (Hy ha hb) (Hy la lb) (by simp) h2
 have hE:(kJ [a,b]).length≤1000000:=by unfold kJ;rw [h2];simp at hp;omega
 have hm:∀ x∈kJ [a,b],((x.step=1∨x.step=-1)∧x.pos≤4096)∧x.list<2:=fun x hx=>by
  have:=h1.mem_iff.1 hx
  rw [hr] at this
  rcases ZaC.1 this with q|q
  ·have:=qJ q;exact ⟨this.1,by omega⟩
  ·have:=qJ q;exact ⟨this.1,by omega⟩
 have hres:=(ZH keep (kJ [a,b])).trans (Uo h0 a b)
 simp only [Zai,Zaw,wz] at e1
 have L2:(2≤lim)=True:=eq_true (by omega)
 rw [nV aeM rfl rfl]
 have hy:vO 80 [.bW [.list 2 (a.map aV)] 0,.bW [.list 2 (b.map aV)] 0,.bW [.func kf []] 0] none=⟨sl 80 [(0,.lY),(1,.pv (.bW [.list 2 (a.map aV)] 0)),(2,.pv (.bW [.list 2 (b.map aV)] 0)),(3,.pv (.bW [.func kf []] 0))],[],[],some none⟩:=rfl
 simp only [KI]
 rw [hy]
 simp only [e1,L2,za,aC,Nat.reduceMul,Nat.reduceBEq,Nat.reduceLT,Nat.reduceLeDiff,reduceCtorEq,Nat.reduceEqDiff,Nat.reduceAdd,zb]
 rw [acC hk hm hE (by simp only [aC,Nat.reduceMul,Nat.reduceBEq,Nat.reduceLT,Nat.reduceLeDiff,reduceCtorEq,Nat.reduceEqDiff,Nat.reduceAdd,zb]<;>rfl)]
 rw [hres]
 rfl
theorem afk {g:Nat}{caps:List PV}{l:List dJ}(hi:iter env g caps none=some (yE l))(hl:l.length≤1000000):cal env 255 [.kE 2,.func g caps]=some [(.list 2 (l.map aV),true)]:=by
 have hlim:lim=1073741824:=rfl
 rw [aG aeL rfl];simp only [KH];simp only [start,bC,bM,bg,bK,aW,aX,bn,aZ,Nat.reduceAdd,Nat.reduceSub]
 simp only [gy,reduceCtorEq,Nat.reduceEqDiff,Nat.reduceAdd,Nat.reduceLT,Nat.reduceLeDiff,zb]
 rw [uz (env:=env) (fun j=>[⟨false,[.row 2 ((l.take j).map aV)]⟩]) (xs:=yE l) rfl hi rfl ?_]
 ·simp only [yE,za,Zaq,yI,gy,reduceCtorEq,Nat.reduceEqDiff,Nat.reduceAdd,Nat.reduceLT,Nat.reduceLeDiff,zb]
 ·intro j x hx sl0
  simp only [yE,zc,Zaj] at hx
  obtain ⟨e,he,rfl⟩:=hx
  have hj:=(Z3.1 he).1
  have F3:((l.take j).length+1≤lim)=True:=eq_true (by rw [Zaa];omega)
  have ht:l.take (j+1)=l.take j++[e]:=by rw [List.take_add_one,he];rfl
  rw [ht]
  refine ⟨?_,?_⟩
  rotate_left
  ·simp only [KF,KG,F3,aV,Zam,Zai,Zaw,yI,gy,reduceCtorEq,Nat.reduceEqDiff,Nat.reduceAdd,Nat.reduceLT,Nat.reduceLeDiff,zb]
   rfl
theorem afl {g:Nat}{caps:List PV}{l:List dJ}(hi:iter env g caps none=some (yE l))(hl:l.length≤1000000):cal env 213 [.func g caps]=some [(.list 2 (l.map aV),true)]:=by
 have e1:=afk hi hl
 rw [aG aeH rfl];simp only [KA];simp only [start,bC,bM,bg,bK,aW,aX,bn,aZ,Nat.reduceAdd,Nat.reduceSub]
 simp only [e1,gy,reduceCtorEq,Nat.reduceEqDiff,Nat.reduceAdd,Nat.reduceLT,Nat.reduceLeDiff,zb]
def Ur (p q:Bool):Bool:=p || q
theorem Us (l:List dJ)(i:Nat):(jD l i).length≤l.length+1:=by
 rcases iU l with rfl|⟨p,x,rfl⟩
 ·simp [jD]
 ·rw [gB];split<;>simp
theorem xM (p:Nat→Bool):∀ n,(ext p n).length≤n
 |0=>ze _
 |n+1=>by
  rw [iZ]
  have:=xM p n
  have:=Us (ext p n) n
  split<;>omega
theorem Fj (keep:Bool→Bool→Bool)(a b:List dJ):(setOf keep a b).length≤4096:=xM _ _
theorem afm {a b:List PV}{kf:Nat}:cal env 214 [.list 2 a,.list 2 b,.func kf []]=some [(.func 256 [.bW [.list 2 a] 0,.bW [.list 2 b] 0,.bW [.func kf []] 0],false)]:=by
 rw [aG aeI rfl];simp only [KC,aN,Nat.reduceBEq,Nat.reduceLeDiff,Nat.reduceAdd,zd,zm]
 simp only [aC,Nat.reduceMul,Nat.reduceBEq,Nat.reduceLT,Nat.reduceLeDiff,reduceCtorEq,Nat.reduceEqDiff,Nat.reduceAdd,zb]
theorem afn (p q:Bool):cal env 243 [.bool p,.bool q]=some [(.bool (Ur p q),false)]:=by
 cases p<;>cases q<;>(rw [aG aeJ rfl];simp only [KD,aN,Nat.reduceBEq,Nat.reduceLeDiff,Nat.reduceAdd,zd,zm];simp only [aC,Nat.reduceMul,Nat.reduceBEq,Nat.reduceLT,Nat.reduceLeDiff,reduceCtorEq,Nat.reduceEqDiff,Nat.reduceAdd,zb]<;>rfl)
theorem ZK {a b:List dJ}(ha:xI a)(hb:xI b)(la:a.length≤10000)(lb:b.length≤10000):cal env 180 [.list 2 (a.map aV),.list 2 (b.map aV)]=some [(.list 2 ((setOf Ur a b).map aV),true)]:=by
 have e1:=afm (a:=a.map aV) (b:=b.map aV) (kf:=243)
 have hi:=acD (keep:=Ur) rfl (kf:=243) (fun p q=>afn p q) ha hb la lb
 have hlen:=Fj Ur a b
 have e2:=afl hi (by omega)
 rw [aG aev rfl];simp only [JZ,aN,Nat.reduceBEq,Nat.reduceLeDiff,Nat.reduceAdd,zd,zm]
 simp only [e1,e2,aC,Nat.reduceMul,Nat.reduceBEq,Nat.reduceLT,Nat.reduceLeDiff,reduceCtorEq,Nat.reduceEqDiff,Nat.reduceAdd,zb]
--+
theorem Lp:xI []:=fun x hx=>by cases hx
def OZ (l:List dJ):List dJ:=setOf Ur l []
def ni (l:List dJ):Int:=(l.map fun x=>x.count).sum
theorem uK (l:List dJ)(x:dJ):ni (l++[x])=ni l+x.count:=by simp [ni]
theorem vW (p:Nat→Bool)(n:Nat):(∀ x∈ext p n,0≤x.start∧1≤x.count∧x.start+x.count≤(n:Int)):=by
 induction n with
 |zero=>intro x hx;cases hx
 |succ n ih =>
  rw [iZ]
  split
  ·rcases iU (ext p n) with e|⟨pre,y,e⟩
   ·rw [e]
    intro x hx
    have:jD [] n=[⟨(n:Int),1⟩]:=rfl
    rw [this] at hx
    simp only [Zal] at hx
    subst hx
    simp only;omega
   ·rw [e] at ih ⊢
    intro x hx
    rw [gB] at hx
    split at hx
    ·rcases ZaC.1 hx with h|h
     ·have:=ih x (by simp [h]);omega
     ·simp only [Zal] at h
      have:=ih y (by simp)
      subst h;simp only;omega
    ·rcases ZaC.1 hx with h|h
     ·have:=ih x h;omega
     ·simp only [Zal] at h
      subst h;simp only;omega
  ·intro x hx;have:=ih x hx;omega
theorem zU (p:Nat→Bool):∀ n,ni (ext p n)=(((Zau n).filter p).length:Int)
 |0=>rfl
 |n+1=>by
  have ih:=zU p n
  rw [iZ,Zbe,Zbw,List.length_append]
  cases h:p n with
  |false=>rw [List.filter_cons_of_neg (by simp [h])];simpa using ih
  |true =>
   rw [List.filter_cons_of_pos h,List.filter_nil,if_pos rfl]
   have:ni (jD (ext p n) n)=ni (ext p n)+1:=by
    rcases iU (ext p n) with e|⟨pre,y,e⟩
    ·rw [e];rfl
    ·rw [e,gB]
     split
     ·rw [uK,uK];simp only;omega
     ·rw [uK]
   rw [this,ih];simp
theorem ZL {l:List dJ}(h:∀ x∈l,0≤x.count∧x.count≤4096):∀ i,0≤ni (l.take i)∧ni (l.take i)≤4096*(l.take i).length:=by
 intro i
 have:∀ m:List dJ,(∀ x∈m,0≤x.count∧x.count≤4096)→0≤ni m∧ni m≤4096*m.length:=by
  intro m
  induction m with
  |nil=>intro _;simp [ni]
  |cons x m ih =>
   intro hm
   have h1:=hm x (by simp)
   have h2:=ih fun y hy=>hm y (by simp [hy])
   have:ni (x::m)=x.count+ni m:=by simp [ni]
   rw [this,zd]
   omega
 exact this _ fun x hx=>h x (List.mem_of_mem_take hx)
theorem acE {l:List dJ}(hl:l.length≤10000)(hc:∀ x∈l,0≤x.count∧x.count≤4096){st:St}(h:st.head [3,7,8,9] st.boxes.length=some ⟨sl 19 [(3,.pv (.int .i64 (ni (l.take ((0:Nat)))))),(7,.row 2 (l.map aV)),(8,.pv (.int .i64 l.length)),(9,.pv (.int .i64 (0:Nat)))],[],[],none⟩) :
  den env Bj st=some (.normal,⟨sl 19 [(2,.any),(3,.pv (.int .i64 (ni l)))],[],[],none⟩):=by
 unfold Bj
 refine aY (env:=env) (l.length) (fun i=>⟨sl 19 [(3,.pv (.int .i64 (ni (l.take (i))))),(7,.row 2 (l.map aV)),(8,.pv (.int .i64 l.length)),(9,.pv (.int .i64 i))],[],[],none⟩) (fun i=>some (.normal,⟨sl 19 [(2,.any),(3,.pv (.int .i64 (ni l)))],[],[],none⟩)) h (fun _=>rfl) (fun _=>by simp only [aN,bJ,Nat.reduceMul,Nat.reduceBEq,Nat.reduceLT,Nat.reduceLeDiff,Nat.reduceAdd,decide_true,zz,zE]) ?_ ?_
 ·intro i rb hi ih
  have hlim:lim=1073741824:=rfl
  have hi1:=bU hi (by omega)
  have F1:((i:Int)<(l.length:Int))=True:=eq_true (by omega)
  have hx:l[i]?=some l[i]:=ZZ hi
  have ht:=vU hi
  obtain ⟨t1,t2⟩:=ZL hc i
  have hcx:=hc _ (Zas hi)
  have hlt:(l.take i).length≤l.length:=by rw [Zaa];omega
  generalize l[i]=x at *
  have P2:part [PV.int .i64 x.start,.int .i64 x.count] 0 (some 2)=some (.agg [.int .i64 x.start,.int .i64 x.count]):=rfl
  have W:IntKind.i64.wrap (ni (l.take i)+x.count)=ni (l.take i)+x.count:=aQ (by omega)
  simp only [Bh,F1,hx,aV,P2,W,ay hi,zc,Zae,za,aC,Nat.reduceMul,Nat.reduceBEq,Nat.reduceLT,Nat.reduceLeDiff,reduceCtorEq,Nat.reduceEqDiff,Nat.reduceAdd,zb]
  rw [ih _ (by simp only [hi1,ht,uK,aC,Nat.reduceMul,Nat.reduceBEq,Nat.reduceLT,Nat.reduceLeDiff,reduceCtorEq,Nat.reduceEqDiff,Nat.reduceAdd,zb]<;>rfl)]
 ·intro rb
  simp only [Bh,ZaA,za,Zaq,aC,Nat.reduceMul,Nat.reduceBEq,Nat.reduceLT,Nat.reduceLeDiff,reduceCtorEq,Nat.reduceEqDiff,Nat.reduceAdd,zb]
theorem O1 {l:List dJ}(ho:xI l)(hl:l.length≤10000):cal env 100 [.list 2 (l.map aV)]=some [(.int .i64 (ni (OZ l)),false)]:=by
 have e1:=ZK ho Lp hl (by simp)
 simp only [Zaw] at e1
 have h1:=Fj Ur l []
 have h2:=vW (fun s=>Ur (uS l s) (uS [] s)) 4096
 unfold OZ
 have hc:∀ x∈setOf Ur l [],0≤x.count∧x.count≤4096:=fun x hx=>by have:=h2 x hx;omega
 generalize setOf Ur l []=r at *
 rw [aG aej rfl];simp only [JO,aN,Nat.reduceBEq,Nat.reduceLeDiff,Nat.reduceAdd,zd,zm]
 simp only [e1,za,aC,Nat.reduceMul,Nat.reduceBEq,Nat.reduceLT,Nat.reduceLeDiff,reduceCtorEq,Nat.reduceEqDiff,Nat.reduceAdd,zb]
 rw [acE (l:=r) (by omega) hc (by simp only [ZbB,ni,Zaw,List.sum_nil,aC,Nat.reduceMul,Nat.reduceBEq,Nat.reduceLT,Nat.reduceLeDiff,reduceCtorEq,Nat.reduceEqDiff,Nat.reduceAdd,zb]<;>rfl)]
 simp only [e1,za,aC,Nat.reduceMul,Nat.reduceBEq,Nat.reduceLT,Nat.reduceLeDiff,reduceCtorEq,Nat.reduceEqDiff,Nat.reduceAdd,zb]
end Go.Proofs.YthccglceomoboaaGreatDoor.V
namespace Go.Proofs.YthccglceomoboaaGreatDoor
end Go.Proofs.YthccglceomoboaaGreatDoor
namespace Go.Proofs.YthccglceomoboaaGreatDoor.V
def mk (f:Nat→Bool):List Bool:=(Zau 4096).map f
theorem Dq (l:List dJ)(e:dJ)(s:Nat):uS (l++[e]) s=(uS l s || UK e s):=by simp [uS]
theorem Lr (x y:dJ):eX [.int .i64 x.start,.int .i64 x.count] [.int .i64 y.start,.int .i64 y.count]=some (decide (x=y)):=by
 simp only [eX,if_true,Zae]
 congr 1
 obtain ⟨a,b⟩:=x
 obtain ⟨c,d⟩:=y
 by_cases h1:a=c<;>by_cases h2:b=d<;>simp [h1,h2]
--+
theorem afo {a b:List dJ}(hl:a.length≤lim)(hab:a.length=b.length){st:St}(h:st.head [0,1,5] st.boxes.length=some ⟨[.pv (.list 2 (a.map aV)),.pv (.list 2 (b.map aV)),.any,.any,.any,.pv (.int .i64 (0:Nat)),.any,.any,.any,.any,.any,.any,.any,.any,.any,.any,.any,.any,.any,.any,.any,.any,.any,.any,.any,.any],[],[],none⟩) :
  den env G6 st=if a=b then some (.normal,⟨[.any,.any,.any,.any,.any,.any,.any,.any,.any,.any,.any,.any,.any,.any,.any,.any,.any,.any,.any,.any,.any,.any,.any,.any,.any,.any],[],[],none⟩) else some (.ret,⟨[.any,.any,.any,.any,.pv (.bool false),.any,.any,.any,.any,.any,.any,.any,.any,.any,.any,.any,.any,.any,.any,.any,.any,.any,.any,.any,.any,.any],[],[],none⟩):=by
 unfold G6
 rw [ aY (env:=env) (a.length) (fun i=>⟨[.pv (.list 2 (a.map aV)),.pv (.list 2 (b.map aV)),.any,.any,.any,.pv (.int .i64 i),.any,.any,.any,.any,.any,.any,.any,.any,.any,.any,.any,.any,.any,.any,.any,.any,.any,.any,.any,.any],[],[],none⟩) (fun i=>if a.drop i=b.drop i then some (.normal,⟨[.any,.any,.any,.any,.any,.any,.any,.any,.any,.any,.any,.any,.any,.any,.any,.any,.any,.any,.any,.any,.any,.any,.any,.any,.any,.any],[],[],none⟩) else some (.ret,⟨[.any,.any,.any,.any,.pv (.bool false),.any,.any,.any,.any,.any,.any,.any,.any,.any,.any,.any,.any,.any,.any,.any,.any,.any,.any,.any,.any,.any],[],[],none⟩)) h (fun _=>rfl) (fun _=>rfl) ?_ ?_]
 ·first|rfl|simp only [Za4,ZbB,Zaw,Nat.zero_add,List.nil_append,List.foldl_nil]
 ·intro i rb hi ih
  have hi1:=bU hi hl
  have hj:i<b.length:=by omega
  have F1:((i:Int)<(a.length:Int))=True:=eq_true (by omega)
  have P:∀ x:dJ,part [PV.int .i64 x.start,.int .i64 x.count] 0 (some 2)=some (.agg [.int .i64 x.start,.int .i64 x.count]):=fun x=>rfl
  simp only [G5,F1,aV,ay hi,ay hj,zc,ZZ hi,ZZ hj,P,Lr,zd,zm,gy,reduceCtorEq,Nat.reduceEqDiff,Nat.reduceAdd,Nat.reduceLT,Nat.reduceLeDiff,zb]
  rw [zw hi,zw hj]
  (try simp only [iq,je,iw]);refine fM (fun hb=>?_) (fun hb=>?_)<;>try simp only [hb,gy,reduceCtorEq,Nat.reduceEqDiff,Nat.reduceAdd,Nat.reduceLT,Nat.reduceLeDiff,zb]
  ·rw [ih _ (by simp only [hi1];rfl)]
   simp only [decide_eq_true_eq] at hb
   simp only [hb,List.cons.injEq,true_and]
  ·simp only [decide_eq_false_iff_not] at hb
   simp only [hb,List.cons.injEq,false_and,if_false]
   rfl
 ·intro rb
  simp only [G5,ZaA,gy,reduceCtorEq,Nat.reduceEqDiff,Nat.reduceAdd,Nat.reduceLT,Nat.reduceLeDiff,zb]
  rw [ZaQ,hab,ZaQ,if_pos rfl]
  rfl
theorem ag6 {a b:List dJ}(hl:a.length≤lim):cal env 32 [.list 2 (a.map aV),.list 2 (b.map aV)]=some [(.bool (decide (a=b)),false)]:=by
 rw [aG agQ rfl];simp only [Xf];simp only [start,bC,bM,bg,bK,aW,aX,bn,aZ,Nat.reduceAdd,Nat.reduceSub]
 simp only [gy,reduceCtorEq,Nat.reduceEqDiff,Nat.reduceAdd,Nat.reduceLT,Nat.reduceLeDiff,zb]
 (try simp only [iq,je,iw]);refine fM (fun hb=>?_) (fun hb=>?_)<;>try simp only [hb,gy,reduceCtorEq,Nat.reduceEqDiff,Nat.reduceAdd,Nat.reduceLT,Nat.reduceLeDiff,zb]
 ·have hab:a.length=b.length:=by simp at hb;omega
  rw [afo hl hab]
  rotate_left
  ·rfl
  ·by_cases e:a=b<;>simp only [e,lU,reduceCtorEq,Nat.reduceEqDiff,Nat.reduceAdd,Nat.reduceLT,Nat.reduceLeDiff,zb]
 ·have:a≠b:=fun e=>by subst e;simp at hb
  simp only [this,lU,reduceCtorEq,Nat.reduceEqDiff,Nat.reduceAdd,Nat.reduceLT,Nat.reduceLeDiff,zb]
def mP (size:Int):Int→List dJ→Int
 |_,[]=>0
 |nx,e::l=>if e.count≤0 then 1 else if e.start<0∨e.count > size - e.start then 2 else if e.start<nx then 3 else mP size (e.start+e.count+1) l
def acF (l:List dJ)(size:Int):Int:=if size<0∨4096<size then 2 else mP size 0 l
def Ls (l:List dJ):Nat→Int
 |0=>0
 |i+1=>match l[i]? with
  |some e=>e.start+e.count+1
  |none=>0
theorem Lu {l:List dJ}{i:Nat}{e:dJ}(h:l[i]?=some e):Ls l (i+1)=e.start+e.count+1:=by
 show (match l[i]? with
  |some e=>e.start+e.count+1
  |none=>0)=_
 rw [h]
set_option maxRecDepth 20000 in
theorem acG {l:List dJ}{size:Int}(hs:0≤size∧size≤4096)(ho:xI l)(hl:l.length≤10000){st:St}(h:st.head [0,1,5,14,15,16] st.boxes.length=some ⟨sl 49 [(0,.pv (.list 2 (l.map aV))),(1,.pv (.int .i64 size)),(5,.pv (.int .i64 (Ls l ((0:Nat))))),(14,.pv (.list 2 (l.map aV))),(15,.pv (.int .i64 l.length)),(16,.pv (.int .i64 (0:Nat)))],[],[],none⟩) :
  den env BF st=if mP size (Ls l ((0:Nat))) (l.drop ((0:Nat)))=0 then some (.normal,⟨sl 49 [(4,.any)],[],[],none⟩) else some (.ret,⟨sl 49 [(4,.pv (.int .i64 (mP size (Ls l ((0:Nat))) (l.drop ((0:Nat))))))],[],[],none⟩):=by
 unfold BF
 refine aY (env:=env) (l.length) (fun i=>⟨sl 49 [(0,.pv (.list 2 (l.map aV))),(1,.pv (.int .i64 size)),(5,.pv (.int .i64 (Ls l (i)))),(14,.pv (.list 2 (l.map aV))),(15,.pv (.int .i64 l.length)),(16,.pv (.int .i64 i))],[],[],none⟩) (fun i=>if mP size (Ls l (i)) (l.drop (i))=0 then some (.normal,⟨sl 49 [(4,.any)],[],[],none⟩) else some (.ret,⟨sl 49 [(4,.pv (.int .i64 (mP size (Ls l (i)) (l.drop (i)))))],[],[],none⟩)) h (fun _=>rfl) (fun _=>by simp only [aN,bJ,Nat.reduceMul,Nat.reduceBEq,Nat.reduceLT,Nat.reduceLeDiff,Nat.reduceAdd,decide_true,zz,zE]) ?_ ?_
 ·intro i rb hi ih
  have hlim:lim=1073741824:=rfl
  have hi1:=bU hi (by omega)
  have F1:((i:Int)<(l.length:Int))=True:=eq_true (by omega)
  have hx:l[i]?=some l[i]:=ZZ hi
  obtain ⟨⟨o1,o2⟩,o3,o4⟩:=ho _ (Zas hi)
  rw [Lu hx] at ih
  rw [zw hi]
  generalize l[i]=x at *
  have P2:part [PV.int .i64 x.start,.int .i64 x.count] 0 (some 2)=some (.agg [.int .i64 x.start,.int .i64 x.count]):=rfl
  have ch:mP size (Ls l i) (x::l.drop (i+1))=if x.count≤0 then 1 else if x.start<0∨x.count > size - x.start then 2 else if x.start<Ls l i then 3 else mP size (x.start+x.count+1) (l.drop (i+1)):=rfl
  by_cases c1:x.count≤0
  ·rw [ch,if_pos c1]
   simp only [oJ,F1,hx,aV,P2,c1,ay hi,zc,Zae,za,aC,Nat.reduceMul,Nat.reduceBEq,Nat.reduceLT,Nat.reduceLeDiff,reduceCtorEq,Nat.reduceEqDiff,Nat.reduceAdd,zb]
   rfl
  ·by_cases c2:x.start<0
   ·have hv:mP size (Ls l i) (x::l.drop (i+1))=2:=by rw [ch,if_neg c1,if_pos (.inl c2)]
    rw [hv]
    simp only [oJ,F1,hx,aV,P2,c1,c2,ay hi,zc,Zae,za,aC,Nat.reduceMul,Nat.reduceBEq,Nat.reduceLT,Nat.reduceLeDiff,reduceCtorEq,Nat.reduceEqDiff,Nat.reduceAdd,zb]
    rfl
   ·have W1:IntKind.i64.wrap (size - x.start)=size - x.start:=aQ (by omega)
    by_cases c3:x.count > size - x.start
    ·have hv:mP size (Ls l i) (x::l.drop (i+1))=2:=by rw [ch,if_neg c1,if_pos (.inr c3)]
     rw [hv]
     have c3':(x.count > size - x.start)=True:=eq_true c3
     simp only [oJ,F1,hx,aV,P2,c1,c2,c3',W1,ay hi,zc,Zae,za,aC,Nat.reduceMul,Nat.reduceBEq,Nat.reduceLT,Nat.reduceLeDiff,reduceCtorEq,Nat.reduceEqDiff,Nat.reduceAdd,zb]
     rfl
    ·have c3':(x.count > size - x.start)=False:=eq_false c3
     by_cases c4:x.start<Ls l i
     ·have hv:mP size (Ls l i) (x::l.drop (i+1))=3:=by rw [ch,if_neg c1,if_neg (by omega),if_pos c4]
      rw [hv]
      simp only [oJ,F1,hx,aV,P2,c1,c2,c3',c4,W1,ay hi,zc,Zae,za,aC,Nat.reduceMul,Nat.reduceBEq,Nat.reduceLT,Nat.reduceLeDiff,reduceCtorEq,Nat.reduceEqDiff,Nat.reduceAdd,zb]
      rfl
     ·have hv:mP size (Ls l i) (x::l.drop (i+1))=mP size (x.start+x.count+1) (l.drop (i+1)):=by rw [ch,if_neg c1,if_neg (by omega),if_neg c4]
      rw [hv]
      have W2:IntKind.i64.wrap (x.start+x.count)=x.start+x.count:=aQ (by omega)
      have W3:IntKind.i64.wrap (x.start+x.count+1)=x.start+x.count+1:=aQ (by omega)
      simp only [oJ,F1,hx,aV,P2,c1,c2,c3',c4,W1,W2,W3,ay hi,zc,Zae,za,aC,Nat.reduceMul,Nat.reduceBEq,Nat.reduceLT,Nat.reduceLeDiff,reduceCtorEq,Nat.reduceEqDiff,Nat.reduceAdd,zb]
      have hn:Ls l (i+1)=x.start+x.count+1:=Lu hx
      rw [ih _ (by simp only [hi1,hn,aC,Nat.reduceMul,Nat.reduceBEq,Nat.reduceLT,Nat.reduceLeDiff,reduceCtorEq,Nat.reduceEqDiff,Nat.reduceAdd,zb]<;>rfl)]
 ·intro rb
  simp only [oJ,ZaA,za,ZaQ,mP,if_true,aC,Nat.reduceMul,Nat.reduceBEq,Nat.reduceLT,Nat.reduceLeDiff,reduceCtorEq,Nat.reduceEqDiff,Nat.reduceAdd,zb]
theorem ZM {l:List dJ}{size:Int}(ho:xI l)(hl:l.length≤10000):cal env 106 [.list 2 (l.map aV),.int .i64 size]=some [(.int .i64 (acF l size),false)]:=by
 unfold acF
 by_cases c1:size<0
 ·rw [if_pos (.inl c1)]
  rw [aG OI rfl];simp only [BG,aN,Nat.reduceBEq,Nat.reduceLeDiff,Nat.reduceAdd,zd,zm]
  simp only [c1,aC,Nat.reduceMul,Nat.reduceBEq,Nat.reduceLT,Nat.reduceLeDiff,reduceCtorEq,Nat.reduceEqDiff,Nat.reduceAdd,zb]
 ·by_cases c2:4096<size
  ·rw [if_pos (.inr c2)]
   have c2':(size > 4096)=True:=eq_true c2
   rw [aG OI rfl];simp only [BG,aN,Nat.reduceBEq,Nat.reduceLeDiff,Nat.reduceAdd,zd,zm]
   simp only [c1,c2',aC,Nat.reduceMul,Nat.reduceBEq,Nat.reduceLT,Nat.reduceLeDiff,reduceCtorEq,Nat.reduceEqDiff,Nat.reduceAdd,zb]
  ·rw [if_neg (by omega)]
   have c2':(size > 4096)=False:=eq_false c2
   rw [aG OI rfl];simp only [BG,aN,Nat.reduceBEq,Nat.reduceLeDiff,Nat.reduceAdd,zd,zm]
   simp only [c1,c2',za,aC,Nat.reduceMul,Nat.reduceBEq,Nat.reduceLT,Nat.reduceLeDiff,reduceCtorEq,Nat.reduceEqDiff,Nat.reduceAdd,zb]
   rw [acG (size:=size) ⟨by omega,by omega⟩ ho hl (by simp only [Ls,aC,Nat.reduceMul,Nat.reduceBEq,Nat.reduceLT,Nat.reduceLeDiff,reduceCtorEq,Nat.reduceEqDiff,Nat.reduceAdd,zb]<;>rfl)]
   rw [Za4]
   have h0:Ls l 0=0:=rfl
   rw [h0]
   split
   ·rename_i h
    rw [h]
    simp only [c1,c2',za,aC,Nat.reduceMul,Nat.reduceBEq,Nat.reduceLT,Nat.reduceLeDiff,reduceCtorEq,Nat.reduceEqDiff,Nat.reduceAdd,zb]
   ·simp only [c1,c2',za,aC,Nat.reduceMul,Nat.reduceBEq,Nat.reduceLT,Nat.reduceLeDiff,reduceCtorEq,Nat.reduceEqDiff,Nat.reduceAdd,zb]
theorem afp (l:List dJ):OZ l=ext (uS l) 4096:=by
 unfold OZ setOf
 exact uF fun s _=>by simp [Ur,uS]
theorem acH {l:List dJ}{n:Nat}(h:∀ x∈l,0≤x.start∧1≤x.count∧x.start+x.count≤(n:Int))(s:Nat):uS (jD l n) s=(uS l s || decide (s=n)):=by
 rcases iU l with e|⟨pre,y,e⟩
 ·subst e
  show uS [⟨(n:Int),1⟩] s=_
  rw [ZbL]
  simp [uS,UK];omega
 ·subst e
  have hy:=h y (by simp)
  rw [gB]
  split
  ·rw [Dq,Dq,Bool.or_assoc]
   congr 1
   rw [ZbL]
   simp [UK];omega
  ·rw [Dq (pre++[y])]
   congr 1
   rw [ZbL]
   simp [UK];omega
theorem H6 (p:Nat→Bool)(s:Nat):∀ n,uS (ext p n) s=(decide (s<n)&&p s)
 |0=>by simp [KT,uS]
 |n+1=>by
  rw [iZ]
  by_cases h:p n=true
  ·rw [if_pos h,acH (vW p n),H6 p s n]
   by_cases h2:s=n
   ·subst h2;rw [h];simp
   ·rw [decide_eq_false h2,Bool.or_false]
    congr 1
    rw [ZbL];simp;omega
  ·rw [if_neg h,H6 p s n]
   by_cases h2:s=n
   ·subst h2;simp [h]
   ·congr 1
    rw [ZbL];simp;omega
theorem ZN (p:Nat→Bool){n:Nat}(hn:n≤4096):xI (ext p n):=fun x hx=>by
 have:=vW p n x hx
 exact ⟨by omega,by omega⟩
def can:Int→List dJ→Prop
 |_,[]=>True
 |nx,x::l=>nx≤x.start∧1≤x.count∧can (x.start+x.count+1) l
def LC:Int→List dJ→Int
 |nx,[]=>nx
 |_,x::l=>LC (x.start+x.count+1) l
theorem qK:∀ (l:List dJ) (nx:Int) (x:dJ),LC nx (l++[x])=x.start+x.count+1
 |[],_,_=>rfl
 |y::l,_,x=>qK l (y.start+y.count+1) x
theorem xO:∀ (l:List dJ) (nx:Int) (x:dJ),can nx (l++[x]) ↔ can nx l∧LC nx l≤x.start∧1≤x.count
 |[],nx,x=>by simp [can,LC]
 |y::l,nx,x=>by
  have:=xO l (y.start+y.count+1) x
  show nx≤y.start∧1≤y.count∧can _ (l++[x]) ↔ (nx≤y.start∧1≤y.count∧can _ l)∧LC _ l≤x.start∧1≤x.count
  rw [this]
  constructor
  ·rintro ⟨a,b,c,d⟩;exact ⟨⟨a,b,c⟩,d⟩
  ·rintro ⟨⟨a,b,c⟩,d⟩;exact ⟨a,b,c,d⟩
theorem Qv (p:Nat→Bool):∀ n:Nat,can 0 (ext p n)∧LC 0 (ext p n)≤(n:Int)+1
 |0=>by rw [KT];exact ⟨trivial,by simp [LC]⟩
 |n+1=>by
  obtain ⟨h1,h2⟩:=Qv p n
  rw [iZ]
  split
  ·rcases iU (ext p n) with e|⟨pre,x,e⟩
   ·rw [e]
    have:jD [] n=[⟨(n:Int),1⟩]:=rfl
    rw [this]
    exact ⟨⟨by simp only;omega,by simp only;omega,trivial⟩,by simp only [LC];omega⟩
   ·rw [e] at h1 h2 ⊢
    have hx:=vW p n x (by rw [e];simp)
    rw [qK] at h2
    obtain ⟨c1,c2,c3⟩:=(xO _ _ _).1 h1
    rw [gB]
    split
    ·exact ⟨(xO _ _ _).2 ⟨c1,c2,by simp only;omega⟩,by rw [qK];simp only;omega⟩
    ·exact ⟨(xO _ _ _).2 ⟨h1,by rw [qK];simp only;omega,by simp⟩,by rw [qK];simp only;omega⟩
  ·exact ⟨h1,by omega⟩
theorem Qw {size:Int}:∀ (l:List dJ) (nx:Int),can nx l→(∀ x∈l,0≤x.start∧x.start+x.count≤size)→mP size nx l=0
 |[],_,_,_=>rfl
 |x::l,nx,h,hb=>by
  obtain ⟨h1,h2,h3⟩:=h
  have hx:=hb x (by simp)
  unfold mP
  rw [if_neg (by omega),if_neg (by omega),if_neg (by omega)]
  exact Qw l _ h3 fun y hy=>hb y (by simp [hy])
theorem ZO (p:Nat→Bool)(n:Nat):mP n 0 (ext p n)=0:=Qw _ 0 (Qv p n).1 fun x hx=>by have:=vW p n x hx;omega
theorem ZP {l:List dJ}{n:Nat}(h:∀ x∈l,0≤x.start∧1≤x.count):dV (jD l n)=dV l++[(n:Int)]:=by
 rcases List.eq_nil_or_concat l with rfl|⟨pre,x,rfl⟩
 ·rfl
 ·rw [List.concat_eq_append] at *
  rw [gB]
  have hx:=h x (by simp)
  split
  ·rename_i c
   rw [uI,uI,show (x.count+1).toNat=x.count.toNat+1 by omega,Zbe,Zam,← ZaD]
   congr 1
   simp only [Zai,Zaw]
   congr 1
   omega
  ·rw [uI]
   congr 1
theorem xP (p:Nat→Bool):∀ n,dV (ext p n)=((Zau n).filter p).map fun (i:Nat)=>(i:Int)
 |0=>rfl
 |n+1=>by
  rw [iZ,Zbe,Zbw,Zam,← xP p n]
  cases hp:p n with
  |true =>
   rw [if_pos rfl,ZP fun x hx=>by have:=vW p n x hx;omega]
   simp [hp]
  |false=>simp [hp]
def ade (sz lf:Int)(n:Nat):dJ:=⟨(n:Int)*lf,if sz - (n:Int)*lf<lf then sz - (n:Int)*lf else lf⟩
def jZ (sz lf:Int)(ns:List Nat):List dJ:=ns.map (ade sz lf)
def wF (w:lG):List BV:=[.pv (.int .i64 w.t.sz),.pv (.int .i64 w.t.lf),.pv (.list 1 (w.t.lv.map mO)),.pv (.list 2 (w.pend.map aV)),.pv (.int .i64 w.jY),.row 2 [],.pv (.int .i64 w.sent),.pv (.bool w.fin)]
theorem Fp (w:lG):wF w=[.pv (.int .i64 w.t.sz),.pv (.int .i64 w.t.lf),.pv (.list 1 (w.t.lv.map mO)),.pv (.list 2 (w.pend.map aV)),.pv (.int .i64 w.jY),.row 2 [],.pv (.int .i64 w.sent),.pv (.bool w.fin)]:=rfl
set_option maxRecDepth 20000 in
theorem acI {w:lG}{ns:List Nat}(hz:1≤w.t.sz∧w.t.sz≤4096)(hf:1≤w.t.lf∧w.t.lf≤4096)(hnl:ns.length≤4096)(hns:∀ n∈ns,n≤4096){st:St}(h:st.head [0,1,4,12,13,14,45] st.boxes.length=some ⟨sl 55 [(0,.aJ 0 0),(1,.pv (.list 1 (ns.map fun (i:Nat)=>eI (i:Int)))),(4,.row 2 ((jZ w.t.sz w.t.lf (ns.take ((0:Nat)))).map aV)),(12,.pv (.list 1 (ns.map fun (i:Nat)=>eI (i:Int)))),(13,.pv (.int .i64 ns.length)),(14,.pv (.int .i64 (0:Nat))),(45,.any)],[⟨false,wF w⟩],[],none⟩) :
  den env Bv st=some (.normal,⟨sl 55 [(0,.aJ 0 0),(4,.row 2 ((jZ w.t.sz w.t.lf ns).map aV))],[⟨false,wF w⟩],[],none⟩):=by
 unfold Bv
 refine aY (env:=env) (nb:=1) (ns.length) (fun i=>⟨sl 55 [(0,.aJ 0 0),(1,.pv (.list 1 (ns.map fun (i:Nat)=>eI (i:Int)))),(4,.row 2 ((jZ w.t.sz w.t.lf (ns.take (i))).map aV)),(12,.pv (.list 1 (ns.map fun (i:Nat)=>eI (i:Int)))),(13,.pv (.int .i64 ns.length)),(14,.pv (.int .i64 i)),(45,.any)],[⟨false,wF w⟩],[],none⟩) (fun i=>some (.normal,⟨sl 55 [(0,.aJ 0 0),(4,.row 2 ((jZ w.t.sz w.t.lf ns).map aV))],[⟨false,wF w⟩],[],none⟩)) h (fun _=>rfl) (fun _=>by simp only [aN,bJ,Nat.reduceMul,Nat.reduceBEq,Nat.reduceLT,Nat.reduceLeDiff,Nat.reduceAdd,decide_true,zz,zE]) ?_ ?_
 ·intro i rb hi ih
  have hi1:=bU hi (by unfold lim;omega)
  have F1:((i:Int)<(ns.length:Int))=True:=eq_true (by omega)
  have hx:(ns.map fun (i:Nat)=>eI (i:Int))[i]?=some (.int .i64 (ns[i]:Int)):=by rw [zc,ZZ hi];rfl
  have hn:=hns _ (Zas hi)
  have b1:(ns[i]:Int)*w.t.lf≤4096*4096:=Int.mul_le_mul (by omega) hf.2 (by omega) (by decide)
  have b0:0≤(ns[i]:Int)*w.t.lf:=Int.mul_nonneg (by omega) (by omega)
  have W1:IntKind.i64.wrap ((ns[i]:Int)*w.t.lf)=(ns[i]:Int)*w.t.lf:=aQ (by omega)
  have W2:IntKind.i64.wrap (w.t.sz - (ns[i]:Int)*w.t.lf)=w.t.sz - (ns[i]:Int)*w.t.lf:=aQ (by omega)
  have F4:(((jZ w.t.sz w.t.lf (ns.take i))).length+1≤lim)=True:=eq_true (by unfold jZ;rw [za,Zaa];unfold lim;omega)
  have el:(jZ w.t.sz w.t.lf (ns.take (i+1))).map aV=(jZ w.t.sz w.t.lf (ns.take i)).map aV++[.agg [.int .i64 ((ns[i]:Int)*w.t.lf),.int .i64 (if w.t.sz - (ns[i]:Int)*w.t.lf<w.t.lf then w.t.sz - (ns[i]:Int)*w.t.lf else w.t.lf)]]:=by
   unfold jZ;rw [take_snoc hi,Zam,Zam];rfl
  rw [el] at ih
  generalize ns[i]=n at *
  simp only [Bq,F1,F4,W1,W2,hx,Fp,ay hi,za,aC,Nat.reduceMul,Nat.reduceBEq,Nat.reduceLT,Nat.reduceLeDiff,reduceCtorEq,Nat.reduceEqDiff,Nat.reduceAdd,zb]
  rw [ih _ (by simp only [hi1,Fp,aC,Nat.reduceMul,Nat.reduceBEq,Nat.reduceLT,Nat.reduceLeDiff,reduceCtorEq,Nat.reduceEqDiff,Nat.reduceAdd,zb]<;>rfl)]
  simp only [Fp]
 ·intro rb
  rw [Zaq]
  simp only [Bq,ZaA,Fp,aC,Nat.reduceMul,Nat.reduceBEq,Nat.reduceLT,Nat.reduceLeDiff,reduceCtorEq,Nat.reduceEqDiff,Nat.reduceAdd,zb]
theorem ZQ {sz lf:Int}{ns:List Nat}(hz:1≤sz∧sz≤4096)(hf:1≤lf∧lf≤4096)(hns:∀ n∈ns,n≤4096):xI (jZ sz lf ns):=fun x hx=>by
 unfold jZ at hx
 obtain ⟨n,hn,rfl⟩:=Za8.1 hx
 have hn:=hns n hn
 have b1:(n:Int)*lf≤4096*4096:=Int.mul_le_mul (by omega) hf.2 (by omega) (by decide)
 have b0:0≤(n:Int)*lf:=Int.mul_nonneg (by omega) (by omega)
 unfold okE ade
 simp only
 split<;>omega
set_option maxRecDepth 20000 in
theorem afq {w:lG}{ns:List Nat}(hz:1≤w.t.sz∧w.t.sz≤4096)(hf:1≤w.t.lf∧w.t.lf≤4096)(hnl:ns.length≤4096)(hns:∀ n∈ns,n≤4096):AY env 102 (.box (wP w)) [.list 1 (ns.map fun (i:Nat)=>eI (i:Int))]=some ([],some (wP { w with jY:=0,pend:=[],found:=OZ (jZ w.t.sz w.t.lf ns),fin:=true })):=by
 have hx:jZ w.t.sz w.t.lf (List.take 0 ns)=[]:=rfl
 have e1:=ZK (a:=jZ w.t.sz w.t.lf ns) (b:=[]) (ZQ hz hf hns) Lp (by unfold jZ;rw [za];omega) (by simp)
 have e2:=Zy (w:={ w with found:=OZ (jZ w.t.sz w.t.lf ns) })
 have e3:setOf Ur (jZ w.t.sz w.t.lf ns) []=OZ (jZ w.t.sz w.t.lf ns):=rfl
 rw [e3] at e1
 rw [iP,iP] at e2
 simp only [Zaw] at e1
 rw [kQ ael rfl]
 simp only [JR,iP,aN,Nat.reduceBEq,Nat.reduceLeDiff,Nat.reduceAdd,zd,zm]
 simp only [iP,za,aC,Nat.reduceMul,Nat.reduceBEq,Nat.reduceLT,Nat.reduceLeDiff,reduceCtorEq,Nat.reduceEqDiff,Nat.reduceAdd,zb]
 rw [acI (w:=w) (ns:=ns) hz hf hnl hns (by rw [hx,Fp];simp only [aN,bJ,Nat.reduceMul,Nat.reduceBEq,Nat.reduceLT,Nat.reduceLeDiff,Nat.reduceAdd,decide_true,zz,zE]<;>rfl)]
 simp only [iP,Fp,e1,e2,aC,Nat.reduceMul,Nat.reduceBEq,Nat.reduceLT,Nat.reduceLeDiff,reduceCtorEq,Nat.reduceEqDiff,Nat.reduceAdd,zb]
def jE (p:Nat→Bool)(n:Nat):List Nat:=(Zau n).filter p
theorem uM {p:Nat→Bool}{n i:Nat}:i∈jE p n ↔ i<n∧p i=true:=by unfold jE;rw [List.mem_filter,List.mem_range]
theorem pX (p:Nat→Bool)(n:Nat):(jE p n).length≤n:=by unfold jE;have:=List.length_filter_le p (Zau n);rwa [List.length_range] at this
structure okW (sz lf:Int)(l:List Int)(w:lG)(k:Nat)(p:Nat→Bool):Prop where
 t:w.t=Dj sz lf l
 T:L8 sz lf l
 kd:k≤jo l.length
 jY:w.jY=(k:Int)
 pend:w.pend=ext p (cd l.length k)
 ne:jE p (cd l.length k)≠[]
 found:w.found=[]
 sent:0≤w.sent∧w.sent≤8000
 fin:w.fin=false
theorem okW.lvl {sz lf:Int}{l:List Int}{w:lG}{k:Nat}{p:Nat→Bool}(h:okW sz lf l w k p):∃ hk:k<w.t.lv.length,w.t.lv[k]=rP l k:=by
 have e:w.t.lv=kT l:=by rw [h.t];rfl
 have hl:=iG l
 have:=h.kd
 refine ⟨by rw [e];omega,?_⟩
 simp only [e]
 rw [lV]
theorem okW.cdl {sz lf:Int}{l:List Int}{w:lG}{k:Nat}{p:Nat→Bool}(h:okW sz lf l w k p):1≤cd l.length k∧cd l.length k≤4096:=by
 obtain ⟨h1,h2⟩:=h.T.len
 have:=C9 h1 k
 have:=KW l.length k h1
 omega
theorem okW.pl {sz lf:Int}{l:List Int}{w:lG}{k:Nat}{p:Nat→Bool}(h:okW sz lf l w k p):w.pend.length≤4096∧1≤w.pend.length∧xI w.pend∧acF w.pend (cd l.length k:Int)=0∧∀ x∈w.pend,0≤x.start∧1≤x.count∧x.start+x.count≤(cd l.length k:Int):=by
 obtain ⟨c1,c2⟩:=h.cdl
 rw [h.pend]
 refine ⟨by have:=xM p (cd l.length k);omega,?_,ZN p c2,by unfold acF;rw [if_neg (by omega)];exact ZO p _,vW p _⟩
 have hn:=xP p (cd l.length k)
 rcases Nat.eq_zero_or_pos (ext p (cd l.length k)).length with e|e
 ·exfalso
  rw [List.eq_nil_of_length_eq_zero e] at hn
  apply h.ne
  have:(jE p (cd l.length k)).map (fun (i:Nat)=>(i:Int))=[]:=hn.symm
  simpa using this
 ·exact e
set_option maxRecDepth 20000 in
theorem Qx {sz lf:Int}{l:List Int}{w:lG}{k:Nat}{p:Nat→Bool}(h:okW sz lf l w k p):cal env 98 [L9 w]=some [(.int .i64 0,false)]:=by
 obtain ⟨h1,h2⟩:=h.T.len
 obtain ⟨d1,d2,d3⟩:=lD h1 h2
 obtain ⟨c1,c2⟩:=h.cdl
 obtain ⟨p1,p2,p3,p4,p5⟩:=h.pl
 have hk:=h.kd
 have hll:=iG l
 have e1:=Qn h.T
 rw [lX] at e1
 have e2:=ZM (l:=w.pend) (size:=(cd l.length k:Int)) p3 (by omega)
 rw [p4] at e2
 have hx:((kT l).map mO)[k]?=some (.list 1 ((rP l k).map eU)):=by rw [zc,ZZ (by omega),lV];rfl
 have hn:(rP l k).length=cd l.length k:=lC l k
 have F1:((k:Int)<0)=False:=eq_false (by omega)
 have F2:((k:Int) ≥ ((kT l).length:Int))=False:=eq_false (by omega)
 have F3:(w.sent<0)=False:=eq_false (by have:=h.sent;omega)
 have F4:(w.sent > 8192)=False:=eq_false (by have:=h.sent;omega)
 have F5:((w.pend.length:Int) > 0)=True:=eq_true (by omega)
 have E0:(((0:Nat):Int)==0)=true:=rfl
 have E1:((0:Int)==0)=true:=rfl
 have E2:((0:Int) != 0)=false:=rfl
 have hI:index (.int .i64 (k:Int)) (kT l).length=some k:=ay (by omega)
 have ew:L9 w=.agg [.int .i64 sz,.int .i64 lf,.list 1 ((kT l).map mO),.list 2 (w.pend.map aV),.int .i64 (k:Int),.list 2 [],.int .i64 w.sent,.bool false]:=by
  rw [jM,h.t,h.jY,h.found,h.fin];rfl
 rw [ew]
 rw [aG agX rfl];simp only [Xm,aN,Nat.reduceBEq,Nat.reduceLeDiff,Nat.reduceAdd,zd,zm]
 simp only [P3,P8,e1,e2,hx,hn,hI,F1,F2,F3,F4,F5,E0,E1,E2,za,zm,aC,Nat.reduceMul,Nat.reduceBEq,Nat.reduceLT,Nat.reduceLeDiff,reduceCtorEq,Nat.reduceEqDiff,Nat.reduceAdd,zb]
set_option maxRecDepth 20000 in
theorem afs {w:lG}(hl:w.pend.length≤4096){st:St}(h:st.head [1,2,3,4,11,33] st.boxes.length=some ⟨sl 38 [(1,.aJ 0 0),(2,.aJ 1 0),(3,.row 1 (.int .i64 w.t.sz::.int .i64 w.t.lf::(qx (w.pend.take ((0:Nat)))).map eI)),(4,.pv (.int .i64 (0:Nat))),(11,.any),(33,.any)],[⟨false,wB w⟩,⟨false,OX⟩],[],none⟩) :
  den env GZ st=some (.normal,⟨sl 38 [(1,.aJ 0 0),(2,.aJ 1 0),(3,.row 1 ((vals w).map eI))],[⟨false,wB w⟩,⟨false,OX⟩],[],none⟩):=by
 unfold GZ
 refine aY (env:=env) (nb:=2) (w.pend.length) (fun i=>⟨sl 38 [(1,.aJ 0 0),(2,.aJ 1 0),(3,.row 1 (.int .i64 w.t.sz::.int .i64 w.t.lf::(qx (w.pend.take (i))).map eI)),(4,.pv (.int .i64 i)),(11,.any),(33,.any)],[⟨false,wB w⟩,⟨false,OX⟩],[],none⟩) (fun i=>some (.normal,⟨sl 38 [(1,.aJ 0 0),(2,.aJ 1 0),(3,.row 1 ((vals w).map eI))],[⟨false,wB w⟩,⟨false,OX⟩],[],none⟩)) h (fun _=>rfl) (fun _=>by simp only [aN,bJ,Nat.reduceMul,Nat.reduceBEq,Nat.reduceLT,Nat.reduceLeDiff,Nat.reduceAdd,decide_true,zz,zE]) ?_ ?_
 ·intro i rb hi ih
  have hi1:=bU hi (by unfold lim;omega)
  have F1:((i:Int)<(w.pend.length:Int))=True:=eq_true (by omega)
  have hx:(w.pend.map aV)[i]?=some (.agg [.int .i64 w.pend[i].start,.int .i64 w.pend[i].count]):=by rw [zc,ZZ hi];rfl
  have hv:(qx (w.pend.take i)).length=2*i:=by rw [mg,Zaa];omega
  have F4:((qx (w.pend.take i)).length+1+1+2≤lim)=True:=eq_true (by rw [hv];unfold lim;omega)
  rw [Dl hi,Zam,Zai,Zai,Zaw] at ih
  generalize w.pend[i]=x at *
  simp only [GY,F1,F4,hx,ay hi,fK,cZ,za,zd,aC,Nat.reduceMul,Nat.reduceBEq,Nat.reduceLT,Nat.reduceLeDiff,reduceCtorEq,Nat.reduceEqDiff,Nat.reduceAdd,zb]
  rw [ih _ (by simp only [hi1,fK,cZ,eI,aC,Nat.reduceMul,Nat.reduceBEq,Nat.reduceLT,Nat.reduceLeDiff,reduceCtorEq,Nat.reduceEqDiff,Nat.reduceAdd,zb]<;>rfl)]
  simp only [fK,cZ]
 ·intro rb
  rw [Zaq]
  simp only [GY,ZaA,fK,cZ,za,aC,Nat.reduceMul,Nat.reduceBEq,Nat.reduceLT,Nat.reduceLeDiff,reduceCtorEq,Nat.reduceEqDiff,Nat.reduceAdd,zb]
  rfl
set_option maxRecDepth 20000 in
theorem ag7 {w:lG}(hl:w.pend.length≤4096):cal env 29 [L9 w]=some [(nX (nR w),false)]:=by
 have E:nX (nR w)=.agg [.int .i64 13,.int .i64 0,.int .i64 0,.int .i64 w.jY,.int .i64 0,.int .i64 0,.list 1 ((vals w).map eI),.list 1 []]:=rfl
 rw [E,jM]
 rw [aG agO rfl];simp only [Xd,aN,Nat.reduceBEq,Nat.reduceLeDiff,Nat.reduceAdd,zd,zm]
 simp only [P8,P3,aC,Nat.reduceMul,Nat.reduceBEq,Nat.reduceLT,Nat.reduceLeDiff,reduceCtorEq,Nat.reduceEqDiff,Nat.reduceAdd,zb]
 rw [afs (w:=w) hl (by rw [fK,cZ];simp only [aN,bJ,Nat.reduceMul,Nat.reduceBEq,Nat.reduceLT,Nat.reduceLeDiff,Nat.reduceAdd,decide_true,zz,zE]<;>rfl)]
 simp only [P8,P3,fK,cZ,za,aC,Nat.reduceMul,Nat.reduceBEq,Nat.reduceLT,Nat.reduceLeDiff,reduceCtorEq,Nat.reduceEqDiff,Nat.reduceAdd,zb]
def tJ (w:lG)(g:Int→Int):Msg:=⟨14,w.jY,vals w,uO g (dV w.pend)⟩
theorem acJ (g:Int→Int)(a b:List Int):uO g (a++b)=uO g a++uO g b:=by simp [uO]
theorem H7 {P:List dJ}:(chk 2 ((qx P).map eI)).length=P.length:=by
 rw [pU,za,mg]
 unfold Dk;omega
theorem LD:∀ (P:List dJ) (i:Nat),(qx P).drop (i*2)=qx (P.drop i)
 |P,0=>by simp
 |[],i+1=>by simp [qx]
 |x::P,i+1=>by
  have e:qx (x::P)=x.start::x.count::qx P:=rfl
  rw [e,show (i+1)*2=i*2+1+1 by omega,ZbJ,ZbJ,LD P i,ZbJ]
theorem acK {P:List dJ}{i:Nat}(h:i<P.length):UH 2 ((qx P).map eI) i=[.int .i64 P[i].start,.int .i64 P[i].count]:=by
 unfold UH
 rw [← List.map_drop,LD,zw h]
 rfl
theorem acL {es:List PV}(hl:es.length≤lim):cal env 107 [.list 1 es]=some [(.list 1 es,true)]:=(PO aep).trans (if_pos ⟨rfl,hl⟩)
def aB (sz lf:Int)(l:List Int):List BV:=[.pv (.int .i64 sz),.pv (.int .i64 lf),.pv (.list 1 ((kT l).map mO))]
theorem fO (sz lf:Int)(l:List Int):aB sz lf l=[.pv (.int .i64 sz),.pv (.int .i64 lf),.pv (.list 1 ((kT l).map mO))]:=rfl
def mB (w:lG):List BV:=[.pv (.int .i64 13),.pv (.int .i64 0),.pv (.int .i64 0),.pv (.int .i64 w.jY),.pv (.int .i64 0),.pv (.int .i64 0),.pv (.list 1 ((vals w).map eI)),.pv (.list 1 [])]
theorem Fq (w:lG):mB w=[.pv (.int .i64 13),.pv (.int .i64 0),.pv (.int .i64 0),.pv (.int .i64 w.jY),.pv (.int .i64 0),.pv (.int .i64 0),.pv (.list 1 ((vals w).map eI)),.pv (.list 1 [])]:=rfl
def acM (sz lf:Int)(l:List Int)(w:lG)(j:Nat):List Box:=[⟨false,aB sz lf l⟩,⟨false,mB w⟩,⟨false,OX⟩,⟨false,[.row 2 ((w.pend.take j).map aV)]⟩]
def acN (sz lf:Int)(l:List Int)(w:lG)(L:List Int)(g:Int→Int)(j:Nat):List Box:=[⟨false,aB sz lf l⟩,⟨false,mB w⟩,⟨false,OX⟩,⟨false,[.pv (.list 2 (w.pend.map aV))]⟩,⟨false,[.pv (.list 1 (L.map eU))]⟩,⟨false,[.pv (.int .i64 14),.pv (.int .i64 0),.pv (.int .i64 0),.pv (.int .i64 w.jY),.pv (.int .i64 0),.pv (.int .i64 0),.pv (.list 1 ((vals w).map eI)),.row 1 ((uO g ((dV w.pend).take j)).map oN)]⟩]
set_option maxRecDepth 20000 in
theorem adf {sz lf:Int}{la lb:List Int}{w:lG}{k:Nat}{p:Nat→Bool}(h:okW sz lf la w k p)(hb:L8 sz lf lb)(hab:lb.length=la.length):cal env 31 [Di (Dj sz lf lb),nX (nR w)]=some [(nX (tJ w fun n=>(rP lb k).getD n.toNat 0),false),(.int .i64 0,false)]:=by
 obtain ⟨h1,h2⟩:=hb.len
 obtain ⟨d1,d2,d3⟩:=lD h1 h2
 obtain ⟨c1,c2⟩:=h.cdl
 obtain ⟨p1,p2,p3,p4,p5⟩:=h.pl
 have hk:=h.kd
 have hll:=iG lb
 rw [hab] at hll
 have ht:=h.t
 have e1:=Qn hb
 rw [lX] at e1
 have e2:=ZM (l:=w.pend) (size:=(cd la.length k:Int)) p3 (by omega)
 rw [p4] at e2
 have e3:=ae6 (l:=(qx w.pend).map eI) (n:=2) (by omega)
 have e3:cal env 105 [.list 1 ((qx w.pend).map eI),.int .i64 2]=some [(.func 195 [.bW [.list 1 ((qx w.pend).map eI)] 0,.bW [.int .i64 2] 0],false)]:=e3
 have hit:=acr (l:=(qx w.pend).map eI) (n:=2) (by rw [za,mg];omega) (by omega)
 have e4:=acL (es:=(vals w).map eI) (by rw [za];unfold vals;rw [zd,zd,mg];unfold lim;omega)
 have hit2:=Qk (l:=w.pend) (by omega) (fun x hx=>by have:=p5 x hx;omega)
 have e5:=Zv (l:=w.pend.map aV)
 obtain ⟨L,hL⟩:∃ L,L=rP lb k:=⟨_,rfl⟩
 obtain ⟨g,hg⟩:∃ g:Int→Int,g=fun n=>L.getD n.toNat 0:=⟨_,rfl⟩
 have hLn:L.length=cd la.length k:=by rw [hL,lC,hab]
 rw [← hL,← hg]
 have hx:((kT lb).map mO)[k]?=some (.list 1 (L.map eU)):=by rw [zc,ZZ (by omega),lV,hL];rfl
 have eV:vals w=sz::lf::qx w.pend:=by unfold vals;rw [ht];rfl
 have eVm:(vals w).map eI=.int .i64 sz::.int .i64 lf::(qx w.pend).map eI:=by rw [eV];rfl
 have hvl:(qx w.pend).length=2*w.pend.length:=mg _
 have iV:=h.jY
 have E13:((13:Int) != 13)=false:=rfl
 have Z:((0:Int) != 0)=false:=rfl
 have F1:(((2*w.pend.length+1+1:Nat):Int)<2)=False:=eq_false (by omega)
 have T1:((2*w.pend.length+1+1:Nat):Int).tmod 2=0:=by rw [Int.tmod_eq_emod_of_nonneg (by omega)];omega
 have z2:((2:Int)=0)=False:=eq_false (by decide)
 have E01:((0:Int)==1)=false:=rfl
 have N1:(sz != sz)=false:=by simp
 have N2:(lf != lf)=false:=by simp
 have F2:((k:Int)<0)=False:=eq_false (by omega)
 have F3:((k:Int) ≥ ((kT lb).length:Int))=False:=eq_false (by omega)
 have i0:index (.int .i64 0) (2*w.pend.length+1+1)=some 0:=ay (n:=2*w.pend.length+1+1) (i:=0) (by omega)
 have i1:index (.int .i64 1) (2*w.pend.length+1+1)=some 1:=ay (n:=2*w.pend.length+1+1) (i:=1) (by omega)
 have ik:index (.int .i64 (k:Int)) (kT lb).length=some k:=ay (by omega)
 have em:nX (nR w)=.agg [.int .i64 13,.int .i64 0,.int .i64 0,.int .i64 (k:Int),.int .i64 0,.int .i64 0,.list 1 (.int .i64 sz::.int .i64 lf::(qx w.pend).map eI),.list 1 []]:=by rw [← eVm,← iV];rfl
 have B1:((0:Int)≤2∧(2:Int)≤((2*w.pend.length+1+1:Nat):Int))=True:=eq_true (by omega)
 have T2:Int.toNat 2=2:=rfl
 have D2:∀ (a b:PV) (l:List PV),List.drop 2 (a::b::l)=l:=fun _ _ _=>rfl
 have K2:List.take (2*w.pend.length+1+1 - 2) ((qx w.pend).map eI)=(qx w.pend).map eI:=List.take_of_length_le (by rw [za,hvl];omega)
 rw [lX,em]
 rw [aG agP rfl];simp only [Xe,aN,Nat.reduceBEq,Nat.reduceLeDiff,Nat.reduceAdd,zd,zm]
 simp only [e1,e3,B1,T2,D2,K2,P3,P8,E13,Z,F1,T1,z2,E01,N1,N2,F2,F3,i0,i1,ik,hvl,za,zd,aC,Nat.reduceMul,Nat.reduceBEq,Nat.reduceLT,Nat.reduceLeDiff,reduceCtorEq,Nat.reduceEqDiff,Nat.reduceAdd,zb]
 rw [uz (env:=env) (acM sz lf lb w) (xs:=yC 1 (chk 2 ((qx w.pend).map eI))) rfl hit ?_ ?_]
 rotate_left
 ·simp only [acM,fO,Fq,fK,eVm,iV,ZbB,Zaw]
  first|done|rfl
 ·intro j x hx sl0
  have hj:=(Z3.1 hx).1
  have hl1:(yC 1 (chk 2 ((qx w.pend).map eI))).length=w.pend.length:=by unfold yC;rw [za,H7]
  rw [hl1] at hj
  have hjc:j<(chk 2 ((qx w.pend).map eI)).length:=by rw [H7];exact hj
  obtain rfl:x=[.list 1 [.int .i64 w.pend[j].start,.int .i64 w.pend[j].count]]:=by
   unfold yC at hx
   rw [zc,ZZ hjc,Hq,acK hj] at hx
   simpa using hx.symm
  have F4:((w.pend.take j).length+1≤lim)=True:=eq_true (by rw [Zaa];unfold lim;omega)
  have htk:(w.pend.take (j+1)).map aV=(w.pend.take j).map aV++[.agg [.int .i64 w.pend[j].start,.int .i64 w.pend[j].count]]:=by rw [take_snoc hj,Zam];rfl
  have j0:index (.int .i64 0) 2=some 0:=rfl
  have j1:index (.int .i64 1) 2=some 1:=rfl
  have P2:∀ a b:PV,part [a,b] 0 (some 2)=some (.agg [a,b]):=fun _ _=>rfl
  refine ⟨?_,?_⟩
  rotate_left
  ·simp only [PY,PZ,acM,fO,Fq,fK,htk,F4,j0,j1,P2,za,aC,Nat.reduceMul,Nat.reduceBEq,Nat.reduceLT,Nat.reduceLeDiff,yI,reduceCtorEq,Nat.reduceEqDiff,Nat.reduceAdd,zb]
   rfl
 have hl1:(yC 1 (chk 2 ((qx w.pend).map eI))).length=w.pend.length:=by unfold yC;rw [za,H7]
 rw [eVm] at e4
 simp only [hl1,acM,Zaq,fO,Fq,fK,eVm,iV,hx,hLn,e2,e4,e5,ik,P3,P8,E13,Z,za,zd,aC,Nat.reduceMul,Nat.reduceBEq,Nat.reduceLT,Nat.reduceLeDiff,yI,reduceCtorEq,Nat.reduceEqDiff,Nat.reduceAdd,zb]
 have hnum:dV w.pend=(jE p (cd la.length k)).map fun (i:Nat)=>(i:Int):=by rw [h.pend];exact xP p _
 have hnl:(dV w.pend).length≤4096:=by rw [hnum,za];have:=pX p (cd la.length k);omega
 rw [uz (env:=env) (acN sz lf lb w L g) (xs:=yN (dV w.pend)) rfl hit2 ?_ ?_]
 rotate_left
 ·simp only [acN,fO,Fq,fK,eVm,iV,ZbB]
  first|done|rfl
 ·intro j x hx sl0
  simp only [yN,zc,Zaj] at hx
  obtain ⟨n,hb',rfl⟩:=hx
  obtain ⟨hj,hnj⟩:=Z3.1 hb'
  have hnm:n∈dV w.pend:=by rw [← hnj];exact Zas hj
  obtain ⟨n0,n1⟩:0≤n∧n<(L.length:Int):=by
   rw [hnum] at hnm
   obtain ⟨i,hi,rfl⟩:=Za8.1 hnm
   have:=(uM.1 hi).1
   rw [hLn];omega
  have hi:n.toNat<L.length:=by omega
  have hgn:g n=L[n.toNat]:=by rw [hg];show L.getD _ _=_;rw [List.getD_eq_getElem?_getD,ZZ hi];rfl
  have hxn:(L.map eU)[n.toNat]?=some (.int .u64 (g n)):=by rw [zc,ZZ hi,hgn];rfl
  have hI:index (.int .i64 n) L.length=some n.toNat:=yF n0 n1
  have q1:=Zr (d:=g n)
  have htk:(uO g ((dV w.pend).take (j+1))).map oN=(uO g ((dV w.pend).take j)).map oN++(nP (g n)).map oN:=by
   rw [take_snoc hj,hnj,acJ,Zam]
   congr 1
  have F4:((uO g ((dV w.pend).take j)).length+(nP (g n)).length≤lim)=True:=eq_true (by rw [pV,tH,Zaa];unfold lim;omega)
  refine ⟨?_,?_⟩
  rotate_left
  ·simp only [P5,P6,acN,fO,Fq,fK,htk,F4,hxn,hI,q1,za,aC,Nat.reduceMul,Nat.reduceBEq,Nat.reduceLT,Nat.reduceLeDiff,yI,reduceCtorEq,Nat.reduceEqDiff,Nat.reduceAdd,zb]
   rfl
 have hl2:(yN (dV w.pend)).length=(dV w.pend).length:=by simp [yN]
 have er:nX (tJ w g)=.agg [.int .i64 14,.int .i64 0,.int .i64 0,.int .i64 (k:Int),.int .i64 0,.int .i64 0,.list 1 (.int .i64 sz::.int .i64 lf::(qx w.pend).map eI),.list 1 ((uO g (dV w.pend)).map oN)]:=by rw [← eVm,← iV];rfl
 rw [er]
 simp only [hl2,acN,Zaq,fO,Fq,fK,eVm,iV,P8,aC,Nat.reduceMul,Nat.reduceBEq,Nat.reduceLT,Nat.reduceLeDiff,yI,reduceCtorEq,Nat.reduceEqDiff,Nat.reduceAdd,zb]
end Go.Proofs.YthccglceomoboaaGreatDoor.V
