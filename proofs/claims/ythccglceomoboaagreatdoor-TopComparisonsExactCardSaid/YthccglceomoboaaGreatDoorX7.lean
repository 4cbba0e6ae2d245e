/-
  Part 7 of the texts that the statement stands on.
-/
import Derived.Test.YthccglceomoboaaGreatDoorX6
set_option linter.all false
open List renaming getElem?_eq_getElem → ZD, length_map → Z3, getElem?_eq_some_iff → zb, getElem?_map → zc, length_cons → zd, length_nil → zj, drop_eq_getElem_cons → zr, length_take → Zaa, map_append → Zag, map_cons → Zai, range → Zam, getElem_mem → Zap, mem_singleton → Zaq, map_nil → Zar, take_length → Zas, append_assoc → Zav, mem_append → ZaE, drop_length → ZaG, append_nil → ZaI, mem_cons → ZaK, mem_map → ZaS, drop_zero → ZaT, range_succ → Zbe, take_zero → Zbn, filter_append → ZbJ, drop_succ_cons → ZbT, not_mem_nil → Zdx
open Nat renaming beq → Z6, le_refl → ze
open Bool renaming false_eq_true → zm, true_and → zz, and_self → zP, and_false → Zbm, not_false → Zbt, not_true → Zbx, and_true → ZbI, false_or → ZbR, eq_iff_iff → ZbY
open Option renaming map_some → Zae, map_eq_some_iff → Zao
open Int renaming lt_irrefl → Zat, toNat_natCast → Zay, mul_nonneg → Zct
namespace Go.Proofs.YthccglceomoboaaGreatDoor.V
structure akJ where
 d0:Int
 d1:Int
 st:Int
 ins:Bool
 out:List bP
def mP (keep:Bool→Bool→Bool)(x:End)(same:Bool)(s:akJ):akJ :=
 if same then ⟨if x.list=0 then s.d0+x.step else s.d0,if x.list=1 then s.d1+x.step else s.d1,s.st,s.ins,s.out⟩
 else ⟨if x.list=0 then s.d0+x.step else s.d0,if x.list=1 then s.d1+x.step else s.d1,
  if keep (decide ((if x.list=0 then s.d0+x.step else s.d0) > 0)) (decide ((if x.list=1 then s.d1+x.step else s.d1) > 0))&&!s.ins then x.pos else s.st,
  keep (decide ((if x.list=0 then s.d0+x.step else s.d0) > 0)) (decide ((if x.list=1 then s.d1+x.step else s.d1) > 0)),
  s.out++(if !keep (decide ((if x.list=0 then s.d0+x.step else s.d0) > 0)) (decide ((if x.list=1 then s.d1+x.step else s.d1) > 0))&&s.ins then [⟨s.st,x.pos - s.st⟩] else [])⟩
def jP (keep:Bool→Bool→Bool)(L:List End):Nat→akJ
 |0=>⟨0,0,0,false,[]⟩
 |i+1=>match L[i]? with
  |some x=>mP keep x (jH x (L.drop (i+1))) (jP keep L i)
  |none=>jP keep L i
theorem Bl {keep:Bool→Bool→Bool}{L:List End}{i:Nat}{x:End}(h:L[i]?=some x):jP keep L (i+1)=mP keep x (jH x (L.drop (i+1))) (jP keep L i):=by
 show (match L[i]? with
  |some x=>mP keep x (jH x (L.drop (i+1))) (jP keep L i)
  |none=>jP keep L i)=_
 rw [h]
theorem WE (keep:Bool→Bool→Bool)(L:List End):∀ i,i≤L.length→(jP keep L i).out++Bf keep (L.drop i) (jP keep L i).d0 (jP keep L i).d1 (jP keep L i).st (jP keep L i).ins=Bf keep L 0 0 0 false
 |0,_=>rfl
 |i+1,hi=>by
  have ih:=WE keep L i (by omega)
  have hx:L[i]?=some L[i]:=ZD (by omega)
  rw [← ih,Bl hx,zr (show i<L.length by omega)]
  generalize L[i]=x
  generalize jP keep L i=s
  conv=>rhs;unfold Bf
  unfold mP
  cases jH x (L.drop (i+1)) with
  |true=>rfl
  |false=>simp only [zm,if_false,Zav]
theorem aef (keep:Bool→Bool→Bool)(L:List End):(jP keep L L.length).out=Bf keep L 0 0 0 false:=by
 have:=WE keep L L.length (ze _)
 rw [ZaG] at this
 simpa [Bf] using this
theorem Hg {keep:Bool→Bool→Bool}{L:List End}(h:∀ x∈L,(x.step=1∨x.step=-1)∧x.pos≤4096):∀ i:Nat,(-(i:Int)≤(jP keep L i).d0∧(jP keep L i).d0≤i)∧(-(i:Int)≤(jP keep L i).d1∧(jP keep L i).d1≤i)∧(0≤(jP keep L i).st∧(jP keep L i).st≤4096)
 |0=>by simp [jP]
 |i+1=>by
  obtain ⟨h1,h2,h3⟩:=Hg (keep:=keep) h i
  cases hx:L[i]? with
  |none =>
   have:jP keep L (i+1)=jP keep L i:=by
    show (match L[i]? with
     |some x=>mP keep x (jH x (L.drop (i+1))) (jP keep L i)
     |none=>jP keep L i)=_
    rw [hx]
   rw [this]
   omega
  |some x =>
   rw [Bl hx]
   obtain ⟨k1,k2⟩:=h x (List.mem_of_getElem? hx)
   generalize jP keep L i=s at *
   unfold mP
   split
   ·simp only
    refine ⟨?_,?_,h3⟩
    ·split<;>omega
    ·split<;>omega
   ·simp only
    refine ⟨?_,?_,?_⟩
    ·split<;>omega
    ·split<;>omega
    ·split<;>omega
def yE (l:List bP):List (List PV):=l.map fun x=>[aZ x]
theorem MK (l m:List bP):yE (l++m)=yE l++yE m:=by simp [yE]
theorem WG (n m:Nat):((n:Int)==(m:Int))=decide (n=m):=by
 by_cases h:n=m
 ·subst h;simp
 ·rw [decide_eq_false h];simp;omega
set_option maxRecDepth 20000 in
set_option maxHeartbeats 2000000 in
theorem ahk {keep:Bool→Bool→Bool}{kf:Nat}(hk:∀ p q,cal env kf [.bool p,.bool q]=some [(.bool (keep p q),false)]){L:List End}(hL:∀ x∈L,((x.step=1∨x.step=-1)∧x.pos≤4096)∧x.list<2)(hl:L.length≤1000000)
  {st:St} (h:st.head [0,3,5,6,7,8,15,16,17,18] st.boxes.length=some ⟨sl 80 [(0,.lV),(3,.pv (.cu [.func kf []] 0)),(5,.row 3 (L.map iW)),(6,.aO 0 0),(7,.pv (.int .i64 0)),(8,.pv (.bool false)),(15,.any),(16,.ref (.slot 5) 0 L.length),(17,.pv (.int .i64 L.length)),(18,.pv (.int .i64 (0:Nat)))],[⟨false,[.pv (.int .i64 0),.pv (.int .i64 0)]⟩],[],some none⟩) :
  den env Gv st=some (.normal,⟨sl 80 [],[⟨false,[.pv (.int .i64 (jP keep L L.length).d0),.pv (.int .i64 (jP keep L L.length).d1)]⟩],yE (jP keep L L.length).out,some none⟩):=by
 unfold Gv
 have hlim:lim=1073741824:=rfl
 have hsm:=Hg (keep:=keep) fun x hx=>(hL x hx).1
 refine aY (env:=env) L.length (fun i=>⟨sl 80 [(0,.lV),(3,.pv (.cu [.func kf []] 0)),(5,.row 3 (L.map iW)),(6,.aO 0 0),(7,.pv (.int .i64 (jP keep L i).st)),(8,.pv (.bool (jP keep L i).ins)),(15,.any),(16,.ref (.slot 5) 0 L.length),(17,.pv (.int .i64 L.length)),(18,.pv (.int .i64 i))],[⟨false,[.pv (.int .i64 (jP keep L i).d0),.pv (.int .i64 (jP keep L i).d1)]⟩],yE (jP keep L i).out,some none⟩) (fun _=>some (.normal,⟨sl 80 [],[⟨false,[.pv (.int .i64 (jP keep L L.length).d0),.pv (.int .i64 (jP keep L L.length).d1)]⟩],yE (jP keep L L.length).out,some none⟩)) h (fun _=>rfl) (fun _=>by simp only [aW,bI,Nat.reduceMul,Nat.reduceBEq,Nat.reduceLT,Nat.reduceLeDiff,Nat.reduceAdd,decide_true,zP,zz]) ?_ ?_
 ·intro i rb hi ih
  have hi1:=bC hi (by omega)
  have F1:((i:Int)<(L.length:Int))=True:=eq_true (by omega)
  have hx:L[i]?=some L[i]:=ZD hi
  obtain ⟨⟨x1,x2⟩,x3⟩:=hL _ (Zap hi)
  have amY:=Bl (keep:=keep) hx
  obtain ⟨⟨s1,s2⟩,⟨s3,s4⟩,s5,s6⟩:=hsm i
  rw [amY] at ih
  clear amY
  generalize L[i]=x at *
  generalize hs:jP keep L i=s at *
  obtain ⟨d0,d1,sp,ins,out⟩:=s
  obtain ⟨p,k,t⟩:=x
  simp only at x1 x2 x3 s1 s2 s3 s4 s5 s6 ih
  have hlist:k=0∨k=1:=by omega
  have W0:IntKind.i64.wrap (d0+t)=d0+t:=aI (by omega)
  have W1:IntKind.i64.wrap (d1+t)=d1+t:=aI (by omega)
  have W2:IntKind.i64.wrap ((p:Int) - sp)=(p:Int) - sp:=aI (by omega)
  have I0:index (.int .i64 0) 2=some 0:=rfl
  have I1:index (.int .i64 1) 2=some 1:=rfl
  have IN0:index (.int .i64 ((0:Nat):Int)) 2=some 0:=rfl
  have IN1:index (.int .i64 ((1:Nat):Int)) 2=some 1:=rfl
  have P3:∀ a b c:PV,part [a,b,c] 0 (some 3)=some (.agg [a,b,c]):=fun a b c=>rfl
  -- the next end
  have hnx:(∃ y,L[i+1]?=some y∧jH ⟨p,k,t⟩ (L.drop (i+1))=decide (y.pos=p)∧(((i+1:Nat):Int)<(L.length:Int))∧index (.int .i64 ((i+1:Nat):Int)) L.length=some (i+1))∨(jH ⟨p,k,t⟩ (L.drop (i+1))=false∧¬ (((i+1:Nat):Int)<(L.length:Int))):=by
   by_cases hlt:i+1<L.length
   ·left
    refine ⟨L[i+1],ZD hlt,?_,by omega,au hlt⟩
    rw [zr hlt];rfl
   ·right
    refine ⟨?_,by omega⟩
    rw [List.drop_eq_nil_of_le (by omega)];rfl
  rcases hlist with rfl|rfl
  ·-- list 0
   have e1:=hk (decide (d0+t > 0)) (decide (d1 > 0))
   have same:mP keep ⟨p,0,t⟩ true ⟨d0,d1,sp,ins,out⟩=⟨d0+t,d1,sp,ins,out⟩:=by simp [mP]
   have diff:mP keep ⟨p,0,t⟩ false ⟨d0,d1,sp,ins,out⟩=⟨d0+t,d1,if keep (decide (d0+t > 0)) (decide (d1 > 0))&&!ins then (p:Int) else sp,keep (decide (d0+t > 0)) (decide (d1 > 0)),out++(if !keep (decide (d0+t > 0)) (decide (d1 > 0))&&ins then [⟨sp,(p:Int) - sp⟩] else [])⟩:=by simp [mP]
   rcases hnx with ⟨y,hy,hns,hlt,hix⟩|⟨hns,hlt⟩
   ·have F2:(((i+1:Nat):Int)<(L.length:Int))=True:=eq_true hlt
    rw [hns] at ih
    have B:=WG y.pos p
    generalize hb:decide (y.pos=p)=b at ih B
    cases b with
    |true =>
     rw [same] at ih
     simp only [oh,F1,hx,hi1,W0,W1,W2,I0,I1,IN0,IN1,P3,iW,au hi,zc,Zae,Z3,zd,zj,F2,hy,hix,B,aC,Nat.reduceMul,Nat.reduceBEq,Nat.reduceLT,Nat.reduceLeDiff,reduceCtorEq,Nat.reduceEqDiff,Nat.reduceAdd,Z6]
     rw [ih _ (by simp only [hi1,aC,Nat.reduceMul,Nat.reduceBEq,Nat.reduceLT,Nat.reduceLeDiff,reduceCtorEq,Nat.reduceEqDiff,Nat.reduceAdd,Z6]<;>rfl)]
    |false =>
     rw [diff] at ih
     generalize keep (decide (d0+t > 0)) (decide (d1 > 0))=now at *
     cases now<;>cases ins<;>simp only [Zbx,Zbt,ZbI,Zbm,zP,zm,if_true,if_false,ZaI,MK] at ih<;>simp only [oh,F1,hx,hi1,W0,W1,W2,I0,I1,IN0,IN1,P3,iW,au hi,zc,Zae,Z3,zd,zj,F2,hy,hix,B,e1,aC,Nat.reduceMul,Nat.reduceBEq,Nat.reduceLT,Nat.reduceLeDiff,reduceCtorEq,Nat.reduceEqDiff,Nat.reduceAdd,Z6]<;>rw [ih _ (by simp only [hi1,yE,Zai,Zar,aZ,aC,Nat.reduceMul,Nat.reduceBEq,Nat.reduceLT,Nat.reduceLeDiff,reduceCtorEq,Nat.reduceEqDiff,Nat.reduceAdd,Z6]<;>rfl)]
   ·have F2:(((i+1:Nat):Int)<(L.length:Int))=False:=eq_false hlt
    rw [hns,diff] at ih
    generalize keep (decide (d0+t > 0)) (decide (d1 > 0))=now at *
    cases now<;>cases ins<;>simp only [Zbx,Zbt,ZbI,Zbm,zP,zm,if_true,if_false,ZaI,MK] at ih<;>simp only [oh,F1,hx,hi1,W0,W1,W2,I0,I1,IN0,IN1,P3,iW,au hi,zc,Zae,Z3,zd,zj,F2,e1,aC,Nat.reduceMul,Nat.reduceBEq,Nat.reduceLT,Nat.reduceLeDiff,reduceCtorEq,Nat.reduceEqDiff,Nat.reduceAdd,Z6]<;>rw [ih _ (by simp only [hi1,yE,Zai,Zar,aZ,aC,Nat.reduceMul,Nat.reduceBEq,Nat.reduceLT,Nat.reduceLeDiff,reduceCtorEq,Nat.reduceEqDiff,Nat.reduceAdd,Z6]<;>rfl)]
  ·-- list 1
   have e1:=hk (decide (d0 > 0)) (decide (d1+t > 0))
   have same:mP keep ⟨p,1,t⟩ true ⟨d0,d1,sp,ins,out⟩=⟨d0,d1+t,sp,ins,out⟩:=by simp [mP]
   have diff:mP keep ⟨p,1,t⟩ false ⟨d0,d1,sp,ins,out⟩=⟨d0,d1+t,if keep (decide (d0 > 0)) (decide (d1+t > 0))&&!ins then (p:Int) else sp,keep (decide (d0 > 0)) (decide (d1+t > 0)),out++(if !keep (decide (d0 > 0)) (decide (d1+t > 0))&&ins then [⟨sp,(p:Int) - sp⟩] else [])⟩:=by simp [mP]
   rcases hnx with ⟨y,hy,hns,hlt,hix⟩|⟨hns,hlt⟩
   ·have F2:(((i+1:Nat):Int)<(L.length:Int))=True:=eq_true hlt
    rw [hns] at ih
    have B:=WG y.pos p
    generalize hb:decide (y.pos=p)=b at ih B
    cases b with
    |true =>
     rw [same] at ih
     simp only [oh,F1,hx,hi1,W0,W1,W2,I0,I1,IN0,IN1,P3,iW,au hi,zc,Zae,Z3,zd,zj,F2,hy,hix,B,aC,Nat.reduceMul,Nat.reduceBEq,Nat.reduceLT,Nat.reduceLeDiff,reduceCtorEq,Nat.reduceEqDiff,Nat.reduceAdd,Z6]
     rw [ih _ (by simp only [hi1,aC,Nat.reduceMul,Nat.reduceBEq,Nat.reduceLT,Nat.reduceLeDiff,reduceCtorEq,Nat.reduceEqDiff,Nat.reduceAdd,Z6]<;>rfl)]
    |false =>
     rw [diff] at ih
     generalize keep (decide (d0 > 0)) (decide (d1+t > 0))=now at *
     cases now<;>cases ins<;>simp only [Zbx,Zbt,ZbI,Zbm,zP,zm,if_true,if_false,ZaI,MK] at ih<;>simp only [oh,F1,hx,hi1,W0,W1,W2,I0,I1,IN0,IN1,P3,iW,au hi,zc,Zae,Z3,zd,zj,F2,hy,hix,B,e1,aC,Nat.reduceMul,Nat.reduceBEq,Nat.reduceLT,Nat.reduceLeDiff,reduceCtorEq,Nat.reduceEqDiff,Nat.reduceAdd,Z6]<;>rw [ih _ (by simp only [hi1,yE,Zai,Zar,aZ,aC,Nat.reduceMul,Nat.reduceBEq,Nat.reduceLT,Nat.reduceLeDiff,reduceCtorEq,Nat.reduceEqDiff,Nat.reduceAdd,Z6]<;>rfl)]
   ·have F2:(((i+1:Nat):Int)<(L.length:Int))=False:=eq_false hlt
    rw [hns,diff] at ih
    generalize keep (decide (d0 > 0)) (decide (d1+t > 0))=now at *
    cases now<;>cases ins<;>simp only [Zbx,Zbt,ZbI,Zbm,zP,zm,if_true,if_false,ZaI,MK] at ih<;>simp only [oh,F1,hx,hi1,W0,W1,W2,I0,I1,IN0,IN1,P3,iW,au hi,zc,Zae,Z3,zd,zj,F2,e1,aC,Nat.reduceMul,Nat.reduceBEq,Nat.reduceLT,Nat.reduceLeDiff,reduceCtorEq,Nat.reduceEqDiff,Nat.reduceAdd,Z6]<;>rw [ih _ (by simp only [hi1,yE,Zai,Zar,aZ,aC,Nat.reduceMul,Nat.reduceBEq,Nat.reduceLT,Nat.reduceLeDiff,reduceCtorEq,Nat.reduceEqDiff,Nat.reduceAdd,Z6]<;>rfl)]
 ·intro rb
  simp only [oh,Zat,aC,Nat.reduceMul,Nat.reduceBEq,Nat.reduceLT,Nat.reduceLeDiff,reduceCtorEq,Nat.reduceEqDiff,Nat.reduceAdd,Z6]
def setOf (keep:Bool→Bool→Bool)(a b:List bP):List bP:=ext (fun s=>keep (qG a s) (qG b s)) 4096
theorem ML {α:Type}{P:α→Prop}{a b:α}(ha:P a)(hb:P b):∀ l∈[a,b],P l:=by
 intro l hl
 simp only [ZaK,Zdx,or_false] at hl
 rcases hl with rfl|rfl
 ·exact ha
 ·exact hb
theorem QV {i s:Nat}{l m:List End}(h:l.Perm m):dep i s l=dep i s m:=by
 induction h with
 |nil=>rfl
 |cons x _ ih=>simp only [dep,ih]
 |swap x y l=>simp only [dep];omega
 |trans _ _ h1 h2=>exact h1.trans h2
theorem aeg {i:Nat}{l m:List End}(h:l.Perm m):tot i l=tot i m:=by
 induction h with
 |nil=>rfl
 |cons x _ ih=>simp only [tot,ih]
 |swap x y l=>simp only [tot];omega
 |trans _ _ h1 h2=>exact h1.trans h2
theorem uF (i:Nat)(e:bP)(l:List bP):fK i (e::l)=(if (wX e).2.2 then [⟨(wX e).1.toNat,i,1⟩,⟨(wX e).2.1.toNat,i,-1⟩] else [])++fK i l:=by simp [fK]
theorem sS {i:Nat}:∀ {l:List bP} {x:End},x∈fK i l→((x.step=1∨x.step=-1)∧x.pos≤4096)∧x.list=i
 |[],x,h=>by simp [fK] at h
 |e::l,x,h=>by
  rw [uF] at h
  rcases ZaE.1 h with h|h
  ·cases hw:(wX e).2.2 with
   |false=>rw [hw] at h;simp at h
   |true =>
    obtain ⟨n,m,hnm,h1,h2,-⟩:=MJ hw
    rw [hnm] at h
    simp only [if_true,Zay,ZaK,Zdx,or_false] at h
    rcases h with rfl|rfl
    ·exact ⟨⟨.inl rfl,by simp only;omega⟩,rfl⟩
    ·exact ⟨⟨.inr rfl,h2⟩,rfl⟩
  ·exact sS h
theorem MN {i j:Nat}:∀ l:List bP,tot j (fK i l)=0
 |[]=>rfl
 |e::l=>by
  rw [uF,zU,MN l]
  split
  ·simp only [tot];split<;>omega
  ·rfl
theorem Bo {i j s:Nat}(h:i≠j):∀ l:List bP,dep j s (fK i l)=0
 |[]=>rfl
 |e::l=>by
  rw [uF,xq,Bo h l]
  split
  ·simp [dep,h]
  ·rfl
theorem MO {i s:Nat}(hs:s<4096):∀ l:List bP,0≤dep i s (fK i l)∧(dep i s (fK i l) > 0 ↔ qG l s=true)
 |[]=>by simp [fK,dep,qG]
 |e::l=>by
  obtain ⟨h1,h2⟩:=MO (i:=i) hs l
  rw [uF,xq]
  have h3:qG (e::l) s=(JQ e s || qG l s):=rfl
  rw [h3]
  cases hw:(wX e).2.2 with
  |false =>
   rw [aec hw hs]
   simp only [zm,if_false,dep,Int.zero_add,ZbR]
   exact ⟨h1,h2⟩
  |true =>
   obtain ⟨n,m,hnm,g1,g2,g3⟩:=MJ hw
   have g4:=g3 s hs
   rw [hnm]
   simp only [if_true,Zay,dep,true_and]
   cases hin:JQ e s with
   |false =>
    rw [ZbR,← h2]
    have:¬ (n≤s∧s<m):=fun h=>by rw [g4.2 h] at hin;cases hin
    split<;>split<;>omega
   |true =>
    obtain ⟨k1,k2⟩:=g4.1 hin
    rw [if_pos k1,if_neg (by omega)]
    simp only [Bool.true_or,iff_true]
    omega
theorem aeh:∀ {l:List End},(∀ i j:Nat,i<j→j<l.length→¬ l[j]!.pos<l[i]!.pos)→Asc l
 |[],_=>trivial
 |[x],_=>trivial
 |x::y::l,h=>by
  refine ⟨?_,aeh fun i j hij hj=>?_⟩
  ·have:=h 0 1 (by omega) (by simp)
   simp at this
   omega
  ·have:=h (i+1) (j+1) (by omega) (by simp at hj ⊢;omega)
   simpa using this
theorem Zm {keep:Bool→Bool→Bool}(hk:keep false false=false)(a b:List bP):Bf keep (lH [a,b]) 0 0 0 false=setOf keep a b:=by
 obtain ⟨h1,h2,h3⟩:=yK (dF 0 [a,b])
 have hr:dF 0 [a,b]=fK 0 a++fK 1 b:=by simp [dF]
 have hmem:∀ x∈lH [a,b],x.pos≤4096:=fun x hx=>by
  have:=h1.mem_iff.1 hx
  rw [hr] at this
  rcases ZaE.1 this with q|q
  ·exact (sS q).1.2
  ·exact (sS q).1.2
 have ht:∀ j,tot j (lH [a,b])=0:=fun j=>by
  unfold lH
  rw [aeg h1,hr,zU,MN,MN];rfl
 have hasc:Asc (lH [a,b]):=aeh fun i j hij hj=>h3 i j hij (by unfold lH at hj;omega)
 rw [adG hk hasc hmem (ht 0) (ht 1)]
 unfold setOf
 apply pG
 intro s hs
 unfold kH lH
 rw [QV h1,QV h1,hr,xq,xq,Bo (i:=1) (j:=0) (by decide),Bo (i:=0) (j:=1) (by decide),Int.add_zero,Int.zero_add]
 have e1:=(MO (i:=0) hs a).2
 have e2:=(MO (i:=1) hs b).2
 have f1:decide (dep 0 s (fK 0 a) > 0)=qG a s:=by
  cases h:qG a s
  ·exact decide_eq_false fun q=>by rw [e1.1 q] at h;cases h
  ·exact decide_eq_true (e1.2 h)
 have f2:decide (dep 1 s (fK 1 b) > 0)=qG b s:=by
  cases h:qG b s
  ·exact decide_eq_false fun q=>by rw [e2.1 q] at h;cases h
  ·exact decide_eq_true (e2.2 h)
 rw [f1,f2]
set_option maxRecDepth 20000 in
theorem ahl {keep:Bool→Bool→Bool}(h0:keep false false=false){kf:Nat}(hk:∀ p q,cal env kf [.bool p,.bool q]=some [(.bool (keep p q),false)]){a b:List bP}(ha:uD a)(hb:uD b)(la:a.length≤10000)(lb:b.length≤10000) :
  iter env 256 [.cu [.list 2 (a.map aZ)] 0,.cu [.list 2 (b.map aZ)] 0,.cu [.func kf []] 0] none=some (yE (setOf keep a b)):=by
 have hlim:lim=1073741824:=rfl
 obtain ⟨h1,h2,h3⟩:=yK (dF 0 [a,b])
 have hr:dF 0 [a,b]=fK 0 a++fK 1 b:=by simp [dF]
 have hp:=rG (n:=10000) [a,b] 0 (ML la lb)
 have e1:=akH (ls:=[a,b]) (ML ha hb) (ML la lb) (by simp) h2
 have hE:(lH [a,b]).length≤1000000:=by unfold lH;rw [h2];simp at hp;omega
 have hm:∀ x∈lH [a,b],((x.step=1∨x.step=-1)∧x.pos≤4096)∧x.list<2:=fun x hx=>by
  have:=h1.mem_iff.1 hx
  rw [hr] at this
  rcases ZaE.1 this with q|q
  ·have:=sS q;exact ⟨this.1,by omega⟩
  ·have:=sS q;exact ⟨this.1,by omega⟩
 have hres:=(aef keep (lH [a,b])).trans (Zm h0 a b)
 simp only [Zai,Zar,jf] at e1
 have L2:(2≤lim)=True:=eq_true (by omega)
 rw [nK ajT rfl rfl]
 have hy:vZ 80 [.cu [.list 2 (a.map aZ)] 0,.cu [.list 2 (b.map aZ)] 0,.cu [.func kf []] 0] none=⟨sl 80 [(0,.lV),(1,.pv (.cu [.list 2 (a.map aZ)] 0)),(2,.pv (.cu [.list 2 (b.map aZ)] 0)),(3,.pv (.cu [.func kf []] 0))],[],[],some none⟩:=rfl
 simp only [Qx]
 rw [hy]
 simp only [e1,L2,Z3,aC,Nat.reduceMul,Nat.reduceBEq,Nat.reduceLT,Nat.reduceLeDiff,reduceCtorEq,Nat.reduceEqDiff,Nat.reduceAdd,Z6]
 rw [ahk hk hm hE (by simp only [aC,Nat.reduceMul,Nat.reduceBEq,Nat.reduceLT,Nat.reduceLeDiff,reduceCtorEq,Nat.reduceEqDiff,Nat.reduceAdd,Z6]<;>rfl)]
 rw [hres]
 rfl
theorem akK {g:Nat}{caps:List PV}{l:List bP}(hi:iter env g caps none=some (yE l))(hl:l.length≤1000000):cal env 255 [.kZ 2,.func g caps]=some [(.list 2 (l.map aZ),true)]:=by
 have hlim:lim=1073741824:=rfl
 rw [aA ajS rfl];simp only [Qw];simp only [start,aN,aU,aJ,aT,aF,aH,aK,aP,Nat.reduceAdd,Nat.reduceSub]
 simp only [bJ,reduceCtorEq,Nat.reduceEqDiff,Nat.reduceAdd,Nat.reduceLT,Nat.reduceLeDiff,Z6]
 rw [uz (env:=env) (fun j=>[⟨false,[.row 2 ((l.take j).map aZ)]⟩]) (xs:=yE l) rfl hi rfl ?_]
 ·simp only [yE,Z3,Zas,xJ,bJ,reduceCtorEq,Nat.reduceEqDiff,Nat.reduceAdd,Nat.reduceLT,Nat.reduceLeDiff,Z6]
 ·intro j x hx sl0
  simp only [yE,zc,Zao] at hx
  obtain ⟨e,he,rfl⟩:=hx
  have hj:=(zb.1 he).1
  have F3:((l.take j).length+1≤lim)=True:=eq_true (by rw [Zaa];omega)
  have ht:l.take (j+1)=l.take j++[e]:=by rw [List.take_add_one,he];rfl
  rw [ht]
  refine ⟨?_,?_⟩
  rotate_left
  ·simp only [Qu,Qv,F3,aZ,Zag,Zai,Zar,xJ,bJ,reduceCtorEq,Nat.reduceEqDiff,Nat.reduceAdd,Nat.reduceLT,Nat.reduceLeDiff,Z6]
   rfl
theorem akL {g:Nat}{caps:List PV}{l:List bP}(hi:iter env g caps none=some (yE l))(hl:l.length≤1000000):cal env 213 [.func g caps]=some [(.list 2 (l.map aZ),true)]:=by
 have e1:=akK hi hl
 rw [aA ajG rfl];simp only [Qh];simp only [start,aN,aU,aJ,aT,aF,aH,aK,aP,Nat.reduceAdd,Nat.reduceSub]
 simp only [e1,bJ,reduceCtorEq,Nat.reduceEqDiff,Nat.reduceAdd,Nat.reduceLT,Nat.reduceLeDiff,Z6]
def Zn (p q:Bool):Bool:=p || q
theorem Zo (l:List bP)(i:Nat):(jr l i).length≤l.length+1:=by
 rcases fD l with rfl|⟨p,x,rfl⟩
 ·simp [jr]
 ·rw [fC];split<;>simp
theorem xC (p:Nat→Bool):∀ n,(ext p n).length≤n
 |0=>ze _
 |n+1=>by
  rw [iI]
  have:=xC p n
  have:=Zo (ext p n) n
  split<;>omega
theorem JR (keep:Bool→Bool→Bool)(a b:List bP):(setOf keep a b).length≤4096:=xC _ _
theorem akM {a b:List PV}{kf:Nat}:cal env 214 [.list 2 a,.list 2 b,.func kf []]=some [(.func 256 [.cu [.list 2 a] 0,.cu [.list 2 b] 0,.cu [.func kf []] 0],false)]:=by
 rw [aA ajH rfl];simp only [Qi,aW,Nat.reduceBEq,Nat.reduceLeDiff,Nat.reduceAdd,zd,zj]
 simp only [aC,Nat.reduceMul,Nat.reduceBEq,Nat.reduceLT,Nat.reduceLeDiff,reduceCtorEq,Nat.reduceEqDiff,Nat.reduceAdd,Z6]
theorem akN (p q:Bool):cal env 243 [.bool p,.bool q]=some [(.bool (Zn p q),false)]:=by
 cases p<;>cases q<;>(rw [aA ajM rfl];simp only [Qn,aW,Nat.reduceBEq,Nat.reduceLeDiff,Nat.reduceAdd,zd,zj];simp only [aC,Nat.reduceMul,Nat.reduceBEq,Nat.reduceLT,Nat.reduceLeDiff,reduceCtorEq,Nat.reduceEqDiff,Nat.reduceAdd,Z6]<;>rfl)
theorem aei {a b:List bP}(ha:uD a)(hb:uD b)(la:a.length≤10000)(lb:b.length≤10000):cal env 180 [.list 2 (a.map aZ),.list 2 (b.map aZ)]=some [(.list 2 ((setOf Zn a b).map aZ),true)]:=by
 have e1:=akM (a:=a.map aZ) (b:=b.map aZ) (kf:=243)
 have hi:=ahl (keep:=Zn) rfl (kf:=243) (fun p q=>akN p q) ha hb la lb
 have hlen:=JR Zn a b
 have e2:=akL hi (by omega)
 rw [aA ajn rfl];simp only [PE,aW,Nat.reduceBEq,Nat.reduceLeDiff,Nat.reduceAdd,zd,zj]
 simp only [e1,e2,aC,Nat.reduceMul,Nat.reduceBEq,Nat.reduceLT,Nat.reduceLeDiff,reduceCtorEq,Nat.reduceEqDiff,Nat.reduceAdd,Z6]
--+
theorem QW:uD []:=fun x hx=>by cases hx
def U5 (l:List bP):List bP:=setOf Zn l []
def oJ (l:List bP):Int:=(l.map fun x=>x.count).sum
theorem xE (l:List bP)(x:bP):oJ (l++[x])=oJ l+x.count:=by simp [oJ]
theorem yL (p:Nat→Bool)(n:Nat):(∀ x∈ext p n,0≤x.start∧1≤x.count∧x.start+x.count≤(n:Int)):=by
 induction n with
 |zero=>intro x hx;cases hx
 |succ n ih =>
  rw [iI]
  split
  ·rcases fD (ext p n) with e|⟨pre,y,e⟩
   ·rw [e]
    intro x hx
    have:jr [] n=[⟨(n:Int),1⟩]:=rfl
    rw [this] at hx
    simp only [Zaq] at hx
    subst hx
    simp only;omega
   ·rw [e] at ih ⊢
    intro x hx
    rw [fC] at hx
    split at hx
    ·rcases ZaE.1 hx with h|h
     ·have:=ih x (by simp [h]);omega
     ·simp only [Zaq] at h
      have:=ih y (by simp)
      subst h;simp only;omega
    ·rcases ZaE.1 hx with h|h
     ·have:=ih x h;omega
     ·simp only [Zaq] at h
      subst h;simp only;omega
  ·intro x hx;have:=ih x hx;omega
theorem Dx (p:Nat→Bool):∀ n,oJ (ext p n)=(((Zam n).filter p).length:Int)
 |0=>rfl
 |n+1=>by
  have ih:=Dx p n
  rw [iI,Zbe,ZbJ,List.length_append]
  cases h:p n with
  |false=>rw [List.filter_cons_of_neg (by simp [h])];simpa using ih
  |true =>
   rw [List.filter_cons_of_pos h,List.filter_nil,if_pos rfl]
   have:oJ (jr (ext p n) n)=oJ (ext p n)+1:=by
    rcases fD (ext p n) with e|⟨pre,y,e⟩
    ·rw [e];rfl
    ·rw [e,fC]
     split
     ·rw [xE,xE];simp only;omega
     ·rw [xE]
   rw [this,ih];simp
theorem aej {l:List bP}(h:∀ x∈l,0≤x.count∧x.count≤4096):∀ i,0≤oJ (l.take i)∧oJ (l.take i)≤4096*(l.take i).length:=by
 intro i
 have:∀ m:List bP,(∀ x∈m,0≤x.count∧x.count≤4096)→0≤oJ m∧oJ m≤4096*m.length:=by
  intro m
  induction m with
  |nil=>intro _;simp [oJ]
  |cons x m ih =>
   intro hm
   have h1:=hm x (by simp)
   have h2:=ih fun y hy=>hm y (by simp [hy])
   have:oJ (x::m)=x.count+oJ m:=by simp [oJ]
   rw [this,zd]
   omega
 exact this _ fun x hx=>h x (List.mem_of_mem_take hx)
theorem ahm {l:List bP}(hl:l.length≤10000)(hc:∀ x∈l,0≤x.count∧x.count≤4096){st:St}(h:st.head [3,7,8,9] st.boxes.length=some ⟨sl 19 [(3,.pv (.int .i64 (oJ (l.take ((0:Nat)))))),(7,.row 2 (l.map aZ)),(8,.pv (.int .i64 l.length)),(9,.pv (.int .i64 (0:Nat)))],[],[],none⟩) :
  den env EL st=some (.normal,⟨sl 19 [(2,.any),(3,.pv (.int .i64 (oJ l)))],[],[],none⟩):=by
 unfold EL
 refine aY (env:=env) (l.length) (fun i=>⟨sl 19 [(3,.pv (.int .i64 (oJ (l.take (i))))),(7,.row 2 (l.map aZ)),(8,.pv (.int .i64 l.length)),(9,.pv (.int .i64 i))],[],[],none⟩) (fun i=>some (.normal,⟨sl 19 [(2,.any),(3,.pv (.int .i64 (oJ l)))],[],[],none⟩)) h (fun _=>rfl) (fun _=>by simp only [aW,bI,Nat.reduceMul,Nat.reduceBEq,Nat.reduceLT,Nat.reduceLeDiff,Nat.reduceAdd,decide_true,zP,zz]) ?_ ?_
 ·intro i rb hi ih
  have hlim:lim=1073741824:=rfl
  have hi1:=bC hi (by omega)
  have F1:((i:Int)<(l.length:Int))=True:=eq_true (by omega)
  have hx:l[i]?=some l[i]:=ZD hi
  have ht:=yJ hi
  obtain ⟨t1,t2⟩:=aej hc i
  have hcx:=hc _ (Zap hi)
  have hlt:(l.take i).length≤l.length:=by rw [Zaa];omega
  generalize l[i]=x at *
  have P2:part [PV.int .i64 x.start,.int .i64 x.count] 0 (some 2)=some (.agg [.int .i64 x.start,.int .i64 x.count]):=rfl
  have W:IntKind.i64.wrap (oJ (l.take i)+x.count)=oJ (l.take i)+x.count:=aI (by omega)
  simp only [EK,F1,hx,aZ,P2,W,au hi,zc,Zae,Z3,aC,Nat.reduceMul,Nat.reduceBEq,Nat.reduceLT,Nat.reduceLeDiff,reduceCtorEq,Nat.reduceEqDiff,Nat.reduceAdd,Z6]
  rw [ih _ (by simp only [hi1,ht,xE,aC,Nat.reduceMul,Nat.reduceBEq,Nat.reduceLT,Nat.reduceLeDiff,reduceCtorEq,Nat.reduceEqDiff,Nat.reduceAdd,Z6]<;>rfl)]
 ·intro rb
  simp only [EK,Zat,Z3,Zas,aC,Nat.reduceMul,Nat.reduceBEq,Nat.reduceLT,Nat.reduceLeDiff,reduceCtorEq,Nat.reduceEqDiff,Nat.reduceAdd,Z6]
theorem U6 {l:List bP}(ho:uD l)(hl:l.length≤10000):cal env 100 [.list 2 (l.map aZ)]=some [(.int .i64 (oJ (U5 l)),false)]:=by
 have e1:=aei ho QW hl (by simp)
 simp only [Zar] at e1
 have h1:=JR Zn l []
 have h2:=yL (fun s=>Zn (qG l s) (qG [] s)) 4096
 unfold U5
 have hc:∀ x∈setOf Zn l [],0≤x.count∧x.count≤4096:=fun x hx=>by have:=h2 x hx;omega
 generalize setOf Zn l []=r at *
 rw [aA ai7 rfl];simp only [O9,aW,Nat.reduceBEq,Nat.reduceLeDiff,Nat.reduceAdd,zd,zj]
 simp only [e1,Z3,aC,Nat.reduceMul,Nat.reduceBEq,Nat.reduceLT,Nat.reduceLeDiff,reduceCtorEq,Nat.reduceEqDiff,Nat.reduceAdd,Z6]
 rw [ahm (l:=r) (by omega) hc (by simp only [Zbn,oJ,Zar,List.sum_nil,aC,Nat.reduceMul,Nat.reduceBEq,Nat.reduceLT,Nat.reduceLeDiff,reduceCtorEq,Nat.reduceEqDiff,Nat.reduceAdd,Z6]<;>rfl)]
 simp only [e1,Z3,aC,Nat.reduceMul,Nat.reduceBEq,Nat.reduceLT,Nat.reduceLeDiff,reduceCtorEq,Nat.reduceEqDiff,Nat.reduceAdd,Z6]
end Go.Proofs.YthccglceomoboaaGreatDoor.V
namespace Go.Proofs.YthccglceomoboaaGreatDoor
end Go.Proofs.YthccglceomoboaaGreatDoor
namespace Go.Proofs.YthccglceomoboaaGreatDoor.V
def mk (f:Nat→Bool):List Bool:=(Zam 4096).map f
theorem Hl (l:List bP)(e:bP)(s:Nat):qG (l++[e]) s=(qG l s || JQ e s):=by simp [qG]
theorem QX (x y:bP):gB [.int .i64 x.start,.int .i64 x.count] [.int .i64 y.start,.int .i64 y.count]=some (decide (x=y)):=by
 simp only [gB,if_true,Zae]
 congr 1
 obtain ⟨a,b⟩:=x
 obtain ⟨c,d⟩:=y
 by_cases h1:a=c<;>by_cases h2:b=d<;>simp [h1,h2]
--+
theorem akO {a b:List bP}(hl:a.length≤lim)(hab:a.length=b.length){st:St}(h:st.head [0,1,5] st.boxes.length=some ⟨[.pv (.list 2 (a.map aZ)),.pv (.list 2 (b.map aZ)),.any,.any,.any,.pv (.int .i64 (0:Nat)),.any,.any,.any,.any,.any,.any,.any,.any,.any,.any,.any,.any,.any,.any,.any,.any,.any,.any,.any,.any],[],[],none⟩) :
  den env LM st=if a=b then some (.normal,⟨[.any,.any,.any,.any,.any,.any,.any,.any,.any,.any,.any,.any,.any,.any,.any,.any,.any,.any,.any,.any,.any,.any,.any,.any,.any,.any],[],[],none⟩) else some (.ret,⟨[.any,.any,.any,.any,.pv (.bool false),.any,.any,.any,.any,.any,.any,.any,.any,.any,.any,.any,.any,.any,.any,.any,.any,.any,.any,.any,.any,.any],[],[],none⟩):=by
 unfold LM
 rw [ aY (env:=env) (a.length) (fun i=>⟨[.pv (.list 2 (a.map aZ)),.pv (.list 2 (b.map aZ)),.any,.any,.any,.pv (.int .i64 i),.any,.any,.any,.any,.any,.any,.any,.any,.any,.any,.any,.any,.any,.any,.any,.any,.any,.any,.any,.any],[],[],none⟩) (fun i=>if a.drop i=b.drop i then some (.normal,⟨[.any,.any,.any,.any,.any,.any,.any,.any,.any,.any,.any,.any,.any,.any,.any,.any,.any,.any,.any,.any,.any,.any,.any,.any,.any,.any],[],[],none⟩) else some (.ret,⟨[.any,.any,.any,.any,.pv (.bool false),.any,.any,.any,.any,.any,.any,.any,.any,.any,.any,.any,.any,.any,.any,.any,.any,.any,.any,.any,.any,.any],[],[],none⟩)) h (fun _=>rfl) (fun _=>rfl) ?_ ?_]
 ·first|rfl|simp only [ZaT,Zbn,Zar,Nat.zero_add,List.nil_append,List.foldl_nil]
 ·intro i rb hi ih
  have hi1:=bC hi hl
  have hj:i<b.length:=by omega
  have F1:((i:Int)<(a.length:Int))=True:=eq_true (by omega)
  have P:∀ x:bP,part [PV.int .i64 x.start,.int .i64 x.count] 0 (some 2)=some (.agg [.int .i64 x.start,.int .i64 x.count]):=fun x=>rfl
  simp only [LK,F1,aZ,au hi,au hj,zc,ZD hi,ZD hj,P,QX,zd,zj,bJ,reduceCtorEq,Nat.reduceEqDiff,Nat.reduceAdd,Nat.reduceLT,Nat.reduceLeDiff,Z6]
  rw [zr hi,zr hj]
  (try simp only [dB,dO,dD]);refine bV (fun hb=>?_) (fun hb=>?_)<;>try simp only [hb,bJ,reduceCtorEq,Nat.reduceEqDiff,Nat.reduceAdd,Nat.reduceLT,Nat.reduceLeDiff,Z6]
  ·rw [ih _ (by simp only [hi1];rfl)]
   simp only [decide_eq_true_eq] at hb
   simp only [hb,List.cons.injEq,true_and]
  ·simp only [decide_eq_false_iff_not] at hb
   simp only [hb,List.cons.injEq,false_and,if_false]
   rfl
 ·intro rb
  simp only [LK,Zat,bJ,reduceCtorEq,Nat.reduceEqDiff,Nat.reduceAdd,Nat.reduceLT,Nat.reduceLeDiff,Z6]
  rw [ZaG,hab,ZaG,if_pos rfl]
  rfl
theorem amZ {a b:List bP}(hl:a.length≤lim):cal env 32 [.list 2 (a.map aZ),.list 2 (b.map aZ)]=some [(.bool (decide (a=b)),false)]:=by
 rw [aA amC rfl];simp only [abW];simp only [start,aN,aU,aJ,aT,aF,aH,aK,aP,Nat.reduceAdd,Nat.reduceSub]
 simp only [bJ,reduceCtorEq,Nat.reduceEqDiff,Nat.reduceAdd,Nat.reduceLT,Nat.reduceLeDiff,Z6]
 (try simp only [dB,dO,dD]);refine bV (fun hb=>?_) (fun hb=>?_)<;>try simp only [hb,bJ,reduceCtorEq,Nat.reduceEqDiff,Nat.reduceAdd,Nat.reduceLT,Nat.reduceLeDiff,Z6]
 ·have hab:a.length=b.length:=by simp at hb;omega
  rw [akO hl hab]
  rotate_left
  ·rfl
  ·by_cases e:a=b<;>simp only [e,jl,reduceCtorEq,Nat.reduceEqDiff,Nat.reduceAdd,Nat.reduceLT,Nat.reduceLeDiff,Z6]
 ·have:a≠b:=fun e=>by subst e;simp at hb
  simp only [this,jl,reduceCtorEq,Nat.reduceEqDiff,Nat.reduceAdd,Nat.reduceLT,Nat.reduceLeDiff,Z6]
def kV (size:Int):Int→List bP→Int
 |_,[]=>0
 |nx,e::l=>if e.count≤0 then 1 else if e.start<0∨e.count > size - e.start then 2 else if e.start<nx then 3 else kV size (e.start+e.count+1) l
def sU (l:List bP)(size:Int):Int:=if size<0∨4096<size then 2 else kV size 0 l
def QY (l:List bP):Nat→Int
 |0=>0
 |i+1=>match l[i]? with
  |some e=>e.start+e.count+1
  |none=>0
theorem QZ {l:List bP}{i:Nat}{e:bP}(h:l[i]?=some e):QY l (i+1)=e.start+e.count+1:=by
 show (match l[i]? with
  |some e=>e.start+e.count+1
  |none=>0)=_
 rw [h]
set_option maxRecDepth 20000 in
theorem ahn {l:List bP}{size:Int}(hs:0≤size∧size≤4096)(ho:uD l)(hl:l.length≤10000){st:St}(h:st.head [0,1,5,14,15,16] st.boxes.length=some ⟨sl 49 [(0,.pv (.list 2 (l.map aZ))),(1,.pv (.int .i64 size)),(5,.pv (.int .i64 (QY l ((0:Nat))))),(14,.pv (.list 2 (l.map aZ))),(15,.pv (.int .i64 l.length)),(16,.pv (.int .i64 (0:Nat)))],[],[],none⟩) :
  den env EU st=if kV size (QY l ((0:Nat))) (l.drop ((0:Nat)))=0 then some (.normal,⟨sl 49 [(4,.any)],[],[],none⟩) else some (.ret,⟨sl 49 [(4,.pv (.int .i64 (kV size (QY l ((0:Nat))) (l.drop ((0:Nat))))))],[],[],none⟩):=by
 unfold EU
 refine aY (env:=env) (l.length) (fun i=>⟨sl 49 [(0,.pv (.list 2 (l.map aZ))),(1,.pv (.int .i64 size)),(5,.pv (.int .i64 (QY l (i)))),(14,.pv (.list 2 (l.map aZ))),(15,.pv (.int .i64 l.length)),(16,.pv (.int .i64 i))],[],[],none⟩) (fun i=>if kV size (QY l (i)) (l.drop (i))=0 then some (.normal,⟨sl 49 [(4,.any)],[],[],none⟩) else some (.ret,⟨sl 49 [(4,.pv (.int .i64 (kV size (QY l (i)) (l.drop (i)))))],[],[],none⟩)) h (fun _=>rfl) (fun _=>by simp only [aW,bI,Nat.reduceMul,Nat.reduceBEq,Nat.reduceLT,Nat.reduceLeDiff,Nat.reduceAdd,decide_true,zP,zz]) ?_ ?_
 ·intro i rb hi ih
  have hlim:lim=1073741824:=rfl
  have hi1:=bC hi (by omega)
  have F1:((i:Int)<(l.length:Int))=True:=eq_true (by omega)
  have hx:l[i]?=some l[i]:=ZD hi
  obtain ⟨⟨o1,o2⟩,o3,o4⟩:=ho _ (Zap hi)
  rw [QZ hx] at ih
  rw [zr hi]
  generalize l[i]=x at *
  have P2:part [PV.int .i64 x.start,.int .i64 x.count] 0 (some 2)=some (.agg [.int .i64 x.start,.int .i64 x.count]):=rfl
  have ch:kV size (QY l i) (x::l.drop (i+1))=if x.count≤0 then 1 else if x.start<0∨x.count > size - x.start then 2 else if x.start<QY l i then 3 else kV size (x.start+x.count+1) (l.drop (i+1)):=rfl
  by_cases c1:x.count≤0
  ·rw [ch,if_pos c1]
   simp only [qm,F1,hx,aZ,P2,c1,au hi,zc,Zae,Z3,aC,Nat.reduceMul,Nat.reduceBEq,Nat.reduceLT,Nat.reduceLeDiff,reduceCtorEq,Nat.reduceEqDiff,Nat.reduceAdd,Z6]
   rfl
  ·by_cases c2:x.start<0
   ·have hv:kV size (QY l i) (x::l.drop (i+1))=2:=by rw [ch,if_neg c1,if_pos (.inl c2)]
    rw [hv]
    simp only [qm,F1,hx,aZ,P2,c1,c2,au hi,zc,Zae,Z3,aC,Nat.reduceMul,Nat.reduceBEq,Nat.reduceLT,Nat.reduceLeDiff,reduceCtorEq,Nat.reduceEqDiff,Nat.reduceAdd,Z6]
    rfl
   ·have W1:IntKind.i64.wrap (size - x.start)=size - x.start:=aI (by omega)
    by_cases c3:x.count > size - x.start
    ·have hv:kV size (QY l i) (x::l.drop (i+1))=2:=by rw [ch,if_neg c1,if_pos (.inr c3)]
     rw [hv]
     have c3':(x.count > size - x.start)=True:=eq_true c3
     simp only [qm,F1,hx,aZ,P2,c1,c2,c3',W1,au hi,zc,Zae,Z3,aC,Nat.reduceMul,Nat.reduceBEq,Nat.reduceLT,Nat.reduceLeDiff,reduceCtorEq,Nat.reduceEqDiff,Nat.reduceAdd,Z6]
     rfl
    ·have c3':(x.count > size - x.start)=False:=eq_false c3
     by_cases c4:x.start<QY l i
     ·have hv:kV size (QY l i) (x::l.drop (i+1))=3:=by rw [ch,if_neg c1,if_neg (by omega),if_pos c4]
      rw [hv]
      simp only [qm,F1,hx,aZ,P2,c1,c2,c3',c4,W1,au hi,zc,Zae,Z3,aC,Nat.reduceMul,Nat.reduceBEq,Nat.reduceLT,Nat.reduceLeDiff,reduceCtorEq,Nat.reduceEqDiff,Nat.reduceAdd,Z6]
      rfl
     ·have hv:kV size (QY l i) (x::l.drop (i+1))=kV size (x.start+x.count+1) (l.drop (i+1)):=by rw [ch,if_neg c1,if_neg (by omega),if_neg c4]
      rw [hv]
      have W2:IntKind.i64.wrap (x.start+x.count)=x.start+x.count:=aI (by omega)
      have W3:IntKind.i64.wrap (x.start+x.count+1)=x.start+x.count+1:=aI (by omega)
      simp only [qm,F1,hx,aZ,P2,c1,c2,c3',c4,W1,W2,W3,au hi,zc,Zae,Z3,aC,Nat.reduceMul,Nat.reduceBEq,Nat.reduceLT,Nat.reduceLeDiff,reduceCtorEq,Nat.reduceEqDiff,Nat.reduceAdd,Z6]
      have hn:QY l (i+1)=x.start+x.count+1:=QZ hx
      rw [ih _ (by simp only [hi1,hn,aC,Nat.reduceMul,Nat.reduceBEq,Nat.reduceLT,Nat.reduceLeDiff,reduceCtorEq,Nat.reduceEqDiff,Nat.reduceAdd,Z6]<;>rfl)]
 ·intro rb
  simp only [qm,Zat,Z3,ZaG,kV,if_true,aC,Nat.reduceMul,Nat.reduceBEq,Nat.reduceLT,Nat.reduceLeDiff,reduceCtorEq,Nat.reduceEqDiff,Nat.reduceAdd,Z6]
theorem U7 {l:List bP}{size:Int}(ho:uD l)(hl:l.length≤10000):cal env 106 [.list 2 (l.map aZ),.int .i64 size]=some [(.int .i64 (sU l size),false)]:=by
 unfold sU
 by_cases c1:size<0
 ·rw [if_pos (.inl c1)]
  rw [aA UR rfl];simp only [EW,aW,Nat.reduceBEq,Nat.reduceLeDiff,Nat.reduceAdd,zd,zj]
  simp only [c1,aC,Nat.reduceMul,Nat.reduceBEq,Nat.reduceLT,Nat.reduceLeDiff,reduceCtorEq,Nat.reduceEqDiff,Nat.reduceAdd,Z6]
 ·by_cases c2:4096<size
  ·rw [if_pos (.inr c2)]
   have c2':(size > 4096)=True:=eq_true c2
   rw [aA UR rfl];simp only [EW,aW,Nat.reduceBEq,Nat.reduceLeDiff,Nat.reduceAdd,zd,zj]
   simp only [c1,c2',aC,Nat.reduceMul,Nat.reduceBEq,Nat.reduceLT,Nat.reduceLeDiff,reduceCtorEq,Nat.reduceEqDiff,Nat.reduceAdd,Z6]
  ·rw [if_neg (by omega)]
   have c2':(size > 4096)=False:=eq_false c2
   rw [aA UR rfl];simp only [EW,aW,Nat.reduceBEq,Nat.reduceLeDiff,Nat.reduceAdd,zd,zj]
   simp only [c1,c2',Z3,aC,Nat.reduceMul,Nat.reduceBEq,Nat.reduceLT,Nat.reduceLeDiff,reduceCtorEq,Nat.reduceEqDiff,Nat.reduceAdd,Z6]
   rw [ahn (size:=size) ⟨by omega,by omega⟩ ho hl (by simp only [QY,aC,Nat.reduceMul,Nat.reduceBEq,Nat.reduceLT,Nat.reduceLeDiff,reduceCtorEq,Nat.reduceEqDiff,Nat.reduceAdd,Z6]<;>rfl)]
   rw [ZaT]
   have h0:QY l 0=0:=rfl
   rw [h0]
   split
   ·rename_i h
    rw [h]
    simp only [c1,c2',Z3,aC,Nat.reduceMul,Nat.reduceBEq,Nat.reduceLT,Nat.reduceLeDiff,reduceCtorEq,Nat.reduceEqDiff,Nat.reduceAdd,Z6]
   ·simp only [c1,c2',Z3,aC,Nat.reduceMul,Nat.reduceBEq,Nat.reduceLT,Nat.reduceLeDiff,reduceCtorEq,Nat.reduceEqDiff,Nat.reduceAdd,Z6]
theorem akP (l:List bP):U5 l=ext (qG l) 4096:=by
 unfold U5 setOf
 exact pG fun s _=>by simp [Zn,qG]
theorem aho {l:List bP}{n:Nat}(h:∀ x∈l,0≤x.start∧1≤x.count∧x.start+x.count≤(n:Int))(s:Nat):qG (jr l n) s=(qG l s || decide (s=n)):=by
 rcases fD l with e|⟨pre,y,e⟩
 ·subst e
  show qG [⟨(n:Int),1⟩] s=_
  rw [ZbY]
  simp [qG,JQ];omega
 ·subst e
  have hy:=h y (by simp)
  rw [fC]
  split
  ·rw [Hl,Hl,Bool.or_assoc]
   congr 1
   rw [ZbY]
   simp [JQ];omega
  ·rw [Hl (pre++[y])]
   congr 1
   rw [ZbY]
   simp [JQ];omega
theorem Dy (p:Nat→Bool)(s:Nat):∀ n,qG (ext p n) s=(decide (s<n)&&p s)
 |0=>by simp [QG,qG]
 |n+1=>by
  rw [iI]
  by_cases h:p n=true
  ·rw [if_pos h,aho (yL p n),Dy p s n]
   by_cases h2:s=n
   ·subst h2;rw [h];simp
   ·rw [decide_eq_false h2,Bool.or_false]
    congr 1
    rw [ZbY];simp;omega
  ·rw [if_neg h,Dy p s n]
   by_cases h2:s=n
   ·subst h2;simp [h]
   ·congr 1
    rw [ZbY];simp;omega
theorem Q5 (p:Nat→Bool){n:Nat}(hn:n≤4096):uD (ext p n):=fun x hx=>by
 have:=yL p n x hx
 exact ⟨by omega,by omega⟩
def can:Int→List bP→Prop
 |_,[]=>True
 |nx,x::l=>nx≤x.start∧1≤x.count∧can (x.start+x.count+1) l
def Q7:Int→List bP→Int
 |nx,[]=>nx
 |_,x::l=>Q7 (x.start+x.count+1) l
theorem sV:∀ (l:List bP) (nx:Int) (x:bP),Q7 nx (l++[x])=x.start+x.count+1
 |[],_,_=>rfl
 |y::l,_,x=>sV l (y.start+y.count+1) x
theorem Aa:∀ (l:List bP) (nx:Int) (x:bP),can nx (l++[x]) ↔ can nx l∧Q7 nx l≤x.start∧1≤x.count
 |[],nx,x=>by simp [can,Q7]
 |y::l,nx,x=>by
  have:=Aa l (y.start+y.count+1) x
  show nx≤y.start∧1≤y.count∧can _ (l++[x]) ↔ (nx≤y.start∧1≤y.count∧can _ l)∧Q7 _ l≤x.start∧1≤x.count
  rw [this]
  constructor
  ·rintro ⟨a,b,c,d⟩;exact ⟨⟨a,b,c⟩,d⟩
  ·rintro ⟨⟨a,b,c⟩,d⟩;exact ⟨a,b,c,d⟩
theorem WH (p:Nat→Bool):∀ n:Nat,can 0 (ext p n)∧Q7 0 (ext p n)≤(n:Int)+1
 |0=>by rw [QG];exact ⟨trivial,by simp [Q7]⟩
 |n+1=>by
  obtain ⟨h1,h2⟩:=WH p n
  rw [iI]
  split
  ·rcases fD (ext p n) with e|⟨pre,x,e⟩
   ·rw [e]
    have:jr [] n=[⟨(n:Int),1⟩]:=rfl
    rw [this]
    exact ⟨⟨by simp only;omega,by simp only;omega,trivial⟩,by simp only [Q7];omega⟩
   ·rw [e] at h1 h2 ⊢
    have hx:=yL p n x (by rw [e];simp)
    rw [sV] at h2
    obtain ⟨c1,c2,c3⟩:=(Aa _ _ _).1 h1
    rw [fC]
    split
    ·exact ⟨(Aa _ _ _).2 ⟨c1,c2,by simp only;omega⟩,by rw [sV];simp only;omega⟩
    ·exact ⟨(Aa _ _ _).2 ⟨h1,by rw [sV];simp only;omega,by simp⟩,by rw [sV];simp only;omega⟩
  ·exact ⟨h1,by omega⟩
theorem WI {size:Int}:∀ (l:List bP) (nx:Int),can nx l→(∀ x∈l,0≤x.start∧x.start+x.count≤size)→kV size nx l=0
 |[],_,_,_=>rfl
 |x::l,nx,h,hb=>by
  obtain ⟨h1,h2,h3⟩:=h
  have hx:=hb x (by simp)
  unfold kV
  rw [if_neg (by omega),if_neg (by omega),if_neg (by omega)]
  exact WI l _ h3 fun y hy=>hb y (by simp [hy])
theorem Q8 (p:Nat→Bool)(n:Nat):kV n 0 (ext p n)=0:=WI _ 0 (WH p n).1 fun x hx=>by have:=yL p n x hx;omega
theorem aek {l:List bP}{n:Nat}(h:∀ x∈l,0≤x.start∧1≤x.count):fU (jr l n)=fU l++[(n:Int)]:=by
 rcases List.eq_nil_or_concat l with rfl|⟨pre,x,rfl⟩
 ·rfl
 ·rw [List.concat_eq_append] at *
  rw [fC]
  have hx:=h x (by simp)
  split
  ·rename_i c
   rw [xA,xA,show (x.count+1).toNat=x.count.toNat+1 by omega,Zbe,Zag,← Zav]
   congr 1
   simp only [Zai,Zar]
   congr 1
   omega
  ·rw [xA]
   congr 1
theorem Ac (p:Nat→Bool):∀ n,fU (ext p n)=((Zam n).filter p).map fun (i:Nat)=>(i:Int)
 |0=>rfl
 |n+1=>by
  rw [iI,Zbe,ZbJ,Zag,← Ac p n]
  cases hp:p n with
  |true =>
   rw [if_pos rfl,aek fun x hx=>by have:=yL p n x hx;omega]
   simp [hp]
  |false=>simp [hp]
def JU (sz lf:Int)(n:Nat):bP:=⟨(n:Int)*lf,if sz - (n:Int)*lf<lf then sz - (n:Int)*lf else lf⟩
def jJ (sz lf:Int)(ns:List Nat):List bP:=ns.map (JU sz lf)
def wFk (w:nT):List BV:=[.pv (.int .i64 w.t.sz),.pv (.int .i64 w.t.lf),.pv (.list 1 (w.t.lv.map iJ)),.pv (.list 2 (w.pend.map aZ)),.pv (.int .i64 w.nO),.row 2 [],.pv (.int .i64 w.sent),.pv (.bool w.fin)]
theorem Bq (w:nT):wFk w=[.pv (.int .i64 w.t.sz),.pv (.int .i64 w.t.lf),.pv (.list 1 (w.t.lv.map iJ)),.pv (.list 2 (w.pend.map aZ)),.pv (.int .i64 w.nO),.row 2 [],.pv (.int .i64 w.sent),.pv (.bool w.fin)]:=rfl
set_option maxRecDepth 20000 in
theorem ahp {w:nT}{ns:List Nat}(hz:1≤w.t.sz∧w.t.sz≤4096)(hf:1≤w.t.lf∧w.t.lf≤4096)(hnl:ns.length≤4096)(hns:∀ n∈ns,n≤4096){st:St}(h:st.head [0,1,4,12,13,14,45] st.boxes.length=some ⟨sl 55 [(0,.aO 0 0),(1,.pv (.list 1 (ns.map fun (i:Nat)=>eI (i:Int)))),(4,.row 2 ((jJ w.t.sz w.t.lf (ns.take ((0:Nat)))).map aZ)),(12,.pv (.list 1 (ns.map fun (i:Nat)=>eI (i:Int)))),(13,.pv (.int .i64 ns.length)),(14,.pv (.int .i64 (0:Nat))),(45,.any)],[⟨false,wFk w⟩],[],none⟩) :
  den env EP st=some (.normal,⟨sl 55 [(0,.aO 0 0),(4,.row 2 ((jJ w.t.sz w.t.lf ns).map aZ))],[⟨false,wFk w⟩],[],none⟩):=by
 unfold EP
 refine aY (env:=env) (nb:=1) (ns.length) (fun i=>⟨sl 55 [(0,.aO 0 0),(1,.pv (.list 1 (ns.map fun (i:Nat)=>eI (i:Int)))),(4,.row 2 ((jJ w.t.sz w.t.lf (ns.take (i))).map aZ)),(12,.pv (.list 1 (ns.map fun (i:Nat)=>eI (i:Int)))),(13,.pv (.int .i64 ns.length)),(14,.pv (.int .i64 i)),(45,.any)],[⟨false,wFk w⟩],[],none⟩) (fun i=>some (.normal,⟨sl 55 [(0,.aO 0 0),(4,.row 2 ((jJ w.t.sz w.t.lf ns).map aZ))],[⟨false,wFk w⟩],[],none⟩)) h (fun _=>rfl) (fun _=>by simp only [aW,bI,Nat.reduceMul,Nat.reduceBEq,Nat.reduceLT,Nat.reduceLeDiff,Nat.reduceAdd,decide_true,zP,zz]) ?_ ?_
 ·intro i rb hi ih
  have hi1:=bC hi (by unfold lim;omega)
  have F1:((i:Int)<(ns.length:Int))=True:=eq_true (by omega)
  have hx:(ns.map fun (i:Nat)=>eI (i:Int))[i]?=some (.int .i64 (ns[i]:Int)):=by rw [zc,ZD hi];rfl
  have hn:=hns _ (Zap hi)
  have b1:(ns[i]:Int)*w.t.lf≤4096*4096:=Int.mul_le_mul (by omega) hf.2 (by omega) (by decide)
  have b0:0≤(ns[i]:Int)*w.t.lf:=Zct (by omega) (by omega)
  have W1:IntKind.i64.wrap ((ns[i]:Int)*w.t.lf)=(ns[i]:Int)*w.t.lf:=aI (by omega)
  have W2:IntKind.i64.wrap (w.t.sz - (ns[i]:Int)*w.t.lf)=w.t.sz - (ns[i]:Int)*w.t.lf:=aI (by omega)
  have F4:(((jJ w.t.sz w.t.lf (ns.take i))).length+1≤lim)=True:=eq_true (by unfold jJ;rw [Z3,Zaa];unfold lim;omega)
  have el:(jJ w.t.sz w.t.lf (ns.take (i+1))).map aZ=(jJ w.t.sz w.t.lf (ns.take i)).map aZ++[.agg [.int .i64 ((ns[i]:Int)*w.t.lf),.int .i64 (if w.t.sz - (ns[i]:Int)*w.t.lf<w.t.lf then w.t.sz - (ns[i]:Int)*w.t.lf else w.t.lf)]]:=by
   unfold jJ;rw [take_snoc hi,Zag,Zag];rfl
  rw [el] at ih
  generalize ns[i]=n at *
  simp only [EO,F1,F4,W1,W2,hx,Bq,au hi,Z3,aC,Nat.reduceMul,Nat.reduceBEq,Nat.reduceLT,Nat.reduceLeDiff,reduceCtorEq,Nat.reduceEqDiff,Nat.reduceAdd,Z6]
  rw [ih _ (by simp only [hi1,Bq,aC,Nat.reduceMul,Nat.reduceBEq,Nat.reduceLT,Nat.reduceLeDiff,reduceCtorEq,Nat.reduceEqDiff,Nat.reduceAdd,Z6]<;>rfl)]
  simp only [Bq]
 ·intro rb
  rw [Zas]
  simp only [EO,Zat,Bq,aC,Nat.reduceMul,Nat.reduceBEq,Nat.reduceLT,Nat.reduceLeDiff,reduceCtorEq,Nat.reduceEqDiff,Nat.reduceAdd,Z6]
theorem ael {sz lf:Int}{ns:List Nat}(hz:1≤sz∧sz≤4096)(hf:1≤lf∧lf≤4096)(hns:∀ n∈ns,n≤4096):uD (jJ sz lf ns):=fun x hx=>by
 unfold jJ at hx
 obtain ⟨n,hn,rfl⟩:=ZaS.1 hx
 have hn:=hns n hn
 have b1:(n:Int)*lf≤4096*4096:=Int.mul_le_mul (by omega) hf.2 (by omega) (by decide)
 have b0:0≤(n:Int)*lf:=Zct (by omega) (by omega)
 unfold okE JU
 simp only
 split<;>omega
set_option maxRecDepth 20000 in
theorem akQ {w:nT}{ns:List Nat}(hz:1≤w.t.sz∧w.t.sz≤4096)(hf:1≤w.t.lf∧w.t.lf≤4096)(hnl:ns.length≤4096)(hns:∀ n∈ns,n≤4096):Eu env 102 (.box (wP w)) [.list 1 (ns.map fun (i:Nat)=>eI (i:Int))]=some ([],some (wP { w with nO:=0,pend:=[],found:=U5 (jJ w.t.sz w.t.lf ns),fin:=true })):=by
 have hx:jJ w.t.sz w.t.lf (List.take 0 ns)=[]:=rfl
 have e1:=aei (a:=jJ w.t.sz w.t.lf ns) (b:=[]) (ael hz hf hns) QW (by unfold jJ;rw [Z3];omega) (by simp)
 have e2:=ad7 (w:={ w with found:=U5 (jJ w.t.sz w.t.lf ns) })
 have e3:setOf Zn (jJ w.t.sz w.t.lf ns) []=U5 (jJ w.t.sz w.t.lf ns):=rfl
 rw [e3] at e1
 rw [jI,jI] at e2
 simp only [Zar] at e1
 rw [lQ ai9 rfl]
 simp only [Ph,jI,aW,Nat.reduceBEq,Nat.reduceLeDiff,Nat.reduceAdd,zd,zj]
 simp only [jI,Z3,aC,Nat.reduceMul,Nat.reduceBEq,Nat.reduceLT,Nat.reduceLeDiff,reduceCtorEq,Nat.reduceEqDiff,Nat.reduceAdd,Z6]
 rw [ahp (w:=w) (ns:=ns) hz hf hnl hns (by rw [hx,Bq];simp only [aW,bI,Nat.reduceMul,Nat.reduceBEq,Nat.reduceLT,Nat.reduceLeDiff,Nat.reduceAdd,decide_true,zP,zz]<;>rfl)]
 simp only [jI,Bq,e1,e2,aC,Nat.reduceMul,Nat.reduceBEq,Nat.reduceLT,Nat.reduceLeDiff,reduceCtorEq,Nat.reduceEqDiff,Nat.reduceAdd,Z6]
def dZ (p:Nat→Bool)(n:Nat):List Nat:=(Zam n).filter p
theorem mQ {p:Nat→Bool}{n i:Nat}:i∈dZ p n ↔ i<n∧p i=true:=by unfold dZ;rw [List.mem_filter,List.mem_range]
theorem jD (p:Nat→Bool)(n:Nat):(dZ p n).length≤n:=by unfold dZ;have:=List.length_filter_le p (Zam n);rwa [List.length_range] at this
structure mX (sz lf:Int)(l:List Int)(w:nT)(k:Nat)(p:Nat→Bool):Prop where
 t:w.t=Bh sz lf l
 T:U2 sz lf l
 kd:k≤gZ l.length
 nO:w.nO=(k:Int)
 pend:w.pend=ext p (cd l.length k)
 ne:dZ p (cd l.length k)≠[]
 found:w.found=[]
 sent:0≤w.sent∧w.sent≤8000
 fin:w.fin=false
theorem mX.lvl {sz lf:Int}{l:List Int}{w:nT}{k:Nat}{p:Nat→Bool}(h:mX sz lf l w k p):∃ hk:k<w.t.lv.length,w.t.lv[k]=iq l k:=by
 have e:w.t.lv=fG l:=by rw [h.t];rfl
 have hl:=dI l
 have:=h.kd
 refine ⟨by rw [e];omega,?_⟩
 simp only [e]
 rw [nM]
theorem mX.cdl {sz lf:Int}{l:List Int}{w:nT}{k:Nat}{p:Nat→Bool}(h:mX sz lf l w k p):1≤cd l.length k∧cd l.length k≤4096:=by
 obtain ⟨h1,h2⟩:=h.T.len
 have:=G7 h1 k
 have:=zV l.length k h1
 omega
theorem mX.pl {sz lf:Int}{l:List Int}{w:nT}{k:Nat}{p:Nat→Bool}(h:mX sz lf l w k p):w.pend.length≤4096∧1≤w.pend.length∧uD w.pend∧sU w.pend (cd l.length k:Int)=0∧∀ x∈w.pend,0≤x.start∧1≤x.count∧x.start+x.count≤(cd l.length k:Int):=by
 obtain ⟨c1,c2⟩:=h.cdl
 rw [h.pend]
 refine ⟨by have:=xC p (cd l.length k);omega,?_,Q5 p c2,by unfold sU;rw [if_neg (by omega)];exact Q8 p _,yL p _⟩
 have hn:=Ac p (cd l.length k)
 rcases Nat.eq_zero_or_pos (ext p (cd l.length k)).length with e|e
 ·exfalso
  rw [List.eq_nil_of_length_eq_zero e] at hn
  apply h.ne
  have:(dZ p (cd l.length k)).map (fun (i:Nat)=>(i:Int))=[]:=hn.symm
  simpa using this
 ·exact e
set_option maxRecDepth 20000 in
theorem aem {sz lf:Int}{l:List Int}{w:nT}{k:Nat}{p:Nat→Bool}(h:mX sz lf l w k p):cal env 98 [Zj w]=some [(.int .i64 0,false)]:=by
 obtain ⟨h1,h2⟩:=h.T.len
 obtain ⟨d1,d2,d3⟩:=jk h1 h2
 obtain ⟨c1,c2⟩:=h.cdl
 obtain ⟨p1,p2,p3,p4,p5⟩:=h.pl
 have hk:=h.kd
 have hll:=dI l
 have e1:=Wv h.T
 rw [lG] at e1
 have e2:=U7 (l:=w.pend) (size:=(cd l.length k:Int)) p3 (by omega)
 rw [p4] at e2
 have hx:((fG l).map iJ)[k]?=some (.list 1 ((iq l k).map eU)):=by rw [zc,ZD (by omega),nM];rfl
 have hn:(iq l k).length=cd l.length k:=fE l k
 have F1:((k:Int)<0)=False:=eq_false (by omega)
 have F2:((k:Int) ≥ ((fG l).length:Int))=False:=eq_false (by omega)
 have F3:(w.sent<0)=False:=eq_false (by have:=h.sent;omega)
 have F4:(w.sent > 8192)=False:=eq_false (by have:=h.sent;omega)
 have F5:((w.pend.length:Int) > 0)=True:=eq_true (by omega)
 have E0:(((0:Nat):Int)==0)=true:=rfl
 have E1:((0:Int)==0)=true:=rfl
 have E2:((0:Int) != 0)=false:=rfl
 have hI:index (.int .i64 (k:Int)) (fG l).length=some k:=au (by omega)
 have ew:Zj w=.agg [.int .i64 sz,.int .i64 lf,.list 1 ((fG l).map iJ),.list 2 (w.pend.map aZ),.int .i64 (k:Int),.list 2 [],.int .i64 w.sent,.bool false]:=by
  rw [rW,h.t,h.nO,h.found,h.fin];rfl
 rw [ew]
 rw [aA amO rfl];simp only [ab8,aW,Nat.reduceBEq,Nat.reduceLeDiff,Nat.reduceAdd,zd,zj]
 simp only [P3,P8,e1,e2,hx,hn,hI,F1,F2,F3,F4,F5,E0,E1,E2,Z3,zj,aC,Nat.reduceMul,Nat.reduceBEq,Nat.reduceLT,Nat.reduceLeDiff,reduceCtorEq,Nat.reduceEqDiff,Nat.reduceAdd,Z6]
def MP (w:nT)(g:Int→Int):Msg:=⟨14,w.nO,vals w,xP g (fU w.pend)⟩
theorem ahq (g:Int→Int)(a b:List Int):xP g (a++b)=xP g a++xP g b:=by simp [xP]
theorem MQ {P:List bP}:(chk 2 ((uT P).map eI)).length=P.length:=by
 rw [rD,Z3,o7]
 unfold Dh;omega
theorem Q9:∀ (P:List bP) (i:Nat),(uT P).drop (i*2)=uT (P.drop i)
 |P,0=>by simp
 |[],i+1=>by simp [uT]
 |x::P,i+1=>by
  have e:uT (x::P)=x.start::x.count::uT P:=rfl
  rw [e,show (i+1)*2=i*2+1+1 by omega,ZbT,ZbT,Q9 P i,ZbT]
theorem ahr {P:List bP}{i:Nat}(h:i<P.length):Wq 2 ((uT P).map eI) i=[.int .i64 P[i].start,.int .i64 P[i].count]:=by
 unfold Wq
 rw [← List.map_drop,Q9,zr h]
 rfl
theorem ahs {es:List PV}(hl:es.length≤lim):cal env 107 [.list 1 es]=some [(.list 1 es,true)]:=(Du ajd).trans (if_pos ⟨rfl,hl⟩)
def aB (sz lf:Int)(l:List Int):List BV:=[.pv (.int .i64 sz),.pv (.int .i64 lf),.pv (.list 1 ((fG l).map iJ))]
theorem sW (sz lf:Int)(l:List Int):aB sz lf l=[.pv (.int .i64 sz),.pv (.int .i64 lf),.pv (.list 1 ((fG l).map iJ))]:=rfl
def mB (w:nT):List BV:=[.pv (.int .i64 13),.pv (.int .i64 0),.pv (.int .i64 0),.pv (.int .i64 w.nO),.pv (.int .i64 0),.pv (.int .i64 0),.pv (.list 1 ((vals w).map eI)),.pv (.list 1 [])]
theorem JV (w:nT):mB w=[.pv (.int .i64 13),.pv (.int .i64 0),.pv (.int .i64 0),.pv (.int .i64 w.nO),.pv (.int .i64 0),.pv (.int .i64 0),.pv (.list 1 ((vals w).map eI)),.pv (.list 1 [])]:=rfl
def aht (sz lf:Int)(l:List Int)(w:nT)(j:Nat):List Box:=[⟨false,aB sz lf l⟩,⟨false,mB w⟩,⟨false,zMs⟩,⟨false,[.row 2 ((w.pend.take j).map aZ)]⟩]
def ahu (sz lf:Int)(l:List Int)(w:nT)(L:List Int)(g:Int→Int)(j:Nat):List Box:=[⟨false,aB sz lf l⟩,⟨false,mB w⟩,⟨false,zMs⟩,⟨false,[.pv (.list 2 (w.pend.map aZ))]⟩,⟨false,[.pv (.list 1 (L.map eU))]⟩,⟨false,[.pv (.int .i64 14),.pv (.int .i64 0),.pv (.int .i64 0),.pv (.int .i64 w.nO),.pv (.int .i64 0),.pv (.int .i64 0),.pv (.list 1 ((vals w).map eI)),.row 1 ((xP g ((fU w.pend).take j)).map jG)]⟩]
set_option maxRecDepth 20000 in
theorem am1 {sz lf:Int}{la lb:List Int}{w:nT}{k:Nat}{p:Nat→Bool}(h:mX sz lf la w k p)(hb:U2 sz lf lb)(hab:lb.length=la.length):cal env 31 [Bg (Bh sz lf lb),Am (uZ w)]=some [(Am (MP w fun n=>(iq lb k).getD n.toNat 0),false),(.int .i64 0,false)]:=by
 obtain ⟨h1,h2⟩:=hb.len
 obtain ⟨d1,d2,d3⟩:=jk h1 h2
 obtain ⟨c1,c2⟩:=h.cdl
 obtain ⟨p1,p2,p3,p4,p5⟩:=h.pl
 have hk:=h.kd
 have hll:=dI lb
 rw [hab] at hll
 have ht:=h.t
 have e1:=Wv hb
 rw [lG] at e1
 have e2:=U7 (l:=w.pend) (size:=(cd la.length k:Int)) p3 (by omega)
 rw [p4] at e2
 have e3:=akv (l:=(uT w.pend).map eI) (n:=2) (by omega)
 have e3:cal env 105 [.list 1 ((uT w.pend).map eI),.int .i64 2]=some [(.func 195 [.cu [.list 1 ((uT w.pend).map eI)] 0,.cu [.int .i64 2] 0],false)]:=e3
 have hit:=ag8 (l:=(uT w.pend).map eI) (n:=2) (by rw [Z3,o7];omega) (by omega)
 have e4:=ahs (es:=(vals w).map eI) (by rw [Z3];unfold vals;rw [zd,zd,o7];unfold lim;omega)
 have hit2:=Wp (l:=w.pend) (by omega) (fun x hx=>by have:=p5 x hx;omega)
 have e5:=ad2 (l:=w.pend.map aZ)
 obtain ⟨L,hL⟩:∃ L,L=iq lb k:=⟨_,rfl⟩
 obtain ⟨g,hg⟩:∃ g:Int→Int,g=fun n=>L.getD n.toNat 0:=⟨_,rfl⟩
 have hLn:L.length=cd la.length k:=by rw [hL,fE,hab]
 rw [← hL,← hg]
 have hx:((fG lb).map iJ)[k]?=some (.list 1 (L.map eU)):=by rw [zc,ZD (by omega),nM,hL];rfl
 have eV:vals w=sz::lf::uT w.pend:=by unfold vals;rw [ht];rfl
 have eVm:(vals w).map eI=.int .i64 sz::.int .i64 lf::(uT w.pend).map eI:=by rw [eV];rfl
 have hvl:(uT w.pend).length=2*w.pend.length:=o7 _
 have jC:=h.nO
 have E13:((13:Int) != 13)=false:=rfl
 have Z:((0:Int) != 0)=false:=rfl
 have F1:(((2*w.pend.length+1+1:Nat):Int)<2)=False:=eq_false (by omega)
 have T1:((2*w.pend.length+1+1:Nat):Int).tmod 2=0:=by rw [Int.tmod_eq_emod_of_nonneg (by omega)];omega
 have z2:((2:Int)=0)=False:=eq_false (by decide)
 have E01:((0:Int)==1)=false:=rfl
 have N1:(sz != sz)=false:=by simp
 have N2:(lf != lf)=false:=by simp
 have F2:((k:Int)<0)=False:=eq_false (by omega)
 have F3:((k:Int) ≥ ((fG lb).length:Int))=False:=eq_false (by omega)
 have i0:index (.int .i64 0) (2*w.pend.length+1+1)=some 0:=au (n:=2*w.pend.length+1+1) (i:=0) (by omega)
 have i1:index (.int .i64 1) (2*w.pend.length+1+1)=some 1:=au (n:=2*w.pend.length+1+1) (i:=1) (by omega)
 have ik:index (.int .i64 (k:Int)) (fG lb).length=some k:=au (by omega)
 have em:Am (uZ w)=.agg [.int .i64 13,.int .i64 0,.int .i64 0,.int .i64 (k:Int),.int .i64 0,.int .i64 0,.list 1 (.int .i64 sz::.int .i64 lf::(uT w.pend).map eI),.list 1 []]:=by rw [← eVm,← jC];rfl
 have B1:((0:Int)≤2∧(2:Int)≤((2*w.pend.length+1+1:Nat):Int))=True:=eq_true (by omega)
 have T2:Int.toNat 2=2:=rfl
 have D2:∀ (a b:PV) (l:List PV),List.drop 2 (a::b::l)=l:=fun _ _ _=>rfl
 have K2:List.take (2*w.pend.length+1+1 - 2) ((uT w.pend).map eI)=(uT w.pend).map eI:=List.take_of_length_le (by rw [Z3,hvl];omega)
 rw [lG,em]
 rw [aA amB rfl];simp only [abV,aW,Nat.reduceBEq,Nat.reduceLeDiff,Nat.reduceAdd,zd,zj]
 simp only [e1,e3,B1,T2,D2,K2,P3,P8,E13,Z,F1,T1,z2,E01,N1,N2,F2,F3,i0,i1,ik,hvl,Z3,zd,aC,Nat.reduceMul,Nat.reduceBEq,Nat.reduceLT,Nat.reduceLeDiff,reduceCtorEq,Nat.reduceEqDiff,Nat.reduceAdd,Z6]
 rw [uz (env:=env) (aht sz lf lb w) (xs:=yC 1 (chk 2 ((uT w.pend).map eI))) rfl hit ?_ ?_]
 rotate_left
 ·simp only [aht,sW,JV,jO,eVm,jC,Zbn,Zar]
  first|done|rfl
 ·intro j x hx sl0
  have hj:=(zb.1 hx).1
  have hl1:(yC 1 (chk 2 ((uT w.pend).map eI))).length=w.pend.length:=by unfold yC;rw [Z3,MQ]
  rw [hl1] at hj
  have hjc:j<(chk 2 ((uT w.pend).map eI)).length:=by rw [MQ];exact hj
  obtain rfl:x=[.list 1 [.int .i64 w.pend[j].start,.int .i64 w.pend[j].count]]:=by
   unfold yC at hx
   rw [zc,ZD hjc,MF,ahr hj] at hx
   simpa using hx.symm
  have F4:((w.pend.take j).length+1≤lim)=True:=eq_true (by rw [Zaa];unfold lim;omega)
  have htk:(w.pend.take (j+1)).map aZ=(w.pend.take j).map aZ++[.agg [.int .i64 w.pend[j].start,.int .i64 w.pend[j].count]]:=by rw [take_snoc hj,Zag];rfl
  have j0:index (.int .i64 0) 2=some 0:=rfl
  have j1:index (.int .i64 1) 2=some 1:=rfl
  have P2:∀ a b:PV,part [a,b] 0 (some 2)=some (.agg [a,b]):=fun _ _=>rfl
  refine ⟨?_,?_⟩
  rotate_left
  ·simp only [VR,VT,aht,sW,JV,jO,htk,F4,j0,j1,P2,Z3,aC,Nat.reduceMul,Nat.reduceBEq,Nat.reduceLT,Nat.reduceLeDiff,xJ,reduceCtorEq,Nat.reduceEqDiff,Nat.reduceAdd,Z6]
   rfl
 have hl1:(yC 1 (chk 2 ((uT w.pend).map eI))).length=w.pend.length:=by unfold yC;rw [Z3,MQ]
 rw [eVm] at e4
 simp only [hl1,aht,Zas,sW,JV,jO,eVm,jC,hx,hLn,e2,e4,e5,ik,P3,P8,E13,Z,Z3,zd,aC,Nat.reduceMul,Nat.reduceBEq,Nat.reduceLT,Nat.reduceLeDiff,xJ,reduceCtorEq,Nat.reduceEqDiff,Nat.reduceAdd,Z6]
 have hnum:fU w.pend=(dZ p (cd la.length k)).map fun (i:Nat)=>(i:Int):=by rw [h.pend];exact Ac p _
 have hnl:(fU w.pend).length≤4096:=by rw [hnum,Z3];have:=jD p (cd la.length k);omega
 rw [uz (env:=env) (ahu sz lf lb w L g) (xs:=yN (fU w.pend)) rfl hit2 ?_ ?_]
 rotate_left
 ·simp only [ahu,sW,JV,jO,eVm,jC,Zbn]
  first|done|rfl
 ·intro j x hx sl0
  simp only [yN,zc,Zao] at hx
  obtain ⟨n,hb',rfl⟩:=hx
  obtain ⟨hj,hnj⟩:=zb.1 hb'
  have hnm:n∈fU w.pend:=by rw [← hnj];exact Zap hj
  obtain ⟨n0,n1⟩:0≤n∧n<(L.length:Int):=by
   rw [hnum] at hnm
   obtain ⟨i,hi,rfl⟩:=ZaS.1 hnm
   have:=(mQ.1 hi).1
   rw [hLn];omega
  have hi:n.toNat<L.length:=by omega
  have hgn:g n=L[n.toNat]:=by rw [hg];show L.getD _ _=_;rw [List.getD_eq_getElem?_getD,ZD hi];rfl
  have hxn:(L.map eU)[n.toNat]?=some (.int .u64 (g n)):=by rw [zc,ZD hi,hgn];rfl
  have hI:index (.int .i64 n) L.length=some n.toNat:=A8 n0 n1
  have q1:=adZ (d:=g n)
  have htk:(xP g ((fU w.pend).take (j+1))).map jG=(xP g ((fU w.pend).take j)).map jG++(oZ (g n)).map jG:=by
   rw [take_snoc hj,hnj,ahq,Zag]
   congr 1
  have F4:((xP g ((fU w.pend).take j)).length+(oZ (g n)).length≤lim)=True:=eq_true (by rw [rF,wC,Zaa];unfold lim;omega)
  refine ⟨?_,?_⟩
  rotate_left
  ·simp only [VU,VW,ahu,sW,JV,jO,htk,F4,hxn,hI,q1,Z3,aC,Nat.reduceMul,Nat.reduceBEq,Nat.reduceLT,Nat.reduceLeDiff,xJ,reduceCtorEq,Nat.reduceEqDiff,Nat.reduceAdd,Z6]
   rfl
 have hl2:(yN (fU w.pend)).length=(fU w.pend).length:=by simp [yN]
 have er:Am (MP w g)=.agg [.int .i64 14,.int .i64 0,.int .i64 0,.int .i64 (k:Int),.int .i64 0,.int .i64 0,.list 1 (.int .i64 sz::.int .i64 lf::(uT w.pend).map eI),.list 1 ((xP g (fU w.pend)).map jG)]:=by rw [← eVm,← jC];rfl
 rw [er]
 simp only [hl2,ahu,Zas,sW,JV,jO,eVm,jC,P8,aC,Nat.reduceMul,Nat.reduceBEq,Nat.reduceLT,Nat.reduceLeDiff,xJ,reduceCtorEq,Nat.reduceEqDiff,Nat.reduceAdd,Z6]
end Go.Proofs.YthccglceomoboaaGreatDoor.V
