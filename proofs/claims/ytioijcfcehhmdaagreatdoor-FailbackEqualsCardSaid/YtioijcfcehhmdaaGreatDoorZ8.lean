/-
  Part 8 of the texts that the statement stands on.
-/
import Derived.Test.YtioijcfcehhmdaaGreatDoorZ7
set_option linter.all false
open List renaming getElem?_eq_getElem → ZS, length_map → Z2, length_cons → za, getElem?_map → zb, length_nil → zd, drop_eq_getElem_cons → zw, getElem_mem → zR, length_take → Zac, mem_cons → Zaf, map_nil → Zai, map_cons → Zaj, not_mem_nil → Zas, mem_singleton → Zav, append_nil → ZaE, take_length → ZaI, mem_append → Zbb
open Nat renaming beq → Z1, le_refl → ze
open Bool renaming false_eq_true → zg, true_and → zm, and_self → zt, and_false → Zbi, not_false → ZbL, and_true → ZbY, not_true → ZbZ, false_or → Zcg
open Option renaming map_some → Zah
open Int renaming lt_irrefl → Zap, toNat_natCast → ZaG
namespace Go.Proofs.YtioijcfcehhmdaaGreatDoor.V
structure amH where
 d0:Int
 d1:Int
 st:Int
 ins:Bool
 out:List cZ
def oq (keep:Bool→Bool→Bool)(x:End)(same:Bool)(s:amH):amH :=
 if same then ⟨if x.list=0 then s.d0+x.step else s.d0,if x.list=1 then s.d1+x.step else s.d1,s.st,s.ins,s.out⟩
 else ⟨if x.list=0 then s.d0+x.step else s.d0,if x.list=1 then s.d1+x.step else s.d1,
  if keep (decide ((if x.list=0 then s.d0+x.step else s.d0) > 0)) (decide ((if x.list=1 then s.d1+x.step else s.d1) > 0))&&!s.ins then x.pos else s.st,
  keep (decide ((if x.list=0 then s.d0+x.step else s.d0) > 0)) (decide ((if x.list=1 then s.d1+x.step else s.d1) > 0)),
  s.out++(if !keep (decide ((if x.list=0 then s.d0+x.step else s.d0) > 0)) (decide ((if x.list=1 then s.d1+x.step else s.d1) > 0))&&s.ins then [⟨s.st,x.pos - s.st⟩] else [])⟩
def kJ (keep:Bool→Bool→Bool)(L:List End):Nat→amH
 |0=>⟨0,0,0,false,[]⟩
 |i+1=>match L[i]? with
  |some x=>oq keep x (jX x (L.drop (i+1))) (kJ keep L i)
  |none=>kJ keep L i
theorem Ed {keep:Bool→Bool→Bool}{L:List End}{i:Nat}{x:End}(h:L[i]?=some x):kJ keep L (i+1)=oq keep x (jX x (L.drop (i+1))) (kJ keep L i):=by
 show (match L[i]? with
  |some x=>oq keep x (jX x (L.drop (i+1))) (kJ keep L i)
  |none=>kJ keep L i)=_
 rw [h]
theorem YS (keep:Bool→Bool→Bool)(L:List End):∀ i,i≤L.length→(kJ keep L i).out++DZ keep (L.drop i) (kJ keep L i).d0 (kJ keep L i).d1 (kJ keep L i).st (kJ keep L i).ins=DZ keep L 0 0 0 false
 |0,_=>rfl
 |i+1,hi=>by
  have ih:=YS keep L i (by omega)
  have hx:L[i]?=some L[i]:=ZS (by omega)
  rw [← ih,Ed hx,zw (show i<L.length by omega)]
  generalize L[i]=x
  generalize kJ keep L i=s
  conv=>rhs;unfold DZ
  unfold oq
  cases jX x (L.drop (i+1)) with
  |true=>rfl
  |false=>simp only [zg,if_false,List.append_assoc]
theorem afI (keep:Bool→Bool→Bool)(L:List End):(kJ keep L L.length).out=DZ keep L 0 0 0 false:=by
 have:=YS keep L L.length (ze _)
 rw [List.drop_length] at this
 simpa [DZ] using this
theorem JC {keep:Bool→Bool→Bool}{L:List End}(h:∀ x∈L,(x.step=1∨x.step=-1)∧x.pos≤4096):∀ i:Nat,(-(i:Int)≤(kJ keep L i).d0∧(kJ keep L i).d0≤i)∧(-(i:Int)≤(kJ keep L i).d1∧(kJ keep L i).d1≤i)∧(0≤(kJ keep L i).st∧(kJ keep L i).st≤4096)
 |0=>by simp [kJ]
 |i+1=>by
  obtain ⟨h1,h2,h3⟩:=JC (keep:=keep) h i
  cases hx:L[i]? with
  |none =>
   have:kJ keep L (i+1)=kJ keep L i:=by
    show (match L[i]? with
     |some x=>oq keep x (jX x (L.drop (i+1))) (kJ keep L i)
     |none=>kJ keep L i)=_
    rw [hx]
   rw [this]
   omega
  |some x =>
   rw [Ed hx]
   obtain ⟨k1,k2⟩:=h x (List.mem_of_getElem? hx)
   generalize kJ keep L i=s at *
   unfold oq
   split
   ·simp only
    refine ⟨?_,?_,h3⟩
    ·split<;>omega
    ·split<;>omega
   ·simp only
    refine ⟨?_,?_,?_⟩
    ·split<;>omega
    ·split<;>omega
    ·split<;>omega
def yE (l:List cZ):List (List PV):=l.map fun x=>[cO x]
theorem Ql (l m:List cZ):yE (l++m)=yE l++yE m:=by simp [yE]
theorem YT (n m:Nat):((n:Int)==(m:Int))=decide (n=m):=by
 by_cases h:n=m
 ·subst h;simp
 ·rw [decide_eq_false h];simp;omega
set_option maxRecDepth 20000 in
set_option maxHeartbeats 2000000 in
theorem ai6 {keep:Bool→Bool→Bool}{kf:Nat}(hk:∀ p q,cal env kf [.bool p,.bool q]=some [(.bool (keep p q),false)]){L:List End}(hL:∀ x∈L,((x.step=1∨x.step=-1)∧x.pos≤4096)∧x.list<2)(hl:L.length≤1000000)
  {st:St} (h:st.head [0,3,5,6,7,8,15,16,17,18] st.boxes.length=some ⟨sl 80 [(0,.tq),(3,.pv (.dM [.func kf []] 0)),(5,.row 3 (L.map jA)),(6,.aO 0 0),(7,.pv (.int .i64 0)),(8,.pv (.bool false)),(15,.any),(16,.ref (.slot 5) 0 L.length),(17,.pv (.int .i64 L.length)),(18,.pv (.int .i64 (0:Nat)))],[⟨false,[.pv (.int .i64 0),.pv (.int .i64 0)]⟩],[],some none⟩) :
  den env IC st=some (.normal,⟨sl 80 [],[⟨false,[.pv (.int .i64 (kJ keep L L.length).d0),.pv (.int .i64 (kJ keep L L.length).d1)]⟩],yE (kJ keep L L.length).out,some none⟩):=by
 unfold IC
 have hlim:lim=1073741824:=rfl
 have hsm:=JC (keep:=keep) fun x hx=>(hL x hx).1
 refine bM (env:=env) L.length (fun i=>⟨sl 80 [(0,.tq),(3,.pv (.dM [.func kf []] 0)),(5,.row 3 (L.map jA)),(6,.aO 0 0),(7,.pv (.int .i64 (kJ keep L i).st)),(8,.pv (.bool (kJ keep L i).ins)),(15,.any),(16,.ref (.slot 5) 0 L.length),(17,.pv (.int .i64 L.length)),(18,.pv (.int .i64 i))],[⟨false,[.pv (.int .i64 (kJ keep L i).d0),.pv (.int .i64 (kJ keep L i).d1)]⟩],yE (kJ keep L i).out,some none⟩) (fun _=>some (.normal,⟨sl 80 [],[⟨false,[.pv (.int .i64 (kJ keep L L.length).d0),.pv (.int .i64 (kJ keep L L.length).d1)]⟩],yE (kJ keep L L.length).out,some none⟩)) h (fun _=>rfl) (fun _=>by simp only [aG,bJ,Nat.reduceMul,Nat.reduceBEq,Nat.reduceLT,Nat.reduceLeDiff,Nat.reduceAdd,decide_true,zt,zm]) ?_ ?_
 ·intro i rb hi ih
  have hi1:=bF hi (by omega)
  have F1:((i:Int)<(L.length:Int))=True:=eq_true (by omega)
  have hx:L[i]?=some L[i]:=ZS hi
  obtain ⟨⟨x1,x2⟩,x3⟩:=hL _ (zR hi)
  have apw:=Ed (keep:=keep) hx
  obtain ⟨⟨s1,s2⟩,⟨s3,s4⟩,s5,s6⟩:=hsm i
  rw [apw] at ih
  clear apw
  generalize L[i]=x at *
  generalize hs:kJ keep L i=s at *
  obtain ⟨d0,d1,sp,ins,out⟩:=s
  obtain ⟨p,k,t⟩:=x
  simp only at x1 x2 x3 s1 s2 s3 s4 s5 s6 ih
  have hlist:k=0∨k=1:=by omega
  have W0:IntKind.i64.wrap (d0+t)=d0+t:=bn (by omega)
  have W1:IntKind.i64.wrap (d1+t)=d1+t:=bn (by omega)
  have W2:IntKind.i64.wrap ((p:Int) - sp)=(p:Int) - sp:=bn (by omega)
  have I0:index (.int .i64 0) 2=some 0:=rfl
  have I1:index (.int .i64 1) 2=some 1:=rfl
  have IN0:index (.int .i64 ((0:Nat):Int)) 2=some 0:=rfl
  have IN1:index (.int .i64 ((1:Nat):Int)) 2=some 1:=rfl
  have P3:∀ a b c:PV,part [a,b,c] 0 (some 3)=some (.agg [a,b,c]):=fun a b c=>rfl
  -- the next end
  have hnx:(∃ y,L[i+1]?=some y∧jX ⟨p,k,t⟩ (L.drop (i+1))=decide (y.pos=p)∧(((i+1:Nat):Int)<(L.length:Int))∧index (.int .i64 ((i+1:Nat):Int)) L.length=some (i+1))∨(jX ⟨p,k,t⟩ (L.drop (i+1))=false∧¬ (((i+1:Nat):Int)<(L.length:Int))):=by
   by_cases hlt:i+1<L.length
   ·left
    refine ⟨L[i+1],ZS hlt,?_,by omega,au hlt⟩
    rw [zw hlt];rfl
   ·right
    refine ⟨?_,by omega⟩
    rw [List.drop_eq_nil_of_le (by omega)];rfl
  rcases hlist with rfl|rfl
  ·-- list 0
   have e1:=hk (decide (d0+t > 0)) (decide (d1 > 0))
   have same:oq keep ⟨p,0,t⟩ true ⟨d0,d1,sp,ins,out⟩=⟨d0+t,d1,sp,ins,out⟩:=by simp [oq]
   have diff:oq keep ⟨p,0,t⟩ false ⟨d0,d1,sp,ins,out⟩=⟨d0+t,d1,if keep (decide (d0+t > 0)) (decide (d1 > 0))&&!ins then (p:Int) else sp,keep (decide (d0+t > 0)) (decide (d1 > 0)),out++(if !keep (decide (d0+t > 0)) (decide (d1 > 0))&&ins then [⟨sp,(p:Int) - sp⟩] else [])⟩:=by simp [oq]
   rcases hnx with ⟨y,hy,hns,hlt,hix⟩|⟨hns,hlt⟩
   ·have F2:(((i+1:Nat):Int)<(L.length:Int))=True:=eq_true hlt
    rw [hns] at ih
    have B:=YT y.pos p
    generalize hb:decide (y.pos=p)=b at ih B
    cases b with
    |true =>
     rw [same] at ih
     simp only [ql,F1,hx,hi1,W0,W1,W2,I0,I1,IN0,IN1,P3,jA,au hi,zb,Zah,Z2,za,zd,F2,hy,hix,B,aF,Nat.reduceMul,Nat.reduceBEq,Nat.reduceLT,Nat.reduceLeDiff,reduceCtorEq,Nat.reduceEqDiff,Nat.reduceAdd,Z1]
     rw [ih _ (by simp only [hi1,aF,Nat.reduceMul,Nat.reduceBEq,Nat.reduceLT,Nat.reduceLeDiff,reduceCtorEq,Nat.reduceEqDiff,Nat.reduceAdd,Z1]<;>rfl)]
    |false =>
     rw [diff] at ih
     generalize keep (decide (d0+t > 0)) (decide (d1 > 0))=now at *
     cases now<;>cases ins<;>simp only [ZbZ,ZbL,ZbY,Zbi,zt,zg,if_true,if_false,ZaE,Ql] at ih<;>simp only [ql,F1,hx,hi1,W0,W1,W2,I0,I1,IN0,IN1,P3,jA,au hi,zb,Zah,Z2,za,zd,F2,hy,hix,B,e1,aF,Nat.reduceMul,Nat.reduceBEq,Nat.reduceLT,Nat.reduceLeDiff,reduceCtorEq,Nat.reduceEqDiff,Nat.reduceAdd,Z1]<;>rw [ih _ (by simp only [hi1,yE,Zaj,Zai,cO,aF,Nat.reduceMul,Nat.reduceBEq,Nat.reduceLT,Nat.reduceLeDiff,reduceCtorEq,Nat.reduceEqDiff,Nat.reduceAdd,Z1]<;>rfl)]
   ·have F2:(((i+1:Nat):Int)<(L.length:Int))=False:=eq_false hlt
    rw [hns,diff] at ih
    generalize keep (decide (d0+t > 0)) (decide (d1 > 0))=now at *
    cases now<;>cases ins<;>simp only [ZbZ,ZbL,ZbY,Zbi,zt,zg,if_true,if_false,ZaE,Ql] at ih<;>simp only [ql,F1,hx,hi1,W0,W1,W2,I0,I1,IN0,IN1,P3,jA,au hi,zb,Zah,Z2,za,zd,F2,e1,aF,Nat.reduceMul,Nat.reduceBEq,Nat.reduceLT,Nat.reduceLeDiff,reduceCtorEq,Nat.reduceEqDiff,Nat.reduceAdd,Z1]<;>rw [ih _ (by simp only [hi1,yE,Zaj,Zai,cO,aF,Nat.reduceMul,Nat.reduceBEq,Nat.reduceLT,Nat.reduceLeDiff,reduceCtorEq,Nat.reduceEqDiff,Nat.reduceAdd,Z1]<;>rfl)]
  ·-- list 1
   have e1:=hk (decide (d0 > 0)) (decide (d1+t > 0))
   have same:oq keep ⟨p,1,t⟩ true ⟨d0,d1,sp,ins,out⟩=⟨d0,d1+t,sp,ins,out⟩:=by simp [oq]
   have diff:oq keep ⟨p,1,t⟩ false ⟨d0,d1,sp,ins,out⟩=⟨d0,d1+t,if keep (decide (d0 > 0)) (decide (d1+t > 0))&&!ins then (p:Int) else sp,keep (decide (d0 > 0)) (decide (d1+t > 0)),out++(if !keep (decide (d0 > 0)) (decide (d1+t > 0))&&ins then [⟨sp,(p:Int) - sp⟩] else [])⟩:=by simp [oq]
   rcases hnx with ⟨y,hy,hns,hlt,hix⟩|⟨hns,hlt⟩
   ·have F2:(((i+1:Nat):Int)<(L.length:Int))=True:=eq_true hlt
    rw [hns] at ih
    have B:=YT y.pos p
    generalize hb:decide (y.pos=p)=b at ih B
    cases b with
    |true =>
     rw [same] at ih
     simp only [ql,F1,hx,hi1,W0,W1,W2,I0,I1,IN0,IN1,P3,jA,au hi,zb,Zah,Z2,za,zd,F2,hy,hix,B,aF,Nat.reduceMul,Nat.reduceBEq,Nat.reduceLT,Nat.reduceLeDiff,reduceCtorEq,Nat.reduceEqDiff,Nat.reduceAdd,Z1]
     rw [ih _ (by simp only [hi1,aF,Nat.reduceMul,Nat.reduceBEq,Nat.reduceLT,Nat.reduceLeDiff,reduceCtorEq,Nat.reduceEqDiff,Nat.reduceAdd,Z1]<;>rfl)]
    |false =>
     rw [diff] at ih
     generalize keep (decide (d0 > 0)) (decide (d1+t > 0))=now at *
     cases now<;>cases ins<;>simp only [ZbZ,ZbL,ZbY,Zbi,zt,zg,if_true,if_false,ZaE,Ql] at ih<;>simp only [ql,F1,hx,hi1,W0,W1,W2,I0,I1,IN0,IN1,P3,jA,au hi,zb,Zah,Z2,za,zd,F2,hy,hix,B,e1,aF,Nat.reduceMul,Nat.reduceBEq,Nat.reduceLT,Nat.reduceLeDiff,reduceCtorEq,Nat.reduceEqDiff,Nat.reduceAdd,Z1]<;>rw [ih _ (by simp only [hi1,yE,Zaj,Zai,cO,aF,Nat.reduceMul,Nat.reduceBEq,Nat.reduceLT,Nat.reduceLeDiff,reduceCtorEq,Nat.reduceEqDiff,Nat.reduceAdd,Z1]<;>rfl)]
   ·have F2:(((i+1:Nat):Int)<(L.length:Int))=False:=eq_false hlt
    rw [hns,diff] at ih
    generalize keep (decide (d0 > 0)) (decide (d1+t > 0))=now at *
    cases now<;>cases ins<;>simp only [ZbZ,ZbL,ZbY,Zbi,zt,zg,if_true,if_false,ZaE,Ql] at ih<;>simp only [ql,F1,hx,hi1,W0,W1,W2,I0,I1,IN0,IN1,P3,jA,au hi,zb,Zah,Z2,za,zd,F2,e1,aF,Nat.reduceMul,Nat.reduceBEq,Nat.reduceLT,Nat.reduceLeDiff,reduceCtorEq,Nat.reduceEqDiff,Nat.reduceAdd,Z1]<;>rw [ih _ (by simp only [hi1,yE,Zaj,Zai,cO,aF,Nat.reduceMul,Nat.reduceBEq,Nat.reduceLT,Nat.reduceLeDiff,reduceCtorEq,Nat.reduceEqDiff,Nat.reduceAdd,Z1]<;>rfl)]
 ·intro rb
  simp only [ql,Zap,aF,Nat.reduceMul,Nat.reduceBEq,Nat.reduceLT,Nat.reduceLeDiff,reduceCtorEq,Nat.reduceEqDiff,Nat.reduceAdd,Z1]
def setOf (keep:Bool→Bool→Bool)(a b:List cZ):List cZ:=ext (fun s=>keep (mM a s) (mM b s)) 4096
theorem Qm {α:Type}{P:α→Prop}{a b:α}(ha:P a)(hb:P b):∀ l∈[a,b],P l:=by
 intro l hl
 simp only [Zaf,Zas,or_false] at hl
 rcases hl with rfl|rfl
 ·exact ha
 ·exact hb
theorem UW {i s:Nat}{l m:List End}(h:l.Perm m):dep i s l=dep i s m:=by
 induction h with
 |nil=>rfl
 |cons x _ ih=>simp only [dep,ih]
 |swap x y l=>simp only [dep];omega
 |trans _ _ h1 h2=>exact h1.trans h2
theorem afJ {i:Nat}{l m:List End}(h:l.Perm m):tot i l=tot i m:=by
 induction h with
 |nil=>rfl
 |cons x _ ih=>simp only [tot,ih]
 |swap x y l=>simp only [tot];omega
 |trans _ _ h1 h2=>exact h1.trans h2
theorem wP (i:Nat)(e:cZ)(l:List cZ):gy i (e::l)=(if (wX e).2.2 then [⟨(wX e).1.toNat,i,1⟩,⟨(wX e).2.1.toNat,i,-1⟩] else [])++gy i l:=by simp [gy]
theorem vG {i:Nat}:∀ {l:List cZ} {x:End},x∈gy i l→((x.step=1∨x.step=-1)∧x.pos≤4096)∧x.list=i
 |[],x,h=>by simp [gy] at h
 |e::l,x,h=>by
  rw [wP] at h
  rcases Zbb.1 h with h|h
  ·cases hw:(wX e).2.2 with
   |false=>rw [hw] at h;simp at h
   |true =>
    obtain ⟨n,m,hnm,h1,h2,-⟩:=Qk hw
    rw [hnm] at h
    simp only [if_true,ZaG,Zaf,Zas,or_false] at h
    rcases h with rfl|rfl
    ·exact ⟨⟨.inl rfl,by simp only;omega⟩,rfl⟩
    ·exact ⟨⟨.inr rfl,h2⟩,rfl⟩
  ·exact vG h
theorem Qn {i j:Nat}:∀ l:List cZ,tot j (gy i l)=0
 |[]=>rfl
 |e::l=>by
  rw [wP,BZ,Qn l]
  split
  ·simp only [tot];split<;>omega
  ·rfl
theorem Ee {i j s:Nat}(h:i≠j):∀ l:List cZ,dep j s (gy i l)=0
 |[]=>rfl
 |e::l=>by
  rw [wP,y9,Ee h l]
  split
  ·simp [dep,h]
  ·rfl
theorem Qo {i s:Nat}(hs:s<4096):∀ l:List cZ,0≤dep i s (gy i l)∧(dep i s (gy i l) > 0 ↔ mM l s=true)
 |[]=>by simp [gy,dep,mM]
 |e::l=>by
  obtain ⟨h1,h2⟩:=Qo (i:=i) hs l
  rw [wP,y9]
  have h3:mM (e::l) s=(KX e s || mM l s):=rfl
  rw [h3]
  cases hw:(wX e).2.2 with
  |false =>
   rw [afF hw hs]
   simp only [zg,if_false,dep,Int.zero_add,Zcg]
   exact ⟨h1,h2⟩
  |true =>
   obtain ⟨n,m,hnm,g1,g2,g3⟩:=Qk hw
   have g4:=g3 s hs
   rw [hnm]
   simp only [if_true,ZaG,dep,true_and]
   cases hin:KX e s with
   |false =>
    rw [Zcg,← h2]
    have:¬ (n≤s∧s<m):=fun h=>by rw [g4.2 h] at hin;cases hin
    split<;>split<;>omega
   |true =>
    obtain ⟨k1,k2⟩:=g4.1 hin
    rw [if_pos k1,if_neg (by omega)]
    simp only [Bool.true_or,iff_true]
    omega
theorem afK:∀ {l:List End},(∀ i j:Nat,i<j→j<l.length→¬ l[j]!.pos<l[i]!.pos)→Asc l
 |[],_=>trivial
 |[x],_=>trivial
 |x::y::l,h=>by
  refine ⟨?_,afK fun i j hij hj=>?_⟩
  ·have:=h 0 1 (by omega) (by simp)
   simp at this
   omega
  ·have:=h (i+1) (j+1) (by omega) (by simp at hj ⊢;omega)
   simpa using this
theorem abB {keep:Bool→Bool→Bool}(hk:keep false false=false)(a b:List cZ):DZ keep (mQ [a,b]) 0 0 0 false=setOf keep a b:=by
 obtain ⟨h1,h2,h3⟩:=Aw (dJ 0 [a,b])
 have hr:dJ 0 [a,b]=gy 0 a++gy 1 b:=by simp [dJ]
 have hmem:∀ x∈mQ [a,b],x.pos≤4096:=fun x hx=>by
  have:=h1.mem_iff.1 hx
  rw [hr] at this
  rcases Zbb.1 this with q|q
  ·exact (vG q).1.2
  ·exact (vG q).1.2
 have ht:∀ j,tot j (mQ [a,b])=0:=fun j=>by
  unfold mQ
  rw [afJ h1,hr,BZ,Qn,Qn];rfl
 have hasc:Asc (mQ [a,b]):=afK fun i j hij hj=>h3 i j hij (by unfold mQ at hj;omega)
 rw [aeW hk hasc hmem (ht 0) (ht 1)]
 unfold setOf
 apply rH
 intro s hs
 unfold lD mQ
 rw [UW h1,UW h1,hr,y9,y9,Ee (i:=1) (j:=0) (by decide),Ee (i:=0) (j:=1) (by decide),Int.add_zero,Int.zero_add]
 have e1:=(Qo (i:=0) hs a).2
 have e2:=(Qo (i:=1) hs b).2
 have f1:decide (dep 0 s (gy 0 a) > 0)=mM a s:=by
  cases h:mM a s
  ·exact decide_eq_false fun q=>by rw [e1.1 q] at h;cases h
  ·exact decide_eq_true (e1.2 h)
 have f2:decide (dep 1 s (gy 1 b) > 0)=mM b s:=by
  cases h:mM b s
  ·exact decide_eq_false fun q=>by rw [e2.1 q] at h;cases h
  ·exact decide_eq_true (e2.2 h)
 rw [f1,f2]
set_option maxRecDepth 20000 in
theorem ai7 {keep:Bool→Bool→Bool}(h0:keep false false=false){kf:Nat}(hk:∀ p q,cal env kf [.bool p,.bool q]=some [(.bool (keep p q),false)]){a b:List cZ}(ha:Au a)(hb:Au b)(la:a.length≤10000)(lb:b.length≤10000) :
  iter env 119 [.dM [.list 2 (a.map cO)] 0,.dM [.list 2 (b.map cO)] 0,.dM [.func kf []] 0] none=some (yE (setOf keep a b)):=by
 have hlim:lim=1073741824:=rfl
 obtain ⟨h1,h2,h3⟩:=Aw (dJ 0 [a,b])
 have hr:dJ 0 [a,b]=gy 0 a++gy 1 b:=by simp [dJ]
 have hp:=um (n:=10000) [a,b] 0 (Qm la lb)
 have e1:=amF (ls:=[a,b]) (Qm ha hb) (Qm la lb) (by simp) h2
 have hE:(mQ [a,b]).length≤1000000:=by unfold mQ;rw [h2];simp at hp;omega
 have hm:∀ x∈mQ [a,b],((x.step=1∨x.step=-1)∧x.pos≤4096)∧x.list<2:=fun x hx=>by
  have:=h1.mem_iff.1 hx
  rw [hr] at this
  rcases Zbb.1 this with q|q
  ·have:=vG q;exact ⟨this.1,by omega⟩
  ·have:=vG q;exact ⟨this.1,by omega⟩
 have hres:=(afI keep (mQ [a,b])).trans (abB h0 a b)
 simp only [Zaj,Zai,mY] at e1
 have L2:(2≤lim)=True:=eq_true (by omega)
 rw [DW alD rfl rfl]
 have hy:P6 80 [.dM [.list 2 (a.map cO)] 0,.dM [.list 2 (b.map cO)] 0,.dM [.func kf []] 0] none=⟨sl 80 [(0,.tq),(1,.pv (.dM [.list 2 (a.map cO)] 0)),(2,.pv (.dM [.list 2 (b.map cO)] 0)),(3,.pv (.dM [.func kf []] 0))],[],[],some none⟩:=rfl
 simp only [TS]
 rw [hy]
 simp only [e1,L2,Z2,aF,Nat.reduceMul,Nat.reduceBEq,Nat.reduceLT,Nat.reduceLeDiff,reduceCtorEq,Nat.reduceEqDiff,Nat.reduceAdd,Z1]
 rw [ai6 hk hm hE (by simp only [aF,Nat.reduceMul,Nat.reduceBEq,Nat.reduceLT,Nat.reduceLeDiff,reduceCtorEq,Nat.reduceEqDiff,Nat.reduceAdd,Z1]<;>rfl)]
 rw [hres]
 rfl
theorem amI {g:Nat}{caps:List PV}{l:List cZ}(hi:iter env g caps none=some (yE l))(hl:l.length≤1000000):cal env 118 [.l9 2,.func g caps]=some [(.list 2 (l.map cO),true)]:=by
 have hlim:lim=1073741824:=rfl
 rw [ah alC rfl];simp only [TQ];simp only [start,aJ,aT,aH,aS,aB,aC,aI,aQ,Nat.reduceAdd,Nat.reduceSub]
 simp only [bg,reduceCtorEq,Nat.reduceEqDiff,Nat.reduceAdd,Nat.reduceLT,Nat.reduceLeDiff,Z1]
 rw [P7 (env:=env) (fun j=>[⟨false,[.row 2 ((l.take j).map cO)]⟩]) (xs:=yE l) rfl hi rfl ?_]
 ·simp only [yE,Z2,ZaI,FK,bg,reduceCtorEq,Nat.reduceEqDiff,Nat.reduceAdd,Nat.reduceLT,Nat.reduceLeDiff,Z1]
 ·intro j x hx sl0
  simp only [yE,zb,Option.map_eq_some_iff] at hx
  obtain ⟨e,he,rfl⟩:=hx
  have hj:=(List.getElem?_eq_some_iff.1 he).1
  have F3:((l.take j).length+1≤lim)=True:=eq_true (by rw [Zac];omega)
  have ht:l.take (j+1)=l.take j++[e]:=by rw [List.take_add_one,he];rfl
  rw [ht]
  refine ⟨?_,?_⟩
  rotate_left
  ·simp only [TN,TP,F3,cO,List.map_append,Zaj,Zai,FK,bg,reduceCtorEq,Nat.reduceEqDiff,Nat.reduceAdd,Nat.reduceLT,Nat.reduceLeDiff,Z1]
   rfl
theorem apx {g:Nat}{caps:List PV}{l:List cZ}(hi:iter env g caps none=some (yE l))(hl:l.length≤1000000):cal env 78 [.func g caps]=some [(.list 2 (l.map cO),true)]:=by
 have e1:=amI hi hl
 rw [ah aoT rfl];simp only [aek];simp only [start,aJ,aT,aH,aS,aB,aC,aI,aQ,Nat.reduceAdd,Nat.reduceSub]
 simp only [e1,bg,reduceCtorEq,Nat.reduceEqDiff,Nat.reduceAdd,Nat.reduceLT,Nat.reduceLeDiff,Z1]
def Vw (p q:Bool):Bool:=p || q
theorem abC (l:List cZ)(i:Nat):(wZ l i).length≤l.length+1:=by
 rcases jV l with rfl|⟨p,x,rfl⟩
 ·simp [wZ]
 ·rw [iE];split<;>simp
theorem Gx (p:Nat→Bool):∀ n,(ext p n).length≤n
 |0=>ze _
 |n+1=>by
  rw [og]
  have:=Gx p n
  have:=abC (ext p n) n
  split<;>omega
theorem vH (keep:Bool→Bool→Bool)(a b:List cZ):(setOf keep a b).length≤4096:=Gx _ _
theorem apy {a b:List PV}{kf:Nat}:cal env 79 [.list 2 a,.list 2 b,.func kf []]=some [(.func 119 [.dM [.list 2 a] 0,.dM [.list 2 b] 0,.dM [.func kf []] 0],false)]:=by
 rw [ah aoU rfl];simp only [ael,aG,Nat.reduceBEq,Nat.reduceLeDiff,Nat.reduceAdd,za,zd]
 simp only [aF,Nat.reduceMul,Nat.reduceBEq,Nat.reduceLT,Nat.reduceLeDiff,reduceCtorEq,Nat.reduceEqDiff,Nat.reduceAdd,Z1]
theorem apz (p q:Bool):cal env 81 [.bool p,.bool q]=some [(.bool (Vw p q),false)]:=by
 cases p<;>cases q<;>(rw [ah aoV rfl];simp only [aem,aG,Nat.reduceBEq,Nat.reduceLeDiff,Nat.reduceAdd,za,zd];simp only [aF,Nat.reduceMul,Nat.reduceBEq,Nat.reduceLT,Nat.reduceLeDiff,reduceCtorEq,Nat.reduceEqDiff,Nat.reduceAdd,Z1]<;>rfl)
theorem ako {a b:List cZ}(ha:Au a)(hb:Au b)(la:a.length≤10000)(lb:b.length≤10000):cal env 33 [.list 2 (a.map cO),.list 2 (b.map cO)]=some [(.list 2 ((setOf Vw a b).map cO),true)]:=by
 have e1:=apy (a:=a.map cO) (b:=b.map cO) (kf:=81)
 have hi:=ai7 (keep:=Vw) rfl (kf:=81) (fun p q=>apz p q) ha hb la lb
 have hlen:=vH Vw a b
 have e2:=apx hi (by omega)
 rw [ah aoD rfl];simp only [ad5,aG,Nat.reduceBEq,Nat.reduceLeDiff,Nat.reduceAdd,za,zd]
 simp only [e1,e2,aF,Nat.reduceMul,Nat.reduceBEq,Nat.reduceLT,Nat.reduceLeDiff,reduceCtorEq,Nat.reduceEqDiff,Nat.reduceAdd,Z1]
--+
theorem UY:Au []:=fun x hx=>by cases hx
def zi (l:List cZ):List cZ:=setOf Vw l []
def jB (l:List cZ):Int:=(l.map fun x=>x.count).sum
theorem zk (l:List cZ)(x:cZ):jB (l++[x])=jB l+x.count:=by simp [jB]
theorem Az (p:Nat→Bool)(n:Nat):(∀ x∈ext p n,0≤x.start∧1≤x.count∧x.start+x.count≤(n:Int)):=by
 induction n with
 |zero=>intro x hx;cases hx
 |succ n ih =>
  rw [og]
  split
  ·rcases jV (ext p n) with e|⟨pre,y,e⟩
   ·rw [e]
    intro x hx
    have:wZ [] n=[⟨(n:Int),1⟩]:=rfl
    rw [this] at hx
    simp only [Zav] at hx
    subst hx
    simp only;omega
   ·rw [e] at ih ⊢
    intro x hx
    rw [iE] at hx
    split at hx
    ·rcases Zbb.1 hx with h|h
     ·have:=ih x (by simp [h]);omega
     ·simp only [Zav] at h
      have:=ih y (by simp)
      subst h;simp only;omega
    ·rcases Zbb.1 hx with h|h
     ·have:=ih x h;omega
     ·simp only [Zav] at h
      subst h;simp only;omega
  ·intro x hx;have:=ih x hx;omega
theorem CO (p:Nat→Bool):∀ n,jB (ext p n)=(((List.range n).filter p).length:Int)
 |0=>rfl
 |n+1=>by
  have ih:=CO p n
  rw [og,List.range_succ,List.filter_append,List.length_append]
  cases h:p n with
  |false=>rw [List.filter_cons_of_neg (by simp [h])];simpa using ih
  |true =>
   rw [List.filter_cons_of_pos h,List.filter_nil,if_pos rfl]
   have:jB (wZ (ext p n) n)=jB (ext p n)+1:=by
    rcases jV (ext p n) with e|⟨pre,y,e⟩
    ·rw [e];rfl
    ·rw [e,iE]
     split
     ·rw [zk,zk];simp only;omega
     ·rw [zk]
   rw [this,ih];simp
theorem afL {l:List cZ}(h:∀ x∈l,0≤x.count∧x.count≤4096):∀ i,0≤jB (l.take i)∧jB (l.take i)≤4096*(l.take i).length:=by
 intro i
 have:∀ m:List cZ,(∀ x∈m,0≤x.count∧x.count≤4096)→0≤jB m∧jB m≤4096*m.length:=by
  intro m
  induction m with
  |nil=>intro _;simp [jB]
  |cons x m ih =>
   intro hm
   have h1:=hm x (by simp)
   have h2:=ih fun y hy=>hm y (by simp [hy])
   have:jB (x::m)=x.count+jB m:=by simp [jB]
   rw [this,za]
   omega
 exact this _ fun x hx=>h x (List.mem_of_mem_take hx)
theorem amJ {l:List cZ}(hl:l.length≤10000)(hc:∀ x∈l,0≤x.count∧x.count≤4096){st:St}(h:st.head [3,7,8,9] st.boxes.length=some ⟨sl 19 [(3,.pv (.int .i64 (jB (l.take ((0:Nat)))))),(7,.row 2 (l.map cO)),(8,.pv (.int .i64 l.length)),(9,.pv (.int .i64 (0:Nat)))],[],[],none⟩) :
  den env PL st=some (.normal,⟨sl 19 [(2,.any),(3,.pv (.int .i64 (jB l)))],[],[],none⟩):=by
 unfold PL
 refine bM (env:=env) (l.length) (fun i=>⟨sl 19 [(3,.pv (.int .i64 (jB (l.take (i))))),(7,.row 2 (l.map cO)),(8,.pv (.int .i64 l.length)),(9,.pv (.int .i64 i))],[],[],none⟩) (fun i=>some (.normal,⟨sl 19 [(2,.any),(3,.pv (.int .i64 (jB l)))],[],[],none⟩)) h (fun _=>rfl) (fun _=>by simp only [aG,bJ,Nat.reduceMul,Nat.reduceBEq,Nat.reduceLT,Nat.reduceLeDiff,Nat.reduceAdd,decide_true,zt,zm]) ?_ ?_
 ·intro i rb hi ih
  have hlim:lim=1073741824:=rfl
  have hi1:=bF hi (by omega)
  have F1:((i:Int)<(l.length:Int))=True:=eq_true (by omega)
  have hx:l[i]?=some l[i]:=ZS hi
  have ht:=Ar hi
  obtain ⟨t1,t2⟩:=afL hc i
  have hcx:=hc _ (zR hi)
  have hlt:(l.take i).length≤l.length:=by rw [Zac];omega
  generalize l[i]=x at *
  have P2:part [PV.int .i64 x.start,.int .i64 x.count] 0 (some 2)=some (.agg [.int .i64 x.start,.int .i64 x.count]):=rfl
  have W:IntKind.i64.wrap (jB (l.take i)+x.count)=jB (l.take i)+x.count:=bn (by omega)
  simp only [PK,F1,hx,cO,P2,W,au hi,zb,Zah,Z2,aF,Nat.reduceMul,Nat.reduceBEq,Nat.reduceLT,Nat.reduceLeDiff,reduceCtorEq,Nat.reduceEqDiff,Nat.reduceAdd,Z1]
  rw [ih _ (by simp only [hi1,ht,zk,aF,Nat.reduceMul,Nat.reduceBEq,Nat.reduceLT,Nat.reduceLeDiff,reduceCtorEq,Nat.reduceEqDiff,Nat.reduceAdd,Z1]<;>rfl)]
 ·intro rb
  simp only [PK,Zap,Z2,ZaI,aF,Nat.reduceMul,Nat.reduceBEq,Nat.reduceLT,Nat.reduceLeDiff,reduceCtorEq,Nat.reduceEqDiff,Nat.reduceAdd,Z1]
theorem apA {l:List cZ}(ho:Au l)(hl:l.length≤10000):cal env 82 [.list 2 (l.map cO)]=some [(.int .i64 (jB (zi l)),false)]:=by
 have e1:=ako ho UY hl (by simp)
 simp only [Zai] at e1
 have h1:=vH Vw l []
 have h2:=Az (fun s=>Vw (mM l s) (mM [] s)) 4096
 unfold zi
 have hc:∀ x∈setOf Vw l [],0≤x.count∧x.count≤4096:=fun x hx=>by have:=h2 x hx;omega
 generalize setOf Vw l []=r at *
 rw [ah aoW rfl];simp only [aen,aG,Nat.reduceBEq,Nat.reduceLeDiff,Nat.reduceAdd,za,zd]
 simp only [e1,Z2,aF,Nat.reduceMul,Nat.reduceBEq,Nat.reduceLT,Nat.reduceLeDiff,reduceCtorEq,Nat.reduceEqDiff,Nat.reduceAdd,Z1]
 rw [amJ (l:=r) (by omega) hc (by simp only [List.take_zero,jB,Zai,List.sum_nil,aF,Nat.reduceMul,Nat.reduceBEq,Nat.reduceLT,Nat.reduceLeDiff,reduceCtorEq,Nat.reduceEqDiff,Nat.reduceAdd,Z1]<;>rfl)]
 simp only [e1,Z2,aF,Nat.reduceMul,Nat.reduceBEq,Nat.reduceLT,Nat.reduceLeDiff,reduceCtorEq,Nat.reduceEqDiff,Nat.reduceAdd,Z1]
end Go.Proofs.YtioijcfcehhmdaaGreatDoor.V
