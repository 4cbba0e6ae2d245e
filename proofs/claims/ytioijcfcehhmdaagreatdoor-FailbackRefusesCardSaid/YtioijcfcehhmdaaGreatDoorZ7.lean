/-
  Part 7 of the texts that the statement stands on.
-/
import Derived.Test.YtioijcfcehhmdaaGreatDoorZ6
set_option linter.all false
namespace Go.Proofs.YtioijcfcehhmdaaGreatDoor.V
structure ajb where
 d0:Int
 d1:Int
 st:Int
 ins:Bool
 out:List eH
def mW (keep:Bool→Bool→Bool) (x:End) (same:Bool) (s:ajb):ajb :=
 if same then ⟨if x.list=0 then s.d0+x.step else s.d0,if x.list=1 then s.d1+x.step else s.d1,s.st,s.ins,s.out⟩
 else ⟨if x.list=0 then s.d0+x.step else s.d0,if x.list=1 then s.d1+x.step else s.d1,
  if keep (decide ((if x.list=0 then s.d0+x.step else s.d0) > 0)) (decide ((if x.list=1 then s.d1+x.step else s.d1) > 0))&&!s.ins then x.pos else s.st,
  keep (decide ((if x.list=0 then s.d0+x.step else s.d0) > 0)) (decide ((if x.list=1 then s.d1+x.step else s.d1) > 0)),
  s.out++(if !keep (decide ((if x.list=0 then s.d0+x.step else s.d0) > 0)) (decide ((if x.list=1 then s.d1+x.step else s.d1) > 0))&&s.ins then [⟨s.st,x.pos - s.st⟩] else [])⟩
def jM (keep:Bool→Bool→Bool) (L:List End):Nat→ajb
 |0=>⟨0,0,0,false,[]⟩
 |i+1=>match L[i]? with
  |some x=>mW keep x (jG x (L.drop (i+1))) (jM keep L i)
  |none=>jM keep L i
theorem BK {keep:Bool→Bool→Bool} {L:List End} {i:Nat} {x:End} (h:L[i]?=some x):jM keep L (i+1)=mW keep x (jG x (L.drop (i+1))) (jM keep L i):=by
 show (match L[i]? with
  |some x=>mW keep x (jG x (L.drop (i+1))) (jM keep L i)
  |none=>jM keep L i)=_
 rw [h]
theorem VF (keep:Bool→Bool→Bool) (L:List End):∀ i,i≤L.length→(jM keep L i).out++Bv keep (L.drop i) (jM keep L i).d0 (jM keep L i).d1 (jM keep L i).st (jM keep L i).ins=Bv keep L 0 0 0 false
 |0,_=>rfl
 |i+1,hi=>by
  have ih:=VF keep L i (by omega)
  have hx:L[i]?=some L[i]:=List.getElem?_eq_getElem (by omega)
  rw [← ih,BK hx,List.drop_eq_getElem_cons (show i<L.length by omega)]
  generalize L[i]=x
  generalize jM keep L i=s
  conv=>rhs;unfold Bv
  unfold mW
  cases jG x (L.drop (i+1)) with
  |true=>rfl
  |false=>simp only [Bool.false_eq_true,if_false,List.append_assoc]
theorem acM (keep:Bool→Bool→Bool) (L:List End):(jM keep L L.length).out=Bv keep L 0 0 0 false:=by
 have:=VF keep L L.length (Nat.le_refl _)
 rw [List.drop_length] at this
 simpa [Bv] using this
theorem Gu {keep:Bool→Bool→Bool} {L:List End} (h:∀ x∈L,(x.step=1∨x.step=-1)∧x.pos≤4096):∀ i:Nat,(-(i:Int)≤(jM keep L i).d0∧(jM keep L i).d0≤i)∧(-(i:Int)≤(jM keep L i).d1∧(jM keep L i).d1≤i)∧(0≤(jM keep L i).st∧(jM keep L i).st≤4096)
 |0=>by simp [jM]
 |i+1=>by
  obtain ⟨h1,h2,h3⟩:=Gu (keep:=keep) h i
  cases hx:L[i]? with
  |none =>
   have:jM keep L (i+1)=jM keep L i:=by
    show (match L[i]? with
     |some x=>mW keep x (jG x (L.drop (i+1))) (jM keep L i)
     |none=>jM keep L i)=_
    rw [hx]
   rw [this]
   omega
  |some x =>
   rw [BK hx]
   obtain ⟨k1,k2⟩:=h x (List.mem_of_getElem? hx)
   generalize jM keep L i=s at *
   unfold mW
   split
   ·simp only
    refine ⟨?_,?_,h3⟩
    ·split<;>omega
    ·split<;>omega
   ·simp only
    refine ⟨?_,?_,?_⟩
    ·split<;>omega
    ·split<;>omega
    ·split<;>omega
def yE (l:List eH):List (List PV):=l.map fun x=>[dW x]
theorem MC (l m:List eH):yE (l++m)=yE l++yE m:=by simp [yE]
theorem VG (n m:Nat):((n:Int)==(m:Int))=decide (n=m):=by
 by_cases h:n=m
 ·subst h;simp
 ·rw [decide_eq_false h];simp;omega
set_option maxRecDepth 20000 in
set_option maxHeartbeats 2000000 in
theorem agc {keep:Bool→Bool→Bool} {kf:Nat} (hk:∀ p q,cal env kf [.bool p,.bool q]=some [(.bool (keep p q),false)]) {L:List End} (hL:∀ x∈L,((x.step=1∨x.step=-1)∧x.pos≤4096)∧x.list<2) (hl:L.length≤1000000)
  {st:St} (h:st.head [0,3,5,6,7,8,15,16,17,18] st.boxes.length=some ⟨sl 80 [(0,.rY),(3,.pv (.eF [.func kf []] 0)),(5,.row 3 (L.map jf)),(6,.aV 0 0),(7,.pv (.int .i64 0)),(8,.pv (.bool false)),(15,.any),(16,.ref (.slot 5) 0 L.length),(17,.pv (.int .i64 L.length)),(18,.pv (.int .i64 (0:Nat)))],[⟨false,[.pv (.int .i64 0),.pv (.int .i64 0)]⟩],[],some none⟩) :
  den env Fa st=some (.normal,⟨sl 80 [],[⟨false,[.pv (.int .i64 (jM keep L L.length).d0),.pv (.int .i64 (jM keep L L.length).d1)]⟩],yE (jM keep L L.length).out,some none⟩):=by
 unfold Fa
 have hlim:lim=1073741824:=rfl
 have hsm:=Gu (keep:=keep) fun x hx=>(hL x hx).1
 refine dG (env:=env) L.length (fun i=>⟨sl 80 [(0,.rY),(3,.pv (.eF [.func kf []] 0)),(5,.row 3 (L.map jf)),(6,.aV 0 0),(7,.pv (.int .i64 (jM keep L i).st)),(8,.pv (.bool (jM keep L i).ins)),(15,.any),(16,.ref (.slot 5) 0 L.length),(17,.pv (.int .i64 L.length)),(18,.pv (.int .i64 i))],[⟨false,[.pv (.int .i64 (jM keep L i).d0),.pv (.int .i64 (jM keep L i).d1)]⟩],yE (jM keep L i).out,some none⟩) (fun _=>some (.normal,⟨sl 80 [],[⟨false,[.pv (.int .i64 (jM keep L L.length).d0),.pv (.int .i64 (jM keep L L.length).d1)]⟩],yE (jM keep L L.length).out,some none⟩)) h (fun _=>rfl) (fun _=>by simp only [aK,dB,Nat.reduceMul,Nat.reduceBEq,Nat.reduceLT,Nat.reduceLeDiff,Nat.reduceAdd,decide_true,Bool.and_self,Bool.true_and]) ?_ ?_
 ·intro i rb hi ih
  have hi1:=cZ hi (by omega)
  have F1:((i:Int)<(L.length:Int))=True:=eq_true (by omega)
  have hx:L[i]?=some L[i]:=List.getElem?_eq_getElem hi
  obtain ⟨⟨x1,x2⟩,x3⟩:=hL _ (List.getElem_mem hi)
  have aln:=BK (keep:=keep) hx
  obtain ⟨⟨s1,s2⟩,⟨s3,s4⟩,s5,s6⟩:=hsm i
  rw [aln] at ih
  clear aln
  generalize L[i]=x at *
  generalize hs:jM keep L i=s at *
  obtain ⟨d0,d1,sp,ins,out⟩:=s
  obtain ⟨p,k,t⟩:=x
  simp only at x1 x2 x3 s1 s2 s3 s4 s5 s6 ih
  have hlist:k=0∨k=1:=by omega
  have W0:IntKind.i64.wrap (d0+t)=d0+t:=bZ (by omega)
  have W1:IntKind.i64.wrap (d1+t)=d1+t:=bZ (by omega)
  have W2:IntKind.i64.wrap ((p:Int) - sp)=(p:Int) - sp:=bZ (by omega)
  have I0:index (.int .i64 0) 2=some 0:=rfl
  have I1:index (.int .i64 1) 2=some 1:=rfl
  have IN0:index (.int .i64 ((0:Nat):Int)) 2=some 0:=rfl
  have IN1:index (.int .i64 ((1:Nat):Int)) 2=some 1:=rfl
  have P3:∀ a b c:PV,part [a,b,c] 0 (some 3)=some (.agg [a,b,c]):=fun a b c=>rfl
  -- the next end
  have hnx:(∃ y,L[i+1]?=some y∧jG ⟨p,k,t⟩ (L.drop (i+1))=decide (y.pos=p)∧(((i+1:Nat):Int)<(L.length:Int))∧index (.int .i64 ((i+1:Nat):Int)) L.length=some (i+1))∨(jG ⟨p,k,t⟩ (L.drop (i+1))=false∧¬ (((i+1:Nat):Int)<(L.length:Int))):=by
   by_cases hlt:i+1<L.length
   ·left
    refine ⟨L[i+1],List.getElem?_eq_getElem hlt,?_,by omega,ay hlt⟩
    rw [List.drop_eq_getElem_cons hlt];rfl
   ·right
    refine ⟨?_,by omega⟩
    rw [List.drop_eq_nil_of_le (by omega)];rfl
  rcases hlist with rfl|rfl
  ·-- list 0
   have e1:=hk (decide (d0+t > 0)) (decide (d1 > 0))
   have same:mW keep ⟨p,0,t⟩ true ⟨d0,d1,sp,ins,out⟩=⟨d0+t,d1,sp,ins,out⟩:=by simp [mW]
   have diff:mW keep ⟨p,0,t⟩ false ⟨d0,d1,sp,ins,out⟩=⟨d0+t,d1,if keep (decide (d0+t > 0)) (decide (d1 > 0))&&!ins then (p:Int) else sp,keep (decide (d0+t > 0)) (decide (d1 > 0)),out++(if !keep (decide (d0+t > 0)) (decide (d1 > 0))&&ins then [⟨sp,(p:Int) - sp⟩] else [])⟩:=by simp [mW]
   rcases hnx with ⟨y,hy,hns,hlt,hix⟩|⟨hns,hlt⟩
   ·have F2:(((i+1:Nat):Int)<(L.length:Int))=True:=eq_true hlt
    rw [hns] at ih
    have B:=VG y.pos p
    generalize hb:decide (y.pos=p)=b at ih B
    cases b with
    |true =>
     rw [same] at ih
     simp only [oC,F1,hx,hi1,W0,W1,W2,I0,I1,IN0,IN1,P3,jf,ay hi,List.getElem?_map,Option.map_some,List.length_map,List.length_cons,List.length_nil,F2,hy,hix,B,aN,Nat.reduceMul,Nat.reduceBEq,Nat.reduceLT,Nat.reduceLeDiff,reduceCtorEq,Nat.reduceEqDiff,Nat.reduceAdd,Nat.beq]
     rw [ih _ (by simp only [hi1,aN,Nat.reduceMul,Nat.reduceBEq,Nat.reduceLT,Nat.reduceLeDiff,reduceCtorEq,Nat.reduceEqDiff,Nat.reduceAdd,Nat.beq]<;>rfl)]
    |false =>
     rw [diff] at ih
     generalize keep (decide (d0+t > 0)) (decide (d1 > 0))=now at *
     cases now<;>cases ins<;>simp only [Bool.not_true,Bool.not_false,Bool.and_true,Bool.and_false,Bool.and_self,Bool.false_eq_true,if_true,if_false,List.append_nil,MC] at ih<;>simp only [oC,F1,hx,hi1,W0,W1,W2,I0,I1,IN0,IN1,P3,jf,ay hi,List.getElem?_map,Option.map_some,List.length_map,List.length_cons,List.length_nil,F2,hy,hix,B,e1,aN,Nat.reduceMul,Nat.reduceBEq,Nat.reduceLT,Nat.reduceLeDiff,reduceCtorEq,Nat.reduceEqDiff,Nat.reduceAdd,Nat.beq]<;>rw [ih _ (by simp only [hi1,yE,List.map_cons,List.map_nil,dW,aN,Nat.reduceMul,Nat.reduceBEq,Nat.reduceLT,Nat.reduceLeDiff,reduceCtorEq,Nat.reduceEqDiff,Nat.reduceAdd,Nat.beq]<;>rfl)]
   ·have F2:(((i+1:Nat):Int)<(L.length:Int))=False:=eq_false hlt
    rw [hns,diff] at ih
    generalize keep (decide (d0+t > 0)) (decide (d1 > 0))=now at *
    cases now<;>cases ins<;>simp only [Bool.not_true,Bool.not_false,Bool.and_true,Bool.and_false,Bool.and_self,Bool.false_eq_true,if_true,if_false,List.append_nil,MC] at ih<;>simp only [oC,F1,hx,hi1,W0,W1,W2,I0,I1,IN0,IN1,P3,jf,ay hi,List.getElem?_map,Option.map_some,List.length_map,List.length_cons,List.length_nil,F2,e1,aN,Nat.reduceMul,Nat.reduceBEq,Nat.reduceLT,Nat.reduceLeDiff,reduceCtorEq,Nat.reduceEqDiff,Nat.reduceAdd,Nat.beq]<;>rw [ih _ (by simp only [hi1,yE,List.map_cons,List.map_nil,dW,aN,Nat.reduceMul,Nat.reduceBEq,Nat.reduceLT,Nat.reduceLeDiff,reduceCtorEq,Nat.reduceEqDiff,Nat.reduceAdd,Nat.beq]<;>rfl)]
  ·-- list 1
   have e1:=hk (decide (d0 > 0)) (decide (d1+t > 0))
   have same:mW keep ⟨p,1,t⟩ true ⟨d0,d1,sp,ins,out⟩=⟨d0,d1+t,sp,ins,out⟩:=by simp [mW]
   have diff:mW keep ⟨p,1,t⟩ false ⟨d0,d1,sp,ins,out⟩=⟨d0,d1+t,if keep (decide (d0 > 0)) (decide (d1+t > 0))&&!ins then (p:Int) else sp,keep (decide (d0 > 0)) (decide (d1+t > 0)),out++(if !keep (decide (d0 > 0)) (decide (d1+t > 0))&&ins then [⟨sp,(p:Int) - sp⟩] else [])⟩:=by simp [mW]
   rcases hnx with ⟨y,hy,hns,hlt,hix⟩|⟨hns,hlt⟩
   ·have F2:(((i+1:Nat):Int)<(L.length:Int))=True:=eq_true hlt
    rw [hns] at ih
    have B:=VG y.pos p
    generalize hb:decide (y.pos=p)=b at ih B
    cases b with
    |true =>
     rw [same] at ih
     simp only [oC,F1,hx,hi1,W0,W1,W2,I0,I1,IN0,IN1,P3,jf,ay hi,List.getElem?_map,Option.map_some,List.length_map,List.length_cons,List.length_nil,F2,hy,hix,B,aN,Nat.reduceMul,Nat.reduceBEq,Nat.reduceLT,Nat.reduceLeDiff,reduceCtorEq,Nat.reduceEqDiff,Nat.reduceAdd,Nat.beq]
     rw [ih _ (by simp only [hi1,aN,Nat.reduceMul,Nat.reduceBEq,Nat.reduceLT,Nat.reduceLeDiff,reduceCtorEq,Nat.reduceEqDiff,Nat.reduceAdd,Nat.beq]<;>rfl)]
    |false =>
     rw [diff] at ih
     generalize keep (decide (d0 > 0)) (decide (d1+t > 0))=now at *
     cases now<;>cases ins<;>simp only [Bool.not_true,Bool.not_false,Bool.and_true,Bool.and_false,Bool.and_self,Bool.false_eq_true,if_true,if_false,List.append_nil,MC] at ih<;>simp only [oC,F1,hx,hi1,W0,W1,W2,I0,I1,IN0,IN1,P3,jf,ay hi,List.getElem?_map,Option.map_some,List.length_map,List.length_cons,List.length_nil,F2,hy,hix,B,e1,aN,Nat.reduceMul,Nat.reduceBEq,Nat.reduceLT,Nat.reduceLeDiff,reduceCtorEq,Nat.reduceEqDiff,Nat.reduceAdd,Nat.beq]<;>rw [ih _ (by simp only [hi1,yE,List.map_cons,List.map_nil,dW,aN,Nat.reduceMul,Nat.reduceBEq,Nat.reduceLT,Nat.reduceLeDiff,reduceCtorEq,Nat.reduceEqDiff,Nat.reduceAdd,Nat.beq]<;>rfl)]
   ·have F2:(((i+1:Nat):Int)<(L.length:Int))=False:=eq_false hlt
    rw [hns,diff] at ih
    generalize keep (decide (d0 > 0)) (decide (d1+t > 0))=now at *
    cases now<;>cases ins<;>simp only [Bool.not_true,Bool.not_false,Bool.and_true,Bool.and_false,Bool.and_self,Bool.false_eq_true,if_true,if_false,List.append_nil,MC] at ih<;>simp only [oC,F1,hx,hi1,W0,W1,W2,I0,I1,IN0,IN1,P3,jf,ay hi,List.getElem?_map,Option.map_some,List.length_map,List.length_cons,List.length_nil,F2,e1,aN,Nat.reduceMul,Nat.reduceBEq,Nat.reduceLT,Nat.reduceLeDiff,reduceCtorEq,Nat.reduceEqDiff,Nat.reduceAdd,Nat.beq]<;>rw [ih _ (by simp only [hi1,yE,List.map_cons,List.map_nil,dW,aN,Nat.reduceMul,Nat.reduceBEq,Nat.reduceLT,Nat.reduceLeDiff,reduceCtorEq,Nat.reduceEqDiff,Nat.reduceAdd,Nat.beq]<;>rfl)]
 ·intro rb
  simp only [oC,Int.lt_irrefl,aN,Nat.reduceMul,Nat.reduceBEq,Nat.reduceLT,Nat.reduceLeDiff,reduceCtorEq,Nat.reduceEqDiff,Nat.reduceAdd,Nat.beq]
end Go.Proofs.YtioijcfcehhmdaaGreatDoor.V

namespace Go.Proofs.YtioijcfcehhmdaaGreatDoor.V
def wY (l:List eH) (s:Nat):Bool:=l.any fun e=>UG e s
def setOf (keep:Bool→Bool→Bool) (a b:List eH):List eH:=ext (fun s=>keep (wY a s) (wY b s)) 4096
theorem MF {α:Type} {P:α→Prop} {a b:α} (ha:P a) (hb:P b):∀ l∈[a,b],P l:=by
 intro l hl
 simp only [List.mem_cons,List.not_mem_nil,or_false] at hl
 rcases hl with rfl|rfl
 ·exact ha
 ·exact hb
theorem QC {i s:Nat} {l m:List End} (h:l.Perm m):dep i s l=dep i s m:=by
 induction h with
 |nil=>rfl
 |cons x _ ih=>simp only [dep,ih]
 |swap x y l=>simp only [dep];omega
 |trans _ _ h1 h2=>exact h1.trans h2
theorem acN {i:Nat} {l m:List End} (h:l.Perm m):tot i l=tot i m:=by
 induction h with
 |nil=>rfl
 |cons x _ ih=>simp only [tot,ih]
 |swap x y l=>simp only [tot];omega
 |trans _ _ h1 h2=>exact h1.trans h2
theorem uG (i:Nat) (e:eH) (l:List eH):fV i (e :: l)=(if (wX e).2.2 then [⟨(wX e).1.toNat,i,1⟩,⟨(wX e).2.1.toNat,i,-1⟩] else [])++fV i l:=by simp [fV]
theorem sN {i:Nat}:∀ {l:List eH} {x:End},x∈fV i l→((x.step=1∨x.step=-1)∧x.pos≤4096)∧x.list=i
 |[],x,h=>by simp [fV] at h
 |e :: l,x,h=>by
  rw [uG] at h
  rcases List.mem_append.1 h with h|h
  ·cases hw:(wX e).2.2 with
   |false=>rw [hw] at h;simp at h
   |true =>
    obtain ⟨n,m,hnm,h1,h2,-⟩:=MB hw
    rw [hnm] at h
    simp only [if_true,Int.toNat_natCast,List.mem_cons,List.not_mem_nil,or_false] at h
    rcases h with rfl|rfl
    ·exact ⟨⟨.inl rfl,by simp only;omega⟩,rfl⟩
    ·exact ⟨⟨.inr rfl,h2⟩,rfl⟩
  ·exact sN h
theorem MG {i j:Nat}:∀ l:List eH,tot j (fV i l)=0
 |[]=>rfl
 |e :: l=>by
  rw [uG,zY,MG l]
  split
  ·simp only [tot];split<;>omega
  ·rfl
theorem BL {i j s:Nat} (h:i≠j):∀ l:List eH,dep j s (fV i l)=0
 |[]=>rfl
 |e :: l=>by
  rw [uG,xw,BL h l]
  split
  ·simp [dep,h]
  ·rfl
theorem MH {i s:Nat} (hs:s<4096):∀ l:List eH,0≤dep i s (fV i l)∧(dep i s (fV i l) > 0 ↔ wY l s=true)
 |[]=>by simp [fV,dep,wY]
 |e :: l=>by
  obtain ⟨h1,h2⟩:=MH (i:=i) hs l
  rw [uG,xw]
  have h3:wY (e :: l) s=(UG e s || wY l s):=rfl
  rw [h3]
  cases hw:(wX e).2.2 with
  |false =>
   rw [acJ hw hs]
   simp only [Bool.false_eq_true,if_false,dep,Int.zero_add,Bool.false_or]
   exact ⟨h1,h2⟩
  |true =>
   obtain ⟨n,m,hnm,g1,g2,g3⟩:=MB hw
   have g4:=g3 s hs
   rw [hnm]
   simp only [if_true,Int.toNat_natCast,dep,true_and]
   cases hin:UG e s with
   |false =>
    rw [Bool.false_or,← h2]
    have:¬ (n≤s∧s<m):=fun h=>by rw [g4.2 h] at hin;cases hin
    split<;>split<;>omega
   |true =>
    obtain ⟨k1,k2⟩:=g4.1 hin
    rw [if_pos k1,if_neg (by omega)]
    simp only [Bool.true_or,iff_true]
    omega
theorem acO:∀ {l:List End},(∀ i j:Nat,i<j→j<l.length→¬ l[j]!.pos<l[i]!.pos)→Asc l
 |[],_=>trivial
 |[x],_=>trivial
 |x :: y :: l,h=>by
  refine ⟨?_,acO fun i j hij hj=>?_⟩
  ·have:=h 0 1 (by omega) (by simp)
   simp at this
   omega
  ·have:=h (i+1) (j+1) (by omega) (by simp at hj ⊢;omega)
   simpa using this
theorem YF {keep:Bool→Bool→Bool} (hk:keep false false=false) (a b:List eH):Bv keep (lu [a,b]) 0 0 0 false=setOf keep a b:=by
 obtain ⟨h1,h2,h3⟩:=yU (dH 0 [a,b])
 have hr:dH 0 [a,b]=fV 0 a++fV 1 b:=by simp [dH]
 have hmem:∀ x∈lu [a,b],x.pos≤4096:=fun x hx=>by
  have:=h1.mem_iff.1 hx
  rw [hr] at this
  rcases List.mem_append.1 this with q|q
  ·exact (sN q).1.2
  ·exact (sN q).1.2
 have ht:∀ j,tot j (lu [a,b])=0:=fun j=>by
  unfold lu
  rw [acN h1,hr,zY,MG,MG];rfl
 have hasc:Asc (lu [a,b]):=acO fun i j hij hj=>h3 i j hij (by unfold lu at hj;omega)
 rw [abW hk hasc hmem (ht 0) (ht 1)]
 unfold setOf
 apply JA
 intro s hs
 unfold kM lu
 rw [QC h1,QC h1,hr,xw,xw,BL (i:=1) (j:=0) (by decide),BL (i:=0) (j:=1) (by decide),Int.add_zero,Int.zero_add]
 have e1:=(MH (i:=0) hs a).2
 have e2:=(MH (i:=1) hs b).2
 have f1:decide (dep 0 s (fV 0 a) > 0)=wY a s:=by
  cases h:wY a s
  ·exact decide_eq_false fun q=>by rw [e1.1 q] at h;cases h
  ·exact decide_eq_true (e1.2 h)
 have f2:decide (dep 1 s (fV 1 b) > 0)=wY b s:=by
  cases h:wY b s
  ·exact decide_eq_false fun q=>by rw [e2.1 q] at h;cases h
  ·exact decide_eq_true (e2.2 h)
 rw [f1,f2]
set_option maxRecDepth 20000 in
theorem agd {keep:Bool→Bool→Bool} (h0:keep false false=false) {kf:Nat} (hk:∀ p q,cal env kf [.bool p,.bool q]=some [(.bool (keep p q),false)]) {a b:List eH} (ha:Me a) (hb:Me b) (la:a.length≤10000) (lb:b.length≤10000) :
  iter env 119 [.eF [.list 2 (a.map dW)] 0,.eF [.list 2 (b.map dW)] 0,.eF [.func kf []] 0] none=some (yE (setOf keep a b)):=by
 have hlim:lim=1073741824:=rfl
 obtain ⟨h1,h2,h3⟩:=yU (dH 0 [a,b])
 have hr:dH 0 [a,b]=fV 0 a++fV 1 b:=by simp [dH]
 have hp:=rC (n:=10000) [a,b] 0 (MF la lb)
 have e1:=ai9 (ls:=[a,b]) (MF ha hb) (MF la lb) (by simp) h2
 have hE:(lu [a,b]).length≤1000000:=by unfold lu;rw [h2];simp at hp;omega
 have hm:∀ x∈lu [a,b],((x.step=1∨x.step=-1)∧x.pos≤4096)∧x.list<2:=fun x hx=>by
  have:=h1.mem_iff.1 hx
  rw [hr] at this
  rcases List.mem_append.1 this with q|q
  ·have:=sN q;exact ⟨this.1,by omega⟩
  ·have:=sN q;exact ⟨this.1,by omega⟩
 have hres:=(acM keep (lu [a,b])).trans (YF h0 a b)
 simp only [List.map_cons,List.map_nil,zO] at e1
 have L2:(2≤lim)=True:=eq_true (by omega)
 rw [Ju aie rfl rfl]
 have hy:Uy 80 [.eF [.list 2 (a.map dW)] 0,.eF [.list 2 (b.map dW)] 0,.eF [.func kf []] 0] none=⟨sl 80 [(0,.rY),(1,.pv (.eF [.list 2 (a.map dW)] 0)),(2,.pv (.eF [.list 2 (b.map dW)] 0)),(3,.pv (.eF [.func kf []] 0))],[],[],some none⟩:=rfl
 simp only [PK]
 rw [hy]
 simp only [e1,L2,List.length_map,aN,Nat.reduceMul,Nat.reduceBEq,Nat.reduceLT,Nat.reduceLeDiff,reduceCtorEq,Nat.reduceEqDiff,Nat.reduceAdd,Nat.beq]
 rw [agc hk hm hE (by simp only [aN,Nat.reduceMul,Nat.reduceBEq,Nat.reduceLT,Nat.reduceLeDiff,reduceCtorEq,Nat.reduceEqDiff,Nat.reduceAdd,Nat.beq]<;>rfl)]
 rw [hres]
 rfl
theorem ajc {g:Nat} {caps:List PV} {l:List eH} (hi:iter env g caps none=some (yE l)) (hl:l.length≤1000000):cal env 118 [.lJ 2,.func g caps]=some [(.list 2 (l.map dW),true)]:=by
 have hlim:lim=1073741824:=rfl
 rw [ah aic rfl];simp only [PI];simp only [start,aJ,aT,aH,aS,aA,aB,aI,aO,Nat.reduceAdd,Nat.reduceSub]
 simp only [bI,reduceCtorEq,Nat.reduceEqDiff,Nat.reduceAdd,Nat.reduceLT,Nat.reduceLeDiff,Nat.beq]
 rw [Vw (env:=env) (fun j=>[⟨false,[.row 2 ((l.take j).map dW)]⟩]) (xs:=yE l) rfl hi rfl ?_]
 ·simp only [yE,List.length_map,List.take_length,Qn,bI,reduceCtorEq,Nat.reduceEqDiff,Nat.reduceAdd,Nat.reduceLT,Nat.reduceLeDiff,Nat.beq]
 ·intro j x hx sl0
  simp only [yE,List.getElem?_map,Option.map_eq_some_iff] at hx
  obtain ⟨e,he,rfl⟩:=hx
  have hj:=(List.getElem?_eq_some_iff.1 he).1
  have F3:((l.take j).length+1≤lim)=True:=eq_true (by rw [List.length_take];omega)
  have ht:l.take (j+1)=l.take j++[e]:=by rw [List.take_add_one,he];rfl
  rw [ht]
  refine ⟨?_,?_⟩
  rotate_left
  ·simp only [PE,PG,F3,dW,List.map_append,List.map_cons,List.map_nil,Qn,bI,reduceCtorEq,Nat.reduceEqDiff,Nat.reduceAdd,Nat.reduceLT,Nat.reduceLeDiff,Nat.beq]
   rfl
theorem alo {g:Nat} {caps:List PV} {l:List eH} (hi:iter env g caps none=some (yE l)) (hl:l.length≤1000000):cal env 78 [.func g caps]=some [(.list 2 (l.map dW),true)]:=by
 have e1:=ajc hi hl
 rw [ah akY rfl];simp only [abd];simp only [start,aJ,aT,aH,aS,aA,aB,aI,aO,Nat.reduceAdd,Nat.reduceSub]
 simp only [e1,bI,reduceCtorEq,Nat.reduceEqDiff,Nat.reduceAdd,Nat.reduceLT,Nat.reduceLeDiff,Nat.beq]
end Go.Proofs.YtioijcfcehhmdaaGreatDoor.V

namespace Go.Proofs.YtioijcfcehhmdaaGreatDoor.V
def orB (p q:Bool):Bool:=p || q
theorem YG (l:List eH) (i:Nat):(vW l i).length≤l.length+1:=by
 rcases lq l with rfl|⟨p,x,rfl⟩
 ·simp [vW]
 ·rw [jE];split<;>simp
theorem MI (p:Nat→Bool):∀ n,(ext p n).length≤n
 |0=>Nat.le_refl _
 |n+1=>by
  rw [oD]
  have:=MI p n
  have:=YG (ext p n) n
  split<;>omega
theorem JJ (keep:Bool→Bool→Bool) (a b:List eH):(setOf keep a b).length≤4096:=MI _ _
theorem alp {a b:List PV} {kf:Nat}:cal env 79 [.list 2 a,.list 2 b,.func kf []]=some [(.func 119 [.eF [.list 2 a] 0,.eF [.list 2 b] 0,.eF [.func kf []] 0],false)]:=by
 rw [ah akZ rfl];simp only [abe,aK,Nat.reduceBEq,Nat.reduceLeDiff,Nat.reduceAdd,List.length_cons,List.length_nil]
 simp only [aN,Nat.reduceMul,Nat.reduceBEq,Nat.reduceLT,Nat.reduceLeDiff,reduceCtorEq,Nat.reduceEqDiff,Nat.reduceAdd,Nat.beq]
theorem alq (p q:Bool):cal env 81 [.bool p,.bool q]=some [(.bool (orB p q),false)]:=by
 cases p<;>cases q<;>(rw [ah ak0 rfl];simp only [abf,aK,Nat.reduceBEq,Nat.reduceLeDiff,Nat.reduceAdd,List.length_cons,List.length_nil];simp only [aN,Nat.reduceMul,Nat.reduceBEq,Nat.reduceLT,Nat.reduceLeDiff,reduceCtorEq,Nat.reduceEqDiff,Nat.reduceAdd,Nat.beq]<;>rfl)
theorem alr {a b:List eH} (ha:Me a) (hb:Me b) (la:a.length≤10000) (lb:b.length≤10000):cal env 33 [.list 2 (a.map dW),.list 2 (b.map dW)]=some [(.list 2 ((setOf orB a b).map dW),true)]:=by
 have e1:=alp (a:=a.map dW) (b:=b.map dW) (kf:=81)
 have hi:=agd (keep:=orB) rfl (kf:=81) (fun p q=>alq p q) ha hb la lb
 have hlen:=JJ orB a b
 have e2:=alo hi (by omega)
 rw [ah akN rfl];simp only [aa1,aK,Nat.reduceBEq,Nat.reduceLeDiff,Nat.reduceAdd,List.length_cons,List.length_nil]
 simp only [e1,e2,aN,Nat.reduceMul,Nat.reduceBEq,Nat.reduceLT,Nat.reduceLeDiff,reduceCtorEq,Nat.reduceEqDiff,Nat.reduceAdd,Nat.beq]
--+
theorem acP:Me []:=fun x hx=>by cases hx
def orS (l:List eH):List eH:=setOf orB l []
theorem MJ (p:Nat→Bool) (n:Nat):(∀ x∈ext p n,0≤x.start∧1≤x.count∧x.start+x.count≤(n:Int)):=by
 induction n with
 |zero=>intro x hx;cases hx
 |succ n ih =>
  rw [oD]
  split
  ·rcases lq (ext p n) with e|⟨pre,y,e⟩
   ·rw [e]
    intro x hx
    have:vW [] n=[⟨(n:Int),1⟩]:=rfl
    rw [this] at hx
    simp only [List.mem_singleton] at hx
    subst hx
    simp only;omega
   ·rw [e] at ih ⊢
    intro x hx
    rw [jE] at hx
    split at hx
    ·rcases List.mem_append.1 hx with h|h
     ·have:=ih x (by simp [h]);omega
     ·simp only [List.mem_singleton] at h
      have:=ih y (by simp)
      subst h;simp only;omega
    ·rcases List.mem_append.1 hx with h|h
     ·have:=ih x h;omega
     ·simp only [List.mem_singleton] at h
      subst h;simp only;omega
  ·intro x hx;have:=ih x hx;omega
end Go.Proofs.YtioijcfcehhmdaaGreatDoor.V

namespace Go.Proofs.YtioijcfcehhmdaaGreatDoor.V
end Go.Proofs.YtioijcfcehhmdaaGreatDoor.V

namespace Go.Proofs.YtioijcfcehhmdaaGreatDoor
end Go.Proofs.YtioijcfcehhmdaaGreatDoor

namespace Go.Proofs.YtioijcfcehhmdaaGreatDoor.V
def mk (f:Nat→Bool):List Bool:=(List.range 4096).map f
theorem Gv (l:List eH) (e:eH) (s:Nat):wY (l++[e]) s=(wY l s || UG e s):=by simp [wY]
end Go.Proofs.YtioijcfcehhmdaaGreatDoor.V

namespace Go.Proofs.YtioijcfcehhmdaaGreatDoor.V
end Go.Proofs.YtioijcfcehhmdaaGreatDoor.V

namespace Go.Proofs.YtioijcfcehhmdaaGreatDoor.V
end Go.Proofs.YtioijcfcehhmdaaGreatDoor.V

namespace Go.Proofs.YtioijcfcehhmdaaGreatDoor.V
end Go.Proofs.YtioijcfcehhmdaaGreatDoor.V

namespace Go.Proofs.YtioijcfcehhmdaaGreatDoor.V
end Go.Proofs.YtioijcfcehhmdaaGreatDoor.V

namespace Go.Proofs.YtioijcfcehhmdaaGreatDoor.V
def Af (size:Int):Int→List eH→Int
 |_,[]=>0
 |nx,e :: l=>if e.count≤0 then 1 else if e.start<0∨e.count > size - e.start then 2 else if e.start<nx then 3 else Af size (e.start+e.count+1) l
def Ip (l:List eH) (size:Int):Int:=if size<0∨4096<size then 2 else Af size 0 l
end Go.Proofs.YtioijcfcehhmdaaGreatDoor.V

namespace Go.Proofs.YtioijcfcehhmdaaGreatDoor.V
theorem xB {a b:iR} (h:au a=au b):a.length=b.length∧∀ i (h1:i<a.length) (h2:i<b.length),a[i].length=b[i].length:=by
 have hl:a.length=b.length:=by simpa [au] using congrArg List.length h
 refine ⟨hl,fun i h1 h2=>?_⟩
 have:=congrArg (fun l=>l[i]?) h
 simp only [au,List.getElem?_map,List.getElem?_eq_getElem h1,List.getElem?_eq_getElem h2,Option.map_some,Option.some.injEq] at this
 omega
end Go.Proofs.YtioijcfcehhmdaaGreatDoor.V

namespace Go.Proofs.YtioijcfcehhmdaaGreatDoor.V
def acQ {α β:Type} (g:Nat→α→β) (l:List α):List β:=l.mapIdx g
def agh (im:iR) (l:List (List eH)):List Bool:=acQ (fun i x=>decide (Ip x ((im.getD i []).length:Int)=0)) l
def MK (im:iR) (l:List (List eH)):Int:=if l.length≠im.length then 6 else if (agh im l).contains false then 3 else 0
end Go.Proofs.YtioijcfcehhmdaaGreatDoor.V

namespace Go.Proofs.YtioijcfcehhmdaaGreatDoor.V
end Go.Proofs.YtioijcfcehhmdaaGreatDoor.V

namespace Go.Proofs.YtioijcfcehhmdaaGreatDoor.V
theorem agi {l:List eH} {n:Nat} (h:∀ x∈l,0≤x.start∧1≤x.count∧x.start+x.count≤(n:Int)) (s:Nat):wY (vW l n) s=(wY l s || decide (s=n)):=by
 rcases lq l with e|⟨pre,y,e⟩
 ·subst e
  show wY [⟨(n:Int),1⟩] s=_
  rw [Bool.eq_iff_iff]
  simp [wY,UG];omega
 ·subst e
  have hy:=h y (by simp)
  rw [jE]
  split
  ·rw [Gv,Gv,Bool.or_assoc]
   congr 1
   rw [Bool.eq_iff_iff]
   simp [UG];omega
  ·rw [Gv (pre++[y])]
   congr 1
   rw [Bool.eq_iff_iff]
   simp [UG];omega
theorem ML (p:Nat→Bool) (s:Nat):∀ n,wY (ext p n) s=(decide (s<n)&&p s)
 |0=>by simp [Qq,wY]
 |n+1=>by
  rw [oD]
  by_cases h:p n=true
  ·rw [if_pos h,agi (MJ p n),ML p s n]
   by_cases h2:s=n
   ·subst h2;rw [h];simp
   ·rw [decide_eq_false h2,Bool.or_false]
    congr 1
    rw [Bool.eq_iff_iff];simp;omega
  ·rw [if_neg h,ML p s n]
   by_cases h2:s=n
   ·subst h2;simp [h]
   ·congr 1
    rw [Bool.eq_iff_iff];simp;omega
end Go.Proofs.YtioijcfcehhmdaaGreatDoor.V

namespace Go.Proofs.YtioijcfcehhmdaaGreatDoor.V
theorem MN {a:iR} {l:List (List eH)} (h:MK a l=0):l.length=a.length:=by
 unfold MK at h
 split at h
 ·omega
 ·rename_i c;simpa using c
end Go.Proofs.YtioijcfcehhmdaaGreatDoor.V

namespace Go.Proofs.YtioijcfcehhmdaaGreatDoor.V
end Go.Proofs.YtioijcfcehhmdaaGreatDoor.V

namespace Go.Proofs.YtioijcfcehhmdaaGreatDoor.V
end Go.Proofs.YtioijcfcehhmdaaGreatDoor.V

namespace Go.Proofs.YtioijcfcehhmdaaGreatDoor.V
theorem QD {size:Int}:∀ (l:List eH) (nx:Int),Af size nx l=0→∀ e∈l,0≤e.start∧1≤e.count∧e.start+e.count≤size
 |[],_,_,e,he=>by cases he
 |x :: l,nx,h,e,he=>by
  unfold Af at h
  split at h
  ·omega
  ·split at h
   ·omega
   ·split at h
    ·omega
    ·rcases List.mem_cons.1 he with rfl|he
     ·omega
     ·exact QD l _ h e he
theorem agj {l:List eH} {size:Int} (h:Ip l size=0):∀ e∈l,0≤e.start∧1≤e.count∧e.start+e.count≤size:=by
 unfold Ip at h
 split at h
 ·omega
 ·exact QD l 0 h
end Go.Proofs.YtioijcfcehhmdaaGreatDoor.V

namespace Go.Proofs.YtioijcfcehhmdaaGreatDoor.V
end Go.Proofs.YtioijcfcehhmdaaGreatDoor.V

namespace Go.Proofs.YtioijcfcehhmdaaGreatDoor.V
theorem acR {im:iR} {l:List (List eH)} (h:MK im l=0) {i:Nat} (hi:i<l.length) (hj:i<im.length):Ip l[i] (im[i].length:Int)=0:=by
 unfold MK at h
 split at h
 ·omega
 ·split at h
  ·omega
  ·rename_i c
   have h2:(agh im l)[i]?=some (decide (Ip l[i] (im[i].length:Int)=0)):=by simp [agh,acQ,hi,hj]
   cases hd:decide (Ip l[i] (im[i].length:Int)=0) with
   |true=>simpa using hd
   |false =>
    rw [hd] at h2
    exact absurd (List.contains_iff_mem.2 (List.mem_of_getElem? h2)) c
def wOf (im:iR) (v:Nat) (e:eH):iM:=⟨v,e.start,((im.getD v []).drop e.start.toNat).take e.count.toNat⟩
def QE (im:iR) (v:Nat) (x:List eH):List iM:=x.map (wOf im v)
def Gw (im:iR) (l:List (List eH)) (n:Nat):List iM:=(List.range n).flatMap fun v=>QE im v (l.getD v [])
def wrL (im:iR) (l:List (List eH)):List iM:=Gw im l l.length
theorem Ag (im:iR) (l:List (List eH)) (n:Nat):Gw im l (n+1)=Gw im l n++QE im n (l.getD n []):=by simp [Gw,List.range_succ]
end Go.Proofs.YtioijcfcehhmdaaGreatDoor.V

namespace Go.Proofs.YtioijcfcehhmdaaGreatDoor.V
theorem acS {n a b:Int}:cal env 97 [.int .i64 n,.int .i64 a,.int .i64 b]=some [(.bool (decide (a≤n)&&decide (n≤b)),false)]:=by
 by_cases h:a≤n
 ·have F1:(a≤n)=True:=eq_true h
  rw [ah ag1 rfl];simp only [Yd,aK,Nat.reduceBEq,Nat.reduceLeDiff,Nat.reduceAdd,List.length_cons,List.length_nil]
  simp only [F1,aN,Nat.reduceMul,Nat.reduceBEq,Nat.reduceLT,Nat.reduceLeDiff,reduceCtorEq,Nat.reduceEqDiff,Nat.reduceAdd,Nat.beq]
 ·have F1:(a≤n)=False:=eq_false h
  rw [ah ag1 rfl];simp only [Yd,aK,Nat.reduceBEq,Nat.reduceLeDiff,Nat.reduceAdd,List.length_cons,List.length_nil]
  simp only [F1,aN,Nat.reduceMul,Nat.reduceBEq,Nat.reduceLT,Nat.reduceLeDiff,reduceCtorEq,Nat.reduceEqDiff,Nat.reduceAdd,Nat.beq]
def agk (n:Int):Bool:=!(decide (0≤n)&&decide (n≤1073741824))
def acT (l:List Int):Int:=if 8<l.length then 6 else if l.any agk then 2 else 0
theorem aje {n:Int}:cal env 130 [eI n]=some [(.bool (agk n),false)]:=by
 have e1:=acS (n:=n) (a:=0) (b:=1073741824)
 unfold eI
 rw [ah aiq rfl];simp only [PZ,aK,Nat.reduceBEq,Nat.reduceLeDiff,Nat.reduceAdd,List.length_cons,List.length_nil]
 simp only [e1,agk,aN,Nat.reduceMul,Nat.reduceBEq,Nat.reduceLT,Nat.reduceLeDiff,reduceCtorEq,Nat.reduceEqDiff,Nat.reduceAdd,Nat.beq]
theorem als {l:List Int} (hl:l.length≤20):cal env 98 [.list 1 (l.map eI),.int .i64 0]=some [(.int .i64 (acT l),false)]:=by
 have e1:=acS (n:=(l.length:Int)) (a:=0) (b:=8)
 have e2:=abT (l:=l) (enc:=eI) (caps:=[]) (fun x _=>aje (n:=x)) (fun x=>rfl) (Nat.le_trans hl (by decide))
 unfold acT
 by_cases h:8<l.length
 ·have G:(decide ((0:Int)≤l.length)&&decide ((l.length:Int)≤8))=false:=by simp;omega
  rw [G] at e1
  rw [if_pos h]
  rw [ah abH rfl];simp only [Uu,aK,Nat.reduceBEq,Nat.reduceLeDiff,Nat.reduceAdd,List.length_cons,List.length_nil]
  simp only [e1,List.length_map,aN,Nat.reduceMul,Nat.reduceBEq,Nat.reduceLT,Nat.reduceLeDiff,reduceCtorEq,Nat.reduceEqDiff,Nat.reduceAdd,Nat.beq]
 ·have G:(decide ((0:Int)≤l.length)&&decide ((l.length:Int)≤8))=true:=by simp;omega
  rw [G] at e1
  rw [if_neg h]
  cases hb:l.any agk with
  |true =>
   rw [hb] at e2
   rw [ah abH rfl];simp only [Uu,aK,Nat.reduceBEq,Nat.reduceLeDiff,Nat.reduceAdd,List.length_cons,List.length_nil]
   simp only [e1,e2,List.length_map,aN,Nat.reduceMul,Nat.reduceBEq,Nat.reduceLT,Nat.reduceLeDiff,reduceCtorEq,Nat.reduceEqDiff,Nat.reduceAdd,Nat.beq]
  |false =>
   rw [hb] at e2
   rw [ah abH rfl];simp only [Uu,aK,Nat.reduceBEq,Nat.reduceLeDiff,Nat.reduceAdd,List.length_cons,List.length_nil]
   simp only [e1,e2,List.length_map,aN,Nat.reduceMul,Nat.reduceBEq,Nat.reduceLT,Nat.reduceLeDiff,reduceCtorEq,Nat.reduceEqDiff,Nat.reduceAdd,Nat.beq]
def ajf (b n t:Int) (p:List Int) (w:List iM):PV:=.agg [.int .i64 b,.int .i64 n,.int .i64 t,.list 1 (p.map eI),.list 3 (w.map jL)]
def UH (b n t:Int) (p:List Int):Int:=if b<0∨n≤b∨n > 1073741824 then 2 else if t<0∨t > 1073741824 then 24 else acT p
end Go.Proofs.YtioijcfcehhmdaaGreatDoor.V

namespace Go.Proofs.YtioijcfcehhmdaaGreatDoor.V
def agl (x w:iM):Prop:=x.volume<w.volume∨x.volume=w.volume∧x.start+x.data.length<w.start
def acU (im:iR) (l:List iM):Prop:=(∀ w∈l,mP im w=0)∧∀ i (h:i+1<l.length),agl l[i] l[i+1]
theorem VH {im:iR} {w:iM} (h:mP im w=0):0≤w.volume∧w.volume<im.length∧0≤w.start∧w.start+w.data.length≤((im.getD w.volume.toNat []).length:Int):=by
 unfold mP at h
 split at h
 ·omega
 ·split at h
  ·omega
  ·split at h
   ·omega
   ·omega
theorem QF {im:iR} (hr:∀ v∈im,v.length≤1000000) (v:Nat):(im.getD v []).length≤1000000:=by
 by_cases h:v<im.length
 ·have e:im.getD v []=im[v]:=by simp [h]
  rw [e];exact hr _ (List.getElem_mem h)
 ·have e:im.getD v []=[]:=by simp [List.getD_eq_getElem?_getD,List.getElem?_eq_none (Nat.le_of_not_lt h)]
  rw [e];simp
theorem pG (im:iR):nP (au im)=im.map fun v=>List.replicate v.length KN:=by simp [nP,au]
theorem Gx (im:iR):(nP (au im)).length=im.length:=by rw [pG];simp
theorem Gy (im:iR):au (nP (au im))=au im:=by rw [pG];simp [au]
theorem QG {im:iR} {w:iM} (h:iZ im=0):FW (nP (au im)) w=mP im w:=by
 have h1:iZ (nP (au im))=0:=by unfold iZ at h ⊢;rw [Gy];exact h
 have h2:∀ v:Nat,((nP (au im)).getD v []).length=(im.getD v []).length:=fun v=>by
  rw [pG]
  by_cases hv:v<im.length<;>simp [List.getD_eq_getElem?_getD,hv]
 unfold FW
 rw [if_neg (by simpa using h1)]
 unfold mP
 rw [Gx,h2]
theorem ajg {im:iR} {w:iM} (hl:im.length≤lim) (hr:∀ v∈im,v.length≤lim) (hd:w.data.length≤lim):cal env 132 [jL w,.eF [.list 1 (im.map bF)] 0]=some [(.int .i64 (FW im w),false)]:=by
 have e1:=aiP hl hr hd
 unfold jL at *
 rw [ah ais rfl];simp only [P6];simp only [start,aJ,aT,aH,aS,aA,aB,aI,aO,Nat.reduceAdd,Nat.reduceSub]
 simp only [e1,bI,reduceCtorEq,Nat.reduceEqDiff,Nat.reduceAdd,Nat.reduceLT,Nat.reduceLeDiff,Nat.beq]
theorem agm {im:iR} {l:List iM} {gf:Nat} {caps:List PV} (hp:∀ w∈l,cal env gf (jL w :: caps)=some [(.int .i64 0,false)]) (hs:acU im l) (hr:∀ v∈im,v.length≤1000000) (hl:l.length≤lim) {st:St} (h:st.head [0,1,9,10,11] st.boxes.length=some ⟨[.pv (.list 3 (l.map jL)),.pv (.func gf caps),.any,.any,.any,.any,.any,.any,.any,.pv (.list 3 (l.map jL)),.pv (.int .i64 l.length),.pv (.int .i64 (0:Nat)),.any,.any,.any,.any,.any,.any,.any,.any,.any,.any,.any,.any,.any,.any,.any,.any,.any,.any,.any,.any,.any,.any,.any,.any,.any,.any,.any,.any,.any,.any,.any,.any,.any,.any,.any,.any,.any,.any,.any,.any,.any],[],[],none⟩) :
  den env Fz st=some (.normal,⟨[.any,.any,.any,.any,.any,.any,.any,.any,.any,.any,.any,.any,.any,.any,.any,.any,.any,.any,.any,.any,.any,.any,.any,.any,.any,.any,.any,.any,.any,.any,.any,.any,.any,.any,.any,.any,.any,.any,.any,.any,.any,.any,.any,.any,.any,.any,.any,.any,.any,.any,.any,.any,.any],[],[],none⟩):=by
 unfold Fz
 refine dG (env:=env) (l.length) (fun i=>⟨[.pv (.list 3 (l.map jL)),.pv (.func gf caps),.any,.any,.any,.any,.any,.any,.any,.pv (.list 3 (l.map jL)),.pv (.int .i64 l.length),.pv (.int .i64 i),.any,.any,.any,.any,.any,.any,.any,.any,.any,.any,.any,.any,.any,.any,.any,.any,.any,.any,.any,.any,.any,.any,.any,.any,.any,.any,.any,.any,.any,.any,.any,.any,.any,.any,.any,.any,.any,.any,.any,.any,.any],[],[],none⟩) (fun i=>some (.normal,⟨[.any,.any,.any,.any,.any,.any,.any,.any,.any,.any,.any,.any,.any,.any,.any,.any,.any,.any,.any,.any,.any,.any,.any,.any,.any,.any,.any,.any,.any,.any,.any,.any,.any,.any,.any,.any,.any,.any,.any,.any,.any,.any,.any,.any,.any,.any,.any,.any,.any,.any,.any,.any,.any],[],[],none⟩)) h (fun _=>rfl) (fun _=>rfl) ?_ ?_
 ·intro i rb hi ih
  have hi1:=cZ hi hl
  have F1:((i:Int)<(l.length:Int))=True:=eq_true (by omega)
  have e1:=hp _ (List.getElem_mem hi)
  have P:∀ x:iM,part [PV.int .i64 x.volume,.int .i64 x.start,.list 8 (x.data.map ni)] 0 (some 3)=some (.agg [.int .i64 x.volume,.int .i64 x.start,.list 8 (x.data.map ni)]):=fun x=>rfl
  unfold jL at e1
  cases i with
  |zero =>
   have Z0:(((0:Nat):Int)==0)=true:=rfl
   simp only [vU,F1,P,Z0,e1,jL,ay hi,List.getElem?_map,List.getElem?_eq_getElem hi,bI,reduceCtorEq,Nat.reduceEqDiff,Nat.reduceAdd,Nat.reduceLT,Nat.reduceLeDiff,Nat.beq]
   rw [ih _ (by simp only [hi1];rfl)]
  |succ j =>
   have hj:j<l.length:=by omega
   have Z:(((j+1:Nat):Int)==0)=false:=by simp;omega
   have W:IntKind.i64.wrap (((j+1:Nat):Int) - 1)=(j:Int):=by rw [show ((j+1:Nat):Int) - 1=(j:Int) by omega];exact bZ (by unfold lim at hl;omega)
   have ho:=hs.2 j hi
   obtain ⟨q1,q2,q3,q4⟩:=VH (hs.1 _ (List.getElem_mem hj))
   have q5:=QF hr l[j].volume.toNat
   have W2:IntKind.i64.wrap (l[j].start+(l[j].data.length:Int))=l[j].start+(l[j].data.length:Int):=bZ (by omega)
   have G1:(l[j+1].volume<l[j].volume)=False:=eq_false (by unfold agl at ho;omega)
   by_cases c:l[j+1].volume=l[j].volume
   ·have G2:(l[j+1].volume==l[j].volume)=true:=by simp [c]
    have G3:(l[j+1].start≤l[j].start+(l[j].data.length:Int))=False:=eq_false (by unfold agl at ho;omega)
    simp only [vU,F1,P,Z,W,W2,G1,G2,G3,e1,jL,ay hi,ay hj,List.getElem?_map,List.getElem?_eq_getElem hi,List.getElem?_eq_getElem hj,List.length_map,bI,reduceCtorEq,Nat.reduceEqDiff,Nat.reduceAdd,Nat.reduceLT,Nat.reduceLeDiff,Nat.beq]
    rw [ih _ (by simp only [hi1];rfl)]
   ·have G2:(l[j+1].volume==l[j].volume)=false:=by simp [c]
    simp only [vU,F1,P,Z,W,W2,G1,G2,e1,jL,ay hi,ay hj,List.getElem?_map,List.getElem?_eq_getElem hi,List.getElem?_eq_getElem hj,List.length_map,bI,reduceCtorEq,Nat.reduceEqDiff,Nat.reduceAdd,Nat.reduceLT,Nat.reduceLeDiff,Nat.beq]
    rw [ih _ (by simp only [hi1];rfl)]
 ·intro rb
  simp only [vU,Int.lt_irrefl,bI,reduceCtorEq,Nat.reduceEqDiff,Nat.reduceAdd,Nat.reduceLT,Nat.reduceLeDiff,Nat.beq]
  rfl
theorem ajh {im:iR} {l:List iM} {gf:Nat} {caps:List PV} (hp:∀ w∈l,cal env gf (jL w :: caps)=some [(.int .i64 0,false)]) (hs:acU im l) (hr:∀ v∈im,v.length≤1000000) (hl:l.length≤lim) :
  cal env 131 [.list 3 (l.map jL),.func gf caps]=some [(.int .i64 0,false)]:=by
 rw [ah air rfl];simp only [P5];simp only [start,aJ,aT,aH,aS,aA,aB,aI,aO,Nat.reduceAdd,Nat.reduceSub]
 simp only [List.length_map,bI,reduceCtorEq,Nat.reduceEqDiff,Nat.reduceAdd,Nat.reduceLT,Nat.reduceLeDiff,Nat.beq]
 rw [agm hp hs hr hl]
 rotate_left
 ·rfl
 ·simp only [bI,reduceCtorEq,Nat.reduceEqDiff,Nat.reduceAdd,Nat.reduceLT,Nat.reduceLeDiff,Nat.beq]
theorem alu {im:iR} {l:List iM} (hs:acU im l) (hc:iZ im=0) (hi:im.length≤lim) (hr:∀ v∈im,v.length≤1000000) (hl:l.length≤lim) :
  cal env 99 [.list 3 (l.map jL),.list 1 ((au im).map eI)]=some [(.int .i64 0,false)]:=by
 have hz:(au im).length≤lim:=by simpa [au] using hi
 have e1:=ag5 hz
 have hc':iy (au im)=0:=hc
 have hrn:∀ v∈nP (au im),v.length≤lim:=fun v hv=>by
  rw [pG] at hv
  obtain ⟨u,hu,rfl⟩:=List.mem_map.1 hv
  have:=hr u hu
  simp;unfold lim;omega
 have hsz:∀ w∈l,cal env 132 (jL w :: [.eF [.list 1 ((nP (au im)).map bF)] 0])=some [(.int .i64 0,false)]:=fun w hw=>by
  obtain ⟨q1,q2,q3,q4⟩:=VH (hs.1 w hw)
  have q5:=QF hr w.volume.toNat
  have:=ajg (w:=w) (im:=nP (au im)) (by rw [Gx];exact hi) hrn (by unfold lim;omega)
  rw [QG hc,hs.1 w hw] at this
  exact this
 have e2:=ajh hsz hs hr hl
 rw [hc',if_pos rfl] at e1
 have Z:((0:Int) != 0)=false:=rfl
 rw [ah ak9 rfl];simp only [abo];simp only [start,aJ,aT,aH,aS,aA,aB,aI,aO,Nat.reduceAdd,Nat.reduceSub]
 simp only [e1,e2,Z,bI,reduceCtorEq,Nat.reduceEqDiff,Nat.reduceAdd,Nat.reduceLT,Nat.reduceLeDiff,Nat.beq]
end Go.Proofs.YtioijcfcehhmdaaGreatDoor.V

namespace Go.Proofs.YtioijcfcehhmdaaGreatDoor.V
theorem Gz {size:Int}:∀ (l:List eH) (nx:Int),Af size nx l=0→(∀ e∈l,nx≤e.start∧1≤e.count)∧l.Pairwise (fun a b=>a.start+a.count<b.start)
 |[],_,_=>⟨fun e he=>(by cases he),List.Pairwise.nil⟩
 |x :: l,nx,h=>by
  unfold Af at h
  split at h
  ·omega
  ·split at h
   ·omega
   ·split at h
    ·omega
    ·obtain ⟨h1,h2⟩:=Gz l _ h
     refine ⟨fun e he=>?_,List.pairwise_cons.2 ⟨fun e he=>by have:=h1 e he;omega,h2⟩⟩
     rcases List.mem_cons.1 he with rfl|he
     ·omega
     ·have:=h1 e he;omega
theorem YH {l:List eH} {size:Int} (h:Ip l size=0):l.Pairwise (fun a b=>a.start+a.count<b.start):=by
 unfold Ip at h
 split at h
 ·omega
 ·exact (Gz l 0 h).2
theorem VI {im:iR} {v:Nat} {e:eH} (h0:0≤e.start) (h1:1≤e.count) (h2:e.start+e.count≤((im.getD v []).length:Int)):(((wOf im v e).data.length:Nat):Int)=e.count:=by
 simp only [wOf,List.length_take,List.length_drop];omega
theorem agn {im:iR} {l:List (List eH)} {n:Nat} {w:iM} (h:w∈Gw im l n):∃ v,v<n∧∃ e∈l.getD v [],w=wOf im v e:=by
 simp only [Gw,List.mem_flatMap,List.mem_range,QE,List.mem_map] at h
 obtain ⟨v,hv,e,he,rfl⟩:=h
 exact ⟨v,hv,e,he,rfl⟩
theorem acV {im:iR} {l:List (List eH)} (h:MK im l=0) {v:Nat} (hv:v<l.length) {e:eH} (he:e∈l.getD v []):0≤e.start∧1≤e.count∧e.start+e.count≤((im.getD v []).length:Int):=by
 have hf:=MN h
 have e1:l.getD v []=l[v]:=by simp [hv]
 have e2:im.getD v []=im[v]:=by simp [show v<im.length by omega]
 rw [e1] at he
 rw [e2]
 exact agj (acR h hv (by omega)) e he
theorem agp {im:iR} {l:List (List eH)} (h:MK im l=0):acU im (wrL im l):=by
 have hf:=MN h
 refine ⟨fun w hw=>?_,?_⟩
 ·obtain ⟨v,hv,e,he,rfl⟩:=agn hw
  obtain ⟨q1,q2,q3⟩:=acV h hv he
  have q4:=VI q1 q2 q3
  have e1:(wOf im v e).volume=(v:Int):=rfl
  have e2:(wOf im v e).start=e.start:=rfl
  unfold mP
  rw [if_neg (by rw [e1];omega),if_neg (by omega),if_neg (by rw [e1,e2,q4,Int.toNat_natCast];omega)]
 ·have hp:(wrL im l).Pairwise agl:=by
   unfold wrL Gw
   rw [List.pairwise_flatMap]
   refine ⟨fun v hv=>?_,?_⟩
   ·have hv:=List.mem_range.1 hv
    unfold QE
    rw [List.pairwise_map]
    have e1:l.getD v []=l[v]:=by simp [hv]
    have hp:=YH (acR h hv (by omega))
    rw [e1]
    refine List.Pairwise.imp_of_mem ?_ hp
    intro a b ha hb hab
    rw [← e1] at ha
    obtain ⟨q1,q2,q3⟩:=acV h hv ha
    have q4:=VI q1 q2 q3
    refine .inr ⟨rfl,?_⟩
    rw [q4]
    exact hab
   ·refine List.Pairwise.imp ?_ List.pairwise_lt_range
    intro a b hab x hx y hy
    obtain ⟨_,_,rfl⟩:=List.mem_map.1 hx
    obtain ⟨_,_,rfl⟩:=List.mem_map.1 hy
    exact .inl (show ((a:Nat):Int)<(b:Int) by omega)
  exact fun i hi=>List.pairwise_iff_getElem.1 hp i (i+1) (by omega) hi (by omega)
theorem acW (im:iR) (v:Nat) {x:List eH} {i:Nat} (h:i<x.length):QE im v (x.take (i+1))=QE im v (x.take i)++[wOf im v x[i]]:=by
 unfold QE;rw [List.take_succ_eq_append_getElem h,List.map_append];rfl
theorem agq (im:iR) (l:List (List eH)) {n:Nat} (h:n≤l.length):(Gw im l n).length≤(wrL im l).length:=by
 unfold wrL
 have e:l.length=n+(l.length - n):=by omega
 rw [e]
 generalize l.length - n=k
 induction k with
 |zero=>exact Nat.le_refl _
 |succ k ih=>rw [show n+(k+1)=(n+k)+1 by omega,Ag,List.length_append];omega
theorem agr (im:iR) (l:List (List eH)) {v:Nat} (hv:v<l.length) {i:Nat} (hi:i<l[v].length):(Gw im l v++QE im v (l[v].take i)).length+1≤(wrL im l).length:=by
 have h1:=agq im l (n:=v+1) (by omega)
 rw [Ag,show l.getD v []=l[v] by simp [hv]] at h1
 simp only [List.length_append,QE,List.length_map,List.length_take] at h1 ⊢
 omega
end Go.Proofs.YtioijcfcehhmdaaGreatDoor.V

namespace Go.Proofs.YtioijcfcehhmdaaGreatDoor.V
theorem alv {im:iR} {b n t:Int} {p:List Int} {w:List iM} (hs:acU im w) (hc:iZ im=0) (hi:im.length≤lim) (hr:∀ v∈im,v.length≤1000000) (hl:w.length≤lim) (hp:p.length≤20) :
  cal env 54 [ajf b n t p w,.list 1 ((au im).map eI)]=some [(.int .i64 (UH b n t p),false)]:=by
 have hz:(au im).length≤lim:=by simpa [au] using hi
 have e1:=ag5 hz
 have hc':iy (au im)=0:=hc
 rw [hc',if_pos rfl] at e1
 have e2:=acS (n:=t) (a:=0) (b:=1073741824)
 have e3:=als hp
 have e4:=alu hs hc hi hr hl
 have Z:((0:Int) != 0)=false:=rfl
 unfold ajf UH
 by_cases c1:b<0∨n≤b∨n > 1073741824
 ·rw [if_pos c1]
  rw [ah Vu rfl];simp only [Px];simp only [start,aJ,aT,aH,aS,aA,aB,aI,aO,Nat.reduceAdd,Nat.reduceSub]
  simp only [e1,Z,bI,reduceCtorEq,Nat.reduceEqDiff,Nat.reduceAdd,Nat.reduceLT,Nat.reduceLeDiff,Nat.beq]
  by_cases d1:b<0
  ·simp only [eq_true d1,bI,reduceCtorEq,Nat.reduceEqDiff,Nat.reduceAdd,Nat.reduceLT,Nat.reduceLeDiff,Nat.beq]
  ·have d1:=eq_false d1
   by_cases d2:n≤b
   ·simp only [d1,eq_true d2,bI,reduceCtorEq,Nat.reduceEqDiff,Nat.reduceAdd,Nat.reduceLT,Nat.reduceLeDiff,Nat.beq]
   ·have d3:n > 1073741824:=by simp only [d1,false_or] at c1;omega
    simp only [d1,eq_false d2,eq_true d3,bI,reduceCtorEq,Nat.reduceEqDiff,Nat.reduceAdd,Nat.reduceLT,Nat.reduceLeDiff,Nat.beq]
 ·rw [if_neg c1]
  have G1:(b<0)=False:=eq_false (by omega)
  have G2:(n≤b)=False:=eq_false (by omega)
  have G3:(n > 1073741824)=False:=eq_false (by omega)
  by_cases c2:t<0∨t > 1073741824
  ·rw [if_pos c2]
   have G4:(decide ((0:Int)≤t)&&decide (t≤1073741824))=false:=by simp;omega
   rw [G4] at e2
   rw [ah Vu rfl];simp only [Px];simp only [start,aJ,aT,aH,aS,aA,aB,aI,aO,Nat.reduceAdd,Nat.reduceSub]
   simp only [e1,e2,G1,G2,G3,Z,bI,reduceCtorEq,Nat.reduceEqDiff,Nat.reduceAdd,Nat.reduceLT,Nat.reduceLeDiff,Nat.beq]
  ·rw [if_neg c2]
   have G4:(decide ((0:Int)≤t)&&decide (t≤1073741824))=true:=by simp;omega
   rw [G4] at e2
   by_cases c3:acT p=0
   ·rw [c3] at e3
    rw [c3]
    rw [ah Vu rfl];simp only [Px];simp only [start,aJ,aT,aH,aS,aA,aB,aI,aO,Nat.reduceAdd,Nat.reduceSub]
    simp only [e1,e2,e3,e4,G1,G2,G3,Z,bI,reduceCtorEq,Nat.reduceEqDiff,Nat.reduceAdd,Nat.reduceLT,Nat.reduceLeDiff,Nat.beq]
   ·have G5:(acT p != 0)=true:=by simp [c3]
    rw [ah Vu rfl];simp only [Px];simp only [start,aJ,aT,aH,aS,aA,aB,aI,aO,Nat.reduceAdd,Nat.reduceSub]
    simp only [e1,e2,e3,G1,G2,G3,G5,Z,bI,reduceCtorEq,Nat.reduceEqDiff,Nat.reduceAdd,Nat.reduceLT,Nat.reduceLeDiff,Nat.beq]
end Go.Proofs.YtioijcfcehhmdaaGreatDoor.V

namespace Go.Proofs.YtioijcfcehhmdaaGreatDoor.V
def can:Int→List eH→Prop
 |_,[]=>True
 |nx,x :: l=>nx≤x.start∧1≤x.count∧can (x.start+x.count+1) l
def QH:Int→List eH→Int
 |nx,[]=>nx
 |_,x :: l=>QH (x.start+x.count+1) l
theorem sO:∀ (l:List eH) (nx:Int) (x:eH),QH nx (l++[x])=x.start+x.count+1
 |[],_,_=>rfl
 |y :: l,_,x=>sO l (y.start+y.count+1) x
theorem Ah:∀ (l:List eH) (nx:Int) (x:eH),can nx (l++[x]) ↔ can nx l∧QH nx l≤x.start∧1≤x.count
 |[],nx,x=>by simp [can,QH]
 |y :: l,nx,x=>by
  have:=Ah l (y.start+y.count+1) x
  show nx≤y.start∧1≤y.count∧can _ (l++[x]) ↔ (nx≤y.start∧1≤y.count∧can _ l)∧QH _ l≤x.start∧1≤x.count
  rw [this]
  constructor
  ·rintro ⟨a,b,c,d⟩;exact ⟨⟨a,b,c⟩,d⟩
  ·rintro ⟨⟨a,b,c⟩,d⟩;exact ⟨a,b,c,d⟩
theorem VJ (p:Nat→Bool):∀ n:Nat,can 0 (ext p n)∧QH 0 (ext p n)≤(n:Int)+1
 |0=>by rw [Qq];exact ⟨trivial,by simp [QH]⟩
 |n+1=>by
  obtain ⟨h1,h2⟩:=VJ p n
  rw [oD]
  split
  ·rcases lq (ext p n) with e|⟨pre,x,e⟩
   ·rw [e]
    have:vW [] n=[⟨(n:Int),1⟩]:=rfl
    rw [this]
    exact ⟨⟨by simp only;omega,by simp only;omega,trivial⟩,by simp only [QH];omega⟩
   ·rw [e] at h1 h2 ⊢
    have hx:=MJ p n x (by rw [e];simp)
    rw [sO] at h2
    obtain ⟨c1,c2,c3⟩:=(Ah _ _ _).1 h1
    rw [jE]
    split
    ·exact ⟨(Ah _ _ _).2 ⟨c1,c2,by simp only;omega⟩,by rw [sO];simp only;omega⟩
    ·exact ⟨(Ah _ _ _).2 ⟨h1,by rw [sO];simp only;omega,by simp⟩,by rw [sO];simp only;omega⟩
  ·exact ⟨h1,by omega⟩
theorem VK {size:Int}:∀ (l:List eH) (nx:Int),can nx l→(∀ x∈l,0≤x.start∧x.start+x.count≤size)→Af size nx l=0
 |[],_,_,_=>rfl
 |x :: l,nx,h,hb=>by
  obtain ⟨h1,h2,h3⟩:=h
  have hx:=hb x (by simp)
  unfold Af
  rw [if_neg (by omega),if_neg (by omega),if_neg (by omega)]
  exact VK l _ h3 fun y hy=>hb y (by simp [hy])
theorem acX (p:Nat→Bool) (n:Nat):Af n 0 (ext p n)=0:=VK _ 0 (VJ p n).1 fun x hx=>by have:=MJ p n x hx;omega
end Go.Proofs.YtioijcfcehhmdaaGreatDoor.V

namespace Go.Proofs.YtioijcfcehhmdaaGreatDoor.V
theorem getD_lt {α:Type} {l:List α} {i:Nat} {d:α} (h:i<l.length):l.getD i d=l[i]:=by simp [List.getD_eq_getElem?_getD,List.getElem?_eq_getElem h]
end Go.Proofs.YtioijcfcehhmdaaGreatDoor.V

namespace Go.Proofs.YtioijcfcehhmdaaGreatDoor.V
def ND (a:Pt):List (List eH):=a.dirty.map bmX
def mkW (a:Pt):List iM:=wrL a.img (ND a)
theorem uH (a:Pt):(ND a).length=a.dirty.length:=by unfold ND;exact List.length_map ..
theorem UJ {a:Pt} {i:Nat} (h:i<a.dirty.length):(ND a)[i]'(by rw [uH];exact h)=bmX a.dirty[i]:=by unfold ND;exact List.getElem_map ..
theorem VL {a:Pt} (h:iJ a=0) {i:Nat} (hi:i<a.dirty.length) (hj:i<a.img.length):bmX a.dirty[i]=ext (bit a.dirty[i].ws) a.img[i].length:=by
 obtain ⟨_,_,h3,h4⟩:=pz h
 obtain ⟨k1,k2⟩:=Gj h4 i hi hj
 unfold bmX L8
 rw [if_pos k1,k2,Int.toNat_natCast]
theorem aji {a:Pt} (h:iJ a=0) (hv:∀ v∈a.img,v.length≤4096):MK a.img (ND a)=0:=by
 obtain ⟨_,_,h3,_⟩:=pz h
 have hl:(ND a).length=a.img.length:=by rw [uH,h3]
 unfold MK
 rw [if_neg (by omega),if_neg]
 intro hc
 have hm:=List.contains_iff_mem.1 hc
 unfold agh acQ at hm
 obtain ⟨i,hi,e⟩:=List.mem_mapIdx.1 hm
 have hi1:i<a.dirty.length:=by rw [uH] at hi;exact hi
 have hi2:i<a.img.length:=by omega
 have hz:=hv _ (List.getElem_mem hi2)
 have e0:a.img.getD i []=a.img[i]:=getD_lt hi2
 rw [UJ hi1,VL h hi1 hi2,e0] at e
 have:Ip (ext (bit a.dirty[i].ws) a.img[i].length) (a.img[i].length:Int)=0:=by
  unfold Ip
  rw [if_neg (by omega)]
  exact acX _ _
 rw [this] at e
 simp at e
theorem acY {a:Pt} (h:iJ a=0) {k:Nat} (hv:∀ v∈a.img,v.length≤k):∀ x∈ND a,x.length≤k:=fun x hx=>by
 obtain ⟨_,_,h3,_⟩:=pz h
 obtain ⟨i,hi,rfl⟩:=List.mem_iff_getElem.1 hx
 have hi1:i<a.dirty.length:=by rw [uH] at hi;exact hi
 have hi2:i<a.img.length:=by omega
 rw [UJ hi1,VL h hi1 hi2]
 exact Nat.le_trans (MI _ _) (hv _ (List.getElem_mem hi2))
theorem acZ {im:iR} {l:List (List eH)} {k:Nat} (hr:∀ x∈l,x.length≤k):∀ n,n≤l.length→(Gw im l n).length≤k * n
 |0,_=>by simp [Gw]
 |n+1,h=>by
  have ih:=acZ (im:=im) hr n (by omega)
  have h2:=hr _ (List.getElem_mem (show n<l.length by omega))
  rw [Ag,List.length_append,show l.getD n []=l[n] by simp [show n<l.length by omega],Nat.mul_add,Nat.mul_one]
  simp only [QE,List.length_map]
  omega
theorem ajj {a:Pt} (h:iJ a=0) (hl:a.img.length≤9) (hv:∀ v∈a.img,v.length≤24):(mkW a).length≤216:=by
 obtain ⟨_,_,h3,_⟩:=pz h
 have h1:=acZ (im:=a.img) (acY h hv) (ND a).length (Nat.le_refl _)
 have h2:(ND a).length=a.img.length:=by rw [uH,h3]
 unfold mkW wrL
 omega
def okM (im:iR) (l:List (List eH)):Prop:=MK im l=0∧im.length≤lim∧(∀ v∈im,v.length≤1000000)∧(∀ x∈l,x.length≤10000)∧(wrL im l).length≤1000000
theorem aly {a:Pt} (h:iJ a=0) (hl:a.img.length≤9) (hv:∀ v∈a.img,v.length≤24):okM a.img (ND a):=by
 have hlim:lim=1073741824:=rfl
 refine ⟨aji h fun v hx=>by have:=hv v hx;omega,by omega,fun v hx=>by have:=hv v hx;omega,fun x hx=>by have:=acY h hv x hx;omega,?_⟩
 have:=ajj h hl hv
 unfold mkW at this
 omega
theorem mk_one {im:iR} {l:List (List eH)} (h:okM im l) {v i:Nat} (hv:v<l.length) (hi:i<l[v].length):∃ hvi:v<im.length,
  (0≤l[v][i].start∧l[v][i].start≤((l[v][i].start+l[v][i].count).toNat:Int))∧(0≤l[v][i].start+l[v][i].count∧l[v][i].start+l[v][i].count≤(im[v].length:Int))∧IntKind.i64.wrap (l[v][i].start+l[v][i].count)=l[v][i].start+l[v][i].count ∧
  (l[v][i].start+l[v][i].count).toNat - l[v][i].start.toNat=l[v][i].count.toNat∧(((im[v].map ni).drop l[v][i].start.toNat).take l[v][i].count.toNat).length≤lim∧(Gw im l v++QE im v (l[v].take i)).length+1≤lim ∧
  (Gw im l v++QE im v (l[v].take (i+1))).map jL=(Gw im l v++QE im v (l[v].take i)).map jL++[.agg [.int .i64 (v:Int),.int .i64 l[v][i].start,.list 8 (((im[v].map ni).drop l[v][i].start.toNat).take l[v][i].count.toNat)]]:=by
 obtain ⟨hf,him,hri,hr,hL⟩:=h
 have hlim:lim=1073741824:=rfl
 have hvi:v<im.length:=by have:=MN hf;omega
 obtain ⟨q1,q2,q3⟩:=acV hf hv (e:=l[v][i]) (by rw [show l.getD v []=l[v] by simp [hv]];exact List.getElem_mem hi)
 have e8:im.getD v []=im[v]:=by simp [hvi]
 rw [e8] at q3
 have hvl:=hri _ (List.getElem_mem hvi)
 have hL2:=agr im l hv hi
 refine ⟨hvi,by omega,by omega,bZ (by omega),by omega,by simp;omega,by omega,?_⟩
 rw [acW im v hi];simp [jL,wOf,hvi,List.map_take,List.map_drop]
theorem VN {im:iR} {v:Nat} (h:v<im.length):(im.map bF)[v]?=some (.list 8 (im[v].map ni)):=by rw [List.getElem?_map,List.getElem?_eq_getElem h];rfl
theorem ac0 {l:List eH} {i:Nat} (h:i<l.length):(l.map dW)[i]?=some (.agg [.int .i64 l[i].start,.int .i64 l[i].count]):=by rw [List.getElem?_map,List.getElem?_eq_getElem h];rfl
theorem ags {l:List Bm} {i:Nat} (h:i<l.length):(l.map jQ)[i]?=some (.agg [.int .i64 l[i].size,.list 1 (l[i].ws.map eW)]):=by rw [List.getElem?_map,List.getElem?_eq_getElem h];rfl
theorem ajk {a:Pt} {q:List BV} {l:List (List eH)} {v:Nat} (h0:okM a.img l) (hv:v<l.length) {st:St} (h:st.head [1,3,4,9,10,11,17,18,19,43] st.boxes.length=some ⟨sl 47 [(1,.aV 0 0),(3,.row 3 ((Gw a.img l v++QE a.img v (l[v].take ((0:Nat)))).map jL)),(4,.pv (.int .i64 v)),(9,.pv (.list 2 (a.dirty.map jQ))),(10,.pv (.int .i64 a.dirty.length)),(11,.pv (.int .i64 v)),(17,.row 2 (l[v].map dW)),(18,.pv (.int .i64 l[v].length)),(19,.pv (.int .i64 (0:Nat))),(43,.any)],[⟨false,wu a⟩,⟨false,q⟩],[],none⟩) :
  den env LD st=some (.normal,⟨sl 47 [(1,.aV 0 0),(2,.any),(3,.row 3 ((Gw a.img l (v+1)).map jL)),(9,.pv (.list 2 (a.dirty.map jQ))),(10,.pv (.int .i64 a.dirty.length)),(11,.pv (.int .i64 v)),(43,.any)],[⟨false,wu a⟩,⟨false,q⟩],[],none⟩):=by
 unfold LD
 refine dG (env:=env) (nb:=2) (l[v].length) (fun i=>⟨sl 47 [(1,.aV 0 0),(3,.row 3 ((Gw a.img l v++QE a.img v (l[v].take (i))).map jL)),(4,.pv (.int .i64 v)),(9,.pv (.list 2 (a.dirty.map jQ))),(10,.pv (.int .i64 a.dirty.length)),(11,.pv (.int .i64 v)),(17,.row 2 (l[v].map dW)),(18,.pv (.int .i64 l[v].length)),(19,.pv (.int .i64 i)),(43,.any)],[⟨false,wu a⟩,⟨false,q⟩],[],none⟩) (fun i=>some (.normal,⟨sl 47 [(1,.aV 0 0),(2,.any),(3,.row 3 ((Gw a.img l (v+1)).map jL)),(9,.pv (.list 2 (a.dirty.map jQ))),(10,.pv (.int .i64 a.dirty.length)),(11,.pv (.int .i64 v)),(43,.any)],[⟨false,wu a⟩,⟨false,q⟩],[],none⟩)) h (fun _=>rfl) (fun _=>by simp only [aK,dB,Nat.reduceMul,Nat.reduceBEq,Nat.reduceLT,Nat.reduceLeDiff,Nat.reduceAdd,decide_true,Bool.and_self,Bool.true_and]) ?_ ?_
 ·intro i rb hi ih
  have hi1:=cZ hi (Nat.le_trans (h0.2.2.2.1 _ (List.getElem_mem hv)) (by decide))
  have F1:((i:Int)<(l[v].length:Int))=True:=eq_true (by omega)
  obtain ⟨hvi,b1,b2,W,e6,f3,f2,e5⟩:=mk_one h0 hv hi
  have hx:=ac0 hi
  have hy:=VN hvi
  have P2:∀ a b:PV,part [a,b] 0 (some 2)=some (.agg [a,b]):=fun _ _=>rfl
  have B1:=eq_true b1
  have B2:=eq_true b2
  have F2:=eq_true f2
  have g5:=alb (es:=((a.img[v].map ni).drop l[v][i].start.toNat).take l[v][i].count.toNat) f3
  simp only [LC,F1,F2,hx,hy,P2,W,B1,B2,e6,g5,aY,ay hvi,ay hi,List.length_map,aN,Nat.reduceMul,Nat.reduceBEq,Nat.reduceLT,Nat.reduceLeDiff,reduceCtorEq,Nat.reduceEqDiff,Nat.reduceAdd,Nat.beq]
  rw [ih _ (by simp only [hi1];rw [e5];simp only [aY,aN,Nat.reduceMul,Nat.reduceBEq,Nat.reduceLT,Nat.reduceLeDiff,reduceCtorEq,Nat.reduceEqDiff,Nat.reduceAdd,Nat.beq]<;>rfl)]
  all_goals rfl
 ·intro rb
  have e9:Gw a.img l v++QE a.img v l[v]=Gw a.img l (v+1):=by rw [Ag,show l.getD v []=l[v] by simp [hv]]
  rw [List.take_length,e9]
  simp only [LC,Int.lt_irrefl,aY,List.length_map,aN,Nat.reduceMul,Nat.reduceBEq,Nat.reduceLT,Nat.reduceLeDiff,reduceCtorEq,Nat.reduceEqDiff,Nat.reduceAdd,Nat.beq]
theorem ac4 {a:Pt} (h0:okM a.img (ND a)) (hd:a.dirty.length≤lim) {st:St} (h:st.head [1,3,9,10,11,43] st.boxes.length=some ⟨sl 47 [(1,.aV 0 0),(3,.row 3 ((Gw a.img (ND a) ((0:Nat))).map jL)),(9,.pv (.list 2 (a.dirty.map jQ))),(10,.pv (.int .i64 a.dirty.length)),(11,.pv (.int .i64 (0:Nat))),(43,.any)],[⟨false,wu a⟩],[],none⟩) :
  den env LH st=some (.normal,⟨sl 47 [(2,.any),(3,.row 3 ((mkW a).map jL))],[⟨false,wu a⟩],[],none⟩):=by
 unfold LH
 refine dG (env:=env) (nb:=1) (a.dirty.length) (fun i=>⟨sl 47 [(1,.aV 0 0),(3,.row 3 ((Gw a.img (ND a) (i)).map jL)),(9,.pv (.list 2 (a.dirty.map jQ))),(10,.pv (.int .i64 a.dirty.length)),(11,.pv (.int .i64 i)),(43,.any)],[⟨false,wu a⟩],[],none⟩) (fun i=>some (.normal,⟨sl 47 [(2,.any),(3,.row 3 ((mkW a).map jL))],[⟨false,wu a⟩],[],none⟩)) h (fun _=>rfl) (fun _=>by simp only [aK,dB,Nat.reduceMul,Nat.reduceBEq,Nat.reduceLT,Nat.reduceLeDiff,Nat.reduceAdd,decide_true,Bool.and_self,Bool.true_and]) ?_ ?_
 ·intro i rb hi ih
  have hi1:=cZ hi hd
  have F1:((i:Int)<(a.dirty.length:Int))=True:=eq_true (by omega)
  have hx:=ags hi
  have P2:∀ a b:PV,part [a,b] 0 (some 2)=some (.agg [a,b]):=fun _ _=>rfl
  have e1:cal env 94 [.agg [.int .i64 a.dirty[i].size,.list 1 (a.dirty[i].ws.map eW)]]=_:=aha (b:=a.dirty[i])
  have hm:i<(ND a).length:=by rw [uH];exact hi
  rw [← UJ hi] at e1
  simp only [LG,F1,hx,P2,e1,aY,ay hi,List.length_map,aN,Nat.reduceMul,Nat.reduceBEq,Nat.reduceLT,Nat.reduceLeDiff,reduceCtorEq,Nat.reduceEqDiff,Nat.reduceAdd,Nat.beq]
  rw [ajk (a:=a) (l:=ND a) (v:=i) h0 hm (by simp only [List.take_zero,show QE a.img i []=[] from rfl,List.append_nil,aY];simp only [aK,dB,Nat.reduceMul,Nat.reduceBEq,Nat.reduceLT,Nat.reduceLeDiff,Nat.reduceAdd,decide_true,Bool.and_self,Bool.true_and]<;>rfl)]
  simp only [aY,aN,Nat.reduceMul,Nat.reduceBEq,Nat.reduceLT,Nat.reduceLeDiff,reduceCtorEq,Nat.reduceEqDiff,Nat.reduceAdd,Nat.beq]
  rw [ih _ (by simp only [hi1,aY,aN,Nat.reduceMul,Nat.reduceBEq,Nat.reduceLT,Nat.reduceLeDiff,reduceCtorEq,Nat.reduceEqDiff,Nat.reduceAdd,Nat.beq]<;>rfl)]
  all_goals rfl
 ·intro rb
  simp only [LG,Int.lt_irrefl,aY,List.length_map,aN,Nat.reduceMul,Nat.reduceBEq,Nat.reduceLT,Nat.reduceLeDiff,reduceCtorEq,Nat.reduceEqDiff,Nat.reduceAdd,Nat.beq]
  unfold mkW wrL
  rw [uH]
theorem alz {a:Pt} (h0:okM a.img (ND a)) (hd:a.dirty.length≤lim):cal env 53 [CZ a]=some [(.list 3 ((mkW a).map jL),true)]:=by
 rw [fC]
 rw [ah akV rfl];simp only [aa8,aK,Nat.reduceBEq,Nat.reduceLeDiff,Nat.reduceAdd,List.length_cons,List.length_nil]
 simp only [List.length_map,aN,Nat.reduceMul,Nat.reduceBEq,Nat.reduceLT,Nat.reduceLeDiff,reduceCtorEq,Nat.reduceEqDiff,Nat.reduceAdd,Nat.beq]
 rw [ac4 (a:=a) h0 hd (by simp only [show Gw a.img (ND a) 0=[] from rfl,List.map_nil,aY];simp only [aK,dB,Nat.reduceMul,Nat.reduceBEq,Nat.reduceLT,Nat.reduceLeDiff,Nat.reduceAdd,decide_true,Bool.and_self,Bool.true_and]<;>rfl)]
 simp only [aY,aN,Nat.reduceMul,Nat.reduceBEq,Nat.reduceLT,Nat.reduceLeDiff,reduceCtorEq,Nat.reduceEqDiff,Nat.reduceAdd,Nat.beq]
end Go.Proofs.YtioijcfcehhmdaaGreatDoor.V

namespace Go.Proofs.YtioijcfcehhmdaaGreatDoor.V
def GH (l:List iM):Bool:=(l.take 60).all (fun w=>decide (w.data.length≤24))&&decide (l.length≤40)
theorem JK {l:List iM} (h:GH l=true):l.length≤40∧∀ w∈l,w.data.length≤24:=by
 unfold GH at h
 simp only [Bool.and_eq_true,decide_eq_true_eq] at h
 rw [List.take_of_length_le (by omega)] at h
 exact ⟨h.2,fun w hw=>by have:=List.all_eq_true.1 h.1 w hw;simpa using this⟩
theorem ajl {l:List iM} {st:St} (h:st.head [0,3] st.boxes.length=some ⟨[.pv (.list 3 (l.map jL)),.any,.any,.pv (.int .i64 (0:Nat)),.any,.any,.any,.any,.any,.any,.any,.any,.any,.any,.any,.any,.any,.any,.any,.any,.any,.any,.any,.any],[],[],none⟩) :
  den env LJ st=if (l.take 60).all (fun w=>decide (w.data.length≤24)) then some (.normal,⟨[.pv (.list 3 (l.map jL)),.any,.any,.any,.any,.any,.any,.any,.any,.any,.any,.any,.any,.any,.any,.any,.any,.any,.any,.any,.any,.any,.any,.any],[],[],none⟩) else some (.ret,⟨[.pv (.list 3 (l.map jL)),.any,.pv (.bool false),.any,.any,.any,.any,.any,.any,.any,.any,.any,.any,.any,.any,.any,.any,.any,.any,.any,.any,.any,.any,.any],[],[],none⟩):=by
 unfold LJ
 rw [ dG (env:=env) ((l.take 60).length) (fun i=>⟨[.pv (.list 3 (l.map jL)),.any,.any,.pv (.int .i64 i),.any,.any,.any,.any,.any,.any,.any,.any,.any,.any,.any,.any,.any,.any,.any,.any,.any,.any,.any,.any],[],[],none⟩) (fun i=>if ((l.take 60).drop i).all (fun w=>decide (w.data.length≤24)) then some (.normal,⟨[.pv (.list 3 (l.map jL)),.any,.any,.any,.any,.any,.any,.any,.any,.any,.any,.any,.any,.any,.any,.any,.any,.any,.any,.any,.any,.any,.any,.any],[],[],none⟩) else some (.ret,⟨[.pv (.list 3 (l.map jL)),.any,.pv (.bool false),.any,.any,.any,.any,.any,.any,.any,.any,.any,.any,.any,.any,.any,.any,.any,.any,.any,.any,.any,.any,.any],[],[],none⟩)) h (fun _=>rfl) (fun _=>rfl) ?_ ?_]
 ·first|rfl|simp only [List.drop_zero,List.take_zero,List.map_nil,Nat.zero_add,List.nil_append,List.foldl_nil]
 ·intro i rb hi ih
  have hlim:lim=1073741824:=rfl
  have aqy:i<60:=by rw [List.length_take] at hi;omega
  have hil:i<l.length:=by rw [List.length_take] at hi;omega
  have hi1:=cZ (show i<i+1 by omega) (by omega)
  have F1:((i:Int)<(l.length:Int))=True:=eq_true (by omega)
  have F2:((i:Int)<60)=True:=eq_true (by omega)
  rw [List.drop_eq_getElem_cons hi,List.all_cons]
  have hx:l[i]?=some (l.take 60)[i]:=by rw [List.getElem_take];exact List.getElem?_eq_getElem hil
  generalize (l.take 60)[i]=w at *
  simp only [zU,F1,F2,hx,jL,ay hil,List.getElem?_map,Option.map_some,List.length_map,bI,reduceCtorEq,Nat.reduceEqDiff,Nat.reduceAdd,Nat.reduceLT,Nat.reduceLeDiff,Nat.beq]
  (try simp only [fA,gB,fB]);refine dQ (fun hb=>?_) (fun hb=>?_)<;>try simp only [hb,bI,reduceCtorEq,Nat.reduceEqDiff,Nat.reduceAdd,Nat.reduceLT,Nat.reduceLeDiff,Nat.beq]
  ·rw [decide_eq_false (by simp at hb;omega)];rfl
  ·rw [ih _ (by simp only [hi1];rfl),decide_eq_true (show w.data.length≤24 by simp at hb;omega),Bool.true_and]
 ·intro rb
  rw [List.drop_length]
  by_cases c:l.length<60
  ·have hn:(l.take 60).length=l.length:=by rw [List.length_take];omega
   rw [hn]
   simp only [zU,Int.lt_irrefl,bI,reduceCtorEq,Nat.reduceEqDiff,Nat.reduceAdd,Nat.reduceLT,Nat.reduceLeDiff,Nat.beq]
   rfl
  ·have hn:(l.take 60).length=60:=by rw [List.length_take];omega
   rw [hn]
   by_cases c2:l.length=60
   ·have F1:(((60:Nat):Int)<(l.length:Int))=False:=eq_false (by omega)
    simp only [zU,F1,List.length_map,bI,reduceCtorEq,Nat.reduceEqDiff,Nat.reduceAdd,Nat.reduceLT,Nat.reduceLeDiff,Nat.beq]
    rfl
   ·have F1:(((60:Nat):Int)<(l.length:Int))=True:=eq_true (by omega)
    have F2:(((60:Nat):Int)<60)=False:=eq_false (by omega)
    simp only [zU,F1,F2,List.length_map,bI,reduceCtorEq,Nat.reduceEqDiff,Nat.reduceAdd,Nat.reduceLT,Nat.reduceLeDiff,Nat.beq]
    rfl
theorem alA {l:List iM}:cal env 65 [.list 3 (l.map jL)]=some [(.bool (GH l),false)]:=by
 rw [ah akW rfl];simp only [aa9];simp only [start,aJ,aT,aH,aS,aA,aB,aI,aO,Nat.reduceAdd,Nat.reduceSub]
 simp only [bI,reduceCtorEq,Nat.reduceEqDiff,Nat.reduceAdd,Nat.reduceLT,Nat.reduceLeDiff,Nat.beq]
 rw [ajl (l:=l)]
 rotate_left
 ·rfl
 unfold GH
 have F1:decide ((l.length:Int)≤40)=decide (l.length≤40):=decide_eq_decide.2 (by omega)
 cases (l.take 60).all (fun w=>decide (w.data.length≤24))<;>simp only [F1,if_true,if_false,Bool.false_eq_true,bI,reduceCtorEq,Nat.reduceEqDiff,Nat.reduceAdd,Nat.reduceLT,Nat.reduceLeDiff,Nat.beq]
end Go.Proofs.YtioijcfcehhmdaaGreatDoor.V
