/-
  Part 7 of the texts that the statement stands on.
-/
import Derived.Test.YtpcncggjmabnaaaGreatDoorZ6
set_option linter.all false
namespace Go.Proofs.YtpcncggjmabnaaaGreatDoor.V
structure ajx where
 d0:Int
 d1:Int
 st:Int
 ins:Bool
 out:List fG
def mP (keep:Bool→Bool→Bool) (x:End) (same:Bool) (s:ajx):ajx :=
 if same then ⟨if x.list=0 then s.d0+x.step else s.d0,if x.list=1 then s.d1+x.step else s.d1,s.st,s.ins,s.out⟩
 else ⟨if x.list=0 then s.d0+x.step else s.d0,if x.list=1 then s.d1+x.step else s.d1,
  if keep (decide ((if x.list=0 then s.d0+x.step else s.d0) > 0)) (decide ((if x.list=1 then s.d1+x.step else s.d1) > 0))&&!s.ins then x.pos else s.st,
  keep (decide ((if x.list=0 then s.d0+x.step else s.d0) > 0)) (decide ((if x.list=1 then s.d1+x.step else s.d1) > 0)),
  s.out++(if !keep (decide ((if x.list=0 then s.d0+x.step else s.d0) > 0)) (decide ((if x.list=1 then s.d1+x.step else s.d1) > 0))&&s.ins then [⟨s.st,x.pos - s.st⟩] else [])⟩
def jK (keep:Bool→Bool→Bool) (L:List End):Nat→ajx
 |0=>⟨0,0,0,false,[]⟩
 |i+1=>match L[i]? with
  |some x=>mP keep x (jG x (L.drop (i+1))) (jK keep L i)
  |none=>jK keep L i
theorem Ar {keep:Bool→Bool→Bool} {L:List End} {i:Nat} {x:End} (h:L[i]?=some x):jK keep L (i+1)=mP keep x (jG x (L.drop (i+1))) (jK keep L i):=by
 show (match L[i]? with
  |some x=>mP keep x (jG x (L.drop (i+1))) (jK keep L i)
  |none=>jK keep L i)=_
 rw [h]
theorem VL (keep:Bool→Bool→Bool) (L:List End):∀ i,i≤L.length→(jK keep L i).out++Aj keep (L.drop i) (jK keep L i).d0 (jK keep L i).d1 (jK keep L i).st (jK keep L i).ins=Aj keep L 0 0 0 false
 |0,_=>rfl
 |i+1,hi=>by
  have ih:=VL keep L i (by omega)
  have hx:L[i]?=some L[i]:=List.getElem?_eq_getElem (by omega)
  rw [← ih,Ar hx,List.drop_eq_getElem_cons (show i<L.length by omega)]
  generalize L[i]=x
  generalize jK keep L i=s
  conv=>rhs;unfold Aj
  unfold mP
  cases jG x (L.drop (i+1)) with
  |true=>rfl
  |false=>simp only [Bool.false_eq_true,if_false,List.append_assoc]
theorem ac0 (keep:Bool→Bool→Bool) (L:List End):(jK keep L L.length).out=Aj keep L 0 0 0 false:=by
 have:=VL keep L L.length (Nat.le_refl _)
 rw [List.drop_length] at this
 simpa [Aj] using this
theorem Fq {keep:Bool→Bool→Bool} {L:List End} (h:∀ x∈L,(x.step=1∨x.step=-1)∧x.pos≤4096):∀ i:Nat,(-(i:Int)≤(jK keep L i).d0∧(jK keep L i).d0≤i)∧(-(i:Int)≤(jK keep L i).d1∧(jK keep L i).d1≤i)∧(0≤(jK keep L i).st∧(jK keep L i).st≤4096)
 |0=>by simp [jK]
 |i+1=>by
  obtain ⟨h1,h2,h3⟩:=Fq (keep:=keep) h i
  cases hx:L[i]? with
  |none =>
   have:jK keep L (i+1)=jK keep L i:=by
    show (match L[i]? with
     |some x=>mP keep x (jG x (L.drop (i+1))) (jK keep L i)
     |none=>jK keep L i)=_
    rw [hx]
   rw [this]
   omega
  |some x =>
   rw [Ar hx]
   obtain ⟨k1,k2⟩:=h x (List.mem_of_getElem? hx)
   generalize jK keep L i=s at *
   unfold mP
   split
   ·simp only
    refine ⟨?_,?_,h3⟩
    ·split<;>omega
    ·split<;>omega
   ·simp only
    refine ⟨?_,?_,?_⟩
    ·split<;>omega
    ·split<;>omega
    ·split<;>omega
def yE (l:List fG):List (List PV):=l.map fun x=>[dw x]
theorem LJ (l m:List fG):yE (l++m)=yE l++yE m:=by simp [yE]
theorem VN (n m:Nat):((n:Int)==(m:Int))=decide (n=m):=by
 by_cases h:n=m
 ·subst h;simp
 ·rw [decide_eq_false h];simp;omega
set_option maxRecDepth 20000 in
set_option maxHeartbeats 2000000 in
theorem agh {keep:Bool→Bool→Bool} {kf:Nat} (hk:∀ p q,cal env kf [.bool p,.bool q]=some [(.bool (keep p q),false)]) {L:List End} (hL:∀ x∈L,((x.step=1∨x.step=-1)∧x.pos≤4096)∧x.list<2) (hl:L.length≤1000000)
  {st:St} (h:st.head [0,3,5,6,7,8,15,16,17,18] st.boxes.length=some ⟨sl 80 [(0,.rF),(3,.pv (.dN [.func kf []] 0)),(5,.row 3 (L.map jc)),(6,.aF 0 0),(7,.pv (.int .i64 0)),(8,.pv (.bool false)),(15,.any),(16,.ref (.slot 5) 0 L.length),(17,.pv (.int .i64 L.length)),(18,.pv (.int .i64 (0:Nat)))],[⟨false,[.pv (.int .i64 0),.pv (.int .i64 0)]⟩],[],some none⟩) :
  den env EM st=some (.normal,⟨sl 80 [],[⟨false,[.pv (.int .i64 (jK keep L L.length).d0),.pv (.int .i64 (jK keep L L.length).d1)]⟩],yE (jK keep L L.length).out,some none⟩):=by
 unfold EM
 have hlim:lim=1073741824:=rfl
 have hsm:=Fq (keep:=keep) fun x hx=>(hL x hx).1
 refine bC (env:=env) L.length (fun i=>⟨sl 80 [(0,.rF),(3,.pv (.dN [.func kf []] 0)),(5,.row 3 (L.map jc)),(6,.aF 0 0),(7,.pv (.int .i64 (jK keep L i).st)),(8,.pv (.bool (jK keep L i).ins)),(15,.any),(16,.ref (.slot 5) 0 L.length),(17,.pv (.int .i64 L.length)),(18,.pv (.int .i64 i))],[⟨false,[.pv (.int .i64 (jK keep L i).d0),.pv (.int .i64 (jK keep L i).d1)]⟩],yE (jK keep L i).out,some none⟩) (fun _=>some (.normal,⟨sl 80 [],[⟨false,[.pv (.int .i64 (jK keep L L.length).d0),.pv (.int .i64 (jK keep L L.length).d1)]⟩],yE (jK keep L L.length).out,some none⟩)) h (fun _=>rfl) (fun _=>by simp only [aB,bg,Nat.reduceMul,Nat.reduceBEq,Nat.reduceLT,Nat.reduceLeDiff,Nat.reduceAdd,decide_true,Bool.and_self,Bool.true_and]) ?_ ?_
 ·intro i rb hi ih
  have hi1:=bG hi (by omega)
  have F1:((i:Int)<(L.length:Int))=True:=eq_true (by omega)
  have hx:L[i]?=some L[i]:=List.getElem?_eq_getElem hi
  obtain ⟨⟨x1,x2⟩,x3⟩:=hL _ (List.getElem_mem hi)
  have amh:=Ar (keep:=keep) hx
  obtain ⟨⟨s1,s2⟩,⟨s3,s4⟩,s5,s6⟩:=hsm i
  rw [amh] at ih
  clear amh
  generalize L[i]=x at *
  generalize hs:jK keep L i=s at *
  obtain ⟨d0,d1,sp,ins,out⟩:=s
  obtain ⟨p,k,t⟩:=x
  simp only at x1 x2 x3 s1 s2 s3 s4 s5 s6 ih
  have hlist:k=0∨k=1:=by omega
  have W0:IntKind.i64.wrap (d0+t)=d0+t:=bn (by omega)
  have W1:IntKind.i64.wrap (d1+t)=d1+t:=bn (by omega)
  have W2:IntKind.i64.wrap ((p:Int) - sp)=(p:Int) - sp:=bn (by omega)
  have I0:index (.int .i64 0) 2=some 0:=rfl
  have I1:index (.int .i64 1) 2=some 1:=rfl
  have IN0:index (.int .i64 ((0:Nat):Int)) 2=some 0:=rfl
  have IN1:index (.int .i64 ((1:Nat):Int)) 2=some 1:=rfl
  have P3:∀ a b c:PV,part [a,b,c] 0 (some 3)=some (.agg [a,b,c]):=fun a b c=>rfl
  -- the next end
  have hnx:(∃ y,L[i+1]?=some y∧jG ⟨p,k,t⟩ (L.drop (i+1))=decide (y.pos=p)∧(((i+1:Nat):Int)<(L.length:Int))∧index (.int .i64 ((i+1:Nat):Int)) L.length=some (i+1))∨(jG ⟨p,k,t⟩ (L.drop (i+1))=false∧¬ (((i+1:Nat):Int)<(L.length:Int))):=by
   by_cases hlt:i+1<L.length
   ·left
    refine ⟨L[i+1],List.getElem?_eq_getElem hlt,?_,by omega,aj hlt⟩
    rw [List.drop_eq_getElem_cons hlt];rfl
   ·right
    refine ⟨?_,by omega⟩
    rw [List.drop_eq_nil_of_le (by omega)];rfl
  rcases hlist with rfl|rfl
  ·-- list 0
   have e1:=hk (decide (d0+t > 0)) (decide (d1 > 0))
   have same:mP keep ⟨p,0,t⟩ true ⟨d0,d1,sp,ins,out⟩=⟨d0+t,d1,sp,ins,out⟩:=by simp [mP]
   have diff:mP keep ⟨p,0,t⟩ false ⟨d0,d1,sp,ins,out⟩=⟨d0+t,d1,if keep (decide (d0+t > 0)) (decide (d1 > 0))&&!ins then (p:Int) else sp,keep (decide (d0+t > 0)) (decide (d1 > 0)),out++(if !keep (decide (d0+t > 0)) (decide (d1 > 0))&&ins then [⟨sp,(p:Int) - sp⟩] else [])⟩:=by simp [mP]
   rcases hnx with ⟨y,hy,hns,hlt,hix⟩|⟨hns,hlt⟩
   ·have F2:(((i+1:Nat):Int)<(L.length:Int))=True:=eq_true hlt
    rw [hns] at ih
    have B:=VN y.pos p
    generalize hb:decide (y.pos=p)=b at ih B
    cases b with
    |true =>
     rw [same] at ih
     simp only [oG,F1,hx,hi1,W0,W1,W2,I0,I1,IN0,IN1,P3,jc,aj hi,List.getElem?_map,Option.map_some,List.length_map,List.length_cons,List.length_nil,F2,hy,hix,B,au,Nat.reduceMul,Nat.reduceBEq,Nat.reduceLT,Nat.reduceLeDiff,reduceCtorEq,Nat.reduceEqDiff,Nat.reduceAdd,Nat.beq]
     rw [ih _ (by simp only [hi1,au,Nat.reduceMul,Nat.reduceBEq,Nat.reduceLT,Nat.reduceLeDiff,reduceCtorEq,Nat.reduceEqDiff,Nat.reduceAdd,Nat.beq]<;>rfl)]
    |false =>
     rw [diff] at ih
     generalize keep (decide (d0+t > 0)) (decide (d1 > 0))=now at *
     cases now<;>cases ins<;>simp only [Bool.not_true,Bool.not_false,Bool.and_true,Bool.and_false,Bool.and_self,Bool.false_eq_true,if_true,if_false,List.append_nil,LJ] at ih<;>simp only [oG,F1,hx,hi1,W0,W1,W2,I0,I1,IN0,IN1,P3,jc,aj hi,List.getElem?_map,Option.map_some,List.length_map,List.length_cons,List.length_nil,F2,hy,hix,B,e1,au,Nat.reduceMul,Nat.reduceBEq,Nat.reduceLT,Nat.reduceLeDiff,reduceCtorEq,Nat.reduceEqDiff,Nat.reduceAdd,Nat.beq]<;>rw [ih _ (by simp only [hi1,yE,List.map_cons,List.map_nil,dw,au,Nat.reduceMul,Nat.reduceBEq,Nat.reduceLT,Nat.reduceLeDiff,reduceCtorEq,Nat.reduceEqDiff,Nat.reduceAdd,Nat.beq]<;>rfl)]
   ·have F2:(((i+1:Nat):Int)<(L.length:Int))=False:=eq_false hlt
    rw [hns,diff] at ih
    generalize keep (decide (d0+t > 0)) (decide (d1 > 0))=now at *
    cases now<;>cases ins<;>simp only [Bool.not_true,Bool.not_false,Bool.and_true,Bool.and_false,Bool.and_self,Bool.false_eq_true,if_true,if_false,List.append_nil,LJ] at ih<;>simp only [oG,F1,hx,hi1,W0,W1,W2,I0,I1,IN0,IN1,P3,jc,aj hi,List.getElem?_map,Option.map_some,List.length_map,List.length_cons,List.length_nil,F2,e1,au,Nat.reduceMul,Nat.reduceBEq,Nat.reduceLT,Nat.reduceLeDiff,reduceCtorEq,Nat.reduceEqDiff,Nat.reduceAdd,Nat.beq]<;>rw [ih _ (by simp only [hi1,yE,List.map_cons,List.map_nil,dw,au,Nat.reduceMul,Nat.reduceBEq,Nat.reduceLT,Nat.reduceLeDiff,reduceCtorEq,Nat.reduceEqDiff,Nat.reduceAdd,Nat.beq]<;>rfl)]
  ·-- list 1
   have e1:=hk (decide (d0 > 0)) (decide (d1+t > 0))
   have same:mP keep ⟨p,1,t⟩ true ⟨d0,d1,sp,ins,out⟩=⟨d0,d1+t,sp,ins,out⟩:=by simp [mP]
   have diff:mP keep ⟨p,1,t⟩ false ⟨d0,d1,sp,ins,out⟩=⟨d0,d1+t,if keep (decide (d0 > 0)) (decide (d1+t > 0))&&!ins then (p:Int) else sp,keep (decide (d0 > 0)) (decide (d1+t > 0)),out++(if !keep (decide (d0 > 0)) (decide (d1+t > 0))&&ins then [⟨sp,(p:Int) - sp⟩] else [])⟩:=by simp [mP]
   rcases hnx with ⟨y,hy,hns,hlt,hix⟩|⟨hns,hlt⟩
   ·have F2:(((i+1:Nat):Int)<(L.length:Int))=True:=eq_true hlt
    rw [hns] at ih
    have B:=VN y.pos p
    generalize hb:decide (y.pos=p)=b at ih B
    cases b with
    |true =>
     rw [same] at ih
     simp only [oG,F1,hx,hi1,W0,W1,W2,I0,I1,IN0,IN1,P3,jc,aj hi,List.getElem?_map,Option.map_some,List.length_map,List.length_cons,List.length_nil,F2,hy,hix,B,au,Nat.reduceMul,Nat.reduceBEq,Nat.reduceLT,Nat.reduceLeDiff,reduceCtorEq,Nat.reduceEqDiff,Nat.reduceAdd,Nat.beq]
     rw [ih _ (by simp only [hi1,au,Nat.reduceMul,Nat.reduceBEq,Nat.reduceLT,Nat.reduceLeDiff,reduceCtorEq,Nat.reduceEqDiff,Nat.reduceAdd,Nat.beq]<;>rfl)]
    |false =>
     rw [diff] at ih
     generalize keep (decide (d0 > 0)) (decide (d1+t > 0))=now at *
     cases now<;>cases ins<;>simp only [Bool.not_true,Bool.not_false,Bool.and_true,Bool.and_false,Bool.and_self,Bool.false_eq_true,if_true,if_false,List.append_nil,LJ] at ih<;>simp only [oG,F1,hx,hi1,W0,W1,W2,I0,I1,IN0,IN1,P3,jc,aj hi,List.getElem?_map,Option.map_some,List.length_map,List.length_cons,List.length_nil,F2,hy,hix,B,e1,au,Nat.reduceMul,Nat.reduceBEq,Nat.reduceLT,Nat.reduceLeDiff,reduceCtorEq,Nat.reduceEqDiff,Nat.reduceAdd,Nat.beq]<;>rw [ih _ (by simp only [hi1,yE,List.map_cons,List.map_nil,dw,au,Nat.reduceMul,Nat.reduceBEq,Nat.reduceLT,Nat.reduceLeDiff,reduceCtorEq,Nat.reduceEqDiff,Nat.reduceAdd,Nat.beq]<;>rfl)]
   ·have F2:(((i+1:Nat):Int)<(L.length:Int))=False:=eq_false hlt
    rw [hns,diff] at ih
    generalize keep (decide (d0 > 0)) (decide (d1+t > 0))=now at *
    cases now<;>cases ins<;>simp only [Bool.not_true,Bool.not_false,Bool.and_true,Bool.and_false,Bool.and_self,Bool.false_eq_true,if_true,if_false,List.append_nil,LJ] at ih<;>simp only [oG,F1,hx,hi1,W0,W1,W2,I0,I1,IN0,IN1,P3,jc,aj hi,List.getElem?_map,Option.map_some,List.length_map,List.length_cons,List.length_nil,F2,e1,au,Nat.reduceMul,Nat.reduceBEq,Nat.reduceLT,Nat.reduceLeDiff,reduceCtorEq,Nat.reduceEqDiff,Nat.reduceAdd,Nat.beq]<;>rw [ih _ (by simp only [hi1,yE,List.map_cons,List.map_nil,dw,au,Nat.reduceMul,Nat.reduceBEq,Nat.reduceLT,Nat.reduceLeDiff,reduceCtorEq,Nat.reduceEqDiff,Nat.reduceAdd,Nat.beq]<;>rfl)]
 ·intro rb
  simp only [oG,Int.lt_irrefl,au,Nat.reduceMul,Nat.reduceBEq,Nat.reduceLT,Nat.reduceLeDiff,reduceCtorEq,Nat.reduceEqDiff,Nat.reduceAdd,Nat.beq]
end Go.Proofs.YtpcncggjmabnaaaGreatDoor.V

namespace Go.Proofs.YtpcncggjmabnaaaGreatDoor.V
def jq (l:List fG) (s:Nat):Bool:=l.any fun e=>IL e s
def setOf (keep:Bool→Bool→Bool) (a b:List fG):List fG:=ext (fun s=>keep (jq a s) (jq b s)) 4096
theorem LK {α:Type} {P:α→Prop} {a b:α} (ha:P a) (hb:P b):∀ l∈[a,b],P l:=by
 intro l hl
 simp only [List.mem_cons,List.not_mem_nil,or_false] at hl
 rcases hl with rfl|rfl
 ·exact ha
 ·exact hb
theorem Qc {i s:Nat} {l m:List End} (h:l.Perm m):dep i s l=dep i s m:=by
 induction h with
 |nil=>rfl
 |cons x _ ih=>simp only [dep,ih]
 |swap x y l=>simp only [dep];omega
 |trans _ _ h1 h2=>exact h1.trans h2
theorem ac1 {i:Nat} {l m:List End} (h:l.Perm m):tot i l=tot i m:=by
 induction h with
 |nil=>rfl
 |cons x _ ih=>simp only [tot,ih]
 |swap x y l=>simp only [tot];omega
 |trans _ _ h1 h2=>exact h1.trans h2
theorem uq (i:Nat) (e:fG) (l:List fG):fF i (e :: l)=(if (wX e).2.2 then [⟨(wX e).1.toNat,i,1⟩,⟨(wX e).2.1.toNat,i,-1⟩] else [])++fF i l:=by simp [fF]
theorem su {i:Nat}:∀ {l:List fG} {x:End},x∈fF i l→((x.step=1∨x.step=-1)∧x.pos≤4096)∧x.list=i
 |[],x,h=>by simp [fF] at h
 |e :: l,x,h=>by
  rw [uq] at h
  rcases List.mem_append.1 h with h|h
  ·cases hw:(wX e).2.2 with
   |false=>rw [hw] at h;simp at h
   |true =>
    obtain ⟨n,m,hnm,h1,h2,-⟩:=LH hw
    rw [hnm] at h
    simp only [if_true,Int.toNat_natCast,List.mem_cons,List.not_mem_nil,or_false] at h
    rcases h with rfl|rfl
    ·exact ⟨⟨.inl rfl,by simp only;omega⟩,rfl⟩
    ·exact ⟨⟨.inr rfl,h2⟩,rfl⟩
  ·exact su h
theorem LM {i j:Nat}:∀ l:List fG,tot j (fF i l)=0
 |[]=>rfl
 |e :: l=>by
  rw [uq,zy,LM l]
  split
  ·simp only [tot];split<;>omega
  ·rfl
theorem Au {i j s:Nat} (h:i≠j):∀ l:List fG,dep j s (fF i l)=0
 |[]=>rfl
 |e :: l=>by
  rw [uq,wU,Au h l]
  split
  ·simp [dep,h]
  ·rfl
theorem LP {i s:Nat} (hs:s<4096):∀ l:List fG,0≤dep i s (fF i l)∧(dep i s (fF i l) > 0 ↔ jq l s=true)
 |[]=>by simp [fF,dep,jq]
 |e :: l=>by
  obtain ⟨h1,h2⟩:=LP (i:=i) hs l
  rw [uq,wU]
  have h3:jq (e :: l) s=(IL e s || jq l s):=rfl
  rw [h3]
  cases hw:(wX e).2.2 with
  |false =>
   rw [acX hw hs]
   simp only [Bool.false_eq_true,if_false,dep,Int.zero_add,Bool.false_or]
   exact ⟨h1,h2⟩
  |true =>
   obtain ⟨n,m,hnm,g1,g2,g3⟩:=LH hw
   have g4:=g3 s hs
   rw [hnm]
   simp only [if_true,Int.toNat_natCast,dep,true_and]
   cases hin:IL e s with
   |false =>
    rw [Bool.false_or,← h2]
    have:¬ (n≤s∧s<m):=fun h=>by rw [g4.2 h] at hin;cases hin
    split<;>split<;>omega
   |true =>
    obtain ⟨k1,k2⟩:=g4.1 hin
    rw [if_pos k1,if_neg (by omega)]
    simp only [Bool.true_or,iff_true]
    omega
theorem ac2:∀ {l:List End},(∀ i j:Nat,i<j→j<l.length→¬ l[j]!.pos<l[i]!.pos)→Asc l
 |[],_=>trivial
 |[x],_=>trivial
 |x :: y :: l,h=>by
  refine ⟨?_,ac2 fun i j hij hj=>?_⟩
  ·have:=h 0 1 (by omega) (by simp)
   simp at this
   omega
  ·have:=h (i+1) (j+1) (by omega) (by simp at hj ⊢;omega)
   simpa using this
theorem YV {keep:Bool→Bool→Bool} (hk:keep false false=false) (a b:List fG):Aj keep (lD [a,b]) 0 0 0 false=setOf keep a b:=by
 obtain ⟨h1,h2,h3⟩:=xZ (dh 0 [a,b])
 have hr:dh 0 [a,b]=fF 0 a++fF 1 b:=by simp [dh]
 have hmem:∀ x∈lD [a,b],x.pos≤4096:=fun x hx=>by
  have:=h1.mem_iff.1 hx
  rw [hr] at this
  rcases List.mem_append.1 this with q|q
  ·exact (su q).1.2
  ·exact (su q).1.2
 have ht:∀ j,tot j (lD [a,b])=0:=fun j=>by
  unfold lD
  rw [ac1 h1,hr,zy,LM,LM];rfl
 have hasc:Asc (lD [a,b]):=ac2 fun i j hij hj=>h3 i j hij (by unfold lD at hj;omega)
 rw [ab5 hk hasc hmem (ht 0) (ht 1)]
 unfold setOf
 apply YG
 intro s hs
 unfold kK lD
 rw [Qc h1,Qc h1,hr,wU,wU,Au (i:=1) (j:=0) (by decide),Au (i:=0) (j:=1) (by decide),Int.add_zero,Int.zero_add]
 have e1:=(LP (i:=0) hs a).2
 have e2:=(LP (i:=1) hs b).2
 have f1:decide (dep 0 s (fF 0 a) > 0)=jq a s:=by
  cases h:jq a s
  ·exact decide_eq_false fun q=>by rw [e1.1 q] at h;cases h
  ·exact decide_eq_true (e1.2 h)
 have f2:decide (dep 1 s (fF 1 b) > 0)=jq b s:=by
  cases h:jq b s
  ·exact decide_eq_false fun q=>by rw [e2.1 q] at h;cases h
  ·exact decide_eq_true (e2.2 h)
 rw [f1,f2]
set_option maxRecDepth 20000 in
theorem agi {keep:Bool→Bool→Bool} (h0:keep false false=false) {kf:Nat} (hk:∀ p q,cal env kf [.bool p,.bool q]=some [(.bool (keep p q),false)]) {a b:List fG} (ha:GN a) (hb:GN b) (la:a.length≤10000) (lb:b.length≤10000) :
  iter env 133 [.dN [.list 2 (a.map dw)] 0,.dN [.list 2 (b.map dw)] 0,.dN [.func kf []] 0] none=some (yE (setOf keep a b)):=by
 have hlim:lim=1073741824:=rfl
 obtain ⟨h1,h2,h3⟩:=xZ (dh 0 [a,b])
 have hr:dh 0 [a,b]=fF 0 a++fF 1 b:=by simp [dh]
 have hp:=qO (n:=10000) [a,b] 0 (LK la lb)
 have e1:=ajv (ls:=[a,b]) (LK ha hb) (LK la lb) (by simp) h2
 have hE:(lD [a,b]).length≤1000000:=by unfold lD;rw [h2];simp at hp;omega
 have hm:∀ x∈lD [a,b],((x.step=1∨x.step=-1)∧x.pos≤4096)∧x.list<2:=fun x hx=>by
  have:=h1.mem_iff.1 hx
  rw [hr] at this
  rcases List.mem_append.1 this with q|q
  ·have:=su q;exact ⟨this.1,by omega⟩
  ·have:=su q;exact ⟨this.1,by omega⟩
 have hres:=(ac0 keep (lD [a,b])).trans (YV h0 a b)
 simp only [List.map_cons,List.map_nil,yC] at e1
 have L2:(2≤lim)=True:=eq_true (by omega)
 rw [Iz aiU rfl rfl]
 have hy:Ue 80 [.dN [.list 2 (a.map dw)] 0,.dN [.list 2 (b.map dw)] 0,.dN [.func kf []] 0] none=⟨sl 80 [(0,.rF),(1,.pv (.dN [.list 2 (a.map dw)] 0)),(2,.pv (.dN [.list 2 (b.map dw)] 0)),(3,.pv (.dN [.func kf []] 0))],[],[],some none⟩:=rfl
 simp only [Pz]
 rw [hy]
 simp only [e1,L2,List.length_map,au,Nat.reduceMul,Nat.reduceBEq,Nat.reduceLT,Nat.reduceLeDiff,reduceCtorEq,Nat.reduceEqDiff,Nat.reduceAdd,Nat.beq]
 rw [agh hk hm hE (by simp only [au,Nat.reduceMul,Nat.reduceBEq,Nat.reduceLT,Nat.reduceLeDiff,reduceCtorEq,Nat.reduceEqDiff,Nat.reduceAdd,Nat.beq]<;>rfl)]
 rw [hres]
 rfl
theorem ajy {g:Nat} {caps:List PV} {l:List fG} (hi:iter env g caps none=some (yE l)) (hl:l.length≤1000000):cal env 132 [.lK 2,.func g caps]=some [(.list 2 (l.map dw),true)]:=by
 have hlim:lim=1073741824:=rfl
 rw [ah aiT rfl];simp only [Py];simp only [start,aQ,aV,aO,aU,aH,aJ,aP,aS,Nat.reduceAdd,Nat.reduceSub]
 simp only [bV,reduceCtorEq,Nat.reduceEqDiff,Nat.reduceAdd,Nat.reduceLT,Nat.reduceLeDiff,Nat.beq]
 rw [VE (env:=env) (fun j=>[⟨false,[.row 2 ((l.take j).map dw)]⟩]) (xs:=yE l) rfl hi rfl ?_]
 ·simp only [yE,List.length_map,List.take_length,PU,bV,reduceCtorEq,Nat.reduceEqDiff,Nat.reduceAdd,Nat.reduceLT,Nat.reduceLeDiff,Nat.beq]
 ·intro j x hx sl0
  simp only [yE,List.getElem?_map,Option.map_eq_some_iff] at hx
  obtain ⟨e,he,rfl⟩:=hx
  have hj:=(List.getElem?_eq_some_iff.1 he).1
  have F3:((l.take j).length+1≤lim)=True:=eq_true (by rw [List.length_take];omega)
  have ht:l.take (j+1)=l.take j++[e]:=by rw [List.take_add_one,he];rfl
  rw [ht]
  refine ⟨?_,?_⟩
  rotate_left
  ·simp only [Pv,Px,F3,dw,List.map_append,List.map_cons,List.map_nil,PU,bV,reduceCtorEq,Nat.reduceEqDiff,Nat.reduceAdd,Nat.reduceLT,Nat.reduceLeDiff,Nat.beq]
   rfl
theorem ajz {g:Nat} {caps:List PV} {l:List fG} (hi:iter env g caps none=some (yE l)) (hl:l.length≤1000000):cal env 128 [.func g caps]=some [(.list 2 (l.map dw),true)]:=by
 have e1:=ajy hi hl
 rw [ah aiQ rfl];simp only [Pn];simp only [start,aQ,aV,aO,aU,aH,aJ,aP,aS,Nat.reduceAdd,Nat.reduceSub]
 simp only [e1,bV,reduceCtorEq,Nat.reduceEqDiff,Nat.reduceAdd,Nat.reduceLT,Nat.reduceLeDiff,Nat.beq]
end Go.Proofs.YtpcncggjmabnaaaGreatDoor.V

namespace Go.Proofs.YtpcncggjmabnaaaGreatDoor.V
def orB (p q:Bool):Bool:=p || q
theorem YW (l:List fG) (i:Nat):(rW l i).length≤l.length+1:=by
 rcases iF l with rfl|⟨p,x,rfl⟩
 ·simp [rW]
 ·rw [fO];split<;>simp
theorem wW (p:Nat→Bool):∀ n,(ext p n).length≤n
 |0=>Nat.le_refl _
 |n+1=>by
  rw [oH]
  have:=wW p n
  have:=YW (ext p n) n
  split<;>omega
theorem YX (keep:Bool→Bool→Bool) (a b:List fG):(setOf keep a b).length≤4096:=wW _ _
theorem ajA {a b:List PV} {kf:Nat}:cal env 129 [.list 2 a,.list 2 b,.func kf []]=some [(.func 133 [.dN [.list 2 a] 0,.dN [.list 2 b] 0,.dN [.func kf []] 0],false)]:=by
 rw [ah aiR rfl];simp only [Po,aB,Nat.reduceBEq,Nat.reduceLeDiff,Nat.reduceAdd,List.length_cons,List.length_nil]
 simp only [au,Nat.reduceMul,Nat.reduceBEq,Nat.reduceLT,Nat.reduceLeDiff,reduceCtorEq,Nat.reduceEqDiff,Nat.reduceAdd,Nat.beq]
theorem ajB (p q:Bool):cal env 130 [.bool p,.bool q]=some [(.bool (orB p q),false)]:=by
 cases p<;>cases q<;>(rw [ah aiS rfl];simp only [Pq,aB,Nat.reduceBEq,Nat.reduceLeDiff,Nat.reduceAdd,List.length_cons,List.length_nil];simp only [au,Nat.reduceMul,Nat.reduceBEq,Nat.reduceLT,Nat.reduceLeDiff,reduceCtorEq,Nat.reduceEqDiff,Nat.reduceAdd,Nat.beq]<;>rfl)
theorem ajC {a b:List fG} (ha:GN a) (hb:GN b) (la:a.length≤10000) (lb:b.length≤10000):cal env 120 [.list 2 (a.map dw),.list 2 (b.map dw)]=some [(.list 2 ((setOf orB a b).map dw),true)]:=by
 have e1:=ajA (a:=a.map dw) (b:=b.map dw) (kf:=130)
 have hi:=agi (keep:=orB) rfl (kf:=130) (fun p q=>ajB p q) ha hb la lb
 have hlen:=YX orB a b
 have e2:=ajz hi (by omega)
 rw [ah aiM rfl];simp only [Ph,aB,Nat.reduceBEq,Nat.reduceLeDiff,Nat.reduceAdd,List.length_cons,List.length_nil]
 simp only [e1,e2,au,Nat.reduceMul,Nat.reduceBEq,Nat.reduceLT,Nat.reduceLeDiff,reduceCtorEq,Nat.reduceEqDiff,Nat.reduceAdd,Nat.beq]
theorem ac3:GN []:=fun x hx=>by cases hx
def Qd (l:List fG):Int:=(l.map fun x=>x.count).sum
theorem Aw (l:List fG) (x:fG):Qd (l++[x])=Qd l+x.count:=by simp [Qd]
theorem Az (p:Nat→Bool) (n:Nat):(∀ x∈ext p n,0≤x.start∧1≤x.count∧x.start+x.count≤(n:Int)):=by
 induction n with
 |zero=>intro x hx;cases hx
 |succ n ih =>
  rw [oH]
  split
  ·rcases iF (ext p n) with e|⟨pre,y,e⟩
   ·rw [e]
    intro x hx
    have:rW [] n=[⟨(n:Int),1⟩]:=rfl
    rw [this] at hx
    simp only [List.mem_singleton] at hx
    subst hx
    simp only;omega
   ·rw [e] at ih ⊢
    intro x hx
    rw [fO] at hx
    split at hx
    ·rcases List.mem_append.1 hx with h|h
     ·have:=ih x (by simp [h]);omega
     ·simp only [List.mem_singleton] at h
      have:=ih y (by simp)
      subst h;simp only;omega
    ·rcases List.mem_append.1 hx with h|h
     ·have:=ih x h;omega
     ·simp only [List.mem_singleton] at h
      subst h;simp only;omega
  ·intro x hx;have:=ih x hx;omega
theorem VO (p:Nat→Bool):∀ n,Qd (ext p n)=(((List.range n).filter p).length:Int)
 |0=>rfl
 |n+1=>by
  have ih:=VO p n
  rw [oH,List.range_succ,List.filter_append,List.length_append]
  cases h:p n with
  |false=>rw [List.filter_cons_of_neg (by simp [h])];simpa using ih
  |true =>
   rw [List.filter_cons_of_pos h,List.filter_nil,if_pos rfl]
   have:Qd (rW (ext p n) n)=Qd (ext p n)+1:=by
    rcases iF (ext p n) with e|⟨pre,y,e⟩
    ·rw [e];rfl
    ·rw [e,fO]
     split
     ·rw [Aw,Aw];simp only;omega
     ·rw [Aw]
   rw [this,ih];simp
end Go.Proofs.YtpcncggjmabnaaaGreatDoor.V

namespace Go.Proofs.YtpcncggjmabnaaaGreatDoor.V
theorem LQ {size:Int} {e:fG} (h:mZ size e=true) (s:Nat):IL e s=decide (e.start≤(s:Int)∧(s:Int)<e.start+e.count):=by
 have h:=jw.1 h
 unfold IL
 rw [Bool.eq_iff_iff]
 simp only [Bool.and_eq_true,decide_eq_true_eq]
 omega
theorem VP:∀ (l:List fG) {b:Bm},okB b=true→(∀ e∈l,mZ b.size e=true)→frE b l=0∧okB (Dh b l)=true∧(Dh b l).size=b.size∧∀ s:Nat,(s:Int)<b.size→bit (Dh b l).ws s=(bit b.ws s || jq l s)
 |[],b,h,_=>⟨rfl,h,rfl,fun s _=>by simp [Dh,jq]⟩
 |e :: l,b,h,hf=>by
  obtain ⟨k1,k2,k3,k4⟩:=acW h (hf e (by simp))
  obtain ⟨g1,g2,g3,g4⟩:=VP l k2 (fun x hx=>by rw [k3];exact hf x (by simp [hx]))
  refine ⟨?_,g2,g3.trans k3,fun s hs=>?_⟩
  ·unfold frE
   rw [if_pos k1]
   exact g1
  ·have:=g4 s (by rw [k3];exact hs)
   show bit (Dh (Zm orW b e) l).ws s=_
   rw [this,k4 s hs,← LQ (hf e (by simp)) s,Bool.or_assoc]
   rfl
end Go.Proofs.YtpcncggjmabnaaaGreatDoor.V

namespace Go.Proofs.YtpcncggjmabnaaaGreatDoor.V
theorem ac4 (n:Nat):∀ l:List Nat,l.length=n→(exts l).length≤n:=by
 induction n with
 |zero=>intro l hl;rw [List.eq_nil_of_length_eq_zero hl];exact Nat.le_refl _
 |succ n ih =>
  intro l hl
  rcases iF l with rfl|⟨p,j,rfl⟩
  ·simp at hl
  ·have h1:=ih p (by simpa using hl)
   rw [nT]
   rcases iF (exts p) with e|⟨pre,y,e⟩
   ·rw [e];simp [rW]
   ·rw [e] at h1 ⊢
    rw [fO]
    simp at h1
    split<;>simp<;>omega
def iW (m:List Bool) (n:Nat):List Nat:=(List.range n).filter fun i=>m.getD i false
theorem uw (m:List Bool) (n:Nat):iW m (n+1)=if m.getD n false then iW m n++[n] else iW m n:=by
 unfold iW
 rw [List.range_succ,List.filter_append]
 split
 ·rename_i h;rw [List.filter_cons_of_pos (by simpa using h),List.filter_nil]
 ·rename_i h;rw [List.filter_cons_of_neg (by simpa using h),List.filter_nil,List.append_nil]
theorem ac5 {m:List Bool} {n i:Nat} (h:i∈iW m n):i<n:=by
 unfold iW at h
 exact List.mem_range.1 (List.mem_filter.1 h).1
theorem ac6 {m:List Bool} {n i:Nat} (h:i∈iW m n):m.getD i false=true:=by
 unfold iW at h
 exact (List.mem_filter.1 h).2
theorem IQ (m:List Bool) (n:Nat):(iW m n).length≤n:=by
 have:=List.length_filter_le (fun i=>m.getD i false) (List.range n)
 simpa [iW] using this
set_option maxRecDepth 20000 in
theorem agj {m:List Bool} (hl:m.length≤lim) {st:St} (h:st.head [0,3,4,39] st.boxes.length=some ⟨sl 41 [(0,.pv (.list 1 (m.map eB))),(3,.row 2 ((exts (iW m ((0:Nat)))).map dw)),(4,.pv (.int .i64 (0:Nat))),(39,.any)],[],[],none⟩) :
  den env Ez st=some (.normal,⟨sl 41 [(2,.any),(3,.row 2 ((exts (iW m m.length)).map dw))],[],[],none⟩):=by
 unfold Ez
 refine bC (env:=env) (m.length) (fun i=>⟨sl 41 [(0,.pv (.list 1 (m.map eB))),(3,.row 2 ((exts (iW m (i))).map dw)),(4,.pv (.int .i64 i)),(39,.any)],[],[],none⟩) (fun i=>some (.normal,⟨sl 41 [(2,.any),(3,.row 2 ((exts (iW m m.length)).map dw))],[],[],none⟩)) h (fun _=>rfl) (fun _=>by simp only [aB,bg,Nat.reduceMul,Nat.reduceBEq,Nat.reduceLT,Nat.reduceLeDiff,Nat.reduceAdd,decide_true,Bool.and_self,Bool.true_and]) ?_ ?_
 ·intro i rb hi ih
  have hi1:=bG hi hl
  have hlim:lim=1073741824:=rfl
  have F1:((i:Int)<(m.length:Int))=True:=eq_true (by omega)
  have hx:m[i]?=some m[i]:=List.getElem?_eq_getElem hi
  have hg:m.getD i false=m[i]:=by rw [List.getD_eq_getElem?_getD,hx];rfl
  generalize m[i]=x at *
  cases x with
  |false =>
   simp only [rV,F1,hx,eB,aj hi,List.getElem?_map,Option.map_some,List.length_map,au,Nat.reduceMul,Nat.reduceBEq,Nat.reduceLT,Nat.reduceLeDiff,reduceCtorEq,Nat.reduceEqDiff,Nat.reduceAdd,Nat.beq]
   rw [ih _ (by simp only [hi1,uw,hg,Bool.false_eq_true,if_false,au,Nat.reduceMul,Nat.reduceBEq,Nat.reduceLT,Nat.reduceLeDiff,reduceCtorEq,Nat.reduceEqDiff,Nat.reduceAdd,Nat.beq]<;>rfl)]
  |true =>
   by_cases hp:0<i∧m.getD (i - 1) false=true
   ·obtain ⟨j,rfl⟩:∃ j,i=j+1:=⟨i - 1,by omega⟩
    rw [Nat.add_sub_cancel] at hp
    have hj:j<m.length:=by omega
    have hjx:m[j]?=some true:=by
     have:=hp.2
     rw [List.getD_eq_getElem?_getD,List.getElem?_eq_getElem hj] at this
     rw [List.getElem?_eq_getElem hj];simpa using this
    have hb1:iW m (j+1)=iW m j++[j]:=by rw [uw,if_pos hp.2]
    have hb2:iW m (j+1+1)=iW m j++[j]++[j+1]:=by rw [uw,if_pos hg,hb1]
    obtain ⟨pre,⟨s,c⟩,e0,h1,h2,h3,h4⟩:=wS _ (iW m j) rfl j
    have hlen:=IQ m j
    simp only at h1 h2 h3
    have G1:(((j+1:Nat):Int) > 0)=True:=eq_true (by omega)
    have G2:IntKind.i64.wrap (((j+1:Nat):Int) - 1)=(j:Int):=by rw [bn (by omega)];omega
    have F3:=IB (n:=pre.length) (by omega)
    have F5:IntKind.i64.wrap (c+1)=c+1:=bn (by omega)
    have F7:index (.int .i64 (pre.length:Int)) (pre.length+1)=some pre.length:=aj (by omega)
    rw [hb1,e0]
    simp only [rV,F1,hx,hjx,eB,G1,G2,aj hi,aj hj,List.getElem?_map,Option.map_some,List.length_map,List.map_append,List.map_cons,List.map_nil,dw,F3,F5,F7,au,Nat.reduceMul,Nat.reduceBEq,Nat.reduceLT,Nat.reduceLeDiff,reduceCtorEq,Nat.reduceEqDiff,Nat.reduceAdd,Nat.beq]
    rw [ih _ (by simp only [hi1,hb2,au,Nat.reduceMul,Nat.reduceBEq,Nat.reduceLT,Nat.reduceLeDiff,reduceCtorEq,Nat.reduceEqDiff,Nat.reduceAdd,Nat.beq];rw [nT,e0,fO,if_pos (by simp only;omega)];simp only [List.map_append,List.map_cons,List.map_nil,dw,au,Nat.reduceMul,Nat.reduceBEq,Nat.reduceLT,Nat.reduceLeDiff,reduceCtorEq,Nat.reduceEqDiff,Nat.reduceAdd,Nat.beq]<;>rfl)]
   ·have hnew:exts (iW m (i+1))=exts (iW m i)++[⟨(i:Int),1⟩]:=by
     rw [uw,if_pos hg,nT]
     rcases iF (iW m i) with h0|⟨p,j,h0⟩
     ·rw [h0];rfl
     ·obtain ⟨pre,⟨s,c⟩,e0,h1,h2,h3,h4⟩:=wS _ p rfl j
      have hmem:j∈iW m i:=by rw [h0];simp
      have hji:=ac5 hmem
      have hjt:=ac6 hmem
      simp only at h1
      rw [h0,e0,fO,if_neg]
      intro h
      simp only at h
      have:j=i - 1:=by omega
      rw [this] at hjt
      exact hp ⟨by omega,hjt⟩
    have hlen:(exts (iW m i)).length≤i:=Nat.le_trans (ac4 _ _ rfl) (IQ m i)
    have F6:((exts (iW m i)).length+1≤lim)=True:=eq_true (by omega)
    by_cases h0:0<i
    ·obtain ⟨j,rfl⟩:∃ j,i=j+1:=⟨i - 1,by omega⟩
     have hj:j<m.length:=by omega
     have hjx:m[j]?=some false:=by
      have h2:¬ m.getD j false=true:=fun h=>hp ⟨h0,by rw [Nat.add_sub_cancel];exact h⟩
      rw [List.getD_eq_getElem?_getD,List.getElem?_eq_getElem hj] at h2
      rw [List.getElem?_eq_getElem hj];simpa using h2
     have G1:(((j+1:Nat):Int) > 0)=True:=eq_true (by omega)
     have G2:IntKind.i64.wrap (((j+1:Nat):Int) - 1)=(j:Int):=by rw [bn (by omega)];omega
     simp only [rV,F1,hx,hjx,eB,G1,G2,F6,aj hi,aj hj,List.getElem?_map,Option.map_some,List.length_map,au,Nat.reduceMul,Nat.reduceBEq,Nat.reduceLT,Nat.reduceLeDiff,reduceCtorEq,Nat.reduceEqDiff,Nat.reduceAdd,Nat.beq]
     rw [ih _ (by simp only [hi1,hnew,List.map_append,List.map_cons,List.map_nil,dw,au,Nat.reduceMul,Nat.reduceBEq,Nat.reduceLT,Nat.reduceLeDiff,reduceCtorEq,Nat.reduceEqDiff,Nat.reduceAdd,Nat.beq]<;>rfl)]
    ·obtain rfl:i=0:=by omega
     have G1:(((0:Nat):Int) > 0)=False:=eq_false (by omega)
     simp only [rV,F1,hx,eB,G1,F6,aj hi,List.getElem?_map,Option.map_some,List.length_map,au,Nat.reduceMul,Nat.reduceBEq,Nat.reduceLT,Nat.reduceLeDiff,reduceCtorEq,Nat.reduceEqDiff,Nat.reduceAdd,Nat.beq]
     rw [ih _ (by simp only [hi1,hnew,List.map_append,List.map_cons,List.map_nil,dw,au,Nat.reduceMul,Nat.reduceBEq,Nat.reduceLT,Nat.reduceLeDiff,reduceCtorEq,Nat.reduceEqDiff,Nat.reduceAdd,Nat.beq]<;>rfl)]
 ·intro rb
  simp only [rV,Int.lt_irrefl,List.length_map,au,Nat.reduceMul,Nat.reduceBEq,Nat.reduceLT,Nat.reduceLeDiff,reduceCtorEq,Nat.reduceEqDiff,Nat.reduceAdd,Nat.beq]
theorem ajD {m:List Bool} (hl:m.length≤lim):cal env 116 [.list 1 (m.map eB)]=some [(.list 2 ((exts (iW m m.length)).map dw),true)]:=by
 rw [ah aiK rfl];simp only [O9,aB,Nat.reduceBEq,Nat.reduceLeDiff,Nat.reduceAdd,List.length_cons,List.length_nil]
 simp only [au,Nat.reduceMul,Nat.reduceBEq,Nat.reduceLT,Nat.reduceLeDiff,reduceCtorEq,Nat.reduceEqDiff,Nat.reduceAdd,Nat.beq]
 rw [agj hl (by simp only [aB,bg,Nat.reduceMul,Nat.reduceBEq,Nat.reduceLT,Nat.reduceLeDiff,Nat.reduceAdd,decide_true,Bool.and_self,Bool.true_and]<;>rfl)]
 simp only [au,Nat.reduceMul,Nat.reduceBEq,Nat.reduceLT,Nat.reduceLeDiff,reduceCtorEq,Nat.reduceEqDiff,Nat.reduceAdd,Nat.beq]
end Go.Proofs.YtpcncggjmabnaaaGreatDoor.V

namespace Go.Proofs.YtpcncggjmabnaaaGreatDoor.V
def mk (f:Nat→Bool):List Bool:=(List.range 4096).map f
theorem x9 (f:Nat→Bool):(mk f).length=4096:=by simp [mk]
theorem Uw {f:Nat→Bool} {i:Nat} (h:i<4096):(mk f)[i]?=some (f i):=by
 unfold mk
 rw [List.getElem?_map,List.getElem?_range h];rfl
theorem mk_congr {f g:Nat→Bool} (h:∀ s,s<4096→f s=g s):mk f=mk g:=by
 unfold mk
 exact List.map_congr_left fun s hs=>h s (List.mem_range.1 hs)
theorem ac7 {l:List Bool} {f:Nat→Bool} (hl:l.length=4096) (h:∀ i,i<4096→l[i]?=some (f i)):l=mk f:=by
 apply List.ext_getElem?
 intro i
 by_cases hi:i<4096
 ·rw [h i hi,Uw hi]
 ·rw [List.getElem?_eq_none (by omega),List.getElem?_eq_none (by rw [x9];omega)]
theorem ac8:List.replicate 4096 false=mk fun _=>false:=ac7 List.length_replicate fun i hi=>by rw [List.getElem?_replicate,if_pos hi]
theorem agk (s c:Int) (f:Nat→Bool):zf s c (mk f)=mk fun t=>f t || inX s c t:=by
 refine ac7 (by simp [zf,x9]) fun i hi=>?_
 unfold zf
 rw [List.getElem?_mapIdx,Uw hi];rfl
theorem agl (f:Nat→Bool):exts (iW (mk f) (mk f).length)=ext f 4096:=by
 rw [x9]
 unfold ext iW
 rw [List.filter_congr]
 intro i hi
 rw [List.getD_eq_getElem?_getD,Uw (List.mem_range.1 hi)];rfl
theorem zD (l:List fG) (e:fG) (s:Nat):jq (l++[e]) s=(jq l s || IL e s):=by simp [jq]
end Go.Proofs.YtpcncggjmabnaaaGreatDoor.V

namespace Go.Proofs.YtpcncggjmabnaaaGreatDoor.V
theorem agm {f:Nat→Bool}:cal env 116 [.list 1 ((mk f).map eB)]=some [(.list 2 ((ext f 4096).map dw),true)]:=by
 have e:=ajD (m:=mk f) (by rw [x9];unfold lim;decide)
 rw [agl] at e
 exact e
end Go.Proofs.YtpcncggjmabnaaaGreatDoor.V

namespace Go.Proofs.YtpcncggjmabnaaaGreatDoor.V
end Go.Proofs.YtpcncggjmabnaaaGreatDoor.V

namespace Go.Proofs.YtpcncggjmabnaaaGreatDoor.V
end Go.Proofs.YtpcncggjmabnaaaGreatDoor.V

namespace Go.Proofs.YtpcncggjmabnaaaGreatDoor.V
end Go.Proofs.YtpcncggjmabnaaaGreatDoor.V

namespace Go.Proofs.YtpcncggjmabnaaaGreatDoor.V
end Go.Proofs.YtpcncggjmabnaaaGreatDoor.V

namespace Go.Proofs.YtpcncggjmabnaaaGreatDoor.V
end Go.Proofs.YtpcncggjmabnaaaGreatDoor.V

namespace Go.Proofs.YtpcncggjmabnaaaGreatDoor.V
theorem agn {l:List fG} {n:Nat} (h:∀ x∈l,0≤x.start∧1≤x.count∧x.start+x.count≤(n:Int)) (s:Nat):jq (rW l n) s=(jq l s || decide (s=n)):=by
 rcases iF l with e|⟨pre,y,e⟩
 ·subst e
  show jq [⟨(n:Int),1⟩] s=_
  rw [Bool.eq_iff_iff]
  simp [jq,IL];omega
 ·subst e
  have hy:=h y (by simp)
  rw [fO]
  split
  ·rw [zD,zD,Bool.or_assoc]
   congr 1
   rw [Bool.eq_iff_iff]
   simp [IL];omega
  ·rw [zD (pre++[y])]
   congr 1
   rw [Bool.eq_iff_iff]
   simp [IL];omega
theorem zF (p:Nat→Bool) (s:Nat):∀ n,jq (ext p n) s=(decide (s<n)&&p s)
 |0=>by simp [PW,jq]
 |n+1=>by
  rw [oH]
  by_cases h:p n=true
  ·rw [if_pos h,agn (Az p n),zF p s n]
   by_cases h2:s=n
   ·subst h2;rw [h];simp
   ·rw [decide_eq_false h2,Bool.or_false]
    congr 1
    rw [Bool.eq_iff_iff];simp;omega
  ·rw [if_neg h,zF p s n]
   by_cases h2:s=n
   ·subst h2;simp [h]
   ·congr 1
    rw [Bool.eq_iff_iff];simp;omega
end Go.Proofs.YtpcncggjmabnaaaGreatDoor.V

namespace Go.Proofs.YtpcncggjmabnaaaGreatDoor.V
def lQ (v:Int) (l:List bK):List fG:=(l.filter fun w=>decide (w.volume=v)).map fun w=>⟨w.start,(w.data.length:Int)⟩
theorem ac9 (v:Int) (l:List bK) (w:bK):lQ v (l++[w])=if w.volume=v then lQ v l++[⟨w.start,(w.data.length:Int)⟩] else lQ v l:=by
 unfold lQ
 rw [List.filter_append]
 by_cases h:w.volume=v
 ·rw [if_pos h];simp [h]
 ·rw [if_neg h];simp [h]
theorem Qe {v:Int} {l:List bK} {i:Nat} (h:i<l.length):lQ v (l.take (i+1))=if l[i].volume=v then lQ v (l.take i)++[⟨l[i].start,(l[i].data.length:Int)⟩] else lQ v (l.take i):=by
 rw [List.take_succ_eq_append_getElem h,ac9]
theorem VQ (v:Int) (l:List bK):(lQ v l).length≤l.length:=by
 unfold lQ;rw [List.length_map];exact List.length_filter_le _ _
theorem Di {v:Int} {l:List bK} {e:fG} (h:e∈lQ v l):∃ w∈l,w.volume=v∧e=⟨w.start,(w.data.length:Int)⟩:=by
 unfold lQ at h
 obtain ⟨w,hw,e1⟩:=List.mem_map.1 h
 rw [List.mem_filter] at hw
 exact ⟨w,hw.1,by simpa using hw.2,e1.symm⟩
def jX (v:Int) (l:List bK):List fG:=setOf orB (lQ v l) []
theorem agp {l:List bK} {v:Int} (hl:l.length≤10000) {st:St} (h:st.head [0,1,5,8,9,10,26] st.boxes.length=some ⟨sl 30 [(0,.pv (.list 3 (l.map dQ))),(1,.pv (.int .i64 v)),(5,.row 2 ((lQ v (l.take ((0:Nat)))).map dw)),(8,.pv (.list 3 (l.map dQ))),(9,.pv (.int .i64 l.length)),(10,.pv (.int .i64 (0:Nat))),(26,.any)],[],[],none⟩) :
  den env Eu st=some (.normal,⟨sl 30 [(4,.any),(5,.row 2 ((lQ v l).map dw))],[],[],none⟩):=by
 unfold Eu
 refine bC (env:=env) (l.length) (fun i=>⟨sl 30 [(0,.pv (.list 3 (l.map dQ))),(1,.pv (.int .i64 v)),(5,.row 2 ((lQ v (l.take (i))).map dw)),(8,.pv (.list 3 (l.map dQ))),(9,.pv (.int .i64 l.length)),(10,.pv (.int .i64 i)),(26,.any)],[],[],none⟩) (fun i=>some (.normal,⟨sl 30 [(4,.any),(5,.row 2 ((lQ v l).map dw))],[],[],none⟩)) h (fun _=>rfl) (fun _=>by simp only [aB,bg,Nat.reduceMul,Nat.reduceBEq,Nat.reduceLT,Nat.reduceLeDiff,Nat.reduceAdd,decide_true,Bool.and_self,Bool.true_and]) ?_ ?_
 ·intro i rb hi ih
  have hi1:=bG hi (by unfold lim;omega)
  have F1:((i:Int)<(l.length:Int))=True:=eq_true (by omega)
  have hx:=rC hi
  have hh:=Qe (v:=v) hi
  by_cases c:l[i].volume=v
  ·have G:(l[i].volume==v)=true:=by simp [c]
   have F5:((lQ v (l.take i)).length+1≤lim)=True:=eq_true (by have:=VQ v (l.take i);rw [List.length_take] at this;unfold lim;omega)
   rw [if_pos c] at hh
   have hs:(lQ v (l.take (i+1))).map dw=(lQ v (l.take i)).map dw++[.agg [.int .i64 l[i].start,.int .i64 (l[i].data.length:Int)]]:=by rw [hh,List.map_append];rfl
   rw [hs] at ih
   simp only [zq,F1,F5,G,hx,iV,aj hi,List.length_map,au,Nat.reduceMul,Nat.reduceBEq,Nat.reduceLT,Nat.reduceLeDiff,reduceCtorEq,Nat.reduceEqDiff,Nat.reduceAdd,Nat.beq] at *
   rw [ih _ (by simp only [hi1,au,Nat.reduceMul,Nat.reduceBEq,Nat.reduceLT,Nat.reduceLeDiff,reduceCtorEq,Nat.reduceEqDiff,Nat.reduceAdd,Nat.beq]<;>rfl)]
  ·have G:(l[i].volume==v)=false:=by simp [c]
   rw [if_neg c] at hh
   rw [hh] at ih
   simp only [zq,F1,G,hx,iV,aj hi,List.length_map,au,Nat.reduceMul,Nat.reduceBEq,Nat.reduceLT,Nat.reduceLeDiff,reduceCtorEq,Nat.reduceEqDiff,Nat.reduceAdd,Nat.beq] at *
   rw [ih _ (by simp only [hi1,au,Nat.reduceMul,Nat.reduceBEq,Nat.reduceLT,Nat.reduceLeDiff,reduceCtorEq,Nat.reduceEqDiff,Nat.reduceAdd,Nat.beq]<;>rfl)]
 ·intro rb
  rw [List.take_length]
  simp only [zq,Int.lt_irrefl,List.length_map,au,Nat.reduceMul,Nat.reduceBEq,Nat.reduceLT,Nat.reduceLeDiff,reduceCtorEq,Nat.reduceEqDiff,Nat.reduceAdd,Nat.beq]
theorem ajE {l:List bK} {v:Int} (hl:l.length≤10000) (ho:GN (lQ v l)):cal env 107 [.list 3 (l.map dQ),.int .i64 v]=some [(.list 2 ((jX v l).map dw),true)]:=by
 have e1:=ajC (a:=lQ v l) (b:=[]) ho ac3 (by have:=VQ v l;omega) (by simp)
 simp only [List.map_nil] at e1
 unfold jX
 rw [ah aiD rfl];simp only [O1,aB,Nat.reduceBEq,Nat.reduceLeDiff,Nat.reduceAdd,List.length_cons,List.length_nil]
 simp only [e1,List.length_map,au,Nat.reduceMul,Nat.reduceBEq,Nat.reduceLT,Nat.reduceLeDiff,reduceCtorEq,Nat.reduceEqDiff,Nat.reduceAdd,Nat.beq]
 rw [agp hl (by simp only [aB,bg,Nat.reduceMul,Nat.reduceBEq,Nat.reduceLT,Nat.reduceLeDiff,Nat.reduceAdd,decide_true,Bool.and_self,Bool.true_and]<;>rfl)]
 simp only [e1,List.length_map,au,Nat.reduceMul,Nat.reduceBEq,Nat.reduceLT,Nat.reduceLeDiff,reduceCtorEq,Nat.reduceEqDiff,Nat.reduceAdd,Nat.beq]
theorem zG {v:Int} {l:List bK} {n:Int} (hn:0≤n∧n≤4096) (h:∀ e∈lQ v l,mZ n e=true):(∀ e∈jX v l,mZ n e=true)∧∀ s:Nat,jq (jX v l) s=jq (lQ v l) s:=by
 have h0:∀ s:Nat,n≤(s:Int)→jq (lQ v l) s=false:=fun s hs=>by
  unfold jq
  rw [List.any_eq_false]
  intro e he
  have:=jw.1 (h e he)
  rw [LQ (h e he) s]
  simp
  omega
 have e1:jX v l=ext (fun s=>jq (lQ v l) s) n.toNat:=by
  unfold jX setOf
  have:(fun s=>orB (jq (lQ v l) s) (jq [] s))=fun s=>jq (lQ v l) s:=by
   funext s
   simp [orB,jq]
  rw [this]
  have hk:=pR (p:=fun s=>jq (lQ v l) s) (a:=n.toNat) (4096 - n.toNat) (fun s h1 _=>h0 s (by omega))
  rw [show n.toNat+(4096 - n.toNat)=4096 by omega] at hk
  exact hk
 rw [e1]
 refine ⟨fun e he=>?_,fun s=>?_⟩
 ·have:=Az _ _ e he
  exact jw.2 (by omega)
 ·rw [zF]
  by_cases c:s<n.toNat
  ·rw [decide_eq_true c,Bool.true_and]
  ·rw [decide_eq_false c,Bool.false_and,h0 s (by omega)]
theorem ada {n:Int} (hn:0≤n∧n≤4096) {l:List fG} (h:∀ e∈l,mZ n e=true):GN l:=fun e he=>by
 have:=jw.1 (h e he)
 exact ⟨by omega,by omega⟩
theorem LU (v:Int) (l:List bK):(jX v l).length≤4096:=wW _ _
attribute [irreducible] jX
end Go.Proofs.YtpcncggjmabnaaaGreatDoor.V

namespace Go.Proofs.YtpcncggjmabnaaaGreatDoor.V
def Gh {α:Type} (g:Nat→α→α) (l:List α) (i:Nat):List α:=l.mapIdx fun v b=>if v<i then g v b else b
theorem zH {α:Type} (g:Nat→α→α) (l:List α) (i:Nat):(Gh g l i).length=l.length:=by simp [Gh]
theorem ajF {α:Type} (g:Nat→α→α) {l:List α} {i:Nat} (h:i<l.length):(Gh g l i)[i]?=some l[i]:=by
 simp [Gh,List.getElem?_mapIdx,List.getElem?_eq_getElem h]
theorem adb {α:Type} (g:Nat→α→α) (l:List α):Gh g l 0=l:=by
 apply List.ext_getElem
 ·exact zH _ _ _
 ·intro n h1 h2;simp [Gh]
theorem ade {α:Type} (g:Nat→α→α) {l:List α} {i:Nat} (h:i<l.length):(Gh g l i).set i (g i l[i])=Gh g l (i+1):=by
 apply List.ext_getElem
 ·simp [Gh]
 ·intro n h1 h2
  rw [List.getElem_set]
  simp only [Gh,List.getElem_mapIdx]
  by_cases c:i=n
  ·subst c;simp
  ·rw [if_neg c]
   by_cases c2:n<i
   ·rw [if_pos c2,if_pos (by omega)]
   ·rw [if_neg c2,if_neg (by omega)]
theorem agq {α:Type} (g:Nat→α→α) (l:List α):Gh g l l.length=l.mapIdx g:=by
 apply List.ext_getElem
 ·simp [Gh]
 ·intro n h1 h2
  simp only [Gh,List.getElem_mapIdx]
  rw [if_pos (by simpa using h2)]
def VR (ws:List bK) (v:Nat) (b:Bm):Bm:=Dh b (jX (v:Int) ws)
def Fv (ws:List bK) (l:List Bm):List Bm:=l.mapIdx (VR ws)
def VT (ws:List bK) (l:List Bm) (v k:Nat) (b:Bm):List Bm:=(Gh (VR ws) l v).set v (Dh b ((jX (v:Int) ws).take k))
def Qg (ws:List bK) (l:List Bm):Prop:=∀ v (h:v<l.length),okB l[v]=true∧∀ e∈lQ (v:Int) ws,mZ l[v].size e=true
theorem adf {ws:List bK} {l:List Bm} (hf:Qg ws l) {v:Nat} (h:v<l.length) {k:Nat} (hk:k<(jX (v:Int) ws).length):Uu (Dh l[v] ((jX (v:Int) ws).take k)) (jX (v:Int) ws)[k]=0∧Zm orW (Dh l[v] ((jX (v:Int) ws).take k)) (jX (v:Int) ws)[k]=Dh l[v] ((jX (v:Int) ws).take (k+1)):=by
 obtain ⟨h1,h2⟩:=hf v h
 have hs:=jr h1
 obtain ⟨h3,_⟩:=zG ⟨hs.1,hs.2.1⟩ h2
 obtain ⟨g1,g2,g3,g4⟩:=VP ((jX (v:Int) ws).take k) h1 (fun e he=>h3 e (List.mem_of_mem_take he))
 obtain ⟨k1,_⟩:=acW g2 (e:=(jX (v:Int) ws)[k]) (by rw [g3];exact h3 _ (List.getElem_mem hk))
 refine ⟨k1,?_⟩
 unfold Dh
 rw [List.take_succ_eq_append_getElem hk,List.foldl_append]
 rfl
theorem sD {l:List fG} {i:Nat} (h:i<l.length):(l.map dw)[i]?=some (.agg [.int .i64 l[i].start,.int .i64 l[i].count]):=by rw [List.getElem?_map,List.getElem?_eq_getElem h];rfl
theorem ajG (ws:List bK) {l:List Bm} {v:Nat} (h:v<l.length) (k:Nat) (b:Bm):((VT ws l v k b).map jg)[v]?=some (.agg [.int .i64 (Dh b ((jX (v:Int) ws).take k)).size,.list 1 ((Dh b ((jX (v:Int) ws).take k)).ws.map eW)]):=by
 unfold VT
 rw [List.getElem?_map,List.getElem?_set_self (by rw [zH];exact h)]
 rfl
theorem agr (ws:List bK) (l:List Bm) (v k k2:Nat) (b:Bm):((VT ws l v k b).map jg).set v (.agg [.int .i64 (Dh b ((jX (v:Int) ws).take k2)).size,.list 1 ((Dh b ((jX (v:Int) ws).take k2)).ws.map eW)])=(VT ws l v k2 b).map jg:=by
 unfold VT
 rw [List.map_set,List.set_set,List.map_set]
 rfl
theorem adg (ws:List bK) {l:List Bm} {v:Nat} (h:v<l.length):VT ws l v 0 l[v]=Gh (VR ws) l v:=by
 unfold VT
 rw [List.take_zero]
 have:(Gh (VR ws) l v)[v]'(by rw [zH];exact h)=l[v]:=by
  have:=ajF (VR ws) h
  rw [List.getElem?_eq_getElem (by rw [zH];exact h)] at this
  exact Option.some.inj this
 show (Gh (VR ws) l v).set v l[v]=_
 rw [← this]
 exact List.set_getElem_self _
theorem ags (ws:List bK) {l:List Bm} {v:Nat} (h:v<l.length):VT ws l v (jX (v:Int) ws).length l[v]=Gh (VR ws) l (v+1):=by
 unfold VT
 rw [List.take_length,← ade (VR ws) h]
 rfl
theorem VU (ws:List bK) (l:List Bm) (v k:Nat) (b:Bm):(VT ws l v k b).length=l.length:=by simp [VT,zH]
theorem ajH {c:kX} {l:List Bm} {v:Nat} (hv:v<l.length) (hl:l.length≤1000) (hf:Qg c.ws l) {st:St} (h:st.head [0,3,6,12,13,19,20,21] st.boxes.length=some ⟨sl 44 [(0,.row 2 ((VT c.ws l v ((0:Nat)) l[v]).map jg)),(3,.aF 0 0),(6,.pv (.int .i64 v)),(12,.pv (.int .i64 l.length)),(13,.pv (.int .i64 v)),(19,.row 2 ((jX (v:Int) c.ws).map dw)),(20,.pv (.int .i64 (jX (v:Int) c.ws).length)),(21,.pv (.int .i64 (0:Nat)))],[⟨false,rD c⟩],[],none⟩) :
  den env KO st=some (.normal,⟨sl 44 [(0,.row 2 ((Gh (VR c.ws) l (v+1)).map jg)),(3,.aF 0 0),(4,.any),(5,.any),(12,.pv (.int .i64 l.length)),(13,.pv (.int .i64 v))],[⟨false,rD c⟩],[],none⟩):=by
 unfold KO
 refine bC (env:=env) ((jX (v:Int) c.ws).length) (fun i=>⟨sl 44 [(0,.row 2 ((VT c.ws l v (i) l[v]).map jg)),(3,.aF 0 0),(6,.pv (.int .i64 v)),(12,.pv (.int .i64 l.length)),(13,.pv (.int .i64 v)),(19,.row 2 ((jX (v:Int) c.ws).map dw)),(20,.pv (.int .i64 (jX (v:Int) c.ws).length)),(21,.pv (.int .i64 i))],[⟨false,rD c⟩],[],none⟩) (fun i=>some (.normal,⟨sl 44 [(0,.row 2 ((Gh (VR c.ws) l (v+1)).map jg)),(3,.aF 0 0),(4,.any),(5,.any),(12,.pv (.int .i64 l.length)),(13,.pv (.int .i64 v))],[⟨false,rD c⟩],[],none⟩)) h (fun _=>rfl) (fun _=>by simp only [aB,bg,Nat.reduceMul,Nat.reduceBEq,Nat.reduceLT,Nat.reduceLeDiff,Nat.reduceAdd,decide_true,Bool.and_self,Bool.true_and]) ?_ ?_
 ·intro i rb hi ih
  have hl2:(jX (v:Int) c.ws).length≤4096:=LU _ _
  have hi1:=bG hi (by unfold lim;omega)
  have F1:((i:Int)<((jX (v:Int) c.ws).length:Int))=True:=eq_true (by omega)
  have hx:=sD (l:=jX (v:Int) c.ws) (i:=i) hi
  have hy:=ajG c.ws hv i l[v]
  have hs:=agr c.ws l v i (i+1) l[v]
  obtain ⟨k1,k2⟩:=adf hf hv hi
  have e1:=ajs (b:=Dh l[v] ((jX (v:Int) c.ws).take i)) (e:=(jX (v:Int) c.ws)[i])
  rw [k1,k2,show jg (Dh l[v] ((jX (v:Int) c.ws).take i))=.agg [.int .i64 (Dh l[v] ((jX (v:Int) c.ws).take i)).size,.list 1 ((Dh l[v] ((jX (v:Int) c.ws).take i)).ws.map eW)] from rfl,show jg (Dh l[v] ((jX (v:Int) c.ws).take (i+1)))=.agg [.int .i64 (Dh l[v] ((jX (v:Int) c.ws).take (i+1))).size,.list 1 ((Dh l[v] ((jX (v:Int) c.ws).take (i+1))).ws.map eW)] from rfl,show dw (jX (v:Int) c.ws)[i]=.agg [.int .i64 (jX (v:Int) c.ws)[i].start,.int .i64 (jX (v:Int) c.ws)[i].count] from rfl] at e1
  have Z:((0:Int) != 0)=false:=rfl
  have hvl:v<(VT c.ws l v i l[v]).length:=by rw [VU];exact hv
  simp only [KN,F1,e1,Z,hx,hy,hs,rY,dZ,aj hi,VU,aj hv,List.length_map,au,Nat.reduceMul,Nat.reduceBEq,Nat.reduceLT,Nat.reduceLeDiff,reduceCtorEq,Nat.reduceEqDiff,Nat.reduceAdd,Nat.beq]
  rw [ih _ (by simp only [hi1,dZ,au,Nat.reduceMul,Nat.reduceBEq,Nat.reduceLT,Nat.reduceLeDiff,reduceCtorEq,Nat.reduceEqDiff,Nat.reduceAdd,Nat.beq]<;>rfl)]
  rfl
 ·intro rb
  rw [ags c.ws hv]
  simp only [KN,Int.lt_irrefl,dZ,List.length_map,au,Nat.reduceMul,Nat.reduceBEq,Nat.reduceLT,Nat.reduceLeDiff,reduceCtorEq,Nat.reduceEqDiff,Nat.reduceAdd,Nat.beq]
theorem adh {c:kX} {l:List Bm} (ho:Am c) (hl:l.length≤1000) (hf:Qg c.ws l) {st:St} (h:st.head [0,3,12,13] st.boxes.length=some ⟨sl 44 [(0,.row 2 ((Gh (VR c.ws) l ((0:Nat))).map jg)),(3,.aF 0 0),(12,.pv (.int .i64 l.length)),(13,.pv (.int .i64 (0:Nat)))],[⟨false,rD c⟩],[],none⟩) :
  den env KQ st=some (.normal,⟨sl 44 [(0,.row 2 ((Fv c.ws l).map jg)),(4,.any),(5,.any)],[⟨false,rD c⟩],[],none⟩):=by
 unfold KQ
 refine bC (env:=env) (l.length) (fun i=>⟨sl 44 [(0,.row 2 ((Gh (VR c.ws) l (i)).map jg)),(3,.aF 0 0),(12,.pv (.int .i64 l.length)),(13,.pv (.int .i64 i))],[⟨false,rD c⟩],[],none⟩) (fun i=>some (.normal,⟨sl 44 [(0,.row 2 ((Fv c.ws l).map jg)),(4,.any),(5,.any)],[⟨false,rD c⟩],[],none⟩)) h (fun _=>rfl) (fun _=>by simp only [aB,bg,Nat.reduceMul,Nat.reduceBEq,Nat.reduceLT,Nat.reduceLeDiff,Nat.reduceAdd,decide_true,Bool.and_self,Bool.true_and]) ?_ ?_
 ·intro i rb hi ih
  have hi1:=bG hi (by unfold lim;omega)
  have F1:((i:Int)<(l.length:Int))=True:=eq_true (by omega)
  obtain ⟨h1,h2⟩:=hf i hi
  have h3:=jr h1
  have e1:=ajE (l:=c.ws) (v:=(i:Int)) ho.2.1 (ada ⟨h3.1,h3.2.1⟩ h2)
  have hz:=adg c.ws hi
  simp only [KP,F1,e1,dZ,List.length_map,au,Nat.reduceMul,Nat.reduceBEq,Nat.reduceLT,Nat.reduceLeDiff,reduceCtorEq,Nat.reduceEqDiff,Nat.reduceAdd,Nat.beq]
  rw [ajH (c:=c) (l:=l) (v:=i) hi hl hf (by simp only [hz,dZ];simp only [aB,bg,Nat.reduceMul,Nat.reduceBEq,Nat.reduceLT,Nat.reduceLeDiff,Nat.reduceAdd,decide_true,Bool.and_self,Bool.true_and]<;>rfl)]
  simp only [dZ,au,Nat.reduceMul,Nat.reduceBEq,Nat.reduceLT,Nat.reduceLeDiff,reduceCtorEq,Nat.reduceEqDiff,Nat.reduceAdd,Nat.beq]
  rw [ih _ (by simp only [hi1,dZ,au,Nat.reduceMul,Nat.reduceBEq,Nat.reduceLT,Nat.reduceLeDiff,reduceCtorEq,Nat.reduceEqDiff,Nat.reduceAdd,Nat.beq]<;>rfl)]
  rfl
 ·intro rb
  rw [agq,show l.mapIdx (VR c.ws)=Fv c.ws l from rfl]
  simp only [KP,Int.lt_irrefl,dZ,List.length_map,au,Nat.reduceMul,Nat.reduceBEq,Nat.reduceLT,Nat.reduceLeDiff,reduceCtorEq,Nat.reduceEqDiff,Nat.reduceAdd,Nat.beq]
theorem ami {c:kX} {l:List Bm} (ho:Am c) (hl:l.length≤1000) (hf:Qg c.ws l):Oj env 76 (.row 2 (l.map jg)) [gU c]=some ([(.list 2 ((Fv c.ws l).map jg),true),(.int .i64 0,false)],none):=by
 rw [wP alF rfl,mO]
 simp only [abC,aB,Nat.reduceBEq,Nat.reduceLeDiff,Nat.reduceAdd,List.length_cons,List.length_nil]
 simp only [List.length_map,au,Nat.reduceMul,Nat.reduceBEq,Nat.reduceLT,Nat.reduceLeDiff,reduceCtorEq,Nat.reduceEqDiff,Nat.reduceAdd,Nat.beq]
 rw [adh (c:=c) (l:=l) ho hl hf (by simp only [adb,dZ];simp only [aB,bg,Nat.reduceMul,Nat.reduceBEq,Nat.reduceLT,Nat.reduceLeDiff,Nat.reduceAdd,decide_true,Bool.and_self,Bool.true_and]<;>rfl)]
 simp only [dZ,au,Nat.reduceMul,Nat.reduceBEq,Nat.reduceLT,Nat.reduceLeDiff,reduceCtorEq,Nat.reduceEqDiff,Nat.reduceAdd,Nat.beq]
end Go.Proofs.YtpcncggjmabnaaaGreatDoor.V

namespace Go.Proofs.YtpcncggjmabnaaaGreatDoor.V
def VW (z:List Int) (l:List Bm):Prop:=l.length=z.length∧∀ v (h:v<l.length),okB l[v]=true∧l[v].size=z.getD v 0
def mX (z:List Int) (ws:List bK):Prop:=∀ v,v<z.length→∀ e∈lQ (v:Int) ws,mZ (z.getD v 0) e=true
theorem Ux {z:List Int} {l:List Bm} {ws:List bK} (h:VW z l) (hw:mX z ws):Qg ws l:=fun v hv=>by
 obtain ⟨h1,h2⟩:=h.2 v hv
 refine ⟨h1,fun e he=>?_⟩
 rw [h2]
 exact hw v (by rw [← h.1];exact hv) e he
theorem adi {z:List Int} {l:List Bm} {ws:List bK} (h:VW z l) (hw:mX z ws):VW z (Fv ws l):=by
 refine ⟨by unfold Fv;rw [List.length_mapIdx];exact h.1,fun v hv=>?_⟩
 have hv':v<l.length:=by unfold Fv at hv;rw [List.length_mapIdx] at hv;exact hv
 obtain ⟨h1,h2⟩:=h.2 v hv'
 have h3:=jr h1
 obtain ⟨_,k1⟩:=Ux h hw v hv'
 obtain ⟨g1,g2,g3,g4⟩:=VP (jX (v:Int) ws) h1 (zG ⟨h3.1,h3.2.1⟩ k1).1
 have e1:(Fv ws l)[v]=Dh l[v] (jX (v:Int) ws):=by simp [Fv,VR]
 rw [e1]
 exact ⟨g2,g3.trans h2⟩
def AA (l:List Bm) (cs:List kX):List Bm:=cs.foldl (fun d c=>Fv c.ws d) l
theorem YZ (l:List Bm) {cs:List kX} {i:Nat} (h:i<cs.length):AA l (cs.take (i+1))=Fv cs[i].ws (AA l (cs.take i)):=by
 unfold AA
 rw [List.take_succ_eq_append_getElem h,List.foldl_append]
 rfl
theorem Uy {z:List Int}:∀ {cs:List kX} {l:List Bm},VW z l→(∀ c∈cs,mX z c.ws)→VW z (AA l cs)
 |[],l,h,_=>h
 |c :: cs,l,h,hw=>Uy (cs:=cs) (l:=Fv c.ws l) (adi h (hw c (by simp))) (fun x hx=>hw x (by simp [hx]))
theorem ajI {z:List Int} {cs:List kX} {dt:List Bm} (hc:∀ c∈cs,Am c∧mX z c.ws) (hz:z.length≤1000) (hd:VW z dt) (hl:cs.length≤10000) {x0 x1 x2 x3 x4 x5:BV} {st:St} (h:st.head [1,2,4,9,10,11] st.boxes.length=some ⟨sl 29 [(1,.pv (.list 5 (cs.map gU))),(2,.aF 0 0),(4,.aF 1 0),(9,.pv (.list 5 (cs.map gU))),(10,.pv (.int .i64 cs.length)),(11,.pv (.int .i64 (0:Nat)))],[⟨false,[x0,x1,x2,x3,x4,x5,.row 2 ((AA dt (cs.take ((0:Nat)))).map jg)]⟩,⟨false,P6⟩],[],none⟩) :
  den env KL st=some (.normal,⟨sl 29 [(2,.aF 0 0),(4,.aF 1 0),(5,.any)],[⟨false,[x0,x1,x2,x3,x4,x5,.row 2 ((AA dt cs).map jg)]⟩,⟨false,P6⟩],[],none⟩):=by
 unfold KL
 refine bC (env:=env) (cs.length) (fun i=>⟨sl 29 [(1,.pv (.list 5 (cs.map gU))),(2,.aF 0 0),(4,.aF 1 0),(9,.pv (.list 5 (cs.map gU))),(10,.pv (.int .i64 cs.length)),(11,.pv (.int .i64 i))],[⟨false,[x0,x1,x2,x3,x4,x5,.row 2 ((AA dt (cs.take (i))).map jg)]⟩,⟨false,P6⟩],[],none⟩) (fun i=>some (.normal,⟨sl 29 [(2,.aF 0 0),(4,.aF 1 0),(5,.any)],[⟨false,[x0,x1,x2,x3,x4,x5,.row 2 ((AA dt cs).map jg)]⟩,⟨false,P6⟩],[],none⟩)) h (fun _=>rfl) (fun _=>by simp only [aB,bg,Nat.reduceMul,Nat.reduceBEq,Nat.reduceLT,Nat.reduceLeDiff,Nat.reduceAdd,decide_true,Bool.and_self,Bool.true_and]) ?_ ?_
 ·intro i rb hi ih
  have hi1:=bG hi (by unfold lim;omega)
  have F1:((i:Int)<(cs.length:Int))=True:=eq_true (by omega)
  have hx:=Ls hi
  obtain ⟨o1,o2⟩:=hc _ (List.getElem_mem hi)
  have q:=Uy (cs:=cs.take i) hd (fun c h=>(hc c (List.mem_of_mem_take h)).2)
  have e1:=ami (c:=cs[i]) (l:=AA dt (cs.take i)) o1 (by rw [q.1];exact hz) (Ux q o2)
  rw [← YZ dt hi,mO] at e1
  have Z:((0:Int) != 0)=false:=rfl
  simp only [KJ,F1,e1,Z,hx,jB,iK,aj hi,List.length_map,au,Nat.reduceMul,Nat.reduceBEq,Nat.reduceLT,Nat.reduceLeDiff,reduceCtorEq,Nat.reduceEqDiff,Nat.reduceAdd,Nat.beq]
  rw [ih _ (by simp only [hi1,iK,au,Nat.reduceMul,Nat.reduceBEq,Nat.reduceLT,Nat.reduceLeDiff,reduceCtorEq,Nat.reduceEqDiff,Nat.reduceAdd,Nat.beq]<;>rfl)]
  rfl
 ·intro rb
  rw [List.take_length]
  simp only [KJ,Int.lt_irrefl,iK,List.length_map,au,Nat.reduceMul,Nat.reduceBEq,Nat.reduceLT,Nat.reduceLeDiff,reduceCtorEq,Nat.reduceEqDiff,Nat.reduceAdd,Nat.beq]
def agt (s:og):List AV:=[.pv (.int .i64 s.lm),.row 1 (s.sz.map eI),.row 5 (s.cy.map gU),.pv (.bool s.ov),.pv (.int .i64 s.fs),.pv (.int .i64 s.ls),.row 2 (s.dt.map jg)]
theorem qP (s:og):agt s=[.pv (.int .i64 s.lm),.row 1 (s.sz.map eI),.row 5 (s.cy.map gU),.pv (.bool s.ov),.pv (.int .i64 s.fs),.pv (.int .i64 s.ls),.row 2 (s.dt.map jg)]:=rfl
theorem ahz {z:List Int} {cs:List kX} {s:og} (hc:∀ c∈cs,Am c∧mX z c.ws) (hz:z.length≤1000) (hd:VW z s.dt) (hl:cs.length≤10000):Oj env 75 (.own (agt s)) [.list 5 (cs.map gU)]=some ([(oI { s with dt:=AA s.dt cs },false),(.int .i64 0,false)],none):=by
 rw [wP alE rfl,qP,eP]
 simp only [abB,aB,Nat.reduceBEq,Nat.reduceLeDiff,Nat.reduceAdd,List.length_cons,List.length_nil]
 simp only [List.length_map,au,Nat.reduceMul,Nat.reduceBEq,Nat.reduceLT,Nat.reduceLeDiff,reduceCtorEq,Nat.reduceEqDiff,Nat.reduceAdd,Nat.beq]
 rw [ajI (cs:=cs) (dt:=s.dt) hc hz hd hl (by simp only [iK];simp only [aB,bg,Nat.reduceMul,Nat.reduceBEq,Nat.reduceLT,Nat.reduceLeDiff,Nat.reduceAdd,decide_true,Bool.and_self,Bool.true_and]<;>rfl)]
 simp only [iK,fP,au,Nat.reduceMul,Nat.reduceBEq,Nat.reduceLT,Nat.reduceLeDiff,reduceCtorEq,Nat.reduceEqDiff,Nat.reduceAdd,Nat.beq]
end Go.Proofs.YtpcncggjmabnaaaGreatDoor.V
