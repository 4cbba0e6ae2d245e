/-
  Part 7 of the texts that the statement stands on.
-/
import Derived.Test.YtdahanchdjadiaaDoorZ6
set_option linter.all false
namespace Go.Proofs.YtdahanchdjadiaaDoor.V
structure afk where
 d0:Int
 d1:Int
 st:Int
 ins:Bool
 out:List bD
def l9 (keep:Bool→Bool→Bool) (x:End) (same:Bool) (s:afk):afk :=
 if same then ⟨if x.list=0 then s.d0+x.step else s.d0,if x.list=1 then s.d1+x.step else s.d1,s.st,s.ins,s.out⟩
 else ⟨if x.list=0 then s.d0+x.step else s.d0,if x.list=1 then s.d1+x.step else s.d1,
  if keep (decide ((if x.list=0 then s.d0+x.step else s.d0) > 0)) (decide ((if x.list=1 then s.d1+x.step else s.d1) > 0))&&!s.ins then x.pos else s.st,
  keep (decide ((if x.list=0 then s.d0+x.step else s.d0) > 0)) (decide ((if x.list=1 then s.d1+x.step else s.d1) > 0)),
  s.out++(if !keep (decide ((if x.list=0 then s.d0+x.step else s.d0) > 0)) (decide ((if x.list=1 then s.d1+x.step else s.d1) > 0))&&s.ins then [⟨s.st,x.pos - s.st⟩] else [])⟩
def jB (keep:Bool→Bool→Bool) (L:List End):Nat→afk
 |0=>⟨0,0,0,false,[]⟩
 |i+1=>match L[i]? with
  |some x=>l9 keep x (jq x (L.drop (i+1))) (jB keep L i)
  |none=>jB keep L i
theorem zX {keep:Bool→Bool→Bool} {L:List End} {i:Nat} {x:End} (h:L[i]?=some x):jB keep L (i+1)=l9 keep x (jq x (L.drop (i+1))) (jB keep L i):=by
 show (match L[i]? with
  |some x=>l9 keep x (jq x (L.drop (i+1))) (jB keep L i)
  |none=>jB keep L i)=_
 rw [h]
theorem Rh (keep:Bool→Bool→Bool) (L:List End):∀ i,i≤L.length→(jB keep L i).out++zN keep (L.drop i) (jB keep L i).d0 (jB keep L i).d1 (jB keep L i).st (jB keep L i).ins=zN keep L 0 0 0 false
 |0,_=>rfl
 |i+1,hi=>by
  have ih:=Rh keep L i (by omega)
  have hx:L[i]?=some L[i]:=List.getElem?_eq_getElem (by omega)
  rw [← ih,zX hx,List.drop_eq_getElem_cons (show i<L.length by omega)]
  generalize L[i]=x
  generalize jB keep L i=s
  conv=>rhs;unfold zN
  unfold l9
  cases jq x (L.drop (i+1)) with
  |true=>rfl
  |false=>simp only [Bool.false_eq_true,if_false,List.append_assoc]
theorem ZO (keep:Bool→Bool→Bool) (L:List End):(jB keep L L.length).out=zN keep L 0 0 0 false:=by
 have:=Rh keep L L.length (Nat.le_refl _)
 rw [List.drop_length] at this
 simpa [zN] using this
theorem DX {keep:Bool→Bool→Bool} {L:List End} (h:∀ x∈L,(x.step=1∨x.step=-1)∧x.pos≤4096):∀ i:Nat,(-(i:Int)≤(jB keep L i).d0∧(jB keep L i).d0≤i)∧(-(i:Int)≤(jB keep L i).d1∧(jB keep L i).d1≤i)∧(0≤(jB keep L i).st∧(jB keep L i).st≤4096)
 |0=>by simp [jB]
 |i+1=>by
  obtain ⟨h1,h2,h3⟩:=DX (keep:=keep) h i
  cases hx:L[i]? with
  |none =>
   have:jB keep L (i+1)=jB keep L i:=by
    show (match L[i]? with
     |some x=>l9 keep x (jq x (L.drop (i+1))) (jB keep L i)
     |none=>jB keep L i)=_
    rw [hx]
   rw [this]
   omega
  |some x =>
   rw [zX hx]
   obtain ⟨k1,k2⟩:=h x (List.mem_of_getElem? hx)
   generalize jB keep L i=s at *
   unfold l9
   split
   ·simp only
    refine ⟨?_,?_,h3⟩
    ·split<;>omega
    ·split<;>omega
   ·simp only
    refine ⟨?_,?_,?_⟩
    ·split<;>omega
    ·split<;>omega
    ·split<;>omega
def yE (l:List bD):List (List PV):=l.map fun x=>[aW x]
theorem Ji (l m:List bD):yE (l++m)=yE l++yE m:=by simp [yE]
theorem Ri (n m:Nat):((n:Int)==(m:Int))=decide (n=m):=by
 by_cases h:n=m
 ·subst h;simp
 ·rw [decide_eq_false h];simp;omega
set_option maxRecDepth 20000 in
set_option maxHeartbeats 2000000 in
theorem afl {keep:Bool→Bool→Bool} {kf:Nat} (hk:∀ p q,cal env kf [.bool p,.bool q]=some [(.bool (keep p q),false)]) {L:List End} (hL:∀ x∈L,((x.step=1∨x.step=-1)∧x.pos≤4096)∧x.list<2) (hl:L.length≤1000000)
  {st:St} (h:st.head [0,3,5,6,7,8,15,16,17,18] st.boxes.length=some ⟨sl 80 [(0,.pV),(3,.pv (.dH [.func kf []] 0)),(5,.row 3 (L.map iO)),(6,.aP 0 0),(7,.pv (.int .i64 0)),(8,.pv (.bool false)),(15,.any),(16,.ref (.slot 5) 0 L.length),(17,.pv (.int .i64 L.length)),(18,.pv (.int .i64 (0:Nat)))],[⟨false,[.pv (.int .i64 0),.pv (.int .i64 0)]⟩],[],some none⟩) :
  den env IZ st=some (.normal,⟨sl 80 [],[⟨false,[.pv (.int .i64 (jB keep L L.length).d0),.pv (.int .i64 (jB keep L L.length).d1)]⟩],yE (jB keep L L.length).out,some none⟩):=by
 unfold IZ
 have hlim:lim=1073741824:=rfl
 have hsm:=DX (keep:=keep) fun x hx=>(hL x hx).1
 refine dw (env:=env) L.length (fun i=>⟨sl 80 [(0,.pV),(3,.pv (.dH [.func kf []] 0)),(5,.row 3 (L.map iO)),(6,.aP 0 0),(7,.pv (.int .i64 (jB keep L i).st)),(8,.pv (.bool (jB keep L i).ins)),(15,.any),(16,.ref (.slot 5) 0 L.length),(17,.pv (.int .i64 L.length)),(18,.pv (.int .i64 i))],[⟨false,[.pv (.int .i64 (jB keep L i).d0),.pv (.int .i64 (jB keep L i).d1)]⟩],yE (jB keep L i).out,some none⟩) (fun _=>some (.normal,⟨sl 80 [],[⟨false,[.pv (.int .i64 (jB keep L L.length).d0),.pv (.int .i64 (jB keep L L.length).d1)]⟩],yE (jB keep L L.length).out,some none⟩)) h (fun _=>rfl) (fun _=>by simp only [aG,bY,Nat.reduceMul,Nat.reduceBEq,Nat.reduceLT,Nat.reduceLeDiff,Nat.reduceAdd,decide_true,Bool.and_self,Bool.true_and]) ?_ ?_
 ·intro i rb hi ih
  have hi1:=dN hi (by omega)
  have F1:((i:Int)<(L.length:Int))=True:=eq_true (by omega)
  have hx:L[i]?=some L[i]:=List.getElem?_eq_getElem hi
  obtain ⟨⟨x1,x2⟩,x3⟩:=hL _ (List.getElem_mem hi)
  have ahR:=zX (keep:=keep) hx
  obtain ⟨⟨s1,s2⟩,⟨s3,s4⟩,s5,s6⟩:=hsm i
  rw [ahR] at ih
  clear ahR
  generalize L[i]=x at *
  generalize hs:jB keep L i=s at *
  obtain ⟨d0,d1,sp,ins,out⟩:=s
  obtain ⟨p,k,t⟩:=x
  simp only at x1 x2 x3 s1 s2 s3 s4 s5 s6 ih
  have hlist:k=0∨k=1:=by omega
  have W0:IntKind.i64.wrap (d0+t)=d0+t:=ay (by omega)
  have W1:IntKind.i64.wrap (d1+t)=d1+t:=ay (by omega)
  have W2:IntKind.i64.wrap ((p:Int) - sp)=(p:Int) - sp:=ay (by omega)
  have I0:index (.int .i64 0) 2=some 0:=rfl
  have I1:index (.int .i64 1) 2=some 1:=rfl
  have IN0:index (.int .i64 ((0:Nat):Int)) 2=some 0:=rfl
  have IN1:index (.int .i64 ((1:Nat):Int)) 2=some 1:=rfl
  have P3:∀ a b c:PV,part [a,b,c] 0 (some 3)=some (.agg [a,b,c]):=fun a b c=>rfl
  -- the next end
  have hnx:(∃ y,L[i+1]?=some y∧jq ⟨p,k,t⟩ (L.drop (i+1))=decide (y.pos=p)∧(((i+1:Nat):Int)<(L.length:Int))∧index (.int .i64 ((i+1:Nat):Int)) L.length=some (i+1))∨(jq ⟨p,k,t⟩ (L.drop (i+1))=false∧¬ (((i+1:Nat):Int)<(L.length:Int))):=by
   by_cases hlt:i+1<L.length
   ·left
    refine ⟨L[i+1],List.getElem?_eq_getElem hlt,?_,by omega,aj hlt⟩
    rw [List.drop_eq_getElem_cons hlt];rfl
   ·right
    refine ⟨?_,by omega⟩
    rw [List.drop_eq_nil_of_le (by omega)];rfl
  rcases hlist with rfl|rfl
  ·-- list 0
   have e1:=hk (decide (d0+t > 0)) (decide (d1 > 0))
   have same:l9 keep ⟨p,0,t⟩ true ⟨d0,d1,sp,ins,out⟩=⟨d0+t,d1,sp,ins,out⟩:=by simp [l9]
   have diff:l9 keep ⟨p,0,t⟩ false ⟨d0,d1,sp,ins,out⟩=⟨d0+t,d1,if keep (decide (d0+t > 0)) (decide (d1 > 0))&&!ins then (p:Int) else sp,keep (decide (d0+t > 0)) (decide (d1 > 0)),out++(if !keep (decide (d0+t > 0)) (decide (d1 > 0))&&ins then [⟨sp,(p:Int) - sp⟩] else [])⟩:=by simp [l9]
   rcases hnx with ⟨y,hy,hns,hlt,hix⟩|⟨hns,hlt⟩
   ·have F2:(((i+1:Nat):Int)<(L.length:Int))=True:=eq_true hlt
    rw [hns] at ih
    have B:=Ri y.pos p
    generalize hb:decide (y.pos=p)=b at ih B
    cases b with
    |true =>
     rw [same] at ih
     simp only [qx,F1,hx,hi1,W0,W1,W2,I0,I1,IN0,IN1,P3,iO,aj hi,List.getElem?_map,Option.map_some,List.length_map,List.length_cons,List.length_nil,F2,hy,hix,B,ak,Nat.reduceMul,Nat.reduceBEq,Nat.reduceLT,Nat.reduceLeDiff,reduceCtorEq,Nat.reduceEqDiff,Nat.reduceAdd,Nat.beq]
     rw [ih _ (by simp only [hi1,ak,Nat.reduceMul,Nat.reduceBEq,Nat.reduceLT,Nat.reduceLeDiff,reduceCtorEq,Nat.reduceEqDiff,Nat.reduceAdd,Nat.beq]<;>rfl)]
    |false =>
     rw [diff] at ih
     generalize keep (decide (d0+t > 0)) (decide (d1 > 0))=now at *
     cases now<;>cases ins<;>simp only [Bool.not_true,Bool.not_false,Bool.and_true,Bool.and_false,Bool.and_self,Bool.false_eq_true,if_true,if_false,List.append_nil,Ji] at ih<;>simp only [qx,F1,hx,hi1,W0,W1,W2,I0,I1,IN0,IN1,P3,iO,aj hi,List.getElem?_map,Option.map_some,List.length_map,List.length_cons,List.length_nil,F2,hy,hix,B,e1,ak,Nat.reduceMul,Nat.reduceBEq,Nat.reduceLT,Nat.reduceLeDiff,reduceCtorEq,Nat.reduceEqDiff,Nat.reduceAdd,Nat.beq]<;>rw [ih _ (by simp only [hi1,yE,List.map_cons,List.map_nil,aW,ak,Nat.reduceMul,Nat.reduceBEq,Nat.reduceLT,Nat.reduceLeDiff,reduceCtorEq,Nat.reduceEqDiff,Nat.reduceAdd,Nat.beq]<;>rfl)]
   ·have F2:(((i+1:Nat):Int)<(L.length:Int))=False:=eq_false hlt
    rw [hns,diff] at ih
    generalize keep (decide (d0+t > 0)) (decide (d1 > 0))=now at *
    cases now<;>cases ins<;>simp only [Bool.not_true,Bool.not_false,Bool.and_true,Bool.and_false,Bool.and_self,Bool.false_eq_true,if_true,if_false,List.append_nil,Ji] at ih<;>simp only [qx,F1,hx,hi1,W0,W1,W2,I0,I1,IN0,IN1,P3,iO,aj hi,List.getElem?_map,Option.map_some,List.length_map,List.length_cons,List.length_nil,F2,e1,ak,Nat.reduceMul,Nat.reduceBEq,Nat.reduceLT,Nat.reduceLeDiff,reduceCtorEq,Nat.reduceEqDiff,Nat.reduceAdd,Nat.beq]<;>rw [ih _ (by simp only [hi1,yE,List.map_cons,List.map_nil,aW,ak,Nat.reduceMul,Nat.reduceBEq,Nat.reduceLT,Nat.reduceLeDiff,reduceCtorEq,Nat.reduceEqDiff,Nat.reduceAdd,Nat.beq]<;>rfl)]
  ·-- list 1
   have e1:=hk (decide (d0 > 0)) (decide (d1+t > 0))
   have same:l9 keep ⟨p,1,t⟩ true ⟨d0,d1,sp,ins,out⟩=⟨d0,d1+t,sp,ins,out⟩:=by simp [l9]
   have diff:l9 keep ⟨p,1,t⟩ false ⟨d0,d1,sp,ins,out⟩=⟨d0,d1+t,if keep (decide (d0 > 0)) (decide (d1+t > 0))&&!ins then (p:Int) else sp,keep (decide (d0 > 0)) (decide (d1+t > 0)),out++(if !keep (decide (d0 > 0)) (decide (d1+t > 0))&&ins then [⟨sp,(p:Int) - sp⟩] else [])⟩:=by simp [l9]
   rcases hnx with ⟨y,hy,hns,hlt,hix⟩|⟨hns,hlt⟩
   ·have F2:(((i+1:Nat):Int)<(L.length:Int))=True:=eq_true hlt
    rw [hns] at ih
    have B:=Ri y.pos p
    generalize hb:decide (y.pos=p)=b at ih B
    cases b with
    |true =>
     rw [same] at ih
     simp only [qx,F1,hx,hi1,W0,W1,W2,I0,I1,IN0,IN1,P3,iO,aj hi,List.getElem?_map,Option.map_some,List.length_map,List.length_cons,List.length_nil,F2,hy,hix,B,ak,Nat.reduceMul,Nat.reduceBEq,Nat.reduceLT,Nat.reduceLeDiff,reduceCtorEq,Nat.reduceEqDiff,Nat.reduceAdd,Nat.beq]
     rw [ih _ (by simp only [hi1,ak,Nat.reduceMul,Nat.reduceBEq,Nat.reduceLT,Nat.reduceLeDiff,reduceCtorEq,Nat.reduceEqDiff,Nat.reduceAdd,Nat.beq]<;>rfl)]
    |false =>
     rw [diff] at ih
     generalize keep (decide (d0 > 0)) (decide (d1+t > 0))=now at *
     cases now<;>cases ins<;>simp only [Bool.not_true,Bool.not_false,Bool.and_true,Bool.and_false,Bool.and_self,Bool.false_eq_true,if_true,if_false,List.append_nil,Ji] at ih<;>simp only [qx,F1,hx,hi1,W0,W1,W2,I0,I1,IN0,IN1,P3,iO,aj hi,List.getElem?_map,Option.map_some,List.length_map,List.length_cons,List.length_nil,F2,hy,hix,B,e1,ak,Nat.reduceMul,Nat.reduceBEq,Nat.reduceLT,Nat.reduceLeDiff,reduceCtorEq,Nat.reduceEqDiff,Nat.reduceAdd,Nat.beq]<;>rw [ih _ (by simp only [hi1,yE,List.map_cons,List.map_nil,aW,ak,Nat.reduceMul,Nat.reduceBEq,Nat.reduceLT,Nat.reduceLeDiff,reduceCtorEq,Nat.reduceEqDiff,Nat.reduceAdd,Nat.beq]<;>rfl)]
   ·have F2:(((i+1:Nat):Int)<(L.length:Int))=False:=eq_false hlt
    rw [hns,diff] at ih
    generalize keep (decide (d0 > 0)) (decide (d1+t > 0))=now at *
    cases now<;>cases ins<;>simp only [Bool.not_true,Bool.not_false,Bool.and_true,Bool.and_false,Bool.and_self,Bool.false_eq_true,if_true,if_false,List.append_nil,Ji] at ih<;>simp only [qx,F1,hx,hi1,W0,W1,W2,I0,I1,IN0,IN1,P3,iO,aj hi,List.getElem?_map,Option.map_some,List.length_map,List.length_cons,List.length_nil,F2,e1,ak,Nat.reduceMul,Nat.reduceBEq,Nat.reduceLT,Nat.reduceLeDiff,reduceCtorEq,Nat.reduceEqDiff,Nat.reduceAdd,Nat.beq]<;>rw [ih _ (by simp only [hi1,yE,List.map_cons,List.map_nil,aW,ak,Nat.reduceMul,Nat.reduceBEq,Nat.reduceLT,Nat.reduceLeDiff,reduceCtorEq,Nat.reduceEqDiff,Nat.reduceAdd,Nat.beq]<;>rfl)]
 ·intro rb
  simp only [qx,Int.lt_irrefl,ak,Nat.reduceMul,Nat.reduceBEq,Nat.reduceLT,Nat.reduceLeDiff,reduceCtorEq,Nat.reduceEqDiff,Nat.reduceAdd,Nat.beq]
end Go.Proofs.YtdahanchdjadiaaDoor.V

namespace Go.Proofs.YtdahanchdjadiaaDoor.V
def setOf (keep:Bool→Bool→Bool) (a b:List bD):List bD:=ext (fun s=>keep (tK a s) (tK b s)) 4096
theorem Jj {α:Type} {P:α→Prop} {a b:α} (ha:P a) (hb:P b):∀ l∈[a,b],P l:=by
 intro l hl
 simp only [List.mem_cons,List.not_mem_nil,or_false] at hl
 rcases hl with rfl|rfl
 ·exact ha
 ·exact hb
theorem MK {i s:Nat} {l m:List End} (h:l.Perm m):dep i s l=dep i s m:=by
 induction h with
 |nil=>rfl
 |cons x _ ih=>simp only [dep,ih]
 |swap x y l=>simp only [dep];omega
 |trans _ _ h1 h2=>exact h1.trans h2
theorem ZP {i:Nat} {l m:List End} (h:l.Perm m):tot i l=tot i m:=by
 induction h with
 |nil=>rfl
 |cons x _ ih=>simp only [tot,ih]
 |swap x y l=>simp only [tot];omega
 |trans _ _ h1 h2=>exact h1.trans h2
theorem tq (i:Nat) (e:bD) (l:List bD):eU i (e :: l)=(if (wX e).2.2 then [⟨(wX e).1.toNat,i,1⟩,⟨(wX e).2.1.toNat,i,-1⟩] else [])++eU i l:=by simp [eU]
theorem rD {i:Nat}:∀ {l:List bD} {x:End},x∈eU i l→((x.step=1∨x.step=-1)∧x.pos≤4096)∧x.list=i
 |[],x,h=>by simp [eU] at h
 |e :: l,x,h=>by
  rw [tq] at h
  rcases List.mem_append.1 h with h|h
  ·cases hw:(wX e).2.2 with
   |false=>rw [hw] at h;simp at h
   |true =>
    obtain ⟨n,m,hnm,h1,h2,-⟩:=Jh hw
    rw [hnm] at h
    simp only [if_true,Int.toNat_natCast,List.mem_cons,List.not_mem_nil,or_false] at h
    rcases h with rfl|rfl
    ·exact ⟨⟨.inl rfl,by simp only;omega⟩,rfl⟩
    ·exact ⟨⟨.inr rfl,h2⟩,rfl⟩
  ·exact rD h
theorem Jk {i j:Nat}:∀ l:List bD,tot j (eU i l)=0
 |[]=>rfl
 |e :: l=>by
  rw [tq,yU,Jk l]
  split
  ·simp only [tot];split<;>omega
  ·rfl
theorem zY {i j s:Nat} (h:i≠j):∀ l:List bD,dep j s (eU i l)=0
 |[]=>rfl
 |e :: l=>by
  rw [tq,wu,zY h l]
  split
  ·simp [dep,h]
  ·rfl
theorem Jl {i s:Nat} (hs:s<4096):∀ l:List bD,0≤dep i s (eU i l)∧(dep i s (eU i l) > 0 ↔ tK l s=true)
 |[]=>by simp [eU,dep,tK]
 |e :: l=>by
  obtain ⟨h1,h2⟩:=Jl (i:=i) hs l
  rw [tq,wu]
  have h3:tK (e :: l) s=(rH e s || tK l s):=rfl
  rw [h3]
  cases hw:(wX e).2.2 with
  |false =>
   rw [ZK hw hs]
   simp only [Bool.false_eq_true,if_false,dep,Int.zero_add,Bool.false_or]
   exact ⟨h1,h2⟩
  |true =>
   obtain ⟨n,m,hnm,g1,g2,g3⟩:=Jh hw
   have g4:=g3 s hs
   rw [hnm]
   simp only [if_true,Int.toNat_natCast,dep,true_and]
   cases hin:rH e s with
   |false =>
    rw [Bool.false_or,← h2]
    have:¬ (n≤s∧s<m):=fun h=>by rw [g4.2 h] at hin;cases hin
    split<;>split<;>omega
   |true =>
    obtain ⟨k1,k2⟩:=g4.1 hin
    rw [if_pos k1,if_neg (by omega)]
    simp only [Bool.true_or,iff_true]
    omega
theorem ZQ:∀ {l:List End},(∀ i j:Nat,i<j→j<l.length→¬ l[j]!.pos<l[i]!.pos)→Asc l
 |[],_=>trivial
 |[x],_=>trivial
 |x :: y :: l,h=>by
  refine ⟨?_,ZQ fun i j hij hj=>?_⟩
  ·have:=h 0 1 (by omega) (by simp)
   simp at this
   omega
  ·have:=h (i+1) (j+1) (by omega) (by simp at hj ⊢;omega)
   simpa using this
theorem Vw {keep:Bool→Bool→Bool} (hk:keep false false=false) (a b:List bD):zN keep (lu [a,b]) 0 0 0 false=setOf keep a b:=by
 obtain ⟨h1,h2,h3⟩:=xJ (bZ 0 [a,b])
 have hr:bZ 0 [a,b]=eU 0 a++eU 1 b:=by simp [bZ]
 have hmem:∀ x∈lu [a,b],x.pos≤4096:=fun x hx=>by
  have:=h1.mem_iff.1 hx
  rw [hr] at this
  rcases List.mem_append.1 this with q|q
  ·exact (rD q).1.2
  ·exact (rD q).1.2
 have ht:∀ j,tot j (lu [a,b])=0:=fun j=>by
  unfold lu
  rw [ZP h1,hr,yU,Jk,Jk];rfl
 have hasc:Asc (lu [a,b]):=ZQ fun i j hij hj=>h3 i j hij (by unfold lu at hj;omega)
 rw [YR hk hasc hmem (ht 0) (ht 1)]
 unfold setOf
 apply FX
 intro s hs
 unfold kD lu
 rw [MK h1,MK h1,hr,wu,wu,zY (i:=1) (j:=0) (by decide),zY (i:=0) (j:=1) (by decide),Int.add_zero,Int.zero_add]
 have e1:=(Jl (i:=0) hs a).2
 have e2:=(Jl (i:=1) hs b).2
 have f1:decide (dep 0 s (eU 0 a) > 0)=tK a s:=by
  cases h:tK a s
  ·exact decide_eq_false fun q=>by rw [e1.1 q] at h;cases h
  ·exact decide_eq_true (e1.2 h)
 have f2:decide (dep 1 s (eU 1 b) > 0)=tK b s:=by
  cases h:tK b s
  ·exact decide_eq_false fun q=>by rw [e2.1 q] at h;cases h
  ·exact decide_eq_true (e2.2 h)
 rw [f1,f2]
set_option maxRecDepth 20000 in
theorem afm {keep:Bool→Bool→Bool} (h0:keep false false=false) {kf:Nat} (hk:∀ p q,cal env kf [.bool p,.bool q]=some [(.bool (keep p q),false)]) {a b:List bD} (ha:Jg a) (hb:Jg b) (la:a.length≤10000) (lb:b.length≤10000) :
  iter env 85 [.dH [.list 2 (a.map aW)] 0,.dH [.list 2 (b.map aW)] 0,.dH [.func kf []] 0] none=some (yE (setOf keep a b)):=by
 have hlim:lim=1073741824:=rfl
 obtain ⟨h1,h2,h3⟩:=xJ (bZ 0 [a,b])
 have hr:bZ 0 [a,b]=eU 0 a++eU 1 b:=by simp [bZ]
 have hp:=qy (n:=10000) [a,b] 0 (Jj la lb)
 have e1:=ahQ (ls:=[a,b]) (Jj ha hb) (Jj la lb) (by simp) h2
 have hE:(lu [a,b]).length≤1000000:=by unfold lu;rw [h2];simp at hp;omega
 have hm:∀ x∈lu [a,b],((x.step=1∨x.step=-1)∧x.pos≤4096)∧x.list<2:=fun x hx=>by
  have:=h1.mem_iff.1 hx
  rw [hr] at this
  rcases List.mem_append.1 this with q|q
  ·have:=rD q;exact ⟨this.1,by omega⟩
  ·have:=rD q;exact ⟨this.1,by omega⟩
 have hres:=(ZO keep (lu [a,b])).trans (Vw h0 a b)
 simp only [List.map_cons,List.map_nil,xX] at e1
 have L2:(2≤lim)=True:=eq_true (by omega)
 rw [vZ ahj rfl rfl]
 have hy:Dz 80 [.dH [.list 2 (a.map aW)] 0,.dH [.list 2 (b.map aW)] 0,.dH [.func kf []] 0] none=⟨sl 80 [(0,.pV),(1,.pv (.dH [.list 2 (a.map aW)] 0)),(2,.pv (.dH [.list 2 (b.map aW)] 0)),(3,.pv (.dH [.func kf []] 0))],[],[],some none⟩:=rfl
 simp only [YF]
 rw [hy]
 simp only [e1,L2,List.length_map,ak,Nat.reduceMul,Nat.reduceBEq,Nat.reduceLT,Nat.reduceLeDiff,reduceCtorEq,Nat.reduceEqDiff,Nat.reduceAdd,Nat.beq]
 rw [afl hk hm hE (by simp only [ak,Nat.reduceMul,Nat.reduceBEq,Nat.reduceLT,Nat.reduceLeDiff,reduceCtorEq,Nat.reduceEqDiff,Nat.reduceAdd,Nat.beq]<;>rfl)]
 rw [hres]
 rfl
theorem ahS {g:Nat} {caps:List PV} {l:List bD} (hi:iter env g caps none=some (yE l)) (hl:l.length≤1000000):cal env 84 [.lK 2,.func g caps]=some [(.list 2 (l.map aW),true)]:=by
 have hlim:lim=1073741824:=rfl
 rw [ah ahi rfl];simp only [YE];simp only [start,aO,aY,aK,aX,aH,aI,aN,aU,Nat.reduceAdd,Nat.reduceSub]
 simp only [bW,reduceCtorEq,Nat.reduceEqDiff,Nat.reduceAdd,Nat.reduceLT,Nat.reduceLeDiff,Nat.beq]
 rw [BQ (env:=env) (fun j=>[⟨false,[.row 2 ((l.take j).map aW)]⟩]) (xs:=yE l) rfl hi rfl ?_]
 ·simp only [yE,List.length_map,List.take_length,wG,bW,reduceCtorEq,Nat.reduceEqDiff,Nat.reduceAdd,Nat.reduceLT,Nat.reduceLeDiff,Nat.beq]
 ·intro j x hx sl0
  simp only [yE,List.getElem?_map,Option.map_eq_some_iff] at hx
  obtain ⟨e,he,rfl⟩:=hx
  have hj:=(List.getElem?_eq_some_iff.1 he).1
  have F3:((l.take j).length+1≤lim)=True:=eq_true (by rw [List.length_take];omega)
  have ht:l.take (j+1)=l.take j++[e]:=by rw [List.take_add_one,he];rfl
  rw [ht]
  refine ⟨?_,?_⟩
  rotate_left
  ·simp only [QC,QD,F3,aW,List.map_append,List.map_cons,List.map_nil,wG,bW,reduceCtorEq,Nat.reduceEqDiff,Nat.reduceAdd,Nat.reduceLT,Nat.reduceLeDiff,Nat.beq]
   rfl
theorem ahT {g:Nat} {caps:List PV} {l:List bD} (hi:iter env g caps none=some (yE l)) (hl:l.length≤1000000):cal env 74 [.func g caps]=some [(.list 2 (l.map aW),true)]:=by
 have e1:=ahS hi hl
 rw [ah aha rfl];simp only [Yy];simp only [start,aO,aY,aK,aX,aH,aI,aN,aU,Nat.reduceAdd,Nat.reduceSub]
 simp only [e1,bW,reduceCtorEq,Nat.reduceEqDiff,Nat.reduceAdd,Nat.reduceLT,Nat.reduceLeDiff,Nat.beq]
end Go.Proofs.YtdahanchdjadiaaDoor.V

namespace Go.Proofs.YtdahanchdjadiaaDoor.V
def orB (p q:Bool):Bool:=p || q
theorem Vx (l:List bD) (i:Nat):(uT l i).length≤l.length+1:=by
 rcases jQ l with rfl|⟨p,x,rfl⟩
 ·simp [uT]
 ·rw [gV];split<;>simp
theorem yY (p:Nat→Bool):∀ n,(ext p n).length≤n
 |0=>Nat.le_refl _
 |n+1=>by
  rw [pJ]
  have:=yY p n
  have:=Vx (ext p n) n
  split<;>omega
theorem Vy (keep:Bool→Bool→Bool) (a b:List bD):(setOf keep a b).length≤4096:=yY _ _
theorem ahU {a b:List PV} {kf:Nat}:cal env 75 [.list 2 a,.list 2 b,.func kf []]=some [(.func 85 [.dH [.list 2 a] 0,.dH [.list 2 b] 0,.dH [.func kf []] 0],false)]:=by
 rw [ah ahb rfl];simp only [Yz,aG,Nat.reduceBEq,Nat.reduceLeDiff,Nat.reduceAdd,List.length_cons,List.length_nil]
 simp only [ak,Nat.reduceMul,Nat.reduceBEq,Nat.reduceLT,Nat.reduceLeDiff,reduceCtorEq,Nat.reduceEqDiff,Nat.reduceAdd,Nat.beq]
theorem ahV (p q:Bool):cal env 76 [.bool p,.bool q]=some [(.bool (orB p q),false)]:=by
 cases p<;>cases q<;>(rw [ah ahc rfl];simp only [YA,aG,Nat.reduceBEq,Nat.reduceLeDiff,Nat.reduceAdd,List.length_cons,List.length_nil];simp only [ak,Nat.reduceMul,Nat.reduceBEq,Nat.reduceLT,Nat.reduceLeDiff,reduceCtorEq,Nat.reduceEqDiff,Nat.reduceAdd,Nat.beq]<;>rfl)
theorem ahW {a b:List bD} (ha:Jg a) (hb:Jg b) (la:a.length≤10000) (lb:b.length≤10000):cal env 50 [.list 2 (a.map aW),.list 2 (b.map aW)]=some [(.list 2 ((setOf orB a b).map aW),true)]:=by
 have e1:=ahU (a:=a.map aW) (b:=b.map aW) (kf:=76)
 have hi:=afm (keep:=orB) rfl (kf:=76) (fun p q=>ahV p q) ha hb la lb
 have hlen:=Vy orB a b
 have e2:=ahT hi (by omega)
 rw [ah agW rfl];simp only [Yl,aG,Nat.reduceBEq,Nat.reduceLeDiff,Nat.reduceAdd,List.length_cons,List.length_nil]
 simp only [e1,e2,ak,Nat.reduceMul,Nat.reduceBEq,Nat.reduceLT,Nat.reduceLeDiff,reduceCtorEq,Nat.reduceEqDiff,Nat.reduceAdd,Nat.beq]
def orS (l:List bD):List bD:=setOf orB l []
theorem zZ (p:Nat→Bool) (n:Nat):(∀ x∈ext p n,0≤x.start∧1≤x.count∧x.start+x.count≤(n:Int)):=by
 induction n with
 |zero=>intro x hx;cases hx
 |succ n ih =>
  rw [pJ]
  split
  ·rcases jQ (ext p n) with e|⟨pre,y,e⟩
   ·rw [e]
    intro x hx
    have:uT [] n=[⟨(n:Int),1⟩]:=rfl
    rw [this] at hx
    simp only [List.mem_singleton] at hx
    subst hx
    simp only;omega
   ·rw [e] at ih ⊢
    intro x hx
    rw [gV] at hx
    split at hx
    ·rcases List.mem_append.1 hx with h|h
     ·have:=ih x (by simp [h]);omega
     ·simp only [List.mem_singleton] at h
      have:=ih y (by simp)
      subst h;simp only;omega
    ·rcases List.mem_append.1 hx with h|h
     ·have:=ih x h;omega
     ·simp only [List.mem_singleton] at h
      subst h;simp only;omega
  ·intro x hx;have:=ih x hx;omega
end Go.Proofs.YtdahanchdjadiaaDoor.V

namespace Go.Proofs.YtdahanchdjadiaaDoor.V
def wI (b:Bm) (l:List bD):Bm:=l.foldl (fun b e=>xQ JG b e) b
def VR:Bm→List bD→Int
 |_,[]=>0
 |b,e :: l=>if BR b e=0 then VR (xQ JG b e) l else BR b e
def fxE (n:Int) (l:List bD):Int:=if newE n=0 then VR (qY n) l else newE n
def VT (n:Int) (l:List bD):Bm:=if fxE n l=0 then wI (qY n) l else ⟨0,[]⟩
theorem ZR {b:Bm} {l:List bD} {k:Nat} (h:k<l.length):VR (wI b (l.take k)) (l.drop k)=if BR (wI b (l.take k)) l[k]=0 then VR (wI b (l.take (k+1))) (l.drop (k+1)) else BR (wI b (l.take k)) l[k]:=by
 rw [List.drop_eq_getElem_cons h,VR]
 congr 2
 unfold wI
 rw [List.take_succ_eq_append_getElem h,List.foldl_append]
 rfl
def Gt (n:Nat) (b0:Bm) (l:List bD) (e:Int):Option (Ex × St) :=
 if e=0 then some (.normal,⟨sl n [(4,.aP 0 0),(5,.any),(6,.aP 1 0)],[⟨false,[.pv (.int .i64 0),.row 1 []]⟩,⟨false,[.pv (.int .i64 (wI b0 l).size),.pv (.list 1 ((wI b0 l).ws.map eW))]⟩],[],none⟩)
 else some (.ret,⟨sl n [(4,.aP 0 0),(5,.pv (.int .i64 e)),(6,.aP 1 0)],[⟨false,[.pv (.int .i64 0),.pv (.list 1 [])]⟩,⟨false,[.pv (.int .i64 0),.pv (.list 1 [])]⟩],[],none⟩)
theorem ZT {l:List bD} {b0:Bm} (hl:l.length≤lim) {st:St} (h:st.head [1,4,6,19,20,21] st.boxes.length=some ⟨sl 37 [(1,.pv (.list 2 (l.map aW))),(4,.aP 0 0),(6,.aP 1 0),(19,.pv (.list 2 (l.map aW))),(20,.pv (.int .i64 l.length)),(21,.pv (.int .i64 (0:Nat)))],[⟨false,[.pv (.int .i64 0),.row 1 []]⟩,⟨false,[.pv (.int .i64 (wI b0 (l.take ((0:Nat)))).size),.pv (.list 1 ((wI b0 (l.take ((0:Nat)))).ws.map eW))]⟩],[],none⟩) :
  den env Iz st=Gt 37 b0 l (VR (wI b0 (l.take ((0:Nat)))) (l.drop ((0:Nat)))):=by
 unfold Iz
 refine dw (env:=env) (nb:=2) (l.length) (fun i=>⟨sl 37 [(1,.pv (.list 2 (l.map aW))),(4,.aP 0 0),(6,.aP 1 0),(19,.pv (.list 2 (l.map aW))),(20,.pv (.int .i64 l.length)),(21,.pv (.int .i64 i))],[⟨false,[.pv (.int .i64 0),.row 1 []]⟩,⟨false,[.pv (.int .i64 (wI b0 (l.take (i))).size),.pv (.list 1 ((wI b0 (l.take (i))).ws.map eW))]⟩],[],none⟩) (fun i=>Gt 37 b0 l (VR (wI b0 (l.take (i))) (l.drop (i)))) h (fun _=>rfl) (fun _=>by simp only [aG,bY,Nat.reduceMul,Nat.reduceBEq,Nat.reduceLT,Nat.reduceLeDiff,Nat.reduceAdd,decide_true,Bool.and_self,Bool.true_and]) ?_ ?_
 ·intro i rb hi ih
  have hi1:=dN hi hl
  have F1:((i:Int)<(l.length:Int))=True:=eq_true (by omega)
  have eA:∀ b:Bm,qL b=.agg [.int .i64 b.size,.list 1 (b.ws.map eW)]:=fun _=>rfl
  have eX:∀ e:bD,aW e=.agg [.int .i64 e.start,.int .i64 e.count]:=fun _=>rfl
  have P2:∀ a b:PV,part [a,b] 0 (some 2)=some (.agg [a,b]):=fun _ _=>rfl
  have e2:=adL (b:=wI b0 (l.take i)) (e:=l[i])
  have hx:(l.map aW)[i]?=some (aW l[i]):=by rw [List.getElem?_map,List.getElem?_eq_getElem hi];rfl
  have hs:wI b0 (l.take (i+1))=xQ JG (wI b0 (l.take i)) l[i]:=by unfold wI;rw [List.take_succ_eq_append_getElem hi,List.foldl_append];rfl
  rw [ZR hi]
  by_cases c0:BR (wI b0 (l.take i)) l[i]=0
  ·have Z:((0:Int) != 0)=false:=rfl
   rw [if_pos c0]
   rw [c0,← hs] at e2
   generalize wI b0 (l.take i)=p at *
   generalize wI b0 (l.take (i+1))=q at *
   rw [eA,eA,eX] at e2
   rw [eX] at hx
   simp only [BM,F1,Z,hx,e2,P2,aj hi,List.length_map,ak,Nat.reduceMul,Nat.reduceBEq,Nat.reduceLT,Nat.reduceLeDiff,reduceCtorEq,Nat.reduceEqDiff,Nat.reduceAdd,Nat.beq]
   rw [ih _ (by simp only [hi1,ak,Nat.reduceMul,Nat.reduceBEq,Nat.reduceLT,Nat.reduceLeDiff,reduceCtorEq,Nat.reduceEqDiff,Nat.reduceAdd,Nat.beq]<;>rfl)]
  ·have Z:(BR (wI b0 (l.take i)) l[i] != 0)=true:=by simpa using c0
   rw [if_neg c0]
   unfold Gt
   rw [if_neg c0]
   have hz:xQ JG (wI b0 (l.take i)) l[i]=⟨0,[]⟩:=by unfold xQ;rw [if_neg c0]
   have hz2:qL ⟨0,[]⟩=.agg [.int .i64 0,.list 1 []]:=rfl
   rw [hz,hz2] at e2
   generalize wI b0 (l.take i)=p at *
   rw [eA,eX] at e2
   rw [eX] at hx
   simp only [BM,F1,Z,hx,e2,P2,aj hi,List.length_map,ak,Nat.reduceMul,Nat.reduceBEq,Nat.reduceLT,Nat.reduceLeDiff,reduceCtorEq,Nat.reduceEqDiff,Nat.reduceAdd,Nat.beq]
 ·intro rb
  unfold Gt
  rw [List.drop_length,List.take_length,VR,if_pos rfl]
  simp only [BM,Int.lt_irrefl,ak,Nat.reduceMul,Nat.reduceBEq,Nat.reduceLT,Nat.reduceLeDiff,reduceCtorEq,Nat.reduceEqDiff,Nat.reduceAdd,Nat.beq]
theorem ahX {l:List bD} {n:Int} (hl:l.length≤lim):cal env 49 [.int .i64 n,.list 2 (l.map aW)]=some [(qL (VT n l),false),(.int .i64 (fxE n l),false)]:=by
 have e0:=adJ (n:=n)
 have eA:∀ b:Bm,qL b=.agg [.int .i64 b.size,.list 1 (b.ws.map eW)]:=fun _=>rfl
 have hz2:qL ⟨0,[]⟩=.agg [.int .i64 0,.list 1 []]:=rfl
 have P2:∀ a b:PV,part [a,b] 0 (some 2)=some (.agg [a,b]):=fun _ _=>rfl
 have Z:((0:Int) != 0)=false:=rfl
 by_cases c0:newE n=0
 ·have hE:fxE n l=VR (qY n) l:=by unfold fxE;rw [if_pos c0]
  unfold VT
  rw [hE]
  rw [c0] at e0
  rw [eA] at e0
  generalize hb:qY n=b0 at *
  by_cases c1:VR b0 l=0
  ·rw [if_pos c1,c1,eA]
   rw [ah YJ rfl];simp only [Pv,aG,Nat.reduceBEq,Nat.reduceLeDiff,Nat.reduceAdd,List.length_cons,List.length_nil]
   simp only [e0,Z,P2,List.length_map,ak,Nat.reduceMul,Nat.reduceBEq,Nat.reduceLT,Nat.reduceLeDiff,reduceCtorEq,Nat.reduceEqDiff,Nat.reduceAdd,Nat.beq]
   rw [ZT (l:=l) (b0:=b0) hl]
   rotate_left
   ·rw [List.take_zero]
    simp only [aG,bY,Nat.reduceMul,Nat.reduceBEq,Nat.reduceLT,Nat.reduceLeDiff,Nat.reduceAdd,decide_true,Bool.and_self,Bool.true_and]<;>rfl
   ·rw [List.take_zero,List.drop_zero]
    unfold Gt
    rw [show wI b0 []=b0 from rfl,if_pos c1]
    simp only [e0,Z,P2,List.length_map,ak,Nat.reduceMul,Nat.reduceBEq,Nat.reduceLT,Nat.reduceLeDiff,reduceCtorEq,Nat.reduceEqDiff,Nat.reduceAdd,Nat.beq]
  ·rw [if_neg c1,hz2]
   rw [ah YJ rfl];simp only [Pv,aG,Nat.reduceBEq,Nat.reduceLeDiff,Nat.reduceAdd,List.length_cons,List.length_nil]
   simp only [e0,Z,P2,List.length_map,ak,Nat.reduceMul,Nat.reduceBEq,Nat.reduceLT,Nat.reduceLeDiff,reduceCtorEq,Nat.reduceEqDiff,Nat.reduceAdd,Nat.beq]
   rw [ZT (l:=l) (b0:=b0) hl]
   rotate_left
   ·rw [List.take_zero]
    simp only [aG,bY,Nat.reduceMul,Nat.reduceBEq,Nat.reduceLT,Nat.reduceLeDiff,Nat.reduceAdd,decide_true,Bool.and_self,Bool.true_and]<;>rfl
   ·rw [List.take_zero,List.drop_zero]
    unfold Gt
    rw [show wI b0 []=b0 from rfl,if_neg c1]
    simp only [e0,Z,P2,List.length_map,ak,Nat.reduceMul,Nat.reduceBEq,Nat.reduceLT,Nat.reduceLeDiff,reduceCtorEq,Nat.reduceEqDiff,Nat.reduceAdd,Nat.beq]
 ·have hE:fxE n l=newE n:=by unfold fxE;rw [if_neg c0]
  unfold VT
  rw [hE,if_neg c0,hz2]
  have Zn:(newE n != 0)=true:=by simpa using c0
  rw [eA] at e0
  rw [ah YJ rfl];simp only [Pv,aG,Nat.reduceBEq,Nat.reduceLeDiff,Nat.reduceAdd,List.length_cons,List.length_nil]
  simp only [e0,Zn,P2,List.length_map,ak,Nat.reduceMul,Nat.reduceBEq,Nat.reduceLT,Nat.reduceLeDiff,reduceCtorEq,Nat.reduceEqDiff,Nat.reduceAdd,Nat.beq]
end Go.Proofs.YtdahanchdjadiaaDoor.V

namespace Go.Proofs.YtdahanchdjadiaaDoor.V
theorem ZU (b:Bm):(BU b).length≤4096:=by
 unfold BU
 split
 ·rename_i c
  have h:=iH c
  have:=yY (bit b.ws) b.size.toNat
  unfold I9
  omega
 ·simp
def mg (i:fZ):List Nat:=if gG i then encI i.size++encI i.aZ++xI (BU i.bm) else []
theorem Rj {i:fZ} (hl:i.act.length≤lim):cal env 12 [kL i]=some [(.list 1 ((mg i).map eY),true)]:=by
 have e0:=Zm (i:=i) hl
 have AU:∀ i:fZ,kL i=.agg [.int .i64 i.size,.int .i64 i.aZ,.list 1 (i.act.map eI),.int .i64 i.bm.size,.list 1 (i.bm.ws.map eW)]:=fun _=>rfl
 have P5:∀ a b c d e:PV,part [a,b,c,d,e] 0 (some 5)=some (.agg [a,b,c,d,e]):=fun _ _ _ _ _=>rfl
 have Z0:((0:Int) != 0)=false:=rfl
 have Z3:((3:Int) != 0)=true:=rfl
 unfold Zj at e0
 unfold mg
 cases c0:gG i with
 |false =>
  rw [c0,if_neg (by decide)] at e0
  rw [if_neg (by decide)]
  rw [AU] at e0 ⊢
  rw [ah adu rfl];simp only [UD,aG,Nat.reduceBEq,Nat.reduceLeDiff,Nat.reduceAdd,List.length_cons,List.length_nil]
  simp only [e0,Z3,P5,ak,Nat.reduceMul,Nat.reduceBEq,Nat.reduceLT,Nat.reduceLeDiff,reduceCtorEq,Nat.reduceEqDiff,Nat.reduceAdd,Nat.beq]
 |true =>
  rw [c0,if_pos rfl] at e0
  rw [if_pos rfl]
  have e1:=adV (l:=[]) (n:=i.size) (by simp)
  have q1:=l7 i.size
  have q2:=l7 i.aZ
  have e2:=adV (l:=encI i.size) (n:=i.aZ) (by omega)
  have e3:=ahv (b:=i.bm)
  have e4:=ahF (l:=encI i.size++encI i.aZ) (es:=BU i.bm) (by rw [List.length_append];omega) (by have:=ZU i.bm;omega)
  have eA:∀ b:Bm,qL b=.agg [.int .i64 b.size,.list 1 (b.ws.map eW)]:=fun _=>rfl
  rw [List.map_nil,List.nil_append] at e1
  rw [eA] at e3
  rw [AU] at e0 ⊢
  rw [ah adu rfl];simp only [UD,aG,Nat.reduceBEq,Nat.reduceLeDiff,Nat.reduceAdd,List.length_cons,List.length_nil]
  simp only [e0,e1,e2,e3,e4,Z0,P5,dF,ak,Nat.reduceMul,Nat.reduceBEq,Nat.reduceLT,Nat.reduceLeDiff,reduceCtorEq,Nat.reduceEqDiff,Nat.reduceAdd,Nat.beq]
end Go.Proofs.YtdahanchdjadiaaDoor.V

namespace Go.Proofs.YtdahanchdjadiaaDoor.V
def Rk (e:bD):Prop:=(0≤e.start∧e.start≤(most:Int))∧(0≤e.count∧e.count≤(most:Int))
theorem afn {e:bD} (h:Rk e):okE e:=by
 have:most=9007199254740991:=rfl
 unfold Rk at h
 unfold okE
 omega
theorem Rl {l:List Nat} (h:(dA l).1=0):(dD l).length+1≤l.length:=by
 obtain ⟨h1,h2,_⟩:=Gj h
 unfold dD
 rw [List.length_drop]
 omega
theorem ZV {l:List Nat} (h:(eF l).1=0):Rk (eF l).2.1∧(eF l).2.2.length+2≤l.length:=by
 unfold eF at h ⊢
 split at h
 ·rename_i c
  rw [if_pos c]
  simp only at h ⊢
  have h1:=Rl c
  have h2:=Rl h
  have m1:=Gp l
  have m2:=Gp (dD l)
  unfold Rk
  simp only
  omega
 ·rename_i c
  simp only at h
  exact absurd h c
theorem Rn:∀ (k:Nat) (l:List Nat) (acc:List bD),(∀ e∈acc,Rk e)→(ug k l acc).1=0→(∀ e∈(ug k l acc).2.1,Rk e)∧2 * (ug k l acc).2.1.length≤l.length+2 * acc.length
 |0,l,acc,ha,_=>⟨ha,by simp only [ug];omega⟩
 |k+1,l,acc,ha,h=>by
  unfold ug at h ⊢
  split at h
  ·rename_i c
   rw [if_pos c]
   obtain ⟨h1,h2⟩:=ZV c
   obtain ⟨g1,g2⟩:=Rn k _ _ (by
    intro e he
    rcases List.mem_append.1 he with he|he
    ·exact ha e he
    ·rw [List.mem_singleton.1 he];exact h1) h
   refine ⟨g1,?_⟩
   rw [List.length_append] at g2
   simp only [List.length_singleton] at g2
   omega
  ·rename_i c
   exact absurd h c
theorem acL {l:List Nat} (h:(iP l).1=0):(∀ e∈(iP l).2.1,Rk e)∧2 * (iP l).2.1.length≤l.length:=by
 unfold iP at h ⊢
 split at h
 ·rename_i c
  rw [if_pos c]
  unfold ZI at h ⊢
  simp only at h ⊢
  rw [if_pos h]
  obtain ⟨g1,g2⟩:=Rn _ _ _ (by simp) h
  refine ⟨g1,?_⟩
  have:=jr l
  simp only [List.length_nil] at g2
  omega
 ·rename_i c
  simp only at h
  exact absurd h c
def tu (b:List Nat):Nat × Int × Int × List bD :=
 if (dA b).1=0 then
  if (dA (dD b)).1=0 then
   if (iP (dD (dD b))).1=0 then
    (if (iP (dD (dD b))).2.2=[] then 0 else 3,(dA b).2.1,(dA (dD b)).2.1,(iP (dD (dD b))).2.1)
   else ((iP (dD (dD b))).1,(dA b).2.1,(dA (dD b)).2.1,[])
  else ((dA (dD b)).1,0,0,[])
 else ((dA b).1,0,0,[])
theorem acM (b:List Nat):(∀ e∈(tu b).2.2.2,Rk e)∧2 * (tu b).2.2.2.length≤b.length:=by
 unfold tu
 split
 ·split
  ·split
   ·rename_i c1 c2 c3
    obtain ⟨g1,g2⟩:=acL c3
    have h1:=jr b
    have h2:=jr (dD b)
    refine ⟨g1,?_⟩
    simp only
    omega
   ·simp
  ·simp
 ·simp
theorem vw {n:Int} (h:0≤n∧n≤(most:Int)) (rest:List Nat):dA (encI n++rest)=(0,n.toNat,(encI n).length)∧dD (encI n++rest)=rest:=by
 have hm:most=9007199254740991:=rfl
 have hc:jF n=n.toNat:=by unfold jF;rw [if_neg (by omega)]
 have h1:dA (encI n++rest)=(0,n.toNat,(encI n).length):=by
  unfold encI
  rw [hc]
  exact acH (by omega) rest
 refine ⟨h1,?_⟩
 unfold dD
 rw [h1]
 simp
theorem ZW {e:bD} (h:Rk e) (rest:List Nat):eF (kE e++rest)=(0,e,rest):=by
 obtain ⟨h1,h2⟩:=vw h.1 (encI e.count++rest)
 obtain ⟨h3,h4⟩:=vw h.2 rest
 unfold eF kE
 rw [List.append_assoc,h1,h2,h3,h4]
 obtain ⟨s,c⟩:=e
 unfold Rk at h
 simp only at h ⊢
 rw [if_pos trivial]
 simp only [Prod.mk.injEq,bD.mk.injEq,true_and,and_true]
 omega
theorem Ro:∀ (es:List bD) (rest:List Nat) (acc:List bD),(∀ e∈es,Rk e)→ug es.length (es.flatMap kE++rest) acc=(0,acc++es,rest)
 |[],rest,acc,_=>by simp [ug]
 |e :: es,rest,acc,h=>by
  have hp:=ZW (h e (by simp)) (es.flatMap kE++rest)
  rw [List.length_cons,ug,List.flatMap_cons,List.append_assoc,hp]
  simp only
  rw [if_pos trivial,Ro es rest _ (fun x hx=>h x (by simp [hx]))]
  simp
theorem acN {es:List bD} (h:∀ e∈es,Rk e) (hl:es.length≤65536) (rest:List Nat):iP (xI es++rest)=(0,es,rest):=by
 have hm:most=9007199254740991:=rfl
 obtain ⟨h1,h2⟩:=vw (n:=(es.length:Int)) (by omega) (es.flatMap kE++rest)
 have hE:EI (encI (es.length:Int)++(es.flatMap kE++rest))=0:=by
  unfold EI
  rw [h1]
  simp only [Int.toNat_natCast]
  rw [if_neg (by omega)]
 unfold xI
 rw [List.append_assoc]
 unfold iP
 rw [if_pos hE,h1,h2]
 simp only [Int.toNat_natCast]
 rw [Ro es rest [] h]
 unfold ZI
 simp
theorem ZX {s g:Int} {es:List bD} (hs:0≤s∧s≤(most:Int)) (hg:0≤g∧g≤(most:Int)) (h:∀ e∈es,Rk e) (hl:es.length≤65536):tu (encI s++encI g++xI es)=(0,s,g,es):=by
 obtain ⟨h1,h2⟩:=vw hs (encI g++xI es)
 obtain ⟨h3,h4⟩:=vw hg (xI es)
 have h5:=acN h hl []
 rw [List.append_nil] at h5
 unfold tu
 rw [List.append_assoc,h1,h2,h3,h4,h5]
 simp only
 rw [if_pos trivial,if_pos trivial,if_pos trivial,if_pos trivial]
 simp only [Prod.mk.injEq,true_and,and_true]
 omega
end Go.Proofs.YtdahanchdjadiaaDoor.V

namespace Go.Proofs.YtdahanchdjadiaaDoor.V
theorem ZY {n:Nat} (h:n≤4096):newE (n:Int)=0∧okB (qY (n:Int))=true∧(qY (n:Int)).size=(n:Int)∧∀ s,bit (qY (n:Int)).ws s=false:=by
 have e1:newE (n:Int)=0:=by unfold newE;rw [if_neg (by omega)]
 have e2:qY (n:Int)=⟨n,List.replicate (jf n).toNat 0⟩:=by unfold qY;rw [if_neg (by omega)]
 have hb:∀ s,bit (List.replicate (jf n).toNat (0:Wd)) s=false:=fun s=>by
  unfold bit
  rw [List.getD_eq_getElem?_getD,List.getElem?_replicate]
  split<;>simp
 rw [e2]
 refine ⟨e1,ig.2 ⟨⟨by show (0:Int)≤(n:Int);omega,by show (n:Int)≤4096;omega,?_⟩,fun i _=>hb i⟩,rfl,hb⟩
 show ((List.replicate (jf n).toNat (0:Wd)).length:Int)=jf n
 rw [List.length_replicate]
 exact acu (by omega)
theorem acO (ws:List Wd) (e:bD):Za JG ws e=setW ws e.start (e.start+e.count):=rfl
theorem PS {b:Bm} {e:bD} (h:okB b=true) (hf:qZ b.size e=true):BR b e=0∧okB (xQ JG b e)=true∧(xQ JG b e).size=b.size∧∀ s:Nat,(s:Int)<b.size→bit (xQ JG b e).ws s=(bit b.ws s || decide (e.start≤(s:Int)∧(s:Int)<e.start+e.count)):=by
 have hE:BR b e=0:=by unfold BR;rw [if_neg (by rw [h];decide),if_neg (by rw [hf];decide)]
 have hO:xQ JG b e=⟨b.size,setW b.ws e.start (e.start+e.count)⟩:=by unfold xQ;rw [if_pos hE,acO]
 have hs:=iH h
 have hf:=lG.1 hf
 rw [hO]
 have hl:(setW b.ws e.start (e.start+e.count)).length=b.ws.length:=by simp [setW]
 refine ⟨hE,ig.2 ⟨⟨hs.1,hs.2.1,?_⟩,fun i hi=>?_⟩,rfl,fun s hlt=>QT (by omega)⟩
 ·show ((setW b.ws e.start (e.start+e.count)).length:Int)=_
  rw [hl];exact (ig.1 h).1.2.2
 ·have hi:b.size≤(i:Int):=hi
  by_cases c:i<64 * b.ws.length
  ·show bit (setW b.ws e.start (e.start+e.count)) i=false
   rw [QT c,(ig.1 h).2 i hi,decide_eq_false (by omega)]
   rfl
  ·exact wB (by show 64 * (setW b.ws e.start (e.start+e.count)).length≤i;rw [hl];omega)
end Go.Proofs.YtdahanchdjadiaaDoor.V

namespace Go.Proofs.YtdahanchdjadiaaDoor.V
theorem acP {size:Int} {e:bD} (h:qZ size e=true) (s:Nat):rH e s=decide (e.start≤(s:Int)∧(s:Int)<e.start+e.count):=by
 have h:=lG.1 h
 unfold rH
 rw [Bool.eq_iff_iff]
 simp only [Bool.and_eq_true,decide_eq_true_eq]
 omega
theorem adX:∀ (l:List bD) {b:Bm},okB b=true→(∀ e∈l,qZ b.size e=true)→VR b l=0∧okB (wI b l)=true∧(wI b l).size=b.size∧∀ s:Nat,(s:Int)<b.size→bit (wI b l).ws s=(bit b.ws s || tK l s)
 |[],b,h,_=>⟨rfl,h,rfl,fun s _=>by simp [wI,tK]⟩
 |e :: l,b,h,hf=>by
  obtain ⟨k1,k2,k3,k4⟩:=PS h (hf e (by simp))
  obtain ⟨g1,g2,g3,g4⟩:=adX l k2 (fun x hx=>by rw [k3];exact hf x (by simp [hx]))
  refine ⟨?_,g2,g3.trans k3,fun s hs=>?_⟩
  ·unfold VR
   rw [if_pos k1]
   exact g1
  ·have:=g4 s (by rw [k3];exact hs)
   show bit (wI (xQ JG b e) l).ws s=_
   rw [this,k4 s hs,← acP (hf e (by simp)) s,Bool.or_assoc]
   rfl
theorem adY {n:Nat} {l:List bD} (hn:n≤4096) (h:∀ e∈l,0≤e.start∧1≤e.count∧e.start+e.count≤(n:Int)):fxE n l=0∧VT n l=wI (qY n) l∧okB (VT n l)=true∧(VT n l).size=(n:Int)∧∀ s:Nat,s<n→bit (VT n l).ws s=tK l s:=by
 obtain ⟨h1,h2,h3,h4⟩:=ZY hn
 obtain ⟨g1,g2,g3,g4⟩:=adX l h2 (fun e he=>by
  obtain ⟨q1,q2,q3⟩:=h e he
  rw [h3]
  exact lG.2 (by omega))
 have e1:fxE n l=0:=by unfold fxE;rw [if_pos h1];exact g1
 have e2:VT n l=wI (qY n) l:=by unfold VT;rw [if_pos e1]
 rw [e2]
 refine ⟨e1,rfl,g2,g3.trans h3,fun s hs=>?_⟩
 rw [g4 s (by rw [h3];omega),h4 s,Bool.false_or]
end Go.Proofs.YtdahanchdjadiaaDoor.V

namespace Go.Proofs.YtdahanchdjadiaaDoor.V
end Go.Proofs.YtdahanchdjadiaaDoor.V

namespace Go.Proofs.YtdahanchdjadiaaDoor.V
end Go.Proofs.YtdahanchdjadiaaDoor.V

namespace Go.Proofs.YtdahanchdjadiaaDoor
end Go.Proofs.YtdahanchdjadiaaDoor

namespace Go.Proofs.YtdahanchdjadiaaDoor.V
def mk (f:Nat→Bool):List Bool:=(List.range 4096).map f
theorem DY (l:List bD) (e:bD) (s:Nat):tK (l++[e]) s=(tK l s || rH e s):=by simp [tK]
end Go.Proofs.YtdahanchdjadiaaDoor.V

namespace Go.Proofs.YtdahanchdjadiaaDoor.V
end Go.Proofs.YtdahanchdjadiaaDoor.V

namespace Go.Proofs.YtdahanchdjadiaaDoor.V
theorem ML (x y:bD):jD [.int .i64 x.start,.int .i64 x.count] [.int .i64 y.start,.int .i64 y.count]=some (decide (x=y)):=by
 simp only [jD,if_true,Option.map_some]
 congr 1
 obtain ⟨a,b⟩:=x
 obtain ⟨c,d⟩:=y
 by_cases h1:a=c<;>by_cases h2:b=d<;>simp [h1,h2]
--+
theorem afo {a b:List bD} (hl:a.length≤lim) (hab:a.length=b.length) {st:St} (h:st.head [0,1,5] st.boxes.length=some ⟨[.pv (.list 2 (a.map aW)),.pv (.list 2 (b.map aW)),.any,.any,.any,.pv (.int .i64 (0:Nat)),.any,.any,.any,.any,.any,.any,.any,.any,.any,.any,.any,.any,.any,.any,.any,.any,.any,.any,.any,.any],[],[],none⟩) :
  den env Iq st=if a=b then some (.normal,⟨[.any,.any,.any,.any,.any,.any,.any,.any,.any,.any,.any,.any,.any,.any,.any,.any,.any,.any,.any,.any,.any,.any,.any,.any,.any,.any],[],[],none⟩) else some (.ret,⟨[.any,.any,.any,.any,.pv (.bool false),.any,.any,.any,.any,.any,.any,.any,.any,.any,.any,.any,.any,.any,.any,.any,.any,.any,.any,.any,.any,.any],[],[],none⟩):=by
 unfold Iq
 rw [ dw (env:=env) (a.length) (fun i=>⟨[.pv (.list 2 (a.map aW)),.pv (.list 2 (b.map aW)),.any,.any,.any,.pv (.int .i64 i),.any,.any,.any,.any,.any,.any,.any,.any,.any,.any,.any,.any,.any,.any,.any,.any,.any,.any,.any,.any],[],[],none⟩) (fun i=>if a.drop i=b.drop i then some (.normal,⟨[.any,.any,.any,.any,.any,.any,.any,.any,.any,.any,.any,.any,.any,.any,.any,.any,.any,.any,.any,.any,.any,.any,.any,.any,.any,.any],[],[],none⟩) else some (.ret,⟨[.any,.any,.any,.any,.pv (.bool false),.any,.any,.any,.any,.any,.any,.any,.any,.any,.any,.any,.any,.any,.any,.any,.any,.any,.any,.any,.any,.any],[],[],none⟩)) h (fun _=>rfl) (fun _=>rfl) ?_ ?_]
 ·first|rfl|simp only [List.drop_zero,List.take_zero,List.map_nil,Nat.zero_add,List.nil_append,List.foldl_nil]
 ·intro i rb hi ih
  have hi1:=dN hi hl
  have hj:i<b.length:=by omega
  have F1:((i:Int)<(a.length:Int))=True:=eq_true (by omega)
  have P:∀ x:bD,part [PV.int .i64 x.start,.int .i64 x.count] 0 (some 2)=some (.agg [.int .i64 x.start,.int .i64 x.count]):=fun x=>rfl
  simp only [Ip,F1,aW,aj hi,aj hj,List.getElem?_map,List.getElem?_eq_getElem hi,List.getElem?_eq_getElem hj,P,ML,List.length_cons,List.length_nil,bW,reduceCtorEq,Nat.reduceEqDiff,Nat.reduceAdd,Nat.reduceLT,Nat.reduceLeDiff,Nat.beq]
  rw [List.drop_eq_getElem_cons hi,List.drop_eq_getElem_cons hj]
  (try simp only [xw,zG,xA]);refine uQ (fun hb=>?_) (fun hb=>?_)<;>try simp only [hb,bW,reduceCtorEq,Nat.reduceEqDiff,Nat.reduceAdd,Nat.reduceLT,Nat.reduceLeDiff,Nat.beq]
  ·rw [ih _ (by simp only [hi1];rfl)]
   simp only [decide_eq_true_eq] at hb
   simp only [hb,List.cons.injEq,true_and]
  ·simp only [decide_eq_false_iff_not] at hb
   simp only [hb,List.cons.injEq,false_and,if_false]
   rfl
 ·intro rb
  simp only [Ip,Int.lt_irrefl,bW,reduceCtorEq,Nat.reduceEqDiff,Nat.reduceAdd,Nat.reduceLT,Nat.reduceLeDiff,Nat.beq]
  rw [List.drop_length,hab,List.drop_length,if_pos rfl]
  rfl
theorem adZ {a b:List bD} (hl:a.length≤lim):cal env 25 [.list 2 (a.map aW),.list 2 (b.map aW)]=some [(.bool (decide (a=b)),false)]:=by
 rw [ah agL rfl];simp only [Yb];simp only [start,aO,aY,aK,aX,aH,aI,aN,aU,Nat.reduceAdd,Nat.reduceSub]
 simp only [bW,reduceCtorEq,Nat.reduceEqDiff,Nat.reduceAdd,Nat.reduceLT,Nat.reduceLeDiff,Nat.beq]
 (try simp only [xw,zG,xA]);refine uQ (fun hb=>?_) (fun hb=>?_)<;>try simp only [hb,bW,reduceCtorEq,Nat.reduceEqDiff,Nat.reduceAdd,Nat.reduceLT,Nat.reduceLeDiff,Nat.beq]
 ·have hab:a.length=b.length:=by simp at hb;omega
  rw [afo hl hab]
  rotate_left
  ·rfl
  ·by_cases e:a=b<;>simp only [e,ace,reduceCtorEq,Nat.reduceEqDiff,Nat.reduceAdd,Nat.reduceLT,Nat.reduceLeDiff,Nat.beq]
 ·have:a≠b:=fun e=>by subst e;simp at hb
  simp only [this,ace,reduceCtorEq,Nat.reduceEqDiff,Nat.reduceAdd,Nat.reduceLT,Nat.reduceLeDiff,Nat.beq]
end Go.Proofs.YtdahanchdjadiaaDoor.V

namespace Go.Proofs.YtdahanchdjadiaaDoor.V
end Go.Proofs.YtdahanchdjadiaaDoor.V

namespace Go.Proofs.YtdahanchdjadiaaDoor.V
end Go.Proofs.YtdahanchdjadiaaDoor.V

namespace Go.Proofs.YtdahanchdjadiaaDoor.V
def mF (size:Int):Int→List bD→Int
 |_,[]=>0
 |nx,e :: l=>if e.count≤0 then 1 else if e.start<0∨e.count > size - e.start then 2 else if e.start<nx then 3 else mF size (e.start+e.count+1) l
def DZ (l:List bD) (size:Int):Int:=if size<0∨4096<size then 2 else mF size 0 l
def MN (l:List bD):Nat→Int
 |0=>0
 |i+1=>match l[i]? with
  |some e=>e.start+e.count+1
  |none=>0
theorem MO {l:List bD} {i:Nat} {e:bD} (h:l[i]?=some e):MN l (i+1)=e.start+e.count+1:=by
 show (match l[i]? with
  |some e=>e.start+e.count+1
  |none=>0)=_
 rw [h]
set_option maxRecDepth 20000 in
theorem afp {l:List bD} {size:Int} (hs:0≤size∧size≤4096) (ho:Jg l) (hl:l.length≤10000) {st:St} (h:st.head [0,1,5,14,15,16] st.boxes.length=some ⟨sl 49 [(0,.pv (.list 2 (l.map aW))),(1,.pv (.int .i64 size)),(5,.pv (.int .i64 (MN l ((0:Nat))))),(14,.pv (.list 2 (l.map aW))),(15,.pv (.int .i64 l.length)),(16,.pv (.int .i64 (0:Nat)))],[],[],none⟩) :
  den env Iy st=if mF size (MN l ((0:Nat))) (l.drop ((0:Nat)))=0 then some (.normal,⟨sl 49 [(4,.any)],[],[],none⟩) else some (.ret,⟨sl 49 [(4,.pv (.int .i64 (mF size (MN l ((0:Nat))) (l.drop ((0:Nat))))))],[],[],none⟩):=by
 unfold Iy
 refine dw (env:=env) (l.length) (fun i=>⟨sl 49 [(0,.pv (.list 2 (l.map aW))),(1,.pv (.int .i64 size)),(5,.pv (.int .i64 (MN l (i)))),(14,.pv (.list 2 (l.map aW))),(15,.pv (.int .i64 l.length)),(16,.pv (.int .i64 i))],[],[],none⟩) (fun i=>if mF size (MN l (i)) (l.drop (i))=0 then some (.normal,⟨sl 49 [(4,.any)],[],[],none⟩) else some (.ret,⟨sl 49 [(4,.pv (.int .i64 (mF size (MN l (i)) (l.drop (i)))))],[],[],none⟩)) h (fun _=>rfl) (fun _=>by simp only [aG,bY,Nat.reduceMul,Nat.reduceBEq,Nat.reduceLT,Nat.reduceLeDiff,Nat.reduceAdd,decide_true,Bool.and_self,Bool.true_and]) ?_ ?_
 ·intro i rb hi ih
  have hlim:lim=1073741824:=rfl
  have hi1:=dN hi (by omega)
  have F1:((i:Int)<(l.length:Int))=True:=eq_true (by omega)
  have hx:l[i]?=some l[i]:=List.getElem?_eq_getElem hi
  obtain ⟨⟨o1,o2⟩,o3,o4⟩:=ho _ (List.getElem_mem hi)
  rw [MO hx] at ih
  rw [List.drop_eq_getElem_cons hi]
  generalize l[i]=x at *
  have P2:part [PV.int .i64 x.start,.int .i64 x.count] 0 (some 2)=some (.agg [.int .i64 x.start,.int .i64 x.count]):=rfl
  have ch:mF size (MN l i) (x :: l.drop (i+1))=if x.count≤0 then 1 else if x.start<0∨x.count > size - x.start then 2 else if x.start<MN l i then 3 else mF size (x.start+x.count+1) (l.drop (i+1)):=rfl
  by_cases c1:x.count≤0
  ·rw [ch,if_pos c1]
   simp only [sQ,F1,hx,aW,P2,c1,aj hi,List.getElem?_map,Option.map_some,List.length_map,ak,Nat.reduceMul,Nat.reduceBEq,Nat.reduceLT,Nat.reduceLeDiff,reduceCtorEq,Nat.reduceEqDiff,Nat.reduceAdd,Nat.beq]
   rfl
  ·by_cases c2:x.start<0
   ·have hv:mF size (MN l i) (x :: l.drop (i+1))=2:=by rw [ch,if_neg c1,if_pos (.inl c2)]
    rw [hv]
    simp only [sQ,F1,hx,aW,P2,c1,c2,aj hi,List.getElem?_map,Option.map_some,List.length_map,ak,Nat.reduceMul,Nat.reduceBEq,Nat.reduceLT,Nat.reduceLeDiff,reduceCtorEq,Nat.reduceEqDiff,Nat.reduceAdd,Nat.beq]
    rfl
   ·have W1:IntKind.i64.wrap (size - x.start)=size - x.start:=ay (by omega)
    by_cases c3:x.count > size - x.start
    ·have hv:mF size (MN l i) (x :: l.drop (i+1))=2:=by rw [ch,if_neg c1,if_pos (.inr c3)]
     rw [hv]
     have c3':(x.count > size - x.start)=True:=eq_true c3
     simp only [sQ,F1,hx,aW,P2,c1,c2,c3',W1,aj hi,List.getElem?_map,Option.map_some,List.length_map,ak,Nat.reduceMul,Nat.reduceBEq,Nat.reduceLT,Nat.reduceLeDiff,reduceCtorEq,Nat.reduceEqDiff,Nat.reduceAdd,Nat.beq]
     rfl
    ·have c3':(x.count > size - x.start)=False:=eq_false c3
     by_cases c4:x.start<MN l i
     ·have hv:mF size (MN l i) (x :: l.drop (i+1))=3:=by rw [ch,if_neg c1,if_neg (by omega),if_pos c4]
      rw [hv]
      simp only [sQ,F1,hx,aW,P2,c1,c2,c3',c4,W1,aj hi,List.getElem?_map,Option.map_some,List.length_map,ak,Nat.reduceMul,Nat.reduceBEq,Nat.reduceLT,Nat.reduceLeDiff,reduceCtorEq,Nat.reduceEqDiff,Nat.reduceAdd,Nat.beq]
      rfl
     ·have hv:mF size (MN l i) (x :: l.drop (i+1))=mF size (x.start+x.count+1) (l.drop (i+1)):=by rw [ch,if_neg c1,if_neg (by omega),if_neg c4]
      rw [hv]
      have W2:IntKind.i64.wrap (x.start+x.count)=x.start+x.count:=ay (by omega)
      have W3:IntKind.i64.wrap (x.start+x.count+1)=x.start+x.count+1:=ay (by omega)
      simp only [sQ,F1,hx,aW,P2,c1,c2,c3',c4,W1,W2,W3,aj hi,List.getElem?_map,Option.map_some,List.length_map,ak,Nat.reduceMul,Nat.reduceBEq,Nat.reduceLT,Nat.reduceLeDiff,reduceCtorEq,Nat.reduceEqDiff,Nat.reduceAdd,Nat.beq]
      have hn:MN l (i+1)=x.start+x.count+1:=MO hx
      rw [ih _ (by simp only [hi1,hn,ak,Nat.reduceMul,Nat.reduceBEq,Nat.reduceLT,Nat.reduceLeDiff,reduceCtorEq,Nat.reduceEqDiff,Nat.reduceAdd,Nat.beq]<;>rfl)]
 ·intro rb
  simp only [sQ,Int.lt_irrefl,List.length_map,List.drop_length,mF,if_true,ak,Nat.reduceMul,Nat.reduceBEq,Nat.reduceLT,Nat.reduceLeDiff,reduceCtorEq,Nat.reduceEqDiff,Nat.reduceAdd,Nat.beq]
theorem ahY {l:List bD} {size:Int} (ho:Jg l) (hl:l.length≤10000):cal env 48 [.list 2 (l.map aW),.int .i64 size]=some [(.int .i64 (DZ l size),false)]:=by
 unfold DZ
 by_cases c1:size<0
 ·rw [if_pos (.inl c1)]
  rw [ah YI rfl];simp only [Pq,aG,Nat.reduceBEq,Nat.reduceLeDiff,Nat.reduceAdd,List.length_cons,List.length_nil]
  simp only [c1,ak,Nat.reduceMul,Nat.reduceBEq,Nat.reduceLT,Nat.reduceLeDiff,reduceCtorEq,Nat.reduceEqDiff,Nat.reduceAdd,Nat.beq]
 ·by_cases c2:4096<size
  ·rw [if_pos (.inr c2)]
   have c2':(size > 4096)=True:=eq_true c2
   rw [ah YI rfl];simp only [Pq,aG,Nat.reduceBEq,Nat.reduceLeDiff,Nat.reduceAdd,List.length_cons,List.length_nil]
   simp only [c1,c2',ak,Nat.reduceMul,Nat.reduceBEq,Nat.reduceLT,Nat.reduceLeDiff,reduceCtorEq,Nat.reduceEqDiff,Nat.reduceAdd,Nat.beq]
  ·rw [if_neg (by omega)]
   have c2':(size > 4096)=False:=eq_false c2
   rw [ah YI rfl];simp only [Pq,aG,Nat.reduceBEq,Nat.reduceLeDiff,Nat.reduceAdd,List.length_cons,List.length_nil]
   simp only [c1,c2',List.length_map,ak,Nat.reduceMul,Nat.reduceBEq,Nat.reduceLT,Nat.reduceLeDiff,reduceCtorEq,Nat.reduceEqDiff,Nat.reduceAdd,Nat.beq]
   rw [afp (size:=size) ⟨by omega,by omega⟩ ho hl (by simp only [MN,ak,Nat.reduceMul,Nat.reduceBEq,Nat.reduceLT,Nat.reduceLeDiff,reduceCtorEq,Nat.reduceEqDiff,Nat.reduceAdd,Nat.beq]<;>rfl)]
   rw [List.drop_zero]
   have h0:MN l 0=0:=rfl
   rw [h0]
   split
   ·rename_i h
    rw [h]
    simp only [c1,c2',List.length_map,ak,Nat.reduceMul,Nat.reduceBEq,Nat.reduceLT,Nat.reduceLeDiff,reduceCtorEq,Nat.reduceEqDiff,Nat.reduceAdd,Nat.beq]
   ·simp only [c1,c2',List.length_map,ak,Nat.reduceMul,Nat.reduceBEq,Nat.reduceLT,Nat.reduceLeDiff,reduceCtorEq,Nat.reduceEqDiff,Nat.reduceAdd,Nat.beq]
end Go.Proofs.YtdahanchdjadiaaDoor.V

namespace Go.Proofs.YtdahanchdjadiaaDoor.V
theorem MP {size:Int}:∀ (l:List bD) (nx:Int),mF size nx l=0→∀ e∈l,0≤e.start∧1≤e.count∧e.start+e.count≤size
 |[],_,_,e,he=>by cases he
 |x :: l,nx,h,e,he=>by
  unfold mF at h
  split at h
  ·omega
  ·split at h
   ·omega
   ·split at h
    ·omega
    ·rcases List.mem_cons.1 he with rfl|he
     ·omega
     ·exact MP l _ h e he
theorem acQ {l:List bD} {size:Int} (h:DZ l size=0):∀ e∈l,0≤e.start∧1≤e.count∧e.start+e.count≤size:=by
 unfold DZ at h
 split at h
 ·omega
 ·exact MP l 0 h
end Go.Proofs.YtdahanchdjadiaaDoor.V

namespace Go.Proofs.YtdahanchdjadiaaDoor.V
end Go.Proofs.YtdahanchdjadiaaDoor.V

namespace Go.Proofs.YtdahanchdjadiaaDoor.V
def vC (s g:Int) (x:bD):bD:=⟨x.start * g,(if s<(x.start+x.count) * g then s else (x.start+x.count) * g) - x.start * g⟩
def EJ (s g:Int) (b:List Nat):Int :=
 if uY s g=0 then
  if (tu b).1=0 then
   if (tu b).2.1=s∧(tu b).2.2.1=g then
    if DZ (tu b).2.2.2 (lY s g)=0 then 0 else 3
   else 22
  else ((tu b).1:Int)
 else uY s g
def rcI (s g:Int) (b:List Nat):fZ:=if EJ s g b=0 then { jG s g with bm:=VT (lY s g) (tu b).2.2.2 } else Ve
def rcL (s g:Int) (b:List Nat):List bD:=if EJ s g b=0 then orS ((tu b).2.2.2.map (vC s g)) else []
theorem Aa {n k:Int} {x:bD} (hn:1≤n∧n≤4096) (hk:1≤k∧k≤4096) (hx:0≤x.start∧1≤x.count∧x.start+x.count≤lY n k):(0≤x.start * k∧x.start * k≤16777216)∧(0≤(x.start+x.count) * k∧(x.start+x.count) * k≤16777216)∧x.start * k<n∧x.start * k+k≤(x.start+x.count) * k:=by
 have hg:lY n k≤4096:=by have:=(lq (bT.2 ⟨hn.1,hn.2,hk.1,hk.2⟩)).2;omega
 have h1:x.start * k≤4096 * 4096:=Int.mul_le_mul (by omega) (by omega) (by omega) (by omega)
 have h2:(x.start+x.count) * k≤4096 * 4096:=Int.mul_le_mul (by omega) (by omega) (by omega) (by omega)
 have h3:0≤x.start * k:=Int.mul_nonneg (by omega) (by omega)
 have h4:0≤(x.start+x.count) * k:=Int.mul_nonneg (by omega) (by omega)
 have h5:lY n k * k≤n+k - 1:=by unfold lY;exact Int.ediv_mul_le _ (by omega)
 have h6:(x.start+1) * k≤lY n k * k:=Int.mul_le_mul_of_nonneg_right (by omega) (by omega)
 have h7:(x.start+1) * k≤(x.start+x.count) * k:=Int.mul_le_mul_of_nonneg_right (by omega) (by omega)
 rw [Int.add_mul,Int.one_mul] at h6 h7
 omega
def Z4 (o:fZ) (b:Bm):List BV:=[.pv (.int .i64 o.size),.pv (.int .i64 o.aZ),.pv (.list 1 (o.act.map eI)),.pv (.int .i64 b.size),.pv (.list 1 (b.ws.map eW))]
theorem Rq (o:fZ) (b:Bm):Z4 o b=[.pv (.int .i64 o.size),.pv (.int .i64 o.aZ),.pv (.list 1 (o.act.map eI)),.pv (.int .i64 b.size),.pv (.list 1 (b.ws.map eW))]:=rfl
theorem afq {n k:Int} {l:List bD} {o:fZ} {b:Bm} (hn:1≤n∧n≤4096) (hk:1≤k∧k≤4096) (hx:∀ x∈l,0≤x.start∧1≤x.count∧x.start+x.count≤lY n k) (hl:l.length≤lim) {st:St} (h:st.head [0,1,6,9,10,13,14,51,89,90,91,114] st.boxes.length=some ⟨sl 120 [(0,.pv (.int .i64 n)),(1,.pv (.int .i64 k)),(6,.aP 0 0),(9,.aP 1 0),(10,.pv (.int .i64 0)),(13,.pv (.list 2 (l.map aW))),(14,.row 2 (((l.take ((0:Nat))).map (vC n k)).map aW)),(51,.any),(89,.pv (.list 2 (l.map aW))),(90,.pv (.int .i64 l.length)),(91,.pv (.int .i64 (0:Nat))),(114,.any)],[⟨false,[.pv (.int .i64 0),.pv (.int .i64 0),.row 1 [],.pv (.int .i64 0),.row 1 []]⟩,⟨false,Z4 o b⟩],[],none⟩) :
  den env Io st=some (.normal,⟨sl 120 [(6,.aP 0 0),(7,.any),(8,.any),(9,.aP 1 0),(10,.pv (.int .i64 0)),(14,.row 2 ((l.map (vC n k)).map aW))],[⟨false,[.pv (.int .i64 0),.pv (.int .i64 0),.row 1 [],.pv (.int .i64 0),.row 1 []]⟩,⟨false,Z4 o b⟩],[],none⟩):=by
 unfold Io
 refine dw (env:=env) (nb:=2) (l.length) (fun i=>⟨sl 120 [(0,.pv (.int .i64 n)),(1,.pv (.int .i64 k)),(6,.aP 0 0),(9,.aP 1 0),(10,.pv (.int .i64 0)),(13,.pv (.list 2 (l.map aW))),(14,.row 2 (((l.take (i)).map (vC n k)).map aW)),(51,.any),(89,.pv (.list 2 (l.map aW))),(90,.pv (.int .i64 l.length)),(91,.pv (.int .i64 i)),(114,.any)],[⟨false,[.pv (.int .i64 0),.pv (.int .i64 0),.row 1 [],.pv (.int .i64 0),.row 1 []]⟩,⟨false,Z4 o b⟩],[],none⟩) (fun i=>some (.normal,⟨sl 120 [(6,.aP 0 0),(7,.any),(8,.any),(9,.aP 1 0),(10,.pv (.int .i64 0)),(14,.row 2 ((l.map (vC n k)).map aW))],[⟨false,[.pv (.int .i64 0),.pv (.int .i64 0),.row 1 [],.pv (.int .i64 0),.row 1 []]⟩,⟨false,Z4 o b⟩],[],none⟩)) h (fun _=>rfl) (fun _=>by simp only [aG,bY,Nat.reduceMul,Nat.reduceBEq,Nat.reduceLT,Nat.reduceLeDiff,Nat.reduceAdd,decide_true,Bool.and_self,Bool.true_and]) ?_ ?_
 ·intro i rb hi ih
  have hi1:=dN hi hl
  have F1:((i:Int)<(l.length:Int))=True:=eq_true (by omega)
  have eX:∀ e:bD,aW e=.agg [.int .i64 e.start,.int .i64 e.count]:=fun _=>rfl
  have hg:(l.map aW)[i]?=some (aW l[i]):=by rw [List.getElem?_map,List.getElem?_eq_getElem hi];rfl
  obtain ⟨a1,a2,a3,a4⟩:=Aa hn hk (hx _ (List.getElem_mem hi))
  have q:=hx _ (List.getElem_mem hi)
  have hgl:=(lq (bT.2 ⟨hn.1,hn.2,hk.1,hk.2⟩)).2
  have W1:IntKind.i64.wrap (l[i].start * k)=l[i].start * k:=ay (by omega)
  have W2:IntKind.i64.wrap (l[i].start+l[i].count)=l[i].start+l[i].count:=ay (by omega)
  have W3:IntKind.i64.wrap ((l[i].start+l[i].count) * k)=(l[i].start+l[i].count) * k:=ay (by omega)
  have W4:IntKind.i64.wrap ((if n<(l[i].start+l[i].count) * k then n else (l[i].start+l[i].count) * k) - l[i].start * k)=(if n<(l[i].start+l[i].count) * k then n else (l[i].start+l[i].count) * k) - l[i].start * k:=ay (by split<;>omega)
  have hs:((l.take (i+1)).map (vC n k)).map aW=((l.take i).map (vC n k)).map aW++[.agg [.int .i64 (l[i].start * k),.int .i64 ((if n<(l[i].start+l[i].count) * k then n else (l[i].start+l[i].count) * k) - l[i].start * k)]]:=by
   rw [List.take_succ_eq_append_getElem hi,List.map_append,List.map_append];rfl
  have F3:((((l.take i).map (vC n k)).map aW).length+1≤lim)=True:=eq_true (by rw [List.length_map,List.length_map,List.length_take];omega)
  rw [eX] at hg
  rw [hs] at ih
  generalize ((l.take i).map (vC n k)).map aW=m at *
  simp only [Il,F1,F3,hg,W1,W2,W3,W4,aj hi,List.length_map,List.take_length,ak,Nat.reduceMul,Nat.reduceBEq,Nat.reduceLT,Nat.reduceLeDiff,reduceCtorEq,Nat.reduceEqDiff,Nat.reduceAdd,Nat.beq]
  rw [ih _ (by simp only [hi1,ak,Nat.reduceMul,Nat.reduceBEq,Nat.reduceLT,Nat.reduceLeDiff,reduceCtorEq,Nat.reduceEqDiff,Nat.reduceAdd,Nat.beq]<;>rfl)]
 ·intro rb
  rw [List.take_length]
  simp only [Il,Int.lt_irrefl,ak,Nat.reduceMul,Nat.reduceBEq,Nat.reduceLT,Nat.reduceLeDiff,reduceCtorEq,Nat.reduceEqDiff,Nat.reduceAdd,Nat.beq]
theorem ad1 {s g:Int} {b:List Nat} (hb:∀ c∈b,c<256) (hl:b.length≤10000):cal env 19 [.int .i64 s,.int .i64 g,.list 1 (b.map eY)]=some [(kL (rcI s g b),false),(.list 2 ((rcL s g b).map aW),true),(.int .i64 (EJ s g b),false)]:=by
 have e0:=ae5 (s:=s) (g:=g)
 have e1:=adW hb (show b.length≤1000000 by omega)
 have AU:∀ i:fZ,kL i=.agg [.int .i64 i.size,.int .i64 i.aZ,.list 1 (i.act.map eI),.int .i64 i.bm.size,.list 1 (i.bm.ws.map eW)]:=fun _=>rfl
 have eA:∀ b:Bm,qL b=.agg [.int .i64 b.size,.list 1 (b.ws.map eW)]:=fun _=>rfl
 have P5:∀ a b c d e:PV,part [a,b,c,d,e] 0 (some 5)=some (.agg [a,b,c,d,e]):=fun _ _ _ _ _=>rfl
 have Z0:((0:Int) != 0)=false:=rfl
 have Zn:(((0:Nat):Int) != 0)=false:=rfl
 have Z3:((3:Int) != 0)=true:=rfl
 have Zl:(((0:Nat):Int) > 0)=False:=eq_false (by omega)
 unfold rcI rcL
 by_cases c0:uY s g=0
 ·have h0:lI s g=true:=by
   unfold uY at c0
   split at c0
   ·assumption
   ·cases c0
  have hgl:=lq h0
  obtain ⟨z1,z2,z3,z4⟩:=bT.1 h0
  rw [c0,AU] at e0
  by_cases c1:(dA b).1=0
  ·rw [c1,if_pos rfl] at e1
   have e2:=adW (l:=dD b) (fun c h=>hb c (nY h)) (by have:=jr b;omega)
   by_cases c2:(dA (dD b)).1=0
   ·rw [c2,if_pos rfl] at e2
    have e3:=ahN (l:=dD (dD b)) (fun c h=>hb c (nY (nY h))) (by have:=jr b;have:=jr (dD b);omega)
    by_cases c3:(iP (dD (dD b))).1=0
    ·rw [c3,if_pos rfl,if_pos rfl] at e3
     by_cases c4:(iP (dD (dD b))).2.2=[]
     ·rw [c4,List.map_nil] at e3
      have hD:tu b=(0,((dA b).2.1:Int),((dA (dD b)).2.1:Int),(iP (dD (dD b))).2.1):=by
       unfold tu;rw [if_pos c1,if_pos c2,if_pos c3,if_pos c4]
      obtain ⟨k1,k2⟩:=acM b
      rw [hD] at k1 k2
      simp only at k1 k2
      have hR:EJ s g b=if ((dA b).2.1:Int)=s∧((dA (dD b)).2.1:Int)=g then if DZ (iP (dD (dD b))).2.1 (lY s g)=0 then 0 else 3 else 22:=by
       unfold EJ;rw [if_pos c0,hD];simp only;rw [if_pos trivial]
      rw [hD]
      simp only
      generalize EJ s g b=E at *
      generalize ((dA b).2.1:Int)=n at *
      generalize ((dA (dD b)).2.1:Int)=k at *
      generalize (iP (dD (dD b))).2.1=l at *
      by_cases c5:n=s∧k=g
      ·rw [if_pos c5] at hR
       obtain ⟨rfl,rfl⟩:=c5
       have B1:(n != n)=false:=by simp
       have B2:(k != k)=false:=by simp
       have hact:((jG n k).act.length:Int)=lY n k:=by
        unfold jG;rw [if_pos h0,List.length_replicate];omega
       have e4:=ahY (l:=l) (size:=lY n k) (fun x hx=>afn (k1 x hx)) (by omega)
       by_cases c6:DZ l (lY n k)=0
       ·rw [if_pos c6] at hR
        rw [c6] at e4
        subst hR
        rw [if_pos rfl,if_pos rfl]
        have e5:=ahX (l:=l) (n:=lY n k) (by unfold lim;omega)
        have hin:=acQ c6
        have hfx:fxE (lY n k) l=0:=by
         have:=(adY (n:=(lY n k).toNat) (l:=l) (by omega) (fun e he=>by obtain ⟨q1,q2,q3⟩:=hin e he;omega)).1
         rwa [show (((lY n k).toNat:Nat):Int)=lY n k by omega] at this
        rw [eA,hfx] at e5
        have e6:=ahW (a:=l.map (vC n k)) (b:=[]) (fun x hx=>by
         obtain ⟨y,hy,rfl⟩:=List.mem_map.1 hx
         obtain ⟨a1,a2,a3,a4⟩:=Aa ⟨z1,z2⟩ ⟨z3,z4⟩ (hin y hy)
         unfold vC okE
         simp only
         split<;>omega) (fun x hx=>by cases hx) (by rw [List.length_map];omega) (by simp)
        rw [List.map_nil] at e6
        unfold orS
        generalize jG n k=o at *
        generalize VT (lY n k) l=b2 at *
        have hsc:(PV.agg [.int .i64 b2.size,.list 1 (b2.ws.map eW)]).scalar=false:=rfl
        simp only [AU]
        rw [ah yS rfl];simp only [zL,aG,Nat.reduceBEq,Nat.reduceLeDiff,Nat.reduceAdd,List.length_cons,List.length_nil]
        simp only [e0,e1,e2,e3,e4,e5,hsc,Z0,Zn,Z3,Zl,B1,B2,P5,dF,hact,List.length_map,List.length_nil,ak,Nat.reduceMul,Nat.reduceBEq,Nat.reduceLT,Nat.reduceLeDiff,reduceCtorEq,Nat.reduceEqDiff,Nat.reduceAdd,Nat.beq]
        rw [afq (n:=n) (k:=k) (l:=l) (o:=o) (b:=b2) ⟨z1,z2⟩ ⟨z3,z4⟩ hin (by unfold lim;omega)]
        rotate_left
        ·rw [List.take_zero,List.map_nil,List.map_nil,Rq]
         simp only [aG,bY,Nat.reduceMul,Nat.reduceBEq,Nat.reduceLT,Nat.reduceLeDiff,Nat.reduceAdd,decide_true,Bool.and_self,Bool.true_and]<;>rfl
        ·rw [Rq]
         generalize (l.map (vC n k)).map aW=m at *
         simp only [e6,P5,List.take_length,ak,Nat.reduceMul,Nat.reduceBEq,Nat.reduceLT,Nat.reduceLeDiff,reduceCtorEq,Nat.reduceEqDiff,Nat.reduceAdd,Nat.beq]
       ·rw [if_neg c6] at hR
        have G:(DZ l (lY n k) != 0)=true:=by simpa using c6
        rw [if_neg (by rw [hR];decide),if_neg (by rw [hR];decide),hR,iy]
        generalize jG n k=o at *
        rw [ah yS rfl];simp only [zL,aG,Nat.reduceBEq,Nat.reduceLeDiff,Nat.reduceAdd,List.length_cons,List.length_nil]
        simp only [e0,e1,e2,e3,e4,Z0,Zn,Z3,Zl,B1,B2,G,P5,dF,hact,List.length_map,List.length_nil,ak,Nat.reduceMul,Nat.reduceBEq,Nat.reduceLT,Nat.reduceLeDiff,reduceCtorEq,Nat.reduceEqDiff,Nat.reduceAdd,Nat.beq]
      ·rw [if_neg c5] at hR
       rw [if_neg (by rw [hR];decide),if_neg (by rw [hR];decide),hR,iy]
       generalize jG s g=o at *
       by_cases c6:n=s
       ·have B1:(n != s)=false:=by simpa using c6
        have B2:(k != g)=true:=by
         have:k≠g:=fun h=>c5 ⟨c6,h⟩
         simpa using this
        rw [ah yS rfl];simp only [zL,aG,Nat.reduceBEq,Nat.reduceLeDiff,Nat.reduceAdd,List.length_cons,List.length_nil]
        simp only [e0,e1,e2,e3,Z0,Zn,Z3,Zl,B1,B2,P5,dF,List.length_map,List.length_nil,ak,Nat.reduceMul,Nat.reduceBEq,Nat.reduceLT,Nat.reduceLeDiff,reduceCtorEq,Nat.reduceEqDiff,Nat.reduceAdd,Nat.beq]
       ·have B1:(n != s)=true:=by simpa using c6
        rw [ah yS rfl];simp only [zL,aG,Nat.reduceBEq,Nat.reduceLeDiff,Nat.reduceAdd,List.length_cons,List.length_nil]
        simp only [e0,e1,e2,e3,Z0,Zn,Z3,Zl,B1,P5,dF,List.length_map,List.length_nil,ak,Nat.reduceMul,Nat.reduceBEq,Nat.reduceLT,Nat.reduceLeDiff,reduceCtorEq,Nat.reduceEqDiff,Nat.reduceAdd,Nat.beq]
     ·have hR:EJ s g b=3:=by
       unfold EJ tu;rw [if_pos c0,if_pos c1,if_pos c2,if_pos c3,if_neg c4];rfl
      have Zl2:((((iP (dD (dD b))).2.2.length:Nat):Int) > 0)=True:=eq_true (by
       have:(iP (dD (dD b))).2.2.length≠0:=fun h=>c4 (List.length_eq_zero_iff.1 h)
       omega)
      rw [if_neg (by rw [hR];decide),if_neg (by rw [hR];decide),hR,iy]
      generalize jG s g=o at *
      generalize (dA (dD b)).2.1=k at *
      generalize (dA b).2.1=n at *
      rw [ah yS rfl];simp only [zL,aG,Nat.reduceBEq,Nat.reduceLeDiff,Nat.reduceAdd,List.length_cons,List.length_nil]
      simp only [e0,e1,e2,e3,Z0,Zn,Z3,Zl2,P5,dF,List.length_map,List.length_nil,ak,Nat.reduceMul,Nat.reduceBEq,Nat.reduceLT,Nat.reduceLeDiff,reduceCtorEq,Nat.reduceEqDiff,Nat.reduceAdd,Nat.beq]
    ·have hR:EJ s g b=((iP (dD (dD b))).1:Int):=by
      unfold EJ tu;rw [if_pos c0,if_pos c1,if_pos c2,if_neg c3];exact if_neg c3
     have Zr:(((iP (dD (dD b))).1:Int) != 0)=true:=by simpa using c3
     rw [if_neg (by rw [hR];omega),if_neg (by rw [hR];omega),hR,iy]
     generalize jG s g=o at *
     generalize (dA (dD b)).2.1=k at *
     generalize (dA b).2.1=n at *
     rw [ah yS rfl];simp only [zL,aG,Nat.reduceBEq,Nat.reduceLeDiff,Nat.reduceAdd,List.length_cons,List.length_nil]
     simp only [e0,e1,e2,e3,Z0,Zn,Zr,P5,dF,List.length_map,List.length_nil,ak,Nat.reduceMul,Nat.reduceBEq,Nat.reduceLT,Nat.reduceLeDiff,reduceCtorEq,Nat.reduceEqDiff,Nat.reduceAdd,Nat.beq]
   ·have hR:EJ s g b=((dA (dD b)).1:Int):=by
     unfold EJ tu;rw [if_pos c0,if_pos c1,if_neg c2];exact if_neg c2
    have Zr:(((dA (dD b)).1:Int) != 0)=true:=by simpa using c2
    rw [if_neg (by rw [hR];omega),if_neg (by rw [hR];omega),hR,iy]
    generalize jG s g=o at *
    generalize (dA b).2.1=n at *
    rw [ah yS rfl];simp only [zL,aG,Nat.reduceBEq,Nat.reduceLeDiff,Nat.reduceAdd,List.length_cons,List.length_nil]
    simp only [e0,e1,e2,Z0,Zn,Zr,P5,dF,List.length_map,List.length_nil,ak,Nat.reduceMul,Nat.reduceBEq,Nat.reduceLT,Nat.reduceLeDiff,reduceCtorEq,Nat.reduceEqDiff,Nat.reduceAdd,Nat.beq]
  ·have hR:EJ s g b=((dA b).1:Int):=by
    unfold EJ tu;rw [if_pos c0,if_neg c1];exact if_neg c1
   have Zr:(((dA b).1:Int) != 0)=true:=by simpa using c1
   rw [if_neg (by rw [hR];omega),if_neg (by rw [hR];omega),hR,iy]
   generalize jG s g=o at *
   rw [ah yS rfl];simp only [zL,aG,Nat.reduceBEq,Nat.reduceLeDiff,Nat.reduceAdd,List.length_cons,List.length_nil]
   simp only [e0,e1,Z0,Zr,P5,dF,List.length_map,List.length_nil,ak,Nat.reduceMul,Nat.reduceBEq,Nat.reduceLT,Nat.reduceLeDiff,reduceCtorEq,Nat.reduceEqDiff,Nat.reduceAdd,Nat.beq]
 ·have hR:EJ s g b=uY s g:=by
   unfold EJ;rw [if_neg c0]
  have Zr:(uY s g != 0)=true:=by simpa using c0
  rw [if_neg (by rw [hR];exact c0),if_neg (by rw [hR];exact c0),hR,iy]
  rw [AU] at e0
  generalize jG s g=o at *
  rw [ah yS rfl];simp only [zL,aG,Nat.reduceBEq,Nat.reduceLeDiff,Nat.reduceAdd,List.length_cons,List.length_nil]
  simp only [e0,Zr,P5,dF,List.length_map,List.length_nil,ak,Nat.reduceMul,Nat.reduceBEq,Nat.reduceLT,Nat.reduceLeDiff,reduceCtorEq,Nat.reduceEqDiff,Nat.reduceAdd,Nat.beq]
end Go.Proofs.YtdahanchdjadiaaDoor.V

namespace Go.Proofs.YtdahanchdjadiaaDoor.V
end Go.Proofs.YtdahanchdjadiaaDoor.V

namespace Go.Proofs.YtdahanchdjadiaaDoor.V
end Go.Proofs.YtdahanchdjadiaaDoor.V

namespace Go.Proofs.YtdahanchdjadiaaDoor.V
end Go.Proofs.YtdahanchdjadiaaDoor.V

namespace Go.Proofs.YtdahanchdjadiaaDoor.V
def PU (b:Bm) (n:Nat):List Nat:=(List.range n).filter (bit b.ws)
theorem yZ (b:Bm) (n:Nat):PU b (n+1)=if bit b.ws n then PU b n++[n] else PU b n:=by
 unfold PU
 rw [List.range_succ,List.filter_append]
 cases h:bit b.ws n<;>simp [h]
theorem afr {b:Bm} {n i:Nat} (h:i∈PU b n):i<n:=by
 simp only [PU,List.mem_filter,List.mem_range] at h;exact h.1
theorem acR (b:Bm) (n:Nat):(PU b n).length≤n:=by
 have:=List.length_filter_le (bit b.ws) (List.range n);simpa [PU] using this
theorem afs {b:Bm} {n:Nat} (hs:b.size=(n:Int)) (hn:n≤4096) (hw:n≤64 * b.ws.length) {st:St} (h:st.head [1,3,4,53] st.boxes.length=some ⟨[.any,.aP 0 0,.any,.row 2 ((exts (PU b (0:Nat))).map aW),.pv (.int .i64 (0:Nat)),.any,.any,.any,.any,.any,.any,.any,.any,.any,.any,.any,.any,.any,.any,.any,.any,.any,.any,.any,.any,.any,.any,.any,.any,.any,.any,.any,.any,.any,.any,.any,.any,.any,.any,.any,.any,.any,.any,.any,.any,.any,.any,.any,.any,.any,.any,.any,.any,.any,.any],[⟨false,[.pv (.int .i64 b.size),.pv (.list 1 (b.ws.map eW))]⟩],[],none⟩) :
  den env Ir st=some (.normal,⟨[.any,.any,.any,.row 2 ((exts (PU b n)).map aW),.any,.any,.any,.any,.any,.any,.any,.any,.any,.any,.any,.any,.any,.any,.any,.any,.any,.any,.any,.any,.any,.any,.any,.any,.any,.any,.any,.any,.any,.any,.any,.any,.any,.any,.any,.any,.any,.any,.any,.any,.any,.any,.any,.any,.any,.any,.any,.any,.any,.any,.any],[⟨false,[.pv (.int .i64 b.size),.pv (.list 1 (b.ws.map eW))]⟩],[],none⟩):=by
 unfold Ir
 refine dw (env:=env) (n) (fun i=>⟨[.any,.aP 0 0,.any,.row 2 ((exts (PU b i)).map aW),.pv (.int .i64 i),.any,.any,.any,.any,.any,.any,.any,.any,.any,.any,.any,.any,.any,.any,.any,.any,.any,.any,.any,.any,.any,.any,.any,.any,.any,.any,.any,.any,.any,.any,.any,.any,.any,.any,.any,.any,.any,.any,.any,.any,.any,.any,.any,.any,.any,.any,.any,.any,.any,.any],[⟨false,[.pv (.int .i64 b.size),.pv (.list 1 (b.ws.map eW))]⟩],[],none⟩) (fun i=>some (.normal,⟨[.any,.any,.any,.row 2 ((exts (PU b n)).map aW),.any,.any,.any,.any,.any,.any,.any,.any,.any,.any,.any,.any,.any,.any,.any,.any,.any,.any,.any,.any,.any,.any,.any,.any,.any,.any,.any,.any,.any,.any,.any,.any,.any,.any,.any,.any,.any,.any,.any,.any,.any,.any,.any,.any,.any,.any,.any,.any,.any,.any,.any],[⟨false,[.pv (.int .i64 b.size),.pv (.list 1 (b.ws.map eW))]⟩],[],none⟩)) h (fun _=>rfl) (fun _=>rfl) ?_ ?_
 ·intro i rb hi ih
  have hi1:=dN hi (by unfold lim;omega)
  have hlim:lim=1073741824:=rfl
  have F1:((i:Int)<b.size)=True:=eq_true (by omega)
  have e1:=adN (b:=b) (i:=i) (by omega) (by omega)
  have P2:part [PV.int .i64 b.size,.list 1 (b.ws.map eW)] 0 (some 2)=some (.agg [PV.int .i64 b.size,.list 1 (b.ws.map eW)]):=rfl
  unfold qL at e1
  cases c:bit b.ws i with
  |false =>
   rw [c] at e1
   simp only [yO,F1,e1,P2,bW,reduceCtorEq,Nat.reduceEqDiff,Nat.reduceAdd,Nat.reduceLT,Nat.reduceLeDiff,Nat.beq]
   rw [ih _ (by simp only [hi1];rw [yZ,if_neg (by rw [c];decide)];rfl)]
  |true =>
   rw [c] at e1
   rcases jQ (PU b i) with h0|⟨p,j,h0⟩
   ·have e0:exts (PU b i)=[]:=by rw [h0];rfl
    have F2:(((0:Nat):Int) > 0)=False:=eq_false (by omega)
    have F3:(0+1≤lim)=True:=eq_true (by unfold lim;omega)
    simp only [yO,F1,e1,P2,e0,aW,List.map_nil,F2,F3,bW,reduceCtorEq,Nat.reduceEqDiff,Nat.reduceAdd,Nat.reduceLT,Nat.reduceLeDiff,Nat.beq]
    rw [ih _ (by simp only [hi1];rw [yZ,if_pos c,nG,e0];rfl)]
   ·obtain ⟨pre,⟨s,q⟩,e0,h1,h2,h3,h4⟩:=zM _ p rfl j
    rw [← h0] at e0
    have hji:j<i:=afr (show j∈PU b i by rw [h0];simp)
    have hpl:p.length+1≤i:=by have:=acR b i;rw [h0] at this;simpa using this
    simp only at h1 h2 h3
    have F2:(((pre.length+1:Nat):Int) > 0)=True:=eq_true (by omega)
    have F3:=FW (n:=pre.length) (by omega)
    have F4:IntKind.i64.wrap (s+q)=s+q:=ay (by omega)
    have F5:IntKind.i64.wrap (q+1)=q+1:=ay (by omega)
    have F6:(pre.length+1+1≤lim)=True:=eq_true (by omega)
    have F7:index (.int .i64 (pre.length:Int)) (pre.length+1)=some pre.length:=aj (by omega)
    simp only [yO,F1,e1,P2,e0,List.map_append,List.map_cons,List.map_nil,aW,F2,F3,F4,F5,F6,F7,bW,reduceCtorEq,Nat.reduceEqDiff,Nat.reduceAdd,Nat.reduceLT,Nat.reduceLeDiff,Nat.beq]
    (try simp only [xw,zG,xA]);refine uQ (fun hb=>?_) (fun hb=>?_)<;>try simp only [hb,aW,bW,reduceCtorEq,Nat.reduceEqDiff,Nat.reduceAdd,Nat.reduceLT,Nat.reduceLeDiff,Nat.beq]
    ·rw [ih _ (by simp only [hi1];rw [yZ,if_pos c,nG,e0,gV,if_pos (by simpa using hb)];simp only [List.map_append,List.map_cons,List.map_nil,aW];rfl)]
    ·rw [ih _ (by simp only [hi1];rw [yZ,if_pos c,nG,e0,gV,if_neg (by simpa using hb)];simp only [List.map_append,List.map_cons,List.map_nil,aW];rfl)]
 ·intro rb
  have F1:((n:Int)<b.size)=False:=eq_false (by omega)
  simp only [yO,F1,bW,reduceCtorEq,Nat.reduceEqDiff,Nat.reduceAdd,Nat.reduceLT,Nat.reduceLeDiff,Nat.beq]
  rfl
theorem ahZ {b:Bm}:cal env 26 [qL b]=some [(.list 2 ((BU b).map aW),true)]:=by
 have e1:=ahw (b:=b)
 have eA:∀ a:Bm,qL a=.agg [.int .i64 a.size,.list 1 (a.ws.map eW)]:=fun _=>rfl
 unfold BU
 cases c:okB b with
 |false =>
  rw [nH c] at e1
  rw [if_neg Bool.false_ne_true]
  rw [eA] at e1 ⊢
  have Z3:((3:Int) != 0)=true:=rfl
  rw [ah adx rfl];simp only [UG];simp only [start,aO,aY,aK,aX,aH,aI,aN,aU,Nat.reduceAdd,Nat.reduceSub]
  simp only [e1,Z3,List.map_nil,bW,reduceCtorEq,Nat.reduceEqDiff,Nat.reduceAdd,Nat.reduceLT,Nat.reduceLeDiff,Nat.beq]
 |true =>
  rw [uV c] at e1
  rw [if_pos rfl]
  rw [eA] at e1 ⊢
  have Z0:((0:Int) != 0)=false:=rfl
  obtain ⟨h1,h2,h3,h4,h5⟩:=iH c
  rw [ah adx rfl];simp only [UG];simp only [start,aO,aY,aK,aX,aH,aI,aN,aU,Nat.reduceAdd,Nat.reduceSub]
  simp only [e1,Z0,List.map_nil,bW,reduceCtorEq,Nat.reduceEqDiff,Nat.reduceAdd,Nat.reduceLT,Nat.reduceLeDiff,Nat.beq]
  rw [afs (b:=b) (n:=b.size.toNat) (by omega) (by omega) (by omega)]
  rotate_left
  ·rfl
  ·simp only [e1,Z0,List.map_nil,bW,reduceCtorEq,Nat.reduceEqDiff,Nat.reduceAdd,Nat.reduceLT,Nat.reduceLeDiff,Nat.beq]
   rfl
end Go.Proofs.YtdahanchdjadiaaDoor.V
