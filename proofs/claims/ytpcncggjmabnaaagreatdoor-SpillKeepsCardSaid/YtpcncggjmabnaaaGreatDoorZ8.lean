/-
  Part 8 of the texts that the statement stands on.
-/
import Derived.Test.YtpcncggjmabnaaaGreatDoorZ7
set_option linter.all false
namespace Go.Proofs.YtpcncggjmabnaaaGreatDoor.V
structure aj8 where
 d0:Int
 d1:Int
 st:Int
 ins:Bool
 out:List fJ
def mZ (keep:Bool→Bool→Bool) (x:End) (same:Bool) (s:aj8):aj8 :=
 if same then ⟨if x.list=0 then s.d0+x.step else s.d0,if x.list=1 then s.d1+x.step else s.d1,s.st,s.ins,s.out⟩
 else ⟨if x.list=0 then s.d0+x.step else s.d0,if x.list=1 then s.d1+x.step else s.d1,
  if keep (decide ((if x.list=0 then s.d0+x.step else s.d0) > 0)) (decide ((if x.list=1 then s.d1+x.step else s.d1) > 0))&&!s.ins then x.pos else s.st,
  keep (decide ((if x.list=0 then s.d0+x.step else s.d0) > 0)) (decide ((if x.list=1 then s.d1+x.step else s.d1) > 0)),
  s.out++(if !keep (decide ((if x.list=0 then s.d0+x.step else s.d0) > 0)) (decide ((if x.list=1 then s.d1+x.step else s.d1) > 0))&&s.ins then [⟨s.st,x.pos - s.st⟩] else [])⟩
def jR (keep:Bool→Bool→Bool) (L:List End):Nat→aj8
 |0=>⟨0,0,0,false,[]⟩
 |i+1=>match L[i]? with
  |some x=>mZ keep x (jK x (L.drop (i+1))) (jR keep L i)
  |none=>jR keep L i
theorem Bj {keep:Bool→Bool→Bool} {L:List End} {i:Nat} {x:End} (h:L[i]?=some x):jR keep L (i+1)=mZ keep x (jK x (L.drop (i+1))) (jR keep L i):=by
 show (match L[i]? with
  |some x=>mZ keep x (jK x (L.drop (i+1))) (jR keep L i)
  |none=>jR keep L i)=_
 rw [h]
theorem V9 (keep:Bool→Bool→Bool) (L:List End):∀ i,i≤L.length→(jR keep L i).out++Bd keep (L.drop i) (jR keep L i).d0 (jR keep L i).d1 (jR keep L i).st (jR keep L i).ins=Bd keep L 0 0 0 false
 |0,_=>rfl
 |i+1,hi=>by
  have ih:=V9 keep L i (by omega)
  have hx:L[i]?=some L[i]:=List.getElem?_eq_getElem (by omega)
  rw [← ih,Bj hx,List.drop_eq_getElem_cons (show i<L.length by omega)]
  generalize L[i]=x
  generalize jR keep L i=s
  conv=>rhs;unfold Bd
  unfold mZ
  cases jK x (L.drop (i+1)) with
  |true=>rfl
  |false=>simp only [Bool.false_eq_true,if_false,List.append_assoc]
theorem adu (keep:Bool→Bool→Bool) (L:List End):(jR keep L L.length).out=Bd keep L 0 0 0 false:=by
 have:=V9 keep L L.length (Nat.le_refl _)
 rw [List.drop_length] at this
 simpa [Bd] using this
theorem FT {keep:Bool→Bool→Bool} {L:List End} (h:∀ x∈L,(x.step=1∨x.step=-1)∧x.pos≤4096):∀ i:Nat,(-(i:Int)≤(jR keep L i).d0∧(jR keep L i).d0≤i)∧(-(i:Int)≤(jR keep L i).d1∧(jR keep L i).d1≤i)∧(0≤(jR keep L i).st∧(jR keep L i).st≤4096)
 |0=>by simp [jR]
 |i+1=>by
  obtain ⟨h1,h2,h3⟩:=FT (keep:=keep) h i
  cases hx:L[i]? with
  |none =>
   have:jR keep L (i+1)=jR keep L i:=by
    show (match L[i]? with
     |some x=>mZ keep x (jK x (L.drop (i+1))) (jR keep L i)
     |none=>jR keep L i)=_
    rw [hx]
   rw [this]
   omega
  |some x =>
   rw [Bj hx]
   obtain ⟨k1,k2⟩:=h x (List.mem_of_getElem? hx)
   generalize jR keep L i=s at *
   unfold mZ
   split
   ·simp only
    refine ⟨?_,?_,h3⟩
    ·split<;>omega
    ·split<;>omega
   ·simp only
    refine ⟨?_,?_,?_⟩
    ·split<;>omega
    ·split<;>omega
    ·split<;>omega
def yE (l:List fJ):List (List PV):=l.map fun x=>[dD x]
theorem MN (l m:List fJ):yE (l++m)=yE l++yE m:=by simp [yE]
theorem Wh (n m:Nat):((n:Int)==(m:Int))=decide (n=m):=by
 by_cases h:n=m
 ·subst h;simp
 ·rw [decide_eq_false h];simp;omega
set_option maxRecDepth 20000 in
set_option maxHeartbeats 2000000 in
theorem agR {keep:Bool→Bool→Bool} {kf:Nat} (hk:∀ p q,cal env kf [.bool p,.bool q]=some [(.bool (keep p q),false)]) {L:List End} (hL:∀ x∈L,((x.step=1∨x.step=-1)∧x.pos≤4096)∧x.list<2) (hl:L.length≤1000000)
  {st:St} (h:st.head [0,3,5,6,7,8,15,16,17,18] st.boxes.length=some ⟨sl 80 [(0,.rV),(3,.pv (.dR [.func kf []] 0)),(5,.row 3 (L.map jf)),(6,.aI 0 0),(7,.pv (.int .i64 0)),(8,.pv (.bool false)),(15,.any),(16,.ref (.slot 5) 0 L.length),(17,.pv (.int .i64 L.length)),(18,.pv (.int .i64 (0:Nat)))],[⟨false,[.pv (.int .i64 0),.pv (.int .i64 0)]⟩],[],some none⟩) :
  den env Fa st=some (.normal,⟨sl 80 [],[⟨false,[.pv (.int .i64 (jR keep L L.length).d0),.pv (.int .i64 (jR keep L L.length).d1)]⟩],yE (jR keep L L.length).out,some none⟩):=by
 unfold Fa
 have hlim:lim=1073741824:=rfl
 have hsm:=FT (keep:=keep) fun x hx=>(hL x hx).1
 refine bC (env:=env) L.length (fun i=>⟨sl 80 [(0,.rV),(3,.pv (.dR [.func kf []] 0)),(5,.row 3 (L.map jf)),(6,.aI 0 0),(7,.pv (.int .i64 (jR keep L i).st)),(8,.pv (.bool (jR keep L i).ins)),(15,.any),(16,.ref (.slot 5) 0 L.length),(17,.pv (.int .i64 L.length)),(18,.pv (.int .i64 i))],[⟨false,[.pv (.int .i64 (jR keep L i).d0),.pv (.int .i64 (jR keep L i).d1)]⟩],yE (jR keep L i).out,some none⟩) (fun _=>some (.normal,⟨sl 80 [],[⟨false,[.pv (.int .i64 (jR keep L L.length).d0),.pv (.int .i64 (jR keep L L.length).d1)]⟩],yE (jR keep L L.length).out,some none⟩)) h (fun _=>rfl) (fun _=>by simp only [aB,bg,Nat.reduceMul,Nat.reduceBEq,Nat.reduceLT,Nat.reduceLeDiff,Nat.reduceAdd,decide_true,Bool.and_self,Bool.true_and]) ?_ ?_
 ·intro i rb hi ih
  have hi1:=bG hi (by omega)
  have F1:((i:Int)<(L.length:Int))=True:=eq_true (by omega)
  have hx:L[i]?=some L[i]:=List.getElem?_eq_getElem hi
  obtain ⟨⟨x1,x2⟩,x3⟩:=hL _ (List.getElem_mem hi)
  have amT:=Bj (keep:=keep) hx
  obtain ⟨⟨s1,s2⟩,⟨s3,s4⟩,s5,s6⟩:=hsm i
  rw [amT] at ih
  clear amT
  generalize L[i]=x at *
  generalize hs:jR keep L i=s at *
  obtain ⟨d0,d1,sp,ins,out⟩:=s
  obtain ⟨p,k,t⟩:=x
  simp only at x1 x2 x3 s1 s2 s3 s4 s5 s6 ih
  have hlist:k=0∨k=1:=by omega
  have W0:IntKind.i64.wrap (d0+t)=d0+t:=bf (by omega)
  have W1:IntKind.i64.wrap (d1+t)=d1+t:=bf (by omega)
  have W2:IntKind.i64.wrap ((p:Int) - sp)=(p:Int) - sp:=bf (by omega)
  have I0:index (.int .i64 0) 2=some 0:=rfl
  have I1:index (.int .i64 1) 2=some 1:=rfl
  have IN0:index (.int .i64 ((0:Nat):Int)) 2=some 0:=rfl
  have IN1:index (.int .i64 ((1:Nat):Int)) 2=some 1:=rfl
  have P3:∀ a b c:PV,part [a,b,c] 0 (some 3)=some (.agg [a,b,c]):=fun a b c=>rfl
  -- the next end
  have hnx:(∃ y,L[i+1]?=some y∧jK ⟨p,k,t⟩ (L.drop (i+1))=decide (y.pos=p)∧(((i+1:Nat):Int)<(L.length:Int))∧index (.int .i64 ((i+1:Nat):Int)) L.length=some (i+1))∨(jK ⟨p,k,t⟩ (L.drop (i+1))=false∧¬ (((i+1:Nat):Int)<(L.length:Int))):=by
   by_cases hlt:i+1<L.length
   ·left
    refine ⟨L[i+1],List.getElem?_eq_getElem hlt,?_,by omega,au hlt⟩
    rw [List.drop_eq_getElem_cons hlt];rfl
   ·right
    refine ⟨?_,by omega⟩
    rw [List.drop_eq_nil_of_le (by omega)];rfl
  rcases hlist with rfl|rfl
  ·-- list 0
   have e1:=hk (decide (d0+t > 0)) (decide (d1 > 0))
   have same:mZ keep ⟨p,0,t⟩ true ⟨d0,d1,sp,ins,out⟩=⟨d0+t,d1,sp,ins,out⟩:=by simp [mZ]
   have diff:mZ keep ⟨p,0,t⟩ false ⟨d0,d1,sp,ins,out⟩=⟨d0+t,d1,if keep (decide (d0+t > 0)) (decide (d1 > 0))&&!ins then (p:Int) else sp,keep (decide (d0+t > 0)) (decide (d1 > 0)),out++(if !keep (decide (d0+t > 0)) (decide (d1 > 0))&&ins then [⟨sp,(p:Int) - sp⟩] else [])⟩:=by simp [mZ]
   rcases hnx with ⟨y,hy,hns,hlt,hix⟩|⟨hns,hlt⟩
   ·have F2:(((i+1:Nat):Int)<(L.length:Int))=True:=eq_true hlt
    rw [hns] at ih
    have B:=Wh y.pos p
    generalize hb:decide (y.pos=p)=b at ih B
    cases b with
    |true =>
     rw [same] at ih
     simp only [oK,F1,hx,hi1,W0,W1,W2,I0,I1,IN0,IN1,P3,jf,au hi,List.getElem?_map,Option.map_some,List.length_map,List.length_cons,List.length_nil,F2,hy,hix,B,ak,Nat.reduceMul,Nat.reduceBEq,Nat.reduceLT,Nat.reduceLeDiff,reduceCtorEq,Nat.reduceEqDiff,Nat.reduceAdd,Nat.beq]
     rw [ih _ (by simp only [hi1,ak,Nat.reduceMul,Nat.reduceBEq,Nat.reduceLT,Nat.reduceLeDiff,reduceCtorEq,Nat.reduceEqDiff,Nat.reduceAdd,Nat.beq]<;>rfl)]
    |false =>
     rw [diff] at ih
     generalize keep (decide (d0+t > 0)) (decide (d1 > 0))=now at *
     cases now<;>cases ins<;>simp only [Bool.not_true,Bool.not_false,Bool.and_true,Bool.and_false,Bool.and_self,Bool.false_eq_true,if_true,if_false,List.append_nil,MN] at ih<;>simp only [oK,F1,hx,hi1,W0,W1,W2,I0,I1,IN0,IN1,P3,jf,au hi,List.getElem?_map,Option.map_some,List.length_map,List.length_cons,List.length_nil,F2,hy,hix,B,e1,ak,Nat.reduceMul,Nat.reduceBEq,Nat.reduceLT,Nat.reduceLeDiff,reduceCtorEq,Nat.reduceEqDiff,Nat.reduceAdd,Nat.beq]<;>rw [ih _ (by simp only [hi1,yE,List.map_cons,List.map_nil,dD,ak,Nat.reduceMul,Nat.reduceBEq,Nat.reduceLT,Nat.reduceLeDiff,reduceCtorEq,Nat.reduceEqDiff,Nat.reduceAdd,Nat.beq]<;>rfl)]
   ·have F2:(((i+1:Nat):Int)<(L.length:Int))=False:=eq_false hlt
    rw [hns,diff] at ih
    generalize keep (decide (d0+t > 0)) (decide (d1 > 0))=now at *
    cases now<;>cases ins<;>simp only [Bool.not_true,Bool.not_false,Bool.and_true,Bool.and_false,Bool.and_self,Bool.false_eq_true,if_true,if_false,List.append_nil,MN] at ih<;>simp only [oK,F1,hx,hi1,W0,W1,W2,I0,I1,IN0,IN1,P3,jf,au hi,List.getElem?_map,Option.map_some,List.length_map,List.length_cons,List.length_nil,F2,e1,ak,Nat.reduceMul,Nat.reduceBEq,Nat.reduceLT,Nat.reduceLeDiff,reduceCtorEq,Nat.reduceEqDiff,Nat.reduceAdd,Nat.beq]<;>rw [ih _ (by simp only [hi1,yE,List.map_cons,List.map_nil,dD,ak,Nat.reduceMul,Nat.reduceBEq,Nat.reduceLT,Nat.reduceLeDiff,reduceCtorEq,Nat.reduceEqDiff,Nat.reduceAdd,Nat.beq]<;>rfl)]
  ·-- list 1
   have e1:=hk (decide (d0 > 0)) (decide (d1+t > 0))
   have same:mZ keep ⟨p,1,t⟩ true ⟨d0,d1,sp,ins,out⟩=⟨d0,d1+t,sp,ins,out⟩:=by simp [mZ]
   have diff:mZ keep ⟨p,1,t⟩ false ⟨d0,d1,sp,ins,out⟩=⟨d0,d1+t,if keep (decide (d0 > 0)) (decide (d1+t > 0))&&!ins then (p:Int) else sp,keep (decide (d0 > 0)) (decide (d1+t > 0)),out++(if !keep (decide (d0 > 0)) (decide (d1+t > 0))&&ins then [⟨sp,(p:Int) - sp⟩] else [])⟩:=by simp [mZ]
   rcases hnx with ⟨y,hy,hns,hlt,hix⟩|⟨hns,hlt⟩
   ·have F2:(((i+1:Nat):Int)<(L.length:Int))=True:=eq_true hlt
    rw [hns] at ih
    have B:=Wh y.pos p
    generalize hb:decide (y.pos=p)=b at ih B
    cases b with
    |true =>
     rw [same] at ih
     simp only [oK,F1,hx,hi1,W0,W1,W2,I0,I1,IN0,IN1,P3,jf,au hi,List.getElem?_map,Option.map_some,List.length_map,List.length_cons,List.length_nil,F2,hy,hix,B,ak,Nat.reduceMul,Nat.reduceBEq,Nat.reduceLT,Nat.reduceLeDiff,reduceCtorEq,Nat.reduceEqDiff,Nat.reduceAdd,Nat.beq]
     rw [ih _ (by simp only [hi1,ak,Nat.reduceMul,Nat.reduceBEq,Nat.reduceLT,Nat.reduceLeDiff,reduceCtorEq,Nat.reduceEqDiff,Nat.reduceAdd,Nat.beq]<;>rfl)]
    |false =>
     rw [diff] at ih
     generalize keep (decide (d0 > 0)) (decide (d1+t > 0))=now at *
     cases now<;>cases ins<;>simp only [Bool.not_true,Bool.not_false,Bool.and_true,Bool.and_false,Bool.and_self,Bool.false_eq_true,if_true,if_false,List.append_nil,MN] at ih<;>simp only [oK,F1,hx,hi1,W0,W1,W2,I0,I1,IN0,IN1,P3,jf,au hi,List.getElem?_map,Option.map_some,List.length_map,List.length_cons,List.length_nil,F2,hy,hix,B,e1,ak,Nat.reduceMul,Nat.reduceBEq,Nat.reduceLT,Nat.reduceLeDiff,reduceCtorEq,Nat.reduceEqDiff,Nat.reduceAdd,Nat.beq]<;>rw [ih _ (by simp only [hi1,yE,List.map_cons,List.map_nil,dD,ak,Nat.reduceMul,Nat.reduceBEq,Nat.reduceLT,Nat.reduceLeDiff,reduceCtorEq,Nat.reduceEqDiff,Nat.reduceAdd,Nat.beq]<;>rfl)]
   ·have F2:(((i+1:Nat):Int)<(L.length:Int))=False:=eq_false hlt
    rw [hns,diff] at ih
    generalize keep (decide (d0 > 0)) (decide (d1+t > 0))=now at *
    cases now<;>cases ins<;>simp only [Bool.not_true,Bool.not_false,Bool.and_true,Bool.and_false,Bool.and_self,Bool.false_eq_true,if_true,if_false,List.append_nil,MN] at ih<;>simp only [oK,F1,hx,hi1,W0,W1,W2,I0,I1,IN0,IN1,P3,jf,au hi,List.getElem?_map,Option.map_some,List.length_map,List.length_cons,List.length_nil,F2,e1,ak,Nat.reduceMul,Nat.reduceBEq,Nat.reduceLT,Nat.reduceLeDiff,reduceCtorEq,Nat.reduceEqDiff,Nat.reduceAdd,Nat.beq]<;>rw [ih _ (by simp only [hi1,yE,List.map_cons,List.map_nil,dD,ak,Nat.reduceMul,Nat.reduceBEq,Nat.reduceLT,Nat.reduceLeDiff,reduceCtorEq,Nat.reduceEqDiff,Nat.reduceAdd,Nat.beq]<;>rfl)]
 ·intro rb
  simp only [oK,Int.lt_irrefl,ak,Nat.reduceMul,Nat.reduceBEq,Nat.reduceLT,Nat.reduceLeDiff,reduceCtorEq,Nat.reduceEqDiff,Nat.reduceAdd,Nat.beq]
end Go.Proofs.YtpcncggjmabnaaaGreatDoor.V

namespace Go.Proofs.YtpcncggjmabnaaaGreatDoor.V
def jQ (l:List fJ) (s:Nat):Bool:=l.any fun e=>Ji e s
def setOf (keep:Bool→Bool→Bool) (a b:List fJ):List fJ:=ext (fun s=>keep (jQ a s) (jQ b s)) 4096
theorem MO {α:Type} {P:α→Prop} {a b:α} (ha:P a) (hb:P b):∀ l∈[a,b],P l:=by
 intro l hl
 simp only [List.mem_cons,List.not_mem_nil,or_false] at hl
 rcases hl with rfl|rfl
 ·exact ha
 ·exact hb
theorem QC {i s:Nat} {l m:List End} (h:l.Perm m):dep i s l=dep i s m:=by
 induction h with
 |nil=>rfl
 |cons x _ ih=>simp only [dep,ih]
 |swap x y l=>simp only [dep];omega
 |trans _ _ h1 h2=>exact h1.trans h2
theorem adv {i:Nat} {l m:List End} (h:l.Perm m):tot i l=tot i m:=by
 induction h with
 |nil=>rfl
 |cons x _ ih=>simp only [tot,ih]
 |swap x y l=>simp only [tot];omega
 |trans _ _ h1 h2=>exact h1.trans h2
theorem uO (i:Nat) (e:fJ) (l:List fJ):fP i (e :: l)=(if (wX e).2.2 then [⟨(wX e).1.toNat,i,1⟩,⟨(wX e).2.1.toNat,i,-1⟩] else [])++fP i l:=by simp [fP]
theorem sO {i:Nat}:∀ {l:List fJ} {x:End},x∈fP i l→((x.step=1∨x.step=-1)∧x.pos≤4096)∧x.list=i
 |[],x,h=>by simp [fP] at h
 |e :: l,x,h=>by
  rw [uO] at h
  rcases List.mem_append.1 h with h|h
  ·cases hw:(wX e).2.2 with
   |false=>rw [hw] at h;simp at h
   |true =>
    obtain ⟨n,m,hnm,h1,h2,-⟩:=ML hw
    rw [hnm] at h
    simp only [if_true,Int.toNat_natCast,List.mem_cons,List.not_mem_nil,or_false] at h
    rcases h with rfl|rfl
    ·exact ⟨⟨.inl rfl,by simp only;omega⟩,rfl⟩
    ·exact ⟨⟨.inr rfl,h2⟩,rfl⟩
  ·exact sO h
theorem MP {i j:Nat}:∀ l:List fJ,tot j (fP i l)=0
 |[]=>rfl
 |e :: l=>by
  rw [uO,zO,MP l]
  split
  ·simp only [tot];split<;>omega
  ·rfl
theorem Bl {i j s:Nat} (h:i≠j):∀ l:List fJ,dep j s (fP i l)=0
 |[]=>rfl
 |e :: l=>by
  rw [uO,xA,Bl h l]
  split
  ·simp [dep,h]
  ·rfl
theorem MQ {i s:Nat} (hs:s<4096):∀ l:List fJ,0≤dep i s (fP i l)∧(dep i s (fP i l) > 0 ↔ jQ l s=true)
 |[]=>by simp [fP,dep,jQ]
 |e :: l=>by
  obtain ⟨h1,h2⟩:=MQ (i:=i) hs l
  rw [uO,xA]
  have h3:jQ (e :: l) s=(Ji e s || jQ l s):=rfl
  rw [h3]
  cases hw:(wX e).2.2 with
  |false =>
   rw [adr hw hs]
   simp only [Bool.false_eq_true,if_false,dep,Int.zero_add,Bool.false_or]
   exact ⟨h1,h2⟩
  |true =>
   obtain ⟨n,m,hnm,g1,g2,g3⟩:=ML hw
   have g4:=g3 s hs
   rw [hnm]
   simp only [if_true,Int.toNat_natCast,dep,true_and]
   cases hin:Ji e s with
   |false =>
    rw [Bool.false_or,← h2]
    have:¬ (n≤s∧s<m):=fun h=>by rw [g4.2 h] at hin;cases hin
    split<;>split<;>omega
   |true =>
    obtain ⟨k1,k2⟩:=g4.1 hin
    rw [if_pos k1,if_neg (by omega)]
    simp only [Bool.true_or,iff_true]
    omega
theorem adw:∀ {l:List End},(∀ i j:Nat,i<j→j<l.length→¬ l[j]!.pos<l[i]!.pos)→Asc l
 |[],_=>trivial
 |[x],_=>trivial
 |x :: y :: l,h=>by
  refine ⟨?_,adw fun i j hij hj=>?_⟩
  ·have:=h 0 1 (by omega) (by simp)
   simp at this
   omega
  ·have:=h (i+1) (j+1) (by omega) (by simp at hj ⊢;omega)
   simpa using this
theorem Zj {keep:Bool→Bool→Bool} (hk:keep false false=false) (a b:List fJ):Bd keep (lN [a,b]) 0 0 0 false=setOf keep a b:=by
 obtain ⟨h1,h2,h3⟩:=yH (dB 0 [a,b])
 have hr:dB 0 [a,b]=fP 0 a++fP 1 b:=by simp [dB]
 have hmem:∀ x∈lN [a,b],x.pos≤4096:=fun x hx=>by
  have:=h1.mem_iff.1 hx
  rw [hr] at this
  rcases List.mem_append.1 this with q|q
  ·exact (sO q).1.2
  ·exact (sO q).1.2
 have ht:∀ j,tot j (lN [a,b])=0:=fun j=>by
  unfold lN
  rw [adv h1,hr,zO,MP,MP];rfl
 have hasc:Asc (lN [a,b]):=adw fun i j hij hj=>h3 i j hij (by unfold lN at hj;omega)
 rw [acE hk hasc hmem (ht 0) (ht 1)]
 unfold setOf
 apply Y5
 intro s hs
 unfold kT lN
 rw [QC h1,QC h1,hr,xA,xA,Bl (i:=1) (j:=0) (by decide),Bl (i:=0) (j:=1) (by decide),Int.add_zero,Int.zero_add]
 have e1:=(MQ (i:=0) hs a).2
 have e2:=(MQ (i:=1) hs b).2
 have f1:decide (dep 0 s (fP 0 a) > 0)=jQ a s:=by
  cases h:jQ a s
  ·exact decide_eq_false fun q=>by rw [e1.1 q] at h;cases h
  ·exact decide_eq_true (e1.2 h)
 have f2:decide (dep 1 s (fP 1 b) > 0)=jQ b s:=by
  cases h:jQ b s
  ·exact decide_eq_false fun q=>by rw [e2.1 q] at h;cases h
  ·exact decide_eq_true (e2.2 h)
 rw [f1,f2]
set_option maxRecDepth 20000 in
theorem agS {keep:Bool→Bool→Bool} (h0:keep false false=false) {kf:Nat} (hk:∀ p q,cal env kf [.bool p,.bool q]=some [(.bool (keep p q),false)]) {a b:List fJ} (ha:Hq a) (hb:Hq b) (la:a.length≤10000) (lb:b.length≤10000) :
  iter env 133 [.dR [.list 2 (a.map dD)] 0,.dR [.list 2 (b.map dD)] 0,.dR [.func kf []] 0] none=some (yE (setOf keep a b)):=by
 have hlim:lim=1073741824:=rfl
 obtain ⟨h1,h2,h3⟩:=yH (dB 0 [a,b])
 have hr:dB 0 [a,b]=fP 0 a++fP 1 b:=by simp [dB]
 have hp:=qX (n:=10000) [a,b] 0 (MO la lb)
 have e1:=aj6 (ls:=[a,b]) (MO ha hb) (MO la lb) (by simp) h2
 have hE:(lN [a,b]).length≤1000000:=by unfold lN;rw [h2];simp at hp;omega
 have hm:∀ x∈lN [a,b],((x.step=1∨x.step=-1)∧x.pos≤4096)∧x.list<2:=fun x hx=>by
  have:=h1.mem_iff.1 hx
  rw [hr] at this
  rcases List.mem_append.1 this with q|q
  ·have:=sO q;exact ⟨this.1,by omega⟩
  ·have:=sO q;exact ⟨this.1,by omega⟩
 have hres:=(adu keep (lN [a,b])).trans (Zj h0 a b)
 simp only [List.map_cons,List.map_nil,yS] at e1
 have L2:(2≤lim)=True:=eq_true (by omega)
 rw [Ja ajr rfl rfl]
 have hy:Uy 80 [.dR [.list 2 (a.map dD)] 0,.dR [.list 2 (b.map dD)] 0,.dR [.func kf []] 0] none=⟨sl 80 [(0,.rV),(1,.pv (.dR [.list 2 (a.map dD)] 0)),(2,.pv (.dR [.list 2 (b.map dD)] 0)),(3,.pv (.dR [.func kf []] 0))],[],[],some none⟩:=rfl
 simp only [Qh]
 rw [hy]
 simp only [e1,L2,List.length_map,ak,Nat.reduceMul,Nat.reduceBEq,Nat.reduceLT,Nat.reduceLeDiff,reduceCtorEq,Nat.reduceEqDiff,Nat.reduceAdd,Nat.beq]
 rw [agR hk hm hE (by simp only [ak,Nat.reduceMul,Nat.reduceBEq,Nat.reduceLT,Nat.reduceLeDiff,reduceCtorEq,Nat.reduceEqDiff,Nat.reduceAdd,Nat.beq]<;>rfl)]
 rw [hres]
 rfl
theorem aj9 {g:Nat} {caps:List PV} {l:List fJ} (hi:iter env g caps none=some (yE l)) (hl:l.length≤1000000):cal env 132 [.lY 2,.func g caps]=some [(.list 2 (l.map dD),true)]:=by
 have hlim:lim=1073741824:=rfl
 rw [ah ajq rfl];simp only [Qg];simp only [start,aN,aT,aJ,aS,aG,aH,aK,aQ,Nat.reduceAdd,Nat.reduceSub]
 simp only [bK,reduceCtorEq,Nat.reduceEqDiff,Nat.reduceAdd,Nat.reduceLT,Nat.reduceLeDiff,Nat.beq]
 rw [VX (env:=env) (fun j=>[⟨false,[.row 2 ((l.take j).map dD)]⟩]) (xs:=yE l) rfl hi rfl ?_]
 ·simp only [yE,List.length_map,List.take_length,Qr,bK,reduceCtorEq,Nat.reduceEqDiff,Nat.reduceAdd,Nat.reduceLT,Nat.reduceLeDiff,Nat.beq]
 ·intro j x hx sl0
  simp only [yE,List.getElem?_map,Option.map_eq_some_iff] at hx
  obtain ⟨e,he,rfl⟩:=hx
  have hj:=(List.getElem?_eq_some_iff.1 he).1
  have F3:((l.take j).length+1≤lim)=True:=eq_true (by rw [List.length_take];omega)
  have ht:l.take (j+1)=l.take j++[e]:=by rw [List.take_add_one,he];rfl
  rw [ht]
  refine ⟨?_,?_⟩
  rotate_left
  ·simp only [Qd,Qe,F3,dD,List.map_append,List.map_cons,List.map_nil,Qr,bK,reduceCtorEq,Nat.reduceEqDiff,Nat.reduceAdd,Nat.reduceLT,Nat.reduceLeDiff,Nat.beq]
   rfl
theorem akb {g:Nat} {caps:List PV} {l:List fJ} (hi:iter env g caps none=some (yE l)) (hl:l.length≤1000000):cal env 128 [.func g caps]=some [(.list 2 (l.map dD),true)]:=by
 have e1:=aj9 hi hl
 rw [ah ajn rfl];simp only [P8];simp only [start,aN,aT,aJ,aS,aG,aH,aK,aQ,Nat.reduceAdd,Nat.reduceSub]
 simp only [e1,bK,reduceCtorEq,Nat.reduceEqDiff,Nat.reduceAdd,Nat.reduceLT,Nat.reduceLeDiff,Nat.beq]
end Go.Proofs.YtpcncggjmabnaaaGreatDoor.V

namespace Go.Proofs.YtpcncggjmabnaaaGreatDoor.V
def orB (p q:Bool):Bool:=p || q
theorem Zk (l:List fJ) (i:Nat):(sJ l i).length≤l.length+1:=by
 rcases iK l with rfl|⟨p,x,rfl⟩
 ·simp [sJ]
 ·rw [gq];split<;>simp
theorem xE (p:Nat→Bool):∀ n,(ext p n).length≤n
 |0=>Nat.le_refl _
 |n+1=>by
  rw [oL]
  have:=xE p n
  have:=Zk (ext p n) n
  split<;>omega
theorem Zl (keep:Bool→Bool→Bool) (a b:List fJ):(setOf keep a b).length≤4096:=xE _ _
theorem akc {a b:List PV} {kf:Nat}:cal env 129 [.list 2 a,.list 2 b,.func kf []]=some [(.func 133 [.dR [.list 2 a] 0,.dR [.list 2 b] 0,.dR [.func kf []] 0],false)]:=by
 rw [ah ajo rfl];simp only [P9,aB,Nat.reduceBEq,Nat.reduceLeDiff,Nat.reduceAdd,List.length_cons,List.length_nil]
 simp only [ak,Nat.reduceMul,Nat.reduceBEq,Nat.reduceLT,Nat.reduceLeDiff,reduceCtorEq,Nat.reduceEqDiff,Nat.reduceAdd,Nat.beq]
theorem akd (p q:Bool):cal env 130 [.bool p,.bool q]=some [(.bool (orB p q),false)]:=by
 cases p<;>cases q<;>(rw [ah ajp rfl];simp only [Qc,aB,Nat.reduceBEq,Nat.reduceLeDiff,Nat.reduceAdd,List.length_cons,List.length_nil];simp only [ak,Nat.reduceMul,Nat.reduceBEq,Nat.reduceLT,Nat.reduceLeDiff,reduceCtorEq,Nat.reduceEqDiff,Nat.reduceAdd,Nat.beq]<;>rfl)
theorem ake {a b:List fJ} (ha:Hq a) (hb:Hq b) (la:a.length≤10000) (lb:b.length≤10000):cal env 120 [.list 2 (a.map dD),.list 2 (b.map dD)]=some [(.list 2 ((setOf orB a b).map dD),true)]:=by
 have e1:=akc (a:=a.map dD) (b:=b.map dD) (kf:=130)
 have hi:=agS (keep:=orB) rfl (kf:=130) (fun p q=>akd p q) ha hb la lb
 have hlen:=Zl orB a b
 have e2:=akb hi (by omega)
 rw [ah ajj rfl];simp only [P5,aB,Nat.reduceBEq,Nat.reduceLeDiff,Nat.reduceAdd,List.length_cons,List.length_nil]
 simp only [e1,e2,ak,Nat.reduceMul,Nat.reduceBEq,Nat.reduceLT,Nat.reduceLeDiff,reduceCtorEq,Nat.reduceEqDiff,Nat.reduceAdd,Nat.beq]
theorem adx:Hq []:=fun x hx=>by cases hx
def QD (l:List fJ):Int:=(l.map fun x=>x.count).sum
theorem Bo (l:List fJ) (x:fJ):QD (l++[x])=QD l+x.count:=by simp [QD]
theorem Bq (p:Nat→Bool) (n:Nat):(∀ x∈ext p n,0≤x.start∧1≤x.count∧x.start+x.count≤(n:Int)):=by
 induction n with
 |zero=>intro x hx;cases hx
 |succ n ih =>
  rw [oL]
  split
  ·rcases iK (ext p n) with e|⟨pre,y,e⟩
   ·rw [e]
    intro x hx
    have:sJ [] n=[⟨(n:Int),1⟩]:=rfl
    rw [this] at hx
    simp only [List.mem_singleton] at hx
    subst hx
    simp only;omega
   ·rw [e] at ih ⊢
    intro x hx
    rw [gq] at hx
    split at hx
    ·rcases List.mem_append.1 hx with h|h
     ·have:=ih x (by simp [h]);omega
     ·simp only [List.mem_singleton] at h
      have:=ih y (by simp)
      subst h;simp only;omega
    ·rcases List.mem_append.1 hx with h|h
     ·have:=ih x h;omega
     ·simp only [List.mem_singleton] at h
      subst h;simp only;omega
  ·intro x hx;have:=ih x hx;omega
theorem Wi (p:Nat→Bool):∀ n,QD (ext p n)=(((List.range n).filter p).length:Int)
 |0=>rfl
 |n+1=>by
  have ih:=Wi p n
  rw [oL,List.range_succ,List.filter_append,List.length_append]
  cases h:p n with
  |false=>rw [List.filter_cons_of_neg (by simp [h])];simpa using ih
  |true =>
   rw [List.filter_cons_of_pos h,List.filter_nil,if_pos rfl]
   have:QD (sJ (ext p n) n)=QD (ext p n)+1:=by
    rcases iK (ext p n) with e|⟨pre,y,e⟩
    ·rw [e];rfl
    ·rw [e,gq]
     split
     ·rw [Bo,Bo];simp only;omega
     ·rw [Bo]
   rw [this,ih];simp
end Go.Proofs.YtpcncggjmabnaaaGreatDoor.V

namespace Go.Proofs.YtpcncggjmabnaaaGreatDoor.V
theorem MR {size:Int} {e:fJ} (h:oW size e=true) (s:Nat):Ji e s=decide (e.start≤(s:Int)∧(s:Int)<e.start+e.count):=by
 have h:=jB.1 h
 unfold Ji
 rw [Bool.eq_iff_iff]
 simp only [Bool.and_eq_true,decide_eq_true_eq]
 omega
theorem Wj:∀ (l:List fJ) {b:Bm},okB b=true→(∀ e∈l,oW b.size e=true)→frE b l=0∧okB (DJ b l)=true∧(DJ b l).size=b.size∧∀ s:Nat,(s:Int)<b.size→bit (DJ b l).ws s=(bit b.ws s || jQ l s)
 |[],b,h,_=>⟨rfl,h,rfl,fun s _=>by simp [DJ,jQ]⟩
 |e :: l,b,h,hf=>by
  obtain ⟨k1,k2,k3,k4⟩:=adq h (hf e (by simp))
  obtain ⟨g1,g2,g3,g4⟩:=Wj l k2 (fun x hx=>by rw [k3];exact hf x (by simp [hx]))
  refine ⟨?_,g2,g3.trans k3,fun s hs=>?_⟩
  ·unfold frE
   rw [if_pos k1]
   exact g1
  ·have:=g4 s (by rw [k3];exact hs)
   show bit (DJ (ZH orW b e) l).ws s=_
   rw [this,k4 s hs,← MR (hf e (by simp)) s,Bool.or_assoc]
   rfl
end Go.Proofs.YtpcncggjmabnaaaGreatDoor.V

namespace Go.Proofs.YtpcncggjmabnaaaGreatDoor.V
theorem ady (n:Nat):∀ l:List Nat,l.length=n→(exts l).length≤n:=by
 induction n with
 |zero=>intro l hl;rw [List.eq_nil_of_length_eq_zero hl];exact Nat.le_refl _
 |succ n ih =>
  intro l hl
  rcases iK l with rfl|⟨p,j,rfl⟩
  ·simp at hl
  ·have h1:=ih p (by simpa using hl)
   rw [nY]
   rcases iK (exts p) with e|⟨pre,y,e⟩
   ·rw [e];simp [sJ]
   ·rw [e] at h1 ⊢
    rw [gq]
    simp at h1
    split<;>simp<;>omega
def jd (m:List Bool) (n:Nat):List Nat:=(List.range n).filter fun i=>m.getD i false
theorem uP (m:List Bool) (n:Nat):jd m (n+1)=if m.getD n false then jd m n++[n] else jd m n:=by
 unfold jd
 rw [List.range_succ,List.filter_append]
 split
 ·rename_i h;rw [List.filter_cons_of_pos (by simpa using h),List.filter_nil]
 ·rename_i h;rw [List.filter_cons_of_neg (by simpa using h),List.filter_nil,List.append_nil]
theorem adz {m:List Bool} {n i:Nat} (h:i∈jd m n):i<n:=by
 unfold jd at h
 exact List.mem_range.1 (List.mem_filter.1 h).1
theorem adA {m:List Bool} {n i:Nat} (h:i∈jd m n):m.getD i false=true:=by
 unfold jd at h
 exact (List.mem_filter.1 h).2
theorem Jj (m:List Bool) (n:Nat):(jd m n).length≤n:=by
 have:=List.length_filter_le (fun i=>m.getD i false) (List.range n)
 simpa [jd] using this
set_option maxRecDepth 20000 in
theorem agT {m:List Bool} (hl:m.length≤lim) {st:St} (h:st.head [0,3,4,39] st.boxes.length=some ⟨sl 41 [(0,.pv (.list 1 (m.map eB))),(3,.row 2 ((exts (jd m ((0:Nat)))).map dD)),(4,.pv (.int .i64 (0:Nat))),(39,.any)],[],[],none⟩) :
  den env ER st=some (.normal,⟨sl 41 [(2,.any),(3,.row 2 ((exts (jd m m.length)).map dD))],[],[],none⟩):=by
 unfold ER
 refine bC (env:=env) (m.length) (fun i=>⟨sl 41 [(0,.pv (.list 1 (m.map eB))),(3,.row 2 ((exts (jd m (i))).map dD)),(4,.pv (.int .i64 i)),(39,.any)],[],[],none⟩) (fun i=>some (.normal,⟨sl 41 [(2,.any),(3,.row 2 ((exts (jd m m.length)).map dD))],[],[],none⟩)) h (fun _=>rfl) (fun _=>by simp only [aB,bg,Nat.reduceMul,Nat.reduceBEq,Nat.reduceLT,Nat.reduceLeDiff,Nat.reduceAdd,decide_true,Bool.and_self,Bool.true_and]) ?_ ?_
 ·intro i rb hi ih
  have hi1:=bG hi hl
  have hlim:lim=1073741824:=rfl
  have F1:((i:Int)<(m.length:Int))=True:=eq_true (by omega)
  have hx:m[i]?=some m[i]:=List.getElem?_eq_getElem hi
  have hg:m.getD i false=m[i]:=by rw [List.getD_eq_getElem?_getD,hx];rfl
  generalize m[i]=x at *
  cases x with
  |false =>
   simp only [sH,F1,hx,eB,au hi,List.getElem?_map,Option.map_some,List.length_map,ak,Nat.reduceMul,Nat.reduceBEq,Nat.reduceLT,Nat.reduceLeDiff,reduceCtorEq,Nat.reduceEqDiff,Nat.reduceAdd,Nat.beq]
   rw [ih _ (by simp only [hi1,uP,hg,Bool.false_eq_true,if_false,ak,Nat.reduceMul,Nat.reduceBEq,Nat.reduceLT,Nat.reduceLeDiff,reduceCtorEq,Nat.reduceEqDiff,Nat.reduceAdd,Nat.beq]<;>rfl)]
  |true =>
   by_cases hp:0<i∧m.getD (i - 1) false=true
   ·obtain ⟨j,rfl⟩:∃ j,i=j+1:=⟨i - 1,by omega⟩
    rw [Nat.add_sub_cancel] at hp
    have hj:j<m.length:=by omega
    have hjx:m[j]?=some true:=by
     have:=hp.2
     rw [List.getD_eq_getElem?_getD,List.getElem?_eq_getElem hj] at this
     rw [List.getElem?_eq_getElem hj];simpa using this
    have hb1:jd m (j+1)=jd m j++[j]:=by rw [uP,if_pos hp.2]
    have hb2:jd m (j+1+1)=jd m j++[j]++[j+1]:=by rw [uP,if_pos hg,hb1]
    obtain ⟨pre,⟨s,c⟩,e0,h1,h2,h3,h4⟩:=xw _ (jd m j) rfl j
    have hlen:=Jj m j
    simp only at h1 h2 h3
    have G1:(((j+1:Nat):Int) > 0)=True:=eq_true (by omega)
    have G2:IntKind.i64.wrap (((j+1:Nat):Int) - 1)=(j:Int):=by rw [bf (by omega)];omega
    have F3:=Jb (n:=pre.length) (by omega)
    have F5:IntKind.i64.wrap (c+1)=c+1:=bf (by omega)
    have F7:index (.int .i64 (pre.length:Int)) (pre.length+1)=some pre.length:=au (by omega)
    rw [hb1,e0]
    simp only [sH,F1,hx,hjx,eB,G1,G2,au hi,au hj,List.getElem?_map,Option.map_some,List.length_map,List.map_append,List.map_cons,List.map_nil,dD,F3,F5,F7,ak,Nat.reduceMul,Nat.reduceBEq,Nat.reduceLT,Nat.reduceLeDiff,reduceCtorEq,Nat.reduceEqDiff,Nat.reduceAdd,Nat.beq]
    rw [ih _ (by simp only [hi1,hb2,ak,Nat.reduceMul,Nat.reduceBEq,Nat.reduceLT,Nat.reduceLeDiff,reduceCtorEq,Nat.reduceEqDiff,Nat.reduceAdd,Nat.beq];rw [nY,e0,gq,if_pos (by simp only;omega)];simp only [List.map_append,List.map_cons,List.map_nil,dD,ak,Nat.reduceMul,Nat.reduceBEq,Nat.reduceLT,Nat.reduceLeDiff,reduceCtorEq,Nat.reduceEqDiff,Nat.reduceAdd,Nat.beq]<;>rfl)]
   ·have hnew:exts (jd m (i+1))=exts (jd m i)++[⟨(i:Int),1⟩]:=by
     rw [uP,if_pos hg,nY]
     rcases iK (jd m i) with h0|⟨p,j,h0⟩
     ·rw [h0];rfl
     ·obtain ⟨pre,⟨s,c⟩,e0,h1,h2,h3,h4⟩:=xw _ p rfl j
      have hmem:j∈jd m i:=by rw [h0];simp
      have hji:=adz hmem
      have hjt:=adA hmem
      simp only at h1
      rw [h0,e0,gq,if_neg]
      intro h
      simp only at h
      have:j=i - 1:=by omega
      rw [this] at hjt
      exact hp ⟨by omega,hjt⟩
    have hlen:(exts (jd m i)).length≤i:=Nat.le_trans (ady _ _ rfl) (Jj m i)
    have F6:((exts (jd m i)).length+1≤lim)=True:=eq_true (by omega)
    by_cases h0:0<i
    ·obtain ⟨j,rfl⟩:∃ j,i=j+1:=⟨i - 1,by omega⟩
     have hj:j<m.length:=by omega
     have hjx:m[j]?=some false:=by
      have h2:¬ m.getD j false=true:=fun h=>hp ⟨h0,by rw [Nat.add_sub_cancel];exact h⟩
      rw [List.getD_eq_getElem?_getD,List.getElem?_eq_getElem hj] at h2
      rw [List.getElem?_eq_getElem hj];simpa using h2
     have G1:(((j+1:Nat):Int) > 0)=True:=eq_true (by omega)
     have G2:IntKind.i64.wrap (((j+1:Nat):Int) - 1)=(j:Int):=by rw [bf (by omega)];omega
     simp only [sH,F1,hx,hjx,eB,G1,G2,F6,au hi,au hj,List.getElem?_map,Option.map_some,List.length_map,ak,Nat.reduceMul,Nat.reduceBEq,Nat.reduceLT,Nat.reduceLeDiff,reduceCtorEq,Nat.reduceEqDiff,Nat.reduceAdd,Nat.beq]
     rw [ih _ (by simp only [hi1,hnew,List.map_append,List.map_cons,List.map_nil,dD,ak,Nat.reduceMul,Nat.reduceBEq,Nat.reduceLT,Nat.reduceLeDiff,reduceCtorEq,Nat.reduceEqDiff,Nat.reduceAdd,Nat.beq]<;>rfl)]
    ·obtain rfl:i=0:=by omega
     have G1:(((0:Nat):Int) > 0)=False:=eq_false (by omega)
     simp only [sH,F1,hx,eB,G1,F6,au hi,List.getElem?_map,Option.map_some,List.length_map,ak,Nat.reduceMul,Nat.reduceBEq,Nat.reduceLT,Nat.reduceLeDiff,reduceCtorEq,Nat.reduceEqDiff,Nat.reduceAdd,Nat.beq]
     rw [ih _ (by simp only [hi1,hnew,List.map_append,List.map_cons,List.map_nil,dD,ak,Nat.reduceMul,Nat.reduceBEq,Nat.reduceLT,Nat.reduceLeDiff,reduceCtorEq,Nat.reduceEqDiff,Nat.reduceAdd,Nat.beq]<;>rfl)]
 ·intro rb
  simp only [sH,Int.lt_irrefl,List.length_map,ak,Nat.reduceMul,Nat.reduceBEq,Nat.reduceLT,Nat.reduceLeDiff,reduceCtorEq,Nat.reduceEqDiff,Nat.reduceAdd,Nat.beq]
theorem akf {m:List Bool} (hl:m.length≤lim):cal env 116 [.list 1 (m.map eB)]=some [(.list 2 ((exts (jd m m.length)).map dD),true)]:=by
 rw [ah ajh rfl];simp only [PY,aB,Nat.reduceBEq,Nat.reduceLeDiff,Nat.reduceAdd,List.length_cons,List.length_nil]
 simp only [ak,Nat.reduceMul,Nat.reduceBEq,Nat.reduceLT,Nat.reduceLeDiff,reduceCtorEq,Nat.reduceEqDiff,Nat.reduceAdd,Nat.beq]
 rw [agT hl (by simp only [aB,bg,Nat.reduceMul,Nat.reduceBEq,Nat.reduceLT,Nat.reduceLeDiff,Nat.reduceAdd,decide_true,Bool.and_self,Bool.true_and]<;>rfl)]
 simp only [ak,Nat.reduceMul,Nat.reduceBEq,Nat.reduceLT,Nat.reduceLeDiff,reduceCtorEq,Nat.reduceEqDiff,Nat.reduceAdd,Nat.beq]
end Go.Proofs.YtpcncggjmabnaaaGreatDoor.V

namespace Go.Proofs.YtpcncggjmabnaaaGreatDoor.V
def mk (f:Nat→Bool):List Bool:=(List.range 4096).map f
theorem yJ (f:Nat→Bool):(mk f).length=4096:=by simp [mk]
theorem UQ {f:Nat→Bool} {i:Nat} (h:i<4096):(mk f)[i]?=some (f i):=by
 unfold mk
 rw [List.getElem?_map,List.getElem?_range h];rfl
theorem mk_congr {f g:Nat→Bool} (h:∀ s,s<4096→f s=g s):mk f=mk g:=by
 unfold mk
 exact List.map_congr_left fun s hs=>h s (List.mem_range.1 hs)
theorem adB {l:List Bool} {f:Nat→Bool} (hl:l.length=4096) (h:∀ i,i<4096→l[i]?=some (f i)):l=mk f:=by
 apply List.ext_getElem?
 intro i
 by_cases hi:i<4096
 ·rw [h i hi,UQ hi]
 ·rw [List.getElem?_eq_none (by omega),List.getElem?_eq_none (by rw [yJ];omega)]
theorem adC:List.replicate 4096 false=mk fun _=>false:=adB List.length_replicate fun i hi=>by rw [List.getElem?_replicate,if_pos hi]
theorem agU (s c:Int) (f:Nat→Bool):zD s c (mk f)=mk fun t=>f t || inX s c t:=by
 refine adB (by simp [zD,yJ]) fun i hi=>?_
 unfold zD
 rw [List.getElem?_mapIdx,UQ hi];rfl
theorem agV (f:Nat→Bool):exts (jd (mk f) (mk f).length)=ext f 4096:=by
 rw [yJ]
 unfold ext jd
 rw [List.filter_congr]
 intro i hi
 rw [List.getD_eq_getElem?_getD,UQ (List.mem_range.1 hi)];rfl
theorem zU (l:List fJ) (e:fJ) (s:Nat):jQ (l++[e]) s=(jQ l s || Ji e s):=by simp [jQ]
end Go.Proofs.YtpcncggjmabnaaaGreatDoor.V

namespace Go.Proofs.YtpcncggjmabnaaaGreatDoor.V
theorem agW {f:Nat→Bool}:cal env 116 [.list 1 ((mk f).map eB)]=some [(.list 2 ((ext f 4096).map dD),true)]:=by
 have e:=akf (m:=mk f) (by rw [yJ];unfold lim;decide)
 rw [agV] at e
 exact e
end Go.Proofs.YtpcncggjmabnaaaGreatDoor.V

namespace Go.Proofs.YtpcncggjmabnaaaGreatDoor.V
end Go.Proofs.YtpcncggjmabnaaaGreatDoor.V

namespace Go.Proofs.YtpcncggjmabnaaaGreatDoor.V
end Go.Proofs.YtpcncggjmabnaaaGreatDoor.V

namespace Go.Proofs.YtpcncggjmabnaaaGreatDoor.V
end Go.Proofs.YtpcncggjmabnaaaGreatDoor.V

namespace Go.Proofs.YtpcncggjmabnaaaGreatDoor.V
end Go.Proofs.YtpcncggjmabnaaaGreatDoor.V

namespace Go.Proofs.YtpcncggjmabnaaaGreatDoor.V
end Go.Proofs.YtpcncggjmabnaaaGreatDoor.V

namespace Go.Proofs.YtpcncggjmabnaaaGreatDoor.V
theorem agX {l:List fJ} {n:Nat} (h:∀ x∈l,0≤x.start∧1≤x.count∧x.start+x.count≤(n:Int)) (s:Nat):jQ (sJ l n) s=(jQ l s || decide (s=n)):=by
 rcases iK l with e|⟨pre,y,e⟩
 ·subst e
  show jQ [⟨(n:Int),1⟩] s=_
  rw [Bool.eq_iff_iff]
  simp [jQ,Ji];omega
 ·subst e
  have hy:=h y (by simp)
  rw [gq]
  split
  ·rw [zU,zU,Bool.or_assoc]
   congr 1
   rw [Bool.eq_iff_iff]
   simp [Ji];omega
  ·rw [zU (pre++[y])]
   congr 1
   rw [Bool.eq_iff_iff]
   simp [Ji];omega
theorem zV (p:Nat→Bool) (s:Nat):∀ n,jQ (ext p n) s=(decide (s<n)&&p s)
 |0=>by simp [Qs,jQ]
 |n+1=>by
  rw [oL]
  by_cases h:p n=true
  ·rw [if_pos h,agX (Bq p n),zV p s n]
   by_cases h2:s=n
   ·subst h2;rw [h];simp
   ·rw [decide_eq_false h2,Bool.or_false]
    congr 1
    rw [Bool.eq_iff_iff];simp;omega
  ·rw [if_neg h,zV p s n]
   by_cases h2:s=n
   ·subst h2;simp [h]
   ·congr 1
    rw [Bool.eq_iff_iff];simp;omega
end Go.Proofs.YtpcncggjmabnaaaGreatDoor.V

namespace Go.Proofs.YtpcncggjmabnaaaGreatDoor.V
def nG (v:Int) (l:List bP):List fJ:=(l.filter fun w=>decide (w.volume=v)).map fun w=>⟨w.start,(w.data.length:Int)⟩
theorem adD (v:Int) (l:List bP) (w:bP):nG v (l++[w])=if w.volume=v then nG v l++[⟨w.start,(w.data.length:Int)⟩] else nG v l:=by
 unfold nG
 rw [List.filter_append]
 by_cases h:w.volume=v
 ·rw [if_pos h];simp [h]
 ·rw [if_neg h];simp [h]
theorem QE {v:Int} {l:List bP} {i:Nat} (h:i<l.length):nG v (l.take (i+1))=if l[i].volume=v then nG v (l.take i)++[⟨l[i].start,(l[i].data.length:Int)⟩] else nG v (l.take i):=by
 rw [List.take_succ_eq_append_getElem h,adD]
theorem Wn (v:Int) (l:List bP):(nG v l).length≤l.length:=by
 unfold nG;rw [List.length_map];exact List.length_filter_le _ _
theorem DK {v:Int} {l:List bP} {e:fJ} (h:e∈nG v l):∃ w∈l,w.volume=v∧e=⟨w.start,(w.data.length:Int)⟩:=by
 unfold nG at h
 obtain ⟨w,hw,e1⟩:=List.mem_map.1 h
 rw [List.mem_filter] at hw
 exact ⟨w,hw.1,by simpa using hw.2,e1.symm⟩
def lG (v:Int) (l:List bP):List fJ:=setOf orB (nG v l) []
theorem agY {l:List bP} {v:Int} (hl:l.length≤10000) {st:St} (h:st.head [0,1,5,8,9,10,26] st.boxes.length=some ⟨sl 30 [(0,.pv (.list 3 (l.map dZ))),(1,.pv (.int .i64 v)),(5,.row 2 ((nG v (l.take ((0:Nat)))).map dD)),(8,.pv (.list 3 (l.map dZ))),(9,.pv (.int .i64 l.length)),(10,.pv (.int .i64 (0:Nat))),(26,.any)],[],[],none⟩) :
  den env EN st=some (.normal,⟨sl 30 [(4,.any),(5,.row 2 ((nG v l).map dD))],[],[],none⟩):=by
 unfold EN
 refine bC (env:=env) (l.length) (fun i=>⟨sl 30 [(0,.pv (.list 3 (l.map dZ))),(1,.pv (.int .i64 v)),(5,.row 2 ((nG v (l.take (i))).map dD)),(8,.pv (.list 3 (l.map dZ))),(9,.pv (.int .i64 l.length)),(10,.pv (.int .i64 i)),(26,.any)],[],[],none⟩) (fun i=>some (.normal,⟨sl 30 [(4,.any),(5,.row 2 ((nG v l).map dD))],[],[],none⟩)) h (fun _=>rfl) (fun _=>by simp only [aB,bg,Nat.reduceMul,Nat.reduceBEq,Nat.reduceLT,Nat.reduceLeDiff,Nat.reduceAdd,decide_true,Bool.and_self,Bool.true_and]) ?_ ?_
 ·intro i rb hi ih
  have hi1:=bG hi (by unfold lim;omega)
  have F1:((i:Int)<(l.length:Int))=True:=eq_true (by omega)
  have hx:=uK hi
  have hh:=QE (v:=v) hi
  by_cases c:l[i].volume=v
  ·have G:(l[i].volume==v)=true:=by simp [c]
   have F5:((nG v (l.take i)).length+1≤lim)=True:=eq_true (by have:=Wn v (l.take i);rw [List.length_take] at this;unfold lim;omega)
   rw [if_pos c] at hh
   have hs:(nG v (l.take (i+1))).map dD=(nG v (l.take i)).map dD++[.agg [.int .i64 l[i].start,.int .i64 (l[i].data.length:Int)]]:=by rw [hh,List.map_append];rfl
   rw [hs] at ih
   simp only [zL,F1,F5,G,hx,jA,au hi,List.length_map,ak,Nat.reduceMul,Nat.reduceBEq,Nat.reduceLT,Nat.reduceLeDiff,reduceCtorEq,Nat.reduceEqDiff,Nat.reduceAdd,Nat.beq] at *
   rw [ih _ (by simp only [hi1,ak,Nat.reduceMul,Nat.reduceBEq,Nat.reduceLT,Nat.reduceLeDiff,reduceCtorEq,Nat.reduceEqDiff,Nat.reduceAdd,Nat.beq]<;>rfl)]
  ·have G:(l[i].volume==v)=false:=by simp [c]
   rw [if_neg c] at hh
   rw [hh] at ih
   simp only [zL,F1,G,hx,jA,au hi,List.length_map,ak,Nat.reduceMul,Nat.reduceBEq,Nat.reduceLT,Nat.reduceLeDiff,reduceCtorEq,Nat.reduceEqDiff,Nat.reduceAdd,Nat.beq] at *
   rw [ih _ (by simp only [hi1,ak,Nat.reduceMul,Nat.reduceBEq,Nat.reduceLT,Nat.reduceLeDiff,reduceCtorEq,Nat.reduceEqDiff,Nat.reduceAdd,Nat.beq]<;>rfl)]
 ·intro rb
  rw [List.take_length]
  simp only [zL,Int.lt_irrefl,List.length_map,ak,Nat.reduceMul,Nat.reduceBEq,Nat.reduceLT,Nat.reduceLeDiff,reduceCtorEq,Nat.reduceEqDiff,Nat.reduceAdd,Nat.beq]
theorem akg {l:List bP} {v:Int} (hl:l.length≤10000) (ho:Hq (nG v l)):cal env 107 [.list 3 (l.map dZ),.int .i64 v]=some [(.list 2 ((lG v l).map dD),true)]:=by
 have e1:=ake (a:=nG v l) (b:=[]) ho adx (by have:=Wn v l;omega) (by simp)
 simp only [List.map_nil] at e1
 unfold lG
 rw [ah aja rfl];simp only [PN,aB,Nat.reduceBEq,Nat.reduceLeDiff,Nat.reduceAdd,List.length_cons,List.length_nil]
 simp only [e1,List.length_map,ak,Nat.reduceMul,Nat.reduceBEq,Nat.reduceLT,Nat.reduceLeDiff,reduceCtorEq,Nat.reduceEqDiff,Nat.reduceAdd,Nat.beq]
 rw [agY hl (by simp only [aB,bg,Nat.reduceMul,Nat.reduceBEq,Nat.reduceLT,Nat.reduceLeDiff,Nat.reduceAdd,decide_true,Bool.and_self,Bool.true_and]<;>rfl)]
 simp only [e1,List.length_map,ak,Nat.reduceMul,Nat.reduceBEq,Nat.reduceLT,Nat.reduceLeDiff,reduceCtorEq,Nat.reduceEqDiff,Nat.reduceAdd,Nat.beq]
theorem DL {v:Int} {l:List bP} {n:Int} (hn:0≤n∧n≤4096) (h:∀ e∈nG v l,oW n e=true):(∀ e∈lG v l,oW n e=true)∧∀ s:Nat,jQ (lG v l) s=jQ (nG v l) s:=by
 have h0:∀ s:Nat,n≤(s:Int)→jQ (nG v l) s=false:=fun s hs=>by
  unfold jQ
  rw [List.any_eq_false]
  intro e he
  have:=jB.1 (h e he)
  rw [MR (h e he) s]
  simp
  omega
 have e1:lG v l=ext (fun s=>jQ (nG v l) s) n.toNat:=by
  unfold lG setOf
  have:(fun s=>orB (jQ (nG v l) s) (jQ [] s))=fun s=>jQ (nG v l) s:=by
   funext s
   simp [orB,jQ]
  rw [this]
  have hk:=pV (p:=fun s=>jQ (nG v l) s) (a:=n.toNat) (4096 - n.toNat) (fun s h1 _=>h0 s (by omega))
  rw [show n.toNat+(4096 - n.toNat)=4096 by omega] at hk
  exact hk
 rw [e1]
 refine ⟨fun e he=>?_,fun s=>?_⟩
 ·have:=Bq _ _ e he
  exact jB.2 (by omega)
 ·rw [zV]
  by_cases c:s<n.toNat
  ·rw [decide_eq_true c,Bool.true_and]
  ·rw [decide_eq_false c,Bool.false_and,h0 s (by omega)]
theorem adE {n:Int} (hn:0≤n∧n≤4096) {l:List fJ} (h:∀ e∈l,oW n e=true):Hq l:=fun e he=>by
 have:=jB.1 (h e he)
 exact ⟨by omega,by omega⟩
theorem MS (v:Int) (l:List bP):(lG v l).length≤4096:=xE _ _
attribute [irreducible] lG
end Go.Proofs.YtpcncggjmabnaaaGreatDoor.V

namespace Go.Proofs.YtpcncggjmabnaaaGreatDoor.V
def Gy {α:Type} (g:Nat→α→α) (l:List α) (i:Nat):List α:=l.mapIdx fun v b=>if v<i then g v b else b
theorem zW {α:Type} (g:Nat→α→α) (l:List α) (i:Nat):(Gy g l i).length=l.length:=by simp [Gy]
theorem akh {α:Type} (g:Nat→α→α) {l:List α} {i:Nat} (h:i<l.length):(Gy g l i)[i]?=some l[i]:=by
 simp [Gy,List.getElem?_mapIdx,List.getElem?_eq_getElem h]
theorem adF {α:Type} (g:Nat→α→α) (l:List α):Gy g l 0=l:=by
 apply List.ext_getElem
 ·exact zW _ _ _
 ·intro n h1 h2;simp [Gy]
theorem adG {α:Type} (g:Nat→α→α) {l:List α} {i:Nat} (h:i<l.length):(Gy g l i).set i (g i l[i])=Gy g l (i+1):=by
 apply List.ext_getElem
 ·simp [Gy]
 ·intro n h1 h2
  rw [List.getElem_set]
  simp only [Gy,List.getElem_mapIdx]
  by_cases c:i=n
  ·subst c;simp
  ·rw [if_neg c]
   by_cases c2:n<i
   ·rw [if_pos c2,if_pos (by omega)]
   ·rw [if_neg c2,if_neg (by omega)]
theorem agZ {α:Type} (g:Nat→α→α) (l:List α):Gy g l l.length=l.mapIdx g:=by
 apply List.ext_getElem
 ·simp [Gy]
 ·intro n h1 h2
  simp only [Gy,List.getElem_mapIdx]
  rw [if_pos (by simpa using h2)]
def Wp (ws:List bP) (v:Nat) (b:Bm):Bm:=DJ b (lG (v:Int) ws)
def Gz (ws:List bP) (l:List Bm):List Bm:=l.mapIdx (Wp ws)
def Wq (ws:List bP) (l:List Bm) (v k:Nat) (b:Bm):List Bm:=(Gy (Wp ws) l v).set v (DJ b ((lG (v:Int) ws).take k))
def QF (ws:List bP) (l:List Bm):Prop:=∀ v (h:v<l.length),okB l[v]=true∧∀ e∈nG (v:Int) ws,oW l[v].size e=true
theorem adH {ws:List bP} {l:List Bm} (hf:QF ws l) {v:Nat} (h:v<l.length) {k:Nat} (hk:k<(lG (v:Int) ws).length):UO (DJ l[v] ((lG (v:Int) ws).take k)) (lG (v:Int) ws)[k]=0∧ZH orW (DJ l[v] ((lG (v:Int) ws).take k)) (lG (v:Int) ws)[k]=DJ l[v] ((lG (v:Int) ws).take (k+1)):=by
 obtain ⟨h1,h2⟩:=hf v h
 have hs:=jy h1
 obtain ⟨h3,_⟩:=DL ⟨hs.1,hs.2.1⟩ h2
 obtain ⟨g1,g2,g3,g4⟩:=Wj ((lG (v:Int) ws).take k) h1 (fun e he=>h3 e (List.mem_of_mem_take he))
 obtain ⟨k1,_⟩:=adq g2 (e:=(lG (v:Int) ws)[k]) (by rw [g3];exact h3 _ (List.getElem_mem hk))
 refine ⟨k1,?_⟩
 unfold DJ
 rw [List.take_succ_eq_append_getElem hk,List.foldl_append]
 rfl
theorem sQ {l:List fJ} {i:Nat} (h:i<l.length):(l.map dD)[i]?=some (.agg [.int .i64 l[i].start,.int .i64 l[i].count]):=by rw [List.getElem?_map,List.getElem?_eq_getElem h];rfl
theorem aki (ws:List bP) {l:List Bm} {v:Nat} (h:v<l.length) (k:Nat) (b:Bm):((Wq ws l v k b).map iW)[v]?=some (.agg [.int .i64 (DJ b ((lG (v:Int) ws).take k)).size,.list 1 ((DJ b ((lG (v:Int) ws).take k)).ws.map eW)]):=by
 unfold Wq
 rw [List.getElem?_map,List.getElem?_set_self (by rw [zW];exact h)]
 rfl
theorem ag0 (ws:List bP) (l:List Bm) (v k k2:Nat) (b:Bm):((Wq ws l v k b).map iW).set v (.agg [.int .i64 (DJ b ((lG (v:Int) ws).take k2)).size,.list 1 ((DJ b ((lG (v:Int) ws).take k2)).ws.map eW)])=(Wq ws l v k2 b).map iW:=by
 unfold Wq
 rw [List.map_set,List.set_set,List.map_set]
 rfl
theorem adI (ws:List bP) {l:List Bm} {v:Nat} (h:v<l.length):Wq ws l v 0 l[v]=Gy (Wp ws) l v:=by
 unfold Wq
 rw [List.take_zero]
 have:(Gy (Wp ws) l v)[v]'(by rw [zW];exact h)=l[v]:=by
  have:=akh (Wp ws) h
  rw [List.getElem?_eq_getElem (by rw [zW];exact h)] at this
  exact Option.some.inj this
 show (Gy (Wp ws) l v).set v l[v]=_
 rw [← this]
 exact List.set_getElem_self _
theorem ag1 (ws:List bP) {l:List Bm} {v:Nat} (h:v<l.length):Wq ws l v (lG (v:Int) ws).length l[v]=Gy (Wp ws) l (v+1):=by
 unfold Wq
 rw [List.take_length,← adG (Wp ws) h]
 rfl
theorem Ws (ws:List bP) (l:List Bm) (v k:Nat) (b:Bm):(Wq ws l v k b).length=l.length:=by simp [Wq,zW]
theorem akj {c:jk} {l:List Bm} {v:Nat} (hv:v<l.length) (hl:l.length≤1000) (hf:QF c.ws l) {st:St} (h:st.head [0,3,6,12,13,19,20,21] st.boxes.length=some ⟨sl 44 [(0,.row 2 ((Wq c.ws l v ((0:Nat)) l[v]).map iW)),(3,.aI 0 0),(6,.pv (.int .i64 v)),(12,.pv (.int .i64 l.length)),(13,.pv (.int .i64 v)),(19,.row 2 ((lG (v:Int) c.ws).map dD)),(20,.pv (.int .i64 (lG (v:Int) c.ws).length)),(21,.pv (.int .i64 (0:Nat)))],[⟨false,rP c⟩],[],none⟩) :
  den env LM st=some (.normal,⟨sl 44 [(0,.row 2 ((Gy (Wp c.ws) l (v+1)).map iW)),(3,.aI 0 0),(4,.any),(5,.any),(12,.pv (.int .i64 l.length)),(13,.pv (.int .i64 v))],[⟨false,rP c⟩],[],none⟩):=by
 unfold LM
 refine bC (env:=env) ((lG (v:Int) c.ws).length) (fun i=>⟨sl 44 [(0,.row 2 ((Wq c.ws l v (i) l[v]).map iW)),(3,.aI 0 0),(6,.pv (.int .i64 v)),(12,.pv (.int .i64 l.length)),(13,.pv (.int .i64 v)),(19,.row 2 ((lG (v:Int) c.ws).map dD)),(20,.pv (.int .i64 (lG (v:Int) c.ws).length)),(21,.pv (.int .i64 i))],[⟨false,rP c⟩],[],none⟩) (fun i=>some (.normal,⟨sl 44 [(0,.row 2 ((Gy (Wp c.ws) l (v+1)).map iW)),(3,.aI 0 0),(4,.any),(5,.any),(12,.pv (.int .i64 l.length)),(13,.pv (.int .i64 v))],[⟨false,rP c⟩],[],none⟩)) h (fun _=>rfl) (fun _=>by simp only [aB,bg,Nat.reduceMul,Nat.reduceBEq,Nat.reduceLT,Nat.reduceLeDiff,Nat.reduceAdd,decide_true,Bool.and_self,Bool.true_and]) ?_ ?_
 ·intro i rb hi ih
  have hl2:(lG (v:Int) c.ws).length≤4096:=MS _ _
  have hi1:=bG hi (by unfold lim;omega)
  have F1:((i:Int)<((lG (v:Int) c.ws).length:Int))=True:=eq_true (by omega)
  have hx:=sQ (l:=lG (v:Int) c.ws) (i:=i) hi
  have hy:=aki c.ws hv i l[v]
  have hs:=ag0 c.ws l v i (i+1) l[v]
  obtain ⟨k1,k2⟩:=adH hf hv hi
  have e1:=aj1 (b:=DJ l[v] ((lG (v:Int) c.ws).take i)) (e:=(lG (v:Int) c.ws)[i])
  rw [k1,k2,show iW (DJ l[v] ((lG (v:Int) c.ws).take i))=.agg [.int .i64 (DJ l[v] ((lG (v:Int) c.ws).take i)).size,.list 1 ((DJ l[v] ((lG (v:Int) c.ws).take i)).ws.map eW)] from rfl,show iW (DJ l[v] ((lG (v:Int) c.ws).take (i+1)))=.agg [.int .i64 (DJ l[v] ((lG (v:Int) c.ws).take (i+1))).size,.list 1 ((DJ l[v] ((lG (v:Int) c.ws).take (i+1))).ws.map eW)] from rfl,show dD (lG (v:Int) c.ws)[i]=.agg [.int .i64 (lG (v:Int) c.ws)[i].start,.int .i64 (lG (v:Int) c.ws)[i].count] from rfl] at e1
  have Z:((0:Int) != 0)=false:=rfl
  have hvl:v<(Wq c.ws l v i l[v]).length:=by rw [Ws];exact hv
  simp only [LK,F1,e1,Z,hx,hy,hs,sN,eU,au hi,Ws,au hv,List.length_map,ak,Nat.reduceMul,Nat.reduceBEq,Nat.reduceLT,Nat.reduceLeDiff,reduceCtorEq,Nat.reduceEqDiff,Nat.reduceAdd,Nat.beq]
  rw [ih _ (by simp only [hi1,eU,ak,Nat.reduceMul,Nat.reduceBEq,Nat.reduceLT,Nat.reduceLeDiff,reduceCtorEq,Nat.reduceEqDiff,Nat.reduceAdd,Nat.beq]<;>rfl)]
  rfl
 ·intro rb
  rw [ag1 c.ws hv]
  simp only [LK,Int.lt_irrefl,eU,List.length_map,ak,Nat.reduceMul,Nat.reduceBEq,Nat.reduceLT,Nat.reduceLeDiff,reduceCtorEq,Nat.reduceEqDiff,Nat.reduceAdd,Nat.beq]
theorem adJ {c:jk} {l:List Bm} (ho:Bf c) (hl:l.length≤1000) (hf:QF c.ws l) {st:St} (h:st.head [0,3,12,13] st.boxes.length=some ⟨sl 44 [(0,.row 2 ((Gy (Wp c.ws) l ((0:Nat))).map iW)),(3,.aI 0 0),(12,.pv (.int .i64 l.length)),(13,.pv (.int .i64 (0:Nat)))],[⟨false,rP c⟩],[],none⟩) :
  den env LQ st=some (.normal,⟨sl 44 [(0,.row 2 ((Gz c.ws l).map iW)),(4,.any),(5,.any)],[⟨false,rP c⟩],[],none⟩):=by
 unfold LQ
 refine bC (env:=env) (l.length) (fun i=>⟨sl 44 [(0,.row 2 ((Gy (Wp c.ws) l (i)).map iW)),(3,.aI 0 0),(12,.pv (.int .i64 l.length)),(13,.pv (.int .i64 i))],[⟨false,rP c⟩],[],none⟩) (fun i=>some (.normal,⟨sl 44 [(0,.row 2 ((Gz c.ws l).map iW)),(4,.any),(5,.any)],[⟨false,rP c⟩],[],none⟩)) h (fun _=>rfl) (fun _=>by simp only [aB,bg,Nat.reduceMul,Nat.reduceBEq,Nat.reduceLT,Nat.reduceLeDiff,Nat.reduceAdd,decide_true,Bool.and_self,Bool.true_and]) ?_ ?_
 ·intro i rb hi ih
  have hi1:=bG hi (by unfold lim;omega)
  have F1:((i:Int)<(l.length:Int))=True:=eq_true (by omega)
  obtain ⟨h1,h2⟩:=hf i hi
  have h3:=jy h1
  have e1:=akg (l:=c.ws) (v:=(i:Int)) ho.2.1 (adE ⟨h3.1,h3.2.1⟩ h2)
  have hz:=adI c.ws hi
  simp only [LP,F1,e1,eU,List.length_map,ak,Nat.reduceMul,Nat.reduceBEq,Nat.reduceLT,Nat.reduceLeDiff,reduceCtorEq,Nat.reduceEqDiff,Nat.reduceAdd,Nat.beq]
  rw [akj (c:=c) (l:=l) (v:=i) hi hl hf (by simp only [hz,eU];simp only [aB,bg,Nat.reduceMul,Nat.reduceBEq,Nat.reduceLT,Nat.reduceLeDiff,Nat.reduceAdd,decide_true,Bool.and_self,Bool.true_and]<;>rfl)]
  simp only [eU,ak,Nat.reduceMul,Nat.reduceBEq,Nat.reduceLT,Nat.reduceLeDiff,reduceCtorEq,Nat.reduceEqDiff,Nat.reduceAdd,Nat.beq]
  rw [ih _ (by simp only [hi1,eU,ak,Nat.reduceMul,Nat.reduceBEq,Nat.reduceLT,Nat.reduceLeDiff,reduceCtorEq,Nat.reduceEqDiff,Nat.reduceAdd,Nat.beq]<;>rfl)]
  rfl
 ·intro rb
  rw [agZ,show l.mapIdx (Wp c.ws)=Gz c.ws l from rfl]
  simp only [LP,Int.lt_irrefl,eU,List.length_map,ak,Nat.reduceMul,Nat.reduceBEq,Nat.reduceLT,Nat.reduceLeDiff,reduceCtorEq,Nat.reduceEqDiff,Nat.reduceAdd,Nat.beq]
theorem amU {c:jk} {l:List Bm} (ho:Bf c) (hl:l.length≤1000) (hf:QF c.ws l):OT env 76 (.row 2 (l.map iW)) [eP c]=some ([(.list 2 ((Gz c.ws l).map iW),true),(.int .i64 0,false)],none):=by
 rw [xk amb rfl,jU]
 simp only [ab3,aB,Nat.reduceBEq,Nat.reduceLeDiff,Nat.reduceAdd,List.length_cons,List.length_nil]
 simp only [List.length_map,ak,Nat.reduceMul,Nat.reduceBEq,Nat.reduceLT,Nat.reduceLeDiff,reduceCtorEq,Nat.reduceEqDiff,Nat.reduceAdd,Nat.beq]
 rw [adJ (c:=c) (l:=l) ho hl hf (by simp only [adF,eU];simp only [aB,bg,Nat.reduceMul,Nat.reduceBEq,Nat.reduceLT,Nat.reduceLeDiff,Nat.reduceAdd,decide_true,Bool.and_self,Bool.true_and]<;>rfl)]
 simp only [eU,ak,Nat.reduceMul,Nat.reduceBEq,Nat.reduceLT,Nat.reduceLeDiff,reduceCtorEq,Nat.reduceEqDiff,Nat.reduceAdd,Nat.beq]
end Go.Proofs.YtpcncggjmabnaaaGreatDoor.V

namespace Go.Proofs.YtpcncggjmabnaaaGreatDoor.V
def Wu (z:List Int) (l:List Bm):Prop:=l.length=z.length∧∀ v (h:v<l.length),okB l[v]=true∧l[v].size=z.getD v 0
def ny (z:List Int) (ws:List bP):Prop:=∀ v,v<z.length→∀ e∈nG (v:Int) ws,oW (z.getD v 0) e=true
theorem UR {z:List Int} {l:List Bm} {ws:List bP} (h:Wu z l) (hw:ny z ws):QF ws l:=fun v hv=>by
 obtain ⟨h1,h2⟩:=h.2 v hv
 refine ⟨h1,fun e he=>?_⟩
 rw [h2]
 exact hw v (by rw [← h.1];exact hv) e he
theorem adK {z:List Int} {l:List Bm} {ws:List bP} (h:Wu z l) (hw:ny z ws):Wu z (Gz ws l):=by
 refine ⟨by unfold Gz;rw [List.length_mapIdx];exact h.1,fun v hv=>?_⟩
 have hv':v<l.length:=by unfold Gz at hv;rw [List.length_mapIdx] at hv;exact hv
 obtain ⟨h1,h2⟩:=h.2 v hv'
 have h3:=jy h1
 obtain ⟨_,k1⟩:=UR h hw v hv'
 obtain ⟨g1,g2,g3,g4⟩:=Wj (lG (v:Int) ws) h1 (DL ⟨h3.1,h3.2.1⟩ k1).1
 have e1:(Gz ws l)[v]=DJ l[v] (lG (v:Int) ws):=by simp [Gz,Wp]
 rw [e1]
 exact ⟨g2,g3.trans h2⟩
def zX (l:List Bm) (cs:List jk):List Bm:=cs.foldl (fun d c=>Gz c.ws d) l
theorem Zm (l:List Bm) {cs:List jk} {i:Nat} (h:i<cs.length):zX l (cs.take (i+1))=Gz cs[i].ws (zX l (cs.take i)):=by
 unfold zX
 rw [List.take_succ_eq_append_getElem h,List.foldl_append]
 rfl
theorem UU {z:List Int}:∀ {cs:List jk} {l:List Bm},Wu z l→(∀ c∈cs,ny z c.ws)→Wu z (zX l cs)
 |[],l,h,_=>h
 |c :: cs,l,h,hw=>UU (cs:=cs) (l:=Gz c.ws l) (adK h (hw c (by simp))) (fun x hx=>hw x (by simp [hx]))
theorem akk {z:List Int} {cs:List jk} {dt:List Bm} (hc:∀ c∈cs,Bf c∧ny z c.ws) (hz:z.length≤1000) (hd:Wu z dt) (hl:cs.length≤10000) {x0 x1 x2 x3 x4 x5:BV} {st:St} (h:st.head [1,2,4,9,10,11] st.boxes.length=some ⟨sl 29 [(1,.pv (.list 5 (cs.map eP))),(2,.aI 0 0),(4,.aI 1 0),(9,.pv (.list 5 (cs.map eP))),(10,.pv (.int .i64 cs.length)),(11,.pv (.int .i64 (0:Nat)))],[⟨false,[x0,x1,x2,x3,x4,x5,.row 2 ((zX dt (cs.take ((0:Nat)))).map iW)]⟩,⟨false,Ho⟩],[],none⟩) :
  den env LJ st=some (.normal,⟨sl 29 [(2,.aI 0 0),(4,.aI 1 0),(5,.any)],[⟨false,[x0,x1,x2,x3,x4,x5,.row 2 ((zX dt cs).map iW)]⟩,⟨false,Ho⟩],[],none⟩):=by
 unfold LJ
 refine bC (env:=env) (cs.length) (fun i=>⟨sl 29 [(1,.pv (.list 5 (cs.map eP))),(2,.aI 0 0),(4,.aI 1 0),(9,.pv (.list 5 (cs.map eP))),(10,.pv (.int .i64 cs.length)),(11,.pv (.int .i64 i))],[⟨false,[x0,x1,x2,x3,x4,x5,.row 2 ((zX dt (cs.take (i))).map iW)]⟩,⟨false,Ho⟩],[],none⟩) (fun i=>some (.normal,⟨sl 29 [(2,.aI 0 0),(4,.aI 1 0),(5,.any)],[⟨false,[x0,x1,x2,x3,x4,x5,.row 2 ((zX dt cs).map iW)]⟩,⟨false,Ho⟩],[],none⟩)) h (fun _=>rfl) (fun _=>by simp only [aB,bg,Nat.reduceMul,Nat.reduceBEq,Nat.reduceLT,Nat.reduceLeDiff,Nat.reduceAdd,decide_true,Bool.and_self,Bool.true_and]) ?_ ?_
 ·intro i rb hi ih
  have hi1:=bG hi (by unfold lim;omega)
  have F1:((i:Int)<(cs.length:Int))=True:=eq_true (by omega)
  have hx:=zQ hi
  obtain ⟨o1,o2⟩:=hc _ (List.getElem_mem hi)
  have q:=UU (cs:=cs.take i) hd (fun c h=>(hc c (List.mem_of_mem_take h)).2)
  have e1:=amU (c:=cs[i]) (l:=zX dt (cs.take i)) o1 (by rw [q.1];exact hz) (UR q o2)
  rw [← Zm dt hi,jU] at e1
  have Z:((0:Int) != 0)=false:=rfl
  simp only [LH,F1,e1,Z,hx,iq,dL,au hi,List.length_map,ak,Nat.reduceMul,Nat.reduceBEq,Nat.reduceLT,Nat.reduceLeDiff,reduceCtorEq,Nat.reduceEqDiff,Nat.reduceAdd,Nat.beq]
  rw [ih _ (by simp only [hi1,dL,ak,Nat.reduceMul,Nat.reduceBEq,Nat.reduceLT,Nat.reduceLeDiff,reduceCtorEq,Nat.reduceEqDiff,Nat.reduceAdd,Nat.beq]<;>rfl)]
  rfl
 ·intro rb
  rw [List.take_length]
  simp only [LH,Int.lt_irrefl,dL,List.length_map,ak,Nat.reduceMul,Nat.reduceBEq,Nat.reduceLT,Nat.reduceLeDiff,reduceCtorEq,Nat.reduceEqDiff,Nat.reduceAdd,Nat.beq]
def ag2 (s:kJ):List AV:=[.pv (.int .i64 s.lm),.row 1 (s.sz.map eI),.row 5 (s.cy.map eP),.pv (.bool s.ov),.pv (.int .i64 s.fs),.pv (.int .i64 s.ls),.row 2 (s.dt.map iW)]
theorem qY (s:kJ):ag2 s=[.pv (.int .i64 s.lm),.row 1 (s.sz.map eI),.row 5 (s.cy.map eP),.pv (.bool s.ov),.pv (.int .i64 s.fs),.pv (.int .i64 s.ls),.row 2 (s.dt.map iW)]:=rfl
theorem ah2 {z:List Int} {cs:List jk} {s:kJ} (hc:∀ c∈cs,Bf c∧ny z c.ws) (hz:z.length≤1000) (hd:Wu z s.dt) (hl:cs.length≤10000):OT env 75 (.own (ag2 s)) [.list 5 (cs.map eP)]=some ([(kK { s with dt:=zX s.dt cs },false),(.int .i64 0,false)],none):=by
 rw [xk ama rfl,qY,bW]
 simp only [ab2,aB,Nat.reduceBEq,Nat.reduceLeDiff,Nat.reduceAdd,List.length_cons,List.length_nil]
 simp only [List.length_map,ak,Nat.reduceMul,Nat.reduceBEq,Nat.reduceLT,Nat.reduceLeDiff,reduceCtorEq,Nat.reduceEqDiff,Nat.reduceAdd,Nat.beq]
 rw [akk (cs:=cs) (dt:=s.dt) hc hz hd hl (by simp only [dL];simp only [aB,bg,Nat.reduceMul,Nat.reduceBEq,Nat.reduceLT,Nat.reduceLeDiff,Nat.reduceAdd,decide_true,Bool.and_self,Bool.true_and]<;>rfl)]
 simp only [dL,dh,ak,Nat.reduceMul,Nat.reduceBEq,Nat.reduceLT,Nat.reduceLeDiff,reduceCtorEq,Nat.reduceEqDiff,Nat.reduceAdd,Nat.beq]
end Go.Proofs.YtpcncggjmabnaaaGreatDoor.V
