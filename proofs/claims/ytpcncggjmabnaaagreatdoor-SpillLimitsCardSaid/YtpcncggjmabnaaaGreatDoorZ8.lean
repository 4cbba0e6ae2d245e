/-
  Part 8 of the texts that the statement stands on.
-/
import Derived.Test.YtpcncggjmabnaaaGreatDoorZ7
set_option linter.all false
namespace Go.Proofs.YtpcncggjmabnaaaGreatDoor.V
structure SwSt where
 d0:Int
 d1:Int
 st:Int
 ins:Bool
 out:List Exn
def swStep (keep:Bool→Bool→Bool) (x:End) (same:Bool) (s:SwSt):SwSt :=
 if same then ⟨if x.list=0 then s.d0+x.step else s.d0,if x.list=1 then s.d1+x.step else s.d1,s.st,s.ins,s.out⟩
 else ⟨if x.list=0 then s.d0+x.step else s.d0,if x.list=1 then s.d1+x.step else s.d1,
  if keep (decide ((if x.list=0 then s.d0+x.step else s.d0) > 0)) (decide ((if x.list=1 then s.d1+x.step else s.d1) > 0))&&!s.ins then x.pos else s.st,
  keep (decide ((if x.list=0 then s.d0+x.step else s.d0) > 0)) (decide ((if x.list=1 then s.d1+x.step else s.d1) > 0)),
  s.out++(if !keep (decide ((if x.list=0 then s.d0+x.step else s.d0) > 0)) (decide ((if x.list=1 then s.d1+x.step else s.d1) > 0))&&s.ins then [⟨s.st,x.pos - s.st⟩] else [])⟩
def swAt (keep:Bool→Bool→Bool) (L:List End):Nat→SwSt
 |0=>⟨0,0,0,false,[]⟩
 |i+1=>match L[i]? with
  |some x=>swStep keep x (nextSame x (L.drop (i+1))) (swAt keep L i)
  |none=>swAt keep L i
theorem swAt_succ {keep:Bool→Bool→Bool} {L:List End} {i:Nat} {x:End} (h:L[i]?=some x):swAt keep L (i+1)=swStep keep x (nextSame x (L.drop (i+1))) (swAt keep L i):=by
 show (match L[i]? with
  |some x=>swStep keep x (nextSame x (L.drop (i+1))) (swAt keep L i)
  |none=>swAt keep L i)=_
 rw [h]
theorem swAt_go (keep:Bool→Bool→Bool) (L:List End):∀ i,i≤L.length→(swAt keep L i).out++swGo keep (L.drop i) (swAt keep L i).d0 (swAt keep L i).d1 (swAt keep L i).st (swAt keep L i).ins=swGo keep L 0 0 0 false
 |0,_=>rfl
 |i+1,hi=>by
  have ih:=swAt_go keep L i (by omega)
  have hx:L[i]?=some L[i]:=List.getElem?_eq_getElem (by omega)
  rw [← ih,swAt_succ hx,List.drop_eq_getElem_cons (show i<L.length by omega)]
  generalize L[i]=x
  generalize swAt keep L i=s
  conv=>rhs;unfold swGo
  unfold swStep
  cases nextSame x (L.drop (i+1)) with
  |true=>rfl
  |false=>simp only [Bool.false_eq_true,if_false,List.append_assoc]
theorem swAt_end (keep:Bool→Bool→Bool) (L:List End):(swAt keep L L.length).out=swGo keep L 0 0 0 false:=by
 have:=swAt_go keep L L.length (Nat.le_refl _)
 rw [List.drop_length] at this
 simpa [swGo] using this
theorem swAt_small {keep:Bool→Bool→Bool} {L:List End} (h:∀ x∈L,(x.step=1∨x.step=-1)∧x.pos≤4096):∀ i:Nat,(-(i:Int)≤(swAt keep L i).d0∧(swAt keep L i).d0≤i)∧(-(i:Int)≤(swAt keep L i).d1∧(swAt keep L i).d1≤i)∧(0≤(swAt keep L i).st∧(swAt keep L i).st≤4096)
 |0=>by simp [swAt]
 |i+1=>by
  obtain ⟨h1,h2,h3⟩:=swAt_small (keep:=keep) h i
  cases hx:L[i]? with
  |none =>
   have:swAt keep L (i+1)=swAt keep L i:=by
    show (match L[i]? with
     |some x=>swStep keep x (nextSame x (L.drop (i+1))) (swAt keep L i)
     |none=>swAt keep L i)=_
    rw [hx]
   rw [this]
   omega
  |some x =>
   rw [swAt_succ hx]
   obtain ⟨k1,k2⟩:=h x (List.mem_of_getElem? hx)
   generalize swAt keep L i=s at *
   unfold swStep
   split
   ·simp only
    refine ⟨?_,?_,h3⟩
    ·split<;>omega
    ·split<;>omega
   ·simp only
    refine ⟨?_,?_,?_⟩
    ·split<;>omega
    ·split<;>omega
    ·split<;>omega
def yE (l:List Exn):List (List PV):=l.map fun x=>[eExt x]
theorem yE_app (l m:List Exn):yE (l++m)=yE l++yE m:=by simp [yE]
theorem beq_nat (n m:Nat):((n:Int)==(m:Int))=decide (n=m):=by
 by_cases h:n=m
 ·subst h;simp
 ·rw [decide_eq_false h];simp;omega
set_option maxRecDepth 20000 in
set_option maxHeartbeats 2000000 in
theorem loop133 {keep:Bool→Bool→Bool} {kf:Nat} (hk:∀ p q,cal env kf [.bool p,.bool q]=some [(.bool (keep p q),false)]) {L:List End} (hL:∀ x∈L,((x.step=1∨x.step=-1)∧x.pos≤4096)∧x.list<2) (hl:L.length≤1000000)
  {st:St} (h:st.head [0,3,5,6,7,8,15,16,17,18] st.boxes.length=some ⟨sl 80 [(0,.yld),(3,.pv (.iptr [.func kf []] 0)),(5,.row 3 (L.map eEnd)),(6,.pbox 0 0),(7,.pv (.int .i64 0)),(8,.pv (.bool false)),(15,.any),(16,.ref (.slot 5) 0 L.length),(17,.pv (.int .i64 L.length)),(18,.pv (.int .i64 (0:Nat)))],[⟨false,[.pv (.int .i64 0),.pv (.int .i64 0)]⟩],[],some none⟩) :
  den env fn133_l1 st=some (.normal,⟨sl 80 [],[⟨false,[.pv (.int .i64 (swAt keep L L.length).d0),.pv (.int .i64 (swAt keep L L.length).d1)]⟩],yE (swAt keep L L.length).out,some none⟩):=by
 unfold fn133_l1
 have hlim:lim=1073741824:=rfl
 have hsm:=swAt_small (keep:=keep) fun x hx=>(hL x hx).1
 refine clean_up (env:=env) L.length (fun i=>⟨sl 80 [(0,.yld),(3,.pv (.iptr [.func kf []] 0)),(5,.row 3 (L.map eEnd)),(6,.pbox 0 0),(7,.pv (.int .i64 (swAt keep L i).st)),(8,.pv (.bool (swAt keep L i).ins)),(15,.any),(16,.ref (.slot 5) 0 L.length),(17,.pv (.int .i64 L.length)),(18,.pv (.int .i64 i))],[⟨false,[.pv (.int .i64 (swAt keep L i).d0),.pv (.int .i64 (swAt keep L i).d1)]⟩],yE (swAt keep L i).out,some none⟩) (fun _=>some (.normal,⟨sl 80 [],[⟨false,[.pv (.int .i64 (swAt keep L L.length).d0),.pv (.int .i64 (swAt keep L L.length).d1)]⟩],yE (swAt keep L L.length).out,some none⟩)) h (fun _=>rfl) (fun _=>by simp only [slAll,slsAll,Nat.reduceMul,Nat.reduceBEq,Nat.reduceLT,Nat.reduceLeDiff,Nat.reduceAdd,decide_true,Bool.and_self,Bool.true_and]) ?_ ?_
 ·intro i rb hi ih
  have hi1:=i64_next hi (by omega)
  have F1:((i:Int)<(L.length:Int))=True:=eq_true (by omega)
  have hx:L[i]?=some L[i]:=List.getElem?_eq_getElem hi
  obtain ⟨⟨x1,x2⟩,x3⟩:=hL _ (List.getElem_mem hi)
  have hsuc:=swAt_succ (keep:=keep) hx
  obtain ⟨⟨s1,s2⟩,⟨s3,s4⟩,s5,s6⟩:=hsm i
  rw [hsuc] at ih
  clear hsuc
  generalize L[i]=x at *
  generalize hs:swAt keep L i=s at *
  obtain ⟨d0,d1,sp,ins,out⟩:=s
  obtain ⟨p,k,t⟩:=x
  simp only at x1 x2 x3 s1 s2 s3 s4 s5 s6 ih
  have hlist:k=0∨k=1:=by omega
  have W0:IntKind.i64.wrap (d0+t)=d0+t:=i64_fits (by omega)
  have W1:IntKind.i64.wrap (d1+t)=d1+t:=i64_fits (by omega)
  have W2:IntKind.i64.wrap ((p:Int) - sp)=(p:Int) - sp:=i64_fits (by omega)
  have I0:index (.int .i64 0) 2=some 0:=rfl
  have I1:index (.int .i64 1) 2=some 1:=rfl
  have IN0:index (.int .i64 ((0:Nat):Int)) 2=some 0:=rfl
  have IN1:index (.int .i64 ((1:Nat):Int)) 2=some 1:=rfl
  have P3:∀ a b c:PV,part [a,b,c] 0 (some 3)=some (.agg [a,b,c]):=fun a b c=>rfl
  -- the next end
  have hnx:(∃ y,L[i+1]?=some y∧nextSame ⟨p,k,t⟩ (L.drop (i+1))=decide (y.pos=p)∧(((i+1:Nat):Int)<(L.length:Int))∧index (.int .i64 ((i+1:Nat):Int)) L.length=some (i+1))∨(nextSame ⟨p,k,t⟩ (L.drop (i+1))=false∧¬ (((i+1:Nat):Int)<(L.length:Int))):=by
   by_cases hlt:i+1<L.length
   ·left
    refine ⟨L[i+1],List.getElem?_eq_getElem hlt,?_,by omega,index_nat hlt⟩
    rw [List.drop_eq_getElem_cons hlt];rfl
   ·right
    refine ⟨?_,by omega⟩
    rw [List.drop_eq_nil_of_le (by omega)];rfl
  rcases hlist with rfl|rfl
  ·-- list 0
   have e1:=hk (decide (d0+t > 0)) (decide (d1 > 0))
   have same:swStep keep ⟨p,0,t⟩ true ⟨d0,d1,sp,ins,out⟩=⟨d0+t,d1,sp,ins,out⟩:=by simp [swStep]
   have diff:swStep keep ⟨p,0,t⟩ false ⟨d0,d1,sp,ins,out⟩=⟨d0+t,d1,if keep (decide (d0+t > 0)) (decide (d1 > 0))&&!ins then (p:Int) else sp,keep (decide (d0+t > 0)) (decide (d1 > 0)),out++(if !keep (decide (d0+t > 0)) (decide (d1 > 0))&&ins then [⟨sp,(p:Int) - sp⟩] else [])⟩:=by simp [swStep]
   rcases hnx with ⟨y,hy,hns,hlt,hix⟩|⟨hns,hlt⟩
   ·have F2:(((i+1:Nat):Int)<(L.length:Int))=True:=eq_true hlt
    rw [hns] at ih
    have B:=beq_nat y.pos p
    generalize hb:decide (y.pos=p)=b at ih B
    cases b with
    |true =>
     rw [same] at ih
     simp only [fn133_b0,F1,hx,hi1,W0,W1,W2,I0,I1,IN0,IN1,P3,eEnd,index_nat hi,List.getElem?_map,Option.map_some,List.length_map,List.length_cons,List.length_nil,F2,hy,hix,B,slAll,slsAll,Nat.reduceMul,Nat.reduceBEq,Nat.reduceLT,Nat.reduceLeDiff,memAll,vAll,reduceCtorEq,Nat.reduceEqDiff,Nat.reduceAdd,Nat.reduceLT,Nat.reduceLeDiff,Nat.beq]
     rw [ih _ (by simp only [hi1,slAll,slsAll,Nat.reduceMul,Nat.reduceBEq,Nat.reduceLT,Nat.reduceLeDiff,memAll,vAll,reduceCtorEq,Nat.reduceEqDiff,Nat.reduceAdd,Nat.reduceLT,Nat.reduceLeDiff,Nat.beq]<;>rfl)]
    |false =>
     rw [diff] at ih
     generalize keep (decide (d0+t > 0)) (decide (d1 > 0))=now at *
     cases now<;>cases ins<;>simp only [Bool.not_true,Bool.not_false,Bool.and_true,Bool.and_false,Bool.and_self,Bool.false_eq_true,if_true,if_false,List.append_nil,yE_app] at ih<;>simp only [fn133_b0,F1,hx,hi1,W0,W1,W2,I0,I1,IN0,IN1,P3,eEnd,index_nat hi,List.getElem?_map,Option.map_some,List.length_map,List.length_cons,List.length_nil,F2,hy,hix,B,e1,slAll,slsAll,Nat.reduceMul,Nat.reduceBEq,Nat.reduceLT,Nat.reduceLeDiff,memAll,vAll,reduceCtorEq,Nat.reduceEqDiff,Nat.reduceAdd,Nat.reduceLT,Nat.reduceLeDiff,Nat.beq]<;>rw [ih _ (by simp only [hi1,yE,List.map_cons,List.map_nil,eExt,slAll,slsAll,Nat.reduceMul,Nat.reduceBEq,Nat.reduceLT,Nat.reduceLeDiff,memAll,vAll,reduceCtorEq,Nat.reduceEqDiff,Nat.reduceAdd,Nat.reduceLT,Nat.reduceLeDiff,Nat.beq]<;>rfl)]
   ·have F2:(((i+1:Nat):Int)<(L.length:Int))=False:=eq_false hlt
    rw [hns,diff] at ih
    generalize keep (decide (d0+t > 0)) (decide (d1 > 0))=now at *
    cases now<;>cases ins<;>simp only [Bool.not_true,Bool.not_false,Bool.and_true,Bool.and_false,Bool.and_self,Bool.false_eq_true,if_true,if_false,List.append_nil,yE_app] at ih<;>simp only [fn133_b0,F1,hx,hi1,W0,W1,W2,I0,I1,IN0,IN1,P3,eEnd,index_nat hi,List.getElem?_map,Option.map_some,List.length_map,List.length_cons,List.length_nil,F2,e1,slAll,slsAll,Nat.reduceMul,Nat.reduceBEq,Nat.reduceLT,Nat.reduceLeDiff,memAll,vAll,reduceCtorEq,Nat.reduceEqDiff,Nat.reduceAdd,Nat.reduceLT,Nat.reduceLeDiff,Nat.beq]<;>rw [ih _ (by simp only [hi1,yE,List.map_cons,List.map_nil,eExt,slAll,slsAll,Nat.reduceMul,Nat.reduceBEq,Nat.reduceLT,Nat.reduceLeDiff,memAll,vAll,reduceCtorEq,Nat.reduceEqDiff,Nat.reduceAdd,Nat.reduceLT,Nat.reduceLeDiff,Nat.beq]<;>rfl)]
  ·-- list 1
   have e1:=hk (decide (d0 > 0)) (decide (d1+t > 0))
   have same:swStep keep ⟨p,1,t⟩ true ⟨d0,d1,sp,ins,out⟩=⟨d0,d1+t,sp,ins,out⟩:=by simp [swStep]
   have diff:swStep keep ⟨p,1,t⟩ false ⟨d0,d1,sp,ins,out⟩=⟨d0,d1+t,if keep (decide (d0 > 0)) (decide (d1+t > 0))&&!ins then (p:Int) else sp,keep (decide (d0 > 0)) (decide (d1+t > 0)),out++(if !keep (decide (d0 > 0)) (decide (d1+t > 0))&&ins then [⟨sp,(p:Int) - sp⟩] else [])⟩:=by simp [swStep]
   rcases hnx with ⟨y,hy,hns,hlt,hix⟩|⟨hns,hlt⟩
   ·have F2:(((i+1:Nat):Int)<(L.length:Int))=True:=eq_true hlt
    rw [hns] at ih
    have B:=beq_nat y.pos p
    generalize hb:decide (y.pos=p)=b at ih B
    cases b with
    |true =>
     rw [same] at ih
     simp only [fn133_b0,F1,hx,hi1,W0,W1,W2,I0,I1,IN0,IN1,P3,eEnd,index_nat hi,List.getElem?_map,Option.map_some,List.length_map,List.length_cons,List.length_nil,F2,hy,hix,B,slAll,slsAll,Nat.reduceMul,Nat.reduceBEq,Nat.reduceLT,Nat.reduceLeDiff,memAll,vAll,reduceCtorEq,Nat.reduceEqDiff,Nat.reduceAdd,Nat.reduceLT,Nat.reduceLeDiff,Nat.beq]
     rw [ih _ (by simp only [hi1,slAll,slsAll,Nat.reduceMul,Nat.reduceBEq,Nat.reduceLT,Nat.reduceLeDiff,memAll,vAll,reduceCtorEq,Nat.reduceEqDiff,Nat.reduceAdd,Nat.reduceLT,Nat.reduceLeDiff,Nat.beq]<;>rfl)]
    |false =>
     rw [diff] at ih
     generalize keep (decide (d0 > 0)) (decide (d1+t > 0))=now at *
     cases now<;>cases ins<;>simp only [Bool.not_true,Bool.not_false,Bool.and_true,Bool.and_false,Bool.and_self,Bool.false_eq_true,if_true,if_false,List.append_nil,yE_app] at ih<;>simp only [fn133_b0,F1,hx,hi1,W0,W1,W2,I0,I1,IN0,IN1,P3,eEnd,index_nat hi,List.getElem?_map,Option.map_some,List.length_map,List.length_cons,List.length_nil,F2,hy,hix,B,e1,slAll,slsAll,Nat.reduceMul,Nat.reduceBEq,Nat.reduceLT,Nat.reduceLeDiff,memAll,vAll,reduceCtorEq,Nat.reduceEqDiff,Nat.reduceAdd,Nat.reduceLT,Nat.reduceLeDiff,Nat.beq]<;>rw [ih _ (by simp only [hi1,yE,List.map_cons,List.map_nil,eExt,slAll,slsAll,Nat.reduceMul,Nat.reduceBEq,Nat.reduceLT,Nat.reduceLeDiff,memAll,vAll,reduceCtorEq,Nat.reduceEqDiff,Nat.reduceAdd,Nat.reduceLT,Nat.reduceLeDiff,Nat.beq]<;>rfl)]
   ·have F2:(((i+1:Nat):Int)<(L.length:Int))=False:=eq_false hlt
    rw [hns,diff] at ih
    generalize keep (decide (d0 > 0)) (decide (d1+t > 0))=now at *
    cases now<;>cases ins<;>simp only [Bool.not_true,Bool.not_false,Bool.and_true,Bool.and_false,Bool.and_self,Bool.false_eq_true,if_true,if_false,List.append_nil,yE_app] at ih<;>simp only [fn133_b0,F1,hx,hi1,W0,W1,W2,I0,I1,IN0,IN1,P3,eEnd,index_nat hi,List.getElem?_map,Option.map_some,List.length_map,List.length_cons,List.length_nil,F2,e1,slAll,slsAll,Nat.reduceMul,Nat.reduceBEq,Nat.reduceLT,Nat.reduceLeDiff,memAll,vAll,reduceCtorEq,Nat.reduceEqDiff,Nat.reduceAdd,Nat.reduceLT,Nat.reduceLeDiff,Nat.beq]<;>rw [ih _ (by simp only [hi1,yE,List.map_cons,List.map_nil,eExt,slAll,slsAll,Nat.reduceMul,Nat.reduceBEq,Nat.reduceLT,Nat.reduceLeDiff,memAll,vAll,reduceCtorEq,Nat.reduceEqDiff,Nat.reduceAdd,Nat.reduceLT,Nat.reduceLeDiff,Nat.beq]<;>rfl)]
 ·intro rb
  simp only [fn133_b0,Int.lt_irrefl,slAll,slsAll,Nat.reduceMul,Nat.reduceBEq,Nat.reduceLT,Nat.reduceLeDiff,memAll,vAll,reduceCtorEq,Nat.reduceEqDiff,Nat.reduceAdd,Nat.reduceLT,Nat.reduceLeDiff,Nat.beq]
end Go.Proofs.YtpcncggjmabnaaaGreatDoor.V

namespace Go.Proofs.YtpcncggjmabnaaaGreatDoor.V
def inS (l:List Exn) (s:Nat):Bool:=l.any fun e=>inE e s
def setOf (keep:Bool→Bool→Bool) (a b:List Exn):List Exn:=ext (fun s=>keep (inS a s) (inS b s)) 4096
theorem two_mem {α:Type} {P:α→Prop} {a b:α} (ha:P a) (hb:P b):∀ l∈[a,b],P l:=by
 intro l hl
 simp only [List.mem_cons,List.not_mem_nil,or_false] at hl
 rcases hl with rfl|rfl
 ·exact ha
 ·exact hb
theorem dep_perm {i s:Nat} {l m:List End} (h:l.Perm m):dep i s l=dep i s m:=by
 induction h with
 |nil=>rfl
 |cons x _ ih=>simp only [dep,ih]
 |swap x y l=>simp only [dep];omega
 |trans _ _ h1 h2=>exact h1.trans h2
theorem tot_perm {i:Nat} {l m:List End} (h:l.Perm m):tot i l=tot i m:=by
 induction h with
 |nil=>rfl
 |cons x _ ih=>simp only [tot,ih]
 |swap x y l=>simp only [tot];omega
 |trans _ _ h1 h2=>exact h1.trans h2
theorem rawOf_cons (i:Nat) (e:Exn) (l:List Exn):rawOf i (e :: l)=(if (wX e).2.2 then [⟨(wX e).1.toNat,i,1⟩,⟨(wX e).2.1.toNat,i,-1⟩] else [])++rawOf i l:=by simp [rawOf]
theorem rawOf_mem {i:Nat}:∀ {l:List Exn} {x:End},x∈rawOf i l→((x.step=1∨x.step=-1)∧x.pos≤4096)∧x.list=i
 |[],x,h=>by simp [rawOf] at h
 |e :: l,x,h=>by
  rw [rawOf_cons] at h
  rcases List.mem_append.1 h with h|h
  ·cases hw:(wX e).2.2 with
   |false=>rw [hw] at h;simp at h
   |true =>
    obtain ⟨n,m,hnm,h1,h2,-⟩:=wX_true hw
    rw [hnm] at h
    simp only [if_true,Int.toNat_natCast,List.mem_cons,List.not_mem_nil,or_false] at h
    rcases h with rfl|rfl
    ·exact ⟨⟨.inl rfl,by simp only;omega⟩,rfl⟩
    ·exact ⟨⟨.inr rfl,h2⟩,rfl⟩
  ·exact rawOf_mem h
theorem tot_raw {i j:Nat}:∀ l:List Exn,tot j (rawOf i l)=0
 |[]=>rfl
 |e :: l=>by
  rw [rawOf_cons,tot_app,tot_raw l]
  split
  ·simp only [tot];split<;>omega
  ·rfl
theorem dep_other {i j s:Nat} (h:i≠j):∀ l:List Exn,dep j s (rawOf i l)=0
 |[]=>rfl
 |e :: l=>by
  rw [rawOf_cons,dep_app,dep_other h l]
  split
  ·simp [dep,h]
  ·rfl
theorem dep_raw {i s:Nat} (hs:s<4096):∀ l:List Exn,0≤dep i s (rawOf i l)∧(dep i s (rawOf i l) > 0 ↔ inS l s=true)
 |[]=>by simp [rawOf,dep,inS]
 |e :: l=>by
  obtain ⟨h1,h2⟩:=dep_raw (i:=i) hs l
  rw [rawOf_cons,dep_app]
  have h3:inS (e :: l) s=(inE e s || inS l s):=rfl
  rw [h3]
  cases hw:(wX e).2.2 with
  |false =>
   rw [wX_false hw hs]
   simp only [Bool.false_eq_true,if_false,dep,Int.zero_add,Bool.false_or]
   exact ⟨h1,h2⟩
  |true =>
   obtain ⟨n,m,hnm,g1,g2,g3⟩:=wX_true hw
   have g4:=g3 s hs
   rw [hnm]
   simp only [if_true,Int.toNat_natCast,dep,true_and]
   cases hin:inE e s with
   |false =>
    rw [Bool.false_or,← h2]
    have:¬ (n≤s∧s<m):=fun h=>by rw [g4.2 h] at hin;cases hin
    split<;>split<;>omega
   |true =>
    obtain ⟨k1,k2⟩:=g4.1 hin
    rw [if_pos k1,if_neg (by omega)]
    simp only [Bool.true_or,iff_true]
    omega
theorem asc_of:∀ {l:List End},(∀ i j:Nat,i<j→j<l.length→¬ l[j]!.pos<l[i]!.pos)→Asc l
 |[],_=>trivial
 |[x],_=>trivial
 |x :: y :: l,h=>by
  refine ⟨?_,asc_of fun i j hij hj=>?_⟩
  ·have:=h 0 1 (by omega) (by simp)
   simp at this
   omega
  ·have:=h (i+1) (j+1) (by omega) (by simp at hj ⊢;omega)
   simpa using this
theorem sweep_set {keep:Bool→Bool→Bool} (hk:keep false false=false) (a b:List Exn):swGo keep (endsOf [a,b]) 0 0 0 false=setOf keep a b:=by
 obtain ⟨h1,h2,h3⟩:=sortE_perm (rawFrom 0 [a,b])
 have hr:rawFrom 0 [a,b]=rawOf 0 a++rawOf 1 b:=by simp [rawFrom]
 have hmem:∀ x∈endsOf [a,b],x.pos≤4096:=fun x hx=>by
  have:=h1.mem_iff.1 hx
  rw [hr] at this
  rcases List.mem_append.1 this with q|q
  ·exact (rawOf_mem q).1.2
  ·exact (rawOf_mem q).1.2
 have ht:∀ j,tot j (endsOf [a,b])=0:=fun j=>by
  unfold endsOf
  rw [tot_perm h1,hr,tot_app,tot_raw,tot_raw];rfl
 have hasc:Asc (endsOf [a,b]):=asc_of fun i j hij hj=>h3 i j hij (by unfold endsOf at hj;omega)
 rw [sweep_ok hk hasc hmem (ht 0) (ht 1)]
 unfold setOf
 apply ext_congr
 intro s hs
 unfold keepOf endsOf
 rw [dep_perm h1,dep_perm h1,hr,dep_app,dep_app,dep_other (i:=1) (j:=0) (by decide),dep_other (i:=0) (j:=1) (by decide),Int.add_zero,Int.zero_add]
 have e1:=(dep_raw (i:=0) hs a).2
 have e2:=(dep_raw (i:=1) hs b).2
 have f1:decide (dep 0 s (rawOf 0 a) > 0)=inS a s:=by
  cases h:inS a s
  ·exact decide_eq_false fun q=>by rw [e1.1 q] at h;cases h
  ·exact decide_eq_true (e1.2 h)
 have f2:decide (dep 1 s (rawOf 1 b) > 0)=inS b s:=by
  cases h:inS b s
  ·exact decide_eq_false fun q=>by rw [e2.1 q] at h;cases h
  ·exact decide_eq_true (e2.2 h)
 rw [f1,f2]
set_option maxRecDepth 20000 in
theorem iter133 {keep:Bool→Bool→Bool} (h0:keep false false=false) {kf:Nat} (hk:∀ p q,cal env kf [.bool p,.bool q]=some [(.bool (keep p q),false)]) {a b:List Exn} (ha:okEs a) (hb:okEs b) (la:a.length≤10000) (lb:b.length≤10000) :
  iter env 133 [.iptr [.list 2 (a.map eExt)] 0,.iptr [.list 2 (b.map eExt)] 0,.iptr [.func kf []] 0] none=some (yE (setOf keep a b)):=by
 have hlim:lim=1073741824:=rfl
 obtain ⟨h1,h2,h3⟩:=sortE_perm (rawFrom 0 [a,b])
 have hr:rawFrom 0 [a,b]=rawOf 0 a++rawOf 1 b:=by simp [rawFrom]
 have hp:=rawFrom_len (n:=10000) [a,b] 0 (two_mem la lb)
 have e1:=cal134 (ls:=[a,b]) (two_mem ha hb) (two_mem la lb) (by simp) h2
 have hE:(endsOf [a,b]).length≤1000000:=by unfold endsOf;rw [h2];simp at hp;omega
 have hm:∀ x∈endsOf [a,b],((x.step=1∨x.step=-1)∧x.pos≤4096)∧x.list<2:=fun x hx=>by
  have:=h1.mem_iff.1 hx
  rw [hr] at this
  rcases List.mem_append.1 this with q|q
  ·have:=rawOf_mem q;exact ⟨this.1,by omega⟩
  ·have:=rawOf_mem q;exact ⟨this.1,by omega⟩
 have hres:=(swAt_end keep (endsOf [a,b])).trans (sweep_set h0 a b)
 simp only [List.map_cons,List.map_nil,eExts] at e1
 have L2:(2≤lim)=True:=eq_true (by omega)
 rw [iter_code env133 rfl rfl]
 have hy:ystart 80 [.iptr [.list 2 (a.map eExt)] 0,.iptr [.list 2 (b.map eExt)] 0,.iptr [.func kf []] 0] none=⟨sl 80 [(0,.yld),(1,.pv (.iptr [.list 2 (a.map eExt)] 0)),(2,.pv (.iptr [.list 2 (b.map eExt)] 0)),(3,.pv (.iptr [.func kf []] 0))],[],[],some none⟩:=rfl
 simp only [fn133]
 rw [hy]
 simp only [e1,L2,List.length_map,slAll,slsAll,Nat.reduceMul,Nat.reduceBEq,Nat.reduceLT,Nat.reduceLeDiff,memAll,vAll,reduceCtorEq,Nat.reduceEqDiff,Nat.reduceAdd,Nat.reduceLT,Nat.reduceLeDiff,Nat.beq]
 rw [loop133 hk hm hE (by simp only [slAll,slsAll,Nat.reduceMul,Nat.reduceBEq,Nat.reduceLT,Nat.reduceLeDiff,memAll,vAll,reduceCtorEq,Nat.reduceEqDiff,Nat.reduceAdd,Nat.reduceLT,Nat.reduceLeDiff,Nat.beq]<;>rfl)]
 rw [hres]
 rfl
theorem cal132 {g:Nat} {caps:List PV} {l:List Exn} (hi:iter env g caps none=some (yE l)) (hl:l.length≤1000000):cal env 132 [.nils 2,.func g caps]=some [(.list 2 (l.map eExt),true)]:=by
 have hlim:lim=1073741824:=rfl
 rw [cal_code env132 rfl];simp only [fn132];simp only [start,z_map_cons,z_map_nil,z_len_cons,z_len_nil,z_repl_zero,z_repl_succ,z_cons_app,z_nil_app,Nat.reduceAdd,Nat.reduceSub]
 simp only [ memAll,vAll,reduceCtorEq,Nat.reduceEqDiff,Nat.reduceAdd,Nat.reduceLT,Nat.reduceLeDiff,Nat.beq]
 rw [rng_idx (env:=env) (fun j=>[⟨false,[.row 2 ((l.take j).map eExt)]⟩]) (xs:=yE l) rfl hi rfl ?_]
 ·simp only [yE,List.length_map,List.take_length,vRng,memAll,vAll,reduceCtorEq,Nat.reduceEqDiff,Nat.reduceAdd,Nat.reduceLT,Nat.reduceLeDiff,Nat.beq]
 ·intro j x hx sl0
  simp only [yE,List.getElem?_map,Option.map_eq_some_iff] at hx
  obtain ⟨e,he,rfl⟩:=hx
  have hj:=(List.getElem?_eq_some_iff.1 he).1
  have F3:((l.take j).length+1≤lim)=True:=eq_true (by rw [List.length_take];omega)
  have ht:l.take (j+1)=l.take j++[e]:=by rw [List.take_add_one,he];rfl
  rw [ht]
  refine ⟨?_,?_⟩
  rotate_left
  ·simp only [fn132_b0,fn132_b1,F3,eExt,List.map_append,List.map_cons,List.map_nil,vRng,memAll,vAll,reduceCtorEq,Nat.reduceEqDiff,Nat.reduceAdd,Nat.reduceLT,Nat.reduceLeDiff,Nat.beq]
   rfl
theorem cal128 {g:Nat} {caps:List PV} {l:List Exn} (hi:iter env g caps none=some (yE l)) (hl:l.length≤1000000):cal env 128 [.func g caps]=some [(.list 2 (l.map eExt),true)]:=by
 have e1:=cal132 hi hl
 rw [cal_code env128 rfl];simp only [fn128];simp only [start,z_map_cons,z_map_nil,z_len_cons,z_len_nil,z_repl_zero,z_repl_succ,z_cons_app,z_nil_app,Nat.reduceAdd,Nat.reduceSub]
 simp only [e1,memAll,vAll,reduceCtorEq,Nat.reduceEqDiff,Nat.reduceAdd,Nat.reduceLT,Nat.reduceLeDiff,Nat.beq]
end Go.Proofs.YtpcncggjmabnaaaGreatDoor.V

namespace Go.Proofs.YtpcncggjmabnaaaGreatDoor.V
def orB (p q:Bool):Bool:=p || q
theorem addAt_len (l:List Exn) (i:Nat):(addAt l i).length≤l.length+1:=by
 rcases snoc_cases l with rfl|⟨p,x,rfl⟩
 ·simp [addAt]
 ·rw [addAt_snoc];split<;>simp
theorem ext_len (p:Nat→Bool):∀ n,(ext p n).length≤n
 |0=>Nat.le_refl _
 |n+1=>by
  rw [ext_succ]
  have:=ext_len p n
  have:=addAt_len (ext p n) n
  split<;>omega
theorem setOf_len (keep:Bool→Bool→Bool) (a b:List Exn):(setOf keep a b).length≤4096:=ext_len _ _
theorem cal129 {a b:List PV} {kf:Nat}:cal env 129 [.list 2 a,.list 2 b,.func kf []]=some [(.func 133 [.iptr [.list 2 a] 0,.iptr [.list 2 b] 0,.iptr [.func kf []] 0],false)]:=by
 rw [cal_code env129 rfl];simp only [fn129,slAll,Nat.reduceBEq,Nat.reduceLeDiff,Nat.reduceAdd,List.length_cons,List.length_nil]
 simp only [ slAll,slsAll,Nat.reduceMul,Nat.reduceBEq,Nat.reduceLT,Nat.reduceLeDiff,memAll,vAll,reduceCtorEq,Nat.reduceEqDiff,Nat.reduceAdd,Nat.reduceLT,Nat.reduceLeDiff,Nat.beq]
theorem cal130 (p q:Bool):cal env 130 [.bool p,.bool q]=some [(.bool (orB p q),false)]:=by
 cases p<;>cases q<;>(rw [cal_code env130 rfl];simp only [fn130,slAll,Nat.reduceBEq,Nat.reduceLeDiff,Nat.reduceAdd,List.length_cons,List.length_nil];simp only [ slAll,slsAll,Nat.reduceMul,Nat.reduceBEq,Nat.reduceLT,Nat.reduceLeDiff,memAll,vAll,reduceCtorEq,Nat.reduceEqDiff,Nat.reduceAdd,Nat.reduceLT,Nat.reduceLeDiff,Nat.beq]<;>rfl)
theorem cal120 {a b:List Exn} (ha:okEs a) (hb:okEs b) (la:a.length≤10000) (lb:b.length≤10000):cal env 120 [.list 2 (a.map eExt),.list 2 (b.map eExt)]=some [(.list 2 ((setOf orB a b).map eExt),true)]:=by
 have e1:=cal129 (a:=a.map eExt) (b:=b.map eExt) (kf:=130)
 have hi:=iter133 (keep:=orB) rfl (kf:=130) (fun p q=>cal130 p q) ha hb la lb
 have hlen:=setOf_len orB a b
 have e2:=cal128 hi (by omega)
 rw [cal_code env120 rfl];simp only [fn120,slAll,Nat.reduceBEq,Nat.reduceLeDiff,Nat.reduceAdd,List.length_cons,List.length_nil]
 simp only [e1,e2,slAll,slsAll,Nat.reduceMul,Nat.reduceBEq,Nat.reduceLT,Nat.reduceLeDiff,memAll,vAll,reduceCtorEq,Nat.reduceEqDiff,Nat.reduceAdd,Nat.reduceLT,Nat.reduceLeDiff,Nat.beq]
theorem okEs_nil:okEs []:=fun x hx=>by cases hx
theorem ext_in (p:Nat→Bool) (n:Nat):(∀ x∈ext p n,0≤x.start∧1≤x.count∧x.start+x.count≤(n:Int)):=by
 induction n with
 |zero=>intro x hx;cases hx
 |succ n ih =>
  rw [ext_succ]
  split
  ·rcases snoc_cases (ext p n) with e|⟨pre,y,e⟩
   ·rw [e]
    intro x hx
    have:addAt [] n=[⟨(n:Int),1⟩]:=rfl
    rw [this] at hx
    simp only [List.mem_singleton] at hx
    subst hx
    simp only;omega
   ·rw [e] at ih ⊢
    intro x hx
    rw [addAt_snoc] at hx
    split at hx
    ·rcases List.mem_append.1 hx with h|h
     ·have:=ih x (by simp [h]);omega
     ·simp only [List.mem_singleton] at h
      have:=ih y (by simp)
      subst h;simp only;omega
    ·rcases List.mem_append.1 hx with h|h
     ·have:=ih x h;omega
     ·simp only [List.mem_singleton] at h
      subst h;simp only;omega
  ·intro x hx;have:=ih x hx;omega
end Go.Proofs.YtpcncggjmabnaaaGreatDoor.V

namespace Go.Proofs.YtpcncggjmabnaaaGreatDoor.V
theorem inE_fit {size:Int} {e:Exn} (h:bmFit size e=true) (s:Nat):inE e s=decide (e.start≤(s:Int)∧(s:Int)<e.start+e.count):=by
 have h:=bmFit_iff.1 h
 unfold inE
 rw [Bool.eq_iff_iff]
 simp only [Bool.and_eq_true,decide_eq_true_eq]
 omega
theorem fr_ok:∀ (l:List Exn) {b:Bm},okB b=true→(∀ e∈l,bmFit b.size e=true)→frE b l=0∧okB (frB b l)=true∧(frB b l).size=b.size∧∀ s:Nat,(s:Int)<b.size→bit (frB b l).ws s=(bit b.ws s || inS l s)
 |[],b,h,_=>⟨rfl,h,rfl,fun s _=>by simp [frB,inS]⟩
 |e :: l,b,h,hf=>by
  obtain ⟨k1,k2,k3,k4⟩:=set_ok h (hf e (by simp))
  obtain ⟨g1,g2,g3,g4⟩:=fr_ok l k2 (fun x hx=>by rw [k3];exact hf x (by simp [hx]))
  refine ⟨?_,g2,g3.trans k3,fun s hs=>?_⟩
  ·unfold frE
   rw [if_pos k1]
   exact g1
  ·have:=g4 s (by rw [k3];exact hs)
   show bit (frB (chO orW b e) l).ws s=_
   rw [this,k4 s hs,← inE_fit (hf e (by simp)) s,Bool.or_assoc]
   rfl
end Go.Proofs.YtpcncggjmabnaaaGreatDoor.V

namespace Go.Proofs.YtpcncggjmabnaaaGreatDoor.V
theorem bits_len (n:Nat):∀ l:List Nat,l.length=n→(exts l).length≤n:=by
 induction n with
 |zero=>intro l hl;rw [List.eq_nil_of_length_eq_zero hl];exact Nat.le_refl _
 |succ n ih =>
  intro l hl
  rcases snoc_cases l with rfl|⟨p,j,rfl⟩
  ·simp at hl
  ·have h1:=ih p (by simpa using hl)
   rw [exts_snoc]
   rcases snoc_cases (exts p) with e|⟨pre,y,e⟩
   ·rw [e];simp [addAt]
   ·rw [e] at h1 ⊢
    rw [addAt_snoc]
    simp at h1
    split<;>simp<;>omega
def bitsN (m:List Bool) (n:Nat):List Nat:=(List.range n).filter fun i=>m.getD i false
theorem bitsN_succ (m:List Bool) (n:Nat):bitsN m (n+1)=if m.getD n false then bitsN m n++[n] else bitsN m n:=by
 unfold bitsN
 rw [List.range_succ,List.filter_append]
 split
 ·rename_i h;rw [List.filter_cons_of_pos (by simpa using h),List.filter_nil]
 ·rename_i h;rw [List.filter_cons_of_neg (by simpa using h),List.filter_nil,List.append_nil]
theorem bitsN_lt {m:List Bool} {n i:Nat} (h:i∈bitsN m n):i<n:=by
 unfold bitsN at h
 exact List.mem_range.1 (List.mem_filter.1 h).1
theorem bitsN_at {m:List Bool} {n i:Nat} (h:i∈bitsN m n):m.getD i false=true:=by
 unfold bitsN at h
 exact (List.mem_filter.1 h).2
theorem bitsN_len (m:List Bool) (n:Nat):(bitsN m n).length≤n:=by
 have:=List.length_filter_le (fun i=>m.getD i false) (List.range n)
 simpa [bitsN] using this
set_option maxRecDepth 20000 in
theorem loop116 {m:List Bool} (hl:m.length≤lim) {st:St} (h:st.head [0,3,4,39] st.boxes.length=some ⟨sl 41 [(0,.pv (.list 1 (m.map eB))),(3,.row 2 ((exts (bitsN m ((0:Nat)))).map eExt)),(4,.pv (.int .i64 (0:Nat))),(39,.any)],[],[],none⟩) :
  den env fn116_l1 st=some (.normal,⟨sl 41 [(2,.any),(3,.row 2 ((exts (bitsN m m.length)).map eExt))],[],[],none⟩):=by
 unfold fn116_l1
 refine clean_up (env:=env) (m.length) (fun i=>⟨sl 41 [(0,.pv (.list 1 (m.map eB))),(3,.row 2 ((exts (bitsN m (i))).map eExt)),(4,.pv (.int .i64 i)),(39,.any)],[],[],none⟩) (fun i=>some (.normal,⟨sl 41 [(2,.any),(3,.row 2 ((exts (bitsN m m.length)).map eExt))],[],[],none⟩)) h (fun _=>rfl) (fun _=>by simp only [slAll,slsAll,Nat.reduceMul,Nat.reduceBEq,Nat.reduceLT,Nat.reduceLeDiff,Nat.reduceAdd,decide_true,Bool.and_self,Bool.true_and]) ?_ ?_
 ·intro i rb hi ih
  have hi1:=i64_next hi hl
  have hlim:lim=1073741824:=rfl
  have F1:((i:Int)<(m.length:Int))=True:=eq_true (by omega)
  have hx:m[i]?=some m[i]:=List.getElem?_eq_getElem hi
  have hg:m.getD i false=m[i]:=by rw [List.getD_eq_getElem?_getD,hx];rfl
  generalize m[i]=x at *
  cases x with
  |false =>
   simp only [fn116_b0,F1,hx,eB,index_nat hi,List.getElem?_map,Option.map_some,List.length_map,slAll,slsAll,Nat.reduceMul,Nat.reduceBEq,Nat.reduceLT,Nat.reduceLeDiff,memAll,vAll,reduceCtorEq,Nat.reduceEqDiff,Nat.reduceAdd,Nat.reduceLT,Nat.reduceLeDiff,Nat.beq]
   rw [ih _ (by simp only [hi1,bitsN_succ,hg,Bool.false_eq_true,if_false,slAll,slsAll,Nat.reduceMul,Nat.reduceBEq,Nat.reduceLT,Nat.reduceLeDiff,memAll,vAll,reduceCtorEq,Nat.reduceEqDiff,Nat.reduceAdd,Nat.reduceLT,Nat.reduceLeDiff,Nat.beq]<;>rfl)]
  |true =>
   by_cases hp:0<i∧m.getD (i - 1) false=true
   ·obtain ⟨j,rfl⟩:∃ j,i=j+1:=⟨i - 1,by omega⟩
    rw [Nat.add_sub_cancel] at hp
    have hj:j<m.length:=by omega
    have hjx:m[j]?=some true:=by
     have:=hp.2
     rw [List.getD_eq_getElem?_getD,List.getElem?_eq_getElem hj] at this
     rw [List.getElem?_eq_getElem hj];simpa using this
    have hb1:bitsN m (j+1)=bitsN m j++[j]:=by rw [bitsN_succ,if_pos hp.2]
    have hb2:bitsN m (j+1+1)=bitsN m j++[j]++[j+1]:=by rw [bitsN_succ,if_pos hg,hb1]
    obtain ⟨pre,⟨s,c⟩,e0,h1,h2,h3,h4⟩:=exts_last _ (bitsN m j) rfl j
    have hlen:=bitsN_len m j
    simp only at h1 h2 h3
    have G1:(((j+1:Nat):Int) > 0)=True:=eq_true (by omega)
    have G2:IntKind.i64.wrap (((j+1:Nat):Int) - 1)=(j:Int):=by rw [i64_fits (by omega)];omega
    have F3:=wrap_pred (n:=pre.length) (by omega)
    have F5:IntKind.i64.wrap (c+1)=c+1:=i64_fits (by omega)
    have F7:index (.int .i64 (pre.length:Int)) (pre.length+1)=some pre.length:=index_nat (by omega)
    rw [hb1,e0]
    simp only [fn116_b0,F1,hx,hjx,eB,G1,G2,index_nat hi,index_nat hj,List.getElem?_map,Option.map_some,List.length_map,List.map_append,List.map_cons,List.map_nil,eExt,F3,F5,F7,slAll,slsAll,Nat.reduceMul,Nat.reduceBEq,Nat.reduceLT,Nat.reduceLeDiff,memAll,vAll,reduceCtorEq,Nat.reduceEqDiff,Nat.reduceAdd,Nat.reduceLT,Nat.reduceLeDiff,Nat.beq]
    rw [ih _ (by simp only [hi1,hb2,slAll,slsAll,Nat.reduceMul,Nat.reduceBEq,Nat.reduceLT,Nat.reduceLeDiff,memAll,vAll,reduceCtorEq,Nat.reduceEqDiff,Nat.reduceAdd,Nat.reduceLT,Nat.reduceLeDiff,Nat.beq];rw [exts_snoc,e0,addAt_snoc,if_pos (by simp only;omega)];simp only [List.map_append,List.map_cons,List.map_nil,eExt,slAll,slsAll,Nat.reduceMul,Nat.reduceBEq,Nat.reduceLT,Nat.reduceLeDiff,memAll,vAll,reduceCtorEq,Nat.reduceEqDiff,Nat.reduceAdd,Nat.reduceLT,Nat.reduceLeDiff,Nat.beq]<;>rfl)]
   ·have hnew:exts (bitsN m (i+1))=exts (bitsN m i)++[⟨(i:Int),1⟩]:=by
     rw [bitsN_succ,if_pos hg,exts_snoc]
     rcases snoc_cases (bitsN m i) with h0|⟨p,j,h0⟩
     ·rw [h0];rfl
     ·obtain ⟨pre,⟨s,c⟩,e0,h1,h2,h3,h4⟩:=exts_last _ p rfl j
      have hmem:j∈bitsN m i:=by rw [h0];simp
      have hji:=bitsN_lt hmem
      have hjt:=bitsN_at hmem
      simp only at h1
      rw [h0,e0,addAt_snoc,if_neg]
      intro h
      simp only at h
      have:j=i - 1:=by omega
      rw [this] at hjt
      exact hp ⟨by omega,hjt⟩
    have hlen:(exts (bitsN m i)).length≤i:=Nat.le_trans (bits_len _ _ rfl) (bitsN_len m i)
    have F6:((exts (bitsN m i)).length+1≤lim)=True:=eq_true (by omega)
    by_cases h0:0<i
    ·obtain ⟨j,rfl⟩:∃ j,i=j+1:=⟨i - 1,by omega⟩
     have hj:j<m.length:=by omega
     have hjx:m[j]?=some false:=by
      have h2:¬ m.getD j false=true:=fun h=>hp ⟨h0,by rw [Nat.add_sub_cancel];exact h⟩
      rw [List.getD_eq_getElem?_getD,List.getElem?_eq_getElem hj] at h2
      rw [List.getElem?_eq_getElem hj];simpa using h2
     have G1:(((j+1:Nat):Int) > 0)=True:=eq_true (by omega)
     have G2:IntKind.i64.wrap (((j+1:Nat):Int) - 1)=(j:Int):=by rw [i64_fits (by omega)];omega
     simp only [fn116_b0,F1,hx,hjx,eB,G1,G2,F6,index_nat hi,index_nat hj,List.getElem?_map,Option.map_some,List.length_map,slAll,slsAll,Nat.reduceMul,Nat.reduceBEq,Nat.reduceLT,Nat.reduceLeDiff,memAll,vAll,reduceCtorEq,Nat.reduceEqDiff,Nat.reduceAdd,Nat.reduceLT,Nat.reduceLeDiff,Nat.beq]
     rw [ih _ (by simp only [hi1,hnew,List.map_append,List.map_cons,List.map_nil,eExt,slAll,slsAll,Nat.reduceMul,Nat.reduceBEq,Nat.reduceLT,Nat.reduceLeDiff,memAll,vAll,reduceCtorEq,Nat.reduceEqDiff,Nat.reduceAdd,Nat.reduceLT,Nat.reduceLeDiff,Nat.beq]<;>rfl)]
    ·obtain rfl:i=0:=by omega
     have G1:(((0:Nat):Int) > 0)=False:=eq_false (by omega)
     simp only [fn116_b0,F1,hx,eB,G1,F6,index_nat hi,List.getElem?_map,Option.map_some,List.length_map,slAll,slsAll,Nat.reduceMul,Nat.reduceBEq,Nat.reduceLT,Nat.reduceLeDiff,memAll,vAll,reduceCtorEq,Nat.reduceEqDiff,Nat.reduceAdd,Nat.reduceLT,Nat.reduceLeDiff,Nat.beq]
     rw [ih _ (by simp only [hi1,hnew,List.map_append,List.map_cons,List.map_nil,eExt,slAll,slsAll,Nat.reduceMul,Nat.reduceBEq,Nat.reduceLT,Nat.reduceLeDiff,memAll,vAll,reduceCtorEq,Nat.reduceEqDiff,Nat.reduceAdd,Nat.reduceLT,Nat.reduceLeDiff,Nat.beq]<;>rfl)]
 ·intro rb
  simp only [fn116_b0,Int.lt_irrefl,List.length_map,slAll,slsAll,Nat.reduceMul,Nat.reduceBEq,Nat.reduceLT,Nat.reduceLeDiff,memAll,vAll,reduceCtorEq,Nat.reduceEqDiff,Nat.reduceAdd,Nat.reduceLT,Nat.reduceLeDiff,Nat.beq]
theorem cal116 {m:List Bool} (hl:m.length≤lim):cal env 116 [.list 1 (m.map eB)]=some [(.list 2 ((exts (bitsN m m.length)).map eExt),true)]:=by
 rw [cal_code env116 rfl];simp only [fn116,slAll,Nat.reduceBEq,Nat.reduceLeDiff,Nat.reduceAdd,List.length_cons,List.length_nil]
 simp only [ slAll,slsAll,Nat.reduceMul,Nat.reduceBEq,Nat.reduceLT,Nat.reduceLeDiff,memAll,vAll,reduceCtorEq,Nat.reduceEqDiff,Nat.reduceAdd,Nat.reduceLT,Nat.reduceLeDiff,Nat.beq]
 rw [loop116 hl (by simp only [slAll,slsAll,Nat.reduceMul,Nat.reduceBEq,Nat.reduceLT,Nat.reduceLeDiff,Nat.reduceAdd,decide_true,Bool.and_self,Bool.true_and]<;>rfl)]
 simp only [ slAll,slsAll,Nat.reduceMul,Nat.reduceBEq,Nat.reduceLT,Nat.reduceLeDiff,memAll,vAll,reduceCtorEq,Nat.reduceEqDiff,Nat.reduceAdd,Nat.reduceLT,Nat.reduceLeDiff,Nat.beq]
end Go.Proofs.YtpcncggjmabnaaaGreatDoor.V

namespace Go.Proofs.YtpcncggjmabnaaaGreatDoor.V
def mk (f:Nat→Bool):List Bool:=(List.range 4096).map f
theorem mk_len (f:Nat→Bool):(mk f).length=4096:=by simp [mk]
theorem mk_get {f:Nat→Bool} {i:Nat} (h:i<4096):(mk f)[i]?=some (f i):=by
 unfold mk
 rw [List.getElem?_map,List.getElem?_range h];rfl
theorem mk_congr {f g:Nat→Bool} (h:∀ s,s<4096→f s=g s):mk f=mk g:=by
 unfold mk
 exact List.map_congr_left fun s hs=>h s (List.mem_range.1 hs)
theorem mk_ext {l:List Bool} {f:Nat→Bool} (hl:l.length=4096) (h:∀ i,i<4096→l[i]?=some (f i)):l=mk f:=by
 apply List.ext_getElem?
 intro i
 by_cases hi:i<4096
 ·rw [h i hi,mk_get hi]
 ·rw [List.getElem?_eq_none (by omega),List.getElem?_eq_none (by rw [mk_len];omega)]
theorem mk_false:List.replicate 4096 false=mk fun _=>false:=mk_ext List.length_replicate fun i hi=>by rw [List.getElem?_replicate,if_pos hi]
theorem mk_mark (s c:Int) (f:Nat→Bool):markX s c (mk f)=mk fun t=>f t || inX s c t:=by
 refine mk_ext (by simp [markX,mk_len]) fun i hi=>?_
 unfold markX
 rw [List.getElem?_mapIdx,mk_get hi];rfl
theorem mk_bits (f:Nat→Bool):exts (bitsN (mk f) (mk f).length)=ext f 4096:=by
 rw [mk_len]
 unfold ext bitsN
 rw [List.filter_congr]
 intro i hi
 rw [List.getD_eq_getElem?_getD,mk_get (List.mem_range.1 hi)];rfl
theorem inS_snoc (l:List Exn) (e:Exn) (s:Nat):inS (l++[e]) s=(inS l s || inE e s):=by simp [inS]
end Go.Proofs.YtpcncggjmabnaaaGreatDoor.V

namespace Go.Proofs.YtpcncggjmabnaaaGreatDoor.V
theorem calList {f:Nat→Bool}:cal env 116 [.list 1 ((mk f).map eB)]=some [(.list 2 ((ext f 4096).map eExt),true)]:=by
 have e:=cal116 (m:=mk f) (by rw [mk_len];unfold lim;decide)
 rw [mk_bits] at e
 exact e
end Go.Proofs.YtpcncggjmabnaaaGreatDoor.V

namespace Go.Proofs.YtpcncggjmabnaaaGreatDoor.V
end Go.Proofs.YtpcncggjmabnaaaGreatDoor.V

namespace Go.Proofs.YtpcncggjmabnaaaGreatDoor.V
end Go.Proofs.YtpcncggjmabnaaaGreatDoor.V

namespace Go.Proofs.YtpcncggjmabnaaaGreatDoor.V
end Go.Proofs.YtpcncggjmabnaaaGreatDoor.V

namespace Go.Proofs.YtpcncggjmabnaaaGreatDoor.V
end Go.Proofs.YtpcncggjmabnaaaGreatDoor.V

namespace Go.Proofs.YtpcncggjmabnaaaGreatDoor.V
end Go.Proofs.YtpcncggjmabnaaaGreatDoor.V

namespace Go.Proofs.YtpcncggjmabnaaaGreatDoor.V
theorem inS_add {l:List Exn} {n:Nat} (h:∀ x∈l,0≤x.start∧1≤x.count∧x.start+x.count≤(n:Int)) (s:Nat):inS (addAt l n) s=(inS l s || decide (s=n)):=by
 rcases snoc_cases l with e|⟨pre,y,e⟩
 ·subst e
  show inS [⟨(n:Int),1⟩] s=_
  rw [Bool.eq_iff_iff]
  simp [inS,inE];omega
 ·subst e
  have hy:=h y (by simp)
  rw [addAt_snoc]
  split
  ·rw [inS_snoc,inS_snoc,Bool.or_assoc]
   congr 1
   rw [Bool.eq_iff_iff]
   simp [inE];omega
  ·rw [inS_snoc (pre++[y])]
   congr 1
   rw [Bool.eq_iff_iff]
   simp [inE];omega
theorem inS_ext (p:Nat→Bool) (s:Nat):∀ n,inS (ext p n) s=(decide (s<n)&&p s)
 |0=>by simp [ext_zero,inS]
 |n+1=>by
  rw [ext_succ]
  by_cases h:p n=true
  ·rw [if_pos h,inS_add (ext_in p n),inS_ext p s n]
   by_cases h2:s=n
   ·subst h2;rw [h];simp
   ·rw [decide_eq_false h2,Bool.or_false]
    congr 1
    rw [Bool.eq_iff_iff];simp;omega
  ·rw [if_neg h,inS_ext p s n]
   by_cases h2:s=n
   ·subst h2;simp [h]
   ·congr 1
    rw [Bool.eq_iff_iff];simp;omega
end Go.Proofs.YtpcncggjmabnaaaGreatDoor.V

namespace Go.Proofs.YtpcncggjmabnaaaGreatDoor.V
def exW (v:Int) (l:List Wrt):List Exn:=(l.filter fun w=>decide (w.volume=v)).map fun w=>⟨w.start,(w.data.length:Int)⟩
theorem exW_snoc (v:Int) (l:List Wrt) (w:Wrt):exW v (l++[w])=if w.volume=v then exW v l++[⟨w.start,(w.data.length:Int)⟩] else exW v l:=by
 unfold exW
 rw [List.filter_append]
 by_cases h:w.volume=v
 ·rw [if_pos h];simp [h]
 ·rw [if_neg h];simp [h]
theorem exW_take {v:Int} {l:List Wrt} {i:Nat} (h:i<l.length):exW v (l.take (i+1))=if l[i].volume=v then exW v (l.take i)++[⟨l[i].start,(l[i].data.length:Int)⟩] else exW v (l.take i):=by
 rw [List.take_succ_eq_append_getElem h,exW_snoc]
theorem exW_len (v:Int) (l:List Wrt):(exW v l).length≤l.length:=by
 unfold exW;rw [List.length_map];exact List.length_filter_le _ _
theorem exW_mem {v:Int} {l:List Wrt} {e:Exn} (h:e∈exW v l):∃ w∈l,w.volume=v∧e=⟨w.start,(w.data.length:Int)⟩:=by
 unfold exW at h
 obtain ⟨w,hw,e1⟩:=List.mem_map.1 h
 rw [List.mem_filter] at hw
 exact ⟨w,hw.1,by simpa using hw.2,e1.symm⟩
def unX (v:Int) (l:List Wrt):List Exn:=setOf orB (exW v l) []
theorem loop107 {l:List Wrt} {v:Int} (hl:l.length≤10000) {st:St} (h:st.head [0,1,5,8,9,10,26] st.boxes.length=some ⟨sl 30 [(0,.pv (.list 3 (l.map eWr))),(1,.pv (.int .i64 v)),(5,.row 2 ((exW v (l.take ((0:Nat)))).map eExt)),(8,.pv (.list 3 (l.map eWr))),(9,.pv (.int .i64 l.length)),(10,.pv (.int .i64 (0:Nat))),(26,.any)],[],[],none⟩) :
  den env fn107_l1 st=some (.normal,⟨sl 30 [(4,.any),(5,.row 2 ((exW v l).map eExt))],[],[],none⟩):=by
 unfold fn107_l1
 refine clean_up (env:=env) (l.length) (fun i=>⟨sl 30 [(0,.pv (.list 3 (l.map eWr))),(1,.pv (.int .i64 v)),(5,.row 2 ((exW v (l.take (i))).map eExt)),(8,.pv (.list 3 (l.map eWr))),(9,.pv (.int .i64 l.length)),(10,.pv (.int .i64 i)),(26,.any)],[],[],none⟩) (fun i=>some (.normal,⟨sl 30 [(4,.any),(5,.row 2 ((exW v l).map eExt))],[],[],none⟩)) h (fun _=>rfl) (fun _=>by simp only [slAll,slsAll,Nat.reduceMul,Nat.reduceBEq,Nat.reduceLT,Nat.reduceLeDiff,Nat.reduceAdd,decide_true,Bool.and_self,Bool.true_and]) ?_ ?_
 ·intro i rb hi ih
  have hi1:=i64_next hi (by unfold lim;omega)
  have F1:((i:Int)<(l.length:Int))=True:=eq_true (by omega)
  have hx:=eWr_at hi
  have hh:=exW_take (v:=v) hi
  by_cases c:l[i].volume=v
  ·have G:(l[i].volume==v)=true:=by simp [c]
   have F5:((exW v (l.take i)).length+1≤lim)=True:=eq_true (by have:=exW_len v (l.take i);rw [List.length_take] at this;unfold lim;omega)
   rw [if_pos c] at hh
   have hs:(exW v (l.take (i+1))).map eExt=(exW v (l.take i)).map eExt++[.agg [.int .i64 l[i].start,.int .i64 (l[i].data.length:Int)]]:=by rw [hh,List.map_append];rfl
   rw [hs] at ih
   simp only [fn107_b0,F1,F5,G,hx,part3,index_nat hi,List.length_map,slAll,slsAll,Nat.reduceMul,Nat.reduceBEq,Nat.reduceLT,Nat.reduceLeDiff,memAll,vAll,reduceCtorEq,Nat.reduceEqDiff,Nat.reduceAdd,Nat.reduceLT,Nat.reduceLeDiff,Nat.beq] at *
   rw [ih _ (by simp only [hi1,slAll,slsAll,Nat.reduceMul,Nat.reduceBEq,Nat.reduceLT,Nat.reduceLeDiff,memAll,vAll,reduceCtorEq,Nat.reduceEqDiff,Nat.reduceAdd,Nat.reduceLT,Nat.reduceLeDiff,Nat.beq]<;>rfl)]
  ·have G:(l[i].volume==v)=false:=by simp [c]
   rw [if_neg c] at hh
   rw [hh] at ih
   simp only [fn107_b0,F1,G,hx,part3,index_nat hi,List.length_map,slAll,slsAll,Nat.reduceMul,Nat.reduceBEq,Nat.reduceLT,Nat.reduceLeDiff,memAll,vAll,reduceCtorEq,Nat.reduceEqDiff,Nat.reduceAdd,Nat.reduceLT,Nat.reduceLeDiff,Nat.beq] at *
   rw [ih _ (by simp only [hi1,slAll,slsAll,Nat.reduceMul,Nat.reduceBEq,Nat.reduceLT,Nat.reduceLeDiff,memAll,vAll,reduceCtorEq,Nat.reduceEqDiff,Nat.reduceAdd,Nat.reduceLT,Nat.reduceLeDiff,Nat.beq]<;>rfl)]
 ·intro rb
  rw [List.take_length]
  simp only [fn107_b0,Int.lt_irrefl,List.length_map,slAll,slsAll,Nat.reduceMul,Nat.reduceBEq,Nat.reduceLT,Nat.reduceLeDiff,memAll,vAll,reduceCtorEq,Nat.reduceEqDiff,Nat.reduceAdd,Nat.reduceLT,Nat.reduceLeDiff,Nat.beq]
theorem cal107 {l:List Wrt} {v:Int} (hl:l.length≤10000) (ho:okEs (exW v l)):cal env 107 [.list 3 (l.map eWr),.int .i64 v]=some [(.list 2 ((unX v l).map eExt),true)]:=by
 have e1:=cal120 (a:=exW v l) (b:=[]) ho okEs_nil (by have:=exW_len v l;omega) (by simp)
 simp only [List.map_nil] at e1
 unfold unX
 rw [cal_code env107 rfl];simp only [fn107,slAll,Nat.reduceBEq,Nat.reduceLeDiff,Nat.reduceAdd,List.length_cons,List.length_nil]
 simp only [e1,List.length_map,slAll,slsAll,Nat.reduceMul,Nat.reduceBEq,Nat.reduceLT,Nat.reduceLeDiff,memAll,vAll,reduceCtorEq,Nat.reduceEqDiff,Nat.reduceAdd,Nat.reduceLT,Nat.reduceLeDiff,Nat.beq]
 rw [loop107 hl (by simp only [slAll,slsAll,Nat.reduceMul,Nat.reduceBEq,Nat.reduceLT,Nat.reduceLeDiff,Nat.reduceAdd,decide_true,Bool.and_self,Bool.true_and]<;>rfl)]
 simp only [e1,List.length_map,slAll,slsAll,Nat.reduceMul,Nat.reduceBEq,Nat.reduceLT,Nat.reduceLeDiff,memAll,vAll,reduceCtorEq,Nat.reduceEqDiff,Nat.reduceAdd,Nat.reduceLT,Nat.reduceLeDiff,Nat.beq]
theorem unX_fit {v:Int} {l:List Wrt} {n:Int} (hn:0≤n∧n≤4096) (h:∀ e∈exW v l,bmFit n e=true):(∀ e∈unX v l,bmFit n e=true)∧∀ s:Nat,inS (unX v l) s=inS (exW v l) s:=by
 have h0:∀ s:Nat,n≤(s:Int)→inS (exW v l) s=false:=fun s hs=>by
  unfold inS
  rw [List.any_eq_false]
  intro e he
  have:=bmFit_iff.1 (h e he)
  rw [inE_fit (h e he) s]
  simp
  omega
 have e1:unX v l=ext (fun s=>inS (exW v l) s) n.toNat:=by
  unfold unX setOf
  have:(fun s=>orB (inS (exW v l) s) (inS [] s))=fun s=>inS (exW v l) s:=by
   funext s
   simp [orB,inS]
  rw [this]
  have hk:=ext_false (p:=fun s=>inS (exW v l) s) (a:=n.toNat) (4096 - n.toNat) (fun s h1 _=>h0 s (by omega))
  rw [show n.toNat+(4096 - n.toNat)=4096 by omega] at hk
  exact hk
 rw [e1]
 refine ⟨fun e he=>?_,fun s=>?_⟩
 ·have:=ext_in _ _ e he
  exact bmFit_iff.2 (by omega)
 ·rw [inS_ext]
  by_cases c:s<n.toNat
  ·rw [decide_eq_true c,Bool.true_and]
  ·rw [decide_eq_false c,Bool.false_and,h0 s (by omega)]
theorem okEs_fit {n:Int} (hn:0≤n∧n≤4096) {l:List Exn} (h:∀ e∈l,bmFit n e=true):okEs l:=fun e he=>by
 have:=bmFit_iff.1 (h e he)
 exact ⟨by omega,by omega⟩
theorem unX_len (v:Int) (l:List Wrt):(unX v l).length≤4096:=ext_len _ _
attribute [irreducible] unX
end Go.Proofs.YtpcncggjmabnaaaGreatDoor.V

namespace Go.Proofs.YtpcncggjmabnaaaGreatDoor.V
def toI {α:Type} (g:Nat→α→α) (l:List α) (i:Nat):List α:=l.mapIdx fun v b=>if v<i then g v b else b
theorem toI_len {α:Type} (g:Nat→α→α) (l:List α) (i:Nat):(toI g l i).length=l.length:=by simp [toI]
theorem toI_at {α:Type} (g:Nat→α→α) {l:List α} {i:Nat} (h:i<l.length):(toI g l i)[i]?=some l[i]:=by
 simp [toI,List.getElem?_mapIdx,List.getElem?_eq_getElem h]
theorem toI_zero {α:Type} (g:Nat→α→α) (l:List α):toI g l 0=l:=by
 apply List.ext_getElem
 ·exact toI_len _ _ _
 ·intro n h1 h2;simp [toI]
theorem toI_succ {α:Type} (g:Nat→α→α) {l:List α} {i:Nat} (h:i<l.length):(toI g l i).set i (g i l[i])=toI g l (i+1):=by
 apply List.ext_getElem
 ·simp [toI]
 ·intro n h1 h2
  rw [List.getElem_set]
  simp only [toI,List.getElem_mapIdx]
  by_cases c:i=n
  ·subst c;simp
  ·rw [if_neg c]
   by_cases c2:n<i
   ·rw [if_pos c2,if_pos (by omega)]
   ·rw [if_neg c2,if_neg (by omega)]
theorem toI_all {α:Type} (g:Nat→α→α) (l:List α):toI g l l.length=l.mapIdx g:=by
 apply List.ext_getElem
 ·simp [toI]
 ·intro n h1 h2
  simp only [toI,List.getElem_mapIdx]
  rw [if_pos (by simpa using h2)]
def mkB (ws:List Wrt) (v:Nat) (b:Bm):Bm:=frB b (unX (v:Int) ws)
def mkL (ws:List Wrt) (l:List Bm):List Bm:=l.mapIdx (mkB ws)
def mkI (ws:List Wrt) (l:List Bm) (v k:Nat) (b:Bm):List Bm:=(toI (mkB ws) l v).set v (frB b ((unX (v:Int) ws).take k))
def fitMk (ws:List Wrt) (l:List Bm):Prop:=∀ v (h:v<l.length),okB l[v]=true∧∀ e∈exW (v:Int) ws,bmFit l[v].size e=true
theorem fit_step {ws:List Wrt} {l:List Bm} (hf:fitMk ws l) {v:Nat} (h:v<l.length) {k:Nat} (hk:k<(unX (v:Int) ws).length):chE (frB l[v] ((unX (v:Int) ws).take k)) (unX (v:Int) ws)[k]=0∧chO orW (frB l[v] ((unX (v:Int) ws).take k)) (unX (v:Int) ws)[k]=frB l[v] ((unX (v:Int) ws).take (k+1)):=by
 obtain ⟨h1,h2⟩:=hf v h
 have hs:=okB_size h1
 obtain ⟨h3,_⟩:=unX_fit ⟨hs.1,hs.2.1⟩ h2
 obtain ⟨g1,g2,g3,g4⟩:=fr_ok ((unX (v:Int) ws).take k) h1 (fun e he=>h3 e (List.mem_of_mem_take he))
 obtain ⟨k1,_⟩:=set_ok g2 (e:=(unX (v:Int) ws)[k]) (by rw [g3];exact h3 _ (List.getElem_mem hk))
 refine ⟨k1,?_⟩
 unfold frB
 rw [List.take_succ_eq_append_getElem hk,List.foldl_append]
 rfl
theorem eExt_at24 {l:List Exn} {i:Nat} (h:i<l.length):(l.map eExt)[i]?=some (.agg [.int .i64 l[i].start,.int .i64 l[i].count]):=by rw [List.getElem?_map,List.getElem?_eq_getElem h];rfl
theorem mkI_at (ws:List Wrt) {l:List Bm} {v:Nat} (h:v<l.length) (k:Nat) (b:Bm):((mkI ws l v k b).map eBm)[v]?=some (.agg [.int .i64 (frB b ((unX (v:Int) ws).take k)).size,.list 1 ((frB b ((unX (v:Int) ws).take k)).ws.map eW)]):=by
 unfold mkI
 rw [List.getElem?_map,List.getElem?_set_self (by rw [toI_len];exact h)]
 rfl
theorem mkI_set (ws:List Wrt) (l:List Bm) (v k k2:Nat) (b:Bm):((mkI ws l v k b).map eBm).set v (.agg [.int .i64 (frB b ((unX (v:Int) ws).take k2)).size,.list 1 ((frB b ((unX (v:Int) ws).take k2)).ws.map eW)])=(mkI ws l v k2 b).map eBm:=by
 unfold mkI
 rw [List.map_set,List.set_set,List.map_set]
 rfl
theorem mkI_zero (ws:List Wrt) {l:List Bm} {v:Nat} (h:v<l.length):mkI ws l v 0 l[v]=toI (mkB ws) l v:=by
 unfold mkI
 rw [List.take_zero]
 have:(toI (mkB ws) l v)[v]'(by rw [toI_len];exact h)=l[v]:=by
  have:=toI_at (mkB ws) h
  rw [List.getElem?_eq_getElem (by rw [toI_len];exact h)] at this
  exact Option.some.inj this
 show (toI (mkB ws) l v).set v l[v]=_
 rw [← this]
 exact List.set_getElem_self _
theorem mkI_all (ws:List Wrt) {l:List Bm} {v:Nat} (h:v<l.length):mkI ws l v (unX (v:Int) ws).length l[v]=toI (mkB ws) l (v+1):=by
 unfold mkI
 rw [List.take_length,← toI_succ (mkB ws) h]
 rfl
theorem mkI_len (ws:List Wrt) (l:List Bm) (v k:Nat) (b:Bm):(mkI ws l v k b).length=l.length:=by simp [mkI,toI_len]
theorem loop76 {c:Cye} {l:List Bm} {v:Nat} (hv:v<l.length) (hl:l.length≤1000) (hf:fitMk c.ws l) {st:St} (h:st.head [0,3,6,12,13,19,20,21] st.boxes.length=some ⟨sl 44 [(0,.row 2 ((mkI c.ws l v ((0:Nat)) l[v]).map eBm)),(3,.pbox 0 0),(6,.pv (.int .i64 v)),(12,.pv (.int .i64 l.length)),(13,.pv (.int .i64 v)),(19,.row 2 ((unX (v:Int) c.ws).map eExt)),(20,.pv (.int .i64 (unX (v:Int) c.ws).length)),(21,.pv (.int .i64 (0:Nat)))],[⟨false,bCye c⟩],[],none⟩) :
  den env fn76_l1 st=some (.normal,⟨sl 44 [(0,.row 2 ((toI (mkB c.ws) l (v+1)).map eBm)),(3,.pbox 0 0),(4,.any),(5,.any),(12,.pv (.int .i64 l.length)),(13,.pv (.int .i64 v))],[⟨false,bCye c⟩],[],none⟩):=by
 unfold fn76_l1
 refine clean_up (env:=env) ((unX (v:Int) c.ws).length) (fun i=>⟨sl 44 [(0,.row 2 ((mkI c.ws l v (i) l[v]).map eBm)),(3,.pbox 0 0),(6,.pv (.int .i64 v)),(12,.pv (.int .i64 l.length)),(13,.pv (.int .i64 v)),(19,.row 2 ((unX (v:Int) c.ws).map eExt)),(20,.pv (.int .i64 (unX (v:Int) c.ws).length)),(21,.pv (.int .i64 i))],[⟨false,bCye c⟩],[],none⟩) (fun i=>some (.normal,⟨sl 44 [(0,.row 2 ((toI (mkB c.ws) l (v+1)).map eBm)),(3,.pbox 0 0),(4,.any),(5,.any),(12,.pv (.int .i64 l.length)),(13,.pv (.int .i64 v))],[⟨false,bCye c⟩],[],none⟩)) h (fun _=>rfl) (fun _=>by simp only [slAll,slsAll,Nat.reduceMul,Nat.reduceBEq,Nat.reduceLT,Nat.reduceLeDiff,Nat.reduceAdd,decide_true,Bool.and_self,Bool.true_and]) ?_ ?_
 ·intro i rb hi ih
  have hl2:(unX (v:Int) c.ws).length≤4096:=unX_len _ _
  have hi1:=i64_next hi (by unfold lim;omega)
  have F1:((i:Int)<((unX (v:Int) c.ws).length:Int))=True:=eq_true (by omega)
  have hx:=eExt_at24 (l:=unX (v:Int) c.ws) (i:=i) hi
  have hy:=mkI_at c.ws hv i l[v]
  have hs:=mkI_set c.ws l v i (i+1) l[v]
  obtain ⟨k1,k2⟩:=fit_step hf hv hi
  have e1:=cal108 (b:=frB l[v] ((unX (v:Int) c.ws).take i)) (e:=(unX (v:Int) c.ws)[i])
  rw [k1,k2,show eBm (frB l[v] ((unX (v:Int) c.ws).take i))=.agg [.int .i64 (frB l[v] ((unX (v:Int) c.ws).take i)).size,.list 1 ((frB l[v] ((unX (v:Int) c.ws).take i)).ws.map eW)] from rfl,show eBm (frB l[v] ((unX (v:Int) c.ws).take (i+1)))=.agg [.int .i64 (frB l[v] ((unX (v:Int) c.ws).take (i+1))).size,.list 1 ((frB l[v] ((unX (v:Int) c.ws).take (i+1))).ws.map eW)] from rfl,show eExt (unX (v:Int) c.ws)[i]=.agg [.int .i64 (unX (v:Int) c.ws)[i].start,.int .i64 (unX (v:Int) c.ws)[i].count] from rfl] at e1
  have Z:((0:Int) != 0)=false:=rfl
  have hvl:v<(mkI c.ws l v i l[v]).length:=by rw [mkI_len];exact hv
  simp only [fn76_b0,F1,e1,Z,hx,hy,hs,part2,bCye_eq,index_nat hi,mkI_len,index_nat hv,List.length_map,slAll,slsAll,Nat.reduceMul,Nat.reduceBEq,Nat.reduceLT,Nat.reduceLeDiff,memAll,vAll,reduceCtorEq,Nat.reduceEqDiff,Nat.reduceAdd,Nat.reduceLT,Nat.reduceLeDiff,Nat.beq]
  rw [ih _ (by simp only [hi1,bCye_eq,slAll,slsAll,Nat.reduceMul,Nat.reduceBEq,Nat.reduceLT,Nat.reduceLeDiff,memAll,vAll,reduceCtorEq,Nat.reduceEqDiff,Nat.reduceAdd,Nat.reduceLT,Nat.reduceLeDiff,Nat.beq]<;>rfl)]
  rfl
 ·intro rb
  rw [mkI_all c.ws hv]
  simp only [fn76_b0,Int.lt_irrefl,bCye_eq,List.length_map,slAll,slsAll,Nat.reduceMul,Nat.reduceBEq,Nat.reduceLT,Nat.reduceLeDiff,memAll,vAll,reduceCtorEq,Nat.reduceEqDiff,Nat.reduceAdd,Nat.reduceLT,Nat.reduceLeDiff,Nat.beq]
theorem loop76l3 {c:Cye} {l:List Bm} (ho:okCy c) (hl:l.length≤1000) (hf:fitMk c.ws l) {st:St} (h:st.head [0,3,12,13] st.boxes.length=some ⟨sl 44 [(0,.row 2 ((toI (mkB c.ws) l ((0:Nat))).map eBm)),(3,.pbox 0 0),(12,.pv (.int .i64 l.length)),(13,.pv (.int .i64 (0:Nat)))],[⟨false,bCye c⟩],[],none⟩) :
  den env fn76_l3 st=some (.normal,⟨sl 44 [(0,.row 2 ((mkL c.ws l).map eBm)),(4,.any),(5,.any)],[⟨false,bCye c⟩],[],none⟩):=by
 unfold fn76_l3
 refine clean_up (env:=env) (l.length) (fun i=>⟨sl 44 [(0,.row 2 ((toI (mkB c.ws) l (i)).map eBm)),(3,.pbox 0 0),(12,.pv (.int .i64 l.length)),(13,.pv (.int .i64 i))],[⟨false,bCye c⟩],[],none⟩) (fun i=>some (.normal,⟨sl 44 [(0,.row 2 ((mkL c.ws l).map eBm)),(4,.any),(5,.any)],[⟨false,bCye c⟩],[],none⟩)) h (fun _=>rfl) (fun _=>by simp only [slAll,slsAll,Nat.reduceMul,Nat.reduceBEq,Nat.reduceLT,Nat.reduceLeDiff,Nat.reduceAdd,decide_true,Bool.and_self,Bool.true_and]) ?_ ?_
 ·intro i rb hi ih
  have hi1:=i64_next hi (by unfold lim;omega)
  have F1:((i:Int)<(l.length:Int))=True:=eq_true (by omega)
  obtain ⟨h1,h2⟩:=hf i hi
  have h3:=okB_size h1
  have e1:=cal107 (l:=c.ws) (v:=(i:Int)) ho.2.1 (okEs_fit ⟨h3.1,h3.2.1⟩ h2)
  have hz:=mkI_zero c.ws hi
  simp only [fn76_b2,F1,e1,bCye_eq,List.length_map,slAll,slsAll,Nat.reduceMul,Nat.reduceBEq,Nat.reduceLT,Nat.reduceLeDiff,memAll,vAll,reduceCtorEq,Nat.reduceEqDiff,Nat.reduceAdd,Nat.reduceLT,Nat.reduceLeDiff,Nat.beq]
  rw [loop76 (c:=c) (l:=l) (v:=i) hi hl hf (by simp only [hz,bCye_eq];simp only [slAll,slsAll,Nat.reduceMul,Nat.reduceBEq,Nat.reduceLT,Nat.reduceLeDiff,Nat.reduceAdd,decide_true,Bool.and_self,Bool.true_and]<;>rfl)]
  simp only [bCye_eq,slAll,slsAll,Nat.reduceMul,Nat.reduceBEq,Nat.reduceLT,Nat.reduceLeDiff,memAll,vAll,reduceCtorEq,Nat.reduceEqDiff,Nat.reduceAdd,Nat.reduceLT,Nat.reduceLeDiff,Nat.beq]
  rw [ih _ (by simp only [hi1,bCye_eq,slAll,slsAll,Nat.reduceMul,Nat.reduceBEq,Nat.reduceLT,Nat.reduceLeDiff,memAll,vAll,reduceCtorEq,Nat.reduceEqDiff,Nat.reduceAdd,Nat.reduceLT,Nat.reduceLeDiff,Nat.beq]<;>rfl)]
  rfl
 ·intro rb
  rw [toI_all,show l.mapIdx (mkB c.ws)=mkL c.ws l from rfl]
  simp only [fn76_b2,Int.lt_irrefl,bCye_eq,List.length_map,slAll,slsAll,Nat.reduceMul,Nat.reduceBEq,Nat.reduceLT,Nat.reduceLeDiff,memAll,vAll,reduceCtorEq,Nat.reduceEqDiff,Nat.reduceAdd,Nat.reduceLT,Nat.reduceLeDiff,Nat.beq]
theorem cal76 {c:Cye} {l:List Bm} (ho:okCy c) (hl:l.length≤1000) (hf:fitMk c.ws l):calL env 76 (.row 2 (l.map eBm)) [eCye c]=some ([(.list 2 ((mkL c.ws l).map eBm),true),(.int .i64 0,false)],none):=by
 rw [calL_code env76 rfl,eCye_eq]
 simp only [fn76,slAll,Nat.reduceBEq,Nat.reduceLeDiff,Nat.reduceAdd,List.length_cons,List.length_nil]
 simp only [List.length_map,slAll,slsAll,Nat.reduceMul,Nat.reduceBEq,Nat.reduceLT,Nat.reduceLeDiff,memAll,vAll,reduceCtorEq,Nat.reduceEqDiff,Nat.reduceAdd,Nat.reduceLT,Nat.reduceLeDiff,Nat.beq]
 rw [loop76l3 (c:=c) (l:=l) ho hl hf (by simp only [toI_zero,bCye_eq];simp only [slAll,slsAll,Nat.reduceMul,Nat.reduceBEq,Nat.reduceLT,Nat.reduceLeDiff,Nat.reduceAdd,decide_true,Bool.and_self,Bool.true_and]<;>rfl)]
 simp only [bCye_eq,slAll,slsAll,Nat.reduceMul,Nat.reduceBEq,Nat.reduceLT,Nat.reduceLeDiff,memAll,vAll,reduceCtorEq,Nat.reduceEqDiff,Nat.reduceAdd,Nat.reduceLT,Nat.reduceLeDiff,Nat.beq]
end Go.Proofs.YtpcncggjmabnaaaGreatDoor.V

namespace Go.Proofs.YtpcncggjmabnaaaGreatDoor.V
def bmZ (z:List Int) (l:List Bm):Prop:=l.length=z.length∧∀ v (h:v<l.length),okB l[v]=true∧l[v].size=z.getD v 0
def fitW (z:List Int) (ws:List Wrt):Prop:=∀ v,v<z.length→∀ e∈exW (v:Int) ws,bmFit (z.getD v 0) e=true
theorem fit_of {z:List Int} {l:List Bm} {ws:List Wrt} (h:bmZ z l) (hw:fitW z ws):fitMk ws l:=fun v hv=>by
 obtain ⟨h1,h2⟩:=h.2 v hv
 refine ⟨h1,fun e he=>?_⟩
 rw [h2]
 exact hw v (by rw [← h.1];exact hv) e he
theorem mkL_z {z:List Int} {l:List Bm} {ws:List Wrt} (h:bmZ z l) (hw:fitW z ws):bmZ z (mkL ws l):=by
 refine ⟨by unfold mkL;rw [List.length_mapIdx];exact h.1,fun v hv=>?_⟩
 have hv':v<l.length:=by unfold mkL at hv;rw [List.length_mapIdx] at hv;exact hv
 obtain ⟨h1,h2⟩:=h.2 v hv'
 have h3:=okB_size h1
 obtain ⟨_,k1⟩:=fit_of h hw v hv'
 obtain ⟨g1,g2,g3,g4⟩:=fr_ok (unX (v:Int) ws) h1 (unX_fit ⟨h3.1,h3.2.1⟩ k1).1
 have e1:(mkL ws l)[v]=frB l[v] (unX (v:Int) ws):=by simp [mkL,mkB]
 rw [e1]
 exact ⟨g2,g3.trans h2⟩
def mkLs (l:List Bm) (cs:List Cye):List Bm:=cs.foldl (fun d c=>mkL c.ws d) l
theorem mkLs_snoc (l:List Bm) {cs:List Cye} {i:Nat} (h:i<cs.length):mkLs l (cs.take (i+1))=mkL cs[i].ws (mkLs l (cs.take i)):=by
 unfold mkLs
 rw [List.take_succ_eq_append_getElem h,List.foldl_append]
 rfl
theorem mkLs_z {z:List Int}:∀ {cs:List Cye} {l:List Bm},bmZ z l→(∀ c∈cs,fitW z c.ws)→bmZ z (mkLs l cs)
 |[],l,h,_=>h
 |c :: cs,l,h,hw=>mkLs_z (cs:=cs) (l:=mkL c.ws l) (mkL_z h (hw c (by simp))) (fun x hx=>hw x (by simp [hx]))
theorem loop75 {z:List Int} {cs:List Cye} {dt:List Bm} (hc:∀ c∈cs,okCy c∧fitW z c.ws) (hz:z.length≤1000) (hd:bmZ z dt) (hl:cs.length≤10000) {x0 x1 x2 x3 x4 x5:BV} {st:St} (h:st.head [1,2,4,9,10,11] st.boxes.length=some ⟨sl 29 [(1,.pv (.list 5 (cs.map eCye))),(2,.pbox 0 0),(4,.pbox 1 0),(9,.pv (.list 5 (cs.map eCye))),(10,.pv (.int .i64 cs.length)),(11,.pv (.int .i64 (0:Nat)))],[⟨false,[x0,x1,x2,x3,x4,x5,.row 2 ((mkLs dt (cs.take ((0:Nat)))).map eBm)]⟩,⟨false,zSp⟩],[],none⟩) :
  den env fn75_l1 st=some (.normal,⟨sl 29 [(2,.pbox 0 0),(4,.pbox 1 0),(5,.any)],[⟨false,[x0,x1,x2,x3,x4,x5,.row 2 ((mkLs dt cs).map eBm)]⟩,⟨false,zSp⟩],[],none⟩):=by
 unfold fn75_l1
 refine clean_up (env:=env) (cs.length) (fun i=>⟨sl 29 [(1,.pv (.list 5 (cs.map eCye))),(2,.pbox 0 0),(4,.pbox 1 0),(9,.pv (.list 5 (cs.map eCye))),(10,.pv (.int .i64 cs.length)),(11,.pv (.int .i64 i))],[⟨false,[x0,x1,x2,x3,x4,x5,.row 2 ((mkLs dt (cs.take (i))).map eBm)]⟩,⟨false,zSp⟩],[],none⟩) (fun i=>some (.normal,⟨sl 29 [(2,.pbox 0 0),(4,.pbox 1 0),(5,.any)],[⟨false,[x0,x1,x2,x3,x4,x5,.row 2 ((mkLs dt cs).map eBm)]⟩,⟨false,zSp⟩],[],none⟩)) h (fun _=>rfl) (fun _=>by simp only [slAll,slsAll,Nat.reduceMul,Nat.reduceBEq,Nat.reduceLT,Nat.reduceLeDiff,Nat.reduceAdd,decide_true,Bool.and_self,Bool.true_and]) ?_ ?_
 ·intro i rb hi ih
  have hi1:=i64_next hi (by unfold lim;omega)
  have F1:((i:Int)<(cs.length:Int))=True:=eq_true (by omega)
  have hx:=eCye_at hi
  obtain ⟨o1,o2⟩:=hc _ (List.getElem_mem hi)
  have q:=mkLs_z (cs:=cs.take i) hd (fun c h=>(hc c (List.mem_of_mem_take h)).2)
  have e1:=cal76 (c:=cs[i]) (l:=mkLs dt (cs.take i)) o1 (by rw [q.1];exact hz) (fit_of q o2)
  rw [← mkLs_snoc dt hi,eCye_eq] at e1
  have Z:((0:Int) != 0)=false:=rfl
  simp only [fn75_b0,F1,e1,Z,hx,part5,zSp_eq,index_nat hi,List.length_map,slAll,slsAll,Nat.reduceMul,Nat.reduceBEq,Nat.reduceLT,Nat.reduceLeDiff,memAll,vAll,reduceCtorEq,Nat.reduceEqDiff,Nat.reduceAdd,Nat.reduceLT,Nat.reduceLeDiff,Nat.beq]
  rw [ih _ (by simp only [hi1,zSp_eq,slAll,slsAll,Nat.reduceMul,Nat.reduceBEq,Nat.reduceLT,Nat.reduceLeDiff,memAll,vAll,reduceCtorEq,Nat.reduceEqDiff,Nat.reduceAdd,Nat.reduceLT,Nat.reduceLeDiff,Nat.beq]<;>rfl)]
  rfl
 ·intro rb
  rw [List.take_length]
  simp only [fn75_b0,Int.lt_irrefl,zSp_eq,List.length_map,slAll,slsAll,Nat.reduceMul,Nat.reduceBEq,Nat.reduceLT,Nat.reduceLeDiff,memAll,vAll,reduceCtorEq,Nat.reduceEqDiff,Nat.reduceAdd,Nat.reduceLT,Nat.reduceLeDiff,Nat.beq]
def aSpl (s:Spl):List AV:=[.pv (.int .i64 s.lm),.row 1 (s.sz.map eI),.row 5 (s.cy.map eCye),.pv (.bool s.ov),.pv (.int .i64 s.fs),.pv (.int .i64 s.ls),.row 2 (s.dt.map eBm)]
theorem aSpl_eq (s:Spl):aSpl s=[.pv (.int .i64 s.lm),.row 1 (s.sz.map eI),.row 5 (s.cy.map eCye),.pv (.bool s.ov),.pv (.int .i64 s.fs),.pv (.int .i64 s.ls),.row 2 (s.dt.map eBm)]:=rfl
theorem cal75 {z:List Int} {cs:List Cye} {s:Spl} (hc:∀ c∈cs,okCy c∧fitW z c.ws) (hz:z.length≤1000) (hd:bmZ z s.dt) (hl:cs.length≤10000):calL env 75 (.own (aSpl s)) [.list 5 (cs.map eCye)]=some ([(eSpl { s with dt:=mkLs s.dt cs },false),(.int .i64 0,false)],none):=by
 rw [calL_code env75 rfl,aSpl_eq,eSpl_eq]
 simp only [fn75,slAll,Nat.reduceBEq,Nat.reduceLeDiff,Nat.reduceAdd,List.length_cons,List.length_nil]
 simp only [List.length_map,slAll,slsAll,Nat.reduceMul,Nat.reduceBEq,Nat.reduceLT,Nat.reduceLeDiff,memAll,vAll,reduceCtorEq,Nat.reduceEqDiff,Nat.reduceAdd,Nat.reduceLT,Nat.reduceLeDiff,Nat.beq]
 rw [loop75 (cs:=cs) (dt:=s.dt) hc hz hd hl (by simp only [zSp_eq];simp only [slAll,slsAll,Nat.reduceMul,Nat.reduceBEq,Nat.reduceLT,Nat.reduceLeDiff,Nat.reduceAdd,decide_true,Bool.and_self,Bool.true_and]<;>rfl)]
 simp only [zSp_eq,part7,slAll,slsAll,Nat.reduceMul,Nat.reduceBEq,Nat.reduceLT,Nat.reduceLeDiff,memAll,vAll,reduceCtorEq,Nat.reduceEqDiff,Nat.reduceAdd,Nat.reduceLT,Nat.reduceLeDiff,Nat.beq]
end Go.Proofs.YtpcncggjmabnaaaGreatDoor.V
