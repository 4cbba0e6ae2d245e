/-
  Part 8 of the texts that the statement stands on.
-/
import Derived.Test.YtioijcfcehhmdaaGreatDoorZ7
import Derived.Test.YtioijcfcehhmdaaGreatDoorRows
import Derived.WalkSmall
import Derived.WalkSpells
import Derived.Lib.SliceRun
set_option linter.all false
namespace Go.Proofs.YtioijcfcehhmdaaGreatDoor.V
structure SwSt where
 d0:Int
 d1:Int
 st:Int
 ins:Bool
 out:List Exn
def swStep (keep:Bool→Bool→Bool) (x:End) (same:Bool) (s:SwSt):SwSt :=
 if same then ⟨if x.list=0 then s.d0+x.step else s.d0,if x.list=1 then s.d1+x.step else s.d1,s.st,s.ins,s.out⟩
 else ⟨if x.list=0 then s.d0+x.step else s.d0,if x.list=1 then s.d1+x.step else s.d1,
  if keep (decide ((if x.list=0 then s.d0+x.step else s.d0) > 0)) (decide ((if x.list=1 then s.d1+x.step else s.d1) > 0))&&!s.ins then x.pos else s.st,
  keep (decide ((if x.list=0 then s.d0+x.step else s.d0) > 0)) (decide ((if x.list=1 then s.d1+x.step else s.d1) > 0)),
  s.out++(if !keep (decide ((if x.list=0 then s.d0+x.step else s.d0) > 0)) (decide ((if x.list=1 then s.d1+x.step else s.d1) > 0))&&s.ins then [⟨s.st,x.pos - s.st⟩] else [])⟩
def swAt (keep:Bool→Bool→Bool) (L:List End):Nat→SwSt
 |0=>⟨0,0,0,false,[]⟩
 |i+1=>match L[i]? with
  |some x=>swStep keep x (nextSame x (L.drop (i+1))) (swAt keep L i)
  |none=>swAt keep L i
theorem swAt_succ {keep:Bool→Bool→Bool} {L:List End} {i:Nat} {x:End} (h:L[i]?=some x):swAt keep L (i+1)=swStep keep x (nextSame x (L.drop (i+1))) (swAt keep L i):=by
 show (match L[i]? with
  |some x=>swStep keep x (nextSame x (L.drop (i+1))) (swAt keep L i)
  |none=>swAt keep L i)=_
 rw [h]
theorem swAt_go (keep:Bool→Bool→Bool) (L:List End):∀ i,i≤L.length→(swAt keep L i).out++swGo keep (L.drop i) (swAt keep L i).d0 (swAt keep L i).d1 (swAt keep L i).st (swAt keep L i).ins=swGo keep L 0 0 0 false
 |0,_=>rfl
 |i+1,hi=>by
  have ih:=swAt_go keep L i (by omega)
  have hx:L[i]?=some L[i]:=List.getElem?_eq_getElem (by omega)
  rw [← ih,swAt_succ hx,List.drop_eq_getElem_cons (show i<L.length by omega)]
  generalize L[i]=x
  generalize swAt keep L i=s
  conv=>rhs;unfold swGo
  unfold swStep
  cases nextSame x (L.drop (i+1)) with
  |true=>rfl
  |false=>simp only [Bool.false_eq_true,if_false,List.append_assoc]
theorem swAt_end (keep:Bool→Bool→Bool) (L:List End):(swAt keep L L.length).out=swGo keep L 0 0 0 false:=by
 have:=swAt_go keep L L.length (Nat.le_refl _)
 rw [List.drop_length] at this
 simpa [swGo] using this
theorem swAt_small {keep:Bool→Bool→Bool} {L:List End} (h:∀ x∈L,(x.step=1∨x.step=-1)∧x.pos≤4096):∀ i:Nat,(-(i:Int)≤(swAt keep L i).d0∧(swAt keep L i).d0≤i)∧(-(i:Int)≤(swAt keep L i).d1∧(swAt keep L i).d1≤i)∧(0≤(swAt keep L i).st∧(swAt keep L i).st≤4096)
 |0=>by simp [swAt]
 |i+1=>by
  obtain ⟨h1,h2,h3⟩:=swAt_small (keep:=keep) h i
  cases hx:L[i]? with
  |none =>
   have:swAt keep L (i+1)=swAt keep L i:=by
    show (match L[i]? with
     |some x=>swStep keep x (nextSame x (L.drop (i+1))) (swAt keep L i)
     |none=>swAt keep L i)=_
    rw [hx]
   rw [this]
   omega
  |some x =>
   rw [swAt_succ hx]
   obtain ⟨k1,k2⟩:=h x (List.mem_of_getElem? hx)
   generalize swAt keep L i=s at *
   unfold swStep
   split
   ·simp only
    refine ⟨?_,?_,h3⟩
    ·split<;>omega
    ·split<;>omega
   ·simp only
    refine ⟨?_,?_,?_⟩
    ·split<;>omega
    ·split<;>omega
    ·split<;>omega
def yE (l:List Exn):List (List PV):=l.map fun x=>[eExt x]
theorem yE_app (l m:List Exn):yE (l++m)=yE l++yE m:=by simp [yE]
theorem beq_nat (n m:Nat):((n:Int)==(m:Int))=decide (n=m):=by
 by_cases h:n=m
 ·subst h;simp
 ·rw [decide_eq_false h];simp;omega
set_option maxRecDepth 20000 in
set_option maxHeartbeats 2000000 in
theorem loop119 {keep:Bool→Bool→Bool} {kf:Nat} (hk:∀ p q,cal env kf [.bool p,.bool q]=some [(.bool (keep p q),false)]) {L:List End} (hL:∀ x∈L,((x.step=1∨x.step=-1)∧x.pos≤4096)∧x.list<2) (hl:L.length≤1000000)
  {st:St} (h:st.head [0,3,5,6,7,8,15,16,17,18] st.boxes.length=some ⟨sl 80 [(0,.yld),(3,.pv (.iptr [.func kf []] 0)),(5,.row 3 (L.map eEnd)),(6,.pbox 0 0),(7,.pv (.int .i64 0)),(8,.pv (.bool false)),(15,.any),(16,.ref (.slot 5) 0 L.length),(17,.pv (.int .i64 L.length)),(18,.pv (.int .i64 (0:Nat)))],[⟨false,[.pv (.int .i64 0),.pv (.int .i64 0)]⟩],[],some none⟩) :
  den env fn119_l1 st=some (.normal,⟨sl 80 [],[⟨false,[.pv (.int .i64 (swAt keep L L.length).d0),.pv (.int .i64 (swAt keep L L.length).d1)]⟩],yE (swAt keep L L.length).out,some none⟩):=by
 unfold fn119_l1
 have hlim:lim=1073741824:=rfl
 have hsm:=swAt_small (keep:=keep) fun x hx=>(hL x hx).1
 refine clean_up (env:=env) L.length (fun i=>⟨sl 80 [(0,.yld),(3,.pv (.iptr [.func kf []] 0)),(5,.row 3 (L.map eEnd)),(6,.pbox 0 0),(7,.pv (.int .i64 (swAt keep L i).st)),(8,.pv (.bool (swAt keep L i).ins)),(15,.any),(16,.ref (.slot 5) 0 L.length),(17,.pv (.int .i64 L.length)),(18,.pv (.int .i64 i))],[⟨false,[.pv (.int .i64 (swAt keep L i).d0),.pv (.int .i64 (swAt keep L i).d1)]⟩],yE (swAt keep L i).out,some none⟩) (fun _=>some (.normal,⟨sl 80 [],[⟨false,[.pv (.int .i64 (swAt keep L L.length).d0),.pv (.int .i64 (swAt keep L L.length).d1)]⟩],yE (swAt keep L L.length).out,some none⟩)) h (fun _=>rfl) (fun _=>by simp only [slAll,slsAll,Nat.reduceMul,Nat.reduceBEq,Nat.reduceLT,Nat.reduceLeDiff,Nat.reduceAdd,decide_true,Bool.and_self,Bool.true_and]) ?_ ?_
 ·intro i rb hi ih
  have hi1:=i64_next hi (by omega)
  have F1:((i:Int)<(L.length:Int))=True:=eq_true (by omega)
  have hx:L[i]?=some L[i]:=List.getElem?_eq_getElem hi
  obtain ⟨⟨x1,x2⟩,x3⟩:=hL _ (List.getElem_mem hi)
  have hsuc:=swAt_succ (keep:=keep) hx
  obtain ⟨⟨s1,s2⟩,⟨s3,s4⟩,s5,s6⟩:=hsm i
  rw [hsuc] at ih
  clear hsuc
  generalize L[i]=x at *
  generalize hs:swAt keep L i=s at *
  obtain ⟨d0,d1,sp,ins,out⟩:=s
  obtain ⟨p,k,t⟩:=x
  simp only at x1 x2 x3 s1 s2 s3 s4 s5 s6 ih
  have hlist:k=0∨k=1:=by omega
  have W0:IntKind.i64.wrap (d0+t)=d0+t:=i64_fits (by omega)
  have W1:IntKind.i64.wrap (d1+t)=d1+t:=i64_fits (by omega)
  have W2:IntKind.i64.wrap ((p:Int) - sp)=(p:Int) - sp:=i64_fits (by omega)
  have I0:index (.int .i64 0) 2=some 0:=rfl
  have I1:index (.int .i64 1) 2=some 1:=rfl
  have IN0:index (.int .i64 ((0:Nat):Int)) 2=some 0:=rfl
  have IN1:index (.int .i64 ((1:Nat):Int)) 2=some 1:=rfl
  have P3:∀ a b c:PV,part [a,b,c] 0 (some 3)=some (.agg [a,b,c]):=fun a b c=>rfl
  -- the next end
  have hnx:(∃ y,L[i+1]?=some y∧nextSame ⟨p,k,t⟩ (L.drop (i+1))=decide (y.pos=p)∧(((i+1:Nat):Int)<(L.length:Int))∧index (.int .i64 ((i+1:Nat):Int)) L.length=some (i+1))∨(nextSame ⟨p,k,t⟩ (L.drop (i+1))=false∧¬ (((i+1:Nat):Int)<(L.length:Int))):=by
   by_cases hlt:i+1<L.length
   ·left
    refine ⟨L[i+1],List.getElem?_eq_getElem hlt,?_,by omega,index_nat hlt⟩
    rw [List.drop_eq_getElem_cons hlt];rfl
   ·right
    refine ⟨?_,by omega⟩
    rw [List.drop_eq_nil_of_le (by omega)];rfl
  rcases hlist with rfl|rfl
  ·-- list 0
   have e1:=hk (decide (d0+t > 0)) (decide (d1 > 0))
   have same:swStep keep ⟨p,0,t⟩ true ⟨d0,d1,sp,ins,out⟩=⟨d0+t,d1,sp,ins,out⟩:=by simp [swStep]
   have diff:swStep keep ⟨p,0,t⟩ false ⟨d0,d1,sp,ins,out⟩=⟨d0+t,d1,if keep (decide (d0+t > 0)) (decide (d1 > 0))&&!ins then (p:Int) else sp,keep (decide (d0+t > 0)) (decide (d1 > 0)),out++(if !keep (decide (d0+t > 0)) (decide (d1 > 0))&&ins then [⟨sp,(p:Int) - sp⟩] else [])⟩:=by simp [swStep]
   rcases hnx with ⟨y,hy,hns,hlt,hix⟩|⟨hns,hlt⟩
   ·have F2:(((i+1:Nat):Int)<(L.length:Int))=True:=eq_true hlt
    rw [hns] at ih
    have B:=beq_nat y.pos p
    generalize hb:decide (y.pos=p)=b at ih B
    cases b with
    |true =>
     rw [same] at ih
     simp only [fn119_b0,F1,hx,hi1,W0,W1,W2,I0,I1,IN0,IN1,P3,eEnd,index_nat hi,List.getElem?_map,Option.map_some,List.length_map,List.length_cons,List.length_nil,F2,hy,hix,B,slAll,slsAll,Nat.reduceMul,Nat.reduceBEq,Nat.reduceLT,Nat.reduceLeDiff,memAll,vAll,reduceCtorEq,Nat.reduceEqDiff,Nat.reduceAdd,Nat.reduceLT,Nat.reduceLeDiff,Nat.beq]
     rw [ih _ (by simp only [hi1,slAll,slsAll,Nat.reduceMul,Nat.reduceBEq,Nat.reduceLT,Nat.reduceLeDiff,memAll,vAll,reduceCtorEq,Nat.reduceEqDiff,Nat.reduceAdd,Nat.reduceLT,Nat.reduceLeDiff,Nat.beq]<;>rfl)]
    |false =>
     rw [diff] at ih
     generalize keep (decide (d0+t > 0)) (decide (d1 > 0))=now at *
     cases now<;>cases ins<;>simp only [Bool.not_true,Bool.not_false,Bool.and_true,Bool.and_false,Bool.and_self,Bool.false_eq_true,if_true,if_false,List.append_nil,yE_app] at ih<;>simp only [fn119_b0,F1,hx,hi1,W0,W1,W2,I0,I1,IN0,IN1,P3,eEnd,index_nat hi,List.getElem?_map,Option.map_some,List.length_map,List.length_cons,List.length_nil,F2,hy,hix,B,e1,slAll,slsAll,Nat.reduceMul,Nat.reduceBEq,Nat.reduceLT,Nat.reduceLeDiff,memAll,vAll,reduceCtorEq,Nat.reduceEqDiff,Nat.reduceAdd,Nat.reduceLT,Nat.reduceLeDiff,Nat.beq]<;>rw [ih _ (by simp only [hi1,yE,List.map_cons,List.map_nil,eExt,slAll,slsAll,Nat.reduceMul,Nat.reduceBEq,Nat.reduceLT,Nat.reduceLeDiff,memAll,vAll,reduceCtorEq,Nat.reduceEqDiff,Nat.reduceAdd,Nat.reduceLT,Nat.reduceLeDiff,Nat.beq]<;>rfl)]
   ·have F2:(((i+1:Nat):Int)<(L.length:Int))=False:=eq_false hlt
    rw [hns,diff] at ih
    generalize keep (decide (d0+t > 0)) (decide (d1 > 0))=now at *
    cases now<;>cases ins<;>simp only [Bool.not_true,Bool.not_false,Bool.and_true,Bool.and_false,Bool.and_self,Bool.false_eq_true,if_true,if_false,List.append_nil,yE_app] at ih<;>simp only [fn119_b0,F1,hx,hi1,W0,W1,W2,I0,I1,IN0,IN1,P3,eEnd,index_nat hi,List.getElem?_map,Option.map_some,List.length_map,List.length_cons,List.length_nil,F2,e1,slAll,slsAll,Nat.reduceMul,Nat.reduceBEq,Nat.reduceLT,Nat.reduceLeDiff,memAll,vAll,reduceCtorEq,Nat.reduceEqDiff,Nat.reduceAdd,Nat.reduceLT,Nat.reduceLeDiff,Nat.beq]<;>rw [ih _ (by simp only [hi1,yE,List.map_cons,List.map_nil,eExt,slAll,slsAll,Nat.reduceMul,Nat.reduceBEq,Nat.reduceLT,Nat.reduceLeDiff,memAll,vAll,reduceCtorEq,Nat.reduceEqDiff,Nat.reduceAdd,Nat.reduceLT,Nat.reduceLeDiff,Nat.beq]<;>rfl)]
  ·-- list 1
   have e1:=hk (decide (d0 > 0)) (decide (d1+t > 0))
   have same:swStep keep ⟨p,1,t⟩ true ⟨d0,d1,sp,ins,out⟩=⟨d0,d1+t,sp,ins,out⟩:=by simp [swStep]
   have diff:swStep keep ⟨p,1,t⟩ false ⟨d0,d1,sp,ins,out⟩=⟨d0,d1+t,if keep (decide (d0 > 0)) (decide (d1+t > 0))&&!ins then (p:Int) else sp,keep (decide (d0 > 0)) (decide (d1+t > 0)),out++(if !keep (decide (d0 > 0)) (decide (d1+t > 0))&&ins then [⟨sp,(p:Int) - sp⟩] else [])⟩:=by simp [swStep]
   rcases hnx with ⟨y,hy,hns,hlt,hix⟩|⟨hns,hlt⟩
   ·have F2:(((i+1:Nat):Int)<(L.length:Int))=True:=eq_true hlt
    rw [hns] at ih
    have B:=beq_nat y.pos p
    generalize hb:decide (y.pos=p)=b at ih B
    cases b with
    |true =>
     rw [same] at ih
     simp only [fn119_b0,F1,hx,hi1,W0,W1,W2,I0,I1,IN0,IN1,P3,eEnd,index_nat hi,List.getElem?_map,Option.map_some,List.length_map,List.length_cons,List.length_nil,F2,hy,hix,B,slAll,slsAll,Nat.reduceMul,Nat.reduceBEq,Nat.reduceLT,Nat.reduceLeDiff,memAll,vAll,reduceCtorEq,Nat.reduceEqDiff,Nat.reduceAdd,Nat.reduceLT,Nat.reduceLeDiff,Nat.beq]
     rw [ih _ (by simp only [hi1,slAll,slsAll,Nat.reduceMul,Nat.reduceBEq,Nat.reduceLT,Nat.reduceLeDiff,memAll,vAll,reduceCtorEq,Nat.reduceEqDiff,Nat.reduceAdd,Nat.reduceLT,Nat.reduceLeDiff,Nat.beq]<;>rfl)]
    |false =>
     rw [diff] at ih
     generalize keep (decide (d0 > 0)) (decide (d1+t > 0))=now at *
     cases now<;>cases ins<;>simp only [Bool.not_true,Bool.not_false,Bool.and_true,Bool.and_false,Bool.and_self,Bool.false_eq_true,if_true,if_false,List.append_nil,yE_app] at ih<;>simp only [fn119_b0,F1,hx,hi1,W0,W1,W2,I0,I1,IN0,IN1,P3,eEnd,index_nat hi,List.getElem?_map,Option.map_some,List.length_map,List.length_cons,List.length_nil,F2,hy,hix,B,e1,slAll,slsAll,Nat.reduceMul,Nat.reduceBEq,Nat.reduceLT,Nat.reduceLeDiff,memAll,vAll,reduceCtorEq,Nat.reduceEqDiff,Nat.reduceAdd,Nat.reduceLT,Nat.reduceLeDiff,Nat.beq]<;>rw [ih _ (by simp only [hi1,yE,List.map_cons,List.map_nil,eExt,slAll,slsAll,Nat.reduceMul,Nat.reduceBEq,Nat.reduceLT,Nat.reduceLeDiff,memAll,vAll,reduceCtorEq,Nat.reduceEqDiff,Nat.reduceAdd,Nat.reduceLT,Nat.reduceLeDiff,Nat.beq]<;>rfl)]
   ·have F2:(((i+1:Nat):Int)<(L.length:Int))=False:=eq_false hlt
    rw [hns,diff] at ih
    generalize keep (decide (d0 > 0)) (decide (d1+t > 0))=now at *
    cases now<;>cases ins<;>simp only [Bool.not_true,Bool.not_false,Bool.and_true,Bool.and_false,Bool.and_self,Bool.false_eq_true,if_true,if_false,List.append_nil,yE_app] at ih<;>simp only [fn119_b0,F1,hx,hi1,W0,W1,W2,I0,I1,IN0,IN1,P3,eEnd,index_nat hi,List.getElem?_map,Option.map_some,List.length_map,List.length_cons,List.length_nil,F2,e1,slAll,slsAll,Nat.reduceMul,Nat.reduceBEq,Nat.reduceLT,Nat.reduceLeDiff,memAll,vAll,reduceCtorEq,Nat.reduceEqDiff,Nat.reduceAdd,Nat.reduceLT,Nat.reduceLeDiff,Nat.beq]<;>rw [ih _ (by simp only [hi1,yE,List.map_cons,List.map_nil,eExt,slAll,slsAll,Nat.reduceMul,Nat.reduceBEq,Nat.reduceLT,Nat.reduceLeDiff,memAll,vAll,reduceCtorEq,Nat.reduceEqDiff,Nat.reduceAdd,Nat.reduceLT,Nat.reduceLeDiff,Nat.beq]<;>rfl)]
 ·intro rb
  simp only [fn119_b0,Int.lt_irrefl,slAll,slsAll,Nat.reduceMul,Nat.reduceBEq,Nat.reduceLT,Nat.reduceLeDiff,memAll,vAll,reduceCtorEq,Nat.reduceEqDiff,Nat.reduceAdd,Nat.reduceLT,Nat.reduceLeDiff,Nat.beq]
end Go.Proofs.YtioijcfcehhmdaaGreatDoor.V

namespace Go.Proofs.YtioijcfcehhmdaaGreatDoor.V
def inS (l:List Exn) (s:Nat):Bool:=l.any fun e=>inE e s
def setOf (keep:Bool→Bool→Bool) (a b:List Exn):List Exn:=ext (fun s=>keep (inS a s) (inS b s)) 4096
theorem two_mem {α:Type} {P:α→Prop} {a b:α} (ha:P a) (hb:P b):∀ l∈[a,b],P l:=by
 intro l hl
 simp only [List.mem_cons,List.not_mem_nil,or_false] at hl
 rcases hl with rfl|rfl
 ·exact ha
 ·exact hb
theorem dep_perm {i s:Nat} {l m:List End} (h:l.Perm m):dep i s l=dep i s m:=by
 induction h with
 |nil=>rfl
 |cons x _ ih=>simp only [dep,ih]
 |swap x y l=>simp only [dep];omega
 |trans _ _ h1 h2=>exact h1.trans h2
theorem tot_perm {i:Nat} {l m:List End} (h:l.Perm m):tot i l=tot i m:=by
 induction h with
 |nil=>rfl
 |cons x _ ih=>simp only [tot,ih]
 |swap x y l=>simp only [tot];omega
 |trans _ _ h1 h2=>exact h1.trans h2
theorem rawOf_cons (i:Nat) (e:Exn) (l:List Exn):rawOf i (e :: l)=(if (wX e).2.2 then [⟨(wX e).1.toNat,i,1⟩,⟨(wX e).2.1.toNat,i,-1⟩] else [])++rawOf i l:=by simp [rawOf]
theorem rawOf_mem {i:Nat}:∀ {l:List Exn} {x:End},x∈rawOf i l→((x.step=1∨x.step=-1)∧x.pos≤4096)∧x.list=i
 |[],x,h=>by simp [rawOf] at h
 |e :: l,x,h=>by
  rw [rawOf_cons] at h
  rcases List.mem_append.1 h with h|h
  ·cases hw:(wX e).2.2 with
   |false=>rw [hw] at h;simp at h
   |true =>
    obtain ⟨n,m,hnm,h1,h2,-⟩:=wX_true hw
    rw [hnm] at h
    simp only [if_true,Int.toNat_natCast,List.mem_cons,List.not_mem_nil,or_false] at h
    rcases h with rfl|rfl
    ·exact ⟨⟨.inl rfl,by simp only;omega⟩,rfl⟩
    ·exact ⟨⟨.inr rfl,h2⟩,rfl⟩
  ·exact rawOf_mem h
theorem tot_raw {i j:Nat}:∀ l:List Exn,tot j (rawOf i l)=0
 |[]=>rfl
 |e :: l=>by
  rw [rawOf_cons,tot_app,tot_raw l]
  split
  ·simp only [tot];split<;>omega
  ·rfl
theorem dep_other {i j s:Nat} (h:i≠j):∀ l:List Exn,dep j s (rawOf i l)=0
 |[]=>rfl
 |e :: l=>by
  rw [rawOf_cons,dep_app,dep_other h l]
  split
  ·simp [dep,h]
  ·rfl
theorem dep_raw {i s:Nat} (hs:s<4096):∀ l:List Exn,0≤dep i s (rawOf i l)∧(dep i s (rawOf i l) > 0 ↔ inS l s=true)
 |[]=>by simp [rawOf,dep,inS]
 |e :: l=>by
  obtain ⟨h1,h2⟩:=dep_raw (i:=i) hs l
  rw [rawOf_cons,dep_app]
  have h3:inS (e :: l) s=(inE e s || inS l s):=rfl
  rw [h3]
  cases hw:(wX e).2.2 with
  |false =>
   rw [wX_false hw hs]
   simp only [Bool.false_eq_true,if_false,dep,Int.zero_add,Bool.false_or]
   exact ⟨h1,h2⟩
  |true =>
   obtain ⟨n,m,hnm,g1,g2,g3⟩:=wX_true hw
   have g4:=g3 s hs
   rw [hnm]
   simp only [if_true,Int.toNat_natCast,dep,true_and]
   cases hin:inE e s with
   |false =>
    rw [Bool.false_or,← h2]
    have:¬ (n≤s∧s<m):=fun h=>by rw [g4.2 h] at hin;cases hin
    split<;>split<;>omega
   |true =>
    obtain ⟨k1,k2⟩:=g4.1 hin
    rw [if_pos k1,if_neg (by omega)]
    simp only [Bool.true_or,iff_true]
    omega
theorem asc_of:∀ {l:List End},(∀ i j:Nat,i<j→j<l.length→¬ l[j]!.pos<l[i]!.pos)→Asc l
 |[],_=>trivial
 |[x],_=>trivial
 |x :: y :: l,h=>by
  refine ⟨?_,asc_of fun i j hij hj=>?_⟩
  ·have:=h 0 1 (by omega) (by simp)
   simp at this
   omega
  ·have:=h (i+1) (j+1) (by omega) (by simp at hj ⊢;omega)
   simpa using this
theorem sweep_set {keep:Bool→Bool→Bool} (hk:keep false false=false) (a b:List Exn):swGo keep (endsOf [a,b]) 0 0 0 false=setOf keep a b:=by
 obtain ⟨h1,h2,h3⟩:=sortE_perm (rawFrom 0 [a,b])
 have hr:rawFrom 0 [a,b]=rawOf 0 a++rawOf 1 b:=by simp [rawFrom]
 have hmem:∀ x∈endsOf [a,b],x.pos≤4096:=fun x hx=>by
  have:=h1.mem_iff.1 hx
  rw [hr] at this
  rcases List.mem_append.1 this with q|q
  ·exact (rawOf_mem q).1.2
  ·exact (rawOf_mem q).1.2
 have ht:∀ j,tot j (endsOf [a,b])=0:=fun j=>by
  unfold endsOf
  rw [tot_perm h1,hr,tot_app,tot_raw,tot_raw];rfl
 have hasc:Asc (endsOf [a,b]):=asc_of fun i j hij hj=>h3 i j hij (by unfold endsOf at hj;omega)
 rw [sweep_ok hk hasc hmem (ht 0) (ht 1)]
 unfold setOf
 apply ext_congr
 intro s hs
 unfold keepOf endsOf
 rw [dep_perm h1,dep_perm h1,hr,dep_app,dep_app,dep_other (i:=1) (j:=0) (by decide),dep_other (i:=0) (j:=1) (by decide),Int.add_zero,Int.zero_add]
 have e1:=(dep_raw (i:=0) hs a).2
 have e2:=(dep_raw (i:=1) hs b).2
 have f1:decide (dep 0 s (rawOf 0 a) > 0)=inS a s:=by
  cases h:inS a s
  ·exact decide_eq_false fun q=>by rw [e1.1 q] at h;cases h
  ·exact decide_eq_true (e1.2 h)
 have f2:decide (dep 1 s (rawOf 1 b) > 0)=inS b s:=by
  cases h:inS b s
  ·exact decide_eq_false fun q=>by rw [e2.1 q] at h;cases h
  ·exact decide_eq_true (e2.2 h)
 rw [f1,f2]
set_option maxRecDepth 20000 in
theorem iter119 {keep:Bool→Bool→Bool} (h0:keep false false=false) {kf:Nat} (hk:∀ p q,cal env kf [.bool p,.bool q]=some [(.bool (keep p q),false)]) {a b:List Exn} (ha:okEs a) (hb:okEs b) (la:a.length≤10000) (lb:b.length≤10000) :
  iter env 119 [.iptr [.list 2 (a.map eExt)] 0,.iptr [.list 2 (b.map eExt)] 0,.iptr [.func kf []] 0] none=some (yE (setOf keep a b)):=by
 have hlim:lim=1073741824:=rfl
 obtain ⟨h1,h2,h3⟩:=sortE_perm (rawFrom 0 [a,b])
 have hr:rawFrom 0 [a,b]=rawOf 0 a++rawOf 1 b:=by simp [rawFrom]
 have hp:=rawFrom_len (n:=10000) [a,b] 0 (two_mem la lb)
 have e1:=cal120 (ls:=[a,b]) (two_mem ha hb) (two_mem la lb) (by simp) h2
 have hE:(endsOf [a,b]).length≤1000000:=by unfold endsOf;rw [h2];simp at hp;omega
 have hm:∀ x∈endsOf [a,b],((x.step=1∨x.step=-1)∧x.pos≤4096)∧x.list<2:=fun x hx=>by
  have:=h1.mem_iff.1 hx
  rw [hr] at this
  rcases List.mem_append.1 this with q|q
  ·have:=rawOf_mem q;exact ⟨this.1,by omega⟩
  ·have:=rawOf_mem q;exact ⟨this.1,by omega⟩
 have hres:=(swAt_end keep (endsOf [a,b])).trans (sweep_set h0 a b)
 simp only [List.map_cons,List.map_nil,eExts] at e1
 have L2:(2≤lim)=True:=eq_true (by omega)
 rw [iter_code env119 rfl rfl]
 have hy:ystart 80 [.iptr [.list 2 (a.map eExt)] 0,.iptr [.list 2 (b.map eExt)] 0,.iptr [.func kf []] 0] none=⟨sl 80 [(0,.yld),(1,.pv (.iptr [.list 2 (a.map eExt)] 0)),(2,.pv (.iptr [.list 2 (b.map eExt)] 0)),(3,.pv (.iptr [.func kf []] 0))],[],[],some none⟩:=rfl
 simp only [fn119]
 rw [hy]
 simp only [e1,L2,List.length_map,slAll,slsAll,Nat.reduceMul,Nat.reduceBEq,Nat.reduceLT,Nat.reduceLeDiff,memAll,vAll,reduceCtorEq,Nat.reduceEqDiff,Nat.reduceAdd,Nat.reduceLT,Nat.reduceLeDiff,Nat.beq]
 rw [loop119 hk hm hE (by simp only [slAll,slsAll,Nat.reduceMul,Nat.reduceBEq,Nat.reduceLT,Nat.reduceLeDiff,memAll,vAll,reduceCtorEq,Nat.reduceEqDiff,Nat.reduceAdd,Nat.reduceLT,Nat.reduceLeDiff,Nat.beq]<;>rfl)]
 rw [hres]
 rfl
theorem cal118 {g:Nat} {caps:List PV} {l:List Exn} (hi:iter env g caps none=some (yE l)) (hl:l.length≤1000000):cal env 118 [.nils 2,.func g caps]=some [(.list 2 (l.map eExt),true)]:=by
 have hlim:lim=1073741824:=rfl
 rw [cal_code env118 rfl];simp only [fn118];simp only [start,z_map_cons,z_map_nil,z_len_cons,z_len_nil,z_repl_zero,z_repl_succ,z_cons_app,z_nil_app,Nat.reduceAdd,Nat.reduceSub]
 simp only [ memAll,vAll,reduceCtorEq,Nat.reduceEqDiff,Nat.reduceAdd,Nat.reduceLT,Nat.reduceLeDiff,Nat.beq]
 rw [rng_idx (env:=env) (fun j=>[⟨false,[.row 2 ((l.take j).map eExt)]⟩]) (xs:=yE l) rfl hi rfl ?_]
 ·simp only [yE,List.length_map,List.take_length,vRng,memAll,vAll,reduceCtorEq,Nat.reduceEqDiff,Nat.reduceAdd,Nat.reduceLT,Nat.reduceLeDiff,Nat.beq]
 ·intro j x hx sl0
  simp only [yE,List.getElem?_map,Option.map_eq_some_iff] at hx
  obtain ⟨e,he,rfl⟩:=hx
  have hj:=(List.getElem?_eq_some_iff.1 he).1
  have F3:((l.take j).length+1≤lim)=True:=eq_true (by rw [List.length_take];omega)
  have ht:l.take (j+1)=l.take j++[e]:=by rw [List.take_add_one,he];rfl
  rw [ht]
  refine ⟨?_,?_⟩
  rotate_left
  ·simp only [fn118_b0,fn118_b1,F3,eExt,List.map_append,List.map_cons,List.map_nil,vRng,memAll,vAll,reduceCtorEq,Nat.reduceEqDiff,Nat.reduceAdd,Nat.reduceLT,Nat.reduceLeDiff,Nat.beq]
   rfl
theorem cal78 {g:Nat} {caps:List PV} {l:List Exn} (hi:iter env g caps none=some (yE l)) (hl:l.length≤1000000):cal env 78 [.func g caps]=some [(.list 2 (l.map eExt),true)]:=by
 have e1:=cal118 hi hl
 rw [cal_code env78 rfl];simp only [fn78];simp only [start,z_map_cons,z_map_nil,z_len_cons,z_len_nil,z_repl_zero,z_repl_succ,z_cons_app,z_nil_app,Nat.reduceAdd,Nat.reduceSub]
 simp only [e1,memAll,vAll,reduceCtorEq,Nat.reduceEqDiff,Nat.reduceAdd,Nat.reduceLT,Nat.reduceLeDiff,Nat.beq]
end Go.Proofs.YtioijcfcehhmdaaGreatDoor.V

namespace Go.Proofs.YtioijcfcehhmdaaGreatDoor.V
def orB (p q:Bool):Bool:=p || q
def subB (p q:Bool):Bool:=p&&!q
theorem addAt_len (l:List Exn) (i:Nat):(addAt l i).length≤l.length+1:=by
 rcases snoc_cases l with rfl|⟨p,x,rfl⟩
 ·simp [addAt]
 ·rw [addAt_snoc];split<;>simp
theorem ext_len (p:Nat→Bool):∀ n,(ext p n).length≤n
 |0=>Nat.le_refl _
 |n+1=>by
  rw [ext_succ]
  have:=ext_len p n
  have:=addAt_len (ext p n) n
  split<;>omega
theorem setOf_len (keep:Bool→Bool→Bool) (a b:List Exn):(setOf keep a b).length≤4096:=ext_len _ _
theorem cal79 {a b:List PV} {kf:Nat}:cal env 79 [.list 2 a,.list 2 b,.func kf []]=some [(.func 119 [.iptr [.list 2 a] 0,.iptr [.list 2 b] 0,.iptr [.func kf []] 0],false)]:=by
 rw [cal_code env79 rfl];simp only [fn79,slAll,Nat.reduceBEq,Nat.reduceLeDiff,Nat.reduceAdd,List.length_cons,List.length_nil]
 simp only [ slAll,slsAll,Nat.reduceMul,Nat.reduceBEq,Nat.reduceLT,Nat.reduceLeDiff,memAll,vAll,reduceCtorEq,Nat.reduceEqDiff,Nat.reduceAdd,Nat.reduceLT,Nat.reduceLeDiff,Nat.beq]
theorem cal81 (p q:Bool):cal env 81 [.bool p,.bool q]=some [(.bool (orB p q),false)]:=by
 cases p<;>cases q<;>(rw [cal_code env81 rfl];simp only [fn81,slAll,Nat.reduceBEq,Nat.reduceLeDiff,Nat.reduceAdd,List.length_cons,List.length_nil];simp only [ slAll,slsAll,Nat.reduceMul,Nat.reduceBEq,Nat.reduceLT,Nat.reduceLeDiff,memAll,vAll,reduceCtorEq,Nat.reduceEqDiff,Nat.reduceAdd,Nat.reduceLT,Nat.reduceLeDiff,Nat.beq]<;>rfl)
theorem cal80 (p q:Bool):cal env 80 [.bool p,.bool q]=some [(.bool (subB p q),false)]:=by
 cases p<;>cases q<;>(rw [cal_code env80 rfl];simp only [fn80,slAll,Nat.reduceBEq,Nat.reduceLeDiff,Nat.reduceAdd,List.length_cons,List.length_nil];simp only [ slAll,slsAll,Nat.reduceMul,Nat.reduceBEq,Nat.reduceLT,Nat.reduceLeDiff,memAll,vAll,reduceCtorEq,Nat.reduceEqDiff,Nat.reduceAdd,Nat.reduceLT,Nat.reduceLeDiff,Nat.beq]<;>rfl)
--+
theorem cal33 {a b:List Exn} (ha:okEs a) (hb:okEs b) (la:a.length≤10000) (lb:b.length≤10000):cal env 33 [.list 2 (a.map eExt),.list 2 (b.map eExt)]=some [(.list 2 ((setOf orB a b).map eExt),true)]:=by
 have e1:=cal79 (a:=a.map eExt) (b:=b.map eExt) (kf:=81)
 have hi:=iter119 (keep:=orB) rfl (kf:=81) (fun p q=>cal81 p q) ha hb la lb
 have hlen:=setOf_len orB a b
 have e2:=cal78 hi (by omega)
 rw [cal_code env33 rfl];simp only [fn33,slAll,Nat.reduceBEq,Nat.reduceLeDiff,Nat.reduceAdd,List.length_cons,List.length_nil]
 simp only [e1,e2,slAll,slsAll,Nat.reduceMul,Nat.reduceBEq,Nat.reduceLT,Nat.reduceLeDiff,memAll,vAll,reduceCtorEq,Nat.reduceEqDiff,Nat.reduceAdd,Nat.reduceLT,Nat.reduceLeDiff,Nat.beq]
--+
theorem cal31 {a b:List Exn} (ha:okEs a) (hb:okEs b) (la:a.length≤10000) (lb:b.length≤10000):cal env 31 [.list 2 (a.map eExt),.list 2 (b.map eExt)]=some [(.list 2 ((setOf subB a b).map eExt),true)]:=by
 have e1:=cal79 (a:=a.map eExt) (b:=b.map eExt) (kf:=80)
 have hi:=iter119 (keep:=subB) rfl (kf:=80) (fun p q=>cal80 p q) ha hb la lb
 have hlen:=setOf_len subB a b
 have e2:=cal78 hi (by omega)
 rw [cal_code env31 rfl];simp only [fn31,slAll,Nat.reduceBEq,Nat.reduceLeDiff,Nat.reduceAdd,List.length_cons,List.length_nil]
 simp only [e1,e2,slAll,slsAll,Nat.reduceMul,Nat.reduceBEq,Nat.reduceLT,Nat.reduceLeDiff,memAll,vAll,reduceCtorEq,Nat.reduceEqDiff,Nat.reduceAdd,Nat.reduceLT,Nat.reduceLeDiff,Nat.beq]
theorem okEs_nil:okEs []:=fun x hx=>by cases hx
def orS (l:List Exn):List Exn:=setOf orB l []
def cntE (l:List Exn):Int:=(l.map fun x=>x.count).sum
theorem cntE_snoc (l:List Exn) (x:Exn):cntE (l++[x])=cntE l+x.count:=by simp [cntE]
theorem ext_in (p:Nat→Bool) (n:Nat):(∀ x∈ext p n,0≤x.start∧1≤x.count∧x.start+x.count≤(n:Int)):=by
 induction n with
 |zero=>intro x hx;cases hx
 |succ n ih =>
  rw [ext_succ]
  split
  ·rcases snoc_cases (ext p n) with e|⟨pre,y,e⟩
   ·rw [e]
    intro x hx
    have:addAt [] n=[⟨(n:Int),1⟩]:=rfl
    rw [this] at hx
    simp only [List.mem_singleton] at hx
    subst hx
    simp only;omega
   ·rw [e] at ih ⊢
    intro x hx
    rw [addAt_snoc] at hx
    split at hx
    ·rcases List.mem_append.1 hx with h|h
     ·have:=ih x (by simp [h]);omega
     ·simp only [List.mem_singleton] at h
      have:=ih y (by simp)
      subst h;simp only;omega
    ·rcases List.mem_append.1 hx with h|h
     ·have:=ih x h;omega
     ·simp only [List.mem_singleton] at h
      subst h;simp only;omega
  ·intro x hx;have:=ih x hx;omega
theorem ext_cnt (p:Nat→Bool):∀ n,cntE (ext p n)=(((List.range n).filter p).length:Int)
 |0=>rfl
 |n+1=>by
  have ih:=ext_cnt p n
  rw [ext_succ,List.range_succ,List.filter_append,List.length_append]
  cases h:p n with
  |false=>rw [List.filter_cons_of_neg (by simp [h])];simpa using ih
  |true =>
   rw [List.filter_cons_of_pos h,List.filter_nil,if_pos rfl]
   have:cntE (addAt (ext p n) n)=cntE (ext p n)+1:=by
    rcases snoc_cases (ext p n) with e|⟨pre,y,e⟩
    ·rw [e];rfl
    ·rw [e,addAt_snoc]
     split
     ·rw [cntE_snoc,cntE_snoc];simp only;omega
     ·rw [cntE_snoc]
   rw [this,ih];simp
theorem take_cnt {l:List Exn} (h:∀ x∈l,0≤x.count∧x.count≤4096):∀ i,0≤cntE (l.take i)∧cntE (l.take i)≤4096 * (l.take i).length:=by
 intro i
 have:∀ m:List Exn,(∀ x∈m,0≤x.count∧x.count≤4096)→0≤cntE m∧cntE m≤4096 * m.length:=by
  intro m
  induction m with
  |nil=>intro _;simp [cntE]
  |cons x m ih =>
   intro hm
   have h1:=hm x (by simp)
   have h2:=ih fun y hy=>hm y (by simp [hy])
   have:cntE (x :: m)=x.count+cntE m:=by simp [cntE]
   rw [this,List.length_cons]
   omega
 exact this _ fun x hx=>h x (List.mem_of_mem_take hx)
theorem loop82 {l:List Exn} (hl:l.length≤10000) (hc:∀ x∈l,0≤x.count∧x.count≤4096) {st:St} (h:st.head [3,7,8,9] st.boxes.length=some ⟨sl 19 [(3,.pv (.int .i64 (cntE (l.take ((0:Nat)))))),(7,.row 2 (l.map eExt)),(8,.pv (.int .i64 l.length)),(9,.pv (.int .i64 (0:Nat)))],[],[],none⟩) :
  den env fn82_l1 st=some (.normal,⟨sl 19 [(2,.any),(3,.pv (.int .i64 (cntE l)))],[],[],none⟩):=by
 unfold fn82_l1
 refine clean_up (env:=env) (l.length) (fun i=>⟨sl 19 [(3,.pv (.int .i64 (cntE (l.take (i))))),(7,.row 2 (l.map eExt)),(8,.pv (.int .i64 l.length)),(9,.pv (.int .i64 i))],[],[],none⟩) (fun i=>some (.normal,⟨sl 19 [(2,.any),(3,.pv (.int .i64 (cntE l)))],[],[],none⟩)) h (fun _=>rfl) (fun _=>by simp only [slAll,slsAll,Nat.reduceMul,Nat.reduceBEq,Nat.reduceLT,Nat.reduceLeDiff,Nat.reduceAdd,decide_true,Bool.and_self,Bool.true_and]) ?_ ?_
 ·intro i rb hi ih
  have hlim:lim=1073741824:=rfl
  have hi1:=i64_next hi (by omega)
  have F1:((i:Int)<(l.length:Int))=True:=eq_true (by omega)
  have hx:l[i]?=some l[i]:=List.getElem?_eq_getElem hi
  have ht:=take_snoc1 hi
  obtain ⟨t1,t2⟩:=take_cnt hc i
  have hcx:=hc _ (List.getElem_mem hi)
  have hlt:(l.take i).length≤l.length:=by rw [List.length_take];omega
  generalize l[i]=x at *
  have P2:part [PV.int .i64 x.start,.int .i64 x.count] 0 (some 2)=some (.agg [.int .i64 x.start,.int .i64 x.count]):=rfl
  have W:IntKind.i64.wrap (cntE (l.take i)+x.count)=cntE (l.take i)+x.count:=i64_fits (by omega)
  simp only [fn82_b0,F1,hx,eExt,P2,W,index_nat hi,List.getElem?_map,Option.map_some,List.length_map,slAll,slsAll,Nat.reduceMul,Nat.reduceBEq,Nat.reduceLT,Nat.reduceLeDiff,memAll,vAll,reduceCtorEq,Nat.reduceEqDiff,Nat.reduceAdd,Nat.reduceLT,Nat.reduceLeDiff,Nat.beq]
  rw [ih _ (by simp only [hi1,ht,cntE_snoc,slAll,slsAll,Nat.reduceMul,Nat.reduceBEq,Nat.reduceLT,Nat.reduceLeDiff,memAll,vAll,reduceCtorEq,Nat.reduceEqDiff,Nat.reduceAdd,Nat.reduceLT,Nat.reduceLeDiff,Nat.beq]<;>rfl)]
 ·intro rb
  simp only [fn82_b0,Int.lt_irrefl,List.length_map,List.take_length,slAll,slsAll,Nat.reduceMul,Nat.reduceBEq,Nat.reduceLT,Nat.reduceLeDiff,memAll,vAll,reduceCtorEq,Nat.reduceEqDiff,Nat.reduceAdd,Nat.reduceLT,Nat.reduceLeDiff,Nat.beq]
theorem cal82 {l:List Exn} (ho:okEs l) (hl:l.length≤10000):cal env 82 [.list 2 (l.map eExt)]=some [(.int .i64 (cntE (orS l)),false)]:=by
 have e1:=cal33 ho okEs_nil hl (by simp)
 simp only [List.map_nil] at e1
 have h1:=setOf_len orB l []
 have h2:=ext_in (fun s=>orB (inS l s) (inS [] s)) 4096
 unfold orS
 have hc:∀ x∈setOf orB l [],0≤x.count∧x.count≤4096:=fun x hx=>by have:=h2 x hx;omega
 generalize setOf orB l []=r at *
 rw [cal_code env82 rfl];simp only [fn82,slAll,Nat.reduceBEq,Nat.reduceLeDiff,Nat.reduceAdd,List.length_cons,List.length_nil]
 simp only [e1,List.length_map,slAll,slsAll,Nat.reduceMul,Nat.reduceBEq,Nat.reduceLT,Nat.reduceLeDiff,memAll,vAll,reduceCtorEq,Nat.reduceEqDiff,Nat.reduceAdd,Nat.reduceLT,Nat.reduceLeDiff,Nat.beq]
 rw [loop82 (l:=r) (by omega) hc (by simp only [List.take_zero,cntE,List.map_nil,List.sum_nil,slAll,slsAll,Nat.reduceMul,Nat.reduceBEq,Nat.reduceLT,Nat.reduceLeDiff,memAll,vAll,reduceCtorEq,Nat.reduceEqDiff,Nat.reduceAdd,Nat.reduceLT,Nat.reduceLeDiff,Nat.beq]<;>rfl)]
 simp only [e1,List.length_map,slAll,slsAll,Nat.reduceMul,Nat.reduceBEq,Nat.reduceLT,Nat.reduceLeDiff,memAll,vAll,reduceCtorEq,Nat.reduceEqDiff,Nat.reduceAdd,Nat.reduceLT,Nat.reduceLeDiff,Nat.beq]
end Go.Proofs.YtioijcfcehhmdaaGreatDoor.V

namespace Go.Proofs.YtioijcfcehhmdaaGreatDoor.V
def sE:List Exn→Int
 |[]=>0
 |e :: l=>e.count+sE l
def sL:List (List Exn)→Int
 |[]=>0
 |x :: l=>sE x+sL l
theorem sE_app:∀ a b:List Exn,sE (a++b)=sE a+sE b
 |[],b=>by simp [sE]
 |e :: a,b=>by simp only [List.cons_append,sE,sE_app a b];omega
theorem sL_app:∀ a b:List (List Exn),sL (a++b)=sL a+sL b
 |[],b=>by simp [sL]
 |e :: a,b=>by simp only [List.cons_append,sL,sL_app a b];omega
theorem sE_take {l:List Exn} {i:Nat} (h:i<l.length):sE (l.take (i+1))=sE (l.take i)+l[i].count:=by
 rw [List.take_succ_eq_append_getElem h,sE_app];simp [sE]
theorem sL_take {l:List (List Exn)} {i:Nat} (h:i<l.length):sL (l.take (i+1))=sL (l.take i)+sE l[i]:=by
 rw [List.take_succ_eq_append_getElem h,sL_app];simp [sL]
def okS (x:List Exn):Prop:=x.length≤4096∧∀ e∈x,0≤e.count∧e.count≤4096
theorem sE_le:∀ {l:List Exn},(∀ e∈l,0≤e.count∧e.count≤4096)→0≤sE l∧sE l≤4096 * (l.length:Int)
 |[],_=>by simp [sE]
 |e :: l,h=>by
  have h1:=h e (by simp)
  have h2:=sE_le (l:=l) fun x hx=>h x (by simp [hx])
  simp only [sE,List.length_cons]
  omega
theorem sE_tk {l:List Exn} (h:okS l) (i:Nat):0≤sE (l.take i)∧sE (l.take i)≤16777216:=by
 have h1:=sE_le (l:=l.take i) fun e he=>h.2 e (List.mem_of_mem_take he)
 have h2:=h.1
 have h3:(l.take i).length≤l.length:=by rw [List.length_take];omega
 omega
theorem sE_all {l:List Exn} (h:okS l):0≤sE l∧sE l≤16777216:=by
 have:=sE_tk h l.length
 rwa [List.take_length] at this
theorem sL_le:∀ {l:List (List Exn)},(∀ x∈l,okS x)→0≤sL l∧sL l≤16777216 * (l.length:Int)
 |[],_=>by simp [sL]
 |x :: l,h=>by
  have h1:=sE_all (h x (by simp))
  have h2:=sL_le (l:=l) fun y hy=>h y (by simp [hy])
  simp only [sL,List.length_cons]
  omega
theorem sL_tk {l:List (List Exn)} (h:∀ x∈l,okS x) (hl:l.length≤4096) (i:Nat):0≤sL (l.take i)∧sL (l.take i)≤68719476736:=by
 have h1:=sL_le (l:=l.take i) fun e he=>h e (List.mem_of_mem_take he)
 have h3:(l.take i).length≤l.length:=by rw [List.length_take];omega
 omega
theorem eExt_at {l:List Exn} {i:Nat} (h:i<l.length):(l.map eExt)[i]?=some (.agg [.int .i64 l[i].start,.int .i64 l[i].count]):=by rw [List.getElem?_map,List.getElem?_eq_getElem h];rfl
theorem eExts_at {l:List (List Exn)} {i:Nat} (h:i<l.length):(l.map eExts)[i]?=some (.list 2 (l[i].map eExt)):=by rw [List.getElem?_map,List.getElem?_eq_getElem h];rfl
theorem loop17 {ll:List (List Exn)} {x:List Exn} {c:Int} {j:Nat} (hc:0≤c∧c≤68719476736) (hx0:okS x) {st:St} (h:st.head [6,8,10,17,22,23,24,27,28,29,30] st.boxes.length=some ⟨sl 41 [(6,.row 1 (ll.map eExts)),(8,.pv (.int .i64 (c+sE (x.take ((0:Nat)))))),(10,.pv (.list 2 (x.map eExt))),(17,.any),(22,.ref (.slot 6) 0 ll.length),(23,.pv (.int .i64 ll.length)),(24,.pv (.int .i64 j)),(27,.pv (.list 2 (x.map eExt))),(28,.pv (.list 2 (x.map eExt))),(29,.pv (.int .i64 x.length)),(30,.pv (.int .i64 (0:Nat)))],[],[],none⟩) :
  den env fn17_l1 st=some (.normal,⟨sl 41 [(4,.any),(5,.any),(6,.row 1 (ll.map eExts)),(8,.pv (.int .i64 (c+sE x))),(17,.any),(22,.ref (.slot 6) 0 ll.length),(23,.pv (.int .i64 ll.length)),(24,.pv (.int .i64 j))],[],[],none⟩):=by
 unfold fn17_l1
 refine clean_up (env:=env) (nb:=0) (x.length) (fun i=>⟨sl 41 [(6,.row 1 (ll.map eExts)),(8,.pv (.int .i64 (c+sE (x.take (i))))),(10,.pv (.list 2 (x.map eExt))),(17,.any),(22,.ref (.slot 6) 0 ll.length),(23,.pv (.int .i64 ll.length)),(24,.pv (.int .i64 j)),(27,.pv (.list 2 (x.map eExt))),(28,.pv (.list 2 (x.map eExt))),(29,.pv (.int .i64 x.length)),(30,.pv (.int .i64 i))],[],[],none⟩) (fun i=>some (.normal,⟨sl 41 [(4,.any),(5,.any),(6,.row 1 (ll.map eExts)),(8,.pv (.int .i64 (c+sE x))),(17,.any),(22,.ref (.slot 6) 0 ll.length),(23,.pv (.int .i64 ll.length)),(24,.pv (.int .i64 j))],[],[],none⟩)) h (fun _=>rfl) (fun _=>by simp only [slAll,slsAll,Nat.reduceMul,Nat.reduceBEq,Nat.reduceLT,Nat.reduceLeDiff,Nat.reduceAdd,decide_true,Bool.and_self,Bool.true_and]) ?_ ?_
 ·intro i rb hi ih
  have hl:=hx0.1
  have hi1:=i64_next hi (Nat.le_trans hl (by decide))
  have F1:((i:Int)<(x.length:Int))=True:=eq_true (by omega)
  have hx:=eExt_at hi
  have P2:∀ a b:PV,part [a,b] 0 (some 2)=some (.agg [a,b]):=fun _ _=>rfl
  have b1:=sE_tk hx0 i
  have b2:=hx0.2 _ (List.getElem_mem hi)
  have W:IntKind.i64.wrap (c+sE (x.take i)+x[i].count)=c+sE (x.take (i+1)):=by rw [sE_take hi,i64_fits (by omega)];omega
  simp only [fn17_b0,F1,hx,P2,W,index_nat hi,List.length_map,slAll,slsAll,Nat.reduceMul,Nat.reduceBEq,Nat.reduceLT,Nat.reduceLeDiff,memAll,vAll,reduceCtorEq,Nat.reduceEqDiff,Nat.reduceAdd,Nat.reduceLT,Nat.reduceLeDiff,Nat.beq]
  rw [ih _ (by simp only [hi1,slAll,slsAll,Nat.reduceMul,Nat.reduceBEq,Nat.reduceLT,Nat.reduceLeDiff,memAll,vAll,reduceCtorEq,Nat.reduceEqDiff,Nat.reduceAdd,Nat.reduceLT,Nat.reduceLeDiff,Nat.beq]<;>rfl)]
 ·intro rb
  rw [List.take_length]
  simp only [fn17_b0,Int.lt_irrefl,List.length_map,slAll,slsAll,Nat.reduceMul,Nat.reduceBEq,Nat.reduceLT,Nat.reduceLeDiff,memAll,vAll,reduceCtorEq,Nat.reduceEqDiff,Nat.reduceAdd,Nat.reduceLT,Nat.reduceLeDiff,Nat.beq]
theorem loop17l3 {ll:List (List Exn)} (ho:∀ x∈ll,okS x) (hl:ll.length≤4096) {st:St} (h:st.head [6,8,17,22,23,24] st.boxes.length=some ⟨sl 41 [(6,.row 1 (ll.map eExts)),(8,.pv (.int .i64 (sL (ll.take ((0:Nat)))))),(17,.any),(22,.ref (.slot 6) 0 ll.length),(23,.pv (.int .i64 ll.length)),(24,.pv (.int .i64 (0:Nat)))],[],[],none⟩) :
  den env fn17_l3 st=some (.normal,⟨sl 41 [(4,.any),(5,.any),(8,.pv (.int .i64 (sL ll)))],[],[],none⟩):=by
 unfold fn17_l3
 refine clean_up (env:=env) (nb:=0) (ll.length) (fun i=>⟨sl 41 [(6,.row 1 (ll.map eExts)),(8,.pv (.int .i64 (sL (ll.take (i))))),(17,.any),(22,.ref (.slot 6) 0 ll.length),(23,.pv (.int .i64 ll.length)),(24,.pv (.int .i64 i))],[],[],none⟩) (fun i=>some (.normal,⟨sl 41 [(4,.any),(5,.any),(8,.pv (.int .i64 (sL ll)))],[],[],none⟩)) h (fun _=>rfl) (fun _=>by simp only [slAll,slsAll,Nat.reduceMul,Nat.reduceBEq,Nat.reduceLT,Nat.reduceLeDiff,Nat.reduceAdd,decide_true,Bool.and_self,Bool.true_and]) ?_ ?_
 ·intro i rb hi ih
  have hi1:=i64_next hi (Nat.le_trans hl (by decide))
  have F1:((i:Int)<(ll.length:Int))=True:=eq_true (by omega)
  have hx:=eExts_at hi
  have b1:=sL_tk ho hl i
  have hs:=sL_take hi
  simp only [fn17_b2,F1,hx,index_nat hi,List.length_map,slAll,slsAll,Nat.reduceMul,Nat.reduceBEq,Nat.reduceLT,Nat.reduceLeDiff,memAll,vAll,reduceCtorEq,Nat.reduceEqDiff,Nat.reduceAdd,Nat.reduceLT,Nat.reduceLeDiff,Nat.beq]
  rw [loop17 (ll:=ll) (x:=ll[i]) (c:=sL (ll.take i)) (j:=i) b1 (ho _ (List.getElem_mem hi)) (by simp only [List.take_zero,sE,Int.add_zero];simp only [slAll,slsAll,Nat.reduceMul,Nat.reduceBEq,Nat.reduceLT,Nat.reduceLeDiff,Nat.reduceAdd,decide_true,Bool.and_self,Bool.true_and]<;>rfl)]
  simp only [← hs,slAll,slsAll,Nat.reduceMul,Nat.reduceBEq,Nat.reduceLT,Nat.reduceLeDiff,memAll,vAll,reduceCtorEq,Nat.reduceEqDiff,Nat.reduceAdd,Nat.reduceLT,Nat.reduceLeDiff,Nat.beq]
  rw [ih _ (by simp only [hi1,slAll,slsAll,Nat.reduceMul,Nat.reduceBEq,Nat.reduceLT,Nat.reduceLeDiff,memAll,vAll,reduceCtorEq,Nat.reduceEqDiff,Nat.reduceAdd,Nat.reduceLT,Nat.reduceLeDiff,Nat.beq]<;>rfl)]
 ·intro rb
  rw [List.take_length]
  simp only [fn17_b2,Int.lt_irrefl,List.length_map,slAll,slsAll,Nat.reduceMul,Nat.reduceBEq,Nat.reduceLT,Nat.reduceLeDiff,memAll,vAll,reduceCtorEq,Nat.reduceEqDiff,Nat.reduceAdd,Nat.reduceLT,Nat.reduceLeDiff,Nat.beq]
theorem differ_okS {a b:Img} (ha:a.length≤4096) (hv:∀ v∈a,v.length≤4096):(differOut a b).length≤4096∧∀ x∈differOut a b,okS x:=by
 unfold differOut
 split
 ·unfold differ
  refine ⟨by rw [List.length_map,List.length_zip];omega,?_⟩
  intro x hx
  obtain ⟨q,hq,rfl⟩:=List.mem_map.1 hx
  have h1:=hv _ (List.of_mem_zip hq).1
  have e:volDiff q.1 q.2=ext (dif q.1 q.2) q.1.length:=rfl
  rw [e]
  refine ⟨Nat.le_trans (ext_len _ _) h1,?_⟩
  intro y hy
  have:=ext_in _ _ y hy
  omega
 ·exact ⟨by simp,fun x h=>by cases h⟩
theorem cal17 {a b:Img} (ha:a.length≤4096) (hb:b.length≤lim) (hv:∀ v∈a,v.length≤4096):cal env 17 [.list 1 (a.map eSecs),.list 1 (b.map eSecs)]=some [(.int .i64 (if pairErr a b=0 then sL (differOut a b) else 0),false),(.int .i64 (pairErr a b),false)]:=by
 have hl:lim=1073741824:=rfl
 have e1:=cal30 (a:=a) (b:=b) (by omega) hb (fun v h=>by have:=hv v h;omega)
 obtain ⟨h1,h2⟩:=differ_okS (a:=a) (b:=b) ha hv
 by_cases c:pairErr a b=0
 ·have F1:((0:Int) != 0)=false:=rfl
  rw [c] at e1
  rw [if_pos c,c]
  rw [cal_code env17 rfl];simp only [fn17,slAll,Nat.reduceBEq,Nat.reduceLeDiff,Nat.reduceAdd,List.length_cons,List.length_nil]
  simp only [e1,F1,List.length_map,slAll,slsAll,Nat.reduceMul,Nat.reduceBEq,Nat.reduceLT,Nat.reduceLeDiff,memAll,vAll,reduceCtorEq,Nat.reduceEqDiff,Nat.reduceAdd,Nat.reduceLT,Nat.reduceLeDiff,Nat.beq]
  rw [loop17l3 h2 h1]
  rotate_left
  ·simp only [List.take_zero,sL];simp only [slAll,slsAll,Nat.reduceMul,Nat.reduceBEq,Nat.reduceLT,Nat.reduceLeDiff,Nat.reduceAdd,decide_true,Bool.and_self,Bool.true_and]<;>rfl
  ·simp only [slAll,slsAll,Nat.reduceMul,Nat.reduceBEq,Nat.reduceLT,Nat.reduceLeDiff,memAll,vAll,reduceCtorEq,Nat.reduceEqDiff,Nat.reduceAdd,Nat.reduceLT,Nat.reduceLeDiff,Nat.beq]
 ·have F1:(pairErr a b != 0)=true:=by simp [c]
  rw [if_neg c]
  rw [cal_code env17 rfl];simp only [fn17,slAll,Nat.reduceBEq,Nat.reduceLeDiff,Nat.reduceAdd,List.length_cons,List.length_nil]
  simp only [e1,F1,slAll,slsAll,Nat.reduceMul,Nat.reduceBEq,Nat.reduceLT,Nat.reduceLeDiff,memAll,vAll,reduceCtorEq,Nat.reduceEqDiff,Nat.reduceAdd,Nat.reduceLT,Nat.reduceLeDiff,Nat.beq]
end Go.Proofs.YtioijcfcehhmdaaGreatDoor.V

namespace Go.Proofs.YtioijcfcehhmdaaGreatDoor.V
end Go.Proofs.YtioijcfcehhmdaaGreatDoor.V

namespace Go.Proofs.YtioijcfcehhmdaaGreatDoor.V
theorem eExs_at {l:List (List Exn)} {i:Nat} (h:i<l.length):(l.map eExs)[i]?=some (.list 2 (l[i].map eExt)):=by rw [List.getElem?_map,List.getElem?_eq_getElem h];rfl
def resEx (n:Nat) (b:Bool):Option (Ex × St):=if b then some (.normal,⟨sl n [(4,.any)],[],[],none⟩) else some (.ret,⟨sl n [(4,.pv (.bool false))],[],[],none⟩)
theorem loop27 {l m:List (List Exn)} (hab:l.length=m.length) (hl:l.length≤lim) (hr:∀ x∈l,x.length≤lim) {st:St} (h:st.head [0,1,5] st.boxes.length=some ⟨sl 27 [(0,.pv (.list 1 (l.map eExs))),(1,.pv (.list 1 (m.map eExs))),(5,.pv (.int .i64 (0:Nat)))],[],[],none⟩) :
  den env fn27_l1 st=resEx 27 (decide (l.drop ((0:Nat))=m.drop ((0:Nat)))):=by
 unfold fn27_l1
 refine clean_up (env:=env) (nb:=0) (l.length) (fun i=>⟨sl 27 [(0,.pv (.list 1 (l.map eExs))),(1,.pv (.list 1 (m.map eExs))),(5,.pv (.int .i64 i))],[],[],none⟩) (fun i=>resEx 27 (decide (l.drop (i)=m.drop (i)))) h (fun _=>rfl) (fun _=>by simp only [slAll,slsAll,Nat.reduceMul,Nat.reduceBEq,Nat.reduceLT,Nat.reduceLeDiff,Nat.reduceAdd,decide_true,Bool.and_self,Bool.true_and]) ?_ ?_
 ·intro i rb hi ih
  have hi1:=i64_next hi hl
  have hj:i<m.length:=by omega
  have F1:((i:Int)<(l.length:Int))=True:=eq_true (by omega)
  have hx:=eExs_at hi
  have hy:=eExs_at hj
  have e1:=cal75 (a:=l[i]) (b:=m[i]) (hr _ (List.getElem_mem hi))
  rw [List.drop_eq_getElem_cons hi,List.drop_eq_getElem_cons hj]
  by_cases c:l[i]=m[i]
  ·rw [decide_eq_true c] at e1
   simp only [fn27_b0,F1,hx,hy,e1,index_nat hi,index_nat hj,List.length_map,slAll,slsAll,Nat.reduceMul,Nat.reduceBEq,Nat.reduceLT,Nat.reduceLeDiff,memAll,vAll,reduceCtorEq,Nat.reduceEqDiff,Nat.reduceAdd,Nat.reduceLT,Nat.reduceLeDiff,Nat.beq]
   rw [ih _ (by simp only [hi1,slAll,slsAll,Nat.reduceMul,Nat.reduceBEq,Nat.reduceLT,Nat.reduceLeDiff,memAll,vAll,reduceCtorEq,Nat.reduceEqDiff,Nat.reduceAdd,Nat.reduceLT,Nat.reduceLeDiff,Nat.beq]<;>rfl)]
   simp only [c,List.cons.injEq,true_and]
  ·rw [decide_eq_false c] at e1
   simp only [c,List.cons.injEq,false_and,decide_false,resEx,Bool.false_eq_true,if_false]
   simp only [fn27_b0,F1,hx,hy,e1,index_nat hi,index_nat hj,List.length_map,slAll,slsAll,Nat.reduceMul,Nat.reduceBEq,Nat.reduceLT,Nat.reduceLeDiff,memAll,vAll,reduceCtorEq,Nat.reduceEqDiff,Nat.reduceAdd,Nat.reduceLT,Nat.reduceLeDiff,Nat.beq]
 ·intro rb
  rw [List.drop_length,hab,List.drop_length,decide_eq_true rfl]
  unfold resEx
  rw [if_pos rfl]
  simp only [fn27_b0,Int.lt_irrefl,hab,List.length_map,slAll,slsAll,Nat.reduceMul,Nat.reduceBEq,Nat.reduceLT,Nat.reduceLeDiff,memAll,vAll,reduceCtorEq,Nat.reduceEqDiff,Nat.reduceAdd,Nat.reduceLT,Nat.reduceLeDiff,Nat.beq]
theorem cal27 {l m:List (List Exn)} (hl:l.length≤lim) (hr:∀ x∈l,x.length≤lim):cal env 27 [.list 1 (l.map eExs),.list 1 (m.map eExs)]=some [(.bool (decide (l=m)),false)]:=by
 by_cases c:l.length=m.length
 ·have F1:((l.length:Int) != (m.length:Int))=false:=by simp [c]
  rw [cal_code env27 rfl];simp only [fn27,slAll,Nat.reduceBEq,Nat.reduceLeDiff,Nat.reduceAdd,List.length_cons,List.length_nil]
  simp only [F1,List.length_map,slAll,slsAll,Nat.reduceMul,Nat.reduceBEq,Nat.reduceLT,Nat.reduceLeDiff,memAll,vAll,reduceCtorEq,Nat.reduceEqDiff,Nat.reduceAdd,Nat.reduceLT,Nat.reduceLeDiff,Nat.beq]
  rw [loop27 (l:=l) (m:=m) c hl hr]
  rotate_left
  ·simp only [slAll,slsAll,Nat.reduceMul,Nat.reduceBEq,Nat.reduceLT,Nat.reduceLeDiff,Nat.reduceAdd,decide_true,Bool.and_self,Bool.true_and]<;>rfl
  ·simp only [List.drop_zero]
   unfold resEx
   by_cases d:l=m
   ·rw [decide_eq_true d,if_pos rfl];simp only [slAll,slsAll,Nat.reduceMul,Nat.reduceBEq,Nat.reduceLT,Nat.reduceLeDiff,memAll,vAll,reduceCtorEq,Nat.reduceEqDiff,Nat.reduceAdd,Nat.reduceLT,Nat.reduceLeDiff,Nat.beq]
   ·rw [decide_eq_false d,if_neg (by decide)];simp only [slAll,slsAll,Nat.reduceMul,Nat.reduceBEq,Nat.reduceLT,Nat.reduceLeDiff,memAll,vAll,reduceCtorEq,Nat.reduceEqDiff,Nat.reduceAdd,Nat.reduceLT,Nat.reduceLeDiff,Nat.beq]
 ·have F1:((l.length:Int) != (m.length:Int))=true:=by simp;omega
  have d:l≠m:=fun h=>c (by rw [h])
  rw [decide_eq_false d]
  rw [cal_code env27 rfl];simp only [fn27,slAll,Nat.reduceBEq,Nat.reduceLeDiff,Nat.reduceAdd,List.length_cons,List.length_nil]
  simp only [F1,List.length_map,slAll,slsAll,Nat.reduceMul,Nat.reduceBEq,Nat.reduceLT,Nat.reduceLeDiff,memAll,vAll,reduceCtorEq,Nat.reduceEqDiff,Nat.reduceAdd,Nat.reduceLT,Nat.reduceLeDiff,Nat.beq]
end Go.Proofs.YtioijcfcehhmdaaGreatDoor.V

namespace Go.Proofs.YtioijcfcehhmdaaGreatDoor
open Go.RowKit
structure LaterB (W:World) (g:Nat) where
 w:World
 grown:W.grownBy w (some g)
instance (W:World) (g:Nat):Nonempty (LaterB W g):=⟨⟨W,World.grownBy.refl _ _⟩⟩
theorem LaterB.of {W w:World} {g:Nat} (h:W.grownBy w (some g)):∃ x:LaterB W g,w=x.w:=⟨⟨w,h⟩,rfl⟩
theorem grown_drew (W:World) (row:Option Nat):W.grownBy W.drew row:=⟨rfl,rfl,rfl,Nat.le_refl _,fun _ _ _=>rfl⟩
theorem LaterB.drew (W:World) (g:Nat):∃ x:LaterB W g,W.drew=x.w:=LaterB.of (grown_drew _ _)
theorem cellLaterB {w:World} {g:Nat} {a:Addr} {v:Value} (h:w.cell? a=some v) (hne:a.block≠g):∀ x:LaterB w g,x.w.cell? a=some v:=fun x =>
 x.grown.cell h fun e=>hne (Option.some.inj e)
theorem grown_trans {a b c:World} {row:Option Nat} (h:a.grownBy b row) (k:b.grownBy c row):a.grownBy c row :=
 ⟨k.os.trans h.os,k.tape.trans h.tape,k.output.trans h.output,Nat.le_trans h.size k.size,fun i hi hr=>(k.block i (Nat.lt_of_lt_of_le hi h.size) hr).trans (h.block i hi hr)⟩
theorem grown_below {B:Nat} {w w':World} {row:Option Nat} (h:w.grownBy w' row) (hB:B≤w.heap.size) (hr:∀ k,row=some k→B≤k):Below B w w':=(Below.refl B w).grown h hB hr
theorem below_grown {w w':World} (h:Below w.heap.size w w'):w.grownBy w' none:=⟨h.os,h.tape,h.output,h.size,fun k hk _=>h.block k hk⟩
theorem boxCell {w w1:World} {cs:Array Value} {T:TypeId} (hb:Below (w.alloc (.cells cs T)).heap.size (w.alloc (.cells cs T)) w1) {j:Nat} {v:Value} (h:cs[j]?=some v):w1.cell? ⟨w.heap.size,j,none⟩=some v:=by
 rw [hb.cell (p:=⟨w.heap.size,j,none⟩) (by simp),World.cell?_alloc_mark w cs T (0,0) j,h]
theorem news_new (w:World) (E:TypeId) (cs:Array Value):∀ j u,cs.toList[j]?=some u→(w.alloc (.cells cs E)).cell? ((⟨w.heap.size,0,none⟩:Addr).add j)=some u:=fun j u hu=>by
 rw [Addr.add_lit,Nat.zero_add,World.cell?_alloc_mark w cs E (0,0) j]
 simpa using hu
theorem rd_below {α:Type} {r:Rep α} {ok:Nat→Prop} {w w':World} {cs:List Value} {x:α} (h:r.rd ok w cs x) (hb:Below w.heap.size w w'):r.rd ok w' cs x :=
 r.mono (fun _ hb=>hb.1) (r.frame (fun b hb'=>hb.block b hb'.2) (r.live h))
theorem rd_alloc {α:Type} {r:Rep α} {ok:Nat→Prop} {w:World} {cs:List Value} {x:α} (h:r.rd ok w cs x) {o:Obj}:r.rd ok (w.alloc o) cs x:=rd_below h ((Below.refl _ _).alloc (Nat.le_refl _) _)
def ChunksD {α:Type} (r:Rep α) (tag:Nat→Nat) (ok:Nat→Prop) (w:World):Nat→List Value→List α→Prop
 |_,xs,[]=>xs=[]
 |i,xs,x :: l=>∃ c rest,xs=c++rest∧r.rd (fun b=>ok b∧tag b=i) w c x∧ChunksD r tag ok w (i+1) rest l
section
variable {α:Type} {r:Rep α} {tag tag':Nat→Nat} {ok ok':Nat→Prop} {w w':World}
theorem ChunksD.mono (hk:∀ b,ok b→ok' b):∀ {l:List α} {i:Nat} {xs:List Value},ChunksD r tag ok w i xs l→ChunksD r tag ok' w i xs l
 |[],_,_,h=>h
 |_ :: _,_,_,⟨c,rest,e,h1,h2⟩=>⟨c,rest,e,r.mono (fun b hb=>⟨hk b hb.1,hb.2⟩) h1,h2.mono hk⟩
theorem ChunksD.retag (hk:∀ b,ok b→tag' b=tag b):∀ {l:List α} {i:Nat} {xs:List Value},ChunksD r tag ok w i xs l→ChunksD r tag' ok w i xs l
 |[],_,_,h=>h
 |_ :: _,_,_,⟨c,rest,e,h1,h2⟩=>⟨c,rest,e,r.mono (fun b hb=>⟨hb.1,by rw [hk b hb.1];exact hb.2⟩) h1,h2.retag hk⟩
theorem ChunksD.live:∀ {l:List α} {i:Nat} {xs:List Value},ChunksD r tag ok w i xs l→ChunksD r tag (fun b=>ok b∧b<w.heap.size) w i xs l
 |[],_,_,h=>h
 |_ :: _,_,_,⟨c,rest,e,h1,h2⟩=>⟨c,rest,e,r.mono (fun b hb=>⟨⟨hb.1.1,hb.2⟩,hb.1.2⟩) (r.live h1),h2.live⟩
theorem ChunksD.frame (hf:∀ b,ok b→w'.heap[b]?=w.heap[b]?):∀ {l:List α} {i:Nat} {xs:List Value},ChunksD r tag ok w i xs l→ChunksD r tag ok w' i xs l
 |[],_,_,h=>h
 |_ :: _,_,_,⟨c,rest,e,h1,h2⟩=>⟨c,rest,e,r.frame (fun b hb=>hf b hb.1) h1,h2.frame hf⟩
theorem ChunksD.chunks:∀ {l:List α} {i:Nat} {xs:List Value},ChunksD r tag ok w i xs l→Chunks r ok w xs l
 |[],_,_,h=>h
 |_ :: _,_,_,⟨c,rest,e,h1,h2⟩=>⟨c,rest,e,r.mono (fun b hb=>hb.1) h1,h2.chunks⟩
theorem ChunksD.snoc {c:List Value} {x:α}:∀ {l:List α} {i:Nat} {xs:List Value},ChunksD r tag ok w i xs l→r.rd (fun b=>ok b∧tag b=i+l.length) w c x→ChunksD r tag ok w i (xs++c) (l++[x])
 |[],i,xs,h,hc=>by
  simp only [ChunksD] at h
  subst h
  exact ⟨c,[],by simp,by simpa using hc,rfl⟩
 |y :: l,i,xs,⟨d,rest,e,h1,h2⟩,hc=>⟨d,rest++c,by rw [e,List.append_assoc],h1,h2.snoc (by rw [List.length_cons] at hc;rw [show i+1+l.length=i+(l.length+1) by omega];exact hc)⟩
theorem ChunksD.pick:∀ {l:List α} {i:Nat} {xs:List Value},ChunksD r tag ok w i xs l→∀ {k:Nat} {x:α},l[k]?=some x →
  ∃ c,(∀ j,j<r.sz→xs[k * r.sz+j]?=c[j]?)∧r.rd (fun b=>ok b∧tag b=i+k) w c x ∧
   ∀ (w':World) (x':α),(∀ b,ok b→tag b≠i+k→w'.heap[b]?=w.heap[b]?)→r.rd (fun b=>ok b∧tag b=i+k) w' c x'→ChunksD r tag ok w' i xs (l.set k x')
 |[],_,_,_,k,x,hx=>by simp at hx
 |y :: l,i,xs,⟨c,rest,e,h1,h2⟩,0,x,hx=>by
  simp only [List.getElem?_cons_zero,Option.some.injEq] at hx
  subst hx
  refine ⟨c,fun j hj=>by rw [e,Nat.zero_mul,Nat.zero_add,List.getElem?_append_left (by rw [r.len h1];exact hj)],h1,fun w' x' hf hr=>?_⟩
  refine ⟨c,rest,e,hr,?_⟩
  -- the tail's elements bear other tags
  have:∀ {l:List α} {m:Nat} {xs:List Value},i<m→ChunksD r tag ok w m xs l→ChunksD r tag ok w' m xs l:=by
   intro l
   induction l with
   |nil=>intro m xs _ h;exact h
   |cons z l ih =>
    intro m xs hm h
    obtain ⟨d,rs,e',h3,h4⟩:=h
    exact ⟨d,rs,e',r.frame (fun b hb=>hf b hb.1 (by rw [hb.2];omega)) h3,ih (by omega) h4⟩
  exact this (Nat.lt_succ_self _) h2
 |y :: l,i,xs,⟨c,rest,e,h1,h2⟩,k+1,x,hx=>by
  obtain ⟨d,h3,h4,h5⟩:=h2.pick (k:=k) (x:=x) (by simpa using hx)
  have ei:i+1+k=i+(k+1):=by omega
  refine ⟨d,fun j hj=>?_,by rw [← ei];exact h4,fun w' x' hf hr=>?_⟩
  ·rw [e,List.getElem?_append_right (by rw [r.len h1,Nat.add_mul];omega),r.len h1,← h3 j hj]
   congr 1
   rw [Nat.add_mul];omega
  ·refine ⟨c,rest,e,r.frame (fun b hb=>hf b hb.1 (by rw [hb.2];omega)) h1,?_⟩
   exact h5 w' x' (fun b hb hne=>hf b hb (by rw [← ei];exact hne)) (by rw [ei];exact hr)
end
def OwnD {α:Type} (r:Rep α) (B F:Nat) (E:TypeId) (w:World) (v:Value) (l:List α):Prop :=
 ∃ tag xs,w.ownsRow B E r.sz v l.length xs∧ChunksD r tag (fun b=>B≤b∧b<F∧Option.some b≠v.ownBlock) w 0 xs l
section
variable {α:Type} {r:Rep α} {B F:Nat} {E:TypeId} {w w':World} {v:Value} {l:List α}
theorem OwnD.nil (r:Rep α) (B F:Nat) (E:TypeId) (w:World):OwnD r B F E w (.slice none 0 0) []:=⟨fun _=>0,[],World.ownsRow_nil _ _ _ _,rfl⟩
theorem OwnD.up {F':Nat} (h:OwnD r B F E w v l) (hF:F≤F'):OwnD r B F' E w v l :=
 let ⟨tag,xs,h1,h2⟩:=h;⟨tag,xs,h1,h2.mono fun _ hb=>⟨hb.1,Nat.lt_of_lt_of_le hb.2.1 hF,hb.2.2⟩⟩
theorem OwnD.live (h:OwnD r B F E w v l):OwnD r B w.heap.size E w v l :=
 let ⟨tag,xs,h1,h2⟩:=h;⟨tag,xs,h1,h2.live.mono fun _ hb=>⟨hb.1.1,hb.2,hb.1.2.2⟩⟩
theorem OwnD.lt (h:OwnD r B F E w v l):∀ k,v.ownBlock=some k→B≤k∧k<w.heap.size:=let ⟨_,_,h1,_⟩:=h;h1.lt
theorem OwnD.below (h:OwnD r B F E w v l) (hb:Below w.heap.size w w'):OwnD r B F E w' v l:=by
 obtain ⟨tag,xs,h1,h2⟩:=h
 exact ⟨tag,xs,h1.kept (below_grown hb) (by cases v.ownBlock<;>simp),(ChunksD.frame (fun b hb'=>hb.block b hb'.2) h2.live).mono fun b hb=>hb.1⟩
theorem OwnD.own (h:OwnD r B F E w v l):Own r B E (B≤·) w v l :=
 let ⟨_,xs,h1,h2⟩:=h;⟨xs,h1,h2.chunks.mono fun _ hb=>⟨hb.1,hb.2.2⟩⟩
theorem OwnD.sl (h:OwnD r B F E w v l):∃ a n c,v=.slice a n c∧Sl r (B≤·) w a n c l :=
 let ⟨a,n,c,e,h⟩:=h.own.sl;⟨a,n,c,e,h.mono fun _ hb=>hb.elim id id⟩
theorem wpList_appD {P:Program} {ops:Array Oper} {rest:List Oper} {o:Oper} {a:Act} {Q:Exit→Act→World→Prop} {T bytes:Nat} {z:Value} (ht:SliceT P T E r.sz bytes z) (hgd:o.guard=none) (s x:Operand)
  (ho:o.op=.call { callee:=.builtin .append,args:=#[s,x],argTypes:=#[T,T] }) (hs:a.eval s=v) (h:OwnD r B F E w v l) {ad:Addr} {c:Nat} (hx:a.eval x=.slice (some ad) 1 c)
  {y:α} {news:List Value} (hnews:∀ j u,news[j]?=some u→w.cell? (ad.add j)=some u) (hrd:r.rd (F≤·) w news y) (hown:∀ k,v.ownBlock=some k→k<F)
  (h63:l.length+1≤maxLen) (hby:(l.length+1) * bytes≤140737488355328) (hB:B≤F) (hF:F≤w.heap.size)
  (hk:∀ v' w',OwnD r B w'.heap.size E w' v' (l++[y])→w.grownBy w' v.ownBlock→(v'.ownBlock=v.ownBlock∨v'.ownBlock=some w.heap.size)→wpList P ops Q rest (a.put o.dst v') w'):wpList P ops Q (o :: rest) a w:=by
 refine wpList_plain hgd fun K hK=>?_
 obtain ⟨i,hi,hz0,hz1,hz2⟩:=info_parts ht.i
 obtain ⟨tag,xs,h1,h2⟩:=h
 obtain ⟨v',w',hr,h3,h4,_,h6⟩:=run_append_own_at (P:=P) w B T o.type E i z r.sz bytes ht.u hi hz0 hz1 hz2 ht.zs ht.pos v l.length xs h1 ad 1 c news (by rw [r.len hrd];simp) hnews (r.one hrd) h63 hby (by omega)
 unfold Oper.wp execOp
 simp only [ho,resolve,invoke,builtin,Sem.run_bind,Sem.run_pure,Result.andThen_ok,List.map_toArray,List.map_cons,List.map_nil,hs,hx,hr]
 refine hK _ _ (hk v' w' ?_ h4 h6)
 refine ⟨fun b=>if F≤b then l.length else tag b,xs++news,by rw [List.length_append];exact h3,?_⟩
 have hne:∀ b,b<w.heap.size→Option.some b≠v.ownBlock→Option.some b≠v'.ownBlock:=fun b hb hn=>by
  rcases h6 with h6|h6
  ·rw [h6];exact hn
  ·rw [h6];intro e;have:=Option.some.inj e;omega
 refine ChunksD.snoc ?_ ?_
 ·have e1:ChunksD r (fun b=>if F≤b then l.length else tag b) (fun b=>B≤b∧b<F∧Option.some b≠v.ownBlock) w 0 xs l:=h2.retag fun b hb=>by
   show (if F≤b then l.length else tag b)=tag b
   rw [if_neg (by omega)]
  refine (ChunksD.frame (fun b hb=>h4.block b (by omega) hb.2.2) e1).mono fun b hb=>⟨hb.1,Nat.lt_of_lt_of_le hb.2.1 (Nat.le_trans hF h4.size),hne b (by omega) hb.2.2⟩
 ·have hno:∀ b,F≤b→Option.some b≠v.ownBlock:=fun b hb e=>by have:=hown b e.symm;omega
  refine r.mono (fun b hb=>⟨⟨by omega,Nat.lt_of_lt_of_le hb.2 h4.size,hne b hb.2 (hno b hb.1)⟩,?_⟩) (r.frame (fun b hb=>h4.block b hb.2 (hno b hb.1)) (r.live hrd))
  show (if F≤b then l.length else tag b)=0+l.length
  rw [if_pos hb.1,Nat.zero_add]
def RetSlE {α:Type} (r:Rep α) (ok:Nat→Prop) (w:World) (l:List α) (err:Int):Ending→World→Prop:=fun e w' =>
 ∃ a n c,e=.returned (.tuple #[.slice a n c,.int .i64 err])∧Sl r ok w' a n c l∧Below w.heap.size w w'
theorem RetSlE.mk {α:Type} {r:Rep α} {ok:Nat→Prop} {w w':World} {l:List α} {err err':Int} {a:Option Addr} {n c:Nat} (he:err'=err) (h:Sl r ok w' a n c l) (hB:Below w.heap.size w w') :
  RetSlE r ok w l err (.returned (.tuple #[.slice a n c,.int .i64 err'])) w':=⟨a,n,c,by rw [he],h,hB⟩
theorem Sl.nil0 {α:Type} (r:Rep α) (ok:Nat→Prop) (w:World):Sl r ok w none 0 0 []:=⟨rfl,Nat.le_refl _,Nat.zero_le _,fun _=>rfl,.inl rfl⟩
def Flat {α:Type} (r:Rep α):Prop:=∀ {ok ok':Nat→Prop} {w w':World} {cs:List Value} {x:α},r.rd ok w cs x→r.rd ok' w' cs x
theorem Flat.int:Flat intR:=fun h=>h
theorem Flat.sec:Flat secR:=fun h=>h
theorem Flat.u8:Flat u8R:=fun h=>h
theorem Flat.u64:Flat u64R:=fun h=>h
theorem Flat.bool:Flat boolR:=fun h=>h
theorem Chunks.flat {α:Type} {r:Rep α} (hf:Flat r) {ok ok':Nat→Prop} {w w':World}:∀ {l:List α} {xs:List Value},Chunks r ok w xs l→Chunks r ok' w' xs l
 |[],_,h=>h
 |_ :: _,_,⟨c,rest,e,h1,h2⟩=>⟨c,rest,e,hf h1,h2.flat hf⟩
theorem Src.flat {α:Type} {r:Rep α} (hf:Flat r) {ok ok':Nat→Prop} {w:World} {ao:Option Addr} {m c:Nat} {ys:List α} (h:Src r ok w ao m c ys):Src r ok' w ao m c ys :=
 let ⟨h1,h2,news,h3,h4⟩:=h;⟨h1,h2,news,h3,h4.flat hf⟩
theorem Own.lit0 {α:Type} (r:Rep α) {B:Nat} {E:TypeId} {ok:Nat→Prop} {w:World} (hB:B≤w.heap.size):Own r B E ok (w.alloc (.cells #[] E)) (.slice (some ⟨w.heap.size,0,none⟩) 0 0) [] :=
 ⟨[],World.ownsRow_lit w #[] 0 hB (Nat.zero_le _) (by simp),rfl⟩
theorem OwnD.at (h:OwnD r B F E w v l) {k:Nat} {x:α} (hx:l[k]?=some x) :
  ∃ g cap c,∃ okk:Nat→Prop,v=.slice (some ⟨g,0,none⟩) l.length cap∧B≤g∧g<w.heap.size∧(∀ j,j<r.sz→w.cell? ⟨g,k * r.sz+j,none⟩=c[j]?)∧r.rd okk w c x∧(∀ b,okk b→B≤b∧b<F∧b≠g) ∧
   ∀ (w':World) (x':α),(∀ b,b<w.heap.size→¬ okk b→w'.heap[b]?=w.heap[b]?)→w'.os=w.os→w'.tape=w.tape→w'.output=w.output→w.heap.size≤w'.heap.size→r.rd okk w' c x'→OwnD r B F E w' v (l.set k x'):=by
 obtain ⟨tag,xs,h1,h2⟩:=h
 have hk:=(List.getElem?_eq_some_iff.1 hx).1
 obtain ⟨g,cap,rfl,hBg,hg⟩:∃ g cap,v=.slice (some ⟨g,0,none⟩) l.length cap∧B≤g∧g<w.heap.size:=by
  rcases h1.2 with ⟨_,h0⟩|⟨g,cap,cur,hv,hb,hg,_⟩
  ·omega
  ·exact ⟨g,cap,hv,hb,(Array.getElem?_eq_some_iff.1 hg).1⟩
 obtain ⟨c,h3,h4,h5⟩:=h2.live.pick hx
 refine ⟨g,cap,c,_,rfl,hBg,hg,fun j hj=>?_,h4,fun b hb=>⟨hb.1.1.1,hb.1.1.2.1,fun e=>hb.1.1.2.2 (by rw [e];rfl)⟩,fun w' x' hf hos htp hout hsz hr=>?_⟩
 ·rw [← h3 j hj,h1.cellAt]
  calc k * r.sz+j<k * r.sz+r.sz:=by omega
   _=(k+1) * r.sz:=by rw [Nat.add_mul];omega
   _≤l.length * r.sz:=Nat.mul_le_mul_right _ (by omega)
 ·have h6:=h5 w' x' (fun b hb hne=>hf b hb.2 fun e=>hne (by simpa using e.2)) hr
  refine ⟨tag,xs,?_,h6.mono fun b hb=>hb.1⟩
  rw [List.length_set]
  have hgk:w'.heap[g]?=w.heap[g]?:=hf g hg fun e=>e.1.1.2.2 rfl
  obtain ⟨hl,⟨hv,h0⟩|⟨g',cap',cur,hv,r1,r2,r3⟩⟩:=h1
  ·cases hv
  ·cases hv
   exact ⟨hl,.inr ⟨g,cap,cur,rfl,r1,by rw [hgk];exact r2,r3⟩⟩
end
def ownRowR {α:Type} (r:Rep α) (E:TypeId):Rep (List α) where
 sz:=1
 rd ok w cs l:=∃ v,cs=[v]∧(∀ b,v.ownBlock=some b→ok b)∧Own r 0 E (fun _=>False) w v l∧(l=[]→v=.slice none 0 0∨∃ g c,v=.slice (some ⟨g,0,none⟩) 0 c)
 len h:=by obtain ⟨v,rfl,_⟩:=h;rfl
 mono hk h:=let ⟨v,e,h1,h2⟩:=h;⟨v,e,fun b hb=>hk b (h1 b hb),h2⟩
 live h:=let ⟨v,e,h1,h2,h3⟩:=h;⟨v,e,fun b hb=>⟨h1 b hb,(h2.lt b hb).2⟩,h2,h3⟩
 frame hf h:=by
  obtain ⟨v,e,h1,⟨xs,h2,h3⟩,h4⟩:=h
  refine ⟨v,e,h1,⟨xs,⟨h2.1,?_⟩,(Chunks.frame (fun b hb=>hb.1.elim) h3)⟩,h4⟩
  rcases h2.2 with h0|⟨g,cap,cur,hv,hb,hg,rest⟩
  ·exact .inl h0
  ·refine .inr ⟨g,cap,cur,hv,hb,?_,rest⟩
   rw [hf g (h1 g (by rw [hv];rfl))];exact hg
 one h:=by
  obtain ⟨v,rfl,_,⟨xs,h2,_⟩,_⟩:=h
  intro u hu
  cases List.mem_singleton.1 hu
  rcases h2.2 with ⟨rfl,_⟩|⟨g,cap,cur,rfl,_⟩<;>rfl
theorem ownRowR.sl {α:Type} {r:Rep α} {E:TypeId} {ok:Nat→Prop} {w:World} {v:Value} {l:List α} (hf:Flat r) (h:(ownRowR r E).rd ok w [v] l):∃ a n c,v=.slice a n c∧Sl r ok w a n c l:=by
 obtain ⟨_,e,h1,h2,_⟩:=h
 cases e
 obtain ⟨a,n,c,rfl,h3⟩:=h2.sl
 refine ⟨a,n,c,rfl,h3.len,h3.cap,h3.bnd,h3.nil,h3.cells.imp id fun ⟨b,off,e,_,hb,hc⟩=>⟨b,off,e,h1 b (by rw [e];rfl),hb,fun i x hx=>let ⟨cs,g1,g2⟩:=hc i x hx;⟨cs,g1,hf g2⟩⟩⟩
theorem ownRowR.mk {α:Type} {r:Rep α} {B:Nat} {E:TypeId} {w:World} {v:Value} {l:List α} (h:Own r B E (fun _=>False) w v l) (hv:l=[]→v=.slice none 0 0∨∃ g c,v=.slice (some ⟨g,0,none⟩) 0 c):(ownRowR r E).rd (B≤·) w [v] l:=by
 refine ⟨v,rfl,fun b hb=>(h.lt b hb).1,?_,hv⟩
 obtain ⟨xs,h1,h2⟩:=h
 refine ⟨xs,⟨h1.1,h1.2.imp id fun ⟨g,cap,cur,a1,a2,a3⟩=>⟨g,cap,cur,a1,Nat.zero_le _,a3⟩⟩,h2⟩
section
variable {P:Program} {ops:Array Oper} {rest:List Oper} {o:Oper} {a:Act} {Q:Exit→Act→World→Prop} {α:Type} {r:Rep α} {B:Nat} {E:TypeId} {w:World}
theorem wpList_make0 {T bytes:Nat} {z:Value} (ht:SliceT P T E r.sz bytes z) (hg:o.guard=none) (l c:Operand) (hop:o.op=Op.makeSlice T l c)
  {kl kc:IntKind} {n:Nat} (hl:a.eval l=.int kl 0) (hc:a.eval c=.int kc (n:Int)) (b2:bytes * n≤281474976710656) (b3:n≤maxLen) (b4:B≤w.heap.size)
  (hK:∀ w',(∀ F,OwnD r B F E w' (.slice (some ⟨w.heap.size,0,none⟩) 0 n) [])→Below w.heap.size w w'→wpList P ops Q rest (a.put o.dst (.slice (some ⟨w.heap.size,0,none⟩) 0 n)) w'):wpList P ops Q (o :: rest) a w:=by
 obtain ⟨i,hi,hz0,hz1,hz2⟩:=info_parts ht.i
 refine wpList_make_own w hg l c T hop B E i z r.sz ht.u hi hz0 hz1 kl kc (n:Int) n hl hc rfl (by rw [hz2];exact b2) b3 b4 fun w' h1 h2=>hK w' (fun F=>⟨fun _=>0,[],h1,rfl⟩) (grown_below h2 (Nat.le_refl _) (fun k e=>by cases e))
end
section
variable {P:Program} {α:Type} {r:Rep α} {B:Nat} {E:TypeId} {w:World} {g cap:Nat} {l:List α}
theorem run_storeOwn (h:Own r B E (fun _=>False) w (.slice (some ⟨g,0,none⟩) l.length cap) l) {s:Nat} {ys:List α} {news:List Value} (hn:Chunks r (fun _=>False) w news ys) (hs:s+ys.length≤l.length) (hne:l≠[]∨ys≠[]) :
  ∃ w',(storeCells ⟨g,s * r.sz,none⟩ news).run P w=.ok () w'∧Own r B E (fun _=>False) w' (.slice (some ⟨g,0,none⟩) l.length cap) (l.take s++ys++l.drop (s+ys.length))∧w.grownBy w' (some g)∧w'.heap.size=w.heap.size:=by
 obtain ⟨xs,h1,h2⟩:=h
 obtain ⟨hx,⟨hv,_⟩|⟨g',cap',cur,hv,hb,hg,hnc,hcm,hcs,ht⟩⟩:=h1
 ·cases hv
 ·cases hv
  have hnl:=hn.length
  have hxl:=h2.length
  have hfit:s * r.sz+0+news.length≤cur.size:=by
   rw [hcs,hnl,Nat.add_zero,← Nat.add_mul]
   exact Nat.mul_le_mul_right _ (by omega)
  have hrun:=run_storeCells_at P g (s * r.sz) E news 0 cur w hg hfit hn.one
  rw [Nat.add_zero] at hrun
  refine ⟨_,hrun,?_,⟨rfl,rfl,rfl,by simp,fun k _ hk=>setRow_other w g k _ (fun e=>hk (by simp [e]))⟩,by simp⟩
  have hlen':(l.take s++ys++l.drop (s+ys.length)).length=l.length:=by simp;omega
  have hcell:∀ i,(xs.take (s * r.sz)++news++xs.drop (s * r.sz+news.length))[i]?=if i<s * r.sz then xs[i]? else if i<s * r.sz+news.length then news[i - s * r.sz]? else xs[i]?:=by
   intro i
   have hs1:s * r.sz≤xs.length:=by rw [hxl];exact Nat.mul_le_mul_right _ (by omega)
   have e1:(xs.take (s * r.sz)).length=s * r.sz:=by rw [List.length_take];omega
   by_cases hi:i<s * r.sz
   ·rw [if_pos hi,List.append_assoc,List.getElem?_append_left (by rw [e1];exact hi),List.getElem?_take,if_pos hi]
   ·rw [if_neg hi]
    by_cases hi2:i<s * r.sz+news.length
    ·rw [if_pos hi2,List.getElem?_append_left (by rw [List.length_append,e1];exact hi2),List.getElem?_append_right (by rw [e1];omega),e1]
    ·rw [if_neg hi2,List.getElem?_append_right (by rw [List.length_append,e1];omega),List.length_append,e1,List.getElem?_drop]
     congr 1;omega
  refine ⟨xs.take (s * r.sz)++news++xs.drop (s * r.sz+news.length),⟨?_,.inr ⟨g,cap,_,by rw [hlen'],hb,setRow_heap w g cur _ E _ hg,by rw [hlen'];exact hnc,hcm,?_,?_⟩⟩,?_⟩
  ·rw [hlen',List.length_append,List.length_append,List.length_take,List.length_drop,hxl,hnl]
   have:(s+ys.length) * r.sz≤l.length * r.sz:=Nat.mul_le_mul_right _ hs
   rw [Nat.add_mul] at this
   omega
  ·rw [List.size_toArray,List.length_append,List.length_append,List.length_take,List.length_drop,Array.length_toList]
   omega
  ·rw [hlen',← ht]
   have hA:s * r.sz+news.length≤l.length * r.sz:=by rw [hnl,← Nat.add_mul];exact Nat.mul_le_mul_right _ hs
   have hB2:l.length * r.sz≤cur.size:=by rw [hcs];exact Nat.mul_le_mul_right _ hnc
   apply List.ext_getElem?
   intro i
   have e1:(cur.toList.take (s * r.sz)).length=s * r.sz:=by rw [List.length_take,Array.length_toList];omega
   have e2:((cur.toList.take (l.length * r.sz)).take (s * r.sz)).length=s * r.sz:=by simp only [List.length_take,Array.length_toList];omega
   by_cases hi:i<s * r.sz
   ·rw [List.getElem?_take,if_pos (by omega),List.append_assoc,List.getElem?_append_left (by rw [e1];exact hi),List.append_assoc,List.getElem?_append_left (by rw [e2];exact hi),List.getElem?_take,if_pos hi,List.getElem?_take,if_pos hi,List.getElem?_take,if_pos (by omega)]
   ·by_cases hi2:i<s * r.sz+news.length
    ·rw [List.getElem?_take,if_pos (by omega),List.getElem?_append_left (by rw [List.length_append,e1];exact hi2),List.getElem?_append_right (by rw [e1];omega),e1,
      List.getElem?_append_left (by rw [List.length_append,e2];exact hi2),List.getElem?_append_right (by rw [e2];omega),e2]
    ·rw [List.getElem?_take,List.getElem?_append_right (by rw [List.length_append,e1];omega),List.getElem?_append_right (by rw [List.length_append,e2];omega),List.length_append,List.length_append,e1,e2,List.getElem?_drop,List.getElem?_drop,List.getElem?_take]
     have:s * r.sz+news.length+(i - (s * r.sz+news.length))=i:=by omega
     rw [this]
  ·-- the elements
   have:=Chunks.of_at (r:=r) (ok:=fun b=>False∧Option.some b≠(Value.slice (some ⟨g,0,none⟩) l.length cap).ownBlock) (w:=w.setRow g (cur.toList.take (s * r.sz)++news++cur.toList.drop (s * r.sz+news.length)).toArray) (xs:=xs.take (s * r.sz)++news++xs.drop (s * r.sz+news.length)) (l:=l.take s++ys++l.drop (s+ys.length)) 0 (by
     rw [hlen',List.length_append,List.length_append,List.length_take,List.length_drop,hxl,hnl]
     have:(s+ys.length) * r.sz≤l.length * r.sz:=Nat.mul_le_mul_right _ hs
     rw [Nat.add_mul] at this
     omega) (fun i x hx=>by
     have key:∃ c w0,(∀ j,j<r.sz→(xs.take (s * r.sz)++news++xs.drop (s * r.sz+news.length))[i * r.sz+j]?=c[j]?)∧r.rd (fun _=>False) w0 c x:=by
      have es:(l.take s).length=s:=by rw [List.length_take];omega
      by_cases hi:i<s
      ·rw [List.append_assoc,List.getElem?_append_left (by rw [es];exact hi),List.getElem?_take,if_pos hi] at hx
       obtain ⟨c,h3,h4⟩:=h2.at hx
       refine ⟨c,w,fun j hj=>?_,r.mono (fun b hb=>hb.1) h4⟩
       rw [hcell,if_pos,h3 j hj]
       calc i * r.sz+j<i * r.sz+r.sz:=by omega
        _=(i+1) * r.sz:=by rw [Nat.add_mul];omega
        _≤s * r.sz:=Nat.mul_le_mul_right _ (by omega)
      ·by_cases hi2:i<s+ys.length
       ·rw [List.getElem?_append_left (by rw [List.length_append,es];exact hi2),List.getElem?_append_right (by rw [es];omega),es] at hx
        obtain ⟨c,h3,h4⟩:=hn.at hx
        refine ⟨c,w,fun j hj=>?_,h4⟩
        have e3:s * r.sz≤i * r.sz:=Nat.mul_le_mul_right _ (by omega)
        have e4:(i+1) * r.sz≤(s+ys.length) * r.sz:=Nat.mul_le_mul_right _ (by omega)
        rw [Nat.add_mul,Nat.add_mul] at e4
        rw [hcell,if_neg (by omega),if_pos (by rw [hnl];omega),← h3 j hj]
        congr 1
        rw [Nat.sub_mul];omega
       ·rw [List.getElem?_append_right (by rw [List.length_append,es];omega),List.length_append,es,List.getElem?_drop,show s+ys.length+(i - (s+ys.length))=i by omega] at hx
        obtain ⟨c,h3,h4⟩:=h2.at hx
        refine ⟨c,w,fun j hj=>?_,r.mono (fun b hb=>hb.1) h4⟩
        have e3:(s+ys.length) * r.sz≤i * r.sz:=Nat.mul_le_mul_right _ (by omega)
        rw [Nat.add_mul] at e3
        rw [hcell,if_neg (by omega),if_neg (by rw [hnl];omega),h3 j hj]
     obtain ⟨c,w0,h3,h4⟩:=key
     exact ⟨c,fun j hj=>by rw [Nat.zero_add];exact h3 j hj,r.mono (fun b hb=>hb.elim) (r.frame (fun b hb=>hb.elim) h4)⟩)
   simpa using this
end
def subAddr (a:Option Addr) (c lo sz:Nat):Option Addr:=if c=lo then a else a.map (·.add (lo * sz))
theorem run_subFrom {P:Program} {T E sz:Nat} (hT:P.underlying T=some (.slice E)) (hi:(P.info? E).map (·.size)=some sz) (a:Option Addr) (n c s:Nat) (h:s≤n) (w:World) :
  (Instr.sliceAt T (.slice a n c) (some (.int .i64 (s:Int))) none none).run P w=.ok (.slice (subAddr a c s sz) (n - s) (c - s)) w:=by
 have he:P.elem T=E:=by simp [Program.elem,hT]
 have hT':P.underlying T=some (.slice (P.elem T)):=by rw [he];exact hT
 have hz:(sizeOf (P.elem T)).run P w=.ok sz w:=by
  obtain ⟨i,hi,hs⟩:=Option.map_eq_some_iff.1 hi
  rw [he];simp [sizeOf,typeInfo,hi,hs]
 rw [run_sliceAt_slice w T _ _ _ _ hT',run_slice_l w T a n c hT' .i64 s (by omega) (by omega),hz,Result.andThen_ok]
 simp only [sliced,subAddr,Int.toNat_natCast]
theorem Sl.sub {α:Type} {r:Rep α} {ok:Nat→Prop} {w:World} {a:Option Addr} {n c:Nat} {l:List α} (h:Sl r ok w a n c l) {s k:Nat} (hk:s+k≤n):Sl r ok w (subAddr a c s r.sz) k (c - s) ((l.drop s).take k):=by
 have h1:=h.len
 have h2:=h.cap
 refine ⟨by simp;omega,by omega,Nat.le_trans (Nat.sub_le _ _) h.bnd,fun e=>?_,?_⟩
 ·unfold subAddr at e
  split at e
  ·omega
  ·have:a=none:=by simpa using e
   have:=h.nil this
   omega
 ·rcases h.cells with h0|⟨b,off,rfl,hb,hlt,hc⟩
  ·left;omega
  ·by_cases hk0:k=0
   ·exact .inl hk0
   ·refine .inr ⟨b,off+s * r.sz,?_,hb,hlt,fun i x hx=>?_⟩
    ·unfold subAddr
     rw [if_neg (by omega)]
     simp [Addr.add_lit]
    ·have hik:i<k:=by have:=(List.getElem?_eq_some_iff.1 hx).1;simp at this;omega
     rw [List.getElem?_take,if_pos hik,List.getElem?_drop] at hx
     obtain ⟨cs,g1,g2⟩:=hc (s+i) x hx
     refine ⟨cs,fun j hj=>?_,g2⟩
     rw [← g1 j hj,Nat.add_mul,Nat.add_assoc off]
section
variable {P:Program} {ops:Array Oper} {rest:List Oper} {o:Oper} {a:Act} {Q:Exit→Act→World→Prop} {α:Type} {r:Rep α} {B:Nat} {E:TypeId} {w:World} {g cap:Nat} {l:List α}
theorem wpList_copyOwn {T bytes:Nat} {z:Value} (ht:SliceT P T E r.sz bytes z) (hfl:Flat r) (hgd:o.guard=none) (d x:Operand)
  (ho:o.op=.call { callee:=.builtin .copy,args:=#[d,x],argTypes:=#[T,T] }) {s dl dc:Nat} (hd:a.eval d=.slice (some ⟨g,s * r.sz,none⟩) dl dc) {ao:Option Addr} {m c:Nat} (hx:a.eval x=.slice ao m c)
  (h:Own r B E (fun _=>False) w (.slice (some ⟨g,0,none⟩) l.length cap) l) {ok:Nat→Prop} {ys:List α} (hs:Sl r ok w ao m c ys) (hle:s+m≤l.length) (hm:0<m) (hdl:m≤dl)
  (hk:∀ w',Own r B E (fun _=>False) w' (.slice (some ⟨g,0,none⟩) l.length cap) (l.take s++ys++l.drop (s+ys.length))→w.grownBy w' (some g)→w'.heap.size=w.heap.size→wpList P ops Q rest (a.put o.dst (.int .i64 m)) w'):wpList P ops Q (o :: rest) a w:=by
 refine wpList_plain hgd fun K hK=>?_
 obtain ⟨i,hi,_,hz1,_⟩:=info_parts ht.i
 obtain ⟨hlen,hnil,news,hnews,hch⟩:=Src.of_sl hs
 obtain ⟨ad,rfl⟩:∃ ad,ao=some ad:=by
  cases ao with
  |some ad=>exact ⟨ad,rfl⟩
  |none=>have:=(hnil rfl).1;omega
 have hnl:=hch.length
 obtain ⟨w',hst,h1,h2,h3⟩:=run_storeOwn (P:=P) h (s:=s) (ys:=ys) (hch.flat hfl) (by omega) (.inr (by intro e;rw [e] at hlen;simp at hlen;omega))
 have hld:=run_loadCells_list (P:=P) (w:=w) ad news (hnews ad rfl)
 have hmin:Nat.min m dl=m:=Nat.min_eq_left hdl
 rw [hnl,hlen] at hld
 unfold Oper.wp execOp
 have hrun:(Builtin.copy_ #[T,T] o.type #[.slice (some ⟨g,s * r.sz,none⟩) dl dc,.slice (some ad) m c]).run P w=.ok (goInt m) w':=by
  simp [Builtin.copy_,run_underlying ht.u,Builtin.lenOf,Builtin.firstCells,sizeOf,typeInfo,hi,hz1,hmin,hld,hst]
 simp only [ho,resolve,invoke,builtin,Sem.run_bind,Sem.run_pure,Result.andThen_ok,List.map_toArray,List.map_cons,List.map_nil,hd,hx,hrun]
 exact hK _ _ (hk w' h1 h2 h3)
end
section
variable {ok:Nat→Prop} {w:World} {n c:Nat}
theorem Sl.wr {b off:Nat} {l:List (Int × Int × List Sec)} (h:Sl (pairR intR (pairR intR (listR secR))) ok w (some ⟨b,off,none⟩) n c l) {k:Nat} {v s:Int} {d:List Sec} (hx:l[k]?=some (v,s,d)) :
  ∃ a' n' c',w.cell? ⟨b,off+k * 3,none⟩=some (.int .i64 v)∧w.cell? ⟨b,off+k * 3+1,none⟩=some (.int .i64 s)∧w.cell? ⟨b,off+k * 3+2,none⟩=some (.slice a' n' c')∧i64ok v∧i64ok s∧Sl secR ok w a' n' c' d:=by
 obtain ⟨cs,h1,c1,c2,rfl,⟨rfl,hv⟩,c3,c4,rfl,⟨rfl,hs⟩,a',n',c',rfl,hd⟩:=h.at hx
 refine ⟨a',n',c',?_,?_,?_,hv,hs,hd⟩
 ·exact h1 0 (by show 0<3;omega)
 ·exact h1 1 (by show 1<3;omega)
 ·exact h1 2 (by show 2<3;omega)
theorem Sl.ext {b off:Nat} {l:List (Int × Int)} (h:Sl (pairR intR intR) ok w (some ⟨b,off,none⟩) n c l) {k:Nat} {s m:Int} (hx:l[k]?=some (s,m)) :
  w.cell? ⟨b,off+k * 2,none⟩=some (.int .i64 s)∧w.cell? ⟨b,off+k * 2+1,none⟩=some (.int .i64 m)∧i64ok s∧i64ok m:=by
 obtain ⟨cs,h1,c1,c2,rfl,⟨rfl,hv⟩,⟨rfl,hs⟩⟩:=h.at hx
 exact ⟨h1 0 (by show 0<2;omega),h1 1 (by show 1<2;omega),hv,hs⟩
end
end Go.Proofs.YtioijcfcehhmdaaGreatDoor

namespace Go.Proofs.YtioijcfcehhmdaaGreatDoor
open Go.RowKit
abbrev secsR:Rep (List Sec):=listR secR
abbrev Wr:=Int × Int × List Sec
abbrev wrR:Rep Wr:=pairR intR (pairR intR secsR)
theorem Tryz.mixed:Tryz.prog.follows .mixedOrders=true:=by kernel_rfl
theorem Tryz.slInt:SliceT Tryz.prog 33 3 1 8 (.int .i64 0):=⟨Tryz.underlying33,by kernel_rfl,rfl,by decide⟩
theorem Tryz.slSec:SliceT Tryz.prog 66 68 8 8 (.agg #[.int .u8 0,.int .u8 0,.int .u8 0,.int .u8 0,.int .u8 0,.int .u8 0,.int .u8 0,.int .u8 0]):=⟨Tryz.underlying66,by kernel_rfl,rfl,by decide⟩
theorem Tryz.slSecs:SliceT Tryz.prog 26 66 1 24 (.slice none 0 0):=⟨Tryz.underlying26,by kernel_rfl,rfl,by decide⟩
theorem ret_int {k:IntKind} {a b:Int} (h:a=b):Ending.returned (.int k a)=.returned (.int k b):=by rw [h]
theorem ret_bool {a b:Bool} (h:a=b):Ending.returned (.bool a)=.returned (.bool b):=by rw [h]
theorem i64ok_nat {n:Nat} (h:n≤maxLen):i64ok (n:Int):=by unfold i64ok maxLen at *;omega
theorem Sl.i64 {α:Type} {r:Rep α} {ok:Nat→Prop} {w:World} {a:Option Addr} {n c:Nat} {l:List α} (h:Sl r ok w a n c l):i64ok (n:Int):=i64ok_nat (Nat.le_trans h.cap h.bnd)
theorem Sl.small {α:Type} {r:Rep α} {ok:Nat→Prop} {w:World} {a:Option Addr} {n c:Nat} {l:List α} (h:Sl r ok w a n c l):n≤9223372036854775807:=by
 have:=Nat.le_trans h.cap h.bnd;unfold maxLen at this;omega
theorem take_any_succ {α:Type} {p:α→Bool} {l:List α} {k:Nat} {x:α} (h:l[k]?=some x):(l.take (k+1)).any p=((l.take k).any p || p x):=by
 rw [List.take_add_one,h];simp
theorem any_true {α:Type} {p:α→Bool} {l:List α} {k:Nat} {x:α} (h:l[k]?=some x) (hp:p x=true):l.any p=true:=by
 rw [List.any_eq_true];exact ⟨x,List.mem_of_getElem? h,hp⟩
theorem take_succ_get {α:Type} {l:List α} {k:Nat} {x:α} (h:l[k]?=some x):l.take (k+1)=l.take k++[x]:=by
 rw [List.take_add_one,h];rfl
theorem take_all {α:Type} {l:List α} {n:Nat} (h:l.length=n):l.take n=l:=List.take_of_length_le (by omega)
end Go.Proofs.YtioijcfcehhmdaaGreatDoor

namespace Go.Proofs.YtioijcfcehhmdaaGreatDoor
open Go.RowKit
def badSize (n:Int):Bool:=decide (n<1) || decide (4096<n)
def sizesErr (l:List Int):Int:=if l.length<1∨8<l.length then 6 else if l.any badSize then 2 else 0
def lens (im:List (List Sec)):List Int:=im.map fun v=>(v.length:Int)
def imgErr (im:List (List Sec)):Int:=sizesErr (lens im)
end Go.Proofs.YtioijcfcehhmdaaGreatDoor

namespace Go.Proofs.YtioijcfcehhmdaaGreatDoor
open Go.RowKit
def fitErr (sizes:List Int) (vol start:Int) (len:Nat):Int :=
 if vol<0∨(sizes.length:Int)≤vol then 7 else if len=0 then 1
 else if start<0∨sizes.getD vol.toNat 0≤start∨sizes.getD vol.toNat 0 - start<len then 2 else 0
theorem getD_of {α:Type} {l:List α} {k:Nat} {x d:α} (h:l[k]?=some x):l.getD k d=x:=by simp [List.getD,h]
end Go.Proofs.YtioijcfcehhmdaaGreatDoor

namespace Go.Proofs.YtioijcfcehhmdaaGreatDoor
open Go.RowKit
end Go.Proofs.YtioijcfcehhmdaaGreatDoor

namespace Go.Proofs.YtioijcfcehhmdaaGreatDoor
open Go.RowKit
end Go.Proofs.YtioijcfcehhmdaaGreatDoor

namespace Go.Proofs.YtioijcfcehhmdaaGreatDoor
open Go.RowKit
theorem bad_any {x:Int} {w:World} (_hx:i64ok x):Calls Tryz.prog 148 #[.int .i64 x] w fun e w'=>e=.returned (.bool (badSize x))∧Below w.heap.size w w':=by
 by_cases h1:x<1
 ·go_enter Tryz.func148,Tryz.ntmps148
  go_wp2
  go_ret
  exact ⟨ret_bool (by simp [badSize,h1]),Below.refl _ _⟩
 ·by_cases h2:4096<x
  ·go_enter Tryz.func148,Tryz.ntmps148
   go_wp2
   go_ret
   exact ⟨ret_bool (by simp [badSize,h2]),Below.refl _ _⟩
  ·go_enter Tryz.func148,Tryz.ntmps148
   go_wp2
   go_ret
   exact ⟨ret_bool (by simp [badSize];omega),Below.refl _ _⟩
set_option maxHeartbeats 1000000 in
theorem contains_bad_idx {a:Option Addr} {n c:Nat} {l:List Int} {ok:Nat→Prop} {w:World} (h:Sl intR ok w a n c l) :
  Calls Tryz.prog 151 #[.slice a n c,.func (.func 148) #[] #[]] w fun e w'=>∃ z:Int,e=.returned (.int .i64 z)∧(0≤z ↔ l.any badSize=true)∧i64ok z∧Below w.heap.size w w':=by
 have hs:=h.small
 go_enter Tryz.func151,Tryz.ntmps151
 go_wp2
 go_loopw [5,8] (fun _ i wr=>∃ k:Nat,k≤n∧i=.int .i64 k∧Hid ((l.take k).any badSize=false)∧Below w.heap.size w wr) (fun _ i _=>n - (intOf i).toNat)
 case atStart=>exact ⟨0,Nat.zero_le _,rfl,rfl,Below.refl _ _⟩
 case round =>
  obtain ⟨k,hk,rfl,HT,hB⟩:=hrel
  by_cases hlt:k<n
  ·obtain ⟨b,off,rfl,_,_⟩:=h.addr hlt
   obtain ⟨x,hx⟩:=h.get hlt
   obtain ⟨hcell,hi⟩:=(h.below hB).int hx
   have HX:=Lib.hid hx
   clear hx
   cases hp:badSize x with
   |true =>
    have HP:=Lib.hid hp
    have hcall:=bad_any (w:=wr) hi
    rw [hp] at hcall
    clear hp
    go_wp2_with (fail)
    refine hcall.mono ?_
    rintro e w1 ⟨rfl,hB1⟩
    go_wp2
    go_ret
    exact ⟨k,rfl,by rw [any_true HX.out HP.out];simp,by unfold i64ok;omega,hB.trans (hB1.mono hB.size)⟩
   |false =>
    have HP:=Lib.hid hp
    have hcall:=bad_any (w:=wr) hi
    rw [hp] at hcall
    clear hp
    go_wp2_with (fail)
    refine hcall.mono ?_
    rintro e w1 ⟨rfl,hB1⟩
    go_wp2
    go_roundw
    case rel=>exact ⟨k+1,by omega,by go_num,by show _=false;rw [take_any_succ HX.out,HT.out,HP.out];rfl,hB.trans (hB1.mono hB.size)⟩
    case measure=>simp [intOf];omega
  ·go_wp2
   go_ret
   obtain rfl:k=n:=by omega
   have e:=HT.out
   rw [take_all h.len] at e
   exact ⟨-1,rfl,by rw [e];simp,by unfold i64ok;omega,hB⟩
theorem contains_bad {a:Option Addr} {n c:Nat} {l:List Int} {ok:Nat→Prop} {w:World} (h:Sl intR ok w a n c l) :
  Calls Tryz.prog 129 #[.slice a n c,.func (.func 148) #[] #[]] w fun e w'=>e=.returned (.bool (l.any badSize))∧Below w.heap.size w w':=by
 go_enter Tryz.func129,Tryz.ntmps129
 go_wp2_with fail
 refine (contains_bad_idx h).mono ?_
 rintro e w1 ⟨z,rfl,hz,hi,hB⟩
 unfold i64ok at hi
 cases hp:l.any badSize with
 |true =>
  have hz0:0≤z:=hz.2 hp
  have HP:=Lib.hid hp
  clear hz hp
  go_wp2
  go_ret
  exact ⟨ret_bool HP.out.symm,hB⟩
 |false =>
  have hz0:z<0:=by rw [hp] at hz;simp at hz;omega
  have HP:=Lib.hid hp
  clear hz hp
  go_wp2
  go_ret
  exact ⟨ret_bool (by rw [HP.out];simp;omega),hB⟩
theorem checkSizes_any {a:Option Addr} {n c:Nat} {l:List Int} {ok:Nat→Prop} {w:World} (h:Sl intR ok w a n c l) :
  Calls Tryz.prog 124 #[.slice a n c] w fun e w'=>e=.returned (.int .i64 (sizesErr l))∧Below w.heap.size w w':=by
 have hs:=h.small
 by_cases hn1:n<1
 ·obtain rfl:n=0:=by omega
  go_enter Tryz.func124,Tryz.ntmps124
  go_wp2
  go_ret
  exact ⟨by simp [sizesErr,h.len],Below.refl _ _⟩
 by_cases hn8:8<n
 ·go_enter Tryz.func124,Tryz.ntmps124
  go_wp2
  go_ret
  exact ⟨ret_int (by rw [sizesErr,if_pos (by rw [h.len];exact .inr hn8)]),Below.refl _ _⟩
 go_enter Tryz.func124,Tryz.ntmps124
 go_wp2_with fail
 refine (contains_bad h).mono ?_
 rintro e w1 ⟨rfl,hB⟩
 cases hp:l.any badSize with
 |true =>
  have HP:=Lib.hid hp;clear hp
  go_wp2
  go_ret
  exact ⟨ret_int (by rw [sizesErr,if_neg (by rw [h.len];omega),if_pos HP.out]),hB⟩
 |false =>
  have HP:=Lib.hid hp;clear hp
  go_wp2
  go_ret
  exact ⟨ret_int (by rw [sizesErr,if_neg (by rw [h.len];omega),HP.out];rfl),hB⟩
end Go.Proofs.YtioijcfcehhmdaaGreatDoor

namespace Go.Proofs.YtioijcfcehhmdaaGreatDoor
open Go.RowKit
theorem len1_any {a:Option Addr} {n c:Nat} {l:List Sec} {ok:Nat→Prop} {w:World} (h:Sl secR ok w a n c l) :
  Calls Tryz.prog 139 #[.slice a n c] w fun e w'=>∃ z:Int,e=.returned (.int .i64 z)∧intR.rd (w.heap.size≤·) w' [.int .i64 z] (l.length:Int)∧Below w.heap.size w w':=by
 have hs:=h.small
 go_enter Tryz.func139,Tryz.ntmps139
 go_wp2
 go_ret
 exact ⟨_,rfl,⟨by rw [h.len],by rw [h.len];exact h.i64⟩,Below.refl _ _⟩
set_option maxHeartbeats 1000000 in
theorem mapped_len {a:Option Addr} {n c:Nat} {l:List (List Sec)} {ok:Nat→Prop} {w:World} (h:Sl secsR ok w a n c l) (hn:n≤1000000) :
  Calls Tryz.prog 138 #[.slice a n c,.func (.func 139) #[] #[]] w fun e w'=>∃ v,e=.returned v∧OwnD intR w.heap.size w'.heap.size 3 w' v (l.map (fun v:List Sec=>(v.length:Int)))∧Below w.heap.size w w':=by
 go_enter Tryz.func138,Tryz.ntmps138
 go_wp2_with (at_make;refine wpList_make0 (r:=intR) (B:=w.heap.size) Tryz.slInt rfl _ _ rfl rfl rfl ?b2 ?b3 ?b4 ?_)
 case b2=>omega
 case b3=>unfold maxLen;omega
 case b4=>exact Nat.le_refl _
 intro w0 hown0 hB0
 have hs:=h.small
 go_wp2
 go_loopw [5,13] (fun v i wr=>∃ k:Nat,k≤n∧i=.int .i64 k∧OwnD intR w.heap.size wr.heap.size 3 wr v ((l.map (fun v:List Sec=>(v.length:Int))).take k)∧Below w.heap.size w wr) (fun _ i _=>n - (intOf i).toNat)
 case atStart=>exact ⟨0,Nat.zero_le _,rfl,hown0 _,hB0⟩
 case round =>
  obtain ⟨k,hk,rfl,hown,hB⟩:=hrel
  by_cases hlt:k<n
  ·obtain ⟨b,off,rfl,_,_⟩:=h.addr hlt
   obtain ⟨x,hx⟩:=h.get hlt
   obtain ⟨a',n',c',hcell,hx'⟩:=(h.below hB).slice hx
   have hlen:((l.map (fun v:List Sec=>(v.length:Int))).take k).length=k:=by have:=h.len;simp;omega
   have HL:=Lib.hid hlen;clear hlen
   have HX:=Lib.hid hx;clear hx
   go_wp2_with (fail)
   refine (len1_any hx').mono ?_
   rintro e w1 ⟨z,rfl,hrd,hB1⟩
   have hownl:=hown.lt
   have hz1:=hB1.size
   have hz:=hB.size
   go_wp2_with (at_builtin;refine wpList_appD Tryz.slInt rfl _ _ rfl rfl ((hown.below hB1).below ((Below.refl _ _).alloc (Nat.le_refl _) _)) rfl (news_new w1 3 #[.int .i64 z]) (rd_alloc hrd) (fun k hk=>(hownl k hk).2) ?c1 ?c2 ?c3 ?c4 ?_)
   case c1=>rw [HL.out];unfold maxLen;omega
   case c2=>rw [HL.out];omega
   case c3=>omega
   case c4=>simp;omega
   intro v' w2 hown1 hgrow _
   go_wp2
   go_roundw
   case rel=>exact ⟨k+1,by omega,by go_num,by
    have e:(l.map (fun v:List Sec=>(v.length:Int))).take (k+1)=(l.map (fun v:List Sec=>(v.length:Int))).take k++[(fun v:List Sec=>(v.length:Int)) x]:=take_succ_get (by rw [List.getElem?_map,HX.out];rfl)
    rw [e];exact hown1,((hB.trans (hB1.mono hB.size)).alloc (by omega) _).grown hgrow (by simp;omega) (fun k hk=>(hownl k hk).1)⟩
   case measure=>simp [intOf];omega
  ·go_wp2
   go_ret
   obtain rfl:k=n:=by omega
   rw [take_all (by rw [List.length_map];exact h.len)] at hown
   exact ⟨_,rfl,hown,hB⟩
theorem sizesI_any {a:Option Addr} {n c:Nat} {im:List (List Sec)} {ok:Nat→Prop} {w:World} (h:Sl secsR ok w a n c im) (hn:n≤1000000) :
  Calls Tryz.prog 116 #[.slice a n c] w fun e w'=>∃ a' n' c',e=.returned (.slice a' n' c')∧Sl intR (w.heap.size≤·) w' a' n' c' (lens im)∧Below w.heap.size w w':=by
 go_enter Tryz.func116,Tryz.ntmps116
 go_wp2_with fail
 refine (mapped_len h hn).mono ?_
 rintro e w1 ⟨v,rfl,hown,hB⟩
 obtain ⟨a',n',c',rfl,h1⟩:=hown.sl
 go_wp2
 go_ret
 exact ⟨_,_,_,rfl,h1,hB⟩
theorem checkI_any {a:Option Addr} {n c:Nat} {im:List (List Sec)} {ok:Nat→Prop} {w:World} (h:Sl secsR ok w a n c im) (hn:n≤1000000) :
  Calls Tryz.prog 85 #[.slice a n c] w fun e w'=>e=.returned (.int .i64 (imgErr im))∧Below w.heap.size w w':=by
 go_enter Tryz.func85,Tryz.ntmps85
 go_wp2_with fail
 refine (sizesI_any h hn).mono ?_
 rintro e w1 ⟨a',n',c',rfl,h1,hB⟩
 go_wp2_with fail
 refine (checkSizes_any h1).mono ?_
 rintro e w2 ⟨rfl,hB2⟩
 go_wp2
 go_ret
 exact ⟨rfl,hB.trans (hB2.mono hB.size)⟩
end Go.Proofs.YtioijcfcehhmdaaGreatDoor

namespace Go.Proofs.YtioijcfcehhmdaaGreatDoor
open Go.RowKit
def orNil {α:Type} (e:Int) (l:List α):List α:=if e=0 then l else []
theorem orNil_ok {α:Type} {e:Int} {l:List α} (h:e=0):orNil e l=l:=if_pos h
theorem orNil_bad {α:Type} {e:Int} {l:List α} (h:¬ e=0):orNil e l=[]:=if_neg h
set_option maxHeartbeats 1000000 in
theorem clone_sec {a:Option Addr} {n c:Nat} {l:List Sec} {ok:Nat→Prop} {w:World} (h:Sl secR ok w a n c l) (hn:n≤1000000) :
  Calls Tryz.prog 95 #[.slice a n c] w fun e w'=>∃ a' n' c',e=.returned (.slice a' n' c')∧(ownRowR secR 68).rd (w.heap.size≤·) w' [.slice a' n' c'] l∧Below w.heap.size w w':=by
 have heq:=fun (a:Option Addr) (n c:Nat) (w:World)=>Lib.run_eql_slice_nil (P:=Tryz.prog) w 66 68 a n c 0 0 Tryz.underlying66
 cases a with
 |none =>
  have h0:l=[]:=List.eq_nil_of_length_eq_zero (by rw [h.len];have:=h.nil rfl;have:=h.cap;omega)
  have H0:=Lib.hid h0;clear h0
  go_enter Tryz.func95,Tryz.ntmps95
  go_wp2
  go_ret
  refine ⟨_,_,_,rfl,?_,Below.refl _ _⟩
  rw [H0.out]
  exact ownRowR.mk (Own.nil _ _ _ _ _) (fun _=>.inl rfl)
 |some ad =>
  have hs:=h.small
  go_enter Tryz.func95,Tryz.ntmps95
  go_wp2_with (at_builtin;refine wpList_app Tryz.slSec rfl _ _ rfl rfl (Own.lit0 secR (ok:=fun _=>False) (Nat.le_refl _)) rfl ((Src.of_sl (h.below ((Below.refl _ _).alloc (Nat.le_refl _) _))).flat Flat.sec) ?c1 ?c2 ?c3 ?_)
  case c1=>simp;unfold maxLen;omega
  case c2=>simp;omega
  case c3=>simp
  intro v' w1 hown hgrow hat
  obtain ⟨a',n',c',rfl,_⟩:=hown.sl
  go_wp2
  go_ret
  refine ⟨_,_,_,rfl,ownRowR.mk (by simpa using hown) (fun e=>?_),((Below.refl _ _).alloc (Nat.le_refl _) _).grown hgrow (by simp) (fun k hk=>by cases hk;exact Nat.le_refl _)⟩
  subst e
  obtain ⟨xs,h1,_⟩:=hown
  rcases h1.2 with ⟨hv,_⟩|⟨g,cap,cur,hv,_⟩
  ·exact .inl hv
  ·exact .inr ⟨g,cap,by simpa using hv⟩
end Go.Proofs.YtioijcfcehhmdaaGreatDoor

namespace Go.Proofs.YtioijcfcehhmdaaGreatDoor
open Go.RowKit
def sameSecs (v:List Sec):List Sec:=v
theorem map_same (l:List (List Sec)):l.map sameSecs=l:=List.map_id l
abbrev ownSecs:Rep (List Sec):=ownRowR secR 68
set_option maxHeartbeats 1000000 in
theorem mapped_clone {a:Option Addr} {n c:Nat} {l:List (List Sec)} {ok:Nat→Prop} {w:World} (h:Sl secsR ok w a n c l) (hn:n≤1000000)(hv:∀ v∈l,v.length≤1000000) :
  Calls Tryz.prog 125 #[.slice a n c,.func (.func 95) #[] #[]] w fun e w'=>∃ v,e=.returned v∧OwnD ownSecs w.heap.size w'.heap.size 66 w' v (l.map sameSecs)∧Below w.heap.size w w':=by
 go_enter Tryz.func125,Tryz.ntmps125
 go_wp2_with (at_make;refine wpList_make0 (r:=ownSecs) (B:=w.heap.size) Tryz.slSecs rfl _ _ rfl rfl rfl ?b2 ?b3 ?b4 ?_)
 case b2=>omega
 case b3=>unfold maxLen;omega
 case b4=>exact Nat.le_refl _
 intro w0 hown0 hB0
 have hs:=h.small
 go_wp2
 go_loopw [5,13] (fun v i wr=>∃ k:Nat,k≤n∧i=.int .i64 k∧OwnD ownSecs w.heap.size wr.heap.size 66 wr v ((l.map sameSecs).take k)∧Below w.heap.size w wr) (fun _ i _=>n - (intOf i).toNat)
 case atStart=>exact ⟨0,Nat.zero_le _,rfl,hown0 _,hB0⟩
 case round =>
  obtain ⟨k,hk,rfl,hown,hB⟩:=hrel
  by_cases hlt:k<n
  ·obtain ⟨b,off,rfl,_,_⟩:=h.addr hlt
   obtain ⟨x,hx⟩:=h.get hlt
   obtain ⟨a',n',c',hcell,hx'⟩:=(h.below hB).slice hx;have hv':=hv x (List.mem_of_getElem? hx)
   have hlen:((l.map sameSecs).take k).length=k:=by have:=h.len;simp;omega
   have HL:=Lib.hid hlen;clear hlen
   have HX:=Lib.hid hx;clear hx
   go_wp2_with (fail)
   refine (clone_sec hx' (by rw [← hx'.len];exact hv')).mono ?_
   rintro e w1 ⟨a2,n2,c2,rfl,hrd,hB1⟩
   have hownl:=hown.lt
   have hz1:=hB1.size
   have hz:=hB.size
   go_wp2_with (at_builtin;refine wpList_appD Tryz.slSecs rfl _ _ rfl rfl ((hown.below hB1).below ((Below.refl _ _).alloc (Nat.le_refl _) _)) rfl (news_new w1 66 #[.slice a2 n2 c2]) (rd_alloc hrd) (fun k hk=>(hownl k hk).2) ?c1 ?c2 ?c3 ?c4 ?_)
   case c1=>rw [HL.out];unfold maxLen;omega
   case c2=>rw [HL.out];omega
   case c3=>omega
   case c4=>simp;omega
   intro v' w2 hown1 hgrow _
   go_wp2
   go_roundw
   case rel=>exact ⟨k+1,by omega,by go_num,by
    have e:(l.map sameSecs).take (k+1)=(l.map sameSecs).take k++[sameSecs x]:=take_succ_get (by rw [List.getElem?_map,HX.out];rfl)
    rw [e];exact hown1,((hB.trans (hB1.mono hB.size)).alloc (by omega) _).grown hgrow (by simp;omega) (fun k hk=>(hownl k hk).1)⟩
   case measure=>simp [intOf];omega
  ·go_wp2
   go_ret
   obtain rfl:k=n:=by omega
   rw [take_all (by rw [List.length_map];exact h.len)] at hown
   exact ⟨_,rfl,hown,hB⟩
theorem copied_any {a:Option Addr} {n c:Nat} {im:List (List Sec)} {ok:Nat→Prop} {w:World} (h:Sl secsR ok w a n c im) (hn:n≤1000000) (hv:∀ v∈im,v.length≤1000000) :
  Calls Tryz.prog 88 #[.slice a n c] w fun e w'=>∃ v,e=.returned v∧OwnD ownSecs w.heap.size w'.heap.size 66 w' v im∧Below w.heap.size w w':=by
 go_enter Tryz.func88,Tryz.ntmps88
 go_wp2_with fail
 refine (mapped_clone h hn hv).mono ?_
 rintro e w1 ⟨v,rfl,hown,hB⟩
 go_wp2
 go_ret
 exact ⟨_,rfl,by rw [map_same] at hown;exact hown,hB⟩
theorem Sl.imp {α:Type} {r s:Rep α} {ok:Nat→Prop} {w:World} {a:Option Addr} {n c:Nat} {l:List α} (hz:s.sz=r.sz) (hi:∀ cs x,r.rd ok w cs x→s.rd ok w cs x) (h:Sl r ok w a n c l):Sl s ok w a n c l :=
 ⟨h.len,h.cap,h.bnd,h.nil,h.cells.imp id fun ⟨b,off,e,hb,hl,hc⟩=>⟨b,off,e,hb,hl,fun i x hx=>let ⟨cs,g1,g2⟩:=hc i x hx;⟨cs,by rw [hz];exact g1,hi cs x g2⟩⟩⟩
theorem ownSecs_secs {ok:Nat→Prop} {w:World} {cs:List Value} {x:List Sec} (h:ownSecs.rd ok w cs x):secsR.rd ok w cs x:=by
 obtain ⟨v,rfl,h1⟩:=h
 obtain ⟨a,n,c,rfl,h2⟩:=ownRowR.sl Flat.sec (v:=v) ⟨v,rfl,h1⟩
 exact ⟨a,n,c,rfl,h2⟩
theorem OwnD.img {B F:Nat} {E:TypeId} {w:World} {v:Value} {im:List (List Sec)} (h:OwnD ownSecs B F E w v im):∃ a n c,v=.slice a n c∧Sl secsR (B≤·) w a n c im :=
 let ⟨a,n,c,e,h⟩:=h.sl;⟨a,n,c,e,Sl.imp (r:=ownSecs) (s:=secsR) rfl (fun _ _ g=>ownSecs_secs g) h⟩
set_option maxHeartbeats 2000000 in
theorem fits1_any {a:Option Addr} {n c:Nat} {im:List (List Sec)} {ok:Nat→Prop} {w:World} (h:Sl secsR ok w a n c im) {vol start:Int} (hv:i64ok vol) (hst:i64ok start)
  {da:Option Addr} {dn dc:Nat} (hd:dn≤9223372036854775807) :
  Calls Tryz.prog 89 #[.slice a n c,.agg #[.int .i64 vol,.int .i64 start,.slice da dn dc]] w fun e w'=>e=.returned (.int .i64 (fitErr (lens im) vol start dn))∧Below w.heap.size w w':=by
 have hs:=h.small
 unfold i64ok at hv hst
 have hlen:(lens im).length=n:=by simp [lens,h.len]
 have HL:=Lib.hid hlen;clear hlen
 have hB0:Below w.heap.size w (w.alloc (.cells #[.int .i64 vol,.int .i64 start,.slice da dn dc] 81)):=(Below.refl _ _).alloc (Nat.le_refl _) _
 by_cases h1:vol<0
 ·go_enter Tryz.func89,Tryz.ntmps89
  go_wp2
  go_ret
  exact ⟨ret_int (by rw [fitErr,if_pos (.inl h1)]),hB0⟩
 obtain ⟨k,rfl⟩:=Int.eq_ofNat_of_zero_le (Int.not_lt.1 h1)
 by_cases h2:n≤k
 ·go_enter Tryz.func89,Tryz.ntmps89
  go_wp2
  go_ret
  exact ⟨ret_int (by rw [fitErr,if_pos (.inr (by rw [HL.out];omega))]),hB0⟩
 have hlt:k<n:=by omega
 obtain ⟨b,off,rfl,_,_⟩:=h.addr hlt
 obtain ⟨x,hx⟩:=h.get hlt
 have HX:Hid ((lens im)[k]?=some (x.length:Int)):=by show _=_;rw [lens,List.getElem?_map,hx];rfl
 obtain ⟨a',n',c',hcell,hx'⟩:=(h.below hB0).slice hx
 have hs':=hx'.small
 have hn':=hx'.len
 have HN:=Lib.hid hn';clear hn'
 clear hx
 by_cases h3:dn=0
 ·subst h3
  go_enter Tryz.func89,Tryz.ntmps89
  go_wp2
  go_ret
  exact ⟨ret_int (by rw [fitErr,if_neg (by rw [HL.out];omega),if_pos rfl]),hB0⟩
 have h3':0<dn:=by omega
 clear h3
 by_cases h4:start<0
 ·have d1:decide (start<0)=true:=by simp;omega
  go_enter Tryz.func89,Tryz.ntmps89
  go_wp2_with fail
  refine wp_region_quiet_lit (by kernel_rfl) (by kernel_rfl) ?_
  repeat (go_big_quiet_step (fail))
  refine wpQuiet_nil ?_
  rintro _ ⟨nq,rfl⟩
  go_wp2
  go_ret
  exact ⟨ret_int (by rw [fitErr,if_neg (by rw [HL.out];omega),if_neg (by omega),if_pos (.inl h4)]),below_drewN hB0 _⟩
 have h4':0≤start:=by omega
 have d1:decide (start<0)=false:=by simp;omega
 by_cases h5:(n':Int) - dn<start
 ·have d2:decide ((n':Int) - dn<start)=true:=by simp;omega
  go_enter Tryz.func89,Tryz.ntmps89
  go_wp2_with fail
  refine wp_region_quiet_lit (by kernel_rfl) (by kernel_rfl) ?_
  repeat (go_big_quiet_step (fail))
  refine wpQuiet_nil ?_
  rintro _ ⟨nq,rfl⟩
  go_wp2
  go_ret
  exact ⟨ret_int (by rw [fitErr,if_neg (by rw [HL.out];omega),if_neg (by omega),if_pos (by rw [Int.toNat_natCast,getD_of HX.out,HN.out];omega)]),below_drewN hB0 _⟩
 ·have h5':start≤(n':Int) - dn:=by omega
  have d2:decide ((n':Int) - dn<start)=false:=by simp;omega
  go_enter Tryz.func89,Tryz.ntmps89
  go_wp2_with fail
  refine wp_region_quiet_lit (by kernel_rfl) (by kernel_rfl) ?_
  repeat (go_big_quiet_step (fail))
  refine wpQuiet_nil ?_
  rintro _ ⟨nq,rfl⟩
  go_wp2
  go_ret
  exact ⟨ret_int (by rw [fitErr,if_neg (by rw [HL.out];omega),if_neg (by omega),if_neg (by rw [Int.toNat_natCast,getD_of HX.out,HN.out];omega)]),below_drewN hB0 _⟩
end Go.Proofs.YtioijcfcehhmdaaGreatDoor

namespace Go.Proofs.YtioijcfcehhmdaaGreatDoor
open Go.RowKit
theorem Tryz.szSec:(Tryz.prog.info? 68).map (·.size)=some 8:=by kernel_rfl
end Go.Proofs.YtioijcfcehhmdaaGreatDoor

namespace Go.Proofs.YtioijcfcehhmdaaGreatDoor
open Go.RowKit
def writeAt (l:List Sec) (s:Nat) (d:List Sec):List Sec:=l.take s++d++l.drop (s+d.length)
def putW (im:List (List Sec)) (x:Wr):List (List Sec):=im.set x.1.toNat (writeAt (im.getD x.1.toNat []) x.2.1.toNat x.2.2)
def fitW (sz:List Int) (x:Wr):Int:=fitErr sz x.1 x.2.1 x.2.2.length
def applyErr (sz:List Int):List Wr→Nat→Int × Int
 |[],_=>(0,0)
 |x :: l,i=>if fitW sz x≠0 then (i,fitW sz x) else applyErr sz l (i+1)
def applyImg (im:List (List Sec)) (l:List Wr):List (List Sec):=if imgErr im≠0 then [] else orNil (applyErr (lens im) l 0).2 (l.foldl putW im)
def applyIdx (im:List (List Sec)) (l:List Wr):Int:=if imgErr im≠0 then 0 else (applyErr (lens im) l 0).1
def applyE (im:List (List Sec)) (l:List Wr):Int:=if imgErr im≠0 then imgErr im else (applyErr (lens im) l 0).2
def RetApply (w:World) (im:List (List Sec)) (l:List Wr):Ending→World→Prop:=fun e w' =>
 ∃ a n c,e=.returned (.tuple #[.slice a n c,.int .i64 (applyIdx im l),.int .i64 (applyE im l)])∧Sl secsR (w.heap.size≤·) w' a n c (applyImg im l)∧(a=none∨applyE im l=0)∧Below w.heap.size w w'
theorem RetApply.mk {w w':World} {im:List (List Sec)} {l:List Wr} {a:Option Addr} {n c:Nat} {i e:Int} (hi:i=applyIdx im l) (he:e=applyE im l) (h:Sl secsR (w.heap.size≤·) w' a n c (applyImg im l)) (hz:a=none∨applyE im l=0) (hB:Below w.heap.size w w') :
  RetApply w im l (.returned (.tuple #[.slice a n c,.int .i64 i,.int .i64 e])) w':=⟨a,n,c,by rw [hi,he],h,hz,hB⟩
theorem applyErr_step {sz:List Int} {l:List Wr} {k:Nat} {x:Wr} (hx:l[k]?=some x) (h:applyErr sz l 0=applyErr sz (l.drop k) k) (hf:fitW sz x=0):applyErr sz l 0=applyErr sz (l.drop (k+1)) (k+1):=by
 obtain ⟨hk,rfl⟩:=List.getElem?_eq_some_iff.1 hx
 rw [h,List.drop_eq_getElem_cons hk,applyErr,if_neg (by rw [hf];decide)]
theorem applyErr_hit {sz:List Int} {l:List Wr} {k:Nat} {x:Wr} (hx:l[k]?=some x) (h:applyErr sz l 0=applyErr sz (l.drop k) k) (hf:fitW sz x≠0):applyErr sz l 0=((k:Int),fitW sz x):=by
 obtain ⟨hk,rfl⟩:=List.getElem?_eq_some_iff.1 hx
 rw [h,List.drop_eq_getElem_cons hk,applyErr,if_pos hf]
theorem applyErr_end {sz:List Int} {l:List Wr} {k:Nat} (hk:l.length≤k) (h:applyErr sz l 0=applyErr sz (l.drop k) k):applyErr sz l 0=(0,0):=by
 rw [h,List.drop_eq_nil_of_le hk,applyErr]
theorem writeAt_length {l d:List Sec} {s:Nat} (h:s+d.length≤l.length):(writeAt l s d).length=l.length:=by
 unfold writeAt;simp;omega
theorem fitW_ok {im:List (List Sec)} {v s:Int} {d:List Sec} (h:fitW (lens im) (v,s,d)=0):0≤v∧v<im.length∧0<d.length∧0≤s∧∃ x,im[v.toNat]?=some x∧s+d.length≤x.length:=by
 unfold fitW fitErr at h
 simp only at h
 split at h
 ·omega
 ·rename_i h1
  split at h
  ·omega
  ·rename_i h2
   split at h
   ·omega
   ·rename_i h3
    have h4:v.toNat<im.length:=by simp [lens] at h1;omega
    have e:(lens im).getD v.toNat 0=((im[v.toNat]'h4).length:Int):=by simp [lens,List.getD,h4]
    rw [e] at h3
    simp [lens] at h1
    exact ⟨by omega,by omega,by omega,by omega,_,List.getElem?_eq_getElem h4,by omega⟩
theorem lens_put {im:List (List Sec)} {x:Wr} (h:fitW (lens im) x=0):lens (putW im x)=lens im:=by
 obtain ⟨v,s,d⟩:=x
 obtain ⟨h1,h2,h3,h4,y,hy,h5⟩:=fitW_ok h
 unfold lens putW
 rw [List.map_set]
 apply List.ext_getElem?
 intro i
 rw [List.getElem?_set]
 by_cases hi:v.toNat=i
 ·subst hi
  have hl:=(List.getElem?_eq_some_iff.1 hy).1
  simp only [List.length_map,if_true,if_pos hl,List.getElem?_map,hy,Option.map_some]
  rw [getD_of hy,writeAt_length (by omega)]
 ·rw [if_neg hi]
set_option maxHeartbeats 4000000 in
theorem applyI_any {a:Option Addr} {n c:Nat} {im:List (List Sec)} {ok ok2:Nat→Prop} {w:World} (h:Sl secsR ok w a n c im) (hn:n≤1000000) (hvs:∀ v∈im,v.length≤1000000)
  {la:Option Addr} {ln lc:Nat} {l:List Wr} (hl:Sl wrR ok2 w la ln lc l) :
  Calls Tryz.prog 38 #[.slice a n c,.slice la ln lc] w (RetApply w im l):=by
 by_cases he:imgErr im=0
 rotate_left
 ·have hb:(imgErr im != 0)=true:=by simp [he]
  have HE:=Lib.hid he;clear he
  go_enter Tryz.func38,Tryz.ntmps38
  go_wp2_with fail
  refine (checkI_any h hn).mono ?_
  rintro e w1 ⟨rfl,hB1⟩
  go_wp2
  go_ret3
  exact RetApply.mk (by rw [applyIdx,if_pos HE.out]) (by rw [applyE,if_pos HE.out]) (by rw [applyImg,if_pos HE.out];exact Sl.nil0 _ _ _) (.inl rfl) hB1
 have hb:(imgErr im != 0)=false:=by simp [he]
 have HE:=Lib.hid he;clear he
 have hls:=hl.small
 go_enter Tryz.func38,Tryz.ntmps38
 go_wp2_with fail
 refine (checkI_any h hn).mono ?_
 rintro e w1 ⟨rfl,hB1⟩
 go_wp2_with fail
 refine (copied_any (h.below hB1) hn hvs).mono ?_
 rintro e w2 ⟨v0,rfl,hown0,hB2⟩
 have hB3:=hB1.trans (hB2.mono hB1.size)
 go_wp2
 go_loopw [21] (fun i wr=>∃ k:Nat,k≤ln∧i=.int .i64 k∧Hid (applyErr (lens im) l 0=applyErr (lens im) (l.drop k) k∧lens ((l.take k).foldl putW im)=lens im)∧OwnD ownSecs w1.heap.size wr.heap.size 66 wr v0 ((l.take k).foldl putW im)∧Below w1.heap.size w1 wr) (fun i _=>ln - (intOf i).toNat)
 case atStart=>exact ⟨0,Nat.zero_le _,rfl,⟨rfl,rfl⟩,hown0,hB2⟩
 case round =>
  obtain ⟨k,hk,rfl,HK,hown,hB⟩:=hrel
  by_cases hlt:k<ln
  ·obtain ⟨b,off,rfl,_,_⟩:=hl.addr hlt
   obtain ⟨⟨v,s,d⟩,hx⟩:=hl.get hlt
   obtain ⟨da,dn,dc,hc0,hc1,hc2,hv,hs,hd⟩:=(hl.below (hB1.trans (hB.mono hB1.size))).wr hx
   have HX:=Lib.hid hx;clear hx
   obtain ⟨a2,n2,c2,rfl,himg⟩:=hown.img
   generalize hcur:(l.take k).foldl putW im=cur at *
   have HC:=Lib.hid hcur;clear hcur
   have hds:=hd.small
   by_cases hf:fitErr (lens cur) v s dn=0
   rotate_left
   ·have hfb:(fitErr (lens cur) v s dn != 0)=true:=by simp [hf]
    have HF:=Lib.hid hf;clear hf
    go_wp2_with fail
    refine (fits1_any (himg.below ((Below.refl _ _).alloc (Nat.le_refl _) _)) hv hs hds).mono ?_
    rintro e w3 ⟨rfl,hB4⟩
    go_wp2
    go_ret3
    have e0:applyErr (lens im) l 0=((k:Int),fitErr (lens cur) v s dn):=by
     have e1:fitW (lens im) (v,s,d)=fitErr (lens cur) v s dn:=by unfold fitW;rw [HK.out.2,hd.len]
     rw [← e1]
     exact applyErr_hit HX.out HK.out.1 (by rw [e1];exact HF.out)
    exact RetApply.mk (by rw [applyIdx,if_neg (by simp [HE.out]),e0]) (by rw [applyE,if_neg (by simp [HE.out]),e0]) (by rw [applyImg,if_neg (by simp [HE.out]),e0,orNil_bad HF.out];exact Sl.nil0 _ _ _) (.inl rfl)
     ((hB1.trans (hB.mono hB1.size)).trans (((Below.refl _ _).alloc (Nat.le_refl _) _).trans (hB4.mono (by simp)) |>.mono (Nat.le_trans hB1.size hB.size)))
   ·have hfb:(fitErr (lens cur) v s dn != 0)=false:=by simp [hf]
    have hfw:fitW (lens cur) (v,s,d)=0:=by unfold fitW;rw [hd.len];exact hf
    obtain ⟨h1,h2,h3,h4,x,hx,h5⟩:=fitW_ok hfw
    obtain ⟨v,rfl⟩:=Int.eq_ofNat_of_zero_le h1
    obtain ⟨s,rfl⟩:=Int.eq_ofNat_of_zero_le h4
    rw [Int.toNat_natCast] at hx
    have HFW:=Lib.hid hfw;clear hfw
    have HF:=Lib.hid hf;clear hf
    have hdn:0<dn:=by rw [← hd.len];exact h3
    have h5':s+dn≤x.length:=by rw [hd.len] at h5;omega
    have h2':v<n2:=by rw [← himg.len];omega
    go_wp2_with fail
    refine (fits1_any (himg.below ((Below.refl _ _).alloc (Nat.le_refl _) _)) hv hs hds).mono ?_
    rintro e w3 ⟨rfl,hB4⟩
    have hB5:Below wr.heap.size wr w3:=((Below.refl _ _).alloc (Nat.le_refl _) _).trans (hB4.mono (by simp))
    -- the row that is written
    obtain ⟨g,cap,cc,okk,hvv,hBg,hg,hcc,⟨u,rfl,hub,hu,_⟩,hokk,hput⟩:=((hown.below hB5).below ((Below.refl _ _).drew)).at hx
    cases hvv
    have hu':=hu
    obtain ⟨xs,hrow,_⟩:=hu
    obtain ⟨gi,capi,rfl⟩:∃ gi capi,u=.slice (some ⟨gi,0,none⟩) x.length capi:=by
     rcases hrow.2 with ⟨_,h0⟩|⟨gi,capi,cur',hvu,_⟩
     ·omega
     ·exact ⟨gi,capi,hvu⟩
    have hcap:x.length≤capi:=by obtain ⟨_,_,_,e,q⟩:=hu'.sl;cases e;exact q.cap
    have hcell:w3.cell? ⟨g,v,none⟩=some (.slice (some ⟨gi,0,none⟩) x.length capi):=by have:=hcc 0 Nat.zero_lt_one;simpa [ownSecs,ownRowR] using this
    have hgi:=hokk gi (hub gi rfl)
    have hw3:=hB5.size
    have hl0:=cellLaterB (g:=gi) (boxCell hB4 (j:=0) rfl) (by show wr.heap.size≠gi;omega)
    have hl1:=cellLaterB (g:=gi) (boxCell hB4 (j:=1) rfl) (by show wr.heap.size≠gi;omega)
    have hl2:=cellLaterB (g:=gi) (boxCell hB4 (j:=2) rfl) (by show wr.heap.size≠gi;omega)
    have hl3:=cellLaterB (g:=gi) hcell (fun e=>hgi.2.2 e.symm)
    have hsl:=fun w=>run_subFrom Tryz.underlying66 Tryz.szSec (some ⟨gi,0,none⟩) x.length capi s (by omega) w
    have hsub:subAddr (some ⟨gi,0,none⟩) capi s 8=some ⟨gi,s * 8,none⟩:=by unfold subAddr;rw [if_neg (by omega)];simp [Addr.add_lit]
    rw [hsub] at hsl
    have HS:=Lib.hid hsub;clear hsub
    have hs64:s≤x.length:=by omega
    clear h5 hcc
    go_wp2_with fail
    refine wp_region_acts (fun w'=>∃ x:LaterB (w3) (gi),w'=x.w) [([0,1,2,3,4,5,6,7,8,9],10)] [] Tryz.mixed (by kernel_rfl) (LaterB.drew _ _) ?_
    refine wpActs_act ?_
    simp only [pick,List.filterMap_cons,List.filterMap_nil,List.getElem?_toArray,List.getElem?_cons_succ,List.getElem?_cons_zero]
    change wpQuiet _ _ _ _ [_,_,_,_,_,_,_,_,_,_] _
    repeat (go_big_quiet_step (fail))
    refine wpQuiet_nil ?_
    change wpList _ _ _ [_] _ _
    refine wpList_copyOwn Tryz.slSec Flat.sec rfl _ _ rfl (s:=s) (r:=secR) rfl rfl hu' (ys:=d) (((hd.below hB5).below ((Below.refl _ _).drew))) (by omega) hdn (by omega) ?_
    intro w4 hrow4 hgr4 hsz4
    have hgr:w3.grownBy w4 (some gi):=grown_trans (grown_drew _ _) hgr4
    have hown4:=hput w4 (writeAt x s d) (fun b hb hne=>hgr4.block b hb (fun e=>hne (by rw [Option.some.inj e];exact hub gi rfl))) hgr4.os hgr4.tape hgr4.output hgr4.size ⟨_,rfl,hub,hrow4,fun e=>by
     have:=writeAt_length (l:=x) (d:=d) (s:=s) (by rw [hd.len];omega)
     rw [e] at this;simp at this;omega⟩
    have e1:putW cur ((v:Int),(s:Int),d)=cur.set v (writeAt x s d):=by
     unfold putW;rw [Int.toNat_natCast,Int.toNat_natCast,getD_of hx]
    have H1:=Lib.hid e1;clear e1
    have HXX:=Lib.hid hx;clear hx
    go_wp2_with fail
    refine ⟨LaterB.of hgr,?_⟩
    refine wpActs_last ?_
    simp only [pick,List.filterMap_cons,List.filterMap_nil,List.getElem?_toArray,List.getElem?_cons_succ,List.getElem?_cons_zero]
    change wpQuiet _ _ _ _ [] _
    repeat (go_big_quiet_step (fail))
    refine wpQuiet_nil ?_
    go_wp2
    go_roundw
    case rel =>
     refine ⟨k+1,by omega,by go_num,?_,?_,(hB.trans (hB5.mono hB.size)).grown hgr (by have:=hB.size;omega) (fun j hj=>by cases hj;omega)⟩
     ·show _∧_
      have hfw:fitW (lens im) ((v:Int),(s:Int),d)=0:=by rw [← HK.out.2];exact HFW.out
      refine ⟨applyErr_step HX.out HK.out.1 hfw,?_⟩
      rw [take_succ_get HX.out,List.foldl_append,HC.out]
      show lens (putW cur _)=_
      rw [lens_put HFW.out,HK.out.2]
     ·rw [take_succ_get HX.out,List.foldl_append,HC.out]
      show OwnD _ _ _ _ _ _ (putW cur _)
      rw [H1.out]
      exact hown4.up (by have:=hgr.size;omega)
    case measure=>simp [intOf];omega
  ·obtain rfl:k=ln:=by omega
   obtain ⟨a2,n2,c2,rfl,himg⟩:=hown.img
   go_wp2
   go_ret3
   have e0:=applyErr_end (Nat.le_of_eq hl.len) HK.out.1
   rw [take_all hl.len] at himg
   exact RetApply.mk (by rw [applyIdx,if_neg (by simp [HE.out]),e0]) (by rw [applyE,if_neg (by simp [HE.out]),e0]) (by rw [applyImg,if_neg (by simp [HE.out]),e0,orNil_ok rfl];exact himg.mono fun b hb=>Nat.le_trans hB1.size hb) (.inr (by rw [applyE,if_neg (by simp [HE.out]),e0]))
    (hB1.trans (hB.mono hB1.size))
end Go.Proofs.YtioijcfcehhmdaaGreatDoor

namespace Go.Proofs.YtioijcfcehhmdaaGreatDoor
open Go.RowKit V
theorem cellish_at {w:World} {b o:Nat} {u:Value} (h:w.cell? ⟨b,o,none⟩=some u):Cellish w b:=by
 unfold World.cell? at h
 simp only at h
 split at h
 ·rename_i e;exact ⟨_,_,_,e⟩
 ·cases h
theorem sl_of_prep {α:Type} {r:Rep α} {enc:α→PV} {ok:Nat→Prop} {w:World} {l:List α} {sz:Nat} {v:Value} (hsz:sz=r.sz) (hc:∀ x,(enc x).cells.length=r.sz)
  (hr:∀ x∈l,∀ (cs:List Value),cs.length=r.sz→(∀ (j:Nat) p u,(enc x).cells[j]?=some p→cs[j]?=some u→PRep ok w p u)→r.rd ok w cs x) (h:PRep ok w (.list sz (l.map enc)) v):∃ a n c,v=.slice a n c∧Sl r ok w a n c l:=by
 generalize he:l.map enc=es at h
 cases h with
 |nil _ a =>
  have:l=[]:=by simpa using he
  subst this
  exact ⟨a,0,0,rfl,⟨rfl,Nat.le_refl _,Nat.zero_le _,fun _=>rfl,.inl rfl⟩⟩
 |list _ _ b off c cv h1 h2 h3 h4 h6 h7 h8 =>
  subst hsz he
  refine ⟨_,_,c,rfl,⟨by simp,h3,h4,(fun e=>by cases e),.inr ⟨b,off,rfl,h1,h2.lt,fun i x hx=>?_⟩⟩⟩
  have hi:(l.map enc)[i]?=some (enc x):=by simp [hx]
  refine ⟨(List.range r.sz).map (cv i),fun j hj=>?_,hr x (List.mem_of_getElem? hx) _ (by simp) fun j p u hp hu=>?_⟩
  ·have hj':j<(enc x).cells.length:=by rw [hc];exact hj
   rw [(h7 i _ j _ hi (List.getElem?_eq_getElem hj')).1]
   simp [hj]
  ·have hj:j<r.sz:=by have:=(List.getElem?_eq_some_iff.1 hp).1;rw [hc] at this;exact this
   have:u=cv i j:=by simp [hj] at hu;exact hu.symm
   rw [this]
   exact h8 i _ j _ hi hp
theorem prep_of_sl {α:Type} {r:Rep α} {enc:α→PV} {ok ok':Nat→Prop} {w:World} {l:List α} {a:Option Addr} {n c:Nat} (hk:∀ b,ok b→b<w.heap.size→ok' b) (hp0:0<r.sz) (hc:∀ x,(enc x).cells.length=r.sz)
  (hr:∀ x∈l,∀ (cs:List Value),cs.length=r.sz→r.rd ok w cs x→∀ (j:Nat) p u,(enc x).cells[j]?=some p→cs[j]?=some u→u.oneCell'=true∧PRep ok' w p u) (hz:l=[]→c=0) (h:Sl r ok w a n c l):PRep ok' w (.list r.sz (l.map enc)) (.slice a n c):=by
 obtain ⟨h1,h2,h3,h4,h5⟩:=h
 by_cases hl:l=[]
 ·have:=hz hl
  subst hl
  have:n=0:=by simpa using h1.symm
  subst this
  have:c=0:=by omega
  subst this
  exact .nil _ _
 ·rcases h5 with h5|⟨b,off,rfl,hb,hlt,h6⟩
  ·exact absurd (List.eq_nil_of_length_eq_zero (by omega)) hl
  ·have hn:n=(l.map enc).length:=by simp [h1]
   rw [hn]
   have key:∀ (i:Nat) (x:α) (j:Nat) (p:PV),l[i]?=some x→(enc x).cells[j]?=some p→∃ u,w.cell? ⟨b,off+i * r.sz+j,none⟩=some u∧u.oneCell'=true∧PRep ok' w p u:=by
    intro i x j p hx hp
    obtain ⟨cs,g1,g2⟩:=h6 i x hx
    have hj:j<r.sz:=by have:=(List.getElem?_eq_some_iff.1 hp).1;rw [hc] at this;exact this
    have hl2:=r.len g2
    have hu:cs[j]?=some (cs[j]'(by omega)):=List.getElem?_eq_getElem (by omega)
    obtain ⟨k1,k2⟩:=hr x (List.mem_of_getElem? hx) cs hl2 g2 j p _ hp hu
    exact ⟨_,by rw [g1 j hj,hu],k1,k2⟩
   have get:∀ {i:Nat} {e:PV},(l.map enc)[i]?=some e→∃ x,l[i]?=some x∧e=enc x:=by
    intro i e he
    rw [List.getElem?_map] at he
    cases hx:l[i]? with
    |none=>rw [hx] at he;cases he
    |some x=>rw [hx] at he;cases he;exact ⟨x,rfl,rfl⟩
   have hce:Cellish w b:=by
    cases l with
    |nil=>exact absurd rfl hl
    |cons x l =>
     have hj:0<(enc x).cells.length:=by rw [hc];exact hp0
     obtain ⟨u,k1,_⟩:=key 0 x 0 _ rfl (List.getElem?_eq_getElem hj)
     exact cellish_at k1
   refine .list _ _ b off c (fun i j=>(w.cell? ⟨b,off+i * r.sz+j,none⟩).getD undef) (hk b hb hlt) hce (by simp;omega) h3 (fun e he=>?_) (fun i e j x hi hj=>?_) fun i e j x hi hj=>?_
   ·obtain ⟨x,_,rfl⟩:=List.mem_map.1 he;exact hc x
   ·obtain ⟨x',hx,rfl⟩:=get hi
    obtain ⟨u,k1,k2,k3⟩:=key i x' j x hx hj
    rw [k1];exact ⟨rfl,k2⟩
   ·obtain ⟨x',hx,rfl⟩:=get hi
    obtain ⟨u,k1,k2,k3⟩:=key i x' j x hx hj
    rw [k1];exact k3
theorem secs_in {ok:Nat→Prop} {w:World} {l:List Sec} {v:Value} (h:PRep ok w (eSecs l) v):∃ a n c,v=.slice a n c∧Sl secR ok w a n c l:=by
 refine sl_of_prep (r:=secR) (enc:=eSec) rfl (fun x=>secPV_length x) (fun x _ cs hl hcs=>?_) h
 show cs=secCells x
 refine List.ext_getElem? fun j=>?_
 by_cases hj:j<8
 ·have h1:cs[j]?=some (cs[j]'(by rw [hl];exact hj)):=List.getElem?_eq_getElem _
  have h2:(eSec x).cells[j]?=some (.int .u8 ((x.toList[j]'(by simpa using hj)).toNat:Int)):=by
   show (secPV x)[j]?=_
   have hj':j<x.toList.length:=by simpa using hj
   simp only [secPV,List.getElem?_map,List.getElem?_eq_getElem hj',Option.map_some]
  have:=(hcs j _ _ h2 h1).int_inv
  have hj':j<x.toList.length:=by simpa using hj
  rw [h1,this]
  simp only [secCells,List.getElem?_map,List.getElem?_eq_getElem hj',Option.map_some]
 ·have e1:cs.length=8:=hl
  rw [List.getElem?_eq_none (by omega),List.getElem?_eq_none (by rw [secCells_length];omega)]
theorem img_in {ok:Nat→Prop} {w:World} {l:List (List Sec)} {v:Value} (h:PRep ok w (.list 1 (l.map eSecs)) v):∃ a n c,v=.slice a n c∧Sl secsR ok w a n c l:=by
 refine sl_of_prep (r:=secsR) (enc:=eSecs) rfl (fun x=>rfl) (fun x _ cs hl hcs=>?_) h
 match cs,hl with
 |[u],_ =>
  obtain ⟨a,n,c,rfl,hs⟩:=secs_in (hcs 0 _ u rfl rfl)
  exact ⟨a,n,c,rfl,hs⟩
theorem wrs_in {ok:Nat→Prop} {w:World} {l:List Wrt} {v:Value} (hok:∀ x∈l,i64b x.volume=true∧i64b x.start=true) (h:PRep ok w (.list 3 (l.map eWr)) v):∃ a n c,v=.slice a n c∧Sl wrR ok w a n c (l.map fun x=>(x.volume,x.start,x.data)):=by
 have:∃ a n c,v=.slice a n c∧Sl (α:=Wrt) ⟨3,fun ok w cs x=>wrR.rd ok w cs (x.volume,x.start,x.data),fun h=>wrR.len h,fun hk h=>wrR.mono hk h,fun h=>wrR.live h,fun hf h=>wrR.frame hf h,fun h=>wrR.one h⟩ ok w a n c l:=by
  refine sl_of_prep rfl (fun x=>rfl) (fun x hx cs hl hcs=>?_) h
  match cs,hl with
  |[u,u2,u3],_ =>
   have e1:=(hcs 0 _ u rfl rfl).int_inv
   have e2:=(hcs 1 _ u2 rfl rfl).int_inv
   obtain ⟨a,n,c,rfl,hs⟩:=secs_in (l:=x.data) (hcs 2 _ u3 rfl rfl)
   obtain ⟨o1,o2⟩:=hok x hx
   simp only [i64b,Bool.and_eq_true,decide_eq_true_eq] at o1 o2
   exact ⟨[u],[u2,.slice a n c],rfl,⟨by rw [e1],o1⟩,⟨[u2],[.slice a n c],rfl,⟨by rw [e2],o2⟩,a,n,c,rfl,hs⟩⟩
 obtain ⟨a,n,c,rfl,h1,h2,h3,h4,h5⟩:=this
 refine ⟨a,n,c,rfl,⟨by simpa using h1,h2,h3,h4,h5.imp id fun ⟨b,off,g1,g2,g3,g4⟩=>⟨b,off,g1,g2,g3,fun i x hx=>?_⟩⟩⟩
 rw [List.getElem?_map] at hx
 cases hx':l[i]? with
 |none=>rw [hx'] at hx;cases hx
 |some y=>rw [hx'] at hx;cases hx;exact g4 i y hx'
theorem img_out {ok ok':Nat→Prop} {w:World} {l:List (List Sec)} {a:Option Addr} {n c:Nat} (hk:∀ b,ok b→b<w.heap.size→ok' b) (hz:l=[]→c=0) (hne:∀ x∈l,x≠[]) (h:Sl secsR ok w a n c l):PRep ok' w (.list 1 (l.map eSecs)) (.slice a n c):=by
 refine prep_of_sl (r:=secsR) (enc:=eSecs) hk (by decide) (fun x=>rfl) (fun x hx cs hl hrd j p u hp hu=>?_) hz h
 obtain ⟨a,n,c,rfl,hs⟩:=hrd
 match j with
 |j+1=>simp [eSecs,PV.cells] at hp
 |0 =>
  cases hp
  cases hu
  refine ⟨rfl,prep_of_sl (r:=secR) (enc:=eSec) hk (by decide) (fun x=>secPV_length x) (fun s _ cs hl hrd j p u hp hu=>?_) (fun e=>absurd e (hne x hx)) hs⟩
  have hrd:cs=secCells s:=hrd
  subst hrd
  simp only [secCells,List.getElem?_map,Option.map_eq_some_iff] at hu
  have hp:(secPV s)[j]?=some p:=hp
  simp only [secPV,List.getElem?_map,Option.map_eq_some_iff] at hp
  obtain ⟨b,h1,rfl⟩:=hu
  obtain ⟨b',h2,rfl⟩:=hp
  rw [h1] at h2
  cases h2
  exact ⟨rfl,.int _ _⟩
theorem wrErr_fit (sz:List Int) (x:Wrt):wrErr sz x=fitW sz (x.volume,x.start,x.data):=by
 simp only [fitW,fitErr,wrErr]
 repeat' split
 all_goals first|rfl|omega
theorem wrErrs_eq (sz:List Int):∀ (l:List Wrt) (i:Nat),wrErrs sz l i=applyErr sz (l.map fun x=>(x.volume,x.start,x.data)) i
 |[],_=>rfl
 |x :: l,i=>by rw [List.map_cons,wrErrs,applyErr,wrErr_fit,wrErrs_eq sz l (i+1)]
theorem apE_eq (im:List (List Sec)) (l:List Wrt):apE im l=applyE im (l.map fun x=>(x.volume,x.start,x.data)):=by
 unfold apE applyE;rw [wrErrs_eq];rfl
theorem apI_eq (im:List (List Sec)) (l:List Wrt):apI im l=applyIdx im (l.map fun x=>(x.volume,x.start,x.data)):=by
 unfold apI applyIdx;rw [wrErrs_eq];rfl
theorem put1_eq (im:List (List Sec)) (x:Wrt):put1 im x=putW im (x.volume,x.start,x.data):=rfl
theorem puts_eq:∀ (l:List Wrt) (im:List (List Sec)),l.foldl put1 im=(l.map fun x=>(x.volume,x.start,x.data)).foldl putW im
 |[],_=>rfl
 |x :: l,im=>by rw [List.map_cons,List.foldl_cons,List.foldl_cons,put1_eq,puts_eq l]
theorem apO_eq (im:List (List Sec)) (l:List Wrt):apO im l=applyImg im (l.map fun x=>(x.volume,x.start,x.data)):=by
 unfold apO applyImg
 rw [apE_eq,puts_eq]
 unfold applyE orNil
 by_cases h:imgErr im=0
 ·simp [h]
 ·simp [h]
theorem wrErr_ok {im:List (List Sec)} {x:Wrt} (h:wrErr (szsOf im) x=0):szsOf (put1 im x)=szsOf im:=by
 rw [wrErr_fit] at h
 exact lens_put h
theorem puts_sizes:∀ (l:List Wrt) (im:List (List Sec)) (i:Nat),(wrErrs (szsOf im) l i).2=0→szsOf (l.foldl put1 im)=szsOf im
 |[],_,_,_=>rfl
 |x :: l,im,i,h=>by
  unfold wrErrs at h
  split at h
  ·rename_i h2;exact absurd h h2
  ·rename_i h2
   have h2:wrErr (szsOf im) x=0:=by omega
   have e:=wrErr_ok h2
   rw [List.foldl_cons,puts_sizes l (put1 im x) (i+1) (by rw [e];exact h),e]
theorem apO_sizes {im:List (List Sec)} {l:List Wrt} (h:apE im l=0):szsOf (apO im l)=szsOf im:=by
 unfold apO
 rw [if_pos h]
 unfold apE at h
 split at h
 ·rename_i h2;exact absurd h h2
 ·exact puts_sizes l im 0 h
theorem szErr_ne {im:List (List Sec)} (h:szErr (szsOf im)=0):im≠[]∧∀ v∈im,v≠[]:=by
 unfold szErr at h
 split at h
 ·cases h
 ·rename_i h1
  split at h
  ·cases h
  ·rename_i h2
   refine ⟨fun e=>by subst e;simp [szsOf] at h1,fun v hv e=>?_⟩
   subst e
   refine h2 (List.any_eq_true.2 ⟨0,?_,by decide⟩)
   exact List.mem_map.2 ⟨[],hv,rfl⟩
theorem apO_ne {im:List (List Sec)} {l:List Wrt}:(apE im l=0→apO im l≠[])∧∀ v∈apO im l,v≠[]:=by
 by_cases h:apE im l=0
 ·have h0:szErr (szsOf im)=0:=by
   unfold apE at h
   split at h
   ·rename_i h2;exact absurd h h2
   ·omega
  have:=szErr_ne (im:=apO im l) (by rw [apO_sizes h];exact h0)
  exact ⟨fun _=>this.1,this.2⟩
 ·exact ⟨fun e=>absurd e h,fun v hv=>by unfold apO at hv;rw [if_neg h] at hv;cases hv⟩
theorem apply_ok {f:Nat} (hc:callable Tryz.prog f=true) (hA:∀ {a:Option Addr} {n c:Nat} {im:List (List Sec)} {ok ok2:Nat→Prop} {w:World},Sl secsR ok w a n c im→n≤1000000→(∀ v∈im,v.length≤1000000) →
  ∀ {la:Option Addr} {ln lc:Nat} {l:List Wr},Sl wrR ok2 w la ln lc l→Calls Tryz.prog f #[.slice a n c,.slice la ln lc] w (RetApply w im l)) :
  ∀ args rs,applyX args=some rs→callable Tryz.prog f=true∧CallOk Tryz.prog f args rs:=fun args rs h=>by
 obtain ⟨im,l,rfl,hw,hn,hv,rfl⟩:=applyX_eq h
 refine ⟨hc,fun T0 w vs h1 h2 h3 h4 _=>?_⟩
 match vs,h3 with
 |[v0,v1],_ =>
  obtain ⟨a,n,c,rfl,hs⟩:=img_in (h4 0 _ v0 rfl rfl)
  obtain ⟨la,ln,lc,rfl,hl⟩:=wrs_in hw (h4 1 _ v1 rfl rfl)
  refine (hA hs (by rw [← hs.len];exact hn) hv hl).mono ?_
  rintro e w' ⟨a',n',c',rfl,hr,hz,hB⟩
  rw [← apI_eq,← apE_eq]
  rw [← apO_eq] at hr
  rw [← apE_eq] at hz
  refine ⟨_,fun b=>if w.heap.size≤b∧b<w'.heap.size then .ro else T0 b,rfl,hB,fun b hb=>if_neg (by omega),fun b hb=>?_,#[_,_,_],rfl,rfl,fun i r u hr' hu=>?_⟩
  ·show (if _ then _ else T0 b)=_
   rw [if_neg (by omega)];exact h2 b (by have:=hB.size;omega)
  ·match i with
   |0 =>
    cases hr';cases hu
    refine img_out (ok:=(w.heap.size≤·)) (fun b hb hlt=>if_pos ⟨hb,hlt⟩) (fun e=>?_) apO_ne.2 hr
    rcases hz with hz|hz
    ·exact hr.nil hz
    ·exact absurd e (apO_ne.1 hz)
   |1=>cases hr';cases hu;exact .int _ _
   |2=>cases hr';cases hu;exact .int _ _
   |i+3=>simp at hr'
theorem applyI_ok:∀ args rs,applyX args=some rs→callable Tryz.prog 38=true∧CallOk Tryz.prog 38 args rs:=apply_ok (by kernel_rfl) fun h hn hv _ _ _ _ hl=>applyI_any h hn hv hl
end Go.Proofs.YtioijcfcehhmdaaGreatDoor

namespace Go.Proofs.YtioijcfcehhmdaaGreatDoor
open Go.RowKit V
def oneEnv (f:Nat) (fn:VFn):Env:=fun k=>if k=f then some (.code fn) else none
theorem oneEnv_ok {P:Program} {f:Nat} {fn:VFn} (h:fnOk P f fn=true):EnvOk P (oneEnv f fn):=fun k d hk=>by
 unfold oneEnv at hk
 split at hk
 ·rename_i e;subst e;cases hk;exact h
 ·cases hk
def emR (n:Nat):Rep Unit where
 sz:=n
 rd _ _ cs _:=cs.length=n∧∀ u∈cs,u.oneCell'=true
 len h:=h.1
 mono _ h:=h
 live h:=h
 frame _ h:=h
 one h:=h.2
theorem Flat.em (n:Nat):Flat (emR n):=fun h=>h
theorem sl_nil {ok:Nat→Prop} {w:World} {sz:Nat} {v:Value} (h:PRep ok w (.list sz []) v):∃ a c,v=.slice a 0 c∧Sl (emR sz) (fun _=>True) w a 0 c []:=by
 obtain ⟨l,hl⟩:∃ l:List PV,l=[]:=⟨_,rfl⟩
 rw [← hl] at h
 cases h with
 |nil _ a=>exact ⟨a,0,rfl,⟨rfl,Nat.le_refl _,Nat.zero_le _,fun _=>rfl,.inl rfl⟩⟩
 |list _ _ b off c cv h1 h2 h3 h4 h6 h7 h8=>subst hl;exact ⟨_,c,rfl,⟨rfl,Nat.zero_le _,h4,(fun e=>by cases e),.inl rfl⟩⟩
--+
theorem slt95:SliceT Tryz.prog 66 68 8 8 (.agg #[.int .u8 0,.int .u8 0,.int .u8 0,.int .u8 0,.int .u8 0,.int .u8 0,.int .u8 0,.int .u8 0]):=⟨Tryz.underlying66,by kernel_rfl,rfl,by decide⟩
set_option maxHeartbeats 1000000 in
theorem cempty95 {a:Option Addr} {n c:Nat} {l:List Unit} {ok:Nat→Prop} {w:World} (h:Sl (emR 8) ok w a n c l) (hn:n≤1000000) :
  Calls Tryz.prog 95 #[.slice a n c] w fun e w'=>∃ a' n' c',e=.returned (.slice a' n' c')∧(ownRowR (emR 8) 68).rd (w.heap.size≤·) w' [.slice a' n' c'] l∧Below w.heap.size w w':=by
 have heq:=fun (a:Option Addr) (n c:Nat) (w:World)=>Lib.run_eql_slice_nil (P:=Tryz.prog) w 66 68 a n c 0 0 Tryz.underlying66
 cases a with
 |none =>
  have h0:l=[]:=List.eq_nil_of_length_eq_zero (by rw [h.len];have:=h.nil rfl;have:=h.cap;omega)
  have H0:=Lib.hid h0;clear h0
  go_enter Tryz.func95,Tryz.ntmps95
  go_wp2
  go_ret
  refine ⟨_,_,_,rfl,?_,Below.refl _ _⟩
  rw [H0.out]
  exact ownRowR.mk (Own.nil _ _ _ _ _) (fun _=>.inl rfl)
 |some ad =>
  have hs:n≤9223372036854775807:=by have:=Nat.le_trans h.cap h.bnd;unfold maxLen at this;omega
  go_enter Tryz.func95,Tryz.ntmps95
  go_wp2_with (at_builtin;refine wpList_app slt95 rfl _ _ rfl rfl (Own.lit0 (emR 8) (ok:=fun _=>False) (Nat.le_refl _)) rfl ((Src.of_sl (h.below ((Below.refl _ _).alloc (Nat.le_refl _) _))).flat (Flat.em 8)) ?c1 ?c2 ?c3 ?_)
  case c1=>simp;unfold maxLen;omega
  case c2=>simp;omega
  case c3=>simp
  intro v' w1 hown hgrow hat
  obtain ⟨a',n',c',rfl,_⟩:=hown.sl
  go_wp2
  go_ret
  refine ⟨_,_,_,rfl,ownRowR.mk (by simpa using hown) (fun e=>?_),((Below.refl _ _).alloc (Nat.le_refl _) _).grown hgrow (by simp) (fun k hk=>by cases hk;exact Nat.le_refl _)⟩
  subst e
  obtain ⟨xs,h1,_⟩:=hown
  rcases h1.2 with ⟨hv,_⟩|⟨g,cap,cur,hv,_⟩
  ·exact .inl hv
  ·exact .inr ⟨g,cap,by simpa using hv⟩
theorem clone95_fn:fnOk Tryz.prog 95 fn95=true:=by kernel_rfl
theorem clone95_some {en:Env} (hen:en 95=some (.code fn95)) {e:PV} {es:List PV} (hl:(e :: es).length≤lim):cal en 95 [.list 8 (e :: es)]=some [(.list 8 (e :: es),true)]:=by
 have F1:(es.length+1≤lim)=True:=eq_true (by simpa using hl)
 rw [cal_code hen rfl]
 simp only [fn95]
 simp only [start,z_map_cons,z_map_nil,z_len_cons,z_len_nil,z_repl_zero,z_repl_succ,z_cons_app,z_nil_app,Nat.reduceAdd,Nat.reduceSub]
 simp only [F1,z_nil_app,memAll,vAll,reduceCtorEq,Nat.reduceEqDiff,Nat.reduceAdd,Nat.reduceLT,Nat.reduceLeDiff,Nat.beq]
theorem clone95_ok:∀ args rs,cloneX 8 args=some rs→callable Tryz.prog 95=true∧CallOk Tryz.prog 95 args rs:=fun args rs h=>by
 unfold cloneX at h
 split at h
 case h_2=>cases h
 rename_i sz es
 split at h
 case isFalse=>cases h
 rename_i hc
 obtain ⟨rfl,hl⟩:=hc
 cases h
 cases es with
 |cons e es =>
  obtain ⟨n,hn⟩:=vmCall_of_cal (clone95_some (en:=oneEnv 95 fn95) (if_pos rfl) hl)
  exact vmCall_ok (oneEnv_ok clone95_fn) hn
 |nil =>
  refine ⟨by kernel_rfl,fun T0 w vs h1 h2 h3 h4 _=>?_⟩
  match vs,h3 with
  |[v],_ =>
   have hv:=h4 0 _ v rfl rfl
   obtain ⟨a,c,rfl,hsl⟩:=sl_nil hv
   refine (cempty95 (ok:=fun _=>True) hsl (by omega)).mono ?_
   rintro e w' ⟨a',n',c',rfl,hrd,hB⟩
   obtain ⟨v,hv,hb,⟨xs,hown,_⟩,hnil⟩:=hrd
   obtain rfl:Value.slice a' n' c'=v:=by simpa using hv
   rcases hown.2 with ⟨e1,_⟩|⟨g,cap,cur,e1,_,hg,_,hm,hs,_⟩
   ·refine ⟨_,T0,rfl,hB,fun _ _=>rfl,fun b hb=>h2 b (by have:=hB.size;omega),#[_],rfl,rfl,fun i r u hr hu=>?_⟩
    cases i with
    |zero=>cases hr;cases hu;exact .inl ⟨rfl,none,e1⟩
    |succ i=>simp at hr
   ·have hg0:w.heap.size≤g:=hb g (by rw [e1];rfl)
    have hgl:g<w'.heap.size:=(Array.getElem?_eq_some_iff.1 hg).1
    refine ⟨_,fun b=>if b=g then .row (.part 0 0) else T0 b,rfl,hB,fun b hb=>if_neg (by omega),fun b hb=>?_,#[_],rfl,rfl,fun i r u hr hu=>?_⟩
    ·show (if b=g then _ else T0 b)=_
     rw [if_neg (by omega)];exact h2 b (by have:=hB.size;omega)
    ·cases i with
     |zero =>
      cases hr;cases hu
      exact .inr ⟨g,cap,cur,_,e1,if_pos rfl,hg,hs,Nat.zero_le _,hm,(fun e he=>by cases he),fun i e j x hi=>by simp at hi⟩
     |succ i=>simp at hr
--+
theorem slt146:SliceT Tryz.prog 87 144 1 8 (.int .u64 0):=⟨Tryz.underlying87,by kernel_rfl,rfl,by decide⟩
set_option maxHeartbeats 1000000 in
theorem cempty146 {a:Option Addr} {n c:Nat} {l:List Unit} {ok:Nat→Prop} {w:World} (h:Sl (emR 1) ok w a n c l) (hn:n≤1000000) :
  Calls Tryz.prog 146 #[.slice a n c] w fun e w'=>∃ a' n' c',e=.returned (.slice a' n' c')∧(ownRowR (emR 1) 144).rd (w.heap.size≤·) w' [.slice a' n' c'] l∧Below w.heap.size w w':=by
 have heq:=fun (a:Option Addr) (n c:Nat) (w:World)=>Lib.run_eql_slice_nil (P:=Tryz.prog) w 87 144 a n c 0 0 Tryz.underlying87
 cases a with
 |none =>
  have h0:l=[]:=List.eq_nil_of_length_eq_zero (by rw [h.len];have:=h.nil rfl;have:=h.cap;omega)
  have H0:=Lib.hid h0;clear h0
  go_enter Tryz.func146,Tryz.ntmps146
  go_wp2
  go_ret
  refine ⟨_,_,_,rfl,?_,Below.refl _ _⟩
  rw [H0.out]
  exact ownRowR.mk (Own.nil _ _ _ _ _) (fun _=>.inl rfl)
 |some ad =>
  have hs:n≤9223372036854775807:=by have:=Nat.le_trans h.cap h.bnd;unfold maxLen at this;omega
  go_enter Tryz.func146,Tryz.ntmps146
  go_wp2_with (at_builtin;refine wpList_app slt146 rfl _ _ rfl rfl (Own.lit0 (emR 1) (ok:=fun _=>False) (Nat.le_refl _)) rfl ((Src.of_sl (h.below ((Below.refl _ _).alloc (Nat.le_refl _) _))).flat (Flat.em 1)) ?c1 ?c2 ?c3 ?_)
  case c1=>simp;unfold maxLen;omega
  case c2=>simp;omega
  case c3=>simp
  intro v' w1 hown hgrow hat
  obtain ⟨a',n',c',rfl,_⟩:=hown.sl
  go_wp2
  go_ret
  refine ⟨_,_,_,rfl,ownRowR.mk (by simpa using hown) (fun e=>?_),((Below.refl _ _).alloc (Nat.le_refl _) _).grown hgrow (by simp) (fun k hk=>by cases hk;exact Nat.le_refl _)⟩
  subst e
  obtain ⟨xs,h1,_⟩:=hown
  rcases h1.2 with ⟨hv,_⟩|⟨g,cap,cur,hv,_⟩
  ·exact .inl hv
  ·exact .inr ⟨g,cap,by simpa using hv⟩
theorem clone146_fn:fnOk Tryz.prog 146 fn146=true:=by kernel_rfl
theorem clone146_some {en:Env} (hen:en 146=some (.code fn146)) {e:PV} {es:List PV} (hl:(e :: es).length≤lim):cal en 146 [.list 1 (e :: es)]=some [(.list 1 (e :: es),true)]:=by
 have F1:(es.length+1≤lim)=True:=eq_true (by simpa using hl)
 rw [cal_code hen rfl]
 simp only [fn146]
 simp only [start,z_map_cons,z_map_nil,z_len_cons,z_len_nil,z_repl_zero,z_repl_succ,z_cons_app,z_nil_app,Nat.reduceAdd,Nat.reduceSub]
 simp only [F1,z_nil_app,memAll,vAll,reduceCtorEq,Nat.reduceEqDiff,Nat.reduceAdd,Nat.reduceLT,Nat.reduceLeDiff,Nat.beq]
theorem clone146_ok:∀ args rs,cloneX 1 args=some rs→callable Tryz.prog 146=true∧CallOk Tryz.prog 146 args rs:=fun args rs h=>by
 unfold cloneX at h
 split at h
 case h_2=>cases h
 rename_i sz es
 split at h
 case isFalse=>cases h
 rename_i hc
 obtain ⟨rfl,hl⟩:=hc
 cases h
 cases es with
 |cons e es =>
  obtain ⟨n,hn⟩:=vmCall_of_cal (clone146_some (en:=oneEnv 146 fn146) (if_pos rfl) hl)
  exact vmCall_ok (oneEnv_ok clone146_fn) hn
 |nil =>
  refine ⟨by kernel_rfl,fun T0 w vs h1 h2 h3 h4 _=>?_⟩
  match vs,h3 with
  |[v],_ =>
   have hv:=h4 0 _ v rfl rfl
   obtain ⟨a,c,rfl,hsl⟩:=sl_nil hv
   refine (cempty146 (ok:=fun _=>True) hsl (by omega)).mono ?_
   rintro e w' ⟨a',n',c',rfl,hrd,hB⟩
   obtain ⟨v,hv,hb,⟨xs,hown,_⟩,hnil⟩:=hrd
   obtain rfl:Value.slice a' n' c'=v:=by simpa using hv
   rcases hown.2 with ⟨e1,_⟩|⟨g,cap,cur,e1,_,hg,_,hm,hs,_⟩
   ·refine ⟨_,T0,rfl,hB,fun _ _=>rfl,fun b hb=>h2 b (by have:=hB.size;omega),#[_],rfl,rfl,fun i r u hr hu=>?_⟩
    cases i with
    |zero=>cases hr;cases hu;exact .inl ⟨rfl,none,e1⟩
    |succ i=>simp at hr
   ·have hg0:w.heap.size≤g:=hb g (by rw [e1];rfl)
    have hgl:g<w'.heap.size:=(Array.getElem?_eq_some_iff.1 hg).1
    refine ⟨_,fun b=>if b=g then .row (.part 0 0) else T0 b,rfl,hB,fun b hb=>if_neg (by omega),fun b hb=>?_,#[_],rfl,rfl,fun i r u hr hu=>?_⟩
    ·show (if b=g then _ else T0 b)=_
     rw [if_neg (by omega)];exact h2 b (by have:=hB.size;omega)
    ·cases i with
     |zero =>
      cases hr;cases hu
      exact .inr ⟨g,cap,cur,_,e1,if_pos rfl,hg,hs,Nat.zero_le _,hm,(fun e he=>by cases he),fun i e j x hi=>by simp at hi⟩
     |succ i=>simp at hr
end Go.Proofs.YtioijcfcehhmdaaGreatDoor

namespace Go.Proofs.YtioijcfcehhmdaaGreatDoor.V
theorem getD_lt {α:Type} {l:List α} {i:Nat} {d:α} (h:i<l.length):l.getD i d=l[i]:=by simp [List.getD_eq_getElem?_getD,List.getElem?_eq_getElem h]
end Go.Proofs.YtioijcfcehhmdaaGreatDoor.V

namespace Go.Proofs.YtioijcfcehhmdaaGreatDoor.V
def okW (l:List Wrt):Prop:=∀ w∈l,i64b w.volume=true∧i64b w.start=true
theorem cal38 {im:Img} {l:List Wrt} (hw:okW l) (hl:im.length≤1000000) (hr:∀ v∈im,v.length≤1000000):cal env 38 [.list 1 (im.map eSecs),.list 3 (l.map eWr)]=some [(.list 1 ((apO im l).map eSecs),false),(.int .i64 (apI im l),false),(.int .i64 (apE im l),false)] :=
 (cal_ext env38).trans (applyX_enc hw hl hr)
theorem szs_small {a b:Img} (h:szsOf a=szsOf b) (hl:b.length≤9) (hr:∀ v∈b,v.length≤24):a.length≤9∧∀ v∈a,v.length≤24:=by
 obtain ⟨h1,h2⟩:=sizes_inj (a:=a) (b:=b) h
 refine ⟨by omega,fun v hv=>?_⟩
 obtain ⟨i,hi,rfl⟩:=List.mem_iff_getElem.1 hv
 rw [h2 i hi (by omega)]
 exact hr _ (List.getElem_mem _)
theorem apE_szs {im:Img} {l:List Wrt} (h:apE im l=0):szErr (szsOf im)=0:=by
 unfold apE at h
 split at h
 ·rename_i h2;exact absurd h h2
 ·omega
end Go.Proofs.YtioijcfcehhmdaaGreatDoor.V

namespace Go.Proofs.YtioijcfcehhmdaaGreatDoor.V
end Go.Proofs.YtioijcfcehhmdaaGreatDoor.V

namespace Go.Proofs.YtioijcfcehhmdaaGreatDoor
end Go.Proofs.YtioijcfcehhmdaaGreatDoor

namespace Go.Proofs.YtioijcfcehhmdaaGreatDoor.V
def mk (f:Nat→Bool):List Bool:=(List.range 4096).map f
theorem inS_snoc (l:List Exn) (e:Exn) (s:Nat):inS (l++[e]) s=(inS l s || inE e s):=by simp [inS]
end Go.Proofs.YtioijcfcehhmdaaGreatDoor.V

namespace Go.Proofs.YtioijcfcehhmdaaGreatDoor.V
end Go.Proofs.YtioijcfcehhmdaaGreatDoor.V

namespace Go.Proofs.YtioijcfcehhmdaaGreatDoor.V
end Go.Proofs.YtioijcfcehhmdaaGreatDoor.V

namespace Go.Proofs.YtioijcfcehhmdaaGreatDoor.V
end Go.Proofs.YtioijcfcehhmdaaGreatDoor.V

namespace Go.Proofs.YtioijcfcehhmdaaGreatDoor.V
end Go.Proofs.YtioijcfcehhmdaaGreatDoor.V

namespace Go.Proofs.YtioijcfcehhmdaaGreatDoor.V
end Go.Proofs.YtioijcfcehhmdaaGreatDoor.V

namespace Go.Proofs.YtioijcfcehhmdaaGreatDoor.V
end Go.Proofs.YtioijcfcehhmdaaGreatDoor.V

namespace Go.Proofs.YtioijcfcehhmdaaGreatDoor.V
theorem inS_add {l:List Exn} {n:Nat} (h:∀ x∈l,0≤x.start∧1≤x.count∧x.start+x.count≤(n:Int)) (s:Nat):inS (addAt l n) s=(inS l s || decide (s=n)):=by
 rcases snoc_cases l with e|⟨pre,y,e⟩
 ·subst e
  show inS [⟨(n:Int),1⟩] s=_
  rw [Bool.eq_iff_iff]
  simp [inS,inE];omega
 ·subst e
  have hy:=h y (by simp)
  rw [addAt_snoc]
  split
  ·rw [inS_snoc,inS_snoc,Bool.or_assoc]
   congr 1
   rw [Bool.eq_iff_iff]
   simp [inE];omega
  ·rw [inS_snoc (pre++[y])]
   congr 1
   rw [Bool.eq_iff_iff]
   simp [inE];omega
theorem inS_ext (p:Nat→Bool) (s:Nat):∀ n,inS (ext p n) s=(decide (s<n)&&p s)
 |0=>by simp [ext_zero,inS]
 |n+1=>by
  rw [ext_succ]
  by_cases h:p n=true
  ·rw [if_pos h,inS_add (ext_in p n),inS_ext p s n]
   by_cases h2:s=n
   ·subst h2;rw [h];simp
   ·rw [decide_eq_false h2,Bool.or_false]
    congr 1
    rw [Bool.eq_iff_iff];simp;omega
  ·rw [if_neg h,inS_ext p s n]
   by_cases h2:s=n
   ·subst h2;simp [h]
   ·congr 1
    rw [Bool.eq_iff_iff];simp;omega
theorem okEs_ext (p:Nat→Bool) {n:Nat} (hn:n≤4096):okEs (ext p n):=fun x hx=>by
 have:=ext_in p n x hx
 exact ⟨by omega,by omega⟩
end Go.Proofs.YtioijcfcehhmdaaGreatDoor.V

namespace Go.Proofs.YtioijcfcehhmdaaGreatDoor.V
end Go.Proofs.YtioijcfcehhmdaaGreatDoor.V

namespace Go.Proofs.YtioijcfcehhmdaaGreatDoor.V
def getS (im:Img) (v s:Nat):Sec:=(im.getD v []).getD s zSec
def hit (w:Wrt) (v s:Nat):Bool:=decide (w.volume=(v:Int))&&(decide (w.start≤(s:Int))&&decide ((s:Int) - w.start<w.data.length))
def wantStep (v s:Nat) (x:Sec) (w:Wrt):Sec:=if hit w v s then w.data.getD ((s:Int) - w.start).toNat zSec else x
def wantOf (v s:Nat) (l:List Wrt) (x:Sec):Sec:=l.foldl (wantStep v s) x
theorem wrErr_facts {im:Img} {w:Wrt} (h:wrErr (szsOf im) w=0):0≤w.volume∧w.volume<(im.length:Int)∧0<w.data.length∧0≤w.start∧w.start+w.data.length≤((im.getD w.volume.toNat []).length:Int):=by
 unfold wrErr at h
 have hl:(szsOf im).length=im.length:=by simp [szsOf]
 rw [hl] at h
 split at h
 ·omega
 ·rename_i h1
  split at h
  ·omega
  ·rename_i h2
   split at h
   ·omega
   ·rename_i h3
    have h4:w.volume.toNat<im.length:=by omega
    have e:(szsOf im).getD w.volume.toNat 0=((im.getD w.volume.toNat []).length:Int):=by
     simp only [szsOf,List.getD_eq_getElem?_getD,List.getElem?_map,List.getElem?_eq_getElem h4,Option.map_some,Option.getD_some]
    rw [e] at h3
    exact ⟨by omega,by omega,by omega,by omega,by omega⟩
theorem putAt_get {l d:List Sec} {s k:Nat} (h:s+d.length≤l.length) (hk:k<l.length):(putAt l s d).getD k zSec=if s≤k∧k<s+d.length then d.getD (k - s) zSec else l.getD k zSec:=by
 have h1:(l.take s).length=s:=by rw [List.length_take];omega
 simp only [putAt,List.getD_eq_getElem?_getD]
 by_cases c1:k<s
 ·rw [List.append_assoc,List.getElem?_append_left (by omega),if_neg (by omega),List.getElem?_take_of_lt c1]
 ·by_cases c2:k<s+d.length
  ·rw [List.append_assoc,List.getElem?_append_right (by omega),h1,List.getElem?_append_left (by omega),if_pos (by omega)]
  ·rw [List.getElem?_append_right (by simp;omega),if_neg (by omega)]
   simp only [List.length_append,h1,List.getElem?_drop]
   congr 2;omega
theorem put1_get {im:Img} {w:Wrt} {v s:Nat} (h:wrErr (szsOf im) w=0) (hv:v<im.length) (hs:s<(im.getD v []).length):getS (put1 im w) v s=wantStep v s (getS im v s) w:=by
 obtain ⟨h1,h2,h3,h4,h5⟩:=wrErr_facts h
 unfold getS put1 wantStep hit
 by_cases e:w.volume.toNat=v
 ·subst e
  have:(im.set w.volume.toNat (putAt (im.getD w.volume.toNat []) w.start.toNat w.data)).getD w.volume.toNat []=putAt (im.getD w.volume.toNat []) w.start.toNat w.data:=by
   simp [List.getD_eq_getElem?_getD,List.getElem?_set,hv]
  rw [this,putAt_get (by omega) hs]
  have ev:decide (w.volume=((w.volume.toNat:Nat):Int))=true:=by simp;omega
  rw [ev,Bool.true_and]
  by_cases c:w.start.toNat≤s∧s<w.start.toNat+w.data.length
  ·rw [if_pos c,decide_eq_true (show w.start≤(s:Int) by omega),decide_eq_true (show (s:Int) - w.start<w.data.length by omega)]
   simp only [Bool.and_self,if_true]
   congr 1;omega
  ·rw [if_neg c]
   by_cases c1:w.start≤(s:Int)
   ·rw [decide_eq_true c1,decide_eq_false (show ¬ (s:Int) - w.start<w.data.length by omega)];rfl
   ·rw [decide_eq_false c1];rfl
 ·have:(im.set w.volume.toNat (putAt (im.getD w.volume.toNat []) w.start.toNat w.data)).getD v []=im.getD v []:=by
   simp [List.getD_eq_getElem?_getD,List.getElem?_set,e]
  rw [this,decide_eq_false (show ¬ w.volume=(v:Int) by omega)]
  rfl
theorem szs_getD {a b:Img} (h:szsOf a=szsOf b) (v:Nat):(a.getD v []).length=(b.getD v []).length∧a.length=b.length:=by
 obtain ⟨h1,h2⟩:=sizes_inj (a:=a) (b:=b) h
 refine ⟨?_,h1⟩
 by_cases hv:v<a.length
 ·rw [getD_lt hv,getD_lt (show v<b.length by omega)];exact h2 v hv (by omega)
 ·simp [List.getD_eq_getElem?_getD,List.getElem?_eq_none (show a.length≤v by omega),List.getElem?_eq_none (show b.length≤v by omega)]
theorem puts_get:∀ (l:List Wrt) (im:Img) (i:Nat),(wrErrs (szsOf im) l i).2=0→∀ {v s:Nat},v<im.length→s<(im.getD v []).length→getS (l.foldl put1 im) v s=wantOf v s l (getS im v s)
 |[],_,_,_,_,_,_,_=>rfl
 |w :: l,im,i,h,v,s,hv,hs=>by
  unfold wrErrs at h
  split at h
  ·rename_i h2;exact absurd h h2
  ·rename_i h2
   have h2:wrErr (szsOf im) w=0:=by omega
   have e:=wrErr_ok h2
   obtain ⟨q1,q2⟩:=szs_getD e v
   rw [List.foldl_cons,puts_get l (put1 im w) (i+1) (by rw [e];exact h) (by omega) (by omega),put1_get h2 hv hs]
   rfl
theorem all_fit:∀ (l:List Wrt) (im:Img) (i:Nat),(wrErrs (szsOf im) l i).2=0→∀ w∈l,wrErr (szsOf im) w=0
 |[],_,_,_,w,hw=>by cases hw
 |x :: l,im,i,h,w,hw=>by
  unfold wrErrs at h
  split at h
  ·rename_i h2;exact absurd h h2
  ·rename_i h2
   rcases List.mem_cons.1 hw with rfl|hw
   ·omega
   ·exact all_fit l im (i+1) h w hw
theorem want_none (v s:Nat):∀ (l:List Wrt) (x:Sec),(∀ w∈l,¬ hit w v s=true)→wantOf v s l x=x
 |[],_,_=>rfl
 |w :: l,x,h=>by
  show wantOf v s l (wantStep v s x w)=x
  have:wantStep v s x w=x:=by unfold wantStep;rw [if_neg (h w (by simp))]
  rw [this]
  exact want_none v s l x fun y hy=>h y (by simp [hy])
theorem dif_iff {a b:Img} (hs:imSizes a=imSizes b) {v s:Nat} (hv:v<a.length) (h:s<(a.getD v []).length):dif (a.getD v []) (b.getD v []) s=true ↔ getS a v s≠getS b v s:=by
 obtain ⟨g1,g2⟩:=szs_getD (show szsOf a=szsOf b from hs) v
 have h2:s<(b.getD v []).length:=by omega
 unfold dif getS
 rw [List.getElem?_eq_getElem h,List.getElem?_eq_getElem h2,getD_lt h,getD_lt h2]
 simp
theorem ext_cut {p:Nat→Bool} {n:Nat}:∀ k,(∀ s,n≤s→p s=false)→ext p (n+k)=ext p n
 |0,_=>rfl
 |k+1,h=>by
  rw [show n+(k+1)=n+k+1 by omega,ext_succ,h (n+k) (by omega)]
  exact ext_cut k h
theorem ext_cut' {p:Nat→Bool} {n m:Nat} (h:n≤m) (hp:∀ s,n≤s→p s=false):ext p m=ext p n:=by
 rw [show m=n+(m - n) by omega];exact ext_cut _ hp
end Go.Proofs.YtioijcfcehhmdaaGreatDoor.V

namespace Go.Proofs.YtioijcfcehhmdaaGreatDoor.V
theorem wds_nat {n:Int} (h:0≤n):((wdsN n).toNat:Int)=wdsN n:=by unfold wdsN;omega
def newE (n:Int):Int:=if n<0∨n > 4096 then 2 else 0
def newO (n:Int):Bm:=if n<0∨n > 4096 then ⟨0,[]⟩ else ⟨n,List.replicate (wdsN n).toNat 0⟩
theorem cal83 {n:Int}:cal env 83 [.int .i64 n]=some [(eBm (newO n),false),(.int .i64 (newE n),false)]:=by
 have hz:=eBm_zero
 unfold newE newO
 by_cases c0:n<0
 ·rw [if_pos (.inl c0),if_pos (.inl c0),hz]
  have F0:(n<0)=True:=eq_true c0
  rw [cal_code env83 rfl];simp only [fn83,slAll,Nat.reduceBEq,Nat.reduceLeDiff,Nat.reduceAdd,List.length_cons,List.length_nil]
  simp only [F0,slAll,slsAll,Nat.reduceMul,Nat.reduceBEq,Nat.reduceLT,Nat.reduceLeDiff,memAll,vAll,reduceCtorEq,Nat.reduceEqDiff,Nat.reduceAdd,Nat.reduceLT,Nat.reduceLeDiff,Nat.beq]
 ·have F0:(n<0)=False:=eq_false c0
  by_cases c1:n > 4096
  ·rw [if_pos (.inr c1),if_pos (.inr c1),hz]
   have F1:(n > 4096)=True:=eq_true c1
   rw [cal_code env83 rfl];simp only [fn83,slAll,Nat.reduceBEq,Nat.reduceLeDiff,Nat.reduceAdd,List.length_cons,List.length_nil]
   simp only [F0,F1,slAll,slsAll,Nat.reduceMul,Nat.reduceBEq,Nat.reduceLT,Nat.reduceLeDiff,memAll,vAll,reduceCtorEq,Nat.reduceEqDiff,Nat.reduceAdd,Nat.reduceLT,Nat.reduceLeDiff,Nat.beq]
  ·have F1:(n > 4096)=False:=eq_false c1
   rw [if_neg (by omega),if_neg (by omega)]
   have e1:=cal121 (n:=n) (by omega)
   have hw:0≤wdsN n∧wdsN n≤64:=by unfold wdsN;omega
   have F3:(0≤wdsN n)=True:=eq_true hw.1
   have F4:(wdsN n≤(lim:Int))=True:=eq_true (by unfold lim;omega)
   have F5:(wdsN n≤wdsN n)=True:=eq_true (Int.le_refl _)
   have z0:eW 0=.int .u64 0:=rfl
   unfold eBm
   rw [List.map_replicate,z0]
   rw [cal_code env83 rfl];simp only [fn83,slAll,Nat.reduceBEq,Nat.reduceLeDiff,Nat.reduceAdd,List.length_cons,List.length_nil]
   simp only [F0,F1,e1,F3,F4,F5,slAll,slsAll,Nat.reduceMul,Nat.reduceBEq,Nat.reduceLT,Nat.reduceLeDiff,memAll,vAll,reduceCtorEq,Nat.reduceEqDiff,Nat.reduceAdd,Nat.reduceLT,Nat.reduceLeDiff,Nat.beq]
def bmFit (size:Int) (e:Exn):Bool:=decide (0≤e.start)&&decide (0≤e.count)&&decide (e.start≤size)&&decide (e.count≤size - e.start)
theorem bmFit_iff {size:Int} {e:Exn}:bmFit size e=true ↔ 0≤e.start∧0≤e.count∧e.start≤size∧e.count≤size - e.start:=by
 unfold bmFit;simp [and_assoc]
theorem cal145 {size:Int} {e:Exn} (hs:0≤size∧size≤4096):cal env 145 [eExt e,.int .i64 size]=some [(.bool (bmFit size e),false)]:=by
 unfold bmFit eExt
 by_cases c0:0≤e.start
 ·have F0:(e.start ≥ 0)=True:=eq_true c0
  rw [decide_eq_true c0]
  by_cases c1:0≤e.count
  ·have F1:(e.count ≥ 0)=True:=eq_true c1
   rw [decide_eq_true c1]
   by_cases c2:e.start≤size
   ·have F2:(e.start≤size)=True:=eq_true c2
    have W:IntKind.i64.wrap (size - e.start)=size - e.start:=i64_fits (by omega)
    rw [decide_eq_true c2]
    rw [cal_code env145 rfl];simp only [fn145,slAll,Nat.reduceBEq,Nat.reduceLeDiff,Nat.reduceAdd,List.length_cons,List.length_nil]
    simp only [F0,F1,F2,W,slAll,slsAll,Nat.reduceMul,Nat.reduceBEq,Nat.reduceLT,Nat.reduceLeDiff,memAll,vAll,reduceCtorEq,Nat.reduceEqDiff,Nat.reduceAdd,Nat.reduceLT,Nat.reduceLeDiff,Nat.beq]
   ·have F2:(e.start≤size)=False:=eq_false c2
    rw [decide_eq_false c2]
    rw [cal_code env145 rfl];simp only [fn145,slAll,Nat.reduceBEq,Nat.reduceLeDiff,Nat.reduceAdd,List.length_cons,List.length_nil]
    simp only [F0,F1,F2,slAll,slsAll,Nat.reduceMul,Nat.reduceBEq,Nat.reduceLT,Nat.reduceLeDiff,memAll,vAll,reduceCtorEq,Nat.reduceEqDiff,Nat.reduceAdd,Nat.reduceLT,Nat.reduceLeDiff,Nat.beq]
  ·have F1:(e.count ≥ 0)=False:=eq_false c1
   rw [decide_eq_false c1]
   rw [cal_code env145 rfl];simp only [fn145,slAll,Nat.reduceBEq,Nat.reduceLeDiff,Nat.reduceAdd,List.length_cons,List.length_nil]
   simp only [F0,F1,slAll,slsAll,Nat.reduceMul,Nat.reduceBEq,Nat.reduceLT,Nat.reduceLeDiff,memAll,vAll,reduceCtorEq,Nat.reduceEqDiff,Nat.reduceAdd,Nat.reduceLT,Nat.reduceLeDiff,Nat.beq]
 ·have F0:(e.start ≥ 0)=False:=eq_false c0
  rw [decide_eq_false c0]
  rw [cal_code env145 rfl];simp only [fn145,slAll,Nat.reduceBEq,Nat.reduceLeDiff,Nat.reduceAdd,List.length_cons,List.length_nil]
  simp only [F0,slAll,slsAll,Nat.reduceMul,Nat.reduceBEq,Nat.reduceLT,Nat.reduceLeDiff,memAll,vAll,reduceCtorEq,Nat.reduceEqDiff,Nat.reduceAdd,Nat.reduceLT,Nat.reduceLeDiff,Nat.beq]
def chW (f:Wd→Wd→Wd) (ws:List Wd) (e:Exn):List Wd:=ws.mapIdx fun k w=>f w (maskW k e.start (e.start+e.count))
theorem chW_len (f:Wd→Wd→Wd) (ws:List Wd) (e:Exn):(chW f ws e).length=ws.length:=by simp [chW]
def chE (b:Bm) (e:Exn):Int:=if okB b=false then 3 else if bmFit b.size e=false then 2 else 0
def chO (f:Wd→Wd→Wd) (b:Bm) (e:Exn):Bm:=if chE b e=0 then ⟨b.size,chW f b.ws e⟩ else ⟨0,[]⟩
def mixR (a b:List Wd) (i:Nat):List PV:=(a.take i++b.drop i).map eW
theorem mixR_len {a b:List Wd} (h:a.length=b.length) (i:Nat):(mixR a b i).length=b.length:=by simp [mixR];omega
theorem mixR_get {a b:List Wd} (h:a.length=b.length) {i:Nat} (hi:i<b.length):(mixR a b i)[i]?=some (eW b[i]):=by
 unfold mixR
 rw [List.getElem?_map,List.getElem?_append_right (by simp;omega),List.length_take,Nat.min_eq_left (by omega),Nat.sub_self,List.getElem?_drop,Nat.add_zero,List.getElem?_eq_getElem hi]
 rfl
theorem mixR_set {a b:List Wd} (h:a.length=b.length) {i:Nat} (hi:i<a.length):(mixR a b i).set i (eW a[i])=mixR a b (i+1):=by
 unfold mixR
 rw [← List.map_set,List.set_append_right _ _ (by simp;omega),List.length_take,Nat.min_eq_left (by omega),Nat.sub_self,List.take_succ_eq_append_getElem hi,List.append_assoc]
 congr 2
 rw [List.drop_eq_getElem_cons (show i<b.length by omega)]
 rfl
theorem mixR_zero (a b:List Wd):mixR a b 0=b.map eW:=by simp [mixR]
theorem mixR_all {a b:List Wd} (h:a.length=b.length):mixR a b b.length=a.map eW:=by
 unfold mixR
 rw [List.take_of_length_le (by omega),List.drop_of_length_le (Nat.le_refl _),List.append_nil]
theorem chW_get {f:Wd→Wd→Wd} {ws:List Wd} {e:Exn} {i:Nat} (h:i<(chW f ws e).length) (h2:i<ws.length):(chW f ws e)[i]=f ws[i] (maskW i e.start (e.start+e.count)):=by
 simp [chW]
theorem cal146 {es:List PV} (hl:es.length≤lim):cal env 146 [.list 1 es]=some [(.list 1 es,true)]:=(cal_ext env146).trans (if_pos ⟨rfl,hl⟩)
set_option maxRecDepth 20000 in
theorem loop123 {b:Bm} {e:Exn} {f:Wd→Wd→Wd} {gf:Nat} (hf:∀ x y,cal env gf [eW x,eW y]=some [(eW (f x y),false)]) (hm:b.ws.length≤64) (he:0≤e.start∧e.start≤4096∧0≤e.count∧e.count≤4096) {st:St} (h:st.head [3,4,5,6,9,25,27,28] st.boxes.length=some ⟨sl 55 [(3,.pbox 0 0),(4,.pbox 1 0),(5,.pbox 2 0),(6,.pbox 3 0),(9,.row 1 (mixR (chW f b.ws e) b.ws ((0:Nat)))),(25,.any),(27,.pv (.int .i64 b.ws.length)),(28,.pv (.int .i64 (0:Nat)))],[⟨false,[.pv (.func gf [])]⟩,⟨false,[.pv (.int .i64 b.size),.pv (.list 1 (b.ws.map eW))]⟩,⟨false,[.pv (.int .i64 e.start),.pv (.int .i64 e.count)]⟩,⟨false,[.pv (.int .i64 0),.row 1 []]⟩],[],none⟩) :
  den env fn123_l1 st=some (.normal,⟨sl 55 [(4,.pbox 1 0),(6,.pbox 3 0),(7,.any),(9,.row 1 ((chW f b.ws e).map eW))],[⟨false,[.pv (.func gf [])]⟩,⟨false,[.pv (.int .i64 b.size),.pv (.list 1 (b.ws.map eW))]⟩,⟨false,[.pv (.int .i64 e.start),.pv (.int .i64 e.count)]⟩,⟨false,[.pv (.int .i64 0),.row 1 []]⟩],[],none⟩):=by
 unfold fn123_l1
 refine clean_up (env:=env) (nb:=4) (b.ws.length) (fun i=>⟨sl 55 [(3,.pbox 0 0),(4,.pbox 1 0),(5,.pbox 2 0),(6,.pbox 3 0),(9,.row 1 (mixR (chW f b.ws e) b.ws (i))),(25,.any),(27,.pv (.int .i64 b.ws.length)),(28,.pv (.int .i64 i))],[⟨false,[.pv (.func gf [])]⟩,⟨false,[.pv (.int .i64 b.size),.pv (.list 1 (b.ws.map eW))]⟩,⟨false,[.pv (.int .i64 e.start),.pv (.int .i64 e.count)]⟩,⟨false,[.pv (.int .i64 0),.row 1 []]⟩],[],none⟩) (fun i=>some (.normal,⟨sl 55 [(4,.pbox 1 0),(6,.pbox 3 0),(7,.any),(9,.row 1 ((chW f b.ws e).map eW))],[⟨false,[.pv (.func gf [])]⟩,⟨false,[.pv (.int .i64 b.size),.pv (.list 1 (b.ws.map eW))]⟩,⟨false,[.pv (.int .i64 e.start),.pv (.int .i64 e.count)]⟩,⟨false,[.pv (.int .i64 0),.row 1 []]⟩],[],none⟩)) h (fun _=>rfl) (fun _=>by simp only [slAll,slsAll,Nat.reduceMul,Nat.reduceBEq,Nat.reduceLT,Nat.reduceLeDiff,Nat.reduceAdd,decide_true,Bool.and_self,Bool.true_and]) ?_ ?_
 ·intro i rb hi ih
  have hi1:=i64_next hi (by unfold lim;omega)
  have F1:((i:Int)<(b.ws.length:Int))=True:=eq_true (by omega)
  have hcl:=chW_len f b.ws e
  have f1:=mixR_len hcl i
  have f2:=mixR_get hcl hi
  have f3:=mixR_set hcl (i:=i) (by omega)
  have e1:=hf b.ws[i] (maskW i e.start (e.start+e.count))
  rw [chW_get (by omega) hi] at f3
  have W:IntKind.i64.wrap (e.start+e.count)=e.start+e.count:=i64_fits (by omega)
  have e2:=cal147 (k:=i) (a:=e.start) (b:=e.start+e.count) (by omega) (by omega) (by omega)
  unfold eW at e1 e2 f2 f3 ih ⊢
  simp only [fn123_b0,F1,W,e1,e2,f1,f2,f3,index_nat hi,Option.map_some,List.length_map,slAll,slsAll,Nat.reduceMul,Nat.reduceBEq,Nat.reduceLT,Nat.reduceLeDiff,memAll,vAll,reduceCtorEq,Nat.reduceEqDiff,Nat.reduceAdd,Nat.reduceLT,Nat.reduceLeDiff,Nat.beq]
  rw [ih _ (by simp only [hi1,slAll,slsAll,Nat.reduceMul,Nat.reduceBEq,Nat.reduceLT,Nat.reduceLeDiff,memAll,vAll,reduceCtorEq,Nat.reduceEqDiff,Nat.reduceAdd,Nat.reduceLT,Nat.reduceLeDiff,Nat.beq]<;>rfl)]
 ·intro rb
  rw [mixR_all (chW_len f b.ws e)]
  simp only [fn123_b0,Int.lt_irrefl,slAll,slsAll,Nat.reduceMul,Nat.reduceBEq,Nat.reduceLT,Nat.reduceLeDiff,memAll,vAll,reduceCtorEq,Nat.reduceEqDiff,Nat.reduceAdd,Nat.reduceLT,Nat.reduceLeDiff,Nat.beq]
theorem cal123 {b:Bm} {e:Exn} {f:Wd→Wd→Wd} {gf:Nat} (hf:∀ x y,cal env gf [eW x,eW y]=some [(eW (f x y),false)]) :
  cal env 123 [.agg [.func gf []],eBm b,eExt e]=some [(eBm (chO f b e),false),(.int .i64 (chE b e),false)]:=by
 have P:∀ b:Bm,part [PV.int .i64 b.size,.list 1 (b.ws.map eW)] 0 (some 2)=some (eBm b):=fun _=>rfl
 have e1:=cal90 (b:=b)
 have Z0:((0:Int) != 0)=false:=rfl
 have Z3:((3:Int) != 0)=true:=rfl
 have hz:=eBm_zero
 have eA:eBm b=.agg [.int .i64 b.size,.list 1 (b.ws.map eW)]:=rfl
 have eX:eExt e=.agg [.int .i64 e.start,.int .i64 e.count]:=rfl
 unfold chO
 cases c1:okB b with
 |false =>
  have hE:chE b e=3:=by unfold chE;rw [if_pos c1]
  rw [hE,if_neg (by decide),hz]
  rw [bmE_no c1] at e1
  rw [eA] at e1 ⊢;rw [eX]
  rw [cal_code env123 rfl];simp only [fn123,slAll,Nat.reduceBEq,Nat.reduceLeDiff,Nat.reduceAdd,List.length_cons,List.length_nil]
  simp only [e1,Z3,part_more,part_succ,part_one,slAll,slsAll,Nat.reduceMul,Nat.reduceBEq,Nat.reduceLT,Nat.reduceLeDiff,memAll,vAll,reduceCtorEq,Nat.reduceEqDiff,Nat.reduceAdd,Nat.reduceLT,Nat.reduceLeDiff,Nat.beq]
 |true =>
  rw [bmE_ok c1] at e1
  have hsz:=okB_size c1
  have e2:=cal145 (size:=b.size) (e:=e) ⟨hsz.1,hsz.2.1⟩
  cases c2:bmFit b.size e with
  |false =>
   have hE:chE b e=2:=by unfold chE;rw [if_neg (by rw [c1];decide),if_pos c2]
   rw [hE,if_neg (by decide),hz]
   rw [c2] at e2
   rw [eA] at e1 ⊢;rw [eX] at e2 ⊢
   rw [cal_code env123 rfl];simp only [fn123,slAll,Nat.reduceBEq,Nat.reduceLeDiff,Nat.reduceAdd,List.length_cons,List.length_nil]
   simp only [e1,e2,Z0,slAll,slsAll,Nat.reduceMul,Nat.reduceBEq,Nat.reduceLT,Nat.reduceLeDiff,memAll,vAll,reduceCtorEq,Nat.reduceEqDiff,Nat.reduceAdd,Nat.reduceLT,Nat.reduceLeDiff,Nat.beq]
  |true =>
   have hE:chE b e=0:=by unfold chE;rw [if_neg (by rw [c1];decide),if_neg (by rw [c2];decide)]
   rw [hE,if_pos rfl]
   rw [c2] at e2
   have hfi:=bmFit_iff.1 c2
   have k1:=cal146 (es:=b.ws.map eW) (by rw [List.length_map];unfold lim;omega)
   rw [eA] at e1 ⊢;rw [eX] at e2 ⊢
   rw [cal_code env123 rfl];simp only [fn123,slAll,Nat.reduceBEq,Nat.reduceLeDiff,Nat.reduceAdd,List.length_cons,List.length_nil]
   simp only [e1,e2,k1,Z0,List.length_map,slAll,slsAll,Nat.reduceMul,Nat.reduceBEq,Nat.reduceLT,Nat.reduceLeDiff,memAll,vAll,reduceCtorEq,Nat.reduceEqDiff,Nat.reduceAdd,Nat.reduceLT,Nat.reduceLeDiff,Nat.beq]
   have q1:b.ws.length≤64:=by omega
   have q2:0≤e.start∧e.start≤4096∧0≤e.count∧e.count≤4096:=by omega
   rw [loop123 hf q1 q2]
   rotate_left
   ·rw [mixR_zero]
    simp only [slAll,slsAll,Nat.reduceMul,Nat.reduceBEq,Nat.reduceLT,Nat.reduceLeDiff,Nat.reduceAdd,decide_true,Bool.and_self,Bool.true_and]<;>rfl
   ·simp only [e1,e2,k1,Z0,List.length_map,slAll,slsAll,Nat.reduceMul,Nat.reduceBEq,Nat.reduceLT,Nat.reduceLeDiff,memAll,vAll,reduceCtorEq,Nat.reduceEqDiff,Nat.reduceAdd,Nat.reduceLT,Nat.reduceLeDiff,Nat.beq]
    rfl
theorem cal122 (x y:Wd):cal env 122 [eW x,eW y]=some [(eW (x ||| y),false)]:=by
 have W:=w_or x y
 unfold eW
 rw [cal_code env122 rfl];simp only [fn122];simp only [start,z_map_cons,z_map_nil,z_len_cons,z_len_nil,z_repl_zero,z_repl_succ,z_cons_app,z_nil_app,Nat.reduceAdd,Nat.reduceSub]
 simp only [W,memAll,vAll,reduceCtorEq,Nat.reduceEqDiff,Nat.reduceAdd,Nat.reduceLT,Nat.reduceLeDiff,Nat.beq]
theorem cal84 {b:Bm} {e:Exn}:cal env 84 [eBm b,eExt e]=some [(eBm (chO orW b e),false),(.int .i64 (chE b e),false)]:=by
 have e1:=cal123 (b:=b) (e:=e) (f:=orW) (gf:=122) cal122
 have eA:∀ a:Bm,eBm a=.agg [.int .i64 a.size,.list 1 (a.ws.map eW)]:=fun _=>rfl
 have eX:eExt e=.agg [.int .i64 e.start,.int .i64 e.count]:=rfl
 rw [eA,eA,eX] at e1 ⊢
 rw [cal_code env84 rfl];simp only [fn84];simp only [start,z_map_cons,z_map_nil,z_len_cons,z_len_nil,z_repl_zero,z_repl_succ,z_cons_app,z_nil_app,Nat.reduceAdd,Nat.reduceSub]
 simp only [e1,memAll,vAll,reduceCtorEq,Nat.reduceEqDiff,Nat.reduceAdd,Nat.reduceLT,Nat.reduceLeDiff,Nat.beq]
end Go.Proofs.YtioijcfcehhmdaaGreatDoor.V

namespace Go.Proofs.YtioijcfcehhmdaaGreatDoor.V
def frB (b:Bm) (l:List Exn):Bm:=l.foldl (fun b e=>chO orW b e) b
def frE:Bm→List Exn→Int
 |_,[]=>0
 |b,e :: l=>if chE b e=0 then frE (chO orW b e) l else chE b e
def fxE (n:Int) (l:List Exn):Int:=if newE n=0 then frE (newO n) l else newE n
def fxO (n:Int) (l:List Exn):Bm:=if fxE n l=0 then frB (newO n) l else ⟨0,[]⟩
theorem frE_step {b:Bm} {l:List Exn} {k:Nat} (h:k<l.length):frE (frB b (l.take k)) (l.drop k)=if chE (frB b (l.take k)) l[k]=0 then frE (frB b (l.take (k+1))) (l.drop (k+1)) else chE (frB b (l.take k)) l[k]:=by
 rw [List.drop_eq_getElem_cons h,frE]
 congr 2
 unfold frB
 rw [List.take_succ_eq_append_getElem h,List.foldl_append]
 rfl
def resFX (n:Nat) (b0:Bm) (l:List Exn) (e:Int):Option (Ex × St) :=
 if e=0 then some (.normal,⟨sl n [(4,.pbox 0 0),(5,.any),(6,.pbox 1 0)],[⟨false,[.pv (.int .i64 0),.row 1 []]⟩,⟨false,[.pv (.int .i64 (frB b0 l).size),.pv (.list 1 ((frB b0 l).ws.map eW))]⟩],[],none⟩)
 else some (.ret,⟨sl n [(4,.pbox 0 0),(5,.pv (.int .i64 e)),(6,.pbox 1 0)],[⟨false,[.pv (.int .i64 0),.pv (.list 1 [])]⟩,⟨false,[.pv (.int .i64 0),.pv (.list 1 [])]⟩],[],none⟩)
theorem loop35 {l:List Exn} {b0:Bm} (hl:l.length≤lim) {st:St} (h:st.head [1,4,6,19,20,21] st.boxes.length=some ⟨sl 37 [(1,.pv (.list 2 (l.map eExt))),(4,.pbox 0 0),(6,.pbox 1 0),(19,.pv (.list 2 (l.map eExt))),(20,.pv (.int .i64 l.length)),(21,.pv (.int .i64 (0:Nat)))],[⟨false,[.pv (.int .i64 0),.row 1 []]⟩,⟨false,[.pv (.int .i64 (frB b0 (l.take ((0:Nat)))).size),.pv (.list 1 ((frB b0 (l.take ((0:Nat)))).ws.map eW))]⟩],[],none⟩) :
  den env fn35_l1 st=resFX 37 b0 l (frE (frB b0 (l.take ((0:Nat)))) (l.drop ((0:Nat)))):=by
 unfold fn35_l1
 refine clean_up (env:=env) (nb:=2) (l.length) (fun i=>⟨sl 37 [(1,.pv (.list 2 (l.map eExt))),(4,.pbox 0 0),(6,.pbox 1 0),(19,.pv (.list 2 (l.map eExt))),(20,.pv (.int .i64 l.length)),(21,.pv (.int .i64 i))],[⟨false,[.pv (.int .i64 0),.row 1 []]⟩,⟨false,[.pv (.int .i64 (frB b0 (l.take (i))).size),.pv (.list 1 ((frB b0 (l.take (i))).ws.map eW))]⟩],[],none⟩) (fun i=>resFX 37 b0 l (frE (frB b0 (l.take (i))) (l.drop (i)))) h (fun _=>rfl) (fun _=>by simp only [slAll,slsAll,Nat.reduceMul,Nat.reduceBEq,Nat.reduceLT,Nat.reduceLeDiff,Nat.reduceAdd,decide_true,Bool.and_self,Bool.true_and]) ?_ ?_
 ·intro i rb hi ih
  have hi1:=i64_next hi hl
  have F1:((i:Int)<(l.length:Int))=True:=eq_true (by omega)
  have eA:∀ b:Bm,eBm b=.agg [.int .i64 b.size,.list 1 (b.ws.map eW)]:=fun _=>rfl
  have eX:∀ e:Exn,eExt e=.agg [.int .i64 e.start,.int .i64 e.count]:=fun _=>rfl
  have P2:∀ a b:PV,part [a,b] 0 (some 2)=some (.agg [a,b]):=fun _ _=>rfl
  have e2:=cal84 (b:=frB b0 (l.take i)) (e:=l[i])
  have hx:(l.map eExt)[i]?=some (eExt l[i]):=by rw [List.getElem?_map,List.getElem?_eq_getElem hi];rfl
  have hs:frB b0 (l.take (i+1))=chO orW (frB b0 (l.take i)) l[i]:=by unfold frB;rw [List.take_succ_eq_append_getElem hi,List.foldl_append];rfl
  rw [frE_step hi]
  by_cases c0:chE (frB b0 (l.take i)) l[i]=0
  ·have Z:((0:Int) != 0)=false:=rfl
   rw [if_pos c0]
   rw [c0,← hs] at e2
   generalize frB b0 (l.take i)=p at *
   generalize frB b0 (l.take (i+1))=q at *
   rw [eA,eA,eX] at e2
   rw [eX] at hx
   simp only [fn35_b0,F1,Z,hx,e2,P2,index_nat hi,List.length_map,slAll,slsAll,Nat.reduceMul,Nat.reduceBEq,Nat.reduceLT,Nat.reduceLeDiff,memAll,vAll,reduceCtorEq,Nat.reduceEqDiff,Nat.reduceAdd,Nat.reduceLT,Nat.reduceLeDiff,Nat.beq]
   rw [ih _ (by simp only [hi1,slAll,slsAll,Nat.reduceMul,Nat.reduceBEq,Nat.reduceLT,Nat.reduceLeDiff,memAll,vAll,reduceCtorEq,Nat.reduceEqDiff,Nat.reduceAdd,Nat.reduceLT,Nat.reduceLeDiff,Nat.beq]<;>rfl)]
  ·have Z:(chE (frB b0 (l.take i)) l[i] != 0)=true:=by simpa using c0
   rw [if_neg c0]
   unfold resFX
   rw [if_neg c0]
   have hz:chO orW (frB b0 (l.take i)) l[i]=⟨0,[]⟩:=by unfold chO;rw [if_neg c0]
   have hz2:eBm ⟨0,[]⟩=.agg [.int .i64 0,.list 1 []]:=rfl
   rw [hz,hz2] at e2
   generalize frB b0 (l.take i)=p at *
   rw [eA,eX] at e2
   rw [eX] at hx
   simp only [fn35_b0,F1,Z,hx,e2,P2,index_nat hi,List.length_map,slAll,slsAll,Nat.reduceMul,Nat.reduceBEq,Nat.reduceLT,Nat.reduceLeDiff,memAll,vAll,reduceCtorEq,Nat.reduceEqDiff,Nat.reduceAdd,Nat.reduceLT,Nat.reduceLeDiff,Nat.beq]
 ·intro rb
  unfold resFX
  rw [List.drop_length,List.take_length,frE,if_pos rfl]
  simp only [fn35_b0,Int.lt_irrefl,slAll,slsAll,Nat.reduceMul,Nat.reduceBEq,Nat.reduceLT,Nat.reduceLeDiff,memAll,vAll,reduceCtorEq,Nat.reduceEqDiff,Nat.reduceAdd,Nat.reduceLT,Nat.reduceLeDiff,Nat.beq]
theorem cal35 {l:List Exn} {n:Int} (hl:l.length≤lim):cal env 35 [.int .i64 n,.list 2 (l.map eExt)]=some [(eBm (fxO n l),false),(.int .i64 (fxE n l),false)]:=by
 have e0:=cal83 (n:=n)
 have eA:∀ b:Bm,eBm b=.agg [.int .i64 b.size,.list 1 (b.ws.map eW)]:=fun _=>rfl
 have hz2:eBm ⟨0,[]⟩=.agg [.int .i64 0,.list 1 []]:=rfl
 have P2:∀ a b:PV,part [a,b] 0 (some 2)=some (.agg [a,b]):=fun _ _=>rfl
 have Z:((0:Int) != 0)=false:=rfl
 by_cases c0:newE n=0
 ·have hE:fxE n l=frE (newO n) l:=by unfold fxE;rw [if_pos c0]
  unfold fxO
  rw [hE]
  rw [c0] at e0
  rw [eA] at e0
  generalize hb:newO n=b0 at *
  by_cases c1:frE b0 l=0
  ·rw [if_pos c1,c1,eA]
   rw [cal_code env35 rfl];simp only [fn35,slAll,Nat.reduceBEq,Nat.reduceLeDiff,Nat.reduceAdd,List.length_cons,List.length_nil]
   simp only [e0,Z,P2,List.length_map,slAll,slsAll,Nat.reduceMul,Nat.reduceBEq,Nat.reduceLT,Nat.reduceLeDiff,memAll,vAll,reduceCtorEq,Nat.reduceEqDiff,Nat.reduceAdd,Nat.reduceLT,Nat.reduceLeDiff,Nat.beq]
   rw [loop35 (l:=l) (b0:=b0) hl]
   rotate_left
   ·rw [List.take_zero]
    simp only [slAll,slsAll,Nat.reduceMul,Nat.reduceBEq,Nat.reduceLT,Nat.reduceLeDiff,Nat.reduceAdd,decide_true,Bool.and_self,Bool.true_and]<;>rfl
   ·rw [List.take_zero,List.drop_zero]
    unfold resFX
    rw [show frB b0 []=b0 from rfl,if_pos c1]
    simp only [e0,Z,P2,List.length_map,slAll,slsAll,Nat.reduceMul,Nat.reduceBEq,Nat.reduceLT,Nat.reduceLeDiff,memAll,vAll,reduceCtorEq,Nat.reduceEqDiff,Nat.reduceAdd,Nat.reduceLT,Nat.reduceLeDiff,Nat.beq]
  ·rw [if_neg c1,hz2]
   rw [cal_code env35 rfl];simp only [fn35,slAll,Nat.reduceBEq,Nat.reduceLeDiff,Nat.reduceAdd,List.length_cons,List.length_nil]
   simp only [e0,Z,P2,List.length_map,slAll,slsAll,Nat.reduceMul,Nat.reduceBEq,Nat.reduceLT,Nat.reduceLeDiff,memAll,vAll,reduceCtorEq,Nat.reduceEqDiff,Nat.reduceAdd,Nat.reduceLT,Nat.reduceLeDiff,Nat.beq]
   rw [loop35 (l:=l) (b0:=b0) hl]
   rotate_left
   ·rw [List.take_zero]
    simp only [slAll,slsAll,Nat.reduceMul,Nat.reduceBEq,Nat.reduceLT,Nat.reduceLeDiff,Nat.reduceAdd,decide_true,Bool.and_self,Bool.true_and]<;>rfl
   ·rw [List.take_zero,List.drop_zero]
    unfold resFX
    rw [show frB b0 []=b0 from rfl,if_neg c1]
    simp only [e0,Z,P2,List.length_map,slAll,slsAll,Nat.reduceMul,Nat.reduceBEq,Nat.reduceLT,Nat.reduceLeDiff,memAll,vAll,reduceCtorEq,Nat.reduceEqDiff,Nat.reduceAdd,Nat.reduceLT,Nat.reduceLeDiff,Nat.beq]
 ·have hE:fxE n l=newE n:=by unfold fxE;rw [if_neg c0]
  unfold fxO
  rw [hE,if_neg c0,hz2]
  have Zn:(newE n != 0)=true:=by simpa using c0
  rw [eA] at e0
  rw [cal_code env35 rfl];simp only [fn35,slAll,Nat.reduceBEq,Nat.reduceLeDiff,Nat.reduceAdd,List.length_cons,List.length_nil]
  simp only [e0,Zn,P2,List.length_map,slAll,slsAll,Nat.reduceMul,Nat.reduceBEq,Nat.reduceLT,Nat.reduceLeDiff,memAll,vAll,reduceCtorEq,Nat.reduceEqDiff,Nat.reduceAdd,Nat.reduceLT,Nat.reduceLeDiff,Nat.beq]
end Go.Proofs.YtioijcfcehhmdaaGreatDoor.V

namespace Go.Proofs.YtioijcfcehhmdaaGreatDoor.V
theorem new_ok {n:Nat} (h:n≤4096):newE (n:Int)=0∧okB (newO (n:Int))=true∧(newO (n:Int)).size=(n:Int)∧∀ s,bit (newO (n:Int)).ws s=false:=by
 have e1:newE (n:Int)=0:=by unfold newE;rw [if_neg (by omega)]
 have e2:newO (n:Int)=⟨n,List.replicate (wdsN n).toNat 0⟩:=by unfold newO;rw [if_neg (by omega)]
 have hb:∀ s,bit (List.replicate (wdsN n).toNat (0:Wd)) s=false:=fun s=>by
  unfold bit
  rw [List.getD_eq_getElem?_getD,List.getElem?_replicate]
  split<;>simp
 rw [e2]
 refine ⟨e1,okB_iff.2 ⟨⟨by show (0:Int)≤(n:Int);omega,by show (n:Int)≤4096;omega,?_⟩,fun i _=>hb i⟩,rfl,hb⟩
 show ((List.replicate (wdsN n).toNat (0:Wd)).length:Int)=wdsN n
 rw [List.length_replicate]
 exact wds_nat (by omega)
theorem chW_set (ws:List Wd) (e:Exn):chW orW ws e=setW ws e.start (e.start+e.count):=rfl
theorem set_ok {b:Bm} {e:Exn} (h:okB b=true) (hf:bmFit b.size e=true):chE b e=0∧okB (chO orW b e)=true∧(chO orW b e).size=b.size∧∀ s:Nat,(s:Int)<b.size→bit (chO orW b e).ws s=(bit b.ws s || decide (e.start≤(s:Int)∧(s:Int)<e.start+e.count)):=by
 have hE:chE b e=0:=by unfold chE;rw [if_neg (by rw [h];decide),if_neg (by rw [hf];decide)]
 have hO:chO orW b e=⟨b.size,setW b.ws e.start (e.start+e.count)⟩:=by unfold chO;rw [if_pos hE,chW_set]
 have hs:=okB_size h
 have hf:=bmFit_iff.1 hf
 rw [hO]
 have hl:(setW b.ws e.start (e.start+e.count)).length=b.ws.length:=by simp [setW]
 refine ⟨hE,okB_iff.2 ⟨⟨hs.1,hs.2.1,?_⟩,fun i hi=>?_⟩,rfl,fun s hlt=>bit_set (by omega)⟩
 ·show ((setW b.ws e.start (e.start+e.count)).length:Int)=_
  rw [hl];exact (okB_iff.1 h).1.2.2
 ·have hi:b.size≤(i:Int):=hi
  by_cases c:i<64 * b.ws.length
  ·show bit (setW b.ws e.start (e.start+e.count)) i=false
   rw [bit_set c,(okB_iff.1 h).2 i hi,decide_eq_false (by omega)]
   rfl
  ·exact bit_out (by show 64 * (setW b.ws e.start (e.start+e.count)).length≤i;rw [hl];omega)
end Go.Proofs.YtioijcfcehhmdaaGreatDoor.V

namespace Go.Proofs.YtioijcfcehhmdaaGreatDoor.V
theorem inE_fit {size:Int} {e:Exn} (h:bmFit size e=true) (s:Nat):inE e s=decide (e.start≤(s:Int)∧(s:Int)<e.start+e.count):=by
 have h:=bmFit_iff.1 h
 unfold inE
 rw [Bool.eq_iff_iff]
 simp only [Bool.and_eq_true,decide_eq_true_eq]
 omega
theorem fr_ok:∀ (l:List Exn) {b:Bm},okB b=true→(∀ e∈l,bmFit b.size e=true)→frE b l=0∧okB (frB b l)=true∧(frB b l).size=b.size∧∀ s:Nat,(s:Int)<b.size→bit (frB b l).ws s=(bit b.ws s || inS l s)
 |[],b,h,_=>⟨rfl,h,rfl,fun s _=>by simp [frB,inS]⟩
 |e :: l,b,h,hf=>by
  obtain ⟨k1,k2,k3,k4⟩:=set_ok h (hf e (by simp))
  obtain ⟨g1,g2,g3,g4⟩:=fr_ok l k2 (fun x hx=>by rw [k3];exact hf x (by simp [hx]))
  refine ⟨?_,g2,g3.trans k3,fun s hs=>?_⟩
  ·unfold frE
   rw [if_pos k1]
   exact g1
  ·have:=g4 s (by rw [k3];exact hs)
   show bit (frB (chO orW b e) l).ws s=_
   rw [this,k4 s hs,← inE_fit (hf e (by simp)) s,Bool.or_assoc]
   rfl
theorem fx_ok {n:Nat} {l:List Exn} (hn:n≤4096) (h:∀ e∈l,0≤e.start∧1≤e.count∧e.start+e.count≤(n:Int)):fxE n l=0∧fxO n l=frB (newO n) l∧okB (fxO n l)=true∧(fxO n l).size=(n:Int)∧∀ s:Nat,s<n→bit (fxO n l).ws s=inS l s:=by
 obtain ⟨h1,h2,h3,h4⟩:=new_ok hn
 obtain ⟨g1,g2,g3,g4⟩:=fr_ok l h2 (fun e he=>by
  obtain ⟨q1,q2,q3⟩:=h e he
  rw [h3]
  exact bmFit_iff.2 (by omega))
 have e1:fxE n l=0:=by unfold fxE;rw [if_pos h1];exact g1
 have e2:fxO n l=frB (newO n) l:=by unfold fxO;rw [if_pos e1]
 rw [e2]
 refine ⟨e1,rfl,g2,g3.trans h3,fun s hs=>?_⟩
 rw [g4 s (by rw [h3];omega),h4 s,Bool.false_or]
end Go.Proofs.YtioijcfcehhmdaaGreatDoor.V

namespace Go.Proofs.YtioijcfcehhmdaaGreatDoor.V
def few22 (l:List Wrt):Bool:=(l.take 60).all (fun w=>decide (w.data.length≤24))&&decide (l.length≤40)
theorem few22_len {l:List Wrt} (h:few22 l=true):l.length≤40∧∀ w∈l,w.data.length≤24:=by
 unfold few22 at h
 simp only [Bool.and_eq_true,decide_eq_true_eq] at h
 rw [List.take_of_length_le (by omega)] at h
 exact ⟨h.2,fun w hw=>by have:=List.all_eq_true.1 h.1 w hw;simpa using this⟩
theorem loop65 {l:List Wrt} {st:St} (h:st.head [0,3] st.boxes.length=some ⟨[.pv (.list 3 (l.map eWr)),.any,.any,.pv (.int .i64 (0:Nat)),.any,.any,.any,.any,.any,.any,.any,.any,.any,.any,.any,.any,.any,.any,.any,.any,.any,.any,.any,.any],[],[],none⟩) :
  den env fn65_l1 st=if (l.take 60).all (fun w=>decide (w.data.length≤24)) then some (.normal,⟨[.pv (.list 3 (l.map eWr)),.any,.any,.any,.any,.any,.any,.any,.any,.any,.any,.any,.any,.any,.any,.any,.any,.any,.any,.any,.any,.any,.any,.any],[],[],none⟩) else some (.ret,⟨[.pv (.list 3 (l.map eWr)),.any,.pv (.bool false),.any,.any,.any,.any,.any,.any,.any,.any,.any,.any,.any,.any,.any,.any,.any,.any,.any,.any,.any,.any,.any],[],[],none⟩):=by
 unfold fn65_l1
 rw [ clean_up (env:=env) ((l.take 60).length) (fun i=>⟨[.pv (.list 3 (l.map eWr)),.any,.any,.pv (.int .i64 i),.any,.any,.any,.any,.any,.any,.any,.any,.any,.any,.any,.any,.any,.any,.any,.any,.any,.any,.any,.any],[],[],none⟩) (fun i=>if ((l.take 60).drop i).all (fun w=>decide (w.data.length≤24)) then some (.normal,⟨[.pv (.list 3 (l.map eWr)),.any,.any,.any,.any,.any,.any,.any,.any,.any,.any,.any,.any,.any,.any,.any,.any,.any,.any,.any,.any,.any,.any,.any],[],[],none⟩) else some (.ret,⟨[.pv (.list 3 (l.map eWr)),.any,.pv (.bool false),.any,.any,.any,.any,.any,.any,.any,.any,.any,.any,.any,.any,.any,.any,.any,.any,.any,.any,.any,.any,.any],[],[],none⟩)) h (fun _=>rfl) (fun _=>rfl) ?_ ?_]
 ·first|rfl|simp only [List.drop_zero,List.take_zero,List.map_nil,Nat.zero_add,List.nil_append,List.foldl_nil]
 ·intro i rb hi ih
  have hlim:lim=1073741824:=rfl
  have hi60:i<60:=by rw [List.length_take] at hi;omega
  have hil:i<l.length:=by rw [List.length_take] at hi;omega
  have hi1:=i64_next (show i<i+1 by omega) (by omega)
  have F1:((i:Int)<(l.length:Int))=True:=eq_true (by omega)
  have F2:((i:Int)<60)=True:=eq_true (by omega)
  rw [List.drop_eq_getElem_cons hi,List.all_cons]
  have hx:l[i]?=some (l.take 60)[i]:=by rw [List.getElem_take];exact List.getElem?_eq_getElem hil
  generalize (l.take 60)[i]=w at *
  simp only [fn65_b0,F1,F2,hx,eWr,index_nat hil,List.getElem?_map,Option.map_some,List.length_map,memAll,vAll,reduceCtorEq,Nat.reduceEqDiff,Nat.reduceAdd,Nat.reduceLT,Nat.reduceLeDiff,Nat.beq]
  (try simp only [bcase_bind,bcase_map,tail_bcase]);refine bcase_split (fun hb=>?_) (fun hb=>?_)<;>try simp only [hb, memAll,vAll,reduceCtorEq,Nat.reduceEqDiff,Nat.reduceAdd,Nat.reduceLT,Nat.reduceLeDiff,Nat.beq]
  ·rw [decide_eq_false (by simp at hb;omega)];rfl
  ·rw [ih _ (by simp only [hi1];rfl),decide_eq_true (show w.data.length≤24 by simp at hb;omega),Bool.true_and]
 ·intro rb
  rw [List.drop_length]
  by_cases c:l.length<60
  ·have hn:(l.take 60).length=l.length:=by rw [List.length_take];omega
   rw [hn]
   simp only [fn65_b0,Int.lt_irrefl, memAll,vAll,reduceCtorEq,Nat.reduceEqDiff,Nat.reduceAdd,Nat.reduceLT,Nat.reduceLeDiff,Nat.beq]
   rfl
  ·have hn:(l.take 60).length=60:=by rw [List.length_take];omega
   rw [hn]
   by_cases c2:l.length=60
   ·have F1:(((60:Nat):Int)<(l.length:Int))=False:=eq_false (by omega)
    simp only [fn65_b0,F1,List.length_map,memAll,vAll,reduceCtorEq,Nat.reduceEqDiff,Nat.reduceAdd,Nat.reduceLT,Nat.reduceLeDiff,Nat.beq]
    rfl
   ·have F1:(((60:Nat):Int)<(l.length:Int))=True:=eq_true (by omega)
    have F2:(((60:Nat):Int)<60)=False:=eq_false (by omega)
    simp only [fn65_b0,F1,F2,List.length_map,memAll,vAll,reduceCtorEq,Nat.reduceEqDiff,Nat.reduceAdd,Nat.reduceLT,Nat.reduceLeDiff,Nat.beq]
    rfl
theorem cal65 {l:List Wrt}:cal env 65 [.list 3 (l.map eWr)]=some [(.bool (few22 l),false)]:=by
 rw [cal_code env65 rfl];simp only [fn65];simp only [start,z_map_cons,z_map_nil,z_len_cons,z_len_nil,z_repl_zero,z_repl_succ,z_cons_app,z_nil_app,Nat.reduceAdd,Nat.reduceSub]
 simp only [ memAll,vAll,reduceCtorEq,Nat.reduceEqDiff,Nat.reduceAdd,Nat.reduceLT,Nat.reduceLeDiff,Nat.beq]
 rw [loop65 (l:=l)]
 rotate_left
 ·rfl
 unfold few22
 have F1:decide ((l.length:Int)≤40)=decide (l.length≤40):=decide_eq_decide.2 (by omega)
 cases (l.take 60).all (fun w=>decide (w.data.length≤24))<;>simp only [F1,if_true,if_false,Bool.false_eq_true,memAll,vAll,reduceCtorEq,Nat.reduceEqDiff,Nat.reduceAdd,Nat.reduceLT,Nat.reduceLeDiff,Nat.beq]
end Go.Proofs.YtioijcfcehhmdaaGreatDoor.V

namespace Go.Proofs.YtioijcfcehhmdaaGreatDoor.V
structure Outg where
 im:Img
 o:List Wrt
 n:List Wrt
 rs:List (List Wrt)
def eWrs (l:List Wrt):PV:=.list 3 (l.map eWr)
theorem eWrs_eq (l:List Wrt):eWrs l=.list 3 (l.map eWr):=rfl
theorem eWrs_at {l:List (List Wrt)} {i:Nat} (h:i<l.length):(l.map eWrs)[i]?=some (.list 3 (l[i].map eWr)):=by rw [List.getElem?_map,List.getElem?_eq_getElem h];rfl
theorem eWr_at8 {l:List Wrt} {i:Nat} (h:i<l.length):(l.map eWr)[i]?=some (.agg [.int .i64 l[i].volume,.int .i64 l[i].start,.list 8 (l[i].data.map eSec)]):=by rw [List.getElem?_map,List.getElem?_eq_getElem h];rfl
theorem eI_at {l:List Int} {i:Nat} (h:i<l.length):(l.map eI)[i]?=some (.int .i64 l[i]):=by rw [List.getElem?_map,List.getElem?_eq_getElem h];rfl
theorem eImg_at8 {im:Img} {v:Nat} (h:v<im.length):(im.map eSecs)[v]?=some (.list 8 (im[v].map eSec)):=by rw [List.getElem?_map,List.getElem?_eq_getElem h];rfl
def eOut (x:Outg):PV:=.agg [.list 1 (x.im.map eSecs),.list 3 (x.o.map eWr),.list 3 (x.n.map eWr),.list 1 (x.rs.map eWrs)]
theorem eOut_eq (x:Outg):eOut x=.agg [.list 1 (x.im.map eSecs),.list 3 (x.o.map eWr),.list 3 (x.n.map eWr),.list 1 (x.rs.map eWrs)]:=rfl
def bOut (x:Outg):List BV:=[.pv (.list 1 (x.im.map eSecs)),.pv (.list 3 (x.o.map eWr)),.pv (.list 3 (x.n.map eWr)),.pv (.list 1 (x.rs.map eWrs))]
theorem bOut_eq (x:Outg):bOut x=[.pv (.list 1 (x.im.map eSecs)),.pv (.list 3 (x.o.map eWr)),.pv (.list 3 (x.n.map eWr)),.pv (.list 1 (x.rs.map eWrs))]:=rfl
theorem imSizes_snoc {im:Img} {i:Nat} (h:i<im.length):((imSizes im).take (i+1)).map eI=((imSizes im).take i).map eI++[.int .i64 (im[i].length:Int)]:=by
 have hi:i<(imSizes im).length:=by simpa [imSizes] using h
 rw [List.take_succ_eq_append_getElem hi,List.map_append]
 simp [imSizes,eI]
theorem loop40 {x:Outg} (hi0:x.im.length≤lim) {st:St} (h:st.head [3,7,8,9,17] st.boxes.length=some ⟨sl 20 [(3,.row 1 (((imSizes x.im).take ((0:Nat))).map eI)),(7,.pv (.list 1 (x.im.map eSecs))),(8,.pv (.int .i64 x.im.length)),(9,.pv (.int .i64 (0:Nat))),(17,.any)],[⟨false,bOut x⟩],[],none⟩) :
  den env fn40_l1 st=some (.normal,⟨sl 20 [(2,.any),(3,.row 1 ((imSizes x.im).map eI))],[⟨false,bOut x⟩],[],none⟩):=by
 unfold fn40_l1
 refine clean_up (env:=env) (nb:=1) (x.im.length) (fun i=>⟨sl 20 [(3,.row 1 (((imSizes x.im).take (i)).map eI)),(7,.pv (.list 1 (x.im.map eSecs))),(8,.pv (.int .i64 x.im.length)),(9,.pv (.int .i64 i)),(17,.any)],[⟨false,bOut x⟩],[],none⟩) (fun i=>some (.normal,⟨sl 20 [(2,.any),(3,.row 1 ((imSizes x.im).map eI))],[⟨false,bOut x⟩],[],none⟩)) h (fun _=>rfl) (fun _=>by simp only [slAll,slsAll,Nat.reduceMul,Nat.reduceBEq,Nat.reduceLT,Nat.reduceLeDiff,Nat.reduceAdd,decide_true,Bool.and_self,Bool.true_and]) ?_ ?_
 ·intro i rb hi ih
  have hi1:=i64_next hi hi0
  have F1:((i:Int)<(x.im.length:Int))=True:=eq_true (by omega)
  have hy:=eImg_at8 hi
  have e5:=imSizes_snoc hi
  have F2:(((imSizes x.im).take i).map eI).length+1≤lim:=by simp [imSizes];omega
  have F2:=eq_true F2
  rw [List.length_map] at F2
  simp only [fn40_b0,F1,F2,hy,bOut_eq,index_nat hi,List.length_map,slAll,slsAll,Nat.reduceMul,Nat.reduceBEq,Nat.reduceLT,Nat.reduceLeDiff,memAll,vAll,reduceCtorEq,Nat.reduceEqDiff,Nat.reduceAdd,Nat.reduceLT,Nat.reduceLeDiff,Nat.beq]
  rw [ih _ (by simp only [hi1];rw [e5];simp only [bOut_eq,slAll,slsAll,Nat.reduceMul,Nat.reduceBEq,Nat.reduceLT,Nat.reduceLeDiff,memAll,vAll,reduceCtorEq,Nat.reduceEqDiff,Nat.reduceAdd,Nat.reduceLT,Nat.reduceLeDiff,Nat.beq]<;>rfl)]
  all_goals rfl
 ·intro rb
  have e9:(imSizes x.im).take x.im.length=imSizes x.im:=List.take_of_length_le (by simp [imSizes])
  rw [e9]
  simp only [fn40_b0,Int.lt_irrefl,bOut_eq,List.length_map,slAll,slsAll,Nat.reduceMul,Nat.reduceBEq,Nat.reduceLT,Nat.reduceLeDiff,memAll,vAll,reduceCtorEq,Nat.reduceEqDiff,Nat.reduceAdd,Nat.reduceLT,Nat.reduceLeDiff,Nat.beq]
theorem cal40 {x:Outg} (hi0:x.im.length≤lim):cal env 40 [eOut x]=some [(.list 1 ((imSizes x.im).map eI),true)]:=by
 rw [eOut_eq]
 rw [cal_code env40 rfl];simp only [fn40,slAll,Nat.reduceBEq,Nat.reduceLeDiff,Nat.reduceAdd,List.length_cons,List.length_nil]
 simp only [List.length_map,slAll,slsAll,Nat.reduceMul,Nat.reduceBEq,Nat.reduceLT,Nat.reduceLeDiff,memAll,vAll,reduceCtorEq,Nat.reduceEqDiff,Nat.reduceAdd,Nat.reduceLT,Nat.reduceLeDiff,Nat.beq]
 rw [loop40 (x:=x) hi0 (by simp only [List.take_zero,List.map_nil,bOut_eq];simp only [slAll,slsAll,Nat.reduceMul,Nat.reduceBEq,Nat.reduceLT,Nat.reduceLeDiff,Nat.reduceAdd,decide_true,Bool.and_self,Bool.true_and]<;>rfl)]
 simp only [bOut_eq,slAll,slsAll,Nat.reduceMul,Nat.reduceBEq,Nat.reduceLT,Nat.reduceLeDiff,memAll,vAll,reduceCtorEq,Nat.reduceEqDiff,Nat.reduceAdd,Nat.reduceLT,Nat.reduceLeDiff,Nat.beq]
def rgtL (im:Img) (l:List (List Wrt)):Bool:=l.all fun w=>decide (apE im w=0)&&few22 w
def rgtX (x:Outg):Bool:=few7 x.im&&(decide (x.rs.length≤8)&&rgtL x.im (x.o :: x.n :: x.rs))
theorem rgtL_step {im:Img} {l:List (List Wrt)} {i:Nat} (h:i<l.length):rgtL im (l.drop i)=((decide (apE im l[i]=0)&&few22 l[i])&&rgtL im (l.drop (i+1))):=by
 unfold rgtL
 rw [List.drop_eq_getElem_cons h,List.all_cons]
def resR (x:Outg) (b:Bool):Option (Ex × St):=if b then some (.normal,⟨sl 49 [(2,.any)],[⟨false,bOut x⟩],[],none⟩) else some (.ret,⟨sl 49 [(2,.pv (.bool false))],[⟨false,bOut x⟩],[],none⟩)
def okO (x:Outg):Prop:=okW x.o∧okW x.n∧∀ l∈x.rs,okW l
theorem okO_all {x:Outg} (h:okO x):∀ l∈x.o :: x.n :: x.rs,okW l:=fun l hl=>by
 rcases List.mem_cons.1 hl with rfl|hl
 ·exact h.1
 ·rcases List.mem_cons.1 hl with rfl|hl
  ·exact h.2.1
  ·exact h.2.2 l hl
theorem loop22 {x:Outg} {L:List (List Wrt)} (ho:∀ l∈L,okW l) (hL:L.length≤lim) (hi0:x.im.length≤1000000) (hr:∀ v∈x.im,v.length≤1000000) {st:St} (h:st.head [1,3,16,27,28,29] st.boxes.length=some ⟨sl 49 [(1,.pbox 0 0),(3,.row 1 (L.map eWrs)),(16,.any),(27,.ref (.slot 3) 0 L.length),(28,.pv (.int .i64 L.length)),(29,.pv (.int .i64 (0:Nat)))],[⟨false,bOut x⟩],[],none⟩) :
  den env fn22_l1 st=resR x (rgtL x.im (L.drop ((0:Nat)))):=by
 unfold fn22_l1
 refine clean_up (env:=env) (nb:=1) (L.length) (fun i=>⟨sl 49 [(1,.pbox 0 0),(3,.row 1 (L.map eWrs)),(16,.any),(27,.ref (.slot 3) 0 L.length),(28,.pv (.int .i64 L.length)),(29,.pv (.int .i64 i))],[⟨false,bOut x⟩],[],none⟩) (fun i=>resR x (rgtL x.im (L.drop (i)))) h (fun _=>rfl) (fun _=>by simp only [slAll,slsAll,Nat.reduceMul,Nat.reduceBEq,Nat.reduceLT,Nat.reduceLeDiff,Nat.reduceAdd,decide_true,Bool.and_self,Bool.true_and]) ?_ ?_
 ·intro i rb hi ih
  have hi1:=i64_next hi hL
  have F1:((i:Int)<(L.length:Int))=True:=eq_true (by omega)
  have hy:=eWrs_at hi
  have e1:=cal38 (im:=x.im) (l:=L[i]) (ho _ (List.getElem_mem hi)) hi0 hr
  have e2:=cal65 (l:=L[i])
  rw [rgtL_step hi]
  by_cases c1:apE x.im L[i]=0
  ·have Z0:((0:Int) != 0)=false:=rfl
   rw [c1] at e1
   rw [decide_eq_true c1,Bool.true_and]
   cases c2:few22 L[i] with
   |true =>
    rw [c2] at e2
    rw [Bool.true_and]
    simp only [fn22_b0,F1,hy,e1,e2,Z0,bOut_eq,index_nat hi,List.length_map,slAll,slsAll,Nat.reduceMul,Nat.reduceBEq,Nat.reduceLT,Nat.reduceLeDiff,memAll,vAll,reduceCtorEq,Nat.reduceEqDiff,Nat.reduceAdd,Nat.reduceLT,Nat.reduceLeDiff,Nat.beq]
    rw [ih _ (by simp only [hi1,bOut_eq,slAll,slsAll,Nat.reduceMul,Nat.reduceBEq,Nat.reduceLT,Nat.reduceLeDiff,memAll,vAll,reduceCtorEq,Nat.reduceEqDiff,Nat.reduceAdd,Nat.reduceLT,Nat.reduceLeDiff,Nat.beq]<;>rfl)]
    all_goals rfl
   |false =>
    rw [c2] at e2
    rw [Bool.false_and]
    unfold resR
    rw [if_neg (by decide)]
    simp only [fn22_b0,F1,hy,e1,e2,Z0,bOut_eq,index_nat hi,List.length_map,slAll,slsAll,Nat.reduceMul,Nat.reduceBEq,Nat.reduceLT,Nat.reduceLeDiff,memAll,vAll,reduceCtorEq,Nat.reduceEqDiff,Nat.reduceAdd,Nat.reduceLT,Nat.reduceLeDiff,Nat.beq]
  ·have Z:(apE x.im L[i] != 0)=true:=by simp [c1]
   rw [decide_eq_false c1,Bool.false_and,Bool.false_and]
   unfold resR
   rw [if_neg (by decide)]
   simp only [fn22_b0,F1,hy,e1,e2,Z,bOut_eq,index_nat hi,List.length_map,slAll,slsAll,Nat.reduceMul,Nat.reduceBEq,Nat.reduceLT,Nat.reduceLeDiff,memAll,vAll,reduceCtorEq,Nat.reduceEqDiff,Nat.reduceAdd,Nat.reduceLT,Nat.reduceLeDiff,Nat.beq]
 ·intro rb
  rw [List.drop_length]
  unfold rgtL resR
  rw [List.all_nil,if_pos rfl]
  simp only [fn22_b0,Int.lt_irrefl,bOut_eq,List.length_map,slAll,slsAll,Nat.reduceMul,Nat.reduceBEq,Nat.reduceLT,Nat.reduceLeDiff,memAll,vAll,reduceCtorEq,Nat.reduceEqDiff,Nat.reduceAdd,Nat.reduceLT,Nat.reduceLeDiff,Nat.beq]
theorem few7_b8 {im:Img} (h:few7 im=true):im.length≤9∧∀ v∈im,v.length≤24:=by
 unfold few7 at h
 simp only [Bool.and_eq_true,decide_eq_true_eq] at h
 exact ⟨h.1,fun v hv=>by simpa using List.all_eq_true.1 h.2 v hv⟩
theorem cal22 {x:Outg} (ho:okO x) (hlim0:x.rs.length+2≤limB):cal env 22 [eOut x]=some [(.bool (rgtX x),false)]:=by
 have hlim:lim=1073741824:=rfl
 have e0:=cal42 (im:=x.im)
 have F0:=eq_true (show 2+x.rs.length≤limB by omega)
 unfold rgtX
 rw [eOut_eq]
 cases h7:few7 x.im with
 |false =>
  rw [h7] at e0
  rw [cal_code env22 rfl];simp only [fn22,slAll,Nat.reduceBEq,Nat.reduceLeDiff,Nat.reduceAdd,List.length_cons,List.length_nil]
  simp only [e0,F0,List.length_map,List.length_cons,List.length_nil,Nat.reduceAdd,slAll,slsAll,Nat.reduceMul,Nat.reduceBEq,Nat.reduceLT,Nat.reduceLeDiff,memAll,vAll,reduceCtorEq,Nat.reduceEqDiff,Nat.reduceAdd,Nat.reduceLT,Nat.reduceLeDiff,Nat.beq]
 |true =>
  rw [h7] at e0
  obtain ⟨a1,a2⟩:=few7_b8 h7
  by_cases c:x.rs.length≤8
  ·have F1:((x.rs.length:Int) > 8)=False:=eq_false (by omega)
   rw [decide_eq_true c]
   simp only [Bool.true_and]
   rw [cal_code env22 rfl];simp only [fn22,slAll,Nat.reduceBEq,Nat.reduceLeDiff,Nat.reduceAdd,List.length_cons,List.length_nil]
   simp only [e0,F0,F1,List.length_map,List.length_cons,List.length_nil,Nat.reduceAdd,slAll,slsAll,Nat.reduceMul,Nat.reduceBEq,Nat.reduceLT,Nat.reduceLeDiff,memAll,vAll,reduceCtorEq,Nat.reduceEqDiff,Nat.reduceAdd,Nat.reduceLT,Nat.reduceLeDiff,Nat.beq]
   rw [loop22 (x:=x) (L:=x.o :: x.n :: x.rs) (okO_all ho) (by simp;omega) (by omega) (fun v hv=>by have:=a2 v hv;omega) (by simp only [bOut_eq,List.map_cons,List.length_cons,List.length_map,eWrs_eq];simp only [slAll,slsAll,Nat.reduceMul,Nat.reduceBEq,Nat.reduceLT,Nat.reduceLeDiff,Nat.reduceAdd,decide_true,Bool.and_self,Bool.true_and]<;>rfl)]
   rw [List.drop_zero]
   unfold resR
   cases rgtL x.im (x.o :: x.n :: x.rs) with
   |true=>rw [if_pos rfl];simp only [bOut_eq,slAll,slsAll,Nat.reduceMul,Nat.reduceBEq,Nat.reduceLT,Nat.reduceLeDiff,memAll,vAll,reduceCtorEq,Nat.reduceEqDiff,Nat.reduceAdd,Nat.reduceLT,Nat.reduceLeDiff,Nat.beq]
   |false=>rw [if_neg (by decide)];simp only [bOut_eq,slAll,slsAll,Nat.reduceMul,Nat.reduceBEq,Nat.reduceLT,Nat.reduceLeDiff,memAll,vAll,reduceCtorEq,Nat.reduceEqDiff,Nat.reduceAdd,Nat.reduceLT,Nat.reduceLeDiff,Nat.beq]
  ·have F1:((x.rs.length:Int) > 8)=True:=eq_true (by omega)
   rw [decide_eq_false c]
   rw [cal_code env22 rfl];simp only [fn22,slAll,Nat.reduceBEq,Nat.reduceLeDiff,Nat.reduceAdd,List.length_cons,List.length_nil]
   simp only [e0,F0,F1,List.length_map,List.length_cons,List.length_nil,Nat.reduceAdd,slAll,slsAll,Nat.reduceMul,Nat.reduceBEq,Nat.reduceLT,Nat.reduceLeDiff,memAll,vAll,reduceCtorEq,Nat.reduceEqDiff,Nat.reduceAdd,Nat.reduceLT,Nat.reduceLeDiff,Nat.beq]
end Go.Proofs.YtioijcfcehhmdaaGreatDoor.V

namespace Go.Proofs.YtioijcfcehhmdaaGreatDoor.V
def wX8 (w:Wrt):Exn:=⟨w.start,w.data.length⟩
def ofV (v:Nat) (l:List Wrt):List Exn:=(l.filter fun w=>decide (w.volume=(v:Int))).map wX8
theorem ofV_yes {v:Nat} {l:List Wrt} {i:Nat} (h:i<l.length) (c:l[i].volume=(v:Int)):ofV v (l.take (i+1))=ofV v (l.take i)++[wX8 l[i]]:=by
 unfold ofV
 rw [List.take_succ_eq_append_getElem h,List.filter_append,List.map_append,List.filter_cons_of_pos (by simpa using c)]
 rfl
theorem ofV_no {v:Nat} {l:List Wrt} {i:Nat} (h:i<l.length) (c:¬ l[i].volume=(v:Int)):ofV v (l.take (i+1))=ofV v (l.take i):=by
 unfold ofV
 rw [List.take_succ_eq_append_getElem h,List.filter_append,List.map_append,List.filter_cons_of_neg (by simpa using c)]
 simp
theorem ofV_len (v:Nat) (l:List Wrt):(ofV v l).length≤l.length:=by
 unfold ofV;rw [List.length_map];exact List.length_filter_le ..
theorem ofV_app (v:Nat) (a b:List Wrt):ofV v (a++b)=ofV v a++ofV v b:=by
 unfold ofV;rw [List.filter_append,List.map_append]
def fitW (im:Img) (l:List Wrt):Prop:=∀ w∈l,wrErr (szsOf im) w=0
theorem ofV_fit {im:Img} {l:List Wrt} (h:fitW im l) {v:Nat}:∀ e∈ofV v l,0≤e.start∧1≤e.count∧e.start+e.count≤((im.getD v []).length:Int):=fun e he=>by
 unfold ofV at he
 obtain ⟨w,hw,rfl⟩:=List.mem_map.1 he
 obtain ⟨hw,hc⟩:=List.mem_filter.1 hw
 have hc:w.volume=(v:Int):=by simpa using hc
 obtain ⟨q1,q2,q3,q4,q5⟩:=wrErr_facts (h w hw)
 have e1:w.volume.toNat=v:=by omega
 rw [e1] at q5
 unfold wX8
 refine ⟨q4,?_,q5⟩
 show (1:Int)≤(w.data.length:Int)
 omega
theorem getD_le {im:Img} {k:Nat} (hr:∀ v∈im,v.length≤k) (v:Nat):(im.getD v []).length≤k:=by
 by_cases h:v<im.length
 ·rw [getD_lt h];exact hr _ (List.getElem_mem h)
 ·simp [List.getD_eq_getElem?_getD,List.getElem?_eq_none (Nat.le_of_not_lt h)]
theorem ofV_ok {im:Img} {l:List Wrt} (h:fitW im l) (hr:∀ v∈im,v.length≤4096) (v:Nat):okEs (ofV v l):=fun e he=>by
 have:=ofV_fit h e he
 have:=getD_le hr v
 unfold okE
 omega
theorem inS_out {l:List Exn} {n:Int} (h:∀ e∈l,0≤e.start∧1≤e.count∧e.start+e.count≤n) {s:Nat} (hs:n≤(s:Int)):inS l s=false:=by
 unfold inS
 rw [List.any_eq_false]
 intro e he
 have:=h e he
 unfold inE
 simp only [Bool.and_eq_true,decide_eq_true_eq]
 omega
theorem un_ext {im:Img} {l:List Wrt} (h:fitW im l) (hr:∀ v∈im,v.length≤4096) (v:Nat):orS (ofV v l)=ext (inS (ofV v l)) (im.getD v []).length:=by
 have e1:orS (ofV v l)=ext (inS (ofV v l)) 4096:=by
  unfold orS setOf
  refine ext_congr fun s _=>?_
  unfold orB
  cases inS (ofV v l) s<;>rfl
 rw [e1]
 exact ext_cut' (getD_le hr v) fun s hs=>inS_out (ofV_fit h) (by omega)
def mB (im:Img) (l:List Wrt) (v:Nat):Bm:=fxO ((im.getD v []).length:Int) (orS (ofV v l))
theorem mB_ok {im:Img} {l:List Wrt} (h:fitW im l) (hr:∀ v∈im,v.length≤4096) (v:Nat):fxE ((im.getD v []).length:Int) (orS (ofV v l))=0∧okB (mB im l v)=true∧(mB im l v).size=((im.getD v []).length:Int)∧∀ s:Nat,s<(im.getD v []).length→bit (mB im l v).ws s=inS (ofV v l) s:=by
 obtain ⟨g1,g2,g3,g4,g5⟩:=fx_ok (n:=(im.getD v []).length) (l:=orS (ofV v l)) (getD_le hr v) (fun e he=>by
  rw [un_ext h hr v] at he
  exact ext_in _ _ e he)
 refine ⟨g1,g3,g4,fun s hs=>?_⟩
 unfold mB
 rw [g5 s hs,un_ext h hr v,inS_ext,decide_eq_true hs,Bool.true_and]
def mkBs (im:Img) (l:List Wrt):List Bm:=(List.range im.length).map (mB im l)
theorem rng_succ (im:Img) (l:List Wrt) (i:Nat):((List.range (i+1)).map (mB im l)).map eBm=((List.range i).map (mB im l)).map eBm++[.agg [.int .i64 (mB im l i).size,.list 1 ((mB im l i).ws.map eW)]]:=by
 rw [List.range_succ,List.map_append,List.map_append];rfl
theorem loop39 {im:Img} {l:List Wrt} {v:Nat} {n:Int} {r:List Bm} (hl:l.length≤1000) {st:St} (h:st.head [0,1,6,7,8,9,14,15,16,21,22,23,39,53] st.boxes.length=some ⟨sl 56 [(0,.pv (.list 1 ((imSizes im).map eI))),(1,.pv (.list 3 (l.map eWr))),(6,.row 2 (r.map eBm)),(7,.pv (.int .i64 v)),(8,.pv (.int .i64 n)),(9,.row 2 ((ofV v (l.take ((0:Nat)))).map eExt)),(14,.pv (.list 1 ((imSizes im).map eI))),(15,.pv (.int .i64 im.length)),(16,.pv (.int .i64 v)),(21,.pv (.list 3 (l.map eWr))),(22,.pv (.int .i64 l.length)),(23,.pv (.int .i64 (0:Nat))),(39,.any),(53,.any)],[],[],none⟩) :
  den env fn39_l1 st=some (.normal,⟨sl 56 [(0,.pv (.list 1 ((imSizes im).map eI))),(1,.pv (.list 3 (l.map eWr))),(4,.any),(5,.any),(6,.row 2 (r.map eBm)),(8,.pv (.int .i64 n)),(9,.row 2 ((ofV v l).map eExt)),(14,.pv (.list 1 ((imSizes im).map eI))),(15,.pv (.int .i64 im.length)),(16,.pv (.int .i64 v)),(39,.any),(53,.any)],[],[],none⟩):=by
 unfold fn39_l1
 refine clean_up (env:=env) (nb:=0) (l.length) (fun i=>⟨sl 56 [(0,.pv (.list 1 ((imSizes im).map eI))),(1,.pv (.list 3 (l.map eWr))),(6,.row 2 (r.map eBm)),(7,.pv (.int .i64 v)),(8,.pv (.int .i64 n)),(9,.row 2 ((ofV v (l.take (i))).map eExt)),(14,.pv (.list 1 ((imSizes im).map eI))),(15,.pv (.int .i64 im.length)),(16,.pv (.int .i64 v)),(21,.pv (.list 3 (l.map eWr))),(22,.pv (.int .i64 l.length)),(23,.pv (.int .i64 i)),(39,.any),(53,.any)],[],[],none⟩) (fun i=>some (.normal,⟨sl 56 [(0,.pv (.list 1 ((imSizes im).map eI))),(1,.pv (.list 3 (l.map eWr))),(4,.any),(5,.any),(6,.row 2 (r.map eBm)),(8,.pv (.int .i64 n)),(9,.row 2 ((ofV v l).map eExt)),(14,.pv (.list 1 ((imSizes im).map eI))),(15,.pv (.int .i64 im.length)),(16,.pv (.int .i64 v)),(39,.any),(53,.any)],[],[],none⟩)) h (fun _=>rfl) (fun _=>by simp only [slAll,slsAll,Nat.reduceMul,Nat.reduceBEq,Nat.reduceLT,Nat.reduceLeDiff,Nat.reduceAdd,decide_true,Bool.and_self,Bool.true_and]) ?_ ?_
 ·intro i rb hi ih
  have hlim:lim=1073741824:=rfl
  have hi1:=i64_next hi (Nat.le_trans hl (by decide))
  have F1:((i:Int)<(l.length:Int))=True:=eq_true (by omega)
  have hx:=eWr_at8 hi
  have P3:∀ a b c:PV,part [a,b,c] 0 (some 3)=some (.agg [a,b,c]):=fun _ _ _=>rfl
  have h1:=ofV_len v (l.take i)
  have h2:(l.take i).length≤l.length:=by rw [List.length_take];omega
  have F3:=eq_true (show (ofV v (l.take i)).length+1≤lim by omega)
  by_cases c:l[i].volume=(v:Int)
  ·have F2:(l[i].volume==(v:Int))=true:=by simp [c]
   have hs:(ofV v (l.take (i+1))).map eExt=(ofV v (l.take i)).map eExt++[.agg [.int .i64 l[i].start,.int .i64 l[i].data.length]]:=by rw [ofV_yes hi c,List.map_append];rfl
   simp only [fn39_b0,F1,F2,F3,hx,P3,index_nat hi,List.length_map,slAll,slsAll,Nat.reduceMul,Nat.reduceBEq,Nat.reduceLT,Nat.reduceLeDiff,memAll,vAll,reduceCtorEq,Nat.reduceEqDiff,Nat.reduceAdd,Nat.reduceLT,Nat.reduceLeDiff,Nat.beq]
   rw [ih _ (by simp only [hi1];rw [hs];simp only [slAll,slsAll,Nat.reduceMul,Nat.reduceBEq,Nat.reduceLT,Nat.reduceLeDiff,memAll,vAll,reduceCtorEq,Nat.reduceEqDiff,Nat.reduceAdd,Nat.reduceLT,Nat.reduceLeDiff,Nat.beq]<;>rfl)]
  ·have F2:(l[i].volume==(v:Int))=false:=by simp [c]
   simp only [fn39_b0,F1,F2,F3,hx,P3,index_nat hi,List.length_map,slAll,slsAll,Nat.reduceMul,Nat.reduceBEq,Nat.reduceLT,Nat.reduceLeDiff,memAll,vAll,reduceCtorEq,Nat.reduceEqDiff,Nat.reduceAdd,Nat.reduceLT,Nat.reduceLeDiff,Nat.beq]
   rw [ih _ (by simp only [hi1];rw [ofV_no hi c];simp only [slAll,slsAll,Nat.reduceMul,Nat.reduceBEq,Nat.reduceLT,Nat.reduceLeDiff,memAll,vAll,reduceCtorEq,Nat.reduceEqDiff,Nat.reduceAdd,Nat.reduceLT,Nat.reduceLeDiff,Nat.beq]<;>rfl)]
 ·intro rb
  rw [List.take_length]
  simp only [fn39_b0,Int.lt_irrefl,List.length_map,slAll,slsAll,Nat.reduceMul,Nat.reduceBEq,Nat.reduceLT,Nat.reduceLeDiff,memAll,vAll,reduceCtorEq,Nat.reduceEqDiff,Nat.reduceAdd,Nat.reduceLT,Nat.reduceLeDiff,Nat.beq]
theorem loop39l3 {im:Img} {l:List Wrt} (hl:l.length≤1000) (hf:fitW im l) (hi0:im.length≤1000) (hr:∀ v∈im,v.length≤4096) {st:St} (h:st.head [0,1,6,14,15,16,39,53] st.boxes.length=some ⟨sl 56 [(0,.pv (.list 1 ((imSizes im).map eI))),(1,.pv (.list 3 (l.map eWr))),(6,.row 2 (((List.range ((0:Nat))).map (mB im l)).map eBm)),(14,.pv (.list 1 ((imSizes im).map eI))),(15,.pv (.int .i64 im.length)),(16,.pv (.int .i64 (0:Nat))),(39,.any),(53,.any)],[],[],none⟩) :
  den env fn39_l3 st=some (.normal,⟨sl 56 [(4,.any),(5,.any),(6,.row 2 ((mkBs im l).map eBm))],[],[],none⟩):=by
 unfold fn39_l3
 refine clean_up (env:=env) (nb:=0) (im.length) (fun i=>⟨sl 56 [(0,.pv (.list 1 ((imSizes im).map eI))),(1,.pv (.list 3 (l.map eWr))),(6,.row 2 (((List.range (i)).map (mB im l)).map eBm)),(14,.pv (.list 1 ((imSizes im).map eI))),(15,.pv (.int .i64 im.length)),(16,.pv (.int .i64 i)),(39,.any),(53,.any)],[],[],none⟩) (fun i=>some (.normal,⟨sl 56 [(4,.any),(5,.any),(6,.row 2 ((mkBs im l).map eBm))],[],[],none⟩)) h (fun _=>rfl) (fun _=>by simp only [slAll,slsAll,Nat.reduceMul,Nat.reduceBEq,Nat.reduceLT,Nat.reduceLeDiff,Nat.reduceAdd,decide_true,Bool.and_self,Bool.true_and]) ?_ ?_
 ·intro i rb hi ih
  have hlim:lim=1073741824:=rfl
  have hi1:=i64_next hi (Nat.le_trans hi0 (by decide))
  have F1:((i:Int)<(im.length:Int))=True:=eq_true (by omega)
  have hil:i<(imSizes im).length:=by simpa [imSizes] using hi
  have hx:((imSizes im).map eI)[i]?=some (.int .i64 ((im.getD i []).length:Int)):=by
   rw [eI_at hil,getD_lt hi];simp [imSizes]
  have P2:∀ a b:PV,part [a,b] 0 (some 2)=some (.agg [a,b]):=fun _ _=>rfl
  have hol:=ofV_len i l
  obtain ⟨g1,_,_,_⟩:=mB_ok hf hr i
  have e1:=cal33 (a:=ofV i l) (b:=[]) (ofV_ok hf hr i) okEs_nil (by omega) (by simp)
  rw [List.map_nil,show setOf orB (ofV i l) []=orS (ofV i l) from rfl] at e1
  have e2:=cal35 (l:=orS (ofV i l)) (n:=((im.getD i []).length:Int)) (Nat.le_trans (setOf_len _ _ _) (by decide))
  rw [g1,show fxO ((im.getD i []).length:Int) (orS (ofV i l))=mB im l i from rfl,show eBm (mB im l i)=.agg [.int .i64 (mB im l i).size,.list 1 ((mB im l i).ws.map eW)] from rfl] at e2
  have Z0:((0:Int) != 0)=false:=rfl
  have hs:=rng_succ im l i
  obtain ⟨r,hr2⟩:∃ r,r=(List.range i).map (mB im l):=⟨_,rfl⟩
  have hrl:r.length=i:=by rw [hr2,List.length_map,List.length_range]
  rw [← hr2] at hs ⊢
  have F3:=eq_true (show r.length+1≤lim by omega)
  simp only [fn39_b2,F1,hx,index_nat hil,List.length_map,slAll,slsAll,Nat.reduceMul,Nat.reduceBEq,Nat.reduceLT,Nat.reduceLeDiff,memAll,vAll,reduceCtorEq,Nat.reduceEqDiff,Nat.reduceAdd,Nat.reduceLT,Nat.reduceLeDiff,Nat.beq]
  rw [loop39 (im:=im) (l:=l) (v:=i) (n:=((im.getD i []).length:Int)) (r:=r) hl (by simp only [List.take_zero,show ofV i []=[] from rfl,List.map_nil];simp only [slAll,slsAll,Nat.reduceMul,Nat.reduceBEq,Nat.reduceLT,Nat.reduceLeDiff,Nat.reduceAdd,decide_true,Bool.and_self,Bool.true_and]<;>rfl)]
  simp only [e1,e2,Z0,F3,P2,scB,List.length_map,slAll,slsAll,Nat.reduceMul,Nat.reduceBEq,Nat.reduceLT,Nat.reduceLeDiff,memAll,vAll,reduceCtorEq,Nat.reduceEqDiff,Nat.reduceAdd,Nat.reduceLT,Nat.reduceLeDiff,Nat.beq]
  rw [ih _ (by simp only [hi1];rw [hs];simp only [slAll,slsAll,Nat.reduceMul,Nat.reduceBEq,Nat.reduceLT,Nat.reduceLeDiff,memAll,vAll,reduceCtorEq,Nat.reduceEqDiff,Nat.reduceAdd,Nat.reduceLT,Nat.reduceLeDiff,Nat.beq]<;>rfl)]
 ·intro rb
  simp only [fn39_b2,Int.lt_irrefl,List.length_map,slAll,slsAll,Nat.reduceMul,Nat.reduceBEq,Nat.reduceLT,Nat.reduceLeDiff,memAll,vAll,reduceCtorEq,Nat.reduceEqDiff,Nat.reduceAdd,Nat.reduceLT,Nat.reduceLeDiff,Nat.beq]
  rfl
theorem cal39 {im:Img} {l:List Wrt} (hl:l.length≤1000) (hf:fitW im l) (hi0:im.length≤1000) (hr:∀ v∈im,v.length≤4096):cal env 39 [.list 1 ((imSizes im).map eI),.list 3 (l.map eWr)]=some [(.list 2 ((mkBs im l).map eBm),true),(.bool true,false)]:=by
 have hz:(imSizes im).length=im.length:=by simp [imSizes]
 rw [cal_code env39 rfl];simp only [fn39,slAll,Nat.reduceBEq,Nat.reduceLeDiff,Nat.reduceAdd,List.length_cons,List.length_nil]
 simp only [List.length_map,hz,slAll,slsAll,Nat.reduceMul,Nat.reduceBEq,Nat.reduceLT,Nat.reduceLeDiff,memAll,vAll,reduceCtorEq,Nat.reduceEqDiff,Nat.reduceAdd,Nat.reduceLT,Nat.reduceLeDiff,Nat.beq]
 rw [loop39l3 (im:=im) (l:=l) hl hf hi0 hr (by simp only [List.range_zero,List.map_nil];simp only [slAll,slsAll,Nat.reduceMul,Nat.reduceBEq,Nat.reduceLT,Nat.reduceLeDiff,Nat.reduceAdd,decide_true,Bool.and_self,Bool.true_and]<;>rfl)]
 simp only [slAll,slsAll,Nat.reduceMul,Nat.reduceBEq,Nat.reduceLT,Nat.reduceLeDiff,memAll,vAll,reduceCtorEq,Nat.reduceEqDiff,Nat.reduceAdd,Nat.reduceLT,Nat.reduceLeDiff,Nat.beq]
end Go.Proofs.YtioijcfcehhmdaaGreatDoor.V

namespace Go.Proofs.YtioijcfcehhmdaaGreatDoor.V
theorem cal44 {im:Img} {d:List Bm}:cal env 44 [.list 1 (im.map eSecs),.list 2 (d.map eBm)]=some [(ePt ⟨0,[⟨1,1,7⟩],d,im⟩,false)]:=by
 have e:[(⟨1,1,7⟩:Spn)].map eSpn=[.agg [.int .i64 1,.int .i64 1,.int .i64 7]]:=rfl
 rw [ePt_eq,e]
 rw [cal_code env44 rfl];simp only [fn44,slAll,Nat.reduceBEq,Nat.reduceLeDiff,Nat.reduceAdd,List.length_cons,List.length_nil]
 simp only [ slAll,slsAll,Nat.reduceMul,Nat.reduceBEq,Nat.reduceLT,Nat.reduceLeDiff,memAll,vAll,reduceCtorEq,Nat.reduceEqDiff,Nat.reduceAdd,Nat.reduceLT,Nat.reduceLeDiff,Nat.beq]
theorem cal45 {im:Img} {d:List Bm}:cal env 45 [.list 1 (im.map eSecs),.list 2 (d.map eBm)]=some [(ePt ⟨1,[⟨1,1,5⟩,⟨2,6,9⟩],d,im⟩,false)]:=by
 have e:[(⟨1,1,5⟩:Spn),⟨2,6,9⟩].map eSpn=[.agg [.int .i64 1,.int .i64 1,.int .i64 5],.agg [.int .i64 2,.int .i64 6,.int .i64 9]]:=rfl
 rw [ePt_eq,e]
 rw [cal_code env45 rfl];simp only [fn45,slAll,Nat.reduceBEq,Nat.reduceLeDiff,Nat.reduceAdd,List.length_cons,List.length_nil]
 simp only [ slAll,slsAll,Nat.reduceMul,Nat.reduceBEq,Nat.reduceLT,Nat.reduceLeDiff,memAll,vAll,reduceCtorEq,Nat.reduceEqDiff,Nat.reduceAdd,Nat.reduceLT,Nat.reduceLeDiff,Nat.beq]
def oldP (x:Outg):Pt:=⟨0,[⟨1,1,7⟩],mkBs x.im x.o,apO x.im x.o⟩
def curP (x:Outg):Pt:=⟨1,[⟨1,1,5⟩,⟨2,6,9⟩],mkBs x.im x.n,apO x.im x.n⟩
theorem ap_fit {im:Img} {l:List Wrt} (h:apE im l=0):fitW im l:=by
 have h0:=apE_szs h
 have hA:(wrErrs (szsOf im) l 0).2=0:=by unfold apE at h;rwa [if_neg (by rw [h0];simp)] at h
 exact all_fit l im 0 hA
structure OkR (x:Outg):Prop where
 ok:okO x
 im9:x.im.length≤9
 v24:∀ v∈x.im,v.length≤24
 eo:apE x.im x.o=0
 en:apE x.im x.n=0
 lo:x.o.length≤40
 ln:x.n.length≤40
theorem rgt_of {x:Outg} (ho:okO x) (h:rgtX x=true):OkR x:=by
 unfold rgtX rgtL at h
 simp only [Bool.and_eq_true,decide_eq_true_eq,List.all_cons] at h
 obtain ⟨h7,_,⟨a1,a2⟩,⟨b1,b2⟩,_⟩:=h
 obtain ⟨c1,c2⟩:=few7_b8 h7
 exact ⟨ho,c1,c2,a1,b1,(few22_len a2).1,(few22_len b2).1⟩
theorem cal23 {x:Outg} (h:OkR x):cal env 23 [eOut x]=some [(ePt (oldP x),false),(ePt (curP x),false),(.bool true,false)]:=by
 have hlim:lim=1073741824:=rfl
 have hv4:∀ v∈x.im,v.length≤4096:=fun v hv=>by have:=h.v24 v hv;omega
 have e1:=cal38 (im:=x.im) (l:=x.o) h.ok.1 (by have:=h.im9;omega) (fun v hv=>by have:=h.v24 v hv;omega)
 have e2:=cal38 (im:=x.im) (l:=x.n) h.ok.2.1 (by have:=h.im9;omega) (fun v hv=>by have:=h.v24 v hv;omega)
 rw [h.eo] at e1
 rw [h.en] at e2
 have e3:=cal40 (x:=x) (by have:=h.im9;omega)
 have e4:=cal39 (im:=x.im) (l:=x.o) (by have:=h.lo;omega) (ap_fit h.eo) (by have:=h.im9;omega) hv4
 have e5:=cal39 (im:=x.im) (l:=x.n) (by have:=h.ln;omega) (ap_fit h.en) (by have:=h.im9;omega) hv4
 have e6:=cal44 (im:=apO x.im x.o) (d:=mkBs x.im x.o)
 have e7:=cal45 (im:=apO x.im x.n) (d:=mkBs x.im x.n)
 have P4:∀ a b c d:PV,part [a,b,c,d] 0 (some 4)=some (.agg [a,b,c,d]):=fun _ _ _ _=>rfl
 have Z0:((0:Int)==0)=true:=rfl
 rw [ePt_eq] at e6 e7
 unfold oldP curP
 rw [eOut_eq] at e3 ⊢
 rw [ePt_eq,ePt_eq]
 rw [cal_code env23 rfl];simp only [fn23,slAll,Nat.reduceBEq,Nat.reduceLeDiff,Nat.reduceAdd,List.length_cons,List.length_nil]
 simp only [e1,e2,e3,e4,e5,e6,e7,P4,Z0,scP,slAll,slsAll,Nat.reduceMul,Nat.reduceBEq,Nat.reduceLT,Nat.reduceLeDiff,memAll,vAll,reduceCtorEq,Nat.reduceEqDiff,Nat.reduceAdd,Nat.reduceLT,Nat.reduceLeDiff,Nat.beq]
def cL:List (List Exn)→Int
 |[]=>0
 |x :: l=>cntE (orS x)+cL l
theorem cL_app:∀ a b:List (List Exn),cL (a++b)=cL a+cL b
 |[],b=>by simp [cL]
 |e :: a,b=>by simp only [List.cons_append,cL,cL_app a b];omega
theorem cL_take {l:List (List Exn)} {i:Nat} (h:i<l.length):cL (l.take (i+1))=cL (l.take i)+cntE (orS l[i]):=by
 rw [List.take_succ_eq_append_getElem h,cL_app];simp [cL]
theorem orS_cnt (x:List Exn):0≤cntE (orS x)∧cntE (orS x)≤4096:=by
 unfold orS setOf
 rw [ext_cnt]
 have:=List.length_filter_le (fun s=>orB (inS x s) (inS [] s)) (List.range 4096)
 rw [List.length_range] at this
 omega
theorem cL_le:∀ l:List (List Exn),0≤cL l∧cL l≤4096 * (l.length:Int)
 |[]=>by simp [cL]
 |x :: l=>by
  have h1:=orS_cnt x
  have h2:=cL_le l
  simp only [cL,List.length_cons]
  omega
theorem loop34 {l:List (List Exn)} (ho:∀ x∈l,okEs x∧x.length≤10000) (hl:l.length≤1000) {st:St} (h:st.head [0,3,6,7,8] st.boxes.length=some ⟨sl 18 [(0,.pv (.list 1 (l.map eExs))),(3,.pv (.int .i64 (cL (l.take ((0:Nat)))))),(6,.pv (.list 1 (l.map eExs))),(7,.pv (.int .i64 l.length)),(8,.pv (.int .i64 (0:Nat)))],[],[],none⟩) :
  den env fn34_l1 st=some (.normal,⟨sl 18 [(2,.any),(3,.pv (.int .i64 (cL l)))],[],[],none⟩):=by
 unfold fn34_l1
 refine clean_up (env:=env) (nb:=0) (l.length) (fun i=>⟨sl 18 [(0,.pv (.list 1 (l.map eExs))),(3,.pv (.int .i64 (cL (l.take (i))))),(6,.pv (.list 1 (l.map eExs))),(7,.pv (.int .i64 l.length)),(8,.pv (.int .i64 i))],[],[],none⟩) (fun i=>some (.normal,⟨sl 18 [(2,.any),(3,.pv (.int .i64 (cL l)))],[],[],none⟩)) h (fun _=>rfl) (fun _=>by simp only [slAll,slsAll,Nat.reduceMul,Nat.reduceBEq,Nat.reduceLT,Nat.reduceLeDiff,Nat.reduceAdd,decide_true,Bool.and_self,Bool.true_and]) ?_ ?_
 ·intro i rb hi ih
  have hi1:=i64_next hi (Nat.le_trans hl (by decide))
  have F1:((i:Int)<(l.length:Int))=True:=eq_true (by omega)
  have hx:=eExs_at hi
  have b1:=cL_le (l.take i)
  have b2:=orS_cnt l[i]
  have b3:(l.take i).length≤l.length:=by rw [List.length_take];omega
  obtain ⟨o1,o2⟩:=ho _ (List.getElem_mem hi)
  have e1:=cal82 o1 o2
  have W:IntKind.i64.wrap (cL (l.take i)+cntE (orS l[i]))=cL (l.take (i+1)):=by rw [cL_take hi];exact i64_fits (by omega)
  simp only [fn34_b0,F1,hx,W,e1,index_nat hi,List.length_map,slAll,slsAll,Nat.reduceMul,Nat.reduceBEq,Nat.reduceLT,Nat.reduceLeDiff,memAll,vAll,reduceCtorEq,Nat.reduceEqDiff,Nat.reduceAdd,Nat.reduceLT,Nat.reduceLeDiff,Nat.beq]
  rw [ih _ (by simp only [hi1,slAll,slsAll,Nat.reduceMul,Nat.reduceBEq,Nat.reduceLT,Nat.reduceLeDiff,memAll,vAll,reduceCtorEq,Nat.reduceEqDiff,Nat.reduceAdd,Nat.reduceLT,Nat.reduceLeDiff,Nat.beq]<;>rfl)]
 ·intro rb
  rw [List.take_length]
  simp only [fn34_b0,Int.lt_irrefl,List.length_map,slAll,slsAll,Nat.reduceMul,Nat.reduceBEq,Nat.reduceLT,Nat.reduceLeDiff,memAll,vAll,reduceCtorEq,Nat.reduceEqDiff,Nat.reduceAdd,Nat.reduceLT,Nat.reduceLeDiff,Nat.beq]
theorem cal34 {l:List (List Exn)} (ho:∀ x∈l,okEs x∧x.length≤10000) (hl:l.length≤1000):cal env 34 [.list 1 (l.map eExs)]=some [(.int .i64 (cL l),false)]:=by
 rw [cal_code env34 rfl];simp only [fn34,slAll,Nat.reduceBEq,Nat.reduceLeDiff,Nat.reduceAdd,List.length_cons,List.length_nil]
 simp only [List.length_map,slAll,slsAll,Nat.reduceMul,Nat.reduceBEq,Nat.reduceLT,Nat.reduceLeDiff,memAll,vAll,reduceCtorEq,Nat.reduceEqDiff,Nat.reduceAdd,Nat.reduceLT,Nat.reduceLeDiff,Nat.beq]
 rw [loop34 ho hl (by simp only [List.take_zero,cL];simp only [slAll,slsAll,Nat.reduceMul,Nat.reduceBEq,Nat.reduceLT,Nat.reduceLeDiff,Nat.reduceAdd,decide_true,Bool.and_self,Bool.true_and]<;>rfl)]
 simp only [slAll,slsAll,Nat.reduceMul,Nat.reduceBEq,Nat.reduceLT,Nat.reduceLeDiff,memAll,vAll,reduceCtorEq,Nat.reduceEqDiff,Nat.reduceAdd,Nat.reduceLT,Nat.reduceLeDiff,Nat.beq]
theorem cal32 {a b:List Exn} (ha:a.length≤lim):cal env 32 [.list 2 (a.map eExt),.list 2 (b.map eExt)]=some [(.bool (decide (a=b)),false)]:=by
 have e1:=cal27 (l:=[a]) (m:=[b]) (by show 1≤lim;unfold lim;omega) (fun x hx=>by rw [List.mem_singleton.1 hx];exact ha)
 have h:decide ([a]=[b])=decide (a=b):=by simp
 rw [h] at e1
 simp only [List.map_cons,List.map_nil,eExs_eq] at e1
 rw [cal_code env32 rfl];simp only [fn32,slAll,Nat.reduceBEq,Nat.reduceLeDiff,Nat.reduceAdd,List.length_cons,List.length_nil]
 simp only [e1,slAll,slsAll,Nat.reduceMul,Nat.reduceBEq,Nat.reduceLT,Nat.reduceLeDiff,memAll,vAll,reduceCtorEq,Nat.reduceEqDiff,Nat.reduceAdd,Nat.reduceLT,Nat.reduceLeDiff,Nat.beq]
end Go.Proofs.YtioijcfcehhmdaaGreatDoor.V

namespace Go.Proofs.YtioijcfcehhmdaaGreatDoor.V
theorem dirE_zero:∀ {bs:List Bm} {vs:Img},(∀ i (h1:i<bs.length) (h2:i<vs.length),okB bs[i]=true∧bs[i].size=(vs[i].length:Int))→dirE bs vs=0
 |[],vs,_=>by unfold dirE;rfl
 |_ :: _,[],_=>by unfold dirE;rfl
 |b :: bs,v :: vs,h=>by
  obtain ⟨h1,h2⟩:=h 0 (by simp) (by simp)
  have h1:okB b=true:=h1
  have h2:b.size=(v.length:Int):=h2
  unfold dirE
  have e:bmE b=0:=by unfold bmE;rw [if_pos h1]
  rw [if_neg (by rw [e];simp),if_neg (by rw [h2];simp)]
  exact dirE_zero fun i g1 g2=>h (i+1) (by simpa using g1) (by simpa using g2)
theorem mkBs_len (im:Img) (l:List Wrt):(mkBs im l).length=im.length:=by simp [mkBs]
theorem mkBs_at {im:Img} {l:List Wrt} {i:Nat} (h:i<(mkBs im l).length):(mkBs im l)[i]=mB im l i:=by simp [mkBs]
theorem chk_pt {im:Img} {l:List Wrt} {site:Int} {lin:List Spn} (h:apE im l=0) (hr:∀ v∈im,v.length≤4096) (hs:0≤site∧site≤1073741824) (hl:linOk lin=true):chkP ⟨site,lin,mkBs im l,apO im l⟩=0:=by
 have hz:=apO_sizes h
 have h0:imCheck (apO im l)=0:=by show szErr (szsOf (apO im l))=0;rw [hz];exact apE_szs h
 obtain ⟨g1,g2⟩:=sizes_inj (a:=apO im l) (b:=im) hz
 unfold chkP
 rw [if_neg (by show ¬ (site<0∨1073741824<site);omega),if_neg (by show ¬ linOk lin=false;rw [hl];decide),if_neg (by show ¬ imCheck (apO im l)≠0;rw [h0];simp),if_neg (by show ¬ (mkBs im l).length≠(apO im l).length;rw [mkBs_len,g1];simp)]
 show dirE (mkBs im l) (apO im l)=0
 refine dirE_zero fun i h1 h2=>?_
 have hi:i<im.length:=by omega
 obtain ⟨_,k2,k3,_⟩:=mB_ok (ap_fit h) hr i
 rw [mkBs_at,k3,getD_lt hi,g2 i h2 hi]
 exact ⟨k2,rfl⟩
theorem inS_ofV (v:Nat) (l:List Wrt) (s:Nat):inS (ofV v l) s=l.any fun w=>hit w v s:=by
 unfold inS ofV
 rw [List.any_map,List.any_filter]
 congr 1
 funext w
 show (decide (w.volume=(v:Int))&&inE (wX8 w) s)=hit w v s
 unfold inE hit wX8
 rw [Bool.eq_iff_iff]
 simp only [Bool.and_eq_true,decide_eq_true_eq]
 omega
theorem ap_same {im:Img} {l:List Wrt} (h:apE im l=0) {v s:Nat} (hv:v<im.length) (hs:s<(im.getD v []).length) (hn:inS (ofV v l) s=false):getS (apO im l) v s=getS im v s:=by
 have h0:=apE_szs h
 have hA:(wrErrs (szsOf im) l 0).2=0:=by unfold apE at h;rwa [if_neg (by rw [h0];simp)] at h
 have hO:apO im l=l.foldl put1 im:=by unfold apO;rw [if_pos h]
 rw [hO,puts_get l im 0 hA hv hs]
 refine want_none v s l _ fun w hw c=>?_
 rw [inS_ofV,List.any_eq_false] at hn
 exact hn w hw c
theorem ext_none {p:Nat→Bool}:∀ n,(∀ s,s<n→p s=false)→ext p n=[]
 |0,_=>rfl
 |n+1,h=>by
  rw [ext_succ,h n (by omega)]
  exact ext_none n fun s hs=>h s (by omega)
theorem orS_ext {p:Nat→Bool} {n:Nat} (hn:n≤4096):orS (ext p n)=ext p n:=by
 unfold orS setOf
 have e1:ext (fun s=>orB (inS (ext p n) s) (inS [] s)) 4096=ext (fun s=>decide (s<n)&&p s) 4096:=ext_congr fun s _=>by
  unfold orB
  rw [inS_ext,show inS [] s=false from rfl,Bool.or_false]
 rw [e1,ext_cut' hn fun s hs=>by rw [decide_eq_false (by omega)];rfl]
 exact ext_congr fun s hs=>by rw [decide_eq_true hs,Bool.true_and]
theorem cnt_mono {p q:Nat→Bool} {n:Nat} (h:∀ s,s<n→p s=true→q s=true):cntE (ext p n)≤cntE (ext q n):=by
 rw [ext_cnt,ext_cnt,← List.countP_eq_length_filter,← List.countP_eq_length_filter]
 have:=List.countP_mono_left (l:=List.range n) (p:=p) (q:=q) fun s hs=>h s (List.mem_range.1 hs)
 omega
theorem sE_cnt:∀ l:List Exn,sE l=cntE l
 |[]=>rfl
 |e :: l=>by
  have:=sE_cnt l
  unfold sE
  rw [this]
  simp [cntE]
theorem sL_cL:∀ {D:List (List Exn)},(∀ x∈D,orS x=x)→sL D=cL D
 |[],_=>rfl
 |x :: D,h=>by
  unfold sL cL
  rw [h x (by simp),sE_cnt,sL_cL fun y hy=>h y (by simp [hy])]
theorem cL_mono:∀ {D L:List (List Exn)},D.length=L.length→(∀ i (h1:i<D.length) (h2:i<L.length),cntE (orS D[i])≤cntE (orS L[i]))→cL D≤cL L
 |[],L,h,_=>by
  have:L=[]:=List.eq_nil_of_length_eq_zero h.symm
  rw [this]
  exact Int.le_refl _
 |x :: D,[],h,_=>by simp at h
 |x :: D,y :: L,h,hc=>by
  have h0:cntE (orS x)≤cntE (orS y):=hc 0 (by simp) (by simp)
  have h1:=cL_mono (D:=D) (L:=L) (by simpa using h) fun i g1 g2=>hc (i+1) (by simpa using g1) (by simpa using g2)
  unfold cL
  omega
section
variable {x:Outg} (h:OkR x)
include h
theorem cv_v4:∀ v∈x.im,v.length≤4096:=fun v hv=>by have:=h.v24 v hv;omega
theorem cv_old:chkP (oldP x)=0:=chk_pt h.eo (cv_v4 h) (by decide) (by decide)
theorem cv_cur:chkP (curP x)=0:=chk_pt h.en (cv_v4 h) (by decide) (by decide)
theorem cv_so:szsOf (oldP x).img=szsOf x.im:=apO_sizes h.eo
theorem cv_sc:szsOf (curP x).img=szsOf x.im:=apO_sizes h.en
theorem cv_sizes:imSizes (oldP x).img=imSizes (curP x).img:=(cv_so h).trans (cv_sc h).symm
theorem cv_btE:btE (oldP x) (curP x)=0:=by
 unfold btE
 rw [if_pos (cv_old h),if_pos (cv_cur h),if_pos (cv_sizes h)]
theorem cv_begE:begE (oldP x) (curP x) 3=0:=by
 unfold begE
 have s1:siteB (oldP x).site=true:=by show siteB 0=true;decide
 have s2:siteB (curP x).site=true:=by show siteB 1=true;decide
 have s3:(oldP x).site≠(curP x).site:=by show (0:Int)≠1;decide
 have s4:(headOf (oldP x).lin).epoch<3:=by show (1:Int)<3;decide
 have s5:(headOf (curP x).lin).epoch<3:=by show (2:Int)<3;decide
 rw [if_pos (cv_btE h),if_pos s1,if_pos s2,if_pos s3,if_pos s4,if_pos s5,if_pos (by decide)]
theorem cv_len:(oldP x).img.length=x.im.length:=(szs_getD (cv_so h) 0).2
theorem cv_lenC:(curP x).img.length=x.im.length:=(szs_getD (cv_sc h) 0).2
theorem cv_L:begL (oldP x) (curP x) 3=btw (oldP x) (curP x) x.im.length:=by
 unfold begL btO
 rw [if_pos (cv_begE h),if_pos (cv_btE h),cv_len h]
theorem cv_fit:fitW x.im (x.o++x.n):=fun w hw=>by
 rcases List.mem_append.1 hw with hw|hw
 ·exact ap_fit h.eo w hw
 ·exact ap_fit h.en w hw
theorem cv_mk {v s:Nat} (hv:v<x.im.length) (hs:s<(x.im.getD v []).length):mk2 (oldP x) (curP x) v s=inS (ofV v (x.o++x.n)) s:=by
 have hd:∀ l:List Wrt,(mkBs x.im l).getD v ⟨0,[]⟩=mB x.im l v:=fun l=>by
  have hl:v<(mkBs x.im l).length:=by rw [mkBs_len];exact hv
  rw [getD_lt hl,mkBs_at]
 have e1:dir (oldP x) v=mB x.im x.o v:=hd x.o
 have e2:dir (curP x) v=mB x.im x.n v:=hd x.n
 obtain ⟨_,a2,a3,a4⟩:=mB_ok (ap_fit h.eo) (cv_v4 h) v
 obtain ⟨_,b2,b3,b4⟩:=mB_ok (ap_fit h.en) (cv_v4 h) v
 unfold mk2
 rw [e1,e2,getX_in a2 (by rw [a3];omega),getX_in b2 (by rw [b3];omega),a4 s hs,b4 s hs,ofV_app]
 unfold inS
 rw [List.any_append]
theorem cv_at {v:Nat} (hv:v<x.im.length):(btw (oldP x) (curP x) x.im.length)[v]'(by rw [btw_len];exact hv)=orS (ofV v (x.o++x.n)):=by
 have e1:(btw (oldP x) (curP x) x.im.length)[v]'(by rw [btw_len];exact hv)=ext (mk2 (oldP x) (curP x) v) (vLen (oldP x) v):=by simp [btw]
 have e2:vLen (oldP x) v=(x.im.getD v []).length:=(szs_getD (cv_so h) v).1
 rw [e1,e2,un_ext (cv_fit h) (cv_v4 h) v]
 exact ext_congr fun s hs=>cv_mk h hv hs
theorem cv_dif {v s:Nat} (hv:v<x.im.length) (hs:s<(x.im.getD v []).length) (hd:dif ((oldP x).img.getD v []) ((curP x).img.getD v []) s=true):inS (ofV v (x.o++x.n)) s=true:=by
 have l1:=(szs_getD (cv_so h) v).1
 have hne:=(dif_iff (cv_sizes h) (by rw [cv_len h];exact hv) (by rw [l1];exact hs)).1 hd
 cases c:inS (ofV v (x.o++x.n)) s with
 |true=>rfl
 |false =>
  exfalso
  rw [ofV_app] at c
  unfold inS at c
  rw [List.any_append,Bool.or_eq_false_iff] at c
  exact hne ((ap_same h.eo hv hs c.1).trans (ap_same h.en hv hs c.2).symm)
theorem cv_pair:pairErr (oldP x).img (curP x).img=0:=by
 obtain ⟨_,a2,_,_⟩:=chkP_ok (cv_old h)
 obtain ⟨_,b2,_,_⟩:=chkP_ok (cv_cur h)
 unfold pairErr
 rw [if_neg (by rw [a2];simp),if_neg (by rw [b2];simp),if_pos (cv_sizes h)]
theorem cv_D:differOut (oldP x).img (curP x).img=differ (oldP x).img (curP x).img:=by
 unfold differOut
 rw [if_pos (cv_pair h)]
theorem cv_Dlen:(differ (oldP x).img (curP x).img).length=x.im.length:=by
 have h1:=cv_len h
 have h2:=cv_lenC h
 unfold differ
 rw [List.length_map,List.length_zip]
 omega
theorem cv_Dat {v:Nat} (hv:v<x.im.length):(differ (oldP x).img (curP x).img)[v]'(by rw [cv_Dlen h];exact hv)=ext (dif ((oldP x).img.getD v []) ((curP x).img.getD v [])) (x.im.getD v []).length:=by
 have h1:=cv_len h
 have h2:=cv_lenC h
 have l1:=(szs_getD (cv_so h) v).1
 rw [← l1,getD_lt (show v<(oldP x).img.length by omega),getD_lt (show v<(curP x).img.length by omega)]
 simp only [differ,List.getElem_map,List.getElem_zip]
 rfl
theorem cv_sub {v:Nat} (hv:v<x.im.length):setOf subB ((differ (oldP x).img (curP x).img)[v]'(by rw [cv_Dlen h];exact hv)) (orS (ofV v (x.o++x.n)))=[]:=by
 rw [cv_Dat h hv,un_ext (cv_fit h) (cv_v4 h) v]
 unfold setOf
 refine ext_none _ fun s _=>?_
 rw [inS_ext,inS_ext]
 unfold subB
 by_cases hs:s<(x.im.getD v []).length
 ·rw [decide_eq_true hs,Bool.true_and,Bool.true_and]
  cases c:dif ((oldP x).img.getD v []) ((curP x).img.getD v []) s with
  |false=>rfl
  |true=>rw [cv_dif h hv hs c];rfl
 ·rw [decide_eq_false hs];rfl
theorem cv_can:∀ y∈differ (oldP x).img (curP x).img,orS y=y:=fun y hy=>by
 obtain ⟨v,hv,rfl⟩:=List.mem_iff_getElem.1 hy
 rw [cv_Dlen h] at hv
 rw [cv_Dat h hv]
 exact orS_ext (getD_le (cv_v4 h) v)
theorem cv_least:sL (differ (oldP x).img (curP x).img)=cL (differ (oldP x).img (curP x).img):=sL_cL (cv_can h)
theorem cv_most:cL (differ (oldP x).img (curP x).img)≤cL (btw (oldP x) (curP x) x.im.length):=by
 refine cL_mono (by rw [cv_Dlen h,btw_len]) fun v h1 h2=>?_
 have hv:v<x.im.length:=by rw [btw_len] at h2;exact h2
 have hn:=getD_le (cv_v4 h) v
 rw [cv_at h hv,cv_Dat h hv,un_ext (cv_fit h) (cv_v4 h) v,orS_ext hn,orS_ext hn]
 exact cnt_mono fun s hs hd=>cv_dif h hv hs hd
end
end Go.Proofs.YtioijcfcehhmdaaGreatDoor.V
