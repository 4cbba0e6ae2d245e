/-
  Part 10 of the texts that the statement stands on.
-/
import Derived.Test.YtpcncggjmabnaaaGreatDoorZ9
import Derived.ProofKit
import Derived.SizedLaws
import Derived.OpenShut
import Derived.Deep.Strs
import Derived.Test.YtpcncggjmabnaaaGreatDoorRows
import Derived.WalkSmall
import Derived.WalkSpells
import Derived.Lib.SliceRun
import Derived.Test.YtpcncggjmabnaaaGreatDoorChecked
set_option linter.all false
namespace Go.Proofs.YtpcncggjmabnaaaGreatDoor.V
theorem unX_ext (v:Int) (l:List Wrt):unX v l=ext (inS (exW v l)) 4096:=by
 unfold unX setOf
 congr 1
 funext s
 simp [orB,inS]
theorem loop99 {l:List Wrt} {v:Int} (hm:∀ w∈l,mod1 w) (hl:l.length≤10000) {st:St} (h:st.head [0,1,5,6,7] st.boxes.length=some ⟨sl 37 [(0,.pv (.list 3 (l.map eWr))),(1,.pv (.int .i64 v)),(5,.row 1 ((mk (inS (exW v (l.take ((0:Nat)))))).map eB)),(6,.pv (.int .i64 (0:Nat))),(7,.any)],[],[],none⟩) :
  den env fn99_l1 st=some (.normal,⟨sl 37 [(4,.any),(5,.row 1 ((mk (inS (exW v l))).map eB))],[],[],none⟩):=by
 unfold fn99_l1
 refine clean_up (env:=env) (nb:=0) (l.length) (fun i=>⟨sl 37 [(0,.pv (.list 3 (l.map eWr))),(1,.pv (.int .i64 v)),(5,.row 1 ((mk (inS (exW v (l.take (i))))).map eB)),(6,.pv (.int .i64 i)),(7,.any)],[],[],none⟩) (fun i=>some (.normal,⟨sl 37 [(4,.any),(5,.row 1 ((mk (inS (exW v l))).map eB))],[],[],none⟩)) h (fun _=>rfl) (fun _=>by simp only [slAll,slsAll,Nat.reduceMul,Nat.reduceBEq,Nat.reduceLT,Nat.reduceLeDiff,Nat.reduceAdd,decide_true,Bool.and_self,Bool.true_and]) ?_ ?_
 ·intro i rb hi ih
  have hi1:=i64_next hi (by unfold lim;omega)
  have F1:((i:Int)<(l.length:Int))=True:=eq_true (by omega)
  have hx:=eWr_at hi
  have hh:=exW_take (v:=v) hi
  obtain ⟨⟨m1,m2⟩,m3⟩:=hm _ (List.getElem_mem hi)
  by_cases c:l[i].volume=v
  ·have G:(l[i].volume==v)=true:=by simp [c]
   rw [if_pos c] at hh
   have hA:=addX_enc (s:=l[i].start) (c:=(l[i].data.length:Int)) (m:=mk (inS (exW v (l.take i)))) (by simp only [i64b,Bool.and_eq_true,decide_eq_true_eq];omega) (by simp only [i64b,Bool.and_eq_true,decide_eq_true_eq];omega) (by intro e;have:=mk_len (inS (exW v (l.take i)));rw [e] at this;simp at this) (by rw [mk_len];exact Nat.le_refl _)
   rw [mk_mark] at hA
   have hmk:mk (fun t=>inS (exW v (l.take i)) t || inX l[i].start (l[i].data.length:Int) t)=mk (inS (exW v (l.take (i+1)))):=by
    apply mk_congr
    intro s hs
    rw [hh,inS_snoc];rfl
   rw [hmk] at hA
   have C:(0=0∧(4096:Nat)=4096∧(4096:Nat)=4096)=True:=eq_true ⟨rfl,rfl,rfl⟩
   simp only [fn99_b0,F1,G,hx,hA,C,mk_len,part3,env115,index_nat hi,List.length_map,slAll,slsAll,Nat.reduceMul,Nat.reduceBEq,Nat.reduceLT,Nat.reduceLeDiff,memAll,vAll,reduceCtorEq,Nat.reduceEqDiff,Nat.reduceAdd,Nat.reduceLT,Nat.reduceLeDiff,Nat.beq]
   rw [ih _ (by simp only [hi1,slAll,slsAll,Nat.reduceMul,Nat.reduceBEq,Nat.reduceLT,Nat.reduceLeDiff,memAll,vAll,reduceCtorEq,Nat.reduceEqDiff,Nat.reduceAdd,Nat.reduceLT,Nat.reduceLeDiff,Nat.beq]<;>rfl)]
  ·have G:(l[i].volume==v)=false:=by simp [c]
   rw [if_neg c] at hh
   rw [hh] at ih
   simp only [fn99_b0,F1,G,hx,part3,index_nat hi,List.length_map,slAll,slsAll,Nat.reduceMul,Nat.reduceBEq,Nat.reduceLT,Nat.reduceLeDiff,memAll,vAll,reduceCtorEq,Nat.reduceEqDiff,Nat.reduceAdd,Nat.reduceLT,Nat.reduceLeDiff,Nat.beq]
   rw [ih _ (by simp only [hi1,slAll,slsAll,Nat.reduceMul,Nat.reduceBEq,Nat.reduceLT,Nat.reduceLeDiff,memAll,vAll,reduceCtorEq,Nat.reduceEqDiff,Nat.reduceAdd,Nat.reduceLT,Nat.reduceLeDiff,Nat.beq]<;>rfl)]
 ·intro rb
  rw [List.take_length]
  simp only [fn99_b0,Int.lt_irrefl,List.length_map,slAll,slsAll,Nat.reduceMul,Nat.reduceBEq,Nat.reduceLT,Nat.reduceLeDiff,memAll,vAll,reduceCtorEq,Nat.reduceEqDiff,Nat.reduceAdd,Nat.reduceLT,Nat.reduceLeDiff,Nat.beq]
theorem cal99 {l:List Wrt} {v:Int} (hm:∀ w∈l,mod1 w) (hl:l.length≤10000):cal env 99 [.list 3 (l.map eWr),.int .i64 v]=some [(.list 2 ((unX v l).map eExt),true)]:=by
 have R2:((4096:Int)≤(lim:Int))=True:=eq_true (by unfold lim;decide)
 have R0:((0:Int)≤4096)=True:=eq_true (by decide)
 have R1:((4096:Int)≤4096)=True:=eq_true (by decide)
 have T:(4096:Int).toNat=4096:=rfl
 have e1:=calList (f:=inS (exW v l))
 rw [unX_ext]
 have hz:List.replicate 4096 (PV.bool false)=(mk (inS (exW v (l.take 0)))).map eB:=by
  have:mk (inS (exW v (l.take 0)))=List.replicate 4096 false:=by
   rw [show inS (exW v (l.take 0))=inS [] from rfl,mk_false];rfl
  rw [this,List.map_replicate];rfl
 rw [cal_code env99 rfl];simp only [fn99,slAll,Nat.reduceBEq,Nat.reduceLeDiff,Nat.reduceAdd,List.length_cons,List.length_nil]
 simp only [R0,R1,R2,T,and_self,if_true,slAll,slsAll,Nat.reduceMul,Nat.reduceBEq,Nat.reduceLT,Nat.reduceLeDiff,memAll,vAll,reduceCtorEq,Nat.reduceEqDiff,Nat.reduceAdd,Nat.reduceLT,Nat.reduceLeDiff,Nat.beq]
 rw [hz]
 rw [loop99 (v:=v) hm hl (by simp only [slAll,slsAll,Nat.reduceMul,Nat.reduceBEq,Nat.reduceLT,Nat.reduceLeDiff,Nat.reduceAdd,decide_true,Bool.and_self,Bool.true_and]<;>rfl)]
 simp only [R0,R1,R2,T,e1,slAll,slsAll,Nat.reduceMul,Nat.reduceBEq,Nat.reduceLT,Nat.reduceLeDiff,memAll,vAll,reduceCtorEq,Nat.reduceEqDiff,Nat.reduceAdd,Nat.reduceLT,Nat.reduceLeDiff,Nat.beq]
def secsF (l:List Wrt) (v s:Int) (n:Nat):List Sec:=(List.range n).map fun (k:Nat)=>(lokX l v (s+(k:Int))).getD zSec
theorem secsF_succ (l:List Wrt) (v s:Int) (n:Nat):secsF l v s (n+1)=secsF l v s n++[(lokX l v (s+(n:Int))).getD zSec]:=by
 unfold secsF;rw [List.range_succ,List.map_append];rfl
theorem secsF_len (l:List Wrt) (v s:Int) (n:Nat):(secsF l v s n).length=n:=by simp [secsF]
def pkO (l:List Wrt) (v:Int) (e:Exn):Wrt:=⟨v,e.start,secsF l v e.start e.count.toNat⟩
def pkL (l:List Wrt) (v:Int) (es:List Exn) (n:Nat):List Wrt:=(es.take n).map (pkO l v)
theorem pkL_len {l:List Wrt} {v:Int} {es:List Exn} (n:Nat):(pkL l v es n).length≤n:=by unfold pkL;rw [List.length_map,List.length_take];omega
theorem loop98 {l:List Wrt} {v:Int} {es:List Exn} {i0:Nat} {L:List PV} (hm:∀ w∈l,mod1 w) (hl:l.length≤10000) (h0:i0<es.length) (he:0≤es[i0].start∧0≤es[i0].count∧es[i0].start+es[i0].count≤4096) {st:St} (h:st.head [0,1,2,7,8,9,10,57] st.boxes.length=some ⟨sl 59 [(0,.pv (.list 3 (l.map eWr))),(1,.pv (.int .i64 v)),(2,.pv (.list 2 (es.map eExt))),(7,.row 3 L),(8,.pv (.int .i64 i0)),(9,.pbox 0 0),(10,.pv (.int .i64 (0:Nat))),(57,.any)],[⟨false,[.pv (.int .i64 v),.pv (.int .i64 es[i0].start),.row 8 ((secsF l v es[i0].start ((0:Nat))).map eSec)]⟩],[],none⟩) :
  den env fn98_l1 st=some (.normal,⟨sl 59 [(0,.pv (.list 3 (l.map eWr))),(1,.pv (.int .i64 v)),(2,.pv (.list 2 (es.map eExt))),(6,.any),(7,.row 3 L),(8,.pv (.int .i64 i0)),(9,.pbox 0 0),(57,.any)],[⟨false,[.pv (.int .i64 v),.pv (.int .i64 es[i0].start),.row 8 ((secsF l v es[i0].start es[i0].count.toNat).map eSec)]⟩],[],none⟩):=by
 unfold fn98_l1
 refine clean_up (env:=env) (nb:=1) (es[i0].count.toNat) (fun i=>⟨sl 59 [(0,.pv (.list 3 (l.map eWr))),(1,.pv (.int .i64 v)),(2,.pv (.list 2 (es.map eExt))),(7,.row 3 L),(8,.pv (.int .i64 i0)),(9,.pbox 0 0),(10,.pv (.int .i64 i)),(57,.any)],[⟨false,[.pv (.int .i64 v),.pv (.int .i64 es[i0].start),.row 8 ((secsF l v es[i0].start (i)).map eSec)]⟩],[],none⟩) (fun i=>some (.normal,⟨sl 59 [(0,.pv (.list 3 (l.map eWr))),(1,.pv (.int .i64 v)),(2,.pv (.list 2 (es.map eExt))),(6,.any),(7,.row 3 L),(8,.pv (.int .i64 i0)),(9,.pbox 0 0),(57,.any)],[⟨false,[.pv (.int .i64 v),.pv (.int .i64 es[i0].start),.row 8 ((secsF l v es[i0].start es[i0].count.toNat).map eSec)]⟩],[],none⟩)) h (fun _=>rfl) (fun _=>by simp only [slAll,slsAll,Nat.reduceMul,Nat.reduceBEq,Nat.reduceLT,Nat.reduceLeDiff,Nat.reduceAdd,decide_true,Bool.and_self,Bool.true_and]) ?_ ?_
 ·intro i rb hi ih
  have hi1:=i64_next hi (by unfold lim;omega)
  have F1:((i:Int)<es[i0].count)=True:=eq_true (by omega)
  have hx:=eExt_at24 h0
  have W:IntKind.i64.wrap (es[i0].start+(i:Int))=es[i0].start+(i:Int):=i64_fits (by omega)
  have e1:=cal34 (v:=v) (s:=es[i0].start+(i:Int)) hm (by omega) (by omega)
  have F5:((secsF l v es[i0].start i).length+1≤lim)=True:=eq_true (by rw [secsF_len];unfold lim;omega)
  have hs:(secsF l v es[i0].start (i+1)).map eSec=(secsF l v es[i0].start i).map eSec++[eSec ((lokX l v (es[i0].start+(i:Int))).getD zSec)]:=by rw [secsF_succ,List.map_append];rfl
  rw [hs] at ih
  obtain ⟨a,b,c,d,e,f,g,h',h8⟩:=sec8 ((lokX l v (es[i0].start+(i:Int))).getD zSec)
  rw [h8] at e1 ih
  simp only [fn98_b0,F1,F5,hx,e1,W,part2,part8,index_nat h0,List.length_map,slAll,slsAll,Nat.reduceMul,Nat.reduceBEq,Nat.reduceLT,Nat.reduceLeDiff,memAll,vAll,reduceCtorEq,Nat.reduceEqDiff,Nat.reduceAdd,Nat.reduceLT,Nat.reduceLeDiff,Nat.beq]
  rw [ih _ (by simp only [hi1,slAll,slsAll,Nat.reduceMul,Nat.reduceBEq,Nat.reduceLT,Nat.reduceLeDiff,memAll,vAll,reduceCtorEq,Nat.reduceEqDiff,Nat.reduceAdd,Nat.reduceLT,Nat.reduceLeDiff,Nat.beq]<;>rfl)]
 ·intro rb
  have F1:(((es[i0].count.toNat:Nat):Int)<es[i0].count)=False:=eq_false (by omega)
  have hx:=eExt_at24 h0
  simp only [fn98_b0,F1,hx,part2,index_nat h0,List.length_map,slAll,slsAll,Nat.reduceMul,Nat.reduceBEq,Nat.reduceLT,Nat.reduceLeDiff,memAll,vAll,reduceCtorEq,Nat.reduceEqDiff,Nat.reduceAdd,Nat.reduceLT,Nat.reduceLeDiff,Nat.beq]
theorem loop98l3 {l:List Wrt} {v:Int} {es:List Exn} (hm:∀ w∈l,mod1 w) (hl:l.length≤10000) (hes:es.length≤10000) (he:∀ e∈es,0≤e.start∧0≤e.count∧e.start+e.count≤4096) {st:St} (h:st.head [0,1,2,7,8,57] st.boxes.length=some ⟨sl 59 [(0,.pv (.list 3 (l.map eWr))),(1,.pv (.int .i64 v)),(2,.pv (.list 2 (es.map eExt))),(7,.row 3 ((pkL l v es ((0:Nat))).map eWr)),(8,.pv (.int .i64 (0:Nat))),(57,.any)],[],[],none⟩) :
  den env fn98_l3 st=some (.normal,⟨sl 59 [(6,.any),(7,.row 3 ((pkL l v es es.length).map eWr))],[],[],none⟩):=by
 unfold fn98_l3
 refine clean_up (env:=env) (nb:=0) (es.length) (fun i=>⟨sl 59 [(0,.pv (.list 3 (l.map eWr))),(1,.pv (.int .i64 v)),(2,.pv (.list 2 (es.map eExt))),(7,.row 3 ((pkL l v es (i)).map eWr)),(8,.pv (.int .i64 i)),(57,.any)],[],[],none⟩) (fun i=>some (.normal,⟨sl 59 [(6,.any),(7,.row 3 ((pkL l v es es.length).map eWr))],[],[],none⟩)) h (fun _=>rfl) (fun _=>by simp only [slAll,slsAll,Nat.reduceMul,Nat.reduceBEq,Nat.reduceLT,Nat.reduceLeDiff,Nat.reduceAdd,decide_true,Bool.and_self,Bool.true_and]) ?_ ?_
 ·intro i rb hi ih
  have hi1:=i64_next hi (by unfold lim;omega)
  have F1:((i:Int)<(es.length:Int))=True:=eq_true (by omega)
  have hx:=eExt_at24 hi
  have F5:((pkL l v es i).length+1≤lim)=True:=eq_true (by have:=pkL_len (l:=l) (v:=v) (es:=es) i;unfold lim;omega)
  have hs:(pkL l v es (i+1)).map eWr=(pkL l v es i).map eWr++[.agg [.int .i64 v,.int .i64 es[i].start,.list 8 ((secsF l v es[i].start es[i].count.toNat).map eSec)]]:=by
   unfold pkL
   rw [List.take_succ_eq_append_getElem hi,List.map_append,List.map_append];rfl
  rw [hs] at ih
  simp only [fn98_b2,F1,F5,hx,part2,part3,index_nat hi,List.length_map,slAll,slsAll,Nat.reduceMul,Nat.reduceBEq,Nat.reduceLT,Nat.reduceLeDiff,memAll,vAll,reduceCtorEq,Nat.reduceEqDiff,Nat.reduceAdd,Nat.reduceLT,Nat.reduceLeDiff,Nat.beq]
  rw [loop98 (l:=l) (v:=v) (es:=es) (i0:=i) hm hl hi (he _ (List.getElem_mem hi)) (by simp only [show secsF l v es[i].start 0=[] from rfl,List.map_nil];simp only [slAll,slsAll,Nat.reduceMul,Nat.reduceBEq,Nat.reduceLT,Nat.reduceLeDiff,Nat.reduceAdd,decide_true,Bool.and_self,Bool.true_and]<;>rfl)]
  simp only [F5,part3,List.length_map,slAll,slsAll,Nat.reduceMul,Nat.reduceBEq,Nat.reduceLT,Nat.reduceLeDiff,memAll,vAll,reduceCtorEq,Nat.reduceEqDiff,Nat.reduceAdd,Nat.reduceLT,Nat.reduceLeDiff,Nat.beq]
  rw [ih _ (by simp only [hi1,slAll,slsAll,Nat.reduceMul,Nat.reduceBEq,Nat.reduceLT,Nat.reduceLeDiff,memAll,vAll,reduceCtorEq,Nat.reduceEqDiff,Nat.reduceAdd,Nat.reduceLT,Nat.reduceLeDiff,Nat.beq]<;>rfl)]
 ·intro rb
  simp only [fn98_b2,Int.lt_irrefl,List.length_map,slAll,slsAll,Nat.reduceMul,Nat.reduceBEq,Nat.reduceLT,Nat.reduceLeDiff,memAll,vAll,reduceCtorEq,Nat.reduceEqDiff,Nat.reduceAdd,Nat.reduceLT,Nat.reduceLeDiff,Nat.beq]
theorem cal98 {l:List Wrt} {v:Int} {es:List Exn} (hm:∀ w∈l,mod1 w) (hl:l.length≤10000) (hes:es.length≤10000) (he:∀ e∈es,0≤e.start∧0≤e.count∧e.start+e.count≤4096):cal env 98 [.list 3 (l.map eWr),.int .i64 v,.list 2 (es.map eExt)]=some [(.list 3 ((es.map (pkO l v)).map eWr),true)]:=by
 rw [cal_code env98 rfl];simp only [fn98,slAll,Nat.reduceBEq,Nat.reduceLeDiff,Nat.reduceAdd,List.length_cons,List.length_nil]
 simp only [List.length_map,slAll,slsAll,Nat.reduceMul,Nat.reduceBEq,Nat.reduceLT,Nat.reduceLeDiff,memAll,vAll,reduceCtorEq,Nat.reduceEqDiff,Nat.reduceAdd,Nat.reduceLT,Nat.reduceLeDiff,Nat.beq]
 rw [loop98l3 (l:=l) (v:=v) (es:=es) hm hl hes he (by simp only [show pkL l v es 0=[] from rfl,List.map_nil];simp only [slAll,slsAll,Nat.reduceMul,Nat.reduceBEq,Nat.reduceLT,Nat.reduceLeDiff,Nat.reduceAdd,decide_true,Bool.and_self,Bool.true_and]<;>rfl)]
 rw [show es.map (pkO l v)=pkL l v es es.length by unfold pkL;rw [List.take_length]]
 simp only [List.length_map,slAll,slsAll,Nat.reduceMul,Nat.reduceBEq,Nat.reduceLT,Nat.reduceLeDiff,memAll,vAll,reduceCtorEq,Nat.reduceEqDiff,Nat.reduceAdd,Nat.reduceLT,Nat.reduceLeDiff,Nat.beq]
def mostZ (n:Nat):List Int:=List.replicate n 4096
theorem loop97  {st:St} (h:st.head [1,2,9] st.boxes.length=some ⟨sl 11 [(1,.row 1 ((mostZ ((0:Nat))).map eI)),(2,.pv (.int .i64 (((0:Nat):Nat):Int))),(9,.any)],[],[],none⟩) :
  den env fn97_l1 st=some (.normal,⟨sl 11 [(0,.any),(1,.row 1 ((mostZ 8).map eI))],[],[],none⟩):=by
 unfold fn97_l1
 refine clean_up (env:=env) (nb:=0) (8) (fun i=>⟨sl 11 [(1,.row 1 ((mostZ (i)).map eI)),(2,.pv (.int .i64 ((i:Nat):Int))),(9,.any)],[],[],none⟩) (fun i=>some (.normal,⟨sl 11 [(0,.any),(1,.row 1 ((mostZ 8).map eI))],[],[],none⟩)) h (fun _=>rfl) (fun _=>by simp only [slAll,slsAll,Nat.reduceMul,Nat.reduceBEq,Nat.reduceLT,Nat.reduceLeDiff,Nat.reduceAdd,decide_true,Bool.and_self,Bool.true_and]) ?_ ?_
 ·intro i rb hi ih
  have hi1:=i64_next (n:=8) hi (by unfold lim;omega)
  have F1:((i:Int)<8)=True:=eq_true (by omega)
  have F5:((mostZ i).length+1≤lim)=True:=eq_true (by unfold mostZ;rw [List.length_replicate];unfold lim;omega)
  have hs:(mostZ (i+1)).map eI=(mostZ i).map eI++[.int .i64 4096]:=by
   unfold mostZ;rw [List.replicate_succ',List.map_append];rfl
  rw [hs] at ih
  simp only [fn97_b0,F1,F5,List.length_map,slAll,slsAll,Nat.reduceMul,Nat.reduceBEq,Nat.reduceLT,Nat.reduceLeDiff,memAll,vAll,reduceCtorEq,Nat.reduceEqDiff,Nat.reduceAdd,Nat.reduceLT,Nat.reduceLeDiff,Nat.beq]
  rw [ih _ (by simp only [hi1,slAll,slsAll,Nat.reduceMul,Nat.reduceBEq,Nat.reduceLT,Nat.reduceLeDiff,memAll,vAll,reduceCtorEq,Nat.reduceEqDiff,Nat.reduceAdd,Nat.reduceLT,Nat.reduceLeDiff,Nat.beq]<;>rfl)]
 ·intro rb
  have F1:(((8:Nat):Int)<8)=False:=eq_false (by omega)
  simp only [fn97_b0,F1,List.length_map,slAll,slsAll,Nat.reduceMul,Nat.reduceBEq,Nat.reduceLT,Nat.reduceLeDiff,memAll,vAll,reduceCtorEq,Nat.reduceEqDiff,Nat.reduceAdd,Nat.reduceLT,Nat.reduceLeDiff,Nat.beq]
theorem cal97:cal env 97 []=some [(.list 1 ((mostZ 8).map eI),true)]:=by
 rw [cal_code env97 rfl];simp only [fn97,slAll,Nat.reduceBEq,Nat.reduceLeDiff,Nat.reduceAdd,List.length_cons,List.length_nil]
 simp only [ slAll,slsAll,Nat.reduceMul,Nat.reduceBEq,Nat.reduceLT,Nat.reduceLeDiff,memAll,vAll,reduceCtorEq,Nat.reduceEqDiff,Nat.reduceAdd,Nat.reduceLT,Nat.reduceLeDiff,Nat.beq]
 rw [loop97 (by simp only [slAll,slsAll,Nat.reduceMul,Nat.reduceBEq,Nat.reduceLT,Nat.reduceLeDiff,Nat.reduceAdd,decide_true,Bool.and_self,Bool.true_and]<;>rfl)]
 simp only [ slAll,slsAll,Nat.reduceMul,Nat.reduceBEq,Nat.reduceLT,Nat.reduceLeDiff,memAll,vAll,reduceCtorEq,Nat.reduceEqDiff,Nat.reduceAdd,Nat.reduceLT,Nat.reduceLeDiff,Nat.beq]
end Go.Proofs.YtpcncggjmabnaaaGreatDoor.V

namespace Go.Proofs.YtpcncggjmabnaaaGreatDoor
open Go.RowKit Go.ChangeShapes Go.WideShapes Go.ChangeAt
theorem resrep_true {T:Tags} {w:World} {b:Bool} {v:Value} (h:ResRep T w [(.bool b,false)] v):v=.bool b:=by
 obtain ⟨arr,h1,h2,h3⟩:=h
 have ha:arr.size=1:=h1
 have e0:arr[0]?=some arr[0]:=Array.getElem?_eq_getElem (by omega)
 have hv:v=arr[0]:=by rw [h2,if_pos ha,Array.getD_eq_getD_getElem?,e0];rfl
 have hr:PRep (fun b=>T b=.ro) w (.bool b) arr[0]:=h3 0 (.bool b,false) arr[0] rfl e0
 rw [hv]
 exact hr.bool_inv
def GlobIn (w:World):Prop:=GlobOk (fun b=>if b<w.heap.size then .ro else .other) w
theorem calls_true {P:Program} {env:Env} {f:Nat} {args:List PV} {vs:List Value} {w:World} (hE:EnvOk P env) (h:cal env f args=some [(.bool true,false)]) (hl:vs.length=args.length)
  (hr:∀ (i:Nat) x v,args[i]?=some x→vs[i]?=some v→PRep (fun b=>b<w.heap.size) w x v) (hG:GlobIn w):Calls P f vs.toArray w (fun e w'=>e=.returned (.bool true)∧Below w.heap.size w w'):=by
 obtain ⟨n,hn⟩:=vmCall_of_cal h
 have hC:=(vmCall_ok hE hn).2 (fun b=>if b<w.heap.size then .ro else .other) w vs (fun b=>by
  by_cases hb:b<w.heap.size
  ·exact .inl (if_pos hb)
  ·exact .inr (if_neg hb)) (fun b hb=>if_neg (by omega)) hl (fun i x v hx hv=>(hr i x v hx hv).frame fun b hb _=>⟨if_pos hb,rfl⟩) hG
 refine hC.mono ?_
 rintro e w' ⟨v,T',rfl,h1,_,_,h2⟩
 exact ⟨by rw [resrep_true h2],h1⟩
def RepAll (w:World):List PV→List Value→Prop
 |[],[]=>True
 |x :: xs,v :: vs=>PRep (fun b=>b<w.heap.size) w x v∧RepAll w xs vs
 |_,_=>False
theorem RepAll.get {w:World}:∀ {xs:List PV} {vs:List Value},RepAll w xs vs→vs.length=xs.length∧∀ (i:Nat) x v,xs[i]?=some x→vs[i]?=some v→PRep (fun b=>b<w.heap.size) w x v
 |[],[],_=>⟨rfl,fun i x v hx=>by simp at hx⟩
 |x :: xs,v :: vs,h=>by
  obtain ⟨h1,h2⟩:=h
  obtain ⟨k1,k2⟩:=h2.get
  refine ⟨by simp [k1],fun i y u hy hu=>?_⟩
  cases i with
  |zero=>cases hy;cases hu;exact h1
  |succ i=>exact k2 i y u hy hu
 |[],_ :: _,h=>h.elim
 |_ :: _,[],h=>h.elim
theorem calls_all {P:Program} {env:Env} {f:Nat} {args:List PV} {vs:List Value} {w:World} (hE:EnvOk P env) (h:cal env f args=some [(.bool true,false)]) (hr:RepAll w args vs) (hG:GlobIn w:=by exact GlobIn.none):Calls P f vs.toArray w (fun e w'=>e=.returned (.bool true)∧Below w.heap.size w w') :=
 calls_true hE h hr.get.1 hr.get.2 hG
def CRep (w:World) (cs:List Value) (ps:List PV):Prop :=
 cs.length=ps.length∧(∀ c∈cs,c.oneCell'=true)∧∀ (j:Nat) x v,ps[j]?=some x→cs[j]?=some v→PRep (fun b=>b<w.heap.size) w x v
def RdsC (P:Program) (t:TypeId) (n:Nat) (S:List PV→Prop):Prop :=
 P.cellsOf t=n∧∀ {H:Type} {enc:TypeId × Value→H} {w:World} {fuel:Nat} {cs:List Value} {x:DataW H × List MemPlace},DataW.trod enc P w 0 (fun _=>true) true fuel t cs=some x→∃ ps,S ps∧ps.length=n∧CRep w cs ps
def SInt (k:IntKind) (ps:List PV):Prop:=∃ n,(Lit.int k n).wf=true∧ps=[.int k n]
def SBool (ps:List PV):Prop:=∃ b,ps=[.bool b]
def SArr (n:Nat) (S:List PV→Prop) (ps:List PV):Prop:=ps.length=n∧∀ p∈ps,S [p]
def SList (n:Nat) (S:List PV→Prop) (wr:List PV→PV) (ps:List PV):Prop:=∃ es,ps=[.list n es]∧∀ x∈es,∃ q,S q∧x=wr q
def SCat:List (List PV→Prop)→List PV→Prop
 |[],ps=>ps=[]
 |S :: Ss,ps=>∃ p q,ps=p++q∧S p∧SCat Ss q
section
variable {P:Program} {t e:TypeId} {n m:Nat} {S:List PV→Prop} {k:IntKind}
theorem crep_one {w:World} {c:Value} {p:PV} (hc:c.oneCell'=true) (h:PRep (fun b=>b<w.heap.size) w p c):CRep w [c] [p] :=
 ⟨rfl,fun x hx=>by rw [List.mem_singleton.1 hx];exact hc,fun j x v hx hv=>by
  cases j with
  |zero=>cases hx;cases hv;exact h
  |succ j=>simp at hx⟩
theorem RdsC.int (ht:P.underlying t=some (.int k)) (hc:P.cellsOf t=1):RdsC P t 1 (SInt k):=⟨hc,fun h=>by
 obtain ⟨n,rfl,_,hw⟩:=DataW.trod_int ht h
 exact ⟨[.int k n],⟨n,hw,rfl⟩,rfl,crep_one rfl (.int k n)⟩⟩
theorem RdsC.bool (ht:P.underlying t=some .bool) (hc:P.cellsOf t=1):RdsC P t 1 SBool:=⟨hc,fun h=>by
 obtain ⟨b,rfl,_⟩:=DataW.trod_bool ht h
 exact ⟨[.bool b],⟨b,rfl⟩,rfl,crep_one rfl (.bool b)⟩⟩
theorem each_pick {α:Type} {p:Nat→α→Prop}:∀ n:Nat,(∀ i,i<n→∃ y,p i y)→∃ l:List α,l.length=n∧∀ i x,l[i]?=some x→p i x
 |0,_=>⟨[],rfl,fun i x h=>by simp at h⟩
 |n+1,h=>by
  obtain ⟨l,h1,h2⟩:=each_pick n fun i hi=>h i (by omega)
  obtain ⟨y,hy⟩:=h n (by omega)
  refine ⟨l++[y],by simp [h1],fun i x hx=>?_⟩
  by_cases hi:i<n
  ·rw [List.getElem?_append_left (by omega)] at hx;exact h2 i x hx
  ·have:=(List.getElem?_eq_some_iff.1 hx).1
   obtain rfl:i=n:=by simp at this;omega
   rw [List.getElem?_append_right (by omega),h1,Nat.sub_self] at hx
   cases hx
   exact hy
theorem RdsC.arr (ht:P.underlying t=some (.array n e)) (he:RdsC P e 1 S) (hc:P.cellsOf t=n):RdsC P t n (SArr n S):=⟨hc,fun {H enc w fuel cs x} h=>by
 obtain ⟨xs,m,_,_,hl,hx,hE⟩:=DataW.trod_array ht h
 rw [hc] at hl
 obtain ⟨l,h1,h2⟩:=each_pick (p:=fun i (b:PV)=>S [b]∧∃ c,cs[i]?=some c∧c.oneCell'=true∧PRep (fun b=>b<w.heap.size) w b c) n fun i hi=>by
  have:=hE i hi
  rw [List.getElem?_eq_getElem (by omega),he.1] at this
  obtain ⟨ps,g1,g2,g3,g4,g5⟩:=he.2 this
  match ps,g2 with
  |[p],_ =>
   have hci:cs[i]?=some cs[i]:=List.getElem?_eq_getElem (by omega)
   have h0:((cs.drop (i * 1)).take 1)[0]?=some cs[i]:=by
    rw [List.getElem?_take,if_pos (by decide),List.getElem?_drop]
    simpa using hci
   exact ⟨p,g1,cs[i],hci,g4 _ (List.mem_of_getElem? h0),g5 0 p _ rfl h0⟩
 refine ⟨l,⟨h1,fun p hp=>?_⟩,h1,by omega,fun c hc=>?_,fun j x v hx hv=>?_⟩
 ·obtain ⟨i,hi⟩:=List.mem_iff_getElem?.1 hp
  exact (h2 i p hi).1
 ·obtain ⟨i,hi⟩:=List.mem_iff_getElem?.1 hc
  have hil:i<l.length:=by
   have:=(List.getElem?_eq_some_iff.1 hi).1
   omega
  obtain ⟨_,c',e1,e2,_⟩:=h2 i l[i] (List.getElem?_eq_getElem hil)
  rw [hi] at e1;cases e1;exact e2
 ·obtain ⟨_,c',e1,_,e3⟩:=h2 j x hx
  rw [hv] at e1;cases e1;exact e3⟩
theorem cellish_of {w:World} {b off:Nat} {v:Value} (h:w.cell? ⟨b,off,none⟩=some v):Cellish w b:=by
 unfold World.cell? at h
 split at h
 ·rename_i arr E q hb
  exact ⟨arr,E,q,hb⟩
 ·cases h
theorem RdsC.list {wr:List PV→PV} (ht:P.underlying t=some (.slice e)) (hc:P.cellsOf t=1) (hr:RdsC P e n S) (hpos:0<n) (hw:∀ ps,S ps→ps.length=n→(wr ps).cells=ps):RdsC P t 1 (SList n S wr):=⟨hc,fun {H enc w fuel cs x} h=>by
 rcases DataW.trod_slice ht h with ⟨rfl,_⟩|⟨a,len,cap,elems,rest,m,_,rfl,_,_,hl,hm,hel,hE,hR,_⟩
 ·exact ⟨[.list n []],⟨[],rfl,fun x hx=>by cases hx⟩,rfl,crep_one rfl (.nil n none)⟩
 ·obtain ⟨l,h1,h2⟩:=each_pick (p:=fun i (y:List Value × List PV)=>w.cells? 0 (a.add (i * n)) n=some y.1∧S y.2∧y.2.length=n∧CRep w y.1 y.2) len fun i hi=>by
   have:=hE i hi
   rw [List.getElem?_eq_getElem (by omega),hr.1,Option.bind_eq_some_iff] at this
   obtain ⟨c,h3,h4⟩:=this
   obtain ⟨ps,g1,g2,g3⟩:=hr.2 h4
   exact ⟨(c,ps),h3,g1,g2,g3⟩
  refine ⟨[.list n (l.map fun y=>wr y.2)],⟨_,rfl,fun x hx=>?_⟩,rfl,crep_one rfl ?_⟩
  ·obtain ⟨y,hy,rfl⟩:=List.mem_map.1 hx
   obtain ⟨i,hi⟩:=List.mem_iff_getElem?.1 hy
   exact ⟨y.2,(h2 i y hi).2.1,rfl⟩
  ·by_cases hcap:cap=0
   ·have:len=0:=by omega
    subst hcap;subst this
    have:l=[]:=List.eq_nil_of_length_eq_zero h1
    subst this
    exact .nil n (some a)
   ·-- there are cells
    have hcell:∃ off v,w.cell? ⟨a.block,off,none⟩=some v∧a.spot=none:=by
     have fromc:∀ (i:Nat) (c:List Value),w.cells? 0 (a.add (i * n)) n=some c→∃ off v,w.cell? ⟨a.block,off,none⟩=some v∧a.spot=none:=fun i c h3=>by
      obtain ⟨_,hc0,h4⟩:=World.cells?_some h3
      have h5:=h4 0 hpos
      rw [List.getElem?_eq_getElem (by omega)] at h5
      have hs:(a.add (i * n)).spot=none:=by simpa [Addr.add] using World.cell?_spot h5
      have hs0:a.spot=none:=by
       unfold Addr.add at hs
       split at hs
       ·exact hs
       ·rename_i hne
        by_cases h0:i * n=0
        ·rename_i q;exact absurd h0 (by simpa using hne)
        ·rcases Nat.eq_zero_or_pos i with hi0|hi0
         ·subst hi0;simp at h0
         ·-- the row begins at a: its first cell
          have:0<len∨len=0:=by omega
          rcases this with hlen|hlen
          ·obtain ⟨y,hy⟩:∃ y,l[0]?=some y:=⟨l[0],List.getElem?_eq_getElem (by omega)⟩
           obtain ⟨_,hc1,h6⟩:=World.cells?_some (h2 0 y hy).1
           have h7:=h6 0 hpos
           rw [List.getElem?_eq_getElem (by omega)] at h7
           simpa [Addr.add] using World.cell?_spot h7
          ·have hrl:0<rest.length:=by have:=(hR rfl).1;omega
           have:=(hR rfl).2 0 (by omega)
           have h8:rest[0]?=some rest[0]:=List.getElem?_eq_getElem hrl
           rw [h8,hr.1,hlen,Option.bind_eq_some_iff] at this
           obtain ⟨c1,h9,_⟩:=this
           obtain ⟨_,hc1,h6⟩:=World.cells?_some h9
           have h7:=h6 0 hpos
           rw [List.getElem?_eq_getElem (by omega)] at h7
           simpa [Addr.add] using World.cell?_spot h7
      obtain ⟨b,off,spot⟩:=a
      simp only at hs0
      subst hs0
      rw [Addr.add_lit,Addr.add_lit] at h5
      exact ⟨_,_,h5,rfl⟩
     rcases Nat.eq_zero_or_pos len with hlen|hlen
     ·have hrl:0<rest.length:=by have:=(hR rfl).1;omega
      have:=(hR rfl).2 0 (by omega)
      have h8:rest[0]?=some rest[0]:=List.getElem?_eq_getElem hrl
      rw [h8,hr.1,Option.bind_eq_some_iff] at this
      obtain ⟨c1,h9,_⟩:=this
      exact fromc _ c1 h9
     ·obtain ⟨y,hy⟩:∃ y,l[0]?=some y:=⟨l[0],List.getElem?_eq_getElem (by omega)⟩
      exact fromc 0 _ (h2 0 y hy).1
    obtain ⟨off0,v0,hv0,hspot⟩:=hcell
    obtain ⟨b,off,spot⟩:=a
    simp only at hspot hv0
    subst hspot
    have hC:Cellish w b:=cellish_of hv0
    have hget:∀ (i:Nat) x,(l.map fun y=>wr y.2)[i]?=some x→∃ y,l[i]?=some y∧x=wr y.2:=fun i x hx=>by
     rw [List.getElem?_map] at hx
     cases e:l[i]? with
     |none=>rw [e] at hx;cases hx
     |some y=>rw [e] at hx;exact ⟨y,rfl,(Option.some.inj hx).symm⟩
    have hlen:(l.map fun y=>wr y.2).length=len:=by simp [h1]
    have:=PRep.list (ok:=fun b=>b<w.heap.size) (w:=w) n (l.map fun y=>wr y.2) b off cap (fun i j=>(((l[i]?).map (·.1)).getD []).getD j default) hC.lt hC (by rw [hlen];exact hl) hm
     (fun x hx=>by
      obtain ⟨i,hi⟩:=List.mem_iff_getElem?.1 hx
      obtain ⟨y,hy,rfl⟩:=hget i x hi
      obtain ⟨_,g1,g2,_⟩:=h2 i y hy
      rw [hw _ g1 g2,g2])
     (fun i x j p hi hj=>by
      obtain ⟨y,hy,rfl⟩:=hget i x hi
      obtain ⟨g0,g1,g2,g3,g4,g5⟩:=h2 i y hy
      rw [hw _ g1 g2] at hj
      have hjn:j<n:=by have:=(List.getElem?_eq_some_iff.1 hj).1;omega
      obtain ⟨_,hc1,h6⟩:=World.cells?_some g0
      have h7:=h6 j hjn
      have hcj:y.1[j]?=some y.1[j]:=List.getElem?_eq_getElem (by omega)
      have hd:(((l[i]?).map (·.1)).getD []).getD j default=y.1[j]:=by
       rw [hy];simp [List.getD_eq_getElem?_getD,hcj]
      rw [hd]
      rw [hcj,Addr.add_lit,Addr.add_lit] at h7
      exact ⟨h7,g4 _ (List.mem_of_getElem? hcj)⟩)
     (fun i x j p hi hj=>by
      obtain ⟨y,hy,rfl⟩:=hget i x hi
      obtain ⟨g0,g1,g2,g3,g4,g5⟩:=h2 i y hy
      rw [hw _ g1 g2] at hj
      have hjn:j<n:=by have:=(List.getElem?_eq_some_iff.1 hj).1;omega
      have hcj:y.1[j]?=some y.1[j]:=List.getElem?_eq_getElem (by omega)
      have hd:(((l[i]?).map (·.1)).getD []).getD j default=y.1[j]:=by
       rw [hy];simp [List.getD_eq_getElem?_getD,hcj]
      rw [hd]
      exact g5 j p _ hj hcj)
    rw [hlen] at this
    exact this⟩
theorem CRep.append {w:World} {c1 c2:List Value} {p1 p2:List PV} (h1:CRep w c1 p1) (h2:CRep w c2 p2):CRep w (c1++c2) (p1++p2):=by
 obtain ⟨a1,a2,a3⟩:=h1
 obtain ⟨b1,b2,b3⟩:=h2
 refine ⟨by simp [a1,b1],fun c hc=>?_,fun j x v hx hv=>?_⟩
 ·rcases List.mem_append.1 hc with h|h
  ·exact a2 c h
  ·exact b2 c h
 ·by_cases hj:j<p1.length
  ·rw [List.getElem?_append_left hj] at hx
   rw [List.getElem?_append_left (by omega)] at hv
   exact a3 j x v hx hv
  ·rw [List.getElem?_append_right (by omega)] at hx
   rw [List.getElem?_append_right (by omega),a1] at hv
   exact b3 _ x v hx hv
inductive Flds (P:Program):Nat→List Field→List (List PV→Prop)→Nat→Prop
 |nil (o:Nat):Flds P o [] [] 0
 |cons {o n m:Nat} {f:Field} {fs:List Field} {S:List PV→Prop} {Ss:List (List PV→Prop)}:f.offset=o→RdsC P f.type n S→Flds P (o+n) fs Ss m→Flds P o (f :: fs) (S :: Ss) (n+m)
theorem Flds.read {o:Nat} {fs:List Field} {Ss:List (List PV→Prop)} (h:Flds P o fs Ss m) {H:Type} {enc:TypeId × Value→H} {w:World} {fuel:Nat} {cs:List Value} {xs:List (DataW H × List MemPlace)} (hl:cs.length=o+m)
  (hx:∀ (i:Nat) (f:Field),fs[i]?=some f→∃ x,DataW.trod enc P w 0 (fun _=>true) true fuel f.type ((cs.drop f.offset).take (P.cellsOf f.type))=some x):∃ ps,SCat Ss ps∧ps.length=m∧CRep w (cs.drop o) ps:=by
 induction h with
 |nil o=>exact ⟨[],rfl,rfl,by rw [List.drop_of_length_le (by omega)];exact (⟨rfl,fun c hc=>(by cases hc),fun j x v hx=>(by simp at hx)⟩:CRep w [] [])⟩
 |@cons o n m f fs S Ss h1 h2 h3 ih =>
  obtain ⟨x,h4⟩:=hx 0 f rfl
  rw [h2.1,h1] at h4
  obtain ⟨p,g1,g2,g3⟩:=h2.2 h4
  obtain ⟨q,k1,k2,k3⟩:=ih (by omega) (fun i f hf=>hx (i+1) f hf)
  refine ⟨p++q,⟨p,q,rfl,g1,k1⟩,by simp [g2,k2],?_⟩
  have:cs.drop o=(cs.drop o).take n++cs.drop (o+n):=by rw [← List.drop_drop,List.take_append_drop]
  rw [this]
  exact g3.append k3
theorem RdsC.struct {fs:Array Field} {Ss:List (List PV→Prop)} (ht:P.underlying t=some (.struct fs)) (hf:Flds P 0 fs.toList Ss n) (hc:P.cellsOf t=n):RdsC P t n (SCat Ss):=⟨hc,fun {H enc w fuel cs x} h=>by
 obtain ⟨xs,m,_,_,hl,hx,hE⟩:=DataW.trod_struct ht h
 obtain ⟨ps,h1,h2,h3⟩:=hf.read (xs:=xs) (enc:=enc) (w:=w) (fuel:=m) (cs:=cs) (by omega) (fun i f hi=>by
  have hi':fs[i]?=some f:=by simpa using hi
  have:=hE i f hi'
  have hil:i<xs.length:=by rw [hx];exact (Array.getElem?_eq_some_iff.1 hi').1
  exact ⟨xs[i],by rw [this,List.getElem?_eq_getElem hil]⟩)
 exact ⟨ps,h1,h2,by simpa using h3⟩⟩
theorem RdsC.struct3 {f0 f1 f2:Field} {n0 n1 n2:Nat} {S0 S1 S2:List PV→Prop} (ht:P.underlying t=some (.struct #[f0,f1,f2])) (h0:RdsC P f0.type n0 S0) (h1:RdsC P f1.type n1 S1) (h2:RdsC P f2.type n2 S2) (o0:f0.offset=0) (o1:f1.offset=0+n0) (o2:f2.offset=0+n0+n1) (hc:P.cellsOf t=n0+(n1+(n2+0))):RdsC P t (n0+(n1+(n2+0))) (SCat [S0,S1,S2]) :=
 RdsC.struct ht (show Flds P 0 [f0,f1,f2] [S0,S1,S2] (n0+(n1+(n2+0))) from .cons o0 h0 (.cons o1 h1 (.cons o2 h2 (.nil _)))) hc
theorem arg_one {H:Type} {enc:TypeId × Value→H} {w:World} {v:Value} {d:DataW H} {p:List MemPlace} (hr:RdsC P t 1 S) (hone:v.cells.toList=[v]) (h:DataW.Trod enc P w 0 (fun _=>true) true t v d p) :
  ∃ q,S [q]∧PRep (fun b=>b<w.heap.size) w q v:=by
 obtain ⟨fuel,hf⟩:=h
 obtain ⟨ps,h1,h2,h3,h4,h5⟩:=hr.2 hf
 match ps,h2 with
 |[q],_=>exact ⟨q,h1,h5 0 q v rfl (by rw [hone];rfl)⟩
theorem arg_int {H:Type} {enc:TypeId × Value→H} {w:World} {v:Value} {d:DataW H} {p:List MemPlace} {m:Reach} {base:Nat} (ht:P.underlying t=some (.int k)) (hr:RdsC P t 1 S) (hv:Value.okWide P w m base t v) (h:DataW.Trod enc P w 0 (fun _=>true) true t v d p) :
  ∃ q,S [q]∧PRep (fun b=>b<w.heap.size) w q v:=by
 have:v.cells.toList=[v]:=by
  simp only [Value.okWide,ht,Cell.okWide] at hv
  cases v<;>simp_all [Cell.ok,Value.cells]
 exact arg_one hr this h
end
end Go.Proofs.YtpcncggjmabnaaaGreatDoor

namespace Go.Proofs.YtpcncggjmabnaaaGreatDoor
open Go.RowKit
structure LaterB (W:World) (g:Nat) where
 w:World
 grown:W.grownBy w (some g)
instance (W:World) (g:Nat):Nonempty (LaterB W g):=⟨⟨W,World.grownBy.refl _ _⟩⟩
theorem LaterB.of {W w:World} {g:Nat} (h:W.grownBy w (some g)):∃ x:LaterB W g,w=x.w:=⟨⟨w,h⟩,rfl⟩
theorem grown_drew (W:World) (row:Option Nat):W.grownBy W.drew row:=⟨rfl,rfl,rfl,Nat.le_refl _,fun _ _ _=>rfl⟩
theorem LaterB.drew (W:World) (g:Nat):∃ x:LaterB W g,W.drew=x.w:=LaterB.of (grown_drew _ _)
theorem cellLaterB {w:World} {g:Nat} {a:Addr} {v:Value} (h:w.cell? a=some v) (hne:a.block≠g):∀ x:LaterB w g,x.w.cell? a=some v:=fun x =>
 x.grown.cell h fun e=>hne (Option.some.inj e)
theorem grown_trans {a b c:World} {row:Option Nat} (h:a.grownBy b row) (k:b.grownBy c row):a.grownBy c row :=
 ⟨k.os.trans h.os,k.tape.trans h.tape,k.output.trans h.output,Nat.le_trans h.size k.size,fun i hi hr=>(k.block i (Nat.lt_of_lt_of_le hi h.size) hr).trans (h.block i hi hr)⟩
theorem grown_below {B:Nat} {w w':World} {row:Option Nat} (h:w.grownBy w' row) (hB:B≤w.heap.size) (hr:∀ k,row=some k→B≤k):Below B w w':=(Below.refl B w).grown h hB hr
theorem below_grown {w w':World} (h:Below w.heap.size w w'):w.grownBy w' none:=⟨h.os,h.tape,h.output,h.size,fun k hk _=>h.block k hk⟩
theorem boxCell {w w1:World} {cs:Array Value} {T:TypeId} (hb:Below (w.alloc (.cells cs T)).heap.size (w.alloc (.cells cs T)) w1) {j:Nat} {v:Value} (h:cs[j]?=some v):w1.cell? ⟨w.heap.size,j,none⟩=some v:=by
 rw [hb.cell (p:=⟨w.heap.size,j,none⟩) (by simp),World.cell?_alloc_mark w cs T (0,0) j,h]
theorem news_new (w:World) (E:TypeId) (cs:Array Value):∀ j u,cs.toList[j]?=some u→(w.alloc (.cells cs E)).cell? ((⟨w.heap.size,0,none⟩:Addr).add j)=some u:=fun j u hu=>by
 rw [Addr.add_lit,Nat.zero_add,World.cell?_alloc_mark w cs E (0,0) j]
 simpa using hu
theorem rd_below {α:Type} {r:Rep α} {ok:Nat→Prop} {w w':World} {cs:List Value} {x:α} (h:r.rd ok w cs x) (hb:Below w.heap.size w w'):r.rd ok w' cs x :=
 r.mono (fun _ hb=>hb.1) (r.frame (fun b hb'=>hb.block b hb'.2) (r.live h))
theorem rd_alloc {α:Type} {r:Rep α} {ok:Nat→Prop} {w:World} {cs:List Value} {x:α} (h:r.rd ok w cs x) {o:Obj}:r.rd ok (w.alloc o) cs x:=rd_below h ((Below.refl _ _).alloc (Nat.le_refl _) _)
def ChunksD {α:Type} (r:Rep α) (tag:Nat→Nat) (ok:Nat→Prop) (w:World):Nat→List Value→List α→Prop
 |_,xs,[]=>xs=[]
 |i,xs,x :: l=>∃ c rest,xs=c++rest∧r.rd (fun b=>ok b∧tag b=i) w c x∧ChunksD r tag ok w (i+1) rest l
section
variable {α:Type} {r:Rep α} {tag tag':Nat→Nat} {ok ok':Nat→Prop} {w w':World}
theorem ChunksD.mono (hk:∀ b,ok b→ok' b):∀ {l:List α} {i:Nat} {xs:List Value},ChunksD r tag ok w i xs l→ChunksD r tag ok' w i xs l
 |[],_,_,h=>h
 |_ :: _,_,_,⟨c,rest,e,h1,h2⟩=>⟨c,rest,e,r.mono (fun b hb=>⟨hk b hb.1,hb.2⟩) h1,h2.mono hk⟩
theorem ChunksD.retag (hk:∀ b,ok b→tag' b=tag b):∀ {l:List α} {i:Nat} {xs:List Value},ChunksD r tag ok w i xs l→ChunksD r tag' ok w i xs l
 |[],_,_,h=>h
 |_ :: _,_,_,⟨c,rest,e,h1,h2⟩=>⟨c,rest,e,r.mono (fun b hb=>⟨hb.1,by rw [hk b hb.1];exact hb.2⟩) h1,h2.retag hk⟩
theorem ChunksD.live:∀ {l:List α} {i:Nat} {xs:List Value},ChunksD r tag ok w i xs l→ChunksD r tag (fun b=>ok b∧b<w.heap.size) w i xs l
 |[],_,_,h=>h
 |_ :: _,_,_,⟨c,rest,e,h1,h2⟩=>⟨c,rest,e,r.mono (fun b hb=>⟨⟨hb.1.1,hb.2⟩,hb.1.2⟩) (r.live h1),h2.live⟩
theorem ChunksD.frame (hf:∀ b,ok b→w'.heap[b]?=w.heap[b]?):∀ {l:List α} {i:Nat} {xs:List Value},ChunksD r tag ok w i xs l→ChunksD r tag ok w' i xs l
 |[],_,_,h=>h
 |_ :: _,_,_,⟨c,rest,e,h1,h2⟩=>⟨c,rest,e,r.frame (fun b hb=>hf b hb.1) h1,h2.frame hf⟩
theorem ChunksD.chunks:∀ {l:List α} {i:Nat} {xs:List Value},ChunksD r tag ok w i xs l→Chunks r ok w xs l
 |[],_,_,h=>h
 |_ :: _,_,_,⟨c,rest,e,h1,h2⟩=>⟨c,rest,e,r.mono (fun b hb=>hb.1) h1,h2.chunks⟩
theorem ChunksD.snoc {c:List Value} {x:α}:∀ {l:List α} {i:Nat} {xs:List Value},ChunksD r tag ok w i xs l→r.rd (fun b=>ok b∧tag b=i+l.length) w c x→ChunksD r tag ok w i (xs++c) (l++[x])
 |[],i,xs,h,hc=>by
  simp only [ChunksD] at h
  subst h
  exact ⟨c,[],by simp,by simpa using hc,rfl⟩
 |y :: l,i,xs,⟨d,rest,e,h1,h2⟩,hc=>⟨d,rest++c,by rw [e,List.append_assoc],h1,h2.snoc (by rw [List.length_cons] at hc;rw [show i+1+l.length=i+(l.length+1) by omega];exact hc)⟩
theorem ChunksD.pick:∀ {l:List α} {i:Nat} {xs:List Value},ChunksD r tag ok w i xs l→∀ {k:Nat} {x:α},l[k]?=some x →
  ∃ c,(∀ j,j<r.sz→xs[k * r.sz+j]?=c[j]?)∧r.rd (fun b=>ok b∧tag b=i+k) w c x ∧
   ∀ (w':World) (x':α),(∀ b,ok b→tag b≠i+k→w'.heap[b]?=w.heap[b]?)→r.rd (fun b=>ok b∧tag b=i+k) w' c x'→ChunksD r tag ok w' i xs (l.set k x')
 |[],_,_,_,k,x,hx=>by simp at hx
 |y :: l,i,xs,⟨c,rest,e,h1,h2⟩,0,x,hx=>by
  simp only [List.getElem?_cons_zero,Option.some.injEq] at hx
  subst hx
  refine ⟨c,fun j hj=>by rw [e,Nat.zero_mul,Nat.zero_add,List.getElem?_append_left (by rw [r.len h1];exact hj)],h1,fun w' x' hf hr=>?_⟩
  refine ⟨c,rest,e,hr,?_⟩
  -- the tail's elements bear other tags
  have:∀ {l:List α} {m:Nat} {xs:List Value},i<m→ChunksD r tag ok w m xs l→ChunksD r tag ok w' m xs l:=by
   intro l
   induction l with
   |nil=>intro m xs _ h;exact h
   |cons z l ih =>
    intro m xs hm h
    obtain ⟨d,rs,e',h3,h4⟩:=h
    exact ⟨d,rs,e',r.frame (fun b hb=>hf b hb.1 (by rw [hb.2];omega)) h3,ih (by omega) h4⟩
  exact this (Nat.lt_succ_self _) h2
 |y :: l,i,xs,⟨c,rest,e,h1,h2⟩,k+1,x,hx=>by
  obtain ⟨d,h3,h4,h5⟩:=h2.pick (k:=k) (x:=x) (by simpa using hx)
  have ei:i+1+k=i+(k+1):=by omega
  refine ⟨d,fun j hj=>?_,by rw [← ei];exact h4,fun w' x' hf hr=>?_⟩
  ·rw [e,List.getElem?_append_right (by rw [r.len h1,Nat.add_mul];omega),r.len h1,← h3 j hj]
   congr 1
   rw [Nat.add_mul];omega
  ·refine ⟨c,rest,e,r.frame (fun b hb=>hf b hb.1 (by rw [hb.2];omega)) h1,?_⟩
   exact h5 w' x' (fun b hb hne=>hf b hb (by rw [← ei];exact hne)) (by rw [ei];exact hr)
end
def OwnD {α:Type} (r:Rep α) (B F:Nat) (E:TypeId) (w:World) (v:Value) (l:List α):Prop :=
 ∃ tag xs,w.ownsRow B E r.sz v l.length xs∧ChunksD r tag (fun b=>B≤b∧b<F∧Option.some b≠v.ownBlock) w 0 xs l
section
variable {α:Type} {r:Rep α} {B F:Nat} {E:TypeId} {w w':World} {v:Value} {l:List α}
theorem OwnD.nil (r:Rep α) (B F:Nat) (E:TypeId) (w:World):OwnD r B F E w (.slice none 0 0) []:=⟨fun _=>0,[],World.ownsRow_nil _ _ _ _,rfl⟩
theorem OwnD.up {F':Nat} (h:OwnD r B F E w v l) (hF:F≤F'):OwnD r B F' E w v l :=
 let ⟨tag,xs,h1,h2⟩:=h;⟨tag,xs,h1,h2.mono fun _ hb=>⟨hb.1,Nat.lt_of_lt_of_le hb.2.1 hF,hb.2.2⟩⟩
theorem OwnD.live (h:OwnD r B F E w v l):OwnD r B w.heap.size E w v l :=
 let ⟨tag,xs,h1,h2⟩:=h;⟨tag,xs,h1,h2.live.mono fun _ hb=>⟨hb.1.1,hb.2,hb.1.2.2⟩⟩
theorem OwnD.lt (h:OwnD r B F E w v l):∀ k,v.ownBlock=some k→B≤k∧k<w.heap.size:=let ⟨_,_,h1,_⟩:=h;h1.lt
theorem OwnD.below (h:OwnD r B F E w v l) (hb:Below w.heap.size w w'):OwnD r B F E w' v l:=by
 obtain ⟨tag,xs,h1,h2⟩:=h
 exact ⟨tag,xs,h1.kept (below_grown hb) (by cases v.ownBlock<;>simp),(ChunksD.frame (fun b hb'=>hb.block b hb'.2) h2.live).mono fun b hb=>hb.1⟩
theorem OwnD.own (h:OwnD r B F E w v l):Own r B E (B≤·) w v l :=
 let ⟨_,xs,h1,h2⟩:=h;⟨xs,h1,h2.chunks.mono fun _ hb=>⟨hb.1,hb.2.2⟩⟩
theorem OwnD.sl (h:OwnD r B F E w v l):∃ a n c,v=.slice a n c∧Sl r (B≤·) w a n c l :=
 let ⟨a,n,c,e,h⟩:=h.own.sl;⟨a,n,c,e,h.mono fun _ hb=>hb.elim id id⟩
theorem wpList_appD {P:Program} {ops:Array Oper} {rest:List Oper} {o:Oper} {a:Act} {Q:Exit→Act→World→Prop} {T bytes:Nat} {z:Value} (ht:SliceT P T E r.sz bytes z) (hgd:o.guard=none) (s x:Operand)
  (ho:o.op=.call { callee:=.builtin .append,args:=#[s,x],argTypes:=#[T,T] }) (hs:a.eval s=v) (h:OwnD r B F E w v l) {ad:Addr} {c:Nat} (hx:a.eval x=.slice (some ad) 1 c)
  {y:α} {news:List Value} (hnews:∀ j u,news[j]?=some u→w.cell? (ad.add j)=some u) (hrd:r.rd (F≤·) w news y) (hown:∀ k,v.ownBlock=some k→k<F)
  (h63:l.length+1≤maxLen) (hby:(l.length+1) * bytes≤140737488355328) (hB:B≤F) (hF:F≤w.heap.size)
  (hk:∀ v' w',OwnD r B w'.heap.size E w' v' (l++[y])→w.grownBy w' v.ownBlock→(v'.ownBlock=v.ownBlock∨v'.ownBlock=some w.heap.size)→wpList P ops Q rest (a.put o.dst v') w'):wpList P ops Q (o :: rest) a w:=by
 refine wpList_plain hgd fun K hK=>?_
 obtain ⟨i,hi,hz0,hz1,hz2⟩:=info_parts ht.i
 obtain ⟨tag,xs,h1,h2⟩:=h
 obtain ⟨v',w',hr,h3,h4,_,h6⟩:=run_append_own_at (P:=P) w B T o.type E i z r.sz bytes ht.u hi hz0 hz1 hz2 ht.zs ht.pos v l.length xs h1 ad 1 c news (by rw [r.len hrd];simp) hnews (r.one hrd) h63 hby (by omega)
 unfold Oper.wp execOp
 simp only [ho,resolve,invoke,builtin,Sem.run_bind,Sem.run_pure,Result.andThen_ok,List.map_toArray,List.map_cons,List.map_nil,hs,hx,hr]
 refine hK _ _ (hk v' w' ?_ h4 h6)
 refine ⟨fun b=>if F≤b then l.length else tag b,xs++news,by rw [List.length_append];exact h3,?_⟩
 have hne:∀ b,b<w.heap.size→Option.some b≠v.ownBlock→Option.some b≠v'.ownBlock:=fun b hb hn=>by
  rcases h6 with h6|h6
  ·rw [h6];exact hn
  ·rw [h6];intro e;have:=Option.some.inj e;omega
 refine ChunksD.snoc ?_ ?_
 ·have e1:ChunksD r (fun b=>if F≤b then l.length else tag b) (fun b=>B≤b∧b<F∧Option.some b≠v.ownBlock) w 0 xs l:=h2.retag fun b hb=>by
   show (if F≤b then l.length else tag b)=tag b
   rw [if_neg (by omega)]
  refine (ChunksD.frame (fun b hb=>h4.block b (by omega) hb.2.2) e1).mono fun b hb=>⟨hb.1,Nat.lt_of_lt_of_le hb.2.1 (Nat.le_trans hF h4.size),hne b (by omega) hb.2.2⟩
 ·have hno:∀ b,F≤b→Option.some b≠v.ownBlock:=fun b hb e=>by have:=hown b e.symm;omega
  refine r.mono (fun b hb=>⟨⟨by omega,Nat.lt_of_lt_of_le hb.2 h4.size,hne b hb.2 (hno b hb.1)⟩,?_⟩) (r.frame (fun b hb=>h4.block b hb.2 (hno b hb.1)) (r.live hrd))
  show (if F≤b then l.length else tag b)=0+l.length
  rw [if_pos hb.1,Nat.zero_add]
def RetSlE {α:Type} (r:Rep α) (ok:Nat→Prop) (w:World) (l:List α) (err:Int):Ending→World→Prop:=fun e w' =>
 ∃ a n c,e=.returned (.tuple #[.slice a n c,.int .i64 err])∧Sl r ok w' a n c l∧Below w.heap.size w w'
theorem RetSlE.mk {α:Type} {r:Rep α} {ok:Nat→Prop} {w w':World} {l:List α} {err err':Int} {a:Option Addr} {n c:Nat} (he:err'=err) (h:Sl r ok w' a n c l) (hB:Below w.heap.size w w') :
  RetSlE r ok w l err (.returned (.tuple #[.slice a n c,.int .i64 err'])) w':=⟨a,n,c,by rw [he],h,hB⟩
theorem Sl.nil0 {α:Type} (r:Rep α) (ok:Nat→Prop) (w:World):Sl r ok w none 0 0 []:=⟨rfl,Nat.le_refl _,Nat.zero_le _,fun _=>rfl,.inl rfl⟩
def Flat {α:Type} (r:Rep α):Prop:=∀ {ok ok':Nat→Prop} {w w':World} {cs:List Value} {x:α},r.rd ok w cs x→r.rd ok' w' cs x
theorem Flat.int:Flat intR:=fun h=>h
theorem Flat.sec:Flat secR:=fun h=>h
theorem Flat.u8:Flat u8R:=fun h=>h
theorem Flat.u64:Flat u64R:=fun h=>h
theorem Flat.bool:Flat boolR:=fun h=>h
theorem Chunks.flat {α:Type} {r:Rep α} (hf:Flat r) {ok ok':Nat→Prop} {w w':World}:∀ {l:List α} {xs:List Value},Chunks r ok w xs l→Chunks r ok' w' xs l
 |[],_,h=>h
 |_ :: _,_,⟨c,rest,e,h1,h2⟩=>⟨c,rest,e,hf h1,h2.flat hf⟩
theorem Src.flat {α:Type} {r:Rep α} (hf:Flat r) {ok ok':Nat→Prop} {w:World} {ao:Option Addr} {m c:Nat} {ys:List α} (h:Src r ok w ao m c ys):Src r ok' w ao m c ys :=
 let ⟨h1,h2,news,h3,h4⟩:=h;⟨h1,h2,news,h3,h4.flat hf⟩
theorem Own.lit0 {α:Type} (r:Rep α) {B:Nat} {E:TypeId} {ok:Nat→Prop} {w:World} (hB:B≤w.heap.size):Own r B E ok (w.alloc (.cells #[] E)) (.slice (some ⟨w.heap.size,0,none⟩) 0 0) [] :=
 ⟨[],World.ownsRow_lit w #[] 0 hB (Nat.zero_le _) (by simp),rfl⟩
theorem OwnD.at (h:OwnD r B F E w v l) {k:Nat} {x:α} (hx:l[k]?=some x) :
  ∃ g cap c,∃ okk:Nat→Prop,v=.slice (some ⟨g,0,none⟩) l.length cap∧B≤g∧g<w.heap.size∧(∀ j,j<r.sz→w.cell? ⟨g,k * r.sz+j,none⟩=c[j]?)∧r.rd okk w c x∧(∀ b,okk b→B≤b∧b<F∧b≠g) ∧
   ∀ (w':World) (x':α),(∀ b,b<w.heap.size→¬ okk b→w'.heap[b]?=w.heap[b]?)→w'.os=w.os→w'.tape=w.tape→w'.output=w.output→w.heap.size≤w'.heap.size→r.rd okk w' c x'→OwnD r B F E w' v (l.set k x'):=by
 obtain ⟨tag,xs,h1,h2⟩:=h
 have hk:=(List.getElem?_eq_some_iff.1 hx).1
 obtain ⟨g,cap,rfl,hBg,hg⟩:∃ g cap,v=.slice (some ⟨g,0,none⟩) l.length cap∧B≤g∧g<w.heap.size:=by
  rcases h1.2 with ⟨_,h0⟩|⟨g,cap,cur,hv,hb,hg,_⟩
  ·omega
  ·exact ⟨g,cap,hv,hb,(Array.getElem?_eq_some_iff.1 hg).1⟩
 obtain ⟨c,h3,h4,h5⟩:=h2.live.pick hx
 refine ⟨g,cap,c,_,rfl,hBg,hg,fun j hj=>?_,h4,fun b hb=>⟨hb.1.1.1,hb.1.1.2.1,fun e=>hb.1.1.2.2 (by rw [e];rfl)⟩,fun w' x' hf hos htp hout hsz hr=>?_⟩
 ·rw [← h3 j hj,h1.cellAt]
  calc k * r.sz+j<k * r.sz+r.sz:=by omega
   _=(k+1) * r.sz:=by rw [Nat.add_mul];omega
   _≤l.length * r.sz:=Nat.mul_le_mul_right _ (by omega)
 ·have h6:=h5 w' x' (fun b hb hne=>hf b hb.2 fun e=>hne (by simpa using e.2)) hr
  refine ⟨tag,xs,?_,h6.mono fun b hb=>hb.1⟩
  rw [List.length_set]
  have hgk:w'.heap[g]?=w.heap[g]?:=hf g hg fun e=>e.1.1.2.2 rfl
  obtain ⟨hl,⟨hv,h0⟩|⟨g',cap',cur,hv,r1,r2,r3⟩⟩:=h1
  ·cases hv
  ·cases hv
   exact ⟨hl,.inr ⟨g,cap,cur,rfl,r1,by rw [hgk];exact r2,r3⟩⟩
end
def ownRowR {α:Type} (r:Rep α) (E:TypeId):Rep (List α) where
 sz:=1
 rd ok w cs l:=∃ v,cs=[v]∧(∀ b,v.ownBlock=some b→ok b)∧Own r 0 E (fun _=>False) w v l∧(l=[]→v=.slice none 0 0∨∃ g c,v=.slice (some ⟨g,0,none⟩) 0 c)
 len h:=by obtain ⟨v,rfl,_⟩:=h;rfl
 mono hk h:=let ⟨v,e,h1,h2⟩:=h;⟨v,e,fun b hb=>hk b (h1 b hb),h2⟩
 live h:=let ⟨v,e,h1,h2,h3⟩:=h;⟨v,e,fun b hb=>⟨h1 b hb,(h2.lt b hb).2⟩,h2,h3⟩
 frame hf h:=by
  obtain ⟨v,e,h1,⟨xs,h2,h3⟩,h4⟩:=h
  refine ⟨v,e,h1,⟨xs,⟨h2.1,?_⟩,(Chunks.frame (fun b hb=>hb.1.elim) h3)⟩,h4⟩
  rcases h2.2 with h0|⟨g,cap,cur,hv,hb,hg,rest⟩
  ·exact .inl h0
  ·refine .inr ⟨g,cap,cur,hv,hb,?_,rest⟩
   rw [hf g (h1 g (by rw [hv];rfl))];exact hg
 one h:=by
  obtain ⟨v,rfl,_,⟨xs,h2,_⟩,_⟩:=h
  intro u hu
  cases List.mem_singleton.1 hu
  rcases h2.2 with ⟨rfl,_⟩|⟨g,cap,cur,rfl,_⟩<;>rfl
theorem ownRowR.sl {α:Type} {r:Rep α} {E:TypeId} {ok:Nat→Prop} {w:World} {v:Value} {l:List α} (hf:Flat r) (h:(ownRowR r E).rd ok w [v] l):∃ a n c,v=.slice a n c∧Sl r ok w a n c l:=by
 obtain ⟨_,e,h1,h2,_⟩:=h
 cases e
 obtain ⟨a,n,c,rfl,h3⟩:=h2.sl
 refine ⟨a,n,c,rfl,h3.len,h3.cap,h3.bnd,h3.nil,h3.cells.imp id fun ⟨b,off,e,_,hb,hc⟩=>⟨b,off,e,h1 b (by rw [e];rfl),hb,fun i x hx=>let ⟨cs,g1,g2⟩:=hc i x hx;⟨cs,g1,hf g2⟩⟩⟩
theorem ownRowR.mk {α:Type} {r:Rep α} {B:Nat} {E:TypeId} {w:World} {v:Value} {l:List α} (h:Own r B E (fun _=>False) w v l) (hv:l=[]→v=.slice none 0 0∨∃ g c,v=.slice (some ⟨g,0,none⟩) 0 c):(ownRowR r E).rd (B≤·) w [v] l:=by
 refine ⟨v,rfl,fun b hb=>(h.lt b hb).1,?_,hv⟩
 obtain ⟨xs,h1,h2⟩:=h
 refine ⟨xs,⟨h1.1,h1.2.imp id fun ⟨g,cap,cur,a1,a2,a3⟩=>⟨g,cap,cur,a1,Nat.zero_le _,a3⟩⟩,h2⟩
section
variable {P:Program} {ops:Array Oper} {rest:List Oper} {o:Oper} {a:Act} {Q:Exit→Act→World→Prop} {α:Type} {r:Rep α} {B:Nat} {E:TypeId} {w:World}
theorem wpList_make0 {T bytes:Nat} {z:Value} (ht:SliceT P T E r.sz bytes z) (hg:o.guard=none) (l c:Operand) (hop:o.op=Op.makeSlice T l c)
  {kl kc:IntKind} {n:Nat} (hl:a.eval l=.int kl 0) (hc:a.eval c=.int kc (n:Int)) (b2:bytes * n≤281474976710656) (b3:n≤maxLen) (b4:B≤w.heap.size)
  (hK:∀ w',(∀ F,OwnD r B F E w' (.slice (some ⟨w.heap.size,0,none⟩) 0 n) [])→Below w.heap.size w w'→wpList P ops Q rest (a.put o.dst (.slice (some ⟨w.heap.size,0,none⟩) 0 n)) w'):wpList P ops Q (o :: rest) a w:=by
 obtain ⟨i,hi,hz0,hz1,hz2⟩:=info_parts ht.i
 refine wpList_make_own w hg l c T hop B E i z r.sz ht.u hi hz0 hz1 kl kc (n:Int) n hl hc rfl (by rw [hz2];exact b2) b3 b4 fun w' h1 h2=>hK w' (fun F=>⟨fun _=>0,[],h1,rfl⟩) (grown_below h2 (Nat.le_refl _) (fun k e=>by cases e))
end
section
variable {P:Program} {α:Type} {r:Rep α} {B:Nat} {E:TypeId} {w:World} {g cap:Nat} {l:List α}
theorem run_storeOwn (h:Own r B E (fun _=>False) w (.slice (some ⟨g,0,none⟩) l.length cap) l) {s:Nat} {ys:List α} {news:List Value} (hn:Chunks r (fun _=>False) w news ys) (hs:s+ys.length≤l.length) (hne:l≠[]∨ys≠[]) :
  ∃ w',(storeCells ⟨g,s * r.sz,none⟩ news).run P w=.ok () w'∧Own r B E (fun _=>False) w' (.slice (some ⟨g,0,none⟩) l.length cap) (l.take s++ys++l.drop (s+ys.length))∧w.grownBy w' (some g)∧w'.heap.size=w.heap.size:=by
 obtain ⟨xs,h1,h2⟩:=h
 obtain ⟨hx,⟨hv,_⟩|⟨g',cap',cur,hv,hb,hg,hnc,hcm,hcs,ht⟩⟩:=h1
 ·cases hv
 ·cases hv
  have hnl:=hn.length
  have hxl:=h2.length
  have hfit:s * r.sz+0+news.length≤cur.size:=by
   rw [hcs,hnl,Nat.add_zero,← Nat.add_mul]
   exact Nat.mul_le_mul_right _ (by omega)
  have hrun:=run_storeCells_at P g (s * r.sz) E news 0 cur w hg hfit hn.one
  rw [Nat.add_zero] at hrun
  refine ⟨_,hrun,?_,⟨rfl,rfl,rfl,by simp,fun k _ hk=>setRow_other w g k _ (fun e=>hk (by simp [e]))⟩,by simp⟩
  have hlen':(l.take s++ys++l.drop (s+ys.length)).length=l.length:=by simp;omega
  have hcell:∀ i,(xs.take (s * r.sz)++news++xs.drop (s * r.sz+news.length))[i]?=if i<s * r.sz then xs[i]? else if i<s * r.sz+news.length then news[i - s * r.sz]? else xs[i]?:=by
   intro i
   have hs1:s * r.sz≤xs.length:=by rw [hxl];exact Nat.mul_le_mul_right _ (by omega)
   have e1:(xs.take (s * r.sz)).length=s * r.sz:=by rw [List.length_take];omega
   by_cases hi:i<s * r.sz
   ·rw [if_pos hi,List.append_assoc,List.getElem?_append_left (by rw [e1];exact hi),List.getElem?_take,if_pos hi]
   ·rw [if_neg hi]
    by_cases hi2:i<s * r.sz+news.length
    ·rw [if_pos hi2,List.getElem?_append_left (by rw [List.length_append,e1];exact hi2),List.getElem?_append_right (by rw [e1];omega),e1]
    ·rw [if_neg hi2,List.getElem?_append_right (by rw [List.length_append,e1];omega),List.length_append,e1,List.getElem?_drop]
     congr 1;omega
  refine ⟨xs.take (s * r.sz)++news++xs.drop (s * r.sz+news.length),⟨?_,.inr ⟨g,cap,_,by rw [hlen'],hb,setRow_heap w g cur _ E _ hg,by rw [hlen'];exact hnc,hcm,?_,?_⟩⟩,?_⟩
  ·rw [hlen',List.length_append,List.length_append,List.length_take,List.length_drop,hxl,hnl]
   have:(s+ys.length) * r.sz≤l.length * r.sz:=Nat.mul_le_mul_right _ hs
   rw [Nat.add_mul] at this
   omega
  ·rw [List.size_toArray,List.length_append,List.length_append,List.length_take,List.length_drop,Array.length_toList]
   omega
  ·rw [hlen',← ht]
   have hA:s * r.sz+news.length≤l.length * r.sz:=by rw [hnl,← Nat.add_mul];exact Nat.mul_le_mul_right _ hs
   have hB2:l.length * r.sz≤cur.size:=by rw [hcs];exact Nat.mul_le_mul_right _ hnc
   apply List.ext_getElem?
   intro i
   have e1:(cur.toList.take (s * r.sz)).length=s * r.sz:=by rw [List.length_take,Array.length_toList];omega
   have e2:((cur.toList.take (l.length * r.sz)).take (s * r.sz)).length=s * r.sz:=by simp only [List.length_take,Array.length_toList];omega
   by_cases hi:i<s * r.sz
   ·rw [List.getElem?_take,if_pos (by omega),List.append_assoc,List.getElem?_append_left (by rw [e1];exact hi),List.append_assoc,List.getElem?_append_left (by rw [e2];exact hi),List.getElem?_take,if_pos hi,List.getElem?_take,if_pos hi,List.getElem?_take,if_pos (by omega)]
   ·by_cases hi2:i<s * r.sz+news.length
    ·rw [List.getElem?_take,if_pos (by omega),List.getElem?_append_left (by rw [List.length_append,e1];exact hi2),List.getElem?_append_right (by rw [e1];omega),e1,
      List.getElem?_append_left (by rw [List.length_append,e2];exact hi2),List.getElem?_append_right (by rw [e2];omega),e2]
    ·rw [List.getElem?_take,List.getElem?_append_right (by rw [List.length_append,e1];omega),List.getElem?_append_right (by rw [List.length_append,e2];omega),List.length_append,List.length_append,e1,e2,List.getElem?_drop,List.getElem?_drop,List.getElem?_take]
     have:s * r.sz+news.length+(i - (s * r.sz+news.length))=i:=by omega
     rw [this]
  ·-- the elements
   have:=Chunks.of_at (r:=r) (ok:=fun b=>False∧Option.some b≠(Value.slice (some ⟨g,0,none⟩) l.length cap).ownBlock) (w:=w.setRow g (cur.toList.take (s * r.sz)++news++cur.toList.drop (s * r.sz+news.length)).toArray) (xs:=xs.take (s * r.sz)++news++xs.drop (s * r.sz+news.length)) (l:=l.take s++ys++l.drop (s+ys.length)) 0 (by
     rw [hlen',List.length_append,List.length_append,List.length_take,List.length_drop,hxl,hnl]
     have:(s+ys.length) * r.sz≤l.length * r.sz:=Nat.mul_le_mul_right _ hs
     rw [Nat.add_mul] at this
     omega) (fun i x hx=>by
     have key:∃ c w0,(∀ j,j<r.sz→(xs.take (s * r.sz)++news++xs.drop (s * r.sz+news.length))[i * r.sz+j]?=c[j]?)∧r.rd (fun _=>False) w0 c x:=by
      have es:(l.take s).length=s:=by rw [List.length_take];omega
      by_cases hi:i<s
      ·rw [List.append_assoc,List.getElem?_append_left (by rw [es];exact hi),List.getElem?_take,if_pos hi] at hx
       obtain ⟨c,h3,h4⟩:=h2.at hx
       refine ⟨c,w,fun j hj=>?_,r.mono (fun b hb=>hb.1) h4⟩
       rw [hcell,if_pos,h3 j hj]
       calc i * r.sz+j<i * r.sz+r.sz:=by omega
        _=(i+1) * r.sz:=by rw [Nat.add_mul];omega
        _≤s * r.sz:=Nat.mul_le_mul_right _ (by omega)
      ·by_cases hi2:i<s+ys.length
       ·rw [List.getElem?_append_left (by rw [List.length_append,es];exact hi2),List.getElem?_append_right (by rw [es];omega),es] at hx
        obtain ⟨c,h3,h4⟩:=hn.at hx
        refine ⟨c,w,fun j hj=>?_,h4⟩
        have e3:s * r.sz≤i * r.sz:=Nat.mul_le_mul_right _ (by omega)
        have e4:(i+1) * r.sz≤(s+ys.length) * r.sz:=Nat.mul_le_mul_right _ (by omega)
        rw [Nat.add_mul,Nat.add_mul] at e4
        rw [hcell,if_neg (by omega),if_pos (by rw [hnl];omega),← h3 j hj]
        congr 1
        rw [Nat.sub_mul];omega
       ·rw [List.getElem?_append_right (by rw [List.length_append,es];omega),List.length_append,es,List.getElem?_drop,show s+ys.length+(i - (s+ys.length))=i by omega] at hx
        obtain ⟨c,h3,h4⟩:=h2.at hx
        refine ⟨c,w,fun j hj=>?_,r.mono (fun b hb=>hb.1) h4⟩
        have e3:(s+ys.length) * r.sz≤i * r.sz:=Nat.mul_le_mul_right _ (by omega)
        rw [Nat.add_mul] at e3
        rw [hcell,if_neg (by omega),if_neg (by rw [hnl];omega),h3 j hj]
     obtain ⟨c,w0,h3,h4⟩:=key
     exact ⟨c,fun j hj=>by rw [Nat.zero_add];exact h3 j hj,r.mono (fun b hb=>hb.elim) (r.frame (fun b hb=>hb.elim) h4)⟩)
   simpa using this
end
def subAddr (a:Option Addr) (c lo sz:Nat):Option Addr:=if c=lo then a else a.map (·.add (lo * sz))
theorem run_subFrom {P:Program} {T E sz:Nat} (hT:P.underlying T=some (.slice E)) (hi:(P.info? E).map (·.size)=some sz) (a:Option Addr) (n c s:Nat) (h:s≤n) (w:World) :
  (Instr.sliceAt T (.slice a n c) (some (.int .i64 (s:Int))) none none).run P w=.ok (.slice (subAddr a c s sz) (n - s) (c - s)) w:=by
 have he:P.elem T=E:=by simp [Program.elem,hT]
 have hT':P.underlying T=some (.slice (P.elem T)):=by rw [he];exact hT
 have hz:(sizeOf (P.elem T)).run P w=.ok sz w:=by
  obtain ⟨i,hi,hs⟩:=Option.map_eq_some_iff.1 hi
  rw [he];simp [sizeOf,typeInfo,hi,hs]
 rw [run_sliceAt_slice w T _ _ _ _ hT',run_slice_l w T a n c hT' .i64 s (by omega) (by omega),hz,Result.andThen_ok]
 simp only [sliced,subAddr,Int.toNat_natCast]
theorem Sl.sub {α:Type} {r:Rep α} {ok:Nat→Prop} {w:World} {a:Option Addr} {n c:Nat} {l:List α} (h:Sl r ok w a n c l) {s k:Nat} (hk:s+k≤n):Sl r ok w (subAddr a c s r.sz) k (c - s) ((l.drop s).take k):=by
 have h1:=h.len
 have h2:=h.cap
 refine ⟨by simp;omega,by omega,Nat.le_trans (Nat.sub_le _ _) h.bnd,fun e=>?_,?_⟩
 ·unfold subAddr at e
  split at e
  ·omega
  ·have:a=none:=by simpa using e
   have:=h.nil this
   omega
 ·rcases h.cells with h0|⟨b,off,rfl,hb,hlt,hc⟩
  ·left;omega
  ·by_cases hk0:k=0
   ·exact .inl hk0
   ·refine .inr ⟨b,off+s * r.sz,?_,hb,hlt,fun i x hx=>?_⟩
    ·unfold subAddr
     rw [if_neg (by omega)]
     simp [Addr.add_lit]
    ·have hik:i<k:=by have:=(List.getElem?_eq_some_iff.1 hx).1;simp at this;omega
     rw [List.getElem?_take,if_pos hik,List.getElem?_drop] at hx
     obtain ⟨cs,g1,g2⟩:=hc (s+i) x hx
     refine ⟨cs,fun j hj=>?_,g2⟩
     rw [← g1 j hj,Nat.add_mul,Nat.add_assoc off]
section
variable {P:Program} {ops:Array Oper} {rest:List Oper} {o:Oper} {a:Act} {Q:Exit→Act→World→Prop} {α:Type} {r:Rep α} {B:Nat} {E:TypeId} {w:World} {g cap:Nat} {l:List α}
theorem wpList_copyOwn {T bytes:Nat} {z:Value} (ht:SliceT P T E r.sz bytes z) (hfl:Flat r) (hgd:o.guard=none) (d x:Operand)
  (ho:o.op=.call { callee:=.builtin .copy,args:=#[d,x],argTypes:=#[T,T] }) {s dl dc:Nat} (hd:a.eval d=.slice (some ⟨g,s * r.sz,none⟩) dl dc) {ao:Option Addr} {m c:Nat} (hx:a.eval x=.slice ao m c)
  (h:Own r B E (fun _=>False) w (.slice (some ⟨g,0,none⟩) l.length cap) l) {ok:Nat→Prop} {ys:List α} (hs:Sl r ok w ao m c ys) (hle:s+m≤l.length) (hm:0<m) (hdl:m≤dl)
  (hk:∀ w',Own r B E (fun _=>False) w' (.slice (some ⟨g,0,none⟩) l.length cap) (l.take s++ys++l.drop (s+ys.length))→w.grownBy w' (some g)→w'.heap.size=w.heap.size→wpList P ops Q rest (a.put o.dst (.int .i64 m)) w'):wpList P ops Q (o :: rest) a w:=by
 refine wpList_plain hgd fun K hK=>?_
 obtain ⟨i,hi,_,hz1,_⟩:=info_parts ht.i
 obtain ⟨hlen,hnil,news,hnews,hch⟩:=Src.of_sl hs
 obtain ⟨ad,rfl⟩:∃ ad,ao=some ad:=by
  cases ao with
  |some ad=>exact ⟨ad,rfl⟩
  |none=>have:=(hnil rfl).1;omega
 have hnl:=hch.length
 obtain ⟨w',hst,h1,h2,h3⟩:=run_storeOwn (P:=P) h (s:=s) (ys:=ys) (hch.flat hfl) (by omega) (.inr (by intro e;rw [e] at hlen;simp at hlen;omega))
 have hld:=run_loadCells_list (P:=P) (w:=w) ad news (hnews ad rfl)
 have hmin:Nat.min m dl=m:=Nat.min_eq_left hdl
 rw [hnl,hlen] at hld
 unfold Oper.wp execOp
 have hrun:(Builtin.copy_ #[T,T] o.type #[.slice (some ⟨g,s * r.sz,none⟩) dl dc,.slice (some ad) m c]).run P w=.ok (goInt m) w':=by
  simp [Builtin.copy_,run_underlying ht.u,Builtin.lenOf,Builtin.firstCells,sizeOf,typeInfo,hi,hz1,hmin,hld,hst]
 simp only [ho,resolve,invoke,builtin,Sem.run_bind,Sem.run_pure,Result.andThen_ok,List.map_toArray,List.map_cons,List.map_nil,hd,hx,hrun]
 exact hK _ _ (hk w' h1 h2 h3)
end
section
variable {ok:Nat→Prop} {w:World} {n c:Nat}
theorem Sl.wr {b off:Nat} {l:List (Int × Int × List Sec)} (h:Sl (pairR intR (pairR intR (listR secR))) ok w (some ⟨b,off,none⟩) n c l) {k:Nat} {v s:Int} {d:List Sec} (hx:l[k]?=some (v,s,d)) :
  ∃ a' n' c',w.cell? ⟨b,off+k * 3,none⟩=some (.int .i64 v)∧w.cell? ⟨b,off+k * 3+1,none⟩=some (.int .i64 s)∧w.cell? ⟨b,off+k * 3+2,none⟩=some (.slice a' n' c')∧i64ok v∧i64ok s∧Sl secR ok w a' n' c' d:=by
 obtain ⟨cs,h1,c1,c2,rfl,⟨rfl,hv⟩,c3,c4,rfl,⟨rfl,hs⟩,a',n',c',rfl,hd⟩:=h.at hx
 refine ⟨a',n',c',?_,?_,?_,hv,hs,hd⟩
 ·exact h1 0 (by show 0<3;omega)
 ·exact h1 1 (by show 1<3;omega)
 ·exact h1 2 (by show 2<3;omega)
theorem Sl.ext {b off:Nat} {l:List (Int × Int)} (h:Sl (pairR intR intR) ok w (some ⟨b,off,none⟩) n c l) {k:Nat} {s m:Int} (hx:l[k]?=some (s,m)) :
  w.cell? ⟨b,off+k * 2,none⟩=some (.int .i64 s)∧w.cell? ⟨b,off+k * 2+1,none⟩=some (.int .i64 m)∧i64ok s∧i64ok m:=by
 obtain ⟨cs,h1,c1,c2,rfl,⟨rfl,hv⟩,⟨rfl,hs⟩⟩:=h.at hx
 exact ⟨h1 0 (by show 0<2;omega),h1 1 (by show 1<2;omega),hv,hs⟩
end
end Go.Proofs.YtpcncggjmabnaaaGreatDoor

namespace Go.Proofs.YtpcncggjmabnaaaGreatDoor
open Go.RowKit
abbrev secsR:Rep (List Sec):=listR secR
abbrev Wr:=Int × Int × List Sec
abbrev wrR:Rep Wr:=pairR intR (pairR intR secsR)
def zeroSec:Sec:=Vector.replicate 8 0
theorem Tryz.mixed:Tryz.prog.follows .mixedOrders=true:=by kernel_rfl
theorem Tryz.slInt:SliceT Tryz.prog 22 3 1 8 (.int .i64 0):=⟨Tryz.underlying22,by kernel_rfl,rfl,by decide⟩
theorem Tryz.slSec:SliceT Tryz.prog 74 79 8 8 (.agg #[.int .u8 0,.int .u8 0,.int .u8 0,.int .u8 0,.int .u8 0,.int .u8 0,.int .u8 0,.int .u8 0]):=⟨Tryz.underlying74,by kernel_rfl,rfl,by decide⟩
theorem Tryz.slSecs:SliceT Tryz.prog 51 74 1 24 (.slice none 0 0):=⟨Tryz.underlying51,by kernel_rfl,rfl,by decide⟩
theorem ret_int {k:IntKind} {a b:Int} (h:a=b):Ending.returned (.int k a)=.returned (.int k b):=by rw [h]
theorem ret_bool {a b:Bool} (h:a=b):Ending.returned (.bool a)=.returned (.bool b):=by rw [h]
theorem i64ok_nat {n:Nat} (h:n≤maxLen):i64ok (n:Int):=by unfold i64ok maxLen at *;omega
theorem Sl.i64 {α:Type} {r:Rep α} {ok:Nat→Prop} {w:World} {a:Option Addr} {n c:Nat} {l:List α} (h:Sl r ok w a n c l):i64ok (n:Int):=i64ok_nat (Nat.le_trans h.cap h.bnd)
theorem Sl.small {α:Type} {r:Rep α} {ok:Nat→Prop} {w:World} {a:Option Addr} {n c:Nat} {l:List α} (h:Sl r ok w a n c l):n≤9223372036854775807:=by
 have:=Nat.le_trans h.cap h.bnd;unfold maxLen at this;omega
theorem take_any_succ {α:Type} {p:α→Bool} {l:List α} {k:Nat} {x:α} (h:l[k]?=some x):(l.take (k+1)).any p=((l.take k).any p || p x):=by
 rw [List.take_add_one,h];simp
theorem any_true {α:Type} {p:α→Bool} {l:List α} {k:Nat} {x:α} (h:l[k]?=some x) (hp:p x=true):l.any p=true:=by
 rw [List.any_eq_true];exact ⟨x,List.mem_of_getElem? h,hp⟩
theorem take_succ_get {α:Type} {l:List α} {k:Nat} {x:α} (h:l[k]?=some x):l.take (k+1)=l.take k++[x]:=by
 rw [List.take_add_one,h];rfl
theorem take_all {α:Type} {l:List α} {n:Nat} (h:l.length=n):l.take n=l:=List.take_of_length_le (by omega)
end Go.Proofs.YtpcncggjmabnaaaGreatDoor

namespace Go.Proofs.YtpcncggjmabnaaaGreatDoor
open Go.RowKit
def badSize (n:Int):Bool:=decide (n<1) || decide (4096<n)
def sizesErr (l:List Int):Int:=if l.length<1∨8<l.length then 6 else if l.any badSize then 2 else 0
def lens (im:List (List Sec)):List Int:=im.map fun v=>(v.length:Int)
def imgErr (im:List (List Sec)):Int:=sizesErr (lens im)
end Go.Proofs.YtpcncggjmabnaaaGreatDoor

namespace Go.Proofs.YtpcncggjmabnaaaGreatDoor
open Go.RowKit
def fitErr (sizes:List Int) (vol start:Int) (len:Nat):Int :=
 if vol<0∨(sizes.length:Int)≤vol then 7 else if len=0 then 1
 else if start<0∨sizes.getD vol.toNat 0≤start∨sizes.getD vol.toNat 0 - start<len then 2 else 0
theorem getD_of {α:Type} {l:List α} {k:Nat} {x d:α} (h:l[k]?=some x):l.getD k d=x:=by simp [List.getD,h]
end Go.Proofs.YtpcncggjmabnaaaGreatDoor

namespace Go.Proofs.YtpcncggjmabnaaaGreatDoor
open Go.RowKit
def fitsErr (im:List (List Sec)) (vol start:Int) (len:Nat):Int:=if imgErr im≠0 then imgErr im else fitErr (lens im) vol start len
end Go.Proofs.YtpcncggjmabnaaaGreatDoor

namespace Go.Proofs.YtpcncggjmabnaaaGreatDoor
open Go.RowKit
end Go.Proofs.YtpcncggjmabnaaaGreatDoor

namespace Go.Proofs.YtpcncggjmabnaaaGreatDoor
open Go.RowKit
theorem bad_any {x:Int} {w:World} (_hx:i64ok x):Calls Tryz.prog 102 #[.int .i64 x] w fun e w'=>e=.returned (.bool (badSize x))∧Below w.heap.size w w':=by
 by_cases h1:x<1
 ·go_enter Tryz.func102,Tryz.ntmps102
  go_wp2
  go_ret
  exact ⟨ret_bool (by simp [badSize,h1]),Below.refl _ _⟩
 ·by_cases h2:4096<x
  ·go_enter Tryz.func102,Tryz.ntmps102
   go_wp2
   go_ret
   exact ⟨ret_bool (by simp [badSize,h2]),Below.refl _ _⟩
  ·go_enter Tryz.func102,Tryz.ntmps102
   go_wp2
   go_ret
   exact ⟨ret_bool (by simp [badSize];omega),Below.refl _ _⟩
set_option maxHeartbeats 1000000 in
theorem contains_bad_idx {a:Option Addr} {n c:Nat} {l:List Int} {ok:Nat→Prop} {w:World} (h:Sl intR ok w a n c l) :
  Calls Tryz.prog 119 #[.slice a n c,.func (.func 102) #[] #[]] w fun e w'=>∃ z:Int,e=.returned (.int .i64 z)∧(0≤z ↔ l.any badSize=true)∧i64ok z∧Below w.heap.size w w':=by
 have hs:=h.small
 go_enter Tryz.func119,Tryz.ntmps119
 go_wp2
 go_loopw [5,8] (fun _ i wr=>∃ k:Nat,k≤n∧i=.int .i64 k∧Hid ((l.take k).any badSize=false)∧Below w.heap.size w wr) (fun _ i _=>n - (intOf i).toNat)
 case atStart=>exact ⟨0,Nat.zero_le _,rfl,rfl,Below.refl _ _⟩
 case round =>
  obtain ⟨k,hk,rfl,HT,hB⟩:=hrel
  by_cases hlt:k<n
  ·obtain ⟨b,off,rfl,_,_⟩:=h.addr hlt
   obtain ⟨x,hx⟩:=h.get hlt
   obtain ⟨hcell,hi⟩:=(h.below hB).int hx
   have HX:=Lib.hid hx
   clear hx
   cases hp:badSize x with
   |true =>
    have HP:=Lib.hid hp
    have hcall:=bad_any (w:=wr) hi
    rw [hp] at hcall
    clear hp
    go_wp2_with (fail)
    refine hcall.mono ?_
    rintro e w1 ⟨rfl,hB1⟩
    go_wp2
    go_ret
    exact ⟨k,rfl,by rw [any_true HX.out HP.out];simp,by unfold i64ok;omega,hB.trans (hB1.mono hB.size)⟩
   |false =>
    have HP:=Lib.hid hp
    have hcall:=bad_any (w:=wr) hi
    rw [hp] at hcall
    clear hp
    go_wp2_with (fail)
    refine hcall.mono ?_
    rintro e w1 ⟨rfl,hB1⟩
    go_wp2
    go_roundw
    case rel=>exact ⟨k+1,by omega,by go_num,by show _=false;rw [take_any_succ HX.out,HT.out,HP.out];rfl,hB.trans (hB1.mono hB.size)⟩
    case measure=>simp [intOf];omega
  ·go_wp2
   go_ret
   obtain rfl:k=n:=by omega
   have e:=HT.out
   rw [take_all h.len] at e
   exact ⟨-1,rfl,by rw [e];simp,by unfold i64ok;omega,hB⟩
theorem contains_bad {a:Option Addr} {n c:Nat} {l:List Int} {ok:Nat→Prop} {w:World} (h:Sl intR ok w a n c l) :
  Calls Tryz.prog 101 #[.slice a n c,.func (.func 102) #[] #[]] w fun e w'=>e=.returned (.bool (l.any badSize))∧Below w.heap.size w w':=by
 go_enter Tryz.func101,Tryz.ntmps101
 go_wp2_with fail
 refine (contains_bad_idx h).mono ?_
 rintro e w1 ⟨z,rfl,hz,hi,hB⟩
 unfold i64ok at hi
 cases hp:l.any badSize with
 |true =>
  have hz0:0≤z:=hz.2 hp
  have HP:=Lib.hid hp
  clear hz hp
  go_wp2
  go_ret
  exact ⟨ret_bool HP.out.symm,hB⟩
 |false =>
  have hz0:z<0:=by rw [hp] at hz;simp at hz;omega
  have HP:=Lib.hid hp
  clear hz hp
  go_wp2
  go_ret
  exact ⟨ret_bool (by rw [HP.out];simp;omega),hB⟩
theorem checkSizes_any {a:Option Addr} {n c:Nat} {l:List Int} {ok:Nat→Prop} {w:World} (h:Sl intR ok w a n c l) :
  Calls Tryz.prog 68 #[.slice a n c] w fun e w'=>e=.returned (.int .i64 (sizesErr l))∧Below w.heap.size w w':=by
 have hs:=h.small
 by_cases hn1:n<1
 ·obtain rfl:n=0:=by omega
  go_enter Tryz.func68,Tryz.ntmps68
  go_wp2
  go_ret
  exact ⟨by simp [sizesErr,h.len],Below.refl _ _⟩
 by_cases hn8:8<n
 ·go_enter Tryz.func68,Tryz.ntmps68
  go_wp2
  go_ret
  exact ⟨ret_int (by rw [sizesErr,if_pos (by rw [h.len];exact .inr hn8)]),Below.refl _ _⟩
 go_enter Tryz.func68,Tryz.ntmps68
 go_wp2_with fail
 refine (contains_bad h).mono ?_
 rintro e w1 ⟨rfl,hB⟩
 cases hp:l.any badSize with
 |true =>
  have HP:=Lib.hid hp;clear hp
  go_wp2
  go_ret
  exact ⟨ret_int (by rw [sizesErr,if_neg (by rw [h.len];omega),if_pos HP.out]),hB⟩
 |false =>
  have HP:=Lib.hid hp;clear hp
  go_wp2
  go_ret
  exact ⟨ret_int (by rw [sizesErr,if_neg (by rw [h.len];omega),HP.out];rfl),hB⟩
end Go.Proofs.YtpcncggjmabnaaaGreatDoor

namespace Go.Proofs.YtpcncggjmabnaaaGreatDoor
open Go.RowKit
theorem len1_any {a:Option Addr} {n c:Nat} {l:List Sec} {ok:Nat→Prop} {w:World} (h:Sl secR ok w a n c l) :
  Calls Tryz.prog 113 #[.slice a n c] w fun e w'=>∃ z:Int,e=.returned (.int .i64 z)∧intR.rd (w.heap.size≤·) w' [.int .i64 z] (l.length:Int)∧Below w.heap.size w w':=by
 have hs:=h.small
 go_enter Tryz.func113,Tryz.ntmps113
 go_wp2
 go_ret
 exact ⟨_,rfl,⟨by rw [h.len],by rw [h.len];exact h.i64⟩,Below.refl _ _⟩
set_option maxHeartbeats 1000000 in
theorem mapped_len {a:Option Addr} {n c:Nat} {l:List (List Sec)} {ok:Nat→Prop} {w:World} (h:Sl secsR ok w a n c l) (hn:n≤1000000) :
  Calls Tryz.prog 112 #[.slice a n c,.func (.func 113) #[] #[]] w fun e w'=>∃ v,e=.returned v∧OwnD intR w.heap.size w'.heap.size 3 w' v (l.map (fun v:List Sec=>(v.length:Int)))∧Below w.heap.size w w':=by
 go_enter Tryz.func112,Tryz.ntmps112
 go_wp2_with (at_make;refine wpList_make0 (r:=intR) (B:=w.heap.size) Tryz.slInt rfl _ _ rfl rfl rfl ?b2 ?b3 ?b4 ?_)
 case b2=>omega
 case b3=>unfold maxLen;omega
 case b4=>exact Nat.le_refl _
 intro w0 hown0 hB0
 have hs:=h.small
 go_wp2
 go_loopw [5,13] (fun v i wr=>∃ k:Nat,k≤n∧i=.int .i64 k∧OwnD intR w.heap.size wr.heap.size 3 wr v ((l.map (fun v:List Sec=>(v.length:Int))).take k)∧Below w.heap.size w wr) (fun _ i _=>n - (intOf i).toNat)
 case atStart=>exact ⟨0,Nat.zero_le _,rfl,hown0 _,hB0⟩
 case round =>
  obtain ⟨k,hk,rfl,hown,hB⟩:=hrel
  by_cases hlt:k<n
  ·obtain ⟨b,off,rfl,_,_⟩:=h.addr hlt
   obtain ⟨x,hx⟩:=h.get hlt
   obtain ⟨a',n',c',hcell,hx'⟩:=(h.below hB).slice hx
   have hlen:((l.map (fun v:List Sec=>(v.length:Int))).take k).length=k:=by have:=h.len;simp;omega
   have HL:=Lib.hid hlen;clear hlen
   have HX:=Lib.hid hx;clear hx
   go_wp2_with (fail)
   refine (len1_any hx').mono ?_
   rintro e w1 ⟨z,rfl,hrd,hB1⟩
   have hownl:=hown.lt
   have hz1:=hB1.size
   have hz:=hB.size
   go_wp2_with (at_builtin;refine wpList_appD Tryz.slInt rfl _ _ rfl rfl ((hown.below hB1).below ((Below.refl _ _).alloc (Nat.le_refl _) _)) rfl (news_new w1 3 #[.int .i64 z]) (rd_alloc hrd) (fun k hk=>(hownl k hk).2) ?c1 ?c2 ?c3 ?c4 ?_)
   case c1=>rw [HL.out];unfold maxLen;omega
   case c2=>rw [HL.out];omega
   case c3=>omega
   case c4=>simp;omega
   intro v' w2 hown1 hgrow _
   go_wp2
   go_roundw
   case rel=>exact ⟨k+1,by omega,by go_num,by
    have e:(l.map (fun v:List Sec=>(v.length:Int))).take (k+1)=(l.map (fun v:List Sec=>(v.length:Int))).take k++[(fun v:List Sec=>(v.length:Int)) x]:=take_succ_get (by rw [List.getElem?_map,HX.out];rfl)
    rw [e];exact hown1,((hB.trans (hB1.mono hB.size)).alloc (by omega) _).grown hgrow (by simp;omega) (fun k hk=>(hownl k hk).1)⟩
   case measure=>simp [intOf];omega
  ·go_wp2
   go_ret
   obtain rfl:k=n:=by omega
   rw [take_all (by rw [List.length_map];exact h.len)] at hown
   exact ⟨_,rfl,hown,hB⟩
theorem sizesI_any {a:Option Addr} {n c:Nat} {im:List (List Sec)} {ok:Nat→Prop} {w:World} (h:Sl secsR ok w a n c im) (hn:n≤1000000) :
  Calls Tryz.prog 94 #[.slice a n c] w fun e w'=>∃ a' n' c',e=.returned (.slice a' n' c')∧Sl intR (w.heap.size≤·) w' a' n' c' (lens im)∧Below w.heap.size w w':=by
 go_enter Tryz.func94,Tryz.ntmps94
 go_wp2_with fail
 refine (mapped_len h hn).mono ?_
 rintro e w1 ⟨v,rfl,hown,hB⟩
 obtain ⟨a',n',c',rfl,h1⟩:=hown.sl
 go_wp2
 go_ret
 exact ⟨_,_,_,rfl,h1,hB⟩
theorem checkI_any {a:Option Addr} {n c:Nat} {im:List (List Sec)} {ok:Nat→Prop} {w:World} (h:Sl secsR ok w a n c im) (hn:n≤1000000) :
  Calls Tryz.prog 53 #[.slice a n c] w fun e w'=>e=.returned (.int .i64 (imgErr im))∧Below w.heap.size w w':=by
 go_enter Tryz.func53,Tryz.ntmps53
 go_wp2_with fail
 refine (sizesI_any h hn).mono ?_
 rintro e w1 ⟨a',n',c',rfl,h1,hB⟩
 go_wp2_with fail
 refine (checkSizes_any h1).mono ?_
 rintro e w2 ⟨rfl,hB2⟩
 go_wp2
 go_ret
 exact ⟨rfl,hB.trans (hB2.mono hB.size)⟩
end Go.Proofs.YtpcncggjmabnaaaGreatDoor

namespace Go.Proofs.YtpcncggjmabnaaaGreatDoor
open Go.RowKit
def orNil {α:Type} (e:Int) (l:List α):List α:=if e=0 then l else []
theorem orNil_ok {α:Type} {e:Int} {l:List α} (h:e=0):orNil e l=l:=if_pos h
theorem orNil_bad {α:Type} {e:Int} {l:List α} (h:¬ e=0):orNil e l=[]:=if_neg h
def zeros (n:Int):List Sec:=List.replicate n.toNat zeroSec
def newImg (l:List Int):List (List Sec):=l.map zeros
set_option maxHeartbeats 1000000 in
theorem clone_sec {a:Option Addr} {n c:Nat} {l:List Sec} {ok:Nat→Prop} {w:World} (h:Sl secR ok w a n c l) (hn:n≤1000000) :
  Calls Tryz.prog 86 #[.slice a n c] w fun e w'=>∃ a' n' c',e=.returned (.slice a' n' c')∧(ownRowR secR 79).rd (w.heap.size≤·) w' [.slice a' n' c'] l∧Below w.heap.size w w':=by
 have heq:=fun (a:Option Addr) (n c:Nat) (w:World)=>Lib.run_eql_slice_nil (P:=Tryz.prog) w 74 79 a n c 0 0 Tryz.underlying74
 cases a with
 |none =>
  have h0:l=[]:=List.eq_nil_of_length_eq_zero (by rw [h.len];have:=h.nil rfl;have:=h.cap;omega)
  have H0:=Lib.hid h0;clear h0
  go_enter Tryz.func86,Tryz.ntmps86
  go_wp2
  go_ret
  refine ⟨_,_,_,rfl,?_,Below.refl _ _⟩
  rw [H0.out]
  exact ownRowR.mk (Own.nil _ _ _ _ _) (fun _=>.inl rfl)
 |some ad =>
  have hs:=h.small
  go_enter Tryz.func86,Tryz.ntmps86
  go_wp2_with (at_builtin;refine wpList_app Tryz.slSec rfl _ _ rfl rfl (Own.lit0 secR (ok:=fun _=>False) (Nat.le_refl _)) rfl ((Src.of_sl (h.below ((Below.refl _ _).alloc (Nat.le_refl _) _))).flat Flat.sec) ?c1 ?c2 ?c3 ?_)
  case c1=>simp;unfold maxLen;omega
  case c2=>simp;omega
  case c3=>simp
  intro v' w1 hown hgrow hat
  obtain ⟨a',n',c',rfl,_⟩:=hown.sl
  go_wp2
  go_ret
  refine ⟨_,_,_,rfl,ownRowR.mk (by simpa using hown) (fun e=>?_),((Below.refl _ _).alloc (Nat.le_refl _) _).grown hgrow (by simp) (fun k hk=>by cases hk;exact Nat.le_refl _)⟩
  subst e
  obtain ⟨xs,h1,_⟩:=hown
  rcases h1.2 with ⟨hv,_⟩|⟨g,cap,cur,hv,_⟩
  ·exact .inl hv
  ·exact .inr ⟨g,cap,by simpa using hv⟩
end Go.Proofs.YtpcncggjmabnaaaGreatDoor

namespace Go.Proofs.YtpcncggjmabnaaaGreatDoor
open Go.RowKit
def sameSecs (v:List Sec):List Sec:=v
theorem map_same (l:List (List Sec)):l.map sameSecs=l:=List.map_id l
abbrev ownSecs:Rep (List Sec):=ownRowR secR 79
set_option maxHeartbeats 1000000 in
theorem mapped_clone {a:Option Addr} {n c:Nat} {l:List (List Sec)} {ok:Nat→Prop} {w:World} (h:Sl secsR ok w a n c l) (hn:n≤1000000)(hv:∀ v∈l,v.length≤1000000) :
  Calls Tryz.prog 127 #[.slice a n c,.func (.func 86) #[] #[]] w fun e w'=>∃ v,e=.returned v∧OwnD ownSecs w.heap.size w'.heap.size 74 w' v (l.map sameSecs)∧Below w.heap.size w w':=by
 go_enter Tryz.func127,Tryz.ntmps127
 go_wp2_with (at_make;refine wpList_make0 (r:=ownSecs) (B:=w.heap.size) Tryz.slSecs rfl _ _ rfl rfl rfl ?b2 ?b3 ?b4 ?_)
 case b2=>omega
 case b3=>unfold maxLen;omega
 case b4=>exact Nat.le_refl _
 intro w0 hown0 hB0
 have hs:=h.small
 go_wp2
 go_loopw [5,13] (fun v i wr=>∃ k:Nat,k≤n∧i=.int .i64 k∧OwnD ownSecs w.heap.size wr.heap.size 74 wr v ((l.map sameSecs).take k)∧Below w.heap.size w wr) (fun _ i _=>n - (intOf i).toNat)
 case atStart=>exact ⟨0,Nat.zero_le _,rfl,hown0 _,hB0⟩
 case round =>
  obtain ⟨k,hk,rfl,hown,hB⟩:=hrel
  by_cases hlt:k<n
  ·obtain ⟨b,off,rfl,_,_⟩:=h.addr hlt
   obtain ⟨x,hx⟩:=h.get hlt
   obtain ⟨a',n',c',hcell,hx'⟩:=(h.below hB).slice hx;have hv':=hv x (List.mem_of_getElem? hx)
   have hlen:((l.map sameSecs).take k).length=k:=by have:=h.len;simp;omega
   have HL:=Lib.hid hlen;clear hlen
   have HX:=Lib.hid hx;clear hx
   go_wp2_with (fail)
   refine (clone_sec hx' (by rw [← hx'.len];exact hv')).mono ?_
   rintro e w1 ⟨a2,n2,c2,rfl,hrd,hB1⟩
   have hownl:=hown.lt
   have hz1:=hB1.size
   have hz:=hB.size
   go_wp2_with (at_builtin;refine wpList_appD Tryz.slSecs rfl _ _ rfl rfl ((hown.below hB1).below ((Below.refl _ _).alloc (Nat.le_refl _) _)) rfl (news_new w1 74 #[.slice a2 n2 c2]) (rd_alloc hrd) (fun k hk=>(hownl k hk).2) ?c1 ?c2 ?c3 ?c4 ?_)
   case c1=>rw [HL.out];unfold maxLen;omega
   case c2=>rw [HL.out];omega
   case c3=>omega
   case c4=>simp;omega
   intro v' w2 hown1 hgrow _
   go_wp2
   go_roundw
   case rel=>exact ⟨k+1,by omega,by go_num,by
    have e:(l.map sameSecs).take (k+1)=(l.map sameSecs).take k++[sameSecs x]:=take_succ_get (by rw [List.getElem?_map,HX.out];rfl)
    rw [e];exact hown1,((hB.trans (hB1.mono hB.size)).alloc (by omega) _).grown hgrow (by simp;omega) (fun k hk=>(hownl k hk).1)⟩
   case measure=>simp [intOf];omega
  ·go_wp2
   go_ret
   obtain rfl:k=n:=by omega
   rw [take_all (by rw [List.length_map];exact h.len)] at hown
   exact ⟨_,rfl,hown,hB⟩
theorem copied_any {a:Option Addr} {n c:Nat} {im:List (List Sec)} {ok:Nat→Prop} {w:World} (h:Sl secsR ok w a n c im) (hn:n≤1000000) (hv:∀ v∈im,v.length≤1000000) :
  Calls Tryz.prog 117 #[.slice a n c] w fun e w'=>∃ v,e=.returned v∧OwnD ownSecs w.heap.size w'.heap.size 74 w' v im∧Below w.heap.size w w':=by
 go_enter Tryz.func117,Tryz.ntmps117
 go_wp2_with fail
 refine (mapped_clone h hn hv).mono ?_
 rintro e w1 ⟨v,rfl,hown,hB⟩
 go_wp2
 go_ret
 exact ⟨_,rfl,by rw [map_same] at hown;exact hown,hB⟩
theorem Sl.imp {α:Type} {r s:Rep α} {ok:Nat→Prop} {w:World} {a:Option Addr} {n c:Nat} {l:List α} (hz:s.sz=r.sz) (hi:∀ cs x,r.rd ok w cs x→s.rd ok w cs x) (h:Sl r ok w a n c l):Sl s ok w a n c l :=
 ⟨h.len,h.cap,h.bnd,h.nil,h.cells.imp id fun ⟨b,off,e,hb,hl,hc⟩=>⟨b,off,e,hb,hl,fun i x hx=>let ⟨cs,g1,g2⟩:=hc i x hx;⟨cs,by rw [hz];exact g1,hi cs x g2⟩⟩⟩
theorem ownSecs_secs {ok:Nat→Prop} {w:World} {cs:List Value} {x:List Sec} (h:ownSecs.rd ok w cs x):secsR.rd ok w cs x:=by
 obtain ⟨v,rfl,h1⟩:=h
 obtain ⟨a,n,c,rfl,h2⟩:=ownRowR.sl Flat.sec (v:=v) ⟨v,rfl,h1⟩
 exact ⟨a,n,c,rfl,h2⟩
theorem OwnD.img {B F:Nat} {E:TypeId} {w:World} {v:Value} {im:List (List Sec)} (h:OwnD ownSecs B F E w v im):∃ a n c,v=.slice a n c∧Sl secsR (B≤·) w a n c im :=
 let ⟨a,n,c,e,h⟩:=h.sl;⟨a,n,c,e,Sl.imp (r:=ownSecs) (s:=secsR) rfl (fun _ _ g=>ownSecs_secs g) h⟩
set_option maxHeartbeats 2000000 in
theorem fits1_any {a:Option Addr} {n c:Nat} {im:List (List Sec)} {ok:Nat→Prop} {w:World} (h:Sl secsR ok w a n c im) {vol start:Int} (hv:i64ok vol) (hst:i64ok start)
  {da:Option Addr} {dn dc:Nat} (hd:dn≤9223372036854775807) :
  Calls Tryz.prog 118 #[.slice a n c,.agg #[.int .i64 vol,.int .i64 start,.slice da dn dc]] w fun e w'=>e=.returned (.int .i64 (fitErr (lens im) vol start dn))∧Below w.heap.size w w':=by
 have hs:=h.small
 unfold i64ok at hv hst
 have hlen:(lens im).length=n:=by simp [lens,h.len]
 have HL:=Lib.hid hlen;clear hlen
 have hB0:Below w.heap.size w (w.alloc (.cells #[.int .i64 vol,.int .i64 start,.slice da dn dc] 76)):=(Below.refl _ _).alloc (Nat.le_refl _) _
 by_cases h1:vol<0
 ·go_enter Tryz.func118,Tryz.ntmps118
  go_wp2
  go_ret
  exact ⟨ret_int (by rw [fitErr,if_pos (.inl h1)]),hB0⟩
 obtain ⟨k,rfl⟩:=Int.eq_ofNat_of_zero_le (Int.not_lt.1 h1)
 by_cases h2:n≤k
 ·go_enter Tryz.func118,Tryz.ntmps118
  go_wp2
  go_ret
  exact ⟨ret_int (by rw [fitErr,if_pos (.inr (by rw [HL.out];omega))]),hB0⟩
 have hlt:k<n:=by omega
 obtain ⟨b,off,rfl,_,_⟩:=h.addr hlt
 obtain ⟨x,hx⟩:=h.get hlt
 have HX:Hid ((lens im)[k]?=some (x.length:Int)):=by show _=_;rw [lens,List.getElem?_map,hx];rfl
 obtain ⟨a',n',c',hcell,hx'⟩:=(h.below hB0).slice hx
 have hs':=hx'.small
 have hn':=hx'.len
 have HN:=Lib.hid hn';clear hn'
 clear hx
 by_cases h3:dn=0
 ·subst h3
  go_enter Tryz.func118,Tryz.ntmps118
  go_wp2
  go_ret
  exact ⟨ret_int (by rw [fitErr,if_neg (by rw [HL.out];omega),if_pos rfl]),hB0⟩
 have h3':0<dn:=by omega
 clear h3
 by_cases h4:start<0
 ·have d1:decide (start<0)=true:=by simp;omega
  go_enter Tryz.func118,Tryz.ntmps118
  go_wp2_with fail
  refine wp_region_quiet_lit (by kernel_rfl) (by kernel_rfl) ?_
  repeat (go_big_quiet_step (fail))
  refine wpQuiet_nil ?_
  rintro _ ⟨nq,rfl⟩
  go_wp2
  go_ret
  exact ⟨ret_int (by rw [fitErr,if_neg (by rw [HL.out];omega),if_neg (by omega),if_pos (.inl h4)]),below_drewN hB0 _⟩
 have h4':0≤start:=by omega
 have d1:decide (start<0)=false:=by simp;omega
 by_cases h5:(n':Int) - dn<start
 ·have d2:decide ((n':Int) - dn<start)=true:=by simp;omega
  go_enter Tryz.func118,Tryz.ntmps118
  go_wp2_with fail
  refine wp_region_quiet_lit (by kernel_rfl) (by kernel_rfl) ?_
  repeat (go_big_quiet_step (fail))
  refine wpQuiet_nil ?_
  rintro _ ⟨nq,rfl⟩
  go_wp2
  go_ret
  exact ⟨ret_int (by rw [fitErr,if_neg (by rw [HL.out];omega),if_neg (by omega),if_pos (by rw [Int.toNat_natCast,getD_of HX.out,HN.out];omega)]),below_drewN hB0 _⟩
 ·have h5':start≤(n':Int) - dn:=by omega
  have d2:decide ((n':Int) - dn<start)=false:=by simp;omega
  go_enter Tryz.func118,Tryz.ntmps118
  go_wp2_with fail
  refine wp_region_quiet_lit (by kernel_rfl) (by kernel_rfl) ?_
  repeat (go_big_quiet_step (fail))
  refine wpQuiet_nil ?_
  rintro _ ⟨nq,rfl⟩
  go_wp2
  go_ret
  exact ⟨ret_int (by rw [fitErr,if_neg (by rw [HL.out];omega),if_neg (by omega),if_neg (by rw [Int.toNat_natCast,getD_of HX.out,HN.out];omega)]),below_drewN hB0 _⟩
end Go.Proofs.YtpcncggjmabnaaaGreatDoor

namespace Go.Proofs.YtpcncggjmabnaaaGreatDoor
open Go.RowKit
theorem Tryz.szSec:(Tryz.prog.info? 79).map (·.size)=some 8:=by kernel_rfl
end Go.Proofs.YtpcncggjmabnaaaGreatDoor

namespace Go.Proofs.YtpcncggjmabnaaaGreatDoor
open Go.RowKit
def writeAt (l:List Sec) (s:Nat) (d:List Sec):List Sec:=l.take s++d++l.drop (s+d.length)
def putW (im:List (List Sec)) (x:Wr):List (List Sec):=im.set x.1.toNat (writeAt (im.getD x.1.toNat []) x.2.1.toNat x.2.2)
def fitW (sz:List Int) (x:Wr):Int:=fitErr sz x.1 x.2.1 x.2.2.length
def applyErr (sz:List Int):List Wr→Nat→Int × Int
 |[],_=>(0,0)
 |x :: l,i=>if fitW sz x≠0 then (i,fitW sz x) else applyErr sz l (i+1)
def applyImg (im:List (List Sec)) (l:List Wr):List (List Sec):=if imgErr im≠0 then [] else orNil (applyErr (lens im) l 0).2 (l.foldl putW im)
def applyIdx (im:List (List Sec)) (l:List Wr):Int:=if imgErr im≠0 then 0 else (applyErr (lens im) l 0).1
def applyE (im:List (List Sec)) (l:List Wr):Int:=if imgErr im≠0 then imgErr im else (applyErr (lens im) l 0).2
def RetApply (w:World) (im:List (List Sec)) (l:List Wr):Ending→World→Prop:=fun e w' =>
 ∃ a n c,e=.returned (.tuple #[.slice a n c,.int .i64 (applyIdx im l),.int .i64 (applyE im l)])∧Sl secsR (w.heap.size≤·) w' a n c (applyImg im l)∧(a=none∨applyE im l=0)∧Below w.heap.size w w'
theorem RetApply.mk {w w':World} {im:List (List Sec)} {l:List Wr} {a:Option Addr} {n c:Nat} {i e:Int} (hi:i=applyIdx im l) (he:e=applyE im l) (h:Sl secsR (w.heap.size≤·) w' a n c (applyImg im l)) (hz:a=none∨applyE im l=0) (hB:Below w.heap.size w w') :
  RetApply w im l (.returned (.tuple #[.slice a n c,.int .i64 i,.int .i64 e])) w':=⟨a,n,c,by rw [hi,he],h,hz,hB⟩
theorem applyErr_step {sz:List Int} {l:List Wr} {k:Nat} {x:Wr} (hx:l[k]?=some x) (h:applyErr sz l 0=applyErr sz (l.drop k) k) (hf:fitW sz x=0):applyErr sz l 0=applyErr sz (l.drop (k+1)) (k+1):=by
 obtain ⟨hk,rfl⟩:=List.getElem?_eq_some_iff.1 hx
 rw [h,List.drop_eq_getElem_cons hk,applyErr,if_neg (by rw [hf];decide)]
theorem applyErr_hit {sz:List Int} {l:List Wr} {k:Nat} {x:Wr} (hx:l[k]?=some x) (h:applyErr sz l 0=applyErr sz (l.drop k) k) (hf:fitW sz x≠0):applyErr sz l 0=((k:Int),fitW sz x):=by
 obtain ⟨hk,rfl⟩:=List.getElem?_eq_some_iff.1 hx
 rw [h,List.drop_eq_getElem_cons hk,applyErr,if_pos hf]
theorem applyErr_end {sz:List Int} {l:List Wr} {k:Nat} (hk:l.length≤k) (h:applyErr sz l 0=applyErr sz (l.drop k) k):applyErr sz l 0=(0,0):=by
 rw [h,List.drop_eq_nil_of_le hk,applyErr]
theorem writeAt_length {l d:List Sec} {s:Nat} (h:s+d.length≤l.length):(writeAt l s d).length=l.length:=by
 unfold writeAt;simp;omega
theorem fitW_ok {im:List (List Sec)} {v s:Int} {d:List Sec} (h:fitW (lens im) (v,s,d)=0):0≤v∧v<im.length∧0<d.length∧0≤s∧∃ x,im[v.toNat]?=some x∧s+d.length≤x.length:=by
 unfold fitW fitErr at h
 simp only at h
 split at h
 ·omega
 ·rename_i h1
  split at h
  ·omega
  ·rename_i h2
   split at h
   ·omega
   ·rename_i h3
    have h4:v.toNat<im.length:=by simp [lens] at h1;omega
    have e:(lens im).getD v.toNat 0=((im[v.toNat]'h4).length:Int):=by simp [lens,List.getD,h4]
    rw [e] at h3
    simp [lens] at h1
    exact ⟨by omega,by omega,by omega,by omega,_,List.getElem?_eq_getElem h4,by omega⟩
theorem lens_put {im:List (List Sec)} {x:Wr} (h:fitW (lens im) x=0):lens (putW im x)=lens im:=by
 obtain ⟨v,s,d⟩:=x
 obtain ⟨h1,h2,h3,h4,y,hy,h5⟩:=fitW_ok h
 unfold lens putW
 rw [List.map_set]
 apply List.ext_getElem?
 intro i
 rw [List.getElem?_set]
 by_cases hi:v.toNat=i
 ·subst hi
  have hl:=(List.getElem?_eq_some_iff.1 hy).1
  simp only [List.length_map,if_true,if_pos hl,List.getElem?_map,hy,Option.map_some]
  rw [getD_of hy,writeAt_length (by omega)]
 ·rw [if_neg hi]
set_option maxHeartbeats 4000000 in
theorem applyI_any {a:Option Addr} {n c:Nat} {im:List (List Sec)} {ok ok2:Nat→Prop} {w:World} (h:Sl secsR ok w a n c im) (hn:n≤1000000) (hvs:∀ v∈im,v.length≤1000000)
  {la:Option Addr} {ln lc:Nat} {l:List Wr} (hl:Sl wrR ok2 w la ln lc l) :
  Calls Tryz.prog 100 #[.slice a n c,.slice la ln lc] w (RetApply w im l):=by
 by_cases he:imgErr im=0
 rotate_left
 ·have hb:(imgErr im != 0)=true:=by simp [he]
  have HE:=Lib.hid he;clear he
  go_enter Tryz.func100,Tryz.ntmps100
  go_wp2_with fail
  refine (checkI_any h hn).mono ?_
  rintro e w1 ⟨rfl,hB1⟩
  go_wp2
  go_ret3
  exact RetApply.mk (by rw [applyIdx,if_pos HE.out]) (by rw [applyE,if_pos HE.out]) (by rw [applyImg,if_pos HE.out];exact Sl.nil0 _ _ _) (.inl rfl) hB1
 have hb:(imgErr im != 0)=false:=by simp [he]
 have HE:=Lib.hid he;clear he
 have hls:=hl.small
 go_enter Tryz.func100,Tryz.ntmps100
 go_wp2_with fail
 refine (checkI_any h hn).mono ?_
 rintro e w1 ⟨rfl,hB1⟩
 go_wp2_with fail
 refine (copied_any (h.below hB1) hn hvs).mono ?_
 rintro e w2 ⟨v0,rfl,hown0,hB2⟩
 have hB3:=hB1.trans (hB2.mono hB1.size)
 go_wp2
 go_loopw [21] (fun i wr=>∃ k:Nat,k≤ln∧i=.int .i64 k∧Hid (applyErr (lens im) l 0=applyErr (lens im) (l.drop k) k∧lens ((l.take k).foldl putW im)=lens im)∧OwnD ownSecs w1.heap.size wr.heap.size 74 wr v0 ((l.take k).foldl putW im)∧Below w1.heap.size w1 wr) (fun i _=>ln - (intOf i).toNat)
 case atStart=>exact ⟨0,Nat.zero_le _,rfl,⟨rfl,rfl⟩,hown0,hB2⟩
 case round =>
  obtain ⟨k,hk,rfl,HK,hown,hB⟩:=hrel
  by_cases hlt:k<ln
  ·obtain ⟨b,off,rfl,_,_⟩:=hl.addr hlt
   obtain ⟨⟨v,s,d⟩,hx⟩:=hl.get hlt
   obtain ⟨da,dn,dc,hc0,hc1,hc2,hv,hs,hd⟩:=(hl.below (hB1.trans (hB.mono hB1.size))).wr hx
   have HX:=Lib.hid hx;clear hx
   obtain ⟨a2,n2,c2,rfl,himg⟩:=hown.img
   generalize hcur:(l.take k).foldl putW im=cur at *
   have HC:=Lib.hid hcur;clear hcur
   have hds:=hd.small
   by_cases hf:fitErr (lens cur) v s dn=0
   rotate_left
   ·have hfb:(fitErr (lens cur) v s dn != 0)=true:=by simp [hf]
    have HF:=Lib.hid hf;clear hf
    go_wp2_with fail
    refine (fits1_any (himg.below ((Below.refl _ _).alloc (Nat.le_refl _) _)) hv hs hds).mono ?_
    rintro e w3 ⟨rfl,hB4⟩
    go_wp2
    go_ret3
    have e0:applyErr (lens im) l 0=((k:Int),fitErr (lens cur) v s dn):=by
     have e1:fitW (lens im) (v,s,d)=fitErr (lens cur) v s dn:=by unfold fitW;rw [HK.out.2,hd.len]
     rw [← e1]
     exact applyErr_hit HX.out HK.out.1 (by rw [e1];exact HF.out)
    exact RetApply.mk (by rw [applyIdx,if_neg (by simp [HE.out]),e0]) (by rw [applyE,if_neg (by simp [HE.out]),e0]) (by rw [applyImg,if_neg (by simp [HE.out]),e0,orNil_bad HF.out];exact Sl.nil0 _ _ _) (.inl rfl)
     ((hB1.trans (hB.mono hB1.size)).trans (((Below.refl _ _).alloc (Nat.le_refl _) _).trans (hB4.mono (by simp)) |>.mono (Nat.le_trans hB1.size hB.size)))
   ·have hfb:(fitErr (lens cur) v s dn != 0)=false:=by simp [hf]
    have hfw:fitW (lens cur) (v,s,d)=0:=by unfold fitW;rw [hd.len];exact hf
    obtain ⟨h1,h2,h3,h4,x,hx,h5⟩:=fitW_ok hfw
    obtain ⟨v,rfl⟩:=Int.eq_ofNat_of_zero_le h1
    obtain ⟨s,rfl⟩:=Int.eq_ofNat_of_zero_le h4
    rw [Int.toNat_natCast] at hx
    have HFW:=Lib.hid hfw;clear hfw
    have HF:=Lib.hid hf;clear hf
    have hdn:0<dn:=by rw [← hd.len];exact h3
    have h5':s+dn≤x.length:=by rw [hd.len] at h5;omega
    have h2':v<n2:=by rw [← himg.len];omega
    go_wp2_with fail
    refine (fits1_any (himg.below ((Below.refl _ _).alloc (Nat.le_refl _) _)) hv hs hds).mono ?_
    rintro e w3 ⟨rfl,hB4⟩
    have hB5:Below wr.heap.size wr w3:=((Below.refl _ _).alloc (Nat.le_refl _) _).trans (hB4.mono (by simp))
    -- the row that is written
    obtain ⟨g,cap,cc,okk,hvv,hBg,hg,hcc,⟨u,rfl,hub,hu,_⟩,hokk,hput⟩:=((hown.below hB5).below ((Below.refl _ _).drew)).at hx
    cases hvv
    have hu':=hu
    obtain ⟨xs,hrow,_⟩:=hu
    obtain ⟨gi,capi,rfl⟩:∃ gi capi,u=.slice (some ⟨gi,0,none⟩) x.length capi:=by
     rcases hrow.2 with ⟨_,h0⟩|⟨gi,capi,cur',hvu,_⟩
     ·omega
     ·exact ⟨gi,capi,hvu⟩
    have hcap:x.length≤capi:=by obtain ⟨_,_,_,e,q⟩:=hu'.sl;cases e;exact q.cap
    have hcell:w3.cell? ⟨g,v,none⟩=some (.slice (some ⟨gi,0,none⟩) x.length capi):=by have:=hcc 0 Nat.zero_lt_one;simpa [ownSecs,ownRowR] using this
    have hgi:=hokk gi (hub gi rfl)
    have hw3:=hB5.size
    have hl0:=cellLaterB (g:=gi) (boxCell hB4 (j:=0) rfl) (by show wr.heap.size≠gi;omega)
    have hl1:=cellLaterB (g:=gi) (boxCell hB4 (j:=1) rfl) (by show wr.heap.size≠gi;omega)
    have hl2:=cellLaterB (g:=gi) (boxCell hB4 (j:=2) rfl) (by show wr.heap.size≠gi;omega)
    have hl3:=cellLaterB (g:=gi) hcell (fun e=>hgi.2.2 e.symm)
    have hsl:=fun w=>run_subFrom Tryz.underlying74 Tryz.szSec (some ⟨gi,0,none⟩) x.length capi s (by omega) w
    have hsub:subAddr (some ⟨gi,0,none⟩) capi s 8=some ⟨gi,s * 8,none⟩:=by unfold subAddr;rw [if_neg (by omega)];simp [Addr.add_lit]
    rw [hsub] at hsl
    have HS:=Lib.hid hsub;clear hsub
    have hs64:s≤x.length:=by omega
    clear h5 hcc
    go_wp2_with fail
    refine wp_region_acts (fun w'=>∃ x:LaterB (w3) (gi),w'=x.w) [([0,1,2,3,4,5,6,7,8,9],10)] [] Tryz.mixed (by kernel_rfl) (LaterB.drew _ _) ?_
    refine wpActs_act ?_
    simp only [pick,List.filterMap_cons,List.filterMap_nil,List.getElem?_toArray,List.getElem?_cons_succ,List.getElem?_cons_zero]
    change wpQuiet _ _ _ _ [_,_,_,_,_,_,_,_,_,_] _
    repeat (go_big_quiet_step (fail))
    refine wpQuiet_nil ?_
    change wpList _ _ _ [_] _ _
    refine wpList_copyOwn Tryz.slSec Flat.sec rfl _ _ rfl (s:=s) (r:=secR) rfl rfl hu' (ys:=d) (((hd.below hB5).below ((Below.refl _ _).drew))) (by omega) hdn (by omega) ?_
    intro w4 hrow4 hgr4 hsz4
    have hgr:w3.grownBy w4 (some gi):=grown_trans (grown_drew _ _) hgr4
    have hown4:=hput w4 (writeAt x s d) (fun b hb hne=>hgr4.block b hb (fun e=>hne (by rw [Option.some.inj e];exact hub gi rfl))) hgr4.os hgr4.tape hgr4.output hgr4.size ⟨_,rfl,hub,hrow4,fun e=>by
     have:=writeAt_length (l:=x) (d:=d) (s:=s) (by rw [hd.len];omega)
     rw [e] at this;simp at this;omega⟩
    have e1:putW cur ((v:Int),(s:Int),d)=cur.set v (writeAt x s d):=by
     unfold putW;rw [Int.toNat_natCast,Int.toNat_natCast,getD_of hx]
    have H1:=Lib.hid e1;clear e1
    have HXX:=Lib.hid hx;clear hx
    go_wp2_with fail
    refine ⟨LaterB.of hgr,?_⟩
    refine wpActs_last ?_
    simp only [pick,List.filterMap_cons,List.filterMap_nil,List.getElem?_toArray,List.getElem?_cons_succ,List.getElem?_cons_zero]
    change wpQuiet _ _ _ _ [] _
    repeat (go_big_quiet_step (fail))
    refine wpQuiet_nil ?_
    go_wp2
    go_roundw
    case rel =>
     refine ⟨k+1,by omega,by go_num,?_,?_,(hB.trans (hB5.mono hB.size)).grown hgr (by have:=hB.size;omega) (fun j hj=>by cases hj;omega)⟩
     ·show _∧_
      have hfw:fitW (lens im) ((v:Int),(s:Int),d)=0:=by rw [← HK.out.2];exact HFW.out
      refine ⟨applyErr_step HX.out HK.out.1 hfw,?_⟩
      rw [take_succ_get HX.out,List.foldl_append,HC.out]
      show lens (putW cur _)=_
      rw [lens_put HFW.out,HK.out.2]
     ·rw [take_succ_get HX.out,List.foldl_append,HC.out]
      show OwnD _ _ _ _ _ _ (putW cur _)
      rw [H1.out]
      exact hown4.up (by have:=hgr.size;omega)
    case measure=>simp [intOf];omega
  ·obtain rfl:k=ln:=by omega
   obtain ⟨a2,n2,c2,rfl,himg⟩:=hown.img
   go_wp2
   go_ret3
   have e0:=applyErr_end (Nat.le_of_eq hl.len) HK.out.1
   rw [take_all hl.len] at himg
   exact RetApply.mk (by rw [applyIdx,if_neg (by simp [HE.out]),e0]) (by rw [applyE,if_neg (by simp [HE.out]),e0]) (by rw [applyImg,if_neg (by simp [HE.out]),e0,orNil_ok rfl];exact himg.mono fun b hb=>Nat.le_trans hB1.size hb) (.inr (by rw [applyE,if_neg (by simp [HE.out]),e0]))
    (hB1.trans (hB.mono hB1.size))
end Go.Proofs.YtpcncggjmabnaaaGreatDoor

namespace Go.Proofs.YtpcncggjmabnaaaGreatDoor
open Go.RowKit V
theorem cellish_at {w:World} {b o:Nat} {u:Value} (h:w.cell? ⟨b,o,none⟩=some u):Cellish w b:=by
 unfold World.cell? at h
 simp only at h
 split at h
 ·rename_i e;exact ⟨_,_,_,e⟩
 ·cases h
theorem sl_of_prep {α:Type} {r:Rep α} {enc:α→PV} {ok:Nat→Prop} {w:World} {l:List α} {sz:Nat} {v:Value} (hsz:sz=r.sz) (hc:∀ x,(enc x).cells.length=r.sz)
  (hr:∀ x∈l,∀ (cs:List Value),cs.length=r.sz→(∀ (j:Nat) p u,(enc x).cells[j]?=some p→cs[j]?=some u→PRep ok w p u)→r.rd ok w cs x) (h:PRep ok w (.list sz (l.map enc)) v):∃ a n c,v=.slice a n c∧Sl r ok w a n c l:=by
 generalize he:l.map enc=es at h
 cases h with
 |nil _ a =>
  have:l=[]:=by simpa using he
  subst this
  exact ⟨a,0,0,rfl,⟨rfl,Nat.le_refl _,Nat.zero_le _,fun _=>rfl,.inl rfl⟩⟩
 |list _ _ b off c cv h1 h2 h3 h4 h6 h7 h8 =>
  subst hsz he
  refine ⟨_,_,c,rfl,⟨by simp,h3,h4,(fun e=>by cases e),.inr ⟨b,off,rfl,h1,h2.lt,fun i x hx=>?_⟩⟩⟩
  have hi:(l.map enc)[i]?=some (enc x):=by simp [hx]
  refine ⟨(List.range r.sz).map (cv i),fun j hj=>?_,hr x (List.mem_of_getElem? hx) _ (by simp) fun j p u hp hu=>?_⟩
  ·have hj':j<(enc x).cells.length:=by rw [hc];exact hj
   rw [(h7 i _ j _ hi (List.getElem?_eq_getElem hj')).1]
   simp [hj]
  ·have hj:j<r.sz:=by have:=(List.getElem?_eq_some_iff.1 hp).1;rw [hc] at this;exact this
   have:u=cv i j:=by simp [hj] at hu;exact hu.symm
   rw [this]
   exact h8 i _ j _ hi hp
theorem prep_of_sl {α:Type} {r:Rep α} {enc:α→PV} {ok ok':Nat→Prop} {w:World} {l:List α} {a:Option Addr} {n c:Nat} (hk:∀ b,ok b→b<w.heap.size→ok' b) (hp0:0<r.sz) (hc:∀ x,(enc x).cells.length=r.sz)
  (hr:∀ x∈l,∀ (cs:List Value),cs.length=r.sz→r.rd ok w cs x→∀ (j:Nat) p u,(enc x).cells[j]?=some p→cs[j]?=some u→u.oneCell'=true∧PRep ok' w p u) (hz:l=[]→c=0) (h:Sl r ok w a n c l):PRep ok' w (.list r.sz (l.map enc)) (.slice a n c):=by
 obtain ⟨h1,h2,h3,h4,h5⟩:=h
 by_cases hl:l=[]
 ·have:=hz hl
  subst hl
  have:n=0:=by simpa using h1.symm
  subst this
  have:c=0:=by omega
  subst this
  exact .nil _ _
 ·rcases h5 with h5|⟨b,off,rfl,hb,hlt,h6⟩
  ·exact absurd (List.eq_nil_of_length_eq_zero (by omega)) hl
  ·have hn:n=(l.map enc).length:=by simp [h1]
   rw [hn]
   have key:∀ (i:Nat) (x:α) (j:Nat) (p:PV),l[i]?=some x→(enc x).cells[j]?=some p→∃ u,w.cell? ⟨b,off+i * r.sz+j,none⟩=some u∧u.oneCell'=true∧PRep ok' w p u:=by
    intro i x j p hx hp
    obtain ⟨cs,g1,g2⟩:=h6 i x hx
    have hj:j<r.sz:=by have:=(List.getElem?_eq_some_iff.1 hp).1;rw [hc] at this;exact this
    have hl2:=r.len g2
    have hu:cs[j]?=some (cs[j]'(by omega)):=List.getElem?_eq_getElem (by omega)
    obtain ⟨k1,k2⟩:=hr x (List.mem_of_getElem? hx) cs hl2 g2 j p _ hp hu
    exact ⟨_,by rw [g1 j hj,hu],k1,k2⟩
   have get:∀ {i:Nat} {e:PV},(l.map enc)[i]?=some e→∃ x,l[i]?=some x∧e=enc x:=by
    intro i e he
    rw [List.getElem?_map] at he
    cases hx:l[i]? with
    |none=>rw [hx] at he;cases he
    |some x=>rw [hx] at he;cases he;exact ⟨x,rfl,rfl⟩
   have hce:Cellish w b:=by
    cases l with
    |nil=>exact absurd rfl hl
    |cons x l =>
     have hj:0<(enc x).cells.length:=by rw [hc];exact hp0
     obtain ⟨u,k1,_⟩:=key 0 x 0 _ rfl (List.getElem?_eq_getElem hj)
     exact cellish_at k1
   refine .list _ _ b off c (fun i j=>(w.cell? ⟨b,off+i * r.sz+j,none⟩).getD undef) (hk b hb hlt) hce (by simp;omega) h3 (fun e he=>?_) (fun i e j x hi hj=>?_) fun i e j x hi hj=>?_
   ·obtain ⟨x,_,rfl⟩:=List.mem_map.1 he;exact hc x
   ·obtain ⟨x',hx,rfl⟩:=get hi
    obtain ⟨u,k1,k2,k3⟩:=key i x' j x hx hj
    rw [k1];exact ⟨rfl,k2⟩
   ·obtain ⟨x',hx,rfl⟩:=get hi
    obtain ⟨u,k1,k2,k3⟩:=key i x' j x hx hj
    rw [k1];exact k3
theorem secs_in {ok:Nat→Prop} {w:World} {l:List Sec} {v:Value} (h:PRep ok w (eSecs l) v):∃ a n c,v=.slice a n c∧Sl secR ok w a n c l:=by
 refine sl_of_prep (r:=secR) (enc:=eSec) rfl (fun x=>secPV_length x) (fun x _ cs hl hcs=>?_) h
 show cs=secCells x
 refine List.ext_getElem? fun j=>?_
 by_cases hj:j<8
 ·have h1:cs[j]?=some (cs[j]'(by rw [hl];exact hj)):=List.getElem?_eq_getElem _
  have h2:(eSec x).cells[j]?=some (.int .u8 ((x.toList[j]'(by simpa using hj)).toNat:Int)):=by
   show (secPV x)[j]?=_
   have hj':j<x.toList.length:=by simpa using hj
   simp only [secPV,List.getElem?_map,List.getElem?_eq_getElem hj',Option.map_some]
  have:=(hcs j _ _ h2 h1).int_inv
  have hj':j<x.toList.length:=by simpa using hj
  rw [h1,this]
  simp only [secCells,List.getElem?_map,List.getElem?_eq_getElem hj',Option.map_some]
 ·have e1:cs.length=8:=hl
  rw [List.getElem?_eq_none (by omega),List.getElem?_eq_none (by rw [secCells_length];omega)]
theorem img_in {ok:Nat→Prop} {w:World} {l:List (List Sec)} {v:Value} (h:PRep ok w (.list 1 (l.map eSecs)) v):∃ a n c,v=.slice a n c∧Sl secsR ok w a n c l:=by
 refine sl_of_prep (r:=secsR) (enc:=eSecs) rfl (fun x=>rfl) (fun x _ cs hl hcs=>?_) h
 match cs,hl with
 |[u],_ =>
  obtain ⟨a,n,c,rfl,hs⟩:=secs_in (hcs 0 _ u rfl rfl)
  exact ⟨a,n,c,rfl,hs⟩
theorem wrs_in {ok:Nat→Prop} {w:World} {l:List Wrt} {v:Value} (hok:∀ x∈l,i64b x.volume=true∧i64b x.start=true) (h:PRep ok w (.list 3 (l.map eWr)) v):∃ a n c,v=.slice a n c∧Sl wrR ok w a n c (l.map fun x=>(x.volume,x.start,x.data)):=by
 have:∃ a n c,v=.slice a n c∧Sl (α:=Wrt) ⟨3,fun ok w cs x=>wrR.rd ok w cs (x.volume,x.start,x.data),fun h=>wrR.len h,fun hk h=>wrR.mono hk h,fun h=>wrR.live h,fun hf h=>wrR.frame hf h,fun h=>wrR.one h⟩ ok w a n c l:=by
  refine sl_of_prep rfl (fun x=>rfl) (fun x hx cs hl hcs=>?_) h
  match cs,hl with
  |[u,u2,u3],_ =>
   have e1:=(hcs 0 _ u rfl rfl).int_inv
   have e2:=(hcs 1 _ u2 rfl rfl).int_inv
   obtain ⟨a,n,c,rfl,hs⟩:=secs_in (l:=x.data) (hcs 2 _ u3 rfl rfl)
   obtain ⟨o1,o2⟩:=hok x hx
   simp only [i64b,Bool.and_eq_true,decide_eq_true_eq] at o1 o2
   exact ⟨[u],[u2,.slice a n c],rfl,⟨by rw [e1],o1⟩,⟨[u2],[.slice a n c],rfl,⟨by rw [e2],o2⟩,a,n,c,rfl,hs⟩⟩
 obtain ⟨a,n,c,rfl,h1,h2,h3,h4,h5⟩:=this
 refine ⟨a,n,c,rfl,⟨by simpa using h1,h2,h3,h4,h5.imp id fun ⟨b,off,g1,g2,g3,g4⟩=>⟨b,off,g1,g2,g3,fun i x hx=>?_⟩⟩⟩
 rw [List.getElem?_map] at hx
 cases hx':l[i]? with
 |none=>rw [hx'] at hx;cases hx
 |some y=>rw [hx'] at hx;cases hx;exact g4 i y hx'
theorem img_out {ok ok':Nat→Prop} {w:World} {l:List (List Sec)} {a:Option Addr} {n c:Nat} (hk:∀ b,ok b→b<w.heap.size→ok' b) (hz:l=[]→c=0) (hne:∀ x∈l,x≠[]) (h:Sl secsR ok w a n c l):PRep ok' w (.list 1 (l.map eSecs)) (.slice a n c):=by
 refine prep_of_sl (r:=secsR) (enc:=eSecs) hk (by decide) (fun x=>rfl) (fun x hx cs hl hrd j p u hp hu=>?_) hz h
 obtain ⟨a,n,c,rfl,hs⟩:=hrd
 match j with
 |j+1=>simp [eSecs,PV.cells] at hp
 |0 =>
  cases hp
  cases hu
  refine ⟨rfl,prep_of_sl (r:=secR) (enc:=eSec) hk (by decide) (fun x=>secPV_length x) (fun s _ cs hl hrd j p u hp hu=>?_) (fun e=>absurd e (hne x hx)) hs⟩
  have hrd:cs=secCells s:=hrd
  subst hrd
  simp only [secCells,List.getElem?_map,Option.map_eq_some_iff] at hu
  have hp:(secPV s)[j]?=some p:=hp
  simp only [secPV,List.getElem?_map,Option.map_eq_some_iff] at hp
  obtain ⟨b,h1,rfl⟩:=hu
  obtain ⟨b',h2,rfl⟩:=hp
  rw [h1] at h2
  cases h2
  exact ⟨rfl,.int _ _⟩
theorem wrErr_fit (sz:List Int) (x:Wrt):wrErr sz x=fitW sz (x.volume,x.start,x.data):=by
 simp only [fitW,fitErr,wrErr]
 repeat' split
 all_goals first|rfl|omega
theorem wrErrs_eq (sz:List Int):∀ (l:List Wrt) (i:Nat),wrErrs sz l i=applyErr sz (l.map fun x=>(x.volume,x.start,x.data)) i
 |[],_=>rfl
 |x :: l,i=>by rw [List.map_cons,wrErrs,applyErr,wrErr_fit,wrErrs_eq sz l (i+1)]
theorem apE_eq (im:List (List Sec)) (l:List Wrt):apE im l=applyE im (l.map fun x=>(x.volume,x.start,x.data)):=by
 unfold apE applyE;rw [wrErrs_eq];rfl
theorem apI_eq (im:List (List Sec)) (l:List Wrt):apI im l=applyIdx im (l.map fun x=>(x.volume,x.start,x.data)):=by
 unfold apI applyIdx;rw [wrErrs_eq];rfl
theorem put1_eq (im:List (List Sec)) (x:Wrt):put1 im x=putW im (x.volume,x.start,x.data):=rfl
theorem puts_eq:∀ (l:List Wrt) (im:List (List Sec)),l.foldl put1 im=(l.map fun x=>(x.volume,x.start,x.data)).foldl putW im
 |[],_=>rfl
 |x :: l,im=>by rw [List.map_cons,List.foldl_cons,List.foldl_cons,put1_eq,puts_eq l]
theorem apO_eq (im:List (List Sec)) (l:List Wrt):apO im l=applyImg im (l.map fun x=>(x.volume,x.start,x.data)):=by
 unfold apO applyImg
 rw [apE_eq,puts_eq]
 unfold applyE orNil
 by_cases h:imgErr im=0
 ·simp [h]
 ·simp [h]
theorem wrErr_ok {im:List (List Sec)} {x:Wrt} (h:wrErr (szsOf im) x=0):szsOf (put1 im x)=szsOf im:=by
 rw [wrErr_fit] at h
 exact lens_put h
theorem puts_sizes:∀ (l:List Wrt) (im:List (List Sec)) (i:Nat),(wrErrs (szsOf im) l i).2=0→szsOf (l.foldl put1 im)=szsOf im
 |[],_,_,_=>rfl
 |x :: l,im,i,h=>by
  unfold wrErrs at h
  split at h
  ·rename_i h2;exact absurd h h2
  ·rename_i h2
   have h2:wrErr (szsOf im) x=0:=by omega
   have e:=wrErr_ok h2
   rw [List.foldl_cons,puts_sizes l (put1 im x) (i+1) (by rw [e];exact h),e]
theorem apO_sizes {im:List (List Sec)} {l:List Wrt} (h:apE im l=0):szsOf (apO im l)=szsOf im:=by
 unfold apO
 rw [if_pos h]
 unfold apE at h
 split at h
 ·rename_i h2;exact absurd h h2
 ·exact puts_sizes l im 0 h
theorem szErr_ne {im:List (List Sec)} (h:szErr (szsOf im)=0):im≠[]∧∀ v∈im,v≠[]:=by
 unfold szErr at h
 split at h
 ·cases h
 ·rename_i h1
  split at h
  ·cases h
  ·rename_i h2
   refine ⟨fun e=>by subst e;simp [szsOf] at h1,fun v hv e=>?_⟩
   subst e
   refine h2 (List.any_eq_true.2 ⟨0,?_,by decide⟩)
   exact List.mem_map.2 ⟨[],hv,rfl⟩
theorem apO_ne {im:List (List Sec)} {l:List Wrt}:(apE im l=0→apO im l≠[])∧∀ v∈apO im l,v≠[]:=by
 by_cases h:apE im l=0
 ·have h0:szErr (szsOf im)=0:=by
   unfold apE at h
   split at h
   ·rename_i h2;exact absurd h h2
   ·omega
  have:=szErr_ne (im:=apO im l) (by rw [apO_sizes h];exact h0)
  exact ⟨fun _=>this.1,this.2⟩
 ·exact ⟨fun e=>absurd e h,fun v hv=>by unfold apO at hv;rw [if_neg h] at hv;cases hv⟩
theorem apply_ok {f:Nat} (hc:callable Tryz.prog f=true) (hA:∀ {a:Option Addr} {n c:Nat} {im:List (List Sec)} {ok ok2:Nat→Prop} {w:World},Sl secsR ok w a n c im→n≤1000000→(∀ v∈im,v.length≤1000000) →
  ∀ {la:Option Addr} {ln lc:Nat} {l:List Wr},Sl wrR ok2 w la ln lc l→Calls Tryz.prog f #[.slice a n c,.slice la ln lc] w (RetApply w im l)) :
  ∀ args rs,applyX args=some rs→callable Tryz.prog f=true∧CallOk Tryz.prog f args rs:=fun args rs h=>by
 obtain ⟨im,l,rfl,hw,hn,hv,rfl⟩:=applyX_eq h
 refine ⟨hc,fun T0 w vs h1 h2 h3 h4 _=>?_⟩
 match vs,h3 with
 |[v0,v1],_ =>
  obtain ⟨a,n,c,rfl,hs⟩:=img_in (h4 0 _ v0 rfl rfl)
  obtain ⟨la,ln,lc,rfl,hl⟩:=wrs_in hw (h4 1 _ v1 rfl rfl)
  refine (hA hs (by rw [← hs.len];exact hn) hv hl).mono ?_
  rintro e w' ⟨a',n',c',rfl,hr,hz,hB⟩
  rw [← apI_eq,← apE_eq]
  rw [← apO_eq] at hr
  rw [← apE_eq] at hz
  refine ⟨_,fun b=>if w.heap.size≤b∧b<w'.heap.size then .ro else T0 b,rfl,hB,fun b hb=>if_neg (by omega),fun b hb=>?_,#[_,_,_],rfl,rfl,fun i r u hr' hu=>?_⟩
  ·show (if _ then _ else T0 b)=_
   rw [if_neg (by omega)];exact h2 b (by have:=hB.size;omega)
  ·match i with
   |0 =>
    cases hr';cases hu
    refine img_out (ok:=(w.heap.size≤·)) (fun b hb hlt=>if_pos ⟨hb,hlt⟩) (fun e=>?_) apO_ne.2 hr
    rcases hz with hz|hz
    ·exact hr.nil hz
    ·exact absurd e (apO_ne.1 hz)
   |1=>cases hr';cases hu;exact .int _ _
   |2=>cases hr';cases hu;exact .int _ _
   |i+3=>simp at hr'
theorem applyI_ok:∀ args rs,applyX args=some rs→callable Tryz.prog 100=true∧CallOk Tryz.prog 100 args rs:=apply_ok (by kernel_rfl) fun h hn hv _ _ _ _ hl=>applyI_any h hn hv hl
end Go.Proofs.YtpcncggjmabnaaaGreatDoor

namespace Go.Proofs.YtpcncggjmabnaaaGreatDoor
open Go.RowKit V
def oneEnv (f:Nat) (fn:VFn):Env:=fun k=>if k=f then some (.code fn) else none
theorem oneEnv_ok {P:Program} {f:Nat} {fn:VFn} (h:fnOk P f fn=true):EnvOk P (oneEnv f fn):=fun k d hk=>by
 unfold oneEnv at hk
 split at hk
 ·rename_i e;subst e;cases hk;exact h
 ·cases hk
def emR (n:Nat):Rep Unit where
 sz:=n
 rd _ _ cs _:=cs.length=n∧∀ u∈cs,u.oneCell'=true
 len h:=h.1
 mono _ h:=h
 live h:=h
 frame _ h:=h
 one h:=h.2
theorem Flat.em (n:Nat):Flat (emR n):=fun h=>h
theorem sl_nil {ok:Nat→Prop} {w:World} {sz:Nat} {v:Value} (h:PRep ok w (.list sz []) v):∃ a c,v=.slice a 0 c∧Sl (emR sz) (fun _=>True) w a 0 c []:=by
 obtain ⟨l,hl⟩:∃ l:List PV,l=[]:=⟨_,rfl⟩
 rw [← hl] at h
 cases h with
 |nil _ a=>exact ⟨a,0,rfl,⟨rfl,Nat.le_refl _,Nat.zero_le _,fun _=>rfl,.inl rfl⟩⟩
 |list _ _ b off c cv h1 h2 h3 h4 h6 h7 h8=>subst hl;exact ⟨_,c,rfl,⟨rfl,Nat.zero_le _,h4,(fun e=>by cases e),.inl rfl⟩⟩
--+
theorem slt86:SliceT Tryz.prog 74 79 8 8 (.agg #[.int .u8 0,.int .u8 0,.int .u8 0,.int .u8 0,.int .u8 0,.int .u8 0,.int .u8 0,.int .u8 0]):=⟨Tryz.underlying74,by kernel_rfl,rfl,by decide⟩
set_option maxHeartbeats 1000000 in
theorem cempty86 {a:Option Addr} {n c:Nat} {l:List Unit} {ok:Nat→Prop} {w:World} (h:Sl (emR 8) ok w a n c l) (hn:n≤1000000) :
  Calls Tryz.prog 86 #[.slice a n c] w fun e w'=>∃ a' n' c',e=.returned (.slice a' n' c')∧(ownRowR (emR 8) 79).rd (w.heap.size≤·) w' [.slice a' n' c'] l∧Below w.heap.size w w':=by
 have heq:=fun (a:Option Addr) (n c:Nat) (w:World)=>Lib.run_eql_slice_nil (P:=Tryz.prog) w 74 79 a n c 0 0 Tryz.underlying74
 cases a with
 |none =>
  have h0:l=[]:=List.eq_nil_of_length_eq_zero (by rw [h.len];have:=h.nil rfl;have:=h.cap;omega)
  have H0:=Lib.hid h0;clear h0
  go_enter Tryz.func86,Tryz.ntmps86
  go_wp2
  go_ret
  refine ⟨_,_,_,rfl,?_,Below.refl _ _⟩
  rw [H0.out]
  exact ownRowR.mk (Own.nil _ _ _ _ _) (fun _=>.inl rfl)
 |some ad =>
  have hs:n≤9223372036854775807:=by have:=Nat.le_trans h.cap h.bnd;unfold maxLen at this;omega
  go_enter Tryz.func86,Tryz.ntmps86
  go_wp2_with (at_builtin;refine wpList_app slt86 rfl _ _ rfl rfl (Own.lit0 (emR 8) (ok:=fun _=>False) (Nat.le_refl _)) rfl ((Src.of_sl (h.below ((Below.refl _ _).alloc (Nat.le_refl _) _))).flat (Flat.em 8)) ?c1 ?c2 ?c3 ?_)
  case c1=>simp;unfold maxLen;omega
  case c2=>simp;omega
  case c3=>simp
  intro v' w1 hown hgrow hat
  obtain ⟨a',n',c',rfl,_⟩:=hown.sl
  go_wp2
  go_ret
  refine ⟨_,_,_,rfl,ownRowR.mk (by simpa using hown) (fun e=>?_),((Below.refl _ _).alloc (Nat.le_refl _) _).grown hgrow (by simp) (fun k hk=>by cases hk;exact Nat.le_refl _)⟩
  subst e
  obtain ⟨xs,h1,_⟩:=hown
  rcases h1.2 with ⟨hv,_⟩|⟨g,cap,cur,hv,_⟩
  ·exact .inl hv
  ·exact .inr ⟨g,cap,by simpa using hv⟩
theorem clone86_fn:fnOk Tryz.prog 86 fn86=true:=by kernel_rfl
theorem clone86_some {en:Env} (hen:en 86=some (.code fn86)) {e:PV} {es:List PV} (hl:(e :: es).length≤lim):cal en 86 [.list 8 (e :: es)]=some [(.list 8 (e :: es),true)]:=by
 have F1:(es.length+1≤lim)=True:=eq_true (by simpa using hl)
 rw [cal_code hen rfl]
 simp only [fn86]
 simp only [start,z_map_cons,z_map_nil,z_len_cons,z_len_nil,z_repl_zero,z_repl_succ,z_cons_app,z_nil_app,Nat.reduceAdd,Nat.reduceSub]
 simp only [F1,z_nil_app,memAll,vAll,reduceCtorEq,Nat.reduceEqDiff,Nat.reduceAdd,Nat.reduceLT,Nat.reduceLeDiff,Nat.beq]
theorem clone86_ok:∀ args rs,cloneX 8 args=some rs→callable Tryz.prog 86=true∧CallOk Tryz.prog 86 args rs:=fun args rs h=>by
 unfold cloneX at h
 split at h
 case h_2=>cases h
 rename_i sz es
 split at h
 case isFalse=>cases h
 rename_i hc
 obtain ⟨rfl,hl⟩:=hc
 cases h
 cases es with
 |cons e es =>
  obtain ⟨n,hn⟩:=vmCall_of_cal (clone86_some (en:=oneEnv 86 fn86) (if_pos rfl) hl)
  exact vmCall_ok (oneEnv_ok clone86_fn) hn
 |nil =>
  refine ⟨by kernel_rfl,fun T0 w vs h1 h2 h3 h4 _=>?_⟩
  match vs,h3 with
  |[v],_ =>
   have hv:=h4 0 _ v rfl rfl
   obtain ⟨a,c,rfl,hsl⟩:=sl_nil hv
   refine (cempty86 (ok:=fun _=>True) hsl (by omega)).mono ?_
   rintro e w' ⟨a',n',c',rfl,hrd,hB⟩
   obtain ⟨v,hv,hb,⟨xs,hown,_⟩,hnil⟩:=hrd
   obtain rfl:Value.slice a' n' c'=v:=by simpa using hv
   rcases hown.2 with ⟨e1,_⟩|⟨g,cap,cur,e1,_,hg,_,hm,hs,_⟩
   ·refine ⟨_,T0,rfl,hB,fun _ _=>rfl,fun b hb=>h2 b (by have:=hB.size;omega),#[_],rfl,rfl,fun i r u hr hu=>?_⟩
    cases i with
    |zero=>cases hr;cases hu;exact .inl ⟨rfl,none,e1⟩
    |succ i=>simp at hr
   ·have hg0:w.heap.size≤g:=hb g (by rw [e1];rfl)
    have hgl:g<w'.heap.size:=(Array.getElem?_eq_some_iff.1 hg).1
    refine ⟨_,fun b=>if b=g then .row (.part 0 0) else T0 b,rfl,hB,fun b hb=>if_neg (by omega),fun b hb=>?_,#[_],rfl,rfl,fun i r u hr hu=>?_⟩
    ·show (if b=g then _ else T0 b)=_
     rw [if_neg (by omega)];exact h2 b (by have:=hB.size;omega)
    ·cases i with
     |zero =>
      cases hr;cases hu
      exact .inr ⟨g,cap,cur,_,e1,if_pos rfl,hg,hs,Nat.zero_le _,hm,(fun e he=>by cases he),fun i e j x hi=>by simp at hi⟩
     |succ i=>simp at hr
--+
theorem slt39:SliceT Tryz.prog 22 3 1 8 (.int .i64 0):=⟨Tryz.underlying22,by kernel_rfl,rfl,by decide⟩
set_option maxHeartbeats 1000000 in
theorem cempty39 {a:Option Addr} {n c:Nat} {l:List Unit} {ok:Nat→Prop} {w:World} (h:Sl (emR 1) ok w a n c l) (hn:n≤1000000) :
  Calls Tryz.prog 39 #[.slice a n c] w fun e w'=>∃ a' n' c',e=.returned (.slice a' n' c')∧(ownRowR (emR 1) 3).rd (w.heap.size≤·) w' [.slice a' n' c'] l∧Below w.heap.size w w':=by
 have heq:=fun (a:Option Addr) (n c:Nat) (w:World)=>Lib.run_eql_slice_nil (P:=Tryz.prog) w 22 3 a n c 0 0 Tryz.underlying22
 cases a with
 |none =>
  have h0:l=[]:=List.eq_nil_of_length_eq_zero (by rw [h.len];have:=h.nil rfl;have:=h.cap;omega)
  have H0:=Lib.hid h0;clear h0
  go_enter Tryz.func39,Tryz.ntmps39
  go_wp2
  go_ret
  refine ⟨_,_,_,rfl,?_,Below.refl _ _⟩
  rw [H0.out]
  exact ownRowR.mk (Own.nil _ _ _ _ _) (fun _=>.inl rfl)
 |some ad =>
  have hs:n≤9223372036854775807:=by have:=Nat.le_trans h.cap h.bnd;unfold maxLen at this;omega
  go_enter Tryz.func39,Tryz.ntmps39
  go_wp2_with (at_builtin;refine wpList_app slt39 rfl _ _ rfl rfl (Own.lit0 (emR 1) (ok:=fun _=>False) (Nat.le_refl _)) rfl ((Src.of_sl (h.below ((Below.refl _ _).alloc (Nat.le_refl _) _))).flat (Flat.em 1)) ?c1 ?c2 ?c3 ?_)
  case c1=>simp;unfold maxLen;omega
  case c2=>simp;omega
  case c3=>simp
  intro v' w1 hown hgrow hat
  obtain ⟨a',n',c',rfl,_⟩:=hown.sl
  go_wp2
  go_ret
  refine ⟨_,_,_,rfl,ownRowR.mk (by simpa using hown) (fun e=>?_),((Below.refl _ _).alloc (Nat.le_refl _) _).grown hgrow (by simp) (fun k hk=>by cases hk;exact Nat.le_refl _)⟩
  subst e
  obtain ⟨xs,h1,_⟩:=hown
  rcases h1.2 with ⟨hv,_⟩|⟨g,cap,cur,hv,_⟩
  ·exact .inl hv
  ·exact .inr ⟨g,cap,by simpa using hv⟩
theorem clone39_fn:fnOk Tryz.prog 39 fn39=true:=by kernel_rfl
theorem clone39_some {en:Env} (hen:en 39=some (.code fn39)) {e:PV} {es:List PV} (hl:(e :: es).length≤lim):cal en 39 [.list 1 (e :: es)]=some [(.list 1 (e :: es),true)]:=by
 have F1:(es.length+1≤lim)=True:=eq_true (by simpa using hl)
 rw [cal_code hen rfl]
 simp only [fn39]
 simp only [start,z_map_cons,z_map_nil,z_len_cons,z_len_nil,z_repl_zero,z_repl_succ,z_cons_app,z_nil_app,Nat.reduceAdd,Nat.reduceSub]
 simp only [F1,z_nil_app,memAll,vAll,reduceCtorEq,Nat.reduceEqDiff,Nat.reduceAdd,Nat.reduceLT,Nat.reduceLeDiff,Nat.beq]
theorem clone39_ok:∀ args rs,cloneX 1 args=some rs→callable Tryz.prog 39=true∧CallOk Tryz.prog 39 args rs:=fun args rs h=>by
 unfold cloneX at h
 split at h
 case h_2=>cases h
 rename_i sz es
 split at h
 case isFalse=>cases h
 rename_i hc
 obtain ⟨rfl,hl⟩:=hc
 cases h
 cases es with
 |cons e es =>
  obtain ⟨n,hn⟩:=vmCall_of_cal (clone39_some (en:=oneEnv 39 fn39) (if_pos rfl) hl)
  exact vmCall_ok (oneEnv_ok clone39_fn) hn
 |nil =>
  refine ⟨by kernel_rfl,fun T0 w vs h1 h2 h3 h4 _=>?_⟩
  match vs,h3 with
  |[v],_ =>
   have hv:=h4 0 _ v rfl rfl
   obtain ⟨a,c,rfl,hsl⟩:=sl_nil hv
   refine (cempty39 (ok:=fun _=>True) hsl (by omega)).mono ?_
   rintro e w' ⟨a',n',c',rfl,hrd,hB⟩
   obtain ⟨v,hv,hb,⟨xs,hown,_⟩,hnil⟩:=hrd
   obtain rfl:Value.slice a' n' c'=v:=by simpa using hv
   rcases hown.2 with ⟨e1,_⟩|⟨g,cap,cur,e1,_,hg,_,hm,hs,_⟩
   ·refine ⟨_,T0,rfl,hB,fun _ _=>rfl,fun b hb=>h2 b (by have:=hB.size;omega),#[_],rfl,rfl,fun i r u hr hu=>?_⟩
    cases i with
    |zero=>cases hr;cases hu;exact .inl ⟨rfl,none,e1⟩
    |succ i=>simp at hr
   ·have hg0:w.heap.size≤g:=hb g (by rw [e1];rfl)
    have hgl:g<w'.heap.size:=(Array.getElem?_eq_some_iff.1 hg).1
    refine ⟨_,fun b=>if b=g then .row (.part 0 0) else T0 b,rfl,hB,fun b hb=>if_neg (by omega),fun b hb=>?_,#[_],rfl,rfl,fun i r u hr hu=>?_⟩
    ·show (if b=g then _ else T0 b)=_
     rw [if_neg (by omega)];exact h2 b (by have:=hB.size;omega)
    ·cases i with
     |zero =>
      cases hr;cases hu
      exact .inr ⟨g,cap,cur,_,e1,if_pos rfl,hg,hs,Nat.zero_le _,hm,(fun e he=>by cases he),fun i e j x hi=>by simp at hi⟩
     |succ i=>simp at hr
--+
theorem slt80:SliceT Tryz.prog 91 134 1 8 (.int .u64 0):=⟨Tryz.underlying91,by kernel_rfl,rfl,by decide⟩
set_option maxHeartbeats 1000000 in
theorem cempty80 {a:Option Addr} {n c:Nat} {l:List Unit} {ok:Nat→Prop} {w:World} (h:Sl (emR 1) ok w a n c l) (hn:n≤1000000) :
  Calls Tryz.prog 80 #[.slice a n c] w fun e w'=>∃ a' n' c',e=.returned (.slice a' n' c')∧(ownRowR (emR 1) 134).rd (w.heap.size≤·) w' [.slice a' n' c'] l∧Below w.heap.size w w':=by
 have heq:=fun (a:Option Addr) (n c:Nat) (w:World)=>Lib.run_eql_slice_nil (P:=Tryz.prog) w 91 134 a n c 0 0 Tryz.underlying91
 cases a with
 |none =>
  have h0:l=[]:=List.eq_nil_of_length_eq_zero (by rw [h.len];have:=h.nil rfl;have:=h.cap;omega)
  have H0:=Lib.hid h0;clear h0
  go_enter Tryz.func80,Tryz.ntmps80
  go_wp2
  go_ret
  refine ⟨_,_,_,rfl,?_,Below.refl _ _⟩
  rw [H0.out]
  exact ownRowR.mk (Own.nil _ _ _ _ _) (fun _=>.inl rfl)
 |some ad =>
  have hs:n≤9223372036854775807:=by have:=Nat.le_trans h.cap h.bnd;unfold maxLen at this;omega
  go_enter Tryz.func80,Tryz.ntmps80
  go_wp2_with (at_builtin;refine wpList_app slt80 rfl _ _ rfl rfl (Own.lit0 (emR 1) (ok:=fun _=>False) (Nat.le_refl _)) rfl ((Src.of_sl (h.below ((Below.refl _ _).alloc (Nat.le_refl _) _))).flat (Flat.em 1)) ?c1 ?c2 ?c3 ?_)
  case c1=>simp;unfold maxLen;omega
  case c2=>simp;omega
  case c3=>simp
  intro v' w1 hown hgrow hat
  obtain ⟨a',n',c',rfl,_⟩:=hown.sl
  go_wp2
  go_ret
  refine ⟨_,_,_,rfl,ownRowR.mk (by simpa using hown) (fun e=>?_),((Below.refl _ _).alloc (Nat.le_refl _) _).grown hgrow (by simp) (fun k hk=>by cases hk;exact Nat.le_refl _)⟩
  subst e
  obtain ⟨xs,h1,_⟩:=hown
  rcases h1.2 with ⟨hv,_⟩|⟨g,cap,cur,hv,_⟩
  ·exact .inl hv
  ·exact .inr ⟨g,cap,by simpa using hv⟩
theorem clone80_fn:fnOk Tryz.prog 80 fn80=true:=by kernel_rfl
theorem clone80_some {en:Env} (hen:en 80=some (.code fn80)) {e:PV} {es:List PV} (hl:(e :: es).length≤lim):cal en 80 [.list 1 (e :: es)]=some [(.list 1 (e :: es),true)]:=by
 have F1:(es.length+1≤lim)=True:=eq_true (by simpa using hl)
 rw [cal_code hen rfl]
 simp only [fn80]
 simp only [start,z_map_cons,z_map_nil,z_len_cons,z_len_nil,z_repl_zero,z_repl_succ,z_cons_app,z_nil_app,Nat.reduceAdd,Nat.reduceSub]
 simp only [F1,z_nil_app,memAll,vAll,reduceCtorEq,Nat.reduceEqDiff,Nat.reduceAdd,Nat.reduceLT,Nat.reduceLeDiff,Nat.beq]
theorem clone80_ok:∀ args rs,cloneX 1 args=some rs→callable Tryz.prog 80=true∧CallOk Tryz.prog 80 args rs:=fun args rs h=>by
 unfold cloneX at h
 split at h
 case h_2=>cases h
 rename_i sz es
 split at h
 case isFalse=>cases h
 rename_i hc
 obtain ⟨rfl,hl⟩:=hc
 cases h
 cases es with
 |cons e es =>
  obtain ⟨n,hn⟩:=vmCall_of_cal (clone80_some (en:=oneEnv 80 fn80) (if_pos rfl) hl)
  exact vmCall_ok (oneEnv_ok clone80_fn) hn
 |nil =>
  refine ⟨by kernel_rfl,fun T0 w vs h1 h2 h3 h4 _=>?_⟩
  match vs,h3 with
  |[v],_ =>
   have hv:=h4 0 _ v rfl rfl
   obtain ⟨a,c,rfl,hsl⟩:=sl_nil hv
   refine (cempty80 (ok:=fun _=>True) hsl (by omega)).mono ?_
   rintro e w' ⟨a',n',c',rfl,hrd,hB⟩
   obtain ⟨v,hv,hb,⟨xs,hown,_⟩,hnil⟩:=hrd
   obtain rfl:Value.slice a' n' c'=v:=by simpa using hv
   rcases hown.2 with ⟨e1,_⟩|⟨g,cap,cur,e1,_,hg,_,hm,hs,_⟩
   ·refine ⟨_,T0,rfl,hB,fun _ _=>rfl,fun b hb=>h2 b (by have:=hB.size;omega),#[_],rfl,rfl,fun i r u hr hu=>?_⟩
    cases i with
    |zero=>cases hr;cases hu;exact .inl ⟨rfl,none,e1⟩
    |succ i=>simp at hr
   ·have hg0:w.heap.size≤g:=hb g (by rw [e1];rfl)
    have hgl:g<w'.heap.size:=(Array.getElem?_eq_some_iff.1 hg).1
    refine ⟨_,fun b=>if b=g then .row (.part 0 0) else T0 b,rfl,hB,fun b hb=>if_neg (by omega),fun b hb=>?_,#[_],rfl,rfl,fun i r u hr hu=>?_⟩
    ·show (if b=g then _ else T0 b)=_
     rw [if_neg (by omega)];exact h2 b (by have:=hB.size;omega)
    ·cases i with
     |zero =>
      cases hr;cases hu
      exact .inr ⟨g,cap,cur,_,e1,if_pos rfl,hg,hs,Nat.zero_le _,hm,(fun e he=>by cases he),fun i e j x hi=>by simp at hi⟩
     |succ i=>simp at hr
end Go.Proofs.YtpcncggjmabnaaaGreatDoor

namespace Go.Proofs.YtpcncggjmabnaaaGreatDoor.V
end Go.Proofs.YtpcncggjmabnaaaGreatDoor.V

namespace Go.Proofs.YtpcncggjmabnaaaGreatDoor.V
def okW (l:List Wrt):Prop:=∀ w∈l,i64b w.volume=true∧i64b w.start=true
theorem cal100 {im:Img} {l:List Wrt} (hw:okW l) (hl:im.length≤1000000) (hr:∀ v∈im,v.length≤1000000):cal env 100 [.list 1 (im.map eSecs),.list 3 (l.map eWr)]=some [(.list 1 ((apO im l).map eSecs),false),(.int .i64 (apI im l),false),(.int .i64 (apE im l),false)] :=
 (cal_ext env100).trans (applyX_enc hw hl hr)
end Go.Proofs.YtpcncggjmabnaaaGreatDoor.V

namespace Go.Proofs.YtpcncggjmabnaaaGreatDoor.V
theorem most_ok:sizesErr (mostZ 8)=0:=by decide
def fitM (w:Wrt):Prop:=fitsErr (newImg (mostZ 8)) w=0
theorem most_at {v:Nat} (h:v<8):((newImg (mostZ 8)).getD v []).length=4096:=by
 unfold newImg mostZ
 rw [List.getD_eq_getElem?_getD,List.getElem?_map,List.getElem?_replicate,if_pos h,Option.map_some,Option.getD_some,List.length_replicate]
 rfl
theorem fitM_at {w:Wrt} (h:fitM w):0≤w.volume∧w.volume<8∧0≤w.start∧w.start+w.data.length≤4096:=by
 obtain ⟨q1,q2,q3,q4⟩:=fits_at h
 have h8:(newImg (mostZ 8)).length=8:=by rw [newImg_len24];unfold mostZ;rw [List.length_replicate]
 rw [h8] at q2
 rw [most_at (by omega)] at q4
 exact ⟨q1,q2,q3,q4⟩
theorem fitM_mod {w:Wrt} (h:fitM w):mod1 w:=by
 obtain ⟨q1,q2,q3,q4⟩:=fitM_at h
 exact ⟨⟨q3,by omega⟩,by omega⟩
def fldN (l:List Wrt) (n:Nat):List Wrt:=(List.range n).flatMap fun (v:Nat)=>(unX (v:Int) l).map (pkO l (v:Int))
def fldO (l:List Wrt):List Wrt:=fldN l 8
theorem fldN_succ (l:List Wrt) (n:Nat):fldN l (n+1)=fldN l n++(unX (n:Int) l).map (pkO l (n:Int)):=by
 unfold fldN;rw [List.range_succ,List.flatMap_append];simp
theorem fldN_len (l:List Wrt):∀ n,(fldN l n).length≤4096 * n
 |0=>by simp [fldN]
 |n+1=>by
  rw [fldN_succ,List.length_append,List.length_map]
  have:=fldN_len l n
  have:=unX_len (n:Int) l
  omega
theorem unX_in {v:Int} {l:List Wrt}:∀ e∈unX v l,0≤e.start∧1≤e.count∧e.start+e.count≤4096:=fun e he=>by
 rw [unX_ext] at he
 exact ext_in _ _ e he
theorem loop63 {l:List Wrt} (hm:∀ w∈l,fitM w) (hl:l.length≤10000) {st:St} (h:st.head [0,4,34] st.boxes.length=some ⟨sl 36 [(0,.pv (.list 3 (l.map eWr))),(4,.pv (.int .i64 (0:Nat))),(34,.any)],[],[],none⟩) :
  den env fn63_l1 st=some (.normal,⟨sl 36 [(0,.pv (.list 3 (l.map eWr))),(2,.any),(3,.any),(34,.any)],[],[],none⟩):=by
 unfold fn63_l1
 refine clean_up (env:=env) (nb:=0) (l.length) (fun i=>⟨sl 36 [(0,.pv (.list 3 (l.map eWr))),(4,.pv (.int .i64 i)),(34,.any)],[],[],none⟩) (fun i=>some (.normal,⟨sl 36 [(0,.pv (.list 3 (l.map eWr))),(2,.any),(3,.any),(34,.any)],[],[],none⟩)) h (fun _=>rfl) (fun _=>by simp only [slAll,slsAll,Nat.reduceMul,Nat.reduceBEq,Nat.reduceLT,Nat.reduceLeDiff,Nat.reduceAdd,decide_true,Bool.and_self,Bool.true_and]) ?_ ?_
 ·intro i rb hi ih
  have hi1:=i64_next hi (by unfold lim;omega)
  have F1:((i:Int)<(l.length:Int))=True:=eq_true (by omega)
  have hx:=eWr_at hi
  have hw:=hm _ (List.getElem_mem hi)
  have e1:=cal97
  have e2:=cal65 (im:=newImg (mostZ 8)) (w:=l[i]) (by rw [newImg_len24];unfold mostZ;rw [List.length_replicate];unfold lim;omega) (fun v hv=>Nat.le_trans (newImg_le most_ok v hv) (by decide)) (by have:=(fitM_mod hw).2;unfold lim;omega)
  rw [show fitsErr (newImg (mostZ 8)) l[i]=0 from hw,newImg_back most_ok] at e2
  unfold eWr at e2
  have Z:((0:Int) != 0)=false:=rfl
  simp only [fn63_b0,F1,e1,e2,Z,hx,part3,index_nat hi,List.length_map,slAll,slsAll,Nat.reduceMul,Nat.reduceBEq,Nat.reduceLT,Nat.reduceLeDiff,memAll,vAll,reduceCtorEq,Nat.reduceEqDiff,Nat.reduceAdd,Nat.reduceLT,Nat.reduceLeDiff,Nat.beq]
  rw [ih _ (by simp only [hi1,slAll,slsAll,Nat.reduceMul,Nat.reduceBEq,Nat.reduceLT,Nat.reduceLeDiff,memAll,vAll,reduceCtorEq,Nat.reduceEqDiff,Nat.reduceAdd,Nat.reduceLT,Nat.reduceLeDiff,Nat.beq]<;>rfl)]
 ·intro rb
  simp only [fn63_b0,Int.lt_irrefl,List.length_map,slAll,slsAll,Nat.reduceMul,Nat.reduceBEq,Nat.reduceLT,Nat.reduceLeDiff,memAll,vAll,reduceCtorEq,Nat.reduceEqDiff,Nat.reduceAdd,Nat.reduceLT,Nat.reduceLeDiff,Nat.beq]
theorem loop63l3 {l:List Wrt} (hm:∀ w∈l,fitM w) (hl:l.length≤10000) {st:St} (h:st.head [0,6,7,34] st.boxes.length=some ⟨sl 36 [(0,.pv (.list 3 (l.map eWr))),(6,.row 3 ((fldN l ((0:Nat))).map eWr)),(7,.pv (.int .i64 (((0:Nat):Nat):Int))),(34,.any)],[],[],none⟩) :
  den env fn63_l3 st=some (.normal,⟨sl 36 [(2,.any),(3,.any),(6,.row 3 ((fldO l).map eWr))],[],[],none⟩):=by
 unfold fn63_l3
 refine clean_up (env:=env) (nb:=0) (8) (fun i=>⟨sl 36 [(0,.pv (.list 3 (l.map eWr))),(6,.row 3 ((fldN l (i)).map eWr)),(7,.pv (.int .i64 ((i:Nat):Int))),(34,.any)],[],[],none⟩) (fun i=>some (.normal,⟨sl 36 [(2,.any),(3,.any),(6,.row 3 ((fldO l).map eWr))],[],[],none⟩)) h (fun _=>rfl) (fun _=>by simp only [slAll,slsAll,Nat.reduceMul,Nat.reduceBEq,Nat.reduceLT,Nat.reduceLeDiff,Nat.reduceAdd,decide_true,Bool.and_self,Bool.true_and]) ?_ ?_
 ·intro i rb hi ih
  have hi1:=i64_next (n:=8) hi (by unfold lim;omega)
  have F1:((i:Int)<8)=True:=eq_true (by omega)
  have hmd:∀ w∈l,mod1 w:=fun w hw=>fitM_mod (hm w hw)
  have e1:=cal99 (v:=(i:Int)) hmd hl
  have hun:=unX_len (i:Int) l
  have e2:=cal98 (v:=(i:Int)) (es:=unX (i:Int) l) hmd hl (by omega) (fun e he=>by have:=unX_in e he;omega)
  have hN:=fldN_len l i
  have F5:((fldN l i).length+((unX (i:Int) l).map (pkO l (i:Int))).length≤lim)=True:=eq_true (by rw [List.length_map];unfold lim;omega)
  have hs:(fldN l (i+1)).map eWr=(fldN l i).map eWr++((unX (i:Int) l).map (pkO l (i:Int))).map eWr:=by rw [fldN_succ,List.map_append]
  rw [hs] at ih
  generalize (unX (i:Int) l).map (pkO l (i:Int))=M at *
  simp only [fn63_b2,F1,F5,e1,e2,List.length_map,slAll,slsAll,Nat.reduceMul,Nat.reduceBEq,Nat.reduceLT,Nat.reduceLeDiff,memAll,vAll,reduceCtorEq,Nat.reduceEqDiff,Nat.reduceAdd,Nat.reduceLT,Nat.reduceLeDiff,Nat.beq]
  rw [ih _ (by simp only [hi1,slAll,slsAll,Nat.reduceMul,Nat.reduceBEq,Nat.reduceLT,Nat.reduceLeDiff,memAll,vAll,reduceCtorEq,Nat.reduceEqDiff,Nat.reduceAdd,Nat.reduceLT,Nat.reduceLeDiff,Nat.beq]<;>rfl)]
 ·intro rb
  have F1:(((8:Nat):Int)<8)=False:=eq_false (by omega)
  rw [show fldN l 8=fldO l from rfl]
  simp only [fn63_b2,F1,List.length_map,slAll,slsAll,Nat.reduceMul,Nat.reduceBEq,Nat.reduceLT,Nat.reduceLeDiff,memAll,vAll,reduceCtorEq,Nat.reduceEqDiff,Nat.reduceAdd,Nat.reduceLT,Nat.reduceLeDiff,Nat.beq]
theorem cal63 {l:List Wrt} (hm:∀ w∈l,fitM w) (hl:l.length≤10000):cal env 63 [.list 3 (l.map eWr)]=some [(.list 3 ((fldO l).map eWr),true),(.int .i64 0,false)]:=by
 rw [cal_code env63 rfl];simp only [fn63,slAll,Nat.reduceBEq,Nat.reduceLeDiff,Nat.reduceAdd,List.length_cons,List.length_nil]
 simp only [List.length_map,slAll,slsAll,Nat.reduceMul,Nat.reduceBEq,Nat.reduceLT,Nat.reduceLeDiff,memAll,vAll,reduceCtorEq,Nat.reduceEqDiff,Nat.reduceAdd,Nat.reduceLT,Nat.reduceLeDiff,Nat.beq]
 rw [loop63 hm hl (by simp only [slAll,slsAll,Nat.reduceMul,Nat.reduceBEq,Nat.reduceLT,Nat.reduceLeDiff,Nat.reduceAdd,decide_true,Bool.and_self,Bool.true_and]<;>rfl)]
 simp only [List.length_map,slAll,slsAll,Nat.reduceMul,Nat.reduceBEq,Nat.reduceLT,Nat.reduceLeDiff,memAll,vAll,reduceCtorEq,Nat.reduceEqDiff,Nat.reduceAdd,Nat.reduceLT,Nat.reduceLeDiff,Nat.beq]
 rw [loop63l3 hm hl (by simp only [show fldN l 0=[] from rfl,List.map_nil];simp only [slAll,slsAll,Nat.reduceMul,Nat.reduceBEq,Nat.reduceLT,Nat.reduceLeDiff,Nat.reduceAdd,decide_true,Bool.and_self,Bool.true_and]<;>rfl)]
 simp only [List.length_map,slAll,slsAll,Nat.reduceMul,Nat.reduceBEq,Nat.reduceLT,Nat.reduceLeDiff,memAll,vAll,reduceCtorEq,Nat.reduceEqDiff,Nat.reduceAdd,Nat.reduceLT,Nat.reduceLeDiff,Nat.beq]
end Go.Proofs.YtpcncggjmabnaaaGreatDoor.V

namespace Go.Proofs.YtpcncggjmabnaaaGreatDoor.V
theorem wr_same {im:Img} {w:Wrt} (h:fitsErr im w=0):wrErr (szsOf im) w=0:=by
 obtain ⟨q1,q2,q3,q4⟩:=fits_at h
 unfold fitsErr at h
 split at h
 ·omega
 rename_i k1
 split at h
 ·omega
 rename_i k2
 have hl:(szsOf im).length=im.length:=by simp [szsOf]
 have hv:w.volume.toNat<im.length:=by omega
 have e:(szsOf im).getD w.volume.toNat 0=((im.getD w.volume.toNat []).length:Int):=by
  simp [szsOf,List.getD_eq_getElem?_getD,hv]
 unfold wrErr
 rw [hl,if_neg k1,if_neg k2,if_neg (by rw [e];omega)]
theorem wrErrs_ok24 (sz:List Int):∀ (l:List Wrt) (i:Nat),(∀ w∈l,wrErr sz w=0)→(wrErrs sz l i).2=0
 |[],_,_=>rfl
 |w :: l,i,h=>by
  unfold wrErrs
  rw [if_neg (by rw [h w (by simp)];simp)]
  exact wrErrs_ok24 sz l (i+1) (fun x hx=>h x (by simp [hx]))
theorem ck_ap {im:Img} {c:Cye} (hi:imCheck im=0) (h:ckY (imSizes im) c=0):apE im c.ws=0∧okW c.ws∧fitW (imSizes im) c.ws∧∀ w∈c.ws,fitsErr im w=0:=by
 obtain ⟨h1,_,h3⟩:=ckY_wc h
 have hw:=wcE_all h3
 have hfit:=fitW_of hw (sizes_z h1)
 have hf:∀ w∈c.ws,fitsErr im w=0:=fun w hwm=>by
  have k:=hw w hwm
  unfold fitsErr at k ⊢
  have e1:(newImg (imSizes im)).length=im.length:=by rw [newImg_len24];simp [imSizes]
  have e2:((newImg (imSizes im)).getD w.volume.toNat []).length=(im.getD w.volume.toNat []).length:=by
   by_cases c:w.volume.toNat<im.length
   ·simp [newImg,imSizes,List.getD_eq_getElem?_getD,c]
   ·simp [newImg,imSizes,List.getD_eq_getElem?_getD,Nat.le_of_not_lt c]
  rw [e1,e2] at k
  exact k
 have hs:szErr (szsOf im)=0:=hi
 refine ⟨?_,fun w hwm=>?_,hfit,hf⟩
 ·unfold apE
  rw [if_neg (by rw [hs];simp)]
  exact wrErrs_ok24 _ _ _ fun w hwm=>wr_same (hf w hwm)
 ·obtain ⟨q1,q2,q3,q4⟩:=fits_at (hf w hwm)
  have hlen:im.length≤8:=by
   unfold imCheck sizesErr at hi
   split at hi
   ·omega
   ·rename_i k;have:(imSizes im).length=im.length:=by simp [imSizes]
    omega
  have hvol:((im.getD w.volume.toNat []).length:Int)≤4096:=by
   by_cases c:w.volume.toNat<im.length
   ·have e2:im.getD w.volume.toNat []=im[w.volume.toNat]:=by simp [c]
    have:=sizes_z h1 (im[w.volume.toNat].length:Int) (by unfold imSizes;exact List.mem_map.2 ⟨_,List.getElem_mem c,rfl⟩)
    rw [e2];omega
   ·rw [List.getD_eq_getElem?_getD,List.getElem?_eq_none (Nat.le_of_not_lt c)];simp
  simp only [i64b,Bool.and_eq_true,decide_eq_true_eq]
  omega
theorem imC_small {im:Img} (hi:imCheck im=0):im.length≤8∧∀ v∈im,v.length≤4096:=by
 have h1:=sizes_z (z:=imSizes im) hi
 refine ⟨?_,fun v hv=>?_⟩
 ·unfold imCheck sizesErr at hi
  split at hi
  ·omega
  ·rename_i k;have:(imSizes im).length=im.length:=by simp [imSizes]
   omega
 ·have:=h1 (v.length:Int) (by unfold imSizes;exact List.mem_map.2 ⟨_,hv,rfl⟩)
  omega
theorem loop64 {im:Img} {c:Cye} (hl:im.length≤1000) {st:St} (h:st.head [0,3,7,19,20,21,29] st.boxes.length=some ⟨sl 47 [(0,.pv (.list 1 (im.map eSecs))),(3,.pbox 0 0),(7,.row 1 (((imSizes im).take ((0:Nat))).map eI)),(19,.pv (.list 1 (im.map eSecs))),(20,.pv (.int .i64 im.length)),(21,.pv (.int .i64 (0:Nat))),(29,.any)],[⟨false,bCye c⟩],[],none⟩) :
  den env fn64_l1 st=some (.normal,⟨sl 47 [(0,.pv (.list 1 (im.map eSecs))),(3,.pbox 0 0),(4,.any),(5,.any),(7,.row 1 ((imSizes im).map eI))],[⟨false,bCye c⟩],[],none⟩):=by
 unfold fn64_l1
 refine clean_up (env:=env) (nb:=1) (im.length) (fun i=>⟨sl 47 [(0,.pv (.list 1 (im.map eSecs))),(3,.pbox 0 0),(7,.row 1 (((imSizes im).take (i)).map eI)),(19,.pv (.list 1 (im.map eSecs))),(20,.pv (.int .i64 im.length)),(21,.pv (.int .i64 i)),(29,.any)],[⟨false,bCye c⟩],[],none⟩) (fun i=>some (.normal,⟨sl 47 [(0,.pv (.list 1 (im.map eSecs))),(3,.pbox 0 0),(4,.any),(5,.any),(7,.row 1 ((imSizes im).map eI))],[⟨false,bCye c⟩],[],none⟩)) h (fun _=>rfl) (fun _=>by simp only [slAll,slsAll,Nat.reduceMul,Nat.reduceBEq,Nat.reduceLT,Nat.reduceLeDiff,Nat.reduceAdd,decide_true,Bool.and_self,Bool.true_and]) ?_ ?_
 ·intro i rb hi ih
  have hi1:=i64_next hi (by unfold lim;omega)
  have F1:((i:Int)<(im.length:Int))=True:=eq_true (by omega)
  have hx:=eImg_at24 hi
  have hil:i<(imSizes im).length:=by unfold imSizes;rw [List.length_map];exact hi
  have F5:(((imSizes im).take i).length+1≤lim)=True:=eq_true (by rw [List.length_take];unfold lim;omega)
  have hs:((imSizes im).take (i+1)).map eI=((imSizes im).take i).map eI++[.int .i64 (im[i].length:Int)]:=by
   rw [List.take_succ_eq_append_getElem hil,List.map_append]
   congr 1
   simp [imSizes,eI]
  rw [hs] at ih
  generalize (imSizes im).take i=Z at *
  simp only [fn64_b0,F1,F5,hx,bCye_eq,index_nat hi,List.length_map,slAll,slsAll,Nat.reduceMul,Nat.reduceBEq,Nat.reduceLT,Nat.reduceLeDiff,memAll,vAll,reduceCtorEq,Nat.reduceEqDiff,Nat.reduceAdd,Nat.reduceLT,Nat.reduceLeDiff,Nat.beq]
  rw [ih _ (by simp only [hi1,bCye_eq,slAll,slsAll,Nat.reduceMul,Nat.reduceBEq,Nat.reduceLT,Nat.reduceLeDiff,memAll,vAll,reduceCtorEq,Nat.reduceEqDiff,Nat.reduceAdd,Nat.reduceLT,Nat.reduceLeDiff,Nat.beq]<;>rfl)]
  rfl
 ·intro rb
  rw [show (imSizes im).take im.length=imSizes im from List.take_of_length_le (by simp [imSizes])]
  simp only [fn64_b0,Int.lt_irrefl,bCye_eq,List.length_map,slAll,slsAll,Nat.reduceMul,Nat.reduceBEq,Nat.reduceLT,Nat.reduceLeDiff,memAll,vAll,reduceCtorEq,Nat.reduceEqDiff,Nat.reduceAdd,Nat.reduceLT,Nat.reduceLeDiff,Nat.beq]
theorem cal64 {im:Img} {c:Cye} (hi:imCheck im=0) (hc:okCy c) (hk:ckY (imSizes im) c=0):cal env 64 [.list 1 (im.map eSecs),eCye c]=some [(.list 1 ((apO im c.ws).map eSecs),false),(.int .i64 0,false)]:=by
 obtain ⟨s1,s2⟩:=imC_small hi
 obtain ⟨k1,k2,_,_⟩:=ck_ap hi hk
 have e1:=cal53 (im:=im) (by unfold lim;omega)
 rw [hi] at e1
 have e2:=cal42q (z:=imSizes im) (b:=c.base) (n:=c.num) (t:=c.time) (p:=c.pos) (w:=c.ws) (by unfold imSizes;rw [List.length_map];unfold lim;omega) (Nat.le_trans hc.2.1 (by decide)) (fun x hx=>Nat.le_trans (hc.2.2 x hx) (by decide)) hc.1
 rw [show ckC (imSizes im) c.base c.num c.time c.pos c.ws=ckY (imSizes im) c from rfl,hk] at e2
 unfold eCyc at e2
 have e3:=cal100 (im:=im) (l:=c.ws) k2 (by omega) (fun v hv=>by have:=s2 v hv;omega)
 rw [k1] at e3
 have Z:((0:Int) != 0)=false:=rfl
 rw [eCye_eq]
 rw [cal_code env64 rfl];simp only [fn64,slAll,Nat.reduceBEq,Nat.reduceLeDiff,Nat.reduceAdd,List.length_cons,List.length_nil]
 simp only [e1,Z,part5,List.length_map,slAll,slsAll,Nat.reduceMul,Nat.reduceBEq,Nat.reduceLT,Nat.reduceLeDiff,memAll,vAll,reduceCtorEq,Nat.reduceEqDiff,Nat.reduceAdd,Nat.reduceLT,Nat.reduceLeDiff,Nat.beq]
 rw [loop64 (im:=im) (c:=c) (by omega) (by simp only [bCye_eq,List.take_zero,List.map_nil];simp only [slAll,slsAll,Nat.reduceMul,Nat.reduceBEq,Nat.reduceLT,Nat.reduceLeDiff,Nat.reduceAdd,decide_true,Bool.and_self,Bool.true_and]<;>rfl)]
 simp only [e2,e3,Z,part5,bCye_eq,slAll,slsAll,Nat.reduceMul,Nat.reduceBEq,Nat.reduceLT,Nat.reduceLeDiff,memAll,vAll,reduceCtorEq,Nat.reduceEqDiff,Nat.reduceAdd,Nat.reduceLT,Nat.reduceLeDiff,Nat.beq]
end Go.Proofs.YtpcncggjmabnaaaGreatDoor.V

namespace Go.Proofs.YtpcncggjmabnaaaGreatDoor.V
def can:Int→List Exn→Prop
 |_,[]=>True
 |nx,x :: l=>nx≤x.start∧1≤x.count∧can (x.start+x.count+1) l
def endN:Int→List Exn→Int
 |nx,[]=>nx
 |_,x :: l=>endN (x.start+x.count+1) l
theorem endN_snoc:∀ (l:List Exn) (nx:Int) (x:Exn),endN nx (l++[x])=x.start+x.count+1
 |[],_,_=>rfl
 |y :: l,_,x=>endN_snoc l (y.start+y.count+1) x
theorem can_snoc:∀ (l:List Exn) (nx:Int) (x:Exn),can nx (l++[x]) ↔ can nx l∧endN nx l≤x.start∧1≤x.count
 |[],nx,x=>by simp [can,endN]
 |y :: l,nx,x=>by
  have:=can_snoc l (y.start+y.count+1) x
  show nx≤y.start∧1≤y.count∧can _ (l++[x]) ↔ (nx≤y.start∧1≤y.count∧can _ l)∧endN _ l≤x.start∧1≤x.count
  rw [this]
  constructor
  ·rintro ⟨a,b,c,d⟩;exact ⟨⟨a,b,c⟩,d⟩
  ·rintro ⟨⟨a,b,c⟩,d⟩;exact ⟨a,b,c,d⟩
theorem can_ext (p:Nat→Bool):∀ n:Nat,can 0 (ext p n)∧endN 0 (ext p n)≤(n:Int)+1
 |0=>by rw [ext_zero];exact ⟨trivial,by simp [endN]⟩
 |n+1=>by
  obtain ⟨h1,h2⟩:=can_ext p n
  rw [ext_succ]
  split
  ·rcases snoc_cases (ext p n) with e|⟨pre,x,e⟩
   ·rw [e]
    have:addAt [] n=[⟨(n:Int),1⟩]:=rfl
    rw [this]
    exact ⟨⟨by simp only;omega,by simp only;omega,trivial⟩,by simp only [endN];omega⟩
   ·rw [e] at h1 h2 ⊢
    have hx:=ext_in p n x (by rw [e];simp)
    rw [endN_snoc] at h2
    obtain ⟨c1,c2,c3⟩:=(can_snoc _ _ _).1 h1
    rw [addAt_snoc]
    split
    ·exact ⟨(can_snoc _ _ _).2 ⟨c1,c2,by simp only;omega⟩,by rw [endN_snoc];simp only;omega⟩
    ·exact ⟨(can_snoc _ _ _).2 ⟨h1,by rw [endN_snoc];simp only;omega,by simp⟩,by rw [endN_snoc];simp only;omega⟩
  ·exact ⟨h1,by omega⟩
end Go.Proofs.YtpcncggjmabnaaaGreatDoor.V

namespace Go.Proofs.YtpcncggjmabnaaaGreatDoor.V
theorem unX_wr {v:Int} {l:List Wrt} {e:Exn} (h:e∈unX v l):∃ w∈l,w.volume=v:=by
 have h1:=unX_in e h
 rw [unX_ext] at h
 have h2:inS (ext (inS (exW v l)) 4096) e.start.toNat=true:=by
  unfold inS
  rw [List.any_eq_true]
  refine ⟨e,h,?_⟩
  unfold inE
  simp only [Bool.and_eq_true,decide_eq_true_eq]
  omega
 rw [inS_ext] at h2
 simp only [Bool.and_eq_true,decide_eq_true_eq] at h2
 have h3:=h2.2
 unfold inS at h3
 rw [List.any_eq_true] at h3
 obtain ⟨x,hx,_⟩:=h3
 obtain ⟨w,hw,e1,_⟩:=exW_mem hx
 exact ⟨w,hw,e1⟩
theorem pk_fits {im:Img} {l:List Wrt} {v:Nat} (hi:imCheck im=0) (hl:∀ w∈l,fitsErr im w=0) {e:Exn} (he:e∈unX (v:Int) l):fitsErr im (pkO l (v:Int) e)=0:=by
 obtain ⟨w,hw,e1⟩:=unX_wr he
 obtain ⟨q1,q2,q3,q4⟩:=fits_at (hl w hw)
 obtain ⟨s1,s2⟩:=imC_small hi
 have hv:v<im.length:=by omega
 have hvol:(im.getD v []).length≤4096:=by
  have e2:im.getD v []=im[v]:=by simp [hv]
  rw [e2];exact s2 _ (List.getElem_mem hv)
 have hfit:∀ x∈exW (v:Int) l,bmFit ((im.getD v []).length:Int) x=true:=fun x hx=>by
  obtain ⟨y,hy,e3,rfl⟩:=exW_mem hx
  obtain ⟨p1,p2,p3,p4⟩:=fits_at (hl y hy)
  rw [e3,Int.toNat_natCast] at p4
  exact bmFit_iff.2 ⟨p3,by show (0:Int)≤(y.data.length:Int);omega,by show y.start≤_;omega,by show (y.data.length:Int)≤_ - y.start;omega⟩
 have hu:=bmFit_iff.1 ((unX_fit ⟨by omega,by omega⟩ hfit).1 e he)
 have h1:=unX_in e he
 have hd:(pkO l (v:Int) e).data.length=e.count.toNat:=secsF_len _ _ _ _
 unfold fitsErr
 rw [hd]
 show (if (v:Int)<0∨(im.length:Int)≤(v:Int) then (7:Int) else if e.count.toNat=0 then 1 else if e.start<0∨((im.getD (v:Int).toNat []).length:Int) - e.count.toNat<e.start then 2 else 0)=0
 rw [Int.toNat_natCast,if_neg (by omega),if_neg (by omega),if_neg (by omega)]
theorem badW_no {x w:Wrt} (h:x.volume<w.volume∨(x.volume=w.volume∧x.start+x.data.length+1≤w.start)):badW x w=false:=by
 unfold badW
 rcases h with h|⟨h1,h2⟩
 ·rw [decide_eq_false (by omega),decide_eq_false (by omega)];rfl
 ·rw [decide_eq_false (by omega),decide_eq_true h1.symm,decide_eq_false (by omega)];rfl
theorem wcE_next {im:Img} {p:Option Wrt} {w:Wrt} {l:List Wrt} (h1:fitsErr im w=0) (h2:∀ x,p=some x→badW x w=false):wcE im p (w :: l)=wcE im (some w) l:=by
 rw [wcE_cons,if_neg (by simpa using h1)]
 cases p with
 |none=>exact if_neg Bool.false_ne_true
 |some x =>
  show (if badW x w=true then 3 else wcE im (some w) l)=_
  rw [h2 x rfl,if_neg Bool.false_ne_true]
theorem seg_ok {im:Img} {l:List Wrt} {v:Int} (rest:List Wrt):∀ (es:List Exn) (nx:Int) (p:Option Wrt),can nx es→(∀ e∈es,fitsErr im (pkO l v e)=0)→(∀ e∈es,1≤e.count)→(∀ x,p=some x→x.volume<v∨(x.volume=v∧x.start+x.data.length+1≤nx)) →
  ∃ p',(∀ x,p'=some x→x.volume≤v)∧wcE im p (es.map (pkO l v)++rest)=wcE im p' rest
 |[],nx,p,_,_,_,hp=>⟨p,fun x hx=>by rcases hp x hx with h|h<;>omega,rfl⟩
 |e :: es,nx,p,hc,hf,h1,hp=>by
  obtain ⟨c1,c2,c3⟩:=(show nx≤e.start∧1≤e.count∧can (e.start+e.count+1) es from hc)
  have hd:(pkO l v e).data.length=e.count.toNat:=secsF_len _ _ _ _
  have hn:=wcE_next (im:=im) (p:=p) (w:=pkO l v e) (l:=es.map (pkO l v)++rest) (hf e (by simp)) (fun x hx=>badW_no (by
   rcases hp x hx with h|⟨h,k⟩
   ·exact .inl h
   ·exact .inr ⟨h,by show _≤e.start;omega⟩))
  obtain ⟨p',k1,k2⟩:=seg_ok rest es (e.start+e.count+1) (some (pkO l v e)) c3 (fun x hx=>hf x (by simp [hx])) (fun x hx=>h1 x (by simp [hx])) (fun x hx=>by
   cases hx
   refine .inr ⟨rfl,?_⟩
   rw [hd]
   show e.start+_+1≤_
   omega)
  exact ⟨p',k1,by rw [List.map_cons,List.cons_append,hn,k2]⟩
theorem unX_can (v:Int) (l:List Wrt):can 0 (unX v l):=by
 have h:∀ k,can 0 (ext (inS (exW v l)) k):=fun k=>(can_ext (inS (exW v l)) k).1
 rw [unX_ext]
 exact h _
theorem fld_wc {im:Img} {l:List Wrt} (hi:imCheck im=0) (hl:∀ w∈l,fitsErr im w=0):∀ (n:Nat) (rest:List Wrt),∃ p,(∀ x,p=some x→x.volume<(n:Int))∧wcE im none (fldN l n++rest)=wcE im p rest
 |0,rest=>⟨none,fun x hx=>(by cases hx),rfl⟩
 |n+1,rest=>by
  obtain ⟨p,h1,h2⟩:=fld_wc hi hl n ((unX (n:Int) l).map (pkO l (n:Int))++rest)
  have hcan:can 0 (unX (n:Int) l):=unX_can _ _
  obtain ⟨p',k1,k2⟩:=seg_ok (im:=im) (l:=l) (v:=(n:Int)) rest (unX (n:Int) l) 0 p hcan (fun e he=>pk_fits hi hl he) (fun e he=>(unX_in e he).2.1) (fun x hx=>.inl (h1 x hx))
  exact ⟨p',fun x hx=>by have:=k1 x hx;omega,by rw [fldN_succ,List.append_assoc,h2,k2]⟩
theorem fld_ok {im:Img} {l:List Wrt} (hi:imCheck im=0) (hl:∀ w∈l,fitsErr im w=0):wcE im none (fldO l)=0:=by
 obtain ⟨p,_,h⟩:=fld_wc hi hl 8 []
 rw [List.append_nil] at h
 unfold fldO
 rw [h]
 cases p<;>rfl
theorem fld_len {im:Img} {l:List Wrt} (hi:imCheck im=0) (hv:∀ v∈im,v.length≤400) (hl:∀ w∈l,fitsErr im w=0):(fldO l).length≤3200∧∀ x∈fldO l,x.data.length≤4096:=by
 have hn:∀ v:Nat,(unX (v:Int) l).length≤400:=fun v=>by
  by_cases h:unX (v:Int) l=[]
  ·rw [h];simp
  ·obtain ⟨e,he⟩:=List.exists_mem_of_ne_nil _ h
   obtain ⟨w,hw,e1⟩:=unX_wr he
   obtain ⟨q1,q2,q3,q4⟩:=fits_at (hl w hw)
   have hvl:v<im.length:=by omega
   have e2:im.getD v []=im[v]:=by simp [hvl]
   have hvol:=hv _ (List.getElem_mem hvl)
   have hfit:∀ x∈exW (v:Int) l,bmFit 400 x=true:=fun x hx=>by
    obtain ⟨y,hy,e3,rfl⟩:=exW_mem hx
    obtain ⟨p1,p2,p3,p4⟩:=fits_at (hl y hy)
    rw [e3,Int.toNat_natCast,e2] at p4
    exact bmFit_iff.2 ⟨p3,by show (0:Int)≤(y.data.length:Int);omega,by show y.start≤(400:Int);omega,by show (y.data.length:Int)≤400 - y.start;omega⟩
   have h0:∀ s:Nat,400≤s→inS (exW (v:Int) l) s=false:=fun s hs=>by
    unfold inS
    rw [List.any_eq_false]
    intro x hx
    have:=bmFit_iff.1 (hfit x hx)
    rw [inE_fit (hfit x hx) s]
    simp
    omega
   rw [unX_ext]
   have hk:=ext_false (p:=inS (exW (v:Int) l)) (a:=400) 3696 (fun s h1 _=>h0 s h1)
   rw [show (4096:Nat)=400+3696 from rfl,hk]
   exact ext_len _ _
 refine ⟨?_,fun x hx=>?_⟩
 ·have:∀ n,(fldN l n).length≤400 * n:=fun n=>by
   induction n with
   |zero=>simp [fldN]
   |succ n ih =>
    rw [fldN_succ,List.length_append,List.length_map]
    have:=hn n
    omega
  exact this 8
 ·unfold fldO fldN at hx
  obtain ⟨v,_,h1⟩:=List.mem_flatMap.1 hx
  obtain ⟨e,he,rfl⟩:=List.mem_map.1 h1
  rw [show (pkO l (v:Int) e).data.length=e.count.toNat from secsF_len _ _ _ _]
  have:=unX_in e he
  omega
end Go.Proofs.YtpcncggjmabnaaaGreatDoor.V

namespace Go.Proofs.YtpcncggjmabnaaaGreatDoor.V
structure St24 where
 so:Img
 ta:Img
 q:Spl
 se:Int
 ma:Int
 rt:Bool
structure Ev24 where
 kind:Int
 step:Int
 ws:List Wrt
def eSt (s:St24):PV:=.agg [.list 1 (s.so.map eSecs),.list 1 (s.ta.map eSecs),.int .i64 s.q.lm,.list 1 (s.q.sz.map eI),.list 5 (s.q.cy.map eCye),.bool s.q.ov,.int .i64 s.q.fs,.int .i64 s.q.ls,.list 2 (s.q.dt.map eBm),.int .i64 s.se,.int .i64 s.ma,.bool s.rt]
theorem eSt_eq (s:St24):eSt s=.agg [.list 1 (s.so.map eSecs),.list 1 (s.ta.map eSecs),.int .i64 s.q.lm,.list 1 (s.q.sz.map eI),.list 5 (s.q.cy.map eCye),.bool s.q.ov,.int .i64 s.q.fs,.int .i64 s.q.ls,.list 2 (s.q.dt.map eBm),.int .i64 s.se,.int .i64 s.ma,.bool s.rt]:=rfl
def bSt (s:St24):List BV:=[.pv (.list 1 (s.so.map eSecs)),.pv (.list 1 (s.ta.map eSecs)),.pv (.int .i64 s.q.lm),.pv (.list 1 (s.q.sz.map eI)),.pv (.list 5 (s.q.cy.map eCye)),.pv (.bool s.q.ov),.pv (.int .i64 s.q.fs),.pv (.int .i64 s.q.ls),.pv (.list 2 (s.q.dt.map eBm)),.pv (.int .i64 s.se),.pv (.int .i64 s.ma),.pv (.bool s.rt)]
theorem bSt_eq (s:St24):bSt s=[.pv (.list 1 (s.so.map eSecs)),.pv (.list 1 (s.ta.map eSecs)),.pv (.int .i64 s.q.lm),.pv (.list 1 (s.q.sz.map eI)),.pv (.list 5 (s.q.cy.map eCye)),.pv (.bool s.q.ov),.pv (.int .i64 s.q.fs),.pv (.int .i64 s.q.ls),.pv (.list 2 (s.q.dt.map eBm)),.pv (.int .i64 s.se),.pv (.int .i64 s.ma),.pv (.bool s.rt)]:=rfl
def zSt:List BV:=[.row 1 [],.row 1 [],.pv (.int .i64 0),.row 1 [],.row 5 [],.pv (.bool false),.pv (.int .i64 0),.pv (.int .i64 0),.row 2 [],.pv (.int .i64 0),.pv (.int .i64 0),.pv (.bool false)]
theorem zSt_eq:zSt=[.row 1 [],.row 1 [],.pv (.int .i64 0),.row 1 [],.row 5 [],.pv (.bool false),.pv (.int .i64 0),.pv (.int .i64 0),.row 2 [],.pv (.int .i64 0),.pv (.int .i64 0),.pv (.bool false)]:=rfl
def eEv (x:Ev24):PV:=.agg [.int .u8 x.kind,.int .u8 x.step,.list 3 (x.ws.map eWr)]
theorem eEv_eq (x:Ev24):eEv x=.agg [.int .u8 x.kind,.int .u8 x.step,.list 3 (x.ws.map eWr)]:=rfl
def bEv (x:Ev24):List BV:=[.pv (.int .u8 x.kind),.pv (.int .u8 x.step),.pv (.list 3 (x.ws.map eWr))]
theorem bEv_eq (x:Ev24):bEv x=[.pv (.int .u8 x.kind),.pv (.int .u8 x.step),.pv (.list 3 (x.ws.map eWr))]:=rfl
theorem part12 (a b c d e f g h i j k l:PV):part [a,b,c,d,e,f,g,h,i,j,k,l] 0 (some 12)=some (.agg [a,b,c,d,e,f,g,h,i,j,k,l]):=rfl
def wsF (im:Img) (ws:List Wrt) (n:Nat):List Wrt:=(ws.take n).filter fun w=>decide (fitsErr im w=0)
theorem wsF_succ {im:Img} {ws:List Wrt} {i:Nat} (h:i<ws.length):wsF im ws (i+1)=if fitsErr im ws[i]=0 then wsF im ws i++[ws[i]] else wsF im ws i:=by
 unfold wsF
 rw [List.take_succ_eq_append_getElem h,List.filter_append]
 by_cases c:fitsErr im ws[i]=0
 ·rw [if_pos c,List.filter_cons,if_pos (by simpa using c)];rfl
 ·rw [if_neg c,List.filter_cons,if_neg (by simpa using c)];simp
theorem wsF_len (im:Img) (ws:List Wrt) (n:Nat):(wsF im ws n).length≤n:=by
 unfold wsF
 have:=List.length_filter_le (fun w:Wrt=>decide (fitsErr im w=0)) (ws.take n)
 rw [List.length_take] at this;omega
theorem wsF_fit {im:Img} {ws:List Wrt} {n:Nat}:∀ w∈wsF im ws n,fitsErr im w=0:=fun w hw=>by
 unfold wsF at hw
 have:=(List.mem_filter.1 hw).2
 simpa using this
def evN (x:Ev24):Nat:=min x.ws.length 6
def evW (im:Img) (x:Ev24):List Wrt:=wsF im x.ws (evN x)
def mkC (q:Spl) (x:Ev24) (l:List Wrt):Cye:=⟨q.ls,q.ls+1+x.step % 3,0,[],fldO l⟩
def pushC (s:St24) (x:Ev24):Cye:=mkC s.q x (evW s.so x)
def pushT (s:St24) (x:Ev24):St24:={ s with so:=apO s.so (pushC s x).ws,q:=pushS s.q (pushC s x) }
theorem loop32 {s:St24} {x:Ev24} (him:imCheck s.so=0) (hw:∀ w∈x.ws,w.data.length≤400) {st:St} (h:st.head [2,3,4,5,6,39,43] st.boxes.length=some ⟨sl 89 [(2,.pbox 0 0),(3,.pbox 1 0),(4,.pbox 2 0),(5,.row 3 ((wsF s.so x.ws ((0:Nat))).map eWr)),(6,.pv (.int .i64 (0:Nat))),(39,.any),(43,.any)],[⟨false,bSt s⟩,⟨false,bEv x⟩,⟨false,zSt⟩],[],none⟩) :
  den env fn32_l1 st=some (.normal,⟨sl 89 [(2,.pbox 0 0),(3,.pbox 1 0),(4,.pbox 2 0),(5,.row 3 ((evW s.so x).map eWr))],[⟨false,bSt s⟩,⟨false,bEv x⟩,⟨false,zSt⟩],[],none⟩):=by
 unfold fn32_l1
 refine clean_up (env:=env) (nb:=3) (evN x) (fun i=>⟨sl 89 [(2,.pbox 0 0),(3,.pbox 1 0),(4,.pbox 2 0),(5,.row 3 ((wsF s.so x.ws (i)).map eWr)),(6,.pv (.int .i64 i)),(39,.any),(43,.any)],[⟨false,bSt s⟩,⟨false,bEv x⟩,⟨false,zSt⟩],[],none⟩) (fun i=>some (.normal,⟨sl 89 [(2,.pbox 0 0),(3,.pbox 1 0),(4,.pbox 2 0),(5,.row 3 ((evW s.so x).map eWr))],[⟨false,bSt s⟩,⟨false,bEv x⟩,⟨false,zSt⟩],[],none⟩)) h (fun _=>rfl) (fun _=>by simp only [slAll,slsAll,Nat.reduceMul,Nat.reduceBEq,Nat.reduceLT,Nat.reduceLeDiff,Nat.reduceAdd,decide_true,Bool.and_self,Bool.true_and]) ?_ ?_
 ·intro i rb hi ih
  have hn:i<x.ws.length∧i<6:=by unfold evN at hi;omega
  have hi1:=i64_next (n:=6) hn.2 (by unfold lim;omega)
  have F1:((i:Int)<(x.ws.length:Int))=True:=eq_true (by omega)
  have F2:((i:Int)<6)=True:=eq_true (by omega)
  obtain ⟨s1,s2⟩:=imC_small him
  have hx:=eWr_at hn.1
  have e1:=cal33 (im:=s.so) (w:=x.ws[i]) (by unfold lim;omega) (fun v hv=>by have:=s2 v hv;unfold lim;omega) (by have:=hw _ (List.getElem_mem hn.1);unfold lim;omega)
  rw [show imFits s.so x.ws[i]=fitsErr s.so x.ws[i] by unfold imFits;rw [if_neg (by rw [him];simp)]] at e1
  unfold eWr at e1
  have F5:((wsF s.so x.ws i).length+1≤lim)=True:=eq_true (by have:=wsF_len s.so x.ws i;unfold lim;omega)
  have hs:=wsF_succ (im:=s.so) hn.1
  by_cases c:fitsErr s.so x.ws[i]=0
  ·rw [c] at e1
   have Z:((0:Int)==0)=true:=rfl
   rw [if_pos c] at hs
   have hs2:(wsF s.so x.ws (i+1)).map eWr=(wsF s.so x.ws i).map eWr++[.agg [.int .i64 x.ws[i].volume,.int .i64 x.ws[i].start,.list 8 (x.ws[i].data.map eSec)]]:=by rw [hs,List.map_append];rfl
   rw [hs2] at ih
   simp only [fn32_b0,F1,F2,F5,e1,Z,hx,part3,bSt_eq,bEv_eq,zSt_eq,index_nat hn.1,List.length_map,slAll,slsAll,Nat.reduceMul,Nat.reduceBEq,Nat.reduceLT,Nat.reduceLeDiff,memAll,vAll,reduceCtorEq,Nat.reduceEqDiff,Nat.reduceAdd,Nat.reduceLT,Nat.reduceLeDiff,Nat.beq]
   rw [ih _ (by simp only [hi1,bSt_eq,bEv_eq,zSt_eq,slAll,slsAll,Nat.reduceMul,Nat.reduceBEq,Nat.reduceLT,Nat.reduceLeDiff,memAll,vAll,reduceCtorEq,Nat.reduceEqDiff,Nat.reduceAdd,Nat.reduceLT,Nat.reduceLeDiff,Nat.beq]<;>rfl)]
   rfl
  ·have Z:(fitsErr s.so x.ws[i]==0)=false:=by simp [c]
   rw [if_neg c] at hs
   rw [hs] at ih
   simp only [fn32_b0,F1,F2,e1,Z,hx,part3,bSt_eq,bEv_eq,zSt_eq,index_nat hn.1,List.length_map,slAll,slsAll,Nat.reduceMul,Nat.reduceBEq,Nat.reduceLT,Nat.reduceLeDiff,memAll,vAll,reduceCtorEq,Nat.reduceEqDiff,Nat.reduceAdd,Nat.reduceLT,Nat.reduceLeDiff,Nat.beq]
   rw [ih _ (by simp only [hi1,bSt_eq,bEv_eq,zSt_eq,slAll,slsAll,Nat.reduceMul,Nat.reduceBEq,Nat.reduceLT,Nat.reduceLeDiff,memAll,vAll,reduceCtorEq,Nat.reduceEqDiff,Nat.reduceAdd,Nat.reduceLT,Nat.reduceLeDiff,Nat.beq]<;>rfl)]
   rfl
 ·intro rb
  rw [show wsF s.so x.ws (evN x)=evW s.so x from rfl]
  by_cases c:x.ws.length≤6
  ·have hE:evN x=x.ws.length:=by unfold evN;omega
   rw [hE]
   simp only [fn32_b0,Int.lt_irrefl,bSt_eq,bEv_eq,zSt_eq,List.length_map,slAll,slsAll,Nat.reduceMul,Nat.reduceBEq,Nat.reduceLT,Nat.reduceLeDiff,memAll,vAll,reduceCtorEq,Nat.reduceEqDiff,Nat.reduceAdd,Nat.reduceLT,Nat.reduceLeDiff,Nat.beq]
  ·have hE:evN x=6:=by unfold evN;omega
   have F1:(((6:Nat):Int)<(x.ws.length:Int))=True:=eq_true (by omega)
   have F2:(((6:Nat):Int)<6)=False:=eq_false (by omega)
   rw [hE]
   simp only [fn32_b0,F1,F2,bSt_eq,bEv_eq,zSt_eq,List.length_map,slAll,slsAll,Nat.reduceMul,Nat.reduceBEq,Nat.reduceLT,Nat.reduceLeDiff,memAll,vAll,reduceCtorEq,Nat.reduceEqDiff,Nat.reduceAdd,Nat.reduceLT,Nat.reduceLeDiff,Nat.beq]
structure gdP (s:St24):Prop where
 im:imCheck s.so=0
 sz:imSizes s.so=s.q.sz
 ck:chkQ s.q=0
 sm:smQ s.q
 vo:∀ v∈s.so,v.length≤400
 ls:s.q.ls≤1000000
 rt:s.rt=true
structure gdE (x:Ev24):Prop where
 st:0≤x.step∧x.step≤255
 ws:∀ w∈x.ws,w.data.length≤400
theorem evW_ok {s:St24} {x:Ev24} (h:gdP s):(∀ w∈evW s.so x,fitsErr s.so w=0)∧(∀ w∈evW s.so x,fitM w)∧(evW s.so x).length≤6:=by
 have h1:∀ w∈evW s.so x,fitsErr s.so w=0:=wsF_fit
 obtain ⟨s1,s2⟩:=imC_small h.im
 refine ⟨h1,fun w hw=>?_,?_⟩
 ·have k:=h1 w hw
  obtain ⟨q1,q2,q3,q4⟩:=fits_at k
  have hv:w.volume.toNat<s.so.length:=by omega
  have e:s.so.getD w.volume.toNat []=s.so[w.volume.toNat]:=by simp [hv]
  have hl:=s2 _ (List.getElem_mem hv)
  rw [e] at q4
  unfold fitsErr at k
  split at k
  ·omega
  rename_i k1
  split at k
  ·omega
  rename_i k2
  have h8:(newImg (mostZ 8)).length=8:=by rw [newImg_len24];unfold mostZ;rw [List.length_replicate]
  unfold fitM fitsErr
  rw [h8,most_at (by omega),if_neg (by omega),if_neg k2,if_neg (by omega)]
 ·have:=wsF_len s.so x.ws (evN x)
  unfold evW
  have:evN x≤6:=by unfold evN;omega
  omega
theorem pushC_ok {s:St24} {x:Ev24} (h:gdP s) (hx:gdE x):okCy (pushC s x)∧ckY s.q.sz (pushC s x)=0∧pushE s.q (pushC s x)=0:=by
 obtain ⟨w1,w2,w3⟩:=evW_ok (x:=x) h
 obtain ⟨f1,f2⟩:=fld_len h.im h.vo w1
 obtain ⟨k1,k2,k3⟩:=chk_q h.ck
 have hst:=hx.st
 have hls:=h.ls
 have hc:ckY s.q.sz (pushC s x)=0:=by
  unfold ckY ckC
  rw [if_pos k1,if_pos (by
   show cycE s.q.ls (s.q.ls+1+x.step % 3) 0 []=0
   unfold cycE
   rw [if_neg (by omega),if_neg (by omega)]
   rfl)]
  have:=fld_ok h.im w1
  show wcE (newImg s.q.sz) none (fldO (evW s.so x))=0
  have e:∀ (p:Option Wrt) (l:List Wrt),wcE (newImg s.q.sz) p l=wcE s.so p l:=by
   have ef:∀ w,fitsErr (newImg s.q.sz) w=fitsErr s.so w:=fun w=>by
    rw [← h.sz]
    unfold fitsErr
    have e1:(newImg (imSizes s.so)).length=s.so.length:=by rw [newImg_len24];simp [imSizes]
    have e2:((newImg (imSizes s.so)).getD w.volume.toNat []).length=(s.so.getD w.volume.toNat []).length:=by
     by_cases c:w.volume.toNat<s.so.length
     ·simp [newImg,imSizes,List.getD_eq_getElem?_getD,c]
     ·simp [newImg,imSizes,List.getD_eq_getElem?_getD,Nat.le_of_not_lt c]
    rw [e1,e2]
   intro p l
   induction l generalizing p with
   |nil=>cases p<;>rfl
   |cons w l ih=>rw [wcE_cons,wcE_cons,ef,ih]
  rw [e];exact this
 refine ⟨⟨Nat.zero_le _,by show (fldO _).length≤10000;omega,fun y hy=>Nat.le_trans (f2 y hy) (by decide)⟩,hc,?_⟩
 unfold pushE
 rw [if_pos h.ck,if_pos hc,if_pos (show (pushC s x).base=s.q.ls from rfl)]
theorem eSt_push (s:St24) (x:Ev24):eSt (pushT s x)=.agg ([.list 1 ((apO s.so (pushC s x).ws).map eSecs),.list 1 (s.ta.map eSecs)]++(eSpl (pushS s.q (pushC s x))).cells++[.int .i64 s.se,.int .i64 s.ma,.bool s.rt]):=rfl
set_option maxRecDepth 40000 in
theorem cal32 {s:St24} {x:Ev24} (h:gdP s) (hx:gdE x):cal env 32 [eSt s,eEv x]=some [(eSt (pushT s x),false)]:=by
 obtain ⟨w1,w2,w3⟩:=evW_ok (x:=x) h
 obtain ⟨c1,c2,c3⟩:=pushC_ok h hx
 have hst:=hx.st
 have hls:=h.ls
 obtain ⟨k1,k2,k3⟩:=chk_q h.ck
 have e1:=cal63 w2 (by omega)
 have e2:=cal64 (im:=s.so) (c:=pushC s x) h.im c1 (by rw [h.sz];exact c2)
 have e3:=cal16 h.sm c1
 rw [c3] at e3
 have W1:IntKind.i64.wrap (s.q.ls+1)=s.q.ls+1:=i64_fits (by omega)
 have W2:IntKind.i64.wrap x.step=x.step:=i64_fits (by omega)
 have T1:x.step.tmod 3=x.step % 3:=Int.tmod_eq_emod_of_nonneg hst.1
 have W3:IntKind.i64.wrap (x.step % 3)=x.step % 3:=i64_fits (by omega)
 have W4:IntKind.i64.wrap (s.q.ls+1+x.step % 3)=s.q.ls+1+x.step % 3:=i64_fits (by omega)
 have hC:eCye (pushC s x)=.agg [.int .i64 s.q.ls,.int .i64 (s.q.ls+1+x.step % 3),.int .i64 0,.list 1 [],.list 3 ((fldO (evW s.so x)).map eWr)]:=rfl
 rw [hC] at e2 e3
 rw [eSpl_eq] at e3
 have Z:((0:Int)==0)=true:=rfl
 have Z3:((3:Int)=0)=False:=eq_false (by decide)
 have hrt:=h.rt
 rw [eSt_push,eSt_eq,eEv_eq]
 rw [eSpl_eq] at e3 ⊢
 generalize pushS s.q (pushC s x)=Q at *
 generalize apO s.so (pushC s x).ws=IM at *
 rw [cal_code env32 rfl];simp only [fn32,slAll,Nat.reduceBEq,Nat.reduceLeDiff,Nat.reduceAdd,List.length_cons,List.length_nil]
 simp only [ slAll,slsAll,Nat.reduceMul,Nat.reduceBEq,Nat.reduceLT,Nat.reduceLeDiff,memAll,vAll,reduceCtorEq,Nat.reduceEqDiff,Nat.reduceAdd,Nat.reduceLT,Nat.reduceLeDiff,Nat.beq]
 rw [loop32 (s:=s) (x:=x) h.im hx.ws (by simp only [bSt_eq,bEv_eq,zSt_eq,show wsF s.so x.ws 0=[] from rfl,List.map_nil];simp only [slAll,slsAll,Nat.reduceMul,Nat.reduceBEq,Nat.reduceLT,Nat.reduceLeDiff,Nat.reduceAdd,decide_true,Bool.and_self,Bool.true_and]<;>rfl)]
 generalize (fldO (evW s.so x)).map eWr=FW at *
 simp only [e1,e2,e3,W1,W2,W3,W4,T1,Z,Z3,hrt,part5,part7,part12,part3,bSt_eq,bEv_eq,zSt_eq,slAll,slsAll,Nat.reduceMul,Nat.reduceBEq,Nat.reduceLT,Nat.reduceLeDiff,memAll,vAll,reduceCtorEq,Nat.reduceEqDiff,Nat.reduceAdd,Nat.reduceLT,Nat.reduceLeDiff,Nat.beq]
end Go.Proofs.YtpcncggjmabnaaaGreatDoor.V

namespace Go.Proofs.YtpcncggjmabnaaaGreatDoor.V
theorem chk_mk {s:Spl} (h1:sizesErr s.sz=0) (h2:1≤s.lm∧s.lm≤1024∧0≤s.fs∧s.fs≤s.ls∧s.ls≤1073741824) (h3:(s.ov=true∧s.cy=[]∧s.fs≠s.ls∧bmsX s.dt s.sz=true)∨(s.ov=false∧s.dt=[]∧(s.cy.length:Int)≤s.lm∧quX s.sz s.fs s.cy s.ls=true)):chkQ s=0:=by
 unfold chkQ
 rw [if_pos h1,if_neg (show ¬ (s.lm<1∨s.lm > 1024∨s.fs<0∨s.fs > s.ls∨s.ls > 1073741824) by omega)]
 rcases h3 with ⟨g0,g1,g2,g3⟩|⟨g0,g1,g2,g3⟩
 ·rw [if_pos g0,decide_eq_true g1,decide_eq_true g2,g3];rfl
 ·rw [if_neg (by rw [g0];exact Bool.false_ne_true),decide_eq_true g1,decide_eq_true g2,g3];rfl
theorem bms_mk {z:List Int} {l:List Bm} (h:bmZ z l):bmsX l z=true:=by
 rw [bmsX_D,decide_eq_true h.1,Bool.true_and]
 unfold bmsD
 rw [List.drop_zero,List.drop_zero,List.all_eq_true]
 intro q hq
 obtain ⟨i,hi⟩:=List.mem_iff_getElem?.1 hq
 obtain ⟨h1,h2⟩:=List.getElem?_eq_some_iff.1 hi
 have hl:i<l.length:=by rw [List.length_zip] at h1;omega
 have hz:i<z.length:=by rw [List.length_zip] at h1;omega
 obtain ⟨k1,k2⟩:=h.2 i hl
 rw [← h2,List.getElem_zip]
 unfold okBN
 rw [bmE_ok k1,k2,List.getD_eq_getElem?_getD,List.getElem?_eq_getElem hz]
 simp
theorem quX_snoc {z:List Int} {c:Cye}:∀ {cy:List Cye} {f l:Int},quX z f cy l=true→ckY z c=0→c.base=l→quX z f (cy++[c]) c.num=true
 |[],f,l,h,hc,hb=>by
  have:f=l:=by simpa [quX] using h
  simp [quX,hc,hb,this]
 |x :: cy,f,l,h,hc,hb=>by
  simp only [quX,Bool.and_eq_true,beq_iff_eq,List.cons_append] at h ⊢
  exact ⟨h.1,h.2.1,quX_snoc h.2.2 hc hb⟩
theorem pushE_in {s:Spl} {c:Cye} (h:pushE s c=0):chkQ s=0∧ckY s.sz c=0∧c.base=s.ls:=by
 unfold pushE at h
 split at h
 ·rename_i h1
  split at h
  ·rename_i h2
   split at h
   ·rename_i h3;exact ⟨h1,h2,h3⟩
   ·omega
  ·rename_i h2;exact absurd h h2
 ·rename_i h1;exact absurd h h1
theorem ckY_num {z:List Int} {c:Cye} (h:ckY z c=0):0≤c.base∧c.base<c.num∧c.num≤1073741824:=by
 obtain ⟨_,h2,_⟩:=ckY_wc h
 unfold cycE at h2
 split at h2
 ·omega
 ·omega
theorem push_q {s:Spl} {c:Cye} (h:pushE s c=0):chkQ (pushS s c)=0∧(pushS s c).sz=s.sz∧(pushS s c).lm=s.lm∧(pushS s c).fs=s.fs∧(pushS s c).ls=c.num ∧
  ((pushS s c).ov=(s.ov || decide (s.lm≤(s.cy.length:Int))))∧((pushS s c).ov=false→(pushS s c).cy=s.cy++[c])∧((pushS s c).ov=true→(pushS s c).cy=[]∧bmZ s.sz (pushS s c).dt)∧((pushS s c).ov=false→(pushS s c).dt=[]):=by
 obtain ⟨h1,h2,h3⟩:=pushE_in h
 obtain ⟨k1,k2,k3⟩:=chk_q h1
 obtain ⟨n1,n2,n3⟩:=ckY_num h2
 have hw:=ckY_fit h2
 unfold pushS
 rw [if_pos h]
 rcases k3 with ⟨g0,g1,g2,g3⟩|⟨g0,g1,g2,g3⟩
 ·rw [g0,if_pos rfl]
  have hz:=mkL_z (bmsX_z g3) hw
  refine ⟨chk_mk k1 (by show 1≤s.lm∧s.lm≤1024∧0≤s.fs∧s.fs≤c.num∧c.num≤1073741824;omega) (.inl ⟨rfl,g1,by show s.fs≠c.num;omega,bms_mk hz⟩),rfl,rfl,rfl,rfl,rfl,fun e=>(by cases e),fun _=>⟨g1,hz⟩,fun e=>(by cases e)⟩
 ·rw [g0,if_neg Bool.false_ne_true]
  unfold addC
  by_cases q:(s.cy.length:Int)<s.lm
  ·rw [if_pos q]
   refine ⟨chk_mk k1 (by show 1≤s.lm∧s.lm≤1024∧0≤s.fs∧s.fs≤c.num∧c.num≤1073741824;omega) (.inr ⟨g0,g1,by show (((s.cy++[c]).length:Nat):Int)≤s.lm;rw [List.length_append];simp;omega,quX_snoc g3 h2 h3⟩),rfl,rfl,rfl,rfl,?_,fun _=>rfl,fun e=>?_,fun _=>g1⟩
   ·show s.ov=_
    rw [g0,decide_eq_false (by omega)];rfl
   ·rw [show ({ s with cy:=s.cy++[c],ls:=c.num }:Spl).ov=s.ov from rfl,g0] at e;cases e
  ·rw [if_neg q]
   have hz:=mkLs_z (cs:=s.cy++[c]) (new_z (sizes_z k1)) (fun x hx=>by
    rcases List.mem_append.1 hx with e|e
    ·exact ckY_fit (quX_all g3 x e)
    ·rw [List.mem_singleton.1 e];exact hw)
   refine ⟨chk_mk k1 (by show 1≤s.lm∧s.lm≤1024∧0≤s.fs∧s.fs≤c.num∧c.num≤1073741824;omega) (.inl ⟨rfl,rfl,by show s.fs≠c.num;omega,bms_mk hz⟩),rfl,rfl,rfl,rfl,?_,fun e=>(by cases e),fun _=>⟨rfl,hz⟩,fun e=>(by cases e)⟩
   show true=_
   rw [decide_eq_true (by omega)];rfl
theorem push_sm {s:Spl} {c:Cye} (h:pushE s c=0) (hq:smQ s) (hc:okCy c) (hl:s.lm≤900):smQ (pushS s c):=by
 obtain ⟨p1,p2,p3,p4,p5,p6,p7,p8,p9⟩:=push_q h
 obtain ⟨_,_,k3⟩:=chk_q p1
 refine ⟨by rw [p2];exact hq.sz,?_,?_,fun x hx=>?_,fun b hb=>?_⟩
 ·rcases k3 with ⟨g0,g1,_⟩|⟨g0,_,g2,_⟩
  ·rw [g1];exact Nat.zero_le _
  ·rw [p3] at g2;omega
 ·cases e:(pushS s c).ov with
  |true=>rw [(p8 e).2.1];exact hq.sz
  |false=>rw [p9 e];exact Nat.zero_le _
 ·cases e:(pushS s c).ov with
  |true=>rw [(p8 e).1] at hx;cases hx
  |false =>
   rw [p7 e] at hx
   rcases List.mem_append.1 hx with e|e
   ·exact hq.c1 x e
   ·rw [List.mem_singleton.1 e];exact hc
 ·cases e:(pushS s c).ov with
  |true =>
   obtain ⟨i,hi⟩:=List.mem_iff_getElem?.1 hb
   obtain ⟨h1,h2⟩:=List.getElem?_eq_some_iff.1 hi
   have:=okB_size ((p8 e).2.2 i h1).1
   rw [h2] at this
   omega
  |false=>rw [p9 e] at hb;cases hb
theorem apO_szs {im:Img} {l:List Wrt} (h:apE im l=0):imSizes (apO im l)=imSizes im:=apO_sizes h
theorem sizes_le {a b:Img} (h:imSizes a=imSizes b) {k:Nat} (hb:∀ v∈b,v.length≤k):∀ v∈a,v.length≤k:=fun v hv=>by
 have h1:(v.length:Int)∈imSizes b:=by rw [← h];unfold imSizes;exact List.mem_map.2 ⟨v,hv,rfl⟩
 unfold imSizes at h1
 obtain ⟨w,hw,e⟩:=List.mem_map.1 h1
 have:=hb w hw
 omega
theorem pushT_gd {s:St24} {x:Ev24} (h:gdP s) (hx:gdE x) (hl:s.q.lm≤900) (hls:s.q.ls≤900000):gdP (pushT s x)∧(pushT s x).q.ls≤s.q.ls+3∧(pushT s x).q=pushS s.q (pushC s x):=by
 obtain ⟨c1,c2,c3⟩:=pushC_ok h hx
 obtain ⟨p1,p2,p3,p4,p5,_⟩:=push_q c3
 obtain ⟨a1,_⟩:=ck_ap h.im (by rw [h.sz];exact c2)
 have hsz:=apO_szs a1
 have hst:=hx.st
 have hnum:(pushC s x).num=s.q.ls+1+x.step % 3:=rfl
 refine ⟨⟨?_,?_,p1,push_sm c3 h.sm c1 hl,sizes_le hsz h.vo,?_,h.rt⟩,?_,rfl⟩
 ·show sizesErr (imSizes (apO s.so (pushC s x).ws))=0
  rw [hsz];exact h.im
 ·show imSizes (apO s.so (pushC s x).ws)=(pushS s.q (pushC s x)).sz
  rw [hsz,p2];exact h.sz
 ·show (pushS s.q (pushC s x)).ls≤1000000
  rw [p5,hnum];omega
 ·show (pushS s.q (pushC s x)).ls≤s.q.ls+3
  rw [p5,hnum];omega
end Go.Proofs.YtpcncggjmabnaaaGreatDoor.V

namespace Go.Proofs.YtpcncggjmabnaaaGreatDoor.V
def smE (x:Ev24):Bool:=decide (x.ws.length≤8)&&fewW x.ws
def smEs (l:List Ev24):Bool:=l.all smE&&decide (l.length≤30)
theorem eEv_at {l:List Ev24} {i:Nat} (h:i<l.length):(l.map eEv)[i]?=some (.agg [.int .u8 l[i].kind,.int .u8 l[i].step,.list 3 (l[i].ws.map eWr)]):=by rw [List.getElem?_map,List.getElem?_eq_getElem h];rfl
def szE (l:List Ev24):Prop:=l.length≤140737488351232∧∀ x∈l,szW x.ws∧(0≤x.kind∧x.kind≤255)∧0≤x.step∧x.step≤255
def resEv (k1 k2:List (Nat × AV)) (b:Bool):Option (Ex × St):=if b then some (.normal,⟨sl 29 k1,[],[],none⟩) else some (.ret,⟨sl 29 k2,[],[],none⟩)
theorem resEv_t (k1 k2:List (Nat × AV)):resEv k1 k2 true=some (.normal,⟨sl 29 k1,[],[],none⟩):=rfl
theorem resEv_f (k1 k2:List (Nat × AV)):resEv k1 k2 false=some (.ret,⟨sl 29 k2,[],[],none⟩):=rfl
theorem loop28 {l:List Ev24} (hz:szE l) {st:St} (h:st.head [0,3] st.boxes.length=some ⟨sl 29 [(0,.pv (.list 3 (l.map eEv))),(3,.pv (.int .i64 (0:Nat)))],[],[],none⟩) :
  den env fn28_l1 st=resEv [(0,.pv (.list 3 (l.map eEv))),(2,.any)] [(0,.pv (.list 3 (l.map eEv))),(2,.pv (.bool false))] ((l.drop ((0:Nat))).all smE):=by
 unfold fn28_l1
 refine clean_up (env:=env) (nb:=0) (l.length) (fun i=>⟨sl 29 [(0,.pv (.list 3 (l.map eEv))),(3,.pv (.int .i64 i))],[],[],none⟩) (fun i=>resEv [(0,.pv (.list 3 (l.map eEv))),(2,.any)] [(0,.pv (.list 3 (l.map eEv))),(2,.pv (.bool false))] ((l.drop (i)).all smE)) h (fun _=>rfl) (fun _=>by simp only [slAll,slsAll,Nat.reduceMul,Nat.reduceBEq,Nat.reduceLT,Nat.reduceLeDiff,Nat.reduceAdd,decide_true,Bool.and_self,Bool.true_and]) ?_ ?_
 ·intro i rb hi ih
  have hll:=hz.1
  have hi1:IntKind.i64.wrap ((i:Int)+1)=((i+1:Nat):Int):=by rw [i64_fits (by omega)];omega
  have F1:((i:Int)<(l.length:Int))=True:=eq_true (by omega)
  have hx:=eEv_at hi
  have e1:=cal15 (hz.2 _ (List.getElem_mem hi)).1
  rw [allD_step hi]
  unfold smE
  by_cases c:l[i].ws.length≤8
  ·have G:((l[i].ws.length:Int) > 8)=False:=eq_false (by omega)
   rw [decide_eq_true c,Bool.true_and]
   cases c2:fewW l[i].ws with
   |true =>
    rw [c2] at e1
    rw [Bool.true_and]
    simp only [fn28_b0,F1,G,e1,hx,part3,index_nat hi,List.length_map,slAll,slsAll,Nat.reduceMul,Nat.reduceBEq,Nat.reduceLT,Nat.reduceLeDiff,memAll,vAll,reduceCtorEq,Nat.reduceEqDiff,Nat.reduceAdd,Nat.reduceLT,Nat.reduceLeDiff,Nat.beq]
    rw [ih _ (by simp only [hi1,slAll,slsAll,Nat.reduceMul,Nat.reduceBEq,Nat.reduceLT,Nat.reduceLeDiff,memAll,vAll,reduceCtorEq,Nat.reduceEqDiff,Nat.reduceAdd,Nat.reduceLT,Nat.reduceLeDiff,Nat.beq]<;>rfl)]
    rfl
   |false =>
    rw [c2] at e1
    rw [Bool.false_and,resEv_f]
    simp only [fn28_b0,F1,G,e1,hx,part3,index_nat hi,List.length_map,slAll,slsAll,Nat.reduceMul,Nat.reduceBEq,Nat.reduceLT,Nat.reduceLeDiff,memAll,vAll,reduceCtorEq,Nat.reduceEqDiff,Nat.reduceAdd,Nat.reduceLT,Nat.reduceLeDiff,Nat.beq]
  ·have G:((l[i].ws.length:Int) > 8)=True:=eq_true (by omega)
   rw [decide_eq_false c,Bool.false_and,Bool.false_and,resEv_f]
   simp only [fn28_b0,F1,G,hx,part3,index_nat hi,List.length_map,slAll,slsAll,Nat.reduceMul,Nat.reduceBEq,Nat.reduceLT,Nat.reduceLeDiff,memAll,vAll,reduceCtorEq,Nat.reduceEqDiff,Nat.reduceAdd,Nat.reduceLT,Nat.reduceLeDiff,Nat.beq]
 ·intro rb
  rw [allD_end,resEv_t]
  simp only [fn28_b0,Int.lt_irrefl,List.length_map,slAll,slsAll,Nat.reduceMul,Nat.reduceBEq,Nat.reduceLT,Nat.reduceLeDiff,memAll,vAll,reduceCtorEq,Nat.reduceEqDiff,Nat.reduceAdd,Nat.reduceLT,Nat.reduceLeDiff,Nat.beq]
theorem cal28 {l:List Ev24} (hz:szE l):cal env 28 [.list 3 (l.map eEv)]=some [(.bool (smEs l),false)]:=by
 unfold smEs
 rw [cal_code env28 rfl];simp only [fn28,slAll,Nat.reduceBEq,Nat.reduceLeDiff,Nat.reduceAdd,List.length_cons,List.length_nil]
 simp only [List.length_map,slAll,slsAll,Nat.reduceMul,Nat.reduceBEq,Nat.reduceLT,Nat.reduceLeDiff,memAll,vAll,reduceCtorEq,Nat.reduceEqDiff,Nat.reduceAdd,Nat.reduceLT,Nat.reduceLeDiff,Nat.beq]
 rw [loop28 (l:=l) hz (by simp only [slAll,slsAll,Nat.reduceMul,Nat.reduceBEq,Nat.reduceLT,Nat.reduceLeDiff,Nat.reduceAdd,decide_true,Bool.and_self,Bool.true_and]<;>rfl),List.drop_zero]
 cases l.all smE with
 |false=>rw [resEv_f,Bool.false_and];simp only [slAll,slsAll,Nat.reduceMul,Nat.reduceBEq,Nat.reduceLT,Nat.reduceLeDiff,memAll,vAll,reduceCtorEq,Nat.reduceEqDiff,Nat.reduceAdd,Nat.reduceLT,Nat.reduceLeDiff,Nat.beq]
 |true =>
  rw [resEv_t,Bool.true_and]
  by_cases c:l.length≤30
  ·have G:((l.length:Int)≤30)=True:=eq_true (by omega)
   rw [decide_eq_true c]
   simp only [G,List.length_map,slAll,slsAll,Nat.reduceMul,Nat.reduceBEq,Nat.reduceLT,Nat.reduceLeDiff,memAll,vAll,reduceCtorEq,Nat.reduceEqDiff,Nat.reduceAdd,Nat.reduceLT,Nat.reduceLeDiff,Nat.beq]
  ·have G:((l.length:Int)≤30)=False:=eq_false (by omega)
   rw [decide_eq_false c]
   simp only [G,List.length_map,slAll,slsAll,Nat.reduceMul,Nat.reduceBEq,Nat.reduceLT,Nat.reduceLeDiff,memAll,vAll,reduceCtorEq,Nat.reduceEqDiff,Nat.reduceAdd,Nat.reduceLT,Nat.reduceLeDiff,Nat.beq]
def zEv:Ev24:=⟨0,0,[]⟩
def evAt (l:List Ev24) (i:Nat):Ev24:=l.getD i zEv
theorem evAt_gd {l:List Ev24} (h:smEs l=true) (hz:szE l) (i:Nat):gdE (evAt l i):=by
 unfold evAt
 rw [List.getD_eq_getElem?_getD]
 cases e:l[i]? with
 |none=>exact ⟨⟨by decide,by decide⟩,fun w hw=>by cases hw⟩
 |some x =>
  have hx:=List.mem_of_getElem? e
  unfold smEs at h
  simp only [Bool.and_eq_true,List.all_eq_true,decide_eq_true_eq] at h
  have:=h.1 x hx
  unfold smE at this
  simp only [Bool.and_eq_true,decide_eq_true_eq] at this
  exact ⟨(hz.2 x hx).2.2,fun w hw=>(few_ok this.2).2.2 w hw⟩
def stN (s:St24) (l:List Ev24):Nat→St24
 |0=>s
 |i+1=>pushT (stN s l i) (evAt l i)
def limI (n:Int) (s:St24) (i:Nat):Prop:=gdP s∧s.q.lm=n∧s.q.ls≤3 * (i:Int)∧((i:Int)≤n→s.q.ov=false∧s.q.cy.length=i)∧(n<(i:Int)→s.q.ov=true)
theorem limI_step {n:Int} {s:St24} {i:Nat} {x:Ev24} (h:limI n s i) (hx:gdE x) (hn:1≤n∧n≤900) (hi:i≤10):limI n (pushT s x) (i+1):=by
 obtain ⟨h1,h2,h3,h4,h5⟩:=h
 obtain ⟨g1,g2,g3⟩:=pushT_gd h1 hx (by omega) (by omega)
 obtain ⟨c1,c2,c3⟩:=pushC_ok h1 hx
 obtain ⟨p1,p2,p3,p4,p5,p6,p7,p8,p9⟩:=push_q c3
 refine ⟨g1,by rw [g3,p3];exact h2,by omega,fun hle=>?_,fun hlt=>?_⟩
 ·obtain ⟨k1,k2⟩:=h4 (by omega)
  have ho:(pushS s.q (pushC s x)).ov=false:=by rw [p6,k1,decide_eq_false (by omega)];rfl
  rw [g3]
  exact ⟨ho,by rw [p7 ho,List.length_append,k2];rfl⟩
 ·rw [g3,p6]
  by_cases k:(i:Int)≤n
  ·obtain ⟨k1,k2⟩:=h4 k
   rw [k1,decide_eq_true (by omega)];rfl
  ·rw [h5 (by omega)];rfl
theorem limI_all {n:Int} {s:St24} {l:List Ev24} (h:limI n s 0) (hn:1≤n∧n≤900) (hs:smEs l=true) (hz:szE l):∀ i,i≤10→limI n (stN s l i) i
 |0,_=>h
 |i+1,hi=>limI_step (limI_all h hn hs hz i (by omega)) (evAt_gd hs hz i) hn (by omega)
end Go.Proofs.YtpcncggjmabnaaaGreatDoor.V

namespace Go.Proofs.YtpcncggjmabnaaaGreatDoor.V
def q0 (z:List Int) (n:Int):Spl:=⟨n,z,[],false,0,0,[]⟩
def s0 (z:List Int) (n:Int):St24:=⟨newImg z,newImg z,q0 z n,0,0,true⟩
theorem newQ_q0 {z:List Int} {n:Int} (h:sizesErr z=0) (hn:1≤n∧n≤1024):newQ z n=q0 z n∧newQE z n=0:=by
 have e:newQE z n=0:=by unfold newQE;rw [if_pos h,if_neg (by omega)]
 exact ⟨by unfold newQ;rw [if_pos e];rfl,e⟩
theorem s0_gd {z:List Int} {n:Int} (h:sizesErr z=0) (hz:∀ x∈z,x≤400) (hn:1≤n∧n≤1024):gdP (s0 z n):=by
 have hl:z.length≤8:=by
  unfold sizesErr at h
  split at h
  ·omega
  ·omega
 refine ⟨?_,newImg_back h,chk_mk h ⟨hn.1,hn.2,Int.le_refl _,Int.le_refl _,(by decide:(0:Int)≤1073741824)⟩ (.inr ⟨rfl,rfl,by show (0:Int)≤n;omega,rfl⟩),⟨by show z.length≤1000;omega,Nat.zero_le _,Nat.zero_le _,fun c hc=>(by cases hc),fun b hb=>(by cases hb)⟩,fun v hv=>?_,by show (0:Int)≤1000000;decide,rfl⟩
 ·show sizesErr (imSizes (newImg z))=0
  rw [newImg_back h];exact h
 ·have hv:v∈newImg z:=hv
  unfold newImg at hv
  obtain ⟨x,hx,rfl⟩:=List.mem_map.1 hv
  have:=hz x hx
  rw [List.length_replicate];omega
theorem limI_0 {n:Int} (hn:1≤n∧n≤900):limI n (s0 [9,3] n) 0:=by
 refine ⟨s0_gd (by decide) (by decide) (by omega),rfl,by show (0:Int)≤_;omega,fun _=>⟨rfl,rfl⟩,fun h=>by omega⟩
theorem loop8 {n:Int} {k:Nat} {l:List Ev24} {y0 y1 y2 y3 y4 y5 y6:PV} (hn:1≤n∧n≤900) (hk:k≤9) (hs:smEs l=true) (hz:szE l) {st:St} (h:st.head [2,7,8,13,14] st.boxes.length=some ⟨sl 98 [(2,.pv (.list 3 (l.map eEv))),(7,.pv (.int .i64 n)),(8,.pv (.int .i64 k)),(13,.pbox 1 0),(14,.pv (.int .i64 (0:Nat)))],[⟨false,[.pv y0,.pv y1,.pv y2,.pv y3,.pv y4,.pv y5,.pv y6]⟩,⟨false,bSt (stN (s0 [9,3] n) l ((0:Nat)))⟩],[],none⟩) :
  den env fn8_l1 st=some (.normal,⟨sl 98 [(6,.any),(13,.pbox 1 0)],[⟨false,[.pv y0,.pv y1,.pv y2,.pv y3,.pv y4,.pv y5,.pv y6]⟩,⟨false,bSt (stN (s0 [9,3] n) l k)⟩],[],none⟩):=by
 unfold fn8_l1
 refine clean_up (env:=env) (nb:=2) (k) (fun i=>⟨sl 98 [(2,.pv (.list 3 (l.map eEv))),(7,.pv (.int .i64 n)),(8,.pv (.int .i64 k)),(13,.pbox 1 0),(14,.pv (.int .i64 i))],[⟨false,[.pv y0,.pv y1,.pv y2,.pv y3,.pv y4,.pv y5,.pv y6]⟩,⟨false,bSt (stN (s0 [9,3] n) l (i))⟩],[],none⟩) (fun i=>some (.normal,⟨sl 98 [(6,.any),(13,.pbox 1 0)],[⟨false,[.pv y0,.pv y1,.pv y2,.pv y3,.pv y4,.pv y5,.pv y6]⟩,⟨false,bSt (stN (s0 [9,3] n) l k)⟩],[],none⟩)) h (fun _=>rfl) (fun _=>by simp only [slAll,slsAll,Nat.reduceMul,Nat.reduceBEq,Nat.reduceLT,Nat.reduceLeDiff,Nat.reduceAdd,decide_true,Bool.and_self,Bool.true_and]) ?_ ?_
 ·intro i rb hi ih
  have hi1:=i64_next (n:=10) (i:=i) (by omega) (by unfold lim;omega)
  have F1:((i:Int)<(k:Int))=True:=eq_true (by omega)
  have hI:=limI_all (limI_0 hn) hn hs hz i (by omega)
  have hI2:=limI_all (limI_0 hn) hn hs hz (i+1) (by omega)
  have hx:=evAt_gd hs hz i
  have e1:=cal32 hI.1 hx
  rw [show pushT (stN (s0 [9,3] n) l i) (evAt l i)=stN (s0 [9,3] n) l (i+1) from rfl] at e1
  have hrt:=hI.1.rt
  generalize stN (s0 [9,3] n) l (i+1)=S2 at *
  generalize stN (s0 [9,3] n) l i=S1 at *
  obtain ⟨_,_,_,a1,a2⟩:=hI2
  have W2:IntKind.i64.wrap ((i:Int)+1)=(i:Int)+1:=i64_fits (by omega)
  have hev:∀ h:i<l.length,evAt l i=l[i]:=fun h=>by unfold evAt;rw [List.getD_eq_getElem?_getD,List.getElem?_eq_getElem h];rfl
  rw [eSt_eq,eEv_eq,hrt] at e1
  by_cases c:i<l.length
  ·have G:((i:Int)<(l.length:Int))=True:=eq_true (by omega)
   have hy:=eEv_at c
   rw [hev c] at e1
   rw [eSt_eq] at e1
   by_cases d:((i+1:Nat):Int)≤n
   ·obtain ⟨b1,b2⟩:=a1 d
    rw [b1] at e1
    have G2:((i:Int) ≥ n)=False:=eq_false (by omega)
    have G3:((S2.q.cy.length:Int) != (i:Int)+1)=false:=by simp [b2]
    simp only [fn8_b0,F1,G,G2,G3,hrt,b1,W2,e1,hy,part3,part12,bSt_eq,index_nat c,List.length_map,slAll,slsAll,Nat.reduceMul,Nat.reduceBEq,Nat.reduceLT,Nat.reduceLeDiff,memAll,vAll,reduceCtorEq,Nat.reduceEqDiff,Nat.reduceAdd,Nat.reduceLT,Nat.reduceLeDiff,Nat.beq]
    rw [ih _ (by simp only [hi1,bSt_eq,b1,slAll,slsAll,Nat.reduceMul,Nat.reduceBEq,Nat.reduceLT,Nat.reduceLeDiff,memAll,vAll,reduceCtorEq,Nat.reduceEqDiff,Nat.reduceAdd,Nat.reduceLT,Nat.reduceLeDiff,Nat.beq]<;>rfl)]
    rfl
   ·have b1:=a2 (by omega)
    rw [b1] at e1
    have G2:((i:Int) ≥ n)=True:=eq_true (by omega)
    simp only [fn8_b0,F1,G,G2,hrt,b1,W2,e1,hy,part3,part12,bSt_eq,index_nat c,List.length_map,slAll,slsAll,Nat.reduceMul,Nat.reduceBEq,Nat.reduceLT,Nat.reduceLeDiff,memAll,vAll,reduceCtorEq,Nat.reduceEqDiff,Nat.reduceAdd,Nat.reduceLT,Nat.reduceLeDiff,Nat.beq]
    rw [ih _ (by simp only [hi1,bSt_eq,b1,slAll,slsAll,Nat.reduceMul,Nat.reduceBEq,Nat.reduceLT,Nat.reduceLeDiff,memAll,vAll,reduceCtorEq,Nat.reduceEqDiff,Nat.reduceAdd,Nat.reduceLT,Nat.reduceLeDiff,Nat.beq]<;>rfl)]
    rfl
  ·have G:((i:Int)<(l.length:Int))=False:=eq_false (by omega)
   rw [show evAt l i=zEv by unfold evAt;rw [List.getD_eq_getElem?_getD,List.getElem?_eq_none (by omega)];rfl,show zEv.kind=0 from rfl,show zEv.step=0 from rfl,show zEv.ws=[] from rfl,List.map_nil] at e1
   rw [eSt_eq] at e1
   by_cases d:((i+1:Nat):Int)≤n
   ·obtain ⟨b1,b2⟩:=a1 d
    rw [b1] at e1
    have G2:((i:Int) ≥ n)=False:=eq_false (by omega)
    have G3:((S2.q.cy.length:Int) != (i:Int)+1)=false:=by simp [b2]
    simp only [fn8_b0,F1,G,G2,G3,hrt,b1,W2,e1,part3,part12,bSt_eq,List.length_map,slAll,slsAll,Nat.reduceMul,Nat.reduceBEq,Nat.reduceLT,Nat.reduceLeDiff,memAll,vAll,reduceCtorEq,Nat.reduceEqDiff,Nat.reduceAdd,Nat.reduceLT,Nat.reduceLeDiff,Nat.beq]
    rw [ih _ (by simp only [hi1,bSt_eq,b1,slAll,slsAll,Nat.reduceMul,Nat.reduceBEq,Nat.reduceLT,Nat.reduceLeDiff,memAll,vAll,reduceCtorEq,Nat.reduceEqDiff,Nat.reduceAdd,Nat.reduceLT,Nat.reduceLeDiff,Nat.beq]<;>rfl)]
    rfl
   ·have b1:=a2 (by omega)
    rw [b1] at e1
    have G2:((i:Int) ≥ n)=True:=eq_true (by omega)
    simp only [fn8_b0,F1,G,G2,hrt,b1,W2,e1,part3,part12,bSt_eq,List.length_map,slAll,slsAll,Nat.reduceMul,Nat.reduceBEq,Nat.reduceLT,Nat.reduceLeDiff,memAll,vAll,reduceCtorEq,Nat.reduceEqDiff,Nat.reduceAdd,Nat.reduceLT,Nat.reduceLeDiff,Nat.beq]
    rw [ih _ (by simp only [hi1,bSt_eq,b1,slAll,slsAll,Nat.reduceMul,Nat.reduceBEq,Nat.reduceLT,Nat.reduceLeDiff,memAll,vAll,reduceCtorEq,Nat.reduceEqDiff,Nat.reduceAdd,Nat.reduceLT,Nat.reduceLeDiff,Nat.beq]<;>rfl)]
    rfl
 ·intro rb
  have hI:=limI_all (limI_0 hn) hn hs hz k (by omega)
  have hrt:=hI.1.rt
  simp only [fn8_b0,Int.lt_irrefl,bSt_eq,List.length_map,slAll,slsAll,Nat.reduceMul,Nat.reduceBEq,Nat.reduceLT,Nat.reduceLeDiff,memAll,vAll,reduceCtorEq,Nat.reduceEqDiff,Nat.reduceAdd,Nat.reduceLT,Nat.reduceLeDiff,Nat.beq]
set_option maxRecDepth 40000 in
set_option maxHeartbeats 1000000 in
theorem cal8 {a b:Int} {l:List Ev24} (ha:0≤a∧a≤255) (hb:0≤b∧b≤255) (hz:szE l):cal env 8 [.int .u8 a,.int .u8 b,.list 3 (l.map eEv)]=some [(.bool true,false)]:=by
 have a1:=calAwake
 have e0:=cal28 hz
 cases c0:smEs l with
 |false =>
  rw [c0] at e0
  rw [cal_code env8 rfl];simp only [fn8,slAll,Nat.reduceBEq,Nat.reduceLeDiff,Nat.reduceAdd,List.length_cons,List.length_nil]
  simp only [a1,e0,List.length_map,slAll,slsAll,Nat.reduceMul,Nat.reduceBEq,Nat.reduceLT,Nat.reduceLeDiff,memAll,vAll,reduceCtorEq,Nat.reduceEqDiff,Nat.reduceAdd,Nat.reduceLT,Nat.reduceLeDiff,Nat.beq]
 |true =>
  rw [c0] at e0
  have hn:1≤1+a % 6∧1+a % 6≤900:=by omega
  obtain ⟨k,hk⟩:∃ k:Nat,b % 10=(k:Int):=⟨(b % 10).toNat,by omega⟩
  have hk9:k≤9:=by omega
  have W1:IntKind.i64.wrap a=a:=i64_fits (by omega)
  have W2:IntKind.i64.wrap b=b:=i64_fits (by omega)
  have T1:a.tmod 6=a % 6:=Int.tmod_eq_emod_of_nonneg ha.1
  have T2:b.tmod 10=(k:Int):=by rw [Int.tmod_eq_emod_of_nonneg hb.1,hk]
  have W3:IntKind.i64.wrap (a % 6)=a % 6:=i64_fits (by omega)
  have W4:IntKind.i64.wrap (1+a % 6)=1+a % 6:=i64_fits (by omega)
  have W5:IntKind.i64.wrap (k:Int)=(k:Int):=i64_fits (by omega)
  have Z6:((6:Int)=0)=False:=eq_false (by decide)
  have Z10:((10:Int)=0)=False:=eq_false (by decide)
  have Z0:((0:Int)==0)=true:=rfl
  have SC:(PV.agg [.int .i64 (1+a % 6),.list 1 [.int .i64 9,.int .i64 3],.list 5 [],.bool false,.int .i64 0,.int .i64 0,.list 2 []]).scalar=false:=rfl
  have e1:=cal31 (z:=[9,3]) (by decide)
  rw [show sizesErr [9,3]=0 by decide,if_pos rfl] at e1
  have e2:=cal11 (z:=[9,3]) (n:=1+a % 6) (by unfold lim;decide)
  obtain ⟨q1,q2⟩:=newQ_q0 (z:=[9,3]) (n:=1+a % 6) (by decide) (by omega)
  rw [q1,q2] at e2
  have hI:=limI_all (limI_0 hn) hn c0 hz k (by omega)
  have e3:=cal20 hI.1.sm
  rw [hI.1.ck] at e3
  have hrt:=hI.1.rt
  have hE:eSpl (q0 [9,3] (1+a % 6))=.agg [.int .i64 (1+a % 6),.list 1 [.int .i64 9,.int .i64 3],.list 5 [],.bool false,.int .i64 0,.int .i64 0,.list 2 []]:=rfl
  have hs0:bSt (s0 [9,3] (1+a % 6))=[.pv (.list 1 ((newImg [9,3]).map eSecs)),.pv (.list 1 ((newImg [9,3]).map eSecs)),.pv (.int .i64 (1+a % 6)),.pv (.list 1 [.int .i64 9,.int .i64 3]),.pv (.list 5 []),.pv (.bool false),.pv (.int .i64 0),.pv (.int .i64 0),.pv (.list 2 []),.pv (.int .i64 0),.pv (.int .i64 0),.pv (.bool true)]:=rfl
  have hl2:[(9:Int),3].map eI=[.int .i64 9,.int .i64 3]:=rfl
  rw [hE] at e2
  rw [hl2] at e1 e2
  rw [eSpl_eq] at e3
  generalize (newImg [9,3]).map eSecs=IM at *
  rw [cal_code env8 rfl];simp only [fn8,slAll,Nat.reduceBEq,Nat.reduceLeDiff,Nat.reduceAdd,List.length_cons,List.length_nil]
  simp only [a1,e0,e1,e2,SC,W1,W2,W3,W4,W5,T1,T2,Z6,Z10,Z0,part7,part12,List.length_map,slAll,slsAll,Nat.reduceMul,Nat.reduceBEq,Nat.reduceLT,Nat.reduceLeDiff,memAll,vAll,reduceCtorEq,Nat.reduceEqDiff,Nat.reduceAdd,Nat.reduceLT,Nat.reduceLeDiff,Nat.beq]
  rw [loop8 (n:=1+a % 6) (k:=k) (l:=l) hn hk9 c0 hz (by simp only [show stN (s0 [9,3] (1+a % 6)) l 0=s0 [9,3] (1+a % 6) from rfl,hs0];simp only [slAll,slsAll,Nat.reduceMul,Nat.reduceBEq,Nat.reduceLT,Nat.reduceLeDiff,Nat.reduceAdd,decide_true,Bool.and_self,Bool.true_and]<;>rfl)]
  simp only [bSt_eq,a1,e3,hrt,Z0,part7,part12,slAll,slsAll,Nat.reduceMul,Nat.reduceBEq,Nat.reduceLT,Nat.reduceLeDiff,memAll,vAll,reduceCtorEq,Nat.reduceEqDiff,Nat.reduceAdd,Nat.reduceLT,Nat.reduceLeDiff,Nat.beq]
end Go.Proofs.YtpcncggjmabnaaaGreatDoor.V

namespace Go.Proofs.YtpcncggjmabnaaaGreatDoor
open Go.RowKit
def fillA (arr:Array Value) (fr to:Nat):Array Value:=arr.mapIdx fun t u=>if fr≤t∧t<to then .bool true else u
theorem fillA_self (arr:Array Value) (fr:Nat):fillA arr fr fr=arr:=by
 unfold fillA
 apply Array.ext (by simp)
 intro i h1 h2
 simp only [Array.getElem_mapIdx]
 rw [if_neg (by omega)]
theorem fillA_set (arr:Array Value) {fr k:Nat} (h:fr≤k):(fillA arr fr k).setIfInBounds k (.bool true)=fillA arr fr (k+1):=by
 unfold fillA
 apply Array.ext_getElem?
 intro i
 rw [Array.getElem?_setIfInBounds,Array.getElem?_mapIdx,Array.getElem?_mapIdx,Array.size_mapIdx]
 by_cases e:k=i
 ·subst e
  rw [if_pos rfl]
  by_cases hk:k<arr.size
  ·rw [if_pos hk,Array.getElem?_eq_getElem hk,Option.map_some,if_pos ⟨h,by omega⟩]
  ·rw [if_neg hk,Array.getElem?_eq_none (by omega)];rfl
 ·rw [if_neg e]
  cases arr[i]? with
  |none=>rfl
  |some u =>
   simp only [Option.map_some]
   by_cases q:fr≤i∧i<k
   ·rw [if_pos q,if_pos ⟨q.1,by omega⟩]
   ·rw [if_neg q,if_neg (by omega)]
def ButB (w w':World) (b:Nat):Prop:=w.heap.size≤w'.heap.size∧w'.os=w.os∧w'.tape=w.tape∧w'.output=w.output∧∀ c,c<w.heap.size→c≠b→w'.heap[c]?=w.heap[c]?
theorem ButB.alloc (w:World) (b:Nat) (o:Obj):ButB w (w.alloc o) b:=⟨by simp,rfl,rfl,rfl,fun c hc _=>Below.heap_alloc _ _ _ hc⟩
theorem ButB.set {w w':World} {b:Nat} (h:ButB w w' b) (k:Nat) (v:Value):ButB w (w'.setCell ⟨b,k,none⟩ v) b :=
 ⟨by simpa [World.setCell] using h.1,h.2.1,h.2.2.1,h.2.2.2.1,fun c hc hne=>by
  rw [← h.2.2.2.2 c hc hne]
  exact Below.heap_setCell w' _ v c fun e=>hne e⟩
set_option maxHeartbeats 4000000 in
theorem add_any {b cc n:Nat} {arr:Array Value} {E:TypeId} {s c:Int} {w:World} (hb:w.heap[b]?=some (.cells arr E (0,0))) (hn:n≤arr.size) (hn2:n≤4096) (hs:-9223372036854775808≤s∧s≤9223372036854775807) (hc:-9223372036854775808≤c∧c≤9223372036854775807) :
  Calls Tryz.prog 115 #[.slice (some ⟨b,0,none⟩) n cc,.agg #[.int .i64 s,.int .i64 c]] w fun e w'=>e=.returned (.tuple #[])∧ButB w w' b∧∃ fr to:Nat,w'.heap[b]?=some (.cells (fillA arr fr to) E (0,0))∧to≤max fr n∧∀ t:Nat,t<n→((fr≤t∧t<to) ↔ (0<c∧s≤(t:Int)∧(t:Int)<s+c)):=by
 have hbl:b<w.heap.size:=(Array.getElem?_eq_some_iff.1 hb).1
 by_cases h1:c≤0
 ·have key:∀ t:Nat,t<n→((0≤t∧t<0) ↔ (0<c∧s≤(t:Int)∧(t:Int)<s+c)):=fun t ht=>⟨fun h=>by omega,fun h=>by omega⟩
  go_enter Tryz.func115,Tryz.ntmps115
  go_wp2
  refine bodyPost_ret (results_none rfl _ _ _) rfl ?_
  exact ⟨rfl,ButB.alloc w b _,0,0,by rw [fillA_self,Below.heap_alloc _ _ _ hbl];exact hb,by omega,fun t ht=>⟨fun h=>by omega,fun h=>by omega⟩⟩
 by_cases h3:(n:Int)≤s
 ·have key:∀ t:Nat,t<n→((0≤t∧t<0) ↔ (0<c∧s≤(t:Int)∧(t:Int)<s+c)):=fun t ht=>⟨fun h=>by omega,fun h=>by omega⟩
  go_enter Tryz.func115,Tryz.ntmps115
  go_wp2
  refine bodyPost_ret (results_none rfl _ _ _) rfl ?_
  exact ⟨rfl,ButB.alloc w b _,0,0,by rw [fillA_self,Below.heap_alloc _ _ _ hbl];exact hb,by omega,fun t ht=>⟨fun h=>by omega,fun h=>by omega⟩⟩
 by_cases h2:s<0
 ·by_cases h4:(n:Int)≤s+c
  ·go_enter Tryz.func115,Tryz.ntmps115
   go_wp2
   go_loopw [6] (fun i wr=>∃ k:Nat,0≤k∧((k:Int)≤(n:Int)∨k=0)∧i=.int .i64 k∧wr.heap[b]?=some (.cells (fillA arr (0) k) E (0,0))∧ButB w wr b) (fun i _=>((n:Int) - intOf i).toNat)
   case atStart =>
    exact ⟨0,Nat.le_refl _,.inr rfl,by first|rfl|(congr 1;omega),by rw [fillA_self,Below.heap_alloc _ _ _ hbl];exact hb,ButB.alloc w b _⟩
   case round =>
    obtain ⟨k,hk1,hk2,rfl,hg,hB⟩:=hrel
    by_cases hlt:(k:Int)<(n:Int)
    ·have hka:k<arr.size:=by omega
     have hfz:wr.frozen? ⟨b,k,none⟩=false:=by simp [World.frozen?,hg]
     have hsz:k<(fillA arr (0) k).size:=by simpa [fillA] using hka
     have hcell:wr.cell? ⟨b,k,none⟩=some (fillA arr (0) k)[k]:=by rw [cell_of_row wr _ _ _ _ (0,0) hg];exact Array.getElem?_eq_getElem hsz
     go_wp2
     go_roundw
     case rel =>
      refine ⟨k+1,by omega,.inl (by omega),by go_num,?_,hB.set _ _⟩
      simp only [World.setCell,Array.getElem?_modify,hg,if_true,Option.map_some,Option.isSome_none,Bool.false_eq_true,if_false]
      rw [fillA_set arr hk1]
     case measure=>simp [intOf];omega
    ·go_wp2
     first|go_end0|go_ret
     exact ⟨rfl,hB,0,k,hg,by omega,fun t ht=>⟨fun h=>by omega,fun h=>by omega⟩⟩
  ·go_enter Tryz.func115,Tryz.ntmps115
   go_wp2
   go_loopw [6] (fun i wr=>∃ k:Nat,0≤k∧((k:Int)≤(s+c)∨k=0)∧i=.int .i64 k∧wr.heap[b]?=some (.cells (fillA arr (0) k) E (0,0))∧ButB w wr b) (fun i _=>((s+c) - intOf i).toNat)
   case atStart =>
    exact ⟨0,Nat.le_refl _,.inr rfl,by first|rfl|(congr 1;omega),by rw [fillA_self,Below.heap_alloc _ _ _ hbl];exact hb,ButB.alloc w b _⟩
   case round =>
    obtain ⟨k,hk1,hk2,rfl,hg,hB⟩:=hrel
    by_cases hlt:(k:Int)<(s+c)
    ·have hka:k<arr.size:=by omega
     have hfz:wr.frozen? ⟨b,k,none⟩=false:=by simp [World.frozen?,hg]
     have hsz:k<(fillA arr (0) k).size:=by simpa [fillA] using hka
     have hcell:wr.cell? ⟨b,k,none⟩=some (fillA arr (0) k)[k]:=by rw [cell_of_row wr _ _ _ _ (0,0) hg];exact Array.getElem?_eq_getElem hsz
     go_wp2
     go_roundw
     case rel =>
      refine ⟨k+1,by omega,.inl (by omega),by go_num,?_,hB.set _ _⟩
      simp only [World.setCell,Array.getElem?_modify,hg,if_true,Option.map_some,Option.isSome_none,Bool.false_eq_true,if_false]
      rw [fillA_set arr hk1]
     case measure=>simp [intOf];omega
    ·go_wp2
     first|go_end0|go_ret
     exact ⟨rfl,hB,0,k,hg,by omega,fun t ht=>⟨fun h=>by omega,fun h=>by omega⟩⟩
 ·obtain ⟨fr,rfl⟩:∃ fr:Nat,s=(fr:Int):=⟨s.toNat,by omega⟩
  have hfr:fr<n:=by omega
  by_cases h5:c≤4096
  ·by_cases h4:(n:Int)≤(fr:Int)+c
   ·go_enter Tryz.func115,Tryz.ntmps115
    go_wp2
    go_loopw [6] (fun i wr=>∃ k:Nat,fr≤k∧((k:Int)≤(n:Int)∨k=fr)∧i=.int .i64 k∧wr.heap[b]?=some (.cells (fillA arr (fr) k) E (0,0))∧ButB w wr b) (fun i _=>((n:Int) - intOf i).toNat)
    case atStart =>
     exact ⟨fr,Nat.le_refl _,.inr rfl,by first|rfl|(congr 1;omega),by rw [fillA_self,Below.heap_alloc _ _ _ hbl];exact hb,ButB.alloc w b _⟩
    case round =>
     obtain ⟨k,hk1,hk2,rfl,hg,hB⟩:=hrel
     by_cases hlt:(k:Int)<(n:Int)
     ·have hka:k<arr.size:=by omega
      have hfz:wr.frozen? ⟨b,k,none⟩=false:=by simp [World.frozen?,hg]
      have hsz:k<(fillA arr (fr) k).size:=by simpa [fillA] using hka
      have hcell:wr.cell? ⟨b,k,none⟩=some (fillA arr (fr) k)[k]:=by rw [cell_of_row wr _ _ _ _ (0,0) hg];exact Array.getElem?_eq_getElem hsz
      go_wp2
      go_roundw
      case rel =>
       refine ⟨k+1,by omega,.inl (by omega),by go_num,?_,hB.set _ _⟩
       simp only [World.setCell,Array.getElem?_modify,hg,if_true,Option.map_some,Option.isSome_none,Bool.false_eq_true,if_false]
       rw [fillA_set arr hk1]
      case measure=>simp [intOf];omega
     ·go_wp2
      first|go_end0|go_ret
      exact ⟨rfl,hB,fr,k,hg,by omega,fun t ht=>⟨fun h=>by omega,fun h=>by omega⟩⟩
   ·go_enter Tryz.func115,Tryz.ntmps115
    go_wp2
    go_loopw [6] (fun i wr=>∃ k:Nat,fr≤k∧((k:Int)≤((fr:Int)+c)∨k=fr)∧i=.int .i64 k∧wr.heap[b]?=some (.cells (fillA arr (fr) k) E (0,0))∧ButB w wr b) (fun i _=>(((fr:Int)+c) - intOf i).toNat)
    case atStart =>
     exact ⟨fr,Nat.le_refl _,.inr rfl,by first|rfl|(congr 1;omega),by rw [fillA_self,Below.heap_alloc _ _ _ hbl];exact hb,ButB.alloc w b _⟩
    case round =>
     obtain ⟨k,hk1,hk2,rfl,hg,hB⟩:=hrel
     by_cases hlt:(k:Int)<((fr:Int)+c)
     ·have hka:k<arr.size:=by omega
      have hfz:wr.frozen? ⟨b,k,none⟩=false:=by simp [World.frozen?,hg]
      have hsz:k<(fillA arr (fr) k).size:=by simpa [fillA] using hka
      have hcell:wr.cell? ⟨b,k,none⟩=some (fillA arr (fr) k)[k]:=by rw [cell_of_row wr _ _ _ _ (0,0) hg];exact Array.getElem?_eq_getElem hsz
      go_wp2
      go_roundw
      case rel =>
       refine ⟨k+1,by omega,.inl (by omega),by go_num,?_,hB.set _ _⟩
       simp only [World.setCell,Array.getElem?_modify,hg,if_true,Option.map_some,Option.isSome_none,Bool.false_eq_true,if_false]
       rw [fillA_set arr hk1]
      case measure=>simp [intOf];omega
     ·go_wp2
      first|go_end0|go_ret
      exact ⟨rfl,hB,fr,k,hg,by omega,fun t ht=>⟨fun h=>by omega,fun h=>by omega⟩⟩
  ·have h4:(n:Int)≤(fr:Int)+4096:=by omega
   have h5':(4096:Int)<c:=by omega
   clear h5
   go_enter Tryz.func115,Tryz.ntmps115
   go_wp2
   go_loopw [6] (fun i wr=>∃ k:Nat,fr≤k∧((k:Int)≤(n:Int)∨k=fr)∧i=.int .i64 k∧wr.heap[b]?=some (.cells (fillA arr (fr) k) E (0,0))∧ButB w wr b) (fun i _=>((n:Int) - intOf i).toNat)
   case atStart =>
    exact ⟨fr,Nat.le_refl _,.inr rfl,by first|rfl|(congr 1;omega),by rw [fillA_self,Below.heap_alloc _ _ _ hbl];exact hb,ButB.alloc w b _⟩
   case round =>
    obtain ⟨k,hk1,hk2,rfl,hg,hB⟩:=hrel
    by_cases hlt:(k:Int)<(n:Int)
    ·have hka:k<arr.size:=by omega
     have hfz:wr.frozen? ⟨b,k,none⟩=false:=by simp [World.frozen?,hg]
     have hsz:k<(fillA arr (fr) k).size:=by simpa [fillA] using hka
     have hcell:wr.cell? ⟨b,k,none⟩=some (fillA arr (fr) k)[k]:=by rw [cell_of_row wr _ _ _ _ (0,0) hg];exact Array.getElem?_eq_getElem hsz
     go_wp2
     go_roundw
     case rel =>
      refine ⟨k+1,by omega,.inl (by omega),by go_num,?_,hB.set _ _⟩
      simp only [World.setCell,Array.getElem?_modify,hg,if_true,Option.map_some,Option.isSome_none,Bool.false_eq_true,if_false]
      rw [fillA_set arr hk1]
     case measure=>simp [intOf];omega
    ·go_wp2
     first|go_end0|go_ret
     exact ⟨rfl,hB,fr,k,hg,by omega,fun t ht=>⟨fun h=>by omega,fun h=>by omega⟩⟩
theorem add_ok:callable Tryz.prog 115=true∧SortOk Tryz.prog 115 addX:=by
 refine ⟨by kernel_rfl,?_⟩
 intro p sz es es' h T w r v cv hfresh hrow hc
 obtain ⟨s,c,m,rfl,rfl,h1,h2,h3,h4,rfl⟩:=addX_eq h
 have hcv:cv=.agg #[.int .i64 s,.int .i64 c]:=by
  cases hc with
  |agg cs arr g1 g2 g3 =>
   have e0:arr[0]?=some (arr[0]'(by rw [g1];simp)):=Array.getElem?_eq_getElem _
   have e1:arr[1]?=some (arr[1]'(by rw [g1];simp)):=Array.getElem?_eq_getElem _
   have k0:=g3 0 _ _ rfl e0
   have k1:=g3 1 _ _ rfl e1
   have q0:arr[0]'(by rw [g1];simp)=.int .i64 s:=by
    generalize arr[0]'(by rw [g1];simp)=u at k0
    cases k0;rfl
   have q1:arr[1]'(by rw [g1];simp)=.int .i64 c:=by
    generalize arr[1]'(by rw [g1];simp)=u at k1
    cases k1;rfl
   congr 1
   apply Array.ext
   ·rw [g1];rfl
   ·intro i hi1 hi2
    match i,hi1,hi2 with
    |0,_,_=>exact q0
    |1,_,_=>exact q1
    |i+2,_,hi2=>exact absurd hi2 (by simp)
 subst hcv
 rcases hrow with ⟨he,_⟩|⟨b,cc,arr,E,rfl,k2,k3,k4,k5,k6,k7,k8⟩
 ·exact absurd (List.map_eq_nil_iff.1 he) h3
 have hsz:sz=1:=by
  obtain ⟨y,l',rfl⟩:∃ y l',m=y :: l':=by cases m with
   |nil=>exact absurd rfl h3
   |cons y l'=>exact ⟨y,l',rfl⟩
  exact (k7 (V.eB y) (by simp)).symm
 subst hsz
 rw [List.length_map] at k5
 rw [Nat.mul_one] at k4
 simp only [i64b,Bool.and_eq_true,decide_eq_true_eq] at h1 h2
 have hcon:=add_any (cc:=cc) (n:=m.length) k3 (by omega) h4 h1 h2
 have hl:(m.map V.eB).length=m.length:=List.length_map _
 rw [← hl] at hcon
 refine hcon.mono ?_
 rintro e w' ⟨rfl,⟨b1,b2,b3,b4,b5⟩,fr,to,q1,q2,q3⟩
 refine ⟨_,rfl,b1,b2,b3,b4,fun x hx hT=>b5 x hx fun e=>hT (by rw [e];exact k2),?_⟩
 refine .inr ⟨b,cc,_,E,?_,k2,q1,by simp [fillA,k4],?_,k6,?_,?_⟩
 ·simp [markX]
 ·simpa [markX] using k5
 ·intro e he
  obtain ⟨y,_,rfl⟩:=List.mem_map.1 he
  rfl
 ·intro i e j x hi hj
  rw [List.getElem?_map] at hi
  obtain ⟨y,hy,rfl⟩:=Option.map_eq_some_iff.1 hi
  obtain ⟨rfl,rfl⟩:j=0∧x=.bool y:=by
   cases j with
   |zero=>simp [V.eB,PV.cells] at hj;exact ⟨rfl,hj.symm⟩
   |succ j=>simp [V.eB,PV.cells] at hj
  unfold markX at hy
  rw [List.getElem?_mapIdx] at hy
  obtain ⟨u,hu,rfl⟩:=Option.map_eq_some_iff.1 hy
  have hil:i<m.length:=(List.getElem?_eq_some_iff.1 hu).1
  obtain ⟨a,g1,g2,g3⟩:=k8 i (V.eB u) 0 (.bool u) (by rw [List.getElem?_map,hu];rfl) rfl
  have ha:a=.bool u:=by cases g3;rfl
  subst ha
  rw [Nat.mul_one,Nat.add_zero] at g1 ⊢
  refine ⟨.bool (u || inX s c i),?_,rfl,.bool _⟩
  simp only [fillA,Array.getElem?_mapIdx,g1,Option.map_some]
  have hq:=q3 i (by rw [hl];exact hil)
  have hin:inX s c i=decide (fr≤i∧i<to):=by
   unfold inX
   by_cases hf:fr≤i∧i<to
   ·obtain ⟨z1,z2,z3⟩:=hq.1 hf
    rw [decide_eq_true z1,decide_eq_true z2,decide_eq_true z3,decide_eq_true hf];rfl
   ·rw [decide_eq_false hf]
    cases hx:(decide (0<c)&&(decide (s≤(i:Int))&&decide ((i:Int)<s+c))) with
    |false=>rfl
    |true =>
     simp only [Bool.and_eq_true,decide_eq_true_eq] at hx
     exact absurd (hq.2 ⟨hx.1,hx.2.1,hx.2.2⟩) hf
  rw [hin]
  by_cases hf:fr≤i∧i<to
  ·rw [if_pos hf,decide_eq_true hf,Bool.or_true]
  ·rw [if_neg hf,decide_eq_false hf,Bool.or_false]
end Go.Proofs.YtpcncggjmabnaaaGreatDoor
