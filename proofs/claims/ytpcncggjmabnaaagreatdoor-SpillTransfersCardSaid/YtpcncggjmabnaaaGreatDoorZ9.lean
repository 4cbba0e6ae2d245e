/-
  Part 9 of the texts that the statement stands on.
-/
import Derived.Test.YtpcncggjmabnaaaGreatDoorZ8
import Derived.ProofKit
import Derived.SizedLaws
import Derived.OpenShut
import Derived.Deep.Strs
import Derived.Test.YtpcncggjmabnaaaGreatDoorRows
import Derived.WalkSmall
import Derived.WalkSpells
import Derived.Lib.SliceRun
set_option linter.all false
namespace Go.Proofs.YtpcncggjmabnaaaGreatDoor.V
theorem zJ (v:Int) (l:List bK):jX v l=ext (jq (lQ v l)) 4096:=by
 unfold jX setOf
 congr 1
 funext s
 simp [orB,jq]
theorem ajT {l:List bK} {v:Int} (hm:∀ w∈l,CB w) (hl:l.length≤10000) {st:St} (h:st.head [0,1,5,6,7] st.boxes.length=some ⟨sl 37 [(0,.pv (.list 3 (l.map dQ))),(1,.pv (.int .i64 v)),(5,.row 1 ((mk (jq (lQ v (l.take ((0:Nat)))))).map eB)),(6,.pv (.int .i64 (0:Nat))),(7,.any)],[],[],none⟩) :
  den env Le st=some (.normal,⟨sl 37 [(4,.any),(5,.row 1 ((mk (jq (lQ v l))).map eB))],[],[],none⟩):=by
 unfold Le
 refine bC (env:=env) (nb:=0) (l.length) (fun i=>⟨sl 37 [(0,.pv (.list 3 (l.map dQ))),(1,.pv (.int .i64 v)),(5,.row 1 ((mk (jq (lQ v (l.take (i))))).map eB)),(6,.pv (.int .i64 i)),(7,.any)],[],[],none⟩) (fun i=>some (.normal,⟨sl 37 [(4,.any),(5,.row 1 ((mk (jq (lQ v l))).map eB))],[],[],none⟩)) h (fun _=>rfl) (fun _=>by simp only [aB,bg,Nat.reduceMul,Nat.reduceBEq,Nat.reduceLT,Nat.reduceLeDiff,Nat.reduceAdd,decide_true,Bool.and_self,Bool.true_and]) ?_ ?_
 ·intro i rb hi ih
  have hi1:=bG hi (by unfold lim;omega)
  have F1:((i:Int)<(l.length:Int))=True:=eq_true (by omega)
  have hx:=rC hi
  have hh:=Qe (v:=v) hi
  obtain ⟨⟨m1,m2⟩,m3⟩:=hm _ (List.getElem_mem hi)
  by_cases c:l[i].volume=v
  ·have G:(l[i].volume==v)=true:=by simp [c]
   rw [if_pos c] at hh
   have hA:=abe (s:=l[i].start) (c:=(l[i].data.length:Int)) (m:=mk (jq (lQ v (l.take i)))) (by simp only [nP,Bool.and_eq_true,decide_eq_true_eq];omega) (by simp only [nP,Bool.and_eq_true,decide_eq_true_eq];omega) (by intro e;have:=x9 (jq (lQ v (l.take i)));rw [e] at this;simp at this) (by rw [x9];exact Nat.le_refl _)
   rw [agk] at hA
   have hmk:mk (fun t=>jq (lQ v (l.take i)) t || inX l[i].start (l[i].data.length:Int) t)=mk (jq (lQ v (l.take (i+1)))):=by
    apply mk_congr
    intro s hs
    rw [hh,zD];rfl
   rw [hmk] at hA
   have C:(0=0∧(4096:Nat)=4096∧(4096:Nat)=4096)=True:=eq_true ⟨rfl,rfl,rfl⟩
   simp only [Df,F1,G,hx,hA,C,x9,iV,aiJ,aj hi,List.length_map,au,Nat.reduceMul,Nat.reduceBEq,Nat.reduceLT,Nat.reduceLeDiff,reduceCtorEq,Nat.reduceEqDiff,Nat.reduceAdd,Nat.beq]
   rw [ih _ (by simp only [hi1,au,Nat.reduceMul,Nat.reduceBEq,Nat.reduceLT,Nat.reduceLeDiff,reduceCtorEq,Nat.reduceEqDiff,Nat.reduceAdd,Nat.beq]<;>rfl)]
  ·have G:(l[i].volume==v)=false:=by simp [c]
   rw [if_neg c] at hh
   rw [hh] at ih
   simp only [Df,F1,G,hx,iV,aj hi,List.length_map,au,Nat.reduceMul,Nat.reduceBEq,Nat.reduceLT,Nat.reduceLeDiff,reduceCtorEq,Nat.reduceEqDiff,Nat.reduceAdd,Nat.beq]
   rw [ih _ (by simp only [hi1,au,Nat.reduceMul,Nat.reduceBEq,Nat.reduceLT,Nat.reduceLeDiff,reduceCtorEq,Nat.reduceEqDiff,Nat.reduceAdd,Nat.beq]<;>rfl)]
 ·intro rb
  rw [List.take_length]
  simp only [Df,Int.lt_irrefl,List.length_map,au,Nat.reduceMul,Nat.reduceBEq,Nat.reduceLT,Nat.reduceLeDiff,reduceCtorEq,Nat.reduceEqDiff,Nat.reduceAdd,Nat.beq]
theorem amx {l:List bK} {v:Int} (hm:∀ w∈l,CB w) (hl:l.length≤10000):cal env 99 [.list 3 (l.map dQ),.int .i64 v]=some [(.list 2 ((jX v l).map dw),true)]:=by
 have R2:((4096:Int)≤(lim:Int))=True:=eq_true (by unfold lim;decide)
 have R0:((0:Int)≤4096)=True:=eq_true (by decide)
 have R1:((4096:Int)≤4096)=True:=eq_true (by decide)
 have T:(4096:Int).toNat=4096:=rfl
 have e1:=agm (f:=jq (lQ v l))
 rw [zJ]
 have hz:List.replicate 4096 (PV.bool false)=(mk (jq (lQ v (l.take 0)))).map eB:=by
  have:mk (jq (lQ v (l.take 0)))=List.replicate 4096 false:=by
   rw [show jq (lQ v (l.take 0))=jq [] from rfl,ac8];rfl
  rw [this,List.map_replicate];rfl
 rw [ah alO rfl];simp only [abK,aB,Nat.reduceBEq,Nat.reduceLeDiff,Nat.reduceAdd,List.length_cons,List.length_nil]
 simp only [R0,R1,R2,T,and_self,if_true,au,Nat.reduceMul,Nat.reduceBEq,Nat.reduceLT,Nat.reduceLeDiff,reduceCtorEq,Nat.reduceEqDiff,Nat.reduceAdd,Nat.beq]
 rw [hz]
 rw [ajT (v:=v) hm hl (by simp only [aB,bg,Nat.reduceMul,Nat.reduceBEq,Nat.reduceLT,Nat.reduceLeDiff,Nat.reduceAdd,decide_true,Bool.and_self,Bool.true_and]<;>rfl)]
 simp only [R0,R1,R2,T,e1,au,Nat.reduceMul,Nat.reduceBEq,Nat.reduceLT,Nat.reduceLeDiff,reduceCtorEq,Nat.reduceEqDiff,Nat.reduceAdd,Nat.beq]
def ng (l:List bK) (v s:Int) (n:Nat):List fV:=(List.range n).map fun (k:Nat)=>(pG l v (s+(k:Int))).getD xC
theorem UJ (l:List bK) (v s:Int) (n:Nat):ng l v s (n+1)=ng l v s n++[(pG l v (s+(n:Int))).getD xC]:=by
 unfold ng;rw [List.range_succ,List.map_append];rfl
theorem sF (l:List bK) (v s:Int) (n:Nat):(ng l v s n).length=n:=by simp [ng]
def IW (l:List bK) (v:Int) (e:fG):bK:=⟨v,e.start,ng l v e.start e.count.toNat⟩
def Y5 (l:List bK) (v:Int) (es:List fG) (n:Nat):List bK:=(es.take n).map (IW l v)
theorem agA {l:List bK} {v:Int} {es:List fG} (n:Nat):(Y5 l v es n).length≤n:=by unfold Y5;rw [List.length_map,List.length_take];omega
theorem ajU {l:List bK} {v:Int} {es:List fG} {i0:Nat} {L:List PV} (hm:∀ w∈l,CB w) (hl:l.length≤10000) (h0:i0<es.length) (he:0≤es[i0].start∧0≤es[i0].count∧es[i0].start+es[i0].count≤4096) {st:St} (h:st.head [0,1,2,7,8,9,10,57] st.boxes.length=some ⟨sl 59 [(0,.pv (.list 3 (l.map dQ))),(1,.pv (.int .i64 v)),(2,.pv (.list 2 (es.map dw))),(7,.row 3 L),(8,.pv (.int .i64 i0)),(9,.aF 0 0),(10,.pv (.int .i64 (0:Nat))),(57,.any)],[⟨false,[.pv (.int .i64 v),.pv (.int .i64 es[i0].start),.row 8 ((ng l v es[i0].start ((0:Nat))).map iJ)]⟩],[],none⟩) :
  den env La st=some (.normal,⟨sl 59 [(0,.pv (.list 3 (l.map dQ))),(1,.pv (.int .i64 v)),(2,.pv (.list 2 (es.map dw))),(6,.any),(7,.row 3 L),(8,.pv (.int .i64 i0)),(9,.aF 0 0),(57,.any)],[⟨false,[.pv (.int .i64 v),.pv (.int .i64 es[i0].start),.row 8 ((ng l v es[i0].start es[i0].count.toNat).map iJ)]⟩],[],none⟩):=by
 unfold La
 refine bC (env:=env) (nb:=1) (es[i0].count.toNat) (fun i=>⟨sl 59 [(0,.pv (.list 3 (l.map dQ))),(1,.pv (.int .i64 v)),(2,.pv (.list 2 (es.map dw))),(7,.row 3 L),(8,.pv (.int .i64 i0)),(9,.aF 0 0),(10,.pv (.int .i64 i)),(57,.any)],[⟨false,[.pv (.int .i64 v),.pv (.int .i64 es[i0].start),.row 8 ((ng l v es[i0].start (i)).map iJ)]⟩],[],none⟩) (fun i=>some (.normal,⟨sl 59 [(0,.pv (.list 3 (l.map dQ))),(1,.pv (.int .i64 v)),(2,.pv (.list 2 (es.map dw))),(6,.any),(7,.row 3 L),(8,.pv (.int .i64 i0)),(9,.aF 0 0),(57,.any)],[⟨false,[.pv (.int .i64 v),.pv (.int .i64 es[i0].start),.row 8 ((ng l v es[i0].start es[i0].count.toNat).map iJ)]⟩],[],none⟩)) h (fun _=>rfl) (fun _=>by simp only [aB,bg,Nat.reduceMul,Nat.reduceBEq,Nat.reduceLT,Nat.reduceLeDiff,Nat.reduceAdd,decide_true,Bool.and_self,Bool.true_and]) ?_ ?_
 ·intro i rb hi ih
  have hi1:=bG hi (by unfold lim;omega)
  have F1:((i:Int)<es[i0].count)=True:=eq_true (by omega)
  have hx:=sD h0
  have W:IntKind.i64.wrap (es[i0].start+(i:Int))=es[i0].start+(i:Int):=bn (by omega)
  have e1:=ahA (v:=v) (s:=es[i0].start+(i:Int)) hm (by omega) (by omega)
  have F5:((ng l v es[i0].start i).length+1≤lim)=True:=eq_true (by rw [sF];unfold lim;omega)
  have hs:(ng l v es[i0].start (i+1)).map iJ=(ng l v es[i0].start i).map iJ++[iJ ((pG l v (es[i0].start+(i:Int))).getD xC)]:=by rw [UJ,List.map_append];rfl
  rw [hs] at ih
  obtain ⟨a,b,c,d,e,f,g,h',h8⟩:=agy ((pG l v (es[i0].start+(i:Int))).getD xC)
  rw [h8] at e1 ih
  simp only [KZ,F1,F5,hx,e1,W,rY,IV,aj h0,List.length_map,au,Nat.reduceMul,Nat.reduceBEq,Nat.reduceLT,Nat.reduceLeDiff,reduceCtorEq,Nat.reduceEqDiff,Nat.reduceAdd,Nat.beq]
  rw [ih _ (by simp only [hi1,au,Nat.reduceMul,Nat.reduceBEq,Nat.reduceLT,Nat.reduceLeDiff,reduceCtorEq,Nat.reduceEqDiff,Nat.reduceAdd,Nat.beq]<;>rfl)]
 ·intro rb
  have F1:(((es[i0].count.toNat:Nat):Int)<es[i0].count)=False:=eq_false (by omega)
  have hx:=sD h0
  simp only [KZ,F1,hx,rY,aj h0,List.length_map,au,Nat.reduceMul,Nat.reduceBEq,Nat.reduceLT,Nat.reduceLeDiff,reduceCtorEq,Nat.reduceEqDiff,Nat.reduceAdd,Nat.beq]
theorem adt {l:List bK} {v:Int} {es:List fG} (hm:∀ w∈l,CB w) (hl:l.length≤10000) (hes:es.length≤10000) (he:∀ e∈es,0≤e.start∧0≤e.count∧e.start+e.count≤4096) {st:St} (h:st.head [0,1,2,7,8,57] st.boxes.length=some ⟨sl 59 [(0,.pv (.list 3 (l.map dQ))),(1,.pv (.int .i64 v)),(2,.pv (.list 2 (es.map dw))),(7,.row 3 ((Y5 l v es ((0:Nat))).map dQ)),(8,.pv (.int .i64 (0:Nat))),(57,.any)],[],[],none⟩) :
  den env Ld st=some (.normal,⟨sl 59 [(6,.any),(7,.row 3 ((Y5 l v es es.length).map dQ))],[],[],none⟩):=by
 unfold Ld
 refine bC (env:=env) (nb:=0) (es.length) (fun i=>⟨sl 59 [(0,.pv (.list 3 (l.map dQ))),(1,.pv (.int .i64 v)),(2,.pv (.list 2 (es.map dw))),(7,.row 3 ((Y5 l v es (i)).map dQ)),(8,.pv (.int .i64 i)),(57,.any)],[],[],none⟩) (fun i=>some (.normal,⟨sl 59 [(6,.any),(7,.row 3 ((Y5 l v es es.length).map dQ))],[],[],none⟩)) h (fun _=>rfl) (fun _=>by simp only [aB,bg,Nat.reduceMul,Nat.reduceBEq,Nat.reduceLT,Nat.reduceLeDiff,Nat.reduceAdd,decide_true,Bool.and_self,Bool.true_and]) ?_ ?_
 ·intro i rb hi ih
  have hi1:=bG hi (by unfold lim;omega)
  have F1:((i:Int)<(es.length:Int))=True:=eq_true (by omega)
  have hx:=sD hi
  have F5:((Y5 l v es i).length+1≤lim)=True:=eq_true (by have:=agA (l:=l) (v:=v) (es:=es) i;unfold lim;omega)
  have hs:(Y5 l v es (i+1)).map dQ=(Y5 l v es i).map dQ++[.agg [.int .i64 v,.int .i64 es[i].start,.list 8 ((ng l v es[i].start es[i].count.toNat).map iJ)]]:=by
   unfold Y5
   rw [List.take_succ_eq_append_getElem hi,List.map_append,List.map_append];rfl
  rw [hs] at ih
  simp only [Lc,F1,F5,hx,rY,iV,aj hi,List.length_map,au,Nat.reduceMul,Nat.reduceBEq,Nat.reduceLT,Nat.reduceLeDiff,reduceCtorEq,Nat.reduceEqDiff,Nat.reduceAdd,Nat.beq]
  rw [ajU (l:=l) (v:=v) (es:=es) (i0:=i) hm hl hi (he _ (List.getElem_mem hi)) (by simp only [show ng l v es[i].start 0=[] from rfl,List.map_nil];simp only [aB,bg,Nat.reduceMul,Nat.reduceBEq,Nat.reduceLT,Nat.reduceLeDiff,Nat.reduceAdd,decide_true,Bool.and_self,Bool.true_and]<;>rfl)]
  simp only [F5,iV,List.length_map,au,Nat.reduceMul,Nat.reduceBEq,Nat.reduceLT,Nat.reduceLeDiff,reduceCtorEq,Nat.reduceEqDiff,Nat.reduceAdd,Nat.beq]
  rw [ih _ (by simp only [hi1,au,Nat.reduceMul,Nat.reduceBEq,Nat.reduceLT,Nat.reduceLeDiff,reduceCtorEq,Nat.reduceEqDiff,Nat.reduceAdd,Nat.beq]<;>rfl)]
 ·intro rb
  simp only [Lc,Int.lt_irrefl,List.length_map,au,Nat.reduceMul,Nat.reduceBEq,Nat.reduceLT,Nat.reduceLeDiff,reduceCtorEq,Nat.reduceEqDiff,Nat.reduceAdd,Nat.beq]
theorem amy {l:List bK} {v:Int} {es:List fG} (hm:∀ w∈l,CB w) (hl:l.length≤10000) (hes:es.length≤10000) (he:∀ e∈es,0≤e.start∧0≤e.count∧e.start+e.count≤4096):cal env 98 [.list 3 (l.map dQ),.int .i64 v,.list 2 (es.map dw)]=some [(.list 3 ((es.map (IW l v)).map dQ),true)]:=by
 rw [ah alN rfl];simp only [abJ,aB,Nat.reduceBEq,Nat.reduceLeDiff,Nat.reduceAdd,List.length_cons,List.length_nil]
 simp only [List.length_map,au,Nat.reduceMul,Nat.reduceBEq,Nat.reduceLT,Nat.reduceLeDiff,reduceCtorEq,Nat.reduceEqDiff,Nat.reduceAdd,Nat.beq]
 rw [adt (l:=l) (v:=v) (es:=es) hm hl hes he (by simp only [show Y5 l v es 0=[] from rfl,List.map_nil];simp only [aB,bg,Nat.reduceMul,Nat.reduceBEq,Nat.reduceLT,Nat.reduceLeDiff,Nat.reduceAdd,decide_true,Bool.and_self,Bool.true_and]<;>rfl)]
 rw [show es.map (IW l v)=Y5 l v es es.length by unfold Y5;rw [List.take_length]]
 simp only [List.length_map,au,Nat.reduceMul,Nat.reduceBEq,Nat.reduceLT,Nat.reduceLeDiff,reduceCtorEq,Nat.reduceEqDiff,Nat.reduceAdd,Nat.beq]
def kS (n:Nat):List Int:=List.replicate n 4096
theorem ajV  {st:St} (h:st.head [1,2,9] st.boxes.length=some ⟨sl 11 [(1,.row 1 ((kS ((0:Nat))).map eI)),(2,.pv (.int .i64 (((0:Nat):Nat):Int))),(9,.any)],[],[],none⟩) :
  den env KY st=some (.normal,⟨sl 11 [(0,.any),(1,.row 1 ((kS 8).map eI))],[],[],none⟩):=by
 unfold KY
 refine bC (env:=env) (nb:=0) (8) (fun i=>⟨sl 11 [(1,.row 1 ((kS (i)).map eI)),(2,.pv (.int .i64 ((i:Nat):Int))),(9,.any)],[],[],none⟩) (fun i=>some (.normal,⟨sl 11 [(0,.any),(1,.row 1 ((kS 8).map eI))],[],[],none⟩)) h (fun _=>rfl) (fun _=>by simp only [aB,bg,Nat.reduceMul,Nat.reduceBEq,Nat.reduceLT,Nat.reduceLeDiff,Nat.reduceAdd,decide_true,Bool.and_self,Bool.true_and]) ?_ ?_
 ·intro i rb hi ih
  have hi1:=bG (n:=8) hi (by unfold lim;omega)
  have F1:((i:Int)<8)=True:=eq_true (by omega)
  have F5:((kS i).length+1≤lim)=True:=eq_true (by unfold kS;rw [List.length_replicate];unfold lim;omega)
  have hs:(kS (i+1)).map eI=(kS i).map eI++[.int .i64 4096]:=by
   unfold kS;rw [List.replicate_succ',List.map_append];rfl
  rw [hs] at ih
  simp only [KX,F1,F5,List.length_map,au,Nat.reduceMul,Nat.reduceBEq,Nat.reduceLT,Nat.reduceLeDiff,reduceCtorEq,Nat.reduceEqDiff,Nat.reduceAdd,Nat.beq]
  rw [ih _ (by simp only [hi1,au,Nat.reduceMul,Nat.reduceBEq,Nat.reduceLT,Nat.reduceLeDiff,reduceCtorEq,Nat.reduceEqDiff,Nat.reduceAdd,Nat.beq]<;>rfl)]
 ·intro rb
  have F1:(((8:Nat):Int)<8)=False:=eq_false (by omega)
  simp only [KX,F1,List.length_map,au,Nat.reduceMul,Nat.reduceBEq,Nat.reduceLT,Nat.reduceLeDiff,reduceCtorEq,Nat.reduceEqDiff,Nat.reduceAdd,Nat.beq]
theorem amA:cal env 97 []=some [(.list 1 ((kS 8).map eI),true)]:=by
 rw [ah alM rfl];simp only [abI,aB,Nat.reduceBEq,Nat.reduceLeDiff,Nat.reduceAdd,List.length_cons,List.length_nil]
 simp only [au,Nat.reduceMul,Nat.reduceBEq,Nat.reduceLT,Nat.reduceLeDiff,reduceCtorEq,Nat.reduceEqDiff,Nat.reduceAdd,Nat.beq]
 rw [ajV (by simp only [aB,bg,Nat.reduceMul,Nat.reduceBEq,Nat.reduceLT,Nat.reduceLeDiff,Nat.reduceAdd,decide_true,Bool.and_self,Bool.true_and]<;>rfl)]
 simp only [au,Nat.reduceMul,Nat.reduceBEq,Nat.reduceLT,Nat.reduceLeDiff,reduceCtorEq,Nat.reduceEqDiff,Nat.reduceAdd,Nat.beq]
end Go.Proofs.YtpcncggjmabnaaaGreatDoor.V

namespace Go.Proofs.YtpcncggjmabnaaaGreatDoor
open Go.RowKit Go.ChangeShapes Go.WideShapes Go.ChangeAt
theorem Qh {T:Tags} {w:World} {b:Bool} {v:Value} (h:tN T w [(.bool b,false)] v):v=.bool b:=by
 obtain ⟨arr,h1,h2,h3⟩:=h
 have ha:arr.size=1:=h1
 have e0:arr[0]?=some arr[0]:=Array.getElem?_eq_getElem (by omega)
 have hv:v=arr[0]:=by rw [h2,if_pos ha,Array.getD_eq_getD_getElem?,e0];rfl
 have hr:aK (fun b=>T b=.ro) w (.bool b) arr[0]:=h3 0 (.bool b,false) arr[0] rfl e0
 rw [hv]
 exact hr.l7
def LX (w:World):Prop:=kH (fun b=>if b<w.heap.size then .ro else .other) w
theorem UK {P:Program} {env:Env} {f:Nat} {args:List PV} {vs:List Value} {w:World} (hE:BG P env) (h:cal env f args=some [(.bool true,false)]) (hl:vs.length=args.length)
  (hr:∀ (i:Nat) x v,args[i]?=some x→vs[i]?=some v→aK (fun b=>b<w.heap.size) w x v) (hG:LX w):Calls P f vs.toArray w (fun e w'=>e=.returned (.bool true)∧Below w.heap.size w w'):=by
 obtain ⟨n,hn⟩:=nZ h
 have hC:=(wO hE hn).2 (fun b=>if b<w.heap.size then .ro else .other) w vs (fun b=>by
  by_cases hb:b<w.heap.size
  ·exact .inl (if_pos hb)
  ·exact .inr (if_neg hb)) (fun b hb=>if_neg (by omega)) hl (fun i x v hx hv=>(hr i x v hx hv).frame fun b hb _=>⟨if_pos hb,rfl⟩) hG
 refine hC.mono ?_
 rintro e w' ⟨v,T',rfl,h1,_,_,h2⟩
 exact ⟨by rw [Qh h2],h1⟩
def LY (w:World):List PV→List Value→Prop
 |[],[]=>True
 |x :: xs,v :: vs=>aK (fun b=>b<w.heap.size) w x v∧LY w xs vs
 |_,_=>False
theorem LY.get {w:World}:∀ {xs:List PV} {vs:List Value},LY w xs vs→vs.length=xs.length∧∀ (i:Nat) x v,xs[i]?=some x→vs[i]?=some v→aK (fun b=>b<w.heap.size) w x v
 |[],[],_=>⟨rfl,fun i x v hx=>by simp at hx⟩
 |x :: xs,v :: vs,h=>by
  obtain ⟨h1,h2⟩:=h
  obtain ⟨k1,k2⟩:=h2.get
  refine ⟨by simp [k1],fun i y u hy hu=>?_⟩
  cases i with
  |zero=>cases hy;cases hu;exact h1
  |succ i=>exact k2 i y u hy hu
 |[],_ :: _,h=>h.elim
 |_ :: _,[],h=>h.elim
theorem Y6 {P:Program} {env:Env} {f:Nat} {args:List PV} {vs:List Value} {w:World} (hE:BG P env) (h:cal env f args=some [(.bool true,false)]) (hr:LY w args vs) (hG:LX w:=by exact LX.none):Calls P f vs.toArray w (fun e w'=>e=.returned (.bool true)∧Below w.heap.size w w') :=
 UK hE h hr.get.1 hr.get.2 hG
def AP (w:World) (cs:List Value) (ps:List PV):Prop :=
 cs.length=ps.length∧(∀ c∈cs,c.oneCell'=true)∧∀ (j:Nat) x v,ps[j]?=some x→cs[j]?=some v→aK (fun b=>b<w.heap.size) w x v
def mY (P:Program) (t:TypeId) (n:Nat) (S:List PV→Prop):Prop :=
 P.cellsOf t=n∧∀ {H:Type} {enc:TypeId × Value→H} {w:World} {fuel:Nat} {cs:List Value} {x:DataW H × List MemPlace},DataW.trod enc P w 0 (fun _=>true) true fuel t cs=some x→∃ ps,S ps∧ps.length=n∧AP w cs ps
def SInt (k:IntKind) (ps:List PV):Prop:=∃ n,(Lit.int k n).wf=true∧ps=[.int k n]
def amB (ps:List PV):Prop:=∃ b,ps=[.bool b]
def ajW (n:Nat) (S:List PV→Prop) (ps:List PV):Prop:=ps.length=n∧∀ p∈ps,S [p]
def adu (n:Nat) (S:List PV→Prop) (wr:List PV→PV) (ps:List PV):Prop:=∃ es,ps=[.list n es]∧∀ x∈es,∃ q,S q∧x=wr q
def LZ:List (List PV→Prop)→List PV→Prop
 |[],ps=>ps=[]
 |S :: Ss,ps=>∃ p q,ps=p++q∧S p∧LZ Ss q
section
variable {P:Program} {t e:TypeId} {n m:Nat} {S:List PV→Prop} {k:IntKind}
theorem sG {w:World} {c:Value} {p:PV} (hc:c.oneCell'=true) (h:aK (fun b=>b<w.heap.size) w p c):AP w [c] [p] :=
 ⟨rfl,fun x hx=>by rw [List.mem_singleton.1 hx];exact hc,fun j x v hx hv=>by
  cases j with
  |zero=>cases hx;cases hv;exact h
  |succ j=>simp at hx⟩
theorem mY.int (ht:P.underlying t=some (.int k)) (hc:P.cellsOf t=1):mY P t 1 (SInt k):=⟨hc,fun h=>by
 obtain ⟨n,rfl,_,hw⟩:=DataW.trod_int ht h
 exact ⟨[.int k n],⟨n,hw,rfl⟩,rfl,sG rfl (.int k n)⟩⟩
theorem mY.bool (ht:P.underlying t=some .bool) (hc:P.cellsOf t=1):mY P t 1 amB:=⟨hc,fun h=>by
 obtain ⟨b,rfl,_⟩:=DataW.trod_bool ht h
 exact ⟨[.bool b],⟨b,rfl⟩,rfl,sG rfl (.bool b)⟩⟩
theorem wZ {α:Type} {p:Nat→α→Prop}:∀ n:Nat,(∀ i,i<n→∃ y,p i y)→∃ l:List α,l.length=n∧∀ i x,l[i]?=some x→p i x
 |0,_=>⟨[],rfl,fun i x h=>by simp at h⟩
 |n+1,h=>by
  obtain ⟨l,h1,h2⟩:=wZ n fun i hi=>h i (by omega)
  obtain ⟨y,hy⟩:=h n (by omega)
  refine ⟨l++[y],by simp [h1],fun i x hx=>?_⟩
  by_cases hi:i<n
  ·rw [List.getElem?_append_left (by omega)] at hx;exact h2 i x hx
  ·have:=(List.getElem?_eq_some_iff.1 hx).1
   obtain rfl:i=n:=by simp at this;omega
   rw [List.getElem?_append_right (by omega),h1,Nat.sub_self] at hx
   cases hx
   exact hy
theorem mY.arr (ht:P.underlying t=some (.array n e)) (he:mY P e 1 S) (hc:P.cellsOf t=n):mY P t n (ajW n S):=⟨hc,fun {H enc w fuel cs x} h=>by
 obtain ⟨xs,m,_,_,hl,hx,hE⟩:=DataW.trod_array ht h
 rw [hc] at hl
 obtain ⟨l,h1,h2⟩:=wZ (p:=fun i (b:PV)=>S [b]∧∃ c,cs[i]?=some c∧c.oneCell'=true∧aK (fun b=>b<w.heap.size) w b c) n fun i hi=>by
  have:=hE i hi
  rw [List.getElem?_eq_getElem (by omega),he.1] at this
  obtain ⟨ps,g1,g2,g3,g4,g5⟩:=he.2 this
  match ps,g2 with
  |[p],_ =>
   have hci:cs[i]?=some cs[i]:=List.getElem?_eq_getElem (by omega)
   have h0:((cs.drop (i * 1)).take 1)[0]?=some cs[i]:=by
    rw [List.getElem?_take,if_pos (by decide),List.getElem?_drop]
    simpa using hci
   exact ⟨p,g1,cs[i],hci,g4 _ (List.mem_of_getElem? h0),g5 0 p _ rfl h0⟩
 refine ⟨l,⟨h1,fun p hp=>?_⟩,h1,by omega,fun c hc=>?_,fun j x v hx hv=>?_⟩
 ·obtain ⟨i,hi⟩:=List.mem_iff_getElem?.1 hp
  exact (h2 i p hi).1
 ·obtain ⟨i,hi⟩:=List.mem_iff_getElem?.1 hc
  have hil:i<l.length:=by
   have:=(List.getElem?_eq_some_iff.1 hi).1
   omega
  obtain ⟨_,c',e1,e2,_⟩:=h2 i l[i] (List.getElem?_eq_getElem hil)
  rw [hi] at e1;cases e1;exact e2
 ·obtain ⟨_,c',e1,_,e3⟩:=h2 j x hx
  rw [hv] at e1;cases e1;exact e3⟩
theorem yh {w:World} {b off:Nat} {v:Value} (h:w.cell? ⟨b,off,none⟩=some v):cu w b:=by
 unfold World.cell? at h
 split at h
 ·rename_i arr E q hb
  exact ⟨arr,E,q,hb⟩
 ·cases h
theorem mY.list {wr:List PV→PV} (ht:P.underlying t=some (.slice e)) (hc:P.cellsOf t=1) (hr:mY P e n S) (hpos:0<n) (hw:∀ ps,S ps→ps.length=n→(wr ps).cells=ps):mY P t 1 (adu n S wr):=⟨hc,fun {H enc w fuel cs x} h=>by
 rcases DataW.trod_slice ht h with ⟨rfl,_⟩|⟨a,len,cap,elems,rest,m,_,rfl,_,_,hl,hm,hel,hE,hR,_⟩
 ·exact ⟨[.list n []],⟨[],rfl,fun x hx=>by cases hx⟩,rfl,sG rfl (.nil n none)⟩
 ·obtain ⟨l,h1,h2⟩:=wZ (p:=fun i (y:List Value × List PV)=>w.cells? 0 (a.add (i * n)) n=some y.1∧S y.2∧y.2.length=n∧AP w y.1 y.2) len fun i hi=>by
   have:=hE i hi
   rw [List.getElem?_eq_getElem (by omega),hr.1,Option.bind_eq_some_iff] at this
   obtain ⟨c,h3,h4⟩:=this
   obtain ⟨ps,g1,g2,g3⟩:=hr.2 h4
   exact ⟨(c,ps),h3,g1,g2,g3⟩
  refine ⟨[.list n (l.map fun y=>wr y.2)],⟨_,rfl,fun x hx=>?_⟩,rfl,sG rfl ?_⟩
  ·obtain ⟨y,hy,rfl⟩:=List.mem_map.1 hx
   obtain ⟨i,hi⟩:=List.mem_iff_getElem?.1 hy
   exact ⟨y.2,(h2 i y hi).2.1,rfl⟩
  ·by_cases hcap:cap=0
   ·have:len=0:=by omega
    subst hcap;subst this
    have:l=[]:=List.eq_nil_of_length_eq_zero h1
    subst this
    exact .nil n (some a)
   ·-- there are cells
    have hcell:∃ off v,w.cell? ⟨a.block,off,none⟩=some v∧a.spot=none:=by
     have Qi:∀ (i:Nat) (c:List Value),w.cells? 0 (a.add (i * n)) n=some c→∃ off v,w.cell? ⟨a.block,off,none⟩=some v∧a.spot=none:=fun i c h3=>by
      obtain ⟨_,hc0,h4⟩:=World.cells?_some h3
      have h5:=h4 0 hpos
      rw [List.getElem?_eq_getElem (by omega)] at h5
      have hs:(a.add (i * n)).spot=none:=by simpa [Addr.add] using World.cell?_spot h5
      have hs0:a.spot=none:=by
       unfold Addr.add at hs
       split at hs
       ·exact hs
       ·rename_i hne
        by_cases h0:i * n=0
        ·rename_i q;exact absurd h0 (by simpa using hne)
        ·rcases Nat.eq_zero_or_pos i with hi0|hi0
         ·subst hi0;simp at h0
         ·-- the row begins at a: its first cell
          have:0<len∨len=0:=by omega
          rcases this with hlen|hlen
          ·obtain ⟨y,hy⟩:∃ y,l[0]?=some y:=⟨l[0],List.getElem?_eq_getElem (by omega)⟩
           obtain ⟨_,hc1,h6⟩:=World.cells?_some (h2 0 y hy).1
           have h7:=h6 0 hpos
           rw [List.getElem?_eq_getElem (by omega)] at h7
           simpa [Addr.add] using World.cell?_spot h7
          ·have hrl:0<rest.length:=by have:=(hR rfl).1;omega
           have:=(hR rfl).2 0 (by omega)
           have h8:rest[0]?=some rest[0]:=List.getElem?_eq_getElem hrl
           rw [h8,hr.1,hlen,Option.bind_eq_some_iff] at this
           obtain ⟨c1,h9,_⟩:=this
           obtain ⟨_,hc1,h6⟩:=World.cells?_some h9
           have h7:=h6 0 hpos
           rw [List.getElem?_eq_getElem (by omega)] at h7
           simpa [Addr.add] using World.cell?_spot h7
      obtain ⟨b,off,spot⟩:=a
      simp only at hs0
      subst hs0
      rw [Addr.add_lit,Addr.add_lit] at h5
      exact ⟨_,_,h5,rfl⟩
     rcases Nat.eq_zero_or_pos len with hlen|hlen
     ·have hrl:0<rest.length:=by have:=(hR rfl).1;omega
      have:=(hR rfl).2 0 (by omega)
      have h8:rest[0]?=some rest[0]:=List.getElem?_eq_getElem hrl
      rw [h8,hr.1,Option.bind_eq_some_iff] at this
      obtain ⟨c1,h9,_⟩:=this
      exact Qi _ c1 h9
     ·obtain ⟨y,hy⟩:∃ y,l[0]?=some y:=⟨l[0],List.getElem?_eq_getElem (by omega)⟩
      exact Qi 0 _ (h2 0 y hy).1
    obtain ⟨aoG,v0,hv0,hspot⟩:=hcell
    obtain ⟨b,off,spot⟩:=a
    simp only at hspot hv0
    subst hspot
    have hC:cu w b:=yh hv0
    have hget:∀ (i:Nat) x,(l.map fun y=>wr y.2)[i]?=some x→∃ y,l[i]?=some y∧x=wr y.2:=fun i x hx=>by
     rw [List.getElem?_map] at hx
     cases e:l[i]? with
     |none=>rw [e] at hx;cases hx
     |some y=>rw [e] at hx;exact ⟨y,rfl,(Option.some.inj hx).symm⟩
    have hlen:(l.map fun y=>wr y.2).length=len:=by simp [h1]
    have:=aK.list (ok:=fun b=>b<w.heap.size) (w:=w) n (l.map fun y=>wr y.2) b off cap (fun i j=>(((l[i]?).map (·.1)).getD []).getD j default) hC.lt hC (by rw [hlen];exact hl) hm
     (fun x hx=>by
      obtain ⟨i,hi⟩:=List.mem_iff_getElem?.1 hx
      obtain ⟨y,hy,rfl⟩:=hget i x hi
      obtain ⟨_,g1,g2,_⟩:=h2 i y hy
      rw [hw _ g1 g2,g2])
     (fun i x j p hi hj=>by
      obtain ⟨y,hy,rfl⟩:=hget i x hi
      obtain ⟨g0,g1,g2,g3,g4,g5⟩:=h2 i y hy
      rw [hw _ g1 g2] at hj
      have hjn:j<n:=by have:=(List.getElem?_eq_some_iff.1 hj).1;omega
      obtain ⟨_,hc1,h6⟩:=World.cells?_some g0
      have h7:=h6 j hjn
      have hcj:y.1[j]?=some y.1[j]:=List.getElem?_eq_getElem (by omega)
      have hd:(((l[i]?).map (·.1)).getD []).getD j default=y.1[j]:=by
       rw [hy];simp [List.getD_eq_getElem?_getD,hcj]
      rw [hd]
      rw [hcj,Addr.add_lit,Addr.add_lit] at h7
      exact ⟨h7,g4 _ (List.mem_of_getElem? hcj)⟩)
     (fun i x j p hi hj=>by
      obtain ⟨y,hy,rfl⟩:=hget i x hi
      obtain ⟨g0,g1,g2,g3,g4,g5⟩:=h2 i y hy
      rw [hw _ g1 g2] at hj
      have hjn:j<n:=by have:=(List.getElem?_eq_some_iff.1 hj).1;omega
      have hcj:y.1[j]?=some y.1[j]:=List.getElem?_eq_getElem (by omega)
      have hd:(((l[i]?).map (·.1)).getD []).getD j default=y.1[j]:=by
       rw [hy];simp [List.getD_eq_getElem?_getD,hcj]
      rw [hd]
      exact g5 j p _ hj hcj)
    rw [hlen] at this
    exact this⟩
theorem AP.append {w:World} {c1 c2:List Value} {p1 p2:List PV} (h1:AP w c1 p1) (h2:AP w c2 p2):AP w (c1++c2) (p1++p2):=by
 obtain ⟨a1,a2,a3⟩:=h1
 obtain ⟨b1,b2,b3⟩:=h2
 refine ⟨by simp [a1,b1],fun c hc=>?_,fun j x v hx hv=>?_⟩
 ·rcases List.mem_append.1 hc with h|h
  ·exact a2 c h
  ·exact b2 c h
 ·by_cases hj:j<p1.length
  ·rw [List.getElem?_append_left hj] at hx
   rw [List.getElem?_append_left (by omega)] at hv
   exact a3 j x v hx hv
  ·rw [List.getElem?_append_right (by omega)] at hx
   rw [List.getElem?_append_right (by omega),a1] at hv
   exact b3 _ x v hx hv
inductive UL (P:Program):Nat→List Field→List (List PV→Prop)→Nat→Prop
 |nil (o:Nat):UL P o [] [] 0
 |cons {o n m:Nat} {f:Field} {fs:List Field} {S:List PV→Prop} {Ss:List (List PV→Prop)}:f.offset=o→mY P f.type n S→UL P (o+n) fs Ss m→UL P o (f :: fs) (S :: Ss) (n+m)
theorem UL.read {o:Nat} {fs:List Field} {Ss:List (List PV→Prop)} (h:UL P o fs Ss m) {H:Type} {enc:TypeId × Value→H} {w:World} {fuel:Nat} {cs:List Value} {xs:List (DataW H × List MemPlace)} (hl:cs.length=o+m)
  (hx:∀ (i:Nat) (f:Field),fs[i]?=some f→∃ x,DataW.trod enc P w 0 (fun _=>true) true fuel f.type ((cs.drop f.offset).take (P.cellsOf f.type))=some x):∃ ps,LZ Ss ps∧ps.length=m∧AP w (cs.drop o) ps:=by
 induction h with
 |nil o=>exact ⟨[],rfl,rfl,by rw [List.drop_of_length_le (by omega)];exact (⟨rfl,fun c hc=>(by cases hc),fun j x v hx=>(by simp at hx)⟩:AP w [] [])⟩
 |@cons o n m f fs S Ss h1 h2 h3 ih =>
  obtain ⟨x,h4⟩:=hx 0 f rfl
  rw [h2.1,h1] at h4
  obtain ⟨p,g1,g2,g3⟩:=h2.2 h4
  obtain ⟨q,k1,k2,k3⟩:=ih (by omega) (fun i f hf=>hx (i+1) f hf)
  refine ⟨p++q,⟨p,q,rfl,g1,k1⟩,by simp [g2,k2],?_⟩
  have:cs.drop o=(cs.drop o).take n++cs.drop (o+n):=by rw [← List.drop_drop,List.take_append_drop]
  rw [this]
  exact g3.append k3
theorem mY.struct {fs:Array Field} {Ss:List (List PV→Prop)} (ht:P.underlying t=some (.struct fs)) (hf:UL P 0 fs.toList Ss n) (hc:P.cellsOf t=n):mY P t n (LZ Ss):=⟨hc,fun {H enc w fuel cs x} h=>by
 obtain ⟨xs,m,_,_,hl,hx,hE⟩:=DataW.trod_struct ht h
 obtain ⟨ps,h1,h2,h3⟩:=hf.read (xs:=xs) (enc:=enc) (w:=w) (fuel:=m) (cs:=cs) (by omega) (fun i f hi=>by
  have hi':fs[i]?=some f:=by simpa using hi
  have:=hE i f hi'
  have hil:i<xs.length:=by rw [hx];exact (Array.getElem?_eq_some_iff.1 hi').1
  exact ⟨xs[i],by rw [this,List.getElem?_eq_getElem hil]⟩)
 exact ⟨ps,h1,h2,by simpa using h3⟩⟩
theorem mY.L6 {f0 f1 f2:Field} {n0 n1 n2:Nat} {S0 S1 S2:List PV→Prop} (ht:P.underlying t=some (.struct #[f0,f1,f2])) (h0:mY P f0.type n0 S0) (h1:mY P f1.type n1 S1) (h2:mY P f2.type n2 S2) (o0:f0.offset=0) (o1:f1.offset=0+n0) (o2:f2.offset=0+n0+n1) (hc:P.cellsOf t=n0+(n1+(n2+0))):mY P t (n0+(n1+(n2+0))) (LZ [S0,S1,S2]) :=
 mY.struct ht (show UL P 0 [f0,f1,f2] [S0,S1,S2] (n0+(n1+(n2+0))) from .cons o0 h0 (.cons o1 h1 (.cons o2 h2 (.nil _)))) hc
theorem agB {H:Type} {enc:TypeId × Value→H} {w:World} {v:Value} {d:DataW H} {p:List MemPlace} (hr:mY P t 1 S) (hone:v.cells.toList=[v]) (h:DataW.Trod enc P w 0 (fun _=>true) true t v d p) :
  ∃ q,S [q]∧aK (fun b=>b<w.heap.size) w q v:=by
 obtain ⟨fuel,hf⟩:=h
 obtain ⟨ps,h1,h2,h3,h4,h5⟩:=hr.2 hf
 match ps,h2 with
 |[q],_=>exact ⟨q,h1,h5 0 q v rfl (by rw [hone];rfl)⟩
theorem agC {H:Type} {enc:TypeId × Value→H} {w:World} {v:Value} {d:DataW H} {p:List MemPlace} {m:Reach} {base:Nat} (ht:P.underlying t=some (.int k)) (hr:mY P t 1 S) (hv:Value.okWide P w m base t v) (h:DataW.Trod enc P w 0 (fun _=>true) true t v d p) :
  ∃ q,S [q]∧aK (fun b=>b<w.heap.size) w q v:=by
 have:v.cells.toList=[v]:=by
  simp only [Value.okWide,ht,Cell.okWide] at hv
  cases v<;>simp_all [Cell.ok,Value.cells]
 exact agB hr this h
end
end Go.Proofs.YtpcncggjmabnaaaGreatDoor

namespace Go.Proofs.YtpcncggjmabnaaaGreatDoor
open Go.RowKit
structure rE (W:World) (g:Nat) where
 w:World
 grown:W.grownBy w (some g)
instance (W:World) (g:Nat):Nonempty (rE W g):=⟨⟨W,World.grownBy.refl _ _⟩⟩
theorem rE.of {W w:World} {g:Nat} (h:W.grownBy w (some g)):∃ x:rE W g,w=x.w:=⟨⟨w,h⟩,rfl⟩
theorem grown_drew (W:World) (row:Option Nat):W.grownBy W.drew row:=⟨rfl,rfl,rfl,Nat.le_refl _,fun _ _ _=>rfl⟩
theorem rE.drew (W:World) (g:Nat):∃ x:rE W g,W.drew=x.w:=rE.of (grown_drew _ _)
theorem uD {w:World} {g:Nat} {a:Addr} {v:Value} (h:w.cell? a=some v) (hne:a.block≠g):∀ x:rE w g,x.w.cell? a=some v:=fun x =>
 x.grown.cell h fun e=>hne (Option.some.inj e)
theorem Qj {a b c:World} {row:Option Nat} (h:a.grownBy b row) (k:b.grownBy c row):a.grownBy c row :=
 ⟨k.os.trans h.os,k.tape.trans h.tape,k.output.trans h.output,Nat.le_trans h.size k.size,fun i hi hr=>(k.block i (Nat.lt_of_lt_of_le hi h.size) hr).trans (h.block i hi hr)⟩
theorem grown_below {B:Nat} {w w':World} {row:Option Nat} (h:w.grownBy w' row) (hB:B≤w.heap.size) (hr:∀ k,row=some k→B≤k):Below B w w':=(Below.refl B w).grown h hB hr
theorem below_grown {w w':World} (h:Below w.heap.size w w'):w.grownBy w' none:=⟨h.os,h.tape,h.output,h.size,fun k hk _=>h.block k hk⟩
theorem L8 {w w1:World} {cs:Array Value} {T:TypeId} (hb:Below (w.alloc (.cells cs T)).heap.size (w.alloc (.cells cs T)) w1) {j:Nat} {v:Value} (h:cs[j]?=some v):w1.cell? ⟨w.heap.size,j,none⟩=some v:=by
 rw [hb.cell (p:=⟨w.heap.size,j,none⟩) (by simp),World.cell?_alloc_mark w cs T (0,0) j,h]
theorem Qk (w:World) (E:TypeId) (cs:Array Value):∀ j u,cs.toList[j]?=some u→(w.alloc (.cells cs E)).cell? ((⟨w.heap.size,0,none⟩:Addr).add j)=some u:=fun j u hu=>by
 rw [Addr.add_lit,Nat.zero_add,World.cell?_alloc_mark w cs E (0,0) j]
 simpa using hu
theorem adv {α:Type} {r:Rep α} {ok:Nat→Prop} {w w':World} {cs:List Value} {x:α} (h:r.rd ok w cs x) (hb:Below w.heap.size w w'):r.rd ok w' cs x :=
 r.mono (fun _ hb=>hb.1) (r.frame (fun b hb'=>hb.block b hb'.2) (r.live h))
theorem Ql {α:Type} {r:Rep α} {ok:Nat→Prop} {w:World} {cs:List Value} {x:α} (h:r.rd ok w cs x) {o:Obj}:r.rd ok (w.alloc o) cs x:=adv h ((Below.refl _ _).alloc (Nat.le_refl _) _)
def dF {α:Type} (r:Rep α) (tag:Nat→Nat) (ok:Nat→Prop) (w:World):Nat→List Value→List α→Prop
 |_,xs,[]=>xs=[]
 |i,xs,x :: l=>∃ c rest,xs=c++rest∧r.rd (fun b=>ok b∧tag b=i) w c x∧dF r tag ok w (i+1) rest l
section
variable {α:Type} {r:Rep α} {tag tag':Nat→Nat} {ok ok':Nat→Prop} {w w':World}
theorem dF.mono (hk:∀ b,ok b→ok' b):∀ {l:List α} {i:Nat} {xs:List Value},dF r tag ok w i xs l→dF r tag ok' w i xs l
 |[],_,_,h=>h
 |_ :: _,_,_,⟨c,rest,e,h1,h2⟩=>⟨c,rest,e,r.mono (fun b hb=>⟨hk b hb.1,hb.2⟩) h1,h2.mono hk⟩
theorem dF.retag (hk:∀ b,ok b→tag' b=tag b):∀ {l:List α} {i:Nat} {xs:List Value},dF r tag ok w i xs l→dF r tag' ok w i xs l
 |[],_,_,h=>h
 |_ :: _,_,_,⟨c,rest,e,h1,h2⟩=>⟨c,rest,e,r.mono (fun b hb=>⟨hb.1,by rw [hk b hb.1];exact hb.2⟩) h1,h2.retag hk⟩
theorem dF.live:∀ {l:List α} {i:Nat} {xs:List Value},dF r tag ok w i xs l→dF r tag (fun b=>ok b∧b<w.heap.size) w i xs l
 |[],_,_,h=>h
 |_ :: _,_,_,⟨c,rest,e,h1,h2⟩=>⟨c,rest,e,r.mono (fun b hb=>⟨⟨hb.1.1,hb.2⟩,hb.1.2⟩) (r.live h1),h2.live⟩
theorem dF.frame (hf:∀ b,ok b→w'.heap[b]?=w.heap[b]?):∀ {l:List α} {i:Nat} {xs:List Value},dF r tag ok w i xs l→dF r tag ok w' i xs l
 |[],_,_,h=>h
 |_ :: _,_,_,⟨c,rest,e,h1,h2⟩=>⟨c,rest,e,r.frame (fun b hb=>hf b hb.1) h1,h2.frame hf⟩
theorem dF.chunks:∀ {l:List α} {i:Nat} {xs:List Value},dF r tag ok w i xs l→Chunks r ok w xs l
 |[],_,_,h=>h
 |_ :: _,_,_,⟨c,rest,e,h1,h2⟩=>⟨c,rest,e,r.mono (fun b hb=>hb.1) h1,h2.chunks⟩
theorem dF.snoc {c:List Value} {x:α}:∀ {l:List α} {i:Nat} {xs:List Value},dF r tag ok w i xs l→r.rd (fun b=>ok b∧tag b=i+l.length) w c x→dF r tag ok w i (xs++c) (l++[x])
 |[],i,xs,h,hc=>by
  simp only [dF] at h
  subst h
  exact ⟨c,[],by simp,by simpa using hc,rfl⟩
 |y :: l,i,xs,⟨d,rest,e,h1,h2⟩,hc=>⟨d,rest++c,by rw [e,List.append_assoc],h1,h2.snoc (by rw [List.length_cons] at hc;rw [show i+1+l.length=i+(l.length+1) by omega];exact hc)⟩
theorem dF.pick:∀ {l:List α} {i:Nat} {xs:List Value},dF r tag ok w i xs l→∀ {k:Nat} {x:α},l[k]?=some x →
  ∃ c,(∀ j,j<r.sz→xs[k * r.sz+j]?=c[j]?)∧r.rd (fun b=>ok b∧tag b=i+k) w c x ∧
   ∀ (w':World) (x':α),(∀ b,ok b→tag b≠i+k→w'.heap[b]?=w.heap[b]?)→r.rd (fun b=>ok b∧tag b=i+k) w' c x'→dF r tag ok w' i xs (l.set k x')
 |[],_,_,_,k,x,hx=>by simp at hx
 |y :: l,i,xs,⟨c,rest,e,h1,h2⟩,0,x,hx=>by
  simp only [List.getElem?_cons_zero,Option.some.injEq] at hx
  subst hx
  refine ⟨c,fun j hj=>by rw [e,Nat.zero_mul,Nat.zero_add,List.getElem?_append_left (by rw [r.len h1];exact hj)],h1,fun w' x' hf hr=>?_⟩
  refine ⟨c,rest,e,hr,?_⟩
  -- the tail's elements bear other tags
  have:∀ {l:List α} {m:Nat} {xs:List Value},i<m→dF r tag ok w m xs l→dF r tag ok w' m xs l:=by
   intro l
   induction l with
   |nil=>intro m xs _ h;exact h
   |cons z l ih =>
    intro m xs hm h
    obtain ⟨d,rs,e',h3,h4⟩:=h
    exact ⟨d,rs,e',r.frame (fun b hb=>hf b hb.1 (by rw [hb.2];omega)) h3,ih (by omega) h4⟩
  exact this (Nat.lt_succ_self _) h2
 |y :: l,i,xs,⟨c,rest,e,h1,h2⟩,k+1,x,hx=>by
  obtain ⟨d,h3,h4,h5⟩:=h2.pick (k:=k) (x:=x) (by simpa using hx)
  have ei:i+1+k=i+(k+1):=by omega
  refine ⟨d,fun j hj=>?_,by rw [← ei];exact h4,fun w' x' hf hr=>?_⟩
  ·rw [e,List.getElem?_append_right (by rw [r.len h1,Nat.add_mul];omega),r.len h1,← h3 j hj]
   congr 1
   rw [Nat.add_mul];omega
  ·refine ⟨c,rest,e,r.frame (fun b hb=>hf b hb.1 (by rw [hb.2];omega)) h1,?_⟩
   exact h5 w' x' (fun b hb hne=>hf b hb (by rw [← ei];exact hne)) (by rw [ei];exact hr)
end
def kT {α:Type} (r:Rep α) (B F:Nat) (E:TypeId) (w:World) (v:Value) (l:List α):Prop :=
 ∃ tag xs,w.ownsRow B E r.sz v l.length xs∧dF r tag (fun b=>B≤b∧b<F∧Option.some b≠v.ownBlock) w 0 xs l
section
variable {α:Type} {r:Rep α} {B F:Nat} {E:TypeId} {w w':World} {v:Value} {l:List α}
theorem kT.nil (r:Rep α) (B F:Nat) (E:TypeId) (w:World):kT r B F E w (.slice none 0 0) []:=⟨fun _=>0,[],World.ownsRow_nil _ _ _ _,rfl⟩
theorem kT.up {F':Nat} (h:kT r B F E w v l) (hF:F≤F'):kT r B F' E w v l :=
 let ⟨tag,xs,h1,h2⟩:=h;⟨tag,xs,h1,h2.mono fun _ hb=>⟨hb.1,Nat.lt_of_lt_of_le hb.2.1 hF,hb.2.2⟩⟩
theorem kT.live (h:kT r B F E w v l):kT r B w.heap.size E w v l :=
 let ⟨tag,xs,h1,h2⟩:=h;⟨tag,xs,h1,h2.live.mono fun _ hb=>⟨hb.1.1,hb.2,hb.1.2.2⟩⟩
theorem kT.lt (h:kT r B F E w v l):∀ k,v.ownBlock=some k→B≤k∧k<w.heap.size:=let ⟨_,_,h1,_⟩:=h;h1.lt
theorem kT.below (h:kT r B F E w v l) (hb:Below w.heap.size w w'):kT r B F E w' v l:=by
 obtain ⟨tag,xs,h1,h2⟩:=h
 exact ⟨tag,xs,h1.kept (below_grown hb) (by cases v.ownBlock<;>simp),(dF.frame (fun b hb'=>hb.block b hb'.2) h2.live).mono fun b hb=>hb.1⟩
theorem kT.own (h:kT r B F E w v l):Own r B E (B≤·) w v l :=
 let ⟨_,xs,h1,h2⟩:=h;⟨xs,h1,h2.chunks.mono fun _ hb=>⟨hb.1,hb.2.2⟩⟩
theorem kT.sl (h:kT r B F E w v l):∃ a n c,v=.slice a n c∧Sl r (B≤·) w a n c l :=
 let ⟨a,n,c,e,h⟩:=h.own.sl;⟨a,n,c,e,h.mono fun _ hb=>hb.elim id id⟩
theorem BO {P:Program} {ops:Array Oper} {rest:List Oper} {o:Oper} {a:Act} {Q:Exit→Act→World→Prop} {T bytes:Nat} {z:Value} (ht:pV P T E r.sz bytes z) (hgd:o.guard=none) (s x:Operand)
  (ho:o.op=.call { callee:=.builtin .append,args:=#[s,x],argTypes:=#[T,T] }) (hs:a.eval s=v) (h:kT r B F E w v l) {ad:Addr} {c:Nat} (hx:a.eval x=.slice (some ad) 1 c)
  {y:α} {news:List Value} (hnews:∀ j u,news[j]?=some u→w.cell? (ad.add j)=some u) (hrd:r.rd (F≤·) w news y) (hown:∀ k,v.ownBlock=some k→k<F)
  (h63:l.length+1≤maxLen) (hby:(l.length+1) * bytes≤140737488355328) (hB:B≤F) (hF:F≤w.heap.size)
  (hk:∀ v' w',kT r B w'.heap.size E w' v' (l++[y])→w.grownBy w' v.ownBlock→(v'.ownBlock=v.ownBlock∨v'.ownBlock=some w.heap.size)→wpList P ops Q rest (a.put o.dst v') w'):wpList P ops Q (o :: rest) a w:=by
 refine wpList_plain hgd fun K hK=>?_
 obtain ⟨i,hi,hz0,hz1,hz2⟩:=info_parts ht.i
 obtain ⟨tag,xs,h1,h2⟩:=h
 obtain ⟨v',w',hr,h3,h4,_,h6⟩:=run_append_own_at (P:=P) w B T o.type E i z r.sz bytes ht.u hi hz0 hz1 hz2 ht.zs ht.pos v l.length xs h1 ad 1 c news (by rw [r.len hrd];simp) hnews (r.one hrd) h63 hby (by omega)
 unfold Oper.wp execOp
 simp only [ho,resolve,invoke,builtin,Sem.run_bind,Sem.run_pure,Result.andThen_ok,List.map_toArray,List.map_cons,List.map_nil,hs,hx,hr]
 refine hK _ _ (hk v' w' ?_ h4 h6)
 refine ⟨fun b=>if F≤b then l.length else tag b,xs++news,by rw [List.length_append];exact h3,?_⟩
 have hne:∀ b,b<w.heap.size→Option.some b≠v.ownBlock→Option.some b≠v'.ownBlock:=fun b hb hn=>by
  rcases h6 with h6|h6
  ·rw [h6];exact hn
  ·rw [h6];intro e;have:=Option.some.inj e;omega
 refine dF.snoc ?_ ?_
 ·have e1:dF r (fun b=>if F≤b then l.length else tag b) (fun b=>B≤b∧b<F∧Option.some b≠v.ownBlock) w 0 xs l:=h2.retag fun b hb=>by
   show (if F≤b then l.length else tag b)=tag b
   rw [if_neg (by omega)]
  refine (dF.frame (fun b hb=>h4.block b (by omega) hb.2.2) e1).mono fun b hb=>⟨hb.1,Nat.lt_of_lt_of_le hb.2.1 (Nat.le_trans hF h4.size),hne b (by omega) hb.2.2⟩
 ·have hno:∀ b,F≤b→Option.some b≠v.ownBlock:=fun b hb e=>by have:=hown b e.symm;omega
  refine r.mono (fun b hb=>⟨⟨by omega,Nat.lt_of_lt_of_le hb.2 h4.size,hne b hb.2 (hno b hb.1)⟩,?_⟩) (r.frame (fun b hb=>h4.block b hb.2 (hno b hb.1)) (r.live hrd))
  show (if F≤b then l.length else tag b)=0+l.length
  rw [if_pos hb.1,Nat.zero_add]
def adw {α:Type} (r:Rep α) (ok:Nat→Prop) (w:World) (l:List α) (err:Int):Ending→World→Prop:=fun e w' =>
 ∃ a n c,e=.returned (.tuple #[.slice a n c,.int .i64 err])∧Sl r ok w' a n c l∧Below w.heap.size w w'
theorem adw.mk {α:Type} {r:Rep α} {ok:Nat→Prop} {w w':World} {l:List α} {err err':Int} {a:Option Addr} {n c:Nat} (he:err'=err) (h:Sl r ok w' a n c l) (hB:Below w.heap.size w w') :
  adw r ok w l err (.returned (.tuple #[.slice a n c,.int .i64 err'])) w':=⟨a,n,c,by rw [he],h,hB⟩
theorem Sl.nil0 {α:Type} (r:Rep α) (ok:Nat→Prop) (w:World):Sl r ok w none 0 0 []:=⟨rfl,Nat.le_refl _,Nat.zero_le _,fun _=>rfl,.inl rfl⟩
def Flat {α:Type} (r:Rep α):Prop:=∀ {ok ok':Nat→Prop} {w w':World} {cs:List Value} {x:α},r.rd ok w cs x→r.rd ok' w' cs x
theorem Flat.int:Flat uQ:=fun h=>h
theorem Flat.sec:Flat yx:=fun h=>h
theorem Flat.u8:Flat u8R:=fun h=>h
theorem Flat.u64:Flat aof:=fun h=>h
theorem Flat.bool:Flat akN:=fun h=>h
theorem Chunks.flat {α:Type} {r:Rep α} (hf:Flat r) {ok ok':Nat→Prop} {w w':World}:∀ {l:List α} {xs:List Value},Chunks r ok w xs l→Chunks r ok' w' xs l
 |[],_,h=>h
 |_ :: _,_,⟨c,rest,e,h1,h2⟩=>⟨c,rest,e,hf h1,h2.flat hf⟩
theorem Src.flat {α:Type} {r:Rep α} (hf:Flat r) {ok ok':Nat→Prop} {w:World} {ao:Option Addr} {m c:Nat} {ys:List α} (h:Src r ok w ao m c ys):Src r ok' w ao m c ys :=
 let ⟨h1,h2,news,h3,h4⟩:=h;⟨h1,h2,news,h3,h4.flat hf⟩
theorem Own.agD {α:Type} (r:Rep α) {B:Nat} {E:TypeId} {ok:Nat→Prop} {w:World} (hB:B≤w.heap.size):Own r B E ok (w.alloc (.cells #[] E)) (.slice (some ⟨w.heap.size,0,none⟩) 0 0) [] :=
 ⟨[],World.ownsRow_lit w #[] 0 hB (Nat.zero_le _) (by simp),rfl⟩
theorem kT.at (h:kT r B F E w v l) {k:Nat} {x:α} (hx:l[k]?=some x) :
  ∃ g cap c,∃ okk:Nat→Prop,v=.slice (some ⟨g,0,none⟩) l.length cap∧B≤g∧g<w.heap.size∧(∀ j,j<r.sz→w.cell? ⟨g,k * r.sz+j,none⟩=c[j]?)∧r.rd okk w c x∧(∀ b,okk b→B≤b∧b<F∧b≠g) ∧
   ∀ (w':World) (x':α),(∀ b,b<w.heap.size→¬ okk b→w'.heap[b]?=w.heap[b]?)→w'.os=w.os→w'.tape=w.tape→w'.output=w.output→w.heap.size≤w'.heap.size→r.rd okk w' c x'→kT r B F E w' v (l.set k x'):=by
 obtain ⟨tag,xs,h1,h2⟩:=h
 have hk:=(List.getElem?_eq_some_iff.1 hx).1
 obtain ⟨g,cap,rfl,hBg,hg⟩:∃ g cap,v=.slice (some ⟨g,0,none⟩) l.length cap∧B≤g∧g<w.heap.size:=by
  rcases h1.2 with ⟨_,h0⟩|⟨g,cap,cur,hv,hb,hg,_⟩
  ·omega
  ·exact ⟨g,cap,hv,hb,(Array.getElem?_eq_some_iff.1 hg).1⟩
 obtain ⟨c,h3,h4,h5⟩:=h2.live.pick hx
 refine ⟨g,cap,c,_,rfl,hBg,hg,fun j hj=>?_,h4,fun b hb=>⟨hb.1.1.1,hb.1.1.2.1,fun e=>hb.1.1.2.2 (by rw [e];rfl)⟩,fun w' x' hf hos htp hout hsz hr=>?_⟩
 ·rw [← h3 j hj,h1.cellAt]
  calc k * r.sz+j<k * r.sz+r.sz:=by omega
   _=(k+1) * r.sz:=by rw [Nat.add_mul];omega
   _≤l.length * r.sz:=Nat.mul_le_mul_right _ (by omega)
 ·have h6:=h5 w' x' (fun b hb hne=>hf b hb.2 fun e=>hne (by simpa using e.2)) hr
  refine ⟨tag,xs,?_,h6.mono fun b hb=>hb.1⟩
  rw [List.length_set]
  have hgk:w'.heap[g]?=w.heap[g]?:=hf g hg fun e=>e.1.1.2.2 rfl
  obtain ⟨hl,⟨hv,h0⟩|⟨g',cap',cur,hv,r1,r2,r3⟩⟩:=h1
  ·cases hv
  ·cases hv
   exact ⟨hl,.inr ⟨g,cap,cur,rfl,r1,by rw [hgk];exact r2,r3⟩⟩
end
def gW {α:Type} (r:Rep α) (E:TypeId):Rep (List α) where
 sz:=1
 rd ok w cs l:=∃ v,cs=[v]∧(∀ b,v.ownBlock=some b→ok b)∧Own r 0 E (fun _=>False) w v l∧(l=[]→v=.slice none 0 0∨∃ g c,v=.slice (some ⟨g,0,none⟩) 0 c)
 len h:=by obtain ⟨v,rfl,_⟩:=h;rfl
 mono hk h:=let ⟨v,e,h1,h2⟩:=h;⟨v,e,fun b hb=>hk b (h1 b hb),h2⟩
 live h:=let ⟨v,e,h1,h2,h3⟩:=h;⟨v,e,fun b hb=>⟨h1 b hb,(h2.lt b hb).2⟩,h2,h3⟩
 frame hf h:=by
  obtain ⟨v,e,h1,⟨xs,h2,h3⟩,h4⟩:=h
  refine ⟨v,e,h1,⟨xs,⟨h2.1,?_⟩,(Chunks.frame (fun b hb=>hb.1.elim) h3)⟩,h4⟩
  rcases h2.2 with h0|⟨g,cap,cur,hv,hb,hg,rest⟩
  ·exact .inl h0
  ·refine .inr ⟨g,cap,cur,hv,hb,?_,rest⟩
   rw [hf g (h1 g (by rw [hv];rfl))];exact hg
 one h:=by
  obtain ⟨v,rfl,_,⟨xs,h2,_⟩,_⟩:=h
  intro u hu
  cases List.mem_singleton.1 hu
  rcases h2.2 with ⟨rfl,_⟩|⟨g,cap,cur,rfl,_⟩<;>rfl
theorem gW.sl {α:Type} {r:Rep α} {E:TypeId} {ok:Nat→Prop} {w:World} {v:Value} {l:List α} (hf:Flat r) (h:(gW r E).rd ok w [v] l):∃ a n c,v=.slice a n c∧Sl r ok w a n c l:=by
 obtain ⟨_,e,h1,h2,_⟩:=h
 cases e
 obtain ⟨a,n,c,rfl,h3⟩:=h2.sl
 refine ⟨a,n,c,rfl,h3.len,h3.cap,h3.bnd,h3.nil,h3.cells.imp id fun ⟨b,off,e,_,hb,hc⟩=>⟨b,off,e,h1 b (by rw [e];rfl),hb,fun i x hx=>let ⟨cs,g1,g2⟩:=hc i x hx;⟨cs,g1,hf g2⟩⟩⟩
theorem gW.mk {α:Type} {r:Rep α} {B:Nat} {E:TypeId} {w:World} {v:Value} {l:List α} (h:Own r B E (fun _=>False) w v l) (hv:l=[]→v=.slice none 0 0∨∃ g c,v=.slice (some ⟨g,0,none⟩) 0 c):(gW r E).rd (B≤·) w [v] l:=by
 refine ⟨v,rfl,fun b hb=>(h.lt b hb).1,?_,hv⟩
 obtain ⟨xs,h1,h2⟩:=h
 refine ⟨xs,⟨h1.1,h1.2.imp id fun ⟨g,cap,cur,a1,a2,a3⟩=>⟨g,cap,cur,a1,Nat.zero_le _,a3⟩⟩,h2⟩
section
variable {P:Program} {ops:Array Oper} {rest:List Oper} {o:Oper} {a:Act} {Q:Exit→Act→World→Prop} {α:Type} {r:Rep α} {B:Nat} {E:TypeId} {w:World}
theorem zK {T bytes:Nat} {z:Value} (ht:pV P T E r.sz bytes z) (hg:o.guard=none) (l c:Operand) (hop:o.op=Op.makeSlice T l c)
  {kl kc:IntKind} {n:Nat} (hl:a.eval l=.int kl 0) (hc:a.eval c=.int kc (n:Int)) (b2:bytes * n≤281474976710656) (b3:n≤maxLen) (b4:B≤w.heap.size)
  (hK:∀ w',(∀ F,kT r B F E w' (.slice (some ⟨w.heap.size,0,none⟩) 0 n) [])→Below w.heap.size w w'→wpList P ops Q rest (a.put o.dst (.slice (some ⟨w.heap.size,0,none⟩) 0 n)) w'):wpList P ops Q (o :: rest) a w:=by
 obtain ⟨i,hi,hz0,hz1,hz2⟩:=info_parts ht.i
 refine wpList_make_own w hg l c T hop B E i z r.sz ht.u hi hz0 hz1 kl kc (n:Int) n hl hc rfl (by rw [hz2];exact b2) b3 b4 fun w' h1 h2=>hK w' (fun F=>⟨fun _=>0,[],h1,rfl⟩) (grown_below h2 (Nat.le_refl _) (fun k e=>by cases e))
end
section
variable {P:Program} {α:Type} {r:Rep α} {B:Nat} {E:TypeId} {w:World} {g cap:Nat} {l:List α}
theorem L9 (h:Own r B E (fun _=>False) w (.slice (some ⟨g,0,none⟩) l.length cap) l) {s:Nat} {ys:List α} {news:List Value} (hn:Chunks r (fun _=>False) w news ys) (hs:s+ys.length≤l.length) (hne:l≠[]∨ys≠[]) :
  ∃ w',(storeCells ⟨g,s * r.sz,none⟩ news).run P w=.ok () w'∧Own r B E (fun _=>False) w' (.slice (some ⟨g,0,none⟩) l.length cap) (l.take s++ys++l.drop (s+ys.length))∧w.grownBy w' (some g)∧w'.heap.size=w.heap.size:=by
 obtain ⟨xs,h1,h2⟩:=h
 obtain ⟨hx,⟨hv,_⟩|⟨g',cap',cur,hv,hb,hg,hnc,hcm,hcs,ht⟩⟩:=h1
 ·cases hv
 ·cases hv
  have hnl:=hn.length
  have hxl:=h2.length
  have hfit:s * r.sz+0+news.length≤cur.size:=by
   rw [hcs,hnl,Nat.add_zero,← Nat.add_mul]
   exact Nat.mul_le_mul_right _ (by omega)
  have hrun:=run_storeCells_at P g (s * r.sz) E news 0 cur w hg hfit hn.one
  rw [Nat.add_zero] at hrun
  refine ⟨_,hrun,?_,⟨rfl,rfl,rfl,by simp,fun k _ hk=>setRow_other w g k _ (fun e=>hk (by simp [e]))⟩,by simp⟩
  have hlen':(l.take s++ys++l.drop (s+ys.length)).length=l.length:=by simp;omega
  have hcell:∀ i,(xs.take (s * r.sz)++news++xs.drop (s * r.sz+news.length))[i]?=if i<s * r.sz then xs[i]? else if i<s * r.sz+news.length then news[i - s * r.sz]? else xs[i]?:=by
   intro i
   have hs1:s * r.sz≤xs.length:=by rw [hxl];exact Nat.mul_le_mul_right _ (by omega)
   have e1:(xs.take (s * r.sz)).length=s * r.sz:=by rw [List.length_take];omega
   by_cases hi:i<s * r.sz
   ·rw [if_pos hi,List.append_assoc,List.getElem?_append_left (by rw [e1];exact hi),List.getElem?_take,if_pos hi]
   ·rw [if_neg hi]
    by_cases hi2:i<s * r.sz+news.length
    ·rw [if_pos hi2,List.getElem?_append_left (by rw [List.length_append,e1];exact hi2),List.getElem?_append_right (by rw [e1];omega),e1]
    ·rw [if_neg hi2,List.getElem?_append_right (by rw [List.length_append,e1];omega),List.length_append,e1,List.getElem?_drop]
     congr 1;omega
  refine ⟨xs.take (s * r.sz)++news++xs.drop (s * r.sz+news.length),⟨?_,.inr ⟨g,cap,_,by rw [hlen'],hb,setRow_heap w g cur _ E _ hg,by rw [hlen'];exact hnc,hcm,?_,?_⟩⟩,?_⟩
  ·rw [hlen',List.length_append,List.length_append,List.length_take,List.length_drop,hxl,hnl]
   have:(s+ys.length) * r.sz≤l.length * r.sz:=Nat.mul_le_mul_right _ hs
   rw [Nat.add_mul] at this
   omega
  ·rw [List.size_toArray,List.length_append,List.length_append,List.length_take,List.length_drop,Array.length_toList]
   omega
  ·rw [hlen',← ht]
   have hA:s * r.sz+news.length≤l.length * r.sz:=by rw [hnl,← Nat.add_mul];exact Nat.mul_le_mul_right _ hs
   have hB2:l.length * r.sz≤cur.size:=by rw [hcs];exact Nat.mul_le_mul_right _ hnc
   apply List.ext_getElem?
   intro i
   have e1:(cur.toList.take (s * r.sz)).length=s * r.sz:=by rw [List.length_take,Array.length_toList];omega
   have e2:((cur.toList.take (l.length * r.sz)).take (s * r.sz)).length=s * r.sz:=by simp only [List.length_take,Array.length_toList];omega
   by_cases hi:i<s * r.sz
   ·rw [List.getElem?_take,if_pos (by omega),List.append_assoc,List.getElem?_append_left (by rw [e1];exact hi),List.append_assoc,List.getElem?_append_left (by rw [e2];exact hi),List.getElem?_take,if_pos hi,List.getElem?_take,if_pos hi,List.getElem?_take,if_pos (by omega)]
   ·by_cases hi2:i<s * r.sz+news.length
    ·rw [List.getElem?_take,if_pos (by omega),List.getElem?_append_left (by rw [List.length_append,e1];exact hi2),List.getElem?_append_right (by rw [e1];omega),e1,
      List.getElem?_append_left (by rw [List.length_append,e2];exact hi2),List.getElem?_append_right (by rw [e2];omega),e2]
    ·rw [List.getElem?_take,List.getElem?_append_right (by rw [List.length_append,e1];omega),List.getElem?_append_right (by rw [List.length_append,e2];omega),List.length_append,List.length_append,e1,e2,List.getElem?_drop,List.getElem?_drop,List.getElem?_take]
     have:s * r.sz+news.length+(i - (s * r.sz+news.length))=i:=by omega
     rw [this]
  ·-- the elements
   have:=Chunks.Zq (r:=r) (ok:=fun b=>False∧Option.some b≠(Value.slice (some ⟨g,0,none⟩) l.length cap).ownBlock) (w:=w.setRow g (cur.toList.take (s * r.sz)++news++cur.toList.drop (s * r.sz+news.length)).toArray) (xs:=xs.take (s * r.sz)++news++xs.drop (s * r.sz+news.length)) (l:=l.take s++ys++l.drop (s+ys.length)) 0 (by
     rw [hlen',List.length_append,List.length_append,List.length_take,List.length_drop,hxl,hnl]
     have:(s+ys.length) * r.sz≤l.length * r.sz:=Nat.mul_le_mul_right _ hs
     rw [Nat.add_mul] at this
     omega) (fun i x hx=>by
     have key:∃ c w0,(∀ j,j<r.sz→(xs.take (s * r.sz)++news++xs.drop (s * r.sz+news.length))[i * r.sz+j]?=c[j]?)∧r.rd (fun _=>False) w0 c x:=by
      have es:(l.take s).length=s:=by rw [List.length_take];omega
      by_cases hi:i<s
      ·rw [List.append_assoc,List.getElem?_append_left (by rw [es];exact hi),List.getElem?_take,if_pos hi] at hx
       obtain ⟨c,h3,h4⟩:=h2.at hx
       refine ⟨c,w,fun j hj=>?_,r.mono (fun b hb=>hb.1) h4⟩
       rw [hcell,if_pos,h3 j hj]
       calc i * r.sz+j<i * r.sz+r.sz:=by omega
        _=(i+1) * r.sz:=by rw [Nat.add_mul];omega
        _≤s * r.sz:=Nat.mul_le_mul_right _ (by omega)
      ·by_cases hi2:i<s+ys.length
       ·rw [List.getElem?_append_left (by rw [List.length_append,es];exact hi2),List.getElem?_append_right (by rw [es];omega),es] at hx
        obtain ⟨c,h3,h4⟩:=hn.at hx
        refine ⟨c,w,fun j hj=>?_,h4⟩
        have e3:s * r.sz≤i * r.sz:=Nat.mul_le_mul_right _ (by omega)
        have e4:(i+1) * r.sz≤(s+ys.length) * r.sz:=Nat.mul_le_mul_right _ (by omega)
        rw [Nat.add_mul,Nat.add_mul] at e4
        rw [hcell,if_neg (by omega),if_pos (by rw [hnl];omega),← h3 j hj]
        congr 1
        rw [Nat.sub_mul];omega
       ·rw [List.getElem?_append_right (by rw [List.length_append,es];omega),List.length_append,es,List.getElem?_drop,show s+ys.length+(i - (s+ys.length))=i by omega] at hx
        obtain ⟨c,h3,h4⟩:=h2.at hx
        refine ⟨c,w,fun j hj=>?_,r.mono (fun b hb=>hb.1) h4⟩
        have e3:(s+ys.length) * r.sz≤i * r.sz:=Nat.mul_le_mul_right _ (by omega)
        rw [Nat.add_mul] at e3
        rw [hcell,if_neg (by omega),if_neg (by rw [hnl];omega),h3 j hj]
     obtain ⟨c,w0,h3,h4⟩:=key
     exact ⟨c,fun j hj=>by rw [Nat.zero_add];exact h3 j hj,r.mono (fun b hb=>hb.elim) (r.frame (fun b hb=>hb.elim) h4)⟩)
   simpa using this
end
def uF (a:Option Addr) (c lo sz:Nat):Option Addr:=if c=lo then a else a.map (·.add (lo * sz))
theorem Qm {P:Program} {T E sz:Nat} (hT:P.underlying T=some (.slice E)) (hi:(P.info? E).map (·.size)=some sz) (a:Option Addr) (n c s:Nat) (h:s≤n) (w:World) :
  (Instr.sliceAt T (.slice a n c) (some (.int .i64 (s:Int))) none none).run P w=.ok (.slice (uF a c s sz) (n - s) (c - s)) w:=by
 have he:P.elem T=E:=by simp [Program.elem,hT]
 have hT':P.underlying T=some (.slice (P.elem T)):=by rw [he];exact hT
 have hz:(sizeOf (P.elem T)).run P w=.ok sz w:=by
  obtain ⟨i,hi,hs⟩:=Option.map_eq_some_iff.1 hi
  rw [he];simp [sizeOf,typeInfo,hi,hs]
 rw [run_sliceAt_slice w T _ _ _ _ hT',run_slice_l w T a n c hT' .i64 s (by omega) (by omega),hz,Result.andThen_ok]
 simp only [sliced,uF,Int.toNat_natCast]
theorem Sl.sub {α:Type} {r:Rep α} {ok:Nat→Prop} {w:World} {a:Option Addr} {n c:Nat} {l:List α} (h:Sl r ok w a n c l) {s k:Nat} (hk:s+k≤n):Sl r ok w (uF a c s r.sz) k (c - s) ((l.drop s).take k):=by
 have h1:=h.len
 have h2:=h.cap
 refine ⟨by simp;omega,by omega,Nat.le_trans (Nat.sub_le _ _) h.bnd,fun e=>?_,?_⟩
 ·unfold uF at e
  split at e
  ·omega
  ·have:a=none:=by simpa using e
   have:=h.nil this
   omega
 ·rcases h.cells with h0|⟨b,off,rfl,hb,hlt,hc⟩
  ·left;omega
  ·by_cases hk0:k=0
   ·exact .inl hk0
   ·refine .inr ⟨b,off+s * r.sz,?_,hb,hlt,fun i x hx=>?_⟩
    ·unfold uF
     rw [if_neg (by omega)]
     simp [Addr.add_lit]
    ·have hik:i<k:=by have:=(List.getElem?_eq_some_iff.1 hx).1;simp at this;omega
     rw [List.getElem?_take,if_pos hik,List.getElem?_drop] at hx
     obtain ⟨cs,g1,g2⟩:=hc (s+i) x hx
     refine ⟨cs,fun j hj=>?_,g2⟩
     rw [← g1 j hj,Nat.add_mul,Nat.add_assoc off]
section
variable {P:Program} {ops:Array Oper} {rest:List Oper} {o:Oper} {a:Act} {Q:Exit→Act→World→Prop} {α:Type} {r:Rep α} {B:Nat} {E:TypeId} {w:World} {g cap:Nat} {l:List α}
theorem FD {T bytes:Nat} {z:Value} (ht:pV P T E r.sz bytes z) (hfl:Flat r) (hgd:o.guard=none) (d x:Operand)
  (ho:o.op=.call { callee:=.builtin .copy,args:=#[d,x],argTypes:=#[T,T] }) {s dl dc:Nat} (hd:a.eval d=.slice (some ⟨g,s * r.sz,none⟩) dl dc) {ao:Option Addr} {m c:Nat} (hx:a.eval x=.slice ao m c)
  (h:Own r B E (fun _=>False) w (.slice (some ⟨g,0,none⟩) l.length cap) l) {ok:Nat→Prop} {ys:List α} (hs:Sl r ok w ao m c ys) (hle:s+m≤l.length) (hm:0<m) (hdl:m≤dl)
  (hk:∀ w',Own r B E (fun _=>False) w' (.slice (some ⟨g,0,none⟩) l.length cap) (l.take s++ys++l.drop (s+ys.length))→w.grownBy w' (some g)→w'.heap.size=w.heap.size→wpList P ops Q rest (a.put o.dst (.int .i64 m)) w'):wpList P ops Q (o :: rest) a w:=by
 refine wpList_plain hgd fun K hK=>?_
 obtain ⟨i,hi,_,hz1,_⟩:=info_parts ht.i
 obtain ⟨hlen,hnil,news,hnews,hch⟩:=Src.MX hs
 obtain ⟨ad,rfl⟩:∃ ad,ao=some ad:=by
  cases ao with
  |some ad=>exact ⟨ad,rfl⟩
  |none=>have:=(hnil rfl).1;omega
 have hnl:=hch.length
 obtain ⟨w',hst,h1,h2,h3⟩:=L9 (P:=P) h (s:=s) (ys:=ys) (hch.flat hfl) (by omega) (.inr (by intro e;rw [e] at hlen;simp at hlen;omega))
 have hld:=run_loadCells_list (P:=P) (w:=w) ad news (hnews ad rfl)
 have hmin:Nat.min m dl=m:=Nat.min_eq_left hdl
 rw [hnl,hlen] at hld
 unfold Oper.wp execOp
 have hrun:(Builtin.copy_ #[T,T] o.type #[.slice (some ⟨g,s * r.sz,none⟩) dl dc,.slice (some ad) m c]).run P w=.ok (goInt m) w':=by
  simp [Builtin.copy_,run_underlying ht.u,Builtin.lenOf,Builtin.firstCells,sizeOf,typeInfo,hi,hz1,hmin,hld,hst]
 simp only [ho,resolve,invoke,builtin,Sem.run_bind,Sem.run_pure,Result.andThen_ok,List.map_toArray,List.map_cons,List.map_nil,hd,hx,hrun]
 exact hK _ _ (hk w' h1 h2 h3)
end
section
variable {ok:Nat→Prop} {w:World} {n c:Nat}
theorem Sl.wr {b off:Nat} {l:List (Int × Int × List fV)} (h:Sl (MR uQ (MR uQ (Va yx))) ok w (some ⟨b,off,none⟩) n c l) {k:Nat} {v s:Int} {d:List fV} (hx:l[k]?=some (v,s,d)) :
  ∃ a' n' c',w.cell? ⟨b,off+k * 3,none⟩=some (.int .i64 v)∧w.cell? ⟨b,off+k * 3+1,none⟩=some (.int .i64 s)∧w.cell? ⟨b,off+k * 3+2,none⟩=some (.slice a' n' c')∧oq v∧oq s∧Sl yx ok w a' n' c' d:=by
 obtain ⟨cs,h1,c1,c2,rfl,⟨rfl,hv⟩,c3,c4,rfl,⟨rfl,hs⟩,a',n',c',rfl,hd⟩:=h.at hx
 refine ⟨a',n',c',?_,?_,?_,hv,hs,hd⟩
 ·exact h1 0 (by show 0<3;omega)
 ·exact h1 1 (by show 1<3;omega)
 ·exact h1 2 (by show 2<3;omega)
theorem Sl.ext {b off:Nat} {l:List (Int × Int)} (h:Sl (MR uQ uQ) ok w (some ⟨b,off,none⟩) n c l) {k:Nat} {s m:Int} (hx:l[k]?=some (s,m)) :
  w.cell? ⟨b,off+k * 2,none⟩=some (.int .i64 s)∧w.cell? ⟨b,off+k * 2+1,none⟩=some (.int .i64 m)∧oq s∧oq m:=by
 obtain ⟨cs,h1,c1,c2,rfl,⟨rfl,hv⟩,⟨rfl,hs⟩⟩:=h.at hx
 exact ⟨h1 0 (by show 0<2;omega),h1 1 (by show 1<2;omega),hv,hs⟩
end
end Go.Proofs.YtpcncggjmabnaaaGreatDoor

namespace Go.Proofs.YtpcncggjmabnaaaGreatDoor
open Go.RowKit
abbrev ni:Rep (List fV):=Va yx
abbrev Wr:=Int × Int × List fV
abbrev wrR:Rep Wr:=MR uQ (MR uQ ni)
def agF:fV:=Vector.replicate 8 0
theorem Tryz.mixed:Tryz.prog.follows .mixedOrders=true:=by kernel_rfl
theorem Tryz.ahB:pV Tryz.prog 22 3 1 8 (.int .i64 0):=⟨Tryz.underlying22,by kernel_rfl,rfl,by decide⟩
theorem Tryz.ahC:pV Tryz.prog 74 79 8 8 (.agg #[.int .u8 0,.int .u8 0,.int .u8 0,.int .u8 0,.int .u8 0,.int .u8 0,.int .u8 0,.int .u8 0]):=⟨Tryz.underlying74,by kernel_rfl,rfl,by decide⟩
theorem Tryz.adx:pV Tryz.prog 51 74 1 24 (.slice none 0 0):=⟨Tryz.underlying51,by kernel_rfl,rfl,by decide⟩
theorem pI {k:IntKind} {a b:Int} (h:a=b):Ending.returned (.int k a)=.returned (.int k b):=by rw [h]
theorem vV {a b:Bool} (h:a=b):Ending.returned (.bool a)=.returned (.bool b):=by rw [h]
theorem Y7 {n:Nat} (h:n≤maxLen):oq (n:Int):=by unfold oq maxLen at *;omega
theorem Sl.i64 {α:Type} {r:Rep α} {ok:Nat→Prop} {w:World} {a:Option Addr} {n c:Nat} {l:List α} (h:Sl r ok w a n c l):oq (n:Int):=Y7 (Nat.le_trans h.cap h.bnd)
theorem Sl.small {α:Type} {r:Rep α} {ok:Nat→Prop} {w:World} {a:Option Addr} {n c:Nat} {l:List α} (h:Sl r ok w a n c l):n≤9223372036854775807:=by
 have:=Nat.le_trans h.cap h.bnd;unfold maxLen at this;omega
theorem GV {α:Type} {p:α→Bool} {l:List α} {k:Nat} {x:α} (h:l[k]?=some x):(l.take (k+1)).any p=((l.take k).any p || p x):=by
 rw [List.take_add_one,h];simp
theorem any_true {α:Type} {p:α→Bool} {l:List α} {k:Nat} {x:α} (h:l[k]?=some x) (hp:p x=true):l.any p=true:=by
 rw [List.any_eq_true];exact ⟨x,List.mem_of_getElem? h,hp⟩
theorem oh {α:Type} {l:List α} {k:Nat} {x:α} (h:l[k]?=some x):l.take (k+1)=l.take k++[x]:=by
 rw [List.take_add_one,h];rfl
theorem zL {α:Type} {l:List α} {n:Nat} (h:l.length=n):l.take n=l:=List.take_of_length_le (by omega)
end Go.Proofs.YtpcncggjmabnaaaGreatDoor

namespace Go.Proofs.YtpcncggjmabnaaaGreatDoor
open Go.RowKit
def mV (n:Int):Bool:=decide (n<1) || decide (4096<n)
def aN (l:List Int):Int:=if l.length<1∨8<l.length then 6 else if l.any mV then 2 else 0
def lens (im:List (List fV)):List Int:=im.map fun v=>(v.length:Int)
def ql (im:List (List fV)):Int:=aN (lens im)
end Go.Proofs.YtpcncggjmabnaaaGreatDoor

namespace Go.Proofs.YtpcncggjmabnaaaGreatDoor
open Go.RowKit
def kL (sizes:List Int) (Zo start:Int) (len:Nat):Int :=
 if Zo<0∨(sizes.length:Int)≤Zo then 7 else if len=0 then 1
 else if start<0∨sizes.getD Zo.toNat 0≤start∨sizes.getD Zo.toNat 0 - start<len then 2 else 0
theorem Dn {α:Type} {l:List α} {k:Nat} {x d:α} (h:l[k]?=some x):l.getD k d=x:=by simp [List.getD,h]
end Go.Proofs.YtpcncggjmabnaaaGreatDoor

namespace Go.Proofs.YtpcncggjmabnaaaGreatDoor
open Go.RowKit
def aT (im:List (List fV)) (Zo start:Int) (len:Nat):Int:=if ql im≠0 then ql im else kL (lens im) Zo start len
end Go.Proofs.YtpcncggjmabnaaaGreatDoor

namespace Go.Proofs.YtpcncggjmabnaaaGreatDoor
open Go.RowKit
end Go.Proofs.YtpcncggjmabnaaaGreatDoor

namespace Go.Proofs.YtpcncggjmabnaaaGreatDoor
open Go.RowKit
theorem VY {x:Int} {w:World} (_hx:oq x):Calls Tryz.prog 102 #[.int .i64 x] w fun e w'=>e=.returned (.bool (mV x))∧Below w.heap.size w w':=by
 by_cases h1:x<1
 ·go_enter Tryz.func102,Tryz.ntmps102
  go_wp2
  go_ret
  exact ⟨vV (by simp [mV,h1]),Below.refl _ _⟩
 ·by_cases h2:4096<x
  ·go_enter Tryz.func102,Tryz.ntmps102
   go_wp2
   go_ret
   exact ⟨vV (by simp [mV,h2]),Below.refl _ _⟩
  ·go_enter Tryz.func102,Tryz.ntmps102
   go_wp2
   go_ret
   exact ⟨vV (by simp [mV];omega),Below.refl _ _⟩
set_option maxHeartbeats 1000000 in
theorem AQ {a:Option Addr} {n c:Nat} {l:List Int} {ok:Nat→Prop} {w:World} (h:Sl uQ ok w a n c l) :
  Calls Tryz.prog 119 #[.slice a n c,.func (.func 102) #[] #[]] w fun e w'=>∃ z:Int,e=.returned (.int .i64 z)∧(0≤z ↔ l.any mV=true)∧oq z∧Below w.heap.size w w':=by
 have hs:=h.small
 go_enter Tryz.func119,Tryz.ntmps119
 go_wp2
 go_loopw [5,8] (fun _ i wr=>∃ k:Nat,k≤n∧i=.int .i64 k∧Hid ((l.take k).any mV=false)∧Below w.heap.size w wr) (fun _ i _=>n - (intOf i).toNat)
 case atStart=>exact ⟨0,Nat.zero_le _,rfl,rfl,Below.refl _ _⟩
 case round =>
  obtain ⟨k,hk,rfl,HT,hB⟩:=hrel
  by_cases hlt:k<n
  ·obtain ⟨b,off,rfl,_,_⟩:=h.addr hlt
   obtain ⟨x,hx⟩:=h.get hlt
   obtain ⟨hcell,hi⟩:=(h.below hB).int hx
   have HX:=Lib.hid hx
   clear hx
   cases hp:mV x with
   |true =>
    have HP:=Lib.hid hp
    have hcall:=VY (w:=wr) hi
    rw [hp] at hcall
    clear hp
    go_wp2_with (fail)
    refine hcall.mono ?_
    rintro e w1 ⟨rfl,hB1⟩
    go_wp2
    go_ret
    exact ⟨k,rfl,by rw [any_true HX.out HP.out];simp,by unfold oq;omega,hB.trans (hB1.mono hB.size)⟩
   |false =>
    have HP:=Lib.hid hp
    have hcall:=VY (w:=wr) hi
    rw [hp] at hcall
    clear hp
    go_wp2_with (fail)
    refine hcall.mono ?_
    rintro e w1 ⟨rfl,hB1⟩
    go_wp2
    go_roundw
    case rel=>exact ⟨k+1,by omega,by go_num,by show _=false;rw [GV HX.out,HT.out,HP.out];rfl,hB.trans (hB1.mono hB.size)⟩
    case measure=>simp [intOf];omega
  ·go_wp2
   go_ret
   obtain rfl:k=n:=by omega
   have e:=HT.out
   rw [zL h.len] at e
   exact ⟨-1,rfl,by rw [e];simp,by unfold oq;omega,hB⟩
theorem Mc {a:Option Addr} {n c:Nat} {l:List Int} {ok:Nat→Prop} {w:World} (h:Sl uQ ok w a n c l) :
  Calls Tryz.prog 101 #[.slice a n c,.func (.func 102) #[] #[]] w fun e w'=>e=.returned (.bool (l.any mV))∧Below w.heap.size w w':=by
 go_enter Tryz.func101,Tryz.ntmps101
 go_wp2_with fail
 refine (AQ h).mono ?_
 rintro e w1 ⟨z,rfl,hz,hi,hB⟩
 unfold oq at hi
 cases hp:l.any mV with
 |true =>
  have hz0:0≤z:=hz.2 hp
  have HP:=Lib.hid hp
  clear hz hp
  go_wp2
  go_ret
  exact ⟨vV HP.out.symm,hB⟩
 |false =>
  have hz0:z<0:=by rw [hp] at hz;simp at hz;omega
  have HP:=Lib.hid hp
  clear hz hp
  go_wp2
  go_ret
  exact ⟨vV (by rw [HP.out];simp;omega),hB⟩
theorem FH {a:Option Addr} {n c:Nat} {l:List Int} {ok:Nat→Prop} {w:World} (h:Sl uQ ok w a n c l) :
  Calls Tryz.prog 68 #[.slice a n c] w fun e w'=>e=.returned (.int .i64 (aN l))∧Below w.heap.size w w':=by
 have hs:=h.small
 by_cases hn1:n<1
 ·obtain rfl:n=0:=by omega
  go_enter Tryz.func68,Tryz.ntmps68
  go_wp2
  go_ret
  exact ⟨by simp [aN,h.len],Below.refl _ _⟩
 by_cases hn8:8<n
 ·go_enter Tryz.func68,Tryz.ntmps68
  go_wp2
  go_ret
  exact ⟨pI (by rw [aN,if_pos (by rw [h.len];exact .inr hn8)]),Below.refl _ _⟩
 go_enter Tryz.func68,Tryz.ntmps68
 go_wp2_with fail
 refine (Mc h).mono ?_
 rintro e w1 ⟨rfl,hB⟩
 cases hp:l.any mV with
 |true =>
  have HP:=Lib.hid hp;clear hp
  go_wp2
  go_ret
  exact ⟨pI (by rw [aN,if_neg (by rw [h.len];omega),if_pos HP.out]),hB⟩
 |false =>
  have HP:=Lib.hid hp;clear hp
  go_wp2
  go_ret
  exact ⟨pI (by rw [aN,if_neg (by rw [h.len];omega),HP.out];rfl),hB⟩
end Go.Proofs.YtpcncggjmabnaaaGreatDoor

namespace Go.Proofs.YtpcncggjmabnaaaGreatDoor
open Go.RowKit
theorem ady {a:Option Addr} {n c:Nat} {l:List fV} {ok:Nat→Prop} {w:World} (h:Sl yx ok w a n c l) :
  Calls Tryz.prog 113 #[.slice a n c] w fun e w'=>∃ z:Int,e=.returned (.int .i64 z)∧uQ.rd (w.heap.size≤·) w' [.int .i64 z] (l.length:Int)∧Below w.heap.size w w':=by
 have hs:=h.small
 go_enter Tryz.func113,Tryz.ntmps113
 go_wp2
 go_ret
 exact ⟨_,rfl,⟨by rw [h.len],by rw [h.len];exact h.i64⟩,Below.refl _ _⟩
set_option maxHeartbeats 1000000 in
theorem UM {a:Option Addr} {n c:Nat} {l:List (List fV)} {ok:Nat→Prop} {w:World} (h:Sl ni ok w a n c l) (hn:n≤1000000) :
  Calls Tryz.prog 112 #[.slice a n c,.func (.func 113) #[] #[]] w fun e w'=>∃ v,e=.returned v∧kT uQ w.heap.size w'.heap.size 3 w' v (l.map (fun v:List fV=>(v.length:Int)))∧Below w.heap.size w w':=by
 go_enter Tryz.func112,Tryz.ntmps112
 go_wp2_with (at_make;refine zK (r:=uQ) (B:=w.heap.size) Tryz.ahB rfl _ _ rfl rfl rfl ?b2 ?b3 ?b4 ?_)
 case b2=>omega
 case b3=>unfold maxLen;omega
 case b4=>exact Nat.le_refl _
 intro w0 hown0 hB0
 have hs:=h.small
 go_wp2
 go_loopw [5,13] (fun v i wr=>∃ k:Nat,k≤n∧i=.int .i64 k∧kT uQ w.heap.size wr.heap.size 3 wr v ((l.map (fun v:List fV=>(v.length:Int))).take k)∧Below w.heap.size w wr) (fun _ i _=>n - (intOf i).toNat)
 case atStart=>exact ⟨0,Nat.zero_le _,rfl,hown0 _,hB0⟩
 case round =>
  obtain ⟨k,hk,rfl,hown,hB⟩:=hrel
  by_cases hlt:k<n
  ·obtain ⟨b,off,rfl,_,_⟩:=h.addr hlt
   obtain ⟨x,hx⟩:=h.get hlt
   obtain ⟨a',n',c',hcell,hx'⟩:=(h.below hB).slice hx
   have hlen:((l.map (fun v:List fV=>(v.length:Int))).take k).length=k:=by have:=h.len;simp;omega
   have HL:=Lib.hid hlen;clear hlen
   have HX:=Lib.hid hx;clear hx
   go_wp2_with (fail)
   refine (ady hx').mono ?_
   rintro e w1 ⟨z,rfl,hrd,hB1⟩
   have Qn:=hown.lt
   have hz1:=hB1.size
   have hz:=hB.size
   go_wp2_with (at_builtin;refine BO Tryz.ahB rfl _ _ rfl rfl ((hown.below hB1).below ((Below.refl _ _).alloc (Nat.le_refl _) _)) rfl (Qk w1 3 #[.int .i64 z]) (Ql hrd) (fun k hk=>(Qn k hk).2) ?c1 ?c2 ?c3 ?c4 ?_)
   case c1=>rw [HL.out];unfold maxLen;omega
   case c2=>rw [HL.out];omega
   case c3=>omega
   case c4=>simp;omega
   intro v' w2 hown1 hgrow _
   go_wp2
   go_roundw
   case rel=>exact ⟨k+1,by omega,by go_num,by
    have e:(l.map (fun v:List fV=>(v.length:Int))).take (k+1)=(l.map (fun v:List fV=>(v.length:Int))).take k++[(fun v:List fV=>(v.length:Int)) x]:=oh (by rw [List.getElem?_map,HX.out];rfl)
    rw [e];exact hown1,((hB.trans (hB1.mono hB.size)).alloc (by omega) _).grown hgrow (by simp;omega) (fun k hk=>(Qn k hk).1)⟩
   case measure=>simp [intOf];omega
  ·go_wp2
   go_ret
   obtain rfl:k=n:=by omega
   rw [zL (by rw [List.length_map];exact h.len)] at hown
   exact ⟨_,rfl,hown,hB⟩
theorem UN {a:Option Addr} {n c:Nat} {im:List (List fV)} {ok:Nat→Prop} {w:World} (h:Sl ni ok w a n c im) (hn:n≤1000000) :
  Calls Tryz.prog 94 #[.slice a n c] w fun e w'=>∃ a' n' c',e=.returned (.slice a' n' c')∧Sl uQ (w.heap.size≤·) w' a' n' c' (lens im)∧Below w.heap.size w w':=by
 go_enter Tryz.func94,Tryz.ntmps94
 go_wp2_with fail
 refine (UM h hn).mono ?_
 rintro e w1 ⟨v,rfl,hown,hB⟩
 obtain ⟨a',n',c',rfl,h1⟩:=hown.sl
 go_wp2
 go_ret
 exact ⟨_,_,_,rfl,h1,hB⟩
theorem FI {a:Option Addr} {n c:Nat} {im:List (List fV)} {ok:Nat→Prop} {w:World} (h:Sl ni ok w a n c im) (hn:n≤1000000) :
  Calls Tryz.prog 53 #[.slice a n c] w fun e w'=>e=.returned (.int .i64 (ql im))∧Below w.heap.size w w':=by
 go_enter Tryz.func53,Tryz.ntmps53
 go_wp2_with fail
 refine (UN h hn).mono ?_
 rintro e w1 ⟨a',n',c',rfl,h1,hB⟩
 go_wp2_with fail
 refine (FH h1).mono ?_
 rintro e w2 ⟨rfl,hB2⟩
 go_wp2
 go_ret
 exact ⟨rfl,hB.trans (hB2.mono hB.size)⟩
end Go.Proofs.YtpcncggjmabnaaaGreatDoor

namespace Go.Proofs.YtpcncggjmabnaaaGreatDoor
open Go.RowKit
def VZ {α:Type} (e:Int) (l:List α):List α:=if e=0 then l else []
theorem adz {α:Type} {e:Int} {l:List α} (h:e=0):VZ e l=l:=if_pos h
theorem Y8 {α:Type} {e:Int} {l:List α} (h:¬ e=0):VZ e l=[]:=if_neg h
def zeros (n:Int):List fV:=List.replicate n.toNat agF
def aC (l:List Int):List (List fV):=l.map zeros
set_option maxHeartbeats 1000000 in
theorem Y9 {a:Option Addr} {n c:Nat} {l:List fV} {ok:Nat→Prop} {w:World} (h:Sl yx ok w a n c l) (hn:n≤1000000) :
  Calls Tryz.prog 86 #[.slice a n c] w fun e w'=>∃ a' n' c',e=.returned (.slice a' n' c')∧(gW yx 79).rd (w.heap.size≤·) w' [.slice a' n' c'] l∧Below w.heap.size w w':=by
 have heq:=fun (a:Option Addr) (n c:Nat) (w:World)=>Lib.run_eql_slice_nil (P:=Tryz.prog) w 74 79 a n c 0 0 Tryz.underlying74
 cases a with
 |none =>
  have h0:l=[]:=List.eq_nil_of_length_eq_zero (by rw [h.len];have:=h.nil rfl;have:=h.cap;omega)
  have H0:=Lib.hid h0;clear h0
  go_enter Tryz.func86,Tryz.ntmps86
  go_wp2
  go_ret
  refine ⟨_,_,_,rfl,?_,Below.refl _ _⟩
  rw [H0.out]
  exact gW.mk (Own.nil _ _ _ _ _) (fun _=>.inl rfl)
 |some ad =>
  have hs:=h.small
  go_enter Tryz.func86,Tryz.ntmps86
  go_wp2_with (at_builtin;refine sQ Tryz.ahC rfl _ _ rfl rfl (Own.agD yx (ok:=fun _=>False) (Nat.le_refl _)) rfl ((Src.MX (h.below ((Below.refl _ _).alloc (Nat.le_refl _) _))).flat Flat.sec) ?c1 ?c2 ?c3 ?_)
  case c1=>simp;unfold maxLen;omega
  case c2=>simp;omega
  case c3=>simp
  intro v' w1 hown hgrow hat
  obtain ⟨a',n',c',rfl,_⟩:=hown.sl
  go_wp2
  go_ret
  refine ⟨_,_,_,rfl,gW.mk (by simpa using hown) (fun e=>?_),((Below.refl _ _).alloc (Nat.le_refl _) _).grown hgrow (by simp) (fun k hk=>by cases hk;exact Nat.le_refl _)⟩
  subst e
  obtain ⟨xs,h1,_⟩:=hown
  rcases h1.2 with ⟨hv,_⟩|⟨g,cap,cur,hv,_⟩
  ·exact .inl hv
  ·exact .inr ⟨g,cap,by simpa using hv⟩
end Go.Proofs.YtpcncggjmabnaaaGreatDoor

namespace Go.Proofs.YtpcncggjmabnaaaGreatDoor
open Go.RowKit
def qm (v:List fV):List fV:=v
theorem adA (l:List (List fV)):l.map qm=l:=List.map_id l
abbrev pJ:Rep (List fV):=gW yx 79
set_option maxHeartbeats 1000000 in
theorem Md {a:Option Addr} {n c:Nat} {l:List (List fV)} {ok:Nat→Prop} {w:World} (h:Sl ni ok w a n c l) (hn:n≤1000000)(hv:∀ v∈l,v.length≤1000000) :
  Calls Tryz.prog 127 #[.slice a n c,.func (.func 86) #[] #[]] w fun e w'=>∃ v,e=.returned v∧kT pJ w.heap.size w'.heap.size 74 w' v (l.map qm)∧Below w.heap.size w w':=by
 go_enter Tryz.func127,Tryz.ntmps127
 go_wp2_with (at_make;refine zK (r:=pJ) (B:=w.heap.size) Tryz.adx rfl _ _ rfl rfl rfl ?b2 ?b3 ?b4 ?_)
 case b2=>omega
 case b3=>unfold maxLen;omega
 case b4=>exact Nat.le_refl _
 intro w0 hown0 hB0
 have hs:=h.small
 go_wp2
 go_loopw [5,13] (fun v i wr=>∃ k:Nat,k≤n∧i=.int .i64 k∧kT pJ w.heap.size wr.heap.size 74 wr v ((l.map qm).take k)∧Below w.heap.size w wr) (fun _ i _=>n - (intOf i).toNat)
 case atStart=>exact ⟨0,Nat.zero_le _,rfl,hown0 _,hB0⟩
 case round =>
  obtain ⟨k,hk,rfl,hown,hB⟩:=hrel
  by_cases hlt:k<n
  ·obtain ⟨b,off,rfl,_,_⟩:=h.addr hlt
   obtain ⟨x,hx⟩:=h.get hlt
   obtain ⟨a',n',c',hcell,hx'⟩:=(h.below hB).slice hx;have hv':=hv x (List.mem_of_getElem? hx)
   have hlen:((l.map qm).take k).length=k:=by have:=h.len;simp;omega
   have HL:=Lib.hid hlen;clear hlen
   have HX:=Lib.hid hx;clear hx
   go_wp2_with (fail)
   refine (Y9 hx' (by rw [← hx'.len];exact hv')).mono ?_
   rintro e w1 ⟨a2,n2,c2,rfl,hrd,hB1⟩
   have Qn:=hown.lt
   have hz1:=hB1.size
   have hz:=hB.size
   go_wp2_with (at_builtin;refine BO Tryz.adx rfl _ _ rfl rfl ((hown.below hB1).below ((Below.refl _ _).alloc (Nat.le_refl _) _)) rfl (Qk w1 74 #[.slice a2 n2 c2]) (Ql hrd) (fun k hk=>(Qn k hk).2) ?c1 ?c2 ?c3 ?c4 ?_)
   case c1=>rw [HL.out];unfold maxLen;omega
   case c2=>rw [HL.out];omega
   case c3=>omega
   case c4=>simp;omega
   intro v' w2 hown1 hgrow _
   go_wp2
   go_roundw
   case rel=>exact ⟨k+1,by omega,by go_num,by
    have e:(l.map qm).take (k+1)=(l.map qm).take k++[qm x]:=oh (by rw [List.getElem?_map,HX.out];rfl)
    rw [e];exact hown1,((hB.trans (hB1.mono hB.size)).alloc (by omega) _).grown hgrow (by simp;omega) (fun k hk=>(Qn k hk).1)⟩
   case measure=>simp [intOf];omega
  ·go_wp2
   go_ret
   obtain rfl:k=n:=by omega
   rw [zL (by rw [List.length_map];exact h.len)] at hown
   exact ⟨_,rfl,hown,hB⟩
theorem UO {a:Option Addr} {n c:Nat} {im:List (List fV)} {ok:Nat→Prop} {w:World} (h:Sl ni ok w a n c im) (hn:n≤1000000) (hv:∀ v∈im,v.length≤1000000) :
  Calls Tryz.prog 117 #[.slice a n c] w fun e w'=>∃ v,e=.returned v∧kT pJ w.heap.size w'.heap.size 74 w' v im∧Below w.heap.size w w':=by
 go_enter Tryz.func117,Tryz.ntmps117
 go_wp2_with fail
 refine (Md h hn hv).mono ?_
 rintro e w1 ⟨v,rfl,hown,hB⟩
 go_wp2
 go_ret
 exact ⟨_,rfl,by rw [adA] at hown;exact hown,hB⟩
theorem Sl.imp {α:Type} {r s:Rep α} {ok:Nat→Prop} {w:World} {a:Option Addr} {n c:Nat} {l:List α} (hz:s.sz=r.sz) (hi:∀ cs x,r.rd ok w cs x→s.rd ok w cs x) (h:Sl r ok w a n c l):Sl s ok w a n c l :=
 ⟨h.len,h.cap,h.bnd,h.nil,h.cells.imp id fun ⟨b,off,e,hb,hl,hc⟩=>⟨b,off,e,hb,hl,fun i x hx=>let ⟨cs,g1,g2⟩:=hc i x hx;⟨cs,by rw [hz];exact g1,hi cs x g2⟩⟩⟩
theorem Me {ok:Nat→Prop} {w:World} {cs:List Value} {x:List fV} (h:pJ.rd ok w cs x):ni.rd ok w cs x:=by
 obtain ⟨v,rfl,h1⟩:=h
 obtain ⟨a,n,c,rfl,h2⟩:=gW.sl Flat.sec (v:=v) ⟨v,rfl,h1⟩
 exact ⟨a,n,c,rfl,h2⟩
theorem kT.img {B F:Nat} {E:TypeId} {w:World} {v:Value} {im:List (List fV)} (h:kT pJ B F E w v im):∃ a n c,v=.slice a n c∧Sl ni (B≤·) w a n c im :=
 let ⟨a,n,c,e,h⟩:=h.sl;⟨a,n,c,e,Sl.imp (r:=pJ) (s:=ni) rfl (fun _ _ g=>Me g) h⟩
set_option maxHeartbeats 2000000 in
theorem IX {a:Option Addr} {n c:Nat} {im:List (List fV)} {ok:Nat→Prop} {w:World} (h:Sl ni ok w a n c im) {Zo start:Int} (hv:oq Zo) (hst:oq start)
  {da:Option Addr} {dn dc:Nat} (hd:dn≤9223372036854775807) :
  Calls Tryz.prog 118 #[.slice a n c,.agg #[.int .i64 Zo,.int .i64 start,.slice da dn dc]] w fun e w'=>e=.returned (.int .i64 (kL (lens im) Zo start dn))∧Below w.heap.size w w':=by
 have hs:=h.small
 unfold oq at hv hst
 have hlen:(lens im).length=n:=by simp [lens,h.len]
 have HL:=Lib.hid hlen;clear hlen
 have hB0:Below w.heap.size w (w.alloc (.cells #[.int .i64 Zo,.int .i64 start,.slice da dn dc] 76)):=(Below.refl _ _).alloc (Nat.le_refl _) _
 by_cases h1:Zo<0
 ·go_enter Tryz.func118,Tryz.ntmps118
  go_wp2
  go_ret
  exact ⟨pI (by rw [kL,if_pos (.inl h1)]),hB0⟩
 obtain ⟨k,rfl⟩:=Int.eq_ofNat_of_zero_le (Int.not_lt.1 h1)
 by_cases h2:n≤k
 ·go_enter Tryz.func118,Tryz.ntmps118
  go_wp2
  go_ret
  exact ⟨pI (by rw [kL,if_pos (.inr (by rw [HL.out];omega))]),hB0⟩
 have hlt:k<n:=by omega
 obtain ⟨b,off,rfl,_,_⟩:=h.addr hlt
 obtain ⟨x,hx⟩:=h.get hlt
 have HX:Hid ((lens im)[k]?=some (x.length:Int)):=by show _=_;rw [lens,List.getElem?_map,hx];rfl
 obtain ⟨a',n',c',hcell,hx'⟩:=(h.below hB0).slice hx
 have hs':=hx'.small
 have hn':=hx'.len
 have HN:=Lib.hid hn';clear hn'
 clear hx
 by_cases h3:dn=0
 ·subst h3
  go_enter Tryz.func118,Tryz.ntmps118
  go_wp2
  go_ret
  exact ⟨pI (by rw [kL,if_neg (by rw [HL.out];omega),if_pos rfl]),hB0⟩
 have h3':0<dn:=by omega
 clear h3
 by_cases h4:start<0
 ·have d1:decide (start<0)=true:=by simp;omega
  go_enter Tryz.func118,Tryz.ntmps118
  go_wp2_with fail
  refine wp_region_quiet_lit (by kernel_rfl) (by kernel_rfl) ?_
  repeat (go_big_quiet_step (fail))
  refine wpQuiet_nil ?_
  rintro _ ⟨nq,rfl⟩
  go_wp2
  go_ret
  exact ⟨pI (by rw [kL,if_neg (by rw [HL.out];omega),if_neg (by omega),if_pos (.inl h4)]),below_drewN hB0 _⟩
 have h4':0≤start:=by omega
 have d1:decide (start<0)=false:=by simp;omega
 by_cases h5:(n':Int) - dn<start
 ·have d2:decide ((n':Int) - dn<start)=true:=by simp;omega
  go_enter Tryz.func118,Tryz.ntmps118
  go_wp2_with fail
  refine wp_region_quiet_lit (by kernel_rfl) (by kernel_rfl) ?_
  repeat (go_big_quiet_step (fail))
  refine wpQuiet_nil ?_
  rintro _ ⟨nq,rfl⟩
  go_wp2
  go_ret
  exact ⟨pI (by rw [kL,if_neg (by rw [HL.out];omega),if_neg (by omega),if_pos (by rw [Int.toNat_natCast,Dn HX.out,HN.out];omega)]),below_drewN hB0 _⟩
 ·have h5':start≤(n':Int) - dn:=by omega
  have d2:decide ((n':Int) - dn<start)=false:=by simp;omega
  go_enter Tryz.func118,Tryz.ntmps118
  go_wp2_with fail
  refine wp_region_quiet_lit (by kernel_rfl) (by kernel_rfl) ?_
  repeat (go_big_quiet_step (fail))
  refine wpQuiet_nil ?_
  rintro _ ⟨nq,rfl⟩
  go_wp2
  go_ret
  exact ⟨pI (by rw [kL,if_neg (by rw [HL.out];omega),if_neg (by omega),if_neg (by rw [Int.toNat_natCast,Dn HX.out,HN.out];omega)]),below_drewN hB0 _⟩
end Go.Proofs.YtpcncggjmabnaaaGreatDoor

namespace Go.Proofs.YtpcncggjmabnaaaGreatDoor
open Go.RowKit
theorem Tryz.amD:(Tryz.prog.info? 79).map (·.size)=some 8:=by kernel_rfl
end Go.Proofs.YtpcncggjmabnaaaGreatDoor

namespace Go.Proofs.YtpcncggjmabnaaaGreatDoor
open Go.RowKit
def zM (l:List fV) (s:Nat) (d:List fV):List fV:=l.take s++d++l.drop (s+d.length)
def CG (im:List (List fV)) (x:Wr):List (List fV):=im.set x.1.toNat (zM (im.getD x.1.toNat []) x.2.1.toNat x.2.2)
def mX (sz:List Int) (x:Wr):Int:=kL sz x.1 x.2.1 x.2.2.length
def dS (sz:List Int):List Wr→Nat→Int × Int
 |[],_=>(0,0)
 |x :: l,i=>if mX sz x≠0 then (i,mX sz x) else dS sz l (i+1)
def qo (im:List (List fV)) (l:List Wr):List (List fV):=if ql im≠0 then [] else VZ (dS (lens im) l 0).2 (l.foldl CG im)
def qp (im:List (List fV)) (l:List Wr):Int:=if ql im≠0 then 0 else (dS (lens im) l 0).1
def qw (im:List (List fV)) (l:List Wr):Int:=if ql im≠0 then ql im else (dS (lens im) l 0).2
def qx (w:World) (im:List (List fV)) (l:List Wr):Ending→World→Prop:=fun e w' =>
 ∃ a n c,e=.returned (.tuple #[.slice a n c,.int .i64 (qp im l),.int .i64 (qw im l)])∧Sl ni (w.heap.size≤·) w' a n c (qo im l)∧(a=none∨qw im l=0)∧Below w.heap.size w w'
theorem qx.mk {w w':World} {im:List (List fV)} {l:List Wr} {a:Option Addr} {n c:Nat} {i e:Int} (hi:i=qp im l) (he:e=qw im l) (h:Sl ni (w.heap.size≤·) w' a n c (qo im l)) (hz:a=none∨qw im l=0) (hB:Below w.heap.size w w') :
  qx w im l (.returned (.tuple #[.slice a n c,.int .i64 i,.int .i64 e])) w':=⟨a,n,c,by rw [hi,he],h,hz,hB⟩
theorem GX {sz:List Int} {l:List Wr} {k:Nat} {x:Wr} (hx:l[k]?=some x) (h:dS sz l 0=dS sz (l.drop k) k) (hf:mX sz x=0):dS sz l 0=dS sz (l.drop (k+1)) (k+1):=by
 obtain ⟨hk,rfl⟩:=List.getElem?_eq_some_iff.1 hx
 rw [h,List.drop_eq_getElem_cons hk,dS,if_neg (by rw [hf];decide)]
theorem MB {sz:List Int} {l:List Wr} {k:Nat} {x:Wr} (hx:l[k]?=some x) (h:dS sz l 0=dS sz (l.drop k) k) (hf:mX sz x≠0):dS sz l 0=((k:Int),mX sz x):=by
 obtain ⟨hk,rfl⟩:=List.getElem?_eq_some_iff.1 hx
 rw [h,List.drop_eq_getElem_cons hk,dS,if_pos hf]
theorem MC {sz:List Int} {l:List Wr} {k:Nat} (hk:l.length≤k) (h:dS sz l 0=dS sz (l.drop k) k):dS sz l 0=(0,0):=by
 rw [h,List.drop_eq_nil_of_le hk,dS]
theorem vW {l d:List fV} {s:Nat} (h:s+d.length≤l.length):(zM l s d).length=l.length:=by
 unfold zM;simp;omega
theorem V3 {im:List (List fV)} {v s:Int} {d:List fV} (h:mX (lens im) (v,s,d)=0):0≤v∧v<im.length∧0<d.length∧0≤s∧∃ x,im[v.toNat]?=some x∧s+d.length≤x.length:=by
 unfold mX kL at h
 simp only at h
 split at h
 ·omega
 ·rename_i h1
  split at h
  ·omega
  ·rename_i h2
   split at h
   ·omega
   ·rename_i h3
    have h4:v.toNat<im.length:=by simp [lens] at h1;omega
    have e:(lens im).getD v.toNat 0=((im[v.toNat]'h4).length:Int):=by simp [lens,List.getD,h4]
    rw [e] at h3
    simp [lens] at h1
    exact ⟨by omega,by omega,by omega,by omega,_,List.getElem?_eq_getElem h4,by omega⟩
theorem Qo {im:List (List fV)} {x:Wr} (h:mX (lens im) x=0):lens (CG im x)=lens im:=by
 obtain ⟨v,s,d⟩:=x
 obtain ⟨h1,h2,h3,h4,y,hy,h5⟩:=V3 h
 unfold lens CG
 rw [List.map_set]
 apply List.ext_getElem?
 intro i
 rw [List.getElem?_set]
 by_cases hi:v.toNat=i
 ·subst hi
  have hl:=(List.getElem?_eq_some_iff.1 hy).1
  simp only [List.length_map,if_true,if_pos hl,List.getElem?_map,hy,Option.map_some]
  rw [Dn hy,vW (by omega)]
 ·rw [if_neg hi]
set_option maxHeartbeats 4000000 in
theorem UQ {a:Option Addr} {n c:Nat} {im:List (List fV)} {ok ok2:Nat→Prop} {w:World} (h:Sl ni ok w a n c im) (hn:n≤1000000) (hvs:∀ v∈im,v.length≤1000000)
  {la:Option Addr} {ln lc:Nat} {l:List Wr} (hl:Sl wrR ok2 w la ln lc l) :
  Calls Tryz.prog 100 #[.slice a n c,.slice la ln lc] w (qx w im l):=by
 by_cases he:ql im=0
 rotate_left
 ·have hb:(ql im != 0)=true:=by simp [he]
  have HE:=Lib.hid he;clear he
  go_enter Tryz.func100,Tryz.ntmps100
  go_wp2_with fail
  refine (FI h hn).mono ?_
  rintro e w1 ⟨rfl,hB1⟩
  go_wp2
  go_ret3
  exact qx.mk (by rw [qp,if_pos HE.out]) (by rw [qw,if_pos HE.out]) (by rw [qo,if_pos HE.out];exact Sl.nil0 _ _ _) (.inl rfl) hB1
 have hb:(ql im != 0)=false:=by simp [he]
 have HE:=Lib.hid he;clear he
 have hls:=hl.small
 go_enter Tryz.func100,Tryz.ntmps100
 go_wp2_with fail
 refine (FI h hn).mono ?_
 rintro e w1 ⟨rfl,hB1⟩
 go_wp2_with fail
 refine (UO (h.below hB1) hn hvs).mono ?_
 rintro e w2 ⟨v0,rfl,hown0,hB2⟩
 have hB3:=hB1.trans (hB2.mono hB1.size)
 go_wp2
 go_loopw [21] (fun i wr=>∃ k:Nat,k≤ln∧i=.int .i64 k∧Hid (dS (lens im) l 0=dS (lens im) (l.drop k) k∧lens ((l.take k).foldl CG im)=lens im)∧kT pJ w1.heap.size wr.heap.size 74 wr v0 ((l.take k).foldl CG im)∧Below w1.heap.size w1 wr) (fun i _=>ln - (intOf i).toNat)
 case atStart=>exact ⟨0,Nat.zero_le _,rfl,⟨rfl,rfl⟩,hown0,hB2⟩
 case round =>
  obtain ⟨k,hk,rfl,HK,hown,hB⟩:=hrel
  by_cases hlt:k<ln
  ·obtain ⟨b,off,rfl,_,_⟩:=hl.addr hlt
   obtain ⟨⟨v,s,d⟩,hx⟩:=hl.get hlt
   obtain ⟨da,dn,dc,hc0,hc1,hc2,hv,hs,hd⟩:=(hl.below (hB1.trans (hB.mono hB1.size))).wr hx
   have HX:=Lib.hid hx;clear hx
   obtain ⟨a2,n2,c2,rfl,Za⟩:=hown.img
   generalize hcur:(l.take k).foldl CG im=cur at *
   have HC:=Lib.hid hcur;clear hcur
   have hds:=hd.small
   by_cases hf:kL (lens cur) v s dn=0
   rotate_left
   ·have hfb:(kL (lens cur) v s dn != 0)=true:=by simp [hf]
    have HF:=Lib.hid hf;clear hf
    go_wp2_with fail
    refine (IX (Za.below ((Below.refl _ _).alloc (Nat.le_refl _) _)) hv hs hds).mono ?_
    rintro e w3 ⟨rfl,hB4⟩
    go_wp2
    go_ret3
    have e0:dS (lens im) l 0=((k:Int),kL (lens cur) v s dn):=by
     have e1:mX (lens im) (v,s,d)=kL (lens cur) v s dn:=by unfold mX;rw [HK.out.2,hd.len]
     rw [← e1]
     exact MB HX.out HK.out.1 (by rw [e1];exact HF.out)
    exact qx.mk (by rw [qp,if_neg (by simp [HE.out]),e0]) (by rw [qw,if_neg (by simp [HE.out]),e0]) (by rw [qo,if_neg (by simp [HE.out]),e0,Y8 HF.out];exact Sl.nil0 _ _ _) (.inl rfl)
     ((hB1.trans (hB.mono hB1.size)).trans (((Below.refl _ _).alloc (Nat.le_refl _) _).trans (hB4.mono (by simp)) |>.mono (Nat.le_trans hB1.size hB.size)))
   ·have hfb:(kL (lens cur) v s dn != 0)=false:=by simp [hf]
    have hfw:mX (lens cur) (v,s,d)=0:=by unfold mX;rw [hd.len];exact hf
    obtain ⟨h1,h2,h3,h4,x,hx,h5⟩:=V3 hfw
    obtain ⟨v,rfl⟩:=Int.eq_ofNat_of_zero_le h1
    obtain ⟨s,rfl⟩:=Int.eq_ofNat_of_zero_le h4
    rw [Int.toNat_natCast] at hx
    have HFW:=Lib.hid hfw;clear hfw
    have HF:=Lib.hid hf;clear hf
    have hdn:0<dn:=by rw [← hd.len];exact h3
    have h5':s+dn≤x.length:=by rw [hd.len] at h5;omega
    have h2':v<n2:=by rw [← Za.len];omega
    go_wp2_with fail
    refine (IX (Za.below ((Below.refl _ _).alloc (Nat.le_refl _) _)) hv hs hds).mono ?_
    rintro e w3 ⟨rfl,hB4⟩
    have hB5:Below wr.heap.size wr w3:=((Below.refl _ _).alloc (Nat.le_refl _) _).trans (hB4.mono (by simp))
    -- the row that is written
    obtain ⟨g,cap,cc,okk,hvv,hBg,hg,hcc,⟨u,rfl,hub,hu,_⟩,aoH,hput⟩:=((hown.below hB5).below ((Below.refl _ _).drew)).at hx
    cases hvv
    have hu':=hu
    obtain ⟨xs,hrow,_⟩:=hu
    obtain ⟨gi,Qp,rfl⟩:∃ gi Qp,u=.slice (some ⟨gi,0,none⟩) x.length Qp:=by
     rcases hrow.2 with ⟨_,h0⟩|⟨gi,Qp,cur',hvu,_⟩
     ·omega
     ·exact ⟨gi,Qp,hvu⟩
    have hcap:x.length≤Qp:=by obtain ⟨_,_,_,e,q⟩:=hu'.sl;cases e;exact q.cap
    have hcell:w3.cell? ⟨g,v,none⟩=some (.slice (some ⟨gi,0,none⟩) x.length Qp):=by have:=hcc 0 Nat.zero_lt_one;simpa [pJ,gW] using this
    have hgi:=aoH gi (hub gi rfl)
    have hw3:=hB5.size
    have hl0:=uD (g:=gi) (L8 hB4 (j:=0) rfl) (by show wr.heap.size≠gi;omega)
    have hl1:=uD (g:=gi) (L8 hB4 (j:=1) rfl) (by show wr.heap.size≠gi;omega)
    have hl2:=uD (g:=gi) (L8 hB4 (j:=2) rfl) (by show wr.heap.size≠gi;omega)
    have hl3:=uD (g:=gi) hcell (fun e=>hgi.2.2 e.symm)
    have hsl:=fun w=>Qm Tryz.underlying74 Tryz.amD (some ⟨gi,0,none⟩) x.length Qp s (by omega) w
    have hsub:uF (some ⟨gi,0,none⟩) Qp s 8=some ⟨gi,s * 8,none⟩:=by unfold uF;rw [if_neg (by omega)];simp [Addr.add_lit]
    rw [hsub] at hsl
    have HS:=Lib.hid hsub;clear hsub
    have aqJ:s≤x.length:=by omega
    clear h5 hcc
    go_wp2_with fail
    refine Du (fun w'=>∃ x:rE (w3) (gi),w'=x.w) [([0,1,2,3,4,5,6,7,8,9],10)] [] Tryz.mixed (by kernel_rfl) (rE.drew _ _) ?_
    refine QH ?_
    simp only [pick,List.filterMap_cons,List.filterMap_nil,List.getElem?_toArray,List.getElem?_cons_succ,List.getElem?_cons_zero]
    change wpQuiet _ _ _ _ [_,_,_,_,_,_,_,_,_,_] _
    repeat (go_big_quiet_step (fail))
    refine wpQuiet_nil ?_
    change wpList _ _ _ [_] _ _
    refine FD Tryz.ahC Flat.sec rfl _ _ rfl (s:=s) (r:=yx) rfl rfl hu' (ys:=d) (((hd.below hB5).below ((Below.refl _ _).drew))) (by omega) hdn (by omega) ?_
    intro w4 hrow4 Zb aoy
    have hgr:w3.grownBy w4 (some gi):=Qj (grown_drew _ _) Zb
    have hown4:=hput w4 (zM x s d) (fun b hb hne=>Zb.block b hb (fun e=>hne (by rw [Option.some.inj e];exact hub gi rfl))) Zb.os Zb.tape Zb.output Zb.size ⟨_,rfl,hub,hrow4,fun e=>by
     have:=vW (l:=x) (d:=d) (s:=s) (by rw [hd.len];omega)
     rw [e] at this;simp at this;omega⟩
    have e1:CG cur ((v:Int),(s:Int),d)=cur.set v (zM x s d):=by
     unfold CG;rw [Int.toNat_natCast,Int.toNat_natCast,Dn hx]
    have H1:=Lib.hid e1;clear e1
    have HXX:=Lib.hid hx;clear hx
    go_wp2_with fail
    refine ⟨rE.of hgr,?_⟩
    refine MW ?_
    simp only [pick,List.filterMap_cons,List.filterMap_nil,List.getElem?_toArray,List.getElem?_cons_succ,List.getElem?_cons_zero]
    change wpQuiet _ _ _ _ [] _
    repeat (go_big_quiet_step (fail))
    refine wpQuiet_nil ?_
    go_wp2
    go_roundw
    case rel =>
     refine ⟨k+1,by omega,by go_num,?_,?_,(hB.trans (hB5.mono hB.size)).grown hgr (by have:=hB.size;omega) (fun j hj=>by cases hj;omega)⟩
     ·show _∧_
      have hfw:mX (lens im) ((v:Int),(s:Int),d)=0:=by rw [← HK.out.2];exact HFW.out
      refine ⟨GX HX.out HK.out.1 hfw,?_⟩
      rw [oh HX.out,List.foldl_append,HC.out]
      show lens (CG cur _)=_
      rw [Qo HFW.out,HK.out.2]
     ·rw [oh HX.out,List.foldl_append,HC.out]
      show kT _ _ _ _ _ _ (CG cur _)
      rw [H1.out]
      exact hown4.up (by have:=hgr.size;omega)
    case measure=>simp [intOf];omega
  ·obtain rfl:k=ln:=by omega
   obtain ⟨a2,n2,c2,rfl,Za⟩:=hown.img
   go_wp2
   go_ret3
   have e0:=MC (Nat.le_of_eq hl.len) HK.out.1
   rw [zL hl.len] at Za
   exact qx.mk (by rw [qp,if_neg (by simp [HE.out]),e0]) (by rw [qw,if_neg (by simp [HE.out]),e0]) (by rw [qo,if_neg (by simp [HE.out]),e0,adz rfl];exact Za.mono fun b hb=>Nat.le_trans hB1.size hb) (.inr (by rw [qw,if_neg (by simp [HE.out]),e0]))
    (hB1.trans (hB.mono hB1.size))
end Go.Proofs.YtpcncggjmabnaaaGreatDoor

namespace Go.Proofs.YtpcncggjmabnaaaGreatDoor
open Go.RowKit V
theorem UR {w:World} {b o:Nat} {u:Value} (h:w.cell? ⟨b,o,none⟩=some u):cu w b:=by
 unfold World.cell? at h
 simp only at h
 split at h
 ·rename_i e;exact ⟨_,_,_,e⟩
 ·cases h
theorem yj {α:Type} {r:Rep α} {enc:α→PV} {ok:Nat→Prop} {w:World} {l:List α} {sz:Nat} {v:Value} (hsz:sz=r.sz) (hc:∀ x,(enc x).cells.length=r.sz)
  (hr:∀ x∈l,∀ (cs:List Value),cs.length=r.sz→(∀ (j:Nat) p u,(enc x).cells[j]?=some p→cs[j]?=some u→aK ok w p u)→r.rd ok w cs x) (h:aK ok w (.list sz (l.map enc)) v):∃ a n c,v=.slice a n c∧Sl r ok w a n c l:=by
 generalize he:l.map enc=es at h
 cases h with
 |nil _ a =>
  have:l=[]:=by simpa using he
  subst this
  exact ⟨a,0,0,rfl,⟨rfl,Nat.le_refl _,Nat.zero_le _,fun _=>rfl,.inl rfl⟩⟩
 |list _ _ b off c cv h1 h2 h3 h4 h6 h7 h8 =>
  subst hsz he
  refine ⟨_,_,c,rfl,⟨by simp,h3,h4,(fun e=>by cases e),.inr ⟨b,off,rfl,h1,h2.lt,fun i x hx=>?_⟩⟩⟩
  have hi:(l.map enc)[i]?=some (enc x):=by simp [hx]
  refine ⟨(List.range r.sz).map (cv i),fun j hj=>?_,hr x (List.mem_of_getElem? hx) _ (by simp) fun j p u hp hu=>?_⟩
  ·have hj':j<(enc x).cells.length:=by rw [hc];exact hj
   rw [(h7 i _ j _ hi (List.getElem?_eq_getElem hj')).1]
   simp [hj]
  ·have hj:j<r.sz:=by have:=(List.getElem?_eq_some_iff.1 hp).1;rw [hc] at this;exact this
   have:u=cv i j:=by simp [hj] at hu;exact hu.symm
   rw [this]
   exact h8 i _ j _ hi hp
theorem FK {α:Type} {r:Rep α} {enc:α→PV} {ok ok':Nat→Prop} {w:World} {l:List α} {a:Option Addr} {n c:Nat} (hk:∀ b,ok b→b<w.heap.size→ok' b) (hp0:0<r.sz) (hc:∀ x,(enc x).cells.length=r.sz)
  (hr:∀ x∈l,∀ (cs:List Value),cs.length=r.sz→r.rd ok w cs x→∀ (j:Nat) p u,(enc x).cells[j]?=some p→cs[j]?=some u→u.oneCell'=true∧aK ok' w p u) (hz:l=[]→c=0) (h:Sl r ok w a n c l):aK ok' w (.list r.sz (l.map enc)) (.slice a n c):=by
 obtain ⟨h1,h2,h3,h4,h5⟩:=h
 by_cases hl:l=[]
 ·have:=hz hl
  subst hl
  have:n=0:=by simpa using h1.symm
  subst this
  have:c=0:=by omega
  subst this
  exact .nil _ _
 ·rcases h5 with h5|⟨b,off,rfl,hb,hlt,h6⟩
  ·exact absurd (List.eq_nil_of_length_eq_zero (by omega)) hl
  ·have hn:n=(l.map enc).length:=by simp [h1]
   rw [hn]
   have key:∀ (i:Nat) (x:α) (j:Nat) (p:PV),l[i]?=some x→(enc x).cells[j]?=some p→∃ u,w.cell? ⟨b,off+i * r.sz+j,none⟩=some u∧u.oneCell'=true∧aK ok' w p u:=by
    intro i x j p hx hp
    obtain ⟨cs,g1,g2⟩:=h6 i x hx
    have hj:j<r.sz:=by have:=(List.getElem?_eq_some_iff.1 hp).1;rw [hc] at this;exact this
    have hl2:=r.len g2
    have hu:cs[j]?=some (cs[j]'(by omega)):=List.getElem?_eq_getElem (by omega)
    obtain ⟨k1,k2⟩:=hr x (List.mem_of_getElem? hx) cs hl2 g2 j p _ hp hu
    exact ⟨_,by rw [g1 j hj,hu],k1,k2⟩
   have get:∀ {i:Nat} {e:PV},(l.map enc)[i]?=some e→∃ x,l[i]?=some x∧e=enc x:=by
    intro i e he
    rw [List.getElem?_map] at he
    cases hx:l[i]? with
    |none=>rw [hx] at he;cases he
    |some x=>rw [hx] at he;cases he;exact ⟨x,rfl,rfl⟩
   have hce:cu w b:=by
    cases l with
    |nil=>exact absurd rfl hl
    |cons x l =>
     have hj:0<(enc x).cells.length:=by rw [hc];exact hp0
     obtain ⟨u,k1,_⟩:=key 0 x 0 _ rfl (List.getElem?_eq_getElem hj)
     exact UR k1
   refine .list _ _ b off c (fun i j=>(w.cell? ⟨b,off+i * r.sz+j,none⟩).getD undef) (hk b hb hlt) hce (by simp;omega) h3 (fun e he=>?_) (fun i e j x hi hj=>?_) fun i e j x hi hj=>?_
   ·obtain ⟨x,_,rfl⟩:=List.mem_map.1 he;exact hc x
   ·obtain ⟨x',hx,rfl⟩:=get hi
    obtain ⟨u,k1,k2,k3⟩:=key i x' j x hx hj
    rw [k1];exact ⟨rfl,k2⟩
   ·obtain ⟨x',hx,rfl⟩:=get hi
    obtain ⟨u,k1,k2,k3⟩:=key i x' j x hx hj
    rw [k1];exact k3
theorem V4 {ok:Nat→Prop} {w:World} {l:List fV} {v:Value} (h:aK ok w (bf l) v):∃ a n c,v=.slice a n c∧Sl yx ok w a n c l:=by
 refine yj (r:=yx) (enc:=iJ) rfl (fun x=>oW x) (fun x _ cs hl hcs=>?_) h
 show cs=lT x
 refine List.ext_getElem? fun j=>?_
 by_cases hj:j<8
 ·have h1:cs[j]?=some (cs[j]'(by rw [hl];exact hj)):=List.getElem?_eq_getElem _
  have h2:(iJ x).cells[j]?=some (.int .u8 ((x.toList[j]'(by simpa using hj)).toNat:Int)):=by
   show (lY x)[j]?=_
   have hj':j<x.toList.length:=by simpa using hj
   simp only [lY,List.getElem?_map,List.getElem?_eq_getElem hj',Option.map_some]
  have:=(hcs j _ _ h2 h1).dW
  have hj':j<x.toList.length:=by simpa using hj
  rw [h1,this]
  simp only [lT,List.getElem?_map,List.getElem?_eq_getElem hj',Option.map_some]
 ·have e1:cs.length=8:=hl
  rw [List.getElem?_eq_none (by omega),List.getElem?_eq_none (by rw [uG];omega)]
theorem ajX {ok:Nat→Prop} {w:World} {l:List (List fV)} {v:Value} (h:aK ok w (.list 1 (l.map bf)) v):∃ a n c,v=.slice a n c∧Sl ni ok w a n c l:=by
 refine yj (r:=ni) (enc:=bf) rfl (fun x=>rfl) (fun x _ cs hl hcs=>?_) h
 match cs,hl with
 |[u],_ =>
  obtain ⟨a,n,c,rfl,hs⟩:=V4 (hcs 0 _ u rfl rfl)
  exact ⟨a,n,c,rfl,hs⟩
theorem ajY {ok:Nat→Prop} {w:World} {l:List bK} {v:Value} (hok:∀ x∈l,nP x.volume=true∧nP x.start=true) (h:aK ok w (.list 3 (l.map dQ)) v):∃ a n c,v=.slice a n c∧Sl wrR ok w a n c (l.map fun x=>(x.volume,x.start,x.data)):=by
 have:∃ a n c,v=.slice a n c∧Sl (α:=bK) ⟨3,fun ok w cs x=>wrR.rd ok w cs (x.volume,x.start,x.data),fun h=>wrR.len h,fun hk h=>wrR.mono hk h,fun h=>wrR.live h,fun hf h=>wrR.frame hf h,fun h=>wrR.one h⟩ ok w a n c l:=by
  refine yj rfl (fun x=>rfl) (fun x hx cs hl hcs=>?_) h
  match cs,hl with
  |[u,u2,u3],_ =>
   have e1:=(hcs 0 _ u rfl rfl).dW
   have e2:=(hcs 1 _ u2 rfl rfl).dW
   obtain ⟨a,n,c,rfl,hs⟩:=V4 (l:=x.data) (hcs 2 _ u3 rfl rfl)
   obtain ⟨o1,o2⟩:=hok x hx
   simp only [nP,Bool.and_eq_true,decide_eq_true_eq] at o1 o2
   exact ⟨[u],[u2,.slice a n c],rfl,⟨by rw [e1],o1⟩,⟨[u2],[.slice a n c],rfl,⟨by rw [e2],o2⟩,a,n,c,rfl,hs⟩⟩
 obtain ⟨a,n,c,rfl,h1,h2,h3,h4,h5⟩:=this
 refine ⟨a,n,c,rfl,⟨by simpa using h1,h2,h3,h4,h5.imp id fun ⟨b,off,g1,g2,g3,g4⟩=>⟨b,off,g1,g2,g3,fun i x hx=>?_⟩⟩⟩
 rw [List.getElem?_map] at hx
 cases hx':l[i]? with
 |none=>rw [hx'] at hx;cases hx
 |some y=>rw [hx'] at hx;cases hx;exact g4 i y hx'
theorem agG {ok ok':Nat→Prop} {w:World} {l:List (List fV)} {a:Option Addr} {n c:Nat} (hk:∀ b,ok b→b<w.heap.size→ok' b) (hz:l=[]→c=0) (hne:∀ x∈l,x≠[]) (h:Sl ni ok w a n c l):aK ok' w (.list 1 (l.map bf)) (.slice a n c):=by
 refine FK (r:=ni) (enc:=bf) hk (by decide) (fun x=>rfl) (fun x hx cs hl hrd j p u hp hu=>?_) hz h
 obtain ⟨a,n,c,rfl,hs⟩:=hrd
 match j with
 |j+1=>simp [bf,PV.cells] at hp
 |0 =>
  cases hp
  cases hu
  refine ⟨rfl,FK (r:=yx) (enc:=iJ) hk (by decide) (fun x=>oW x) (fun s _ cs hl hrd j p u hp hu=>?_) (fun e=>absurd e (hne x hx)) hs⟩
  have hrd:cs=lT s:=hrd
  subst hrd
  simp only [lT,List.getElem?_map,Option.map_eq_some_iff] at hu
  have hp:(lY s)[j]?=some p:=hp
  simp only [lY,List.getElem?_map,Option.map_eq_some_iff] at hp
  obtain ⟨b,h1,rfl⟩:=hu
  obtain ⟨b',h2,rfl⟩:=hp
  rw [h1] at h2
  cases h2
  exact ⟨rfl,.int _ _⟩
theorem IY (sz:List Int) (x:bK):y9 sz x=mX sz (x.volume,x.start,x.data):=by
 simp only [mX,kL,y9]
 repeat' split
 all_goals first|rfl|omega
theorem AU (sz:List Int):∀ (l:List bK) (i:Nat),uj sz l i=dS sz (l.map fun x=>(x.volume,x.start,x.data)) i
 |[],_=>rfl
 |x :: l,i=>by rw [List.map_cons,uj,dS,IY,AU sz l (i+1)]
theorem UU (im:List (List fV)) (l:List bK):TJ im l=qw im (l.map fun x=>(x.volume,x.start,x.data)):=by
 unfold TJ qw;rw [AU];rfl
theorem ajZ (im:List (List fV)) (l:List bK):apI im l=qp im (l.map fun x=>(x.volume,x.start,x.data)):=by
 unfold apI qp;rw [AU];rfl
theorem agH (im:List (List fV)) (x:bK):TI im x=CG im (x.volume,x.start,x.data):=rfl
theorem V5:∀ (l:List bK) (im:List (List fV)),l.foldl TI im=(l.map fun x=>(x.volume,x.start,x.data)).foldl CG im
 |[],_=>rfl
 |x :: l,im=>by rw [List.map_cons,List.foldl_cons,List.foldl_cons,agH,V5 l]
theorem aj0 (im:List (List fV)) (l:List bK):JK im l=qo im (l.map fun x=>(x.volume,x.start,x.data)):=by
 unfold JK qo
 rw [UU,V5]
 unfold qw VZ
 by_cases h:ql im=0
 ·simp [h]
 ·simp [h]
theorem adB {im:List (List fV)} {x:bK} (h:y9 (jV im) x=0):jV (TI im x)=jV im:=by
 rw [IY] at h
 exact Qo h
theorem FM:∀ (l:List bK) (im:List (List fV)) (i:Nat),(uj (jV im) l i).2=0→jV (l.foldl TI im)=jV im
 |[],_,_,_=>rfl
 |x :: l,im,i,h=>by
  unfold uj at h
  split at h
  ·rename_i h2;exact absurd h h2
  ·rename_i h2
   have h2:y9 (jV im) x=0:=by omega
   have e:=adB h2
   rw [List.foldl_cons,FM l (TI im x) (i+1) (by rw [e];exact h),e]
theorem IZ {im:List (List fV)} {l:List bK} (h:TJ im l=0):jV (JK im l)=jV im:=by
 unfold JK
 rw [if_pos h]
 unfold TJ at h
 split at h
 ·rename_i h2;exact absurd h h2
 ·exact FM l im 0 h
theorem adC {im:List (List fV)} (h:En (jV im)=0):im≠[]∧∀ v∈im,v≠[]:=by
 unfold En at h
 split at h
 ·cases h
 ·rename_i h1
  split at h
  ·cases h
  ·rename_i h2
   refine ⟨fun e=>by subst e;simp [jV] at h1,fun v hv e=>?_⟩
   subst e
   refine h2 (List.any_eq_true.2 ⟨0,?_,by decide⟩)
   exact List.mem_map.2 ⟨[],hv,rfl⟩
theorem adD {im:List (List fV)} {l:List bK}:(TJ im l=0→JK im l≠[])∧∀ v∈JK im l,v≠[]:=by
 by_cases h:TJ im l=0
 ·have h0:En (jV im)=0:=by
   unfold TJ at h
   split at h
   ·rename_i h2;exact absurd h h2
   ·omega
  have:=adC (im:=JK im l) (by rw [IZ h];exact h0)
  exact ⟨fun _=>this.1,this.2⟩
 ·exact ⟨fun e=>absurd e h,fun v hv=>by unfold JK at hv;rw [if_neg h] at hv;cases hv⟩
theorem adE {f:Nat} (hc:callable Tryz.prog f=true) (hA:∀ {a:Option Addr} {n c:Nat} {im:List (List fV)} {ok ok2:Nat→Prop} {w:World},Sl ni ok w a n c im→n≤1000000→(∀ v∈im,v.length≤1000000) →
  ∀ {la:Option Addr} {ln lc:Nat} {l:List Wr},Sl wrR ok2 w la ln lc l→Calls Tryz.prog f #[.slice a n c,.slice la ln lc] w (qx w im l)) :
  ∀ args rs,um args=some rs→callable Tryz.prog f=true∧nK Tryz.prog f args rs:=fun args rs h=>by
 obtain ⟨im,l,rfl,hw,hn,hv,rfl⟩:=Yi h
 refine ⟨hc,fun T0 w vs h1 h2 h3 h4 _=>?_⟩
 match vs,h3 with
 |[v0,v1],_ =>
  obtain ⟨a,n,c,rfl,hs⟩:=ajX (h4 0 _ v0 rfl rfl)
  obtain ⟨la,ln,lc,rfl,hl⟩:=ajY hw (h4 1 _ v1 rfl rfl)
  refine (hA hs (by rw [← hs.len];exact hn) hv hl).mono ?_
  rintro e w' ⟨a',n',c',rfl,hr,hz,hB⟩
  rw [← ajZ,← UU]
  rw [← aj0] at hr
  rw [← UU] at hz
  refine ⟨_,fun b=>if w.heap.size≤b∧b<w'.heap.size then .ro else T0 b,rfl,hB,fun b hb=>if_neg (by omega),fun b hb=>?_,#[_,_,_],rfl,rfl,fun i r u hr' hu=>?_⟩
  ·show (if _ then _ else T0 b)=_
   rw [if_neg (by omega)];exact h2 b (by have:=hB.size;omega)
  ·match i with
   |0 =>
    cases hr';cases hu
    refine agG (ok:=(w.heap.size≤·)) (fun b hb hlt=>if_pos ⟨hb,hlt⟩) (fun e=>?_) adD.2 hr
    rcases hz with hz|hz
    ·exact hr.nil hz
    ·exact absurd e (adD.1 hz)
   |1=>cases hr';cases hu;exact .int _ _
   |2=>cases hr';cases hu;exact .int _ _
   |i+3=>simp at hr'
theorem Zc:∀ args rs,um args=some rs→callable Tryz.prog 100=true∧nK Tryz.prog 100 args rs:=adE (by kernel_rfl) fun h hn hv _ _ _ _ hl=>UQ h hn hv hl
end Go.Proofs.YtpcncggjmabnaaaGreatDoor

namespace Go.Proofs.YtpcncggjmabnaaaGreatDoor
open Go.RowKit V
def FN (f:Nat) (fn:gy):Env:=fun k=>if k=f then some (.code fn) else none
theorem AX {P:Program} {f:Nat} {fn:gy} (h:bJ P f fn=true):BG P (FN f fn):=fun k d hk=>by
 unfold FN at hk
 split at hk
 ·rename_i e;subst e;cases hk;exact h
 ·cases hk
def emR (n:Nat):Rep Unit where
 sz:=n
 rd _ _ cs _:=cs.length=n∧∀ u∈cs,u.oneCell'=true
 len h:=h.1
 mono _ h:=h
 live h:=h
 frame _ h:=h
 one h:=h.2
theorem Flat.em (n:Nat):Flat (emR n):=fun h=>h
theorem UW {ok:Nat→Prop} {w:World} {sz:Nat} {v:Value} (h:aK ok w (.list sz []) v):∃ a c,v=.slice a 0 c∧Sl (emR sz) (fun _=>True) w a 0 c []:=by
 obtain ⟨l,hl⟩:∃ l:List PV,l=[]:=⟨_,rfl⟩
 rw [← hl] at h
 cases h with
 |nil _ a=>exact ⟨a,0,rfl,⟨rfl,Nat.le_refl _,Nat.zero_le _,fun _=>rfl,.inl rfl⟩⟩
 |list _ _ b off c cv h1 h2 h3 h4 h6 h7 h8=>subst hl;exact ⟨_,c,rfl,⟨rfl,Nat.zero_le _,h4,(fun e=>by cases e),.inl rfl⟩⟩
--+
theorem amE:pV Tryz.prog 74 79 8 8 (.agg #[.int .u8 0,.int .u8 0,.int .u8 0,.int .u8 0,.int .u8 0,.int .u8 0,.int .u8 0,.int .u8 0]):=⟨Tryz.underlying74,by kernel_rfl,rfl,by decide⟩
set_option maxHeartbeats 1000000 in
theorem adG {a:Option Addr} {n c:Nat} {l:List Unit} {ok:Nat→Prop} {w:World} (h:Sl (emR 8) ok w a n c l) (hn:n≤1000000) :
  Calls Tryz.prog 86 #[.slice a n c] w fun e w'=>∃ a' n' c',e=.returned (.slice a' n' c')∧(gW (emR 8) 79).rd (w.heap.size≤·) w' [.slice a' n' c'] l∧Below w.heap.size w w':=by
 have heq:=fun (a:Option Addr) (n c:Nat) (w:World)=>Lib.run_eql_slice_nil (P:=Tryz.prog) w 74 79 a n c 0 0 Tryz.underlying74
 cases a with
 |none =>
  have h0:l=[]:=List.eq_nil_of_length_eq_zero (by rw [h.len];have:=h.nil rfl;have:=h.cap;omega)
  have H0:=Lib.hid h0;clear h0
  go_enter Tryz.func86,Tryz.ntmps86
  go_wp2
  go_ret
  refine ⟨_,_,_,rfl,?_,Below.refl _ _⟩
  rw [H0.out]
  exact gW.mk (Own.nil _ _ _ _ _) (fun _=>.inl rfl)
 |some ad =>
  have hs:n≤9223372036854775807:=by have:=Nat.le_trans h.cap h.bnd;unfold maxLen at this;omega
  go_enter Tryz.func86,Tryz.ntmps86
  go_wp2_with (at_builtin;refine sQ amE rfl _ _ rfl rfl (Own.agD (emR 8) (ok:=fun _=>False) (Nat.le_refl _)) rfl ((Src.MX (h.below ((Below.refl _ _).alloc (Nat.le_refl _) _))).flat (Flat.em 8)) ?c1 ?c2 ?c3 ?_)
  case c1=>simp;unfold maxLen;omega
  case c2=>simp;omega
  case c3=>simp
  intro v' w1 hown hgrow hat
  obtain ⟨a',n',c',rfl,_⟩:=hown.sl
  go_wp2
  go_ret
  refine ⟨_,_,_,rfl,gW.mk (by simpa using hown) (fun e=>?_),((Below.refl _ _).alloc (Nat.le_refl _) _).grown hgrow (by simp) (fun k hk=>by cases hk;exact Nat.le_refl _)⟩
  subst e
  obtain ⟨xs,h1,_⟩:=hown
  rcases h1.2 with ⟨hv,_⟩|⟨g,cap,cur,hv,_⟩
  ·exact .inl hv
  ·exact .inr ⟨g,cap,by simpa using hv⟩
theorem UY:bJ Tryz.prog 86 afF=true:=by kernel_rfl
theorem MF {en:Env} (hen:en 86=some (.code afF)) {e:PV} {es:List PV} (hl:(e :: es).length≤lim):cal en 86 [.list 8 (e :: es)]=some [(.list 8 (e :: es),true)]:=by
 have F1:(es.length+1≤lim)=True:=eq_true (by simpa using hl)
 rw [ah hen rfl]
 simp only [afF]
 simp only [start,aQ,aV,aO,aU,aH,aJ,aP,aS,Nat.reduceAdd,Nat.reduceSub]
 simp only [F1,aS,bV,reduceCtorEq,Nat.reduceEqDiff,Nat.reduceAdd,Nat.reduceLT,Nat.reduceLeDiff,Nat.beq]
theorem UZ:∀ args rs,lu 8 args=some rs→callable Tryz.prog 86=true∧nK Tryz.prog 86 args rs:=fun args rs h=>by
 unfold lu at h
 split at h
 case h_2=>cases h
 rename_i sz es
 split at h
 case isFalse=>cases h
 rename_i hc
 obtain ⟨rfl,hl⟩:=hc
 cases h
 cases es with
 |cons e es =>
  obtain ⟨n,hn⟩:=nZ (MF (en:=FN 86 afF) (if_pos rfl) hl)
  exact wO (AX UY) hn
 |nil =>
  refine ⟨by kernel_rfl,fun T0 w vs h1 h2 h3 h4 _=>?_⟩
  match vs,h3 with
  |[v],_ =>
   have hv:=h4 0 _ v rfl rfl
   obtain ⟨a,c,rfl,hsl⟩:=UW hv
   refine (adG (ok:=fun _=>True) hsl (by omega)).mono ?_
   rintro e w' ⟨a',n',c',rfl,hrd,hB⟩
   obtain ⟨v,hv,hb,⟨xs,hown,_⟩,hnil⟩:=hrd
   obtain rfl:Value.slice a' n' c'=v:=by simpa using hv
   rcases hown.2 with ⟨e1,_⟩|⟨g,cap,cur,e1,_,hg,_,hm,hs,_⟩
   ·refine ⟨_,T0,rfl,hB,fun _ _=>rfl,fun b hb=>h2 b (by have:=hB.size;omega),#[_],rfl,rfl,fun i r u hr hu=>?_⟩
    cases i with
    |zero=>cases hr;cases hu;exact .inl ⟨rfl,none,e1⟩
    |succ i=>simp at hr
   ·have hg0:w.heap.size≤g:=hb g (by rw [e1];rfl)
    have hgl:g<w'.heap.size:=(Array.getElem?_eq_some_iff.1 hg).1
    refine ⟨_,fun b=>if b=g then .row (.part 0 0) else T0 b,rfl,hB,fun b hb=>if_neg (by omega),fun b hb=>?_,#[_],rfl,rfl,fun i r u hr hu=>?_⟩
    ·show (if b=g then _ else T0 b)=_
     rw [if_neg (by omega)];exact h2 b (by have:=hB.size;omega)
    ·cases i with
     |zero =>
      cases hr;cases hu
      exact .inr ⟨g,cap,cur,_,e1,if_pos rfl,hg,hs,Nat.zero_le _,hm,(fun e he=>by cases he),fun i e j x hi=>by simp at hi⟩
     |succ i=>simp at hr
--+
theorem amF:pV Tryz.prog 22 3 1 8 (.int .i64 0):=⟨Tryz.underlying22,by kernel_rfl,rfl,by decide⟩
set_option maxHeartbeats 1000000 in
theorem adH {a:Option Addr} {n c:Nat} {l:List Unit} {ok:Nat→Prop} {w:World} (h:Sl (emR 1) ok w a n c l) (hn:n≤1000000) :
  Calls Tryz.prog 39 #[.slice a n c] w fun e w'=>∃ a' n' c',e=.returned (.slice a' n' c')∧(gW (emR 1) 3).rd (w.heap.size≤·) w' [.slice a' n' c'] l∧Below w.heap.size w w':=by
 have heq:=fun (a:Option Addr) (n c:Nat) (w:World)=>Lib.run_eql_slice_nil (P:=Tryz.prog) w 22 3 a n c 0 0 Tryz.underlying22
 cases a with
 |none =>
  have h0:l=[]:=List.eq_nil_of_length_eq_zero (by rw [h.len];have:=h.nil rfl;have:=h.cap;omega)
  have H0:=Lib.hid h0;clear h0
  go_enter Tryz.func39,Tryz.ntmps39
  go_wp2
  go_ret
  refine ⟨_,_,_,rfl,?_,Below.refl _ _⟩
  rw [H0.out]
  exact gW.mk (Own.nil _ _ _ _ _) (fun _=>.inl rfl)
 |some ad =>
  have hs:n≤9223372036854775807:=by have:=Nat.le_trans h.cap h.bnd;unfold maxLen at this;omega
  go_enter Tryz.func39,Tryz.ntmps39
  go_wp2_with (at_builtin;refine sQ amF rfl _ _ rfl rfl (Own.agD (emR 1) (ok:=fun _=>False) (Nat.le_refl _)) rfl ((Src.MX (h.below ((Below.refl _ _).alloc (Nat.le_refl _) _))).flat (Flat.em 1)) ?c1 ?c2 ?c3 ?_)
  case c1=>simp;unfold maxLen;omega
  case c2=>simp;omega
  case c3=>simp
  intro v' w1 hown hgrow hat
  obtain ⟨a',n',c',rfl,_⟩:=hown.sl
  go_wp2
  go_ret
  refine ⟨_,_,_,rfl,gW.mk (by simpa using hown) (fun e=>?_),((Below.refl _ _).alloc (Nat.le_refl _) _).grown hgrow (by simp) (fun k hk=>by cases hk;exact Nat.le_refl _)⟩
  subst e
  obtain ⟨xs,h1,_⟩:=hown
  rcases h1.2 with ⟨hv,_⟩|⟨g,cap,cur,hv,_⟩
  ·exact .inl hv
  ·exact .inr ⟨g,cap,by simpa using hv⟩
theorem U0:bJ Tryz.prog 39 afB=true:=by kernel_rfl
theorem MG {en:Env} (hen:en 39=some (.code afB)) {e:PV} {es:List PV} (hl:(e :: es).length≤lim):cal en 39 [.list 1 (e :: es)]=some [(.list 1 (e :: es),true)]:=by
 have F1:(es.length+1≤lim)=True:=eq_true (by simpa using hl)
 rw [ah hen rfl]
 simp only [afB]
 simp only [start,aQ,aV,aO,aU,aH,aJ,aP,aS,Nat.reduceAdd,Nat.reduceSub]
 simp only [F1,aS,bV,reduceCtorEq,Nat.reduceEqDiff,Nat.reduceAdd,Nat.reduceLT,Nat.reduceLeDiff,Nat.beq]
theorem U1:∀ args rs,lu 1 args=some rs→callable Tryz.prog 39=true∧nK Tryz.prog 39 args rs:=fun args rs h=>by
 unfold lu at h
 split at h
 case h_2=>cases h
 rename_i sz es
 split at h
 case isFalse=>cases h
 rename_i hc
 obtain ⟨rfl,hl⟩:=hc
 cases h
 cases es with
 |cons e es =>
  obtain ⟨n,hn⟩:=nZ (MG (en:=FN 39 afB) (if_pos rfl) hl)
  exact wO (AX U0) hn
 |nil =>
  refine ⟨by kernel_rfl,fun T0 w vs h1 h2 h3 h4 _=>?_⟩
  match vs,h3 with
  |[v],_ =>
   have hv:=h4 0 _ v rfl rfl
   obtain ⟨a,c,rfl,hsl⟩:=UW hv
   refine (adH (ok:=fun _=>True) hsl (by omega)).mono ?_
   rintro e w' ⟨a',n',c',rfl,hrd,hB⟩
   obtain ⟨v,hv,hb,⟨xs,hown,_⟩,hnil⟩:=hrd
   obtain rfl:Value.slice a' n' c'=v:=by simpa using hv
   rcases hown.2 with ⟨e1,_⟩|⟨g,cap,cur,e1,_,hg,_,hm,hs,_⟩
   ·refine ⟨_,T0,rfl,hB,fun _ _=>rfl,fun b hb=>h2 b (by have:=hB.size;omega),#[_],rfl,rfl,fun i r u hr hu=>?_⟩
    cases i with
    |zero=>cases hr;cases hu;exact .inl ⟨rfl,none,e1⟩
    |succ i=>simp at hr
   ·have hg0:w.heap.size≤g:=hb g (by rw [e1];rfl)
    have hgl:g<w'.heap.size:=(Array.getElem?_eq_some_iff.1 hg).1
    refine ⟨_,fun b=>if b=g then .row (.part 0 0) else T0 b,rfl,hB,fun b hb=>if_neg (by omega),fun b hb=>?_,#[_],rfl,rfl,fun i r u hr hu=>?_⟩
    ·show (if b=g then _ else T0 b)=_
     rw [if_neg (by omega)];exact h2 b (by have:=hB.size;omega)
    ·cases i with
     |zero =>
      cases hr;cases hu
      exact .inr ⟨g,cap,cur,_,e1,if_pos rfl,hg,hs,Nat.zero_le _,hm,(fun e he=>by cases he),fun i e j x hi=>by simp at hi⟩
     |succ i=>simp at hr
--+
theorem amG:pV Tryz.prog 91 134 1 8 (.int .u64 0):=⟨Tryz.underlying91,by kernel_rfl,rfl,by decide⟩
set_option maxHeartbeats 1000000 in
theorem adI {a:Option Addr} {n c:Nat} {l:List Unit} {ok:Nat→Prop} {w:World} (h:Sl (emR 1) ok w a n c l) (hn:n≤1000000) :
  Calls Tryz.prog 80 #[.slice a n c] w fun e w'=>∃ a' n' c',e=.returned (.slice a' n' c')∧(gW (emR 1) 134).rd (w.heap.size≤·) w' [.slice a' n' c'] l∧Below w.heap.size w w':=by
 have heq:=fun (a:Option Addr) (n c:Nat) (w:World)=>Lib.run_eql_slice_nil (P:=Tryz.prog) w 91 134 a n c 0 0 Tryz.underlying91
 cases a with
 |none =>
  have h0:l=[]:=List.eq_nil_of_length_eq_zero (by rw [h.len];have:=h.nil rfl;have:=h.cap;omega)
  have H0:=Lib.hid h0;clear h0
  go_enter Tryz.func80,Tryz.ntmps80
  go_wp2
  go_ret
  refine ⟨_,_,_,rfl,?_,Below.refl _ _⟩
  rw [H0.out]
  exact gW.mk (Own.nil _ _ _ _ _) (fun _=>.inl rfl)
 |some ad =>
  have hs:n≤9223372036854775807:=by have:=Nat.le_trans h.cap h.bnd;unfold maxLen at this;omega
  go_enter Tryz.func80,Tryz.ntmps80
  go_wp2_with (at_builtin;refine sQ amG rfl _ _ rfl rfl (Own.agD (emR 1) (ok:=fun _=>False) (Nat.le_refl _)) rfl ((Src.MX (h.below ((Below.refl _ _).alloc (Nat.le_refl _) _))).flat (Flat.em 1)) ?c1 ?c2 ?c3 ?_)
  case c1=>simp;unfold maxLen;omega
  case c2=>simp;omega
  case c3=>simp
  intro v' w1 hown hgrow hat
  obtain ⟨a',n',c',rfl,_⟩:=hown.sl
  go_wp2
  go_ret
  refine ⟨_,_,_,rfl,gW.mk (by simpa using hown) (fun e=>?_),((Below.refl _ _).alloc (Nat.le_refl _) _).grown hgrow (by simp) (fun k hk=>by cases hk;exact Nat.le_refl _)⟩
  subst e
  obtain ⟨xs,h1,_⟩:=hown
  rcases h1.2 with ⟨hv,_⟩|⟨g,cap,cur,hv,_⟩
  ·exact .inl hv
  ·exact .inr ⟨g,cap,by simpa using hv⟩
theorem U2:bJ Tryz.prog 80 afE=true:=by kernel_rfl
theorem MH {en:Env} (hen:en 80=some (.code afE)) {e:PV} {es:List PV} (hl:(e :: es).length≤lim):cal en 80 [.list 1 (e :: es)]=some [(.list 1 (e :: es),true)]:=by
 have F1:(es.length+1≤lim)=True:=eq_true (by simpa using hl)
 rw [ah hen rfl]
 simp only [afE]
 simp only [start,aQ,aV,aO,aU,aH,aJ,aP,aS,Nat.reduceAdd,Nat.reduceSub]
 simp only [F1,aS,bV,reduceCtorEq,Nat.reduceEqDiff,Nat.reduceAdd,Nat.reduceLT,Nat.reduceLeDiff,Nat.beq]
theorem U3:∀ args rs,lu 1 args=some rs→callable Tryz.prog 80=true∧nK Tryz.prog 80 args rs:=fun args rs h=>by
 unfold lu at h
 split at h
 case h_2=>cases h
 rename_i sz es
 split at h
 case isFalse=>cases h
 rename_i hc
 obtain ⟨rfl,hl⟩:=hc
 cases h
 cases es with
 |cons e es =>
  obtain ⟨n,hn⟩:=nZ (MH (en:=FN 80 afE) (if_pos rfl) hl)
  exact wO (AX U2) hn
 |nil =>
  refine ⟨by kernel_rfl,fun T0 w vs h1 h2 h3 h4 _=>?_⟩
  match vs,h3 with
  |[v],_ =>
   have hv:=h4 0 _ v rfl rfl
   obtain ⟨a,c,rfl,hsl⟩:=UW hv
   refine (adI (ok:=fun _=>True) hsl (by omega)).mono ?_
   rintro e w' ⟨a',n',c',rfl,hrd,hB⟩
   obtain ⟨v,hv,hb,⟨xs,hown,_⟩,hnil⟩:=hrd
   obtain rfl:Value.slice a' n' c'=v:=by simpa using hv
   rcases hown.2 with ⟨e1,_⟩|⟨g,cap,cur,e1,_,hg,_,hm,hs,_⟩
   ·refine ⟨_,T0,rfl,hB,fun _ _=>rfl,fun b hb=>h2 b (by have:=hB.size;omega),#[_],rfl,rfl,fun i r u hr hu=>?_⟩
    cases i with
    |zero=>cases hr;cases hu;exact .inl ⟨rfl,none,e1⟩
    |succ i=>simp at hr
   ·have hg0:w.heap.size≤g:=hb g (by rw [e1];rfl)
    have hgl:g<w'.heap.size:=(Array.getElem?_eq_some_iff.1 hg).1
    refine ⟨_,fun b=>if b=g then .row (.part 0 0) else T0 b,rfl,hB,fun b hb=>if_neg (by omega),fun b hb=>?_,#[_],rfl,rfl,fun i r u hr hu=>?_⟩
    ·show (if b=g then _ else T0 b)=_
     rw [if_neg (by omega)];exact h2 b (by have:=hB.size;omega)
    ·cases i with
     |zero =>
      cases hr;cases hu
      exact .inr ⟨g,cap,cur,_,e1,if_pos rfl,hg,hs,Nat.zero_le _,hm,(fun e he=>by cases he),fun i e j x hi=>by simp at hi⟩
     |succ i=>simp at hr
end Go.Proofs.YtpcncggjmabnaaaGreatDoor

namespace Go.Proofs.YtpcncggjmabnaaaGreatDoor.V
end Go.Proofs.YtpcncggjmabnaaaGreatDoor.V

namespace Go.Proofs.YtpcncggjmabnaaaGreatDoor.V
def okW (l:List bK):Prop:=∀ w∈l,nP w.volume=true∧nP w.start=true
theorem aj1 {im:ig} {l:List bK} (hw:okW l) (hl:im.length≤1000000) (hr:∀ v∈im,v.length≤1000000):cal env 100 [.list 1 (im.map bf),.list 3 (l.map dQ)]=some [(.list 1 ((JK im l).map bf),false),(.int .i64 (apI im l),false),(.int .i64 (TJ im l),false)] :=
 (wQ aiw).trans (TK hw hl hr)
end Go.Proofs.YtpcncggjmabnaaaGreatDoor.V

namespace Go.Proofs.YtpcncggjmabnaaaGreatDoor.V
theorem V6:aN (kS 8)=0:=by decide
def U4 (w:bK):Prop:=aT (aC (kS 8)) w=0
theorem V7 {v:Nat} (h:v<8):((aC (kS 8)).getD v []).length=4096:=by
 unfold aC kS
 rw [List.getD_eq_getElem?_getD,List.getElem?_map,List.getElem?_replicate,if_pos h,Option.map_some,Option.getD_some,List.length_replicate]
 rfl
theorem agI {w:bK} (h:U4 w):0≤w.volume∧w.volume<8∧0≤w.start∧w.start+w.data.length≤4096:=by
 obtain ⟨q1,q2,q3,q4⟩:=kY h
 have h8:(aC (kS 8)).length=8:=by rw [iR];unfold kS;rw [List.length_replicate]
 rw [h8] at q2
 rw [V7 (by omega)] at q4
 exact ⟨q1,q2,q3,q4⟩
theorem Qq {w:bK} (h:U4 w):CB w:=by
 obtain ⟨q1,q2,q3,q4⟩:=agI h
 exact ⟨⟨q3,by omega⟩,by omega⟩
def uM (l:List bK) (n:Nat):List bK:=(List.range n).flatMap fun (v:Nat)=>(jX (v:Int) l).map (IW l (v:Int))
def uN (l:List bK):List bK:=uM l 8
theorem sH (l:List bK) (n:Nat):uM l (n+1)=uM l n++(jX (n:Int) l).map (IW l (n:Int)):=by
 unfold uM;rw [List.range_succ,List.flatMap_append];simp
theorem Qr (l:List bK):∀ n,(uM l n).length≤4096 * n
 |0=>by simp [uM]
 |n+1=>by
  rw [sH,List.length_append,List.length_map]
  have:=Qr l n
  have:=LU (n:Int) l
  omega
theorem AY {v:Int} {l:List bK}:∀ e∈jX v l,0≤e.start∧1≤e.count∧e.start+e.count≤4096:=fun e he=>by
 rw [zJ] at he
 exact Az _ _ e he
theorem aj2 {l:List bK} (hm:∀ w∈l,U4 w) (hl:l.length≤10000) {st:St} (h:st.head [0,4,34] st.boxes.length=some ⟨sl 36 [(0,.pv (.list 3 (l.map dQ))),(4,.pv (.int .i64 (0:Nat))),(34,.any)],[],[],none⟩) :
  den env Ky st=some (.normal,⟨sl 36 [(0,.pv (.list 3 (l.map dQ))),(2,.any),(3,.any),(34,.any)],[],[],none⟩):=by
 unfold Ky
 refine bC (env:=env) (nb:=0) (l.length) (fun i=>⟨sl 36 [(0,.pv (.list 3 (l.map dQ))),(4,.pv (.int .i64 i)),(34,.any)],[],[],none⟩) (fun i=>some (.normal,⟨sl 36 [(0,.pv (.list 3 (l.map dQ))),(2,.any),(3,.any),(34,.any)],[],[],none⟩)) h (fun _=>rfl) (fun _=>by simp only [aB,bg,Nat.reduceMul,Nat.reduceBEq,Nat.reduceLT,Nat.reduceLeDiff,Nat.reduceAdd,decide_true,Bool.and_self,Bool.true_and]) ?_ ?_
 ·intro i rb hi ih
  have hi1:=bG hi (by unfold lim;omega)
  have F1:((i:Int)<(l.length:Int))=True:=eq_true (by omega)
  have hx:=rC hi
  have hw:=hm _ (List.getElem_mem hi)
  have e1:=amA
  have e2:=ahp (im:=aC (kS 8)) (w:=l[i]) (by rw [iR];unfold kS;rw [List.length_replicate];unfold lim;omega) (fun v hv=>Nat.le_trans (II V6 v hv) (by decide)) (by have:=(Qq hw).2;unfold lim;omega)
  rw [show aT (aC (kS 8)) l[i]=0 from hw,jA V6] at e2
  unfold dQ at e2
  have Z:((0:Int) != 0)=false:=rfl
  simp only [Kw,F1,e1,e2,Z,hx,iV,aj hi,List.length_map,au,Nat.reduceMul,Nat.reduceBEq,Nat.reduceLT,Nat.reduceLeDiff,reduceCtorEq,Nat.reduceEqDiff,Nat.reduceAdd,Nat.beq]
  rw [ih _ (by simp only [hi1,au,Nat.reduceMul,Nat.reduceBEq,Nat.reduceLT,Nat.reduceLeDiff,reduceCtorEq,Nat.reduceEqDiff,Nat.reduceAdd,Nat.beq]<;>rfl)]
 ·intro rb
  simp only [Kw,Int.lt_irrefl,List.length_map,au,Nat.reduceMul,Nat.reduceBEq,Nat.reduceLT,Nat.reduceLeDiff,reduceCtorEq,Nat.reduceEqDiff,Nat.reduceAdd,Nat.beq]
theorem adJ {l:List bK} (hm:∀ w∈l,U4 w) (hl:l.length≤10000) {st:St} (h:st.head [0,6,7,34] st.boxes.length=some ⟨sl 36 [(0,.pv (.list 3 (l.map dQ))),(6,.row 3 ((uM l ((0:Nat))).map dQ)),(7,.pv (.int .i64 (((0:Nat):Nat):Int))),(34,.any)],[],[],none⟩) :
  den env KA st=some (.normal,⟨sl 36 [(2,.any),(3,.any),(6,.row 3 ((uN l).map dQ))],[],[],none⟩):=by
 unfold KA
 refine bC (env:=env) (nb:=0) (8) (fun i=>⟨sl 36 [(0,.pv (.list 3 (l.map dQ))),(6,.row 3 ((uM l (i)).map dQ)),(7,.pv (.int .i64 ((i:Nat):Int))),(34,.any)],[],[],none⟩) (fun i=>some (.normal,⟨sl 36 [(2,.any),(3,.any),(6,.row 3 ((uN l).map dQ))],[],[],none⟩)) h (fun _=>rfl) (fun _=>by simp only [aB,bg,Nat.reduceMul,Nat.reduceBEq,Nat.reduceLT,Nat.reduceLeDiff,Nat.reduceAdd,decide_true,Bool.and_self,Bool.true_and]) ?_ ?_
 ·intro i rb hi ih
  have hi1:=bG (n:=8) hi (by unfold lim;omega)
  have F1:((i:Int)<8)=True:=eq_true (by omega)
  have hmd:∀ w∈l,CB w:=fun w hw=>Qq (hm w hw)
  have e1:=amx (v:=(i:Int)) hmd hl
  have hun:=LU (i:Int) l
  have e2:=amy (v:=(i:Int)) (es:=jX (i:Int) l) hmd hl (by omega) (fun e he=>by have:=AY e he;omega)
  have hN:=Qr l i
  have F5:((uM l i).length+((jX (i:Int) l).map (IW l (i:Int))).length≤lim)=True:=eq_true (by rw [List.length_map];unfold lim;omega)
  have hs:(uM l (i+1)).map dQ=(uM l i).map dQ++((jX (i:Int) l).map (IW l (i:Int))).map dQ:=by rw [sH,List.map_append]
  rw [hs] at ih
  generalize (jX (i:Int) l).map (IW l (i:Int))=M at *
  simp only [Kz,F1,F5,e1,e2,List.length_map,au,Nat.reduceMul,Nat.reduceBEq,Nat.reduceLT,Nat.reduceLeDiff,reduceCtorEq,Nat.reduceEqDiff,Nat.reduceAdd,Nat.beq]
  rw [ih _ (by simp only [hi1,au,Nat.reduceMul,Nat.reduceBEq,Nat.reduceLT,Nat.reduceLeDiff,reduceCtorEq,Nat.reduceEqDiff,Nat.reduceAdd,Nat.beq]<;>rfl)]
 ·intro rb
  have F1:(((8:Nat):Int)<8)=False:=eq_false (by omega)
  rw [show uM l 8=uN l from rfl]
  simp only [Kz,F1,List.length_map,au,Nat.reduceMul,Nat.reduceBEq,Nat.reduceLT,Nat.reduceLeDiff,reduceCtorEq,Nat.reduceEqDiff,Nat.reduceAdd,Nat.beq]
theorem amH {l:List bK} (hm:∀ w∈l,U4 w) (hl:l.length≤10000):cal env 63 [.list 3 (l.map dQ)]=some [(.list 3 ((uN l).map dQ),true),(.int .i64 0,false)]:=by
 rw [ah aly rfl];simp only [abv,aB,Nat.reduceBEq,Nat.reduceLeDiff,Nat.reduceAdd,List.length_cons,List.length_nil]
 simp only [List.length_map,au,Nat.reduceMul,Nat.reduceBEq,Nat.reduceLT,Nat.reduceLeDiff,reduceCtorEq,Nat.reduceEqDiff,Nat.reduceAdd,Nat.beq]
 rw [aj2 hm hl (by simp only [aB,bg,Nat.reduceMul,Nat.reduceBEq,Nat.reduceLT,Nat.reduceLeDiff,Nat.reduceAdd,decide_true,Bool.and_self,Bool.true_and]<;>rfl)]
 simp only [List.length_map,au,Nat.reduceMul,Nat.reduceBEq,Nat.reduceLT,Nat.reduceLeDiff,reduceCtorEq,Nat.reduceEqDiff,Nat.reduceAdd,Nat.beq]
 rw [adJ hm hl (by simp only [show uM l 0=[] from rfl,List.map_nil];simp only [aB,bg,Nat.reduceMul,Nat.reduceBEq,Nat.reduceLT,Nat.reduceLeDiff,Nat.reduceAdd,decide_true,Bool.and_self,Bool.true_and]<;>rfl)]
 simp only [List.length_map,au,Nat.reduceMul,Nat.reduceBEq,Nat.reduceLT,Nat.reduceLeDiff,reduceCtorEq,Nat.reduceEqDiff,Nat.reduceAdd,Nat.beq]
end Go.Proofs.YtpcncggjmabnaaaGreatDoor.V

namespace Go.Proofs.YtpcncggjmabnaaaGreatDoor.V
theorem agJ {im:ig} {w:bK} (h:aT im w=0):y9 (jV im) w=0:=by
 obtain ⟨q1,q2,q3,q4⟩:=kY h
 unfold aT at h
 split at h
 ·omega
 rename_i k1
 split at h
 ·omega
 rename_i k2
 have hl:(jV im).length=im.length:=by simp [jV]
 have hv:w.volume.toNat<im.length:=by omega
 have e:(jV im).getD w.volume.toNat 0=((im.getD w.volume.toNat []).length:Int):=by
  simp [jV,List.getD_eq_getElem?_getD,hv]
 unfold y9
 rw [hl,if_neg k1,if_neg k2,if_neg (by rw [e];omega)]
theorem BP (sz:List Int):∀ (l:List bK) (i:Nat),(∀ w∈l,y9 sz w=0)→(uj sz l i).2=0
 |[],_,_=>rfl
 |w :: l,i,h=>by
  unfold uj
  rw [if_neg (by rw [h w (by simp)];simp)]
  exact BP sz l (i+1) (fun x hx=>h x (by simp [hx]))
theorem ahD {im:ig} {c:kX} (hi:dH im=0) (h:zA (aA im) c=0):TJ im c.ws=0∧okW c.ws∧mX (aA im) c.ws∧∀ w∈c.ws,aT im w=0:=by
 obtain ⟨h1,_,h3⟩:=UA h
 have hw:=LV h3
 have hfit:=VX hw (uy h1)
 have hf:∀ w∈c.ws,aT im w=0:=fun w hwm=>by
  have k:=hw w hwm
  unfold aT at k ⊢
  have e1:(aC (aA im)).length=im.length:=by rw [iR];simp [aA]
  have e2:((aC (aA im)).getD w.volume.toNat []).length=(im.getD w.volume.toNat []).length:=by
   by_cases c:w.volume.toNat<im.length
   ·simp [aC,aA,List.getD_eq_getElem?_getD,c]
   ·simp [aC,aA,List.getD_eq_getElem?_getD,Nat.le_of_not_lt c]
  rw [e1,e2] at k
  exact k
 have hs:En (jV im)=0:=hi
 refine ⟨?_,fun w hwm=>?_,hfit,hf⟩
 ·unfold TJ
  rw [if_neg (by rw [hs];simp)]
  exact BP _ _ _ fun w hwm=>agJ (hf w hwm)
 ·obtain ⟨q1,q2,q3,q4⟩:=kY (hf w hwm)
  have hlen:im.length≤8:=by
   unfold dH aN at hi
   split at hi
   ·omega
   ·rename_i k;have:(aA im).length=im.length:=by simp [aA]
    omega
  have amI:((im.getD w.volume.toNat []).length:Int)≤4096:=by
   by_cases c:w.volume.toNat<im.length
   ·have e2:im.getD w.volume.toNat []=im[w.volume.toNat]:=by simp [c]
    have:=uy h1 (im[w.volume.toNat].length:Int) (by unfold aA;exact List.mem_map.2 ⟨_,List.getElem_mem c,rfl⟩)
    rw [e2];omega
   ·rw [List.getD_eq_getElem?_getD,List.getElem?_eq_none (Nat.le_of_not_lt c)];simp
  simp only [nP,Bool.and_eq_true,decide_eq_true_eq]
  omega
theorem lJ {im:ig} (hi:dH im=0):im.length≤8∧∀ v∈im,v.length≤4096:=by
 have h1:=uy (z:=aA im) hi
 refine ⟨?_,fun v hv=>?_⟩
 ·unfold dH aN at hi
  split at hi
  ·omega
  ·rename_i k;have:(aA im).length=im.length:=by simp [aA]
   omega
 ·have:=h1 (v.length:Int) (by unfold aA;exact List.mem_map.2 ⟨_,hv,rfl⟩)
  omega
theorem aj3 {im:ig} {c:kX} (hl:im.length≤1000) {st:St} (h:st.head [0,3,7,19,20,21,29] st.boxes.length=some ⟨sl 47 [(0,.pv (.list 1 (im.map bf))),(3,.aF 0 0),(7,.row 1 (((aA im).take ((0:Nat))).map eI)),(19,.pv (.list 1 (im.map bf))),(20,.pv (.int .i64 im.length)),(21,.pv (.int .i64 (0:Nat))),(29,.any)],[⟨false,rD c⟩],[],none⟩) :
  den env KD st=some (.normal,⟨sl 47 [(0,.pv (.list 1 (im.map bf))),(3,.aF 0 0),(4,.any),(5,.any),(7,.row 1 ((aA im).map eI))],[⟨false,rD c⟩],[],none⟩):=by
 unfold KD
 refine bC (env:=env) (nb:=1) (im.length) (fun i=>⟨sl 47 [(0,.pv (.list 1 (im.map bf))),(3,.aF 0 0),(7,.row 1 (((aA im).take (i)).map eI)),(19,.pv (.list 1 (im.map bf))),(20,.pv (.int .i64 im.length)),(21,.pv (.int .i64 i)),(29,.any)],[⟨false,rD c⟩],[],none⟩) (fun i=>some (.normal,⟨sl 47 [(0,.pv (.list 1 (im.map bf))),(3,.aF 0 0),(4,.any),(5,.any),(7,.row 1 ((aA im).map eI))],[⟨false,rD c⟩],[],none⟩)) h (fun _=>rfl) (fun _=>by simp only [aB,bg,Nat.reduceMul,Nat.reduceBEq,Nat.reduceLT,Nat.reduceLeDiff,Nat.reduceAdd,decide_true,Bool.and_self,Bool.true_and]) ?_ ?_
 ·intro i rb hi ih
  have hi1:=bG hi (by unfold lim;omega)
  have F1:((i:Int)<(im.length:Int))=True:=eq_true (by omega)
  have hx:=wY hi
  have hil:i<(aA im).length:=by unfold aA;rw [List.length_map];exact hi
  have F5:(((aA im).take i).length+1≤lim)=True:=eq_true (by rw [List.length_take];unfold lim;omega)
  have hs:((aA im).take (i+1)).map eI=((aA im).take i).map eI++[.int .i64 (im[i].length:Int)]:=by
   rw [List.take_succ_eq_append_getElem hil,List.map_append]
   congr 1
   simp [aA,eI]
  rw [hs] at ih
  generalize (aA im).take i=Z at *
  simp only [KC,F1,F5,hx,dZ,aj hi,List.length_map,au,Nat.reduceMul,Nat.reduceBEq,Nat.reduceLT,Nat.reduceLeDiff,reduceCtorEq,Nat.reduceEqDiff,Nat.reduceAdd,Nat.beq]
  rw [ih _ (by simp only [hi1,dZ,au,Nat.reduceMul,Nat.reduceBEq,Nat.reduceLT,Nat.reduceLeDiff,reduceCtorEq,Nat.reduceEqDiff,Nat.reduceAdd,Nat.beq]<;>rfl)]
  rfl
 ·intro rb
  rw [show (aA im).take im.length=aA im from List.take_of_length_le (by simp [aA])]
  simp only [KC,Int.lt_irrefl,dZ,List.length_map,au,Nat.reduceMul,Nat.reduceBEq,Nat.reduceLT,Nat.reduceLeDiff,reduceCtorEq,Nat.reduceEqDiff,Nat.reduceAdd,Nat.beq]
theorem amJ {im:ig} {c:kX} (hi:dH im=0) (hc:Am c) (hk:zA (aA im) c=0):cal env 64 [.list 1 (im.map bf),gU c]=some [(.list 1 ((JK im c.ws).map bf),false),(.int .i64 0,false)]:=by
 obtain ⟨s1,s2⟩:=lJ hi
 obtain ⟨k1,k2,_,_⟩:=ahD hi hk
 have e1:=abX (im:=im) (by unfold lim;omega)
 rw [hi] at e1
 have e2:=Um (z:=aA im) (b:=c.base) (n:=c.num) (t:=c.time) (p:=c.pos) (w:=c.ws) (by unfold aA;rw [List.length_map];unfold lim;omega) (Nat.le_trans hc.2.1 (by decide)) (fun x hx=>Nat.le_trans (hc.2.2 x hx) (by decide)) hc.1
 rw [show ckC (aA im) c.base c.num c.time c.pos c.ws=zA (aA im) c from rfl,hk] at e2
 unfold YO at e2
 have e3:=aj1 (im:=im) (l:=c.ws) k2 (by omega) (fun v hv=>by have:=s2 v hv;omega)
 rw [k1] at e3
 have Z:((0:Int) != 0)=false:=rfl
 rw [mO]
 rw [ah alz rfl];simp only [abw,aB,Nat.reduceBEq,Nat.reduceLeDiff,Nat.reduceAdd,List.length_cons,List.length_nil]
 simp only [e1,Z,jB,List.length_map,au,Nat.reduceMul,Nat.reduceBEq,Nat.reduceLT,Nat.reduceLeDiff,reduceCtorEq,Nat.reduceEqDiff,Nat.reduceAdd,Nat.beq]
 rw [aj3 (im:=im) (c:=c) (by omega) (by simp only [dZ,List.take_zero,List.map_nil];simp only [aB,bg,Nat.reduceMul,Nat.reduceBEq,Nat.reduceLT,Nat.reduceLeDiff,Nat.reduceAdd,decide_true,Bool.and_self,Bool.true_and]<;>rfl)]
 simp only [e2,e3,Z,jB,dZ,au,Nat.reduceMul,Nat.reduceBEq,Nat.reduceLT,Nat.reduceLeDiff,reduceCtorEq,Nat.reduceEqDiff,Nat.reduceAdd,Nat.beq]
end Go.Proofs.YtpcncggjmabnaaaGreatDoor.V

namespace Go.Proofs.YtpcncggjmabnaaaGreatDoor.V
def can:Int→List fG→Prop
 |_,[]=>True
 |nx,x :: l=>nx≤x.start∧1≤x.count∧can (x.start+x.count+1) l
def Qs:Int→List fG→Int
 |nx,[]=>nx
 |_,x :: l=>Qs (x.start+x.count+1) l
theorem sJ:∀ (l:List fG) (nx:Int) (x:fG),Qs nx (l++[x])=x.start+x.count+1
 |[],_,_=>rfl
 |y :: l,_,x=>sJ l (y.start+y.count+1) x
theorem zN:∀ (l:List fG) (nx:Int) (x:fG),can nx (l++[x]) ↔ can nx l∧Qs nx l≤x.start∧1≤x.count
 |[],nx,x=>by simp [can,Qs]
 |y :: l,nx,x=>by
  have:=zN l (y.start+y.count+1) x
  show nx≤y.start∧1≤y.count∧can _ (l++[x]) ↔ (nx≤y.start∧1≤y.count∧can _ l)∧Qs _ l≤x.start∧1≤x.count
  rw [this]
  constructor
  ·rintro ⟨a,b,c,d⟩;exact ⟨⟨a,b,c⟩,d⟩
  ·rintro ⟨⟨a,b,c⟩,d⟩;exact ⟨a,b,c,d⟩
theorem V8 (p:Nat→Bool):∀ n:Nat,can 0 (ext p n)∧Qs 0 (ext p n)≤(n:Int)+1
 |0=>by rw [PW];exact ⟨trivial,by simp [Qs]⟩
 |n+1=>by
  obtain ⟨h1,h2⟩:=V8 p n
  rw [oH]
  split
  ·rcases iF (ext p n) with e|⟨pre,x,e⟩
   ·rw [e]
    have:rW [] n=[⟨(n:Int),1⟩]:=rfl
    rw [this]
    exact ⟨⟨by simp only;omega,by simp only;omega,trivial⟩,by simp only [Qs];omega⟩
   ·rw [e] at h1 h2 ⊢
    have hx:=Az p n x (by rw [e];simp)
    rw [sJ] at h2
    obtain ⟨c1,c2,c3⟩:=(zN _ _ _).1 h1
    rw [fO]
    split
    ·exact ⟨(zN _ _ _).2 ⟨c1,c2,by simp only;omega⟩,by rw [sJ];simp only;omega⟩
    ·exact ⟨(zN _ _ _).2 ⟨h1,by rw [sJ];simp only;omega,by simp⟩,by rw [sJ];simp only;omega⟩
  ·exact ⟨h1,by omega⟩
end Go.Proofs.YtpcncggjmabnaaaGreatDoor.V

namespace Go.Proofs.YtpcncggjmabnaaaGreatDoor.V
theorem adK {v:Int} {l:List bK} {e:fG} (h:e∈jX v l):∃ w∈l,w.volume=v:=by
 have h1:=AY e h
 rw [zJ] at h
 have h2:jq (ext (jq (lQ v l)) 4096) e.start.toNat=true:=by
  unfold jq
  rw [List.any_eq_true]
  refine ⟨e,h,?_⟩
  unfold IL
  simp only [Bool.and_eq_true,decide_eq_true_eq]
  omega
 rw [zF] at h2
 simp only [Bool.and_eq_true,decide_eq_true_eq] at h2
 have h3:=h2.2
 unfold jq at h3
 rw [List.any_eq_true] at h3
 obtain ⟨x,hx,_⟩:=h3
 obtain ⟨w,hw,e1,_⟩:=Di hx
 exact ⟨w,hw,e1⟩
theorem agK {im:ig} {l:List bK} {v:Nat} (hi:dH im=0) (hl:∀ w∈l,aT im w=0) {e:fG} (he:e∈jX (v:Int) l):aT im (IW l (v:Int) e)=0:=by
 obtain ⟨w,hw,e1⟩:=adK he
 obtain ⟨q1,q2,q3,q4⟩:=kY (hl w hw)
 obtain ⟨s1,s2⟩:=lJ hi
 have hv:v<im.length:=by omega
 have amI:(im.getD v []).length≤4096:=by
  have e2:im.getD v []=im[v]:=by simp [hv]
  rw [e2];exact s2 _ (List.getElem_mem hv)
 have hfit:∀ x∈lQ (v:Int) l,mZ ((im.getD v []).length:Int) x=true:=fun x hx=>by
  obtain ⟨y,hy,e3,rfl⟩:=Di hx
  obtain ⟨p1,p2,p3,p4⟩:=kY (hl y hy)
  rw [e3,Int.toNat_natCast] at p4
  exact jw.2 ⟨p3,by show (0:Int)≤(y.data.length:Int);omega,by show y.start≤_;omega,by show (y.data.length:Int)≤_ - y.start;omega⟩
 have hu:=jw.1 ((zG ⟨by omega,by omega⟩ hfit).1 e he)
 have h1:=AY e he
 have hd:(IW l (v:Int) e).data.length=e.count.toNat:=sF _ _ _ _
 unfold aT
 rw [hd]
 show (if (v:Int)<0∨(im.length:Int)≤(v:Int) then (7:Int) else if e.count.toNat=0 then 1 else if e.start<0∨((im.getD (v:Int).toNat []).length:Int) - e.count.toNat<e.start then 2 else 0)=0
 rw [Int.toNat_natCast,if_neg (by omega),if_neg (by omega),if_neg (by omega)]
theorem agL {x w:bK} (h:x.volume<w.volume∨(x.volume=w.volume∧x.start+x.data.length+1≤w.start)):uo x w=false:=by
 unfold uo
 rcases h with h|⟨h1,h2⟩
 ·rw [decide_eq_false (by omega),decide_eq_false (by omega)];rfl
 ·rw [decide_eq_false (by omega),decide_eq_true h1.symm,decide_eq_false (by omega)];rfl
theorem adL {im:ig} {p:Option bK} {w:bK} {l:List bK} (h1:aT im w=0) (h2:∀ x,p=some x→uo x w=false):xY im p (w :: l)=xY im (some w) l:=by
 rw [vS,if_neg (by simpa using h1)]
 cases p with
 |none=>exact if_neg Bool.false_ne_true
 |some x =>
  show (if uo x w=true then 3 else xY im (some w) l)=_
  rw [h2 x rfl,if_neg Bool.false_ne_true]
theorem adM {im:ig} {l:List bK} {v:Int} (rest:List bK):∀ (es:List fG) (nx:Int) (p:Option bK),can nx es→(∀ e∈es,aT im (IW l v e)=0)→(∀ e∈es,1≤e.count)→(∀ x,p=some x→x.volume<v∨(x.volume=v∧x.start+x.data.length+1≤nx)) →
  ∃ p',(∀ x,p'=some x→x.volume≤v)∧xY im p (es.map (IW l v)++rest)=xY im p' rest
 |[],nx,p,_,_,_,hp=>⟨p,fun x hx=>by rcases hp x hx with h|h<;>omega,rfl⟩
 |e :: es,nx,p,hc,hf,h1,hp=>by
  obtain ⟨c1,c2,c3⟩:=(show nx≤e.start∧1≤e.count∧can (e.start+e.count+1) es from hc)
  have hd:(IW l v e).data.length=e.count.toNat:=sF _ _ _ _
  have hn:=adL (im:=im) (p:=p) (w:=IW l v e) (l:=es.map (IW l v)++rest) (hf e (by simp)) (fun x hx=>agL (by
   rcases hp x hx with h|⟨h,k⟩
   ·exact .inl h
   ·exact .inr ⟨h,by show _≤e.start;omega⟩))
  obtain ⟨p',k1,k2⟩:=adM rest es (e.start+e.count+1) (some (IW l v e)) c3 (fun x hx=>hf x (by simp [hx])) (fun x hx=>h1 x (by simp [hx])) (fun x hx=>by
   cases hx
   refine .inr ⟨rfl,?_⟩
   rw [hd]
   show e.start+_+1≤_
   omega)
  exact ⟨p',k1,by rw [List.map_cons,List.cons_append,hn,k2]⟩
theorem agM (v:Int) (l:List bK):can 0 (jX v l):=by
 have h:∀ k,can 0 (ext (jq (lQ v l)) k):=fun k=>(V8 (jq (lQ v l)) k).1
 rw [zJ]
 exact h _
theorem adN {im:ig} {l:List bK} (hi:dH im=0) (hl:∀ w∈l,aT im w=0):∀ (n:Nat) (rest:List bK),∃ p,(∀ x,p=some x→x.volume<(n:Int))∧xY im none (uM l n++rest)=xY im p rest
 |0,rest=>⟨none,fun x hx=>(by cases hx),rfl⟩
 |n+1,rest=>by
  obtain ⟨p,h1,h2⟩:=adN hi hl n ((jX (n:Int) l).map (IW l (n:Int))++rest)
  have hcan:can 0 (jX (n:Int) l):=agM _ _
  obtain ⟨p',k1,k2⟩:=adM (im:=im) (l:=l) (v:=(n:Int)) rest (jX (n:Int) l) 0 p hcan (fun e he=>agK hi hl he) (fun e he=>(AY e he).2.1) (fun x hx=>.inl (h1 x hx))
  exact ⟨p',fun x hx=>by have:=k1 x hx;omega,by rw [sH,List.append_assoc,h2,k2]⟩
theorem aj6 {im:ig} {l:List bK} (hi:dH im=0) (hl:∀ w∈l,aT im w=0):xY im none (uN l)=0:=by
 obtain ⟨p,_,h⟩:=adN hi hl 8 []
 rw [List.append_nil] at h
 unfold uN
 rw [h]
 cases p<;>rfl
theorem agN {im:ig} {l:List bK} (hi:dH im=0) (hv:∀ v∈im,v.length≤400) (hl:∀ w∈l,aT im w=0):(uN l).length≤3200∧∀ x∈uN l,x.data.length≤4096:=by
 have hn:∀ v:Nat,(jX (v:Int) l).length≤400:=fun v=>by
  by_cases h:jX (v:Int) l=[]
  ·rw [h];simp
  ·obtain ⟨e,he⟩:=List.exists_mem_of_ne_nil _ h
   obtain ⟨w,hw,e1⟩:=adK he
   obtain ⟨q1,q2,q3,q4⟩:=kY (hl w hw)
   have hvl:v<im.length:=by omega
   have e2:im.getD v []=im[v]:=by simp [hvl]
   have amI:=hv _ (List.getElem_mem hvl)
   have hfit:∀ x∈lQ (v:Int) l,mZ 400 x=true:=fun x hx=>by
    obtain ⟨y,hy,e3,rfl⟩:=Di hx
    obtain ⟨p1,p2,p3,p4⟩:=kY (hl y hy)
    rw [e3,Int.toNat_natCast,e2] at p4
    exact jw.2 ⟨p3,by show (0:Int)≤(y.data.length:Int);omega,by show y.start≤(400:Int);omega,by show (y.data.length:Int)≤400 - y.start;omega⟩
   have h0:∀ s:Nat,400≤s→jq (lQ (v:Int) l) s=false:=fun s hs=>by
    unfold jq
    rw [List.any_eq_false]
    intro x hx
    have:=jw.1 (hfit x hx)
    rw [LQ (hfit x hx) s]
    simp
    omega
   rw [zJ]
   have hk:=pR (p:=jq (lQ (v:Int) l)) (a:=400) 3696 (fun s h1 _=>h0 s h1)
   rw [show (4096:Nat)=400+3696 from rfl,hk]
   exact wW _ _
 refine ⟨?_,fun x hx=>?_⟩
 ·have:∀ n,(uM l n).length≤400 * n:=fun n=>by
   induction n with
   |zero=>simp [uM]
   |succ n ih =>
    rw [sH,List.length_append,List.length_map]
    have:=hn n
    omega
  exact this 8
 ·unfold uN uM at hx
  obtain ⟨v,_,h1⟩:=List.mem_flatMap.1 hx
  obtain ⟨e,he,rfl⟩:=List.mem_map.1 h1
  rw [show (IW l (v:Int) e).data.length=e.count.toNat from sF _ _ _ _]
  have:=AY e he
  omega
end Go.Proofs.YtpcncggjmabnaaaGreatDoor.V

namespace Go.Proofs.YtpcncggjmabnaaaGreatDoor.V
structure lS where
 so:ig
 ta:ig
 q:og
 se:Int
 ma:Int
 rt:Bool
structure gZ where
 kind:Int
 step:Int
 ws:List bK
def eSt (s:lS):PV:=.agg [.list 1 (s.so.map bf),.list 1 (s.ta.map bf),.int .i64 s.q.lm,.list 1 (s.q.sz.map eI),.list 5 (s.q.cy.map gU),.bool s.q.ov,.int .i64 s.q.fs,.int .i64 s.q.ls,.list 2 (s.q.dt.map jg),.int .i64 s.se,.int .i64 s.ma,.bool s.rt]
theorem U5 (s:lS):eSt s=.agg [.list 1 (s.so.map bf),.list 1 (s.ta.map bf),.int .i64 s.q.lm,.list 1 (s.q.sz.map eI),.list 5 (s.q.cy.map gU),.bool s.q.ov,.int .i64 s.q.fs,.int .i64 s.q.ls,.list 2 (s.q.dt.map jg),.int .i64 s.se,.int .i64 s.ma,.bool s.rt]:=rfl
def BQ (s:lS):List BV:=[.pv (.list 1 (s.so.map bf)),.pv (.list 1 (s.ta.map bf)),.pv (.int .i64 s.q.lm),.pv (.list 1 (s.q.sz.map eI)),.pv (.list 5 (s.q.cy.map gU)),.pv (.bool s.q.ov),.pv (.int .i64 s.q.fs),.pv (.int .i64 s.q.ls),.pv (.list 2 (s.q.dt.map jg)),.pv (.int .i64 s.se),.pv (.int .i64 s.ma),.pv (.bool s.rt)]
theorem dD (s:lS):BQ s=[.pv (.list 1 (s.so.map bf)),.pv (.list 1 (s.ta.map bf)),.pv (.int .i64 s.q.lm),.pv (.list 1 (s.q.sz.map eI)),.pv (.list 5 (s.q.cy.map gU)),.pv (.bool s.q.ov),.pv (.int .i64 s.q.fs),.pv (.int .i64 s.q.ls),.pv (.list 2 (s.q.dt.map jg)),.pv (.int .i64 s.se),.pv (.int .i64 s.ma),.pv (.bool s.rt)]:=rfl
def zSt:List BV:=[.row 1 [],.row 1 [],.pv (.int .i64 0),.row 1 [],.row 5 [],.pv (.bool false),.pv (.int .i64 0),.pv (.int .i64 0),.row 2 [],.pv (.int .i64 0),.pv (.int .i64 0),.pv (.bool false)]
theorem vX:zSt=[.row 1 [],.row 1 [],.pv (.int .i64 0),.row 1 [],.row 5 [],.pv (.bool false),.pv (.int .i64 0),.pv (.int .i64 0),.row 2 [],.pv (.int .i64 0),.pv (.int .i64 0),.pv (.bool false)]:=rfl
def CJ (x:gZ):PV:=.agg [.int .u8 x.kind,.int .u8 x.step,.list 3 (x.ws.map dQ)]
theorem adO (x:gZ):CJ x=.agg [.int .u8 x.kind,.int .u8 x.step,.list 3 (x.ws.map dQ)]:=rfl
def bEv (x:gZ):List BV:=[.pv (.int .u8 x.kind),.pv (.int .u8 x.step),.pv (.list 3 (x.ws.map dQ))]
theorem vY (x:gZ):bEv x=[.pv (.int .u8 x.kind),.pv (.int .u8 x.step),.pv (.list 3 (x.ws.map dQ))]:=rfl
theorem FP (a b c d e f g h i j k l:PV):part [a,b,c,d,e,f,g,h,i,j,k,l] 0 (some 12)=some (.agg [a,b,c,d,e,f,g,h,i,j,k,l]):=rfl
def Qu (im:ig) (ws:List bK) (n:Nat):List bK:=(ws.take n).filter fun w=>decide (aT im w=0)
theorem adP {im:ig} {ws:List bK} {i:Nat} (h:i<ws.length):Qu im ws (i+1)=if aT im ws[i]=0 then Qu im ws i++[ws[i]] else Qu im ws i:=by
 unfold Qu
 rw [List.take_succ_eq_append_getElem h,List.filter_append]
 by_cases c:aT im ws[i]=0
 ·rw [if_pos c,List.filter_cons,if_pos (by simpa using c)];rfl
 ·rw [if_neg c,List.filter_cons,if_neg (by simpa using c)];simp
theorem V9 (im:ig) (ws:List bK) (n:Nat):(Qu im ws n).length≤n:=by
 unfold Qu
 have:=List.length_filter_le (fun w:bK=>decide (aT im w=0)) (ws.take n)
 rw [List.length_take] at this;omega
theorem agO {im:ig} {ws:List bK} {n:Nat}:∀ w∈Qu im ws n,aT im w=0:=fun w hw=>by
 unfold Qu at hw
 have:=(List.mem_filter.1 hw).2
 simpa using this
def Dp (x:gZ):Nat:=min x.ws.length 6
def Wh (im:ig) (x:gZ):List bK:=Qu im x.ws (Dp x)
def mkC (q:og) (x:gZ) (l:List bK):kX:=⟨q.ls,q.ls+1+x.step % 3,0,[],uN l⟩
def iY (s:lS) (x:gZ):kX:=mkC s.q x (Wh s.so x)
def vZ (s:lS) (x:gZ):lS:={ s with so:=JK s.so (iY s x).ws,q:=iG s.q (iY s x) }
theorem aj7 {s:lS} {x:gZ} (him:dH s.so=0) (hw:∀ w∈x.ws,w.data.length≤400) {st:St} (h:st.head [2,3,4,5,6,39,43] st.boxes.length=some ⟨sl 89 [(2,.aF 0 0),(3,.aF 1 0),(4,.aF 2 0),(5,.row 3 ((Qu s.so x.ws ((0:Nat))).map dQ)),(6,.pv (.int .i64 (0:Nat))),(39,.any),(43,.any)],[⟨false,BQ s⟩,⟨false,bEv x⟩,⟨false,zSt⟩],[],none⟩) :
  den env JX st=some (.normal,⟨sl 89 [(2,.aF 0 0),(3,.aF 1 0),(4,.aF 2 0),(5,.row 3 ((Wh s.so x).map dQ))],[⟨false,BQ s⟩,⟨false,bEv x⟩,⟨false,zSt⟩],[],none⟩):=by
 unfold JX
 refine bC (env:=env) (nb:=3) (Dp x) (fun i=>⟨sl 89 [(2,.aF 0 0),(3,.aF 1 0),(4,.aF 2 0),(5,.row 3 ((Qu s.so x.ws (i)).map dQ)),(6,.pv (.int .i64 i)),(39,.any),(43,.any)],[⟨false,BQ s⟩,⟨false,bEv x⟩,⟨false,zSt⟩],[],none⟩) (fun i=>some (.normal,⟨sl 89 [(2,.aF 0 0),(3,.aF 1 0),(4,.aF 2 0),(5,.row 3 ((Wh s.so x).map dQ))],[⟨false,BQ s⟩,⟨false,bEv x⟩,⟨false,zSt⟩],[],none⟩)) h (fun _=>rfl) (fun _=>by simp only [aB,bg,Nat.reduceMul,Nat.reduceBEq,Nat.reduceLT,Nat.reduceLeDiff,Nat.reduceAdd,decide_true,Bool.and_self,Bool.true_and]) ?_ ?_
 ·intro i rb hi ih
  have hn:i<x.ws.length∧i<6:=by unfold Dp at hi;omega
  have hi1:=bG (n:=6) hn.2 (by unfold lim;omega)
  have F1:((i:Int)<(x.ws.length:Int))=True:=eq_true (by omega)
  have F2:((i:Int)<6)=True:=eq_true (by omega)
  obtain ⟨s1,s2⟩:=lJ him
  have hx:=rC hn.1
  have e1:=abY (im:=s.so) (w:=x.ws[i]) (by unfold lim;omega) (fun v hv=>by have:=s2 v hv;unfold lim;omega) (by have:=hw _ (List.getElem_mem hn.1);unfold lim;omega)
  rw [show nS s.so x.ws[i]=aT s.so x.ws[i] by unfold nS;rw [if_neg (by rw [him];simp)]] at e1
  unfold dQ at e1
  have F5:((Qu s.so x.ws i).length+1≤lim)=True:=eq_true (by have:=V9 s.so x.ws i;unfold lim;omega)
  have hs:=adP (im:=s.so) hn.1
  by_cases c:aT s.so x.ws[i]=0
  ·rw [c] at e1
   have Z:((0:Int)==0)=true:=rfl
   rw [if_pos c] at hs
   have hs2:(Qu s.so x.ws (i+1)).map dQ=(Qu s.so x.ws i).map dQ++[.agg [.int .i64 x.ws[i].volume,.int .i64 x.ws[i].start,.list 8 (x.ws[i].data.map iJ)]]:=by rw [hs,List.map_append];rfl
   rw [hs2] at ih
   simp only [zk,F1,F2,F5,e1,Z,hx,iV,dD,vY,vX,aj hn.1,List.length_map,au,Nat.reduceMul,Nat.reduceBEq,Nat.reduceLT,Nat.reduceLeDiff,reduceCtorEq,Nat.reduceEqDiff,Nat.reduceAdd,Nat.beq]
   rw [ih _ (by simp only [hi1,dD,vY,vX,au,Nat.reduceMul,Nat.reduceBEq,Nat.reduceLT,Nat.reduceLeDiff,reduceCtorEq,Nat.reduceEqDiff,Nat.reduceAdd,Nat.beq]<;>rfl)]
   rfl
  ·have Z:(aT s.so x.ws[i]==0)=false:=by simp [c]
   rw [if_neg c] at hs
   rw [hs] at ih
   simp only [zk,F1,F2,e1,Z,hx,iV,dD,vY,vX,aj hn.1,List.length_map,au,Nat.reduceMul,Nat.reduceBEq,Nat.reduceLT,Nat.reduceLeDiff,reduceCtorEq,Nat.reduceEqDiff,Nat.reduceAdd,Nat.beq]
   rw [ih _ (by simp only [hi1,dD,vY,vX,au,Nat.reduceMul,Nat.reduceBEq,Nat.reduceLT,Nat.reduceLeDiff,reduceCtorEq,Nat.reduceEqDiff,Nat.reduceAdd,Nat.beq]<;>rfl)]
   rfl
 ·intro rb
  rw [show Qu s.so x.ws (Dp x)=Wh s.so x from rfl]
  by_cases c:x.ws.length≤6
  ·have hE:Dp x=x.ws.length:=by unfold Dp;omega
   rw [hE]
   simp only [zk,Int.lt_irrefl,dD,vY,vX,List.length_map,au,Nat.reduceMul,Nat.reduceBEq,Nat.reduceLT,Nat.reduceLeDiff,reduceCtorEq,Nat.reduceEqDiff,Nat.reduceAdd,Nat.beq]
  ·have hE:Dp x=6:=by unfold Dp;omega
   have F1:(((6:Nat):Int)<(x.ws.length:Int))=True:=eq_true (by omega)
   have F2:(((6:Nat):Int)<6)=False:=eq_false (by omega)
   rw [hE]
   simp only [zk,F1,F2,dD,vY,vX,List.length_map,au,Nat.reduceMul,Nat.reduceBEq,Nat.reduceLT,Nat.reduceLeDiff,reduceCtorEq,Nat.reduceEqDiff,Nat.reduceAdd,Nat.beq]
structure gdP (s:lS):Prop where
 im:dH s.so=0
 sz:aA s.so=s.q.sz
 ck:rZ s.q=0
 sm:MQ s.q
 vo:∀ v∈s.so,v.length≤400
 ls:s.q.ls≤1000000
 rt:s.rt=true
structure gdE (x:gZ):Prop where
 st:0≤x.step∧x.step≤255
 ws:∀ w∈x.ws,w.data.length≤400
theorem U6 {s:lS} {x:gZ} (h:gdP s):(∀ w∈Wh s.so x,aT s.so w=0)∧(∀ w∈Wh s.so x,U4 w)∧(Wh s.so x).length≤6:=by
 have h1:∀ w∈Wh s.so x,aT s.so w=0:=agO
 obtain ⟨s1,s2⟩:=lJ h.im
 refine ⟨h1,fun w hw=>?_,?_⟩
 ·have k:=h1 w hw
  obtain ⟨q1,q2,q3,q4⟩:=kY k
  have hv:w.volume.toNat<s.so.length:=by omega
  have e:s.so.getD w.volume.toNat []=s.so[w.volume.toNat]:=by simp [hv]
  have hl:=s2 _ (List.getElem_mem hv)
  rw [e] at q4
  unfold aT at k
  split at k
  ·omega
  rename_i k1
  split at k
  ·omega
  rename_i k2
  have h8:(aC (kS 8)).length=8:=by rw [iR];unfold kS;rw [List.length_replicate]
  unfold U4 aT
  rw [h8,V7 (by omega),if_neg (by omega),if_neg k2,if_neg (by omega)]
 ·have:=V9 s.so x.ws (Dp x)
  unfold Wh
  have:Dp x≤6:=by unfold Dp;omega
  omega
theorem zO {s:lS} {x:gZ} (h:gdP s) (hx:gdE x):Am (iY s x)∧zA s.q.sz (iY s x)=0∧xu s.q (iY s x)=0:=by
 obtain ⟨w1,w2,w3⟩:=U6 (x:=x) h
 obtain ⟨f1,f2⟩:=agN h.im h.vo w1
 obtain ⟨k1,k2,k3⟩:=BN h.ck
 have hst:=hx.st
 have hls:=h.ls
 have hc:zA s.q.sz (iY s x)=0:=by
  unfold zA ckC
  rw [if_pos k1,if_pos (by
   show Lr s.q.ls (s.q.ls+1+x.step % 3) 0 []=0
   unfold Lr
   rw [if_neg (by omega),if_neg (by omega)]
   rfl)]
  have:=aj6 h.im w1
  show xY (aC s.q.sz) none (uN (Wh s.so x))=0
  have e:∀ (p:Option bK) (l:List bK),xY (aC s.q.sz) p l=xY s.so p l:=by
   have ef:∀ w,aT (aC s.q.sz) w=aT s.so w:=fun w=>by
    rw [← h.sz]
    unfold aT
    have e1:(aC (aA s.so)).length=s.so.length:=by rw [iR];simp [aA]
    have e2:((aC (aA s.so)).getD w.volume.toNat []).length=(s.so.getD w.volume.toNat []).length:=by
     by_cases c:w.volume.toNat<s.so.length
     ·simp [aC,aA,List.getD_eq_getElem?_getD,c]
     ·simp [aC,aA,List.getD_eq_getElem?_getD,Nat.le_of_not_lt c]
    rw [e1,e2]
   intro p l
   induction l generalizing p with
   |nil=>cases p<;>rfl
   |cons w l ih=>rw [vS,vS,ef,ih]
  rw [e];exact this
 refine ⟨⟨Nat.zero_le _,by show (uN _).length≤10000;omega,fun y hy=>Nat.le_trans (f2 y hy) (by decide)⟩,hc,?_⟩
 unfold xu
 rw [if_pos h.ck,if_pos hc,if_pos (show (iY s x).base=s.q.ls from rfl)]
theorem adQ (s:lS) (x:gZ):eSt (vZ s x)=.agg ([.list 1 ((JK s.so (iY s x).ws).map bf),.list 1 (s.ta.map bf)]++(oI (iG s.q (iY s x))).cells++[.int .i64 s.se,.int .i64 s.ma,.bool s.rt]):=rfl
set_option maxRecDepth 40000 in
theorem amM {s:lS} {x:gZ} (h:gdP s) (hx:gdE x):cal env 32 [eSt s,CJ x]=some [(eSt (vZ s x),false)]:=by
 obtain ⟨w1,w2,w3⟩:=U6 (x:=x) h
 obtain ⟨c1,c2,c3⟩:=zO h hx
 have hst:=hx.st
 have hls:=h.ls
 obtain ⟨k1,k2,k3⟩:=BN h.ck
 have e1:=amH w2 (by omega)
 have e2:=amJ (im:=s.so) (c:=iY s x) h.im c1 (by rw [h.sz];exact c2)
 have e3:=amm h.sm c1
 rw [c3] at e3
 have W1:IntKind.i64.wrap (s.q.ls+1)=s.q.ls+1:=bn (by omega)
 have W2:IntKind.i64.wrap x.step=x.step:=bn (by omega)
 have T1:x.step.tmod 3=x.step % 3:=Int.tmod_eq_emod_of_nonneg hst.1
 have W3:IntKind.i64.wrap (x.step % 3)=x.step % 3:=bn (by omega)
 have W4:IntKind.i64.wrap (s.q.ls+1+x.step % 3)=s.q.ls+1+x.step % 3:=bn (by omega)
 have hC:gU (iY s x)=.agg [.int .i64 s.q.ls,.int .i64 (s.q.ls+1+x.step % 3),.int .i64 0,.list 1 [],.list 3 ((uN (Wh s.so x)).map dQ)]:=rfl
 rw [hC] at e2 e3
 rw [eP] at e3
 have Z:((0:Int)==0)=true:=rfl
 have Z3:((3:Int)=0)=False:=eq_false (by decide)
 have hrt:=h.rt
 rw [adQ,U5,adO]
 rw [eP] at e3 ⊢
 generalize iG s.q (iY s x)=Q at *
 generalize JK s.so (iY s x).ws=IM at *
 rw [ah ali rfl];simp only [abh,aB,Nat.reduceBEq,Nat.reduceLeDiff,Nat.reduceAdd,List.length_cons,List.length_nil]
 simp only [au,Nat.reduceMul,Nat.reduceBEq,Nat.reduceLT,Nat.reduceLeDiff,reduceCtorEq,Nat.reduceEqDiff,Nat.reduceAdd,Nat.beq]
 rw [aj7 (s:=s) (x:=x) h.im hx.ws (by simp only [dD,vY,vX,show Qu s.so x.ws 0=[] from rfl,List.map_nil];simp only [aB,bg,Nat.reduceMul,Nat.reduceBEq,Nat.reduceLT,Nat.reduceLeDiff,Nat.reduceAdd,decide_true,Bool.and_self,Bool.true_and]<;>rfl)]
 generalize (uN (Wh s.so x)).map dQ=FW at *
 simp only [e1,e2,e3,W1,W2,W3,W4,T1,Z,Z3,hrt,jB,fP,FP,iV,dD,vY,vX,au,Nat.reduceMul,Nat.reduceBEq,Nat.reduceLT,Nat.reduceLeDiff,reduceCtorEq,Nat.reduceEqDiff,Nat.reduceAdd,Nat.beq]
end Go.Proofs.YtpcncggjmabnaaaGreatDoor.V

namespace Go.Proofs.YtpcncggjmabnaaaGreatDoor.V
theorem MI {s:og} (h1:aN s.sz=0) (h2:1≤s.lm∧s.lm≤1024∧0≤s.fs∧s.fs≤s.ls∧s.ls≤1073741824) (h3:(s.ov=true∧s.cy=[]∧s.fs≠s.ls∧xg s.dt s.sz=true)∨(s.ov=false∧s.dt=[]∧(s.cy.length:Int)≤s.lm∧QG s.sz s.fs s.cy s.ls=true)):rZ s=0:=by
 unfold rZ
 rw [if_pos h1,if_neg (show ¬ (s.lm<1∨s.lm > 1024∨s.fs<0∨s.fs > s.ls∨s.ls > 1073741824) by omega)]
 rcases h3 with ⟨g0,g1,g2,g3⟩|⟨g0,g1,g2,g3⟩
 ·rw [if_pos g0,decide_eq_true g1,decide_eq_true g2,g3];rfl
 ·rw [if_neg (by rw [g0];exact Bool.false_ne_true),decide_eq_true g1,decide_eq_true g2,g3];rfl
theorem adR {z:List Int} {l:List Bm} (h:VW z l):xg l z=true:=by
 rw [Ur,decide_eq_true h.1,Bool.true_and]
 unfold Fe
 rw [List.drop_zero,List.drop_zero,List.all_eq_true]
 intro q hq
 obtain ⟨i,hi⟩:=List.mem_iff_getElem?.1 hq
 obtain ⟨h1,h2⟩:=List.getElem?_eq_some_iff.1 hi
 have hl:i<l.length:=by rw [List.length_zip] at h1;omega
 have hz:i<z.length:=by rw [List.length_zip] at h1;omega
 obtain ⟨k1,k2⟩:=h.2 i hl
 rw [← h2,List.getElem_zip]
 unfold Uo
 rw [EY k1,k2,List.getD_eq_getElem?_getD,List.getElem?_eq_getElem hz]
 simp
theorem Qv {z:List Int} {c:kX}:∀ {cy:List kX} {f l:Int},QG z f cy l=true→zA z c=0→c.base=l→QG z f (cy++[c]) c.num=true
 |[],f,l,h,hc,hb=>by
  have:f=l:=by simpa [QG] using h
  simp [QG,hc,hb,this]
 |x :: cy,f,l,h,hc,hb=>by
  simp only [QG,Bool.and_eq_true,beq_iff_eq,List.cons_append] at h ⊢
  exact ⟨h.1,h.2.1,Qv h.2.2 hc hb⟩
theorem adS {s:og} {c:kX} (h:xu s c=0):rZ s=0∧zA s.sz c=0∧c.base=s.ls:=by
 unfold xu at h
 split at h
 ·rename_i h1
  split at h
  ·rename_i h2
   split at h
   ·rename_i h3;exact ⟨h1,h2,h3⟩
   ·omega
  ·rename_i h2;exact absurd h h2
 ·rename_i h1;exact absurd h h1
theorem agQ {z:List Int} {c:kX} (h:zA z c=0):0≤c.base∧c.base<c.num∧c.num≤1073741824:=by
 obtain ⟨_,h2,_⟩:=UA h
 unfold Lr at h2
 split at h2
 ·omega
 ·omega
theorem U7 {s:og} {c:kX} (h:xu s c=0):rZ (iG s c)=0∧(iG s c).sz=s.sz∧(iG s c).lm=s.lm∧(iG s c).fs=s.fs∧(iG s c).ls=c.num ∧
  ((iG s c).ov=(s.ov || decide (s.lm≤(s.cy.length:Int))))∧((iG s c).ov=false→(iG s c).cy=s.cy++[c])∧((iG s c).ov=true→(iG s c).cy=[]∧VW s.sz (iG s c).dt)∧((iG s c).ov=false→(iG s c).dt=[]):=by
 obtain ⟨h1,h2,h3⟩:=adS h
 obtain ⟨k1,k2,k3⟩:=BN h1
 obtain ⟨n1,n2,n3⟩:=agQ h2
 have hw:=uz h2
 unfold iG
 rw [if_pos h]
 rcases k3 with ⟨g0,g1,g2,g3⟩|⟨g0,g1,g2,g3⟩
 ·rw [g0,if_pos rfl]
  have hz:=adi (vU g3) hw
  refine ⟨MI k1 (by show 1≤s.lm∧s.lm≤1024∧0≤s.fs∧s.fs≤c.num∧c.num≤1073741824;omega) (.inl ⟨rfl,g1,by show s.fs≠c.num;omega,adR hz⟩),rfl,rfl,rfl,rfl,rfl,fun e=>(by cases e),fun _=>⟨g1,hz⟩,fun e=>(by cases e)⟩
 ·rw [g0,if_neg Bool.false_ne_true]
  unfold Uz
  by_cases q:(s.cy.length:Int)<s.lm
  ·rw [if_pos q]
   refine ⟨MI k1 (by show 1≤s.lm∧s.lm≤1024∧0≤s.fs∧s.fs≤c.num∧c.num≤1073741824;omega) (.inr ⟨g0,g1,by show (((s.cy++[c]).length:Nat):Int)≤s.lm;rw [List.length_append];simp;omega,Qv g3 h2 h3⟩),rfl,rfl,rfl,rfl,?_,fun _=>rfl,fun e=>?_,fun _=>g1⟩
   ·show s.ov=_
    rw [g0,decide_eq_false (by omega)];rfl
   ·rw [show ({ s with cy:=s.cy++[c],ls:=c.num }:og).ov=s.ov from rfl,g0] at e;cases e
  ·rw [if_neg q]
   have hz:=Uy (cs:=s.cy++[c]) (adk (uy k1)) (fun x hx=>by
    rcases List.mem_append.1 hx with e|e
    ·exact uz (Dj g3 x e)
    ·rw [List.mem_singleton.1 e];exact hw)
   refine ⟨MI k1 (by show 1≤s.lm∧s.lm≤1024∧0≤s.fs∧s.fs≤c.num∧c.num≤1073741824;omega) (.inl ⟨rfl,rfl,by show s.fs≠c.num;omega,adR hz⟩),rfl,rfl,rfl,rfl,?_,fun e=>(by cases e),fun _=>⟨rfl,hz⟩,fun e=>(by cases e)⟩
   show true=_
   rw [decide_eq_true (by omega)];rfl
theorem agR {s:og} {c:kX} (h:xu s c=0) (hq:MQ s) (hc:Am c) (hl:s.lm≤900):MQ (iG s c):=by
 obtain ⟨p1,p2,p3,p4,p5,p6,p7,p8,p9⟩:=U7 h
 obtain ⟨_,_,k3⟩:=BN p1
 refine ⟨by rw [p2];exact hq.sz,?_,?_,fun x hx=>?_,fun b hb=>?_⟩
 ·rcases k3 with ⟨g0,g1,_⟩|⟨g0,_,g2,_⟩
  ·rw [g1];exact Nat.zero_le _
  ·rw [p3] at g2;omega
 ·cases e:(iG s c).ov with
  |true=>rw [(p8 e).2.1];exact hq.sz
  |false=>rw [p9 e];exact Nat.zero_le _
 ·cases e:(iG s c).ov with
  |true=>rw [(p8 e).1] at hx;cases hx
  |false =>
   rw [p7 e] at hx
   rcases List.mem_append.1 hx with e|e
   ·exact hq.c1 x e
   ·rw [List.mem_singleton.1 e];exact hc
 ·cases e:(iG s c).ov with
  |true =>
   obtain ⟨i,hi⟩:=List.mem_iff_getElem?.1 hb
   obtain ⟨h1,h2⟩:=List.getElem?_eq_some_iff.1 hi
   have:=jr ((p8 e).2.2 i h1).1
   rw [h2] at this
   omega
  |false=>rw [p9 e] at hb;cases hb
theorem agS {im:ig} {l:List bK} (h:TJ im l=0):aA (JK im l)=aA im:=IZ h
theorem adT {a b:ig} (h:aA a=aA b) {k:Nat} (hb:∀ v∈b,v.length≤k):∀ v∈a,v.length≤k:=fun v hv=>by
 have h1:(v.length:Int)∈aA b:=by rw [← h];unfold aA;exact List.mem_map.2 ⟨v,hv,rfl⟩
 unfold aA at h1
 obtain ⟨w,hw,e⟩:=List.mem_map.1 h1
 have:=hb w hw
 omega
theorem adU {s:lS} {x:gZ} (h:gdP s) (hx:gdE x) (hl:s.q.lm≤900) (hls:s.q.ls≤900000):gdP (vZ s x)∧(vZ s x).q.ls≤s.q.ls+3∧(vZ s x).q=iG s.q (iY s x):=by
 obtain ⟨c1,c2,c3⟩:=zO h hx
 obtain ⟨p1,p2,p3,p4,p5,_⟩:=U7 c3
 obtain ⟨a1,_⟩:=ahD h.im (by rw [h.sz];exact c2)
 have hsz:=agS a1
 have hst:=hx.st
 have hnum:(iY s x).num=s.q.ls+1+x.step % 3:=rfl
 refine ⟨⟨?_,?_,p1,agR c3 h.sm c1 hl,adT hsz h.vo,?_,h.rt⟩,?_,rfl⟩
 ·show aN (aA (JK s.so (iY s x).ws))=0
  rw [hsz];exact h.im
 ·show aA (JK s.so (iY s x).ws)=(iG s.q (iY s x)).sz
  rw [hsz,p2];exact h.sz
 ·show (iG s.q (iY s x)).ls≤1000000
  rw [p5,hnum];omega
 ·show (iG s.q (iY s x)).ls≤s.q.ls+3
  rw [p5,hnum];omega
end Go.Proofs.YtpcncggjmabnaaaGreatDoor.V

namespace Go.Proofs.YtpcncggjmabnaaaGreatDoor.V
structure gdA (s:lS):Prop where
 im:dH s.ta=0
 sz:aA s.ta=s.q.sz
 ck:rZ s.q=0
 sm:MQ s.q
 rt:s.rt=true
end Go.Proofs.YtpcncggjmabnaaaGreatDoor.V

namespace Go.Proofs.YtpcncggjmabnaaaGreatDoor.V
theorem I4 (l m:List bK):dL (l++m)=dL l+dL m:=by simp [dL]
theorem FQ {a:ig} {v:Nat}:∀ {x:List fG},(∀ e∈x,0≤e.start∧1≤e.count∧e.start+e.count≤((a.getD v []).length:Int))→dL (Dk a v x)=Qd x
 |[],_=>rfl
 |e :: x,h=>by
  have h1:=h e (by simp)
  have ih:=FQ (a:=a) (v:=v) (x:=x) fun y hy=>h y (by simp [hy])
  have e1:Dk a v (e :: x)=[wOf a v e]++Dk a v x:=rfl
  have e2:dL [wOf a v e]=e.count:=by
   simp only [dL,List.map_cons,List.map_nil,List.sum_cons,List.sum_nil,wOf,List.length_take,List.length_drop]
   omega
  rw [e1,I4,ih,e2]
  simp [Qd]
structure gdD (s:lS):Prop where
 im:dH s.so=0
 sz:aA s.so=s.q.sz
 ck:rZ s.q=0
 sm:MQ s.q
 vo:∀ v∈s.so,v.length≤400
 rt:s.rt=true
theorem aj8 {s:lS} (h:gdD s) (ho:s.q.ov=true):GU s.q s.so 7=0∧smI s.so∧xg s.q.dt s.q.sz=true∧FC s.so s.q.sz=true:=by
 obtain ⟨k1,k2,k3⟩:=BN h.ck
 have hI:=Dl.2 h.sz
 rcases k3 with ⟨_,g1,g2,g3⟩|⟨g,_⟩
 ·refine ⟨?_,⟨by have:=(lJ h.im).1;omega,h.vo⟩,g3,hI⟩
  unfold GU
  rw [if_pos h.ck,if_pos h.im,if_pos ho,if_pos hI,if_neg (by decide)]
 ·rw [ho] at g;cases g
end Go.Proofs.YtpcncggjmabnaaaGreatDoor.V

namespace Go.Proofs.YtpcncggjmabnaaaGreatDoor.V
def BR (im:ig) (v s:Nat):fV:=(im.getD v []).getD s xC
theorem Qw {a b:ig} (h:aA a=aA b) (w:bK):aT a w=aT b w:=by
 have hl:a.length=b.length:=by
  have:=congrArg List.length h
  simpa [aA] using this
 have hv:(a.getD w.volume.toNat []).length=(b.getD w.volume.toNat []).length:=by
  have h1:=congrArg (fun l:List Int=>l.getD w.volume.toNat 0) h
  simp only [aA,List.getD_eq_getElem?_getD,List.getElem?_map] at h1 ⊢
  by_cases c:w.volume.toNat<a.length
  ·have c2:w.volume.toNat<b.length:=by omega
   rw [List.getElem?_eq_getElem c,List.getElem?_eq_getElem c2] at h1 ⊢
   simp only [Option.map_some,Option.getD_some] at h1 ⊢
   omega
  ·rw [List.getElem?_eq_none (by omega),List.getElem?_eq_none (by omega)]
 unfold aT
 rw [hl,hv]
theorem FT (v s:Int):∀ a b:List bK,(∀ w∈a,mQ w v s=true→(w.data[(yg w v s).toNat]?).isSome=true)→qB v s (a++b)=(qB v s a).or (qB v s b)
 |[],b,_=>by simp [qB]
 |w :: a,b,h=>by
  rw [List.cons_append,qB,qB]
  cases c:mQ w v s with
  |true =>
   rw [if_pos rfl,if_pos rfl]
   have:=h w (by simp) c
   cases e:w.data[(yg w v s).toNat]? with
   |none=>rw [e] at this;cases this
   |some x=>rfl
  |false =>
   rw [if_neg Bool.false_ne_true,if_neg Bool.false_ne_true]
   exact FT v s a b fun x hx=>h x (by simp [hx])
theorem FU {w:bK} {v s:Int} (h:mQ w v s=true):(w.data[(yg w v s).toNat]?).isSome=true:=by
 rw [List.getElem?_eq_getElem (UH h).1];rfl
theorem Zd (w:bK) (l:List bK) (v s:Int):pG (w :: l) v s=(pG l v s).or (qB v s [w]):=by
 unfold pG
 rw [List.reverse_cons,FT v s _ _ fun x _ h=>FU h]
theorem Qx (a b:List bK) (v s:Int):pG (a++b) v s=(pG b v s).or (pG a v s):=by
 unfold pG
 rw [List.reverse_append,FT v s _ _ fun x _ h=>FU h]
theorem MJ {v:Nat} {f:Nat→fV} {g:fG→bK} (s:Nat):∀ es:List fG,(∀ e∈es,(0≤e.start∧1≤e.count)∧(g e).volume=(v:Int)∧(g e).start=e.start∧(g e).data.length=e.count.toNat∧∀ k,k<e.count.toNat→(g e).data[k]?=some (f (e.start.toNat+k)))→pG (es.map g) (v:Int) (s:Int)=if jq es s then some (f s) else none
 |[],_=>rfl
 |e :: es,h=>by
  obtain ⟨⟨h0,h1⟩,h2,h3,h4,h5⟩:=h e (by simp)
  have ih:=MJ (v:=v) (f:=f) (g:=g) s es fun x hx=>h x (by simp [hx])
  rw [List.map_cons,Zd,ih]
  have hi:jq (e :: es) s=(IL e s || jq es s):=rfl
  rw [hi]
  cases c:jq es s with
  |true=>rw [if_pos rfl,Bool.or_true,if_pos rfl];rfl
  |false =>
   rw [if_neg Bool.false_ne_true,Bool.or_false,Option.none_or,qB]
   have hb:mQ (g e) (v:Int) (s:Int)=IL e s:=by
    unfold mQ LW IL
    rw [h2,h3,h4,decide_eq_true (show (v:Int)=(v:Int) from rfl),Bool.true_and,Bool.eq_iff_iff]
    simp only [Bool.and_eq_true,decide_eq_true_eq]
    constructor
    ·rintro ⟨⟨a1,a2⟩,a3⟩
     exact ⟨by omega,a2,by omega⟩
    ·rintro ⟨a1,a2,a3⟩
     exact ⟨⟨by omega,a2⟩,by omega⟩
   rw [hb]
   cases d:IL e s with
   |false=>rw [if_neg Bool.false_ne_true,if_neg Bool.false_ne_true];rfl
   |true =>
    have hk:=UH (w:=g e) (v:=(v:Int)) (s:=(s:Int)) (by rw [hb];exact d)
    rw [if_pos rfl,if_pos rfl]
    rw [h4] at hk
    have hn:yg (g e) (v:Int) (s:Int)=(s:Int) - e.start:=by
     rw [hb.symm] at d
     unfold mQ at d
     simp only [Bool.and_eq_true,decide_eq_true_eq] at d
     unfold yg
     rw [if_pos d.1,h3]
    rw [h5 _ hk.1]
    congr 2
    rw [hn] at hk ⊢
    omega
theorem Qy {l:List bK} {v s:Int} (h:∀ w∈l,w.volume≠v):pG l v s=none:=by
 have:∀ m:List bK,(∀ w∈m,w.volume≠v)→qB v s m=none:=by
  intro m
  induction m with
  |nil=>intro _;rfl
  |cons w m ih =>
   intro hm
   have hb:mQ w v s=false:=by unfold mQ LW;rw [decide_eq_false (hm w (by simp))];rfl
   rw [qB,hb,if_neg Bool.false_ne_true]
   exact ih fun x hx=>hm x (by simp [hx])
 exact this _ fun w hw=>h w (List.mem_reverse.1 hw)
theorem adV (l:List bK) (v s:Int) {n k:Nat} (h:k<n):(ng l v s n)[k]?=some ((pG l v (s+(k:Int))).getD xC):=by
 unfold ng
 rw [List.getElem?_map,List.getElem?_range h];rfl
theorem Qz (l:List bK) (v s:Nat):∀ n,pG (uM l n) (v:Int) (s:Int)=if v<n∧jq (jX (v:Int) l) s=true then some ((pG l (v:Int) (s:Int)).getD xC) else none
 |0=>by rw [if_neg (by omega)];rfl
 |n+1=>by
  rw [sH,Qx,Qz l v s n]
  by_cases c:v=n
  ·subst c
   rw [if_neg (show ¬ (v<v∧jq (jX (v:Int) l) s=true) by omega),MJ (f:=fun k=>(pG l (v:Int) (k:Int)).getD xC) s (jX (v:Int) l) (fun e he=>by
    have h1:=AY e he
    have hd:(IW l (v:Int) e).data.length=e.count.toNat:=sF _ _ _ _
    refine ⟨⟨h1.1,h1.2.1⟩,rfl,rfl,hd,fun k hk=>?_⟩
    show (ng l (v:Int) e.start e.count.toNat)[k]?=_
    rw [adV _ _ _ hk,show e.start+(k:Int)=((e.start.toNat+k:Nat):Int) by omega])]
   cases jq (jX (v:Int) l) s with
   |true=>rw [if_pos rfl,if_pos ⟨by omega,rfl⟩];rfl
   |false=>rw [if_neg Bool.false_ne_true,if_neg (by simp)];rfl
  ·rw [Qy (l:=(jX (n:Int) l).map (IW l (n:Int))) (fun w hw=>by
    obtain ⟨e,_,rfl⟩:=List.mem_map.1 hw
    show (n:Int)≠(v:Int)
    omega),Option.none_or]
   by_cases d:v<n
   ·cases jq (jX (v:Int) l) s with
    |true=>rw [if_pos ⟨d,rfl⟩,if_pos ⟨by omega,rfl⟩]
    |false=>rw [if_neg (by simp),if_neg (by simp)]
   ·rw [if_neg (by omega),if_neg (by omega)]
theorem Wi {im:ig} {X:List (List fG)} (h:Y2 im X) (v s:Nat):∀ n,n≤X.length→pG (FB im X n) (v:Int) (s:Int)=if v<n∧jq (X.getD v []) s=true then some (BR im v s) else none
 |0,_=>by rw [if_neg (by omega)];rfl
 |n+1,hn=>by
  rw [zI,Qx,Wi h v s n (by omega)]
  by_cases c:v=n
  ·subst c
   have hv:v<X.length:=by omega
   have e1:X.getD v []=X[v]:=by simp [hv]
   rw [if_neg (show ¬ (v<v∧jq (X.getD v []) s=true) by omega)]
   unfold Dk
   rw [MJ (v:=v) (f:=fun k=>BR im v k) s (X.getD v []) (fun e he=>by
    rw [e1] at he
    obtain ⟨q1,q2,q3⟩:=h.fx v hv e he
    have hl:(wOf im v e).data.length=e.count.toNat:=by
     show (((im.getD v []).drop e.start.toNat).take e.count.toNat).length=_
     rw [List.length_take,List.length_drop];omega
    refine ⟨⟨q1,q2⟩,rfl,rfl,hl,fun k hk=>?_⟩
    show (((im.getD v []).drop e.start.toNat).take e.count.toNat)[k]?=_
    rw [List.getElem?_take,if_pos hk,List.getElem?_drop]
    unfold BR
    have hlt:e.start.toNat+k<(im.getD v []).length:=by omega
    rw [List.getElem?_eq_getElem hlt,List.getD_eq_getElem?_getD (l:=im.getD v []),List.getElem?_eq_getElem hlt];rfl)]
   cases jq (X.getD v []) s with
   |true=>rw [if_pos rfl,if_pos ⟨by omega,rfl⟩];rfl
   |false=>rw [if_neg Bool.false_ne_true,if_neg (by simp)];rfl
  ·rw [Qy (l:=Dk im n (X.getD n [])) (fun w hw=>by
    unfold Dk at hw
    obtain ⟨e,_,rfl⟩:=List.mem_map.1 hw
    show (n:Int)≠(v:Int)
    omega),Option.none_or]
   by_cases d:v<n
   ·cases jq (X.getD v []) s with
    |true=>rw [if_pos ⟨d,rfl⟩,if_pos ⟨by omega,rfl⟩]
    |false=>rw [if_neg (by simp),if_neg (by simp)]
   ·rw [if_neg (by omega),if_neg (by omega)]
end Go.Proofs.YtpcncggjmabnaaaGreatDoor.V

namespace Go.Proofs.YtpcncggjmabnaaaGreatDoor.V
def tgt (s:lS):ig:=s.q.cy.foldl (fun im c=>c.ws.foldl TI im) s.ta
structure kpI (s:lS):Prop where
 so:dH s.so=0
 sz:aA s.so=s.q.sz
 tz:aA s.ta=s.q.sz
 ck:rZ s.q=0
 sm:MQ s.q
 vo:∀ v∈s.so,v.length≤400
 rt:s.rt=true
 qu:s.q.ov=false→tgt s=s.so
 dr:s.q.ov=true→∀ v n:Nat,v<s.so.length→BR s.so v n≠BR s.ta v n→∃ b,s.q.dt[v]?=some b∧bit b.ws n=true
theorem Wj {z:List Int} {l:List Bm} {ws:List bK} (h:VW z l) (hw:mX z ws) {v:Nat} (hv:v<l.length):∃ b,(Fv ws l)[v]?=some b∧∀ n:Nat,(n:Int)<z.getD v 0→bit b.ws n=(bit l[v].ws n || jq (lQ (v:Int) ws) n):=by
 obtain ⟨h1,h2⟩:=h.2 v hv
 have h3:=jr h1
 obtain ⟨_,k1⟩:=Ux h hw v hv
 obtain ⟨u1,u2⟩:=zG ⟨h3.1,h3.2.1⟩ k1
 obtain ⟨g1,g2,g3,g4⟩:=VP (jX (v:Int) ws) h1 u1
 refine ⟨Dh l[v] (jX (v:Int) ws),?_,fun n hn=>?_⟩
 ·unfold Fv
  rw [List.getElem?_mapIdx,List.getElem?_eq_getElem hv];rfl
 ·rw [g4 n (by rw [h2];exact hn),u2 n]
end Go.Proofs.YtpcncggjmabnaaaGreatDoor.V

namespace Go.Proofs.YtpcncggjmabnaaaGreatDoor.V
theorem agT {b:Bm} (h:okB b=true) (n:Nat):jq (qj b) n=bit b.ws n:=by
 unfold qj xR
 rw [if_pos h,zF]
 have hs:=jr h
 by_cases c:n<b.size.toNat
 ·rw [decide_eq_true c,Bool.true_and]
 ·rw [decide_eq_false c,Bool.false_and]
  cases e:bit b.ws n with
  |false=>rfl
  |true =>
   have:=ab9 h e
   omega
end Go.Proofs.YtpcncggjmabnaaaGreatDoor.V
