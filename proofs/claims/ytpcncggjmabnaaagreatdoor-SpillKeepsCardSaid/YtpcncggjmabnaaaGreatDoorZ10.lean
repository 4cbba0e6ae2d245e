/-
  Part 10 of the texts that the statement stands on.
-/
import Derived.Test.YtpcncggjmabnaaaGreatDoorZ9
import Derived.ProofKit
import Derived.SizedLaws
import Derived.OpenShut
import Derived.Deep.Strs
import Derived.Test.YtpcncggjmabnaaaGreatDoorRows
import Derived.WalkSmall
import Derived.WalkSpells
import Derived.Lib.SliceRun
set_option linter.all false
namespace Go.Proofs.YtpcncggjmabnaaaGreatDoor.V
theorem Aa (v:Int) (l:List bP):lG v l=ext (jQ (nG v l)) 4096:=by
 unfold lG setOf
 congr 1
 funext s
 simp [orB,jQ]
theorem akv {l:List bP} {v:Int} (hm:∀ w∈l,Hz w) (hl:l.length≤10000) {st:St} (h:st.head [0,1,5,6,7] st.boxes.length=some ⟨sl 37 [(0,.pv (.list 3 (l.map dZ))),(1,.pv (.int .i64 v)),(5,.row 1 ((mk (jQ (nG v (l.take ((0:Nat)))))).map eB)),(6,.pv (.int .i64 (0:Nat))),(7,.any)],[],[],none⟩) :
  den env Md st=some (.normal,⟨sl 37 [(4,.any),(5,.row 1 ((mk (jQ (nG v l))).map eB))],[],[],none⟩):=by
 unfold Md
 refine bC (env:=env) (nb:=0) (l.length) (fun i=>⟨sl 37 [(0,.pv (.list 3 (l.map dZ))),(1,.pv (.int .i64 v)),(5,.row 1 ((mk (jQ (nG v (l.take (i))))).map eB)),(6,.pv (.int .i64 i)),(7,.any)],[],[],none⟩) (fun i=>some (.normal,⟨sl 37 [(4,.any),(5,.row 1 ((mk (jQ (nG v l))).map eB))],[],[],none⟩)) h (fun _=>rfl) (fun _=>by simp only [aB,bg,Nat.reduceMul,Nat.reduceBEq,Nat.reduceLT,Nat.reduceLeDiff,Nat.reduceAdd,decide_true,Bool.and_self,Bool.true_and]) ?_ ?_
 ·intro i rb hi ih
  have hi1:=bG hi (by unfold lim;omega)
  have F1:((i:Int)<(l.length:Int))=True:=eq_true (by omega)
  have hx:=uK hi
  have hh:=QE (v:=v) hi
  obtain ⟨⟨m1,m2⟩,m3⟩:=hm _ (List.getElem_mem hi)
  by_cases c:l[i].volume=v
  ·have G:(l[i].volume==v)=true:=by simp [c]
   rw [if_pos c] at hh
   have hA:=abC (s:=l[i].start) (c:=(l[i].data.length:Int)) (m:=mk (jQ (nG v (l.take i)))) (by simp only [nV,Bool.and_eq_true,decide_eq_true_eq];omega) (by simp only [nV,Bool.and_eq_true,decide_eq_true_eq];omega) (by intro e;have:=yJ (jQ (nG v (l.take i)));rw [e] at this;simp at this) (by rw [yJ];exact Nat.le_refl _)
   rw [agU] at hA
   have hmk:mk (fun t=>jQ (nG v (l.take i)) t || inX l[i].start (l[i].data.length:Int) t)=mk (jQ (nG v (l.take (i+1)))):=by
    apply mk_congr
    intro s hs
    rw [hh,zU];rfl
   rw [hmk] at hA
   have C:(0=0∧(4096:Nat)=4096∧(4096:Nat)=4096)=True:=eq_true ⟨rfl,rfl,rfl⟩
   simp only [DI,F1,G,hx,hA,C,yJ,jA,ajg,au hi,List.length_map,ak,Nat.reduceMul,Nat.reduceBEq,Nat.reduceLT,Nat.reduceLeDiff,reduceCtorEq,Nat.reduceEqDiff,Nat.reduceAdd,Nat.beq]
   rw [ih _ (by simp only [hi1,ak,Nat.reduceMul,Nat.reduceBEq,Nat.reduceLT,Nat.reduceLeDiff,reduceCtorEq,Nat.reduceEqDiff,Nat.reduceAdd,Nat.beq]<;>rfl)]
  ·have G:(l[i].volume==v)=false:=by simp [c]
   rw [if_neg c] at hh
   rw [hh] at ih
   simp only [DI,F1,G,hx,jA,au hi,List.length_map,ak,Nat.reduceMul,Nat.reduceBEq,Nat.reduceLT,Nat.reduceLeDiff,reduceCtorEq,Nat.reduceEqDiff,Nat.reduceAdd,Nat.beq]
   rw [ih _ (by simp only [hi1,ak,Nat.reduceMul,Nat.reduceBEq,Nat.reduceLT,Nat.reduceLeDiff,reduceCtorEq,Nat.reduceEqDiff,Nat.reduceAdd,Nat.beq]<;>rfl)]
 ·intro rb
  rw [List.take_length]
  simp only [DI,Int.lt_irrefl,List.length_map,ak,Nat.reduceMul,Nat.reduceBEq,Nat.reduceLT,Nat.reduceLeDiff,reduceCtorEq,Nat.reduceEqDiff,Nat.reduceAdd,Nat.beq]
theorem am8 {l:List bP} {v:Int} (hm:∀ w∈l,Hz w) (hl:l.length≤10000):cal env 99 [.list 3 (l.map dZ),.int .i64 v]=some [(.list 2 ((lG v l).map dD),true)]:=by
 have R2:((4096:Int)≤(lim:Int))=True:=eq_true (by unfold lim;decide)
 have R0:((0:Int)≤4096)=True:=eq_true (by decide)
 have R1:((4096:Int)≤4096)=True:=eq_true (by decide)
 have T:(4096:Int).toNat=4096:=rfl
 have e1:=agW (f:=jQ (nG v l))
 rw [Aa]
 have hz:List.replicate 4096 (PV.bool false)=(mk (jQ (nG v (l.take 0)))).map eB:=by
  have:mk (jQ (nG v (l.take 0)))=List.replicate 4096 false:=by
   rw [show jQ (nG v (l.take 0))=jQ [] from rfl,adC];rfl
  rw [this,List.map_replicate];rfl
 rw [ah amk rfl];simp only [acd,aB,Nat.reduceBEq,Nat.reduceLeDiff,Nat.reduceAdd,List.length_cons,List.length_nil]
 simp only [R0,R1,R2,T,and_self,if_true,ak,Nat.reduceMul,Nat.reduceBEq,Nat.reduceLT,Nat.reduceLeDiff,reduceCtorEq,Nat.reduceEqDiff,Nat.reduceAdd,Nat.beq]
 rw [hz]
 rw [akv (v:=v) hm hl (by simp only [aB,bg,Nat.reduceMul,Nat.reduceBEq,Nat.reduceLT,Nat.reduceLeDiff,Nat.reduceAdd,decide_true,Bool.and_self,Bool.true_and]<;>rfl)]
 simp only [R0,R1,R2,T,e1,ak,Nat.reduceMul,Nat.reduceBEq,Nat.reduceLT,Nat.reduceLeDiff,reduceCtorEq,Nat.reduceEqDiff,Nat.reduceAdd,Nat.beq]
def qx (l:List bP) (v s:Int) (n:Nat):List fM:=(List.range n).map fun (k:Nat)=>(sS l v (s+(k:Int))).getD vF
theorem U4 (l:List bP) (v s:Int) (n:Nat):qx l v s (n+1)=qx l v s n++[(sS l v (s+(n:Int))).getD vF]:=by
 unfold qx;rw [List.range_succ,List.map_append];rfl
theorem xH (l:List bP) (v s:Int) (n:Nat):(qx l v s n).length=n:=by simp [qx]
def NC (l:List bP) (v:Int) (e:fJ):bP:=⟨v,e.start,qx l v e.start e.count.toNat⟩
def Zt (l:List bP) (v:Int) (es:List fJ) (n:Nat):List bP:=(es.take n).map (NC l v)
theorem ag9 {l:List bP} {v:Int} {es:List fJ} (n:Nat):(Zt l v es n).length≤n:=by unfold Zt;rw [List.length_map,List.length_take];omega
theorem akw {l:List bP} {v:Int} {es:List fJ} {i0:Nat} {L:List PV} (hm:∀ w∈l,Hz w) (hl:l.length≤10000) (h0:i0<es.length) (he:0≤es[i0].start∧0≤es[i0].count∧es[i0].start+es[i0].count≤4096) {st:St} (h:st.head [0,1,2,7,8,9,10,57] st.boxes.length=some ⟨sl 59 [(0,.pv (.list 3 (l.map dZ))),(1,.pv (.int .i64 v)),(2,.pv (.list 2 (es.map dD))),(7,.row 3 L),(8,.pv (.int .i64 i0)),(9,.aI 0 0),(10,.pv (.int .i64 (0:Nat))),(57,.any)],[⟨false,[.pv (.int .i64 v),.pv (.int .i64 es[i0].start),.row 8 ((qx l v es[i0].start ((0:Nat))).map iI)]⟩],[],none⟩) :
  den env L8 st=some (.normal,⟨sl 59 [(0,.pv (.list 3 (l.map dZ))),(1,.pv (.int .i64 v)),(2,.pv (.list 2 (es.map dD))),(6,.any),(7,.row 3 L),(8,.pv (.int .i64 i0)),(9,.aI 0 0),(57,.any)],[⟨false,[.pv (.int .i64 v),.pv (.int .i64 es[i0].start),.row 8 ((qx l v es[i0].start es[i0].count.toNat).map iI)]⟩],[],none⟩):=by
 unfold L8
 refine bC (env:=env) (nb:=1) (es[i0].count.toNat) (fun i=>⟨sl 59 [(0,.pv (.list 3 (l.map dZ))),(1,.pv (.int .i64 v)),(2,.pv (.list 2 (es.map dD))),(7,.row 3 L),(8,.pv (.int .i64 i0)),(9,.aI 0 0),(10,.pv (.int .i64 i)),(57,.any)],[⟨false,[.pv (.int .i64 v),.pv (.int .i64 es[i0].start),.row 8 ((qx l v es[i0].start (i)).map iI)]⟩],[],none⟩) (fun i=>some (.normal,⟨sl 59 [(0,.pv (.list 3 (l.map dZ))),(1,.pv (.int .i64 v)),(2,.pv (.list 2 (es.map dD))),(6,.any),(7,.row 3 L),(8,.pv (.int .i64 i0)),(9,.aI 0 0),(57,.any)],[⟨false,[.pv (.int .i64 v),.pv (.int .i64 es[i0].start),.row 8 ((qx l v es[i0].start es[i0].count.toNat).map iI)]⟩],[],none⟩)) h (fun _=>rfl) (fun _=>by simp only [aB,bg,Nat.reduceMul,Nat.reduceBEq,Nat.reduceLT,Nat.reduceLeDiff,Nat.reduceAdd,decide_true,Bool.and_self,Bool.true_and]) ?_ ?_
 ·intro i rb hi ih
  have hi1:=bG hi (by unfold lim;omega)
  have F1:((i:Int)<es[i0].count)=True:=eq_true (by omega)
  have hx:=sQ h0
  have W:IntKind.i64.wrap (es[i0].start+(i:Int))=es[i0].start+(i:Int):=bf (by omega)
  have e1:=am7 (v:=v) (s:=es[i0].start+(i:Int)) hm (by omega) (by omega)
  have F5:((qx l v es[i0].start i).length+1≤lim)=True:=eq_true (by rw [xH];unfold lim;omega)
  have hs:(qx l v es[i0].start (i+1)).map iI=(qx l v es[i0].start i).map iI++[iI ((sS l v (es[i0].start+(i:Int))).getD vF)]:=by rw [U4,List.map_append];rfl
  rw [hs] at ih
  obtain ⟨a,b,c,d,e,f,g,h',h8⟩:=aks ((sS l v (es[i0].start+(i:Int))).getD vF)
  rw [h8] at e1 ih
  simp only [L6,F1,F5,hx,e1,W,sN,Wy,au h0,List.length_map,ak,Nat.reduceMul,Nat.reduceBEq,Nat.reduceLT,Nat.reduceLeDiff,reduceCtorEq,Nat.reduceEqDiff,Nat.reduceAdd,Nat.beq]
  rw [ih _ (by simp only [hi1,ak,Nat.reduceMul,Nat.reduceBEq,Nat.reduceLT,Nat.reduceLeDiff,reduceCtorEq,Nat.reduceEqDiff,Nat.reduceAdd,Nat.beq]<;>rfl)]
 ·intro rb
  have F1:(((es[i0].count.toNat:Nat):Int)<es[i0].count)=False:=eq_false (by omega)
  have hx:=sQ h0
  simp only [L6,F1,hx,sN,au h0,List.length_map,ak,Nat.reduceMul,Nat.reduceBEq,Nat.reduceLT,Nat.reduceLeDiff,reduceCtorEq,Nat.reduceEqDiff,Nat.reduceAdd,Nat.beq]
theorem adX {l:List bP} {v:Int} {es:List fJ} (hm:∀ w∈l,Hz w) (hl:l.length≤10000) (hes:es.length≤10000) (he:∀ e∈es,0≤e.start∧0≤e.count∧e.start+e.count≤4096) {st:St} (h:st.head [0,1,2,7,8,57] st.boxes.length=some ⟨sl 59 [(0,.pv (.list 3 (l.map dZ))),(1,.pv (.int .i64 v)),(2,.pv (.list 2 (es.map dD))),(7,.row 3 ((Zt l v es ((0:Nat))).map dZ)),(8,.pv (.int .i64 (0:Nat))),(57,.any)],[],[],none⟩) :
  den env Mc st=some (.normal,⟨sl 59 [(6,.any),(7,.row 3 ((Zt l v es es.length).map dZ))],[],[],none⟩):=by
 unfold Mc
 refine bC (env:=env) (nb:=0) (es.length) (fun i=>⟨sl 59 [(0,.pv (.list 3 (l.map dZ))),(1,.pv (.int .i64 v)),(2,.pv (.list 2 (es.map dD))),(7,.row 3 ((Zt l v es (i)).map dZ)),(8,.pv (.int .i64 i)),(57,.any)],[],[],none⟩) (fun i=>some (.normal,⟨sl 59 [(6,.any),(7,.row 3 ((Zt l v es es.length).map dZ))],[],[],none⟩)) h (fun _=>rfl) (fun _=>by simp only [aB,bg,Nat.reduceMul,Nat.reduceBEq,Nat.reduceLT,Nat.reduceLeDiff,Nat.reduceAdd,decide_true,Bool.and_self,Bool.true_and]) ?_ ?_
 ·intro i rb hi ih
  have hi1:=bG hi (by unfold lim;omega)
  have F1:((i:Int)<(es.length:Int))=True:=eq_true (by omega)
  have hx:=sQ hi
  have F5:((Zt l v es i).length+1≤lim)=True:=eq_true (by have:=ag9 (l:=l) (v:=v) (es:=es) i;unfold lim;omega)
  have hs:(Zt l v es (i+1)).map dZ=(Zt l v es i).map dZ++[.agg [.int .i64 v,.int .i64 es[i].start,.list 8 ((qx l v es[i].start es[i].count.toNat).map iI)]]:=by
   unfold Zt
   rw [List.take_succ_eq_append_getElem hi,List.map_append,List.map_append];rfl
  rw [hs] at ih
  simp only [L9,F1,F5,hx,sN,jA,au hi,List.length_map,ak,Nat.reduceMul,Nat.reduceBEq,Nat.reduceLT,Nat.reduceLeDiff,reduceCtorEq,Nat.reduceEqDiff,Nat.reduceAdd,Nat.beq]
  rw [akw (l:=l) (v:=v) (es:=es) (i0:=i) hm hl hi (he _ (List.getElem_mem hi)) (by simp only [show qx l v es[i].start 0=[] from rfl,List.map_nil];simp only [aB,bg,Nat.reduceMul,Nat.reduceBEq,Nat.reduceLT,Nat.reduceLeDiff,Nat.reduceAdd,decide_true,Bool.and_self,Bool.true_and]<;>rfl)]
  simp only [F5,jA,List.length_map,ak,Nat.reduceMul,Nat.reduceBEq,Nat.reduceLT,Nat.reduceLeDiff,reduceCtorEq,Nat.reduceEqDiff,Nat.reduceAdd,Nat.beq]
  rw [ih _ (by simp only [hi1,ak,Nat.reduceMul,Nat.reduceBEq,Nat.reduceLT,Nat.reduceLeDiff,reduceCtorEq,Nat.reduceEqDiff,Nat.reduceAdd,Nat.beq]<;>rfl)]
 ·intro rb
  simp only [L9,Int.lt_irrefl,List.length_map,ak,Nat.reduceMul,Nat.reduceBEq,Nat.reduceLT,Nat.reduceLeDiff,reduceCtorEq,Nat.reduceEqDiff,Nat.reduceAdd,Nat.beq]
theorem am9 {l:List bP} {v:Int} {es:List fJ} (hm:∀ w∈l,Hz w) (hl:l.length≤10000) (hes:es.length≤10000) (he:∀ e∈es,0≤e.start∧0≤e.count∧e.start+e.count≤4096):cal env 98 [.list 3 (l.map dZ),.int .i64 v,.list 2 (es.map dD)]=some [(.list 3 ((es.map (NC l v)).map dZ),true)]:=by
 rw [ah amj rfl];simp only [ab9,aB,Nat.reduceBEq,Nat.reduceLeDiff,Nat.reduceAdd,List.length_cons,List.length_nil]
 simp only [List.length_map,ak,Nat.reduceMul,Nat.reduceBEq,Nat.reduceLT,Nat.reduceLeDiff,reduceCtorEq,Nat.reduceEqDiff,Nat.reduceAdd,Nat.beq]
 rw [adX (l:=l) (v:=v) (es:=es) hm hl hes he (by simp only [show Zt l v es 0=[] from rfl,List.map_nil];simp only [aB,bg,Nat.reduceMul,Nat.reduceBEq,Nat.reduceLT,Nat.reduceLeDiff,Nat.reduceAdd,decide_true,Bool.and_self,Bool.true_and]<;>rfl)]
 rw [show es.map (NC l v)=Zt l v es es.length by unfold Zt;rw [List.take_length]]
 simp only [List.length_map,ak,Nat.reduceMul,Nat.reduceBEq,Nat.reduceLT,Nat.reduceLeDiff,reduceCtorEq,Nat.reduceEqDiff,Nat.reduceAdd,Nat.beq]
def lq (n:Nat):List Int:=List.replicate n 4096
theorem akx  {st:St} (h:st.head [1,2,9] st.boxes.length=some ⟨sl 11 [(1,.row 1 ((lq ((0:Nat))).map eI)),(2,.pv (.int .i64 (((0:Nat):Nat):Int))),(9,.any)],[],[],none⟩) :
  den env LZ st=some (.normal,⟨sl 11 [(0,.any),(1,.row 1 ((lq 8).map eI))],[],[],none⟩):=by
 unfold LZ
 refine bC (env:=env) (nb:=0) (8) (fun i=>⟨sl 11 [(1,.row 1 ((lq (i)).map eI)),(2,.pv (.int .i64 ((i:Nat):Int))),(9,.any)],[],[],none⟩) (fun i=>some (.normal,⟨sl 11 [(0,.any),(1,.row 1 ((lq 8).map eI))],[],[],none⟩)) h (fun _=>rfl) (fun _=>by simp only [aB,bg,Nat.reduceMul,Nat.reduceBEq,Nat.reduceLT,Nat.reduceLeDiff,Nat.reduceAdd,decide_true,Bool.and_self,Bool.true_and]) ?_ ?_
 ·intro i rb hi ih
  have hi1:=bG (n:=8) hi (by unfold lim;omega)
  have F1:((i:Int)<8)=True:=eq_true (by omega)
  have F5:((lq i).length+1≤lim)=True:=eq_true (by unfold lq;rw [List.length_replicate];unfold lim;omega)
  have hs:(lq (i+1)).map eI=(lq i).map eI++[.int .i64 4096]:=by
   unfold lq;rw [List.replicate_succ',List.map_append];rfl
  rw [hs] at ih
  simp only [LY,F1,F5,List.length_map,ak,Nat.reduceMul,Nat.reduceBEq,Nat.reduceLT,Nat.reduceLeDiff,reduceCtorEq,Nat.reduceEqDiff,Nat.reduceAdd,Nat.beq]
  rw [ih _ (by simp only [hi1,ak,Nat.reduceMul,Nat.reduceBEq,Nat.reduceLT,Nat.reduceLeDiff,reduceCtorEq,Nat.reduceEqDiff,Nat.reduceAdd,Nat.beq]<;>rfl)]
 ·intro rb
  have F1:(((8:Nat):Int)<8)=False:=eq_false (by omega)
  simp only [LY,F1,List.length_map,ak,Nat.reduceMul,Nat.reduceBEq,Nat.reduceLT,Nat.reduceLeDiff,reduceCtorEq,Nat.reduceEqDiff,Nat.reduceAdd,Nat.beq]
theorem ana:cal env 97 []=some [(.list 1 ((lq 8).map eI),true)]:=by
 rw [ah ami rfl];simp only [ab8,aB,Nat.reduceBEq,Nat.reduceLeDiff,Nat.reduceAdd,List.length_cons,List.length_nil]
 simp only [ak,Nat.reduceMul,Nat.reduceBEq,Nat.reduceLT,Nat.reduceLeDiff,reduceCtorEq,Nat.reduceEqDiff,Nat.reduceAdd,Nat.beq]
 rw [akx (by simp only [aB,bg,Nat.reduceMul,Nat.reduceBEq,Nat.reduceLT,Nat.reduceLeDiff,Nat.reduceAdd,decide_true,Bool.and_self,Bool.true_and]<;>rfl)]
 simp only [ak,Nat.reduceMul,Nat.reduceBEq,Nat.reduceLT,Nat.reduceLeDiff,reduceCtorEq,Nat.reduceEqDiff,Nat.reduceAdd,Nat.beq]
end Go.Proofs.YtpcncggjmabnaaaGreatDoor.V

namespace Go.Proofs.YtpcncggjmabnaaaGreatDoor
open Go.RowKit Go.ChangeShapes Go.WideShapes Go.ChangeAt
theorem QJ {T:Tags} {w:World} {b:Bool} {v:Value} (h:uj T w [(.bool b,false)] v):v=.bool b:=by
 obtain ⟨arr,h1,h2,h3⟩:=h
 have ha:arr.size=1:=h1
 have e0:arr[0]?=some arr[0]:=Array.getElem?_eq_getElem (by omega)
 have hv:v=arr[0]:=by rw [h2,if_pos ha,Array.getD_eq_getD_getElem?,e0];rfl
 have hr:aO (fun b=>T b=.ro) w (.bool b) arr[0]:=h3 0 (.bool b,false) arr[0] rfl e0
 rw [hv]
 exact hr.qg
def MX (w:World):Prop:=kR (fun b=>if b<w.heap.size then .ro else .other) w
theorem U5 {P:Program} {env:Env} {f:Nat} {args:List PV} {vs:List Value} {w:World} (hE:CB P env) (h:cal env f args=some [(.bool true,false)]) (hl:vs.length=args.length)
  (hr:∀ (i:Nat) x v,args[i]?=some x→vs[i]?=some v→aO (fun b=>b<w.heap.size) w x v) (hG:MX w):Calls P f vs.toArray w (fun e w'=>e=.returned (.bool true)∧Below w.heap.size w w'):=by
 obtain ⟨n,hn⟩:=oz h
 have hC:=(xg hE hn).2 (fun b=>if b<w.heap.size then .ro else .other) w vs (fun b=>by
  by_cases hb:b<w.heap.size
  ·exact .inl (if_pos hb)
  ·exact .inr (if_neg hb)) (fun b hb=>if_neg (by omega)) hl (fun i x v hx hv=>(hr i x v hx hv).frame fun b hb _=>⟨if_pos hb,rfl⟩) hG
 refine hC.mono ?_
 rintro e w' ⟨v,T',rfl,h1,_,_,h2⟩
 exact ⟨by rw [QJ h2],h1⟩
def MZ (w:World):List PV→List Value→Prop
 |[],[]=>True
 |x :: xs,v :: vs=>aO (fun b=>b<w.heap.size) w x v∧MZ w xs vs
 |_,_=>False
theorem MZ.get {w:World}:∀ {xs:List PV} {vs:List Value},MZ w xs vs→vs.length=xs.length∧∀ (i:Nat) x v,xs[i]?=some x→vs[i]?=some v→aO (fun b=>b<w.heap.size) w x v
 |[],[],_=>⟨rfl,fun i x v hx=>by simp at hx⟩
 |x :: xs,v :: vs,h=>by
  obtain ⟨h1,h2⟩:=h
  obtain ⟨k1,k2⟩:=h2.get
  refine ⟨by simp [k1],fun i y u hy hu=>?_⟩
  cases i with
  |zero=>cases hy;cases hu;exact h1
  |succ i=>exact k2 i y u hy hu
 |[],_ :: _,h=>h.elim
 |_ :: _,[],h=>h.elim
theorem Zu {P:Program} {env:Env} {f:Nat} {args:List PV} {vs:List Value} {w:World} (hE:CB P env) (h:cal env f args=some [(.bool true,false)]) (hr:MZ w args vs) (hG:MX w:=by exact MX.none):Calls P f vs.toArray w (fun e w'=>e=.returned (.bool true)∧Below w.heap.size w w') :=
 U5 hE h hr.get.1 hr.get.2 hG
def BD (w:World) (cs:List Value) (ps:List PV):Prop :=
 cs.length=ps.length∧(∀ c∈cs,c.oneCell'=true)∧∀ (j:Nat) x v,ps[j]?=some x→cs[j]?=some v→aO (fun b=>b<w.heap.size) w x v
def nD (P:Program) (t:TypeId) (n:Nat) (S:List PV→Prop):Prop :=
 P.cellsOf t=n∧∀ {H:Type} {enc:TypeId × Value→H} {w:World} {fuel:Nat} {cs:List Value} {x:DataW H × List MemPlace},DataW.trod enc P w 0 (fun _=>true) true fuel t cs=some x→∃ ps,S ps∧ps.length=n∧BD w cs ps
def SInt (k:IntKind) (ps:List PV):Prop:=∃ n,(Lit.int k n).wf=true∧ps=[.int k n]
def anb (ps:List PV):Prop:=∃ b,ps=[.bool b]
def aky (n:Nat) (S:List PV→Prop) (ps:List PV):Prop:=ps.length=n∧∀ p∈ps,S [p]
def adY (n:Nat) (S:List PV→Prop) (wr:List PV→PV) (ps:List PV):Prop:=∃ es,ps=[.list n es]∧∀ x∈es,∃ q,S q∧x=wr q
def Na:List (List PV→Prop)→List PV→Prop
 |[],ps=>ps=[]
 |S :: Ss,ps=>∃ p q,ps=p++q∧S p∧Na Ss q
section
variable {P:Program} {t e:TypeId} {n m:Nat} {S:List PV→Prop} {k:IntKind}
theorem sU {w:World} {c:Value} {p:PV} (hc:c.oneCell'=true) (h:aO (fun b=>b<w.heap.size) w p c):BD w [c] [p] :=
 ⟨rfl,fun x hx=>by rw [List.mem_singleton.1 hx];exact hc,fun j x v hx hv=>by
  cases j with
  |zero=>cases hx;cases hv;exact h
  |succ j=>simp at hx⟩
theorem nD.int (ht:P.underlying t=some (.int k)) (hc:P.cellsOf t=1):nD P t 1 (SInt k):=⟨hc,fun h=>by
 obtain ⟨n,rfl,_,hw⟩:=DataW.trod_int ht h
 exact ⟨[.int k n],⟨n,hw,rfl⟩,rfl,sU rfl (.int k n)⟩⟩
theorem nD.bool (ht:P.underlying t=some .bool) (hc:P.cellsOf t=1):nD P t 1 anb:=⟨hc,fun h=>by
 obtain ⟨b,rfl,_⟩:=DataW.trod_bool ht h
 exact ⟨[.bool b],⟨b,rfl⟩,rfl,sU rfl (.bool b)⟩⟩
theorem xI {α:Type} {p:Nat→α→Prop}:∀ n:Nat,(∀ i,i<n→∃ y,p i y)→∃ l:List α,l.length=n∧∀ i x,l[i]?=some x→p i x
 |0,_=>⟨[],rfl,fun i x h=>by simp at h⟩
 |n+1,h=>by
  obtain ⟨l,h1,h2⟩:=xI n fun i hi=>h i (by omega)
  obtain ⟨y,hy⟩:=h n (by omega)
  refine ⟨l++[y],by simp [h1],fun i x hx=>?_⟩
  by_cases hi:i<n
  ·rw [List.getElem?_append_left (by omega)] at hx;exact h2 i x hx
  ·have:=(List.getElem?_eq_some_iff.1 hx).1
   obtain rfl:i=n:=by simp at this;omega
   rw [List.getElem?_append_right (by omega),h1,Nat.sub_self] at hx
   cases hx
   exact hy
theorem nD.arr (ht:P.underlying t=some (.array n e)) (he:nD P e 1 S) (hc:P.cellsOf t=n):nD P t n (aky n S):=⟨hc,fun {H enc w fuel cs x} h=>by
 obtain ⟨xs,m,_,_,hl,hx,hE⟩:=DataW.trod_array ht h
 rw [hc] at hl
 obtain ⟨l,h1,h2⟩:=xI (p:=fun i (b:PV)=>S [b]∧∃ c,cs[i]?=some c∧c.oneCell'=true∧aO (fun b=>b<w.heap.size) w b c) n fun i hi=>by
  have:=hE i hi
  rw [List.getElem?_eq_getElem (by omega),he.1] at this
  obtain ⟨ps,g1,g2,g3,g4,g5⟩:=he.2 this
  match ps,g2 with
  |[p],_ =>
   have hci:cs[i]?=some cs[i]:=List.getElem?_eq_getElem (by omega)
   have h0:((cs.drop (i * 1)).take 1)[0]?=some cs[i]:=by
    rw [List.getElem?_take,if_pos (by decide),List.getElem?_drop]
    simpa using hci
   exact ⟨p,g1,cs[i],hci,g4 _ (List.mem_of_getElem? h0),g5 0 p _ rfl h0⟩
 refine ⟨l,⟨h1,fun p hp=>?_⟩,h1,by omega,fun c hc=>?_,fun j x v hx hv=>?_⟩
 ·obtain ⟨i,hi⟩:=List.mem_iff_getElem?.1 hp
  exact (h2 i p hi).1
 ·obtain ⟨i,hi⟩:=List.mem_iff_getElem?.1 hc
  have hil:i<l.length:=by
   have:=(List.getElem?_eq_some_iff.1 hi).1
   omega
  obtain ⟨_,c',e1,e2,_⟩:=h2 i l[i] (List.getElem?_eq_getElem hil)
  rw [hi] at e1;cases e1;exact e2
 ·obtain ⟨_,c',e1,_,e3⟩:=h2 j x hx
  rw [hv] at e1;cases e1;exact e3⟩
theorem yL {w:World} {b off:Nat} {v:Value} (h:w.cell? ⟨b,off,none⟩=some v):cO w b:=by
 unfold World.cell? at h
 split at h
 ·rename_i arr E q hb
  exact ⟨arr,E,q,hb⟩
 ·cases h
theorem nD.list {wr:List PV→PV} (ht:P.underlying t=some (.slice e)) (hc:P.cellsOf t=1) (hr:nD P e n S) (hpos:0<n) (hw:∀ ps,S ps→ps.length=n→(wr ps).cells=ps):nD P t 1 (adY n S wr):=⟨hc,fun {H enc w fuel cs x} h=>by
 rcases DataW.trod_slice ht h with ⟨rfl,_⟩|⟨a,len,cap,elems,rest,m,_,rfl,_,_,hl,hm,hel,hE,hR,_⟩
 ·exact ⟨[.list n []],⟨[],rfl,fun x hx=>by cases hx⟩,rfl,sU rfl (.nil n none)⟩
 ·obtain ⟨l,h1,h2⟩:=xI (p:=fun i (y:List Value × List PV)=>w.cells? 0 (a.add (i * n)) n=some y.1∧S y.2∧y.2.length=n∧BD w y.1 y.2) len fun i hi=>by
   have:=hE i hi
   rw [List.getElem?_eq_getElem (by omega),hr.1,Option.bind_eq_some_iff] at this
   obtain ⟨c,h3,h4⟩:=this
   obtain ⟨ps,g1,g2,g3⟩:=hr.2 h4
   exact ⟨(c,ps),h3,g1,g2,g3⟩
  refine ⟨[.list n (l.map fun y=>wr y.2)],⟨_,rfl,fun x hx=>?_⟩,rfl,sU rfl ?_⟩
  ·obtain ⟨y,hy,rfl⟩:=List.mem_map.1 hx
   obtain ⟨i,hi⟩:=List.mem_iff_getElem?.1 hy
   exact ⟨y.2,(h2 i y hi).2.1,rfl⟩
  ·by_cases hcap:cap=0
   ·have:len=0:=by omega
    subst hcap;subst this
    have:l=[]:=List.eq_nil_of_length_eq_zero h1
    subst this
    exact .nil n (some a)
   ·-- there are cells
    have hcell:∃ off v,w.cell? ⟨a.block,off,none⟩=some v∧a.spot=none:=by
     have QK:∀ (i:Nat) (c:List Value),w.cells? 0 (a.add (i * n)) n=some c→∃ off v,w.cell? ⟨a.block,off,none⟩=some v∧a.spot=none:=fun i c h3=>by
      obtain ⟨_,hc0,h4⟩:=World.cells?_some h3
      have h5:=h4 0 hpos
      rw [List.getElem?_eq_getElem (by omega)] at h5
      have hs:(a.add (i * n)).spot=none:=by simpa [Addr.add] using World.cell?_spot h5
      have hs0:a.spot=none:=by
       unfold Addr.add at hs
       split at hs
       ·exact hs
       ·rename_i hne
        by_cases h0:i * n=0
        ·rename_i q;exact absurd h0 (by simpa using hne)
        ·rcases Nat.eq_zero_or_pos i with hi0|hi0
         ·subst hi0;simp at h0
         ·-- the row begins at a: its first cell
          have:0<len∨len=0:=by omega
          rcases this with hlen|hlen
          ·obtain ⟨y,hy⟩:∃ y,l[0]?=some y:=⟨l[0],List.getElem?_eq_getElem (by omega)⟩
           obtain ⟨_,hc1,h6⟩:=World.cells?_some (h2 0 y hy).1
           have h7:=h6 0 hpos
           rw [List.getElem?_eq_getElem (by omega)] at h7
           simpa [Addr.add] using World.cell?_spot h7
          ·have hrl:0<rest.length:=by have:=(hR rfl).1;omega
           have:=(hR rfl).2 0 (by omega)
           have h8:rest[0]?=some rest[0]:=List.getElem?_eq_getElem hrl
           rw [h8,hr.1,hlen,Option.bind_eq_some_iff] at this
           obtain ⟨c1,h9,_⟩:=this
           obtain ⟨_,hc1,h6⟩:=World.cells?_some h9
           have h7:=h6 0 hpos
           rw [List.getElem?_eq_getElem (by omega)] at h7
           simpa [Addr.add] using World.cell?_spot h7
      obtain ⟨b,off,spot⟩:=a
      simp only at hs0
      subst hs0
      rw [Addr.add_lit,Addr.add_lit] at h5
      exact ⟨_,_,h5,rfl⟩
     rcases Nat.eq_zero_or_pos len with hlen|hlen
     ·have hrl:0<rest.length:=by have:=(hR rfl).1;omega
      have:=(hR rfl).2 0 (by omega)
      have h8:rest[0]?=some rest[0]:=List.getElem?_eq_getElem hrl
      rw [h8,hr.1,Option.bind_eq_some_iff] at this
      obtain ⟨c1,h9,_⟩:=this
      exact QK _ c1 h9
     ·obtain ⟨y,hy⟩:∃ y,l[0]?=some y:=⟨l[0],List.getElem?_eq_getElem (by omega)⟩
      exact QK 0 _ (h2 0 y hy).1
    obtain ⟨ao3,v0,hv0,hspot⟩:=hcell
    obtain ⟨b,off,spot⟩:=a
    simp only at hspot hv0
    subst hspot
    have hC:cO w b:=yL hv0
    have hget:∀ (i:Nat) x,(l.map fun y=>wr y.2)[i]?=some x→∃ y,l[i]?=some y∧x=wr y.2:=fun i x hx=>by
     rw [List.getElem?_map] at hx
     cases e:l[i]? with
     |none=>rw [e] at hx;cases hx
     |some y=>rw [e] at hx;exact ⟨y,rfl,(Option.some.inj hx).symm⟩
    have hlen:(l.map fun y=>wr y.2).length=len:=by simp [h1]
    have:=aO.list (ok:=fun b=>b<w.heap.size) (w:=w) n (l.map fun y=>wr y.2) b off cap (fun i j=>(((l[i]?).map (·.1)).getD []).getD j default) hC.lt hC (by rw [hlen];exact hl) hm
     (fun x hx=>by
      obtain ⟨i,hi⟩:=List.mem_iff_getElem?.1 hx
      obtain ⟨y,hy,rfl⟩:=hget i x hi
      obtain ⟨_,g1,g2,_⟩:=h2 i y hy
      rw [hw _ g1 g2,g2])
     (fun i x j p hi hj=>by
      obtain ⟨y,hy,rfl⟩:=hget i x hi
      obtain ⟨g0,g1,g2,g3,g4,g5⟩:=h2 i y hy
      rw [hw _ g1 g2] at hj
      have hjn:j<n:=by have:=(List.getElem?_eq_some_iff.1 hj).1;omega
      obtain ⟨_,hc1,h6⟩:=World.cells?_some g0
      have h7:=h6 j hjn
      have hcj:y.1[j]?=some y.1[j]:=List.getElem?_eq_getElem (by omega)
      have hd:(((l[i]?).map (·.1)).getD []).getD j default=y.1[j]:=by
       rw [hy];simp [List.getD_eq_getElem?_getD,hcj]
      rw [hd]
      rw [hcj,Addr.add_lit,Addr.add_lit] at h7
      exact ⟨h7,g4 _ (List.mem_of_getElem? hcj)⟩)
     (fun i x j p hi hj=>by
      obtain ⟨y,hy,rfl⟩:=hget i x hi
      obtain ⟨g0,g1,g2,g3,g4,g5⟩:=h2 i y hy
      rw [hw _ g1 g2] at hj
      have hjn:j<n:=by have:=(List.getElem?_eq_some_iff.1 hj).1;omega
      have hcj:y.1[j]?=some y.1[j]:=List.getElem?_eq_getElem (by omega)
      have hd:(((l[i]?).map (·.1)).getD []).getD j default=y.1[j]:=by
       rw [hy];simp [List.getD_eq_getElem?_getD,hcj]
      rw [hd]
      exact g5 j p _ hj hcj)
    rw [hlen] at this
    exact this⟩
theorem BD.append {w:World} {c1 c2:List Value} {p1 p2:List PV} (h1:BD w c1 p1) (h2:BD w c2 p2):BD w (c1++c2) (p1++p2):=by
 obtain ⟨a1,a2,a3⟩:=h1
 obtain ⟨b1,b2,b3⟩:=h2
 refine ⟨by simp [a1,b1],fun c hc=>?_,fun j x v hx hv=>?_⟩
 ·rcases List.mem_append.1 hc with h|h
  ·exact a2 c h
  ·exact b2 c h
 ·by_cases hj:j<p1.length
  ·rw [List.getElem?_append_left hj] at hx
   rw [List.getElem?_append_left (by omega)] at hv
   exact a3 j x v hx hv
  ·rw [List.getElem?_append_right (by omega)] at hx
   rw [List.getElem?_append_right (by omega),a1] at hv
   exact b3 _ x v hx hv
inductive U6 (P:Program):Nat→List Field→List (List PV→Prop)→Nat→Prop
 |nil (o:Nat):U6 P o [] [] 0
 |cons {o n m:Nat} {f:Field} {fs:List Field} {S:List PV→Prop} {Ss:List (List PV→Prop)}:f.offset=o→nD P f.type n S→U6 P (o+n) fs Ss m→U6 P o (f :: fs) (S :: Ss) (n+m)
theorem U6.read {o:Nat} {fs:List Field} {Ss:List (List PV→Prop)} (h:U6 P o fs Ss m) {H:Type} {enc:TypeId × Value→H} {w:World} {fuel:Nat} {cs:List Value} {xs:List (DataW H × List MemPlace)} (hl:cs.length=o+m)
  (hx:∀ (i:Nat) (f:Field),fs[i]?=some f→∃ x,DataW.trod enc P w 0 (fun _=>true) true fuel f.type ((cs.drop f.offset).take (P.cellsOf f.type))=some x):∃ ps,Na Ss ps∧ps.length=m∧BD w (cs.drop o) ps:=by
 induction h with
 |nil o=>exact ⟨[],rfl,rfl,by rw [List.drop_of_length_le (by omega)];exact (⟨rfl,fun c hc=>(by cases hc),fun j x v hx=>(by simp at hx)⟩:BD w [] [])⟩
 |@cons o n m f fs S Ss h1 h2 h3 ih =>
  obtain ⟨x,h4⟩:=hx 0 f rfl
  rw [h2.1,h1] at h4
  obtain ⟨p,g1,g2,g3⟩:=h2.2 h4
  obtain ⟨q,k1,k2,k3⟩:=ih (by omega) (fun i f hf=>hx (i+1) f hf)
  refine ⟨p++q,⟨p,q,rfl,g1,k1⟩,by simp [g2,k2],?_⟩
  have:cs.drop o=(cs.drop o).take n++cs.drop (o+n):=by rw [← List.drop_drop,List.take_append_drop]
  rw [this]
  exact g3.append k3
theorem nD.struct {fs:Array Field} {Ss:List (List PV→Prop)} (ht:P.underlying t=some (.struct fs)) (hf:U6 P 0 fs.toList Ss n) (hc:P.cellsOf t=n):nD P t n (Na Ss):=⟨hc,fun {H enc w fuel cs x} h=>by
 obtain ⟨xs,m,_,_,hl,hx,hE⟩:=DataW.trod_struct ht h
 obtain ⟨ps,h1,h2,h3⟩:=hf.read (xs:=xs) (enc:=enc) (w:=w) (fuel:=m) (cs:=cs) (by omega) (fun i f hi=>by
  have hi':fs[i]?=some f:=by simpa using hi
  have:=hE i f hi'
  have hil:i<xs.length:=by rw [hx];exact (Array.getElem?_eq_some_iff.1 hi').1
  exact ⟨xs[i],by rw [this,List.getElem?_eq_getElem hil]⟩)
 exact ⟨ps,h1,h2,by simpa using h3⟩⟩
theorem nD.Nb {f0 f1 f2:Field} {n0 n1 n2:Nat} {S0 S1 S2:List PV→Prop} (ht:P.underlying t=some (.struct #[f0,f1,f2])) (h0:nD P f0.type n0 S0) (h1:nD P f1.type n1 S1) (h2:nD P f2.type n2 S2) (o0:f0.offset=0) (o1:f1.offset=0+n0) (o2:f2.offset=0+n0+n1) (hc:P.cellsOf t=n0+(n1+(n2+0))):nD P t (n0+(n1+(n2+0))) (Na [S0,S1,S2]) :=
 nD.struct ht (show U6 P 0 [f0,f1,f2] [S0,S1,S2] (n0+(n1+(n2+0))) from .cons o0 h0 (.cons o1 h1 (.cons o2 h2 (.nil _)))) hc
theorem aha {H:Type} {enc:TypeId × Value→H} {w:World} {v:Value} {d:DataW H} {p:List MemPlace} (hr:nD P t 1 S) (hone:v.cells.toList=[v]) (h:DataW.Trod enc P w 0 (fun _=>true) true t v d p) :
  ∃ q,S [q]∧aO (fun b=>b<w.heap.size) w q v:=by
 obtain ⟨fuel,hf⟩:=h
 obtain ⟨ps,h1,h2,h3,h4,h5⟩:=hr.2 hf
 match ps,h2 with
 |[q],_=>exact ⟨q,h1,h5 0 q v rfl (by rw [hone];rfl)⟩
theorem WA {H:Type} {enc:TypeId × Value→H} {w:World} {v:Value} {d:DataW H} {p:List MemPlace} {m:Reach} {base:Nat} (ht:P.underlying t=some (.int k)) (hr:nD P t 1 S) (hv:Value.okWide P w m base t v) (h:DataW.Trod enc P w 0 (fun _=>true) true t v d p) :
  ∃ q,S [q]∧aO (fun b=>b<w.heap.size) w q v:=by
 have:v.cells.toList=[v]:=by
  simp only [Value.okWide,ht,Cell.okWide] at hv
  cases v<;>simp_all [Cell.ok,Value.cells]
 exact aha hr this h
end
end Go.Proofs.YtpcncggjmabnaaaGreatDoor

namespace Go.Proofs.YtpcncggjmabnaaaGreatDoor
open Go.RowKit
structure rU (W:World) (g:Nat) where
 w:World
 grown:W.grownBy w (some g)
instance (W:World) (g:Nat):Nonempty (rU W g):=⟨⟨W,World.grownBy.refl _ _⟩⟩
theorem rU.of {W w:World} {g:Nat} (h:W.grownBy w (some g)):∃ x:rU W g,w=x.w:=⟨⟨w,h⟩,rfl⟩
theorem grown_drew (W:World) (row:Option Nat):W.grownBy W.drew row:=⟨rfl,rfl,rfl,Nat.le_refl _,fun _ _ _=>rfl⟩
theorem rU.drew (W:World) (g:Nat):∃ x:rU W g,W.drew=x.w:=rU.of (grown_drew _ _)
theorem uS {w:World} {g:Nat} {a:Addr} {v:Value} (h:w.cell? a=some v) (hne:a.block≠g):∀ x:rU w g,x.w.cell? a=some v:=fun x =>
 x.grown.cell h fun e=>hne (Option.some.inj e)
theorem QL {a b c:World} {row:Option Nat} (h:a.grownBy b row) (k:b.grownBy c row):a.grownBy c row :=
 ⟨k.os.trans h.os,k.tape.trans h.tape,k.output.trans h.output,Nat.le_trans h.size k.size,fun i hi hr=>(k.block i (Nat.lt_of_lt_of_le hi h.size) hr).trans (h.block i hi hr)⟩
theorem grown_below {B:Nat} {w w':World} {row:Option Nat} (h:w.grownBy w' row) (hB:B≤w.heap.size) (hr:∀ k,row=some k→B≤k):Below B w w':=(Below.refl B w).grown h hB hr
theorem below_grown {w w':World} (h:Below w.heap.size w w'):w.grownBy w' none:=⟨h.os,h.tape,h.output,h.size,fun k hk _=>h.block k hk⟩
theorem Nc {w w1:World} {cs:Array Value} {T:TypeId} (hb:Below (w.alloc (.cells cs T)).heap.size (w.alloc (.cells cs T)) w1) {j:Nat} {v:Value} (h:cs[j]?=some v):w1.cell? ⟨w.heap.size,j,none⟩=some v:=by
 rw [hb.cell (p:=⟨w.heap.size,j,none⟩) (by simp),World.cell?_alloc_mark w cs T (0,0) j,h]
theorem QM (w:World) (E:TypeId) (cs:Array Value):∀ j u,cs.toList[j]?=some u→(w.alloc (.cells cs E)).cell? ((⟨w.heap.size,0,none⟩:Addr).add j)=some u:=fun j u hu=>by
 rw [Addr.add_lit,Nat.zero_add,World.cell?_alloc_mark w cs E (0,0) j]
 simpa using hu
theorem adZ {α:Type} {r:Rep α} {ok:Nat→Prop} {w w':World} {cs:List Value} {x:α} (h:r.rd ok w cs x) (hb:Below w.heap.size w w'):r.rd ok w' cs x :=
 r.mono (fun _ hb=>hb.1) (r.frame (fun b hb'=>hb.block b hb'.2) (r.live h))
theorem QN {α:Type} {r:Rep α} {ok:Nat→Prop} {w:World} {cs:List Value} {x:α} (h:r.rd ok w cs x) {o:Obj}:r.rd ok (w.alloc o) cs x:=adZ h ((Below.refl _ _).alloc (Nat.le_refl _) _)
def dK {α:Type} (r:Rep α) (tag:Nat→Nat) (ok:Nat→Prop) (w:World):Nat→List Value→List α→Prop
 |_,xs,[]=>xs=[]
 |i,xs,x :: l=>∃ c rest,xs=c++rest∧r.rd (fun b=>ok b∧tag b=i) w c x∧dK r tag ok w (i+1) rest l
section
variable {α:Type} {r:Rep α} {tag tag':Nat→Nat} {ok ok':Nat→Prop} {w w':World}
theorem dK.mono (hk:∀ b,ok b→ok' b):∀ {l:List α} {i:Nat} {xs:List Value},dK r tag ok w i xs l→dK r tag ok' w i xs l
 |[],_,_,h=>h
 |_ :: _,_,_,⟨c,rest,e,h1,h2⟩=>⟨c,rest,e,r.mono (fun b hb=>⟨hk b hb.1,hb.2⟩) h1,h2.mono hk⟩
theorem dK.retag (hk:∀ b,ok b→tag' b=tag b):∀ {l:List α} {i:Nat} {xs:List Value},dK r tag ok w i xs l→dK r tag' ok w i xs l
 |[],_,_,h=>h
 |_ :: _,_,_,⟨c,rest,e,h1,h2⟩=>⟨c,rest,e,r.mono (fun b hb=>⟨hb.1,by rw [hk b hb.1];exact hb.2⟩) h1,h2.retag hk⟩
theorem dK.live:∀ {l:List α} {i:Nat} {xs:List Value},dK r tag ok w i xs l→dK r tag (fun b=>ok b∧b<w.heap.size) w i xs l
 |[],_,_,h=>h
 |_ :: _,_,_,⟨c,rest,e,h1,h2⟩=>⟨c,rest,e,r.mono (fun b hb=>⟨⟨hb.1.1,hb.2⟩,hb.1.2⟩) (r.live h1),h2.live⟩
theorem dK.frame (hf:∀ b,ok b→w'.heap[b]?=w.heap[b]?):∀ {l:List α} {i:Nat} {xs:List Value},dK r tag ok w i xs l→dK r tag ok w' i xs l
 |[],_,_,h=>h
 |_ :: _,_,_,⟨c,rest,e,h1,h2⟩=>⟨c,rest,e,r.frame (fun b hb=>hf b hb.1) h1,h2.frame hf⟩
theorem dK.chunks:∀ {l:List α} {i:Nat} {xs:List Value},dK r tag ok w i xs l→Chunks r ok w xs l
 |[],_,_,h=>h
 |_ :: _,_,_,⟨c,rest,e,h1,h2⟩=>⟨c,rest,e,r.mono (fun b hb=>hb.1) h1,h2.chunks⟩
theorem dK.snoc {c:List Value} {x:α}:∀ {l:List α} {i:Nat} {xs:List Value},dK r tag ok w i xs l→r.rd (fun b=>ok b∧tag b=i+l.length) w c x→dK r tag ok w i (xs++c) (l++[x])
 |[],i,xs,h,hc=>by
  simp only [dK] at h
  subst h
  exact ⟨c,[],by simp,by simpa using hc,rfl⟩
 |y :: l,i,xs,⟨d,rest,e,h1,h2⟩,hc=>⟨d,rest++c,by rw [e,List.append_assoc],h1,h2.snoc (by rw [List.length_cons] at hc;rw [show i+1+l.length=i+(l.length+1) by omega];exact hc)⟩
theorem dK.pick:∀ {l:List α} {i:Nat} {xs:List Value},dK r tag ok w i xs l→∀ {k:Nat} {x:α},l[k]?=some x →
  ∃ c,(∀ j,j<r.sz→xs[k * r.sz+j]?=c[j]?)∧r.rd (fun b=>ok b∧tag b=i+k) w c x ∧
   ∀ (w':World) (x':α),(∀ b,ok b→tag b≠i+k→w'.heap[b]?=w.heap[b]?)→r.rd (fun b=>ok b∧tag b=i+k) w' c x'→dK r tag ok w' i xs (l.set k x')
 |[],_,_,_,k,x,hx=>by simp at hx
 |y :: l,i,xs,⟨c,rest,e,h1,h2⟩,0,x,hx=>by
  simp only [List.getElem?_cons_zero,Option.some.injEq] at hx
  subst hx
  refine ⟨c,fun j hj=>by rw [e,Nat.zero_mul,Nat.zero_add,List.getElem?_append_left (by rw [r.len h1];exact hj)],h1,fun w' x' hf hr=>?_⟩
  refine ⟨c,rest,e,hr,?_⟩
  -- the tail's elements bear other tags
  have:∀ {l:List α} {m:Nat} {xs:List Value},i<m→dK r tag ok w m xs l→dK r tag ok w' m xs l:=by
   intro l
   induction l with
   |nil=>intro m xs _ h;exact h
   |cons z l ih =>
    intro m xs hm h
    obtain ⟨d,rs,e',h3,h4⟩:=h
    exact ⟨d,rs,e',r.frame (fun b hb=>hf b hb.1 (by rw [hb.2];omega)) h3,ih (by omega) h4⟩
  exact this (Nat.lt_succ_self _) h2
 |y :: l,i,xs,⟨c,rest,e,h1,h2⟩,k+1,x,hx=>by
  obtain ⟨d,h3,h4,h5⟩:=h2.pick (k:=k) (x:=x) (by simpa using hx)
  have ei:i+1+k=i+(k+1):=by omega
  refine ⟨d,fun j hj=>?_,by rw [← ei];exact h4,fun w' x' hf hr=>?_⟩
  ·rw [e,List.getElem?_append_right (by rw [r.len h1,Nat.add_mul];omega),r.len h1,← h3 j hj]
   congr 1
   rw [Nat.add_mul];omega
  ·refine ⟨c,rest,e,r.frame (fun b hb=>hf b hb.1 (by rw [hb.2];omega)) h1,?_⟩
   exact h5 w' x' (fun b hb hne=>hf b hb (by rw [← ei];exact hne)) (by rw [ei];exact hr)
end
def lu {α:Type} (r:Rep α) (B F:Nat) (E:TypeId) (w:World) (v:Value) (l:List α):Prop :=
 ∃ tag xs,w.ownsRow B E r.sz v l.length xs∧dK r tag (fun b=>B≤b∧b<F∧Option.some b≠v.ownBlock) w 0 xs l
section
variable {α:Type} {r:Rep α} {B F:Nat} {E:TypeId} {w w':World} {v:Value} {l:List α}
theorem lu.nil (r:Rep α) (B F:Nat) (E:TypeId) (w:World):lu r B F E w (.slice none 0 0) []:=⟨fun _=>0,[],World.ownsRow_nil _ _ _ _,rfl⟩
theorem lu.up {F':Nat} (h:lu r B F E w v l) (hF:F≤F'):lu r B F' E w v l :=
 let ⟨tag,xs,h1,h2⟩:=h;⟨tag,xs,h1,h2.mono fun _ hb=>⟨hb.1,Nat.lt_of_lt_of_le hb.2.1 hF,hb.2.2⟩⟩
theorem lu.live (h:lu r B F E w v l):lu r B w.heap.size E w v l :=
 let ⟨tag,xs,h1,h2⟩:=h;⟨tag,xs,h1,h2.live.mono fun _ hb=>⟨hb.1.1,hb.2,hb.1.2.2⟩⟩
theorem lu.lt (h:lu r B F E w v l):∀ k,v.ownBlock=some k→B≤k∧k<w.heap.size:=let ⟨_,_,h1,_⟩:=h;h1.lt
theorem lu.below (h:lu r B F E w v l) (hb:Below w.heap.size w w'):lu r B F E w' v l:=by
 obtain ⟨tag,xs,h1,h2⟩:=h
 exact ⟨tag,xs,h1.kept (below_grown hb) (by cases v.ownBlock<;>simp),(dK.frame (fun b hb'=>hb.block b hb'.2) h2.live).mono fun b hb=>hb.1⟩
theorem lu.own (h:lu r B F E w v l):Own r B E (B≤·) w v l :=
 let ⟨_,xs,h1,h2⟩:=h;⟨xs,h1,h2.chunks.mono fun _ hb=>⟨hb.1,hb.2.2⟩⟩
theorem lu.sl (h:lu r B F E w v l):∃ a n c,v=.slice a n c∧Sl r (B≤·) w a n c l :=
 let ⟨a,n,c,e,h⟩:=h.own.sl;⟨a,n,c,e,h.mono fun _ hb=>hb.elim id id⟩
theorem CV {P:Program} {ops:Array Oper} {rest:List Oper} {o:Oper} {a:Act} {Q:Exit→Act→World→Prop} {T bytes:Nat} {z:Value} (ht:pY P T E r.sz bytes z) (hgd:o.guard=none) (s x:Operand)
  (ho:o.op=.call { callee:=.builtin .append,args:=#[s,x],argTypes:=#[T,T] }) (hs:a.eval s=v) (h:lu r B F E w v l) {ad:Addr} {c:Nat} (hx:a.eval x=.slice (some ad) 1 c)
  {y:α} {news:List Value} (hnews:∀ j u,news[j]?=some u→w.cell? (ad.add j)=some u) (hrd:r.rd (F≤·) w news y) (hown:∀ k,v.ownBlock=some k→k<F)
  (h63:l.length+1≤maxLen) (hby:(l.length+1) * bytes≤140737488355328) (hB:B≤F) (hF:F≤w.heap.size)
  (hk:∀ v' w',lu r B w'.heap.size E w' v' (l++[y])→w.grownBy w' v.ownBlock→(v'.ownBlock=v.ownBlock∨v'.ownBlock=some w.heap.size)→wpList P ops Q rest (a.put o.dst v') w'):wpList P ops Q (o :: rest) a w:=by
 refine wpList_plain hgd fun K hK=>?_
 obtain ⟨i,hi,hz0,hz1,hz2⟩:=info_parts ht.i
 obtain ⟨tag,xs,h1,h2⟩:=h
 obtain ⟨v',w',hr,h3,h4,_,h6⟩:=run_append_own_at (P:=P) w B T o.type E i z r.sz bytes ht.u hi hz0 hz1 hz2 ht.zs ht.pos v l.length xs h1 ad 1 c news (by rw [r.len hrd];simp) hnews (r.one hrd) h63 hby (by omega)
 unfold Oper.wp execOp
 simp only [ho,resolve,invoke,builtin,Sem.run_bind,Sem.run_pure,Result.andThen_ok,List.map_toArray,List.map_cons,List.map_nil,hs,hx,hr]
 refine hK _ _ (hk v' w' ?_ h4 h6)
 refine ⟨fun b=>if F≤b then l.length else tag b,xs++news,by rw [List.length_append];exact h3,?_⟩
 have hne:∀ b,b<w.heap.size→Option.some b≠v.ownBlock→Option.some b≠v'.ownBlock:=fun b hb hn=>by
  rcases h6 with h6|h6
  ·rw [h6];exact hn
  ·rw [h6];intro e;have:=Option.some.inj e;omega
 refine dK.snoc ?_ ?_
 ·have e1:dK r (fun b=>if F≤b then l.length else tag b) (fun b=>B≤b∧b<F∧Option.some b≠v.ownBlock) w 0 xs l:=h2.retag fun b hb=>by
   show (if F≤b then l.length else tag b)=tag b
   rw [if_neg (by omega)]
  refine (dK.frame (fun b hb=>h4.block b (by omega) hb.2.2) e1).mono fun b hb=>⟨hb.1,Nat.lt_of_lt_of_le hb.2.1 (Nat.le_trans hF h4.size),hne b (by omega) hb.2.2⟩
 ·have hno:∀ b,F≤b→Option.some b≠v.ownBlock:=fun b hb e=>by have:=hown b e.symm;omega
  refine r.mono (fun b hb=>⟨⟨by omega,Nat.lt_of_lt_of_le hb.2 h4.size,hne b hb.2 (hno b hb.1)⟩,?_⟩) (r.frame (fun b hb=>h4.block b hb.2 (hno b hb.1)) (r.live hrd))
  show (if F≤b then l.length else tag b)=0+l.length
  rw [if_pos hb.1,Nat.zero_add]
def ad1 {α:Type} (r:Rep α) (ok:Nat→Prop) (w:World) (l:List α) (err:Int):Ending→World→Prop:=fun e w' =>
 ∃ a n c,e=.returned (.tuple #[.slice a n c,.int .i64 err])∧Sl r ok w' a n c l∧Below w.heap.size w w'
theorem ad1.mk {α:Type} {r:Rep α} {ok:Nat→Prop} {w w':World} {l:List α} {err err':Int} {a:Option Addr} {n c:Nat} (he:err'=err) (h:Sl r ok w' a n c l) (hB:Below w.heap.size w w') :
  ad1 r ok w l err (.returned (.tuple #[.slice a n c,.int .i64 err'])) w':=⟨a,n,c,by rw [he],h,hB⟩
theorem Sl.nil0 {α:Type} (r:Rep α) (ok:Nat→Prop) (w:World):Sl r ok w none 0 0 []:=⟨rfl,Nat.le_refl _,Nat.zero_le _,fun _=>rfl,.inl rfl⟩
def Flat {α:Type} (r:Rep α):Prop:=∀ {ok ok':Nat→Prop} {w w':World} {cs:List Value} {x:α},r.rd ok w cs x→r.rd ok' w' cs x
theorem Flat.int:Flat vk:=fun h=>h
theorem Flat.sec:Flat yP:=fun h=>h
theorem Flat.u8:Flat u8R:=fun h=>h
theorem Flat.u64:Flat aoC:=fun h=>h
theorem Flat.bool:Flat alf:=fun h=>h
theorem Chunks.flat {α:Type} {r:Rep α} (hf:Flat r) {ok ok':Nat→Prop} {w w':World}:∀ {l:List α} {xs:List Value},Chunks r ok w xs l→Chunks r ok' w' xs l
 |[],_,h=>h
 |_ :: _,_,⟨c,rest,e,h1,h2⟩=>⟨c,rest,e,hf h1,h2.flat hf⟩
theorem Src.flat {α:Type} {r:Rep α} (hf:Flat r) {ok ok':Nat→Prop} {w:World} {ao:Option Addr} {m c:Nat} {ys:List α} (h:Src r ok w ao m c ys):Src r ok' w ao m c ys :=
 let ⟨h1,h2,news,h3,h4⟩:=h;⟨h1,h2,news,h3,h4.flat hf⟩
theorem Own.ahb {α:Type} (r:Rep α) {B:Nat} {E:TypeId} {ok:Nat→Prop} {w:World} (hB:B≤w.heap.size):Own r B E ok (w.alloc (.cells #[] E)) (.slice (some ⟨w.heap.size,0,none⟩) 0 0) [] :=
 ⟨[],World.ownsRow_lit w #[] 0 hB (Nat.zero_le _) (by simp),rfl⟩
theorem lu.at (h:lu r B F E w v l) {k:Nat} {x:α} (hx:l[k]?=some x) :
  ∃ g cap c,∃ okk:Nat→Prop,v=.slice (some ⟨g,0,none⟩) l.length cap∧B≤g∧g<w.heap.size∧(∀ j,j<r.sz→w.cell? ⟨g,k * r.sz+j,none⟩=c[j]?)∧r.rd okk w c x∧(∀ b,okk b→B≤b∧b<F∧b≠g) ∧
   ∀ (w':World) (x':α),(∀ b,b<w.heap.size→¬ okk b→w'.heap[b]?=w.heap[b]?)→w'.os=w.os→w'.tape=w.tape→w'.output=w.output→w.heap.size≤w'.heap.size→r.rd okk w' c x'→lu r B F E w' v (l.set k x'):=by
 obtain ⟨tag,xs,h1,h2⟩:=h
 have hk:=(List.getElem?_eq_some_iff.1 hx).1
 obtain ⟨g,cap,rfl,hBg,hg⟩:∃ g cap,v=.slice (some ⟨g,0,none⟩) l.length cap∧B≤g∧g<w.heap.size:=by
  rcases h1.2 with ⟨_,h0⟩|⟨g,cap,cur,hv,hb,hg,_⟩
  ·omega
  ·exact ⟨g,cap,hv,hb,(Array.getElem?_eq_some_iff.1 hg).1⟩
 obtain ⟨c,h3,h4,h5⟩:=h2.live.pick hx
 refine ⟨g,cap,c,_,rfl,hBg,hg,fun j hj=>?_,h4,fun b hb=>⟨hb.1.1.1,hb.1.1.2.1,fun e=>hb.1.1.2.2 (by rw [e];rfl)⟩,fun w' x' hf hos htp hout hsz hr=>?_⟩
 ·rw [← h3 j hj,h1.cellAt]
  calc k * r.sz+j<k * r.sz+r.sz:=by omega
   _=(k+1) * r.sz:=by rw [Nat.add_mul];omega
   _≤l.length * r.sz:=Nat.mul_le_mul_right _ (by omega)
 ·have h6:=h5 w' x' (fun b hb hne=>hf b hb.2 fun e=>hne (by simpa using e.2)) hr
  refine ⟨tag,xs,?_,h6.mono fun b hb=>hb.1⟩
  rw [List.length_set]
  have hgk:w'.heap[g]?=w.heap[g]?:=hf g hg fun e=>e.1.1.2.2 rfl
  obtain ⟨hl,⟨hv,h0⟩|⟨g',cap',cur,hv,r1,r2,r3⟩⟩:=h1
  ·cases hv
  ·cases hv
   exact ⟨hl,.inr ⟨g,cap,cur,rfl,r1,by rw [hgk];exact r2,r3⟩⟩
end
def iC {α:Type} (r:Rep α) (E:TypeId):Rep (List α) where
 sz:=1
 rd ok w cs l:=∃ v,cs=[v]∧(∀ b,v.ownBlock=some b→ok b)∧Own r 0 E (fun _=>False) w v l∧(l=[]→v=.slice none 0 0∨∃ g c,v=.slice (some ⟨g,0,none⟩) 0 c)
 len h:=by obtain ⟨v,rfl,_⟩:=h;rfl
 mono hk h:=let ⟨v,e,h1,h2⟩:=h;⟨v,e,fun b hb=>hk b (h1 b hb),h2⟩
 live h:=let ⟨v,e,h1,h2,h3⟩:=h;⟨v,e,fun b hb=>⟨h1 b hb,(h2.lt b hb).2⟩,h2,h3⟩
 frame hf h:=by
  obtain ⟨v,e,h1,⟨xs,h2,h3⟩,h4⟩:=h
  refine ⟨v,e,h1,⟨xs,⟨h2.1,?_⟩,(Chunks.frame (fun b hb=>hb.1.elim) h3)⟩,h4⟩
  rcases h2.2 with h0|⟨g,cap,cur,hv,hb,hg,rest⟩
  ·exact .inl h0
  ·refine .inr ⟨g,cap,cur,hv,hb,?_,rest⟩
   rw [hf g (h1 g (by rw [hv];rfl))];exact hg
 one h:=by
  obtain ⟨v,rfl,_,⟨xs,h2,_⟩,_⟩:=h
  intro u hu
  cases List.mem_singleton.1 hu
  rcases h2.2 with ⟨rfl,_⟩|⟨g,cap,cur,rfl,_⟩<;>rfl
theorem iC.sl {α:Type} {r:Rep α} {E:TypeId} {ok:Nat→Prop} {w:World} {v:Value} {l:List α} (hf:Flat r) (h:(iC r E).rd ok w [v] l):∃ a n c,v=.slice a n c∧Sl r ok w a n c l:=by
 obtain ⟨_,e,h1,h2,_⟩:=h
 cases e
 obtain ⟨a,n,c,rfl,h3⟩:=h2.sl
 refine ⟨a,n,c,rfl,h3.len,h3.cap,h3.bnd,h3.nil,h3.cells.imp id fun ⟨b,off,e,_,hb,hc⟩=>⟨b,off,e,h1 b (by rw [e];rfl),hb,fun i x hx=>let ⟨cs,g1,g2⟩:=hc i x hx;⟨cs,g1,hf g2⟩⟩⟩
theorem iC.mk {α:Type} {r:Rep α} {B:Nat} {E:TypeId} {w:World} {v:Value} {l:List α} (h:Own r B E (fun _=>False) w v l) (hv:l=[]→v=.slice none 0 0∨∃ g c,v=.slice (some ⟨g,0,none⟩) 0 c):(iC r E).rd (B≤·) w [v] l:=by
 refine ⟨v,rfl,fun b hb=>(h.lt b hb).1,?_,hv⟩
 obtain ⟨xs,h1,h2⟩:=h
 refine ⟨xs,⟨h1.1,h1.2.imp id fun ⟨g,cap,cur,a1,a2,a3⟩=>⟨g,cap,cur,a1,Nat.zero_le _,a3⟩⟩,h2⟩
section
variable {P:Program} {ops:Array Oper} {rest:List Oper} {o:Oper} {a:Act} {Q:Exit→Act→World→Prop} {α:Type} {r:Rep α} {B:Nat} {E:TypeId} {w:World}
theorem Ac {T bytes:Nat} {z:Value} (ht:pY P T E r.sz bytes z) (hg:o.guard=none) (l c:Operand) (hop:o.op=Op.makeSlice T l c)
  {kl kc:IntKind} {n:Nat} (hl:a.eval l=.int kl 0) (hc:a.eval c=.int kc (n:Int)) (b2:bytes * n≤281474976710656) (b3:n≤maxLen) (b4:B≤w.heap.size)
  (hK:∀ w',(∀ F,lu r B F E w' (.slice (some ⟨w.heap.size,0,none⟩) 0 n) [])→Below w.heap.size w w'→wpList P ops Q rest (a.put o.dst (.slice (some ⟨w.heap.size,0,none⟩) 0 n)) w'):wpList P ops Q (o :: rest) a w:=by
 obtain ⟨i,hi,hz0,hz1,hz2⟩:=info_parts ht.i
 refine wpList_make_own w hg l c T hop B E i z r.sz ht.u hi hz0 hz1 kl kc (n:Int) n hl hc rfl (by rw [hz2];exact b2) b3 b4 fun w' h1 h2=>hK w' (fun F=>⟨fun _=>0,[],h1,rfl⟩) (grown_below h2 (Nat.le_refl _) (fun k e=>by cases e))
end
section
variable {P:Program} {α:Type} {r:Rep α} {B:Nat} {E:TypeId} {w:World} {g cap:Nat} {l:List α}
theorem Nh (h:Own r B E (fun _=>False) w (.slice (some ⟨g,0,none⟩) l.length cap) l) {s:Nat} {ys:List α} {news:List Value} (hn:Chunks r (fun _=>False) w news ys) (hs:s+ys.length≤l.length) (hne:l≠[]∨ys≠[]) :
  ∃ w',(storeCells ⟨g,s * r.sz,none⟩ news).run P w=.ok () w'∧Own r B E (fun _=>False) w' (.slice (some ⟨g,0,none⟩) l.length cap) (l.take s++ys++l.drop (s+ys.length))∧w.grownBy w' (some g)∧w'.heap.size=w.heap.size:=by
 obtain ⟨xs,h1,h2⟩:=h
 obtain ⟨hx,⟨hv,_⟩|⟨g',cap',cur,hv,hb,hg,hnc,hcm,hcs,ht⟩⟩:=h1
 ·cases hv
 ·cases hv
  have hnl:=hn.length
  have hxl:=h2.length
  have hfit:s * r.sz+0+news.length≤cur.size:=by
   rw [hcs,hnl,Nat.add_zero,← Nat.add_mul]
   exact Nat.mul_le_mul_right _ (by omega)
  have hrun:=run_storeCells_at P g (s * r.sz) E news 0 cur w hg hfit hn.one
  rw [Nat.add_zero] at hrun
  refine ⟨_,hrun,?_,⟨rfl,rfl,rfl,by simp,fun k _ hk=>setRow_other w g k _ (fun e=>hk (by simp [e]))⟩,by simp⟩
  have hlen':(l.take s++ys++l.drop (s+ys.length)).length=l.length:=by simp;omega
  have hcell:∀ i,(xs.take (s * r.sz)++news++xs.drop (s * r.sz+news.length))[i]?=if i<s * r.sz then xs[i]? else if i<s * r.sz+news.length then news[i - s * r.sz]? else xs[i]?:=by
   intro i
   have hs1:s * r.sz≤xs.length:=by rw [hxl];exact Nat.mul_le_mul_right _ (by omega)
   have e1:(xs.take (s * r.sz)).length=s * r.sz:=by rw [List.length_take];omega
   by_cases hi:i<s * r.sz
   ·rw [if_pos hi,List.append_assoc,List.getElem?_append_left (by rw [e1];exact hi),List.getElem?_take,if_pos hi]
   ·rw [if_neg hi]
    by_cases hi2:i<s * r.sz+news.length
    ·rw [if_pos hi2,List.getElem?_append_left (by rw [List.length_append,e1];exact hi2),List.getElem?_append_right (by rw [e1];omega),e1]
    ·rw [if_neg hi2,List.getElem?_append_right (by rw [List.length_append,e1];omega),List.length_append,e1,List.getElem?_drop]
     congr 1;omega
  refine ⟨xs.take (s * r.sz)++news++xs.drop (s * r.sz+news.length),⟨?_,.inr ⟨g,cap,_,by rw [hlen'],hb,setRow_heap w g cur _ E _ hg,by rw [hlen'];exact hnc,hcm,?_,?_⟩⟩,?_⟩
  ·rw [hlen',List.length_append,List.length_append,List.length_take,List.length_drop,hxl,hnl]
   have:(s+ys.length) * r.sz≤l.length * r.sz:=Nat.mul_le_mul_right _ hs
   rw [Nat.add_mul] at this
   omega
  ·rw [List.size_toArray,List.length_append,List.length_append,List.length_take,List.length_drop,Array.length_toList]
   omega
  ·rw [hlen',← ht]
   have hA:s * r.sz+news.length≤l.length * r.sz:=by rw [hnl,← Nat.add_mul];exact Nat.mul_le_mul_right _ hs
   have hB2:l.length * r.sz≤cur.size:=by rw [hcs];exact Nat.mul_le_mul_right _ hnc
   apply List.ext_getElem?
   intro i
   have e1:(cur.toList.take (s * r.sz)).length=s * r.sz:=by rw [List.length_take,Array.length_toList];omega
   have e2:((cur.toList.take (l.length * r.sz)).take (s * r.sz)).length=s * r.sz:=by simp only [List.length_take,Array.length_toList];omega
   by_cases hi:i<s * r.sz
   ·rw [List.getElem?_take,if_pos (by omega),List.append_assoc,List.getElem?_append_left (by rw [e1];exact hi),List.append_assoc,List.getElem?_append_left (by rw [e2];exact hi),List.getElem?_take,if_pos hi,List.getElem?_take,if_pos hi,List.getElem?_take,if_pos (by omega)]
   ·by_cases hi2:i<s * r.sz+news.length
    ·rw [List.getElem?_take,if_pos (by omega),List.getElem?_append_left (by rw [List.length_append,e1];exact hi2),List.getElem?_append_right (by rw [e1];omega),e1,
      List.getElem?_append_left (by rw [List.length_append,e2];exact hi2),List.getElem?_append_right (by rw [e2];omega),e2]
    ·rw [List.getElem?_take,List.getElem?_append_right (by rw [List.length_append,e1];omega),List.getElem?_append_right (by rw [List.length_append,e2];omega),List.length_append,List.length_append,e1,e2,List.getElem?_drop,List.getElem?_drop,List.getElem?_take]
     have:s * r.sz+news.length+(i - (s * r.sz+news.length))=i:=by omega
     rw [this]
  ·-- the elements
   have:=Chunks.ZM (r:=r) (ok:=fun b=>False∧Option.some b≠(Value.slice (some ⟨g,0,none⟩) l.length cap).ownBlock) (w:=w.setRow g (cur.toList.take (s * r.sz)++news++cur.toList.drop (s * r.sz+news.length)).toArray) (xs:=xs.take (s * r.sz)++news++xs.drop (s * r.sz+news.length)) (l:=l.take s++ys++l.drop (s+ys.length)) 0 (by
     rw [hlen',List.length_append,List.length_append,List.length_take,List.length_drop,hxl,hnl]
     have:(s+ys.length) * r.sz≤l.length * r.sz:=Nat.mul_le_mul_right _ hs
     rw [Nat.add_mul] at this
     omega) (fun i x hx=>by
     have key:∃ c w0,(∀ j,j<r.sz→(xs.take (s * r.sz)++news++xs.drop (s * r.sz+news.length))[i * r.sz+j]?=c[j]?)∧r.rd (fun _=>False) w0 c x:=by
      have es:(l.take s).length=s:=by rw [List.length_take];omega
      by_cases hi:i<s
      ·rw [List.append_assoc,List.getElem?_append_left (by rw [es];exact hi),List.getElem?_take,if_pos hi] at hx
       obtain ⟨c,h3,h4⟩:=h2.at hx
       refine ⟨c,w,fun j hj=>?_,r.mono (fun b hb=>hb.1) h4⟩
       rw [hcell,if_pos,h3 j hj]
       calc i * r.sz+j<i * r.sz+r.sz:=by omega
        _=(i+1) * r.sz:=by rw [Nat.add_mul];omega
        _≤s * r.sz:=Nat.mul_le_mul_right _ (by omega)
      ·by_cases hi2:i<s+ys.length
       ·rw [List.getElem?_append_left (by rw [List.length_append,es];exact hi2),List.getElem?_append_right (by rw [es];omega),es] at hx
        obtain ⟨c,h3,h4⟩:=hn.at hx
        refine ⟨c,w,fun j hj=>?_,h4⟩
        have e3:s * r.sz≤i * r.sz:=Nat.mul_le_mul_right _ (by omega)
        have e4:(i+1) * r.sz≤(s+ys.length) * r.sz:=Nat.mul_le_mul_right _ (by omega)
        rw [Nat.add_mul,Nat.add_mul] at e4
        rw [hcell,if_neg (by omega),if_pos (by rw [hnl];omega),← h3 j hj]
        congr 1
        rw [Nat.sub_mul];omega
       ·rw [List.getElem?_append_right (by rw [List.length_append,es];omega),List.length_append,es,List.getElem?_drop,show s+ys.length+(i - (s+ys.length))=i by omega] at hx
        obtain ⟨c,h3,h4⟩:=h2.at hx
        refine ⟨c,w,fun j hj=>?_,r.mono (fun b hb=>hb.1) h4⟩
        have e3:(s+ys.length) * r.sz≤i * r.sz:=Nat.mul_le_mul_right _ (by omega)
        rw [Nat.add_mul] at e3
        rw [hcell,if_neg (by omega),if_neg (by rw [hnl];omega),h3 j hj]
     obtain ⟨c,w0,h3,h4⟩:=key
     exact ⟨c,fun j hj=>by rw [Nat.zero_add];exact h3 j hj,r.mono (fun b hb=>hb.elim) (r.frame (fun b hb=>hb.elim) h4)⟩)
   simpa using this
end
def uT (a:Option Addr) (c lo sz:Nat):Option Addr:=if c=lo then a else a.map (·.add (lo * sz))
theorem QO {P:Program} {T E sz:Nat} (hT:P.underlying T=some (.slice E)) (hi:(P.info? E).map (·.size)=some sz) (a:Option Addr) (n c s:Nat) (h:s≤n) (w:World) :
  (Instr.sliceAt T (.slice a n c) (some (.int .i64 (s:Int))) none none).run P w=.ok (.slice (uT a c s sz) (n - s) (c - s)) w:=by
 have he:P.elem T=E:=by simp [Program.elem,hT]
 have hT':P.underlying T=some (.slice (P.elem T)):=by rw [he];exact hT
 have hz:(sizeOf (P.elem T)).run P w=.ok sz w:=by
  obtain ⟨i,hi,hs⟩:=Option.map_eq_some_iff.1 hi
  rw [he];simp [sizeOf,typeInfo,hi,hs]
 rw [run_sliceAt_slice w T _ _ _ _ hT',run_slice_l w T a n c hT' .i64 s (by omega) (by omega),hz,Result.andThen_ok]
 simp only [sliced,uT,Int.toNat_natCast]
theorem Sl.sub {α:Type} {r:Rep α} {ok:Nat→Prop} {w:World} {a:Option Addr} {n c:Nat} {l:List α} (h:Sl r ok w a n c l) {s k:Nat} (hk:s+k≤n):Sl r ok w (uT a c s r.sz) k (c - s) ((l.drop s).take k):=by
 have h1:=h.len
 have h2:=h.cap
 refine ⟨by simp;omega,by omega,Nat.le_trans (Nat.sub_le _ _) h.bnd,fun e=>?_,?_⟩
 ·unfold uT at e
  split at e
  ·omega
  ·have:a=none:=by simpa using e
   have:=h.nil this
   omega
 ·rcases h.cells with h0|⟨b,off,rfl,hb,hlt,hc⟩
  ·left;omega
  ·by_cases hk0:k=0
   ·exact .inl hk0
   ·refine .inr ⟨b,off+s * r.sz,?_,hb,hlt,fun i x hx=>?_⟩
    ·unfold uT
     rw [if_neg (by omega)]
     simp [Addr.add_lit]
    ·have hik:i<k:=by have:=(List.getElem?_eq_some_iff.1 hx).1;simp at this;omega
     rw [List.getElem?_take,if_pos hik,List.getElem?_drop] at hx
     obtain ⟨cs,g1,g2⟩:=hc (s+i) x hx
     refine ⟨cs,fun j hj=>?_,g2⟩
     rw [← g1 j hj,Nat.add_mul,Nat.add_assoc off]
section
variable {P:Program} {ops:Array Oper} {rest:List Oper} {o:Oper} {a:Act} {Q:Exit→Act→World→Prop} {α:Type} {r:Rep α} {B:Nat} {E:TypeId} {w:World} {g cap:Nat} {l:List α}
theorem FZ {T bytes:Nat} {z:Value} (ht:pY P T E r.sz bytes z) (hfl:Flat r) (hgd:o.guard=none) (d x:Operand)
  (ho:o.op=.call { callee:=.builtin .copy,args:=#[d,x],argTypes:=#[T,T] }) {s dl dc:Nat} (hd:a.eval d=.slice (some ⟨g,s * r.sz,none⟩) dl dc) {ao:Option Addr} {m c:Nat} (hx:a.eval x=.slice ao m c)
  (h:Own r B E (fun _=>False) w (.slice (some ⟨g,0,none⟩) l.length cap) l) {ok:Nat→Prop} {ys:List α} (hs:Sl r ok w ao m c ys) (hle:s+m≤l.length) (hm:0<m) (hdl:m≤dl)
  (hk:∀ w',Own r B E (fun _=>False) w' (.slice (some ⟨g,0,none⟩) l.length cap) (l.take s++ys++l.drop (s+ys.length))→w.grownBy w' (some g)→w'.heap.size=w.heap.size→wpList P ops Q rest (a.put o.dst (.int .i64 m)) w'):wpList P ops Q (o :: rest) a w:=by
 refine wpList_plain hgd fun K hK=>?_
 obtain ⟨i,hi,_,hz1,_⟩:=info_parts ht.i
 obtain ⟨hlen,hnil,news,hnews,hch⟩:=Src.NM hs
 obtain ⟨ad,rfl⟩:∃ ad,ao=some ad:=by
  cases ao with
  |some ad=>exact ⟨ad,rfl⟩
  |none=>have:=(hnil rfl).1;omega
 have hnl:=hch.length
 obtain ⟨w',hst,h1,h2,h3⟩:=Nh (P:=P) h (s:=s) (ys:=ys) (hch.flat hfl) (by omega) (.inr (by intro e;rw [e] at hlen;simp at hlen;omega))
 have hld:=run_loadCells_list (P:=P) (w:=w) ad news (hnews ad rfl)
 have hmin:Nat.min m dl=m:=Nat.min_eq_left hdl
 rw [hnl,hlen] at hld
 unfold Oper.wp execOp
 have hrun:(Builtin.copy_ #[T,T] o.type #[.slice (some ⟨g,s * r.sz,none⟩) dl dc,.slice (some ad) m c]).run P w=.ok (goInt m) w':=by
  simp [Builtin.copy_,run_underlying ht.u,Builtin.lenOf,Builtin.firstCells,sizeOf,typeInfo,hi,hz1,hmin,hld,hst]
 simp only [ho,resolve,invoke,builtin,Sem.run_bind,Sem.run_pure,Result.andThen_ok,List.map_toArray,List.map_cons,List.map_nil,hd,hx,hrun]
 exact hK _ _ (hk w' h1 h2 h3)
end
section
variable {ok:Nat→Prop} {w:World} {n c:Nat}
theorem Sl.wr {b off:Nat} {l:List (Int × Int × List fM)} (h:Sl (NH vk (NH vk (Vu yP))) ok w (some ⟨b,off,none⟩) n c l) {k:Nat} {v s:Int} {d:List fM} (hx:l[k]?=some (v,s,d)) :
  ∃ a' n' c',w.cell? ⟨b,off+k * 3,none⟩=some (.int .i64 v)∧w.cell? ⟨b,off+k * 3+1,none⟩=some (.int .i64 s)∧w.cell? ⟨b,off+k * 3+2,none⟩=some (.slice a' n' c')∧oD v∧oD s∧Sl yP ok w a' n' c' d:=by
 obtain ⟨cs,h1,c1,c2,rfl,⟨rfl,hv⟩,c3,c4,rfl,⟨rfl,hs⟩,a',n',c',rfl,hd⟩:=h.at hx
 refine ⟨a',n',c',?_,?_,?_,hv,hs,hd⟩
 ·exact h1 0 (by show 0<3;omega)
 ·exact h1 1 (by show 1<3;omega)
 ·exact h1 2 (by show 2<3;omega)
theorem Sl.ext {b off:Nat} {l:List (Int × Int)} (h:Sl (NH vk vk) ok w (some ⟨b,off,none⟩) n c l) {k:Nat} {s m:Int} (hx:l[k]?=some (s,m)) :
  w.cell? ⟨b,off+k * 2,none⟩=some (.int .i64 s)∧w.cell? ⟨b,off+k * 2+1,none⟩=some (.int .i64 m)∧oD s∧oD m:=by
 obtain ⟨cs,h1,c1,c2,rfl,⟨rfl,hv⟩,⟨rfl,hs⟩⟩:=h.at hx
 exact ⟨h1 0 (by show 0<2;omega),h1 1 (by show 1<2;omega),hv,hs⟩
end
end Go.Proofs.YtpcncggjmabnaaaGreatDoor

namespace Go.Proofs.YtpcncggjmabnaaaGreatDoor
open Go.RowKit
abbrev nH:Rep (List fM):=Vu yP
abbrev Wr:=Int × Int × List fM
abbrev wrR:Rep Wr:=NH vk (NH vk nH)
def ahd:fM:=Vector.replicate 8 0
theorem Tryz.mixed:Tryz.prog.follows .mixedOrders=true:=by kernel_rfl
theorem Tryz.ah8:pY Tryz.prog 22 3 1 8 (.int .i64 0):=⟨Tryz.underlying22,by kernel_rfl,rfl,by decide⟩
theorem Tryz.ah9:pY Tryz.prog 74 79 8 8 (.agg #[.int .u8 0,.int .u8 0,.int .u8 0,.int .u8 0,.int .u8 0,.int .u8 0,.int .u8 0,.int .u8 0]):=⟨Tryz.underlying74,by kernel_rfl,rfl,by decide⟩
theorem Tryz.ad2:pY Tryz.prog 51 74 1 24 (.slice none 0 0):=⟨Tryz.underlying51,by kernel_rfl,rfl,by decide⟩
theorem pK {k:IntKind} {a b:Int} (h:a=b):Ending.returned (.int k a)=.returned (.int k b):=by rw [h]
theorem wI {a b:Bool} (h:a=b):Ending.returned (.bool a)=.returned (.bool b):=by rw [h]
theorem Zv {n:Nat} (h:n≤maxLen):oD (n:Int):=by unfold oD maxLen at *;omega
theorem Sl.i64 {α:Type} {r:Rep α} {ok:Nat→Prop} {w:World} {a:Option Addr} {n c:Nat} {l:List α} (h:Sl r ok w a n c l):oD (n:Int):=Zv (Nat.le_trans h.cap h.bnd)
theorem Sl.small {α:Type} {r:Rep α} {ok:Nat→Prop} {w:World} {a:Option Addr} {n c:Nat} {l:List α} (h:Sl r ok w a n c l):n≤9223372036854775807:=by
 have:=Nat.le_trans h.cap h.bnd;unfold maxLen at this;omega
theorem HY {α:Type} {p:α→Bool} {l:List α} {k:Nat} {x:α} (h:l[k]?=some x):(l.take (k+1)).any p=((l.take k).any p || p x):=by
 rw [List.take_add_one,h];simp
theorem any_true {α:Type} {p:α→Bool} {l:List α} {k:Nat} {x:α} (h:l[k]?=some x) (hp:p x=true):l.any p=true:=by
 rw [List.any_eq_true];exact ⟨x,List.mem_of_getElem? h,hp⟩
theorem oC {α:Type} {l:List α} {k:Nat} {x:α} (h:l[k]?=some x):l.take (k+1)=l.take k++[x]:=by
 rw [List.take_add_one,h];rfl
theorem Ad {α:Type} {l:List α} {n:Nat} (h:l.length=n):l.take n=l:=List.take_of_length_le (by omega)
end Go.Proofs.YtpcncggjmabnaaaGreatDoor

namespace Go.Proofs.YtpcncggjmabnaaaGreatDoor
open Go.RowKit
def ni (n:Int):Bool:=decide (n<1) || decide (4096<n)
def aP (l:List Int):Int:=if l.length<1∨8<l.length then 6 else if l.any ni then 2 else 0
def lens (im:List (List fM)):List Int:=im.map fun v=>(v.length:Int)
def qy (im:List (List fM)):Int:=aP (lens im)
end Go.Proofs.YtpcncggjmabnaaaGreatDoor

namespace Go.Proofs.YtpcncggjmabnaaaGreatDoor
open Go.RowKit
def kU (sizes:List Int) (ZJ start:Int) (len:Nat):Int :=
 if ZJ<0∨(sizes.length:Int)≤ZJ then 7 else if len=0 then 1
 else if start<0∨sizes.getD ZJ.toNat 0≤start∨sizes.getD ZJ.toNat 0 - start<len then 2 else 0
theorem DU {α:Type} {l:List α} {k:Nat} {x d:α} (h:l[k]?=some x):l.getD k d=x:=by simp [List.getD,h]
end Go.Proofs.YtpcncggjmabnaaaGreatDoor

namespace Go.Proofs.YtpcncggjmabnaaaGreatDoor
open Go.RowKit
def aV (im:List (List fM)) (ZJ start:Int) (len:Nat):Int:=if qy im≠0 then qy im else kU (lens im) ZJ start len
end Go.Proofs.YtpcncggjmabnaaaGreatDoor

namespace Go.Proofs.YtpcncggjmabnaaaGreatDoor
open Go.RowKit
end Go.Proofs.YtpcncggjmabnaaaGreatDoor

namespace Go.Proofs.YtpcncggjmabnaaaGreatDoor
open Go.RowKit
theorem WB {x:Int} {w:World} (_hx:oD x):Calls Tryz.prog 102 #[.int .i64 x] w fun e w'=>e=.returned (.bool (ni x))∧Below w.heap.size w w':=by
 by_cases h1:x<1
 ·go_enter Tryz.func102,Tryz.ntmps102
  go_wp2
  go_ret
  exact ⟨wI (by simp [ni,h1]),Below.refl _ _⟩
 ·by_cases h2:4096<x
  ·go_enter Tryz.func102,Tryz.ntmps102
   go_wp2
   go_ret
   exact ⟨wI (by simp [ni,h2]),Below.refl _ _⟩
  ·go_enter Tryz.func102,Tryz.ntmps102
   go_wp2
   go_ret
   exact ⟨wI (by simp [ni];omega),Below.refl _ _⟩
set_option maxHeartbeats 1000000 in
theorem BF {a:Option Addr} {n c:Nat} {l:List Int} {ok:Nat→Prop} {w:World} (h:Sl vk ok w a n c l) :
  Calls Tryz.prog 119 #[.slice a n c,.func (.func 102) #[] #[]] w fun e w'=>∃ z:Int,e=.returned (.int .i64 z)∧(0≤z ↔ l.any ni=true)∧oD z∧Below w.heap.size w w':=by
 have hs:=h.small
 go_enter Tryz.func119,Tryz.ntmps119
 go_wp2
 go_loopw [5,8] (fun _ i wr=>∃ k:Nat,k≤n∧i=.int .i64 k∧Hid ((l.take k).any ni=false)∧Below w.heap.size w wr) (fun _ i _=>n - (intOf i).toNat)
 case atStart=>exact ⟨0,Nat.zero_le _,rfl,rfl,Below.refl _ _⟩
 case round =>
  obtain ⟨k,hk,rfl,HT,hB⟩:=hrel
  by_cases hlt:k<n
  ·obtain ⟨b,off,rfl,_,_⟩:=h.addr hlt
   obtain ⟨x,hx⟩:=h.get hlt
   obtain ⟨hcell,hi⟩:=(h.below hB).int hx
   have HX:=Lib.hid hx
   clear hx
   cases hp:ni x with
   |true =>
    have HP:=Lib.hid hp
    have hcall:=WB (w:=wr) hi
    rw [hp] at hcall
    clear hp
    go_wp2_with (fail)
    refine hcall.mono ?_
    rintro e w1 ⟨rfl,hB1⟩
    go_wp2
    go_ret
    exact ⟨k,rfl,by rw [any_true HX.out HP.out];simp,by unfold oD;omega,hB.trans (hB1.mono hB.size)⟩
   |false =>
    have HP:=Lib.hid hp
    have hcall:=WB (w:=wr) hi
    rw [hp] at hcall
    clear hp
    go_wp2_with (fail)
    refine hcall.mono ?_
    rintro e w1 ⟨rfl,hB1⟩
    go_wp2
    go_roundw
    case rel=>exact ⟨k+1,by omega,by go_num,by show _=false;rw [HY HX.out,HT.out,HP.out];rfl,hB.trans (hB1.mono hB.size)⟩
    case measure=>simp [intOf];omega
  ·go_wp2
   go_ret
   obtain rfl:k=n:=by omega
   have e:=HT.out
   rw [Ad h.len] at e
   exact ⟨-1,rfl,by rw [e];simp,by unfold oD;omega,hB⟩
theorem Nj {a:Option Addr} {n c:Nat} {l:List Int} {ok:Nat→Prop} {w:World} (h:Sl vk ok w a n c l) :
  Calls Tryz.prog 101 #[.slice a n c,.func (.func 102) #[] #[]] w fun e w'=>e=.returned (.bool (l.any ni))∧Below w.heap.size w w':=by
 go_enter Tryz.func101,Tryz.ntmps101
 go_wp2_with fail
 refine (BF h).mono ?_
 rintro e w1 ⟨z,rfl,hz,hi,hB⟩
 unfold oD at hi
 cases hp:l.any ni with
 |true =>
  have hz0:0≤z:=hz.2 hp
  have HP:=Lib.hid hp
  clear hz hp
  go_wp2
  go_ret
  exact ⟨wI HP.out.symm,hB⟩
 |false =>
  have hz0:z<0:=by rw [hp] at hz;simp at hz;omega
  have HP:=Lib.hid hp
  clear hz hp
  go_wp2
  go_ret
  exact ⟨wI (by rw [HP.out];simp;omega),hB⟩
theorem F9 {a:Option Addr} {n c:Nat} {l:List Int} {ok:Nat→Prop} {w:World} (h:Sl vk ok w a n c l) :
  Calls Tryz.prog 68 #[.slice a n c] w fun e w'=>e=.returned (.int .i64 (aP l))∧Below w.heap.size w w':=by
 have hs:=h.small
 by_cases hn1:n<1
 ·obtain rfl:n=0:=by omega
  go_enter Tryz.func68,Tryz.ntmps68
  go_wp2
  go_ret
  exact ⟨by simp [aP,h.len],Below.refl _ _⟩
 by_cases hn8:8<n
 ·go_enter Tryz.func68,Tryz.ntmps68
  go_wp2
  go_ret
  exact ⟨pK (by rw [aP,if_pos (by rw [h.len];exact .inr hn8)]),Below.refl _ _⟩
 go_enter Tryz.func68,Tryz.ntmps68
 go_wp2_with fail
 refine (Nj h).mono ?_
 rintro e w1 ⟨rfl,hB⟩
 cases hp:l.any ni with
 |true =>
  have HP:=Lib.hid hp;clear hp
  go_wp2
  go_ret
  exact ⟨pK (by rw [aP,if_neg (by rw [h.len];omega),if_pos HP.out]),hB⟩
 |false =>
  have HP:=Lib.hid hp;clear hp
  go_wp2
  go_ret
  exact ⟨pK (by rw [aP,if_neg (by rw [h.len];omega),HP.out];rfl),hB⟩
end Go.Proofs.YtpcncggjmabnaaaGreatDoor

namespace Go.Proofs.YtpcncggjmabnaaaGreatDoor
open Go.RowKit
theorem ad3 {a:Option Addr} {n c:Nat} {l:List fM} {ok:Nat→Prop} {w:World} (h:Sl yP ok w a n c l) :
  Calls Tryz.prog 113 #[.slice a n c] w fun e w'=>∃ z:Int,e=.returned (.int .i64 z)∧vk.rd (w.heap.size≤·) w' [.int .i64 z] (l.length:Int)∧Below w.heap.size w w':=by
 have hs:=h.small
 go_enter Tryz.func113,Tryz.ntmps113
 go_wp2
 go_ret
 exact ⟨_,rfl,⟨by rw [h.len],by rw [h.len];exact h.i64⟩,Below.refl _ _⟩
set_option maxHeartbeats 1000000 in
theorem U7 {a:Option Addr} {n c:Nat} {l:List (List fM)} {ok:Nat→Prop} {w:World} (h:Sl nH ok w a n c l) (hn:n≤1000000) :
  Calls Tryz.prog 112 #[.slice a n c,.func (.func 113) #[] #[]] w fun e w'=>∃ v,e=.returned v∧lu vk w.heap.size w'.heap.size 3 w' v (l.map (fun v:List fM=>(v.length:Int)))∧Below w.heap.size w w':=by
 go_enter Tryz.func112,Tryz.ntmps112
 go_wp2_with (at_make;refine Ac (r:=vk) (B:=w.heap.size) Tryz.ah8 rfl _ _ rfl rfl rfl ?b2 ?b3 ?b4 ?_)
 case b2=>omega
 case b3=>unfold maxLen;omega
 case b4=>exact Nat.le_refl _
 intro w0 hown0 hB0
 have hs:=h.small
 go_wp2
 go_loopw [5,13] (fun v i wr=>∃ k:Nat,k≤n∧i=.int .i64 k∧lu vk w.heap.size wr.heap.size 3 wr v ((l.map (fun v:List fM=>(v.length:Int))).take k)∧Below w.heap.size w wr) (fun _ i _=>n - (intOf i).toNat)
 case atStart=>exact ⟨0,Nat.zero_le _,rfl,hown0 _,hB0⟩
 case round =>
  obtain ⟨k,hk,rfl,hown,hB⟩:=hrel
  by_cases hlt:k<n
  ·obtain ⟨b,off,rfl,_,_⟩:=h.addr hlt
   obtain ⟨x,hx⟩:=h.get hlt
   obtain ⟨a',n',c',hcell,hx'⟩:=(h.below hB).slice hx
   have hlen:((l.map (fun v:List fM=>(v.length:Int))).take k).length=k:=by have:=h.len;simp;omega
   have HL:=Lib.hid hlen;clear hlen
   have HX:=Lib.hid hx;clear hx
   go_wp2_with (fail)
   refine (ad3 hx').mono ?_
   rintro e w1 ⟨z,rfl,hrd,hB1⟩
   have QS:=hown.lt
   have hz1:=hB1.size
   have hz:=hB.size
   go_wp2_with (at_builtin;refine CV Tryz.ah8 rfl _ _ rfl rfl ((hown.below hB1).below ((Below.refl _ _).alloc (Nat.le_refl _) _)) rfl (QM w1 3 #[.int .i64 z]) (QN hrd) (fun k hk=>(QS k hk).2) ?c1 ?c2 ?c3 ?c4 ?_)
   case c1=>rw [HL.out];unfold maxLen;omega
   case c2=>rw [HL.out];omega
   case c3=>omega
   case c4=>simp;omega
   intro v' w2 hown1 hgrow _
   go_wp2
   go_roundw
   case rel=>exact ⟨k+1,by omega,by go_num,by
    have e:(l.map (fun v:List fM=>(v.length:Int))).take (k+1)=(l.map (fun v:List fM=>(v.length:Int))).take k++[(fun v:List fM=>(v.length:Int)) x]:=oC (by rw [List.getElem?_map,HX.out];rfl)
    rw [e];exact hown1,((hB.trans (hB1.mono hB.size)).alloc (by omega) _).grown hgrow (by simp;omega) (fun k hk=>(QS k hk).1)⟩
   case measure=>simp [intOf];omega
  ·go_wp2
   go_ret
   obtain rfl:k=n:=by omega
   rw [Ad (by rw [List.length_map];exact h.len)] at hown
   exact ⟨_,rfl,hown,hB⟩
theorem U8 {a:Option Addr} {n c:Nat} {im:List (List fM)} {ok:Nat→Prop} {w:World} (h:Sl nH ok w a n c im) (hn:n≤1000000) :
  Calls Tryz.prog 94 #[.slice a n c] w fun e w'=>∃ a' n' c',e=.returned (.slice a' n' c')∧Sl vk (w.heap.size≤·) w' a' n' c' (lens im)∧Below w.heap.size w w':=by
 go_enter Tryz.func94,Tryz.ntmps94
 go_wp2_with fail
 refine (U7 h hn).mono ?_
 rintro e w1 ⟨v,rfl,hown,hB⟩
 obtain ⟨a',n',c',rfl,h1⟩:=hown.sl
 go_wp2
 go_ret
 exact ⟨_,_,_,rfl,h1,hB⟩
theorem Gf {a:Option Addr} {n c:Nat} {im:List (List fM)} {ok:Nat→Prop} {w:World} (h:Sl nH ok w a n c im) (hn:n≤1000000) :
  Calls Tryz.prog 53 #[.slice a n c] w fun e w'=>e=.returned (.int .i64 (qy im))∧Below w.heap.size w w':=by
 go_enter Tryz.func53,Tryz.ntmps53
 go_wp2_with fail
 refine (U8 h hn).mono ?_
 rintro e w1 ⟨a',n',c',rfl,h1,hB⟩
 go_wp2_with fail
 refine (F9 h1).mono ?_
 rintro e w2 ⟨rfl,hB2⟩
 go_wp2
 go_ret
 exact ⟨rfl,hB.trans (hB2.mono hB.size)⟩
end Go.Proofs.YtpcncggjmabnaaaGreatDoor

namespace Go.Proofs.YtpcncggjmabnaaaGreatDoor
open Go.RowKit
def WC {α:Type} (e:Int) (l:List α):List α:=if e=0 then l else []
theorem ad4 {α:Type} {e:Int} {l:List α} (h:e=0):WC e l=l:=if_pos h
theorem Zw {α:Type} {e:Int} {l:List α} (h:¬ e=0):WC e l=[]:=if_neg h
def zeros (n:Int):List fM:=List.replicate n.toNat ahd
def bn (l:List Int):List (List fM):=l.map zeros
set_option maxHeartbeats 1000000 in
theorem Zx {a:Option Addr} {n c:Nat} {l:List fM} {ok:Nat→Prop} {w:World} (h:Sl yP ok w a n c l) (hn:n≤1000000) :
  Calls Tryz.prog 86 #[.slice a n c] w fun e w'=>∃ a' n' c',e=.returned (.slice a' n' c')∧(iC yP 79).rd (w.heap.size≤·) w' [.slice a' n' c'] l∧Below w.heap.size w w':=by
 have heq:=fun (a:Option Addr) (n c:Nat) (w:World)=>Lib.run_eql_slice_nil (P:=Tryz.prog) w 74 79 a n c 0 0 Tryz.underlying74
 cases a with
 |none =>
  have h0:l=[]:=List.eq_nil_of_length_eq_zero (by rw [h.len];have:=h.nil rfl;have:=h.cap;omega)
  have H0:=Lib.hid h0;clear h0
  go_enter Tryz.func86,Tryz.ntmps86
  go_wp2
  go_ret
  refine ⟨_,_,_,rfl,?_,Below.refl _ _⟩
  rw [H0.out]
  exact iC.mk (Own.nil _ _ _ _ _) (fun _=>.inl rfl)
 |some ad =>
  have hs:=h.small
  go_enter Tryz.func86,Tryz.ntmps86
  go_wp2_with (at_builtin;refine tC Tryz.ah9 rfl _ _ rfl rfl (Own.ahb yP (ok:=fun _=>False) (Nat.le_refl _)) rfl ((Src.NM (h.below ((Below.refl _ _).alloc (Nat.le_refl _) _))).flat Flat.sec) ?c1 ?c2 ?c3 ?_)
  case c1=>simp;unfold maxLen;omega
  case c2=>simp;omega
  case c3=>simp
  intro v' w1 hown hgrow hat
  obtain ⟨a',n',c',rfl,_⟩:=hown.sl
  go_wp2
  go_ret
  refine ⟨_,_,_,rfl,iC.mk (by simpa using hown) (fun e=>?_),((Below.refl _ _).alloc (Nat.le_refl _) _).grown hgrow (by simp) (fun k hk=>by cases hk;exact Nat.le_refl _)⟩
  subst e
  obtain ⟨xs,h1,_⟩:=hown
  rcases h1.2 with ⟨hv,_⟩|⟨g,cap,cur,hv,_⟩
  ·exact .inl hv
  ·exact .inr ⟨g,cap,by simpa using hv⟩
end Go.Proofs.YtpcncggjmabnaaaGreatDoor

namespace Go.Proofs.YtpcncggjmabnaaaGreatDoor
open Go.RowKit
def qA (v:List fM):List fM:=v
theorem ad5 (l:List (List fM)):l.map qA=l:=List.map_id l
abbrev pO:Rep (List fM):=iC yP 79
set_option maxHeartbeats 1000000 in
theorem Nk {a:Option Addr} {n c:Nat} {l:List (List fM)} {ok:Nat→Prop} {w:World} (h:Sl nH ok w a n c l) (hn:n≤1000000)(hv:∀ v∈l,v.length≤1000000) :
  Calls Tryz.prog 127 #[.slice a n c,.func (.func 86) #[] #[]] w fun e w'=>∃ v,e=.returned v∧lu pO w.heap.size w'.heap.size 74 w' v (l.map qA)∧Below w.heap.size w w':=by
 go_enter Tryz.func127,Tryz.ntmps127
 go_wp2_with (at_make;refine Ac (r:=pO) (B:=w.heap.size) Tryz.ad2 rfl _ _ rfl rfl rfl ?b2 ?b3 ?b4 ?_)
 case b2=>omega
 case b3=>unfold maxLen;omega
 case b4=>exact Nat.le_refl _
 intro w0 hown0 hB0
 have hs:=h.small
 go_wp2
 go_loopw [5,13] (fun v i wr=>∃ k:Nat,k≤n∧i=.int .i64 k∧lu pO w.heap.size wr.heap.size 74 wr v ((l.map qA).take k)∧Below w.heap.size w wr) (fun _ i _=>n - (intOf i).toNat)
 case atStart=>exact ⟨0,Nat.zero_le _,rfl,hown0 _,hB0⟩
 case round =>
  obtain ⟨k,hk,rfl,hown,hB⟩:=hrel
  by_cases hlt:k<n
  ·obtain ⟨b,off,rfl,_,_⟩:=h.addr hlt
   obtain ⟨x,hx⟩:=h.get hlt
   obtain ⟨a',n',c',hcell,hx'⟩:=(h.below hB).slice hx;have hv':=hv x (List.mem_of_getElem? hx)
   have hlen:((l.map qA).take k).length=k:=by have:=h.len;simp;omega
   have HL:=Lib.hid hlen;clear hlen
   have HX:=Lib.hid hx;clear hx
   go_wp2_with (fail)
   refine (Zx hx' (by rw [← hx'.len];exact hv')).mono ?_
   rintro e w1 ⟨a2,n2,c2,rfl,hrd,hB1⟩
   have QS:=hown.lt
   have hz1:=hB1.size
   have hz:=hB.size
   go_wp2_with (at_builtin;refine CV Tryz.ad2 rfl _ _ rfl rfl ((hown.below hB1).below ((Below.refl _ _).alloc (Nat.le_refl _) _)) rfl (QM w1 74 #[.slice a2 n2 c2]) (QN hrd) (fun k hk=>(QS k hk).2) ?c1 ?c2 ?c3 ?c4 ?_)
   case c1=>rw [HL.out];unfold maxLen;omega
   case c2=>rw [HL.out];omega
   case c3=>omega
   case c4=>simp;omega
   intro v' w2 hown1 hgrow _
   go_wp2
   go_roundw
   case rel=>exact ⟨k+1,by omega,by go_num,by
    have e:(l.map qA).take (k+1)=(l.map qA).take k++[qA x]:=oC (by rw [List.getElem?_map,HX.out];rfl)
    rw [e];exact hown1,((hB.trans (hB1.mono hB.size)).alloc (by omega) _).grown hgrow (by simp;omega) (fun k hk=>(QS k hk).1)⟩
   case measure=>simp [intOf];omega
  ·go_wp2
   go_ret
   obtain rfl:k=n:=by omega
   rw [Ad (by rw [List.length_map];exact h.len)] at hown
   exact ⟨_,rfl,hown,hB⟩
theorem U9 {a:Option Addr} {n c:Nat} {im:List (List fM)} {ok:Nat→Prop} {w:World} (h:Sl nH ok w a n c im) (hn:n≤1000000) (hv:∀ v∈im,v.length≤1000000) :
  Calls Tryz.prog 117 #[.slice a n c] w fun e w'=>∃ v,e=.returned v∧lu pO w.heap.size w'.heap.size 74 w' v im∧Below w.heap.size w w':=by
 go_enter Tryz.func117,Tryz.ntmps117
 go_wp2_with fail
 refine (Nk h hn hv).mono ?_
 rintro e w1 ⟨v,rfl,hown,hB⟩
 go_wp2
 go_ret
 exact ⟨_,rfl,by rw [ad5] at hown;exact hown,hB⟩
theorem Sl.imp {α:Type} {r s:Rep α} {ok:Nat→Prop} {w:World} {a:Option Addr} {n c:Nat} {l:List α} (hz:s.sz=r.sz) (hi:∀ cs x,r.rd ok w cs x→s.rd ok w cs x) (h:Sl r ok w a n c l):Sl s ok w a n c l :=
 ⟨h.len,h.cap,h.bnd,h.nil,h.cells.imp id fun ⟨b,off,e,hb,hl,hc⟩=>⟨b,off,e,hb,hl,fun i x hx=>let ⟨cs,g1,g2⟩:=hc i x hx;⟨cs,by rw [hz];exact g1,hi cs x g2⟩⟩⟩
theorem Nl {ok:Nat→Prop} {w:World} {cs:List Value} {x:List fM} (h:pO.rd ok w cs x):nH.rd ok w cs x:=by
 obtain ⟨v,rfl,h1⟩:=h
 obtain ⟨a,n,c,rfl,h2⟩:=iC.sl Flat.sec (v:=v) ⟨v,rfl,h1⟩
 exact ⟨a,n,c,rfl,h2⟩
theorem lu.img {B F:Nat} {E:TypeId} {w:World} {v:Value} {im:List (List fM)} (h:lu pO B F E w v im):∃ a n c,v=.slice a n c∧Sl nH (B≤·) w a n c im :=
 let ⟨a,n,c,e,h⟩:=h.sl;⟨a,n,c,e,Sl.imp (r:=pO) (s:=nH) rfl (fun _ _ g=>Nl g) h⟩
set_option maxHeartbeats 2000000 in
theorem Jl {a:Option Addr} {n c:Nat} {im:List (List fM)} {ok:Nat→Prop} {w:World} (h:Sl nH ok w a n c im) {ZJ start:Int} (hv:oD ZJ) (hst:oD start)
  {da:Option Addr} {dn dc:Nat} (hd:dn≤9223372036854775807) :
  Calls Tryz.prog 118 #[.slice a n c,.agg #[.int .i64 ZJ,.int .i64 start,.slice da dn dc]] w fun e w'=>e=.returned (.int .i64 (kU (lens im) ZJ start dn))∧Below w.heap.size w w':=by
 have hs:=h.small
 unfold oD at hv hst
 have hlen:(lens im).length=n:=by simp [lens,h.len]
 have HL:=Lib.hid hlen;clear hlen
 have hB0:Below w.heap.size w (w.alloc (.cells #[.int .i64 ZJ,.int .i64 start,.slice da dn dc] 76)):=(Below.refl _ _).alloc (Nat.le_refl _) _
 by_cases h1:ZJ<0
 ·go_enter Tryz.func118,Tryz.ntmps118
  go_wp2
  go_ret
  exact ⟨pK (by rw [kU,if_pos (.inl h1)]),hB0⟩
 obtain ⟨k,rfl⟩:=Int.eq_ofNat_of_zero_le (Int.not_lt.1 h1)
 by_cases h2:n≤k
 ·go_enter Tryz.func118,Tryz.ntmps118
  go_wp2
  go_ret
  exact ⟨pK (by rw [kU,if_pos (.inr (by rw [HL.out];omega))]),hB0⟩
 have hlt:k<n:=by omega
 obtain ⟨b,off,rfl,_,_⟩:=h.addr hlt
 obtain ⟨x,hx⟩:=h.get hlt
 have HX:Hid ((lens im)[k]?=some (x.length:Int)):=by show _=_;rw [lens,List.getElem?_map,hx];rfl
 obtain ⟨a',n',c',hcell,hx'⟩:=(h.below hB0).slice hx
 have hs':=hx'.small
 have hn':=hx'.len
 have HN:=Lib.hid hn';clear hn'
 clear hx
 by_cases h3:dn=0
 ·subst h3
  go_enter Tryz.func118,Tryz.ntmps118
  go_wp2
  go_ret
  exact ⟨pK (by rw [kU,if_neg (by rw [HL.out];omega),if_pos rfl]),hB0⟩
 have h3':0<dn:=by omega
 clear h3
 by_cases h4:start<0
 ·have d1:decide (start<0)=true:=by simp;omega
  go_enter Tryz.func118,Tryz.ntmps118
  go_wp2_with fail
  refine wp_region_quiet_lit (by kernel_rfl) (by kernel_rfl) ?_
  repeat (go_big_quiet_step (fail))
  refine wpQuiet_nil ?_
  rintro _ ⟨nq,rfl⟩
  go_wp2
  go_ret
  exact ⟨pK (by rw [kU,if_neg (by rw [HL.out];omega),if_neg (by omega),if_pos (.inl h4)]),below_drewN hB0 _⟩
 have h4':0≤start:=by omega
 have d1:decide (start<0)=false:=by simp;omega
 by_cases h5:(n':Int) - dn<start
 ·have d2:decide ((n':Int) - dn<start)=true:=by simp;omega
  go_enter Tryz.func118,Tryz.ntmps118
  go_wp2_with fail
  refine wp_region_quiet_lit (by kernel_rfl) (by kernel_rfl) ?_
  repeat (go_big_quiet_step (fail))
  refine wpQuiet_nil ?_
  rintro _ ⟨nq,rfl⟩
  go_wp2
  go_ret
  exact ⟨pK (by rw [kU,if_neg (by rw [HL.out];omega),if_neg (by omega),if_pos (by rw [Int.toNat_natCast,DU HX.out,HN.out];omega)]),below_drewN hB0 _⟩
 ·have h5':start≤(n':Int) - dn:=by omega
  have d2:decide ((n':Int) - dn<start)=false:=by simp;omega
  go_enter Tryz.func118,Tryz.ntmps118
  go_wp2_with fail
  refine wp_region_quiet_lit (by kernel_rfl) (by kernel_rfl) ?_
  repeat (go_big_quiet_step (fail))
  refine wpQuiet_nil ?_
  rintro _ ⟨nq,rfl⟩
  go_wp2
  go_ret
  exact ⟨pK (by rw [kU,if_neg (by rw [HL.out];omega),if_neg (by omega),if_neg (by rw [Int.toNat_natCast,DU HX.out,HN.out];omega)]),below_drewN hB0 _⟩
end Go.Proofs.YtpcncggjmabnaaaGreatDoor

namespace Go.Proofs.YtpcncggjmabnaaaGreatDoor
open Go.RowKit
theorem Tryz.ane:(Tryz.prog.info? 79).map (·.size)=some 8:=by kernel_rfl
end Go.Proofs.YtpcncggjmabnaaaGreatDoor

namespace Go.Proofs.YtpcncggjmabnaaaGreatDoor
open Go.RowKit
def Ae (l:List fM) (s:Nat) (d:List fM):List fM:=l.take s++d++l.drop (s+d.length)
def Dl (im:List (List fM)) (x:Wr):List (List fM):=im.set x.1.toNat (Ae (im.getD x.1.toNat []) x.2.1.toNat x.2.2)
def ny (sz:List Int) (x:Wr):Int:=kU sz x.1 x.2.1 x.2.2.length
def dW (sz:List Int):List Wr→Nat→Int × Int
 |[],_=>(0,0)
 |x :: l,i=>if ny sz x≠0 then (i,ny sz x) else dW sz l (i+1)
def qB (im:List (List fM)) (l:List Wr):List (List fM):=if qy im≠0 then [] else WC (dW (lens im) l 0).2 (l.foldl Dl im)
def qC (im:List (List fM)) (l:List Wr):Int:=if qy im≠0 then 0 else (dW (lens im) l 0).1
def qE (im:List (List fM)) (l:List Wr):Int:=if qy im≠0 then qy im else (dW (lens im) l 0).2
def qF (w:World) (im:List (List fM)) (l:List Wr):Ending→World→Prop:=fun e w' =>
 ∃ a n c,e=.returned (.tuple #[.slice a n c,.int .i64 (qC im l),.int .i64 (qE im l)])∧Sl nH (w.heap.size≤·) w' a n c (qB im l)∧(a=none∨qE im l=0)∧Below w.heap.size w w'
theorem qF.mk {w w':World} {im:List (List fM)} {l:List Wr} {a:Option Addr} {n c:Nat} {i e:Int} (hi:i=qC im l) (he:e=qE im l) (h:Sl nH (w.heap.size≤·) w' a n c (qB im l)) (hz:a=none∨qE im l=0) (hB:Below w.heap.size w w') :
  qF w im l (.returned (.tuple #[.slice a n c,.int .i64 i,.int .i64 e])) w':=⟨a,n,c,by rw [hi,he],h,hz,hB⟩
theorem H6 {sz:List Int} {l:List Wr} {k:Nat} {x:Wr} (hx:l[k]?=some x) (h:dW sz l 0=dW sz (l.drop k) k) (hf:ny sz x=0):dW sz l 0=dW sz (l.drop (k+1)) (k+1):=by
 obtain ⟨hk,rfl⟩:=List.getElem?_eq_some_iff.1 hx
 rw [h,List.drop_eq_getElem_cons hk,dW,if_neg (by rw [hf];decide)]
theorem Np {sz:List Int} {l:List Wr} {k:Nat} {x:Wr} (hx:l[k]?=some x) (h:dW sz l 0=dW sz (l.drop k) k) (hf:ny sz x≠0):dW sz l 0=((k:Int),ny sz x):=by
 obtain ⟨hk,rfl⟩:=List.getElem?_eq_some_iff.1 hx
 rw [h,List.drop_eq_getElem_cons hk,dW,if_pos hf]
theorem Nq {sz:List Int} {l:List Wr} {k:Nat} (hk:l.length≤k) (h:dW sz l 0=dW sz (l.drop k) k):dW sz l 0=(0,0):=by
 rw [h,List.drop_eq_nil_of_le hk,dW]
theorem wJ {l d:List fM} {s:Nat} (h:s+d.length≤l.length):(Ae l s d).length=l.length:=by
 unfold Ae;simp;omega
theorem WE {im:List (List fM)} {v s:Int} {d:List fM} (h:ny (lens im) (v,s,d)=0):0≤v∧v<im.length∧0<d.length∧0≤s∧∃ x,im[v.toNat]?=some x∧s+d.length≤x.length:=by
 unfold ny kU at h
 simp only at h
 split at h
 ·omega
 ·rename_i h1
  split at h
  ·omega
  ·rename_i h2
   split at h
   ·omega
   ·rename_i h3
    have h4:v.toNat<im.length:=by simp [lens] at h1;omega
    have e:(lens im).getD v.toNat 0=((im[v.toNat]'h4).length:Int):=by simp [lens,List.getD,h4]
    rw [e] at h3
    simp [lens] at h1
    exact ⟨by omega,by omega,by omega,by omega,_,List.getElem?_eq_getElem h4,by omega⟩
theorem QT {im:List (List fM)} {x:Wr} (h:ny (lens im) x=0):lens (Dl im x)=lens im:=by
 obtain ⟨v,s,d⟩:=x
 obtain ⟨h1,h2,h3,h4,y,hy,h5⟩:=WE h
 unfold lens Dl
 rw [List.map_set]
 apply List.ext_getElem?
 intro i
 rw [List.getElem?_set]
 by_cases hi:v.toNat=i
 ·subst hi
  have hl:=(List.getElem?_eq_some_iff.1 hy).1
  simp only [List.length_map,if_true,if_pos hl,List.getElem?_map,hy,Option.map_some]
  rw [DU hy,wJ (by omega)]
 ·rw [if_neg hi]
set_option maxHeartbeats 4000000 in
theorem Va {a:Option Addr} {n c:Nat} {im:List (List fM)} {ok ok2:Nat→Prop} {w:World} (h:Sl nH ok w a n c im) (hn:n≤1000000) (hvs:∀ v∈im,v.length≤1000000)
  {la:Option Addr} {ln lc:Nat} {l:List Wr} (hl:Sl wrR ok2 w la ln lc l) :
  Calls Tryz.prog 100 #[.slice a n c,.slice la ln lc] w (qF w im l):=by
 by_cases he:qy im=0
 rotate_left
 ·have hb:(qy im != 0)=true:=by simp [he]
  have HE:=Lib.hid he;clear he
  go_enter Tryz.func100,Tryz.ntmps100
  go_wp2_with fail
  refine (Gf h hn).mono ?_
  rintro e w1 ⟨rfl,hB1⟩
  go_wp2
  go_ret3
  exact qF.mk (by rw [qC,if_pos HE.out]) (by rw [qE,if_pos HE.out]) (by rw [qB,if_pos HE.out];exact Sl.nil0 _ _ _) (.inl rfl) hB1
 have hb:(qy im != 0)=false:=by simp [he]
 have HE:=Lib.hid he;clear he
 have hls:=hl.small
 go_enter Tryz.func100,Tryz.ntmps100
 go_wp2_with fail
 refine (Gf h hn).mono ?_
 rintro e w1 ⟨rfl,hB1⟩
 go_wp2_with fail
 refine (U9 (h.below hB1) hn hvs).mono ?_
 rintro e w2 ⟨v0,rfl,hown0,hB2⟩
 have hB3:=hB1.trans (hB2.mono hB1.size)
 go_wp2
 go_loopw [21] (fun i wr=>∃ k:Nat,k≤ln∧i=.int .i64 k∧Hid (dW (lens im) l 0=dW (lens im) (l.drop k) k∧lens ((l.take k).foldl Dl im)=lens im)∧lu pO w1.heap.size wr.heap.size 74 wr v0 ((l.take k).foldl Dl im)∧Below w1.heap.size w1 wr) (fun i _=>ln - (intOf i).toNat)
 case atStart=>exact ⟨0,Nat.zero_le _,rfl,⟨rfl,rfl⟩,hown0,hB2⟩
 case round =>
  obtain ⟨k,hk,rfl,HK,hown,hB⟩:=hrel
  by_cases hlt:k<ln
  ·obtain ⟨b,off,rfl,_,_⟩:=hl.addr hlt
   obtain ⟨⟨v,s,d⟩,hx⟩:=hl.get hlt
   obtain ⟨da,dn,dc,hc0,hc1,hc2,hv,hs,hd⟩:=(hl.below (hB1.trans (hB.mono hB1.size))).wr hx
   have HX:=Lib.hid hx;clear hx
   obtain ⟨a2,n2,c2,rfl,Zy⟩:=hown.img
   generalize hcur:(l.take k).foldl Dl im=cur at *
   have HC:=Lib.hid hcur;clear hcur
   have hds:=hd.small
   by_cases hf:kU (lens cur) v s dn=0
   rotate_left
   ·have hfb:(kU (lens cur) v s dn != 0)=true:=by simp [hf]
    have HF:=Lib.hid hf;clear hf
    go_wp2_with fail
    refine (Jl (Zy.below ((Below.refl _ _).alloc (Nat.le_refl _) _)) hv hs hds).mono ?_
    rintro e w3 ⟨rfl,hB4⟩
    go_wp2
    go_ret3
    have e0:dW (lens im) l 0=((k:Int),kU (lens cur) v s dn):=by
     have e1:ny (lens im) (v,s,d)=kU (lens cur) v s dn:=by unfold ny;rw [HK.out.2,hd.len]
     rw [← e1]
     exact Np HX.out HK.out.1 (by rw [e1];exact HF.out)
    exact qF.mk (by rw [qC,if_neg (by simp [HE.out]),e0]) (by rw [qE,if_neg (by simp [HE.out]),e0]) (by rw [qB,if_neg (by simp [HE.out]),e0,Zw HF.out];exact Sl.nil0 _ _ _) (.inl rfl)
     ((hB1.trans (hB.mono hB1.size)).trans (((Below.refl _ _).alloc (Nat.le_refl _) _).trans (hB4.mono (by simp)) |>.mono (Nat.le_trans hB1.size hB.size)))
   ·have hfb:(kU (lens cur) v s dn != 0)=false:=by simp [hf]
    have hfw:ny (lens cur) (v,s,d)=0:=by unfold ny;rw [hd.len];exact hf
    obtain ⟨h1,h2,h3,h4,x,hx,h5⟩:=WE hfw
    obtain ⟨v,rfl⟩:=Int.eq_ofNat_of_zero_le h1
    obtain ⟨s,rfl⟩:=Int.eq_ofNat_of_zero_le h4
    rw [Int.toNat_natCast] at hx
    have HFW:=Lib.hid hfw;clear hfw
    have HF:=Lib.hid hf;clear hf
    have hdn:0<dn:=by rw [← hd.len];exact h3
    have h5':s+dn≤x.length:=by rw [hd.len] at h5;omega
    have h2':v<n2:=by rw [← Zy.len];omega
    go_wp2_with fail
    refine (Jl (Zy.below ((Below.refl _ _).alloc (Nat.le_refl _) _)) hv hs hds).mono ?_
    rintro e w3 ⟨rfl,hB4⟩
    have hB5:Below wr.heap.size wr w3:=((Below.refl _ _).alloc (Nat.le_refl _) _).trans (hB4.mono (by simp))
    -- the row that is written
    obtain ⟨g,cap,cc,okk,hvv,hBg,hg,hcc,⟨u,rfl,hub,hu,_⟩,ao4,hput⟩:=((hown.below hB5).below ((Below.refl _ _).drew)).at hx
    cases hvv
    have hu':=hu
    obtain ⟨xs,hrow,_⟩:=hu
    obtain ⟨gi,QU,rfl⟩:∃ gi QU,u=.slice (some ⟨gi,0,none⟩) x.length QU:=by
     rcases hrow.2 with ⟨_,h0⟩|⟨gi,QU,cur',hvu,_⟩
     ·omega
     ·exact ⟨gi,QU,hvu⟩
    have hcap:x.length≤QU:=by obtain ⟨_,_,_,e,q⟩:=hu'.sl;cases e;exact q.cap
    have hcell:w3.cell? ⟨g,v,none⟩=some (.slice (some ⟨gi,0,none⟩) x.length QU):=by have:=hcc 0 Nat.zero_lt_one;simpa [pO,iC] using this
    have hgi:=ao4 gi (hub gi rfl)
    have hw3:=hB5.size
    have hl0:=uS (g:=gi) (Nc hB4 (j:=0) rfl) (by show wr.heap.size≠gi;omega)
    have hl1:=uS (g:=gi) (Nc hB4 (j:=1) rfl) (by show wr.heap.size≠gi;omega)
    have hl2:=uS (g:=gi) (Nc hB4 (j:=2) rfl) (by show wr.heap.size≠gi;omega)
    have hl3:=uS (g:=gi) hcell (fun e=>hgi.2.2 e.symm)
    have hsl:=fun w=>QO Tryz.underlying74 Tryz.ane (some ⟨gi,0,none⟩) x.length QU s (by omega) w
    have hsub:uT (some ⟨gi,0,none⟩) QU s 8=some ⟨gi,s * 8,none⟩:=by unfold uT;rw [if_neg (by omega)];simp [Addr.add_lit]
    rw [hsub] at hsl
    have HS:=Lib.hid hsub;clear hsub
    have aq9:s≤x.length:=by omega
    clear h5 hcc
    go_wp2_with fail
    refine DV (fun w'=>∃ x:rU (w3) (gi),w'=x.w) [([0,1,2,3,4,5,6,7,8,9],10)] [] Tryz.mixed (by kernel_rfl) (rU.drew _ _) ?_
    refine Rj ?_
    simp only [pick,List.filterMap_cons,List.filterMap_nil,List.getElem?_toArray,List.getElem?_cons_succ,List.getElem?_cons_zero]
    change wpQuiet _ _ _ _ [_,_,_,_,_,_,_,_,_,_] _
    repeat (go_big_quiet_step (fail))
    refine wpQuiet_nil ?_
    change wpList _ _ _ [_] _ _
    refine FZ Tryz.ah9 Flat.sec rfl _ _ rfl (s:=s) (r:=yP) rfl rfl hu' (ys:=d) (((hd.below hB5).below ((Below.refl _ _).drew))) (by omega) hdn (by omega) ?_
    intro w4 hrow4 Zz aoV
    have hgr:w3.grownBy w4 (some gi):=QL (grown_drew _ _) Zz
    have hown4:=hput w4 (Ae x s d) (fun b hb hne=>Zz.block b hb (fun e=>hne (by rw [Option.some.inj e];exact hub gi rfl))) Zz.os Zz.tape Zz.output Zz.size ⟨_,rfl,hub,hrow4,fun e=>by
     have:=wJ (l:=x) (d:=d) (s:=s) (by rw [hd.len];omega)
     rw [e] at this;simp at this;omega⟩
    have e1:Dl cur ((v:Int),(s:Int),d)=cur.set v (Ae x s d):=by
     unfold Dl;rw [Int.toNat_natCast,Int.toNat_natCast,DU hx]
    have H1:=Lib.hid e1;clear e1
    have HXX:=Lib.hid hx;clear hx
    go_wp2_with fail
    refine ⟨rU.of hgr,?_⟩
    refine NK ?_
    simp only [pick,List.filterMap_cons,List.filterMap_nil,List.getElem?_toArray,List.getElem?_cons_succ,List.getElem?_cons_zero]
    change wpQuiet _ _ _ _ [] _
    repeat (go_big_quiet_step (fail))
    refine wpQuiet_nil ?_
    go_wp2
    go_roundw
    case rel =>
     refine ⟨k+1,by omega,by go_num,?_,?_,(hB.trans (hB5.mono hB.size)).grown hgr (by have:=hB.size;omega) (fun j hj=>by cases hj;omega)⟩
     ·show _∧_
      have hfw:ny (lens im) ((v:Int),(s:Int),d)=0:=by rw [← HK.out.2];exact HFW.out
      refine ⟨H6 HX.out HK.out.1 hfw,?_⟩
      rw [oC HX.out,List.foldl_append,HC.out]
      show lens (Dl cur _)=_
      rw [QT HFW.out,HK.out.2]
     ·rw [oC HX.out,List.foldl_append,HC.out]
      show lu _ _ _ _ _ _ (Dl cur _)
      rw [H1.out]
      exact hown4.up (by have:=hgr.size;omega)
    case measure=>simp [intOf];omega
  ·obtain rfl:k=ln:=by omega
   obtain ⟨a2,n2,c2,rfl,Zy⟩:=hown.img
   go_wp2
   go_ret3
   have e0:=Nq (Nat.le_of_eq hl.len) HK.out.1
   rw [Ad hl.len] at Zy
   exact qF.mk (by rw [qC,if_neg (by simp [HE.out]),e0]) (by rw [qE,if_neg (by simp [HE.out]),e0]) (by rw [qB,if_neg (by simp [HE.out]),e0,ad4 rfl];exact Zy.mono fun b hb=>Nat.le_trans hB1.size hb) (.inr (by rw [qE,if_neg (by simp [HE.out]),e0]))
    (hB1.trans (hB.mono hB1.size))
end Go.Proofs.YtpcncggjmabnaaaGreatDoor

namespace Go.Proofs.YtpcncggjmabnaaaGreatDoor
open Go.RowKit V
theorem Vb {w:World} {b o:Nat} {u:Value} (h:w.cell? ⟨b,o,none⟩=some u):cO w b:=by
 unfold World.cell? at h
 simp only at h
 split at h
 ·rename_i e;exact ⟨_,_,_,e⟩
 ·cases h
theorem yM {α:Type} {r:Rep α} {enc:α→PV} {ok:Nat→Prop} {w:World} {l:List α} {sz:Nat} {v:Value} (hsz:sz=r.sz) (hc:∀ x,(enc x).cells.length=r.sz)
  (hr:∀ x∈l,∀ (cs:List Value),cs.length=r.sz→(∀ (j:Nat) p u,(enc x).cells[j]?=some p→cs[j]?=some u→aO ok w p u)→r.rd ok w cs x) (h:aO ok w (.list sz (l.map enc)) v):∃ a n c,v=.slice a n c∧Sl r ok w a n c l:=by
 generalize he:l.map enc=es at h
 cases h with
 |nil _ a =>
  have:l=[]:=by simpa using he
  subst this
  exact ⟨a,0,0,rfl,⟨rfl,Nat.le_refl _,Nat.zero_le _,fun _=>rfl,.inl rfl⟩⟩
 |list _ _ b off c cv h1 h2 h3 h4 h6 h7 h8 =>
  subst hsz he
  refine ⟨_,_,c,rfl,⟨by simp,h3,h4,(fun e=>by cases e),.inr ⟨b,off,rfl,h1,h2.lt,fun i x hx=>?_⟩⟩⟩
  have hi:(l.map enc)[i]?=some (enc x):=by simp [hx]
  refine ⟨(List.range r.sz).map (cv i),fun j hj=>?_,hr x (List.mem_of_getElem? hx) _ (by simp) fun j p u hp hu=>?_⟩
  ·have hj':j<(enc x).cells.length:=by rw [hc];exact hj
   rw [(h7 i _ j _ hi (List.getElem?_eq_getElem hj')).1]
   simp [hj]
  ·have hj:j<r.sz:=by have:=(List.getElem?_eq_some_iff.1 hp).1;rw [hc] at this;exact this
   have:u=cv i j:=by simp [hj] at hu;exact hu.symm
   rw [this]
   exact h8 i _ j _ hi hp
theorem Gg {α:Type} {r:Rep α} {enc:α→PV} {ok ok':Nat→Prop} {w:World} {l:List α} {a:Option Addr} {n c:Nat} (hk:∀ b,ok b→b<w.heap.size→ok' b) (hp0:0<r.sz) (hc:∀ x,(enc x).cells.length=r.sz)
  (hr:∀ x∈l,∀ (cs:List Value),cs.length=r.sz→r.rd ok w cs x→∀ (j:Nat) p u,(enc x).cells[j]?=some p→cs[j]?=some u→u.oneCell'=true∧aO ok' w p u) (hz:l=[]→c=0) (h:Sl r ok w a n c l):aO ok' w (.list r.sz (l.map enc)) (.slice a n c):=by
 obtain ⟨h1,h2,h3,h4,h5⟩:=h
 by_cases hl:l=[]
 ·have:=hz hl
  subst hl
  have:n=0:=by simpa using h1.symm
  subst this
  have:c=0:=by omega
  subst this
  exact .nil _ _
 ·rcases h5 with h5|⟨b,off,rfl,hb,hlt,h6⟩
  ·exact absurd (List.eq_nil_of_length_eq_zero (by omega)) hl
  ·have hn:n=(l.map enc).length:=by simp [h1]
   rw [hn]
   have key:∀ (i:Nat) (x:α) (j:Nat) (p:PV),l[i]?=some x→(enc x).cells[j]?=some p→∃ u,w.cell? ⟨b,off+i * r.sz+j,none⟩=some u∧u.oneCell'=true∧aO ok' w p u:=by
    intro i x j p hx hp
    obtain ⟨cs,g1,g2⟩:=h6 i x hx
    have hj:j<r.sz:=by have:=(List.getElem?_eq_some_iff.1 hp).1;rw [hc] at this;exact this
    have hl2:=r.len g2
    have hu:cs[j]?=some (cs[j]'(by omega)):=List.getElem?_eq_getElem (by omega)
    obtain ⟨k1,k2⟩:=hr x (List.mem_of_getElem? hx) cs hl2 g2 j p _ hp hu
    exact ⟨_,by rw [g1 j hj,hu],k1,k2⟩
   have get:∀ {i:Nat} {e:PV},(l.map enc)[i]?=some e→∃ x,l[i]?=some x∧e=enc x:=by
    intro i e he
    rw [List.getElem?_map] at he
    cases hx:l[i]? with
    |none=>rw [hx] at he;cases he
    |some x=>rw [hx] at he;cases he;exact ⟨x,rfl,rfl⟩
   have hce:cO w b:=by
    cases l with
    |nil=>exact absurd rfl hl
    |cons x l =>
     have hj:0<(enc x).cells.length:=by rw [hc];exact hp0
     obtain ⟨u,k1,_⟩:=key 0 x 0 _ rfl (List.getElem?_eq_getElem hj)
     exact Vb k1
   refine .list _ _ b off c (fun i j=>(w.cell? ⟨b,off+i * r.sz+j,none⟩).getD undef) (hk b hb hlt) hce (by simp;omega) h3 (fun e he=>?_) (fun i e j x hi hj=>?_) fun i e j x hi hj=>?_
   ·obtain ⟨x,_,rfl⟩:=List.mem_map.1 he;exact hc x
   ·obtain ⟨x',hx,rfl⟩:=get hi
    obtain ⟨u,k1,k2,k3⟩:=key i x' j x hx hj
    rw [k1];exact ⟨rfl,k2⟩
   ·obtain ⟨x',hx,rfl⟩:=get hi
    obtain ⟨u,k1,k2,k3⟩:=key i x' j x hx hj
    rw [k1];exact k3
theorem WG {ok:Nat→Prop} {w:World} {l:List fM} {v:Value} (h:aO ok w (aX l) v):∃ a n c,v=.slice a n c∧Sl yP ok w a n c l:=by
 refine yM (r:=yP) (enc:=iI) rfl (fun x=>jG x) (fun x _ cs hl hcs=>?_) h
 show cs=mg x
 refine List.ext_getElem? fun j=>?_
 by_cases hj:j<8
 ·have h1:cs[j]?=some (cs[j]'(by rw [hl];exact hj)):=List.getElem?_eq_getElem _
  have h2:(iI x).cells[j]?=some (.int .u8 ((x.toList[j]'(by simpa using hj)).toNat:Int)):=by
   show (lT x)[j]?=_
   have hj':j<x.toList.length:=by simpa using hj
   simp only [lT,List.getElem?_map,List.getElem?_eq_getElem hj',Option.map_some]
  have:=(hcs j _ _ h2 h1).eF
  have hj':j<x.toList.length:=by simpa using hj
  rw [h1,this]
  simp only [mg,List.getElem?_map,List.getElem?_eq_getElem hj',Option.map_some]
 ·have e1:cs.length=8:=hl
  rw [List.getElem?_eq_none (by omega),List.getElem?_eq_none (by rw [uU];omega)]
theorem akz {ok:Nat→Prop} {w:World} {l:List (List fM)} {v:Value} (h:aO ok w (.list 1 (l.map aX)) v):∃ a n c,v=.slice a n c∧Sl nH ok w a n c l:=by
 refine yM (r:=nH) (enc:=aX) rfl (fun x=>rfl) (fun x _ cs hl hcs=>?_) h
 match cs,hl with
 |[u],_ =>
  obtain ⟨a,n,c,rfl,hs⟩:=WG (hcs 0 _ u rfl rfl)
  exact ⟨a,n,c,rfl,hs⟩
theorem akA {ok:Nat→Prop} {w:World} {l:List bP} {v:Value} (hok:∀ x∈l,nV x.volume=true∧nV x.start=true) (h:aO ok w (.list 3 (l.map dZ)) v):∃ a n c,v=.slice a n c∧Sl wrR ok w a n c (l.map fun x=>(x.volume,x.start,x.data)):=by
 have:∃ a n c,v=.slice a n c∧Sl (α:=bP) ⟨3,fun ok w cs x=>wrR.rd ok w cs (x.volume,x.start,x.data),fun h=>wrR.len h,fun hk h=>wrR.mono hk h,fun h=>wrR.live h,fun hf h=>wrR.frame hf h,fun h=>wrR.one h⟩ ok w a n c l:=by
  refine yM rfl (fun x=>rfl) (fun x hx cs hl hcs=>?_) h
  match cs,hl with
  |[u,u2,u3],_ =>
   have e1:=(hcs 0 _ u rfl rfl).eF
   have e2:=(hcs 1 _ u2 rfl rfl).eF
   obtain ⟨a,n,c,rfl,hs⟩:=WG (l:=x.data) (hcs 2 _ u3 rfl rfl)
   obtain ⟨o1,o2⟩:=hok x hx
   simp only [nV,Bool.and_eq_true,decide_eq_true_eq] at o1 o2
   exact ⟨[u],[u2,.slice a n c],rfl,⟨by rw [e1],o1⟩,⟨[u2],[.slice a n c],rfl,⟨by rw [e2],o2⟩,a,n,c,rfl,hs⟩⟩
 obtain ⟨a,n,c,rfl,h1,h2,h3,h4,h5⟩:=this
 refine ⟨a,n,c,rfl,⟨by simpa using h1,h2,h3,h4,h5.imp id fun ⟨b,off,g1,g2,g3,g4⟩=>⟨b,off,g1,g2,g3,fun i x hx=>?_⟩⟩⟩
 rw [List.getElem?_map] at hx
 cases hx':l[i]? with
 |none=>rw [hx'] at hx;cases hx
 |some y=>rw [hx'] at hx;cases hx;exact g4 i y hx'
theorem ahe {ok ok':Nat→Prop} {w:World} {l:List (List fM)} {a:Option Addr} {n c:Nat} (hk:∀ b,ok b→b<w.heap.size→ok' b) (hz:l=[]→c=0) (hne:∀ x∈l,x≠[]) (h:Sl nH ok w a n c l):aO ok' w (.list 1 (l.map aX)) (.slice a n c):=by
 refine Gg (r:=nH) (enc:=aX) hk (by decide) (fun x=>rfl) (fun x hx cs hl hrd j p u hp hu=>?_) hz h
 obtain ⟨a,n,c,rfl,hs⟩:=hrd
 match j with
 |j+1=>simp [aX,PV.cells] at hp
 |0 =>
  cases hp
  cases hu
  refine ⟨rfl,Gg (r:=yP) (enc:=iI) hk (by decide) (fun x=>jG x) (fun s _ cs hl hrd j p u hp hu=>?_) (fun e=>absurd e (hne x hx)) hs⟩
  have hrd:cs=mg s:=hrd
  subst hrd
  simp only [mg,List.getElem?_map,Option.map_eq_some_iff] at hu
  have hp:(lT s)[j]?=some p:=hp
  simp only [lT,List.getElem?_map,Option.map_eq_some_iff] at hp
  obtain ⟨b,h1,rfl⟩:=hu
  obtain ⟨b',h2,rfl⟩:=hp
  rw [h1] at h2
  cases h2
  exact ⟨rfl,.int _ _⟩
theorem Jm (sz:List Int) (x:bP):zC sz x=ny sz (x.volume,x.start,x.data):=by
 simp only [ny,kU,zC]
 repeat' split
 all_goals first|rfl|omega
theorem BG (sz:List Int):∀ (l:List bP) (i:Nat),uF sz l i=dW sz (l.map fun x=>(x.volume,x.start,x.data)) i
 |[],_=>rfl
 |x :: l,i=>by rw [List.map_cons,uF,dW,Jm,BG sz l (i+1)]
theorem Vd (im:List (List fM)) (l:List bP):Rh im l=qE im (l.map fun x=>(x.volume,x.start,x.data)):=by
 unfold Rh qE;rw [BG];rfl
theorem akB (im:List (List fM)) (l:List bP):apI im l=qC im (l.map fun x=>(x.volume,x.start,x.data)):=by
 unfold apI qC;rw [BG];rfl
theorem ahf (im:List (List fM)) (x:bP):qJ im x=Dl im (x.volume,x.start,x.data):=rfl
theorem WH:∀ (l:List bP) (im:List (List fM)),l.foldl qJ im=(l.map fun x=>(x.volume,x.start,x.data)).foldl Dl im
 |[],_=>rfl
 |x :: l,im=>by rw [List.map_cons,List.foldl_cons,List.foldl_cons,ahf,WH l]
theorem akC (im:List (List fM)) (l:List bP):yO im l=qB im (l.map fun x=>(x.volume,x.start,x.data)):=by
 unfold yO qB
 rw [Vd,WH]
 unfold qE WC
 by_cases h:qy im=0
 ·simp [h]
 ·simp [h]
theorem ad6 {im:List (List fM)} {x:bP} (h:zC (kD im) x=0):kD (qJ im x)=kD im:=by
 rw [Jm] at h
 exact QT h
theorem Gh:∀ (l:List bP) (im:List (List fM)) (i:Nat),(uF (kD im) l i).2=0→kD (l.foldl qJ im)=kD im
 |[],_,_,_=>rfl
 |x :: l,im,i,h=>by
  unfold uF at h
  split at h
  ·rename_i h2;exact absurd h h2
  ·rename_i h2
   have h2:zC (kD im) x=0:=by omega
   have e:=ad6 h2
   rw [List.foldl_cons,Gh l (qJ im x) (i+1) (by rw [e];exact h),e]
theorem Jo {im:List (List fM)} {l:List bP} (h:Rh im l=0):kD (yO im l)=kD im:=by
 unfold yO
 rw [if_pos h]
 unfold Rh at h
 split at h
 ·rename_i h2;exact absurd h h2
 ·exact Gh l im 0 h
theorem ad7 {im:List (List fM)} (h:EJ (kD im)=0):im≠[]∧∀ v∈im,v≠[]:=by
 unfold EJ at h
 split at h
 ·cases h
 ·rename_i h1
  split at h
  ·cases h
  ·rename_i h2
   refine ⟨fun e=>by subst e;simp [kD] at h1,fun v hv e=>?_⟩
   subst e
   refine h2 (List.any_eq_true.2 ⟨0,?_,by decide⟩)
   exact List.mem_map.2 ⟨[],hv,rfl⟩
theorem ad8 {im:List (List fM)} {l:List bP}:(Rh im l=0→yO im l≠[])∧∀ v∈yO im l,v≠[]:=by
 by_cases h:Rh im l=0
 ·have h0:EJ (kD im)=0:=by
   unfold Rh at h
   split at h
   ·rename_i h2;exact absurd h h2
   ·omega
  have:=ad7 (im:=yO im l) (by rw [Jo h];exact h0)
  exact ⟨fun _=>this.1,this.2⟩
 ·exact ⟨fun e=>absurd e h,fun v hv=>by unfold yO at hv;rw [if_neg h] at hv;cases hv⟩
theorem ad9 {f:Nat} (hc:callable Tryz.prog f=true) (hA:∀ {a:Option Addr} {n c:Nat} {im:List (List fM)} {ok ok2:Nat→Prop} {w:World},Sl nH ok w a n c im→n≤1000000→(∀ v∈im,v.length≤1000000) →
  ∀ {la:Option Addr} {ln lc:Nat} {l:List Wr},Sl wrR ok2 w la ln lc l→Calls Tryz.prog f #[.slice a n c,.slice la ln lc] w (qF w im l)) :
  ∀ args rs,uG args=some rs→callable Tryz.prog f=true∧nR Tryz.prog f args rs:=fun args rs h=>by
 obtain ⟨im,l,rfl,hw,hn,hv,rfl⟩:=YF h
 refine ⟨hc,fun T0 w vs h1 h2 h3 h4 _=>?_⟩
 match vs,h3 with
 |[v0,v1],_ =>
  obtain ⟨a,n,c,rfl,hs⟩:=akz (h4 0 _ v0 rfl rfl)
  obtain ⟨la,ln,lc,rfl,hl⟩:=akA hw (h4 1 _ v1 rfl rfl)
  refine (hA hs (by rw [← hs.len];exact hn) hv hl).mono ?_
  rintro e w' ⟨a',n',c',rfl,hr,hz,hB⟩
  rw [← akB,← Vd]
  rw [← akC] at hr
  rw [← Vd] at hz
  refine ⟨_,fun b=>if w.heap.size≤b∧b<w'.heap.size then .ro else T0 b,rfl,hB,fun b hb=>if_neg (by omega),fun b hb=>?_,#[_,_,_],rfl,rfl,fun i r u hr' hu=>?_⟩
  ·show (if _ then _ else T0 b)=_
   rw [if_neg (by omega)];exact h2 b (by have:=hB.size;omega)
  ·match i with
   |0 =>
    cases hr';cases hu
    refine ahe (ok:=(w.heap.size≤·)) (fun b hb hlt=>if_pos ⟨hb,hlt⟩) (fun e=>?_) ad8.2 hr
    rcases hz with hz|hz
    ·exact hr.nil hz
    ·exact absurd e (ad8.1 hz)
   |1=>cases hr';cases hu;exact .int _ _
   |2=>cases hr';cases hu;exact .int _ _
   |i+3=>simp at hr'
theorem ZA:∀ args rs,uG args=some rs→callable Tryz.prog 100=true∧nR Tryz.prog 100 args rs:=ad9 (by kernel_rfl) fun h hn hv _ _ _ _ hl=>Va h hn hv hl
end Go.Proofs.YtpcncggjmabnaaaGreatDoor

namespace Go.Proofs.YtpcncggjmabnaaaGreatDoor
open Go.RowKit V
def Gi (f:Nat) (fn:gy):Env:=fun k=>if k=f then some (.code fn) else none
theorem BH {P:Program} {f:Nat} {fn:gy} (h:bJ P f fn=true):CB P (Gi f fn):=fun k d hk=>by
 unfold Gi at hk
 split at hk
 ·rename_i e;subst e;cases hk;exact h
 ·cases hk
def emR (n:Nat):Rep Unit where
 sz:=n
 rd _ _ cs _:=cs.length=n∧∀ u∈cs,u.oneCell'=true
 len h:=h.1
 mono _ h:=h
 live h:=h
 frame _ h:=h
 one h:=h.2
theorem Flat.em (n:Nat):Flat (emR n):=fun h=>h
theorem Ve {ok:Nat→Prop} {w:World} {sz:Nat} {v:Value} (h:aO ok w (.list sz []) v):∃ a c,v=.slice a 0 c∧Sl (emR sz) (fun _=>True) w a 0 c []:=by
 obtain ⟨l,hl⟩:∃ l:List PV,l=[]:=⟨_,rfl⟩
 rw [← hl] at h
 cases h with
 |nil _ a=>exact ⟨a,0,rfl,⟨rfl,Nat.le_refl _,Nat.zero_le _,fun _=>rfl,.inl rfl⟩⟩
 |list _ _ b off c cv h1 h2 h3 h4 h6 h7 h8=>subst hl;exact ⟨_,c,rfl,⟨rfl,Nat.zero_le _,h4,(fun e=>by cases e),.inl rfl⟩⟩
--+
theorem anf:pY Tryz.prog 74 79 8 8 (.agg #[.int .u8 0,.int .u8 0,.int .u8 0,.int .u8 0,.int .u8 0,.int .u8 0,.int .u8 0,.int .u8 0]):=⟨Tryz.underlying74,by kernel_rfl,rfl,by decide⟩
set_option maxHeartbeats 1000000 in
theorem aeb {a:Option Addr} {n c:Nat} {l:List Unit} {ok:Nat→Prop} {w:World} (h:Sl (emR 8) ok w a n c l) (hn:n≤1000000) :
  Calls Tryz.prog 86 #[.slice a n c] w fun e w'=>∃ a' n' c',e=.returned (.slice a' n' c')∧(iC (emR 8) 79).rd (w.heap.size≤·) w' [.slice a' n' c'] l∧Below w.heap.size w w':=by
 have heq:=fun (a:Option Addr) (n c:Nat) (w:World)=>Lib.run_eql_slice_nil (P:=Tryz.prog) w 74 79 a n c 0 0 Tryz.underlying74
 cases a with
 |none =>
  have h0:l=[]:=List.eq_nil_of_length_eq_zero (by rw [h.len];have:=h.nil rfl;have:=h.cap;omega)
  have H0:=Lib.hid h0;clear h0
  go_enter Tryz.func86,Tryz.ntmps86
  go_wp2
  go_ret
  refine ⟨_,_,_,rfl,?_,Below.refl _ _⟩
  rw [H0.out]
  exact iC.mk (Own.nil _ _ _ _ _) (fun _=>.inl rfl)
 |some ad =>
  have hs:n≤9223372036854775807:=by have:=Nat.le_trans h.cap h.bnd;unfold maxLen at this;omega
  go_enter Tryz.func86,Tryz.ntmps86
  go_wp2_with (at_builtin;refine tC anf rfl _ _ rfl rfl (Own.ahb (emR 8) (ok:=fun _=>False) (Nat.le_refl _)) rfl ((Src.NM (h.below ((Below.refl _ _).alloc (Nat.le_refl _) _))).flat (Flat.em 8)) ?c1 ?c2 ?c3 ?_)
  case c1=>simp;unfold maxLen;omega
  case c2=>simp;omega
  case c3=>simp
  intro v' w1 hown hgrow hat
  obtain ⟨a',n',c',rfl,_⟩:=hown.sl
  go_wp2
  go_ret
  refine ⟨_,_,_,rfl,iC.mk (by simpa using hown) (fun e=>?_),((Below.refl _ _).alloc (Nat.le_refl _) _).grown hgrow (by simp) (fun k hk=>by cases hk;exact Nat.le_refl _)⟩
  subst e
  obtain ⟨xs,h1,_⟩:=hown
  rcases h1.2 with ⟨hv,_⟩|⟨g,cap,cur,hv,_⟩
  ·exact .inl hv
  ·exact .inr ⟨g,cap,by simpa using hv⟩
theorem Vf:bJ Tryz.prog 86 agj=true:=by kernel_rfl
theorem Nr {en:Env} (hen:en 86=some (.code agj)) {e:PV} {es:List PV} (hl:(e :: es).length≤lim):cal en 86 [.list 8 (e :: es)]=some [(.list 8 (e :: es),true)]:=by
 have F1:(es.length+1≤lim)=True:=eq_true (by simpa using hl)
 rw [ah hen rfl]
 simp only [agj]
 simp only [start,aN,aT,aJ,aS,aG,aH,aK,aQ,Nat.reduceAdd,Nat.reduceSub]
 simp only [F1,aQ,bK,reduceCtorEq,Nat.reduceEqDiff,Nat.reduceAdd,Nat.reduceLT,Nat.reduceLeDiff,Nat.beq]
theorem Vg:∀ args rs,lK 8 args=some rs→callable Tryz.prog 86=true∧nR Tryz.prog 86 args rs:=fun args rs h=>by
 unfold lK at h
 split at h
 case h_2=>cases h
 rename_i sz es
 split at h
 case isFalse=>cases h
 rename_i hc
 obtain ⟨rfl,hl⟩:=hc
 cases h
 cases es with
 |cons e es =>
  obtain ⟨n,hn⟩:=oz (Nr (en:=Gi 86 agj) (if_pos rfl) hl)
  exact xg (BH Vf) hn
 |nil =>
  refine ⟨by kernel_rfl,fun T0 w vs h1 h2 h3 h4 _=>?_⟩
  match vs,h3 with
  |[v],_ =>
   have hv:=h4 0 _ v rfl rfl
   obtain ⟨a,c,rfl,hsl⟩:=Ve hv
   refine (aeb (ok:=fun _=>True) hsl (by omega)).mono ?_
   rintro e w' ⟨a',n',c',rfl,hrd,hB⟩
   obtain ⟨v,hv,hb,⟨xs,hown,_⟩,hnil⟩:=hrd
   obtain rfl:Value.slice a' n' c'=v:=by simpa using hv
   rcases hown.2 with ⟨e1,_⟩|⟨g,cap,cur,e1,_,hg,_,hm,hs,_⟩
   ·refine ⟨_,T0,rfl,hB,fun _ _=>rfl,fun b hb=>h2 b (by have:=hB.size;omega),#[_],rfl,rfl,fun i r u hr hu=>?_⟩
    cases i with
    |zero=>cases hr;cases hu;exact .inl ⟨rfl,none,e1⟩
    |succ i=>simp at hr
   ·have hg0:w.heap.size≤g:=hb g (by rw [e1];rfl)
    have hgl:g<w'.heap.size:=(Array.getElem?_eq_some_iff.1 hg).1
    refine ⟨_,fun b=>if b=g then .row (.part 0 0) else T0 b,rfl,hB,fun b hb=>if_neg (by omega),fun b hb=>?_,#[_],rfl,rfl,fun i r u hr hu=>?_⟩
    ·show (if b=g then _ else T0 b)=_
     rw [if_neg (by omega)];exact h2 b (by have:=hB.size;omega)
    ·cases i with
     |zero =>
      cases hr;cases hu
      exact .inr ⟨g,cap,cur,_,e1,if_pos rfl,hg,hs,Nat.zero_le _,hm,(fun e he=>by cases he),fun i e j x hi=>by simp at hi⟩
     |succ i=>simp at hr
--+
theorem ang:pY Tryz.prog 22 3 1 8 (.int .i64 0):=⟨Tryz.underlying22,by kernel_rfl,rfl,by decide⟩
set_option maxHeartbeats 1000000 in
theorem aec {a:Option Addr} {n c:Nat} {l:List Unit} {ok:Nat→Prop} {w:World} (h:Sl (emR 1) ok w a n c l) (hn:n≤1000000) :
  Calls Tryz.prog 39 #[.slice a n c] w fun e w'=>∃ a' n' c',e=.returned (.slice a' n' c')∧(iC (emR 1) 3).rd (w.heap.size≤·) w' [.slice a' n' c'] l∧Below w.heap.size w w':=by
 have heq:=fun (a:Option Addr) (n c:Nat) (w:World)=>Lib.run_eql_slice_nil (P:=Tryz.prog) w 22 3 a n c 0 0 Tryz.underlying22
 cases a with
 |none =>
  have h0:l=[]:=List.eq_nil_of_length_eq_zero (by rw [h.len];have:=h.nil rfl;have:=h.cap;omega)
  have H0:=Lib.hid h0;clear h0
  go_enter Tryz.func39,Tryz.ntmps39
  go_wp2
  go_ret
  refine ⟨_,_,_,rfl,?_,Below.refl _ _⟩
  rw [H0.out]
  exact iC.mk (Own.nil _ _ _ _ _) (fun _=>.inl rfl)
 |some ad =>
  have hs:n≤9223372036854775807:=by have:=Nat.le_trans h.cap h.bnd;unfold maxLen at this;omega
  go_enter Tryz.func39,Tryz.ntmps39
  go_wp2_with (at_builtin;refine tC ang rfl _ _ rfl rfl (Own.ahb (emR 1) (ok:=fun _=>False) (Nat.le_refl _)) rfl ((Src.NM (h.below ((Below.refl _ _).alloc (Nat.le_refl _) _))).flat (Flat.em 1)) ?c1 ?c2 ?c3 ?_)
  case c1=>simp;unfold maxLen;omega
  case c2=>simp;omega
  case c3=>simp
  intro v' w1 hown hgrow hat
  obtain ⟨a',n',c',rfl,_⟩:=hown.sl
  go_wp2
  go_ret
  refine ⟨_,_,_,rfl,iC.mk (by simpa using hown) (fun e=>?_),((Below.refl _ _).alloc (Nat.le_refl _) _).grown hgrow (by simp) (fun k hk=>by cases hk;exact Nat.le_refl _)⟩
  subst e
  obtain ⟨xs,h1,_⟩:=hown
  rcases h1.2 with ⟨hv,_⟩|⟨g,cap,cur,hv,_⟩
  ·exact .inl hv
  ·exact .inr ⟨g,cap,by simpa using hv⟩
theorem Vh:bJ Tryz.prog 39 agd=true:=by kernel_rfl
theorem Ns {en:Env} (hen:en 39=some (.code agd)) {e:PV} {es:List PV} (hl:(e :: es).length≤lim):cal en 39 [.list 1 (e :: es)]=some [(.list 1 (e :: es),true)]:=by
 have F1:(es.length+1≤lim)=True:=eq_true (by simpa using hl)
 rw [ah hen rfl]
 simp only [agd]
 simp only [start,aN,aT,aJ,aS,aG,aH,aK,aQ,Nat.reduceAdd,Nat.reduceSub]
 simp only [F1,aQ,bK,reduceCtorEq,Nat.reduceEqDiff,Nat.reduceAdd,Nat.reduceLT,Nat.reduceLeDiff,Nat.beq]
theorem Vj:∀ args rs,lK 1 args=some rs→callable Tryz.prog 39=true∧nR Tryz.prog 39 args rs:=fun args rs h=>by
 unfold lK at h
 split at h
 case h_2=>cases h
 rename_i sz es
 split at h
 case isFalse=>cases h
 rename_i hc
 obtain ⟨rfl,hl⟩:=hc
 cases h
 cases es with
 |cons e es =>
  obtain ⟨n,hn⟩:=oz (Ns (en:=Gi 39 agd) (if_pos rfl) hl)
  exact xg (BH Vh) hn
 |nil =>
  refine ⟨by kernel_rfl,fun T0 w vs h1 h2 h3 h4 _=>?_⟩
  match vs,h3 with
  |[v],_ =>
   have hv:=h4 0 _ v rfl rfl
   obtain ⟨a,c,rfl,hsl⟩:=Ve hv
   refine (aec (ok:=fun _=>True) hsl (by omega)).mono ?_
   rintro e w' ⟨a',n',c',rfl,hrd,hB⟩
   obtain ⟨v,hv,hb,⟨xs,hown,_⟩,hnil⟩:=hrd
   obtain rfl:Value.slice a' n' c'=v:=by simpa using hv
   rcases hown.2 with ⟨e1,_⟩|⟨g,cap,cur,e1,_,hg,_,hm,hs,_⟩
   ·refine ⟨_,T0,rfl,hB,fun _ _=>rfl,fun b hb=>h2 b (by have:=hB.size;omega),#[_],rfl,rfl,fun i r u hr hu=>?_⟩
    cases i with
    |zero=>cases hr;cases hu;exact .inl ⟨rfl,none,e1⟩
    |succ i=>simp at hr
   ·have hg0:w.heap.size≤g:=hb g (by rw [e1];rfl)
    have hgl:g<w'.heap.size:=(Array.getElem?_eq_some_iff.1 hg).1
    refine ⟨_,fun b=>if b=g then .row (.part 0 0) else T0 b,rfl,hB,fun b hb=>if_neg (by omega),fun b hb=>?_,#[_],rfl,rfl,fun i r u hr hu=>?_⟩
    ·show (if b=g then _ else T0 b)=_
     rw [if_neg (by omega)];exact h2 b (by have:=hB.size;omega)
    ·cases i with
     |zero =>
      cases hr;cases hu
      exact .inr ⟨g,cap,cur,_,e1,if_pos rfl,hg,hs,Nat.zero_le _,hm,(fun e he=>by cases he),fun i e j x hi=>by simp at hi⟩
     |succ i=>simp at hr
--+
theorem anh:pY Tryz.prog 91 134 1 8 (.int .u64 0):=⟨Tryz.underlying91,by kernel_rfl,rfl,by decide⟩
set_option maxHeartbeats 1000000 in
theorem aed {a:Option Addr} {n c:Nat} {l:List Unit} {ok:Nat→Prop} {w:World} (h:Sl (emR 1) ok w a n c l) (hn:n≤1000000) :
  Calls Tryz.prog 80 #[.slice a n c] w fun e w'=>∃ a' n' c',e=.returned (.slice a' n' c')∧(iC (emR 1) 134).rd (w.heap.size≤·) w' [.slice a' n' c'] l∧Below w.heap.size w w':=by
 have heq:=fun (a:Option Addr) (n c:Nat) (w:World)=>Lib.run_eql_slice_nil (P:=Tryz.prog) w 91 134 a n c 0 0 Tryz.underlying91
 cases a with
 |none =>
  have h0:l=[]:=List.eq_nil_of_length_eq_zero (by rw [h.len];have:=h.nil rfl;have:=h.cap;omega)
  have H0:=Lib.hid h0;clear h0
  go_enter Tryz.func80,Tryz.ntmps80
  go_wp2
  go_ret
  refine ⟨_,_,_,rfl,?_,Below.refl _ _⟩
  rw [H0.out]
  exact iC.mk (Own.nil _ _ _ _ _) (fun _=>.inl rfl)
 |some ad =>
  have hs:n≤9223372036854775807:=by have:=Nat.le_trans h.cap h.bnd;unfold maxLen at this;omega
  go_enter Tryz.func80,Tryz.ntmps80
  go_wp2_with (at_builtin;refine tC anh rfl _ _ rfl rfl (Own.ahb (emR 1) (ok:=fun _=>False) (Nat.le_refl _)) rfl ((Src.NM (h.below ((Below.refl _ _).alloc (Nat.le_refl _) _))).flat (Flat.em 1)) ?c1 ?c2 ?c3 ?_)
  case c1=>simp;unfold maxLen;omega
  case c2=>simp;omega
  case c3=>simp
  intro v' w1 hown hgrow hat
  obtain ⟨a',n',c',rfl,_⟩:=hown.sl
  go_wp2
  go_ret
  refine ⟨_,_,_,rfl,iC.mk (by simpa using hown) (fun e=>?_),((Below.refl _ _).alloc (Nat.le_refl _) _).grown hgrow (by simp) (fun k hk=>by cases hk;exact Nat.le_refl _)⟩
  subst e
  obtain ⟨xs,h1,_⟩:=hown
  rcases h1.2 with ⟨hv,_⟩|⟨g,cap,cur,hv,_⟩
  ·exact .inl hv
  ·exact .inr ⟨g,cap,by simpa using hv⟩
theorem Vk:bJ Tryz.prog 80 agi=true:=by kernel_rfl
theorem Nu {en:Env} (hen:en 80=some (.code agi)) {e:PV} {es:List PV} (hl:(e :: es).length≤lim):cal en 80 [.list 1 (e :: es)]=some [(.list 1 (e :: es),true)]:=by
 have F1:(es.length+1≤lim)=True:=eq_true (by simpa using hl)
 rw [ah hen rfl]
 simp only [agi]
 simp only [start,aN,aT,aJ,aS,aG,aH,aK,aQ,Nat.reduceAdd,Nat.reduceSub]
 simp only [F1,aQ,bK,reduceCtorEq,Nat.reduceEqDiff,Nat.reduceAdd,Nat.reduceLT,Nat.reduceLeDiff,Nat.beq]
theorem Vl:∀ args rs,lK 1 args=some rs→callable Tryz.prog 80=true∧nR Tryz.prog 80 args rs:=fun args rs h=>by
 unfold lK at h
 split at h
 case h_2=>cases h
 rename_i sz es
 split at h
 case isFalse=>cases h
 rename_i hc
 obtain ⟨rfl,hl⟩:=hc
 cases h
 cases es with
 |cons e es =>
  obtain ⟨n,hn⟩:=oz (Nu (en:=Gi 80 agi) (if_pos rfl) hl)
  exact xg (BH Vk) hn
 |nil =>
  refine ⟨by kernel_rfl,fun T0 w vs h1 h2 h3 h4 _=>?_⟩
  match vs,h3 with
  |[v],_ =>
   have hv:=h4 0 _ v rfl rfl
   obtain ⟨a,c,rfl,hsl⟩:=Ve hv
   refine (aed (ok:=fun _=>True) hsl (by omega)).mono ?_
   rintro e w' ⟨a',n',c',rfl,hrd,hB⟩
   obtain ⟨v,hv,hb,⟨xs,hown,_⟩,hnil⟩:=hrd
   obtain rfl:Value.slice a' n' c'=v:=by simpa using hv
   rcases hown.2 with ⟨e1,_⟩|⟨g,cap,cur,e1,_,hg,_,hm,hs,_⟩
   ·refine ⟨_,T0,rfl,hB,fun _ _=>rfl,fun b hb=>h2 b (by have:=hB.size;omega),#[_],rfl,rfl,fun i r u hr hu=>?_⟩
    cases i with
    |zero=>cases hr;cases hu;exact .inl ⟨rfl,none,e1⟩
    |succ i=>simp at hr
   ·have hg0:w.heap.size≤g:=hb g (by rw [e1];rfl)
    have hgl:g<w'.heap.size:=(Array.getElem?_eq_some_iff.1 hg).1
    refine ⟨_,fun b=>if b=g then .row (.part 0 0) else T0 b,rfl,hB,fun b hb=>if_neg (by omega),fun b hb=>?_,#[_],rfl,rfl,fun i r u hr hu=>?_⟩
    ·show (if b=g then _ else T0 b)=_
     rw [if_neg (by omega)];exact h2 b (by have:=hB.size;omega)
    ·cases i with
     |zero =>
      cases hr;cases hu
      exact .inr ⟨g,cap,cur,_,e1,if_pos rfl,hg,hs,Nat.zero_le _,hm,(fun e he=>by cases he),fun i e j x hi=>by simp at hi⟩
     |succ i=>simp at hr
end Go.Proofs.YtpcncggjmabnaaaGreatDoor

namespace Go.Proofs.YtpcncggjmabnaaaGreatDoor.V
end Go.Proofs.YtpcncggjmabnaaaGreatDoor.V

namespace Go.Proofs.YtpcncggjmabnaaaGreatDoor.V
def okW (l:List bP):Prop:=∀ w∈l,nV w.volume=true∧nV w.start=true
theorem akD {im:iw} {l:List bP} (hw:okW l) (hl:im.length≤1000000) (hr:∀ v∈im,v.length≤1000000):cal env 100 [.list 1 (im.map aX),.list 3 (l.map dZ)]=some [(.list 1 ((yO im l).map aX),false),(.int .i64 (apI im l),false),(.int .i64 (Rh im l),false)] :=
 (xq ai3).trans (Um hw hl hr)
end Go.Proofs.YtpcncggjmabnaaaGreatDoor.V

namespace Go.Proofs.YtpcncggjmabnaaaGreatDoor.V
theorem WI:aP (lq 8)=0:=by decide
def Vm (w:bP):Prop:=aV (bn (lq 8)) w=0
theorem WJ {v:Nat} (h:v<8):((bn (lq 8)).getD v []).length=4096:=by
 unfold bn lq
 rw [List.getD_eq_getElem?_getD,List.getElem?_map,List.getElem?_replicate,if_pos h,Option.map_some,Option.getD_some,List.length_replicate]
 rfl
theorem ahg {w:bP} (h:Vm w):0≤w.volume∧w.volume<8∧0≤w.start∧w.start+w.data.length≤4096:=by
 obtain ⟨q1,q2,q3,q4⟩:=lF h
 have h8:(bn (lq 8)).length=8:=by rw [iV];unfold lq;rw [List.length_replicate]
 rw [h8] at q2
 rw [WJ (by omega)] at q4
 exact ⟨q1,q2,q3,q4⟩
theorem QV {w:bP} (h:Vm w):Hz w:=by
 obtain ⟨q1,q2,q3,q4⟩:=ahg h
 exact ⟨⟨q3,by omega⟩,by omega⟩
def wK (l:List bP) (n:Nat):List bP:=(List.range n).flatMap fun (v:Nat)=>(lG (v:Int) l).map (NC l (v:Int))
def Af (l:List bP):List bP:=wK l 8
theorem xJ (l:List bP) (n:Nat):wK l (n+1)=wK l n++(lG (n:Int) l).map (NC l (n:Int)):=by
 unfold wK;rw [List.range_succ,List.flatMap_append];simp
theorem QW (l:List bP):∀ n,(wK l n).length≤4096 * n
 |0=>by simp [wK]
 |n+1=>by
  rw [xJ,List.length_append,List.length_map]
  have:=QW l n
  have:=MS (n:Int) l
  omega
theorem Gj {v:Int} {l:List bP}:∀ e∈lG v l,0≤e.start∧1≤e.count∧e.start+e.count≤4096:=fun e he=>by
 rw [Aa] at he
 exact Bq _ _ e he
theorem akE {l:List bP} (hm:∀ w∈l,Vm w) (hl:l.length≤10000) {st:St} (h:st.head [0,4,34] st.boxes.length=some ⟨sl 36 [(0,.pv (.list 3 (l.map dZ))),(4,.pv (.int .i64 (0:Nat))),(34,.any)],[],[],none⟩) :
  den env Lj st=some (.normal,⟨sl 36 [(0,.pv (.list 3 (l.map dZ))),(2,.any),(3,.any),(34,.any)],[],[],none⟩):=by
 unfold Lj
 refine bC (env:=env) (nb:=0) (l.length) (fun i=>⟨sl 36 [(0,.pv (.list 3 (l.map dZ))),(4,.pv (.int .i64 i)),(34,.any)],[],[],none⟩) (fun i=>some (.normal,⟨sl 36 [(0,.pv (.list 3 (l.map dZ))),(2,.any),(3,.any),(34,.any)],[],[],none⟩)) h (fun _=>rfl) (fun _=>by simp only [aB,bg,Nat.reduceMul,Nat.reduceBEq,Nat.reduceLT,Nat.reduceLeDiff,Nat.reduceAdd,decide_true,Bool.and_self,Bool.true_and]) ?_ ?_
 ·intro i rb hi ih
  have hi1:=bG hi (by unfold lim;omega)
  have F1:((i:Int)<(l.length:Int))=True:=eq_true (by omega)
  have hx:=uK hi
  have hw:=hm _ (List.getElem_mem hi)
  have e1:=ana
  have e2:=ahU (im:=bn (lq 8)) (w:=l[i]) (by rw [iV];unfold lq;rw [List.length_replicate];unfold lim;omega) (fun v hv=>Nat.le_trans (Jf WI v hv) (by decide)) (by have:=(QV hw).2;unfold lim;omega)
  rw [show aV (bn (lq 8)) l[i]=0 from hw,lX WI] at e2
  unfold dZ at e2
  have Z:((0:Int) != 0)=false:=rfl
  simp only [Lh,F1,e1,e2,Z,hx,jA,au hi,List.length_map,ak,Nat.reduceMul,Nat.reduceBEq,Nat.reduceLT,Nat.reduceLeDiff,reduceCtorEq,Nat.reduceEqDiff,Nat.reduceAdd,Nat.beq]
  rw [ih _ (by simp only [hi1,ak,Nat.reduceMul,Nat.reduceBEq,Nat.reduceLT,Nat.reduceLeDiff,reduceCtorEq,Nat.reduceEqDiff,Nat.reduceAdd,Nat.beq]<;>rfl)]
 ·intro rb
  simp only [Lh,Int.lt_irrefl,List.length_map,ak,Nat.reduceMul,Nat.reduceBEq,Nat.reduceLT,Nat.reduceLeDiff,reduceCtorEq,Nat.reduceEqDiff,Nat.reduceAdd,Nat.beq]
theorem aee {l:List bP} (hm:∀ w∈l,Vm w) (hl:l.length≤10000) {st:St} (h:st.head [0,6,7,34] st.boxes.length=some ⟨sl 36 [(0,.pv (.list 3 (l.map dZ))),(6,.row 3 ((wK l ((0:Nat))).map dZ)),(7,.pv (.int .i64 (((0:Nat):Nat):Int))),(34,.any)],[],[],none⟩) :
  den env Lm st=some (.normal,⟨sl 36 [(2,.any),(3,.any),(6,.row 3 ((Af l).map dZ))],[],[],none⟩):=by
 unfold Lm
 refine bC (env:=env) (nb:=0) (8) (fun i=>⟨sl 36 [(0,.pv (.list 3 (l.map dZ))),(6,.row 3 ((wK l (i)).map dZ)),(7,.pv (.int .i64 ((i:Nat):Int))),(34,.any)],[],[],none⟩) (fun i=>some (.normal,⟨sl 36 [(2,.any),(3,.any),(6,.row 3 ((Af l).map dZ))],[],[],none⟩)) h (fun _=>rfl) (fun _=>by simp only [aB,bg,Nat.reduceMul,Nat.reduceBEq,Nat.reduceLT,Nat.reduceLeDiff,Nat.reduceAdd,decide_true,Bool.and_self,Bool.true_and]) ?_ ?_
 ·intro i rb hi ih
  have hi1:=bG (n:=8) hi (by unfold lim;omega)
  have F1:((i:Int)<8)=True:=eq_true (by omega)
  have hmd:∀ w∈l,Hz w:=fun w hw=>QV (hm w hw)
  have e1:=am8 (v:=(i:Int)) hmd hl
  have hun:=MS (i:Int) l
  have e2:=am9 (v:=(i:Int)) (es:=lG (i:Int) l) hmd hl (by omega) (fun e he=>by have:=Gj e he;omega)
  have hN:=QW l i
  have F5:((wK l i).length+((lG (i:Int) l).map (NC l (i:Int))).length≤lim)=True:=eq_true (by rw [List.length_map];unfold lim;omega)
  have hs:(wK l (i+1)).map dZ=(wK l i).map dZ++((lG (i:Int) l).map (NC l (i:Int))).map dZ:=by rw [xJ,List.map_append]
  rw [hs] at ih
  generalize (lG (i:Int) l).map (NC l (i:Int))=M at *
  simp only [Ll,F1,F5,e1,e2,List.length_map,ak,Nat.reduceMul,Nat.reduceBEq,Nat.reduceLT,Nat.reduceLeDiff,reduceCtorEq,Nat.reduceEqDiff,Nat.reduceAdd,Nat.beq]
  rw [ih _ (by simp only [hi1,ak,Nat.reduceMul,Nat.reduceBEq,Nat.reduceLT,Nat.reduceLeDiff,reduceCtorEq,Nat.reduceEqDiff,Nat.reduceAdd,Nat.beq]<;>rfl)]
 ·intro rb
  have F1:(((8:Nat):Int)<8)=False:=eq_false (by omega)
  rw [show wK l 8=Af l from rfl]
  simp only [Ll,F1,List.length_map,ak,Nat.reduceMul,Nat.reduceBEq,Nat.reduceLT,Nat.reduceLeDiff,reduceCtorEq,Nat.reduceEqDiff,Nat.reduceAdd,Nat.beq]
theorem ani {l:List bP} (hm:∀ w∈l,Vm w) (hl:l.length≤10000):cal env 63 [.list 3 (l.map dZ)]=some [(.list 3 ((Af l).map dZ),true),(.int .i64 0,false)]:=by
 rw [ah al4 rfl];simp only [abV,aB,Nat.reduceBEq,Nat.reduceLeDiff,Nat.reduceAdd,List.length_cons,List.length_nil]
 simp only [List.length_map,ak,Nat.reduceMul,Nat.reduceBEq,Nat.reduceLT,Nat.reduceLeDiff,reduceCtorEq,Nat.reduceEqDiff,Nat.reduceAdd,Nat.beq]
 rw [akE hm hl (by simp only [aB,bg,Nat.reduceMul,Nat.reduceBEq,Nat.reduceLT,Nat.reduceLeDiff,Nat.reduceAdd,decide_true,Bool.and_self,Bool.true_and]<;>rfl)]
 simp only [List.length_map,ak,Nat.reduceMul,Nat.reduceBEq,Nat.reduceLT,Nat.reduceLeDiff,reduceCtorEq,Nat.reduceEqDiff,Nat.reduceAdd,Nat.beq]
 rw [aee hm hl (by simp only [show wK l 0=[] from rfl,List.map_nil];simp only [aB,bg,Nat.reduceMul,Nat.reduceBEq,Nat.reduceLT,Nat.reduceLeDiff,Nat.reduceAdd,decide_true,Bool.and_self,Bool.true_and]<;>rfl)]
 simp only [List.length_map,ak,Nat.reduceMul,Nat.reduceBEq,Nat.reduceLT,Nat.reduceLeDiff,reduceCtorEq,Nat.reduceEqDiff,Nat.reduceAdd,Nat.beq]
end Go.Proofs.YtpcncggjmabnaaaGreatDoor.V

namespace Go.Proofs.YtpcncggjmabnaaaGreatDoor.V
theorem ahh {im:iw} {w:bP} (h:aV im w=0):zC (kD im) w=0:=by
 obtain ⟨q1,q2,q3,q4⟩:=lF h
 unfold aV at h
 split at h
 ·omega
 rename_i k1
 split at h
 ·omega
 rename_i k2
 have hl:(kD im).length=im.length:=by simp [kD]
 have hv:w.volume.toNat<im.length:=by omega
 have e:(kD im).getD w.volume.toNat 0=((im.getD w.volume.toNat []).length:Int):=by
  simp [kD,List.getD_eq_getElem?_getD,hv]
 unfold zC
 rw [hl,if_neg k1,if_neg k2,if_neg (by rw [e];omega)]
theorem CW (sz:List Int):∀ (l:List bP) (i:Nat),(∀ w∈l,zC sz w=0)→(uF sz l i).2=0
 |[],_,_=>rfl
 |w :: l,i,h=>by
  unfold uF
  rw [if_neg (by rw [h w (by simp)];simp)]
  exact CW sz l (i+1) (fun x hx=>h x (by simp [hx]))
theorem Jp {im:iw} {c:jk} (hi:fG im=0) (h:wE (aA im) c=0):Rh im c.ws=0∧okW c.ws∧ny (aA im) c.ws∧∀ w∈c.ws,aV im w=0:=by
 obtain ⟨h1,_,h3⟩:=FU h
 have hw:=zY h3
 have hfit:=Wv hw (uQ h1)
 have hf:∀ w∈c.ws,aV im w=0:=fun w hwm=>by
  have k:=hw w hwm
  unfold aV at k ⊢
  have e1:(bn (aA im)).length=im.length:=by rw [iV];simp [aA]
  have e2:((bn (aA im)).getD w.volume.toNat []).length=(im.getD w.volume.toNat []).length:=by
   by_cases c:w.volume.toNat<im.length
   ·simp [bn,aA,List.getD_eq_getElem?_getD,c]
   ·simp [bn,aA,List.getD_eq_getElem?_getD,Nat.le_of_not_lt c]
  rw [e1,e2] at k
  exact k
 have hs:EJ (kD im)=0:=hi
 refine ⟨?_,fun w hwm=>?_,hfit,hf⟩
 ·unfold Rh
  rw [if_neg (by rw [hs];simp)]
  exact CW _ _ _ fun w hwm=>ahh (hf w hwm)
 ·obtain ⟨q1,q2,q3,q4⟩:=lF (hf w hwm)
  have hlen:im.length≤8:=by
   unfold fG aP at hi
   split at hi
   ·omega
   ·rename_i k;have:(aA im).length=im.length:=by simp [aA]
    omega
  have anj:((im.getD w.volume.toNat []).length:Int)≤4096:=by
   by_cases c:w.volume.toNat<im.length
   ·have e2:im.getD w.volume.toNat []=im[w.volume.toNat]:=by simp [c]
    have:=uQ h1 (im[w.volume.toNat].length:Int) (by unfold aA;exact List.mem_map.2 ⟨_,List.getElem_mem c,rfl⟩)
    rw [e2];omega
   ·rw [List.getD_eq_getElem?_getD,List.getElem?_eq_none (Nat.le_of_not_lt c)];simp
  simp only [nV,Bool.and_eq_true,decide_eq_true_eq]
  omega
theorem pW {im:iw} (hi:fG im=0):im.length≤8∧∀ v∈im,v.length≤4096:=by
 have h1:=uQ (z:=aA im) hi
 refine ⟨?_,fun v hv=>?_⟩
 ·unfold fG aP at hi
  split at hi
  ·omega
  ·rename_i k;have:(aA im).length=im.length:=by simp [aA]
   omega
 ·have:=h1 (v.length:Int) (by unfold aA;exact List.mem_map.2 ⟨_,hv,rfl⟩)
  omega
theorem akF {im:iw} {c:jk} (hl:im.length≤1000) {st:St} (h:st.head [0,3,7,19,20,21,29] st.boxes.length=some ⟨sl 47 [(0,.pv (.list 1 (im.map aX))),(3,.aI 0 0),(7,.row 1 (((aA im).take ((0:Nat))).map eI)),(19,.pv (.list 1 (im.map aX))),(20,.pv (.int .i64 im.length)),(21,.pv (.int .i64 (0:Nat))),(29,.any)],[⟨false,rP c⟩],[],none⟩) :
  den env Lr st=some (.normal,⟨sl 47 [(0,.pv (.list 1 (im.map aX))),(3,.aI 0 0),(4,.any),(5,.any),(7,.row 1 ((aA im).map eI))],[⟨false,rP c⟩],[],none⟩):=by
 unfold Lr
 refine bC (env:=env) (nb:=1) (im.length) (fun i=>⟨sl 47 [(0,.pv (.list 1 (im.map aX))),(3,.aI 0 0),(7,.row 1 (((aA im).take (i)).map eI)),(19,.pv (.list 1 (im.map aX))),(20,.pv (.int .i64 im.length)),(21,.pv (.int .i64 i)),(29,.any)],[⟨false,rP c⟩],[],none⟩) (fun i=>some (.normal,⟨sl 47 [(0,.pv (.list 1 (im.map aX))),(3,.aI 0 0),(4,.any),(5,.any),(7,.row 1 ((aA im).map eI))],[⟨false,rP c⟩],[],none⟩)) h (fun _=>rfl) (fun _=>by simp only [aB,bg,Nat.reduceMul,Nat.reduceBEq,Nat.reduceLT,Nat.reduceLeDiff,Nat.reduceAdd,decide_true,Bool.and_self,Bool.true_and]) ?_ ?_
 ·intro i rb hi ih
  have hi1:=bG hi (by unfold lim;omega)
  have F1:((i:Int)<(im.length:Int))=True:=eq_true (by omega)
  have hx:=xG hi
  have hil:i<(aA im).length:=by unfold aA;rw [List.length_map];exact hi
  have F5:(((aA im).take i).length+1≤lim)=True:=eq_true (by rw [List.length_take];unfold lim;omega)
  have hs:((aA im).take (i+1)).map eI=((aA im).take i).map eI++[.int .i64 (im[i].length:Int)]:=by
   rw [List.take_succ_eq_append_getElem hil,List.map_append]
   congr 1
   simp [aA,eI]
  rw [hs] at ih
  generalize (aA im).take i=Z at *
  simp only [Lp,F1,F5,hx,eU,au hi,List.length_map,ak,Nat.reduceMul,Nat.reduceBEq,Nat.reduceLT,Nat.reduceLeDiff,reduceCtorEq,Nat.reduceEqDiff,Nat.reduceAdd,Nat.beq]
  rw [ih _ (by simp only [hi1,eU,ak,Nat.reduceMul,Nat.reduceBEq,Nat.reduceLT,Nat.reduceLeDiff,reduceCtorEq,Nat.reduceEqDiff,Nat.reduceAdd,Nat.beq]<;>rfl)]
  rfl
 ·intro rb
  rw [show (aA im).take im.length=aA im from List.take_of_length_le (by simp [aA])]
  simp only [Lp,Int.lt_irrefl,eU,List.length_map,ak,Nat.reduceMul,Nat.reduceBEq,Nat.reduceLT,Nat.reduceLeDiff,reduceCtorEq,Nat.reduceEqDiff,Nat.reduceAdd,Nat.beq]
theorem aia {im:iw} {c:jk} (hi:fG im=0) (hc:Bf c) (hk:wE (aA im) c=0):cal env 64 [.list 1 (im.map aX),eP c]=some [(.list 1 ((yO im c.ws).map aX),false),(.int .i64 0,false)]:=by
 obtain ⟨s1,s2⟩:=pW hi
 obtain ⟨k1,k2,_,_⟩:=Jp hi hk
 have e1:=acy (im:=im) (by unfold lim;omega)
 rw [hi] at e1
 have e2:=UH (z:=aA im) (b:=c.base) (n:=c.num) (t:=c.time) (p:=c.pos) (w:=c.ws) (by unfold aA;rw [List.length_map];unfold lim;omega) (Nat.le_trans hc.2.1 (by decide)) (fun x hx=>Nat.le_trans (hc.2.2 x hx) (by decide)) hc.1
 rw [show ckC (aA im) c.base c.num c.time c.pos c.ws=wE (aA im) c from rfl,hk] at e2
 unfold Zd at e2
 have e3:=akD (im:=im) (l:=c.ws) k2 (by omega) (fun v hv=>by have:=s2 v hv;omega)
 rw [k1] at e3
 have Z:((0:Int) != 0)=false:=rfl
 rw [jU]
 rw [ah al5 rfl];simp only [abW,aB,Nat.reduceBEq,Nat.reduceLeDiff,Nat.reduceAdd,List.length_cons,List.length_nil]
 simp only [e1,Z,iq,List.length_map,ak,Nat.reduceMul,Nat.reduceBEq,Nat.reduceLT,Nat.reduceLeDiff,reduceCtorEq,Nat.reduceEqDiff,Nat.reduceAdd,Nat.beq]
 rw [akF (im:=im) (c:=c) (by omega) (by simp only [eU,List.take_zero,List.map_nil];simp only [aB,bg,Nat.reduceMul,Nat.reduceBEq,Nat.reduceLT,Nat.reduceLeDiff,Nat.reduceAdd,decide_true,Bool.and_self,Bool.true_and]<;>rfl)]
 simp only [e2,e3,Z,iq,eU,ak,Nat.reduceMul,Nat.reduceBEq,Nat.reduceLT,Nat.reduceLeDiff,reduceCtorEq,Nat.reduceEqDiff,Nat.reduceAdd,Nat.beq]
end Go.Proofs.YtpcncggjmabnaaaGreatDoor.V

namespace Go.Proofs.YtpcncggjmabnaaaGreatDoor.V
def can:Int→List fJ→Prop
 |_,[]=>True
 |nx,x :: l=>nx≤x.start∧1≤x.count∧can (x.start+x.count+1) l
def QX:Int→List fJ→Int
 |nx,[]=>nx
 |_,x :: l=>QX (x.start+x.count+1) l
theorem sV:∀ (l:List fJ) (nx:Int) (x:fJ),QX nx (l++[x])=x.start+x.count+1
 |[],_,_=>rfl
 |y :: l,_,x=>sV l (y.start+y.count+1) x
theorem Ag:∀ (l:List fJ) (nx:Int) (x:fJ),can nx (l++[x]) ↔ can nx l∧QX nx l≤x.start∧1≤x.count
 |[],nx,x=>by simp [can,QX]
 |y :: l,nx,x=>by
  have:=Ag l (y.start+y.count+1) x
  show nx≤y.start∧1≤y.count∧can _ (l++[x]) ↔ (nx≤y.start∧1≤y.count∧can _ l)∧QX _ l≤x.start∧1≤x.count
  rw [this]
  constructor
  ·rintro ⟨a,b,c,d⟩;exact ⟨⟨a,b,c⟩,d⟩
  ·rintro ⟨⟨a,b,c⟩,d⟩;exact ⟨a,b,c,d⟩
theorem Nv (p:Nat→Bool):∀ n:Nat,can 0 (ext p n)∧QX 0 (ext p n)≤(n:Int)+1
 |0=>by rw [Qs];exact ⟨trivial,by simp [QX]⟩
 |n+1=>by
  obtain ⟨h1,h2⟩:=Nv p n
  rw [oL]
  split
  ·rcases iK (ext p n) with e|⟨pre,x,e⟩
   ·rw [e]
    have:sJ [] n=[⟨(n:Int),1⟩]:=rfl
    rw [this]
    exact ⟨⟨by simp only;omega,by simp only;omega,trivial⟩,by simp only [QX];omega⟩
   ·rw [e] at h1 h2 ⊢
    have hx:=Bq p n x (by rw [e];simp)
    rw [sV] at h2
    obtain ⟨c1,c2,c3⟩:=(Ag _ _ _).1 h1
    rw [gq]
    split
    ·exact ⟨(Ag _ _ _).2 ⟨c1,c2,by simp only;omega⟩,by rw [sV];simp only;omega⟩
    ·exact ⟨(Ag _ _ _).2 ⟨h1,by rw [sV];simp only;omega,by simp⟩,by rw [sV];simp only;omega⟩
  ·exact ⟨h1,by omega⟩
end Go.Proofs.YtpcncggjmabnaaaGreatDoor.V

namespace Go.Proofs.YtpcncggjmabnaaaGreatDoor.V
theorem aef {v:Int} {l:List bP} {e:fJ} (h:e∈lG v l):∃ w∈l,w.volume=v:=by
 have h1:=Gj e h
 rw [Aa] at h
 have h2:jQ (ext (jQ (nG v l)) 4096) e.start.toNat=true:=by
  unfold jQ
  rw [List.any_eq_true]
  refine ⟨e,h,?_⟩
  unfold Ji
  simp only [Bool.and_eq_true,decide_eq_true_eq]
  omega
 rw [zV] at h2
 simp only [Bool.and_eq_true,decide_eq_true_eq] at h2
 have h3:=h2.2
 unfold jQ at h3
 rw [List.any_eq_true] at h3
 obtain ⟨x,hx,_⟩:=h3
 obtain ⟨w,hw,e1,_⟩:=DK hx
 exact ⟨w,hw,e1⟩
theorem ahi {im:iw} {l:List bP} {v:Nat} (hi:fG im=0) (hl:∀ w∈l,aV im w=0) {e:fJ} (he:e∈lG (v:Int) l):aV im (NC l (v:Int) e)=0:=by
 obtain ⟨w,hw,e1⟩:=aef he
 obtain ⟨q1,q2,q3,q4⟩:=lF (hl w hw)
 obtain ⟨s1,s2⟩:=pW hi
 have hv:v<im.length:=by omega
 have anj:(im.getD v []).length≤4096:=by
  have e2:im.getD v []=im[v]:=by simp [hv]
  rw [e2];exact s2 _ (List.getElem_mem hv)
 have hfit:∀ x∈nG (v:Int) l,oW ((im.getD v []).length:Int) x=true:=fun x hx=>by
  obtain ⟨y,hy,e3,rfl⟩:=DK hx
  obtain ⟨p1,p2,p3,p4⟩:=lF (hl y hy)
  rw [e3,Int.toNat_natCast] at p4
  exact jB.2 ⟨p3,by show (0:Int)≤(y.data.length:Int);omega,by show y.start≤_;omega,by show (y.data.length:Int)≤_ - y.start;omega⟩
 have hu:=jB.1 ((DL ⟨by omega,by omega⟩ hfit).1 e he)
 have h1:=Gj e he
 have hd:(NC l (v:Int) e).data.length=e.count.toNat:=xH _ _ _ _
 unfold aV
 rw [hd]
 show (if (v:Int)<0∨(im.length:Int)≤(v:Int) then (7:Int) else if e.count.toNat=0 then 1 else if e.start<0∨((im.getD (v:Int).toNat []).length:Int) - e.count.toNat<e.start then 2 else 0)=0
 rw [Int.toNat_natCast,if_neg (by omega),if_neg (by omega),if_neg (by omega)]
theorem WL {x w:bP} (h:x.volume<w.volume∨(x.volume=w.volume∧x.start+x.data.length+1≤w.start)):uM x w=false:=by
 unfold uM
 rcases h with h|⟨h1,h2⟩
 ·rw [decide_eq_false (by omega),decide_eq_false (by omega)];rfl
 ·rw [decide_eq_false (by omega),decide_eq_true h1.symm,decide_eq_false (by omega)];rfl
theorem QY {im:iw} {p:Option bP} {w:bP} {l:List bP} (h1:aV im w=0) (h2:∀ x,p=some x→uM x w=false):uN im p (w :: l)=uN im (some w) l:=by
 rw [qp,if_neg (by simpa using h1)]
 cases p with
 |none=>exact if_neg Bool.false_ne_true
 |some x =>
  show (if uM x w=true then 3 else uN im (some w) l)=_
  rw [h2 x rfl,if_neg Bool.false_ne_true]
theorem aeg {im:iw} {l:List bP} {v:Int} (rest:List bP):∀ (es:List fJ) (nx:Int) (p:Option bP),can nx es→(∀ e∈es,aV im (NC l v e)=0)→(∀ e∈es,1≤e.count)→(∀ x,p=some x→x.volume<v∨(x.volume=v∧x.start+x.data.length+1≤nx)) →
  ∃ p',(∀ x,p'=some x→x.volume≤v)∧uN im p (es.map (NC l v)++rest)=uN im p' rest
 |[],nx,p,_,_,_,hp=>⟨p,fun x hx=>by rcases hp x hx with h|h<;>omega,rfl⟩
 |e :: es,nx,p,hc,hf,h1,hp=>by
  obtain ⟨c1,c2,c3⟩:=(show nx≤e.start∧1≤e.count∧can (e.start+e.count+1) es from hc)
  have hd:(NC l v e).data.length=e.count.toNat:=xH _ _ _ _
  have hn:=QY (im:=im) (p:=p) (w:=NC l v e) (l:=es.map (NC l v)++rest) (hf e (by simp)) (fun x hx=>WL (by
   rcases hp x hx with h|⟨h,k⟩
   ·exact .inl h
   ·exact .inr ⟨h,by show _≤e.start;omega⟩))
  obtain ⟨p',k1,k2⟩:=aeg rest es (e.start+e.count+1) (some (NC l v e)) c3 (fun x hx=>hf x (by simp [hx])) (fun x hx=>h1 x (by simp [hx])) (fun x hx=>by
   cases hx
   refine .inr ⟨rfl,?_⟩
   rw [hd]
   show e.start+_+1≤_
   omega)
  exact ⟨p',k1,by rw [List.map_cons,List.cons_append,hn,k2]⟩
theorem ahj (v:Int) (l:List bP):can 0 (lG v l):=by
 have h:∀ k,can 0 (ext (jQ (nG v l)) k):=fun k=>(Nv (jQ (nG v l)) k).1
 rw [Aa]
 exact h _
theorem aeh {im:iw} {l:List bP} (hi:fG im=0) (hl:∀ w∈l,aV im w=0):∀ (n:Nat) (rest:List bP),∃ p,(∀ x,p=some x→x.volume<(n:Int))∧uN im none (wK l n++rest)=uN im p rest
 |0,rest=>⟨none,fun x hx=>(by cases hx),rfl⟩
 |n+1,rest=>by
  obtain ⟨p,h1,h2⟩:=aeh hi hl n ((lG (n:Int) l).map (NC l (n:Int))++rest)
  have hcan:can 0 (lG (n:Int) l):=ahj _ _
  obtain ⟨p',k1,k2⟩:=aeg (im:=im) (l:=l) (v:=(n:Int)) rest (lG (n:Int) l) 0 p hcan (fun e he=>ahi hi hl he) (fun e he=>(Gj e he).2.1) (fun x hx=>.inl (h1 x hx))
  exact ⟨p',fun x hx=>by have:=k1 x hx;omega,by rw [xJ,List.append_assoc,h2,k2]⟩
theorem akG {im:iw} {l:List bP} (hi:fG im=0) (hl:∀ w∈l,aV im w=0):uN im none (Af l)=0:=by
 obtain ⟨p,_,h⟩:=aeh hi hl 8 []
 rw [List.append_nil] at h
 unfold Af
 rw [h]
 cases p<;>rfl
theorem ahk {im:iw} {l:List bP} (hi:fG im=0) (hv:∀ v∈im,v.length≤400) (hl:∀ w∈l,aV im w=0):(Af l).length≤3200∧∀ x∈Af l,x.data.length≤4096:=by
 have hn:∀ v:Nat,(lG (v:Int) l).length≤400:=fun v=>by
  by_cases h:lG (v:Int) l=[]
  ·rw [h];simp
  ·obtain ⟨e,he⟩:=List.exists_mem_of_ne_nil _ h
   obtain ⟨w,hw,e1⟩:=aef he
   obtain ⟨q1,q2,q3,q4⟩:=lF (hl w hw)
   have hvl:v<im.length:=by omega
   have e2:im.getD v []=im[v]:=by simp [hvl]
   have anj:=hv _ (List.getElem_mem hvl)
   have hfit:∀ x∈nG (v:Int) l,oW 400 x=true:=fun x hx=>by
    obtain ⟨y,hy,e3,rfl⟩:=DK hx
    obtain ⟨p1,p2,p3,p4⟩:=lF (hl y hy)
    rw [e3,Int.toNat_natCast,e2] at p4
    exact jB.2 ⟨p3,by show (0:Int)≤(y.data.length:Int);omega,by show y.start≤(400:Int);omega,by show (y.data.length:Int)≤400 - y.start;omega⟩
   have h0:∀ s:Nat,400≤s→jQ (nG (v:Int) l) s=false:=fun s hs=>by
    unfold jQ
    rw [List.any_eq_false]
    intro x hx
    have:=jB.1 (hfit x hx)
    rw [MR (hfit x hx) s]
    simp
    omega
   rw [Aa]
   have hk:=pV (p:=jQ (nG (v:Int) l)) (a:=400) 3696 (fun s h1 _=>h0 s h1)
   rw [show (4096:Nat)=400+3696 from rfl,hk]
   exact xE _ _
 refine ⟨?_,fun x hx=>?_⟩
 ·have:∀ n,(wK l n).length≤400 * n:=fun n=>by
   induction n with
   |zero=>simp [wK]
   |succ n ih =>
    rw [xJ,List.length_append,List.length_map]
    have:=hn n
    omega
  exact this 8
 ·unfold Af wK at hx
  obtain ⟨v,_,h1⟩:=List.mem_flatMap.1 hx
  obtain ⟨e,he,rfl⟩:=List.mem_map.1 h1
  rw [show (NC l (v:Int) e).data.length=e.count.toNat from xH _ _ _ _]
  have:=Gj e he
  omega
end Go.Proofs.YtpcncggjmabnaaaGreatDoor.V

namespace Go.Proofs.YtpcncggjmabnaaaGreatDoor.V
structure iD where
 so:iw
 ta:iw
 q:kJ
 se:Int
 ma:Int
 rt:Bool
structure jC where
 kind:Int
 step:Int
 ws:List bP
def eSt (s:iD):PV:=.agg [.list 1 (s.so.map aX),.list 1 (s.ta.map aX),.int .i64 s.q.lm,.list 1 (s.q.sz.map eI),.list 5 (s.q.cy.map eP),.bool s.q.ov,.int .i64 s.q.fs,.int .i64 s.q.ls,.list 2 (s.q.dt.map iW),.int .i64 s.se,.int .i64 s.ma,.bool s.rt]
theorem lQ (s:iD):eSt s=.agg [.list 1 (s.so.map aX),.list 1 (s.ta.map aX),.int .i64 s.q.lm,.list 1 (s.q.sz.map eI),.list 5 (s.q.cy.map eP),.bool s.q.ov,.int .i64 s.q.fs,.int .i64 s.q.ls,.list 2 (s.q.dt.map iW),.int .i64 s.se,.int .i64 s.ma,.bool s.rt]:=rfl
def Nw (s:iD):List BV:=[.pv (.list 1 (s.so.map aX)),.pv (.list 1 (s.ta.map aX)),.pv (.int .i64 s.q.lm),.pv (.list 1 (s.q.sz.map eI)),.pv (.list 5 (s.q.cy.map eP)),.pv (.bool s.q.ov),.pv (.int .i64 s.q.fs),.pv (.int .i64 s.q.ls),.pv (.list 2 (s.q.dt.map iW)),.pv (.int .i64 s.se),.pv (.int .i64 s.ma),.pv (.bool s.rt)]
theorem fH (s:iD):Nw s=[.pv (.list 1 (s.so.map aX)),.pv (.list 1 (s.ta.map aX)),.pv (.int .i64 s.q.lm),.pv (.list 1 (s.q.sz.map eI)),.pv (.list 5 (s.q.cy.map eP)),.pv (.bool s.q.ov),.pv (.int .i64 s.q.fs),.pv (.int .i64 s.q.ls),.pv (.list 2 (s.q.dt.map iW)),.pv (.int .i64 s.se),.pv (.int .i64 s.ma),.pv (.bool s.rt)]:=rfl
def QZ:List BV:=[.row 1 [],.row 1 [],.pv (.int .i64 0),.row 1 [],.row 5 [],.pv (.bool false),.pv (.int .i64 0),.pv (.int .i64 0),.row 2 [],.pv (.int .i64 0),.pv (.int .i64 0),.pv (.bool false)]
theorem fB:QZ=[.row 1 [],.row 1 [],.pv (.int .i64 0),.row 1 [],.row 5 [],.pv (.bool false),.pv (.int .i64 0),.pv (.int .i64 0),.row 2 [],.pv (.int .i64 0),.pv (.int .i64 0),.pv (.bool false)]:=rfl
def ND (x:jC):PV:=.agg [.int .u8 x.kind,.int .u8 x.step,.list 3 (x.ws.map dZ)]
theorem aej (x:jC):ND x=.agg [.int .u8 x.kind,.int .u8 x.step,.list 3 (x.ws.map dZ)]:=rfl
def bEv (x:jC):List BV:=[.pv (.int .u8 x.kind),.pv (.int .u8 x.step),.pv (.list 3 (x.ws.map dZ))]
theorem wL (x:jC):bEv x=[.pv (.int .u8 x.kind),.pv (.int .u8 x.step),.pv (.list 3 (x.ws.map dZ))]:=rfl
theorem kV (a b c d e f g h i j k l:PV):part [a,b,c,d,e,f,g,h,i,j,k,l] 0 (some 12)=some (.agg [a,b,c,d,e,f,g,h,i,j,k,l]):=rfl
def Ri (im:iw) (ws:List bP) (n:Nat):List bP:=(ws.take n).filter fun w=>decide (aV im w=0)
theorem aek {im:iw} {ws:List bP} {i:Nat} (h:i<ws.length):Ri im ws (i+1)=if aV im ws[i]=0 then Ri im ws i++[ws[i]] else Ri im ws i:=by
 unfold Ri
 rw [List.take_succ_eq_append_getElem h,List.filter_append]
 by_cases c:aV im ws[i]=0
 ·rw [if_pos c,List.filter_cons,if_pos (by simpa using c)];rfl
 ·rw [if_neg c,List.filter_cons,if_neg (by simpa using c)];simp
theorem WM (im:iw) (ws:List bP) (n:Nat):(Ri im ws n).length≤n:=by
 unfold Ri
 have:=List.length_filter_le (fun w:bP=>decide (aV im w=0)) (ws.take n)
 rw [List.length_take] at this;omega
theorem ahl {im:iw} {ws:List bP} {n:Nat}:∀ w∈Ri im ws n,aV im w=0:=fun w hw=>by
 unfold Ri at hw
 have:=(List.mem_filter.1 hw).2
 simpa using this
def evN (x:jC):Nat:=min x.ws.length 6
def ZK (im:iw) (x:jC):List bP:=Ri im x.ws (evN x)
def mkC (q:kJ) (x:jC) (l:List bP):jk:=⟨q.ls,q.ls+1+x.step % 3,0,[],Af l⟩
def gG (s:iD) (x:jC):jk:=mkC s.q x (ZK s.so x)
def jD (s:iD) (x:jC):iD:={ s with so:=yO s.so (gG s x).ws,q:=gB s.q (gG s x) }
theorem akH {s:iD} {x:jC} (him:fG s.so=0) (hw:∀ w∈x.ws,w.data.length≤400) {st:St} (h:st.head [2,3,4,5,6,39,43] st.boxes.length=some ⟨sl 89 [(2,.aI 0 0),(3,.aI 1 0),(4,.aI 2 0),(5,.row 3 ((Ri s.so x.ws ((0:Nat))).map dZ)),(6,.pv (.int .i64 (0:Nat))),(39,.any),(43,.any)],[⟨false,Nw s⟩,⟨false,bEv x⟩,⟨false,QZ⟩],[],none⟩) :
  den env KG st=some (.normal,⟨sl 89 [(2,.aI 0 0),(3,.aI 1 0),(4,.aI 2 0),(5,.row 3 ((ZK s.so x).map dZ))],[⟨false,Nw s⟩,⟨false,bEv x⟩,⟨false,QZ⟩],[],none⟩):=by
 unfold KG
 refine bC (env:=env) (nb:=3) (evN x) (fun i=>⟨sl 89 [(2,.aI 0 0),(3,.aI 1 0),(4,.aI 2 0),(5,.row 3 ((Ri s.so x.ws (i)).map dZ)),(6,.pv (.int .i64 i)),(39,.any),(43,.any)],[⟨false,Nw s⟩,⟨false,bEv x⟩,⟨false,QZ⟩],[],none⟩) (fun i=>some (.normal,⟨sl 89 [(2,.aI 0 0),(3,.aI 1 0),(4,.aI 2 0),(5,.row 3 ((ZK s.so x).map dZ))],[⟨false,Nw s⟩,⟨false,bEv x⟩,⟨false,QZ⟩],[],none⟩)) h (fun _=>rfl) (fun _=>by simp only [aB,bg,Nat.reduceMul,Nat.reduceBEq,Nat.reduceLT,Nat.reduceLeDiff,Nat.reduceAdd,decide_true,Bool.and_self,Bool.true_and]) ?_ ?_
 ·intro i rb hi ih
  have hn:i<x.ws.length∧i<6:=by unfold evN at hi;omega
  have hi1:=bG (n:=6) hn.2 (by unfold lim;omega)
  have F1:((i:Int)<(x.ws.length:Int))=True:=eq_true (by omega)
  have F2:((i:Int)<6)=True:=eq_true (by omega)
  obtain ⟨s1,s2⟩:=pW him
  have hx:=uK hn.1
  have e1:=ams (im:=s.so) (w:=x.ws[i]) (by unfold lim;omega) (fun v hv=>by have:=s2 v hv;unfold lim;omega) (by have:=hw _ (List.getElem_mem hn.1);unfold lim;omega)
  rw [show uJ s.so x.ws[i]=aV s.so x.ws[i] by unfold uJ;rw [if_neg (by rw [him];simp)]] at e1
  unfold dZ at e1
  have F5:((Ri s.so x.ws i).length+1≤lim)=True:=eq_true (by have:=WM s.so x.ws i;unfold lim;omega)
  have hs:=aek (im:=s.so) hn.1
  by_cases c:aV s.so x.ws[i]=0
  ·rw [c] at e1
   have Z:((0:Int)==0)=true:=rfl
   rw [if_pos c] at hs
   have hs2:(Ri s.so x.ws (i+1)).map dZ=(Ri s.so x.ws i).map dZ++[.agg [.int .i64 x.ws[i].volume,.int .i64 x.ws[i].start,.list 8 (x.ws[i].data.map iI)]]:=by rw [hs,List.map_append];rfl
   rw [hs2] at ih
   simp only [zH,F1,F2,F5,e1,Z,hx,jA,fH,wL,fB,au hn.1,List.length_map,ak,Nat.reduceMul,Nat.reduceBEq,Nat.reduceLT,Nat.reduceLeDiff,reduceCtorEq,Nat.reduceEqDiff,Nat.reduceAdd,Nat.beq]
   rw [ih _ (by simp only [hi1,fH,wL,fB,ak,Nat.reduceMul,Nat.reduceBEq,Nat.reduceLT,Nat.reduceLeDiff,reduceCtorEq,Nat.reduceEqDiff,Nat.reduceAdd,Nat.beq]<;>rfl)]
   rfl
  ·have Z:(aV s.so x.ws[i]==0)=false:=by simp [c]
   rw [if_neg c] at hs
   rw [hs] at ih
   simp only [zH,F1,F2,e1,Z,hx,jA,fH,wL,fB,au hn.1,List.length_map,ak,Nat.reduceMul,Nat.reduceBEq,Nat.reduceLT,Nat.reduceLeDiff,reduceCtorEq,Nat.reduceEqDiff,Nat.reduceAdd,Nat.beq]
   rw [ih _ (by simp only [hi1,fH,wL,fB,ak,Nat.reduceMul,Nat.reduceBEq,Nat.reduceLT,Nat.reduceLeDiff,reduceCtorEq,Nat.reduceEqDiff,Nat.reduceAdd,Nat.beq]<;>rfl)]
   rfl
 ·intro rb
  rw [show Ri s.so x.ws (evN x)=ZK s.so x from rfl]
  by_cases c:x.ws.length≤6
  ·have hE:evN x=x.ws.length:=by unfold evN;omega
   rw [hE]
   simp only [zH,Int.lt_irrefl,fH,wL,fB,List.length_map,ak,Nat.reduceMul,Nat.reduceBEq,Nat.reduceLT,Nat.reduceLeDiff,reduceCtorEq,Nat.reduceEqDiff,Nat.reduceAdd,Nat.beq]
  ·have hE:evN x=6:=by unfold evN;omega
   have F1:(((6:Nat):Int)<(x.ws.length:Int))=True:=eq_true (by omega)
   have F2:(((6:Nat):Int)<6)=False:=eq_false (by omega)
   rw [hE]
   simp only [zH,F1,F2,fH,wL,fB,List.length_map,ak,Nat.reduceMul,Nat.reduceBEq,Nat.reduceLT,Nat.reduceLeDiff,reduceCtorEq,Nat.reduceEqDiff,Nat.reduceAdd,Nat.beq]
structure gdP (s:iD):Prop where
 im:fG s.so=0
 sz:aA s.so=s.q.sz
 ck:l9 s.q=0
 sm:Hl s.q
 vo:∀ v∈s.so,v.length≤400
 ls:s.q.ls≤1000000
 rt:s.rt=true
structure gdE (x:jC):Prop where
 st:0≤x.step∧x.step≤255
 ws:∀ w∈x.ws,w.data.length≤400
theorem aem {s:iD} {x:jC} (h:gdP s):(∀ w∈ZK s.so x,aV s.so w=0)∧(∀ w∈ZK s.so x,Vm w)∧(ZK s.so x).length≤6:=by
 have h1:∀ w∈ZK s.so x,aV s.so w=0:=ahl
 obtain ⟨s1,s2⟩:=pW h.im
 refine ⟨h1,fun w hw=>?_,?_⟩
 ·have k:=h1 w hw
  obtain ⟨q1,q2,q3,q4⟩:=lF k
  have hv:w.volume.toNat<s.so.length:=by omega
  have e:s.so.getD w.volume.toNat []=s.so[w.volume.toNat]:=by simp [hv]
  have hl:=s2 _ (List.getElem_mem hv)
  rw [e] at q4
  unfold aV at k
  split at k
  ·omega
  rename_i k1
  split at k
  ·omega
  rename_i k2
  have h8:(bn (lq 8)).length=8:=by rw [iV];unfold lq;rw [List.length_replicate]
  unfold Vm aV
  rw [h8,WJ (by omega),if_neg (by omega),if_neg k2,if_neg (by omega)]
 ·have:=WM s.so x.ws (evN x)
  unfold ZK
  have:evN x≤6:=by unfold evN;omega
  omega
theorem sW {s:iD} {x:jC} (h:gdP s) (hx:gdE x):Bf (gG s x)∧wE s.q.sz (gG s x)=0∧xR s.q (gG s x)=0:=by
 obtain ⟨w1,w2,w3⟩:=aem (x:=x) h
 obtain ⟨f1,f2⟩:=ahk h.im h.vo w1
 obtain ⟨k1,k2,k3⟩:=qZ h.ck
 have hst:=hx.st
 have hls:=h.ls
 have hc:wE s.q.sz (gG s x)=0:=by
  unfold wE ckC
  rw [if_pos k1,if_pos (by
   show Dj s.q.ls (s.q.ls+1+x.step % 3) 0 []=0
   unfold Dj
   rw [if_neg (by omega),if_neg (by omega)]
   rfl)]
  have:=akG h.im w1
  show uN (bn s.q.sz) none (Af (ZK s.so x))=0
  have e:∀ (p:Option bP) (l:List bP),uN (bn s.q.sz) p l=uN s.so p l:=by
   have ef:∀ w,aV (bn s.q.sz) w=aV s.so w:=fun w=>by
    rw [← h.sz]
    unfold aV
    have e1:(bn (aA s.so)).length=s.so.length:=by rw [iV];simp [aA]
    have e2:((bn (aA s.so)).getD w.volume.toNat []).length=(s.so.getD w.volume.toNat []).length:=by
     by_cases c:w.volume.toNat<s.so.length
     ·simp [bn,aA,List.getD_eq_getElem?_getD,c]
     ·simp [bn,aA,List.getD_eq_getElem?_getD,Nat.le_of_not_lt c]
    rw [e1,e2]
   intro p l
   induction l generalizing p with
   |nil=>cases p<;>rfl
   |cons w l ih=>rw [qp,qp,ef,ih]
  rw [e];exact this
 refine ⟨⟨Nat.zero_le _,by show (Af _).length≤10000;omega,fun y hy=>Nat.le_trans (f2 y hy) (by decide)⟩,hc,?_⟩
 unfold xR
 rw [if_pos h.ck,if_pos hc,if_pos (show (gG s x).base=s.q.ls from rfl)]
theorem aen (s:iD) (x:jC):eSt (jD s x)=.agg ([.list 1 ((yO s.so (gG s x).ws).map aX),.list 1 (s.ta.map aX)]++(kK (gB s.q (gG s x))).cells++[.int .i64 s.se,.int .i64 s.ma,.bool s.rt]):=rfl
set_option maxRecDepth 40000 in
theorem anl {s:iD} {x:jC} (h:gdP s) (hx:gdE x):cal env 32 [eSt s,ND x]=some [(eSt (jD s x),false)]:=by
 obtain ⟨w1,w2,w3⟩:=aem (x:=x) h
 obtain ⟨c1,c2,c3⟩:=sW h hx
 have hst:=hx.st
 have hls:=h.ls
 obtain ⟨k1,k2,k3⟩:=qZ h.ck
 have e1:=ani w2 (by omega)
 have e2:=aia (im:=s.so) (c:=gG s x) h.im c1 (by rw [h.sz];exact c2)
 have e3:=amY h.sm c1
 rw [c3] at e3
 have W1:IntKind.i64.wrap (s.q.ls+1)=s.q.ls+1:=bf (by omega)
 have W2:IntKind.i64.wrap x.step=x.step:=bf (by omega)
 have T1:x.step.tmod 3=x.step % 3:=Int.tmod_eq_emod_of_nonneg hst.1
 have W3:IntKind.i64.wrap (x.step % 3)=x.step % 3:=bf (by omega)
 have W4:IntKind.i64.wrap (s.q.ls+1+x.step % 3)=s.q.ls+1+x.step % 3:=bf (by omega)
 have hC:eP (gG s x)=.agg [.int .i64 s.q.ls,.int .i64 (s.q.ls+1+x.step % 3),.int .i64 0,.list 1 [],.list 3 ((Af (ZK s.so x)).map dZ)]:=rfl
 rw [hC] at e2 e3
 rw [bW] at e3
 have Z:((0:Int)==0)=true:=rfl
 have Z3:((3:Int)=0)=False:=eq_false (by decide)
 have hrt:=h.rt
 rw [aen,lQ,aej]
 rw [bW] at e3 ⊢
 generalize gB s.q (gG s x)=Q at *
 generalize yO s.so (gG s x).ws=IM at *
 rw [ah alQ rfl];simp only [abI,aB,Nat.reduceBEq,Nat.reduceLeDiff,Nat.reduceAdd,List.length_cons,List.length_nil]
 simp only [ak,Nat.reduceMul,Nat.reduceBEq,Nat.reduceLT,Nat.reduceLeDiff,reduceCtorEq,Nat.reduceEqDiff,Nat.reduceAdd,Nat.beq]
 rw [akH (s:=s) (x:=x) h.im hx.ws (by simp only [fH,wL,fB,show Ri s.so x.ws 0=[] from rfl,List.map_nil];simp only [aB,bg,Nat.reduceMul,Nat.reduceBEq,Nat.reduceLT,Nat.reduceLeDiff,Nat.reduceAdd,decide_true,Bool.and_self,Bool.true_and]<;>rfl)]
 generalize (Af (ZK s.so x)).map dZ=FW at *
 simp only [e1,e2,e3,W1,W2,W3,W4,T1,Z,Z3,hrt,iq,dh,kV,jA,fH,wL,fB,ak,Nat.reduceMul,Nat.reduceBEq,Nat.reduceLT,Nat.reduceLeDiff,reduceCtorEq,Nat.reduceEqDiff,Nat.reduceAdd,Nat.beq]
end Go.Proofs.YtpcncggjmabnaaaGreatDoor.V

namespace Go.Proofs.YtpcncggjmabnaaaGreatDoor.V
theorem BI {s:kJ} (h1:aP s.sz=0) (h2:1≤s.lm∧s.lm≤1024∧0≤s.fs∧s.fs≤s.ls∧s.ls≤1073741824) (h3:(s.ov=true∧s.cy=[]∧s.fs≠s.ls∧yG s.dt s.sz=true)∨(s.ov=false∧s.dt=[]∧(s.cy.length:Int)≤s.lm∧yF s.sz s.fs s.cy s.ls=true)):l9 s=0:=by
 unfold l9
 rw [if_pos h1,if_neg (show ¬ (s.lm<1∨s.lm > 1024∨s.fs<0∨s.fs > s.ls∨s.ls > 1073741824) by omega)]
 rcases h3 with ⟨g0,g1,g2,g3⟩|⟨g0,g1,g2,g3⟩
 ·rw [if_pos g0,decide_eq_true g1,decide_eq_true g2,g3];rfl
 ·rw [if_neg (by rw [g0];exact Bool.false_ne_true),decide_eq_true g1,decide_eq_true g2,g3];rfl
theorem aeo {z:List Int} {l:List Bm} (h:Wu z l):yG l z=true:=by
 rw [UL,decide_eq_true h.1,Bool.true_and]
 unfold FK
 rw [List.drop_zero,List.drop_zero,List.all_eq_true]
 intro q hq
 obtain ⟨i,hi⟩:=List.mem_iff_getElem?.1 hq
 obtain ⟨h1,h2⟩:=List.getElem?_eq_some_iff.1 hi
 have hl:i<l.length:=by rw [List.length_zip] at h1;omega
 have hz:i<z.length:=by rw [List.length_zip] at h1;omega
 obtain ⟨k1,k2⟩:=h.2 i hl
 rw [← h2,List.getElem_zip]
 unfold UK
 rw [Fz k1,k2,List.getD_eq_getElem?_getD,List.getElem?_eq_getElem hz]
 simp
theorem Q5 {z:List Int} {c:jk}:∀ {cy:List jk} {f l:Int},yF z f cy l=true→wE z c=0→c.base=l→yF z f (cy++[c]) c.num=true
 |[],f,l,h,hc,hb=>by
  have:f=l:=by simpa [yF] using h
  simp [yF,hc,hb,this]
 |x :: cy,f,l,h,hc,hb=>by
  simp only [yF,Bool.and_eq_true,beq_iff_eq,List.cons_append] at h ⊢
  exact ⟨h.1,h.2.1,Q5 h.2.2 hc hb⟩
theorem aep {s:kJ} {c:jk} (h:xR s c=0):l9 s=0∧wE s.sz c=0∧c.base=s.ls:=by
 unfold xR at h
 split at h
 ·rename_i h1
  split at h
  ·rename_i h2
   split at h
   ·rename_i h3;exact ⟨h1,h2,h3⟩
   ·omega
  ·rename_i h2;exact absurd h h2
 ·rename_i h1;exact absurd h h1
theorem WO {z:List Int} {c:jk} (h:wE z c=0):0≤c.base∧c.base<c.num∧c.num≤1073741824:=by
 obtain ⟨_,h2,_⟩:=FU h
 unfold Dj at h2
 split at h2
 ·omega
 ·omega
theorem Gl {s:kJ} {c:jk} (h:xR s c=0):l9 (gB s c)=0∧(gB s c).sz=s.sz∧(gB s c).lm=s.lm∧(gB s c).fs=s.fs∧(gB s c).ls=c.num ∧
  ((gB s c).ov=(s.ov || decide (s.lm≤(s.cy.length:Int))))∧((gB s c).ov=false→(gB s c).cy=s.cy++[c])∧((gB s c).ov=true→(gB s c).cy=[]∧Wu s.sz (gB s c).dt)∧((gB s c).ov=false→(gB s c).dt=[]):=by
 obtain ⟨h1,h2,h3⟩:=aep h
 obtain ⟨k1,k2,k3⟩:=qZ h1
 obtain ⟨n1,n2,n3⟩:=WO h2
 have hw:=zZ h2
 unfold gB
 rw [if_pos h]
 rcases k3 with ⟨g0,g1,g2,g3⟩|⟨g0,g1,g2,g3⟩
 ·rw [g0,if_pos rfl]
  have hz:=adK (wF g3) hw
  refine ⟨BI k1 (by show 1≤s.lm∧s.lm≤1024∧0≤s.fs∧s.fs≤c.num∧c.num≤1073741824;omega) (.inl ⟨rfl,g1,by show s.fs≠c.num;omega,aeo hz⟩),rfl,rfl,rfl,rfl,rfl,fun e=>(by cases e),fun _=>⟨g1,hz⟩,fun e=>(by cases e)⟩
 ·rw [g0,if_neg Bool.false_ne_true]
  unfold UW
  by_cases q:(s.cy.length:Int)<s.lm
  ·rw [if_pos q]
   refine ⟨BI k1 (by show 1≤s.lm∧s.lm≤1024∧0≤s.fs∧s.fs≤c.num∧c.num≤1073741824;omega) (.inr ⟨g0,g1,by show (((s.cy++[c]).length:Nat):Int)≤s.lm;rw [List.length_append];simp;omega,Q5 g3 h2 h3⟩),rfl,rfl,rfl,rfl,?_,fun _=>rfl,fun e=>?_,fun _=>g1⟩
   ·show s.ov=_
    rw [g0,decide_eq_false (by omega)];rfl
   ·rw [show ({ s with cy:=s.cy++[c],ls:=c.num }:kJ).ov=s.ov from rfl,g0] at e;cases e
  ·rw [if_neg q]
   have hz:=UU (cs:=s.cy++[c]) (adL (uQ k1)) (fun x hx=>by
    rcases List.mem_append.1 hx with e|e
    ·exact zZ (DN g3 x e)
    ·rw [List.mem_singleton.1 e];exact hw)
   refine ⟨BI k1 (by show 1≤s.lm∧s.lm≤1024∧0≤s.fs∧s.fs≤c.num∧c.num≤1073741824;omega) (.inl ⟨rfl,rfl,by show s.fs≠c.num;omega,aeo hz⟩),rfl,rfl,rfl,rfl,?_,fun e=>(by cases e),fun _=>⟨rfl,hz⟩,fun e=>(by cases e)⟩
   show true=_
   rw [decide_eq_true (by omega)];rfl
theorem ahn {s:kJ} {c:jk} (h:xR s c=0) (hq:Hl s) (hc:Bf c) (hl:s.lm≤900):Hl (gB s c):=by
 obtain ⟨p1,p2,p3,p4,p5,p6,p7,p8,p9⟩:=Gl h
 obtain ⟨_,_,k3⟩:=qZ p1
 refine ⟨by rw [p2];exact hq.sz,?_,?_,fun x hx=>?_,fun b hb=>?_⟩
 ·rcases k3 with ⟨g0,g1,_⟩|⟨g0,_,g2,_⟩
  ·rw [g1];exact Nat.zero_le _
  ·rw [p3] at g2;omega
 ·cases e:(gB s c).ov with
  |true=>rw [(p8 e).2.1];exact hq.sz
  |false=>rw [p9 e];exact Nat.zero_le _
 ·cases e:(gB s c).ov with
  |true=>rw [(p8 e).1] at hx;cases hx
  |false =>
   rw [p7 e] at hx
   rcases List.mem_append.1 hx with e|e
   ·exact hq.c1 x e
   ·rw [List.mem_singleton.1 e];exact hc
 ·cases e:(gB s c).ov with
  |true =>
   obtain ⟨i,hi⟩:=List.mem_iff_getElem?.1 hb
   obtain ⟨h1,h2⟩:=List.getElem?_eq_some_iff.1 hi
   have:=jy ((p8 e).2.2 i h1).1
   rw [h2] at this
   omega
  |false=>rw [p9 e] at hb;cases hb
theorem Ny {im:iw} {l:List bP} (h:Rh im l=0):aA (yO im l)=aA im:=Jo h
theorem aer {a b:iw} (h:aA a=aA b) {k:Nat} (hb:∀ v∈b,v.length≤k):∀ v∈a,v.length≤k:=fun v hv=>by
 have h1:(v.length:Int)∈aA b:=by rw [← h];unfold aA;exact List.mem_map.2 ⟨v,hv,rfl⟩
 unfold aA at h1
 obtain ⟨w,hw,e⟩:=List.mem_map.1 h1
 have:=hb w hw
 omega
theorem aes {s:iD} {x:jC} (h:gdP s) (hx:gdE x) (hl:s.q.lm≤900) (hls:s.q.ls≤900000):gdP (jD s x)∧(jD s x).q.ls≤s.q.ls+3∧(jD s x).q=gB s.q (gG s x):=by
 obtain ⟨c1,c2,c3⟩:=sW h hx
 obtain ⟨p1,p2,p3,p4,p5,_⟩:=Gl c3
 obtain ⟨a1,_⟩:=Jp h.im (by rw [h.sz];exact c2)
 have hsz:=Ny a1
 have hst:=hx.st
 have hnum:(gG s x).num=s.q.ls+1+x.step % 3:=rfl
 refine ⟨⟨?_,?_,p1,ahn c3 h.sm c1 hl,aer hsz h.vo,?_,h.rt⟩,?_,rfl⟩
 ·show aP (aA (yO s.so (gG s x).ws))=0
  rw [hsz];exact h.im
 ·show aA (yO s.so (gG s x).ws)=(gB s.q (gG s x)).sz
  rw [hsz,p2];exact h.sz
 ·show (gB s.q (gG s x)).ls≤1000000
  rw [p5,hnum];omega
 ·show (gB s.q (gG s x)).ls≤s.q.ls+3
  rw [p5,hnum];omega
end Go.Proofs.YtpcncggjmabnaaaGreatDoor.V

namespace Go.Proofs.YtpcncggjmabnaaaGreatDoor.V
theorem akI {f:Int} {c:jk} {cs:List jk} (h:f<c.num):nC f (c :: cs) c.num=1:=by
 unfold nC
 rw [if_pos h]
 cases cs with
 |nil=>rfl
 |cons x l=>unfold nC;rw [if_neg (by omega)]
theorem WQ {s:kJ} {c:jk} {cs:List jk} (h:l9 s=0) (hc:s.cy=c :: cs):Ht s c.num=0∧Dk s c.num={ s with cy:=cs,fs:=c.num }∧s.ov=false∧wE s.sz c=0∧c.base=s.fs∧yF s.sz c.num cs s.ls=true:=by
 obtain ⟨k1,k2,k3⟩:=qZ h
 rcases k3 with ⟨_,g1,_⟩|⟨g0,g1,g2,g3⟩
 ·rw [hc] at g1;cases g1
 have hq:yF s.sz s.fs (c :: cs) s.ls=true:=by rw [← hc];exact g3
 have hgt:=adN hq c (by simp)
 have hK:nC s.fs s.cy c.num=1:=by rw [hc];exact akI hgt
 simp only [yF,Bool.and_eq_true,beq_iff_eq] at hq
 have hle:c.num≤s.ls:=by
  have:∀ (cy:List jk) (f l:Int),yF s.sz f cy l=true→f≤l:=fun cy=>by
   induction cy with
   |nil =>
    intro f l h
    have:f=l:=by simpa [yF] using h
    omega
   |cons x cy ih =>
    intro f l h
    simp only [yF,Bool.and_eq_true,beq_iff_eq] at h
    have:=ih _ _ h.2.2
    have:=U0 h.1
    omega
  exact this _ _ _ hq.2.2
 have hE:Ht s c.num=0:=by
  unfold Ht
  rw [if_pos h,g0,if_neg Bool.false_ne_true,if_neg (by omega),hK,hc]
  exact if_pos rfl
 refine ⟨hE,?_,g0,hq.1,hq.2.1,hq.2.2⟩
 unfold Dk
 rw [if_pos hE,hK,hc];rfl
def jc (s:iD):iD:=match s.q.cy with
 |[]=>s
 |c :: _=>{ s with ta:=yO s.ta c.ws,q:=Dk s.q c.num }
structure gdA (s:iD):Prop where
 im:fG s.ta=0
 sz:aA s.ta=s.q.sz
 ck:l9 s.q=0
 sm:Hl s.q
 rt:s.rt=true
set_option maxRecDepth 40000 in
theorem aib {s:iD} (h:gdA s):cal env 59 [eSt s]=some [(eSt (jc s),false)]:=by
 have e1:=ah5 h.sm
 have hrt:=h.rt
 rw [bW] at e1
 cases hc:s.q.cy with
 |nil =>
  have h1:frC s.q=Hr:=by unfold frC;rw [if_pos h.ck,hc];rfl
  have h2:frO s.q=false:=by unfold frO;rw [hc];simp
  rw [h1,h2,rQ,hc,List.map_nil] at e1
  have hT:jc s=s:=by unfold jc;rw [hc]
  rw [hT,lQ]
  rw [ah ahK rfl];simp only [YM,aB,Nat.reduceBEq,Nat.reduceLeDiff,Nat.reduceAdd,List.length_cons,List.length_nil]
  simp only [hc,e1,dh,iq,kV,List.map_nil,ak,Nat.reduceMul,Nat.reduceBEq,Nat.reduceLT,Nat.reduceLeDiff,reduceCtorEq,Nat.reduceEqDiff,Nat.reduceAdd,Nat.beq]
 |cons c cs =>
  have h1:frC s.q=c:=by unfold frC;rw [if_pos h.ck,hc];rfl
  have h2:frO s.q=true:=by unfold frO;rw [hc,h.ck];rfl
  obtain ⟨p1,p2,p3,p4,p5,p6⟩:=WQ h.ck hc
  have hcy:=h.sm.c1 c (by rw [hc];simp)
  have e2:=aia (im:=s.ta) (c:=c) h.im hcy (by rw [h.sz];exact p4)
  have e3:=ah7 (n:=c.num) h.sm
  rw [p1] at e3
  rw [h1,h2] at e1
  have Z:((0:Int)==0)=true:=rfl
  have hT:eSt (jc s)=.agg ([.list 1 (s.so.map aX),.list 1 ((yO s.ta c.ws).map aX)]++(kK (Dk s.q c.num)).cells++[.int .i64 s.se,.int .i64 s.ma,.bool s.rt]):=by unfold jc;rw [hc];rfl
  rw [hT,lQ]
  rw [bW] at e3
  rw [jU] at e1 e2
  generalize Dk s.q c.num=Q at *
  rw [bW] at e3 ⊢
  generalize (yO s.ta c.ws).map aX=IM at *
  rw [ah ahK rfl];simp only [YM,aB,Nat.reduceBEq,Nat.reduceLeDiff,Nat.reduceAdd,List.length_cons,List.length_nil]
  simp only [hrt,e1,e2,e3,Z,dh,iq,kV,ak,Nat.reduceMul,Nat.reduceBEq,Nat.reduceLT,Nat.reduceLeDiff,reduceCtorEq,Nat.reduceEqDiff,Nat.reduceAdd,Nat.beq]
end Go.Proofs.YtpcncggjmabnaaaGreatDoor.V

namespace Go.Proofs.YtpcncggjmabnaaaGreatDoor.V
theorem Jq (l m:List bP):dN (l++m)=dN l+dN m:=by simp [dN]
theorem Gm {a:iw} {v:Nat}:∀ {x:List fJ},(∀ e∈x,0≤e.start∧1≤e.count∧e.start+e.count≤((a.getD v []).length:Int))→dN (Ap a v x)=QD x
 |[],_=>rfl
 |e :: x,h=>by
  have h1:=h e (by simp)
  have ih:=Gm (a:=a) (v:=v) (x:=x) fun y hy=>h y (by simp [hy])
  have e1:Ap a v (e :: x)=[Zp a v e]++Ap a v x:=rfl
  have e2:dN [Zp a v e]=e.count:=by
   simp only [dN,List.map_cons,List.map_nil,List.sum_cons,List.sum_nil,Zp,List.length_take,List.length_drop]
   omega
  rw [e1,Jq,ih,e2]
  simp [QD]
def xO (im:iw) (n:Nat):Int:=((im.take n).map fun v=>(v.length:Int)).sum
theorem BJ {im:iw} {n:Nat} (h:n<im.length):xO im (n+1)=xO im n+(im[n].length:Int):=by
 unfold xO
 rw [List.take_succ_eq_append_getElem h,List.map_append,List.sum_append];simp
theorem WR {im:iw} (h:∀ v∈im,v.length≤400):∀ n,n≤im.length→0≤xO im n∧xO im n≤400 * (n:Int)
 |0,_=>by simp [xO]
 |n+1,hn=>by
  have:=WR h n (by omega)
  have:=h _ (List.getElem_mem (show n<im.length by omega))
  rw [BJ (by omega)]
  omega
theorem WS {s:kJ} {im:iw} (h:yG s.dt s.sz=true) (hs:Hy im s.sz=true) (hi:smI im):∀ n,n≤im.length→dN (FX im (s.dt.map qo) n)≤xO im n
 |0,_=>by simp [FX,dN,xO]
 |n+1,hn=>by
  have ih:=WS h hs hi n (by omega)
  have hz:=wF h
  have e:=DT.1 hs
  have hl:s.dt.length=im.length:=by rw [hz.1,← e];simp [aA]
  have hv:n<s.dt.length:=by omega
  have Hu:n<im.length:=by omega
  obtain ⟨k1,k2⟩:=hz.2 n hv
  have hsz:s.dt[n].size=(im[n].length:Int):=by
   rw [k2,← e]
   simp [aA,List.getD_eq_getElem?_getD,Hu]
  have e2:(s.dt.map qo).getD n []=ext (bit s.dt[n].ws) im[n].length:=by
   rw [List.getD_eq_getElem?_getD,List.getElem?_map,List.getElem?_eq_getElem hv]
   show qo s.dt[n]=_
   unfold qo wz
   rw [if_pos k1,hsz];rfl
  rw [wG,Jq,BJ Hu,e2,Gm (fun x hx=>by
   have:=Bq _ _ x hx
   have e3:im.getD n []=im[n]:=by simp [Hu]
   rw [e3];exact this),Wi]
  have:((List.range im[n].length).filter (bit s.dt[n].ws)).length≤im[n].length:=by
   have:=List.length_filter_le (bit s.dt[n].ws) (List.range im[n].length)
   rw [List.length_range] at this;exact this
  omega
def iL (s:iD):iD:=if s.q.ov then { s with q:=U2 s.q s.so 7 } else s
structure gdD (s:iD):Prop where
 im:fG s.so=0
 sz:aA s.so=s.q.sz
 ck:l9 s.q=0
 sm:Hl s.q
 vo:∀ v∈s.so,v.length≤400
 rt:s.rt=true
theorem aeu {s:iD} (h:gdD s) (ho:s.q.ov=true):QI s.q s.so 7=0∧smI s.so∧yG s.q.dt s.q.sz=true∧Hy s.so s.q.sz=true:=by
 obtain ⟨k1,k2,k3⟩:=qZ h.ck
 have hI:=DT.2 h.sz
 rcases k3 with ⟨_,g1,g2,g3⟩|⟨g,_⟩
 ·refine ⟨?_,⟨by have:=(pW h.im).1;omega,h.vo⟩,g3,hI⟩
  unfold QI
  rw [if_pos h.ck,if_pos h.im,if_pos ho,if_pos hI,if_neg (by decide)]
 ·rw [ho] at g;cases g
theorem akJ {s:iD} {X2 X3:List BV} (hv:∀ v∈s.so,v.length≤400) (hl:s.so.length≤10) {st:St} (h:st.head [1,2,4,6,7] st.boxes.length=some ⟨sl 57 [(1,.aI 0 0),(2,.aI 1 0),(4,.aI 3 0),(6,.pv (.int .i64 (xO s.so ((0:Nat))))),(7,.pv (.int .i64 (0:Nat)))],[⟨false,Nw s⟩,⟨false,QZ⟩,⟨false,X2⟩,⟨false,X3⟩],[],none⟩) :
  den env KZ st=some (.normal,⟨sl 57 [(1,.aI 0 0),(2,.aI 1 0),(4,.aI 3 0),(6,.pv (.int .i64 (xO s.so s.so.length)))],[⟨false,Nw s⟩,⟨false,QZ⟩,⟨false,X2⟩,⟨false,X3⟩],[],none⟩):=by
 unfold KZ
 refine bC (env:=env) (nb:=4) (s.so.length) (fun i=>⟨sl 57 [(1,.aI 0 0),(2,.aI 1 0),(4,.aI 3 0),(6,.pv (.int .i64 (xO s.so (i)))),(7,.pv (.int .i64 i))],[⟨false,Nw s⟩,⟨false,QZ⟩,⟨false,X2⟩,⟨false,X3⟩],[],none⟩) (fun i=>some (.normal,⟨sl 57 [(1,.aI 0 0),(2,.aI 1 0),(4,.aI 3 0),(6,.pv (.int .i64 (xO s.so s.so.length)))],[⟨false,Nw s⟩,⟨false,QZ⟩,⟨false,X2⟩,⟨false,X3⟩],[],none⟩)) h (fun _=>rfl) (fun _=>by simp only [aB,bg,Nat.reduceMul,Nat.reduceBEq,Nat.reduceLT,Nat.reduceLeDiff,Nat.reduceAdd,decide_true,Bool.and_self,Bool.true_and]) ?_ ?_
 ·intro i rb hi ih
  have hi1:=bG hi (by unfold lim;omega)
  have F1:((i:Int)<(s.so.length:Int))=True:=eq_true (by omega)
  have hx:=xG hi
  have ht:=WR hv i (by omega)
  have hh:=hv _ (List.getElem_mem hi)
  have W:IntKind.i64.wrap (xO s.so i+(s.so[i].length:Int))=xO s.so (i+1):=by rw [BJ hi];exact bf (by omega)
  simp only [KY,F1,hx,W,fH,fB,au hi,List.length_map,ak,Nat.reduceMul,Nat.reduceBEq,Nat.reduceLT,Nat.reduceLeDiff,reduceCtorEq,Nat.reduceEqDiff,Nat.reduceAdd,Nat.beq]
  rw [ih _ (by simp only [hi1,fH,fB,ak,Nat.reduceMul,Nat.reduceBEq,Nat.reduceLT,Nat.reduceLeDiff,reduceCtorEq,Nat.reduceEqDiff,Nat.reduceAdd,Nat.beq]<;>rfl)]
  rfl
 ·intro rb
  simp only [KY,Int.lt_irrefl,fH,fB,List.length_map,ak,Nat.reduceMul,Nat.reduceBEq,Nat.reduceLT,Nat.reduceLeDiff,reduceCtorEq,Nat.reduceEqDiff,Nat.reduceAdd,Nat.beq]
set_option maxRecDepth 40000 in
theorem aic {s:iD} (h:gdD s):cal env 60 [eSt s]=some [(eSt (iL s),false)]:=by
 have hrt:=h.rt
 cases ho:s.q.ov with
 |false =>
  have hT:iL s=s:=by unfold iL;rw [ho,if_neg Bool.false_ne_true]
  rw [hT,lQ]
  rw [ah ahL rfl];simp only [YN,aB,Nat.reduceBEq,Nat.reduceLeDiff,Nat.reduceAdd,List.length_cons,List.length_nil]
  simp only [ho,kV,ak,Nat.reduceMul,Nat.reduceBEq,Nat.reduceLT,Nat.reduceLeDiff,reduceCtorEq,Nat.reduceEqDiff,Nat.reduceAdd,Nat.beq]
 |true =>
  obtain ⟨d1,d2,d3,d4⟩:=aeu h ho
  have e1:=am5 (t:=7) h.sm d2
  obtain ⟨w1,w2⟩:=U3 d3 d4 d2
  have hC:adT s.q s.so 7=ru s.q s.so 7:=by unfold adT;rw [if_pos d1]
  have hE:eP (ru s.q s.so 7)=.agg [.int .i64 s.q.fs,.int .i64 s.q.ls,.int .i64 7,.list 1 [],.list 3 ((DR s.so (s.q.dt.map qo)).map dZ)]:=rfl
  rw [d1,hC,hE] at e1
  have e2:=amZ (l:=DR s.so (s.q.dt.map qo)) w2 (by omega)
  have hlen:(s.q.dt.map qo).length=s.so.length:=by
   rw [List.length_map,(wF d3).1,← h.sz];simp [aA]
  have hle:=WS d3 d4 d2 s.so.length (Nat.le_refl _)
  have L:(dN (DR s.so (s.q.dt.map qo))≤xO s.so s.so.length)=True:=eq_true (by unfold DR;rw [hlen];exact hle)
  have hT:eSt (iL s)=.agg ([.list 1 (s.so.map aX),.list 1 (s.ta.map aX)]++(kK (U2 s.q s.so 7)).cells++[.int .i64 s.se,.int .i64 s.ma,.bool s.rt]):=by unfold iL;rw [ho,if_pos rfl];rfl
  have Z:((0:Int)==0)=true:=rfl
  rw [hT,lQ]
  rw [bW,ho] at e1
  have hb:∀ Q:kJ,Nw { s with q:=Q }=[.pv (.list 1 (s.so.map aX)),.pv (.list 1 (s.ta.map aX)),.pv (.int .i64 Q.lm),.pv (.list 1 (Q.sz.map eI)),.pv (.list 5 (Q.cy.map eP)),.pv (.bool Q.ov),.pv (.int .i64 Q.fs),.pv (.int .i64 Q.ls),.pv (.list 2 (Q.dt.map iW)),.pv (.int .i64 s.se),.pv (.int .i64 s.ma),.pv (.bool s.rt)]:=fun _=>rfl
  generalize U2 s.q s.so 7=Q at *
  rw [bW] at e1 ⊢
  generalize hW:(DR s.so (s.q.dt.map qo)).map dZ=WW at *
  generalize dN (DR s.so (s.q.dt.map qo))=SS at *
  rw [ah ahL rfl];simp only [YN,aB,Nat.reduceBEq,Nat.reduceLeDiff,Nat.reduceAdd,List.length_cons,List.length_nil]
  simp only [ho,hrt,e1,Z,dh,iq,kV,ak,Nat.reduceMul,Nat.reduceBEq,Nat.reduceLT,Nat.reduceLeDiff,reduceCtorEq,Nat.reduceEqDiff,Nat.reduceAdd,Nat.beq]
  rw [akJ (s:={ s with q:=Q }) h.vo (by have:=d2.ln;exact this) (by simp only [hb,hrt,fB,show xO s.so 0=0 from rfl];simp only [aB,bg,Nat.reduceMul,Nat.reduceBEq,Nat.reduceLT,Nat.reduceLeDiff,Nat.reduceAdd,decide_true,Bool.and_self,Bool.true_and]<;>rfl)]
  simp only [fH,hrt,e2,L,kV,fB,ak,Nat.reduceMul,Nat.reduceBEq,Nat.reduceLT,Nat.reduceLeDiff,reduceCtorEq,Nat.reduceEqDiff,Nat.reduceAdd,Nat.beq]
end Go.Proofs.YtpcncggjmabnaaaGreatDoor.V

namespace Go.Proofs.YtpcncggjmabnaaaGreatDoor.V
def jL (im:iw) (v s:Nat):fM:=(im.getD v []).getD s vF
theorem aev (l:List fM) (d:List fM) {a:Nat} (h:a+d.length≤l.length) (s:Nat):(putAt l a d).getD s vF=if a≤s∧s<a+d.length then d.getD (s - a) vF else l.getD s vF:=by
 unfold putAt
 simp only [List.getD_eq_getElem?_getD]
 by_cases c1:s<a
 ·rw [if_neg (by omega),List.append_assoc,List.getElem?_append_left (by rw [List.length_take];omega),List.getElem?_take,if_pos c1]
 ·by_cases c2:s<a+d.length
  ·rw [if_pos ⟨by omega,c2⟩,List.getElem?_append_left (by rw [List.length_append,List.length_take];omega),List.getElem?_append_right (by rw [List.length_take];omega),List.length_take,show min a l.length=a by omega]
  ·rw [if_neg (by omega),List.getElem?_append_right (by rw [List.length_append,List.length_take];omega),List.length_append,List.length_take,show min a l.length=a by omega,List.getElem?_drop,show a+d.length+(s - (a+d.length))=s by omega]
theorem aho {im:iw} {w:bP} (h:aV im w=0) (v s:Nat):jL (qJ im w) v s=if pJ w (v:Int) (s:Int) then w.data.getD (wH w (v:Int) (s:Int)).toNat vF else jL im v s:=by
 obtain ⟨q1,q2,q3,q4⟩:=lF h
 have hv:w.volume.toNat<im.length:=by omega
 have e:im.getD w.volume.toNat []=im[w.volume.toNat]:=by simp [hv]
 rw [e] at q4
 unfold jL qJ
 by_cases c:w.volume=(v:Int)
 ·have cv:w.volume.toNat=v:=by omega
  have e2:(im.set w.volume.toNat (putAt (im.getD w.volume.toNat []) w.start.toNat w.data)).getD v []=putAt (im.getD v []) w.start.toNat w.data:=by
   rw [cv,List.getD_eq_getElem?_getD,List.getElem?_set_self (by rw [← cv];exact hv)];rfl
  rw [e2,aev _ _ (by rw [← cv,e];omega)]
  unfold wH pJ MW
  by_cases d:w.start.toNat≤s∧s<w.start.toNat+w.data.length
  ·rw [if_pos d,decide_eq_true c,decide_eq_true (show w.data.length≠0 by omega),decide_eq_true (show w.start≤(s:Int) by omega),decide_eq_true (show (s:Int) - w.start<(w.data.length:Int) by omega)]
   simp only [Bool.and_self,if_true]
   congr 1
   omega
  ·rw [if_neg d]
   have hb:(decide (w.volume=(v:Int))&&(decide (w.data.length≠0)&&decide (w.start≤(s:Int)))&&decide ((s:Int) - w.start<(w.data.length:Int)))=false:=by
    rw [Bool.eq_false_iff]
    intro hh
    simp only [Bool.and_eq_true,decide_eq_true_eq] at hh
    omega
   rw [hb,if_neg Bool.false_ne_true]
 ·have hb:pJ w (v:Int) (s:Int)=false:=by unfold pJ MW;rw [decide_eq_false c];rfl
  have cv:w.volume.toNat≠v:=by omega
  have e2:(im.set w.volume.toNat (putAt (im.getD w.volume.toNat []) w.start.toNat w.data)).getD v []=im.getD v []:=by
   simp only [List.getD_eq_getElem?_getD]
   rw [List.getElem?_set,if_neg cv]
  rw [hb,if_neg Bool.false_ne_true,e2]
theorem Vo {im:iw} {w:bP} (h:aV im w=0):aA (qJ im w)=aA im:=by
 obtain ⟨q1,q2,q3,q4⟩:=lF h
 have hv:w.volume.toNat<im.length:=by omega
 have e:im.getD w.volume.toNat []=im[w.volume.toNat]:=by simp [hv]
 rw [e] at q4
 unfold aA qJ
 rw [List.map_set]
 have:((putAt (im.getD w.volume.toNat []) w.start.toNat w.data).length:Int)=(im.map fun v=>(v.length:Int))[w.volume.toNat]'(by rw [List.length_map];exact hv):=by
  rw [List.getElem_map,e]
  unfold putAt
  rw [List.length_append,List.length_append,List.length_take,List.length_drop]
  omega
 rw [this]
 exact List.set_getElem_self _
theorem rC {a b:iw} (h:aA a=aA b) (w:bP):aV a w=aV b w:=by
 have hl:a.length=b.length:=by
  have:=congrArg List.length h
  simpa [aA] using this
 have hv:(a.getD w.volume.toNat []).length=(b.getD w.volume.toNat []).length:=by
  have h1:=congrArg (fun l:List Int=>l.getD w.volume.toNat 0) h
  simp only [aA,List.getD_eq_getElem?_getD,List.getElem?_map] at h1 ⊢
  by_cases c:w.volume.toNat<a.length
  ·have c2:w.volume.toNat<b.length:=by omega
   rw [List.getElem?_eq_getElem c,List.getElem?_eq_getElem c2] at h1 ⊢
   simp only [Option.map_some,Option.getD_some] at h1 ⊢
   omega
  ·rw [List.getElem?_eq_none (by omega),List.getElem?_eq_none (by omega)]
 unfold aV
 rw [hl,hv]
theorem Gn (v s:Int):∀ a b:List bP,(∀ w∈a,pJ w v s=true→(w.data[(wH w v s).toNat]?).isSome=true)→qw v s (a++b)=(qw v s a).or (qw v s b)
 |[],b,_=>by simp [qw]
 |w :: a,b,h=>by
  rw [List.cons_append,qw,qw]
  cases c:pJ w v s with
  |true =>
   rw [if_pos rfl,if_pos rfl]
   have:=h w (by simp) c
   cases e:w.data[(wH w v s).toNat]? with
   |none=>rw [e] at this;cases this
   |some x=>rfl
  |false =>
   rw [if_neg Bool.false_ne_true,if_neg Bool.false_ne_true]
   exact Gn v s a b fun x hx=>h x (by simp [hx])
theorem Q7 {w:bP} {v s:Int} (h:pJ w v s=true):(w.data[(wH w v s).toNat]?).isSome=true:=by
 rw [List.getElem?_eq_getElem (FY h).1];rfl
theorem Jr (w:bP) (l:List bP) (v s:Int):sS (w :: l) v s=(sS l v s).or (qw v s [w]):=by
 unfold sS
 rw [List.reverse_cons,Gn v s _ _ fun x _ h=>Q7 h]
theorem fold_at:∀ (ws:List bP) {im:iw},(∀ w∈ws,aV im w=0)→(∀ v s:Nat,jL (ws.foldl qJ im) v s=(sS ws (v:Int) (s:Int)).getD (jL im v s))∧aA (ws.foldl qJ im)=aA im
 |[],im,_=>⟨fun v s=>rfl,rfl⟩
 |w :: ws,im,h=>by
  have h1:=h w (by simp)
  have hs:=Vo h1
  obtain ⟨i1,i2⟩:=fold_at ws (im:=qJ im w) fun x hx=>by rw [rC hs];exact h x (by simp [hx])
  refine ⟨fun v s=>?_,i2.trans hs⟩
  rw [List.foldl_cons,i1 v s,Jr,aho h1]
  cases sS ws (v:Int) (s:Int) with
  |some x=>rfl
  |none =>
   rw [Option.none_or,qw]
   cases c:pJ w (v:Int) (s:Int) with
   |true =>
    rw [if_pos rfl,if_pos rfl,List.getElem?_eq_getElem (FY c).1]
    simp [List.getD_eq_getElem?_getD,List.getElem?_eq_getElem (FY c).1]
   |false=>rw [if_neg Bool.false_ne_true,if_neg Bool.false_ne_true];rfl
theorem aew (a b:List bP) (v s:Int):sS (a++b) v s=(sS b v s).or (sS a v s):=by
 unfold sS
 rw [List.reverse_append,Gn v s _ _ fun x _ h=>Q7 h]
theorem WT {v:Nat} {f:Nat→fM} {g:fJ→bP} (s:Nat):∀ es:List fJ,(∀ e∈es,(0≤e.start∧1≤e.count)∧(g e).volume=(v:Int)∧(g e).start=e.start∧(g e).data.length=e.count.toNat∧∀ k,k<e.count.toNat→(g e).data[k]?=some (f (e.start.toNat+k)))→sS (es.map g) (v:Int) (s:Int)=if jQ es s then some (f s) else none
 |[],_=>rfl
 |e :: es,h=>by
  obtain ⟨⟨h0,h1⟩,h2,h3,h4,h5⟩:=h e (by simp)
  have ih:=WT (v:=v) (f:=f) (g:=g) s es fun x hx=>h x (by simp [hx])
  rw [List.map_cons,Jr,ih]
  have hi:jQ (e :: es) s=(Ji e s || jQ es s):=rfl
  rw [hi]
  cases c:jQ es s with
  |true=>rw [if_pos rfl,Bool.or_true,if_pos rfl];rfl
  |false =>
   rw [if_neg Bool.false_ne_true,Bool.or_false,Option.none_or,qw]
   have hb:pJ (g e) (v:Int) (s:Int)=Ji e s:=by
    unfold pJ MW Ji
    rw [h2,h3,h4,decide_eq_true (show (v:Int)=(v:Int) from rfl),Bool.true_and,Bool.eq_iff_iff]
    simp only [Bool.and_eq_true,decide_eq_true_eq]
    constructor
    ·rintro ⟨⟨a1,a2⟩,a3⟩
     exact ⟨by omega,a2,by omega⟩
    ·rintro ⟨a1,a2,a3⟩
     exact ⟨⟨by omega,a2⟩,by omega⟩
   rw [hb]
   cases d:Ji e s with
   |false=>rw [if_neg Bool.false_ne_true,if_neg Bool.false_ne_true];rfl
   |true =>
    have hk:=FY (w:=g e) (v:=(v:Int)) (s:=(s:Int)) (by rw [hb];exact d)
    rw [if_pos rfl,if_pos rfl]
    rw [h4] at hk
    have hn:wH (g e) (v:Int) (s:Int)=(s:Int) - e.start:=by
     rw [hb.symm] at d
     unfold pJ at d
     simp only [Bool.and_eq_true,decide_eq_true_eq] at d
     unfold wH
     rw [if_pos d.1,h3]
    rw [h5 _ hk.1]
    congr 2
    rw [hn] at hk ⊢
    omega
theorem aex {l:List bP} {v s:Int} (h:∀ w∈l,w.volume≠v):sS l v s=none:=by
 have:∀ m:List bP,(∀ w∈m,w.volume≠v)→qw v s m=none:=by
  intro m
  induction m with
  |nil=>intro _;rfl
  |cons w m ih =>
   intro hm
   have hb:pJ w v s=false:=by unfold pJ MW;rw [decide_eq_false (hm w (by simp))];rfl
   rw [qw,hb,if_neg Bool.false_ne_true]
   exact ih fun x hx=>hm x (by simp [hx])
 exact this _ fun w hw=>h w (List.mem_reverse.1 hw)
theorem WU {im:iw} {X:List (List fJ)} (h:QH im X) (v s:Nat):∀ n,n≤X.length→sS (FX im X n) (v:Int) (s:Int)=if v<n∧jQ (X.getD v []) s=true then some (jL im v s) else none
 |0,_=>by rw [if_neg (by omega)];rfl
 |n+1,hn=>by
  rw [wG,aew,WU h v s n (by omega)]
  by_cases c:v=n
  ·subst c
   have hv:v<X.length:=by omega
   have e1:X.getD v []=X[v]:=by simp [hv]
   rw [if_neg (show ¬ (v<v∧jQ (X.getD v []) s=true) by omega)]
   unfold Ap
   rw [WT (v:=v) (f:=fun k=>jL im v k) s (X.getD v []) (fun e he=>by
    rw [e1] at he
    obtain ⟨q1,q2,q3⟩:=h.fx v hv e he
    have hl:(Zp im v e).data.length=e.count.toNat:=by
     show (((im.getD v []).drop e.start.toNat).take e.count.toNat).length=_
     rw [List.length_take,List.length_drop];omega
    refine ⟨⟨q1,q2⟩,rfl,rfl,hl,fun k hk=>?_⟩
    show (((im.getD v []).drop e.start.toNat).take e.count.toNat)[k]?=_
    rw [List.getElem?_take,if_pos hk,List.getElem?_drop]
    unfold jL
    have hlt:e.start.toNat+k<(im.getD v []).length:=by omega
    rw [List.getElem?_eq_getElem hlt,List.getD_eq_getElem?_getD (l:=im.getD v []),List.getElem?_eq_getElem hlt];rfl)]
   cases jQ (X.getD v []) s with
   |true=>rw [if_pos rfl,if_pos ⟨by omega,rfl⟩];rfl
   |false=>rw [if_neg Bool.false_ne_true,if_neg (by simp)];rfl
  ·rw [aex (l:=Ap im n (X.getD n [])) (fun w hw=>by
    unfold Ap at hw
    obtain ⟨e,_,rfl⟩:=List.mem_map.1 hw
    show (n:Int)≠(v:Int)
    omega),Option.none_or]
   by_cases d:v<n
   ·cases jQ (X.getD v []) s with
    |true=>rw [if_pos ⟨d,rfl⟩,if_pos ⟨by omega,rfl⟩]
    |false=>rw [if_neg (by simp),if_neg (by simp)]
   ·rw [if_neg (by omega),if_neg (by omega)]
end Go.Proofs.YtpcncggjmabnaaaGreatDoor.V

namespace Go.Proofs.YtpcncggjmabnaaaGreatDoor.V
theorem Ah {im:iw} {l:List bP} (h:Rh im l=0):yO im l=l.foldl qJ im:=by unfold yO;rw [if_pos h]
def tgt (s:iD):iw:=s.q.cy.foldl (fun im c=>c.ws.foldl qJ im) s.ta
structure NG (s:iD):Prop where
 so:fG s.so=0
 sz:aA s.so=s.q.sz
 tz:aA s.ta=s.q.sz
 ck:l9 s.q=0
 sm:Hl s.q
 vo:∀ v∈s.so,v.length≤400
 rt:s.rt=true
 qu:s.q.ov=false→tgt s=s.so
 dr:s.q.ov=true→∀ v n:Nat,v<s.so.length→jL s.so v n≠jL s.ta v n→∃ b,s.q.dt[v]?=some b∧bit b.ws n=true
theorem WV {l:List bP} {v n:Nat} (h:jQ (nG (v:Int) l) n=false):sS l (v:Int) (n:Int)=none:=by
 have hh:∀ w∈l,pJ w (v:Int) (n:Int)=false:=fun w hw=>by
  cases c:pJ w (v:Int) (n:Int) with
  |false=>rfl
  |true =>
   unfold pJ MW at c
   simp only [Bool.and_eq_true,decide_eq_true_eq] at c
   have hm:(⟨w.start,(w.data.length:Int)⟩:fJ)∈nG (v:Int) l:=by
    unfold nG
    exact List.mem_map.2 ⟨w,List.mem_filter.2 ⟨hw,by simpa using c.1.1⟩,rfl⟩
   unfold jQ at h
   rw [List.any_eq_false] at h
   have:=h _ hm
   unfold Ji at this
   simp only [Bool.and_eq_true,decide_eq_true_eq] at this
   omega
 have:∀ m:List bP,(∀ w∈m,pJ w (v:Int) (n:Int)=false)→qw (v:Int) (n:Int) m=none:=by
  intro m
  induction m with
  |nil=>intro _;rfl
  |cons w m ih =>
   intro hm
   rw [qw,hm w (by simp),if_neg Bool.false_ne_true]
   exact ih fun x hx=>hm x (by simp [hx])
 exact this _ fun w hw=>hh w (List.mem_reverse.1 hw)
theorem WX {z:List Int} {l:List Bm} {ws:List bP} (h:Wu z l) (hw:ny z ws) {v:Nat} (hv:v<l.length):∃ b,(Gz ws l)[v]?=some b∧∀ n:Nat,(n:Int)<z.getD v 0→bit b.ws n=(bit l[v].ws n || jQ (nG (v:Int) ws) n):=by
 obtain ⟨h1,h2⟩:=h.2 v hv
 have h3:=jy h1
 obtain ⟨_,k1⟩:=UR h hw v hv
 obtain ⟨u1,u2⟩:=DL ⟨h3.1,h3.2.1⟩ k1
 obtain ⟨g1,g2,g3,g4⟩:=Wj (lG (v:Int) ws) h1 u1
 refine ⟨DJ l[v] (lG (v:Int) ws),?_,fun n hn=>?_⟩
 ·unfold Gz
  rw [List.getElem?_mapIdx,List.getElem?_eq_getElem hv];rfl
 ·rw [g4 n (by rw [h2];exact hn),u2 n]
theorem aey {s:iD} {so:iw} {q:kJ} {c:jk} (h:q.cy=s.q.cy++[c]) {c':jk} (hc:c'=c):tgt { s with so:=so,q:=q }=c'.ws.foldl qJ (tgt s):=by
 subst hc
 unfold tgt
 show q.cy.foldl _ s.ta=_
 rw [h,List.foldl_append];rfl
theorem aez {s:iD} {x:jC} (h:NG s) (hx:gdE x) (hls:s.q.ls≤900000) (ho:(jD s x).q.ov=false):tgt (jD s x)=(jD s x).so:=by
 have hg:gdP s:=⟨h.so,h.sz,h.ck,h.sm,h.vo,by omega,h.rt⟩
 obtain ⟨c1,c2,c3⟩:=sW hg hx
 obtain ⟨p1,p2,p3,p4,p5,p6,p7,p8,p9⟩:=Gl c3
 obtain ⟨a1,_⟩:=Jp h.so (by rw [h.sz];exact c2)
 have ho':(gB s.q (gG s x)).ov=false:=ho
 have h0:s.q.ov=false:=by
  rw [p6] at ho'
  cases e:s.q.ov with
  |false=>rfl
  |true=>rw [e] at ho';cases ho'
 have e1:=p7 ho'
 show tgt { s with so:=yO s.so (gG s x).ws,q:=gB s.q (gG s x) }=yO s.so (gG s x).ws
 rw [aey (c:=gG s x) e1 rfl,h.qu h0,Ah a1]
theorem xK {im:iw} {v n:Nat} (h:(im.getD v []).length≤n):jL im v n=vF:=by
 unfold jL
 rw [List.getD_eq_getElem?_getD,List.getElem?_eq_none h];rfl
theorem Ai {a b:iw} (h:aA a=aA b) (v:Nat):(a.getD v []).length=(b.getD v []).length:=by
 have h1:=congrArg (fun l:List Int=>l.getD v 0) h
 simp only [aA,List.getD_eq_getElem?_getD,List.getElem?_map] at h1 ⊢
 cases e1:a[v]? with
 |none =>
  cases e2:b[v]? with
  |none=>rfl
  |some y=>rw [e1,e2] at h1;simp only [Option.map_none,Option.getD_none,Option.map_some,Option.getD_some,List.length_nil] at h1 ⊢;omega
 |some x =>
  cases e2:b[v]? with
  |none=>rw [e1,e2] at h1;simp only [Option.map_none,Option.getD_none,Option.map_some,Option.getD_some,List.length_nil] at h1 ⊢;omega
  |some y=>rw [e1,e2] at h1;simp only [Option.map_some,Option.getD_some] at h1 ⊢;omega
theorem aeA {s:iD} {x:jC} (h:NG s) (hx:gdE x) (hls:s.q.ls≤900000) (ho:s.q.ov=true):∀ v n:Nat,v<s.so.length→jL (jD s x).so v n≠jL s.ta v n→∃ b,(jD s x).q.dt[v]?=some b∧bit b.ws n=true:=by
 have hg:gdP s:=⟨h.so,h.sz,h.ck,h.sm,h.vo,by omega,h.rt⟩
 obtain ⟨c1,c2,c3⟩:=sW hg hx
 obtain ⟨a1,_,hw,hf⟩:=Jp h.so (by rw [h.sz];exact c2)
 rw [h.sz] at hw
 obtain ⟨k1,k2,k3⟩:=qZ h.ck
 rcases k3 with ⟨_,g1,g2,g3⟩|⟨g,_⟩
 rotate_left
 ·rw [ho] at g;cases g
 have hz:=wF g3
 intro v n hv hne
 have hdl:v<s.q.dt.length:=by rw [hz.1,← h.sz];simpa [aA] using hv
 obtain ⟨f1,f2⟩:=fold_at (gG s x).ws hf
 have hso:(jD s x).so=(gG s x).ws.foldl qJ s.so:=Ah a1
 have hq:(jD s x).q.dt=Gz (gG s x).ws s.q.dt:=by
  show (gB s.q (gG s x)).dt=_
  unfold gB
  rw [if_pos c3,if_pos ho]
 obtain ⟨b,hb,hbit⟩:=WX hz hw hdl
 rw [hq]
 refine ⟨b,hb,?_⟩
 have hzv:s.q.sz.getD v 0=((s.so.getD v []).length:Int):=by
  rw [← h.sz]
  simp [aA,List.getD_eq_getElem?_getD,hv]
 have hn:n<(s.so.getD v []).length:=by
  refine Nat.lt_of_not_le fun hle=>hne ?_
  rw [hso,xK (by rw [Ai f2 v];exact hle),xK (by rw [Ai (h.tz.trans h.sz.symm) v];exact hle)]
 rw [hbit n (by rw [hzv];omega)]
 cases ci:jQ (nG (v:Int) (gG s x).ws) n with
 |true=>rw [Bool.or_true]
 |false =>
  rw [hso,f1 v n,WV ci] at hne
  obtain ⟨b0,hb0,hbt⟩:=h.dr ho v n hv hne
  rw [List.getElem?_eq_getElem hdl] at hb0
  cases hb0
  rw [hbt];rfl
theorem Gp {z:List Int} {v n:Nat} (hn:(n:Int)<z.getD v 0):∀ (cs:List jk) {l:List Bm} {im:iw},Wu z l→(hv:v<l.length)→(∀ c∈cs,ny z c.ws∧∀ w∈c.ws,aV im w=0)→(jL (cs.foldl (fun im c=>c.ws.foldl qJ im) im) v n≠jL im v n∨bit l[v].ws n=true)→∃ b,(zX l cs)[v]?=some b∧bit b.ws n=true
 |[],l,im,_,hv,_,h=>by
  rcases h with h|h
  ·exact absurd rfl h
  ·exact ⟨l[v],List.getElem?_eq_getElem hv,h⟩
 |c :: cs,l,im,hz,hv,hf,h=>by
  obtain ⟨f1,f2⟩:=hf c (by simp)
  obtain ⟨b,hb,hbit⟩:=WX hz f1 hv
  have hz2:=adK hz f1
  have hv2:v<(Gz c.ws l).length:=by rw [hz2.1,← hz.1];exact hv
  have eb:(Gz c.ws l)[v]=b:=by rw [List.getElem?_eq_getElem hv2] at hb;exact Option.some.inj hb
  obtain ⟨g1,g2⟩:=fold_at c.ws f2
  refine Gp hn cs (l:=Gz c.ws l) (im:=c.ws.foldl qJ im) hz2 hv2 (fun y hy=>⟨(hf y (by simp [hy])).1,fun w hw=>by rw [rC g2];exact (hf y (by simp [hy])).2 w hw⟩) ?_
  rw [eb,hbit n hn]
  cases ci:jQ (nG (v:Int) c.ws) n with
  |true=>exact .inr (Bool.or_true _)
  |false =>
   rcases h with h|h
   ·refine .inl ?_
    rw [g1 v n,WV ci]
    exact h
   ·exact .inr (by rw [h];rfl)
theorem ahp {im:iw} {z:List Int} {c:jk} (hs:aA im=z) (h:wE z c=0):∀ w∈c.ws,aV im w=0:=by
 obtain ⟨_,_,h3⟩:=FU h
 intro w hw
 have k:=zY h3 w hw
 rw [← hs] at k
 unfold aV at k ⊢
 have e1:(bn (aA im)).length=im.length:=by rw [iV];simp [aA]
 have e2:((bn (aA im)).getD w.volume.toNat []).length=(im.getD w.volume.toNat []).length:=by
  by_cases c:w.volume.toNat<im.length
  ·simp [bn,aA,List.getD_eq_getElem?_getD,c]
  ·simp [bn,aA,List.getD_eq_getElem?_getD,Nat.le_of_not_lt c]
 rw [e1,e2] at k
 exact k
theorem aeB {s:iD} {x:jC} (h:NG s) (hx:gdE x) (hls:s.q.ls≤900000) (h0:s.q.ov=false) (ho:(jD s x).q.ov=true):∀ v n:Nat,v<s.so.length→jL (jD s x).so v n≠jL s.ta v n→∃ b,(jD s x).q.dt[v]?=some b∧bit b.ws n=true:=by
 have hg:gdP s:=⟨h.so,h.sz,h.ck,h.sm,h.vo,by omega,h.rt⟩
 obtain ⟨c1,c2,c3⟩:=sW hg hx
 obtain ⟨a1,_,hw,hf⟩:=Jp h.so (by rw [h.sz];exact c2)
 obtain ⟨k1,k2,k3⟩:=qZ h.ck
 rcases k3 with ⟨g,_⟩|⟨_,g1,g2,g3⟩
 ·rw [h0] at g;cases g
 have hlt:¬ (s.q.cy.length:Int)<s.q.lm:=by
  obtain ⟨_,_,_,_,_,p6,_⟩:=Gl c3
  have:(gB s.q (gG s x)).ov=true:=ho
  rw [p6,h0,Bool.false_or,decide_eq_true_eq] at this
  omega
 have hq:(jD s x).q.dt=zX (s.q.sz.map og) (s.q.cy++[gG s x]):=by
  show (gB s.q (gG s x)).dt=_
  unfold gB
  rw [if_pos c3,if_neg (by rw [h0];exact Bool.false_ne_true)]
  unfold UW
  rw [if_neg hlt]
 have hso:(jD s x).so=(s.q.cy++[gG s x]).foldl (fun im c=>c.ws.foldl qJ im) s.ta:=by
  rw [List.foldl_append]
  show yO s.so (gG s x).ws=_
  rw [Ah a1,← h.qu h0];rfl
 intro v n hv hne
 have hzl:s.q.sz.length=s.so.length:=by rw [← h.sz];simp [aA]
 have hz:=adL (uQ k1)
 have hzv:s.q.sz.getD v 0=((s.so.getD v []).length:Int):=by
  rw [← h.sz]
  simp [aA,List.getD_eq_getElem?_getD,hv]
 have hsz2:aA (jD s x).so=aA s.so:=Ny a1
 have hn:n<(s.so.getD v []).length:=by
  refine Nat.lt_of_not_le fun hle=>hne ?_
  rw [xK (by rw [Ai hsz2 v];exact hle),xK (by rw [Ai (h.tz.trans h.sz.symm) v];exact hle)]
 rw [hq]
 rw [hso] at hne
 refine Gp (z:=s.q.sz) (by rw [hzv];omega) _ hz (by rw [List.length_map];omega) (fun c hc=>?_) (.inl hne)
 have hck:wE s.q.sz c=0:=by
  rcases List.mem_append.1 hc with e|e
  ·exact DN g3 c e
  ·rw [List.mem_singleton.1 e];exact c2
 exact ⟨zZ hck,ahp h.tz hck⟩
theorem ahq {s:iD} {x:jC} (h:NG s) (hx:gdE x) (hls:s.q.ls≤900000) (hlm:s.q.lm≤900):NG (jD s x)∧(jD s x).q.ls≤s.q.ls+3∧(jD s x).q.lm=s.q.lm∧(jD s x).q.sz=s.q.sz:=by
 have hg:gdP s:=⟨h.so,h.sz,h.ck,h.sm,h.vo,by omega,h.rt⟩
 obtain ⟨g1,g2,g3⟩:=aes hg hx hlm hls
 obtain ⟨c1,c2,c3⟩:=sW hg hx
 obtain ⟨p1,p2,p3,_⟩:=Gl c3
 have hl:(jD s x).so.length=s.so.length:=by
  have e:aA (jD s x).so=aA s.so:=by rw [g1.sz,g3,p2,h.sz]
  have:=congrArg List.length e
  simpa [aA] using this
 refine ⟨⟨g1.im,g1.sz,by rw [g3,p2];exact h.tz,g1.ck,g1.sm,g1.vo,g1.rt,aez h hx hls,fun ho v n hv hne=>?_⟩,g2,by rw [g3,p3],by rw [g3,p2]⟩
 rw [hl] at hv
 cases h0:s.q.ov with
 |true=>exact aeA h hx hls h0 v n hv hne
 |false=>exact aeB h hx hls h0 ho v n hv hne
theorem Vp {s:iD} (h:NG s):gdA s:=⟨by show aP (aA s.ta)=0;rw [h.tz,← h.sz];exact h.so,h.tz,h.ck,h.sm,h.rt⟩
theorem Vq {s:iD} (h:NG s):gdD s:=⟨h.so,h.sz,h.ck,h.sm,h.vo,h.rt⟩
theorem Q8 {s:iD} (h:NG s):NG (jc s)∧(jc s).q.ls=s.q.ls∧(jc s).q.lm=s.q.lm∧(jc s).q.sz=s.q.sz∧(jc s).q.cy=s.q.cy.tail∧(jc s).q.ov=s.q.ov:=by
 cases hc:s.q.cy with
 |nil =>
  have hT:jc s=s:=by unfold jc;rw [hc]
  rw [hT]
  exact ⟨h,rfl,rfl,rfl,hc,rfl⟩
 |cons c cs =>
  obtain ⟨p1,p2,p3,p4,p5,p6⟩:=WQ h.ck hc
  have hA:=Vp h
  obtain ⟨a1,_⟩:=Jp hA.im (by rw [h.tz];exact p4)
  obtain ⟨k1,k2,k3⟩:=qZ h.ck
  have hcs:s.q.cy.length=cs.length+1:=by rw [hc];rfl
  have hT:jc s={ s with ta:=yO s.ta c.ws,q:={ s.q with cy:=cs,fs:=c.num } }:=by unfold jc;rw [hc];show { s with ta:=yO s.ta c.ws,q:=Dk s.q c.num }=_;rw [p2]
  have hle:∀ (cy:List jk) (f l:Int),yF s.q.sz f cy l=true→f≤l:=fun cy=>by
   induction cy with
   |nil =>
    intro f l h
    have:f=l:=by simpa [yF] using h
    omega
   |cons x cy ih =>
    intro f l h
    simp only [yF,Bool.and_eq_true,beq_iff_eq] at h
    have:=ih _ _ h.2.2
    have:=U0 h.1
    omega
  have hn:=hle _ _ _ p6
  have hb:=WO p4
  rcases k3 with ⟨g,_⟩|⟨_,g1,g2,g3⟩
  ·rw [p3] at g;cases g
  rw [hT]
  refine ⟨⟨h.so,h.sz,(Ny a1).trans h.tz,BI k1 ⟨k2.1,k2.2.1,by show 0≤c.num;omega,hn,k2.2.2.2.2⟩ (.inr ⟨p3,g1,by show (cs.length:Int)≤s.q.lm;omega,p6⟩),⟨h.sm.sz,by show cs.length≤1000;have:=h.sm.cy;omega,h.sm.dt,fun y hy=>h.sm.c1 y (by rw [hc];exact List.mem_cons_of_mem _ hy),h.sm.d1⟩,h.vo,h.rt,fun _=>?_,fun ho=>?_⟩,rfl,rfl,rfl,rfl,rfl⟩
  ·have e:=h.qu p3
   unfold tgt at e ⊢
   rw [hc] at e
   show cs.foldl (fun im c=>c.ws.foldl qJ im) (yO s.ta c.ws)=s.so
   rw [Ah a1]
   exact e
  ·have ho:s.q.ov=true:=ho
   rw [p3] at ho;cases ho
theorem ahr {a b:iw} (h:aA a=aA b) (hs:∀ v n:Nat,v<a.length→jL a v n=jL b v n):a=b:=by
 have hl:a.length=b.length:=by
  have:=congrArg List.length h
  simpa [aA] using this
 apply List.ext_getElem hl
 intro v h1 h2
 have hlen:=Ai h v
 have e1:a.getD v []=a[v]:=by simp [h1]
 have e2:b.getD v []=b[v]:=by simp [h2]
 rw [e1,e2] at hlen
 apply List.ext_getElem hlen
 intro n k1 k2
 have:=hs v n h1
 unfold jL at this
 rw [e1,e2] at this
 simpa [List.getD_eq_getElem?_getD,k1,k2] using this
end Go.Proofs.YtpcncggjmabnaaaGreatDoor.V

namespace Go.Proofs.YtpcncggjmabnaaaGreatDoor.V
theorem WY {im:iw} {v:Nat} (rest:List bP):∀ (es:List fJ) (nx:Int) (p:Option bP),can nx es→(∀ e∈es,aV im (Zp im v e)=0)→(∀ e∈es,1≤e.count∧(Zp im v e).data.length=e.count.toNat)→(∀ x,p=some x→x.volume<(v:Int)∨(x.volume=(v:Int)∧x.start+x.data.length+1≤nx)) →
  ∃ p',(∀ x,p'=some x→x.volume≤(v:Int))∧uN im p (Ap im v es++rest)=uN im p' rest
 |[],nx,p,_,_,_,hp=>⟨p,fun x hx=>by rcases hp x hx with h|h<;>omega,rfl⟩
 |e :: es,nx,p,hc,hf,h1,hp=>by
  obtain ⟨c1,c2,c3⟩:=(show nx≤e.start∧1≤e.count∧can (e.start+e.count+1) es from hc)
  have hd:=(h1 e (by simp)).2
  have hn:=QY (im:=im) (p:=p) (w:=Zp im v e) (l:=Ap im v es++rest) (hf e (by simp)) (fun x hx=>WL (by
   rcases hp x hx with h|⟨h,k⟩
   ·exact .inl h
   ·exact .inr ⟨h,by show _≤e.start;omega⟩))
  obtain ⟨p',k1,k2⟩:=WY rest es (e.start+e.count+1) (some (Zp im v e)) c3 (fun x hx=>hf x (by simp [hx])) (fun x hx=>h1 x (by simp [hx])) (fun x hx=>by
   cases hx
   refine .inr ⟨rfl,?_⟩
   rw [hd]
   show e.start+_+1≤_
   omega)
  exact ⟨p',k1,by rw [show Ap im v (e :: es)++rest=Zp im v e :: (Ap im v es++rest) from rfl,hn,k2]⟩
theorem aie {im:iw} {X:List (List fJ)} (h:QH im X) (hcan:∀ x∈X,can 0 x):∀ (n:Nat),n≤X.length→∀ rest:List bP,∃ p,(∀ x,p=some x→x.volume<(n:Int))∧uN im none (FX im X n++rest)=uN im p rest
 |0,_,rest=>⟨none,fun x hx=>(by cases hx),rfl⟩
 |n+1,hn,rest=>by
  obtain ⟨p,h1,h2⟩:=aie h hcan n (by omega) (Ap im n (X.getD n [])++rest)
  have hv:n<X.length:=by omega
  have Hu:n<im.length:=by have:=h.ln;omega
  have e1:X.getD n []=X[n]:=by simp [hv]
  have e2:im.getD n []=im[n]:=by simp [Hu]
  have hd:∀ e∈X.getD n [],(0≤e.start∧1≤e.count∧e.start+e.count≤((im.getD n []).length:Int))∧(Zp im n e).data.length=e.count.toNat:=fun e he=>by
   rw [e1] at he
   have q:=h.fx n hv e he
   refine ⟨q,?_⟩
   show (((im.getD n []).drop e.start.toNat).take e.count.toNat).length=_
   rw [List.length_take,List.length_drop];omega
  obtain ⟨p',k1,k2⟩:=WY (im:=im) (v:=n) rest (X.getD n []) 0 p (by rw [e1];exact hcan _ (List.getElem_mem hv)) (fun e he=>by
   obtain ⟨⟨q1,q2,q3⟩,q4⟩:=hd e he
   unfold aV
   rw [q4]
   show (if (n:Int)<0∨(im.length:Int)≤(n:Int) then (7:Int) else if e.count.toNat=0 then 1 else if e.start<0∨((im.getD (n:Int).toNat []).length:Int) - e.count.toNat<e.start then 2 else 0)=0
   rw [Int.toNat_natCast,if_neg (by omega),if_neg (by omega),if_neg (by omega)]) (fun e he=>⟨(hd e he).1.2.1,(hd e he).2⟩) (fun x hx=>.inl (h1 x hx))
  exact ⟨p',fun x hx=>by have:=k1 x hx;omega,by rw [wG,List.append_assoc,h2,k2]⟩
theorem anm {im:iw} {X:List (List fJ)} (h:QH im X) (hcan:∀ x∈X,can 0 x):uN im none (DR im X)=0:=by
 obtain ⟨p,_,e⟩:=aie h hcan X.length (Nat.le_refl _) []
 rw [List.append_nil] at e
 unfold DR
 rw [e]
 cases p<;>rfl
theorem ahs {b:Bm} (h:okB b=true) (n:Nat):jQ (qo b) n=bit b.ws n:=by
 unfold qo wz
 rw [if_pos h,zV]
 have hs:=jy h
 by_cases c:n<b.size.toNat
 ·rw [decide_eq_true c,Bool.true_and]
 ·rw [decide_eq_false c,Bool.false_and]
  cases e:bit b.ws n with
  |false=>rfl
  |true =>
   have:=acI h e
   omega
theorem Gq {s:iD} (h:NG s):NG (iL s)∧(iL s).q.ls=s.q.ls∧(iL s).q.lm=s.q.lm∧(iL s).q.sz=s.q.sz∧(iL s).q.ov=false:=by
 cases ho:s.q.ov with
 |false =>
  have hT:iL s=s:=by unfold iL;rw [ho,if_neg Bool.false_ne_true]
  rw [hT]
  exact ⟨h,rfl,rfl,rfl,ho⟩
 |true =>
  obtain ⟨d1,d2,d3,d4⟩:=aeu (Vq h) ho
  obtain ⟨k1,k2,k3⟩:=qZ h.ck
  rcases k3 with ⟨_,g1,g2,g3⟩|⟨g,_⟩
  rotate_left
  ·rw [ho] at g;cases g
  have hF:=adU d3 d4 d2
  obtain ⟨w1,w2⟩:=U3 d3 d4 d2
  have hcan:∀ x∈s.q.dt.map qo,can 0 x:=fun x hx=>by
   obtain ⟨b,hb,rfl⟩:=List.mem_map.1 hx
   unfold qo wz
   split
   ·exact (Nv _ _).1
   ·trivial
  have hwc:=anm hF hcan
  have hfit:=zY hwc
  have hck:wE s.q.sz (ru s.q s.so 7)=0:=by
   unfold wE ckC
   rw [if_pos k1,if_pos (by
    show Dj s.q.fs s.q.ls 7 []=0
    unfold Dj
    rw [if_neg (by omega),if_neg (by decide)]
    rfl)]
   show uN (bn s.q.sz) none (DR s.so (s.q.dt.map qo))=0
   have e:∀ (p:Option bP) (l:List bP),uN (bn s.q.sz) p l=uN s.so p l:=by
    have hss:aA (bn s.q.sz)=aA s.so:=by rw [lX k1,h.sz]
    intro p l
    induction l generalizing p with
    |nil=>cases p<;>rfl
    |cons w l ih=>rw [qp,qp,rC hss,ih]
   rw [e];exact hwc
  have hT:iL s={ s with q:={ s.q with ov:=false,dt:=[],cy:=[ru s.q s.so 7] } }:=by
   unfold iL U2
   rw [ho,if_pos rfl,if_pos d1]
  rw [hT]
  have ao6:∀ w∈DR s.so (s.q.dt.map qo),aV s.ta w=0:=fun w hw=>by
   rw [rC (h.tz.trans h.sz.symm)];exact hfit w hw
  refine ⟨⟨h.so,h.sz,h.tz,BI k1 k2 (.inr ⟨rfl,rfl,by show (1:Int)≤s.q.lm;omega,?_⟩),⟨h.sm.sz,by show 1≤1000;decide,Nat.zero_le _,fun c hc=>?_,fun b hb=>(by cases hb)⟩,h.vo,h.rt,fun _=>?_,fun e=>(by cases e)⟩,rfl,rfl,rfl,rfl⟩
  ·show yF s.q.sz s.q.fs [ru s.q s.so 7] s.q.ls=true
   simp only [yF,hck]
   simp [ru]
  ·rw [List.mem_singleton.1 hc]
   exact ⟨Nat.zero_le _,w1,w2⟩
  ·show (DR s.so (s.q.dt.map qo)).foldl qJ s.ta=s.so
   obtain ⟨f1,f2⟩:=fold_at _ ao6
   refine ahr (f2.trans (h.tz.trans h.sz.symm)) fun v n hv=>?_
   have hvs:v<s.so.length:=by
    have:=congrArg List.length (f2.trans (h.tz.trans h.sz.symm))
    simp only [aA,List.length_map] at this
    omega
   have hz:=wF d3
   have hdl:v<s.q.dt.length:=by rw [hz.1,← h.sz];simpa [aA] using hvs
   obtain ⟨b1,b2⟩:=hz.2 v hdl
   have e1:(s.q.dt.map qo).getD v []=qo s.q.dt[v]:=by simp [List.getD_eq_getElem?_getD,hdl]
   rw [f1 v n]
   unfold DR
   rw [WU hF v n _ (Nat.le_refl _),e1,ahs b1]
   cases hb:bit s.q.dt[v].ws n with
   |true=>rw [if_pos ⟨by rw [List.length_map];exact hdl,rfl⟩];rfl
   |false =>
    rw [if_neg (by simp)]
    show jL s.ta v n=jL s.so v n
    by_cases hq:jL s.so v n=jL s.ta v n
    ·exact hq.symm
    ·obtain ⟨b,hb1,hb2⟩:=h.dr ho v n hvs hq
     rw [List.getElem?_eq_getElem hdl] at hb1
     cases hb1
     rw [hb] at hb2;cases hb2
end Go.Proofs.YtpcncggjmabnaaaGreatDoor.V
