/-
  Part 9 of the texts that the statement stands on.
-/
import Derived.Test.YtpcncggjmabnaaaGreatDoorZ8
set_option linter.all false
namespace Go.Proofs.YtpcncggjmabnaaaGreatDoor.V
end Go.Proofs.YtpcncggjmabnaaaGreatDoor.V

namespace Go.Proofs.YtpcncggjmabnaaaGreatDoor.V
theorem XU {dt:List Bm} {z:List Int} (h:wP dt z=true):bmZ z dt:=by
 rw [ND] at h
 simp only [Bool.and_eq_true,decide_eq_true_eq] at h
 refine ⟨h.1,fun v hv=>?_⟩
 have hv2:v<z.length:=by rw [← h.1];exact hv
 have h2:=h.2
 unfold wR at h2
 rw [List.drop_zero,List.drop_zero,List.all_eq_true] at h2
 have h3:=h2 (dt[v],z[v]) (by
  have:(dt.zip z)[v]'(by rw [List.length_zip];omega)=(dt[v],z[v]):=List.getElem_zip
  rw [← this];exact List.getElem_mem _)
 unfold NC at h3
 simp only [Bool.and_eq_true,beq_iff_eq] at h3
 refine ⟨?_,?_⟩
 ·cases hb:okB dt[v] with
  |true=>rfl
  |false=>rw [ni hb] at h3;omega
 ·rw [h3.2,List.getD_eq_getElem?_getD,List.getElem?_eq_getElem hv2];rfl
theorem XV {s:mJ} (h:yG s=0):aX s.sz=0∧(1≤s.lm∧s.lm≤1024∧0≤s.fs∧s.fs≤s.ls∧s.ls≤1073741824)∧((s.ov=true∧s.cy=[]∧s.fs≠s.ls∧wP s.dt s.sz=true)∨(s.ov=false∧s.dt=[]∧(s.cy.length:Int)≤s.lm∧Yo s.sz s.fs s.cy s.ls=true)):=by
 unfold yG at h
 by_cases h1:aX s.sz=0
 ·rw [if_pos h1] at h
  by_cases h2:s.lm<1∨s.lm > 1024∨s.fs<0∨s.fs > s.ls∨s.ls > 1073741824
  ·rw [if_pos h2] at h;omega
  ·rw [if_neg h2] at h
   refine ⟨h1,by omega,?_⟩
   cases ho:s.ov with
   |true =>
    rw [ho,if_pos rfl] at h
    split at h
    ·rename_i h3
     simp only [Bool.and_eq_true,decide_eq_true_eq] at h3
     exact .inl ⟨rfl,h3.1,h3.2.1,h3.2.2⟩
    ·omega
   |false =>
    rw [ho,if_neg Bool.false_ne_true] at h
    split at h
    ·rename_i h3
     simp only [Bool.and_eq_true,decide_eq_true_eq] at h3
     exact .inr ⟨rfl,h3.1,h3.2.1,h3.2.2⟩
    ·omega
 ·rw [if_neg h1] at h;exact absurd h h1
end Go.Proofs.YtpcncggjmabnaaaGreatDoor.V

namespace Go.Proofs.YtpcncggjmabnaaaGreatDoor.V
end Go.Proofs.YtpcncggjmabnaaaGreatDoor.V

namespace Go.Proofs.YtpcncggjmabnaaaGreatDoor.V
end Go.Proofs.YtpcncggjmabnaaaGreatDoor.V

namespace Go.Proofs.YtpcncggjmabnaaaGreatDoor.V
end Go.Proofs.YtpcncggjmabnaaaGreatDoor.V

namespace Go.Proofs.YtpcncggjmabnaaaGreatDoor.V
end Go.Proofs.YtpcncggjmabnaaaGreatDoor.V

namespace Go.Proofs.YtpcncggjmabnaaaGreatDoor.V
end Go.Proofs.YtpcncggjmabnaaaGreatDoor.V

namespace Go.Proofs.YtpcncggjmabnaaaGreatDoor.V
end Go.Proofs.YtpcncggjmabnaaaGreatDoor.V

namespace Go.Proofs.YtpcncggjmabnaaaGreatDoor.V
end Go.Proofs.YtpcncggjmabnaaaGreatDoor.V

namespace Go.Proofs.YtpcncggjmabnaaaGreatDoor.V
end Go.Proofs.YtpcncggjmabnaaaGreatDoor.V

namespace Go.Proofs.YtpcncggjmabnaaaGreatDoor.V
def eU (l:List jW):Int:=(l.map fun w=>(w.data.length:Int)).sum
theorem NM (l:List jW) (x:jW):eU (l++[x])=eU l+x.data.length:=by simp [eU]
theorem AP {l:List jW} {i:Nat} (h:i<l.length):eU (l.take (i+1))=eU (l.take i)+(l[i].data.length:Int):=by
 rw [List.take_succ_eq_append_getElem h,NM]
theorem wS {k:Nat}:∀ {l:List jW},(∀ w∈l,w.data.length≤k)→0≤eU l∧eU l≤(k * l.length:Nat)
 |[],_=>by simp [eU]
 |x :: l,h=>by
  have:=wS (l:=l) fun w hw=>h w (by simp [hw])
  have hx:=h x (by simp)
  have e:eU (x :: l)=(x.data.length:Int)+eU l:=by simp [eU]
  rw [e,List.length_cons,Nat.mul_add,Nat.mul_one];omega
theorem XW {l:List jW} (hd:∀ w∈l,w.data.length≤10000) (hl:l.length≤1000000) {st:St} (h:st.head [0,3,4] st.boxes.length=some ⟨[.pv (.list 3 (l.map iL)),.any,.any,.pv (.int .i64 (eU (l.take (0:Nat)))),.pv (.int .i64 (0:Nat)),.any,.any,.any,.any,.any,.any,.any,.any,.any,.any,.any,.any,.any,.any,.any],[],[],none⟩) :
  den env vF st=some (.normal,⟨[.any,.any,.any,.pv (.int .i64 (eU l)),.any,.any,.any,.any,.any,.any,.any,.any,.any,.any,.any,.any,.any,.any,.any,.any],[],[],none⟩):=by
 unfold vF
 refine bF (env:=env) (l.length) (fun i=>⟨[.pv (.list 3 (l.map iL)),.any,.any,.pv (.int .i64 (eU (l.take i))),.pv (.int .i64 i),.any,.any,.any,.any,.any,.any,.any,.any,.any,.any,.any,.any,.any,.any,.any],[],[],none⟩) (fun i=>some (.normal,⟨[.any,.any,.any,.pv (.int .i64 (eU l)),.any,.any,.any,.any,.any,.any,.any,.any,.any,.any,.any,.any,.any,.any,.any,.any],[],[],none⟩)) h (fun _=>rfl) (fun _=>rfl) ?_ ?_
 ·intro i rb hi ih
  have hi1:=bH hi (Nat.le_trans hl (by decide))
  have F1:((i:Int)<(l.length:Int))=True:=eq_true (by omega)
  have h1:=wS (l:=l.take i) fun w hw=>hd w (List.mem_of_mem_take hw)
  have h2:=hd _ (List.getElem_mem hi)
  have h3:(l.take i).length≤1000000:=by rw [List.length_take];omega
  have W:IntKind.i64.wrap (eU (l.take i)+(l[i].data.length:Int))=eU (l.take (i+1)):=by rw [AP hi];exact bJ (by omega)
  simp only [vC,F1,W,iL,ak hi,List.getElem?_map,List.getElem?_eq_getElem hi,aY,reduceCtorEq,Nat.reduceEqDiff,Nat.reduceAdd,Nat.reduceLT,Nat.reduceLeDiff,Nat.beq]
  rw [ih _ (by simp only [hi1];rfl)]
 ·intro rb
  simp only [vC,Int.lt_irrefl,aY,reduceCtorEq,Nat.reduceEqDiff,Nat.reduceAdd,Nat.reduceLT,Nat.reduceLeDiff,Nat.beq]
  rfl
end Go.Proofs.YtpcncggjmabnaaaGreatDoor.V

namespace Go.Proofs.YtpcncggjmabnaaaGreatDoor
open V
def szW (l:List jW):Prop:=∀ x∈l,x.data.length≤140737488351232
def szQ (s:mJ):Prop:=∀ c∈s.cy,szW c.ws
theorem DR:∀ l:List jW,0≤eU l
 |[]=>by simp [eU]
 |x :: l=>by
  have:=DR l
  have e:eU (x :: l)=(x.data.length:Int)+eU l:=by simp [eU]
  omega
end Go.Proofs.YtpcncggjmabnaaaGreatDoor

namespace Go.Proofs.YtpcncggjmabnaaaGreatDoor.V
namespace Z24
theorem XW {l:List jW} (hd:szW l) (hl:l.length≤1000) {st:St} (h:st.head [0,3,4] st.boxes.length=some ⟨sl 20 [(0,.pv (.list 3 (l.map iL))),(3,.pv (.int .i64 (eU (l.take ((0:Nat)))))),(4,.pv (.int .i64 (0:Nat)))],[],[],none⟩) :
  den env vF st=some (.normal,⟨sl 20 [(2,.any),(3,.pv (.int .i64 (eU l)))],[],[],none⟩):=by
 unfold vF
 refine bF (env:=env) (nb:=0) (l.length) (fun i=>⟨sl 20 [(0,.pv (.list 3 (l.map iL))),(3,.pv (.int .i64 (eU (l.take (i))))),(4,.pv (.int .i64 i))],[],[],none⟩) (fun i=>some (.normal,⟨sl 20 [(2,.any),(3,.pv (.int .i64 (eU l)))],[],[],none⟩)) h (fun _=>rfl) (fun _=>by simp only [aO,bG,Nat.reduceMul,Nat.reduceBEq,Nat.reduceLT,Nat.reduceLeDiff,Nat.reduceAdd,decide_true,Bool.and_self,Bool.true_and]) ?_ ?_
 ·intro i rb hi ih
  have hi1:=bH hi (Nat.le_trans hl (by decide))
  have F1:((i:Int)<(l.length:Int))=True:=eq_true (by omega)
  have hx:=wO hi
  have h1:=wS (l:=l.take i) fun w hw=>hd w (List.mem_of_mem_take hw)
  have h2:=hd _ (List.getElem_mem hi)
  have h3:(l.take i).length≤1000:=by rw [List.length_take];omega
  have W:IntKind.i64.wrap (eU (l.take i)+(l[i].data.length:Int))=eU (l.take (i+1)):=by rw [AP hi];exact bJ (by omega)
  simp only [vC,F1,hx,W,abf,ak hi,List.length_map,aI,Nat.reduceMul,Nat.reduceBEq,Nat.reduceLT,Nat.reduceLeDiff,reduceCtorEq,Nat.reduceEqDiff,Nat.reduceAdd,Nat.beq]
  rw [ih _ (by simp only [hi1,aI,Nat.reduceMul,Nat.reduceBEq,Nat.reduceLT,Nat.reduceLeDiff,reduceCtorEq,Nat.reduceEqDiff,Nat.reduceAdd,Nat.beq]<;>rfl)]
 ·intro rb
  rw [List.take_length]
  simp only [vC,Int.lt_irrefl,List.length_map,aI,Nat.reduceMul,Nat.reduceBEq,Nat.reduceLT,Nat.reduceLeDiff,reduceCtorEq,Nat.reduceEqDiff,Nat.reduceAdd,Nat.beq]
theorem ady {l:List jW} (hd:szW l) (hl:l.length≤1000):cal env 35 [.list 3 (l.map iL)]=some [(.int .i64 (eU l),false)]:=by
 rw [ah aeP rfl];simp only [VD,aO,Nat.reduceBEq,Nat.reduceLeDiff,Nat.reduceAdd,List.length_cons,List.length_nil]
 simp only [aI,Nat.reduceMul,Nat.reduceBEq,Nat.reduceLT,Nat.reduceLeDiff,reduceCtorEq,Nat.reduceEqDiff,Nat.reduceAdd,Nat.beq]
 rw [XW hd hl (by simp only [List.take_zero];simp only [aO,bG,Nat.reduceMul,Nat.reduceBEq,Nat.reduceLT,Nat.reduceLeDiff,Nat.reduceAdd,decide_true,Bool.and_self,Bool.true_and]<;>rfl)]
 simp only [aI,Nat.reduceMul,Nat.reduceBEq,Nat.reduceLT,Nat.reduceLeDiff,reduceCtorEq,Nat.reduceEqDiff,Nat.reduceAdd,Nat.beq]
end Z24
open Z24
def SG (l:List jW):Bool:=decide (l.length≤40)&&decide (eU l≤400)
theorem afW {l:List jW} (hd:szW l):cal env 15 [.list 3 (l.map iL)]=some [(.bool (SG l),false)]:=by
 unfold SG
 by_cases h:l.length≤40
 ·have e1:=ady hd (by omega)
  have F1:((l.length:Int)≤40)=True:=eq_true (by omega)
  rw [decide_eq_true h,Bool.true_and]
  by_cases k:eU l≤400
  ·have F2:=eq_true k
   rw [decide_eq_true k]
   rw [ah WS rfl];simp only [Nb,aO,Nat.reduceBEq,Nat.reduceLeDiff,Nat.reduceAdd,List.length_cons,List.length_nil]
   simp only [e1,F1,F2,List.length_map,aI,Nat.reduceMul,Nat.reduceBEq,Nat.reduceLT,Nat.reduceLeDiff,reduceCtorEq,Nat.reduceEqDiff,Nat.reduceAdd,Nat.beq]
  ·have F2:=eq_false k
   rw [decide_eq_false k]
   rw [ah WS rfl];simp only [Nb,aO,Nat.reduceBEq,Nat.reduceLeDiff,Nat.reduceAdd,List.length_cons,List.length_nil]
   simp only [e1,F1,F2,List.length_map,aI,Nat.reduceMul,Nat.reduceBEq,Nat.reduceLT,Nat.reduceLeDiff,reduceCtorEq,Nat.reduceEqDiff,Nat.reduceAdd,Nat.beq]
 ·have F1:((l.length:Int)≤40)=False:=eq_false (by omega)
  rw [decide_eq_false h,Bool.false_and]
  rw [ah WS rfl];simp only [Nb,aO,Nat.reduceBEq,Nat.reduceLeDiff,Nat.reduceAdd,List.length_cons,List.length_nil]
  simp only [F1,List.length_map,aI,Nat.reduceMul,Nat.reduceBEq,Nat.reduceLT,Nat.reduceLeDiff,reduceCtorEq,Nat.reduceEqDiff,Nat.reduceAdd,Nat.beq]
theorem adz {l:List jW} (h:SG l=true):l.length≤40∧eU l≤400∧∀ x∈l,x.data.length≤400:=by
 unfold SG at h
 simp only [Bool.and_eq_true,decide_eq_true_eq] at h
 refine ⟨h.1,h.2,?_⟩
 have:∀ {m:List jW},∀ x∈m,(x.data.length:Int)≤eU m:=by
  intro m
  induction m with
  |nil=>intro x hx;cases hx
  |cons y m ih =>
   intro x hx
   have hp:=(DR m)
   have e:eU (y :: m)=(y.data.length:Int)+eU m:=by simp [eU]
   rw [e]
   rcases List.mem_cons.1 hx with h|h
   ·rw [h];omega
   ·have:=ih x h;omega
 intro x hx
 have:=this x hx
 omega
def smC (c:nY):Bool:=decide (c.pos.length≤10)&&SG c.ws
def AQ (s:mJ):Bool:=(decide (s.sz.length≤8)&&(decide (s.cy.length≤8)&&decide (s.dt.length≤8)))&&(s.cy.all smC&&(s.dt.all (fun b=>decide (b.ws.length≤8))&&s.sz.all (fun n=>!(decide (n > 400)&&decide (n≤4096)))))
theorem wU {α:Type} {p:α→Bool} {l:List α} {i:Nat} (h:i<l.length):(l.drop i).all p=(p l[i]&&(l.drop (i+1)).all p):=by rw [List.drop_eq_getElem_cons h];rfl
theorem AU {α:Type} {p:α→Bool} (l:List α):(l.drop l.length).all p=true:=by rw [List.drop_length];rfl
def yh (k1 k2:List (Nat × AV)) (n:Nat) (bx:List Box) (b:Bool):Option (Ex × St):=if b then some (.normal,⟨sl n k1,bx,[],none⟩) else some (.ret,⟨sl n k2,bx,[],none⟩)
theorem rZ (k1 k2:List (Nat × AV)) (n:Nat) (bx:List Box):yh k1 k2 n bx true=some (.normal,⟨sl n k1,bx,[],none⟩):=rfl
theorem qo (k1 k2:List (Nat × AV)) (n:Nat) (bx:List Box):yh k1 k2 n bx false=some (.ret,⟨sl n k2,bx,[],none⟩):=rfl
theorem adA {s:mJ} (hz:szQ s) (hl:s.cy.length≤8) {st:St} (h:st.head [1,3] st.boxes.length=some ⟨sl 83 [(1,.aS 0 0),(3,.pv (.int .i64 (0:Nat)))],[⟨false,iP s⟩],[],none⟩) :
  den env ET st=yh [(1,.aS 0 0),(2,.any)] [(1,.aS 0 0),(2,.pv (.bool false))] 83 [⟨false,iP s⟩] ((s.cy.drop ((0:Nat))).all smC):=by
 unfold ET
 refine bF (env:=env) (nb:=1) (s.cy.length) (fun i=>⟨sl 83 [(1,.aS 0 0),(3,.pv (.int .i64 i))],[⟨false,iP s⟩],[],none⟩) (fun i=>yh [(1,.aS 0 0),(2,.any)] [(1,.aS 0 0),(2,.pv (.bool false))] 83 [⟨false,iP s⟩] ((s.cy.drop (i)).all smC)) h (fun _=>rfl) (fun _=>by simp only [aO,bG,Nat.reduceMul,Nat.reduceBEq,Nat.reduceLT,Nat.reduceLeDiff,Nat.reduceAdd,decide_true,Bool.and_self,Bool.true_and]) ?_ ?_
 ·intro i rb hi ih
  have hi1:=bH hi (by unfold lim;omega)
  have F1:((i:Int)<(s.cy.length:Int))=True:=eq_true (by omega)
  have hx:=vN hi
  have e1:=afW (hz _ (List.getElem_mem hi))
  rw [wU hi]
  unfold smC
  by_cases c:s.cy[i].pos.length≤10
  ·have G:((s.cy[i].pos.length:Int) > 10)=False:=eq_false (by omega)
   rw [decide_eq_true c,Bool.true_and]
   cases c2:SG s.cy[i].ws with
   |true =>
    rw [c2] at e1
    rw [Bool.true_and]
    simp only [vg,F1,G,e1,hx,fC,aW,ak hi,List.length_map,aI,Nat.reduceMul,Nat.reduceBEq,Nat.reduceLT,Nat.reduceLeDiff,reduceCtorEq,Nat.reduceEqDiff,Nat.reduceAdd,Nat.beq]
    rw [ih _ (by simp only [hi1,aW,aI,Nat.reduceMul,Nat.reduceBEq,Nat.reduceLT,Nat.reduceLeDiff,reduceCtorEq,Nat.reduceEqDiff,Nat.reduceAdd,Nat.beq]<;>rfl)]
    rfl
   |false =>
    rw [c2] at e1
    rw [Bool.false_and,qo]
    simp only [vg,F1,G,e1,hx,fC,aW,ak hi,List.length_map,aI,Nat.reduceMul,Nat.reduceBEq,Nat.reduceLT,Nat.reduceLeDiff,reduceCtorEq,Nat.reduceEqDiff,Nat.reduceAdd,Nat.beq]
  ·have G:((s.cy[i].pos.length:Int) > 10)=True:=eq_true (by omega)
   rw [decide_eq_false c,Bool.false_and,Bool.false_and,qo]
   simp only [vg,F1,G,hx,fC,aW,ak hi,List.length_map,aI,Nat.reduceMul,Nat.reduceBEq,Nat.reduceLT,Nat.reduceLeDiff,reduceCtorEq,Nat.reduceEqDiff,Nat.reduceAdd,Nat.beq]
 ·intro rb
  rw [AU,rZ]
  simp only [vg,Int.lt_irrefl,aW,List.length_map,aI,Nat.reduceMul,Nat.reduceBEq,Nat.reduceLT,Nat.reduceLeDiff,reduceCtorEq,Nat.reduceEqDiff,Nat.reduceAdd,Nat.beq]
theorem XY {s:mJ} (hl:s.dt.length≤8) {st:St} (h:st.head [1,4] st.boxes.length=some ⟨sl 83 [(1,.aS 0 0),(4,.pv (.int .i64 (0:Nat)))],[⟨false,iP s⟩],[],none⟩) :
  den env EU st=yh [(1,.aS 0 0),(2,.any)] [(1,.aS 0 0),(2,.pv (.bool false))] 83 [⟨false,iP s⟩] ((s.dt.drop ((0:Nat))).all fun b=>decide (b.ws.length≤8)):=by
 unfold EU
 refine bF (env:=env) (nb:=1) (s.dt.length) (fun i=>⟨sl 83 [(1,.aS 0 0),(4,.pv (.int .i64 i))],[⟨false,iP s⟩],[],none⟩) (fun i=>yh [(1,.aS 0 0),(2,.any)] [(1,.aS 0 0),(2,.pv (.bool false))] 83 [⟨false,iP s⟩] ((s.dt.drop (i)).all fun b=>decide (b.ws.length≤8))) h (fun _=>rfl) (fun _=>by simp only [aO,bG,Nat.reduceMul,Nat.reduceBEq,Nat.reduceLT,Nat.reduceLeDiff,Nat.reduceAdd,decide_true,Bool.and_self,Bool.true_and]) ?_ ?_
 ·intro i rb hi ih
  have hi1:=bH hi (by unfold lim;omega)
  have F1:((i:Int)<(s.dt.length:Int))=True:=eq_true (by omega)
  have hx:=nD hi
  rw [wU hi]
  by_cases c:s.dt[i].ws.length≤8
  ·have G:((s.dt[i].ws.length:Int) > 8)=False:=eq_false (by omega)
   rw [decide_eq_true c,Bool.true_and]
   simp only [yP,F1,G,hx,nC,aW,ak hi,List.length_map,aI,Nat.reduceMul,Nat.reduceBEq,Nat.reduceLT,Nat.reduceLeDiff,reduceCtorEq,Nat.reduceEqDiff,Nat.reduceAdd,Nat.beq]
   rw [ih _ (by simp only [hi1,aW,aI,Nat.reduceMul,Nat.reduceBEq,Nat.reduceLT,Nat.reduceLeDiff,reduceCtorEq,Nat.reduceEqDiff,Nat.reduceAdd,Nat.beq]<;>rfl)]
   rfl
  ·have G:((s.dt[i].ws.length:Int) > 8)=True:=eq_true (by omega)
   rw [decide_eq_false c,Bool.false_and,qo]
   simp only [yP,F1,G,hx,nC,aW,ak hi,List.length_map,aI,Nat.reduceMul,Nat.reduceBEq,Nat.reduceLT,Nat.reduceLeDiff,reduceCtorEq,Nat.reduceEqDiff,Nat.reduceAdd,Nat.beq]
 ·intro rb
  rw [AU,rZ]
  simp only [yP,Int.lt_irrefl,aW,List.length_map,aI,Nat.reduceMul,Nat.reduceBEq,Nat.reduceLT,Nat.reduceLeDiff,reduceCtorEq,Nat.reduceEqDiff,Nat.reduceAdd,Nat.beq]
theorem XZ {s:mJ} (hl:s.sz.length≤8) {st:St} (h:st.head [1,5] st.boxes.length=some ⟨sl 83 [(1,.aS 0 0),(5,.pv (.int .i64 (0:Nat)))],[⟨false,iP s⟩],[],none⟩) :
  den env EW st=yh [(2,.any)] [(2,.pv (.bool false))] 83 [⟨false,iP s⟩] ((s.sz.drop ((0:Nat))).all fun n=>!(decide (n > 400)&&decide (n≤4096))):=by
 unfold EW
 refine bF (env:=env) (nb:=1) (s.sz.length) (fun i=>⟨sl 83 [(1,.aS 0 0),(5,.pv (.int .i64 i))],[⟨false,iP s⟩],[],none⟩) (fun i=>yh [(2,.any)] [(2,.pv (.bool false))] 83 [⟨false,iP s⟩] ((s.sz.drop (i)).all fun n=>!(decide (n > 400)&&decide (n≤4096)))) h (fun _=>rfl) (fun _=>by simp only [aO,bG,Nat.reduceMul,Nat.reduceBEq,Nat.reduceLT,Nat.reduceLeDiff,Nat.reduceAdd,decide_true,Bool.and_self,Bool.true_and]) ?_ ?_
 ·intro i rb hi ih
  have hi1:=bH hi (by unfold lim;omega)
  have F1:((i:Int)<(s.sz.length:Int))=True:=eq_true (by omega)
  have hx:=y5 hi
  rw [wU hi]
  by_cases c:s.sz[i] > 400
  ·have G:=eq_true c
   rw [decide_eq_true c,Bool.true_and]
   by_cases d:s.sz[i]≤4096
   ·have G2:=eq_true d
    rw [decide_eq_true d,Bool.not_true,Bool.false_and,qo]
    simp only [vk,F1,G,G2,hx,aW,ak hi,List.length_map,aI,Nat.reduceMul,Nat.reduceBEq,Nat.reduceLT,Nat.reduceLeDiff,reduceCtorEq,Nat.reduceEqDiff,Nat.reduceAdd,Nat.beq]
   ·have G2:=eq_false d
    rw [decide_eq_false d,Bool.not_false,Bool.true_and]
    simp only [vk,F1,G,G2,hx,aW,ak hi,List.length_map,aI,Nat.reduceMul,Nat.reduceBEq,Nat.reduceLT,Nat.reduceLeDiff,reduceCtorEq,Nat.reduceEqDiff,Nat.reduceAdd,Nat.beq]
    rw [ih _ (by simp only [hi1,aW,aI,Nat.reduceMul,Nat.reduceBEq,Nat.reduceLT,Nat.reduceLeDiff,reduceCtorEq,Nat.reduceEqDiff,Nat.reduceAdd,Nat.beq]<;>rfl)]
    rfl
  ·have G:=eq_false c
   rw [decide_eq_false c,Bool.false_and,Bool.not_false,Bool.true_and]
   simp only [vk,F1,G,hx,aW,ak hi,List.length_map,aI,Nat.reduceMul,Nat.reduceBEq,Nat.reduceLT,Nat.reduceLeDiff,reduceCtorEq,Nat.reduceEqDiff,Nat.reduceAdd,Nat.beq]
   rw [ih _ (by simp only [hi1,aW,aI,Nat.reduceMul,Nat.reduceBEq,Nat.reduceLT,Nat.reduceLeDiff,reduceCtorEq,Nat.reduceEqDiff,Nat.reduceAdd,Nat.beq]<;>rfl)]
   rfl
 ·intro rb
  rw [AU,rZ]
  simp only [vk,Int.lt_irrefl,aW,List.length_map,aI,Nat.reduceMul,Nat.reduceBEq,Nat.reduceLT,Nat.reduceLeDiff,reduceCtorEq,Nat.reduceEqDiff,Nat.reduceAdd,Nat.beq]
set_option maxRecDepth 20000 in
theorem afX {s:mJ} (hz:szQ s):cal env 14 [oH s]=some [(.bool (AQ s),false)]:=by
 rw [fB]
 unfold AQ
 by_cases c1:s.sz.length≤8
 rotate_left
 ·have G1:((s.sz.length:Int) > 8)=True:=eq_true (by omega)
  rw [decide_eq_false c1,Bool.false_and,Bool.false_and]
  rw [ah Ox rfl];simp only [Jg,aO,Nat.reduceBEq,Nat.reduceLeDiff,Nat.reduceAdd,List.length_cons,List.length_nil]
  simp only [G1,List.length_map,aI,Nat.reduceMul,Nat.reduceBEq,Nat.reduceLT,Nat.reduceLeDiff,reduceCtorEq,Nat.reduceEqDiff,Nat.reduceAdd,Nat.beq]
 have G1:((s.sz.length:Int) > 8)=False:=eq_false (by omega)
 rw [decide_eq_true c1,Bool.true_and]
 by_cases c2:s.cy.length≤8
 rotate_left
 ·have G2:((s.cy.length:Int) > 8)=True:=eq_true (by omega)
  rw [decide_eq_false c2,Bool.false_and,Bool.false_and]
  rw [ah Ox rfl];simp only [Jg,aO,Nat.reduceBEq,Nat.reduceLeDiff,Nat.reduceAdd,List.length_cons,List.length_nil]
  simp only [G1,G2,List.length_map,aI,Nat.reduceMul,Nat.reduceBEq,Nat.reduceLT,Nat.reduceLeDiff,reduceCtorEq,Nat.reduceEqDiff,Nat.reduceAdd,Nat.beq]
 have G2:((s.cy.length:Int) > 8)=False:=eq_false (by omega)
 rw [decide_eq_true c2,Bool.true_and]
 by_cases c3:s.dt.length≤8
 rotate_left
 ·have G3:((s.dt.length:Int) > 8)=True:=eq_true (by omega)
  rw [decide_eq_false c3,Bool.false_and]
  rw [ah Ox rfl];simp only [Jg,aO,Nat.reduceBEq,Nat.reduceLeDiff,Nat.reduceAdd,List.length_cons,List.length_nil]
  simp only [G1,G2,G3,List.length_map,aI,Nat.reduceMul,Nat.reduceBEq,Nat.reduceLT,Nat.reduceLeDiff,reduceCtorEq,Nat.reduceEqDiff,Nat.reduceAdd,Nat.beq]
 have G3:((s.dt.length:Int) > 8)=False:=eq_false (by omega)
 rw [decide_eq_true c3,Bool.true_and]
 rw [ah Ox rfl];simp only [Jg,aO,Nat.reduceBEq,Nat.reduceLeDiff,Nat.reduceAdd,List.length_cons,List.length_nil]
 simp only [G1,G2,G3,List.length_map,aI,Nat.reduceMul,Nat.reduceBEq,Nat.reduceLT,Nat.reduceLeDiff,reduceCtorEq,Nat.reduceEqDiff,Nat.reduceAdd,Nat.beq]
 rw [adA (s:=s) hz c2 (by simp only [aW];simp only [aO,bG,Nat.reduceMul,Nat.reduceBEq,Nat.reduceLT,Nat.reduceLeDiff,Nat.reduceAdd,decide_true,Bool.and_self,Bool.true_and]<;>rfl),List.drop_zero]
 cases s.cy.all smC with
 |false=>rw [qo,Bool.false_and];simp only [aW,aI,Nat.reduceMul,Nat.reduceBEq,Nat.reduceLT,Nat.reduceLeDiff,reduceCtorEq,Nat.reduceEqDiff,Nat.reduceAdd,Nat.beq]
 |true =>
  rw [rZ,Bool.true_and]
  simp only [aW,aI,Nat.reduceMul,Nat.reduceBEq,Nat.reduceLT,Nat.reduceLeDiff,reduceCtorEq,Nat.reduceEqDiff,Nat.reduceAdd,Nat.beq]
  rw [XY (s:=s) c3 (by simp only [aW];simp only [aO,bG,Nat.reduceMul,Nat.reduceBEq,Nat.reduceLT,Nat.reduceLeDiff,Nat.reduceAdd,decide_true,Bool.and_self,Bool.true_and]<;>rfl),List.drop_zero]
  cases s.dt.all (fun b=>decide (b.ws.length≤8)) with
  |false=>rw [qo,Bool.false_and];simp only [aW,aI,Nat.reduceMul,Nat.reduceBEq,Nat.reduceLT,Nat.reduceLeDiff,reduceCtorEq,Nat.reduceEqDiff,Nat.reduceAdd,Nat.beq]
  |true =>
   rw [rZ,Bool.true_and]
   simp only [aW,aI,Nat.reduceMul,Nat.reduceBEq,Nat.reduceLT,Nat.reduceLeDiff,reduceCtorEq,Nat.reduceEqDiff,Nat.reduceAdd,Nat.beq]
   rw [XZ (s:=s) c1 (by simp only [aW];simp only [aO,bG,Nat.reduceMul,Nat.reduceBEq,Nat.reduceLT,Nat.reduceLeDiff,Nat.reduceAdd,decide_true,Bool.and_self,Bool.true_and]<;>rfl),List.drop_zero]
   cases s.sz.all (fun n=>!(decide (n > 400)&&decide (n≤4096))) with
   |false=>rw [qo];simp only [aW,aI,Nat.reduceMul,Nat.reduceBEq,Nat.reduceLT,Nat.reduceLeDiff,reduceCtorEq,Nat.reduceEqDiff,Nat.reduceAdd,Nat.beq]
   |true=>rw [rZ];simp only [aW,aI,Nat.reduceMul,Nat.reduceBEq,Nat.reduceLT,Nat.reduceLeDiff,reduceCtorEq,Nat.reduceEqDiff,Nat.reduceAdd,Nat.beq]
theorem X0 {s:mJ} (h:AQ s=true):Nz s:=by
 unfold AQ at h
 simp only [Bool.and_eq_true,decide_eq_true_eq,List.all_eq_true] at h
 obtain ⟨⟨h1,h2,h3⟩,h4,h5,h6⟩:=h
 refine ⟨by omega,by omega,by omega,fun c hc=>?_,fun b hb=>by have:=h5 b hb;omega⟩
 have:=h4 c hc
 unfold smC at this
 simp only [Bool.and_eq_true,decide_eq_true_eq] at this
 obtain ⟨k1,k2,k3⟩:=adz this.2
 exact ⟨by omega,by omega,fun x hx=>by have:=k3 x hx;omega⟩
def aaz:nY:=⟨0,0,0,[],[]⟩
theorem lq:jc aaz=.agg [.int .i64 0,.int .i64 0,.int .i64 0,.list 1 [],.list 3 []]:=rfl
end Go.Proofs.YtpcncggjmabnaaaGreatDoor.V

namespace Go.Proofs.YtpcncggjmabnaaaGreatDoor.V
end Go.Proofs.YtpcncggjmabnaaaGreatDoor.V

namespace Go.Proofs.YtpcncggjmabnaaaGreatDoor.V
theorem JR {c:nY} (h:Ny c):c.pos.length≤lim∧c.ws.length≤lim∧∀ x∈c.ws,x.data.length≤lim :=
 ⟨Nat.le_trans h.1 (by decide),Nat.le_trans h.2.1 (by decide),fun x hx=>Nat.le_trans (h.2.2 x hx) (by decide)⟩
theorem afY:okQ aas:=⟨Nat.zero_le _,Nat.zero_le _,Nat.zero_le _,fun c hc=>(by cases hc),fun b hb=>(by cases hb)⟩
end Go.Proofs.YtpcncggjmabnaaaGreatDoor.V

namespace Go.Proofs.YtpcncggjmabnaaaGreatDoor.V
end Go.Proofs.YtpcncggjmabnaaaGreatDoor.V

namespace Go.Proofs.YtpcncggjmabnaaaGreatDoor.V
end Go.Proofs.YtpcncggjmabnaaaGreatDoor.V

namespace Go.Proofs.YtpcncggjmabnaaaGreatDoor.V
def wOf (im:jl) (v:Nat) (e:uw):jW:=⟨v,e.start,((im.getD v []).drop e.start.toNat).take e.count.toNat⟩
def BM (im:jl) (v:Nat) (x:List uw):List jW:=x.map (wOf im v)
def vW (im:jl) (l:List (List uw)) (n:Nat):List jW:=(List.range n).flatMap fun v=>BM im v (l.getD v [])
def Gy (im:jl) (l:List (List uw)):List jW:=vW im l l.length
theorem AX (im:jl) (l:List (List uw)) (n:Nat):vW im l (n+1)=vW im l n++BM im n (l.getD n []):=by simp [vW,List.range_succ]
end Go.Proofs.YtpcncggjmabnaaaGreatDoor.V
