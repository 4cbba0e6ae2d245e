/-
  Part 11 of the texts that the statement stands on.
-/
import Derived.Test.YtpcncggjmabnaaaGreatDoorZ10
import Derived.Test.YtpcncggjmabnaaaGreatDoorChecked
set_option linter.all false
namespace Go.Proofs.YtpcncggjmabnaaaGreatDoor.V
def smE (x:jC):Bool:=decide (x.ws.length≤8)&&Zn x.ws
def Dn (l:List jC):Bool:=l.all smE&&decide (l.length≤30)
theorem aeC {l:List jC} {i:Nat} (h:i<l.length):(l.map ND)[i]?=some (.agg [.int .u8 l[i].kind,.int .u8 l[i].step,.list 3 (l[i].ws.map dZ)]):=by rw [List.getElem?_map,List.getElem?_eq_getElem h];rfl
def szE (l:List jC):Prop:=l.length≤140737488351232∧∀ x∈l,szW x.ws∧(0≤x.kind∧x.kind≤255)∧0≤x.step∧x.step≤255
def WZ (k1 k2:List (Nat × AV)) (b:Bool):Option (Ex × St):=if b then some (.normal,⟨sl 29 k1,[],[],none⟩) else some (.ret,⟨sl 29 k2,[],[],none⟩)
theorem W9 (k1 k2:List (Nat × AV)):WZ k1 k2 true=some (.normal,⟨sl 29 k1,[],[],none⟩):=rfl
theorem Nz (k1 k2:List (Nat × AV)):WZ k1 k2 false=some (.ret,⟨sl 29 k2,[],[],none⟩):=rfl
theorem akK {l:List jC} (hz:szE l) {st:St} (h:st.head [0,3] st.boxes.length=some ⟨sl 29 [(0,.pv (.list 3 (l.map ND))),(3,.pv (.int .i64 (0:Nat)))],[],[],none⟩) :
  den env Kw st=WZ [(0,.pv (.list 3 (l.map ND))),(2,.any)] [(0,.pv (.list 3 (l.map ND))),(2,.pv (.bool false))] ((l.drop ((0:Nat))).all smE):=by
 unfold Kw
 refine bC (env:=env) (nb:=0) (l.length) (fun i=>⟨sl 29 [(0,.pv (.list 3 (l.map ND))),(3,.pv (.int .i64 i))],[],[],none⟩) (fun i=>WZ [(0,.pv (.list 3 (l.map ND))),(2,.any)] [(0,.pv (.list 3 (l.map ND))),(2,.pv (.bool false))] ((l.drop (i)).all smE)) h (fun _=>rfl) (fun _=>by simp only [aB,bg,Nat.reduceMul,Nat.reduceBEq,Nat.reduceLT,Nat.reduceLeDiff,Nat.reduceAdd,decide_true,Bool.and_self,Bool.true_and]) ?_ ?_
 ·intro i rb hi ih
  have hll:=hz.1
  have hi1:IntKind.i64.wrap ((i:Int)+1)=((i+1:Nat):Int):=by rw [bf (by omega)];omega
  have F1:((i:Int)<(l.length:Int))=True:=eq_true (by omega)
  have hx:=aeC hi
  have e1:=am0 (hz.2 _ (List.getElem_mem hi)).1
  rw [Zo hi]
  unfold smE
  by_cases c:l[i].ws.length≤8
  ·have G:((l[i].ws.length:Int) > 8)=False:=eq_false (by omega)
   rw [decide_eq_true c,Bool.true_and]
   cases c2:Zn l[i].ws with
   |true =>
    rw [c2] at e1
    rw [Bool.true_and]
    simp only [zG,F1,G,e1,hx,jA,au hi,List.length_map,ak,Nat.reduceMul,Nat.reduceBEq,Nat.reduceLT,Nat.reduceLeDiff,reduceCtorEq,Nat.reduceEqDiff,Nat.reduceAdd,Nat.beq]
    rw [ih _ (by simp only [hi1,ak,Nat.reduceMul,Nat.reduceBEq,Nat.reduceLT,Nat.reduceLeDiff,reduceCtorEq,Nat.reduceEqDiff,Nat.reduceAdd,Nat.beq]<;>rfl)]
    rfl
   |false =>
    rw [c2] at e1
    rw [Bool.false_and,Nz]
    simp only [zG,F1,G,e1,hx,jA,au hi,List.length_map,ak,Nat.reduceMul,Nat.reduceBEq,Nat.reduceLT,Nat.reduceLeDiff,reduceCtorEq,Nat.reduceEqDiff,Nat.reduceAdd,Nat.beq]
  ·have G:((l[i].ws.length:Int) > 8)=True:=eq_true (by omega)
   rw [decide_eq_false c,Bool.false_and,Bool.false_and,Nz]
   simp only [zG,F1,G,hx,jA,au hi,List.length_map,ak,Nat.reduceMul,Nat.reduceBEq,Nat.reduceLT,Nat.reduceLeDiff,reduceCtorEq,Nat.reduceEqDiff,Nat.reduceAdd,Nat.beq]
 ·intro rb
  rw [adM,W9]
  simp only [zG,Int.lt_irrefl,List.length_map,ak,Nat.reduceMul,Nat.reduceBEq,Nat.reduceLT,Nat.reduceLeDiff,reduceCtorEq,Nat.reduceEqDiff,Nat.reduceAdd,Nat.beq]
theorem ano {l:List jC} (hz:szE l):cal env 28 [.list 3 (l.map ND)]=some [(.bool (Dn l),false)]:=by
 unfold Dn
 rw [ah alN rfl];simp only [abE,aB,Nat.reduceBEq,Nat.reduceLeDiff,Nat.reduceAdd,List.length_cons,List.length_nil]
 simp only [List.length_map,ak,Nat.reduceMul,Nat.reduceBEq,Nat.reduceLT,Nat.reduceLeDiff,reduceCtorEq,Nat.reduceEqDiff,Nat.reduceAdd,Nat.beq]
 rw [akK (l:=l) hz (by simp only [aB,bg,Nat.reduceMul,Nat.reduceBEq,Nat.reduceLT,Nat.reduceLeDiff,Nat.reduceAdd,decide_true,Bool.and_self,Bool.true_and]<;>rfl),List.drop_zero]
 cases l.all smE with
 |false=>rw [Nz,Bool.false_and];simp only [ak,Nat.reduceMul,Nat.reduceBEq,Nat.reduceLT,Nat.reduceLeDiff,reduceCtorEq,Nat.reduceEqDiff,Nat.reduceAdd,Nat.beq]
 |true =>
  rw [W9,Bool.true_and]
  by_cases c:l.length≤30
  ·have G:((l.length:Int)≤30)=True:=eq_true (by omega)
   rw [decide_eq_true c]
   simp only [G,List.length_map,ak,Nat.reduceMul,Nat.reduceBEq,Nat.reduceLT,Nat.reduceLeDiff,reduceCtorEq,Nat.reduceEqDiff,Nat.reduceAdd,Nat.beq]
  ·have G:((l.length:Int)≤30)=False:=eq_false (by omega)
   rw [decide_eq_false c]
   simp only [G,List.length_map,ak,Nat.reduceMul,Nat.reduceBEq,Nat.reduceLT,Nat.reduceLeDiff,reduceCtorEq,Nat.reduceEqDiff,Nat.reduceAdd,Nat.beq]
def zEv:jC:=⟨0,0,[]⟩
def aeD (l:List jC) (i:Nat):jC:=l.getD i zEv
theorem Xa {l:List jC} (h:Dn l=true) (hz:szE l) (i:Nat):gdE (aeD l i):=by
 unfold aeD
 rw [List.getD_eq_getElem?_getD]
 cases e:l[i]? with
 |none=>exact ⟨⟨by decide,by decide⟩,fun w hw=>by cases hw⟩
 |some x =>
  have hx:=List.mem_of_getElem? e
  unfold Dn at h
  simp only [Bool.and_eq_true,List.all_eq_true,decide_eq_true_eq] at h
  have:=h.1 x hx
  unfold smE at this
  simp only [Bool.and_eq_true,decide_eq_true_eq] at this
  exact ⟨(hz.2 x hx).2.2,fun w hw=>(akp this.2).2.2 w hw⟩
end Go.Proofs.YtpcncggjmabnaaaGreatDoor.V

namespace Go.Proofs.YtpcncggjmabnaaaGreatDoor.V
def q0 (z:List Int) (n:Int):kJ:=⟨n,z,[],false,0,0,[]⟩
def s0 (z:List Int) (n:Int):iD:=⟨bn z,bn z,q0 z n,0,0,true⟩
theorem ahu {z:List Int} {n:Int} (h:aP z=0) (hn:1≤n∧n≤1024):agF z n=q0 z n∧Jg z n=0:=by
 have e:Jg z n=0:=by unfold Jg;rw [if_pos h,if_neg (by omega)]
 exact ⟨by unfold agF;rw [if_pos e];rfl,e⟩
theorem anp {z:List Int} {n:Int} (h:aP z=0) (hz:∀ x∈z,x≤400) (hn:1≤n∧n≤1024):gdP (s0 z n):=by
 have hl:z.length≤8:=by
  unfold aP at h
  split at h
  ·omega
  ·omega
 refine ⟨?_,lX h,BI h ⟨hn.1,hn.2,Int.le_refl _,Int.le_refl _,(by decide:(0:Int)≤1073741824)⟩ (.inr ⟨rfl,rfl,by show (0:Int)≤n;omega,rfl⟩),⟨by show z.length≤1000;omega,Nat.zero_le _,Nat.zero_le _,fun c hc=>(by cases hc),fun b hb=>(by cases hb)⟩,fun v hv=>?_,by show (0:Int)≤1000000;decide,rfl⟩
 ·show aP (aA (bn z))=0
  rw [lX h];exact h
 ·have hv:v∈bn z:=hv
  unfold bn at hv
  obtain ⟨x,hx,rfl⟩:=List.mem_map.1 hv
  have:=hz x hx
  rw [List.length_replicate];omega
end Go.Proofs.YtpcncggjmabnaaaGreatDoor.V

namespace Go.Proofs.YtpcncggjmabnaaaGreatDoor.V
theorem ahv {z:List Int} {f l:Int} (h:yF z f [] l=true):f=l:=by simpa [yF] using h
theorem akL {s:kJ} (h:Ht s s.fs=0):Dk s s.fs=s:=by
 have h0:nC s.fs s.cy s.fs=0:=by
  cases s.cy with
  |nil=>rfl
  |cons c cs=>unfold nC;rw [if_neg (by omega)]
 unfold Dk
 rw [if_pos h,h0,List.drop_zero]
def stepT (s:iD) (x:jC):iD:=if x.kind % 4=0 then jD s x else if x.kind % 4=1 then jc s else if x.kind % 4=2 then iL s else s
def Js (s:iD) (l:List jC):Nat→iD
 |0=>s
 |i+1=>stepT (Js s l i) (aeD l i)
def kpJ (n:Int) (z:List Int) (s:iD) (i:Nat):Prop:=NG s∧s.q.lm=n∧s.q.sz=z∧s.q.ls≤3 * (i:Int)
theorem aeE {n:Int} {z:List Int} {s:iD} {x:jC} {i:Nat} (h:kpJ n z s i) (hx:gdE x) (hn:n≤900) (hi:i≤1000):kpJ n z (stepT s x) (i+1):=by
 obtain ⟨h1,h2,h3,h4⟩:=h
 unfold stepT
 split
 ·obtain ⟨g1,g2,g3,g4⟩:=ahq h1 hx (by omega) (by omega)
  exact ⟨g1,g3.trans h2,g4.trans h3,by omega⟩
 split
 ·obtain ⟨g1,g2,g3,g4,_⟩:=Q8 h1
  exact ⟨g1,g3.trans h2,g4.trans h3,by omega⟩
 split
 ·obtain ⟨g1,g2,g3,g4,_⟩:=Gq h1
  exact ⟨g1,g3.trans h2,g4.trans h3,by omega⟩
 ·exact ⟨h1,h2,h3,by omega⟩
theorem Aj {n:Int} {z:List Int} {s:iD} {l:List jC} (h:kpJ n z s 0) (hn:n≤900) (hs:Dn l=true) (hz:szE l):∀ i,i≤1000→kpJ n z (Js s l i) i
 |0,_=>h
 |i+1,hi=>aeE (Aj h hn hs hz i (by omega)) (Xa hs hz i) hn (by omega)
theorem aeF {s:iD} (h:NG s):(s.q.cy.length:Int)≤s.q.lm:=by
 obtain ⟨k1,k2,k3⟩:=qZ h.ck
 rcases k3 with ⟨_,g,_⟩|⟨_,_,g,_⟩
 ·rw [g];show (0:Int)≤_;omega
 ·exact g
def Jt (s:iD):Nat→iD
 |0=>s
 |i+1=>jc (Jt s i)
theorem Vr {s:iD} (h:NG s) (ho:s.q.ov=false):∀ i,NG (Jt s i)∧(Jt s i).q.ov=false∧(Jt s i).q.cy=s.q.cy.drop i∧(Jt s i).q.sz=s.q.sz
 |0=>⟨h,ho,rfl,rfl⟩
 |i+1=>by
  obtain ⟨h1,h2,h3,h4⟩:=Vr h ho i
  obtain ⟨g1,g2,g3,g4,g5,g6⟩:=Q8 h1
  refine ⟨g1,g6.trans h2,?_,g4.trans h4⟩
  show (jc (Jt s i)).q.cy=_
  rw [g5,h3,List.tail_drop]
def runT (z:List Int) (n:Nat) (l:List jC):iD:=Jt (iL (Js (s0 z n) l l.length)) n
theorem aif {z:List Int} {n:Int} (h:aP z=0) (hz:∀ x∈z,x≤400) (hn:1≤n∧n≤1024):NG (s0 z n):=by
 have g:=anp h hz hn
 exact ⟨g.im,g.sz,lX h,g.ck,g.sm,g.vo,rfl,fun _=>rfl,fun e=>by cases e⟩
theorem run_end {z:List Int} {n:Nat} {l:List jC} (h:aP z=0) (hz:∀ x∈z,x≤400) (hn:1≤n∧n≤900) (hs:Dn l=true) (hl:szE l):NG (runT z n l)∧(runT z n l).q.ov=false∧(runT z n l).q.cy=[]∧(runT z n l).so=(runT z n l).ta∧(runT z n l).q.fs=(runT z n l).q.ls:=by
 have hle:l.length≤30:=by
  unfold Dn at hs
  simp only [Bool.and_eq_true,decide_eq_true_eq] at hs
  exact hs.2
 have h0:kpJ (n:Int) z (s0 z n) 0:=⟨aif h hz (by omega),rfl,rfl,by show (0:Int)≤_;omega⟩
 obtain ⟨a1,a2,a3,a4⟩:=Aj h0 (by omega) hs hl l.length (by omega)
 obtain ⟨d1,d2,d3,d4,d5⟩:=Gq a1
 obtain ⟨b1,b2,b3,b4⟩:=Vr d1 d5 n
 have hc:=aeF d1
 rw [d3,a2] at hc
 have hcy:(runT z n l).q.cy=[]:=by
  show (Jt (iL (Js (s0 z n) l l.length)) n).q.cy=[]
  rw [b3]
  exact List.drop_eq_nil_of_le (by omega)
 refine ⟨b1,b2,hcy,?_,?_⟩
 ·have:=b1.qu b2
  unfold tgt at this
  rw [show (Jt (iL (Js (s0 z n) l l.length)) n).q.cy=[] from hcy] at this
  exact this.symm
 ·obtain ⟨k1,k2,k3⟩:=qZ b1.ck
  rcases k3 with ⟨g,_⟩|⟨_,_,_,g⟩
  ·rw [b2] at g;cases g
  ·rw [show (Jt (iL (Js (s0 z n) l l.length)) n).q.cy=[] from hcy] at g
   exact ahv g
theorem akN {n:Int} {z:List Int} {l:List jC} {y0 y1 y2 y3 y4 y5 y6:PV} (hJ:kpJ n z (s0 z n) 0) (hn:1≤n∧n≤900) (hs:Dn l=true) (hz:szE l) {st:St} (h:st.head [1,2,6,12,13] st.boxes.length=some ⟨sl 111 [(1,.pv (.int .i64 n)),(2,.pv (.list 3 (l.map ND))),(6,.aI 0 0),(12,.aI 2 0),(13,.pv (.int .i64 (0:Nat)))],[⟨false,QZ⟩,⟨false,[.pv y0,.pv y1,.pv y2,.pv y3,.pv y4,.pv y5,.pv y6]⟩,⟨false,Nw (Js (s0 z n) l ((0:Nat)))⟩],[],none⟩) :
  den env Ky st=some (.normal,⟨sl 111 [(1,.pv (.int .i64 n)),(6,.aI 0 0),(7,.any),(12,.aI 2 0)],[⟨false,QZ⟩,⟨false,[.pv y0,.pv y1,.pv y2,.pv y3,.pv y4,.pv y5,.pv y6]⟩,⟨false,Nw (Js (s0 z n) l l.length)⟩],[],none⟩):=by
 unfold Ky
 refine bC (env:=env) (nb:=3) (l.length) (fun i=>⟨sl 111 [(1,.pv (.int .i64 n)),(2,.pv (.list 3 (l.map ND))),(6,.aI 0 0),(12,.aI 2 0),(13,.pv (.int .i64 i))],[⟨false,QZ⟩,⟨false,[.pv y0,.pv y1,.pv y2,.pv y3,.pv y4,.pv y5,.pv y6]⟩,⟨false,Nw (Js (s0 z n) l (i))⟩],[],none⟩) (fun i=>some (.normal,⟨sl 111 [(1,.pv (.int .i64 n)),(6,.aI 0 0),(7,.any),(12,.aI 2 0)],[⟨false,QZ⟩,⟨false,[.pv y0,.pv y1,.pv y2,.pv y3,.pv y4,.pv y5,.pv y6]⟩,⟨false,Nw (Js (s0 z n) l l.length)⟩],[],none⟩)) h (fun _=>rfl) (fun _=>by simp only [aB,bg,Nat.reduceMul,Nat.reduceBEq,Nat.reduceLT,Nat.reduceLeDiff,Nat.reduceAdd,decide_true,Bool.and_self,Bool.true_and]) ?_ ?_
 ·intro i rb hi ih
  have hle:l.length≤30:=by
   unfold Dn at hs
   simp only [Bool.and_eq_true,decide_eq_true_eq] at hs
   exact hs.2
  have hi1:=bG hi (by unfold lim;omega)
  have F1:((i:Int)<(l.length:Int))=True:=eq_true (by omega)
  have hI:=Aj hJ (by omega) hs hz i (by omega)
  have hI2:=Aj hJ (by omega) hs hz (i+1) (by omega)
  have hgx:=Xa hs hz i
  have hev:aeD l i=l[i]:=by unfold aeD;rw [List.getD_eq_getElem?_getD,List.getElem?_eq_getElem hi];rfl
  have hS2:Js (s0 z n) l (i+1)=stepT (Js (s0 z n) l i) l[i]:=by rw [← hev];rfl
  rw [hev] at hgx
  have hk:=(hz.2 _ (List.getElem_mem hi)).2.1
  have hx:=aeC hi
  have hrt:=hI.1.rt
  have Ak:=hI2.1.rt
  have G2:((((Js (s0 z n) l (i+1)).q.cy.length:Nat):Int)≤n)=True:=eq_true (by have:=aeF hI2.1;rw [hI2.2.1] at this;exact this)
  rw [hS2] at ih G2 Ak
  have T1:l[i].kind.tmod 4=l[i].kind % 4:=Int.tmod_eq_emod_of_nonneg hk.1
  have T2:IntKind.u8.wrap (l[i].kind % 4)=l[i].kind % 4:=Go.IntWalk.u8_in _ (by omega)
  have Z4:((4:Int)=0)=False:=eq_false (by decide)
  have e0:=anl (s:=Js (s0 z n) l i) ⟨hI.1.so,hI.1.sz,hI.1.ck,hI.1.sm,hI.1.vo,by have:=hI.2.2.2;omega,hI.1.rt⟩ hgx
  have e1:=aib (Vp hI.1)
  have e2:=aic (Vq hI.1)
  have e3:=ah7 (n:=(Js (s0 z n) l i).q.fs) hI.1.sm
  have e4:=fun h=>akL (s:=(Js (s0 z n) l i).q) h
  generalize Js (s0 z n) l i=S1 at *
  rw [lQ S1,hrt] at e0 e1 e2
  rw [aej] at e0
  rw [bW S1.q] at e3
  have hq:l[i].kind % 4=0∨l[i].kind % 4=1∨l[i].kind % 4=2∨l[i].kind % 4=3:=by omega
  rcases hq with q|q|q|q
  ·have hT:stepT S1 l[i]=jD S1 l[i]:=by unfold stepT;rw [if_pos q]
   rw [hT] at ih G2 Ak
   rw [q] at T1 T2
   have Q:((0:Int)==0)=true:=rfl
   generalize jD S1 l[i]=S2 at *
   rw [lQ S2,Ak] at e0
   simp only [uI,F1,G2,hrt,Ak,T1,T2,Z4,Q,e0,hx,jA,kV,fH,fB,au hi,List.length_map,ak,Nat.reduceMul,Nat.reduceBEq,Nat.reduceLT,Nat.reduceLeDiff,reduceCtorEq,Nat.reduceEqDiff,Nat.reduceAdd,Nat.beq]
   rw [ih _ (by simp only [hi1,Ak,fH,fB,ak,Nat.reduceMul,Nat.reduceBEq,Nat.reduceLT,Nat.reduceLeDiff,reduceCtorEq,Nat.reduceEqDiff,Nat.reduceAdd,Nat.beq]<;>rfl)]
   try rfl
  ·have hT:stepT S1 l[i]=jc S1:=by unfold stepT;rw [if_neg (by omega),if_pos q]
   rw [hT] at ih G2 Ak
   rw [q] at T1 T2
   have Q0:((1:Int)==0)=false:=rfl
   have Q:((1:Int)==1)=true:=rfl
   generalize jc S1=S2 at *
   rw [lQ S2,Ak] at e1
   simp only [uI,F1,G2,hrt,Ak,T1,T2,Z4,Q0,Q,e1,hx,jA,kV,fH,fB,au hi,List.length_map,ak,Nat.reduceMul,Nat.reduceBEq,Nat.reduceLT,Nat.reduceLeDiff,reduceCtorEq,Nat.reduceEqDiff,Nat.reduceAdd,Nat.beq]
   rw [ih _ (by simp only [hi1,Ak,fH,fB,ak,Nat.reduceMul,Nat.reduceBEq,Nat.reduceLT,Nat.reduceLeDiff,reduceCtorEq,Nat.reduceEqDiff,Nat.reduceAdd,Nat.beq]<;>rfl)]
   try rfl
  ·have hT:stepT S1 l[i]=iL S1:=by unfold stepT;rw [if_neg (by omega),if_neg (by omega),if_pos q]
   rw [hT] at ih G2 Ak
   rw [q] at T1 T2
   have Q0:((2:Int)==0)=false:=rfl
   have Q1:((2:Int)==1)=false:=rfl
   have Q:((2:Int)==2)=true:=rfl
   generalize iL S1=S2 at *
   rw [lQ S2,Ak] at e2
   simp only [uI,F1,G2,hrt,Ak,T1,T2,Z4,Q0,Q1,Q,e2,hx,jA,kV,fH,fB,au hi,List.length_map,ak,Nat.reduceMul,Nat.reduceBEq,Nat.reduceLT,Nat.reduceLeDiff,reduceCtorEq,Nat.reduceEqDiff,Nat.reduceAdd,Nat.beq]
   rw [ih _ (by simp only [hi1,Ak,fH,fB,ak,Nat.reduceMul,Nat.reduceBEq,Nat.reduceLT,Nat.reduceLeDiff,reduceCtorEq,Nat.reduceEqDiff,Nat.reduceAdd,Nat.beq]<;>rfl)]
   try rfl
  ·have hT:stepT S1 l[i]=S1:=by unfold stepT;rw [if_neg (by omega),if_neg (by omega),if_neg (by omega)]
   rw [hT] at ih G2 Ak
   rw [q] at T1 T2
   have Q0:((3:Int)==0)=false:=rfl
   have Q1:((3:Int)==1)=false:=rfl
   have Q2:((3:Int)==2)=false:=rfl
   have Q:((3:Int)==3)=true:=rfl
   by_cases c:Ht S1.q S1.q.fs=0
   ·rw [e4 c,c,bW S1.q] at e3
    have Q4:((0:Int)==0)=true:=rfl
    simp only [uI,F1,G2,hrt,T1,T2,Z4,Q0,Q1,Q2,Q,Q4,e3,hx,jA,dh,kV,fH,fB,au hi,List.length_map,ak,Nat.reduceMul,Nat.reduceBEq,Nat.reduceLT,Nat.reduceLeDiff,reduceCtorEq,Nat.reduceEqDiff,Nat.reduceAdd,Nat.beq]
    rw [ih _ (by simp only [hi1,hrt,fH,fB,ak,Nat.reduceMul,Nat.reduceBEq,Nat.reduceLT,Nat.reduceLeDiff,reduceCtorEq,Nat.reduceEqDiff,Nat.reduceAdd,Nat.beq]<;>rfl)]
    try rfl
   ·have Q4:(Ht S1.q S1.q.fs==0)=false:=by simp [c]
    generalize Dk S1.q S1.q.fs=QQ at *
    rw [bW QQ] at e3
    simp only [uI,F1,G2,hrt,T1,T2,Z4,Q0,Q1,Q2,Q,Q4,e3,hx,jA,dh,kV,fH,fB,au hi,List.length_map,ak,Nat.reduceMul,Nat.reduceBEq,Nat.reduceLT,Nat.reduceLeDiff,reduceCtorEq,Nat.reduceEqDiff,Nat.reduceAdd,Nat.beq]
    rw [ih _ (by simp only [hi1,hrt,fH,fB,ak,Nat.reduceMul,Nat.reduceBEq,Nat.reduceLT,Nat.reduceLeDiff,reduceCtorEq,Nat.reduceEqDiff,Nat.reduceAdd,Nat.beq]<;>rfl)]
    try rfl
 ·intro rb
  simp only [uI,Int.lt_irrefl,fH,fB,List.length_map,ak,Nat.reduceMul,Nat.reduceBEq,Nat.reduceLT,Nat.reduceLeDiff,reduceCtorEq,Nat.reduceEqDiff,Nat.reduceAdd,Nat.beq]
theorem aeG {n:Nat} {s:iD} {y0 y1 y2 y3 y4 y5 y6:PV} (hJ:NG s) (ho:s.q.ov=false) (hn:n≤900) {st:St} (h:st.head [1,6,12,16] st.boxes.length=some ⟨sl 111 [(1,.pv (.int .i64 (n:Nat))),(6,.aI 0 0),(12,.aI 2 0),(16,.pv (.int .i64 (0:Nat)))],[⟨false,QZ⟩,⟨false,[.pv y0,.pv y1,.pv y2,.pv y3,.pv y4,.pv y5,.pv y6]⟩,⟨false,Nw (Jt s ((0:Nat)))⟩],[],none⟩) :
  den env KA st=some (.normal,⟨sl 111 [(6,.aI 0 0),(7,.any),(12,.aI 2 0)],[⟨false,QZ⟩,⟨false,[.pv y0,.pv y1,.pv y2,.pv y3,.pv y4,.pv y5,.pv y6]⟩,⟨false,Nw (Jt s n)⟩],[],none⟩):=by
 unfold KA
 refine bC (env:=env) (nb:=3) (n) (fun i=>⟨sl 111 [(1,.pv (.int .i64 (n:Nat))),(6,.aI 0 0),(12,.aI 2 0),(16,.pv (.int .i64 i))],[⟨false,QZ⟩,⟨false,[.pv y0,.pv y1,.pv y2,.pv y3,.pv y4,.pv y5,.pv y6]⟩,⟨false,Nw (Jt s (i))⟩],[],none⟩) (fun i=>some (.normal,⟨sl 111 [(6,.aI 0 0),(7,.any),(12,.aI 2 0)],[⟨false,QZ⟩,⟨false,[.pv y0,.pv y1,.pv y2,.pv y3,.pv y4,.pv y5,.pv y6]⟩,⟨false,Nw (Jt s n)⟩],[],none⟩)) h (fun _=>rfl) (fun _=>by simp only [aB,bg,Nat.reduceMul,Nat.reduceBEq,Nat.reduceLT,Nat.reduceLeDiff,Nat.reduceAdd,decide_true,Bool.and_self,Bool.true_and]) ?_ ?_
 ·intro i rb hi ih
  have hi1:=bG hi (by unfold lim;omega)
  have F1:((i:Int)<(n:Int))=True:=eq_true (by omega)
  obtain ⟨h1,h2,h3,h4⟩:=Vr hJ ho i
  have hrt:=h1.rt
  have e1:=aib (Vp h1)
  rw [show jc (Jt s i)=Jt s (i+1) from rfl] at e1
  generalize Jt s (i+1)=S2 at *
  generalize Jt s i=S1 at *
  rw [lQ S1,lQ S2,hrt] at e1
  simp only [Kz,F1,hrt,e1,kV,fH,fB,List.length_map,ak,Nat.reduceMul,Nat.reduceBEq,Nat.reduceLT,Nat.reduceLeDiff,reduceCtorEq,Nat.reduceEqDiff,Nat.reduceAdd,Nat.beq]
  rw [ih _ (by simp only [hi1,fH,fB,ak,Nat.reduceMul,Nat.reduceBEq,Nat.reduceLT,Nat.reduceLeDiff,reduceCtorEq,Nat.reduceEqDiff,Nat.reduceAdd,Nat.beq]<;>rfl)]
  try rfl
 ·intro rb
  simp only [Kz,Int.lt_irrefl,fH,fB,List.length_map,ak,Nat.reduceMul,Nat.reduceBEq,Nat.reduceLT,Nat.reduceLeDiff,reduceCtorEq,Nat.reduceEqDiff,Nat.reduceAdd,Nat.beq]
set_option maxRecDepth 40000 in
set_option maxHeartbeats 1000000 in
theorem anq {z:List Int} {n:Nat} {l:List jC} (h:aP z=0) (hz:∀ x∈z,x≤400) (hn:1≤n∧n≤900) (hs:Dn l=true) (hl:szE l):cal env 29 [.list 1 (z.map eI),.int .i64 (n:Nat),.list 3 (l.map ND)]=some [(eSt (runT z n l),false),(.bool true,false)]:=by
 have hle:l.length≤30:=by
  unfold Dn at hs
  simp only [Bool.and_eq_true,decide_eq_true_eq] at hs
  exact hs.2
 have h0:kpJ (n:Int) z (s0 z n) 0:=⟨aif h hz (by omega),rfl,rfl,by show (0:Int)≤_;omega⟩
 obtain ⟨a1,a2,a3,a4⟩:=Aj h0 (by omega) hs hl l.length (by omega)
 obtain ⟨d1,d2,d3,d4,d5⟩:=Gq a1
 have hrt:=a1.rt
 have hzl:z.length≤8:=by
  unfold aP at h
  split at h<;>omega
 have e1:=amB (z:=z) (by omega)
 rw [h,if_pos rfl] at e1
 have e2:=amA (z:=z) (n:=n) (by unfold lim;omega)
 obtain ⟨q1,q2⟩:=ahu (z:=z) (n:=n) h (by omega)
 rw [q1,q2] at e2
 have hE:kK (q0 z n)=.agg [.int .i64 (n:Nat),.list 1 (z.map eI),.list 5 [],.bool false,.int .i64 0,.int .i64 0,.list 2 []]:=rfl
 rw [hE] at e2
 have hs0:Nw (s0 z n)=[.pv (.list 1 ((bn z).map aX)),.pv (.list 1 ((bn z).map aX)),.pv (.int .i64 (n:Nat)),.pv (.list 1 (z.map eI)),.pv (.list 5 []),.pv (.bool false),.pv (.int .i64 0),.pv (.int .i64 0),.pv (.list 2 []),.pv (.int .i64 0),.pv (.int .i64 0),.pv (.bool true)]:=rfl
 have e3:=aic (Vq a1)
 have hT:runT z n l=Jt (iL (Js (s0 z n) l l.length)) n:=rfl
 rw [hT]
 generalize hIM:(bn z).map aX=IM at *
 rw [ah alO rfl];simp only [abG,aB,Nat.reduceBEq,Nat.reduceLeDiff,Nat.reduceAdd,List.length_cons,List.length_nil]
 simp only [e1,e2,eI,dh,kV,List.length_map,ak,Nat.reduceMul,Nat.reduceBEq,Nat.reduceLT,Nat.reduceLeDiff,reduceCtorEq,Nat.reduceEqDiff,Nat.reduceAdd,Nat.beq]
 rw [akN (n:=(n:Int)) (z:=z) (l:=l) h0 (by omega) hs hl (by simp only [show Js (s0 z n) l 0=s0 z n from rfl,hs0,fB];simp only [aB,bg,Nat.reduceMul,Nat.reduceBEq,Nat.reduceLT,Nat.reduceLeDiff,Nat.reduceAdd,decide_true,Bool.and_self,Bool.true_and]<;>rfl)]
 generalize Js (s0 z n) l l.length=S1 at *
 generalize iL S1=S2 at *
 rw [lQ S1,hrt,lQ S2] at e3
 simp only [e3,hrt,dh,kV,fH,fB,ak,Nat.reduceMul,Nat.reduceBEq,Nat.reduceLT,Nat.reduceLeDiff,reduceCtorEq,Nat.reduceEqDiff,Nat.reduceAdd,Nat.beq]
 rw [aeG (n:=n) (s:=S2) d1 d5 (by omega) (by simp only [show Jt S2 0=S2 from rfl,fH,fB];simp only [aB,bg,Nat.reduceMul,Nat.reduceBEq,Nat.reduceLT,Nat.reduceLeDiff,Nat.reduceAdd,decide_true,Bool.and_self,Bool.true_and]<;>rfl)]
 simp only [lQ,dh,kV,fH,fB,ak,Nat.reduceMul,Nat.reduceBEq,Nat.reduceLT,Nat.reduceLeDiff,reduceCtorEq,Nat.reduceEqDiff,Nat.reduceAdd,Nat.beq]
end Go.Proofs.YtpcncggjmabnaaaGreatDoor.V

namespace Go.Proofs.YtpcncggjmabnaaaGreatDoor.V
theorem anr {a:Int} (h:0≤a∧a≤255):aP [1+a % 20,3]=0∧∀ x∈[1+a % 20,3],x≤400:=by
 refine ⟨?_,fun x hx=>?_⟩
 ·unfold aP
  have e1:decide (1+a % 20<1)=false:=decide_eq_false (by omega)
  have e2:decide (1+a % 20 > 4096)=false:=decide_eq_false (by omega)
  rw [if_neg (by show ¬ ((2:Nat)<1∨8<2);decide),if_neg (by simp only [List.any_cons,List.any_nil,e1,e2];decide)]
 ·rcases List.mem_cons.1 hx with e|e
  ·omega
  ·rw [List.mem_singleton.1 e];decide
set_option maxRecDepth 40000 in
set_option maxHeartbeats 1000000 in
theorem ao7 {a b:Int} {l:List jC} (ha:0≤a∧a≤255) (hb:0≤b∧b≤255) (hz:szE l):cal env 7 [.int .u8 a,.int .u8 b,.list 3 (l.map ND)]=some [(.bool true,false)]:=by
 have a1:=ac8
 have e0:=ano hz
 cases c0:Dn l with
 |false =>
  rw [c0] at e0
  rw [ah alL rfl];simp only [fn7,aB,Nat.reduceBEq,Nat.reduceLeDiff,Nat.reduceAdd,List.length_cons,List.length_nil]
  simp only [a1,e0,List.length_map,ak,Nat.reduceMul,Nat.reduceBEq,Nat.reduceLT,Nat.reduceLeDiff,reduceCtorEq,Nat.reduceEqDiff,Nat.reduceAdd,Nat.beq]
 |true =>
  rw [c0] at e0
  obtain ⟨k,hk⟩:∃ k:Nat,1+b % 5=(k:Int):=⟨(1+b % 5).toNat,by omega⟩
  have hk9:1≤k∧k≤900:=by omega
  obtain ⟨z1,z2⟩:=anr ha
  have W1:IntKind.i64.wrap a=a:=bf (by omega)
  have W2:IntKind.i64.wrap b=b:=bf (by omega)
  have T1:a.tmod 20=a % 20:=Int.tmod_eq_emod_of_nonneg ha.1
  have T2:b.tmod 5=b % 5:=Int.tmod_eq_emod_of_nonneg hb.1
  have W3:IntKind.i64.wrap (a % 20)=a % 20:=bf (by omega)
  have W4:IntKind.i64.wrap (1+a % 20)=1+a % 20:=bf (by omega)
  have W5:IntKind.i64.wrap (b % 5)=b % 5:=bf (by omega)
  have W6:IntKind.i64.wrap (1+b % 5)=1+b % 5:=bf (by omega)
  have Z20:((20:Int)=0)=False:=eq_false (by decide)
  have Z5:((5:Int)=0)=False:=eq_false (by decide)
  have e1:=anq (n:=k) (l:=l) z1 z2 hk9 c0 hz
  obtain ⟨r1,r2,r3,r4,r5⟩:=run_end (n:=k) (l:=l) z1 z2 hk9 c0 hz
  have hl2:[1+a % 20,(3:Int)].map eI=[.int .i64 (1+a % 20),.int .i64 3]:=rfl
  rw [hl2,← hk] at e1
  obtain ⟨s1,s2⟩:=pW r1.so
  have e2:=ah5 r1.sm
  have f1:frC (runT [1+a % 20,3] k l).q=Hr:=by unfold frC;rw [if_pos r1.ck,r3];rfl
  have f2:frO (runT [1+a % 20,3] k l).q=false:=by unfold frO;rw [r3];simp
  rw [f1,f2,rQ] at e2
  have e3:=amr (a:=(runT [1+a % 20,3] k l).so) (b:=(runT [1+a % 20,3] k l).ta) (by unfold lim;omega) (fun v hv=>by have:=s2 v hv;unfold lim;omega)
  rw [decide_eq_true r4] at e3
  have R5:((runT [1+a % 20,3] k l).q.fs==(runT [1+a % 20,3] k l).q.ls)=true:=by simp [r5]
  have hrt:=r1.rt
  generalize runT [1+a % 20,3] k l=S at *
  rw [lQ,hrt,r2] at e1
  rw [bW,r2] at e2
  have SC:(PV.agg [.list 1 (S.so.map aX),.list 1 (S.ta.map aX),.int .i64 S.q.lm,.list 1 (S.q.sz.map eI),.list 5 (S.q.cy.map eP),.bool false,.int .i64 S.q.fs,.int .i64 S.q.ls,.list 2 (S.q.dt.map iW),.int .i64 S.se,.int .i64 S.ma,.bool true]).scalar=false:=rfl
  rw [ah alL rfl];simp only [fn7,aB,Nat.reduceBEq,Nat.reduceLeDiff,Nat.reduceAdd,List.length_cons,List.length_nil]
  simp only [SC,a1,e0,e1,e2,e3,R5,hrt,r2,W1,W2,W3,W4,W5,W6,T1,T2,Z20,Z5,dh,iq,kV,List.length_map,ak,Nat.reduceMul,Nat.reduceBEq,Nat.reduceLT,Nat.reduceLeDiff,reduceCtorEq,Nat.reduceEqDiff,Nat.reduceAdd,Nat.beq]
end Go.Proofs.YtpcncggjmabnaaaGreatDoor.V

namespace Go.Proofs.YtpcncggjmabnaaaGreatDoor
open Go.RowKit
def je (arr:Array Value) (fr to:Nat):Array Value:=arr.mapIdx fun t u=>if fr≤t∧t<to then .bool true else u
theorem lS (arr:Array Value) (fr:Nat):je arr fr fr=arr:=by
 unfold je
 apply Array.ext (by simp)
 intro i h1 h2
 simp only [Array.getElem_mapIdx]
 rw [if_neg (by omega)]
theorem sZ (arr:Array Value) {fr k:Nat} (h:fr≤k):(je arr fr k).setIfInBounds k (.bool true)=je arr fr (k+1):=by
 unfold je
 apply Array.ext_getElem?
 intro i
 rw [Array.getElem?_setIfInBounds,Array.getElem?_mapIdx,Array.getElem?_mapIdx,Array.size_mapIdx]
 by_cases e:k=i
 ·subst e
  rw [if_pos rfl]
  by_cases hk:k<arr.size
  ·rw [if_pos hk,Array.getElem?_eq_getElem hk,Option.map_some,if_pos ⟨h,by omega⟩]
  ·rw [if_neg hk,Array.getElem?_eq_none (by omega)];rfl
 ·rw [if_neg e]
  cases arr[i]? with
  |none=>rfl
  |some u =>
   simp only [Option.map_some]
   by_cases q:fr≤i∧i<k
   ·rw [if_pos q,if_pos ⟨q.1,by omega⟩]
   ·rw [if_neg q,if_neg (by omega)]
def vg (w w':World) (b:Nat):Prop:=w.heap.size≤w'.heap.size∧w'.os=w.os∧w'.tape=w.tape∧w'.output=w.output∧∀ c,c<w.heap.size→c≠b→w'.heap[c]?=w.heap[c]?
theorem vg.alloc (w:World) (b:Nat) (o:Obj):vg w (w.alloc o) b:=⟨by simp,rfl,rfl,rfl,fun c hc _=>Below.heap_alloc _ _ _ hc⟩
theorem vg.set {w w':World} {b:Nat} (h:vg w w' b) (k:Nat) (v:Value):vg w (w'.setCell ⟨b,k,none⟩ v) b :=
 ⟨by simpa [World.setCell] using h.1,h.2.1,h.2.2.1,h.2.2.2.1,fun c hc hne=>by
  rw [← h.2.2.2.2 c hc hne]
  exact Below.heap_setCell w' _ v c fun e=>hne e⟩
set_option maxHeartbeats 4000000 in
theorem add_any {b cc n:Nat} {arr:Array Value} {E:TypeId} {s c:Int} {w:World} (hb:w.heap[b]?=some (.cells arr E (0,0))) (hn:n≤arr.size) (hn2:n≤4096) (hs:-9223372036854775808≤s∧s≤9223372036854775807) (hc:-9223372036854775808≤c∧c≤9223372036854775807) :
  Calls Tryz.prog 115 #[.slice (some ⟨b,0,none⟩) n cc,.agg #[.int .i64 s,.int .i64 c]] w fun e w'=>e=.returned (.tuple #[])∧vg w w' b∧∃ fr to:Nat,w'.heap[b]?=some (.cells (je arr fr to) E (0,0))∧to≤max fr n∧∀ t:Nat,t<n→((fr≤t∧t<to) ↔ (0<c∧s≤(t:Int)∧(t:Int)<s+c)):=by
 have hbl:b<w.heap.size:=(Array.getElem?_eq_some_iff.1 hb).1
 by_cases h1:c≤0
 ·have key:∀ t:Nat,t<n→((0≤t∧t<0) ↔ (0<c∧s≤(t:Int)∧(t:Int)<s+c)):=fun t ht=>⟨fun h=>by omega,fun h=>by omega⟩
  go_enter Tryz.func115,Tryz.ntmps115
  go_wp2
  refine bodyPost_ret (results_none rfl _ _ _) rfl ?_
  exact ⟨rfl,vg.alloc w b _,0,0,by rw [lS,Below.heap_alloc _ _ _ hbl];exact hb,by omega,fun t ht=>⟨fun h=>by omega,fun h=>by omega⟩⟩
 by_cases h3:(n:Int)≤s
 ·have key:∀ t:Nat,t<n→((0≤t∧t<0) ↔ (0<c∧s≤(t:Int)∧(t:Int)<s+c)):=fun t ht=>⟨fun h=>by omega,fun h=>by omega⟩
  go_enter Tryz.func115,Tryz.ntmps115
  go_wp2
  refine bodyPost_ret (results_none rfl _ _ _) rfl ?_
  exact ⟨rfl,vg.alloc w b _,0,0,by rw [lS,Below.heap_alloc _ _ _ hbl];exact hb,by omega,fun t ht=>⟨fun h=>by omega,fun h=>by omega⟩⟩
 by_cases h2:s<0
 ·by_cases h4:(n:Int)≤s+c
  ·go_enter Tryz.func115,Tryz.ntmps115
   go_wp2
   go_loopw [6] (fun i wr=>∃ k:Nat,0≤k∧((k:Int)≤(n:Int)∨k=0)∧i=.int .i64 k∧wr.heap[b]?=some (.cells (je arr (0) k) E (0,0))∧vg w wr b) (fun i _=>((n:Int) - intOf i).toNat)
   case atStart =>
    exact ⟨0,Nat.le_refl _,.inr rfl,by first|rfl|(congr 1;omega),by rw [lS,Below.heap_alloc _ _ _ hbl];exact hb,vg.alloc w b _⟩
   case round =>
    obtain ⟨k,hk1,hk2,rfl,hg,hB⟩:=hrel
    by_cases hlt:(k:Int)<(n:Int)
    ·have hka:k<arr.size:=by omega
     have hfz:wr.frozen? ⟨b,k,none⟩=false:=by simp [World.frozen?,hg]
     have hsz:k<(je arr (0) k).size:=by simpa [je] using hka
     have hcell:wr.cell? ⟨b,k,none⟩=some (je arr (0) k)[k]:=by rw [cell_of_row wr _ _ _ _ (0,0) hg];exact Array.getElem?_eq_getElem hsz
     go_wp2
     go_roundw
     case rel =>
      refine ⟨k+1,by omega,.inl (by omega),by go_num,?_,hB.set _ _⟩
      simp only [World.setCell,Array.getElem?_modify,hg,if_true,Option.map_some,Option.isSome_none,Bool.false_eq_true,if_false]
      rw [sZ arr hk1]
     case measure=>simp [intOf];omega
    ·go_wp2
     first|go_end0|go_ret
     exact ⟨rfl,hB,0,k,hg,by omega,fun t ht=>⟨fun h=>by omega,fun h=>by omega⟩⟩
  ·go_enter Tryz.func115,Tryz.ntmps115
   go_wp2
   go_loopw [6] (fun i wr=>∃ k:Nat,0≤k∧((k:Int)≤(s+c)∨k=0)∧i=.int .i64 k∧wr.heap[b]?=some (.cells (je arr (0) k) E (0,0))∧vg w wr b) (fun i _=>((s+c) - intOf i).toNat)
   case atStart =>
    exact ⟨0,Nat.le_refl _,.inr rfl,by first|rfl|(congr 1;omega),by rw [lS,Below.heap_alloc _ _ _ hbl];exact hb,vg.alloc w b _⟩
   case round =>
    obtain ⟨k,hk1,hk2,rfl,hg,hB⟩:=hrel
    by_cases hlt:(k:Int)<(s+c)
    ·have hka:k<arr.size:=by omega
     have hfz:wr.frozen? ⟨b,k,none⟩=false:=by simp [World.frozen?,hg]
     have hsz:k<(je arr (0) k).size:=by simpa [je] using hka
     have hcell:wr.cell? ⟨b,k,none⟩=some (je arr (0) k)[k]:=by rw [cell_of_row wr _ _ _ _ (0,0) hg];exact Array.getElem?_eq_getElem hsz
     go_wp2
     go_roundw
     case rel =>
      refine ⟨k+1,by omega,.inl (by omega),by go_num,?_,hB.set _ _⟩
      simp only [World.setCell,Array.getElem?_modify,hg,if_true,Option.map_some,Option.isSome_none,Bool.false_eq_true,if_false]
      rw [sZ arr hk1]
     case measure=>simp [intOf];omega
    ·go_wp2
     first|go_end0|go_ret
     exact ⟨rfl,hB,0,k,hg,by omega,fun t ht=>⟨fun h=>by omega,fun h=>by omega⟩⟩
 ·obtain ⟨fr,rfl⟩:∃ fr:Nat,s=(fr:Int):=⟨s.toNat,by omega⟩
  have hfr:fr<n:=by omega
  by_cases h5:c≤4096
  ·by_cases h4:(n:Int)≤(fr:Int)+c
   ·go_enter Tryz.func115,Tryz.ntmps115
    go_wp2
    go_loopw [6] (fun i wr=>∃ k:Nat,fr≤k∧((k:Int)≤(n:Int)∨k=fr)∧i=.int .i64 k∧wr.heap[b]?=some (.cells (je arr (fr) k) E (0,0))∧vg w wr b) (fun i _=>((n:Int) - intOf i).toNat)
    case atStart =>
     exact ⟨fr,Nat.le_refl _,.inr rfl,by first|rfl|(congr 1;omega),by rw [lS,Below.heap_alloc _ _ _ hbl];exact hb,vg.alloc w b _⟩
    case round =>
     obtain ⟨k,hk1,hk2,rfl,hg,hB⟩:=hrel
     by_cases hlt:(k:Int)<(n:Int)
     ·have hka:k<arr.size:=by omega
      have hfz:wr.frozen? ⟨b,k,none⟩=false:=by simp [World.frozen?,hg]
      have hsz:k<(je arr (fr) k).size:=by simpa [je] using hka
      have hcell:wr.cell? ⟨b,k,none⟩=some (je arr (fr) k)[k]:=by rw [cell_of_row wr _ _ _ _ (0,0) hg];exact Array.getElem?_eq_getElem hsz
      go_wp2
      go_roundw
      case rel =>
       refine ⟨k+1,by omega,.inl (by omega),by go_num,?_,hB.set _ _⟩
       simp only [World.setCell,Array.getElem?_modify,hg,if_true,Option.map_some,Option.isSome_none,Bool.false_eq_true,if_false]
       rw [sZ arr hk1]
      case measure=>simp [intOf];omega
     ·go_wp2
      first|go_end0|go_ret
      exact ⟨rfl,hB,fr,k,hg,by omega,fun t ht=>⟨fun h=>by omega,fun h=>by omega⟩⟩
   ·go_enter Tryz.func115,Tryz.ntmps115
    go_wp2
    go_loopw [6] (fun i wr=>∃ k:Nat,fr≤k∧((k:Int)≤((fr:Int)+c)∨k=fr)∧i=.int .i64 k∧wr.heap[b]?=some (.cells (je arr (fr) k) E (0,0))∧vg w wr b) (fun i _=>(((fr:Int)+c) - intOf i).toNat)
    case atStart =>
     exact ⟨fr,Nat.le_refl _,.inr rfl,by first|rfl|(congr 1;omega),by rw [lS,Below.heap_alloc _ _ _ hbl];exact hb,vg.alloc w b _⟩
    case round =>
     obtain ⟨k,hk1,hk2,rfl,hg,hB⟩:=hrel
     by_cases hlt:(k:Int)<((fr:Int)+c)
     ·have hka:k<arr.size:=by omega
      have hfz:wr.frozen? ⟨b,k,none⟩=false:=by simp [World.frozen?,hg]
      have hsz:k<(je arr (fr) k).size:=by simpa [je] using hka
      have hcell:wr.cell? ⟨b,k,none⟩=some (je arr (fr) k)[k]:=by rw [cell_of_row wr _ _ _ _ (0,0) hg];exact Array.getElem?_eq_getElem hsz
      go_wp2
      go_roundw
      case rel =>
       refine ⟨k+1,by omega,.inl (by omega),by go_num,?_,hB.set _ _⟩
       simp only [World.setCell,Array.getElem?_modify,hg,if_true,Option.map_some,Option.isSome_none,Bool.false_eq_true,if_false]
       rw [sZ arr hk1]
      case measure=>simp [intOf];omega
     ·go_wp2
      first|go_end0|go_ret
      exact ⟨rfl,hB,fr,k,hg,by omega,fun t ht=>⟨fun h=>by omega,fun h=>by omega⟩⟩
  ·have h4:(n:Int)≤(fr:Int)+4096:=by omega
   have h5':(4096:Int)<c:=by omega
   clear h5
   go_enter Tryz.func115,Tryz.ntmps115
   go_wp2
   go_loopw [6] (fun i wr=>∃ k:Nat,fr≤k∧((k:Int)≤(n:Int)∨k=fr)∧i=.int .i64 k∧wr.heap[b]?=some (.cells (je arr (fr) k) E (0,0))∧vg w wr b) (fun i _=>((n:Int) - intOf i).toNat)
   case atStart =>
    exact ⟨fr,Nat.le_refl _,.inr rfl,by first|rfl|(congr 1;omega),by rw [lS,Below.heap_alloc _ _ _ hbl];exact hb,vg.alloc w b _⟩
   case round =>
    obtain ⟨k,hk1,hk2,rfl,hg,hB⟩:=hrel
    by_cases hlt:(k:Int)<(n:Int)
    ·have hka:k<arr.size:=by omega
     have hfz:wr.frozen? ⟨b,k,none⟩=false:=by simp [World.frozen?,hg]
     have hsz:k<(je arr (fr) k).size:=by simpa [je] using hka
     have hcell:wr.cell? ⟨b,k,none⟩=some (je arr (fr) k)[k]:=by rw [cell_of_row wr _ _ _ _ (0,0) hg];exact Array.getElem?_eq_getElem hsz
     go_wp2
     go_roundw
     case rel =>
      refine ⟨k+1,by omega,.inl (by omega),by go_num,?_,hB.set _ _⟩
      simp only [World.setCell,Array.getElem?_modify,hg,if_true,Option.map_some,Option.isSome_none,Bool.false_eq_true,if_false]
      rw [sZ arr hk1]
     case measure=>simp [intOf];omega
    ·go_wp2
     first|go_end0|go_ret
     exact ⟨rfl,hB,fr,k,hg,by omega,fun t ht=>⟨fun h=>by omega,fun h=>by omega⟩⟩
theorem akO:callable Tryz.prog 115=true∧Eh Tryz.prog 115 Px:=by
 refine ⟨by kernel_rfl,?_⟩
 intro p sz es es' h T w r v cv hfresh hrow hc
 obtain ⟨s,c,m,rfl,rfl,h1,h2,h3,h4,rfl⟩:=agc h
 have hcv:cv=.agg #[.int .i64 s,.int .i64 c]:=by
  cases hc with
  |agg cs arr g1 g2 g3 =>
   have e0:arr[0]?=some (arr[0]'(by rw [g1];simp)):=Array.getElem?_eq_getElem _
   have e1:arr[1]?=some (arr[1]'(by rw [g1];simp)):=Array.getElem?_eq_getElem _
   have k0:=g3 0 _ _ rfl e0
   have k1:=g3 1 _ _ rfl e1
   have q0:arr[0]'(by rw [g1];simp)=.int .i64 s:=by
    generalize arr[0]'(by rw [g1];simp)=u at k0
    cases k0;rfl
   have q1:arr[1]'(by rw [g1];simp)=.int .i64 c:=by
    generalize arr[1]'(by rw [g1];simp)=u at k1
    cases k1;rfl
   congr 1
   apply Array.ext
   ·rw [g1];rfl
   ·intro i hi1 hi2
    match i,hi1,hi2 with
    |0,_,_=>exact q0
    |1,_,_=>exact q1
    |i+2,_,hi2=>exact absurd hi2 (by simp)
 subst hcv
 rcases hrow with ⟨he,_⟩|⟨b,cc,arr,E,rfl,k2,k3,k4,k5,k6,k7,k8⟩
 ·exact absurd (List.map_eq_nil_iff.1 he) h3
 have hsz:sz=1:=by
  obtain ⟨y,l',rfl⟩:∃ y l',m=y :: l':=by cases m with
   |nil=>exact absurd rfl h3
   |cons y l'=>exact ⟨y,l',rfl⟩
  exact (k7 (V.eB y) (by simp)).symm
 subst hsz
 rw [List.length_map] at k5
 rw [Nat.mul_one] at k4
 simp only [nV,Bool.and_eq_true,decide_eq_true_eq] at h1 h2
 have hcon:=add_any (cc:=cc) (n:=m.length) k3 (by omega) h4 h1 h2
 have hl:(m.map V.eB).length=m.length:=List.length_map _
 rw [← hl] at hcon
 refine hcon.mono ?_
 rintro e w' ⟨rfl,⟨b1,b2,b3,b4,b5⟩,fr,to,q1,q2,q3⟩
 refine ⟨_,rfl,b1,b2,b3,b4,fun x hx hT=>b5 x hx fun e=>hT (by rw [e];exact k2),?_⟩
 refine .inr ⟨b,cc,_,E,?_,k2,q1,by simp [je,k4],?_,k6,?_,?_⟩
 ·simp [zD]
 ·simpa [zD] using k5
 ·intro e he
  obtain ⟨y,_,rfl⟩:=List.mem_map.1 he
  rfl
 ·intro i e j x hi hj
  rw [List.getElem?_map] at hi
  obtain ⟨y,hy,rfl⟩:=Option.map_eq_some_iff.1 hi
  obtain ⟨rfl,rfl⟩:j=0∧x=.bool y:=by
   cases j with
   |zero=>simp [V.eB,PV.cells] at hj;exact ⟨rfl,hj.symm⟩
   |succ j=>simp [V.eB,PV.cells] at hj
  unfold zD at hy
  rw [List.getElem?_mapIdx] at hy
  obtain ⟨u,hu,rfl⟩:=Option.map_eq_some_iff.1 hy
  have hil:i<m.length:=(List.getElem?_eq_some_iff.1 hu).1
  obtain ⟨a,g1,g2,g3⟩:=k8 i (V.eB u) 0 (.bool u) (by rw [List.getElem?_map,hu];rfl) rfl
  have ha:a=.bool u:=by cases g3;rfl
  subst ha
  rw [Nat.mul_one,Nat.add_zero] at g1 ⊢
  refine ⟨.bool (u || inX s c i),?_,rfl,.bool _⟩
  simp only [je,Array.getElem?_mapIdx,g1,Option.map_some]
  have hq:=q3 i (by rw [hl];exact hil)
  have hin:inX s c i=decide (fr≤i∧i<to):=by
   unfold inX
   by_cases hf:fr≤i∧i<to
   ·obtain ⟨z1,z2,z3⟩:=hq.1 hf
    rw [decide_eq_true z1,decide_eq_true z2,decide_eq_true z3,decide_eq_true hf];rfl
   ·rw [decide_eq_false hf]
    cases hx:(decide (0<c)&&(decide (s≤(i:Int))&&decide ((i:Int)<s+c))) with
    |false=>rfl
    |true =>
     simp only [Bool.and_eq_true,decide_eq_true_eq] at hx
     exact absurd (hq.2 ⟨hx.1,hx.2.1,hx.2.2⟩) hf
  rw [hin]
  by_cases hf:fr≤i∧i<to
  ·rw [if_pos hf,decide_eq_true hf,Bool.or_true]
  ·rw [if_neg hf,decide_eq_false hf,Bool.or_false]
end Go.Proofs.YtpcncggjmabnaaaGreatDoor
