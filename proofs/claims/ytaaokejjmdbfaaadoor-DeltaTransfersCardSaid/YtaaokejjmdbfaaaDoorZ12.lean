/-
  Part 12 of the texts that the statement stands on.
-/
import Derived.Test.YtaaokejjmdbfaaaDoorZ11
set_option linter.all false
namespace Go.Proofs.YtaaokejjmdbfaaaDoor.V
end Go.Proofs.YtaaokejjmdbfaaaDoor.V

namespace Go.Proofs.YtaaokejjmdbfaaaDoor
theorem ZI {env:Env} (d:Nat) (ks:List Nat) (l:List fM) (st:St) {sz:Nat} {es:List PV} (h:st.slots[d]?=some (.row sz es)) (hs:st.stop=none):den env (.lend d ks l) st=((Ce env l (st.freeze (.slot d))).bind (st.jq d ks sz es)).map fun st=>(.normal,st):=by
 rw [kN]
 simp only [step]
 rw [h]
 simp only [hs]
 rfl
theorem acp {n d k sz:Nat} {es:List PV} {v:PV} {l l2:List (Nat × AV)} {bx bx2:List Box} {ys ys2:List (List PV)} {sp sp2:Option (Option Nat)} (h:look l k=.pv v) (hk:k<n) (hd:d<n) (hdk:k≠d) (hb:bx2.all (fun b=>!b.fz&&b.cs.all BV.flat)=true) :
  (⟨sl n l,bx,ys,sp⟩:St).jq d [k] sz es ⟨sl n l2,bx2,ys2,sp2⟩=some ⟨sl n ((d,.row sz es) :: (k,.pv v) :: mapA AV.flat l2),bx2,ys2,sp2⟩:=by
 unfold St.jq
 rw [if_pos hb]
 congr 2
 apply List.ext_getElem
 ·simp [sl]
 ·intro i h1 h2
  have hi:i<n:=by simpa [sl] using h2
  rw [List.getElem_mapIdx]
  simp only [sl,List.getElem_map,List.getElem_range,kR,yT AV.flat rfl]
  unfold Gh
  by_cases c:i=d
  ·subst c;rw [if_pos rfl,if_pos rfl]
  ·rw [if_neg c,if_neg c]
   by_cases c2:i=k
   ·subst c2
    rw [if_pos (by simp),if_pos rfl]
    have:(List.map (look l) (List.range n))[i]?=some (.pv v):=by rw [show List.map (look l) (List.range n)=sl n l from rfl,Ri hi,h]
    simp only [this]
   ·rw [if_neg (by simpa using c2),if_neg c2]
theorem ae6 (v:PV):AV.flat (.pv v)=if v.scalar then .pv v else .any:=(rfl)
theorem acr (sz:Nat) (es:List PV):AV.flat (.row sz es)=if es.all PV.scalar then .row sz es else .any:=(rfl)
theorem ZJ (o j:Nat):AV.flat (.aQ o j)=.aQ o j:=(rfl)
theorem acs:AV.flat .any=.any:=(rfl)
theorem ae7 (f:Nat) (l:List AV):AV.flat (.fn f l)=.any:=(rfl)
theorem acu (r:Root) (i j:Nat):AV.flat (.ref r i j)=.any:=(rfl)
theorem acv (k:Bool) (l:List AV):AV.flat (.jY k l)=.any:=(rfl)
theorem acw (r:Root) (i j:Nat):AV.flat (.ny r i j)=.any:=(rfl)
theorem acy (v:PV):BV.flat (.pv v)=v.scalar:=(rfl)
def flatAll:=And.intro @ae6 (And.intro @acr (And.intro @ZJ (And.intro @acs (And.intro @ae7 (And.intro @acu (And.intro @acv (And.intro @acw @acy)))))))
end Go.Proofs.YtaaokejjmdbfaaaDoor

namespace Go.Proofs.YtaaokejjmdbfaaaDoor.V
theorem ahN {pts ins:List PV}:cal env 68 [.list 4 pts,.list 1 ins]=some [(.func 91 [.dS [.list 4 pts] 0,.dS [.list 1 ins] 0],false)]:=by
 rw [au agH rfl];simp only [Yd,aO,Nat.reduceBEq,Nat.reduceLeDiff,Nat.reduceAdd,List.length_cons,List.length_nil]
 simp only [aA,Nat.reduceMul,Nat.reduceBEq,Nat.reduceLT,Nat.reduceLeDiff,reduceCtorEq,Nat.reduceEqDiff,Nat.reduceAdd,Nat.beq]
def AB (l:List vF):List (List PV):=l.map fun e=>[Dw e]
theorem ZK (l:List vF) (e:vF):AB (l++[e])=AB l++[[Dw e]]:=by simp [AB]
theorem acz (l m:List vF):AB (l++m)=AB l++AB m:=by simp [AB]
def iF (l:List Pt) (i k:Nat):Nat:=qo (l.getD i ⟨0,[],[],[]⟩) (l.getD k ⟨0,[],[],[]⟩) (l.getD i ⟨0,[],[],[]⟩).img.length
set_option maxRecDepth 20000 in
theorem ae8 {l:List Pt} {ins:List Bool} {u:Nat} {Y0:List (List PV)} (hu:u<l.length) (hl:l.length≤1000) (hn:ins.length=l.length) (hw:∀ i k (h1:i<l.length) (h2:k<l.length),cal env 92 [dX l[i],dX l[k]]=some [(.int .i64 (iF l i k:Nat),false)]) {st:St} (h:st.head [0,1,2,4,7,8,12,13] st.boxes.length=some ⟨sl 46 [(0,.oQ),(1,.pv (.dS [.list 4 (l.map dX)] 0)),(2,.pv (.dS [.list 1 (ins.map eB)] 0)),(4,.pv (.int .i64 u)),(7,.pv (.int .i64 l.length)),(8,.pv (.int .i64 u)),(12,.pv (.int .i64 l.length)),(13,.pv (.int .i64 (0:Nat)))],[],Y0++AB (Rz (iF l) ins u ((0:Nat))),some none⟩) :
  den env Jc st=some (.normal,⟨sl 46 [(0,.oQ),(1,.pv (.dS [.list 4 (l.map dX)] 0)),(2,.pv (.dS [.list 1 (ins.map eB)] 0)),(7,.pv (.int .i64 l.length)),(8,.pv (.int .i64 u))],[],Y0++AB (Rz (iF l) ins u l.length),some none⟩):=by
 unfold Jc
 refine bH (env:=env) (nb:=0) (l.length) (fun i=>⟨sl 46 [(0,.oQ),(1,.pv (.dS [.list 4 (l.map dX)] 0)),(2,.pv (.dS [.list 1 (ins.map eB)] 0)),(4,.pv (.int .i64 u)),(7,.pv (.int .i64 l.length)),(8,.pv (.int .i64 u)),(12,.pv (.int .i64 l.length)),(13,.pv (.int .i64 i))],[],Y0++AB (Rz (iF l) ins u (i)),some none⟩) (fun i=>some (.normal,⟨sl 46 [(0,.oQ),(1,.pv (.dS [.list 4 (l.map dX)] 0)),(2,.pv (.dS [.list 1 (ins.map eB)] 0)),(7,.pv (.int .i64 l.length)),(8,.pv (.int .i64 u))],[],Y0++AB (Rz (iF l) ins u l.length),some none⟩)) h (fun _=>rfl) (fun _=>by simp only [aO,bJ,Nat.reduceMul,Nat.reduceBEq,Nat.reduceLT,Nat.reduceLeDiff,Nat.reduceAdd,decide_true,Bool.and_self,Bool.true_and]) ?_ ?_
 ·intro i rb hi ih
  have hlim:lim=1073741824:=rfl
  have hi1:=bD hi (by omega)
  have F1:((i:Int)<(l.length:Int))=True:=eq_true (by omega)
  have hu2:u<ins.length:=by omega
  have hi2:i<ins.length:=by omega
  have hx:(l.map dX)[u]?=some (dX l[u]):=by rw [List.getElem?_map,List.getElem?_eq_getElem hu];rfl
  have hy:(l.map dX)[i]?=some (dX l[i]):=by rw [List.getElem?_map,List.getElem?_eq_getElem hi];rfl
  have bx:(ins.map eB)[u]?=some (.bool (fC ins u)):=by rw [List.getElem?_map,List.getElem?_eq_getElem hu2];unfold fC;rw [List.getD_eq_getElem?_getD,List.getElem?_eq_getElem hu2];rfl
  have bY:(ins.map eB)[i]?=some (.bool (fC ins i)):=by rw [List.getElem?_map,List.getElem?_eq_getElem hi2];unfold fC;rw [List.getD_eq_getElem?_getD,List.getElem?_eq_getElem hi2];rfl
  have e1:=hw u i hu hi
  have P4:∀ a b c d:PV,part [a,b,c,d] 0 (some 4)=some (.agg [a,b,c,d]):=fun _ _ _ _=>rfl
  have hs:=ZH (iF l) ins u i
  have X1:=ah (k:=.i64) hu
  have X2:=ah (k:=.i64) hi
  have X3:=ah (k:=.i64) hu2
  have X4:=ah (k:=.i64) hi2
  rw [dQ] at hx hy
  rw [dQ,dQ] at e1
  cases c1:fC ins u with
  |false =>
   rw [c1] at bx
   rw [c1,Bool.false_and,if_neg (by decide)] at hs
   simp only [xW,F1,bx,bY,X1,X2,X3,X4,List.length_map,aA,Nat.reduceMul,Nat.reduceBEq,Nat.reduceLT,Nat.reduceLeDiff,reduceCtorEq,Nat.reduceEqDiff,Nat.reduceAdd,Nat.beq]
   rw [ih _ (by simp only [hi1,hs];simp only [aA,Nat.reduceMul,Nat.reduceBEq,Nat.reduceLT,Nat.reduceLeDiff,reduceCtorEq,Nat.reduceEqDiff,Nat.reduceAdd,Nat.beq]<;>rfl)]
  |true =>
   rw [c1] at bx
   cases c2:fC ins i with
   |true =>
    rw [c2] at bY
    rw [c1,c2,if_neg (by decide)] at hs
    simp only [xW,F1,bx,bY,X1,X2,X3,X4,List.length_map,aA,Nat.reduceMul,Nat.reduceBEq,Nat.reduceLT,Nat.reduceLeDiff,reduceCtorEq,Nat.reduceEqDiff,Nat.reduceAdd,Nat.beq]
    rw [ih _ (by simp only [hi1,hs];simp only [aA,Nat.reduceMul,Nat.reduceBEq,Nat.reduceLT,Nat.reduceLeDiff,reduceCtorEq,Nat.reduceEqDiff,Nat.reduceAdd,Nat.beq]<;>rfl)]
   |false =>
    rw [c2] at bY
    rw [c1,c2,if_pos (show (true&&!false)=true from rfl)] at hs
    simp only [xW,F1,bx,bY,hx,hy,e1,P4,X1,X2,X3,X4,List.length_map,aA,Nat.reduceMul,Nat.reduceBEq,Nat.reduceLT,Nat.reduceLeDiff,reduceCtorEq,Nat.reduceEqDiff,Nat.reduceAdd,Nat.beq]
    rw [ih _ (by simp only [hi1,hs,ZK,qp,← List.append_assoc];simp only [aA,Nat.reduceMul,Nat.reduceBEq,Nat.reduceLT,Nat.reduceLeDiff,reduceCtorEq,Nat.reduceEqDiff,Nat.reduceAdd,Nat.beq]<;>rfl)]
 ·intro rb
  simp only [xW,Int.lt_irrefl,List.length_map,aA,Nat.reduceMul,Nat.reduceBEq,Nat.reduceLT,Nat.reduceLeDiff,reduceCtorEq,Nat.reduceEqDiff,Nat.reduceAdd,Nat.beq]
set_option maxRecDepth 20000 in
theorem ZL {l:List Pt} {ins:List Bool} (hl:l.length≤1000) (hn:ins.length=l.length) (hw:∀ i k (h1:i<l.length) (h2:k<l.length),cal env 92 [dX l[i],dX l[k]]=some [(.int .i64 (iF l i k:Nat),false)]) {st:St} (h:st.head [0,1,2,7,8] st.boxes.length=some ⟨sl 46 [(0,.oQ),(1,.pv (.dS [.list 4 (l.map dX)] 0)),(2,.pv (.dS [.list 1 (ins.map eB)] 0)),(7,.pv (.int .i64 l.length)),(8,.pv (.int .i64 (0:Nat)))],[],AB (JF (iF l) ins l.length ((0:Nat))),some none⟩) :
  den env Je st=some (.normal,⟨sl 46 [],[],AB (JF (iF l) ins l.length l.length),some none⟩):=by
 unfold Je
 refine bH (env:=env) (nb:=0) (l.length) (fun i=>⟨sl 46 [(0,.oQ),(1,.pv (.dS [.list 4 (l.map dX)] 0)),(2,.pv (.dS [.list 1 (ins.map eB)] 0)),(7,.pv (.int .i64 l.length)),(8,.pv (.int .i64 i))],[],AB (JF (iF l) ins l.length (i)),some none⟩) (fun i=>some (.normal,⟨sl 46 [],[],AB (JF (iF l) ins l.length l.length),some none⟩)) h (fun _=>rfl) (fun _=>by simp only [aO,bJ,Nat.reduceMul,Nat.reduceBEq,Nat.reduceLT,Nat.reduceLeDiff,Nat.reduceAdd,decide_true,Bool.and_self,Bool.true_and]) ?_ ?_
 ·intro i rb hi ih
  have hi1:=bD hi (Nat.le_trans hl (by decide))
  have F1:((i:Int)<(l.length:Int))=True:=eq_true (by omega)
  have hL:=fun (st:St)=>ae8 (st:=st) (u:=i) (Y0:=AB (JF (iF l) ins l.length i)) hi hl hn hw
  rw [show AB (Rz (iF l) ins i 0)=[] from rfl,List.append_nil] at hL
  have hs:=Nv (iF l) ins l.length i
  simp only [Jd,F1,List.length_map,aA,Nat.reduceMul,Nat.reduceBEq,Nat.reduceLT,Nat.reduceLeDiff,reduceCtorEq,Nat.reduceEqDiff,Nat.reduceAdd,Nat.beq]
  rw [hL _ (by simp only [aO,bJ,Nat.reduceMul,Nat.reduceBEq,Nat.reduceLT,Nat.reduceLeDiff,Nat.reduceAdd,decide_true,Bool.and_self,Bool.true_and]<;>rfl)]
  simp only [List.length_map,aA,Nat.reduceMul,Nat.reduceBEq,Nat.reduceLT,Nat.reduceLeDiff,reduceCtorEq,Nat.reduceEqDiff,Nat.reduceAdd,Nat.beq]
  rw [ih _ (by simp only [hi1,hs,acz];simp only [aA,Nat.reduceMul,Nat.reduceBEq,Nat.reduceLT,Nat.reduceLeDiff,reduceCtorEq,Nat.reduceEqDiff,Nat.reduceAdd,Nat.beq]<;>rfl)]
 ·intro rb
  simp only [Jd,Int.lt_irrefl,List.length_map,aA,Nat.reduceMul,Nat.reduceBEq,Nat.reduceLT,Nat.reduceLeDiff,reduceCtorEq,Nat.reduceEqDiff,Nat.reduceAdd,Nat.beq]
theorem ae9 {l:List Pt} {ins:List Bool} (hl:l.length≤1000) (hn:ins.length=l.length) (hw:∀ i k (h1:i<l.length) (h2:k<l.length),cal env 92 [dX l[i],dX l[k]]=some [(.int .i64 (iF l i k:Nat),false)]) :
  iter env 91 [.dS [.list 4 (l.map dX)] 0,.dS [.list 1 (ins.map eB)] 0] none=some (AB (JF (iF l) ins l.length l.length)):=by
 have hL:=fun (st:St)=>ZL (st:=st) hl hn hw
 rw [show AB (JF (iF l) ins l.length 0)=[] from rfl] at hL
 rw [Fg agU rfl rfl]
 have hy:PZ 46 [.dS [.list 4 (l.map dX)] 0,.dS [.list 1 (ins.map eB)] 0] none=⟨sl 46 [(0,.oQ),(1,.pv (.dS [.list 4 (l.map dX)] 0)),(2,.pv (.dS [.list 1 (ins.map eB)] 0))],[],[],some none⟩:=rfl
 simp only [Yq]
 rw [hy]
 simp only [List.length_map,aA,Nat.reduceMul,Nat.reduceBEq,Nat.reduceLT,Nat.reduceLeDiff,reduceCtorEq,Nat.reduceEqDiff,Nat.reduceAdd,Nat.beq]
 rw [hL _ (by simp only [aO,bJ,Nat.reduceMul,Nat.reduceBEq,Nat.reduceLT,Nat.reduceLeDiff,Nat.reduceAdd,decide_true,Bool.and_self,Bool.true_and]<;>rfl)]
 rfl
theorem ahO {g:Nat} {caps:List PV} {l:List vF} (hi:iter env g caps none=some (AB l)) (hl:l.length≤1000000):cal env 90 [.kU 3,.func g caps]=some [(.list 3 (l.map Dw),true)]:=by
 have hlim:lim=1073741824:=rfl
 rw [au agT rfl];simp only [Yp];simp only [start,aN,aU,aJ,aS,aF,aG,aK,aT,Nat.reduceAdd,Nat.reduceSub]
 simp only [bI,reduceCtorEq,Nat.reduceEqDiff,Nat.reduceAdd,Nat.reduceLT,Nat.reduceLeDiff,Nat.beq]
 rw [Q8 (env:=env) (fun j=>[⟨false,[.row 3 ((l.take j).map Dw)]⟩]) (xs:=AB l) rfl hi rfl ?_]
 ·simp only [AB,List.length_map,List.take_length,MQ,bI,reduceCtorEq,Nat.reduceEqDiff,Nat.reduceAdd,Nat.reduceLT,Nat.reduceLeDiff,Nat.beq]
 ·intro j x hx sl0
  simp only [AB,List.getElem?_map,Option.map_eq_some_iff] at hx
  obtain ⟨e,he,rfl⟩:=hx
  have hj:=(List.getElem?_eq_some_iff.1 he).1
  have F3:((l.take j).length+1≤lim)=True:=eq_true (by rw [List.length_take];omega)
  have ht:l.take (j+1)=l.take j++[e]:=by rw [List.take_add_one,he];rfl
  have P3:∀ a b c:PV,part [a,b,c] 0 (some 3)=some (.agg [a,b,c]):=fun _ _ _=>rfl
  rw [ht]
  refine ⟨?_,?_⟩
  rotate_left
  ·simp only [QU,QV,F3,P3,qp,List.map_append,List.map_cons,List.map_nil,MQ,bI,reduceCtorEq,Nat.reduceEqDiff,Nat.reduceAdd,Nat.reduceLT,Nat.reduceLeDiff,Nat.beq]
   rfl
theorem ahP {g:Nat} {caps:List PV} {l:List vF} (hi:iter env g caps none=some (AB l)) (hl:l.length≤1000000):cal env 67 [.func g caps]=some [(.list 3 (l.map Dw),true)]:=by
 have e1:=ahO hi hl
 rw [au agG rfl];simp only [Yc];simp only [start,aN,aU,aJ,aS,aF,aG,aK,aT,Nat.reduceAdd,Nat.reduceSub]
 simp only [e1,bI,reduceCtorEq,Nat.reduceEqDiff,Nat.reduceAdd,Nat.reduceLT,Nat.reduceLeDiff,Nat.beq]
end Go.Proofs.YtaaokejjmdbfaaaDoor.V

namespace Go.Proofs.YtaaokejjmdbfaaaDoor.V
theorem scI (l:List Int):(l.map eI).all PV.scalar=true:=by
 rw [List.all_eq_true]
 intro x hx
 obtain ⟨y,_,rfl⟩:=List.mem_map.1 hx
 rfl
def ahQ (l:List Pt):Prop:=(∀ i k (h1:i<l.length) (h2:k<l.length),cal env 92 [dX l[i],dX l[k]]=some [(.int .i64 (iF l i k:Nat),false)])∧∀ i k,iF l i k≤1000000
set_option maxRecDepth 20000 in
theorem afa {l:List Pt} {r:Nat} {Q:Nat→Prm} (hQ:∀ k,Q k=je (iF l) l.length (jf l.length r) k) (hr:r<l.length) (hl:l.length≤1000) (hw:ahQ l) {st:St} (h:st.head [0,8,9,10,27,30,39,40] st.boxes.length=some ⟨sl 64 [(0,.pv (.list 4 (l.map dX))),(8,.row 1 ((Q ((0:Nat))).par.map eI)),(9,.row 1 ((Q ((0:Nat))).ins.map eB)),(10,.pv (.int .i64 (Q ((0:Nat))).sum)),(27,.any),(30,.any),(39,.pv (.int .i64 ((l.length - 1:Nat):Int))),(40,.pv (.int .i64 (0:Nat)))],[],[],none⟩) :
  den env Ij st=some (.normal,⟨sl 64 [(4,.any),(5,.any),(6,.any),(8,.row 1 ((Q (l.length - 1)).par.map eI)),(10,.pv (.int .i64 (Q (l.length - 1)).sum))],[],[],none⟩):=by
 unfold Ij
 refine bH (env:=env) (nb:=0) (l.length - 1) (fun i=>⟨sl 64 [(0,.pv (.list 4 (l.map dX))),(8,.row 1 ((Q (i)).par.map eI)),(9,.row 1 ((Q (i)).ins.map eB)),(10,.pv (.int .i64 (Q (i)).sum)),(27,.any),(30,.any),(39,.pv (.int .i64 ((l.length - 1:Nat):Int))),(40,.pv (.int .i64 i))],[],[],none⟩) (fun i=>some (.normal,⟨sl 64 [(4,.any),(5,.any),(6,.any),(8,.row 1 ((Q (l.length - 1)).par.map eI)),(10,.pv (.int .i64 (Q (l.length - 1)).sum))],[],[],none⟩)) h (fun _=>rfl) (fun _=>by simp only [aO,bJ,Nat.reduceMul,Nat.reduceBEq,Nat.reduceLT,Nat.reduceLeDiff,Nat.reduceAdd,decide_true,Bool.and_self,Bool.true_and]) ?_ ?_
 ·intro i rb hi ih
  have hlim:lim=1073741824:=rfl
  have hi1:=bD hi (by omega)
  have F1:((i:Int)<((l.length - 1:Nat):Int))=True:=eq_true (by omega)
  have ho:=yt (iF l) hr hw.2 i (by omega)
  rw [← hQ i] at ho
  obtain ⟨h1,h2,h3,h4,h5,h6⟩:=ho
  obtain ⟨⟨x,m,q1,q2⟩,⟨j,k,g1,g2,g3,g4,g5⟩,_⟩:=Dy (w:=iF l) (n:=l.length) (ins:=(Q i).ins) ⟨r,hr,h4⟩ (rP (by omega))
  have hs:=hQ (i+1)
  rw [DC (by rw [← hQ i];exact g5),← hQ i] at hs
  have ajX:=hw.2 j k
  have h6':(Q i).sum≤1000 * 1000000:=Int.le_trans h6 (Int.mul_le_mul_of_nonneg_right (by omega) (by decide))
  have e1:=ahN (pts:=l.map dX) (ins:=(Q i).ins.map eB)
  have e2:=ahP (ae9 hl h2 hw.1) (by have h:=JB (iF l) (Q i).ins l.length l.length;have h':=Nat.mul_le_mul hl hl;omega)
  have hml:(JF (iF l) (Q i).ins l.length l.length).length≤1000000:=by have h:=JB (iF l) (Q i).ins l.length l.length;have h':=Nat.mul_le_mul hl hl;omega
  rw [q1] at e2 hml
  have e3:=ahM (x:=x) (l:=m) (by rw [List.length_cons] at hml;omega)
  rw [← q2,g5,qp] at e3
  simp only at e3
  have P3:∀ a b c:PV,part [a,b,c] 0 (some 3)=some (.agg [a,b,c]):=fun _ _ _=>rfl
  have X1:index (.int .i64 (k:Int)) ((Q i).par.map eI).length=some k:=by rw [List.length_map];exact ah (by omega)
  have X2:index (.int .i64 (k:Int)) ((Q i).ins.map eB).length=some k:=by rw [List.length_map];exact ah (by omega)
  obtain ⟨y1,p1⟩:∃ y,((Q i).par.map eI)[k]?=some (.int .i64 y):=⟨(Q i).par[k]'(by omega),by rw [List.getElem?_map,List.getElem?_eq_getElem (by omega)];rfl⟩
  obtain ⟨y2,p2⟩:∃ y,((Q i).ins.map eB)[k]?=some (.bool y):=⟨(Q i).ins[k]'(by omega),by rw [List.getElem?_map,List.getElem?_eq_getElem (by omega)];rfl⟩
  have s1:((Q i).par.map eI).set k (.int .i64 (j:Int))=(Q (i+1)).par.map eI:=by rw [hs,List.map_set];rfl
  have s2:((Q i).ins.map eB).set k (.bool true)=(Q (i+1)).ins.map eB:=by rw [hs,List.map_set];rfl
  have s3:IntKind.i64.wrap ((Q i).sum+((iF l j k:Nat):Int))=(Q (i+1)).sum:=by rw [hs];exact bT (by omega)
  have hS:=scI (Q i).par
  have hsc:∀ a b c:Int,(PV.agg [.int .i64 a,.int .i64 b,.int .i64 c]).scalar=true:=fun _ _ _=>rfl
  have hb:∀ a b c:Int,([⟨false,[.pv (.int .i64 a),.pv (.int .i64 b),.pv (.int .i64 c)]⟩]:List Box).all (fun b=>!b.fz&&b.cs.all BV.flat)=true:=fun _ _ _=>rfl
  generalize (Q i).par.map eI=PA at *
  generalize (Q i).ins.map eB=IN at *
  generalize (x :: m).map Dw=L at *
  generalize hPL:l.map dX=PL at *
  generalize (Q (i+1)).par.map eI=PA2 at *
  generalize (Q (i+1)).ins.map eB=IN2 at *
  generalize (Q (i+1)).sum=SU2 at *
  simp only [Ii,F1,aA,Nat.reduceMul,Nat.reduceBEq,Nat.reduceLT,Nat.reduceLeDiff,reduceCtorEq,Nat.reduceEqDiff,Nat.reduceAdd,Nat.beq]
  rw [ZI 9 [0] _ _ (sz:=1) (es:=IN) (by simp only [aA,Nat.reduceMul,Nat.reduceBEq,Nat.reduceLT,Nat.reduceLeDiff,reduceCtorEq,Nat.reduceEqDiff,Nat.reduceAdd,Nat.beq]) rfl]
  simp only [e1,e2,e3,P3,hsc,aA,Nat.reduceMul,Nat.reduceBEq,Nat.reduceLT,Nat.reduceLeDiff,reduceCtorEq,Nat.reduceEqDiff,Nat.reduceAdd,Nat.beq]
  rw [acp (v:=.list 4 PL) (by simp only [aO,bJ,Nat.reduceMul,Nat.reduceBEq,Nat.reduceLT,Nat.reduceLeDiff]) (by decide) (by decide) (by decide) (hb _ _ _)]
  simp only [flatAll,hsc,hS,p1,p2,X1,X2,s1,s2,s3,P3,aA,Nat.reduceMul,Nat.reduceBEq,Nat.reduceLT,Nat.reduceLeDiff,reduceCtorEq,Nat.reduceEqDiff,Nat.reduceAdd,Nat.beq]
  rw [ih _ (by simp only [hi1];simp only [aA,Nat.reduceMul,Nat.reduceBEq,Nat.reduceLT,Nat.reduceLeDiff,reduceCtorEq,Nat.reduceEqDiff,Nat.reduceAdd,Nat.beq]<;>rfl)]
  all_goals rfl
 ·intro rb
  simp only [Ii,Int.lt_irrefl,List.length_map,aA,Nat.reduceMul,Nat.reduceBEq,Nat.reduceLT,Nat.reduceLeDiff,reduceCtorEq,Nat.reduceEqDiff,Nat.reduceAdd,Nat.beq]
def Vb (l:List Pt) (r:Int):Int:=if iy l=0 then if r<0∨(l.length:Int)≤r then 7 else 0 else iy l
def yZ (l:List Pt) (r:Int):Prm:=if Vb l r=0 then je (iF l) l.length (jf l.length r.toNat) (l.length - 1) else ⟨[],[],0⟩
theorem DF {l:List Pt} (h:iy l=0):ahQ l:=by
 obtain ⟨g1,g2,g3,g4⟩:=ng h
 refine ⟨fun i k h1 h2=>?_,fun i k=>?_⟩
 ·have m1:=List.getElem_mem h1
  have m2:=List.getElem_mem h2
  have e:=ahJ (g1 _ m1) (g1 _ m2) (g4 _ m1 _ m2)
  unfold iF
  rw [List.getD_eq_getElem?_getD,List.getD_eq_getElem?_getD,List.getElem?_eq_getElem h1,List.getElem?_eq_getElem h2]
  exact e
 ·unfold iF
  by_cases hi:i<l.length
  ·have m1:=List.getElem_mem hi
   have q:=jT (g1 _ m1)
   have q2:=(jo q.2.1).1
   rw [List.getD_eq_getElem?_getD,List.getElem?_eq_getElem hi]
   have:=Js (a:=l[i]) (l.getD k ⟨0,[],[],[]⟩) (fun v=>Dv q.2.1 v) l[i].img.length
   show qo l[i] _ l[i].img.length≤_
   omega
  ·rw [List.getD_eq_getElem?_getD,List.getElem?_eq_none (by omega)]
   exact Nat.zero_le _
theorem FU (n r:Nat):(jf n r).par.map eI=(List.replicate n (PV.int .i64 0)).set r (.int .i64 (-1)):=by
 unfold jf
 rw [List.map_set,List.map_replicate];rfl
theorem FV (n r:Nat):(jf n r).ins.map eB=(List.replicate n (PV.bool false)).set r (.bool true):=by
 unfold jf
 rw [List.map_set,List.map_replicate];rfl
set_option maxRecDepth 20000 in
theorem ahR {l:List Pt} {r:Int} (hl:l.length≤lim) (hf:∀ p∈l,wO p):cal env 24 [.list 4 (l.map dX),.int .i64 r]=some [(.list 1 ((yZ l r).par.map eI),true),(.int .i64 (yZ l r).sum,false),(.int .i64 (Vb l r),false)]:=by
 have hlim:lim=1073741824:=rfl
 have e1:=Y8 hl hf
 unfold yZ Vb
 by_cases c1:iy l=0
 ·have hw:=DF c1
  obtain ⟨g1,g2,g3,g4⟩:=ng c1
  rw [c1] at e1
  rw [if_pos c1]
  have Z:((0:Int) != 0)=false:=rfl
  by_cases c2:r<0
  ·have G1:=eq_true c2
   rw [if_pos (Or.inl c2),if_neg (by decide)]
   rw [au QX rfl];simp only [LZ,aO,Nat.reduceBEq,Nat.reduceLeDiff,Nat.reduceAdd,List.length_cons,List.length_nil]
   simp only [e1,Z,G1,List.length_map,aA,Nat.reduceMul,Nat.reduceBEq,Nat.reduceLT,Nat.reduceLeDiff,reduceCtorEq,Nat.reduceEqDiff,Nat.reduceAdd,Nat.beq]
  ·have G1:=eq_false c2
   by_cases c3:(l.length:Int)≤r
   ·have G2:=eq_true c3
    have G3:(r ≥ (l.length:Int))=True:=eq_true c3
    rw [if_pos (Or.inr c3),if_neg (by decide)]
    rw [au QX rfl];simp only [LZ,aO,Nat.reduceBEq,Nat.reduceLeDiff,Nat.reduceAdd,List.length_cons,List.length_nil]
    simp only [e1,Z,G1,G2,G3,List.length_map,aA,Nat.reduceMul,Nat.reduceBEq,Nat.reduceLT,Nat.reduceLeDiff,reduceCtorEq,Nat.reduceEqDiff,Nat.reduceAdd,Nat.beq]
   ·have G2:=eq_false c3
    have G3:(r ≥ (l.length:Int))=False:=eq_false c3
    rw [if_neg (show ¬ (r<0∨(l.length:Int)≤r) by omega),if_pos rfl]
    obtain ⟨u,rfl⟩:∃ u:Nat,r=(u:Int):=⟨r.toNat,by omega⟩
    rw [Int.toNat_natCast]
    have hu:u<l.length:=by omega
    have hL:=fun (st:St)=>afa (st:=st) (l:=l) (r:=u) (Q:=je (iF l) l.length (jf l.length u)) (fun _=>rfl) hu (by omega) hw
    rw [show je (iF l) l.length (jf l.length u) 0=jf l.length u from rfl,FU,FV,show (jf l.length u).sum=0 from rfl] at hL
    have X1:index (.int .i64 (u:Int)) (List.replicate l.length (PV.int .i64 0)).length=some u:=by rw [List.length_replicate];exact ah hu
    have X2:index (.int .i64 (u:Int)) (List.replicate l.length (PV.bool false)).length=some u:=by rw [List.length_replicate];exact ah hu
    have p1:(List.replicate l.length (PV.int .i64 0))[u]?=some (.int .i64 0):=by rw [List.getElem?_replicate,if_pos hu]
    have p2:(List.replicate l.length (PV.bool false))[u]?=some (.bool false):=by rw [List.getElem?_replicate,if_pos hu]
    have W1:IntKind.i64.wrap ((l.length:Int) - 1)=((l.length - 1:Nat):Int):=by rw [bT (by omega)];omega
    have K1:(0≤(l.length:Int))=True:=eq_true (by omega)
    have K2:((l.length:Int)≤(lim:Int))=True:=eq_true (by omega)
    have K3:((l.length:Int)≤(l.length:Int))=True:=eq_true (Int.le_refl _)
    have K4:((l.length:Int)).toNat=l.length:=by omega
    generalize je (iF l) l.length (jf l.length u) (l.length - 1)=QE at *
    rw [au QX rfl];simp only [LZ,aO,Nat.reduceBEq,Nat.reduceLeDiff,Nat.reduceAdd,List.length_cons,List.length_nil]
    simp only [e1,Z,G1,G2,G3,K1,K2,K3,K4,X1,X2,p1,p2,W1,List.length_map,aA,Nat.reduceMul,Nat.reduceBEq,Nat.reduceLT,Nat.reduceLeDiff,reduceCtorEq,Nat.reduceEqDiff,Nat.reduceAdd,Nat.beq]
    rw [hL _ (by simp only [aO,bJ,Nat.reduceMul,Nat.reduceBEq,Nat.reduceLT,Nat.reduceLeDiff,Nat.reduceAdd,decide_true,Bool.and_self,Bool.true_and]<;>rfl)]
    simp only [e1,Z,G1,G2,G3,K1,K2,K3,K4,X1,X2,p1,p2,W1,List.length_map,aA,Nat.reduceMul,Nat.reduceBEq,Nat.reduceLT,Nat.reduceLeDiff,reduceCtorEq,Nat.reduceEqDiff,Nat.reduceAdd,Nat.beq]
 ·have Z:(iy l != 0)=true:=by simp [c1]
  rw [if_neg c1,if_neg c1]
  rw [au QX rfl];simp only [LZ,aO,Nat.reduceBEq,Nat.reduceLeDiff,Nat.reduceAdd,List.length_cons,List.length_nil]
  simp only [e1,Z,List.length_map,aA,Nat.reduceMul,Nat.reduceBEq,Nat.reduceLT,Nat.reduceLeDiff,reduceCtorEq,Nat.reduceEqDiff,Nat.reduceAdd,Nat.beq]
end Go.Proofs.YtaaokejjmdbfaaaDoor.V

namespace Go.Proofs.YtaaokejjmdbfaaaDoor.V
end Go.Proofs.YtaaokejjmdbfaaaDoor.V

namespace Go.Proofs.YtaaokejjmdbfaaaDoor.V
end Go.Proofs.YtaaokejjmdbfaaaDoor.V

namespace Go.Proofs.YtaaokejjmdbfaaaDoor.V
end Go.Proofs.YtaaokejjmdbfaaaDoor.V
