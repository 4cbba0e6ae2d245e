/-
  Part 8 of the texts that the statement stands on.
-/
import Derived.Test.YtpdfhckdmblicaaZ7
set_option linter.all false


namespace Go.Proofs.Ytpdfhckdmblicaa.V
def confV (x y w:List Sec):List Bool:=(x.zip (y.zip w)).map fun q=>confP q.1 q.2.1 q.2.2
theorem confV_len {x y w:List Sec} (h1:x.length=w.length) (h2:y.length=w.length):(confV x y w).length=w.length:=by unfold confV;rw [List.length_map,zip3_len h1 h2]
theorem confV_get {x y w:List Sec} {i:Nat} (h1:i<x.length) (h2:i<y.length) (h3:i<w.length):(confV x y w)[i]?=some (confP x[i] y[i] w[i]):=by
 unfold confV;rw [List.getElem?_map,zip3_get h1 h2 h3];rfl
def fill (cs:List Bool) (n i:Nat):List PV:=(cs.take i).map eB++List.replicate (n - i) (.bool false)
theorem fill_len {cs:List Bool} {n i:Nat} (h:cs.length=n) (hi:i≤n):(fill cs n i).length=n:=by
 unfold fill;simp;omega
theorem fill_get {cs:List Bool} {n i:Nat} (h:cs.length=n) (hi:i<n):(fill cs n i)[i]?=some (.bool false):=by
 unfold fill
 have:((cs.take i).map eB).length=i:=by simp;omega
 rw [List.getElem?_append_right (by omega),this,Nat.sub_self,List.getElem?_replicate,if_pos (by omega)]
theorem fill_set {cs:List Bool} {n i:Nat} {c:Bool} (hi:i<n) (hc:cs[i]?=some c):(fill cs n i).set i (.bool c)=fill cs n (i+1):=by
 have hlt:=(List.getElem?_eq_some_iff.1 hc).1
 unfold fill
 have hl:((cs.take i).map eB).length=i:=by simp;omega
 rw [List.set_append_right _ _ (by omega),hl,Nat.sub_self,show n - i=(n - (i+1))+1 by omega,List.replicate_succ,List.set_cons_zero,take_snoc hc,List.map_append,List.append_assoc]
 rfl
theorem fill_zero (cs:List Bool) (n:Nat):fill cs n 0=List.replicate n (.bool false):=by simp [fill]
theorem fill_all {cs:List Bool} {n:Nat} (h:cs.length=n):fill cs n n=cs.map eB:=by simp [fill,← h]
set_option maxRecDepth 20000 in
set_option maxHeartbeats 4000000 in
theorem loop23 {a b z:Img} {v:Nat} {x y w:List Sec} {out:List PV} (hx:a[v]?=some x) (hy:b[v]?=some y) (hw:z[v]?=some w) (lx:x.length=w.length) (ly:y.length=w.length) (hl:w.length≤lim) {st:St} (h:st.head [0,1,2,9,10,11,12,31,94] st.boxes.length=some ⟨sl 96 [(0,.pv (.list 1 (a.map eSecs))),(1,.pv (.list 1 (b.map eSecs))),(2,.pv (.list 1 (z.map eSecs))),(9,.row 1 out),(10,.pv (.int .i64 v)),(11,.row 1 (fill (confV x y w) w.length ((0:Nat)))),(12,.pv (.int .i64 (0:Nat))),(31,.any),(94,.any)],[],[],none⟩) :
  den env fn23_l1 st=some (.normal,⟨sl 96 [(0,.pv (.list 1 (a.map eSecs))),(1,.pv (.list 1 (b.map eSecs))),(2,.pv (.list 1 (z.map eSecs))),(6,.any),(7,.any),(9,.row 1 out),(10,.pv (.int .i64 v)),(11,.row 1 ((confV x y w).map eB)),(94,.any)],[],[],none⟩):=by
 unfold fn23_l1
 refine clean_up (env:=env) (w.length) (fun i=>⟨sl 96 [(0,.pv (.list 1 (a.map eSecs))),(1,.pv (.list 1 (b.map eSecs))),(2,.pv (.list 1 (z.map eSecs))),(9,.row 1 out),(10,.pv (.int .i64 v)),(11,.row 1 (fill (confV x y w) w.length (i))),(12,.pv (.int .i64 i)),(31,.any),(94,.any)],[],[],none⟩) (fun i=>some (.normal,⟨sl 96 [(0,.pv (.list 1 (a.map eSecs))),(1,.pv (.list 1 (b.map eSecs))),(2,.pv (.list 1 (z.map eSecs))),(6,.any),(7,.any),(9,.row 1 out),(10,.pv (.int .i64 v)),(11,.row 1 ((confV x y w).map eB)),(94,.any)],[],[],none⟩)) h (fun _=>rfl) (fun _=>by simp only [slAll,slsAll,Nat.reduceMul,Nat.reduceBEq,Nat.reduceLT,Nat.reduceLeDiff,Nat.reduceAdd,decide_true,Bool.and_self,Bool.true_and]) ?_ ?_
 ·intro i rb hi ih
  have hi1:=i64_next hi hl
  have F1:((i:Int)<(w.length:Int))=True:=eq_true (by omega)
  have k1:i<x.length:=by omega
  have k2:i<y.length:=by omega
  have v1:=index_nat (k:=.i64) (List.getElem?_eq_some_iff.1 hx).1
  have v2:=index_nat (k:=.i64) (List.getElem?_eq_some_iff.1 hy).1
  have v3:=index_nat (k:=.i64) (List.getElem?_eq_some_iff.1 hw).1
  have g1:=List.getElem?_eq_getElem k1
  have g2:=List.getElem?_eq_getElem k2
  have g3:=List.getElem?_eq_getElem hi
  have cl:=confV_len lx ly
  have f1:=fill_len (i:=i) cl (by omega)
  have f2:=fill_get cl hi
  have f3:=fill_set hi (confV_get k1 k2 hi)
  generalize x[i]=p at *
  generalize y[i]=q at *
  generalize w[i]=r at *
  unfold confP at f3
  generalize hd1:decide (p=r)=d1 at *
  generalize hd2:decide (q=r)=d2 at *
  generalize hd3:decide (p=q)=d3 at *
  cases d1<;>cases d2<;>cases d3<;>simp only [Bool.not_true,Bool.not_false,Bool.true_and,Bool.false_and,Bool.and_true,Bool.and_false] at f3<;>simp only [fn23_b0,F1,hx,hy,hw,v1,v2,v3,g1,g2,g3,f1,f2,f3,hd1,hd2,hd3,eSecs,eSec,index_nat hi,index_nat k1,index_nat k2,List.getElem?_map,Option.map_some,List.length_map,part_sec,secPV_length,eqCells_sec,slAll,slsAll,Nat.reduceMul,Nat.reduceBEq,Nat.reduceLT,Nat.reduceLeDiff,memAll,vAll,reduceCtorEq,Nat.reduceEqDiff,Nat.reduceAdd,Nat.reduceLT,Nat.reduceLeDiff,Nat.beq]<;>rw [ih _ (by simp only [hi1,slAll,slsAll,Nat.reduceMul,Nat.reduceBEq,Nat.reduceLT,Nat.reduceLeDiff,memAll,vAll,reduceCtorEq,Nat.reduceEqDiff,Nat.reduceAdd,Nat.reduceLT,Nat.reduceLeDiff,Nat.beq]<;>rfl)]
 ·intro rb
  have cl:=confV_len lx ly
  rw [fill_all cl]
  simp only [fn23_b0,Int.lt_irrefl,cl,List.length_map,slAll,slsAll,Nat.reduceMul,Nat.reduceBEq,Nat.reduceLT,Nat.reduceLeDiff,memAll,vAll,reduceCtorEq,Nat.reduceEqDiff,Nat.reduceAdd,Nat.reduceLT,Nat.reduceLeDiff,Nat.beq]
theorem bits_dif {x y w:List Sec} (h1:x.length=w.length) (h2:y.length=w.length):exts (bitsN (confV x y w) (confV x y w).length)=volDiff (chooseV gMark x y w) (chooseV gZero x y w):=by
 unfold volDiff difs difN bitsN
 have lm:=chooseV_len (g:=gMark) h1 h2
 rw [confV_len h1 h2,lm]
 congr 1
 apply List.filter_congr
 intro i hi
 have hi:=List.mem_range.1 hi
 have e1:=chooseV_get (g:=gMark) (show i<x.length by omega) (show i<y.length by omega) hi
 have e2:=chooseV_get (g:=gZero) (show i<x.length by omega) (show i<y.length by omega) hi
 have e3:=confV_get (show i<x.length by omega) (show i<y.length by omega) hi
 unfold dif
 rw [e1,e2,List.getD_eq_getElem?_getD,e3,Option.getD_some]
 unfold gMark gZero
 cases confP x[i] y[i] w[i]
 ·simp
 ·have:oneSec≠zSec:=by decide
  simp [this]
set_option maxRecDepth 20000 in
theorem loop23l3 {a b z:Img} (s1:imSizes a=imSizes z) (s2:imSizes b=imSizes z) (hl:z.length≤lim) (hr:∀ v∈z,v.length≤lim) {D:List (List Exn)} (hD:D=differ (marksI a b z) (zerosI a b z)) {st:St} (h:st.head [0,1,2,9,10,94] st.boxes.length=some ⟨sl 96 [(0,.pv (.list 1 (a.map eSecs))),(1,.pv (.list 1 (b.map eSecs))),(2,.pv (.list 1 (z.map eSecs))),(9,.row 1 ((D.take ((0:Nat))).map eExts)),(10,.pv (.int .i64 (0:Nat))),(94,.any)],[],[],none⟩) :
  den env fn23_l3 st=some (.normal,⟨sl 96 [(6,.any),(7,.any),(9,.row 1 (D.map eExts))],[],[],none⟩):=by
 unfold fn23_l3
 refine clean_up (env:=env) (z.length) (fun i=>⟨sl 96 [(0,.pv (.list 1 (a.map eSecs))),(1,.pv (.list 1 (b.map eSecs))),(2,.pv (.list 1 (z.map eSecs))),(9,.row 1 ((D.take (i)).map eExts)),(10,.pv (.int .i64 i)),(94,.any)],[],[],none⟩) (fun i=>some (.normal,⟨sl 96 [(6,.any),(7,.any),(9,.row 1 (D.map eExts))],[],[],none⟩)) h (fun _=>rfl) (fun _=>by simp only [slAll,slsAll,Nat.reduceMul,Nat.reduceBEq,Nat.reduceLT,Nat.reduceLeDiff,Nat.reduceAdd,decide_true,Bool.and_self,Bool.true_and]) ?_ ?_
 ·intro i rb hi ih
  have hi1:=i64_next hi hl
  have F1:((i:Int)<(z.length:Int))=True:=eq_true (by omega)
  obtain ⟨l1,t1⟩:=sizes_inj s1
  obtain ⟨l2,t2⟩:=sizes_inj s2
  have ia:i<a.length:=by omega
  have ib:i<b.length:=by omega
  have r1:=t1 i ia hi
  have r2:=t2 i ib hi
  have r3:=hr _ (List.getElem_mem hi)
  have em:(marksI a b z)[i]?=_:=chooseX_get (g:=gMark) (a:=a) (b:=b) (z:=z) (i:=i) ia ib hi
  have ez:(zerosI a b z)[i]?=_:=chooseX_get (g:=gZero) (a:=a) (b:=b) (z:=z) (i:=i) ia ib hi
  have gD:D[i]?=some (volDiff (chooseV gMark a[i] b[i] z[i]) (chooseV gZero a[i] b[i] z[i])):=by
   have e:((marksI a b z).zip (zerosI a b z))[i]?=some (chooseV gMark a[i] b[i] z[i],chooseV gZero a[i] b[i] z[i]):=List.getElem?_zip_eq_some.2 ⟨em,ez⟩
   rw [hD];unfold differ;rw [List.getElem?_map,e];rfl
  rw [← bits_dif r1 r2] at gD
  have gx:=List.getElem?_eq_getElem ia
  have gy:=List.getElem?_eq_getElem ib
  have gw:=List.getElem?_eq_getElem hi
  have F2:((D.take i).length+1≤lim)=True:=eq_true (by rw [List.length_take];omega)
  generalize a[i]=X at *
  generalize b[i]=Y at *
  generalize z[i]=W at *
  have e1:=cal62 (m:=confV X Y W) (by rw [confV_len r1 r2];exact r3)
  have R1:(0≤(W.length:Int))=True:=eq_true (by omega)
  have R2:((W.length:Int)≤(lim:Int))=True:=eq_true (by omega)
  have R3:Int.toNat (W.length:Int)=W.length:=Int.toNat_natCast _
  simp only [fn23_b2,F1,R1,R2,R3,eSecs,gw,index_nat hi,List.getElem?_map,Option.map_some,List.length_map,slAll,slsAll,Nat.reduceMul,Nat.reduceBEq,Nat.reduceLT,Nat.reduceLeDiff,memAll,vAll,reduceCtorEq,Nat.reduceEqDiff,Nat.reduceAdd,Nat.reduceLT,Nat.reduceLeDiff,Nat.beq]
  rw [loop23 gx gy gw r1 r2 r3 (by simp only [fill_zero,eSecs,slAll,slsAll,Nat.reduceMul,Nat.reduceBEq,Nat.reduceLT,Nat.reduceLeDiff,memAll,vAll,reduceCtorEq,Nat.reduceEqDiff,Nat.reduceAdd,Nat.reduceLT,Nat.reduceLeDiff,Nat.beq]<;>rfl)]
  simp only [e1,F2,eExts,List.length_map,slAll,slsAll,Nat.reduceMul,Nat.reduceBEq,Nat.reduceLT,Nat.reduceLeDiff,memAll,vAll,reduceCtorEq,Nat.reduceEqDiff,Nat.reduceAdd,Nat.reduceLT,Nat.reduceLeDiff,Nat.beq]
  rw [ih _ (by simp only [hi1,take_snoc gD,List.map_append,List.map_cons,List.map_nil,eExts,slAll,slsAll,Nat.reduceMul,Nat.reduceBEq,Nat.reduceLT,Nat.reduceLeDiff,memAll,vAll,reduceCtorEq,Nat.reduceEqDiff,Nat.reduceAdd,Nat.reduceLT,Nat.reduceLeDiff,Nat.beq]<;>rfl)]
 ·intro rb
  obtain ⟨l1,t1⟩:=sizes_inj s1
  obtain ⟨l2,t2⟩:=sizes_inj s2
  have hms:imSizes (marksI a b z)=imSizes (zerosI a b z):=(chooseX_sizes s1 s2).trans (chooseX_sizes s1 s2).symm
  have ll:D.length=z.length:=by rw [hD,differ_length hms];exact chooseX_len l1 l2
  simp only [fn23_b2,Int.lt_irrefl,List.length_map,slAll,slsAll,Nat.reduceMul,Nat.reduceBEq,Nat.reduceLT,Nat.reduceLeDiff,memAll,vAll,reduceCtorEq,Nat.reduceEqDiff,Nat.reduceAdd,Nat.reduceLT,Nat.reduceLeDiff,Nat.beq]
  rw [← ll,List.take_length]
theorem cal23 {a b z:Img} (ha:a.length≤lim) (hb:b.length≤lim) (hz:z.length≤lim) (hr:∀ v∈z,v.length≤lim):cal env 23 [.list 1 (a.map eSecs),.list 1 (b.map eSecs),.list 1 (z.map eSecs)]=some [(.list 1 ((confOut a b z).map eExts),true),(.int .i64 (imgsErr a b z),false)]:=by
 have e1:=cal61 ha hb hz
 by_cases c:imgsErr a b z=0
 ·obtain ⟨-,-,k3,k4,k5⟩:=imgs_ok c
  have G:(imgsErr a b z != 0)=false:=by simp [c]
  have hc:confOut a b z=differ (marksI a b z) (zerosI a b z):=by unfold confOut;rw [if_pos c]
  rw [hc]
  rw [cal_code env23 rfl];simp only [fn23,slAll,Nat.reduceBEq,Nat.reduceLeDiff,Nat.reduceAdd,List.length_cons,List.length_nil]
  simp only [e1,G,slAll,slsAll,Nat.reduceMul,Nat.reduceBEq,Nat.reduceLT,Nat.reduceLeDiff,memAll,vAll,reduceCtorEq,Nat.reduceEqDiff,Nat.reduceAdd,Nat.reduceLT,Nat.reduceLeDiff,Nat.beq]
  rw [loop23l3 k4 k5 hz hr rfl (by simp only [slAll,slsAll,Nat.reduceMul,Nat.reduceBEq,Nat.reduceLT,Nat.reduceLeDiff,Nat.reduceAdd,decide_true,Bool.and_self,Bool.true_and]<;>rfl)]
  simp only [e1,G,slAll,slsAll,Nat.reduceMul,Nat.reduceBEq,Nat.reduceLT,Nat.reduceLeDiff,memAll,vAll,reduceCtorEq,Nat.reduceEqDiff,Nat.reduceAdd,Nat.reduceLT,Nat.reduceLeDiff,Nat.beq]
  rw [c]
 ·have G:(imgsErr a b z != 0)=true:=by simp [c]
  have hn:confOut a b z=[]:=by unfold confOut;rw [if_neg c]
  rw [hn]
  rw [cal_code env23 rfl];simp only [fn23,slAll,Nat.reduceBEq,Nat.reduceLeDiff,Nat.reduceAdd,List.length_cons,List.length_nil]
  simp only [e1,G,List.map_nil,slAll,slsAll,Nat.reduceMul,Nat.reduceBEq,Nat.reduceLT,Nat.reduceLeDiff,memAll,vAll,reduceCtorEq,Nat.reduceEqDiff,Nat.reduceAdd,Nat.reduceLT,Nat.reduceLeDiff,Nat.beq]
end Go.Proofs.Ytpdfhckdmblicaa.V
