/-
  Part 6 of the texts that the statement stands on.
-/
import Derived.Test.YtaaokejjmdbfaaaDoorZ5
set_option linter.all false
namespace Go.Proofs.YtaaokejjmdbfaaaDoor.V
def agK (w:iW):lQ:=⟨w.start,w.data.length⟩
def Fe (v:Nat) (l:List iW):List lQ:=(l.filter fun w=>decide (w.volume=(v:Int))).map agK
theorem ad5 {v:Nat} {l:List iW} {i:Nat} (h:i<l.length) (c:l[i].volume=(v:Int)):Fe v (l.take (i+1))=Fe v (l.take i)++[agK l[i]]:=by
 unfold Fe
 rw [List.take_succ_eq_append_getElem h,List.filter_append,List.map_append,List.filter_cons_of_pos (by simpa using c)]
 rfl
theorem agL {v:Nat} {l:List iW} {i:Nat} (h:i<l.length) (c:¬ l[i].volume=(v:Int)):Fe v (l.take (i+1))=Fe v (l.take i):=by
 unfold Fe
 rw [List.take_succ_eq_append_getElem h,List.filter_append,List.map_append,List.filter_cons_of_neg (by simpa using c)]
 simp
theorem TM (v:Nat) (l:List iW):(Fe v l).length≤l.length:=by
 unfold Fe
 rw [List.length_map]
 exact List.length_filter_le _ _
def dB (im:kC) (l:List iW) (v:Nat):Bm:=W9 ((im.getD v []).length:Int) (Fe v l)
def aaR (im:kC) (l:List iW) (i:Nat):BV:=if i=0 then .pv (.jV 2) else .row 2 (((List.range i).map (dB im l)).map jU)
theorem G6 (im:kC) (l:List iW):aaR im l 0=.pv (.jV 2):=rfl
theorem yV {im:kC} {l:List iW} {i:Nat} (h:0<i):aaR im l i=.row 2 (((List.range i).map (dB im l)).map jU):=by unfold aaR;rw [if_neg (by omega)]
def bxP (n:Int) (im:kC) (l:List iW) (i:Nat):List BV:=[.pv (.int .i64 n),.pv (.list 3 []),aaR im l i,.pv (.list 1 (im.map aY))]
theorem D9 (n:Int) (im:kC) (l:List iW) (i:Nat):bxP n im l i=[.pv (.int .i64 n),.pv (.list 3 []),aaR im l i,.pv (.list 1 (im.map aY))]:=rfl
theorem aaS {l:List iW} {i:Nat} (h:i<l.length):(l.map vZ)[i]?=some (.agg [.int .i64 l[i].volume,.int .i64 l[i].start,.list 8 (l[i].data.map ng)]):=by rw [List.getElem?_map,List.getElem?_eq_getElem h];rfl
set_option maxRecDepth 20000 in
theorem agM {l:List iW} {v:Nat} {pb ls im:PV} {out:List PV} {n1 n2 n3:Int} {cs:List BV} (hl:l.length≤1000) {st:St} (h:st.head [0,1,5,7,8,11,12,13,36,37,38,42,47,61,62,65,66,67,83,105] st.boxes.length=some ⟨sl 108 [(0,.pv pb),(1,.pv ls),(5,.row 4 out),(7,.pv (.list 3 (l.map vZ))),(8,.pv im),(11,.aA 0 0),(12,.pv (.int .i64 v)),(13,.row 2 ((Fe v (l.take ((0:Nat)))).map gu)),(36,.pv ls),(37,.pv (.int .i64 n1)),(38,.pv (.int .i64 n2)),(42,.pv (.list 3 (l.map vZ))),(47,.pv im),(61,.pv (.int .i64 n3)),(62,.pv (.int .i64 v)),(65,.pv (.list 3 (l.map vZ))),(66,.pv (.int .i64 l.length)),(67,.pv (.int .i64 (0:Nat))),(83,.any),(105,.any)],[⟨false,cs⟩],[],none⟩) :
  den env I8 st=some (.normal,⟨sl 108 [(0,.pv pb),(1,.pv ls),(4,.any),(5,.row 4 out),(7,.pv (.list 3 (l.map vZ))),(8,.pv im),(11,.aA 0 0),(12,.pv (.int .i64 v)),(13,.row 2 ((Fe v l).map gu)),(36,.pv ls),(37,.pv (.int .i64 n1)),(38,.pv (.int .i64 n2)),(42,.pv (.list 3 (l.map vZ))),(47,.pv im),(61,.pv (.int .i64 n3)),(62,.pv (.int .i64 v)),(83,.any),(105,.any)],[⟨false,cs⟩],[],none⟩):=by
 unfold I8
 refine bJ (env:=env) (nb:=1) (l.length) (fun i=>⟨sl 108 [(0,.pv pb),(1,.pv ls),(5,.row 4 out),(7,.pv (.list 3 (l.map vZ))),(8,.pv im),(11,.aA 0 0),(12,.pv (.int .i64 v)),(13,.row 2 ((Fe v (l.take (i))).map gu)),(36,.pv ls),(37,.pv (.int .i64 n1)),(38,.pv (.int .i64 n2)),(42,.pv (.list 3 (l.map vZ))),(47,.pv im),(61,.pv (.int .i64 n3)),(62,.pv (.int .i64 v)),(65,.pv (.list 3 (l.map vZ))),(66,.pv (.int .i64 l.length)),(67,.pv (.int .i64 i)),(83,.any),(105,.any)],[⟨false,cs⟩],[],none⟩) (fun i=>some (.normal,⟨sl 108 [(0,.pv pb),(1,.pv ls),(4,.any),(5,.row 4 out),(7,.pv (.list 3 (l.map vZ))),(8,.pv im),(11,.aA 0 0),(12,.pv (.int .i64 v)),(13,.row 2 ((Fe v l).map gu)),(36,.pv ls),(37,.pv (.int .i64 n1)),(38,.pv (.int .i64 n2)),(42,.pv (.list 3 (l.map vZ))),(47,.pv im),(61,.pv (.int .i64 n3)),(62,.pv (.int .i64 v)),(83,.any),(105,.any)],[⟨false,cs⟩],[],none⟩)) h (fun _=>rfl) (fun _=>by simp only [aG,bD,Nat.reduceMul,Nat.reduceBEq,Nat.reduceLT,Nat.reduceLeDiff,Nat.reduceAdd,decide_true,Bool.and_self,Bool.true_and]) ?_ ?_
 ·intro i rb hi ih
  have hlim:lim=1073741824:=rfl
  have hi1:=bP hi (Nat.le_trans hl (by decide))
  have F1:((i:Int)<(l.length:Int))=True:=eq_true (by omega)
  have hx:=aaS hi
  have P3:∀ a b c:PV,part [a,b,c] 0 (some 3)=some (.agg [a,b,c]):=fun _ _ _=>rfl
  have h1:=TM v (l.take i)
  have h2:(l.take i).length≤l.length:=by rw [List.length_take];omega
  have F3:=eq_true (show (Fe v (l.take i)).length+1≤lim by omega)
  by_cases c:l[i].volume=(v:Int)
  ·have F2:(l[i].volume==(v:Int))=true:=by simp [c]
   have hs:(Fe v (l.take (i+1))).map gu=(Fe v (l.take i)).map gu++[.agg [.int .i64 l[i].start,.int .i64 l[i].data.length]]:=by rw [ad5 hi c,List.map_append];rfl
   simp only [Bh,F1,F2,F3,hx,P3,ah hi,List.length_map,aB,Nat.reduceMul,Nat.reduceBEq,Nat.reduceLT,Nat.reduceLeDiff,reduceCtorEq,Nat.reduceEqDiff,Nat.reduceAdd,Nat.beq]
   rw [ih _ (by simp only [hi1];rw [hs];simp only [aB,Nat.reduceMul,Nat.reduceBEq,Nat.reduceLT,Nat.reduceLeDiff,reduceCtorEq,Nat.reduceEqDiff,Nat.reduceAdd,Nat.beq]<;>rfl)]
  ·have F2:(l[i].volume==(v:Int))=false:=by simp [c]
   simp only [Bh,F1,F2,F3,hx,P3,ah hi,List.length_map,aB,Nat.reduceMul,Nat.reduceBEq,Nat.reduceLT,Nat.reduceLeDiff,reduceCtorEq,Nat.reduceEqDiff,Nat.reduceAdd,Nat.beq]
   rw [ih _ (by simp only [hi1];rw [agL hi c];simp only [aB,Nat.reduceMul,Nat.reduceBEq,Nat.reduceLT,Nat.reduceLeDiff,reduceCtorEq,Nat.reduceEqDiff,Nat.reduceAdd,Nat.beq]<;>rfl)]
 ·intro rb
  rw [List.take_length]
  simp only [Bh,Int.lt_irrefl,List.length_map,aB,Nat.reduceMul,Nat.reduceBEq,Nat.reduceLT,Nat.reduceLeDiff,reduceCtorEq,Nat.reduceEqDiff,Nat.reduceAdd,Nat.beq]
theorem scP (a:Int) (l:List PV):(PV.agg [.int .i64 a,.list 1 l]).scalar=false:=rfl
theorem Xa (im:kC) (l:List iW) (i:Nat):((List.range (i+1)).map (dB im l)).map jU=((List.range i).map (dB im l)).map jU++[.agg [.int .i64 (dB im l i).size,.list 1 ((dB im l i).ws.map eW)]]:=by
 rw [List.range_succ,List.map_append,List.map_append];rfl
theorem oG {im:kC} {v:Nat} (h:v<im.length):(im.map aY)[v]?=some (.list 8 ((im.getD v []).map ng)):=by
 rw [List.getElem?_map,List.getElem?_eq_getElem h,List.getD_eq_getElem?_getD,List.getElem?_eq_getElem h];rfl
set_option maxRecDepth 20000 in
theorem aaT {l:List iW} {im:kC} {pb ls:PV} {out:List PV} {n1 n2 n0:Int} (hl:l.length≤1000) (hi0:im.length≤1000) {st:St} (h:st.head [0,1,5,7,8,11,36,37,38,42,47,61,62,83,105] st.boxes.length=some ⟨sl 108 [(0,.pv pb),(1,.pv ls),(5,.row 4 out),(7,.pv (.list 3 (l.map vZ))),(8,.pv (.list 1 (im.map aY))),(11,.aA 0 0),(36,.pv ls),(37,.pv (.int .i64 n1)),(38,.pv (.int .i64 n2)),(42,.pv (.list 3 (l.map vZ))),(47,.pv (.list 1 (im.map aY))),(61,.pv (.int .i64 im.length)),(62,.pv (.int .i64 (0:Nat))),(83,.any),(105,.any)],[⟨false,bxP n0 im l ((0:Nat))⟩],[],none⟩) :
  den env I9 st=some (.normal,⟨sl 108 [(0,.pv pb),(1,.pv ls),(4,.any),(5,.row 4 out),(11,.aA 0 0),(36,.pv ls),(37,.pv (.int .i64 n1)),(38,.pv (.int .i64 n2)),(83,.any),(105,.any)],[⟨false,bxP n0 im l im.length⟩],[],none⟩):=by
 unfold I9
 refine bJ (env:=env) (nb:=1) (im.length) (fun i=>⟨sl 108 [(0,.pv pb),(1,.pv ls),(5,.row 4 out),(7,.pv (.list 3 (l.map vZ))),(8,.pv (.list 1 (im.map aY))),(11,.aA 0 0),(36,.pv ls),(37,.pv (.int .i64 n1)),(38,.pv (.int .i64 n2)),(42,.pv (.list 3 (l.map vZ))),(47,.pv (.list 1 (im.map aY))),(61,.pv (.int .i64 im.length)),(62,.pv (.int .i64 i)),(83,.any),(105,.any)],[⟨false,bxP n0 im l (i)⟩],[],none⟩) (fun i=>some (.normal,⟨sl 108 [(0,.pv pb),(1,.pv ls),(4,.any),(5,.row 4 out),(11,.aA 0 0),(36,.pv ls),(37,.pv (.int .i64 n1)),(38,.pv (.int .i64 n2)),(83,.any),(105,.any)],[⟨false,bxP n0 im l im.length⟩],[],none⟩)) h (fun _=>rfl) (fun _=>by simp only [aG,bD,Nat.reduceMul,Nat.reduceBEq,Nat.reduceLT,Nat.reduceLeDiff,Nat.reduceAdd,decide_true,Bool.and_self,Bool.true_and]) ?_ ?_
 ·intro i rb hi ih
  have hlim:lim=1073741824:=rfl
  have hi1:=bP hi (Nat.le_trans hi0 (by decide))
  have F1:((i:Int)<(im.length:Int))=True:=eq_true (by omega)
  have hx:=oG hi
  have P2:∀ a b:PV,part [a,b] 0 (some 2)=some (.agg [a,b]):=fun _ _=>rfl
  have hml:=TM i l
  have e1:=aiY (l:=Fe i l) (n:=((im.getD i []).length:Int)) (by omega)
  rw [show jU (W9 ((im.getD i []).length:Int) (Fe i l))=.agg [.int .i64 (dB im l i).size,.list 1 ((dB im l i).ws.map eW)] from rfl] at e1
  have hs:=Xa im l i
  obtain ⟨r,hr2⟩:∃ r,r=((List.range i).map (dB im l)).map jU:=⟨_,rfl⟩
  have hrl:r.length=i:=by rw [hr2,List.length_map,List.length_map,List.length_range]
  have F3:=eq_true (show r.length+1≤lim by omega)
  have F4:=eq_true (show 0+1≤lim by omega)
  have hL:=fun (st:St)=>agM (st:=st) (l:=l) (v:=i) (pb:=pb) (ls:=ls) (im:=.list 1 (im.map aY)) (out:=out) (n1:=n1) (n2:=n2) (n3:=(im.length:Int)) (cs:=bxP n0 im l i) hl
  have e0:(Fe i (l.take 0)).map gu=[]:=rfl
  rw [e0] at hL
  rw [D9] at hL ⊢
  by_cases c:i=0
  ·subst c
   have d1:=yV (im:=im) (l:=l) (i:=0+1) (by omega)
   rw [hs] at d1
   rw [G6] at hL ⊢
   simp only [List.range_zero,List.map_nil,List.nil_append] at d1
   simp only [Bj,F1,hx,ah hi,List.length_map,aB,Nat.reduceMul,Nat.reduceBEq,Nat.reduceLT,Nat.reduceLeDiff,reduceCtorEq,Nat.reduceEqDiff,Nat.reduceAdd,Nat.beq]
   rw [hL _ (by simp only [aG,bD,Nat.reduceMul,Nat.reduceBEq,Nat.reduceLT,Nat.reduceLeDiff,Nat.reduceAdd,decide_true,Bool.and_self,Bool.true_and]<;>rfl)]
   simp only [hx,P2,e1,F4,scP,ah hi,List.length_map,List.nil_append,aB,Nat.reduceMul,Nat.reduceBEq,Nat.reduceLT,Nat.reduceLeDiff,reduceCtorEq,Nat.reduceEqDiff,Nat.reduceAdd,Nat.beq]
   rw [ih _ (by simp only [hi1];rw [D9,d1];simp only [aB,Nat.reduceMul,Nat.reduceBEq,Nat.reduceLT,Nat.reduceLeDiff,reduceCtorEq,Nat.reduceEqDiff,Nat.reduceAdd,Nat.beq]<;>rfl)]
   all_goals rfl
  ·have d0:=yV (im:=im) (l:=l) (i:=i) (by omega)
   have d1:=yV (im:=im) (l:=l) (i:=i+1) (by omega)
   rw [hs,← hr2] at d1
   rw [← hr2] at d0
   rw [d0] at hL ⊢
   simp only [Bj,F1,hx,ah hi,List.length_map,aB,Nat.reduceMul,Nat.reduceBEq,Nat.reduceLT,Nat.reduceLeDiff,reduceCtorEq,Nat.reduceEqDiff,Nat.reduceAdd,Nat.beq]
   rw [hL _ (by simp only [aG,bD,Nat.reduceMul,Nat.reduceBEq,Nat.reduceLT,Nat.reduceLeDiff,Nat.reduceAdd,decide_true,Bool.and_self,Bool.true_and]<;>rfl)]
   simp only [hx,P2,e1,F3,scP,ah hi,List.length_map,aB,Nat.reduceMul,Nat.reduceBEq,Nat.reduceLT,Nat.reduceLeDiff,reduceCtorEq,Nat.reduceEqDiff,Nat.reduceAdd,Nat.beq]
   rw [ih _ (by simp only [hi1];rw [D9,d1];simp only [aB,Nat.reduceMul,Nat.reduceBEq,Nat.reduceLT,Nat.reduceLeDiff,reduceCtorEq,Nat.reduceEqDiff,Nat.reduceAdd,Nat.beq]<;>rfl)]
   all_goals rfl
 ·intro rb
  simp only [Bj,Int.lt_irrefl,List.length_map,aB,Nat.reduceMul,Nat.reduceBEq,Nat.reduceLT,Nat.reduceLeDiff,reduceCtorEq,Nat.reduceEqDiff,Nat.reduceAdd,Nat.beq]
def Xv (l:List iW):PV:=.list 3 (l.map vZ)
theorem agN {l:List (List iW)} {i:Nat} (h:i<l.length):(l.map Xv)[i]?=some (.list 3 (l[i].map vZ)):=by rw [List.getElem?_map,List.getElem?_eq_getElem h];rfl
def ptO (base:kC) (n:Nat) (l:List iW):Pt:=⟨n,[],(List.range (uI base l).length).map (dB (uI base l) l),uI base l⟩
def lN (base:kC) (ls:List (List iW)) (i:Nat):List Pt:=(List.range i).map fun k=>ptO base k (ls.getD k [])
theorem Xb {base:kC} {ls:List (List iW)} {i:Nat} (h:i<ls.length):lN base ls (i+1)=lN base ls i++[ptO base i ls[i]]:=by
 unfold lN
 rw [List.range_succ,List.map_append,List.map_cons,List.map_nil,List.getD_eq_getElem?_getD,List.getElem?_eq_getElem h];rfl
theorem yX (base:kC) (ls:List (List iW)) (i:Nat):(lN base ls i).length=i:=by simp [lN]
def good (base:kC) (l:List iW):Bool:=decide (Dj base l=0)&&decide (l.length≤20)
def uO (base:kC) (ls:List (List iW)):Nat→List (List iW)→Option (Ex × St)
 |i,[]=>some (.normal,⟨sl 108 [(4,.any),(5,.row 4 ((lN base ls i).map eP))],[],[],none⟩)
 |i,l :: r=>if good base l then uO base ls (i+1) r else some (.ret,⟨sl 108 [(4,.row 4 []),(5,.row 4 ((lN base ls i).map eP))],[],[],none⟩)
theorem RH {base:kC} {ls:List (List iW)} {i:Nat} (h:i<ls.length):uO base ls i (ls.drop i)=if good base ls[i] then uO base ls (i+1) (ls.drop (i+1)) else some (.ret,⟨sl 108 [(4,.row 4 []),(5,.row 4 ((lN base ls i).map eP))],[],[],none⟩):=by
 rw [List.drop_eq_getElem_cons h,uO]
theorem Xc (base:kC) (ls:List (List iW)):uO base ls ls.length (ls.drop ls.length)=some (.normal,⟨sl 108 [(4,.any),(5,.row 4 ((lN base ls ls.length).map eP))],[],[],none⟩):=by
 rw [List.drop_of_length_le (Nat.le_refl _),uO]
theorem Au (base:kC) (ls:List (List iW)):∀ (r:List (List iW)) (i:Nat),(r.all (good base)=true∧uO base ls i r=some (.normal,⟨sl 108 [(4,.any),(5,.row 4 ((lN base ls (i+r.length)).map eP))],[],[],none⟩))∨(r.all (good base)=false∧∃ q,uO base ls i r=some (.ret,⟨sl 108 [(4,.row 4 []),(5,.row 4 q)],[],[],none⟩))
 |[],i=>.inl ⟨rfl,rfl⟩
 |l :: r,i=>by
  unfold uO
  cases c:good base l with
  |true =>
   rw [if_pos rfl,List.all_cons,c,Bool.true_and,List.length_cons,show i+(r.length+1)=i+1+r.length by omega]
   exact Au base ls r (i+1)
  |false =>
   rw [if_neg (by decide),List.all_cons,c,Bool.false_and]
   exact .inr ⟨rfl,_,rfl⟩
set_option maxRecDepth 20000 in
theorem aaU {base:kC} {ls:List (List iW)} (hb1:base.length≤9) (hb2:∀ v∈base,v.length≤24) (hw:∀ l∈ls,okW l) (hl:ls.length≤1000) {st:St} (h:st.head [0,1,5,36,37,38,83,105] st.boxes.length=some ⟨sl 108 [(0,.pv (.list 1 (base.map aY))),(1,.pv (.list 1 (ls.map Xv))),(5,.row 4 ((lN base ls ((0:Nat))).map eP)),(36,.pv (.list 1 (ls.map Xv))),(37,.pv (.int .i64 ls.length)),(38,.pv (.int .i64 (0:Nat))),(83,.any),(105,.any)],[],[],none⟩) :
  den env Ja st=uO base ls ((0:Nat)) (ls.drop ((0:Nat))):=by
 unfold Ja
 refine bJ (env:=env) (nb:=0) (ls.length) (fun i=>⟨sl 108 [(0,.pv (.list 1 (base.map aY))),(1,.pv (.list 1 (ls.map Xv))),(5,.row 4 ((lN base ls (i)).map eP)),(36,.pv (.list 1 (ls.map Xv))),(37,.pv (.int .i64 ls.length)),(38,.pv (.int .i64 i)),(83,.any),(105,.any)],[],[],none⟩) (fun i=>uO base ls (i) (ls.drop (i))) h (fun _=>rfl) (fun _=>by simp only [aG,bD,Nat.reduceMul,Nat.reduceBEq,Nat.reduceLT,Nat.reduceLeDiff,Nat.reduceAdd,decide_true,Bool.and_self,Bool.true_and]) ?_ ?_
 ·intro i rb hi ih
  have hlim:lim=1073741824:=rfl
  have hi1:=bP hi (Nat.le_trans hl (by decide))
  have F1:((i:Int)<(ls.length:Int))=True:=eq_true (by omega)
  have hx:=agN hi
  have e1:=aiV (im:=base) (l:=ls[i]) (hw _ (List.getElem_mem hi)) (by omega) (fun v hv=>by have:=hb2 v hv;omega)
  have P4:∀ a b c d:PV,part [a,b,c,d] 0 (some 4)=some (.agg [a,b,c,d]):=fun _ _ _ _=>rfl
  have hsm:=WZ (im:=base) (l:=ls[i]) hb1 hb2
  have hn0:=Rw (im:=base) (l:=ls[i])
  have hts:=Xb (base:=base) hi
  have htl:=yX base ls i
  rw [RH hi]
  by_cases c1:Dj base ls[i]=0
  ·have G1:(Dj base ls[i] != 0)=false:=by simp [c1]
   by_cases c2:ls[i].length≤20
   ·have G2:(((20:Int))<(ls[i].length:Int))=False:=eq_false (by omega)
    have G3:((ls[i].length:Int) > 20)=False:=eq_false (by omega)
    rw [if_pos (by unfold good;rw [decide_eq_true c1,decide_eq_true c2];rfl)]
    have hpos:0<(uI base ls[i]).length:=List.length_pos_iff.2 (hn0.1 c1)
    have hL:=fun (st:St)=>aaT (st:=st) (l:=ls[i]) (im:=uI base ls[i]) (pb:=.list 1 (base.map aY)) (ls:=.list 1 (ls.map Xv)) (out:=(lN base ls i).map eP) (n1:=(ls.length:Int)) (n2:=(i:Int)) (n0:=(i:Int)) (by omega) (by omega)
    have d0:=G6 (uI base ls[i]) ls[i]
    have d1:=yV (im:=uI base ls[i]) (l:=ls[i]) hpos
    rw [D9,D9,d0,d1] at hL
    have hp:((lN base ls (i+1)).map eP)=(lN base ls i).map eP++[.agg [.int .i64 (i:Int),.list 3 [],.list 2 (((List.range (uI base ls[i]).length).map (dB (uI base ls[i]) ls[i])).map jU),.list 1 ((uI base ls[i]).map aY)]]:=by
     rw [hts,List.map_append];rfl
    have F3:=eq_true (show (lN base ls i).length+1≤lim by omega)
    generalize ((List.range (uI base ls[i]).length).map (dB (uI base ls[i]) ls[i])).map jU=D at *
    simp only [yx,F1,hx,e1,G1,G2,G3,P4,ah hi,List.length_map,aB,Nat.reduceMul,Nat.reduceBEq,Nat.reduceLT,Nat.reduceLeDiff,reduceCtorEq,Nat.reduceEqDiff,Nat.reduceAdd,Nat.beq]
    rw [hL _ (by simp only [aG,bD,Nat.reduceMul,Nat.reduceBEq,Nat.reduceLT,Nat.reduceLeDiff,Nat.reduceAdd,decide_true,Bool.and_self,Bool.true_and]<;>rfl)]
    simp only [F3,P4,List.length_map,aB,Nat.reduceMul,Nat.reduceBEq,Nat.reduceLT,Nat.reduceLeDiff,reduceCtorEq,Nat.reduceEqDiff,Nat.reduceAdd,Nat.beq]
    rw [ih _ (by simp only [hi1];rw [hp];simp only [aB,Nat.reduceMul,Nat.reduceBEq,Nat.reduceLT,Nat.reduceLeDiff,reduceCtorEq,Nat.reduceEqDiff,Nat.reduceAdd,Nat.beq]<;>rfl)]
    all_goals rfl
   ·have G2:(((20:Int))<(ls[i].length:Int))=True:=eq_true (by omega)
    have G3:((ls[i].length:Int) > 20)=True:=eq_true (by omega)
    rw [if_neg (by unfold good;rw [decide_eq_false c2,Bool.and_false];decide)]
    simp only [yx,F1,hx,e1,G1,G2,G3,P4,ah hi,List.length_map,aB,Nat.reduceMul,Nat.reduceBEq,Nat.reduceLT,Nat.reduceLeDiff,reduceCtorEq,Nat.reduceEqDiff,Nat.reduceAdd,Nat.beq]
    all_goals rfl
  ·have G1:(Dj base ls[i] != 0)=true:=by simpa using c1
   rw [if_neg (by unfold good;rw [decide_eq_false c1,Bool.false_and];decide)]
   simp only [yx,F1,hx,e1,G1,P4,ah hi,List.length_map,aB,Nat.reduceMul,Nat.reduceBEq,Nat.reduceLT,Nat.reduceLeDiff,reduceCtorEq,Nat.reduceEqDiff,Nat.reduceAdd,Nat.beq]
   all_goals rfl
 ·intro rb
  rw [Xc]
  simp only [yx,Int.lt_irrefl,List.length_map,aB,Nat.reduceMul,Nat.reduceBEq,Nat.reduceLT,Nat.reduceLeDiff,reduceCtorEq,Nat.reduceEqDiff,Nat.reduceAdd,Nat.beq]
def Ea (base:kC) (ls:List (List iW)):Bool:=NI base&&(decide (gW base=0)&&(decide (1≤ls.length)&&(decide (ls.length≤4)&&ls.all (good base))))
def ad6 (base:kC) (ls:List (List iW)):List Pt:=if Ea base ls then lN base ls ls.length else []
theorem ad7 {im:kC} (h:NI im=true):im.length≤9∧∀ v∈im,v.length≤24:=by
 unfold NI at h
 simp only [Bool.and_eq_true,decide_eq_true_eq,List.all_eq_true] at h
 exact h
set_option maxRecDepth 20000 in
theorem ai0 {base:kC} {ls:List (List iW)} (hw:∀ l∈ls,okW l):cal env 32 [.list 1 (base.map aY),.list 1 (ls.map Xv)]=some [(.list 4 ((ad6 base ls).map eP),true)]:=by
 have e1:=aiu (im:=base)
 unfold ad6 Ea
 cases c1:NI base with
 |false =>
  rw [c1] at e1
  rw [Bool.false_and,if_neg (by decide),List.map_nil]
  rw [au Gw rfl];simp only [EZ,aG,Nat.reduceBEq,Nat.reduceLeDiff,Nat.reduceAdd,List.length_cons,List.length_nil]
  simp only [e1,aB,Nat.reduceMul,Nat.reduceBEq,Nat.reduceLT,Nat.reduceLeDiff,reduceCtorEq,Nat.reduceEqDiff,Nat.reduceAdd,Nat.beq]
 |true =>
  rw [c1] at e1
  obtain ⟨b1,b2⟩:=ad7 c1
  have e2:=aeJ (im:=base) (Nat.le_trans b1 (by decide))
  by_cases c2:gW base=0
  ·have G2:(gW base != 0)=false:=by simp [c2]
   rw [decide_eq_true c2,Bool.true_and,Bool.true_and]
   by_cases c3:1≤ls.length
   ·have G3:((ls.length:Int)<1)=False:=eq_false (by omega)
    rw [decide_eq_true c3,Bool.true_and]
    by_cases c4:ls.length≤4
    ·have G4:((ls.length:Int) > 4)=False:=eq_false (by omega)
     have G5:((4:Int)<(ls.length:Int))=False:=eq_false (by omega)
     rw [decide_eq_true c4,Bool.true_and]
     have hL:=fun (st:St)=>aaU (st:=st) (base:=base) (ls:=ls) b1 b2 hw (by omega)
     rw [List.drop_zero] at hL
     have e0:(lN base ls 0).map eP=[]:=rfl
     rw [e0] at hL
     rcases Au base ls ls 0 with ⟨q1,q2⟩|⟨q1,q,q2⟩
     ·rw [q2,Nat.zero_add] at hL
      rw [q1,if_pos rfl]
      rw [au Gw rfl];simp only [EZ,aG,Nat.reduceBEq,Nat.reduceLeDiff,Nat.reduceAdd,List.length_cons,List.length_nil]
      simp only [e1,e2,G2,G3,G4,G5,List.length_map,aB,Nat.reduceMul,Nat.reduceBEq,Nat.reduceLT,Nat.reduceLeDiff,reduceCtorEq,Nat.reduceEqDiff,Nat.reduceAdd,Nat.beq]
      rw [hL _ (by simp only [aG,bD,Nat.reduceMul,Nat.reduceBEq,Nat.reduceLT,Nat.reduceLeDiff,Nat.reduceAdd,decide_true,Bool.and_self,Bool.true_and]<;>rfl)]
      simp only [e1,e2,G2,G3,G4,G5,List.length_map,aB,Nat.reduceMul,Nat.reduceBEq,Nat.reduceLT,Nat.reduceLeDiff,reduceCtorEq,Nat.reduceEqDiff,Nat.reduceAdd,Nat.beq]
     ·rw [q2] at hL
      rw [q1,if_neg (by decide),List.map_nil]
      rw [au Gw rfl];simp only [EZ,aG,Nat.reduceBEq,Nat.reduceLeDiff,Nat.reduceAdd,List.length_cons,List.length_nil]
      simp only [e1,e2,G2,G3,G4,G5,List.length_map,aB,Nat.reduceMul,Nat.reduceBEq,Nat.reduceLT,Nat.reduceLeDiff,reduceCtorEq,Nat.reduceEqDiff,Nat.reduceAdd,Nat.beq]
      rw [hL _ (by simp only [aG,bD,Nat.reduceMul,Nat.reduceBEq,Nat.reduceLT,Nat.reduceLeDiff,Nat.reduceAdd,decide_true,Bool.and_self,Bool.true_and]<;>rfl)]
      simp only [e1,e2,G2,G3,G4,G5,List.length_map,aB,Nat.reduceMul,Nat.reduceBEq,Nat.reduceLT,Nat.reduceLeDiff,reduceCtorEq,Nat.reduceEqDiff,Nat.reduceAdd,Nat.beq]
    ·have G4:((ls.length:Int) > 4)=True:=eq_true (by omega)
     have G5:((4:Int)<(ls.length:Int))=True:=eq_true (by omega)
     rw [decide_eq_false c4,Bool.false_and,if_neg (by decide),List.map_nil]
     rw [au Gw rfl];simp only [EZ,aG,Nat.reduceBEq,Nat.reduceLeDiff,Nat.reduceAdd,List.length_cons,List.length_nil]
     simp only [e1,e2,G2,G3,G4,G5,List.length_map,aB,Nat.reduceMul,Nat.reduceBEq,Nat.reduceLT,Nat.reduceLeDiff,reduceCtorEq,Nat.reduceEqDiff,Nat.reduceAdd,Nat.beq]
   ·have G3:((ls.length:Int)<1)=True:=eq_true (by omega)
    rw [decide_eq_false c3,Bool.false_and,if_neg (by decide),List.map_nil]
    rw [au Gw rfl];simp only [EZ,aG,Nat.reduceBEq,Nat.reduceLeDiff,Nat.reduceAdd,List.length_cons,List.length_nil]
    simp only [e1,e2,G2,G3,List.length_map,aB,Nat.reduceMul,Nat.reduceBEq,Nat.reduceLT,Nat.reduceLeDiff,reduceCtorEq,Nat.reduceEqDiff,Nat.reduceAdd,Nat.beq]
  ·have G2:(gW base != 0)=true:=by simpa using c2
   rw [decide_eq_false c2,Bool.false_and,Bool.and_false,if_neg (by decide),List.map_nil]
   rw [au Gw rfl];simp only [EZ,aG,Nat.reduceBEq,Nat.reduceLeDiff,Nat.reduceAdd,List.length_cons,List.length_nil]
   simp only [e1,e2,G2,List.length_map,aB,Nat.reduceMul,Nat.reduceBEq,Nat.reduceLT,Nat.reduceLeDiff,reduceCtorEq,Nat.reduceEqDiff,Nat.reduceAdd,Nat.beq]
end Go.Proofs.YtaaokejjmdbfaaaDoor.V

namespace Go.Proofs.YtaaokejjmdbfaaaDoor.V
theorem Xd {im:kC} {w:iW} (h:yu (gZ im) w=0):∃ u:Nat,w.volume=(u:Int)∧u<im.length∧0≤w.start∧w.start.toNat+w.data.length≤(im.getD u []).length∧w.data.length≠0:=by
 unfold yu at h
 split at h
 ·cases h
 ·rename_i c1
  split at h
  ·cases h
  ·rename_i c2
   split at h
   ·cases h
   ·rename_i c3
    have hl:(gZ im).length=im.length:=by unfold gZ;rw [List.length_map]
    have hu:w.volume.toNat<im.length:=by omega
    have e:(gZ im).getD w.volume.toNat 0=((im.getD w.volume.toNat []).length:Int):=by
     unfold gZ
     rw [List.getD_eq_getElem?_getD,List.getD_eq_getElem?_getD,List.getElem?_map,List.getElem?_eq_getElem hu];rfl
    rw [e] at c3
    exact ⟨w.volume.toNat,by omega,hu,by omega,by omega,c2⟩
theorem Eb {sz:List Int}:∀ {W:List iW} {i:Nat},(qJ sz W i).2=0→∀ w∈W,yu sz w=0
 |[],_,_,w,hw=>by cases hw
 |x :: W,i,h,w,hw=>by
  unfold qJ at h
  split at h
  ·rename_i c;exact absurd h c
  ·rename_i c
   rcases List.mem_cons.1 hw with rfl|hw
   ·omega
   ·exact Eb h w hw
end Go.Proofs.YtaaokejjmdbfaaaDoor.V

namespace Go.Proofs.YtaaokejjmdbfaaaDoor.V
def uP (a b:Pt) (n i:Nat):List PV:=(BG a b i).map sQ++List.replicate (n - i) (PV.list 0 [])
theorem aaV {a b:Pt} {n i:Nat} (h:i≤n):(uP a b n i).length=n:=by
 unfold uP
 rw [List.length_append,List.length_map,yM,List.length_replicate]
 omega
theorem aaW {a b:Pt} {n i:Nat} (h:i<n):(uP a b n i)[i]?=some (PV.list 0 []):=by
 unfold uP
 have hl:((BG a b i).map sQ).length=i:=by rw [List.length_map,yM]
 rw [List.getElem?_append_right (by omega),hl,Nat.sub_self,List.getElem?_replicate,if_pos (by omega)]
theorem aaX {a b:Pt} {n i:Nat} (h:i<n):(uP a b n i).set i (PV.list 2 ((ext (mk2 a b i) (jM a i)).map gu))=uP a b n (i+1):=by
 unfold uP
 have hl:((BG a b i).map sQ).length=i:=by rw [List.length_map,yM]
 rw [List.set_append_right _ _ (by omega),hl,Nat.sub_self,show n - i=(n - (i+1))+1 by omega,List.replicate_succ,List.set_cons_zero,DW,List.map_append,List.append_assoc]
 rfl
theorem Xe (a b:Pt) (n:Nat):uP a b n 0=List.replicate n (PV.list 0 []):=by
 unfold uP BG
 simp
theorem aaY (a b:Pt) (n:Nat):uP a b n n=(BG a b n).map sQ:=by
 unfold uP
 rw [Nat.sub_self]
 simp
set_option maxRecDepth 20000 in
theorem agO {a b:Pt} (ha:nR a=0) (hb:nR b=0) (hs:bn a.img=bn b.img) (hl:a.img.length≤lim) {st:St} (h:st.head [2,3,5,12,14,15] st.boxes.length=some ⟨sl 39 [(2,.aA 0 0),(3,.aA 1 0),(5,.row 1 (uP a b a.img.length ((0:Nat)))),(12,.any),(14,.pv (.int .i64 a.img.length)),(15,.pv (.int .i64 (0:Nat)))],[⟨false,yK a⟩,⟨false,yK b⟩],[],none⟩) :
  den env Jg st=some (.normal,⟨sl 39 [(4,.any),(5,.row 1 (uP a b a.img.length a.img.length))],[⟨false,yK a⟩,⟨false,yK b⟩],[],none⟩):=by
 unfold Jg
 refine bJ (env:=env) (nb:=2) (a.img.length) (fun i=>⟨sl 39 [(2,.aA 0 0),(3,.aA 1 0),(5,.row 1 (uP a b a.img.length (i))),(12,.any),(14,.pv (.int .i64 a.img.length)),(15,.pv (.int .i64 i))],[⟨false,yK a⟩,⟨false,yK b⟩],[],none⟩) (fun i=>some (.normal,⟨sl 39 [(4,.any),(5,.row 1 (uP a b a.img.length a.img.length))],[⟨false,yK a⟩,⟨false,yK b⟩],[],none⟩)) h (fun _=>rfl) (fun _=>by simp only [aG,bD,Nat.reduceMul,Nat.reduceBEq,Nat.reduceLT,Nat.reduceLeDiff,Nat.reduceAdd,decide_true,Bool.and_self,Bool.true_and]) ?_ ?_
 ·intro i rb hi ih
  have hi1:=bP hi hl
  have F1:((i:Int)<(a.img.length:Int))=True:=eq_true (by omega)
  have h1:i<a.dirty.length:=by have:=(oh ha).2.2.1;omega
  have h2:i<b.dirty.length:=by have:=(oh hb).2.2.1;have:=NQ hs;omega
  have P2:∀ a b:PV,part [a,b] 0 (some 2)=some (.agg [a,b]):=fun _ _=>rfl
  have eA:∀ b:Bm,jU b=.agg [.int .i64 b.size,.list 1 (b.ws.map eW)]:=fun _=>rfl
  obtain ⟨m1,m2⟩:=agx ha hb hs hi
  have hx:=JK h1
  have hy:=JK h2
  have e1:=aiA (a:=dir a i) (b:=dir b i)
  have e2:=aiC (b:=uK qp (dir a i) (dir b i))
  rw [m1] at e1
  rw [m2] at e2
  generalize uK qp (dir a i) (dir b i)=o at *
  rw [eA,eA,eA] at e1
  rw [eA] at e2 hx hy
  have z1:=aaV (a:=a) (b:=b) (n:=a.img.length) (i:=i) (by omega)
  have z2:=aaW (a:=a) (b:=b) hi
  have z3:=aaX (a:=a) (b:=b) hi
  have I1:index (.int .i64 (i:Int)) (uP a b a.img.length i).length=some i:=by rw [z1];exact ah hi
  rw [← z3] at ih
  generalize uP a b a.img.length i=z at *
  generalize (ext (mk2 a b i) (jM a i)).map gu=x at *
  simp only [Jf,F1,P2,hx,hy,e1,e2,z2,I1,eY,ah h1,ah h2,List.length_map,aB,Nat.reduceMul,Nat.reduceBEq,Nat.reduceLT,Nat.reduceLeDiff,reduceCtorEq,Nat.reduceEqDiff,Nat.reduceAdd,Nat.beq]
  rw [ih _ (by simp only [hi1,eY,aB,Nat.reduceMul,Nat.reduceBEq,Nat.reduceLT,Nat.reduceLeDiff,reduceCtorEq,Nat.reduceEqDiff,Nat.reduceAdd,Nat.beq]<;>rfl)]
  all_goals rfl
 ·intro rb
  simp only [Jf,Int.lt_irrefl,eY,List.length_map,aB,Nat.reduceMul,Nat.reduceBEq,Nat.reduceLT,Nat.reduceLeDiff,reduceCtorEq,Nat.reduceEqDiff,Nat.reduceAdd,Nat.beq]
theorem ai1 {a b:Pt} (ha:nR a=0) (hb:nR b=0) (hs:bn a.img=bn b.img) (hl:a.img.length≤lim):cal env 45 [eP a,eP b]=some [(.list 1 ((BG a b a.img.length).map sQ),true)]:=by
 have hd:=(oh ha).2.2.1
 have hlim:lim=1073741824:=rfl
 have K1:(0≤(a.dirty.length:Int))=True:=eq_true (by omega)
 have K2:((a.dirty.length:Int)≤(lim:Int))=True:=eq_true (by omega)
 have K3:((a.dirty.length:Int)≤(a.dirty.length:Int))=True:=eq_true (Int.le_refl _)
 have K4:((a.dirty.length:Int)).toNat=a.dirty.length:=by omega
 rw [gK,gK]
 rw [au ah1 rfl];simp only [Zu,aG,Nat.reduceBEq,Nat.reduceLeDiff,Nat.reduceAdd,List.length_cons,List.length_nil]
 simp only [K1,K2,K3,K4,List.length_map,List.length_replicate,aB,Nat.reduceMul,Nat.reduceBEq,Nat.reduceLT,Nat.reduceLeDiff,reduceCtorEq,Nat.reduceEqDiff,Nat.reduceAdd,Nat.beq]
 rw [agO (a:=a) (b:=b) ha hb hs hl]
 rotate_left
 ·rw [Xe,eY,eY,← hd]
  simp only [aG,bD,Nat.reduceMul,Nat.reduceBEq,Nat.reduceLT,Nat.reduceLeDiff,Nat.reduceAdd,decide_true,Bool.and_self,Bool.true_and]<;>rfl
 ·rw [aaY]
  simp only [List.take_length,aB,Nat.reduceMul,Nat.reduceBEq,Nat.reduceLT,Nat.reduceLeDiff,reduceCtorEq,Nat.reduceEqDiff,Nat.reduceAdd,Nat.beq]
end Go.Proofs.YtaaokejjmdbfaaaDoor.V

namespace Go.Proofs.YtaaokejjmdbfaaaDoor.V
theorem TN:∀ {l:List Pt},yL l=0→∀ p∈l,nR p=0
 |[],_,p,hp=>by cases hp
 |q :: l,h,p,hp=>by
  unfold yL at h
  split at h
  ·rcases List.mem_cons.1 hp with rfl|hp
   ·assumption
   ·exact TN h p hp
  ·rename_i c;exact absurd h c
theorem uQ {l:List Pt} (h:o7 l=0):(∀ p∈l,nR p=0)∧1≤l.length∧l.length≤4∧∀ p∈l,∀ q∈l,bn p.img=bn q.img:=by
 unfold o7 at h
 split at h
 ·rename_i c
  split at h
  ·cases h
  ·split at h
   ·rename_i c2 c3
    refine ⟨TN c,by omega,by omega,fun p hp q hq=>?_⟩
    have h1:=List.all_eq_true.1 c3 p hp
    have h2:=List.all_eq_true.1 c3 q hq
    rw [of_decide_eq_true h1,of_decide_eq_true h2]
   ·cases h
 ·rename_i c;exact absurd h c
end Go.Proofs.YtaaokejjmdbfaaaDoor.V

namespace Go.Proofs.YtaaokejjmdbfaaaDoor.V
theorem ai2 {im:kC} {W:List iW} (h:Dj im W=0) {v:Nat} (hv:((uI im W).getD v []).length≤4096):okB (dB (uI im W) W v)=true∧(dB (uI im W) W v).size=(((uI im W).getD v []).length:Int):=by
 have h0:yt (gZ im)=0:=TK h
 have h1:(qJ (gZ im) W 0).2=0:=by unfold Dj at h;rwa [if_neg (by omega)] at h
 have hs:=D8 (oD h) v
 have hfx:=aiZ (n:=((uI im W).getD v []).length) (l:=Fe v W) hv (fun e he=>by
  unfold Fe at he
  obtain ⟨w,hw,rfl⟩:=List.mem_map.1 he
  obtain ⟨hw,h2⟩:=List.mem_filter.1 hw
  have h2:w.volume=(v:Int):=by simpa using h2
  obtain ⟨u,g1,g2,g3,g4,g5⟩:=Xd (Eb h1 w hw)
  have:u=v:=by omega
  subst this
  unfold agK
  simp only
  omega)
 exact ⟨hfx.2.2.1,hfx.2.2.2.1⟩
theorem G7:∀ {bs:List Bm} {vs:kC},(∀ i,i<bs.length→i<vs.length→okB (bs.getD i ⟨0,[]⟩)=true∧(bs.getD i ⟨0,[]⟩).size=((vs.getD i []).length:Int))→xg bs vs=0
 |[],_,_=>by unfold xg;rfl
 |b :: bs,[],_=>by unfold xg;rfl
 |b :: bs,v :: vs,h=>by
  obtain ⟨h1,h2⟩:=h 0 (Nat.zero_lt_succ _) (Nat.zero_lt_succ _)
  have h1:okB b=true:=h1
  have h2:b.size=(v.length:Int):=h2
  unfold xg
  rw [if_neg (by rw [sN h1];decide),if_neg (by omega)]
  exact G7 fun i g1 g2=>h (i+1) (Nat.succ_lt_succ g1) (Nat.succ_lt_succ g2)
theorem N9 (im:kC):gW im=yt (gZ im):=rfl
theorem zL {im:kC} (h:gW im=0) (v:Nat):(im.getD v []).length≤4096:=by
 have h2:=(mO h).2
 rw [List.getD_eq_getElem?_getD]
 by_cases hv:v<im.length
 ·rw [List.getElem?_eq_getElem hv];exact h2 _ (List.getElem_mem hv)
 ·rw [List.getElem?_eq_none (by omega)];exact Nat.zero_le _
theorem TP {base:kC} {l:List iW} {n:Nat} (hg:Dj base l=0) (hn:n≤3):nR (ptO base n l)=0:=by
 have h0:gW (uI base l)=0:=by rw [N9,oD hg];exact TK hg
 unfold nR ptO
 simp only
 rw [if_neg (by omega),if_neg (by decide),if_neg (by omega),if_neg (by rw [List.length_map,List.length_range];simp)]
 refine G7 fun i h1 h2=>?_
 rw [List.getD_eq_getElem?_getD,List.getElem?_map,List.getElem?_range h2]
 exact ai2 hg (zL h0 i)
end Go.Proofs.YtaaokejjmdbfaaaDoor.V

namespace Go.Proofs.YtaaokejjmdbfaaaDoor.V
theorem G8:∀ {l:List Pt},(∀ p∈l,nR p=0)→yL l=0
 |[],_=>rfl
 |p :: l,h=>by
  unfold yL
  rw [if_pos (h p List.mem_cons_self)]
  exact G8 fun q hq=>h q (List.mem_cons_of_mem _ hq)
theorem Ec {base:kC} {ls:List (List iW)} (h:Ea base ls=true):NI base=true∧gW base=0∧1≤ls.length∧ls.length≤4∧∀ l∈ls,Dj base l=0∧l.length≤20:=by
 unfold Ea at h
 simp only [Bool.and_eq_true,decide_eq_true_eq,List.all_eq_true] at h
 obtain ⟨h1,h2,h3,h4,h5⟩:=h
 refine ⟨h1,h2,h3,h4,fun l hl=>?_⟩
 have:=h5 l hl
 unfold good at this
 simpa using this
theorem aaZ {base:kC} {ls:List (List iW)} {i:Nat} (h:i<(lN base ls ls.length).length):(lN base ls ls.length)[i]=ptO base i (ls.getD i []):=by
 simp [lN]
theorem zM {ls:List (List iW)} {i:Nat} (h:i<ls.length):ls.getD i []∈ls:=by
 rw [List.getD_eq_getElem?_getD,List.getElem?_eq_getElem h]
 exact List.getElem_mem h
theorem Oa {base:kC} {ls:List (List iW)} {p:Pt} (h:p∈lN base ls ls.length):∃ i,i<ls.length∧p=ptO base i (ls.getD i []):=by
 unfold lN at h
 obtain ⟨i,hi,rfl⟩:=List.mem_map.1 h
 exact ⟨i,List.mem_range.1 hi,rfl⟩
theorem Xf {base:kC} {ls:List (List iW)} (h:Ea base ls=true):o7 (lN base ls ls.length)=0:=by
 obtain ⟨h1,h2,h3,h4,h5⟩:=Ec h
 have hl:=yX base ls ls.length
 have hc:∀ p∈lN base ls ls.length,nR p=0∧bn p.img=bn base:=fun p hp=>by
  obtain ⟨i,hi,rfl⟩:=Oa hp
  have g:=(h5 _ (zM hi)).1
  exact ⟨TP g (by omega),oD g⟩
 unfold o7
 rw [if_pos (G8 fun p hp=>(hc p hp).1),if_neg (by omega),if_pos ?_]
 unfold sameAll
 rw [List.all_eq_true]
 intro p hp
 have e:(lN base ls ls.length).getD 0 ⟨0,[],[],[]⟩∈lN base ls ls.length:=by
  rw [List.getD_eq_getElem?_getD,List.getElem?_eq_getElem (by omega)]
  exact List.getElem_mem _
 rw [(hc p hp).2,(hc _ e).2]
 simp
end Go.Proofs.YtaaokejjmdbfaaaDoor.V

namespace Go.Proofs.YtaaokejjmdbfaaaDoor.V
end Go.Proofs.YtaaokejjmdbfaaaDoor.V
