/-
  Part 6 of the texts that the statement stands on.
-/
import Derived.Test.YtaaokejjmdbfaaaDoorZ5
set_option linter.all false
namespace Go.Proofs.YtaaokejjmdbfaaaDoor.V
def QG (w:iy):ji:=⟨w.start,w.data.length⟩
def Az (v:Nat) (l:List iy):List ji:=(l.filter fun w=>decide (w.volume=(v:Int))).map QG
theorem adf {v:Nat} {l:List iy} {i:Nat} (h:i<l.length) (c:l[i].volume=(v:Int)):Az v (l.take (i+1))=Az v (l.take i)++[QG l[i]]:=by
 unfold Az
 rw [List.take_succ_eq_append_getElem h,List.filter_append,List.map_append,List.filter_cons_of_pos (by simpa using c)]
 rfl
theorem afM {v:Nat} {l:List iy} {i:Nat} (h:i<l.length) (c:¬ l[i].volume=(v:Int)):Az v (l.take (i+1))=Az v (l.take i):=by
 unfold Az
 rw [List.take_succ_eq_append_getElem h,List.filter_append,List.map_append,List.filter_cons_of_neg (by simpa using c)]
 simp
theorem RU (v:Nat) (l:List iy):(Az v l).length≤l.length:=by
 unfold Az
 rw [List.length_map]
 exact List.length_filter_le _ _
def dB (im:jk) (l:List iy) (v:Nat):Bm:=RQ ((im.getD v []).length:Int) (Az v l)
def ZV (im:jk) (l:List iy) (i:Nat):BV:=if i=0 then .pv (.kD 2) else .row 2 (((List.range i).map (dB im l)).map kK)
theorem GN (im:jk) (l:List iy):ZV im l 0=.pv (.kD 2):=rfl
theorem yL {im:jk} {l:List iy} {i:Nat} (h:0<i):ZV im l i=.row 2 (((List.range i).map (dB im l)).map kK):=by unfold ZV;rw [if_neg (by omega)]
def bxP (n:Int) (im:jk) (l:List iy) (i:Nat):List BV:=[.pv (.int .i64 n),.pv (.list 3 []),ZV im l i,.pv (.list 1 (im.map bg))]
theorem DZ (n:Int) (im:jk) (l:List iy) (i:Nat):bxP n im l i=[.pv (.int .i64 n),.pv (.list 3 []),ZV im l i,.pv (.list 1 (im.map bg))]:=rfl
theorem ZW {l:List iy} {i:Nat} (h:i<l.length):(l.map oz)[i]?=some (.agg [.int .i64 l[i].volume,.int .i64 l[i].start,.list 8 (l[i].data.map iT)]):=by rw [List.getElem?_map,List.getElem?_eq_getElem h];rfl
set_option maxRecDepth 20000 in
theorem afN {l:List iy} {v:Nat} {pb ls im:PV} {out:List PV} {n1 n2 n3:Int} {cs:List BV} (hl:l.length≤1000) {st:St} (h:st.head [0,1,5,7,8,11,12,13,36,37,38,42,47,61,62,65,66,67,83,105] st.boxes.length=some ⟨sl 108 [(0,.pv pb),(1,.pv ls),(5,.row 4 out),(7,.pv (.list 3 (l.map oz))),(8,.pv im),(11,.aK 0 0),(12,.pv (.int .i64 v)),(13,.row 2 ((Az v (l.take ((0:Nat)))).map fH)),(36,.pv ls),(37,.pv (.int .i64 n1)),(38,.pv (.int .i64 n2)),(42,.pv (.list 3 (l.map oz))),(47,.pv im),(61,.pv (.int .i64 n3)),(62,.pv (.int .i64 v)),(65,.pv (.list 3 (l.map oz))),(66,.pv (.int .i64 l.length)),(67,.pv (.int .i64 (0:Nat))),(83,.any),(105,.any)],[⟨false,cs⟩],[],none⟩) :
  den env I4 st=some (.normal,⟨sl 108 [(0,.pv pb),(1,.pv ls),(4,.any),(5,.row 4 out),(7,.pv (.list 3 (l.map oz))),(8,.pv im),(11,.aK 0 0),(12,.pv (.int .i64 v)),(13,.row 2 ((Az v l).map fH)),(36,.pv ls),(37,.pv (.int .i64 n1)),(38,.pv (.int .i64 n2)),(42,.pv (.list 3 (l.map oz))),(47,.pv im),(61,.pv (.int .i64 n3)),(62,.pv (.int .i64 v)),(83,.any),(105,.any)],[⟨false,cs⟩],[],none⟩):=by
 unfold I4
 refine cO (env:=env) (nb:=1) (l.length) (fun i=>⟨sl 108 [(0,.pv pb),(1,.pv ls),(5,.row 4 out),(7,.pv (.list 3 (l.map oz))),(8,.pv im),(11,.aK 0 0),(12,.pv (.int .i64 v)),(13,.row 2 ((Az v (l.take (i))).map fH)),(36,.pv ls),(37,.pv (.int .i64 n1)),(38,.pv (.int .i64 n2)),(42,.pv (.list 3 (l.map oz))),(47,.pv im),(61,.pv (.int .i64 n3)),(62,.pv (.int .i64 v)),(65,.pv (.list 3 (l.map oz))),(66,.pv (.int .i64 l.length)),(67,.pv (.int .i64 i)),(83,.any),(105,.any)],[⟨false,cs⟩],[],none⟩) (fun i=>some (.normal,⟨sl 108 [(0,.pv pb),(1,.pv ls),(4,.any),(5,.row 4 out),(7,.pv (.list 3 (l.map oz))),(8,.pv im),(11,.aK 0 0),(12,.pv (.int .i64 v)),(13,.row 2 ((Az v l).map fH)),(36,.pv ls),(37,.pv (.int .i64 n1)),(38,.pv (.int .i64 n2)),(42,.pv (.list 3 (l.map oz))),(47,.pv im),(61,.pv (.int .i64 n3)),(62,.pv (.int .i64 v)),(83,.any),(105,.any)],[⟨false,cs⟩],[],none⟩)) h (fun _=>rfl) (fun _=>by simp only [bC,dK,Nat.reduceMul,Nat.reduceBEq,Nat.reduceLT,Nat.reduceLeDiff,Nat.reduceAdd,decide_true,Bool.and_self,Bool.true_and]) ?_ ?_
 ·intro i rb hi ih
  have hlim:lim=1073741824:=rfl
  have hi1:=cZ hi (Nat.le_trans hl (by decide))
  have F1:((i:Int)<(l.length:Int))=True:=eq_true (by omega)
  have hx:=ZW hi
  have P3:∀ a b c:PV,part [a,b,c] 0 (some 3)=some (.agg [a,b,c]):=fun _ _ _=>rfl
  have h1:=RU v (l.take i)
  have h2:(l.take i).length≤l.length:=by rw [List.length_take];omega
  have F3:=eq_true (show (Az v (l.take i)).length+1≤lim by omega)
  by_cases c:l[i].volume=(v:Int)
  ·have F2:(l[i].volume==(v:Int))=true:=by simp [c]
   have hs:(Az v (l.take (i+1))).map fH=(Az v (l.take i)).map fH++[.agg [.int .i64 l[i].start,.int .i64 l[i].data.length]]:=by rw [adf hi c,List.map_append];rfl
   simp only [AU,F1,F2,F3,hx,P3,ak hi,List.length_map,aX,Nat.reduceMul,Nat.reduceBEq,Nat.reduceLT,Nat.reduceLeDiff,reduceCtorEq,Nat.reduceEqDiff,Nat.reduceAdd,Nat.beq]
   rw [ih _ (by simp only [hi1];rw [hs];simp only [aX,Nat.reduceMul,Nat.reduceBEq,Nat.reduceLT,Nat.reduceLeDiff,reduceCtorEq,Nat.reduceEqDiff,Nat.reduceAdd,Nat.beq]<;>rfl)]
  ·have F2:(l[i].volume==(v:Int))=false:=by simp [c]
   simp only [AU,F1,F2,F3,hx,P3,ak hi,List.length_map,aX,Nat.reduceMul,Nat.reduceBEq,Nat.reduceLT,Nat.reduceLeDiff,reduceCtorEq,Nat.reduceEqDiff,Nat.reduceAdd,Nat.beq]
   rw [ih _ (by simp only [hi1];rw [afM hi c];simp only [aX,Nat.reduceMul,Nat.reduceBEq,Nat.reduceLT,Nat.reduceLeDiff,reduceCtorEq,Nat.reduceEqDiff,Nat.reduceAdd,Nat.beq]<;>rfl)]
 ·intro rb
  rw [List.take_length]
  simp only [AU,Int.lt_irrefl,List.length_map,aX,Nat.reduceMul,Nat.reduceBEq,Nat.reduceLT,Nat.reduceLeDiff,reduceCtorEq,Nat.reduceEqDiff,Nat.reduceAdd,Nat.beq]
theorem scP (a:Int) (l:List PV):(PV.agg [.int .i64 a,.list 1 l]).scalar=false:=rfl
theorem VL (im:jk) (l:List iy) (i:Nat):((List.range (i+1)).map (dB im l)).map kK=((List.range i).map (dB im l)).map kK++[.agg [.int .i64 (dB im l i).size,.list 1 ((dB im l i).ws.map eW)]]:=by
 rw [List.range_succ,List.map_append,List.map_append];rfl
theorem VN {im:jk} {v:Nat} (h:v<im.length):(im.map bg)[v]?=some (.list 8 ((im.getD v []).map iT)):=by
 rw [List.getElem?_map,List.getElem?_eq_getElem h,List.getD_eq_getElem?_getD,List.getElem?_eq_getElem h];rfl
set_option maxRecDepth 20000 in
theorem ZX {l:List iy} {im:jk} {pb ls:PV} {out:List PV} {n1 n2 n0:Int} (hl:l.length≤1000) (hi0:im.length≤1000) {st:St} (h:st.head [0,1,5,7,8,11,36,37,38,42,47,61,62,83,105] st.boxes.length=some ⟨sl 108 [(0,.pv pb),(1,.pv ls),(5,.row 4 out),(7,.pv (.list 3 (l.map oz))),(8,.pv (.list 1 (im.map bg))),(11,.aK 0 0),(36,.pv ls),(37,.pv (.int .i64 n1)),(38,.pv (.int .i64 n2)),(42,.pv (.list 3 (l.map oz))),(47,.pv (.list 1 (im.map bg))),(61,.pv (.int .i64 im.length)),(62,.pv (.int .i64 (0:Nat))),(83,.any),(105,.any)],[⟨false,bxP n0 im l ((0:Nat))⟩],[],none⟩) :
  den env I5 st=some (.normal,⟨sl 108 [(0,.pv pb),(1,.pv ls),(4,.any),(5,.row 4 out),(11,.aK 0 0),(36,.pv ls),(37,.pv (.int .i64 n1)),(38,.pv (.int .i64 n2)),(83,.any),(105,.any)],[⟨false,bxP n0 im l im.length⟩],[],none⟩):=by
 unfold I5
 refine cO (env:=env) (nb:=1) (im.length) (fun i=>⟨sl 108 [(0,.pv pb),(1,.pv ls),(5,.row 4 out),(7,.pv (.list 3 (l.map oz))),(8,.pv (.list 1 (im.map bg))),(11,.aK 0 0),(36,.pv ls),(37,.pv (.int .i64 n1)),(38,.pv (.int .i64 n2)),(42,.pv (.list 3 (l.map oz))),(47,.pv (.list 1 (im.map bg))),(61,.pv (.int .i64 im.length)),(62,.pv (.int .i64 i)),(83,.any),(105,.any)],[⟨false,bxP n0 im l (i)⟩],[],none⟩) (fun i=>some (.normal,⟨sl 108 [(0,.pv pb),(1,.pv ls),(4,.any),(5,.row 4 out),(11,.aK 0 0),(36,.pv ls),(37,.pv (.int .i64 n1)),(38,.pv (.int .i64 n2)),(83,.any),(105,.any)],[⟨false,bxP n0 im l im.length⟩],[],none⟩)) h (fun _=>rfl) (fun _=>by simp only [bC,dK,Nat.reduceMul,Nat.reduceBEq,Nat.reduceLT,Nat.reduceLeDiff,Nat.reduceAdd,decide_true,Bool.and_self,Bool.true_and]) ?_ ?_
 ·intro i rb hi ih
  have hlim:lim=1073741824:=rfl
  have hi1:=cZ hi (Nat.le_trans hi0 (by decide))
  have F1:((i:Int)<(im.length:Int))=True:=eq_true (by omega)
  have hx:=VN hi
  have P2:∀ a b:PV,part [a,b] 0 (some 2)=some (.agg [a,b]):=fun _ _=>rfl
  have hml:=RU i l
  have e1:=ahU (l:=Az i l) (n:=((im.getD i []).length:Int)) (by omega)
  rw [show kK (RQ ((im.getD i []).length:Int) (Az i l))=.agg [.int .i64 (dB im l i).size,.list 1 ((dB im l i).ws.map eW)] from rfl] at e1
  have hs:=VL im l i
  obtain ⟨r,hr2⟩:∃ r,r=((List.range i).map (dB im l)).map kK:=⟨_,rfl⟩
  have hrl:r.length=i:=by rw [hr2,List.length_map,List.length_map,List.length_range]
  have F3:=eq_true (show r.length+1≤lim by omega)
  have F4:=eq_true (show 0+1≤lim by omega)
  have hL:=fun (st:St)=>afN (st:=st) (l:=l) (v:=i) (pb:=pb) (ls:=ls) (im:=.list 1 (im.map bg)) (out:=out) (n1:=n1) (n2:=n2) (n3:=(im.length:Int)) (cs:=bxP n0 im l i) hl
  have e0:(Az i (l.take 0)).map fH=[]:=rfl
  rw [e0] at hL
  rw [DZ] at hL ⊢
  by_cases c:i=0
  ·subst c
   have d1:=yL (im:=im) (l:=l) (i:=0+1) (by omega)
   rw [hs] at d1
   rw [GN] at hL ⊢
   simp only [List.range_zero,List.map_nil,List.nil_append] at d1
   simp only [AX,F1,hx,ak hi,List.length_map,aX,Nat.reduceMul,Nat.reduceBEq,Nat.reduceLT,Nat.reduceLeDiff,reduceCtorEq,Nat.reduceEqDiff,Nat.reduceAdd,Nat.beq]
   rw [hL _ (by simp only [bC,dK,Nat.reduceMul,Nat.reduceBEq,Nat.reduceLT,Nat.reduceLeDiff,Nat.reduceAdd,decide_true,Bool.and_self,Bool.true_and]<;>rfl)]
   simp only [hx,P2,e1,F4,scP,ak hi,List.length_map,List.nil_append,aX,Nat.reduceMul,Nat.reduceBEq,Nat.reduceLT,Nat.reduceLeDiff,reduceCtorEq,Nat.reduceEqDiff,Nat.reduceAdd,Nat.beq]
   rw [ih _ (by simp only [hi1];rw [DZ,d1];simp only [aX,Nat.reduceMul,Nat.reduceBEq,Nat.reduceLT,Nat.reduceLeDiff,reduceCtorEq,Nat.reduceEqDiff,Nat.reduceAdd,Nat.beq]<;>rfl)]
   all_goals rfl
  ·have d0:=yL (im:=im) (l:=l) (i:=i) (by omega)
   have d1:=yL (im:=im) (l:=l) (i:=i+1) (by omega)
   rw [hs,← hr2] at d1
   rw [← hr2] at d0
   rw [d0] at hL ⊢
   simp only [AX,F1,hx,ak hi,List.length_map,aX,Nat.reduceMul,Nat.reduceBEq,Nat.reduceLT,Nat.reduceLeDiff,reduceCtorEq,Nat.reduceEqDiff,Nat.reduceAdd,Nat.beq]
   rw [hL _ (by simp only [bC,dK,Nat.reduceMul,Nat.reduceBEq,Nat.reduceLT,Nat.reduceLeDiff,Nat.reduceAdd,decide_true,Bool.and_self,Bool.true_and]<;>rfl)]
   simp only [hx,P2,e1,F3,scP,ak hi,List.length_map,aX,Nat.reduceMul,Nat.reduceBEq,Nat.reduceLT,Nat.reduceLeDiff,reduceCtorEq,Nat.reduceEqDiff,Nat.reduceAdd,Nat.beq]
   rw [ih _ (by simp only [hi1];rw [DZ,d1];simp only [aX,Nat.reduceMul,Nat.reduceBEq,Nat.reduceLT,Nat.reduceLeDiff,reduceCtorEq,Nat.reduceEqDiff,Nat.reduceAdd,Nat.beq]<;>rfl)]
   all_goals rfl
 ·intro rb
  simp only [AX,Int.lt_irrefl,List.length_map,aX,Nat.reduceMul,Nat.reduceBEq,Nat.reduceLT,Nat.reduceLeDiff,reduceCtorEq,Nat.reduceEqDiff,Nat.reduceAdd,Nat.beq]
def V8 (l:List iy):PV:=.list 3 (l.map oz)
theorem afO {l:List (List iy)} {i:Nat} (h:i<l.length):(l.map V8)[i]?=some (.list 3 (l[i].map oz)):=by rw [List.getElem?_map,List.getElem?_eq_getElem h];rfl
def D5 (base:jk) (n:Nat) (l:List iy):Pt:=⟨n,[],(List.range (lS base l).length).map (dB (lS base l) l),lS base l⟩
def jm (base:jk) (ls:List (List iy)) (i:Nat):List Pt:=(List.range i).map fun k=>D5 base k (ls.getD k [])
theorem VO {base:jk} {ls:List (List iy)} {i:Nat} (h:i<ls.length):jm base ls (i+1)=jm base ls i++[D5 base i ls[i]]:=by
 unfold jm
 rw [List.range_succ,List.map_append,List.map_cons,List.map_nil,List.getD_eq_getElem?_getD,List.getElem?_eq_getElem h];rfl
theorem D6 (base:jk) (ls:List (List iy)) (i:Nat):(jm base ls i).length=i:=by simp [jm]
def good (base:jk) (l:List iy):Bool:=decide (uG base l=0)&&decide (l.length≤20)
def uP (base:jk) (ls:List (List iy)):Nat→List (List iy)→Option (Ex × St)
 |i,[]=>some (.normal,⟨sl 108 [(4,.any),(5,.row 4 ((jm base ls i).map nZ))],[],[],none⟩)
 |i,l :: r=>if good base l then uP base ls (i+1) r else some (.ret,⟨sl 108 [(4,.row 4 []),(5,.row 4 ((jm base ls i).map nZ))],[],[],none⟩)
theorem QH {base:jk} {ls:List (List iy)} {i:Nat} (h:i<ls.length):uP base ls i (ls.drop i)=if good base ls[i] then uP base ls (i+1) (ls.drop (i+1)) else some (.ret,⟨sl 108 [(4,.row 4 []),(5,.row 4 ((jm base ls i).map nZ))],[],[],none⟩):=by
 rw [List.drop_eq_getElem_cons h,uP]
theorem VP (base:jk) (ls:List (List iy)):uP base ls ls.length (ls.drop ls.length)=some (.normal,⟨sl 108 [(4,.any),(5,.row 4 ((jm base ls ls.length).map nZ))],[],[],none⟩):=by
 rw [List.drop_of_length_le (Nat.le_refl _),uP]
theorem Ac (base:jk) (ls:List (List iy)):∀ (r:List (List iy)) (i:Nat),(r.all (good base)=true∧uP base ls i r=some (.normal,⟨sl 108 [(4,.any),(5,.row 4 ((jm base ls (i+r.length)).map nZ))],[],[],none⟩))∨(r.all (good base)=false∧∃ q,uP base ls i r=some (.ret,⟨sl 108 [(4,.row 4 []),(5,.row 4 q)],[],[],none⟩))
 |[],i=>.inl ⟨rfl,rfl⟩
 |l :: r,i=>by
  unfold uP
  cases c:good base l with
  |true =>
   rw [if_pos rfl,List.all_cons,c,Bool.true_and,List.length_cons,show i+(r.length+1)=i+1+r.length by omega]
   exact Ac base ls r (i+1)
  |false =>
   rw [if_neg (by decide),List.all_cons,c,Bool.false_and]
   exact .inr ⟨rfl,_,rfl⟩
set_option maxRecDepth 20000 in
theorem ZY {base:jk} {ls:List (List iy)} (hb1:base.length≤9) (hb2:∀ v∈base,v.length≤24) (hw:∀ l∈ls,okW l) (hl:ls.length≤1000) {st:St} (h:st.head [0,1,5,36,37,38,83,105] st.boxes.length=some ⟨sl 108 [(0,.pv (.list 1 (base.map bg))),(1,.pv (.list 1 (ls.map V8))),(5,.row 4 ((jm base ls ((0:Nat))).map nZ)),(36,.pv (.list 1 (ls.map V8))),(37,.pv (.int .i64 ls.length)),(38,.pv (.int .i64 (0:Nat))),(83,.any),(105,.any)],[],[],none⟩) :
  den env I7 st=uP base ls ((0:Nat)) (ls.drop ((0:Nat))):=by
 unfold I7
 refine cO (env:=env) (nb:=0) (ls.length) (fun i=>⟨sl 108 [(0,.pv (.list 1 (base.map bg))),(1,.pv (.list 1 (ls.map V8))),(5,.row 4 ((jm base ls (i)).map nZ)),(36,.pv (.list 1 (ls.map V8))),(37,.pv (.int .i64 ls.length)),(38,.pv (.int .i64 i)),(83,.any),(105,.any)],[],[],none⟩) (fun i=>uP base ls (i) (ls.drop (i))) h (fun _=>rfl) (fun _=>by simp only [bC,dK,Nat.reduceMul,Nat.reduceBEq,Nat.reduceLT,Nat.reduceLeDiff,Nat.reduceAdd,decide_true,Bool.and_self,Bool.true_and]) ?_ ?_
 ·intro i rb hi ih
  have hlim:lim=1073741824:=rfl
  have hi1:=cZ hi (Nat.le_trans hl (by decide))
  have F1:((i:Int)<(ls.length:Int))=True:=eq_true (by omega)
  have hx:=afO hi
  have e1:=adM (im:=base) (l:=ls[i]) (hw _ (List.getElem_mem hi)) (by omega) (fun v hv=>by have:=hb2 v hv;omega)
  have P4:∀ a b c d:PV,part [a,b,c,d] 0 (some 4)=some (.agg [a,b,c,d]):=fun _ _ _ _=>rfl
  have hsm:=VI (im:=base) (l:=ls[i]) hb1 hb2
  have hn0:=QC (im:=base) (l:=ls[i])
  have hts:=VO (base:=base) hi
  have htl:=D6 base ls i
  rw [QH hi]
  by_cases c1:uG base ls[i]=0
  ·have G1:(uG base ls[i] != 0)=false:=by simp [c1]
   by_cases c2:ls[i].length≤20
   ·have G2:(((20:Int))<(ls[i].length:Int))=False:=eq_false (by omega)
    have G3:((ls[i].length:Int) > 20)=False:=eq_false (by omega)
    rw [if_pos (by unfold good;rw [decide_eq_true c1,decide_eq_true c2];rfl)]
    have hpos:0<(lS base ls[i]).length:=List.length_pos_iff.2 (hn0.1 c1)
    have hL:=fun (st:St)=>ZX (st:=st) (l:=ls[i]) (im:=lS base ls[i]) (pb:=.list 1 (base.map bg)) (ls:=.list 1 (ls.map V8)) (out:=(jm base ls i).map nZ) (n1:=(ls.length:Int)) (n2:=(i:Int)) (n0:=(i:Int)) (by omega) (by omega)
    have d0:=GN (lS base ls[i]) ls[i]
    have d1:=yL (im:=lS base ls[i]) (l:=ls[i]) hpos
    rw [DZ,DZ,d0,d1] at hL
    have hp:((jm base ls (i+1)).map nZ)=(jm base ls i).map nZ++[.agg [.int .i64 (i:Int),.list 3 [],.list 2 (((List.range (lS base ls[i]).length).map (dB (lS base ls[i]) ls[i])).map kK),.list 1 ((lS base ls[i]).map bg)]]:=by
     rw [hts,List.map_append];rfl
    have F3:=eq_true (show (jm base ls i).length+1≤lim by omega)
    generalize ((List.range (lS base ls[i]).length).map (dB (lS base ls[i]) ls[i])).map kK=D at *
    simp only [yh,F1,hx,e1,G1,G2,G3,P4,ak hi,List.length_map,aX,Nat.reduceMul,Nat.reduceBEq,Nat.reduceLT,Nat.reduceLeDiff,reduceCtorEq,Nat.reduceEqDiff,Nat.reduceAdd,Nat.beq]
    rw [hL _ (by simp only [bC,dK,Nat.reduceMul,Nat.reduceBEq,Nat.reduceLT,Nat.reduceLeDiff,Nat.reduceAdd,decide_true,Bool.and_self,Bool.true_and]<;>rfl)]
    simp only [F3,P4,List.length_map,aX,Nat.reduceMul,Nat.reduceBEq,Nat.reduceLT,Nat.reduceLeDiff,reduceCtorEq,Nat.reduceEqDiff,Nat.reduceAdd,Nat.beq]
    rw [ih _ (by simp only [hi1];rw [hp];simp only [aX,Nat.reduceMul,Nat.reduceBEq,Nat.reduceLT,Nat.reduceLeDiff,reduceCtorEq,Nat.reduceEqDiff,Nat.reduceAdd,Nat.beq]<;>rfl)]
    all_goals rfl
   ·have G2:(((20:Int))<(ls[i].length:Int))=True:=eq_true (by omega)
    have G3:((ls[i].length:Int) > 20)=True:=eq_true (by omega)
    rw [if_neg (by unfold good;rw [decide_eq_false c2,Bool.and_false];decide)]
    simp only [yh,F1,hx,e1,G1,G2,G3,P4,ak hi,List.length_map,aX,Nat.reduceMul,Nat.reduceBEq,Nat.reduceLT,Nat.reduceLeDiff,reduceCtorEq,Nat.reduceEqDiff,Nat.reduceAdd,Nat.beq]
    all_goals rfl
  ·have G1:(uG base ls[i] != 0)=true:=by simpa using c1
   rw [if_neg (by unfold good;rw [decide_eq_false c1,Bool.false_and];decide)]
   simp only [yh,F1,hx,e1,G1,P4,ak hi,List.length_map,aX,Nat.reduceMul,Nat.reduceBEq,Nat.reduceLT,Nat.reduceLeDiff,reduceCtorEq,Nat.reduceEqDiff,Nat.reduceAdd,Nat.beq]
   all_goals rfl
 ·intro rb
  rw [VP]
  simp only [yh,Int.lt_irrefl,List.length_map,aX,Nat.reduceMul,Nat.reduceBEq,Nat.reduceLT,Nat.reduceLeDiff,reduceCtorEq,Nat.reduceEqDiff,Nat.reduceAdd,Nat.beq]
def D7 (base:jk) (ls:List (List iy)):Bool:=MX base&&(decide (bU base=0)&&(decide (1≤ls.length)&&(decide (ls.length≤4)&&ls.all (good base))))
def adg (base:jk) (ls:List (List iy)):List Pt:=if D7 base ls then jm base ls ls.length else []
theorem adh {im:jk} (h:MX im=true):im.length≤9∧∀ v∈im,v.length≤24:=by
 unfold MX at h
 simp only [Bool.and_eq_true,decide_eq_true_eq,List.all_eq_true] at h
 exact h
set_option maxRecDepth 20000 in
theorem ahV {base:jk} {ls:List (List iy)} (hw:∀ l∈ls,okW l):cal env 32 [.list 1 (base.map bg),.list 1 (ls.map V8)]=some [(.list 4 ((adg base ls).map nZ),true)]:=by
 have e1:=aht (im:=base)
 unfold adg D7
 cases c1:MX base with
 |false =>
  rw [c1] at e1
  rw [Bool.false_and,if_neg (by decide),List.map_nil]
  rw [au Gg rfl];simp only [EK,bC,Nat.reduceBEq,Nat.reduceLeDiff,Nat.reduceAdd,List.length_cons,List.length_nil]
  simp only [e1,aX,Nat.reduceMul,Nat.reduceBEq,Nat.reduceLT,Nat.reduceLeDiff,reduceCtorEq,Nat.reduceEqDiff,Nat.reduceAdd,Nat.beq]
 |true =>
  rw [c1] at e1
  obtain ⟨b1,b2⟩:=adh c1
  have e2:=YV (im:=base) (Nat.le_trans b1 (by decide))
  by_cases c2:bU base=0
  ·have G2:(bU base != 0)=false:=by simp [c2]
   rw [decide_eq_true c2,Bool.true_and,Bool.true_and]
   by_cases c3:1≤ls.length
   ·have G3:((ls.length:Int)<1)=False:=eq_false (by omega)
    rw [decide_eq_true c3,Bool.true_and]
    by_cases c4:ls.length≤4
    ·have G4:((ls.length:Int) > 4)=False:=eq_false (by omega)
     have G5:((4:Int)<(ls.length:Int))=False:=eq_false (by omega)
     rw [decide_eq_true c4,Bool.true_and]
     have hL:=fun (st:St)=>ZY (st:=st) (base:=base) (ls:=ls) b1 b2 hw (by omega)
     rw [List.drop_zero] at hL
     have e0:(jm base ls 0).map nZ=[]:=rfl
     rw [e0] at hL
     rcases Ac base ls ls 0 with ⟨q1,q2⟩|⟨q1,q,q2⟩
     ·rw [q2,Nat.zero_add] at hL
      rw [q1,if_pos rfl]
      rw [au Gg rfl];simp only [EK,bC,Nat.reduceBEq,Nat.reduceLeDiff,Nat.reduceAdd,List.length_cons,List.length_nil]
      simp only [e1,e2,G2,G3,G4,G5,List.length_map,aX,Nat.reduceMul,Nat.reduceBEq,Nat.reduceLT,Nat.reduceLeDiff,reduceCtorEq,Nat.reduceEqDiff,Nat.reduceAdd,Nat.beq]
      rw [hL _ (by simp only [bC,dK,Nat.reduceMul,Nat.reduceBEq,Nat.reduceLT,Nat.reduceLeDiff,Nat.reduceAdd,decide_true,Bool.and_self,Bool.true_and]<;>rfl)]
      simp only [e1,e2,G2,G3,G4,G5,List.length_map,aX,Nat.reduceMul,Nat.reduceBEq,Nat.reduceLT,Nat.reduceLeDiff,reduceCtorEq,Nat.reduceEqDiff,Nat.reduceAdd,Nat.beq]
     ·rw [q2] at hL
      rw [q1,if_neg (by decide),List.map_nil]
      rw [au Gg rfl];simp only [EK,bC,Nat.reduceBEq,Nat.reduceLeDiff,Nat.reduceAdd,List.length_cons,List.length_nil]
      simp only [e1,e2,G2,G3,G4,G5,List.length_map,aX,Nat.reduceMul,Nat.reduceBEq,Nat.reduceLT,Nat.reduceLeDiff,reduceCtorEq,Nat.reduceEqDiff,Nat.reduceAdd,Nat.beq]
      rw [hL _ (by simp only [bC,dK,Nat.reduceMul,Nat.reduceBEq,Nat.reduceLT,Nat.reduceLeDiff,Nat.reduceAdd,decide_true,Bool.and_self,Bool.true_and]<;>rfl)]
      simp only [e1,e2,G2,G3,G4,G5,List.length_map,aX,Nat.reduceMul,Nat.reduceBEq,Nat.reduceLT,Nat.reduceLeDiff,reduceCtorEq,Nat.reduceEqDiff,Nat.reduceAdd,Nat.beq]
    ·have G4:((ls.length:Int) > 4)=True:=eq_true (by omega)
     have G5:((4:Int)<(ls.length:Int))=True:=eq_true (by omega)
     rw [decide_eq_false c4,Bool.false_and,if_neg (by decide),List.map_nil]
     rw [au Gg rfl];simp only [EK,bC,Nat.reduceBEq,Nat.reduceLeDiff,Nat.reduceAdd,List.length_cons,List.length_nil]
     simp only [e1,e2,G2,G3,G4,G5,List.length_map,aX,Nat.reduceMul,Nat.reduceBEq,Nat.reduceLT,Nat.reduceLeDiff,reduceCtorEq,Nat.reduceEqDiff,Nat.reduceAdd,Nat.beq]
   ·have G3:((ls.length:Int)<1)=True:=eq_true (by omega)
    rw [decide_eq_false c3,Bool.false_and,if_neg (by decide),List.map_nil]
    rw [au Gg rfl];simp only [EK,bC,Nat.reduceBEq,Nat.reduceLeDiff,Nat.reduceAdd,List.length_cons,List.length_nil]
    simp only [e1,e2,G2,G3,List.length_map,aX,Nat.reduceMul,Nat.reduceBEq,Nat.reduceLT,Nat.reduceLeDiff,reduceCtorEq,Nat.reduceEqDiff,Nat.reduceAdd,Nat.beq]
  ·have G2:(bU base != 0)=true:=by simpa using c2
   rw [decide_eq_false c2,Bool.false_and,Bool.and_false,if_neg (by decide),List.map_nil]
   rw [au Gg rfl];simp only [EK,bC,Nat.reduceBEq,Nat.reduceLeDiff,Nat.reduceAdd,List.length_cons,List.length_nil]
   simp only [e1,e2,G2,List.length_map,aX,Nat.reduceMul,Nat.reduceBEq,Nat.reduceLT,Nat.reduceLeDiff,reduceCtorEq,Nat.reduceEqDiff,Nat.reduceAdd,Nat.beq]
end Go.Proofs.YtaaokejjmdbfaaaDoor.V

namespace Go.Proofs.YtaaokejjmdbfaaaDoor.V
theorem zA {im:jk} {w:iy} (h:qj (bP im) w=0):∃ u:Nat,w.volume=(u:Int)∧u<im.length∧0≤w.start∧w.start.toNat+w.data.length≤(im.getD u []).length∧w.data.length≠0:=by
 unfold qj at h
 split at h
 ·cases h
 ·rename_i c1
  split at h
  ·cases h
  ·rename_i c2
   split at h
   ·cases h
   ·rename_i c3
    have hl:(bP im).length=im.length:=by unfold bP;rw [List.length_map]
    have hu:w.volume.toNat<im.length:=by omega
    have e:(bP im).getD w.volume.toNat 0=((im.getD w.volume.toNat []).length:Int):=by
     unfold bP
     rw [List.getD_eq_getElem?_getD,List.getD_eq_getElem?_getD,List.getElem?_map,List.getElem?_eq_getElem hu];rfl
    rw [e] at c3
    exact ⟨w.volume.toNat,by omega,hu,by omega,by omega,c2⟩
theorem Z5 {im:jk} {w:iy} (h:qj (bP im) w=0) {v j:Nat} (hn:¬ inW w v j):((sH im w).getD v [])[j]?=(im.getD v [])[j]?:=by
 obtain ⟨u,h1,h2,h3,h4,h5⟩:=zA h
 unfold sH
 rw [h1,Int.toNat_natCast]
 by_cases c:v=u
 ·subst c
  have e:(im.set v (putAt (im.getD v []) w.start.toNat w.data)).getD v []=putAt (im.getD v []) w.start.toNat w.data:=by
   rw [List.getD_eq_getElem?_getD,List.getElem?_set,if_pos rfl,if_pos h2];rfl
  rw [e,Nv h4,if_neg (fun q=>hn ⟨h1,by omega,by omega⟩)]
 ·have e:(im.set u (putAt (im.getD u []) w.start.toNat w.data)).getD v []=im.getD v []:=by
   rw [List.getD_eq_getElem?_getD,List.getElem?_set,if_neg (fun e=>c e.symm),List.getD_eq_getElem?_getD]
  rw [e]
theorem Ny:∀ {W:List iy} {im:jk} {i:Nat},(jU (bP im) W i).2=0→∀ {v j:Nat},(¬ ∃ w∈W,inW w v j)→((W.foldl sH im).getD v [])[j]?=(im.getD v [])[j]?
 |[],_,_,_,_,_,_=>rfl
 |w :: W,im,i,h,v,j,hn=>by
  unfold jU at h
  split at h
  ·rename_i c;exact absurd h c
  ·rename_i c
   have c:qj (bP im) w=0:=by omega
   rw [List.foldl_cons,Ny (i:=i+1) (by rw [DX c];exact h) (fun ⟨x,hx,hj⟩=>hn ⟨x,List.mem_cons_of_mem _ hx,hj⟩)]
   exact Z5 c (fun hj=>hn ⟨w,List.mem_cons_self,hj⟩)
theorem Ad {im:jk} {W:List iy} (h:uG im W=0) {v j:Nat} (hd:((lS im W).getD v [])[j]?≠(im.getD v [])[j]?):∃ w∈W,inW w v j:=by
 apply Classical.byContradiction
 intro c
 apply hd
 have h0:qh (bP im)=0:=sU h
 have h1:(jU (bP im) W 0).2=0:=by unfold uG at h;rwa [if_neg (by omega)] at h
 unfold lS
 rw [if_pos h]
 exact Ny h1 c
theorem xg {sz:List Int}:∀ {W:List iy} {i:Nat},(jU sz W i).2=0→∀ w∈W,qj sz w=0
 |[],_,_,w,hw=>by cases hw
 |x :: W,i,h,w,hw=>by
  unfold jU at h
  split at h
  ·rename_i c;exact absurd h c
  ·rename_i c
   rcases List.mem_cons.1 hw with rfl|hw
   ·omega
   ·exact xg h w hw
theorem Z7 {im:jk} {W:List iy} (h:uG im W=0) {v:Nat} (hv:((lS im W).getD v []).length≤4096):∀ j,j<((lS im W).getD v []).length→(bit (dB (lS im W) W v).ws j=true ↔ ∃ w∈W,inW w v j):=by
 have h0:qh (bP im)=0:=sU h
 have h1:(jU (bP im) W 0).2=0:=by unfold uG at h;rwa [if_neg (by omega)] at h
 have hs:=uO (jo h) v
 have hmem:∀ e,e∈Az v W ↔ ∃ w∈W,w.volume=(v:Int)∧QG w=e:=fun e=>by
  unfold Az
  rw [List.mem_map]
  constructor
  ·rintro ⟨w,hw,rfl⟩
   obtain ⟨a,b⟩:=List.mem_filter.1 hw
   exact ⟨w,a,by simpa using b,rfl⟩
  ·rintro ⟨w,hw,hv,rfl⟩
   exact ⟨w,List.mem_filter.2 ⟨hw,by simpa using hv⟩,rfl⟩
 have hfx:=adO (n:=((lS im W).getD v []).length) (l:=Az v W) hv (fun e he=>by
  obtain ⟨w,hw,h2,rfl⟩:=(hmem e).1 he
  obtain ⟨u,g1,g2,g3,g4,g5⟩:=zA (xg h1 w hw)
  have:u=v:=by omega
  subst this
  unfold QG
  simp only
  omega)
 intro j hj
 show bit (RQ _ (Az v W)).ws j=true ↔ _
 rw [hfx.2.2.2.2 j hj]
 unfold Ej
 rw [List.any_eq_true]
 constructor
 ·rintro ⟨e,he,hi⟩
  obtain ⟨w,hw,h2,rfl⟩:=(hmem e).1 he
  unfold V7 QG at hi
  simp only [Bool.and_eq_true,decide_eq_true_eq] at hi
  exact ⟨w,hw,h2,hi.2.1,hi.2.2⟩
 ·rintro ⟨w,hw,h2,h3,h4⟩
  refine ⟨_,(hmem _).2 ⟨w,hw,h2,rfl⟩,?_⟩
  unfold V7 QG
  simp only [Bool.and_eq_true,decide_eq_true_eq]
  omega
end Go.Proofs.YtaaokejjmdbfaaaDoor.V

namespace Go.Proofs.YtaaokejjmdbfaaaDoor.V
def uQ (a b:Pt) (n i:Nat):List PV:=(wX a b i).map pJ++List.replicate (n - i) (PV.list 0 [])
theorem Z8 {a b:Pt} {n i:Nat} (h:i≤n):(uQ a b n i).length=n:=by
 unfold uQ
 rw [List.length_append,List.length_map,vK,List.length_replicate]
 omega
theorem Z9 {a b:Pt} {n i:Nat} (h:i<n):(uQ a b n i)[i]?=some (PV.list 0 []):=by
 unfold uQ
 have hl:((wX a b i).map pJ).length=i:=by rw [List.length_map,vK]
 rw [List.getElem?_append_right (by omega),hl,Nat.sub_self,List.getElem?_replicate,if_pos (by omega)]
theorem aac {a b:Pt} {n i:Nat} (h:i<n):(uQ a b n i).set i (PV.list 2 ((ext (mk2 a b i) (ig a i)).map fH))=uQ a b n (i+1):=by
 unfold uQ
 have hl:((wX a b i).map pJ).length=i:=by rw [List.length_map,vK]
 rw [List.set_append_right _ _ (by omega),hl,Nat.sub_self,show n - i=(n - (i+1))+1 by omega,List.replicate_succ,List.set_cons_zero,Zx,List.map_append,List.append_assoc]
 rfl
theorem VQ (a b:Pt) (n:Nat):uQ a b n 0=List.replicate n (PV.list 0 []):=by
 unfold uQ wX
 simp
theorem aad (a b:Pt) (n:Nat):uQ a b n n=(wX a b n).map pJ:=by
 unfold uQ
 rw [Nat.sub_self]
 simp
set_option maxRecDepth 20000 in
theorem afP {a b:Pt} (ha:jh a=0) (hb:jh b=0) (hs:aS a.img=aS b.img) (hl:a.img.length≤lim) {st:St} (h:st.head [2,3,5,12,14,15] st.boxes.length=some ⟨sl 39 [(2,.aK 0 0),(3,.aK 1 0),(5,.row 1 (uQ a b a.img.length ((0:Nat)))),(12,.any),(14,.pv (.int .i64 a.img.length)),(15,.pv (.int .i64 (0:Nat)))],[⟨false,tq a⟩,⟨false,tq b⟩],[],none⟩) :
  den env Jd st=some (.normal,⟨sl 39 [(4,.any),(5,.row 1 (uQ a b a.img.length a.img.length))],[⟨false,tq a⟩,⟨false,tq b⟩],[],none⟩):=by
 unfold Jd
 refine cO (env:=env) (nb:=2) (a.img.length) (fun i=>⟨sl 39 [(2,.aK 0 0),(3,.aK 1 0),(5,.row 1 (uQ a b a.img.length (i))),(12,.any),(14,.pv (.int .i64 a.img.length)),(15,.pv (.int .i64 i))],[⟨false,tq a⟩,⟨false,tq b⟩],[],none⟩) (fun i=>some (.normal,⟨sl 39 [(4,.any),(5,.row 1 (uQ a b a.img.length a.img.length))],[⟨false,tq a⟩,⟨false,tq b⟩],[],none⟩)) h (fun _=>rfl) (fun _=>by simp only [bC,dK,Nat.reduceMul,Nat.reduceBEq,Nat.reduceLT,Nat.reduceLeDiff,Nat.reduceAdd,decide_true,Bool.and_self,Bool.true_and]) ?_ ?_
 ·intro i rb hi ih
  have hi1:=cZ hi hl
  have F1:((i:Int)<(a.img.length:Int))=True:=eq_true (by omega)
  have h1:i<a.dirty.length:=by have:=(og ha).2.2.1;omega
  have h2:i<b.dirty.length:=by have:=(og hb).2.2.1;have:=DJ hs;omega
  have P2:∀ a b:PV,part [a,b] 0 (some 2)=some (.agg [a,b]):=fun _ _=>rfl
  have eA:∀ b:Bm,kK b=.agg [.int .i64 b.size,.list 1 (b.ws.map eW)]:=fun _=>rfl
  obtain ⟨m1,m2⟩:=afw ha hb hs hi
  have hx:=Zw h1
  have hy:=Zw h2
  have e1:=ahB (a:=dir a i) (b:=dir b i)
  have e2:=ahD (b:=uJ qo (dir a i) (dir b i))
  rw [m1] at e1
  rw [m2] at e2
  generalize uJ qo (dir a i) (dir b i)=o at *
  rw [eA,eA,eA] at e1
  rw [eA] at e2 hx hy
  have z1:=Z8 (a:=a) (b:=b) (n:=a.img.length) (i:=i) (by omega)
  have z2:=Z9 (a:=a) (b:=b) hi
  have z3:=aac (a:=a) (b:=b) hi
  have I1:index (.int .i64 (i:Int)) (uQ a b a.img.length i).length=some i:=by rw [z1];exact ak hi
  rw [← z3] at ih
  generalize uQ a b a.img.length i=z at *
  generalize (ext (mk2 a b i) (ig a i)).map fH=x at *
  simp only [Jc,F1,P2,hx,hy,e1,e2,z2,I1,gI,ak h1,ak h2,List.length_map,aX,Nat.reduceMul,Nat.reduceBEq,Nat.reduceLT,Nat.reduceLeDiff,reduceCtorEq,Nat.reduceEqDiff,Nat.reduceAdd,Nat.beq]
  rw [ih _ (by simp only [hi1,gI,aX,Nat.reduceMul,Nat.reduceBEq,Nat.reduceLT,Nat.reduceLeDiff,reduceCtorEq,Nat.reduceEqDiff,Nat.reduceAdd,Nat.beq]<;>rfl)]
  all_goals rfl
 ·intro rb
  simp only [Jc,Int.lt_irrefl,gI,List.length_map,aX,Nat.reduceMul,Nat.reduceBEq,Nat.reduceLT,Nat.reduceLeDiff,reduceCtorEq,Nat.reduceEqDiff,Nat.reduceAdd,Nat.beq]
theorem adP {a b:Pt} (ha:jh a=0) (hb:jh b=0) (hs:aS a.img=aS b.img) (hl:a.img.length≤lim):cal env 45 [nZ a,nZ b]=some [(.list 1 ((wX a b a.img.length).map pJ),true)]:=by
 have hd:=(og ha).2.2.1
 have hlim:lim=1073741824:=rfl
 have K1:(0≤(a.dirty.length:Int))=True:=eq_true (by omega)
 have K2:((a.dirty.length:Int)≤(lim:Int))=True:=eq_true (by omega)
 have K3:((a.dirty.length:Int)≤(a.dirty.length:Int))=True:=eq_true (Int.le_refl _)
 have K4:((a.dirty.length:Int)).toNat=a.dirty.length:=by omega
 rw [kL,kL]
 rw [au ag2 rfl];simp only [Yw,bC,Nat.reduceBEq,Nat.reduceLeDiff,Nat.reduceAdd,List.length_cons,List.length_nil]
 simp only [K1,K2,K3,K4,List.length_map,List.length_replicate,aX,Nat.reduceMul,Nat.reduceBEq,Nat.reduceLT,Nat.reduceLeDiff,reduceCtorEq,Nat.reduceEqDiff,Nat.reduceAdd,Nat.beq]
 rw [afP (a:=a) (b:=b) ha hb hs hl]
 rotate_left
 ·rw [VQ,gI,gI,← hd]
  simp only [bC,dK,Nat.reduceMul,Nat.reduceBEq,Nat.reduceLT,Nat.reduceLeDiff,Nat.reduceAdd,decide_true,Bool.and_self,Bool.true_and]<;>rfl
 ·rw [aad]
  simp only [List.take_length,aX,Nat.reduceMul,Nat.reduceBEq,Nat.reduceLT,Nat.reduceLeDiff,reduceCtorEq,Nat.reduceEqDiff,Nat.reduceAdd,Nat.beq]
def btE (a b:Pt):Int:=if jh a=0 then if jh b=0 then if aS a.img=aS b.img then 0 else 22 else jh b else jh a
def btO (a b:Pt):List (List ji):=if btE a b=0 then wX a b a.img.length else []
def resT (n:Nat) (a b:Pt) (e:Int):Option (Ex × St):=if e=0 then some (.normal,⟨sl n [(2,.aK 0 0),(3,.aK 1 0),(4,.any),(5,.any)],[⟨false,tq a⟩,⟨false,tq b⟩],[],none⟩) else some (.ret,⟨sl n [(2,.aK 0 0),(3,.aK 1 0),(4,.row 1 []),(5,.pv (.int .i64 e))],[⟨false,tq a⟩,⟨false,tq b⟩],[],none⟩)
theorem afQ {a b:Pt} (hf:∀ p∈[a,b],EN p) {st:St} (h:st.head [2,3,11,12,13] st.boxes.length=some ⟨sl 32 [(2,.aK 0 0),(3,.aK 1 0),(11,.row 4 ([a,b].map nZ)),(12,.pv (.int .i64 [a,b].length)),(13,.pv (.int .i64 (0:Nat)))],[⟨false,tq a⟩,⟨false,tq b⟩],[],none⟩) :
  den env IK st=resT 32 a b (qL ([a,b].drop ((0:Nat)))):=by
 unfold IK
 refine cO (env:=env) (nb:=2) ([a,b].length) (fun i=>⟨sl 32 [(2,.aK 0 0),(3,.aK 1 0),(11,.row 4 ([a,b].map nZ)),(12,.pv (.int .i64 [a,b].length)),(13,.pv (.int .i64 i))],[⟨false,tq a⟩,⟨false,tq b⟩],[],none⟩) (fun i=>resT 32 a b (qL ([a,b].drop (i)))) h (fun _=>rfl) (fun _=>by simp only [bC,dK,Nat.reduceMul,Nat.reduceBEq,Nat.reduceLT,Nat.reduceLeDiff,Nat.reduceAdd,decide_true,Bool.and_self,Bool.true_and]) ?_ ?_
 ·intro i rb hi ih
  have hi1:=cZ hi (by unfold lim;simp)
  have F1:((i:Int)<([a,b].length:Int))=True:=eq_true (by omega)
  generalize [a,b]=l at *
  have e1:=adH (p:=l[i]) (hf _ (List.getElem_mem hi))
  have hx:(l.map nZ)[i]?=some (nZ l[i]):=by rw [List.getElem?_map,List.getElem?_eq_getElem hi];rfl
  have P4:∀ a b c d:PV,part [a,b,c,d] 0 (some 4)=some (.agg [a,b,c,d]):=fun _ _ _ _=>rfl
  rw [Gw hi]
  rw [kL] at e1 hx
  by_cases c:jh l[i]=0
  ·have G:((0:Int) != 0)=false:=rfl
   rw [if_pos c]
   rw [c] at e1
   simp only [AQ,F1,hx,e1,G,P4,gI,ak hi,List.length_map,aX,Nat.reduceMul,Nat.reduceBEq,Nat.reduceLT,Nat.reduceLeDiff,reduceCtorEq,Nat.reduceEqDiff,Nat.reduceAdd,Nat.beq]
   rw [ih _ (by simp only [hi1,gI,aX,Nat.reduceMul,Nat.reduceBEq,Nat.reduceLT,Nat.reduceLeDiff,reduceCtorEq,Nat.reduceEqDiff,Nat.reduceAdd,Nat.beq]<;>rfl)]
   all_goals rfl
  ·have G:(jh l[i] != 0)=true:=by simpa using c
   rw [if_neg c]
   unfold resT
   rw [if_neg c]
   simp only [AQ,F1,hx,e1,G,P4,gI,ak hi,List.length_map,aX,Nat.reduceMul,Nat.reduceBEq,Nat.reduceLT,Nat.reduceLeDiff,reduceCtorEq,Nat.reduceEqDiff,Nat.reduceAdd,Nat.beq]
 ·intro rb
  rw [List.drop_length]
  unfold qL resT
  rw [if_pos rfl]
  simp only [AQ,Int.lt_irrefl,gI,List.length_map,aX,Nat.reduceMul,Nat.reduceBEq,Nat.reduceLT,Nat.reduceLeDiff,reduceCtorEq,Nat.reduceEqDiff,Nat.reduceAdd,Nat.beq]
theorem ahX {a b:Pt} (ha:EN a) (hb:EN b):cal env 13 [nZ a,nZ b]=some [(.list 1 ((btO a b).map pJ),true),(.int .i64 (btE a b),false)]:=by
 have e3:=adI (a:=a.img) (b:=b.img) ha.2.2
 have P4:∀ a b c d:PV,part [a,b,c,d] 0 (some 4)=some (.agg [a,b,c,d]):=fun _ _ _ _=>rfl
 have hF:qL [a,b]=if jh a=0 then jh b else jh a:=by
  unfold qL qL qL
  by_cases c:jh b=0
  ·simp [c]
  ·simp [c]
 have hf:∀ p∈[a,b],EN p:=by simp;exact ⟨ha,hb⟩
 rw [kL,kL]
 rw [au agU rfl];simp only [Yo,bC,Nat.reduceBEq,Nat.reduceLeDiff,Nat.reduceAdd,List.length_cons,List.length_nil]
 simp only [P4,List.length_map,aX,Nat.reduceMul,Nat.reduceBEq,Nat.reduceLT,Nat.reduceLeDiff,reduceCtorEq,Nat.reduceEqDiff,Nat.reduceAdd,Nat.beq]
 rw [afQ (a:=a) (b:=b) hf]
 rotate_left
 ·rw [gI,gI]
  simp only [bC,dK,Nat.reduceMul,Nat.reduceBEq,Nat.reduceLT,Nat.reduceLeDiff,Nat.reduceAdd,decide_true,Bool.and_self,Bool.true_and]<;>rfl
 ·rw [List.drop_zero,hF]
  unfold resT btO btE
  by_cases c1:jh a=0
  ·rw [if_pos c1,if_pos c1]
   by_cases c2:jh b=0
   ·rw [if_pos c2,if_pos c2]
    by_cases c3:aS a.img=aS b.img
    ·rw [decide_eq_true c3] at e3
     have e4:=adP (a:=a) (b:=b) c1 c2 c3 ha.2.2
     rw [kL,kL] at e4
     rw [if_pos c3,if_pos rfl]
     simp only [e3,e4,P4,gI,List.length_map,aX,Nat.reduceMul,Nat.reduceBEq,Nat.reduceLT,Nat.reduceLeDiff,reduceCtorEq,Nat.reduceEqDiff,Nat.reduceAdd,Nat.beq]
    ·rw [decide_eq_false c3] at e3
     rw [if_neg c3,if_neg (by decide)]
     simp only [e3,P4,gI,List.length_map,List.map_nil,aX,Nat.reduceMul,Nat.reduceBEq,Nat.reduceLT,Nat.reduceLeDiff,reduceCtorEq,Nat.reduceEqDiff,Nat.reduceAdd,Nat.beq]
   ·simp only [if_neg c2]
    simp only [gI,List.length_map,List.map_nil,aX,Nat.reduceMul,Nat.reduceBEq,Nat.reduceLT,Nat.reduceLeDiff,reduceCtorEq,Nat.reduceEqDiff,Nat.reduceAdd,Nat.beq]
  ·simp only [if_neg c1]
   simp only [gI,List.length_map,List.map_nil,aX,Nat.reduceMul,Nat.reduceBEq,Nat.reduceLT,Nat.reduceLeDiff,reduceCtorEq,Nat.reduceEqDiff,Nat.reduceAdd,Nat.beq]
end Go.Proofs.YtaaokejjmdbfaaaDoor.V

namespace Go.Proofs.YtaaokejjmdbfaaaDoor.V
theorem afR {v:Int} {A B:List dD} {s m:Nat} (h1:kW v=true) (h2:s+m≤A.length) (h3:s+m≤B.length) (h4:A.length≤1000000) :
  cal env 64 [.int .i64 v,.list 8 (A.map iT),.list 8 (B.map iT),.agg [.int .i64 s,.int .i64 m]]=some [(.list 3 (((vJ v A B s m).map toW).map oz),false)] :=
 (Ip ag7).trans (Yn h1 h2 h3 h4)
theorem aae {a:Pt} {v:Nat} (h:v<a.img.length):(a.img.map bg)[v]?=some (.list 8 ((dL a v).map iT)):=by
 rw [List.getElem?_map,List.getElem?_eq_getElem h]
 unfold dL
 rw [List.getD_eq_getElem?_getD,List.getElem?_eq_getElem h];rfl
def ahY (N:Nat) (l:List ji):Prop:=l.length≤N∧∀ e∈l,0≤e.start∧1≤e.count∧e.start+e.count≤(N:Int)
set_option maxRecDepth 20000 in
theorem afS {a b:Pt} {v:Nat} {l:List ji} {base:List Run} {ls:List PV} (hva:v<a.img.length) (hvb:v<b.img.length) (hAB:(dL a v).length=(dL b v).length) (hA:(dL a v).length≤4096) (hl:ahY (dL a v).length l) (hbl:base.length+16777216≤lim) (hv8:v≤1000000) {st:St} (h:st.head [9,10,11,12,13,43,44,45,49,50,51,52,70] st.boxes.length=some ⟨sl 74 [(9,.aK 0 0),(10,.aK 1 0),(11,.row 3 (rowT base v (dL a v) (dL b v) l ((0:Nat)))),(12,.pv (.int .i64 v)),(13,.pv (.list 2 (l.map fH))),(43,.row 1 ls),(44,.pv (.int .i64 a.img.length)),(45,.pv (.int .i64 v)),(49,.pv (.list 2 (l.map fH))),(50,.pv (.list 2 (l.map fH))),(51,.pv (.int .i64 l.length)),(52,.pv (.int .i64 (0:Nat))),(70,.any)],[⟨false,tq a⟩,⟨false,tq b⟩],[],none⟩) :
  den env IV st=some (.normal,⟨sl 74 [(6,.any),(7,.any),(9,.aK 0 0),(10,.aK 1 0),(11,.row 3 (rowT base v (dL a v) (dL b v) l l.length)),(43,.row 1 ls),(44,.pv (.int .i64 a.img.length)),(45,.pv (.int .i64 v)),(70,.any)],[⟨false,tq a⟩,⟨false,tq b⟩],[],none⟩):=by
 unfold IV
 refine cO (env:=env) (nb:=2) (l.length) (fun i=>⟨sl 74 [(9,.aK 0 0),(10,.aK 1 0),(11,.row 3 (rowT base v (dL a v) (dL b v) l (i))),(12,.pv (.int .i64 v)),(13,.pv (.list 2 (l.map fH))),(43,.row 1 ls),(44,.pv (.int .i64 a.img.length)),(45,.pv (.int .i64 v)),(49,.pv (.list 2 (l.map fH))),(50,.pv (.list 2 (l.map fH))),(51,.pv (.int .i64 l.length)),(52,.pv (.int .i64 i)),(70,.any)],[⟨false,tq a⟩,⟨false,tq b⟩],[],none⟩) (fun i=>some (.normal,⟨sl 74 [(6,.any),(7,.any),(9,.aK 0 0),(10,.aK 1 0),(11,.row 3 (rowT base v (dL a v) (dL b v) l l.length)),(43,.row 1 ls),(44,.pv (.int .i64 a.img.length)),(45,.pv (.int .i64 v)),(70,.any)],[⟨false,tq a⟩,⟨false,tq b⟩],[],none⟩)) h (fun _=>rfl) (fun _=>by simp only [bC,dK,Nat.reduceMul,Nat.reduceBEq,Nat.reduceLT,Nat.reduceLeDiff,Nat.reduceAdd,decide_true,Bool.and_self,Bool.true_and]) ?_ ?_
 ·intro i rb hi ih
  have hlim:lim=1073741824:=rfl
  obtain ⟨hl1,hl2⟩:=hl
  have hi1:=cZ hi (by omega)
  have F1:((i:Int)<(l.length:Int))=True:=eq_true (by omega)
  obtain ⟨q1,q2,q3⟩:=hl2 _ (List.getElem_mem hi)
  have hx:(l.map fH)[i]?=some (.agg [.int .i64 l[i].start,.int .i64 l[i].count]):=by rw [List.getElem?_map,List.getElem?_eq_getElem hi];rfl
  have e1:=afR (v:=(v:Int)) (A:=dL a v) (B:=dL b v) (s:=l[i].start.toNat) (m:=l[i].count.toNat) (by unfold kW;simp;omega) (by omega) (by omega) (by omega)
  rw [Int.toNat_of_nonneg q1,Int.toNat_of_nonneg (by omega:0≤l[i].count)] at e1
  have z1:=Vt (base:=base) (v:=v) (A:=dL a v) (B:=dL b v) hi
  have z2:=Nj (base:=base) (v:=v) (A:=dL a v) (B:=dL b v) (l:=l) (i:=i) (N:=4096) (fun e he=>by have:=hl2 e he;omega)
  have z3:=Nj (base:=base) (v:=v) (A:=dL a v) (B:=dL b v) (l:=l) (i:=i+1) (N:=4096) (fun e he=>by have:=hl2 e he;omega)
  have z4:l.length * 4096≤16777216:=by
   have:l.length * 4096≤4096 * 4096:=Nat.mul_le_mul_right _ (by omega)
   omega
  rw [← z1,List.length_append] at z3
  have hxa:=aae hva
  have hxb:=aae hvb
  rw [← z1] at ih
  have L1:((rowT base v (dL a v) (dL b v) l i).length+(((vJ v (dL a v) (dL b v) l[i].start.toNat l[i].count.toNat).map toW).map oz).length≤lim)=True:=eq_true (by omega)
  generalize rowT base v (dL a v) (dL b v) l i=z at *
  generalize ((vJ v (dL a v) (dL b v) l[i].start.toNat l[i].count.toNat).map toW).map oz=x at *
  have P2:∀ a b:PV,part [a,b] 0 (some 2)=some (.agg [a,b]):=fun _ _=>rfl
  simp only [IU,F1,P2,hx,hxa,hxb,e1,L1,gI,ak hi,ak hva,ak hvb,List.length_map,aX,Nat.reduceMul,Nat.reduceBEq,Nat.reduceLT,Nat.reduceLeDiff,reduceCtorEq,Nat.reduceEqDiff,Nat.reduceAdd,Nat.beq]
  rw [ih _ (by simp only [hi1,gI,aX,Nat.reduceMul,Nat.reduceBEq,Nat.reduceLT,Nat.reduceLeDiff,reduceCtorEq,Nat.reduceEqDiff,Nat.reduceAdd,Nat.beq]<;>rfl)]
  all_goals rfl
 ·intro rb
  simp only [IU,Int.lt_irrefl,gI,List.length_map,aX,Nat.reduceMul,Nat.reduceBEq,Nat.reduceLT,Nat.reduceLeDiff,reduceCtorEq,Nat.reduceEqDiff,Nat.reduceAdd,Nat.beq]
def rowA (a b:Pt) (i:Nat):List PV:=((yO a b i).map toW).map oz
theorem JR {a b:Pt} (ha:jh a=0):∀ n,(yO a b n).length≤n * 16777216
 |0=>Nat.zero_le _
 |n+1=>by
  have h1:=JR (b:=b) ha n
  have h2:=oh (mk2 a b n) (ig a n)
  have h3:=yA (mk2 a b n) (ig a n)
  have h4:=Rx ha n
  have h5:=JB (v:=(n:Int)) (A:=dL a n) (B:=dL b n) (N:=4096) (l:=ext (mk2 a b n) (ig a n)) (fun e he=>by have:=h2 e he;omega)
  have h6:(ext (mk2 a b n) (ig a n)).length * 4096≤4096 * 4096:=Nat.mul_le_mul_right _ (by omega)
  rw [DK,List.length_append,Nat.succ_mul]
  omega
theorem VR (a b:Pt) (i:Nat):rowT (yO a b i) i (dL a i) (dL b i) (ext (mk2 a b i) (ig a i)) (ext (mk2 a b i) (ig a i)).length=rowA a b (i+1):=by
 rw [ZA,← DK];rfl
theorem afT {a b:Pt} {n i:Nat} (h:i<n):((wX a b n).map pJ)[i]?=some (.list 2 ((ext (mk2 a b i) (ig a i)).map fH)):=by
 unfold wX
 rw [List.map_map,List.getElem?_map,List.getElem?_range h];rfl
set_option maxRecDepth 20000 in
theorem aaf {a b:Pt} (ha:jh a=0) (hb:jh b=0) (hs:aS a.img=aS b.img) {st:St} (h:st.head [9,10,11,43,44,45,70] st.boxes.length=some ⟨sl 74 [(9,.aK 0 0),(10,.aK 1 0),(11,.row 3 (rowA a b ((0:Nat)))),(43,.row 1 ((wX a b a.img.length).map pJ)),(44,.pv (.int .i64 a.img.length)),(45,.pv (.int .i64 (0:Nat))),(70,.any)],[⟨false,tq a⟩,⟨false,tq b⟩],[],none⟩) :
  den env IX st=some (.normal,⟨sl 74 [(6,.any),(7,.any),(11,.row 3 (rowA a b a.img.length))],[⟨false,tq a⟩,⟨false,tq b⟩],[],none⟩):=by
 unfold IX
 refine cO (env:=env) (nb:=2) (a.img.length) (fun i=>⟨sl 74 [(9,.aK 0 0),(10,.aK 1 0),(11,.row 3 (rowA a b (i))),(43,.row 1 ((wX a b a.img.length).map pJ)),(44,.pv (.int .i64 a.img.length)),(45,.pv (.int .i64 i)),(70,.any)],[⟨false,tq a⟩,⟨false,tq b⟩],[],none⟩) (fun i=>some (.normal,⟨sl 74 [(6,.any),(7,.any),(11,.row 3 (rowA a b a.img.length))],[⟨false,tq a⟩,⟨false,tq b⟩],[],none⟩)) h (fun _=>rfl) (fun _=>by simp only [bC,dK,Nat.reduceMul,Nat.reduceBEq,Nat.reduceLT,Nat.reduceLeDiff,Nat.reduceAdd,decide_true,Bool.and_self,Bool.true_and]) ?_ ?_
 ·intro i rb hi ih
  have hlim:lim=1073741824:=rfl
  have hI:=(kM (og ha).2.1).1
  have hsl:=DJ hs
  have hi1:=cZ hi (by omega)
  have F1:((i:Int)<(a.img.length:Int))=True:=eq_true (by omega)
  have hx:=afT (a:=a) (b:=b) hi
  have hz:((wX a b a.img.length).map pJ).length=a.img.length:=by rw [List.length_map,vK]
  have I1:index (.int .i64 (i:Int)) ((wX a b a.img.length).map pJ).length=some i:=by rw [hz];exact ak hi
  have hA:=Rx ha i
  have hAB:ig a i=ig b i:=Gx hs i
  have hin:=oh (mk2 a b i) (ig a i)
  have hel:=yA (mk2 a b i) (ig a i)
  have htl:=JR (b:=b) ha i
  have hr:=VR a b i
  have hr0:=Vs (yO a b i) i (dL a i) (dL b i) (ext (mk2 a b i) (ig a i))
  have hL:=fun (st:St)=>afS (st:=st) (a:=a) (b:=b) (v:=i) (l:=ext (mk2 a b i) (ig a i)) (base:=yO a b i) (ls:=(wX a b a.img.length).map pJ) hi (by omega) hAB hA ⟨hel,hin⟩ (by omega) (by omega)
  rw [hr,hr0] at hL
  generalize (wX a b a.img.length).map pJ=ls at *
  generalize ext (mk2 a b i) (ig a i)=es at *
  have e0:rowA a b i=((yO a b i).map toW).map oz:=rfl
  rw [← e0] at hL
  simp only [IW,F1,hx,I1,List.length_map,aX,Nat.reduceMul,Nat.reduceBEq,Nat.reduceLT,Nat.reduceLeDiff,reduceCtorEq,Nat.reduceEqDiff,Nat.reduceAdd,Nat.beq]
  rw [hL _ (by simp only [bC,dK,Nat.reduceMul,Nat.reduceBEq,Nat.reduceLT,Nat.reduceLeDiff,Nat.reduceAdd,decide_true,Bool.and_self,Bool.true_and]<;>rfl)]
  simp only [List.length_map,aX,Nat.reduceMul,Nat.reduceBEq,Nat.reduceLT,Nat.reduceLeDiff,reduceCtorEq,Nat.reduceEqDiff,Nat.reduceAdd,Nat.beq]
  rw [ih _ (by simp only [hi1,aX,Nat.reduceMul,Nat.reduceBEq,Nat.reduceLT,Nat.reduceLeDiff,reduceCtorEq,Nat.reduceEqDiff,Nat.reduceAdd,Nat.beq]<;>rfl)]
 ·intro rb
  simp only [IW,Int.lt_irrefl,List.length_map,aX,Nat.reduceMul,Nat.reduceBEq,Nat.reduceLT,Nat.reduceLeDiff,reduceCtorEq,Nat.reduceEqDiff,Nat.reduceAdd,Nat.beq]
theorem RV:∀ {l:List Pt},qL l=0→∀ p∈l,jh p=0
 |[],_,p,hp=>by cases hp
 |q :: l,h,p,hp=>by
  unfold qL at h
  split at h
  ·rcases List.mem_cons.1 hp with rfl|hp
   ·assumption
   ·exact RV h p hp
  ·rename_i c;exact absurd h c
theorem Nz {l:List Pt} (h:zZ l=0):(∀ p∈l,jh p=0)∧1≤l.length∧l.length≤4∧∀ p∈l,∀ q∈l,aS p.img=aS q.img:=by
 unfold zZ at h
 split at h
 ·rename_i c
  split at h
  ·cases h
  ·split at h
   ·rename_i c2 c3
    refine ⟨RV c,by omega,by omega,fun p hp q hq=>?_⟩
    have h1:=List.all_eq_true.1 c3 p hp
    have h2:=List.all_eq_true.1 c3 q hq
    rw [of_decide_eq_true h1,of_decide_eq_true h2]
   ·cases h
 ·rename_i c;exact absurd h c
set_option maxRecDepth 20000 in
theorem ahZ {l:List Pt} (hl:l.length≤lim) (hf:∀ p∈l,EN p) {f t:Nat} (h1:f<l.length) (h2:t<l.length) (h0:zZ l=0):cal env 22 [.list 4 (l.map nZ),.int .i64 f,.int .i64 t]=some [(.list 3 (rowA l[f] l[t] l[f].img.length),true),(.int .i64 0,false)]:=by
 have hlim:lim=1073741824:=rfl
 obtain ⟨g1,g2,g3,g4⟩:=Nz h0
 have e1:=ahJ hl hf
 rw [h0] at e1
 have ha:=g1 _ (List.getElem_mem h1)
 have hb:=g1 _ (List.getElem_mem h2)
 have hs:=g4 _ (List.getElem_mem h1) _ (List.getElem_mem h2)
 have e2:=adP ha hb hs (hf _ (List.getElem_mem h1)).2.2
 have hx:(l.map nZ)[f]?=some (nZ l[f]):=by rw [List.getElem?_map,List.getElem?_eq_getElem h1];rfl
 have hy:(l.map nZ)[t]?=some (nZ l[t]):=by rw [List.getElem?_map,List.getElem?_eq_getElem h2];rfl
 generalize l[f]=a at *
 generalize l[t]=b at *
 have hL:=fun (st:St)=>aaf (st:=st) (a:=a) (b:=b) ha hb hs
 have e0:rowA a b 0=[]:=rfl
 rw [e0] at hL
 have hz:((wX a b a.img.length).map pJ).length=a.img.length:=by rw [List.length_map,vK]
 have P4:∀ a b c d:PV,part [a,b,c,d] 0 (some 4)=some (.agg [a,b,c,d]):=fun _ _ _ _=>rfl
 have Z:((0:Int) != 0)=false:=rfl
 have K1:(((if (t:Int)<(f:Int) then (t:Int) else (f:Int)))<0)=False:=eq_false (by split<;>omega)
 have K2:(((if (f:Int)<(t:Int) then (t:Int) else (f:Int))) ≥ (l.length:Int))=False:=eq_false (by split<;>omega)
 have K3:((l.length:Int)≤((if (f:Int)<(t:Int) then (t:Int) else (f:Int))))=False:=eq_false (by split<;>omega)
 rw [kL,kL] at e2
 rw [kL] at hx hy
 generalize (wX a b a.img.length).map pJ=ls at *
 rw [au agV rfl];simp only [Yp,bC,Nat.reduceBEq,Nat.reduceLeDiff,Nat.reduceAdd,List.length_cons,List.length_nil]
 simp only [e1,e2,hx,hy,Z,P4,K1,K2,K3,ak h1,ak h2,hz,List.length_map,aX,Nat.reduceMul,Nat.reduceBEq,Nat.reduceLT,Nat.reduceLeDiff,reduceCtorEq,Nat.reduceEqDiff,Nat.reduceAdd,Nat.beq]
 have hsw:∀ (A B:List BV),St.swap2 ⟨sl 74 [(9,.aK 1 0),(10,.aK 0 0),(70,.any)],[⟨false,A⟩,⟨false,B⟩],[],none⟩ 0=some ⟨sl 74 [(9,.aK 0 0),(10,.aK 1 0),(70,.any)],[⟨false,B⟩,⟨false,A⟩],[],none⟩:=fun A B=>rfl
 simp only [hsw,e1,e2,hx,hy,Z,P4,K1,K2,K3,ak h1,ak h2,hz,List.length_map,aX,Nat.reduceMul,Nat.reduceBEq,Nat.reduceLT,Nat.reduceLeDiff,reduceCtorEq,Nat.reduceEqDiff,Nat.reduceAdd,Nat.beq]
 rw [hL _ (by simp only [bC,dK,Nat.reduceMul,Nat.reduceBEq,Nat.reduceLT,Nat.reduceLeDiff,Nat.reduceAdd,decide_true,Bool.and_self,Bool.true_and]<;>rfl)]
 simp only [e1,e2,hx,hy,Z,P4,K1,K2,K3,ak h1,ak h2,hz,List.length_map,aX,Nat.reduceMul,Nat.reduceBEq,Nat.reduceLT,Nat.reduceLeDiff,reduceCtorEq,Nat.reduceEqDiff,Nat.reduceAdd,Nat.beq]
end Go.Proofs.YtaaokejjmdbfaaaDoor.V

namespace Go.Proofs.YtaaokejjmdbfaaaDoor.V
theorem aag {im:jk} {W:List iy} (h:uG im W=0) {v:Nat} (hv:((lS im W).getD v []).length≤4096):okB (dB (lS im W) W v)=true∧(dB (lS im W) W v).size=(((lS im W).getD v []).length:Int):=by
 have h0:qh (bP im)=0:=sU h
 have h1:(jU (bP im) W 0).2=0:=by unfold uG at h;rwa [if_neg (by omega)] at h
 have hs:=uO (jo h) v
 have hfx:=adO (n:=((lS im W).getD v []).length) (l:=Az v W) hv (fun e he=>by
  unfold Az at he
  obtain ⟨w,hw,rfl⟩:=List.mem_map.1 he
  obtain ⟨hw,h2⟩:=List.mem_filter.1 hw
  have h2:w.volume=(v:Int):=by simpa using h2
  obtain ⟨u,g1,g2,g3,g4,g5⟩:=zA (xg h1 w hw)
  have:u=v:=by omega
  subst this
  unfold QG
  simp only
  omega)
 exact ⟨hfx.2.2.1,hfx.2.2.2.1⟩
theorem GR:∀ {bs:List Bm} {vs:jk},(∀ i,i<bs.length→i<vs.length→okB (bs.getD i ⟨0,[]⟩)=true∧(bs.getD i ⟨0,[]⟩).size=((vs.getD i []).length:Int))→wW bs vs=0
 |[],_,_=>by unfold wW;rfl
 |b :: bs,[],_=>by unfold wW;rfl
 |b :: bs,v :: vs,h=>by
  obtain ⟨h1,h2⟩:=h 0 (Nat.zero_lt_succ _) (Nat.zero_lt_succ _)
  have h1:okB b=true:=h1
  have h2:b.size=(v.length:Int):=h2
  unfold wW
  rw [if_neg (by rw [uI h1];decide),if_neg (by omega)]
  exact GR fun i g1 g2=>h (i+1) (Nat.succ_lt_succ g1) (Nat.succ_lt_succ g2)
theorem uS (im:jk):bU im=qh (bP im):=rfl
theorem mO {im:jk} (h:bU im=0) (v:Nat):(im.getD v []).length≤4096:=by
 have h2:=(kM h).2
 rw [List.getD_eq_getElem?_getD]
 by_cases hv:v<im.length
 ·rw [List.getElem?_eq_getElem hv];exact h2 _ (List.getElem_mem hv)
 ·rw [List.getElem?_eq_none (by omega)];exact Nat.zero_le _
theorem RX {base:jk} {l:List iy} {n:Nat} (hg:uG base l=0) (hn:n≤3):jh (D5 base n l)=0:=by
 have h0:bU (lS base l)=0:=by rw [uS,jo hg];exact sU hg
 unfold jh D5
 simp only
 rw [if_neg (by omega),if_neg (by decide),if_neg (by omega),if_neg (by rw [List.length_map,List.length_range];simp)]
 refine GR fun i h1 h2=>?_
 rw [List.getD_eq_getElem?_getD,List.getElem?_map,List.getElem?_range h2]
 exact aag hg (mO h0 i)
theorem RY {base:jk} {l:List iy} {n v:Nat} (hv:v<(lS base l).length):dir (D5 base n l) v=dB (lS base l) l v:=by
 unfold dir D5
 simp only
 rw [List.getD_eq_getElem?_getD,List.getElem?_map,List.getElem?_range hv];rfl
theorem aah {base:jk} {l m:List iy} {i k:Nat} (h1:uG base l=0) (h2:uG base m=0) {v j:Nat} (hd:((D5 base i l).img.getD v [])[j]?≠((D5 base k m).img.getD v [])[j]?):mk2 (D5 base i l) (D5 base k m) v j=true:=by
 have hd:((lS base l).getD v [])[j]?≠((lS base m).getD v [])[j]?:=hd
 have a1:=jo h1
 have a2:=jo h2
 have c1:bU (lS base l)=0:=by rw [uS,a1];exact sU h1
 have c2:bU (lS base m)=0:=by rw [uS,a2];exact sU h2
 have e:=uO (a1.trans a2.symm) v
 have hl:=(kU (a:=lS base l) (b:=lS base m) (a1.trans a2.symm)).1
 have hj:j<((lS base l).getD v []).length:=by
  apply Classical.byContradiction
  intro c
  apply hd
  rw [List.getElem?_eq_none (by omega),List.getElem?_eq_none (by omega)]
 have hv:v<(lS base l).length:=by
  apply Classical.byContradiction
  intro c
  have:(lS base l).getD v []=[]:=by rw [List.getD_eq_getElem?_getD,List.getElem?_eq_none (by omega)];rfl
  rw [this] at hj
  exact absurd hj (Nat.not_lt_zero _)
 have b1:=aag h1 (mO c1 v)
 have b2:=aag h2 (mO c2 v)
 unfold mk2
 rw [RY hv,RY (by omega),Bj b1.1 (by rw [b1.2];omega),Bj b2.1 (by rw [b2.2];omega),Bool.or_eq_true]
 by_cases q:((lS base l).getD v [])[j]?=(base.getD v [])[j]?
 ·refine .inr ((Z7 h2 (mO c2 v) j (by omega)).2 (Ad h2 (fun w=>hd (q.trans w.symm))))
 ·exact .inl ((Z7 h1 (mO c1 v) j hj).2 (Ad h1 q))
end Go.Proofs.YtaaokejjmdbfaaaDoor.V

namespace Go.Proofs.YtaaokejjmdbfaaaDoor.V
theorem GU:∀ {l:List Pt},(∀ p∈l,jh p=0)→qL l=0
 |[],_=>rfl
 |p :: l,h=>by
  unfold qL
  rw [if_pos (h p List.mem_cons_self)]
  exact GU fun q hq=>h q (List.mem_cons_of_mem _ hq)
theorem D8 {base:jk} {ls:List (List iy)} (h:D7 base ls=true):MX base=true∧bU base=0∧1≤ls.length∧ls.length≤4∧∀ l∈ls,uG base l=0∧l.length≤20:=by
 unfold D7 at h
 simp only [Bool.and_eq_true,decide_eq_true_eq,List.all_eq_true] at h
 obtain ⟨h1,h2,h3,h4,h5⟩:=h
 refine ⟨h1,h2,h3,h4,fun l hl=>?_⟩
 have:=h5 l hl
 unfold good at this
 simpa using this
theorem NC {base:jk} {ls:List (List iy)} {i:Nat} (h:i<(jm base ls ls.length).length):(jm base ls ls.length)[i]=D5 base i (ls.getD i []):=by
 simp [jm]
theorem oG {ls:List (List iy)} {i:Nat} (h:i<ls.length):ls.getD i []∈ls:=by
 rw [List.getD_eq_getElem?_getD,List.getElem?_eq_getElem h]
 exact List.getElem_mem h
theorem ND {base:jk} {ls:List (List iy)} {p:Pt} (h:p∈jm base ls ls.length):∃ i,i<ls.length∧p=D5 base i (ls.getD i []):=by
 unfold jm at h
 obtain ⟨i,hi,rfl⟩:=List.mem_map.1 h
 exact ⟨i,List.mem_range.1 hi,rfl⟩
theorem VT {base:jk} {ls:List (List iy)} (h:D7 base ls=true):zZ (jm base ls ls.length)=0:=by
 obtain ⟨h1,h2,h3,h4,h5⟩:=D8 h
 have hl:=D6 base ls ls.length
 have hc:∀ p∈jm base ls ls.length,jh p=0∧aS p.img=aS base:=fun p hp=>by
  obtain ⟨i,hi,rfl⟩:=ND hp
  have g:=(h5 _ (oG hi)).1
  exact ⟨RX g (by omega),jo g⟩
 unfold zZ
 rw [if_pos (GU fun p hp=>(hc p hp).1),if_neg (by omega),if_pos ?_]
 unfold sameAll
 rw [List.all_eq_true]
 intro p hp
 have e:(jm base ls ls.length).getD 0 ⟨0,[],[],[]⟩∈jm base ls ls.length:=by
  rw [List.getD_eq_getElem?_getD,List.getElem?_eq_getElem (by omega)]
  exact List.getElem_mem _
 rw [(hc p hp).2,(hc _ e).2]
 simp
theorem VU {base:jk} {ls:List (List iy)} (h:D7 base ls=true) {i k:Nat} (hi:i<ls.length) (hk:k<ls.length) :
  uG (D5 base k (ls.getD k [])).img ((yO (D5 base i (ls.getD i [])) (D5 base k (ls.getD k [])) (D5 base i (ls.getD i [])).img.length).map toW)=0∧lS (D5 base k (ls.getD k [])).img ((yO (D5 base i (ls.getD i [])) (D5 base k (ls.getD k [])) (D5 base i (ls.getD i [])).img.length).map toW)=(D5 base i (ls.getD i [])).img:=by
 obtain ⟨h1,h2,h3,h4,h5⟩:=D8 h
 have g1:=(h5 _ (oG hi)).1
 have g2:=(h5 _ (oG hk)).1
 have a1:=jo g1
 have a2:=jo g2
 exact VK (a2.trans a1.symm) (by show qh (bP (lS base _))=0;rw [a2];exact sU g2) (fun v j hd=>aah g1 g2 hd)
end Go.Proofs.YtaaokejjmdbfaaaDoor.V

namespace Go.Proofs.YtaaokejjmdbfaaaDoor.V
theorem RZ {a b:Pt} (hl:a.img.length=b.img.length) (hm:∀ v j,(a.img.getD v [])[j]?≠(b.img.getD v [])[j]?→mk2 a b v j=true):∀ n,n≤a.img.length→(mdA a b n:Int)=vW ((differ a.img b.img).take n)
 |0,_=>rfl
 |n+1,h=>by
  have ih:=RZ hl hm n (by omega)
  have hd:n<(differ a.img b.img).length:=by unfold differ;rw [List.length_map,List.length_zip];omega
  rw [zo hd,← ih]
  have e:(differ a.img b.img)[n]=ext (dif (dL a n) (dL b n)) (ig a n):=by
   have h1:(differ a.img b.img)[n]?=some (ext (dif (dL a n) (dL b n)) (ig a n)):=by
    unfold differ dL ig
    rw [List.getElem?_map,(List.getElem?_zip_eq_some (z:=(a.img[n]'(by omega),b.img[n]'(by omega)))).2 ⟨List.getElem?_eq_getElem (by omega:n<a.img.length),List.getElem?_eq_getElem (by omega:n<b.img.length)⟩,List.getD_eq_getElem?_getD,List.getD_eq_getElem?_getD,List.getElem?_eq_getElem (by omega:n<a.img.length),List.getElem?_eq_getElem (by omega:n<b.img.length)]
    rfl
   rw [List.getElem?_eq_getElem hd] at h1
   exact Option.some.inj h1
  rw [e,← acS (p:=mk2 a b n) (q:=dif (dL a n) (dL b n)) (A:=dL a n) (B:=dL b n) (n:=ig a n) (fun s _=>by unfold dif;simp) (fun s _ g=>hm n s g)]
  show ((mdA a b n+mdC _ _ _ _:Nat):Int)=_
  omega
theorem D9 {a b:Pt} (hl:a.img.length=b.img.length) {n:Nat} (hd:n<(differ a.img b.img).length):(differ a.img b.img)[n]=ext (dif (dL a n) (dL b n)) (ig a n):=by
 have h:n<a.img.length:=by unfold differ at hd;rw [List.length_map,List.length_zip] at hd;omega
 have h1:(differ a.img b.img)[n]?=some (ext (dif (dL a n) (dL b n)) (ig a n)):=by
  unfold differ dL ig
  rw [List.getElem?_map,(List.getElem?_zip_eq_some (z:=(a.img[n]'(by omega),b.img[n]'(by omega)))).2 ⟨List.getElem?_eq_getElem (by omega:n<a.img.length),List.getElem?_eq_getElem (by omega:n<b.img.length)⟩,List.getD_eq_getElem?_getD,List.getD_eq_getElem?_getD,List.getElem?_eq_getElem (by omega:n<a.img.length),List.getElem?_eq_getElem (by omega:n<b.img.length)]
  rfl
 rw [List.getElem?_eq_getElem hd] at h1
 exact Option.some.inj h1
theorem VW {a b:Pt} (hl:a.img.length=b.img.length) (hm:∀ v j,(a.img.getD v [])[j]?≠(b.img.getD v [])[j]?→mk2 a b v j=true):∀ i (h1:i<(differ a.img b.img).length) (h2:i<(wX a b a.img.length).length),∀ x∈(differ a.img b.img)[i],((wX a b a.img.length)[i]).any (qp x)=true:=fun i h1 h2 x hx=>by
 rw [D9 hl h1] at hx
 have e:(wX a b a.img.length)[i]=ext (mk2 a b i) (ig a i):=by simp [wX]
 rw [e]
 obtain ⟨y,hy,y1,y2⟩:=Qr (p:=dif (dL a i) (dL b i)) (q:=mk2 a b i) (n:=ig a i) (fun s _ g=>hm i s (by unfold dif at g;simpa [dL] using g)) x hx
 refine List.any_eq_true.2 ⟨y,hy,?_⟩
 unfold qp
 rw [decide_eq_true y1,decide_eq_true y2];rfl
end Go.Proofs.YtaaokejjmdbfaaaDoor.V
