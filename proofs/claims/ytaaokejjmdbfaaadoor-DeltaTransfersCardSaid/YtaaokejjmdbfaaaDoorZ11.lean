/-
  Part 11 of the texts that the statement stands on.
-/
import Derived.Test.YtaaokejjmdbfaaaDoorZ10
set_option linter.all false
namespace Go.Proofs.YtaaokejjmdbfaaaDoor.V
theorem Zz:cal env 12 []=some [(.bool true,false)]:=vK (n:=200) (by kernel_rfl)
end Go.Proofs.YtaaokejjmdbfaaaDoor.V

namespace Go.Proofs.YtaaokejjmdbfaaaDoor.V
theorem aci (p:Nat→Bool) {n:Nat} (h:n≤4096):okX (ext p n):=⟨Nat.le_trans (x9 p n) h,fun x hx=>by have:=yg p n x hx;omega⟩
theorem Dv {a:Pt} (h:iU a.img=0) (v:Nat):eX a v≤4096:=yV h v
theorem ae2 {a b:Pt} (h:iU a.img=0) (n:Nat):∀ x∈uY a b n,okX x:=fun x hx=>by
 unfold uY at hx
 obtain ⟨i,hi,rfl⟩:=List.mem_map.1 hx
 exact aci _ (Dv h i)
end Go.Proofs.YtaaokejjmdbfaaaDoor.V

namespace Go.Proofs.YtaaokejjmdbfaaaDoor.V
theorem Ns (a b:Pt):∀ n,yX (uY a b n)=(qo a b n:Int)
 |0=>rfl
 |n+1=>by
  have ih:=Ns a b n
  rw [Dn]
  unfold yX at ih ⊢
  rw [List.map_append,List.sum_append,ih]
  show _+(lI (ext (mk2 a b n) (eX a n))+0)=_
  rw [Nc,Int.add_zero]
  rfl
set_option maxRecDepth 20000 in
theorem ae3 {ds:List o7} {D:List PV} {n13 n14 n:Int} {A B:List BV} (hd:ds.length≤4096) (hd2:∀ x∈ds,0≤x.start∧0≤x.count∧x.start+x.count≤4096) (hn:0≤n∧n≤1000000000) (hc:∀ i,0≤lI (ds.take i)∧lI (ds.take i)≤16777216) {st:St} (h:st.head [5,7,12,13,14,17,18,19,20] st.boxes.length=some ⟨sl 31 [(5,.pv (.int .i64 (n+lI (ds.take ((0:Nat)))))),(7,.pv (.list 2 (ds.map jh))),(12,.row 1 D),(13,.pv (.int .i64 n13)),(14,.pv (.int .i64 n14)),(17,.pv (.list 2 (ds.map jh))),(18,.pv (.list 2 (ds.map jh))),(19,.pv (.int .i64 ds.length)),(20,.pv (.int .i64 (0:Nat)))],[⟨false,A⟩,⟨false,B⟩],[],none⟩) :
  den env Jg st=some (.normal,⟨sl 31 [(4,.any),(5,.pv (.int .i64 (n+lI ds))),(12,.row 1 D),(13,.pv (.int .i64 n13)),(14,.pv (.int .i64 n14))],[⟨false,A⟩,⟨false,B⟩],[],none⟩):=by
 unfold Jg
 refine bH (env:=env) (nb:=2) (ds.length) (fun i=>⟨sl 31 [(5,.pv (.int .i64 (n+lI (ds.take (i))))),(7,.pv (.list 2 (ds.map jh))),(12,.row 1 D),(13,.pv (.int .i64 n13)),(14,.pv (.int .i64 n14)),(17,.pv (.list 2 (ds.map jh))),(18,.pv (.list 2 (ds.map jh))),(19,.pv (.int .i64 ds.length)),(20,.pv (.int .i64 i))],[⟨false,A⟩,⟨false,B⟩],[],none⟩) (fun i=>some (.normal,⟨sl 31 [(4,.any),(5,.pv (.int .i64 (n+lI ds))),(12,.row 1 D),(13,.pv (.int .i64 n13)),(14,.pv (.int .i64 n14))],[⟨false,A⟩,⟨false,B⟩],[],none⟩)) h (fun _=>rfl) (fun _=>by simp only [aO,bJ,Nat.reduceMul,Nat.reduceBEq,Nat.reduceLT,Nat.reduceLeDiff,Nat.reduceAdd,decide_true,Bool.and_self,Bool.true_and]) ?_ ?_
 ·intro i rb hi ih
  have hlim:lim=1073741824:=rfl
  have hi1:=bD hi (by omega)
  have F1:((i:Int)<(ds.length:Int))=True:=eq_true (by omega)
  have hx:(ds.map jh)[i]?=some (.agg [.int .i64 ds[i].start,.int .i64 ds[i].count]):=by rw [List.getElem?_map,List.getElem?_eq_getElem hi];rfl
  have hq:=hd2 _ (List.getElem_mem hi)
  have h1:=hc i
  have hs:=U8 hi
  have W1:IntKind.i64.wrap (n+lI (ds.take i)+ds[i].count)=n+lI (ds.take i)+ds[i].count:=bT (by omega)
  have P2:∀ a b:PV,part [a,b] 0 (some 2)=some (.agg [a,b]):=fun _ _=>rfl
  simp only [Jf,F1,hx,P2,W1,ah hi,List.length_map,aA,Nat.reduceMul,Nat.reduceBEq,Nat.reduceLT,Nat.reduceLeDiff,reduceCtorEq,Nat.reduceEqDiff,Nat.reduceAdd,Nat.beq]
  rw [ih _ (by simp only [hi1];rw [hs,← Int.add_assoc];simp only [aA,Nat.reduceMul,Nat.reduceBEq,Nat.reduceLT,Nat.reduceLeDiff,reduceCtorEq,Nat.reduceEqDiff,Nat.reduceAdd,Nat.beq]<;>rfl)]
  all_goals rfl
 ·intro rb
  rw [List.take_length]
  simp only [Jf,Int.lt_irrefl,List.length_map,aA,Nat.reduceMul,Nat.reduceBEq,Nat.reduceLT,Nat.reduceLeDiff,reduceCtorEq,Nat.reduceEqDiff,Nat.reduceAdd,Nat.beq]
set_option maxRecDepth 20000 in
theorem ZA {dl:List (List o7)} {A B:List BV} (hl:dl.length≤8) (hD:∀ x∈dl,okX x) {st:St} (h:st.head [5,12,13,14] st.boxes.length=some ⟨sl 31 [(5,.pv (.int .i64 (yX (dl.take ((0:Nat)))))),(12,.row 1 (dl.map lM)),(13,.pv (.int .i64 dl.length)),(14,.pv (.int .i64 (0:Nat)))],[⟨false,A⟩,⟨false,B⟩],[],none⟩) :
  den env Ji st=some (.normal,⟨sl 31 [(4,.any),(5,.pv (.int .i64 (yX dl)))],[⟨false,A⟩,⟨false,B⟩],[],none⟩):=by
 unfold Ji
 refine bH (env:=env) (nb:=2) (dl.length) (fun i=>⟨sl 31 [(5,.pv (.int .i64 (yX (dl.take (i))))),(12,.row 1 (dl.map lM)),(13,.pv (.int .i64 dl.length)),(14,.pv (.int .i64 i))],[⟨false,A⟩,⟨false,B⟩],[],none⟩) (fun i=>some (.normal,⟨sl 31 [(4,.any),(5,.pv (.int .i64 (yX dl)))],[⟨false,A⟩,⟨false,B⟩],[],none⟩)) h (fun _=>rfl) (fun _=>by simp only [aO,bJ,Nat.reduceMul,Nat.reduceBEq,Nat.reduceLT,Nat.reduceLeDiff,Nat.reduceAdd,decide_true,Bool.and_self,Bool.true_and]) ?_ ?_
 ·intro i rb hi ih
  have hlim:lim=1073741824:=rfl
  have hi1:=bD hi (by omega)
  have F1:((i:Int)<(dl.length:Int))=True:=eq_true (by omega)
  have hx:=ach hi
  have b1:=Nr hD i
  have k1:=hD _ (List.getElem_mem hi)
  have hs:=FT hi
  have hL:=fun (st:St)=>ae3 (st:=st) (ds:=dl[i]) (D:=dl.map lM) (n13:=(dl.length:Int)) (n14:=(i:Int)) (n:=yX (dl.take i)) (A:=A) (B:=B) k1.1 k1.2 (by omega) (Nq k1)
  rw [List.take_zero,show lI []=0 from rfl,Int.add_zero] at hL
  simp only [Jh,F1,hx,ah hi,List.length_map,aA,Nat.reduceMul,Nat.reduceBEq,Nat.reduceLT,Nat.reduceLeDiff,reduceCtorEq,Nat.reduceEqDiff,Nat.reduceAdd,Nat.beq]
  rw [hL _ (by simp only [aO,bJ,Nat.reduceMul,Nat.reduceBEq,Nat.reduceLT,Nat.reduceLeDiff,Nat.reduceAdd,decide_true,Bool.and_self,Bool.true_and]<;>rfl)]
  simp only [List.length_map,aA,Nat.reduceMul,Nat.reduceBEq,Nat.reduceLT,Nat.reduceLeDiff,reduceCtorEq,Nat.reduceEqDiff,Nat.reduceAdd,Nat.beq]
  rw [ih _ (by simp only [hi1];rw [hs];simp only [aA,Nat.reduceMul,Nat.reduceBEq,Nat.reduceLT,Nat.reduceLeDiff,reduceCtorEq,Nat.reduceEqDiff,Nat.reduceAdd,Nat.beq]<;>rfl)]
  all_goals rfl
 ·intro rb
  rw [List.take_length]
  simp only [Jh,Int.lt_irrefl,List.length_map,aA,Nat.reduceMul,Nat.reduceBEq,Nat.reduceLT,Nat.reduceLeDiff,reduceCtorEq,Nat.reduceEqDiff,Nat.reduceAdd,Nat.beq]
theorem ahJ {a b:Pt} (ha:lH a=0) (hb:lH b=0) (hs:aC a.img=aC b.img):cal env 92 [dX a,dX b]=some [(.int .i64 (qo a b a.img.length),false)]:=by
 have hlim:lim=1073741824:=rfl
 have iA:=(jT ha).2.1
 have lA:=jo iA
 have e1:=ac4 ha hb hs (by omega)
 have hbl:=rO a b a.img.length
 have P4:∀ a b c d:PV,part [a,b,c,d] 0 (some 4)=some (.agg [a,b,c,d]):=fun _ _ _ _=>rfl
 have hL:=fun (st:St) (A B:List BV)=>ZA (st:=st) (dl:=uY a b a.img.length) (A:=A) (B:=B) (by omega) (ae2 iA _)
 rw [Ns,List.take_zero,show yX []=0 from rfl] at hL
 rw [dQ,dQ] at e1
 rw [dQ,dQ]
 rw [au agV rfl];simp only [Yr,aO,Nat.reduceBEq,Nat.reduceLeDiff,Nat.reduceAdd,List.length_cons,List.length_nil]
 simp only [e1,P4,List.length_map,aA,Nat.reduceMul,Nat.reduceBEq,Nat.reduceLT,Nat.reduceLeDiff,reduceCtorEq,Nat.reduceEqDiff,Nat.reduceAdd,Nat.beq]
 rw [hL _ _ _ (by simp only [aO,bJ,Nat.reduceMul,Nat.reduceBEq,Nat.reduceLT,Nat.reduceLeDiff,Nat.reduceAdd,decide_true,Bool.and_self,Bool.true_and]<;>rfl)]
 simp only [e1,P4,List.length_map,aA,Nat.reduceMul,Nat.reduceBEq,Nat.reduceLT,Nat.reduceLeDiff,reduceCtorEq,Nat.reduceEqDiff,Nat.reduceAdd,Nat.beq]
end Go.Proofs.YtaaokejjmdbfaaaDoor.V

namespace Go.Proofs.YtaaokejjmdbfaaaDoor.V
end Go.Proofs.YtaaokejjmdbfaaaDoor.V

namespace Go.Proofs.YtaaokejjmdbfaaaDoor.V
end Go.Proofs.YtaaokejjmdbfaaaDoor.V

namespace Go.Proofs.YtaaokejjmdbfaaaDoor.V
def oO (x y:Int):Int:=if x<y then -1 else if y<x then 1 else 0
theorem ZB {x:Int}:cal env 106 [.int .i64 x]=some [(.bool false,false)]:=by
 have N:(x != x)=false:=by simp
 rw [au aed rfl];simp only [MH,aO,Nat.reduceBEq,Nat.reduceLeDiff,Nat.reduceAdd,List.length_cons,List.length_nil]
 simp only [N,aA,Nat.reduceMul,Nat.reduceBEq,Nat.reduceLT,Nat.reduceLeDiff,reduceCtorEq,Nat.reduceEqDiff,Nat.reduceAdd,Nat.beq]
theorem ZC {x y:Int}:cal env 88 [.int .i64 x,.int .i64 y]=some [(.int .i64 (oO x y),false)]:=by
 have e1:=ZB (x:=x)
 have e2:=ZB (x:=y)
 unfold oO
 by_cases c1:x<y
 ·have G1:(x<y)=True:=eq_true c1
  rw [if_pos c1]
  rw [au Yt rfl];simp only [PX,aO,Nat.reduceBEq,Nat.reduceLeDiff,Nat.reduceAdd,List.length_cons,List.length_nil]
  simp only [e1,e2,G1,aA,Nat.reduceMul,Nat.reduceBEq,Nat.reduceLT,Nat.reduceLeDiff,reduceCtorEq,Nat.reduceEqDiff,Nat.reduceAdd,Nat.beq]
 ·have G1:(x<y)=False:=eq_false c1
  rw [if_neg c1]
  by_cases c2:y<x
  ·have G2:(x > y)=True:=eq_true c2
   rw [if_pos c2]
   rw [au Yt rfl];simp only [PX,aO,Nat.reduceBEq,Nat.reduceLeDiff,Nat.reduceAdd,List.length_cons,List.length_nil]
   simp only [e1,e2,G1,G2,aA,Nat.reduceMul,Nat.reduceBEq,Nat.reduceLT,Nat.reduceLeDiff,reduceCtorEq,Nat.reduceEqDiff,Nat.reduceAdd,Nat.beq]
  ·have G2:(x > y)=False:=eq_false c2
   rw [if_neg c2]
   rw [au Yt rfl];simp only [PX,aO,Nat.reduceBEq,Nat.reduceLeDiff,Nat.reduceAdd,List.length_cons,List.length_nil]
   simp only [e1,e2,G1,G2,aA,Nat.reduceMul,Nat.reduceBEq,Nat.reduceLT,Nat.reduceLeDiff,reduceCtorEq,Nat.reduceEqDiff,Nat.reduceAdd,Nat.beq]
end Go.Proofs.YtaaokejjmdbfaaaDoor.V

namespace Go.Proofs.YtaaokejjmdbfaaaDoor.V
abbrev vF:=Int × Int × Int
def Dw (e:vF):PV:=.agg [.int .i64 e.1,.int .i64 e.2.1,.int .i64 e.2.2]
def bEd (e:vF):List BV:=[.pv (.int .i64 e.1),.pv (.int .i64 e.2.1),.pv (.int .i64 e.2.2)]
theorem qp (e:vF):Dw e=.agg [.int .i64 e.1,.int .i64 e.2.1,.int .i64 e.2.2]:=rfl
theorem yY (e:vF):bEd e=[.pv (.int .i64 e.1),.pv (.int .i64 e.2.1),.pv (.int .i64 e.2.2)]:=rfl
def Qo:List Int→Int
 |[]=>0
 |x :: l=>if x=0 then Qo l else x
def Qp (a b:vF):Int:=Qo [oO a.1 b.1,oO a.2.1 b.2.1,oO a.2.2 b.2.2]
def ZE (e:Int):Option (Ex × St):=if e=0 then some (.normal,⟨sl 18 [(2,.any),(3,.pv (.int .i64 0))],[],[],none⟩) else some (.ret,⟨sl 18 [(2,.pv (.int .i64 e)),(3,.pv (.int .i64 0))],[],[],none⟩)
theorem ZF {l:List Int} {i:Nat} (h:i<l.length):Qo (l.drop i)=if l[i]=0 then Qo (l.drop (i+1)) else l[i]:=by
 rw [List.drop_eq_getElem_cons h,Qo]
theorem ae4 {l:List Int} (hl:l.length≤lim) {st:St} (h:st.head [0,3,6,7,8] st.boxes.length=some ⟨sl 18 [(0,.pv (.list 1 (l.map eI))),(3,.pv (.int .i64 0)),(6,.pv (.list 1 (l.map eI))),(7,.pv (.int .i64 l.length)),(8,.pv (.int .i64 (0:Nat)))],[],[],none⟩) :
  den env Jj st=ZE (Qo (l.drop ((0:Nat)))):=by
 unfold Jj
 refine bH (env:=env) (nb:=0) (l.length) (fun i=>⟨sl 18 [(0,.pv (.list 1 (l.map eI))),(3,.pv (.int .i64 0)),(6,.pv (.list 1 (l.map eI))),(7,.pv (.int .i64 l.length)),(8,.pv (.int .i64 i))],[],[],none⟩) (fun i=>ZE (Qo (l.drop (i)))) h (fun _=>rfl) (fun _=>by simp only [aO,bJ,Nat.reduceMul,Nat.reduceBEq,Nat.reduceLT,Nat.reduceLeDiff,Nat.reduceAdd,decide_true,Bool.and_self,Bool.true_and]) ?_ ?_
 ·intro i rb hi ih
  have hi1:=bD hi hl
  have F1:((i:Int)<(l.length:Int))=True:=eq_true (by omega)
  have hx:(l.map eI)[i]?=some (.int .i64 l[i]):=by rw [List.getElem?_map,List.getElem?_eq_getElem hi];rfl
  rw [ZF hi]
  by_cases c:l[i]=0
  ·have G:(l[i]==0)=true:=by simp [c]
   have G2:(l[i] != 0)=false:=by simp [c]
   rw [if_pos c]
   simp only [Ar,F1,hx,G,G2,ah hi,List.length_map,aA,Nat.reduceMul,Nat.reduceBEq,Nat.reduceLT,Nat.reduceLeDiff,reduceCtorEq,Nat.reduceEqDiff,Nat.reduceAdd,Nat.beq]
   rw [ih _ (by simp only [hi1];simp only [aA,Nat.reduceMul,Nat.reduceBEq,Nat.reduceLT,Nat.reduceLeDiff,reduceCtorEq,Nat.reduceEqDiff,Nat.reduceAdd,Nat.beq]<;>rfl)]
  ·have G:(l[i]==0)=false:=by simp [c]
   have G2:(l[i] != 0)=true:=by simp [c]
   rw [if_neg c]
   unfold ZE
   rw [if_neg c]
   simp only [Ar,F1,hx,G,G2,ah hi,List.length_map,aA,Nat.reduceMul,Nat.reduceBEq,Nat.reduceLT,Nat.reduceLeDiff,reduceCtorEq,Nat.reduceEqDiff,Nat.reduceAdd,Nat.beq]
 ·intro rb
  rw [List.drop_length]
  unfold Qo ZE
  rw [if_pos rfl]
  simp only [Ar,Int.lt_irrefl,List.length_map,aA,Nat.reduceMul,Nat.reduceBEq,Nat.reduceLT,Nat.reduceLeDiff,reduceCtorEq,Nat.reduceEqDiff,Nat.reduceAdd,Nat.beq]
theorem ahK {l:List Int} (hl:l.length≤lim):cal env 93 [.list 1 (l.map eI)]=some [(.int .i64 (Qo l),false)]:=by
 have hL:=fun (st:St)=>ae4 (st:=st) (l:=l) hl
 rw [List.drop_zero] at hL
 unfold ZE at hL
 by_cases c:Qo l=0
 ·rw [if_pos c] at hL
  rw [c]
  rw [au acX rfl];simp only [UC,aO,Nat.reduceBEq,Nat.reduceLeDiff,Nat.reduceAdd,List.length_cons,List.length_nil]
  simp only [List.length_map,aA,Nat.reduceMul,Nat.reduceBEq,Nat.reduceLT,Nat.reduceLeDiff,reduceCtorEq,Nat.reduceEqDiff,Nat.reduceAdd,Nat.beq]
  rw [hL _ (by simp only [aO,bJ,Nat.reduceMul,Nat.reduceBEq,Nat.reduceLT,Nat.reduceLeDiff,Nat.reduceAdd,decide_true,Bool.and_self,Bool.true_and]<;>rfl)]
  simp only [List.length_map,aA,Nat.reduceMul,Nat.reduceBEq,Nat.reduceLT,Nat.reduceLeDiff,reduceCtorEq,Nat.reduceEqDiff,Nat.reduceAdd,Nat.beq]
 ·rw [if_neg c] at hL
  rw [au acX rfl];simp only [UC,aO,Nat.reduceBEq,Nat.reduceLeDiff,Nat.reduceAdd,List.length_cons,List.length_nil]
  simp only [List.length_map,aA,Nat.reduceMul,Nat.reduceBEq,Nat.reduceLT,Nat.reduceLeDiff,reduceCtorEq,Nat.reduceEqDiff,Nat.reduceAdd,Nat.beq]
  rw [hL _ (by simp only [aO,bJ,Nat.reduceMul,Nat.reduceBEq,Nat.reduceLT,Nat.reduceLeDiff,Nat.reduceAdd,decide_true,Bool.and_self,Bool.true_and]<;>rfl)]
  simp only [List.length_map,aA,Nat.reduceMul,Nat.reduceBEq,Nat.reduceLT,Nat.reduceLeDiff,reduceCtorEq,Nat.reduceEqDiff,Nat.reduceAdd,Nat.beq]
theorem ahL {a b:vF}:cal env 69 [Dw a,Dw b]=some [(.int .i64 (Qp a b),false)]:=by
 have e1:=ZC (x:=a.1) (y:=b.1)
 have e2:=ZC (x:=a.2.1) (y:=b.2.1)
 have e3:=ZC (x:=a.2.2) (y:=b.2.2)
 have e4:=ahK (l:=[oO a.1 b.1,oO a.2.1 b.2.1,oO a.2.2 b.2.2]) (by simp [lim])
 rw [show [oO a.1 b.1,oO a.2.1 b.2.1,oO a.2.2 b.2.2].map eI=[.int .i64 (oO a.1 b.1),.int .i64 (oO a.2.1 b.2.1),.int .i64 (oO a.2.2 b.2.2)] from rfl,show Qo [oO a.1 b.1,oO a.2.1 b.2.1,oO a.2.2 b.2.2]=Qp a b from rfl] at e4
 rw [qp,qp]
 rw [au agI rfl];simp only [Ye,aO,Nat.reduceBEq,Nat.reduceLeDiff,Nat.reduceAdd,List.length_cons,List.length_nil]
 simp only [e1,e2,e3,e4,aA,Nat.reduceMul,Nat.reduceBEq,Nat.reduceLT,Nat.reduceLeDiff,reduceCtorEq,Nat.reduceEqDiff,Nat.reduceAdd,Nat.beq]
def vP (m y:vF):vF:=if Qp y m<0 then y else m
def uw (x:vF) (l:List vF):vF:=l.foldl vP x
theorem U9 {x:vF} {l:List vF} {i:Nat} (h:i<l.length):uw x (l.take (i+1))=vP (uw x (l.take i)) l[i]:=by
 unfold uw
 rw [List.take_succ_eq_append_getElem h,List.foldl_append];rfl
theorem ae5 {x:vF} {l:List vF} (hl:l.length≤1000000) {st:St} (h:st.head [0,1,4,5,6] st.boxes.length=some ⟨sl 33 [(0,.pv (.list 3 ((x :: l).map Dw))),(1,.pv (.func 69 [])),(4,.aQ 0 0),(5,.aQ 1 0),(6,.pv (.int .i64 (((0:Nat)+1:Nat):Int)))],[⟨false,bEd (0,0,0)⟩,⟨false,bEd (uw x (l.take ((0:Nat))))⟩],[],none⟩) :
  den env IZ st=some (.normal,⟨sl 33 [(4,.aQ 0 0),(5,.aQ 1 0)],[⟨false,bEd (0,0,0)⟩,⟨false,bEd (uw x l)⟩],[],none⟩):=by
 unfold IZ
 refine bH (env:=env) (nb:=2) (l.length) (fun i=>⟨sl 33 [(0,.pv (.list 3 ((x :: l).map Dw))),(1,.pv (.func 69 [])),(4,.aQ 0 0),(5,.aQ 1 0),(6,.pv (.int .i64 ((i+1:Nat):Int)))],[⟨false,bEd (0,0,0)⟩,⟨false,bEd (uw x (l.take (i)))⟩],[],none⟩) (fun i=>some (.normal,⟨sl 33 [(4,.aQ 0 0),(5,.aQ 1 0)],[⟨false,bEd (0,0,0)⟩,⟨false,bEd (uw x l)⟩],[],none⟩)) h (fun _=>rfl) (fun _=>by simp only [aO,bJ,Nat.reduceMul,Nat.reduceBEq,Nat.reduceLT,Nat.reduceLeDiff,Nat.reduceAdd,decide_true,Bool.and_self,Bool.true_and]) ?_ ?_
 ·intro i rb hi ih
  have hlim:lim=1073741824:=rfl
  have hi1:=bD (i:=i+1) (n:=l.length+2) (by omega) (by omega)
  have F1:(((i+1:Nat):Int)<((l.length+1:Nat):Int))=True:=eq_true (by omega)
  have hx:((x :: l).map Dw)[i+1]?=some (Dw l[i]):=by rw [List.map_cons,List.getElem?_cons_succ,List.getElem?_map,List.getElem?_eq_getElem hi];rfl
  have hI:index (.int .i64 ((i+1:Nat):Int)) (l.length+1)=some (i+1):=ah (by omega)
  have e1:=ahL (a:=l[i]) (b:=uw x (l.take i))
  have P3:∀ a b c:PV,part [a,b,c] 0 (some 3)=some (.agg [a,b,c]):=fun _ _ _=>rfl
  have hs:=U9 (x:=x) hi
  rw [qp,qp] at e1
  rw [qp] at hx
  have hL:((x :: l).map Dw).length=l.length+1:=by rw [List.length_map];rfl
  generalize (x :: l).map Dw=L at *
  unfold vP at hs
  by_cases c:Qp l[i] (uw x (l.take i))<0
  ·have G:=eq_true c
   rw [if_pos c] at hs
   simp only [Ak,F1,hx,hI,hL,G,P3,e1,yY,List.length_map,aA,Nat.reduceMul,Nat.reduceBEq,Nat.reduceLT,Nat.reduceLeDiff,reduceCtorEq,Nat.reduceEqDiff,Nat.reduceAdd,Nat.beq]
   rw [ih _ (by simp only [hi1,hs,yY];simp only [aA,Nat.reduceMul,Nat.reduceBEq,Nat.reduceLT,Nat.reduceLeDiff,reduceCtorEq,Nat.reduceEqDiff,Nat.reduceAdd,Nat.beq]<;>rfl)]
   all_goals rfl
  ·have G:=eq_false c
   rw [if_neg c] at hs
   simp only [Ak,F1,hx,hI,hL,G,P3,e1,yY,List.length_map,aA,Nat.reduceMul,Nat.reduceBEq,Nat.reduceLT,Nat.reduceLeDiff,reduceCtorEq,Nat.reduceEqDiff,Nat.reduceAdd,Nat.beq]
   rw [ih _ (by simp only [hi1,hs,yY];simp only [aA,Nat.reduceMul,Nat.reduceBEq,Nat.reduceLT,Nat.reduceLeDiff,reduceCtorEq,Nat.reduceEqDiff,Nat.reduceAdd,Nat.beq]<;>rfl)]
   all_goals rfl
 ·intro rb
  rw [List.take_length]
  have F1:(((l.length+1:Nat):Int)<((l.length+1:Nat):Int))=False:=eq_false (Int.lt_irrefl _)
  have hL:((x :: l).map Dw).length=l.length+1:=by rw [List.length_map];rfl
  generalize (x :: l).map Dw=L at *
  simp only [Ak,F1,hL,yY,List.length_map,aA,Nat.reduceMul,Nat.reduceBEq,Nat.reduceLT,Nat.reduceLeDiff,reduceCtorEq,Nat.reduceEqDiff,Nat.reduceAdd,Nat.beq]
theorem ahM {x:vF} {l:List vF} (hl:l.length≤1000000):cal env 66 [.list 3 ((x :: l).map Dw),.func 69 []]=some [(Dw (uw x l),false)]:=by
 have hlim:lim=1073741824:=rfl
 have hL:=fun (st:St)=>ae5 (st:=st) (x:=x) (l:=l) hl
 rw [List.take_zero,show uw x []=x from rfl] at hL
 have hx:((x :: l).map Dw)[0]?=some (Dw x):=rfl
 have hl2:((x :: l).map Dw).length=l.length+1:=by rw [List.length_map];rfl
 have F1:(((l.length+1:Nat):Int)<1)=False:=eq_false (by omega)
 have hI:index (.int .i64 0) (l.length+1)=some 0:=ah (k:=.i64) (i:=0) (n:=l.length+1) (by omega)
 have P3:∀ a b c:PV,part [a,b,c] 0 (some 3)=some (.agg [a,b,c]):=fun _ _ _=>rfl
 rw [qp] at hx
 rw [qp]
 simp only [yY] at hL
 generalize (x :: l).map Dw=L at *
 rw [au agF rfl];simp only [Yb,aO,Nat.reduceBEq,Nat.reduceLeDiff,Nat.reduceAdd,List.length_cons,List.length_nil]
 simp only [hx,hl2,F1,hI,P3,List.length_map,aA,Nat.reduceMul,Nat.reduceBEq,Nat.reduceLT,Nat.reduceLeDiff,reduceCtorEq,Nat.reduceEqDiff,Nat.reduceAdd,Nat.beq]
 rw [hL _ (by simp only [aO,bJ,Nat.reduceMul,Nat.reduceBEq,Nat.reduceLT,Nat.reduceLeDiff,Nat.reduceAdd,decide_true,Bool.and_self,Bool.true_and]<;>rfl)]
 simp only [hx,hl2,F1,hI,P3,List.length_map,aA,Nat.reduceMul,Nat.reduceBEq,Nat.reduceLT,Nat.reduceLeDiff,reduceCtorEq,Nat.reduceEqDiff,Nat.reduceAdd,Nat.beq]
end Go.Proofs.YtaaokejjmdbfaaaDoor.V

namespace Go.Proofs.YtaaokejjmdbfaaaDoor.V
def qG (a b:vF):Prop:=a.1<b.1∨(a.1=b.1∧(a.2.1<b.2.1∨(a.2.1=b.2.1∧a.2.2<b.2.2)))
theorem Jz (x y:Int):(oO x y<0 ↔ x<y)∧(oO x y=0 ↔ x=y):=by
 unfold oO
 split
 ·constructor<;>constructor<;>intro h<;>omega
 ·split
  ·constructor<;>constructor<;>intro h<;>omega
  ·constructor<;>constructor<;>intro h<;>omega
theorem Ry (a b:vF):Qp a b<0 ↔ qG a b:=by
 have h1:=Jz a.1 b.1
 have h2:=Jz a.2.1 b.2.1
 have h3:=Jz a.2.2 b.2.2
 unfold Qp qG Qo
 by_cases c1:oO a.1 b.1=0
 ·have e1:=h1.2.1 c1
  rw [if_pos c1]
  unfold Qo
  by_cases c2:oO a.2.1 b.2.1=0
  ·have e2:=h2.2.1 c2
   rw [if_pos c2]
   unfold Qo
   by_cases c3:oO a.2.2 b.2.2=0
   ·have e3:=h3.2.1 c3
    rw [if_pos c3]
    unfold Qo
    omega
   ·rw [if_neg c3,h3.1]
    omega
  ·have n2:¬ a.2.1=b.2.1:=fun e=>c2 (h2.2.2 e)
   rw [if_neg c2,h2.1]
   omega
 ·have n1:¬ a.1=b.1:=fun e=>c1 (h1.2.2 e)
  rw [if_neg c1,h1.1]
  omega
theorem ZG (m y:vF):(vP m y=m∨vP m y=y)∧¬ qG y (vP m y)∧¬ qG m (vP m y):=by
 unfold vP
 by_cases c:Qp y m<0
 ·rw [if_pos c]
  have h:=(Ry y m).1 c
  refine ⟨.inr rfl,fun g=>?_,fun g=>?_⟩<;>(unfold qG at *;omega)
 ·rw [if_neg c]
  have h:=fun g=>c ((Ry y m).2 g)
  refine ⟨.inl rfl,h,fun g=>?_⟩
  unfold qG at g;omega
theorem Dx {a b c:vF} (h1:¬ qG b a) (h2:¬ qG c b):¬ qG c a:=by
 unfold qG at *;omega
theorem Nu:∀ (l:List vF) (x:vF),uw x l∈x :: l∧∀ y∈x :: l,¬ qG y (uw x l)
 |[],x=>⟨List.mem_singleton.2 rfl,fun y hy=>by rw [List.mem_singleton.1 hy];exact fun (h:qG x x)=>by unfold qG at h;omega⟩
 |z :: l,x=>by
  obtain ⟨h1,h2⟩:=Nu l (vP x z)
  obtain ⟨g1,g2,g3⟩:=ZG x z
  have e:uw x (z :: l)=uw (vP x z) l:=rfl
  rw [e]
  refine ⟨?_,fun y hy=>?_⟩
  ·rcases List.mem_cons.1 h1 with h|h
   ·rw [h]
    rcases g1 with g|g<;>rw [g]<;>simp
   ·simp [h]
  ·have h0:=h2 _ List.mem_cons_self
   rcases List.mem_cons.1 hy with rfl|hy
   ·exact Dx h0 g3
   ·rcases List.mem_cons.1 hy with rfl|hy
    ·exact Dx h0 g2
    ·exact h2 y (List.mem_cons_of_mem _ hy)
def fC (ins:List Bool) (i:Nat):Bool:=ins.getD i false
def Rz (w:Nat→Nat→Nat) (ins:List Bool) (i m:Nat):List vF:=((List.range m).filter fun k=>fC ins i&&!fC ins k).map fun k=>(((w i k:Nat):Int),(k:Int),(i:Int))
def JF (w:Nat→Nat→Nat) (ins:List Bool) (n m:Nat):List vF:=(List.range m).flatMap fun i=>Rz w ins i n
theorem ZH (w:Nat→Nat→Nat) (ins:List Bool) (i m:Nat):Rz w ins i (m+1)=if (fC ins i&&!fC ins m)=true then Rz w ins i m++[(((w i m:Nat):Int),(m:Int),(i:Int))] else Rz w ins i m:=by
 unfold Rz
 rw [List.range_succ,List.filter_append]
 by_cases c:(fC ins i&&!fC ins m)=true
 ·rw [if_pos c,List.filter_cons_of_pos (p:=fun k=>fC ins i&&!fC ins k) c,List.filter_nil,List.map_append];rfl
 ·rw [if_neg c,List.filter_cons_of_neg (p:=fun k=>fC ins i&&!fC ins k) c,List.filter_nil,List.append_nil]
theorem Nv (w:Nat→Nat→Nat) (ins:List Bool) (n m:Nat):JF w ins n (m+1)=JF w ins n m++Rz w ins m n:=by
 unfold JF
 rw [List.range_succ,List.flatMap_append]
 simp
theorem JA {w:Nat→Nat→Nat} {ins:List Bool} {n m:Nat} {e:vF}:e∈JF w ins n m ↔ ∃ i k:Nat,i<m∧k<n∧fC ins i=true∧fC ins k=false∧e=(((w i k:Nat):Int),(k:Int),(i:Int)):=by
 unfold JF Rz
 rw [List.mem_flatMap]
 constructor
 ·rintro ⟨i,h1,h2⟩
  obtain ⟨k,h3,rfl⟩:=List.mem_map.1 h2
  obtain ⟨h3,h4⟩:=List.mem_filter.1 h3
  rw [Bool.and_eq_true,Bool.not_eq_true'] at h4
  exact ⟨i,k,List.mem_range.1 h1,List.mem_range.1 h3,h4.1,h4.2,rfl⟩
 ·rintro ⟨i,k,h1,h2,h3,h4,rfl⟩
  exact ⟨i,List.mem_range.2 h1,List.mem_map.2 ⟨k,List.mem_filter.2 ⟨List.mem_range.2 h2,by rw [h3,h4];rfl⟩,rfl⟩⟩
theorem acn (w:Nat→Nat→Nat) (ins:List Bool) (i m:Nat):(Rz w ins i m).length≤m:=by
 unfold Rz
 rw [List.length_map]
 have:=List.length_filter_le (fun k=>fC ins i&&!fC ins k) (List.range m)
 rwa [List.length_range] at this
theorem JB (w:Nat→Nat→Nat) (ins:List Bool) (n:Nat):∀ m,(JF w ins n m).length≤m * n
 |0=>Nat.zero_le _
 |m+1=>by
  have h1:=JB w ins n m
  have h2:=acn w ins m n
  rw [Nv,List.length_append,Nat.succ_mul]
  omega
def vS (w:Nat→Nat→Nat) (n:Nat) (ins:List Bool):vF:=match JF w ins n n with
 |[]=>(0,0,0)
 |x :: l=>uw x l
theorem Dy {w:Nat→Nat→Nat} {n:Nat} {ins:List Bool} (h1:∃ i,i<n∧fC ins i=true) (h2:∃ k,k<n∧fC ins k=false) :
  (∃ x l,JF w ins n n=x :: l∧vS w n ins=uw x l)∧(∃ i k:Nat,i<n∧k<n∧fC ins i=true∧fC ins k=false∧vS w n ins=(((w i k:Nat):Int),(k:Int),(i:Int)))∧∀ i k,i<n→k<n→fC ins i=true→fC ins k=false→¬ qG (((w i k:Nat):Int),(k:Int),(i:Int)) (vS w n ins):=by
 obtain ⟨i,hi,gi⟩:=h1
 obtain ⟨k,hk,gk⟩:=h2
 have hm:(((w i k:Nat):Int),(k:Int),(i:Int))∈JF w ins n n:=JA.2 ⟨i,k,hi,hk,gi,gk,rfl⟩
 unfold vS
 cases h:JF w ins n n with
 |nil=>rw [h] at hm;cases hm
 |cons x l =>
  obtain ⟨q1,q2⟩:=Nu l x
  refine ⟨⟨x,l,rfl,rfl⟩,?_,fun i k hi hk gi gk=>?_⟩
  ·rw [← h] at q1
   exact JA.1 q1
  ·refine q2 _ ?_
   rw [← h]
   exact JA.2 ⟨i,k,hi,hk,gi,gk,rfl⟩
structure Prm where
 par:List Int
 ins:List Bool
 sum:Int
def RD (w:Nat→Nat→Nat) (n:Nat) (s:Prm):Prm:=⟨s.par.set (vS w n s.ins).2.1.toNat (vS w n s.ins).2.2,s.ins.set (vS w n s.ins).2.1.toNat true,s.sum+(vS w n s.ins).1⟩
def je (w:Nat→Nat→Nat) (n:Nat) (s:Prm):Nat→Prm
 |0=>s
 |k+1=>RD w n (je w n s k)
def jf (n root:Nat):Prm:=⟨(List.replicate n 0).set root (-1),(List.replicate n false).set root true,0⟩
theorem yj {ins:List Bool} {i k:Nat} {b:Bool} (h:i<ins.length):fC (ins.set i b) k=if k=i then b else fC ins k:=by
 unfold fC
 rw [List.getD_eq_getElem?_getD,List.getD_eq_getElem?_getD,List.getElem?_set]
 by_cases c:i=k
 ·subst c;rw [if_pos rfl,if_pos rfl,if_pos h];rfl
 ·rw [if_neg c,if_neg (fun e=>c e.symm)]
def JC (ins:List Bool) (n:Nat):Nat:=((List.range n).filter (fC ins)).length
theorem Dz {ins:List Bool} {i:Nat} (h:i<ins.length) (h0:fC ins i=false):∀ n,JC (ins.set i true) n=JC ins n+if i<n then 1 else 0
 |0=>rfl
 |n+1=>by
  have ih:=Dz h h0 n
  unfold JC at ih ⊢
  rw [List.range_succ,List.filter_append,List.filter_append,List.length_append,List.length_append,ih]
  by_cases c:n=i
  ·subst c
   have e1:fC (ins.set n true) n=true:=by rw [yj h,if_pos rfl]
   rw [List.filter_cons_of_pos e1,List.filter_cons_of_neg (by rw [h0];decide),if_neg (Nat.lt_irrefl _),if_pos (Nat.lt_succ_self _)]
   rfl
  ·have e1:fC (ins.set i true) n=fC ins n:=by rw [yj h,if_neg c]
   have e2:(if i<n+1 then 1 else 0)=if i<n then 1 else 0:=by split<;>split<;>omega
   rw [e2]
   cases g:fC ins n with
   |true=>rw [List.filter_cons_of_pos (by rw [e1,g]),List.filter_cons_of_pos g];show _+1=_+1+_;omega
   |false=>rw [List.filter_cons_of_neg (by rw [e1,g];decide),List.filter_cons_of_neg (by rw [g];decide)];rfl
theorem rP {ins:List Bool} {n:Nat} (h:JC ins n<n):∃ k,k<n∧fC ins k=false:=by
 apply Classical.byContradiction
 intro c
 have:(List.range n).filter (fC ins)=List.range n:=List.filter_eq_self.2 fun k hk=>by
  cases g:fC ins k with
  |true=>rfl
  |false=>exact absurd ⟨k,List.mem_range.1 hk,g⟩ c
 unfold JC at h
 rw [this,List.length_range] at h
 exact Nat.lt_irrefl _ h
theorem Va (n:Nat) {ins:List Bool} (h:∀ k,fC ins k=false):JC ins n=0:=by
 unfold JC
 rw [List.filter_eq_nil_iff.2 fun k _=>by rw [h k];decide];rfl
theorem yt (w:Nat→Nat→Nat) {n root:Nat} (hr:root<n) {M:Nat} (hM:∀ i k,w i k≤M):∀ k,k<n→(je w n (jf n root) k).par.length=n∧(je w n (jf n root) k).ins.length=n∧JC (je w n (jf n root) k).ins n=k+1∧fC (je w n (jf n root) k).ins root=true∧0≤(je w n (jf n root) k).sum∧(je w n (jf n root) k).sum≤(k:Int) * (M:Int)
 |0,h=>by
  have hz:∀ k,fC (List.replicate n false) k=false:=fun k=>by
   unfold fC
   rw [List.getD_eq_getElem?_getD,List.getElem?_replicate]
   split<;>rfl
  refine ⟨by simp [je,jf],by simp [je,jf],?_,?_,Int.le_refl _,by simp [je,jf]⟩
  ·show JC ((List.replicate n false).set root true) n=_
   rw [Dz (by simp [hr]) (hz _),Va n hz,if_pos hr]
  ·show fC ((List.replicate n false).set root true) root=true
   rw [yj (by simp [hr]),if_pos rfl]
 |k+1,h=>by
  obtain ⟨h1,h2,h3,h4,h5,h6⟩:=yt w hr hM k (by omega)
  obtain ⟨_,⟨i,j,q1,q2,q3,q4,q5⟩,_⟩:=Dy (w:=w) (n:=n) (ins:=(je w n (jf n root) k).ins) ⟨root,hr,h4⟩ (rP (by omega))
  have hw:=hM i j
  unfold je RD
  rw [q5]
  simp only [Int.toNat_natCast]
  refine ⟨by rw [List.length_set];exact h1,by rw [List.length_set];exact h2,?_,?_,by omega,?_⟩
  ·rw [Dz (by omega) q4,h3,if_pos q2]
  ·rw [yj (by omega)];split
   ·rfl
   ·exact h4
  ·have:((k+1:Nat):Int) * (M:Int)=(k:Int) * (M:Int)+(M:Int):=by rw [Int.natCast_add,Int.add_mul];simp
   rw [this]
   have:((w i j:Nat):Int)≤(M:Int):=by omega
   omega
theorem DC {w:Nat→Nat→Nat} {n i k j:Nat} {s:Prm} {x:Int} (h:vS w n (je w n s i).ins=(x,(k:Int),(j:Int))):je w n s (i+1)=⟨(je w n s i).par.set k (j:Int),(je w n s i).ins.set k true,(je w n s i).sum+x⟩:=by
 show RD w n (je w n s i)=_
 unfold RD
 rw [h]
 simp only [Int.toNat_natCast]
end Go.Proofs.YtaaokejjmdbfaaaDoor.V
