/-
  Part 7 of the texts that the statement stands on.
-/
import Derived.Test.YtaaokejjmdbfaaaDoorZ6
set_option linter.all false
namespace Go.Proofs.YtaaokejjmdbfaaaDoor.V
theorem Ob:cal env 12 []=some [(.bool true,false)]:=EW (n:=200) (by kernel_rfl)
end Go.Proofs.YtaaokejjmdbfaaaDoor.V

namespace Go.Proofs.YtaaokejjmdbfaaaDoor.V
theorem ad8 (p:Nat→Bool) {n:Nat} (h:n≤4096):okX (ext p n):=⟨Nat.le_trans (NR p n) h,fun x hx=>by have:=adL p n x hx;omega⟩
theorem Ed {a:Pt} (h:gW a.img=0) (v:Nat):jM a v≤4096:=zL h v
theorem agP {a b:Pt} (h:gW a.img=0) (n:Nat):∀ x∈BG a b n,okX x:=fun x hx=>by
 unfold BG at hx
 obtain ⟨i,hi,rfl⟩:=List.mem_map.1 hx
 exact ad8 _ (Ed h i)
theorem agQ {a n:Nat} (h:0<n):((a:Int).tmod (n:Int))=((a % n:Nat):Int):=by
 rw [Int.tmod_eq_emod_of_nonneg (by omega)];omega
end Go.Proofs.YtaaokejjmdbfaaaDoor.V

namespace Go.Proofs.YtaaokejjmdbfaaaDoor.V
theorem Oc (a b:Pt):∀ n,zH (BG a b n)=(qL a b n:Int)
 |0=>rfl
 |n+1=>by
  have ih:=Oc a b n
  rw [DW]
  unfold zH at ih ⊢
  rw [List.map_append,List.sum_append,ih]
  show _+(lK (ext (mk2 a b n) (jM a n))+0)=_
  rw [NS,Int.add_zero]
  rfl
set_option maxRecDepth 20000 in
theorem agR {ds:List lQ} {D:List PV} {n13 n14 n:Int} {A B:List BV} (hd:ds.length≤4096) (hd2:∀ x∈ds,0≤x.start∧0≤x.count∧x.start+x.count≤4096) (hn:0≤n∧n≤1000000000) (hc:∀ i,0≤lK (ds.take i)∧lK (ds.take i)≤16777216) {st:St} (h:st.head [5,7,12,13,14,17,18,19,20] st.boxes.length=some ⟨sl 31 [(5,.pv (.int .i64 (n+lK (ds.take ((0:Nat)))))),(7,.pv (.list 2 (ds.map gu))),(12,.row 1 D),(13,.pv (.int .i64 n13)),(14,.pv (.int .i64 n14)),(17,.pv (.list 2 (ds.map gu))),(18,.pv (.list 2 (ds.map gu))),(19,.pv (.int .i64 ds.length)),(20,.pv (.int .i64 (0:Nat)))],[⟨false,A⟩,⟨false,B⟩],[],none⟩) :
  den env Jy st=some (.normal,⟨sl 31 [(4,.any),(5,.pv (.int .i64 (n+lK ds))),(12,.row 1 D),(13,.pv (.int .i64 n13)),(14,.pv (.int .i64 n14))],[⟨false,A⟩,⟨false,B⟩],[],none⟩):=by
 unfold Jy
 refine bJ (env:=env) (nb:=2) (ds.length) (fun i=>⟨sl 31 [(5,.pv (.int .i64 (n+lK (ds.take (i))))),(7,.pv (.list 2 (ds.map gu))),(12,.row 1 D),(13,.pv (.int .i64 n13)),(14,.pv (.int .i64 n14)),(17,.pv (.list 2 (ds.map gu))),(18,.pv (.list 2 (ds.map gu))),(19,.pv (.int .i64 ds.length)),(20,.pv (.int .i64 i))],[⟨false,A⟩,⟨false,B⟩],[],none⟩) (fun i=>some (.normal,⟨sl 31 [(4,.any),(5,.pv (.int .i64 (n+lK ds))),(12,.row 1 D),(13,.pv (.int .i64 n13)),(14,.pv (.int .i64 n14))],[⟨false,A⟩,⟨false,B⟩],[],none⟩)) h (fun _=>rfl) (fun _=>by simp only [aG,bD,Nat.reduceMul,Nat.reduceBEq,Nat.reduceLT,Nat.reduceLeDiff,Nat.reduceAdd,decide_true,Bool.and_self,Bool.true_and]) ?_ ?_
 ·intro i rb hi ih
  have hlim:lim=1073741824:=rfl
  have hi1:=bP hi (by omega)
  have F1:((i:Int)<(ds.length:Int))=True:=eq_true (by omega)
  have hx:(ds.map gu)[i]?=some (.agg [.int .i64 ds[i].start,.int .i64 ds[i].count]):=by rw [List.getElem?_map,List.getElem?_eq_getElem hi];rfl
  have hq:=hd2 _ (List.getElem_mem hi)
  have h1:=hc i
  have hs:=WL hi
  have W1:IntKind.i64.wrap (n+lK (ds.take i)+ds[i].count)=n+lK (ds.take i)+ds[i].count:=bF (by omega)
  have P2:∀ a b:PV,part [a,b] 0 (some 2)=some (.agg [a,b]):=fun _ _=>rfl
  simp only [Jw,F1,hx,P2,W1,ah hi,List.length_map,aB,Nat.reduceMul,Nat.reduceBEq,Nat.reduceLT,Nat.reduceLeDiff,reduceCtorEq,Nat.reduceEqDiff,Nat.reduceAdd,Nat.beq]
  rw [ih _ (by simp only [hi1];rw [hs,← Int.add_assoc];simp only [aB,Nat.reduceMul,Nat.reduceBEq,Nat.reduceLT,Nat.reduceLeDiff,reduceCtorEq,Nat.reduceEqDiff,Nat.reduceAdd,Nat.beq]<;>rfl)]
  all_goals rfl
 ·intro rb
  rw [List.take_length]
  simp only [Jw,Int.lt_irrefl,List.length_map,aB,Nat.reduceMul,Nat.reduceBEq,Nat.reduceLT,Nat.reduceLeDiff,reduceCtorEq,Nat.reduceEqDiff,Nat.reduceAdd,Nat.beq]
set_option maxRecDepth 20000 in
theorem aa0 {dl:List (List lQ)} {A B:List BV} (hl:dl.length≤8) (hD:∀ x∈dl,okX x) {st:St} (h:st.head [5,12,13,14] st.boxes.length=some ⟨sl 31 [(5,.pv (.int .i64 (zH (dl.take ((0:Nat)))))),(12,.row 1 (dl.map sQ)),(13,.pv (.int .i64 dl.length)),(14,.pv (.int .i64 (0:Nat)))],[⟨false,A⟩,⟨false,B⟩],[],none⟩) :
  den env JA st=some (.normal,⟨sl 31 [(4,.any),(5,.pv (.int .i64 (zH dl)))],[⟨false,A⟩,⟨false,B⟩],[],none⟩):=by
 unfold JA
 refine bJ (env:=env) (nb:=2) (dl.length) (fun i=>⟨sl 31 [(5,.pv (.int .i64 (zH (dl.take (i))))),(12,.row 1 (dl.map sQ)),(13,.pv (.int .i64 dl.length)),(14,.pv (.int .i64 i))],[⟨false,A⟩,⟨false,B⟩],[],none⟩) (fun i=>some (.normal,⟨sl 31 [(4,.any),(5,.pv (.int .i64 (zH dl)))],[⟨false,A⟩,⟨false,B⟩],[],none⟩)) h (fun _=>rfl) (fun _=>by simp only [aG,bD,Nat.reduceMul,Nat.reduceBEq,Nat.reduceLT,Nat.reduceLeDiff,Nat.reduceAdd,decide_true,Bool.and_self,Bool.true_and]) ?_ ?_
 ·intro i rb hi ih
  have hlim:lim=1073741824:=rfl
  have hi1:=bP hi (by omega)
  have F1:((i:Int)<(dl.length:Int))=True:=eq_true (by omega)
  have hx:=adM hi
  have b1:=NV hD i
  have k1:=hD _ (List.getElem_mem hi)
  have hs:=GV hi
  have hL:=fun (st:St)=>agR (st:=st) (ds:=dl[i]) (D:=dl.map sQ) (n13:=(dl.length:Int)) (n14:=(i:Int)) (n:=zH (dl.take i)) (A:=A) (B:=B) k1.1 k1.2 (by omega) (NU k1)
  rw [List.take_zero,show lK []=0 from rfl,Int.add_zero] at hL
  simp only [Jz,F1,hx,ah hi,List.length_map,aB,Nat.reduceMul,Nat.reduceBEq,Nat.reduceLT,Nat.reduceLeDiff,reduceCtorEq,Nat.reduceEqDiff,Nat.reduceAdd,Nat.beq]
  rw [hL _ (by simp only [aG,bD,Nat.reduceMul,Nat.reduceBEq,Nat.reduceLT,Nat.reduceLeDiff,Nat.reduceAdd,decide_true,Bool.and_self,Bool.true_and]<;>rfl)]
  simp only [List.length_map,aB,Nat.reduceMul,Nat.reduceBEq,Nat.reduceLT,Nat.reduceLeDiff,reduceCtorEq,Nat.reduceEqDiff,Nat.reduceAdd,Nat.beq]
  rw [ih _ (by simp only [hi1];rw [hs];simp only [aB,Nat.reduceMul,Nat.reduceBEq,Nat.reduceLT,Nat.reduceLeDiff,reduceCtorEq,Nat.reduceEqDiff,Nat.reduceAdd,Nat.beq]<;>rfl)]
  all_goals rfl
 ·intro rb
  rw [List.take_length]
  simp only [Jz,Int.lt_irrefl,List.length_map,aB,Nat.reduceMul,Nat.reduceBEq,Nat.reduceLT,Nat.reduceLeDiff,reduceCtorEq,Nat.reduceEqDiff,Nat.reduceAdd,Nat.beq]
theorem ai3 {a b:Pt} (ha:nR a=0) (hb:nR b=0) (hs:bn a.img=bn b.img):cal env 92 [eP a,eP b]=some [(.int .i64 (qL a b a.img.length),false)]:=by
 have hlim:lim=1073741824:=rfl
 have iA:=(oh ha).2.1
 have lA:=mO iA
 have e1:=ai1 ha hb hs (by omega)
 have hbl:=yM a b a.img.length
 have P4:∀ a b c d:PV,part [a,b,c,d] 0 (some 4)=some (.agg [a,b,c,d]):=fun _ _ _ _=>rfl
 have hL:=fun (st:St) (A B:List BV)=>aa0 (st:=st) (dl:=BG a b a.img.length) (A:=A) (B:=B) (by omega) (agP iA _)
 rw [Oc,List.take_zero,show zH []=0 from rfl] at hL
 rw [gK,gK] at e1
 rw [gK,gK]
 rw [au aip rfl];simp only [ZP,aG,Nat.reduceBEq,Nat.reduceLeDiff,Nat.reduceAdd,List.length_cons,List.length_nil]
 simp only [e1,P4,List.length_map,aB,Nat.reduceMul,Nat.reduceBEq,Nat.reduceLT,Nat.reduceLeDiff,reduceCtorEq,Nat.reduceEqDiff,Nat.reduceAdd,Nat.beq]
 rw [hL _ _ _ (by simp only [aG,bD,Nat.reduceMul,Nat.reduceBEq,Nat.reduceLT,Nat.reduceLeDiff,Nat.reduceAdd,decide_true,Bool.and_self,Bool.true_and]<;>rfl)]
 simp only [e1,P4,List.length_map,aB,Nat.reduceMul,Nat.reduceBEq,Nat.reduceLT,Nat.reduceLeDiff,reduceCtorEq,Nat.reduceEqDiff,Nat.reduceAdd,Nat.beq]
end Go.Proofs.YtaaokejjmdbfaaaDoor.V

namespace Go.Proofs.YtaaokejjmdbfaaaDoor.V
end Go.Proofs.YtaaokejjmdbfaaaDoor.V

namespace Go.Proofs.YtaaokejjmdbfaaaDoor.V
end Go.Proofs.YtaaokejjmdbfaaaDoor.V

namespace Go.Proofs.YtaaokejjmdbfaaaDoor.V
def pG (x y:Int):Int:=if x<y then -1 else if y<x then 1 else 0
theorem aa1 {x:Int}:cal env 106 [.int .i64 x]=some [(.bool false,false)]:=by
 have N:(x != x)=false:=by simp
 rw [au afX rfl];simp only [Np,aG,Nat.reduceBEq,Nat.reduceLeDiff,Nat.reduceAdd,List.length_cons,List.length_nil]
 simp only [N,aB,Nat.reduceMul,Nat.reduceBEq,Nat.reduceLT,Nat.reduceLeDiff,reduceCtorEq,Nat.reduceEqDiff,Nat.reduceAdd,Nat.beq]
theorem aa2 {x y:Int}:cal env 88 [.int .i64 x,.int .i64 y]=some [(.int .i64 (pG x y),false)]:=by
 have e1:=aa1 (x:=x)
 have e2:=aa1 (x:=y)
 unfold pG
 by_cases c1:x<y
 ·have G1:(x<y)=True:=eq_true c1
  rw [if_pos c1]
  rw [au ZR rfl];simp only [QU,aG,Nat.reduceBEq,Nat.reduceLeDiff,Nat.reduceAdd,List.length_cons,List.length_nil]
  simp only [e1,e2,G1,aB,Nat.reduceMul,Nat.reduceBEq,Nat.reduceLT,Nat.reduceLeDiff,reduceCtorEq,Nat.reduceEqDiff,Nat.reduceAdd,Nat.beq]
 ·have G1:(x<y)=False:=eq_false c1
  rw [if_neg c1]
  by_cases c2:y<x
  ·have G2:(x > y)=True:=eq_true c2
   rw [if_pos c2]
   rw [au ZR rfl];simp only [QU,aG,Nat.reduceBEq,Nat.reduceLeDiff,Nat.reduceAdd,List.length_cons,List.length_nil]
   simp only [e1,e2,G1,G2,aB,Nat.reduceMul,Nat.reduceBEq,Nat.reduceLT,Nat.reduceLeDiff,reduceCtorEq,Nat.reduceEqDiff,Nat.reduceAdd,Nat.beq]
  ·have G2:(x > y)=False:=eq_false c2
   rw [if_neg c2]
   rw [au ZR rfl];simp only [QU,aG,Nat.reduceBEq,Nat.reduceLeDiff,Nat.reduceAdd,List.length_cons,List.length_nil]
   simp only [e1,e2,G1,G2,aB,Nat.reduceMul,Nat.reduceBEq,Nat.reduceLT,Nat.reduceLeDiff,reduceCtorEq,Nat.reduceEqDiff,Nat.reduceAdd,Nat.beq]
end Go.Proofs.YtaaokejjmdbfaaaDoor.V

namespace Go.Proofs.YtaaokejjmdbfaaaDoor.V
abbrev vV:=Int × Int × Int
def Ee (e:vV):PV:=.agg [.int .i64 e.1,.int .i64 e.2.1,.int .i64 e.2.2]
def bEd (e:vV):List BV:=[.pv (.int .i64 e.1),.pv (.int .i64 e.2.1),.pv (.int .i64 e.2.2)]
theorem qM (e:vV):Ee e=.agg [.int .i64 e.1,.int .i64 e.2.1,.int .i64 e.2.2]:=rfl
theorem zN (e:vV):bEd e=[.pv (.int .i64 e.1),.pv (.int .i64 e.2.1),.pv (.int .i64 e.2.2)]:=rfl
def RI:List Int→Int
 |[]=>0
 |x :: l=>if x=0 then RI l else x
def RJ (a b:vV):Int:=RI [pG a.1 b.1,pG a.2.1 b.2.1,pG a.2.2 b.2.2]
def aa3 (e:Int):Option (Ex × St):=if e=0 then some (.normal,⟨sl 18 [(2,.any),(3,.pv (.int .i64 0))],[],[],none⟩) else some (.ret,⟨sl 18 [(2,.pv (.int .i64 e)),(3,.pv (.int .i64 0))],[],[],none⟩)
theorem aa4 {l:List Int} {i:Nat} (h:i<l.length):RI (l.drop i)=if l[i]=0 then RI (l.drop (i+1)) else l[i]:=by
 rw [List.drop_eq_getElem_cons h,RI]
theorem agS {l:List Int} (hl:l.length≤lim) {st:St} (h:st.head [0,3,6,7,8] st.boxes.length=some ⟨sl 18 [(0,.pv (.list 1 (l.map eI))),(3,.pv (.int .i64 0)),(6,.pv (.list 1 (l.map eI))),(7,.pv (.int .i64 l.length)),(8,.pv (.int .i64 (0:Nat)))],[],[],none⟩) :
  den env JB st=aa3 (RI (l.drop ((0:Nat)))):=by
 unfold JB
 refine bJ (env:=env) (nb:=0) (l.length) (fun i=>⟨sl 18 [(0,.pv (.list 1 (l.map eI))),(3,.pv (.int .i64 0)),(6,.pv (.list 1 (l.map eI))),(7,.pv (.int .i64 l.length)),(8,.pv (.int .i64 i))],[],[],none⟩) (fun i=>aa3 (RI (l.drop (i)))) h (fun _=>rfl) (fun _=>by simp only [aG,bD,Nat.reduceMul,Nat.reduceBEq,Nat.reduceLT,Nat.reduceLeDiff,Nat.reduceAdd,decide_true,Bool.and_self,Bool.true_and]) ?_ ?_
 ·intro i rb hi ih
  have hi1:=bP hi hl
  have F1:((i:Int)<(l.length:Int))=True:=eq_true (by omega)
  have hx:(l.map eI)[i]?=some (.int .i64 l[i]):=by rw [List.getElem?_map,List.getElem?_eq_getElem hi];rfl
  rw [aa4 hi]
  by_cases c:l[i]=0
  ·have G:(l[i]==0)=true:=by simp [c]
   have G2:(l[i] != 0)=false:=by simp [c]
   rw [if_pos c]
   simp only [BF,F1,hx,G,G2,ah hi,List.length_map,aB,Nat.reduceMul,Nat.reduceBEq,Nat.reduceLT,Nat.reduceLeDiff,reduceCtorEq,Nat.reduceEqDiff,Nat.reduceAdd,Nat.beq]
   rw [ih _ (by simp only [hi1];simp only [aB,Nat.reduceMul,Nat.reduceBEq,Nat.reduceLT,Nat.reduceLeDiff,reduceCtorEq,Nat.reduceEqDiff,Nat.reduceAdd,Nat.beq]<;>rfl)]
  ·have G:(l[i]==0)=false:=by simp [c]
   have G2:(l[i] != 0)=true:=by simp [c]
   rw [if_neg c]
   unfold aa3
   rw [if_neg c]
   simp only [BF,F1,hx,G,G2,ah hi,List.length_map,aB,Nat.reduceMul,Nat.reduceBEq,Nat.reduceLT,Nat.reduceLeDiff,reduceCtorEq,Nat.reduceEqDiff,Nat.reduceAdd,Nat.beq]
 ·intro rb
  rw [List.drop_length]
  unfold RI aa3
  rw [if_pos rfl]
  simp only [BF,Int.lt_irrefl,List.length_map,aB,Nat.reduceMul,Nat.reduceBEq,Nat.reduceLT,Nat.reduceLeDiff,reduceCtorEq,Nat.reduceEqDiff,Nat.reduceAdd,Nat.beq]
theorem ai4 {l:List Int} (hl:l.length≤lim):cal env 93 [.list 1 (l.map eI)]=some [(.int .i64 (RI l),false)]:=by
 have hL:=fun (st:St)=>agS (st:=st) (l:=l) hl
 rw [List.drop_zero] at hL
 unfold aa3 at hL
 by_cases c:RI l=0
 ·rw [if_pos c] at hL
  rw [c]
  rw [au aeI rfl];simp only [VZ,aG,Nat.reduceBEq,Nat.reduceLeDiff,Nat.reduceAdd,List.length_cons,List.length_nil]
  simp only [List.length_map,aB,Nat.reduceMul,Nat.reduceBEq,Nat.reduceLT,Nat.reduceLeDiff,reduceCtorEq,Nat.reduceEqDiff,Nat.reduceAdd,Nat.beq]
  rw [hL _ (by simp only [aG,bD,Nat.reduceMul,Nat.reduceBEq,Nat.reduceLT,Nat.reduceLeDiff,Nat.reduceAdd,decide_true,Bool.and_self,Bool.true_and]<;>rfl)]
  simp only [List.length_map,aB,Nat.reduceMul,Nat.reduceBEq,Nat.reduceLT,Nat.reduceLeDiff,reduceCtorEq,Nat.reduceEqDiff,Nat.reduceAdd,Nat.beq]
 ·rw [if_neg c] at hL
  rw [au aeI rfl];simp only [VZ,aG,Nat.reduceBEq,Nat.reduceLeDiff,Nat.reduceAdd,List.length_cons,List.length_nil]
  simp only [List.length_map,aB,Nat.reduceMul,Nat.reduceBEq,Nat.reduceLT,Nat.reduceLeDiff,reduceCtorEq,Nat.reduceEqDiff,Nat.reduceAdd,Nat.beq]
  rw [hL _ (by simp only [aG,bD,Nat.reduceMul,Nat.reduceBEq,Nat.reduceLT,Nat.reduceLeDiff,Nat.reduceAdd,decide_true,Bool.and_self,Bool.true_and]<;>rfl)]
  simp only [List.length_map,aB,Nat.reduceMul,Nat.reduceBEq,Nat.reduceLT,Nat.reduceLeDiff,reduceCtorEq,Nat.reduceEqDiff,Nat.reduceAdd,Nat.beq]
theorem ai5 {a b:vV}:cal env 69 [Ee a,Ee b]=some [(.int .i64 (RJ a b),false)]:=by
 have e1:=aa2 (x:=a.1) (y:=b.1)
 have e2:=aa2 (x:=a.2.1) (y:=b.2.1)
 have e3:=aa2 (x:=a.2.2) (y:=b.2.2)
 have e4:=ai4 (l:=[pG a.1 b.1,pG a.2.1 b.2.1,pG a.2.2 b.2.2]) (by simp [lim])
 rw [show [pG a.1 b.1,pG a.2.1 b.2.1,pG a.2.2 b.2.2].map eI=[.int .i64 (pG a.1 b.1),.int .i64 (pG a.2.1 b.2.1),.int .i64 (pG a.2.2 b.2.2)] from rfl,show RI [pG a.1 b.1,pG a.2.1 b.2.1,pG a.2.2 b.2.2]=RJ a b from rfl] at e4
 rw [qM,qM]
 rw [au aia rfl];simp only [ZE,aG,Nat.reduceBEq,Nat.reduceLeDiff,Nat.reduceAdd,List.length_cons,List.length_nil]
 simp only [e1,e2,e3,e4,aB,Nat.reduceMul,Nat.reduceBEq,Nat.reduceLT,Nat.reduceLeDiff,reduceCtorEq,Nat.reduceEqDiff,Nat.reduceAdd,Nat.beq]
def wF (m y:vV):vV:=if RJ y m<0 then y else m
def uS (x:vV) (l:List vV):vV:=l.foldl wF x
theorem Xg {x:vV} {l:List vV} {i:Nat} (h:i<l.length):uS x (l.take (i+1))=wF (uS x (l.take i)) l[i]:=by
 unfold uS
 rw [List.take_succ_eq_append_getElem h,List.foldl_append];rfl
theorem agT {x:vV} {l:List vV} (hl:l.length≤1000000) {st:St} (h:st.head [0,1,4,5,6] st.boxes.length=some ⟨sl 33 [(0,.pv (.list 3 ((x :: l).map Ee))),(1,.pv (.func 69 [])),(4,.aA 0 0),(5,.aA 1 0),(6,.pv (.int .i64 (((0:Nat)+1:Nat):Int)))],[⟨false,bEd (0,0,0)⟩,⟨false,bEd (uS x (l.take ((0:Nat))))⟩],[],none⟩) :
  den env Jp st=some (.normal,⟨sl 33 [(4,.aA 0 0),(5,.aA 1 0)],[⟨false,bEd (0,0,0)⟩,⟨false,bEd (uS x l)⟩],[],none⟩):=by
 unfold Jp
 refine bJ (env:=env) (nb:=2) (l.length) (fun i=>⟨sl 33 [(0,.pv (.list 3 ((x :: l).map Ee))),(1,.pv (.func 69 [])),(4,.aA 0 0),(5,.aA 1 0),(6,.pv (.int .i64 ((i+1:Nat):Int)))],[⟨false,bEd (0,0,0)⟩,⟨false,bEd (uS x (l.take (i)))⟩],[],none⟩) (fun i=>some (.normal,⟨sl 33 [(4,.aA 0 0),(5,.aA 1 0)],[⟨false,bEd (0,0,0)⟩,⟨false,bEd (uS x l)⟩],[],none⟩)) h (fun _=>rfl) (fun _=>by simp only [aG,bD,Nat.reduceMul,Nat.reduceBEq,Nat.reduceLT,Nat.reduceLeDiff,Nat.reduceAdd,decide_true,Bool.and_self,Bool.true_and]) ?_ ?_
 ·intro i rb hi ih
  have hlim:lim=1073741824:=rfl
  have hi1:=bP (i:=i+1) (n:=l.length+2) (by omega) (by omega)
  have F1:(((i+1:Nat):Int)<((l.length+1:Nat):Int))=True:=eq_true (by omega)
  have hx:((x :: l).map Ee)[i+1]?=some (Ee l[i]):=by rw [List.map_cons,List.getElem?_cons_succ,List.getElem?_map,List.getElem?_eq_getElem hi];rfl
  have hI:index (.int .i64 ((i+1:Nat):Int)) (l.length+1)=some (i+1):=ah (by omega)
  have e1:=ai5 (a:=l[i]) (b:=uS x (l.take i))
  have P3:∀ a b c:PV,part [a,b,c] 0 (some 3)=some (.agg [a,b,c]):=fun _ _ _=>rfl
  have hs:=Xg (x:=x) hi
  rw [qM,qM] at e1
  rw [qM] at hx
  have hL:((x :: l).map Ee).length=l.length+1:=by rw [List.length_map];rfl
  generalize (x :: l).map Ee=L at *
  unfold wF at hs
  by_cases c:RJ l[i] (uS x (l.take i))<0
  ·have G:=eq_true c
   rw [if_pos c] at hs
   simp only [Bv,F1,hx,hI,hL,G,P3,e1,zN,List.length_map,aB,Nat.reduceMul,Nat.reduceBEq,Nat.reduceLT,Nat.reduceLeDiff,reduceCtorEq,Nat.reduceEqDiff,Nat.reduceAdd,Nat.beq]
   rw [ih _ (by simp only [hi1,hs,zN];simp only [aB,Nat.reduceMul,Nat.reduceBEq,Nat.reduceLT,Nat.reduceLeDiff,reduceCtorEq,Nat.reduceEqDiff,Nat.reduceAdd,Nat.beq]<;>rfl)]
   all_goals rfl
  ·have G:=eq_false c
   rw [if_neg c] at hs
   simp only [Bv,F1,hx,hI,hL,G,P3,e1,zN,List.length_map,aB,Nat.reduceMul,Nat.reduceBEq,Nat.reduceLT,Nat.reduceLeDiff,reduceCtorEq,Nat.reduceEqDiff,Nat.reduceAdd,Nat.beq]
   rw [ih _ (by simp only [hi1,hs,zN];simp only [aB,Nat.reduceMul,Nat.reduceBEq,Nat.reduceLT,Nat.reduceLeDiff,reduceCtorEq,Nat.reduceEqDiff,Nat.reduceAdd,Nat.beq]<;>rfl)]
   all_goals rfl
 ·intro rb
  rw [List.take_length]
  have F1:(((l.length+1:Nat):Int)<((l.length+1:Nat):Int))=False:=eq_false (Int.lt_irrefl _)
  have hL:((x :: l).map Ee).length=l.length+1:=by rw [List.length_map];rfl
  generalize (x :: l).map Ee=L at *
  simp only [Bv,F1,hL,zN,List.length_map,aB,Nat.reduceMul,Nat.reduceBEq,Nat.reduceLT,Nat.reduceLeDiff,reduceCtorEq,Nat.reduceEqDiff,Nat.reduceAdd,Nat.beq]
theorem ai6 {x:vV} {l:List vV} (hl:l.length≤1000000):cal env 66 [.list 3 ((x :: l).map Ee),.func 69 []]=some [(Ee (uS x l),false)]:=by
 have hlim:lim=1073741824:=rfl
 have hL:=fun (st:St)=>agT (st:=st) (x:=x) (l:=l) hl
 rw [List.take_zero,show uS x []=x from rfl] at hL
 have hx:((x :: l).map Ee)[0]?=some (Ee x):=rfl
 have hl2:((x :: l).map Ee).length=l.length+1:=by rw [List.length_map];rfl
 have F1:(((l.length+1:Nat):Int)<1)=False:=eq_false (by omega)
 have hI:index (.int .i64 0) (l.length+1)=some 0:=ah (k:=.i64) (i:=0) (n:=l.length+1) (by omega)
 have P3:∀ a b c:PV,part [a,b,c] 0 (some 3)=some (.agg [a,b,c]):=fun _ _ _=>rfl
 rw [qM] at hx
 rw [qM]
 simp only [zN] at hL
 generalize (x :: l).map Ee=L at *
 rw [au ah7 rfl];simp only [ZA,aG,Nat.reduceBEq,Nat.reduceLeDiff,Nat.reduceAdd,List.length_cons,List.length_nil]
 simp only [hx,hl2,F1,hI,P3,List.length_map,aB,Nat.reduceMul,Nat.reduceBEq,Nat.reduceLT,Nat.reduceLeDiff,reduceCtorEq,Nat.reduceEqDiff,Nat.reduceAdd,Nat.beq]
 rw [hL _ (by simp only [aG,bD,Nat.reduceMul,Nat.reduceBEq,Nat.reduceLT,Nat.reduceLeDiff,Nat.reduceAdd,decide_true,Bool.and_self,Bool.true_and]<;>rfl)]
 simp only [hx,hl2,F1,hI,P3,List.length_map,aB,Nat.reduceMul,Nat.reduceBEq,Nat.reduceLT,Nat.reduceLeDiff,reduceCtorEq,Nat.reduceEqDiff,Nat.reduceAdd,Nat.beq]
end Go.Proofs.YtaaokejjmdbfaaaDoor.V

namespace Go.Proofs.YtaaokejjmdbfaaaDoor.V
def vW (a b:vV):Prop:=a.1<b.1∨(a.1=b.1∧(a.2.1<b.2.1∨(a.2.1=b.2.1∧a.2.2<b.2.2)))
theorem J7 (x y:Int):(pG x y<0 ↔ x<y)∧(pG x y=0 ↔ x=y):=by
 unfold pG
 split
 ·constructor<;>constructor<;>intro h<;>omega
 ·split
  ·constructor<;>constructor<;>intro h<;>omega
  ·constructor<;>constructor<;>intro h<;>omega
theorem TQ (a b:vV):RJ a b<0 ↔ vW a b:=by
 have h1:=J7 a.1 b.1
 have h2:=J7 a.2.1 b.2.1
 have h3:=J7 a.2.2 b.2.2
 unfold RJ vW RI
 by_cases c1:pG a.1 b.1=0
 ·have e1:=h1.2.1 c1
  rw [if_pos c1]
  unfold RI
  by_cases c2:pG a.2.1 b.2.1=0
  ·have e2:=h2.2.1 c2
   rw [if_pos c2]
   unfold RI
   by_cases c3:pG a.2.2 b.2.2=0
   ·have e3:=h3.2.1 c3
    rw [if_pos c3]
    unfold RI
    omega
   ·rw [if_neg c3,h3.1]
    omega
  ·have n2:¬ a.2.1=b.2.1:=fun e=>c2 (h2.2.2 e)
   rw [if_neg c2,h2.1]
   omega
 ·have n1:¬ a.1=b.1:=fun e=>c1 (h1.2.2 e)
  rw [if_neg c1,h1.1]
  omega
theorem aa5 (m y:vV):(wF m y=m∨wF m y=y)∧¬ vW y (wF m y)∧¬ vW m (wF m y):=by
 unfold wF
 by_cases c:RJ y m<0
 ·rw [if_pos c]
  have h:=(TQ y m).1 c
  refine ⟨.inr rfl,fun g=>?_,fun g=>?_⟩<;>(unfold vW at *;omega)
 ·rw [if_neg c]
  have h:=fun g=>c ((TQ y m).2 g)
  refine ⟨.inl rfl,h,fun g=>?_⟩
  unfold vW at g;omega
theorem Ef {a b c:vV} (h1:¬ vW b a) (h2:¬ vW c b):¬ vW c a:=by
 unfold vW at *;omega
theorem Oe:∀ (l:List vV) (x:vV),uS x l∈x :: l∧∀ y∈x :: l,¬ vW y (uS x l)
 |[],x=>⟨List.mem_singleton.2 rfl,fun y hy=>by rw [List.mem_singleton.1 hy];exact fun (h:vW x x)=>by unfold vW at h;omega⟩
 |z :: l,x=>by
  obtain ⟨h1,h2⟩:=Oe l (wF x z)
  obtain ⟨g1,g2,g3⟩:=aa5 x z
  have e:uS x (z :: l)=uS (wF x z) l:=rfl
  rw [e]
  refine ⟨?_,fun y hy=>?_⟩
  ·rcases List.mem_cons.1 h1 with h|h
   ·rw [h]
    rcases g1 with g|g<;>rw [g]<;>simp
   ·simp [h]
  ·have h0:=h2 _ List.mem_cons_self
   rcases List.mem_cons.1 hy with rfl|hy
   ·exact Ef h0 g3
   ·rcases List.mem_cons.1 hy with rfl|hy
    ·exact Ef h0 g2
    ·exact h2 y (List.mem_cons_of_mem _ hy)
def fZ (ins:List Bool) (i:Nat):Bool:=ins.getD i false
def TS (w:Nat→Nat→Nat) (ins:List Bool) (i m:Nat):List vV:=((List.range m).filter fun k=>fZ ins i&&!fZ ins k).map fun k=>(((w i k:Nat):Int),(k:Int),(i:Int))
def Kw (w:Nat→Nat→Nat) (ins:List Bool) (n m:Nat):List vV:=(List.range m).flatMap fun i=>TS w ins i n
theorem aa6 (w:Nat→Nat→Nat) (ins:List Bool) (i m:Nat):TS w ins i (m+1)=if (fZ ins i&&!fZ ins m)=true then TS w ins i m++[(((w i m:Nat):Int),(m:Int),(i:Int))] else TS w ins i m:=by
 unfold TS
 rw [List.range_succ,List.filter_append]
 by_cases c:(fZ ins i&&!fZ ins m)=true
 ·rw [if_pos c,List.filter_cons_of_pos (p:=fun k=>fZ ins i&&!fZ ins k) c,List.filter_nil,List.map_append];rfl
 ·rw [if_neg c,List.filter_cons_of_neg (p:=fun k=>fZ ins i&&!fZ ins k) c,List.filter_nil,List.append_nil]
theorem Og (w:Nat→Nat→Nat) (ins:List Bool) (n m:Nat):Kw w ins n (m+1)=Kw w ins n m++TS w ins m n:=by
 unfold Kw
 rw [List.range_succ,List.flatMap_append]
 simp
theorem J8 {w:Nat→Nat→Nat} {ins:List Bool} {n m:Nat} {e:vV}:e∈Kw w ins n m ↔ ∃ i k:Nat,i<m∧k<n∧fZ ins i=true∧fZ ins k=false∧e=(((w i k:Nat):Int),(k:Int),(i:Int)):=by
 unfold Kw TS
 rw [List.mem_flatMap]
 constructor
 ·rintro ⟨i,h1,h2⟩
  obtain ⟨k,h3,rfl⟩:=List.mem_map.1 h2
  obtain ⟨h3,h4⟩:=List.mem_filter.1 h3
  rw [Bool.and_eq_true,Bool.not_eq_true'] at h4
  exact ⟨i,k,List.mem_range.1 h1,List.mem_range.1 h3,h4.1,h4.2,rfl⟩
 ·rintro ⟨i,k,h1,h2,h3,h4,rfl⟩
  exact ⟨i,List.mem_range.2 h1,List.mem_map.2 ⟨k,List.mem_filter.2 ⟨List.mem_range.2 h2,by rw [h3,h4];rfl⟩,rfl⟩⟩
theorem aea (w:Nat→Nat→Nat) (ins:List Bool) (i m:Nat):(TS w ins i m).length≤m:=by
 unfold TS
 rw [List.length_map]
 have:=List.length_filter_le (fun k=>fZ ins i&&!fZ ins k) (List.range m)
 rwa [List.length_range] at this
theorem J9 (w:Nat→Nat→Nat) (ins:List Bool) (n:Nat):∀ m,(Kw w ins n m).length≤m * n
 |0=>Nat.zero_le _
 |m+1=>by
  have h1:=J9 w ins n m
  have h2:=aea w ins m n
  rw [Og,List.length_append,Nat.succ_mul]
  omega
def tu (w:Nat→Nat→Nat) (n:Nat) (ins:List Bool):vV:=match Kw w ins n n with
 |[]=>(0,0,0)
 |x :: l=>uS x l
theorem Eh {w:Nat→Nat→Nat} {n:Nat} {ins:List Bool} (h1:∃ i,i<n∧fZ ins i=true) (h2:∃ k,k<n∧fZ ins k=false) :
  (∃ x l,Kw w ins n n=x :: l∧tu w n ins=uS x l)∧(∃ i k:Nat,i<n∧k<n∧fZ ins i=true∧fZ ins k=false∧tu w n ins=(((w i k:Nat):Int),(k:Int),(i:Int)))∧∀ i k,i<n→k<n→fZ ins i=true→fZ ins k=false→¬ vW (((w i k:Nat):Int),(k:Int),(i:Int)) (tu w n ins):=by
 obtain ⟨i,hi,gi⟩:=h1
 obtain ⟨k,hk,gk⟩:=h2
 have hm:(((w i k:Nat):Int),(k:Int),(i:Int))∈Kw w ins n n:=J8.2 ⟨i,k,hi,hk,gi,gk,rfl⟩
 unfold tu
 cases h:Kw w ins n n with
 |nil=>rw [h] at hm;cases hm
 |cons x l =>
  obtain ⟨q1,q2⟩:=Oe l x
  refine ⟨⟨x,l,rfl,rfl⟩,?_,fun i k hi hk gi gk=>?_⟩
  ·rw [← h] at q1
   exact J8.1 q1
  ·refine q2 _ ?_
   rw [← h]
   exact J8.2 ⟨i,k,hi,hk,gi,gk,rfl⟩
structure Prm where
 par:List Int
 ins:List Bool
 sum:Int
def TU (w:Nat→Nat→Nat) (n:Nat) (s:Prm):Prm:=⟨s.par.set (tu w n s.ins).2.1.toNat (tu w n s.ins).2.2,s.ins.set (tu w n s.ins).2.1.toNat true,s.sum+(tu w n s.ins).1⟩
def dQ (w:Nat→Nat→Nat) (n:Nat) (s:Prm):Nat→Prm
 |0=>s
 |k+1=>TU w n (dQ w n s k)
def dw (n root:Nat):Prm:=⟨(List.replicate n 0).set root (-1),(List.replicate n false).set root true,0⟩
theorem rD {ins:List Bool} {i k:Nat} {b:Bool} (h:i<ins.length):fZ (ins.set i b) k=if k=i then b else fZ ins k:=by
 unfold fZ
 rw [List.getD_eq_getElem?_getD,List.getD_eq_getElem?_getD,List.getElem?_set]
 by_cases c:i=k
 ·subst c;rw [if_pos rfl,if_pos rfl,if_pos h];rfl
 ·rw [if_neg c,if_neg (fun e=>c e.symm)]
def Ko (ins:List Bool) (n:Nat):Nat:=((List.range n).filter (fZ ins)).length
theorem Ei {ins:List Bool} {i:Nat} (h:i<ins.length) (h0:fZ ins i=false):∀ n,Ko (ins.set i true) n=Ko ins n+if i<n then 1 else 0
 |0=>rfl
 |n+1=>by
  have ih:=Ei h h0 n
  unfold Ko at ih ⊢
  rw [List.range_succ,List.filter_append,List.filter_append,List.length_append,List.length_append,ih]
  by_cases c:n=i
  ·subst c
   have e1:fZ (ins.set n true) n=true:=by rw [rD h,if_pos rfl]
   rw [List.filter_cons_of_pos e1,List.filter_cons_of_neg (by rw [h0];decide),if_neg (Nat.lt_irrefl _),if_pos (Nat.lt_succ_self _)]
   rfl
  ·have e1:fZ (ins.set i true) n=fZ ins n:=by rw [rD h,if_neg c]
   have e2:(if i<n+1 then 1 else 0)=if i<n then 1 else 0:=by split<;>split<;>omega
   rw [e2]
   cases g:fZ ins n with
   |true=>rw [List.filter_cons_of_pos (by rw [e1,g]),List.filter_cons_of_pos g];show _+1=_+1+_;omega
   |false=>rw [List.filter_cons_of_neg (by rw [e1,g];decide),List.filter_cons_of_neg (by rw [g];decide)];rfl
theorem sW {ins:List Bool} {n:Nat} (h:Ko ins n<n):∃ k,k<n∧fZ ins k=false:=by
 apply Classical.byContradiction
 intro c
 have:(List.range n).filter (fZ ins)=List.range n:=List.filter_eq_self.2 fun k hk=>by
  cases g:fZ ins k with
  |true=>rfl
  |false=>exact absurd ⟨k,List.mem_range.1 hk,g⟩ c
 unfold Ko at h
 rw [this,List.length_range] at h
 exact Nat.lt_irrefl _ h
theorem Xh (n:Nat) {ins:List Bool} (h:∀ k,fZ ins k=false):Ko ins n=0:=by
 unfold Ko
 rw [List.filter_eq_nil_iff.2 fun k _=>by rw [h k];decide];rfl
theorem yY (w:Nat→Nat→Nat) {n root:Nat} (hr:root<n) {M:Nat} (hM:∀ i k,w i k≤M):∀ k,k<n→(dQ w n (dw n root) k).par.length=n∧(dQ w n (dw n root) k).ins.length=n∧Ko (dQ w n (dw n root) k).ins n=k+1∧fZ (dQ w n (dw n root) k).ins root=true∧0≤(dQ w n (dw n root) k).sum∧(dQ w n (dw n root) k).sum≤(k:Int) * (M:Int)
 |0,h=>by
  have hz:∀ k,fZ (List.replicate n false) k=false:=fun k=>by
   unfold fZ
   rw [List.getD_eq_getElem?_getD,List.getElem?_replicate]
   split<;>rfl
  refine ⟨by simp [dQ,dw],by simp [dQ,dw],?_,?_,Int.le_refl _,by simp [dQ,dw]⟩
  ·show Ko ((List.replicate n false).set root true) n=_
   rw [Ei (by simp [hr]) (hz _),Xh n hz,if_pos hr]
  ·show fZ ((List.replicate n false).set root true) root=true
   rw [rD (by simp [hr]),if_pos rfl]
 |k+1,h=>by
  obtain ⟨h1,h2,h3,h4,h5,h6⟩:=yY w hr hM k (by omega)
  obtain ⟨_,⟨i,j,q1,q2,q3,q4,q5⟩,_⟩:=Eh (w:=w) (n:=n) (ins:=(dQ w n (dw n root) k).ins) ⟨root,hr,h4⟩ (sW (by omega))
  have hw:=hM i j
  unfold dQ TU
  rw [q5]
  simp only [Int.toNat_natCast]
  refine ⟨by rw [List.length_set];exact h1,by rw [List.length_set];exact h2,?_,?_,by omega,?_⟩
  ·rw [Ei (by omega) q4,h3,if_pos q2]
  ·rw [rD (by omega)];split
   ·rfl
   ·exact h4
  ·have:((k+1:Nat):Int) * (M:Int)=(k:Int) * (M:Int)+(M:Int):=by rw [Int.natCast_add,Int.add_mul];simp
   rw [this]
   have:((w i j:Nat):Int)≤(M:Int):=by omega
   omega
theorem Ej {w:Nat→Nat→Nat} {n i k j:Nat} {s:Prm} {x:Int} (h:tu w n (dQ w n s i).ins=(x,(k:Int),(j:Int))):dQ w n s (i+1)=⟨(dQ w n s i).par.set k (j:Int),(dQ w n s i).ins.set k true,(dQ w n s i).sum+x⟩:=by
 show TU w n (dQ w n s i)=_
 unfold TU
 rw [h]
 simp only [Int.toNat_natCast]
theorem Oh {w:Nat→Nat→Nat} {n i k j:Nat} {s:Prm} {x:Int} (h:tu w n (dQ w n s i).ins=(x,(k:Int),(j:Int))):dQ w n s (i+1)=⟨(dQ w n s i).par.set k (j:Int),(dQ w n s i).ins.set k true,(dQ w n s i).sum+x⟩:=Ej h
end Go.Proofs.YtaaokejjmdbfaaaDoor.V
