/-
  Part 10 of the texts that the statement stands on.
-/
import Derived.Test.YtpcncggjmabnaaaGreatDoorZ9
set_option linter.all false
namespace Go.Proofs.YtpcncggjmabnaaaGreatDoor.V
structure JU (im:jl) (l:List (List uw)):Prop where
 ln:l.length≤im.length
 ml:im.length≤1000
 vo:∀ v∈im,v.length≤4096
 xl:∀ x∈l,x.length≤4096
 fx:∀ v (h:v<l.length),∀ e∈l[v],0≤e.start∧1≤e.count∧e.start+e.count≤((im.getD v []).length:Int)
theorem wV {im:jl} {l:List (List uw)} {k:Nat} (h:∀ x∈l,x.length≤k):∀ n,(vW im l n).length≤k * n
 |0=>by simp [vW]
 |n+1=>by
  rw [AX,List.length_append]
  have h1:=wV (im:=im) h n
  have h2:(BM im n (l.getD n [])).length≤k:=by
   unfold BM
   rw [List.length_map,List.getD_eq_getElem?_getD]
   cases e:l[n]? with
   |none=>simp
   |some x=>exact h x (List.mem_of_getElem? e)
  rw [Nat.mul_add,Nat.mul_one];omega
theorem oW {im:jl} {v:Nat} (h:v<im.length):(im.map bC)[v]?=some (.list 8 (im[v].map lW)):=by rw [List.getElem?_map,List.getElem?_eq_getElem h];rfl
theorem OM {im:jl} {l:List (List uw)} (h:JU im l) {v i:Nat} (hv:v<l.length) (hi:i<l[v].length):∃ GX:v<im.length,
  (0≤l[v][i].start∧l[v][i].start≤((l[v][i].start+l[v][i].count).toNat:Int))∧(0≤l[v][i].start+l[v][i].count∧l[v][i].start+l[v][i].count≤(im[v].length:Int))∧IntKind.i64.wrap (l[v][i].start+l[v][i].count)=l[v][i].start+l[v][i].count ∧
  (l[v][i].start+l[v][i].count).toNat - l[v][i].start.toNat=l[v][i].count.toNat∧(((im[v].map lW).drop l[v][i].start.toNat).take l[v][i].count.toNat).length≤lim∧(vW im l v++BM im v (l[v].take i)).length+1≤lim ∧
  (vW im l v++BM im v (l[v].take (i+1))).map iL=(vW im l v++BM im v (l[v].take i)).map iL++[.agg [.int .i64 (v:Int),.int .i64 l[v][i].start,.list 8 (((im[v].map lW).drop l[v][i].start.toNat).take l[v][i].count.toNat)]]:=by
 obtain ⟨h1,h2,h3,h4,h5⟩:=h
 have GX:v<im.length:=by omega
 obtain ⟨q1,q2,q3⟩:=h5 v hv _ (List.getElem_mem hi)
 have e8:im.getD v []=im[v]:=by simp [GX]
 rw [e8] at q3
 have hvl:=h3 _ (List.getElem_mem GX)
 have hN:=wV (im:=im) h4 v
 have hx:=h4 _ (List.getElem_mem hv)
 refine ⟨GX,by omega,by omega,bJ (by omega),by omega,by simp;unfold lim;omega,?_,?_⟩
 ·rw [List.length_append]
  have:(BM im v (l[v].take i)).length≤4096:=by unfold BM;rw [List.length_map,List.length_take];omega
  have:4096 * v≤4096 * 1000:=Nat.mul_le_mul_left _ (by omega)
  unfold lim;omega
 ·have e9:BM im v (l[v].take (i+1))=BM im v (l[v].take i)++[wOf im v l[v][i]]:=by
   unfold BM
   rw [List.take_succ_eq_append_getElem hi,List.map_append];rfl
  rw [e9];simp [iL,wOf,GX,List.map_take,List.map_drop]
theorem adB {im:jl} {l:List (List uw)} {dt:List Bm} {v:Nat} {y0 y1:PV} (h0:JU im l) (hv:v<l.length) {st:St} (h:st.head [0,1,5,6,10,11,12,18,19,20,43] st.boxes.length=some ⟨sl 47 [(0,.pv (.list 2 (dt.map iZ))),(1,.pv (.list 1 (im.map bC))),(5,.row 3 ((vW im l v++BM im v (l[v].take ((0:Nat)))).map iL)),(6,.pv (.int .i64 v)),(10,.pv (.list 2 (dt.map iZ))),(11,.pv (.int .i64 dt.length)),(12,.pv (.int .i64 v)),(18,.row 2 (l[v].map nG)),(19,.pv (.int .i64 l[v].length)),(20,.pv (.int .i64 (0:Nat))),(43,.any)],[⟨false,[.pv y0,.pv y1]⟩],[],none⟩) :
  den env FM st=some (.normal,⟨sl 47 [(0,.pv (.list 2 (dt.map iZ))),(1,.pv (.list 1 (im.map bC))),(4,.any),(5,.row 3 ((vW im l (v+1)).map iL)),(10,.pv (.list 2 (dt.map iZ))),(11,.pv (.int .i64 dt.length)),(12,.pv (.int .i64 v)),(43,.any)],[⟨false,[.pv y0,.pv y1]⟩],[],none⟩):=by
 unfold FM
 refine bF (env:=env) (nb:=1) (l[v].length) (fun i=>⟨sl 47 [(0,.pv (.list 2 (dt.map iZ))),(1,.pv (.list 1 (im.map bC))),(5,.row 3 ((vW im l v++BM im v (l[v].take (i))).map iL)),(6,.pv (.int .i64 v)),(10,.pv (.list 2 (dt.map iZ))),(11,.pv (.int .i64 dt.length)),(12,.pv (.int .i64 v)),(18,.row 2 (l[v].map nG)),(19,.pv (.int .i64 l[v].length)),(20,.pv (.int .i64 i)),(43,.any)],[⟨false,[.pv y0,.pv y1]⟩],[],none⟩) (fun i=>some (.normal,⟨sl 47 [(0,.pv (.list 2 (dt.map iZ))),(1,.pv (.list 1 (im.map bC))),(4,.any),(5,.row 3 ((vW im l (v+1)).map iL)),(10,.pv (.list 2 (dt.map iZ))),(11,.pv (.int .i64 dt.length)),(12,.pv (.int .i64 v)),(43,.any)],[⟨false,[.pv y0,.pv y1]⟩],[],none⟩)) h (fun _=>rfl) (fun _=>by simp only [aO,bG,Nat.reduceMul,Nat.reduceBEq,Nat.reduceLT,Nat.reduceLeDiff,Nat.reduceAdd,decide_true,Bool.and_self,Bool.true_and]) ?_ ?_
 ·intro i rb hi ih
  have hxl:=h0.xl _ (List.getElem_mem hv)
  have hi1:=bH hi (by unfold lim;omega)
  have F1:((i:Int)<(l[v].length:Int))=True:=eq_true (by omega)
  obtain ⟨GX,b1,b2,W,e6,f3,f2,e5⟩:=OM h0 hv hi
  have hx:=DN hi
  have hy:=oW GX
  have B1:=eq_true b1
  have B2:=eq_true b2
  have F2:=eq_true f2
  have e1:=XP (es:=((im[v].map lW).drop l[v][i].start.toNat).take l[v][i].count.toNat) f3
  rw [e5] at ih
  simp only [FK,F1,F2,hx,hy,nC,W,B1,B2,e6,e1,ak GX,ak hi,List.length_map,aI,Nat.reduceMul,Nat.reduceBEq,Nat.reduceLT,Nat.reduceLeDiff,reduceCtorEq,Nat.reduceEqDiff,Nat.reduceAdd,Nat.beq]
  rw [ih _ (by simp only [hi1,aI,Nat.reduceMul,Nat.reduceBEq,Nat.reduceLT,Nat.reduceLeDiff,reduceCtorEq,Nat.reduceEqDiff,Nat.reduceAdd,Nat.beq]<;>rfl)]
 ·intro rb
  have e9:vW im l v++BM im v l[v]=vW im l (v+1):=by rw [AX,show l.getD v []=l[v] by simp [hv]]
  rw [List.take_length,e9]
  simp only [FK,Int.lt_irrefl,List.length_map,aI,Nat.reduceMul,Nat.reduceBEq,Nat.reduceLT,Nat.reduceLeDiff,reduceCtorEq,Nat.reduceEqDiff,Nat.reduceAdd,Nat.beq]
theorem X3 {im:jl} {dt:List Bm} (h0:JU im (dt.map nJ)) {st:St} (h:st.head [0,1,5,10,11,12,43] st.boxes.length=some ⟨sl 47 [(0,.pv (.list 2 (dt.map iZ))),(1,.pv (.list 1 (im.map bC))),(5,.row 3 ((vW im (dt.map nJ) ((0:Nat))).map iL)),(10,.pv (.list 2 (dt.map iZ))),(11,.pv (.int .i64 dt.length)),(12,.pv (.int .i64 (0:Nat))),(43,.any)],[],[],none⟩) :
  den env FP st=some (.normal,⟨sl 47 [(4,.any),(5,.row 3 ((Gy im (dt.map nJ)).map iL))],[],[],none⟩):=by
 unfold FP
 refine bF (env:=env) (nb:=0) (dt.length) (fun i=>⟨sl 47 [(0,.pv (.list 2 (dt.map iZ))),(1,.pv (.list 1 (im.map bC))),(5,.row 3 ((vW im (dt.map nJ) (i)).map iL)),(10,.pv (.list 2 (dt.map iZ))),(11,.pv (.int .i64 dt.length)),(12,.pv (.int .i64 i)),(43,.any)],[],[],none⟩) (fun i=>some (.normal,⟨sl 47 [(4,.any),(5,.row 3 ((Gy im (dt.map nJ)).map iL))],[],[],none⟩)) h (fun _=>rfl) (fun _=>by simp only [aO,bG,Nat.reduceMul,Nat.reduceBEq,Nat.reduceLT,Nat.reduceLeDiff,Nat.reduceAdd,decide_true,Bool.and_self,Bool.true_and]) ?_ ?_
 ·intro i rb hi ih
  have hln:=h0.ln
  have him:=h0.ml
  rw [List.length_map] at hln
  have hi1:=bH hi (by unfold lim;omega)
  have F1:((i:Int)<(dt.length:Int))=True:=eq_true (by omega)
  have hx:=nD hi
  have hm:i<(dt.map nJ).length:=by rw [List.length_map];exact hi
  have e1:cal env 95 [.agg [.int .i64 dt[i].size,.list 1 (dt[i].ws.map eW)]]=_:=afp (b:=dt[i])
  rw [show nJ dt[i]=(dt.map nJ)[i] by rw [List.getElem_map]] at e1
  simp only [FN,F1,hx,e1,nC,ak hi,List.length_map,aI,Nat.reduceMul,Nat.reduceBEq,Nat.reduceLT,Nat.reduceLeDiff,reduceCtorEq,Nat.reduceEqDiff,Nat.reduceAdd,Nat.beq]
  rw [adB (im:=im) (l:=dt.map nJ) (dt:=dt) (v:=i) h0 hm (by simp only [List.take_zero,show BM im i []=[] from rfl,List.append_nil];simp only [aO,bG,Nat.reduceMul,Nat.reduceBEq,Nat.reduceLT,Nat.reduceLeDiff,Nat.reduceAdd,decide_true,Bool.and_self,Bool.true_and]<;>rfl)]
  simp only [aI,Nat.reduceMul,Nat.reduceBEq,Nat.reduceLT,Nat.reduceLeDiff,reduceCtorEq,Nat.reduceEqDiff,Nat.reduceAdd,Nat.beq]
  rw [ih _ (by simp only [hi1,aI,Nat.reduceMul,Nat.reduceBEq,Nat.reduceLT,Nat.reduceLeDiff,reduceCtorEq,Nat.reduceEqDiff,Nat.reduceAdd,Nat.beq]<;>rfl)]
 ·intro rb
  rw [show vW im (dt.map nJ) dt.length=Gy im (dt.map nJ) by unfold Gy;rw [List.length_map]]
  simp only [FN,Int.lt_irrefl,List.length_map,aI,Nat.reduceMul,Nat.reduceBEq,Nat.reduceLT,Nat.reduceLeDiff,reduceCtorEq,Nat.reduceEqDiff,Nat.reduceAdd,Nat.beq]
theorem afZ {im:jl} {dt:List Bm} (h0:JU im (dt.map nJ)):cal env 56 [.list 2 (dt.map iZ),.list 1 (im.map bC)]=some [(.list 3 ((Gy im (dt.map nJ)).map iL),true)]:=by
 rw [ah ae0 rfl];simp only [VO,aO,Nat.reduceBEq,Nat.reduceLeDiff,Nat.reduceAdd,List.length_cons,List.length_nil]
 simp only [List.length_map,aI,Nat.reduceMul,Nat.reduceBEq,Nat.reduceLT,Nat.reduceLeDiff,reduceCtorEq,Nat.reduceEqDiff,Nat.reduceAdd,Nat.beq]
 rw [X3 (im:=im) (dt:=dt) h0 (by simp only [aO,bG,Nat.reduceMul,Nat.reduceBEq,Nat.reduceLT,Nat.reduceLeDiff,Nat.reduceAdd,decide_true,Bool.and_self,Bool.true_and]<;>rfl)]
 simp only [List.length_map,aI,Nat.reduceMul,Nat.reduceBEq,Nat.reduceLT,Nat.reduceLeDiff,reduceCtorEq,Nat.reduceEqDiff,Nat.reduceAdd,Nat.beq]
theorem adC {im:jl} {l:List (List uw)} {dt:List Bm} {v:Nat} (h0:JU im l) (hv:v<l.length) {st:St} (h:st.head [0,1,5,6,7,8,20,51] st.boxes.length=some ⟨sl 53 [(0,.pv (.list 1 (im.map bC))),(1,.pv (.list 2 (dt.map iZ))),(5,.row 3 ((vW im l v++BM im v (l[v].take ((0:Nat)))).map iL)),(6,.pv (.int .i64 v)),(7,.row 2 (l[v].map nG)),(8,.pv (.int .i64 (0:Nat))),(20,.any),(51,.any)],[],[],none⟩) :
  den env FT st=some (.normal,⟨sl 53 [(0,.pv (.list 1 (im.map bC))),(1,.pv (.list 2 (dt.map iZ))),(4,.any),(5,.row 3 ((vW im l (v+1)).map iL)),(6,.pv (.int .i64 v)),(51,.any)],[],[],none⟩):=by
 unfold FT
 refine bF (env:=env) (nb:=0) (l[v].length) (fun i=>⟨sl 53 [(0,.pv (.list 1 (im.map bC))),(1,.pv (.list 2 (dt.map iZ))),(5,.row 3 ((vW im l v++BM im v (l[v].take (i))).map iL)),(6,.pv (.int .i64 v)),(7,.row 2 (l[v].map nG)),(8,.pv (.int .i64 i)),(20,.any),(51,.any)],[],[],none⟩) (fun i=>some (.normal,⟨sl 53 [(0,.pv (.list 1 (im.map bC))),(1,.pv (.list 2 (dt.map iZ))),(4,.any),(5,.row 3 ((vW im l (v+1)).map iL)),(6,.pv (.int .i64 v)),(51,.any)],[],[],none⟩)) h (fun _=>rfl) (fun _=>by simp only [aO,bG,Nat.reduceMul,Nat.reduceBEq,Nat.reduceLT,Nat.reduceLeDiff,Nat.reduceAdd,decide_true,Bool.and_self,Bool.true_and]) ?_ ?_
 ·intro i rb hi ih
  have hxl:=h0.xl _ (List.getElem_mem hv)
  have hi1:=bH hi (by unfold lim;omega)
  have F1:((i:Int)<(l[v].length:Int))=True:=eq_true (by omega)
  obtain ⟨GX,b1,b2,W,e6,f3,f2,e5⟩:=OM h0 hv hi
  have hx:=DN hi
  have hy:=oW GX
  have B1:=eq_true b1
  have B2:=eq_true b2
  have F2:=eq_true f2
  have F3:=eq_true f3
  rw [e5] at ih
  simp only [FQ,F1,F2,hx,hy,nC,W,B1,B2,e6,F3,List.nil_append,List.length_nil,Nat.zero_add,ak GX,ak hi,List.length_map,aI,Nat.reduceMul,Nat.reduceBEq,Nat.reduceLT,Nat.reduceLeDiff,reduceCtorEq,Nat.reduceEqDiff,Nat.reduceAdd,Nat.beq]
  rw [ih _ (by simp only [hi1,aI,Nat.reduceMul,Nat.reduceBEq,Nat.reduceLT,Nat.reduceLeDiff,reduceCtorEq,Nat.reduceEqDiff,Nat.reduceAdd,Nat.beq]<;>rfl)]
 ·intro rb
  have e9:vW im l v++BM im v l[v]=vW im l (v+1):=by rw [AX,show l.getD v []=l[v] by simp [hv]]
  rw [List.take_length,e9]
  simp only [FQ,Int.lt_irrefl,List.length_map,aI,Nat.reduceMul,Nat.reduceBEq,Nat.reduceLT,Nat.reduceLeDiff,reduceCtorEq,Nat.reduceEqDiff,Nat.reduceAdd,Nat.beq]
theorem X4 {im:jl} {dt:List Bm} (h0:JU im (dt.map nJ)) {st:St} (h:st.head [0,1,5,6,51] st.boxes.length=some ⟨sl 53 [(0,.pv (.list 1 (im.map bC))),(1,.pv (.list 2 (dt.map iZ))),(5,.row 3 ((vW im (dt.map nJ) ((0:Nat))).map iL)),(6,.pv (.int .i64 (0:Nat))),(51,.any)],[],[],none⟩) :
  den env FV st=some (.normal,⟨sl 53 [(4,.any),(5,.row 3 ((Gy im (dt.map nJ)).map iL))],[],[],none⟩):=by
 unfold FV
 refine bF (env:=env) (nb:=0) (dt.length) (fun i=>⟨sl 53 [(0,.pv (.list 1 (im.map bC))),(1,.pv (.list 2 (dt.map iZ))),(5,.row 3 ((vW im (dt.map nJ) (i)).map iL)),(6,.pv (.int .i64 i)),(51,.any)],[],[],none⟩) (fun i=>some (.normal,⟨sl 53 [(4,.any),(5,.row 3 ((Gy im (dt.map nJ)).map iL))],[],[],none⟩)) h (fun _=>rfl) (fun _=>by simp only [aO,bG,Nat.reduceMul,Nat.reduceBEq,Nat.reduceLT,Nat.reduceLeDiff,Nat.reduceAdd,decide_true,Bool.and_self,Bool.true_and]) ?_ ?_
 ·intro i rb hi ih
  have hln:=h0.ln
  have him:=h0.ml
  rw [List.length_map] at hln
  have hi1:=bH hi (by unfold lim;omega)
  have F1:((i:Int)<(dt.length:Int))=True:=eq_true (by omega)
  have hx:=nD hi
  have hm:i<(dt.map nJ).length:=by rw [List.length_map];exact hi
  have e1:cal env 96 [.agg [.int .i64 dt[i].size,.list 1 (dt[i].ws.map eW)]]=_:=afr (b:=dt[i])
  rw [show nJ dt[i]=(dt.map nJ)[i] by rw [List.getElem_map]] at e1
  simp only [FU,F1,hx,e1,nC,ak hi,List.length_map,aI,Nat.reduceMul,Nat.reduceBEq,Nat.reduceLT,Nat.reduceLeDiff,reduceCtorEq,Nat.reduceEqDiff,Nat.reduceAdd,Nat.beq]
  rw [adC (im:=im) (l:=dt.map nJ) (dt:=dt) (v:=i) h0 hm (by simp only [List.take_zero,show BM im i []=[] from rfl,List.append_nil];simp only [aO,bG,Nat.reduceMul,Nat.reduceBEq,Nat.reduceLT,Nat.reduceLeDiff,Nat.reduceAdd,decide_true,Bool.and_self,Bool.true_and]<;>rfl)]
  simp only [aI,Nat.reduceMul,Nat.reduceBEq,Nat.reduceLT,Nat.reduceLeDiff,reduceCtorEq,Nat.reduceEqDiff,Nat.reduceAdd,Nat.beq]
  rw [ih _ (by simp only [hi1,aI,Nat.reduceMul,Nat.reduceBEq,Nat.reduceLT,Nat.reduceLeDiff,reduceCtorEq,Nat.reduceEqDiff,Nat.reduceAdd,Nat.beq]<;>rfl)]
 ·intro rb
  rw [show vW im (dt.map nJ) dt.length=Gy im (dt.map nJ) by unfold Gy;rw [List.length_map]]
  simp only [FU,Int.lt_irrefl,List.length_map,aI,Nat.reduceMul,Nat.reduceBEq,Nat.reduceLT,Nat.reduceLeDiff,reduceCtorEq,Nat.reduceEqDiff,Nat.reduceAdd,Nat.beq]
theorem af0 {im:jl} {dt:List Bm} (h0:JU im (dt.map nJ)):cal env 58 [.list 1 (im.map bC),.list 2 (dt.map iZ)]=some [(.list 3 ((Gy im (dt.map nJ)).map iL),true)]:=by
 rw [ah ae2 rfl];simp only [VQ,aO,Nat.reduceBEq,Nat.reduceLeDiff,Nat.reduceAdd,List.length_cons,List.length_nil]
 simp only [List.length_map,aI,Nat.reduceMul,Nat.reduceBEq,Nat.reduceLT,Nat.reduceLeDiff,reduceCtorEq,Nat.reduceEqDiff,Nat.reduceAdd,Nat.beq]
 rw [X4 (im:=im) (dt:=dt) h0 (by simp only [aO,bG,Nat.reduceMul,Nat.reduceBEq,Nat.reduceLT,Nat.reduceLeDiff,Nat.reduceAdd,decide_true,Bool.and_self,Bool.true_and]<;>rfl)]
 simp only [List.length_map,aI,Nat.reduceMul,Nat.reduceBEq,Nat.reduceLT,Nat.reduceLeDiff,reduceCtorEq,Nat.reduceEqDiff,Nat.reduceAdd,Nat.beq]
end Go.Proofs.YtpcncggjmabnaaaGreatDoor.V

namespace Go.Proofs.YtpcncggjmabnaaaGreatDoor.V
def AY (l:List nK) (n:Int):Bool:=(l.length:Int)==n
def wW (im:jl) (z:List Int) (i:Nat):Bool:=((im.drop i).zip (z.drop i)).all fun q=>AY q.1 q.2
def wX (im:jl) (z:List Int):Bool:=decide (im.length=z.length)&&wW im z 0
theorem DT {dt:jl} {z:List Int} {i:Nat} (h:i<dt.length) (h2:i<z.length):wW dt z i=(AY dt[i] z[i]&&wW dt z (i+1)):=by
 unfold wW
 rw [List.drop_eq_getElem_cons h,List.drop_eq_getElem_cons h2]
 rfl
theorem JV (dt:jl) (z:List Int):wW dt z dt.length=true:=by
 unfold wW
 rw [List.drop_length]
 rfl
theorem OO {im:jl} {z:List Int}:wX im z=true ↔ dD im=z:=by
 unfold wX wW
 rw [List.drop_zero,List.drop_zero]
 simp only [Bool.and_eq_true,decide_eq_true_eq]
 constructor
 ·rintro ⟨h1,h2⟩
  apply List.ext_getElem
  ·unfold dD;rw [List.length_map];exact h1
  ·intro i k1 k2
   have hi:i<im.length:=by unfold dD at k1;rw [List.length_map] at k1;exact k1
   have:=List.all_eq_true.1 h2 (im[i],z[i]) (by
    have e:(im.zip z)[i]'(by rw [List.length_zip];omega)=(im[i],z[i]):=List.getElem_zip
    rw [← e];exact List.getElem_mem _)
   unfold AY at this
   simpa [dD] using this
 ·rintro rfl
  refine ⟨by simp [dD],?_⟩
  rw [List.all_eq_true]
  intro q hq
  obtain ⟨i,hi⟩:=List.mem_iff_getElem?.1 hq
  obtain ⟨h1,h2⟩:=List.getElem?_eq_some_iff.1 hi
  rw [← h2,List.getElem_zip]
  simp [AY,dD]
theorem af2 {l:List nK} {n:Int}:cal env 55 [.list 8 (l.map lW),.int .i64 n]=some [(.bool (AY l n),false)]:=by
 unfold AY
 rw [ah aeZ rfl];simp only [VN,aO,Nat.reduceBEq,Nat.reduceLeDiff,Nat.reduceAdd,List.length_cons,List.length_nil]
 simp only [List.length_map,aI,Nat.reduceMul,Nat.reduceBEq,Nat.reduceLT,Nat.reduceLeDiff,reduceCtorEq,Nat.reduceEqDiff,Nat.reduceAdd,Nat.beq]
theorem adD {dt:jl} {z:List Int} (hl:dt.length≤1000) (hz:dt.length=z.length) {st:St} (h:st.head [0,1,2,15,16,17] st.boxes.length=some ⟨sl 32 [(0,.pv (.list 1 (dt.map bC))),(1,.pv (.list 1 (z.map eI))),(2,.pv (.func 55 [])),(15,.pv (.list 1 (dt.map bC))),(16,.pv (.int .i64 dt.length)),(17,.pv (.int .i64 (0:Nat)))],[],[],none⟩) :
  den env FI st=JJ 32 6 (wW dt z ((0:Nat))):=by
 unfold FI
 refine bF (env:=env) (dt.length) (fun i=>⟨sl 32 [(0,.pv (.list 1 (dt.map bC))),(1,.pv (.list 1 (z.map eI))),(2,.pv (.func 55 [])),(15,.pv (.list 1 (dt.map bC))),(16,.pv (.int .i64 dt.length)),(17,.pv (.int .i64 i))],[],[],none⟩) (fun i=>JJ 32 6 (wW dt z (i))) h (fun _=>rfl) (fun _=>by simp only [aO,bG,Nat.reduceMul,Nat.reduceBEq,Nat.reduceLT,Nat.reduceLeDiff,Nat.reduceAdd,decide_true,Bool.and_self,Bool.true_and]) ?_ ?_
 ·intro i rb hi ih
  have hi1:=bH hi (by unfold lim;omega)
  have hj:i<z.length:=by omega
  have F1:((i:Int)<(dt.length:Int))=True:=eq_true (by omega)
  have e1:=af2 (l:=dt[i]) (n:=z[i])
  have hx:=oW hi
  have hy:=y5 hj
  rw [DT hi hj]
  cases c:AY dt[i] z[i] with
  |true =>
   rw [c] at e1
   rw [Bool.true_and]
   simp only [yS,F1,e1,hx,hy,ak hi,ak hj,List.length_map,aI,Nat.reduceMul,Nat.reduceBEq,Nat.reduceLT,Nat.reduceLeDiff,reduceCtorEq,Nat.reduceEqDiff,Nat.reduceAdd,Nat.beq]
   rw [ih _ (by simp only [hi1,aI,Nat.reduceMul,Nat.reduceBEq,Nat.reduceLT,Nat.reduceLeDiff,reduceCtorEq,Nat.reduceEqDiff,Nat.reduceAdd,Nat.beq]<;>rfl)]
  |false =>
   rw [c] at e1
   rw [Bool.false_and,tY]
   simp only [yS,F1,e1,hx,hy,ak hi,ak hj,List.length_map,aI,Nat.reduceMul,Nat.reduceBEq,Nat.reduceLT,Nat.reduceLeDiff,reduceCtorEq,Nat.reduceEqDiff,Nat.reduceAdd,Nat.beq]
 ·intro rb
  rw [JV,wQ]
  simp only [yS,Int.lt_irrefl,List.length_map,aI,Nat.reduceMul,Nat.reduceBEq,Nat.reduceLT,Nat.reduceLeDiff,reduceCtorEq,Nat.reduceEqDiff,Nat.reduceAdd,Nat.beq]
theorem af4 {dt:jl} {z:List Int} (hl:dt.length≤1000):cal env 54 [.list 1 (dt.map bC),.list 1 (z.map eI),.func 55 []]=some [(.bool (wX dt z),false)]:=by
 unfold wX
 by_cases c:dt.length=z.length
 ·have F1:((dt.length:Int) != (z.length:Int))=false:=by simp [c]
  rw [decide_eq_true c,Bool.true_and]
  rw [ah aaX rfl];simp only [Ru,aO,Nat.reduceBEq,Nat.reduceLeDiff,Nat.reduceAdd,List.length_cons,List.length_nil]
  simp only [F1,List.length_map,aI,Nat.reduceMul,Nat.reduceBEq,Nat.reduceLT,Nat.reduceLeDiff,reduceCtorEq,Nat.reduceEqDiff,Nat.reduceAdd,Nat.beq]
  rw [adD hl c (by simp only [aO,bG,Nat.reduceMul,Nat.reduceBEq,Nat.reduceLT,Nat.reduceLeDiff,Nat.reduceAdd,decide_true,Bool.and_self,Bool.true_and]<;>rfl)]
  cases wW dt z 0 with
  |true=>rw [wQ];simp only [F1,List.length_map,aI,Nat.reduceMul,Nat.reduceBEq,Nat.reduceLT,Nat.reduceLeDiff,reduceCtorEq,Nat.reduceEqDiff,Nat.reduceAdd,Nat.beq]
  |false=>rw [tY];simp only [F1,List.length_map,aI,Nat.reduceMul,Nat.reduceBEq,Nat.reduceLT,Nat.reduceLeDiff,reduceCtorEq,Nat.reduceEqDiff,Nat.reduceAdd,Nat.beq]
 ·have F1:((dt.length:Int) != (z.length:Int))=true:=by simp;omega
  rw [decide_eq_false c,Bool.false_and]
  rw [ah aaX rfl];simp only [Ru,aO,Nat.reduceBEq,Nat.reduceLeDiff,Nat.reduceAdd,List.length_cons,List.length_nil]
  simp only [F1,List.length_map,aI,Nat.reduceMul,Nat.reduceBEq,Nat.reduceLT,Nat.reduceLeDiff,reduceCtorEq,Nat.reduceEqDiff,Nat.reduceAdd,Nat.beq]
end Go.Proofs.YtpcncggjmabnaaaGreatDoor.V

namespace Go.Proofs.YtpcncggjmabnaaaGreatDoor.V
def wY (s:mJ) (im:jl) (t:Int):Int:=if yG s=0 then (if kN im=0 then (if s.ov then (if wX im s.sz then (if t<0∨t > 1073741824 then 24 else 0) else 22) else 12) else kN im) else yG s
def qw (s:mJ) (im:jl) (t:Int):nY:=⟨s.fs,s.ls,t,[],Gy im (s.dt.map nJ)⟩
def vT (s:mJ) (im:jl) (t:Int):nY:=if wY s im t=0 then qw s im t else aaz
def JW (s:mJ) (im:jl) (t:Int):mJ:=if wY s im t=0 then { s with ov:=false,dt:=[],cy:=[qw s im t] } else aas
structure smI (im:jl):Prop where
 ln:im.length≤10
 vo:∀ v∈im,v.length≤400
theorem X5 {s:mJ} {im:jl} (h:wP s.dt s.sz=true) (hs:wX im s.sz=true) (hi:smI im):JU im (s.dt.map nJ):=by
 have hz:=XU h
 have e:=OO.1 hs
 have hl:s.dt.length=im.length:=by rw [hz.1,← e];simp [dD]
 have hv:∀ v (h:v<s.dt.length),okB s.dt[v]=true∧s.dt[v].size=((im.getD v []).length:Int)∧(im.getD v []).length≤400:=fun v hv=>by
  obtain ⟨k1,k2⟩:=hz.2 v hv
  have GX:v<im.length:=by omega
  have e2:im.getD v []=im[v]:=by simp [GX]
  refine ⟨k1,?_,by rw [e2];exact hi.vo _ (List.getElem_mem GX)⟩
  rw [k2,← e,e2]
  simp [dD,List.getD_eq_getElem?_getD,GX]
 refine ⟨by rw [List.length_map];omega,Nat.le_trans hi.ln (by decide),fun v hv=>Nat.le_trans (hi.vo v hv) (by decide),fun x hx=>?_,fun v h e he=>?_⟩
 ·obtain ⟨b,hb,rfl⟩:=List.mem_map.1 hx
  obtain ⟨i,hi1⟩:=List.mem_iff_getElem?.1 hb
  obtain ⟨h1,h2⟩:=List.getElem?_eq_some_iff.1 hi1
  obtain ⟨k1,k2,k3⟩:=hv i h1
  rw [← h2]
  unfold nJ Az
  rw [if_pos k1,k2]
  have:=Gx (bit s.dt[i].ws) ((((im.getD i []).length:Int)).toNat)
  omega
 ·have h':v<s.dt.length:=by rw [List.length_map] at h;exact h
  obtain ⟨k1,k2,k3⟩:=hv v h'
  rw [List.getElem_map] at he
  unfold nJ Az at he
  rw [if_pos k1,k2] at he
  have:=adw _ _ e he
  omega
theorem X6 {s:mJ} {im:jl} (h:wP s.dt s.sz=true) (hs:wX im s.sz=true) (hi:smI im):(Gy im (s.dt.map nJ)).length≤10000∧∀ x∈Gy im (s.dt.map nJ),x.data.length≤10000:=by
 have hz:=XU h
 have e:=OO.1 hs
 have hl:s.dt.length=im.length:=by rw [hz.1,← e];simp [dD]
 have hv:∀ v (h:v<s.dt.length),s.dt[v].size≤400:=fun v hv=>by
  obtain ⟨k1,k2⟩:=hz.2 v hv
  have GX:v<im.length:=by omega
  have:=hi.vo _ (List.getElem_mem GX)
  rw [k2,← e]
  simp [dD,List.getD_eq_getElem?_getD,GX]
  omega
 have hx:∀ x∈s.dt.map nJ,x.length≤400:=fun x hx=>by
  obtain ⟨b,hb,rfl⟩:=List.mem_map.1 hx
  obtain ⟨i,hi1⟩:=List.mem_iff_getElem?.1 hb
  obtain ⟨h1,h2⟩:=List.getElem?_eq_some_iff.1 hi1
  have k:=hv i h1
  rw [← h2]
  unfold nJ Az
  split
  ·have:=Gx (bit s.dt[i].ws) s.dt[i].size.toNat
   omega
  ·simp
 refine ⟨?_,fun x hxm=>?_⟩
 ·have h1:=wV (im:=im) hx (s.dt.map nJ).length
  have h2:400 * (s.dt.map nJ).length≤400 * 10:=Nat.mul_le_mul_left _ (by rw [List.length_map,hl];exact hi.ln)
  unfold Gy
  omega
 ·unfold Gy vW at hxm
  obtain ⟨v,hv1,hx1⟩:=List.mem_flatMap.1 hxm
  unfold BM at hx1
  obtain ⟨e,he,rfl⟩:=List.mem_map.1 hx1
  show (((im.getD v []).drop e.start.toNat).take e.count.toNat).length≤10000
  rw [List.length_take,List.length_drop]
  by_cases c:v<im.length
  ·have e2:im.getD v []=im[v]:=by simp [c]
   have:=hi.vo _ (List.getElem_mem c)
   rw [e2];omega
  ·have e2:im.getD v []=[]:=by simp [List.getD_eq_getElem?_getD,List.getElem?_eq_none (Nat.le_of_not_lt c)]
   rw [e2];simp
theorem OQ (s:mJ) (im:jl) (t:Int):oH (JW s im t)=if wY s im t=0 then oH { s with ov:=false,dt:=[],cy:=[qw s im t] } else oH aas:=by
 unfold JW;split<;>rfl
theorem OT (s:mJ) (im:jl) (t:Int):jc (vT s im t)=if wY s im t=0 then jc (qw s im t) else jc aaz:=by
 unfold vT;split<;>rfl
set_option maxRecDepth 20000 in
theorem af5 {s:mJ} {im:jl} {t:Int} (hq:Nz s) (hi:smI im):cal env 26 [oH s,.list 1 (im.map bC),.int .i64 t]=some [(oH (JW s im t),false),(jc (vT s im t),false),(.int .i64 (wY s im t),false)]:=by
 have e1:=afP hq
 have e2:=aa5 (im:=im) (by have:=hi.ln;unfold lim;omega)
 have e3:=af4 (dt:=im) (z:=s.sz) (by have:=hi.ln;omega)
 have e5:=afU hq
 have Z0:((0:Int) != 0)=false:=rfl
 rw [OQ,OT]
 unfold wY
 rw [fB] at e1 e5
 rw [fB s]
 by_cases c1:yG s=0
 rotate_left
 ·have Z:(yG s != 0)=true:=by simp [c1]
  rw [if_neg c1,if_neg c1,if_neg c1,lg,lq]
  rw [ah Aj rfl];simp only [zX,aO,Nat.reduceBEq,Nat.reduceLeDiff,Nat.reduceAdd,List.length_cons,List.length_nil]
  simp only [e1,Z,fQ,fC,List.length_map,aI,Nat.reduceMul,Nat.reduceBEq,Nat.reduceLT,Nat.reduceLeDiff,reduceCtorEq,Nat.reduceEqDiff,Nat.reduceAdd,Nat.beq]
 obtain ⟨k1,k2,k3⟩:=XV c1
 rw [c1] at e1
 rw [if_pos c1]
 by_cases c2:kN im=0
 rotate_left
 ·have Z:(kN im != 0)=true:=by simp [c2]
  rw [if_neg c2,if_neg c2,if_neg c2,lg,lq]
  rw [ah Aj rfl];simp only [zX,aO,Nat.reduceBEq,Nat.reduceLeDiff,Nat.reduceAdd,List.length_cons,List.length_nil]
  simp only [e1,e2,Z0,Z,fQ,fC,List.length_map,aI,Nat.reduceMul,Nat.reduceBEq,Nat.reduceLT,Nat.reduceLeDiff,reduceCtorEq,Nat.reduceEqDiff,Nat.reduceAdd,Nat.beq]
 rw [c2] at e2
 rw [if_pos c2]
 cases co:s.ov with
 |false =>
  rw [co] at e1
  rw [if_neg Bool.false_ne_true,if_neg (by decide),if_neg (by decide),lg,lq]
  rw [ah Aj rfl];simp only [zX,aO,Nat.reduceBEq,Nat.reduceLeDiff,Nat.reduceAdd,List.length_cons,List.length_nil]
  simp only [co,e1,e2,e3,Z0,fQ,fC,List.length_map,aI,Nat.reduceMul,Nat.reduceBEq,Nat.reduceLT,Nat.reduceLeDiff,reduceCtorEq,Nat.reduceEqDiff,Nat.reduceAdd,Nat.beq]
 |true =>
  rcases k3 with ⟨_,g1,g2,g3⟩|⟨g,_⟩
  rotate_left
  ·rw [co] at g;cases g
  rw [co] at e1 e5
  rw [if_pos rfl]
  cases c3:wX im s.sz with
  |false =>
   rw [c3] at e3
   rw [if_neg Bool.false_ne_true,if_neg (by decide),if_neg (by decide),lg,lq]
   rw [ah Aj rfl];simp only [zX,aO,Nat.reduceBEq,Nat.reduceLeDiff,Nat.reduceAdd,List.length_cons,List.length_nil]
   simp only [co,e1,e2,e3,Z0,fQ,fC,List.length_map,aI,Nat.reduceMul,Nat.reduceBEq,Nat.reduceLT,Nat.reduceLeDiff,reduceCtorEq,Nat.reduceEqDiff,Nat.reduceAdd,Nat.beq]
  |true =>
   rw [c3] at e3
   rw [if_pos rfl]
   by_cases c4:t<0
   ·have F4:=eq_true c4
    rw [if_pos (Or.inl c4:t<0∨t > 1073741824),if_neg (by decide),if_neg (by decide),lg,lq]
    rw [ah Aj rfl];simp only [zX,aO,Nat.reduceBEq,Nat.reduceLeDiff,Nat.reduceAdd,List.length_cons,List.length_nil]
    simp only [co,e1,e2,e3,Z0,F4,fQ,fC,List.length_map,aI,Nat.reduceMul,Nat.reduceBEq,Nat.reduceLT,Nat.reduceLeDiff,reduceCtorEq,Nat.reduceEqDiff,Nat.reduceAdd,Nat.beq]
   have F4:=eq_false c4
   by_cases c5:t > 1073741824
   ·have F5:=eq_true c5
    rw [if_pos (Or.inr c5:t<0∨t > 1073741824),if_neg (by decide),if_neg (by decide),lg,lq]
    rw [ah Aj rfl];simp only [zX,aO,Nat.reduceBEq,Nat.reduceLeDiff,Nat.reduceAdd,List.length_cons,List.length_nil]
    simp only [co,e1,e2,e3,Z0,F4,F5,fQ,fC,List.length_map,aI,Nat.reduceMul,Nat.reduceBEq,Nat.reduceLT,Nat.reduceLeDiff,reduceCtorEq,Nat.reduceEqDiff,Nat.reduceAdd,Nat.beq]
   have F5:=eq_false c5
   rw [if_neg (show ¬ (t<0∨t > 1073741824) by omega),if_pos rfl,if_pos rfl]
   have e6:=afZ (X5 g3 c3 hi)
   obtain ⟨w1,w2⟩:=X6 g3 c3 hi
   have e7:=abg (c:=qw s im t) ⟨Nat.zero_le _,w1,w2⟩
   rw [fB]
   have hD:jc (qw s im t)=.agg [.int .i64 s.fs,.int .i64 s.ls,.int .i64 t,.list 1 [],.list 3 ((Gy im (s.dt.map nJ)).map iL)]:=rfl
   rw [hD] at e7 ⊢
   rw [show [qw s im t].map jc=[jc (qw s im t)] from rfl,hD]
   generalize (Gy im (s.dt.map nJ)).map iL=WW at *
   rw [ah Aj rfl];simp only [zX,aO,Nat.reduceBEq,Nat.reduceLeDiff,Nat.reduceAdd,List.length_cons,List.length_nil]
   simp only [co,e1,e2,e3,e5,e6,e7,Z0,F4,F5,fQ,fC,List.map_nil,List.length_map,aI,Nat.reduceMul,Nat.reduceBEq,Nat.reduceLT,Nat.reduceLeDiff,reduceCtorEq,Nat.reduceEqDiff,Nat.reduceAdd,Nat.beq]
end Go.Proofs.YtpcncggjmabnaaaGreatDoor.V
