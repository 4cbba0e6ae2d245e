/-
  Part 11 of the texts that the statement stands on.
-/
import Derived.Test.YtpdfhckdmblicaaZ10
import Derived.Test.YtpdfhckdmblicaaRows
set_option linter.all false
namespace Go.Proofs.Ytpdfhckdmblicaa.V
theorem few7_bM {im:Img} (h:few7 im=true):im.length≤9∧∀ v∈im,v.length≤24:=by
 unfold few7 at h
 simp only [Bool.and_eq_true,decide_eq_true_eq] at h
 exact ⟨h.1,fun v hv=>by simpa using List.all_eq_true.1 h.2 v hv⟩
theorem chooseX_le {a b z:Img} (he:imgsErr a b z=0) {k:Nat} (hr:∀ v∈z,v.length≤k):∀ v∈chooseX gMerge a b z,v.length≤k:=by
 obtain ⟨_,_,_,s1,s2⟩:=imgs_ok he
 exact sizes_le (chooseX_sizes s1 s2) hr
theorem confOut_le {a b z:Img} (hz:z.length≤9) (hr:∀ v∈z,v.length≤24):(confOut a b z).length≤9∧∀ x∈confOut a b z,x.length≤24:=by
 unfold confOut
 split
 ·rename_i he
  obtain ⟨_,_,_,s1,s2⟩:=imgs_ok he
  have sm:imSizes (marksI a b z)=imSizes z:=chooseX_sizes s1 s2
  have sz:imSizes (zerosI a b z)=imSizes z:=chooseX_sizes s1 s2
  have lm:=(sizes_inj sm).1
  have lz:=(sizes_inj sz).1
  refine ⟨by rw [differ_len (by omega)];omega,fun x hx=>?_⟩
  unfold differ at hx
  obtain ⟨q,hq,rfl⟩:=List.mem_map.1 hx
  exact Nat.le_trans (volDiff_len _ _) (sizes_le sm hr _ (List.of_mem_zip hq).1)
 ·exact ⟨Nat.zero_le _,fun x hx=>by cases hx⟩
theorem env1_law:env1 5=some (.code fn5):=by
 unfold env1
 rw [if_neg (by decide)]
 exact env5
set_option maxRecDepth 20000 in
theorem calMerges {a b z:Img}:cal env1 5 [.list 1 (a.map eSecs),.list 1 (b.map eSecs),.list 1 (z.map eSecs)]=some [(.bool true,false)]:=by
 have hlim:lim=1073741824:=rfl
 have aw:=up (e1:=env1) calAwake
 have w1:=up (e1:=env1) (cal21 (im:=a))
 have w2:=up (e1:=env1) (cal21 (im:=b))
 have w3:=up (e1:=env1) (cal21 (im:=z))
 rw [cal_code env1_law rfl]
 simp only [fn5,slAll,Nat.reduceBEq,Nat.reduceLeDiff,Nat.reduceAdd,List.length_cons,List.length_nil]
 cases f1:few7 a with
 |false=>rw [f1] at w1;simp only [aw,w1,slAll,slsAll,Nat.reduceMul,Nat.reduceBEq,Nat.reduceLT,Nat.reduceLeDiff,memAll,vAll,reduceCtorEq,Nat.reduceEqDiff,Nat.reduceAdd,Nat.reduceLT,Nat.reduceLeDiff,Nat.beq]
 |true =>
  cases f2:few7 b with
  |false=>rw [f1] at w1;rw [f2] at w2;simp only [aw,w1,w2,slAll,slsAll,Nat.reduceMul,Nat.reduceBEq,Nat.reduceLT,Nat.reduceLeDiff,memAll,vAll,reduceCtorEq,Nat.reduceEqDiff,Nat.reduceAdd,Nat.reduceLT,Nat.reduceLeDiff,Nat.beq]
  |true =>
   cases f3:few7 z with
   |false=>rw [f1] at w1;rw [f2] at w2;rw [f3] at w3;simp only [aw,w1,w2,w3,slAll,slsAll,Nat.reduceMul,Nat.reduceBEq,Nat.reduceLT,Nat.reduceLeDiff,memAll,vAll,reduceCtorEq,Nat.reduceEqDiff,Nat.reduceAdd,Nat.reduceLT,Nat.reduceLeDiff,Nat.beq]
   |true =>
    rw [f1] at w1;rw [f2] at w2;rw [f3] at w3
    obtain ⟨a1,a2⟩:=few7_bM f1
    obtain ⟨b1,b2⟩:=few7_bM f2
    obtain ⟨z1,z2⟩:=few7_bM f3
    have hz:∀ v∈z,v.length≤lim:=fun v hv=>by have:=z2 v hv;omega
    have e1:=up (e1:=env1) (cal22 (a:=a) (b:=b) (z:=z) (by omega) (by omega) (by omega) hz)
    have e2:=up (e1:=env1) (cal23 (a:=a) (b:=b) (z:=z) (by omega) (by omega) (by omega) hz)
    have e3:=up (e1:=env1) (cal24 (a:=a) (b:=b) (z:=z) (by omega) (by omega) (by omega) hz)
    have e4:cal env1 25 [.list 1 (a.map eSecs),.list 1 (b.map eSecs),.list 1 (z.map eSecs)]=_:=(cal_ext env1_merge).trans (mergeX_enc (a:=a) (b:=b) (z:=z) ⟨by omega,by omega,by omega⟩ (fun v hv=>by have:=a2 v hv;omega) (fun v hv=>by have:=z2 v hv;omega))
    obtain ⟨c1,c2⟩:=confOut_le (a:=a) (b:=b) z1 z2
    have e5:=up (e1:=env1) (cal26 (a:=confOut a b z) (b:=confOut a b z) (by omega) (fun x hx=>by have:=c2 x hx;omega))
    rw [decide_eq_true rfl] at e5
    have hm:(mergeOut a b z).length≤lim∧∀ v∈mergeOut a b z,v.length≤lim:=by
     unfold mergeOut
     split
     ·rename_i he
      obtain ⟨_,_,_,s1,s2⟩:=imgs_ok he
      have:=(sizes_inj (chooseX_sizes (g:=gMerge) s1 s2)).1
      exact ⟨by omega,fun v hv=>by have:=chooseX_le he z2 v hv;omega⟩
     ·exact ⟨Nat.zero_le _,fun v hv=>by cases hv⟩
    have e6:=up (e1:=env1) (cal27 (a:=mergeOut a b z) (b:=mergeOut a b z) hm.1 hm.2)
    rw [decide_eq_true rfl] at e6
    have N:∀ n:Int,(n==n)=true:=fun n=>by simp
    generalize (mergeOut a b z).map eSecs=o at *
    generalize (confOut a b z).map eExts=c at *
    generalize imgsErr a b z=r at *
    simp only [aw,w1,w2,w3,e1,e2,e3,e4,e5,e6,N,slAll,slsAll,Nat.reduceMul,Nat.reduceBEq,Nat.reduceLT,Nat.reduceLeDiff,memAll,vAll,reduceCtorEq,Nat.reduceEqDiff,Nat.reduceAdd,Nat.reduceLT,Nat.reduceLeDiff,Nat.beq]
end Go.Proofs.Ytpdfhckdmblicaa.V

namespace Go.Proofs.Ytpdfhckdmblicaa.V
open Go.RowKit Go.ChangeShapes Go.WideShapes Go.ChangeAt
theorem Try.ownKnobV:ownKnob Try.prog.godebug=none:=by kernel_rfl
theorem Try.laidOutV:laidOutB Try.prog=true:=by kernel_rfl
theorem sint_u8 {q:PV} (h:SInt .u8 [q]):∃ b:UInt8,q=.int .u8 (b.toNat:Int):=by
 obtain ⟨n,h1,h2⟩:=h
 have h3:IntKind.u8.min=0:=rfl
 have h4:IntKind.u8.max=255:=rfl
 simp only [Lit.wf,Bool.and_eq_true,decide_eq_true_eq] at h1
 cases h2
 refine ⟨UInt8.ofNat n.toNat,?_⟩
 rw [UInt8.toNat_ofNat_of_lt' (show n.toNat<2 ^ 8 by omega)]
 congr 1;omega
def SSec:List PV→Prop:=SArr 8 (SInt .u8)
theorem ssec {ps:List PV} (h:SSec ps):∃ s:Sec,ps=secPV s:=by
 obtain ⟨h1,h2⟩:=h
 have:∀ l:List PV,(∀ p∈l,SInt .u8 [p])→∃ m:List UInt8,m.length=l.length∧l=m.map fun b=>.int .u8 (b.toNat:Int):=by
  intro l
  induction l with
  |nil=>exact fun _=>⟨[],rfl,rfl⟩
  |cons p l ih =>
   intro h
   obtain ⟨b,hb⟩:=sint_u8 (h p (by simp))
   obtain ⟨m,e1,e2⟩:=ih fun q hq=>h q (by simp [hq])
   exact ⟨b :: m,by simp [e1],by rw [hb,e2];rfl⟩
 obtain ⟨m,e1,e2⟩:=this ps h2
 refine ⟨⟨m.toArray,by simp [e1,h1]⟩,?_⟩
 subst e2
 simp [secPV,Vector.toList]
theorem slist {α:Type} {n:Nat} {S:List PV→Prop} {wr:List PV→PV} {enc:α→PV} {ok:α→Prop} (hS:∀ ps,S ps→∃ a,ok a∧wr ps=enc a) {q:PV} (h:SList n S wr [q]):∃ l:List α,(∀ a∈l,ok a)∧q=.list n (l.map enc):=by
 obtain ⟨es,h1,h2⟩:=h
 cases h1
 have:∀ es:List PV,(∀ x∈es,∃ q,S q∧x=wr q)→∃ l:List α,(∀ a∈l,ok a)∧es=l.map enc:=by
  intro es
  induction es with
  |nil=>exact fun _=>⟨[],by simp,rfl⟩
  |cons e es ih =>
   intro h
   obtain ⟨q,h3,h4⟩:=h e (by simp)
   obtain ⟨a,h5,h6⟩:=hS q h3
   obtain ⟨l,h7,h8⟩:=ih fun x hx=>h x (by simp [hx])
   exact ⟨a :: l,by simp;exact ⟨h5,h7⟩,by rw [h4,h6,h8];rfl⟩
 obtain ⟨l,h3,h4⟩:=this es h2
 exact ⟨l,h3,by rw [h4]⟩
theorem wr_list {n:Nat} {S:List PV→Prop} {wr:List PV→PV} {ps:List PV} (h:SList n S wr ps):(wrS ps).cells=ps:=by
 obtain ⟨es,rfl,_⟩:=h;rfl
def SSecs:List PV→Prop:=SList 8 SSec .agg
theorem ssecs {q:PV} (h:SSecs [q]):∃ l:List Sec,q=eSecs l:=by
 obtain ⟨l,_,e⟩:=slist (enc:=eSec) (ok:=fun _=>True) (fun ps h=>by obtain ⟨s,rfl⟩:=ssec h;exact ⟨s,trivial,rfl⟩) h
 exact ⟨l,e⟩
def SImg:List PV→Prop:=SList 1 SSecs wrS
theorem simg {q:PV} (h:SImg [q]):∃ l:Img,q=.list 1 (l.map eSecs):=by
 obtain ⟨l,_,e⟩:=slist (enc:=eSecs) (ok:=fun _=>True) (fun ps h=>by
  obtain ⟨es,rfl,h2⟩:=h
  obtain ⟨l,e⟩:=ssecs (q:=.list 8 es) ⟨es,rfl,h2⟩
  exact ⟨l,trivial,e⟩) h
 exact ⟨l,e⟩
theorem Try.rdU8:RdsC Try.prog 5 1 (SInt .u8):=RdsC.int Try.underlying5 (by kernel_rfl)
theorem Try.rdSec:RdsC Try.prog 79 8 SSec:=RdsC.arr Try.underlying79 Try.rdU8 (by kernel_rfl)
theorem Try.rdSecs:RdsC Try.prog 73 1 SSecs:=RdsC.list Try.underlying73 (by kernel_rfl) Try.rdSec (by decide) (fun _ _ _=>rfl)
theorem Try.rdImg:RdsC Try.prog 48 1 SImg:=RdsC.list Try.underlying48 (by kernel_rfl) Try.rdSecs (by decide) (fun _ h _=>wr_list h)
end Go.Proofs.Ytpdfhckdmblicaa.V
