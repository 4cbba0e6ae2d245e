/-
  Part 10 of the texts that the statement stands on.
-/
import Derived.Test.YtioijcfcehhmdaaGreatDoorZ9
import Derived.Test.YtioijcfcehhmdaaGreatDoorRows
import Derived.Lib.LaidTab
import Derived.LaidByTextLater
set_option linter.all false
namespace Go.Proofs.YtioijcfcehhmdaaGreatDoor.V
theorem few48_of {p:Pt} (h:few48 p=true):fitP p∧p.lin.length≤20∧p.dirty.length≤12∧p.img.length≤9∧(∀ v∈p.img,v.length≤24)∧∀ b∈p.dirty,b.ws.length≤4:=by
 unfold few48 few7 dirF at h
 simp only [Bool.and_eq_true,decide_eq_true_eq] at h
 obtain ⟨h1,h2,h3,h4,h5⟩:=h
 have hl:lim=1073741824:=rfl
 refine ⟨⟨by omega,by omega,by omega⟩,h2,h3,h4,fun v hv=>by simpa using List.all_eq_true.1 h5 v hv,fun b hb=>?_⟩
 rw [List.take_of_length_le h3] at h1
 simpa using List.all_eq_true.1 h1 b hb
theorem prcMix (p:Prc):eqMix [false,false,false,false,false,false,true,true] [.int .i64 p.kind,.int .i64 p.frm,.int .i64 p.to,.int .i64 p.step,.int .i64 p.ep,.int .i64 p.cyc,.bool p.done,.bool p.failed] [.int .i64 p.kind,.int .i64 p.frm,.int .i64 p.to,.int .i64 p.step,.int .i64 p.ep,.int .i64 p.cyc,.bool p.done,.bool p.failed]=some true:=by
 simp [eqMix]
theorem prcPart (p:Prc):part [.int .i64 p.kind,.int .i64 p.frm,.int .i64 p.to,.int .i64 p.step,.int .i64 p.ep,.int .i64 p.cyc,.bool p.done,.bool p.failed] 0 (some 8)=some (.agg [.int .i64 p.kind,.int .i64 p.frm,.int .i64 p.to,.int .i64 p.step,.int .i64 p.ep,.int .i64 p.cyc,.bool p.done,.bool p.failed]):=rfl
end Go.Proofs.YtioijcfcehhmdaaGreatDoor.V

namespace Go.Proofs.YtioijcfcehhmdaaGreatDoor.V
theorem eExs_at {l:List (List Exn)} {i:Nat} (h:i<l.length):(l.map eExs)[i]?=some (.list 2 (l[i].map eExt)):=by rw [List.getElem?_map,List.getElem?_eq_getElem h];rfl
def resEx (n:Nat) (b:Bool):Option (Ex × St):=if b then some (.normal,⟨sl n [(4,.any)],[],[],none⟩) else some (.ret,⟨sl n [(4,.pv (.bool false))],[],[],none⟩)
theorem loop27 {l m:List (List Exn)} (hab:l.length=m.length) (hl:l.length≤lim) (hr:∀ x∈l,x.length≤lim) {st:St} (h:st.head [0,1,5] st.boxes.length=some ⟨sl 27 [(0,.pv (.list 1 (l.map eExs))),(1,.pv (.list 1 (m.map eExs))),(5,.pv (.int .i64 (0:Nat)))],[],[],none⟩) :
  den env fn27_l1 st=resEx 27 (decide (l.drop ((0:Nat))=m.drop ((0:Nat)))):=by
 unfold fn27_l1
 refine clean_up (env:=env) (nb:=0) (l.length) (fun i=>⟨sl 27 [(0,.pv (.list 1 (l.map eExs))),(1,.pv (.list 1 (m.map eExs))),(5,.pv (.int .i64 i))],[],[],none⟩) (fun i=>resEx 27 (decide (l.drop (i)=m.drop (i)))) h (fun _=>rfl) (fun _=>by simp only [slAll,slsAll,Nat.reduceMul,Nat.reduceBEq,Nat.reduceLT,Nat.reduceLeDiff,Nat.reduceAdd,decide_true,Bool.and_self,Bool.true_and]) ?_ ?_
 ·intro i rb hi ih
  have hi1:=i64_next hi hl
  have hj:i<m.length:=by omega
  have F1:((i:Int)<(l.length:Int))=True:=eq_true (by omega)
  have hx:=eExs_at hi
  have hy:=eExs_at hj
  have e1:=cal75 (a:=l[i]) (b:=m[i]) (hr _ (List.getElem_mem hi))
  rw [List.drop_eq_getElem_cons hi,List.drop_eq_getElem_cons hj]
  by_cases c:l[i]=m[i]
  ·rw [decide_eq_true c] at e1
   simp only [fn27_b0,F1,hx,hy,e1,index_nat hi,index_nat hj,List.length_map,slAll,slsAll,Nat.reduceMul,Nat.reduceBEq,Nat.reduceLT,Nat.reduceLeDiff,memAll,vAll,reduceCtorEq,Nat.reduceEqDiff,Nat.reduceAdd,Nat.reduceLT,Nat.reduceLeDiff,Nat.beq]
   rw [ih _ (by simp only [hi1,slAll,slsAll,Nat.reduceMul,Nat.reduceBEq,Nat.reduceLT,Nat.reduceLeDiff,memAll,vAll,reduceCtorEq,Nat.reduceEqDiff,Nat.reduceAdd,Nat.reduceLT,Nat.reduceLeDiff,Nat.beq]<;>rfl)]
   simp only [c,List.cons.injEq,true_and]
  ·rw [decide_eq_false c] at e1
   simp only [c,List.cons.injEq,false_and,decide_false,resEx,Bool.false_eq_true,if_false]
   simp only [fn27_b0,F1,hx,hy,e1,index_nat hi,index_nat hj,List.length_map,slAll,slsAll,Nat.reduceMul,Nat.reduceBEq,Nat.reduceLT,Nat.reduceLeDiff,memAll,vAll,reduceCtorEq,Nat.reduceEqDiff,Nat.reduceAdd,Nat.reduceLT,Nat.reduceLeDiff,Nat.beq]
 ·intro rb
  rw [List.drop_length,hab,List.drop_length,decide_eq_true rfl]
  unfold resEx
  rw [if_pos rfl]
  simp only [fn27_b0,Int.lt_irrefl,hab,List.length_map,slAll,slsAll,Nat.reduceMul,Nat.reduceBEq,Nat.reduceLT,Nat.reduceLeDiff,memAll,vAll,reduceCtorEq,Nat.reduceEqDiff,Nat.reduceAdd,Nat.reduceLT,Nat.reduceLeDiff,Nat.beq]
theorem cal27 {l m:List (List Exn)} (hl:l.length≤lim) (hr:∀ x∈l,x.length≤lim):cal env 27 [.list 1 (l.map eExs),.list 1 (m.map eExs)]=some [(.bool (decide (l=m)),false)]:=by
 by_cases c:l.length=m.length
 ·have F1:((l.length:Int) != (m.length:Int))=false:=by simp [c]
  rw [cal_code env27 rfl];simp only [fn27,slAll,Nat.reduceBEq,Nat.reduceLeDiff,Nat.reduceAdd,List.length_cons,List.length_nil]
  simp only [F1,List.length_map,slAll,slsAll,Nat.reduceMul,Nat.reduceBEq,Nat.reduceLT,Nat.reduceLeDiff,memAll,vAll,reduceCtorEq,Nat.reduceEqDiff,Nat.reduceAdd,Nat.reduceLT,Nat.reduceLeDiff,Nat.beq]
  rw [loop27 (l:=l) (m:=m) c hl hr]
  rotate_left
  ·simp only [slAll,slsAll,Nat.reduceMul,Nat.reduceBEq,Nat.reduceLT,Nat.reduceLeDiff,Nat.reduceAdd,decide_true,Bool.and_self,Bool.true_and]<;>rfl
  ·simp only [List.drop_zero]
   unfold resEx
   by_cases d:l=m
   ·rw [decide_eq_true d,if_pos rfl];simp only [slAll,slsAll,Nat.reduceMul,Nat.reduceBEq,Nat.reduceLT,Nat.reduceLeDiff,memAll,vAll,reduceCtorEq,Nat.reduceEqDiff,Nat.reduceAdd,Nat.reduceLT,Nat.reduceLeDiff,Nat.beq]
   ·rw [decide_eq_false d,if_neg (by decide)];simp only [slAll,slsAll,Nat.reduceMul,Nat.reduceBEq,Nat.reduceLT,Nat.reduceLeDiff,memAll,vAll,reduceCtorEq,Nat.reduceEqDiff,Nat.reduceAdd,Nat.reduceLT,Nat.reduceLeDiff,Nat.beq]
 ·have F1:((l.length:Int) != (m.length:Int))=true:=by simp;omega
  have d:l≠m:=fun h=>c (by rw [h])
  rw [decide_eq_false d]
  rw [cal_code env27 rfl];simp only [fn27,slAll,Nat.reduceBEq,Nat.reduceLeDiff,Nat.reduceAdd,List.length_cons,List.length_nil]
  simp only [F1,List.length_map,slAll,slsAll,Nat.reduceMul,Nat.reduceBEq,Nat.reduceLT,Nat.reduceLeDiff,memAll,vAll,reduceCtorEq,Nat.reduceEqDiff,Nat.reduceAdd,Nat.reduceLT,Nat.reduceLeDiff,Nat.beq]
theorem ext_le48 (p:Nat→Bool):∀ n,(ext p n).length≤n
 |0=>Nat.le_refl _
 |n+1=>by
  have:=ext_le48 p n
  rw [ext_succ]
  split
  ·unfold addAt
   split
   ·split
    ·simp;omega
    ·simp;omega
   ·simp
  ·omega
theorem btO_len48 (a b:Pt) (h:a.img.length≤9) (hv:∀ v∈a.img,v.length≤24):(btO a b).length≤9∧∀ x∈btO a b,x.length≤24:=by
 unfold btO
 split
 ·refine ⟨by rw [btw_len];exact h,fun x hx=>?_⟩
  unfold btw at hx
  obtain ⟨i,hi,rfl⟩:=List.mem_map.1 hx
  refine Nat.le_trans (ext_le48 _ _) ?_
  have hi:=List.mem_range.1 hi
  unfold vLen
  rw [List.getD_eq_getElem?_getD,List.getElem?_eq_getElem hi]
  exact hv _ (List.getElem_mem hi)
 ·exact ⟨Nat.zero_le _,fun x hx=>by cases hx⟩
set_option maxRecDepth 20000 in
theorem cal7 {p:Prc} {a b:Pt}:cal env 7 [ePt a,ePt b,ePrc p]=some [(.bool true,false)]:=by
 have aw:=calAwake
 have hlim:lim=1073741824:=rfl
 have w1:=cal10 (p:=a)
 have w2:=cal10 (p:=b)
 rw [ePt_eq] at w1 w2
 cases hA:few48 a with
 |false =>
  rw [hA] at w1
  rw [ePrc_eq,ePt_eq,ePt_eq]
  rw [cal_code env7 rfl];simp only [fn7,slAll,Nat.reduceBEq,Nat.reduceLeDiff,Nat.reduceAdd,List.length_cons,List.length_nil]
  simp only [aw,w1,slAll,slsAll,Nat.reduceMul,Nat.reduceBEq,Nat.reduceLT,Nat.reduceLeDiff,memAll,vAll,reduceCtorEq,Nat.reduceEqDiff,Nat.reduceAdd,Nat.reduceLT,Nat.reduceLeDiff,Nat.beq]
 |true =>
  cases hB:few48 b with
  |false =>
   rw [hA] at w1
   rw [hB] at w2
   rw [ePrc_eq,ePt_eq,ePt_eq]
   rw [cal_code env7 rfl];simp only [fn7,slAll,Nat.reduceBEq,Nat.reduceLeDiff,Nat.reduceAdd,List.length_cons,List.length_nil]
   simp only [aw,w1,w2,slAll,slsAll,Nat.reduceMul,Nat.reduceBEq,Nat.reduceLT,Nat.reduceLeDiff,memAll,vAll,reduceCtorEq,Nat.reduceEqDiff,Nat.reduceAdd,Nat.reduceLT,Nat.reduceLeDiff,Nat.beq]
  |true =>
   rw [hA] at w1
   rw [hB] at w2
   obtain ⟨fa,_,_,a1,a2,_⟩:=few48_of hA
   obtain ⟨fb,_,_,b1,b2,_⟩:=few48_of hB
   have e1:=cal24 (ep:=p.ep) fa fb
   have e2:=cal26 (ep:=p.ep) fa fb
   have e3:=cal28 (p:=p)
   have e4:=cal29 (p:=p)
   obtain ⟨l1,l2⟩:=btO_len48 a b a1 a2
   have hL:(begL a b p.ep).length≤lim∧∀ x∈begL a b p.ep,x.length≤lim:=by
    unfold begL
    split
    ·exact ⟨by omega,fun x hx=>by have:=l2 x hx;omega⟩
    ·exact ⟨Nat.zero_le _,fun x hx=>by cases hx⟩
   have e5:=cal27 (l:=begL a b p.ep) (m:=begL a b p.ep) hL.1 hL.2
   rw [decide_eq_true rfl] at e5
   have N:∀ n:Int,(n==n)=true:=fun n=>by simp
   rw [ePt_eq,ePt_eq] at e1 e2
   rw [ePrc_eq] at e3 e4
   generalize begO a b p.ep=o at *
   rw [ePrc_eq o] at e1 e2
   have M:=prcMix o
   have MP:=prcPart o
   have MP2:=prcPart p
   generalize begE a b p.ep=r at *
   generalize begL a b p.ep=ll at *
   generalize fmE p=s at *
   rw [ePrc_eq,ePt_eq,ePt_eq]
   rw [cal_code env7 rfl];simp only [fn7,slAll,Nat.reduceBEq,Nat.reduceLeDiff,Nat.reduceAdd,List.length_cons,List.length_nil]
   simp only [aw,w1,w2,e1,e2,e3,e4,e5,N,M,MP,MP2,slAll,slsAll,Nat.reduceMul,Nat.reduceBEq,Nat.reduceLT,Nat.reduceLeDiff,memAll,vAll,reduceCtorEq,Nat.reduceEqDiff,Nat.reduceAdd,Nat.reduceLT,Nat.reduceLeDiff,Nat.beq]
end Go.Proofs.YtioijcfcehhmdaaGreatDoor.V

namespace Go.Proofs.YtioijcfcehhmdaaGreatDoor
open Go.RowKit
theorem laidTabEq:(Rows.laid_math_bits_deBruijn64tab:DataW Unit)=Lib.tabData .u8 (Lib.deBruijn64tab.map Int.ofNat):=by kernel_rfl
theorem tabG:Tryz.prog.globalNamed "math/bits.deBruijn64tab"=some 0:=by kernel_rfl
theorem globIn_of_laid {w:World} {l:List (String × DataW Unit)} (hl:l=[("math/bits.deBruijn64tab",Rows.laid_math_bits_deBruijn64tab)]) (h:laidMetH Tryz.prog l w):GlobIn w:=by
 subst hl
 rw [MakeChecks.laidMetH_plain _ _ _ (by kernel_rfl),laidTabEq] at h
 have ht:Lib.TabIs Tryz.prog w "math/bits.deBruijn64tab" .u8 (Lib.deBruijn64tab.map Int.ofNat) :=
  Lib.tabIs_of_head (t:=204) (e:=5) (n:=64) tabG (by kernel_rfl) (by kernel_rfl) (by kernel_rfl) (by kernel_rfl) (by kernel_rfl) h
 have hc:∀ i,i<64→w.cell? ⟨0,i,none⟩=some (.int .u8 ((Lib.deBruijn64tab.map Int.ofNat).getD i 0)):=fun i hi=>ht.cell tabG i (by simpa [Lib.deBruijn64tab] using hi)
 have hC:Cellish w 0:=cellish_of (hc 0 (by decide))
 intro p hp
 obtain rfl:p=_:=List.mem_singleton.1 hp
 refine .iptr _ 0 _ 0 (fun i=>.int .u8 ((Lib.deBruijn64tab.map Int.ofNat).getD i 0)) (if_pos hC.lt) hC (fun k x hk=>?_) (fun k x hk=>?_)
 ·have hk':=(List.getElem?_eq_some_iff.1 hk).1
  rw [Nat.zero_add]
  exact ⟨hc k (by simpa [Lib.deBruijn64tab] using hk'),rfl⟩
 ·simp only [List.getElem?_map] at hk
  cases e:Lib.deBruijn64tab[k]? with
  |none=>rw [e] at hk;cases hk
  |some n =>
   rw [e] at hk;cases hk
   have:(Lib.deBruijn64tab.map Int.ofNat).getD k 0=(n:Int):=by simp [List.getD_eq_getElem?_getD,e]
   rw [this]
   exact .int _ _
end Go.Proofs.YtioijcfcehhmdaaGreatDoor

namespace Go.Proofs.YtioijcfcehhmdaaGreatDoor.V
open Go.RowKit Go.ChangeShapes Go.WideShapes Go.ChangeAt
theorem Tryz.ownKnobV:ownKnob Tryz.prog.godebug=none:=by kernel_rfl
theorem Tryz.laidOutV:laidOutB Tryz.prog=true:=by kernel_rfl
def okI (n:Int):Prop:=-9223372036854775808≤n∧n≤9223372036854775807
theorem sint_i64 {q:PV} (h:SInt .i64 [q]):∃ n,okI n∧q=eI n:=by
 obtain ⟨n,h1,h2⟩:=h
 have h3:IntKind.i64.min=-9223372036854775808:=rfl
 have h4:IntKind.i64.max=9223372036854775807:=rfl
 simp only [Lit.wf,Bool.and_eq_true,decide_eq_true_eq] at h1
 cases h2
 exact ⟨n,⟨by omega,by omega⟩,rfl⟩
theorem sint_u8 {q:PV} (h:SInt .u8 [q]):∃ b:UInt8,q=.int .u8 (b.toNat:Int):=by
 obtain ⟨n,h1,h2⟩:=h
 have h3:IntKind.u8.min=0:=rfl
 have h4:IntKind.u8.max=255:=rfl
 simp only [Lit.wf,Bool.and_eq_true,decide_eq_true_eq] at h1
 cases h2
 refine ⟨UInt8.ofNat n.toNat,?_⟩
 rw [UInt8.toNat_ofNat_of_lt' (show n.toNat<2 ^ 8 by omega)]
 congr 1;omega
def SSec:List PV→Prop:=SArr 8 (SInt .u8)
theorem ssec {ps:List PV} (h:SSec ps):∃ s:Sec,ps=secPV s:=by
 obtain ⟨h1,h2⟩:=h
 have:∀ l:List PV,(∀ p∈l,SInt .u8 [p])→∃ m:List UInt8,m.length=l.length∧l=m.map fun b=>.int .u8 (b.toNat:Int):=by
  intro l
  induction l with
  |nil=>exact fun _=>⟨[],rfl,rfl⟩
  |cons p l ih =>
   intro h
   obtain ⟨b,hb⟩:=sint_u8 (h p (by simp))
   obtain ⟨m,e1,e2⟩:=ih fun q hq=>h q (by simp [hq])
   exact ⟨b :: m,by simp [e1],by rw [hb,e2];rfl⟩
 obtain ⟨m,e1,e2⟩:=this ps h2
 refine ⟨⟨m.toArray,by simp [e1,h1]⟩,?_⟩
 subst e2
 simp [secPV,Vector.toList]
theorem slist {α:Type} {n:Nat} {S:List PV→Prop} {wr:List PV→PV} {enc:α→PV} {ok:α→Prop} (hS:∀ ps,S ps→∃ a,ok a∧wr ps=enc a) {q:PV} (h:SList n S wr [q]):∃ l:List α,(∀ a∈l,ok a)∧q=.list n (l.map enc):=by
 obtain ⟨es,h1,h2⟩:=h
 cases h1
 have:∀ es:List PV,(∀ x∈es,∃ q,S q∧x=wr q)→∃ l:List α,(∀ a∈l,ok a)∧es=l.map enc:=by
  intro es
  induction es with
  |nil=>exact fun _=>⟨[],by simp,rfl⟩
  |cons e es ih =>
   intro h
   obtain ⟨q,h3,h4⟩:=h e (by simp)
   obtain ⟨a,h5,h6⟩:=hS q h3
   obtain ⟨l,h7,h8⟩:=ih fun x hx=>h x (by simp [hx])
   exact ⟨a :: l,by simp;exact ⟨h5,h7⟩,by rw [h4,h6,h8];rfl⟩
 obtain ⟨l,h3,h4⟩:=this es h2
 exact ⟨l,h3,by rw [h4]⟩
theorem wr_int {k:IntKind} {ps:List PV} (h:SInt k ps):(wrS ps).cells=ps:=by
 obtain ⟨n,_,rfl⟩:=h;rfl
theorem wr_list {n:Nat} {S:List PV→Prop} {wr:List PV→PV} {ps:List PV} (h:SList n S wr ps):(wrS ps).cells=ps:=by
 obtain ⟨es,rfl,_⟩:=h;rfl
def SSecs:List PV→Prop:=SList 8 SSec .agg
theorem ssecs {q:PV} (h:SSecs [q]):∃ l:List Sec,q=eSecs l:=by
 obtain ⟨l,_,e⟩:=slist (enc:=eSec) (ok:=fun _=>True) (fun ps h=>by obtain ⟨s,rfl⟩:=ssec h;exact ⟨s,trivial,rfl⟩) h
 exact ⟨l,e⟩
def SImg:List PV→Prop:=SList 1 SSecs wrS
theorem simg {q:PV} (h:SImg [q]):∃ l:Img,q=.list 1 (l.map eSecs):=by
 obtain ⟨l,_,e⟩:=slist (enc:=eSecs) (ok:=fun _=>True) (fun ps h=>by
  obtain ⟨es,rfl,h2⟩:=h
  obtain ⟨l,e⟩:=ssecs (q:=.list 8 es) ⟨es,rfl,h2⟩
  exact ⟨l,trivial,e⟩) h
 exact ⟨l,e⟩
theorem Tryz.rdInt:RdsC Tryz.prog 3 1 (SInt .i64):=RdsC.int Tryz.underlying3 (by kernel_rfl)
theorem Tryz.rdU8:RdsC Tryz.prog 5 1 (SInt .u8):=RdsC.int Tryz.underlying5 (by kernel_rfl)
theorem Tryz.rdSec:RdsC Tryz.prog 68 8 SSec:=RdsC.arr Tryz.underlying68 Tryz.rdU8 (by kernel_rfl)
theorem Tryz.rdSecs:RdsC Tryz.prog 66 1 SSecs:=RdsC.list Tryz.underlying66 (by kernel_rfl) Tryz.rdSec (by decide) (fun _ _ _=>rfl)
theorem Tryz.rdImg:RdsC Tryz.prog 27 1 SImg:=RdsC.list Tryz.underlying27 (by kernel_rfl) Tryz.rdSecs (by decide) (fun _ h _=>wr_list h)
end Go.Proofs.YtioijcfcehhmdaaGreatDoor.V

namespace Go.Proofs.YtioijcfcehhmdaaGreatDoor.V
open Go.RowKit Go.ChangeShapes Go.WideShapes Go.ChangeAt
def okSpn (x:Spn):Prop:=okI x.epoch∧okI x.fr∧okI x.to
def SSpn:List PV→Prop:=SCat [SInt .i64,SInt .i64,SInt .i64]
theorem sspn {ps:List PV} (h:SSpn ps):∃ x:Spn,okSpn x∧PV.agg ps=eSpn x:=by
 obtain ⟨p,q,rfl,⟨n,h1,rfl⟩,p2,q2,rfl,⟨m,h2,rfl⟩,p3,q3,rfl,⟨k,h3,rfl⟩,rfl⟩:=h
 obtain ⟨a,o1,e1⟩:=sint_i64 ⟨n,h1,rfl⟩
 obtain ⟨b,o2,e2⟩:=sint_i64 ⟨m,h2,rfl⟩
 obtain ⟨c,o3,e3⟩:=sint_i64 ⟨k,h3,rfl⟩
 refine ⟨⟨a,b,c⟩,⟨o1,o2,o3⟩,?_⟩
 rw [e1,e2,e3];rfl
def SSpns:List PV→Prop:=SList 3 SSpn .agg
theorem sspns {q:PV} (h:SSpns [q]):∃ l:List Spn,q=.list 3 (l.map eSpn):=by
 obtain ⟨l,_,e⟩:=slist (enc:=eSpn) (ok:=okSpn) (fun ps h=>sspn h) h
 exact ⟨l,e⟩
theorem Tryz.rdSpn:RdsC Tryz.prog 147 3 SSpn:=RdsC.struct3 Tryz.underlying147 Tryz.rdInt Tryz.rdInt Tryz.rdInt rfl rfl rfl (by kernel_rfl)
theorem Tryz.rdSpns:RdsC Tryz.prog 24 1 SSpns:=RdsC.list Tryz.underlying24 (by kernel_rfl) Tryz.rdSpn (by decide) (fun _ _ _=>rfl)
end Go.Proofs.YtioijcfcehhmdaaGreatDoor.V

namespace Go.Proofs.YtioijcfcehhmdaaGreatDoor
open V
open Go.RowKit Go.ChangeShapes Go.WideShapes Go.ChangeAt
theorem sint_w {ps:List PV} (h:SInt .u64 ps):∃ w:Wd,ps=[eW w]:=by
 obtain ⟨n,h1,rfl⟩:=h
 have h2:0≤n∧n<18446744073709551616:=by
  simp only [Lit.wf,IntKind.min,IntKind.max,IntKind.signed,IntKind.bits,Bool.and_eq_true,decide_eq_true_eq] at h1
  refine ⟨by simpa using h1.1,?_⟩
  have:=h1.2
  simp at this
  omega
 refine ⟨BitVec.ofNat 64 n.toNat,?_⟩
 unfold eW
 rw [BitVec.toNat_ofNat,Nat.mod_eq_of_lt (by omega),Int.toNat_of_nonneg h2.1]
def SWds:List PV→Prop:=SList 1 (SInt .u64) wrS
theorem swds {q:PV} (h:SWds [q]):∃ l:List Wd,q=.list 1 (l.map eW):=by
 obtain ⟨l,_,e⟩:=slist (enc:=eW) (ok:=fun _=>True) (fun ps h=>by
  obtain ⟨w,rfl⟩:=sint_w h
  exact ⟨w,trivial,rfl⟩) h
 exact ⟨l,e⟩
def SBm:List PV→Prop:=SCat [SInt .i64,SWds]
theorem sbm {ps:List PV} (h:SBm ps):∃ b:Bm,PV.agg ps=eBm b:=by
 obtain ⟨p,q,rfl,⟨n,h1,rfl⟩,p2,q2,rfl,h2,rfl⟩:=h
 obtain ⟨es,rfl,h3⟩:=h2
 obtain ⟨l,e⟩:=swds (q:=.list 1 es) ⟨es,rfl,h3⟩
 refine ⟨⟨n,l⟩,?_⟩
 rw [e];rfl
def SBms:List PV→Prop:=SList 2 SBm .agg
theorem sbms {q:PV} (h:SBms [q]):∃ l:List Bm,q=.list 2 (l.map eBm):=by
 obtain ⟨l,_,e⟩:=slist (enc:=eBm) (ok:=fun _=>True) (fun ps h=>by
  obtain ⟨b,e⟩:=sbm h
  exact ⟨b,trivial,e⟩) h
 exact ⟨l,e⟩
theorem Tryz.rdWd:RdsC Tryz.prog 144 1 (SInt .u64):=RdsC.int Tryz.underlying144 (by kernel_rfl)
theorem Tryz.rdWds:RdsC Tryz.prog 87 1 SWds:=RdsC.list Tryz.underlying87 (by kernel_rfl) Tryz.rdWd (by decide) (fun _ h _=>wr_int h)
theorem Tryz.rdBm:RdsC Tryz.prog 89 2 SBm:=RdsC.struct2 Tryz.underlying89 Tryz.rdInt Tryz.rdWds rfl rfl (by kernel_rfl)
theorem Tryz.rdBms:RdsC Tryz.prog 25 1 SBms:=RdsC.list Tryz.underlying25 (by kernel_rfl) Tryz.rdBm (by decide) (fun _ _ _=>rfl)
end Go.Proofs.YtioijcfcehhmdaaGreatDoor

namespace Go.Proofs.YtioijcfcehhmdaaGreatDoor
open V
open Go.RowKit Go.ChangeShapes Go.WideShapes Go.ChangeAt
def SPt:List PV→Prop:=SCat [SInt .i64,SSpns,SBms,SImg]
theorem spt {ps:List PV} (h:SPt ps):∃ p:Pt,PV.agg ps=ePt p:=by
 obtain ⟨p,q,rfl,⟨n,h1,rfl⟩,p2,q2,rfl,h2,p3,q3,rfl,h3,p4,q4,rfl,h4,rfl⟩:=h
 obtain ⟨es2,rfl,g2⟩:=h2
 obtain ⟨es3,rfl,g3⟩:=h3
 obtain ⟨es4,rfl,g4⟩:=h4
 obtain ⟨l,e2⟩:=sspns (q:=.list 3 es2) ⟨es2,rfl,g2⟩
 obtain ⟨d,e3⟩:=sbms (q:=.list 2 es3) ⟨es3,rfl,g3⟩
 obtain ⟨m,e4⟩:=simg (q:=.list 1 es4) ⟨es4,rfl,g4⟩
 refine ⟨⟨n,l,d,m⟩,?_⟩
 rw [e2,e3,e4];rfl
theorem Tryz.rdBl:RdsC Tryz.prog 4 1 SBool:=RdsC.bool Tryz.underlying4 (by kernel_rfl)
theorem Tryz.rdPt:RdsC Tryz.prog 29 4 SPt:=RdsC.struct4 Tryz.underlying29 Tryz.rdInt Tryz.rdSpns Tryz.rdBms Tryz.rdImg rfl rfl rfl rfl (by kernel_rfl)
end Go.Proofs.YtioijcfcehhmdaaGreatDoor

namespace Go.Proofs.YtioijcfcehhmdaaGreatDoor
open V
open Go.RowKit Go.ChangeShapes Go.WideShapes Go.ChangeAt
def SPrc:List PV→Prop:=SCat [SInt .i64,SInt .i64,SInt .i64,SInt .i64,SInt .i64,SInt .i64,SBool,SBool]
theorem sprc {ps:List PV} (h:SPrc ps):∃ p:Prc,PV.agg ps=ePrc p:=by
 obtain ⟨p,q,rfl,⟨n,h1,rfl⟩,p2,q2,rfl,⟨n2,h2,rfl⟩,p3,q3,rfl,⟨n3,h3,rfl⟩,p4,q4,rfl,⟨n4,h4,rfl⟩,p5,q5,rfl,⟨n5,h5,rfl⟩,p6,q6,rfl,⟨n6,h6,rfl⟩,p7,q7,rfl,⟨b7,rfl⟩,p8,q8,rfl,⟨b8,rfl⟩,rfl⟩:=h
 exact ⟨⟨n,n2,n3,n4,n5,n6,b7,b8⟩,rfl⟩
theorem Tryz.rdPrc:RdsC Tryz.prog 23 8 SPrc:=RdsC.struct8 Tryz.underlying23 Tryz.rdInt Tryz.rdInt Tryz.rdInt Tryz.rdInt Tryz.rdInt Tryz.rdInt Tryz.rdBl Tryz.rdBl rfl rfl rfl rfl rfl rfl rfl rfl (by kernel_rfl)
end Go.Proofs.YtioijcfcehhmdaaGreatDoor
