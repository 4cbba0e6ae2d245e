/-
  Part 11 of the texts that the statement stands on.
-/
import Derived.Test.YtdahanchdjadiaaDoorZ10
import Derived.ProofKit
import Derived.SizedLaws
import Derived.OpenShut
import Derived.Deep.Strs
import Derived.Lib.SliceRun
import Derived.WalkSpells
set_option linter.all false
namespace Go.Proofs.YtdahanchdjadiaaDoor.V
theorem ah9 {m:iq} (h:jT m) (s w:BV) (x:Bool):List.take 128 (mD m s w)++[BV.pv (.bool x)]++List.drop 129 (mD m s w)=mD ⟨m.log,m.st,m.a,m.b,m.ws,m.nx,x⟩ s w:=by
 refine (take_set _ (by rw [dV h];decide)).trans ?_
 rw [vF,List.set_comm _ _ (by decide),aad h];rfl
theorem aia {m:iq} (h:jT m) (s w x:BV):List.take 126 (mD m s w)++[x]++List.drop 127 (mD m s w)=mD m s x:=(take_set _ (by rw [dV h];decide)).trans (fE h s w x)
theorem P6 {m:iq} (h:jT m) (s w:BV):(mD m s w)[128]?=some (.pv (.bool m.ok)):=by rw [vF,List.getElem?_set_ne (by decide),afA h]
set_option maxRecDepth 20000 in
theorem afI {n g:Int} {m:iq} {j:fZ} {c:Nat} {x:tY} (h:Inv n g m j c) (hn:n≤60) (hc:c≤100) (hx:okV x) (hK:x.kd % 5=3) {w:Pnd} (hw:m.ws[x.wh % m.ws.length]?=some w) (hf:w.f=true) (hs:w.s=true):cal env 13 [oV m,tH x]=some [(oV (EK m x (x.wh % m.ws.length) w),false)]:=by
 have hm:=h.ms
 obtain ⟨hkl,hkw⟩:=List.getElem?_eq_some_iff.1 hw
 have hwl:=h.wl
 obtain ⟨x1,x2,x3,x4⟩:=hx
 have hk5:(x.kd:Int).tmod 5=3:=by rw [Int.tmod_eq_emod_of_nonneg (by omega)];omega
 have F5:((5:Int)=0)=False:=eq_false (by decide)
 have E0:((3:Int)==0)=false:=rfl
 have E4:((3:Int)==4)=false:=rfl
 have E3:((3:Int)==3)=true:=rfl
 have EL:((m.ws.length:Int)==0)=false:=by simp;intro e;rw [e] at hkl;simp at hkl
 have FL:((m.ws.length:Int)=0)=False:=eq_false (by omega)
 have W1:IntKind.i64.wrap (x.wh:Int)=x.wh:=ay (by omega)
 have MW:(x.wh:Int).tmod (m.ws.length:Int)=((x.wh % m.ws.length:Nat):Int):=by rw [Int.tmod_eq_emod_of_nonneg (by omega)];rfl
 have hb:=iI.1 (h.wf w.e (List.mem_map_of_mem (List.mem_of_getElem? hw)))
 have aib:=Jr h hn x hw
 have aic:okP (m.ws.set (x.wh % m.ws.length) (kS x w)):=fun p hp=>by
  have:=iI.1 (aib.wf p.e (List.mem_map_of_mem (show p∈(mM m x (x.wh % m.ws.length) w).ws from hp)))
  unfold inP;omega
 have hQ0:EK m x (x.wh % m.ws.length) w=if Gv (mM m x (x.wh % m.ws.length) w).ws (x.wh % m.ws.length) w.e 0=false then Jp (mM m x (x.wh % m.ws.length) w) (x.wh % m.ws.length) w.e else mM m x (x.wh % m.ws.length) w:=by
  unfold EK
  have c1:(kS x w).f=true:=by unfold kS;rw [hf];rfl
  have c2:(kS x w).s=true:=by unfold kS;rw [hs];rfl
  split<;>rename_i hh
  ·rw [if_pos hh.2.2.2]
  ·rw [if_neg (fun q=>hh ⟨hK,c1,c2,q⟩)]
 have hend:=(Js aib hn (k:=x.wh % m.ws.length) (w:=kS x w) (show (m.ws.set _ _)[_]?=_ by rw [List.getElem?_set_self hkl]) (by unfold kS;rw [hf];rfl) (by unfold kS;rw [hs];rfl)).2
 have hlE:(mM m x (x.wh % m.ws.length) w).log=m.log:=rfl
 rw [hlE,show (kS x w).e=w.e from rfl] at hend
 rw [hQ0]
 obtain ⟨k,hk⟩:∃ k,x.wh % m.ws.length=k:=⟨_,rfl⟩
 rw [hk] at hkl hw MW aic ⊢
 have hxk:(m.ws.map fG)[k]?=some (.agg [.int .i64 w.e.start,.int .i64 w.e.count,.bool w.f,.bool w.s,.int .i64 w.v]):=by rw [List.getElem?_map,hw];rfl
 have hP:=AX hm 3 w w.e.count.toNat
 have VF:=Jv (m:=m) (K:=3) (w:=w) (by omega)
 obtain ⟨PE,PZ⟩:∃ PE,pM m 3 w w.e.count.toNat=PE:=⟨_,rfl⟩
 have HL:∀ log st ws nx ok,jT ⟨log,st,PE.a,PE.b,ws,nx,ok⟩:=fun _ _ _ _ _=>by rw [← PZ];exact hP
 rw [PZ] at hP VF
 have hPl:PE.log=m.log:=by rw [VF]
 have hPo:PE.ok=true:=by rw [VF];exact h.ok
 have hws:kS x w=⟨w.e,true,true,w.v⟩:=by unfold kS;rw [hf,hs];rfl
 obtain ⟨U,hU⟩:∃ U,m.ws.set k (kS x w)=U:=⟨_,rfl⟩
 have hUl:U.length=m.ws.length:=by rw [← hU];simp
 have hUk:U[k]?=some (kS x w):=by rw [← hU,List.getElem?_set_self hkl]
 have hQ:mM m x k w=⟨PE.log,m.st,PE.a,PE.b,U,PE.nx,PE.ok⟩:=by rw [VF];unfold mM;rw [hK,hU]
 have L0:m.ws.length≤lim:=by unfold lim;omega
 have S0:w.e.start+((0:Nat):Int)=w.e.start:=by omega
 have q:(m.ws.map fG).set k (.agg [.int .i64 w.e.start,.int .i64 w.e.count,.bool true,.bool true,.int .i64 w.v])=U.map fG:=by rw [← hU,hws,List.map_set];rfl
 have hloop:=fun st=>Ju (m:=m) (x:=x) (w:=w) (kk:=k) (K:=3) hm hK (by decide) x1 (by omega) (st:=st)
 rw [PZ] at hloop
 have hOv:cal env 14 [.agg (mV ⟨PE.log,m.st,PE.a,PE.b,U,PE.nx,PE.ok⟩),.int .i64 (k:Int)]=some [(.bool (Gv U k w.e 0),false)]:=by
  have hlt:k<U.length:=by rw [hUl];exact hkl
  have:=ad3 (m:=⟨PE.log,m.st,PE.a,PE.b,U,PE.nx,PE.ok⟩) (k:=k) (HL _ _ _ _ _) (by show U.length≤1000000;omega) (by show okP U;rw [← hU];exact aic) hlt
  rw [cZ] at this
  rw [this]
  have:U[k]=kS x w:=by have:=(List.getElem?_eq_some_iff.1 hUk).2;exact this
  show some [(PV.bool (Gv U k U[k].e 0),false)]=_
  rw [this];rfl
 obtain ⟨i1,i2,i3,i4,i5⟩:=bU.1 h.lg
 have hla:m.log.act.length≤lim:=by have:=lq i1;have:=bT.1 i1;unfold lim;omega
 obtain ⟨I,hI⟩:∃ I,JH sU nV m.log w.e=I:=⟨_,rfl⟩
 have hEn:cal env 17 [kL m.log,.agg [.int .i64 w.e.start,.int .i64 w.e.count]]=some [(.agg [.int .i64 I.size,.int .i64 I.aZ,.list 1 (I.act.map eI),.int .i64 I.bm.size,.list 1 (I.bm.ws.map eW)],false),(.int .i64 0,false)]:=by
  have:=adT (e:=w.e) hla
  rw [hI,hend] at this
  exact this
 rw [hQ]
 show cal env 13 [oV m,tH x]=some [(oV (if Gv U k w.e 0=false then Jp ⟨PE.log,m.st,PE.a,PE.b,U,PE.nx,PE.ok⟩ k w.e else ⟨PE.log,m.st,PE.a,PE.b,U,PE.nx,PE.ok⟩),false)]
 have hEM:Jp ⟨PE.log,m.st,PE.a,PE.b,U,PE.nx,PE.ok⟩ k w.e=⟨I,m.st,PE.a,PE.b,U.take k++U.drop (k+1),PE.nx,true⟩:=by
  unfold Jp
  simp only [hPl,hI,hend,hPo]
  rfl
 rw [hEM]
 have P5:∀ a b c d e:PV,part [a,b,c,d,e] 0 (some 5)=some (.agg [a,b,c,d,e]):=fun _ _ _ _ _=>rfl
 have P2:∀ x0 x1 x2 x3 x4:PV,part [x0,x1,x2,x3,x4] 0 (some 2)=some (.agg [x0,x1]):=fun _ _ _ _ _=>rfl
 have C0:(0≤(k:Int))=True:=eq_true (by omega)
 have C1:((k:Int)≤(m.ws.length:Int))=True:=eq_true (by omega)
 have C2:(0≤((k+1:Nat):Int))=True:=eq_true (by omega)
 have C3:(((k+1:Nat):Int)≤(m.ws.length:Int))=True:=eq_true (by omega)
 have T1:List.take (m.ws.length - (k+1)) (List.drop (k+1) (List.map fG U))=List.drop (k+1) (List.map fG U):=List.take_of_length_le (by simp;omega)
 have T2:(List.take k (List.map fG U)).length+(List.drop (k+1) (List.map fG U)).length≤lim:=by unfold lim;simp;omega
 have T3:List.take k (List.map fG U)++List.drop (k+1) (List.map fG U)=(U.take k++U.drop (k+1)).map fG:=by rw [List.map_append,List.map_take,List.map_drop]
 have WK:IntKind.i64.wrap ((k:Int)+1)=((k+1:Nat):Int):=by rw [ay (by omega)];omega
 rw [cZ,kT]
 rw [ah AO rfl];simp only [Bj,aG,Nat.reduceBEq,Nat.reduceLeDiff,Nat.reduceAdd,List.length_cons,List.length_nil]
 simp only [iM,dV,gW,fE,dJ,jY,mQ,iL,hm,hP,HL,hk5,F5,E0,E4,EL,FL,W1,MW,aj hkl,hxk,L0,fF,dL,List.length_map,ak,Nat.reduceMul,Nat.reduceBEq,Nat.reduceLT,Nat.reduceLeDiff,reduceCtorEq,Nat.reduceEqDiff,Nat.reduceAdd,Nat.beq]
 rw [hloop _ (by simp only [Cb,jv,S0];simp only [aG,bY,Nat.reduceMul,Nat.reduceBEq,Nat.reduceLT,Nat.reduceLeDiff,Nat.reduceAdd,decide_true,Bool.and_self,Bool.true_and]<;>rfl)]
 cases hov:Gv U k w.e 0 with
 |true =>
  rw [hov] at hOv
  rw [if_neg (by decide),cZ]
  simp only [jv,hf,hs,q,hOv,iM,dV,gW,fE,dJ,jY,mQ,iL,hm,hP,HL,hk5,F5,E0,E3,E4,EL,FL,W1,MW,aj hkl,hxk,L0,fF,dL,List.length_map,ak,Nat.reduceMul,Nat.reduceBEq,Nat.reduceLT,Nat.reduceLeDiff,reduceCtorEq,Nat.reduceEqDiff,Nat.reduceAdd,Nat.beq]
  done
 |false =>
  rw [hov] at hOv
  rw [if_pos rfl,cZ]
  rw [hPl,hPo] at hOv
  simp only [jv,hf,hs,q,hOv,hPl,hEn,P5,P2,WK,C0,C1,C2,C3,T1,T2,T3,Int.toNat_natCast,D6,rF,P6,ah9,aia,hPo,iM,dV,gW,fE,dJ,jY,mQ,iL,hm,hP,HL,hk5,F5,E0,E3,E4,EL,FL,W1,MW,aj hkl,hxk,L0,hUl,fF,dL,List.length_map,ak,Nat.reduceMul,Nat.reduceBEq,Nat.reduceLT,Nat.reduceLeDiff,reduceCtorEq,Nat.reduceEqDiff,Nat.reduceAdd,Nat.beq]
  done
end Go.Proofs.YtdahanchdjadiaaDoor.V

namespace Go.Proofs.YtdahanchdjadiaaDoor.V
theorem aie {n g:Int} {m:iq} {j:fZ} {c:Nat} {x:tY} (h:Inv n g m j c) (hn:n≤60) (hc:c≤100) (hx:okV x):cal env 13 [oV m,tH x]=some [(oV (pU m x),false)]:=by
 by_cases k0:x.kd % 5=0
 ·exact afE h hn hc hx k0
 by_cases k4:x.kd % 5=4
 ·exact afG h hn hx k4
 unfold pU
 rw [if_neg k0,if_neg k4]
 cases hw:m.ws[x.wh % m.ws.length]? with
 |none =>
  refine afH h hx k0 k4 ?_
  rcases Nat.eq_zero_or_pos m.ws.length with e|e
  ·exact List.eq_nil_of_length_eq_zero e
  ·rw [List.getElem?_eq_getElem (Nat.mod_lt _ e)] at hw;cases hw
 |some w =>
  simp only
  by_cases k3:x.kd % 5=3
  ·by_cases hfs:w.f=true∧w.s=true
   ·exact afI h hn hc hx k3 hw hfs.1 hfs.2
   ·have hnot:¬ ((kS x w).f=true∧(kS x w).s=true):=by
     unfold kS
     simp only [k3]
     simpa using hfs
    have e:EK m x (x.wh % m.ws.length) w=mM m x (x.wh % m.ws.length) w:=by
     unfold EK
     rw [if_neg (fun q=>hnot ⟨q.2.1,q.2.2.1⟩)]
    rw [e]
    refine ade h hn hc hx k3 hw (.inr ?_)
    cases hf:w.f with
    |false=>exact .inl rfl
    |true =>
     cases hs:w.s with
     |false=>exact .inr rfl
     |true=>exact absurd ⟨hf,hs⟩ hfs
  ·have e:EK m x (x.wh % m.ws.length) w=mM m x (x.wh % m.ws.length) w:=by
    unfold EK
    rw [if_neg (fun q=>k3 q.1)]
   rw [e]
   rcases (by omega:x.kd % 5=1∨x.kd % 5=2) with k|k
   ·exact ada h hn hc hx k hw (.inl (by decide))
   ·exact adb h hn hc hx k hw (.inl (by decide))
theorem ajh {m:iq} (h:jT m) (s w:BV) {i:Nat} (hi:i<60):(mD m s w)[6+i]?=some (.pv (.int .i64 (m.a.getD i 0))):=by rw [vF,List.getElem?_set_ne (by omega),ajd h _ hi]
theorem aji {m:iq} (h:jT m) (s w:BV) {i:Nat} (hi:i<60):(mD m s w)[66+i]?=some (.pv (.int .i64 (m.b.getD i 0))):=by rw [vF,List.getElem?_set_ne (by omega),aje h _ hi]
theorem aif (m:iq) (s w:BV):(mD m s w)[5]?=some s:=rfl
set_option maxRecDepth 20000 in
theorem afJ {n s:Int} {m:List bD} {A J:List BV} (hl:m.length≤4096) (hm:∀ x∈m,0≤x.start∧1≤x.count∧x.start+x.count≤4096) {st:St} (h:st.head [1,3,8,10,11,12,20] st.boxes.length=some ⟨sl 73 [(1,.pv (.int .i64 n)),(3,.aP 0 0),(8,.row 2 (m.map aW)),(10,.pv (.int .i64 s)),(11,.pv (.bool ((m.take ((0:Nat))).any (inB s)))),(12,.pv (.int .i64 (0:Nat))),(20,.any)],[⟨false,A⟩,⟨false,J⟩],[],none⟩) :
  den env Ie st=some (.normal,⟨sl 73 [(1,.pv (.int .i64 n)),(3,.aP 0 0),(6,.any),(8,.row 2 (m.map aW)),(10,.pv (.int .i64 s)),(11,.pv (.bool (m.any (inB s)))),(20,.any)],[⟨false,A⟩,⟨false,J⟩],[],none⟩):=by
 unfold Ie
 refine dw (env:=env) (nb:=2) (m.length) (fun i=>⟨sl 73 [(1,.pv (.int .i64 n)),(3,.aP 0 0),(8,.row 2 (m.map aW)),(10,.pv (.int .i64 s)),(11,.pv (.bool ((m.take (i)).any (inB s)))),(12,.pv (.int .i64 i)),(20,.any)],[⟨false,A⟩,⟨false,J⟩],[],none⟩) (fun i=>some (.normal,⟨sl 73 [(1,.pv (.int .i64 n)),(3,.aP 0 0),(6,.any),(8,.row 2 (m.map aW)),(10,.pv (.int .i64 s)),(11,.pv (.bool (m.any (inB s)))),(20,.any)],[⟨false,A⟩,⟨false,J⟩],[],none⟩)) h (fun _=>rfl) (fun _=>by simp only [aG,bY,Nat.reduceMul,Nat.reduceBEq,Nat.reduceLT,Nat.reduceLeDiff,Nat.reduceAdd,decide_true,Bool.and_self,Bool.true_and]) ?_ ?_
 ·intro i rb hi ih
  have hi1:=dN hi (by unfold lim;omega)
  have F1:((i:Int)<(m.length:Int))=True:=eq_true (by omega)
  have eX:∀ e:bD,aW e=.agg [.int .i64 e.start,.int .i64 e.count]:=fun _=>rfl
  have hx:(m.map aW)[i]?=some (aW m[i]):=by rw [List.getElem?_map,List.getElem?_eq_getElem hi];rfl
  have q:=hm _ (List.getElem_mem hi)
  have W:IntKind.i64.wrap (m[i].start+m[i].count)=m[i].start+m[i].count:=ay (by omega)
  have hs:(m.take (i+1)).any (inB s)=((m.take i).any (inB s) || inB s m[i]):=by rw [List.take_succ_eq_append_getElem hi,List.any_append];simp
  rw [eX] at hx
  rw [hs] at ih
  cases c:(m.take i).any (inB s) with
  |true =>
   rw [c,Bool.true_or] at ih
   simp only [yN,F1,hx,W,aj hi,List.length_map,ak,Nat.reduceMul,Nat.reduceBEq,Nat.reduceLT,Nat.reduceLeDiff,reduceCtorEq,Nat.reduceEqDiff,Nat.reduceAdd,Nat.beq]
   rw [ih _ (by simp only [hi1,ak,Nat.reduceMul,Nat.reduceBEq,Nat.reduceLT,Nat.reduceLeDiff,reduceCtorEq,Nat.reduceEqDiff,Nat.reduceAdd,Nat.beq]<;>rfl)]
  |false =>
   have hB:inB s m[i]=(decide (m[i].start≤s)&&decide (s<m[i].start+m[i].count)):=rfl
   rw [c,Bool.false_or,hB] at ih
   by_cases c1:m[i].start≤s
   ·have F2:(s ≥ m[i].start)=True:=eq_true c1
    rw [decide_eq_true c1,Bool.true_and] at ih
    simp only [yN,F1,F2,hx,W,aj hi,List.length_map,ak,Nat.reduceMul,Nat.reduceBEq,Nat.reduceLT,Nat.reduceLeDiff,reduceCtorEq,Nat.reduceEqDiff,Nat.reduceAdd,Nat.beq]
    rw [ih _ (by simp only [hi1,ak,Nat.reduceMul,Nat.reduceBEq,Nat.reduceLT,Nat.reduceLeDiff,reduceCtorEq,Nat.reduceEqDiff,Nat.reduceAdd,Nat.beq]<;>rfl)]
   ·have F2:(s ≥ m[i].start)=False:=eq_false c1
    rw [decide_eq_false c1,Bool.false_and] at ih
    simp only [yN,F1,F2,hx,W,aj hi,List.length_map,ak,Nat.reduceMul,Nat.reduceBEq,Nat.reduceLT,Nat.reduceLeDiff,reduceCtorEq,Nat.reduceEqDiff,Nat.reduceAdd,Nat.beq]
    rw [ih _ (by simp only [hi1,ak,Nat.reduceMul,Nat.reduceBEq,Nat.reduceLT,Nat.reduceLeDiff,reduceCtorEq,Nat.reduceEqDiff,Nat.reduceAdd,Nat.beq]<;>rfl)]
 ·intro rb
  rw [List.take_length]
  simp only [yN,Int.lt_irrefl,List.length_map,ak,Nat.reduceMul,Nat.reduceBEq,Nat.reduceLT,Nat.reduceLeDiff,reduceCtorEq,Nat.reduceEqDiff,Nat.reduceAdd,Nat.beq]
set_option maxRecDepth 20000 in
theorem aam {N:Nat} {m:iq} {l:List bD} {J:List BV} (hm:jT m) (hN:N≤60) (hl:l.length≤4096) (hlx:∀ x∈l,0≤x.start∧1≤x.count∧x.start+x.count≤4096) (hin:∀ s:Nat,s<N→m.a.getD s 0≠m.b.getD s 0→l.any (inB (s:Int))=true) {st:St} (h:st.head [1,3,8,10,20] st.boxes.length=some ⟨sl 73 [(1,.pv (.int .i64 (N:Nat))),(3,.aP 0 0),(8,.row 2 (l.map aW)),(10,.pv (.int .i64 (0:Nat))),(20,.any)],[⟨false,mD m (.pv (.list 1 (m.st.map eY))) (.pv (.list 5 (m.ws.map fG)))⟩,⟨false,J⟩],[],none⟩) :
  den env Ih st=some (.normal,⟨sl 73 [(6,.any)],[⟨false,mD m (.pv (.list 1 (m.st.map eY))) (.pv (.list 5 (m.ws.map fG)))⟩,⟨false,J⟩],[],none⟩):=by
 unfold Ih
 refine dw (env:=env) (nb:=2) (N) (fun i=>⟨sl 73 [(1,.pv (.int .i64 (N:Nat))),(3,.aP 0 0),(8,.row 2 (l.map aW)),(10,.pv (.int .i64 i)),(20,.any)],[⟨false,mD m (.pv (.list 1 (m.st.map eY))) (.pv (.list 5 (m.ws.map fG)))⟩,⟨false,J⟩],[],none⟩) (fun i=>some (.normal,⟨sl 73 [(6,.any)],[⟨false,mD m (.pv (.list 1 (m.st.map eY))) (.pv (.list 5 (m.ws.map fG)))⟩,⟨false,J⟩],[],none⟩)) h (fun _=>rfl) (fun _=>by simp only [aG,bY,Nat.reduceMul,Nat.reduceBEq,Nat.reduceLT,Nat.reduceLeDiff,Nat.reduceAdd,decide_true,Bool.and_self,Bool.true_and]) ?_ ?_
 ·intro i rb hi ih
  have hi1:=dN hi (by unfold lim;omega)
  have F1:((i:Int)<(N:Int))=True:=eq_true (by omega)
  have h60:i<60:=by omega
  have ha:=ajh hm (.pv (.list 1 (m.st.map eY))) (.pv (.list 5 (m.ws.map fG))) h60
  have hb:=aji hm (.pv (.list 1 (m.st.map eY))) (.pv (.list 5 (m.ws.map fG))) h60
  simp only [Ig,F1,ak,Nat.reduceMul,Nat.reduceBEq,Nat.reduceLT,Nat.reduceLeDiff,reduceCtorEq,Nat.reduceEqDiff,Nat.reduceAdd,Nat.beq]
  rw [afJ (n:=(N:Int)) (s:=(i:Int)) (m:=l) (J:=J) hl hlx (by simp only [aG,bY,Nat.reduceMul,Nat.reduceBEq,Nat.reduceLT,Nat.reduceLeDiff,Nat.reduceAdd,decide_true,Bool.and_self,Bool.true_and]<;>rfl)]
  cases c:(m.a.getD i 0 != m.b.getD i 0) with
  |true =>
   rw [hin i hi (by simpa using c)]
   simp only [ha,hb,c,aj h60,Nat.mul_one,ak,Nat.reduceMul,Nat.reduceBEq,Nat.reduceLT,Nat.reduceLeDiff,reduceCtorEq,Nat.reduceEqDiff,Nat.reduceAdd,Nat.beq]
   rw [ih _ (by simp only [hi1,ak,Nat.reduceMul,Nat.reduceBEq,Nat.reduceLT,Nat.reduceLeDiff,reduceCtorEq,Nat.reduceEqDiff,Nat.reduceAdd,Nat.beq]<;>rfl)]
  |false =>
   simp only [ha,hb,c,aj h60,Nat.mul_one,ak,Nat.reduceMul,Nat.reduceBEq,Nat.reduceLT,Nat.reduceLeDiff,reduceCtorEq,Nat.reduceEqDiff,Nat.reduceAdd,Nat.beq]
   rw [ih _ (by simp only [hi1,ak,Nat.reduceMul,Nat.reduceBEq,Nat.reduceLT,Nat.reduceLeDiff,reduceCtorEq,Nat.reduceEqDiff,Nat.reduceAdd,Nat.beq]<;>rfl)]
 ·intro rb
  simp only [Ig,Int.lt_irrefl,ak,Nat.reduceMul,Nat.reduceBEq,Nat.reduceLT,Nat.reduceLeDiff,reduceCtorEq,Nat.reduceEqDiff,Nat.reduceAdd,Nat.beq]
set_option maxRecDepth 20000 in
theorem aii {n g:Int} {m:iq} {j:fZ} {c:Nat} (h:Inv n g m j c) (hn:n≤60):cal env 15 [oV m,.int .i64 n,.int .i64 g]=some [(.bool true,false)]:=by
 have hm:=h.ms
 obtain ⟨r1,r2,r3,r4,r5,r6⟩:=Ry h.jl
 rw [h.js,h.jg] at r2 r4 r5 r6
 obtain ⟨c1,c2⟩:=ac4 h
 have hR:=ad1 (s:=n) (g:=g) (b:=m.st) (by rw [h.st];exact r1) (by rw [h.st];exact acX (by rw [h.js];omega))
 rw [c1] at hR
 have AU:∀ i:fZ,kL i=.agg [.int .i64 i.size,.int .i64 i.aZ,.list 1 (i.act.map eI),.int .i64 i.bm.size,.list 1 (i.bm.ws.map eW)]:=fun _=>rfl
 rw [AU] at hR
 rw [h.st] at hR c2
 obtain ⟨L,hL⟩:∃ L,rcL n g (mg j)=L:=⟨_,rfl⟩
 obtain ⟨I,hI⟩:∃ I,rcI n g (mg j)=I:=⟨_,rfl⟩
 rw [hL] at hR r5 r6 c2
 rw [hI,← h.st] at hR
 have hz:=bT.1 h.n60
 obtain ⟨N,rfl⟩:∃ N:Nat,n=(N:Int):=⟨n.toNat,by omega⟩
 have hin:∀ s:Nat,s<N→m.a.getD s 0≠m.b.getD s 0→L.any (inB (s:Int))=true:=fun s hs hd=>by
  rw [acY r6]
  exact c2 s (by omega) (by omega) hd
 have Z0:((0:Int) != 0)=false:=rfl
 rw [cZ]
 rw [ah agJ rfl];simp only [X9,aG,Nat.reduceBEq,Nat.reduceLeDiff,Nat.reduceAdd,List.length_cons,List.length_nil]
 simp only [iM,aif,hR,Z0,List.length_map,ak,Nat.reduceMul,Nat.reduceBEq,Nat.reduceLT,Nat.reduceLeDiff,reduceCtorEq,Nat.reduceEqDiff,Nat.reduceAdd,Nat.beq]
 rw [aam (m:=m) (l:=L) (N:=N) hm (by omega) r5 r6 hin (by simp only [aG,bY,Nat.reduceMul,Nat.reduceBEq,Nat.reduceLT,Nat.reduceLeDiff,Nat.reduceAdd,decide_true,Bool.and_self,Bool.true_and]<;>rfl)]
 simp only [iM,aif,hR,Z0,List.length_map,ak,Nat.reduceMul,Nat.reduceBEq,Nat.reduceLT,Nat.reduceLeDiff,reduceCtorEq,Nat.reduceEqDiff,Nat.reduceAdd,Nat.beq]
end Go.Proofs.YtdahanchdjadiaaDoor.V

namespace Go.Proofs.YtdahanchdjadiaaDoor.V
theorem adf {n g:Int} {m:iq} {j:fZ} {c:Nat} (h:Inv n g m j c) (hn:n≤60) (x:tY) (hk0:x.kd % 5≠0):∃ j',Inv n g (pU m x) j' (c+1):=by
 unfold pU
 rw [if_neg hk0]
 split
 ·exact RH h x
 ·split
  ·exact ⟨j,h.mono (by omega)⟩
  ·rename_i w hw
   have h1:=Jr h hn x hw
   unfold EK
   split
   ·rename_i hh
    obtain ⟨c1,c2,c3,c4⟩:=hh
    have hlt:x.wh % m.ws.length<m.ws.length:=(List.getElem?_eq_some_iff.1 hw).1
    exact ⟨j,(Js h1 hn (w:=kS x w) (show (m.ws.set _ _)[_]?=_ by rw [List.getElem?_set_self hlt]) c2 c3).1⟩
   ·exact ⟨j,h1⟩
theorem Jw {n:Int} (hn:n≤60) {p:Pnd} (h:lZ n p.e=true):inP p:=by
 have:=iI.1 h
 unfold inP;omega
theorem VG {n g:Int} {m:iq} {j:fZ} {c:Nat} (h:Inv n g m j c) (hn:n≤60) (x:tY):jT (pU m x)∧okP (pU m x).ws∧(pU m x).ws.length≤c+1:=by
 by_cases k0:x.kd % 5=0
 ·have e:pU m x=kM m x:=by unfold pU;rw [if_pos k0]
  rw [e]
  refine ⟨h.ms,fun p hp=>?_,?_⟩
  ·rcases List.mem_append.1 (show p∈m.ws++_ from hp) with hp|hp
   ·exact Jw hn (h.wf p.e (List.mem_map_of_mem hp))
   ·rw [List.mem_singleton.1 hp]
    refine Jw hn ?_
    show lZ n (Bo m.log.size x)=true
    rw [h.sz]
    exact PX (bT.1 h.n60).1 x
  ·have:=h.wl
   unfold kM
   simp only [List.length_append,List.length_cons,List.length_nil]
   omega
 ·obtain ⟨j',h'⟩:=adf h hn x k0
  exact ⟨h'.ms,fun p hp=>Jw hn (h'.wf p.e (List.mem_map_of_mem hp)),h'.wl⟩
set_option maxRecDepth 20000 in
theorem aij {n g:Int} {evs:List tY} {m0:iq} {A:List BV} (hev:∀ x∈evs,okV x) (hle:evs.length≤40) (hn:n≤60) (hI:∀ i,i≤evs.length→∃ j,Inv n g (runM m0 (evs.take i)) j i) {st:St} (h:st.head [2,7,8,11,12] st.boxes.length=some ⟨sl 81 [(2,.pv (.list 4 (evs.map tH))),(7,.pv (.int .i64 n)),(8,.pv (.int .i64 g)),(11,.aP 1 0),(12,.pv (.int .i64 (0:Nat)))],[⟨false,A⟩,⟨false,mD (runM m0 (evs.take ((0:Nat)))) (.pv (.list 1 ((runM m0 (evs.take ((0:Nat)))).st.map eY))) (.pv (.list 5 ((runM m0 (evs.take ((0:Nat)))).ws.map fG)))⟩],[],none⟩) :
  den env Pn st=some (.normal,⟨sl 81 [(6,.any),(11,.aP 1 0)],[⟨false,A⟩,⟨false,mD (runM m0 evs) (.pv (.list 1 ((runM m0 evs).st.map eY))) (.pv (.list 5 ((runM m0 evs).ws.map fG)))⟩],[],none⟩):=by
 unfold Pn
 refine dw (env:=env) (nb:=2) (evs.length) (fun i=>⟨sl 81 [(2,.pv (.list 4 (evs.map tH))),(7,.pv (.int .i64 n)),(8,.pv (.int .i64 g)),(11,.aP 1 0),(12,.pv (.int .i64 i))],[⟨false,A⟩,⟨false,mD (runM m0 (evs.take (i))) (.pv (.list 1 ((runM m0 (evs.take (i))).st.map eY))) (.pv (.list 5 ((runM m0 (evs.take (i))).ws.map fG)))⟩],[],none⟩) (fun i=>some (.normal,⟨sl 81 [(6,.any),(11,.aP 1 0)],[⟨false,A⟩,⟨false,mD (runM m0 evs) (.pv (.list 1 ((runM m0 evs).st.map eY))) (.pv (.list 5 ((runM m0 evs).ws.map fG)))⟩],[],none⟩)) h (fun _=>rfl) (fun _=>by simp only [aG,bY,Nat.reduceMul,Nat.reduceBEq,Nat.reduceLT,Nat.reduceLeDiff,Nat.reduceAdd,decide_true,Bool.and_self,Bool.true_and]) ?_ ?_
 ·intro i rb hi ih
  have hi1:=dN hi (by unfold lim;omega)
  have F1:((i:Int)<(evs.length:Int))=True:=eq_true (by omega)
  obtain ⟨j,hM⟩:=hI i (by omega)
  obtain ⟨j2,hM2⟩:=hI (i+1) (by omega)
  have hs:runM m0 (evs.take (i+1))=PW (runM m0 (evs.take i)) evs[i]:=by rw [List.take_succ_eq_append_getElem hi,VD]
  rw [hs] at ih hM2
  generalize runM m0 (evs.take i)=M at *
  have hx:(evs.map tH)[i]?=some (tH evs[i]):=by rw [List.getElem?_map,List.getElem?_eq_getElem hi];rfl
  rw [kT] at hx
  have hok:=hev _ (List.getElem_mem hi)
  generalize evs[i]=x at *
  have hMo:=hM.ok
  have hm:=hM.ms
  have hc1:=aie hM hn (by omega) hok
  have hcv:=aii hM2 hn
  obtain ⟨q1,q2,q3⟩:=VG hM hn x
  have hm2:=hM2.ms
  have hMl:=hM.wl
  unfold PW at ih hm2 hcv
  generalize hQ:pU M x=Q at *
  rw [cZ,kT,cZ] at hc1
  have P4:∀ a b c d:PV,part [a,b,c,d] 0 (some 4)=some (.agg [a,b,c,d]):=fun _ _ _ _=>rfl
  have hQl:(mV Q).length=129:=xK q1
  have aQ:part (List.map BV.val (mD Q (.pv (.list 1 (Q.st.map eY))) (.pv (.list 5 (Q.ws.map fG))))) 0 (some 129)=some (.agg (mV Q)):=tJ q1 _ _ rfl rfl
  have aM:part (List.map BV.val (mD M (.pv (.list 1 (M.st.map eY))) (.pv (.list 5 (M.ws.map fG))))) 0 (some 129)=some (.agg (mV M)):=tJ hm _ _ rfl rfl
  have hML:(mD M (.pv (.list 1 (M.st.map eY))) (.pv (.list 5 (M.ws.map fG)))).length=129:=dV hm _ _
  have hMd:List.drop 129 (mD M (.pv (.list 1 (M.st.map eY))) (.pv (.list 5 (M.ws.map fG))))=[]:=List.drop_of_length_le (by rw [hML];exact Nat.le_refl _)
  have m1:=gW hm
  have m2:=gW q1
  have m3:=P6 hm
  by_cases cl:Q.ws.length≤M.ws.length
  ·have F2:((Q.ws.length:Int)≤(M.ws.length:Int))=True:=eq_true (by omega)
   rw [if_pos (.inl cl)] at ih hcv
   rw [cZ] at hcv
   simp only [Dy,F1,F2,hx,hc1,hcv,P4,hQl,aQ,aM,hML,hMd,m1,m2,m3,hMo,iM,dJ,fF,dL,aj hi,List.length_map,ak,Nat.reduceMul,Nat.reduceBEq,Nat.reduceLT,Nat.reduceLeDiff,reduceCtorEq,Nat.reduceEqDiff,Nat.reduceAdd,Nat.beq]
   rw [ih _ (by simp only [hi1,ak,Nat.reduceMul,Nat.reduceBEq,Nat.reduceLT,Nat.reduceLeDiff,reduceCtorEq,Nat.reduceEqDiff,Nat.reduceAdd,Nat.beq]<;>rfl)]
  ·have F2:((Q.ws.length:Int)≤(M.ws.length:Int))=False:=eq_false (by omega)
   have W1:IntKind.i64.wrap ((Q.ws.length:Int) - 1)=((Q.ws.length - 1:Nat):Int):=by rw [ay (by omega)];omega
   have hov:=ad3 (m:=Q) (k:=Q.ws.length - 1) q1 (by omega) q2 (by omega)
   have hlo:xO Q=Gv Q.ws (Q.ws.length - 1) (Q.ws[Q.ws.length - 1]'(by omega)).e 0:=by
    unfold xO
    rw [List.getElem?_eq_getElem (by omega)]
   rw [← hlo,cZ] at hov
   cases co:xO Q with
   |false =>
    rw [co] at hov
    rw [if_pos (.inr co)] at ih hcv
    rw [cZ] at hcv
    simp only [Dy,F1,F2,W1,hov,hx,hc1,hcv,P4,hQl,aQ,aM,hML,hMd,m1,m2,m3,hMo,iM,dJ,fF,dL,aj hi,List.length_map,ak,Nat.reduceMul,Nat.reduceBEq,Nat.reduceLT,Nat.reduceLeDiff,reduceCtorEq,Nat.reduceEqDiff,Nat.reduceAdd,Nat.beq]
    rw [ih _ (by simp only [hi1,ak,Nat.reduceMul,Nat.reduceBEq,Nat.reduceLT,Nat.reduceLeDiff,reduceCtorEq,Nat.reduceEqDiff,Nat.reduceAdd,Nat.beq]<;>rfl)]
   |true =>
    rw [co] at hov
    rw [if_neg (by rw [co];simp;omega)] at ih hcv
    rw [cZ] at hcv
    simp only [Dy,F1,F2,W1,hov,hx,hc1,hcv,P4,hQl,aQ,aM,hML,hMd,m1,m2,m3,hMo,iM,dJ,fF,dL,aj hi,List.length_map,ak,Nat.reduceMul,Nat.reduceBEq,Nat.reduceLT,Nat.reduceLeDiff,reduceCtorEq,Nat.reduceEqDiff,Nat.reduceAdd,Nat.beq]
    rw [ih _ (by simp only [hi1,ak,Nat.reduceMul,Nat.reduceBEq,Nat.reduceLT,Nat.reduceLeDiff,reduceCtorEq,Nat.reduceEqDiff,Nat.reduceAdd,Nat.beq]<;>rfl)]
 ·intro rb
  rw [List.take_length]
  simp only [Dy,Int.lt_irrefl,List.length_map,ak,Nat.reduceMul,Nat.reduceBEq,Nat.reduceLT,Nat.reduceLeDiff,reduceCtorEq,Nat.reduceEqDiff,Nat.reduceAdd,Nat.beq]
set_option maxRecDepth 20000 in
theorem ajk {a b:Nat} {evs:List tY} (ha:a<256) (hb:b<256) (hev:∀ x∈evs,okV x):cal env 4 [.int .u8 (a:Int),.int .u8 (b:Int),.list 4 (evs.map tH)]=some [(.bool true,false)]:=by
 have a1:=Z5
 by_cases hle:evs.length≤40
 ·have G40:((evs.length:Int) > 40)=False:=eq_false (by omega)
  have T1:(a:Int).tmod 60=((a % 60:Nat):Int):=by rw [Int.tmod_eq_emod_of_nonneg (by omega)];omega
  have T2:(b:Int).tmod 20=((b % 20:Nat):Int):=by rw [Int.tmod_eq_emod_of_nonneg (by omega)];omega
  have W1:IntKind.i64.wrap ((a % 60:Nat):Int)=((a % 60:Nat):Int):=ay (by omega)
  have W2:IntKind.i64.wrap ((b % 20:Nat):Int)=((b % 20:Nat):Int):=ay (by omega)
  have z60:((60:Int)=0)=False:=eq_false (by omega)
  have z20:((20:Int)=0)=False:=eq_false (by omega)
  obtain ⟨n,hn⟩:∃ n:Int,n=1+((a % 60:Nat):Int):=⟨_,rfl⟩
  obtain ⟨g,hg⟩:∃ g:Int,g=1+((b % 20:Nat):Int):=⟨_,rfl⟩
  have W3:IntKind.i64.wrap (1+((a % 60:Nat):Int))=n:=by rw [← hn];exact ay (by omega)
  have W4:IntKind.i64.wrap (1+((b % 20:Nat):Int))=g:=by rw [← hg];exact ay (by omega)
  have hz:lI n g=true:=bT.2 (by omega)
  obtain ⟨e0,e00,ok0⟩:=Jm hz
  have n1:=ae5 (s:=n) (g:=g)
  rw [e00] at n1
  obtain ⟨l1,l2⟩:=Z7 n g
  have c1:=Rj (i:=jG n g) (by unfold lim;omega)
  have hI:∀ i,i≤evs.length→∃ j,Inv n g (runM (MX n g) (evs.take i)) j i:=fun i hi=>by
   obtain ⟨j,hj⟩:=RI (show n≤60 by omega) (evs.take i) (ac7 hz) (by rw [List.length_take];omega)
   rw [List.length_take,Nat.min_eq_left hi,Nat.zero_add] at hj
   exact ⟨j,hj⟩
  obtain ⟨jl,hlast⟩:=hI evs.length (Nat.le_refl _)
  rw [List.take_length] at hlast
  have hMo:=hlast.ok
  have m3:=P6 hlast.ms
  have hm0:(MX n g).log=jG n g:=rfl
  have AU:∀ i:fZ,kL i=.agg [.int .i64 i.size,.int .i64 i.aZ,.list 1 (i.act.map eI),.int .i64 i.bm.size,.list 1 (i.bm.ws.map eW)]:=fun _=>rfl
  have P5:∀ a b c d e:PV,part [a,b,c,d,e] 0 (some 5)=some (.agg [a,b,c,d,e]):=fun _ _ _ _ _=>rfl
  have E0:((0:Int)==0)=true:=rfl
  have hloop:=fun st=>aij (st:=st) (n:=n) (g:=g) (evs:=evs) (m0:=MX n g) (A:=pK (jG n g)) hev hle (by omega) hI
  rw [AU] at n1 c1
  obtain ⟨Z6,hZ6⟩:∃ Z6,(PV.int IntKind.i64 (jG n g).size :: PV.int IntKind.i64 (jG n g).aZ :: PV.list 1 (List.map eI (jG n g).act) :: PV.int IntKind.i64 (jG n g).bm.size :: PV.list 1 (List.map eW (jG n g).bm.ws) :: PV.list 1 (List.map eY (mg (jG n g))) :: List.drop 1 (List.drop 5 sN))=Z6:=⟨_,rfl⟩
  have hZl:Z6.length=129:=by rw [← hZ6];rfl
  have hZt:List.take 128 Z6++[PV.bool true]++List.drop 129 Z6=mV (MX n g):=by rw [← hZ6];rfl
  have hZd:(List.drop 5 sN).length=124:=rfl
  have hVl:(mV (MX n g)).length=129:=rfl
  rw [ah agG rfl];simp only [fn4,aG,Nat.reduceBEq,Nat.reduceLeDiff,Nat.reduceAdd,List.length_cons,List.length_nil]
  simp only [G40,T1,T2,W1,W2,W3,W4,z60,z20,n1,c1,P5,E0,hZ6,hZl,hZt,hZd,hVl,iM,fF,dL,List.length_map,ak,Nat.reduceMul,Nat.reduceBEq,Nat.reduceLT,Nat.reduceLeDiff,reduceCtorEq,Nat.reduceEqDiff,Nat.reduceAdd,Nat.beq]
  rw [hloop _ (by rw [bF];simp only [aG,bY,Nat.reduceMul,Nat.reduceBEq,Nat.reduceLT,Nat.reduceLeDiff,Nat.reduceAdd,decide_true,Bool.and_self,Bool.true_and]<;>rfl)]
  simp only [a1,m3,hMo,List.length_map,ak,Nat.reduceMul,Nat.reduceBEq,Nat.reduceLT,Nat.reduceLeDiff,reduceCtorEq,Nat.reduceEqDiff,Nat.reduceAdd,Nat.beq]
 ·have G40:((evs.length:Int) > 40)=True:=eq_true (by omega)
  rw [ah agG rfl];simp only [fn4,aG,Nat.reduceBEq,Nat.reduceLeDiff,Nat.reduceAdd,List.length_cons,List.length_nil]
  simp only [G40,a1,List.length_map,ak,Nat.reduceMul,Nat.reduceBEq,Nat.reduceLT,Nat.reduceLeDiff,reduceCtorEq,Nat.reduceEqDiff,Nat.reduceAdd,Nat.beq]
end Go.Proofs.YtdahanchdjadiaaDoor.V

namespace Go.Proofs.YtdahanchdjadiaaDoor
open Go.RowKit Go.ChangeShapes Go.WideShapes Go.ChangeAt
theorem Nb {T:Tags} {w:World} {b:Bool} {v:Value} (h:rY T w [(.bool b,false)] v):v=.bool b:=by
 obtain ⟨arr,h1,h2,h3⟩:=h
 have ha:arr.size=1:=h1
 have e0:arr[0]?=some arr[0]:=Array.getElem?_eq_getElem (by omega)
 have hv:v=arr[0]:=by rw [h2,if_pos ha,Array.getD_eq_getD_getElem?,e0];rfl
 have hr:aF (fun b=>T b=.ro) w (.bool b) arr[0]:=h3 0 (.bool b,false) arr[0] rfl e0
 rw [hv]
 exact hr.o9
def Jy (w:World):Prop:=kC (fun b=>if b<w.heap.size then .ro else .other) w
theorem P7 {P:Program} {env:Env} {f:Nat} {args:List PV} {vs:List Value} {w:World} (hE:AB P env) (h:cal env f args=some [(.bool true,false)]) (hl:vs.length=args.length)
  (hr:∀ (i:Nat) x v,args[i]?=some x→vs[i]?=some v→aF (fun b=>b<w.heap.size) w x v) (hG:Jy w):Calls P f vs.toArray w (fun e w'=>e=.returned (.bool true)∧Below w.heap.size w w'):=by
 obtain ⟨n,hn⟩:=nP h
 have hC:=(vW hE hn).2 (fun b=>if b<w.heap.size then .ro else .other) w vs (fun b=>by
  by_cases hb:b<w.heap.size
  ·exact .inl (if_pos hb)
  ·exact .inr (if_neg hb)) (fun b hb=>if_neg (by omega)) hl (fun i x v hx hv=>(hr i x v hx hv).frame fun b hb _=>⟨if_pos hb,rfl⟩) hG
 refine hC.mono ?_
 rintro e w' ⟨v,T',rfl,h1,_,_,h2⟩
 exact ⟨by rw [Nb h2],h1⟩
def Jz (w:World):List PV→List Value→Prop
 |[],[]=>True
 |x :: xs,v :: vs=>aF (fun b=>b<w.heap.size) w x v∧Jz w xs vs
 |_,_=>False
theorem Jz.get {w:World}:∀ {xs:List PV} {vs:List Value},Jz w xs vs→vs.length=xs.length∧∀ (i:Nat) x v,xs[i]?=some x→vs[i]?=some v→aF (fun b=>b<w.heap.size) w x v
 |[],[],_=>⟨rfl,fun i x v hx=>by simp at hx⟩
 |x :: xs,v :: vs,h=>by
  obtain ⟨h1,h2⟩:=h
  obtain ⟨k1,k2⟩:=h2.get
  refine ⟨by simp [k1],fun i y u hy hu=>?_⟩
  cases i with
  |zero=>cases hy;cases hu;exact h1
  |succ i=>exact k2 i y u hy hu
 |[],_ :: _,h=>h.elim
 |_ :: _,[],h=>h.elim
theorem VH {P:Program} {env:Env} {f:Nat} {args:List PV} {vs:List Value} {w:World} (hE:AB P env) (h:cal env f args=some [(.bool true,false)]) (hr:Jz w args vs) (hG:Jy w:=by exact Jy.none):Calls P f vs.toArray w (fun e w'=>e=.returned (.bool true)∧Below w.heap.size w w') :=
 P7 hE h hr.get.1 hr.get.2 hG
def JA (w:World) (cs:List Value) (ps:List PV):Prop :=
 cs.length=ps.length∧(∀ c∈cs,c.oneCell'=true)∧∀ (j:Nat) x v,ps[j]?=some x→cs[j]?=some v→aF (fun b=>b<w.heap.size) w x v
def mO (P:Program) (t:TypeId) (n:Nat) (S:List PV→Prop):Prop :=
 P.cellsOf t=n∧∀ {H:Type} {enc:TypeId × Value→H} {w:World} {fuel:Nat} {cs:List Value} {x:DataW H × List MemPlace},DataW.trod enc P w 0 (fun _=>true) true fuel t cs=some x→∃ ps,S ps∧ps.length=n∧JA w cs ps
def SInt (k:IntKind) (ps:List PV):Prop:=∃ n,(Lit.int k n).wf=true∧ps=[.int k n]
def ail (ps:List PV):Prop:=∃ b,ps=[.bool b]
def ajn (n:Nat) (S:List PV→Prop) (ps:List PV):Prop:=ps.length=n∧∀ p∈ps,S [p]
def aan (n:Nat) (S:List PV→Prop) (wr:List PV→PV) (ps:List PV):Prop:=∃ es,ps=[.list n es]∧∀ x∈es,∃ q,S q∧x=wr q
def aao:List (List PV→Prop)→List PV→Prop
 |[],ps=>ps=[]
 |S :: Ss,ps=>∃ p q,ps=p++q∧S p∧aao Ss q
section
variable {P:Program} {t e:TypeId} {n m:Nat} {S:List PV→Prop} {k:IntKind}
theorem zf {w:World} {c:Value} {p:PV} (hc:c.oneCell'=true) (h:aF (fun b=>b<w.heap.size) w p c):JA w [c] [p] :=
 ⟨rfl,fun x hx=>by rw [List.mem_singleton.1 hx];exact hc,fun j x v hx hv=>by
  cases j with
  |zero=>cases hx;cases hv;exact h
  |succ j=>simp at hx⟩
theorem mO.int (ht:P.underlying t=some (.int k)) (hc:P.cellsOf t=1):mO P t 1 (SInt k):=⟨hc,fun h=>by
 obtain ⟨n,rfl,_,hw⟩:=DataW.trod_int ht h
 exact ⟨[.int k n],⟨n,hw,rfl⟩,rfl,zf rfl (.int k n)⟩⟩
theorem mO.bool (ht:P.underlying t=some .bool) (hc:P.cellsOf t=1):mO P t 1 ail:=⟨hc,fun h=>by
 obtain ⟨b,rfl,_⟩:=DataW.trod_bool ht h
 exact ⟨[.bool b],⟨b,rfl⟩,rfl,zf rfl (.bool b)⟩⟩
theorem Ac {α:Type} {p:Nat→α→Prop}:∀ n:Nat,(∀ i,i<n→∃ y,p i y)→∃ l:List α,l.length=n∧∀ i x,l[i]?=some x→p i x
 |0,_=>⟨[],rfl,fun i x h=>by simp at h⟩
 |n+1,h=>by
  obtain ⟨l,h1,h2⟩:=Ac n fun i hi=>h i (by omega)
  obtain ⟨y,hy⟩:=h n (by omega)
  refine ⟨l++[y],by simp [h1],fun i x hx=>?_⟩
  by_cases hi:i<n
  ·rw [List.getElem?_append_left (by omega)] at hx;exact h2 i x hx
  ·have:=(List.getElem?_eq_some_iff.1 hx).1
   obtain rfl:i=n:=by simp at this;omega
   rw [List.getElem?_append_right (by omega),h1,Nat.sub_self] at hx
   cases hx
   exact hy
theorem mO.arr (ht:P.underlying t=some (.array n e)) (he:mO P e 1 S) (hc:P.cellsOf t=n):mO P t n (ajn n S):=⟨hc,fun {H enc w fuel cs x} h=>by
 obtain ⟨xs,m,_,_,hl,hx,hE⟩:=DataW.trod_array ht h
 rw [hc] at hl
 obtain ⟨l,h1,h2⟩:=Ac (p:=fun i (b:PV)=>S [b]∧∃ c,cs[i]?=some c∧c.oneCell'=true∧aF (fun b=>b<w.heap.size) w b c) n fun i hi=>by
  have:=hE i hi
  rw [List.getElem?_eq_getElem (by omega),he.1] at this
  obtain ⟨ps,g1,g2,g3,g4,g5⟩:=he.2 this
  match ps,g2 with
  |[p],_ =>
   have hci:cs[i]?=some cs[i]:=List.getElem?_eq_getElem (by omega)
   have h0:((cs.drop (i * 1)).take 1)[0]?=some cs[i]:=by
    rw [List.getElem?_take,if_pos (by decide),List.getElem?_drop]
    simpa using hci
   exact ⟨p,g1,cs[i],hci,g4 _ (List.mem_of_getElem? h0),g5 0 p _ rfl h0⟩
 refine ⟨l,⟨h1,fun p hp=>?_⟩,h1,by omega,fun c hc=>?_,fun j x v hx hv=>?_⟩
 ·obtain ⟨i,hi⟩:=List.mem_iff_getElem?.1 hp
  exact (h2 i p hi).1
 ·obtain ⟨i,hi⟩:=List.mem_iff_getElem?.1 hc
  have hil:i<l.length:=by
   have:=(List.getElem?_eq_some_iff.1 hi).1
   omega
  obtain ⟨_,c',e1,e2,_⟩:=h2 i l[i] (List.getElem?_eq_getElem hil)
  rw [hi] at e1;cases e1;exact e2
 ·obtain ⟨_,c',e1,_,e3⟩:=h2 j x hx
  rw [hv] at e1;cases e1;exact e3⟩
theorem D7 {w:World} {b off:Nat} {v:Value} (h:w.cell? ⟨b,off,none⟩=some v):cO w b:=by
 unfold World.cell? at h
 split at h
 ·rename_i arr E q hb
  exact ⟨arr,E,q,hb⟩
 ·cases h
theorem mO.list {wr:List PV→PV} (ht:P.underlying t=some (.slice e)) (hc:P.cellsOf t=1) (hr:mO P e n S) (hpos:0<n) (hw:∀ ps,S ps→ps.length=n→(wr ps).cells=ps):mO P t 1 (aan n S wr):=⟨hc,fun {H enc w fuel cs x} h=>by
 rcases DataW.trod_slice ht h with ⟨rfl,_⟩|⟨a,len,cap,elems,rest,m,_,rfl,_,_,hl,hm,hel,hE,hR,_⟩
 ·exact ⟨[.list n []],⟨[],rfl,fun x hx=>by cases hx⟩,rfl,zf rfl (.nil n none)⟩
 ·obtain ⟨l,h1,h2⟩:=Ac (p:=fun i (y:List Value × List PV)=>w.cells? 0 (a.add (i * n)) n=some y.1∧S y.2∧y.2.length=n∧JA w y.1 y.2) len fun i hi=>by
   have:=hE i hi
   rw [List.getElem?_eq_getElem (by omega),hr.1,Option.bind_eq_some_iff] at this
   obtain ⟨c,h3,h4⟩:=this
   obtain ⟨ps,g1,g2,g3⟩:=hr.2 h4
   exact ⟨(c,ps),h3,g1,g2,g3⟩
  refine ⟨[.list n (l.map fun y=>wr y.2)],⟨_,rfl,fun x hx=>?_⟩,rfl,zf rfl ?_⟩
  ·obtain ⟨y,hy,rfl⟩:=List.mem_map.1 hx
   obtain ⟨i,hi⟩:=List.mem_iff_getElem?.1 hy
   exact ⟨y.2,(h2 i y hi).2.1,rfl⟩
  ·by_cases hcap:cap=0
   ·have:len=0:=by omega
    subst hcap;subst this
    have:l=[]:=List.eq_nil_of_length_eq_zero h1
    subst this
    exact .nil n (some a)
   ·-- there are cells
    have hcell:∃ off v,w.cell? ⟨a.block,off,none⟩=some v∧a.spot=none:=by
     have ad8:∀ (i:Nat) (c:List Value),w.cells? 0 (a.add (i * n)) n=some c→∃ off v,w.cell? ⟨a.block,off,none⟩=some v∧a.spot=none:=fun i c h3=>by
      obtain ⟨_,hc0,h4⟩:=World.cells?_some h3
      have h5:=h4 0 hpos
      rw [List.getElem?_eq_getElem (by omega)] at h5
      have hs:(a.add (i * n)).spot=none:=by simpa [Addr.add] using World.cell?_spot h5
      have hs0:a.spot=none:=by
       unfold Addr.add at hs
       split at hs
       ·exact hs
       ·rename_i hne
        by_cases h0:i * n=0
        ·rename_i q;exact absurd h0 (by simpa using hne)
        ·rcases Nat.eq_zero_or_pos i with hi0|hi0
         ·subst hi0;simp at h0
         ·-- the row begins at a: its first cell
          have:0<len∨len=0:=by omega
          rcases this with hlen|hlen
          ·obtain ⟨y,hy⟩:∃ y,l[0]?=some y:=⟨l[0],List.getElem?_eq_getElem (by omega)⟩
           obtain ⟨_,hc1,h6⟩:=World.cells?_some (h2 0 y hy).1
           have h7:=h6 0 hpos
           rw [List.getElem?_eq_getElem (by omega)] at h7
           simpa [Addr.add] using World.cell?_spot h7
          ·have hrl:0<rest.length:=by have:=(hR rfl).1;omega
           have:=(hR rfl).2 0 (by omega)
           have h8:rest[0]?=some rest[0]:=List.getElem?_eq_getElem hrl
           rw [h8,hr.1,hlen,Option.bind_eq_some_iff] at this
           obtain ⟨c1,h9,_⟩:=this
           obtain ⟨_,hc1,h6⟩:=World.cells?_some h9
           have h7:=h6 0 hpos
           rw [List.getElem?_eq_getElem (by omega)] at h7
           simpa [Addr.add] using World.cell?_spot h7
      obtain ⟨b,off,spot⟩:=a
      simp only at hs0
      subst hs0
      rw [Addr.add_lit,Addr.add_lit] at h5
      exact ⟨_,_,h5,rfl⟩
     rcases Nat.eq_zero_or_pos len with hlen|hlen
     ·have hrl:0<rest.length:=by have:=(hR rfl).1;omega
      have:=(hR rfl).2 0 (by omega)
      have h8:rest[0]?=some rest[0]:=List.getElem?_eq_getElem hrl
      rw [h8,hr.1,Option.bind_eq_some_iff] at this
      obtain ⟨c1,h9,_⟩:=this
      exact ad8 _ c1 h9
     ·obtain ⟨y,hy⟩:∃ y,l[0]?=some y:=⟨l[0],List.getElem?_eq_getElem (by omega)⟩
      exact ad8 0 _ (h2 0 y hy).1
    obtain ⟨alG,v0,hv0,hspot⟩:=hcell
    obtain ⟨b,off,spot⟩:=a
    simp only at hspot hv0
    subst hspot
    have hC:cO w b:=D7 hv0
    have hget:∀ (i:Nat) x,(l.map fun y=>wr y.2)[i]?=some x→∃ y,l[i]?=some y∧x=wr y.2:=fun i x hx=>by
     rw [List.getElem?_map] at hx
     cases e:l[i]? with
     |none=>rw [e] at hx;cases hx
     |some y=>rw [e] at hx;exact ⟨y,rfl,(Option.some.inj hx).symm⟩
    have hlen:(l.map fun y=>wr y.2).length=len:=by simp [h1]
    have:=aF.list (ok:=fun b=>b<w.heap.size) (w:=w) n (l.map fun y=>wr y.2) b off cap (fun i j=>(((l[i]?).map (·.1)).getD []).getD j default) hC.lt hC (by rw [hlen];exact hl) hm
     (fun x hx=>by
      obtain ⟨i,hi⟩:=List.mem_iff_getElem?.1 hx
      obtain ⟨y,hy,rfl⟩:=hget i x hi
      obtain ⟨_,g1,g2,_⟩:=h2 i y hy
      rw [hw _ g1 g2,g2])
     (fun i x j p hi hj=>by
      obtain ⟨y,hy,rfl⟩:=hget i x hi
      obtain ⟨g0,g1,g2,g3,g4,g5⟩:=h2 i y hy
      rw [hw _ g1 g2] at hj
      have hjn:j<n:=by have:=(List.getElem?_eq_some_iff.1 hj).1;omega
      obtain ⟨_,hc1,h6⟩:=World.cells?_some g0
      have h7:=h6 j hjn
      have hcj:y.1[j]?=some y.1[j]:=List.getElem?_eq_getElem (by omega)
      have hd:(((l[i]?).map (·.1)).getD []).getD j default=y.1[j]:=by
       rw [hy];simp [List.getD_eq_getElem?_getD,hcj]
      rw [hd]
      rw [hcj,Addr.add_lit,Addr.add_lit] at h7
      exact ⟨h7,g4 _ (List.mem_of_getElem? hcj)⟩)
     (fun i x j p hi hj=>by
      obtain ⟨y,hy,rfl⟩:=hget i x hi
      obtain ⟨g0,g1,g2,g3,g4,g5⟩:=h2 i y hy
      rw [hw _ g1 g2] at hj
      have hjn:j<n:=by have:=(List.getElem?_eq_some_iff.1 hj).1;omega
      have hcj:y.1[j]?=some y.1[j]:=List.getElem?_eq_getElem (by omega)
      have hd:(((l[i]?).map (·.1)).getD []).getD j default=y.1[j]:=by
       rw [hy];simp [List.getD_eq_getElem?_getD,hcj]
      rw [hd]
      exact g5 j p _ hj hcj)
    rw [hlen] at this
    exact this⟩
theorem JA.append {w:World} {c1 c2:List Value} {p1 p2:List PV} (h1:JA w c1 p1) (h2:JA w c2 p2):JA w (c1++c2) (p1++p2):=by
 obtain ⟨a1,a2,a3⟩:=h1
 obtain ⟨b1,b2,b3⟩:=h2
 refine ⟨by simp [a1,b1],fun c hc=>?_,fun j x v hx hv=>?_⟩
 ·rcases List.mem_append.1 hc with h|h
  ·exact a2 c h
  ·exact b2 c h
 ·by_cases hj:j<p1.length
  ·rw [List.getElem?_append_left hj] at hx
   rw [List.getElem?_append_left (by omega)] at hv
   exact a3 j x v hx hv
  ·rw [List.getElem?_append_right (by omega)] at hx
   rw [List.getElem?_append_right (by omega),a1] at hv
   exact b3 _ x v hx hv
inductive P8 (P:Program):Nat→List Field→List (List PV→Prop)→Nat→Prop
 |nil (o:Nat):P8 P o [] [] 0
 |cons {o n m:Nat} {f:Field} {fs:List Field} {S:List PV→Prop} {Ss:List (List PV→Prop)}:f.offset=o→mO P f.type n S→P8 P (o+n) fs Ss m→P8 P o (f :: fs) (S :: Ss) (n+m)
theorem P8.read {o:Nat} {fs:List Field} {Ss:List (List PV→Prop)} (h:P8 P o fs Ss m) {H:Type} {enc:TypeId × Value→H} {w:World} {fuel:Nat} {cs:List Value} {xs:List (DataW H × List MemPlace)} (hl:cs.length=o+m)
  (hx:∀ (i:Nat) (f:Field),fs[i]?=some f→∃ x,DataW.trod enc P w 0 (fun _=>true) true fuel f.type ((cs.drop f.offset).take (P.cellsOf f.type))=some x):∃ ps,aao Ss ps∧ps.length=m∧JA w (cs.drop o) ps:=by
 induction h with
 |nil o=>exact ⟨[],rfl,rfl,by rw [List.drop_of_length_le (by omega)];exact (⟨rfl,fun c hc=>(by cases hc),fun j x v hx=>(by simp at hx)⟩:JA w [] [])⟩
 |@cons o n m f fs S Ss h1 h2 h3 ih =>
  obtain ⟨x,h4⟩:=hx 0 f rfl
  rw [h2.1,h1] at h4
  obtain ⟨p,g1,g2,g3⟩:=h2.2 h4
  obtain ⟨q,k1,k2,k3⟩:=ih (by omega) (fun i f hf=>hx (i+1) f hf)
  refine ⟨p++q,⟨p,q,rfl,g1,k1⟩,by simp [g2,k2],?_⟩
  have:cs.drop o=(cs.drop o).take n++cs.drop (o+n):=by rw [← List.drop_drop,List.take_append_drop]
  rw [this]
  exact g3.append k3
theorem mO.struct {fs:Array Field} {Ss:List (List PV→Prop)} (ht:P.underlying t=some (.struct fs)) (hf:P8 P 0 fs.toList Ss n) (hc:P.cellsOf t=n):mO P t n (aao Ss):=⟨hc,fun {H enc w fuel cs x} h=>by
 obtain ⟨xs,m,_,_,hl,hx,hE⟩:=DataW.trod_struct ht h
 obtain ⟨ps,h1,h2,h3⟩:=hf.read (xs:=xs) (enc:=enc) (w:=w) (fuel:=m) (cs:=cs) (by omega) (fun i f hi=>by
  have hi':fs[i]?=some f:=by simpa using hi
  have:=hE i f hi'
  have hil:i<xs.length:=by rw [hx];exact (Array.getElem?_eq_some_iff.1 hi').1
  exact ⟨xs[i],by rw [this,List.getElem?_eq_getElem hil]⟩)
 exact ⟨ps,h1,h2,by simpa using h3⟩⟩
theorem mO.adg {f0 f1 f2 f3:Field} {n0 n1 n2 n3:Nat} {S0 S1 S2 S3:List PV→Prop} (ht:P.underlying t=some (.struct #[f0,f1,f2,f3])) (h0:mO P f0.type n0 S0) (h1:mO P f1.type n1 S1) (h2:mO P f2.type n2 S2) (h3:mO P f3.type n3 S3) (o0:f0.offset=0) (o1:f1.offset=0+n0) (o2:f2.offset=0+n0+n1) (o3:f3.offset=0+n0+n1+n2) (hc:P.cellsOf t=n0+(n1+(n2+(n3+0)))):mO P t (n0+(n1+(n2+(n3+0)))) (aao [S0,S1,S2,S3]) :=
 mO.struct ht (show P8 P 0 [f0,f1,f2,f3] [S0,S1,S2,S3] (n0+(n1+(n2+(n3+0)))) from .cons o0 h0 (.cons o1 h1 (.cons o2 h2 (.cons o3 h3 (.nil _))))) hc
theorem RJ {H:Type} {enc:TypeId × Value→H} {w:World} {v:Value} {d:DataW H} {p:List MemPlace} (hr:mO P t 1 S) (hone:v.cells.toList=[v]) (h:DataW.Trod enc P w 0 (fun _=>true) true t v d p) :
  ∃ q,S [q]∧aF (fun b=>b<w.heap.size) w q v:=by
 obtain ⟨fuel,hf⟩:=h
 obtain ⟨ps,h1,h2,h3,h4,h5⟩:=hr.2 hf
 match ps,h2 with
 |[q],_=>exact ⟨q,h1,h5 0 q v rfl (by rw [hone];rfl)⟩
theorem VI {H:Type} {enc:TypeId × Value→H} {w:World} {v:Value} {d:DataW H} {p:List MemPlace} {m:Reach} {base:Nat} (ht:P.underlying t=some (.slice e)) (hr:mO P t 1 S) (hv:Value.okWide P w m base t v) (h:DataW.Trod enc P w 0 (fun _=>true) true t v d p) :
  ∃ q,S [q]∧aF (fun b=>b<w.heap.size) w q v:=by
 obtain ⟨a,l,c,rfl⟩:=okWide_slice ht hv
 exact RJ hr rfl h
theorem RN {H:Type} {enc:TypeId × Value→H} {w:World} {v:Value} {d:DataW H} {p:List MemPlace} {m:Reach} {base:Nat} (ht:P.underlying t=some (.int k)) (hr:mO P t 1 S) (hv:Value.okWide P w m base t v) (h:DataW.Trod enc P w 0 (fun _=>true) true t v d p) :
  ∃ q,S [q]∧aF (fun b=>b<w.heap.size) w q v:=by
 have:v.cells.toList=[v]:=by
  simp only [Value.okWide,ht,Cell.okWide] at hv
  cases v<;>simp_all [Cell.ok,Value.cells]
 exact RJ hr this h
end
end Go.Proofs.YtdahanchdjadiaaDoor

namespace Go.Proofs.YtdahanchdjadiaaDoor
open Go.RowKit
structure Ad (W:World) (g:Nat) where
 w:World
 grown:W.grownBy w (some g)
instance (W:World) (g:Nat):Nonempty (Ad W g):=⟨⟨W,World.grownBy.refl _ _⟩⟩
theorem Ad.of {W w:World} {g:Nat} (h:W.grownBy w (some g)):∃ x:Ad W g,w=x.w:=⟨⟨w,h⟩,rfl⟩
theorem grown_drew (W:World) (row:Option Nat):W.grownBy W.drew row:=⟨rfl,rfl,rfl,Nat.le_refl _,fun _ _ _=>rfl⟩
theorem Ad.drew (W:World) (g:Nat):∃ x:Ad W g,W.drew=x.w:=Ad.of (grown_drew _ _)
theorem below_grown {w w':World} (h:Below w.heap.size w w'):w.grownBy w' none:=⟨h.os,h.tape,h.output,h.size,fun k hk _=>h.block k hk⟩
def eH {α:Type} (r:Rep α) (tag:Nat→Nat) (ok:Nat→Prop) (w:World):Nat→List Value→List α→Prop
 |_,xs,[]=>xs=[]
 |i,xs,x :: l=>∃ c rest,xs=c++rest∧r.rd (fun b=>ok b∧tag b=i) w c x∧eH r tag ok w (i+1) rest l
section
variable {α:Type} {r:Rep α} {tag tag':Nat→Nat} {ok ok':Nat→Prop} {w w':World}
theorem eH.mono (hk:∀ b,ok b→ok' b):∀ {l:List α} {i:Nat} {xs:List Value},eH r tag ok w i xs l→eH r tag ok' w i xs l
 |[],_,_,h=>h
 |_ :: _,_,_,⟨c,rest,e,h1,h2⟩=>⟨c,rest,e,r.mono (fun b hb=>⟨hk b hb.1,hb.2⟩) h1,h2.mono hk⟩
theorem eH.retag (hk:∀ b,ok b→tag' b=tag b):∀ {l:List α} {i:Nat} {xs:List Value},eH r tag ok w i xs l→eH r tag' ok w i xs l
 |[],_,_,h=>h
 |_ :: _,_,_,⟨c,rest,e,h1,h2⟩=>⟨c,rest,e,r.mono (fun b hb=>⟨hb.1,by rw [hk b hb.1];exact hb.2⟩) h1,h2.retag hk⟩
theorem eH.live:∀ {l:List α} {i:Nat} {xs:List Value},eH r tag ok w i xs l→eH r tag (fun b=>ok b∧b<w.heap.size) w i xs l
 |[],_,_,h=>h
 |_ :: _,_,_,⟨c,rest,e,h1,h2⟩=>⟨c,rest,e,r.mono (fun b hb=>⟨⟨hb.1.1,hb.2⟩,hb.1.2⟩) (r.live h1),h2.live⟩
theorem eH.frame (hf:∀ b,ok b→w'.heap[b]?=w.heap[b]?):∀ {l:List α} {i:Nat} {xs:List Value},eH r tag ok w i xs l→eH r tag ok w' i xs l
 |[],_,_,h=>h
 |_ :: _,_,_,⟨c,rest,e,h1,h2⟩=>⟨c,rest,e,r.frame (fun b hb=>hf b hb.1) h1,h2.frame hf⟩
theorem eH.chunks:∀ {l:List α} {i:Nat} {xs:List Value},eH r tag ok w i xs l→Chunks r ok w xs l
 |[],_,_,h=>h
 |_ :: _,_,_,⟨c,rest,e,h1,h2⟩=>⟨c,rest,e,r.mono (fun b hb=>hb.1) h1,h2.chunks⟩
theorem eH.pick:∀ {l:List α} {i:Nat} {xs:List Value},eH r tag ok w i xs l→∀ {k:Nat} {x:α},l[k]?=some x →
  ∃ c,(∀ j,j<r.sz→xs[k * r.sz+j]?=c[j]?)∧r.rd (fun b=>ok b∧tag b=i+k) w c x ∧
   ∀ (w':World) (x':α),(∀ b,ok b→tag b≠i+k→w'.heap[b]?=w.heap[b]?)→r.rd (fun b=>ok b∧tag b=i+k) w' c x'→eH r tag ok w' i xs (l.set k x')
 |[],_,_,_,k,x,hx=>by simp at hx
 |y :: l,i,xs,⟨c,rest,e,h1,h2⟩,0,x,hx=>by
  simp only [List.getElem?_cons_zero,Option.some.injEq] at hx
  subst hx
  refine ⟨c,fun j hj=>by rw [e,Nat.zero_mul,Nat.zero_add,List.getElem?_append_left (by rw [r.len h1];exact hj)],h1,fun w' x' hf hr=>?_⟩
  refine ⟨c,rest,e,hr,?_⟩
  -- the tail's elements bear other tags
  have:∀ {l:List α} {m:Nat} {xs:List Value},i<m→eH r tag ok w m xs l→eH r tag ok w' m xs l:=by
   intro l
   induction l with
   |nil=>intro m xs _ h;exact h
   |cons z l ih =>
    intro m xs hm h
    obtain ⟨d,rs,e',h3,h4⟩:=h
    exact ⟨d,rs,e',r.frame (fun b hb=>hf b hb.1 (by rw [hb.2];omega)) h3,ih (by omega) h4⟩
  exact this (Nat.lt_succ_self _) h2
 |y :: l,i,xs,⟨c,rest,e,h1,h2⟩,k+1,x,hx=>by
  obtain ⟨d,h3,h4,h5⟩:=h2.pick (k:=k) (x:=x) (by simpa using hx)
  have ei:i+1+k=i+(k+1):=by omega
  refine ⟨d,fun j hj=>?_,by rw [← ei];exact h4,fun w' x' hf hr=>?_⟩
  ·rw [e,List.getElem?_append_right (by rw [r.len h1,Nat.add_mul];omega),r.len h1,← h3 j hj]
   congr 1
   rw [Nat.add_mul];omega
  ·refine ⟨c,rest,e,r.frame (fun b hb=>hf b hb.1 (by rw [hb.2];omega)) h1,?_⟩
   exact h5 w' x' (fun b hb hne=>hf b hb (by rw [← ei];exact hne)) (by rw [ei];exact hr)
end
def vG {α:Type} (r:Rep α) (B F:Nat) (E:TypeId) (w:World) (v:Value) (l:List α):Prop :=
 ∃ tag xs,w.ownsRow B E r.sz v l.length xs∧eH r tag (fun b=>B≤b∧b<F∧Option.some b≠v.ownBlock) w 0 xs l
section
variable {α:Type} {r:Rep α} {B F:Nat} {E:TypeId} {w w':World} {v:Value} {l:List α}
theorem vG.nil (r:Rep α) (B F:Nat) (E:TypeId) (w:World):vG r B F E w (.slice none 0 0) []:=⟨fun _=>0,[],World.ownsRow_nil _ _ _ _,rfl⟩
theorem vG.live (h:vG r B F E w v l):vG r B w.heap.size E w v l :=
 let ⟨tag,xs,h1,h2⟩:=h;⟨tag,xs,h1,h2.live.mono fun _ hb=>⟨hb.1.1,hb.2,hb.1.2.2⟩⟩
theorem vG.lt (h:vG r B F E w v l):∀ k,v.ownBlock=some k→B≤k∧k<w.heap.size:=let ⟨_,_,h1,_⟩:=h;h1.lt
theorem vG.below (h:vG r B F E w v l) (hb:Below w.heap.size w w'):vG r B F E w' v l:=by
 obtain ⟨tag,xs,h1,h2⟩:=h
 exact ⟨tag,xs,h1.kept (below_grown hb) (by cases v.ownBlock<;>simp),(eH.frame (fun b hb'=>hb.block b hb'.2) h2.live).mono fun b hb=>hb.1⟩
theorem vG.own (h:vG r B F E w v l):Own r B E (B≤·) w v l :=
 let ⟨_,xs,h1,h2⟩:=h;⟨xs,h1,h2.chunks.mono fun _ hb=>⟨hb.1,hb.2.2⟩⟩
theorem vG.sl (h:vG r B F E w v l):∃ a n c,v=.slice a n c∧Sl r (B≤·) w a n c l :=
 let ⟨a,n,c,e,h⟩:=h.own.sl;⟨a,n,c,e,h.mono fun _ hb=>hb.elim id id⟩
def aap {α:Type} (r:Rep α) (ok:Nat→Prop) (w:World) (l:List α) (err:Int):Ending→World→Prop:=fun e w' =>
 ∃ a n c,e=.returned (.tuple #[.slice a n c,.int .i64 err])∧Sl r ok w' a n c l∧Below w.heap.size w w'
theorem aap.mk {α:Type} {r:Rep α} {ok:Nat→Prop} {w w':World} {l:List α} {err err':Int} {a:Option Addr} {n c:Nat} (he:err'=err) (h:Sl r ok w' a n c l) (hB:Below w.heap.size w w') :
  aap r ok w l err (.returned (.tuple #[.slice a n c,.int .i64 err'])) w':=⟨a,n,c,by rw [he],h,hB⟩
def Flat {α:Type} (r:Rep α):Prop:=∀ {ok ok':Nat→Prop} {w w':World} {cs:List Value} {x:α},r.rd ok w cs x→r.rd ok' w' cs x
theorem Flat.int:Flat Nj:=fun h=>h
theorem Flat.u8:Flat u8R:=fun h=>h
theorem Flat.u64:Flat aiH:=fun h=>h
theorem Flat.bool:Flat af8:=fun h=>h
theorem Chunks.flat {α:Type} {r:Rep α} (hf:Flat r) {ok ok':Nat→Prop} {w w':World}:∀ {l:List α} {xs:List Value},Chunks r ok w xs l→Chunks r ok' w' xs l
 |[],_,h=>h
 |_ :: _,_,⟨c,rest,e,h1,h2⟩=>⟨c,rest,e,hf h1,h2.flat hf⟩
theorem Src.flat {α:Type} {r:Rep α} (hf:Flat r) {ok ok':Nat→Prop} {w:World} {ao:Option Addr} {m c:Nat} {ys:List α} (h:Src r ok w ao m c ys):Src r ok' w ao m c ys :=
 let ⟨h1,h2,news,h3,h4⟩:=h;⟨h1,h2,news,h3,h4.flat hf⟩
theorem Own.afK {α:Type} (r:Rep α) {B:Nat} {E:TypeId} {ok:Nat→Prop} {w:World} (hB:B≤w.heap.size):Own r B E ok (w.alloc (.cells #[] E)) (.slice (some ⟨w.heap.size,0,none⟩) 0 0) [] :=
 ⟨[],World.ownsRow_lit w #[] 0 hB (Nat.zero_le _) (by simp),rfl⟩
theorem vG.at (h:vG r B F E w v l) {k:Nat} {x:α} (hx:l[k]?=some x) :
  ∃ g cap c,∃ okk:Nat→Prop,v=.slice (some ⟨g,0,none⟩) l.length cap∧B≤g∧g<w.heap.size∧(∀ j,j<r.sz→w.cell? ⟨g,k * r.sz+j,none⟩=c[j]?)∧r.rd okk w c x∧(∀ b,okk b→B≤b∧b<F∧b≠g) ∧
   ∀ (w':World) (x':α),(∀ b,b<w.heap.size→¬ okk b→w'.heap[b]?=w.heap[b]?)→w'.os=w.os→w'.tape=w.tape→w'.output=w.output→w.heap.size≤w'.heap.size→r.rd okk w' c x'→vG r B F E w' v (l.set k x'):=by
 obtain ⟨tag,xs,h1,h2⟩:=h
 have hk:=(List.getElem?_eq_some_iff.1 hx).1
 obtain ⟨g,cap,rfl,hBg,hg⟩:∃ g cap,v=.slice (some ⟨g,0,none⟩) l.length cap∧B≤g∧g<w.heap.size:=by
  rcases h1.2 with ⟨_,h0⟩|⟨g,cap,cur,hv,hb,hg,_⟩
  ·omega
  ·exact ⟨g,cap,hv,hb,(Array.getElem?_eq_some_iff.1 hg).1⟩
 obtain ⟨c,h3,h4,h5⟩:=h2.live.pick hx
 refine ⟨g,cap,c,_,rfl,hBg,hg,fun j hj=>?_,h4,fun b hb=>⟨hb.1.1.1,hb.1.1.2.1,fun e=>hb.1.1.2.2 (by rw [e];rfl)⟩,fun w' x' hf hos htp hout hsz hr=>?_⟩
 ·rw [← h3 j hj,h1.cellAt]
  calc k * r.sz+j<k * r.sz+r.sz:=by omega
   _=(k+1) * r.sz:=by rw [Nat.add_mul];omega
   _≤l.length * r.sz:=Nat.mul_le_mul_right _ (by omega)
 ·have h6:=h5 w' x' (fun b hb hne=>hf b hb.2 fun e=>hne (by simpa using e.2)) hr
  refine ⟨tag,xs,?_,h6.mono fun b hb=>hb.1⟩
  rw [List.length_set]
  have hgk:w'.heap[g]?=w.heap[g]?:=hf g hg fun e=>e.1.1.2.2 rfl
  obtain ⟨hl,⟨hv,h0⟩|⟨g',cap',cur,hv,r1,r2,r3⟩⟩:=h1
  ·cases hv
  ·cases hv
   exact ⟨hl,.inr ⟨g,cap,cur,rfl,r1,by rw [hgk];exact r2,r3⟩⟩
end
def jX {α:Type} (r:Rep α) (E:TypeId):Rep (List α) where
 sz:=1
 rd ok w cs l:=∃ v,cs=[v]∧(∀ b,v.ownBlock=some b→ok b)∧Own r 0 E (fun _=>False) w v l∧(l=[]→v=.slice none 0 0∨∃ g c,v=.slice (some ⟨g,0,none⟩) 0 c)
 len h:=by obtain ⟨v,rfl,_⟩:=h;rfl
 mono hk h:=let ⟨v,e,h1,h2⟩:=h;⟨v,e,fun b hb=>hk b (h1 b hb),h2⟩
 live h:=let ⟨v,e,h1,h2,h3⟩:=h;⟨v,e,fun b hb=>⟨h1 b hb,(h2.lt b hb).2⟩,h2,h3⟩
 frame hf h:=by
  obtain ⟨v,e,h1,⟨xs,h2,h3⟩,h4⟩:=h
  refine ⟨v,e,h1,⟨xs,⟨h2.1,?_⟩,(Chunks.frame (fun b hb=>hb.1.elim) h3)⟩,h4⟩
  rcases h2.2 with h0|⟨g,cap,cur,hv,hb,hg,rest⟩
  ·exact .inl h0
  ·refine .inr ⟨g,cap,cur,hv,hb,?_,rest⟩
   rw [hf g (h1 g (by rw [hv];rfl))];exact hg
 one h:=by
  obtain ⟨v,rfl,_,⟨xs,h2,_⟩,_⟩:=h
  intro u hu
  cases List.mem_singleton.1 hu
  rcases h2.2 with ⟨rfl,_⟩|⟨g,cap,cur,rfl,_⟩<;>rfl
theorem jX.sl {α:Type} {r:Rep α} {E:TypeId} {ok:Nat→Prop} {w:World} {v:Value} {l:List α} (hf:Flat r) (h:(jX r E).rd ok w [v] l):∃ a n c,v=.slice a n c∧Sl r ok w a n c l:=by
 obtain ⟨_,e,h1,h2,_⟩:=h
 cases e
 obtain ⟨a,n,c,rfl,h3⟩:=h2.sl
 refine ⟨a,n,c,rfl,h3.len,h3.cap,h3.bnd,h3.nil,h3.cells.imp id fun ⟨b,off,e,_,hb,hc⟩=>⟨b,off,e,h1 b (by rw [e];rfl),hb,fun i x hx=>let ⟨cs,g1,g2⟩:=hc i x hx;⟨cs,g1,hf g2⟩⟩⟩
theorem jX.mk {α:Type} {r:Rep α} {B:Nat} {E:TypeId} {w:World} {v:Value} {l:List α} (h:Own r B E (fun _=>False) w v l) (hv:l=[]→v=.slice none 0 0∨∃ g c,v=.slice (some ⟨g,0,none⟩) 0 c):(jX r E).rd (B≤·) w [v] l:=by
 refine ⟨v,rfl,fun b hb=>(h.lt b hb).1,?_,hv⟩
 obtain ⟨xs,h1,h2⟩:=h
 refine ⟨xs,⟨h1.1,h1.2.imp id fun ⟨g,cap,cur,a1,a2,a3⟩=>⟨g,cap,cur,a1,Nat.zero_le _,a3⟩⟩,h2⟩
section
variable {P:Program} {ops:Array Oper} {rest:List Oper} {o:Oper} {a:Act} {Q:Exit→Act→World→Prop} {α:Type} {r:Rep α} {B:Nat} {E:TypeId} {w:World}
end
section
variable {P:Program} {α:Type} {r:Rep α} {B:Nat} {E:TypeId} {w:World} {g cap:Nat} {l:List α}
end
def JB (a:Option Addr) (c lo sz:Nat):Option Addr:=if c=lo then a else a.map (·.add (lo * sz))
theorem Sl.sub {α:Type} {r:Rep α} {ok:Nat→Prop} {w:World} {a:Option Addr} {n c:Nat} {l:List α} (h:Sl r ok w a n c l) {s k:Nat} (hk:s+k≤n):Sl r ok w (JB a c s r.sz) k (c - s) ((l.drop s).take k):=by
 have h1:=h.len
 have h2:=h.cap
 refine ⟨by simp;omega,by omega,Nat.le_trans (Nat.sub_le _ _) h.bnd,fun e=>?_,?_⟩
 ·unfold JB at e
  split at e
  ·omega
  ·have:a=none:=by simpa using e
   have:=h.nil this
   omega
 ·rcases h.cells with h0|⟨b,off,rfl,hb,hlt,hc⟩
  ·left;omega
  ·by_cases hk0:k=0
   ·exact .inl hk0
   ·refine .inr ⟨b,off+s * r.sz,?_,hb,hlt,fun i x hx=>?_⟩
    ·unfold JB
     rw [if_neg (by omega)]
     simp [Addr.add_lit]
    ·have hik:i<k:=by have:=(List.getElem?_eq_some_iff.1 hx).1;simp at this;omega
     rw [List.getElem?_take,if_pos hik,List.getElem?_drop] at hx
     obtain ⟨cs,g1,g2⟩:=hc (s+i) x hx
     refine ⟨cs,fun j hj=>?_,g2⟩
     rw [← g1 j hj,Nat.add_mul,Nat.add_assoc off]
section
variable {P:Program} {ops:Array Oper} {rest:List Oper} {o:Oper} {a:Act} {Q:Exit→Act→World→Prop} {α:Type} {r:Rep α} {B:Nat} {E:TypeId} {w:World} {g cap:Nat} {l:List α}
end
section
variable {ok:Nat→Prop} {w:World} {n c:Nat}
theorem Sl.wr {b off:Nat} {l:List (Int × Int × List Sec)} (h:Sl (VU Nj (VU Nj (VW af9))) ok w (some ⟨b,off,none⟩) n c l) {k:Nat} {v s:Int} {d:List Sec} (hx:l[k]?=some (v,s,d)) :
  ∃ a' n' c',w.cell? ⟨b,off+k * 3,none⟩=some (.int .i64 v)∧w.cell? ⟨b,off+k * 3+1,none⟩=some (.int .i64 s)∧w.cell? ⟨b,off+k * 3+2,none⟩=some (.slice a' n' c')∧EM v∧EM s∧Sl af9 ok w a' n' c' d:=by
 obtain ⟨cs,h1,c1,c2,rfl,⟨rfl,hv⟩,c3,c4,rfl,⟨rfl,hs⟩,a',n',c',rfl,hd⟩:=h.at hx
 refine ⟨a',n',c',?_,?_,?_,hv,hs,hd⟩
 ·exact h1 0 (by show 0<3;omega)
 ·exact h1 1 (by show 1<3;omega)
 ·exact h1 2 (by show 2<3;omega)
theorem Sl.ext {b off:Nat} {l:List (Int × Int)} (h:Sl (VU Nj Nj) ok w (some ⟨b,off,none⟩) n c l) {k:Nat} {s m:Int} (hx:l[k]?=some (s,m)) :
  w.cell? ⟨b,off+k * 2,none⟩=some (.int .i64 s)∧w.cell? ⟨b,off+k * 2+1,none⟩=some (.int .i64 m)∧EM s∧EM m:=by
 obtain ⟨cs,h1,c1,c2,rfl,⟨rfl,hv⟩,⟨rfl,hs⟩⟩:=h.at hx
 exact ⟨h1 0 (by show 0<2;omega),h1 1 (by show 1<2;omega),hv,hs⟩
end
end Go.Proofs.YtdahanchdjadiaaDoor

namespace Go.Proofs.YtdahanchdjadiaaDoor
open Go.RowKit V
def D8 (f:Nat) (fn:je):Env:=fun k=>if k=f then some (.code fn) else none
theorem Ae {P:Program} {f:Nat} {fn:je} (h:bV P f fn=true):AB P (D8 f fn):=fun k d hk=>by
 unfold D8 at hk
 split at hk
 ·rename_i e;subst e;cases hk;exact h
 ·cases hk
def emR (n:Nat):Rep Unit where
 sz:=n
 rd _ _ cs _:=cs.length=n∧∀ u∈cs,u.oneCell'=true
 len h:=h.1
 mono _ h:=h
 live h:=h
 frame _ h:=h
 one h:=h.2
theorem Flat.em (n:Nat):Flat (emR n):=fun h=>h
theorem P9 {ok:Nat→Prop} {w:World} {sz:Nat} {v:Value} (h:aF ok w (.list sz []) v):∃ a c,v=.slice a 0 c∧Sl (emR sz) (fun _=>True) w a 0 c []:=by
 obtain ⟨l,hl⟩:∃ l:List PV,l=[]:=⟨_,rfl⟩
 rw [← hl] at h
 cases h with
 |nil _ a=>exact ⟨a,0,rfl,⟨rfl,Nat.le_refl _,Nat.zero_le _,fun _=>rfl,.inl rfl⟩⟩
 |list _ _ b off c cv h1 h2 h3 h4 h6 h7 h8=>subst hl;exact ⟨_,c,rfl,⟨rfl,Nat.zero_le _,h4,(fun e=>by cases e),.inl rfl⟩⟩
--+
theorem ain:Cc Tryd.prog 23 3 1 8 (.int .i64 0):=⟨Tryd.underlying23,by kernel_rfl,rfl,by decide⟩
set_option maxHeartbeats 1000000 in
theorem aar {a:Option Addr} {n c:Nat} {l:List Unit} {ok:Nat→Prop} {w:World} (h:Sl (emR 1) ok w a n c l) (hn:n≤1000000) :
  Calls Tryd.prog 44 #[.slice a n c] w fun e w'=>∃ a' n' c',e=.returned (.slice a' n' c')∧(jX (emR 1) 3).rd (w.heap.size≤·) w' [.slice a' n' c'] l∧Below w.heap.size w w':=by
 have heq:=fun (a:Option Addr) (n c:Nat) (w:World)=>Lib.run_eql_slice_nil (P:=Tryd.prog) w 23 3 a n c 0 0 Tryd.underlying23
 cases a with
 |none =>
  have h0:l=[]:=List.eq_nil_of_length_eq_zero (by rw [h.len];have:=h.nil rfl;have:=h.cap;omega)
  have H0:=Lib.hid h0;clear h0
  go_enter Tryd.func44,Tryd.ntmps44
  go_wp2
  go_ret
  refine ⟨_,_,_,rfl,?_,Below.refl _ _⟩
  rw [H0.out]
  exact jX.mk (Own.nil _ _ _ _ _) (fun _=>.inl rfl)
 |some ad =>
  have hs:n≤9223372036854775807:=by have:=Nat.le_trans h.cap h.bnd;unfold maxLen at this;omega
  go_enter Tryd.func44,Tryd.ntmps44
  go_wp2_with (at_builtin;refine wO ain rfl _ _ rfl rfl (Own.afK (emR 1) (ok:=fun _=>False) (Nat.le_refl _)) rfl ((Src.VX (h.below ((Below.refl _ _).alloc (Nat.le_refl _) _))).flat (Flat.em 1)) ?c1 ?c2 ?c3 ?_)
  case c1=>simp;unfold maxLen;omega
  case c2=>simp;omega
  case c3=>simp
  intro v' w1 hown hgrow hat
  obtain ⟨a',n',c',rfl,_⟩:=hown.sl
  go_wp2
  go_ret
  refine ⟨_,_,_,rfl,jX.mk (by simpa using hown) (fun e=>?_),((Below.refl _ _).alloc (Nat.le_refl _) _).grown hgrow (by simp) (fun k hk=>by cases hk;exact Nat.le_refl _)⟩
  subst e
  obtain ⟨xs,h1,_⟩:=hown
  rcases h1.2 with ⟨hv,_⟩|⟨g,cap,cur,hv,_⟩
  ·exact .inl hv
  ·exact .inr ⟨g,cap,by simpa using hv⟩
theorem Qa:bV Tryd.prog 44 ab8=true:=by kernel_rfl
theorem JC {en:Env} (hen:en 44=some (.code ab8)) {e:PV} {es:List PV} (hl:(e :: es).length≤lim):cal en 44 [.list 1 (e :: es)]=some [(.list 1 (e :: es),true)]:=by
 have F1:(es.length+1≤lim)=True:=eq_true (by simpa using hl)
 rw [ah hen rfl]
 simp only [ab8]
 simp only [start,aO,aY,aK,aX,aH,aI,aN,aU,Nat.reduceAdd,Nat.reduceSub]
 simp only [F1,aU,bW,reduceCtorEq,Nat.reduceEqDiff,Nat.reduceAdd,Nat.reduceLT,Nat.reduceLeDiff,Nat.beq]
theorem Qb:∀ args rs,kZ 1 args=some rs→callable Tryd.prog 44=true∧pz Tryd.prog 44 args rs:=fun args rs h=>by
 unfold kZ at h
 split at h
 case h_2=>cases h
 rename_i sz es
 split at h
 case isFalse=>cases h
 rename_i hc
 obtain ⟨rfl,hl⟩:=hc
 cases h
 cases es with
 |cons e es =>
  obtain ⟨n,hn⟩:=nP (JC (en:=D8 44 ab8) (if_pos rfl) hl)
  exact vW (Ae Qa) hn
 |nil =>
  refine ⟨by kernel_rfl,fun T0 w vs h1 h2 h3 h4 _=>?_⟩
  match vs,h3 with
  |[v],_ =>
   have hv:=h4 0 _ v rfl rfl
   obtain ⟨a,c,rfl,hsl⟩:=P9 hv
   refine (aar (ok:=fun _=>True) hsl (by omega)).mono ?_
   rintro e w' ⟨a',n',c',rfl,hrd,hB⟩
   obtain ⟨v,hv,hb,⟨xs,hown,_⟩,hnil⟩:=hrd
   obtain rfl:Value.slice a' n' c'=v:=by simpa using hv
   rcases hown.2 with ⟨e1,_⟩|⟨g,cap,cur,e1,_,hg,_,hm,hs,_⟩
   ·refine ⟨_,T0,rfl,hB,fun _ _=>rfl,fun b hb=>h2 b (by have:=hB.size;omega),#[_],rfl,rfl,fun i r u hr hu=>?_⟩
    cases i with
    |zero=>cases hr;cases hu;exact .inl ⟨rfl,none,e1⟩
    |succ i=>simp at hr
   ·have hg0:w.heap.size≤g:=hb g (by rw [e1];rfl)
    have hgl:g<w'.heap.size:=(Array.getElem?_eq_some_iff.1 hg).1
    refine ⟨_,fun b=>if b=g then .row (.part 0 0) else T0 b,rfl,hB,fun b hb=>if_neg (by omega),fun b hb=>?_,#[_],rfl,rfl,fun i r u hr hu=>?_⟩
    ·show (if b=g then _ else T0 b)=_
     rw [if_neg (by omega)];exact h2 b (by have:=hB.size;omega)
    ·cases i with
     |zero =>
      cases hr;cases hu
      exact .inr ⟨g,cap,cur,_,e1,if_pos rfl,hg,hs,Nat.zero_le _,hm,(fun e he=>by cases he),fun i e j x hi=>by simp at hi⟩
     |succ i=>simp at hr
--+
theorem aio:Cc Tryd.prog 24 90 1 8 (.int .u64 0):=⟨Tryd.underlying24,by kernel_rfl,rfl,by decide⟩
set_option maxHeartbeats 1000000 in
theorem aas {a:Option Addr} {n c:Nat} {l:List Unit} {ok:Nat→Prop} {w:World} (h:Sl (emR 1) ok w a n c l) (hn:n≤1000000) :
  Calls Tryd.prog 81 #[.slice a n c] w fun e w'=>∃ a' n' c',e=.returned (.slice a' n' c')∧(jX (emR 1) 90).rd (w.heap.size≤·) w' [.slice a' n' c'] l∧Below w.heap.size w w':=by
 have heq:=fun (a:Option Addr) (n c:Nat) (w:World)=>Lib.run_eql_slice_nil (P:=Tryd.prog) w 24 90 a n c 0 0 Tryd.underlying24
 cases a with
 |none =>
  have h0:l=[]:=List.eq_nil_of_length_eq_zero (by rw [h.len];have:=h.nil rfl;have:=h.cap;omega)
  have H0:=Lib.hid h0;clear h0
  go_enter Tryd.func81,Tryd.ntmps81
  go_wp2
  go_ret
  refine ⟨_,_,_,rfl,?_,Below.refl _ _⟩
  rw [H0.out]
  exact jX.mk (Own.nil _ _ _ _ _) (fun _=>.inl rfl)
 |some ad =>
  have hs:n≤9223372036854775807:=by have:=Nat.le_trans h.cap h.bnd;unfold maxLen at this;omega
  go_enter Tryd.func81,Tryd.ntmps81
  go_wp2_with (at_builtin;refine wO aio rfl _ _ rfl rfl (Own.afK (emR 1) (ok:=fun _=>False) (Nat.le_refl _)) rfl ((Src.VX (h.below ((Below.refl _ _).alloc (Nat.le_refl _) _))).flat (Flat.em 1)) ?c1 ?c2 ?c3 ?_)
  case c1=>simp;unfold maxLen;omega
  case c2=>simp;omega
  case c3=>simp
  intro v' w1 hown hgrow hat
  obtain ⟨a',n',c',rfl,_⟩:=hown.sl
  go_wp2
  go_ret
  refine ⟨_,_,_,rfl,jX.mk (by simpa using hown) (fun e=>?_),((Below.refl _ _).alloc (Nat.le_refl _) _).grown hgrow (by simp) (fun k hk=>by cases hk;exact Nat.le_refl _)⟩
  subst e
  obtain ⟨xs,h1,_⟩:=hown
  rcases h1.2 with ⟨hv,_⟩|⟨g,cap,cur,hv,_⟩
  ·exact .inl hv
  ·exact .inr ⟨g,cap,by simpa using hv⟩
theorem Qc:bV Tryd.prog 81 acd=true:=by kernel_rfl
theorem JD {en:Env} (hen:en 81=some (.code acd)) {e:PV} {es:List PV} (hl:(e :: es).length≤lim):cal en 81 [.list 1 (e :: es)]=some [(.list 1 (e :: es),true)]:=by
 have F1:(es.length+1≤lim)=True:=eq_true (by simpa using hl)
 rw [ah hen rfl]
 simp only [acd]
 simp only [start,aO,aY,aK,aX,aH,aI,aN,aU,Nat.reduceAdd,Nat.reduceSub]
 simp only [F1,aU,bW,reduceCtorEq,Nat.reduceEqDiff,Nat.reduceAdd,Nat.reduceLT,Nat.reduceLeDiff,Nat.beq]
theorem Qd:∀ args rs,kZ 1 args=some rs→callable Tryd.prog 81=true∧pz Tryd.prog 81 args rs:=fun args rs h=>by
 unfold kZ at h
 split at h
 case h_2=>cases h
 rename_i sz es
 split at h
 case isFalse=>cases h
 rename_i hc
 obtain ⟨rfl,hl⟩:=hc
 cases h
 cases es with
 |cons e es =>
  obtain ⟨n,hn⟩:=nP (JD (en:=D8 81 acd) (if_pos rfl) hl)
  exact vW (Ae Qc) hn
 |nil =>
  refine ⟨by kernel_rfl,fun T0 w vs h1 h2 h3 h4 _=>?_⟩
  match vs,h3 with
  |[v],_ =>
   have hv:=h4 0 _ v rfl rfl
   obtain ⟨a,c,rfl,hsl⟩:=P9 hv
   refine (aas (ok:=fun _=>True) hsl (by omega)).mono ?_
   rintro e w' ⟨a',n',c',rfl,hrd,hB⟩
   obtain ⟨v,hv,hb,⟨xs,hown,_⟩,hnil⟩:=hrd
   obtain rfl:Value.slice a' n' c'=v:=by simpa using hv
   rcases hown.2 with ⟨e1,_⟩|⟨g,cap,cur,e1,_,hg,_,hm,hs,_⟩
   ·refine ⟨_,T0,rfl,hB,fun _ _=>rfl,fun b hb=>h2 b (by have:=hB.size;omega),#[_],rfl,rfl,fun i r u hr hu=>?_⟩
    cases i with
    |zero=>cases hr;cases hu;exact .inl ⟨rfl,none,e1⟩
    |succ i=>simp at hr
   ·have hg0:w.heap.size≤g:=hb g (by rw [e1];rfl)
    have hgl:g<w'.heap.size:=(Array.getElem?_eq_some_iff.1 hg).1
    refine ⟨_,fun b=>if b=g then .row (.part 0 0) else T0 b,rfl,hB,fun b hb=>if_neg (by omega),fun b hb=>?_,#[_],rfl,rfl,fun i r u hr hu=>?_⟩
    ·show (if b=g then _ else T0 b)=_
     rw [if_neg (by omega)];exact h2 b (by have:=hB.size;omega)
    ·cases i with
     |zero =>
      cases hr;cases hu
      exact .inr ⟨g,cap,cur,_,e1,if_pos rfl,hg,hs,Nat.zero_le _,hm,(fun e he=>by cases he),fun i e j x hi=>by simp at hi⟩
     |succ i=>simp at hr
--+
theorem aip:Cc Tryd.prog 37 5 1 1 (.int .u8 0):=⟨Tryd.underlying37,by kernel_rfl,rfl,by decide⟩
set_option maxHeartbeats 1000000 in
theorem aat {a:Option Addr} {n c:Nat} {l:List Unit} {ok:Nat→Prop} {w:World} (h:Sl (emR 1) ok w a n c l) (hn:n≤1000000) :
  Calls Tryd.prog 59 #[.slice a n c] w fun e w'=>∃ a' n' c',e=.returned (.slice a' n' c')∧(jX (emR 1) 5).rd (w.heap.size≤·) w' [.slice a' n' c'] l∧Below w.heap.size w w':=by
 have heq:=fun (a:Option Addr) (n c:Nat) (w:World)=>Lib.run_eql_slice_nil (P:=Tryd.prog) w 37 5 a n c 0 0 Tryd.underlying37
 cases a with
 |none =>
  have h0:l=[]:=List.eq_nil_of_length_eq_zero (by rw [h.len];have:=h.nil rfl;have:=h.cap;omega)
  have H0:=Lib.hid h0;clear h0
  go_enter Tryd.func59,Tryd.ntmps59
  go_wp2
  go_ret
  refine ⟨_,_,_,rfl,?_,Below.refl _ _⟩
  rw [H0.out]
  exact jX.mk (Own.nil _ _ _ _ _) (fun _=>.inl rfl)
 |some ad =>
  have hs:n≤9223372036854775807:=by have:=Nat.le_trans h.cap h.bnd;unfold maxLen at this;omega
  go_enter Tryd.func59,Tryd.ntmps59
  go_wp2_with (at_builtin;refine wO aip rfl _ _ rfl rfl (Own.afK (emR 1) (ok:=fun _=>False) (Nat.le_refl _)) rfl ((Src.VX (h.below ((Below.refl _ _).alloc (Nat.le_refl _) _))).flat (Flat.em 1)) ?c1 ?c2 ?c3 ?_)
  case c1=>simp;unfold maxLen;omega
  case c2=>simp;omega
  case c3=>simp
  intro v' w1 hown hgrow hat
  obtain ⟨a',n',c',rfl,_⟩:=hown.sl
  go_wp2
  go_ret
  refine ⟨_,_,_,rfl,jX.mk (by simpa using hown) (fun e=>?_),((Below.refl _ _).alloc (Nat.le_refl _) _).grown hgrow (by simp) (fun k hk=>by cases hk;exact Nat.le_refl _)⟩
  subst e
  obtain ⟨xs,h1,_⟩:=hown
  rcases h1.2 with ⟨hv,_⟩|⟨g,cap,cur,hv,_⟩
  ·exact .inl hv
  ·exact .inr ⟨g,cap,by simpa using hv⟩
theorem Qe:bV Tryd.prog 59 ab9=true:=by kernel_rfl
theorem JE {en:Env} (hen:en 59=some (.code ab9)) {e:PV} {es:List PV} (hl:(e :: es).length≤lim):cal en 59 [.list 1 (e :: es)]=some [(.list 1 (e :: es),true)]:=by
 have F1:(es.length+1≤lim)=True:=eq_true (by simpa using hl)
 rw [ah hen rfl]
 simp only [ab9]
 simp only [start,aO,aY,aK,aX,aH,aI,aN,aU,Nat.reduceAdd,Nat.reduceSub]
 simp only [F1,aU,bW,reduceCtorEq,Nat.reduceEqDiff,Nat.reduceAdd,Nat.reduceLT,Nat.reduceLeDiff,Nat.beq]
theorem Qg:∀ args rs,kZ 1 args=some rs→callable Tryd.prog 59=true∧pz Tryd.prog 59 args rs:=fun args rs h=>by
 unfold kZ at h
 split at h
 case h_2=>cases h
 rename_i sz es
 split at h
 case isFalse=>cases h
 rename_i hc
 obtain ⟨rfl,hl⟩:=hc
 cases h
 cases es with
 |cons e es =>
  obtain ⟨n,hn⟩:=nP (JE (en:=D8 59 ab9) (if_pos rfl) hl)
  exact vW (Ae Qe) hn
 |nil =>
  refine ⟨by kernel_rfl,fun T0 w vs h1 h2 h3 h4 _=>?_⟩
  match vs,h3 with
  |[v],_ =>
   have hv:=h4 0 _ v rfl rfl
   obtain ⟨a,c,rfl,hsl⟩:=P9 hv
   refine (aat (ok:=fun _=>True) hsl (by omega)).mono ?_
   rintro e w' ⟨a',n',c',rfl,hrd,hB⟩
   obtain ⟨v,hv,hb,⟨xs,hown,_⟩,hnil⟩:=hrd
   obtain rfl:Value.slice a' n' c'=v:=by simpa using hv
   rcases hown.2 with ⟨e1,_⟩|⟨g,cap,cur,e1,_,hg,_,hm,hs,_⟩
   ·refine ⟨_,T0,rfl,hB,fun _ _=>rfl,fun b hb=>h2 b (by have:=hB.size;omega),#[_],rfl,rfl,fun i r u hr hu=>?_⟩
    cases i with
    |zero=>cases hr;cases hu;exact .inl ⟨rfl,none,e1⟩
    |succ i=>simp at hr
   ·have hg0:w.heap.size≤g:=hb g (by rw [e1];rfl)
    have hgl:g<w'.heap.size:=(Array.getElem?_eq_some_iff.1 hg).1
    refine ⟨_,fun b=>if b=g then .row (.part 0 0) else T0 b,rfl,hB,fun b hb=>if_neg (by omega),fun b hb=>?_,#[_],rfl,rfl,fun i r u hr hu=>?_⟩
    ·show (if b=g then _ else T0 b)=_
     rw [if_neg (by omega)];exact h2 b (by have:=hB.size;omega)
    ·cases i with
     |zero =>
      cases hr;cases hu
      exact .inr ⟨g,cap,cur,_,e1,if_pos rfl,hg,hs,Nat.zero_le _,hm,(fun e he=>by cases he),fun i e j x hi=>by simp at hi⟩
     |succ i=>simp at hr
end Go.Proofs.YtdahanchdjadiaaDoor
