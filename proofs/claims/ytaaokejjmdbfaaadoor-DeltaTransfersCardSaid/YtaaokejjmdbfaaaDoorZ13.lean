/-
  Part 13 of the texts that the statement stands on.
-/
import Derived.Test.YtaaokejjmdbfaaaDoorZ12
set_option linter.all false
namespace Go.Proofs.YtaaokejjmdbfaaaDoor.V
theorem FW {a b:Pt} (h:∀ v,eX a v=eX b v):∀ n,qo a b n=qo b a n
 |0=>rfl
 |n+1=>by
  have ih:=FW h n
  unfold qo
  rw [ih,h n]
  congr 2
  unfold wQ
  congr 1
  funext k
  unfold mk2
  rw [Bool.or_comm]
theorem ZM {l:List Pt} (hf:iy l=0) {i k:Nat} (h1:i<l.length) (h2:k<l.length):iF l i k=iF l k i:=by
 obtain ⟨g1,g2,g3,g4⟩:=ng hf
 have hs:=g4 _ (List.getElem_mem h1) _ (List.getElem_mem h2)
 unfold iF
 rw [List.getD_eq_getElem?_getD,List.getD_eq_getElem?_getD,List.getElem?_eq_getElem h1,List.getElem?_eq_getElem h2]
 show qo l[i] l[k] l[i].img.length=qo l[k] l[i] l[k].img.length
 rw [(qF hs).1]
 exact FW (fun v=>Nb hs v) _
theorem ZN {l:List Pt} (hf:iy l=0):∀ i k (h1:i<l.length) (h2:k<l.length),cal env 34 [dX l[i],dX l[k]]=some [(.int .i64 (iF l i k:Nat),false)]:=fun i k h1 h2=>by
 obtain ⟨g1,g2,g3,g4⟩:=ng hf
 have m1:=List.getElem_mem h1
 have m2:=List.getElem_mem h2
 have hs:=(qF (g4 _ m1 _ m2)).1
 have q1:=jT (g1 _ m1)
 have q2:=jT (g1 _ m2)
 have l1:=jo q1.2.1
 have e:=ahn (a:=l[i]) (b:=l[k]) q1.2.2.1 (by have:=q2.2.2.1;omega) l1.1 (fun v=>Dv q1.2.1 v)
 unfold iF
 rw [List.getD_eq_getElem?_getD,List.getD_eq_getElem?_getD,List.getElem?_eq_getElem h1,List.getElem?_eq_getElem h2]
 exact e
end Go.Proofs.YtaaokejjmdbfaaaDoor.V

namespace Go.Proofs.YtaaokejjmdbfaaaDoor.V
abbrev T3:=Int × Int × Int
def stE (w:Nat→Nat→Nat) (ins:List Bool) (i:Nat) (s:T3) (k:Nat):T3:=if (fC ins i || !fC ins k)=true then s else if s.1<0∨((w i k:Nat):Int)<s.2.2 then ((i:Int),(k:Int),((w i k:Nat):Int)) else s
def oP (w:Nat→Nat→Nat) (ins:List Bool) (i:Nat) (s:T3):Nat→T3
 |0=>s
 |k+1=>stE w ins i (oP w ins i s k) k
def nJ (w:Nat→Nat→Nat) (ins:List Bool) (n:Nat):Nat→T3
 |0=>(-1,-1,0)
 |i+1=>oP w ins i (nJ w ins n i) n
def FX (ins:List Bool) (n i k:Nat):Prop:=i<n∧k<n∧fC ins i=false∧fC ins k=true
def Vd (w:Nat→Nat→Nat) (ins:List Bool) (n i k:Nat) (s:T3):Prop :=
 (s=(-1,-1,0)∧∀ i' k':Nat,FX ins n i' k'→¬ (i'<i∨(i'=i∧k'<k)))∨∃ i0 k0:Nat,s=((i0:Int),(k0:Int),((w i0 k0:Nat):Int))∧FX ins n i0 k0∧(i0<i∨(i0=i∧k0<k))∧∀ i' k':Nat,FX ins n i' k'→(i'<i∨(i'=i∧k'<k))→¬ qG (((w i' k':Nat):Int),(i':Int),(k':Int)) (((w i0 k0:Nat):Int),(i0:Int),(k0:Int))
theorem Ve {w:Nat→Nat→Nat} {ins:List Bool} {n i k:Nat} {s:T3} (hi:i<n) (hk:k<n) (h:Vd w ins n i k s):Vd w ins n i (k+1) (stE w ins i s k):=by
 unfold stE
 by_cases c:(fC ins i || !fC ins k)=true
 ·rw [if_pos c]
  have hnc:¬ FX ins n i k:=fun q=>by rw [q.2.2.1,q.2.2.2] at c;cases c
  rcases h with ⟨h1,h2⟩|⟨i0,k0,h1,h2,h3,h4⟩
  ·refine .inl ⟨h1,fun i' k' q p=>?_⟩
   by_cases e:i'=i∧k'=k
   ·exact hnc (e.1 ▸ e.2 ▸ q)
   ·exact h2 i' k' q (by omega)
  ·refine .inr ⟨i0,k0,h1,h2,by omega,fun i' k' q p=>?_⟩
   by_cases e:i'=i∧k'=k
   ·exact absurd (e.1 ▸ e.2 ▸ q) hnc
   ·exact h4 i' k' q (by omega)
 ·rw [if_neg c]
  have hc:FX ins n i k:=by
   rw [Bool.not_eq_true,Bool.or_eq_false_iff,Bool.not_eq_false'] at c
   exact ⟨hi,hk,c.1,c.2⟩
  rcases h with ⟨h1,h2⟩|⟨i0,k0,h1,h2,h3,h4⟩
  ·rw [h1,if_pos (Or.inl (by decide))]
   refine .inr ⟨i,k,rfl,hc,by omega,fun i' k' q p=>?_⟩
   by_cases e:i'=i∧k'=k
   ·rw [e.1,e.2];unfold qG;simp only;omega
   ·exact absurd (by omega) (h2 i' k' q)
  ·rw [h1]
   simp only
   by_cases c2:((i0:Int)<0∨((w i k:Nat):Int)<((w i0 k0:Nat):Int))
   ·rw [if_pos c2]
    refine .inr ⟨i,k,rfl,hc,by omega,fun i' k' q p=>?_⟩
    by_cases e:i'=i∧k'=k
    ·rw [e.1,e.2];unfold qG;simp only;omega
    ·have:=h4 i' k' q (by omega)
     unfold qG at this ⊢
     simp only at this ⊢
     omega
   ·rw [if_neg c2]
    refine .inr ⟨i0,k0,rfl,h2,by omega,fun i' k' q p=>?_⟩
    by_cases e:i'=i∧k'=k
    ·rw [e.1,e.2];unfold qG;simp only;omega
    ·exact h4 i' k' q (by omega)
theorem Nw {w:Nat→Nat→Nat} {ins:List Bool} {n i:Nat} {s:T3} (hi:i<n) (h:Vd w ins n i 0 s):∀ k,k≤n→Vd w ins n i k (oP w ins i s k)
 |0,_=>h
 |k+1,hk=>Ve hi (by omega) (Nw hi h k (by omega))
theorem Ny (w:Nat→Nat→Nat) (ins:List Bool) (n:Nat):∀ i,i≤n→Vd w ins n i 0 (nJ w ins n i)
 |0,_=>.inl ⟨rfl,fun i' k' _ p=>by omega⟩
 |i+1,hi=>by
  have h:=Nw (by omega) (Ny w ins n i (by omega)) n (Nat.le_refl _)
  show Vd w ins n (i+1) 0 (oP w ins i (nJ w ins n i) n)
  generalize oP w ins i (nJ w ins n i) n=s at *
  rcases h with ⟨h1,h2⟩|⟨i0,k0,h1,h2,h3,h4⟩
  ·refine .inl ⟨h1,fun i' k' q p=>h2 i' k' q ?_⟩
   have:=q.2.1
   omega
  ·refine .inr ⟨i0,k0,h1,h2,by omega,fun i' k' q p=>h4 i' k' q ?_⟩
   have:=q.2.1
   omega
theorem Vf {w:Nat→Nat→Nat} {ins:List Bool} {n:Nat} (hw:∀ i k,i<n→k<n→w i k=w k i) (h1:∃ i,i<n∧fC ins i=true) (h2:∃ k,k<n∧fC ins k=false) :
  ∃ i k:Nat,i<n∧k<n∧nJ w ins n n=((k:Int),(i:Int),((w i k:Nat):Int))∧vS w n ins=(((w i k:Nat):Int),(k:Int),(i:Int)):=by
 obtain ⟨_,⟨i,k,g1,g2,g3,g4,g5⟩,g6⟩:=Dy (w:=w) h1 h2
 refine ⟨i,k,g1,g2,?_,g5⟩
 have hc:FX ins n k i:=⟨g2,g1,g4,g3⟩
 rcases Ny w ins n n (Nat.le_refl _) with ⟨_,q2⟩|⟨i0,k0,q1,q2,q3,q4⟩
 ·exact absurd (Or.inl g2) (q2 k i hc)
 ·have a1:=q4 k i hc (.inl g2)
  have a2:=g6 k0 i0 q2.2.1 q2.1 q2.2.2.2 q2.2.2.1
  rw [g5] at a2
  rw [hw k i g2 g1] at a1
  rw [hw k0 i0 q2.2.1 q2.1] at a2
  unfold qG at a1 a2
  simp only at a1 a2
  have e1:i0=k:=by omega
  have e2:k0=i:=by omega
  subst e1 e2
  rw [q1,hw i0 k0 g2 g1]
set_option maxRecDepth 20000 in
theorem afb {l:List Pt} {ins:List Bool} {PA:List PV} {sum KO:Int} {u:Nat} {s:T3} (hl:l.length≤1000) (hn:ins.length=l.length) (hu:u<l.length) (hW:∀ i k (h1:i<l.length) (h2:k<l.length),cal env 34 [dX l[i],dX l[k]]=some [(.int .i64 (iF l i k:Nat),false)]) {st:St} (h:st.head [0,8,9,10,11,12,13,14,15,16,33,36] st.boxes.length=some ⟨sl 103 [(0,.pv (.list 4 (l.map dX))),(8,.row 1 PA),(9,.row 1 (ins.map eB)),(10,.pv (.int .i64 sum)),(11,.pv (.int .i64 KO)),(12,.pv (.int .i64 (oP (iF l) ins u s ((0:Nat))).1)),(13,.pv (.int .i64 (oP (iF l) ins u s ((0:Nat))).2.1)),(14,.pv (.int .i64 (oP (iF l) ins u s ((0:Nat))).2.2)),(15,.pv (.int .i64 u)),(16,.pv (.int .i64 (0:Nat))),(33,.any),(36,.any)],[],[],none⟩) :
  den env Ik st=some (.normal,⟨sl 103 [(0,.pv (.list 4 (l.map dX))),(4,.any),(5,.any),(6,.any),(8,.row 1 PA),(9,.row 1 (ins.map eB)),(10,.pv (.int .i64 sum)),(11,.pv (.int .i64 KO)),(12,.pv (.int .i64 (oP (iF l) ins u s l.length).1)),(13,.pv (.int .i64 (oP (iF l) ins u s l.length).2.1)),(14,.pv (.int .i64 (oP (iF l) ins u s l.length).2.2)),(15,.pv (.int .i64 u)),(33,.any),(36,.any)],[],[],none⟩):=by
 unfold Ik
 refine bH (env:=env) (nb:=0) (l.length) (fun i=>⟨sl 103 [(0,.pv (.list 4 (l.map dX))),(8,.row 1 PA),(9,.row 1 (ins.map eB)),(10,.pv (.int .i64 sum)),(11,.pv (.int .i64 KO)),(12,.pv (.int .i64 (oP (iF l) ins u s (i)).1)),(13,.pv (.int .i64 (oP (iF l) ins u s (i)).2.1)),(14,.pv (.int .i64 (oP (iF l) ins u s (i)).2.2)),(15,.pv (.int .i64 u)),(16,.pv (.int .i64 i)),(33,.any),(36,.any)],[],[],none⟩) (fun i=>some (.normal,⟨sl 103 [(0,.pv (.list 4 (l.map dX))),(4,.any),(5,.any),(6,.any),(8,.row 1 PA),(9,.row 1 (ins.map eB)),(10,.pv (.int .i64 sum)),(11,.pv (.int .i64 KO)),(12,.pv (.int .i64 (oP (iF l) ins u s l.length).1)),(13,.pv (.int .i64 (oP (iF l) ins u s l.length).2.1)),(14,.pv (.int .i64 (oP (iF l) ins u s l.length).2.2)),(15,.pv (.int .i64 u)),(33,.any),(36,.any)],[],[],none⟩)) h (fun _=>rfl) (fun _=>by simp only [aO,bJ,Nat.reduceMul,Nat.reduceBEq,Nat.reduceLT,Nat.reduceLeDiff,Nat.reduceAdd,decide_true,Bool.and_self,Bool.true_and]) ?_ ?_
 ·intro i rb hi ih
  have hlim:lim=1073741824:=rfl
  have hi1:=bD hi (by omega)
  have F1:((i:Int)<(l.length:Int))=True:=eq_true (by omega)
  have hu2:u<ins.length:=by omega
  have hi2:i<ins.length:=by omega
  have hx:(l.map dX)[u]?=some (dX l[u]):=by rw [List.getElem?_map,List.getElem?_eq_getElem hu];rfl
  have hy:(l.map dX)[i]?=some (dX l[i]):=by rw [List.getElem?_map,List.getElem?_eq_getElem hi];rfl
  have bx:(ins.map eB)[u]?=some (.bool (fC ins u)):=by rw [List.getElem?_map,List.getElem?_eq_getElem hu2];unfold fC;rw [List.getD_eq_getElem?_getD,List.getElem?_eq_getElem hu2];rfl
  have bY:(ins.map eB)[i]?=some (.bool (fC ins i)):=by rw [List.getElem?_map,List.getElem?_eq_getElem hi2];unfold fC;rw [List.getD_eq_getElem?_getD,List.getElem?_eq_getElem hi2];rfl
  have e1:=hW u i hu hi
  have P4:∀ a b c d:PV,part [a,b,c,d] 0 (some 4)=some (.agg [a,b,c,d]):=fun _ _ _ _=>rfl
  have hs:oP (iF l) ins u s (i+1)=stE (iF l) ins u (oP (iF l) ins u s i) i:=rfl
  have hpl:(l.map dX).length=l.length:=List.length_map ..
  have hil:(ins.map eB).length=ins.length:=List.length_map ..
  have X1:=ah (k:=.i64) hu
  have X2:=ah (k:=.i64) hi
  have X3:=ah (k:=.i64) hu2
  have X4:=ah (k:=.i64) hi2
  rw [dQ] at hx hy
  rw [dQ,dQ] at e1
  unfold stE at hs
  generalize l.map dX=PL at *
  generalize ins.map eB=IN at *
  cases c1:fC ins u with
  |true =>
   rw [c1] at bx
   rw [c1,Bool.true_or,if_pos rfl] at hs
   simp only [rJ,F1,bx,bY,X1,X2,X3,X4,hpl,hil,List.length_map,aA,Nat.reduceMul,Nat.reduceBEq,Nat.reduceLT,Nat.reduceLeDiff,reduceCtorEq,Nat.reduceEqDiff,Nat.reduceAdd,Nat.beq]
   rw [ih _ (by simp only [hi1,hs];simp only [aA,Nat.reduceMul,Nat.reduceBEq,Nat.reduceLT,Nat.reduceLeDiff,reduceCtorEq,Nat.reduceEqDiff,Nat.reduceAdd,Nat.beq]<;>rfl)]
  |false =>
   rw [c1] at bx
   cases c2:fC ins i with
   |false =>
    rw [c2] at bY
    rw [c1,c2,if_pos (show (false || !false)=true from rfl)] at hs
    simp only [rJ,F1,bx,bY,X1,X2,X3,X4,hpl,hil,List.length_map,aA,Nat.reduceMul,Nat.reduceBEq,Nat.reduceLT,Nat.reduceLeDiff,reduceCtorEq,Nat.reduceEqDiff,Nat.reduceAdd,Nat.beq]
    rw [ih _ (by simp only [hi1,hs];simp only [aA,Nat.reduceMul,Nat.reduceBEq,Nat.reduceLT,Nat.reduceLeDiff,reduceCtorEq,Nat.reduceEqDiff,Nat.reduceAdd,Nat.beq]<;>rfl)]
   |true =>
    rw [c2] at bY
    rw [c1,c2,if_neg (show ¬ (false || !true)=true from by decide)] at hs
    generalize oP (iF l) ins u s (i+1)=s2 at *
    generalize oP (iF l) ins u s i=s1 at *
    by_cases c3:s1.1<0
    ·have G1:=eq_true c3
     rw [if_pos (Or.inl c3)] at hs
     simp only [rJ,F1,G1,bx,bY,hx,hy,e1,P4,X1,X2,X3,X4,hpl,hil,List.length_map,aA,Nat.reduceMul,Nat.reduceBEq,Nat.reduceLT,Nat.reduceLeDiff,reduceCtorEq,Nat.reduceEqDiff,Nat.reduceAdd,Nat.beq]
     rw [ih _ (by simp only [hi1,hs];simp only [aA,Nat.reduceMul,Nat.reduceBEq,Nat.reduceLT,Nat.reduceLeDiff,reduceCtorEq,Nat.reduceEqDiff,Nat.reduceAdd,Nat.beq]<;>rfl)]
    ·have G1:=eq_false c3
     by_cases c4:((iF l u i:Nat):Int)<s1.2.2
     ·have G2:=eq_true c4
      rw [if_pos (Or.inr c4)] at hs
      simp only [rJ,F1,G1,G2,bx,bY,hx,hy,e1,P4,X1,X2,X3,X4,hpl,hil,List.length_map,aA,Nat.reduceMul,Nat.reduceBEq,Nat.reduceLT,Nat.reduceLeDiff,reduceCtorEq,Nat.reduceEqDiff,Nat.reduceAdd,Nat.beq]
      rw [ih _ (by simp only [hi1,hs];simp only [aA,Nat.reduceMul,Nat.reduceBEq,Nat.reduceLT,Nat.reduceLeDiff,reduceCtorEq,Nat.reduceEqDiff,Nat.reduceAdd,Nat.beq]<;>rfl)]
     ·have G2:=eq_false c4
      rw [if_neg (fun h=>h.elim c3 c4)] at hs
      simp only [rJ,F1,G1,G2,bx,bY,hx,hy,e1,P4,X1,X2,X3,X4,hpl,hil,List.length_map,aA,Nat.reduceMul,Nat.reduceBEq,Nat.reduceLT,Nat.reduceLeDiff,reduceCtorEq,Nat.reduceEqDiff,Nat.reduceAdd,Nat.beq]
      rw [ih _ (by simp only [hi1,hs];simp only [aA,Nat.reduceMul,Nat.reduceBEq,Nat.reduceLT,Nat.reduceLeDiff,reduceCtorEq,Nat.reduceEqDiff,Nat.reduceAdd,Nat.beq]<;>rfl)]
 ·intro rb
  simp only [rJ,Int.lt_irrefl,List.length_map,aA,Nat.reduceMul,Nat.reduceBEq,Nat.reduceLT,Nat.reduceLeDiff,reduceCtorEq,Nat.reduceEqDiff,Nat.reduceAdd,Nat.beq]
set_option maxRecDepth 20000 in
theorem ZO {l:List Pt} {ins:List Bool} {PA:List PV} {sum KO:Int} (hl:l.length≤1000) (hn:ins.length=l.length) (hW:∀ i k (h1:i<l.length) (h2:k<l.length),cal env 34 [dX l[i],dX l[k]]=some [(.int .i64 (iF l i k:Nat),false)]) {st:St} (h:st.head [0,8,9,10,11,12,13,14,15,33,36] st.boxes.length=some ⟨sl 103 [(0,.pv (.list 4 (l.map dX))),(8,.row 1 PA),(9,.row 1 (ins.map eB)),(10,.pv (.int .i64 sum)),(11,.pv (.int .i64 KO)),(12,.pv (.int .i64 (nJ (iF l) ins l.length ((0:Nat))).1)),(13,.pv (.int .i64 (nJ (iF l) ins l.length ((0:Nat))).2.1)),(14,.pv (.int .i64 (nJ (iF l) ins l.length ((0:Nat))).2.2)),(15,.pv (.int .i64 (0:Nat))),(33,.any),(36,.any)],[],[],none⟩) :
  den env Io st=some (.normal,⟨sl 103 [(0,.pv (.list 4 (l.map dX))),(4,.any),(5,.any),(6,.any),(8,.row 1 PA),(9,.row 1 (ins.map eB)),(10,.pv (.int .i64 sum)),(11,.pv (.int .i64 KO)),(12,.pv (.int .i64 (nJ (iF l) ins l.length l.length).1)),(13,.pv (.int .i64 (nJ (iF l) ins l.length l.length).2.1)),(14,.pv (.int .i64 (nJ (iF l) ins l.length l.length).2.2)),(33,.any),(36,.any)],[],[],none⟩):=by
 unfold Io
 refine bH (env:=env) (nb:=0) (l.length) (fun i=>⟨sl 103 [(0,.pv (.list 4 (l.map dX))),(8,.row 1 PA),(9,.row 1 (ins.map eB)),(10,.pv (.int .i64 sum)),(11,.pv (.int .i64 KO)),(12,.pv (.int .i64 (nJ (iF l) ins l.length (i)).1)),(13,.pv (.int .i64 (nJ (iF l) ins l.length (i)).2.1)),(14,.pv (.int .i64 (nJ (iF l) ins l.length (i)).2.2)),(15,.pv (.int .i64 i)),(33,.any),(36,.any)],[],[],none⟩) (fun i=>some (.normal,⟨sl 103 [(0,.pv (.list 4 (l.map dX))),(4,.any),(5,.any),(6,.any),(8,.row 1 PA),(9,.row 1 (ins.map eB)),(10,.pv (.int .i64 sum)),(11,.pv (.int .i64 KO)),(12,.pv (.int .i64 (nJ (iF l) ins l.length l.length).1)),(13,.pv (.int .i64 (nJ (iF l) ins l.length l.length).2.1)),(14,.pv (.int .i64 (nJ (iF l) ins l.length l.length).2.2)),(33,.any),(36,.any)],[],[],none⟩)) h (fun _=>rfl) (fun _=>by simp only [aO,bJ,Nat.reduceMul,Nat.reduceBEq,Nat.reduceLT,Nat.reduceLeDiff,Nat.reduceAdd,decide_true,Bool.and_self,Bool.true_and]) ?_ ?_
 ·intro i rb hi ih
  have hlim:lim=1073741824:=rfl
  have hi1:=bD hi (by omega)
  have F1:((i:Int)<(l.length:Int))=True:=eq_true (by omega)
  have hL:=fun (st:St)=>afb (st:=st) (PA:=PA) (sum:=sum) (KO:=KO) (s:=nJ (iF l) ins l.length i) hl hn hi hW
  rw [show oP (iF l) ins i (nJ (iF l) ins l.length i) 0=nJ (iF l) ins l.length i from rfl,show oP (iF l) ins i (nJ (iF l) ins l.length i) l.length=nJ (iF l) ins l.length (i+1) from rfl] at hL
  generalize nJ (iF l) ins l.length (i+1)=s2 at *
  generalize nJ (iF l) ins l.length i=s1 at *
  have hpl:(l.map dX).length=l.length:=List.length_map ..
  generalize l.map dX=PL at *
  generalize ins.map eB=IN at *
  simp only [Il,F1,hpl,List.length_map,aA,Nat.reduceMul,Nat.reduceBEq,Nat.reduceLT,Nat.reduceLeDiff,reduceCtorEq,Nat.reduceEqDiff,Nat.reduceAdd,Nat.beq]
  rw [hL _ (by simp only [aO,bJ,Nat.reduceMul,Nat.reduceBEq,Nat.reduceLT,Nat.reduceLeDiff,Nat.reduceAdd,decide_true,Bool.and_self,Bool.true_and]<;>rfl)]
  simp only [hpl,List.length_map,aA,Nat.reduceMul,Nat.reduceBEq,Nat.reduceLT,Nat.reduceLeDiff,reduceCtorEq,Nat.reduceEqDiff,Nat.reduceAdd,Nat.beq]
  rw [ih _ (by simp only [hi1];simp only [aA,Nat.reduceMul,Nat.reduceBEq,Nat.reduceLT,Nat.reduceLeDiff,reduceCtorEq,Nat.reduceEqDiff,Nat.reduceAdd,Nat.beq]<;>rfl)]
 ·intro rb
  simp only [Il,Int.lt_irrefl,List.length_map,aA,Nat.reduceMul,Nat.reduceBEq,Nat.reduceLT,Nat.reduceLeDiff,reduceCtorEq,Nat.reduceEqDiff,Nat.reduceAdd,Nat.beq]
set_option maxRecDepth 20000 in
theorem ZP {l:List Pt} {r:Nat} {Q:Nat→Prm} (hQ:∀ k,Q k=je (iF l) l.length (jf l.length r) k) (hr:r<l.length) (hl:l.length≤1000) (hM:∀ i k,iF l i k≤1000000) (hsy:∀ i k,i<l.length→k<l.length→iF l i k=iF l k i) (hW:∀ i k (h1:i<l.length) (h2:k<l.length),cal env 34 [dX l[i],dX l[k]]=some [(.int .i64 (iF l i k:Nat),false)]) {st:St} (h:st.head [0,8,9,10,11,33,36] st.boxes.length=some ⟨sl 103 [(0,.pv (.list 4 (l.map dX))),(8,.row 1 ((Q ((0:Nat))).par.map eI)),(9,.row 1 ((Q ((0:Nat))).ins.map eB)),(10,.pv (.int .i64 (Q ((0:Nat))).sum)),(11,.pv (.int .i64 (((0:Nat)+1:Nat):Int))),(33,.any),(36,.any)],[],[],none⟩) :
  den env Iq st=some (.normal,⟨sl 103 [(4,.any),(5,.any),(6,.any),(8,.row 1 ((Q (l.length - 1)).par.map eI)),(10,.pv (.int .i64 (Q (l.length - 1)).sum))],[],[],none⟩):=by
 unfold Iq
 refine bH (env:=env) (nb:=0) (l.length - 1) (fun i=>⟨sl 103 [(0,.pv (.list 4 (l.map dX))),(8,.row 1 ((Q (i)).par.map eI)),(9,.row 1 ((Q (i)).ins.map eB)),(10,.pv (.int .i64 (Q (i)).sum)),(11,.pv (.int .i64 ((i+1:Nat):Int))),(33,.any),(36,.any)],[],[],none⟩) (fun i=>some (.normal,⟨sl 103 [(4,.any),(5,.any),(6,.any),(8,.row 1 ((Q (l.length - 1)).par.map eI)),(10,.pv (.int .i64 (Q (l.length - 1)).sum))],[],[],none⟩)) h (fun _=>rfl) (fun _=>by simp only [aO,bJ,Nat.reduceMul,Nat.reduceBEq,Nat.reduceLT,Nat.reduceLeDiff,Nat.reduceAdd,decide_true,Bool.and_self,Bool.true_and]) ?_ ?_
 ·intro i rb hi ih
  have hlim:lim=1073741824:=rfl
  have hi1:=bD (i:=i+1) (n:=l.length+2) (by omega) (by omega)
  have F1:(((i+1:Nat):Int)<(l.length:Int))=True:=eq_true (by omega)
  have ho:=yt (iF l) hr hM i (by omega)
  rw [← hQ i] at ho
  obtain ⟨h1,h2,h3,h4,h5,h6⟩:=ho
  obtain ⟨j,k,g1,g2,g3,g4⟩:=Vf hsy ⟨r,hr,h4⟩ (rP (n:=l.length) (ins:=(Q i).ins) (by omega))
  have hs:=hQ (i+1)
  rw [DC (by rw [← hQ i];exact g4),← hQ i] at hs
  have ajX:=hM j k
  have h6':(Q i).sum≤1000 * 1000000:=Int.le_trans h6 (Int.mul_le_mul_of_nonneg_right (by omega) (by decide))
  have hL:=fun (st:St) (q:Int)=>ZO (st:=st) (PA:=(Q i).par.map eI) (sum:=(Q i).sum) (KO:=q) hl h2 hW
  rw [show nJ (iF l) (Q i).ins l.length 0=(-1,-1,0) from rfl,g3] at hL
  have X1:index (.int .i64 (k:Int)) l.length=some k:=ah g2
  have lp:((Q i).par.map eI).length=l.length:=by rw [List.length_map];exact h1
  have li:((Q i).ins.map eB).length=l.length:=by rw [List.length_map];exact h2
  obtain ⟨y1,p1⟩:∃ y,((Q i).par.map eI)[k]?=some (.int .i64 y):=⟨(Q i).par[k]'(by omega),by rw [List.getElem?_map,List.getElem?_eq_getElem (by omega)];rfl⟩
  obtain ⟨y2,p2⟩:∃ y,((Q i).ins.map eB)[k]?=some (.bool y):=⟨(Q i).ins[k]'(by omega),by rw [List.getElem?_map,List.getElem?_eq_getElem (by omega)];rfl⟩
  have s1:((Q i).par.map eI).set k (.int .i64 (j:Int))=(Q (i+1)).par.map eI:=by rw [hs,List.map_set];rfl
  have s2:((Q i).ins.map eB).set k (.bool true)=(Q (i+1)).ins.map eB:=by rw [hs,List.map_set];rfl
  have s3:IntKind.i64.wrap ((Q i).sum+((iF l j k:Nat):Int))=(Q (i+1)).sum:=by rw [hs];exact bT (by omega)
  have hpl:(l.map dX).length=l.length:=List.length_map ..
  generalize (Q i).par.map eI=PA at *
  generalize (Q i).ins.map eB=IN at *
  generalize l.map dX=PL at *
  generalize (Q (i+1)).par.map eI=PA2 at *
  generalize (Q (i+1)).ins.map eB=IN2 at *
  generalize (Q (i+1)).sum=SU2 at *
  simp only [Ip,F1,hpl,aA,Nat.reduceMul,Nat.reduceBEq,Nat.reduceLT,Nat.reduceLeDiff,reduceCtorEq,Nat.reduceEqDiff,Nat.reduceAdd,Nat.beq]
  rw [hL _ _ (by simp only [aO,bJ,Nat.reduceMul,Nat.reduceBEq,Nat.reduceLT,Nat.reduceLeDiff,Nat.reduceAdd,decide_true,Bool.and_self,Bool.true_and]<;>rfl)]
  simp only [X1,lp,li,p1,p2,s1,s2,s3,hpl,aA,Nat.reduceMul,Nat.reduceBEq,Nat.reduceLT,Nat.reduceLeDiff,reduceCtorEq,Nat.reduceEqDiff,Nat.reduceAdd,Nat.beq]
  rw [ih _ (by simp only [hi1];simp only [aA,Nat.reduceMul,Nat.reduceBEq,Nat.reduceLT,Nat.reduceLeDiff,reduceCtorEq,Nat.reduceEqDiff,Nat.reduceAdd,Nat.beq]<;>rfl)]
 ·intro rb
  have F1:(((l.length - 1+1:Nat):Int)<(l.length:Int))=False:=eq_false (by omega)
  simp only [Ip,F1,List.length_map,aA,Nat.reduceMul,Nat.reduceBEq,Nat.reduceLT,Nat.reduceLeDiff,reduceCtorEq,Nat.reduceEqDiff,Nat.reduceAdd,Nat.beq]
set_option maxRecDepth 20000 in
theorem ahT {l:List Pt} {r:Int} (hl:l.length≤lim) (hf:∀ p∈l,wO p):cal env 25 [.list 4 (l.map dX),.int .i64 r]=some [(.list 1 ((yZ l r).par.map eI),true),(.int .i64 (yZ l r).sum,false),(.int .i64 (Vb l r),false)]:=by
 have hlim:lim=1073741824:=rfl
 have e1:=ac1 hl hf
 unfold yZ Vb
 by_cases c1:iy l=0
 ·have hw:=DF c1
  obtain ⟨g1,g2,g3,g4⟩:=ng c1
  rw [c1] at e1
  rw [if_pos c1]
  have Z:((0:Int) != 0)=false:=rfl
  by_cases c2:r<0
  ·have G1:=eq_true c2
   rw [if_pos (Or.inl c2),if_neg (by decide)]
   rw [au QY rfl];simp only [L6,aO,Nat.reduceBEq,Nat.reduceLeDiff,Nat.reduceAdd,List.length_cons,List.length_nil]
   simp only [e1,Z,G1,List.length_map,aA,Nat.reduceMul,Nat.reduceBEq,Nat.reduceLT,Nat.reduceLeDiff,reduceCtorEq,Nat.reduceEqDiff,Nat.reduceAdd,Nat.beq]
  ·have G1:=eq_false c2
   by_cases c3:(l.length:Int)≤r
   ·have G2:=eq_true c3
    have G3:(r ≥ (l.length:Int))=True:=eq_true c3
    rw [if_pos (Or.inr c3),if_neg (by decide)]
    rw [au QY rfl];simp only [L6,aO,Nat.reduceBEq,Nat.reduceLeDiff,Nat.reduceAdd,List.length_cons,List.length_nil]
    simp only [e1,Z,G1,G2,G3,List.length_map,aA,Nat.reduceMul,Nat.reduceBEq,Nat.reduceLT,Nat.reduceLeDiff,reduceCtorEq,Nat.reduceEqDiff,Nat.reduceAdd,Nat.beq]
   ·have G2:=eq_false c3
    have G3:(r ≥ (l.length:Int))=False:=eq_false c3
    rw [if_neg (show ¬ (r<0∨(l.length:Int)≤r) by omega),if_pos rfl]
    obtain ⟨u,rfl⟩:∃ u:Nat,r=(u:Int):=⟨r.toNat,by omega⟩
    rw [Int.toNat_natCast]
    have hu:u<l.length:=by omega
    have hL:=fun (st:St)=>ZP (st:=st) (l:=l) (r:=u) (Q:=je (iF l) l.length (jf l.length u)) (fun _=>rfl) hu (by omega) hw.2 (fun i k a b=>ZM c1 a b) (ZN c1)
    rw [show je (iF l) l.length (jf l.length u) 0=jf l.length u from rfl,FU,FV,show (jf l.length u).sum=0 from rfl] at hL
    have X1:index (.int .i64 (u:Int)) (List.replicate l.length (PV.int .i64 0)).length=some u:=by rw [List.length_replicate];exact ah hu
    have X2:index (.int .i64 (u:Int)) (List.replicate l.length (PV.bool false)).length=some u:=by rw [List.length_replicate];exact ah hu
    have p1:(List.replicate l.length (PV.int .i64 0))[u]?=some (.int .i64 0):=by rw [List.getElem?_replicate,if_pos hu]
    have p2:(List.replicate l.length (PV.bool false))[u]?=some (.bool false):=by rw [List.getElem?_replicate,if_pos hu]
    have K1:(0≤(l.length:Int))=True:=eq_true (by omega)
    have K2:((l.length:Int)≤(lim:Int))=True:=eq_true (by omega)
    have K3:((l.length:Int)≤(l.length:Int))=True:=eq_true (Int.le_refl _)
    have K4:((l.length:Int)).toNat=l.length:=by omega
    generalize je (iF l) l.length (jf l.length u) (l.length - 1)=QE at *
    rw [au QY rfl];simp only [L6,aO,Nat.reduceBEq,Nat.reduceLeDiff,Nat.reduceAdd,List.length_cons,List.length_nil]
    simp only [e1,Z,G1,G2,G3,K1,K2,K3,K4,X1,X2,p1,p2,List.length_map,aA,Nat.reduceMul,Nat.reduceBEq,Nat.reduceLT,Nat.reduceLeDiff,reduceCtorEq,Nat.reduceEqDiff,Nat.reduceAdd,Nat.beq]
    rw [hL _ (by simp only [aO,bJ,Nat.reduceMul,Nat.reduceBEq,Nat.reduceLT,Nat.reduceLeDiff,Nat.reduceAdd,decide_true,Bool.and_self,Bool.true_and]<;>rfl)]
    simp only [e1,Z,G1,G2,G3,K1,K2,K3,K4,X1,X2,p1,p2,List.length_map,aA,Nat.reduceMul,Nat.reduceBEq,Nat.reduceLT,Nat.reduceLeDiff,reduceCtorEq,Nat.reduceEqDiff,Nat.reduceAdd,Nat.beq]
 ·have Z:(iy l != 0)=true:=by simp [c1]
  rw [if_neg c1,if_neg c1]
  rw [au QY rfl];simp only [L6,aO,Nat.reduceBEq,Nat.reduceLeDiff,Nat.reduceAdd,List.length_cons,List.length_nil]
  simp only [e1,Z,List.length_map,aA,Nat.reduceMul,Nat.reduceBEq,Nat.reduceLT,Nat.reduceLeDiff,reduceCtorEq,Nat.reduceEqDiff,Nat.reduceAdd,Nat.beq]
end Go.Proofs.YtaaokejjmdbfaaaDoor.V

namespace Go.Proofs.YtaaokejjmdbfaaaDoor.V
theorem afc {a b:List fV} (hl:a.length≤lim) (hab:a.length=b.length) {st:St} (h:st.head [0,1,5] st.boxes.length=some ⟨[.pv (.list 8 (a.map lJ)),.pv (.list 8 (b.map lJ)),.any,.any,.any,.pv (.int .i64 (0:Nat)),.any,.any,.any,.any,.any,.any,.any,.any,.any,.any,.any,.any,.any,.any,.any,.any,.any,.any,.any,.any],[],[],none⟩) :
  den env I4 st=if a=b then some (.normal,⟨[.any,.any,.any,.any,.any,.any,.any,.any,.any,.any,.any,.any,.any,.any,.any,.any,.any,.any,.any,.any,.any,.any,.any,.any,.any,.any],[],[],none⟩) else some (.ret,⟨[.any,.any,.any,.any,.pv (.bool false),.any,.any,.any,.any,.any,.any,.any,.any,.any,.any,.any,.any,.any,.any,.any,.any,.any,.any,.any,.any,.any],[],[],none⟩):=by
 unfold I4
 rw [ bH (env:=env) (a.length) (fun i=>⟨[.pv (.list 8 (a.map lJ)),.pv (.list 8 (b.map lJ)),.any,.any,.any,.pv (.int .i64 i),.any,.any,.any,.any,.any,.any,.any,.any,.any,.any,.any,.any,.any,.any,.any,.any,.any,.any,.any,.any],[],[],none⟩) (fun i=>if a.drop i=b.drop i then some (.normal,⟨[.any,.any,.any,.any,.any,.any,.any,.any,.any,.any,.any,.any,.any,.any,.any,.any,.any,.any,.any,.any,.any,.any,.any,.any,.any,.any],[],[],none⟩) else some (.ret,⟨[.any,.any,.any,.any,.pv (.bool false),.any,.any,.any,.any,.any,.any,.any,.any,.any,.any,.any,.any,.any,.any,.any,.any,.any,.any,.any,.any,.any],[],[],none⟩)) h (fun _=>rfl) (fun _=>rfl) ?_ ?_]
 ·first|rfl|simp only [List.drop_zero,List.take_zero,List.map_nil,Nat.zero_add,List.nil_append,List.foldl_nil]
 ·intro i rb hi ih
  have hi1:=bD hi hl
  have hj:i<b.length:=by omega
  have F1:((i:Int)<(a.length:Int))=True:=eq_true (by omega)
  rw [List.drop_eq_getElem_cons hi,List.drop_eq_getElem_cons hj]
  by_cases hd:a[i]=b[i]
  ·simp only [Am,F1,lJ,ah hi,ah hj,List.getElem?_map,List.getElem?_eq_getElem hi,List.getElem?_eq_getElem hj,CY,ji,tZ,hd,decide_true,bI,reduceCtorEq,Nat.reduceEqDiff,Nat.reduceAdd,Nat.reduceLT,Nat.reduceLeDiff,Nat.beq]
   rw [ih _ (by simp only [hi1];rfl)]
   simp only [List.cons.injEq,true_and]
  ·have hdf:=decide_eq_false hd
   simp only [Am,F1,lJ,ah hi,ah hj,List.getElem?_map,List.getElem?_eq_getElem hi,List.getElem?_eq_getElem hj,CY,ji,tZ,hdf,bI,reduceCtorEq,Nat.reduceEqDiff,Nat.reduceAdd,Nat.reduceLT,Nat.reduceLeDiff,Nat.beq]
   rw [if_neg (fun e=>hd (List.cons.inj e).1)]
   rfl
 ·intro rb
  simp only [Am,Int.lt_irrefl,bI,reduceCtorEq,Nat.reduceEqDiff,Nat.reduceAdd,Nat.reduceLT,Nat.reduceLeDiff,Nat.beq]
  rw [List.drop_length,hab,List.drop_length,if_pos rfl]
  rfl
theorem ahU {a b:List fV} (hl:a.length≤lim):cal env 70 [.list 8 (a.map lJ),.list 8 (b.map lJ)]=some [(.bool (decide (a=b)),false)]:=by
 rw [au agJ rfl];simp only [Yf];simp only [start,aN,aU,aJ,aS,aF,aG,aK,aT,Nat.reduceAdd,Nat.reduceSub]
 by_cases hab:a.length=b.length
 ·have G:(((a.length:Int)) != (b.length:Int))=false:=by simp;omega
  simp only [G,bI,reduceCtorEq,Nat.reduceEqDiff,Nat.reduceAdd,Nat.reduceLT,Nat.reduceLeDiff,Nat.beq]
  rw [afc hl hab]
  rotate_left
  ·rfl
  ·by_cases e:a=b<;>simp only [e,bI,reduceCtorEq,Nat.reduceEqDiff,Nat.reduceAdd,Nat.reduceLT,Nat.reduceLeDiff,Nat.beq]
 ·have G:(((a.length:Int)) != (b.length:Int))=true:=by simp;omega
  have:a≠b:=fun e=>hab (by rw [e])
  have hdf:=decide_eq_false this
  simp only [G,hdf,bI,reduceCtorEq,Nat.reduceEqDiff,Nat.reduceAdd,Nat.reduceLT,Nat.reduceLeDiff,Nat.beq]
theorem afd {a:List Wrt} (hl:a.length≤lim) (hd:∀ x∈a,x.data.length≤lim) {st:St} (h:st.head [0,1,5] st.boxes.length=some ⟨[.pv (.list 3 (a.map y9)),.pv (.list 3 (a.map y9)),.any,.any,.any,.pv (.int .i64 (0:Nat)),.any,.any,.any,.any,.any,.any,.any,.any,.any,.any,.any,.any,.any,.any,.any,.any,.any,.any,.any,.any,.any,.any,.any,.any,.any,.any,.any,.any,.any,.any,.any,.any,.any,.any,.any,.any,.any,.any,.any,.any,.any,.any,.any,.any,.any,.any,.any,.any,.any],[],[],none⟩) :
  den env Iu st=some (.normal,⟨[.any,.any,.any,.any,.any,.any,.any,.any,.any,.any,.any,.any,.any,.any,.any,.any,.any,.any,.any,.any,.any,.any,.any,.any,.any,.any,.any,.any,.any,.any,.any,.any,.any,.any,.any,.any,.any,.any,.any,.any,.any,.any,.any,.any,.any,.any,.any,.any,.any,.any,.any,.any,.any,.any,.any],[],[],none⟩):=by
 unfold Iu
 refine bH (env:=env) (a.length) (fun i=>⟨[.pv (.list 3 (a.map y9)),.pv (.list 3 (a.map y9)),.any,.any,.any,.pv (.int .i64 i),.any,.any,.any,.any,.any,.any,.any,.any,.any,.any,.any,.any,.any,.any,.any,.any,.any,.any,.any,.any,.any,.any,.any,.any,.any,.any,.any,.any,.any,.any,.any,.any,.any,.any,.any,.any,.any,.any,.any,.any,.any,.any,.any,.any,.any,.any,.any,.any,.any],[],[],none⟩) (fun i=>some (.normal,⟨[.any,.any,.any,.any,.any,.any,.any,.any,.any,.any,.any,.any,.any,.any,.any,.any,.any,.any,.any,.any,.any,.any,.any,.any,.any,.any,.any,.any,.any,.any,.any,.any,.any,.any,.any,.any,.any,.any,.any,.any,.any,.any,.any,.any,.any,.any,.any,.any,.any,.any,.any,.any,.any,.any,.any],[],[],none⟩)) h (fun _=>rfl) (fun _=>rfl) ?_ ?_
 ·intro i rb hi ih
  have hi1:=bD hi hl
  have F1:((i:Int)<(a.length:Int))=True:=eq_true (by omega)
  have e1:=ahU (b:=a[i].data) (hd _ (List.getElem_mem hi))
  have F2:∀ n:Int,(n != n)=false:=fun n=>by simp
  simp only [Ir,F1,F2,e1,y9,ah hi,List.getElem?_map,List.getElem?_eq_getElem hi,Option.map_some,decide_true,bI,reduceCtorEq,Nat.reduceEqDiff,Nat.reduceAdd,Nat.reduceLT,Nat.reduceLeDiff,Nat.beq]
  rw [ih _ (by simp only [hi1];rfl)]
 ·intro rb
  simp only [Ir,Int.lt_irrefl,bI,reduceCtorEq,Nat.reduceEqDiff,Nat.reduceAdd,Nat.reduceLT,Nat.reduceLeDiff,Nat.beq]
  rfl
theorem ahV {a:List Wrt} (hl:a.length≤lim) (hd:∀ x∈a,x.data.length≤lim):cal env 26 [.list 3 (a.map y9),.list 3 (a.map y9)]=some [(.bool true,false)]:=by
 have G:(((a.length:Int)) != (a.length:Int))=false:=by simp
 rw [au agq rfl];simp only [XR];simp only [start,aN,aU,aJ,aS,aF,aG,aK,aT,Nat.reduceAdd,Nat.reduceSub]
 simp only [G,bI,reduceCtorEq,Nat.reduceEqDiff,Nat.reduceAdd,Nat.reduceLT,Nat.reduceLeDiff,Nat.beq]
 rw [afd hl hd]
 rotate_left
 ·rfl
 ·simp only [bI,reduceCtorEq,Nat.reduceEqDiff,Nat.reduceAdd,Nat.reduceLT,Nat.reduceLeDiff,Nat.beq]
end Go.Proofs.YtaaokejjmdbfaaaDoor.V

namespace Go.Proofs.YtaaokejjmdbfaaaDoor.V
def rQ (p:Pt):Bool:=decide (p.lin.length≤20)&&(PY p.img&&decide (p.dirty.length≤9))
def y5 (l:List Pt):Bool:=(l.take 8).all rQ&&decide (l.length≤6)
theorem Vg {l:List Pt} (h:y5 l=true):l.length≤6∧∀ p∈l,p.lin.length≤20∧p.dirty.length≤9∧p.img.length≤9∧∀ v∈p.img,v.length≤24:=by
 unfold y5 at h
 rw [Bool.and_eq_true,decide_eq_true_eq] at h
 refine ⟨h.2,fun p hp=>?_⟩
 rw [List.take_of_length_le (by omega),List.all_eq_true] at h
 have:=h.1 p hp
 unfold rQ PY at this
 simp only [Bool.and_eq_true,decide_eq_true_eq,List.all_eq_true] at this
 exact ⟨this.1,this.2.2,this.2.1.1,this.2.1.2⟩
theorem Qq {l:List Pt} (h:y5 l=true):l.length≤lim∧∀ p∈l,wO p:=by
 obtain ⟨h1,h2⟩:=Vg h
 have hlim:lim=1073741824:=rfl
 refine ⟨by omega,fun p hp=>?_⟩
 have:=h2 p hp
 exact ⟨by omega,by omega,by omega⟩
theorem Vh {l:List Pt} {i:Nat} (h:i<l.length):(l.drop i).all rQ=(rQ l[i]&&(l.drop (i+1)).all rQ):=by
 rw [List.drop_eq_getElem_cons h];rfl
def ZQ (n:Nat) (l:List Pt) (t:Bool):Option (Ex × St):=if t then some (.normal,⟨sl n [(0,.pv (.list 4 (l.map dX))),(2,.any)],[],[],none⟩) else some (.ret,⟨sl n [(0,.pv (.list 4 (l.map dX))),(2,.pv (.bool false))],[],[],none⟩)
theorem afe {l:List Pt} {st:St} (h:st.head [0,3] st.boxes.length=some ⟨sl 38 [(0,.pv (.list 4 (l.map dX))),(3,.pv (.int .i64 (0:Nat)))],[],[],none⟩) :
  den env H8 st=ZQ 38 l (((l.take 8).drop ((0:Nat))).all rQ):=by
 unfold H8
 refine bH (env:=env) (nb:=0) ((l.take 8).length) (fun i=>⟨sl 38 [(0,.pv (.list 4 (l.map dX))),(3,.pv (.int .i64 i))],[],[],none⟩) (fun i=>ZQ 38 l (((l.take 8).drop (i)).all rQ)) h (fun _=>rfl) (fun _=>by simp only [aO,bJ,Nat.reduceMul,Nat.reduceBEq,Nat.reduceLT,Nat.reduceLeDiff,Nat.reduceAdd,decide_true,Bool.and_self,Bool.true_and]) ?_ ?_
 ·intro i rb hi ih
  have hm:(l.take 8).length=min 8 l.length:=List.length_take
  have hi1:=bD hi (by unfold lim;omega)
  have hil:i<l.length:=by omega
  have F1:((i:Int)<(l.length:Int))=True:=eq_true (by omega)
  have F2:((i:Int)<8)=True:=eq_true (by omega)
  have hx:(l.map dX)[i]?=some (dX l[i]):=by rw [List.getElem?_map,List.getElem?_eq_getElem hil];rfl
  have P4:∀ a b c d:PV,part [a,b,c,d] 0 (some 4)=some (.agg [a,b,c,d]):=fun _ _ _ _=>rfl
  have e1:=ag4 (im:=l[i].img)
  have hs:((l.take 8).drop i).all rQ=(rQ l[i]&&((l.take 8).drop (i+1)).all rQ):=by
   rw [Vh hi]
   congr 2
   rw [List.getElem_take]
  rw [hs]
  rw [dQ] at hx
  have hD:rQ l[i]=(decide (l[i].lin.length≤20)&&(PY l[i].img&&decide (l[i].dirty.length≤9))):=rfl
  unfold ZQ
  by_cases c1:l[i].lin.length≤20
  ·have G1:((l[i].lin.length:Int) > 20)=False:=eq_false (by omega)
   rw [decide_eq_true c1,Bool.true_and] at hD
   cases c2:PY l[i].img with
   |true =>
    rw [c2] at e1 hD
    rw [Bool.true_and] at hD
    by_cases c3:l[i].dirty.length≤9
    ·have G3:((l[i].dirty.length:Int) > 9)=False:=eq_false (by omega)
     rw [decide_eq_true c3] at hD
     rw [hD,Bool.true_and]
     simp only [rH,F1,F2,hx,P4,e1,G1,G3,ah hil,List.length_map,aA,Nat.reduceMul,Nat.reduceBEq,Nat.reduceLT,Nat.reduceLeDiff,reduceCtorEq,Nat.reduceEqDiff,Nat.reduceAdd,Nat.beq]
     rw [ih _ (by simp only [hi1,aA,Nat.reduceMul,Nat.reduceBEq,Nat.reduceLT,Nat.reduceLeDiff,reduceCtorEq,Nat.reduceEqDiff,Nat.reduceAdd,Nat.beq]<;>rfl)]
     rfl
    ·have G3:((l[i].dirty.length:Int) > 9)=True:=eq_true (by omega)
     rw [decide_eq_false c3] at hD
     rw [hD,Bool.false_and,if_neg (by decide)]
     simp only [rH,F1,F2,hx,P4,e1,G1,G3,ah hil,List.length_map,aA,Nat.reduceMul,Nat.reduceBEq,Nat.reduceLT,Nat.reduceLeDiff,reduceCtorEq,Nat.reduceEqDiff,Nat.reduceAdd,Nat.beq]
   |false =>
    rw [c2] at e1 hD
    rw [Bool.false_and] at hD
    rw [hD,Bool.false_and,if_neg (by decide)]
    simp only [rH,F1,F2,hx,P4,e1,G1,ah hil,List.length_map,aA,Nat.reduceMul,Nat.reduceBEq,Nat.reduceLT,Nat.reduceLeDiff,reduceCtorEq,Nat.reduceEqDiff,Nat.reduceAdd,Nat.beq]
  ·have G1:((l[i].lin.length:Int) > 20)=True:=eq_true (by omega)
   rw [decide_eq_false c1,Bool.false_and] at hD
   rw [hD,Bool.false_and,if_neg (by decide)]
   simp only [rH,F1,F2,hx,P4,G1,ah hil,List.length_map,aA,Nat.reduceMul,Nat.reduceBEq,Nat.reduceLT,Nat.reduceLeDiff,reduceCtorEq,Nat.reduceEqDiff,Nat.reduceAdd,Nat.beq]
 ·intro rb
  have hm:(l.take 8).length=min 8 l.length:=List.length_take
  rw [List.drop_length]
  unfold ZQ
  rw [List.all_nil,if_pos rfl]
  by_cases c:l.length≤8
  ·have F1:(((l.take 8).length:Int)<(l.length:Int))=False:=eq_false (by omega)
   simp only [rH,F1,List.length_map,aA,Nat.reduceMul,Nat.reduceBEq,Nat.reduceLT,Nat.reduceLeDiff,reduceCtorEq,Nat.reduceEqDiff,Nat.reduceAdd,Nat.beq]
  ·have F1:(((l.take 8).length:Int)<(l.length:Int))=True:=eq_true (by omega)
   have F2:(((l.take 8).length:Int)<8)=False:=eq_false (by omega)
   simp only [rH,F1,F2,List.length_map,aA,Nat.reduceMul,Nat.reduceBEq,Nat.reduceLT,Nat.reduceLeDiff,reduceCtorEq,Nat.reduceEqDiff,Nat.reduceAdd,Nat.beq]
theorem ahW {l:List Pt}:cal env 11 [.list 4 (l.map dX)]=some [(.bool (y5 l),false)]:=by
 unfold y5
 rw [au agp rfl];simp only [XQ,aO,Nat.reduceBEq,Nat.reduceLeDiff,Nat.reduceAdd,List.length_cons,List.length_nil]
 simp only [List.length_map,aA,Nat.reduceMul,Nat.reduceBEq,Nat.reduceLT,Nat.reduceLeDiff,reduceCtorEq,Nat.reduceEqDiff,Nat.reduceAdd,Nat.beq]
 rw [afe (l:=l)]
 rotate_left
 ·simp only [aO,bJ,Nat.reduceMul,Nat.reduceBEq,Nat.reduceLT,Nat.reduceLeDiff,Nat.reduceAdd,decide_true,Bool.and_self,Bool.true_and]<;>rfl
 ·rw [List.drop_zero]
  unfold ZQ
  cases (l.take 8).all rQ with
  |true =>
   rw [if_pos rfl,Bool.true_and]
   by_cases c:l.length≤6
   ·have G:((l.length:Int)≤6)=True:=eq_true (by omega)
    rw [decide_eq_true c]
    simp only [G,List.length_map,aA,Nat.reduceMul,Nat.reduceBEq,Nat.reduceLT,Nat.reduceLeDiff,reduceCtorEq,Nat.reduceEqDiff,Nat.reduceAdd,Nat.beq]
   ·have G:((l.length:Int)≤6)=False:=eq_false (by omega)
    rw [decide_eq_false c]
    simp only [G,List.length_map,aA,Nat.reduceMul,Nat.reduceBEq,Nat.reduceLT,Nat.reduceLeDiff,reduceCtorEq,Nat.reduceEqDiff,Nat.reduceAdd,Nat.beq]
  |false =>
   rw [if_neg (by decide),Bool.false_and]
   simp only [List.length_map,aA,Nat.reduceMul,Nat.reduceBEq,Nat.reduceLT,Nat.reduceLeDiff,reduceCtorEq,Nat.reduceEqDiff,Nat.reduceAdd,Nat.beq]
end Go.Proofs.YtaaokejjmdbfaaaDoor.V
