/-
  Part 11 of the texts that the statement stands on.
-/
import Derived.Test.YthccglceomoboaaGreatDoorY10
import Derived.Test.YthccglceomoboaaGreatDoorRows
import Derived.WalkSmall
import Derived.WalkSpells
import Derived.Lib.SliceRun
import Derived.Tactics
import Derived.Tactics2
import Derived.Defers
import Derived.Recover
import Derived.TacticsInMore
import Derived.RegionIn
import Derived.RecoverIn
import Derived.Laws.Pointers
set_option linter.all false
open Option renaming some → ZD
open List renaming getElem?_eq_getElem → ZZ, getElem?_eq_some_iff → Z3, length_map → za, getElem?_map → zc, length_cons → zd, length_nil → zm, eq_nil_of_length_eq_zero → Zad, getD_eq_getElem?_getD → Zaf, map_append → Zam
open Nat renaming beq → zb, le_refl → ze, le_trans → zR, add_mul → Zav, zero_le → ZaH
open Array renaming getElem?_eq_some_iff → zr
open Bool renaming and_self → zz, true_and → zE
open Int renaming tmod_eq_emod_of_nonneg → Zba
namespace Go.Proofs.YthccglceomoboaaGreatDoor.V
def jO (iW:List Nat):Nat→Nat
 |0=>0
 |i+1=>if (i<iW.length∧iW.getD i 0 % 3=1∧0<jO iW i)∨(i<iW.length∧iW.getD i 0 % 3=2) then jO iW i else jO iW i+1
theorem Qz (iW:List Nat):∀ k,k≤jO iW (iW.length+k)
 |0=>ZaH _
 |k+1=>by
  have ih:=Qz iW k
  have e:jO iW (iW.length+k+1)=jO iW (iW.length+k)+1:=by
   show (if _ then _ else _)=_
   rw [if_neg (by omega)]
  rw [show iW.length+(k+1)=iW.length+k+1 by omega,e];omega
theorem QA (iW:List Nat){J:Nat}(h1:1≤J):∀ m,(∀ i,i≤m→jO iW i<J)∨∃ n,n≤m∧jO iW n=J∧∀ i,i<n→jO iW i<J
 |0=>.inl fun i hi=>by rw [show i=0 by omega];exact h1
 |m+1=>by
  rcases QA iW h1 m with h|⟨n,a,b,c⟩
  ·have hm:=h m (ze _)
   have hs:jO iW (m+1)=jO iW m∨jO iW (m+1)=jO iW m+1:=by
    show (if _ then _ else _)=_∨(if _ then _ else _)=_
    split
    ·exact .inl rfl
    ·exact .inr rfl
   by_cases q:jO iW (m+1)=J
   ·exact .inr ⟨m+1,ze _,q,fun i hi=>h i (by omega)⟩
   ·left
    intro i hi
    rcases Nat.lt_or_ge i (m+1) with c|c
    ·exact h i (by omega)
    ·rw [show i=m+1 by omega];omega
  ·exact .inr ⟨n,by omega,b,c⟩
theorem afD (iW:List Nat){J:Nat}(h1:1≤J)(h2:J≤14):∃ n,n≤iW.length+14∧jO iW n=J∧∀ i,i<n→jO iW i<J:=by
 rcases QA iW h1 (iW.length+14) with h|h
 ·have:=h _ (ze _)
  have:=Qz iW 14
  omega
 ·exact h
def vX (sz lf:Int)(la lb:List Int)(j:Nat):List Msg:=(List.range j).map fun t=>tJ (sQ sz lf la lb t).1 (gK lb (jo la.length - t))
theorem Uu (sz lf:Int)(la lb:List Int)(j:Nat):vX sz lf la lb (j+1)=vX sz lf la lb j++[tJ (sQ sz lf la lb j).1 (gK lb (jo la.length - j))]:=by unfold vX;rw [List.range_succ,Zam];rfl
theorem ZY (sz lf:Int)(la lb:List Int)(j:Nat):(vX sz lf la lb j).length=j:=by simp [vX]
theorem acQ {sz lf:Int}{la lb:List Int}{j t:Nat}(h:t<j):(vX sz lf la lb j)[t]?=some (tJ (sQ sz lf la lb t).1 (gK lb (jo la.length - t))):=by
 unfold vX;rw [zc,List.getElem?_range h];rfl
def eY8 (c:Nat):PV:=.int .u8 (c:Int)
set_option maxRecDepth 20000 in
theorem aha {sz lf:Int}{la lb:List Int}{iW:List Nat}{J n:Nat}{F:PV}{S:Int}(ha:L8 sz lf la)(hb:L8 sz lf lb)(hab:lb.length=la.length)(hJ:J≤14)(hJd:J≤jo la.length+1)(hfin:(sQ sz lf la lb J).1.fin=true)(hI:∀ i,i<J→okW sz lf la (sQ sz lf la lb i).1 (jo la.length - i) (sQ sz lf la lb i).2)(hs8:∀ c∈iW,c<256)(hsl:iW.length≤60)(hn:n≤iW.length+14)(hnJ:jO iW n=J)(hnl:∀ i,i<n→jO iW i<J){st:St}(h:st.head [2,11,13,14,16,19,20,68,191] st.boxes.length=some ⟨sl 209 [(2,.pv (.list 1 (iW.map eY8))),(11,.aJ 1 0),(13,.pv F),(14,.pv (.int .i64 S)),(16,.aJ 2 0),(19,.row 8 ((vX sz lf la lb (jO iW ((0:Nat)))).map nX)),(20,.pv (.int .i64 (0:Nat))),(68,.pv F),(191,.any)],[⟨false,aB sz lf la⟩,⟨false,aB sz lf lb⟩,⟨false,wB (sQ sz lf la lb (jO iW ((0:Nat)))).1⟩],[],none⟩) :
  den env OH st=some (.normal,⟨sl 209 [(6,.any),(13,.pv F),(14,.pv (.int .i64 S)),(16,.aJ 2 0)],[⟨false,aB sz lf la⟩,⟨false,aB sz lf lb⟩,⟨false,wB (sQ sz lf la lb J).1⟩],[],none⟩):=by
 unfold OH
 refine aY (env:=env) (nb:=3) (n) (fun i=>⟨sl 209 [(2,.pv (.list 1 (iW.map eY8))),(11,.aJ 1 0),(13,.pv F),(14,.pv (.int .i64 S)),(16,.aJ 2 0),(19,.row 8 ((vX sz lf la lb (jO iW (i))).map nX)),(20,.pv (.int .i64 i)),(68,.pv F),(191,.any)],[⟨false,aB sz lf la⟩,⟨false,aB sz lf lb⟩,⟨false,wB (sQ sz lf la lb (jO iW (i))).1⟩],[],none⟩) (fun i=>some (.normal,⟨sl 209 [(6,.any),(13,.pv F),(14,.pv (.int .i64 S)),(16,.aJ 2 0)],[⟨false,aB sz lf la⟩,⟨false,aB sz lf lb⟩,⟨false,wB (sQ sz lf la lb J).1⟩],[],none⟩)) h (fun _=>rfl) (fun _=>by simp only [aN,bJ,Nat.reduceMul,Nat.reduceBEq,Nat.reduceLT,Nat.reduceLeDiff,Nat.reduceAdd,decide_true,zz,zE]) ?_ ?_
 ·intro i rb hi ih
  have hi1:=bU hi (by unfold lim;omega)
  have hj:=hnl i hi
  have hw:=hI _ hj
  obtain ⟨j,hjj⟩:∃ j,j=jO iW i:=⟨_,rfl⟩
  have ejn:jO iW (i+1)=if (i<iW.length∧iW.getD i 0 % 3=1∧0<jO iW i)∨(i<iW.length∧iW.getD i 0 % 3=2) then jO iW i else jO iW i+1:=rfl
  rw [ejn] at ih
  rw [← hjj] at ih hj hw ⊢
  have W20:IntKind.i64.wrap ((iW.length:Int)+20)=((iW.length+20:Nat):Int):=by rw [aQ (by omega)];omega
  have F1:((i:Int)<((iW.length+20:Nat):Int))=True:=eq_true (by omega)
  have hfj:=hw.fin
  have k0:=ag7 (w:=(sQ sz lf la lb j).1) hw.pl.1
  have k1:=adf hw hb hab
  have k2:=adn (g:=gK lb (jo la.length - j)) hw (adi hb.u _)
  have eg:(fun n:Int=>(rP lb (jo la.length - j)).getD n.toNat 0)=gK lb (jo la.length - j):=rfl
  rw [eg] at k1
  have es:(sQ sz lf la lb (j+1)).1=tK sz lf la (sQ sz lf la lb j).1 (jo la.length - j) (sQ sz lf la lb j).2 (gK lb (jo la.length - j)):=rfl
  rw [← es] at k2
  have Z:((0:Int) != 0)=false:=rfl
  have z3:((3:Int)=0)=False:=eq_false (by decide)
  have hol:=ZY sz lf la lb j
  have E01:((0:Int)==0)=true:=rfl
  have hjl:jO iW i=j:=hjj.symm
  have rq:nX (nR (sQ sz lf la lb j).1)=.agg [.int .i64 13,.int .i64 0,.int .i64 0,.int .i64 (sQ sz lf la lb j).1.jY,.int .i64 0,.int .i64 0,.list 1 ((vals (sQ sz lf la lb j).1).map eI),.list 1 []]:=rfl
  have an:nX (tJ (sQ sz lf la lb j).1 (gK lb (jo la.length - j)))=.agg [.int .i64 14,.int .i64 0,.int .i64 0,.int .i64 (sQ sz lf la lb j).1.jY,.int .i64 0,.int .i64 0,.list 1 ((vals (sQ sz lf la lb j).1).map eI),.list 1 ((uO (gK lb (jo la.length - j)) (dV (sQ sz lf la lb j).1.pend)).map oN)]:=rfl
  have hold:(vX sz lf la lb (j+1)).map nX=(vX sz lf la lb j).map nX++[nX (tJ (sQ sz lf la lb j).1 (gK lb (jo la.length - j)))]:=by rw [Uu,Zam];rfl
  have F4:(j+1≤lim)=True:=eq_true (by unfold lim;omega)
  have hA:∀ idx,idx<j→((vX sz lf la lb j).map nX)[idx]?=some (nX (tJ (sQ sz lf la lb idx).1 (gK lb (jo la.length - idx)))):=fun idx h=>by rw [zc,acQ h];rfl
  have hB:∀ idx,idx<j→cal env 30 [L9 (sQ sz lf la lb j).1,nX (tJ (sQ sz lf la lb idx).1 (gK lb (jo la.length - idx)))]=some [(zWk,false),(.list 8 [],true),(.int .i64 22,false)]:=fun idx h=>by
   refine afz hw rfl ?_
   have h1:=(hI idx (by omega)).jY
   have h2:=hw.jY
   show (sQ sz lf la lb idx).1.jY≠_
   rw [h1,h2]
   have hJj:j≤jo la.length:=by omega
   omega
  rw [an] at hold k1 k2
  rw [rq] at k0 k1
  rw [lX] at k1
  rw [jM,hfj] at k0 k2
  rw [jM] at k2
  have eW:∀ idx,idx<j→cal env 30 [.agg [.int .i64 (sQ sz lf la lb j).1.t.sz,.int .i64 (sQ sz lf la lb j).1.t.lf,.list 1 ((sQ sz lf la lb j).1.t.lv.map mO),.list 2 ((sQ sz lf la lb j).1.pend.map aV),.int .i64 (sQ sz lf la lb j).1.jY,.list 2 ((sQ sz lf la lb j).1.found.map aV),.int .i64 (sQ sz lf la lb j).1.sent,.bool false],nX (tJ (sQ sz lf la lb idx).1 (gK lb (jo la.length - idx)))]=some [(zWk,false),(.list 8 [],true),(.int .i64 22,false)]:=fun idx h=>by
   have:=hB idx h
   rw [jM,hfj] at this
   exact this
  generalize Qy (sQ sz lf la lb (j+1)).1=M8 at k2
  have K1:List.take j ((vX sz lf la lb j).map nX)=(vX sz lf la lb j).map nX:=List.take_of_length_le (by rw [za,hol];exact ze _)
  rw [ZU] at eW
  by_cases c1:i<iW.length
  ·have G1:((i:Int)<(iW.length:Int))=True:=eq_true (by omega)
   have hx:(iW.map eY8)[i]?=some (.int .u8 (iW.getD i 0:Int)):=by rw [zc,Zaf,ZZ c1];rfl
   have hs:=hs8 (iW.getD i 0) (by rw [Zaf,ZZ c1];exact List.getElem_mem c1)
   generalize iW.getD i 0=s at *
   have hc:s % 3=0∨s % 3=1∨s % 3=2:=by omega
   rcases hc with c2|c2|c2
   ·have T3:(s:Int).tmod 3=0:=by rw [Zba (by omega)];omega
    have Q1:((0:Int)==1)=false:=rfl
    have Q2:((0:Int)==2)=false:=rfl
    rw [if_neg (by omega)] at ih
    rw [hold] at ih
    simp only [vN,F1,F4,W20,G1,T3,Q1,Q2,z3,Z,E01,hfj,k0,k1,k2,hx,hol,K1,P3,P8,fO,cZ,ay c1,za,aC,Nat.reduceMul,Nat.reduceBEq,Nat.reduceLT,Nat.reduceLeDiff,reduceCtorEq,Nat.reduceEqDiff,Nat.reduceAdd,zb]
    rw [ih _ (by simp only [hi1,fO,cZ,aC,Nat.reduceMul,Nat.reduceBEq,Nat.reduceLT,Nat.reduceLeDiff,reduceCtorEq,Nat.reduceEqDiff,Nat.reduceAdd,zb]<;>rfl)]
    simp only [fO,cZ]
   ·have T3:(s:Int).tmod 3=1:=by rw [Zba (by omega)];omega
    have Q1:((1:Int)==1)=true:=rfl
    have Q2:((1:Int)==2)=false:=rfl
    rcases Nat.eq_zero_or_pos j with j0|j0
    ·have G2:((j:Int) > 0)=False:=eq_false (by omega)
     rw [if_neg (by omega)] at ih
     rw [hold] at ih
     simp only [vN,F1,F4,W20,G1,G2,T3,Q1,Q2,hx,ay c1,z3,Z,E01,hfj,k0,k1,k2,hol,K1,P3,P8,fO,cZ,za,aC,Nat.reduceMul,Nat.reduceBEq,Nat.reduceLT,Nat.reduceLeDiff,reduceCtorEq,Nat.reduceEqDiff,Nat.reduceAdd,zb]
     rw [ih _ (by simp only [hi1,fO,cZ,aC,Nat.reduceMul,Nat.reduceBEq,Nat.reduceLT,Nat.reduceLeDiff,reduceCtorEq,Nat.reduceEqDiff,Nat.reduceAdd,zb]<;>rfl)]
     simp only [fO,cZ]
    ·have G2:((j:Int) > 0)=True:=eq_true (by omega)
     have Zj:((j:Int)=0)=False:=eq_false (by omega)
     have D3:IntKind.u8.wrap ((s:Int).tdiv 3)=((s / 3:Nat):Int):=by rw [Int.tdiv_eq_ediv_of_nonneg (by omega),KY];omega
     have C3:IntKind.i64.wrap ((s / 3:Nat):Int)=((s / 3:Nat):Int):=aQ (by omega)
     have R3:((s / 3:Nat):Int).tmod (j:Int)=((s / 3 % j:Nat):Int):=by rw [Zba (by omega)];rfl
     have hid:s / 3 % j<j:=Nat.mod_lt _ j0
     have hI3:index (.int .i64 ((s / 3 % j:Nat):Int)) j=some (s / 3 % j):=ay hid
     have eA:=hA _ hid
     have eL:=eW _ hid
     rw [yL] at eA eL
     have B1:((22:Int)==0)=false:=rfl
     have B2:((0:Int) != 0)=false:=rfl
     have B3:(((0:Nat):Int) != 0)=false:=rfl
     rw [if_pos (.inl (by omega))] at ih
     simp only [vN,F1,W20,G1,G2,T3,Q1,Q2,Zj,D3,C3,R3,hI3,eA,eL,B1,B2,B3,z3,Z,E01,hfj,k0,hx,hol,P3,P8,fO,cZ,ay c1,za,zm,aC,Nat.reduceMul,Nat.reduceBEq,Nat.reduceLT,Nat.reduceLeDiff,reduceCtorEq,Nat.reduceEqDiff,Nat.reduceAdd,zb]
     rw [ih _ (by simp only [hi1,hfj,fO,cZ,aC,Nat.reduceMul,Nat.reduceBEq,Nat.reduceLT,Nat.reduceLeDiff,reduceCtorEq,Nat.reduceEqDiff,Nat.reduceAdd,zb]<;>rfl)]
     simp only [fO,cZ]
   ·have T3:(s:Int).tmod 3=2:=by rw [Zba (by omega)];omega
    have Q1:((2:Int)==1)=false:=rfl
    have Q2:((2:Int)==2)=true:=rfl
    rw [if_pos (.inr (by omega))] at ih
    simp only [vN,F1,W20,G1,T3,Q1,Q2,z3,Z,E01,hfj,k0,k1,hx,hol,P3,P8,fO,cZ,ay c1,za,aC,Nat.reduceMul,Nat.reduceBEq,Nat.reduceLT,Nat.reduceLeDiff,reduceCtorEq,Nat.reduceEqDiff,Nat.reduceAdd,zb]
    rw [ih _ (by simp only [hi1,hfj,fO,cZ,aC,Nat.reduceMul,Nat.reduceBEq,Nat.reduceLT,Nat.reduceLeDiff,reduceCtorEq,Nat.reduceEqDiff,Nat.reduceAdd,zb]<;>rfl)]
    simp only [fO,cZ]
  ·have G1:((i:Int)<(iW.length:Int))=False:=eq_false (by omega)
   rw [if_neg (by omega)] at ih
   rw [hold] at ih
   simp only [vN,F1,F4,W20,G1,z3,Z,E01,hfj,k0,k1,k2,hol,K1,P3,P8,fO,cZ,za,aC,Nat.reduceMul,Nat.reduceBEq,Nat.reduceLT,Nat.reduceLeDiff,reduceCtorEq,Nat.reduceEqDiff,Nat.reduceAdd,zb]
   rw [ih _ (by simp only [hi1,fO,cZ,aC,Nat.reduceMul,Nat.reduceBEq,Nat.reduceLT,Nat.reduceLeDiff,reduceCtorEq,Nat.reduceEqDiff,Nat.reduceAdd,zb]<;>rfl)]
   simp only [fO,cZ]
 ·intro rb
  have W20:IntKind.i64.wrap ((iW.length:Int)+20)=((iW.length+20:Nat):Int):=by rw [aQ (by omega)];omega
  have F1:((n:Int)<((iW.length+20:Nat):Int))=True:=eq_true (by omega)
  rw [hnJ]
  simp only [vN,F1,W20,hfin,fO,cZ,za,aC,Nat.reduceMul,Nat.reduceBEq,Nat.reduceLT,Nat.reduceLeDiff,reduceCtorEq,Nat.reduceEqDiff,Nat.reduceAdd,zb]
theorem acR (x:List dJ):(OZ x).length≤4096:=by rw [afp];exact xM _ _
theorem Z4 {sz lf:Int}{la:List Int}{w:lG}{k:Nat}{p:Nat→Bool}{g:Int→Int}(h:okW sz lf la w k p):(tK sz lf la w k p g).found.length≤4096:=by
 have hw:w.found.length≤4096:=by rw [h.found];exact ZaH _
 unfold tK
 split
 ·dsimp only
  exact acR (jZ sz lf (jE (qW la k p g) (cd la.length k)))
 ·split
  ·exact hw
  ·exact hw
set_option maxRecDepth 20000 in
theorem ajB {l:List jF}{ch:List QK}{iW:List Nat}(hd:szT ch)(hs8:∀ c∈iW,c<256):cal env 4 [.list 8 (l.map dS),.list 3 (ch.map QL),.list 1 (iW.map eY8)]=some [(.bool true,false)]:=by
 have a1:=ZX
 by_cases c1:l.length<1
 ·have F1:((l.length:Int)<1)=True:=eq_true (by omega)
  rw [aG YW rfl];simp only [fn4,aN,Nat.reduceBEq,Nat.reduceLeDiff,Nat.reduceAdd,zd,zm]
  simp only [F1,a1,za,aC,Nat.reduceMul,Nat.reduceBEq,Nat.reduceLT,Nat.reduceLeDiff,reduceCtorEq,Nat.reduceEqDiff,Nat.reduceAdd,zb]
 have F1:((l.length:Int)<1)=False:=eq_false (by omega)
 by_cases c2:60<l.length
 ·have F2:((l.length:Int) > 60)=True:=eq_true (by omega)
  rw [aG YW rfl];simp only [fn4,aN,Nat.reduceBEq,Nat.reduceLeDiff,Nat.reduceAdd,zd,zm]
  simp only [F1,F2,a1,za,aC,Nat.reduceMul,Nat.reduceBEq,Nat.reduceLT,Nat.reduceLeDiff,reduceCtorEq,Nat.reduceEqDiff,Nat.reduceAdd,zb]
 have F2:((l.length:Int) > 60)=False:=eq_false (by omega)
 by_cases c3:6<ch.length
 ·have F3:((ch.length:Int) > 6)=True:=eq_true (by omega)
  rw [aG YW rfl];simp only [fn4,aN,Nat.reduceBEq,Nat.reduceLeDiff,Nat.reduceAdd,zd,zm]
  simp only [F1,F2,F3,a1,za,aC,Nat.reduceMul,Nat.reduceBEq,Nat.reduceLT,Nat.reduceLeDiff,reduceCtorEq,Nat.reduceEqDiff,Nat.reduceAdd,zb]
 have F3:((ch.length:Int) > 6)=False:=eq_false (by omega)
 by_cases c4:60<iW.length
 ·have F4:((iW.length:Int) > 60)=True:=eq_true (by omega)
  rw [aG YW rfl];simp only [fn4,aN,Nat.reduceBEq,Nat.reduceLeDiff,Nat.reduceAdd,zd,zm]
  simp only [F1,F2,F3,F4,a1,za,aC,Nat.reduceMul,Nat.reduceBEq,Nat.reduceLT,Nat.reduceLeDiff,reduceCtorEq,Nat.reduceEqDiff,Nat.reduceAdd,zb]
 have F4:((iW.length:Int) > 60)=False:=eq_false (by omega)
 have e1:=ag9 (l:=l) (ch:=ch) (by omega) (by unfold lim;omega) (by omega) hd
 have hbl:=Du ch l
 generalize yQ l ch=b at *
 have hTa:=OY (l:=l) (n:=2) (by omega) (by omega)
 have hTb:=OY (l:=b) (n:=2) (by omega) (by omega)
 have e2:=ada (l:=l) (n:=2) (by omega) (by omega)
 have e3:=ada (l:=b) (n:=2) (by omega) (by omega)
 rw [hbl] at hTb e3
 have hab:(D8 2 b).length=(D8 2 l).length:=by rw [nS,nS,hbl]
 have hla:(D8 2 l).length≤200:=by rw [nS];unfold Dk;omega
 generalize D8 2 l=la at *
 generalize D8 2 b=lb at *
 have h2:(((2:Nat):Int))=2:=rfl
 rw [h2] at hTa hTb e2 e3
 generalize hsz:(l.length:Int)=sz at *
 obtain ⟨J,J1,J2,⟨J3,-⟩,J4,J5⟩:=afA lb hTa hla
 have hI:∀ i,i<J→okW sz 2 la (sQ sz 2 la lb i).1 (jo la.length - i) (sQ sz 2 la lb i).2:=fun i hi=>(J4 i hi).1
 have e4:=ag8 hTa hTb hab J2 J3 hI
 have e5:=adh hTa
 obtain ⟨n,n1,n2,n3⟩:=afD iW J1 J2
 have hloop:=fun st F S=>aha (st:=st) (F:=F) (S:=S) hTa hTb hab J2 J5 J3 hI hs8 (by omega) n1 n2 n3
 have hs0:(sQ sz 2 la lb (jO iW 0)).1=Ig sz 2 la:=rfl
 have ho0:(vX sz 2 la lb (jO iW 0)).map nX=[]:=rfl
 rw [hs0,ho0] at hloop
 have e6:=ag6 (a:=(sQ sz 2 la lb J).1.found) (b:=(sQ sz 2 la lb J).1.found) (by
  obtain ⟨m,rfl⟩:∃ m,J=m+1:=⟨J - 1,by omega⟩
  have:=Z4 (g:=gK lb (jo la.length - m)) (hI m (by omega))
  exact zR this (by decide))
 rw [decide_eq_true rfl] at e6
 have sc1:(nX (nR (Ig sz 2 la))).scalar=false:=rfl
 have Q1:((sQ sz 2 la lb J).1.sent==(sQ sz 2 la lb J).1.sent)=true:=by simp
 rw [lX] at e2 e3 e4 e5
 rw [lX] at e4
 rw [jM] at e5
 rw [cZ,cZ] at hloop
 generalize (sQ sz 2 la lb J).1=w' at *
 generalize nX (nR (Ig sz 2 la))=M0 at *
 have Z:((0:Int) != 0)=false:=rfl
 have B1:(((1:Nat):Int) != 1)=false:=rfl
 have scT:∀ (m n:Int) (z:Nat) (l:List PV),(PV.agg [.int .i64 m,.int .i64 n,.list z l]).scalar=false:=fun _ _ _ _=>rfl
 have scW:∀ (a b c d:Int) (z1 z2 z3:Nat) (l1 l2 l3:List PV) (q:Bool),(PV.agg [.int .i64 a,.int .i64 b,.list z1 l1,.list z2 l2,.int .i64 c,.list z3 l3,.int .i64 d,.bool q]).scalar=false:=fun _ _ _ _ _ _ _ _ _ _ _=>rfl
 rw [aG YW rfl];simp only [fn4,aN,Nat.reduceBEq,Nat.reduceLeDiff,Nat.reduceAdd,zd,zm]
 simp only [scT,scW,sc1,hsz,F1,F2,F3,F4,a1,e1,e2,e3,e4,e5,P3,P8,Z,B1,za,aC,Nat.reduceMul,Nat.reduceBEq,Nat.reduceLT,Nat.reduceLeDiff,reduceCtorEq,Nat.reduceEqDiff,Nat.reduceAdd,zb]
 rw [hloop _ (.list 2 (w'.found.map aV)) w'.sent (by rw [fO,fO];simp only [aN,bJ,Nat.reduceMul,Nat.reduceBEq,Nat.reduceLT,Nat.reduceLeDiff,Nat.reduceAdd,decide_true,zz,zE]<;>rfl)]
 simp only [a1,e6,Q1,J3,cZ,fO,Z,za,aC,Nat.reduceMul,Nat.reduceBEq,Nat.reduceLT,Nat.reduceLeDiff,reduceCtorEq,Nat.reduceEqDiff,Nat.reduceAdd,zb]
end Go.Proofs.YthccglceomoboaaGreatDoor.V
namespace Go.Proofs.YthccglceomoboaaGreatDoor
open Go.RowKit
structure yR (W:World)(g:Nat) where
 w:World
 grown:W.grownBy w (some g)
instance (W:World) (g:Nat):Nonempty (yR W g):=⟨⟨W,World.grownBy.refl _ _⟩⟩
theorem yR.of {W w:World}{g:Nat}(h:W.grownBy w (some g)):∃ x:yR W g,w=x.w:=⟨⟨w,h⟩,rfl⟩
theorem grown_drew (W:World)(row:Option Nat):W.grownBy W.drew row:=⟨rfl,rfl,rfl,ze _,fun _ _ _=>rfl⟩
theorem yR.drew (W:World)(g:Nat):∃ x:yR W g,W.drew=x.w:=yR.of (grown_drew _ _)
theorem below_grown {w w':World}(h:Below w.heap.size w w'):w.grownBy w' none:=⟨h.os,h.tape,h.output,h.size,fun k hk _=>h.block k hk⟩
def dR {α:Type}(r:Rep α)(tag:Nat→Nat)(ok:Nat→Prop)(w:World):Nat→List Value→List α→Prop
 |_,xs,[]=>xs=[]
 |i,xs,x::l=>∃ c rest,xs=c++rest∧r.rd (fun b=>ok b∧tag b=i) w c x∧dR r tag ok w (i+1) rest l
section
variable {α:Type}{r:Rep α}{tag tag':Nat→Nat}{ok ok':Nat→Prop}{w w':World}
theorem dR.mono (hk:∀ b,ok b→ok' b):∀ {l:List α} {i:Nat} {xs:List Value},dR r tag ok w i xs l→dR r tag ok' w i xs l
 |[],_,_,h=>h
 |_::_,_,_,⟨c,rest,e,h1,h2⟩=>⟨c,rest,e,r.mono (fun b hb=>⟨hk b hb.1,hb.2⟩) h1,h2.mono hk⟩
theorem dR.retag (hk:∀ b,ok b→tag' b=tag b):∀ {l:List α} {i:Nat} {xs:List Value},dR r tag ok w i xs l→dR r tag' ok w i xs l
 |[],_,_,h=>h
 |_::_,_,_,⟨c,rest,e,h1,h2⟩=>⟨c,rest,e,r.mono (fun b hb=>⟨hb.1,by rw [hk b hb.1];exact hb.2⟩) h1,h2.retag hk⟩
theorem dR.live:∀ {l:List α} {i:Nat} {xs:List Value},dR r tag ok w i xs l→dR r tag (fun b=>ok b∧b<w.heap.size) w i xs l
 |[],_,_,h=>h
 |_::_,_,_,⟨c,rest,e,h1,h2⟩=>⟨c,rest,e,r.mono (fun b hb=>⟨⟨hb.1.1,hb.2⟩,hb.1.2⟩) (r.live h1),h2.live⟩
theorem dR.frame (hf:∀ b,ok b→w'.heap[b]?=w.heap[b]?):∀ {l:List α} {i:Nat} {xs:List Value},dR r tag ok w i xs l→dR r tag ok w' i xs l
 |[],_,_,h=>h
 |_::_,_,_,⟨c,rest,e,h1,h2⟩=>⟨c,rest,e,r.frame (fun b hb=>hf b hb.1) h1,h2.frame hf⟩
theorem dR.chunks:∀ {l:List α} {i:Nat} {xs:List Value},dR r tag ok w i xs l→Chunks r ok w xs l
 |[],_,_,h=>h
 |_::_,_,_,⟨c,rest,e,h1,h2⟩=>⟨c,rest,e,r.mono (fun b hb=>hb.1) h1,h2.chunks⟩
theorem dR.pick:∀ {l:List α} {i:Nat} {xs:List Value},dR r tag ok w i xs l→∀ {k:Nat} {x:α},l[k]?=some x →
  ∃ c,(∀ j,j<r.sz→xs[k*r.sz+j]?=c[j]?)∧r.rd (fun b=>ok b∧tag b=i+k) w c x ∧
   ∀ (w':World) (x':α),(∀ b,ok b→tag b≠i+k→w'.heap[b]?=w.heap[b]?)→r.rd (fun b=>ok b∧tag b=i+k) w' c x'→dR r tag ok w' i xs (l.set k x')
 |[],_,_,_,k,x,hx=>by simp at hx
 |y::l,i,xs,⟨c,rest,e,h1,h2⟩,0,x,hx=>by
  simp only [List.getElem?_cons_zero,ZD.injEq] at hx
  subst hx
  refine ⟨c,fun j hj=>by rw [e,Nat.zero_mul,Nat.zero_add,List.getElem?_append_left (by rw [r.len h1];exact hj)],h1,fun w' x' hf hr=>?_⟩
  refine ⟨c,rest,e,hr,?_⟩
  -- the tail's elements bear other tags
  have:∀ {l:List α} {m:Nat} {xs:List Value},i<m→dR r tag ok w m xs l→dR r tag ok w' m xs l:=by
   intro l
   induction l with
   |nil=>intro m xs _ h;exact h
   |cons z l ih =>
    intro m xs hm h
    obtain ⟨d,rs,e',h3,h4⟩:=h
    exact ⟨d,rs,e',r.frame (fun b hb=>hf b hb.1 (by rw [hb.2];omega)) h3,ih (by omega) h4⟩
  exact this (Nat.lt_succ_self _) h2
 |y::l,i,xs,⟨c,rest,e,h1,h2⟩,k+1,x,hx=>by
  obtain ⟨d,h3,h4,h5⟩:=h2.pick (k:=k) (x:=x) (by simpa using hx)
  have ei:i+1+k=i+(k+1):=by omega
  refine ⟨d,fun j hj=>?_,by rw [← ei];exact h4,fun w' x' hf hr=>?_⟩
  ·rw [e,List.getElem?_append_right (by rw [r.len h1,Zav];omega),r.len h1,← h3 j hj]
   congr 1
   rw [Zav];omega
  ·refine ⟨c,rest,e,r.frame (fun b hb=>hf b hb.1 (by rw [hb.2];omega)) h1,?_⟩
   exact h5 w' x' (fun b hb hne=>hf b hb (by rw [← ei];exact hne)) (by rw [ei];exact hr)
end
def tN {α:Type}(r:Rep α)(B F:Nat)(E:TypeId)(w:World)(v:Value)(l:List α):Prop :=
 ∃ tag xs,w.ownsRow B E r.sz v l.length xs∧dR r tag (fun b=>B≤b∧b<F∧ZD b≠v.ownBlock) w 0 xs l
section
variable {α:Type}{r:Rep α}{B F:Nat}{E:TypeId}{w w':World}{v:Value}{l:List α}
theorem tN.nil (r:Rep α)(B F:Nat)(E:TypeId)(w:World):tN r B F E w (.slice none 0 0) []:=⟨fun _=>0,[],World.ownsRow_nil _ _ _ _,rfl⟩
theorem tN.live (h:tN r B F E w v l):tN r B w.heap.size E w v l :=
 let ⟨tag,xs,h1,h2⟩:=h;⟨tag,xs,h1,h2.live.mono fun _ hb=>⟨hb.1.1,hb.2,hb.1.2.2⟩⟩
theorem tN.lt (h:tN r B F E w v l):∀ k,v.ownBlock=some k→B≤k∧k<w.heap.size:=let ⟨_,_,h1,_⟩:=h;h1.lt
theorem tN.below (h:tN r B F E w v l)(hb:Below w.heap.size w w'):tN r B F E w' v l:=by
 obtain ⟨tag,xs,h1,h2⟩:=h
 exact ⟨tag,xs,h1.kept (below_grown hb) (by cases v.ownBlock<;>simp),(dR.frame (fun b hb'=>hb.block b hb'.2) h2.live).mono fun b hb=>hb.1⟩
theorem tN.own (h:tN r B F E w v l):Own r B E (B≤·) w v l :=
 let ⟨_,xs,h1,h2⟩:=h;⟨xs,h1,h2.chunks.mono fun _ hb=>⟨hb.1,hb.2.2⟩⟩
theorem tN.sl (h:tN r B F E w v l):∃ a n c,v=.slice a n c∧Sl r (B≤·) w a n c l :=
 let ⟨a,n,c,e,h⟩:=h.own.sl;⟨a,n,c,e,h.mono fun _ hb=>hb.elim id id⟩
def Z5 {α:Type}(r:Rep α)(ok:Nat→Prop)(w:World)(l:List α)(err:Int):Ending→World→Prop:=fun e w' =>
 ∃ a n c,e=.returned (.tuple #[.slice a n c,.int .i64 err])∧Sl r ok w' a n c l∧Below w.heap.size w w'
theorem Z5.mk {α:Type}{r:Rep α}{ok:Nat→Prop}{w w':World}{l:List α}{err err':Int}{a:Option Addr}{n c:Nat}(he:err'=err)(h:Sl r ok w' a n c l)(hB:Below w.heap.size w w') :
  Z5 r ok w l err (.returned (.tuple #[.slice a n c,.int .i64 err'])) w':=⟨a,n,c,by rw [he],h,hB⟩
def Flat {α:Type}(r:Rep α):Prop:=∀ {ok ok':Nat→Prop} {w w':World} {cs:List Value} {x:α},r.rd ok w cs x→r.rd ok' w' cs x
theorem Flat.int:Flat Mc:=fun h=>h
theorem Flat.u8:Flat u8R:=fun h=>h
theorem Flat.u64:Flat ai9:=fun h=>h
theorem Flat.bool:Flat aga:=fun h=>h
theorem Chunks.flat {α:Type}{r:Rep α}(hf:Flat r){ok ok':Nat→Prop}{w w':World}:∀ {l:List α} {xs:List Value},Chunks r ok w xs l→Chunks r ok' w' xs l
 |[],_,h=>h
 |_::_,_,⟨c,rest,e,h1,h2⟩=>⟨c,rest,e,hf h1,h2.flat hf⟩
theorem Src.flat {α:Type}{r:Rep α}(hf:Flat r){ok ok':Nat→Prop}{w:World}{ao:Option Addr}{m c:Nat}{ys:List α}(h:Src r ok w ao m c ys):Src r ok' w ao m c ys :=
 let ⟨h1,h2,news,h3,h4⟩:=h;⟨h1,h2,news,h3,h4.flat hf⟩
theorem Own.acS {α:Type}(r:Rep α){B:Nat}{E:TypeId}{ok:Nat→Prop}{w:World}(hB:B≤w.heap.size):Own r B E ok (w.alloc (.cells #[] E)) (.slice (some ⟨w.heap.size,0,none⟩) 0 0) [] :=
 ⟨[],World.ownsRow_lit w #[] 0 hB (ZaH _) (by simp),rfl⟩
theorem tN.at (h:tN r B F E w v l){k:Nat}{x:α}(hx:l[k]?=some x) :
  ∃ g cap c,∃ okk:Nat→Prop,v=.slice (some ⟨g,0,none⟩) l.length cap∧B≤g∧g<w.heap.size∧(∀ j,j<r.sz→w.cell? ⟨g,k*r.sz+j,none⟩=c[j]?)∧r.rd okk w c x∧(∀ b,okk b→B≤b∧b<F∧b≠g) ∧
   ∀ (w':World) (x':α),(∀ b,b<w.heap.size→¬ okk b→w'.heap[b]?=w.heap[b]?)→w'.os=w.os→w'.tape=w.tape→w'.output=w.output→w.heap.size≤w'.heap.size→r.rd okk w' c x'→tN r B F E w' v (l.set k x'):=by
 obtain ⟨tag,xs,h1,h2⟩:=h
 have hk:=(Z3.1 hx).1
 obtain ⟨g,cap,rfl,hBg,hg⟩:∃ g cap,v=.slice (some ⟨g,0,none⟩) l.length cap∧B≤g∧g<w.heap.size:=by
  rcases h1.2 with ⟨_,h0⟩|⟨g,cap,cur,hv,hb,hg,_⟩
  ·omega
  ·exact ⟨g,cap,hv,hb,(zr.1 hg).1⟩
 obtain ⟨c,h3,h4,h5⟩:=h2.live.pick hx
 refine ⟨g,cap,c,_,rfl,hBg,hg,fun j hj=>?_,h4,fun b hb=>⟨hb.1.1.1,hb.1.1.2.1,fun e=>hb.1.1.2.2 (by rw [e];rfl)⟩,fun w' x' hf hos htp hout hsz hr=>?_⟩
 ·rw [← h3 j hj,h1.cellAt]
  calc k*r.sz+j<k*r.sz+r.sz:=by omega
   _=(k+1)*r.sz:=by rw [Zav];omega
   _≤l.length*r.sz:=Nat.mul_le_mul_right _ (by omega)
 ·have h6:=h5 w' x' (fun b hb hne=>hf b hb.2 fun e=>hne (by simpa using e.2)) hr
  refine ⟨tag,xs,?_,h6.mono fun b hb=>hb.1⟩
  rw [List.length_set]
  have hgk:w'.heap[g]?=w.heap[g]?:=hf g hg fun e=>e.1.1.2.2 rfl
  obtain ⟨hl,⟨hv,h0⟩|⟨g',cap',cur,hv,r1,r2,r3⟩⟩:=h1
  ·cases hv
  ·cases hv
   exact ⟨hl,.inr ⟨g,cap,cur,rfl,r1,by rw [hgk];exact r2,r3⟩⟩
end
def iH {α:Type}(r:Rep α)(E:TypeId):Rep (List α) where
 sz:=1
 rd ok w cs l:=∃ v,cs=[v]∧(∀ b,v.ownBlock=some b→ok b)∧Own r 0 E (fun _=>False) w v l∧(l=[]→v=.slice none 0 0∨∃ g c,v=.slice (some ⟨g,0,none⟩) 0 c)
 len h:=by obtain ⟨v,rfl,_⟩:=h;rfl
 mono hk h:=let ⟨v,e,h1,h2⟩:=h;⟨v,e,fun b hb=>hk b (h1 b hb),h2⟩
 live h:=let ⟨v,e,h1,h2,h3⟩:=h;⟨v,e,fun b hb=>⟨h1 b hb,(h2.lt b hb).2⟩,h2,h3⟩
 frame hf h:=by
  obtain ⟨v,e,h1,⟨xs,h2,h3⟩,h4⟩:=h
  refine ⟨v,e,h1,⟨xs,⟨h2.1,?_⟩,(Chunks.frame (fun b hb=>hb.1.elim) h3)⟩,h4⟩
  rcases h2.2 with h0|⟨g,cap,cur,hv,hb,hg,rest⟩
  ·exact .inl h0
  ·refine .inr ⟨g,cap,cur,hv,hb,?_,rest⟩
   rw [hf g (h1 g (by rw [hv];rfl))];exact hg
 one h:=by
  obtain ⟨v,rfl,_,⟨xs,h2,_⟩,_⟩:=h
  intro u hu
  cases List.mem_singleton.1 hu
  rcases h2.2 with ⟨rfl,_⟩|⟨g,cap,cur,rfl,_⟩<;>rfl
theorem iH.sl {α:Type}{r:Rep α}{E:TypeId}{ok:Nat→Prop}{w:World}{v:Value}{l:List α}(hf:Flat r)(h:(iH r E).rd ok w [v] l):∃ a n c,v=.slice a n c∧Sl r ok w a n c l:=by
 obtain ⟨_,e,h1,h2,_⟩:=h
 cases e
 obtain ⟨a,n,c,rfl,h3⟩:=h2.sl
 refine ⟨a,n,c,rfl,h3.len,h3.cap,h3.bnd,h3.nil,h3.cells.imp id fun ⟨b,off,e,_,hb,hc⟩=>⟨b,off,e,h1 b (by rw [e];rfl),hb,fun i x hx=>let ⟨cs,g1,g2⟩:=hc i x hx;⟨cs,g1,hf g2⟩⟩⟩
theorem iH.mk {α:Type}{r:Rep α}{B:Nat}{E:TypeId}{w:World}{v:Value}{l:List α}(h:Own r B E (fun _=>False) w v l)(hv:l=[]→v=.slice none 0 0∨∃ g c,v=.slice (some ⟨g,0,none⟩) 0 c):(iH r E).rd (B≤·) w [v] l:=by
 refine ⟨v,rfl,fun b hb=>(h.lt b hb).1,?_,hv⟩
 obtain ⟨xs,h1,h2⟩:=h
 refine ⟨xs,⟨h1.1,h1.2.imp id fun ⟨g,cap,cur,a1,a2,a3⟩=>⟨g,cap,cur,a1,ZaH _,a3⟩⟩,h2⟩
section
variable {P:Program}{ops:Array Oper}{rest:List Oper}{o:Oper}{a:Act}{Q:Exit→Act→World→Prop}{α:Type}{r:Rep α}{B:Nat}{E:TypeId}{w:World}
end
section
variable {P:Program}{α:Type}{r:Rep α}{B:Nat}{E:TypeId}{w:World}{g cap:Nat}{l:List α}
end
def H9 (a:Option Addr)(c lo sz:Nat):Option Addr:=if c=lo then a else a.map (·.add (lo*sz))
theorem Sl.sub {α:Type}{r:Rep α}{ok:Nat→Prop}{w:World}{a:Option Addr}{n c:Nat}{l:List α}(h:Sl r ok w a n c l){s k:Nat}(hk:s+k≤n):Sl r ok w (H9 a c s r.sz) k (c - s) ((l.drop s).take k):=by
 have h1:=h.len
 have h2:=h.cap
 refine ⟨by simp;omega,by omega,zR (Nat.sub_le _ _) h.bnd,fun e=>?_,?_⟩
 ·unfold H9 at e
  split at e
  ·omega
  ·have:a=none:=by simpa using e
   have:=h.nil this
   omega
 ·rcases h.cells with h0|⟨b,off,rfl,hb,hlt,hc⟩
  ·left;omega
  ·by_cases hk0:k=0
   ·exact .inl hk0
   ·refine .inr ⟨b,off+s*r.sz,?_,hb,hlt,fun i x hx=>?_⟩
    ·unfold H9
     rw [if_neg (by omega)]
     simp [Addr.add_lit]
    ·have hik:i<k:=by have:=(Z3.1 hx).1;simp at this;omega
     rw [List.getElem?_take,if_pos hik,List.getElem?_drop] at hx
     obtain ⟨cs,g1,g2⟩:=hc (s+i) x hx
     refine ⟨cs,fun j hj=>?_,g2⟩
     rw [← g1 j hj,Zav,Nat.add_assoc off]
section
variable {P:Program}{ops:Array Oper}{rest:List Oper}{o:Oper}{a:Act}{Q:Exit→Act→World→Prop}{α:Type}{r:Rep α}{B:Nat}{E:TypeId}{w:World}{g cap:Nat}{l:List α}
end
section
variable {ok:Nat→Prop}{w:World}{n c:Nat}
theorem Sl.wr {b off:Nat}{l:List (Int×Int×List jF)}(h:Sl (UL Mc (UL Mc (O8 adu))) ok w (some ⟨b,off,none⟩) n c l){k:Nat}{v s:Int}{d:List jF}(hx:l[k]?=some (v,s,d)) :
  ∃ a' n' c',w.cell? ⟨b,off+k*3,none⟩=some (.int .i64 v)∧w.cell? ⟨b,off+k*3+1,none⟩=some (.int .i64 s)∧w.cell? ⟨b,off+k*3+2,none⟩=some (.slice a' n' c')∧vY v∧vY s∧Sl adu ok w a' n' c' d:=by
 obtain ⟨cs,h1,c1,c2,rfl,⟨rfl,hv⟩,c3,c4,rfl,⟨rfl,hs⟩,a',n',c',rfl,hd⟩:=h.at hx
 refine ⟨a',n',c',?_,?_,?_,hv,hs,hd⟩
 ·exact h1 0 (by show 0<3;omega)
 ·exact h1 1 (by show 1<3;omega)
 ·exact h1 2 (by show 2<3;omega)
theorem Sl.ext {b off:Nat}{l:List (Int×Int)}(h:Sl (UL Mc Mc) ok w (some ⟨b,off,none⟩) n c l){k:Nat}{s m:Int}(hx:l[k]?=some (s,m)) :
  w.cell? ⟨b,off+k*2,none⟩=some (.int .i64 s)∧w.cell? ⟨b,off+k*2+1,none⟩=some (.int .i64 m)∧vY s∧vY m:=by
 obtain ⟨cs,h1,c1,c2,rfl,⟨rfl,hv⟩,⟨rfl,hs⟩⟩:=h.at hx
 exact ⟨h1 0 (by show 0<2;omega),h1 1 (by show 1<2;omega),hv,hs⟩
end
abbrev ado:Rep (List jF):=O8 adu
abbrev Wr:=Int×Int×List jF
theorem Tryz.mixed:Tryz.prog.follows .mixedOrders=true:=by kernel_rfl
theorem Uw {n:Nat}(h:n≤maxLen):vY (n:Int):=by unfold vY maxLen at *;omega
theorem Sl.i64 {α:Type}{r:Rep α}{ok:Nat→Prop}{w:World}{a:Option Addr}{n c:Nat}{l:List α}(h:Sl r ok w a n c l):vY (n:Int):=Uw (zR h.cap h.bnd)
def acT (n:Int):Bool:=decide (n<1) || decide (4096<n)
def KN (l:List Int):Int:=if l.length<1∨8<l.length then 6 else if l.any acT then 2 else 0
def lens (im:List (List jF)):List Int:=im.map fun v=>(v.length:Int)
def Ia (im:List (List jF)):Int:=KN (lens im)
def afF (sizes:List Int)(vol start:Int)(len:Nat):Int :=
 if vol<0∨(sizes.length:Int)≤vol then 7 else if len=0 then 1
 else if start<0∨sizes.getD vol.toNat 0≤start∨sizes.getD vol.toNat 0 - start<len then 2 else 0
def ahb {α:Type}(e:Int)(l:List α):List α:=if e=0 then l else []
theorem Sl.imp {α:Type}{r s:Rep α}{ok:Nat→Prop}{w:World}{a:Option Addr}{n c:Nat}{l:List α}(hz:s.sz=r.sz)(hi:∀ cs x,r.rd ok w cs x→s.rd ok w cs x)(h:Sl r ok w a n c l):Sl s ok w a n c l :=
 ⟨h.len,h.cap,h.bnd,h.nil,h.cells.imp id fun ⟨b,off,e,hb,hl,hc⟩=>⟨b,off,e,hb,hl,fun i x hx=>let ⟨cs,g1,g2⟩:=hc i x hx;⟨cs,by rw [hz];exact g1,hi cs x g2⟩⟩⟩
def acU (l:List jF)(s:Nat)(d:List jF):List jF:=l.take s++d++l.drop (s+d.length)
def ajC (im:List (List jF))(x:Wr):List (List jF):=im.set x.1.toNat (acU (im.getD x.1.toNat []) x.2.1.toNat x.2.2)
def ahc (sz:List Int)(x:Wr):Int:=afF sz x.1 x.2.1 x.2.2.length
def xQ (sz:List Int):List Wr→Nat→Int×Int
 |[],_=>(0,0)
 |x::l,i=>if ahc sz x≠0 then (i,ahc sz x) else xQ sz l (i+1)
def LG (im:List (List jF))(l:List Wr):List (List jF):=if Ia im≠0 then [] else ahb (xQ (lens im) l 0).2 (l.foldl ajC im)
def LH (im:List (List jF))(l:List Wr):Int:=if Ia im≠0 then 0 else (xQ (lens im) l 0).1
def Ib (im:List (List jF))(l:List Wr):Int:=if Ia im≠0 then Ia im else (xQ (lens im) l 0).2
def LJ (w:World)(im:List (List jF))(l:List Wr):Ending→World→Prop:=fun e w' =>
 ∃ a n c,e=.returned (.tuple #[.slice a n c,.int .i64 (LH im l),.int .i64 (Ib im l)])∧Sl ado (w.heap.size≤·) w' a n c (LG im l)∧(a=none∨Ib im l=0)∧Below w.heap.size w w'
theorem LJ.mk {w w':World}{im:List (List jF)}{l:List Wr}{a:Option Addr}{n c:Nat}{i e:Int}(hi:i=LH im l)(he:e=Ib im l)(h:Sl ado (w.heap.size≤·) w' a n c (LG im l))(hz:a=none∨Ib im l=0)(hB:Below w.heap.size w w') :
  LJ w im l (.returned (.tuple #[.slice a n c,.int .i64 i,.int .i64 e])) w':=⟨a,n,c,by rw [hi,he],h,hz,hB⟩
end Go.Proofs.YthccglceomoboaaGreatDoor
namespace Go.Proofs.YthccglceomoboaaGreatDoor
open Go.RowKit V
def yS (f:Nat)(fn:dL):Env:=fun k=>if k=f then some (.code fn) else none
theorem uN {P:Program}{f:Nat}{fn:dL}(h:aS P f fn=true):zl P (yS f fn):=fun k d hk=>by
 unfold yS at hk
 split at hk
 ·rename_i e;subst e;cases hk;exact h
 ·cases hk
def QB (n:Nat):Rep Unit where
 sz:=n
 rd _ _ cs _:=cs.length=n∧∀ u∈cs,u.oneCell'=true
 len h:=h.1
 mono _ h:=h
 live h:=h
 frame _ h:=h
 one h:=h.2
theorem Flat.em (n:Nat):Flat (QB n):=fun h=>h
theorem Ic {ok:Nat→Prop}{w:World}{sz:Nat}{v:Value}(h:aA ok w (.list sz []) v):∃ a c,v=.slice a 0 c∧Sl (QB sz) (fun _=>True) w a 0 c []:=by
 obtain ⟨l,hl⟩:∃ l:List PV,l=[]:=⟨_,rfl⟩
 rw [← hl] at h
 cases h with
 |nil _ a=>exact ⟨a,0,rfl,⟨rfl,ze _,ZaH _,fun _=>rfl,.inl rfl⟩⟩
 |list _ _ b off c cv h1 h2 h3 h4 h6 h7 h8=>subst hl;exact ⟨_,c,rfl,⟨rfl,ZaH _,h4,(fun e=>by cases e),.inl rfl⟩⟩
--+
theorem afG:xR Tryz.prog 71 129 8 8 (.agg #[.int .u8 0,.int .u8 0,.int .u8 0,.int .u8 0,.int .u8 0,.int .u8 0,.int .u8 0,.int .u8 0]):=⟨Tryz.underlying71,by kernel_rfl,rfl,by decide⟩
set_option maxHeartbeats 1000000 in
theorem Ux {a:Option Addr}{n c:Nat}{l:List Unit}{ok:Nat→Prop}{w:World}(h:Sl (QB 8) ok w a n c l)(hn:n≤1000000) :
  Calls Tryz.prog 133 #[.slice a n c] w fun e w'=>∃ a' n' c',e=.returned (.slice a' n' c')∧(iH (QB 8) 129).rd (w.heap.size≤·) w' [.slice a' n' c'] l∧Below w.heap.size w w':=by
 have heq:=fun (a:Option Addr) (n c:Nat) (w:World)=>Lib.run_eql_slice_nil (P:=Tryz.prog) w 71 129 a n c 0 0 Tryz.underlying71
 cases a with
 |none =>
  have h0:l=[]:=Zad (by rw [h.len];have:=h.nil rfl;have:=h.cap;omega)
  have H0:=Lib.hid h0;clear h0
  go_enter Tryz.func133,Tryz.ntmps133
  go_wp2
  go_ret
  refine ⟨_,_,_,rfl,?_,Below.refl _ _⟩
  rw [H0.out]
  exact iH.mk (Own.nil _ _ _ _ _) (fun _=>.inl rfl)
 |some ad =>
  have hs:n≤9223372036854775807:=by have:=zR h.cap h.bnd;unfold maxLen at this;omega
  go_enter Tryz.func133,Tryz.ntmps133
  go_wp2_with (at_builtin;refine qM afG rfl _ _ rfl rfl (Own.acS (QB 8) (ok:=fun _=>False) (ze _)) rfl ((Src.O9 (h.below ((Below.refl _ _).alloc (ze _) _))).flat (Flat.em 8)) ?c1 ?c2 ?c3 ?_)
  case c1=>simp;unfold maxLen;omega
  case c2=>simp;omega
  case c3=>simp
  intro v' w1 hown hgrow hat
  obtain ⟨a',n',c',rfl,_⟩:=hown.sl
  go_wp2
  go_ret
  refine ⟨_,_,_,rfl,iH.mk (by simpa using hown) (fun e=>?_),((Below.refl _ _).alloc (ze _) _).grown hgrow (by simp) (fun k hk=>by cases hk;exact ze _)⟩
  subst e
  obtain ⟨xs,h1,_⟩:=hown
  rcases h1.2 with ⟨hv,_⟩|⟨g,cap,cur,hv,_⟩
  ·exact .inl hv
  ·exact .inr ⟨g,cap,by simpa using hv⟩
theorem LK:aS Tryz.prog 133 Qa=true:=by kernel_rfl
theorem Ea {en:Env}(hen:en 133=some (.code Qa)){e:PV}{es:List PV}(hl:(e::es).length≤lim):cal en 133 [.list 8 (e::es)]=some [(.list 8 (e::es),true)]:=by
 have F1:(es.length+1≤lim)=True:=eq_true (by simpa using hl)
 rw [aG hen rfl]
 simp only [Qa]
 simp only [start,bC,bM,bg,bK,aW,aX,bn,aZ,Nat.reduceAdd,Nat.reduceSub]
 simp only [F1,aZ,gy,reduceCtorEq,Nat.reduceEqDiff,Nat.reduceAdd,Nat.reduceLT,Nat.reduceLeDiff,zb]
theorem LM:∀ args rs,jh 8 args=some rs→callable Tryz.prog 133=true∧lN Tryz.prog 133 args rs:=fun args rs h=>by
 unfold jh at h
 split at h
 case h_2=>cases h
 rename_i sz es
 split at h
 case isFalse=>cases h
 rename_i hc
 obtain ⟨rfl,hl⟩:=hc
 cases h
 cases es with
 |cons e es =>
  obtain ⟨n,hn⟩:=jW (Ea (en:=yS 133 Qa) (if_pos rfl) hl)
  exact qG (uN LK) hn
 |nil =>
  refine ⟨by kernel_rfl,fun T0 w vs h1 h2 h3 h4 _=>?_⟩
  match vs,h3 with
  |[v],_ =>
   have hv:=h4 0 _ v rfl rfl
   obtain ⟨a,c,rfl,hsl⟩:=Ic hv
   refine (Ux (ok:=fun _=>True) hsl (by omega)).mono ?_
   rintro e w' ⟨a',n',c',rfl,hrd,hB⟩
   obtain ⟨v,hv,hb,⟨xs,hown,_⟩,hnil⟩:=hrd
   obtain rfl:Value.slice a' n' c'=v:=by simpa using hv
   rcases hown.2 with ⟨e1,_⟩|⟨g,cap,cur,e1,_,hg,_,hm,hs,_⟩
   ·refine ⟨_,T0,rfl,hB,fun _ _=>rfl,fun b hb=>h2 b (by have:=hB.size;omega),#[_],rfl,rfl,fun i r u hr hu=>?_⟩
    cases i with
    |zero=>cases hr;cases hu;exact .inl ⟨rfl,none,e1⟩
    |succ i=>simp at hr
   ·have hg0:w.heap.size≤g:=hb g (by rw [e1];rfl)
    have hgl:g<w'.heap.size:=(zr.1 hg).1
    refine ⟨_,fun b=>if b=g then .row (.part 0 0) else T0 b,rfl,hB,fun b hb=>if_neg (by omega),fun b hb=>?_,#[_],rfl,rfl,fun i r u hr hu=>?_⟩
    ·show (if b=g then _ else T0 b)=_
     rw [if_neg (by omega)];exact h2 b (by have:=hB.size;omega)
    ·cases i with
     |zero =>
      cases hr;cases hu
      exact .inr ⟨g,cap,cur,_,e1,if_pos rfl,hg,hs,ZaH _,hm,(fun e he=>by cases he),fun i e j x hi=>by simp at hi⟩
     |succ i=>simp at hr
--+
theorem afH:xR Tryz.prog 35 3 1 8 (.int .i64 0):=⟨Tryz.underlying35,by kernel_rfl,rfl,by decide⟩
set_option maxHeartbeats 1000000 in
theorem Uy {a:Option Addr}{n c:Nat}{l:List Unit}{ok:Nat→Prop}{w:World}(h:Sl (QB 1) ok w a n c l)(hn:n≤1000000) :
  Calls Tryz.prog 107 #[.slice a n c] w fun e w'=>∃ a' n' c',e=.returned (.slice a' n' c')∧(iH (QB 1) 3).rd (w.heap.size≤·) w' [.slice a' n' c'] l∧Below w.heap.size w w':=by
 have heq:=fun (a:Option Addr) (n c:Nat) (w:World)=>Lib.run_eql_slice_nil (P:=Tryz.prog) w 35 3 a n c 0 0 Tryz.underlying35
 cases a with
 |none =>
  have h0:l=[]:=Zad (by rw [h.len];have:=h.nil rfl;have:=h.cap;omega)
  have H0:=Lib.hid h0;clear h0
  go_enter Tryz.func107,Tryz.ntmps107
  go_wp2
  go_ret
  refine ⟨_,_,_,rfl,?_,Below.refl _ _⟩
  rw [H0.out]
  exact iH.mk (Own.nil _ _ _ _ _) (fun _=>.inl rfl)
 |some ad =>
  have hs:n≤9223372036854775807:=by have:=zR h.cap h.bnd;unfold maxLen at this;omega
  go_enter Tryz.func107,Tryz.ntmps107
  go_wp2_with (at_builtin;refine qM afH rfl _ _ rfl rfl (Own.acS (QB 1) (ok:=fun _=>False) (ze _)) rfl ((Src.O9 (h.below ((Below.refl _ _).alloc (ze _) _))).flat (Flat.em 1)) ?c1 ?c2 ?c3 ?_)
  case c1=>simp;unfold maxLen;omega
  case c2=>simp;omega
  case c3=>simp
  intro v' w1 hown hgrow hat
  obtain ⟨a',n',c',rfl,_⟩:=hown.sl
  go_wp2
  go_ret
  refine ⟨_,_,_,rfl,iH.mk (by simpa using hown) (fun e=>?_),((Below.refl _ _).alloc (ze _) _).grown hgrow (by simp) (fun k hk=>by cases hk;exact ze _)⟩
  subst e
  obtain ⟨xs,h1,_⟩:=hown
  rcases h1.2 with ⟨hv,_⟩|⟨g,cap,cur,hv,_⟩
  ·exact .inl hv
  ·exact .inr ⟨g,cap,by simpa using hv⟩
theorem LP:aS Tryz.prog 107 P7=true:=by kernel_rfl
theorem Eb {en:Env}(hen:en 107=some (.code P7)){e:PV}{es:List PV}(hl:(e::es).length≤lim):cal en 107 [.list 1 (e::es)]=some [(.list 1 (e::es),true)]:=by
 have F1:(es.length+1≤lim)=True:=eq_true (by simpa using hl)
 rw [aG hen rfl]
 simp only [P7]
 simp only [start,bC,bM,bg,bK,aW,aX,bn,aZ,Nat.reduceAdd,Nat.reduceSub]
 simp only [F1,aZ,gy,reduceCtorEq,Nat.reduceEqDiff,Nat.reduceAdd,Nat.reduceLT,Nat.reduceLeDiff,zb]
theorem LQ:∀ args rs,jh 1 args=some rs→callable Tryz.prog 107=true∧lN Tryz.prog 107 args rs:=fun args rs h=>by
 unfold jh at h
 split at h
 case h_2=>cases h
 rename_i sz es
 split at h
 case isFalse=>cases h
 rename_i hc
 obtain ⟨rfl,hl⟩:=hc
 cases h
 cases es with
 |cons e es =>
  obtain ⟨n,hn⟩:=jW (Eb (en:=yS 107 P7) (if_pos rfl) hl)
  exact qG (uN LP) hn
 |nil =>
  refine ⟨by kernel_rfl,fun T0 w vs h1 h2 h3 h4 _=>?_⟩
  match vs,h3 with
  |[v],_ =>
   have hv:=h4 0 _ v rfl rfl
   obtain ⟨a,c,rfl,hsl⟩:=Ic hv
   refine (Uy (ok:=fun _=>True) hsl (by omega)).mono ?_
   rintro e w' ⟨a',n',c',rfl,hrd,hB⟩
   obtain ⟨v,hv,hb,⟨xs,hown,_⟩,hnil⟩:=hrd
   obtain rfl:Value.slice a' n' c'=v:=by simpa using hv
   rcases hown.2 with ⟨e1,_⟩|⟨g,cap,cur,e1,_,hg,_,hm,hs,_⟩
   ·refine ⟨_,T0,rfl,hB,fun _ _=>rfl,fun b hb=>h2 b (by have:=hB.size;omega),#[_],rfl,rfl,fun i r u hr hu=>?_⟩
    cases i with
    |zero=>cases hr;cases hu;exact .inl ⟨rfl,none,e1⟩
    |succ i=>simp at hr
   ·have hg0:w.heap.size≤g:=hb g (by rw [e1];rfl)
    have hgl:g<w'.heap.size:=(zr.1 hg).1
    refine ⟨_,fun b=>if b=g then .row (.part 0 0) else T0 b,rfl,hB,fun b hb=>if_neg (by omega),fun b hb=>?_,#[_],rfl,rfl,fun i r u hr hu=>?_⟩
    ·show (if b=g then _ else T0 b)=_
     rw [if_neg (by omega)];exact h2 b (by have:=hB.size;omega)
    ·cases i with
     |zero =>
      cases hr;cases hu
      exact .inr ⟨g,cap,cur,_,e1,if_pos rfl,hg,hs,ZaH _,hm,(fun e he=>by cases he),fun i e j x hi=>by simp at hi⟩
     |succ i=>simp at hr
--+
theorem afI:xR Tryz.prog 57 193 1 8 (.int .u64 0):=⟨Tryz.underlying57,by kernel_rfl,rfl,by decide⟩
set_option maxHeartbeats 1000000 in
theorem Uz {a:Option Addr}{n c:Nat}{l:List Unit}{ok:Nat→Prop}{w:World}(h:Sl (QB 1) ok w a n c l)(hn:n≤1000000) :
  Calls Tryz.prog 120 #[.slice a n c] w fun e w'=>∃ a' n' c',e=.returned (.slice a' n' c')∧(iH (QB 1) 193).rd (w.heap.size≤·) w' [.slice a' n' c'] l∧Below w.heap.size w w':=by
 have heq:=fun (a:Option Addr) (n c:Nat) (w:World)=>Lib.run_eql_slice_nil (P:=Tryz.prog) w 57 193 a n c 0 0 Tryz.underlying57
 cases a with
 |none =>
  have h0:l=[]:=Zad (by rw [h.len];have:=h.nil rfl;have:=h.cap;omega)
  have H0:=Lib.hid h0;clear h0
  go_enter Tryz.func120,Tryz.ntmps120
  go_wp2
  go_ret
  refine ⟨_,_,_,rfl,?_,Below.refl _ _⟩
  rw [H0.out]
  exact iH.mk (Own.nil _ _ _ _ _) (fun _=>.inl rfl)
 |some ad =>
  have hs:n≤9223372036854775807:=by have:=zR h.cap h.bnd;unfold maxLen at this;omega
  go_enter Tryz.func120,Tryz.ntmps120
  go_wp2_with (at_builtin;refine qM afI rfl _ _ rfl rfl (Own.acS (QB 1) (ok:=fun _=>False) (ze _)) rfl ((Src.O9 (h.below ((Below.refl _ _).alloc (ze _) _))).flat (Flat.em 1)) ?c1 ?c2 ?c3 ?_)
  case c1=>simp;unfold maxLen;omega
  case c2=>simp;omega
  case c3=>simp
  intro v' w1 hown hgrow hat
  obtain ⟨a',n',c',rfl,_⟩:=hown.sl
  go_wp2
  go_ret
  refine ⟨_,_,_,rfl,iH.mk (by simpa using hown) (fun e=>?_),((Below.refl _ _).alloc (ze _) _).grown hgrow (by simp) (fun k hk=>by cases hk;exact ze _)⟩
  subst e
  obtain ⟨xs,h1,_⟩:=hown
  rcases h1.2 with ⟨hv,_⟩|⟨g,cap,cur,hv,_⟩
  ·exact .inl hv
  ·exact .inr ⟨g,cap,by simpa using hv⟩
theorem LU:aS Tryz.prog 120 P9=true:=by kernel_rfl
theorem Ec {en:Env}(hen:en 120=some (.code P9)){e:PV}{es:List PV}(hl:(e::es).length≤lim):cal en 120 [.list 1 (e::es)]=some [(.list 1 (e::es),true)]:=by
 have F1:(es.length+1≤lim)=True:=eq_true (by simpa using hl)
 rw [aG hen rfl]
 simp only [P9]
 simp only [start,bC,bM,bg,bK,aW,aX,bn,aZ,Nat.reduceAdd,Nat.reduceSub]
 simp only [F1,aZ,gy,reduceCtorEq,Nat.reduceEqDiff,Nat.reduceAdd,Nat.reduceLT,Nat.reduceLeDiff,zb]
theorem LV:∀ args rs,jh 1 args=some rs→callable Tryz.prog 120=true∧lN Tryz.prog 120 args rs:=fun args rs h=>by
 unfold jh at h
 split at h
 case h_2=>cases h
 rename_i sz es
 split at h
 case isFalse=>cases h
 rename_i hc
 obtain ⟨rfl,hl⟩:=hc
 cases h
 cases es with
 |cons e es =>
  obtain ⟨n,hn⟩:=jW (Ec (en:=yS 120 P9) (if_pos rfl) hl)
  exact qG (uN LU) hn
 |nil =>
  refine ⟨by kernel_rfl,fun T0 w vs h1 h2 h3 h4 _=>?_⟩
  match vs,h3 with
  |[v],_ =>
   have hv:=h4 0 _ v rfl rfl
   obtain ⟨a,c,rfl,hsl⟩:=Ic hv
   refine (Uz (ok:=fun _=>True) hsl (by omega)).mono ?_
   rintro e w' ⟨a',n',c',rfl,hrd,hB⟩
   obtain ⟨v,hv,hb,⟨xs,hown,_⟩,hnil⟩:=hrd
   obtain rfl:Value.slice a' n' c'=v:=by simpa using hv
   rcases hown.2 with ⟨e1,_⟩|⟨g,cap,cur,e1,_,hg,_,hm,hs,_⟩
   ·refine ⟨_,T0,rfl,hB,fun _ _=>rfl,fun b hb=>h2 b (by have:=hB.size;omega),#[_],rfl,rfl,fun i r u hr hu=>?_⟩
    cases i with
    |zero=>cases hr;cases hu;exact .inl ⟨rfl,none,e1⟩
    |succ i=>simp at hr
   ·have hg0:w.heap.size≤g:=hb g (by rw [e1];rfl)
    have hgl:g<w'.heap.size:=(zr.1 hg).1
    refine ⟨_,fun b=>if b=g then .row (.part 0 0) else T0 b,rfl,hB,fun b hb=>if_neg (by omega),fun b hb=>?_,#[_],rfl,rfl,fun i r u hr hu=>?_⟩
    ·show (if b=g then _ else T0 b)=_
     rw [if_neg (by omega)];exact h2 b (by have:=hB.size;omega)
    ·cases i with
     |zero =>
      cases hr;cases hu
      exact .inr ⟨g,cap,cur,_,e1,if_pos rfl,hg,hs,ZaH _,hm,(fun e he=>by cases he),fun i e j x hi=>by simp at hi⟩
     |succ i=>simp at hr
--+
theorem afJ:xR Tryz.prog 72 5 1 1 (.int .u8 0):=⟨Tryz.underlying72,by kernel_rfl,rfl,by decide⟩
set_option maxHeartbeats 1000000 in
theorem UA {a:Option Addr}{n c:Nat}{l:List Unit}{ok:Nat→Prop}{w:World}(h:Sl (QB 1) ok w a n c l)(hn:n≤1000000) :
  Calls Tryz.prog 245 #[.slice a n c] w fun e w'=>∃ a' n' c',e=.returned (.slice a' n' c')∧(iH (QB 1) 5).rd (w.heap.size≤·) w' [.slice a' n' c'] l∧Below w.heap.size w w':=by
 have heq:=fun (a:Option Addr) (n c:Nat) (w:World)=>Lib.run_eql_slice_nil (P:=Tryz.prog) w 72 5 a n c 0 0 Tryz.underlying72
 cases a with
 |none =>
  have h0:l=[]:=Zad (by rw [h.len];have:=h.nil rfl;have:=h.cap;omega)
  have H0:=Lib.hid h0;clear h0
  go_enter Tryz.func245,Tryz.ntmps245
  go_wp2
  go_ret
  refine ⟨_,_,_,rfl,?_,Below.refl _ _⟩
  rw [H0.out]
  exact iH.mk (Own.nil _ _ _ _ _) (fun _=>.inl rfl)
 |some ad =>
  have hs:n≤9223372036854775807:=by have:=zR h.cap h.bnd;unfold maxLen at this;omega
  go_enter Tryz.func245,Tryz.ntmps245
  go_wp2_with (at_builtin;refine qM afJ rfl _ _ rfl rfl (Own.acS (QB 1) (ok:=fun _=>False) (ze _)) rfl ((Src.O9 (h.below ((Below.refl _ _).alloc (ze _) _))).flat (Flat.em 1)) ?c1 ?c2 ?c3 ?_)
  case c1=>simp;unfold maxLen;omega
  case c2=>simp;omega
  case c3=>simp
  intro v' w1 hown hgrow hat
  obtain ⟨a',n',c',rfl,_⟩:=hown.sl
  go_wp2
  go_ret
  refine ⟨_,_,_,rfl,iH.mk (by simpa using hown) (fun e=>?_),((Below.refl _ _).alloc (ze _) _).grown hgrow (by simp) (fun k hk=>by cases hk;exact ze _)⟩
  subst e
  obtain ⟨xs,h1,_⟩:=hown
  rcases h1.2 with ⟨hv,_⟩|⟨g,cap,cur,hv,_⟩
  ·exact .inl hv
  ·exact .inr ⟨g,cap,by simpa using hv⟩
theorem LW:aS Tryz.prog 245 Qb=true:=by kernel_rfl
theorem Ed {en:Env}(hen:en 245=some (.code Qb)){e:PV}{es:List PV}(hl:(e::es).length≤lim):cal en 245 [.list 1 (e::es)]=some [(.list 1 (e::es),true)]:=by
 have F1:(es.length+1≤lim)=True:=eq_true (by simpa using hl)
 rw [aG hen rfl]
 simp only [Qb]
 simp only [start,bC,bM,bg,bK,aW,aX,bn,aZ,Nat.reduceAdd,Nat.reduceSub]
 simp only [F1,aZ,gy,reduceCtorEq,Nat.reduceEqDiff,Nat.reduceAdd,Nat.reduceLT,Nat.reduceLeDiff,zb]
theorem LX:∀ args rs,jh 1 args=some rs→callable Tryz.prog 245=true∧lN Tryz.prog 245 args rs:=fun args rs h=>by
 unfold jh at h
 split at h
 case h_2=>cases h
 rename_i sz es
 split at h
 case isFalse=>cases h
 rename_i hc
 obtain ⟨rfl,hl⟩:=hc
 cases h
 cases es with
 |cons e es =>
  obtain ⟨n,hn⟩:=jW (Ed (en:=yS 245 Qb) (if_pos rfl) hl)
  exact qG (uN LW) hn
 |nil =>
  refine ⟨by kernel_rfl,fun T0 w vs h1 h2 h3 h4 _=>?_⟩
  match vs,h3 with
  |[v],_ =>
   have hv:=h4 0 _ v rfl rfl
   obtain ⟨a,c,rfl,hsl⟩:=Ic hv
   refine (UA (ok:=fun _=>True) hsl (by omega)).mono ?_
   rintro e w' ⟨a',n',c',rfl,hrd,hB⟩
   obtain ⟨v,hv,hb,⟨xs,hown,_⟩,hnil⟩:=hrd
   obtain rfl:Value.slice a' n' c'=v:=by simpa using hv
   rcases hown.2 with ⟨e1,_⟩|⟨g,cap,cur,e1,_,hg,_,hm,hs,_⟩
   ·refine ⟨_,T0,rfl,hB,fun _ _=>rfl,fun b hb=>h2 b (by have:=hB.size;omega),#[_],rfl,rfl,fun i r u hr hu=>?_⟩
    cases i with
    |zero=>cases hr;cases hu;exact .inl ⟨rfl,none,e1⟩
    |succ i=>simp at hr
   ·have hg0:w.heap.size≤g:=hb g (by rw [e1];rfl)
    have hgl:g<w'.heap.size:=(zr.1 hg).1
    refine ⟨_,fun b=>if b=g then .row (.part 0 0) else T0 b,rfl,hB,fun b hb=>if_neg (by omega),fun b hb=>?_,#[_],rfl,rfl,fun i r u hr hu=>?_⟩
    ·show (if b=g then _ else T0 b)=_
     rw [if_neg (by omega)];exact h2 b (by have:=hB.size;omega)
    ·cases i with
     |zero =>
      cases hr;cases hu
      exact .inr ⟨g,cap,cur,_,e1,if_pos rfl,hg,hs,ZaH _,hm,(fun e he=>by cases he),fun i e j x hi=>by simp at hi⟩
     |succ i=>simp at hr
end Go.Proofs.YthccglceomoboaaGreatDoor
namespace Go.Proofs.YthccglceomoboaaGreatDoor
open Go.RowKit
end Go.Proofs.YthccglceomoboaaGreatDoor
