/-
  Part 8 of the texts that the statement stands on.
-/
import Derived.Test.YthccglceomoboaaGreatDoorX7
set_option linter.all false
open List renaming length_map → Z3, getElem?_map → zc, length_cons → zd, length_nil → zj, map_append → Zag, eq_nil_of_length_eq_zero → Zah, mem_singleton → Zaq, map_nil → Zar, mem_append → ZaE, getElem_of_mem → Zbs
open Nat renaming beq → Z6, le_refl → ze
open Bool renaming true_and → zz, and_self → zP
open Int renaming tdiv_eq_ediv_of_nonneg → Zbg, mul_nonneg → Zct
namespace Go.Proofs.YthccglceomoboaaGreatDoor.V
theorem Ho {p:Nat→Bool}{n:Nat}(hn:n≤4096):U5 (ext p n)=ext p n:=by
 unfold U5 setOf
 have e1:ext (fun s=>Zn (qG (ext p n) s) (qG [] s)) 4096=ext (fun s=>decide (s<n)&&p s) 4096:=pG fun s _=>by
  unfold Zn
  rw [Dy,show qG [] s=false from rfl,Bool.or_false]
 rw [e1]
 have e2:ext (fun s=>decide (s<n)&&p s) 4096=ext (fun s=>decide (s<n)&&p s) n:=by
  have:∀ k,ext (fun s=>decide (s<n)&&p s) (n+k)=ext (fun s=>decide (s<n)&&p s) n:=by
   intro k
   induction k with
   |zero=>rfl
   |succ k ih=>rw [show n+(k+1)=n+k+1 by omega,iI,decide_eq_false (by omega),Bool.false_and,if_neg (by decide),ih]
  rw [show 4096=n+(4096 - n) by omega,this]
 rw [e2]
 exact pG fun s hs=>by rw [decide_eq_true hs,zz]
theorem ahv (g f:Int→Int)(p:Nat→Bool)(m:Nat):oth g f ((dZ p m).map fun (i:Nat)=>(i:Int))=(dZ (fun n=>p n&&decide (g (n:Int)≠f (n:Int))) m).map fun (i:Nat)=>(i:Int):=by
 unfold oth dZ
 rw [List.filter_map,List.filter_filter]
 congr 1
 apply List.filter_congr
 intro x _
 simp [Bool.and_comm]
theorem Ad (q:Nat→Bool)(j:Nat):dZ q (j+1)=if q j then dZ q j++[j] else dZ q j:=by
 unfold dZ
 rw [List.range_succ,List.filter_append]
 cases hq:q j<;>simp [hq]
theorem aen (q:Nat→Bool)(m:Nat):∀ j,pN m (dZ q j)=ext (fun i=>q (i / 2)) (min m (2*j))
 |0=>by rw [Nat.mul_zero,Nat.min_zero];rfl
 |j+1=>by
  have ih:=aen q m j
  have h1:(2*j) / 2=j:=by omega
  have h2:(2*j+1) / 2=j:=by omega
  have key:∀ n,n=2*j→n<m→ext (fun i=>q (i / 2)) (n+1)=if q j then jr (ext (fun i=>q (i / 2)) n) n else ext (fun i=>q (i / 2)) n:=fun n hn _=>by
   rw [iI]
   subst hn
   simp only [h1]
  have key2:∀ n,n=2*j+1→ext (fun i=>q (i / 2)) (n+1)=if q j then jr (ext (fun i=>q (i / 2)) n) n else ext (fun i=>q (i / 2)) n:=fun n hn=>by
   rw [iI]
   subst hn
   simp only [h2]
  rw [Ad]
  rcases Nat.lt_or_ge (2*j) m with c|c
  ·have e0:min m (2*j)=2*j:=by omega
   rw [e0] at ih
   have k1:=key (2*j) rfl c
   rcases Nat.lt_or_ge (2*j+1) m with d|d
   ·have e1:min m (2*(j+1))=2*j+1+1:=by omega
    rw [e1,key2 (2*j+1) rfl,k1]
    cases hq:q j with
    |false=>rw [if_neg (by decide),if_neg (by decide),if_neg (by decide)];exact ih
    |true =>
     rw [if_pos rfl,if_pos rfl,if_pos rfl,xB,ih]
     unfold WC JO
     rw [if_pos c,if_pos d]
   ·have e1:min m (2*(j+1))=2*j+1:=by omega
    rw [e1,k1]
    cases hq:q j with
    |false=>rw [if_neg (by decide),if_neg (by decide)];exact ih
    |true =>
     rw [if_pos rfl,if_pos rfl,xB,ih]
     unfold WC JO
     rw [if_pos c,if_neg (by omega)]
  ·have e0:min m (2*j)=m:=by omega
   have e1:min m (2*(j+1))=m:=by omega
   rw [e0] at ih
   rw [e1]
   cases hq:q j with
   |false=>rw [if_neg (by decide)];exact ih
   |true =>
    rw [if_pos rfl,xB,ih]
    unfold WC JO
    rw [if_neg (by omega),if_neg (by omega)]
theorem ah3 (q:Nat→Bool)(n k:Nat):pN (cd n k) (dZ q (cd n (k+1)))=ext (fun i=>q (i / 2)) (cd n k):=by
 rw [aen]
 congr 1
 show min (cd n k) (2*((cd n k+1) / 2))=_
 omega
def qW (l:List Int)(k:Nat)(p:Nat→Bool)(g:Int→Int)(n:Nat):Bool:=p n&&decide (g (n:Int)≠(iq l k).getD n 0)
structure okG (g:Int→Int):Prop where
 u:∀ n,QI (g n)
theorem Dz {sz lf:Int}{l:List Int}{w:nT}{k:Nat}{p:Nat→Bool}(h:mX sz lf l w k p):fU w.pend=(dZ p (cd l.length k)).map fun (i:Nat)=>(i:Int):=by rw [h.pend];exact Ac p _
def w1 (w:nT)(s:Nat):nT:={ w with sent:=w.sent+(s:Int) }
def vk (sz lf:Int)(l:List Int)(w:nT)(k:Nat)(p:Nat→Bool)(g:Int→Int):nT :=
 if k=0 then { w with sent:=w.sent+((dZ p (cd l.length k)).length:Int),nO:=0,pend:=[],found:=U5 (jJ sz lf (dZ (qW l k p g) (cd l.length k))),fin:=true }
 else if dZ (qW l k p g) (cd l.length k)=[] then { w with sent:=w.sent+((dZ p (cd l.length k)).length:Int),nO:=0,pend:=[],fin:=true }
 else { w with sent:=w.sent+((dZ p (cd l.length k)).length:Int),nO:=((k - 1:Nat):Int),pend:=pN (cd l.length (k - 1)) (dZ (qW l k p g) (cd l.length k)) }
def Zp (w:nT):List PV:=if w.fin then [] else [Am (uZ w)]
set_option maxRecDepth 20000 in
theorem MR {sz lf:Int}{l:List Int}{w:nT}{k:Nat}{p:Nat→Bool}{g:Int→Int}(h:mX sz lf l w k p)(hg:okG g):Eu env 101 (.box (wP w)) [.list 1 ((xP g (fU w.pend)).map jG)]=some ([(.list 1 ((dZ (qW l k p g) (cd l.length k)).map fun (i:Nat)=>eI (i:Int)),true)],some (wP (w1 w (dZ p (cd l.length k)).length))):=by
 obtain ⟨hk,hL⟩:=h.lvl
 obtain ⟨c1,c2⟩:=h.cdl
 obtain ⟨p1,p2,p3,p4,p5⟩:=h.pl
 have hn:=Dz h
 have hLn:(iq l k).length=cd l.length k:=fE l k
 have hfl:=jD p (cd l.length k)
 have:=akD (w:=w) (k:=k) (g:=g) (L:=iq l k) hk h.nO hL (U0 h.T.u k) hg.u (by omega) (by omega) (fun x hx=>by have:=p5 x hx;omega) (fun n hm=>by
  rw [hn] at hm
  obtain ⟨i,hi,rfl⟩:=List.mem_map.1 hm
  have:=(mQ.1 hi).1
  omega) (by rw [hn,Z3];omega) (by have:=h.sent;omega)
 rw [this,hn,Z3,ahv,List.map_map]
 have e:(dZ (fun n=>p n&&decide (g (n:Int)≠(fun n=>(iq l k).getD n.toNat 0) (n:Int))) (cd l.length k))=dZ (qW l k p g) (cd l.length k):=rfl
 rw [e]
 rfl
set_option maxRecDepth 20000 in
theorem akT {sz lf:Int}{l:List Int}{w:nT}{p:Nat→Bool}{g:Int→Int}(h:mX sz lf l w 0 p)(hg:okG g):cal env 30 [Zj w,Am (MP w g)]=some [(Zj (vk sz lf l w 0 p g),false),(.list 8 [],true),(.int .i64 0,false)]:=by
 obtain ⟨hk,hL⟩:=h.lvl
 obtain ⟨h1,h2⟩:=h.T.len
 obtain ⟨d1,d2,d3⟩:=jk h1 h2
 obtain ⟨c1,c2⟩:=h.cdl
 obtain ⟨p1,p2,p3,p4,p5⟩:=h.pl
 have hll:=dI l
 have hn:=Dz h
 have hfl:=jD p (cd l.length 0)
 have hlv:w.t.lv=fG l:=by rw [h.t];rfl
 have hsz:w.t.sz=sz:=by rw [h.t];rfl
 have hlf:w.t.lf=lf:=by rw [h.t];rfl
 have k1:=aem h
 have k2:=Wx (t:=w.t) (by rw [hlv];omega) (fun x hx=>by
  rw [hlv] at hx
  obtain ⟨i,hi,rfl⟩:=Zbs hx
  rw [nM];exact yI h1 h2 i)
 have k3:=U3 (w:=w) p1
 have k4:=adw (l:=vals w) (m:=vals w) (by unfold vals;rw [zd,zd,o7];unfold lim;omega)
 rw [decide_eq_true rfl] at k4
 have k5:=U6 p3 (by omega)
 have hcnt:oJ (U5 w.pend)=((dZ p (cd l.length 0)).length:Int):=by rw [h.pend,Ho c2,Dx];rfl
 rw [hcnt] at k5
 have k6:=MR h hg
 have k7:=akQ (w:=w1 w (dZ p (cd l.length 0)).length) (ns:=dZ (qW l 0 p g) (cd l.length 0)) (by unfold w1;simp only;rw [hsz];exact h.T.s) (by unfold w1;simp only;rw [hlf];exact h.T.f) (by have:=jD (qW l 0 p g) (cd l.length 0);omega) (fun n hn=>by have:=(mQ.1 hn).1;omega)
 have hbl:(xP g (fU w.pend)).length=8*(dZ p (cd l.length 0)).length:=by rw [rF,hn,Z3]
 have W8:IntKind.i64.wrap (8*((dZ p (cd l.length 0)).length:Int))=((8*(dZ p (cd l.length 0)).length:Nat):Int):=by rw [aI (by omega)];omega
 have N0:(((8*(dZ p (cd l.length 0)).length:Nat):Int) != ((8*(dZ p (cd l.length 0)).length:Nat):Int))=false:=by simp
 have N1:(w.nO != w.nO)=false:=by simp
 have E14:((14:Int) != 14)=false:=rfl
 have Z:((0:Int) != 0)=false:=rfl
 have hfin:=h.fin
 have jC:=h.nO
 have Z0:(((0:Nat):Int)==0)=true:=rfl
 have em:Am (MP w g)=.agg [.int .i64 14,.int .i64 0,.int .i64 0,.int .i64 w.nO,.int .i64 0,.int .i64 0,.list 1 ((vals w).map eI),.list 1 ((xP g (fU w.pend)).map jG)]:=rfl
 have er:Am (uZ w)=.agg [.int .i64 13,.int .i64 0,.int .i64 0,.int .i64 w.nO,.int .i64 0,.int .i64 0,.list 1 ((vals w).map eI),.list 1 []]:=rfl
 have ex:vk sz lf l w 0 p g={ w with sent:=w.sent+((dZ p (cd l.length 0)).length:Int),nO:=0,pend:=[],found:=U5 (jJ sz lf (dZ (qW l 0 p g) (cd l.length 0))),fin:=true }:=by unfold vk;rw [if_pos rfl]
 rw [ex]
 unfold w1 at k6 k7
 simp only [hsz,hlf] at k7
 generalize dZ (qW l 0 p g) (cd l.length 0)=N at *
 rw [em]
 rw [er] at k3
 rw [rW] at k1 ⊢
 rw [rW]
 rw [Dw] at k2
 rw [jI] at k3 k6 k7
 rw [jI] at k6 k7
 rw [hfin] at k1 k3 k6 k7 ⊢
 rw [jC] at k1 k3 k6 ⊢
 try rw [jC] at k7
 rw [aA adp rfl];simp only [UO,aW,Nat.reduceBEq,Nat.reduceLeDiff,Nat.reduceAdd,zd,zj]
 simp only [k1,k2,k3,k4,k5,k6,k7,P3,P8,hbl,W8,N0,N1,E14,Z,Z0,jC,Z3,aC,Nat.reduceMul,Nat.reduceBEq,Nat.reduceLT,Nat.reduceLeDiff,reduceCtorEq,Nat.reduceEqDiff,Nat.reduceAdd,Z6]
set_option maxRecDepth 20000 in
theorem akU {sz lf:Int}{l:List Int}{w:nT}{k:Nat}{p:Nat→Bool}{g:Int→Int}(h:mX sz lf l w (k+1) p)(hg:okG g)(h0:dZ (qW l (k+1) p g) (cd l.length (k+1))=[]):cal env 30 [Zj w,Am (MP w g)]=some [(Zj (vk sz lf l w (k+1) p g),false),(.list 8 [],true),(.int .i64 0,false)]:=by
 obtain ⟨hk,hL⟩:=h.lvl
 obtain ⟨h1,h2⟩:=h.T.len
 obtain ⟨d1,d2,d3⟩:=jk h1 h2
 obtain ⟨c1,c2⟩:=h.cdl
 obtain ⟨p1,p2,p3,p4,p5⟩:=h.pl
 have hll:=dI l
 have hn:=Dz h
 have hfl:=jD p (cd l.length (k+1))
 have hlv:w.t.lv=fG l:=by rw [h.t];rfl
 have hsz:w.t.sz=sz:=by rw [h.t];rfl
 have hlf:w.t.lf=lf:=by rw [h.t];rfl
 have k1:=aem h
 have k2:=Wx (t:=w.t) (by rw [hlv];omega) (fun x hx=>by
  rw [hlv] at hx
  obtain ⟨i,hi,rfl⟩:=Zbs hx
  rw [nM];exact yI h1 h2 i)
 have k3:=U3 (w:=w) p1
 have k4:=adw (l:=vals w) (m:=vals w) (by unfold vals;rw [zd,zd,o7];unfold lim;omega)
 rw [decide_eq_true rfl] at k4
 have k5:=U6 p3 (by omega)
 have hcnt:oJ (U5 w.pend)=((dZ p (cd l.length (k+1))).length:Int):=by rw [h.pend,Ho c2,Dx];rfl
 rw [hcnt] at k5
 have k6:=MR h hg
 have k7:=ad7 (w:=w1 w (dZ p (cd l.length (k+1))).length)
 have hbl:(xP g (fU w.pend)).length=8*(dZ p (cd l.length (k+1))).length:=by rw [rF,hn,Z3]
 have W8:IntKind.i64.wrap (8*((dZ p (cd l.length (k+1))).length:Int))=((8*(dZ p (cd l.length (k+1))).length:Nat):Int):=by rw [aI (by omega)];omega
 have N0:(((8*(dZ p (cd l.length (k+1))).length:Nat):Int) != ((8*(dZ p (cd l.length (k+1))).length:Nat):Int))=false:=by simp
 have N1:(w.nO != w.nO)=false:=by simp
 have E14:((14:Int) != 14)=false:=rfl
 have Z:((0:Int) != 0)=false:=rfl
 have hfin:=h.fin
 have jC:=h.nO
 have Z0:(((k+1:Nat):Int)==0)=false:=by simp;omega
 have Z1:(((0:Nat):Int)==0)=true:=rfl
 have em:Am (MP w g)=.agg [.int .i64 14,.int .i64 0,.int .i64 0,.int .i64 w.nO,.int .i64 0,.int .i64 0,.list 1 ((vals w).map eI),.list 1 ((xP g (fU w.pend)).map jG)]:=rfl
 have er:Am (uZ w)=.agg [.int .i64 13,.int .i64 0,.int .i64 0,.int .i64 w.nO,.int .i64 0,.int .i64 0,.list 1 ((vals w).map eI),.list 1 []]:=rfl
 have ex:vk sz lf l w (k+1) p g={ w with sent:=w.sent+((dZ p (cd l.length (k+1))).length:Int),nO:=0,pend:=[],fin:=true }:=by unfold vk;rw [if_neg (by omega),if_pos h0]
 rw [ex]
 unfold w1 at k6 k7
 rw [h0,Zar] at k6
 rw [em]
 rw [er] at k3
 rw [rW] at k1 ⊢
 rw [rW]
 rw [Dw] at k2
 rw [jI] at k3 k6 k7
 rw [jI] at k6 k7
 rw [hfin] at k1 k3 k6 k7 ⊢
 rw [jC] at k1 k3 k6 ⊢
 try rw [jC] at k7
 rw [aA adp rfl];simp only [UO,aW,Nat.reduceBEq,Nat.reduceLeDiff,Nat.reduceAdd,zd,zj]
 simp only [k1,k2,k3,k4,k5,k6,k7,P3,P8,hbl,W8,N0,N1,E14,Z,Z0,Z1,jC,Z3,aC,Nat.reduceMul,Nat.reduceBEq,Nat.reduceLT,Nat.reduceLeDiff,reduceCtorEq,Nat.reduceEqDiff,Nat.reduceAdd,Z6]
set_option maxRecDepth 20000 in
theorem akV {sz lf:Int}{l:List Int}{w:nT}{k:Nat}{p:Nat→Bool}{g:Int→Int}(h:mX sz lf l w (k+1) p)(hg:okG g)(h0:dZ (qW l (k+1) p g) (cd l.length (k+1))≠[]):cal env 30 [Zj w,Am (MP w g)]=some [(Zj (vk sz lf l w (k+1) p g),false),(.list 8 [Am (uZ (vk sz lf l w (k+1) p g))],true),(.int .i64 0,false)]:=by
 obtain ⟨hk,hL⟩:=h.lvl
 obtain ⟨h1,h2⟩:=h.T.len
 obtain ⟨d1,d2,d3⟩:=jk h1 h2
 obtain ⟨c1,c2⟩:=h.cdl
 obtain ⟨p1,p2,p3,p4,p5⟩:=h.pl
 have hll:=dI l
 have hn:=Dz h
 have hfl:=jD p (cd l.length (k+1))
 have hlv:w.t.lv=fG l:=by rw [h.t];rfl
 have hsz:w.t.sz=sz:=by rw [h.t];rfl
 have hlf:w.t.lf=lf:=by rw [h.t];rfl
 have k1:=aem h
 have k2:=Wx (t:=w.t) (by rw [hlv];omega) (fun x hx=>by
  rw [hlv] at hx
  obtain ⟨i,hi,rfl⟩:=Zbs hx
  rw [nM];exact yI h1 h2 i)
 have k3:=U3 (w:=w) p1
 have k4:=adw (l:=vals w) (m:=vals w) (by unfold vals;rw [zd,zd,o7];unfold lim;omega)
 rw [decide_eq_true rfl] at k4
 have k5:=U6 p3 (by omega)
 have hcnt:oJ (U5 w.pend)=((dZ p (cd l.length (k+1))).length:Int):=by rw [h.pend,Ho c2,Dx];rfl
 rw [hcnt] at k5
 have k6:=MR h hg
 have hkd:=h.kd
 have hcl:=zV l.length k h1
 have hcp:=G7 h1 k
 have k7:=akF (w:=w1 w (dZ p (cd l.length (k+1))).length) (ns:=dZ (qW l (k+1) p g) (cd l.length (k+1))) (L:=iq l k) (k:=k) (by show k<w.t.lv.length;rw [hlv];omega) h.nO (by show w.t.lv[k]=_;simp only [hlv];rw [nM]) (by rw [fE];exact hcp) (by rw [fE];omega) (by have:=jD (qW l (k+1) p g) (cd l.length (k+1));omega) (fun n hn=>by have:=(mQ.1 hn).1;omega) (by show w.t.lv.length≤100;rw [hlv];omega)
 rw [fE] at k7
 have k8:=ah0 (w:=vk sz lf l w (k+1) p g) (by
  unfold vk
  rw [if_neg (by omega),if_neg h0]
  show (pN (cd l.length (k+1 - 1)) _).length≤4096
  rw [Nat.add_sub_cancel,ah3]
  have:=xC (fun i=>qW l (k+1) p g (i / 2)) (cd l.length k)
  omega)
 have hbl:(xP g (fU w.pend)).length=8*(dZ p (cd l.length (k+1))).length:=by rw [rF,hn,Z3]
 have W8:IntKind.i64.wrap (8*((dZ p (cd l.length (k+1))).length:Int))=((8*(dZ p (cd l.length (k+1))).length:Nat):Int):=by rw [aI (by omega)];omega
 have N0:(((8*(dZ p (cd l.length (k+1))).length:Nat):Int) != ((8*(dZ p (cd l.length (k+1))).length:Nat):Int))=false:=by simp
 have N1:(w.nO != w.nO)=false:=by simp
 have E14:((14:Int) != 14)=false:=rfl
 have Z:((0:Int) != 0)=false:=rfl
 have hfin:=h.fin
 have jC:=h.nO
 have Z0:(((k+1:Nat):Int)==0)=false:=by simp;omega
 have Z1:(((0:Nat):Int)==0)=true:=rfl
 have em:Am (MP w g)=.agg [.int .i64 14,.int .i64 0,.int .i64 0,.int .i64 w.nO,.int .i64 0,.int .i64 0,.list 1 ((vals w).map eI),.list 1 ((xP g (fU w.pend)).map jG)]:=rfl
 have er:Am (uZ w)=.agg [.int .i64 13,.int .i64 0,.int .i64 0,.int .i64 w.nO,.int .i64 0,.int .i64 0,.list 1 ((vals w).map eI),.list 1 []]:=rfl
 have ex:vk sz lf l w (k+1) p g={ w with sent:=w.sent+((dZ p (cd l.length (k+1))).length:Int),nO:=(k:Int),pend:=pN (cd l.length k) (dZ (qW l (k+1) p g) (cd l.length (k+1))) }:=by unfold vk;rw [if_neg (by omega),if_neg h0];rfl
 have hNl:(dZ (qW l (k+1) p g) (cd l.length (k+1))).length≠0:=fun e=>h0 (Zah e)
 rw [ex] at k8
 rw [ex]
 unfold w1 at k6 k7
 generalize dZ (qW l (k+1) p g) (cd l.length (k+1))=N at *
 have Z2:((N.length:Int)==0)=false:=by simp;intro e;exact hNl (by rw [e];rfl)
 have er8:Am (uZ { w with sent:=w.sent+((dZ p (cd l.length (k+1))).length:Int),nO:=(k:Int),pend:=pN (cd l.length k) N })=.agg [.int .i64 13,.int .i64 0,.int .i64 0,.int .i64 (k:Int),.int .i64 0,.int .i64 0,.list 1 ((vals { w with sent:=w.sent+((dZ p (cd l.length (k+1))).length:Int),nO:=(k:Int),pend:=pN (cd l.length k) N }).map eI),.list 1 []]:=rfl
 rw [er8] at k8 ⊢
 generalize (vals { w with sent:=w.sent+((dZ p (cd l.length (k+1))).length:Int),nO:=(k:Int),pend:=pN (cd l.length k) N }).map eI=V8 at *
 have sc8:(PV.agg [.int .i64 13,.int .i64 0,.int .i64 0,.int .i64 (k:Int),.int .i64 0,.int .i64 0,.list 1 V8,.list 1 []]).scalar=false:=rfl
 rw [em]
 rw [er] at k3
 rw [rW] at k1 ⊢
 rw [rW]
 rw [Dw] at k2
 rw [jI] at k3 k6 k7
 rw [jI] at k6 k7
 rw [jI] at k8
 rw [hfin] at k8
 rw [hfin] at k1 k3 k6 k7 ⊢
 rw [jC] at k1 k3 k6 ⊢
 try rw [jC] at k7
 rw [aA adp rfl];simp only [UO,aW,Nat.reduceBEq,Nat.reduceLeDiff,Nat.reduceAdd,zd,zj]
 simp only [k1,k2,k3,k4,k5,k6,k7,P3,P8,hbl,W8,N0,N1,E14,Z,Z0,Z2,k8,sc8,jC,Z3,aC,Nat.reduceMul,Nat.reduceBEq,Nat.reduceLT,Nat.reduceLeDiff,reduceCtorEq,Nat.reduceEqDiff,Nat.reduceAdd,Z6]
def bS (d n:Nat):Nat→Nat
 |0=>1
 |i+1=>bS d n i+min (cd n i) (2*min d (cd n (i+1)))
theorem ah4 (d n:Nat)(hn:n≤4096)(h1:1≤n):∀ i,bS d n i≤1+4096*i
 |0=>ze _
 |i+1=>by
  have:=ah4 d n hn h1 i
  have:=zV n i h1
  show bS d n i+min (cd n i) _≤_
  omega
theorem mnN (a b:Nat):(if (b:Int)<(a:Int) then (b:Int) else (a:Int))=((min a b:Nat):Int):=by split<;>omega
set_option maxRecDepth 20000 in
theorem akW {d n:Nat}(h1:1≤n∧n≤4096)(hd:d≤4096){st:St}(h:st.head [2,8,9] st.boxes.length=some ⟨sl 51 [(2,.pv (.int .i64 (d:Int))),(8,.pv (.int .i64 (cd n ((0:Nat)):Int))),(9,.pv (.int .i64 (bS d n ((0:Nat)):Int)))],[],[],none⟩) :
  den env LX st=some (.normal,⟨sl 51 [(6,.any),(7,.any),(9,.pv (.int .i64 (bS d n (gZ n):Int)))],[],[],none⟩):=by
 unfold LX
 refine aY (env:=env) (nb:=0) (gZ n) (fun i=>⟨sl 51 [(2,.pv (.int .i64 (d:Int))),(8,.pv (.int .i64 (cd n (i):Int))),(9,.pv (.int .i64 (bS d n (i):Int)))],[],[],none⟩) (fun i=>some (.normal,⟨sl 51 [(6,.any),(7,.any),(9,.pv (.int .i64 (bS d n (gZ n):Int)))],[],[],none⟩)) h (fun _=>rfl) (fun _=>by simp only [aW,bI,Nat.reduceMul,Nat.reduceBEq,Nat.reduceLT,Nat.reduceLeDiff,Nat.reduceAdd,decide_true,zP,zz]) ?_ ?_
 ·intro i rb hi ih
  obtain ⟨d1,d2,d3⟩:=jk h1.1 h1.2
  have hc:=d2 i hi
  have hcl:=zV n i h1.1
  have hb:=ah4 d n h1.2 h1.1 i
  have F1:((cd n i:Int) > 1)=True:=eq_true (by omega)
  have W1:IntKind.i64.wrap ((cd n i:Int)+1)=((cd n i+1:Nat):Int):=by rw [aI (by omega)];omega
  have T1:((cd n i+1:Nat):Int).tdiv 2=(cd n (i+1):Int):=by rw [Zbg (by omega)];show _=(((cd n i+1) / 2:Nat):Int);omega
  have z2:((2:Int)=0)=False:=eq_false (by decide)
  have arl:=zV n (i+1) h1.1
  have W2:IntKind.i64.wrap (cd n (i+1):Int)=(cd n (i+1):Int):=aI (by omega)
  have M1:=mnN d (cd n (i+1))
  have W3:IntKind.i64.wrap (2*((min d (cd n (i+1)):Nat):Int))=((2*min d (cd n (i+1)):Nat):Int):=by rw [aI (by omega)];omega
  have M2:=mnN (cd n i) (2*min d (cd n (i+1)))
  have eb:bS d n (i+1)=bS d n i+min (cd n i) (2*min d (cd n (i+1))):=rfl
  have W4:IntKind.i64.wrap ((bS d n i:Int)+((min (cd n i) (2*min d (cd n (i+1))):Nat):Int))=(bS d n (i+1):Int):=by rw [aI (by omega),eb];omega
  simp only [LW,F1,W1,T1,z2,W2,M1,W3,M2,W4,aC,Nat.reduceMul,Nat.reduceBEq,Nat.reduceLT,Nat.reduceLeDiff,reduceCtorEq,Nat.reduceEqDiff,Nat.reduceAdd,Z6]
  rw [ih _ (by simp only [aC,Nat.reduceMul,Nat.reduceBEq,Nat.reduceLT,Nat.reduceLeDiff,reduceCtorEq,Nat.reduceEqDiff,Nat.reduceAdd,Z6]<;>rfl)]
 ·intro rb
  obtain ⟨d1,d2,d3⟩:=jk h1.1 h1.2
  have F1:((cd n (gZ n):Int) > 1)=False:=eq_false (by rw [d1];decide)
  simp only [LW,F1,aC,Nat.reduceMul,Nat.reduceBEq,Nat.reduceLT,Nat.reduceLeDiff,reduceCtorEq,Nat.reduceEqDiff,Nat.reduceAdd,Z6]
set_option maxRecDepth 20000 in
theorem am3 {sz lf:Int}{n d:Nat}(h1:1≤sz∧sz≤4096)(h2:1≤lf∧lf≤4096)(hn:(n:Int)=QM sz lf)(hn1:1≤n∧n≤4096)(hd:d≤n):cal env 42 [.int .i64 sz,.int .i64 lf,.int .i64 (d:Int)]=some [(.int .i64 (bS d n (gZ n):Int),false),(.int .i64 0,false)]:=by
 have F1:(sz<1)=False:=eq_false (by omega)
 have F2:(sz > 4096)=False:=eq_false (by omega)
 have F3:(lf<1)=False:=eq_false (by omega)
 have F4:(lf > 4096)=False:=eq_false (by omega)
 have W1:IntKind.i64.wrap (sz+lf)=sz+lf:=aI (by omega)
 have W2:IntKind.i64.wrap (sz+lf - 1)=sz+lf - 1:=aI (by omega)
 have Z:(lf=0)=False:=eq_false (by omega)
 have T:(sz+lf - 1).tdiv lf=(n:Int):=by rw [hn];unfold QM;rw [Zbg (by omega)]
 have W3:IntKind.i64.wrap (n:Int)=(n:Int):=aI (by omega)
 have F5:((d:Int)<0)=False:=eq_false (by omega)
 have F6:((d:Int) > (n:Int))=False:=eq_false (by omega)
 have e0:cd n 0=n:=rfl
 have e1:bS d n 0=1:=rfl
 rw [aA amF rfl];simp only [abY,aW,Nat.reduceBEq,Nat.reduceLeDiff,Nat.reduceAdd,zd,zj]
 simp only [F1,F2,F3,F4,F5,F6,W1,W2,W3,Z,T,aC,Nat.reduceMul,Nat.reduceBEq,Nat.reduceLT,Nat.reduceLeDiff,reduceCtorEq,Nat.reduceEqDiff,Nat.reduceAdd,Z6]
 rw [akW (d:=d) (n:=n) hn1 (by omega) (by rw [e0,e1];simp only [aW,bI,Nat.reduceMul,Nat.reduceBEq,Nat.reduceLT,Nat.reduceLeDiff,Nat.reduceAdd,decide_true,zP,zz]<;>rfl)]
 simp only [F1,F2,F3,F4,F5,F6,W1,W2,W3,Z,T,aC,Nat.reduceMul,Nat.reduceBEq,Nat.reduceLT,Nat.reduceLeDiff,reduceCtorEq,Nat.reduceEqDiff,Nat.reduceAdd,Z6]
def rxA (out:List bP)(e:bP):List bP:=match out.getLast? with
 |some x=>if x.start+x.count=e.start then out.dropLast++[⟨x.start,x.count+e.count⟩] else out++[e]
 |none=>[e]
theorem wE (pre:List bP)(x e:bP):rxA (pre++[x]) e=if x.start+x.count=e.start then pre++[⟨x.start,x.count+e.count⟩] else pre++[x]++[e]:=by simp [rxA]
theorem aep (E:List bP)(a:Nat):jr E a=rxA E ⟨(a:Int),1⟩:=rfl
theorem Zq (E:List bP)(a c:Nat)(hc:1≤c):jr (rxA E ⟨(a:Int),(c:Int)⟩) (a+c)=rxA E ⟨(a:Int),((c+1:Nat):Int)⟩:=by
 rcases fD E with rfl|⟨pre,x,rfl⟩
 ·show jr ([]++[⟨(a:Int),(c:Int)⟩]) (a+c)=[⟨(a:Int),((c+1:Nat):Int)⟩]
  rw [fC,if_pos (by simp only;omega)]
  simp
 ·rw [wE,wE]
  by_cases h:x.start+x.count=(a:Int)
  ·rw [if_pos h,if_pos h,fC,if_pos (by simp only;omega)]
   simp only [List.append_cancel_left_eq,List.cons.injEq,and_true,bP.mk.injEq,true_and]
   omega
  ·rw [if_neg h,if_neg h,fC,if_pos (by simp only;omega)]
   simp
theorem WJ (p:Nat→Bool)(a:Nat):∀ c,1≤c→(∀ s,a≤s→s<a+c→p s=true)→ext p (a+c)=rxA (ext p a) ⟨(a:Int),(c:Int)⟩
 |0,h,_=>absurd h (by decide)
 |c+1,_,h=>by
  rw [show a+(c+1)=a+c+1 by omega,iI,h (a+c) (by omega) (by omega),if_pos rfl]
  rcases Nat.eq_zero_or_pos c with rfl|hc
  ·exact aep _ _
  ·rw [WJ p a c hc fun s h1 h2=>h s h1 (by omega)]
   exact Zq _ _ _ hc
theorem Rf (p:Nat→Bool)(a:Nat):∀ c,(∀ s,a≤s→s<a+c→p s=false)→ext p (a+c)=ext p a
 |0,_=>rfl
 |c+1,h=>by
  rw [show a+(c+1)=a+c+1 by omega,iI,h (a+c) (by omega) (by omega),if_neg (by decide)]
  exact Rf p a c fun s h1 h2=>h s h1 (by omega)
def rxE (sz lf:Int)(n:Nat):bP:=⟨(n:Int)*lf,(if (n:Int)*lf+lf<sz then (n:Int)*lf+lf else sz) - (n:Int)*lf⟩
def IK (sz lf:Int)(l:List Nat):List bP:=l.foldl (fun o n=>rxA o (rxE sz lf n)) []
theorem Hq (sz lf:Int)(l:List Nat)(n:Nat):IK sz lf (l++[n])=rxA (IK sz lf l) (rxE sz lf n):=by simp [IK]
theorem aer {sz lf:Nat}(hl:1≤lf)(q:Nat→Bool):∀ j,(∀ i,i<j→i*lf<sz)→IK (sz:Int) (lf:Int) (dZ q j)=ext (fun s=>q (s / lf)) (min sz (j*lf))
 |0,_=>by rw [Nat.zero_mul,Nat.min_zero];rfl
 |j+1,h=>by
  have ih:=aer hl q j fun i hi=>h i (by omega)
  have hj:=h j (by omega)
  have e0:min sz (j*lf)=j*lf:=by omega
  rw [e0] at ih
  obtain ⟨c,hc⟩:∃ c,min sz ((j+1)*lf)=j*lf+c:=⟨min sz ((j+1)*lf) - j*lf,by rw [Nat.add_mul];omega⟩
  have hs:(j+1)*lf=j*lf+lf:=by rw [Nat.add_mul,Nat.one_mul]
  have hc1:1≤c:=by rw [hs] at hc;omega
  have hdiv:∀ s,j*lf≤s→s<j*lf+c→s / lf=j:=fun s h1 h2=>by
   rw [Nat.div_eq_of_lt_le h1 (by rw [hs];rw [hs] at hc;omega)]
  rw [Ad,hc]
  cases hq:q j with
  |false =>
   rw [if_neg (by decide),ih]
   exact (Rf _ _ _ fun s h1 h2=>by show q (s / lf)=false;rw [hdiv s h1 h2];exact hq).symm
  |true =>
   rw [if_pos rfl,Hq,ih,WJ _ _ c hc1 fun s h1 h2=>by show q (s / lf)=true;rw [hdiv s h1 h2];exact hq]
   congr 1
   unfold rxE
   rw [hs] at hc
   have e1:(j:Int)*(lf:Int)=((j*lf:Nat):Int):=by rw [Int.natCast_mul]
   rw [e1]
   congr 1
   split<;>omega
def akX (sz:Int)(l:List bP):Prop:=∀ x∈l,0≤x.start∧0≤x.count∧x.start+x.count≤sz
theorem akY {sz:Int}{l:List bP}{e:bP}(h:akX sz l)(he:0≤e.start∧0≤e.count∧e.start+e.count≤sz):akX sz (rxA l e):=by
 rcases fD l with rfl|⟨pre,x,rfl⟩
 ·intro y hy
  have:y∈[e]:=hy
  rw [Zaq.1 this];exact he
 ·rw [wE]
  have hx:=h x (by simp)
  split
  ·intro y hy
   rcases ZaE.1 hy with hy|hy
   ·exact h y (by simp [hy])
   ·rw [Zaq.1 hy];simp only;omega
  ·intro y hy
   rcases ZaE.1 hy with hy|hy
   ·exact h y hy
   ·rw [Zaq.1 hy];exact he
theorem ahw (l:List bP)(e:bP):(rxA l e).length≤l.length+1:=by
 rcases fD l with rfl|⟨pre,x,rfl⟩
 ·exact ze _
 ·rw [wE];split<;>simp
theorem aes {sz lf:Int}{n:Nat}(hz:1≤sz∧sz≤4096)(hf:1≤lf∧lf≤4096)(hn:(n:Int)*lf<sz):0≤(rxE sz lf n).start∧0≤(rxE sz lf n).count∧(rxE sz lf n).start+(rxE sz lf n).count≤sz:=by
 have b0:0≤(n:Int)*lf:=Zct (by omega) (by omega)
 unfold rxE
 simp only
 split<;>omega
theorem akZ {sz lf:Int}(hz:1≤sz∧sz≤4096)(hf:1≤lf∧lf≤4096):∀ (k:Nat) (l:List Nat),l.length=k→(∀ n∈l,(n:Int)*lf<sz)→akX sz (IK sz lf l)∧(IK sz lf l).length≤k:=by
 intro k
 induction k with
 |zero=>intro l h _;rw [Zah h];exact ⟨fun x hx=>(by cases hx),ze _⟩
 |succ k ih =>
  intro l h hn
  rcases fD l with rfl|⟨p,x,rfl⟩
  ·simp at h
  ·rw [Hq]
   obtain ⟨a1,a2⟩:=ih p (by simpa using h) fun n hm=>hn n (by simp [hm])
   exact ⟨akY a1 (aes hz hf (hn x (by simp))),by have:=ahw (IK sz lf p) (rxE sz lf x);omega⟩
set_option maxRecDepth 20000 in
theorem ahx {sz lf:Int}{ns:List Nat}(hz:1≤sz∧sz≤4096)(hf:1≤lf∧lf≤4096)(hnl:ns.length≤4096)(hns:∀ n∈ns,(n:Int)*lf<sz){st:St}(h:st.head [0,1,2,7,8,77] st.boxes.length=some ⟨sl 79 [(0,.pv (.int .i64 sz)),(1,.pv (.int .i64 lf)),(2,.pv (.list 1 (ns.map fun (i:Nat)=>eI (i:Int)))),(7,.row 2 ((IK sz lf (ns.take ((0:Nat)))).map aZ)),(8,.pv (.int .i64 (0:Nat))),(77,.any)],[],[],none⟩) :
  den env Fa st=some (.normal,⟨sl 79 [(6,.any),(7,.row 2 ((IK sz lf ns).map aZ))],[],[],none⟩):=by
 unfold Fa
 refine aY (env:=env) (nb:=0) (ns.length) (fun i=>⟨sl 79 [(0,.pv (.int .i64 sz)),(1,.pv (.int .i64 lf)),(2,.pv (.list 1 (ns.map fun (i:Nat)=>eI (i:Int)))),(7,.row 2 ((IK sz lf (ns.take (i))).map aZ)),(8,.pv (.int .i64 i)),(77,.any)],[],[],none⟩) (fun i=>some (.normal,⟨sl 79 [(6,.any),(7,.row 2 ((IK sz lf ns).map aZ))],[],[],none⟩)) h (fun _=>rfl) (fun _=>by simp only [aW,bI,Nat.reduceMul,Nat.reduceBEq,Nat.reduceLT,Nat.reduceLeDiff,Nat.reduceAdd,decide_true,zP,zz]) ?_ ?_
 ·intro i rb hi ih
  have hi1:=bC hi (by unfold lim;omega)
  have F1:((i:Int)<(ns.length:Int))=True:=eq_true (by omega)
  have hx:(ns.map fun (i:Nat)=>eI (i:Int))[i]?=some (.int .i64 (ns[i]:Int)):=by rw [zc,List.getElem?_eq_getElem hi];rfl
  have hn:=hns _ (List.getElem_mem hi)
  obtain ⟨o1,o2⟩:=akZ hz hf i (ns.take i) (by rw [List.length_take];omega) fun n hm=>hns n (List.mem_of_mem_take hm)
  rw [take_snoc hi,Hq] at ih
  obtain ⟨e1,e2,e3⟩:=aes hz hf hn
  have b0:0≤(ns[i]:Int)*lf:=Zct (by omega) (by omega)
  have W1:IntKind.i64.wrap ((ns[i]:Int)*lf)=(ns[i]:Int)*lf:=aI (by omega)
  have W2:IntKind.i64.wrap ((ns[i]:Int)*lf+lf)=(ns[i]:Int)*lf+lf:=aI (by omega)
  have ee:rxE sz lf ns[i]=⟨(ns[i]:Int)*lf,(if (ns[i]:Int)*lf+lf<sz then (ns[i]:Int)*lf+lf else sz) - (ns[i]:Int)*lf⟩:=rfl
  obtain ⟨c,hc⟩:∃ c,c=(if (ns[i]:Int)*lf+lf<sz then (ns[i]:Int)*lf+lf else sz) - (ns[i]:Int)*lf:=⟨_,rfl⟩
  rw [ee,← hc] at ih e1 e2 e3
  simp only at e1 e2 e3
  have W3:IntKind.i64.wrap ((if (ns[i]:Int)*lf+lf<sz then (ns[i]:Int)*lf+lf else sz) - (ns[i]:Int)*lf)=c:=by rw [← hc];exact aI (by omega)
  generalize hsm:(ns[i]:Int)*lf=s at *
  generalize IK sz lf (ns.take i)=O at *
  have P2:∀ a b:PV,part [a,b] 0 (some 2)=some (.agg [a,b]):=fun _ _=>rfl
  rcases fD O with rfl|⟨pre,x,rfl⟩
  ·have F2:(((0:Nat):Int) > 0)=False:=eq_false (by omega)
   have F0:(1≤lim)=True:=eq_true (by decide)
   have er:(rxA [] ⟨s,c⟩).map aZ=[.agg [.int .i64 s,.int .i64 c]]:=rfl
   rw [er] at ih
   simp only [vY,F0,F1,F2,hsm,W1,W2,W3,P2,hx,au hi,Zar,Z3,zj,aC,Nat.reduceMul,Nat.reduceBEq,Nat.reduceLT,Nat.reduceLeDiff,reduceCtorEq,Nat.reduceEqDiff,Nat.reduceAdd,Z6]
   rw [ih _ (by simp only [hi1,aC,Nat.reduceMul,Nat.reduceBEq,Nat.reduceLT,Nat.reduceLeDiff,reduceCtorEq,Nat.reduceEqDiff,Nat.reduceAdd,Z6]<;>rfl)]
  ·have hlen:(pre++[x]).length=pre.length+1:=by simp
   rw [hlen] at o2
   have hxo:=o1 x (by simp)
   have F2:(((pre.length+1:Nat):Int) > 0)=True:=eq_true (by omega)
   have V1:IntKind.i64.wrap (((pre.length+1:Nat):Int) - 1)=(pre.length:Int):=by rw [aI (by omega)];omega
   have hI:index (.int .i64 (pre.length:Int)) (pre.length+1)=some pre.length:=au (by omega)
   have hg:((pre++[x]).map aZ)[pre.length]?=some (.agg [.int .i64 x.start,.int .i64 x.count]):=by rw [zc,List.getElem?_append_right (ze _)];simp [aZ]
   have V2:IntKind.i64.wrap (x.start+x.count)=x.start+x.count:=aI (by omega)
   have F4:(pre.length+1+1≤lim)=True:=eq_true (by unfold lim;omega)
   rw [wE] at ih
   by_cases d:x.start+x.count=s
   ·rw [if_pos d] at ih
    have E1:(x.start+x.count==s)=true:=by simp [d]
    have V3:IntKind.i64.wrap (x.count+c)=x.count+c:=aI (by omega)
    have hs:((pre++[x]).map aZ).set pre.length (.agg [.int .i64 x.start,.int .i64 (x.count+c)])=(pre++[(⟨x.start,x.count+c⟩:bP)]).map aZ:=by
     rw [Zag,List.set_append_right _ _ (by simp)]
     simp [aZ]
    simp only [vY,F1,F2,hsm,W1,W2,W3,V1,V2,V3,P2,hI,hg,E1,hs,hlen,hx,au hi,Z3,aC,Nat.reduceMul,Nat.reduceBEq,Nat.reduceLT,Nat.reduceLeDiff,reduceCtorEq,Nat.reduceEqDiff,Nat.reduceAdd,Z6]
    rw [ih _ (by simp only [hi1,aC,Nat.reduceMul,Nat.reduceBEq,Nat.reduceLT,Nat.reduceLeDiff,reduceCtorEq,Nat.reduceEqDiff,Nat.reduceAdd,Z6]<;>rfl)]
   ·rw [if_neg d] at ih
    have E1:(x.start+x.count==s)=false:=by simp [d]
    have hs:(pre++[x]++[(⟨s,c⟩:bP)]).map aZ=(pre++[x]).map aZ++[.agg [.int .i64 s,.int .i64 c]]:=by rw [Zag];rfl
    have ht:((pre++[x]).map aZ).take (pre.length+1)=(pre++[x]).map aZ:=List.take_of_length_le (by rw [Z3,hlen];exact ze _)
    rw [hs] at ih
    simp only [vY,F1,F2,F4,hsm,W1,W2,W3,V1,V2,P2,hI,hg,E1,ht,hlen,hx,au hi,Z3,aC,Nat.reduceMul,Nat.reduceBEq,Nat.reduceLT,Nat.reduceLeDiff,reduceCtorEq,Nat.reduceEqDiff,Nat.reduceAdd,Z6]
    rw [ih _ (by simp only [hi1,aC,Nat.reduceMul,Nat.reduceBEq,Nat.reduceLT,Nat.reduceLeDiff,reduceCtorEq,Nat.reduceEqDiff,Nat.reduceAdd,Z6]<;>rfl)]
 ·intro rb
  rw [List.take_length]
  simp only [vY,Int.lt_irrefl,Z3,aC,Nat.reduceMul,Nat.reduceBEq,Nat.reduceLT,Nat.reduceLeDiff,reduceCtorEq,Nat.reduceEqDiff,Nat.reduceAdd,Z6]
set_option maxRecDepth 20000 in
theorem ak0 {sz lf:Int}{ns:List Nat}(hz:1≤sz∧sz≤4096)(hf:1≤lf∧lf≤4096)(hnl:ns.length≤4096)(hns:∀ n∈ns,(n:Int)*lf<sz):cal env 130 [.int .i64 sz,.int .i64 lf,.list 1 (ns.map fun (i:Nat)=>eI (i:Int))]=some [(.list 2 ((IK sz lf ns).map aZ),true)]:=by
 rw [aA aji rfl];simp only [Px,aW,Nat.reduceBEq,Nat.reduceLeDiff,Nat.reduceAdd,zd,zj]
 simp only [Z3,aC,Nat.reduceMul,Nat.reduceBEq,Nat.reduceLT,Nat.reduceLeDiff,reduceCtorEq,Nat.reduceEqDiff,Nat.reduceAdd,Z6]
 rw [ahx (sz:=sz) (lf:=lf) (ns:=ns) hz hf hnl hns (by simp only [aW,bI,Nat.reduceMul,Nat.reduceBEq,Nat.reduceLT,Nat.reduceLeDiff,Nat.reduceAdd,decide_true,zP,zz]<;>rfl)]
 simp only [Z3,aC,Nat.reduceMul,Nat.reduceBEq,Nat.reduceLT,Nat.reduceLeDiff,reduceCtorEq,Nat.reduceEqDiff,Nat.reduceAdd,Z6]
end Go.Proofs.YthccglceomoboaaGreatDoor.V
