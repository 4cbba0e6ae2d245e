/-
  Part 8 of the texts that the statement stands on.
-/
import Derived.Test.YthccglceomoboaaGreatDoorY7
set_option linter.all false
open List renaming getElem?_eq_getElem → ZZ, length_map → za, getElem?_map → zc, length_cons → zd, length_nil → zm, getD_eq_getElem?_getD → Zaf, getElem_of_mem → Za7
open Nat renaming beq → zb, le_refl → ze, lt_or_ge → ZaE, add_sub_cancel → ZbN
open Bool renaming and_self → zz, true_and → zE
open Int renaming lt_irrefl → ZaA
namespace Go.Proofs.YthccglceomoboaaGreatDoor.V
theorem Dt {p:Nat→Bool}{n:Nat}(hn:n≤4096):OZ (ext p n)=ext p n:=by
 unfold OZ setOf
 have e1:ext (fun s=>Ur (uS (ext p n) s) (uS [] s)) 4096=ext (fun s=>decide (s<n)&&p s) 4096:=uF fun s _=>by
  unfold Ur
  rw [H6,show uS [] s=false from rfl,Bool.or_false]
 rw [e1]
 have e2:ext (fun s=>decide (s<n)&&p s) 4096=ext (fun s=>decide (s<n)&&p s) n:=by
  have:∀ k,ext (fun s=>decide (s<n)&&p s) (n+k)=ext (fun s=>decide (s<n)&&p s) n:=by
   intro k
   induction k with
   |zero=>rfl
   |succ k ih=>rw [show n+(k+1)=n+k+1 by omega,iZ,decide_eq_false (by omega),Bool.false_and,if_neg (by decide),ih]
  rw [show 4096=n+(4096 - n) by omega,this]
 rw [e2]
 exact uF fun s hs=>by rw [decide_eq_true hs,zE]
theorem acO (g f:Int→Int)(p:Nat→Bool)(m:Nat):oth g f ((jE p m).map fun (i:Nat)=>(i:Int))=(jE (fun n=>p n&&decide (g (n:Int)≠f (n:Int))) m).map fun (i:Nat)=>(i:Int):=by
 unfold oth jE
 rw [List.filter_map,List.filter_filter]
 congr 1
 apply List.filter_congr
 intro x _
 simp [Bool.and_comm]
theorem ZR (q:Nat→Bool)(j:Nat):jE q (j+1)=if q j then jE q j++[j] else jE q j:=by
 unfold jE
 rw [List.range_succ,List.filter_append]
 cases hq:q j<;>simp [hq]
theorem ZT (q:Nat→Bool)(m:Nat):∀ j,pN m (jE q j)=ext (fun i=>q (i / 2)) (min m (2*j))
 |0=>by rw [Nat.mul_zero,Nat.min_zero];rfl
 |j+1=>by
  have ih:=ZT q m j
  have h1:(2*j) / 2=j:=by omega
  have h2:(2*j+1) / 2=j:=by omega
  have key:∀ n,n=2*j→n<m→ext (fun i=>q (i / 2)) (n+1)=if q j then jD (ext (fun i=>q (i / 2)) n) n else ext (fun i=>q (i / 2)) n:=fun n hn _=>by
   rw [iZ]
   subst hn
   simp only [h1]
  have key2:∀ n,n=2*j+1→ext (fun i=>q (i / 2)) (n+1)=if q j then jD (ext (fun i=>q (i / 2)) n) n else ext (fun i=>q (i / 2)) n:=fun n hn=>by
   rw [iZ]
   subst hn
   simp only [h2]
  rw [ZR]
  rcases ZaE (2*j) m with c|c
  ·have e0:min m (2*j)=2*j:=by omega
   rw [e0] at ih
   have k1:=key (2*j) rfl c
   rcases ZaE (2*j+1) m with d|d
   ·have e1:min m (2*(j+1))=2*j+1+1:=by omega
    rw [e1,key2 (2*j+1) rfl,k1]
    cases hq:q j with
    |false=>rw [if_neg (by decide),if_neg (by decide),if_neg (by decide)];exact ih
    |true =>
     rw [if_pos rfl,if_pos rfl,if_pos rfl,uJ,ih]
     unfold Qr Fh
     rw [if_pos c,if_pos d]
   ·have e1:min m (2*(j+1))=2*j+1:=by omega
    rw [e1,k1]
    cases hq:q j with
    |false=>rw [if_neg (by decide),if_neg (by decide)];exact ih
    |true =>
     rw [if_pos rfl,if_pos rfl,uJ,ih]
     unfold Qr Fh
     rw [if_pos c,if_neg (by omega)]
  ·have e0:min m (2*j)=m:=by omega
   have e1:min m (2*(j+1))=m:=by omega
   rw [e0] at ih
   rw [e1]
   cases hq:q j with
   |false=>rw [if_neg (by decide)];exact ih
   |true =>
    rw [if_pos rfl,uJ,ih]
    unfold Qr Fh
    rw [if_neg (by omega),if_neg (by omega)]
theorem adg (q:Nat→Bool)(n k:Nat):pN (cd n k) (jE q (cd n (k+1)))=ext (fun i=>q (i / 2)) (cd n k):=by
 rw [ZT]
 congr 1
 show min (cd n k) (2*((cd n k+1) / 2))=_
 omega
def qW (l:List Int)(k:Nat)(p:Nat→Bool)(g:Int→Int)(n:Nat):Bool:=p n&&decide (g (n:Int)≠(rP l k).getD n 0)
structure okG (g:Int→Int):Prop where
 u:∀ n,KX (g n)
theorem zV {sz lf:Int}{l:List Int}{w:lG}{k:Nat}{p:Nat→Bool}(h:okW sz lf l w k p):dV w.pend=(jE p (cd l.length k)).map fun (i:Nat)=>(i:Int):=by rw [h.pend];exact xP p _
def w1 (w:lG)(s:Nat):lG:={ w with sent:=w.sent+(s:Int) }
def tK (sz lf:Int)(l:List Int)(w:lG)(k:Nat)(p:Nat→Bool)(g:Int→Int):lG :=
 if k=0 then { w with sent:=w.sent+((jE p (cd l.length k)).length:Int),jY:=0,pend:=[],found:=OZ (jZ sz lf (jE (qW l k p g) (cd l.length k))),fin:=true }
 else if jE (qW l k p g) (cd l.length k)=[] then { w with sent:=w.sent+((jE p (cd l.length k)).length:Int),jY:=0,pend:=[],fin:=true }
 else { w with sent:=w.sent+((jE p (cd l.length k)).length:Int),jY:=((k - 1:Nat):Int),pend:=pN (cd l.length (k - 1)) (jE (qW l k p g) (cd l.length k)) }
def Qy (w:lG):List PV:=if w.fin then [] else [nX (nR w)]
set_option maxRecDepth 20000 in
theorem H8 {sz lf:Int}{l:List Int}{w:lG}{k:Nat}{p:Nat→Bool}{g:Int→Int}(h:okW sz lf l w k p)(hg:okG g):AY env 101 (.box (wP w)) [.list 1 ((uO g (dV w.pend)).map oN)]=some ([(.list 1 ((jE (qW l k p g) (cd l.length k)).map fun (i:Nat)=>eI (i:Int)),true)],some (wP (w1 w (jE p (cd l.length k)).length))):=by
 obtain ⟨hk,hL⟩:=h.lvl
 obtain ⟨c1,c2⟩:=h.cdl
 obtain ⟨p1,p2,p3,p4,p5⟩:=h.pl
 have hn:=zV h
 have hLn:(rP l k).length=cd l.length k:=lC l k
 have hfl:=pX p (cd l.length k)
 have:=afd (w:=w) (k:=k) (g:=g) (L:=rP l k) hk h.jY hL (OV h.T.u k) hg.u (by omega) (by omega) (fun x hx=>by have:=p5 x hx;omega) (fun n hm=>by
  rw [hn] at hm
  obtain ⟨i,hi,rfl⟩:=List.mem_map.1 hm
  have:=(uM.1 hi).1
  omega) (by rw [hn,za];omega) (by have:=h.sent;omega)
 rw [this,hn,za,acO,List.map_map]
 have e:(jE (fun n=>p n&&decide (g (n:Int)≠(fun n=>(rP l k).getD n.toNat 0) (n:Int))) (cd l.length k))=jE (qW l k p g) (cd l.length k):=rfl
 rw [e]
 rfl
set_option maxRecDepth 20000 in
theorem afv {sz lf:Int}{l:List Int}{w:lG}{p:Nat→Bool}{g:Int→Int}(h:okW sz lf l w 0 p)(hg:okG g):cal env 30 [L9 w,nX (tJ w g)]=some [(L9 (tK sz lf l w 0 p g),false),(.list 8 [],true),(.int .i64 0,false)]:=by
 obtain ⟨hk,hL⟩:=h.lvl
 obtain ⟨h1,h2⟩:=h.T.len
 obtain ⟨d1,d2,d3⟩:=lD h1 h2
 obtain ⟨c1,c2⟩:=h.cdl
 obtain ⟨p1,p2,p3,p4,p5⟩:=h.pl
 have hll:=iG l
 have hn:=zV h
 have hfl:=pX p (cd l.length 0)
 have hlv:w.t.lv=kT l:=by rw [h.t];rfl
 have hsz:w.t.sz=sz:=by rw [h.t];rfl
 have hlf:w.t.lf=lf:=by rw [h.t];rfl
 have k1:=Qx h
 have k2:=Ld (t:=w.t) (by rw [hlv];omega) (fun x hx=>by
  rw [hlv] at hx
  obtain ⟨i,hi,rfl⟩:=Za7 hx
  rw [lV];exact vT h1 h2 i)
 have k3:=Hr (w:=w) p1
 have k4:=Y1 (l:=vals w) (m:=vals w) (by unfold vals;rw [zd,zd,mg];unfold lim;omega)
 rw [decide_eq_true rfl] at k4
 have k5:=O1 p3 (by omega)
 have hcnt:ni (OZ w.pend)=((jE p (cd l.length 0)).length:Int):=by rw [h.pend,Dt c2,zU];rfl
 rw [hcnt] at k5
 have k6:=H8 h hg
 have k7:=afq (w:=w1 w (jE p (cd l.length 0)).length) (ns:=jE (qW l 0 p g) (cd l.length 0)) (by unfold w1;simp only;rw [hsz];exact h.T.s) (by unfold w1;simp only;rw [hlf];exact h.T.f) (by have:=pX (qW l 0 p g) (cd l.length 0);omega) (fun n hn=>by have:=(uM.1 hn).1;omega)
 have hbl:(uO g (dV w.pend)).length=8*(jE p (cd l.length 0)).length:=by rw [pV,hn,za]
 have W8:IntKind.i64.wrap (8*((jE p (cd l.length 0)).length:Int))=((8*(jE p (cd l.length 0)).length:Nat):Int):=by rw [aQ (by omega)];omega
 have N0:(((8*(jE p (cd l.length 0)).length:Nat):Int) != ((8*(jE p (cd l.length 0)).length:Nat):Int))=false:=by simp
 have N1:(w.jY != w.jY)=false:=by simp
 have E14:((14:Int) != 14)=false:=rfl
 have Z:((0:Int) != 0)=false:=rfl
 have hfin:=h.fin
 have iV:=h.jY
 have Z0:(((0:Nat):Int)==0)=true:=rfl
 have em:nX (tJ w g)=.agg [.int .i64 14,.int .i64 0,.int .i64 0,.int .i64 w.jY,.int .i64 0,.int .i64 0,.list 1 ((vals w).map eI),.list 1 ((uO g (dV w.pend)).map oN)]:=rfl
 have er:nX (nR w)=.agg [.int .i64 13,.int .i64 0,.int .i64 0,.int .i64 w.jY,.int .i64 0,.int .i64 0,.list 1 ((vals w).map eI),.list 1 []]:=rfl
 have ex:tK sz lf l w 0 p g={ w with sent:=w.sent+((jE p (cd l.length 0)).length:Int),jY:=0,pend:=[],found:=OZ (jZ sz lf (jE (qW l 0 p g) (cd l.length 0))),fin:=true }:=by unfold tK;rw [if_pos rfl]
 rw [ex]
 unfold w1 at k6 k7
 simp only [hsz,hlf] at k7
 generalize jE (qW l 0 p g) (cd l.length 0)=N at *
 rw [em]
 rw [er] at k3
 rw [jM] at k1 ⊢
 rw [jM]
 rw [xH] at k2
 rw [iP] at k3 k6 k7
 rw [iP] at k6 k7
 rw [hfin] at k1 k3 k6 k7 ⊢
 rw [iV] at k1 k3 k6 ⊢
 try rw [iV] at k7
 rw [aG Qc rfl];simp only [JM,aN,Nat.reduceBEq,Nat.reduceLeDiff,Nat.reduceAdd,zd,zm]
 simp only [k1,k2,k3,k4,k5,k6,k7,P3,P8,hbl,W8,N0,N1,E14,Z,Z0,iV,za,aC,Nat.reduceMul,Nat.reduceBEq,Nat.reduceLT,Nat.reduceLeDiff,reduceCtorEq,Nat.reduceEqDiff,Nat.reduceAdd,zb]
set_option maxRecDepth 20000 in
theorem afx {sz lf:Int}{l:List Int}{w:lG}{k:Nat}{p:Nat→Bool}{g:Int→Int}(h:okW sz lf l w (k+1) p)(hg:okG g)(h0:jE (qW l (k+1) p g) (cd l.length (k+1))=[]):cal env 30 [L9 w,nX (tJ w g)]=some [(L9 (tK sz lf l w (k+1) p g),false),(.list 8 [],true),(.int .i64 0,false)]:=by
 obtain ⟨hk,hL⟩:=h.lvl
 obtain ⟨h1,h2⟩:=h.T.len
 obtain ⟨d1,d2,d3⟩:=lD h1 h2
 obtain ⟨c1,c2⟩:=h.cdl
 obtain ⟨p1,p2,p3,p4,p5⟩:=h.pl
 have hll:=iG l
 have hn:=zV h
 have hfl:=pX p (cd l.length (k+1))
 have hlv:w.t.lv=kT l:=by rw [h.t];rfl
 have hsz:w.t.sz=sz:=by rw [h.t];rfl
 have hlf:w.t.lf=lf:=by rw [h.t];rfl
 have k1:=Qx h
 have k2:=Ld (t:=w.t) (by rw [hlv];omega) (fun x hx=>by
  rw [hlv] at hx
  obtain ⟨i,hi,rfl⟩:=Za7 hx
  rw [lV];exact vT h1 h2 i)
 have k3:=Hr (w:=w) p1
 have k4:=Y1 (l:=vals w) (m:=vals w) (by unfold vals;rw [zd,zd,mg];unfold lim;omega)
 rw [decide_eq_true rfl] at k4
 have k5:=O1 p3 (by omega)
 have hcnt:ni (OZ w.pend)=((jE p (cd l.length (k+1))).length:Int):=by rw [h.pend,Dt c2,zU];rfl
 rw [hcnt] at k5
 have k6:=H8 h hg
 have k7:=Zy (w:=w1 w (jE p (cd l.length (k+1))).length)
 have hbl:(uO g (dV w.pend)).length=8*(jE p (cd l.length (k+1))).length:=by rw [pV,hn,za]
 have W8:IntKind.i64.wrap (8*((jE p (cd l.length (k+1))).length:Int))=((8*(jE p (cd l.length (k+1))).length:Nat):Int):=by rw [aQ (by omega)];omega
 have N0:(((8*(jE p (cd l.length (k+1))).length:Nat):Int) != ((8*(jE p (cd l.length (k+1))).length:Nat):Int))=false:=by simp
 have N1:(w.jY != w.jY)=false:=by simp
 have E14:((14:Int) != 14)=false:=rfl
 have Z:((0:Int) != 0)=false:=rfl
 have hfin:=h.fin
 have iV:=h.jY
 have Z0:(((k+1:Nat):Int)==0)=false:=by simp;omega
 have Z1:(((0:Nat):Int)==0)=true:=rfl
 have em:nX (tJ w g)=.agg [.int .i64 14,.int .i64 0,.int .i64 0,.int .i64 w.jY,.int .i64 0,.int .i64 0,.list 1 ((vals w).map eI),.list 1 ((uO g (dV w.pend)).map oN)]:=rfl
 have er:nX (nR w)=.agg [.int .i64 13,.int .i64 0,.int .i64 0,.int .i64 w.jY,.int .i64 0,.int .i64 0,.list 1 ((vals w).map eI),.list 1 []]:=rfl
 have ex:tK sz lf l w (k+1) p g={ w with sent:=w.sent+((jE p (cd l.length (k+1))).length:Int),jY:=0,pend:=[],fin:=true }:=by unfold tK;rw [if_neg (by omega),if_pos h0]
 rw [ex]
 unfold w1 at k6 k7
 rw [h0,List.map_nil] at k6
 rw [em]
 rw [er] at k3
 rw [jM] at k1 ⊢
 rw [jM]
 rw [xH] at k2
 rw [iP] at k3 k6 k7
 rw [iP] at k6 k7
 rw [hfin] at k1 k3 k6 k7 ⊢
 rw [iV] at k1 k3 k6 ⊢
 try rw [iV] at k7
 rw [aG Qc rfl];simp only [JM,aN,Nat.reduceBEq,Nat.reduceLeDiff,Nat.reduceAdd,zd,zm]
 simp only [k1,k2,k3,k4,k5,k6,k7,P3,P8,hbl,W8,N0,N1,E14,Z,Z0,Z1,iV,za,aC,Nat.reduceMul,Nat.reduceBEq,Nat.reduceLT,Nat.reduceLeDiff,reduceCtorEq,Nat.reduceEqDiff,Nat.reduceAdd,zb]
set_option maxRecDepth 20000 in
theorem afy {sz lf:Int}{l:List Int}{w:lG}{k:Nat}{p:Nat→Bool}{g:Int→Int}(h:okW sz lf l w (k+1) p)(hg:okG g)(h0:jE (qW l (k+1) p g) (cd l.length (k+1))≠[]):cal env 30 [L9 w,nX (tJ w g)]=some [(L9 (tK sz lf l w (k+1) p g),false),(.list 8 [nX (nR (tK sz lf l w (k+1) p g))],true),(.int .i64 0,false)]:=by
 obtain ⟨hk,hL⟩:=h.lvl
 obtain ⟨h1,h2⟩:=h.T.len
 obtain ⟨d1,d2,d3⟩:=lD h1 h2
 obtain ⟨c1,c2⟩:=h.cdl
 obtain ⟨p1,p2,p3,p4,p5⟩:=h.pl
 have hll:=iG l
 have hn:=zV h
 have hfl:=pX p (cd l.length (k+1))
 have hlv:w.t.lv=kT l:=by rw [h.t];rfl
 have hsz:w.t.sz=sz:=by rw [h.t];rfl
 have hlf:w.t.lf=lf:=by rw [h.t];rfl
 have k1:=Qx h
 have k2:=Ld (t:=w.t) (by rw [hlv];omega) (fun x hx=>by
  rw [hlv] at hx
  obtain ⟨i,hi,rfl⟩:=Za7 hx
  rw [lV];exact vT h1 h2 i)
 have k3:=Hr (w:=w) p1
 have k4:=Y1 (l:=vals w) (m:=vals w) (by unfold vals;rw [zd,zd,mg];unfold lim;omega)
 rw [decide_eq_true rfl] at k4
 have k5:=O1 p3 (by omega)
 have hcnt:ni (OZ w.pend)=((jE p (cd l.length (k+1))).length:Int):=by rw [h.pend,Dt c2,zU];rfl
 rw [hcnt] at k5
 have k6:=H8 h hg
 have hkd:=h.kd
 have hcl:=KW l.length k h1
 have hcp:=C9 h1 k
 have k7:=aff (w:=w1 w (jE p (cd l.length (k+1))).length) (ns:=jE (qW l (k+1) p g) (cd l.length (k+1))) (L:=rP l k) (k:=k) (by show k<w.t.lv.length;rw [hlv];omega) h.jY (by show w.t.lv[k]=_;simp only [hlv];rw [lV]) (by rw [lC];exact hcp) (by rw [lC];omega) (by have:=pX (qW l (k+1) p g) (cd l.length (k+1));omega) (fun n hn=>by have:=(uM.1 hn).1;omega) (by show w.t.lv.length≤100;rw [hlv];omega)
 rw [lC] at k7
 have k8:=ac9 (w:=tK sz lf l w (k+1) p g) (by
  unfold tK
  rw [if_neg (by omega),if_neg h0]
  show (pN (cd l.length (k+1 - 1)) _).length≤4096
  rw [ZbN,adg]
  have:=xM (fun i=>qW l (k+1) p g (i / 2)) (cd l.length k)
  omega)
 have hbl:(uO g (dV w.pend)).length=8*(jE p (cd l.length (k+1))).length:=by rw [pV,hn,za]
 have W8:IntKind.i64.wrap (8*((jE p (cd l.length (k+1))).length:Int))=((8*(jE p (cd l.length (k+1))).length:Nat):Int):=by rw [aQ (by omega)];omega
 have N0:(((8*(jE p (cd l.length (k+1))).length:Nat):Int) != ((8*(jE p (cd l.length (k+1))).length:Nat):Int))=false:=by simp
 have N1:(w.jY != w.jY)=false:=by simp
 have E14:((14:Int) != 14)=false:=rfl
 have Z:((0:Int) != 0)=false:=rfl
 have hfin:=h.fin
 have iV:=h.jY
 have Z0:(((k+1:Nat):Int)==0)=false:=by simp;omega
 have Z1:(((0:Nat):Int)==0)=true:=rfl
 have em:nX (tJ w g)=.agg [.int .i64 14,.int .i64 0,.int .i64 0,.int .i64 w.jY,.int .i64 0,.int .i64 0,.list 1 ((vals w).map eI),.list 1 ((uO g (dV w.pend)).map oN)]:=rfl
 have er:nX (nR w)=.agg [.int .i64 13,.int .i64 0,.int .i64 0,.int .i64 w.jY,.int .i64 0,.int .i64 0,.list 1 ((vals w).map eI),.list 1 []]:=rfl
 have ex:tK sz lf l w (k+1) p g={ w with sent:=w.sent+((jE p (cd l.length (k+1))).length:Int),jY:=(k:Int),pend:=pN (cd l.length k) (jE (qW l (k+1) p g) (cd l.length (k+1))) }:=by unfold tK;rw [if_neg (by omega),if_neg h0];rfl
 have hNl:(jE (qW l (k+1) p g) (cd l.length (k+1))).length≠0:=fun e=>h0 (List.eq_nil_of_length_eq_zero e)
 rw [ex] at k8
 rw [ex]
 unfold w1 at k6 k7
 generalize jE (qW l (k+1) p g) (cd l.length (k+1))=N at *
 have Z2:((N.length:Int)==0)=false:=by simp;intro e;exact hNl (by rw [e];rfl)
 have er8:nX (nR { w with sent:=w.sent+((jE p (cd l.length (k+1))).length:Int),jY:=(k:Int),pend:=pN (cd l.length k) N })=.agg [.int .i64 13,.int .i64 0,.int .i64 0,.int .i64 (k:Int),.int .i64 0,.int .i64 0,.list 1 ((vals { w with sent:=w.sent+((jE p (cd l.length (k+1))).length:Int),jY:=(k:Int),pend:=pN (cd l.length k) N }).map eI),.list 1 []]:=rfl
 rw [er8] at k8 ⊢
 generalize (vals { w with sent:=w.sent+((jE p (cd l.length (k+1))).length:Int),jY:=(k:Int),pend:=pN (cd l.length k) N }).map eI=V8 at *
 have sc8:(PV.agg [.int .i64 13,.int .i64 0,.int .i64 0,.int .i64 (k:Int),.int .i64 0,.int .i64 0,.list 1 V8,.list 1 []]).scalar=false:=rfl
 rw [em]
 rw [er] at k3
 rw [jM] at k1 ⊢
 rw [jM]
 rw [xH] at k2
 rw [iP] at k3 k6 k7
 rw [iP] at k6 k7
 rw [iP] at k8
 rw [hfin] at k8
 rw [hfin] at k1 k3 k6 k7 ⊢
 rw [iV] at k1 k3 k6 ⊢
 try rw [iV] at k7
 rw [aG Qc rfl];simp only [JM,aN,Nat.reduceBEq,Nat.reduceLeDiff,Nat.reduceAdd,zd,zm]
 simp only [k1,k2,k3,k4,k5,k6,k7,P3,P8,hbl,W8,N0,N1,E14,Z,Z0,Z2,k8,sc8,iV,za,aC,Nat.reduceMul,Nat.reduceBEq,Nat.reduceLT,Nat.reduceLeDiff,reduceCtorEq,Nat.reduceEqDiff,Nat.reduceAdd,zb]
def zWk:PV:=.agg [.int .i64 0,.int .i64 0,.list 0 [],.list 0 [],.int .i64 0,.list 0 [],.int .i64 0,.bool false]
theorem ZU:zWk=.agg [.int .i64 0,.int .i64 0,.list 0 [],.list 0 [],.int .i64 0,.list 0 [],.int .i64 0,.bool false]:=rfl
set_option maxRecDepth 20000 in
theorem afz {sz lf:Int}{l:List Int}{w:lG}{k:Nat}{p:Nat→Bool}{m:Msg}(h:okW sz lf l w k p)(ajA:m.kind=14)(hne:m.num≠w.jY):cal env 30 [L9 w,nX m]=some [(zWk,false),(.list 8 [],true),(.int .i64 22,false)]:=by
 obtain ⟨h1,h2⟩:=h.T.len
 obtain ⟨d1,d2,d3⟩:=lD h1 h2
 obtain ⟨p1,p2,p3,p4,p5⟩:=h.pl
 have hll:=iG l
 have hlv:w.t.lv=kT l:=by rw [h.t];rfl
 have k1:=Qx h
 have k2:=Ld (t:=w.t) (by rw [hlv];omega) (fun x hx=>by
  rw [hlv] at hx
  obtain ⟨i,hi,rfl⟩:=Za7 hx
  rw [lV];exact vT h1 h2 i)
 have k3:=Hr (w:=w) p1
 have N1:(m.num != w.jY)=true:=by simp [hne]
 have E14:((14:Int) != 14)=false:=rfl
 have Z:((0:Int) != 0)=false:=rfl
 have hfin:=h.fin
 have er:nX (nR w)=.agg [.int .i64 13,.int .i64 0,.int .i64 0,.int .i64 w.jY,.int .i64 0,.int .i64 0,.list 1 ((vals w).map eI),.list 1 []]:=rfl
 rw [er] at k3
 rw [jM] at k1 ⊢
 rw [yL,ajA,ZU]
 rw [xH] at k2
 rw [iP] at k3
 rw [hfin] at k1 k3 ⊢
 rw [aG Qc rfl];simp only [JM,aN,Nat.reduceBEq,Nat.reduceLeDiff,Nat.reduceAdd,zd,zm]
 simp only [k1,k2,k3,P3,P8,N1,E14,Z,za,aC,Nat.reduceMul,Nat.reduceBEq,Nat.reduceLT,Nat.reduceLeDiff,reduceCtorEq,Nat.reduceEqDiff,Nat.reduceAdd,zb]
def Ig (sz lf:Int)(l:List Int):lG:=⟨Dj sz lf l,[⟨0,1⟩],(jo l.length:Int),[],0,false⟩
theorem ZV {sz lf:Int}{l:List Int}(h:L8 sz lf l):okW sz lf l (Ig sz lf l) (jo l.length) (fun _=>true):=by
 obtain ⟨h1,h2⟩:=h.len
 obtain ⟨d1,-,-⟩:=lD h1 h2
 refine ⟨rfl,h,ze _,rfl,?_,?_,rfl,⟨Int.le_refl _,by show (0:Int)≤8000;decide⟩,rfl⟩
 ·rw [d1];rfl
 ·rw [d1];decide
set_option maxRecDepth 20000 in
theorem adh {sz lf:Int}{l:List Int}(h:L8 sz lf l):cal env 28 [Di (Dj sz lf l)]=some [(L9 (Ig sz lf l),false),(.list 8 [nX (nR (Ig sz lf l))],true),(.int .i64 0,false)]:=by
 obtain ⟨h1,h2⟩:=h.len
 obtain ⟨d1,d2,d3⟩:=lD h1 h2
 have hll:=iG l
 have k1:=Qn h
 have k2:=Ld (t:=Dj sz lf l) (by show (kT l).length≤100;omega) (fun x hx=>by
  have hx:x∈kT l:=hx
  obtain ⟨i,hi,rfl⟩:=Za7 hx
  rw [lV];exact vT h1 h2 i)
 have k3:=ac9 (w:=Ig sz lf l) (by show 1≤4096;decide)
 have W1:IntKind.i64.wrap (((kT l).length:Int) - 1)=(jo l.length:Int):=by rw [aQ (by omega)];omega
 have Z:((0:Int) != 0)=false:=rfl
 have er:nX (nR (Ig sz lf l))=.agg [.int .i64 13,.int .i64 0,.int .i64 0,.int .i64 (jo l.length:Int),.int .i64 0,.int .i64 0,.list 1 ((vals (Ig sz lf l)).map eI),.list 1 []]:=rfl
 have ew:L9 (Ig sz lf l)=.agg [.int .i64 sz,.int .i64 lf,.list 1 ((kT l).map mO),.list 2 [.agg [.int .i64 0,.int .i64 1]],.int .i64 (jo l.length:Int),.list 2 [],.int .i64 0,.bool false]:=rfl
 have ep:wP (Ig sz lf l)=[.int .i64 sz,.int .i64 lf,.list 1 ((kT l).map mO),.list 2 [.agg [.int .i64 0,.int .i64 1]],.int .i64 (jo l.length:Int),.list 2 [],.int .i64 0,.bool false]:=rfl
 rw [er,ep] at k3
 rw [er,ew]
 rw [lX] at k1 k2 ⊢
 generalize (vals (Ig sz lf l)).map eI=V8 at *
 have sc8:(PV.agg [.int .i64 13,.int .i64 0,.int .i64 0,.int .i64 (jo l.length:Int),.int .i64 0,.int .i64 0,.list 1 V8,.list 1 []]).scalar=false:=rfl
 rw [aG agN rfl];simp only [Xc,aN,Nat.reduceBEq,Nat.reduceLeDiff,Nat.reduceAdd,zd,zm]
 simp only [k1,k2,k3,P3,P8,W1,Z,sc8,za,aC,Nat.reduceMul,Nat.reduceBEq,Nat.reduceLT,Nat.reduceLeDiff,reduceCtorEq,Nat.reduceEqDiff,Nat.reduceAdd,zb]
def gK (lb:List Int)(k:Nat):Int→Int:=fun n=>(rP lb k).getD n.toNat 0
theorem adi {lb:List Int}(h:∀ d∈lb,KX d)(k:Nat):okG (gK lb k):=⟨fun n=>by
 unfold gK
 rw [Zaf]
 cases hx:(rP lb k)[n.toNat]? with
 |none=>exact ⟨by decide,by decide⟩
 |some d=>exact OV h k d (List.mem_of_getElem? hx)⟩
theorem adk {sz lf:Int}{la:List Int}{w:lG}{k:Nat}{p:Nat→Bool}{g:Int→Int}(h:okW sz lf la w k p)(hl:la.length≤200)(hs:w.sent≤7000) :
  ((tK sz lf la w k p g).fin=true∧(tK sz lf la w k p g).pend=[])∨(1≤k∧jE (qW la k p g) (cd la.length k)≠[]∧okW sz lf la (tK sz lf la w k p g) (k - 1) (fun i=>qW la k p g (i / 2))∧(tK sz lf la w k p g).sent≤w.sent+200):=by
 obtain ⟨h1,h2⟩:=h.T.len
 have hfl:=pX p (cd la.length k)
 have hcl:=KW la.length k h1
 by_cases k0:k=0
 ·left;unfold tK;rw [if_pos k0];exact ⟨rfl,rfl⟩
 ·by_cases q0:jE (qW la k p g) (cd la.length k)=[]
  ·left;unfold tK;rw [if_neg k0,if_pos q0];exact ⟨rfl,rfl⟩
  ·right
   refine ⟨by omega,q0,?_,?_⟩
   ·obtain ⟨m,rfl⟩:∃ m,k=m+1:=⟨k - 1,by omega⟩
    unfold tK
    rw [if_neg k0,if_neg q0]
    refine ⟨h.t,h.T,by have:=h.kd;omega,rfl,?_,?_,h.found,?_,h.fin⟩
    ·show pN (cd la.length (m+1 - 1)) _=_
     rw [ZbN,adg]
    ·intro e
     apply q0
     cases hx:jE (qW la (m+1) p g) (cd la.length (m+1)) with
     |nil=>rfl
     |cons n r =>
      exfalso
      have hn:n∈jE (qW la (m+1) p g) (cd la.length (m+1)):=by rw [hx];simp
      obtain ⟨a1,a2⟩:=uM.1 hn
      have:2*n∈jE (fun i=>qW la (m+1) p g (i / 2)) (cd la.length (m+1 - 1)):=by
       refine uM.2 ⟨?_,?_⟩
       ·have e2:cd la.length (m+1)=(cd la.length m+1) / 2:=rfl
        rw [ZbN];omega
       ·show qW la (m+1) p g (2*n / 2)=true
        rw [show 2*n / 2=n by omega];exact a2
      rw [e] at this
      simp at this
    ·have:=h.sent
     show 0≤w.sent+_∧w.sent+_≤8000
     omega
   ·unfold tK
    rw [if_neg k0,if_neg q0]
    show w.sent+_≤w.sent+200
    omega
def sQ (sz lf:Int)(la lb:List Int):Nat→lG×(Nat→Bool)
 |0=>(Ig sz lf la,fun _=>true)
 |j+1=>(tK sz lf la (sQ sz lf la lb j).1 (jo la.length - j) (sQ sz lf la lb j).2 (gK lb (jo la.length - j)),fun i=>qW la (jo la.length - j) (sQ sz lf la lb j).2 (gK lb (jo la.length - j)) (i / 2))
theorem adl {sz lf:Int}{la lb:List Int}(h:L8 sz lf la)(hl:la.length≤200):∀ j,j≤jo la.length→(∀ i,i<j→okW sz lf la (sQ sz lf la lb (i+1)).1 (jo la.length - (i+1)) (sQ sz lf la lb (i+1)).2∧(sQ sz lf la lb (i+1)).1.sent≤200*((i+1:Nat):Int))∨∃ J,1≤J∧J≤j∧((sQ sz lf la lb J).1.fin=true∧(sQ sz lf la lb J).1.pend=[])∧∀ i,i<J→okW sz lf la (sQ sz lf la lb i).1 (jo la.length - i) (sQ sz lf la lb i).2∧(sQ sz lf la lb i).1.sent≤200*(i:Int)
 |0,_=>.inl fun i hi=>absurd hi (Nat.not_lt_zero _)
 |j+1,hj=>by
  obtain ⟨d1,d2,d3⟩:=lD h.len.1 h.len.2
  rcases adl (lb:=lb) h hl j (by omega) with ih|⟨J,a1,a2,a3,a4⟩
  ·have hj0:okW sz lf la (sQ sz lf la lb j).1 (jo la.length - j) (sQ sz lf la lb j).2∧(sQ sz lf la lb j).1.sent≤200*(j:Int):=by
    cases j with
    |zero=>exact ⟨ZV h,by show (0:Int)≤_;omega⟩
    |succ j=>exact ih j (by omega)
   have all:∀ i,i<j+1→okW sz lf la (sQ sz lf la lb i).1 (jo la.length - i) (sQ sz lf la lb i).2∧(sQ sz lf la lb i).1.sent≤200*(i:Int):=fun i hi=>by
    cases i with
    |zero=>exact ⟨ZV h,by show (0:Int)≤_;omega⟩
    |succ i=>exact ih i (by omega)
   rcases adk (g:=gK lb (jo la.length - j)) hj0.1 hl (by have:=hj0.2;omega) with ⟨f1,f2⟩|⟨c1,c2,c3,c4⟩
   ·exact .inr ⟨j+1,by omega,ze _,⟨f1,f2⟩,all⟩
   ·left
    intro i hi
    rcases ZaE i j with c|c
    ·exact ih i c
    ·obtain rfl:i=j:=by omega
     refine ⟨?_,?_⟩
     ·have:=c3
      rw [show jo la.length - i - 1=jo la.length - (i+1) by omega] at this
      exact this
     ·have h2:=hj0.2
      have h3:(sQ sz lf la lb (i+1)).1.sent≤(sQ sz lf la lb i).1.sent+200:=c4
      omega
  ·exact .inr ⟨J,a1,by omega,a3,a4⟩
theorem afA {sz lf:Int}{la:List Int}(lb:List Int)(h:L8 sz lf la)(hl:la.length≤200):∃ J,1≤J∧J≤14∧((sQ sz lf la lb J).1.fin=true∧(sQ sz lf la lb J).1.pend=[])∧(∀ i,i<J→okW sz lf la (sQ sz lf la lb i).1 (jo la.length - i) (sQ sz lf la lb i).2∧(sQ sz lf la lb i).1.sent≤200*(i:Int))∧J≤jo la.length+1:=by
 obtain ⟨d1,d2,d3⟩:=lD h.len.1 h.len.2
 rcases adl (lb:=lb) h hl (jo la.length) (ze _) with ih|⟨J,a1,a2,a3,a4⟩
 ·have all:∀ i,i<jo la.length+1→okW sz lf la (sQ sz lf la lb i).1 (jo la.length - i) (sQ sz lf la lb i).2∧(sQ sz lf la lb i).1.sent≤200*(i:Int):=fun i hi=>by
   cases i with
   |zero=>exact ⟨ZV h,by show (0:Int)≤_;omega⟩
   |succ i=>exact ih i (by omega)
  have hd:=all (jo la.length) (by omega)
  rcases adk (g:=gK lb (jo la.length - jo la.length)) hd.1 hl (by have:=hd.2;omega) with f|⟨c1,_⟩
  ·exact ⟨jo la.length+1,by omega,by omega,f,all,ze _⟩
  ·omega
 ·exact ⟨J,a1,by omega,a3,a4,by omega⟩
theorem adn {sz lf:Int}{l:List Int}{w:lG}{k:Nat}{p:Nat→Bool}{g:Int→Int}(h:okW sz lf l w k p)(hg:okG g):cal env 30 [L9 w,nX (tJ w g)]=some [(L9 (tK sz lf l w k p g),false),(.list 8 (Qy (tK sz lf l w k p g)),true),(.int .i64 0,false)]:=by
 cases k with
 |zero =>
  have e:Qy (tK sz lf l w 0 p g)=[]:=by unfold tK;rw [if_pos rfl];rfl
  rw [e]
  exact afv h hg
 |succ k =>
  by_cases q0:jE (qW l (k+1) p g) (cd l.length (k+1))=[]
  ·have e:Qy (tK sz lf l w (k+1) p g)=[]:=by unfold tK;rw [if_neg (by omega),if_pos q0];rfl
   rw [e]
   exact afx h hg q0
  ·have e:Qy (tK sz lf l w (k+1) p g)=[nX (nR (tK sz lf l w (k+1) p g))]:=by
    have:(tK sz lf l w (k+1) p g).fin=false:=by unfold tK;rw [if_neg (by omega),if_neg q0];exact h.fin
    unfold Qy
    rw [this];rfl
   rw [e]
   exact afy h hg q0
theorem acP {sz lf:Int}{l:List Int}{w:lG}{k:Nat}{p:Nat→Bool}(h:okW sz lf l w k p):Qy w=[nX (nR w)]:=by
 unfold Qy;rw [h.fin];rfl
set_option maxRecDepth 20000 in
theorem afB {sz lf:Int}{la lb:List Int}{J:Nat}(ha:L8 sz lf la)(hb:L8 sz lf lb)(hab:lb.length=la.length)(hJ:J≤14)(hfin:(sQ sz lf la lb J).1.fin=true)(hI:∀ i,i<J→okW sz lf la (sQ sz lf la lb i).1 (jo la.length - i) (sQ sz lf la lb i).2){st:St}(h:st.head [3,7,8,9,15,59] st.boxes.length=some ⟨sl 68 [(3,.aJ 1 0),(7,.aJ 2 0),(8,.row 8 (Qy (sQ sz lf la lb ((0:Nat))).1)),(9,.pv (.int .i64 0)),(15,.any),(59,.any)],[⟨false,aB sz lf la⟩,⟨false,aB sz lf lb⟩,⟨false,wB (sQ sz lf la lb ((0:Nat))).1⟩],[],none⟩) :
  den env GX st=some (.normal,⟨sl 68 [(4,.any),(5,.any),(6,.any),(7,.aJ 2 0),(9,.pv (.int .i64 0))],[⟨false,aB sz lf la⟩,⟨false,aB sz lf lb⟩,⟨false,wB (sQ sz lf la lb J).1⟩],[],none⟩):=by
 unfold GX
 refine aY (env:=env) (nb:=3) (J) (fun i=>⟨sl 68 [(3,.aJ 1 0),(7,.aJ 2 0),(8,.row 8 (Qy (sQ sz lf la lb (i)).1)),(9,.pv (.int .i64 0)),(15,.any),(59,.any)],[⟨false,aB sz lf la⟩,⟨false,aB sz lf lb⟩,⟨false,wB (sQ sz lf la lb (i)).1⟩],[],none⟩) (fun i=>some (.normal,⟨sl 68 [(4,.any),(5,.any),(6,.any),(7,.aJ 2 0),(9,.pv (.int .i64 0))],[⟨false,aB sz lf la⟩,⟨false,aB sz lf lb⟩,⟨false,wB (sQ sz lf la lb J).1⟩],[],none⟩)) h (fun _=>rfl) (fun _=>by simp only [aN,bJ,Nat.reduceMul,Nat.reduceBEq,Nat.reduceLT,Nat.reduceLeDiff,Nat.reduceAdd,decide_true,zz,zE]) ?_ ?_
 ·intro i rb hi ih
  have hw:=hI i hi
  have hnM:=acP hw
  have k1:=adf hw hb hab
  have k2:=adn (g:=gK lb (jo la.length - i)) hw (adi hb.u _)
  have eg:(fun n:Int=>(rP lb (jo la.length - i)).getD n.toNat 0)=gK lb (jo la.length - i):=rfl
  rw [eg] at k1
  have es:(sQ sz lf la lb (i+1)).1=tK sz lf la (sQ sz lf la lb i).1 (jo la.length - i) (sQ sz lf la lb i).2 (gK lb (jo la.length - i)):=rfl
  rw [← es] at k2
  rw [hnM]
  generalize (sQ sz lf la lb (i+1)).1=w' at *
  generalize (sQ sz lf la lb i).1=w at *
  rw [yL,yL,lX] at k1
  rw [jM,yL,jM] at k2
  generalize Qy w'=M at *
  rw [yL]
  have E0:((0:Int)==0)=true:=rfl
  have F1:(((1:Nat):Int) > 0)=True:=eq_true (by decide)
  have i0:index (.int .i64 0) 1=some 0:=rfl
  simp only [GV,k1,k2,P3,P8,E0,F1,i0,fO,cZ,aC,Nat.reduceMul,Nat.reduceBEq,Nat.reduceLT,Nat.reduceLeDiff,reduceCtorEq,Nat.reduceEqDiff,Nat.reduceAdd,zb]
  rw [ih _ (by simp only [fO,cZ,aC,Nat.reduceMul,Nat.reduceBEq,Nat.reduceLT,Nat.reduceLeDiff,reduceCtorEq,Nat.reduceEqDiff,Nat.reduceAdd,zb]<;>rfl)]
  simp only [fO,cZ]
 ·intro rb
  have hnM:Qy (sQ sz lf la lb J).1=[]:=by unfold Qy;rw [hfin];rfl
  have E0:((0:Int)==0)=true:=rfl
  have F1:(((0:Nat):Int) > 0)=False:=eq_false (by decide)
  rw [hnM]
  simp only [GV,E0,F1,fO,cZ,aC,Nat.reduceMul,Nat.reduceBEq,Nat.reduceLT,Nat.reduceLeDiff,reduceCtorEq,Nat.reduceEqDiff,Nat.reduceAdd,zb]
set_option maxRecDepth 20000 in
theorem ag8 {sz lf:Int}{la lb:List Int}{J:Nat}(ha:L8 sz lf la)(hb:L8 sz lf lb)(hab:lb.length=la.length)(hJ:J≤14)(hfin:(sQ sz lf la lb J).1.fin=true)(hI:∀ i,i<J→okW sz lf la (sQ sz lf la lb i).1 (jo la.length - i) (sQ sz lf la lb i).2):cal env 27 [Di (Dj sz lf la),Di (Dj sz lf lb)]=some [(.list 2 ((sQ sz lf la lb J).1.found.map aV),false),(.int .i64 (sQ sz lf la lb J).1.sent,false),(.int .i64 0,false)]:=by
 have k1:=adh ha
 have k2:=Qn hb
 have E0:((0:Int)==0)=true:=rfl
 have E1:((0:Int) != 0)=false:=rfl
 have N1:(sz != sz)=false:=by simp
 have N2:(lf != lf)=false:=by simp
 have hs0:(sQ sz lf la lb 0).1=Ig sz lf la:=rfl
 have hn0:Qy (Ig sz lf la)=[nX (nR (Ig sz lf la))]:=rfl
 have hloop:=fun st=>afB (st:=st) ha hb hab hJ hfin hI
 rw [hs0,hn0] at hloop
 rw [lX] at k1 k2 ⊢
 rw [lX]
 rw [jM] at k1
 rw [cZ] at hloop
 generalize nX (nR (Ig sz lf la))=M0 at *
 have hd:(Ig sz lf la).fin=false:=rfl
 rw [aG agM rfl];simp only [Xb,aN,Nat.reduceBEq,Nat.reduceLeDiff,Nat.reduceAdd,zd,zm]
 simp only [k1,k2,P3,P8,E0,E1,N1,N2,za,aC,Nat.reduceMul,Nat.reduceBEq,Nat.reduceLT,Nat.reduceLeDiff,reduceCtorEq,Nat.reduceEqDiff,Nat.reduceAdd,zb]
 rw [hloop _ (by rw [fO,fO];simp only [aN,bJ,Nat.reduceMul,Nat.reduceBEq,Nat.reduceLT,Nat.reduceLeDiff,Nat.reduceAdd,decide_true,zz,zE]<;>rfl)]
 simp only [cZ,fO,E0,E1,aC,Nat.reduceMul,Nat.reduceBEq,Nat.reduceLT,Nat.reduceLeDiff,reduceCtorEq,Nat.reduceEqDiff,Nat.reduceAdd,zb]
def O4 (s:Int)(d:List jF)(o:List jF):Nat→List jF
 |0=>o
 |k+1=>if 0≤IntKind.i64.wrap (s+(k:Int))∧IntKind.i64.wrap (s+(k:Int))<(o.length:Int) then (O4 s d o k).set (IntKind.i64.wrap (s+(k:Int))).toNat (d.getD k aal) else O4 s d o k
theorem zW (s:Int)(d o:List jF):∀ k,(O4 s d o k).length=o.length
 |0=>rfl
 |k+1=>by
  unfold O4
  split
  ·rw [List.length_set,zW s d o k]
  ·exact zW s d o k
def chV (o:List jF)(w:QK):List jF:=O4 w.start w.data o w.data.length
def yQ (o:List jF)(l:List QK):List jF:=l.foldl chV o
theorem Ut (o:List jF)(l:List QK)(w:QK):yQ o (l++[w])=chV (yQ o l) w:=by simp [yQ]
theorem Du:∀ (l:List QK) (o:List jF),(yQ o l).length=o.length
 |[],_=>rfl
 |w::l,o=>by
  show (yQ (chV o w) l).length=_
  rw [Du l]
  exact zW _ _ _ _
def szT (l:List QK):Prop:=∀ x∈l,x.data.length≤140737488351232
set_option maxRecDepth 20000 in
theorem afC {l o:List jF}{ch:List QK}{v sa:Int}{d:List jF}{j:Nat}(h1:1≤o.length)(hd:d.length≤140737488351232)(hj:j<ch.length)(hx:ch[j]=⟨v,sa,d⟩){st:St}(h:st.head [0,1,6,7,8,12] st.boxes.length=some ⟨sl 62 [(0,.pv (.list 8 (l.map dS))),(1,.pv (.list 3 (ch.map QL))),(6,.row 8 ((O4 sa d o ((0:Nat))).map dS)),(7,.pv (.int .i64 j)),(8,.pv (.int .i64 (0:Nat))),(12,.any)],[],[],none⟩) :
  den env GN st=some (.normal,⟨sl 62 [(0,.pv (.list 8 (l.map dS))),(1,.pv (.list 3 (ch.map QL))),(4,.any),(5,.any),(6,.row 8 ((O4 sa d o d.length).map dS)),(7,.pv (.int .i64 j)),(12,.any)],[],[],none⟩):=by
 unfold GN
 refine aY (env:=env) (nb:=0) (d.length) (fun i=>⟨sl 62 [(0,.pv (.list 8 (l.map dS))),(1,.pv (.list 3 (ch.map QL))),(6,.row 8 ((O4 sa d o (i)).map dS)),(7,.pv (.int .i64 j)),(8,.pv (.int .i64 i)),(12,.any)],[],[],none⟩) (fun i=>some (.normal,⟨sl 62 [(0,.pv (.list 8 (l.map dS))),(1,.pv (.list 3 (ch.map QL))),(4,.any),(5,.any),(6,.row 8 ((O4 sa d o d.length).map dS)),(7,.pv (.int .i64 j)),(12,.any)],[],[],none⟩)) h (fun _=>rfl) (fun _=>by simp only [aN,bJ,Nat.reduceMul,Nat.reduceBEq,Nat.reduceLT,Nat.reduceLeDiff,Nat.reduceAdd,decide_true,zz,zE]) ?_ ?_
 ·intro i rb hi ih
  have hi1:IntKind.i64.wrap ((i:Int)+1)=((i+1:Nat):Int):=by rw [aQ (by omega)];omega
  have F1:((i:Int)<(d.length:Int))=True:=eq_true (by omega)
  have F2:((o.length:Int) > 0)=True:=eq_true (by omega)
  have hc:(ch.map QL)[j]?=some (.agg [.int .i64 v,.int .i64 sa,.list 8 (d.map dS)]):=by rw [zc,ZZ hj,hx];rfl
  have hs:(d.map dS)[i]?=some (dS (d.getD i aal)):=by rw [zc,Zaf,ZZ hi];rfl
  have hol:(O4 sa d o i).length=o.length:=zW ..
  have ei:O4 sa d o (i+1)=if 0≤IntKind.i64.wrap (sa+(i:Int))∧IntKind.i64.wrap (sa+(i:Int))<(o.length:Int) then (O4 sa d o i).set (IntKind.i64.wrap (sa+(i:Int))).toNat (d.getD i aal) else O4 sa d o i:=rfl
  rw [ei] at ih
  generalize O4 sa d o i=O at *
  generalize d.getD i aal=y at *
  generalize hat:IntKind.i64.wrap (sa+(i:Int))=at' at *
  have hI:0≤at'→at'<(o.length:Int)→index (.int .i64 at') o.length=some at'.toNat:=fun a b=>yF a b
  have pc:part (kK y) 0 (some 8)=some (dS y):=tu y
  by_cases c1:0≤at'
  ·have G1:(at' ≥ 0)=True:=eq_true (by omega)
   by_cases c2:at'<(o.length:Int)
   ·have G2:=eq_true c2
    have hI:=hI c1 c2
    have hlt:at'.toNat<O.length:=by omega
    have hg:(O.map dS)[at'.toNat]?=some (dS O[at'.toNat]):=by rw [zc,ZZ hlt];rfl
    have ce:∀ z:jF,(dS z).cells=kK z:=fun _=>rfl
    have le:∀ z:jF,(kK z).length=8:=iQ
    have de:∀ z:jF,List.drop 8 (kK z)=[]:=fun z=>List.drop_of_length_le (by rw [le];exact ze _)
    have re:∀ z:jF,(dS z).qN (kK y)=some (dS y):=fun z=>rfl
    rw [if_pos ⟨c1,c2⟩,List.map_set] at ih
    simp only [xg,hat,pc,hg,ce,le,de,re,F1,F2,G1,G2,hI,hc,hs,hol,ay hj,ay hi,za,aC,Nat.reduceMul,Nat.reduceBEq,Nat.reduceLT,Nat.reduceLeDiff,reduceCtorEq,Nat.reduceEqDiff,Nat.reduceAdd,zb]
    rw [ih _ (by simp only [hi1,aC,Nat.reduceMul,Nat.reduceBEq,Nat.reduceLT,Nat.reduceLeDiff,reduceCtorEq,Nat.reduceEqDiff,Nat.reduceAdd,zb]<;>rfl)]
   ·have G2:=eq_false c2
    rw [if_neg fun q=>c2 q.2] at ih
    simp only [xg,hat,F1,F2,G1,G2,hc,hol,ay hj,za,aC,Nat.reduceMul,Nat.reduceBEq,Nat.reduceLT,Nat.reduceLeDiff,reduceCtorEq,Nat.reduceEqDiff,Nat.reduceAdd,zb]
    rw [ih _ (by simp only [hi1,aC,Nat.reduceMul,Nat.reduceBEq,Nat.reduceLT,Nat.reduceLeDiff,reduceCtorEq,Nat.reduceEqDiff,Nat.reduceAdd,zb]<;>rfl)]
  ·have G1:(at' ≥ 0)=False:=eq_false (by omega)
   rw [if_neg fun q=>c1 q.1] at ih
   simp only [xg,hat,F1,F2,G1,hc,hol,ay hj,za,aC,Nat.reduceMul,Nat.reduceBEq,Nat.reduceLT,Nat.reduceLeDiff,reduceCtorEq,Nat.reduceEqDiff,Nat.reduceAdd,zb]
   rw [ih _ (by simp only [hi1,aC,Nat.reduceMul,Nat.reduceBEq,Nat.reduceLT,Nat.reduceLeDiff,reduceCtorEq,Nat.reduceEqDiff,Nat.reduceAdd,zb]<;>rfl)]
 ·intro rb
  have hc:(ch.map QL)[j]?=some (.agg [.int .i64 v,.int .i64 sa,.list 8 (d.map dS)]):=by rw [zc,ZZ hj,hx];rfl
  simp only [xg,ZaA,hc,ay hj,za,aC,Nat.reduceMul,Nat.reduceBEq,Nat.reduceLT,Nat.reduceLeDiff,reduceCtorEq,Nat.reduceEqDiff,Nat.reduceAdd,zb]
set_option maxRecDepth 20000 in
theorem ZW {l:List jF}{ch:List QK}(h1:1≤l.length)(hl:ch.length≤1000)(hd:szT ch){st:St}(h:st.head [0,1,6,7,12] st.boxes.length=some ⟨sl 62 [(0,.pv (.list 8 (l.map dS))),(1,.pv (.list 3 (ch.map QL))),(6,.row 8 ((yQ l (ch.take ((0:Nat)))).map dS)),(7,.pv (.int .i64 (0:Nat))),(12,.any)],[],[],none⟩) :
  den env GU st=some (.normal,⟨sl 62 [(0,.pv (.list 8 (l.map dS))),(4,.any),(5,.any),(6,.row 8 ((yQ l ch).map dS))],[],[],none⟩):=by
 unfold GU
 refine aY (env:=env) (nb:=0) (ch.length) (fun i=>⟨sl 62 [(0,.pv (.list 8 (l.map dS))),(1,.pv (.list 3 (ch.map QL))),(6,.row 8 ((yQ l (ch.take (i))).map dS)),(7,.pv (.int .i64 i)),(12,.any)],[],[],none⟩) (fun i=>some (.normal,⟨sl 62 [(0,.pv (.list 8 (l.map dS))),(4,.any),(5,.any),(6,.row 8 ((yQ l ch).map dS))],[],[],none⟩)) h (fun _=>rfl) (fun _=>by simp only [aN,bJ,Nat.reduceMul,Nat.reduceBEq,Nat.reduceLT,Nat.reduceLeDiff,Nat.reduceAdd,decide_true,zz,zE]) ?_ ?_
 ·intro i rb hi ih
  have hi1:=bU hi (by unfold lim;omega)
  have F1:((i:Int)<(ch.length:Int))=True:=eq_true (by omega)
  have hdi:=hd _ (List.getElem_mem hi)
  have e0:∀ (s:Int) (d o:List jF),O4 s d o 0=o:=fun _ _ _=>rfl
  rw [take_snoc hi,Ut] at ih
  unfold chV at ih
  have hlen:=Du (ch.take i) l
  generalize yQ l (ch.take i)=o at *
  simp only [GR,F1,za,aC,Nat.reduceMul,Nat.reduceBEq,Nat.reduceLT,Nat.reduceLeDiff,reduceCtorEq,Nat.reduceEqDiff,Nat.reduceAdd,zb]
  rw [afC (l:=l) (o:=o) (ch:=ch) (v:=ch[i].volume) (sa:=ch[i].start) (d:=ch[i].data) (j:=i) (by omega) hdi hi rfl (by rw [e0];simp only [aN,bJ,Nat.reduceMul,Nat.reduceBEq,Nat.reduceLT,Nat.reduceLeDiff,Nat.reduceAdd,decide_true,zz,zE]<;>rfl)]
  simp only [aC,Nat.reduceMul,Nat.reduceBEq,Nat.reduceLT,Nat.reduceLeDiff,reduceCtorEq,Nat.reduceEqDiff,Nat.reduceAdd,zb]
  rw [ih _ (by simp only [hi1,aC,Nat.reduceMul,Nat.reduceBEq,Nat.reduceLT,Nat.reduceLeDiff,reduceCtorEq,Nat.reduceEqDiff,Nat.reduceAdd,zb]<;>rfl)]
 ·intro rb
  rw [List.take_length]
  simp only [GR,ZaA,za,aC,Nat.reduceMul,Nat.reduceBEq,Nat.reduceLT,Nat.reduceLeDiff,reduceCtorEq,Nat.reduceEqDiff,Nat.reduceAdd,zb]
set_option maxRecDepth 20000 in
theorem ag9 {l:List jF}{ch:List QK}(h1:1≤l.length)(hll:l.length≤lim)(hl:ch.length≤1000)(hd:szT ch):cal env 25 [.list 8 (l.map dS),.list 3 (ch.map QL)]=some [(.list 8 (l.map dS),false),(.list 8 ((yQ l ch).map dS),true)]:=by
 have F1:=eq_true hll
 have e0:yQ l (List.take 0 ch)=l:=rfl
 rw [aG agK rfl];simp only [W9,aN,Nat.reduceBEq,Nat.reduceLeDiff,Nat.reduceAdd,zd,zm]
 simp only [F1,za,aC,Nat.reduceMul,Nat.reduceBEq,Nat.reduceLT,Nat.reduceLeDiff,reduceCtorEq,Nat.reduceEqDiff,Nat.reduceAdd,zb]
 rw [ZW (l:=l) (ch:=ch) h1 hl hd (by rw [e0];simp only [aN,bJ,Nat.reduceMul,Nat.reduceBEq,Nat.reduceLT,Nat.reduceLeDiff,Nat.reduceAdd,decide_true,zz,zE]<;>rfl)]
 simp only [F1,za,aC,Nat.reduceMul,Nat.reduceBEq,Nat.reduceLT,Nat.reduceLeDiff,reduceCtorEq,Nat.reduceEqDiff,Nat.reduceAdd,zb]
end Go.Proofs.YthccglceomoboaaGreatDoor.V
