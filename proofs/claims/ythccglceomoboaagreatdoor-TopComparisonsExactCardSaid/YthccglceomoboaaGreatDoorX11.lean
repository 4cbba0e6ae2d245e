/-
  Part 11 of the texts that the statement stands on.
-/
import Derived.Test.YthccglceomoboaaGreatDoorX10
import Derived.Test.YthccglceomoboaaGreatDoorRows
import Derived.Tactics
import Derived.Tactics2
import Derived.Defers
import Derived.Recover
import Derived.TacticsInMore
import Derived.RegionIn
import Derived.RecoverIn
import Derived.Laws.Pointers
import Derived.WalkSmall
set_option linter.all false
open List renaming length_map → Z3, length_cons → zd, length_nil → zj
open Nat renaming beq → Z6
namespace Go.Proofs.YthccglceomoboaaGreatDoor.V
set_option maxRecDepth 20000 in
theorem aeW:cal env 24 []=some [(.bool true,false)]:=by
 have sc:∀ (k1 k2:IntKind) (m n:Int) (z:Nat) (l:List PV),(PV.agg [.int k1 m,.int k2 n,.list z l]).scalar=false:=fun _ _ _ _ _ _=>rfl
 have e1:(((1:Nat):Int)==1)=true:=rfl
 have e2:(((1:Nat):Int) != 1)=false:=rfl
 have e3:(((4:Nat):Int)==4)=true:=rfl
 have e4:((4:Int)==4)=true:=rfl
 have e5:((3:Int)==3)=true:=rfl
 have i0:index (PV.int IntKind.i64 0) 1=some 0:=rfl
 rw [aA amv rfl];simp only [abQ,aW,Nat.reduceBEq,Nat.reduceLeDiff,Nat.reduceAdd,zd,zj]
 simp only [sc,i0,e1,e2,e3,e4,e5,aw0,aw1,aw2,aw3,aw4,aw5,aw6,aw7,aw8,aC,Nat.reduceMul,Nat.reduceBEq,Nat.reduceLT,Nat.reduceLeDiff,reduceCtorEq,Nat.reduceEqDiff,Nat.reduceAdd,Z6]
theorem ZJ (p:Nat→Bool){n:Nat}(hn:n≤4096):sU (ext p n) n=0:=by
 unfold sU
 rw [if_neg (by omega)]
 exact Q8 p n
theorem aly {n:Nat}{a b:List cZ}{L:List bP}(hn:1≤n)(hab:a.length=b.length)(h1:1≤a.length∧a.length≤60)(hL:L=ext (fun s=>xQ n a b (s / n)) a.length):anf [a] [b] [L]:=by
 subst hL
 refine ahJ hab h1 (Q5 _ (by omega)) (by have:=xC (fun s=>xQ n a b (s / n)) a.length;omega) (ZJ _ (by omega)) fun s hs hd=>?_
 rw [Dy,decide_eq_true hs,Bool.true_and]
 exact aln hn hd
set_option maxRecDepth 20000 in
theorem ap2 {l:List cZ}{ch:List kM}{leaf:Nat}(hd:szT ch)(h8:leaf<256):cal env 6 [.list 8 (l.map bH),.list 3 (ch.map DV),.int .u8 (leaf:Int)]=some [(.bool true,false)]:=by
 have a1:=aeW
 by_cases c1:l.length<1
 ·have F1:((l.length:Int)<1)=True:=eq_true (by omega)
  rw [aA ado rfl];simp only [fn6,aW,Nat.reduceBEq,Nat.reduceLeDiff,Nat.reduceAdd,zd,zj]
  simp only [F1,a1,Z3,aC,Nat.reduceMul,Nat.reduceBEq,Nat.reduceLT,Nat.reduceLeDiff,reduceCtorEq,Nat.reduceEqDiff,Nat.reduceAdd,Z6]
 have F1:((l.length:Int)<1)=False:=eq_false (by omega)
 by_cases c2:60<l.length
 ·have F2:((l.length:Int) > 60)=True:=eq_true (by omega)
  rw [aA ado rfl];simp only [fn6,aW,Nat.reduceBEq,Nat.reduceLeDiff,Nat.reduceAdd,zd,zj]
  simp only [F1,F2,a1,Z3,aC,Nat.reduceMul,Nat.reduceBEq,Nat.reduceLT,Nat.reduceLeDiff,reduceCtorEq,Nat.reduceEqDiff,Nat.reduceAdd,Z6]
 have F2:((l.length:Int) > 60)=False:=eq_false (by omega)
 by_cases c3:6<ch.length
 ·have F3:((ch.length:Int) > 6)=True:=eq_true (by omega)
  rw [aA ado rfl];simp only [fn6,aW,Nat.reduceBEq,Nat.reduceLeDiff,Nat.reduceAdd,zd,zj]
  simp only [F1,F2,F3,a1,Z3,aC,Nat.reduceMul,Nat.reduceBEq,Nat.reduceLT,Nat.reduceLeDiff,reduceCtorEq,Nat.reduceEqDiff,Nat.reduceAdd,Z6]
 have F3:((ch.length:Int) > 6)=False:=eq_false (by omega)
 have C8:IntKind.i64.wrap (leaf:Int)=(leaf:Int):=aI (by omega)
 have z8:((8:Int)=0)=False:=eq_false (by decide)
 have R8:(leaf:Int).tmod 8=((leaf % 8:Nat):Int):=by rw [Int.tmod_eq_emod_of_nonneg (by omega)];omega
 have C9:IntKind.i64.wrap ((leaf % 8:Nat):Int)=((leaf % 8:Nat):Int):=aI (by omega)
 obtain ⟨n,hn⟩:∃ n,n=1+leaf % 8:=⟨_,rfl⟩
 have W1:IntKind.i64.wrap (1+((leaf % 8:Nat):Int))=(n:Int):=by rw [aI (by omega)];omega
 have n1:1≤n∧n≤8:=by omega
 clear hn
 generalize leaf % 8=l8 at *
 have e1:=ani (l:=l) (ch:=ch) (by omega) (by unfold lim;omega) (by omega) hd
 have hbl:=H8 ch l
 generalize BI l ch=b at *
 have e2:=am4 (a:=l) (b:=b) (n:=n) (by omega) (by omega) (by omega)
 cases hc:aew n l b with
 |true =>
  rw [hc,if_pos rfl] at e2
  rw [aA ado rfl];simp only [fn6,aW,Nat.reduceBEq,Nat.reduceLeDiff,Nat.reduceAdd,zd,zj]
  simp only [F1,F2,F3,C8,C9,z8,R8,W1,a1,e1,e2,Z3,aC,Nat.reduceMul,Nat.reduceBEq,Nat.reduceLT,Nat.reduceLeDiff,reduceCtorEq,Nat.reduceEqDiff,Nat.reduceAdd,Z6]
 |false =>
  rw [hc,if_neg (by decide)] at e2
  have hTa:=wz (l:=l) (n:=n) (by omega) (by omega)
  have hTb:=wz (l:=b) (n:=n) (by omega) (by omega)
  have e3:=ah1 (l:=l) (n:=n) (by omega) (by omega)
  have e4:=ah1 (l:=b) (n:=n) (by omega) (by omega)
  rw [hbl] at hTb e4
  have hab:(iL n b).length=(iL n l).length:=by rw [jB,jB,hbl]
  have hnn:∀ i,i<(iL n l).length ↔ i*n<l.length:=fun i=>by rw [jB];exact rE n1.1
  have hla:(iL n l).length≤200:=by
   rcases Nat.lt_or_ge 200 (iL n l).length with c|c
   ·have:=(hnn 200).1 c
    have:200*1≤200*n:=Nat.mul_le_mul_left _ n1.1
    omega
   ·exact c
  have hN:=alh hbl.symm hc
  obtain ⟨J,J1,J2,⟨J3,-⟩,J4,J5⟩:=ak2 (iL n b) hTa hla
  have hI:∀ i,i<J→mX (l.length:Int) (n:Int) (iL n l) (sQ (l.length:Int) (n:Int) (iL n l) (iL n b) i).1 (gZ (iL n l).length - i) (sQ (l.length:Int) (n:Int) (iL n l) (iL n b) i).2:=fun i hi=>(J4 i hi).1
  have e5:=anh hTa hTb hab J2 J3 hI
  obtain ⟨q1,q2⟩:=alm hN hTa hnn J1 J5 J3 hI
  have q3:=(W9 (q:=xQ n l b) (sz:=l.length) (lf:=n) (by omega) n1.1 hnn).2
  have ed:dZ (xQ n l b) (iL n l).length=yO n l b:=rfl
  have e6:=am3 (sz:=(l.length:Int)) (lf:=(n:Int)) (n:=(iL n l).length) (d:=(yO n l b).length) hTa.s hTa.f hTa.n hTa.len (jD _ _)
  rw [q1] at e5
  rw [ed] at e5 q2 q3
  have hR:=aly n1.1 hbl.symm (by omega) q3
  have hXl:(IK (l.length:Int) (n:Int) (yO n l b)).length≤4096:=by rw [q3];have:=xC (fun s=>xQ n l b (s / n)) l.length;omega
  have e7:=amZ (a:=IK (l.length:Int) (n:Int) (yO n l b)) (b:=IK (l.length:Int) (n:Int) (yO n l b)) (Nat.le_trans hXl (by decide))
  rw [decide_eq_true rfl] at e7
  have G:=eq_true q2
  rw [lG] at e3 e4 e5
  rw [lG] at e5
  generalize (sQ (l.length:Int) (n:Int) (iL n l) (iL n b) J).1.sent=S at *
  generalize (bS (yO n l b).length (iL n l).length (gZ (iL n l).length):Int)=BD at *
  generalize IK (l.length:Int) (n:Int) (yO n l b)=L at *
  clear q1 q2 q3 J4 hI hN
  obtain ⟨la,lb,ll,ra,rb,ol,rl,pe,d1,hh⟩:=hR
  obtain ⟨z,d0,d3,hs2⟩:=aeI pe
  have hlim:lim=1073741824:=rfl
  have hri:∀ v∈[l],v.length≤1000000:=fun v hv=>by have:=ra v hv;omega
  have ap3:∀ v∈[b],v.length≤1000000:=fun v hv=>by have:=rb v hv;omega
  have hrl:∀ v∈[l],v.length≤lim:=fun v hv=>by have:=ra v hv;omega
  have hr:∀ x∈[L],x.length≤10000:=fun x hx=>by have:=rl x hx;omega
  have hW:(HY [l] [L]).length≤1000000:=by
   have:=Xc (im:=[l]) rl [L].length (Nat.le_refl _)
   rw [ll] at this
   unfold HY;rw [ll];omega
  have k1:=anb (im:=[l]) (l:=[L]) (by omega) hri ol hr (by omega) (fun _=>hW)
  have Z:((0:Int) != 0)=false:=rfl
  have c1:wrE [l] [L]=0:=by
   unfold wrE
   rw [if_neg (by rw [d0];simp)]
   exact d1
  unfold wrO at k1
  rw [if_pos c1,c1] at k1
  obtain ⟨m1,m2,m3⟩:=aic (x:=[L]) hs2 d1 d3
  have k5:=am9 (im:=[b]) (l:=HY [l] [L]) (seq_ok (ahH d1) (by omega) hri) (by omega) ap3
  rw [m1] at k5
  rw [(als (l:=[L]) hs2 d1 d3).2 hh] at k5
  have k9:=amR (a:=[l]) (b:=[l]) (by omega) hrl
  rw [decide_eq_true rfl] at k9
  rw [show ([l].map eP:List PV)=[.list 8 (l.map bH)] from rfl] at k1 k5 k9
  rw [show ([L].map jf:List PV)=[.list 2 (L.map aZ)] from rfl] at k1
  rw [show ([b].map eP:List PV)=[.list 8 (b.map bH)] from rfl] at k5
  generalize HY [l] [L]=w1 at *
  clear m1 m2 m3
  rw [aA ado rfl];simp only [fn6,aW,Nat.reduceBEq,Nat.reduceLeDiff,Nat.reduceAdd,zd,zj]
  simp only [F1,F2,F3,C8,C9,z8,R8,W1,a1,e1,e2,e3,e4,e5,e6,e7,k1,k5,k9,G,Z,P3,P8,Z3,aC,Nat.reduceMul,Nat.reduceBEq,Nat.reduceLT,Nat.reduceLeDiff,reduceCtorEq,Nat.reduceEqDiff,Nat.reduceAdd,Z6]
end Go.Proofs.YthccglceomoboaaGreatDoor.V
namespace Go.Proofs.YthccglceomoboaaGreatDoor
open Go.RowKit
end Go.Proofs.YthccglceomoboaaGreatDoor
