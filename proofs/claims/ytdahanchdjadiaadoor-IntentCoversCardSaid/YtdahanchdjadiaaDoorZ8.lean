/-
  Part 8 of the texts that the statement stands on.
-/
import Derived.Test.YtdahanchdjadiaaDoorZ7
set_option linter.all false
namespace Go.Proofs.YtdahanchdjadiaaDoor.V
def aw0:fZ:=⟨20,8,[0,0,0],⟨3,[0]⟩⟩
def aw1:fZ:=⟨20,8,[1,1,0],⟨3,[3]⟩⟩
def aw2:fZ:=⟨20,8,[1,2,0],⟨3,[3]⟩⟩
def aw3:fZ:=⟨20,8,[0,1,0],⟨3,[3]⟩⟩
def aw4:fZ:=⟨20,8,[0,1,0],⟨3,[2]⟩⟩
def awR:fZ:=⟨20,8,[0,0,0],⟨3,[3]⟩⟩
def awB:List Nat:=[20,8,1,0,2]
theorem xNew:jG 20 8=aw0:=by kernel_rfl
theorem ah1:uY 20 8=0:=by kernel_rfl
theorem xB1:Je aw0 ⟨6,4⟩=aw1:=by kernel_rfl
theorem ai6:bgS aw0 ⟨6,4⟩=true:=by kernel_rfl
theorem ai7:Zt aw0 ⟨6,4⟩=0:=by kernel_rfl
theorem xB2:Je aw1 ⟨9,1⟩=aw2:=by kernel_rfl
theorem ai8:bgS aw1 ⟨9,1⟩=false:=by kernel_rfl
theorem ai9:Zt aw1 ⟨9,1⟩=0:=by kernel_rfl
theorem aja:mg aw2=awB:=by kernel_rfl
theorem xRc:rcI 20 8 awB=awR:=by kernel_rfl
theorem xRl:rcL 20 8 awB=[⟨0,16⟩]:=by kernel_rfl
theorem xRe:EJ 20 8 awB=0:=by kernel_rfl
theorem xEn:JH sU nV aw2 ⟨6,4⟩=aw3:=by kernel_rfl
theorem ajb:BX nV aw2 ⟨6,4⟩=0:=by kernel_rfl
theorem xCl:xH aw3=aw4:=by kernel_rfl
theorem ajc:acF aw3=true:=by kernel_rfl
theorem xX4:BU aw4.bm=[⟨1,1⟩]:=by kernel_rfl
set_option maxRecDepth 20000 in
theorem Z5:cal env 8 []=some [(.bool true,false)]:=by
 have n1:=ae5 (s:=20) (g:=8)
 rw [xNew,ah1] at n1
 have b1:=Zu (i:=aw0) (e:=⟨6,4⟩) (by decide)
 rw [xB1,ai6,ai7] at b1
 have b2:=Zu (i:=aw1) (e:=⟨9,1⟩) (by decide)
 rw [xB2,ai8,ai9] at b2
 have c1:=Rj (i:=aw2) (by decide)
 rw [aja] at c1
 have r1:=ad1 (s:=20) (g:=8) (b:=awB) (by decide) (by decide)
 rw [xRc,xRl,xRe] at r1
 have s1:=adZ (a:=[⟨0,16⟩]) (b:=[⟨0,16⟩]) (by decide)
 rw [decide_eq_true rfl] at s1
 have d1:=adT (i:=aw2) (e:=⟨6,4⟩) (by decide)
 rw [xEn,ajb] at d1
 have k1:=adU (i:=aw3) (by decide)
 rw [xCl,ajc] at k1
 have x1:=ahZ (b:=aw4.bm)
 rw [xX4] at x1
 have s2:=adZ (a:=[⟨1,1⟩]) (b:=[⟨1,1⟩]) (by decide)
 rw [decide_eq_true rfl] at s2
 have w0:((0:Wd).toNat:Int)=0:=rfl
 have w2:((2:Wd).toNat:Int)=2:=rfl
 have w3:((3:Wd).toNat:Int)=3:=rfl
 simp only [aw0,aw1,aw2,aw3,aw4,awR,awB,kL,qL,aW,eI,eW,eY,w0,w2,w3,List.map_cons,List.map_nil,Int.natCast_zero] at n1 b1 b2 c1 r1 s1 d1 k1 x1 s2
 have P5:∀ a b c d e:PV,part [a,b,c,d,e] 0 (some 5)=some (.agg [a,b,c,d,e]):=fun _ _ _ _ _=>rfl
 have L1:(1≤lim)=True:=eq_true (by decide)
 have Z0:((0:Int) != 0)=false:=rfl
 have Q0:((0:Int)==0)=true:=rfl
 have Q1:((1:Int)==1)=true:=rfl
 have Q3:(((3:Nat):Int)==3)=true:=rfl
 have I0:index (.int .i64 0) 3=some 0:=by kernel_rfl
 have I1:index (.int .i64 1) 3=some 1:=by kernel_rfl
 rw [ah ai3 rfl];simp only [fn8,aG,Nat.reduceBEq,Nat.reduceLeDiff,Nat.reduceAdd,List.length_cons,List.length_nil]
 simp only [Z0,Q0,Q1,Q3,I0,I1,n1,b1,b2,c1,r1,s1,d1,k1,x1,s2,P5,L1,dF,List.length_cons,List.length_nil,ak,Nat.reduceMul,Nat.reduceBEq,Nat.reduceLT,Nat.reduceLeDiff,reduceCtorEq,Nat.reduceEqDiff,Nat.reduceAdd,Nat.beq]
end Go.Proofs.YtdahanchdjadiaaDoor.V

namespace Go.Proofs.YtdahanchdjadiaaDoor.V
theorem Z7 (s g:Int):(jG s g).act.length≤4096∧(jG s g).bm.ws.length≤64:=by
 unfold jG
 split
 ·rename_i c
  have h1:=lq c
  have h2:=(bT.1 c).2.1
  refine ⟨by rw [List.length_replicate];omega,?_⟩
  unfold qY
  rw [if_neg (by omega),List.length_replicate]
  unfold jf
  omega
 ·exact ⟨by decide,by decide⟩
end Go.Proofs.YtdahanchdjadiaaDoor.V

namespace Go.Proofs.YtdahanchdjadiaaDoor.V
theorem mJ {b:Bm} (h:okB b=true) (g:Nat):uX b (g:Int)=bit b.ws g:=by
 unfold uX
 rw [h,Bool.true_and,decide_eq_true (by omega),Bool.true_and,Int.toNat_natCast]
 cases hb:bit b.ws g with
 |false=>rw [Bool.and_false]
 |true=>rw [decide_eq_true (LY h hb)];rfl
theorem afu {b:Bm} {e:bD} (h:okB b=true) (hf:qZ b.size e=true):BR b e=0∧okB (xQ clW b e)=true∧(xQ clW b e).size=b.size∧∀ s:Nat,bit (xQ clW b e).ws s=(bit b.ws s&&!decide (e.start≤(s:Int)∧(s:Int)<e.start+e.count)):=by
 have hE:BR b e=0:=by unfold BR;rw [if_neg (by rw [h];decide),if_neg (by rw [hf];decide)]
 have hO:xQ clW b e=⟨b.size,EG b.ws e.start (e.start+e.count)⟩:=by unfold xQ;rw [if_pos hE];rfl
 have hs:=iH h
 have hl:(EG b.ws e.start (e.start+e.count)).length=b.ws.length:=by simp [EG]
 have hb:∀ s:Nat,bit (EG b.ws e.start (e.start+e.count)) s=(bit b.ws s&&!decide (e.start≤(s:Int)∧(s:Int)<e.start+e.count)):=fun s=>by
  by_cases c:s<64 * b.ws.length
  ·exact aci c
  ·rw [wB (by rw [hl];omega),wB (show 64 * b.ws.length≤s by omega),Bool.false_and]
 rw [hO]
 refine ⟨hE,ig.2 ⟨⟨hs.1,hs.2.1,?_⟩,fun i hi=>?_⟩,rfl,hb⟩
 ·show ((EG b.ws e.start (e.start+e.count)).length:Int)=_
  rw [hl];exact (ig.1 h).1.2.2
 ·show bit (EG b.ws e.start (e.start+e.count)) i=false
  rw [hb,(ig.1 h).2 i hi,Bool.false_and]
theorem Rt {b:Bm} {e:bD} (h:okB b=true) (hf:qZ b.size e=true) (s:Nat):bit (xQ JG b e).ws s=(bit b.ws s || decide (e.start≤(s:Int)∧(s:Int)<e.start+e.count)):=by
 obtain ⟨_,h2,h3,h4⟩:=PS h hf
 by_cases c:(s:Int)<b.size
 ·exact h4 s c
 ·have:=lG.1 hf
  rw [(ig.1 h2).2 s (by rw [h3];omega),(ig.1 h).2 s (by omega),decide_eq_false (by omega)]
  rfl
theorem acS {n:Int} (h:0≤n∧n≤4096) (he:pY n=0):0<xE n∧xE n≤4096:=by
 unfold pY at he
 unfold xE
 split at he
 ·cases he
 ·rename_i c
  rw [if_neg c];omega
theorem acT {n:Int} (h:0≤n∧n≤4096) (he:nV n=0):(0≤sU n∧sU n≤4096)∧0<n:=by
 unfold nV at he
 unfold sU
 split at he
 ·cases he
 ·rename_i c
  rw [if_neg c];omega
theorem wC {i:fZ} {e:bD} (h:gG i=true) (hb:lZ i.size e=true):∃ s c:Nat,jd i.size i.aZ e=⟨(s:Int),(c:Int)⟩∧1≤c∧s+c≤i.act.length∧qZ i.bm.size ⟨(s:Int),(c:Int)⟩=true:=by
 obtain ⟨h1,h2,h3,h4,h5⟩:=bU.1 h
 obtain ⟨t1,t2,t3⟩:=zS h1 hb
 refine ⟨(jd i.size i.aZ e).start.toNat,(jd i.size i.aZ e).count.toNat,?_,by omega,by omega,lG.2 (by simp only;omega)⟩
 generalize jd i.size i.aZ e=t at *
 obtain ⟨a,b⟩:=t
 simp only at *
 simp only [bD.mk.injEq]
 omega
theorem y5 {v er:Int→Int} {i:fZ} {e:bD} {s c:Nat} (h:gG i=true) (hb:lZ i.size e=true) (ht:jd i.size i.aZ e=⟨(s:Int),(c:Int)⟩):BX er i e=zT er i.act s c∧(zT er i.act s c=0→JH v er i e={ i with act:=jS v i.act s c }):=by
 have hE:BX er i e=zT er i.act s c:=by
  unfold BX
  rw [if_neg (by rw [h];decide),if_neg (by rw [hb];decide),ht]
  rfl
 refine ⟨hE,fun h0=>?_⟩
 unfold JH
 rw [if_pos (by rw [hE];exact h0),ht]
 rfl
theorem ad2 {i:fZ} {e:bD} {s c:Nat} (h:gG i=true) (hb:lZ i.size e=true) (ht:jd i.size i.aZ e=⟨(s:Int),(c:Int)⟩) (h0:Zt i e=0) :
  Je i e=⟨i.size,i.aZ,jS xE i.act s c,xQ JG i.bm ⟨(s:Int),(c:Int)⟩⟩∧gG (Je i e)=true:=by
 obtain ⟨h1,h2,h3,h4,h5⟩:=bU.1 h
 obtain ⟨hE,hI⟩:=y5 (v:=xE) (er:=pY) h hb ht
 have h0':zT pY i.act s c=0:=by rw [← hE];exact h0
 obtain ⟨s',c',ht',k1,k2,k3⟩:=wC h hb
 obtain ⟨rfl,rfl⟩:s'=s∧c'=c:=by rw [ht] at ht';simp only [bD.mk.injEq] at ht';omega
 have e1:Je i e=⟨i.size,i.aZ,jS xE i.act s' c',xQ JG i.bm ⟨(s':Int),(c':Int)⟩⟩:=by
  unfold Je
  rw [if_pos h0,hI h0',ht]
 refine ⟨e1,?_⟩
 obtain ⟨g1,g2,g3,-⟩:=PS h3 k3
 have g4:=Rt h3 k3
 have hbad:=(pO pY k2).resolve_right (fun ⟨m,hm,_,q2,q3⟩=>q2 (by rw [← q3];exact h0'))
 rw [e1]
 refine bU.2 ⟨h1,by rw [dU];exact h2,g2,by rw [dU,g3];exact h4,fun g hg=>?_⟩
 rw [dU] at hg
 rw [nX]
 have q:=h5 g hg
 obtain ⟨q1,q2⟩:=yV q
 have hx:uX (xQ JG i.bm ⟨(s':Int),(c':Int)⟩) (g:Int)=(bit i.bm.ws g || decide ((s':Int)≤(g:Int)∧(g:Int)<(s':Int)+(c':Int))):=by rw [mJ g2,g4]
 unfold DR
 split
 ·rename_i cc
  have hz:=hbad.2 (g - s') (by omega)
  simp only [show s'+(g - s')=g by omega] at hz
  have:=acS q1 hz
  rw [hx,decide_eq_false (by omega),decide_eq_false (by omega),decide_eq_true (show (s':Int)≤(g:Int)∧(g:Int)<(s':Int)+(c':Int) by omega)]
  simp
 ·rw [hx,decide_eq_false (by omega),decide_eq_false (by omega)]
  by_cases c0:0<i.act[g]
  ·have:=q2 c0
   rw [mJ h3] at this
   rw [this]
   simp
  ·rw [decide_eq_false (by omega)]
   simp
theorem ah2 {i:fZ} {e:bD} {s c:Nat} (h:gG i=true) (hb:lZ i.size e=true) (ht:jd i.size i.aZ e=⟨(s:Int),(c:Int)⟩) (h0:BX nV i e=0) :
  JH sU nV i e=⟨i.size,i.aZ,jS sU i.act s c,i.bm⟩∧gG (JH sU nV i e)=true:=by
 obtain ⟨h1,h2,h3,h4,h5⟩:=bU.1 h
 obtain ⟨hE,hI⟩:=y5 (v:=sU) (er:=nV) h hb ht
 have h0':zT nV i.act s c=0:=by rw [← hE];exact h0
 obtain ⟨s',c',ht',k1,k2,k3⟩:=wC h hb
 obtain ⟨rfl,rfl⟩:s'=s∧c'=c:=by rw [ht] at ht';simp only [bD.mk.injEq] at ht';omega
 have e1:=hI h0'
 refine ⟨e1,?_⟩
 have hbad:=(pO nV k2).resolve_right (fun ⟨m,hm,_,q2,q3⟩=>q2 (by rw [← q3];exact h0'))
 rw [e1]
 refine bU.2 ⟨h1,by rw [dU];exact h2,h3,by rw [dU];exact h4,fun g hg=>?_⟩
 rw [dU] at hg
 rw [nX]
 have q:=h5 g hg
 obtain ⟨q1,q2⟩:=yV q
 split
 ·rename_i cc
  have hz:=hbad.2 (g - s') (by omega)
  simp only [show s'+(g - s')=g by omega] at hz
  obtain ⟨r1,r2⟩:=acT q1 hz
  unfold DR
  rw [q2 r2,decide_eq_false (by omega),decide_eq_false (by omega)]
  simp
 ·exact q
theorem Z8 {i:fZ} (h:gG i=true):∀ k,k≤i.act.length→okB (gq i k).1=true∧(gq i k).1.size=i.bm.size∧(∀ s:Nat,bit (gq i k).1.ws s=(bit i.bm.ws s&&!decide (s<k∧i.act.getD s 0=0)))∧((gq i k).2=true ↔ ∃ s,s<k∧i.act.getD s 0=0∧bit i.bm.ws s=true)
 |0,_=>⟨(bU.1 h).2.2.1,rfl,fun s=>by simp [gq],by simp [gq]⟩
 |k+1,hk=>by
  obtain ⟨h1,h2,h3,h4,h5⟩:=bU.1 h
  obtain ⟨q1,q2,q3,q4⟩:=Z8 h k (by omega)
  unfold gq
  rw [mJ h3]
  by_cases c:i.act.getD k 0=0∧bit i.bm.ws k=true
  ·rw [if_pos c]
   obtain ⟨r1,r2,r3,r4⟩:=afu (b:=(gq i k).1) (e:=⟨(k:Int),1⟩) q1 (lG.2 (by rw [q2];simp only;omega))
   refine ⟨r2,r3.trans q2,fun s=>?_,⟨fun _=>⟨k,by omega,c⟩,fun _=>rfl⟩⟩
   show bit (xQ clW (gq i k).1 ⟨(k:Int),1⟩).ws s=_
   rw [r4,q3]
   by_cases e1:s=k
   ·subst e1
    rw [decide_eq_true (show ((s:Int)≤(s:Int)∧(s:Int)<(s:Int)+1) by omega),decide_eq_true (show s<s+1∧i.act.getD s 0=0 from ⟨by omega,c.1⟩)]
    simp
   ·rw [decide_eq_false (show ¬ ((k:Int)≤(s:Int)∧(s:Int)<(k:Int)+1) by omega)]
    have:decide (s<k+1∧i.act.getD s 0=0)=decide (s<k∧i.act.getD s 0=0):=by
     apply decide_eq_decide.2
     constructor
     ·rintro ⟨a,b⟩;exact ⟨by omega,b⟩
     ·rintro ⟨a,b⟩;exact ⟨by omega,b⟩
    rw [this]
    simp
  ·rw [if_neg c]
   refine ⟨q1,q2,fun s=>?_,?_⟩
   ·rw [q3]
    by_cases e1:s=k
    ·subst e1
     rw [decide_eq_false (show ¬ (s<s∧i.act.getD s 0=0) by omega)]
     cases hb:bit i.bm.ws s with
     |false=>simp
     |true =>
      have:¬ i.act.getD s 0=0:=fun hh=>c ⟨hh,hb⟩
      rw [decide_eq_false (fun hh=>this hh.2)]
    ·have:decide (s<k+1∧i.act.getD s 0=0)=decide (s<k∧i.act.getD s 0=0):=by
      apply decide_eq_decide.2
      constructor
      ·rintro ⟨a,b⟩;exact ⟨by omega,b⟩
      ·rintro ⟨a,b⟩;exact ⟨by omega,b⟩
     rw [this]
   ·rw [q4]
    constructor
    ·rintro ⟨s,a,b⟩;exact ⟨s,by omega,b⟩
    ·rintro ⟨s,a,b⟩
     by_cases e1:s=k
     ·subst e1;exact absurd b c
     ·exact ⟨s,by omega,b⟩
theorem Jm {s g:Int} (h:lI s g=true):jG s g=⟨s,g,List.replicate (lY s g).toNat 0,qY (lY s g)⟩∧uY s g=0∧gG (jG s g)=true:=by
 have hg:=lq h
 have h2:=(bT.1 h).2.1
 have e1:jG s g=⟨s,g,List.replicate (lY s g).toNat 0,qY (lY s g)⟩:=by unfold jG;rw [if_pos h]
 refine ⟨e1,by unfold uY;rw [if_pos h],?_⟩
 obtain ⟨n1,n2,n3,n4⟩:=ZY (n:=(lY s g).toNat) (by omega)
 have hc:(((lY s g).toNat:Nat):Int)=lY s g:=by omega
 rw [hc] at n1 n2 n3 n4
 rw [e1]
 refine bU.2 ⟨h,by simp only [List.length_replicate];omega,n2,by simp only [List.length_replicate];rw [n3];omega,fun g hg=>?_⟩
 unfold DR
 simp
end Go.Proofs.YtdahanchdjadiaaDoor.V

namespace Go.Proofs.YtdahanchdjadiaaDoor.V
theorem afv (l:List bD):orS l=ext (tK l) 4096:=by
 unfold orS setOf
 exact FX fun s _=>by simp [orB,tK]
end Go.Proofs.YtdahanchdjadiaaDoor.V

namespace Go.Proofs.YtdahanchdjadiaaDoor.V
theorem acU {l:List bD} {n:Nat} (h:∀ x∈l,0≤x.start∧1≤x.count∧x.start+x.count≤(n:Int)) (s:Nat):tK (uT l n) s=(tK l s || decide (s=n)):=by
 rcases jQ l with e|⟨pre,y,e⟩
 ·subst e
  show tK [⟨(n:Int),1⟩] s=_
  rw [Bool.eq_iff_iff]
  simp [tK,rH];omega
 ·subst e
  have hy:=h y (by simp)
  rw [gV]
  split
  ·rw [DY,DY,Bool.or_assoc]
   congr 1
   rw [Bool.eq_iff_iff]
   simp [rH];omega
  ·rw [DY (pre++[y])]
   congr 1
   rw [Bool.eq_iff_iff]
   simp [rH];omega
theorem y7 (p:Nat→Bool) (s:Nat):∀ n,tK (ext p n) s=(decide (s<n)&&p s)
 |0=>by simp [LW,tK]
 |n+1=>by
  rw [pJ]
  by_cases h:p n=true
  ·rw [if_pos h,acU (zZ p n),y7 p s n]
   by_cases h2:s=n
   ·subst h2;rw [h];simp
   ·rw [decide_eq_false h2,Bool.or_false]
    congr 1
    rw [Bool.eq_iff_iff];simp;omega
  ·rw [if_neg h,y7 p s n]
   by_cases h2:s=n
   ·subst h2;simp [h]
   ·congr 1
    rw [Bool.eq_iff_iff];simp;omega
end Go.Proofs.YtdahanchdjadiaaDoor.V

namespace Go.Proofs.YtdahanchdjadiaaDoor.V
def can:Int→List bD→Prop
 |_,[]=>True
 |nx,x :: l=>nx≤x.start∧1≤x.count∧can (x.start+x.count+1) l
def MQ:Int→List bD→Int
 |nx,[]=>nx
 |_,x :: l=>MQ (x.start+x.count+1) l
theorem rE:∀ (l:List bD) (nx:Int) (x:bD),MQ nx (l++[x])=x.start+x.count+1
 |[],_,_=>rfl
 |y :: l,_,x=>rE l (y.start+y.count+1) x
theorem y8:∀ (l:List bD) (nx:Int) (x:bD),can nx (l++[x]) ↔ can nx l∧MQ nx l≤x.start∧1≤x.count
 |[],nx,x=>by simp [can,MQ]
 |y :: l,nx,x=>by
  have:=y8 l (y.start+y.count+1) x
  show nx≤y.start∧1≤y.count∧can _ (l++[x]) ↔ (nx≤y.start∧1≤y.count∧can _ l)∧MQ _ l≤x.start∧1≤x.count
  rw [this]
  constructor
  ·rintro ⟨a,b,c,d⟩;exact ⟨⟨a,b,c⟩,d⟩
  ·rintro ⟨⟨a,b,c⟩,d⟩;exact ⟨a,b,c,d⟩
theorem Ru (p:Nat→Bool):∀ n:Nat,can 0 (ext p n)∧MQ 0 (ext p n)≤(n:Int)+1
 |0=>by rw [LW];exact ⟨trivial,by simp [MQ]⟩
 |n+1=>by
  obtain ⟨h1,h2⟩:=Ru p n
  rw [pJ]
  split
  ·rcases jQ (ext p n) with e|⟨pre,x,e⟩
   ·rw [e]
    have:uT [] n=[⟨(n:Int),1⟩]:=rfl
    rw [this]
    exact ⟨⟨by simp only;omega,by simp only;omega,trivial⟩,by simp only [MQ];omega⟩
   ·rw [e] at h1 h2 ⊢
    have hx:=zZ p n x (by rw [e];simp)
    rw [rE] at h2
    obtain ⟨c1,c2,c3⟩:=(y8 _ _ _).1 h1
    rw [gV]
    split
    ·exact ⟨(y8 _ _ _).2 ⟨c1,c2,by simp only;omega⟩,by rw [rE];simp only;omega⟩
    ·exact ⟨(y8 _ _ _).2 ⟨h1,by rw [rE];simp only;omega,by simp⟩,by rw [rE];simp only;omega⟩
  ·exact ⟨h1,by omega⟩
theorem Rw {size:Int}:∀ (l:List bD) (nx:Int),can nx l→(∀ x∈l,0≤x.start∧x.start+x.count≤size)→mF size nx l=0
 |[],_,_,_=>rfl
 |x :: l,nx,h,hb=>by
  obtain ⟨h1,h2,h3⟩:=h
  have hx:=hb x (by simp)
  unfold mF
  rw [if_neg (by omega),if_neg (by omega),if_neg (by omega)]
  exact Rw l _ h3 fun y hy=>hb y (by simp [hy])
theorem Z9 (p:Nat→Bool) (n:Nat):mF n 0 (ext p n)=0:=Rw _ 0 (Ru p n).1 fun x hx=>by have:=zZ p n x hx;omega
end Go.Proofs.YtdahanchdjadiaaDoor.V
