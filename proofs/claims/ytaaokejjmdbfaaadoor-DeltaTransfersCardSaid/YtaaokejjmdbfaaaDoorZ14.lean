/-
  Part 14 of the texts that the statement stands on.
-/
import Derived.Test.YtaaokejjmdbfaaaDoorZ13
import Derived.Test.YtaaokejjmdbfaaaDoorRows
import Derived.Lib.LaidTab
import Derived.LaidByTextLater
set_option linter.all false
namespace Go.Proofs.YtaaokejjmdbfaaaDoor.V
theorem Nz {l:List Pt} {f t:Int} (h:NH l f t=0):iy l=0∧∃ g s:Nat,f=(g:Int)∧t=(s:Int)∧g<l.length∧s<l.length:=by
 unfold NH at h
 by_cases c:iy l=0
 ·rw [if_pos c] at h
  by_cases c2:(f<0∨(l.length:Int)≤f)∨(t<0∨(l.length:Int)≤t)
  ·rw [if_pos c2] at h;cases h
  ·exact ⟨c,f.toNat,t.toNat,by omega,by omega,by omega,by omega⟩
 ·rw [if_neg c] at h;exact absurd h c
theorem ZR {l:List Pt} {g s:Nat} (h:NH l (g:Int) (s:Int)=0) (hg:g<l.length) (hs:s<l.length):Qm l (g:Int) (s:Int)=Qh l[g] l[s] l[g].img.length:=by
 unfold Qm
 rw [if_pos h,Int.toNat_natCast,Int.toNat_natCast,List.getD_eq_getElem?_getD,List.getD_eq_getElem?_getD,List.getElem?_eq_getElem hg,List.getElem?_eq_getElem hs]
 rfl
theorem aff {l:List Pt} {f t:Int}:okF 4096 32768 (Qm l f t):=by
 by_cases h:NH l f t=0
 ·obtain ⟨c,g,s,rfl,rfl,hg,hs⟩:=Nz h
  obtain ⟨k1,k2,k3,k4⟩:=ng c
  have ca:=jT (k1 _ (List.getElem_mem hg))
  have h8:=(jo ca.2.1).1
  have:=AA (b:=l[s]) ca.2.1 l[g].img.length h8
  rw [ZR h hg hs,← Qj]
  exact ⟨this.1,by have:=this.2;omega⟩
 ·unfold Qm
  rw [if_neg h]
  exact ⟨fun x hx=>(by cases hx),Nat.zero_le _⟩
set_option maxRecDepth 20000 in
theorem ahX {l:List Pt} {f t:Int} (hl:l.length≤lim) (hf:∀ p∈l,wO p):cal env 22 [.list 4 (l.map dX),.int .i64 f,.int .i64 t]=some [(.list 3 (((Qm l f t).map toW).map y9),true),(.int .i64 (NH l f t),false)]:=by
 have hlim:lim=1073741824:=rfl
 by_cases h:NH l f t=0
 ·obtain ⟨c,g,s,rfl,rfl,hg,hs⟩:=Nz h
  have e:=ahp hl hf hg hs c
  rw [ZR h hg hs,h]
  exact e
 ·have hW:Qm l f t=[]:=by unfold Qm;rw [if_neg h]
  have e1:=Y8 hl hf
  rw [hW]
  unfold NH at h ⊢
  by_cases c:iy l=0
  ·have Z:((0:Int) != 0)=false:=rfl
   rw [c] at e1
   rw [if_pos c] at h ⊢
   by_cases c2:(f<0∨(l.length:Int)≤f)∨(t<0∨(l.length:Int)≤t)
   ·rw [if_pos c2]
    by_cases m:(if t<f then t else f)<0
    ·have K1:=eq_true m
     rw [au QW rfl];simp only [LY,aO,Nat.reduceBEq,Nat.reduceLeDiff,Nat.reduceAdd,List.length_cons,List.length_nil]
     simp only [e1,Z,K1,List.length_map,aA,Nat.reduceMul,Nat.reduceBEq,Nat.reduceLT,Nat.reduceLeDiff,reduceCtorEq,Nat.reduceEqDiff,Nat.reduceAdd,Nat.beq]
    ·have K1:=eq_false m
     have K2:((if f<t then t else f) ≥ (l.length:Int))=True:=eq_true (by split at m<;>split<;>omega)
     have K3:((l.length:Int)≤(if f<t then t else f))=True:=eq_true (by split at m<;>split<;>omega)
     rw [au QW rfl];simp only [LY,aO,Nat.reduceBEq,Nat.reduceLeDiff,Nat.reduceAdd,List.length_cons,List.length_nil]
     simp only [e1,Z,K1,K2,K3,List.length_map,aA,Nat.reduceMul,Nat.reduceBEq,Nat.reduceLT,Nat.reduceLeDiff,reduceCtorEq,Nat.reduceEqDiff,Nat.reduceAdd,Nat.beq]
   ·rw [if_neg c2] at h;exact absurd rfl h
  ·have Z:(iy l != 0)=true:=by simp [c]
   rw [if_neg c]
   rw [au QW rfl];simp only [LY,aO,Nat.reduceBEq,Nat.reduceLeDiff,Nat.reduceAdd,List.length_cons,List.length_nil]
   simp only [e1,Z,List.length_map,aA,Nat.reduceMul,Nat.reduceBEq,Nat.reduceLT,Nat.reduceLeDiff,reduceCtorEq,Nat.reduceEqDiff,Nat.reduceAdd,Nat.beq]
theorem ZT:vC 6=some (.code fn6):=by
 unfold vC
 rw [if_neg (by decide)]
 exact aiR
set_option maxRecDepth 20000 in
theorem JD {l:List Pt} {f t:Int}:cal vC 6 [.list 4 (l.map dX),.int .i64 f,.int .i64 t]=some [(.bool true,false)]:=by
 have hlim:lim=1073741824:=rfl
 have aw:=up (e1:=vC) Zz
 have w1:=up (e1:=vC) (ahW (l:=l))
 rw [au ZT rfl]
 simp only [fn6,aO,Nat.reduceBEq,Nat.reduceLeDiff,Nat.reduceAdd,List.length_cons,List.length_nil]
 cases c1:y5 l with
 |false =>
  rw [c1] at w1
  simp only [aw,w1,aA,Nat.reduceMul,Nat.reduceBEq,Nat.reduceLT,Nat.reduceLeDiff,reduceCtorEq,Nat.reduceEqDiff,Nat.reduceAdd,Nat.beq]
 |true =>
  rw [c1] at w1
  obtain ⟨hl,hf⟩:=Qq c1
  have hW:=aff (l:=l) (f:=f) (t:=t)
  have e1:=up (e1:=vC) (ahX (l:=l) (f:=f) (t:=t) hl hf)
  have e2:cal vC 23 [.list 4 (l.map dX),.int .i64 f,.int .i64 t]=some (rtR l f t):=(Hw Zx).trans (Zw hl hf)
  unfold rtR at e2
  have e3:=up (e1:=vC) (ahR (r:=f) hl hf)
  have e4:=up (e1:=vC) (ahT (r:=f) hl hf)
  have e5:=up (e1:=vC) (ahV (a:=(Qm l f t).map toW) (by rw [List.length_map];have:=hW.2;omega) (fun x hx=>by
   obtain ⟨y,hy,rfl⟩:=List.mem_map.1 hx
   have:=hW.1 y hy
   show y.2.length≤lim
   omega))
  have ql:(yZ l f).par.length≤lim:=by
   unfold yZ
   split
   ·rename_i h0
    have hfit:iy l=0∧f.toNat<l.length:=by
     unfold Vb at h0
     by_cases c:iy l=0
     ·rw [if_pos c] at h0
      refine ⟨c,?_⟩
      by_cases c2:f<0∨(l.length:Int)≤f
      ·rw [if_pos c2] at h0;cases h0
      ·omega
     ·rw [if_neg c] at h0;exact absurd h0 c
    have:=(yt (iF l) (n:=l.length) hfit.2 (DF hfit.1).2 (l.length - 1) (by omega)).1
    omega
   ·exact Nat.zero_le _
  have e6:=up (e1:=vC) (agW (l:=(yZ l f).par) (m:=(yZ l f).par) ql)
  have d1:decide ((yZ l f).par=(yZ l f).par)=true:=decide_eq_true rfl
  have q1:∀ x:Int,(x==x)=true:=fun x=>beq_self_eq_true x
  generalize ((Qm l f t).map toW).map y9=W at *
  generalize (yZ l f).par.map eI=PA at *
  have tW:W.take W.length=W:=List.take_length
  have tP:PA.take PA.length=PA:=List.take_length
  simp only [aw,w1,e1,e2,e3,e4,e5,e6,d1,q1,tW,tP,aA,Nat.reduceMul,Nat.reduceBEq,Nat.reduceLT,Nat.reduceLeDiff,reduceCtorEq,Nat.reduceEqDiff,Nat.reduceAdd,Nat.beq]
end Go.Proofs.YtaaokejjmdbfaaaDoor.V

namespace Go.Proofs.YtaaokejjmdbfaaaDoor
open Go.RowKit
theorem Vj:(Rows.laid_math_bits_deBruijn64tab:DataW Unit)=Lib.tabData .u8 (Lib.deBruijn64tab.map Int.ofNat):=by kernel_rfl
theorem ahY:Tryd.prog.globalNamed "math/bits.deBruijn64tab"=some 0:=by kernel_rfl
theorem DI {w:World} {l:List (String × DataW Unit)} (hl:l=[("math/bits.deBruijn64tab",Rows.laid_math_bits_deBruijn64tab)]) (h:laidMetH Tryd.prog l w):oN w:=by
 subst hl
 rw [MakeChecks.laidMetH_plain _ _ _ (by kernel_rfl),Vj] at h
 have ht:Lib.TabIs Tryd.prog w "math/bits.deBruijn64tab" .u8 (Lib.deBruijn64tab.map Int.ofNat) :=
  Lib.tabIs_of_head (t:=167) (e:=5) (n:=64) ahY (by kernel_rfl) (by kernel_rfl) (by kernel_rfl) (by kernel_rfl) (by kernel_rfl) h
 have hc:∀ i,i<64→w.cell? ⟨0,i,none⟩=some (.int .u8 ((Lib.deBruijn64tab.map Int.ofNat).getD i 0)):=fun i hi=>ht.cell ahY i (by simpa [Lib.deBruijn64tab] using hi)
 have hC:dD w 0:=BQ (hc 0 (by decide))
 intro p hp
 obtain rfl:p=_:=List.mem_singleton.1 hp
 refine .dS _ 0 _ 0 (fun i=>.int .u8 ((Lib.deBruijn64tab.map Int.ofNat).getD i 0)) (if_pos hC.lt) hC (fun k x hk=>?_) (fun k x hk=>?_)
 ·have hk':=(List.getElem?_eq_some_iff.1 hk).1
  rw [Nat.zero_add]
  exact ⟨hc k (by simpa [Lib.deBruijn64tab] using hk'),rfl⟩
 ·simp only [List.getElem?_map] at hk
  cases e:Lib.deBruijn64tab[k]? with
  |none=>rw [e] at hk;cases hk
  |some n =>
   rw [e] at hk;cases hk
   have:(Lib.deBruijn64tab.map Int.ofNat).getD k 0=(n:Int):=by simp [List.getD_eq_getElem?_getD,e]
   rw [this]
   exact .int _ _
end Go.Proofs.YtaaokejjmdbfaaaDoor

namespace Go.Proofs.YtaaokejjmdbfaaaDoor.V
open Go.RowKit Go.ChangeShapes Go.WideShapes Go.ChangeAt
theorem Tryd.ZU:ownKnob Tryd.prog.godebug=none:=by kernel_rfl
theorem Tryd.DJ:laidOutB Tryd.prog=true:=by kernel_rfl
def okI (n:Int):Prop:=-9223372036854775808≤n∧n≤9223372036854775807
theorem DK {q:PV} (h:SInt .i64 [q]):∃ n,okI n∧q=eI n:=by
 obtain ⟨n,h1,h2⟩:=h
 have h3:IntKind.i64.min=-9223372036854775808:=rfl
 have h4:IntKind.i64.max=9223372036854775807:=rfl
 simp only [Lit.wf,Bool.and_eq_true,decide_eq_true_eq] at h1
 cases h2
 exact ⟨n,⟨by omega,by omega⟩,rfl⟩
theorem acA {q:PV} (h:SInt .u8 [q]):∃ b:UInt8,q=.int .u8 (b.toNat:Int):=by
 obtain ⟨n,h1,h2⟩:=h
 have h3:IntKind.u8.min=0:=rfl
 have h4:IntKind.u8.max=255:=rfl
 simp only [Lit.wf,Bool.and_eq_true,decide_eq_true_eq] at h1
 cases h2
 refine ⟨UInt8.ofNat n.toNat,?_⟩
 rw [UInt8.toNat_ofNat_of_lt' (show n.toNat<2 ^ 8 by omega)]
 congr 1;omega
def afg:List PV→Prop:=agd 8 (SInt .u8)
theorem ajY {ps:List PV} (h:afg ps):∃ s:fV,ps=nM s:=by
 obtain ⟨h1,h2⟩:=h
 have:∀ l:List PV,(∀ p∈l,SInt .u8 [p])→∃ m:List UInt8,m.length=l.length∧l=m.map fun b=>.int .u8 (b.toNat:Int):=by
  intro l
  induction l with
  |nil=>exact fun _=>⟨[],rfl,rfl⟩
  |cons p l ih =>
   intro h
   obtain ⟨b,hb⟩:=acA (h p (by simp))
   obtain ⟨m,e1,e2⟩:=ih fun q hq=>h q (by simp [hq])
   exact ⟨b :: m,by simp [e1],by rw [hb,e2];rfl⟩
 obtain ⟨m,e1,e2⟩:=this ps h2
 refine ⟨⟨m.toArray,by simp [e1,h1]⟩,?_⟩
 subst e2
 simp [nM,Vector.toList]
theorem FY {α:Type} {n:Nat} {S:List PV→Prop} {wr:List PV→PV} {enc:α→PV} {ok:α→Prop} (hS:∀ ps,S ps→∃ a,ok a∧wr ps=enc a) {q:PV} (h:xO n S wr [q]):∃ l:List α,(∀ a∈l,ok a)∧q=.list n (l.map enc):=by
 obtain ⟨es,h1,h2⟩:=h
 cases h1
 have:∀ es:List PV,(∀ x∈es,∃ q,S q∧x=wr q)→∃ l:List α,(∀ a∈l,ok a)∧es=l.map enc:=by
  intro es
  induction es with
  |nil=>exact fun _=>⟨[],by simp,rfl⟩
  |cons e es ih =>
   intro h
   obtain ⟨q,h3,h4⟩:=h e (by simp)
   obtain ⟨a,h5,h6⟩:=hS q h3
   obtain ⟨l,h7,h8⟩:=ih fun x hx=>h x (by simp [hx])
   exact ⟨a :: l,by simp;exact ⟨h5,h7⟩,by rw [h4,h6,h8];rfl⟩
 obtain ⟨l,h3,h4⟩:=this es h2
 exact ⟨l,h3,by rw [h4]⟩
theorem afh {k:IntKind} {ps:List PV} (h:SInt k ps):(wrS ps).cells=ps:=by
 obtain ⟨n,_,rfl⟩:=h;rfl
theorem acB {n:Nat} {S:List PV→Prop} {wr:List PV→PV} {ps:List PV} (h:xO n S wr ps):(wrS ps).cells=ps:=by
 obtain ⟨es,rfl,_⟩:=h;rfl
def ZV:List PV→Prop:=xO 8 afg .agg
theorem ahZ {q:PV} (h:ZV [q]):∃ l:List fV,q=cO l:=by
 obtain ⟨l,_,e⟩:=FY (enc:=lJ) (ok:=fun _=>True) (fun ps h=>by obtain ⟨s,rfl⟩:=ajY h;exact ⟨s,trivial,rfl⟩) h
 exact ⟨l,e⟩
def afi:List PV→Prop:=xO 1 ZV wrS
theorem ajZ {q:PV} (h:afi [q]):∃ l:zZ,q=.list 1 (l.map cO):=by
 obtain ⟨l,_,e⟩:=FY (enc:=cO) (ok:=fun _=>True) (fun ps h=>by
  obtain ⟨es,rfl,h2⟩:=h
  obtain ⟨l,e⟩:=ahZ (q:=.list 8 es) ⟨es,rfl,h2⟩
  exact ⟨l,trivial,e⟩) h
 exact ⟨l,e⟩
theorem Tryd.DL:eH Tryd.prog 3 1 (SInt .i64):=eH.int Tryd.underlying3 (by kernel_rfl)
theorem Tryd.aj0:eH Tryd.prog 5 1 (SInt .u8):=eH.int Tryd.underlying5 (by kernel_rfl)
theorem Tryd.ah0:eH Tryd.prog 78 8 afg:=eH.arr Tryd.underlying78 Tryd.aj0 (by kernel_rfl)
theorem Tryd.afj:eH Tryd.prog 76 1 ZV:=eH.list Tryd.underlying76 (by kernel_rfl) Tryd.ah0 (by decide) (fun _ _ _=>rfl)
theorem Tryd.ah1:eH Tryd.prog 25 1 afi:=eH.list Tryd.underlying25 (by kernel_rfl) Tryd.afj (by decide) (fun _ h _=>acB h)
end Go.Proofs.YtaaokejjmdbfaaaDoor.V

namespace Go.Proofs.YtaaokejjmdbfaaaDoor.V
open Go.RowKit Go.ChangeShapes Go.WideShapes Go.ChangeAt
def ac9 (x:zM):Prop:=okI x.epoch∧okI x.fr∧okI x.to
def afk:List PV→Prop:=Eb [SInt .i64,SInt .i64,SInt .i64]
theorem aj1 {ps:List PV} (h:afk ps):∃ x:zM,ac9 x∧PV.agg ps=jy x:=by
 obtain ⟨p,q,rfl,⟨n,h1,rfl⟩,p2,q2,rfl,⟨m,h2,rfl⟩,p3,q3,rfl,⟨k,h3,rfl⟩,rfl⟩:=h
 obtain ⟨a,o1,e1⟩:=DK ⟨n,h1,rfl⟩
 obtain ⟨b,o2,e2⟩:=DK ⟨m,h2,rfl⟩
 obtain ⟨c,o3,e3⟩:=DK ⟨k,h3,rfl⟩
 refine ⟨⟨a,b,c⟩,⟨o1,o2,o3⟩,?_⟩
 rw [e1,e2,e3];rfl
def ZW:List PV→Prop:=xO 3 afk .agg
theorem ah2 {q:PV} (h:ZW [q]):∃ l:List zM,q=.list 3 (l.map jy):=by
 obtain ⟨l,_,e⟩:=FY (enc:=jy) (ok:=ac9) (fun ps h=>aj1 h) h
 exact ⟨l,e⟩
theorem Tryd.ah3:eH Tryd.prog 68 3 afk:=eH.aaG Tryd.underlying68 Tryd.DL Tryd.DL Tryd.DL rfl rfl rfl (by kernel_rfl)
theorem Tryd.afl:eH Tryd.prog 22 1 ZW:=eH.list Tryd.underlying22 (by kernel_rfl) Tryd.ah3 (by decide) (fun _ _ _=>rfl)
end Go.Proofs.YtaaokejjmdbfaaaDoor.V

namespace Go.Proofs.YtaaokejjmdbfaaaDoor
open V
open Go.RowKit Go.ChangeShapes Go.WideShapes Go.ChangeAt
theorem afm {ps:List PV} (h:SInt .u64 ps):∃ w:Wd,ps=[eW w]:=by
 obtain ⟨n,h1,rfl⟩:=h
 have h2:0≤n∧n<18446744073709551616:=by
  simp only [Lit.wf,IntKind.min,IntKind.max,IntKind.signed,IntKind.bits,Bool.and_eq_true,decide_eq_true_eq] at h1
  refine ⟨by simpa using h1.1,?_⟩
  have:=h1.2
  simp at this
  omega
 refine ⟨BitVec.ofNat 64 n.toNat,?_⟩
 unfold eW
 rw [BitVec.toNat_ofNat,Nat.mod_eq_of_lt (by omega),Int.toNat_of_nonneg h2.1]
def afn:List PV→Prop:=xO 1 (SInt .u64) wrS
theorem aj2 {q:PV} (h:afn [q]):∃ l:List Wd,q=.list 1 (l.map eW):=by
 obtain ⟨l,_,e⟩:=FY (enc:=eW) (ok:=fun _=>True) (fun ps h=>by
  obtain ⟨w,rfl⟩:=afm h
  exact ⟨w,trivial,rfl⟩) h
 exact ⟨l,e⟩
def SBm:List PV→Prop:=Eb [SInt .i64,afn]
theorem sbm {ps:List PV} (h:SBm ps):∃ b:Bm,PV.agg ps=mM b:=by
 obtain ⟨p,q,rfl,⟨n,h1,rfl⟩,p2,q2,rfl,h2,rfl⟩:=h
 obtain ⟨es,rfl,h3⟩:=h2
 obtain ⟨l,e⟩:=aj2 (q:=.list 1 es) ⟨es,rfl,h3⟩
 refine ⟨⟨n,l⟩,?_⟩
 rw [e];rfl
def afo:List PV→Prop:=xO 2 SBm .agg
theorem aj6 {q:PV} (h:afo [q]):∃ l:List Bm,q=.list 2 (l.map mM):=by
 obtain ⟨l,_,e⟩:=FY (enc:=mM) (ok:=fun _=>True) (fun ps h=>by
  obtain ⟨b,e⟩:=sbm h
  exact ⟨b,trivial,e⟩) h
 exact ⟨l,e⟩
theorem Tryd.aj7:eH Tryd.prog 133 1 (SInt .u64):=eH.int Tryd.underlying133 (by kernel_rfl)
theorem Tryd.ah4:eH Tryd.prog 99 1 afn:=eH.list Tryd.underlying99 (by kernel_rfl) Tryd.aj7 (by decide) (fun _ h _=>afh h)
theorem Tryd.aj8:eH Tryd.prog 101 2 SBm:=eH.aaF Tryd.underlying101 Tryd.DL Tryd.ah4 rfl rfl (by kernel_rfl)
theorem Tryd.ah5:eH Tryd.prog 23 1 afo:=eH.list Tryd.underlying23 (by kernel_rfl) Tryd.aj8 (by decide) (fun _ _ _=>rfl)
end Go.Proofs.YtaaokejjmdbfaaaDoor

namespace Go.Proofs.YtaaokejjmdbfaaaDoor
open V
open Go.RowKit Go.ChangeShapes Go.WideShapes Go.ChangeAt
def SPt:List PV→Prop:=Eb [SInt .i64,ZW,afo,afi]
theorem spt {ps:List PV} (h:SPt ps):∃ p:Pt,PV.agg ps=dX p:=by
 obtain ⟨p,q,rfl,⟨n,h1,rfl⟩,p2,q2,rfl,h2,p3,q3,rfl,h3,p4,q4,rfl,h4,rfl⟩:=h
 obtain ⟨es2,rfl,g2⟩:=h2
 obtain ⟨es3,rfl,g3⟩:=h3
 obtain ⟨es4,rfl,g4⟩:=h4
 obtain ⟨l,e2⟩:=ah2 (q:=.list 3 es2) ⟨es2,rfl,g2⟩
 obtain ⟨d,e3⟩:=aj6 (q:=.list 2 es3) ⟨es3,rfl,g3⟩
 obtain ⟨m,e4⟩:=ajZ (q:=.list 1 es4) ⟨es4,rfl,g4⟩
 refine ⟨⟨n,l,d,m⟩,?_⟩
 rw [e2,e3,e4];rfl
theorem Tryd.akb:eH Tryd.prog 27 4 SPt:=eH.aaH Tryd.underlying27 Tryd.DL Tryd.afl Tryd.ah5 Tryd.ah1 rfl rfl rfl rfl (by kernel_rfl)
end Go.Proofs.YtaaokejjmdbfaaaDoor

namespace Go.Proofs.YtaaokejjmdbfaaaDoor
open V
open Go.RowKit Go.ChangeShapes Go.WideShapes Go.ChangeAt
theorem eH.yF {P:Program} {t e:TypeId} {m:Nat} {S:List PV→Prop} (ht:P.underlying t=some (.array 2 e)) (he:eH P e m S) (hc:P.cellsOf t=2 * m):eH P t (2 * m) (Eb [S,S]):=⟨hc,fun {H enc w fuel cs x} h=>by
 obtain ⟨xs,mm,_,_,hl,hx,hE⟩:=DataW.trod_array ht h
 rw [hc] at hl
 have h0:=hE 0 (by decide)
 have h1:=hE 1 (by decide)
 rw [List.getElem?_eq_getElem (by omega),he.1] at h0 h1
 obtain ⟨p0,g1,g2,g3,g4,g5⟩:=he.2 h0
 obtain ⟨p1,k1,k2,k3,k4,k5⟩:=he.2 h1
 have hcs:cs=(cs.drop (0 * m)).take m++(cs.drop (1 * m)).take m:=by
  rw [Nat.zero_mul,List.drop_zero,Nat.one_mul,List.take_of_length_le (l:=cs.drop m) (by rw [List.length_drop];omega),List.take_append_drop]
 have hl0:((cs.drop (0 * m)).take m).length=m:=by rw [g3,g2]
 refine ⟨p0++p1,⟨p0,p1,rfl,g1,p1,[],by simp,k1,rfl⟩,by rw [List.length_append,g2,k2];omega,?_⟩
 rw [hcs]
 refine ⟨by rw [List.length_append,List.length_append,g3,k3],fun c hc=>?_,fun j x v hx hv=>?_⟩
 ·rcases List.mem_append.1 hc with hc|hc
  ·exact g4 c hc
  ·exact k4 c hc
 ·by_cases hj:j<m
  ·rw [List.getElem?_append_left (by omega)] at hx
   rw [List.getElem?_append_left (by omega)] at hv
   exact g5 j x v hx hv
  ·rw [List.getElem?_append_right (by omega),g2] at hx
   rw [List.getElem?_append_right (by omega),hl0] at hv
   exact k5 (j - m) x v hx hv⟩
end Go.Proofs.YtaaokejjmdbfaaaDoor

namespace Go.Proofs.YtaaokejjmdbfaaaDoor
open V
open Go.RowKit Go.ChangeShapes Go.WideShapes Go.ChangeAt
def ah6:List PV→Prop:=xO 4 SPt .agg
theorem akc {q:PV} (h:ah6 [q]):∃ l:List Pt,q=.list 4 (l.map dX):=by
 obtain ⟨l,_,e⟩:=FY (enc:=dX) (ok:=fun _=>True) (fun ps h=>by
  obtain ⟨b,e⟩:=spt h
  exact ⟨b,trivial,e⟩) h
 exact ⟨l,e⟩
theorem Tryd.ah7:eH Tryd.prog 30 1 ah6:=eH.list Tryd.underlying30 (by kernel_rfl) Tryd.akb (by decide) (fun _ _ _=>rfl)
end Go.Proofs.YtaaokejjmdbfaaaDoor

namespace Go.Proofs.YtaaokejjmdbfaaaDoor
open V
open Go.RowKit Go.ChangeShapes Go.WideShapes Go.ChangeAt
theorem ada {q:PV} (h:SInt .i64 [q]):∃ n,q=.int .i64 n:=by
 obtain ⟨n,_,e⟩:=h
 exact ⟨n,by cases e;rfl⟩
end Go.Proofs.YtaaokejjmdbfaaaDoor
