/-
  Part 12 of the texts that the statement stands on.
-/
import Derived.Test.YthccglceomoboaaGreatDoorZ11
import Derived.Test.YthccglceomoboaaGreatDoorRows
import Derived.Tactics
import Derived.Tactics2
import Derived.Defers
import Derived.Recover
import Derived.TacticsInMore
import Derived.RegionIn
import Derived.RecoverIn
import Derived.Laws.Pointers
import Derived.WalkSmall
set_option linter.all false
open List renaming length_cons → zd, length_nil → ze
open Nat renaming le_refl → zg
namespace Go.Proofs.YthccglceomoboaaGreatDoor.V
theorem MG {a b:jc}{l:List (List bf)}{x:List bf}(hx:x∈kW a b l):nU x∧x.length≤4096:=by
 unfold kW gG at hx
 obtain ⟨i,hi,rfl⟩:=List.mem_mapIdx.1 hx
 rw [Ce]
 exact ⟨Uk _ (zg _),wu _ _⟩
theorem ahv {v:List dN}(h:1≤v.length∧v.length≤60):dR [v]=0:=by
 show xW (dI [v])=0
 unfold xW dI
 simp
 omega
theorem Fq {α:Type}{p:α→Prop}{x:α}(h:p x):∀ y∈[x],p y:=fun y hy=>by
 rw [List.mem_singleton.1 hy];exact h
structure ara (a b:jc)(l:List (List bf)):Prop where
 la:a.length=1
 lb:b.length=1
 ll:l.length=1
 ra:∀ v∈a,v.length≤60
 rb:∀ v∈b,v.length≤60
 ol:∀ x∈l,nU x
 rl:∀ x∈l,x.length≤4096
 pe:fO a b=0
 ft:nS a l=0
 hh:Hits a b l
theorem ahw {A B:List dN}(h:A.length=B.length)(h1:1≤A.length∧A.length≤60):fO [A] [B]=0:=by
 unfold fO
 have e1:=ahv h1
 have e2:=ahv (v:=B) (by omega)
 simp [e1,e2,dw,h]
theorem alc {A B:List dN}{L:List bf}(h:A.length=B.length)(h1:1≤A.length∧A.length≤60)(ho:nU L)(hl:L.length≤4096)(hc:qh L (A.length:Int)=0)(hh:∀ s:Nat,s<A.length→A.getD s vg≠B.getD s vg→nC L s=true):ara [A] [B] [L]:=by
 refine ⟨rfl,rfl,rfl,Fq h1.2,Fq (by omega),Fq ho,Fq hl,ahw h h1,ahs rfl fun v hv=>?_,fun v s hv hs hd=>?_⟩
 ·obtain rfl:v=0:=by simp at hv;omega
  exact hc
 ·obtain rfl:v=0:=by simp at hv;omega
  exact hh s hs hd
theorem apG (a b:Nat){evs:List TE}(h:evs.length≤30):ara [(UL a b evs).a] [(UL a b evs).b] [Xo (oV a:Int) (DL b) (UL a b evs).Jb]:=by
 obtain ⟨j,hj⟩:=XA a b (evs:=evs) (by omega)
 have hN:1≤oV a∧oV a≤16:=by unfold oV;omega
 have hla:(UL a b evs).a.length=oV a:=hj.la
 have hlb:(UL a b evs).b.length=oV a:=hj.lb
 have hst:(UL a b evs).Jb=ku j:=hj.st
 obtain ⟨r1,r2,-,-,r5,r6⟩:=Fb hj.jl
 have hck:=ak1 hj.jl
 obtain ⟨-,hcv⟩:=akB hj
 rw [hj.js,hj.jg] at r5 r6 hck
 rw [← hst] at r5 r6 hck
 rw [show (toM (UL a b evs)).st=(UL a b evs).Jb from rfl] at hcv
 refine alc (by omega) (by omega) (fun x hx=>?_) r5 (by rw [hla];exact hck) (fun s hs hd=>hcv s (by omega) (by omega) hd)
 have:=r6 x hx
 unfold okE
 omega
set_option maxRecDepth 20000 in
theorem auj {a b:Nat}{evs:List TE}(ha:a<256)(hb:b<256)(ho:evs.length≤140737488351232∧∀ x∈evs,Ad x):cal env 8 [.int .u8 (a:Int),.int .u8 (b:Int),.list 4 (evs.map Aj)]=some [(.bool true,false)]:=by
 have e3:=ahu
 obtain ⟨hl,hev⟩:=ho
 have e0:=aqW (l:=evs) hl
 cases hs:smT evs with
 |false =>
  rw [hs] at e0
  rw [aj aqv rfl];simp only [fn8,aQ,Nat.reduceBEq,Nat.reduceLeDiff,Nat.reduceAdd,zd,ze]
  simp only [e0,e3,aN,Nat.reduceMul,Nat.reduceBEq,Nat.reduceLT,Nat.reduceLeDiff,reduceCtorEq,Nat.reduceEqDiff,Nat.reduceAdd,Nat.beq]
 |true =>
  rw [hs] at e0
  obtain ⟨s1,s2⟩:=apy hs
  have e1:=aq3 ha hb (fun x hx=>⟨hev x hx,by have:=s2 x hx;omega⟩) (by omega)
  have hR:=apG a b s1
  generalize (UL a b evs).a=A at *
  generalize (UL a b evs).b=B at *
  generalize Xo (oV a:Int) (DL b) (UL a b evs).Jb=L at *
  rw [show mP [A]=.list 1 ([A].map bM) from rfl,show mP [B]=.list 1 ([B].map bM) from rfl,show ([.list 2 (L.map aU)]:List PV)=[L].map bT from rfl] at e1
  generalize [A]=a at *
  generalize [B]=b at *
  generalize [L]=l at *
  obtain ⟨la,lb,ll,ra,rb,ol,rl,pe,d1,hh⟩:=hR
  obtain ⟨z,d0,d3,hs2⟩:=Jh pe
  have hlim:lim=1073741824:=rfl
  have hra:∀ v∈a,v.length≤4096:=fun v hv=>by have:=ra v hv;omega
  have hri:∀ v∈a,v.length≤1000000:=fun v hv=>by have:=ra v hv;omega
  have auk:∀ v∈b,v.length≤1000000:=fun v hv=>by have:=rb v hv;omega
  have hrl:∀ v∈a,v.length≤lim:=fun v hv=>by have:=ra v hv;omega
  have hr:∀ x∈l,x.length≤10000:=fun x hx=>by have:=rl x hx;omega
  have hW:(Fh a l).length≤1000000:=by
   have:=YP (im:=a) rl l.length (zg _)
   rw [ll] at this
   unfold Fh;rw [ll];omega
  have k1:=aq6 (im:=a) (l:=l) (by omega) hri ol hr (by omega) (fun _=>hW)
  have k2:=alK (a:=a) (b:=b) (l:=l) (by omega) (by omega) hra ol hr (by omega)
  have Z:((0:Int) != 0)=false:=rfl
  have c1:wrE a l=0:=by
   unfold wrE
   rw [if_neg (by rw [d0];simp)]
   exact d1
  unfold wrO at k1
  rw [if_pos c1,c1] at k1
  have c2:tH a b l=0:=Fg pe d1
  unfold ahl at k2
  rw [if_pos c2,c2] at k2
  have hnm:∀ x∈kW a b l,nU x:=fun x hx=>(MG hx).1
  have hnr:∀ x∈kW a b l,x.length≤4096:=fun x hx=>(MG hx).2
  have hnl:=Ci (l:=l) z
  have hnf:=abN (l:=l) z hra
  obtain ⟨m1,m2,m3⟩:=alM (x:=l) hs2 d1 d3
  have k5:=alH (im:=b) (l:=Fh a l) (seq_ok (ak6 d1) (by omega) hri) (by omega) auk
  rw [m1] at k5
  have k7:=aq4 (a:=a) (b:=b) (l:=kW a b l) (by omega) (by omega) hra hnm (fun x hx=>by have:=hnr x hx;omega) (by omega)
  have c4:tH a b (kW a b l)=0:=Fg pe hnf
  unfold XC at k7
  rw [c4,decide_eq_true rfl,Bool.true_and,decide_eq_true ((XE (l:=l) hs2 hra).2 hh)] at k7
  rw [(apD (l:=l) hs2 d1 d3).2 hh] at k5
  have k9:=aqH (a:=a) (b:=a) (by omega) hrl
  rw [decide_eq_true rfl] at k9
  have k10:=alL (l:=kW a b l) hnm (fun x hx=>by have:=hnr x hx;omega) (by omega)
  have k11:=alL (l:=l) ol hr (by omega)
  have G:(jC (kW a b l)≤jC l)=True:=eq_true (alb z (by omega))
  generalize apI b (Fh a l)=ai at *
  generalize Fh a l=w1 at *
  generalize kW a b l=nl at *
  generalize jC nl=co at *
  generalize jC l=cl at *
  clear m1 m2 m3
  rw [aj aqv rfl];simp only [fn8,aQ,Nat.reduceBEq,Nat.reduceLeDiff,Nat.reduceAdd,zd,ze]
  simp only [e0,e1,e3,k1,k2,k5,k7,k9,k10,k11,G,Z,aN,Nat.reduceMul,Nat.reduceBEq,Nat.reduceLT,Nat.reduceLeDiff,reduceCtorEq,Nat.reduceEqDiff,Nat.reduceAdd,Nat.beq]
end Go.Proofs.YthccglceomoboaaGreatDoor.V
namespace Go.Proofs.YthccglceomoboaaGreatDoor
open Go.RowKit
end Go.Proofs.YthccglceomoboaaGreatDoor
