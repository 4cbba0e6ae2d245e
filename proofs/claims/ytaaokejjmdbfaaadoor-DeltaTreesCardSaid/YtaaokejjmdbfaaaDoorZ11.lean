/-
  Part 11 of the texts that the statement stands on.
-/
import Derived.Test.YtaaokejjmdbfaaaDoorZ10
import Derived.Test.YtaaokejjmdbfaaaDoorRows
import Derived.Lib.LaidTab
import Derived.LaidByTextLater
set_option linter.all false
namespace Go.Proofs.YtaaokejjmdbfaaaDoor
def jq (P:Program) (f:Nat):XB→Prop
 |.code fn=>dF P f fn=true
 |.ext g=>∀ args rs,g args=some rs→callable P f=true∧lZ P f args rs
 |.Kv h=>callable P f=true∧O9 P f h
 |.nS h=>(∀ args,h args=some none→callable P f=true∧lZ P f args [])∧∀ args t n,h args=some (some (t,n))→callable P f=true∧SB P f args t n
 |.dfn _=>False
theorem ok9:jq Tryd.prog 9 (.code fn9):=(by kernel_rfl:dF Tryd.prog 9 fn9=true)
theorem aky:jq Tryd.prog 12 (.code afC):=(by kernel_rfl:dF Tryd.prog 12 afC=true)
theorem akz:jq Tryd.prog 13 (.code afD):=(by kernel_rfl:dF Tryd.prog 13 afD=true)
theorem akA:jq Tryd.prog 15 (.code I4):=(by kernel_rfl:dF Tryd.prog 15 I4=true)
theorem akB:jq Tryd.prog 18 (.code afE):=(by kernel_rfl:dF Tryd.prog 18 afE=true)
theorem akC:jq Tryd.prog 20 (.code afF):=(by kernel_rfl:dF Tryd.prog 20 afF=true)
theorem akD:jq Tryd.prog 22 (.code afG):=(by kernel_rfl:dF Tryd.prog 22 afG=true)
theorem akE:jq Tryd.prog 24 (.code MW):=(by kernel_rfl:dF Tryd.prog 24 MW=true)
theorem akF:jq Tryd.prog 26 (.code afH):=(by kernel_rfl:dF Tryd.prog 26 afH=true)
theorem akG:jq Tryd.prog 27 (.code afI):=(by kernel_rfl:dF Tryd.prog 27 afI=true)
theorem ok32:jq Tryd.prog 32 (.code EZ):=(by kernel_rfl:dF Tryd.prog 32 EZ=true)
theorem akH:jq Tryd.prog 33 (.code VW):=(by kernel_rfl:dF Tryd.prog 33 VW=true)
theorem akI:jq Tryd.prog 34 (.code Zq):=(by kernel_rfl:dF Tryd.prog 34 Zq=true)
theorem akJ:jq Tryd.prog 35 (.ext (Dh 1)):=Rz
theorem akK:jq Tryd.prog 39 (.ext sK):=WW
theorem akL:jq Tryd.prog 41 (.code Zr):=(by kernel_rfl:dF Tryd.prog 41 Zr=true)
theorem akM:jq Tryd.prog 42 (.ext IU):=abv
theorem akN:jq Tryd.prog 43 (.code afJ):=(by kernel_rfl:dF Tryd.prog 43 afJ=true)
theorem akO:jq Tryd.prog 44 (.code Zt):=(by kernel_rfl:dF Tryd.prog 44 Zt=true)
theorem akP:jq Tryd.prog 45 (.code Zu):=(by kernel_rfl:dF Tryd.prog 45 Zu=true)
theorem akQ:jq Tryd.prog 47 (.code Zv):=(by kernel_rfl:dF Tryd.prog 47 Zv=true)
theorem akR:jq Tryd.prog 48 (.code Zw):=(by kernel_rfl:dF Tryd.prog 48 Zw=true)
theorem akS:jq Tryd.prog 49 (.code Zx):=(by kernel_rfl:dF Tryd.prog 49 Zx=true)
theorem akT:jq Tryd.prog 50 (.code Zy):=(by kernel_rfl:dF Tryd.prog 50 Zy=true)
theorem akU:jq Tryd.prog 51 (.code E5):=(by kernel_rfl:dF Tryd.prog 51 E5=true)
theorem akV:jq Tryd.prog 53 (.code MX):=(by kernel_rfl:dF Tryd.prog 53 MX=true)
theorem akW:jq Tryd.prog 56 (.code Zz):=(by kernel_rfl:dF Tryd.prog 56 Zz=true)
theorem akX:jq Tryd.prog 57 (.code afK):=(by kernel_rfl:dF Tryd.prog 57 afK=true)
theorem akY:jq Tryd.prog 58 (.code afL):=(by kernel_rfl:dF Tryd.prog 58 afL=true)
theorem akZ:jq Tryd.prog 59 (.code afM):=(by kernel_rfl:dF Tryd.prog 59 afM=true)
theorem ak0:jq Tryd.prog 60 (.code afN):=(by kernel_rfl:dF Tryd.prog 60 afN=true)
theorem ak1:jq Tryd.prog 61 (.code afO):=(by kernel_rfl:dF Tryd.prog 61 afO=true)
theorem ak2:jq Tryd.prog 64 (.ext Zp):=ag5
theorem ak3:jq Tryd.prog 65 (.code VX):=(by kernel_rfl:dF Tryd.prog 65 VX=true)
theorem ak4:jq Tryd.prog 66 (.code ZA):=(by kernel_rfl:dF Tryd.prog 66 ZA=true)
theorem ak5:jq Tryd.prog 67 (.code ZB):=(by kernel_rfl:dF Tryd.prog 67 ZB=true)
theorem ak6:jq Tryd.prog 68 (.code ZC):=(by kernel_rfl:dF Tryd.prog 68 ZC=true)
theorem ak7:jq Tryd.prog 69 (.code ZE):=(by kernel_rfl:dF Tryd.prog 69 ZE=true)
theorem ak8:jq Tryd.prog 70 (.code afP):=(by kernel_rfl:dF Tryd.prog 70 afP=true)
theorem ak9:jq Tryd.prog 71 (.code ZF):=(by kernel_rfl:dF Tryd.prog 71 ZF=true)
theorem ala:jq Tryd.prog 77 (.code ZG):=(by kernel_rfl:dF Tryd.prog 77 ZG=true)
theorem alb:jq Tryd.prog 79 (.code VY):=(by kernel_rfl:dF Tryd.prog 79 VY=true)
theorem alc:jq Tryd.prog 80 (.code ZH):=(by kernel_rfl:dF Tryd.prog 80 ZH=true)
theorem ald:jq Tryd.prog 81 (.code ZI):=(by kernel_rfl:dF Tryd.prog 81 ZI=true)
theorem ale:jq Tryd.prog 82 (.code ZJ):=(by kernel_rfl:dF Tryd.prog 82 ZJ=true)
theorem alf:jq Tryd.prog 83 (.code ZK):=(by kernel_rfl:dF Tryd.prog 83 ZK=true)
theorem alg:jq Tryd.prog 84 (.code ZL):=(by kernel_rfl:dF Tryd.prog 84 ZL=true)
theorem alh:jq Tryd.prog 87 (.code ZM):=(by kernel_rfl:dF Tryd.prog 87 ZM=true)
theorem ali:jq Tryd.prog 88 (.code QU):=(by kernel_rfl:dF Tryd.prog 88 QU=true)
theorem alj:jq Tryd.prog 89 (.code MZ):=(by kernel_rfl:dF Tryd.prog 89 MZ=true)
theorem alk:jq Tryd.prog 90 (.code ZN):=(by kernel_rfl:dF Tryd.prog 90 ZN=true)
theorem alm:jq Tryd.prog 91 (.code ZO):=(by kernel_rfl:dF Tryd.prog 91 ZO=true)
theorem aln:jq Tryd.prog 92 (.code ZP):=(by kernel_rfl:dF Tryd.prog 92 ZP=true)
theorem alo:jq Tryd.prog 93 (.code VZ):=(by kernel_rfl:dF Tryd.prog 93 VZ=true)
theorem alp:jq Tryd.prog 94 (.code QV):=(by kernel_rfl:dF Tryd.prog 94 QV=true)
theorem alq:jq Tryd.prog 95 (.code ZQ):=(by kernel_rfl:dF Tryd.prog 95 ZQ=true)
theorem alr:jq Tryd.prog 99 (.code Na):=(by kernel_rfl:dF Tryd.prog 99 Na=true)
theorem ajo:jq Tryd.prog 100 (.code Nb):=(by kernel_rfl:dF Tryd.prog 100 Nb=true)
theorem ajp:jq Tryd.prog 101 (.code Nc):=(by kernel_rfl:dF Tryd.prog 101 Nc=true)
theorem ajq:jq Tryd.prog 102 (.code Nh):=(by kernel_rfl:dF Tryd.prog 102 Nh=true)
theorem ajr:jq Tryd.prog 103 (.code Nj):=(by kernel_rfl:dF Tryd.prog 103 Nj=true)
theorem ajs:jq Tryd.prog 104 (.code Nk):=(by kernel_rfl:dF Tryd.prog 104 Nk=true)
theorem ajt:jq Tryd.prog 105 (.code Nl):=(by kernel_rfl:dF Tryd.prog 105 Nl=true)
theorem aju:jq Tryd.prog 106 (.code Np):=(by kernel_rfl:dF Tryd.prog 106 Np=true)
theorem ajv:jq Tryd.prog 107 (.code Dp):=(by kernel_rfl:dF Tryd.prog 107 Dp=true)
theorem ajw:jq Tryd.prog 109 (.code Nq):=(by kernel_rfl:dF Tryd.prog 109 Nq=true)
theorem ajx:jq Tryd.prog 110 (.code Gv):=(by kernel_rfl:dF Tryd.prog 110 Gv=true)
theorem ajy:jq Tryd.prog 111 (.ext tzX):=ahV
theorem ajz:jq Tryd.prog 112 (.code Nr):=(by kernel_rfl:dF Tryd.prog 112 Nr=true)
theorem ajA:jq Tryd.prog 113 (.code Am):=(by kernel_rfl:dF Tryd.prog 113 Am=true)
theorem ajB:jq Tryd.prog 114 (.code Ns):=(by kernel_rfl:dF Tryd.prog 114 Ns=true)
theorem ajC:∀ p∈tab,jq Tryd.prog p.1 p.2:=by
 unfold tab
 exact List.forall_mem_cons.2 ⟨ok9,List.forall_mem_cons.2 ⟨aky,List.forall_mem_cons.2 ⟨akz,List.forall_mem_cons.2 ⟨akA,List.forall_mem_cons.2 ⟨akB,List.forall_mem_cons.2 ⟨akC,List.forall_mem_cons.2 ⟨akD,List.forall_mem_cons.2 ⟨akE,List.forall_mem_cons.2 ⟨akF,List.forall_mem_cons.2 ⟨akG,List.forall_mem_cons.2 ⟨ok32,List.forall_mem_cons.2 ⟨akH,List.forall_mem_cons.2 ⟨akI,List.forall_mem_cons.2 ⟨akJ,List.forall_mem_cons.2 ⟨akK,List.forall_mem_cons.2 ⟨akL,List.forall_mem_cons.2 ⟨akM,List.forall_mem_cons.2 ⟨akN,List.forall_mem_cons.2 ⟨akO,List.forall_mem_cons.2 ⟨akP,List.forall_mem_cons.2 ⟨akQ,List.forall_mem_cons.2 ⟨akR,List.forall_mem_cons.2 ⟨akS,List.forall_mem_cons.2 ⟨akT,List.forall_mem_cons.2 ⟨akU,List.forall_mem_cons.2 ⟨akV,List.forall_mem_cons.2 ⟨akW,List.forall_mem_cons.2 ⟨akX,List.forall_mem_cons.2 ⟨akY,List.forall_mem_cons.2 ⟨akZ,List.forall_mem_cons.2 ⟨ak0,List.forall_mem_cons.2 ⟨ak1,List.forall_mem_cons.2 ⟨ak2,List.forall_mem_cons.2 ⟨ak3,List.forall_mem_cons.2 ⟨ak4,List.forall_mem_cons.2 ⟨ak5,List.forall_mem_cons.2 ⟨ak6,List.forall_mem_cons.2 ⟨ak7,List.forall_mem_cons.2 ⟨ak8,List.forall_mem_cons.2 ⟨ak9,List.forall_mem_cons.2 ⟨ala,List.forall_mem_cons.2 ⟨alb,List.forall_mem_cons.2 ⟨alc,List.forall_mem_cons.2 ⟨ald,List.forall_mem_cons.2 ⟨ale,List.forall_mem_cons.2 ⟨alf,List.forall_mem_cons.2 ⟨alg,List.forall_mem_cons.2 ⟨alh,List.forall_mem_cons.2 ⟨ali,List.forall_mem_cons.2 ⟨alj,List.forall_mem_cons.2 ⟨alk,List.forall_mem_cons.2 ⟨alm,List.forall_mem_cons.2 ⟨aln,List.forall_mem_cons.2 ⟨alo,List.forall_mem_cons.2 ⟨alp,List.forall_mem_cons.2 ⟨alq,List.forall_mem_cons.2 ⟨alr,List.forall_mem_cons.2 ⟨ajo,List.forall_mem_cons.2 ⟨ajp,List.forall_mem_cons.2 ⟨ajq,List.forall_mem_cons.2 ⟨ajr,List.forall_mem_cons.2 ⟨ajs,List.forall_mem_cons.2 ⟨ajt,List.forall_mem_cons.2 ⟨aju,List.forall_mem_cons.2 ⟨ajv,List.forall_mem_cons.2 ⟨ajw,List.forall_mem_cons.2 ⟨ajx,List.forall_mem_cons.2 ⟨ajy,List.forall_mem_cons.2 ⟨ajz,List.forall_mem_cons.2 ⟨ajA,List.forall_mem_cons.2 ⟨ajB,fun p hp=>by cases hp⟩⟩⟩⟩⟩⟩⟩⟩⟩⟩⟩⟩⟩⟩⟩⟩⟩⟩⟩⟩⟩⟩⟩⟩⟩⟩⟩⟩⟩⟩⟩⟩⟩⟩⟩⟩⟩⟩⟩⟩⟩⟩⟩⟩⟩⟩⟩⟩⟩⟩⟩⟩⟩⟩⟩⟩⟩⟩⟩⟩⟩⟩⟩⟩⟩⟩⟩⟩⟩⟩⟩
theorem EC:∀ {l:List (Nat × XB)} {f:Nat} {d:XB},l.lookup f=some d→(f,d)∈l
 |(k,v) :: l,f,d,h=>by
  rw [List.lookup_cons] at h
  split at h
  ·rename_i e
   have e:f=k:=by simpa using e
   cases h;subst e;simp
  ·exact List.mem_cons_of_mem _ (EC h)
theorem ajD:Ag Tryd.prog env:=fun f d h=>by
 have:=ajC _ (EC h)
 cases d<;>exact this
end Go.Proofs.YtaaokejjmdbfaaaDoor

namespace Go.Proofs.YtaaokejjmdbfaaaDoor
open Go.RowKit
theorem Xo:(Rows.laid_math_bits_deBruijn64tab:DataW Unit)=Lib.tabData .u8 (Lib.deBruijn64tab.map Int.ofNat):=by kernel_rfl
theorem ajE:Tryd.prog.globalNamed "math/bits.deBruijn64tab"=some 0:=by kernel_rfl
theorem ED {w:World} {l:List (String × DataW Unit)} (hl:l=[("math/bits.deBruijn64tab",Rows.laid_math_bits_deBruijn64tab)]) (h:laidMetH Tryd.prog l w):JM w:=by
 subst hl
 rw [MakeChecks.laidMetH_plain _ _ _ (by kernel_rfl),Xo] at h
 have ht:Lib.TabIs Tryd.prog w "math/bits.deBruijn64tab" .u8 (Lib.deBruijn64tab.map Int.ofNat) :=
  Lib.tabIs_of_head (t:=167) (e:=5) (n:=64) ajE (by kernel_rfl) (by kernel_rfl) (by kernel_rfl) (by kernel_rfl) (by kernel_rfl) h
 have hc:∀ i,i<64→w.cell? ⟨0,i,none⟩=some (.int .u8 ((Lib.deBruijn64tab.map Int.ofNat).getD i 0)):=fun i hi=>ht.cell ajE i (by simpa [Lib.deBruijn64tab] using hi)
 have hC:dD w 0:=DY (hc 0 (by decide))
 intro p hp
 obtain rfl:p=_:=List.mem_singleton.1 hp
 refine .bQ _ 0 _ 0 (fun i=>.int .u8 ((Lib.deBruijn64tab.map Int.ofNat).getD i 0)) (if_pos hC.lt) hC (fun k x hk=>?_) (fun k x hk=>?_)
 ·have hk':=(List.getElem?_eq_some_iff.1 hk).1
  rw [Nat.zero_add]
  exact ⟨hc k (by simpa [Lib.deBruijn64tab] using hk'),rfl⟩
 ·simp only [List.getElem?_map] at hk
  cases e:Lib.deBruijn64tab[k]? with
  |none=>rw [e] at hk;cases hk
  |some n =>
   rw [e] at hk;cases hk
   have:(Lib.deBruijn64tab.map Int.ofNat).getD k 0=(n:Int):=by simp [List.getD_eq_getElem?_getD,e]
   rw [this]
   exact .int _ _
end Go.Proofs.YtaaokejjmdbfaaaDoor

namespace Go.Proofs.YtaaokejjmdbfaaaDoor.V
open Go.RowKit Go.ChangeShapes Go.WideShapes Go.ChangeAt
theorem Tryd.abw:ownKnob Tryd.prog.godebug=none:=by kernel_rfl
theorem Tryd.EF:laidOutB Tryd.prog=true:=by kernel_rfl
def okI (n:Int):Prop:=-9223372036854775808≤n∧n≤9223372036854775807
theorem Ot {q:PV} (h:SInt .i64 [q]):∃ n,okI n∧q=eI n:=by
 obtain ⟨n,h1,h2⟩:=h
 have h3:IntKind.i64.min=-9223372036854775808:=rfl
 have h4:IntKind.i64.max=9223372036854775807:=rfl
 simp only [Lit.wf,Bool.and_eq_true,decide_eq_true_eq] at h1
 cases h2
 exact ⟨n,⟨by omega,by omega⟩,rfl⟩
theorem Uf {q:PV} (h:SInt .u8 [q]):∃ b:UInt8,q=.int .u8 (b.toNat:Int):=by
 obtain ⟨n,h1,h2⟩:=h
 have h3:IntKind.u8.min=0:=rfl
 have h4:IntKind.u8.max=255:=rfl
 simp only [Lit.wf,Bool.and_eq_true,decide_eq_true_eq] at h1
 cases h2
 refine ⟨UInt8.ofNat n.toNat,?_⟩
 rw [UInt8.toNat_ofNat_of_lt' (show n.toNat<2 ^ 8 by omega)]
 congr 1;omega
def ag7:List PV→Prop:=aiO 8 (SInt .u8)
theorem als {ps:List PV} (h:ag7 ps):∃ s:dY,ps=lq s:=by
 obtain ⟨h1,h2⟩:=h
 have:∀ l:List PV,(∀ p∈l,SInt .u8 [p])→∃ m:List UInt8,m.length=l.length∧l=m.map fun b=>.int .u8 (b.toNat:Int):=by
  intro l
  induction l with
  |nil=>exact fun _=>⟨[],rfl,rfl⟩
  |cons p l ih =>
   intro h
   obtain ⟨b,hb⟩:=Uf (h p (by simp))
   obtain ⟨m,e1,e2⟩:=ih fun q hq=>h q (by simp [hq])
   exact ⟨b :: m,by simp [e1],by rw [hb,e2];rfl⟩
 obtain ⟨m,e1,e2⟩:=this ps h2
 refine ⟨⟨m.toArray,by simp [e1,h1]⟩,?_⟩
 subst e2
 simp [lq,Vector.toList]
theorem Ug {α:Type} {n:Nat} {S:List PV→Prop} {wr:List PV→PV} {enc:α→PV} {ok:α→Prop} (hS:∀ ps,S ps→∃ a,ok a∧wr ps=enc a) {q:PV} (h:DX n S wr [q]):∃ l:List α,(∀ a∈l,ok a)∧q=.list n (l.map enc):=by
 obtain ⟨es,h1,h2⟩:=h
 cases h1
 have:∀ es:List PV,(∀ x∈es,∃ q,S q∧x=wr q)→∃ l:List α,(∀ a∈l,ok a)∧es=l.map enc:=by
  intro es
  induction es with
  |nil=>exact fun _=>⟨[],by simp,rfl⟩
  |cons e es ih =>
   intro h
   obtain ⟨q,h3,h4⟩:=h e (by simp)
   obtain ⟨a,h5,h6⟩:=hS q h3
   obtain ⟨l,h7,h8⟩:=ih fun x hx=>h x (by simp [hx])
   exact ⟨a :: l,by simp;exact ⟨h5,h7⟩,by rw [h4,h6,h8];rfl⟩
 obtain ⟨l,h3,h4⟩:=this es h2
 exact ⟨l,h3,by rw [h4]⟩
theorem Uh {n:Nat} {S:List PV→Prop} {wr:List PV→PV} {ps:List PV} (h:DX n S wr ps):(wrS ps).cells=ps:=by
 obtain ⟨es,rfl,_⟩:=h;rfl
def Ui:List PV→Prop:=DX 8 ag7 .agg
theorem aeX {q:PV} (h:Ui [q]):∃ l:List dY,q=aY l:=by
 obtain ⟨l,_,e⟩:=Ug (enc:=ng) (ok:=fun _=>True) (fun ps h=>by obtain ⟨s,rfl⟩:=als h;exact ⟨s,trivial,rfl⟩) h
 exact ⟨l,e⟩
def ajF:List PV→Prop:=DX 1 Ui wrS
theorem alu {q:PV} (h:ajF [q]):∃ l:kC,q=.list 1 (l.map aY):=by
 obtain ⟨l,_,e⟩:=Ug (enc:=aY) (ok:=fun _=>True) (fun ps h=>by
  obtain ⟨es,rfl,h2⟩:=h
  obtain ⟨l,e⟩:=aeX (q:=.list 8 es) ⟨es,rfl,h2⟩
  exact ⟨l,trivial,e⟩) h
 exact ⟨l,e⟩
theorem Tryd.aeY:iF Tryd.prog 3 1 (SInt .i64):=iF.int Tryd.underlying3 (by kernel_rfl)
theorem Tryd.ajG:iF Tryd.prog 5 1 (SInt .u8):=iF.int Tryd.underlying5 (by kernel_rfl)
theorem Tryd.ajH:iF Tryd.prog 78 8 ag7:=iF.arr Tryd.underlying78 Tryd.ajG (by kernel_rfl)
theorem Tryd.abx:iF Tryd.prog 76 1 Ui:=iF.list Tryd.underlying76 (by kernel_rfl) Tryd.ajH (by decide) (fun _ _ _=>rfl)
theorem Tryd.ajI:iF Tryd.prog 25 1 ajF:=iF.list Tryd.underlying25 (by kernel_rfl) Tryd.abx (by decide) (fun _ h _=>Uh h)
end Go.Proofs.YtaaokejjmdbfaaaDoor.V

namespace Go.Proofs.YtaaokejjmdbfaaaDoor.V
open Go.RowKit Go.ChangeShapes Go.WideShapes Go.ChangeAt
theorem su8 {q:PV} (h:SInt .u8 [q]):∃ c:Nat,c<256∧q=.int .u8 (c:Int):=by
 obtain ⟨b,e⟩:=Uf h
 exact ⟨b.toNat,b.toNat_lt,e⟩
theorem Uj {n:Int} (h:okI n):nD n=true:=by
 unfold okI at h
 simp only [nD,Bool.and_eq_true,decide_eq_true_eq];exact h
def SWr:List PV→Prop:=Rj [SInt .i64,SInt .i64,Ui]
theorem swr {ps:List PV} (h:SWr ps):∃ x:iW,(nD x.volume=true∧nD x.start=true)∧PV.agg ps=vZ x:=by
 obtain ⟨p,q,rfl,⟨n,h1,rfl⟩,p2,q2,rfl,⟨m,h2,rfl⟩,p3,q3,rfl,h3,rfl⟩:=h
 obtain ⟨a,o1,e1⟩:=Ot ⟨n,h1,rfl⟩
 obtain ⟨b,o2,e2⟩:=Ot ⟨m,h2,rfl⟩
 obtain ⟨es,rfl,h4⟩:=h3
 obtain ⟨l,e3⟩:=aeX (q:=.list 8 es) ⟨es,rfl,h4⟩
 refine ⟨⟨a,b,l⟩,⟨Uj o1,Uj o2⟩,?_⟩
 rw [e1,e2,e3];rfl
def ag8:List PV→Prop:=DX 3 SWr .agg
theorem alx {q:PV} (h:ag8 [q]):∃ l:List iW,okW l∧q=.list 3 (l.map vZ) :=
 Ug (enc:=vZ) (ok:=fun x=>nD x.volume=true∧nD x.start=true) (fun ps h=>swr h) h
theorem Tryd.aly:iF Tryd.prog 87 3 SWr:=iF.adN Tryd.underlying87 Tryd.aeY Tryd.aeY Tryd.abx rfl rfl rfl (by kernel_rfl)
theorem Tryd.ajJ:iF Tryd.prog 50 1 ag8:=iF.list Tryd.underlying50 (by kernel_rfl) Tryd.aly (by decide) (fun _ _ _=>rfl)
end Go.Proofs.YtaaokejjmdbfaaaDoor.V

namespace Go.Proofs.YtaaokejjmdbfaaaDoor
open V
open Go.RowKit Go.ChangeShapes Go.WideShapes Go.ChangeAt
theorem iF.AO {P:Program} {t e:TypeId} {m:Nat} {S:List PV→Prop} (ht:P.underlying t=some (.array 2 e)) (he:iF P e m S) (hc:P.cellsOf t=2 * m):iF P t (2 * m) (Rj [S,S]):=⟨hc,fun {H enc w fuel cs x} h=>by
 obtain ⟨xs,mm,_,_,hl,hx,hE⟩:=DataW.trod_array ht h
 rw [hc] at hl
 have h0:=hE 0 (by decide)
 have h1:=hE 1 (by decide)
 rw [List.getElem?_eq_getElem (by omega),he.1] at h0 h1
 obtain ⟨p0,g1,g2,g3,g4,g5⟩:=he.2 h0
 obtain ⟨p1,k1,k2,k3,k4,k5⟩:=he.2 h1
 have hcs:cs=(cs.drop (0 * m)).take m++(cs.drop (1 * m)).take m:=by
  rw [Nat.zero_mul,List.drop_zero,Nat.one_mul,List.take_of_length_le (l:=cs.drop m) (by rw [List.length_drop];omega),List.take_append_drop]
 have hl0:((cs.drop (0 * m)).take m).length=m:=by rw [g3,g2]
 refine ⟨p0++p1,⟨p0,p1,rfl,g1,p1,[],by simp,k1,rfl⟩,by rw [List.length_append,g2,k2];omega,?_⟩
 rw [hcs]
 refine ⟨by rw [List.length_append,List.length_append,g3,k3],fun c hc=>?_,fun j x v hx hv=>?_⟩
 ·rcases List.mem_append.1 hc with hc|hc
  ·exact g4 c hc
  ·exact k4 c hc
 ·by_cases hj:j<m
  ·rw [List.getElem?_append_left (by omega)] at hx
   rw [List.getElem?_append_left (by omega)] at hv
   exact g5 j x v hx hv
  ·rw [List.getElem?_append_right (by omega),g2] at hx
   rw [List.getElem?_append_right (by omega),hl0] at hv
   exact k5 (j - m) x v hx hv⟩
end Go.Proofs.YtaaokejjmdbfaaaDoor

namespace Go.Proofs.YtaaokejjmdbfaaaDoor
open V
open Go.RowKit Go.ChangeShapes Go.WideShapes Go.ChangeAt
def aeZ:List PV→Prop:=DX 1 ag8 wrS
theorem ajK {q:PV} (h:aeZ [q]):∃ l:List (List iW),(∀ x∈l,okW x)∧q=.list 1 (l.map Xv) :=
 Ug (enc:=Xv) (ok:=okW) (fun ps h=>by
  obtain ⟨es,rfl,h2⟩:=h
  exact alx (q:=.list 3 es) ⟨es,rfl,h2⟩) h
theorem Tryd.ag9:iF Tryd.prog 69 1 aeZ:=iF.list Tryd.underlying69 (by kernel_rfl) Tryd.ajJ (by decide) (fun _ h _=>Uh h)
def S2u:List PV→Prop:=Rj [SInt .u8,SInt .u8]
theorem s2u {ps:List PV} (h:S2u ps):∃ x:Nat × Nat,(x.1<256∧x.2<256)∧PV.agg ps=.agg [.int .u8 (x.1:Int),.int .u8 (x.2:Int)]:=by
 obtain ⟨p,q,rfl,⟨n,h1,rfl⟩,p2,q2,rfl,⟨n2,h2,rfl⟩,rfl⟩:=h
 obtain ⟨a,ha,e1⟩:=su8 ⟨n,h1,rfl⟩
 obtain ⟨b,hb,e2⟩:=su8 ⟨n2,h2,rfl⟩
 refine ⟨(a,b),⟨ha,hb⟩,?_⟩
 rw [e1,e2];rfl
theorem Tryd.alz:iF Tryd.prog 70 2 S2u:=iF.AO Tryd.underlying70 Tryd.ajG (by kernel_rfl)
end Go.Proofs.YtaaokejjmdbfaaaDoor
