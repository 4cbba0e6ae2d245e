/-
  Part 10 of the texts that the statement stands on.
-/
import Derived.Test.YtaaokejjmdbfaaaDoorZ9
import Derived.Test.YtaaokejjmdbfaaaDoorRows
import Derived.Lib.LaidTab
import Derived.LaidByTextLater
set_option linter.all false
namespace Go.Proofs.YtaaokejjmdbfaaaDoor
def jq (P:Program) (f:Nat):Wj→Prop
 |.code fn=>dh P f fn=true
 |.ext g=>∀ args rs,g args=some rs→callable P f=true∧nK P f args rs
 |.JV h=>callable P f=true∧OA P f h
 |.nP h=>(∀ args,h args=some none→callable P f=true∧nK P f args [])∧∀ args t n,h args=some (some (t,n))→callable P f=true∧QY P f args t n
 |.dfn _=>False
theorem ajo:jq Tryd.prog 10 (.code UY):=(by kernel_rfl:dh Tryd.prog 10 UY=true)
theorem ajp:jq Tryd.prog 12 (.code aez):=(by kernel_rfl:dh Tryd.prog 12 aez=true)
theorem ajq:jq Tryd.prog 13 (.code Yo):=(by kernel_rfl:dh Tryd.prog 13 Yo=true)
theorem ajr:jq Tryd.prog 15 (.code IQ):=(by kernel_rfl:dh Tryd.prog 15 IQ=true)
theorem ajs:jq Tryd.prog 18 (.code aeA):=(by kernel_rfl:dh Tryd.prog 18 aeA=true)
theorem ajt:jq Tryd.prog 20 (.code aeB):=(by kernel_rfl:dh Tryd.prog 20 aeB=true)
theorem aju:jq Tryd.prog 22 (.code Yp):=(by kernel_rfl:dh Tryd.prog 22 Yp=true)
theorem ajv:jq Tryd.prog 24 (.code aeC):=(by kernel_rfl:dh Tryd.prog 24 aeC=true)
theorem ajw:jq Tryd.prog 26 (.code aeD):=(by kernel_rfl:dh Tryd.prog 26 aeD=true)
theorem ajx:jq Tryd.prog 27 (.code Yq):=(by kernel_rfl:dh Tryd.prog 27 Yq=true)
theorem ok32:jq Tryd.prog 32 (.code EK):=(by kernel_rfl:dh Tryd.prog 32 EK=true)
theorem ajy:jq Tryd.prog 36 (.code UZ):=(by kernel_rfl:dh Tryd.prog 36 UZ=true)
theorem ajz:jq Tryd.prog 37 (.code Yr):=(by kernel_rfl:dh Tryd.prog 37 Yr=true)
theorem ajA:jq Tryd.prog 38 (.code Qd):=(by kernel_rfl:dh Tryd.prog 38 Qd=true)
theorem ajB:jq Tryd.prog 39 (.ext sJ):=VG
theorem ajC:jq Tryd.prog 40 (.code Yt):=(by kernel_rfl:dh Tryd.prog 40 Yt=true)
theorem ajD:jq Tryd.prog 41 (.code Yu):=(by kernel_rfl:dh Tryd.prog 41 Yu=true)
theorem ajE:jq Tryd.prog 42 (.ext Iy):=aar
theorem ajF:jq Tryd.prog 43 (.code aeE):=(by kernel_rfl:dh Tryd.prog 43 aeE=true)
theorem ajG:jq Tryd.prog 44 (.code Yv):=(by kernel_rfl:dh Tryd.prog 44 Yv=true)
theorem ajH:jq Tryd.prog 45 (.code Yw):=(by kernel_rfl:dh Tryd.prog 45 Yw=true)
theorem ajI:jq Tryd.prog 48 (.code Yx):=(by kernel_rfl:dh Tryd.prog 48 Yx=true)
theorem ajJ:jq Tryd.prog 49 (.code Yy):=(by kernel_rfl:dh Tryd.prog 49 Yy=true)
theorem ajK:jq Tryd.prog 50 (.code Yz):=(by kernel_rfl:dh Tryd.prog 50 Yz=true)
theorem ajL:jq Tryd.prog 51 (.code EL):=(by kernel_rfl:dh Tryd.prog 51 EL=true)
theorem ajM:jq Tryd.prog 53 (.code Md):=(by kernel_rfl:dh Tryd.prog 53 Md=true)
theorem ajN:jq Tryd.prog 56 (.code YA):=(by kernel_rfl:dh Tryd.prog 56 YA=true)
theorem ajO:jq Tryd.prog 57 (.code aeF):=(by kernel_rfl:dh Tryd.prog 57 aeF=true)
theorem ajP:jq Tryd.prog 58 (.code aeG):=(by kernel_rfl:dh Tryd.prog 58 aeG=true)
theorem ajQ:jq Tryd.prog 59 (.code aeH):=(by kernel_rfl:dh Tryd.prog 59 aeH=true)
theorem ajR:jq Tryd.prog 60 (.code aeI):=(by kernel_rfl:dh Tryd.prog 60 aeI=true)
theorem ajS:jq Tryd.prog 61 (.code aeJ):=(by kernel_rfl:dh Tryd.prog 61 aeJ=true)
theorem ajT:jq Tryd.prog 64 (.ext Mc):=afZ
theorem ajU:jq Tryd.prog 66 (.code aeK):=(by kernel_rfl:dh Tryd.prog 66 aeK=true)
theorem ajV:jq Tryd.prog 67 (.code aeL):=(by kernel_rfl:dh Tryd.prog 67 aeL=true)
theorem ajW:jq Tryd.prog 68 (.code aeM):=(by kernel_rfl:dh Tryd.prog 68 aeM=true)
theorem ajX:jq Tryd.prog 69 (.code aeN):=(by kernel_rfl:dh Tryd.prog 69 aeN=true)
theorem ajY:jq Tryd.prog 70 (.code aeO):=(by kernel_rfl:dh Tryd.prog 70 aeO=true)
theorem ajZ:jq Tryd.prog 71 (.code YB):=(by kernel_rfl:dh Tryd.prog 71 YB=true)
theorem aj0:jq Tryd.prog 72 (.code YC):=(by kernel_rfl:dh Tryd.prog 72 YC=true)
theorem aj1:jq Tryd.prog 73 (.code YD):=(by kernel_rfl:dh Tryd.prog 73 YD=true)
theorem aj2:jq Tryd.prog 74 (.code YE):=(by kernel_rfl:dh Tryd.prog 74 YE=true)
theorem aj3:jq Tryd.prog 77 (.code YF):=(by kernel_rfl:dh Tryd.prog 77 YF=true)
theorem aj6:jq Tryd.prog 78 (.code YG):=(by kernel_rfl:dh Tryd.prog 78 YG=true)
theorem aj7:jq Tryd.prog 79 (.code U0):=(by kernel_rfl:dh Tryd.prog 79 U0=true)
theorem aj8:jq Tryd.prog 80 (.code YH):=(by kernel_rfl:dh Tryd.prog 80 YH=true)
theorem aj9:jq Tryd.prog 81 (.code YI):=(by kernel_rfl:dh Tryd.prog 81 YI=true)
theorem akb:jq Tryd.prog 82 (.code YJ):=(by kernel_rfl:dh Tryd.prog 82 YJ=true)
theorem akc:jq Tryd.prog 83 (.code YK):=(by kernel_rfl:dh Tryd.prog 83 YK=true)
theorem akd:jq Tryd.prog 84 (.code YL):=(by kernel_rfl:dh Tryd.prog 84 YL=true)
theorem ake:jq Tryd.prog 87 (.code YM):=(by kernel_rfl:dh Tryd.prog 87 YM=true)
theorem akf:jq Tryd.prog 88 (.code aeP):=(by kernel_rfl:dh Tryd.prog 88 aeP=true)
theorem akg:jq Tryd.prog 90 (.code aeQ):=(by kernel_rfl:dh Tryd.prog 90 aeQ=true)
theorem akh:jq Tryd.prog 91 (.code aeR):=(by kernel_rfl:dh Tryd.prog 91 aeR=true)
theorem aki:jq Tryd.prog 92 (.code aeS):=(by kernel_rfl:dh Tryd.prog 92 aeS=true)
theorem akj:jq Tryd.prog 93 (.code aeT):=(by kernel_rfl:dh Tryd.prog 93 aeT=true)
theorem akk:jq Tryd.prog 94 (.code Qe):=(by kernel_rfl:dh Tryd.prog 94 Qe=true)
theorem akl:jq Tryd.prog 95 (.code YN):=(by kernel_rfl:dh Tryd.prog 95 YN=true)
theorem akm:jq Tryd.prog 96 (.code YO):=(by kernel_rfl:dh Tryd.prog 96 YO=true)
theorem akn:jq Tryd.prog 99 (.code Me):=(by kernel_rfl:dh Tryd.prog 99 Me=true)
theorem ah9:jq Tryd.prog 100 (.code MB):=(by kernel_rfl:dh Tryd.prog 100 MB=true)
theorem aia:jq Tryd.prog 101 (.code MC):=(by kernel_rfl:dh Tryd.prog 101 MC=true)
theorem aib:jq Tryd.prog 102 (.code MF):=(by kernel_rfl:dh Tryd.prog 102 MF=true)
theorem aic:jq Tryd.prog 103 (.code MG):=(by kernel_rfl:dh Tryd.prog 103 MG=true)
theorem aie:jq Tryd.prog 104 (.code MH):=(by kernel_rfl:dh Tryd.prog 104 MH=true)
theorem aif:jq Tryd.prog 105 (.code MI):=(by kernel_rfl:dh Tryd.prog 105 MI=true)
theorem aii:jq Tryd.prog 106 (.code YP):=(by kernel_rfl:dh Tryd.prog 106 YP=true)
theorem aij:jq Tryd.prog 107 (.code CZ):=(by kernel_rfl:dh Tryd.prog 107 CZ=true)
theorem aik:jq Tryd.prog 108 (.code MJ):=(by kernel_rfl:dh Tryd.prog 108 MJ=true)
theorem ail:jq Tryd.prog 109 (.code MK):=(by kernel_rfl:dh Tryd.prog 109 MK=true)
theorem ain:jq Tryd.prog 110 (.code Gf):=(by kernel_rfl:dh Tryd.prog 110 Gf=true)
theorem aio:jq Tryd.prog 111 (.ext tzX):=agT
theorem aip:jq Tryd.prog 112 (.code ML):=(by kernel_rfl:dh Tryd.prog 112 ML=true)
theorem aiq:jq Tryd.prog 113 (.code zW):=(by kernel_rfl:dh Tryd.prog 113 zW=true)
theorem air:jq Tryd.prog 114 (.code MN):=(by kernel_rfl:dh Tryd.prog 114 MN=true)
theorem ais:∀ p∈tab,jq Tryd.prog p.1 p.2:=by
 unfold tab
 exact List.forall_mem_cons.2 ⟨ajo,List.forall_mem_cons.2 ⟨ajp,List.forall_mem_cons.2 ⟨ajq,List.forall_mem_cons.2 ⟨ajr,List.forall_mem_cons.2 ⟨ajs,List.forall_mem_cons.2 ⟨ajt,List.forall_mem_cons.2 ⟨aju,List.forall_mem_cons.2 ⟨ajv,List.forall_mem_cons.2 ⟨ajw,List.forall_mem_cons.2 ⟨ajx,List.forall_mem_cons.2 ⟨ok32,List.forall_mem_cons.2 ⟨ajy,List.forall_mem_cons.2 ⟨ajz,List.forall_mem_cons.2 ⟨ajA,List.forall_mem_cons.2 ⟨ajB,List.forall_mem_cons.2 ⟨ajC,List.forall_mem_cons.2 ⟨ajD,List.forall_mem_cons.2 ⟨ajE,List.forall_mem_cons.2 ⟨ajF,List.forall_mem_cons.2 ⟨ajG,List.forall_mem_cons.2 ⟨ajH,List.forall_mem_cons.2 ⟨ajI,List.forall_mem_cons.2 ⟨ajJ,List.forall_mem_cons.2 ⟨ajK,List.forall_mem_cons.2 ⟨ajL,List.forall_mem_cons.2 ⟨ajM,List.forall_mem_cons.2 ⟨ajN,List.forall_mem_cons.2 ⟨ajO,List.forall_mem_cons.2 ⟨ajP,List.forall_mem_cons.2 ⟨ajQ,List.forall_mem_cons.2 ⟨ajR,List.forall_mem_cons.2 ⟨ajS,List.forall_mem_cons.2 ⟨ajT,List.forall_mem_cons.2 ⟨ajU,List.forall_mem_cons.2 ⟨ajV,List.forall_mem_cons.2 ⟨ajW,List.forall_mem_cons.2 ⟨ajX,List.forall_mem_cons.2 ⟨ajY,List.forall_mem_cons.2 ⟨ajZ,List.forall_mem_cons.2 ⟨aj0,List.forall_mem_cons.2 ⟨aj1,List.forall_mem_cons.2 ⟨aj2,List.forall_mem_cons.2 ⟨aj3,List.forall_mem_cons.2 ⟨aj6,List.forall_mem_cons.2 ⟨aj7,List.forall_mem_cons.2 ⟨aj8,List.forall_mem_cons.2 ⟨aj9,List.forall_mem_cons.2 ⟨akb,List.forall_mem_cons.2 ⟨akc,List.forall_mem_cons.2 ⟨akd,List.forall_mem_cons.2 ⟨ake,List.forall_mem_cons.2 ⟨akf,List.forall_mem_cons.2 ⟨akg,List.forall_mem_cons.2 ⟨akh,List.forall_mem_cons.2 ⟨aki,List.forall_mem_cons.2 ⟨akj,List.forall_mem_cons.2 ⟨akk,List.forall_mem_cons.2 ⟨akl,List.forall_mem_cons.2 ⟨akm,List.forall_mem_cons.2 ⟨akn,List.forall_mem_cons.2 ⟨ah9,List.forall_mem_cons.2 ⟨aia,List.forall_mem_cons.2 ⟨aib,List.forall_mem_cons.2 ⟨aic,List.forall_mem_cons.2 ⟨aie,List.forall_mem_cons.2 ⟨aif,List.forall_mem_cons.2 ⟨aii,List.forall_mem_cons.2 ⟨aij,List.forall_mem_cons.2 ⟨aik,List.forall_mem_cons.2 ⟨ail,List.forall_mem_cons.2 ⟨ain,List.forall_mem_cons.2 ⟨aio,List.forall_mem_cons.2 ⟨aip,List.forall_mem_cons.2 ⟨aiq,List.forall_mem_cons.2 ⟨air,fun p hp=>by cases hp⟩⟩⟩⟩⟩⟩⟩⟩⟩⟩⟩⟩⟩⟩⟩⟩⟩⟩⟩⟩⟩⟩⟩⟩⟩⟩⟩⟩⟩⟩⟩⟩⟩⟩⟩⟩⟩⟩⟩⟩⟩⟩⟩⟩⟩⟩⟩⟩⟩⟩⟩⟩⟩⟩⟩⟩⟩⟩⟩⟩⟩⟩⟩⟩⟩⟩⟩⟩⟩⟩⟩⟩⟩⟩⟩
theorem Ee:∀ {l:List (Nat × Wj)} {f:Nat} {d:Wj},l.lookup f=some d→(f,d)∈l
 |(k,v) :: l,f,d,h=>by
  rw [List.lookup_cons] at h
  split at h
  ·rename_i e
   have e:f=k:=by simpa using e
   cases h;subst e;simp
  ·exact List.mem_cons_of_mem _ (Ee h)
theorem ait:CB Tryd.prog env:=fun f d h=>by
 have:=ais _ (Ee h)
 cases d<;>exact this
end Go.Proofs.YtaaokejjmdbfaaaDoor

namespace Go.Proofs.YtaaokejjmdbfaaaDoor
open Go.RowKit
theorem VX:(Rows.laid_math_bits_deBruijn64tab:DataW Unit)=Lib.tabData .u8 (Lib.deBruijn64tab.map Int.ofNat):=by kernel_rfl
theorem aiu:Tryd.prog.globalNamed "math/bits.deBruijn64tab"=some 0:=by kernel_rfl
theorem Ef {w:World} {l:List (String × DataW Unit)} (hl:l=[("math/bits.deBruijn64tab",Rows.laid_math_bits_deBruijn64tab)]) (h:laidMetH Tryd.prog l w):JC w:=by
 subst hl
 rw [MakeChecks.laidMetH_plain _ _ _ (by kernel_rfl),VX] at h
 have ht:Lib.TabIs Tryd.prog w "math/bits.deBruijn64tab" .u8 (Lib.deBruijn64tab.map Int.ofNat) :=
  Lib.tabIs_of_head (t:=167) (e:=5) (n:=64) aiu (by kernel_rfl) (by kernel_rfl) (by kernel_rfl) (by kernel_rfl) (by kernel_rfl) h
 have hc:∀ i,i<64→w.cell? ⟨0,i,none⟩=some (.int .u8 ((Lib.deBruijn64tab.map Int.ofNat).getD i 0)):=fun i hi=>ht.cell aiu i (by simpa [Lib.deBruijn64tab] using hi)
 have hC:dF w 0:=DT (hc 0 (by decide))
 intro p hp
 obtain rfl:p=_:=List.mem_singleton.1 hp
 refine .dY _ 0 _ 0 (fun i=>.int .u8 ((Lib.deBruijn64tab.map Int.ofNat).getD i 0)) (if_pos hC.lt) hC (fun k x hk=>?_) (fun k x hk=>?_)
 ·have hk':=(List.getElem?_eq_some_iff.1 hk).1
  rw [Nat.zero_add]
  exact ⟨hc k (by simpa [Lib.deBruijn64tab] using hk'),rfl⟩
 ·simp only [List.getElem?_map] at hk
  cases e:Lib.deBruijn64tab[k]? with
  |none=>rw [e] at hk;cases hk
  |some n =>
   rw [e] at hk;cases hk
   have:(Lib.deBruijn64tab.map Int.ofNat).getD k 0=(n:Int):=by simp [List.getD_eq_getElem?_getD,e]
   rw [this]
   exact .int _ _
end Go.Proofs.YtaaokejjmdbfaaaDoor

namespace Go.Proofs.YtaaokejjmdbfaaaDoor.V
open Go.RowKit Go.ChangeShapes Go.WideShapes Go.ChangeAt
theorem Tryd.aas:ownKnob Tryd.prog.godebug=none:=by kernel_rfl
theorem Tryd.Eh:laidOutB Tryd.prog=true:=by kernel_rfl
def okI (n:Int):Prop:=-9223372036854775808≤n∧n≤9223372036854775807
theorem NP {q:PV} (h:SInt .i64 [q]):∃ n,okI n∧q=eI n:=by
 obtain ⟨n,h1,h2⟩:=h
 have h3:IntKind.i64.min=-9223372036854775808:=rfl
 have h4:IntKind.i64.max=9223372036854775807:=rfl
 simp only [Lit.wf,Bool.and_eq_true,decide_eq_true_eq] at h1
 cases h2
 exact ⟨n,⟨by omega,by omega⟩,rfl⟩
theorem Sr {q:PV} (h:SInt .u8 [q]):∃ b:UInt8,q=.int .u8 (b.toNat:Int):=by
 obtain ⟨n,h1,h2⟩:=h
 have h3:IntKind.u8.min=0:=rfl
 have h4:IntKind.u8.max=255:=rfl
 simp only [Lit.wf,Bool.and_eq_true,decide_eq_true_eq] at h1
 cases h2
 refine ⟨UInt8.ofNat n.toNat,?_⟩
 rw [UInt8.toNat_ofNat_of_lt' (show n.toNat<2 ^ 8 by omega)]
 congr 1;omega
def af2:List PV→Prop:=ahM 8 (SInt .u8)
theorem ako {ps:List PV} (h:af2 ps):∃ s:dD,ps=lT s:=by
 obtain ⟨h1,h2⟩:=h
 have:∀ l:List PV,(∀ p∈l,SInt .u8 [p])→∃ m:List UInt8,m.length=l.length∧l=m.map fun b=>.int .u8 (b.toNat:Int):=by
  intro l
  induction l with
  |nil=>exact fun _=>⟨[],rfl,rfl⟩
  |cons p l ih =>
   intro h
   obtain ⟨b,hb⟩:=Sr (h p (by simp))
   obtain ⟨m,e1,e2⟩:=ih fun q hq=>h q (by simp [hq])
   exact ⟨b :: m,by simp [e1],by rw [hb,e2];rfl⟩
 obtain ⟨m,e1,e2⟩:=this ps h2
 refine ⟨⟨m.toArray,by simp [e1,h1]⟩,?_⟩
 subst e2
 simp [lT,Vector.toList]
theorem Sv {α:Type} {n:Nat} {S:List PV→Prop} {wr:List PV→PV} {enc:α→PV} {ok:α→Prop} (hS:∀ ps,S ps→∃ a,ok a∧wr ps=enc a) {q:PV} (h:DR n S wr [q]):∃ l:List α,(∀ a∈l,ok a)∧q=.list n (l.map enc):=by
 obtain ⟨es,h1,h2⟩:=h
 cases h1
 have:∀ es:List PV,(∀ x∈es,∃ q,S q∧x=wr q)→∃ l:List α,(∀ a∈l,ok a)∧es=l.map enc:=by
  intro es
  induction es with
  |nil=>exact fun _=>⟨[],by simp,rfl⟩
  |cons e es ih =>
   intro h
   obtain ⟨q,h3,h4⟩:=h e (by simp)
   obtain ⟨a,h5,h6⟩:=hS q h3
   obtain ⟨l,h7,h8⟩:=ih fun x hx=>h x (by simp [hx])
   exact ⟨a :: l,by simp;exact ⟨h5,h7⟩,by rw [h4,h6,h8];rfl⟩
 obtain ⟨l,h3,h4⟩:=this es h2
 exact ⟨l,h3,by rw [h4]⟩
theorem Sz {n:Nat} {S:List PV→Prop} {wr:List PV→PV} {ps:List PV} (h:DR n S wr ps):(wrS ps).cells=ps:=by
 obtain ⟨es,rfl,_⟩:=h;rfl
def SA:List PV→Prop:=DR 8 af2 .agg
theorem adT {q:PV} (h:SA [q]):∃ l:List dD,q=bg l:=by
 obtain ⟨l,_,e⟩:=Sv (enc:=iT) (ok:=fun _=>True) (fun ps h=>by obtain ⟨s,rfl⟩:=ako h;exact ⟨s,trivial,rfl⟩) h
 exact ⟨l,e⟩
def aiv:List PV→Prop:=DR 1 SA wrS
theorem akp {q:PV} (h:aiv [q]):∃ l:jk,q=.list 1 (l.map bg):=by
 obtain ⟨l,_,e⟩:=Sv (enc:=bg) (ok:=fun _=>True) (fun ps h=>by
  obtain ⟨es,rfl,h2⟩:=h
  obtain ⟨l,e⟩:=adT (q:=.list 8 es) ⟨es,rfl,h2⟩
  exact ⟨l,trivial,e⟩) h
 exact ⟨l,e⟩
theorem Tryd.adU:iK Tryd.prog 3 1 (SInt .i64):=iK.int Tryd.underlying3 (by kernel_rfl)
theorem Tryd.aiw:iK Tryd.prog 5 1 (SInt .u8):=iK.int Tryd.underlying5 (by kernel_rfl)
theorem Tryd.aix:iK Tryd.prog 78 8 af2:=iK.arr Tryd.underlying78 Tryd.aiw (by kernel_rfl)
theorem Tryd.aat:iK Tryd.prog 76 1 SA:=iK.list Tryd.underlying76 (by kernel_rfl) Tryd.aix (by decide) (fun _ _ _=>rfl)
theorem Tryd.aiy:iK Tryd.prog 25 1 aiv:=iK.list Tryd.underlying25 (by kernel_rfl) Tryd.aat (by decide) (fun _ h _=>Sz h)
end Go.Proofs.YtaaokejjmdbfaaaDoor.V

namespace Go.Proofs.YtaaokejjmdbfaaaDoor.V
open Go.RowKit Go.ChangeShapes Go.WideShapes Go.ChangeAt
theorem su8 {q:PV} (h:SInt .u8 [q]):∃ c:Nat,c<256∧q=.int .u8 (c:Int):=by
 obtain ⟨b,e⟩:=Sr h
 exact ⟨b.toNat,b.toNat_lt,e⟩
theorem SB {n:Int} (h:okI n):kW n=true:=by
 unfold okI at h
 simp only [kW,Bool.and_eq_true,decide_eq_true_eq];exact h
def SWr:List PV→Prop:=Qu [SInt .i64,SInt .i64,SA]
theorem swr {ps:List PV} (h:SWr ps):∃ x:iy,(kW x.volume=true∧kW x.start=true)∧PV.agg ps=oz x:=by
 obtain ⟨p,q,rfl,⟨n,h1,rfl⟩,p2,q2,rfl,⟨m,h2,rfl⟩,p3,q3,rfl,h3,rfl⟩:=h
 obtain ⟨a,o1,e1⟩:=NP ⟨n,h1,rfl⟩
 obtain ⟨b,o2,e2⟩:=NP ⟨m,h2,rfl⟩
 obtain ⟨es,rfl,h4⟩:=h3
 obtain ⟨l,e3⟩:=adT (q:=.list 8 es) ⟨es,rfl,h4⟩
 refine ⟨⟨a,b,l⟩,⟨SB o1,SB o2⟩,?_⟩
 rw [e1,e2,e3];rfl
def af4:List PV→Prop:=DR 3 SWr .agg
theorem akr {q:PV} (h:af4 [q]):∃ l:List iy,okW l∧q=.list 3 (l.map oz) :=
 Sv (enc:=oz) (ok:=fun x=>kW x.volume=true∧kW x.start=true) (fun ps h=>swr h) h
theorem Tryd.aks:iK Tryd.prog 87 3 SWr:=iK.acT Tryd.underlying87 Tryd.adU Tryd.adU Tryd.aat rfl rfl rfl (by kernel_rfl)
theorem Tryd.aiz:iK Tryd.prog 50 1 af4:=iK.list Tryd.underlying50 (by kernel_rfl) Tryd.aks (by decide) (fun _ _ _=>rfl)
end Go.Proofs.YtaaokejjmdbfaaaDoor.V

namespace Go.Proofs.YtaaokejjmdbfaaaDoor
open V
open Go.RowKit Go.ChangeShapes Go.WideShapes Go.ChangeAt
theorem iK.Ai {P:Program} {t e:TypeId} {m:Nat} {S:List PV→Prop} (ht:P.underlying t=some (.array 2 e)) (he:iK P e m S) (hc:P.cellsOf t=2 * m):iK P t (2 * m) (Qu [S,S]):=⟨hc,fun {H enc w fuel cs x} h=>by
 obtain ⟨xs,mm,_,_,hl,hx,hE⟩:=DataW.trod_array ht h
 rw [hc] at hl
 have h0:=hE 0 (by decide)
 have h1:=hE 1 (by decide)
 rw [List.getElem?_eq_getElem (by omega),he.1] at h0 h1
 obtain ⟨p0,g1,g2,g3,g4,g5⟩:=he.2 h0
 obtain ⟨p1,k1,k2,k3,k4,k5⟩:=he.2 h1
 have hcs:cs=(cs.drop (0 * m)).take m++(cs.drop (1 * m)).take m:=by
  rw [Nat.zero_mul,List.drop_zero,Nat.one_mul,List.take_of_length_le (l:=cs.drop m) (by rw [List.length_drop];omega),List.take_append_drop]
 have hl0:((cs.drop (0 * m)).take m).length=m:=by rw [g3,g2]
 refine ⟨p0++p1,⟨p0,p1,rfl,g1,p1,[],by simp,k1,rfl⟩,by rw [List.length_append,g2,k2];omega,?_⟩
 rw [hcs]
 refine ⟨by rw [List.length_append,List.length_append,g3,k3],fun c hc=>?_,fun j x v hx hv=>?_⟩
 ·rcases List.mem_append.1 hc with hc|hc
  ·exact g4 c hc
  ·exact k4 c hc
 ·by_cases hj:j<m
  ·rw [List.getElem?_append_left (by omega)] at hx
   rw [List.getElem?_append_left (by omega)] at hv
   exact g5 j x v hx hv
  ·rw [List.getElem?_append_right (by omega),g2] at hx
   rw [List.getElem?_append_right (by omega),hl0] at hv
   exact k5 (j - m) x v hx hv⟩
end Go.Proofs.YtaaokejjmdbfaaaDoor

namespace Go.Proofs.YtaaokejjmdbfaaaDoor
open V
open Go.RowKit Go.ChangeShapes Go.WideShapes Go.ChangeAt
def adV:List PV→Prop:=DR 1 af4 wrS
theorem aiA {q:PV} (h:adV [q]):∃ l:List (List iy),(∀ x∈l,okW x)∧q=.list 1 (l.map V8) :=
 Sv (enc:=V8) (ok:=okW) (fun ps h=>by
  obtain ⟨es,rfl,h2⟩:=h
  exact akr (q:=.list 3 es) ⟨es,rfl,h2⟩) h
theorem Tryd.af5:iK Tryd.prog 69 1 adV:=iK.list Tryd.underlying69 (by kernel_rfl) Tryd.aiz (by decide) (fun _ h _=>Sz h)
def S2u:List PV→Prop:=Qu [SInt .u8,SInt .u8]
theorem s2u {ps:List PV} (h:S2u ps):∃ x:Nat × Nat,(x.1<256∧x.2<256)∧PV.agg ps=.agg [.int .u8 (x.1:Int),.int .u8 (x.2:Int)]:=by
 obtain ⟨p,q,rfl,⟨n,h1,rfl⟩,p2,q2,rfl,⟨n2,h2,rfl⟩,rfl⟩:=h
 obtain ⟨a,ha,e1⟩:=su8 ⟨n,h1,rfl⟩
 obtain ⟨b,hb,e2⟩:=su8 ⟨n2,h2,rfl⟩
 refine ⟨(a,b),⟨ha,hb⟩,?_⟩
 rw [e1,e2];rfl
theorem Tryd.akt:iK Tryd.prog 70 2 S2u:=iK.Ai Tryd.underlying70 Tryd.aiw (by kernel_rfl)
end Go.Proofs.YtaaokejjmdbfaaaDoor
