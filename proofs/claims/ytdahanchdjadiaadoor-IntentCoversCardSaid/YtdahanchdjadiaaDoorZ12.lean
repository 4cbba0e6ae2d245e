/-
  Part 12 of the texts that the statement stands on.
-/
import Derived.Test.YtdahanchdjadiaaDoorZ11
import Derived.Test.YtdahanchdjadiaaDoorRows
import Derived.Lib.LaidTab
import Derived.LaidByTextLater
set_option linter.all false
namespace Go.Proofs.YtdahanchdjadiaaDoor
def jI (P:Program) (f:Nat):VZ→Prop
 |.code fn=>bV P f fn=true
 |.ext g=>∀ args rs,g args=some rs→callable P f=true∧pz P f args rs
 |.Ec h=>callable P f=true∧G7 P f h
 |.nZ h=>(∀ args,h args=some none→callable P f=true∧pz P f args [])∧∀ args t n,h args=some (some (t,n))→callable P f=true∧Qs P f args t n
 |.dfn _=>False
theorem ok4:jI Tryd.prog 4 (.code fn4):=(by kernel_rfl:bV Tryd.prog 4 fn4=true)
theorem ok8:jI Tryd.prog 8 (.code fn8):=(by kernel_rfl:bV Tryd.prog 8 fn8=true)
theorem ok9:jI Tryd.prog 9 (.code fn9):=(by kernel_rfl:bV Tryd.prog 9 fn9=true)
theorem ajo:jI Tryd.prog 12 (.code UD):=(by kernel_rfl:bV Tryd.prog 12 UD=true)
theorem ajp:jI Tryd.prog 13 (.code Bj):=(by kernel_rfl:bV Tryd.prog 13 Bj=true)
theorem ajq:jI Tryd.prog 14 (.code X8):=(by kernel_rfl:bV Tryd.prog 14 X8=true)
theorem ajr:jI Tryd.prog 15 (.code X9):=(by kernel_rfl:bV Tryd.prog 15 X9=true)
theorem ok16:jI Tryd.prog 16 (.code UE):=(by kernel_rfl:bV Tryd.prog 16 UE=true)
theorem ajs:jI Tryd.prog 17 (.code Ya):=(by kernel_rfl:bV Tryd.prog 17 Ya=true)
theorem ajt:jI Tryd.prog 18 (.code UF):=(by kernel_rfl:bV Tryd.prog 18 UF=true)
theorem aju:jI Tryd.prog 19 (.code zL):=(by kernel_rfl:bV Tryd.prog 19 zL=true)
theorem ajv:jI Tryd.prog 25 (.code Yb):=(by kernel_rfl:bV Tryd.prog 25 Yb=true)
theorem ajw:jI Tryd.prog 26 (.code UG):=(by kernel_rfl:bV Tryd.prog 26 UG=true)
theorem ajx:jI Tryd.prog 27 (.code LC):=(by kernel_rfl:bV Tryd.prog 27 LC=true)
theorem ajy:jI Tryd.prog 28 (.code Yc):=(by kernel_rfl:bV Tryd.prog 28 Yc=true)
theorem ajz:jI Tryd.prog 29 (.code Po):=(by kernel_rfl:bV Tryd.prog 29 Po=true)
theorem ajA:jI Tryd.prog 33 (.code Iw):=(by kernel_rfl:bV Tryd.prog 33 Iw=true)
theorem ajB:jI Tryd.prog 34 (.code Yd):=(by kernel_rfl:bV Tryd.prog 34 Yd=true)
theorem ajC:jI Tryd.prog 35 (.code Ye):=(by kernel_rfl:bV Tryd.prog 35 Ye=true)
theorem ajD:jI Tryd.prog 36 (.code Yf):=(by kernel_rfl:bV Tryd.prog 36 Yf=true)
theorem ajE:jI Tryd.prog 37 (.code UH):=(by kernel_rfl:bV Tryd.prog 37 UH=true)
theorem ajF:jI Tryd.prog 38 (.code LD):=(by kernel_rfl:bV Tryd.prog 38 LD=true)
theorem ajG:jI Tryd.prog 39 (.code UJ):=(by kernel_rfl:bV Tryd.prog 39 UJ=true)
theorem ajH:jI Tryd.prog 40 (.code Yg):=(by kernel_rfl:bV Tryd.prog 40 Yg=true)
theorem ajI:jI Tryd.prog 41 (.code LG):=(by kernel_rfl:bV Tryd.prog 41 LG=true)
theorem ajJ:jI Tryd.prog 42 (.code Yh):=(by kernel_rfl:bV Tryd.prog 42 Yh=true)
theorem ajK:jI Tryd.prog 43 (.code UK):=(by kernel_rfl:bV Tryd.prog 43 UK=true)
theorem ajL:jI Tryd.prog 44 (.ext (kZ 1)):=Qb
theorem ajM:jI Tryd.prog 45 (.code Yi):=(by kernel_rfl:bV Tryd.prog 45 Yi=true)
theorem ajN:jI Tryd.prog 46 (.code Yj):=(by kernel_rfl:bV Tryd.prog 46 Yj=true)
theorem ajO:jI Tryd.prog 47 (.code Yk):=(by kernel_rfl:bV Tryd.prog 47 Yk=true)
theorem ajP:jI Tryd.prog 48 (.code Pq):=(by kernel_rfl:bV Tryd.prog 48 Pq=true)
theorem ajQ:jI Tryd.prog 49 (.code Pv):=(by kernel_rfl:bV Tryd.prog 49 Pv=true)
theorem ajR:jI Tryd.prog 50 (.code Yl):=(by kernel_rfl:bV Tryd.prog 50 Yl=true)
theorem ajS:jI Tryd.prog 51 (.code LH):=(by kernel_rfl:bV Tryd.prog 51 LH=true)
theorem ajT:jI Tryd.prog 52 (.code Ym):=(by kernel_rfl:bV Tryd.prog 52 Ym=true)
theorem ajU:jI Tryd.prog 56 (.code Yn):=(by kernel_rfl:bV Tryd.prog 56 Yn=true)
theorem ajV:jI Tryd.prog 57 (.code EF):=(by kernel_rfl:bV Tryd.prog 57 EF=true)
theorem ajW:jI Tryd.prog 58 (.code Px):=(by kernel_rfl:bV Tryd.prog 58 Px=true)
theorem ajX:jI Tryd.prog 59 (.ext (kZ 1)):=Qg
theorem ajY:jI Tryd.prog 60 (.code Yo):=(by kernel_rfl:bV Tryd.prog 60 Yo=true)
theorem ajZ:jI Tryd.prog 61 (.code Yp):=(by kernel_rfl:bV Tryd.prog 61 Yp=true)
theorem aj0:jI Tryd.prog 62 (.code Yq):=(by kernel_rfl:bV Tryd.prog 62 Yq=true)
theorem aj1:jI Tryd.prog 63 (.code IJ):=(by kernel_rfl:bV Tryd.prog 63 IJ=true)
theorem aj2:jI Tryd.prog 64 (.code UL):=(by kernel_rfl:bV Tryd.prog 64 UL=true)
theorem aj3:jI Tryd.prog 65 (.code Yr):=(by kernel_rfl:bV Tryd.prog 65 Yr=true)
theorem aj6:jI Tryd.prog 66 (.code Py):=(by kernel_rfl:bV Tryd.prog 66 Py=true)
theorem aj7:jI Tryd.prog 67 (.code Yt):=(by kernel_rfl:bV Tryd.prog 67 Yt=true)
theorem aj8:jI Tryd.prog 68 (.code UM):=(by kernel_rfl:bV Tryd.prog 68 UM=true)
theorem aj9:jI Tryd.prog 69 (.code Yu):=(by kernel_rfl:bV Tryd.prog 69 Yu=true)
theorem akb:jI Tryd.prog 70 (.code UN):=(by kernel_rfl:bV Tryd.prog 70 UN=true)
theorem akc:jI Tryd.prog 71 (.code Yv):=(by kernel_rfl:bV Tryd.prog 71 Yv=true)
theorem akd:jI Tryd.prog 72 (.code Yw):=(by kernel_rfl:bV Tryd.prog 72 Yw=true)
theorem ake:jI Tryd.prog 73 (.code Yx):=(by kernel_rfl:bV Tryd.prog 73 Yx=true)
theorem akf:jI Tryd.prog 74 (.code Yy):=(by kernel_rfl:bV Tryd.prog 74 Yy=true)
theorem akg:jI Tryd.prog 75 (.code Yz):=(by kernel_rfl:bV Tryd.prog 75 Yz=true)
theorem akh:jI Tryd.prog 76 (.code YA):=(by kernel_rfl:bV Tryd.prog 76 YA=true)
theorem aki:jI Tryd.prog 77 (.code YB):=(by kernel_rfl:bV Tryd.prog 77 YB=true)
theorem akj:jI Tryd.prog 78 (.code UO):=(by kernel_rfl:bV Tryd.prog 78 UO=true)
theorem akk:jI Tryd.prog 79 (.ext tzX):=agF
theorem akl:jI Tryd.prog 80 (.code LJ):=(by kernel_rfl:bV Tryd.prog 80 LJ=true)
theorem akm:jI Tryd.prog 81 (.ext (kZ 1)):=Qd
theorem akn:jI Tryd.prog 82 (.code YC):=(by kernel_rfl:bV Tryd.prog 82 YC=true)
theorem ako:jI Tryd.prog 83 (.code YD):=(by kernel_rfl:bV Tryd.prog 83 YD=true)
theorem akp:jI Tryd.prog 84 (.code YE):=(by kernel_rfl:bV Tryd.prog 84 YE=true)
theorem akq:jI Tryd.prog 85 (.code YF):=(by kernel_rfl:bV Tryd.prog 85 YF=true)
theorem akr:jI Tryd.prog 86 (.code YG):=(by kernel_rfl:bV Tryd.prog 86 YG=true)
theorem aks:jI Tryd.prog 87 (.code LK):=(by kernel_rfl:bV Tryd.prog 87 LK=true)
theorem akt:jI Tryd.prog 88 (.Ec (lF 89)):=MJ
theorem aku:jI Tryd.prog 89 (.code aeQ):=(by kernel_rfl:bV Tryd.prog 89 aeQ=true)
theorem akv:jI Tryd.prog 90 (.code aeR):=(by kernel_rfl:bV Tryd.prog 90 aeR=true)
theorem akw:jI Tryd.prog 93 (.code aeS):=(by kernel_rfl:bV Tryd.prog 93 aeS=true)
theorem aiq:∀ p∈tab,jI Tryd.prog p.1 p.2:=by
 unfold tab
 exact List.forall_mem_cons.2 ⟨ok4,List.forall_mem_cons.2 ⟨ok8,List.forall_mem_cons.2 ⟨ok9,List.forall_mem_cons.2 ⟨ajo,List.forall_mem_cons.2 ⟨ajp,List.forall_mem_cons.2 ⟨ajq,List.forall_mem_cons.2 ⟨ajr,List.forall_mem_cons.2 ⟨ok16,List.forall_mem_cons.2 ⟨ajs,List.forall_mem_cons.2 ⟨ajt,List.forall_mem_cons.2 ⟨aju,List.forall_mem_cons.2 ⟨ajv,List.forall_mem_cons.2 ⟨ajw,List.forall_mem_cons.2 ⟨ajx,List.forall_mem_cons.2 ⟨ajy,List.forall_mem_cons.2 ⟨ajz,List.forall_mem_cons.2 ⟨ajA,List.forall_mem_cons.2 ⟨ajB,List.forall_mem_cons.2 ⟨ajC,List.forall_mem_cons.2 ⟨ajD,List.forall_mem_cons.2 ⟨ajE,List.forall_mem_cons.2 ⟨ajF,List.forall_mem_cons.2 ⟨ajG,List.forall_mem_cons.2 ⟨ajH,List.forall_mem_cons.2 ⟨ajI,List.forall_mem_cons.2 ⟨ajJ,List.forall_mem_cons.2 ⟨ajK,List.forall_mem_cons.2 ⟨ajL,List.forall_mem_cons.2 ⟨ajM,List.forall_mem_cons.2 ⟨ajN,List.forall_mem_cons.2 ⟨ajO,List.forall_mem_cons.2 ⟨ajP,List.forall_mem_cons.2 ⟨ajQ,List.forall_mem_cons.2 ⟨ajR,List.forall_mem_cons.2 ⟨ajS,List.forall_mem_cons.2 ⟨ajT,List.forall_mem_cons.2 ⟨ajU,List.forall_mem_cons.2 ⟨ajV,List.forall_mem_cons.2 ⟨ajW,List.forall_mem_cons.2 ⟨ajX,List.forall_mem_cons.2 ⟨ajY,List.forall_mem_cons.2 ⟨ajZ,List.forall_mem_cons.2 ⟨aj0,List.forall_mem_cons.2 ⟨aj1,List.forall_mem_cons.2 ⟨aj2,List.forall_mem_cons.2 ⟨aj3,List.forall_mem_cons.2 ⟨aj6,List.forall_mem_cons.2 ⟨aj7,List.forall_mem_cons.2 ⟨aj8,List.forall_mem_cons.2 ⟨aj9,List.forall_mem_cons.2 ⟨akb,List.forall_mem_cons.2 ⟨akc,List.forall_mem_cons.2 ⟨akd,List.forall_mem_cons.2 ⟨ake,List.forall_mem_cons.2 ⟨akf,List.forall_mem_cons.2 ⟨akg,List.forall_mem_cons.2 ⟨akh,List.forall_mem_cons.2 ⟨aki,List.forall_mem_cons.2 ⟨akj,List.forall_mem_cons.2 ⟨akk,List.forall_mem_cons.2 ⟨akl,List.forall_mem_cons.2 ⟨akm,List.forall_mem_cons.2 ⟨akn,List.forall_mem_cons.2 ⟨ako,List.forall_mem_cons.2 ⟨akp,List.forall_mem_cons.2 ⟨akq,List.forall_mem_cons.2 ⟨akr,List.forall_mem_cons.2 ⟨aks,List.forall_mem_cons.2 ⟨akt,List.forall_mem_cons.2 ⟨aku,List.forall_mem_cons.2 ⟨akv,List.forall_mem_cons.2 ⟨akw,fun p hp=>by cases hp⟩⟩⟩⟩⟩⟩⟩⟩⟩⟩⟩⟩⟩⟩⟩⟩⟩⟩⟩⟩⟩⟩⟩⟩⟩⟩⟩⟩⟩⟩⟩⟩⟩⟩⟩⟩⟩⟩⟩⟩⟩⟩⟩⟩⟩⟩⟩⟩⟩⟩⟩⟩⟩⟩⟩⟩⟩⟩⟩⟩⟩⟩⟩⟩⟩⟩⟩⟩⟩⟩⟩⟩
theorem D9:∀ {l:List (Nat × VZ)} {f:Nat} {d:VZ},l.lookup f=some d→(f,d)∈l
 |(k,v) :: l,f,d,h=>by
  rw [List.lookup_cons] at h
  split at h
  ·rename_i e
   have e:f=k:=by simpa using e
   cases h;subst e;simp
  ·exact List.mem_cons_of_mem _ (D9 h)
theorem air:AB Tryd.prog env:=fun f d h=>by
 have:=aiq _ (D9 h)
 cases d<;>exact this
end Go.Proofs.YtdahanchdjadiaaDoor

namespace Go.Proofs.YtdahanchdjadiaaDoor
open Go.RowKit
theorem VJ:(Rows.laid_math_bits_deBruijn64tab:DataW Unit)=Lib.tabData .u8 (Lib.deBruijn64tab.map Int.ofNat):=by kernel_rfl
theorem ais:Tryd.prog.globalNamed "math/bits.deBruijn64tab"=some 0:=by kernel_rfl
theorem Ea {w:World} {l:List (String × DataW Unit)} (hl:l=[("math/bits.deBruijn64tab",Rows.laid_math_bits_deBruijn64tab)]) (h:laidMetH Tryd.prog l w):Jy w:=by
 subst hl
 rw [MakeChecks.laidMetH_plain _ _ _ (by kernel_rfl),VJ] at h
 have ht:Lib.TabIs Tryd.prog w "math/bits.deBruijn64tab" .u8 (Lib.deBruijn64tab.map Int.ofNat) :=
  Lib.tabIs_of_head (t:=136) (e:=5) (n:=64) ais (by kernel_rfl) (by kernel_rfl) (by kernel_rfl) (by kernel_rfl) (by kernel_rfl) h
 have hc:∀ i,i<64→w.cell? ⟨0,i,none⟩=some (.int .u8 ((Lib.deBruijn64tab.map Int.ofNat).getD i 0)):=fun i hi=>ht.cell ais i (by simpa [Lib.deBruijn64tab] using hi)
 have hC:cO w 0:=D7 (hc 0 (by decide))
 intro p hp
 obtain rfl:p=_:=List.mem_singleton.1 hp
 refine .dH _ 0 _ 0 (fun i=>.int .u8 ((Lib.deBruijn64tab.map Int.ofNat).getD i 0)) (if_pos hC.lt) hC (fun k x hk=>?_) (fun k x hk=>?_)
 ·have hk':=(List.getElem?_eq_some_iff.1 hk).1
  rw [Nat.zero_add]
  exact ⟨hc k (by simpa [Lib.deBruijn64tab] using hk'),rfl⟩
 ·simp only [List.getElem?_map] at hk
  cases e:Lib.deBruijn64tab[k]? with
  |none=>rw [e] at hk;cases hk
  |some n =>
   rw [e] at hk;cases hk
   have:(Lib.deBruijn64tab.map Int.ofNat).getD k 0=(n:Int):=by simp [List.getD_eq_getElem?_getD,e]
   rw [this]
   exact .int _ _
end Go.Proofs.YtdahanchdjadiaaDoor

namespace Go.Proofs.YtdahanchdjadiaaDoor.V
open Go.RowKit Go.ChangeShapes Go.WideShapes Go.ChangeAt
theorem Tryd.aau:ownKnob Tryd.prog.godebug=none:=by kernel_rfl
theorem Tryd.Eb:laidOutB Tryd.prog=true:=by kernel_rfl
theorem adh {q:PV} (h:SInt .u8 [q]):∃ b:UInt8,q=.int .u8 (b.toNat:Int):=by
 obtain ⟨n,h1,h2⟩:=h
 have h3:IntKind.u8.min=0:=rfl
 have h4:IntKind.u8.max=255:=rfl
 simp only [Lit.wf,Bool.and_eq_true,decide_eq_true_eq] at h1
 cases h2
 refine ⟨UInt8.ofNat n.toNat,?_⟩
 rw [UInt8.toNat_ofNat_of_lt' (show n.toNat<2 ^ 8 by omega)]
 congr 1;omega
theorem ait {α:Type} {n:Nat} {S:List PV→Prop} {wr:List PV→PV} {enc:α→PV} {ok:α→Prop} (hS:∀ ps,S ps→∃ a,ok a∧wr ps=enc a) {q:PV} (h:aan n S wr [q]):∃ l:List α,(∀ a∈l,ok a)∧q=.list n (l.map enc):=by
 obtain ⟨es,h1,h2⟩:=h
 cases h1
 have:∀ es:List PV,(∀ x∈es,∃ q,S q∧x=wr q)→∃ l:List α,(∀ a∈l,ok a)∧es=l.map enc:=by
  intro es
  induction es with
  |nil=>exact fun _=>⟨[],by simp,rfl⟩
  |cons e es ih =>
   intro h
   obtain ⟨q,h3,h4⟩:=h e (by simp)
   obtain ⟨a,h5,h6⟩:=hS q h3
   obtain ⟨l,h7,h8⟩:=ih fun x hx=>h x (by simp [hx])
   exact ⟨a :: l,by simp;exact ⟨h5,h7⟩,by rw [h4,h6,h8];rfl⟩
 obtain ⟨l,h3,h4⟩:=this es h2
 exact ⟨l,h3,by rw [h4]⟩
theorem Tryd.VK:mO Tryd.prog 5 1 (SInt .u8):=mO.int Tryd.underlying5 (by kernel_rfl)
end Go.Proofs.YtdahanchdjadiaaDoor.V

namespace Go.Proofs.YtdahanchdjadiaaDoor
open V
theorem su8 {q:PV} (h:SInt .u8 [q]):∃ c:Nat,c<256∧q=.int .u8 (c:Int):=by
 obtain ⟨b,rfl⟩:=adh h
 exact ⟨b.toNat,b.toNat_lt,rfl⟩
end Go.Proofs.YtdahanchdjadiaaDoor

namespace Go.Proofs.YtdahanchdjadiaaDoor
open V
open Go.RowKit Go.ChangeShapes Go.WideShapes Go.ChangeAt
def afL:List PV→Prop:=aao [SInt .u8,SInt .u8,SInt .u8,SInt .u8]
theorem akx {ps:List PV} (h:afL ps):∃ x:tY,okV x∧PV.agg ps=tH x:=by
 obtain ⟨p,q,rfl,h1,p2,q2,rfl,h2,p3,q3,rfl,h3,p4,q4,rfl,h4,rfl⟩:=h
 obtain ⟨k1,_,rfl⟩:=h1
 obtain ⟨k2,_,rfl⟩:=h2
 obtain ⟨k3,_,rfl⟩:=h3
 obtain ⟨k4,_,rfl⟩:=h4
 obtain ⟨a1,b1,e1⟩:=su8 ⟨k1,by assumption,rfl⟩
 obtain ⟨a2,b2,e2⟩:=su8 ⟨k2,by assumption,rfl⟩
 obtain ⟨a3,b3,e3⟩:=su8 ⟨k3,by assumption,rfl⟩
 obtain ⟨a4,b4,e4⟩:=su8 ⟨k4,by assumption,rfl⟩
 exact ⟨⟨a1,a2,a3,a4⟩,⟨b1,b2,b3,b4⟩,by rw [kT,← e1,← e2,← e3,← e4];rfl⟩
theorem Tryd.aiu:mO Tryd.prog 45 4 afL:=mO.adg Tryd.underlying45 Tryd.VK Tryd.VK Tryd.VK Tryd.VK rfl rfl rfl rfl (by kernel_rfl)
def ad9:List PV→Prop:=aan 4 afL .agg
theorem aiv {q:PV} (h:ad9 [q]):∃ l:List tY,(∀ x∈l,okV x)∧q=.list 4 (l.map tH) :=
 ait (enc:=tH) (ok:=okV) (fun ps h=>by obtain ⟨x,o,e⟩:=akx h;exact ⟨x,o,e⟩) h
theorem Tryd.afM:mO Tryd.prog 36 1 ad9:=mO.list Tryd.underlying36 (by kernel_rfl) Tryd.aiu (by decide) (fun _ _ _=>rfl)
end Go.Proofs.YtdahanchdjadiaaDoor
