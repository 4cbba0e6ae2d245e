/-
  Part 12 of the texts that the statement stands on.
-/
import Derived.Test.YtpcncggjmabnaaaGreatDoorZ11
import Derived.Test.YtpcncggjmabnaaaGreatDoorRows
import Derived.Lib.LaidTab
import Derived.LaidByTextLater
import Derived.SizedLaws
set_option linter.all false
namespace Go.Proofs.YtpcncggjmabnaaaGreatDoor
def iC (P:Program) (f:Nat):Zt→Prop
 |.code fn=>bJ P f fn=true
 |.ext g=>∀ args rs,g args=some rs→callable P f=true∧nK P f args rs
 |.Ba h=>callable P f=true∧DW P f h
 |.oQ h=>(∀ args,h args=some none→callable P f=true∧nK P f args [])∧∀ args t n,h args=some (some (t,n))→callable P f=true∧Vr P f args t n
 |.dfn _=>False
theorem ok9:iC Tryz.prog 9 (.code fn9):=(by kernel_rfl:bJ Tryz.prog 9 fn9=true)
theorem aoN:iC Tryz.prog 10 (.code abf):=(by kernel_rfl:bJ Tryz.prog 10 abf=true)
theorem aoO:iC Tryz.prog 11 (.code OQ):=(by kernel_rfl:bJ Tryz.prog 11 OQ=true)
theorem aoP:iC Tryz.prog 15 (.code TW):=(by kernel_rfl:bJ Tryz.prog 15 TW=true)
theorem ok16:iC Tryz.prog 16 (.code JR):=(by kernel_rfl:bJ Tryz.prog 16 JR=true)
theorem aoQ:iC Tryz.prog 18 (.code aip):=(by kernel_rfl:bJ Tryz.prog 18 aip=true)
theorem aoR:iC Tryz.prog 20 (.code zh):=(by kernel_rfl:bJ Tryz.prog 20 zh=true)
theorem aoS:iC Tryz.prog 23 (.code aiq):=(by kernel_rfl:bJ Tryz.prog 23 aiq=true)
theorem aoT:iC Tryz.prog 26 (.code Es):=(by kernel_rfl:bJ Tryz.prog 26 Es=true)
theorem aoU:iC Tryz.prog 28 (.code abg):=(by kernel_rfl:bJ Tryz.prog 28 abg=true)
theorem aoV:iC Tryz.prog 31 (.code Yk):=(by kernel_rfl:bJ Tryz.prog 31 Yk=true)
theorem ok32:iC Tryz.prog 32 (.code abh):=(by kernel_rfl:bJ Tryz.prog 32 abh=true)
theorem aoW:iC Tryz.prog 33 (.code abj):=(by kernel_rfl:bJ Tryz.prog 33 abj=true)
theorem aoX:iC Tryz.prog 34 (.code abk):=(by kernel_rfl:bJ Tryz.prog 34 abk=true)
theorem aoY:iC Tryz.prog 35 (.code Yl):=(by kernel_rfl:bJ Tryz.prog 35 Yl=true)
theorem aoZ:iC Tryz.prog 36 (.code air):=(by kernel_rfl:bJ Tryz.prog 36 air=true)
theorem ao0:iC Tryz.prog 37 (.code ais):=(by kernel_rfl:bJ Tryz.prog 37 ais=true)
theorem ao1:iC Tryz.prog 38 (.code Ym):=(by kernel_rfl:bJ Tryz.prog 38 Ym=true)
theorem ao2:iC Tryz.prog 39 (.ext (lu 1)):=U1
theorem ao3:iC Tryz.prog 42 (.code JZ):=(by kernel_rfl:bJ Tryz.prog 42 JZ=true)
theorem ao4:iC Tryz.prog 43 (.code abl):=(by kernel_rfl:bJ Tryz.prog 43 abl=true)
theorem ao5:iC Tryz.prog 44 (.code Yn):=(by kernel_rfl:bJ Tryz.prog 44 Yn=true)
theorem ao6:iC Tryz.prog 45 (.code abm):=(by kernel_rfl:bJ Tryz.prog 45 abm=true)
theorem ao7:iC Tryz.prog 48 (.code abn):=(by kernel_rfl:bJ Tryz.prog 48 abn=true)
theorem ao8:iC Tryz.prog 49 (.code abo):=(by kernel_rfl:bJ Tryz.prog 49 abo=true)
theorem ao9:iC Tryz.prog 52 (.code ait):=(by kernel_rfl:bJ Tryz.prog 52 ait=true)
theorem apa:iC Tryz.prog 53 (.code abp):=(by kernel_rfl:bJ Tryz.prog 53 abp=true)
theorem apc:iC Tryz.prog 54 (.code Yo):=(by kernel_rfl:bJ Tryz.prog 54 Yo=true)
theorem apd:iC Tryz.prog 55 (.code abq):=(by kernel_rfl:bJ Tryz.prog 55 abq=true)
theorem ape:iC Tryz.prog 56 (.code abr):=(by kernel_rfl:bJ Tryz.prog 56 abr=true)
theorem apg:iC Tryz.prog 57 (.code abt):=(by kernel_rfl:bJ Tryz.prog 57 abt=true)
theorem aph:iC Tryz.prog 62 (.code abu):=(by kernel_rfl:bJ Tryz.prog 62 abu=true)
theorem apj:iC Tryz.prog 63 (.code abv):=(by kernel_rfl:bJ Tryz.prog 63 abv=true)
theorem apk:iC Tryz.prog 64 (.code abw):=(by kernel_rfl:bJ Tryz.prog 64 abw=true)
theorem apl:iC Tryz.prog 65 (.code TY):=(by kernel_rfl:bJ Tryz.prog 65 TY=true)
theorem apm:iC Tryz.prog 66 (.code abx):=(by kernel_rfl:bJ Tryz.prog 66 abx=true)
theorem apn:iC Tryz.prog 67 (.code KG):=(by kernel_rfl:bJ Tryz.prog 67 KG=true)
theorem apo:iC Tryz.prog 68 (.code aby):=(by kernel_rfl:bJ Tryz.prog 68 aby=true)
theorem apq:iC Tryz.prog 69 (.code abz):=(by kernel_rfl:bJ Tryz.prog 69 abz=true)
theorem apr:iC Tryz.prog 70 (.code abA):=(by kernel_rfl:bJ Tryz.prog 70 abA=true)
theorem aps:iC Tryz.prog 72 (.code Yp):=(by kernel_rfl:bJ Tryz.prog 72 Yp=true)
theorem apt:iC Tryz.prog 73 (.code Ua):=(by kernel_rfl:bJ Tryz.prog 73 Ua=true)
theorem apu:iC Tryz.prog 74 (.code Yq):=(by kernel_rfl:bJ Tryz.prog 74 Yq=true)
theorem apv:iC Tryz.prog 75 (.code abB):=(by kernel_rfl:bJ Tryz.prog 75 abB=true)
theorem apw:iC Tryz.prog 76 (.code abC):=(by kernel_rfl:bJ Tryz.prog 76 abC=true)
theorem apx:iC Tryz.prog 77 (.code Yr):=(by kernel_rfl:bJ Tryz.prog 77 Yr=true)
theorem apy:iC Tryz.prog 78 (.code Ub):=(by kernel_rfl:bJ Tryz.prog 78 Ub=true)
theorem apz:iC Tryz.prog 79 (.code abD):=(by kernel_rfl:bJ Tryz.prog 79 abD=true)
theorem apA:iC Tryz.prog 80 (.ext (lu 1)):=U3
theorem apB:iC Tryz.prog 86 (.ext (lu 8)):=UZ
theorem apC:iC Tryz.prog 87 (.code abE):=(by kernel_rfl:bJ Tryz.prog 87 abE=true)
theorem apD:iC Tryz.prog 88 (.code OT):=(by kernel_rfl:bJ Tryz.prog 88 OT=true)
theorem apF:iC Tryz.prog 89 (.code Yt):=(by kernel_rfl:bJ Tryz.prog 89 Yt=true)
theorem apG:iC Tryz.prog 90 (.code Yu):=(by kernel_rfl:bJ Tryz.prog 90 Yu=true)
theorem apH:iC Tryz.prog 91 (.code GK):=(by kernel_rfl:bJ Tryz.prog 91 GK=true)
theorem apJ:iC Tryz.prog 93 (.code aiu):=(by kernel_rfl:bJ Tryz.prog 93 aiu=true)
theorem apK:iC Tryz.prog 94 (.code abG):=(by kernel_rfl:bJ Tryz.prog 94 abG=true)
theorem apL:iC Tryz.prog 95 (.code abH):=(by kernel_rfl:bJ Tryz.prog 95 abH=true)
theorem apM:iC Tryz.prog 97 (.code abI):=(by kernel_rfl:bJ Tryz.prog 97 abI=true)
theorem apN:iC Tryz.prog 98 (.code abJ):=(by kernel_rfl:bJ Tryz.prog 98 abJ=true)
theorem apP:iC Tryz.prog 99 (.code abK):=(by kernel_rfl:bJ Tryz.prog 99 abK=true)
theorem am1:iC Tryz.prog 100 (.ext um):=Zc
theorem am2:iC Tryz.prog 101 (.code OU):=(by kernel_rfl:bJ Tryz.prog 101 OU=true)
theorem am3:iC Tryz.prog 102 (.code OV):=(by kernel_rfl:bJ Tryz.prog 102 OV=true)
theorem am4:iC Tryz.prog 103 (.code OW):=(by kernel_rfl:bJ Tryz.prog 103 OW=true)
theorem am5:iC Tryz.prog 104 (.code OX):=(by kernel_rfl:bJ Tryz.prog 104 OX=true)
theorem am6:iC Tryz.prog 105 (.code OY):=(by kernel_rfl:bJ Tryz.prog 105 OY=true)
theorem am7:iC Tryz.prog 106 (.code OZ):=(by kernel_rfl:bJ Tryz.prog 106 OZ=true)
theorem am8:iC Tryz.prog 107 (.code O1):=(by kernel_rfl:bJ Tryz.prog 107 O1=true)
theorem am9:iC Tryz.prog 108 (.code O4):=(by kernel_rfl:bJ Tryz.prog 108 O4=true)
theorem ana:iC Tryz.prog 109 (.code O5):=(by kernel_rfl:bJ Tryz.prog 109 O5=true)
theorem anb:iC Tryz.prog 112 (.code O6):=(by kernel_rfl:bJ Tryz.prog 112 O6=true)
theorem anc:iC Tryz.prog 113 (.code O7):=(by kernel_rfl:bJ Tryz.prog 113 O7=true)
theorem ane:iC Tryz.prog 114 (.code O8):=(by kernel_rfl:bJ Tryz.prog 114 O8=true)
theorem anf:iC Tryz.prog 115 (.Ba OO):=akl
theorem ang:iC Tryz.prog 116 (.code O9):=(by kernel_rfl:bJ Tryz.prog 116 O9=true)
theorem anh:iC Tryz.prog 118 (.code Iu):=(by kernel_rfl:bJ Tryz.prog 118 Iu=true)
theorem ani:iC Tryz.prog 119 (.code Pg):=(by kernel_rfl:bJ Tryz.prog 119 Pg=true)
theorem anj:iC Tryz.prog 120 (.code Ph):=(by kernel_rfl:bJ Tryz.prog 120 Ph=true)
theorem ank:iC Tryz.prog 121 (.code Pj):=(by kernel_rfl:bJ Tryz.prog 121 Pj=true)
theorem anl:iC Tryz.prog 122 (.code EH):=(by kernel_rfl:bJ Tryz.prog 122 EH=true)
theorem anm:iC Tryz.prog 124 (.code Pm):=(by kernel_rfl:bJ Tryz.prog 124 Pm=true)
theorem ano:iC Tryz.prog 125 (.code Iw):=(by kernel_rfl:bJ Tryz.prog 125 Iw=true)
theorem anp:iC Tryz.prog 126 (.ext tzX):=alf
theorem anq:iC Tryz.prog 128 (.code Pn):=(by kernel_rfl:bJ Tryz.prog 128 Pn=true)
theorem anr:iC Tryz.prog 129 (.code Po):=(by kernel_rfl:bJ Tryz.prog 129 Po=true)
theorem ant:iC Tryz.prog 130 (.code Pq):=(by kernel_rfl:bJ Tryz.prog 130 Pq=true)
theorem anu:iC Tryz.prog 131 (.code BK):=(by kernel_rfl:bJ Tryz.prog 131 BK=true)
theorem anv:iC Tryz.prog 132 (.code Py):=(by kernel_rfl:bJ Tryz.prog 132 Py=true)
theorem anw:iC Tryz.prog 133 (.code Pz):=(by kernel_rfl:bJ Tryz.prog 133 Pz=true)
theorem anx:iC Tryz.prog 134 (.code PD):=(by kernel_rfl:bJ Tryz.prog 134 PD=true)
theorem anz:iC Tryz.prog 135 (.code BL):=(by kernel_rfl:bJ Tryz.prog 135 BL=true)
theorem anA:iC Tryz.prog 136 (.Ba (lI 137)):=P9
theorem anB:iC Tryz.prog 137 (.code abL):=(by kernel_rfl:bJ Tryz.prog 137 abL=true)
theorem anC:iC Tryz.prog 138 (.code abM):=(by kernel_rfl:bJ Tryz.prog 138 abM=true)
theorem anD:iC Tryz.prog 141 (.code abN):=(by kernel_rfl:bJ Tryz.prog 141 abN=true)
theorem anE:∀ p∈tab,iC Tryz.prog p.1 p.2:=by
 unfold tab
 exact List.forall_mem_cons.2 ⟨ok9,List.forall_mem_cons.2 ⟨aoN,List.forall_mem_cons.2 ⟨aoO,List.forall_mem_cons.2 ⟨aoP,List.forall_mem_cons.2 ⟨ok16,List.forall_mem_cons.2 ⟨aoQ,List.forall_mem_cons.2 ⟨aoR,List.forall_mem_cons.2 ⟨aoS,List.forall_mem_cons.2 ⟨aoT,List.forall_mem_cons.2 ⟨aoU,List.forall_mem_cons.2 ⟨aoV,List.forall_mem_cons.2 ⟨ok32,List.forall_mem_cons.2 ⟨aoW,List.forall_mem_cons.2 ⟨aoX,List.forall_mem_cons.2 ⟨aoY,List.forall_mem_cons.2 ⟨aoZ,List.forall_mem_cons.2 ⟨ao0,List.forall_mem_cons.2 ⟨ao1,List.forall_mem_cons.2 ⟨ao2,List.forall_mem_cons.2 ⟨ao3,List.forall_mem_cons.2 ⟨ao4,List.forall_mem_cons.2 ⟨ao5,List.forall_mem_cons.2 ⟨ao6,List.forall_mem_cons.2 ⟨ao7,List.forall_mem_cons.2 ⟨ao8,List.forall_mem_cons.2 ⟨ao9,List.forall_mem_cons.2 ⟨apa,List.forall_mem_cons.2 ⟨apc,List.forall_mem_cons.2 ⟨apd,List.forall_mem_cons.2 ⟨ape,List.forall_mem_cons.2 ⟨apg,List.forall_mem_cons.2 ⟨aph,List.forall_mem_cons.2 ⟨apj,List.forall_mem_cons.2 ⟨apk,List.forall_mem_cons.2 ⟨apl,List.forall_mem_cons.2 ⟨apm,List.forall_mem_cons.2 ⟨apn,List.forall_mem_cons.2 ⟨apo,List.forall_mem_cons.2 ⟨apq,List.forall_mem_cons.2 ⟨apr,List.forall_mem_cons.2 ⟨aps,List.forall_mem_cons.2 ⟨apt,List.forall_mem_cons.2 ⟨apu,List.forall_mem_cons.2 ⟨apv,List.forall_mem_cons.2 ⟨apw,List.forall_mem_cons.2 ⟨apx,List.forall_mem_cons.2 ⟨apy,List.forall_mem_cons.2 ⟨apz,List.forall_mem_cons.2 ⟨apA,List.forall_mem_cons.2 ⟨apB,List.forall_mem_cons.2 ⟨apC,List.forall_mem_cons.2 ⟨apD,List.forall_mem_cons.2 ⟨apF,List.forall_mem_cons.2 ⟨apG,List.forall_mem_cons.2 ⟨apH,List.forall_mem_cons.2 ⟨apJ,List.forall_mem_cons.2 ⟨apK,List.forall_mem_cons.2 ⟨apL,List.forall_mem_cons.2 ⟨apM,List.forall_mem_cons.2 ⟨apN,List.forall_mem_cons.2 ⟨apP,List.forall_mem_cons.2 ⟨am1,List.forall_mem_cons.2 ⟨am2,List.forall_mem_cons.2 ⟨am3,List.forall_mem_cons.2 ⟨am4,List.forall_mem_cons.2 ⟨am5,List.forall_mem_cons.2 ⟨am6,List.forall_mem_cons.2 ⟨am7,List.forall_mem_cons.2 ⟨am8,List.forall_mem_cons.2 ⟨am9,List.forall_mem_cons.2 ⟨ana,List.forall_mem_cons.2 ⟨anb,List.forall_mem_cons.2 ⟨anc,List.forall_mem_cons.2 ⟨ane,List.forall_mem_cons.2 ⟨anf,List.forall_mem_cons.2 ⟨ang,List.forall_mem_cons.2 ⟨anh,List.forall_mem_cons.2 ⟨ani,List.forall_mem_cons.2 ⟨anj,List.forall_mem_cons.2 ⟨ank,List.forall_mem_cons.2 ⟨anl,List.forall_mem_cons.2 ⟨anm,List.forall_mem_cons.2 ⟨ano,List.forall_mem_cons.2 ⟨anp,List.forall_mem_cons.2 ⟨anq,List.forall_mem_cons.2 ⟨anr,List.forall_mem_cons.2 ⟨ant,List.forall_mem_cons.2 ⟨anu,List.forall_mem_cons.2 ⟨anv,List.forall_mem_cons.2 ⟨anw,List.forall_mem_cons.2 ⟨anx,List.forall_mem_cons.2 ⟨anz,List.forall_mem_cons.2 ⟨anA,List.forall_mem_cons.2 ⟨anB,List.forall_mem_cons.2 ⟨anC,List.forall_mem_cons.2 ⟨anD,fun p hp=>by cases hp⟩⟩⟩⟩⟩⟩⟩⟩⟩⟩⟩⟩⟩⟩⟩⟩⟩⟩⟩⟩⟩⟩⟩⟩⟩⟩⟩⟩⟩⟩⟩⟩⟩⟩⟩⟩⟩⟩⟩⟩⟩⟩⟩⟩⟩⟩⟩⟩⟩⟩⟩⟩⟩⟩⟩⟩⟩⟩⟩⟩⟩⟩⟩⟩⟩⟩⟩⟩⟩⟩⟩⟩⟩⟩⟩⟩⟩⟩⟩⟩⟩⟩⟩⟩⟩⟩⟩⟩⟩⟩⟩⟩⟩⟩⟩⟩
theorem FY:∀ {l:List (Nat × Zt)} {f:Nat} {d:Zt},l.lookup f=some d→(f,d)∈l
 |(k,v) :: l,f,d,h=>by
  rw [List.lookup_cons] at h
  split at h
  ·rename_i e
   have e:f=k:=by simpa using e
   cases h;subst e;simp
  ·exact List.mem_cons_of_mem _ (FY h)
theorem anF:BG Tryz.prog env:=fun f d h=>by
 have:=anE _ (FY h)
 cases d<;>exact this
end Go.Proofs.YtpcncggjmabnaaaGreatDoor

namespace Go.Proofs.YtpcncggjmabnaaaGreatDoor
open Go.RowKit
theorem Zh:(Rows.laid_math_bits_deBruijn64tab:DataW Unit)=Lib.tabData .u8 (Lib.deBruijn64tab.map Int.ofNat):=by kernel_rfl
theorem anG:Tryz.prog.globalNamed "math/bits.deBruijn64tab"=some 0:=by kernel_rfl
theorem FZ {w:World} {l:List (String × DataW Unit)} (hl:l=[("math/bits.deBruijn64tab",Rows.laid_math_bits_deBruijn64tab)]) (h:laidMetH Tryz.prog l w):LX w:=by
 subst hl
 rw [MakeChecks.laidMetH_plain _ _ _ (by kernel_rfl),Zh] at h
 have ht:Lib.TabIs Tryz.prog w "math/bits.deBruijn64tab" .u8 (Lib.deBruijn64tab.map Int.ofNat) :=
  Lib.tabIs_of_head (t:=185) (e:=5) (n:=64) anG (by kernel_rfl) (by kernel_rfl) (by kernel_rfl) (by kernel_rfl) (by kernel_rfl) h
 have hc:∀ i,i<64→w.cell? ⟨0,i,none⟩=some (.int .u8 ((Lib.deBruijn64tab.map Int.ofNat).getD i 0)):=fun i hi=>ht.cell anG i (by simpa [Lib.deBruijn64tab] using hi)
 have hC:cu w 0:=yh (hc 0 (by decide))
 intro p hp
 obtain rfl:p=_:=List.mem_singleton.1 hp
 refine .dN _ 0 _ 0 (fun i=>.int .u8 ((Lib.deBruijn64tab.map Int.ofNat).getD i 0)) (if_pos hC.lt) hC (fun k x hk=>?_) (fun k x hk=>?_)
 ·have hk':=(List.getElem?_eq_some_iff.1 hk).1
  rw [Nat.zero_add]
  exact ⟨hc k (by simpa [Lib.deBruijn64tab] using hk'),rfl⟩
 ·simp only [List.getElem?_map] at hk
  cases e:Lib.deBruijn64tab[k]? with
  |none=>rw [e] at hk;cases hk
  |some n =>
   rw [e] at hk;cases hk
   have:(Lib.deBruijn64tab.map Int.ofNat).getD k 0=(n:Int):=by simp [List.getD_eq_getElem?_getD,e]
   rw [this]
   exact .int _ _
end Go.Proofs.YtpcncggjmabnaaaGreatDoor

namespace Go.Proofs.YtpcncggjmabnaaaGreatDoor.V
open Go.RowKit Go.ChangeShapes Go.WideShapes Go.ChangeAt
theorem Tryz.ad4:ownKnob Tryz.prog.godebug=none:=by kernel_rfl
theorem Tryz.QC:laidOutB Tryz.prog=true:=by kernel_rfl
theorem Wy {q:PV} (h:SInt .u8 [q]):∃ b:UInt8,q=.int .u8 (b.toNat:Int):=by
 obtain ⟨n,h1,h2⟩:=h
 have h3:IntKind.u8.min=0:=rfl
 have h4:IntKind.u8.max=255:=rfl
 simp only [Lit.wf,Bool.and_eq_true,decide_eq_true_eq] at h1
 cases h2
 refine ⟨UInt8.ofNat n.toNat,?_⟩
 rw [UInt8.toNat_ofNat_of_lt' (show n.toNat<2 ^ 8 by omega)]
 congr 1;omega
def akm:List PV→Prop:=ajW 8 (SInt .u8)
theorem apQ {ps:List PV} (h:akm ps):∃ s:fV,ps=lY s:=by
 obtain ⟨h1,h2⟩:=h
 have:∀ l:List PV,(∀ p∈l,SInt .u8 [p])→∃ m:List UInt8,m.length=l.length∧l=m.map fun b=>.int .u8 (b.toNat:Int):=by
  intro l
  induction l with
  |nil=>exact fun _=>⟨[],rfl,rfl⟩
  |cons p l ih =>
   intro h
   obtain ⟨b,hb⟩:=Wy (h p (by simp))
   obtain ⟨m,e1,e2⟩:=ih fun q hq=>h q (by simp [hq])
   exact ⟨b :: m,by simp [e1],by rw [hb,e2];rfl⟩
 obtain ⟨m,e1,e2⟩:=this ps h2
 refine ⟨⟨m.toArray,by simp [e1,h1]⟩,?_⟩
 subst e2
 simp [lY,Vector.toList]
theorem ad5 {α:Type} {n:Nat} {S:List PV→Prop} {wr:List PV→PV} {enc:α→PV} {ok:α→Prop} (hS:∀ ps,S ps→∃ a,ok a∧wr ps=enc a) {q:PV} (h:adu n S wr [q]):∃ l:List α,(∀ a∈l,ok a)∧q=.list n (l.map enc):=by
 obtain ⟨es,h1,h2⟩:=h
 cases h1
 have:∀ es:List PV,(∀ x∈es,∃ q,S q∧x=wr q)→∃ l:List α,(∀ a∈l,ok a)∧es=l.map enc:=by
  intro es
  induction es with
  |nil=>exact fun _=>⟨[],by simp,rfl⟩
  |cons e es ih =>
   intro h
   obtain ⟨q,h3,h4⟩:=h e (by simp)
   obtain ⟨a,h5,h6⟩:=hS q h3
   obtain ⟨l,h7,h8⟩:=ih fun x hx=>h x (by simp [hx])
   exact ⟨a :: l,by simp;exact ⟨h5,h7⟩,by rw [h4,h6,h8];rfl⟩
 obtain ⟨l,h3,h4⟩:=this es h2
 exact ⟨l,h3,by rw [h4]⟩
def anH:List PV→Prop:=adu 8 akm .agg
theorem anI {q:PV} (h:anH [q]):∃ l:List fV,q=bf l:=by
 obtain ⟨l,_,e⟩:=ad5 (enc:=iJ) (ok:=fun _=>True) (fun ps h=>by obtain ⟨s,rfl⟩:=apQ h;exact ⟨s,trivial,rfl⟩) h
 exact ⟨l,e⟩
theorem Tryz.ahE:mY Tryz.prog 3 1 (SInt .i64):=mY.int Tryz.underlying3 (by kernel_rfl)
theorem Tryz.ag3:mY Tryz.prog 5 1 (SInt .u8):=mY.int Tryz.underlying5 (by kernel_rfl)
theorem Tryz.anJ:mY Tryz.prog 79 8 akm:=mY.arr Tryz.underlying79 Tryz.ag3 (by kernel_rfl)
end Go.Proofs.YtpcncggjmabnaaaGreatDoor.V

namespace Go.Proofs.YtpcncggjmabnaaaGreatDoor
open V
open Go.RowKit Go.ChangeShapes Go.WideShapes Go.ChangeAt
end Go.Proofs.YtpcncggjmabnaaaGreatDoor

namespace Go.Proofs.YtpcncggjmabnaaaGreatDoor
open V
open Go.RowKit Go.ChangeShapes Go.WideShapes Go.ChangeAt
end Go.Proofs.YtpcncggjmabnaaaGreatDoor

namespace Go.Proofs.YtpcncggjmabnaaaGreatDoor
open V
open Go.RowKit Go.ChangeShapes Go.WideShapes Go.ChangeAt
end Go.Proofs.YtpcncggjmabnaaaGreatDoor

namespace Go.Proofs.YtpcncggjmabnaaaGreatDoor
open Go.RowKit Go.WideShapes
def oJ (P:Program) (t:TypeId) (n:Nat) (S:List PV→Prop):Prop :=
 P.cellsOf t=n∧∀ {H:Type} {enc:TypeId × Value→H} {w:World} {fuel:Nat} {cs:List Value} {x:DataW H × List MemPlace},DataW.trod enc P w 0 (fun _=>true) true fuel t cs=some x→(x.1.weights P t).all (·≤reachBytes)=true→∃ ps,S ps∧ps.length=n∧AP w cs ps
def F9 (n:Nat) (S:List PV→Prop) (wr:List PV→PV) (ps:List PV):Prop:=∃ es,ps=[.list n es]∧es.length≤140737488351232∧∀ x∈es,∃ q,S q∧x=wr q
section
variable {P:Program} {t e:TypeId} {n m:Nat} {S:List PV→Prop} {k:IntKind}
theorem oJ.of (h:mY P t n S):oJ P t n S:=⟨h.1,fun h1 _=>h.2 h1⟩
theorem uJ {H:Type}:∀ {ds:List (DataW H)} {i:Nat} (h:i<ds.length) {y:Nat},y∈ds[i].weights P e→y∈DataW.weightsAll P e ds
 |d :: ds,0,_,y,hy=>by
  simp only [DataW.weightsAll,List.mem_append]
  exact .inl hy
 |d :: ds,i+1,h,y,hy=>by
  simp only [DataW.weightsAll,List.mem_append]
  exact .inr (uJ (ds:=ds) (i:=i) (by simpa using h) (by simpa using hy))
 |[],_,h,_,_=>by simp at h
theorem oJ.list {wr:List PV→PV} (ht:P.underlying t=some (.slice e)) (hc:P.cellsOf t=1) (hr:oJ P e n S) (hb:1≤P.bytesOf e) (hpos:0<n) (hw:∀ ps,S ps→ps.length=n→(wr ps).cells=ps):oJ P t 1 (F9 n S wr):=⟨hc,fun {H enc w fuel cs x} h hz=>by
 rcases DataW.trod_slice ht h with ⟨rfl,_⟩|⟨a,len,cap,elems,rest,m,_,rfl,rfl,_,hl,hm,hel,hE,hR,_⟩
 ·exact ⟨[.list n []],⟨[],rfl,Nat.zero_le _,fun x hx=>by cases hx⟩,rfl,sG rfl (.nil n none)⟩
 ·have hz1:elems.length≤140737488351232:=by
   have:=List.all_eq_true.1 hz ((elems.length+rest.length) * P.bytesOf e) (by simp [DataW.weights,ht])
   have h3:(elems.length+rest.length) * P.bytesOf e≤140737488351232:=by
    have h:=of_decide_eq_true this
    simpa [reachBytes] using h
   have h4:(elems.length+rest.length) * 1≤(elems.length+rest.length) * P.bytesOf e:=Nat.mul_le_mul_left _ hb
   omega
  have hz2:∀ (i:Nat) (h:i<elems.length),(elems[i].1.weights P e).all (·≤reachBytes)=true:=fun i hi=>by
   rw [List.all_eq_true]
   intro y hy
   refine List.all_eq_true.1 hz y ?_
   simp only [DataW.weights,ht,List.mem_cons,List.mem_append]
   exact .inr (.inl (uJ (i:=i) (by simpa using hi) (by simpa using hy)))
  obtain ⟨l,h1,h2⟩:=wZ (p:=fun i (y:List Value × List PV)=>w.cells? 0 (a.add (i * n)) n=some y.1∧S y.2∧y.2.length=n∧AP w y.1 y.2) len fun i hi=>by
   have:=hE i hi
   rw [List.getElem?_eq_getElem (by omega),hr.1,Option.bind_eq_some_iff] at this
   obtain ⟨c,h3,h4⟩:=this
   obtain ⟨ps,g1,g2,g3⟩:=hr.2 h4 (hz2 i (by omega))
   exact ⟨(c,ps),h3,g1,g2,g3⟩
  refine ⟨[.list n (l.map fun y=>wr y.2)],⟨_,rfl,by rw [List.length_map,h1];omega,fun x hx=>?_⟩,rfl,sG rfl ?_⟩
  ·obtain ⟨y,hy,rfl⟩:=List.mem_map.1 hx
   obtain ⟨i,hi⟩:=List.mem_iff_getElem?.1 hy
   exact ⟨y.2,(h2 i y hi).2.1,rfl⟩
  ·by_cases hcap:cap=0
   ·have:len=0:=by omega
    subst hcap;subst this
    have:l=[]:=List.eq_nil_of_length_eq_zero h1
    subst this
    exact .nil n (some a)
   ·-- there are cells
    have hcell:∃ off v,w.cell? ⟨a.block,off,none⟩=some v∧a.spot=none:=by
     have Qi:∀ (i:Nat) (c:List Value),w.cells? 0 (a.add (i * n)) n=some c→∃ off v,w.cell? ⟨a.block,off,none⟩=some v∧a.spot=none:=fun i c h3=>by
      obtain ⟨_,hc0,h4⟩:=World.cells?_some h3
      have h5:=h4 0 hpos
      rw [List.getElem?_eq_getElem (by omega)] at h5
      have hs:(a.add (i * n)).spot=none:=by simpa [Addr.add] using World.cell?_spot h5
      have hs0:a.spot=none:=by
       unfold Addr.add at hs
       split at hs
       ·exact hs
       ·rename_i hne
        by_cases h0:i * n=0
        ·rename_i q;exact absurd h0 (by simpa using hne)
        ·rcases Nat.eq_zero_or_pos i with hi0|hi0
         ·subst hi0;simp at h0
         ·-- the row begins at a: its first cell
          have:0<len∨len=0:=by omega
          rcases this with hlen|hlen
          ·obtain ⟨y,hy⟩:∃ y,l[0]?=some y:=⟨l[0],List.getElem?_eq_getElem (by omega)⟩
           obtain ⟨_,hc1,h6⟩:=World.cells?_some (h2 0 y hy).1
           have h7:=h6 0 hpos
           rw [List.getElem?_eq_getElem (by omega)] at h7
           simpa [Addr.add] using World.cell?_spot h7
          ·have hrl:0<rest.length:=by have:=(hR rfl).1;omega
           have:=(hR rfl).2 0 (by omega)
           have h8:rest[0]?=some rest[0]:=List.getElem?_eq_getElem hrl
           rw [h8,hr.1,hlen,Option.bind_eq_some_iff] at this
           obtain ⟨c1,h9,_⟩:=this
           obtain ⟨_,hc1,h6⟩:=World.cells?_some h9
           have h7:=h6 0 hpos
           rw [List.getElem?_eq_getElem (by omega)] at h7
           simpa [Addr.add] using World.cell?_spot h7
      obtain ⟨b,off,spot⟩:=a
      simp only at hs0
      subst hs0
      rw [Addr.add_lit,Addr.add_lit] at h5
      exact ⟨_,_,h5,rfl⟩
     rcases Nat.eq_zero_or_pos len with hlen|hlen
     ·have hrl:0<rest.length:=by have:=(hR rfl).1;omega
      have:=(hR rfl).2 0 (by omega)
      have h8:rest[0]?=some rest[0]:=List.getElem?_eq_getElem hrl
      rw [h8,hr.1,Option.bind_eq_some_iff] at this
      obtain ⟨c1,h9,_⟩:=this
      exact Qi _ c1 h9
     ·obtain ⟨y,hy⟩:∃ y,l[0]?=some y:=⟨l[0],List.getElem?_eq_getElem (by omega)⟩
      exact Qi 0 _ (h2 0 y hy).1
    obtain ⟨aoG,v0,hv0,hspot⟩:=hcell
    obtain ⟨b,off,spot⟩:=a
    simp only at hspot hv0
    subst hspot
    have hC:cu w b:=yh hv0
    have hget:∀ (i:Nat) x,(l.map fun y=>wr y.2)[i]?=some x→∃ y,l[i]?=some y∧x=wr y.2:=fun i x hx=>by
     rw [List.getElem?_map] at hx
     cases e:l[i]? with
     |none=>rw [e] at hx;cases hx
     |some y=>rw [e] at hx;exact ⟨y,rfl,(Option.some.inj hx).symm⟩
    have hlen:(l.map fun y=>wr y.2).length=len:=by simp [h1]
    have:=aK.list (ok:=fun b=>b<w.heap.size) (w:=w) n (l.map fun y=>wr y.2) b off cap (fun i j=>(((l[i]?).map (·.1)).getD []).getD j default) hC.lt hC (by rw [hlen];exact hl) hm
     (fun x hx=>by
      obtain ⟨i,hi⟩:=List.mem_iff_getElem?.1 hx
      obtain ⟨y,hy,rfl⟩:=hget i x hi
      obtain ⟨_,g1,g2,_⟩:=h2 i y hy
      rw [hw _ g1 g2,g2])
     (fun i x j p hi hj=>by
      obtain ⟨y,hy,rfl⟩:=hget i x hi
      obtain ⟨g0,g1,g2,g3,g4,g5⟩:=h2 i y hy
      rw [hw _ g1 g2] at hj
      have hjn:j<n:=by have:=(List.getElem?_eq_some_iff.1 hj).1;omega
      obtain ⟨_,hc1,h6⟩:=World.cells?_some g0
      have h7:=h6 j hjn
      have hcj:y.1[j]?=some y.1[j]:=List.getElem?_eq_getElem (by omega)
      have hd:(((l[i]?).map (·.1)).getD []).getD j default=y.1[j]:=by
       rw [hy];simp [List.getD_eq_getElem?_getD,hcj]
      rw [hd]
      rw [hcj,Addr.add_lit,Addr.add_lit] at h7
      exact ⟨h7,g4 _ (List.mem_of_getElem? hcj)⟩)
     (fun i x j p hi hj=>by
      obtain ⟨y,hy,rfl⟩:=hget i x hi
      obtain ⟨g0,g1,g2,g3,g4,g5⟩:=h2 i y hy
      rw [hw _ g1 g2] at hj
      have hjn:j<n:=by have:=(List.getElem?_eq_some_iff.1 hj).1;omega
      have hcj:y.1[j]?=some y.1[j]:=List.getElem?_eq_getElem (by omega)
      have hd:(((l[i]?).map (·.1)).getD []).getD j default=y.1[j]:=by
       rw [hy];simp [List.getD_eq_getElem?_getD,hcj]
      rw [hd]
      exact g5 j p _ hj hcj)
    rw [hlen] at this
    exact this⟩
inductive Gf (P:Program):Nat→List Field→List (List PV→Prop)→Nat→Prop
 |nil (o:Nat):Gf P o [] [] 0
 |cons {o n m:Nat} {f:Field} {fs:List Field} {S:List PV→Prop} {Ss:List (List PV→Prop)}:f.offset=o→oJ P f.type n S→Gf P (o+n) fs Ss m→Gf P o (f :: fs) (S :: Ss) (n+m)
theorem Gf.read {o:Nat} {fs:List Field} {Ss:List (List PV→Prop)} (h:Gf P o fs Ss m) {H:Type} {enc:TypeId × Value→H} {w:World} {fuel:Nat} {cs:List Value} {xs:List (DataW H × List MemPlace)} (hl:cs.length=o+m)
  (hx:∀ (i:Nat) (f:Field),fs[i]?=some f→∃ x,DataW.trod enc P w 0 (fun _=>true) true fuel f.type ((cs.drop f.offset).take (P.cellsOf f.type))=some x∧(x.1.weights P f.type).all (·≤reachBytes)=true):∃ ps,LZ Ss ps∧ps.length=m∧AP w (cs.drop o) ps:=by
 induction h with
 |nil o=>exact ⟨[],rfl,rfl,by rw [List.drop_of_length_le (by omega)];exact (⟨rfl,fun c hc=>(by cases hc),fun j x v hx=>(by simp at hx)⟩:AP w [] [])⟩
 |@cons o n m f fs S Ss h1 h2 h3 ih =>
  obtain ⟨x,h4,h5⟩:=hx 0 f rfl
  rw [h2.1,h1] at h4
  obtain ⟨p,g1,g2,g3⟩:=h2.2 h4 h5
  obtain ⟨q,k1,k2,k3⟩:=ih (by omega) (fun i f hf=>hx (i+1) f hf)
  refine ⟨p++q,⟨p,q,rfl,g1,k1⟩,by simp [g2,k2],?_⟩
  have:cs.drop o=(cs.drop o).take n++cs.drop (o+n):=by rw [← List.drop_drop,List.take_append_drop]
  rw [this]
  exact g3.append k3
theorem oJ.struct {fs:Array Field} {Ss:List (List PV→Prop)} (ht:P.underlying t=some (.struct fs)) (hf:Gf P 0 fs.toList Ss n) (hc:P.cellsOf t=n):oJ P t n (LZ Ss):=⟨hc,fun {H enc w fuel cs x} h hz=>by
 obtain ⟨xs,m,_,rfl,hl,hx,hE⟩:=DataW.trod_struct ht h
 obtain ⟨ps,h1,h2,h3⟩:=hf.read (xs:=xs) (enc:=enc) (w:=w) (fuel:=m) (cs:=cs) (by omega) (fun i f hi=>by
  have hi':fs[i]?=some f:=by simpa using hi
  have:=hE i f hi'
  have hil:i<xs.length:=by rw [hx];exact (Array.getElem?_eq_some_iff.1 hi').1
  refine ⟨xs[i],by rw [this,List.getElem?_eq_getElem hil],?_⟩
  rw [List.all_eq_true]
  intro y hy
  refine List.all_eq_true.1 hz y ?_
  simp only [DataW.weights,ht]
  exact DataW.weights_mem_each (j:=i) (t:=f.type) (d:=xs[i].1) (by simp [hi']) (by simp [List.getElem?_map,List.getElem?_eq_getElem hil]) y hy)
 exact ⟨ps,h1,h2,by simpa using h3⟩⟩
theorem oJ.L6 {f0 f1 f2:Field} {n0 n1 n2:Nat} {S0 S1 S2:List PV→Prop} (ht:P.underlying t=some (.struct #[f0,f1,f2])) (h0:oJ P f0.type n0 S0) (h1:oJ P f1.type n1 S1) (h2:oJ P f2.type n2 S2) (o0:f0.offset=0) (o1:f1.offset=0+n0) (o2:f2.offset=0+n0+n1) (hc:P.cellsOf t=n0+(n1+(n2+0))):oJ P t (n0+(n1+(n2+0))) (LZ [S0,S1,S2]) :=
 oJ.struct ht (show Gf P 0 [f0,f1,f2] [S0,S1,S2] (n0+(n1+(n2+0))) from .cons o0 h0 (.cons o1 h1 (.cons o2 h2 (.nil _)))) hc
theorem ad6 {H:Type} {enc:TypeId × Value→H} {w:World} {v:Value} {d:DataW H} {p:List MemPlace} (hr:oJ P t 1 S) (hone:v.cells.toList=[v]) (h:DataW.Trod enc P w 0 (fun _=>true) true t v d p) (hz:(d.weights P t).all (·≤reachBytes)=true) :
  ∃ q,S [q]∧aK (fun b=>b<w.heap.size) w q v:=by
 obtain ⟨fuel,hf⟩:=h
 obtain ⟨ps,h1,h2,h3,h4,h5⟩:=hr.2 hf hz
 match ps,h2 with
 |[q],_=>exact ⟨q,h1,h5 0 q v rfl (by rw [hone];rfl)⟩
theorem U8 {H:Type} {enc:TypeId × Value→H} {w:World} {v:Value} {d:DataW H} {p:List MemPlace} {m:Reach} {base:Nat} (ht:P.underlying t=some (.slice e)) (hr:oJ P t 1 S) (hv:Value.okWide P w m base t v) (h:DataW.Trod enc P w 0 (fun _=>true) true t v d p) (hz:(d.weights P t).all (·≤reachBytes)=true) :
  ∃ q,S [q]∧aK (fun b=>b<w.heap.size) w q v:=by
 obtain ⟨a,l,c,rfl⟩:=okWide_slice ht hv
 exact ad6 hr rfl h hz
theorem QD {H:Type} {t0 t1:TypeId} {d0 d1:DataW H} {ts:List TypeId} {ds:List (DataW H)} (h:(DataW.weightsEach P (t0 :: t1 :: ts) (d0 :: d1 :: ds)).all (·≤reachBytes)=true):(d0.weights P t0).all (·≤reachBytes)=true∧(d1.weights P t1).all (·≤reachBytes)=true:=by
 simp only [DataW.weightsEach,List.all_append,Bool.and_eq_true] at h
 exact ⟨h.1,h.2.1⟩
end
end Go.Proofs.YtpcncggjmabnaaaGreatDoor

namespace Go.Proofs.YtpcncggjmabnaaaGreatDoor
open V
open Go.RowKit Go.ChangeShapes Go.WideShapes Go.ChangeAt
def U9:List PV→Prop:=F9 8 (ajW 8 (SInt .u8)) .agg
theorem akn {q:PV} (h:U9 [q]):∃ l:List fV,l.length≤140737488351232∧q=bf l:=by
 obtain ⟨es,e1,hl,h3⟩:=h
 cases e1
 obtain ⟨l,e2⟩:=anI (q:=.list 8 es) ⟨es,rfl,h3⟩
 refine ⟨l,?_,e2⟩
 have:es=l.map iJ:=by
  have e3:PV.list 8 es=.list 8 (l.map iJ):=e2
  injection e3
 rw [this,List.length_map] at hl
 exact hl
def ako:List PV→Prop:=LZ [SInt .i64,SInt .i64,U9]
theorem apR {ps:List PV} (h:ako ps):∃ x:bK,x.data.length≤140737488351232∧PV.agg ps=dQ x:=by
 obtain ⟨p,q,rfl,⟨n,h1,rfl⟩,p2,q2,rfl,⟨m,h2,rfl⟩,p3,q3,rfl,h3,rfl⟩:=h
 obtain ⟨es,rfl,h4⟩:=h3
 obtain ⟨l,hl,e3⟩:=akn (q:=.list 8 es) ⟨es,rfl,h4⟩
 refine ⟨⟨n,m,l⟩,hl,?_⟩
 rw [e3];rfl
theorem akp {α:Type} {n:Nat} {S:List PV→Prop} {wr:List PV→PV} {enc:α→PV} {ok:α→Prop} (hs:∀ ps,S ps→∃ x,ok x∧wr ps=enc x) {q:PV} (h:F9 n S wr [q]):∃ l:List α,(∀ x∈l,ok x)∧q=.list n (l.map enc):=by
 obtain ⟨es,e1,_,h3⟩:=h
 exact ad5 hs ⟨es,e1,h3⟩
def ad7:List PV→Prop:=F9 3 ako .agg
theorem anK {q:PV} (h:ad7 [q]):∃ l:List bK,szW l∧q=.list 3 (l.map dQ) :=
 akp (enc:=dQ) (ok:=fun x=>x.data.length≤140737488351232) (fun ps h=>apR h) h
theorem Tryz.ag4:oJ Tryz.prog 74 1 U9:=oJ.list Tryz.underlying74 (by kernel_rfl) (.of Tryz.anJ) (Nat.le_of_ble_eq_true (by kernel_rfl)) (by decide) (fun _ _ _=>rfl)
theorem Tryz.anL:oJ Tryz.prog 76 3 ako:=oJ.L6 Tryz.underlying76 (.of Tryz.ahE) (.of Tryz.ahE) Tryz.ag4 rfl rfl rfl (by kernel_rfl)
theorem Tryz.akq:oJ Tryz.prog 35 1 ad7:=oJ.list Tryz.underlying35 (by kernel_rfl) Tryz.anL (Nat.le_of_ble_eq_true (by kernel_rfl)) (by decide) (fun _ _ _=>rfl)
end Go.Proofs.YtpcncggjmabnaaaGreatDoor

namespace Go.Proofs.YtpcncggjmabnaaaGreatDoor
open V
open Go.RowKit Go.ChangeShapes Go.WideShapes Go.ChangeAt
theorem akr {q:PV} (h:SInt .u8 [q]):∃ n:Int,(0≤n∧n≤255)∧q=.int .u8 n:=by
 obtain ⟨b,rfl⟩:=Wy h
 have:=b.toNat_lt
 exact ⟨_,by omega,rfl⟩
def aks:List PV→Prop:=LZ [SInt .u8,SInt .u8,ad7]
theorem apS {ps:List PV} (h:aks ps):∃ x:gZ,(szW x.ws∧(0≤x.kind∧x.kind≤255)∧0≤x.step∧x.step≤255)∧PV.agg ps=CJ x:=by
 obtain ⟨p,q,rfl,⟨n,h1,rfl⟩,p2,q2,rfl,⟨n2,h2,rfl⟩,p3,q3,rfl,h3,rfl⟩:=h
 obtain ⟨a,ha,e1⟩:=akr ⟨n,h1,rfl⟩
 obtain ⟨b,hb,e2⟩:=akr ⟨n2,h2,rfl⟩
 obtain ⟨es,rfl,g1,g2⟩:=h3
 obtain ⟨w,hw,e3⟩:=anK (q:=.list 3 es) ⟨es,rfl,g1,g2⟩
 refine ⟨⟨a,b,w⟩,⟨hw,ha,hb⟩,?_⟩
 rw [e1,e2,e3];rfl
def ahF:List PV→Prop:=F9 3 aks .agg
theorem anM {q:PV} (h:ahF [q]):∃ l:List gZ,szE l∧q=.list 3 (l.map CJ):=by
 obtain ⟨es,e1,hl,h3⟩:=h
 cases e1
 obtain ⟨l,hx,e⟩:=ad5 (enc:=CJ) (ok:=fun x=>szW x.ws∧(0≤x.kind∧x.kind≤255)∧0≤x.step∧x.step≤255) (fun ps h=>apS h) (q:=.list 3 es) ⟨es,rfl,h3⟩
 refine ⟨l,⟨?_,hx⟩,e⟩
 have:es=l.map CJ:=by injection e
 rw [this,List.length_map] at hl
 exact hl
theorem Tryz.anN:oJ Tryz.prog 70 3 aks:=oJ.L6 Tryz.underlying70 (.of Tryz.ag3) (.of Tryz.ag3) Tryz.akq rfl rfl rfl (by kernel_rfl)
theorem Tryz.akt:oJ Tryz.prog 59 1 ahF:=oJ.list Tryz.underlying59 (by kernel_rfl) Tryz.anN (Nat.le_of_ble_eq_true (by kernel_rfl)) (by decide) (fun _ _ _=>rfl)
end Go.Proofs.YtpcncggjmabnaaaGreatDoor
