/-
  Part 12 of the texts that the statement stands on.
-/
import Derived.Test.YtpcncggjmabnaaaGreatDoorZ11
import Derived.Test.YtpcncggjmabnaaaGreatDoorRows
import Derived.Lib.LaidTab
import Derived.LaidByTextLater
import Derived.SizedLaws
set_option linter.all false
namespace Go.Proofs.YtpcncggjmabnaaaGreatDoor
def gW (P:Program) (f:Nat):ZO→Prop
 |.code fn=>bJ P f fn=true
 |.ext g=>∀ args rs,g args=some rs→callable P f=true∧nR P f args rs
 |.BM h=>callable P f=true∧Eh P f h
 |.oV h=>(∀ args,h args=some none→callable P f=true∧nR P f args [])∧∀ args t n,h args=some (some (t,n))→callable P f=true∧VJ P f args t n
 |.dfn _=>False
theorem ok7:gW Tryz.prog 7 (.code fn7):=(by kernel_rfl:bJ Tryz.prog 7 fn7=true)
theorem ao8:gW Tryz.prog 10 (.code abD):=(by kernel_rfl:bJ Tryz.prog 10 abD=true)
theorem ao9:gW Tryz.prog 11 (.code Py):=(by kernel_rfl:bJ Tryz.prog 11 Py=true)
theorem apa:gW Tryz.prog 15 (.code Uo):=(by kernel_rfl:bJ Tryz.prog 15 Uo=true)
theorem ok16:gW Tryz.prog 16 (.code Ku):=(by kernel_rfl:bJ Tryz.prog 16 Ku=true)
theorem apc:gW Tryz.prog 18 (.code Ur):=(by kernel_rfl:bJ Tryz.prog 18 Ur=true)
theorem apd:gW Tryz.prog 20 (.code zF):=(by kernel_rfl:bJ Tryz.prog 20 zF=true)
theorem ape:gW Tryz.prog 23 (.code Hf):=(by kernel_rfl:bJ Tryz.prog 23 Hf=true)
theorem apg:gW Tryz.prog 26 (.code EL):=(by kernel_rfl:bJ Tryz.prog 26 EL=true)
theorem aph:gW Tryz.prog 28 (.code abE):=(by kernel_rfl:bJ Tryz.prog 28 abE=true)
theorem apj:gW Tryz.prog 29 (.code abG):=(by kernel_rfl:bJ Tryz.prog 29 abG=true)
theorem apk:gW Tryz.prog 30 (.code abH):=(by kernel_rfl:bJ Tryz.prog 30 abH=true)
theorem apl:gW Tryz.prog 31 (.code YH):=(by kernel_rfl:bJ Tryz.prog 31 YH=true)
theorem ok32:gW Tryz.prog 32 (.code abI):=(by kernel_rfl:bJ Tryz.prog 32 abI=true)
theorem apm:gW Tryz.prog 33 (.code abJ):=(by kernel_rfl:bJ Tryz.prog 33 abJ=true)
theorem apn:gW Tryz.prog 34 (.code abK):=(by kernel_rfl:bJ Tryz.prog 34 abK=true)
theorem apo:gW Tryz.prog 35 (.code YI):=(by kernel_rfl:bJ Tryz.prog 35 YI=true)
theorem apq:gW Tryz.prog 36 (.code aiZ):=(by kernel_rfl:bJ Tryz.prog 36 aiZ=true)
theorem apr:gW Tryz.prog 37 (.code ai0):=(by kernel_rfl:bJ Tryz.prog 37 ai0=true)
theorem aps:gW Tryz.prog 38 (.code YJ):=(by kernel_rfl:bJ Tryz.prog 38 YJ=true)
theorem apt:gW Tryz.prog 39 (.ext (lK 1)):=Vj
theorem apu:gW Tryz.prog 42 (.code KI):=(by kernel_rfl:bJ Tryz.prog 42 KI=true)
theorem apv:gW Tryz.prog 43 (.code abL):=(by kernel_rfl:bJ Tryz.prog 43 abL=true)
theorem apw:gW Tryz.prog 44 (.code YK):=(by kernel_rfl:bJ Tryz.prog 44 YK=true)
theorem apx:gW Tryz.prog 45 (.code abM):=(by kernel_rfl:bJ Tryz.prog 45 abM=true)
theorem apy:gW Tryz.prog 48 (.code abN):=(by kernel_rfl:bJ Tryz.prog 48 abN=true)
theorem apz:gW Tryz.prog 49 (.code abO):=(by kernel_rfl:bJ Tryz.prog 49 abO=true)
theorem apA:gW Tryz.prog 52 (.code ai1):=(by kernel_rfl:bJ Tryz.prog 52 ai1=true)
theorem apB:gW Tryz.prog 53 (.code abP):=(by kernel_rfl:bJ Tryz.prog 53 abP=true)
theorem apC:gW Tryz.prog 54 (.code YL):=(by kernel_rfl:bJ Tryz.prog 54 YL=true)
theorem apD:gW Tryz.prog 55 (.code abQ):=(by kernel_rfl:bJ Tryz.prog 55 abQ=true)
theorem apF:gW Tryz.prog 56 (.code abR):=(by kernel_rfl:bJ Tryz.prog 56 abR=true)
theorem apG:gW Tryz.prog 57 (.code abS):=(by kernel_rfl:bJ Tryz.prog 57 abS=true)
theorem apH:gW Tryz.prog 59 (.code YM):=(by kernel_rfl:bJ Tryz.prog 59 YM=true)
theorem apJ:gW Tryz.prog 60 (.code YN):=(by kernel_rfl:bJ Tryz.prog 60 YN=true)
theorem apK:gW Tryz.prog 61 (.code abT):=(by kernel_rfl:bJ Tryz.prog 61 abT=true)
theorem apL:gW Tryz.prog 62 (.code abU):=(by kernel_rfl:bJ Tryz.prog 62 abU=true)
theorem apM:gW Tryz.prog 63 (.code abV):=(by kernel_rfl:bJ Tryz.prog 63 abV=true)
theorem apP:gW Tryz.prog 64 (.code abW):=(by kernel_rfl:bJ Tryz.prog 64 abW=true)
theorem apQ:gW Tryz.prog 65 (.code Us):=(by kernel_rfl:bJ Tryz.prog 65 Us=true)
theorem apR:gW Tryz.prog 66 (.code abX):=(by kernel_rfl:bJ Tryz.prog 66 abX=true)
theorem apS:gW Tryz.prog 67 (.code LC):=(by kernel_rfl:bJ Tryz.prog 67 LC=true)
theorem apT:gW Tryz.prog 68 (.code abY):=(by kernel_rfl:bJ Tryz.prog 68 abY=true)
theorem apU:gW Tryz.prog 69 (.code abZ):=(by kernel_rfl:bJ Tryz.prog 69 abZ=true)
theorem apV:gW Tryz.prog 70 (.code ab1):=(by kernel_rfl:bJ Tryz.prog 70 ab1=true)
theorem apW:gW Tryz.prog 72 (.code YO):=(by kernel_rfl:bJ Tryz.prog 72 YO=true)
theorem apX:gW Tryz.prog 73 (.code Ut):=(by kernel_rfl:bJ Tryz.prog 73 Ut=true)
theorem apY:gW Tryz.prog 74 (.code YP):=(by kernel_rfl:bJ Tryz.prog 74 YP=true)
theorem apZ:gW Tryz.prog 75 (.code ab2):=(by kernel_rfl:bJ Tryz.prog 75 ab2=true)
theorem ap0:gW Tryz.prog 76 (.code ab3):=(by kernel_rfl:bJ Tryz.prog 76 ab3=true)
theorem ap1:gW Tryz.prog 77 (.code YQ):=(by kernel_rfl:bJ Tryz.prog 77 YQ=true)
theorem ap2:gW Tryz.prog 78 (.code Uu):=(by kernel_rfl:bJ Tryz.prog 78 Uu=true)
theorem ap3:gW Tryz.prog 79 (.code ab4):=(by kernel_rfl:bJ Tryz.prog 79 ab4=true)
theorem ap4:gW Tryz.prog 80 (.ext (lK 1)):=Vl
theorem ap5:gW Tryz.prog 86 (.ext (lK 8)):=Vg
theorem ap6:gW Tryz.prog 87 (.code ab5):=(by kernel_rfl:bJ Tryz.prog 87 ab5=true)
theorem ap7:gW Tryz.prog 88 (.code Pz):=(by kernel_rfl:bJ Tryz.prog 88 Pz=true)
theorem ap8:gW Tryz.prog 89 (.code YR):=(by kernel_rfl:bJ Tryz.prog 89 YR=true)
theorem ap9:gW Tryz.prog 90 (.code YS):=(by kernel_rfl:bJ Tryz.prog 90 YS=true)
theorem aqa:gW Tryz.prog 91 (.code Hg):=(by kernel_rfl:bJ Tryz.prog 91 Hg=true)
theorem aqb:gW Tryz.prog 93 (.code ai2):=(by kernel_rfl:bJ Tryz.prog 93 ai2=true)
theorem aqc:gW Tryz.prog 94 (.code ab6):=(by kernel_rfl:bJ Tryz.prog 94 ab6=true)
theorem aqd:gW Tryz.prog 95 (.code ab7):=(by kernel_rfl:bJ Tryz.prog 95 ab7=true)
theorem aqe:gW Tryz.prog 97 (.code ab8):=(by kernel_rfl:bJ Tryz.prog 97 ab8=true)
theorem aqf:gW Tryz.prog 98 (.code ab9):=(by kernel_rfl:bJ Tryz.prog 98 ab9=true)
theorem aqg:gW Tryz.prog 99 (.code acd):=(by kernel_rfl:bJ Tryz.prog 99 acd=true)
theorem ant:gW Tryz.prog 100 (.ext uG):=ZA
theorem anu:gW Tryz.prog 101 (.code PD):=(by kernel_rfl:bJ Tryz.prog 101 PD=true)
theorem anv:gW Tryz.prog 102 (.code PE):=(by kernel_rfl:bJ Tryz.prog 102 PE=true)
theorem anw:gW Tryz.prog 103 (.code PG):=(by kernel_rfl:bJ Tryz.prog 103 PG=true)
theorem anx:gW Tryz.prog 104 (.code PI):=(by kernel_rfl:bJ Tryz.prog 104 PI=true)
theorem anz:gW Tryz.prog 105 (.code PK):=(by kernel_rfl:bJ Tryz.prog 105 PK=true)
theorem anA:gW Tryz.prog 106 (.code PL):=(by kernel_rfl:bJ Tryz.prog 106 PL=true)
theorem anB:gW Tryz.prog 107 (.code PN):=(by kernel_rfl:bJ Tryz.prog 107 PN=true)
theorem anC:gW Tryz.prog 108 (.code PO):=(by kernel_rfl:bJ Tryz.prog 108 PO=true)
theorem anD:gW Tryz.prog 109 (.code PS):=(by kernel_rfl:bJ Tryz.prog 109 PS=true)
theorem anE:gW Tryz.prog 112 (.code PU):=(by kernel_rfl:bJ Tryz.prog 112 PU=true)
theorem anF:gW Tryz.prog 113 (.code PW):=(by kernel_rfl:bJ Tryz.prog 113 PW=true)
theorem anG:gW Tryz.prog 114 (.code PX):=(by kernel_rfl:bJ Tryz.prog 114 PX=true)
theorem anH:gW Tryz.prog 115 (.BM Px):=akO
theorem anI:gW Tryz.prog 116 (.code PY):=(by kernel_rfl:bJ Tryz.prog 116 PY=true)
theorem anJ:gW Tryz.prog 118 (.code I5):=(by kernel_rfl:bJ Tryz.prog 118 I5=true)
theorem anK:gW Tryz.prog 119 (.code PZ):=(by kernel_rfl:bJ Tryz.prog 119 PZ=true)
theorem anL:gW Tryz.prog 120 (.code P5):=(by kernel_rfl:bJ Tryz.prog 120 P5=true)
theorem anM:gW Tryz.prog 121 (.code P6):=(by kernel_rfl:bJ Tryz.prog 121 P6=true)
theorem anN:gW Tryz.prog 122 (.code EX):=(by kernel_rfl:bJ Tryz.prog 122 EX=true)
theorem anO:gW Tryz.prog 124 (.code P7):=(by kernel_rfl:bJ Tryz.prog 124 P7=true)
theorem anP:gW Tryz.prog 125 (.code I7):=(by kernel_rfl:bJ Tryz.prog 125 I7=true)
theorem anQ:gW Tryz.prog 126 (.ext tzX):=alK
theorem anR:gW Tryz.prog 128 (.code P8):=(by kernel_rfl:bJ Tryz.prog 128 P8=true)
theorem anS:gW Tryz.prog 129 (.code P9):=(by kernel_rfl:bJ Tryz.prog 129 P9=true)
theorem anT:gW Tryz.prog 130 (.code Qc):=(by kernel_rfl:bJ Tryz.prog 130 Qc=true)
theorem anU:gW Tryz.prog 131 (.code CP):=(by kernel_rfl:bJ Tryz.prog 131 CP=true)
theorem anV:gW Tryz.prog 132 (.code Qg):=(by kernel_rfl:bJ Tryz.prog 132 Qg=true)
theorem anW:gW Tryz.prog 133 (.code Qh):=(by kernel_rfl:bJ Tryz.prog 133 Qh=true)
theorem anX:gW Tryz.prog 134 (.code Qi):=(by kernel_rfl:bJ Tryz.prog 134 Qi=true)
theorem anY:gW Tryz.prog 135 (.code CQ):=(by kernel_rfl:bJ Tryz.prog 135 CQ=true)
theorem anZ:gW Tryz.prog 136 (.BM (lW 137)):=QB
theorem an0:gW Tryz.prog 137 (.code ace):=(by kernel_rfl:bJ Tryz.prog 137 ace=true)
theorem an1:gW Tryz.prog 138 (.code acf):=(by kernel_rfl:bJ Tryz.prog 138 acf=true)
theorem an2:gW Tryz.prog 141 (.code acg):=(by kernel_rfl:bJ Tryz.prog 141 acg=true)
theorem an3:∀ p∈tab,gW Tryz.prog p.1 p.2:=by
 unfold tab
 exact List.forall_mem_cons.2 ⟨ok7,List.forall_mem_cons.2 ⟨ao8,List.forall_mem_cons.2 ⟨ao9,List.forall_mem_cons.2 ⟨apa,List.forall_mem_cons.2 ⟨ok16,List.forall_mem_cons.2 ⟨apc,List.forall_mem_cons.2 ⟨apd,List.forall_mem_cons.2 ⟨ape,List.forall_mem_cons.2 ⟨apg,List.forall_mem_cons.2 ⟨aph,List.forall_mem_cons.2 ⟨apj,List.forall_mem_cons.2 ⟨apk,List.forall_mem_cons.2 ⟨apl,List.forall_mem_cons.2 ⟨ok32,List.forall_mem_cons.2 ⟨apm,List.forall_mem_cons.2 ⟨apn,List.forall_mem_cons.2 ⟨apo,List.forall_mem_cons.2 ⟨apq,List.forall_mem_cons.2 ⟨apr,List.forall_mem_cons.2 ⟨aps,List.forall_mem_cons.2 ⟨apt,List.forall_mem_cons.2 ⟨apu,List.forall_mem_cons.2 ⟨apv,List.forall_mem_cons.2 ⟨apw,List.forall_mem_cons.2 ⟨apx,List.forall_mem_cons.2 ⟨apy,List.forall_mem_cons.2 ⟨apz,List.forall_mem_cons.2 ⟨apA,List.forall_mem_cons.2 ⟨apB,List.forall_mem_cons.2 ⟨apC,List.forall_mem_cons.2 ⟨apD,List.forall_mem_cons.2 ⟨apF,List.forall_mem_cons.2 ⟨apG,List.forall_mem_cons.2 ⟨apH,List.forall_mem_cons.2 ⟨apJ,List.forall_mem_cons.2 ⟨apK,List.forall_mem_cons.2 ⟨apL,List.forall_mem_cons.2 ⟨apM,List.forall_mem_cons.2 ⟨apP,List.forall_mem_cons.2 ⟨apQ,List.forall_mem_cons.2 ⟨apR,List.forall_mem_cons.2 ⟨apS,List.forall_mem_cons.2 ⟨apT,List.forall_mem_cons.2 ⟨apU,List.forall_mem_cons.2 ⟨apV,List.forall_mem_cons.2 ⟨apW,List.forall_mem_cons.2 ⟨apX,List.forall_mem_cons.2 ⟨apY,List.forall_mem_cons.2 ⟨apZ,List.forall_mem_cons.2 ⟨ap0,List.forall_mem_cons.2 ⟨ap1,List.forall_mem_cons.2 ⟨ap2,List.forall_mem_cons.2 ⟨ap3,List.forall_mem_cons.2 ⟨ap4,List.forall_mem_cons.2 ⟨ap5,List.forall_mem_cons.2 ⟨ap6,List.forall_mem_cons.2 ⟨ap7,List.forall_mem_cons.2 ⟨ap8,List.forall_mem_cons.2 ⟨ap9,List.forall_mem_cons.2 ⟨aqa,List.forall_mem_cons.2 ⟨aqb,List.forall_mem_cons.2 ⟨aqc,List.forall_mem_cons.2 ⟨aqd,List.forall_mem_cons.2 ⟨aqe,List.forall_mem_cons.2 ⟨aqf,List.forall_mem_cons.2 ⟨aqg,List.forall_mem_cons.2 ⟨ant,List.forall_mem_cons.2 ⟨anu,List.forall_mem_cons.2 ⟨anv,List.forall_mem_cons.2 ⟨anw,List.forall_mem_cons.2 ⟨anx,List.forall_mem_cons.2 ⟨anz,List.forall_mem_cons.2 ⟨anA,List.forall_mem_cons.2 ⟨anB,List.forall_mem_cons.2 ⟨anC,List.forall_mem_cons.2 ⟨anD,List.forall_mem_cons.2 ⟨anE,List.forall_mem_cons.2 ⟨anF,List.forall_mem_cons.2 ⟨anG,List.forall_mem_cons.2 ⟨anH,List.forall_mem_cons.2 ⟨anI,List.forall_mem_cons.2 ⟨anJ,List.forall_mem_cons.2 ⟨anK,List.forall_mem_cons.2 ⟨anL,List.forall_mem_cons.2 ⟨anM,List.forall_mem_cons.2 ⟨anN,List.forall_mem_cons.2 ⟨anO,List.forall_mem_cons.2 ⟨anP,List.forall_mem_cons.2 ⟨anQ,List.forall_mem_cons.2 ⟨anR,List.forall_mem_cons.2 ⟨anS,List.forall_mem_cons.2 ⟨anT,List.forall_mem_cons.2 ⟨anU,List.forall_mem_cons.2 ⟨anV,List.forall_mem_cons.2 ⟨anW,List.forall_mem_cons.2 ⟨anX,List.forall_mem_cons.2 ⟨anY,List.forall_mem_cons.2 ⟨anZ,List.forall_mem_cons.2 ⟨an0,List.forall_mem_cons.2 ⟨an1,List.forall_mem_cons.2 ⟨an2,fun p hp=>by cases hp⟩⟩⟩⟩⟩⟩⟩⟩⟩⟩⟩⟩⟩⟩⟩⟩⟩⟩⟩⟩⟩⟩⟩⟩⟩⟩⟩⟩⟩⟩⟩⟩⟩⟩⟩⟩⟩⟩⟩⟩⟩⟩⟩⟩⟩⟩⟩⟩⟩⟩⟩⟩⟩⟩⟩⟩⟩⟩⟩⟩⟩⟩⟩⟩⟩⟩⟩⟩⟩⟩⟩⟩⟩⟩⟩⟩⟩⟩⟩⟩⟩⟩⟩⟩⟩⟩⟩⟩⟩⟩⟩⟩⟩⟩⟩⟩⟩⟩⟩⟩⟩
theorem Gs:∀ {l:List (Nat × ZO)} {f:Nat} {d:ZO},l.lookup f=some d→(f,d)∈l
 |(k,v) :: l,f,d,h=>by
  rw [List.lookup_cons] at h
  split at h
  ·rename_i e
   have e:f=k:=by simpa using e
   cases h;subst e;simp
  ·exact List.mem_cons_of_mem _ (Gs h)
theorem an4:CB Tryz.prog env:=fun f d h=>by
 have:=an3 _ (Gs h)
 cases d<;>exact this
end Go.Proofs.YtpcncggjmabnaaaGreatDoor

namespace Go.Proofs.YtpcncggjmabnaaaGreatDoor
open Go.RowKit
theorem ZB:(Rows.laid_math_bits_deBruijn64tab:DataW Unit)=Lib.tabData .u8 (Lib.deBruijn64tab.map Int.ofNat):=by kernel_rfl
theorem an5:Tryz.prog.globalNamed "math/bits.deBruijn64tab"=some 0:=by kernel_rfl
theorem Gt {w:World} {l:List (String × DataW Unit)} (hl:l=[("math/bits.deBruijn64tab",Rows.laid_math_bits_deBruijn64tab)]) (h:laidMetH Tryz.prog l w):MX w:=by
 subst hl
 rw [MakeChecks.laidMetH_plain _ _ _ (by kernel_rfl),ZB] at h
 have ht:Lib.TabIs Tryz.prog w "math/bits.deBruijn64tab" .u8 (Lib.deBruijn64tab.map Int.ofNat) :=
  Lib.tabIs_of_head (t:=185) (e:=5) (n:=64) an5 (by kernel_rfl) (by kernel_rfl) (by kernel_rfl) (by kernel_rfl) (by kernel_rfl) h
 have hc:∀ i,i<64→w.cell? ⟨0,i,none⟩=some (.int .u8 ((Lib.deBruijn64tab.map Int.ofNat).getD i 0)):=fun i hi=>ht.cell an5 i (by simpa [Lib.deBruijn64tab] using hi)
 have hC:cO w 0:=yL (hc 0 (by decide))
 intro p hp
 obtain rfl:p=_:=List.mem_singleton.1 hp
 refine .dR _ 0 _ 0 (fun i=>.int .u8 ((Lib.deBruijn64tab.map Int.ofNat).getD i 0)) (if_pos hC.lt) hC (fun k x hk=>?_) (fun k x hk=>?_)
 ·have hk':=(List.getElem?_eq_some_iff.1 hk).1
  rw [Nat.zero_add]
  exact ⟨hc k (by simpa [Lib.deBruijn64tab] using hk'),rfl⟩
 ·simp only [List.getElem?_map] at hk
  cases e:Lib.deBruijn64tab[k]? with
  |none=>rw [e] at hk;cases hk
  |some n =>
   rw [e] at hk;cases hk
   have:(Lib.deBruijn64tab.map Int.ofNat).getD k 0=(n:Int):=by simp [List.getD_eq_getElem?_getD,e]
   rw [this]
   exact .int _ _
end Go.Proofs.YtpcncggjmabnaaaGreatDoor

namespace Go.Proofs.YtpcncggjmabnaaaGreatDoor.V
open Go.RowKit Go.ChangeShapes Go.WideShapes Go.ChangeAt
theorem Tryz.aeH:ownKnob Tryz.prog.godebug=none:=by kernel_rfl
theorem Tryz.Gu:laidOutB Tryz.prog=true:=by kernel_rfl
theorem Xb {q:PV} (h:SInt .u8 [q]):∃ b:UInt8,q=.int .u8 (b.toNat:Int):=by
 obtain ⟨n,h1,h2⟩:=h
 have h3:IntKind.u8.min=0:=rfl
 have h4:IntKind.u8.max=255:=rfl
 simp only [Lit.wf,Bool.and_eq_true,decide_eq_true_eq] at h1
 cases h2
 refine ⟨UInt8.ofNat n.toNat,?_⟩
 rw [UInt8.toNat_ofNat_of_lt' (show n.toNat<2 ^ 8 by omega)]
 congr 1;omega
def akP:List PV→Prop:=aky 8 (SInt .u8)
theorem aqh {ps:List PV} (h:akP ps):∃ s:fM,ps=lT s:=by
 obtain ⟨h1,h2⟩:=h
 have:∀ l:List PV,(∀ p∈l,SInt .u8 [p])→∃ m:List UInt8,m.length=l.length∧l=m.map fun b=>.int .u8 (b.toNat:Int):=by
  intro l
  induction l with
  |nil=>exact fun _=>⟨[],rfl,rfl⟩
  |cons p l ih =>
   intro h
   obtain ⟨b,hb⟩:=Xb (h p (by simp))
   obtain ⟨m,e1,e2⟩:=ih fun q hq=>h q (by simp [hq])
   exact ⟨b :: m,by simp [e1],by rw [hb,e2];rfl⟩
 obtain ⟨m,e1,e2⟩:=this ps h2
 refine ⟨⟨m.toArray,by simp [e1,h1]⟩,?_⟩
 subst e2
 simp [lT,Vector.toList]
theorem aeI {α:Type} {n:Nat} {S:List PV→Prop} {wr:List PV→PV} {enc:α→PV} {ok:α→Prop} (hS:∀ ps,S ps→∃ a,ok a∧wr ps=enc a) {q:PV} (h:adY n S wr [q]):∃ l:List α,(∀ a∈l,ok a)∧q=.list n (l.map enc):=by
 obtain ⟨es,h1,h2⟩:=h
 cases h1
 have:∀ es:List PV,(∀ x∈es,∃ q,S q∧x=wr q)→∃ l:List α,(∀ a∈l,ok a)∧es=l.map enc:=by
  intro es
  induction es with
  |nil=>exact fun _=>⟨[],by simp,rfl⟩
  |cons e es ih =>
   intro h
   obtain ⟨q,h3,h4⟩:=h e (by simp)
   obtain ⟨a,h5,h6⟩:=hS q h3
   obtain ⟨l,h7,h8⟩:=ih fun x hx=>h x (by simp [hx])
   exact ⟨a :: l,by simp;exact ⟨h5,h7⟩,by rw [h4,h6,h8];rfl⟩
 obtain ⟨l,h3,h4⟩:=this es h2
 exact ⟨l,h3,by rw [h4]⟩
def an6:List PV→Prop:=adY 8 akP .agg
theorem an7 {q:PV} (h:an6 [q]):∃ l:List fM,q=aX l:=by
 obtain ⟨l,_,e⟩:=aeI (enc:=iI) (ok:=fun _=>True) (fun ps h=>by obtain ⟨s,rfl⟩:=aqh h;exact ⟨s,trivial,rfl⟩) h
 exact ⟨l,e⟩
theorem Tryz.aii:nD Tryz.prog 3 1 (SInt .i64):=nD.int Tryz.underlying3 (by kernel_rfl)
theorem Tryz.aeJ:nD Tryz.prog 5 1 (SInt .u8):=nD.int Tryz.underlying5 (by kernel_rfl)
theorem Tryz.an8:nD Tryz.prog 79 8 akP:=nD.arr Tryz.underlying79 Tryz.aeJ (by kernel_rfl)
end Go.Proofs.YtpcncggjmabnaaaGreatDoor.V

namespace Go.Proofs.YtpcncggjmabnaaaGreatDoor
open V
open Go.RowKit Go.ChangeShapes Go.WideShapes Go.ChangeAt
end Go.Proofs.YtpcncggjmabnaaaGreatDoor

namespace Go.Proofs.YtpcncggjmabnaaaGreatDoor
open V
open Go.RowKit Go.ChangeShapes Go.WideShapes Go.ChangeAt
end Go.Proofs.YtpcncggjmabnaaaGreatDoor

namespace Go.Proofs.YtpcncggjmabnaaaGreatDoor
open V
open Go.RowKit Go.ChangeShapes Go.WideShapes Go.ChangeAt
end Go.Proofs.YtpcncggjmabnaaaGreatDoor

namespace Go.Proofs.YtpcncggjmabnaaaGreatDoor
open Go.RowKit Go.WideShapes
def oM (P:Program) (t:TypeId) (n:Nat) (S:List PV→Prop):Prop :=
 P.cellsOf t=n∧∀ {H:Type} {enc:TypeId × Value→H} {w:World} {fuel:Nat} {cs:List Value} {x:DataW H × List MemPlace},DataW.trod enc P w 0 (fun _=>true) true fuel t cs=some x→(x.1.weights P t).all (·≤reachBytes)=true→∃ ps,S ps∧ps.length=n∧BD w cs ps
def Gv (n:Nat) (S:List PV→Prop) (wr:List PV→PV) (ps:List PV):Prop:=∃ es,ps=[.list n es]∧es.length≤140737488351232∧∀ x∈es,∃ q,S q∧x=wr q
section
variable {P:Program} {t e:TypeId} {n m:Nat} {S:List PV→Prop} {k:IntKind}
theorem oM.of (h:nD P t n S):oM P t n S:=⟨h.1,fun h1 _=>h.2 h1⟩
theorem uY {H:Type}:∀ {ds:List (DataW H)} {i:Nat} (h:i<ds.length) {y:Nat},y∈ds[i].weights P e→y∈DataW.weightsAll P e ds
 |d :: ds,0,_,y,hy=>by
  simp only [DataW.weightsAll,List.mem_append]
  exact .inl hy
 |d :: ds,i+1,h,y,hy=>by
  simp only [DataW.weightsAll,List.mem_append]
  exact .inr (uY (ds:=ds) (i:=i) (by simpa using h) (by simpa using hy))
 |[],_,h,_,_=>by simp at h
theorem oM.list {wr:List PV→PV} (ht:P.underlying t=some (.slice e)) (hc:P.cellsOf t=1) (hr:oM P e n S) (hb:1≤P.bytesOf e) (hpos:0<n) (hw:∀ ps,S ps→ps.length=n→(wr ps).cells=ps):oM P t 1 (Gv n S wr):=⟨hc,fun {H enc w fuel cs x} h hz=>by
 rcases DataW.trod_slice ht h with ⟨rfl,_⟩|⟨a,len,cap,elems,rest,m,_,rfl,rfl,_,hl,hm,hel,hE,hR,_⟩
 ·exact ⟨[.list n []],⟨[],rfl,Nat.zero_le _,fun x hx=>by cases hx⟩,rfl,sU rfl (.nil n none)⟩
 ·have hz1:elems.length≤140737488351232:=by
   have:=List.all_eq_true.1 hz ((elems.length+rest.length) * P.bytesOf e) (by simp [DataW.weights,ht])
   have h3:(elems.length+rest.length) * P.bytesOf e≤140737488351232:=by
    have h:=of_decide_eq_true this
    simpa [reachBytes] using h
   have h4:(elems.length+rest.length) * 1≤(elems.length+rest.length) * P.bytesOf e:=Nat.mul_le_mul_left _ hb
   omega
  have hz2:∀ (i:Nat) (h:i<elems.length),(elems[i].1.weights P e).all (·≤reachBytes)=true:=fun i hi=>by
   rw [List.all_eq_true]
   intro y hy
   refine List.all_eq_true.1 hz y ?_
   simp only [DataW.weights,ht,List.mem_cons,List.mem_append]
   exact .inr (.inl (uY (i:=i) (by simpa using hi) (by simpa using hy)))
  obtain ⟨l,h1,h2⟩:=xI (p:=fun i (y:List Value × List PV)=>w.cells? 0 (a.add (i * n)) n=some y.1∧S y.2∧y.2.length=n∧BD w y.1 y.2) len fun i hi=>by
   have:=hE i hi
   rw [List.getElem?_eq_getElem (by omega),hr.1,Option.bind_eq_some_iff] at this
   obtain ⟨c,h3,h4⟩:=this
   obtain ⟨ps,g1,g2,g3⟩:=hr.2 h4 (hz2 i (by omega))
   exact ⟨(c,ps),h3,g1,g2,g3⟩
  refine ⟨[.list n (l.map fun y=>wr y.2)],⟨_,rfl,by rw [List.length_map,h1];omega,fun x hx=>?_⟩,rfl,sU rfl ?_⟩
  ·obtain ⟨y,hy,rfl⟩:=List.mem_map.1 hx
   obtain ⟨i,hi⟩:=List.mem_iff_getElem?.1 hy
   exact ⟨y.2,(h2 i y hi).2.1,rfl⟩
  ·by_cases hcap:cap=0
   ·have:len=0:=by omega
    subst hcap;subst this
    have:l=[]:=List.eq_nil_of_length_eq_zero h1
    subst this
    exact .nil n (some a)
   ·-- there are cells
    have hcell:∃ off v,w.cell? ⟨a.block,off,none⟩=some v∧a.spot=none:=by
     have QK:∀ (i:Nat) (c:List Value),w.cells? 0 (a.add (i * n)) n=some c→∃ off v,w.cell? ⟨a.block,off,none⟩=some v∧a.spot=none:=fun i c h3=>by
      obtain ⟨_,hc0,h4⟩:=World.cells?_some h3
      have h5:=h4 0 hpos
      rw [List.getElem?_eq_getElem (by omega)] at h5
      have hs:(a.add (i * n)).spot=none:=by simpa [Addr.add] using World.cell?_spot h5
      have hs0:a.spot=none:=by
       unfold Addr.add at hs
       split at hs
       ·exact hs
       ·rename_i hne
        by_cases h0:i * n=0
        ·rename_i q;exact absurd h0 (by simpa using hne)
        ·rcases Nat.eq_zero_or_pos i with hi0|hi0
         ·subst hi0;simp at h0
         ·-- the row begins at a: its first cell
          have:0<len∨len=0:=by omega
          rcases this with hlen|hlen
          ·obtain ⟨y,hy⟩:∃ y,l[0]?=some y:=⟨l[0],List.getElem?_eq_getElem (by omega)⟩
           obtain ⟨_,hc1,h6⟩:=World.cells?_some (h2 0 y hy).1
           have h7:=h6 0 hpos
           rw [List.getElem?_eq_getElem (by omega)] at h7
           simpa [Addr.add] using World.cell?_spot h7
          ·have hrl:0<rest.length:=by have:=(hR rfl).1;omega
           have:=(hR rfl).2 0 (by omega)
           have h8:rest[0]?=some rest[0]:=List.getElem?_eq_getElem hrl
           rw [h8,hr.1,hlen,Option.bind_eq_some_iff] at this
           obtain ⟨c1,h9,_⟩:=this
           obtain ⟨_,hc1,h6⟩:=World.cells?_some h9
           have h7:=h6 0 hpos
           rw [List.getElem?_eq_getElem (by omega)] at h7
           simpa [Addr.add] using World.cell?_spot h7
      obtain ⟨b,off,spot⟩:=a
      simp only at hs0
      subst hs0
      rw [Addr.add_lit,Addr.add_lit] at h5
      exact ⟨_,_,h5,rfl⟩
     rcases Nat.eq_zero_or_pos len with hlen|hlen
     ·have hrl:0<rest.length:=by have:=(hR rfl).1;omega
      have:=(hR rfl).2 0 (by omega)
      have h8:rest[0]?=some rest[0]:=List.getElem?_eq_getElem hrl
      rw [h8,hr.1,Option.bind_eq_some_iff] at this
      obtain ⟨c1,h9,_⟩:=this
      exact QK _ c1 h9
     ·obtain ⟨y,hy⟩:∃ y,l[0]?=some y:=⟨l[0],List.getElem?_eq_getElem (by omega)⟩
      exact QK 0 _ (h2 0 y hy).1
    obtain ⟨ao3,v0,hv0,hspot⟩:=hcell
    obtain ⟨b,off,spot⟩:=a
    simp only at hspot hv0
    subst hspot
    have hC:cO w b:=yL hv0
    have hget:∀ (i:Nat) x,(l.map fun y=>wr y.2)[i]?=some x→∃ y,l[i]?=some y∧x=wr y.2:=fun i x hx=>by
     rw [List.getElem?_map] at hx
     cases e:l[i]? with
     |none=>rw [e] at hx;cases hx
     |some y=>rw [e] at hx;exact ⟨y,rfl,(Option.some.inj hx).symm⟩
    have hlen:(l.map fun y=>wr y.2).length=len:=by simp [h1]
    have:=aO.list (ok:=fun b=>b<w.heap.size) (w:=w) n (l.map fun y=>wr y.2) b off cap (fun i j=>(((l[i]?).map (·.1)).getD []).getD j default) hC.lt hC (by rw [hlen];exact hl) hm
     (fun x hx=>by
      obtain ⟨i,hi⟩:=List.mem_iff_getElem?.1 hx
      obtain ⟨y,hy,rfl⟩:=hget i x hi
      obtain ⟨_,g1,g2,_⟩:=h2 i y hy
      rw [hw _ g1 g2,g2])
     (fun i x j p hi hj=>by
      obtain ⟨y,hy,rfl⟩:=hget i x hi
      obtain ⟨g0,g1,g2,g3,g4,g5⟩:=h2 i y hy
      rw [hw _ g1 g2] at hj
      have hjn:j<n:=by have:=(List.getElem?_eq_some_iff.1 hj).1;omega
      obtain ⟨_,hc1,h6⟩:=World.cells?_some g0
      have h7:=h6 j hjn
      have hcj:y.1[j]?=some y.1[j]:=List.getElem?_eq_getElem (by omega)
      have hd:(((l[i]?).map (·.1)).getD []).getD j default=y.1[j]:=by
       rw [hy];simp [List.getD_eq_getElem?_getD,hcj]
      rw [hd]
      rw [hcj,Addr.add_lit,Addr.add_lit] at h7
      exact ⟨h7,g4 _ (List.mem_of_getElem? hcj)⟩)
     (fun i x j p hi hj=>by
      obtain ⟨y,hy,rfl⟩:=hget i x hi
      obtain ⟨g0,g1,g2,g3,g4,g5⟩:=h2 i y hy
      rw [hw _ g1 g2] at hj
      have hjn:j<n:=by have:=(List.getElem?_eq_some_iff.1 hj).1;omega
      have hcj:y.1[j]?=some y.1[j]:=List.getElem?_eq_getElem (by omega)
      have hd:(((l[i]?).map (·.1)).getD []).getD j default=y.1[j]:=by
       rw [hy];simp [List.getD_eq_getElem?_getD,hcj]
      rw [hd]
      exact g5 j p _ hj hcj)
    rw [hlen] at this
    exact this⟩
inductive Gw (P:Program):Nat→List Field→List (List PV→Prop)→Nat→Prop
 |nil (o:Nat):Gw P o [] [] 0
 |cons {o n m:Nat} {f:Field} {fs:List Field} {S:List PV→Prop} {Ss:List (List PV→Prop)}:f.offset=o→oM P f.type n S→Gw P (o+n) fs Ss m→Gw P o (f :: fs) (S :: Ss) (n+m)
theorem Gw.read {o:Nat} {fs:List Field} {Ss:List (List PV→Prop)} (h:Gw P o fs Ss m) {H:Type} {enc:TypeId × Value→H} {w:World} {fuel:Nat} {cs:List Value} {xs:List (DataW H × List MemPlace)} (hl:cs.length=o+m)
  (hx:∀ (i:Nat) (f:Field),fs[i]?=some f→∃ x,DataW.trod enc P w 0 (fun _=>true) true fuel f.type ((cs.drop f.offset).take (P.cellsOf f.type))=some x∧(x.1.weights P f.type).all (·≤reachBytes)=true):∃ ps,Na Ss ps∧ps.length=m∧BD w (cs.drop o) ps:=by
 induction h with
 |nil o=>exact ⟨[],rfl,rfl,by rw [List.drop_of_length_le (by omega)];exact (⟨rfl,fun c hc=>(by cases hc),fun j x v hx=>(by simp at hx)⟩:BD w [] [])⟩
 |@cons o n m f fs S Ss h1 h2 h3 ih =>
  obtain ⟨x,h4,h5⟩:=hx 0 f rfl
  rw [h2.1,h1] at h4
  obtain ⟨p,g1,g2,g3⟩:=h2.2 h4 h5
  obtain ⟨q,k1,k2,k3⟩:=ih (by omega) (fun i f hf=>hx (i+1) f hf)
  refine ⟨p++q,⟨p,q,rfl,g1,k1⟩,by simp [g2,k2],?_⟩
  have:cs.drop o=(cs.drop o).take n++cs.drop (o+n):=by rw [← List.drop_drop,List.take_append_drop]
  rw [this]
  exact g3.append k3
theorem oM.struct {fs:Array Field} {Ss:List (List PV→Prop)} (ht:P.underlying t=some (.struct fs)) (hf:Gw P 0 fs.toList Ss n) (hc:P.cellsOf t=n):oM P t n (Na Ss):=⟨hc,fun {H enc w fuel cs x} h hz=>by
 obtain ⟨xs,m,_,rfl,hl,hx,hE⟩:=DataW.trod_struct ht h
 obtain ⟨ps,h1,h2,h3⟩:=hf.read (xs:=xs) (enc:=enc) (w:=w) (fuel:=m) (cs:=cs) (by omega) (fun i f hi=>by
  have hi':fs[i]?=some f:=by simpa using hi
  have:=hE i f hi'
  have hil:i<xs.length:=by rw [hx];exact (Array.getElem?_eq_some_iff.1 hi').1
  refine ⟨xs[i],by rw [this,List.getElem?_eq_getElem hil],?_⟩
  rw [List.all_eq_true]
  intro y hy
  refine List.all_eq_true.1 hz y ?_
  simp only [DataW.weights,ht]
  exact DataW.weights_mem_each (j:=i) (t:=f.type) (d:=xs[i].1) (by simp [hi']) (by simp [List.getElem?_map,List.getElem?_eq_getElem hil]) y hy)
 exact ⟨ps,h1,h2,by simpa using h3⟩⟩
theorem oM.Nb {f0 f1 f2:Field} {n0 n1 n2:Nat} {S0 S1 S2:List PV→Prop} (ht:P.underlying t=some (.struct #[f0,f1,f2])) (h0:oM P f0.type n0 S0) (h1:oM P f1.type n1 S1) (h2:oM P f2.type n2 S2) (o0:f0.offset=0) (o1:f1.offset=0+n0) (o2:f2.offset=0+n0+n1) (hc:P.cellsOf t=n0+(n1+(n2+0))):oM P t (n0+(n1+(n2+0))) (Na [S0,S1,S2]) :=
 oM.struct ht (show Gw P 0 [f0,f1,f2] [S0,S1,S2] (n0+(n1+(n2+0))) from .cons o0 h0 (.cons o1 h1 (.cons o2 h2 (.nil _)))) hc
theorem aeK {H:Type} {enc:TypeId × Value→H} {w:World} {v:Value} {d:DataW H} {p:List MemPlace} (hr:oM P t 1 S) (hone:v.cells.toList=[v]) (h:DataW.Trod enc P w 0 (fun _=>true) true t v d p) (hz:(d.weights P t).all (·≤reachBytes)=true) :
  ∃ q,S [q]∧aO (fun b=>b<w.heap.size) w q v:=by
 obtain ⟨fuel,hf⟩:=h
 obtain ⟨ps,h1,h2,h3,h4,h5⟩:=hr.2 hf hz
 match ps,h2 with
 |[q],_=>exact ⟨q,h1,h5 0 q v rfl (by rw [hone];rfl)⟩
theorem Vs {H:Type} {enc:TypeId × Value→H} {w:World} {v:Value} {d:DataW H} {p:List MemPlace} {m:Reach} {base:Nat} (ht:P.underlying t=some (.slice e)) (hr:oM P t 1 S) (hv:Value.okWide P w m base t v) (h:DataW.Trod enc P w 0 (fun _=>true) true t v d p) (hz:(d.weights P t).all (·≤reachBytes)=true) :
  ∃ q,S [q]∧aO (fun b=>b<w.heap.size) w q v:=by
 obtain ⟨a,l,c,rfl⟩:=okWide_slice ht hv
 exact aeK hr rfl h hz
theorem H7 {H:Type} {t0 t1 t2:TypeId} {d0 d1 d2:DataW H} {ts:List TypeId} {ds:List (DataW H)} (h:(DataW.weightsEach P (t0 :: t1 :: t2 :: ts) (d0 :: d1 :: d2 :: ds)).all (·≤reachBytes)=true):(d0.weights P t0).all (·≤reachBytes)=true∧(d1.weights P t1).all (·≤reachBytes)=true∧(d2.weights P t2).all (·≤reachBytes)=true:=by
 simp only [DataW.weightsEach,List.all_append,Bool.and_eq_true] at h
 exact ⟨h.1,h.2.1,h.2.2.1⟩
end
end Go.Proofs.YtpcncggjmabnaaaGreatDoor

namespace Go.Proofs.YtpcncggjmabnaaaGreatDoor
open V
open Go.RowKit Go.ChangeShapes Go.WideShapes Go.ChangeAt
def Vt:List PV→Prop:=Gv 8 (aky 8 (SInt .u8)) .agg
theorem akQ {q:PV} (h:Vt [q]):∃ l:List fM,l.length≤140737488351232∧q=aX l:=by
 obtain ⟨es,e1,hl,h3⟩:=h
 cases e1
 obtain ⟨l,e2⟩:=an7 (q:=.list 8 es) ⟨es,rfl,h3⟩
 refine ⟨l,?_,e2⟩
 have:es=l.map iI:=by
  have e3:PV.list 8 es=.list 8 (l.map iI):=e2
  injection e3
 rw [this,List.length_map] at hl
 exact hl
def akR:List PV→Prop:=Na [SInt .i64,SInt .i64,Vt]
theorem aqi {ps:List PV} (h:akR ps):∃ x:bP,x.data.length≤140737488351232∧PV.agg ps=dZ x:=by
 obtain ⟨p,q,rfl,⟨n,h1,rfl⟩,p2,q2,rfl,⟨m,h2,rfl⟩,p3,q3,rfl,h3,rfl⟩:=h
 obtain ⟨es,rfl,h4⟩:=h3
 obtain ⟨l,hl,e3⟩:=akQ (q:=.list 8 es) ⟨es,rfl,h4⟩
 refine ⟨⟨n,m,l⟩,hl,?_⟩
 rw [e3];rfl
theorem akS {α:Type} {n:Nat} {S:List PV→Prop} {wr:List PV→PV} {enc:α→PV} {ok:α→Prop} (hs:∀ ps,S ps→∃ x,ok x∧wr ps=enc x) {q:PV} (h:Gv n S wr [q]):∃ l:List α,(∀ x∈l,ok x)∧q=.list n (l.map enc):=by
 obtain ⟨es,e1,_,h3⟩:=h
 exact aeI hs ⟨es,e1,h3⟩
def aeL:List PV→Prop:=Gv 3 akR .agg
theorem an9 {q:PV} (h:aeL [q]):∃ l:List bP,szW l∧q=.list 3 (l.map dZ) :=
 akS (enc:=dZ) (ok:=fun x=>x.data.length≤140737488351232) (fun ps h=>aqi h) h
theorem Tryz.ahw:oM Tryz.prog 74 1 Vt:=oM.list Tryz.underlying74 (by kernel_rfl) (.of Tryz.an8) (Nat.le_of_ble_eq_true (by kernel_rfl)) (by decide) (fun _ _ _=>rfl)
theorem Tryz.aoa:oM Tryz.prog 76 3 akR:=oM.Nb Tryz.underlying76 (.of Tryz.aii) (.of Tryz.aii) Tryz.ahw rfl rfl rfl (by kernel_rfl)
theorem Tryz.akT:oM Tryz.prog 35 1 aeL:=oM.list Tryz.underlying35 (by kernel_rfl) Tryz.aoa (Nat.le_of_ble_eq_true (by kernel_rfl)) (by decide) (fun _ _ _=>rfl)
end Go.Proofs.YtpcncggjmabnaaaGreatDoor

namespace Go.Proofs.YtpcncggjmabnaaaGreatDoor
open V
open Go.RowKit Go.ChangeShapes Go.WideShapes Go.ChangeAt
theorem ahx {q:PV} (h:SInt .u8 [q]):∃ n:Int,(0≤n∧n≤255)∧q=.int .u8 n:=by
 obtain ⟨b,rfl⟩:=Xb h
 have:=b.toNat_lt
 exact ⟨_,by omega,rfl⟩
def akU:List PV→Prop:=Na [SInt .u8,SInt .u8,aeL]
theorem aqj {ps:List PV} (h:akU ps):∃ x:jC,(szW x.ws∧(0≤x.kind∧x.kind≤255)∧0≤x.step∧x.step≤255)∧PV.agg ps=ND x:=by
 obtain ⟨p,q,rfl,⟨n,h1,rfl⟩,p2,q2,rfl,⟨n2,h2,rfl⟩,p3,q3,rfl,h3,rfl⟩:=h
 obtain ⟨a,ha,e1⟩:=ahx ⟨n,h1,rfl⟩
 obtain ⟨b,hb,e2⟩:=ahx ⟨n2,h2,rfl⟩
 obtain ⟨es,rfl,g1,g2⟩:=h3
 obtain ⟨w,hw,e3⟩:=an9 (q:=.list 3 es) ⟨es,rfl,g1,g2⟩
 refine ⟨⟨a,b,w⟩,⟨hw,ha,hb⟩,?_⟩
 rw [e1,e2,e3];rfl
def aij:List PV→Prop:=Gv 3 akU .agg
theorem aob {q:PV} (h:aij [q]):∃ l:List jC,szE l∧q=.list 3 (l.map ND):=by
 obtain ⟨es,e1,hl,h3⟩:=h
 cases e1
 obtain ⟨l,hx,e⟩:=aeI (enc:=ND) (ok:=fun x=>szW x.ws∧(0≤x.kind∧x.kind≤255)∧0≤x.step∧x.step≤255) (fun ps h=>aqj h) (q:=.list 3 es) ⟨es,rfl,h3⟩
 refine ⟨l,⟨?_,hx⟩,e⟩
 have:es=l.map ND:=by injection e
 rw [this,List.length_map] at hl
 exact hl
theorem Tryz.aoc:oM Tryz.prog 70 3 akU:=oM.Nb Tryz.underlying70 (.of Tryz.aeJ) (.of Tryz.aeJ) Tryz.akT rfl rfl rfl (by kernel_rfl)
theorem Tryz.akV:oM Tryz.prog 59 1 aij:=oM.list Tryz.underlying59 (by kernel_rfl) Tryz.aoc (Nat.le_of_ble_eq_true (by kernel_rfl)) (by decide) (fun _ _ _=>rfl)
end Go.Proofs.YtpcncggjmabnaaaGreatDoor
