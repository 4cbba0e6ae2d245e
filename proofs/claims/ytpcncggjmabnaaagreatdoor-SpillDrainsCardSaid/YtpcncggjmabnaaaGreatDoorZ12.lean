/-
  Part 12 of the texts that the statement stands on.
-/
import Derived.Test.YtpcncggjmabnaaaGreatDoorZ11
import Derived.Test.YtpcncggjmabnaaaGreatDoorRows
import Derived.Lib.LaidTab
import Derived.LaidByTextLater
import Derived.SizedLaws
set_option linter.all false
namespace Go.Proofs.YtpcncggjmabnaaaGreatDoor
def fM (P:Program) (f:Nat):Tf→Prop
 |.code fn=>bD P f fn=true
 |.ext g=>∀ args rs,g args=some rs→callable P f=true∧mW P f args rs
 |.Bg h=>callable P f=true∧Ej P f h
 |.lU h=>(∀ args,h args=some none→callable P f=true∧mW P f args [])∧∀ args t n,h args=some (some (t,n))→callable P f=true∧Oj P f args t n
 |.dfn _=>False
theorem ok6:fM Tryz.prog 6 (.code fn6):=(by kernel_rfl:bD Tryz.prog 6 fn6=true)
theorem ahQ:fM Tryz.prog 10 (.code Vy):=(by kernel_rfl:bD Tryz.prog 10 Vy=true)
theorem ahR:fM Tryz.prog 11 (.code ab5):=(by kernel_rfl:bD Tryz.prog 11 ab5=true)
theorem ahS:fM Tryz.prog 13 (.code Vz):=(by kernel_rfl:bD Tryz.prog 13 Vz=true)
theorem ahT:fM Tryz.prog 14 (.code Jg):=(by kernel_rfl:bD Tryz.prog 14 Jg=true)
theorem ahU:fM Tryz.prog 15 (.code Nb):=(by kernel_rfl:bD Tryz.prog 15 Nb=true)
theorem ok16:fM Tryz.prog 16 (.code ab6):=(by kernel_rfl:bD Tryz.prog 16 ab6=true)
theorem ahV:fM Tryz.prog 18 (.code ab7):=(by kernel_rfl:bD Tryz.prog 18 ab7=true)
theorem ahW:fM Tryz.prog 20 (.code vw):=(by kernel_rfl:bD Tryz.prog 20 vw=true)
theorem ahX:fM Tryz.prog 21 (.code qA):=(by kernel_rfl:bD Tryz.prog 21 qA=true)
theorem ahY:fM Tryz.prog 22 (.code VA):=(by kernel_rfl:bD Tryz.prog 22 VA=true)
theorem ahZ:fM Tryz.prog 23 (.code ab8):=(by kernel_rfl:bD Tryz.prog 23 ab8=true)
theorem ah0:fM Tryz.prog 25 (.code VB):=(by kernel_rfl:bD Tryz.prog 25 VB=true)
theorem ah1:fM Tryz.prog 26 (.code zX):=(by kernel_rfl:bD Tryz.prog 26 zX=true)
theorem ah2:fM Tryz.prog 27 (.code yF):=(by kernel_rfl:bD Tryz.prog 27 yF=true)
theorem ah3:fM Tryz.prog 31 (.code Rn):=(by kernel_rfl:bD Tryz.prog 31 Rn=true)
theorem ah4:fM Tryz.prog 35 (.code VD):=(by kernel_rfl:bD Tryz.prog 35 VD=true)
theorem ah5:fM Tryz.prog 36 (.code ab9):=(by kernel_rfl:bD Tryz.prog 36 ab9=true)
theorem ah6:fM Tryz.prog 37 (.code acd):=(by kernel_rfl:bD Tryz.prog 37 acd=true)
theorem ah7:fM Tryz.prog 38 (.code Ro):=(by kernel_rfl:bD Tryz.prog 38 Ro=true)
theorem ah8:fM Tryz.prog 39 (.ext (jR 1)):=NU
theorem ah9:fM Tryz.prog 40 (.code VE):=(by kernel_rfl:bD Tryz.prog 40 VE=true)
theorem aia:fM Tryz.prog 41 (.code VF):=(by kernel_rfl:bD Tryz.prog 41 VF=true)
theorem aib:fM Tryz.prog 42 (.code Fg):=(by kernel_rfl:bD Tryz.prog 42 Fg=true)
theorem aic:fM Tryz.prog 43 (.code ace):=(by kernel_rfl:bD Tryz.prog 43 ace=true)
theorem aie:fM Tryz.prog 44 (.code Rq):=(by kernel_rfl:bD Tryz.prog 44 Rq=true)
theorem aif:fM Tryz.prog 45 (.code VG):=(by kernel_rfl:bD Tryz.prog 45 VG=true)
theorem aii:fM Tryz.prog 46 (.code zY):=(by kernel_rfl:bD Tryz.prog 46 zY=true)
theorem aij:fM Tryz.prog 48 (.code VH):=(by kernel_rfl:bD Tryz.prog 48 VH=true)
theorem aik:fM Tryz.prog 49 (.code VI):=(by kernel_rfl:bD Tryz.prog 49 VI=true)
theorem ail:fM Tryz.prog 50 (.code Rt):=(by kernel_rfl:bD Tryz.prog 50 Rt=true)
theorem ain:fM Tryz.prog 51 (.code VJ):=(by kernel_rfl:bD Tryz.prog 51 VJ=true)
theorem aio:fM Tryz.prog 52 (.code VK):=(by kernel_rfl:bD Tryz.prog 52 VK=true)
theorem aip:fM Tryz.prog 53 (.code VL):=(by kernel_rfl:bD Tryz.prog 53 VL=true)
theorem aiq:fM Tryz.prog 54 (.code Ru):=(by kernel_rfl:bD Tryz.prog 54 Ru=true)
theorem air:fM Tryz.prog 55 (.code VN):=(by kernel_rfl:bD Tryz.prog 55 VN=true)
theorem ais:fM Tryz.prog 56 (.code VO):=(by kernel_rfl:bD Tryz.prog 56 VO=true)
theorem ait:fM Tryz.prog 57 (.code VP):=(by kernel_rfl:bD Tryz.prog 57 VP=true)
theorem aiu:fM Tryz.prog 58 (.code VQ):=(by kernel_rfl:bD Tryz.prog 58 VQ=true)
theorem aiv:fM Tryz.prog 62 (.code VR):=(by kernel_rfl:bD Tryz.prog 62 VR=true)
theorem aiw:fM Tryz.prog 65 (.code Nc):=(by kernel_rfl:bD Tryz.prog 65 Nc=true)
theorem aix:fM Tryz.prog 66 (.code VT):=(by kernel_rfl:bD Tryz.prog 66 VT=true)
theorem aiy:fM Tryz.prog 68 (.code VU):=(by kernel_rfl:bD Tryz.prog 68 VU=true)
theorem aiz:fM Tryz.prog 69 (.code VW):=(by kernel_rfl:bD Tryz.prog 69 VW=true)
theorem aiA:fM Tryz.prog 70 (.code VX):=(by kernel_rfl:bD Tryz.prog 70 VX=true)
theorem aiB:fM Tryz.prog 71 (.code Nh):=(by kernel_rfl:bD Tryz.prog 71 Nh=true)
theorem aiC:fM Tryz.prog 72 (.code Rw):=(by kernel_rfl:bD Tryz.prog 72 Rw=true)
theorem aiD:fM Tryz.prog 73 (.code Nj):=(by kernel_rfl:bD Tryz.prog 73 Nj=true)
theorem aiE:fM Tryz.prog 74 (.code Rx):=(by kernel_rfl:bD Tryz.prog 74 Rx=true)
theorem aiF:fM Tryz.prog 75 (.code acf):=(by kernel_rfl:bD Tryz.prog 75 acf=true)
theorem aiG:fM Tryz.prog 76 (.code acg):=(by kernel_rfl:bD Tryz.prog 76 acg=true)
theorem aiH:fM Tryz.prog 77 (.code ach):=(by kernel_rfl:bD Tryz.prog 77 ach=true)
theorem aiI:fM Tryz.prog 78 (.code aci):=(by kernel_rfl:bD Tryz.prog 78 aci=true)
theorem aiJ:fM Tryz.prog 79 (.code acj):=(by kernel_rfl:bD Tryz.prog 79 acj=true)
theorem aiK:fM Tryz.prog 80 (.ext (jR 1)):=NW
theorem aiL:fM Tryz.prog 81 (.code VY):=(by kernel_rfl:bD Tryz.prog 81 VY=true)
theorem aiM:fM Tryz.prog 82 (.code Ry):=(by kernel_rfl:bD Tryz.prog 82 Ry=true)
theorem aiN:fM Tryz.prog 86 (.ext (jR 8)):=NS
theorem aiO:fM Tryz.prog 87 (.code VZ):=(by kernel_rfl:bD Tryz.prog 87 VZ=true)
theorem aiP:fM Tryz.prog 88 (.code Jh):=(by kernel_rfl:bD Tryz.prog 88 Jh=true)
theorem aiQ:fM Tryz.prog 89 (.code Rz):=(by kernel_rfl:bD Tryz.prog 89 Rz=true)
theorem aiR:fM Tryz.prog 90 (.code RD):=(by kernel_rfl:bD Tryz.prog 90 RD=true)
theorem aiS:fM Tryz.prog 91 (.code BL):=(by kernel_rfl:bD Tryz.prog 91 BL=true)
theorem aiT:fM Tryz.prog 92 (.code Ji):=(by kernel_rfl:bD Tryz.prog 92 Ji=true)
theorem aiU:fM Tryz.prog 93 (.code V3):=(by kernel_rfl:bD Tryz.prog 93 V3=true)
theorem aiV:fM Tryz.prog 94 (.code V4):=(by kernel_rfl:bD Tryz.prog 94 V4=true)
theorem aiW:fM Tryz.prog 95 (.code V5):=(by kernel_rfl:bD Tryz.prog 95 V5=true)
theorem aiX:fM Tryz.prog 96 (.code RF):=(by kernel_rfl:bD Tryz.prog 96 RF=true)
theorem agc:fM Tryz.prog 101 (.code Jj):=(by kernel_rfl:bD Tryz.prog 101 Jj=true)
theorem agd:fM Tryz.prog 102 (.code Jk):=(by kernel_rfl:bD Tryz.prog 102 Jk=true)
theorem agf:fM Tryz.prog 103 (.code Jl):=(by kernel_rfl:bD Tryz.prog 103 Jl=true)
theorem agh:fM Tryz.prog 104 (.code Jm):=(by kernel_rfl:bD Tryz.prog 104 Jm=true)
theorem agi:fM Tryz.prog 105 (.code Jo):=(by kernel_rfl:bD Tryz.prog 105 Jo=true)
theorem agj:fM Tryz.prog 106 (.code Jp):=(by kernel_rfl:bD Tryz.prog 106 Jp=true)
theorem agk:fM Tryz.prog 107 (.code V8):=(by kernel_rfl:bD Tryz.prog 107 V8=true)
theorem agl:fM Tryz.prog 108 (.code V9):=(by kernel_rfl:bD Tryz.prog 108 V9=true)
theorem agm:fM Tryz.prog 109 (.code Jq):=(by kernel_rfl:bD Tryz.prog 109 Jq=true)
theorem agn:fM Tryz.prog 111 (.code Jr):=(by kernel_rfl:bD Tryz.prog 111 Jr=true)
theorem agp:fM Tryz.prog 112 (.code Js):=(by kernel_rfl:bD Tryz.prog 112 Js=true)
theorem agq:fM Tryz.prog 113 (.code Jt):=(by kernel_rfl:bD Tryz.prog 113 Jt=true)
theorem agr:fM Tryz.prog 114 (.code Ju):=(by kernel_rfl:bD Tryz.prog 114 Ju=true)
theorem ags:fM Tryz.prog 118 (.code Dq):=(by kernel_rfl:bD Tryz.prog 118 Dq=true)
theorem agt:fM Tryz.prog 119 (.code Jv):=(by kernel_rfl:bD Tryz.prog 119 Jv=true)
theorem agu:fM Tryz.prog 120 (.code Wh):=(by kernel_rfl:bD Tryz.prog 120 Wh=true)
theorem agv:fM Tryz.prog 121 (.code Wi):=(by kernel_rfl:bD Tryz.prog 121 Wi=true)
theorem agw:fM Tryz.prog 122 (.code Wp):=(by kernel_rfl:bD Tryz.prog 122 Wp=true)
theorem agx:fM Tryz.prog 124 (.code Jw):=(by kernel_rfl:bD Tryz.prog 124 Jw=true)
theorem agy:fM Tryz.prog 125 (.code Dt):=(by kernel_rfl:bD Tryz.prog 125 Dt=true)
theorem agz:fM Tryz.prog 126 (.ext tzX):=aeK
theorem agA:fM Tryz.prog 128 (.code Wq):=(by kernel_rfl:bD Tryz.prog 128 Wq=true)
theorem agB:fM Tryz.prog 129 (.code Ws):=(by kernel_rfl:bD Tryz.prog 129 Ws=true)
theorem agC:fM Tryz.prog 130 (.code Wu):=(by kernel_rfl:bD Tryz.prog 130 Wu=true)
theorem agD:fM Tryz.prog 131 (.code Wv):=(by kernel_rfl:bD Tryz.prog 131 Wv=true)
theorem agE:fM Tryz.prog 132 (.code WA):=(by kernel_rfl:bD Tryz.prog 132 WA=true)
theorem agF:fM Tryz.prog 133 (.code WE):=(by kernel_rfl:bD Tryz.prog 133 WE=true)
theorem agG:fM Tryz.prog 134 (.code WL):=(by kernel_rfl:bD Tryz.prog 134 WL=true)
theorem agH:fM Tryz.prog 135 (.code WM):=(by kernel_rfl:bD Tryz.prog 135 WM=true)
theorem agI:fM Tryz.prog 136 (.Bg (oQ 137)):=JQ
theorem agJ:fM Tryz.prog 137 (.code WO):=(by kernel_rfl:bD Tryz.prog 137 WO=true)
theorem agK:fM Tryz.prog 138 (.code WQ):=(by kernel_rfl:bD Tryz.prog 138 WQ=true)
theorem agL:fM Tryz.prog 141 (.code WR):=(by kernel_rfl:bD Tryz.prog 141 WR=true)
theorem agM:∀ p∈tab,fM Tryz.prog p.1 p.2:=by
 unfold tab
 exact List.forall_mem_cons.2 ⟨ok6,List.forall_mem_cons.2 ⟨ahQ,List.forall_mem_cons.2 ⟨ahR,List.forall_mem_cons.2 ⟨ahS,List.forall_mem_cons.2 ⟨ahT,List.forall_mem_cons.2 ⟨ahU,List.forall_mem_cons.2 ⟨ok16,List.forall_mem_cons.2 ⟨ahV,List.forall_mem_cons.2 ⟨ahW,List.forall_mem_cons.2 ⟨ahX,List.forall_mem_cons.2 ⟨ahY,List.forall_mem_cons.2 ⟨ahZ,List.forall_mem_cons.2 ⟨ah0,List.forall_mem_cons.2 ⟨ah1,List.forall_mem_cons.2 ⟨ah2,List.forall_mem_cons.2 ⟨ah3,List.forall_mem_cons.2 ⟨ah4,List.forall_mem_cons.2 ⟨ah5,List.forall_mem_cons.2 ⟨ah6,List.forall_mem_cons.2 ⟨ah7,List.forall_mem_cons.2 ⟨ah8,List.forall_mem_cons.2 ⟨ah9,List.forall_mem_cons.2 ⟨aia,List.forall_mem_cons.2 ⟨aib,List.forall_mem_cons.2 ⟨aic,List.forall_mem_cons.2 ⟨aie,List.forall_mem_cons.2 ⟨aif,List.forall_mem_cons.2 ⟨aii,List.forall_mem_cons.2 ⟨aij,List.forall_mem_cons.2 ⟨aik,List.forall_mem_cons.2 ⟨ail,List.forall_mem_cons.2 ⟨ain,List.forall_mem_cons.2 ⟨aio,List.forall_mem_cons.2 ⟨aip,List.forall_mem_cons.2 ⟨aiq,List.forall_mem_cons.2 ⟨air,List.forall_mem_cons.2 ⟨ais,List.forall_mem_cons.2 ⟨ait,List.forall_mem_cons.2 ⟨aiu,List.forall_mem_cons.2 ⟨aiv,List.forall_mem_cons.2 ⟨aiw,List.forall_mem_cons.2 ⟨aix,List.forall_mem_cons.2 ⟨aiy,List.forall_mem_cons.2 ⟨aiz,List.forall_mem_cons.2 ⟨aiA,List.forall_mem_cons.2 ⟨aiB,List.forall_mem_cons.2 ⟨aiC,List.forall_mem_cons.2 ⟨aiD,List.forall_mem_cons.2 ⟨aiE,List.forall_mem_cons.2 ⟨aiF,List.forall_mem_cons.2 ⟨aiG,List.forall_mem_cons.2 ⟨aiH,List.forall_mem_cons.2 ⟨aiI,List.forall_mem_cons.2 ⟨aiJ,List.forall_mem_cons.2 ⟨aiK,List.forall_mem_cons.2 ⟨aiL,List.forall_mem_cons.2 ⟨aiM,List.forall_mem_cons.2 ⟨aiN,List.forall_mem_cons.2 ⟨aiO,List.forall_mem_cons.2 ⟨aiP,List.forall_mem_cons.2 ⟨aiQ,List.forall_mem_cons.2 ⟨aiR,List.forall_mem_cons.2 ⟨aiS,List.forall_mem_cons.2 ⟨aiT,List.forall_mem_cons.2 ⟨aiU,List.forall_mem_cons.2 ⟨aiV,List.forall_mem_cons.2 ⟨aiW,List.forall_mem_cons.2 ⟨aiX,List.forall_mem_cons.2 ⟨agc,List.forall_mem_cons.2 ⟨agd,List.forall_mem_cons.2 ⟨agf,List.forall_mem_cons.2 ⟨agh,List.forall_mem_cons.2 ⟨agi,List.forall_mem_cons.2 ⟨agj,List.forall_mem_cons.2 ⟨agk,List.forall_mem_cons.2 ⟨agl,List.forall_mem_cons.2 ⟨agm,List.forall_mem_cons.2 ⟨agn,List.forall_mem_cons.2 ⟨agp,List.forall_mem_cons.2 ⟨agq,List.forall_mem_cons.2 ⟨agr,List.forall_mem_cons.2 ⟨ags,List.forall_mem_cons.2 ⟨agt,List.forall_mem_cons.2 ⟨agu,List.forall_mem_cons.2 ⟨agv,List.forall_mem_cons.2 ⟨agw,List.forall_mem_cons.2 ⟨agx,List.forall_mem_cons.2 ⟨agy,List.forall_mem_cons.2 ⟨agz,List.forall_mem_cons.2 ⟨agA,List.forall_mem_cons.2 ⟨agB,List.forall_mem_cons.2 ⟨agC,List.forall_mem_cons.2 ⟨agD,List.forall_mem_cons.2 ⟨agE,List.forall_mem_cons.2 ⟨agF,List.forall_mem_cons.2 ⟨agG,List.forall_mem_cons.2 ⟨agH,List.forall_mem_cons.2 ⟨agI,List.forall_mem_cons.2 ⟨agJ,List.forall_mem_cons.2 ⟨agK,List.forall_mem_cons.2 ⟨agL,fun p hp=>by cases hp⟩⟩⟩⟩⟩⟩⟩⟩⟩⟩⟩⟩⟩⟩⟩⟩⟩⟩⟩⟩⟩⟩⟩⟩⟩⟩⟩⟩⟩⟩⟩⟩⟩⟩⟩⟩⟩⟩⟩⟩⟩⟩⟩⟩⟩⟩⟩⟩⟩⟩⟩⟩⟩⟩⟩⟩⟩⟩⟩⟩⟩⟩⟩⟩⟩⟩⟩⟩⟩⟩⟩⟩⟩⟩⟩⟩⟩⟩⟩⟩⟩⟩⟩⟩⟩⟩⟩⟩⟩⟩⟩⟩⟩⟩⟩⟩⟩⟩⟩⟩⟩
theorem A8:∀ {l:List (Nat × Tf)} {f:Nat} {d:Tf},l.lookup f=some d→(f,d)∈l
 |(k,v) :: l,f,d,h=>by
  rw [List.lookup_cons] at h
  split at h
  ·rename_i e
   have e:f=k:=by simpa using e
   cases h;subst e;simp
  ·exact List.mem_cons_of_mem _ (A8 h)
theorem agN:xR Tryz.prog env:=fun f d h=>by
 have:=agM _ (A8 h)
 cases d<;>exact this
end Go.Proofs.YtpcncggjmabnaaaGreatDoor

namespace Go.Proofs.YtpcncggjmabnaaaGreatDoor
open Go.RowKit
theorem SL:(Rows.laid_math_bits_deBruijn64tab:DataW Unit)=Lib.tabData .u8 (Lib.deBruijn64tab.map Int.ofNat):=by kernel_rfl
theorem agO:Tryz.prog.globalNamed "math/bits.deBruijn64tab"=some 0:=by kernel_rfl
theorem Ba {w:World} {l:List (String × DataW Unit)} (hl:l=[("math/bits.deBruijn64tab",Rows.laid_math_bits_deBruijn64tab)]) (h:laidMetH Tryz.prog l w):GH w:=by
 subst hl
 rw [MakeChecks.laidMetH_plain _ _ _ (by kernel_rfl),SL] at h
 have ht:Lib.TabIs Tryz.prog w "math/bits.deBruijn64tab" .u8 (Lib.deBruijn64tab.map Int.ofNat) :=
  Lib.tabIs_of_head (t:=185) (e:=5) (n:=64) agO (by kernel_rfl) (by kernel_rfl) (by kernel_rfl) (by kernel_rfl) (by kernel_rfl) h
 have hc:∀ i,i<64→w.cell? ⟨0,i,none⟩=some (.int .u8 ((Lib.deBruijn64tab.map Int.ofNat).getD i 0)):=fun i hi=>ht.cell agO i (by simpa [Lib.deBruijn64tab] using hi)
 have hC:bY w 0:=tZ (hc 0 (by decide))
 intro p hp
 obtain rfl:p=_:=List.mem_singleton.1 hp
 refine .fG _ 0 _ 0 (fun i=>.int .u8 ((Lib.deBruijn64tab.map Int.ofNat).getD i 0)) (if_pos hC.lt) hC (fun k x hk=>?_) (fun k x hk=>?_)
 ·have hk':=(List.getElem?_eq_some_iff.1 hk).1
  rw [Nat.zero_add]
  exact ⟨hc k (by simpa [Lib.deBruijn64tab] using hk'),rfl⟩
 ·simp only [List.getElem?_map] at hk
  cases e:Lib.deBruijn64tab[k]? with
  |none=>rw [e] at hk;cases hk
  |some n =>
   rw [e] at hk;cases hk
   have:(Lib.deBruijn64tab.map Int.ofNat).getD k 0=(n:Int):=by simp [List.getD_eq_getElem?_getD,e]
   rw [this]
   exact .int _ _
end Go.Proofs.YtpcncggjmabnaaaGreatDoor

namespace Go.Proofs.YtpcncggjmabnaaaGreatDoor.V
open Go.RowKit Go.ChangeShapes Go.WideShapes Go.ChangeAt
theorem Tryz.Yg:ownKnob Tryz.prog.godebug=none:=by kernel_rfl
theorem Tryz.Bc:laidOutB Tryz.prog=true:=by kernel_rfl
theorem aaH {q:PV} (h:SInt .u8 [q]):∃ b:UInt8,q=.int .u8 (b.toNat:Int):=by
 obtain ⟨n,h1,h2⟩:=h
 have h3:IntKind.u8.min=0:=rfl
 have h4:IntKind.u8.max=255:=rfl
 simp only [Lit.wf,Bool.and_eq_true,decide_eq_true_eq] at h1
 cases h2
 refine ⟨UInt8.ofNat n.toNat,?_⟩
 rw [UInt8.toNat_ofNat_of_lt' (show n.toNat<2 ^ 8 by omega)]
 congr 1;omega
def adK:List PV→Prop:=adI 8 (SInt .u8)
theorem aiY {ps:List PV} (h:adK ps):∃ s:nK,ps=qE s:=by
 obtain ⟨h1,h2⟩:=h
 have:∀ l:List PV,(∀ p∈l,SInt .u8 [p])→∃ m:List UInt8,m.length=l.length∧l=m.map fun b=>.int .u8 (b.toNat:Int):=by
  intro l
  induction l with
  |nil=>exact fun _=>⟨[],rfl,rfl⟩
  |cons p l ih =>
   intro h
   obtain ⟨b,hb⟩:=aaH (h p (by simp))
   obtain ⟨m,e1,e2⟩:=ih fun q hq=>h q (by simp [hq])
   exact ⟨b :: m,by simp [e1],by rw [hb,e2];rfl⟩
 obtain ⟨m,e1,e2⟩:=this ps h2
 refine ⟨⟨m.toArray,by simp [e1,h1]⟩,?_⟩
 subst e2
 simp [qE,Vector.toList]
theorem DU {α:Type} {n:Nat} {S:List PV→Prop} {wr:List PV→PV} {enc:α→PV} {ok:α→Prop} (hS:∀ ps,S ps→∃ a,ok a∧wr ps=enc a) {q:PV} (h:yj n S wr [q]):∃ l:List α,(∀ a∈l,ok a)∧q=.list n (l.map enc):=by
 obtain ⟨es,h1,h2⟩:=h
 cases h1
 have:∀ es:List PV,(∀ x∈es,∃ q,S q∧x=wr q)→∃ l:List α,(∀ a∈l,ok a)∧es=l.map enc:=by
  intro es
  induction es with
  |nil=>exact fun _=>⟨[],by simp,rfl⟩
  |cons e es ih =>
   intro h
   obtain ⟨q,h3,h4⟩:=h e (by simp)
   obtain ⟨a,h5,h6⟩:=hS q h3
   obtain ⟨l,h7,h8⟩:=ih fun x hx=>h x (by simp [hx])
   exact ⟨a :: l,by simp;exact ⟨h5,h7⟩,by rw [h4,h6,h8];rfl⟩
 obtain ⟨l,h3,h4⟩:=this es h2
 exact ⟨l,h3,by rw [h4]⟩
theorem adL {k:IntKind} {ps:List PV} (h:SInt k ps):(wrS ps).cells=ps:=by
 obtain ⟨n,_,rfl⟩:=h;rfl
theorem aaI {n:Nat} {S:List PV→Prop} {wr:List PV→PV} {ps:List PV} (h:yj n S wr ps):(wrS ps).cells=ps:=by
 obtain ⟨es,rfl,_⟩:=h;rfl
def O9:List PV→Prop:=yj 8 adK .agg
theorem abk {q:PV} (h:O9 [q]):∃ l:List nK,q=bC l:=by
 obtain ⟨l,_,e⟩:=DU (enc:=lW) (ok:=fun _=>True) (fun ps h=>by obtain ⟨s,rfl⟩:=aiY h;exact ⟨s,trivial,rfl⟩) h
 exact ⟨l,e⟩
def aiZ:List PV→Prop:=yj 1 O9 wrS
theorem ai0 {q:PV} (h:aiZ [q]):∃ l:jl,q=.list 1 (l.map bC):=by
 obtain ⟨l,_,e⟩:=DU (enc:=bC) (ok:=fun _=>True) (fun ps h=>by
  obtain ⟨es,rfl,h2⟩:=h
  obtain ⟨l,e⟩:=abk (q:=.list 8 es) ⟨es,rfl,h2⟩
  exact ⟨l,trivial,e⟩) h
 exact ⟨l,e⟩
theorem Tryz.rC:dI Tryz.prog 3 1 (SInt .i64):=dI.int Tryz.underlying3 (by kernel_rfl)
theorem Tryz.ai1:dI Tryz.prog 5 1 (SInt .u8):=dI.int Tryz.underlying5 (by kernel_rfl)
theorem Tryz.abl:dI Tryz.prog 79 8 adK:=dI.arr Tryz.underlying79 Tryz.ai1 (by kernel_rfl)
theorem Tryz.adM:dI Tryz.prog 74 1 O9:=dI.list Tryz.underlying74 (by kernel_rfl) Tryz.abl (by decide) (fun _ _ _=>rfl)
end Go.Proofs.YtpcncggjmabnaaaGreatDoor.V

namespace Go.Proofs.YtpcncggjmabnaaaGreatDoor
open V
open Go.RowKit Go.ChangeShapes Go.WideShapes Go.ChangeAt
def GV:List PV→Prop:=yj 1 (SInt .i64) wrS
theorem Yh {q:PV} (h:GV [q]):∃ l:List Int,q=.list 1 (l.map eI):=by
 obtain ⟨l,_,e⟩:=DU (enc:=eI) (ok:=fun _=>True) (fun ps h=>by
  obtain ⟨n,h1,rfl⟩:=h
  exact ⟨n,trivial,rfl⟩) h
 exact ⟨l,e⟩
theorem Tryz.Pg:dI Tryz.prog 22 1 GV:=dI.list Tryz.underlying22 (by kernel_rfl) Tryz.rC (by decide) (fun _ h _=>by obtain ⟨n,_,rfl⟩:=h;rfl)
end Go.Proofs.YtpcncggjmabnaaaGreatDoor

namespace Go.Proofs.YtpcncggjmabnaaaGreatDoor
open V
open Go.RowKit Go.ChangeShapes Go.WideShapes Go.ChangeAt
theorem adN {ps:List PV} (h:SInt .u64 ps):∃ w:Wd,ps=[eW w]:=by
 obtain ⟨n,h1,rfl⟩:=h
 have h2:0≤n∧n<18446744073709551616:=by
  simp only [Lit.wf,IntKind.min,IntKind.max,IntKind.signed,IntKind.bits,Bool.and_eq_true,decide_eq_true_eq] at h1
  refine ⟨by simpa using h1.1,?_⟩
  have:=h1.2
  simp at this
  omega
 refine ⟨BitVec.ofNat 64 n.toNat,?_⟩
 unfold eW
 rw [BitVec.toNat_ofNat,Nat.mod_eq_of_lt (by omega),Int.toNat_of_nonneg h2.1]
def adO:List PV→Prop:=yj 1 (SInt .u64) wrS
theorem ai2 {q:PV} (h:adO [q]):∃ l:List Wd,q=.list 1 (l.map eW):=by
 obtain ⟨l,_,e⟩:=DU (enc:=eW) (ok:=fun _=>True) (fun ps h=>by
  obtain ⟨w,rfl⟩:=adN h
  exact ⟨w,trivial,rfl⟩) h
 exact ⟨l,e⟩
def SBm:List PV→Prop:=qZ [SInt .i64,adO]
theorem sbm {ps:List PV} (h:SBm ps):∃ b:Bm,PV.agg ps=iZ b:=by
 obtain ⟨p,q,rfl,⟨n,h1,rfl⟩,p2,q2,rfl,h2,rfl⟩:=h
 obtain ⟨es,rfl,h3⟩:=h2
 obtain ⟨l,e⟩:=ai2 (q:=.list 1 es) ⟨es,rfl,h3⟩
 refine ⟨⟨n,l⟩,?_⟩
 rw [e];rfl
def adP:List PV→Prop:=yj 2 SBm .agg
theorem ai4 {q:PV} (h:adP [q]):∃ l:List Bm,q=.list 2 (l.map iZ):=by
 obtain ⟨l,_,e⟩:=DU (enc:=iZ) (ok:=fun _=>True) (fun ps h=>by
  obtain ⟨b,e⟩:=sbm h
  exact ⟨b,trivial,e⟩) h
 exact ⟨l,e⟩
theorem Tryz.ai5:dI Tryz.prog 134 1 (SInt .u64):=dI.int Tryz.underlying134 (by kernel_rfl)
theorem Tryz.agP:dI Tryz.prog 91 1 adO:=dI.list Tryz.underlying91 (by kernel_rfl) Tryz.ai5 (by decide) (fun _ h _=>adL h)
theorem Tryz.ai6:dI Tryz.prog 93 2 SBm:=dI.O5 Tryz.underlying93 Tryz.rC Tryz.agP rfl rfl (by kernel_rfl)
theorem Tryz.agQ:dI Tryz.prog 25 1 adP:=dI.list Tryz.underlying25 (by kernel_rfl) Tryz.ai6 (by decide) (fun _ _ _=>rfl)
end Go.Proofs.YtpcncggjmabnaaaGreatDoor

namespace Go.Proofs.YtpcncggjmabnaaaGreatDoor
open V
open Go.RowKit Go.ChangeShapes Go.WideShapes Go.ChangeAt
theorem agR {q:PV} (h:SInt .i64 [q]):∃ n,q=.int .i64 n:=by
 obtain ⟨n,_,e⟩:=h
 cases e
 exact ⟨n,rfl⟩
theorem Tryz.agS:dI Tryz.prog 4 1 X8:=dI.bool Tryz.underlying4 (by kernel_rfl)
end Go.Proofs.YtpcncggjmabnaaaGreatDoor

namespace Go.Proofs.YtpcncggjmabnaaaGreatDoor
open Go.RowKit Go.WideShapes
def eP (P:Program) (t:TypeId) (n:Nat) (S:List PV→Prop):Prop :=
 P.cellsOf t=n∧∀ {H:Type} {enc:TypeId × Value→H} {w:World} {fuel:Nat} {cs:List Value} {x:DataW H × List MemPlace},DataW.trod enc P w 0 (fun _=>true) true fuel t cs=some x→(x.1.weights P t).all (·≤reachBytes)=true→∃ ps,S ps∧ps.length=n∧wZ w cs ps
def xu (n:Nat) (S:List PV→Prop) (wr:List PV→PV) (ps:List PV):Prop:=∃ es,ps=[.list n es]∧es.length≤140737488351232∧∀ x∈es,∃ q,S q∧x=wr q
section
variable {P:Program} {t e:TypeId} {n m:Nat} {S:List PV→Prop} {k:IntKind}
theorem eP.of (h:dI P t n S):eP P t n S:=⟨h.1,fun h1 _=>h.2 h1⟩
theorem qx {H:Type}:∀ {ds:List (DataW H)} {i:Nat} (h:i<ds.length) {y:Nat},y∈ds[i].weights P e→y∈DataW.weightsAll P e ds
 |d :: ds,0,_,y,hy=>by
  simp only [DataW.weightsAll,List.mem_append]
  exact .inl hy
 |d :: ds,i+1,h,y,hy=>by
  simp only [DataW.weightsAll,List.mem_append]
  exact .inr (qx (ds:=ds) (i:=i) (by simpa using h) (by simpa using hy))
 |[],_,h,_,_=>by simp at h
theorem eP.list {wr:List PV→PV} (ht:P.underlying t=some (.slice e)) (hc:P.cellsOf t=1) (hr:eP P e n S) (hb:1≤P.bytesOf e) (hpos:0<n) (hw:∀ ps,S ps→ps.length=n→(wr ps).cells=ps):eP P t 1 (xu n S wr):=⟨hc,fun {H enc w fuel cs x} h hz=>by
 rcases DataW.trod_slice ht h with ⟨rfl,_⟩|⟨a,len,cap,elems,rest,m,_,rfl,rfl,_,hl,hm,hel,hE,hR,_⟩
 ·exact ⟨[.list n []],⟨[],rfl,Nat.zero_le _,fun x hx=>by cases hx⟩,rfl,oZ rfl (.nil n none)⟩
 ·have hz1:elems.length≤140737488351232:=by
   have:=List.all_eq_true.1 hz ((elems.length+rest.length) * P.bytesOf e) (by simp [DataW.weights,ht])
   have h3:(elems.length+rest.length) * P.bytesOf e≤140737488351232:=by
    have h:=of_decide_eq_true this
    simpa [reachBytes] using h
   have h4:(elems.length+rest.length) * 1≤(elems.length+rest.length) * P.bytesOf e:=Nat.mul_le_mul_left _ hb
   omega
  have hz2:∀ (i:Nat) (h:i<elems.length),(elems[i].1.weights P e).all (·≤reachBytes)=true:=fun i hi=>by
   rw [List.all_eq_true]
   intro y hy
   refine List.all_eq_true.1 hz y ?_
   simp only [DataW.weights,ht,List.mem_cons,List.mem_append]
   exact .inr (.inl (qx (i:=i) (by simpa using hi) (by simpa using hy)))
  obtain ⟨l,h1,h2⟩:=su (p:=fun i (y:List Value × List PV)=>w.cells? 0 (a.add (i * n)) n=some y.1∧S y.2∧y.2.length=n∧wZ w y.1 y.2) len fun i hi=>by
   have:=hE i hi
   rw [List.getElem?_eq_getElem (by omega),hr.1,Option.bind_eq_some_iff] at this
   obtain ⟨c,h3,h4⟩:=this
   obtain ⟨ps,g1,g2,g3⟩:=hr.2 h4 (hz2 i (by omega))
   exact ⟨(c,ps),h3,g1,g2,g3⟩
  refine ⟨[.list n (l.map fun y=>wr y.2)],⟨_,rfl,by rw [List.length_map,h1];omega,fun x hx=>?_⟩,rfl,oZ rfl ?_⟩
  ·obtain ⟨y,hy,rfl⟩:=List.mem_map.1 hx
   obtain ⟨i,hi⟩:=List.mem_iff_getElem?.1 hy
   exact ⟨y.2,(h2 i y hi).2.1,rfl⟩
  ·by_cases hcap:cap=0
   ·have:len=0:=by omega
    subst hcap;subst this
    have:l=[]:=List.eq_nil_of_length_eq_zero h1
    subst this
    exact .nil n (some a)
   ·-- there are cells
    have hcell:∃ off v,w.cell? ⟨a.block,off,none⟩=some v∧a.spot=none:=by
     have JY:∀ (i:Nat) (c:List Value),w.cells? 0 (a.add (i * n)) n=some c→∃ off v,w.cell? ⟨a.block,off,none⟩=some v∧a.spot=none:=fun i c h3=>by
      obtain ⟨_,hc0,h4⟩:=World.cells?_some h3
      have h5:=h4 0 hpos
      rw [List.getElem?_eq_getElem (by omega)] at h5
      have hs:(a.add (i * n)).spot=none:=by simpa [Addr.add] using World.cell?_spot h5
      have hs0:a.spot=none:=by
       unfold Addr.add at hs
       split at hs
       ·exact hs
       ·rename_i hne
        by_cases h0:i * n=0
        ·rename_i q;exact absurd h0 (by simpa using hne)
        ·rcases Nat.eq_zero_or_pos i with hi0|hi0
         ·subst hi0;simp at h0
         ·-- the row begins at a: its first cell
          have:0<len∨len=0:=by omega
          rcases this with hlen|hlen
          ·obtain ⟨y,hy⟩:∃ y,l[0]?=some y:=⟨l[0],List.getElem?_eq_getElem (by omega)⟩
           obtain ⟨_,hc1,h6⟩:=World.cells?_some (h2 0 y hy).1
           have h7:=h6 0 hpos
           rw [List.getElem?_eq_getElem (by omega)] at h7
           simpa [Addr.add] using World.cell?_spot h7
          ·have hrl:0<rest.length:=by have:=(hR rfl).1;omega
           have:=(hR rfl).2 0 (by omega)
           have h8:rest[0]?=some rest[0]:=List.getElem?_eq_getElem hrl
           rw [h8,hr.1,hlen,Option.bind_eq_some_iff] at this
           obtain ⟨c1,h9,_⟩:=this
           obtain ⟨_,hc1,h6⟩:=World.cells?_some h9
           have h7:=h6 0 hpos
           rw [List.getElem?_eq_getElem (by omega)] at h7
           simpa [Addr.add] using World.cell?_spot h7
      obtain ⟨b,off,spot⟩:=a
      simp only at hs0
      subst hs0
      rw [Addr.add_lit,Addr.add_lit] at h5
      exact ⟨_,_,h5,rfl⟩
     rcases Nat.eq_zero_or_pos len with hlen|hlen
     ·have hrl:0<rest.length:=by have:=(hR rfl).1;omega
      have:=(hR rfl).2 0 (by omega)
      have h8:rest[0]?=some rest[0]:=List.getElem?_eq_getElem hrl
      rw [h8,hr.1,Option.bind_eq_some_iff] at this
      obtain ⟨c1,h9,_⟩:=this
      exact JY _ c1 h9
     ·obtain ⟨y,hy⟩:∃ y,l[0]?=some y:=⟨l[0],List.getElem?_eq_getElem (by omega)⟩
      exact JY 0 _ (h2 0 y hy).1
    obtain ⟨ahO,v0,hv0,hspot⟩:=hcell
    obtain ⟨b,off,spot⟩:=a
    simp only at hspot hv0
    subst hspot
    have hC:bY w b:=tZ hv0
    have hget:∀ (i:Nat) x,(l.map fun y=>wr y.2)[i]?=some x→∃ y,l[i]?=some y∧x=wr y.2:=fun i x hx=>by
     rw [List.getElem?_map] at hx
     cases e:l[i]? with
     |none=>rw [e] at hx;cases hx
     |some y=>rw [e] at hx;exact ⟨y,rfl,(Option.some.inj hx).symm⟩
    have hlen:(l.map fun y=>wr y.2).length=len:=by simp [h1]
    have:=aP.list (ok:=fun b=>b<w.heap.size) (w:=w) n (l.map fun y=>wr y.2) b off cap (fun i j=>(((l[i]?).map (·.1)).getD []).getD j default) hC.lt hC (by rw [hlen];exact hl) hm
     (fun x hx=>by
      obtain ⟨i,hi⟩:=List.mem_iff_getElem?.1 hx
      obtain ⟨y,hy,rfl⟩:=hget i x hi
      obtain ⟨_,g1,g2,_⟩:=h2 i y hy
      rw [hw _ g1 g2,g2])
     (fun i x j p hi hj=>by
      obtain ⟨y,hy,rfl⟩:=hget i x hi
      obtain ⟨g0,g1,g2,g3,g4,g5⟩:=h2 i y hy
      rw [hw _ g1 g2] at hj
      have hjn:j<n:=by have:=(List.getElem?_eq_some_iff.1 hj).1;omega
      obtain ⟨_,hc1,h6⟩:=World.cells?_some g0
      have h7:=h6 j hjn
      have hcj:y.1[j]?=some y.1[j]:=List.getElem?_eq_getElem (by omega)
      have hd:(((l[i]?).map (·.1)).getD []).getD j default=y.1[j]:=by
       rw [hy];simp [List.getD_eq_getElem?_getD,hcj]
      rw [hd]
      rw [hcj,Addr.add_lit,Addr.add_lit] at h7
      exact ⟨h7,g4 _ (List.mem_of_getElem? hcj)⟩)
     (fun i x j p hi hj=>by
      obtain ⟨y,hy,rfl⟩:=hget i x hi
      obtain ⟨g0,g1,g2,g3,g4,g5⟩:=h2 i y hy
      rw [hw _ g1 g2] at hj
      have hjn:j<n:=by have:=(List.getElem?_eq_some_iff.1 hj).1;omega
      have hcj:y.1[j]?=some y.1[j]:=List.getElem?_eq_getElem (by omega)
      have hd:(((l[i]?).map (·.1)).getD []).getD j default=y.1[j]:=by
       rw [hy];simp [List.getD_eq_getElem?_getD,hcj]
      rw [hd]
      exact g5 j p _ hj hcj)
    rw [hlen] at this
    exact this⟩
inductive sJ (P:Program):Nat→List Field→List (List PV→Prop)→Nat→Prop
 |nil (o:Nat):sJ P o [] [] 0
 |cons {o n m:Nat} {f:Field} {fs:List Field} {S:List PV→Prop} {Ss:List (List PV→Prop)}:f.offset=o→eP P f.type n S→sJ P (o+n) fs Ss m→sJ P o (f :: fs) (S :: Ss) (n+m)
theorem sJ.read {o:Nat} {fs:List Field} {Ss:List (List PV→Prop)} (h:sJ P o fs Ss m) {H:Type} {enc:TypeId × Value→H} {w:World} {fuel:Nat} {cs:List Value} {xs:List (DataW H × List MemPlace)} (hl:cs.length=o+m)
  (hx:∀ (i:Nat) (f:Field),fs[i]?=some f→∃ x,DataW.trod enc P w 0 (fun _=>true) true fuel f.type ((cs.drop f.offset).take (P.cellsOf f.type))=some x∧(x.1.weights P f.type).all (·≤reachBytes)=true):∃ ps,qZ Ss ps∧ps.length=m∧wZ w (cs.drop o) ps:=by
 induction h with
 |nil o=>exact ⟨[],rfl,rfl,by rw [List.drop_of_length_le (by omega)];exact (⟨rfl,fun c hc=>(by cases hc),fun j x v hx=>(by simp at hx)⟩:wZ w [] [])⟩
 |@cons o n m f fs S Ss h1 h2 h3 ih =>
  obtain ⟨x,h4,h5⟩:=hx 0 f rfl
  rw [h2.1,h1] at h4
  obtain ⟨p,g1,g2,g3⟩:=h2.2 h4 h5
  obtain ⟨q,k1,k2,k3⟩:=ih (by omega) (fun i f hf=>hx (i+1) f hf)
  refine ⟨p++q,⟨p,q,rfl,g1,k1⟩,by simp [g2,k2],?_⟩
  have:cs.drop o=(cs.drop o).take n++cs.drop (o+n):=by rw [← List.drop_drop,List.take_append_drop]
  rw [this]
  exact g3.append k3
theorem eP.struct {fs:Array Field} {Ss:List (List PV→Prop)} (ht:P.underlying t=some (.struct fs)) (hf:sJ P 0 fs.toList Ss n) (hc:P.cellsOf t=n):eP P t n (qZ Ss):=⟨hc,fun {H enc w fuel cs x} h hz=>by
 obtain ⟨xs,m,_,rfl,hl,hx,hE⟩:=DataW.trod_struct ht h
 obtain ⟨ps,h1,h2,h3⟩:=hf.read (xs:=xs) (enc:=enc) (w:=w) (fuel:=m) (cs:=cs) (by omega) (fun i f hi=>by
  have hi':fs[i]?=some f:=by simpa using hi
  have:=hE i f hi'
  have hil:i<xs.length:=by rw [hx];exact (Array.getElem?_eq_some_iff.1 hi').1
  refine ⟨xs[i],by rw [this,List.getElem?_eq_getElem hil],?_⟩
  rw [List.all_eq_true]
  intro y hy
  refine List.all_eq_true.1 hz y ?_
  simp only [DataW.weights,ht]
  exact DataW.weights_mem_each (j:=i) (t:=f.type) (d:=xs[i].1) (by simp [hi']) (by simp [List.getElem?_map,List.getElem?_eq_getElem hil]) y hy)
 exact ⟨ps,h1,h2,by simpa using h3⟩⟩
theorem eP.O5 {f0 f1:Field} {n0 n1:Nat} {S0 S1:List PV→Prop} (ht:P.underlying t=some (.struct #[f0,f1])) (h0:eP P f0.type n0 S0) (h1:eP P f1.type n1 S1) (o0:f0.offset=0) (o1:f1.offset=0+n0) (hc:P.cellsOf t=n0+(n1+0)):eP P t (n0+(n1+0)) (qZ [S0,S1]) :=
 eP.struct ht (show sJ P 0 [f0,f1] [S0,S1] (n0+(n1+0)) from .cons o0 h0 (.cons o1 h1 (.nil _))) hc
theorem eP.O6 {f0 f1 f2:Field} {n0 n1 n2:Nat} {S0 S1 S2:List PV→Prop} (ht:P.underlying t=some (.struct #[f0,f1,f2])) (h0:eP P f0.type n0 S0) (h1:eP P f1.type n1 S1) (h2:eP P f2.type n2 S2) (o0:f0.offset=0) (o1:f1.offset=0+n0) (o2:f2.offset=0+n0+n1) (hc:P.cellsOf t=n0+(n1+(n2+0))):eP P t (n0+(n1+(n2+0))) (qZ [S0,S1,S2]) :=
 eP.struct ht (show sJ P 0 [f0,f1,f2] [S0,S1,S2] (n0+(n1+(n2+0))) from .cons o0 h0 (.cons o1 h1 (.cons o2 h2 (.nil _)))) hc
theorem eP.O7 {f0 f1 f2 f3 f4:Field} {n0 n1 n2 n3 n4:Nat} {S0 S1 S2 S3 S4:List PV→Prop} (ht:P.underlying t=some (.struct #[f0,f1,f2,f3,f4])) (h0:eP P f0.type n0 S0) (h1:eP P f1.type n1 S1) (h2:eP P f2.type n2 S2) (h3:eP P f3.type n3 S3) (h4:eP P f4.type n4 S4) (o0:f0.offset=0) (o1:f1.offset=0+n0) (o2:f2.offset=0+n0+n1) (o3:f3.offset=0+n0+n1+n2) (o4:f4.offset=0+n0+n1+n2+n3) (hc:P.cellsOf t=n0+(n1+(n2+(n3+(n4+0))))):eP P t (n0+(n1+(n2+(n3+(n4+0))))) (qZ [S0,S1,S2,S3,S4]) :=
 eP.struct ht (show sJ P 0 [f0,f1,f2,f3,f4] [S0,S1,S2,S3,S4] (n0+(n1+(n2+(n3+(n4+0))))) from .cons o0 h0 (.cons o1 h1 (.cons o2 h2 (.cons o3 h3 (.cons o4 h4 (.nil _)))))) hc
theorem eP.O8 {f0 f1 f2 f3 f4 f5 f6:Field} {n0 n1 n2 n3 n4 n5 n6:Nat} {S0 S1 S2 S3 S4 S5 S6:List PV→Prop} (ht:P.underlying t=some (.struct #[f0,f1,f2,f3,f4,f5,f6])) (h0:eP P f0.type n0 S0) (h1:eP P f1.type n1 S1) (h2:eP P f2.type n2 S2) (h3:eP P f3.type n3 S3) (h4:eP P f4.type n4 S4) (h5:eP P f5.type n5 S5) (h6:eP P f6.type n6 S6) (o0:f0.offset=0) (o1:f1.offset=0+n0) (o2:f2.offset=0+n0+n1) (o3:f3.offset=0+n0+n1+n2) (o4:f4.offset=0+n0+n1+n2+n3) (o5:f5.offset=0+n0+n1+n2+n3+n4) (o6:f6.offset=0+n0+n1+n2+n3+n4+n5) (hc:P.cellsOf t=n0+(n1+(n2+(n3+(n4+(n5+(n6+0))))))):eP P t (n0+(n1+(n2+(n3+(n4+(n5+(n6+0))))))) (qZ [S0,S1,S2,S3,S4,S5,S6]) :=
 eP.struct ht (show sJ P 0 [f0,f1,f2,f3,f4,f5,f6] [S0,S1,S2,S3,S4,S5,S6] (n0+(n1+(n2+(n3+(n4+(n5+(n6+0))))))) from .cons o0 h0 (.cons o1 h1 (.cons o2 h2 (.cons o3 h3 (.cons o4 h4 (.cons o5 h5 (.cons o6 h6 (.nil _)))))))) hc
theorem Yi {H:Type} {enc:TypeId × Value→H} {w:World} {v:Value} {d:DataW H} {p:List MemPlace} (hr:eP P t 1 S) (hone:v.cells.toList=[v]) (h:DataW.Trod enc P w 0 (fun _=>true) true t v d p) (hz:(d.weights P t).all (·≤reachBytes)=true) :
  ∃ q,S [q]∧aP (fun b=>b<w.heap.size) w q v:=by
 obtain ⟨fuel,hf⟩:=h
 obtain ⟨ps,h1,h2,h3,h4,h5⟩:=hr.2 hf hz
 match ps,h2 with
 |[q],_=>exact ⟨q,h1,h5 0 q v rfl (by rw [hone];rfl)⟩
theorem Yj {H:Type} {enc:TypeId × Value→H} {w:World} {arr:Array Value} {d:DataW H} {p:List MemPlace} (hr:eP P t n S) (h:DataW.Trod enc P w 0 (fun _=>true) true t (.agg arr) d p) (hz:(d.weights P t).all (·≤reachBytes)=true) :
  ∃ ps,S ps∧aP (fun b=>b<w.heap.size) w (.agg ps) (.agg arr):=by
 obtain ⟨fuel,hf⟩:=h
 obtain ⟨ps,h1,h2,h3,h4,h5⟩:=hr.2 hf hz
 have hc:(Value.agg arr).cells=arr:=rfl
 rw [hc] at h3 h4 h5
 refine ⟨ps,h1,.agg ps arr (by simpa using h3) (fun j v hv=>h4 v (List.mem_of_getElem? (i:=j) (by simpa using hv))) (fun j x v hx hv=>h5 j x v hx (by simpa using hv))⟩
theorem NY {H:Type} {enc:TypeId × Value→H} {w:World} {v:Value} {d:DataW H} {p:List MemPlace} {m:Reach} {base:Nat} (ht:P.underlying t=some (.slice e)) (hr:eP P t 1 S) (hv:Value.okWide P w m base t v) (h:DataW.Trod enc P w 0 (fun _=>true) true t v d p) (hz:(d.weights P t).all (·≤reachBytes)=true) :
  ∃ q,S [q]∧aP (fun b=>b<w.heap.size) w q v:=by
 obtain ⟨a,l,c,rfl⟩:=okWide_slice ht hv
 exact Yi hr rfl h hz
theorem J5 {H:Type} {enc:TypeId × Value→H} {w:World} {v:Value} {d:DataW H} {p:List MemPlace} {m:Reach} {base:Nat} {fs:Array Field} (ht:P.underlying t=some (.struct fs)) (hr:eP P t n S) (hv:Value.okWide P w m base t v) (h:DataW.Trod enc P w 0 (fun _=>true) true t v d p) (hz:(d.weights P t).all (·≤reachBytes)=true) :
  ∃ ps,S ps∧aP (fun b=>b<w.heap.size) w (.agg ps) v:=by
 simp only [Value.okWide,ht] at hv
 obtain ⟨cs,rfl,_,_⟩:=hv
 exact Yj hr h hz
theorem BO {H:Type} {t0 t1 t2:TypeId} {d0 d1 d2:DataW H} {ts:List TypeId} {ds:List (DataW H)} (h:(DataW.weightsEach P (t0 :: t1 :: t2 :: ts) (d0 :: d1 :: d2 :: ds)).all (·≤reachBytes)=true):(d0.weights P t0).all (·≤reachBytes)=true∧(d1.weights P t1).all (·≤reachBytes)=true∧(d2.weights P t2).all (·≤reachBytes)=true:=by
 simp only [DataW.weightsEach,List.all_append,Bool.and_eq_true] at h
 exact ⟨h.1,h.2.1,h.2.2.1⟩
end
end Go.Proofs.YtpcncggjmabnaaaGreatDoor

namespace Go.Proofs.YtpcncggjmabnaaaGreatDoor
open V
open Go.RowKit Go.ChangeShapes Go.WideShapes Go.ChangeAt
def NZ:List PV→Prop:=xu 8 (adI 8 (SInt .u8)) .agg
theorem adQ {q:PV} (h:NZ [q]):∃ l:List nK,l.length≤140737488351232∧q=bC l:=by
 obtain ⟨es,e1,hl,h3⟩:=h
 cases e1
 obtain ⟨l,e2⟩:=abk (q:=.list 8 es) ⟨es,rfl,h3⟩
 refine ⟨l,?_,e2⟩
 have:es=l.map lW:=by
  have e3:PV.list 8 es=.list 8 (l.map lW):=e2
  injection e3
 rw [this,List.length_map] at hl
 exact hl
def adR:List PV→Prop:=qZ [SInt .i64,SInt .i64,NZ]
theorem ai7 {ps:List PV} (h:adR ps):∃ x:jW,x.data.length≤140737488351232∧PV.agg ps=iL x:=by
 obtain ⟨p,q,rfl,⟨n,h1,rfl⟩,p2,q2,rfl,⟨m,h2,rfl⟩,p3,q3,rfl,h3,rfl⟩:=h
 obtain ⟨es,rfl,h4⟩:=h3
 obtain ⟨l,hl,e3⟩:=adQ (q:=.list 8 es) ⟨es,rfl,h4⟩
 refine ⟨⟨n,m,l⟩,hl,?_⟩
 rw [e3];rfl
theorem Yk {α:Type} {n:Nat} {S:List PV→Prop} {wr:List PV→PV} {enc:α→PV} {ok:α→Prop} (hs:∀ ps,S ps→∃ x,ok x∧wr ps=enc x) {q:PV} (h:xu n S wr [q]):∃ l:List α,(∀ x∈l,ok x)∧q=.list n (l.map enc):=by
 obtain ⟨es,e1,_,h3⟩:=h
 exact DU hs ⟨es,e1,h3⟩
def Yl:List PV→Prop:=xu 3 adR .agg
theorem agT {q:PV} (h:Yl [q]):∃ l:List jW,szW l∧q=.list 3 (l.map iL) :=
 Yk (enc:=iL) (ok:=fun x=>x.data.length≤140737488351232) (fun ps h=>ai7 h) h
def adS:List PV→Prop:=qZ [SInt .i64,SInt .i64,SInt .i64,GV,Yl]
theorem ai8 {ps:List PV} (h:adS ps):∃ c:nY,szW c.ws∧PV.agg ps=jc c:=by
 obtain ⟨p,q,rfl,⟨n,h1,rfl⟩,p2,q2,rfl,⟨n2,h2,rfl⟩,p3,q3,rfl,⟨n3,h3,rfl⟩,p4,q4,rfl,h4,p5,q5,rfl,h5,rfl⟩:=h
 obtain ⟨es4,rfl,g4⟩:=h4
 obtain ⟨es5,rfl,g5⟩:=h5
 obtain ⟨l,e4⟩:=Yh (q:=.list 1 es4) ⟨es4,rfl,g4⟩
 obtain ⟨w,hw,e5⟩:=agT (q:=.list 3 es5) ⟨es5,rfl,g5⟩
 refine ⟨⟨n,n2,n3,l,w⟩,hw,?_⟩
 rw [e4,e5];rfl
def Ym:List PV→Prop:=xu 5 adS .agg
theorem agU {q:PV} (h:Ym [q]):∃ l:List nY,(∀ c∈l,szW c.ws)∧q=.list 5 (l.map jc) :=
 Yk (enc:=jc) (ok:=fun x=>szW x.ws) (fun ps h=>ai8 h) h
def abm:List PV→Prop:=qZ [SInt .i64,GV,Ym,X8,SInt .i64,SInt .i64,adP]
theorem agV {ps:List PV} (h:abm ps):∃ s:mJ,szQ s∧PV.agg ps=oH s:=by
 obtain ⟨p1,q1,rfl,⟨n,h1,rfl⟩,p2,q2,rfl,h2,p3,q3,rfl,h3,p4,q4,rfl,h4,p5,q5,rfl,⟨n5,h5,rfl⟩,p6,q6,rfl,⟨n6,h6,rfl⟩,p7,q7,rfl,h7,rfl⟩:=h
 obtain ⟨es2,rfl,g2⟩:=h2
 obtain ⟨es3,rfl,g3⟩:=h3
 obtain ⟨b,rfl⟩:=h4
 obtain ⟨es7,rfl,g7⟩:=h7
 obtain ⟨z,e2⟩:=Yh (q:=.list 1 es2) ⟨es2,rfl,g2⟩
 obtain ⟨c,hc,e3⟩:=agU (q:=.list 5 es3) ⟨es3,rfl,g3⟩
 obtain ⟨d,e7⟩:=ai4 (q:=.list 2 es7) ⟨es7,rfl,g7⟩
 refine ⟨⟨n,z,c,b,n5,n6,d⟩,hc,?_⟩
 rw [e2,e3,e7];rfl
theorem Tryz.aaJ:eP Tryz.prog 74 1 NZ:=eP.list Tryz.underlying74 (by kernel_rfl) (.of Tryz.abl) (Nat.le_of_ble_eq_true (by kernel_rfl)) (by decide) (fun _ _ _=>rfl)
theorem Tryz.agW:eP Tryz.prog 76 3 adR:=eP.O6 Tryz.underlying76 (.of Tryz.rC) (.of Tryz.rC) Tryz.aaJ rfl rfl rfl (by kernel_rfl)
theorem Tryz.adT:eP Tryz.prog 35 1 Yl:=eP.list Tryz.underlying35 (by kernel_rfl) Tryz.agW (Nat.le_of_ble_eq_true (by kernel_rfl)) (by decide) (fun _ _ _=>rfl)
theorem Tryz.agX:eP Tryz.prog 37 5 adS:=eP.O7 Tryz.underlying37 (.of Tryz.rC) (.of Tryz.rC) (.of Tryz.rC) (.of Tryz.Pg) Tryz.adT rfl rfl rfl rfl rfl (by kernel_rfl)
theorem Tryz.adU:eP Tryz.prog 24 1 Ym:=eP.list Tryz.underlying24 (by kernel_rfl) Tryz.agX (Nat.le_of_ble_eq_true (by kernel_rfl)) (by decide) (fun _ _ _=>rfl)
theorem Tryz.adV:eP Tryz.prog 27 7 abm:=eP.O8 Tryz.underlying27 (.of Tryz.rC) (.of Tryz.Pg) Tryz.adU (.of Tryz.agS) (.of Tryz.rC) (.of Tryz.rC) (.of Tryz.agQ) rfl rfl rfl rfl rfl rfl rfl (by kernel_rfl)
end Go.Proofs.YtpcncggjmabnaaaGreatDoor

namespace Go.Proofs.YtpcncggjmabnaaaGreatDoor
open V
open Go.RowKit Go.ChangeShapes Go.WideShapes Go.ChangeAt
def abn:List PV→Prop:=xu 1 O9 wrS
theorem agY {q:PV} (h:abn [q]):∃ l:jl,szI l∧q=.list 1 (l.map bC):=by
 obtain ⟨es,e1,hl,h3⟩:=h
 cases e1
 obtain ⟨l,e⟩:=ai0 (q:=.list 1 es) ⟨es,rfl,h3⟩
 refine ⟨l,?_,e⟩
 have:es=l.map bC:=by injection e
 rw [this,List.length_map] at hl
 exact hl
theorem Tryz.adW:eP Tryz.prog 52 1 abn:=eP.list Tryz.underlying52 (by kernel_rfl) (.of Tryz.adM) (Nat.le_of_ble_eq_true (by kernel_rfl)) (by decide) (fun _ h _=>aaI h)
end Go.Proofs.YtpcncggjmabnaaaGreatDoor
