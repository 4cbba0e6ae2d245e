/-
  Part 12 of the texts that the statement stands on.
-/
import Derived.Test.YtioijcfcehhmdaaGreatDoorZ11
import Derived.Test.YtioijcfcehhmdaaGreatDoorRows
import Derived.Lib.LaidTab
import Derived.LaidByTextLater
import Derived.SizedLaws
set_option linter.all false
open List renaming getElem?_eq_getElem → ZS, getElem?_eq_some_iff → Z6, getElem?_map → zb, forall_mem_cons → zc
open Bool renaming and_eq_true → ZZ
open Int renaming ofNat → Zdr
namespace Go.Proofs.YtioijcfcehhmdaaGreatDoor
def iM (P:Program)(f:Nat):acf→Prop
 |.code fn=>bT P f fn=true
 |.ext g=>∀ args rs,g args=some rs→callable P f=true∧nP P f args rs
 |.Kv h=>callable P f=true∧N7 P f h
 |.nJ h=>(∀ args,h args=some none→callable P f=true∧nP P f args [])∧∀ args t n,h args=some (some (t,n))→callable P f=true∧RF P f args t n
 |.dfn fn=>BJ P f fn=true∧Ia P fn.AU fn.t∧∀ d g zs,fn.zy=some (d,g,zs)→Af P g (zs.map (·.2))
theorem asI:iM Tryz.prog 11 (.code ad3):=(by kernel_rfl:bT Tryz.prog 11 ad3=true)
theorem asJ:iM Tryz.prog 12 (.dfn DV):=⟨(by kernel_rfl:BJ Tryz.prog 12 DV=true),QT,fun d g zs h=>by cases h;exact Yk⟩
theorem asK:iM Tryz.prog 15 (.dfn FH):=⟨(by kernel_rfl:BJ Tryz.prog 15 FH=true),QT,fun d g zs h=>by cases h;exact Vr⟩
theorem asL:iM Tryz.prog 17 (.code aaY):=(by kernel_rfl:bT Tryz.prog 17 aaY=true)
theorem asM:iM Tryz.prog 20 (.code ad4):=(by kernel_rfl:bT Tryz.prog 20 ad4=true)
theorem asN:iM Tryz.prog 22 (.code XD):=(by kernel_rfl:bT Tryz.prog 22 XD=true)
theorem asO:iM Tryz.prog 24 (.dfn FI):=⟨(by kernel_rfl:BJ Tryz.prog 24 FI=true),QT,fun d g zs h=>by cases h;exact Yj⟩
theorem asP:iM Tryz.prog 27 (.code alo):=(by kernel_rfl:bT Tryz.prog 27 alo=true)
theorem asQ:iM Tryz.prog 30 (.code aaZ):=(by kernel_rfl:bT Tryz.prog 30 aaZ=true)
theorem asR:iM Tryz.prog 33 (.code ad5):=(by kernel_rfl:bT Tryz.prog 33 ad5=true)
theorem asT:iM Tryz.prog 34 (.code ad6):=(by kernel_rfl:bT Tryz.prog 34 ad6=true)
theorem asU:iM Tryz.prog 35 (.code XE):=(by kernel_rfl:bT Tryz.prog 35 XE=true)
theorem asV:iM Tryz.prog 36 (.code ad7):=(by kernel_rfl:bT Tryz.prog 36 ad7=true)
theorem asW:iM Tryz.prog 37 (.code ad8):=(by kernel_rfl:bT Tryz.prog 37 ad8=true)
theorem asX:iM Tryz.prog 38 (.ext wF):=abJ
theorem asY:iM Tryz.prog 39 (.code ad9):=(by kernel_rfl:bT Tryz.prog 39 ad9=true)
theorem asZ:iM Tryz.prog 40 (.code aea):=(by kernel_rfl:bT Tryz.prog 40 aea=true)
theorem as1:iM Tryz.prog 41 (.code aeb):=(by kernel_rfl:bT Tryz.prog 41 aeb=true)
theorem as2:iM Tryz.prog 42 (.code aec):=(by kernel_rfl:bT Tryz.prog 42 aec=true)
theorem as3:iM Tryz.prog 43 (.code alp):=(by kernel_rfl:bT Tryz.prog 43 alp=true)
theorem as4:iM Tryz.prog 44 (.code aed):=(by kernel_rfl:bT Tryz.prog 44 aed=true)
theorem as5:iM Tryz.prog 45 (.code alq):=(by kernel_rfl:bT Tryz.prog 45 alq=true)
theorem as6:iM Tryz.prog 46 (.code alr):=(by kernel_rfl:bT Tryz.prog 46 alr=true)
theorem as7:iM Tryz.prog 48 (.code vw):=(by kernel_rfl:bT Tryz.prog 48 vw=true)
theorem as8:iM Tryz.prog 49 (.code XF):=(by kernel_rfl:bT Tryz.prog 49 XF=true)
theorem as9:iM Tryz.prog 50 (.code Pn):=(by kernel_rfl:bT Tryz.prog 50 Pn=true)
theorem ata:iM Tryz.prog 51 (.nJ wG):=abW
theorem atb:iM Tryz.prog 52 (.code aa0):=(by kernel_rfl:bT Tryz.prog 52 aa0=true)
theorem atc:iM Tryz.prog 53 (.code aee):=(by kernel_rfl:bT Tryz.prog 53 aee=true)
theorem atd:iM Tryz.prog 54 (.code TG):=(by kernel_rfl:bT Tryz.prog 54 TG=true)
theorem ate:iM Tryz.prog 62 (.code als):=(by kernel_rfl:bT Tryz.prog 62 als=true)
theorem atf:iM Tryz.prog 65 (.code aef):=(by kernel_rfl:bT Tryz.prog 65 aef=true)
theorem atg:iM Tryz.prog 66 (.code aeg):=(by kernel_rfl:bT Tryz.prog 66 aeg=true)
theorem ath:iM Tryz.prog 68 (.code alu):=(by kernel_rfl:bT Tryz.prog 68 alu=true)
theorem ati:iM Tryz.prog 69 (.code aeh):=(by kernel_rfl:bT Tryz.prog 69 aeh=true)
theorem atj:iM Tryz.prog 70 (.code aa1):=(by kernel_rfl:bT Tryz.prog 70 aa1=true)
theorem atl:iM Tryz.prog 71 (.code XG):=(by kernel_rfl:bT Tryz.prog 71 XG=true)
theorem atm:iM Tryz.prog 75 (.code alv):=(by kernel_rfl:bT Tryz.prog 75 alv=true)
theorem atn:iM Tryz.prog 76 (.code aei):=(by kernel_rfl:bT Tryz.prog 76 aei=true)
theorem ato:iM Tryz.prog 77 (.code aej):=(by kernel_rfl:bT Tryz.prog 77 aej=true)
theorem atp:iM Tryz.prog 78 (.code aek):=(by kernel_rfl:bT Tryz.prog 78 aek=true)
theorem atq:iM Tryz.prog 79 (.code ael):=(by kernel_rfl:bT Tryz.prog 79 ael=true)
theorem atr:iM Tryz.prog 81 (.code aem):=(by kernel_rfl:bT Tryz.prog 81 aem=true)
theorem att:iM Tryz.prog 82 (.code aen):=(by kernel_rfl:bT Tryz.prog 82 aen=true)
theorem atu:iM Tryz.prog 83 (.code XH):=(by kernel_rfl:bT Tryz.prog 83 XH=true)
theorem atv:iM Tryz.prog 84 (.code aeo):=(by kernel_rfl:bT Tryz.prog 84 aeo=true)
theorem atw:iM Tryz.prog 85 (.code aep):=(by kernel_rfl:bT Tryz.prog 85 aep=true)
theorem atx:iM Tryz.prog 86 (.code aer):=(by kernel_rfl:bT Tryz.prog 86 aer=true)
theorem aty:iM Tryz.prog 87 (.code aes):=(by kernel_rfl:bT Tryz.prog 87 aes=true)
theorem atz:iM Tryz.prog 89 (.code aa2):=(by kernel_rfl:bT Tryz.prog 89 aa2=true)
theorem atA:iM Tryz.prog 90 (.code KQ):=(by kernel_rfl:bT Tryz.prog 90 KQ=true)
theorem atB:iM Tryz.prog 91 (.code aeu):=(by kernel_rfl:bT Tryz.prog 91 aeu=true)
theorem atC:iM Tryz.prog 92 (.code aev):=(by kernel_rfl:bT Tryz.prog 92 aev=true)
theorem atD:iM Tryz.prog 93 (.code aew):=(by kernel_rfl:bT Tryz.prog 93 aew=true)
theorem atE:iM Tryz.prog 94 (.code aex):=(by kernel_rfl:bT Tryz.prog 94 aex=true)
theorem atF:iM Tryz.prog 95 (.ext (uI 8)):=X4
theorem atG:iM Tryz.prog 96 (.code aa3):=(by kernel_rfl:bT Tryz.prog 96 aa3=true)
theorem atH:iM Tryz.prog 97 (.code aa4):=(by kernel_rfl:bT Tryz.prog 97 aa4=true)
theorem atI:iM Tryz.prog 98 (.code XI):=(by kernel_rfl:bT Tryz.prog 98 XI=true)
theorem atJ:iM Tryz.prog 99 (.code aey):=(by kernel_rfl:bT Tryz.prog 99 aey=true)
theorem aql:iM Tryz.prog 111 (.code TI):=(by kernel_rfl:bT Tryz.prog 111 TI=true)
theorem aqm:iM Tryz.prog 112 (.code TJ):=(by kernel_rfl:bT Tryz.prog 112 TJ=true)
theorem aqn:iM Tryz.prog 115 (.code TK):=(by kernel_rfl:bT Tryz.prog 115 TK=true)
theorem aqo:iM Tryz.prog 116 (.code TL):=(by kernel_rfl:bT Tryz.prog 116 TL=true)
theorem aqp:iM Tryz.prog 117 (.code TM):=(by kernel_rfl:bT Tryz.prog 117 TM=true)
theorem aqr:iM Tryz.prog 118 (.code TQ):=(by kernel_rfl:bT Tryz.prog 118 TQ=true)
theorem aqs:iM Tryz.prog 119 (.code TS):=(by kernel_rfl:bT Tryz.prog 119 TS=true)
theorem aqt:iM Tryz.prog 120 (.code TU):=(by kernel_rfl:bT Tryz.prog 120 TU=true)
theorem aqu:iM Tryz.prog 121 (.code TV):=(by kernel_rfl:bT Tryz.prog 121 TV=true)
theorem aqv:iM Tryz.prog 122 (.code TW):=(by kernel_rfl:bT Tryz.prog 122 TW=true)
theorem aqw:iM Tryz.prog 123 (.code IL):=(by kernel_rfl:bT Tryz.prog 123 IL=true)
theorem aqx:iM Tryz.prog 124 (.code TY):=(by kernel_rfl:bT Tryz.prog 124 TY=true)
theorem aqy:iM Tryz.prog 126 (.code Ua):=(by kernel_rfl:bT Tryz.prog 126 Ua=true)
theorem aqz:iM Tryz.prog 127 (.code Ub):=(by kernel_rfl:bT Tryz.prog 127 Ub=true)
theorem aqA:iM Tryz.prog 128 (.code Uc):=(by kernel_rfl:bT Tryz.prog 128 Uc=true)
theorem aqB:iM Tryz.prog 129 (.code Ud):=(by kernel_rfl:bT Tryz.prog 129 Ud=true)
theorem aqC:iM Tryz.prog 130 (.code Ue):=(by kernel_rfl:bT Tryz.prog 130 Ue=true)
theorem aqD:iM Tryz.prog 131 (.code Uf):=(by kernel_rfl:bT Tryz.prog 131 Uf=true)
theorem aqE:iM Tryz.prog 132 (.code Ug):=(by kernel_rfl:bT Tryz.prog 132 Ug=true)
theorem aqF:iM Tryz.prog 133 (.code Uh):=(by kernel_rfl:bT Tryz.prog 133 Uh=true)
theorem aqG:iM Tryz.prog 135 (.code ML):=(by kernel_rfl:bT Tryz.prog 135 ML=true)
theorem aqH:iM Tryz.prog 136 (.code Ui):=(by kernel_rfl:bT Tryz.prog 136 Ui=true)
theorem aqI:iM Tryz.prog 138 (.code Uj):=(by kernel_rfl:bT Tryz.prog 138 Uj=true)
theorem aqJ:iM Tryz.prog 139 (.code Uk):=(by kernel_rfl:bT Tryz.prog 139 Uk=true)
theorem aqK:iM Tryz.prog 140 (.code Ul):=(by kernel_rfl:bT Tryz.prog 140 Ul=true)
theorem aqL:iM Tryz.prog 141 (.code EW):=(by kernel_rfl:bT Tryz.prog 141 EW=true)
theorem aqM:iM Tryz.prog 142 (.Kv (mZ 143)):=UU
theorem aqN:iM Tryz.prog 143 (.code aez):=(by kernel_rfl:bT Tryz.prog 143 aez=true)
theorem aqO:iM Tryz.prog 144 (.code aeA):=(by kernel_rfl:bT Tryz.prog 144 aeA=true)
theorem aqP:iM Tryz.prog 145 (.code EX):=(by kernel_rfl:bT Tryz.prog 145 EX=true)
theorem aqQ:iM Tryz.prog 146 (.ext (uI 1)):=U4
theorem aqR:iM Tryz.prog 147 (.code MN):=(by kernel_rfl:bT Tryz.prog 147 MN=true)
theorem aqS:iM Tryz.prog 148 (.code Um):=(by kernel_rfl:bT Tryz.prog 148 Um=true)
theorem aqT:iM Tryz.prog 149 (.code Un):=(by kernel_rfl:bT Tryz.prog 149 Un=true)
theorem aqU:iM Tryz.prog 150 (.ext tzX):=aox
theorem aqV:iM Tryz.prog 151 (.code Uo):=(by kernel_rfl:bT Tryz.prog 151 Uo=true)
theorem aqW:iM Tryz.prog 152 (.code EY):=(by kernel_rfl:bT Tryz.prog 152 EY=true)
theorem aqX:iM Tryz.prog 153 (.code Ur):=(by kernel_rfl:bT Tryz.prog 153 Ur=true)
theorem aqY:iM Tryz.prog 157 (.code aeB):=(by kernel_rfl:bT Tryz.prog 157 aeB=true)
set_option maxRecDepth 20000 in
theorem aqZ:∀ p∈tab,iM Tryz.prog p.1 p.2:=by
 unfold tab
 exact zc.2 ⟨asI,zc.2 ⟨asJ,zc.2 ⟨asK,zc.2 ⟨asL,zc.2 ⟨asM,zc.2 ⟨asN,zc.2 ⟨asO,zc.2 ⟨asP,zc.2 ⟨asQ,zc.2 ⟨asR,zc.2 ⟨asT,zc.2 ⟨asU,zc.2 ⟨asV,zc.2 ⟨asW,zc.2 ⟨asX,zc.2 ⟨asY,zc.2 ⟨asZ,zc.2 ⟨as1,zc.2 ⟨as2,zc.2 ⟨as3,zc.2 ⟨as4,zc.2 ⟨as5,zc.2 ⟨as6,zc.2 ⟨as7,zc.2 ⟨as8,zc.2 ⟨as9,zc.2 ⟨ata,zc.2 ⟨atb,zc.2 ⟨atc,zc.2 ⟨atd,zc.2 ⟨ate,zc.2 ⟨atf,zc.2 ⟨atg,zc.2 ⟨ath,zc.2 ⟨ati,zc.2 ⟨atj,zc.2 ⟨atl,zc.2 ⟨atm,zc.2 ⟨atn,zc.2 ⟨ato,zc.2 ⟨atp,zc.2 ⟨atq,zc.2 ⟨atr,zc.2 ⟨att,zc.2 ⟨atu,zc.2 ⟨atv,zc.2 ⟨atw,zc.2 ⟨atx,zc.2 ⟨aty,zc.2 ⟨atz,zc.2 ⟨atA,zc.2 ⟨atB,zc.2 ⟨atC,zc.2 ⟨atD,zc.2 ⟨atE,zc.2 ⟨atF,zc.2 ⟨atG,zc.2 ⟨atH,zc.2 ⟨atI,zc.2 ⟨atJ,zc.2 ⟨aql,zc.2 ⟨aqm,zc.2 ⟨aqn,zc.2 ⟨aqo,zc.2 ⟨aqp,zc.2 ⟨aqr,zc.2 ⟨aqs,zc.2 ⟨aqt,zc.2 ⟨aqu,zc.2 ⟨aqv,zc.2 ⟨aqw,zc.2 ⟨aqx,zc.2 ⟨aqy,zc.2 ⟨aqz,zc.2 ⟨aqA,zc.2 ⟨aqB,zc.2 ⟨aqC,zc.2 ⟨aqD,zc.2 ⟨aqE,zc.2 ⟨aqF,zc.2 ⟨aqG,zc.2 ⟨aqH,zc.2 ⟨aqI,zc.2 ⟨aqJ,zc.2 ⟨aqK,zc.2 ⟨aqL,zc.2 ⟨aqM,zc.2 ⟨aqN,zc.2 ⟨aqO,zc.2 ⟨aqP,zc.2 ⟨aqQ,zc.2 ⟨aqR,zc.2 ⟨aqS,zc.2 ⟨aqT,zc.2 ⟨aqU,zc.2 ⟨aqV,zc.2 ⟨aqW,zc.2 ⟨aqX,zc.2 ⟨aqY,fun p hp=>by cases hp⟩⟩⟩⟩⟩⟩⟩⟩⟩⟩⟩⟩⟩⟩⟩⟩⟩⟩⟩⟩⟩⟩⟩⟩⟩⟩⟩⟩⟩⟩⟩⟩⟩⟩⟩⟩⟩⟩⟩⟩⟩⟩⟩⟩⟩⟩⟩⟩⟩⟩⟩⟩⟩⟩⟩⟩⟩⟩⟩⟩⟩⟩⟩⟩⟩⟩⟩⟩⟩⟩⟩⟩⟩⟩⟩⟩⟩⟩⟩⟩⟩⟩⟩⟩⟩⟩⟩⟩⟩⟩⟩⟩⟩⟩⟩⟩⟩⟩⟩
theorem Kt:∀ {l:List (Nat×acf)} {f:Nat} {d:acf},l.lookup f=some d→(f,d)∈l
 |(k,v)::l,f,d,h=>by
  rw [List.lookup_cons] at h
  split at h
  ·rename_i e
   have e:f=k:=by simpa using e
   cases h;subst e;simp
  ·exact List.mem_cons_of_mem _ (Kt h)
theorem aq0:tY Tryz.prog env:=fun f d h=>by
 have:=aqZ _ (Kt h)
 cases d<;>exact this
end Go.Proofs.YtioijcfcehhmdaaGreatDoor
namespace Go.Proofs.YtioijcfcehhmdaaGreatDoor
open Go.RowKit
theorem abX:(Rows.laid_math_bits_deBruijn64tab:DataW Unit)=Lib.tabData .u8 (Lib.deBruijn64tab.map Zdr):=by kernel_rfl
theorem aq1:Tryz.prog.globalNamed "math/bits.deBruijn64tab"=some 0:=by kernel_rfl
theorem Ku {w:World} {l:List (String × DataW Unit)} (hl:l=[("math/bits.deBruijn64tab",Rows.laid_math_bits_deBruijn64tab)]) (h:laidMetH Tryz.prog l w):su w:=by
 subst hl
 rw [MakeChecks.laidMetH_plain _ _ _ (by kernel_rfl),abX] at h
 have ht:Lib.TabIs Tryz.prog w "math/bits.deBruijn64tab" .u8 (Lib.deBruijn64tab.map Zdr) :=
  Lib.tabIs_of_head (t:=204) (e:=5) (n:=64) aq1 (by kernel_rfl) (by kernel_rfl) (by kernel_rfl) (by kernel_rfl) (by kernel_rfl) h
 have hc:∀ i,i<64→w.cell? ⟨0,i,none⟩=some (.int .u8 ((Lib.deBruijn64tab.map Zdr).getD i 0)):=fun i hi=>ht.cell aq1 i (by simpa [Lib.deBruijn64tab] using hi)
 have hC:dD w 0:=Ie (hc 0 (by decide))
 intro p hp
 obtain rfl:p=_:=List.mem_singleton.1 hp
 refine .dM _ 0 _ 0 (fun i=>.int .u8 ((Lib.deBruijn64tab.map Zdr).getD i 0)) (if_pos hC.lt) hC (fun k x hk=>?_) (fun k x hk=>?_)
 ·have hk':=(Z6.1 hk).1
  rw [Nat.zero_add]
  exact ⟨hc k (by simpa [Lib.deBruijn64tab] using hk'),rfl⟩
 ·simp only [zb] at hk
  cases e:Lib.deBruijn64tab[k]? with
  |none=>rw [e] at hk;cases hk
  |some n =>
   rw [e] at hk;cases hk
   have:(Lib.deBruijn64tab.map Zdr).getD k 0=(n:Int):=by simp [List.getD_eq_getElem?_getD,e]
   rw [this]
   exact .int _ _
end Go.Proofs.YtioijcfcehhmdaaGreatDoor
namespace Go.Proofs.YtioijcfcehhmdaaGreatDoor.V
open Go.RowKit Go.ChangeShapes Go.WideShapes Go.ChangeAt
theorem Tryz.agV:ownKnob Tryz.prog.godebug=none:=by kernel_rfl
theorem Tryz.agW:laidOutB Tryz.prog=true:=by kernel_rfl
def okI (n:Int):Prop:=-9223372036854775808≤n∧n≤9223372036854775807
theorem Vs {q:PV}(h:SInt .i64 [q]):∃ n,okI n∧q=eI n:=by
 obtain ⟨n,h1,h2⟩:=h
 have h3:IntKind.i64.min=-9223372036854775808:=rfl
 have h4:IntKind.i64.max=9223372036854775807:=rfl
 simp only [Lit.wf,ZZ,decide_eq_true_eq] at h1
 cases h2
 exact ⟨n,⟨by omega,by omega⟩,rfl⟩
theorem ajT {q:PV}(h:SInt .u8 [q]):∃ b:UInt8,q=.int .u8 (b.toNat:Int):=by
 obtain ⟨n,h1,h2⟩:=h
 have h3:IntKind.u8.min=0:=rfl
 have h4:IntKind.u8.max=255:=rfl
 simp only [Lit.wf,ZZ,decide_eq_true_eq] at h1
 cases h2
 refine ⟨UInt8.ofNat n.toNat,?_⟩
 rw [UInt8.toNat_ofNat_of_lt' (show n.toNat<2 ^ 8 by omega)]
 congr 1;omega
def anH:List PV→Prop:=aot 8 (SInt .u8)
theorem atK {ps:List PV}(h:anH ps):∃ s:fE,ps=qh s:=by
 obtain ⟨h1,h2⟩:=h
 have:∀ l:List PV,(∀ p∈l,SInt .u8 [p])→∃ m:List UInt8,m.length=l.length∧l=m.map fun b=>.int .u8 (b.toNat:Int):=by
  intro l
  induction l with
  |nil=>exact fun _=>⟨[],rfl,rfl⟩
  |cons p l ih =>
   intro h
   obtain ⟨b,hb⟩:=ajT (h p (by simp))
   obtain ⟨m,e1,e2⟩:=ih fun q hq=>h q (by simp [hq])
   exact ⟨b::m,by simp [e1],by rw [hb,e2];rfl⟩
 obtain ⟨m,e1,e2⟩:=this ps h2
 refine ⟨⟨m.toArray,by simp [e1,h1]⟩,?_⟩
 subst e2
 simp [qh,Vector.toList]
theorem Zo {α:Type}{n:Nat}{S:List PV→Prop}{wr:List PV→PV}{enc:α→PV}{ok:α→Prop}(hS:∀ ps,S ps→∃ a,ok a∧wr ps=enc a){q:PV}(h:Ic n S wr [q]):∃ l:List α,(∀ a∈l,ok a)∧q=.list n (l.map enc):=by
 obtain ⟨es,h1,h2⟩:=h
 cases h1
 have:∀ es:List PV,(∀ x∈es,∃ q,S q∧x=wr q)→∃ l:List α,(∀ a∈l,ok a)∧es=l.map enc:=by
  intro es
  induction es with
  |nil=>exact fun _=>⟨[],by simp,rfl⟩
  |cons e es ih =>
   intro h
   obtain ⟨q,h3,h4⟩:=h e (by simp)
   obtain ⟨a,h5,h6⟩:=hS q h3
   obtain ⟨l,h7,h8⟩:=ih fun x hx=>h x (by simp [hx])
   exact ⟨a::l,by simp;exact ⟨h5,h7⟩,by rw [h4,h6,h8];rfl⟩
 obtain ⟨l,h3,h4⟩:=this es h2
 exact ⟨l,h3,by rw [h4]⟩
theorem Zp {n:Nat}{S:List PV→Prop}{wr:List PV→PV}{ps:List PV}(h:Ic n S wr ps):(wrS ps).cells=ps:=by
 obtain ⟨es,rfl,_⟩:=h;rfl
def Zq:List PV→Prop:=Ic 8 anH .agg
theorem akH {q:PV}(h:Zq [q]):∃ l:List fE,q=aX l:=by
 obtain ⟨l,_,e⟩:=Zo (enc:=je) (ok:=fun _=>True) (fun ps h=>by obtain ⟨s,rfl⟩:=atK h;exact ⟨s,trivial,rfl⟩) h
 exact ⟨l,e⟩
def anI:List PV→Prop:=Ic 1 Zq wrS
theorem atL {q:PV}(h:anI [q]):∃ l:fG,q=.list 1 (l.map aX):=by
 obtain ⟨l,_,e⟩:=Zo (enc:=aX) (ok:=fun _=>True) (fun ps h=>by
  obtain ⟨es,rfl,h2⟩:=h
  obtain ⟨l,e⟩:=akH (q:=.list 8 es) ⟨es,rfl,h2⟩
  exact ⟨l,trivial,e⟩) h
 exact ⟨l,e⟩
theorem Tryz.akI:jc Tryz.prog 3 1 (SInt .i64):=jc.int Tryz.underlying3 (by kernel_rfl)
theorem Tryz.atM:jc Tryz.prog 5 1 (SInt .u8):=jc.int Tryz.underlying5 (by kernel_rfl)
theorem Tryz.aq2:jc Tryz.prog 68 8 anH:=jc.arr Tryz.underlying68 Tryz.atM (by kernel_rfl)
theorem Tryz.agX:jc Tryz.prog 66 1 Zq:=jc.list Tryz.underlying66 (by kernel_rfl) Tryz.aq2 (by decide) (fun _ _ _=>rfl)
theorem Tryz.aq3:jc Tryz.prog 27 1 anI:=jc.list Tryz.underlying27 (by kernel_rfl) Tryz.agX (by decide) (fun _ h _=>Zp h)
theorem Zr {n:Int}(h:okI n):qR n=true:=by
 unfold okI at h
 simp only [qR,ZZ,decide_eq_true_eq];exact h
def SWr:List PV→Prop:=WH [SInt .i64,SInt .i64,Zq]
theorem swr {ps:List PV}(h:SWr ps):∃ x:fK,(qR x.volume=true∧qR x.start=true)∧PV.agg ps=jw x:=by
 obtain ⟨p,q,rfl,⟨n,h1,rfl⟩,p2,q2,rfl,⟨m,h2,rfl⟩,p3,q3,rfl,h3,rfl⟩:=h
 obtain ⟨a,o1,e1⟩:=Vs ⟨n,h1,rfl⟩
 obtain ⟨b,o2,e2⟩:=Vs ⟨m,h2,rfl⟩
 obtain ⟨es,rfl,h4⟩:=h3
 obtain ⟨l,e3⟩:=akH (q:=.list 8 es) ⟨es,rfl,h4⟩
 refine ⟨⟨a,b,l⟩,⟨Zr o1,Zr o2⟩,?_⟩
 rw [e1,e2,e3];rfl
def agY:List PV→Prop:=Ic 3 SWr .agg
theorem anJ {q:PV}(h:agY [q]):∃ l:List fK,okW l∧q=.list 3 (l.map jw) :=
 Zo (enc:=jw) (ok:=fun x=>qR x.volume=true∧qR x.start=true) (fun ps h=>swr h) h
theorem Tryz.atO:jc Tryz.prog 81 3 SWr:=jc.ahx Tryz.underlying81 Tryz.akI Tryz.akI Tryz.agX rfl rfl rfl (by kernel_rfl)
theorem Tryz.agZ:jc Tryz.prog 34 1 agY:=jc.list Tryz.underlying34 (by kernel_rfl) Tryz.atO (by decide) (fun _ _ _=>rfl)
end Go.Proofs.YtioijcfcehhmdaaGreatDoor.V
namespace Go.Proofs.YtioijcfcehhmdaaGreatDoor
open V
open Go.RowKit Go.ChangeShapes Go.WideShapes Go.ChangeAt
def ag0:List PV→Prop:=Ic 1 agY wrS
def aq4:List PV→Prop:=WH [anI,agY,agY,ag0]
theorem aq5 {q:PV}(h:ag0 [q]):∃ l:List (List fK),(∀ x∈l,okW x)∧q=.list 1 (l.map JK):=by
 obtain ⟨l,ho,e⟩:=Zo (enc:=JK) (ok:=okW) (fun ps h=>by
  obtain ⟨es,rfl,g⟩:=h
  obtain ⟨l,o,e⟩:=anJ (q:=.list 3 es) ⟨es,rfl,g⟩
  exact ⟨l,o,e⟩) h
 exact ⟨l,ho,e⟩
theorem atP {ps:List PV}(h:aq4 ps):∃ x:iT,okO x∧PV.agg ps=U7 x:=by
 obtain ⟨p,q,rfl,h1,p2,q2,rfl,h2,p3,q3,rfl,h3,p4,q4,rfl,h4,rfl⟩:=h
 obtain ⟨es1,rfl,g1⟩:=h1
 obtain ⟨es2,rfl,g2⟩:=h2
 obtain ⟨es3,rfl,g3⟩:=h3
 obtain ⟨es4,rfl,g4⟩:=h4
 obtain ⟨m,e1⟩:=atL (q:=.list 1 es1) ⟨es1,rfl,g1⟩
 obtain ⟨o,o2,e2⟩:=anJ (q:=.list 3 es2) ⟨es2,rfl,g2⟩
 obtain ⟨n,o3,e3⟩:=anJ (q:=.list 3 es3) ⟨es3,rfl,g3⟩
 obtain ⟨r,o4,e4⟩:=aq5 (q:=.list 1 es4) ⟨es4,rfl,g4⟩
 refine ⟨⟨m,o,n,r⟩,⟨o2,o3,o4⟩,?_⟩
 rw [e1,e2,e3,e4];rfl
theorem Tryz.anK:jc Tryz.prog 57 1 ag0:=jc.list Tryz.underlying57 (by kernel_rfl) Tryz.agZ (by decide) (fun _ h _=>Zp h)
theorem Tryz.aq6:jc Tryz.prog 59 4 aq4:=jc.ahy Tryz.underlying59 Tryz.aq3 Tryz.agZ Tryz.agZ Tryz.anK rfl rfl rfl rfl (by kernel_rfl)
theorem abY {P:Program}{H:Type}{enc:TypeId×Value→H}{w:World}{ok:Nat→Prop}{t e:TypeId}{fs:Array Field}{arr:Array Value}{d:DataW H}{p:List MemPlace}{f:Field}{k n:Nat}{ps es:List PV}
  (ht:P.underlying t=some (.struct fs)) (hf:fs[k]?=some f) (hu:P.underlying f.type=some (.slice e)) (hc1:P.cellsOf f.type=1)
  (h:DataW.Trod enc P w 0 (fun _=>true) true t (.agg arr) d p) (hr:aA ok w (.agg ps) (.agg arr)) (hp:ps[f.offset]?=some (.list n es))
  {ts:List TypeId} {ds:List (DataW H)} {j:Nat} (hts:ts[j]?=some t) (hds:ds[j]?=some d) (hS:(DataW.weightsEach P ts ds).all (·≤reachBytes)=true):es.length*P.bytesOf e≤reachBytes:=by
 obtain ⟨fuel,hf0⟩:=h
 obtain ⟨xs,m,_,hx,hl,hlen,hE⟩:=DataW.trod_struct ht hf0
 have hk:=hE k f hf
 rw [hc1] at hk
 have hd:d=.agg (xs.map (·.1)):=congrArg Prod.fst hx
 have hkl:k<xs.length:=by rw [hlen];exact (Array.getElem?_eq_some_iff.1 hf).1
 rw [ZS hkl] at hk
 have hcs:(Value.agg arr).cells.toList=arr.toList:=rfl
 rw [hcs] at hk
 cases hr with
 |agg _ _ h1 h2 h3 =>
  have ho:f.offset<arr.size:=by rw [h1];exact (Z6.1 hp).1
  have hv:arr[f.offset]?=some arr[f.offset]:=Array.getElem?_eq_getElem ho
  have hq:=h3 f.offset _ _ hp hv
  have hone:(arr.toList.drop f.offset).take 1=[arr[f.offset]]:=by
   rw [List.drop_eq_getElem_cons (by simpa using ho)]
   simp
  rw [hone] at hk
  generalize arr[f.offset]=u at *
  rcases DataW.trod_slice hu hk with ⟨h4,_⟩|⟨a,len,cap,elems,rest,n',_,h4,h5,_,_,_,hl2,_⟩
  ·cases h4
   cases hq with
   |nil=>simp
  ·cases h4
   cases hq with
   |nil=>simp
   |list _ _ b off c cv q1 q2 q3 q4 q5 q6 q7 =>
    have e1:(xs[k]).1=.slice (elems.map (·.1)) (rest.map (·.1)):=by rw [h5]
    have m1:(elems.length+rest.length)*P.bytesOf e∈(xs[k]).1.weights P f.type:=by rw [e1];simp [DataW.weights,hu]
    have m2:(elems.length+rest.length)*P.bytesOf e∈d.weights P t:=by
     rw [hd]
     simp only [DataW.weights,ht]
     exact DataW.weights_mem_each (j:=k) (t:=f.type) (d:=(xs[k]).1) (by rw [zb,Array.getElem?_toList,hf];rfl) (by rw [zb,ZS hkl];rfl) _ m1
    have m3:=DataW.weights_mem_each hts hds _ m2
    have m4:=List.all_eq_true.1 hS _ m3
    simp only [decide_eq_true_eq] at m4
    have:es.length*P.bytesOf e≤(elems.length+rest.length)*P.bytesOf e:=Nat.mul_le_mul_right _ (by omega)
    omega
theorem ajU {H:Type}{enc:TypeId×Value→H}{w:World}{ok:Nat→Prop}{x:iT}{v:Value}{d:DataW H}{p:List MemPlace}(r:aA ok w (U7 x) v)(h:DataW.Trod enc Tryz.prog w 0 (fun _=>true) true 59 v d p)
  {ts:List TypeId} {ds:List (DataW H)} (hts:ts[0]?=some 59) (hds:ds[0]?=some d) (hS:(DataW.weightsEach Tryz.prog ts ds).all (·≤reachBytes)=true):x.rs.length+2≤VD:=by
 rw [wQ] at r
 have hb:Tryz.prog.bytesOf 34=24:=by kernel_rfl
 obtain ⟨arr,rfl⟩:∃ arr,v=.agg arr:=by cases r;exact ⟨_,rfl⟩
 have:=abY (k:=3) (n:=1) (es:=x.rs.map JK) Tryz.underlying59 rfl Tryz.underlying57 (by kernel_rfl) h r rfl hts hds hS
 rw [hb,List.length_map] at this
 unfold reachBytes at this
 unfold VD
 omega
end Go.Proofs.YtioijcfcehhmdaaGreatDoor
