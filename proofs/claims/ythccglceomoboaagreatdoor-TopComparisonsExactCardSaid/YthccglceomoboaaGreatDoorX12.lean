/-
  Part 12 of the texts that the statement stands on.
-/
import Derived.Test.YthccglceomoboaaGreatDoorX11
import Derived.Test.YthccglceomoboaaGreatDoorRows
import Derived.Lib.LaidTab
import Derived.LaidByTextLater
import Derived.SizedLaws
set_option linter.all false
open List renaming getElem?_eq_getElem → ZD, length_map → Z3, forall_mem_cons → za, getElem?_eq_some_iff → zb, getElem?_map → zc, all_eq_true → zt, getD_eq_getElem?_getD → zR, mem_append → ZaE, mem_iff_getElem? → ZaM
open Bool renaming and_eq_true → ZZ
open Option renaming bind_eq_some_iff → ZaF
open Nat renaming eq_zero_or_pos → Za2, le_of_ble_eq_true → Zc8
open Int renaming ofNat → ZcV
namespace Go.Proofs.YthccglceomoboaaGreatDoor
def dV (P:Program)(f:Nat):ZV→Prop
 |.code fn=>bf P f fn=true
 |.ext g=>∀ args rs,g args=some rs→callable P f=true∧lq P f args rs
 |.Ie h=>callable P f=true∧KI P f h
 |.oL h=>(∀ args,h args=some none→callable P f=true∧lq P f args [])∧∀ args t n,h args=some (some (t,n))→callable P f=true∧VB P f args t n
 |.dfn _=>False
theorem ok6:dV Tryz.prog 6 (.code fn6):=(by kernel_rfl:bf Tryz.prog 6 fn6=true)
theorem ap4:dV Tryz.prog 22 (.code abP):=(by kernel_rfl:bf Tryz.prog 22 abP=true)
theorem ap5:dV Tryz.prog 24 (.code abQ):=(by kernel_rfl:bf Tryz.prog 24 abQ=true)
theorem ap6:dV Tryz.prog 25 (.code abR):=(by kernel_rfl:bf Tryz.prog 25 abR=true)
theorem ap7:dV Tryz.prog 26 (.code abS):=(by kernel_rfl:bf Tryz.prog 26 abS=true)
theorem ap8:dV Tryz.prog 27 (.code abT):=(by kernel_rfl:bf Tryz.prog 27 abT=true)
theorem ap9:dV Tryz.prog 28 (.code abU):=(by kernel_rfl:bf Tryz.prog 28 abU=true)
theorem aqa:dV Tryz.prog 30 (.code UO):=(by kernel_rfl:bf Tryz.prog 30 UO=true)
theorem aqb:dV Tryz.prog 31 (.code abV):=(by kernel_rfl:bf Tryz.prog 31 abV=true)
theorem ok32:dV Tryz.prog 32 (.code abW):=(by kernel_rfl:bf Tryz.prog 32 abW=true)
theorem aqc:dV Tryz.prog 39 (.ext uy):=Zz
theorem aqd:dV Tryz.prog 41 (.code abX):=(by kernel_rfl:bf Tryz.prog 41 abX=true)
theorem aqe:dV Tryz.prog 42 (.code abY):=(by kernel_rfl:bf Tryz.prog 42 abY=true)
theorem aqf:dV Tryz.prog 43 (.code UQ):=(by kernel_rfl:bf Tryz.prog 43 UQ=true)
theorem aqg:dV Tryz.prog 76 (.code abZ):=(by kernel_rfl:bf Tryz.prog 76 abZ=true)
theorem aqh:dV Tryz.prog 85 (.code ab1):=(by kernel_rfl:bf Tryz.prog 85 ab1=true)
theorem aqi:dV Tryz.prog 87 (.code ai3):=(by kernel_rfl:bf Tryz.prog 87 ai3=true)
theorem aqj:dV Tryz.prog 88 (.code ai4):=(by kernel_rfl:bf Tryz.prog 88 ai4=true)
theorem aqk:dV Tryz.prog 89 (.code ai5):=(by kernel_rfl:bf Tryz.prog 89 ai5=true)
theorem aql:dV Tryz.prog 90 (.code ai6):=(by kernel_rfl:bf Tryz.prog 90 ai6=true)
theorem aqm:dV Tryz.prog 91 (.code ab2):=(by kernel_rfl:bf Tryz.prog 91 ab2=true)
theorem aqn:dV Tryz.prog 92 (.code ab3):=(by kernel_rfl:bf Tryz.prog 92 ab3=true)
theorem aqo:dV Tryz.prog 93 (.code ab4):=(by kernel_rfl:bf Tryz.prog 93 ab4=true)
theorem aqp:dV Tryz.prog 94 (.code ab5):=(by kernel_rfl:bf Tryz.prog 94 ab5=true)
theorem aqr:dV Tryz.prog 95 (.code ab6):=(by kernel_rfl:bf Tryz.prog 95 ab6=true)
theorem aqs:dV Tryz.prog 96 (.code ab7):=(by kernel_rfl:bf Tryz.prog 96 ab7=true)
theorem aqt:dV Tryz.prog 97 (.code YT):=(by kernel_rfl:bf Tryz.prog 97 YT=true)
theorem aqu:dV Tryz.prog 98 (.code ab8):=(by kernel_rfl:bf Tryz.prog 98 ab8=true)
theorem aqv:dV Tryz.prog 99 (.code ab9):=(by kernel_rfl:bf Tryz.prog 99 ab9=true)
theorem anj:dV Tryz.prog 100 (.code O9):=(by kernel_rfl:bf Tryz.prog 100 O9=true)
theorem ank:dV Tryz.prog 101 (.code Pg):=(by kernel_rfl:bf Tryz.prog 101 Pg=true)
theorem anl:dV Tryz.prog 102 (.code Ph):=(by kernel_rfl:bf Tryz.prog 102 Ph=true)
theorem anm:dV Tryz.prog 103 (.code Pj):=(by kernel_rfl:bf Tryz.prog 103 Pj=true)
theorem ano:dV Tryz.prog 104 (.code Pm):=(by kernel_rfl:bf Tryz.prog 104 Pm=true)
theorem anp:dV Tryz.prog 105 (.code Pn):=(by kernel_rfl:bf Tryz.prog 105 Pn=true)
theorem anq:dV Tryz.prog 106 (.code EW):=(by kernel_rfl:bf Tryz.prog 106 EW=true)
theorem anr:dV Tryz.prog 107 (.ext (jA 1)):=Ry
theorem ant:dV Tryz.prog 108 (.code Po):=(by kernel_rfl:bf Tryz.prog 108 Po=true)
theorem anu:dV Tryz.prog 109 (.code Pq):=(by kernel_rfl:bf Tryz.prog 109 Pq=true)
theorem anv:dV Tryz.prog 116 (.code acf):=(by kernel_rfl:bf Tryz.prog 116 acf=true)
theorem anw:dV Tryz.prog 120 (.ext (jA 1)):=RD
theorem anx:dV Tryz.prog 128 (.code Pv):=(by kernel_rfl:bf Tryz.prog 128 Pv=true)
theorem anz:dV Tryz.prog 129 (.code JF):=(by kernel_rfl:bf Tryz.prog 129 JF=true)
theorem anA:dV Tryz.prog 130 (.code Px):=(by kernel_rfl:bf Tryz.prog 130 Px=true)
theorem anB:dV Tryz.prog 131 (.code JG):=(by kernel_rfl:bf Tryz.prog 131 JG=true)
theorem anC:dV Tryz.prog 132 (.code Py):=(by kernel_rfl:bf Tryz.prog 132 Py=true)
theorem anD:dV Tryz.prog 133 (.ext (jA 8)):=Rw
theorem anE:dV Tryz.prog 154 (.code aci):=(by kernel_rfl:bf Tryz.prog 154 aci=true)
theorem anF:dV Tryz.prog 161 (.code acj):=(by kernel_rfl:bf Tryz.prog 161 acj=true)
theorem anG:dV Tryz.prog 165 (.code Pz):=(by kernel_rfl:bf Tryz.prog 165 Pz=true)
theorem anH:dV Tryz.prog 166 (.code PD):=(by kernel_rfl:bf Tryz.prog 166 PD=true)
theorem anI:dV Tryz.prog 169 (.code acn):=(by kernel_rfl:bf Tryz.prog 169 acn=true)
theorem anJ:dV Tryz.prog 170 (.code aco):=(by kernel_rfl:bf Tryz.prog 170 aco=true)
theorem anK:dV Tryz.prog 172 (.code acp):=(by kernel_rfl:bf Tryz.prog 172 acp=true)
theorem anL:dV Tryz.prog 173 (.code acr):=(by kernel_rfl:bf Tryz.prog 173 acr=true)
theorem anM:dV Tryz.prog 174 (.code acv):=(by kernel_rfl:bf Tryz.prog 174 acv=true)
theorem anN:dV Tryz.prog 175 (.code acw):=(by kernel_rfl:bf Tryz.prog 175 acw=true)
theorem anO:dV Tryz.prog 176 (.code acy):=(by kernel_rfl:bf Tryz.prog 176 acy=true)
theorem anP:dV Tryz.prog 177 (.code acz):=(by kernel_rfl:bf Tryz.prog 177 acz=true)
theorem anQ:dV Tryz.prog 178 (.code acA):=(by kernel_rfl:bf Tryz.prog 178 acA=true)
theorem anR:dV Tryz.prog 179 (.code acB):=(by kernel_rfl:bf Tryz.prog 179 acB=true)
theorem anS:dV Tryz.prog 180 (.code PE):=(by kernel_rfl:bf Tryz.prog 180 PE=true)
theorem anT:dV Tryz.prog 181 (.code acE):=(by kernel_rfl:bf Tryz.prog 181 acE=true)
theorem anU:dV Tryz.prog 182 (.code acF):=(by kernel_rfl:bf Tryz.prog 182 acF=true)
theorem anV:dV Tryz.prog 183 (.code acG):=(by kernel_rfl:bf Tryz.prog 183 acG=true)
theorem anW:dV Tryz.prog 184 (.code PG):=(by kernel_rfl:bf Tryz.prog 184 PG=true)
theorem anX:dV Tryz.prog 185 (.code PL):=(by kernel_rfl:bf Tryz.prog 185 PL=true)
theorem anY:dV Tryz.prog 186 (.code PN):=(by kernel_rfl:bf Tryz.prog 186 PN=true)
theorem anZ:dV Tryz.prog 187 (.code PO):=(by kernel_rfl:bf Tryz.prog 187 PO=true)
theorem an0:dV Tryz.prog 188 (.code PS):=(by kernel_rfl:bf Tryz.prog 188 PS=true)
theorem an1:dV Tryz.prog 189 (.code PU):=(by kernel_rfl:bf Tryz.prog 189 PU=true)
theorem an2:dV Tryz.prog 190 (.code PW):=(by kernel_rfl:bf Tryz.prog 190 PW=true)
theorem an3:dV Tryz.prog 191 (.code PX):=(by kernel_rfl:bf Tryz.prog 191 PX=true)
theorem an4:dV Tryz.prog 192 (.code PY):=(by kernel_rfl:bf Tryz.prog 192 PY=true)
theorem an5:dV Tryz.prog 193 (.code JH):=(by kernel_rfl:bf Tryz.prog 193 JH=true)
theorem an6:dV Tryz.prog 194 (.code FK):=(by kernel_rfl:bf Tryz.prog 194 FK=true)
theorem an7:dV Tryz.prog 195 (.code PZ):=(by kernel_rfl:bf Tryz.prog 195 PZ=true)
theorem an8:dV Tryz.prog 196 (.code P5):=(by kernel_rfl:bf Tryz.prog 196 P5=true)
theorem an9:dV Tryz.prog 203 (.code P6):=(by kernel_rfl:bf Tryz.prog 203 P6=true)
theorem aoa:dV Tryz.prog 204 (.code P7):=(by kernel_rfl:bf Tryz.prog 204 P7=true)
theorem aob:dV Tryz.prog 205 (.code P9):=(by kernel_rfl:bf Tryz.prog 205 P9=true)
theorem aoc:dV Tryz.prog 206 (.code Qc):=(by kernel_rfl:bf Tryz.prog 206 Qc=true)
theorem aod:dV Tryz.prog 207 (.code Qd):=(by kernel_rfl:bf Tryz.prog 207 Qd=true)
theorem aoe:dV Tryz.prog 208 (.code Qe):=(by kernel_rfl:bf Tryz.prog 208 Qe=true)
theorem aof:dV Tryz.prog 209 (.code Qg):=(by kernel_rfl:bf Tryz.prog 209 Qg=true)
theorem aog:dV Tryz.prog 213 (.code Qh):=(by kernel_rfl:bf Tryz.prog 213 Qh=true)
theorem aoh:dV Tryz.prog 214 (.code Qi):=(by kernel_rfl:bf Tryz.prog 214 Qi=true)
theorem aoi:dV Tryz.prog 219 (.code acH):=(by kernel_rfl:bf Tryz.prog 219 acH=true)
theorem aoj:dV Tryz.prog 222 (.code acI):=(by kernel_rfl:bf Tryz.prog 222 acI=true)
theorem aok:dV Tryz.prog 223 (.code Qj):=(by kernel_rfl:bf Tryz.prog 223 Qj=true)
theorem aol:dV Tryz.prog 227 (.code Qk):=(by kernel_rfl:bf Tryz.prog 227 Qk=true)
theorem aom:dV Tryz.prog 228 (.code Ql):=(by kernel_rfl:bf Tryz.prog 228 Ql=true)
theorem aon:dV Tryz.prog 229 (.code Qm):=(by kernel_rfl:bf Tryz.prog 229 Qm=true)
theorem aoo:dV Tryz.prog 233 (.code acJ):=(by kernel_rfl:bf Tryz.prog 233 acJ=true)
theorem aop:dV Tryz.prog 234 (.code acM):=(by kernel_rfl:bf Tryz.prog 234 acM=true)
theorem aoq:dV Tryz.prog 235 (.code acN):=(by kernel_rfl:bf Tryz.prog 235 acN=true)
theorem aor:dV Tryz.prog 236 (.code acQ):=(by kernel_rfl:bf Tryz.prog 236 acQ=true)
theorem aos:dV Tryz.prog 237 (.code acR):=(by kernel_rfl:bf Tryz.prog 237 acR=true)
theorem aot:dV Tryz.prog 238 (.code acU):=(by kernel_rfl:bf Tryz.prog 238 acU=true)
theorem aou:dV Tryz.prog 239 (.code acV):=(by kernel_rfl:bf Tryz.prog 239 acV=true)
theorem aov:dV Tryz.prog 240 (.code acW):=(by kernel_rfl:bf Tryz.prog 240 acW=true)
theorem aow:dV Tryz.prog 241 (.code acZ):=(by kernel_rfl:bf Tryz.prog 241 acZ=true)
theorem aox:dV Tryz.prog 242 (.code ac0):=(by kernel_rfl:bf Tryz.prog 242 ac0=true)
theorem aoy:dV Tryz.prog 243 (.code Qn):=(by kernel_rfl:bf Tryz.prog 243 Qn=true)
theorem aoz:dV Tryz.prog 244 (.code ac3):=(by kernel_rfl:bf Tryz.prog 244 ac3=true)
theorem aoA:dV Tryz.prog 245 (.ext (jA 1)):=RG
theorem aoB:dV Tryz.prog 246 (.code ac6):=(by kernel_rfl:bf Tryz.prog 246 ac6=true)
theorem aoC:dV Tryz.prog 247 (.code ac7):=(by kernel_rfl:bf Tryz.prog 247 ac7=true)
theorem aoD:dV Tryz.prog 248 (.code Qo):=(by kernel_rfl:bf Tryz.prog 248 Qo=true)
theorem aoE:dV Tryz.prog 249 (.code Qp):=(by kernel_rfl:bf Tryz.prog 249 Qp=true)
theorem aoF:dV Tryz.prog 250 (.code Qq):=(by kernel_rfl:bf Tryz.prog 250 Qq=true)
theorem aoG:dV Tryz.prog 251 (.code Qr):=(by kernel_rfl:bf Tryz.prog 251 Qr=true)
theorem aoH:dV Tryz.prog 252 (.code Qs):=(by kernel_rfl:bf Tryz.prog 252 Qs=true)
theorem aoI:dV Tryz.prog 255 (.code Qw):=(by kernel_rfl:bf Tryz.prog 255 Qw=true)
theorem aoJ:dV Tryz.prog 256 (.code Qx):=(by kernel_rfl:bf Tryz.prog 256 Qx=true)
theorem aoK:dV Tryz.prog 257 (.code Qy):=(by kernel_rfl:bf Tryz.prog 257 Qy=true)
theorem aoL:dV Tryz.prog 262 (.code ade):=(by kernel_rfl:bf Tryz.prog 262 ade=true)
theorem aoM:dV Tryz.prog 263 (.code adf):=(by kernel_rfl:bf Tryz.prog 263 adf=true)
theorem aoN:dV Tryz.prog 264 (.ext tzX):=amr
theorem aoO:dV Tryz.prog 266 (.code Qz):=(by kernel_rfl:bf Tryz.prog 266 Qz=true)
theorem aoP:dV Tryz.prog 267 (.code adg):=(by kernel_rfl:bf Tryz.prog 267 adg=true)
theorem aoQ:dV Tryz.prog 268 (.code adh):=(by kernel_rfl:bf Tryz.prog 268 adh=true)
theorem aoR:dV Tryz.prog 269 (.code adi):=(by kernel_rfl:bf Tryz.prog 269 adi=true)
theorem aoS:dV Tryz.prog 270 (.code QA):=(by kernel_rfl:bf Tryz.prog 270 QA=true)
theorem aoT:dV Tryz.prog 271 (.code QB):=(by kernel_rfl:bf Tryz.prog 271 QB=true)
theorem aoU:dV Tryz.prog 273 (.code CG):=(by kernel_rfl:bf Tryz.prog 273 CG=true)
theorem aoV:dV Tryz.prog 274 (.Ie (lS 275)):=QU
theorem aoW:dV Tryz.prog 275 (.code adk):=(by kernel_rfl:bf Tryz.prog 275 adk=true)
theorem aoX:dV Tryz.prog 276 (.code adl):=(by kernel_rfl:bf Tryz.prog 276 adl=true)
theorem aoY:dV Tryz.prog 281 (.code adn):=(by kernel_rfl:bf Tryz.prog 281 adn=true)
set_option maxRecDepth 20000 in
theorem aoZ:∀ p∈tab,dV Tryz.prog p.1 p.2:=by
 unfold tab
 exact za.2 ⟨ok6,za.2 ⟨ap4,za.2 ⟨ap5,za.2 ⟨ap6,za.2 ⟨ap7,za.2 ⟨ap8,za.2 ⟨ap9,za.2 ⟨aqa,za.2 ⟨aqb,za.2 ⟨ok32,za.2 ⟨aqc,za.2 ⟨aqd,za.2 ⟨aqe,za.2 ⟨aqf,za.2 ⟨aqg,za.2 ⟨aqh,za.2 ⟨aqi,za.2 ⟨aqj,za.2 ⟨aqk,za.2 ⟨aql,za.2 ⟨aqm,za.2 ⟨aqn,za.2 ⟨aqo,za.2 ⟨aqp,za.2 ⟨aqr,za.2 ⟨aqs,za.2 ⟨aqt,za.2 ⟨aqu,za.2 ⟨aqv,za.2 ⟨anj,za.2 ⟨ank,za.2 ⟨anl,za.2 ⟨anm,za.2 ⟨ano,za.2 ⟨anp,za.2 ⟨anq,za.2 ⟨anr,za.2 ⟨ant,za.2 ⟨anu,za.2 ⟨anv,za.2 ⟨anw,za.2 ⟨anx,za.2 ⟨anz,za.2 ⟨anA,za.2 ⟨anB,za.2 ⟨anC,za.2 ⟨anD,za.2 ⟨anE,za.2 ⟨anF,za.2 ⟨anG,za.2 ⟨anH,za.2 ⟨anI,za.2 ⟨anJ,za.2 ⟨anK,za.2 ⟨anL,za.2 ⟨anM,za.2 ⟨anN,za.2 ⟨anO,za.2 ⟨anP,za.2 ⟨anQ,za.2 ⟨anR,za.2 ⟨anS,za.2 ⟨anT,za.2 ⟨anU,za.2 ⟨anV,za.2 ⟨anW,za.2 ⟨anX,za.2 ⟨anY,za.2 ⟨anZ,za.2 ⟨an0,za.2 ⟨an1,za.2 ⟨an2,za.2 ⟨an3,za.2 ⟨an4,za.2 ⟨an5,za.2 ⟨an6,za.2 ⟨an7,za.2 ⟨an8,za.2 ⟨an9,za.2 ⟨aoa,za.2 ⟨aob,za.2 ⟨aoc,za.2 ⟨aod,za.2 ⟨aoe,za.2 ⟨aof,za.2 ⟨aog,za.2 ⟨aoh,za.2 ⟨aoi,za.2 ⟨aoj,za.2 ⟨aok,za.2 ⟨aol,za.2 ⟨aom,za.2 ⟨aon,za.2 ⟨aoo,za.2 ⟨aop,za.2 ⟨aoq,za.2 ⟨aor,za.2 ⟨aos,za.2 ⟨aot,za.2 ⟨aou,za.2 ⟨aov,za.2 ⟨aow,za.2 ⟨aox,za.2 ⟨aoy,za.2 ⟨aoz,za.2 ⟨aoA,za.2 ⟨aoB,za.2 ⟨aoC,za.2 ⟨aoD,za.2 ⟨aoE,za.2 ⟨aoF,za.2 ⟨aoG,za.2 ⟨aoH,za.2 ⟨aoI,za.2 ⟨aoJ,za.2 ⟨aoK,za.2 ⟨aoL,za.2 ⟨aoM,za.2 ⟨aoN,za.2 ⟨aoO,za.2 ⟨aoP,za.2 ⟨aoQ,za.2 ⟨aoR,za.2 ⟨aoS,za.2 ⟨aoT,za.2 ⟨aoU,za.2 ⟨aoV,za.2 ⟨aoW,za.2 ⟨aoX,za.2 ⟨aoY,fun p hp=>by cases hp⟩⟩⟩⟩⟩⟩⟩⟩⟩⟩⟩⟩⟩⟩⟩⟩⟩⟩⟩⟩⟩⟩⟩⟩⟩⟩⟩⟩⟩⟩⟩⟩⟩⟩⟩⟩⟩⟩⟩⟩⟩⟩⟩⟩⟩⟩⟩⟩⟩⟩⟩⟩⟩⟩⟩⟩⟩⟩⟩⟩⟩⟩⟩⟩⟩⟩⟩⟩⟩⟩⟩⟩⟩⟩⟩⟩⟩⟩⟩⟩⟩⟩⟩⟩⟩⟩⟩⟩⟩⟩⟩⟩⟩⟩⟩⟩⟩⟩⟩⟩⟩⟩⟩⟩⟩⟩⟩⟩⟩⟩⟩⟩⟩⟩⟩⟩⟩⟩⟩⟩⟩⟩⟩⟩⟩⟩⟩⟩⟩⟩
theorem H9:∀ {l:List (Nat×ZV)} {f:Nat} {d:ZV},l.lookup f=some d→(f,d)∈l
 |(k,v)::l,f,d,h=>by
  rw [List.lookup_cons] at h
  split at h
  ·rename_i e
   have e:f=k:=by simpa using e
   cases h;subst e;simp
  ·exact List.mem_cons_of_mem _ (H9 h)
theorem ao0:Ci Tryz.prog env:=fun f d h=>by
 have:=aoZ _ (H9 h)
 cases d<;>exact this
end Go.Proofs.YthccglceomoboaaGreatDoor
namespace Go.Proofs.YthccglceomoboaaGreatDoor
open Go.RowKit
theorem ZK:(Rows.laid_math_bits_deBruijn64tab:DataW Unit)=Lib.tabData .u8 (Lib.deBruijn64tab.map ZcV):=by kernel_rfl
theorem ao1:Tryz.prog.globalNamed "math/bits.deBruijn64tab"=some 0:=by kernel_rfl
theorem Ia {w:World} {l:List (String × DataW Unit)} (hl:l=[("math/bits.deBruijn64tab",Rows.laid_math_bits_deBruijn64tab)]) (h:laidMetH Tryz.prog l w):Lp w:=by
 subst hl
 rw [MakeChecks.laidMetH_plain _ _ _ (by kernel_rfl),ZK] at h
 have ht:Lib.TabIs Tryz.prog w "math/bits.deBruijn64tab" .u8 (Lib.deBruijn64tab.map ZcV) :=
  Lib.tabIs_of_head (t:=380) (e:=5) (n:=64) ao1 (by kernel_rfl) (by kernel_rfl) (by kernel_rfl) (by kernel_rfl) (by kernel_rfl) h
 have hc:∀ i,i<64→w.cell? ⟨0,i,none⟩=some (.int .u8 ((Lib.deBruijn64tab.map ZcV).getD i 0)):=fun i hi=>ht.cell ao1 i (by simpa [Lib.deBruijn64tab] using hi)
 have hC:bZ w 0:=yD (hc 0 (by decide))
 intro p hp
 obtain rfl:p=_:=List.mem_singleton.1 hp
 refine .cu _ 0 _ 0 (fun i=>.int .u8 ((Lib.deBruijn64tab.map ZcV).getD i 0)) (if_pos hC.lt) hC (fun k x hk=>?_) (fun k x hk=>?_)
 ·have hk':=(zb.1 hk).1
  rw [Nat.zero_add]
  exact ⟨hc k (by simpa [Lib.deBruijn64tab] using hk'),rfl⟩
 ·simp only [zc] at hk
  cases e:Lib.deBruijn64tab[k]? with
  |none=>rw [e] at hk;cases hk
  |some n =>
   rw [e] at hk;cases hk
   have:(Lib.deBruijn64tab.map ZcV).getD k 0=(n:Int):=by simp [zR,e]
   rw [this]
   exact .int _ _
end Go.Proofs.YthccglceomoboaaGreatDoor
namespace Go.Proofs.YthccglceomoboaaGreatDoor.V
open Go.RowKit Go.ChangeShapes Go.WideShapes Go.ChangeAt
theorem Tryz.aeX:ownKnob Tryz.prog.godebug=none:=by kernel_rfl
theorem Tryz.Ib:laidOutB Tryz.prog=true:=by kernel_rfl
theorem Xd {q:PV}(h:SInt .u8 [q]):∃ b:UInt8,q=.int .u8 (b.toNat:Int):=by
 obtain ⟨n,h1,h2⟩:=h
 have h3:IntKind.u8.min=0:=rfl
 have h4:IntKind.u8.max=255:=rfl
 simp only [Lit.wf,ZZ,decide_eq_true_eq] at h1
 cases h2
 refine ⟨UInt8.ofNat n.toNat,?_⟩
 rw [UInt8.toNat_ofNat_of_lt' (show n.toNat<2 ^ 8 by omega)]
 congr 1;omega
def alz:List PV→Prop:=ai2 8 (SInt .u8)
theorem aqw {ps:List PV}(h:alz ps):∃ s:cZ,ps=je s:=by
 obtain ⟨h1,h2⟩:=h
 have:∀ l:List PV,(∀ p∈l,SInt .u8 [p])→∃ m:List UInt8,m.length=l.length∧l=m.map fun b=>.int .u8 (b.toNat:Int):=by
  intro l
  induction l with
  |nil=>exact fun _=>⟨[],rfl,rfl⟩
  |cons p l ih =>
   intro h
   obtain ⟨b,hb⟩:=Xd (h p (by simp))
   obtain ⟨m,e1,e2⟩:=ih fun q hq=>h q (by simp [hq])
   exact ⟨b::m,by simp [e1],by rw [hb,e2];rfl⟩
 obtain ⟨m,e1,e2⟩:=this ps h2
 refine ⟨⟨m.toArray,by simp [e1,h1]⟩,?_⟩
 subst e2
 simp [je,Vector.toList]
theorem aie {α:Type}{n:Nat}{S:List PV→Prop}{wr:List PV→PV}{enc:α→PV}{ok:α→Prop}(hS:∀ ps,S ps→∃ a,ok a∧wr ps=enc a){q:PV}(h:abO n S wr [q]):∃ l:List α,(∀ a∈l,ok a)∧q=.list n (l.map enc):=by
 obtain ⟨es,h1,h2⟩:=h
 cases h1
 have:∀ es:List PV,(∀ x∈es,∃ q,S q∧x=wr q)→∃ l:List α,(∀ a∈l,ok a)∧es=l.map enc:=by
  intro es
  induction es with
  |nil=>exact fun _=>⟨[],by simp,rfl⟩
  |cons e es ih =>
   intro h
   obtain ⟨q,h3,h4⟩:=h e (by simp)
   obtain ⟨a,h5,h6⟩:=hS q h3
   obtain ⟨l,h7,h8⟩:=ih fun x hx=>h x (by simp [hx])
   exact ⟨a::l,by simp;exact ⟨h5,h7⟩,by rw [h4,h6,h8];rfl⟩
 obtain ⟨l,h3,h4⟩:=this es h2
 exact ⟨l,h3,by rw [h4]⟩
def aeY:List PV→Prop:=abO 8 alz .agg
theorem aif {q:PV}(h:aeY [q]):∃ l:List cZ,q=eP l:=by
 obtain ⟨l,_,e⟩:=aie (enc:=bH) (ok:=fun _=>True) (fun ps h=>by obtain ⟨s,rfl⟩:=aqw h;exact ⟨s,trivial,rfl⟩) h
 exact ⟨l,e⟩
theorem Tryz.aii:lF Tryz.prog 3 1 (SInt .i64):=lF.int Tryz.underlying3 (by kernel_rfl)
theorem Tryz.ao2:lF Tryz.prog 5 1 (SInt .u8):=lF.int Tryz.underlying5 (by kernel_rfl)
theorem Tryz.aij:lF Tryz.prog 129 8 alz:=lF.arr Tryz.underlying129 Tryz.ao2 (by kernel_rfl)
theorem Tryz.alA:lF Tryz.prog 71 1 aeY:=lF.list Tryz.underlying71 (by kernel_rfl) Tryz.aij (by decide) (fun _ _ _=>rfl)
end Go.Proofs.YthccglceomoboaaGreatDoor.V
namespace Go.Proofs.YthccglceomoboaaGreatDoor
open Go.RowKit Go.WideShapes
def qI (P:Program)(t:TypeId)(n:Nat)(S:List PV→Prop):Prop :=
 P.cellsOf t=n∧∀ {H:Type} {enc:TypeId×Value→H} {w:World} {fuel:Nat} {cs:List Value} {x:DataW H×List MemPlace},DataW.trod enc P w 0 (fun _=>true) true fuel t cs=some x→(x.1.weights P t).all (·≤reachBytes)=true→∃ ps,S ps∧ps.length=n∧Ba w cs ps
def Vo (n:Nat)(S:List PV→Prop)(wr:List PV→PV)(ps:List PV):Prop:=∃ es,ps=[.list n es]∧es.length≤140737488351232∧∀ x∈es,∃ q,S q∧x=wr q
section
variable {P:Program}{t e:TypeId}{n m:Nat}{S:List PV→Prop}{k:IntKind}
theorem qI.of (h:lF P t n S):qI P t n S:=⟨h.1,fun h1 _=>h.2 h1⟩
theorem uV {H:Type}:∀ {ds:List (DataW H)} {i:Nat} (h:i<ds.length) {y:Nat},y∈ds[i].weights P e→y∈DataW.weightsAll P e ds
 |d::ds,0,_,y,hy=>by
  simp only [DataW.weightsAll,ZaE]
  exact .inl hy
 |d::ds,i+1,h,y,hy=>by
  simp only [DataW.weightsAll,ZaE]
  exact .inr (uV (ds:=ds) (i:=i) (by simpa using h) (by simpa using hy))
 |[],_,h,_,_=>by simp at h
theorem qI.list {wr:List PV→PV}(ht:P.underlying t=some (.slice e))(hc:P.cellsOf t=1)(hr:qI P e n S)(hb:1≤P.bytesOf e)(hpos:0<n)(hw:∀ ps,S ps→ps.length=n→(wr ps).cells=ps):qI P t 1 (Vo n S wr):=⟨hc,fun {H enc w fuel cs x} h hz=>by
 rcases DataW.trod_slice ht h with ⟨rfl,_⟩|⟨a,len,cap,elems,rest,m,_,rfl,rfl,_,hl,hm,hel,hE,hR,_⟩
 ·exact ⟨[.list n []],⟨[],rfl,Nat.zero_le _,fun x hx=>by cases hx⟩,rfl,sK rfl (.nil n none)⟩
 ·have hz1:elems.length≤140737488351232:=by
   have:=zt.1 hz ((elems.length+rest.length)*P.bytesOf e) (by simp [DataW.weights,ht])
   have h3:(elems.length+rest.length)*P.bytesOf e≤140737488351232:=by
    have h:=of_decide_eq_true this
    simpa [reachBytes] using h
   have h4:(elems.length+rest.length)*1≤(elems.length+rest.length)*P.bytesOf e:=Nat.mul_le_mul_left _ hb
   omega
  have hz2:∀ (i:Nat) (h:i<elems.length),(elems[i].1.weights P e).all (·≤reachBytes)=true:=fun i hi=>by
   rw [zt]
   intro y hy
   refine zt.1 hz y ?_
   simp only [DataW.weights,ht,List.mem_cons,ZaE]
   exact .inr (.inl (uV (i:=i) (by simpa using hi) (by simpa using hy)))
  obtain ⟨l,h1,h2⟩:=xg (p:=fun i (y:List Value×List PV)=>w.cells? 0 (a.add (i*n)) n=some y.1∧S y.2∧y.2.length=n∧Ba w y.1 y.2) len fun i hi=>by
   have:=hE i hi
   rw [ZD (by omega),hr.1,ZaF] at this
   obtain ⟨c,h3,h4⟩:=this
   obtain ⟨ps,g1,g2,g3⟩:=hr.2 h4 (hz2 i (by omega))
   exact ⟨(c,ps),h3,g1,g2,g3⟩
  refine ⟨[.list n (l.map fun y=>wr y.2)],⟨_,rfl,by rw [Z3,h1];omega,fun x hx=>?_⟩,rfl,sK rfl ?_⟩
  ·obtain ⟨y,hy,rfl⟩:=List.mem_map.1 hx
   obtain ⟨i,hi⟩:=ZaM.1 hy
   exact ⟨y.2,(h2 i y hi).2.1,rfl⟩
  ·by_cases hcap:cap=0
   ·have:len=0:=by omega
    subst hcap;subst this
    have:l=[]:=List.eq_nil_of_length_eq_zero h1
    subst this
    exact .nil n (some a)
   ·-- there are cells
    have hcell:∃ off v,w.cell? ⟨a.block,off,none⟩=some v∧a.spot=none:=by
     have O8:∀ (i:Nat) (c:List Value),w.cells? 0 (a.add (i*n)) n=some c→∃ off v,w.cell? ⟨a.block,off,none⟩=some v∧a.spot=none:=fun i c h3=>by
      obtain ⟨_,hc0,h4⟩:=World.cells?_some h3
      have h5:=h4 0 hpos
      rw [ZD (by omega)] at h5
      have hs:(a.add (i*n)).spot=none:=by simpa [Addr.add] using World.cell?_spot h5
      have hs0:a.spot=none:=by
       unfold Addr.add at hs
       split at hs
       ·exact hs
       ·rename_i hne
        by_cases h0:i*n=0
        ·rename_i q;exact absurd h0 (by simpa using hne)
        ·rcases Za2 i with hi0|hi0
         ·subst hi0;simp at h0
         ·-- the row begins at a: its first cell
          have:0<len∨len=0:=by omega
          rcases this with hlen|hlen
          ·obtain ⟨y,hy⟩:∃ y,l[0]?=some y:=⟨l[0],ZD (by omega)⟩
           obtain ⟨_,hc1,h6⟩:=World.cells?_some (h2 0 y hy).1
           have h7:=h6 0 hpos
           rw [ZD (by omega)] at h7
           simpa [Addr.add] using World.cell?_spot h7
          ·have hrl:0<rest.length:=by have:=(hR rfl).1;omega
           have:=(hR rfl).2 0 (by omega)
           have h8:rest[0]?=some rest[0]:=ZD hrl
           rw [h8,hr.1,hlen,ZaF] at this
           obtain ⟨c1,h9,_⟩:=this
           obtain ⟨_,hc1,h6⟩:=World.cells?_some h9
           have h7:=h6 0 hpos
           rw [ZD (by omega)] at h7
           simpa [Addr.add] using World.cell?_spot h7
      obtain ⟨b,off,spot⟩:=a
      simp only at hs0
      subst hs0
      rw [Addr.add_lit,Addr.add_lit] at h5
      exact ⟨_,_,h5,rfl⟩
     rcases Za2 len with hlen|hlen
     ·have hrl:0<rest.length:=by have:=(hR rfl).1;omega
      have:=(hR rfl).2 0 (by omega)
      have h8:rest[0]?=some rest[0]:=ZD hrl
      rw [h8,hr.1,ZaF] at this
      obtain ⟨c1,h9,_⟩:=this
      exact O8 _ c1 h9
     ·obtain ⟨y,hy⟩:∃ y,l[0]?=some y:=⟨l[0],ZD (by omega)⟩
      exact O8 0 _ (h2 0 y hy).1
    obtain ⟨apS,v0,hv0,hspot⟩:=hcell
    obtain ⟨b,off,spot⟩:=a
    simp only at hspot hv0
    subst hspot
    have hC:bZ w b:=yD hv0
    have hget:∀ (i:Nat) x,(l.map fun y=>wr y.2)[i]?=some x→∃ y,l[i]?=some y∧x=wr y.2:=fun i x hx=>by
     rw [zc] at hx
     cases e:l[i]? with
     |none=>rw [e] at hx;cases hx
     |some y=>rw [e] at hx;exact ⟨y,rfl,(Option.some.inj hx).symm⟩
    have hlen:(l.map fun y=>wr y.2).length=len:=by simp [h1]
    have:=aG.list (ok:=fun b=>b<w.heap.size) (w:=w) n (l.map fun y=>wr y.2) b off cap (fun i j=>(((l[i]?).map (·.1)).getD []).getD j default) hC.lt hC (by rw [hlen];exact hl) hm
     (fun x hx=>by
      obtain ⟨i,hi⟩:=ZaM.1 hx
      obtain ⟨y,hy,rfl⟩:=hget i x hi
      obtain ⟨_,g1,g2,_⟩:=h2 i y hy
      rw [hw _ g1 g2,g2])
     (fun i x j p hi hj=>by
      obtain ⟨y,hy,rfl⟩:=hget i x hi
      obtain ⟨g0,g1,g2,g3,g4,g5⟩:=h2 i y hy
      rw [hw _ g1 g2] at hj
      have hjn:j<n:=by have:=(zb.1 hj).1;omega
      obtain ⟨_,hc1,h6⟩:=World.cells?_some g0
      have h7:=h6 j hjn
      have hcj:y.1[j]?=some y.1[j]:=ZD (by omega)
      have hd:(((l[i]?).map (·.1)).getD []).getD j default=y.1[j]:=by
       rw [hy];simp [zR,hcj]
      rw [hd]
      rw [hcj,Addr.add_lit,Addr.add_lit] at h7
      exact ⟨h7,g4 _ (List.mem_of_getElem? hcj)⟩)
     (fun i x j p hi hj=>by
      obtain ⟨y,hy,rfl⟩:=hget i x hi
      obtain ⟨g0,g1,g2,g3,g4,g5⟩:=h2 i y hy
      rw [hw _ g1 g2] at hj
      have hjn:j<n:=by have:=(zb.1 hj).1;omega
      have hcj:y.1[j]?=some y.1[j]:=ZD (by omega)
      have hd:(((l[i]?).map (·.1)).getD []).getD j default=y.1[j]:=by
       rw [hy];simp [zR,hcj]
      rw [hd]
      exact g5 j p _ hj hcj)
    rw [hlen] at this
    exact this⟩
inductive Ic (P:Program):Nat→List Field→List (List PV→Prop)→Nat→Prop
 |nil (o:Nat):Ic P o [] [] 0
 |cons {o n m:Nat} {f:Field} {fs:List Field} {S:List PV→Prop} {Ss:List (List PV→Prop)}:f.offset=o→qI P f.type n S→Ic P (o+n) fs Ss m→Ic P o (f::fs) (S::Ss) (n+m)
theorem Ic.read {o:Nat}{fs:List Field}{Ss:List (List PV→Prop)}(h:Ic P o fs Ss m){H:Type}{enc:TypeId×Value→H}{w:World}{fuel:Nat}{cs:List Value}{xs:List (DataW H×List MemPlace)}(hl:cs.length=o+m)
  (hx:∀ (i:Nat) (f:Field),fs[i]?=some f→∃ x,DataW.trod enc P w 0 (fun _=>true) true fuel f.type ((cs.drop f.offset).take (P.cellsOf f.type))=some x∧(x.1.weights P f.type).all (·≤reachBytes)=true):∃ ps,O7 Ss ps∧ps.length=m∧Ba w (cs.drop o) ps:=by
 induction h with
 |nil o=>exact ⟨[],rfl,rfl,by rw [List.drop_of_length_le (by omega)];exact (⟨rfl,fun c hc=>(by cases hc),fun j x v hx=>(by simp at hx)⟩:Ba w [] [])⟩
 |@cons o n m f fs S Ss h1 h2 h3 ih =>
  obtain ⟨x,h4,h5⟩:=hx 0 f rfl
  rw [h2.1,h1] at h4
  obtain ⟨p,g1,g2,g3⟩:=h2.2 h4 h5
  obtain ⟨q,k1,k2,k3⟩:=ih (by omega) (fun i f hf=>hx (i+1) f hf)
  refine ⟨p++q,⟨p,q,rfl,g1,k1⟩,by simp [g2,k2],?_⟩
  have:cs.drop o=(cs.drop o).take n++cs.drop (o+n):=by rw [← List.drop_drop,List.take_append_drop]
  rw [this]
  exact g3.append k3
theorem qI.struct {fs:Array Field}{Ss:List (List PV→Prop)}(ht:P.underlying t=some (.struct fs))(hf:Ic P 0 fs.toList Ss n)(hc:P.cellsOf t=n):qI P t n (O7 Ss):=⟨hc,fun {H enc w fuel cs x} h hz=>by
 obtain ⟨xs,m,_,rfl,hl,hx,hE⟩:=DataW.trod_struct ht h
 obtain ⟨ps,h1,h2,h3⟩:=hf.read (xs:=xs) (enc:=enc) (w:=w) (fuel:=m) (cs:=cs) (by omega) (fun i f hi=>by
  have hi':fs[i]?=some f:=by simpa using hi
  have:=hE i f hi'
  have hil:i<xs.length:=by rw [hx];exact (Array.getElem?_eq_some_iff.1 hi').1
  refine ⟨xs[i],by rw [this,ZD hil],?_⟩
  rw [zt]
  intro y hy
  refine zt.1 hz y ?_
  simp only [DataW.weights,ht]
  exact DataW.weights_mem_each (j:=i) (t:=f.type) (d:=xs[i].1) (by simp [hi']) (by simp [zc,ZD hil]) y hy)
 exact ⟨ps,h1,h2,by simpa using h3⟩⟩
theorem qI.VN {f0 f1 f2:Field}{n0 n1 n2:Nat}{S0 S1 S2:List PV→Prop}(ht:P.underlying t=some (.struct #[f0,f1,f2]))(h0:qI P f0.type n0 S0)(h1:qI P f1.type n1 S1)(h2:qI P f2.type n2 S2)(o0:f0.offset=0)(o1:f1.offset=0+n0)(o2:f2.offset=0+n0+n1)(hc:P.cellsOf t=n0+(n1+(n2+0))):qI P t (n0+(n1+(n2+0))) (O7 [S0,S1,S2]) :=
 qI.struct ht (show Ic P 0 [f0,f1,f2] [S0,S1,S2] (n0+(n1+(n2+0))) from .cons o0 h0 (.cons o1 h1 (.cons o2 h2 (.nil _)))) hc
theorem aeZ {H:Type}{enc:TypeId×Value→H}{w:World}{v:Value}{d:DataW H}{p:List MemPlace}(hr:qI P t 1 S)(hone:v.cells.toList=[v])(h:DataW.Trod enc P w 0 (fun _=>true) true t v d p)(hz:(d.weights P t).all (·≤reachBytes)=true) :
  ∃ q,S [q]∧aG (fun b=>b<w.heap.size) w q v:=by
 obtain ⟨fuel,hf⟩:=h
 obtain ⟨ps,h1,h2,h3,h4,h5⟩:=hr.2 hf hz
 match ps,h2 with
 |[q],_=>exact ⟨q,h1,h5 0 q v rfl (by rw [hone];rfl)⟩
theorem Vp {H:Type}{enc:TypeId×Value→H}{w:World}{v:Value}{d:DataW H}{p:List MemPlace}{m:Reach}{base:Nat}(ht:P.underlying t=some (.slice e))(hr:qI P t 1 S)(hv:Value.okWide P w m base t v)(h:DataW.Trod enc P w 0 (fun _=>true) true t v d p)(hz:(d.weights P t).all (·≤reachBytes)=true) :
  ∃ q,S [q]∧aG (fun b=>b<w.heap.size) w q v:=by
 obtain ⟨a,l,c,rfl⟩:=okWide_slice ht hv
 exact aeZ hr rfl h hz
theorem IY {H:Type}{t0 t1 t2:TypeId}{d0 d1 d2:DataW H}{ts:List TypeId}{ds:List (DataW H)}(h:(DataW.weightsEach P (t0::t1::t2::ts) (d0::d1::d2::ds)).all (·≤reachBytes)=true):(d0.weights P t0).all (·≤reachBytes)=true∧(d1.weights P t1).all (·≤reachBytes)=true∧(d2.weights P t2).all (·≤reachBytes)=true:=by
 simp only [DataW.weightsEach,List.all_append,ZZ] at h
 exact ⟨h.1,h.2.1,h.2.2.1⟩
end
end Go.Proofs.YthccglceomoboaaGreatDoor
namespace Go.Proofs.YthccglceomoboaaGreatDoor
open V
open Go.RowKit Go.ChangeShapes Go.WideShapes Go.ChangeAt
theorem aqx {q:PV}(h:SInt .u8 [q]):∃ c:Nat,c<256∧q=.int .u8 (c:Int):=by
 obtain ⟨b,e⟩:=Xd h
 exact ⟨b.toNat,b.toNat_lt,e⟩
def Vq:List PV→Prop:=Vo 8 (ai2 8 (SInt .u8)) .agg
theorem alB {q:PV}(h:Vq [q]):∃ l:List cZ,l.length≤140737488351232∧q=.list 8 (l.map bH):=by
 obtain ⟨es,e1,hl,h3⟩:=h
 cases e1
 obtain ⟨l,e2⟩:=aif (q:=.list 8 es) ⟨es,rfl,h3⟩
 have e3:PV.list 8 es=.list 8 (l.map bH):=e2
 have this:es=l.map bH:=by injection e3
 refine ⟨l,?_,by rw [this]⟩
 rw [this,Z3] at hl
 exact hl
def alC:List PV→Prop:=O7 [SInt .i64,SInt .i64,Vq]
theorem aqy {ps:List PV}(h:alC ps):∃ x:kM,x.data.length≤140737488351232∧PV.agg ps=DV x:=by
 obtain ⟨p,q,rfl,⟨n,h1,rfl⟩,p2,q2,rfl,⟨m,h2,rfl⟩,p3,q3,rfl,h3,rfl⟩:=h
 obtain ⟨es,rfl,h4⟩:=h3
 obtain ⟨l,hl,e3⟩:=alB (q:=.list 8 es) ⟨es,rfl,h4⟩
 refine ⟨⟨n,m,l⟩,hl,?_⟩
 rw [e3];rfl
def aik:List PV→Prop:=Vo 3 alC .agg
theorem ao3 {q:PV}(h:aik [q]):∃ l:List kM,szT l∧q=.list 3 (l.map DV):=by
 obtain ⟨es,e1,_,h3⟩:=h
 exact aie (enc:=DV) (ok:=fun x=>x.data.length≤140737488351232) (fun ps h=>aqy h) (q:=q) ⟨es,e1,h3⟩
theorem alD {q:PV}(h:aeY [q]):∃ l:List cZ,q=.list 8 (l.map bH):=by
 obtain ⟨l,e⟩:=aif h
 exact ⟨l,e⟩
theorem Tryz.ahL:qI Tryz.prog 71 1 Vq:=qI.list Tryz.underlying71 (by kernel_rfl) (.of Tryz.aij) (Zc8 (by kernel_rfl)) (by decide) (fun _ _ _=>rfl)
theorem Tryz.ao4:qI Tryz.prog 105 3 alC:=qI.VN Tryz.underlying105 (.of Tryz.aii) (.of Tryz.aii) Tryz.ahL rfl rfl rfl (by kernel_rfl)
theorem Tryz.alE:qI Tryz.prog 22 1 aik:=qI.list Tryz.underlying22 (by kernel_rfl) Tryz.ao4 (Zc8 (by kernel_rfl)) (by decide) (fun _ _ _=>rfl)
end Go.Proofs.YthccglceomoboaaGreatDoor
