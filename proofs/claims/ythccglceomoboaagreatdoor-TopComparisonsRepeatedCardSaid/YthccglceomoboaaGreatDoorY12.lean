/-
  Part 12 of the texts that the statement stands on.
-/
import Derived.Test.YthccglceomoboaaGreatDoorY11
import Derived.Test.YthccglceomoboaaGreatDoorRows
import Derived.Lib.LaidTab
import Derived.LaidByTextLater
import Derived.SizedLaws
set_option linter.all false
open Bool renaming and_eq_true → ZS
open List renaming getElem?_eq_getElem → ZZ, getElem?_eq_some_iff → Z3, forall_mem_cons → Z6, length_map → za, getElem?_map → zc, all_eq_true → zt, getD_eq_getElem?_getD → Zaf, mem_append → ZaC, mem_iff_getElem? → ZaG
open Option renaming bind_eq_some_iff → Zaz
open Nat renaming eq_zero_or_pos → ZaV, le_of_ble_eq_true → ZcH
open Int renaming ofNat → Zcu
namespace Go.Proofs.YthccglceomoboaaGreatDoor
def dP (P:Program)(f:Nat):UO→Prop
 |.code fn=>aS P f fn=true
 |.ext g=>∀ args rs,g args=some rs→callable P f=true∧lN P f args rs
 |.Dz h=>callable P f=true∧FY P f h
 |.nC h=>(∀ args,h args=some none→callable P f=true∧lN P f args [])∧∀ args t n,h args=some (some (t,n))→callable P f=true∧Px P f args t n
 |.dfn _=>False
theorem ok4:dP Tryz.prog 4 (.code fn4):=(by kernel_rfl:aS Tryz.prog 4 fn4=true)
theorem ajD:dP Tryz.prog 24 (.code WZ):=(by kernel_rfl:aS Tryz.prog 24 WZ=true)
theorem ajE:dP Tryz.prog 25 (.code W9):=(by kernel_rfl:aS Tryz.prog 25 W9=true)
theorem ajF:dP Tryz.prog 26 (.code Xa):=(by kernel_rfl:aS Tryz.prog 26 Xa=true)
theorem ajG:dP Tryz.prog 27 (.code Xb):=(by kernel_rfl:aS Tryz.prog 27 Xb=true)
theorem ajH:dP Tryz.prog 28 (.code Xc):=(by kernel_rfl:aS Tryz.prog 28 Xc=true)
theorem ajI:dP Tryz.prog 29 (.code Xd):=(by kernel_rfl:aS Tryz.prog 29 Xd=true)
theorem ajJ:dP Tryz.prog 30 (.code JM):=(by kernel_rfl:aS Tryz.prog 30 JM=true)
theorem ajK:dP Tryz.prog 31 (.code Xe):=(by kernel_rfl:aS Tryz.prog 31 Xe=true)
theorem ok32:dP Tryz.prog 32 (.code Xf):=(by kernel_rfl:aS Tryz.prog 32 Xf=true)
theorem ajL:dP Tryz.prog 43 (.code aed):=(by kernel_rfl:aS Tryz.prog 43 aed=true)
theorem ajM:dP Tryz.prog 76 (.code aee):=(by kernel_rfl:aS Tryz.prog 76 aee=true)
theorem ajN:dP Tryz.prog 87 (.code aef):=(by kernel_rfl:aS Tryz.prog 87 aef=true)
theorem ajO:dP Tryz.prog 88 (.code aeg):=(by kernel_rfl:aS Tryz.prog 88 aeg=true)
theorem ajP:dP Tryz.prog 89 (.code aeh):=(by kernel_rfl:aS Tryz.prog 89 aeh=true)
theorem ajQ:dP Tryz.prog 90 (.code aei):=(by kernel_rfl:aS Tryz.prog 90 aei=true)
theorem ajR:dP Tryz.prog 91 (.code Xg):=(by kernel_rfl:aS Tryz.prog 91 Xg=true)
theorem ajS:dP Tryz.prog 92 (.code Xh):=(by kernel_rfl:aS Tryz.prog 92 Xh=true)
theorem ajT:dP Tryz.prog 93 (.code Xi):=(by kernel_rfl:aS Tryz.prog 93 Xi=true)
theorem ajU:dP Tryz.prog 94 (.code Xj):=(by kernel_rfl:aS Tryz.prog 94 Xj=true)
theorem ajV:dP Tryz.prog 95 (.code Xk):=(by kernel_rfl:aS Tryz.prog 95 Xk=true)
theorem ajW:dP Tryz.prog 96 (.code Xl):=(by kernel_rfl:aS Tryz.prog 96 Xl=true)
theorem ajX:dP Tryz.prog 97 (.code TM):=(by kernel_rfl:aS Tryz.prog 97 TM=true)
theorem ajY:dP Tryz.prog 98 (.code Xm):=(by kernel_rfl:aS Tryz.prog 98 Xm=true)
theorem ajZ:dP Tryz.prog 99 (.code Xn):=(by kernel_rfl:aS Tryz.prog 99 Xn=true)
theorem ahd:dP Tryz.prog 100 (.code JO):=(by kernel_rfl:aS Tryz.prog 100 JO=true)
theorem ahe:dP Tryz.prog 101 (.code JQ):=(by kernel_rfl:aS Tryz.prog 101 JQ=true)
theorem ahf:dP Tryz.prog 102 (.code JR):=(by kernel_rfl:aS Tryz.prog 102 JR=true)
theorem ahg:dP Tryz.prog 103 (.code JU):=(by kernel_rfl:aS Tryz.prog 103 JU=true)
theorem ahh:dP Tryz.prog 104 (.code JV):=(by kernel_rfl:aS Tryz.prog 104 JV=true)
theorem ahi:dP Tryz.prog 105 (.code JW):=(by kernel_rfl:aS Tryz.prog 105 JW=true)
theorem ahj:dP Tryz.prog 106 (.code BG):=(by kernel_rfl:aS Tryz.prog 106 BG=true)
theorem ahk:dP Tryz.prog 107 (.ext (jh 1)):=LQ
theorem ahl:dP Tryz.prog 108 (.code JX):=(by kernel_rfl:aS Tryz.prog 108 JX=true)
theorem ahm:dP Tryz.prog 109 (.code JY):=(by kernel_rfl:aS Tryz.prog 109 JY=true)
theorem ahn:dP Tryz.prog 116 (.code Xq):=(by kernel_rfl:aS Tryz.prog 116 Xq=true)
theorem aho:dP Tryz.prog 120 (.ext (jh 1)):=LV
theorem ahp:dP Tryz.prog 131 (.code Xr):=(by kernel_rfl:aS Tryz.prog 131 Xr=true)
theorem ahq:dP Tryz.prog 132 (.code Xt):=(by kernel_rfl:aS Tryz.prog 132 Xt=true)
theorem ahr:dP Tryz.prog 133 (.ext (jh 8)):=LM
theorem ahs:dP Tryz.prog 154 (.code Xw):=(by kernel_rfl:aS Tryz.prog 154 Xw=true)
theorem aht:dP Tryz.prog 161 (.code Xx):=(by kernel_rfl:aS Tryz.prog 161 Xx=true)
theorem ahu:dP Tryz.prog 165 (.code Xy):=(by kernel_rfl:aS Tryz.prog 165 Xy=true)
theorem ahv:dP Tryz.prog 166 (.code Xz):=(by kernel_rfl:aS Tryz.prog 166 Xz=true)
theorem ahw:dP Tryz.prog 169 (.code XA):=(by kernel_rfl:aS Tryz.prog 169 XA=true)
theorem ahx:dP Tryz.prog 170 (.code XB):=(by kernel_rfl:aS Tryz.prog 170 XB=true)
theorem ahy:dP Tryz.prog 172 (.code XC):=(by kernel_rfl:aS Tryz.prog 172 XC=true)
theorem ahz:dP Tryz.prog 173 (.code XD):=(by kernel_rfl:aS Tryz.prog 173 XD=true)
theorem ahA:dP Tryz.prog 174 (.code XG):=(by kernel_rfl:aS Tryz.prog 174 XG=true)
theorem ahB:dP Tryz.prog 175 (.code XH):=(by kernel_rfl:aS Tryz.prog 175 XH=true)
theorem ahC:dP Tryz.prog 176 (.code XI):=(by kernel_rfl:aS Tryz.prog 176 XI=true)
theorem ahD:dP Tryz.prog 177 (.code XJ):=(by kernel_rfl:aS Tryz.prog 177 XJ=true)
theorem ahE:dP Tryz.prog 178 (.code XK):=(by kernel_rfl:aS Tryz.prog 178 XK=true)
theorem ahF:dP Tryz.prog 179 (.code XL):=(by kernel_rfl:aS Tryz.prog 179 XL=true)
theorem ahG:dP Tryz.prog 180 (.code JZ):=(by kernel_rfl:aS Tryz.prog 180 JZ=true)
theorem ahH:dP Tryz.prog 181 (.code XP):=(by kernel_rfl:aS Tryz.prog 181 XP=true)
theorem ahI:dP Tryz.prog 182 (.code XQ):=(by kernel_rfl:aS Tryz.prog 182 XQ=true)
theorem ahJ:dP Tryz.prog 183 (.code XR):=(by kernel_rfl:aS Tryz.prog 183 XR=true)
theorem ahK:dP Tryz.prog 184 (.code J6):=(by kernel_rfl:aS Tryz.prog 184 J6=true)
theorem ahL:dP Tryz.prog 185 (.code J9):=(by kernel_rfl:aS Tryz.prog 185 J9=true)
theorem ahM:dP Tryz.prog 186 (.code Ko):=(by kernel_rfl:aS Tryz.prog 186 Ko=true)
theorem ahN:dP Tryz.prog 187 (.code Kq):=(by kernel_rfl:aS Tryz.prog 187 Kq=true)
theorem ahO:dP Tryz.prog 188 (.code Kr):=(by kernel_rfl:aS Tryz.prog 188 Kr=true)
theorem ahP:dP Tryz.prog 189 (.code Kt):=(by kernel_rfl:aS Tryz.prog 189 Kt=true)
theorem ahQ:dP Tryz.prog 190 (.code Ku):=(by kernel_rfl:aS Tryz.prog 190 Ku=true)
theorem ahR:dP Tryz.prog 191 (.code Kv):=(by kernel_rfl:aS Tryz.prog 191 Kv=true)
theorem ahS:dP Tryz.prog 192 (.code Kw):=(by kernel_rfl:aS Tryz.prog 192 Kw=true)
theorem ahT:dP Tryz.prog 193 (.code EY):=(by kernel_rfl:aS Tryz.prog 193 EY=true)
theorem ahU:dP Tryz.prog 194 (.code Ce):=(by kernel_rfl:aS Tryz.prog 194 Ce=true)
theorem ahV:dP Tryz.prog 195 (.code Ky):=(by kernel_rfl:aS Tryz.prog 195 Ky=true)
theorem ahW:dP Tryz.prog 196 (.code Kz):=(by kernel_rfl:aS Tryz.prog 196 Kz=true)
theorem ahX:dP Tryz.prog 206 (.code XV):=(by kernel_rfl:aS Tryz.prog 206 XV=true)
theorem ahY:dP Tryz.prog 207 (.code XW):=(by kernel_rfl:aS Tryz.prog 207 XW=true)
theorem ahZ:dP Tryz.prog 208 (.code XY):=(by kernel_rfl:aS Tryz.prog 208 XY=true)
theorem ah0:dP Tryz.prog 209 (.code X5):=(by kernel_rfl:aS Tryz.prog 209 X5=true)
theorem ah1:dP Tryz.prog 213 (.code KA):=(by kernel_rfl:aS Tryz.prog 213 KA=true)
theorem ah2:dP Tryz.prog 214 (.code KC):=(by kernel_rfl:aS Tryz.prog 214 KC=true)
theorem ah3:dP Tryz.prog 219 (.code X6):=(by kernel_rfl:aS Tryz.prog 219 X6=true)
theorem ah4:dP Tryz.prog 222 (.code X7):=(by kernel_rfl:aS Tryz.prog 222 X7=true)
theorem ah5:dP Tryz.prog 223 (.code X8):=(by kernel_rfl:aS Tryz.prog 223 X8=true)
theorem ah6:dP Tryz.prog 227 (.code X9):=(by kernel_rfl:aS Tryz.prog 227 X9=true)
theorem ah7:dP Tryz.prog 228 (.code Yc):=(by kernel_rfl:aS Tryz.prog 228 Yc=true)
theorem ah8:dP Tryz.prog 229 (.code Yd):=(by kernel_rfl:aS Tryz.prog 229 Yd=true)
theorem ah9:dP Tryz.prog 233 (.code Ye):=(by kernel_rfl:aS Tryz.prog 233 Ye=true)
theorem aia:dP Tryz.prog 234 (.code Yh):=(by kernel_rfl:aS Tryz.prog 234 Yh=true)
theorem aib:dP Tryz.prog 235 (.code Yi):=(by kernel_rfl:aS Tryz.prog 235 Yi=true)
theorem aic:dP Tryz.prog 236 (.code Yl):=(by kernel_rfl:aS Tryz.prog 236 Yl=true)
theorem aie:dP Tryz.prog 237 (.code Ym):=(by kernel_rfl:aS Tryz.prog 237 Ym=true)
theorem aif:dP Tryz.prog 238 (.code Yp):=(by kernel_rfl:aS Tryz.prog 238 Yp=true)
theorem aii:dP Tryz.prog 239 (.code Yq):=(by kernel_rfl:aS Tryz.prog 239 Yq=true)
theorem aij:dP Tryz.prog 240 (.code Yr):=(by kernel_rfl:aS Tryz.prog 240 Yr=true)
theorem aik:dP Tryz.prog 241 (.code Yv):=(by kernel_rfl:aS Tryz.prog 241 Yv=true)
theorem ail:dP Tryz.prog 242 (.code Yw):=(by kernel_rfl:aS Tryz.prog 242 Yw=true)
theorem ain:dP Tryz.prog 243 (.code KD):=(by kernel_rfl:aS Tryz.prog 243 KD=true)
theorem aio:dP Tryz.prog 244 (.code Yz):=(by kernel_rfl:aS Tryz.prog 244 Yz=true)
theorem aip:dP Tryz.prog 245 (.ext (jh 1)):=LX
theorem aiq:dP Tryz.prog 246 (.code YC):=(by kernel_rfl:aS Tryz.prog 246 YC=true)
theorem air:dP Tryz.prog 247 (.code YD):=(by kernel_rfl:aS Tryz.prog 247 YD=true)
theorem ais:dP Tryz.prog 248 (.code KE):=(by kernel_rfl:aS Tryz.prog 248 KE=true)
theorem ait:dP Tryz.prog 252 (.code YG):=(by kernel_rfl:aS Tryz.prog 252 YG=true)
theorem aiu:dP Tryz.prog 255 (.code KH):=(by kernel_rfl:aS Tryz.prog 255 KH=true)
theorem aiv:dP Tryz.prog 256 (.code KI):=(by kernel_rfl:aS Tryz.prog 256 KI=true)
theorem aiw:dP Tryz.prog 257 (.code KJ):=(by kernel_rfl:aS Tryz.prog 257 KJ=true)
theorem aix:dP Tryz.prog 262 (.code YL):=(by kernel_rfl:aS Tryz.prog 262 YL=true)
theorem aiy:dP Tryz.prog 263 (.code YM):=(by kernel_rfl:aS Tryz.prog 263 YM=true)
theorem aiz:dP Tryz.prog 264 (.ext tzX):=agH
theorem aiA:dP Tryz.prog 266 (.code YP):=(by kernel_rfl:aS Tryz.prog 266 YP=true)
theorem aiB:dP Tryz.prog 267 (.code YQ):=(by kernel_rfl:aS Tryz.prog 267 YQ=true)
theorem aiC:dP Tryz.prog 268 (.code YR):=(by kernel_rfl:aS Tryz.prog 268 YR=true)
theorem aiD:dP Tryz.prog 269 (.code YS):=(by kernel_rfl:aS Tryz.prog 269 YS=true)
theorem aiE:dP Tryz.prog 270 (.code KL):=(by kernel_rfl:aS Tryz.prog 270 KL=true)
theorem aiF:dP Tryz.prog 273 (.code zo):=(by kernel_rfl:aS Tryz.prog 273 zo=true)
theorem aiG:dP Tryz.prog 274 (.Dz (kR 275)):=Ll
theorem aiH:dP Tryz.prog 275 (.code YT):=(by kernel_rfl:aS Tryz.prog 275 YT=true)
theorem aiI:dP Tryz.prog 276 (.code YU):=(by kernel_rfl:aS Tryz.prog 276 YU=true)
theorem aiJ:dP Tryz.prog 281 (.code YV):=(by kernel_rfl:aS Tryz.prog 281 YV=true)
set_option maxRecDepth 20000 in
theorem aiK:∀ p∈tab,dP Tryz.prog p.1 p.2:=by
 unfold tab
 exact Z6.2 ⟨ok4,Z6.2 ⟨ajD,Z6.2 ⟨ajE,Z6.2 ⟨ajF,Z6.2 ⟨ajG,Z6.2 ⟨ajH,Z6.2 ⟨ajI,Z6.2 ⟨ajJ,Z6.2 ⟨ajK,Z6.2 ⟨ok32,Z6.2 ⟨ajL,Z6.2 ⟨ajM,Z6.2 ⟨ajN,Z6.2 ⟨ajO,Z6.2 ⟨ajP,Z6.2 ⟨ajQ,Z6.2 ⟨ajR,Z6.2 ⟨ajS,Z6.2 ⟨ajT,Z6.2 ⟨ajU,Z6.2 ⟨ajV,Z6.2 ⟨ajW,Z6.2 ⟨ajX,Z6.2 ⟨ajY,Z6.2 ⟨ajZ,Z6.2 ⟨ahd,Z6.2 ⟨ahe,Z6.2 ⟨ahf,Z6.2 ⟨ahg,Z6.2 ⟨ahh,Z6.2 ⟨ahi,Z6.2 ⟨ahj,Z6.2 ⟨ahk,Z6.2 ⟨ahl,Z6.2 ⟨ahm,Z6.2 ⟨ahn,Z6.2 ⟨aho,Z6.2 ⟨ahp,Z6.2 ⟨ahq,Z6.2 ⟨ahr,Z6.2 ⟨ahs,Z6.2 ⟨aht,Z6.2 ⟨ahu,Z6.2 ⟨ahv,Z6.2 ⟨ahw,Z6.2 ⟨ahx,Z6.2 ⟨ahy,Z6.2 ⟨ahz,Z6.2 ⟨ahA,Z6.2 ⟨ahB,Z6.2 ⟨ahC,Z6.2 ⟨ahD,Z6.2 ⟨ahE,Z6.2 ⟨ahF,Z6.2 ⟨ahG,Z6.2 ⟨ahH,Z6.2 ⟨ahI,Z6.2 ⟨ahJ,Z6.2 ⟨ahK,Z6.2 ⟨ahL,Z6.2 ⟨ahM,Z6.2 ⟨ahN,Z6.2 ⟨ahO,Z6.2 ⟨ahP,Z6.2 ⟨ahQ,Z6.2 ⟨ahR,Z6.2 ⟨ahS,Z6.2 ⟨ahT,Z6.2 ⟨ahU,Z6.2 ⟨ahV,Z6.2 ⟨ahW,Z6.2 ⟨ahX,Z6.2 ⟨ahY,Z6.2 ⟨ahZ,Z6.2 ⟨ah0,Z6.2 ⟨ah1,Z6.2 ⟨ah2,Z6.2 ⟨ah3,Z6.2 ⟨ah4,Z6.2 ⟨ah5,Z6.2 ⟨ah6,Z6.2 ⟨ah7,Z6.2 ⟨ah8,Z6.2 ⟨ah9,Z6.2 ⟨aia,Z6.2 ⟨aib,Z6.2 ⟨aic,Z6.2 ⟨aie,Z6.2 ⟨aif,Z6.2 ⟨aii,Z6.2 ⟨aij,Z6.2 ⟨aik,Z6.2 ⟨ail,Z6.2 ⟨ain,Z6.2 ⟨aio,Z6.2 ⟨aip,Z6.2 ⟨aiq,Z6.2 ⟨air,Z6.2 ⟨ais,Z6.2 ⟨ait,Z6.2 ⟨aiu,Z6.2 ⟨aiv,Z6.2 ⟨aiw,Z6.2 ⟨aix,Z6.2 ⟨aiy,Z6.2 ⟨aiz,Z6.2 ⟨aiA,Z6.2 ⟨aiB,Z6.2 ⟨aiC,Z6.2 ⟨aiD,Z6.2 ⟨aiE,Z6.2 ⟨aiF,Z6.2 ⟨aiG,Z6.2 ⟨aiH,Z6.2 ⟨aiI,Z6.2 ⟨aiJ,fun p hp=>by cases hp⟩⟩⟩⟩⟩⟩⟩⟩⟩⟩⟩⟩⟩⟩⟩⟩⟩⟩⟩⟩⟩⟩⟩⟩⟩⟩⟩⟩⟩⟩⟩⟩⟩⟩⟩⟩⟩⟩⟩⟩⟩⟩⟩⟩⟩⟩⟩⟩⟩⟩⟩⟩⟩⟩⟩⟩⟩⟩⟩⟩⟩⟩⟩⟩⟩⟩⟩⟩⟩⟩⟩⟩⟩⟩⟩⟩⟩⟩⟩⟩⟩⟩⟩⟩⟩⟩⟩⟩⟩⟩⟩⟩⟩⟩⟩⟩⟩⟩⟩⟩⟩⟩⟩⟩⟩⟩⟩⟩⟩⟩⟩⟩⟩⟩⟩⟩
theorem Dv:∀ {l:List (Nat×UO)} {f:Nat} {d:UO},l.lookup f=some d→(f,d)∈l
 |(k,v)::l,f,d,h=>by
  rw [List.lookup_cons] at h
  split at h
  ·rename_i e
   have e:f=k:=by simpa using e
   cases h;subst e;simp
  ·exact List.mem_cons_of_mem _ (Dv h)
theorem aiL:zl Tryz.prog env:=fun f d h=>by
 have:=aiK _ (Dv h)
 cases d<;>exact this
end Go.Proofs.YthccglceomoboaaGreatDoor
namespace Go.Proofs.YthccglceomoboaaGreatDoor
open Go.RowKit
theorem UC:(Rows.laid_math_bits_deBruijn64tab:DataW Unit)=Lib.tabData .u8 (Lib.deBruijn64tab.map Zcu):=by kernel_rfl
theorem aiM:Tryz.prog.globalNamed "math/bits.deBruijn64tab"=some 0:=by kernel_rfl
theorem Dw {w:World} {l:List (String × DataW Unit)} (hl:l=[("math/bits.deBruijn64tab",Rows.laid_math_bits_deBruijn64tab)]) (h:laidMetH Tryz.prog l w):GK w:=by
 subst hl
 rw [MakeChecks.laidMetH_plain _ _ _ (by kernel_rfl),UC] at h
 have ht:Lib.TabIs Tryz.prog w "math/bits.deBruijn64tab" .u8 (Lib.deBruijn64tab.map Zcu) :=
  Lib.tabIs_of_head (t:=380) (e:=5) (n:=64) aiM (by kernel_rfl) (by kernel_rfl) (by kernel_rfl) (by kernel_rfl) (by kernel_rfl) h
 have hc:∀ i,i<64→w.cell? ⟨0,i,none⟩=some (.int .u8 ((Lib.deBruijn64tab.map Zcu).getD i 0)):=fun i hi=>ht.cell aiM i (by simpa [Lib.deBruijn64tab] using hi)
 have hC:bY w 0:=vM (hc 0 (by decide))
 intro p hp
 obtain rfl:p=_:=List.mem_singleton.1 hp
 refine .bW _ 0 _ 0 (fun i=>.int .u8 ((Lib.deBruijn64tab.map Zcu).getD i 0)) (if_pos hC.lt) hC (fun k x hk=>?_) (fun k x hk=>?_)
 ·have hk':=(Z3.1 hk).1
  rw [Nat.zero_add]
  exact ⟨hc k (by simpa [Lib.deBruijn64tab] using hk'),rfl⟩
 ·simp only [zc] at hk
  cases e:Lib.deBruijn64tab[k]? with
  |none=>rw [e] at hk;cases hk
  |some n =>
   rw [e] at hk;cases hk
   have:(Lib.deBruijn64tab.map Zcu).getD k 0=(n:Int):=by simp [Zaf,e]
   rw [this]
   exact .int _ _
end Go.Proofs.YthccglceomoboaaGreatDoor
namespace Go.Proofs.YthccglceomoboaaGreatDoor.V
open Go.RowKit Go.ChangeShapes Go.WideShapes Go.ChangeAt
theorem Tryz.Z7:ownKnob Tryz.prog.godebug=none:=by kernel_rfl
theorem Tryz.Dx:laidOutB Tryz.prog=true:=by kernel_rfl
theorem QC {q:PV}(h:SInt .u8 [q]):∃ b:UInt8,q=.int .u8 (b.toNat:Int):=by
 obtain ⟨n,h1,h2⟩:=h
 have h3:IntKind.u8.min=0:=rfl
 have h4:IntKind.u8.max=255:=rfl
 simp only [Lit.wf,ZS,decide_eq_true_eq] at h1
 cases h2
 refine ⟨UInt8.ofNat n.toNat,?_⟩
 rw [UInt8.toNat_ofNat_of_lt' (show n.toNat<2 ^ 8 by omega)]
 congr 1;omega
def afK:List PV→Prop:=aec 8 (SInt .u8)
theorem aj0 {ps:List PV}(h:afK ps):∃ s:jF,ps=kK s:=by
 obtain ⟨h1,h2⟩:=h
 have:∀ l:List PV,(∀ p∈l,SInt .u8 [p])→∃ m:List UInt8,m.length=l.length∧l=m.map fun b=>.int .u8 (b.toNat:Int):=by
  intro l
  induction l with
  |nil=>exact fun _=>⟨[],rfl,rfl⟩
  |cons p l ih =>
   intro h
   obtain ⟨b,hb⟩:=QC (h p (by simp))
   obtain ⟨m,e1,e2⟩:=ih fun q hq=>h q (by simp [hq])
   exact ⟨b::m,by simp [e1],by rw [hb,e2];rfl⟩
 obtain ⟨m,e1,e2⟩:=this ps h2
 refine ⟨⟨m.toArray,by simp [e1,h1]⟩,?_⟩
 subst e2
 simp [kK,Vector.toList]
theorem Z8 {α:Type}{n:Nat}{S:List PV→Prop}{wr:List PV→PV}{enc:α→PV}{ok:α→Prop}(hS:∀ ps,S ps→∃ a,ok a∧wr ps=enc a){q:PV}(h:PS n S wr [q]):∃ l:List α,(∀ a∈l,ok a)∧q=.list n (l.map enc):=by
 obtain ⟨es,h1,h2⟩:=h
 cases h1
 have:∀ es:List PV,(∀ x∈es,∃ q,S q∧x=wr q)→∃ l:List α,(∀ a∈l,ok a)∧es=l.map enc:=by
  intro es
  induction es with
  |nil=>exact fun _=>⟨[],by simp,rfl⟩
  |cons e es ih =>
   intro h
   obtain ⟨q,h3,h4⟩:=h e (by simp)
   obtain ⟨a,h5,h6⟩:=hS q h3
   obtain ⟨l,h7,h8⟩:=ih fun x hx=>h x (by simp [hx])
   exact ⟨a::l,by simp;exact ⟨h5,h7⟩,by rw [h4,h6,h8];rfl⟩
 obtain ⟨l,h3,h4⟩:=this es h2
 exact ⟨l,h3,by rw [h4]⟩
theorem afL {k:IntKind}{ps:List PV}(h:SInt k ps):(wrS ps).cells=ps:=by
 obtain ⟨n,_,rfl⟩:=h;rfl
def Z9:List PV→Prop:=PS 8 afK .agg
theorem adp {q:PV}(h:Z9 [q]):∃ l:List jF,q=agh l:=by
 obtain ⟨l,_,e⟩:=Z8 (enc:=dS) (ok:=fun _=>True) (fun ps h=>by obtain ⟨s,rfl⟩:=aj0 h;exact ⟨s,trivial,rfl⟩) h
 exact ⟨l,e⟩
theorem Tryz.adq:jX Tryz.prog 3 1 (SInt .i64):=jX.int Tryz.underlying3 (by kernel_rfl)
theorem Tryz.aiN:jX Tryz.prog 5 1 (SInt .u8):=jX.int Tryz.underlying5 (by kernel_rfl)
theorem Tryz.adr:jX Tryz.prog 129 8 afK:=jX.arr Tryz.underlying129 Tryz.aiN (by kernel_rfl)
theorem Tryz.afM:jX Tryz.prog 71 1 Z9:=jX.list Tryz.underlying71 (by kernel_rfl) Tryz.adr (by decide) (fun _ _ _=>rfl)
end Go.Proofs.YthccglceomoboaaGreatDoor.V
namespace Go.Proofs.YthccglceomoboaaGreatDoor
open Go.RowKit Go.WideShapes
def oO (P:Program)(t:TypeId)(n:Nat)(S:List PV→Prop):Prop :=
 P.cellsOf t=n∧∀ {H:Type} {enc:TypeId×Value→H} {w:World} {fuel:Nat} {cs:List Value} {x:DataW H×List MemPlace},DataW.trod enc P w 0 (fun _=>true) true fuel t cs=some x→(x.1.weights P t).all (·≤reachBytes)=true→∃ ps,S ps∧ps.length=n∧yH w cs ps
def O5 (n:Nat)(S:List PV→Prop)(wr:List PV→PV)(ps:List PV):Prop:=∃ es,ps=[.list n es]∧es.length≤140737488351232∧∀ x∈es,∃ q,S q∧x=wr q
section
variable {P:Program}{t e:TypeId}{n m:Nat}{S:List PV→Prop}{k:IntKind}
theorem oO.of (h:jX P t n S):oO P t n S:=⟨h.1,fun h1 _=>h.2 h1⟩
theorem rU {H:Type}:∀ {ds:List (DataW H)} {i:Nat} (h:i<ds.length) {y:Nat},y∈ds[i].weights P e→y∈DataW.weightsAll P e ds
 |d::ds,0,_,y,hy=>by
  simp only [DataW.weightsAll,ZaC]
  exact .inl hy
 |d::ds,i+1,h,y,hy=>by
  simp only [DataW.weightsAll,ZaC]
  exact .inr (rU (ds:=ds) (i:=i) (by simpa using h) (by simpa using hy))
 |[],_,h,_,_=>by simp at h
theorem oO.list {wr:List PV→PV}(ht:P.underlying t=some (.slice e))(hc:P.cellsOf t=1)(hr:oO P e n S)(hb:1≤P.bytesOf e)(hpos:0<n)(hw:∀ ps,S ps→ps.length=n→(wr ps).cells=ps):oO P t 1 (O5 n S wr):=⟨hc,fun {H enc w fuel cs x} h hz=>by
 rcases DataW.trod_slice ht h with ⟨rfl,_⟩|⟨a,len,cap,elems,rest,m,_,rfl,rfl,_,hl,hm,hel,hE,hR,_⟩
 ·exact ⟨[.list n []],⟨[],rfl,Nat.zero_le _,fun x hx=>by cases hx⟩,rfl,qH rfl (.nil n none)⟩
 ·have hz1:elems.length≤140737488351232:=by
   have:=zt.1 hz ((elems.length+rest.length)*P.bytesOf e) (by simp [DataW.weights,ht])
   have h3:(elems.length+rest.length)*P.bytesOf e≤140737488351232:=by
    have h:=of_decide_eq_true this
    simpa [reachBytes] using h
   have h4:(elems.length+rest.length)*1≤(elems.length+rest.length)*P.bytesOf e:=Nat.mul_le_mul_left _ hb
   omega
  have hz2:∀ (i:Nat) (h:i<elems.length),(elems[i].1.weights P e).all (·≤reachBytes)=true:=fun i hi=>by
   rw [zt]
   intro y hy
   refine zt.1 hz y ?_
   simp only [DataW.weights,ht,List.mem_cons,ZaC]
   exact .inr (.inl (rU (i:=i) (by simpa using hi) (by simpa using hy)))
  obtain ⟨l,h1,h2⟩:=uy (p:=fun i (y:List Value×List PV)=>w.cells? 0 (a.add (i*n)) n=some y.1∧S y.2∧y.2.length=n∧yH w y.1 y.2) len fun i hi=>by
   have:=hE i hi
   rw [ZZ (by omega),hr.1,Zaz] at this
   obtain ⟨c,h3,h4⟩:=this
   obtain ⟨ps,g1,g2,g3⟩:=hr.2 h4 (hz2 i (by omega))
   exact ⟨(c,ps),h3,g1,g2,g3⟩
  refine ⟨[.list n (l.map fun y=>wr y.2)],⟨_,rfl,by rw [za,h1];omega,fun x hx=>?_⟩,rfl,qH rfl ?_⟩
  ·obtain ⟨y,hy,rfl⟩:=List.mem_map.1 hx
   obtain ⟨i,hi⟩:=ZaG.1 hy
   exact ⟨y.2,(h2 i y hi).2.1,rfl⟩
  ·by_cases hcap:cap=0
   ·have:len=0:=by omega
    subst hcap;subst this
    have:l=[]:=List.eq_nil_of_length_eq_zero h1
    subst this
    exact .nil n (some a)
   ·-- there are cells
    have hcell:∃ off v,w.cell? ⟨a.block,off,none⟩=some v∧a.spot=none:=by
     have JL:∀ (i:Nat) (c:List Value),w.cells? 0 (a.add (i*n)) n=some c→∃ off v,w.cell? ⟨a.block,off,none⟩=some v∧a.spot=none:=fun i c h3=>by
      obtain ⟨_,hc0,h4⟩:=World.cells?_some h3
      have h5:=h4 0 hpos
      rw [ZZ (by omega)] at h5
      have hs:(a.add (i*n)).spot=none:=by simpa [Addr.add] using World.cell?_spot h5
      have hs0:a.spot=none:=by
       unfold Addr.add at hs
       split at hs
       ·exact hs
       ·rename_i hne
        by_cases h0:i*n=0
        ·rename_i q;exact absurd h0 (by simpa using hne)
        ·rcases ZaV i with hi0|hi0
         ·subst hi0;simp at h0
         ·-- the row begins at a: its first cell
          have:0<len∨len=0:=by omega
          rcases this with hlen|hlen
          ·obtain ⟨y,hy⟩:∃ y,l[0]?=some y:=⟨l[0],ZZ (by omega)⟩
           obtain ⟨_,hc1,h6⟩:=World.cells?_some (h2 0 y hy).1
           have h7:=h6 0 hpos
           rw [ZZ (by omega)] at h7
           simpa [Addr.add] using World.cell?_spot h7
          ·have hrl:0<rest.length:=by have:=(hR rfl).1;omega
           have:=(hR rfl).2 0 (by omega)
           have h8:rest[0]?=some rest[0]:=ZZ hrl
           rw [h8,hr.1,hlen,Zaz] at this
           obtain ⟨c1,h9,_⟩:=this
           obtain ⟨_,hc1,h6⟩:=World.cells?_some h9
           have h7:=h6 0 hpos
           rw [ZZ (by omega)] at h7
           simpa [Addr.add] using World.cell?_spot h7
      obtain ⟨b,off,spot⟩:=a
      simp only at hs0
      subst hs0
      rw [Addr.add_lit,Addr.add_lit] at h5
      exact ⟨_,_,h5,rfl⟩
     rcases ZaV len with hlen|hlen
     ·have hrl:0<rest.length:=by have:=(hR rfl).1;omega
      have:=(hR rfl).2 0 (by omega)
      have h8:rest[0]?=some rest[0]:=ZZ hrl
      rw [h8,hr.1,Zaz] at this
      obtain ⟨c1,h9,_⟩:=this
      exact JL _ c1 h9
     ·obtain ⟨y,hy⟩:∃ y,l[0]?=some y:=⟨l[0],ZZ (by omega)⟩
      exact JL 0 _ (h2 0 y hy).1
    obtain ⟨ajw,v0,hv0,hspot⟩:=hcell
    obtain ⟨b,off,spot⟩:=a
    simp only at hspot hv0
    subst hspot
    have hC:bY w b:=vM hv0
    have hget:∀ (i:Nat) x,(l.map fun y=>wr y.2)[i]?=some x→∃ y,l[i]?=some y∧x=wr y.2:=fun i x hx=>by
     rw [zc] at hx
     cases e:l[i]? with
     |none=>rw [e] at hx;cases hx
     |some y=>rw [e] at hx;exact ⟨y,rfl,(Option.some.inj hx).symm⟩
    have hlen:(l.map fun y=>wr y.2).length=len:=by simp [h1]
    have:=aA.list (ok:=fun b=>b<w.heap.size) (w:=w) n (l.map fun y=>wr y.2) b off cap (fun i j=>(((l[i]?).map (·.1)).getD []).getD j default) hC.lt hC (by rw [hlen];exact hl) hm
     (fun x hx=>by
      obtain ⟨i,hi⟩:=ZaG.1 hx
      obtain ⟨y,hy,rfl⟩:=hget i x hi
      obtain ⟨_,g1,g2,_⟩:=h2 i y hy
      rw [hw _ g1 g2,g2])
     (fun i x j p hi hj=>by
      obtain ⟨y,hy,rfl⟩:=hget i x hi
      obtain ⟨g0,g1,g2,g3,g4,g5⟩:=h2 i y hy
      rw [hw _ g1 g2] at hj
      have hjn:j<n:=by have:=(Z3.1 hj).1;omega
      obtain ⟨_,hc1,h6⟩:=World.cells?_some g0
      have h7:=h6 j hjn
      have hcj:y.1[j]?=some y.1[j]:=ZZ (by omega)
      have hd:(((l[i]?).map (·.1)).getD []).getD j default=y.1[j]:=by
       rw [hy];simp [Zaf,hcj]
      rw [hd]
      rw [hcj,Addr.add_lit,Addr.add_lit] at h7
      exact ⟨h7,g4 _ (List.mem_of_getElem? hcj)⟩)
     (fun i x j p hi hj=>by
      obtain ⟨y,hy,rfl⟩:=hget i x hi
      obtain ⟨g0,g1,g2,g3,g4,g5⟩:=h2 i y hy
      rw [hw _ g1 g2] at hj
      have hjn:j<n:=by have:=(Z3.1 hj).1;omega
      have hcj:y.1[j]?=some y.1[j]:=ZZ (by omega)
      have hd:(((l[i]?).map (·.1)).getD []).getD j default=y.1[j]:=by
       rw [hy];simp [Zaf,hcj]
      rw [hd]
      exact g5 j p _ hj hcj)
    rw [hlen] at this
    exact this⟩
inductive Dy (P:Program):Nat→List Field→List (List PV→Prop)→Nat→Prop
 |nil (o:Nat):Dy P o [] [] 0
 |cons {o n m:Nat} {f:Field} {fs:List Field} {S:List PV→Prop} {Ss:List (List PV→Prop)}:f.offset=o→oO P f.type n S→Dy P (o+n) fs Ss m→Dy P o (f::fs) (S::Ss) (n+m)
theorem Dy.read {o:Nat}{fs:List Field}{Ss:List (List PV→Prop)}(h:Dy P o fs Ss m){H:Type}{enc:TypeId×Value→H}{w:World}{fuel:Nat}{cs:List Value}{xs:List (DataW H×List MemPlace)}(hl:cs.length=o+m)
  (hx:∀ (i:Nat) (f:Field),fs[i]?=some f→∃ x,DataW.trod enc P w 0 (fun _=>true) true fuel f.type ((cs.drop f.offset).take (P.cellsOf f.type))=some x∧(x.1.weights P f.type).all (·≤reachBytes)=true):∃ ps,JK Ss ps∧ps.length=m∧yH w (cs.drop o) ps:=by
 induction h with
 |nil o=>exact ⟨[],rfl,rfl,by rw [List.drop_of_length_le (by omega)];exact (⟨rfl,fun c hc=>(by cases hc),fun j x v hx=>(by simp at hx)⟩:yH w [] [])⟩
 |@cons o n m f fs S Ss h1 h2 h3 ih =>
  obtain ⟨x,h4,h5⟩:=hx 0 f rfl
  rw [h2.1,h1] at h4
  obtain ⟨p,g1,g2,g3⟩:=h2.2 h4 h5
  obtain ⟨q,k1,k2,k3⟩:=ih (by omega) (fun i f hf=>hx (i+1) f hf)
  refine ⟨p++q,⟨p,q,rfl,g1,k1⟩,by simp [g2,k2],?_⟩
  have:cs.drop o=(cs.drop o).take n++cs.drop (o+n):=by rw [← List.drop_drop,List.take_append_drop]
  rw [this]
  exact g3.append k3
theorem oO.struct {fs:Array Field}{Ss:List (List PV→Prop)}(ht:P.underlying t=some (.struct fs))(hf:Dy P 0 fs.toList Ss n)(hc:P.cellsOf t=n):oO P t n (JK Ss):=⟨hc,fun {H enc w fuel cs x} h hz=>by
 obtain ⟨xs,m,_,rfl,hl,hx,hE⟩:=DataW.trod_struct ht h
 obtain ⟨ps,h1,h2,h3⟩:=hf.read (xs:=xs) (enc:=enc) (w:=w) (fuel:=m) (cs:=cs) (by omega) (fun i f hi=>by
  have hi':fs[i]?=some f:=by simpa using hi
  have:=hE i f hi'
  have hil:i<xs.length:=by rw [hx];exact (Array.getElem?_eq_some_iff.1 hi').1
  refine ⟨xs[i],by rw [this,ZZ hil],?_⟩
  rw [zt]
  intro y hy
  refine zt.1 hz y ?_
  simp only [DataW.weights,ht]
  exact DataW.weights_mem_each (j:=i) (t:=f.type) (d:=xs[i].1) (by simp [hi']) (by simp [zc,ZZ hil]) y hy)
 exact ⟨ps,h1,h2,by simpa using h3⟩⟩
theorem oO.PU {f0 f1 f2:Field}{n0 n1 n2:Nat}{S0 S1 S2:List PV→Prop}(ht:P.underlying t=some (.struct #[f0,f1,f2]))(h0:oO P f0.type n0 S0)(h1:oO P f1.type n1 S1)(h2:oO P f2.type n2 S2)(o0:f0.offset=0)(o1:f1.offset=0+n0)(o2:f2.offset=0+n0+n1)(hc:P.cellsOf t=n0+(n1+(n2+0))):oO P t (n0+(n1+(n2+0))) (JK [S0,S1,S2]) :=
 oO.struct ht (show Dy P 0 [f0,f1,f2] [S0,S1,S2] (n0+(n1+(n2+0))) from .cons o0 h0 (.cons o1 h1 (.cons o2 h2 (.nil _)))) hc
theorem aac {H:Type}{enc:TypeId×Value→H}{w:World}{v:Value}{d:DataW H}{p:List MemPlace}(hr:oO P t 1 S)(hone:v.cells.toList=[v])(h:DataW.Trod enc P w 0 (fun _=>true) true t v d p)(hz:(d.weights P t).all (·≤reachBytes)=true) :
  ∃ q,S [q]∧aA (fun b=>b<w.heap.size) w q v:=by
 obtain ⟨fuel,hf⟩:=h
 obtain ⟨ps,h1,h2,h3,h4,h5⟩:=hr.2 hf hz
 match ps,h2 with
 |[q],_=>exact ⟨q,h1,h5 0 q v rfl (by rw [hone];rfl)⟩
theorem O6 {H:Type}{enc:TypeId×Value→H}{w:World}{v:Value}{d:DataW H}{p:List MemPlace}{m:Reach}{base:Nat}(ht:P.underlying t=some (.slice e))(hr:oO P t 1 S)(hv:Value.okWide P w m base t v)(h:DataW.Trod enc P w 0 (fun _=>true) true t v d p)(hz:(d.weights P t).all (·≤reachBytes)=true) :
  ∃ q,S [q]∧aA (fun b=>b<w.heap.size) w q v:=by
 obtain ⟨a,l,c,rfl⟩:=okWide_slice ht hv
 exact aac hr rfl h hz
theorem Ee {H:Type}{t0 t1 t2:TypeId}{d0 d1 d2:DataW H}{ts:List TypeId}{ds:List (DataW H)}(h:(DataW.weightsEach P (t0::t1::t2::ts) (d0::d1::d2::ds)).all (·≤reachBytes)=true):(d0.weights P t0).all (·≤reachBytes)=true∧(d1.weights P t1).all (·≤reachBytes)=true∧(d2.weights P t2).all (·≤reachBytes)=true:=by
 simp only [DataW.weightsEach,List.all_append,ZS] at h
 exact ⟨h.1,h.2.1,h.2.2.1⟩
end
end Go.Proofs.YthccglceomoboaaGreatDoor
namespace Go.Proofs.YthccglceomoboaaGreatDoor
open V
open Go.RowKit Go.ChangeShapes Go.WideShapes Go.ChangeAt
def aiO (c:Nat):PV:=.int .u8 (c:Int)
theorem aj1 {q:PV}(h:SInt .u8 [q]):∃ c:Nat,c<256∧q=.int .u8 (c:Int):=by
 obtain ⟨b,e⟩:=QC h
 exact ⟨b.toNat,b.toNat_lt,e⟩
def O7:List PV→Prop:=O5 8 (aec 8 (SInt .u8)) .agg
theorem afN {q:PV}(h:O7 [q]):∃ l:List jF,l.length≤140737488351232∧q=.list 8 (l.map dS):=by
 obtain ⟨es,e1,hl,h3⟩:=h
 cases e1
 obtain ⟨l,e2⟩:=adp (q:=.list 8 es) ⟨es,rfl,h3⟩
 have e3:PV.list 8 es=.list 8 (l.map dS):=e2
 have this:es=l.map dS:=by injection e3
 refine ⟨l,?_,by rw [this]⟩
 rw [this,za] at hl
 exact hl
def afO:List PV→Prop:=JK [SInt .i64,SInt .i64,O7]
theorem aj2 {ps:List PV}(h:afO ps):∃ x:QK,x.data.length≤140737488351232∧PV.agg ps=QL x:=by
 obtain ⟨p,q,rfl,⟨n,h1,rfl⟩,p2,q2,rfl,⟨m,h2,rfl⟩,p3,q3,rfl,h3,rfl⟩:=h
 obtain ⟨es,rfl,h4⟩:=h3
 obtain ⟨l,hl,e3⟩:=afN (q:=.list 8 es) ⟨es,rfl,h4⟩
 refine ⟨⟨n,m,l⟩,hl,?_⟩
 rw [e3];rfl
def ads:List PV→Prop:=O5 3 afO .agg
theorem aiP {q:PV}(h:ads [q]):∃ l:List QK,szT l∧q=.list 3 (l.map QL):=by
 obtain ⟨es,e1,_,h3⟩:=h
 exact Z8 (enc:=QL) (ok:=fun x=>x.data.length≤140737488351232) (fun ps h=>aj2 h) (q:=q) ⟨es,e1,h3⟩
def adt:List PV→Prop:=PS 1 (SInt .u8) wrS
theorem aiQ {q:PV}(h:adt [q]):∃ l:List Nat,(∀ c∈l,c<256)∧q=.list 1 (l.map aiO):=by
 obtain ⟨l,h1,e⟩:=Z8 (enc:=aiO) (ok:=fun c=>c<256) (fun ps h=>by
  obtain ⟨n,h1,rfl⟩:=h
  obtain ⟨c,hc,e⟩:=aj1 (q:=.int .u8 n) ⟨n,h1,rfl⟩
  exact ⟨c,hc,e⟩) h
 exact ⟨l,h1,e⟩
theorem afP {q:PV}(h:Z9 [q]):∃ l:List jF,q=.list 8 (l.map dS):=by
 obtain ⟨l,e⟩:=adp h
 exact ⟨l,e⟩
theorem Tryz.acV:oO Tryz.prog 71 1 O7:=oO.list Tryz.underlying71 (by kernel_rfl) (.of Tryz.adr) (ZcH (by kernel_rfl)) (by decide) (fun _ _ _=>rfl)
theorem Tryz.aiR:oO Tryz.prog 105 3 afO:=oO.PU Tryz.underlying105 (.of Tryz.adq) (.of Tryz.adq) Tryz.acV rfl rfl rfl (by kernel_rfl)
theorem Tryz.afQ:oO Tryz.prog 22 1 ads:=oO.list Tryz.underlying22 (by kernel_rfl) Tryz.aiR (ZcH (by kernel_rfl)) (by decide) (fun _ _ _=>rfl)
theorem Tryz.afR:jX Tryz.prog 72 1 adt:=jX.list Tryz.underlying72 (by kernel_rfl) Tryz.aiN (by decide) (fun _ h _=>afL h)
end Go.Proofs.YthccglceomoboaaGreatDoor
