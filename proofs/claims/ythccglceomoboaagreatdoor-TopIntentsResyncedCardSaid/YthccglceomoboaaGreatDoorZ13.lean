/-
  Part 13 of the texts that the statement stands on.
-/
import Derived.Test.YthccglceomoboaaGreatDoorZ12
import Derived.Test.YthccglceomoboaaGreatDoorRows
import Derived.Lib.LaidTab
import Derived.LaidByTextLater
import Derived.SizedLaws
set_option linter.all false
open List renaming getElem?_eq_getElem → ZD, forall_mem_cons → Z6, getElem?_eq_some_iff → za, length_map → zb, getElem?_map → zc, all_eq_true → zw, getD_eq_getElem?_getD → zP, mem_append → ZaB, mem_iff_getElem? → ZaR
open Bool renaming and_eq_true → ZZ
open Option renaming bind_eq_some_iff → ZaK
open Nat renaming eq_zero_or_pos → Za1
open Int renaming ofNat → Zdk
namespace Go.Proofs.YthccglceomoboaaGreatDoor
def dP (P:Program)(f:Nat):ab8→Prop
 |.code fn=>aZ P f fn=true
 |.ext g=>∀ args rs,g args=some rs→callable P f=true∧lW P f args rs
 |.Jr h=>callable P f=true∧Nj P f h
 |.pJ h=>(∀ args,h args=some none→callable P f=true∧lW P f args [])∧∀ args t n,h args=some (some (t,n))→callable P f=true∧XR P f args t n
 |.dfn _=>False
theorem ok8:dP Tryz.prog 8 (.code fn8):=(by kernel_rfl:aZ Tryz.prog 8 fn8=true)
theorem aul:dP Tryz.prog 22 (.code ad1):=(by kernel_rfl:aZ Tryz.prog 22 ad1=true)
theorem aum:dP Tryz.prog 24 (.code ad2):=(by kernel_rfl:aZ Tryz.prog 24 ad2=true)
theorem aun:dP Tryz.prog 26 (.code amv):=(by kernel_rfl:aZ Tryz.prog 26 amv=true)
theorem auo:dP Tryz.prog 27 (.code amw):=(by kernel_rfl:aZ Tryz.prog 27 amw=true)
theorem aup:dP Tryz.prog 28 (.code amx):=(by kernel_rfl:aZ Tryz.prog 28 amx=true)
theorem auq:dP Tryz.prog 30 (.code amy):=(by kernel_rfl:aZ Tryz.prog 30 amy=true)
theorem aur:dP Tryz.prog 31 (.code amA):=(by kernel_rfl:aZ Tryz.prog 31 amA=true)
theorem ok32:dP Tryz.prog 32 (.code amB):=(by kernel_rfl:aZ Tryz.prog 32 amB=true)
theorem aus:dP Tryz.prog 39 (.ext vT):=aby
theorem aut:dP Tryz.prog 43 (.code WY):=(by kernel_rfl:aZ Tryz.prog 43 WY=true)
theorem auu:dP Tryz.prog 44 (.code ad3):=(by kernel_rfl:aZ Tryz.prog 44 ad3=true)
theorem auv:dP Tryz.prog 45 (.code ad4):=(by kernel_rfl:aZ Tryz.prog 45 ad4=true)
theorem auw:dP Tryz.prog 46 (.code WZ):=(by kernel_rfl:aZ Tryz.prog 46 WZ=true)
theorem auy:dP Tryz.prog 47 (.code aaC):=(by kernel_rfl:aZ Tryz.prog 47 aaC=true)
theorem auz:dP Tryz.prog 48 (.code ad5):=(by kernel_rfl:aZ Tryz.prog 48 ad5=true)
theorem auA:dP Tryz.prog 52 (.code aaD):=(by kernel_rfl:aZ Tryz.prog 52 aaD=true)
theorem auB:dP Tryz.prog 67 (.code aaE):=(by kernel_rfl:aZ Tryz.prog 67 aaE=true)
theorem auC:dP Tryz.prog 76 (.code ad6):=(by kernel_rfl:aZ Tryz.prog 76 ad6=true)
theorem auD:dP Tryz.prog 85 (.code ad7):=(by kernel_rfl:aZ Tryz.prog 85 ad7=true)
theorem auE:dP Tryz.prog 87 (.code aaF):=(by kernel_rfl:aZ Tryz.prog 87 aaF=true)
theorem auF:dP Tryz.prog 88 (.code aaG):=(by kernel_rfl:aZ Tryz.prog 88 aaG=true)
theorem auG:dP Tryz.prog 89 (.code Dj):=(by kernel_rfl:aZ Tryz.prog 89 Dj=true)
theorem auH:dP Tryz.prog 90 (.code aaH):=(by kernel_rfl:aZ Tryz.prog 90 aaH=true)
theorem auI:dP Tryz.prog 91 (.code amC):=(by kernel_rfl:aZ Tryz.prog 91 amC=true)
theorem auJ:dP Tryz.prog 92 (.code amD):=(by kernel_rfl:aZ Tryz.prog 92 amD=true)
theorem auK:dP Tryz.prog 93 (.code amE):=(by kernel_rfl:aZ Tryz.prog 93 amE=true)
theorem auL:dP Tryz.prog 94 (.code amF):=(by kernel_rfl:aZ Tryz.prog 94 amF=true)
theorem auM:dP Tryz.prog 95 (.code amG):=(by kernel_rfl:aZ Tryz.prog 95 amG=true)
theorem auN:dP Tryz.prog 96 (.code amH):=(by kernel_rfl:aZ Tryz.prog 96 amH=true)
theorem auO:dP Tryz.prog 97 (.code amI):=(by kernel_rfl:aZ Tryz.prog 97 amI=true)
theorem auP:dP Tryz.prog 98 (.code amJ):=(by kernel_rfl:aZ Tryz.prog 98 amJ=true)
theorem auQ:dP Tryz.prog 99 (.code ad8):=(by kernel_rfl:aZ Tryz.prog 99 ad8=true)
theorem arb:dP Tryz.prog 100 (.code Q8):=(by kernel_rfl:aZ Tryz.prog 100 Q8=true)
theorem ard:dP Tryz.prog 101 (.code aeb):=(by kernel_rfl:aZ Tryz.prog 101 aeb=true)
theorem arf:dP Tryz.prog 102 (.code aee):=(by kernel_rfl:aZ Tryz.prog 102 aee=true)
theorem arh:dP Tryz.prog 103 (.code aef):=(by kernel_rfl:aZ Tryz.prog 103 aef=true)
theorem ari:dP Tryz.prog 104 (.code aek):=(by kernel_rfl:aZ Tryz.prog 104 aek=true)
theorem arj:dP Tryz.prog 105 (.code ael):=(by kernel_rfl:aZ Tryz.prog 105 ael=true)
theorem ark:dP Tryz.prog 106 (.code GK):=(by kernel_rfl:aZ Tryz.prog 106 GK=true)
theorem arl:dP Tryz.prog 107 (.ext (jy 1)):=UE
theorem arn:dP Tryz.prog 108 (.code aem):=(by kernel_rfl:aZ Tryz.prog 108 aem=true)
theorem aro:dP Tryz.prog 109 (.code aep):=(by kernel_rfl:aZ Tryz.prog 109 aep=true)
theorem arp:dP Tryz.prog 116 (.code GN):=(by kernel_rfl:aZ Tryz.prog 116 GN=true)
theorem arq:dP Tryz.prog 120 (.ext (jy 1)):=UG
theorem ars:dP Tryz.prog 131 (.code Lc):=(by kernel_rfl:aZ Tryz.prog 131 Lc=true)
theorem aru:dP Tryz.prog 132 (.code Q9):=(by kernel_rfl:aZ Tryz.prog 132 Q9=true)
theorem arv:dP Tryz.prog 133 (.ext (jy 8)):=UC
theorem arw:dP Tryz.prog 134 (.code rE):=(by kernel_rfl:aZ Tryz.prog 134 rE=true)
theorem arx:dP Tryz.prog 135 (.code Rf):=(by kernel_rfl:aZ Tryz.prog 135 Rf=true)
theorem arz:dP Tryz.prog 136 (.code Rh):=(by kernel_rfl:aZ Tryz.prog 136 Rh=true)
theorem arA:dP Tryz.prog 137 (.code Ri):=(by kernel_rfl:aZ Tryz.prog 137 Ri=true)
theorem arB:dP Tryz.prog 138 (.code Rj):=(by kernel_rfl:aZ Tryz.prog 138 Rj=true)
theorem arC:dP Tryz.prog 139 (.code Rk):=(by kernel_rfl:aZ Tryz.prog 139 Rk=true)
theorem arD:dP Tryz.prog 140 (.code Rl):=(by kernel_rfl:aZ Tryz.prog 140 Rl=true)
theorem arE:dP Tryz.prog 141 (.code Rn):=(by kernel_rfl:aZ Tryz.prog 141 Rn=true)
theorem arF:dP Tryz.prog 142 (.code Ro):=(by kernel_rfl:aZ Tryz.prog 142 Ro=true)
theorem arG:dP Tryz.prog 143 (.code Rq):=(by kernel_rfl:aZ Tryz.prog 143 Rq=true)
theorem arH:dP Tryz.prog 154 (.code Rt):=(by kernel_rfl:aZ Tryz.prog 154 Rt=true)
theorem arI:dP Tryz.prog 158 (.code Ru):=(by kernel_rfl:aZ Tryz.prog 158 Ru=true)
theorem arJ:dP Tryz.prog 159 (.code Rw):=(by kernel_rfl:aZ Tryz.prog 159 Rw=true)
theorem arK:dP Tryz.prog 161 (.code zy):=(by kernel_rfl:aZ Tryz.prog 161 zy=true)
theorem arL:dP Tryz.prog 165 (.code Rx):=(by kernel_rfl:aZ Tryz.prog 165 Rx=true)
theorem arM:dP Tryz.prog 166 (.code Ry):=(by kernel_rfl:aZ Tryz.prog 166 Ry=true)
theorem arN:dP Tryz.prog 169 (.code He):=(by kernel_rfl:aZ Tryz.prog 169 He=true)
theorem arO:dP Tryz.prog 170 (.code Rz):=(by kernel_rfl:aZ Tryz.prog 170 Rz=true)
theorem arP:dP Tryz.prog 172 (.code Em):=(by kernel_rfl:aZ Tryz.prog 172 Em=true)
theorem arQ:dP Tryz.prog 173 (.code RD):=(by kernel_rfl:aZ Tryz.prog 173 RD=true)
theorem arR:dP Tryz.prog 174 (.code En):=(by kernel_rfl:aZ Tryz.prog 174 En=true)
theorem arS:dP Tryz.prog 175 (.code Ld):=(by kernel_rfl:aZ Tryz.prog 175 Ld=true)
theorem arT:dP Tryz.prog 176 (.code RF):=(by kernel_rfl:aZ Tryz.prog 176 RF=true)
theorem arU:dP Tryz.prog 177 (.code Eo):=(by kernel_rfl:aZ Tryz.prog 177 Eo=true)
theorem arV:dP Tryz.prog 178 (.code RG):=(by kernel_rfl:aZ Tryz.prog 178 RG=true)
theorem arW:dP Tryz.prog 179 (.code RH):=(by kernel_rfl:aZ Tryz.prog 179 RH=true)
theorem arX:dP Tryz.prog 180 (.code RI):=(by kernel_rfl:aZ Tryz.prog 180 RI=true)
theorem arY:dP Tryz.prog 181 (.code BF):=(by kernel_rfl:aZ Tryz.prog 181 BF=true)
theorem arZ:dP Tryz.prog 182 (.code RJ):=(by kernel_rfl:aZ Tryz.prog 182 RJ=true)
theorem ar0:dP Tryz.prog 183 (.code RN):=(by kernel_rfl:aZ Tryz.prog 183 RN=true)
theorem ar1:dP Tryz.prog 184 (.code aeu):=(by kernel_rfl:aZ Tryz.prog 184 aeu=true)
theorem ar2:dP Tryz.prog 185 (.code aex):=(by kernel_rfl:aZ Tryz.prog 185 aex=true)
theorem ar4:dP Tryz.prog 186 (.code aeC):=(by kernel_rfl:aZ Tryz.prog 186 aeC=true)
theorem ar5:dP Tryz.prog 187 (.code aeF):=(by kernel_rfl:aZ Tryz.prog 187 aeF=true)
theorem ar6:dP Tryz.prog 188 (.code aeI):=(by kernel_rfl:aZ Tryz.prog 188 aeI=true)
theorem ar7:dP Tryz.prog 189 (.code aeJ):=(by kernel_rfl:aZ Tryz.prog 189 aeJ=true)
theorem ar8:dP Tryz.prog 190 (.code aeM):=(by kernel_rfl:aZ Tryz.prog 190 aeM=true)
theorem ar9:dP Tryz.prog 191 (.code aeP):=(by kernel_rfl:aZ Tryz.prog 191 aeP=true)
theorem asa:dP Tryz.prog 192 (.code aeS):=(by kernel_rfl:aZ Tryz.prog 192 aeS=true)
theorem asb:dP Tryz.prog 193 (.code aeT):=(by kernel_rfl:aZ Tryz.prog 193 aeT=true)
theorem asc:dP Tryz.prog 194 (.code aeU):=(by kernel_rfl:aZ Tryz.prog 194 aeU=true)
theorem ase:dP Tryz.prog 195 (.code aeX):=(by kernel_rfl:aZ Tryz.prog 195 aeX=true)
theorem asf:dP Tryz.prog 196 (.code ae2):=(by kernel_rfl:aZ Tryz.prog 196 ae2=true)
theorem ash:dP Tryz.prog 206 (.code RP):=(by kernel_rfl:aZ Tryz.prog 206 RP=true)
theorem asi:dP Tryz.prog 207 (.code RQ):=(by kernel_rfl:aZ Tryz.prog 207 RQ=true)
theorem asj:dP Tryz.prog 208 (.code RS):=(by kernel_rfl:aZ Tryz.prog 208 RS=true)
theorem aso:dP Tryz.prog 209 (.code RU):=(by kernel_rfl:aZ Tryz.prog 209 RU=true)
theorem asq:dP Tryz.prog 210 (.code Le):=(by kernel_rfl:aZ Tryz.prog 210 Le=true)
theorem asr:dP Tryz.prog 211 (.code Lh):=(by kernel_rfl:aZ Tryz.prog 211 Lh=true)
theorem asu:dP Tryz.prog 212 (.code RV):=(by kernel_rfl:aZ Tryz.prog 212 RV=true)
theorem asv:dP Tryz.prog 213 (.code RX):=(by kernel_rfl:aZ Tryz.prog 213 RX=true)
theorem asw:dP Tryz.prog 214 (.code RY):=(by kernel_rfl:aZ Tryz.prog 214 RY=true)
theorem asx:dP Tryz.prog 215 (.code RZ):=(by kernel_rfl:aZ Tryz.prog 215 RZ=true)
theorem asy:dP Tryz.prog 219 (.code Si):=(by kernel_rfl:aZ Tryz.prog 219 Si=true)
theorem asA:dP Tryz.prog 221 (.code Sj):=(by kernel_rfl:aZ Tryz.prog 221 Sj=true)
theorem asB:dP Tryz.prog 222 (.code Sm):=(by kernel_rfl:aZ Tryz.prog 222 Sm=true)
theorem asC:dP Tryz.prog 223 (.code Sr):=(by kernel_rfl:aZ Tryz.prog 223 Sr=true)
theorem asD:dP Tryz.prog 227 (.code Sv):=(by kernel_rfl:aZ Tryz.prog 227 Sv=true)
theorem asE:dP Tryz.prog 228 (.code Sz):=(by kernel_rfl:aZ Tryz.prog 228 Sz=true)
theorem asF:dP Tryz.prog 229 (.code SA):=(by kernel_rfl:aZ Tryz.prog 229 SA=true)
theorem asG:dP Tryz.prog 233 (.code SB):=(by kernel_rfl:aZ Tryz.prog 233 SB=true)
theorem asH:dP Tryz.prog 234 (.code H7):=(by kernel_rfl:aZ Tryz.prog 234 H7=true)
theorem asI:dP Tryz.prog 235 (.code BG):=(by kernel_rfl:aZ Tryz.prog 235 BG=true)
theorem asJ:dP Tryz.prog 236 (.code Lj):=(by kernel_rfl:aZ Tryz.prog 236 Lj=true)
theorem asK:dP Tryz.prog 237 (.code Ll):=(by kernel_rfl:aZ Tryz.prog 237 Ll=true)
theorem asL:dP Tryz.prog 238 (.code SC):=(by kernel_rfl:aZ Tryz.prog 238 SC=true)
theorem asM:dP Tryz.prog 239 (.code Lm):=(by kernel_rfl:aZ Tryz.prog 239 Lm=true)
theorem asN:dP Tryz.prog 240 (.code SE):=(by kernel_rfl:aZ Tryz.prog 240 SE=true)
theorem asO:dP Tryz.prog 241 (.code SG):=(by kernel_rfl:aZ Tryz.prog 241 SG=true)
theorem asP:dP Tryz.prog 242 (.code SH):=(by kernel_rfl:aZ Tryz.prog 242 SH=true)
theorem asQ:dP Tryz.prog 243 (.code SI):=(by kernel_rfl:aZ Tryz.prog 243 SI=true)
theorem asR:dP Tryz.prog 244 (.code Ic):=(by kernel_rfl:aZ Tryz.prog 244 Ic=true)
theorem asT:dP Tryz.prog 245 (.ext (jy 1)):=UJ
theorem asU:dP Tryz.prog 246 (.code SK):=(by kernel_rfl:aZ Tryz.prog 246 SK=true)
theorem asV:dP Tryz.prog 247 (.code SL):=(by kernel_rfl:aZ Tryz.prog 247 SL=true)
theorem asW:dP Tryz.prog 248 (.code ae3):=(by kernel_rfl:aZ Tryz.prog 248 ae3=true)
theorem asX:dP Tryz.prog 252 (.code SN):=(by kernel_rfl:aZ Tryz.prog 252 SN=true)
theorem asY:dP Tryz.prog 253 (.code SQ):=(by kernel_rfl:aZ Tryz.prog 253 SQ=true)
theorem asZ:dP Tryz.prog 254 (.code Lp):=(by kernel_rfl:aZ Tryz.prog 254 Lp=true)
theorem as1:dP Tryz.prog 255 (.code SX):=(by kernel_rfl:aZ Tryz.prog 255 SX=true)
theorem as2:dP Tryz.prog 256 (.code SY):=(by kernel_rfl:aZ Tryz.prog 256 SY=true)
theorem as3:dP Tryz.prog 257 (.code S9):=(by kernel_rfl:aZ Tryz.prog 257 S9=true)
theorem as4:dP Tryz.prog 262 (.code Td):=(by kernel_rfl:aZ Tryz.prog 262 Td=true)
theorem as5:dP Tryz.prog 263 (.code Lr):=(by kernel_rfl:aZ Tryz.prog 263 Lr=true)
theorem as6:dP Tryz.prog 264 (.ext tzX):=aqs
theorem as7:dP Tryz.prog 265 (.code Tf):=(by kernel_rfl:aZ Tryz.prog 265 Tf=true)
theorem as8:dP Tryz.prog 266 (.code Tj):=(by kernel_rfl:aZ Tryz.prog 266 Tj=true)
theorem as9:dP Tryz.prog 267 (.code Ep):=(by kernel_rfl:aZ Tryz.prog 267 Ep=true)
theorem ata:dP Tryz.prog 268 (.code Tm):=(by kernel_rfl:aZ Tryz.prog 268 Tm=true)
theorem atb:dP Tryz.prog 269 (.code Tq):=(by kernel_rfl:aZ Tryz.prog 269 Tq=true)
theorem atc:dP Tryz.prog 270 (.code ae6):=(by kernel_rfl:aZ Tryz.prog 270 ae6=true)
theorem atd:dP Tryz.prog 272 (.code Tt):=(by kernel_rfl:aZ Tryz.prog 272 Tt=true)
theorem ate:dP Tryz.prog 273 (.code Es):=(by kernel_rfl:aZ Tryz.prog 273 Es=true)
theorem atf:dP Tryz.prog 274 (.Jr (mJ 275)):=Uf
theorem atg:dP Tryz.prog 275 (.code ae7):=(by kernel_rfl:aZ Tryz.prog 275 ae7=true)
theorem ath:dP Tryz.prog 276 (.code ae8):=(by kernel_rfl:aZ Tryz.prog 276 ae8=true)
theorem ati:dP Tryz.prog 281 (.code ae9):=(by kernel_rfl:aZ Tryz.prog 281 ae9=true)
set_option maxRecDepth 20000 in
theorem atj:∀ p∈tab,dP Tryz.prog p.1 p.2:=by
 unfold tab
 exact Z6.2 ⟨ok8,Z6.2 ⟨aul,Z6.2 ⟨aum,Z6.2 ⟨aun,Z6.2 ⟨auo,Z6.2 ⟨aup,Z6.2 ⟨auq,Z6.2 ⟨aur,Z6.2 ⟨ok32,Z6.2 ⟨aus,Z6.2 ⟨aut,Z6.2 ⟨auu,Z6.2 ⟨auv,Z6.2 ⟨auw,Z6.2 ⟨auy,Z6.2 ⟨auz,Z6.2 ⟨auA,Z6.2 ⟨auB,Z6.2 ⟨auC,Z6.2 ⟨auD,Z6.2 ⟨auE,Z6.2 ⟨auF,Z6.2 ⟨auG,Z6.2 ⟨auH,Z6.2 ⟨auI,Z6.2 ⟨auJ,Z6.2 ⟨auK,Z6.2 ⟨auL,Z6.2 ⟨auM,Z6.2 ⟨auN,Z6.2 ⟨auO,Z6.2 ⟨auP,Z6.2 ⟨auQ,Z6.2 ⟨arb,Z6.2 ⟨ard,Z6.2 ⟨arf,Z6.2 ⟨arh,Z6.2 ⟨ari,Z6.2 ⟨arj,Z6.2 ⟨ark,Z6.2 ⟨arl,Z6.2 ⟨arn,Z6.2 ⟨aro,Z6.2 ⟨arp,Z6.2 ⟨arq,Z6.2 ⟨ars,Z6.2 ⟨aru,Z6.2 ⟨arv,Z6.2 ⟨arw,Z6.2 ⟨arx,Z6.2 ⟨arz,Z6.2 ⟨arA,Z6.2 ⟨arB,Z6.2 ⟨arC,Z6.2 ⟨arD,Z6.2 ⟨arE,Z6.2 ⟨arF,Z6.2 ⟨arG,Z6.2 ⟨arH,Z6.2 ⟨arI,Z6.2 ⟨arJ,Z6.2 ⟨arK,Z6.2 ⟨arL,Z6.2 ⟨arM,Z6.2 ⟨arN,Z6.2 ⟨arO,Z6.2 ⟨arP,Z6.2 ⟨arQ,Z6.2 ⟨arR,Z6.2 ⟨arS,Z6.2 ⟨arT,Z6.2 ⟨arU,Z6.2 ⟨arV,Z6.2 ⟨arW,Z6.2 ⟨arX,Z6.2 ⟨arY,Z6.2 ⟨arZ,Z6.2 ⟨ar0,Z6.2 ⟨ar1,Z6.2 ⟨ar2,Z6.2 ⟨ar4,Z6.2 ⟨ar5,Z6.2 ⟨ar6,Z6.2 ⟨ar7,Z6.2 ⟨ar8,Z6.2 ⟨ar9,Z6.2 ⟨asa,Z6.2 ⟨asb,Z6.2 ⟨asc,Z6.2 ⟨ase,Z6.2 ⟨asf,Z6.2 ⟨ash,Z6.2 ⟨asi,Z6.2 ⟨asj,Z6.2 ⟨aso,Z6.2 ⟨asq,Z6.2 ⟨asr,Z6.2 ⟨asu,Z6.2 ⟨asv,Z6.2 ⟨asw,Z6.2 ⟨asx,Z6.2 ⟨asy,Z6.2 ⟨asA,Z6.2 ⟨asB,Z6.2 ⟨asC,Z6.2 ⟨asD,Z6.2 ⟨asE,Z6.2 ⟨asF,Z6.2 ⟨asG,Z6.2 ⟨asH,Z6.2 ⟨asI,Z6.2 ⟨asJ,Z6.2 ⟨asK,Z6.2 ⟨asL,Z6.2 ⟨asM,Z6.2 ⟨asN,Z6.2 ⟨asO,Z6.2 ⟨asP,Z6.2 ⟨asQ,Z6.2 ⟨asR,Z6.2 ⟨asT,Z6.2 ⟨asU,Z6.2 ⟨asV,Z6.2 ⟨asW,Z6.2 ⟨asX,Z6.2 ⟨asY,Z6.2 ⟨asZ,Z6.2 ⟨as1,Z6.2 ⟨as2,Z6.2 ⟨as3,Z6.2 ⟨as4,Z6.2 ⟨as5,Z6.2 ⟨as6,Z6.2 ⟨as7,Z6.2 ⟨as8,Z6.2 ⟨as9,Z6.2 ⟨ata,Z6.2 ⟨atb,Z6.2 ⟨atc,Z6.2 ⟨atd,Z6.2 ⟨ate,Z6.2 ⟨atf,Z6.2 ⟨atg,Z6.2 ⟨ath,Z6.2 ⟨ati,fun p hp=>by cases hp⟩⟩⟩⟩⟩⟩⟩⟩⟩⟩⟩⟩⟩⟩⟩⟩⟩⟩⟩⟩⟩⟩⟩⟩⟩⟩⟩⟩⟩⟩⟩⟩⟩⟩⟩⟩⟩⟩⟩⟩⟩⟩⟩⟩⟩⟩⟩⟩⟩⟩⟩⟩⟩⟩⟩⟩⟩⟩⟩⟩⟩⟩⟩⟩⟩⟩⟩⟩⟩⟩⟩⟩⟩⟩⟩⟩⟩⟩⟩⟩⟩⟩⟩⟩⟩⟩⟩⟩⟩⟩⟩⟩⟩⟩⟩⟩⟩⟩⟩⟩⟩⟩⟩⟩⟩⟩⟩⟩⟩⟩⟩⟩⟩⟩⟩⟩⟩⟩⟩⟩⟩⟩⟩⟩⟩⟩⟩⟩⟩⟩⟩⟩⟩⟩⟩⟩⟩⟩⟩⟩⟩⟩⟩⟩⟩
theorem Jl:∀ {l:List (Nat×ab8)} {f:Nat} {d:ab8},l.lookup f=some d→(f,d)∈l
 |(k,v)::l,f,d,h=>by
  rw [List.lookup_cons] at h
  split at h
  ·rename_i e
   have e:f=k:=by simpa using e
   cases h;subst e;simp
  ·exact List.mem_cons_of_mem _ (Jl h)
theorem atl:Ef Tryz.prog env:=fun f d h=>by
 have:=atj _ (Jl h)
 cases d<;>exact this
end Go.Proofs.YthccglceomoboaaGreatDoor
namespace Go.Proofs.YthccglceomoboaaGreatDoor
open Go.RowKit
theorem abQ:(Rows.laid_math_bits_deBruijn64tab:DataW Unit)=Lib.tabData .u8 (Lib.deBruijn64tab.map Zdk):=by kernel_rfl
theorem atm:Tryz.prog.globalNamed "math/bits.deBruijn64tab"=some 0:=by kernel_rfl
theorem Jm {w:World} {l:List (String × DataW Unit)} (hl:l=[("math/bits.deBruijn64tab",Rows.laid_math_bits_deBruijn64tab)]) (h:laidMetH Tryz.prog l w):NR w:=by
 subst hl
 rw [MakeChecks.laidMetH_plain _ _ _ (by kernel_rfl),abQ] at h
 have ht:Lib.TabIs Tryz.prog w "math/bits.deBruijn64tab" .u8 (Lib.deBruijn64tab.map Zdk) :=
  Lib.tabIs_of_head (t:=380) (e:=5) (n:=64) atm (by kernel_rfl) (by kernel_rfl) (by kernel_rfl) (by kernel_rfl) (by kernel_rfl) h
 have hc:∀ i,i<64→w.cell? ⟨0,i,none⟩=some (.int .u8 ((Lib.deBruijn64tab.map Zdk).getD i 0)):=fun i hi=>ht.cell atm i (by simpa [Lib.deBruijn64tab] using hi)
 have hC:cZ w 0:=zT (hc 0 (by decide))
 intro p hp
 obtain rfl:p=_:=List.mem_singleton.1 hp
 refine .cu _ 0 _ 0 (fun i=>.int .u8 ((Lib.deBruijn64tab.map Zdk).getD i 0)) (if_pos hC.lt) hC (fun k x hk=>?_) (fun k x hk=>?_)
 ·have hk':=(za.1 hk).1
  rw [Nat.zero_add]
  exact ⟨hc k (by simpa [Lib.deBruijn64tab] using hk'),rfl⟩
 ·simp only [zc] at hk
  cases e:Lib.deBruijn64tab[k]? with
  |none=>rw [e] at hk;cases hk
  |some n =>
   rw [e] at hk;cases hk
   have:(Lib.deBruijn64tab.map Zdk).getD k 0=(n:Int):=by simp [zP,e]
   rw [this]
   exact .int _ _
end Go.Proofs.YthccglceomoboaaGreatDoor
namespace Go.Proofs.YthccglceomoboaaGreatDoor.V
open Go.RowKit Go.ChangeShapes Go.WideShapes Go.ChangeAt
theorem Tryz.ahx:ownKnob Tryz.prog.godebug=none:=by kernel_rfl
theorem Tryz.Jo:laidOutB Tryz.prog=true:=by kernel_rfl
theorem YR {q:PV}(h:SInt .u8 [q]):∃ b:UInt8,q=.int .u8 (b.toNat:Int):=by
 obtain ⟨n,h1,h2⟩:=h
 have h3:IntKind.u8.min=0:=rfl
 have h4:IntKind.u8.max=255:=rfl
 simp only [Lit.wf,ZZ,decide_eq_true_eq] at h1
 cases h2
 refine ⟨UInt8.ofNat n.toNat,?_⟩
 rw [UInt8.toNat_ofNat_of_lt' (show n.toNat<2 ^ 8 by omega)]
 congr 1;omega
def apH:List PV→Prop:=aqu 8 (SInt .u8)
theorem auR {ps:List PV}(h:apH ps):∃ s:dN,ps=ql s:=by
 obtain ⟨h1,h2⟩:=h
 have:∀ l:List PV,(∀ p∈l,SInt .u8 [p])→∃ m:List UInt8,m.length=l.length∧l=m.map fun b=>.int .u8 (b.toNat:Int):=by
  intro l
  induction l with
  |nil=>exact fun _=>⟨[],rfl,rfl⟩
  |cons p l ih =>
   intro h
   obtain ⟨b,hb⟩:=YR (h p (by simp))
   obtain ⟨m,e1,e2⟩:=ih fun q hq=>h q (by simp [hq])
   exact ⟨b::m,by simp [e1],by rw [hb,e2];rfl⟩
 obtain ⟨m,e1,e2⟩:=this ps h2
 refine ⟨⟨m.toArray,by simp [e1,h1]⟩,?_⟩
 subst e2
 simp [ql,Vector.toList]
theorem alN {α:Type}{n:Nat}{S:List PV→Prop}{wr:List PV→PV}{enc:α→PV}{ok:α→Prop}(hS:∀ ps,S ps→∃ a,ok a∧wr ps=enc a){q:PV}(h:adZ n S wr [q]):∃ l:List α,(∀ a∈l,ok a)∧q=.list n (l.map enc):=by
 obtain ⟨es,h1,h2⟩:=h
 cases h1
 have:∀ es:List PV,(∀ x∈es,∃ q,S q∧x=wr q)→∃ l:List α,(∀ a∈l,ok a)∧es=l.map enc:=by
  intro es
  induction es with
  |nil=>exact fun _=>⟨[],by simp,rfl⟩
  |cons e es ih =>
   intro h
   obtain ⟨q,h3,h4⟩:=h e (by simp)
   obtain ⟨a,h5,h6⟩:=hS q h3
   obtain ⟨l,h7,h8⟩:=ih fun x hx=>h x (by simp [hx])
   exact ⟨a::l,by simp;exact ⟨h5,h7⟩,by rw [h4,h6,h8];rfl⟩
 obtain ⟨l,h3,h4⟩:=this es h2
 exact ⟨l,h3,by rw [h4]⟩
def ahy:List PV→Prop:=adZ 8 apH .agg
theorem atn {q:PV}(h:ahy [q]):∃ l:List dN,q=bM l:=by
 obtain ⟨l,_,e⟩:=alN (enc:=fQ) (ok:=fun _=>True) (fun ps h=>by obtain ⟨s,rfl⟩:=auR h;exact ⟨s,trivial,rfl⟩) h
 exact ⟨l,e⟩
theorem Tryz.abR:lZ Tryz.prog 5 1 (SInt .u8):=lZ.int Tryz.underlying5 (by kernel_rfl)
theorem Tryz.ato:lZ Tryz.prog 129 8 apH:=lZ.arr Tryz.underlying129 Tryz.abR (by kernel_rfl)
theorem Tryz.apJ:lZ Tryz.prog 71 1 ahy:=lZ.list Tryz.underlying71 (by kernel_rfl) Tryz.ato (by decide) (fun _ _ _=>rfl)
end Go.Proofs.YthccglceomoboaaGreatDoor.V
namespace Go.Proofs.YthccglceomoboaaGreatDoor
open Go.RowKit Go.WideShapes
def wC (P:Program)(t:TypeId)(n:Nat)(S:List PV→Prop):Prop :=
 P.cellsOf t=n∧∀ {H:Type} {enc:TypeId×Value→H} {w:World} {fuel:Nat} {cs:List Value} {x:DataW H×List MemPlace},DataW.trod enc P w 0 (fun _=>true) true fuel t cs=some x→(x.1.weights P t).all (·≤reachBytes)=true→∃ ps,S ps∧ps.length=n∧Di w cs ps
def ahz (n:Nat)(S:List PV→Prop)(wr:List PV→PV)(ps:List PV):Prop:=∃ es,ps=[.list n es]∧es.length≤140737488351232∧∀ x∈es,∃ q,S q∧x=wr q
section
variable {P:Program}{t e:TypeId}{n m:Nat}{S:List PV→Prop}{k:IntKind}
theorem wC.of (h:lZ P t n S):wC P t n S:=⟨h.1,fun h1 _=>h.2 h1⟩
theorem wL {H:Type}:∀ {ds:List (DataW H)} {i:Nat} (h:i<ds.length) {y:Nat},y∈ds[i].weights P e→y∈DataW.weightsAll P e ds
 |d::ds,0,_,y,hy=>by
  simp only [DataW.weightsAll,ZaB]
  exact .inl hy
 |d::ds,i+1,h,y,hy=>by
  simp only [DataW.weightsAll,ZaB]
  exact .inr (wL (ds:=ds) (i:=i) (by simpa using h) (by simpa using hy))
 |[],_,h,_,_=>by simp at h
theorem wC.list {wr:List PV→PV}(ht:P.underlying t=some (.slice e))(hc:P.cellsOf t=1)(hr:wC P e n S)(hb:1≤P.bytesOf e)(hpos:0<n)(hw:∀ ps,S ps→ps.length=n→(wr ps).cells=ps):wC P t 1 (ahz n S wr):=⟨hc,fun {H enc w fuel cs x} h hz=>by
 rcases DataW.trod_slice ht h with ⟨rfl,_⟩|⟨a,len,cap,elems,rest,m,_,rfl,rfl,_,hl,hm,hel,hE,hR,_⟩
 ·exact ⟨[.list n []],⟨[],rfl,Nat.zero_le _,fun x hx=>by cases hx⟩,rfl,uH rfl (.nil n none)⟩
 ·have hz1:elems.length≤140737488351232:=by
   have:=zw.1 hz ((elems.length+rest.length)*P.bytesOf e) (by simp [DataW.weights,ht])
   have h3:(elems.length+rest.length)*P.bytesOf e≤140737488351232:=by
    have h:=of_decide_eq_true this
    simpa [reachBytes] using h
   have h4:(elems.length+rest.length)*1≤(elems.length+rest.length)*P.bytesOf e:=Nat.mul_le_mul_left _ hb
   omega
  have hz2:∀ (i:Nat) (h:i<elems.length),(elems[i].1.weights P e).all (·≤reachBytes)=true:=fun i hi=>by
   rw [zw]
   intro y hy
   refine zw.1 hz y ?_
   simp only [DataW.weights,ht,List.mem_cons,ZaB]
   exact .inr (.inl (wL (i:=i) (by simpa using hi) (by simpa using hy)))
  obtain ⟨l,h1,h2⟩:=yV (p:=fun i (y:List Value×List PV)=>w.cells? 0 (a.add (i*n)) n=some y.1∧S y.2∧y.2.length=n∧Di w y.1 y.2) len fun i hi=>by
   have:=hE i hi
   rw [ZD (by omega),hr.1,ZaK] at this
   obtain ⟨c,h3,h4⟩:=this
   obtain ⟨ps,g1,g2,g3⟩:=hr.2 h4 (hz2 i (by omega))
   exact ⟨(c,ps),h3,g1,g2,g3⟩
  refine ⟨[.list n (l.map fun y=>wr y.2)],⟨_,rfl,by rw [zb,h1];omega,fun x hx=>?_⟩,rfl,uH rfl ?_⟩
  ·obtain ⟨y,hy,rfl⟩:=List.mem_map.1 hx
   obtain ⟨i,hi⟩:=ZaR.1 hy
   exact ⟨y.2,(h2 i y hi).2.1,rfl⟩
  ·by_cases hcap:cap=0
   ·have:len=0:=by omega
    subst hcap;subst this
    have:l=[]:=List.eq_nil_of_length_eq_zero h1
    subst this
    exact .nil n (some a)
   ·-- there are cells
    have hcell:∃ off v,w.cell? ⟨a.block,off,none⟩=some v∧a.spot=none:=by
     have Q7:∀ (i:Nat) (c:List Value),w.cells? 0 (a.add (i*n)) n=some c→∃ off v,w.cell? ⟨a.block,off,none⟩=some v∧a.spot=none:=fun i c h3=>by
      obtain ⟨_,hc0,h4⟩:=World.cells?_some h3
      have h5:=h4 0 hpos
      rw [ZD (by omega)] at h5
      have hs:(a.add (i*n)).spot=none:=by simpa [Addr.add] using World.cell?_spot h5
      have hs0:a.spot=none:=by
       unfold Addr.add at hs
       split at hs
       ·exact hs
       ·rename_i hne
        by_cases h0:i*n=0
        ·rename_i q;exact absurd h0 (by simpa using hne)
        ·rcases Za1 i with hi0|hi0
         ·subst hi0;simp at h0
         ·-- the row begins at a: its first cell
          have:0<len∨len=0:=by omega
          rcases this with hlen|hlen
          ·obtain ⟨y,hy⟩:∃ y,l[0]?=some y:=⟨l[0],ZD (by omega)⟩
           obtain ⟨_,hc1,h6⟩:=World.cells?_some (h2 0 y hy).1
           have h7:=h6 0 hpos
           rw [ZD (by omega)] at h7
           simpa [Addr.add] using World.cell?_spot h7
          ·have hrl:0<rest.length:=by have:=(hR rfl).1;omega
           have:=(hR rfl).2 0 (by omega)
           have h8:rest[0]?=some rest[0]:=ZD hrl
           rw [h8,hr.1,hlen,ZaK] at this
           obtain ⟨c1,h9,_⟩:=this
           obtain ⟨_,hc1,h6⟩:=World.cells?_some h9
           have h7:=h6 0 hpos
           rw [ZD (by omega)] at h7
           simpa [Addr.add] using World.cell?_spot h7
      obtain ⟨b,off,spot⟩:=a
      simp only at hs0
      subst hs0
      rw [Addr.add_lit,Addr.add_lit] at h5
      exact ⟨_,_,h5,rfl⟩
     rcases Za1 len with hlen|hlen
     ·have hrl:0<rest.length:=by have:=(hR rfl).1;omega
      have:=(hR rfl).2 0 (by omega)
      have h8:rest[0]?=some rest[0]:=ZD hrl
      rw [h8,hr.1,ZaK] at this
      obtain ⟨c1,h9,_⟩:=this
      exact Q7 _ c1 h9
     ·obtain ⟨y,hy⟩:∃ y,l[0]?=some y:=⟨l[0],ZD (by omega)⟩
      exact Q7 0 _ (h2 0 y hy).1
    obtain ⟨aub,v0,hv0,hspot⟩:=hcell
    obtain ⟨b,off,spot⟩:=a
    simp only at hspot hv0
    subst hspot
    have hC:cZ w b:=zT hv0
    have hget:∀ (i:Nat) x,(l.map fun y=>wr y.2)[i]?=some x→∃ y,l[i]?=some y∧x=wr y.2:=fun i x hx=>by
     rw [zc] at hx
     cases e:l[i]? with
     |none=>rw [e] at hx;cases hx
     |some y=>rw [e] at hx;exact ⟨y,rfl,(Option.some.inj hx).symm⟩
    have hlen:(l.map fun y=>wr y.2).length=len:=by simp [h1]
    have:=aO.list (ok:=fun b=>b<w.heap.size) (w:=w) n (l.map fun y=>wr y.2) b off cap (fun i j=>(((l[i]?).map (·.1)).getD []).getD j default) hC.lt hC (by rw [hlen];exact hl) hm
     (fun x hx=>by
      obtain ⟨i,hi⟩:=ZaR.1 hx
      obtain ⟨y,hy,rfl⟩:=hget i x hi
      obtain ⟨_,g1,g2,_⟩:=h2 i y hy
      rw [hw _ g1 g2,g2])
     (fun i x j p hi hj=>by
      obtain ⟨y,hy,rfl⟩:=hget i x hi
      obtain ⟨g0,g1,g2,g3,g4,g5⟩:=h2 i y hy
      rw [hw _ g1 g2] at hj
      have hjn:j<n:=by have:=(za.1 hj).1;omega
      obtain ⟨_,hc1,h6⟩:=World.cells?_some g0
      have h7:=h6 j hjn
      have hcj:y.1[j]?=some y.1[j]:=ZD (by omega)
      have hd:(((l[i]?).map (·.1)).getD []).getD j default=y.1[j]:=by
       rw [hy];simp [zP,hcj]
      rw [hd]
      rw [hcj,Addr.add_lit,Addr.add_lit] at h7
      exact ⟨h7,g4 _ (List.mem_of_getElem? hcj)⟩)
     (fun i x j p hi hj=>by
      obtain ⟨y,hy,rfl⟩:=hget i x hi
      obtain ⟨g0,g1,g2,g3,g4,g5⟩:=h2 i y hy
      rw [hw _ g1 g2] at hj
      have hjn:j<n:=by have:=(za.1 hj).1;omega
      have hcj:y.1[j]?=some y.1[j]:=ZD (by omega)
      have hd:(((l[i]?).map (·.1)).getD []).getD j default=y.1[j]:=by
       rw [hy];simp [zP,hcj]
      rw [hd]
      exact g5 j p _ hj hcj)
    rw [hlen] at this
    exact this⟩
inductive Jp (P:Program):Nat→List Field→List (List PV→Prop)→Nat→Prop
 |nil (o:Nat):Jp P o [] [] 0
 |cons {o n m:Nat} {f:Field} {fs:List Field} {S:List PV→Prop} {Ss:List (List PV→Prop)}:f.offset=o→wC P f.type n S→Jp P (o+n) fs Ss m→Jp P o (f::fs) (S::Ss) (n+m)
theorem Jp.read {o:Nat}{fs:List Field}{Ss:List (List PV→Prop)}(h:Jp P o fs Ss m){H:Type}{enc:TypeId×Value→H}{w:World}{fuel:Nat}{cs:List Value}{xs:List (DataW H×List MemPlace)}(hl:cs.length=o+m)
  (hx:∀ (i:Nat) (f:Field),fs[i]?=some f→∃ x,DataW.trod enc P w 0 (fun _=>true) true fuel f.type ((cs.drop f.offset).take (P.cellsOf f.type))=some x∧(x.1.weights P f.type).all (·≤reachBytes)=true):∃ ps,Q5 Ss ps∧ps.length=m∧Di w (cs.drop o) ps:=by
 induction h with
 |nil o=>exact ⟨[],rfl,rfl,by rw [List.drop_of_length_le (by omega)];exact (⟨rfl,fun c hc=>(by cases hc),fun j x v hx=>(by simp at hx)⟩:Di w [] [])⟩
 |@cons o n m f fs S Ss h1 h2 h3 ih =>
  obtain ⟨x,h4,h5⟩:=hx 0 f rfl
  rw [h2.1,h1] at h4
  obtain ⟨p,g1,g2,g3⟩:=h2.2 h4 h5
  obtain ⟨q,k1,k2,k3⟩:=ih (by omega) (fun i f hf=>hx (i+1) f hf)
  refine ⟨p++q,⟨p,q,rfl,g1,k1⟩,by simp [g2,k2],?_⟩
  have:cs.drop o=(cs.drop o).take n++cs.drop (o+n):=by rw [← List.drop_drop,List.take_append_drop]
  rw [this]
  exact g3.append k3
theorem wC.struct {fs:Array Field}{Ss:List (List PV→Prop)}(ht:P.underlying t=some (.struct fs))(hf:Jp P 0 fs.toList Ss n)(hc:P.cellsOf t=n):wC P t n (Q5 Ss):=⟨hc,fun {H enc w fuel cs x} h hz=>by
 obtain ⟨xs,m,_,rfl,hl,hx,hE⟩:=DataW.trod_struct ht h
 obtain ⟨ps,h1,h2,h3⟩:=hf.read (xs:=xs) (enc:=enc) (w:=w) (fuel:=m) (cs:=cs) (by omega) (fun i f hi=>by
  have hi':fs[i]?=some f:=by simpa using hi
  have:=hE i f hi'
  have hil:i<xs.length:=by rw [hx];exact (Array.getElem?_eq_some_iff.1 hi').1
  refine ⟨xs[i],by rw [this,ZD hil],?_⟩
  rw [zw]
  intro y hy
  refine zw.1 hz y ?_
  simp only [DataW.weights,ht]
  exact DataW.weights_mem_each (j:=i) (t:=f.type) (d:=xs[i].1) (by simp [hi']) (by simp [zc,ZD hil]) y hy)
 exact ⟨ps,h1,h2,by simpa using h3⟩⟩
theorem wC.X3 {f0 f1 f2 f3:Field}{n0 n1 n2 n3:Nat}{S0 S1 S2 S3:List PV→Prop}(ht:P.underlying t=some (.struct #[f0,f1,f2,f3]))(h0:wC P f0.type n0 S0)(h1:wC P f1.type n1 S1)(h2:wC P f2.type n2 S2)(h3:wC P f3.type n3 S3)(o0:f0.offset=0)(o1:f1.offset=0+n0)(o2:f2.offset=0+n0+n1)(o3:f3.offset=0+n0+n1+n2)(hc:P.cellsOf t=n0+(n1+(n2+(n3+0)))):wC P t (n0+(n1+(n2+(n3+0)))) (Q5 [S0,S1,S2,S3]) :=
 wC.struct ht (show Jp P 0 [f0,f1,f2,f3] [S0,S1,S2,S3] (n0+(n1+(n2+(n3+0)))) from .cons o0 h0 (.cons o1 h1 (.cons o2 h2 (.cons o3 h3 (.nil _))))) hc
theorem ahA {H:Type}{enc:TypeId×Value→H}{w:World}{v:Value}{d:DataW H}{p:List MemPlace}(hr:wC P t 1 S)(hone:v.cells.toList=[v])(h:DataW.Trod enc P w 0 (fun _=>true) true t v d p)(hz:(d.weights P t).all (·≤reachBytes)=true) :
  ∃ q,S [q]∧aO (fun b=>b<w.heap.size) w q v:=by
 obtain ⟨fuel,hf⟩:=h
 obtain ⟨ps,h1,h2,h3,h4,h5⟩:=hr.2 hf hz
 match ps,h2 with
 |[q],_=>exact ⟨q,h1,h5 0 q v rfl (by rw [hone];rfl)⟩
theorem XF {H:Type}{enc:TypeId×Value→H}{w:World}{v:Value}{d:DataW H}{p:List MemPlace}{m:Reach}{base:Nat}(ht:P.underlying t=some (.slice e))(hr:wC P t 1 S)(hv:Value.okWide P w m base t v)(h:DataW.Trod enc P w 0 (fun _=>true) true t v d p)(hz:(d.weights P t).all (·≤reachBytes)=true) :
  ∃ q,S [q]∧aO (fun b=>b<w.heap.size) w q v:=by
 obtain ⟨a,l,c,rfl⟩:=okWide_slice ht hv
 exact ahA hr rfl h hz
theorem J5 {H:Type}{t0 t1 t2:TypeId}{d0 d1 d2:DataW H}{ts:List TypeId}{ds:List (DataW H)}(h:(DataW.weightsEach P (t0::t1::t2::ts) (d0::d1::d2::ds)).all (·≤reachBytes)=true):(d0.weights P t0).all (·≤reachBytes)=true∧(d1.weights P t1).all (·≤reachBytes)=true∧(d2.weights P t2).all (·≤reachBytes)=true:=by
 simp only [DataW.weightsEach,List.all_append,ZZ] at h
 exact ⟨h.1,h.2.1,h.2.2.1⟩
end
end Go.Proofs.YthccglceomoboaaGreatDoor
namespace Go.Proofs.YthccglceomoboaaGreatDoor
open V
open Go.RowKit Go.ChangeShapes Go.WideShapes Go.ChangeAt
theorem ahB {q:PV}(h:SInt .u8 [q]):∃ c:Nat,c<256∧q=.int .u8 (c:Int):=by
 obtain ⟨b,e⟩:=YR h
 exact ⟨b.toNat,b.toNat_lt,e⟩
def STe:List PV→Prop:=Q5 [SInt .u8,SInt .u8,SInt .u8,ahy]
theorem ste {ps:List PV}(h:STe ps):∃ x:TE,Ad x∧PV.agg ps=Aj x:=by
 obtain ⟨p,q,rfl,⟨n,h1,rfl⟩,p2,q2,rfl,⟨n2,h2,rfl⟩,p3,q3,rfl,⟨n3,h3,rfl⟩,p4,q4,rfl,h4,rfl⟩:=h
 obtain ⟨a,ha,e1⟩:=ahB ⟨n,h1,rfl⟩
 obtain ⟨b,hb,e2⟩:=ahB ⟨n2,h2,rfl⟩
 obtain ⟨c,hc,e3⟩:=ahB ⟨n3,h3,rfl⟩
 obtain ⟨es,rfl,g4⟩:=h4
 obtain ⟨l,e4⟩:=atn (q:=.list 8 es) ⟨es,rfl,g4⟩
 refine ⟨⟨a,b,c,l⟩,⟨ha,hb,hc⟩,?_⟩
 rw [e1,e2,e3,e4];rfl
def atp:List PV→Prop:=ahz 4 STe .agg
theorem auT {q:PV}(h:atp [q]):∃ l:List TE,(l.length≤140737488351232∧∀ x∈l,Ad x)∧q=.list 4 (l.map Aj):=by
 obtain ⟨es,e1,hl,h3⟩:=h
 cases e1
 obtain ⟨l,hx,e⟩:=alN (enc:=Aj) (ok:=Ad) (fun ps h=>ste h) (q:=.list 4 es) ⟨es,rfl,h3⟩
 refine ⟨l,⟨?_,hx⟩,e⟩
 have:es=l.map Aj:=by injection e
 rw [this,zb] at hl
 exact hl
theorem Tryz.auU:lZ Tryz.prog 119 4 STe:=lZ.X3 Tryz.underlying119 Tryz.abR Tryz.abR Tryz.abR Tryz.apJ rfl rfl rfl rfl (by kernel_rfl)
theorem Tryz.atq:wC Tryz.prog 116 1 atp:=wC.list Tryz.underlying116 (by kernel_rfl) (.of Tryz.auU) (Nat.le_of_ble_eq_true (by kernel_rfl)) (by decide) (fun _ _ _=>rfl)
end Go.Proofs.YthccglceomoboaaGreatDoor
