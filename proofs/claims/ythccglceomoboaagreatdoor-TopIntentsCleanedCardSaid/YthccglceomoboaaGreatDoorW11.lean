/-
  Part 11 of the texts that the statement stands on.
-/
import Derived.Test.YthccglceomoboaaGreatDoorW10
set_option linter.all false
open List renaming forall_mem_cons → Z6
namespace Go.Proofs.YthccglceomoboaaGreatDoor
def dY (P:Program)(f:Nat):ZF→Prop
 |.code fn=>aW P f fn=true
 |.ext g=>∀ args rs,g args=some rs→callable P f=true∧kZ P f args rs
 |.Hw h=>callable P f=true∧KI P f h
 |.oK h=>(∀ args,h args=some none→callable P f=true∧kZ P f args [])∧∀ args t n,h args=some (some (t,n))→callable P f=true∧U7 P f args t n
 |.dfn _=>False
theorem ok7:dY Tryz.prog 7 (.code fn7):=(by kernel_rfl:aW Tryz.prog 7 fn7=true)
theorem aqB:dY Tryz.prog 22 (.code abx):=(by kernel_rfl:aW Tryz.prog 22 abx=true)
theorem aqC:dY Tryz.prog 24 (.code aby):=(by kernel_rfl:aW Tryz.prog 24 aby=true)
theorem aqD:dY Tryz.prog 26 (.code akb):=(by kernel_rfl:aW Tryz.prog 26 akb=true)
theorem aqE:dY Tryz.prog 27 (.code akc):=(by kernel_rfl:aW Tryz.prog 27 akc=true)
theorem aqF:dY Tryz.prog 28 (.code akd):=(by kernel_rfl:aW Tryz.prog 28 akd=true)
theorem aqG:dY Tryz.prog 30 (.code ake):=(by kernel_rfl:aW Tryz.prog 30 ake=true)
theorem aqH:dY Tryz.prog 31 (.code akf):=(by kernel_rfl:aW Tryz.prog 31 akf=true)
theorem ok32:dY Tryz.prog 32 (.code akg):=(by kernel_rfl:aW Tryz.prog 32 akg=true)
theorem aqI:dY Tryz.prog 39 (.ext uN):=Y9
theorem aqJ:dY Tryz.prog 43 (.code akh):=(by kernel_rfl:aW Tryz.prog 43 akh=true)
theorem aqK:dY Tryz.prog 44 (.code abz):=(by kernel_rfl:aW Tryz.prog 44 abz=true)
theorem aqL:dY Tryz.prog 45 (.code abA):=(by kernel_rfl:aW Tryz.prog 45 abA=true)
theorem aqM:dY Tryz.prog 52 (.code Yf):=(by kernel_rfl:aW Tryz.prog 52 Yf=true)
theorem aqN:dY Tryz.prog 76 (.code aki):=(by kernel_rfl:aW Tryz.prog 76 aki=true)
theorem aqO:dY Tryz.prog 85 (.code abB):=(by kernel_rfl:aW Tryz.prog 85 abB=true)
theorem aqP:dY Tryz.prog 87 (.code Yg):=(by kernel_rfl:aW Tryz.prog 87 Yg=true)
theorem aqQ:dY Tryz.prog 88 (.code Yh):=(by kernel_rfl:aW Tryz.prog 88 Yh=true)
theorem aqR:dY Tryz.prog 89 (.code BL):=(by kernel_rfl:aW Tryz.prog 89 BL=true)
theorem aqS:dY Tryz.prog 90 (.code Yi):=(by kernel_rfl:aW Tryz.prog 90 Yi=true)
theorem aqT:dY Tryz.prog 91 (.code akj):=(by kernel_rfl:aW Tryz.prog 91 akj=true)
theorem aqU:dY Tryz.prog 92 (.code akk):=(by kernel_rfl:aW Tryz.prog 92 akk=true)
theorem aqV:dY Tryz.prog 93 (.code akl):=(by kernel_rfl:aW Tryz.prog 93 akl=true)
theorem aqW:dY Tryz.prog 94 (.code akm):=(by kernel_rfl:aW Tryz.prog 94 akm=true)
theorem aqX:dY Tryz.prog 95 (.code akn):=(by kernel_rfl:aW Tryz.prog 95 akn=true)
theorem aqY:dY Tryz.prog 96 (.code ako):=(by kernel_rfl:aW Tryz.prog 96 ako=true)
theorem aqZ:dY Tryz.prog 97 (.code akp):=(by kernel_rfl:aW Tryz.prog 97 akp=true)
theorem aq0:dY Tryz.prog 98 (.code akq):=(by kernel_rfl:aW Tryz.prog 98 akq=true)
theorem aq1:dY Tryz.prog 99 (.code akr):=(by kernel_rfl:aW Tryz.prog 99 akr=true)
theorem anX:dY Tryz.prog 100 (.code abE):=(by kernel_rfl:aW Tryz.prog 100 abE=true)
theorem anY:dY Tryz.prog 101 (.code abI):=(by kernel_rfl:aW Tryz.prog 101 abI=true)
theorem anZ:dY Tryz.prog 102 (.code abL):=(by kernel_rfl:aW Tryz.prog 102 abL=true)
theorem an0:dY Tryz.prog 103 (.code abM):=(by kernel_rfl:aW Tryz.prog 103 abM=true)
theorem an1:dY Tryz.prog 104 (.code abR):=(by kernel_rfl:aW Tryz.prog 104 abR=true)
theorem an2:dY Tryz.prog 105 (.code abS):=(by kernel_rfl:aW Tryz.prog 105 abS=true)
theorem an3:dY Tryz.prog 106 (.code Fv):=(by kernel_rfl:aW Tryz.prog 106 Fv=true)
theorem an4:dY Tryz.prog 107 (.ext (jo 1)):=QN
theorem an5:dY Tryz.prog 108 (.code abT):=(by kernel_rfl:aW Tryz.prog 108 abT=true)
theorem an6:dY Tryz.prog 109 (.code abW):=(by kernel_rfl:aW Tryz.prog 109 abW=true)
theorem an7:dY Tryz.prog 116 (.code FB):=(by kernel_rfl:aW Tryz.prog 116 FB=true)
theorem an8:dY Tryz.prog 120 (.ext (jo 1)):=QS
theorem an9:dY Tryz.prog 131 (.code abX):=(by kernel_rfl:aW Tryz.prog 131 abX=true)
theorem aoa:dY Tryz.prog 132 (.code abY):=(by kernel_rfl:aW Tryz.prog 132 abY=true)
theorem aob:dY Tryz.prog 133 (.ext (jo 8)):=QL
theorem aoc:dY Tryz.prog 134 (.code qL):=(by kernel_rfl:aW Tryz.prog 134 qL=true)
theorem aod:dY Tryz.prog 143 (.code O6):=(by kernel_rfl:aW Tryz.prog 143 O6=true)
theorem aoe:dY Tryz.prog 154 (.code O7):=(by kernel_rfl:aW Tryz.prog 154 O7=true)
theorem aof:dY Tryz.prog 161 (.code yJ):=(by kernel_rfl:aW Tryz.prog 161 yJ=true)
theorem aog:dY Tryz.prog 165 (.code abZ):=(by kernel_rfl:aW Tryz.prog 165 abZ=true)
theorem aoh:dY Tryz.prog 166 (.code ab1):=(by kernel_rfl:aW Tryz.prog 166 ab1=true)
theorem aoi:dY Tryz.prog 169 (.code FH):=(by kernel_rfl:aW Tryz.prog 169 FH=true)
theorem aoj:dY Tryz.prog 170 (.code O8):=(by kernel_rfl:aW Tryz.prog 170 O8=true)
theorem aok:dY Tryz.prog 172 (.code Dv):=(by kernel_rfl:aW Tryz.prog 172 Dv=true)
theorem aol:dY Tryz.prog 173 (.code O9):=(by kernel_rfl:aW Tryz.prog 173 O9=true)
theorem aom:dY Tryz.prog 174 (.code Dw):=(by kernel_rfl:aW Tryz.prog 174 Dw=true)
theorem aon:dY Tryz.prog 175 (.code JA):=(by kernel_rfl:aW Tryz.prog 175 JA=true)
theorem aoo:dY Tryz.prog 176 (.code Pg):=(by kernel_rfl:aW Tryz.prog 176 Pg=true)
theorem aop:dY Tryz.prog 177 (.code Dx):=(by kernel_rfl:aW Tryz.prog 177 Dx=true)
theorem aoq:dY Tryz.prog 178 (.code Ph):=(by kernel_rfl:aW Tryz.prog 178 Ph=true)
theorem aor:dY Tryz.prog 179 (.code Pj):=(by kernel_rfl:aW Tryz.prog 179 Pj=true)
theorem aos:dY Tryz.prog 180 (.code Pm):=(by kernel_rfl:aW Tryz.prog 180 Pm=true)
theorem aot:dY Tryz.prog 181 (.code Aq):=(by kernel_rfl:aW Tryz.prog 181 Aq=true)
theorem aou:dY Tryz.prog 182 (.code Pn):=(by kernel_rfl:aW Tryz.prog 182 Pn=true)
theorem aov:dY Tryz.prog 183 (.code Po):=(by kernel_rfl:aW Tryz.prog 183 Po=true)
theorem aow:dY Tryz.prog 184 (.code ab4):=(by kernel_rfl:aW Tryz.prog 184 ab4=true)
theorem aox:dY Tryz.prog 185 (.code ab7):=(by kernel_rfl:aW Tryz.prog 185 ab7=true)
theorem aoy:dY Tryz.prog 186 (.code acf):=(by kernel_rfl:aW Tryz.prog 186 acf=true)
theorem aoz:dY Tryz.prog 187 (.code aci):=(by kernel_rfl:aW Tryz.prog 187 aci=true)
theorem aoA:dY Tryz.prog 188 (.code aco):=(by kernel_rfl:aW Tryz.prog 188 aco=true)
theorem aoB:dY Tryz.prog 189 (.code acp):=(by kernel_rfl:aW Tryz.prog 189 acp=true)
theorem aoC:dY Tryz.prog 190 (.code acu):=(by kernel_rfl:aW Tryz.prog 190 acu=true)
theorem aoD:dY Tryz.prog 191 (.code acy):=(by kernel_rfl:aW Tryz.prog 191 acy=true)
theorem aoE:dY Tryz.prog 192 (.code acB):=(by kernel_rfl:aW Tryz.prog 192 acB=true)
theorem aoF:dY Tryz.prog 193 (.code acC):=(by kernel_rfl:aW Tryz.prog 193 acC=true)
theorem aoG:dY Tryz.prog 194 (.code acD):=(by kernel_rfl:aW Tryz.prog 194 acD=true)
theorem aoH:dY Tryz.prog 195 (.code acG):=(by kernel_rfl:aW Tryz.prog 195 acG=true)
theorem aoI:dY Tryz.prog 196 (.code acL):=(by kernel_rfl:aW Tryz.prog 196 acL=true)
theorem aoJ:dY Tryz.prog 206 (.code acO):=(by kernel_rfl:aW Tryz.prog 206 acO=true)
theorem aoK:dY Tryz.prog 207 (.code acP):=(by kernel_rfl:aW Tryz.prog 207 acP=true)
theorem aoL:dY Tryz.prog 208 (.code acQ):=(by kernel_rfl:aW Tryz.prog 208 acQ=true)
theorem aoM:dY Tryz.prog 209 (.code acV):=(by kernel_rfl:aW Tryz.prog 209 acV=true)
theorem aoN:dY Tryz.prog 210 (.code JB):=(by kernel_rfl:aW Tryz.prog 210 JB=true)
theorem aoO:dY Tryz.prog 211 (.code JC):=(by kernel_rfl:aW Tryz.prog 211 JC=true)
theorem aoP:dY Tryz.prog 212 (.code Pq):=(by kernel_rfl:aW Tryz.prog 212 Pq=true)
theorem aoQ:dY Tryz.prog 213 (.code Pv):=(by kernel_rfl:aW Tryz.prog 213 Pv=true)
theorem aoR:dY Tryz.prog 214 (.code Px):=(by kernel_rfl:aW Tryz.prog 214 Px=true)
theorem aoS:dY Tryz.prog 219 (.code Py):=(by kernel_rfl:aW Tryz.prog 219 Py=true)
theorem aoT:dY Tryz.prog 222 (.code Pz):=(by kernel_rfl:aW Tryz.prog 222 Pz=true)
theorem aoU:dY Tryz.prog 223 (.code acW):=(by kernel_rfl:aW Tryz.prog 223 acW=true)
theorem aoV:dY Tryz.prog 227 (.code acX):=(by kernel_rfl:aW Tryz.prog 227 acX=true)
theorem aoW:dY Tryz.prog 228 (.code ac0):=(by kernel_rfl:aW Tryz.prog 228 ac0=true)
theorem aoX:dY Tryz.prog 229 (.code ac1):=(by kernel_rfl:aW Tryz.prog 229 ac1=true)
theorem aoY:dY Tryz.prog 233 (.code PD):=(by kernel_rfl:aW Tryz.prog 233 PD=true)
theorem aoZ:dY Tryz.prog 234 (.code FQ):=(by kernel_rfl:aW Tryz.prog 234 FQ=true)
theorem ao0:dY Tryz.prog 235 (.code Ar):=(by kernel_rfl:aW Tryz.prog 235 Ar=true)
theorem ao1:dY Tryz.prog 236 (.code JD):=(by kernel_rfl:aW Tryz.prog 236 JD=true)
theorem ao2:dY Tryz.prog 237 (.code JE):=(by kernel_rfl:aW Tryz.prog 237 JE=true)
theorem ao3:dY Tryz.prog 238 (.code PE):=(by kernel_rfl:aW Tryz.prog 238 PE=true)
theorem ao4:dY Tryz.prog 239 (.code JF):=(by kernel_rfl:aW Tryz.prog 239 JF=true)
theorem ao5:dY Tryz.prog 240 (.code PG):=(by kernel_rfl:aW Tryz.prog 240 PG=true)
theorem ao6:dY Tryz.prog 241 (.code PI):=(by kernel_rfl:aW Tryz.prog 241 PI=true)
theorem ao7:dY Tryz.prog 242 (.code PK):=(by kernel_rfl:aW Tryz.prog 242 PK=true)
theorem ao8:dY Tryz.prog 243 (.code PL):=(by kernel_rfl:aW Tryz.prog 243 PL=true)
theorem ao9:dY Tryz.prog 244 (.code FX):=(by kernel_rfl:aW Tryz.prog 244 FX=true)
theorem apa:dY Tryz.prog 245 (.ext (jo 1)):=QU
theorem apc:dY Tryz.prog 246 (.code PN):=(by kernel_rfl:aW Tryz.prog 246 PN=true)
theorem apd:dY Tryz.prog 247 (.code PO):=(by kernel_rfl:aW Tryz.prog 247 PO=true)
theorem ape:dY Tryz.prog 248 (.code ac2):=(by kernel_rfl:aW Tryz.prog 248 ac2=true)
theorem aph:dY Tryz.prog 252 (.code ac5):=(by kernel_rfl:aW Tryz.prog 252 ac5=true)
theorem apj:dY Tryz.prog 253 (.code PS):=(by kernel_rfl:aW Tryz.prog 253 PS=true)
theorem apk:dY Tryz.prog 254 (.code JG):=(by kernel_rfl:aW Tryz.prog 254 JG=true)
theorem apl:dY Tryz.prog 255 (.code PY):=(by kernel_rfl:aW Tryz.prog 255 PY=true)
theorem apm:dY Tryz.prog 256 (.code PZ):=(by kernel_rfl:aW Tryz.prog 256 PZ=true)
theorem apn:dY Tryz.prog 257 (.code P6):=(by kernel_rfl:aW Tryz.prog 257 P6=true)
theorem apo:dY Tryz.prog 262 (.code P7):=(by kernel_rfl:aW Tryz.prog 262 P7=true)
theorem apq:dY Tryz.prog 263 (.code JH):=(by kernel_rfl:aW Tryz.prog 263 JH=true)
theorem apr:dY Tryz.prog 264 (.ext tzX):=anp
theorem aps:dY Tryz.prog 266 (.code ac8):=(by kernel_rfl:aW Tryz.prog 266 ac8=true)
theorem apt:dY Tryz.prog 267 (.code Dy):=(by kernel_rfl:aW Tryz.prog 267 Dy=true)
theorem apu:dY Tryz.prog 268 (.code P8):=(by kernel_rfl:aW Tryz.prog 268 P8=true)
theorem apv:dY Tryz.prog 269 (.code P9):=(by kernel_rfl:aW Tryz.prog 269 P9=true)
theorem apw:dY Tryz.prog 270 (.code adb):=(by kernel_rfl:aW Tryz.prog 270 adb=true)
theorem apx:dY Tryz.prog 272 (.code Qc):=(by kernel_rfl:aW Tryz.prog 272 Qc=true)
theorem apy:dY Tryz.prog 273 (.code Dz):=(by kernel_rfl:aW Tryz.prog 273 Dz=true)
theorem apz:dY Tryz.prog 274 (.Hw (lQ 275)):=QA
theorem apA:dY Tryz.prog 275 (.code ade):=(by kernel_rfl:aW Tryz.prog 275 ade=true)
theorem apB:dY Tryz.prog 276 (.code adf):=(by kernel_rfl:aW Tryz.prog 276 adf=true)
theorem apC:dY Tryz.prog 281 (.code adg):=(by kernel_rfl:aW Tryz.prog 281 adg=true)
set_option maxRecDepth 20000 in
theorem apD:∀ p∈tab,dY Tryz.prog p.1 p.2:=by
 unfold tab
 exact Z6.2 ⟨ok7,Z6.2 ⟨aqB,Z6.2 ⟨aqC,Z6.2 ⟨aqD,Z6.2 ⟨aqE,Z6.2 ⟨aqF,Z6.2 ⟨aqG,Z6.2 ⟨aqH,Z6.2 ⟨ok32,Z6.2 ⟨aqI,Z6.2 ⟨aqJ,Z6.2 ⟨aqK,Z6.2 ⟨aqL,Z6.2 ⟨aqM,Z6.2 ⟨aqN,Z6.2 ⟨aqO,Z6.2 ⟨aqP,Z6.2 ⟨aqQ,Z6.2 ⟨aqR,Z6.2 ⟨aqS,Z6.2 ⟨aqT,Z6.2 ⟨aqU,Z6.2 ⟨aqV,Z6.2 ⟨aqW,Z6.2 ⟨aqX,Z6.2 ⟨aqY,Z6.2 ⟨aqZ,Z6.2 ⟨aq0,Z6.2 ⟨aq1,Z6.2 ⟨anX,Z6.2 ⟨anY,Z6.2 ⟨anZ,Z6.2 ⟨an0,Z6.2 ⟨an1,Z6.2 ⟨an2,Z6.2 ⟨an3,Z6.2 ⟨an4,Z6.2 ⟨an5,Z6.2 ⟨an6,Z6.2 ⟨an7,Z6.2 ⟨an8,Z6.2 ⟨an9,Z6.2 ⟨aoa,Z6.2 ⟨aob,Z6.2 ⟨aoc,Z6.2 ⟨aod,Z6.2 ⟨aoe,Z6.2 ⟨aof,Z6.2 ⟨aog,Z6.2 ⟨aoh,Z6.2 ⟨aoi,Z6.2 ⟨aoj,Z6.2 ⟨aok,Z6.2 ⟨aol,Z6.2 ⟨aom,Z6.2 ⟨aon,Z6.2 ⟨aoo,Z6.2 ⟨aop,Z6.2 ⟨aoq,Z6.2 ⟨aor,Z6.2 ⟨aos,Z6.2 ⟨aot,Z6.2 ⟨aou,Z6.2 ⟨aov,Z6.2 ⟨aow,Z6.2 ⟨aox,Z6.2 ⟨aoy,Z6.2 ⟨aoz,Z6.2 ⟨aoA,Z6.2 ⟨aoB,Z6.2 ⟨aoC,Z6.2 ⟨aoD,Z6.2 ⟨aoE,Z6.2 ⟨aoF,Z6.2 ⟨aoG,Z6.2 ⟨aoH,Z6.2 ⟨aoI,Z6.2 ⟨aoJ,Z6.2 ⟨aoK,Z6.2 ⟨aoL,Z6.2 ⟨aoM,Z6.2 ⟨aoN,Z6.2 ⟨aoO,Z6.2 ⟨aoP,Z6.2 ⟨aoQ,Z6.2 ⟨aoR,Z6.2 ⟨aoS,Z6.2 ⟨aoT,Z6.2 ⟨aoU,Z6.2 ⟨aoV,Z6.2 ⟨aoW,Z6.2 ⟨aoX,Z6.2 ⟨aoY,Z6.2 ⟨aoZ,Z6.2 ⟨ao0,Z6.2 ⟨ao1,Z6.2 ⟨ao2,Z6.2 ⟨ao3,Z6.2 ⟨ao4,Z6.2 ⟨ao5,Z6.2 ⟨ao6,Z6.2 ⟨ao7,Z6.2 ⟨ao8,Z6.2 ⟨ao9,Z6.2 ⟨apa,Z6.2 ⟨apc,Z6.2 ⟨apd,Z6.2 ⟨ape,Z6.2 ⟨aph,Z6.2 ⟨apj,Z6.2 ⟨apk,Z6.2 ⟨apl,Z6.2 ⟨apm,Z6.2 ⟨apn,Z6.2 ⟨apo,Z6.2 ⟨apq,Z6.2 ⟨apr,Z6.2 ⟨aps,Z6.2 ⟨apt,Z6.2 ⟨apu,Z6.2 ⟨apv,Z6.2 ⟨apw,Z6.2 ⟨apx,Z6.2 ⟨apy,Z6.2 ⟨apz,Z6.2 ⟨apA,Z6.2 ⟨apB,Z6.2 ⟨apC,fun p hp=>by cases hp⟩⟩⟩⟩⟩⟩⟩⟩⟩⟩⟩⟩⟩⟩⟩⟩⟩⟩⟩⟩⟩⟩⟩⟩⟩⟩⟩⟩⟩⟩⟩⟩⟩⟩⟩⟩⟩⟩⟩⟩⟩⟩⟩⟩⟩⟩⟩⟩⟩⟩⟩⟩⟩⟩⟩⟩⟩⟩⟩⟩⟩⟩⟩⟩⟩⟩⟩⟩⟩⟩⟩⟩⟩⟩⟩⟩⟩⟩⟩⟩⟩⟩⟩⟩⟩⟩⟩⟩⟩⟩⟩⟩⟩⟩⟩⟩⟩⟩⟩⟩⟩⟩⟩⟩⟩⟩⟩⟩⟩⟩⟩⟩⟩⟩⟩⟩⟩⟩⟩⟩⟩⟩⟩⟩⟩⟩⟩⟩
theorem Hq:∀ {l:List (Nat×ZF)} {f:Nat} {d:ZF},l.lookup f=some d→(f,d)∈l
 |(k,v)::l,f,d,h=>by
  rw [List.lookup_cons] at h
  split at h
  ·rename_i e
   have e:f=k:=by simpa using e
   cases h;subst e;simp
  ·exact List.mem_cons_of_mem _ (Hq h)
theorem Wi:Ae Tryz.prog env:=fun f d h=>by
 have:=apD _ (Hq h)
 cases d<;>exact this
section
variable {P:Program}{ops:Array Oper}{S:World→Prop}{Q:Act→World→Prop}{f:Nat}
end
end Go.Proofs.YthccglceomoboaaGreatDoor
