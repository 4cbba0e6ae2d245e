/-
  Part 10 of the texts that the statement stands on.
-/
import Derived.Test.YtioijcfcehhmdaaGreatDoorZ9
set_option linter.all false
namespace Go.Proofs.YtioijcfcehhmdaaGreatDoor
def iF (P:Program) (f:Nat):Zc→Prop
 |.code fn=>bJ P f fn=true
 |.ext g=>∀ args rs,g args=some rs→callable P f=true∧lU P f args rs
 |.Hr h=>callable P f=true∧Ku P f h
 |.ng h=>(∀ args,h args=some none→callable P f=true∧lU P f args [])∧∀ args t n,h args=some (some (t,n))→callable P f=true∧Oj P f args t n
 |.dfn fn=>zL P f fn=true∧EJ P fn.y8 fn.t∧∀ d g zs,fn.xH=some (d,g,zs)→yM P g (zs.map (·.2))
theorem ok6:iF Tryz.prog 6 (.code fn6):=(by kernel_rfl:bJ Tryz.prog 6 fn6=true)
theorem aoc:iF Tryz.prog 11 (.code aaZ):=(by kernel_rfl:bJ Tryz.prog 11 aaZ=true)
theorem aod:iF Tryz.prog 12 (.dfn Bq):=⟨(by kernel_rfl:zL Tryz.prog 12 Bq=true),Nw,fun d g zs h=>by cases h;exact U0⟩
theorem aoe:iF Tryz.prog 15 (.dfn Du):=⟨(by kernel_rfl:zL Tryz.prog 15 Du=true),Nw,fun d g zs h=>by cases h;exact QW⟩
theorem aof:iF Tryz.prog 17 (.code ahV):=(by kernel_rfl:bJ Tryz.prog 17 ahV=true)
theorem aog:iF Tryz.prog 20 (.code ahW):=(by kernel_rfl:bJ Tryz.prog 20 ahW=true)
theorem aoh:iF Tryz.prog 22 (.code Un):=(by kernel_rfl:bJ Tryz.prog 22 Un=true)
theorem aoi:iF Tryz.prog 23 (.code aa0):=(by kernel_rfl:bJ Tryz.prog 23 aa0=true)
theorem aoj:iF Tryz.prog 24 (.dfn Dv):=⟨(by kernel_rfl:zL Tryz.prog 24 Dv=true),Nw,fun d g zs h=>by cases h;exact UZ⟩
theorem aok:iF Tryz.prog 25 (.code ahX):=(by kernel_rfl:bJ Tryz.prog 25 ahX=true)
theorem aol:iF Tryz.prog 27 (.code ahY):=(by kernel_rfl:bJ Tryz.prog 27 ahY=true)
theorem aom:iF Tryz.prog 30 (.code ahZ):=(by kernel_rfl:bJ Tryz.prog 30 ahZ=true)
theorem aon:iF Tryz.prog 33 (.code aa1):=(by kernel_rfl:bJ Tryz.prog 33 aa1=true)
theorem aoo:iF Tryz.prog 35 (.code Uo):=(by kernel_rfl:bJ Tryz.prog 35 Uo=true)
theorem aop:iF Tryz.prog 36 (.code ah0):=(by kernel_rfl:bJ Tryz.prog 36 ah0=true)
theorem aoq:iF Tryz.prog 37 (.code aa2):=(by kernel_rfl:bJ Tryz.prog 37 aa2=true)
theorem aor:iF Tryz.prog 38 (.ext uw):=YQ
theorem aos:iF Tryz.prog 39 (.code aa3):=(by kernel_rfl:bJ Tryz.prog 39 aa3=true)
theorem aot:iF Tryz.prog 40 (.code aa4):=(by kernel_rfl:bJ Tryz.prog 40 aa4=true)
theorem aou:iF Tryz.prog 42 (.code aa5):=(by kernel_rfl:bJ Tryz.prog 42 aa5=true)
theorem aov:iF Tryz.prog 43 (.code ah1):=(by kernel_rfl:bJ Tryz.prog 43 ah1=true)
theorem aow:iF Tryz.prog 44 (.code aa6):=(by kernel_rfl:bJ Tryz.prog 44 aa6=true)
theorem aox:iF Tryz.prog 45 (.code aa7):=(by kernel_rfl:bJ Tryz.prog 45 aa7=true)
theorem aoy:iF Tryz.prog 46 (.code ah2):=(by kernel_rfl:bJ Tryz.prog 46 ah2=true)
theorem aoz:iF Tryz.prog 48 (.code sJ):=(by kernel_rfl:bJ Tryz.prog 48 sJ=true)
theorem aoA:iF Tryz.prog 49 (.code Ur):=(by kernel_rfl:bJ Tryz.prog 49 Ur=true)
theorem aoB:iF Tryz.prog 50 (.code Lu):=(by kernel_rfl:bJ Tryz.prog 50 Lu=true)
theorem aoC:iF Tryz.prog 51 (.ng uy):=YW
theorem aoD:iF Tryz.prog 52 (.code X9):=(by kernel_rfl:bJ Tryz.prog 52 X9=true)
theorem aoE:iF Tryz.prog 53 (.code aa8):=(by kernel_rfl:bJ Tryz.prog 53 aa8=true)
theorem aoF:iF Tryz.prog 54 (.code Px):=(by kernel_rfl:bJ Tryz.prog 54 Px=true)
theorem aoG:iF Tryz.prog 62 (.code ah3):=(by kernel_rfl:bJ Tryz.prog 62 ah3=true)
theorem aoH:iF Tryz.prog 65 (.code aa9):=(by kernel_rfl:bJ Tryz.prog 65 aa9=true)
theorem aoI:iF Tryz.prog 66 (.code ah4):=(by kernel_rfl:bJ Tryz.prog 66 ah4=true)
theorem aoJ:iF Tryz.prog 68 (.code ah5):=(by kernel_rfl:bJ Tryz.prog 68 ah5=true)
theorem aoK:iF Tryz.prog 69 (.code abb):=(by kernel_rfl:bJ Tryz.prog 69 abb=true)
theorem aoL:iF Tryz.prog 70 (.code Ya):=(by kernel_rfl:bJ Tryz.prog 70 Ya=true)
theorem aoM:iF Tryz.prog 71 (.code Us):=(by kernel_rfl:bJ Tryz.prog 71 Us=true)
theorem aoN:iF Tryz.prog 75 (.code ah6):=(by kernel_rfl:bJ Tryz.prog 75 ah6=true)
theorem aoO:iF Tryz.prog 76 (.code ah7):=(by kernel_rfl:bJ Tryz.prog 76 ah7=true)
theorem aoP:iF Tryz.prog 77 (.code ah8):=(by kernel_rfl:bJ Tryz.prog 77 ah8=true)
theorem aoQ:iF Tryz.prog 78 (.code abd):=(by kernel_rfl:bJ Tryz.prog 78 abd=true)
theorem aoR:iF Tryz.prog 79 (.code abe):=(by kernel_rfl:bJ Tryz.prog 79 abe=true)
theorem aoS:iF Tryz.prog 81 (.code abf):=(by kernel_rfl:bJ Tryz.prog 81 abf=true)
theorem aoT:iF Tryz.prog 83 (.code Ut):=(by kernel_rfl:bJ Tryz.prog 83 Ut=true)
theorem aoU:iF Tryz.prog 84 (.code abg):=(by kernel_rfl:bJ Tryz.prog 84 abg=true)
theorem aoV:iF Tryz.prog 85 (.code abh):=(by kernel_rfl:bJ Tryz.prog 85 abh=true)
theorem aoW:iF Tryz.prog 86 (.code abj):=(by kernel_rfl:bJ Tryz.prog 86 abj=true)
theorem aoX:iF Tryz.prog 87 (.code abk):=(by kernel_rfl:bJ Tryz.prog 87 abk=true)
theorem aoY:iF Tryz.prog 89 (.code Yb):=(by kernel_rfl:bJ Tryz.prog 89 Yb=true)
theorem aoZ:iF Tryz.prog 90 (.code Ih):=(by kernel_rfl:bJ Tryz.prog 90 Ih=true)
theorem ao0:iF Tryz.prog 92 (.code abl):=(by kernel_rfl:bJ Tryz.prog 92 abl=true)
theorem ao1:iF Tryz.prog 93 (.code abm):=(by kernel_rfl:bJ Tryz.prog 93 abm=true)
theorem ao2:iF Tryz.prog 94 (.code abn):=(by kernel_rfl:bJ Tryz.prog 94 abn=true)
theorem ao3:iF Tryz.prog 95 (.ext (rP 8)):=UU
theorem ao4:iF Tryz.prog 96 (.code Yc):=(by kernel_rfl:bJ Tryz.prog 96 Yc=true)
theorem ao5:iF Tryz.prog 97 (.code Yd):=(by kernel_rfl:bJ Tryz.prog 97 Yd=true)
theorem ao6:iF Tryz.prog 98 (.code Uu):=(by kernel_rfl:bJ Tryz.prog 98 Uu=true)
theorem ao7:iF Tryz.prog 99 (.code abo):=(by kernel_rfl:bJ Tryz.prog 99 abo=true)
theorem alS:iF Tryz.prog 111 (.code Py):=(by kernel_rfl:bJ Tryz.prog 111 Py=true)
theorem alT:iF Tryz.prog 112 (.code Pz):=(by kernel_rfl:bJ Tryz.prog 112 Pz=true)
theorem alU:iF Tryz.prog 115 (.code abr):=(by kernel_rfl:bJ Tryz.prog 115 abr=true)
theorem alV:iF Tryz.prog 116 (.code PD):=(by kernel_rfl:bJ Tryz.prog 116 PD=true)
theorem alW:iF Tryz.prog 117 (.code abt):=(by kernel_rfl:bJ Tryz.prog 117 abt=true)
theorem alX:iF Tryz.prog 118 (.code PI):=(by kernel_rfl:bJ Tryz.prog 118 PI=true)
theorem alY:iF Tryz.prog 119 (.code PK):=(by kernel_rfl:bJ Tryz.prog 119 PK=true)
theorem alZ:iF Tryz.prog 120 (.code PL):=(by kernel_rfl:bJ Tryz.prog 120 PL=true)
theorem al0:iF Tryz.prog 121 (.code PN):=(by kernel_rfl:bJ Tryz.prog 121 PN=true)
theorem al1:iF Tryz.prog 122 (.code PO):=(by kernel_rfl:bJ Tryz.prog 122 PO=true)
theorem al2:iF Tryz.prog 123 (.code Fp):=(by kernel_rfl:bJ Tryz.prog 123 Fp=true)
theorem al3:iF Tryz.prog 124 (.code PS):=(by kernel_rfl:bJ Tryz.prog 124 PS=true)
theorem al4:iF Tryz.prog 126 (.code PU):=(by kernel_rfl:bJ Tryz.prog 126 PU=true)
theorem al5:iF Tryz.prog 127 (.code PW):=(by kernel_rfl:bJ Tryz.prog 127 PW=true)
theorem al6:iF Tryz.prog 128 (.code PX):=(by kernel_rfl:bJ Tryz.prog 128 PX=true)
theorem al7:iF Tryz.prog 129 (.code PY):=(by kernel_rfl:bJ Tryz.prog 129 PY=true)
theorem al8:iF Tryz.prog 130 (.code PZ):=(by kernel_rfl:bJ Tryz.prog 130 PZ=true)
theorem al9:iF Tryz.prog 131 (.code P5):=(by kernel_rfl:bJ Tryz.prog 131 P5=true)
theorem ama:iF Tryz.prog 132 (.code P6):=(by kernel_rfl:bJ Tryz.prog 132 P6=true)
theorem amb:iF Tryz.prog 133 (.code P7):=(by kernel_rfl:bJ Tryz.prog 133 P7=true)
theorem amc:iF Tryz.prog 135 (.code Jr):=(by kernel_rfl:bJ Tryz.prog 135 Jr=true)
theorem amd:iF Tryz.prog 136 (.code P8):=(by kernel_rfl:bJ Tryz.prog 136 P8=true)
theorem ame:iF Tryz.prog 138 (.code P9):=(by kernel_rfl:bJ Tryz.prog 138 P9=true)
theorem amf:iF Tryz.prog 139 (.code Qc):=(by kernel_rfl:bJ Tryz.prog 139 Qc=true)
theorem amg:iF Tryz.prog 140 (.code abw):=(by kernel_rfl:bJ Tryz.prog 140 abw=true)
theorem amh:iF Tryz.prog 141 (.code CV):=(by kernel_rfl:bJ Tryz.prog 141 CV=true)
theorem ami:iF Tryz.prog 142 (.Hr (lF 143)):=QB
theorem amj:iF Tryz.prog 143 (.code abx):=(by kernel_rfl:bJ Tryz.prog 143 abx=true)
theorem amk:iF Tryz.prog 144 (.code aby):=(by kernel_rfl:bJ Tryz.prog 144 aby=true)
theorem aml:iF Tryz.prog 145 (.code CW):=(by kernel_rfl:bJ Tryz.prog 145 CW=true)
theorem amm:iF Tryz.prog 146 (.ext (rP 1)):=QN
theorem amn:iF Tryz.prog 147 (.code Js):=(by kernel_rfl:bJ Tryz.prog 147 Js=true)
theorem amo:iF Tryz.prog 148 (.code Qd):=(by kernel_rfl:bJ Tryz.prog 148 Qd=true)
theorem amq:iF Tryz.prog 149 (.code Qe):=(by kernel_rfl:bJ Tryz.prog 149 Qe=true)
theorem amr:iF Tryz.prog 150 (.ext tzX):=akH
theorem ams:iF Tryz.prog 151 (.code Qg):=(by kernel_rfl:bJ Tryz.prog 151 Qg=true)
theorem amu:iF Tryz.prog 152 (.code CX):=(by kernel_rfl:bJ Tryz.prog 152 CX=true)
theorem amv:iF Tryz.prog 153 (.code Qh):=(by kernel_rfl:bJ Tryz.prog 153 Qh=true)
theorem amw:iF Tryz.prog 157 (.code abz):=(by kernel_rfl:bJ Tryz.prog 157 abz=true)
theorem amx:∀ p∈tab,iF Tryz.prog p.1 p.2:=by
 unfold tab
 exact List.forall_mem_cons.2 ⟨ok6,List.forall_mem_cons.2 ⟨aoc,List.forall_mem_cons.2 ⟨aod,List.forall_mem_cons.2 ⟨aoe,List.forall_mem_cons.2 ⟨aof,List.forall_mem_cons.2 ⟨aog,List.forall_mem_cons.2 ⟨aoh,List.forall_mem_cons.2 ⟨aoi,List.forall_mem_cons.2 ⟨aoj,List.forall_mem_cons.2 ⟨aok,List.forall_mem_cons.2 ⟨aol,List.forall_mem_cons.2 ⟨aom,List.forall_mem_cons.2 ⟨aon,List.forall_mem_cons.2 ⟨aoo,List.forall_mem_cons.2 ⟨aop,List.forall_mem_cons.2 ⟨aoq,List.forall_mem_cons.2 ⟨aor,List.forall_mem_cons.2 ⟨aos,List.forall_mem_cons.2 ⟨aot,List.forall_mem_cons.2 ⟨aou,List.forall_mem_cons.2 ⟨aov,List.forall_mem_cons.2 ⟨aow,List.forall_mem_cons.2 ⟨aox,List.forall_mem_cons.2 ⟨aoy,List.forall_mem_cons.2 ⟨aoz,List.forall_mem_cons.2 ⟨aoA,List.forall_mem_cons.2 ⟨aoB,List.forall_mem_cons.2 ⟨aoC,List.forall_mem_cons.2 ⟨aoD,List.forall_mem_cons.2 ⟨aoE,List.forall_mem_cons.2 ⟨aoF,List.forall_mem_cons.2 ⟨aoG,List.forall_mem_cons.2 ⟨aoH,List.forall_mem_cons.2 ⟨aoI,List.forall_mem_cons.2 ⟨aoJ,List.forall_mem_cons.2 ⟨aoK,List.forall_mem_cons.2 ⟨aoL,List.forall_mem_cons.2 ⟨aoM,List.forall_mem_cons.2 ⟨aoN,List.forall_mem_cons.2 ⟨aoO,List.forall_mem_cons.2 ⟨aoP,List.forall_mem_cons.2 ⟨aoQ,List.forall_mem_cons.2 ⟨aoR,List.forall_mem_cons.2 ⟨aoS,List.forall_mem_cons.2 ⟨aoT,List.forall_mem_cons.2 ⟨aoU,List.forall_mem_cons.2 ⟨aoV,List.forall_mem_cons.2 ⟨aoW,List.forall_mem_cons.2 ⟨aoX,List.forall_mem_cons.2 ⟨aoY,List.forall_mem_cons.2 ⟨aoZ,List.forall_mem_cons.2 ⟨ao0,List.forall_mem_cons.2 ⟨ao1,List.forall_mem_cons.2 ⟨ao2,List.forall_mem_cons.2 ⟨ao3,List.forall_mem_cons.2 ⟨ao4,List.forall_mem_cons.2 ⟨ao5,List.forall_mem_cons.2 ⟨ao6,List.forall_mem_cons.2 ⟨ao7,List.forall_mem_cons.2 ⟨alS,List.forall_mem_cons.2 ⟨alT,List.forall_mem_cons.2 ⟨alU,List.forall_mem_cons.2 ⟨alV,List.forall_mem_cons.2 ⟨alW,List.forall_mem_cons.2 ⟨alX,List.forall_mem_cons.2 ⟨alY,List.forall_mem_cons.2 ⟨alZ,List.forall_mem_cons.2 ⟨al0,List.forall_mem_cons.2 ⟨al1,List.forall_mem_cons.2 ⟨al2,List.forall_mem_cons.2 ⟨al3,List.forall_mem_cons.2 ⟨al4,List.forall_mem_cons.2 ⟨al5,List.forall_mem_cons.2 ⟨al6,List.forall_mem_cons.2 ⟨al7,List.forall_mem_cons.2 ⟨al8,List.forall_mem_cons.2 ⟨al9,List.forall_mem_cons.2 ⟨ama,List.forall_mem_cons.2 ⟨amb,List.forall_mem_cons.2 ⟨amc,List.forall_mem_cons.2 ⟨amd,List.forall_mem_cons.2 ⟨ame,List.forall_mem_cons.2 ⟨amf,List.forall_mem_cons.2 ⟨amg,List.forall_mem_cons.2 ⟨amh,List.forall_mem_cons.2 ⟨ami,List.forall_mem_cons.2 ⟨amj,List.forall_mem_cons.2 ⟨amk,List.forall_mem_cons.2 ⟨aml,List.forall_mem_cons.2 ⟨amm,List.forall_mem_cons.2 ⟨amn,List.forall_mem_cons.2 ⟨amo,List.forall_mem_cons.2 ⟨amq,List.forall_mem_cons.2 ⟨amr,List.forall_mem_cons.2 ⟨ams,List.forall_mem_cons.2 ⟨amu,List.forall_mem_cons.2 ⟨amv,List.forall_mem_cons.2 ⟨amw,fun p hp=>by cases hp⟩⟩⟩⟩⟩⟩⟩⟩⟩⟩⟩⟩⟩⟩⟩⟩⟩⟩⟩⟩⟩⟩⟩⟩⟩⟩⟩⟩⟩⟩⟩⟩⟩⟩⟩⟩⟩⟩⟩⟩⟩⟩⟩⟩⟩⟩⟩⟩⟩⟩⟩⟩⟩⟩⟩⟩⟩⟩⟩⟩⟩⟩⟩⟩⟩⟩⟩⟩⟩⟩⟩⟩⟩⟩⟩⟩⟩⟩⟩⟩⟩⟩⟩⟩⟩⟩⟩⟩⟩⟩⟩⟩⟩⟩⟩⟩⟩⟩
theorem GZ:∀ {l:List (Nat × Zc)} {f:Nat} {d:Zc},l.lookup f=some d→(f,d)∈l
 |(k,v) :: l,f,d,h=>by
  rw [List.lookup_cons] at h
  split at h
  ·rename_i e
   have e:f=k:=by simpa using e
   cases h;subst e;simp
  ·exact List.mem_cons_of_mem _ (GZ h)
theorem JU:zM Tryz.prog env:=fun f d h=>by
 have:=amx _ (GZ h)
 cases d<;>exact this
end Go.Proofs.YtioijcfcehhmdaaGreatDoor

namespace Go.Proofs.YtioijcfcehhmdaaGreatDoor
open Go.RowKit
theorem jH.far {α:Type} {r:Rep α} {B F:Nat} {E:TypeId} {w w':World} {v:Value} {l:List α} (h:jH r B F E w v l) (hf:∀ b,B≤b→b<w.heap.size→w'.heap[b]?=w.heap[b]?):jH r B F E w' v l:=by
 obtain ⟨tag,xs,⟨h0,h1⟩,h2⟩:=h
 refine ⟨tag,xs,⟨h0,h1.imp id fun ⟨g,cap,cur,e,hb,hg,rest⟩=>⟨g,cap,cur,e,hb,(hf g hb (Array.getElem?_eq_some_iff.1 hg).1).trans hg,rest⟩⟩,(dK.frame (fun b hb=>hf b hb.1.1 hb.2) h2.live).mono fun b hb=>hb.1⟩
theorem amy (w:World) {b j:Nat} {v:Value} {arr:Array Value} {E:TypeId} (h:w.heap[b]?=some (.cells arr E)):(w.setCell ⟨b,j,none⟩ v).heap[b]?=some (.cells (arr.setIfInBounds j v) E):=by
 simp only [World.setCell,Array.getElem?_modify,if_true,h,Option.map_some];rfl
theorem He (w:World) (a:Addr) (v:Value):(w.setCell a v).heap.size=w.heap.size:=by simp only [World.setCell,Array.size_modify]
theorem amA (w:World) (g j:Nat) (v:Value):w.grownBy (w.setCell ⟨g,j,none⟩ v) (some g) :=
 ⟨rfl,rfl,rfl,by rw [He];exact Nat.le_refl _,fun k _ hne=>Below.heap_setCell w _ v k fun e=>hne (by rw [e])⟩
theorem Nz {w:World} {g j k:Nat} {v:Value} {o:Obj} (h:w.heap[k]?=some o) (hne:k≠g):(w.setCell ⟨g,j,none⟩ v).heap[k]?=some o:=(Below.heap_setCell w _ v k hne).trans h
theorem YX (s:fP) {u:Value} (hu:u=.int .u8 ((s[0]+1).toNat:Int)):(gZ s).set 0 u=gZ (V.Aq s):=by
 subst hu
 unfold gZ V.Aq
 apply List.ext_getElem?
 intro i
 rw [List.getElem?_set]
 simp only [List.getElem?_map,Vector.toList_set,List.getElem?_set,Vector.length_toList]
 by_cases c:0=i
 ·rw [if_pos c,if_pos c]
  simp
 ·rw [if_neg c,if_neg c]
theorem YZ (s:fP):(gZ s)[0]?=some (.int .u8 ((s[0]).toNat:Int)):=by
 unfold gZ
 rw [List.getElem?_map]
 have:s.toList[0]?=some s[0]:=by simp [Vector.getElem?_toList]
 rw [this];rfl
theorem Own.set1 {B:Nat} {E:TypeId} {w:World} {g cap:Nat} {l:List fP} (h:Own sZ B E (fun _=>False) w (.slice (some ⟨g,0,none⟩) l.length cap) l) {k:Nat} {s:fP} (hk:l[k]?=some s) {u:Value} (hu:u=.int .u8 ((s[0]+1).toNat:Int)) :
  Own sZ B E (fun _=>False) (w.setCell ⟨g,k * 8,none⟩ u) (.slice (some ⟨g,0,none⟩) l.length cap) (l.set k (V.Aq s))∧w.cell? ⟨g,k * 8,none⟩=some (.int .u8 ((s[0]).toNat:Int))∧w.frozen? ⟨g,k * 8,none⟩=false:=by
 obtain ⟨xs,h1,h2⟩:=h
 have hlt:=(List.getElem?_eq_some_iff.1 hk).1
 obtain ⟨hx,⟨hv,_⟩|⟨g',cap',cur,hv,hb,hg,hnc,hcm,hcs,ht⟩⟩:=h1
 ·cases hv
 cases hv
 have hsz:sZ.sz=8:=rfl
 rw [hsz] at hx hcs ht
 have hin:k * 8+8≤l.length * 8:=by omega
 have hcur:∀ i,i<l.length * 8→cur[i]?=xs[i]?:=fun i hi=>by
  rw [← ht,List.getElem?_take,if_pos hi,Array.getElem?_toList]
 obtain ⟨c,h3,h4⟩:=h2.at hk
 have h4:c=gZ s:=h4
 subst h4
 have hfirst:xs[k * 8]?=some (.int .u8 ((s[0]).toNat:Int)):=by
  have:=h3 0 (by decide)
  rw [hsz,Nat.add_zero,YZ] at this
  exact this
 have hset:(w.setCell ⟨g,k * 8,none⟩ u).heap[g]?=some (.cells (cur.setIfInBounds (k * 8) u) E (0,0)):=by
  simp only [World.setCell,Array.getElem?_modify,if_true,hg,Option.map_some];rfl
 refine ⟨⟨xs.set (k * 8) u,⟨?_,.inr ⟨g,cap,_,?_,hb,hset,?_,hcm,?_,?_⟩⟩,?_⟩,?_,?_⟩
 ·rw [List.length_set,List.length_set];exact hx
 ·rw [List.length_set]
 ·rw [List.length_set];exact hnc
 ·rw [Array.size_setIfInBounds];exact hcs
 ·rw [List.length_set,← ht,Array.toList_setIfInBounds,hsz]
  apply List.ext_getElem?
  intro i
  have hB:k * 8<cur.toList.length:=by rw [Array.length_toList,hcs];omega
  rw [List.getElem?_take,List.getElem?_set,List.getElem?_set,List.length_take]
  by_cases hi:i<l.length * 8
  ·rw [if_pos hi]
   by_cases c1:k * 8=i
   ·rw [if_pos c1,if_pos c1,if_pos hB,if_pos (Nat.lt_min.2 ⟨by omega,hB⟩)]
   ·rw [if_neg c1,if_neg c1,List.getElem?_take,if_pos hi]
  ·rw [if_neg hi,if_neg (by omega),List.getElem?_take,if_neg hi]
 ·have:=Chunks.U5 (r:=sZ) (ok:=fun b=>False∧Option.some b≠(Value.slice (some ⟨g,0,none⟩) l.length cap).ownBlock) (w:=w.setCell ⟨g,k * 8,none⟩ u) (xs:=xs.set (k * 8) u) (l:=l.set k (V.Aq s)) 0 (by rw [List.length_set,List.length_set,hsz,hx];omega) (fun i x hx'=>by
   rw [List.getElem?_set] at hx'
   by_cases c:k=i
   ·subst c
    rw [if_pos rfl,if_pos hlt] at hx'
    cases hx'
    refine ⟨gZ (V.Aq s),fun j hj=>?_,rfl⟩
    rw [← YX s hu,List.getElem?_set,List.getElem?_set,Nat.zero_add,oK]
    rw [hsz] at hj ⊢
    by_cases c0:0=j
    ·subst c0
     rw [if_pos (by omega),if_pos (by omega),if_pos rfl,if_pos (by decide)]
    ·rw [if_neg (by omega),if_neg c0]
     have:=h3 j hj
     rw [hsz] at this;exact this
   ·rw [if_neg c] at hx'
    obtain ⟨d,g3,g4⟩:=h2.at hx'
    refine ⟨d,fun j hj=>?_,g4⟩
    rw [List.getElem?_set,Nat.zero_add]
    rw [hsz] at hj ⊢
    rw [if_neg (by omega)]
    have:=g3 j hj
    rw [hsz] at this;exact this)
  simpa using this
 ·rw [cell_of_row _ _ _ _ _ (0,0) hg,hcur _ (by omega)];exact hfirst
 ·simp only [World.frozen?,hg]
  rw [decide_eq_false (Nat.not_lt_zero (k * 8)),Bool.and_false]
end Go.Proofs.YtioijcfcehhmdaaGreatDoor

namespace Go.Proofs.YtioijcfcehhmdaaGreatDoor
section
variable {P:Program} {ops:Array Oper} {S:World→Prop} {Q:Act→World→Prop} {f:Nat}
def uN (P:Program) (ops:Array Oper) (S:World→Prop) (f:Nat) (Q:Act→World→Prop):Nat→Array Bool→Act→World→Prop
 |0,l,a,w=>Region.ready .any ops l=[]∧Q a w
 |fuel+1,l,a,w=>(Region.ready .any ops l=[]→Q a w)∧∀ i∈Region.ready .any ops l,wpOp P ops (bU Q) i (fun a' w'=>((l.setIfInBounds i true).getD f false=true∨S w')∧uN P ops S f Q fuel (l.setIfInBounds i true) a' w') a w
theorem Hf:∀ (fuel:Nat) (l:Array Bool) (a:Act) (w:World),uN P ops S f Q fuel l a w→wpAny P .any ops (bU Q) fuel l a w
 |0,_,_,_,h=>⟨h.1,rfl,h.2⟩
 |fuel+1,_,_,_,h=>⟨fun h0=>⟨rfl,h.1 h0⟩,fun i hi=>wpOp_mono (fun a' w' h'=>Hf fuel _ a' w' h'.2) (h.2 i hi)⟩
theorem Iy (hsel:Region.noSelect ops=true) {i:Nat} {oi:Oper} {v:Value} (hi:ops[i]?=some oi) (hfi:f≠i)
  (hT:∀ l:Array Bool,l.size=ops.size→Closed ops l→l.getD i false=false→∀ w,(l.getD f false=true∨S w)→S w) :
  ∀ (fuel:Nat) (l:Array Bool) (a:Act) (w:World),l.size=ops.size→Closed ops l→(l.getD f false=true∨S w) →
   (∀ j oj,ops[j]?=some oj→j≠i→l.getD j true=false→(∀ e∈oj.after,Region.binds .any e=true→e.on≠i)→oi.apart ops oj=true) →
   i∈Region.ready .any ops l→YieldsIf P ops S oi v a →
   uN P ops S f Q fuel (l.setIfInBounds i true) (a.put oi.dst v) w→uN P ops S f Q (fuel+1) l a w:=by
 have listed:∀ {l:Array Bool} {w:World},l.size=ops.size→i∈Region.ready .any ops l→(l.getD f false=true∨S w)→((l.setIfInBounds i true).getD f false=true∨S w):=fun hs hr h=>h.imp (fun h=>by rw [fQ _ _ _ (fD hs hr),if_neg (Ne.symm hfi)];exact h) id
 have ql:∀ {l:Array Bool},i∈Region.ready .any ops l→l.size=ops.size→l.getD i false=false:=fun h hs=>by
  have h1:=(mem_ready.1 h).1
  have h2:=fD hs h
  simpa [h2] using h1
 intro fuel
 induction fuel with
 |zero =>
  intro l a w hs hc hS _ hr hy H
  refine ⟨fun h=>(by rw [h] at hr;cases hr),fun j hj=>?_⟩
  by_cases hji:j=i
  ·subst hji;exact hy.wpOp hi (hT l hs hc (ql hr hs) w hS) ⟨listed hs hr hS,H⟩
  ·have:=ready_mono hj hji
   rw [H.1] at this
   cases this
 |succ fuel ih =>
  intro l a w hs hc hS hfree hr hy H
  refine ⟨fun h=>(by rw [h] at hr;cases hr),fun j hj=>?_⟩
  by_cases hji:j=i
  ·subst hji;exact hy.wpOp hi (hT l hs hc (ql hr hs) w hS) ⟨listed hs hr hS,H⟩
  ·have h1:=H.2 j (ready_mono hj hji)
   obtain ⟨hjun,oj,hoj,hall⟩:=mem_ready.1 hj
   have hnot:∀ e∈oj.after,Region.binds .any e=true→e.on≠i:=fun e he hb heq=>by
    have h1:=hall e he hb
    rw [heq,ql hr hs] at h1
    cases h1
   have h2:=wpOp_putIf hoj (hfree j oj hoj hji hjun hnot) (fun cs b=>Region.noSelect_spec hsel i oi cs b hi) (fun cs b=>Region.noSelect_spec hsel j oj cs b hoj) (fun c a w h=>by cases h.1) hy h1
   have hs':(l.setIfInBounds j true).size=ops.size:=by simpa using hs
   refine wpOp_mono (fun a' w' h3=>?_) h2
   have hSS:((l.setIfInBounds j true).getD f false=true∨S w'):=h3.2.1.imp (fun h=>by
    rw [fQ _ _ _ (by simpa using fD hs hj),fQ _ _ _ (fD hs hr),if_neg (Ne.symm hfi)] at h
    rw [fQ _ _ _ (fD hs hj)];exact h) id
   refine ⟨hSS,ih (l.setIfInBounds j true) a' w' hs' (hc.set hs hj) hSS (fun k ok hk hki hun hno=>hfree k ok hk hki ?_ hno) (ready_mono hr (Ne.symm hji)) h3.1 ?_⟩
   ·by_cases hjk:j=k
    ·subst hjk;exact hjun
    ·rw [getD_set_ne true hjk] at hun;exact hun
   ·rw [Array.setIfInBounds_comm _ _ hji]
    exact h3.2.2
theorem xZ (hsel:Region.noSelect ops=true) {w:World} (hS:S w):∀ (seg:List Nat) (m:Nat) (l l':Array Bool) (a:Act),l.size=ops.size→Closed ops l →
  (∀ i∈seg,f≠i∧x9 ops ops.size f i=true)→bW ops seg l=some l' →
  wpQuiet P ops S (fun a'=>∀ (_:l'.size=ops.size) (_:Closed ops l'),uN P ops S f Q m l' a' w) (pick ops seg) a→uN P ops S f Q (m+seg.length) l a w
 |[],m,l,l',a,hs,hc,_,hq,h=>by
  simp only [bW,Option.some.injEq] at hq
  subst hq
  exact h hs hc
 |i :: is,m,l,l',a,hs,hc,hT,hq,h=>by
  unfold bW at hq
  split at hq
  case isFalse=>cases hq
  rename_i hcnd
  simp only [Bool.and_eq_true] at hcnd
  obtain ⟨⟨hp,hf⟩,hr⟩:=hcnd
  have hr':i∈Region.ready .any ops l:=by simpa using hr
  cases ho:ops[i]? with
  |none=>rw [ho] at hp;simp at hp
  |some o =>
   rw [ho] at hp
   simp only [Option.map_some,Option.getD_some] at hp
   simp only [pick,List.filterMap_cons,ho] at h
   unfold wpQuiet at h
   have key:∃ v,YieldsIf P ops S o v a∧wpQuiet P ops S (fun a'=>∀ (_:l'.size=ops.size) (_:Closed ops l'),uN P ops S f Q m l' a' w) (pick ops is) (a.put o.dst v):=by
    split at h
    ·rename_i hw
     obtain ⟨v,h1,h2⟩:=h
     refine ⟨v,.inl ⟨hw,fun w1 hw1=>?_⟩,h2⟩
     have h3:=h1 w1 hw1
     unfold Oper.quietAt at h3
     cases hrun:(execOp a.eval o).run P w1 with
     |halt x w2=>rw [hrun] at h3;exact h3.elim
     |ok x w2 =>
      obtain ⟨y,rfl⟩:=vg hp hrun
      rw [hrun] at h3
      obtain ⟨e1,e2⟩:=h3
      rw [e1,e2]
    ·rename_i hw
     exact ⟨undef,.inr ⟨by simpa using hw,rfl⟩,h⟩
   obtain ⟨v,hy,hk⟩:=key
   have hTi:=hT i (by simp)
   refine Iy hsel ho hTi.1 (fun l _ hc hu w hS=>hS.resolve_left fun hf=>by rw [hc.dep _ _ _ hf hTi.2] at hu;cases hu) (m+is.length) l a w hs hc (.inr hS) (Region.free_spec ho hf) hr' hy ?_
   exact xZ hsel hS is m (l.setIfInBounds i true) l' _ (by simpa using hs) (hc.set hs hr') (fun j hj=>hT j (by simp [hj])) hq hk
def U1 (ops:Array Oper) (dL:List Nat) (f:Nat):Bool :=
 Region.noSelect ops&&(dL.length+1==ops.size)&&dL.all (fun i=>f != i&&x9 ops ops.size f i)&&match bW ops dL (Array.replicate ops.size false) with
  |some l1=>(Region.ready .any ops l1==[f])&&(Region.ready .any ops (l1.setIfInBounds f true)).isEmpty
  |none=>false
theorem Hg {id:Nat} {l:List Oper} {a:Act} {w:World} {Q:Exit→Act→World→Prop} (S:World→Prop) (dL:List Nat) (f:Nat) (hm:P.follows .mixedOrders=true) (hB:U1 l.toArray dL f=true) (hS:S w.drew)
  (h:wpQuiet P l.toArray S (fun a'=>wpOp P l.toArray (bU (Q .normal)) f (Q .normal) a' w.drew) (pick l.toArray dL) a):(Code.region id l.toArray true).wp P Q a w:=by
 simp only [U1,Bool.and_eq_true,beq_iff_eq] at hB
 obtain ⟨⟨⟨hsel,hn⟩,hall⟩,hB⟩:=hB
 split at hB
 case h_2=>cases hB
 rename_i l1 hq
 simp only [Bool.and_eq_true,beq_iff_eq] at hB
 obtain ⟨hr,he⟩:=hB
 refine Code.wp_mono (Q:=bU (Q .normal)) (fun e a w h=>by obtain ⟨rfl,h⟩:=h;exact h) (wp_region_any hm ?_)
 have:=Hf _ _ _ _ (xZ (P:=P) (S:=S) (Q:=Q .normal) (f:=f) hsel hS dL 1 (Array.replicate l.toArray.size false) l1 a (by simp) (fun m o hm=>absurd hm (by rw [Array.getD_eq_getD_getElem?,Array.getElem?_replicate];split<;>simp)) (fun i hi=>by
  have:=List.all_eq_true.1 hall i hi
  simpa using this) hq (dD (fun a' h' hs1 hc1=>⟨fun h0=>(by rw [hr] at h0;cases h0),fun j hj=>by
   have hj':=hj
   rw [hr] at hj
   obtain rfl:j=f:=by simpa using hj
   exact wpOp_mono (fun a2 w2 h2=>⟨.inl (by rw [fQ _ _ _ (fD hs1 hj'),if_pos rfl]),by simpa using he,h2⟩) h'⟩) _ _ h))
 rw [Nat.add_comm,hn] at this
 exact this
theorem NC {i:Nat} {a:Act} {w:World} (h:wpList P ops (fun e a'' w''=>e=.normal∧Q a'' w'') (pick ops [i]) a w):wpOp P ops (bU Q) i Q a w:=by
 unfold wpOp
 cases ho:ops[i]? with
 |none =>
  simp only [pick,List.filterMap_cons,ho,List.filterMap_nil] at h
  exact h.2
 |some o =>
  simp only [pick,List.filterMap_cons,ho,List.filterMap_nil] at h
  unfold wpList at h
  simp only
  split at h
  ·rename_i hw
   rw [if_pos hw]
   rcases h with h|⟨_,a0,w0,h0⟩
   ·exact .inl (U4 (fun a1 w1 h1=>h1.2) (fun e a1 w1 h1=>h1.1) h)
   ·cases h0.1
  ·rename_i hw
   rw [if_neg hw]
   exact h.2
theorem Iz {id:Nat} {l:List Oper} {a:Act} {w:World} {Q:Exit→Act→World→Prop} (S:World→Prop) (dL:List Nat) (f:Nat) (hm:P.follows .mixedOrders=true) (hB:U1 l.toArray dL f=true) (hS:S w.drew)
  (h:wpQuiet P l.toArray S (fun a'=>wpList P l.toArray (fun e a'' w''=>e=.normal∧Q .normal a'' w'') (pick l.toArray [f]) a' w.drew) (pick l.toArray dL) a):(Code.region id l.toArray true).wp P Q a w :=
 Hg S dL f hm hB hS (dD (fun _ h=>NC h) _ _ h)
end
end Go.Proofs.YtioijcfcehhmdaaGreatDoor
