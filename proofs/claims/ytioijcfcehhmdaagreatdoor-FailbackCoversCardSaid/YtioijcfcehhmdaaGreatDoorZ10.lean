/-
  Part 10 of the texts that the statement stands on.
-/
import Derived.Test.YtioijcfcehhmdaaGreatDoorZ9
import Derived.Test.YtioijcfcehhmdaaGreatDoorRows
import Derived.Lib.LaidTab
import Derived.LaidByTextLater
import Derived.SizedLaws
set_option linter.all false
namespace Go.Proofs.YtioijcfcehhmdaaGreatDoor
def Ok1 (P:Program) (f:Nat):VDef→Prop
 |.code fn=>fnOk P f fn=true
 |.ext g=>∀ args rs,g args=some rs→callable P f=true∧CallOk P f args rs
 |.srt h=>callable P f=true∧SortOk P f h
 |.thr h=>(∀ args,h args=some none→callable P f=true∧CallOk P f args [])∧∀ args t n,h args=some (some (t,n))→callable P f=true∧ThrOk P f args t n
 |.dfn fn=>dfnOk P f fn=true∧RescOk P fn.resc fn.t∧∀ d g zs,fn.clos=some (d,g,zs)→ClosOk P g (zs.map (·.2))
theorem ok8:Ok1 Tryz.prog 8 (.code fn8):=(by kernel_rfl:fnOk Tryz.prog 8 fn8=true)
theorem ok11:Ok1 Tryz.prog 11 (.code fn11):=(by kernel_rfl:fnOk Tryz.prog 11 fn11=true)
theorem ok12:Ok1 Tryz.prog 12 (.dfn fn12):=⟨(by kernel_rfl:dfnOk Tryz.prog 12 fn12=true),resc_ok,fun d g zs h=>by cases h;exact clos_round⟩
theorem ok15:Ok1 Tryz.prog 15 (.dfn fn15):=⟨(by kernel_rfl:dfnOk Tryz.prog 15 fn15=true),resc_ok,fun d g zs h=>by cases h;exact clos_finish⟩
theorem ok17:Ok1 Tryz.prog 17 (.code fn17):=(by kernel_rfl:fnOk Tryz.prog 17 fn17=true)
theorem ok20:Ok1 Tryz.prog 20 (.code fn20):=(by kernel_rfl:fnOk Tryz.prog 20 fn20=true)
theorem ok22:Ok1 Tryz.prog 22 (.code fn22):=(by kernel_rfl:fnOk Tryz.prog 22 fn22=true)
theorem ok23:Ok1 Tryz.prog 23 (.code fn23):=(by kernel_rfl:fnOk Tryz.prog 23 fn23=true)
theorem ok24:Ok1 Tryz.prog 24 (.dfn fn24):=⟨(by kernel_rfl:dfnOk Tryz.prog 24 fn24=true),resc_ok,fun d g zs h=>by cases h;exact clos_begin⟩
theorem ok27:Ok1 Tryz.prog 27 (.code fn27):=(by kernel_rfl:fnOk Tryz.prog 27 fn27=true)
theorem ok30:Ok1 Tryz.prog 30 (.code fn30):=(by kernel_rfl:fnOk Tryz.prog 30 fn30=true)
theorem ok31:Ok1 Tryz.prog 31 (.code fn31):=(by kernel_rfl:fnOk Tryz.prog 31 fn31=true)
theorem ok32:Ok1 Tryz.prog 32 (.code fn32):=(by kernel_rfl:fnOk Tryz.prog 32 fn32=true)
theorem ok33:Ok1 Tryz.prog 33 (.code fn33):=(by kernel_rfl:fnOk Tryz.prog 33 fn33=true)
theorem ok34:Ok1 Tryz.prog 34 (.code fn34):=(by kernel_rfl:fnOk Tryz.prog 34 fn34=true)
theorem ok35:Ok1 Tryz.prog 35 (.code fn35):=(by kernel_rfl:fnOk Tryz.prog 35 fn35=true)
theorem ok36:Ok1 Tryz.prog 36 (.code fn36):=(by kernel_rfl:fnOk Tryz.prog 36 fn36=true)
theorem ok37:Ok1 Tryz.prog 37 (.code fn37):=(by kernel_rfl:fnOk Tryz.prog 37 fn37=true)
theorem ok38:Ok1 Tryz.prog 38 (.ext applyX):=applyI_ok
theorem ok39:Ok1 Tryz.prog 39 (.code fn39):=(by kernel_rfl:fnOk Tryz.prog 39 fn39=true)
theorem ok40:Ok1 Tryz.prog 40 (.code fn40):=(by kernel_rfl:fnOk Tryz.prog 40 fn40=true)
theorem ok42:Ok1 Tryz.prog 42 (.code fn42):=(by kernel_rfl:fnOk Tryz.prog 42 fn42=true)
theorem ok43:Ok1 Tryz.prog 43 (.code fn43):=(by kernel_rfl:fnOk Tryz.prog 43 fn43=true)
theorem ok44:Ok1 Tryz.prog 44 (.code fn44):=(by kernel_rfl:fnOk Tryz.prog 44 fn44=true)
theorem ok45:Ok1 Tryz.prog 45 (.code fn45):=(by kernel_rfl:fnOk Tryz.prog 45 fn45=true)
theorem ok46:Ok1 Tryz.prog 46 (.code fn46):=(by kernel_rfl:fnOk Tryz.prog 46 fn46=true)
theorem ok48:Ok1 Tryz.prog 48 (.code fn48):=(by kernel_rfl:fnOk Tryz.prog 48 fn48=true)
theorem ok49:Ok1 Tryz.prog 49 (.code fn49):=(by kernel_rfl:fnOk Tryz.prog 49 fn49=true)
theorem ok50:Ok1 Tryz.prog 50 (.code fn50):=(by kernel_rfl:fnOk Tryz.prog 50 fn50=true)
theorem ok51:Ok1 Tryz.prog 51 (.thr demandX):=demand_ok
theorem ok52:Ok1 Tryz.prog 52 (.code fn52):=(by kernel_rfl:fnOk Tryz.prog 52 fn52=true)
theorem ok53:Ok1 Tryz.prog 53 (.code fn53):=(by kernel_rfl:fnOk Tryz.prog 53 fn53=true)
theorem ok54:Ok1 Tryz.prog 54 (.code fn54):=(by kernel_rfl:fnOk Tryz.prog 54 fn54=true)
theorem ok62:Ok1 Tryz.prog 62 (.code fn62):=(by kernel_rfl:fnOk Tryz.prog 62 fn62=true)
theorem ok65:Ok1 Tryz.prog 65 (.code fn65):=(by kernel_rfl:fnOk Tryz.prog 65 fn65=true)
theorem ok66:Ok1 Tryz.prog 66 (.code fn66):=(by kernel_rfl:fnOk Tryz.prog 66 fn66=true)
theorem ok68:Ok1 Tryz.prog 68 (.code fn68):=(by kernel_rfl:fnOk Tryz.prog 68 fn68=true)
theorem ok69:Ok1 Tryz.prog 69 (.code fn69):=(by kernel_rfl:fnOk Tryz.prog 69 fn69=true)
theorem ok70:Ok1 Tryz.prog 70 (.code fn70):=(by kernel_rfl:fnOk Tryz.prog 70 fn70=true)
theorem ok71:Ok1 Tryz.prog 71 (.code fn71):=(by kernel_rfl:fnOk Tryz.prog 71 fn71=true)
theorem ok75:Ok1 Tryz.prog 75 (.code fn75):=(by kernel_rfl:fnOk Tryz.prog 75 fn75=true)
theorem ok76:Ok1 Tryz.prog 76 (.code fn76):=(by kernel_rfl:fnOk Tryz.prog 76 fn76=true)
theorem ok77:Ok1 Tryz.prog 77 (.code fn77):=(by kernel_rfl:fnOk Tryz.prog 77 fn77=true)
theorem ok78:Ok1 Tryz.prog 78 (.code fn78):=(by kernel_rfl:fnOk Tryz.prog 78 fn78=true)
theorem ok79:Ok1 Tryz.prog 79 (.code fn79):=(by kernel_rfl:fnOk Tryz.prog 79 fn79=true)
theorem ok80:Ok1 Tryz.prog 80 (.code fn80):=(by kernel_rfl:fnOk Tryz.prog 80 fn80=true)
theorem ok81:Ok1 Tryz.prog 81 (.code fn81):=(by kernel_rfl:fnOk Tryz.prog 81 fn81=true)
theorem ok82:Ok1 Tryz.prog 82 (.code fn82):=(by kernel_rfl:fnOk Tryz.prog 82 fn82=true)
theorem ok83:Ok1 Tryz.prog 83 (.code fn83):=(by kernel_rfl:fnOk Tryz.prog 83 fn83=true)
theorem ok84:Ok1 Tryz.prog 84 (.code fn84):=(by kernel_rfl:fnOk Tryz.prog 84 fn84=true)
theorem ok85:Ok1 Tryz.prog 85 (.code fn85):=(by kernel_rfl:fnOk Tryz.prog 85 fn85=true)
theorem ok86:Ok1 Tryz.prog 86 (.code fn86):=(by kernel_rfl:fnOk Tryz.prog 86 fn86=true)
theorem ok87:Ok1 Tryz.prog 87 (.code fn87):=(by kernel_rfl:fnOk Tryz.prog 87 fn87=true)
theorem ok89:Ok1 Tryz.prog 89 (.code fn89):=(by kernel_rfl:fnOk Tryz.prog 89 fn89=true)
theorem ok90:Ok1 Tryz.prog 90 (.code fn90):=(by kernel_rfl:fnOk Tryz.prog 90 fn90=true)
theorem ok92:Ok1 Tryz.prog 92 (.code fn92):=(by kernel_rfl:fnOk Tryz.prog 92 fn92=true)
theorem ok93:Ok1 Tryz.prog 93 (.code fn93):=(by kernel_rfl:fnOk Tryz.prog 93 fn93=true)
theorem ok94:Ok1 Tryz.prog 94 (.code fn94):=(by kernel_rfl:fnOk Tryz.prog 94 fn94=true)
theorem ok95:Ok1 Tryz.prog 95 (.ext (cloneX 8)):=clone95_ok
theorem ok96:Ok1 Tryz.prog 96 (.code fn96):=(by kernel_rfl:fnOk Tryz.prog 96 fn96=true)
theorem ok97:Ok1 Tryz.prog 97 (.code fn97):=(by kernel_rfl:fnOk Tryz.prog 97 fn97=true)
theorem ok98:Ok1 Tryz.prog 98 (.code fn98):=(by kernel_rfl:fnOk Tryz.prog 98 fn98=true)
theorem ok99:Ok1 Tryz.prog 99 (.code fn99):=(by kernel_rfl:fnOk Tryz.prog 99 fn99=true)
theorem ok111:Ok1 Tryz.prog 111 (.code fn111):=(by kernel_rfl:fnOk Tryz.prog 111 fn111=true)
theorem ok112:Ok1 Tryz.prog 112 (.code fn112):=(by kernel_rfl:fnOk Tryz.prog 112 fn112=true)
theorem ok115:Ok1 Tryz.prog 115 (.code fn115):=(by kernel_rfl:fnOk Tryz.prog 115 fn115=true)
theorem ok116:Ok1 Tryz.prog 116 (.code fn116):=(by kernel_rfl:fnOk Tryz.prog 116 fn116=true)
theorem ok117:Ok1 Tryz.prog 117 (.code fn117):=(by kernel_rfl:fnOk Tryz.prog 117 fn117=true)
theorem ok118:Ok1 Tryz.prog 118 (.code fn118):=(by kernel_rfl:fnOk Tryz.prog 118 fn118=true)
theorem ok119:Ok1 Tryz.prog 119 (.code fn119):=(by kernel_rfl:fnOk Tryz.prog 119 fn119=true)
theorem ok120:Ok1 Tryz.prog 120 (.code fn120):=(by kernel_rfl:fnOk Tryz.prog 120 fn120=true)
theorem ok121:Ok1 Tryz.prog 121 (.code fn121):=(by kernel_rfl:fnOk Tryz.prog 121 fn121=true)
theorem ok122:Ok1 Tryz.prog 122 (.code fn122):=(by kernel_rfl:fnOk Tryz.prog 122 fn122=true)
theorem ok123:Ok1 Tryz.prog 123 (.code fn123):=(by kernel_rfl:fnOk Tryz.prog 123 fn123=true)
theorem ok124:Ok1 Tryz.prog 124 (.code fn124):=(by kernel_rfl:fnOk Tryz.prog 124 fn124=true)
theorem ok126:Ok1 Tryz.prog 126 (.code fn126):=(by kernel_rfl:fnOk Tryz.prog 126 fn126=true)
theorem ok127:Ok1 Tryz.prog 127 (.code fn127):=(by kernel_rfl:fnOk Tryz.prog 127 fn127=true)
theorem ok128:Ok1 Tryz.prog 128 (.code fn128):=(by kernel_rfl:fnOk Tryz.prog 128 fn128=true)
theorem ok129:Ok1 Tryz.prog 129 (.code fn129):=(by kernel_rfl:fnOk Tryz.prog 129 fn129=true)
theorem ok130:Ok1 Tryz.prog 130 (.code fn130):=(by kernel_rfl:fnOk Tryz.prog 130 fn130=true)
theorem ok131:Ok1 Tryz.prog 131 (.code fn131):=(by kernel_rfl:fnOk Tryz.prog 131 fn131=true)
theorem ok132:Ok1 Tryz.prog 132 (.code fn132):=(by kernel_rfl:fnOk Tryz.prog 132 fn132=true)
theorem ok133:Ok1 Tryz.prog 133 (.code fn133):=(by kernel_rfl:fnOk Tryz.prog 133 fn133=true)
theorem ok135:Ok1 Tryz.prog 135 (.code fn135):=(by kernel_rfl:fnOk Tryz.prog 135 fn135=true)
theorem ok136:Ok1 Tryz.prog 136 (.code fn136):=(by kernel_rfl:fnOk Tryz.prog 136 fn136=true)
theorem ok138:Ok1 Tryz.prog 138 (.code fn138):=(by kernel_rfl:fnOk Tryz.prog 138 fn138=true)
theorem ok139:Ok1 Tryz.prog 139 (.code fn139):=(by kernel_rfl:fnOk Tryz.prog 139 fn139=true)
theorem ok140:Ok1 Tryz.prog 140 (.code fn140):=(by kernel_rfl:fnOk Tryz.prog 140 fn140=true)
theorem ok141:Ok1 Tryz.prog 141 (.code fn141):=(by kernel_rfl:fnOk Tryz.prog 141 fn141=true)
theorem ok142:Ok1 Tryz.prog 142 (.srt (sortEndsX 143)):=sortEnds_ok
theorem ok143:Ok1 Tryz.prog 143 (.code fn143):=(by kernel_rfl:fnOk Tryz.prog 143 fn143=true)
theorem ok144:Ok1 Tryz.prog 144 (.code fn144):=(by kernel_rfl:fnOk Tryz.prog 144 fn144=true)
theorem ok145:Ok1 Tryz.prog 145 (.code fn145):=(by kernel_rfl:fnOk Tryz.prog 145 fn145=true)
theorem ok146:Ok1 Tryz.prog 146 (.ext (cloneX 1)):=clone146_ok
theorem ok147:Ok1 Tryz.prog 147 (.code fn147):=(by kernel_rfl:fnOk Tryz.prog 147 fn147=true)
theorem ok148:Ok1 Tryz.prog 148 (.code fn148):=(by kernel_rfl:fnOk Tryz.prog 148 fn148=true)
theorem ok149:Ok1 Tryz.prog 149 (.code fn149):=(by kernel_rfl:fnOk Tryz.prog 149 fn149=true)
theorem ok150:Ok1 Tryz.prog 150 (.ext tzX):=tz_ok
theorem ok151:Ok1 Tryz.prog 151 (.code fn151):=(by kernel_rfl:fnOk Tryz.prog 151 fn151=true)
theorem ok152:Ok1 Tryz.prog 152 (.code fn152):=(by kernel_rfl:fnOk Tryz.prog 152 fn152=true)
theorem ok153:Ok1 Tryz.prog 153 (.code fn153):=(by kernel_rfl:fnOk Tryz.prog 153 fn153=true)
theorem ok157:Ok1 Tryz.prog 157 (.code fn157):=(by kernel_rfl:fnOk Tryz.prog 157 fn157=true)
theorem tabOk:∀ p∈tab,Ok1 Tryz.prog p.1 p.2:=by
 unfold tab
 exact List.forall_mem_cons.2 ⟨ok8,List.forall_mem_cons.2 ⟨ok11,List.forall_mem_cons.2 ⟨ok12,List.forall_mem_cons.2 ⟨ok15,List.forall_mem_cons.2 ⟨ok17,List.forall_mem_cons.2 ⟨ok20,List.forall_mem_cons.2 ⟨ok22,List.forall_mem_cons.2 ⟨ok23,List.forall_mem_cons.2 ⟨ok24,List.forall_mem_cons.2 ⟨ok27,List.forall_mem_cons.2 ⟨ok30,List.forall_mem_cons.2 ⟨ok31,List.forall_mem_cons.2 ⟨ok32,List.forall_mem_cons.2 ⟨ok33,List.forall_mem_cons.2 ⟨ok34,List.forall_mem_cons.2 ⟨ok35,List.forall_mem_cons.2 ⟨ok36,List.forall_mem_cons.2 ⟨ok37,List.forall_mem_cons.2 ⟨ok38,List.forall_mem_cons.2 ⟨ok39,List.forall_mem_cons.2 ⟨ok40,List.forall_mem_cons.2 ⟨ok42,List.forall_mem_cons.2 ⟨ok43,List.forall_mem_cons.2 ⟨ok44,List.forall_mem_cons.2 ⟨ok45,List.forall_mem_cons.2 ⟨ok46,List.forall_mem_cons.2 ⟨ok48,List.forall_mem_cons.2 ⟨ok49,List.forall_mem_cons.2 ⟨ok50,List.forall_mem_cons.2 ⟨ok51,List.forall_mem_cons.2 ⟨ok52,List.forall_mem_cons.2 ⟨ok53,List.forall_mem_cons.2 ⟨ok54,List.forall_mem_cons.2 ⟨ok62,List.forall_mem_cons.2 ⟨ok65,List.forall_mem_cons.2 ⟨ok66,List.forall_mem_cons.2 ⟨ok68,List.forall_mem_cons.2 ⟨ok69,List.forall_mem_cons.2 ⟨ok70,List.forall_mem_cons.2 ⟨ok71,List.forall_mem_cons.2 ⟨ok75,List.forall_mem_cons.2 ⟨ok76,List.forall_mem_cons.2 ⟨ok77,List.forall_mem_cons.2 ⟨ok78,List.forall_mem_cons.2 ⟨ok79,List.forall_mem_cons.2 ⟨ok80,List.forall_mem_cons.2 ⟨ok81,List.forall_mem_cons.2 ⟨ok82,List.forall_mem_cons.2 ⟨ok83,List.forall_mem_cons.2 ⟨ok84,List.forall_mem_cons.2 ⟨ok85,List.forall_mem_cons.2 ⟨ok86,List.forall_mem_cons.2 ⟨ok87,List.forall_mem_cons.2 ⟨ok89,List.forall_mem_cons.2 ⟨ok90,List.forall_mem_cons.2 ⟨ok92,List.forall_mem_cons.2 ⟨ok93,List.forall_mem_cons.2 ⟨ok94,List.forall_mem_cons.2 ⟨ok95,List.forall_mem_cons.2 ⟨ok96,List.forall_mem_cons.2 ⟨ok97,List.forall_mem_cons.2 ⟨ok98,List.forall_mem_cons.2 ⟨ok99,List.forall_mem_cons.2 ⟨ok111,List.forall_mem_cons.2 ⟨ok112,List.forall_mem_cons.2 ⟨ok115,List.forall_mem_cons.2 ⟨ok116,List.forall_mem_cons.2 ⟨ok117,List.forall_mem_cons.2 ⟨ok118,List.forall_mem_cons.2 ⟨ok119,List.forall_mem_cons.2 ⟨ok120,List.forall_mem_cons.2 ⟨ok121,List.forall_mem_cons.2 ⟨ok122,List.forall_mem_cons.2 ⟨ok123,List.forall_mem_cons.2 ⟨ok124,List.forall_mem_cons.2 ⟨ok126,List.forall_mem_cons.2 ⟨ok127,List.forall_mem_cons.2 ⟨ok128,List.forall_mem_cons.2 ⟨ok129,List.forall_mem_cons.2 ⟨ok130,List.forall_mem_cons.2 ⟨ok131,List.forall_mem_cons.2 ⟨ok132,List.forall_mem_cons.2 ⟨ok133,List.forall_mem_cons.2 ⟨ok135,List.forall_mem_cons.2 ⟨ok136,List.forall_mem_cons.2 ⟨ok138,List.forall_mem_cons.2 ⟨ok139,List.forall_mem_cons.2 ⟨ok140,List.forall_mem_cons.2 ⟨ok141,List.forall_mem_cons.2 ⟨ok142,List.forall_mem_cons.2 ⟨ok143,List.forall_mem_cons.2 ⟨ok144,List.forall_mem_cons.2 ⟨ok145,List.forall_mem_cons.2 ⟨ok146,List.forall_mem_cons.2 ⟨ok147,List.forall_mem_cons.2 ⟨ok148,List.forall_mem_cons.2 ⟨ok149,List.forall_mem_cons.2 ⟨ok150,List.forall_mem_cons.2 ⟨ok151,List.forall_mem_cons.2 ⟨ok152,List.forall_mem_cons.2 ⟨ok153,List.forall_mem_cons.2 ⟨ok157,fun p hp=>by cases hp⟩⟩⟩⟩⟩⟩⟩⟩⟩⟩⟩⟩⟩⟩⟩⟩⟩⟩⟩⟩⟩⟩⟩⟩⟩⟩⟩⟩⟩⟩⟩⟩⟩⟩⟩⟩⟩⟩⟩⟩⟩⟩⟩⟩⟩⟩⟩⟩⟩⟩⟩⟩⟩⟩⟩⟩⟩⟩⟩⟩⟩⟩⟩⟩⟩⟩⟩⟩⟩⟩⟩⟩⟩⟩⟩⟩⟩⟩⟩⟩⟩⟩⟩⟩⟩⟩⟩⟩⟩⟩⟩⟩⟩⟩⟩⟩⟩⟩⟩⟩⟩⟩
theorem lookup_mem:∀ {l:List (Nat × VDef)} {f:Nat} {d:VDef},l.lookup f=some d→(f,d)∈l
 |(k,v) :: l,f,d,h=>by
  rw [List.lookup_cons] at h
  split at h
  ·rename_i e
   have e:f=k:=by simpa using e
   cases h;subst e;simp
  ·exact List.mem_cons_of_mem _ (lookup_mem h)
theorem envOk:EnvOk Tryz.prog env:=fun f d h=>by
 have:=tabOk _ (lookup_mem h)
 cases d<;>exact this
end Go.Proofs.YtioijcfcehhmdaaGreatDoor

namespace Go.Proofs.YtioijcfcehhmdaaGreatDoor
open Go.RowKit
theorem laidTabEq:(Rows.laid_math_bits_deBruijn64tab:DataW Unit)=Lib.tabData .u8 (Lib.deBruijn64tab.map Int.ofNat):=by kernel_rfl
theorem tabG:Tryz.prog.globalNamed "math/bits.deBruijn64tab"=some 0:=by kernel_rfl
theorem globIn_of_laid {w:World} {l:List (String × DataW Unit)} (hl:l=[("math/bits.deBruijn64tab",Rows.laid_math_bits_deBruijn64tab)]) (h:laidMetH Tryz.prog l w):GlobIn w:=by
 subst hl
 rw [MakeChecks.laidMetH_plain _ _ _ (by kernel_rfl),laidTabEq] at h
 have ht:Lib.TabIs Tryz.prog w "math/bits.deBruijn64tab" .u8 (Lib.deBruijn64tab.map Int.ofNat) :=
  Lib.tabIs_of_head (t:=204) (e:=5) (n:=64) tabG (by kernel_rfl) (by kernel_rfl) (by kernel_rfl) (by kernel_rfl) (by kernel_rfl) h
 have hc:∀ i,i<64→w.cell? ⟨0,i,none⟩=some (.int .u8 ((Lib.deBruijn64tab.map Int.ofNat).getD i 0)):=fun i hi=>ht.cell tabG i (by simpa [Lib.deBruijn64tab] using hi)
 have hC:Cellish w 0:=cellish_of (hc 0 (by decide))
 intro p hp
 obtain rfl:p=_:=List.mem_singleton.1 hp
 refine .iptr _ 0 _ 0 (fun i=>.int .u8 ((Lib.deBruijn64tab.map Int.ofNat).getD i 0)) (if_pos hC.lt) hC (fun k x hk=>?_) (fun k x hk=>?_)
 ·have hk':=(List.getElem?_eq_some_iff.1 hk).1
  rw [Nat.zero_add]
  exact ⟨hc k (by simpa [Lib.deBruijn64tab] using hk'),rfl⟩
 ·simp only [List.getElem?_map] at hk
  cases e:Lib.deBruijn64tab[k]? with
  |none=>rw [e] at hk;cases hk
  |some n =>
   rw [e] at hk;cases hk
   have:(Lib.deBruijn64tab.map Int.ofNat).getD k 0=(n:Int):=by simp [List.getD_eq_getElem?_getD,e]
   rw [this]
   exact .int _ _
end Go.Proofs.YtioijcfcehhmdaaGreatDoor

namespace Go.Proofs.YtioijcfcehhmdaaGreatDoor.V
open Go.RowKit Go.ChangeShapes Go.WideShapes Go.ChangeAt
theorem Tryz.ownKnobV:ownKnob Tryz.prog.godebug=none:=by kernel_rfl
theorem Tryz.laidOutV:laidOutB Tryz.prog=true:=by kernel_rfl
def okI (n:Int):Prop:=-9223372036854775808≤n∧n≤9223372036854775807
theorem sint_i64 {q:PV} (h:SInt .i64 [q]):∃ n,okI n∧q=eI n:=by
 obtain ⟨n,h1,h2⟩:=h
 have h3:IntKind.i64.min=-9223372036854775808:=rfl
 have h4:IntKind.i64.max=9223372036854775807:=rfl
 simp only [Lit.wf,Bool.and_eq_true,decide_eq_true_eq] at h1
 cases h2
 exact ⟨n,⟨by omega,by omega⟩,rfl⟩
theorem sint_u8 {q:PV} (h:SInt .u8 [q]):∃ b:UInt8,q=.int .u8 (b.toNat:Int):=by
 obtain ⟨n,h1,h2⟩:=h
 have h3:IntKind.u8.min=0:=rfl
 have h4:IntKind.u8.max=255:=rfl
 simp only [Lit.wf,Bool.and_eq_true,decide_eq_true_eq] at h1
 cases h2
 refine ⟨UInt8.ofNat n.toNat,?_⟩
 rw [UInt8.toNat_ofNat_of_lt' (show n.toNat<2 ^ 8 by omega)]
 congr 1;omega
def SSec:List PV→Prop:=SArr 8 (SInt .u8)
theorem ssec {ps:List PV} (h:SSec ps):∃ s:Sec,ps=secPV s:=by
 obtain ⟨h1,h2⟩:=h
 have:∀ l:List PV,(∀ p∈l,SInt .u8 [p])→∃ m:List UInt8,m.length=l.length∧l=m.map fun b=>.int .u8 (b.toNat:Int):=by
  intro l
  induction l with
  |nil=>exact fun _=>⟨[],rfl,rfl⟩
  |cons p l ih =>
   intro h
   obtain ⟨b,hb⟩:=sint_u8 (h p (by simp))
   obtain ⟨m,e1,e2⟩:=ih fun q hq=>h q (by simp [hq])
   exact ⟨b :: m,by simp [e1],by rw [hb,e2];rfl⟩
 obtain ⟨m,e1,e2⟩:=this ps h2
 refine ⟨⟨m.toArray,by simp [e1,h1]⟩,?_⟩
 subst e2
 simp [secPV,Vector.toList]
theorem slist {α:Type} {n:Nat} {S:List PV→Prop} {wr:List PV→PV} {enc:α→PV} {ok:α→Prop} (hS:∀ ps,S ps→∃ a,ok a∧wr ps=enc a) {q:PV} (h:SList n S wr [q]):∃ l:List α,(∀ a∈l,ok a)∧q=.list n (l.map enc):=by
 obtain ⟨es,h1,h2⟩:=h
 cases h1
 have:∀ es:List PV,(∀ x∈es,∃ q,S q∧x=wr q)→∃ l:List α,(∀ a∈l,ok a)∧es=l.map enc:=by
  intro es
  induction es with
  |nil=>exact fun _=>⟨[],by simp,rfl⟩
  |cons e es ih =>
   intro h
   obtain ⟨q,h3,h4⟩:=h e (by simp)
   obtain ⟨a,h5,h6⟩:=hS q h3
   obtain ⟨l,h7,h8⟩:=ih fun x hx=>h x (by simp [hx])
   exact ⟨a :: l,by simp;exact ⟨h5,h7⟩,by rw [h4,h6,h8];rfl⟩
 obtain ⟨l,h3,h4⟩:=this es h2
 exact ⟨l,h3,by rw [h4]⟩
theorem wr_list {n:Nat} {S:List PV→Prop} {wr:List PV→PV} {ps:List PV} (h:SList n S wr ps):(wrS ps).cells=ps:=by
 obtain ⟨es,rfl,_⟩:=h;rfl
def SSecs:List PV→Prop:=SList 8 SSec .agg
theorem ssecs {q:PV} (h:SSecs [q]):∃ l:List Sec,q=eSecs l:=by
 obtain ⟨l,_,e⟩:=slist (enc:=eSec) (ok:=fun _=>True) (fun ps h=>by obtain ⟨s,rfl⟩:=ssec h;exact ⟨s,trivial,rfl⟩) h
 exact ⟨l,e⟩
def SImg:List PV→Prop:=SList 1 SSecs wrS
theorem simg {q:PV} (h:SImg [q]):∃ l:Img,q=.list 1 (l.map eSecs):=by
 obtain ⟨l,_,e⟩:=slist (enc:=eSecs) (ok:=fun _=>True) (fun ps h=>by
  obtain ⟨es,rfl,h2⟩:=h
  obtain ⟨l,e⟩:=ssecs (q:=.list 8 es) ⟨es,rfl,h2⟩
  exact ⟨l,trivial,e⟩) h
 exact ⟨l,e⟩
theorem Tryz.rdInt:RdsC Tryz.prog 3 1 (SInt .i64):=RdsC.int Tryz.underlying3 (by kernel_rfl)
theorem Tryz.rdU8:RdsC Tryz.prog 5 1 (SInt .u8):=RdsC.int Tryz.underlying5 (by kernel_rfl)
theorem Tryz.rdSec:RdsC Tryz.prog 68 8 SSec:=RdsC.arr Tryz.underlying68 Tryz.rdU8 (by kernel_rfl)
theorem Tryz.rdSecs:RdsC Tryz.prog 66 1 SSecs:=RdsC.list Tryz.underlying66 (by kernel_rfl) Tryz.rdSec (by decide) (fun _ _ _=>rfl)
theorem Tryz.rdImg:RdsC Tryz.prog 27 1 SImg:=RdsC.list Tryz.underlying27 (by kernel_rfl) Tryz.rdSecs (by decide) (fun _ h _=>wr_list h)
end Go.Proofs.YtioijcfcehhmdaaGreatDoor.V

namespace Go.Proofs.YtioijcfcehhmdaaGreatDoor.V
open Go.RowKit Go.ChangeShapes Go.WideShapes Go.ChangeAt
theorem i64b_ok {n:Int} (h:okI n):i64b n=true:=by
 unfold okI at h
 simp only [i64b,Bool.and_eq_true,decide_eq_true_eq];exact h
def SWr:List PV→Prop:=SCat [SInt .i64,SInt .i64,SSecs]
theorem swr {ps:List PV} (h:SWr ps):∃ x:Wrt,(i64b x.volume=true∧i64b x.start=true)∧PV.agg ps=eWr x:=by
 obtain ⟨p,q,rfl,⟨n,h1,rfl⟩,p2,q2,rfl,⟨m,h2,rfl⟩,p3,q3,rfl,h3,rfl⟩:=h
 obtain ⟨a,o1,e1⟩:=sint_i64 ⟨n,h1,rfl⟩
 obtain ⟨b,o2,e2⟩:=sint_i64 ⟨m,h2,rfl⟩
 obtain ⟨es,rfl,h4⟩:=h3
 obtain ⟨l,e3⟩:=ssecs (q:=.list 8 es) ⟨es,rfl,h4⟩
 refine ⟨⟨a,b,l⟩,⟨i64b_ok o1,i64b_ok o2⟩,?_⟩
 rw [e1,e2,e3];rfl
def SWrs:List PV→Prop:=SList 3 SWr .agg
theorem swrs {q:PV} (h:SWrs [q]):∃ l:List Wrt,okW l∧q=.list 3 (l.map eWr) :=
 slist (enc:=eWr) (ok:=fun x=>i64b x.volume=true∧i64b x.start=true) (fun ps h=>swr h) h
theorem Tryz.rdWr:RdsC Tryz.prog 81 3 SWr:=RdsC.struct3 Tryz.underlying81 Tryz.rdInt Tryz.rdInt Tryz.rdSecs rfl rfl rfl (by kernel_rfl)
theorem Tryz.rdWrs:RdsC Tryz.prog 34 1 SWrs:=RdsC.list Tryz.underlying34 (by kernel_rfl) Tryz.rdWr (by decide) (fun _ _ _=>rfl)
end Go.Proofs.YtioijcfcehhmdaaGreatDoor.V

namespace Go.Proofs.YtioijcfcehhmdaaGreatDoor
open V
open Go.RowKit Go.ChangeShapes Go.WideShapes Go.ChangeAt
def SWrss:List PV→Prop:=SList 1 SWrs wrS
def SOut:List PV→Prop:=SCat [SImg,SWrs,SWrs,SWrss]
theorem swrss {q:PV} (h:SWrss [q]):∃ l:List (List Wrt),(∀ x∈l,okW x)∧q=.list 1 (l.map eWrs):=by
 obtain ⟨l,ho,e⟩:=slist (enc:=eWrs) (ok:=okW) (fun ps h=>by
  obtain ⟨es,rfl,g⟩:=h
  obtain ⟨l,o,e⟩:=swrs (q:=.list 3 es) ⟨es,rfl,g⟩
  exact ⟨l,o,e⟩) h
 exact ⟨l,ho,e⟩
theorem sout {ps:List PV} (h:SOut ps):∃ x:Outg,okO x∧PV.agg ps=eOut x:=by
 obtain ⟨p,q,rfl,h1,p2,q2,rfl,h2,p3,q3,rfl,h3,p4,q4,rfl,h4,rfl⟩:=h
 obtain ⟨es1,rfl,g1⟩:=h1
 obtain ⟨es2,rfl,g2⟩:=h2
 obtain ⟨es3,rfl,g3⟩:=h3
 obtain ⟨es4,rfl,g4⟩:=h4
 obtain ⟨m,e1⟩:=simg (q:=.list 1 es1) ⟨es1,rfl,g1⟩
 obtain ⟨o,o2,e2⟩:=swrs (q:=.list 3 es2) ⟨es2,rfl,g2⟩
 obtain ⟨n,o3,e3⟩:=swrs (q:=.list 3 es3) ⟨es3,rfl,g3⟩
 obtain ⟨r,o4,e4⟩:=swrss (q:=.list 1 es4) ⟨es4,rfl,g4⟩
 refine ⟨⟨m,o,n,r⟩,⟨o2,o3,o4⟩,?_⟩
 rw [e1,e2,e3,e4];rfl
theorem Tryz.rdWrss:RdsC Tryz.prog 57 1 SWrss:=RdsC.list Tryz.underlying57 (by kernel_rfl) Tryz.rdWrs (by decide) (fun _ h _=>wr_list h)
theorem Tryz.rdOut:RdsC Tryz.prog 59 4 SOut:=RdsC.struct4 Tryz.underlying59 Tryz.rdImg Tryz.rdWrs Tryz.rdWrs Tryz.rdWrss rfl rfl rfl rfl (by kernel_rfl)
theorem len_field {P:Program} {H:Type} {enc:TypeId × Value→H} {w:World} {ok:Nat→Prop} {t e:TypeId} {fs:Array Field} {arr:Array Value} {d:DataW H} {p:List MemPlace} {f:Field} {k n:Nat} {ps es:List PV}
  (ht:P.underlying t=some (.struct fs)) (hf:fs[k]?=some f) (hu:P.underlying f.type=some (.slice e)) (hc1:P.cellsOf f.type=1)
  (h:DataW.Trod enc P w 0 (fun _=>true) true t (.agg arr) d p) (hr:PRep ok w (.agg ps) (.agg arr)) (hp:ps[f.offset]?=some (.list n es))
  {ts:List TypeId} {ds:List (DataW H)} {j:Nat} (hts:ts[j]?=some t) (hds:ds[j]?=some d) (hS:(DataW.weightsEach P ts ds).all (·≤reachBytes)=true):es.length * P.bytesOf e≤reachBytes:=by
 obtain ⟨fuel,hf0⟩:=h
 obtain ⟨xs,m,_,hx,hl,hlen,hE⟩:=DataW.trod_struct ht hf0
 have hk:=hE k f hf
 rw [hc1] at hk
 have hd:d=.agg (xs.map (·.1)):=congrArg Prod.fst hx
 have hkl:k<xs.length:=by rw [hlen];exact (Array.getElem?_eq_some_iff.1 hf).1
 rw [List.getElem?_eq_getElem hkl] at hk
 have hcs:(Value.agg arr).cells.toList=arr.toList:=rfl
 rw [hcs] at hk
 cases hr with
 |agg _ _ h1 h2 h3 =>
  have ho:f.offset<arr.size:=by rw [h1];exact (List.getElem?_eq_some_iff.1 hp).1
  have hv:arr[f.offset]?=some arr[f.offset]:=Array.getElem?_eq_getElem ho
  have hq:=h3 f.offset _ _ hp hv
  have hone:(arr.toList.drop f.offset).take 1=[arr[f.offset]]:=by
   rw [List.drop_eq_getElem_cons (by simpa using ho)]
   simp
  rw [hone] at hk
  generalize arr[f.offset]=u at *
  rcases DataW.trod_slice hu hk with ⟨h4,_⟩|⟨a,len,cap,elems,rest,n',_,h4,h5,_,_,_,hl2,_⟩
  ·cases h4
   cases hq with
   |nil=>simp
  ·cases h4
   cases hq with
   |nil=>simp
   |list _ _ b off c cv q1 q2 q3 q4 q5 q6 q7 =>
    have e1:(xs[k]).1=.slice (elems.map (·.1)) (rest.map (·.1)):=by rw [h5]
    have m1:(elems.length+rest.length) * P.bytesOf e∈(xs[k]).1.weights P f.type:=by rw [e1];simp [DataW.weights,hu]
    have m2:(elems.length+rest.length) * P.bytesOf e∈d.weights P t:=by
     rw [hd]
     simp only [DataW.weights,ht]
     exact DataW.weights_mem_each (j:=k) (t:=f.type) (d:=(xs[k]).1) (by rw [List.getElem?_map,Array.getElem?_toList,hf];rfl) (by rw [List.getElem?_map,List.getElem?_eq_getElem hkl];rfl) _ m1
    have m3:=DataW.weights_mem_each hts hds _ m2
    have m4:=List.all_eq_true.1 hS _ m3
    simp only [decide_eq_true_eq] at m4
    have:es.length * P.bytesOf e≤(elems.length+rest.length) * P.bytesOf e:=Nat.mul_le_mul_right _ (by omega)
    omega
theorem out_len {H:Type} {enc:TypeId × Value→H} {w:World} {ok:Nat→Prop} {x:Outg} {v:Value} {d:DataW H} {p:List MemPlace} (r:PRep ok w (eOut x) v) (h:DataW.Trod enc Tryz.prog w 0 (fun _=>true) true 59 v d p)
  {ts:List TypeId} {ds:List (DataW H)} (hts:ts[0]?=some 59) (hds:ds[0]?=some d) (hS:(DataW.weightsEach Tryz.prog ts ds).all (·≤reachBytes)=true):x.rs.length+2≤limB:=by
 rw [eOut_eq] at r
 have hb:Tryz.prog.bytesOf 34=24:=by kernel_rfl
 obtain ⟨arr,rfl⟩:∃ arr,v=.agg arr:=by cases r;exact ⟨_,rfl⟩
 have:=len_field (k:=3) (n:=1) (es:=x.rs.map eWrs) Tryz.underlying59 rfl Tryz.underlying57 (by kernel_rfl) h r rfl hts hds hS
 rw [hb,List.length_map] at this
 unfold reachBytes at this
 unfold limB
 omega
end Go.Proofs.YtioijcfcehhmdaaGreatDoor
