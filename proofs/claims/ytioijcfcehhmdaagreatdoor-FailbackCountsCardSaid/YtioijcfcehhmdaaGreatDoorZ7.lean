/-
  Part 7 of the texts that the statement stands on.
-/
import Derived.Test.YtioijcfcehhmdaaGreatDoorZ6
set_option linter.all false
namespace Go.Proofs.YtioijcfcehhmdaaGreatDoor
def Ok1 (P:Program) (f:Nat):VDef→Prop
 |.code fn=>fnOk P f fn=true
 |.ext g=>∀ args rs,g args=some rs→callable P f=true∧CallOk P f args rs
 |.srt h=>callable P f=true∧SortOk P f h
 |.thr h=>(∀ args,h args=some none→callable P f=true∧CallOk P f args [])∧∀ args t n,h args=some (some (t,n))→callable P f=true∧ThrOk P f args t n
 |.dfn fn=>dfnOk P f fn=true∧RescOk P fn.resc fn.t∧∀ d g zs,fn.clos=some (d,g,zs)→ClosOk P g (zs.map (·.2))
theorem ok5:Ok1 Tryz.prog 5 (.code fn5):=(by kernel_rfl:fnOk Tryz.prog 5 fn5=true)
theorem ok11:Ok1 Tryz.prog 11 (.code fn11):=(by kernel_rfl:fnOk Tryz.prog 11 fn11=true)
theorem ok12:Ok1 Tryz.prog 12 (.dfn fn12):=⟨(by kernel_rfl:dfnOk Tryz.prog 12 fn12=true),resc_ok,fun d g zs h=>by cases h;exact clos_round⟩
theorem ok15:Ok1 Tryz.prog 15 (.dfn fn15):=⟨(by kernel_rfl:dfnOk Tryz.prog 15 fn15=true),resc_ok,fun d g zs h=>by cases h;exact clos_finish⟩
theorem ok17:Ok1 Tryz.prog 17 (.code fn17):=(by kernel_rfl:fnOk Tryz.prog 17 fn17=true)
theorem ok19:Ok1 Tryz.prog 19 (.code fn19):=(by kernel_rfl:fnOk Tryz.prog 19 fn19=true)
theorem ok20:Ok1 Tryz.prog 20 (.code fn20):=(by kernel_rfl:fnOk Tryz.prog 20 fn20=true)
theorem ok21:Ok1 Tryz.prog 21 (.code fn21):=(by kernel_rfl:fnOk Tryz.prog 21 fn21=true)
theorem ok24:Ok1 Tryz.prog 24 (.dfn fn24):=⟨(by kernel_rfl:dfnOk Tryz.prog 24 fn24=true),resc_ok,fun d g zs h=>by cases h;exact clos_begin⟩
theorem ok27:Ok1 Tryz.prog 27 (.code fn27):=(by kernel_rfl:fnOk Tryz.prog 27 fn27=true)
theorem ok30:Ok1 Tryz.prog 30 (.code fn30):=(by kernel_rfl:fnOk Tryz.prog 30 fn30=true)
theorem ok33:Ok1 Tryz.prog 33 (.code fn33):=(by kernel_rfl:fnOk Tryz.prog 33 fn33=true)
theorem ok35:Ok1 Tryz.prog 35 (.code fn35):=(by kernel_rfl:fnOk Tryz.prog 35 fn35=true)
theorem ok36:Ok1 Tryz.prog 36 (.code fn36):=(by kernel_rfl:fnOk Tryz.prog 36 fn36=true)
theorem ok37:Ok1 Tryz.prog 37 (.code fn37):=(by kernel_rfl:fnOk Tryz.prog 37 fn37=true)
theorem ok38:Ok1 Tryz.prog 38 (.ext applyX):=applyI_ok
theorem ok39:Ok1 Tryz.prog 39 (.code fn39):=(by kernel_rfl:fnOk Tryz.prog 39 fn39=true)
theorem ok43:Ok1 Tryz.prog 43 (.code fn43):=(by kernel_rfl:fnOk Tryz.prog 43 fn43=true)
theorem ok44:Ok1 Tryz.prog 44 (.code fn44):=(by kernel_rfl:fnOk Tryz.prog 44 fn44=true)
theorem ok45:Ok1 Tryz.prog 45 (.code fn45):=(by kernel_rfl:fnOk Tryz.prog 45 fn45=true)
theorem ok46:Ok1 Tryz.prog 46 (.code fn46):=(by kernel_rfl:fnOk Tryz.prog 46 fn46=true)
theorem ok48:Ok1 Tryz.prog 48 (.code fn48):=(by kernel_rfl:fnOk Tryz.prog 48 fn48=true)
theorem ok49:Ok1 Tryz.prog 49 (.code fn49):=(by kernel_rfl:fnOk Tryz.prog 49 fn49=true)
theorem ok50:Ok1 Tryz.prog 50 (.code fn50):=(by kernel_rfl:fnOk Tryz.prog 50 fn50=true)
theorem ok51:Ok1 Tryz.prog 51 (.thr demandX):=demand_ok
theorem ok52:Ok1 Tryz.prog 52 (.code fn52):=(by kernel_rfl:fnOk Tryz.prog 52 fn52=true)
theorem ok53:Ok1 Tryz.prog 53 (.code fn53):=(by kernel_rfl:fnOk Tryz.prog 53 fn53=true)
theorem ok54:Ok1 Tryz.prog 54 (.code fn54):=(by kernel_rfl:fnOk Tryz.prog 54 fn54=true)
theorem ok62:Ok1 Tryz.prog 62 (.code fn62):=(by kernel_rfl:fnOk Tryz.prog 62 fn62=true)
theorem ok65:Ok1 Tryz.prog 65 (.code fn65):=(by kernel_rfl:fnOk Tryz.prog 65 fn65=true)
theorem ok66:Ok1 Tryz.prog 66 (.code fn66):=(by kernel_rfl:fnOk Tryz.prog 66 fn66=true)
theorem ok67:Ok1 Tryz.prog 67 (.code fn67):=(by kernel_rfl:fnOk Tryz.prog 67 fn67=true)
theorem ok68:Ok1 Tryz.prog 68 (.code fn68):=(by kernel_rfl:fnOk Tryz.prog 68 fn68=true)
theorem ok69:Ok1 Tryz.prog 69 (.code fn69):=(by kernel_rfl:fnOk Tryz.prog 69 fn69=true)
theorem ok70:Ok1 Tryz.prog 70 (.code fn70):=(by kernel_rfl:fnOk Tryz.prog 70 fn70=true)
theorem ok71:Ok1 Tryz.prog 71 (.code fn71):=(by kernel_rfl:fnOk Tryz.prog 71 fn71=true)
theorem ok75:Ok1 Tryz.prog 75 (.code fn75):=(by kernel_rfl:fnOk Tryz.prog 75 fn75=true)
theorem ok76:Ok1 Tryz.prog 76 (.code fn76):=(by kernel_rfl:fnOk Tryz.prog 76 fn76=true)
theorem ok77:Ok1 Tryz.prog 77 (.code fn77):=(by kernel_rfl:fnOk Tryz.prog 77 fn77=true)
theorem ok78:Ok1 Tryz.prog 78 (.code fn78):=(by kernel_rfl:fnOk Tryz.prog 78 fn78=true)
theorem ok79:Ok1 Tryz.prog 79 (.code fn79):=(by kernel_rfl:fnOk Tryz.prog 79 fn79=true)
theorem ok81:Ok1 Tryz.prog 81 (.code fn81):=(by kernel_rfl:fnOk Tryz.prog 81 fn81=true)
theorem ok83:Ok1 Tryz.prog 83 (.code fn83):=(by kernel_rfl:fnOk Tryz.prog 83 fn83=true)
theorem ok84:Ok1 Tryz.prog 84 (.code fn84):=(by kernel_rfl:fnOk Tryz.prog 84 fn84=true)
theorem ok85:Ok1 Tryz.prog 85 (.code fn85):=(by kernel_rfl:fnOk Tryz.prog 85 fn85=true)
theorem ok86:Ok1 Tryz.prog 86 (.code fn86):=(by kernel_rfl:fnOk Tryz.prog 86 fn86=true)
theorem ok87:Ok1 Tryz.prog 87 (.code fn87):=(by kernel_rfl:fnOk Tryz.prog 87 fn87=true)
theorem ok89:Ok1 Tryz.prog 89 (.code fn89):=(by kernel_rfl:fnOk Tryz.prog 89 fn89=true)
theorem ok90:Ok1 Tryz.prog 90 (.code fn90):=(by kernel_rfl:fnOk Tryz.prog 90 fn90=true)
theorem ok92:Ok1 Tryz.prog 92 (.code fn92):=(by kernel_rfl:fnOk Tryz.prog 92 fn92=true)
theorem ok93:Ok1 Tryz.prog 93 (.code fn93):=(by kernel_rfl:fnOk Tryz.prog 93 fn93=true)
theorem ok94:Ok1 Tryz.prog 94 (.code fn94):=(by kernel_rfl:fnOk Tryz.prog 94 fn94=true)
theorem ok95:Ok1 Tryz.prog 95 (.ext (cloneX 8)):=clone95_ok
theorem ok96:Ok1 Tryz.prog 96 (.code fn96):=(by kernel_rfl:fnOk Tryz.prog 96 fn96=true)
theorem ok97:Ok1 Tryz.prog 97 (.code fn97):=(by kernel_rfl:fnOk Tryz.prog 97 fn97=true)
theorem ok98:Ok1 Tryz.prog 98 (.code fn98):=(by kernel_rfl:fnOk Tryz.prog 98 fn98=true)
theorem ok99:Ok1 Tryz.prog 99 (.code fn99):=(by kernel_rfl:fnOk Tryz.prog 99 fn99=true)
theorem ok111:Ok1 Tryz.prog 111 (.code fn111):=(by kernel_rfl:fnOk Tryz.prog 111 fn111=true)
theorem ok112:Ok1 Tryz.prog 112 (.code fn112):=(by kernel_rfl:fnOk Tryz.prog 112 fn112=true)
theorem ok115:Ok1 Tryz.prog 115 (.code fn115):=(by kernel_rfl:fnOk Tryz.prog 115 fn115=true)
theorem ok116:Ok1 Tryz.prog 116 (.code fn116):=(by kernel_rfl:fnOk Tryz.prog 116 fn116=true)
theorem ok117:Ok1 Tryz.prog 117 (.code fn117):=(by kernel_rfl:fnOk Tryz.prog 117 fn117=true)
theorem ok118:Ok1 Tryz.prog 118 (.code fn118):=(by kernel_rfl:fnOk Tryz.prog 118 fn118=true)
theorem ok119:Ok1 Tryz.prog 119 (.code fn119):=(by kernel_rfl:fnOk Tryz.prog 119 fn119=true)
theorem ok120:Ok1 Tryz.prog 120 (.code fn120):=(by kernel_rfl:fnOk Tryz.prog 120 fn120=true)
theorem ok121:Ok1 Tryz.prog 121 (.code fn121):=(by kernel_rfl:fnOk Tryz.prog 121 fn121=true)
theorem ok122:Ok1 Tryz.prog 122 (.code fn122):=(by kernel_rfl:fnOk Tryz.prog 122 fn122=true)
theorem ok123:Ok1 Tryz.prog 123 (.code fn123):=(by kernel_rfl:fnOk Tryz.prog 123 fn123=true)
theorem ok124:Ok1 Tryz.prog 124 (.code fn124):=(by kernel_rfl:fnOk Tryz.prog 124 fn124=true)
theorem ok126:Ok1 Tryz.prog 126 (.code fn126):=(by kernel_rfl:fnOk Tryz.prog 126 fn126=true)
theorem ok127:Ok1 Tryz.prog 127 (.code fn127):=(by kernel_rfl:fnOk Tryz.prog 127 fn127=true)
theorem ok128:Ok1 Tryz.prog 128 (.code fn128):=(by kernel_rfl:fnOk Tryz.prog 128 fn128=true)
theorem ok129:Ok1 Tryz.prog 129 (.code fn129):=(by kernel_rfl:fnOk Tryz.prog 129 fn129=true)
theorem ok130:Ok1 Tryz.prog 130 (.code fn130):=(by kernel_rfl:fnOk Tryz.prog 130 fn130=true)
theorem ok131:Ok1 Tryz.prog 131 (.code fn131):=(by kernel_rfl:fnOk Tryz.prog 131 fn131=true)
theorem ok132:Ok1 Tryz.prog 132 (.code fn132):=(by kernel_rfl:fnOk Tryz.prog 132 fn132=true)
theorem ok133:Ok1 Tryz.prog 133 (.code fn133):=(by kernel_rfl:fnOk Tryz.prog 133 fn133=true)
theorem ok135:Ok1 Tryz.prog 135 (.code fn135):=(by kernel_rfl:fnOk Tryz.prog 135 fn135=true)
theorem ok136:Ok1 Tryz.prog 136 (.code fn136):=(by kernel_rfl:fnOk Tryz.prog 136 fn136=true)
theorem ok138:Ok1 Tryz.prog 138 (.code fn138):=(by kernel_rfl:fnOk Tryz.prog 138 fn138=true)
theorem ok139:Ok1 Tryz.prog 139 (.code fn139):=(by kernel_rfl:fnOk Tryz.prog 139 fn139=true)
theorem ok140:Ok1 Tryz.prog 140 (.code fn140):=(by kernel_rfl:fnOk Tryz.prog 140 fn140=true)
theorem ok141:Ok1 Tryz.prog 141 (.code fn141):=(by kernel_rfl:fnOk Tryz.prog 141 fn141=true)
theorem ok142:Ok1 Tryz.prog 142 (.srt (sortEndsX 143)):=sortEnds_ok
theorem ok143:Ok1 Tryz.prog 143 (.code fn143):=(by kernel_rfl:fnOk Tryz.prog 143 fn143=true)
theorem ok144:Ok1 Tryz.prog 144 (.code fn144):=(by kernel_rfl:fnOk Tryz.prog 144 fn144=true)
theorem ok145:Ok1 Tryz.prog 145 (.code fn145):=(by kernel_rfl:fnOk Tryz.prog 145 fn145=true)
theorem ok146:Ok1 Tryz.prog 146 (.ext (cloneX 1)):=clone146_ok
theorem ok147:Ok1 Tryz.prog 147 (.code fn147):=(by kernel_rfl:fnOk Tryz.prog 147 fn147=true)
theorem ok148:Ok1 Tryz.prog 148 (.code fn148):=(by kernel_rfl:fnOk Tryz.prog 148 fn148=true)
theorem ok149:Ok1 Tryz.prog 149 (.code fn149):=(by kernel_rfl:fnOk Tryz.prog 149 fn149=true)
theorem ok150:Ok1 Tryz.prog 150 (.ext tzX):=tz_ok
theorem ok151:Ok1 Tryz.prog 151 (.code fn151):=(by kernel_rfl:fnOk Tryz.prog 151 fn151=true)
theorem ok152:Ok1 Tryz.prog 152 (.code fn152):=(by kernel_rfl:fnOk Tryz.prog 152 fn152=true)
theorem ok153:Ok1 Tryz.prog 153 (.code fn153):=(by kernel_rfl:fnOk Tryz.prog 153 fn153=true)
theorem ok157:Ok1 Tryz.prog 157 (.code fn157):=(by kernel_rfl:fnOk Tryz.prog 157 fn157=true)
theorem tabOk:∀ p∈tab,Ok1 Tryz.prog p.1 p.2:=by
 unfold tab
 exact List.forall_mem_cons.2 ⟨ok5,List.forall_mem_cons.2 ⟨ok11,List.forall_mem_cons.2 ⟨ok12,List.forall_mem_cons.2 ⟨ok15,List.forall_mem_cons.2 ⟨ok17,List.forall_mem_cons.2 ⟨ok19,List.forall_mem_cons.2 ⟨ok20,List.forall_mem_cons.2 ⟨ok21,List.forall_mem_cons.2 ⟨ok24,List.forall_mem_cons.2 ⟨ok27,List.forall_mem_cons.2 ⟨ok30,List.forall_mem_cons.2 ⟨ok33,List.forall_mem_cons.2 ⟨ok35,List.forall_mem_cons.2 ⟨ok36,List.forall_mem_cons.2 ⟨ok37,List.forall_mem_cons.2 ⟨ok38,List.forall_mem_cons.2 ⟨ok39,List.forall_mem_cons.2 ⟨ok43,List.forall_mem_cons.2 ⟨ok44,List.forall_mem_cons.2 ⟨ok45,List.forall_mem_cons.2 ⟨ok46,List.forall_mem_cons.2 ⟨ok48,List.forall_mem_cons.2 ⟨ok49,List.forall_mem_cons.2 ⟨ok50,List.forall_mem_cons.2 ⟨ok51,List.forall_mem_cons.2 ⟨ok52,List.forall_mem_cons.2 ⟨ok53,List.forall_mem_cons.2 ⟨ok54,List.forall_mem_cons.2 ⟨ok62,List.forall_mem_cons.2 ⟨ok65,List.forall_mem_cons.2 ⟨ok66,List.forall_mem_cons.2 ⟨ok67,List.forall_mem_cons.2 ⟨ok68,List.forall_mem_cons.2 ⟨ok69,List.forall_mem_cons.2 ⟨ok70,List.forall_mem_cons.2 ⟨ok71,List.forall_mem_cons.2 ⟨ok75,List.forall_mem_cons.2 ⟨ok76,List.forall_mem_cons.2 ⟨ok77,List.forall_mem_cons.2 ⟨ok78,List.forall_mem_cons.2 ⟨ok79,List.forall_mem_cons.2 ⟨ok81,List.forall_mem_cons.2 ⟨ok83,List.forall_mem_cons.2 ⟨ok84,List.forall_mem_cons.2 ⟨ok85,List.forall_mem_cons.2 ⟨ok86,List.forall_mem_cons.2 ⟨ok87,List.forall_mem_cons.2 ⟨ok89,List.forall_mem_cons.2 ⟨ok90,List.forall_mem_cons.2 ⟨ok92,List.forall_mem_cons.2 ⟨ok93,List.forall_mem_cons.2 ⟨ok94,List.forall_mem_cons.2 ⟨ok95,List.forall_mem_cons.2 ⟨ok96,List.forall_mem_cons.2 ⟨ok97,List.forall_mem_cons.2 ⟨ok98,List.forall_mem_cons.2 ⟨ok99,List.forall_mem_cons.2 ⟨ok111,List.forall_mem_cons.2 ⟨ok112,List.forall_mem_cons.2 ⟨ok115,List.forall_mem_cons.2 ⟨ok116,List.forall_mem_cons.2 ⟨ok117,List.forall_mem_cons.2 ⟨ok118,List.forall_mem_cons.2 ⟨ok119,List.forall_mem_cons.2 ⟨ok120,List.forall_mem_cons.2 ⟨ok121,List.forall_mem_cons.2 ⟨ok122,List.forall_mem_cons.2 ⟨ok123,List.forall_mem_cons.2 ⟨ok124,List.forall_mem_cons.2 ⟨ok126,List.forall_mem_cons.2 ⟨ok127,List.forall_mem_cons.2 ⟨ok128,List.forall_mem_cons.2 ⟨ok129,List.forall_mem_cons.2 ⟨ok130,List.forall_mem_cons.2 ⟨ok131,List.forall_mem_cons.2 ⟨ok132,List.forall_mem_cons.2 ⟨ok133,List.forall_mem_cons.2 ⟨ok135,List.forall_mem_cons.2 ⟨ok136,List.forall_mem_cons.2 ⟨ok138,List.forall_mem_cons.2 ⟨ok139,List.forall_mem_cons.2 ⟨ok140,List.forall_mem_cons.2 ⟨ok141,List.forall_mem_cons.2 ⟨ok142,List.forall_mem_cons.2 ⟨ok143,List.forall_mem_cons.2 ⟨ok144,List.forall_mem_cons.2 ⟨ok145,List.forall_mem_cons.2 ⟨ok146,List.forall_mem_cons.2 ⟨ok147,List.forall_mem_cons.2 ⟨ok148,List.forall_mem_cons.2 ⟨ok149,List.forall_mem_cons.2 ⟨ok150,List.forall_mem_cons.2 ⟨ok151,List.forall_mem_cons.2 ⟨ok152,List.forall_mem_cons.2 ⟨ok153,List.forall_mem_cons.2 ⟨ok157,fun p hp=>by cases hp⟩⟩⟩⟩⟩⟩⟩⟩⟩⟩⟩⟩⟩⟩⟩⟩⟩⟩⟩⟩⟩⟩⟩⟩⟩⟩⟩⟩⟩⟩⟩⟩⟩⟩⟩⟩⟩⟩⟩⟩⟩⟩⟩⟩⟩⟩⟩⟩⟩⟩⟩⟩⟩⟩⟩⟩⟩⟩⟩⟩⟩⟩⟩⟩⟩⟩⟩⟩⟩⟩⟩⟩⟩⟩⟩⟩⟩⟩⟩⟩⟩⟩⟩⟩⟩⟩⟩⟩⟩⟩⟩⟩⟩⟩⟩⟩
theorem lookup_mem:∀ {l:List (Nat × VDef)} {f:Nat} {d:VDef},l.lookup f=some d→(f,d)∈l
 |(k,v) :: l,f,d,h=>by
  rw [List.lookup_cons] at h
  split at h
  ·rename_i e
   have e:f=k:=by simpa using e
   cases h;subst e;simp
  ·exact List.mem_cons_of_mem _ (lookup_mem h)
theorem envOk:EnvOk Tryz.prog env:=fun f d h=>by
 have:=tabOk _ (lookup_mem h)
 cases d<;>exact this
end Go.Proofs.YtioijcfcehhmdaaGreatDoor

namespace Go.Proofs.YtioijcfcehhmdaaGreatDoor.V
end Go.Proofs.YtioijcfcehhmdaaGreatDoor.V

namespace Go.Proofs.YtioijcfcehhmdaaGreatDoor.V
end Go.Proofs.YtioijcfcehhmdaaGreatDoor.V

namespace Go.Proofs.YtioijcfcehhmdaaGreatDoor.V
def sizesErr (l:List Int):Int:=if l.length<1∨8<l.length then 6 else if l.any (fun n=>decide (n<1) || decide (n > 4096)) then 2 else 0
end Go.Proofs.YtioijcfcehhmdaaGreatDoor.V

namespace Go.Proofs.YtioijcfcehhmdaaGreatDoor.V
end Go.Proofs.YtioijcfcehhmdaaGreatDoor.V

namespace Go.Proofs.YtioijcfcehhmdaaGreatDoor
section
variable {env:Env}
end
end Go.Proofs.YtioijcfcehhmdaaGreatDoor
