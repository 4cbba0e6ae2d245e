/-
  Part 7 of the texts that the statement stands on.
-/
import Derived.Test.YtioijcfcehhmdaaGreatDoorZ6
set_option linter.all false
namespace Go.Proofs.YtioijcfcehhmdaaGreatDoor
def Ok1 (P:Program) (f:Nat):VDef→Prop
 |.code fn=>fnOk P f fn=true
 |.ext g=>∀ args rs,g args=some rs→callable P f=true∧CallOk P f args rs
 |.srt h=>callable P f=true∧SortOk P f h
 |.thr h=>(∀ args,h args=some none→callable P f=true∧CallOk P f args [])∧∀ args t n,h args=some (some (t,n))→callable P f=true∧ThrOk P f args t n
 |.dfn fn=>dfnOk P f fn=true∧RescOk P fn.resc fn.t∧∀ d g zs,fn.clos=some (d,g,zs)→ClosOk P g (zs.map (·.2))
theorem ok7:Ok1 Tryz.prog 7 (.code fn7):=(by kernel_rfl:fnOk Tryz.prog 7 fn7=true)
theorem ok10:Ok1 Tryz.prog 10 (.code fn10):=(by kernel_rfl:fnOk Tryz.prog 10 fn10=true)
theorem ok11:Ok1 Tryz.prog 11 (.code fn11):=(by kernel_rfl:fnOk Tryz.prog 11 fn11=true)
theorem ok12:Ok1 Tryz.prog 12 (.dfn fn12):=⟨(by kernel_rfl:dfnOk Tryz.prog 12 fn12=true),resc_ok,fun d g zs h=>by cases h;exact clos_round⟩
theorem ok15:Ok1 Tryz.prog 15 (.dfn fn15):=⟨(by kernel_rfl:dfnOk Tryz.prog 15 fn15=true),resc_ok,fun d g zs h=>by cases h;exact clos_finish⟩
theorem ok17:Ok1 Tryz.prog 17 (.code fn17):=(by kernel_rfl:fnOk Tryz.prog 17 fn17=true)
theorem ok20:Ok1 Tryz.prog 20 (.code fn20):=(by kernel_rfl:fnOk Tryz.prog 20 fn20=true)
theorem ok24:Ok1 Tryz.prog 24 (.dfn fn24):=⟨(by kernel_rfl:dfnOk Tryz.prog 24 fn24=true),resc_ok,fun d g zs h=>by cases h;exact clos_begin⟩
theorem ok26:Ok1 Tryz.prog 26 (.code fn26):=(by kernel_rfl:fnOk Tryz.prog 26 fn26=true)
theorem ok27:Ok1 Tryz.prog 27 (.code fn27):=(by kernel_rfl:fnOk Tryz.prog 27 fn27=true)
theorem ok28:Ok1 Tryz.prog 28 (.dfn fn28):=⟨(by kernel_rfl:dfnOk Tryz.prog 28 fn28=true),resc_ok,fun d g zs h=>by cases h⟩
theorem ok29:Ok1 Tryz.prog 29 (.code fn29):=(by kernel_rfl:fnOk Tryz.prog 29 fn29=true)
theorem ok30:Ok1 Tryz.prog 30 (.code fn30):=(by kernel_rfl:fnOk Tryz.prog 30 fn30=true)
theorem ok33:Ok1 Tryz.prog 33 (.code fn33):=(by kernel_rfl:fnOk Tryz.prog 33 fn33=true)
theorem ok35:Ok1 Tryz.prog 35 (.code fn35):=(by kernel_rfl:fnOk Tryz.prog 35 fn35=true)
theorem ok36:Ok1 Tryz.prog 36 (.code fn36):=(by kernel_rfl:fnOk Tryz.prog 36 fn36=true)
theorem ok37:Ok1 Tryz.prog 37 (.code fn37):=(by kernel_rfl:fnOk Tryz.prog 37 fn37=true)
theorem ok38:Ok1 Tryz.prog 38 (.ext applyX):=applyI_ok
theorem ok39:Ok1 Tryz.prog 39 (.code fn39):=(by kernel_rfl:fnOk Tryz.prog 39 fn39=true)
theorem ok42:Ok1 Tryz.prog 42 (.code fn42):=(by kernel_rfl:fnOk Tryz.prog 42 fn42=true)
theorem ok43:Ok1 Tryz.prog 43 (.code fn43):=(by kernel_rfl:fnOk Tryz.prog 43 fn43=true)
theorem ok44:Ok1 Tryz.prog 44 (.code fn44):=(by kernel_rfl:fnOk Tryz.prog 44 fn44=true)
theorem ok45:Ok1 Tryz.prog 45 (.code fn45):=(by kernel_rfl:fnOk Tryz.prog 45 fn45=true)
theorem ok46:Ok1 Tryz.prog 46 (.code fn46):=(by kernel_rfl:fnOk Tryz.prog 46 fn46=true)
theorem ok48:Ok1 Tryz.prog 48 (.code fn48):=(by kernel_rfl:fnOk Tryz.prog 48 fn48=true)
theorem ok49:Ok1 Tryz.prog 49 (.code fn49):=(by kernel_rfl:fnOk Tryz.prog 49 fn49=true)
theorem ok50:Ok1 Tryz.prog 50 (.code fn50):=(by kernel_rfl:fnOk Tryz.prog 50 fn50=true)
theorem ok51:Ok1 Tryz.prog 51 (.thr demandX):=demand_ok
theorem ok52:Ok1 Tryz.prog 52 (.code fn52):=(by kernel_rfl:fnOk Tryz.prog 52 fn52=true)
theorem ok53:Ok1 Tryz.prog 53 (.code fn53):=(by kernel_rfl:fnOk Tryz.prog 53 fn53=true)
theorem ok54:Ok1 Tryz.prog 54 (.code fn54):=(by kernel_rfl:fnOk Tryz.prog 54 fn54=true)
theorem ok55:Ok1 Tryz.prog 55 (.code fn55):=(by kernel_rfl:fnOk Tryz.prog 55 fn55=true)
theorem ok56:Ok1 Tryz.prog 56 (.code fn56):=(by kernel_rfl:fnOk Tryz.prog 56 fn56=true)
theorem ok59:Ok1 Tryz.prog 59 (.code fn59):=(by kernel_rfl:fnOk Tryz.prog 59 fn59=true)
theorem ok62:Ok1 Tryz.prog 62 (.code fn62):=(by kernel_rfl:fnOk Tryz.prog 62 fn62=true)
theorem ok66:Ok1 Tryz.prog 66 (.code fn66):=(by kernel_rfl:fnOk Tryz.prog 66 fn66=true)
theorem ok68:Ok1 Tryz.prog 68 (.code fn68):=(by kernel_rfl:fnOk Tryz.prog 68 fn68=true)
theorem ok69:Ok1 Tryz.prog 69 (.code fn69):=(by kernel_rfl:fnOk Tryz.prog 69 fn69=true)
theorem ok70:Ok1 Tryz.prog 70 (.code fn70):=(by kernel_rfl:fnOk Tryz.prog 70 fn70=true)
theorem ok71:Ok1 Tryz.prog 71 (.code fn71):=(by kernel_rfl:fnOk Tryz.prog 71 fn71=true)
theorem ok72:Ok1 Tryz.prog 72 (.code fn72):=(by kernel_rfl:fnOk Tryz.prog 72 fn72=true)
theorem ok73:Ok1 Tryz.prog 73 (.code fn73):=(by kernel_rfl:fnOk Tryz.prog 73 fn73=true)
theorem ok74:Ok1 Tryz.prog 74 (.code fn74):=(by kernel_rfl:fnOk Tryz.prog 74 fn74=true)
theorem ok75:Ok1 Tryz.prog 75 (.code fn75):=(by kernel_rfl:fnOk Tryz.prog 75 fn75=true)
theorem ok76:Ok1 Tryz.prog 76 (.code fn76):=(by kernel_rfl:fnOk Tryz.prog 76 fn76=true)
theorem ok77:Ok1 Tryz.prog 77 (.code fn77):=(by kernel_rfl:fnOk Tryz.prog 77 fn77=true)
theorem ok78:Ok1 Tryz.prog 78 (.code fn78):=(by kernel_rfl:fnOk Tryz.prog 78 fn78=true)
theorem ok79:Ok1 Tryz.prog 79 (.code fn79):=(by kernel_rfl:fnOk Tryz.prog 79 fn79=true)
theorem ok81:Ok1 Tryz.prog 81 (.code fn81):=(by kernel_rfl:fnOk Tryz.prog 81 fn81=true)
theorem ok83:Ok1 Tryz.prog 83 (.code fn83):=(by kernel_rfl:fnOk Tryz.prog 83 fn83=true)
theorem ok84:Ok1 Tryz.prog 84 (.code fn84):=(by kernel_rfl:fnOk Tryz.prog 84 fn84=true)
theorem ok85:Ok1 Tryz.prog 85 (.code fn85):=(by kernel_rfl:fnOk Tryz.prog 85 fn85=true)
theorem ok86:Ok1 Tryz.prog 86 (.code fn86):=(by kernel_rfl:fnOk Tryz.prog 86 fn86=true)
theorem ok87:Ok1 Tryz.prog 87 (.code fn87):=(by kernel_rfl:fnOk Tryz.prog 87 fn87=true)
theorem ok89:Ok1 Tryz.prog 89 (.code fn89):=(by kernel_rfl:fnOk Tryz.prog 89 fn89=true)
theorem ok90:Ok1 Tryz.prog 90 (.code fn90):=(by kernel_rfl:fnOk Tryz.prog 90 fn90=true)
theorem ok92:Ok1 Tryz.prog 92 (.code fn92):=(by kernel_rfl:fnOk Tryz.prog 92 fn92=true)
theorem ok93:Ok1 Tryz.prog 93 (.code fn93):=(by kernel_rfl:fnOk Tryz.prog 93 fn93=true)
theorem ok94:Ok1 Tryz.prog 94 (.code fn94):=(by kernel_rfl:fnOk Tryz.prog 94 fn94=true)
theorem ok95:Ok1 Tryz.prog 95 (.ext (cloneX 8)):=clone95_ok
theorem ok96:Ok1 Tryz.prog 96 (.code fn96):=(by kernel_rfl:fnOk Tryz.prog 96 fn96=true)
theorem ok97:Ok1 Tryz.prog 97 (.code fn97):=(by kernel_rfl:fnOk Tryz.prog 97 fn97=true)
theorem ok98:Ok1 Tryz.prog 98 (.code fn98):=(by kernel_rfl:fnOk Tryz.prog 98 fn98=true)
theorem ok99:Ok1 Tryz.prog 99 (.code fn99):=(by kernel_rfl:fnOk Tryz.prog 99 fn99=true)
theorem ok100:Ok1 Tryz.prog 100 (.code fn100):=(by kernel_rfl:fnOk Tryz.prog 100 fn100=true)
theorem ok101:Ok1 Tryz.prog 101 (.code fn101):=(by kernel_rfl:fnOk Tryz.prog 101 fn101=true)
theorem ok102:Ok1 Tryz.prog 102 (.code fn102):=(by kernel_rfl:fnOk Tryz.prog 102 fn102=true)
theorem ok103:Ok1 Tryz.prog 103 (.code fn103):=(by kernel_rfl:fnOk Tryz.prog 103 fn103=true)
theorem ok104:Ok1 Tryz.prog 104 (.code fn104):=(by kernel_rfl:fnOk Tryz.prog 104 fn104=true)
theorem ok111:Ok1 Tryz.prog 111 (.code fn111):=(by kernel_rfl:fnOk Tryz.prog 111 fn111=true)
theorem ok112:Ok1 Tryz.prog 112 (.code fn112):=(by kernel_rfl:fnOk Tryz.prog 112 fn112=true)
theorem ok113:Ok1 Tryz.prog 113 (.code fn113):=(by kernel_rfl:fnOk Tryz.prog 113 fn113=true)
theorem ok114:Ok1 Tryz.prog 114 (.code fn114):=(by kernel_rfl:fnOk Tryz.prog 114 fn114=true)
theorem ok115:Ok1 Tryz.prog 115 (.code fn115):=(by kernel_rfl:fnOk Tryz.prog 115 fn115=true)
theorem ok116:Ok1 Tryz.prog 116 (.code fn116):=(by kernel_rfl:fnOk Tryz.prog 116 fn116=true)
theorem ok117:Ok1 Tryz.prog 117 (.code fn117):=(by kernel_rfl:fnOk Tryz.prog 117 fn117=true)
theorem ok118:Ok1 Tryz.prog 118 (.code fn118):=(by kernel_rfl:fnOk Tryz.prog 118 fn118=true)
theorem ok119:Ok1 Tryz.prog 119 (.code fn119):=(by kernel_rfl:fnOk Tryz.prog 119 fn119=true)
theorem ok120:Ok1 Tryz.prog 120 (.code fn120):=(by kernel_rfl:fnOk Tryz.prog 120 fn120=true)
theorem ok121:Ok1 Tryz.prog 121 (.code fn121):=(by kernel_rfl:fnOk Tryz.prog 121 fn121=true)
theorem ok122:Ok1 Tryz.prog 122 (.code fn122):=(by kernel_rfl:fnOk Tryz.prog 122 fn122=true)
theorem ok123:Ok1 Tryz.prog 123 (.code fn123):=(by kernel_rfl:fnOk Tryz.prog 123 fn123=true)
theorem ok124:Ok1 Tryz.prog 124 (.code fn124):=(by kernel_rfl:fnOk Tryz.prog 124 fn124=true)
theorem ok126:Ok1 Tryz.prog 126 (.code fn126):=(by kernel_rfl:fnOk Tryz.prog 126 fn126=true)
theorem ok127:Ok1 Tryz.prog 127 (.code fn127):=(by kernel_rfl:fnOk Tryz.prog 127 fn127=true)
theorem ok128:Ok1 Tryz.prog 128 (.code fn128):=(by kernel_rfl:fnOk Tryz.prog 128 fn128=true)
theorem ok129:Ok1 Tryz.prog 129 (.code fn129):=(by kernel_rfl:fnOk Tryz.prog 129 fn129=true)
theorem ok130:Ok1 Tryz.prog 130 (.code fn130):=(by kernel_rfl:fnOk Tryz.prog 130 fn130=true)
theorem ok131:Ok1 Tryz.prog 131 (.code fn131):=(by kernel_rfl:fnOk Tryz.prog 131 fn131=true)
theorem ok132:Ok1 Tryz.prog 132 (.code fn132):=(by kernel_rfl:fnOk Tryz.prog 132 fn132=true)
theorem ok133:Ok1 Tryz.prog 133 (.code fn133):=(by kernel_rfl:fnOk Tryz.prog 133 fn133=true)
theorem ok135:Ok1 Tryz.prog 135 (.code fn135):=(by kernel_rfl:fnOk Tryz.prog 135 fn135=true)
theorem ok136:Ok1 Tryz.prog 136 (.code fn136):=(by kernel_rfl:fnOk Tryz.prog 136 fn136=true)
theorem ok137:Ok1 Tryz.prog 137 (.code fn137):=(by kernel_rfl:fnOk Tryz.prog 137 fn137=true)
theorem ok138:Ok1 Tryz.prog 138 (.code fn138):=(by kernel_rfl:fnOk Tryz.prog 138 fn138=true)
theorem ok139:Ok1 Tryz.prog 139 (.code fn139):=(by kernel_rfl:fnOk Tryz.prog 139 fn139=true)
theorem ok140:Ok1 Tryz.prog 140 (.code fn140):=(by kernel_rfl:fnOk Tryz.prog 140 fn140=true)
theorem ok141:Ok1 Tryz.prog 141 (.code fn141):=(by kernel_rfl:fnOk Tryz.prog 141 fn141=true)
theorem ok142:Ok1 Tryz.prog 142 (.srt (sortEndsX 143)):=sortEnds_ok
theorem ok143:Ok1 Tryz.prog 143 (.code fn143):=(by kernel_rfl:fnOk Tryz.prog 143 fn143=true)
theorem ok144:Ok1 Tryz.prog 144 (.code fn144):=(by kernel_rfl:fnOk Tryz.prog 144 fn144=true)
theorem ok145:Ok1 Tryz.prog 145 (.code fn145):=(by kernel_rfl:fnOk Tryz.prog 145 fn145=true)
theorem ok146:Ok1 Tryz.prog 146 (.ext (cloneX 1)):=clone146_ok
theorem ok147:Ok1 Tryz.prog 147 (.code fn147):=(by kernel_rfl:fnOk Tryz.prog 147 fn147=true)
theorem ok148:Ok1 Tryz.prog 148 (.code fn148):=(by kernel_rfl:fnOk Tryz.prog 148 fn148=true)
theorem ok149:Ok1 Tryz.prog 149 (.code fn149):=(by kernel_rfl:fnOk Tryz.prog 149 fn149=true)
theorem ok150:Ok1 Tryz.prog 150 (.ext tzX):=tz_ok
theorem ok151:Ok1 Tryz.prog 151 (.code fn151):=(by kernel_rfl:fnOk Tryz.prog 151 fn151=true)
theorem ok152:Ok1 Tryz.prog 152 (.code fn152):=(by kernel_rfl:fnOk Tryz.prog 152 fn152=true)
theorem ok153:Ok1 Tryz.prog 153 (.code fn153):=(by kernel_rfl:fnOk Tryz.prog 153 fn153=true)
theorem ok154:Ok1 Tryz.prog 154 (.code fn154):=(by kernel_rfl:fnOk Tryz.prog 154 fn154=true)
theorem ok157:Ok1 Tryz.prog 157 (.code fn157):=(by kernel_rfl:fnOk Tryz.prog 157 fn157=true)
theorem tabOk:∀ p∈tab,Ok1 Tryz.prog p.1 p.2:=by
 unfold tab
 exact List.forall_mem_cons.2 ⟨ok7,List.forall_mem_cons.2 ⟨ok10,List.forall_mem_cons.2 ⟨ok11,List.forall_mem_cons.2 ⟨ok12,List.forall_mem_cons.2 ⟨ok15,List.forall_mem_cons.2 ⟨ok17,List.forall_mem_cons.2 ⟨ok20,List.forall_mem_cons.2 ⟨ok24,List.forall_mem_cons.2 ⟨ok26,List.forall_mem_cons.2 ⟨ok27,List.forall_mem_cons.2 ⟨ok28,List.forall_mem_cons.2 ⟨ok29,List.forall_mem_cons.2 ⟨ok30,List.forall_mem_cons.2 ⟨ok33,List.forall_mem_cons.2 ⟨ok35,List.forall_mem_cons.2 ⟨ok36,List.forall_mem_cons.2 ⟨ok37,List.forall_mem_cons.2 ⟨ok38,List.forall_mem_cons.2 ⟨ok39,List.forall_mem_cons.2 ⟨ok42,List.forall_mem_cons.2 ⟨ok43,List.forall_mem_cons.2 ⟨ok44,List.forall_mem_cons.2 ⟨ok45,List.forall_mem_cons.2 ⟨ok46,List.forall_mem_cons.2 ⟨ok48,List.forall_mem_cons.2 ⟨ok49,List.forall_mem_cons.2 ⟨ok50,List.forall_mem_cons.2 ⟨ok51,List.forall_mem_cons.2 ⟨ok52,List.forall_mem_cons.2 ⟨ok53,List.forall_mem_cons.2 ⟨ok54,List.forall_mem_cons.2 ⟨ok55,List.forall_mem_cons.2 ⟨ok56,List.forall_mem_cons.2 ⟨ok59,List.forall_mem_cons.2 ⟨ok62,List.forall_mem_cons.2 ⟨ok66,List.forall_mem_cons.2 ⟨ok68,List.forall_mem_cons.2 ⟨ok69,List.forall_mem_cons.2 ⟨ok70,List.forall_mem_cons.2 ⟨ok71,List.forall_mem_cons.2 ⟨ok72,List.forall_mem_cons.2 ⟨ok73,List.forall_mem_cons.2 ⟨ok74,List.forall_mem_cons.2 ⟨ok75,List.forall_mem_cons.2 ⟨ok76,List.forall_mem_cons.2 ⟨ok77,List.forall_mem_cons.2 ⟨ok78,List.forall_mem_cons.2 ⟨ok79,List.forall_mem_cons.2 ⟨ok81,List.forall_mem_cons.2 ⟨ok83,List.forall_mem_cons.2 ⟨ok84,List.forall_mem_cons.2 ⟨ok85,List.forall_mem_cons.2 ⟨ok86,List.forall_mem_cons.2 ⟨ok87,List.forall_mem_cons.2 ⟨ok89,List.forall_mem_cons.2 ⟨ok90,List.forall_mem_cons.2 ⟨ok92,List.forall_mem_cons.2 ⟨ok93,List.forall_mem_cons.2 ⟨ok94,List.forall_mem_cons.2 ⟨ok95,List.forall_mem_cons.2 ⟨ok96,List.forall_mem_cons.2 ⟨ok97,List.forall_mem_cons.2 ⟨ok98,List.forall_mem_cons.2 ⟨ok99,List.forall_mem_cons.2 ⟨ok100,List.forall_mem_cons.2 ⟨ok101,List.forall_mem_cons.2 ⟨ok102,List.forall_mem_cons.2 ⟨ok103,List.forall_mem_cons.2 ⟨ok104,List.forall_mem_cons.2 ⟨ok111,List.forall_mem_cons.2 ⟨ok112,List.forall_mem_cons.2 ⟨ok113,List.forall_mem_cons.2 ⟨ok114,List.forall_mem_cons.2 ⟨ok115,List.forall_mem_cons.2 ⟨ok116,List.forall_mem_cons.2 ⟨ok117,List.forall_mem_cons.2 ⟨ok118,List.forall_mem_cons.2 ⟨ok119,List.forall_mem_cons.2 ⟨ok120,List.forall_mem_cons.2 ⟨ok121,List.forall_mem_cons.2 ⟨ok122,List.forall_mem_cons.2 ⟨ok123,List.forall_mem_cons.2 ⟨ok124,List.forall_mem_cons.2 ⟨ok126,List.forall_mem_cons.2 ⟨ok127,List.forall_mem_cons.2 ⟨ok128,List.forall_mem_cons.2 ⟨ok129,List.forall_mem_cons.2 ⟨ok130,List.forall_mem_cons.2 ⟨ok131,List.forall_mem_cons.2 ⟨ok132,List.forall_mem_cons.2 ⟨ok133,List.forall_mem_cons.2 ⟨ok135,List.forall_mem_cons.2 ⟨ok136,List.forall_mem_cons.2 ⟨ok137,List.forall_mem_cons.2 ⟨ok138,List.forall_mem_cons.2 ⟨ok139,List.forall_mem_cons.2 ⟨ok140,List.forall_mem_cons.2 ⟨ok141,List.forall_mem_cons.2 ⟨ok142,List.forall_mem_cons.2 ⟨ok143,List.forall_mem_cons.2 ⟨ok144,List.forall_mem_cons.2 ⟨ok145,List.forall_mem_cons.2 ⟨ok146,List.forall_mem_cons.2 ⟨ok147,List.forall_mem_cons.2 ⟨ok148,List.forall_mem_cons.2 ⟨ok149,List.forall_mem_cons.2 ⟨ok150,List.forall_mem_cons.2 ⟨ok151,List.forall_mem_cons.2 ⟨ok152,List.forall_mem_cons.2 ⟨ok153,List.forall_mem_cons.2 ⟨ok154,List.forall_mem_cons.2 ⟨ok157,fun p hp=>by cases hp⟩⟩⟩⟩⟩⟩⟩⟩⟩⟩⟩⟩⟩⟩⟩⟩⟩⟩⟩⟩⟩⟩⟩⟩⟩⟩⟩⟩⟩⟩⟩⟩⟩⟩⟩⟩⟩⟩⟩⟩⟩⟩⟩⟩⟩⟩⟩⟩⟩⟩⟩⟩⟩⟩⟩⟩⟩⟩⟩⟩⟩⟩⟩⟩⟩⟩⟩⟩⟩⟩⟩⟩⟩⟩⟩⟩⟩⟩⟩⟩⟩⟩⟩⟩⟩⟩⟩⟩⟩⟩⟩⟩⟩⟩⟩⟩⟩⟩⟩⟩⟩⟩⟩⟩⟩⟩⟩⟩⟩⟩⟩⟩
theorem lookup_mem:∀ {l:List (Nat × VDef)} {f:Nat} {d:VDef},l.lookup f=some d→(f,d)∈l
 |(k,v) :: l,f,d,h=>by
  rw [List.lookup_cons] at h
  split at h
  ·rename_i e
   have e:f=k:=by simpa using e
   cases h;subst e;simp
  ·exact List.mem_cons_of_mem _ (lookup_mem h)
theorem envOk:EnvOk Tryz.prog env:=fun f d h=>by
 have:=tabOk _ (lookup_mem h)
 cases d<;>exact this
end Go.Proofs.YtioijcfcehhmdaaGreatDoor

namespace Go.Proofs.YtioijcfcehhmdaaGreatDoor.V
end Go.Proofs.YtioijcfcehhmdaaGreatDoor.V

namespace Go.Proofs.YtioijcfcehhmdaaGreatDoor
noncomputable def iter (env:Env) (f:Nat) (caps:List PV) (stop:Option Nat):Option (List (List PV)):=iterRes (den env) env f caps stop
def ystart (n:Nat) (caps:List PV) (stop:Option Nat):St:=⟨.yld :: (caps.map .pv++List.replicate (n - (caps.length+1)) .any),[],[],some stop⟩
def yfin:Ex × St→Option (List (List PV))
 |(.exit _,_)=>none
 |(.thr _ _,_)=>none
 |(_,st)=>some st.ys
section
variable {env:Env}
theorem yfin_normal (st:St):yfin (.normal,st)=some st.ys:=(rfl)
theorem yfin_ret (st:St):yfin (.ret,st)=some st.ys:=(rfl)
theorem iter_code {f:Nat} {fn:VFn} {caps:List PV} {stop:Option Nat} (h:env f=some (.code fn)) (hl:caps.length+1=fn.nargs) (hr:fn.results.isEmpty=true):iter env f caps stop=(den env fn.body (ystart fn.ntmps caps stop)).bind yfin:=by
 unfold iter iterRes
 rw [h]
 simp only [if_pos (And.intro hl hr)]
 show (den env fn.body _).bind _=_
 congr 1
 funext ⟨e,st⟩
 cases e<;>rfl
noncomputable def round1 (env:Env) (slots:List AV) (ps:List Nat) (assign body:VCode) (nb:Nat) (x:List PV) (st:St):Option (Ex × St) :=
 (setParams slots ps x).bind fun sl=>(den env assign { st with slots:=sl }).bind fun p=>match p with
  |(.normal,st)=>(den env body st).bind fun p=>match p with
   |(.normal,st)=>if nb≤st.boxes.length then some (.normal,{ st with boxes:=st.boxes.take nb }) else none
   |(.thr _ _,_)=>none
   |p=>some p
  |_=>none
theorem rounds_cons {slots:List AV} {ps:List Nat} {assign body:VCode} {nb k:Nat} {x:List PV} {xs:List (List PV)} {st:St} :
  rounds (den env) slots ps assign body nb k (x :: xs) st=(round1 env slots ps assign body nb x st).bind fun p=>match p with
   |(.normal,st)=>rounds (den env) slots ps assign body nb (k+1) xs st
   |(e,st)=>some (some (e,k+1),st):=by
 conv=>lhs;unfold rounds
 unfold round1
 show (setParams slots ps x).bind _=_
 cases setParams slots ps x with
 |none=>rfl
 |some sl =>
  simp only [Option.bind_some]
  show (den env assign _).bind _=_
  cases den env assign { st with slots:=sl } with
  |none=>rfl
  |some p =>
   obtain ⟨e,s⟩:=p
   simp only [Option.bind_some]
   cases e with
   |normal =>
    simp only
    show (den env body _).bind _=_
    cases den env body s with
    |none=>rfl
    |some p =>
     obtain ⟨e,s⟩:=p
     simp only [Option.bind_some]
     cases e with
     |normal =>
      simp only
      split<;>rfl
     |exit i=>rfl
     |ret=>rfl
     |thr t n=>rfl
   |exit i=>rfl
   |ret=>rfl
   |thr t n=>rfl
theorem rng_all {g:Opd} {ps:List Nat} {assign body:VCode} {st st1:St} {f:Nat} {caps:List PV} {xs:List (List PV)} (hg:st.pvOf g=some (.func f caps)) (hi:iter env f caps none=some xs)
  (hr:rounds (den env) (st.slots.map AV.froze) ps assign body st.boxes.length 0 xs { st with slots:=st.slots.map AV.froze }=some (none,st1)):den env (.rng g ps assign body) st=some (.normal,{ st1 with slots:=st.slots.map AV.froze }):=by
 rw [den_eq]
 show ranged (den env) env g ps assign body st=_
 unfold ranged
 rw [hg]
 unfold iter at hi
 simp only [z_bind_eq,Option.bind_some,hi,hr]
theorem rng_idx (B:Nat→List Box) {g:Opd} {ps:List Nat} {assign body:VCode} {st:St} {f:Nat} {caps:List PV} {xs:List (List PV)} (hg:st.pvOf g=some (.func f caps)) (hi:iter env f caps none=some xs) (hB:st.boxes=B 0)
  (h:∀ j x,xs[j]?=some x→∀ sl0,∃ sl1,round1 env (st.slots.map AV.froze) ps assign body st.boxes.length x ⟨sl0,B j,st.ys,st.stop⟩=some (.normal,⟨sl1,B (j+1),st.ys,st.stop⟩)) :
  den env (.rng g ps assign body) st=some (.normal,⟨st.slots.map AV.froze,B xs.length,st.ys,st.stop⟩):=by
 have key:∀ (l:List (List PV)) (j:Nat),xs.drop j=l→∀ (k:Nat) (sl0:List AV),∃ sl1,rounds (den env) (st.slots.map AV.froze) ps assign body st.boxes.length k l ⟨sl0,B j,st.ys,st.stop⟩=some (none,⟨sl1,B (j+l.length),st.ys,st.stop⟩):=by
  intro l
  induction l with
  |nil=>intro j _ k sl0;exact ⟨sl0,rfl⟩
  |cons x l ih =>
   intro j hj k sl0
   have hx:xs[j]?=some x:=by rw [← List.head?_drop,hj];rfl
   have hd:xs.drop (j+1)=l:=by rw [← List.drop_drop,hj];rfl
   obtain ⟨sl1,q⟩:=h j x hx sl0
   obtain ⟨sl2,q2⟩:=ih (j+1) hd (k+1) sl1
   refine ⟨sl2,?_⟩
   rw [rounds_cons,q]
   simp only [Option.bind_some,q2,List.length_cons]
   rw [show j+1+l.length=j+(l.length+1) by omega]
 obtain ⟨sl1,q⟩:=key xs 0 (by simp) 0 (st.slots.map AV.froze)
 rw [← hB,Nat.zero_add] at q
 have r:=rng_all hg hi q
 exact r
theorem clean_upP {keep post:List Nat} {id nb:Nat} {b:VCode} (n:Nat) (P:Nat→Prop) (S:Nat→St) (R:Nat→Option (Ex × St)) {st:St} (h:st.head keep st.boxes.length=some (S 0)) (hP:P 0) (hS:∀ i,(S i).boxes.length=nb) (hh:∀ i,(S i).head keep nb=some (S i))
  (step:∀ i rb,i<n→P i→(P (i+1)→∀ s,s.head keep nb=some (S (i+1))→tailOf env id post nb (den env rb s)=R (i+1))→tailOf env id post nb ((den env b (S i)).bind (next env rb))=R i)
  (last:∀ rb,P n→tailOf env id post nb ((den env b (S n)).bind (next env rb))=R n) :
  den env (.clean keep post (.block id (.loop keep b))) st=R 0:=by
 refine clean_rec S R (fun i=>i≤n∧P i) (fun i=>n - i) 0 h ⟨Nat.zero_le _,hP⟩ hS hh fun i rb hi ih=>?_
 by_cases hn:i=n
 ·subst hn;exact last rb hi.2
 ·exact step i rb (by omega) hi.2 fun hp s hs=>ih (i+1) (by omega) ⟨by omega,hp⟩ s hs
noncomputable def rassign (env:Env) (body:VCode) (nb:Nat):Ex × St→Option (Ex × St)
 |(.normal,st)=>(den env body st).bind fun p=>match p with
  |(.normal,st)=>if nb≤st.boxes.length then some (.normal,{ st with boxes:=st.boxes.take nb }) else none
  |(.thr _ _,_)=>none
  |p=>some p
 |_=>none
def rend (nb:Nat):Ex × St→Option (Ex × St)
 |(.normal,st)=>if nb≤st.boxes.length then some (.normal,{ st with boxes:=st.boxes.take nb }) else none
 |(.thr _ _,_)=>none
 |p=>some p
theorem round1_eq (slots:List AV) (ps:List Nat) (assign body:VCode) (nb:Nat) (x:List PV) (st:St):round1 env slots ps assign body nb x st=(setParams slots ps x).bind fun sl=>(den env assign { st with slots:=sl }).bind (rassign env body nb):=by
 unfold round1
 rfl
theorem rassign_normal (body:VCode) (nb:Nat) (st:St):rassign env body nb (.normal,st)=(den env body st).bind (rend nb):=by
 rfl
theorem rend_normal (nb:Nat) (st:St):rend nb (.normal,st)=if nb≤st.boxes.length then some (.normal,{ st with boxes:=st.boxes.take nb }) else none:=(rfl)
theorem rend_exit (nb i:Nat) (st:St):rend nb (.exit i,st)=some (.exit i,st):=(rfl)
theorem rend_ret (nb:Nat) (st:St):rend nb (.ret,st)=some (.ret,st):=(rfl)
theorem setP_nil (slots:List AV):setParams slots [] []=some slots:=(rfl)
theorem setP_cons (slots:List AV) (p:Nat) (ps:List Nat) (v:PV) (vs:List PV):setParams slots (p :: ps) (v :: vs)=setParams (slots.set p (.pv v)) ps vs:=(rfl)
theorem froze_pv (v:PV):AV.froze (.pv v)=.pv v:=(rfl)
theorem froze_row (sz:Nat) (es:List PV):AV.froze (.row sz es)=.pv (.list sz es):=(rfl)
theorem froze_any:AV.froze .any=.any:=(rfl)
theorem froze_tup (k:Bool) (l:List AV):AV.froze (.tup k l)=.any:=(rfl)
theorem froze_ref (r:Root) (i j:Nat):AV.froze (.ref r i j)=.any:=(rfl)
theorem froze_pel (r:Root) (i j:Nat):AV.froze (.pel r i j)=.any:=(rfl)
theorem froze_pbox (i j:Nat):AV.froze (.pbox i j)=.pbox i j:=(rfl)
theorem froze_fn (f:Nat) (l:List AV):AV.froze (.fn f l)=.fn f l:=(rfl)
theorem froze_yld:AV.froze .yld=.yld:=(rfl)
end
def vRng:=And.intro @round1_eq (And.intro @rassign_normal (And.intro @rend_normal (And.intro @rend_exit (And.intro @rend_ret (And.intro @setP_nil (And.intro @setP_cons (And.intro @froze_pv (And.intro @froze_row (And.intro @froze_any (And.intro @froze_tup (And.intro @froze_ref (And.intro @froze_pel (And.intro @froze_pbox (And.intro @froze_fn (And.intro @froze_yld (And.intro @yfin_normal @yfin_ret))))))))))))))))
end Go.Proofs.YtioijcfcehhmdaaGreatDoor

namespace Go.Proofs.YtioijcfcehhmdaaGreatDoor.V
structure Spn where
 epoch:Int
 fr:Int
 to:Int
 deriving DecidableEq
def eSpn (x:Spn):PV:=.agg [.int .i64 x.epoch,.int .i64 x.fr,.int .i64 x.to]
def bSpn (x:Spn):List BV:=[.pv (.int .i64 x.epoch),.pv (.int .i64 x.fr),.pv (.int .i64 x.to)]
def okNext (p x:Spn):Bool:=decide (x.fr=p.to+1)&&(decide (x.fr≤x.to)&&(decide (x.to≤1073741824)&&(decide (x.epoch≤1073741824)&&decide (p.epoch<x.epoch))))
def z0:Spn:=⟨0,0,0⟩
def linGo:Spn→List Spn→Bool
 |_,[]=>true
 |p,x :: l=>okNext p x&&linGo x l
def linOk (l:List Spn):Bool:=linGo z0 l
def lastOf (l:List Spn) (j:Nat):Spn:=if j=0 then z0 else l.getD (j - 1) z0
def fineS (p:Spn):Prop:=0≤p.epoch∧p.epoch≤1073741824∧0≤p.to∧p.to≤1073741824
theorem lastOf_succ {l:List Spn} {i:Nat} (h:i<l.length):lastOf l (i+1)=l[i]:=by
 simp [lastOf,List.getD_eq_getElem?_getD,List.getElem?_eq_getElem h]
theorem okNext_fine {p x:Spn} (h:okNext p x=true) (hp:fineS p):fineS x∧x.fr=p.to+1∧x.fr≤x.to∧p.epoch<x.epoch:=by
 simp only [okNext,Bool.and_eq_true,decide_eq_true_eq] at h
 unfold fineS at *
 omega
def linRes (p:Spn):List Spn→Bool × Spn
 |[]=>(true,p)
 |x :: r=>if okNext p x=true then linRes x r else (false,p)
theorem linRes_go:∀ (l:List Spn) (p:Spn),(linRes p l).1=linGo p l
 |[],_=>rfl
 |x :: l,p=>by
  unfold linRes linGo
  by_cases h:okNext p x=true
  ·simp only [h,if_true,Bool.true_and];exact linRes_go l x
  ·simp only [h,if_false,Bool.not_eq_true] at *;simp [h]
theorem cal92 {n low:Int}:cal env 92 [.int .i64 n,.int .i64 low]=some [(.bool (decide (n ≥ low)&&decide (n≤1073741824)),false)]:=by
 rw [cal_code env92 rfl];simp only [fn92];simp only [start,z_map_cons,z_map_nil,z_len_cons,z_len_nil,z_repl_zero,z_repl_succ,z_cons_app,z_nil_app,Nat.reduceAdd,Nat.reduceSub]
 by_cases h:n ≥ low
 ·have G:(n ≥ low)=True:=eq_true h
  simp only [G,memAll,vAll,reduceCtorEq,Nat.reduceEqDiff,Nat.reduceAdd,Nat.reduceLT,Nat.reduceLeDiff,Nat.beq]
 ·have G:(n ≥ low)=False:=eq_false h
  simp only [G,memAll,vAll,reduceCtorEq,Nat.reduceEqDiff,Nat.reduceAdd,Nat.reduceLT,Nat.reduceLeDiff,Nat.beq]
theorem loop93 {l:List Spn} (hl:l.length≤lim)
  {st:St} (h:st.head [0,3,7,8,9] st.boxes.length=some ⟨[.pv (.list 3 (l.map eSpn)),.any,.any,.pbox 0 0,.any,.any,.any,.pv (.list 3 (l.map eSpn)),.pv (.int .i64 l.length),.pv (.int .i64 (0:Nat)),.any,.any,.any,.any,.any,.any,.any,.any,.any,.any,.any,.any,.any,.any,.any,.any,.any,.any,.any,.any,.any,.any,.any,.any,.any,.any,.any,.any,.any,.any,.any,.any,.any,.any,.any,.any],[⟨false,bSpn z0⟩],[],none⟩) :
  den env fn93_l1 st=match linRes z0 l with
   |(true,p)=>some (.normal,⟨[.any,.any,.any,.any,.any,.any,.any,.any,.any,.any,.any,.any,.any,.any,.any,.any,.any,.any,.any,.any,.any,.any,.any,.any,.any,.any,.any,.any,.any,.any,.any,.any,.any,.any,.any,.any,.any,.any,.any,.any,.any,.any,.any,.any,.any,.any],[⟨false,bSpn p⟩],[],none⟩)
   |(false,p)=>some (.ret,⟨[.any,.any,.pv (.bool false),.any,.any,.any,.any,.any,.any,.any,.any,.any,.any,.any,.any,.any,.any,.any,.any,.any,.any,.any,.any,.any,.any,.any,.any,.any,.any,.any,.any,.any,.any,.any,.any,.any,.any,.any,.any,.any,.any,.any,.any,.any,.any,.any],[⟨false,bSpn p⟩],[],none⟩):=by
 unfold fn93_l1
 refine clean_upP (env:=env) l.length (fun i=>fineS (lastOf l i)) (fun i=>⟨[.pv (.list 3 (l.map eSpn)),.any,.any,.pbox 0 0,.any,.any,.any,.pv (.list 3 (l.map eSpn)),.pv (.int .i64 l.length),.pv (.int .i64 i),.any,.any,.any,.any,.any,.any,.any,.any,.any,.any,.any,.any,.any,.any,.any,.any,.any,.any,.any,.any,.any,.any,.any,.any,.any,.any,.any,.any,.any,.any,.any,.any,.any,.any,.any,.any],[⟨false,bSpn (lastOf l i)⟩],[],none⟩)
  (fun i=>match linRes (lastOf l i) (l.drop i) with
   |(true,p)=>some (.normal,⟨[.any,.any,.any,.any,.any,.any,.any,.any,.any,.any,.any,.any,.any,.any,.any,.any,.any,.any,.any,.any,.any,.any,.any,.any,.any,.any,.any,.any,.any,.any,.any,.any,.any,.any,.any,.any,.any,.any,.any,.any,.any,.any,.any,.any,.any,.any],[⟨false,bSpn p⟩],[],none⟩)
   |(false,p)=>some (.ret,⟨[.any,.any,.pv (.bool false),.any,.any,.any,.any,.any,.any,.any,.any,.any,.any,.any,.any,.any,.any,.any,.any,.any,.any,.any,.any,.any,.any,.any,.any,.any,.any,.any,.any,.any,.any,.any,.any,.any,.any,.any,.any,.any,.any,.any,.any,.any,.any,.any],[⟨false,bSpn p⟩],[],none⟩)) h (by simp [lastOf,fineS,z0]) (fun _=>rfl) (fun _=>rfl) ?_ ?_
 ·intro i rb hi hf ih
  have hi1:=i64_next hi hl
  have F1:((i:Int)<(l.length:Int))=True:=eq_true (by omega)
  have hk:l[i]?=some l[i]:=List.getElem?_eq_getElem hi
  rw [lastOf_succ hi] at ih
  rw [List.drop_eq_getElem_cons hi]
  unfold linRes
  generalize lastOf l i=p at *
  generalize l[i]=x at *
  obtain ⟨pe,pf,pt⟩:=p
  obtain ⟨xe,xf,xt⟩:=x
  have hf':=hf
  simp only [fineS] at hf
  have F2:IntKind.i64.wrap (pt+1)=pt+1:=i64_fits (by omega)
  by_cases c1:xf=pt+1
  rotate_left
  ·have G1:(xf != pt+1)=true:=by simpa using c1
   have hn:okNext ⟨pe,pf,pt⟩ ⟨xe,xf,xt⟩=false:=by simp [okNext,c1]
   simp only [G1,fn93_b0,F1,F2,hk,bSpn,eSpn,index_nat hi,List.getElem?_map,Option.map_some,memAll,vAll,reduceCtorEq,Nat.reduceEqDiff,Nat.reduceAdd,Nat.reduceLT,Nat.reduceLeDiff,Nat.beq]
   simp only [hn]
   rfl
  have G1:(xf != pt+1)=false:=by simpa using c1
  by_cases c2:xt<xf
  ·have G2:(xt<xf)=True:=eq_true c2
   have hn:okNext ⟨pe,pf,pt⟩ ⟨xe,xf,xt⟩=false:=by simp [okNext];omega
   simp only [G1,G2,fn93_b0,F1,F2,hk,bSpn,eSpn,index_nat hi,List.getElem?_map,Option.map_some,memAll,vAll,reduceCtorEq,Nat.reduceEqDiff,Nat.reduceAdd,Nat.reduceLT,Nat.reduceLeDiff,Nat.beq]
   simp only [hn]
   rfl
  have G2:(xt<xf)=False:=eq_false c2
  by_cases c3:xt > 1073741824
  ·have G3:(xt > 1073741824)=True:=eq_true c3
   have hn:okNext ⟨pe,pf,pt⟩ ⟨xe,xf,xt⟩=false:=by simp [okNext];omega
   simp only [G1,G2,G3,fn93_b0,F1,F2,hk,bSpn,eSpn,index_nat hi,List.getElem?_map,Option.map_some,memAll,vAll,reduceCtorEq,Nat.reduceEqDiff,Nat.reduceAdd,Nat.reduceLT,Nat.reduceLeDiff,Nat.beq]
   simp only [hn]
   rfl
  have G3:(xt > 1073741824)=False:=eq_false c3
  have e1:=cal92 (n:=xe) (low:=1)
  by_cases c4:1≤xe∧xe≤1073741824
  rotate_left
  ·have G4:(decide (xe ≥ 1)&&decide (xe≤1073741824))=false:=by
    rw [← Bool.not_eq_true];simp;omega
   rw [G4] at e1
   have hn:okNext ⟨pe,pf,pt⟩ ⟨xe,xf,xt⟩=false:=by simp [okNext];omega
   simp only [G1,G2,G3,e1,fn93_b0,F1,F2,hk,bSpn,eSpn,index_nat hi,List.getElem?_map,Option.map_some,memAll,vAll,reduceCtorEq,Nat.reduceEqDiff,Nat.reduceAdd,Nat.reduceLT,Nat.reduceLeDiff,Nat.beq]
   simp only [hn]
   rfl
  have G4:(decide (xe ≥ 1)&&decide (xe≤1073741824))=true:=by simp;omega
  rw [G4] at e1
  by_cases c5:xe≤pe
  ·have G5:(xe≤pe)=True:=eq_true c5
   have hn:okNext ⟨pe,pf,pt⟩ ⟨xe,xf,xt⟩=false:=by simp [okNext];omega
   simp only [G1,G2,G3,e1,G5,fn93_b0,F1,F2,hk,bSpn,eSpn,index_nat hi,List.getElem?_map,Option.map_some,memAll,vAll,reduceCtorEq,Nat.reduceEqDiff,Nat.reduceAdd,Nat.reduceLT,Nat.reduceLeDiff,Nat.beq]
   simp only [hn]
   rfl
  have G5:(xe≤pe)=False:=eq_false c5
  have hn:okNext ⟨pe,pf,pt⟩ ⟨xe,xf,xt⟩=true:=by simp [okNext];omega
  have hfx:=(okNext_fine hn hf').1
  simp only [G1,G2,G3,e1,G5,fn93_b0,F1,F2,hk,bSpn,eSpn,index_nat hi,List.getElem?_map,Option.map_some,memAll,vAll,reduceCtorEq,Nat.reduceEqDiff,Nat.reduceAdd,Nat.reduceLT,Nat.reduceLeDiff,Nat.beq]
  rw [ih hfx _ (by simp only [hi1];rfl)]
  simp only [hn,if_true]
  rfl
 ·intro rb hf
  simp only [fn93_b0,Int.lt_irrefl,memAll,vAll,reduceCtorEq,Nat.reduceEqDiff,Nat.reduceAdd,Nat.reduceLT,Nat.reduceLeDiff,Nat.beq]
  rw [List.drop_length]
  rfl
theorem cal93 {l:List Spn} (hl:l.length≤lim):cal env 93 [.list 3 (l.map eSpn)]=some [(.bool (linOk l),false)]:=by
 rw [cal_code env93 rfl];simp only [fn93];simp only [start,z_map_cons,z_map_nil,z_len_cons,z_len_nil,z_repl_zero,z_repl_succ,z_cons_app,z_nil_app,Nat.reduceAdd,Nat.reduceSub]
 simp only [ memAll,vAll,reduceCtorEq,Nat.reduceEqDiff,Nat.reduceAdd,Nat.reduceLT,Nat.reduceLeDiff,Nat.beq]
 rw [loop93 hl]
 rotate_left
 ·rfl
 ·have:=linRes_go l z0
  cases h:linRes z0 l with
  |mk t p =>
   rw [h] at this
   cases t with
   |true=>simp only [linOk,← this,memAll,vAll,reduceCtorEq,Nat.reduceEqDiff,Nat.reduceAdd,Nat.reduceLT,Nat.reduceLeDiff,Nat.beq]
   |false=>simp only [linOk,← this,memAll,vAll,reduceCtorEq,Nat.reduceEqDiff,Nat.reduceAdd,Nat.reduceLT,Nat.reduceLeDiff,Nat.beq]
end Go.Proofs.YtioijcfcehhmdaaGreatDoor.V

namespace Go.Proofs.YtioijcfcehhmdaaGreatDoor.V
set_option maxHeartbeats 2000000 in
theorem loop100 {l:List Spn} (hl:l.length≤lim)
  {st:St} (h:st.head [0,3] st.boxes.length=some ⟨[.pv (.list 3 (l.map eSpn)),.any,.any,.pv (.int .i64 (0:Nat)),.any,.any,.any,.any,.any,.any,.any,.any,.any,.any,.any,.any,.any,.any,.any,.any,.any,.any,.any,.any,.any,.any,.any,.any,.any,.any,.any,.any,.any,.any,.any,.any,.any,.any,.any,.any,.any,.any,.any,.any,.any,.any,.any,.any,.any,.any,.any,.any,.any,.any,.any,.any,.any,.any,.any,.any,.any,.any,.any,.any,.any,.any,.any,.any,.any,.any,.any,.any,.any],[],[],none⟩) :
  den env fn100_l1 st=match linRes z0 l with
   |(true,_)=>some (.normal,⟨[.any,.any,.any,.any,.any,.any,.any,.any,.any,.any,.any,.any,.any,.any,.any,.any,.any,.any,.any,.any,.any,.any,.any,.any,.any,.any,.any,.any,.any,.any,.any,.any,.any,.any,.any,.any,.any,.any,.any,.any,.any,.any,.any,.any,.any,.any,.any,.any,.any,.any,.any,.any,.any,.any,.any,.any,.any,.any,.any,.any,.any,.any,.any,.any,.any,.any,.any,.any,.any,.any,.any,.any,.any],[],[],none⟩)
   |(false,_)=>some (.ret,⟨[.any,.any,.pv (.bool false),.any,.any,.any,.any,.any,.any,.any,.any,.any,.any,.any,.any,.any,.any,.any,.any,.any,.any,.any,.any,.any,.any,.any,.any,.any,.any,.any,.any,.any,.any,.any,.any,.any,.any,.any,.any,.any,.any,.any,.any,.any,.any,.any,.any,.any,.any,.any,.any,.any,.any,.any,.any,.any,.any,.any,.any,.any,.any,.any,.any,.any,.any,.any,.any,.any,.any,.any,.any,.any,.any],[],[],none⟩):=by
 unfold fn100_l1
 refine clean_upP (env:=env) l.length (fun i=>fineS (lastOf l i)) (fun i=>⟨[.pv (.list 3 (l.map eSpn)),.any,.any,.pv (.int .i64 i),.any,.any,.any,.any,.any,.any,.any,.any,.any,.any,.any,.any,.any,.any,.any,.any,.any,.any,.any,.any,.any,.any,.any,.any,.any,.any,.any,.any,.any,.any,.any,.any,.any,.any,.any,.any,.any,.any,.any,.any,.any,.any,.any,.any,.any,.any,.any,.any,.any,.any,.any,.any,.any,.any,.any,.any,.any,.any,.any,.any,.any,.any,.any,.any,.any,.any,.any,.any,.any],[],[],none⟩)
  (fun i=>match linRes (lastOf l i) (l.drop i) with
   |(true,_)=>some (.normal,⟨[.any,.any,.any,.any,.any,.any,.any,.any,.any,.any,.any,.any,.any,.any,.any,.any,.any,.any,.any,.any,.any,.any,.any,.any,.any,.any,.any,.any,.any,.any,.any,.any,.any,.any,.any,.any,.any,.any,.any,.any,.any,.any,.any,.any,.any,.any,.any,.any,.any,.any,.any,.any,.any,.any,.any,.any,.any,.any,.any,.any,.any,.any,.any,.any,.any,.any,.any,.any,.any,.any,.any,.any,.any],[],[],none⟩)
   |(false,_)=>some (.ret,⟨[.any,.any,.pv (.bool false),.any,.any,.any,.any,.any,.any,.any,.any,.any,.any,.any,.any,.any,.any,.any,.any,.any,.any,.any,.any,.any,.any,.any,.any,.any,.any,.any,.any,.any,.any,.any,.any,.any,.any,.any,.any,.any,.any,.any,.any,.any,.any,.any,.any,.any,.any,.any,.any,.any,.any,.any,.any,.any,.any,.any,.any,.any,.any,.any,.any,.any,.any,.any,.any,.any,.any,.any,.any,.any,.any],[],[],none⟩)) h (by simp [lastOf,fineS,z0]) (fun _=>rfl) (fun _=>rfl) ?_ ?_
 ·intro i rb hi hf ih
  have hi1:=i64_next hi hl
  have F1:((i:Int)<(l.length:Int))=True:=eq_true (by omega)
  have hk:l[i]?=some l[i]:=List.getElem?_eq_getElem hi
  rw [lastOf_succ hi] at ih
  rw [List.drop_eq_getElem_cons hi]
  unfold linRes
  have hprev:(i=0∧lastOf l i=z0)∨(∃ k,i=k+1∧l[k]?=some (lastOf l i)):=by
   cases i with
   |zero=>exact .inl ⟨rfl,rfl⟩
   |succ k=>exact .inr ⟨k,rfl,by rw [lastOf_succ (by omega)];exact List.getElem?_eq_getElem (by omega)⟩
  generalize lastOf l i=p at *
  generalize l[i]=x at *
  obtain ⟨pe,pf,pt⟩:=p
  obtain ⟨xe,xf,xt⟩:=x
  have hf':=hf
  simp only [fineS] at hf
  have F2:IntKind.i64.wrap (pt+1)=pt+1:=i64_fits (by omega)
  have F3:IntKind.i64.wrap (pe+1)=pe+1:=i64_fits (by omega)
  rcases hprev with ⟨rfl,hz⟩|⟨k,rfl,hkp⟩
  ·cases hz
   have F4:((((0:Nat):Int)) > 0)=False:=eq_false (by omega)
   by_cases c1:xf=1
   rotate_left
   ·have G1:(xf != 1)=true:=by simpa using c1
    have hn:okNext ⟨0,0,0⟩ ⟨xe,xf,xt⟩=false:=by simp [okNext,c1]
    simp only [G1,fn100_b0,F1,F4,hk,eSpn,index_nat hi,List.getElem?_map,Option.map_some,memAll,vAll,reduceCtorEq,Nat.reduceEqDiff,Nat.reduceAdd,Nat.reduceLT,Nat.reduceLeDiff,Nat.beq]
    simp only [hn]
    rfl
   have G1:(xf != 1)=false:=by simpa using c1
   by_cases c2:xt<xf
   ·have G2:(xt<xf)=True:=eq_true c2
    have hn:okNext ⟨0,0,0⟩ ⟨xe,xf,xt⟩=false:=by simp [okNext];omega
    simp only [G1,G2,fn100_b0,F1,F4,hk,eSpn,index_nat hi,List.getElem?_map,Option.map_some,memAll,vAll,reduceCtorEq,Nat.reduceEqDiff,Nat.reduceAdd,Nat.reduceLT,Nat.reduceLeDiff,Nat.beq]
    simp only [hn]
    rfl
   have G2:(xt<xf)=False:=eq_false c2
   by_cases c3:xt > 1073741824
   ·have G3:(xt > 1073741824)=True:=eq_true c3
    have hn:okNext ⟨0,0,0⟩ ⟨xe,xf,xt⟩=false:=by simp [okNext];omega
    simp only [G1,G2,G3,fn100_b0,F1,F4,hk,eSpn,index_nat hi,List.getElem?_map,Option.map_some,memAll,vAll,reduceCtorEq,Nat.reduceEqDiff,Nat.reduceAdd,Nat.reduceLT,Nat.reduceLeDiff,Nat.beq]
    simp only [hn]
    rfl
   have G3:(xt > 1073741824)=False:=eq_false c3
   by_cases c4:xe<1
   ·have G4:(xe<1)=True:=eq_true c4
    have hn:okNext ⟨0,0,0⟩ ⟨xe,xf,xt⟩=false:=by simp [okNext];omega
    simp only [G1,G2,G3,G4,fn100_b0,F1,F4,hk,eSpn,index_nat hi,List.getElem?_map,Option.map_some,memAll,vAll,reduceCtorEq,Nat.reduceEqDiff,Nat.reduceAdd,Nat.reduceLT,Nat.reduceLeDiff,Nat.beq]
    simp only [hn]
    rfl
   have G4:(xe<1)=False:=eq_false c4
   by_cases c5:xe > 1073741824
   ·have G5:(xe > 1073741824)=True:=eq_true c5
    have hn:okNext ⟨0,0,0⟩ ⟨xe,xf,xt⟩=false:=by simp [okNext];omega
    simp only [G1,G2,G3,G4,G5,fn100_b0,F1,F4,hk,eSpn,index_nat hi,List.getElem?_map,Option.map_some,memAll,vAll,reduceCtorEq,Nat.reduceEqDiff,Nat.reduceAdd,Nat.reduceLT,Nat.reduceLeDiff,Nat.beq]
    simp only [hn]
    rfl
   have G5:(xe > 1073741824)=False:=eq_false c5
   have hn:okNext ⟨0,0,0⟩ ⟨xe,xf,xt⟩=true:=by simp [okNext];omega
   have hfx:=(okNext_fine hn hf').1
   simp only [G1,G2,G3,G4,G5,fn100_b0,F1,F4,hk,eSpn,index_nat hi,List.getElem?_map,Option.map_some,memAll,vAll,reduceCtorEq,Nat.reduceEqDiff,Nat.reduceAdd,Nat.reduceLT,Nat.reduceLeDiff,Nat.beq]
   rw [ih hfx _ (by simp only [hi1];rfl)]
   simp only [hn,if_true]<;>rfl
  ·have hkl:k<l.length:=by omega
   have F4:((((k+1:Nat):Int)) > 0)=True:=eq_true (by omega)
   have F5:IntKind.i64.wrap (((k+1:Nat):Int) - 1)=(k:Int):=by
    have hl':=hl
    unfold lim at hl'
    rw [i64_fits (by omega)];omega
   by_cases c1:xf=pt+1
   rotate_left
   ·have G1:(xf != pt+1)=true:=by simpa using c1
    have hn:okNext ⟨pe,pf,pt⟩ ⟨xe,xf,xt⟩=false:=by simp [okNext,c1]
    simp only [G1,fn100_b0,F1,F2,F3,F4,F5,hk,hkp,eSpn,index_nat hi,index_nat hkl,List.getElem?_map,Option.map_some,memAll,vAll,reduceCtorEq,Nat.reduceEqDiff,Nat.reduceAdd,Nat.reduceLT,Nat.reduceLeDiff,Nat.beq]
    simp only [hn]
    rfl
   have G1:(xf != pt+1)=false:=by simpa using c1
   by_cases c2:xt<xf
   ·have G2:(xt<xf)=True:=eq_true c2
    have hn:okNext ⟨pe,pf,pt⟩ ⟨xe,xf,xt⟩=false:=by simp [okNext];omega
    simp only [G1,G2,fn100_b0,F1,F2,F3,F4,F5,hk,hkp,eSpn,index_nat hi,index_nat hkl,List.getElem?_map,Option.map_some,memAll,vAll,reduceCtorEq,Nat.reduceEqDiff,Nat.reduceAdd,Nat.reduceLT,Nat.reduceLeDiff,Nat.beq]
    simp only [hn]
    rfl
   have G2:(xt<xf)=False:=eq_false c2
   by_cases c3:xt > 1073741824
   ·have G3:(xt > 1073741824)=True:=eq_true c3
    have hn:okNext ⟨pe,pf,pt⟩ ⟨xe,xf,xt⟩=false:=by simp [okNext];omega
    simp only [G1,G2,G3,fn100_b0,F1,F2,F3,F4,F5,hk,hkp,eSpn,index_nat hi,index_nat hkl,List.getElem?_map,Option.map_some,memAll,vAll,reduceCtorEq,Nat.reduceEqDiff,Nat.reduceAdd,Nat.reduceLT,Nat.reduceLeDiff,Nat.beq]
    simp only [hn]
    rfl
   have G3:(xt > 1073741824)=False:=eq_false c3
   by_cases c4:xe<pe+1
   ·have G4:(xe<pe+1)=True:=eq_true c4
    have hn:okNext ⟨pe,pf,pt⟩ ⟨xe,xf,xt⟩=false:=by simp [okNext];omega
    simp only [G1,G2,G3,G4,fn100_b0,F1,F2,F3,F4,F5,hk,hkp,eSpn,index_nat hi,index_nat hkl,List.getElem?_map,Option.map_some,memAll,vAll,reduceCtorEq,Nat.reduceEqDiff,Nat.reduceAdd,Nat.reduceLT,Nat.reduceLeDiff,Nat.beq]
    simp only [hn]
    rfl
   have G4:(xe<pe+1)=False:=eq_false c4
   by_cases c5:xe > 1073741824
   ·have G5:(xe > 1073741824)=True:=eq_true c5
    have hn:okNext ⟨pe,pf,pt⟩ ⟨xe,xf,xt⟩=false:=by simp [okNext];omega
    simp only [G1,G2,G3,G4,G5,fn100_b0,F1,F2,F3,F4,F5,hk,hkp,eSpn,index_nat hi,index_nat hkl,List.getElem?_map,Option.map_some,memAll,vAll,reduceCtorEq,Nat.reduceEqDiff,Nat.reduceAdd,Nat.reduceLT,Nat.reduceLeDiff,Nat.beq]
    simp only [hn]
    rfl
   have G5:(xe > 1073741824)=False:=eq_false c5
   have hn:okNext ⟨pe,pf,pt⟩ ⟨xe,xf,xt⟩=true:=by simp [okNext];omega
   have hfx:=(okNext_fine hn hf').1
   simp only [G1,G2,G3,G4,G5,fn100_b0,F1,F2,F3,F4,F5,hk,hkp,eSpn,index_nat hi,index_nat hkl,List.getElem?_map,Option.map_some,memAll,vAll,reduceCtorEq,Nat.reduceEqDiff,Nat.reduceAdd,Nat.reduceLT,Nat.reduceLeDiff,Nat.beq]
   rw [ih hfx _ (by simp only [hi1];rfl)]
   simp only [hn,if_true]<;>rfl
 ·intro rb hf
  simp only [fn100_b0,Int.lt_irrefl,memAll,vAll,reduceCtorEq,Nat.reduceEqDiff,Nat.reduceAdd,Nat.reduceLT,Nat.reduceLeDiff,Nat.beq]
  rw [List.drop_length]
  rfl
end Go.Proofs.YtioijcfcehhmdaaGreatDoor.V

namespace Go.Proofs.YtioijcfcehhmdaaGreatDoor.V
def headOf (l:List Spn):Spn:=lastOf l l.length
end Go.Proofs.YtioijcfcehhmdaaGreatDoor.V

namespace Go.Proofs.YtioijcfcehhmdaaGreatDoor.V
def idxI {α:Type} (p:α→Bool) (l:List α):Int:=if l.any p then (l.findIdx p:Int) else -1
theorem idxI_nonneg {α:Type} (p:α→Bool) (l:List α):decide (idxI p l ≥ 0)=l.any p:=by
 unfold idxI
 cases l.any p
 ·rfl
 ·simp only [if_true];exact decide_eq_true (by omega)
def eqF {α β:Type} (eq:α→β→Bool) (l:List α) (m:List β):Bool:=decide (l.length=m.length)&&(l.zip m).all fun q=>eq q.1 q.2
--+
theorem loop151 {α:Type} {enc:α→PV} {l:List α} {p:α→Bool} {gf:Nat} {caps:List PV} (hp:∀ x∈l,cal env gf (enc x :: caps)=some [(.bool (p x),false)]) (hs:∀ x,part (enc x).cells 0 none=some (enc x)) (hl:l.length≤lim)
  {st:St} (h:st.head [0,1,7,8] st.boxes.length=some ⟨[.pv (.list 1 (l.map enc)),.pv (.func gf caps),.any,.any,.any,.any,.any,.pv (.int .i64 l.length),.pv (.int .i64 (0:Nat)),.any,.any,.any,.any,.any,.any,.any,.any,.any,.any],[],[],none⟩) :
  den env fn151_l1 st=if l.any p then some (.ret,⟨[.any,.any,.any,.any,.pv (.int .i64 (l.findIdx p)),.any,.any,.any,.any,.any,.any,.any,.any,.any,.any,.any,.any,.any,.any],[],[],none⟩) else some (.normal,⟨[.any,.any,.any,.any,.any,.any,.any,.any,.any,.any,.any,.any,.any,.any,.any,.any,.any,.any,.any],[],[],none⟩):=by
 unfold fn151_l1
 rw [clean_up l.length (fun i=>⟨[.pv (.list 1 (l.map enc)),.pv (.func gf caps),.any,.any,.any,.any,.any,.pv (.int .i64 l.length),.pv (.int .i64 i),.any,.any,.any,.any,.any,.any,.any,.any,.any,.any],[],[],none⟩)
  (fun i=>if (l.drop i).any p then some (.ret,⟨[.any,.any,.any,.any,.pv (.int .i64 ((i+(l.drop i).findIdx p:Nat):Int)),.any,.any,.any,.any,.any,.any,.any,.any,.any,.any,.any,.any,.any,.any],[],[],none⟩) else some (.normal,⟨[.any,.any,.any,.any,.any,.any,.any,.any,.any,.any,.any,.any,.any,.any,.any,.any,.any,.any,.any],[],[],none⟩)) h (fun _=>rfl) (fun _=>rfl) ?_ ?_]
 ·simp only [List.drop_zero,Nat.zero_add]
 ·intro i rb hi ih
  have hi1:=i64_next hi hl
  have F1:((i:Int)<(l.length:Int))=True:=eq_true (by omega)
  simp only [fn151_b0,F1,List.length_map,index_nat hi,List.getElem?_map,List.getElem?_eq_getElem hi,hp _ (List.getElem_mem hi),hs,vAll,reduceCtorEq,Nat.reduceEqDiff,Nat.reduceAdd,Nat.reduceLT,Nat.reduceLeDiff,Nat.beq]
  (try simp only [bcase_bind,bcase_map,tail_bcase]);refine bcase_split (fun hb=>?_) (fun hb=>?_)<;>try simp only [hb, memAll,vAll,reduceCtorEq,Nat.reduceEqDiff,Nat.reduceAdd,Nat.reduceLT,Nat.reduceLeDiff,Nat.beq]
  ·rw [List.drop_eq_getElem_cons hi]
   simp only [List.any_cons,hb,Bool.true_or,if_true,List.findIdx_cons,cond_true,Nat.add_zero]
   rfl
  ·rw [ih _ (by simp only [hi1];rfl),List.drop_eq_getElem_cons hi]
   simp only [List.any_cons,hb,Bool.false_or,List.findIdx_cons,cond_false,Nat.add_assoc,Nat.add_comm 1]
 ·intro rb
  simp only [fn151_b0,Int.lt_irrefl,vAll,reduceCtorEq,Nat.reduceEqDiff,Nat.reduceAdd,Nat.reduceLT,Nat.reduceLeDiff,Nat.beq]
  simp only [List.drop_length,List.any_nil,Bool.false_eq_true,if_false]
  rfl
theorem cal151 {α:Type} {enc:α→PV} {l:List α} {p:α→Bool} {gf:Nat} {caps:List PV} (hp:∀ x∈l,cal env gf (enc x :: caps)=some [(.bool (p x),false)]) (hs:∀ x,part (enc x).cells 0 none=some (enc x)) (hl:l.length≤lim) :
  cal env 151 [.list 1 (l.map enc),.func gf caps]=some [(.int .i64 (idxI p l),false)]:=by
 rw [cal_code env151 rfl];simp only [fn151];simp only [start,z_map_cons,z_map_nil,z_len_cons,z_len_nil,z_repl_zero,z_repl_succ,z_cons_app,z_nil_app,Nat.reduceAdd,Nat.reduceSub]
 simp only [List.length_map,vAll,reduceCtorEq,Nat.reduceEqDiff,Nat.reduceAdd,Nat.reduceLT,Nat.reduceLeDiff,Nat.beq]
 rw [loop151 hp hs hl]
 rotate_left
 ·rfl
 ·simp only [idxI]
  split<;>simp only [vAll,reduceCtorEq,Nat.reduceEqDiff,Nat.reduceAdd,Nat.reduceLT,Nat.reduceLeDiff,Nat.beq]
--+
theorem cal129 {α:Type} {enc:α→PV} {l:List α} {p:α→Bool} {gf:Nat} {caps:List PV} (hp:∀ x∈l,cal env gf (enc x :: caps)=some [(.bool (p x),false)]) (hs:∀ x,part (enc x).cells 0 none=some (enc x)) (hl:l.length≤lim) :
  cal env 129 [.list 1 (l.map enc),.func gf caps]=some [(.bool (l.any p),false)]:=by
 rw [cal_code env129 rfl];simp only [fn129];simp only [start,z_map_cons,z_map_nil,z_len_cons,z_len_nil,z_repl_zero,z_repl_succ,z_cons_app,z_nil_app,Nat.reduceAdd,Nat.reduceSub]
 simp only [cal151 hp hs hl,idxI_nonneg,vAll,reduceCtorEq,Nat.reduceEqDiff,Nat.reduceAdd,Nat.reduceLT,Nat.reduceLeDiff,Nat.beq]
--+
theorem loop86 {α β:Type} {enc:α→PV} {enc2:β→PV} {eq:α→β→Bool} {l:List α} {m:List β} {gf:Nat} {caps:List PV} (hp:∀ x∈l,∀ y∈m,cal env gf (enc x :: enc2 y :: caps)=some [(.bool (eq x y),false)]) (hs:∀ x,part (enc x).cells 0 none=some (enc x)) (hs2:∀ x,part (enc2 x).cells 0 none=some (enc2 x)) (hlm:l.length=m.length) (hl:l.length≤lim)
  {st:St} (h:st.head [0,1,2,15,16,17] st.boxes.length=some ⟨[.pv (.list 1 (l.map enc)),.pv (.list 1 (m.map enc2)),.pv (.func gf caps),.any,.any,.any,.any,.any,.any,.any,.any,.any,.any,.any,.any,.pv (.list 1 (l.map enc)),.pv (.int .i64 l.length),.pv (.int .i64 (0:Nat)),.any,.any,.any,.any,.any,.any,.any,.any,.any,.any,.any,.any,.any,.any],[],[],none⟩) :
  den env fn86_l1 st=if (l.zip m).all (fun q=>eq q.1 q.2) then some (.normal,⟨[.any,.any,.any,.any,.any,.any,.any,.any,.any,.any,.any,.any,.any,.any,.any,.any,.any,.any,.any,.any,.any,.any,.any,.any,.any,.any,.any,.any,.any,.any,.any,.any],[],[],none⟩) else some (.ret,⟨[.any,.any,.any,.any,.any,.any,.pv (.bool false),.any,.any,.any,.any,.any,.any,.any,.any,.any,.any,.any,.any,.any,.any,.any,.any,.any,.any,.any,.any,.any,.any,.any,.any,.any],[],[],none⟩):=by
 unfold fn86_l1
 rw [clean_up l.length (fun i=>⟨[.pv (.list 1 (l.map enc)),.pv (.list 1 (m.map enc2)),.pv (.func gf caps),.any,.any,.any,.any,.any,.any,.any,.any,.any,.any,.any,.any,.pv (.list 1 (l.map enc)),.pv (.int .i64 l.length),.pv (.int .i64 i),.any,.any,.any,.any,.any,.any,.any,.any,.any,.any,.any,.any,.any,.any],[],[],none⟩)
  (fun i=>if ((l.drop i).zip (m.drop i)).all (fun q=>eq q.1 q.2) then some (.normal,⟨[.any,.any,.any,.any,.any,.any,.any,.any,.any,.any,.any,.any,.any,.any,.any,.any,.any,.any,.any,.any,.any,.any,.any,.any,.any,.any,.any,.any,.any,.any,.any,.any],[],[],none⟩) else some (.ret,⟨[.any,.any,.any,.any,.any,.any,.pv (.bool false),.any,.any,.any,.any,.any,.any,.any,.any,.any,.any,.any,.any,.any,.any,.any,.any,.any,.any,.any,.any,.any,.any,.any,.any,.any],[],[],none⟩)) h (fun _=>rfl) (fun _=>rfl) ?_ ?_]
 ·simp only [List.drop_zero]
 ·intro i rb hi ih
  have hi1:=i64_next hi hl
  have hj:i<m.length:=by omega
  have F1:((i:Int)<(l.length:Int))=True:=eq_true (by omega)
  simp only [fn86_b0,F1,List.length_map,index_nat hi,index_nat hj,List.getElem?_map,List.getElem?_eq_getElem hi,List.getElem?_eq_getElem hj,hs,hs2,hp _ (List.getElem_mem hi) _ (List.getElem_mem hj),vAll,reduceCtorEq,Nat.reduceEqDiff,Nat.reduceAdd,Nat.reduceLT,Nat.reduceLeDiff,Nat.beq]
  (try simp only [bcase_bind,bcase_map,tail_bcase]);refine bcase_split (fun hb=>?_) (fun hb=>?_)<;>try simp only [hb, memAll,vAll,reduceCtorEq,Nat.reduceEqDiff,Nat.reduceAdd,Nat.reduceLT,Nat.reduceLeDiff,Nat.beq]
  ·rw [ih _ (by simp only [hi1];rfl),List.drop_eq_getElem_cons hi,List.drop_eq_getElem_cons hj]
   simp only [List.zip_cons_cons,List.all_cons,hb,Bool.true_and]
  ·rw [List.drop_eq_getElem_cons hi,List.drop_eq_getElem_cons hj]
   simp only [List.zip_cons_cons,List.all_cons,hb,Bool.false_and,Bool.false_eq_true,if_false]
   rfl
 ·intro rb
  simp only [fn86_b0,Int.lt_irrefl,vAll,reduceCtorEq,Nat.reduceEqDiff,Nat.reduceAdd,Nat.reduceLT,Nat.reduceLeDiff,Nat.beq]
  rw [List.drop_length]
  rfl
theorem cal86 {α β:Type} {enc:α→PV} {enc2:β→PV} {eq:α→β→Bool} {l:List α} {m:List β} {gf:Nat} {caps:List PV} (hp:∀ x∈l,∀ y∈m,cal env gf (enc x :: enc2 y :: caps)=some [(.bool (eq x y),false)]) (hs:∀ x,part (enc x).cells 0 none=some (enc x)) (hs2:∀ x,part (enc2 x).cells 0 none=some (enc2 x)) (hl:l.length≤lim) :
  cal env 86 [.list 1 (l.map enc),.list 1 (m.map enc2),.func gf caps]=some [(.bool (eqF eq l m),false)]:=by
 rw [cal_code env86 rfl];simp only [fn86];simp only [start,z_map_cons,z_map_nil,z_len_cons,z_len_nil,z_repl_zero,z_repl_succ,z_cons_app,z_nil_app,Nat.reduceAdd,Nat.reduceSub]
 simp only [List.length_map,vAll,reduceCtorEq,Nat.reduceEqDiff,Nat.reduceAdd,Nat.reduceLT,Nat.reduceLeDiff,Nat.beq]
 (try simp only [bcase_bind,bcase_map,tail_bcase]);refine bcase_split (fun hb=>?_) (fun hb=>?_)<;>try simp only [hb, memAll,vAll,reduceCtorEq,Nat.reduceEqDiff,Nat.reduceAdd,Nat.reduceLT,Nat.reduceLeDiff,Nat.beq]
 ·have hlm:l.length=m.length:=by simp at hb;omega
  rw [loop86 hp hs hs2 hlm hl]
  rotate_left
  ·rfl
  ·simp only [eqF,decide_eq_true hlm,Bool.true_and]
   cases (l.zip m).all (fun q=>eq q.1 q.2)<;>simp only [vAll,reduceCtorEq,Nat.reduceEqDiff,Nat.reduceAdd,Nat.reduceLT,Nat.reduceLeDiff,Nat.beq]
 ·have:¬ l.length=m.length:=fun e=>by rw [e] at hb;simp at hb
  simp only [eqF,decide_eq_false this,vAll,reduceCtorEq,Nat.reduceEqDiff,Nat.reduceAdd,Nat.reduceLT,Nat.reduceLeDiff,Nat.beq]
--+
end Go.Proofs.YtioijcfcehhmdaaGreatDoor.V

namespace Go.Proofs.YtioijcfcehhmdaaGreatDoor.V
def sizesErr (l:List Int):Int:=if l.length<1∨8<l.length then 6 else if l.any (fun n=>decide (n<1) || decide (n > 4096)) then 2 else 0
def imSizes (im:Img):List Int:=im.map fun v=>(v.length:Int)
def imCheck (im:Img):Int:=sizesErr (imSizes im)
theorem take_map_succ {α β:Type} (f:α→β) {l:List α} {i:Nat} (h:i<l.length):(l.take i).map f++[f l[i]]=(l.take (i+1)).map f:=by
 rw [List.take_succ,List.getElem?_eq_getElem h,List.map_append];rfl
theorem loop138 {α:Type} {enc:α→PV} {l:List α} {g:α→Int} {gf:Nat} {caps:List PV} (hp:∀ x∈l,cal env gf (enc x :: caps)=some [(eI (g x),false)]) (hs:∀ x,part (enc x).cells 0 none=some (enc x)) (hs3:∀ x,(enc x).cells.length=1) (hl:l.length≤lim)
  {st:St} (h:st.head [0,1,5,10,11,12,13,22] st.boxes.length=some ⟨[.pv (.list 1 (l.map enc)),.pv (.func gf caps),.any,.any,.any,.row 1 [],.any,.any,.any,.any,.any,.pv (.list 1 (l.map enc)),.pv (.int .i64 l.length),.pv (.int .i64 (0:Nat)),.any,.any,.any,.any,.any,.any,.any,.any,.any,.any,.any],[],[],none⟩) :
  den env fn138_l1 st=some (.normal,⟨[.any,.any,.any,.any,.any,.row 1 (l.map fun x=>eI (g x)),.any,.any,.any,.any,.any,.any,.any,.any,.any,.any,.any,.any,.any,.any,.any,.any,.any,.any,.any],[],[],none⟩):=by
 unfold fn138_l1
 rw [clean_up l.length (fun i=>⟨[.pv (.list 1 (l.map enc)),.pv (.func gf caps),.any,.any,.any,.row 1 ((l.take i).map fun x=>eI (g x)),.any,.any,.any,.any,.any,.pv (.list 1 (l.map enc)),.pv (.int .i64 l.length),.pv (.int .i64 i),.any,.any,.any,.any,.any,.any,.any,.any,.any,.any,.any],[],[],none⟩)
  (fun i=>some (.normal,⟨[.any,.any,.any,.any,.any,.row 1 (l.map fun x=>eI (g x)),.any,.any,.any,.any,.any,.any,.any,.any,.any,.any,.any,.any,.any,.any,.any,.any,.any,.any,.any],[],[],none⟩)) h (fun _=>rfl) (fun _=>rfl) ?_ ?_]
 ·intro i rb hi ih
  have hi1:=i64_next hi hl
  have F1:((i:Int)<(l.length:Int))=True:=eq_true (by omega)
  have F2:((l.take i).length+1≤lim)=True:=eq_true (by rw [List.length_take];omega)
  have hpi:cal env gf (enc l[i] :: caps)=some [((PV.int .i64 (g l[i])),false)]:=hp _ (List.getElem_mem hi)
  try simp only [eExt] at hpi
  simp only [fn138_b0,F1,F2,index_nat hi,List.getElem?_map,List.getElem?_eq_getElem hi, hpi,hs,hs3,memAll,vAll,reduceCtorEq,Nat.reduceEqDiff,Nat.reduceAdd,Nat.reduceLT,Nat.reduceLeDiff,Nat.beq]
  rw [ih _ (by simp only [hi1];rw [← take_map_succ _ hi];rfl)]
 ·intro rb
  simp only [fn138_b0,Int.lt_irrefl,vAll,reduceCtorEq,Nat.reduceEqDiff,Nat.reduceAdd,Nat.reduceLT,Nat.reduceLeDiff,Nat.beq]
  rw [List.take_length]
  rfl
theorem cal138 {α:Type} {enc:α→PV} {l:List α} {g:α→Int} {gf:Nat} {caps:List PV} (hp:∀ x∈l,cal env gf (enc x :: caps)=some [(eI (g x),false)]) (hs:∀ x,part (enc x).cells 0 none=some (enc x)) (hs3:∀ x,(enc x).cells.length=1) (hl:l.length≤lim) :
  cal env 138 [.list 1 (l.map enc),.func gf caps]=some [(.list 1 (l.map fun x=>eI (g x)),true)]:=by
 rw [cal_code env138 rfl];simp only [fn138];simp only [start,z_map_cons,z_map_nil,z_len_cons,z_len_nil,z_repl_zero,z_repl_succ,z_cons_app,z_nil_app,Nat.reduceAdd,Nat.reduceSub]
 have F1:((l.length:Int)≤(lim:Int))=True:=eq_true (by omega)
 have F2:((0:Int)≤(l.length:Int))=True:=eq_true (by omega)
 simp only [F1,F2,Int.le_refl,memAll,vAll,reduceCtorEq,Nat.reduceEqDiff,Nat.reduceAdd,Nat.reduceLT,Nat.reduceLeDiff,Nat.beq]
 rw [loop138 hp hs hs3 hl]
 rotate_left
 ·rfl
 ·simp only [memAll,vAll,reduceCtorEq,Nat.reduceEqDiff,Nat.reduceAdd,Nat.reduceLT,Nat.reduceLeDiff,Nat.beq]
theorem cal148 {x:Int}:cal env 148 [eI x]=some [(.bool (decide (x<1) || decide (x > 4096)),false)]:=by
 unfold eI
 rw [cal_code env148 rfl];simp only [fn148];simp only [start,z_map_cons,z_map_nil,z_len_cons,z_len_nil,z_repl_zero,z_repl_succ,z_cons_app,z_nil_app,Nat.reduceAdd,Nat.reduceSub]
 simp only [ memAll,vAll,reduceCtorEq,Nat.reduceEqDiff,Nat.reduceAdd,Nat.reduceLT,Nat.reduceLeDiff,Nat.beq]
 (try simp only [bcase_bind,bcase_map,tail_bcase]);refine bcase_split (fun hb=>?_) (fun hb=>?_)<;>try simp only [hb, memAll,vAll,reduceCtorEq,Nat.reduceEqDiff,Nat.reduceAdd,Nat.reduceLT,Nat.reduceLeDiff,Nat.beq]
theorem cal124 {l:List Int} (hl:l.length≤lim):cal env 124 [.list 1 (l.map eI)]=some [(.int .i64 (sizesErr l),false)]:=by
 have e1:=cal129 (l:=l) (enc:=eI) (fun x _=>cal148 (x:=x)) (fun x=>rfl) hl
 rw [cal_code env124 rfl];simp only [fn124];simp only [start,z_map_cons,z_map_nil,z_len_cons,z_len_nil,z_repl_zero,z_repl_succ,z_cons_app,z_nil_app,Nat.reduceAdd,Nat.reduceSub]
 simp only [e1,memAll,vAll,reduceCtorEq,Nat.reduceEqDiff,Nat.reduceAdd,Nat.reduceLT,Nat.reduceLeDiff,Nat.beq]
 repeat' ((try simp only [bcase_bind,bcase_map,tail_bcase]);refine bcase_split (fun hb=>?_) (fun hb=>?_)<;>try simp only [hb,e1,memAll,vAll,reduceCtorEq,Nat.reduceEqDiff,Nat.reduceAdd,Nat.reduceLT,Nat.reduceLeDiff,Nat.beq])
 all_goals grind [sizesErr]
theorem cal139 {v:List Sec}:cal env 139 [eSecs v]=some [(eI v.length,false)]:=by
 unfold eSecs eI
 rw [cal_code env139 rfl];simp only [fn139];simp only [start,z_map_cons,z_map_nil,z_len_cons,z_len_nil,z_repl_zero,z_repl_succ,z_cons_app,z_nil_app,Nat.reduceAdd,Nat.reduceSub]
 simp only [ memAll,vAll,reduceCtorEq,Nat.reduceEqDiff,Nat.reduceAdd,Nat.reduceLT,Nat.reduceLeDiff,Nat.beq]
theorem cal116 {im:Img} (hl:im.length≤lim):cal env 116 [.list 1 (im.map eSecs)]=some [(.list 1 ((imSizes im).map eI),true)]:=by
 have e1:=cal138 (enc:=eSecs) (l:=im) (fun x _=>cal139 (v:=x)) (fun x=>rfl) (fun x=>rfl) hl
 rw [cal_code env116 rfl];simp only [fn116];simp only [start,z_map_cons,z_map_nil,z_len_cons,z_len_nil,z_repl_zero,z_repl_succ,z_cons_app,z_nil_app,Nat.reduceAdd,Nat.reduceSub]
 simp only [e1,memAll,vAll,reduceCtorEq,Nat.reduceEqDiff,Nat.reduceAdd,Nat.reduceLT,Nat.reduceLeDiff,Nat.beq]
 simp [imSizes]
theorem cal85 {im:Img} (hl:im.length≤lim):cal env 85 [.list 1 (im.map eSecs)]=some [(.int .i64 (imCheck im),false)]:=by
 have h2:(imSizes im).length≤lim:=by simpa [imSizes] using hl
 have e1:=cal116 hl
 have e2:=cal124 h2
 rw [cal_code env85 rfl];simp only [fn85];simp only [start,z_map_cons,z_map_nil,z_len_cons,z_len_nil,z_repl_zero,z_repl_succ,z_cons_app,z_nil_app,Nat.reduceAdd,Nat.reduceSub]
 simp only [e1,e2,memAll,vAll,reduceCtorEq,Nat.reduceEqDiff,Nat.reduceAdd,Nat.reduceLT,Nat.reduceLeDiff,Nat.beq]
 rfl
end Go.Proofs.YtioijcfcehhmdaaGreatDoor.V

namespace Go.Proofs.YtioijcfcehhmdaaGreatDoor.V
theorem loop104 {l:List Int} (hl:l.length≤lim) {st:St} (h:st.head [0,3] st.boxes.length=some ⟨[.pv (.list 1 (l.map eI)),.any,.any,.pv (.int .i64 (0:Nat)),.any,.any,.any,.any,.any,.any,.any,.any,.any,.any,.any,.any,.any,.any,.any,.any,.any,.any,.any,.any,.any,.any,.any,.any,.any,.any],[],[],none⟩) :
  den env fn104_l1 st=if l.any (fun n=>decide (n<1) || decide (n > 4096)) then some (.ret,⟨[.any,.any,.pv (.int .i64 2),.any,.any,.any,.any,.any,.any,.any,.any,.any,.any,.any,.any,.any,.any,.any,.any,.any,.any,.any,.any,.any,.any,.any,.any,.any,.any,.any],[],[],none⟩) else some (.normal,⟨[.any,.any,.any,.any,.any,.any,.any,.any,.any,.any,.any,.any,.any,.any,.any,.any,.any,.any,.any,.any,.any,.any,.any,.any,.any,.any,.any,.any,.any,.any],[],[],none⟩):=by
 unfold fn104_l1
 rw [ clean_up (env:=env) (l.length) (fun i=>⟨[.pv (.list 1 (l.map eI)),.any,.any,.pv (.int .i64 i),.any,.any,.any,.any,.any,.any,.any,.any,.any,.any,.any,.any,.any,.any,.any,.any,.any,.any,.any,.any,.any,.any,.any,.any,.any,.any],[],[],none⟩) (fun i=>if (l.drop i).any (fun n=>decide (n<1) || decide (n > 4096)) then some (.ret,⟨[.any,.any,.pv (.int .i64 2),.any,.any,.any,.any,.any,.any,.any,.any,.any,.any,.any,.any,.any,.any,.any,.any,.any,.any,.any,.any,.any,.any,.any,.any,.any,.any,.any],[],[],none⟩) else some (.normal,⟨[.any,.any,.any,.any,.any,.any,.any,.any,.any,.any,.any,.any,.any,.any,.any,.any,.any,.any,.any,.any,.any,.any,.any,.any,.any,.any,.any,.any,.any,.any],[],[],none⟩)) h (fun _=>rfl) (fun _=>rfl) ?_ ?_]
 ·first|rfl|simp only [List.drop_zero,List.take_zero,List.map_nil,Nat.zero_add,List.nil_append,List.foldl_nil]
 ·intro i rb hi ih
  have hi1:=i64_next hi hl;have F1:((i:Int)<(l.length:Int))=True:=eq_true (by omega)
  simp only [fn104_b0,eI,F1,index_nat hi,List.getElem?_map,List.getElem?_eq_getElem hi,memAll,vAll,reduceCtorEq,Nat.reduceEqDiff,Nat.reduceAdd,Nat.reduceLT,Nat.reduceLeDiff,Nat.beq]
  rw [List.drop_eq_getElem_cons hi]
  repeat' ((try simp only [bcase_bind,bcase_map,tail_bcase]);refine bcase_split (fun hb=>?_) (fun hb=>?_)<;>try simp only [hb,eI,index_nat hi,List.getElem?_map,List.getElem?_eq_getElem hi,memAll,vAll,reduceCtorEq,Nat.reduceEqDiff,Nat.reduceAdd,Nat.reduceLT,Nat.reduceLeDiff,Nat.beq])
  ·rfl
  ·rfl
  ·rw [ih _ (by simp only [hi1];rfl)]
 ·intro rb
  simp only [fn104_b0,Int.lt_irrefl,eI,memAll,vAll,reduceCtorEq,Nat.reduceEqDiff,Nat.reduceAdd,Nat.reduceLT,Nat.reduceLeDiff,Nat.beq]
  rw [List.drop_length]
  rfl
theorem cal104 {l:List Int} (hl:l.length≤lim):cal env 104 [.list 1 (l.map eI)]=some [(.int .i64 (sizesErr l),false)]:=by
 rw [cal_code env104 rfl];simp only [fn104];simp only [start,z_map_cons,z_map_nil,z_len_cons,z_len_nil,z_repl_zero,z_repl_succ,z_cons_app,z_nil_app,Nat.reduceAdd,Nat.reduceSub]
 simp only [eI,memAll,vAll,reduceCtorEq,Nat.reduceEqDiff,Nat.reduceAdd,Nat.reduceLT,Nat.reduceLeDiff,Nat.beq]
 repeat' ((try simp only [bcase_bind,bcase_map,tail_bcase]);refine bcase_split (fun hb=>?_) (fun hb=>?_)<;>try simp only [hb,eI,memAll,vAll,reduceCtorEq,Nat.reduceEqDiff,Nat.reduceAdd,Nat.reduceLT,Nat.reduceLeDiff,Nat.beq])
 ·grind [sizesErr]
 ·grind [sizesErr]
 ·rw [loop104 hl]
  rotate_left
  ·rfl
  ·by_cases h:l.any (fun n=>decide (n<1) || decide (n > 4096))=true
   ·simp only [h,vAll,reduceCtorEq,Nat.reduceEqDiff,Nat.reduceAdd,Nat.reduceLT,Nat.reduceLeDiff,Nat.beq]
    grind [sizesErr]
   ·simp only [h,vAll,reduceCtorEq,Nat.reduceEqDiff,Nat.reduceAdd,Nat.reduceLT,Nat.reduceLeDiff,Nat.beq]
    grind [sizesErr]
theorem loop59 {im:Img} (hl:im.length≤lim) {st:St} (h:st.head [0,3,4,18] st.boxes.length=some ⟨[.pv (.list 1 (im.map eSecs)),.any,.any,.row 1 ((im.take (0:Nat)).map fun v=>eI (v.length:Int)),.pv (.int .i64 (0:Nat)),.any,.any,.any,.any,.any,.any,.any,.any,.any,.any,.any,.any,.any,.any,.any],[],[],none⟩) :
  den env fn59_l1 st=some (.normal,⟨[.any,.any,.any,.row 1 (im.map fun v=>eI (v.length:Int)),.any,.any,.any,.any,.any,.any,.any,.any,.any,.any,.any,.any,.any,.any,.any,.any],[],[],none⟩):=by
 unfold fn59_l1
 refine clean_up (env:=env) (im.length) (fun i=>⟨[.pv (.list 1 (im.map eSecs)),.any,.any,.row 1 ((im.take i).map fun v=>eI (v.length:Int)),.pv (.int .i64 i),.any,.any,.any,.any,.any,.any,.any,.any,.any,.any,.any,.any,.any,.any,.any],[],[],none⟩) (fun i=>some (.normal,⟨[.any,.any,.any,.row 1 (im.map fun v=>eI (v.length:Int)),.any,.any,.any,.any,.any,.any,.any,.any,.any,.any,.any,.any,.any,.any,.any,.any],[],[],none⟩)) h (fun _=>rfl) (fun _=>rfl) ?_ ?_
 ·intro i rb hi ih
  have hi1:=i64_next hi hl
  have F1:((i:Int)<(im.length:Int))=True:=eq_true (by omega)
  have F2:((im.take i).length+1≤lim)=True:=eq_true (by rw [List.length_take];omega)
  simp only [fn59_b0,F1,F2,eSecs,index_nat hi,List.getElem?_map,List.getElem?_eq_getElem hi,memAll,vAll,reduceCtorEq,Nat.reduceEqDiff,Nat.reduceAdd,Nat.reduceLT,Nat.reduceLeDiff,Nat.beq]
  rw [ih _ (by simp only [hi1];rw [← take_map_succ _ hi];rfl)]
 ·intro rb
  simp only [fn59_b0,Int.lt_irrefl, memAll,vAll,reduceCtorEq,Nat.reduceEqDiff,Nat.reduceAdd,Nat.reduceLT,Nat.reduceLeDiff,Nat.beq]
  try rw [List.take_length]
  rfl
theorem cal59 {im:Img} (hl:im.length≤lim):cal env 59 [.list 1 (im.map eSecs)]=some [(.list 1 ((imSizes im).map eI),true)]:=by
 rw [cal_code env59 rfl];simp only [fn59];simp only [start,z_map_cons,z_map_nil,z_len_cons,z_len_nil,z_repl_zero,z_repl_succ,z_cons_app,z_nil_app,Nat.reduceAdd,Nat.reduceSub]
 simp only [ memAll,vAll,reduceCtorEq,Nat.reduceEqDiff,Nat.reduceAdd,Nat.reduceLT,Nat.reduceLeDiff,Nat.beq]
 rw [loop59 hl]
 rotate_left
 ·rfl
 ·simp only [ memAll,vAll,reduceCtorEq,Nat.reduceEqDiff,Nat.reduceAdd,Nat.reduceLT,Nat.reduceLeDiff,Nat.beq]
  simp [imSizes]
theorem cal101 {im:Img} (hl:im.length≤lim):cal env 101 [.list 1 (im.map eSecs)]=some [(.int .i64 (imCheck im),false)]:=by
 have h2:(imSizes im).length≤lim:=by simpa [imSizes] using hl
 have e1:=cal59 hl
 have e2:=cal104 h2
 rw [cal_code env101 rfl];simp only [fn101];simp only [start,z_map_cons,z_map_nil,z_len_cons,z_len_nil,z_repl_zero,z_repl_succ,z_cons_app,z_nil_app,Nat.reduceAdd,Nat.reduceSub]
 simp only [e1,e2,memAll,vAll,reduceCtorEq,Nat.reduceEqDiff,Nat.reduceAdd,Nat.reduceLT,Nat.reduceLeDiff,Nat.beq]
 rfl
def few7 (im:Img):Bool:=decide (im.length≤9)&&im.all fun v=>decide (v.length≤24)
theorem loop42 {im:Img} (hl:im.length≤lim) {st:St} (h:st.head [0,3] st.boxes.length=some ⟨[.pv (.list 1 (im.map eSecs)),.any,.any,.pv (.int .i64 (0:Nat)),.any,.any,.any,.any,.any,.any,.any,.any,.any,.any,.any,.any,.any,.any,.any],[],[],none⟩) :
  den env fn42_l1 st=if im.all (fun v=>decide (v.length≤24)) then some (.normal,⟨[.any,.any,.any,.any,.any,.any,.any,.any,.any,.any,.any,.any,.any,.any,.any,.any,.any,.any,.any],[],[],none⟩) else some (.ret,⟨[.any,.any,.pv (.bool false),.any,.any,.any,.any,.any,.any,.any,.any,.any,.any,.any,.any,.any,.any,.any,.any],[],[],none⟩):=by
 unfold fn42_l1
 rw [ clean_up (env:=env) (im.length) (fun i=>⟨[.pv (.list 1 (im.map eSecs)),.any,.any,.pv (.int .i64 i),.any,.any,.any,.any,.any,.any,.any,.any,.any,.any,.any,.any,.any,.any,.any],[],[],none⟩) (fun i=>if (im.drop i).all (fun v=>decide (v.length≤24)) then some (.normal,⟨[.any,.any,.any,.any,.any,.any,.any,.any,.any,.any,.any,.any,.any,.any,.any,.any,.any,.any,.any],[],[],none⟩) else some (.ret,⟨[.any,.any,.pv (.bool false),.any,.any,.any,.any,.any,.any,.any,.any,.any,.any,.any,.any,.any,.any,.any,.any],[],[],none⟩)) h (fun _=>rfl) (fun _=>rfl) ?_ ?_]
 ·first|rfl|simp only [List.drop_zero,List.take_zero,List.map_nil,Nat.zero_add,List.nil_append,List.foldl_nil]
 ·intro i rb hi ih
  have hi1:=i64_next hi hl
  have F1:((i:Int)<(im.length:Int))=True:=eq_true (by omega)
  simp only [fn42_b0,F1,eSecs,index_nat hi,List.getElem?_map,List.getElem?_eq_getElem hi,memAll,vAll,reduceCtorEq,Nat.reduceEqDiff,Nat.reduceAdd,Nat.reduceLT,Nat.reduceLeDiff,Nat.beq]
  rw [List.drop_eq_getElem_cons hi,List.all_cons]
  (try simp only [bcase_bind,bcase_map,tail_bcase]);refine bcase_split (fun hb=>?_) (fun hb=>?_)<;>try simp only [hb, memAll,vAll,reduceCtorEq,Nat.reduceEqDiff,Nat.reduceAdd,Nat.reduceLT,Nat.reduceLeDiff,Nat.beq]
  ·rw [decide_eq_false (by simp at hb;omega)];rfl
  ·rw [ih _ (by simp only [hi1];rfl),decide_eq_true (show im[i].length≤24 by simp at hb;omega),Bool.true_and]
 ·intro rb
  simp only [fn42_b0,Int.lt_irrefl, memAll,vAll,reduceCtorEq,Nat.reduceEqDiff,Nat.reduceAdd,Nat.reduceLT,Nat.reduceLeDiff,Nat.beq]
  rw [List.drop_length]
  rfl
theorem cal42 {im:Img}:cal env 42 [.list 1 (im.map eSecs)]=some [(.bool (few7 im),false)]:=by
 rw [cal_code env42 rfl];simp only [fn42];simp only [start,z_map_cons,z_map_nil,z_len_cons,z_len_nil,z_repl_zero,z_repl_succ,z_cons_app,z_nil_app,Nat.reduceAdd,Nat.reduceSub]
 simp only [ memAll,vAll,reduceCtorEq,Nat.reduceEqDiff,Nat.reduceAdd,Nat.reduceLT,Nat.reduceLeDiff,Nat.beq]
 (try simp only [bcase_bind,bcase_map,tail_bcase]);refine bcase_split (fun hb=>?_) (fun hb=>?_)<;>try simp only [hb, memAll,vAll,reduceCtorEq,Nat.reduceEqDiff,Nat.reduceAdd,Nat.reduceLT,Nat.reduceLeDiff,Nat.beq]
 ·simp at hb
  rw [few7,decide_eq_false (by omega)];rfl
 ·have hl:im.length≤9:=by simp at hb;omega
  rw [loop42 (im:=im) (by unfold lim;omega)]
  rotate_left
  ·rfl
  ·rw [few7,decide_eq_true hl,Bool.true_and]
   cases im.all (fun v=>decide (v.length≤24))<;>simp only [vAll,reduceCtorEq,Nat.reduceEqDiff,Nat.reduceAdd,Nat.reduceLT,Nat.reduceLeDiff,Nat.beq]
end Go.Proofs.YtioijcfcehhmdaaGreatDoor.V
