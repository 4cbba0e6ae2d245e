/-
  Part 7 of the texts that the statement stands on.
-/
import Derived.Test.YtioijcfcehhmdaaGreatDoorZ6
set_option linter.all false
namespace Go.Proofs.YtioijcfcehhmdaaGreatDoor
def Ok1 (P:Program) (f:Nat):VDef→Prop
 |.code fn=>fnOk P f fn=true
 |.ext g=>∀ args rs,g args=some rs→callable P f=true∧CallOk P f args rs
 |.srt h=>callable P f=true∧SortOk P f h
 |.thr h=>(∀ args,h args=some none→callable P f=true∧CallOk P f args [])∧∀ args t n,h args=some (some (t,n))→callable P f=true∧ThrOk P f args t n
 |.dfn fn=>dfnOk P f fn=true∧RescOk P fn.resc fn.t∧∀ d g zs,fn.clos=some (d,g,zs)→ClosOk P g (zs.map (·.2))
theorem ok3:Ok1 Tryz.prog 3 (.code fn3):=(by kernel_rfl:fnOk Tryz.prog 3 fn3=true)
theorem ok10:Ok1 Tryz.prog 10 (.code fn10):=(by kernel_rfl:fnOk Tryz.prog 10 fn10=true)
theorem ok11:Ok1 Tryz.prog 11 (.code fn11):=(by kernel_rfl:fnOk Tryz.prog 11 fn11=true)
theorem ok12:Ok1 Tryz.prog 12 (.dfn fn12):=⟨(by kernel_rfl:dfnOk Tryz.prog 12 fn12=true),resc_ok,fun d g zs h=>by cases h;exact clos_round⟩
theorem ok13:Ok1 Tryz.prog 13 (.code fn13):=(by kernel_rfl:fnOk Tryz.prog 13 fn13=true)
theorem ok14:Ok1 Tryz.prog 14 (.code fn14):=(by kernel_rfl:fnOk Tryz.prog 14 fn14=true)
theorem ok15:Ok1 Tryz.prog 15 (.dfn fn15):=⟨(by kernel_rfl:dfnOk Tryz.prog 15 fn15=true),resc_ok,fun d g zs h=>by cases h;exact clos_finish⟩
theorem ok17:Ok1 Tryz.prog 17 (.code fn17):=(by kernel_rfl:fnOk Tryz.prog 17 fn17=true)
theorem ok20:Ok1 Tryz.prog 20 (.code fn20):=(by kernel_rfl:fnOk Tryz.prog 20 fn20=true)
theorem ok24:Ok1 Tryz.prog 24 (.dfn fn24):=⟨(by kernel_rfl:dfnOk Tryz.prog 24 fn24=true),resc_ok,fun d g zs h=>by cases h;exact clos_begin⟩
theorem ok27:Ok1 Tryz.prog 27 (.code fn27):=(by kernel_rfl:fnOk Tryz.prog 27 fn27=true)
theorem ok29:Ok1 Tryz.prog 29 (.code fn29):=(by kernel_rfl:fnOk Tryz.prog 29 fn29=true)
theorem ok30:Ok1 Tryz.prog 30 (.code fn30):=(by kernel_rfl:fnOk Tryz.prog 30 fn30=true)
theorem ok33:Ok1 Tryz.prog 33 (.code fn33):=(by kernel_rfl:fnOk Tryz.prog 33 fn33=true)
theorem ok35:Ok1 Tryz.prog 35 (.code fn35):=(by kernel_rfl:fnOk Tryz.prog 35 fn35=true)
theorem ok36:Ok1 Tryz.prog 36 (.code fn36):=(by kernel_rfl:fnOk Tryz.prog 36 fn36=true)
theorem ok37:Ok1 Tryz.prog 37 (.code fn37):=(by kernel_rfl:fnOk Tryz.prog 37 fn37=true)
theorem ok38:Ok1 Tryz.prog 38 (.ext applyX):=applyI_ok
theorem ok39:Ok1 Tryz.prog 39 (.code fn39):=(by kernel_rfl:fnOk Tryz.prog 39 fn39=true)
theorem ok42:Ok1 Tryz.prog 42 (.code fn42):=(by kernel_rfl:fnOk Tryz.prog 42 fn42=true)
theorem ok43:Ok1 Tryz.prog 43 (.code fn43):=(by kernel_rfl:fnOk Tryz.prog 43 fn43=true)
theorem ok44:Ok1 Tryz.prog 44 (.code fn44):=(by kernel_rfl:fnOk Tryz.prog 44 fn44=true)
theorem ok45:Ok1 Tryz.prog 45 (.code fn45):=(by kernel_rfl:fnOk Tryz.prog 45 fn45=true)
theorem ok46:Ok1 Tryz.prog 46 (.code fn46):=(by kernel_rfl:fnOk Tryz.prog 46 fn46=true)
theorem ok48:Ok1 Tryz.prog 48 (.code fn48):=(by kernel_rfl:fnOk Tryz.prog 48 fn48=true)
theorem ok49:Ok1 Tryz.prog 49 (.code fn49):=(by kernel_rfl:fnOk Tryz.prog 49 fn49=true)
theorem ok50:Ok1 Tryz.prog 50 (.code fn50):=(by kernel_rfl:fnOk Tryz.prog 50 fn50=true)
theorem ok51:Ok1 Tryz.prog 51 (.thr demandX):=demand_ok
theorem ok52:Ok1 Tryz.prog 52 (.code fn52):=(by kernel_rfl:fnOk Tryz.prog 52 fn52=true)
theorem ok53:Ok1 Tryz.prog 53 (.code fn53):=(by kernel_rfl:fnOk Tryz.prog 53 fn53=true)
theorem ok54:Ok1 Tryz.prog 54 (.code fn54):=(by kernel_rfl:fnOk Tryz.prog 54 fn54=true)
theorem ok55:Ok1 Tryz.prog 55 (.code fn55):=(by kernel_rfl:fnOk Tryz.prog 55 fn55=true)
theorem ok56:Ok1 Tryz.prog 56 (.code fn56):=(by kernel_rfl:fnOk Tryz.prog 56 fn56=true)
theorem ok57:Ok1 Tryz.prog 57 (.code fn57):=(by kernel_rfl:fnOk Tryz.prog 57 fn57=true)
theorem ok58:Ok1 Tryz.prog 58 (.code fn58):=(by kernel_rfl:fnOk Tryz.prog 58 fn58=true)
theorem ok59:Ok1 Tryz.prog 59 (.code fn59):=(by kernel_rfl:fnOk Tryz.prog 59 fn59=true)
theorem ok60:Ok1 Tryz.prog 60 (.code fn60):=(by kernel_rfl:fnOk Tryz.prog 60 fn60=true)
theorem ok61:Ok1 Tryz.prog 61 (.code fn61):=(by kernel_rfl:fnOk Tryz.prog 61 fn61=true)
theorem ok62:Ok1 Tryz.prog 62 (.code fn62):=(by kernel_rfl:fnOk Tryz.prog 62 fn62=true)
theorem ok66:Ok1 Tryz.prog 66 (.code fn66):=(by kernel_rfl:fnOk Tryz.prog 66 fn66=true)
theorem ok68:Ok1 Tryz.prog 68 (.code fn68):=(by kernel_rfl:fnOk Tryz.prog 68 fn68=true)
theorem ok69:Ok1 Tryz.prog 69 (.code fn69):=(by kernel_rfl:fnOk Tryz.prog 69 fn69=true)
theorem ok70:Ok1 Tryz.prog 70 (.code fn70):=(by kernel_rfl:fnOk Tryz.prog 70 fn70=true)
theorem ok71:Ok1 Tryz.prog 71 (.code fn71):=(by kernel_rfl:fnOk Tryz.prog 71 fn71=true)
theorem ok73:Ok1 Tryz.prog 73 (.code fn73):=(by kernel_rfl:fnOk Tryz.prog 73 fn73=true)
theorem ok75:Ok1 Tryz.prog 75 (.code fn75):=(by kernel_rfl:fnOk Tryz.prog 75 fn75=true)
theorem ok76:Ok1 Tryz.prog 76 (.code fn76):=(by kernel_rfl:fnOk Tryz.prog 76 fn76=true)
theorem ok77:Ok1 Tryz.prog 77 (.code fn77):=(by kernel_rfl:fnOk Tryz.prog 77 fn77=true)
theorem ok78:Ok1 Tryz.prog 78 (.code fn78):=(by kernel_rfl:fnOk Tryz.prog 78 fn78=true)
theorem ok79:Ok1 Tryz.prog 79 (.code fn79):=(by kernel_rfl:fnOk Tryz.prog 79 fn79=true)
theorem ok81:Ok1 Tryz.prog 81 (.code fn81):=(by kernel_rfl:fnOk Tryz.prog 81 fn81=true)
theorem ok83:Ok1 Tryz.prog 83 (.code fn83):=(by kernel_rfl:fnOk Tryz.prog 83 fn83=true)
theorem ok84:Ok1 Tryz.prog 84 (.code fn84):=(by kernel_rfl:fnOk Tryz.prog 84 fn84=true)
theorem ok85:Ok1 Tryz.prog 85 (.code fn85):=(by kernel_rfl:fnOk Tryz.prog 85 fn85=true)
theorem ok86:Ok1 Tryz.prog 86 (.code fn86):=(by kernel_rfl:fnOk Tryz.prog 86 fn86=true)
theorem ok87:Ok1 Tryz.prog 87 (.code fn87):=(by kernel_rfl:fnOk Tryz.prog 87 fn87=true)
theorem ok89:Ok1 Tryz.prog 89 (.code fn89):=(by kernel_rfl:fnOk Tryz.prog 89 fn89=true)
theorem ok90:Ok1 Tryz.prog 90 (.code fn90):=(by kernel_rfl:fnOk Tryz.prog 90 fn90=true)
theorem ok92:Ok1 Tryz.prog 92 (.code fn92):=(by kernel_rfl:fnOk Tryz.prog 92 fn92=true)
theorem ok93:Ok1 Tryz.prog 93 (.code fn93):=(by kernel_rfl:fnOk Tryz.prog 93 fn93=true)
theorem ok94:Ok1 Tryz.prog 94 (.code fn94):=(by kernel_rfl:fnOk Tryz.prog 94 fn94=true)
theorem ok95:Ok1 Tryz.prog 95 (.ext (cloneX 8)):=clone95_ok
theorem ok96:Ok1 Tryz.prog 96 (.code fn96):=(by kernel_rfl:fnOk Tryz.prog 96 fn96=true)
theorem ok97:Ok1 Tryz.prog 97 (.code fn97):=(by kernel_rfl:fnOk Tryz.prog 97 fn97=true)
theorem ok98:Ok1 Tryz.prog 98 (.code fn98):=(by kernel_rfl:fnOk Tryz.prog 98 fn98=true)
theorem ok99:Ok1 Tryz.prog 99 (.code fn99):=(by kernel_rfl:fnOk Tryz.prog 99 fn99=true)
theorem ok100:Ok1 Tryz.prog 100 (.code fn100):=(by kernel_rfl:fnOk Tryz.prog 100 fn100=true)
theorem ok101:Ok1 Tryz.prog 101 (.code fn101):=(by kernel_rfl:fnOk Tryz.prog 101 fn101=true)
theorem ok102:Ok1 Tryz.prog 102 (.code fn102):=(by kernel_rfl:fnOk Tryz.prog 102 fn102=true)
theorem ok103:Ok1 Tryz.prog 103 (.code fn103):=(by kernel_rfl:fnOk Tryz.prog 103 fn103=true)
theorem ok104:Ok1 Tryz.prog 104 (.code fn104):=(by kernel_rfl:fnOk Tryz.prog 104 fn104=true)
theorem ok105:Ok1 Tryz.prog 105 (.code fn105):=(by kernel_rfl:fnOk Tryz.prog 105 fn105=true)
theorem ok106:Ok1 Tryz.prog 106 (.code fn106):=(by kernel_rfl:fnOk Tryz.prog 106 fn106=true)
theorem ok107:Ok1 Tryz.prog 107 (.code fn107):=(by kernel_rfl:fnOk Tryz.prog 107 fn107=true)
theorem ok111:Ok1 Tryz.prog 111 (.code fn111):=(by kernel_rfl:fnOk Tryz.prog 111 fn111=true)
theorem ok112:Ok1 Tryz.prog 112 (.code fn112):=(by kernel_rfl:fnOk Tryz.prog 112 fn112=true)
theorem ok115:Ok1 Tryz.prog 115 (.code fn115):=(by kernel_rfl:fnOk Tryz.prog 115 fn115=true)
theorem ok116:Ok1 Tryz.prog 116 (.code fn116):=(by kernel_rfl:fnOk Tryz.prog 116 fn116=true)
theorem ok117:Ok1 Tryz.prog 117 (.code fn117):=(by kernel_rfl:fnOk Tryz.prog 117 fn117=true)
theorem ok118:Ok1 Tryz.prog 118 (.code fn118):=(by kernel_rfl:fnOk Tryz.prog 118 fn118=true)
theorem ok119:Ok1 Tryz.prog 119 (.code fn119):=(by kernel_rfl:fnOk Tryz.prog 119 fn119=true)
theorem ok120:Ok1 Tryz.prog 120 (.code fn120):=(by kernel_rfl:fnOk Tryz.prog 120 fn120=true)
theorem ok121:Ok1 Tryz.prog 121 (.code fn121):=(by kernel_rfl:fnOk Tryz.prog 121 fn121=true)
theorem ok122:Ok1 Tryz.prog 122 (.code fn122):=(by kernel_rfl:fnOk Tryz.prog 122 fn122=true)
theorem ok123:Ok1 Tryz.prog 123 (.code fn123):=(by kernel_rfl:fnOk Tryz.prog 123 fn123=true)
theorem ok124:Ok1 Tryz.prog 124 (.code fn124):=(by kernel_rfl:fnOk Tryz.prog 124 fn124=true)
theorem ok126:Ok1 Tryz.prog 126 (.code fn126):=(by kernel_rfl:fnOk Tryz.prog 126 fn126=true)
theorem ok127:Ok1 Tryz.prog 127 (.code fn127):=(by kernel_rfl:fnOk Tryz.prog 127 fn127=true)
theorem ok128:Ok1 Tryz.prog 128 (.code fn128):=(by kernel_rfl:fnOk Tryz.prog 128 fn128=true)
theorem ok129:Ok1 Tryz.prog 129 (.code fn129):=(by kernel_rfl:fnOk Tryz.prog 129 fn129=true)
theorem ok130:Ok1 Tryz.prog 130 (.code fn130):=(by kernel_rfl:fnOk Tryz.prog 130 fn130=true)
theorem ok131:Ok1 Tryz.prog 131 (.code fn131):=(by kernel_rfl:fnOk Tryz.prog 131 fn131=true)
theorem ok132:Ok1 Tryz.prog 132 (.code fn132):=(by kernel_rfl:fnOk Tryz.prog 132 fn132=true)
theorem ok133:Ok1 Tryz.prog 133 (.code fn133):=(by kernel_rfl:fnOk Tryz.prog 133 fn133=true)
theorem ok134:Ok1 Tryz.prog 134 (.code fn134):=(by kernel_rfl:fnOk Tryz.prog 134 fn134=true)
theorem ok135:Ok1 Tryz.prog 135 (.code fn135):=(by kernel_rfl:fnOk Tryz.prog 135 fn135=true)
theorem ok136:Ok1 Tryz.prog 136 (.code fn136):=(by kernel_rfl:fnOk Tryz.prog 136 fn136=true)
theorem ok138:Ok1 Tryz.prog 138 (.code fn138):=(by kernel_rfl:fnOk Tryz.prog 138 fn138=true)
theorem ok139:Ok1 Tryz.prog 139 (.code fn139):=(by kernel_rfl:fnOk Tryz.prog 139 fn139=true)
theorem ok140:Ok1 Tryz.prog 140 (.code fn140):=(by kernel_rfl:fnOk Tryz.prog 140 fn140=true)
theorem ok141:Ok1 Tryz.prog 141 (.code fn141):=(by kernel_rfl:fnOk Tryz.prog 141 fn141=true)
theorem ok142:Ok1 Tryz.prog 142 (.srt (sortEndsX 143)):=sortEnds_ok
theorem ok143:Ok1 Tryz.prog 143 (.code fn143):=(by kernel_rfl:fnOk Tryz.prog 143 fn143=true)
theorem ok144:Ok1 Tryz.prog 144 (.code fn144):=(by kernel_rfl:fnOk Tryz.prog 144 fn144=true)
theorem ok145:Ok1 Tryz.prog 145 (.code fn145):=(by kernel_rfl:fnOk Tryz.prog 145 fn145=true)
theorem ok146:Ok1 Tryz.prog 146 (.ext (cloneX 1)):=clone146_ok
theorem ok147:Ok1 Tryz.prog 147 (.code fn147):=(by kernel_rfl:fnOk Tryz.prog 147 fn147=true)
theorem ok148:Ok1 Tryz.prog 148 (.code fn148):=(by kernel_rfl:fnOk Tryz.prog 148 fn148=true)
theorem ok149:Ok1 Tryz.prog 149 (.code fn149):=(by kernel_rfl:fnOk Tryz.prog 149 fn149=true)
theorem ok150:Ok1 Tryz.prog 150 (.ext tzX):=tz_ok
theorem ok151:Ok1 Tryz.prog 151 (.code fn151):=(by kernel_rfl:fnOk Tryz.prog 151 fn151=true)
theorem ok152:Ok1 Tryz.prog 152 (.code fn152):=(by kernel_rfl:fnOk Tryz.prog 152 fn152=true)
theorem ok153:Ok1 Tryz.prog 153 (.code fn153):=(by kernel_rfl:fnOk Tryz.prog 153 fn153=true)
theorem ok157:Ok1 Tryz.prog 157 (.code fn157):=(by kernel_rfl:fnOk Tryz.prog 157 fn157=true)
theorem tabOk:∀ p∈tab,Ok1 Tryz.prog p.1 p.2:=by
 unfold tab
 exact List.forall_mem_cons.2 ⟨ok3,List.forall_mem_cons.2 ⟨ok10,List.forall_mem_cons.2 ⟨ok11,List.forall_mem_cons.2 ⟨ok12,List.forall_mem_cons.2 ⟨ok13,List.forall_mem_cons.2 ⟨ok14,List.forall_mem_cons.2 ⟨ok15,List.forall_mem_cons.2 ⟨ok17,List.forall_mem_cons.2 ⟨ok20,List.forall_mem_cons.2 ⟨ok24,List.forall_mem_cons.2 ⟨ok27,List.forall_mem_cons.2 ⟨ok29,List.forall_mem_cons.2 ⟨ok30,List.forall_mem_cons.2 ⟨ok33,List.forall_mem_cons.2 ⟨ok35,List.forall_mem_cons.2 ⟨ok36,List.forall_mem_cons.2 ⟨ok37,List.forall_mem_cons.2 ⟨ok38,List.forall_mem_cons.2 ⟨ok39,List.forall_mem_cons.2 ⟨ok42,List.forall_mem_cons.2 ⟨ok43,List.forall_mem_cons.2 ⟨ok44,List.forall_mem_cons.2 ⟨ok45,List.forall_mem_cons.2 ⟨ok46,List.forall_mem_cons.2 ⟨ok48,List.forall_mem_cons.2 ⟨ok49,List.forall_mem_cons.2 ⟨ok50,List.forall_mem_cons.2 ⟨ok51,List.forall_mem_cons.2 ⟨ok52,List.forall_mem_cons.2 ⟨ok53,List.forall_mem_cons.2 ⟨ok54,List.forall_mem_cons.2 ⟨ok55,List.forall_mem_cons.2 ⟨ok56,List.forall_mem_cons.2 ⟨ok57,List.forall_mem_cons.2 ⟨ok58,List.forall_mem_cons.2 ⟨ok59,List.forall_mem_cons.2 ⟨ok60,List.forall_mem_cons.2 ⟨ok61,List.forall_mem_cons.2 ⟨ok62,List.forall_mem_cons.2 ⟨ok66,List.forall_mem_cons.2 ⟨ok68,List.forall_mem_cons.2 ⟨ok69,List.forall_mem_cons.2 ⟨ok70,List.forall_mem_cons.2 ⟨ok71,List.forall_mem_cons.2 ⟨ok73,List.forall_mem_cons.2 ⟨ok75,List.forall_mem_cons.2 ⟨ok76,List.forall_mem_cons.2 ⟨ok77,List.forall_mem_cons.2 ⟨ok78,List.forall_mem_cons.2 ⟨ok79,List.forall_mem_cons.2 ⟨ok81,List.forall_mem_cons.2 ⟨ok83,List.forall_mem_cons.2 ⟨ok84,List.forall_mem_cons.2 ⟨ok85,List.forall_mem_cons.2 ⟨ok86,List.forall_mem_cons.2 ⟨ok87,List.forall_mem_cons.2 ⟨ok89,List.forall_mem_cons.2 ⟨ok90,List.forall_mem_cons.2 ⟨ok92,List.forall_mem_cons.2 ⟨ok93,List.forall_mem_cons.2 ⟨ok94,List.forall_mem_cons.2 ⟨ok95,List.forall_mem_cons.2 ⟨ok96,List.forall_mem_cons.2 ⟨ok97,List.forall_mem_cons.2 ⟨ok98,List.forall_mem_cons.2 ⟨ok99,List.forall_mem_cons.2 ⟨ok100,List.forall_mem_cons.2 ⟨ok101,List.forall_mem_cons.2 ⟨ok102,List.forall_mem_cons.2 ⟨ok103,List.forall_mem_cons.2 ⟨ok104,List.forall_mem_cons.2 ⟨ok105,List.forall_mem_cons.2 ⟨ok106,List.forall_mem_cons.2 ⟨ok107,List.forall_mem_cons.2 ⟨ok111,List.forall_mem_cons.2 ⟨ok112,List.forall_mem_cons.2 ⟨ok115,List.forall_mem_cons.2 ⟨ok116,List.forall_mem_cons.2 ⟨ok117,List.forall_mem_cons.2 ⟨ok118,List.forall_mem_cons.2 ⟨ok119,List.forall_mem_cons.2 ⟨ok120,List.forall_mem_cons.2 ⟨ok121,List.forall_mem_cons.2 ⟨ok122,List.forall_mem_cons.2 ⟨ok123,List.forall_mem_cons.2 ⟨ok124,List.forall_mem_cons.2 ⟨ok126,List.forall_mem_cons.2 ⟨ok127,List.forall_mem_cons.2 ⟨ok128,List.forall_mem_cons.2 ⟨ok129,List.forall_mem_cons.2 ⟨ok130,List.forall_mem_cons.2 ⟨ok131,List.forall_mem_cons.2 ⟨ok132,List.forall_mem_cons.2 ⟨ok133,List.forall_mem_cons.2 ⟨ok134,List.forall_mem_cons.2 ⟨ok135,List.forall_mem_cons.2 ⟨ok136,List.forall_mem_cons.2 ⟨ok138,List.forall_mem_cons.2 ⟨ok139,List.forall_mem_cons.2 ⟨ok140,List.forall_mem_cons.2 ⟨ok141,List.forall_mem_cons.2 ⟨ok142,List.forall_mem_cons.2 ⟨ok143,List.forall_mem_cons.2 ⟨ok144,List.forall_mem_cons.2 ⟨ok145,List.forall_mem_cons.2 ⟨ok146,List.forall_mem_cons.2 ⟨ok147,List.forall_mem_cons.2 ⟨ok148,List.forall_mem_cons.2 ⟨ok149,List.forall_mem_cons.2 ⟨ok150,List.forall_mem_cons.2 ⟨ok151,List.forall_mem_cons.2 ⟨ok152,List.forall_mem_cons.2 ⟨ok153,List.forall_mem_cons.2 ⟨ok157,fun p hp=>by cases hp⟩⟩⟩⟩⟩⟩⟩⟩⟩⟩⟩⟩⟩⟩⟩⟩⟩⟩⟩⟩⟩⟩⟩⟩⟩⟩⟩⟩⟩⟩⟩⟩⟩⟩⟩⟩⟩⟩⟩⟩⟩⟩⟩⟩⟩⟩⟩⟩⟩⟩⟩⟩⟩⟩⟩⟩⟩⟩⟩⟩⟩⟩⟩⟩⟩⟩⟩⟩⟩⟩⟩⟩⟩⟩⟩⟩⟩⟩⟩⟩⟩⟩⟩⟩⟩⟩⟩⟩⟩⟩⟩⟩⟩⟩⟩⟩⟩⟩⟩⟩⟩⟩⟩⟩⟩⟩⟩⟩⟩⟩⟩⟩⟩⟩
theorem lookup_mem:∀ {l:List (Nat × VDef)} {f:Nat} {d:VDef},l.lookup f=some d→(f,d)∈l
 |(k,v) :: l,f,d,h=>by
  rw [List.lookup_cons] at h
  split at h
  ·rename_i e
   have e:f=k:=by simpa using e
   cases h;subst e;simp
  ·exact List.mem_cons_of_mem _ (lookup_mem h)
theorem envOk:EnvOk Tryz.prog env:=fun f d h=>by
 have:=tabOk _ (lookup_mem h)
 cases d<;>exact this
end Go.Proofs.YtioijcfcehhmdaaGreatDoor

namespace Go.Proofs.YtioijcfcehhmdaaGreatDoor.V
theorem secPV_zero:secPV zSec=[.int .u8 0,.int .u8 0,.int .u8 0,.int .u8 0,.int .u8 0,.int .u8 0,.int .u8 0,.int .u8 0]:=rfl
theorem part_sec (x:Sec):part (secPV x) 0 (some 8)=some (.agg (secPV x)):=by
 simp only [part,secPV_length,Nat.zero_add,List.drop_zero]
 rw [if_pos (Nat.le_refl _),List.take_of_length_le (by rw [secPV_length];exact Nat.le_refl _)]
theorem eqCells_u8:∀ a b:List UInt8,a.length=b.length→eqCells (a.map fun b=>.int .u8 (b.toNat:Int)) (b.map fun b=>.int .u8 (b.toNat:Int))=some (decide (a=b))
 |[],[],_=>rfl
 |x :: a,y :: b,h=>by
  simp only [List.length_cons,Nat.add_right_cancel_iff] at h
  simp only [List.map_cons,eqCells,if_pos,eqCells_u8 a b h,Option.map_some,List.cons.injEq]
  congr 1
  have:((x.toNat:Int)==(y.toNat:Int))=decide (x=y):=by
   by_cases e:x=y
   ·subst e;simp
   ·have:¬ x.toNat=y.toNat:=fun h=>e (UInt8.toNat_inj.1 h)
    simp [e];omega
  rw [this,Bool.decide_and]
 |[],_ :: _,h=>by simp at h
 |_ :: _,[],h=>by simp at h
theorem eqCells_sec (a b:Sec):eqCells (secPV a) (secPV b)=some (decide (a=b)):=by
 unfold secPV
 rw [eqCells_u8 _ _ (by simp)]
 congr 1
 apply decide_eq_decide.2
 exact ⟨fun h=>Vector.toList_inj.1 h,fun h=>by rw [h]⟩
end Go.Proofs.YtioijcfcehhmdaaGreatDoor.V

namespace Go.Proofs.YtioijcfcehhmdaaGreatDoor
noncomputable def iter (env:Env) (f:Nat) (caps:List PV) (stop:Option Nat):Option (List (List PV)):=iterRes (den env) env f caps stop
def ystart (n:Nat) (caps:List PV) (stop:Option Nat):St:=⟨.yld :: (caps.map .pv++List.replicate (n - (caps.length+1)) .any),[],[],some stop⟩
def yfin:Ex × St→Option (List (List PV))
 |(.exit _,_)=>none
 |(.thr _ _,_)=>none
 |(_,st)=>some st.ys
section
variable {env:Env}
theorem yfin_normal (st:St):yfin (.normal,st)=some st.ys:=(rfl)
theorem yfin_ret (st:St):yfin (.ret,st)=some st.ys:=(rfl)
theorem iter_code {f:Nat} {fn:VFn} {caps:List PV} {stop:Option Nat} (h:env f=some (.code fn)) (hl:caps.length+1=fn.nargs) (hr:fn.results.isEmpty=true):iter env f caps stop=(den env fn.body (ystart fn.ntmps caps stop)).bind yfin:=by
 unfold iter iterRes
 rw [h]
 simp only [if_pos (And.intro hl hr)]
 show (den env fn.body _).bind _=_
 congr 1
 funext ⟨e,st⟩
 cases e<;>rfl
noncomputable def round1 (env:Env) (slots:List AV) (ps:List Nat) (assign body:VCode) (nb:Nat) (x:List PV) (st:St):Option (Ex × St) :=
 (setParams slots ps x).bind fun sl=>(den env assign { st with slots:=sl }).bind fun p=>match p with
  |(.normal,st)=>(den env body st).bind fun p=>match p with
   |(.normal,st)=>if nb≤st.boxes.length then some (.normal,{ st with boxes:=st.boxes.take nb }) else none
   |(.thr _ _,_)=>none
   |p=>some p
  |_=>none
theorem rounds_cons {slots:List AV} {ps:List Nat} {assign body:VCode} {nb k:Nat} {x:List PV} {xs:List (List PV)} {st:St} :
  rounds (den env) slots ps assign body nb k (x :: xs) st=(round1 env slots ps assign body nb x st).bind fun p=>match p with
   |(.normal,st)=>rounds (den env) slots ps assign body nb (k+1) xs st
   |(e,st)=>some (some (e,k+1),st):=by
 conv=>lhs;unfold rounds
 unfold round1
 show (setParams slots ps x).bind _=_
 cases setParams slots ps x with
 |none=>rfl
 |some sl =>
  simp only [Option.bind_some]
  show (den env assign _).bind _=_
  cases den env assign { st with slots:=sl } with
  |none=>rfl
  |some p =>
   obtain ⟨e,s⟩:=p
   simp only [Option.bind_some]
   cases e with
   |normal =>
    simp only
    show (den env body _).bind _=_
    cases den env body s with
    |none=>rfl
    |some p =>
     obtain ⟨e,s⟩:=p
     simp only [Option.bind_some]
     cases e with
     |normal =>
      simp only
      split<;>rfl
     |exit i=>rfl
     |ret=>rfl
     |thr t n=>rfl
   |exit i=>rfl
   |ret=>rfl
   |thr t n=>rfl
theorem rng_all {g:Opd} {ps:List Nat} {assign body:VCode} {st st1:St} {f:Nat} {caps:List PV} {xs:List (List PV)} (hg:st.pvOf g=some (.func f caps)) (hi:iter env f caps none=some xs)
  (hr:rounds (den env) (st.slots.map AV.froze) ps assign body st.boxes.length 0 xs { st with slots:=st.slots.map AV.froze }=some (none,st1)):den env (.rng g ps assign body) st=some (.normal,{ st1 with slots:=st.slots.map AV.froze }):=by
 rw [den_eq]
 show ranged (den env) env g ps assign body st=_
 unfold ranged
 rw [hg]
 unfold iter at hi
 simp only [z_bind_eq,Option.bind_some,hi,hr]
theorem rng_idx (B:Nat→List Box) {g:Opd} {ps:List Nat} {assign body:VCode} {st:St} {f:Nat} {caps:List PV} {xs:List (List PV)} (hg:st.pvOf g=some (.func f caps)) (hi:iter env f caps none=some xs) (hB:st.boxes=B 0)
  (h:∀ j x,xs[j]?=some x→∀ sl0,∃ sl1,round1 env (st.slots.map AV.froze) ps assign body st.boxes.length x ⟨sl0,B j,st.ys,st.stop⟩=some (.normal,⟨sl1,B (j+1),st.ys,st.stop⟩)) :
  den env (.rng g ps assign body) st=some (.normal,⟨st.slots.map AV.froze,B xs.length,st.ys,st.stop⟩):=by
 have key:∀ (l:List (List PV)) (j:Nat),xs.drop j=l→∀ (k:Nat) (sl0:List AV),∃ sl1,rounds (den env) (st.slots.map AV.froze) ps assign body st.boxes.length k l ⟨sl0,B j,st.ys,st.stop⟩=some (none,⟨sl1,B (j+l.length),st.ys,st.stop⟩):=by
  intro l
  induction l with
  |nil=>intro j _ k sl0;exact ⟨sl0,rfl⟩
  |cons x l ih =>
   intro j hj k sl0
   have hx:xs[j]?=some x:=by rw [← List.head?_drop,hj];rfl
   have hd:xs.drop (j+1)=l:=by rw [← List.drop_drop,hj];rfl
   obtain ⟨sl1,q⟩:=h j x hx sl0
   obtain ⟨sl2,q2⟩:=ih (j+1) hd (k+1) sl1
   refine ⟨sl2,?_⟩
   rw [rounds_cons,q]
   simp only [Option.bind_some,q2,List.length_cons]
   rw [show j+1+l.length=j+(l.length+1) by omega]
 obtain ⟨sl1,q⟩:=key xs 0 (by simp) 0 (st.slots.map AV.froze)
 rw [← hB,Nat.zero_add] at q
 have r:=rng_all hg hi q
 exact r
theorem clean_upP {keep post:List Nat} {id nb:Nat} {b:VCode} (n:Nat) (P:Nat→Prop) (S:Nat→St) (R:Nat→Option (Ex × St)) {st:St} (h:st.head keep st.boxes.length=some (S 0)) (hP:P 0) (hS:∀ i,(S i).boxes.length=nb) (hh:∀ i,(S i).head keep nb=some (S i))
  (step:∀ i rb,i<n→P i→(P (i+1)→∀ s,s.head keep nb=some (S (i+1))→tailOf env id post nb (den env rb s)=R (i+1))→tailOf env id post nb ((den env b (S i)).bind (next env rb))=R i)
  (last:∀ rb,P n→tailOf env id post nb ((den env b (S n)).bind (next env rb))=R n) :
  den env (.clean keep post (.block id (.loop keep b))) st=R 0:=by
 refine clean_rec S R (fun i=>i≤n∧P i) (fun i=>n - i) 0 h ⟨Nat.zero_le _,hP⟩ hS hh fun i rb hi ih=>?_
 by_cases hn:i=n
 ·subst hn;exact last rb hi.2
 ·exact step i rb (by omega) hi.2 fun hp s hs=>ih (i+1) (by omega) ⟨by omega,hp⟩ s hs
noncomputable def rassign (env:Env) (body:VCode) (nb:Nat):Ex × St→Option (Ex × St)
 |(.normal,st)=>(den env body st).bind fun p=>match p with
  |(.normal,st)=>if nb≤st.boxes.length then some (.normal,{ st with boxes:=st.boxes.take nb }) else none
  |(.thr _ _,_)=>none
  |p=>some p
 |_=>none
def rend (nb:Nat):Ex × St→Option (Ex × St)
 |(.normal,st)=>if nb≤st.boxes.length then some (.normal,{ st with boxes:=st.boxes.take nb }) else none
 |(.thr _ _,_)=>none
 |p=>some p
theorem round1_eq (slots:List AV) (ps:List Nat) (assign body:VCode) (nb:Nat) (x:List PV) (st:St):round1 env slots ps assign body nb x st=(setParams slots ps x).bind fun sl=>(den env assign { st with slots:=sl }).bind (rassign env body nb):=by
 unfold round1
 rfl
theorem rassign_normal (body:VCode) (nb:Nat) (st:St):rassign env body nb (.normal,st)=(den env body st).bind (rend nb):=by
 rfl
theorem rend_normal (nb:Nat) (st:St):rend nb (.normal,st)=if nb≤st.boxes.length then some (.normal,{ st with boxes:=st.boxes.take nb }) else none:=(rfl)
theorem rend_exit (nb i:Nat) (st:St):rend nb (.exit i,st)=some (.exit i,st):=(rfl)
theorem rend_ret (nb:Nat) (st:St):rend nb (.ret,st)=some (.ret,st):=(rfl)
theorem setP_nil (slots:List AV):setParams slots [] []=some slots:=(rfl)
theorem setP_cons (slots:List AV) (p:Nat) (ps:List Nat) (v:PV) (vs:List PV):setParams slots (p :: ps) (v :: vs)=setParams (slots.set p (.pv v)) ps vs:=(rfl)
theorem froze_pv (v:PV):AV.froze (.pv v)=.pv v:=(rfl)
theorem froze_row (sz:Nat) (es:List PV):AV.froze (.row sz es)=.pv (.list sz es):=(rfl)
theorem froze_any:AV.froze .any=.any:=(rfl)
theorem froze_tup (k:Bool) (l:List AV):AV.froze (.tup k l)=.any:=(rfl)
theorem froze_ref (r:Root) (i j:Nat):AV.froze (.ref r i j)=.any:=(rfl)
theorem froze_pel (r:Root) (i j:Nat):AV.froze (.pel r i j)=.any:=(rfl)
theorem froze_pbox (i j:Nat):AV.froze (.pbox i j)=.pbox i j:=(rfl)
theorem froze_fn (f:Nat) (l:List AV):AV.froze (.fn f l)=.fn f l:=(rfl)
theorem froze_yld:AV.froze .yld=.yld:=(rfl)
end
def vRng:=And.intro @round1_eq (And.intro @rassign_normal (And.intro @rend_normal (And.intro @rend_exit (And.intro @rend_ret (And.intro @setP_nil (And.intro @setP_cons (And.intro @froze_pv (And.intro @froze_row (And.intro @froze_any (And.intro @froze_tup (And.intro @froze_ref (And.intro @froze_pel (And.intro @froze_pbox (And.intro @froze_fn (And.intro @froze_yld (And.intro @yfin_normal @yfin_ret))))))))))))))))
end Go.Proofs.YtioijcfcehhmdaaGreatDoor

namespace Go.Proofs.YtioijcfcehhmdaaGreatDoor
def look:List (Nat × AV)→Nat→AV
 |[],_=>.any
 |(j,v) :: l,i=>bcase (Nat.beq i j) v (look l i)
def sl (n:Nat) (l:List (Nat × AV)):List AV:=(List.range n).map (look l)
def mapA (f:AV→AV):List (Nat × AV)→List (Nat × AV)
 |[]=>[]
 |(j,v) :: l=>(j,f v) :: mapA f l
def keepA (l:List (Nat × AV)):List Nat→List (Nat × AV)
 |[]=>[]
 |k :: ks=>(k,look l k) :: keepA l ks
def argsA:Nat→List PV→List (Nat × AV)
 |_,[]=>[]
 |k,v :: l=>(k,.pv v) :: argsA (k+1) l
def lowA (nb:Nat):List (Nat × AV)→Bool
 |[]=>true
 |(_,v) :: l=>AV.low nb v&&lowA nb l
def insA (n:Nat):List Nat→Bool
 |[]=>true
 |k :: ks=>decide (k<n)&&insA n ks
theorem look_hit (i:Nat) (v:AV) (l:List (Nat × AV)):look ((i,v) :: l) i=v:=by
 show bcase (Nat.beq i i) v _=v
 rw [Nat.beq_refl];rfl
theorem look_nil (i:Nat):look [] i=.any:=(rfl)
theorem sl_get {n i:Nat} {l:List (Nat × AV)} (h':i<n):(sl n l).getD i .any=look l i:=by
 simp [sl,List.getD_eq_getElem?_getD,h']
theorem sl_some {n i:Nat} {l:List (Nat × AV)} (h':i<n):(sl n l)[i]?=some (look l i):=by
 simp [sl,h']
theorem look_cons (l:List (Nat × AV)) (i j:Nat) (v:AV):look ((j,v) :: l) i=if i=j then v else look l i:=by
 show bcase (Nat.beq i j) v _=_
 by_cases h:i=j
 ·subst h;rw [Nat.beq_refl,if_pos rfl];rfl
 ·rw [if_neg h]
  have:Nat.beq i j=false:=by
   cases e:Nat.beq i j with
   |false=>rfl
   |true=>exact absurd (Nat.eq_of_beq_eq_true e) h
  rw [this];rfl
theorem sl_set (n i:Nat) (v:AV) (l:List (Nat × AV)):(sl n l).set i v=sl n ((i,v) :: l):=by
 apply List.ext_getElem (by simp [sl])
 intro k h1 h2
 have hk:k<n:=by simpa [sl] using h2
 simp only [sl,List.getElem_set,List.getElem_map,List.getElem_range,look_cons]
 by_cases h:i=k
 ·subst h;simp
 ·rw [if_neg h,if_neg (fun e=>h e.symm)]
theorem look_skip {i j:Nat} {v:AV} {l:List (Nat × AV)} (h:(i==j)=false):look ((j,v) :: l) i=look l i:=by
 rw [look_cons,if_neg (by simpa using h)]
theorem look_mapA (f:AV→AV) (hf:f .any=.any):∀ (l:List (Nat × AV)) (i:Nat),look (mapA f l) i=f (look l i)
 |[],i=>hf.symm
 |(j,v) :: l,i=>by
  show look ((j,f v) :: mapA f l) i=_
  rw [look_cons,look_cons,look_mapA f hf l i]
  split<;>rfl
theorem sl_map {f:AV→AV} (hf:f .any=.any) (n:Nat) (l:List (Nat × AV)):(sl n l).map f=sl n (mapA f l):=by
 unfold sl
 rw [List.map_map]
 apply List.map_congr_left
 intro i _
 exact (look_mapA f hf l i).symm
theorem sl_kill (n d:Nat) (l:List (Nat × AV)):(sl n l).map (AV.kill d)=sl n (mapA (AV.kill d) l):=sl_map rfl n l
theorem sl_killc (n d:Nat) (l:List (Nat × AV)):(sl n l).map (AV.killCell d)=sl n (mapA (AV.killCell d) l):=sl_map rfl n l
theorem sl_froze (n:Nat) (l:List (Nat × AV)):(sl n l).map AV.froze=sl n (mapA AV.froze l):=sl_map rfl n l
theorem mapA_nil (f:AV→AV):mapA f []=[]:=(rfl)
theorem mapA_cons (f:AV→AV) (j:Nat) (v:AV) (l:List (Nat × AV)):mapA f ((j,v) :: l)=(j,f v) :: mapA f l:=(rfl)
theorem keepA_nil (l:List (Nat × AV)):keepA l []=[]:=(rfl)
theorem keepA_cons (l:List (Nat × AV)) (k:Nat) (ks:List Nat):keepA l (k :: ks)=(k,look l k) :: keepA l ks:=(rfl)
theorem lowA_nil (nb:Nat):lowA nb []=true:=(rfl)
theorem lowA_cons (nb k:Nat) (v:AV) (l:List (Nat × AV)):lowA nb ((k,v) :: l)=(AV.low nb v&&lowA nb l):=(rfl)
theorem insA_nil (n:Nat):insA n []=true:=(rfl)
theorem insA_cons (n k:Nat) (l:List Nat):insA n (k :: l)=(decide (k<n)&&insA n l):=(rfl)
theorem argsA_nil (k:Nat):argsA k []=[]:=(rfl)
theorem argsA_cons (k:Nat) (v:PV) (l:List PV):argsA k (v :: l)=(k,.pv v) :: argsA (k+1) l:=(rfl)
theorem look_keepA (l:List (Nat × AV)):∀ (ks:List Nat) (i:Nat),look (keepA l ks) i=if ks.contains i then look l i else .any
 |[],i=>rfl
 |k :: ks,i=>by
  rw [keepA_cons,look_cons,look_keepA l ks i,List.contains_cons]
  by_cases h:i=k
  ·subst h;simp
  ·have:(i==k)=false:=by simpa using h
   rw [if_neg h,this,Bool.false_or]
theorem lowA_iff (nb n:Nat) (l:List (Nat × AV)):∀ ks:List Nat,insA n ks=true→(lowA nb (keepA l ks)=true ↔ ∀ k∈ks,(look l k).low nb=true)
 |[],_=>by simp [keepA,lowA]
 |k :: ks,h=>by
  rw [insA_cons,Bool.and_eq_true] at h
  rw [keepA_cons,lowA_cons,Bool.and_eq_true,lowA_iff nb n l ks h.2]
  simp
theorem head_sl {n nb:Nat} {l:List (Nat × AV)} {keep:List Nat} {bx:List Box} {ys:List (List PV)} {sp:Option (Option Nat)} (h:insA n keep=true) (hb:nb≤bx.length) (hl:lowA nb (keepA l keep)=true) :
  St.head ⟨sl n l,bx,ys,sp⟩ keep nb=some ⟨sl n (keepA l keep),bx.take nb,ys,sp⟩:=by
 have e:((sl n l).zipIdx.map fun (v,i)=>if keep.contains i then v else AV.any)=sl n (keepA l keep):=by
  apply List.ext_getElem (by simp [sl])
  intro i h1 h2
  simp only [sl,List.getElem_map,List.getElem_zipIdx,List.getElem_range,look_keepA,Nat.zero_add]
 unfold St.head
 simp only
 rw [e,if_pos]
 rw [Bool.and_eq_true,decide_eq_true_eq]
 refine ⟨?_,hb⟩
 rw [List.all_eq_true]
 intro v hv
 unfold sl at hv
 obtain ⟨i,hi,rfl⟩:=List.mem_map.1 hv
 rw [look_keepA]
 split
 ·rename_i hc
  exact (lowA_iff nb n l keep h).1 hl i (by simpa using hc)
 ·rfl
theorem clean_sl {n nb:Nat} {e:Ex} {l:List (Nat × AV)} {keep:List Nat} {bx:List Box} {ys:List (List PV)} {sp:Option (Option Nat)} (h:insA n keep=true) (hb:nb≤bx.length) (hl:lowA nb (keepA l keep)=true) :
  cleanEnd keep nb (e,⟨sl n l,bx,ys,sp⟩)=some (e,⟨sl n (keepA l keep),bx.take nb,ys,sp⟩):=by
 unfold cleanEnd
 simp only
 rw [head_sl h hb hl]
 rfl
theorem look_argsA:∀ (l:List PV) (k i:Nat),look (argsA k l) i=if k≤i then ((l[i - k]?).map AV.pv).getD .any else .any:=by
 intro l
 induction l with
 |nil=>intro k i;simp [argsA,look]
 |cons v l ih =>
  intro k i
  rw [argsA_cons,look_cons,ih]
  by_cases h1:i=k
  ·subst h1;simp
  ·rw [if_neg h1]
   by_cases h2:k≤i
   ·rw [if_pos (by omega),if_pos h2,show i - k=(i - (k+1))+1 by omega,List.getElem?_cons_succ]
   ·rw [if_neg (by omega),if_neg h2]
theorem startL_sl {n:Nat} {x:LArg} {args:List PV} (hn:args.length+1≤n):startL n x args=⟨sl n ((0,x.av) :: argsA 1 args),x.boxes,[],none⟩:=by
 unfold startL
 congr 1
 apply List.ext_getElem (by simp [sl];omega)
 intro i h1 h2
 simp only [sl,List.getElem_map,List.getElem_range,look_cons,look_argsA]
 cases i with
 |zero=>simp
 |succ i =>
  rw [List.getElem_cons_succ,if_neg (by omega),if_pos (by omega),show i+1 - 1=i by omega]
  by_cases hi:i<args.length
  ·rw [List.getElem_append_left (by simpa using hi)]
   simp [hi]
  ·rw [List.getElem_append_right (by simp;omega)]
   simp [hi]
theorem start_sl {n:Nat} {args:List PV} (hn:args.length≤n):start n args=⟨sl n (argsA 0 args),[],[],none⟩:=by
 have key:=look_argsA
 unfold start
 congr 1
 apply List.ext_getElem (by simp [sl];omega)
 intro i h1 h2
 simp only [sl,List.getElem_map,List.getElem_range,key,Nat.zero_le,if_true,Nat.sub_zero]
 by_cases hi:i<args.length
 ·rw [List.getElem_append_left (by simpa using hi)]
  simp [hi]
 ·rw [List.getElem_append_right (by simp;omega)]
  simp [hi]
theorem low_pv (nb:Nat) (v:PV):AV.low nb (.pv v)=true:=(rfl)
theorem low_any (nb:Nat):AV.low nb .any=true:=(rfl)
theorem low_yld (nb:Nat):AV.low nb .yld=true:=(rfl)
theorem low_row (nb sz:Nat) (es:List PV):AV.low nb (.row sz es)=true:=(rfl)
theorem low_pbox (nb o j:Nat):AV.low nb (.pbox o j)=decide (o<nb):=(rfl)
theorem low_refs (nb t off len:Nat):AV.low nb (.ref (.slot t) off len)=true:=(rfl)
theorem low_refc (nb o j off len:Nat):AV.low nb (.ref (.cell o j) off len)=decide (o<nb):=(rfl)
theorem low_pels (nb t i j:Nat):AV.low nb (.pel (.slot t) i j)=true:=(rfl)
theorem low_pelc (nb o q i j:Nat):AV.low nb (.pel (.cell o q) i j)=decide (o<nb):=(rfl)
theorem low_fn (nb f:Nat) (caps:List AV):AV.low nb (.fn f caps)=caps.all fun c=>match c with
  |.pv _=>true
  |.pbox o _=>o<nb
  |_=>false:=(rfl)
def slAll:=And.intro @look_hit (And.intro @look_skip (And.intro @look_nil (And.intro @sl_get (And.intro @sl_some (And.intro @sl_set (And.intro @sl_kill (And.intro @sl_killc (And.intro @sl_froze (And.intro @mapA_nil (And.intro @mapA_cons (And.intro @keepA_nil (And.intro @keepA_cons (And.intro @lowA_nil (And.intro @lowA_cons (And.intro @insA_nil (And.intro @insA_cons (And.intro @argsA_nil (And.intro @argsA_cons (And.intro @head_sl (And.intro @clean_sl (And.intro @start_sl (And.intro @startL_sl (And.intro @low_pv (And.intro @low_any (And.intro @low_yld (And.intro @low_row (And.intro @low_pbox (And.intro @low_refs (And.intro @low_refc (And.intro @low_pels (And.intro @low_pelc (@low_fn))))))))))))))))))))))))))))))))
end Go.Proofs.YtioijcfcehhmdaaGreatDoor
