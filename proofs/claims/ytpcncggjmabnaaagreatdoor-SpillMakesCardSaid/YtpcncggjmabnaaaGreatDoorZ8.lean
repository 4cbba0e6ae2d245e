/-
  Part 8 of the texts that the statement stands on.
-/
import Derived.Test.YtpcncggjmabnaaaGreatDoorZ7
import Derived.Test.YtpcncggjmabnaaaGreatDoorRows
import Derived.Lib.LaidTab
import Derived.LaidByTextLater
set_option linter.all false
namespace Go.Proofs.YtpcncggjmabnaaaGreatDoor
def Ok1 (P:Program) (f:Nat):VDef→Prop
 |.code fn=>fnOk P f fn=true
 |.ext g=>∀ args rs,g args=some rs→callable P f=true∧CallOk P f args rs
 |.srt h=>callable P f=true∧SortOk P f h
 |.thr h=>(∀ args,h args=some none→callable P f=true∧CallOk P f args [])∧∀ args t n,h args=some (some (t,n))→callable P f=true∧ThrOk P f args t n
 |.dfn fn=>dfnOk P f fn=true∧RescOk P fn.resc fn.t∧∀ d g zs,fn.clos=some (d,g,zs)→ClosOk P g (zs.map (·.2))
theorem ok3:Ok1 Tryz.prog 3 (.code fn3):=(by kernel_rfl:fnOk Tryz.prog 3 fn3=true)
theorem ok10:Ok1 Tryz.prog 10 (.code fn10):=(by kernel_rfl:fnOk Tryz.prog 10 fn10=true)
theorem ok11:Ok1 Tryz.prog 11 (.code fn11):=(by kernel_rfl:fnOk Tryz.prog 11 fn11=true)
theorem ok12:Ok1 Tryz.prog 12 (.code fn12):=(by kernel_rfl:fnOk Tryz.prog 12 fn12=true)
theorem ok13:Ok1 Tryz.prog 13 (.code fn13):=(by kernel_rfl:fnOk Tryz.prog 13 fn13=true)
theorem ok16:Ok1 Tryz.prog 16 (.code fn16):=(by kernel_rfl:fnOk Tryz.prog 16 fn16=true)
theorem ok18:Ok1 Tryz.prog 18 (.code fn18):=(by kernel_rfl:fnOk Tryz.prog 18 fn18=true)
theorem ok20:Ok1 Tryz.prog 20 (.code fn20):=(by kernel_rfl:fnOk Tryz.prog 20 fn20=true)
theorem ok22:Ok1 Tryz.prog 22 (.code fn22):=(by kernel_rfl:fnOk Tryz.prog 22 fn22=true)
theorem ok23:Ok1 Tryz.prog 23 (.code fn23):=(by kernel_rfl:fnOk Tryz.prog 23 fn23=true)
theorem ok26:Ok1 Tryz.prog 26 (.code fn26):=(by kernel_rfl:fnOk Tryz.prog 26 fn26=true)
theorem ok31:Ok1 Tryz.prog 31 (.code fn31):=(by kernel_rfl:fnOk Tryz.prog 31 fn31=true)
theorem ok36:Ok1 Tryz.prog 36 (.code fn36):=(by kernel_rfl:fnOk Tryz.prog 36 fn36=true)
theorem ok37:Ok1 Tryz.prog 37 (.code fn37):=(by kernel_rfl:fnOk Tryz.prog 37 fn37=true)
theorem ok38:Ok1 Tryz.prog 38 (.code fn38):=(by kernel_rfl:fnOk Tryz.prog 38 fn38=true)
theorem ok39:Ok1 Tryz.prog 39 (.ext (cloneX 1)):=clone39_ok
theorem ok40:Ok1 Tryz.prog 40 (.code fn40):=(by kernel_rfl:fnOk Tryz.prog 40 fn40=true)
theorem ok41:Ok1 Tryz.prog 41 (.code fn41):=(by kernel_rfl:fnOk Tryz.prog 41 fn41=true)
theorem ok42:Ok1 Tryz.prog 42 (.code fn42):=(by kernel_rfl:fnOk Tryz.prog 42 fn42=true)
theorem ok43:Ok1 Tryz.prog 43 (.code fn43):=(by kernel_rfl:fnOk Tryz.prog 43 fn43=true)
theorem ok44:Ok1 Tryz.prog 44 (.code fn44):=(by kernel_rfl:fnOk Tryz.prog 44 fn44=true)
theorem ok45:Ok1 Tryz.prog 45 (.code fn45):=(by kernel_rfl:fnOk Tryz.prog 45 fn45=true)
theorem ok48:Ok1 Tryz.prog 48 (.code fn48):=(by kernel_rfl:fnOk Tryz.prog 48 fn48=true)
theorem ok49:Ok1 Tryz.prog 49 (.code fn49):=(by kernel_rfl:fnOk Tryz.prog 49 fn49=true)
theorem ok52:Ok1 Tryz.prog 52 (.code fn52):=(by kernel_rfl:fnOk Tryz.prog 52 fn52=true)
theorem ok53:Ok1 Tryz.prog 53 (.code fn53):=(by kernel_rfl:fnOk Tryz.prog 53 fn53=true)
theorem ok54:Ok1 Tryz.prog 54 (.code fn54):=(by kernel_rfl:fnOk Tryz.prog 54 fn54=true)
theorem ok55:Ok1 Tryz.prog 55 (.code fn55):=(by kernel_rfl:fnOk Tryz.prog 55 fn55=true)
theorem ok56:Ok1 Tryz.prog 56 (.code fn56):=(by kernel_rfl:fnOk Tryz.prog 56 fn56=true)
theorem ok62:Ok1 Tryz.prog 62 (.code fn62):=(by kernel_rfl:fnOk Tryz.prog 62 fn62=true)
theorem ok68:Ok1 Tryz.prog 68 (.code fn68):=(by kernel_rfl:fnOk Tryz.prog 68 fn68=true)
theorem ok69:Ok1 Tryz.prog 69 (.code fn69):=(by kernel_rfl:fnOk Tryz.prog 69 fn69=true)
theorem ok70:Ok1 Tryz.prog 70 (.code fn70):=(by kernel_rfl:fnOk Tryz.prog 70 fn70=true)
theorem ok71:Ok1 Tryz.prog 71 (.code fn71):=(by kernel_rfl:fnOk Tryz.prog 71 fn71=true)
theorem ok72:Ok1 Tryz.prog 72 (.code fn72):=(by kernel_rfl:fnOk Tryz.prog 72 fn72=true)
theorem ok73:Ok1 Tryz.prog 73 (.code fn73):=(by kernel_rfl:fnOk Tryz.prog 73 fn73=true)
theorem ok74:Ok1 Tryz.prog 74 (.code fn74):=(by kernel_rfl:fnOk Tryz.prog 74 fn74=true)
theorem ok75:Ok1 Tryz.prog 75 (.code fn75):=(by kernel_rfl:fnOk Tryz.prog 75 fn75=true)
theorem ok76:Ok1 Tryz.prog 76 (.code fn76):=(by kernel_rfl:fnOk Tryz.prog 76 fn76=true)
theorem ok77:Ok1 Tryz.prog 77 (.code fn77):=(by kernel_rfl:fnOk Tryz.prog 77 fn77=true)
theorem ok78:Ok1 Tryz.prog 78 (.code fn78):=(by kernel_rfl:fnOk Tryz.prog 78 fn78=true)
theorem ok79:Ok1 Tryz.prog 79 (.code fn79):=(by kernel_rfl:fnOk Tryz.prog 79 fn79=true)
theorem ok80:Ok1 Tryz.prog 80 (.ext (cloneX 1)):=clone80_ok
theorem ok86:Ok1 Tryz.prog 86 (.ext (cloneX 8)):=clone86_ok
theorem ok87:Ok1 Tryz.prog 87 (.code fn87):=(by kernel_rfl:fnOk Tryz.prog 87 fn87=true)
theorem ok88:Ok1 Tryz.prog 88 (.code fn88):=(by kernel_rfl:fnOk Tryz.prog 88 fn88=true)
theorem ok89:Ok1 Tryz.prog 89 (.code fn89):=(by kernel_rfl:fnOk Tryz.prog 89 fn89=true)
theorem ok90:Ok1 Tryz.prog 90 (.code fn90):=(by kernel_rfl:fnOk Tryz.prog 90 fn90=true)
theorem ok91:Ok1 Tryz.prog 91 (.code fn91):=(by kernel_rfl:fnOk Tryz.prog 91 fn91=true)
theorem ok93:Ok1 Tryz.prog 93 (.code fn93):=(by kernel_rfl:fnOk Tryz.prog 93 fn93=true)
theorem ok94:Ok1 Tryz.prog 94 (.code fn94):=(by kernel_rfl:fnOk Tryz.prog 94 fn94=true)
theorem ok95:Ok1 Tryz.prog 95 (.code fn95):=(by kernel_rfl:fnOk Tryz.prog 95 fn95=true)
theorem ok101:Ok1 Tryz.prog 101 (.code fn101):=(by kernel_rfl:fnOk Tryz.prog 101 fn101=true)
theorem ok102:Ok1 Tryz.prog 102 (.code fn102):=(by kernel_rfl:fnOk Tryz.prog 102 fn102=true)
theorem ok103:Ok1 Tryz.prog 103 (.code fn103):=(by kernel_rfl:fnOk Tryz.prog 103 fn103=true)
theorem ok104:Ok1 Tryz.prog 104 (.code fn104):=(by kernel_rfl:fnOk Tryz.prog 104 fn104=true)
theorem ok105:Ok1 Tryz.prog 105 (.code fn105):=(by kernel_rfl:fnOk Tryz.prog 105 fn105=true)
theorem ok106:Ok1 Tryz.prog 106 (.code fn106):=(by kernel_rfl:fnOk Tryz.prog 106 fn106=true)
theorem ok107:Ok1 Tryz.prog 107 (.code fn107):=(by kernel_rfl:fnOk Tryz.prog 107 fn107=true)
theorem ok108:Ok1 Tryz.prog 108 (.code fn108):=(by kernel_rfl:fnOk Tryz.prog 108 fn108=true)
theorem ok109:Ok1 Tryz.prog 109 (.code fn109):=(by kernel_rfl:fnOk Tryz.prog 109 fn109=true)
theorem ok112:Ok1 Tryz.prog 112 (.code fn112):=(by kernel_rfl:fnOk Tryz.prog 112 fn112=true)
theorem ok113:Ok1 Tryz.prog 113 (.code fn113):=(by kernel_rfl:fnOk Tryz.prog 113 fn113=true)
theorem ok114:Ok1 Tryz.prog 114 (.code fn114):=(by kernel_rfl:fnOk Tryz.prog 114 fn114=true)
theorem ok118:Ok1 Tryz.prog 118 (.code fn118):=(by kernel_rfl:fnOk Tryz.prog 118 fn118=true)
theorem ok119:Ok1 Tryz.prog 119 (.code fn119):=(by kernel_rfl:fnOk Tryz.prog 119 fn119=true)
theorem ok120:Ok1 Tryz.prog 120 (.code fn120):=(by kernel_rfl:fnOk Tryz.prog 120 fn120=true)
theorem ok121:Ok1 Tryz.prog 121 (.code fn121):=(by kernel_rfl:fnOk Tryz.prog 121 fn121=true)
theorem ok122:Ok1 Tryz.prog 122 (.code fn122):=(by kernel_rfl:fnOk Tryz.prog 122 fn122=true)
theorem ok124:Ok1 Tryz.prog 124 (.code fn124):=(by kernel_rfl:fnOk Tryz.prog 124 fn124=true)
theorem ok125:Ok1 Tryz.prog 125 (.code fn125):=(by kernel_rfl:fnOk Tryz.prog 125 fn125=true)
theorem ok126:Ok1 Tryz.prog 126 (.ext tzX):=tz_ok
theorem ok128:Ok1 Tryz.prog 128 (.code fn128):=(by kernel_rfl:fnOk Tryz.prog 128 fn128=true)
theorem ok129:Ok1 Tryz.prog 129 (.code fn129):=(by kernel_rfl:fnOk Tryz.prog 129 fn129=true)
theorem ok130:Ok1 Tryz.prog 130 (.code fn130):=(by kernel_rfl:fnOk Tryz.prog 130 fn130=true)
theorem ok131:Ok1 Tryz.prog 131 (.code fn131):=(by kernel_rfl:fnOk Tryz.prog 131 fn131=true)
theorem ok132:Ok1 Tryz.prog 132 (.code fn132):=(by kernel_rfl:fnOk Tryz.prog 132 fn132=true)
theorem ok133:Ok1 Tryz.prog 133 (.code fn133):=(by kernel_rfl:fnOk Tryz.prog 133 fn133=true)
theorem ok134:Ok1 Tryz.prog 134 (.code fn134):=(by kernel_rfl:fnOk Tryz.prog 134 fn134=true)
theorem ok135:Ok1 Tryz.prog 135 (.code fn135):=(by kernel_rfl:fnOk Tryz.prog 135 fn135=true)
theorem ok136:Ok1 Tryz.prog 136 (.srt (sortEndsX 137)):=sortEnds_ok
theorem ok137:Ok1 Tryz.prog 137 (.code fn137):=(by kernel_rfl:fnOk Tryz.prog 137 fn137=true)
theorem ok138:Ok1 Tryz.prog 138 (.code fn138):=(by kernel_rfl:fnOk Tryz.prog 138 fn138=true)
theorem ok141:Ok1 Tryz.prog 141 (.code fn141):=(by kernel_rfl:fnOk Tryz.prog 141 fn141=true)
theorem tabOk:∀ p∈tab,Ok1 Tryz.prog p.1 p.2:=by
 unfold tab
 exact List.forall_mem_cons.2 ⟨ok3,List.forall_mem_cons.2 ⟨ok10,List.forall_mem_cons.2 ⟨ok11,List.forall_mem_cons.2 ⟨ok12,List.forall_mem_cons.2 ⟨ok13,List.forall_mem_cons.2 ⟨ok16,List.forall_mem_cons.2 ⟨ok18,List.forall_mem_cons.2 ⟨ok20,List.forall_mem_cons.2 ⟨ok22,List.forall_mem_cons.2 ⟨ok23,List.forall_mem_cons.2 ⟨ok26,List.forall_mem_cons.2 ⟨ok31,List.forall_mem_cons.2 ⟨ok36,List.forall_mem_cons.2 ⟨ok37,List.forall_mem_cons.2 ⟨ok38,List.forall_mem_cons.2 ⟨ok39,List.forall_mem_cons.2 ⟨ok40,List.forall_mem_cons.2 ⟨ok41,List.forall_mem_cons.2 ⟨ok42,List.forall_mem_cons.2 ⟨ok43,List.forall_mem_cons.2 ⟨ok44,List.forall_mem_cons.2 ⟨ok45,List.forall_mem_cons.2 ⟨ok48,List.forall_mem_cons.2 ⟨ok49,List.forall_mem_cons.2 ⟨ok52,List.forall_mem_cons.2 ⟨ok53,List.forall_mem_cons.2 ⟨ok54,List.forall_mem_cons.2 ⟨ok55,List.forall_mem_cons.2 ⟨ok56,List.forall_mem_cons.2 ⟨ok62,List.forall_mem_cons.2 ⟨ok68,List.forall_mem_cons.2 ⟨ok69,List.forall_mem_cons.2 ⟨ok70,List.forall_mem_cons.2 ⟨ok71,List.forall_mem_cons.2 ⟨ok72,List.forall_mem_cons.2 ⟨ok73,List.forall_mem_cons.2 ⟨ok74,List.forall_mem_cons.2 ⟨ok75,List.forall_mem_cons.2 ⟨ok76,List.forall_mem_cons.2 ⟨ok77,List.forall_mem_cons.2 ⟨ok78,List.forall_mem_cons.2 ⟨ok79,List.forall_mem_cons.2 ⟨ok80,List.forall_mem_cons.2 ⟨ok86,List.forall_mem_cons.2 ⟨ok87,List.forall_mem_cons.2 ⟨ok88,List.forall_mem_cons.2 ⟨ok89,List.forall_mem_cons.2 ⟨ok90,List.forall_mem_cons.2 ⟨ok91,List.forall_mem_cons.2 ⟨ok93,List.forall_mem_cons.2 ⟨ok94,List.forall_mem_cons.2 ⟨ok95,List.forall_mem_cons.2 ⟨ok101,List.forall_mem_cons.2 ⟨ok102,List.forall_mem_cons.2 ⟨ok103,List.forall_mem_cons.2 ⟨ok104,List.forall_mem_cons.2 ⟨ok105,List.forall_mem_cons.2 ⟨ok106,List.forall_mem_cons.2 ⟨ok107,List.forall_mem_cons.2 ⟨ok108,List.forall_mem_cons.2 ⟨ok109,List.forall_mem_cons.2 ⟨ok112,List.forall_mem_cons.2 ⟨ok113,List.forall_mem_cons.2 ⟨ok114,List.forall_mem_cons.2 ⟨ok118,List.forall_mem_cons.2 ⟨ok119,List.forall_mem_cons.2 ⟨ok120,List.forall_mem_cons.2 ⟨ok121,List.forall_mem_cons.2 ⟨ok122,List.forall_mem_cons.2 ⟨ok124,List.forall_mem_cons.2 ⟨ok125,List.forall_mem_cons.2 ⟨ok126,List.forall_mem_cons.2 ⟨ok128,List.forall_mem_cons.2 ⟨ok129,List.forall_mem_cons.2 ⟨ok130,List.forall_mem_cons.2 ⟨ok131,List.forall_mem_cons.2 ⟨ok132,List.forall_mem_cons.2 ⟨ok133,List.forall_mem_cons.2 ⟨ok134,List.forall_mem_cons.2 ⟨ok135,List.forall_mem_cons.2 ⟨ok136,List.forall_mem_cons.2 ⟨ok137,List.forall_mem_cons.2 ⟨ok138,List.forall_mem_cons.2 ⟨ok141,fun p hp=>by cases hp⟩⟩⟩⟩⟩⟩⟩⟩⟩⟩⟩⟩⟩⟩⟩⟩⟩⟩⟩⟩⟩⟩⟩⟩⟩⟩⟩⟩⟩⟩⟩⟩⟩⟩⟩⟩⟩⟩⟩⟩⟩⟩⟩⟩⟩⟩⟩⟩⟩⟩⟩⟩⟩⟩⟩⟩⟩⟩⟩⟩⟩⟩⟩⟩⟩⟩⟩⟩⟩⟩⟩⟩⟩⟩⟩⟩⟩⟩⟩⟩⟩⟩⟩⟩
theorem lookup_mem:∀ {l:List (Nat × VDef)} {f:Nat} {d:VDef},l.lookup f=some d→(f,d)∈l
 |(k,v) :: l,f,d,h=>by
  rw [List.lookup_cons] at h
  split at h
  ·rename_i e
   have e:f=k:=by simpa using e
   cases h;subst e;simp
  ·exact List.mem_cons_of_mem _ (lookup_mem h)
theorem envOk:EnvOk Tryz.prog env:=fun f d h=>by
 have:=tabOk _ (lookup_mem h)
 cases d<;>exact this
end Go.Proofs.YtpcncggjmabnaaaGreatDoor

namespace Go.Proofs.YtpcncggjmabnaaaGreatDoor
open Go.RowKit
theorem laidTabEq:(Rows.laid_math_bits_deBruijn64tab:DataW Unit)=Lib.tabData .u8 (Lib.deBruijn64tab.map Int.ofNat):=by kernel_rfl
theorem tabG:Tryz.prog.globalNamed "math/bits.deBruijn64tab"=some 0:=by kernel_rfl
theorem globIn_of_laid {w:World} {l:List (String × DataW Unit)} (hl:l=[("math/bits.deBruijn64tab",Rows.laid_math_bits_deBruijn64tab)]) (h:laidMetH Tryz.prog l w):GlobIn w:=by
 subst hl
 rw [MakeChecks.laidMetH_plain _ _ _ (by kernel_rfl),laidTabEq] at h
 have ht:Lib.TabIs Tryz.prog w "math/bits.deBruijn64tab" .u8 (Lib.deBruijn64tab.map Int.ofNat) :=
  Lib.tabIs_of_head (t:=185) (e:=5) (n:=64) tabG (by kernel_rfl) (by kernel_rfl) (by kernel_rfl) (by kernel_rfl) (by kernel_rfl) h
 have hc:∀ i,i<64→w.cell? ⟨0,i,none⟩=some (.int .u8 ((Lib.deBruijn64tab.map Int.ofNat).getD i 0)):=fun i hi=>ht.cell tabG i (by simpa [Lib.deBruijn64tab] using hi)
 have hC:Cellish w 0:=cellish_of (hc 0 (by decide))
 intro p hp
 obtain rfl:p=_:=List.mem_singleton.1 hp
 refine .iptr _ 0 _ 0 (fun i=>.int .u8 ((Lib.deBruijn64tab.map Int.ofNat).getD i 0)) (if_pos hC.lt) hC (fun k x hk=>?_) (fun k x hk=>?_)
 ·have hk':=(List.getElem?_eq_some_iff.1 hk).1
  rw [Nat.zero_add]
  exact ⟨hc k (by simpa [Lib.deBruijn64tab] using hk'),rfl⟩
 ·simp only [List.getElem?_map] at hk
  cases e:Lib.deBruijn64tab[k]? with
  |none=>rw [e] at hk;cases hk
  |some n =>
   rw [e] at hk;cases hk
   have:(Lib.deBruijn64tab.map Int.ofNat).getD k 0=(n:Int):=by simp [List.getD_eq_getElem?_getD,e]
   rw [this]
   exact .int _ _
end Go.Proofs.YtpcncggjmabnaaaGreatDoor

namespace Go.Proofs.YtpcncggjmabnaaaGreatDoor.V
open Go.RowKit Go.ChangeShapes Go.WideShapes Go.ChangeAt
theorem Tryz.ownKnobV:ownKnob Tryz.prog.godebug=none:=by kernel_rfl
theorem Tryz.laidOutV:laidOutB Tryz.prog=true:=by kernel_rfl
theorem slist {α:Type} {n:Nat} {S:List PV→Prop} {wr:List PV→PV} {enc:α→PV} {ok:α→Prop} (hS:∀ ps,S ps→∃ a,ok a∧wr ps=enc a) {q:PV} (h:SList n S wr [q]):∃ l:List α,(∀ a∈l,ok a)∧q=.list n (l.map enc):=by
 obtain ⟨es,h1,h2⟩:=h
 cases h1
 have:∀ es:List PV,(∀ x∈es,∃ q,S q∧x=wr q)→∃ l:List α,(∀ a∈l,ok a)∧es=l.map enc:=by
  intro es
  induction es with
  |nil=>exact fun _=>⟨[],by simp,rfl⟩
  |cons e es ih =>
   intro h
   obtain ⟨q,h3,h4⟩:=h e (by simp)
   obtain ⟨a,h5,h6⟩:=hS q h3
   obtain ⟨l,h7,h8⟩:=ih fun x hx=>h x (by simp [hx])
   exact ⟨a :: l,by simp;exact ⟨h5,h7⟩,by rw [h4,h6,h8];rfl⟩
 obtain ⟨l,h3,h4⟩:=this es h2
 exact ⟨l,h3,by rw [h4]⟩
theorem Tryz.rdInt:RdsC Tryz.prog 3 1 (SInt .i64):=RdsC.int Tryz.underlying3 (by kernel_rfl)
end Go.Proofs.YtpcncggjmabnaaaGreatDoor.V

namespace Go.Proofs.YtpcncggjmabnaaaGreatDoor
open V
open Go.RowKit Go.ChangeShapes Go.WideShapes Go.ChangeAt
def SInts8:List PV→Prop:=SList 1 (SInt .i64) wrS
theorem sints8 {q:PV} (h:SInts8 [q]):∃ l:List Int,q=.list 1 (l.map eI):=by
 obtain ⟨l,_,e⟩:=slist (enc:=eI) (ok:=fun _=>True) (fun ps h=>by
  obtain ⟨n,h1,rfl⟩:=h
  exact ⟨n,trivial,rfl⟩) h
 exact ⟨l,e⟩
theorem Tryz.rdInts8:RdsC Tryz.prog 22 1 SInts8:=RdsC.list Tryz.underlying22 (by kernel_rfl) Tryz.rdInt (by decide) (fun _ h _=>by obtain ⟨n,_,rfl⟩:=h;rfl)
end Go.Proofs.YtpcncggjmabnaaaGreatDoor

namespace Go.Proofs.YtpcncggjmabnaaaGreatDoor
open V
open Go.RowKit Go.ChangeShapes Go.WideShapes Go.ChangeAt
end Go.Proofs.YtpcncggjmabnaaaGreatDoor

namespace Go.Proofs.YtpcncggjmabnaaaGreatDoor
open V
open Go.RowKit Go.ChangeShapes Go.WideShapes Go.ChangeAt
theorem sintq {q:PV} (h:SInt .i64 [q]):∃ n,q=.int .i64 n:=by
 obtain ⟨n,_,e⟩:=h
 cases e
 exact ⟨n,rfl⟩
end Go.Proofs.YtpcncggjmabnaaaGreatDoor
