/-
  Part 11 of the texts that the statement stands on.
-/
import Derived.Test.YtpcncggjmabnaaaGreatDoorZ10
import Derived.Test.YtpcncggjmabnaaaGreatDoorRows
import Derived.Lib.LaidTab
import Derived.LaidByTextLater
import Derived.SizedLaws
set_option linter.all false
namespace Go.Proofs.YtpcncggjmabnaaaGreatDoor
def Ok1 (P:Program) (f:Nat):VDef→Prop
 |.code fn=>fnOk P f fn=true
 |.ext g=>∀ args rs,g args=some rs→callable P f=true∧CallOk P f args rs
 |.srt h=>callable P f=true∧SortOk P f h
 |.thr h=>(∀ args,h args=some none→callable P f=true∧CallOk P f args [])∧∀ args t n,h args=some (some (t,n))→callable P f=true∧ThrOk P f args t n
 |.dfn fn=>dfnOk P f fn=true∧RescOk P fn.resc fn.t∧∀ d g zs,fn.clos=some (d,g,zs)→ClosOk P g (zs.map (·.2))
theorem ok8:Ok1 Tryz.prog 8 (.code fn8):=(by kernel_rfl:fnOk Tryz.prog 8 fn8=true)
theorem ok10:Ok1 Tryz.prog 10 (.code fn10):=(by kernel_rfl:fnOk Tryz.prog 10 fn10=true)
theorem ok11:Ok1 Tryz.prog 11 (.code fn11):=(by kernel_rfl:fnOk Tryz.prog 11 fn11=true)
theorem ok15:Ok1 Tryz.prog 15 (.code fn15):=(by kernel_rfl:fnOk Tryz.prog 15 fn15=true)
theorem ok16:Ok1 Tryz.prog 16 (.code fn16):=(by kernel_rfl:fnOk Tryz.prog 16 fn16=true)
theorem ok18:Ok1 Tryz.prog 18 (.code fn18):=(by kernel_rfl:fnOk Tryz.prog 18 fn18=true)
theorem ok20:Ok1 Tryz.prog 20 (.code fn20):=(by kernel_rfl:fnOk Tryz.prog 20 fn20=true)
theorem ok23:Ok1 Tryz.prog 23 (.code fn23):=(by kernel_rfl:fnOk Tryz.prog 23 fn23=true)
theorem ok26:Ok1 Tryz.prog 26 (.code fn26):=(by kernel_rfl:fnOk Tryz.prog 26 fn26=true)
theorem ok28:Ok1 Tryz.prog 28 (.code fn28):=(by kernel_rfl:fnOk Tryz.prog 28 fn28=true)
theorem ok31:Ok1 Tryz.prog 31 (.code fn31):=(by kernel_rfl:fnOk Tryz.prog 31 fn31=true)
theorem ok32:Ok1 Tryz.prog 32 (.code fn32):=(by kernel_rfl:fnOk Tryz.prog 32 fn32=true)
theorem ok33:Ok1 Tryz.prog 33 (.code fn33):=(by kernel_rfl:fnOk Tryz.prog 33 fn33=true)
theorem ok34:Ok1 Tryz.prog 34 (.code fn34):=(by kernel_rfl:fnOk Tryz.prog 34 fn34=true)
theorem ok35:Ok1 Tryz.prog 35 (.code fn35):=(by kernel_rfl:fnOk Tryz.prog 35 fn35=true)
theorem ok36:Ok1 Tryz.prog 36 (.code fn36):=(by kernel_rfl:fnOk Tryz.prog 36 fn36=true)
theorem ok37:Ok1 Tryz.prog 37 (.code fn37):=(by kernel_rfl:fnOk Tryz.prog 37 fn37=true)
theorem ok38:Ok1 Tryz.prog 38 (.code fn38):=(by kernel_rfl:fnOk Tryz.prog 38 fn38=true)
theorem ok39:Ok1 Tryz.prog 39 (.ext (cloneX 1)):=clone39_ok
theorem ok42:Ok1 Tryz.prog 42 (.code fn42):=(by kernel_rfl:fnOk Tryz.prog 42 fn42=true)
theorem ok43:Ok1 Tryz.prog 43 (.code fn43):=(by kernel_rfl:fnOk Tryz.prog 43 fn43=true)
theorem ok44:Ok1 Tryz.prog 44 (.code fn44):=(by kernel_rfl:fnOk Tryz.prog 44 fn44=true)
theorem ok45:Ok1 Tryz.prog 45 (.code fn45):=(by kernel_rfl:fnOk Tryz.prog 45 fn45=true)
theorem ok48:Ok1 Tryz.prog 48 (.code fn48):=(by kernel_rfl:fnOk Tryz.prog 48 fn48=true)
theorem ok49:Ok1 Tryz.prog 49 (.code fn49):=(by kernel_rfl:fnOk Tryz.prog 49 fn49=true)
theorem ok52:Ok1 Tryz.prog 52 (.code fn52):=(by kernel_rfl:fnOk Tryz.prog 52 fn52=true)
theorem ok53:Ok1 Tryz.prog 53 (.code fn53):=(by kernel_rfl:fnOk Tryz.prog 53 fn53=true)
theorem ok54:Ok1 Tryz.prog 54 (.code fn54):=(by kernel_rfl:fnOk Tryz.prog 54 fn54=true)
theorem ok55:Ok1 Tryz.prog 55 (.code fn55):=(by kernel_rfl:fnOk Tryz.prog 55 fn55=true)
theorem ok56:Ok1 Tryz.prog 56 (.code fn56):=(by kernel_rfl:fnOk Tryz.prog 56 fn56=true)
theorem ok57:Ok1 Tryz.prog 57 (.code fn57):=(by kernel_rfl:fnOk Tryz.prog 57 fn57=true)
theorem ok62:Ok1 Tryz.prog 62 (.code fn62):=(by kernel_rfl:fnOk Tryz.prog 62 fn62=true)
theorem ok63:Ok1 Tryz.prog 63 (.code fn63):=(by kernel_rfl:fnOk Tryz.prog 63 fn63=true)
theorem ok64:Ok1 Tryz.prog 64 (.code fn64):=(by kernel_rfl:fnOk Tryz.prog 64 fn64=true)
theorem ok65:Ok1 Tryz.prog 65 (.code fn65):=(by kernel_rfl:fnOk Tryz.prog 65 fn65=true)
theorem ok66:Ok1 Tryz.prog 66 (.code fn66):=(by kernel_rfl:fnOk Tryz.prog 66 fn66=true)
theorem ok67:Ok1 Tryz.prog 67 (.code fn67):=(by kernel_rfl:fnOk Tryz.prog 67 fn67=true)
theorem ok68:Ok1 Tryz.prog 68 (.code fn68):=(by kernel_rfl:fnOk Tryz.prog 68 fn68=true)
theorem ok69:Ok1 Tryz.prog 69 (.code fn69):=(by kernel_rfl:fnOk Tryz.prog 69 fn69=true)
theorem ok70:Ok1 Tryz.prog 70 (.code fn70):=(by kernel_rfl:fnOk Tryz.prog 70 fn70=true)
theorem ok72:Ok1 Tryz.prog 72 (.code fn72):=(by kernel_rfl:fnOk Tryz.prog 72 fn72=true)
theorem ok73:Ok1 Tryz.prog 73 (.code fn73):=(by kernel_rfl:fnOk Tryz.prog 73 fn73=true)
theorem ok74:Ok1 Tryz.prog 74 (.code fn74):=(by kernel_rfl:fnOk Tryz.prog 74 fn74=true)
theorem ok75:Ok1 Tryz.prog 75 (.code fn75):=(by kernel_rfl:fnOk Tryz.prog 75 fn75=true)
theorem ok76:Ok1 Tryz.prog 76 (.code fn76):=(by kernel_rfl:fnOk Tryz.prog 76 fn76=true)
theorem ok77:Ok1 Tryz.prog 77 (.code fn77):=(by kernel_rfl:fnOk Tryz.prog 77 fn77=true)
theorem ok78:Ok1 Tryz.prog 78 (.code fn78):=(by kernel_rfl:fnOk Tryz.prog 78 fn78=true)
theorem ok79:Ok1 Tryz.prog 79 (.code fn79):=(by kernel_rfl:fnOk Tryz.prog 79 fn79=true)
theorem ok80:Ok1 Tryz.prog 80 (.ext (cloneX 1)):=clone80_ok
theorem ok86:Ok1 Tryz.prog 86 (.ext (cloneX 8)):=clone86_ok
theorem ok87:Ok1 Tryz.prog 87 (.code fn87):=(by kernel_rfl:fnOk Tryz.prog 87 fn87=true)
theorem ok88:Ok1 Tryz.prog 88 (.code fn88):=(by kernel_rfl:fnOk Tryz.prog 88 fn88=true)
theorem ok89:Ok1 Tryz.prog 89 (.code fn89):=(by kernel_rfl:fnOk Tryz.prog 89 fn89=true)
theorem ok90:Ok1 Tryz.prog 90 (.code fn90):=(by kernel_rfl:fnOk Tryz.prog 90 fn90=true)
theorem ok91:Ok1 Tryz.prog 91 (.code fn91):=(by kernel_rfl:fnOk Tryz.prog 91 fn91=true)
theorem ok93:Ok1 Tryz.prog 93 (.code fn93):=(by kernel_rfl:fnOk Tryz.prog 93 fn93=true)
theorem ok94:Ok1 Tryz.prog 94 (.code fn94):=(by kernel_rfl:fnOk Tryz.prog 94 fn94=true)
theorem ok95:Ok1 Tryz.prog 95 (.code fn95):=(by kernel_rfl:fnOk Tryz.prog 95 fn95=true)
theorem ok97:Ok1 Tryz.prog 97 (.code fn97):=(by kernel_rfl:fnOk Tryz.prog 97 fn97=true)
theorem ok98:Ok1 Tryz.prog 98 (.code fn98):=(by kernel_rfl:fnOk Tryz.prog 98 fn98=true)
theorem ok99:Ok1 Tryz.prog 99 (.code fn99):=(by kernel_rfl:fnOk Tryz.prog 99 fn99=true)
theorem ok100:Ok1 Tryz.prog 100 (.ext applyX):=applyI_ok
theorem ok101:Ok1 Tryz.prog 101 (.code fn101):=(by kernel_rfl:fnOk Tryz.prog 101 fn101=true)
theorem ok102:Ok1 Tryz.prog 102 (.code fn102):=(by kernel_rfl:fnOk Tryz.prog 102 fn102=true)
theorem ok103:Ok1 Tryz.prog 103 (.code fn103):=(by kernel_rfl:fnOk Tryz.prog 103 fn103=true)
theorem ok104:Ok1 Tryz.prog 104 (.code fn104):=(by kernel_rfl:fnOk Tryz.prog 104 fn104=true)
theorem ok105:Ok1 Tryz.prog 105 (.code fn105):=(by kernel_rfl:fnOk Tryz.prog 105 fn105=true)
theorem ok106:Ok1 Tryz.prog 106 (.code fn106):=(by kernel_rfl:fnOk Tryz.prog 106 fn106=true)
theorem ok107:Ok1 Tryz.prog 107 (.code fn107):=(by kernel_rfl:fnOk Tryz.prog 107 fn107=true)
theorem ok108:Ok1 Tryz.prog 108 (.code fn108):=(by kernel_rfl:fnOk Tryz.prog 108 fn108=true)
theorem ok109:Ok1 Tryz.prog 109 (.code fn109):=(by kernel_rfl:fnOk Tryz.prog 109 fn109=true)
theorem ok112:Ok1 Tryz.prog 112 (.code fn112):=(by kernel_rfl:fnOk Tryz.prog 112 fn112=true)
theorem ok113:Ok1 Tryz.prog 113 (.code fn113):=(by kernel_rfl:fnOk Tryz.prog 113 fn113=true)
theorem ok114:Ok1 Tryz.prog 114 (.code fn114):=(by kernel_rfl:fnOk Tryz.prog 114 fn114=true)
theorem ok115:Ok1 Tryz.prog 115 (.srt addX):=add_ok
theorem ok116:Ok1 Tryz.prog 116 (.code fn116):=(by kernel_rfl:fnOk Tryz.prog 116 fn116=true)
theorem ok118:Ok1 Tryz.prog 118 (.code fn118):=(by kernel_rfl:fnOk Tryz.prog 118 fn118=true)
theorem ok119:Ok1 Tryz.prog 119 (.code fn119):=(by kernel_rfl:fnOk Tryz.prog 119 fn119=true)
theorem ok120:Ok1 Tryz.prog 120 (.code fn120):=(by kernel_rfl:fnOk Tryz.prog 120 fn120=true)
theorem ok121:Ok1 Tryz.prog 121 (.code fn121):=(by kernel_rfl:fnOk Tryz.prog 121 fn121=true)
theorem ok122:Ok1 Tryz.prog 122 (.code fn122):=(by kernel_rfl:fnOk Tryz.prog 122 fn122=true)
theorem ok124:Ok1 Tryz.prog 124 (.code fn124):=(by kernel_rfl:fnOk Tryz.prog 124 fn124=true)
theorem ok125:Ok1 Tryz.prog 125 (.code fn125):=(by kernel_rfl:fnOk Tryz.prog 125 fn125=true)
theorem ok126:Ok1 Tryz.prog 126 (.ext tzX):=tz_ok
theorem ok128:Ok1 Tryz.prog 128 (.code fn128):=(by kernel_rfl:fnOk Tryz.prog 128 fn128=true)
theorem ok129:Ok1 Tryz.prog 129 (.code fn129):=(by kernel_rfl:fnOk Tryz.prog 129 fn129=true)
theorem ok130:Ok1 Tryz.prog 130 (.code fn130):=(by kernel_rfl:fnOk Tryz.prog 130 fn130=true)
theorem ok131:Ok1 Tryz.prog 131 (.code fn131):=(by kernel_rfl:fnOk Tryz.prog 131 fn131=true)
theorem ok132:Ok1 Tryz.prog 132 (.code fn132):=(by kernel_rfl:fnOk Tryz.prog 132 fn132=true)
theorem ok133:Ok1 Tryz.prog 133 (.code fn133):=(by kernel_rfl:fnOk Tryz.prog 133 fn133=true)
theorem ok134:Ok1 Tryz.prog 134 (.code fn134):=(by kernel_rfl:fnOk Tryz.prog 134 fn134=true)
theorem ok135:Ok1 Tryz.prog 135 (.code fn135):=(by kernel_rfl:fnOk Tryz.prog 135 fn135=true)
theorem ok136:Ok1 Tryz.prog 136 (.srt (sortEndsX 137)):=sortEnds_ok
theorem ok137:Ok1 Tryz.prog 137 (.code fn137):=(by kernel_rfl:fnOk Tryz.prog 137 fn137=true)
theorem ok138:Ok1 Tryz.prog 138 (.code fn138):=(by kernel_rfl:fnOk Tryz.prog 138 fn138=true)
theorem ok141:Ok1 Tryz.prog 141 (.code fn141):=(by kernel_rfl:fnOk Tryz.prog 141 fn141=true)
theorem tabOk:∀ p∈tab,Ok1 Tryz.prog p.1 p.2:=by
 unfold tab
 exact List.forall_mem_cons.2 ⟨ok8,List.forall_mem_cons.2 ⟨ok10,List.forall_mem_cons.2 ⟨ok11,List.forall_mem_cons.2 ⟨ok15,List.forall_mem_cons.2 ⟨ok16,List.forall_mem_cons.2 ⟨ok18,List.forall_mem_cons.2 ⟨ok20,List.forall_mem_cons.2 ⟨ok23,List.forall_mem_cons.2 ⟨ok26,List.forall_mem_cons.2 ⟨ok28,List.forall_mem_cons.2 ⟨ok31,List.forall_mem_cons.2 ⟨ok32,List.forall_mem_cons.2 ⟨ok33,List.forall_mem_cons.2 ⟨ok34,List.forall_mem_cons.2 ⟨ok35,List.forall_mem_cons.2 ⟨ok36,List.forall_mem_cons.2 ⟨ok37,List.forall_mem_cons.2 ⟨ok38,List.forall_mem_cons.2 ⟨ok39,List.forall_mem_cons.2 ⟨ok42,List.forall_mem_cons.2 ⟨ok43,List.forall_mem_cons.2 ⟨ok44,List.forall_mem_cons.2 ⟨ok45,List.forall_mem_cons.2 ⟨ok48,List.forall_mem_cons.2 ⟨ok49,List.forall_mem_cons.2 ⟨ok52,List.forall_mem_cons.2 ⟨ok53,List.forall_mem_cons.2 ⟨ok54,List.forall_mem_cons.2 ⟨ok55,List.forall_mem_cons.2 ⟨ok56,List.forall_mem_cons.2 ⟨ok57,List.forall_mem_cons.2 ⟨ok62,List.forall_mem_cons.2 ⟨ok63,List.forall_mem_cons.2 ⟨ok64,List.forall_mem_cons.2 ⟨ok65,List.forall_mem_cons.2 ⟨ok66,List.forall_mem_cons.2 ⟨ok67,List.forall_mem_cons.2 ⟨ok68,List.forall_mem_cons.2 ⟨ok69,List.forall_mem_cons.2 ⟨ok70,List.forall_mem_cons.2 ⟨ok72,List.forall_mem_cons.2 ⟨ok73,List.forall_mem_cons.2 ⟨ok74,List.forall_mem_cons.2 ⟨ok75,List.forall_mem_cons.2 ⟨ok76,List.forall_mem_cons.2 ⟨ok77,List.forall_mem_cons.2 ⟨ok78,List.forall_mem_cons.2 ⟨ok79,List.forall_mem_cons.2 ⟨ok80,List.forall_mem_cons.2 ⟨ok86,List.forall_mem_cons.2 ⟨ok87,List.forall_mem_cons.2 ⟨ok88,List.forall_mem_cons.2 ⟨ok89,List.forall_mem_cons.2 ⟨ok90,List.forall_mem_cons.2 ⟨ok91,List.forall_mem_cons.2 ⟨ok93,List.forall_mem_cons.2 ⟨ok94,List.forall_mem_cons.2 ⟨ok95,List.forall_mem_cons.2 ⟨ok97,List.forall_mem_cons.2 ⟨ok98,List.forall_mem_cons.2 ⟨ok99,List.forall_mem_cons.2 ⟨ok100,List.forall_mem_cons.2 ⟨ok101,List.forall_mem_cons.2 ⟨ok102,List.forall_mem_cons.2 ⟨ok103,List.forall_mem_cons.2 ⟨ok104,List.forall_mem_cons.2 ⟨ok105,List.forall_mem_cons.2 ⟨ok106,List.forall_mem_cons.2 ⟨ok107,List.forall_mem_cons.2 ⟨ok108,List.forall_mem_cons.2 ⟨ok109,List.forall_mem_cons.2 ⟨ok112,List.forall_mem_cons.2 ⟨ok113,List.forall_mem_cons.2 ⟨ok114,List.forall_mem_cons.2 ⟨ok115,List.forall_mem_cons.2 ⟨ok116,List.forall_mem_cons.2 ⟨ok118,List.forall_mem_cons.2 ⟨ok119,List.forall_mem_cons.2 ⟨ok120,List.forall_mem_cons.2 ⟨ok121,List.forall_mem_cons.2 ⟨ok122,List.forall_mem_cons.2 ⟨ok124,List.forall_mem_cons.2 ⟨ok125,List.forall_mem_cons.2 ⟨ok126,List.forall_mem_cons.2 ⟨ok128,List.forall_mem_cons.2 ⟨ok129,List.forall_mem_cons.2 ⟨ok130,List.forall_mem_cons.2 ⟨ok131,List.forall_mem_cons.2 ⟨ok132,List.forall_mem_cons.2 ⟨ok133,List.forall_mem_cons.2 ⟨ok134,List.forall_mem_cons.2 ⟨ok135,List.forall_mem_cons.2 ⟨ok136,List.forall_mem_cons.2 ⟨ok137,List.forall_mem_cons.2 ⟨ok138,List.forall_mem_cons.2 ⟨ok141,fun p hp=>by cases hp⟩⟩⟩⟩⟩⟩⟩⟩⟩⟩⟩⟩⟩⟩⟩⟩⟩⟩⟩⟩⟩⟩⟩⟩⟩⟩⟩⟩⟩⟩⟩⟩⟩⟩⟩⟩⟩⟩⟩⟩⟩⟩⟩⟩⟩⟩⟩⟩⟩⟩⟩⟩⟩⟩⟩⟩⟩⟩⟩⟩⟩⟩⟩⟩⟩⟩⟩⟩⟩⟩⟩⟩⟩⟩⟩⟩⟩⟩⟩⟩⟩⟩⟩⟩⟩⟩⟩⟩⟩⟩⟩⟩⟩⟩⟩⟩
theorem lookup_mem:∀ {l:List (Nat × VDef)} {f:Nat} {d:VDef},l.lookup f=some d→(f,d)∈l
 |(k,v) :: l,f,d,h=>by
  rw [List.lookup_cons] at h
  split at h
  ·rename_i e
   have e:f=k:=by simpa using e
   cases h;subst e;simp
  ·exact List.mem_cons_of_mem _ (lookup_mem h)
theorem envOk:EnvOk Tryz.prog env:=fun f d h=>by
 have:=tabOk _ (lookup_mem h)
 cases d<;>exact this
end Go.Proofs.YtpcncggjmabnaaaGreatDoor

namespace Go.Proofs.YtpcncggjmabnaaaGreatDoor
open Go.RowKit
theorem laidTabEq:(Rows.laid_math_bits_deBruijn64tab:DataW Unit)=Lib.tabData .u8 (Lib.deBruijn64tab.map Int.ofNat):=by kernel_rfl
theorem tabG:Tryz.prog.globalNamed "math/bits.deBruijn64tab"=some 0:=by kernel_rfl
theorem globIn_of_laid {w:World} {l:List (String × DataW Unit)} (hl:l=[("math/bits.deBruijn64tab",Rows.laid_math_bits_deBruijn64tab)]) (h:laidMetH Tryz.prog l w):GlobIn w:=by
 subst hl
 rw [MakeChecks.laidMetH_plain _ _ _ (by kernel_rfl),laidTabEq] at h
 have ht:Lib.TabIs Tryz.prog w "math/bits.deBruijn64tab" .u8 (Lib.deBruijn64tab.map Int.ofNat) :=
  Lib.tabIs_of_head (t:=185) (e:=5) (n:=64) tabG (by kernel_rfl) (by kernel_rfl) (by kernel_rfl) (by kernel_rfl) (by kernel_rfl) h
 have hc:∀ i,i<64→w.cell? ⟨0,i,none⟩=some (.int .u8 ((Lib.deBruijn64tab.map Int.ofNat).getD i 0)):=fun i hi=>ht.cell tabG i (by simpa [Lib.deBruijn64tab] using hi)
 have hC:Cellish w 0:=cellish_of (hc 0 (by decide))
 intro p hp
 obtain rfl:p=_:=List.mem_singleton.1 hp
 refine .iptr _ 0 _ 0 (fun i=>.int .u8 ((Lib.deBruijn64tab.map Int.ofNat).getD i 0)) (if_pos hC.lt) hC (fun k x hk=>?_) (fun k x hk=>?_)
 ·have hk':=(List.getElem?_eq_some_iff.1 hk).1
  rw [Nat.zero_add]
  exact ⟨hc k (by simpa [Lib.deBruijn64tab] using hk'),rfl⟩
 ·simp only [List.getElem?_map] at hk
  cases e:Lib.deBruijn64tab[k]? with
  |none=>rw [e] at hk;cases hk
  |some n =>
   rw [e] at hk;cases hk
   have:(Lib.deBruijn64tab.map Int.ofNat).getD k 0=(n:Int):=by simp [List.getD_eq_getElem?_getD,e]
   rw [this]
   exact .int _ _
end Go.Proofs.YtpcncggjmabnaaaGreatDoor

namespace Go.Proofs.YtpcncggjmabnaaaGreatDoor.V
open Go.RowKit Go.ChangeShapes Go.WideShapes Go.ChangeAt
theorem Tryz.ownKnobV:ownKnob Tryz.prog.godebug=none:=by kernel_rfl
theorem Tryz.laidOutV:laidOutB Tryz.prog=true:=by kernel_rfl
theorem sint_u8 {q:PV} (h:SInt .u8 [q]):∃ b:UInt8,q=.int .u8 (b.toNat:Int):=by
 obtain ⟨n,h1,h2⟩:=h
 have h3:IntKind.u8.min=0:=rfl
 have h4:IntKind.u8.max=255:=rfl
 simp only [Lit.wf,Bool.and_eq_true,decide_eq_true_eq] at h1
 cases h2
 refine ⟨UInt8.ofNat n.toNat,?_⟩
 rw [UInt8.toNat_ofNat_of_lt' (show n.toNat<2 ^ 8 by omega)]
 congr 1;omega
def SSec:List PV→Prop:=SArr 8 (SInt .u8)
theorem ssec {ps:List PV} (h:SSec ps):∃ s:Sec,ps=secPV s:=by
 obtain ⟨h1,h2⟩:=h
 have:∀ l:List PV,(∀ p∈l,SInt .u8 [p])→∃ m:List UInt8,m.length=l.length∧l=m.map fun b=>.int .u8 (b.toNat:Int):=by
  intro l
  induction l with
  |nil=>exact fun _=>⟨[],rfl,rfl⟩
  |cons p l ih =>
   intro h
   obtain ⟨b,hb⟩:=sint_u8 (h p (by simp))
   obtain ⟨m,e1,e2⟩:=ih fun q hq=>h q (by simp [hq])
   exact ⟨b :: m,by simp [e1],by rw [hb,e2];rfl⟩
 obtain ⟨m,e1,e2⟩:=this ps h2
 refine ⟨⟨m.toArray,by simp [e1,h1]⟩,?_⟩
 subst e2
 simp [secPV,Vector.toList]
theorem slist {α:Type} {n:Nat} {S:List PV→Prop} {wr:List PV→PV} {enc:α→PV} {ok:α→Prop} (hS:∀ ps,S ps→∃ a,ok a∧wr ps=enc a) {q:PV} (h:SList n S wr [q]):∃ l:List α,(∀ a∈l,ok a)∧q=.list n (l.map enc):=by
 obtain ⟨es,h1,h2⟩:=h
 cases h1
 have:∀ es:List PV,(∀ x∈es,∃ q,S q∧x=wr q)→∃ l:List α,(∀ a∈l,ok a)∧es=l.map enc:=by
  intro es
  induction es with
  |nil=>exact fun _=>⟨[],by simp,rfl⟩
  |cons e es ih =>
   intro h
   obtain ⟨q,h3,h4⟩:=h e (by simp)
   obtain ⟨a,h5,h6⟩:=hS q h3
   obtain ⟨l,h7,h8⟩:=ih fun x hx=>h x (by simp [hx])
   exact ⟨a :: l,by simp;exact ⟨h5,h7⟩,by rw [h4,h6,h8];rfl⟩
 obtain ⟨l,h3,h4⟩:=this es h2
 exact ⟨l,h3,by rw [h4]⟩
def SSecs:List PV→Prop:=SList 8 SSec .agg
theorem ssecs {q:PV} (h:SSecs [q]):∃ l:List Sec,q=eSecs l:=by
 obtain ⟨l,_,e⟩:=slist (enc:=eSec) (ok:=fun _=>True) (fun ps h=>by obtain ⟨s,rfl⟩:=ssec h;exact ⟨s,trivial,rfl⟩) h
 exact ⟨l,e⟩
theorem Tryz.rdInt:RdsC Tryz.prog 3 1 (SInt .i64):=RdsC.int Tryz.underlying3 (by kernel_rfl)
theorem Tryz.rdU8:RdsC Tryz.prog 5 1 (SInt .u8):=RdsC.int Tryz.underlying5 (by kernel_rfl)
theorem Tryz.rdSec:RdsC Tryz.prog 79 8 SSec:=RdsC.arr Tryz.underlying79 Tryz.rdU8 (by kernel_rfl)
end Go.Proofs.YtpcncggjmabnaaaGreatDoor.V

namespace Go.Proofs.YtpcncggjmabnaaaGreatDoor
open V
open Go.RowKit Go.ChangeShapes Go.WideShapes Go.ChangeAt
end Go.Proofs.YtpcncggjmabnaaaGreatDoor

namespace Go.Proofs.YtpcncggjmabnaaaGreatDoor
open V
open Go.RowKit Go.ChangeShapes Go.WideShapes Go.ChangeAt
end Go.Proofs.YtpcncggjmabnaaaGreatDoor

namespace Go.Proofs.YtpcncggjmabnaaaGreatDoor
open V
open Go.RowKit Go.ChangeShapes Go.WideShapes Go.ChangeAt
end Go.Proofs.YtpcncggjmabnaaaGreatDoor

namespace Go.Proofs.YtpcncggjmabnaaaGreatDoor
open Go.RowKit Go.WideShapes
def RdsZ (P:Program) (t:TypeId) (n:Nat) (S:List PV→Prop):Prop :=
 P.cellsOf t=n∧∀ {H:Type} {enc:TypeId × Value→H} {w:World} {fuel:Nat} {cs:List Value} {x:DataW H × List MemPlace},DataW.trod enc P w 0 (fun _=>true) true fuel t cs=some x→(x.1.weights P t).all (·≤reachBytes)=true→∃ ps,S ps∧ps.length=n∧CRep w cs ps
def SListZ (n:Nat) (S:List PV→Prop) (wr:List PV→PV) (ps:List PV):Prop:=∃ es,ps=[.list n es]∧es.length≤140737488351232∧∀ x∈es,∃ q,S q∧x=wr q
section
variable {P:Program} {t e:TypeId} {n m:Nat} {S:List PV→Prop} {k:IntKind}
theorem RdsZ.of (h:RdsC P t n S):RdsZ P t n S:=⟨h.1,fun h1 _=>h.2 h1⟩
theorem weights_all_mem {H:Type}:∀ {ds:List (DataW H)} {i:Nat} (h:i<ds.length) {y:Nat},y∈ds[i].weights P e→y∈DataW.weightsAll P e ds
 |d :: ds,0,_,y,hy=>by
  simp only [DataW.weightsAll,List.mem_append]
  exact .inl hy
 |d :: ds,i+1,h,y,hy=>by
  simp only [DataW.weightsAll,List.mem_append]
  exact .inr (weights_all_mem (ds:=ds) (i:=i) (by simpa using h) (by simpa using hy))
 |[],_,h,_,_=>by simp at h
theorem RdsZ.list {wr:List PV→PV} (ht:P.underlying t=some (.slice e)) (hc:P.cellsOf t=1) (hr:RdsZ P e n S) (hb:1≤P.bytesOf e) (hpos:0<n) (hw:∀ ps,S ps→ps.length=n→(wr ps).cells=ps):RdsZ P t 1 (SListZ n S wr):=⟨hc,fun {H enc w fuel cs x} h hz=>by
 rcases DataW.trod_slice ht h with ⟨rfl,_⟩|⟨a,len,cap,elems,rest,m,_,rfl,rfl,_,hl,hm,hel,hE,hR,_⟩
 ·exact ⟨[.list n []],⟨[],rfl,Nat.zero_le _,fun x hx=>by cases hx⟩,rfl,crep_one rfl (.nil n none)⟩
 ·have hz1:elems.length≤140737488351232:=by
   have:=List.all_eq_true.1 hz ((elems.length+rest.length) * P.bytesOf e) (by simp [DataW.weights,ht])
   have h3:(elems.length+rest.length) * P.bytesOf e≤140737488351232:=by
    have h:=of_decide_eq_true this
    simpa [reachBytes] using h
   have h4:(elems.length+rest.length) * 1≤(elems.length+rest.length) * P.bytesOf e:=Nat.mul_le_mul_left _ hb
   omega
  have hz2:∀ (i:Nat) (h:i<elems.length),(elems[i].1.weights P e).all (·≤reachBytes)=true:=fun i hi=>by
   rw [List.all_eq_true]
   intro y hy
   refine List.all_eq_true.1 hz y ?_
   simp only [DataW.weights,ht,List.mem_cons,List.mem_append]
   exact .inr (.inl (weights_all_mem (i:=i) (by simpa using hi) (by simpa using hy)))
  obtain ⟨l,h1,h2⟩:=each_pick (p:=fun i (y:List Value × List PV)=>w.cells? 0 (a.add (i * n)) n=some y.1∧S y.2∧y.2.length=n∧CRep w y.1 y.2) len fun i hi=>by
   have:=hE i hi
   rw [List.getElem?_eq_getElem (by omega),hr.1,Option.bind_eq_some_iff] at this
   obtain ⟨c,h3,h4⟩:=this
   obtain ⟨ps,g1,g2,g3⟩:=hr.2 h4 (hz2 i (by omega))
   exact ⟨(c,ps),h3,g1,g2,g3⟩
  refine ⟨[.list n (l.map fun y=>wr y.2)],⟨_,rfl,by rw [List.length_map,h1];omega,fun x hx=>?_⟩,rfl,crep_one rfl ?_⟩
  ·obtain ⟨y,hy,rfl⟩:=List.mem_map.1 hx
   obtain ⟨i,hi⟩:=List.mem_iff_getElem?.1 hy
   exact ⟨y.2,(h2 i y hi).2.1,rfl⟩
  ·by_cases hcap:cap=0
   ·have:len=0:=by omega
    subst hcap;subst this
    have:l=[]:=List.eq_nil_of_length_eq_zero h1
    subst this
    exact .nil n (some a)
   ·-- there are cells
    have hcell:∃ off v,w.cell? ⟨a.block,off,none⟩=some v∧a.spot=none:=by
     have fromc:∀ (i:Nat) (c:List Value),w.cells? 0 (a.add (i * n)) n=some c→∃ off v,w.cell? ⟨a.block,off,none⟩=some v∧a.spot=none:=fun i c h3=>by
      obtain ⟨_,hc0,h4⟩:=World.cells?_some h3
      have h5:=h4 0 hpos
      rw [List.getElem?_eq_getElem (by omega)] at h5
      have hs:(a.add (i * n)).spot=none:=by simpa [Addr.add] using World.cell?_spot h5
      have hs0:a.spot=none:=by
       unfold Addr.add at hs
       split at hs
       ·exact hs
       ·rename_i hne
        by_cases h0:i * n=0
        ·rename_i q;exact absurd h0 (by simpa using hne)
        ·rcases Nat.eq_zero_or_pos i with hi0|hi0
         ·subst hi0;simp at h0
         ·-- the row begins at a: its first cell
          have:0<len∨len=0:=by omega
          rcases this with hlen|hlen
          ·obtain ⟨y,hy⟩:∃ y,l[0]?=some y:=⟨l[0],List.getElem?_eq_getElem (by omega)⟩
           obtain ⟨_,hc1,h6⟩:=World.cells?_some (h2 0 y hy).1
           have h7:=h6 0 hpos
           rw [List.getElem?_eq_getElem (by omega)] at h7
           simpa [Addr.add] using World.cell?_spot h7
          ·have hrl:0<rest.length:=by have:=(hR rfl).1;omega
           have:=(hR rfl).2 0 (by omega)
           have h8:rest[0]?=some rest[0]:=List.getElem?_eq_getElem hrl
           rw [h8,hr.1,hlen,Option.bind_eq_some_iff] at this
           obtain ⟨c1,h9,_⟩:=this
           obtain ⟨_,hc1,h6⟩:=World.cells?_some h9
           have h7:=h6 0 hpos
           rw [List.getElem?_eq_getElem (by omega)] at h7
           simpa [Addr.add] using World.cell?_spot h7
      obtain ⟨b,off,spot⟩:=a
      simp only at hs0
      subst hs0
      rw [Addr.add_lit,Addr.add_lit] at h5
      exact ⟨_,_,h5,rfl⟩
     rcases Nat.eq_zero_or_pos len with hlen|hlen
     ·have hrl:0<rest.length:=by have:=(hR rfl).1;omega
      have:=(hR rfl).2 0 (by omega)
      have h8:rest[0]?=some rest[0]:=List.getElem?_eq_getElem hrl
      rw [h8,hr.1,Option.bind_eq_some_iff] at this
      obtain ⟨c1,h9,_⟩:=this
      exact fromc _ c1 h9
     ·obtain ⟨y,hy⟩:∃ y,l[0]?=some y:=⟨l[0],List.getElem?_eq_getElem (by omega)⟩
      exact fromc 0 _ (h2 0 y hy).1
    obtain ⟨off0,v0,hv0,hspot⟩:=hcell
    obtain ⟨b,off,spot⟩:=a
    simp only at hspot hv0
    subst hspot
    have hC:Cellish w b:=cellish_of hv0
    have hget:∀ (i:Nat) x,(l.map fun y=>wr y.2)[i]?=some x→∃ y,l[i]?=some y∧x=wr y.2:=fun i x hx=>by
     rw [List.getElem?_map] at hx
     cases e:l[i]? with
     |none=>rw [e] at hx;cases hx
     |some y=>rw [e] at hx;exact ⟨y,rfl,(Option.some.inj hx).symm⟩
    have hlen:(l.map fun y=>wr y.2).length=len:=by simp [h1]
    have:=PRep.list (ok:=fun b=>b<w.heap.size) (w:=w) n (l.map fun y=>wr y.2) b off cap (fun i j=>(((l[i]?).map (·.1)).getD []).getD j default) hC.lt hC (by rw [hlen];exact hl) hm
     (fun x hx=>by
      obtain ⟨i,hi⟩:=List.mem_iff_getElem?.1 hx
      obtain ⟨y,hy,rfl⟩:=hget i x hi
      obtain ⟨_,g1,g2,_⟩:=h2 i y hy
      rw [hw _ g1 g2,g2])
     (fun i x j p hi hj=>by
      obtain ⟨y,hy,rfl⟩:=hget i x hi
      obtain ⟨g0,g1,g2,g3,g4,g5⟩:=h2 i y hy
      rw [hw _ g1 g2] at hj
      have hjn:j<n:=by have:=(List.getElem?_eq_some_iff.1 hj).1;omega
      obtain ⟨_,hc1,h6⟩:=World.cells?_some g0
      have h7:=h6 j hjn
      have hcj:y.1[j]?=some y.1[j]:=List.getElem?_eq_getElem (by omega)
      have hd:(((l[i]?).map (·.1)).getD []).getD j default=y.1[j]:=by
       rw [hy];simp [List.getD_eq_getElem?_getD,hcj]
      rw [hd]
      rw [hcj,Addr.add_lit,Addr.add_lit] at h7
      exact ⟨h7,g4 _ (List.mem_of_getElem? hcj)⟩)
     (fun i x j p hi hj=>by
      obtain ⟨y,hy,rfl⟩:=hget i x hi
      obtain ⟨g0,g1,g2,g3,g4,g5⟩:=h2 i y hy
      rw [hw _ g1 g2] at hj
      have hjn:j<n:=by have:=(List.getElem?_eq_some_iff.1 hj).1;omega
      have hcj:y.1[j]?=some y.1[j]:=List.getElem?_eq_getElem (by omega)
      have hd:(((l[i]?).map (·.1)).getD []).getD j default=y.1[j]:=by
       rw [hy];simp [List.getD_eq_getElem?_getD,hcj]
      rw [hd]
      exact g5 j p _ hj hcj)
    rw [hlen] at this
    exact this⟩
inductive FldsZ (P:Program):Nat→List Field→List (List PV→Prop)→Nat→Prop
 |nil (o:Nat):FldsZ P o [] [] 0
 |cons {o n m:Nat} {f:Field} {fs:List Field} {S:List PV→Prop} {Ss:List (List PV→Prop)}:f.offset=o→RdsZ P f.type n S→FldsZ P (o+n) fs Ss m→FldsZ P o (f :: fs) (S :: Ss) (n+m)
theorem FldsZ.read {o:Nat} {fs:List Field} {Ss:List (List PV→Prop)} (h:FldsZ P o fs Ss m) {H:Type} {enc:TypeId × Value→H} {w:World} {fuel:Nat} {cs:List Value} {xs:List (DataW H × List MemPlace)} (hl:cs.length=o+m)
  (hx:∀ (i:Nat) (f:Field),fs[i]?=some f→∃ x,DataW.trod enc P w 0 (fun _=>true) true fuel f.type ((cs.drop f.offset).take (P.cellsOf f.type))=some x∧(x.1.weights P f.type).all (·≤reachBytes)=true):∃ ps,SCat Ss ps∧ps.length=m∧CRep w (cs.drop o) ps:=by
 induction h with
 |nil o=>exact ⟨[],rfl,rfl,by rw [List.drop_of_length_le (by omega)];exact (⟨rfl,fun c hc=>(by cases hc),fun j x v hx=>(by simp at hx)⟩:CRep w [] [])⟩
 |@cons o n m f fs S Ss h1 h2 h3 ih =>
  obtain ⟨x,h4,h5⟩:=hx 0 f rfl
  rw [h2.1,h1] at h4
  obtain ⟨p,g1,g2,g3⟩:=h2.2 h4 h5
  obtain ⟨q,k1,k2,k3⟩:=ih (by omega) (fun i f hf=>hx (i+1) f hf)
  refine ⟨p++q,⟨p,q,rfl,g1,k1⟩,by simp [g2,k2],?_⟩
  have:cs.drop o=(cs.drop o).take n++cs.drop (o+n):=by rw [← List.drop_drop,List.take_append_drop]
  rw [this]
  exact g3.append k3
theorem RdsZ.struct {fs:Array Field} {Ss:List (List PV→Prop)} (ht:P.underlying t=some (.struct fs)) (hf:FldsZ P 0 fs.toList Ss n) (hc:P.cellsOf t=n):RdsZ P t n (SCat Ss):=⟨hc,fun {H enc w fuel cs x} h hz=>by
 obtain ⟨xs,m,_,rfl,hl,hx,hE⟩:=DataW.trod_struct ht h
 obtain ⟨ps,h1,h2,h3⟩:=hf.read (xs:=xs) (enc:=enc) (w:=w) (fuel:=m) (cs:=cs) (by omega) (fun i f hi=>by
  have hi':fs[i]?=some f:=by simpa using hi
  have:=hE i f hi'
  have hil:i<xs.length:=by rw [hx];exact (Array.getElem?_eq_some_iff.1 hi').1
  refine ⟨xs[i],by rw [this,List.getElem?_eq_getElem hil],?_⟩
  rw [List.all_eq_true]
  intro y hy
  refine List.all_eq_true.1 hz y ?_
  simp only [DataW.weights,ht]
  exact DataW.weights_mem_each (j:=i) (t:=f.type) (d:=xs[i].1) (by simp [hi']) (by simp [List.getElem?_map,List.getElem?_eq_getElem hil]) y hy)
 exact ⟨ps,h1,h2,by simpa using h3⟩⟩
theorem RdsZ.struct3 {f0 f1 f2:Field} {n0 n1 n2:Nat} {S0 S1 S2:List PV→Prop} (ht:P.underlying t=some (.struct #[f0,f1,f2])) (h0:RdsZ P f0.type n0 S0) (h1:RdsZ P f1.type n1 S1) (h2:RdsZ P f2.type n2 S2) (o0:f0.offset=0) (o1:f1.offset=0+n0) (o2:f2.offset=0+n0+n1) (hc:P.cellsOf t=n0+(n1+(n2+0))):RdsZ P t (n0+(n1+(n2+0))) (SCat [S0,S1,S2]) :=
 RdsZ.struct ht (show FldsZ P 0 [f0,f1,f2] [S0,S1,S2] (n0+(n1+(n2+0))) from .cons o0 h0 (.cons o1 h1 (.cons o2 h2 (.nil _)))) hc
theorem arg_oneZ {H:Type} {enc:TypeId × Value→H} {w:World} {v:Value} {d:DataW H} {p:List MemPlace} (hr:RdsZ P t 1 S) (hone:v.cells.toList=[v]) (h:DataW.Trod enc P w 0 (fun _=>true) true t v d p) (hz:(d.weights P t).all (·≤reachBytes)=true) :
  ∃ q,S [q]∧PRep (fun b=>b<w.heap.size) w q v:=by
 obtain ⟨fuel,hf⟩:=h
 obtain ⟨ps,h1,h2,h3,h4,h5⟩:=hr.2 hf hz
 match ps,h2 with
 |[q],_=>exact ⟨q,h1,h5 0 q v rfl (by rw [hone];rfl)⟩
theorem arg_sliceZ {H:Type} {enc:TypeId × Value→H} {w:World} {v:Value} {d:DataW H} {p:List MemPlace} {m:Reach} {base:Nat} (ht:P.underlying t=some (.slice e)) (hr:RdsZ P t 1 S) (hv:Value.okWide P w m base t v) (h:DataW.Trod enc P w 0 (fun _=>true) true t v d p) (hz:(d.weights P t).all (·≤reachBytes)=true) :
  ∃ q,S [q]∧PRep (fun b=>b<w.heap.size) w q v:=by
 obtain ⟨a,l,c,rfl⟩:=okWide_slice ht hv
 exact arg_oneZ hr rfl h hz
theorem weights_three {H:Type} {t0 t1 t2:TypeId} {d0 d1 d2:DataW H} {ts:List TypeId} {ds:List (DataW H)} (h:(DataW.weightsEach P (t0 :: t1 :: t2 :: ts) (d0 :: d1 :: d2 :: ds)).all (·≤reachBytes)=true):(d0.weights P t0).all (·≤reachBytes)=true∧(d1.weights P t1).all (·≤reachBytes)=true∧(d2.weights P t2).all (·≤reachBytes)=true:=by
 simp only [DataW.weightsEach,List.all_append,Bool.and_eq_true] at h
 exact ⟨h.1,h.2.1,h.2.2.1⟩
end
end Go.Proofs.YtpcncggjmabnaaaGreatDoor

namespace Go.Proofs.YtpcncggjmabnaaaGreatDoor
open V
open Go.RowKit Go.ChangeShapes Go.WideShapes Go.ChangeAt
def SSecsZ:List PV→Prop:=SListZ 8 (SArr 8 (SInt .u8)) .agg
theorem ssecsZ {q:PV} (h:SSecsZ [q]):∃ l:List Sec,l.length≤140737488351232∧q=eSecs l:=by
 obtain ⟨es,e1,hl,h3⟩:=h
 cases e1
 obtain ⟨l,e2⟩:=ssecs (q:=.list 8 es) ⟨es,rfl,h3⟩
 refine ⟨l,?_,e2⟩
 have:es=l.map eSec:=by
  have e3:PV.list 8 es=.list 8 (l.map eSec):=e2
  injection e3
 rw [this,List.length_map] at hl
 exact hl
def SWrZ:List PV→Prop:=SCat [SInt .i64,SInt .i64,SSecsZ]
theorem swrZ {ps:List PV} (h:SWrZ ps):∃ x:Wrt,x.data.length≤140737488351232∧PV.agg ps=eWr x:=by
 obtain ⟨p,q,rfl,⟨n,h1,rfl⟩,p2,q2,rfl,⟨m,h2,rfl⟩,p3,q3,rfl,h3,rfl⟩:=h
 obtain ⟨es,rfl,h4⟩:=h3
 obtain ⟨l,hl,e3⟩:=ssecsZ (q:=.list 8 es) ⟨es,rfl,h4⟩
 refine ⟨⟨n,m,l⟩,hl,?_⟩
 rw [e3];rfl
theorem slistZ {α:Type} {n:Nat} {S:List PV→Prop} {wr:List PV→PV} {enc:α→PV} {ok:α→Prop} (hs:∀ ps,S ps→∃ x,ok x∧wr ps=enc x) {q:PV} (h:SListZ n S wr [q]):∃ l:List α,(∀ x∈l,ok x)∧q=.list n (l.map enc):=by
 obtain ⟨es,e1,_,h3⟩:=h
 exact slist hs ⟨es,e1,h3⟩
def SWrsZ:List PV→Prop:=SListZ 3 SWrZ .agg
theorem swrsZ {q:PV} (h:SWrsZ [q]):∃ l:List Wrt,szW l∧q=.list 3 (l.map eWr) :=
 slistZ (enc:=eWr) (ok:=fun x=>x.data.length≤140737488351232) (fun ps h=>swrZ h) h
theorem Tryz.rdSecsZ:RdsZ Tryz.prog 74 1 SSecsZ:=RdsZ.list Tryz.underlying74 (by kernel_rfl) (.of Tryz.rdSec) (Nat.le_of_ble_eq_true (by kernel_rfl)) (by decide) (fun _ _ _=>rfl)
theorem Tryz.rdWrZ:RdsZ Tryz.prog 76 3 SWrZ:=RdsZ.struct3 Tryz.underlying76 (.of Tryz.rdInt) (.of Tryz.rdInt) Tryz.rdSecsZ rfl rfl rfl (by kernel_rfl)
theorem Tryz.rdWrsZ:RdsZ Tryz.prog 35 1 SWrsZ:=RdsZ.list Tryz.underlying35 (by kernel_rfl) Tryz.rdWrZ (Nat.le_of_ble_eq_true (by kernel_rfl)) (by decide) (fun _ _ _=>rfl)
end Go.Proofs.YtpcncggjmabnaaaGreatDoor

namespace Go.Proofs.YtpcncggjmabnaaaGreatDoor
open V
open Go.RowKit Go.ChangeShapes Go.WideShapes Go.ChangeAt
theorem su8r {q:PV} (h:SInt .u8 [q]):∃ n:Int,(0≤n∧n≤255)∧q=.int .u8 n:=by
 obtain ⟨b,rfl⟩:=sint_u8 h
 have:=b.toNat_lt
 exact ⟨_,by omega,rfl⟩
def SEvZ:List PV→Prop:=SCat [SInt .u8,SInt .u8,SWrsZ]
theorem sevZ {ps:List PV} (h:SEvZ ps):∃ x:Ev24,(szW x.ws∧(0≤x.kind∧x.kind≤255)∧0≤x.step∧x.step≤255)∧PV.agg ps=eEv x:=by
 obtain ⟨p,q,rfl,⟨n,h1,rfl⟩,p2,q2,rfl,⟨n2,h2,rfl⟩,p3,q3,rfl,h3,rfl⟩:=h
 obtain ⟨a,ha,e1⟩:=su8r ⟨n,h1,rfl⟩
 obtain ⟨b,hb,e2⟩:=su8r ⟨n2,h2,rfl⟩
 obtain ⟨es,rfl,g1,g2⟩:=h3
 obtain ⟨w,hw,e3⟩:=swrsZ (q:=.list 3 es) ⟨es,rfl,g1,g2⟩
 refine ⟨⟨a,b,w⟩,⟨hw,ha,hb⟩,?_⟩
 rw [e1,e2,e3];rfl
def SEvsZ:List PV→Prop:=SListZ 3 SEvZ .agg
theorem sevsZ {q:PV} (h:SEvsZ [q]):∃ l:List Ev24,szE l∧q=.list 3 (l.map eEv):=by
 obtain ⟨es,e1,hl,h3⟩:=h
 cases e1
 obtain ⟨l,hx,e⟩:=slist (enc:=eEv) (ok:=fun x=>szW x.ws∧(0≤x.kind∧x.kind≤255)∧0≤x.step∧x.step≤255) (fun ps h=>sevZ h) (q:=.list 3 es) ⟨es,rfl,h3⟩
 refine ⟨l,⟨?_,hx⟩,e⟩
 have:es=l.map eEv:=by injection e
 rw [this,List.length_map] at hl
 exact hl
theorem Tryz.rdEvZ:RdsZ Tryz.prog 70 3 SEvZ:=RdsZ.struct3 Tryz.underlying70 (.of Tryz.rdU8) (.of Tryz.rdU8) Tryz.rdWrsZ rfl rfl rfl (by kernel_rfl)
theorem Tryz.rdEvsZ:RdsZ Tryz.prog 59 1 SEvsZ:=RdsZ.list Tryz.underlying59 (by kernel_rfl) Tryz.rdEvZ (Nat.le_of_ble_eq_true (by kernel_rfl)) (by decide) (fun _ _ _=>rfl)
end Go.Proofs.YtpcncggjmabnaaaGreatDoor
