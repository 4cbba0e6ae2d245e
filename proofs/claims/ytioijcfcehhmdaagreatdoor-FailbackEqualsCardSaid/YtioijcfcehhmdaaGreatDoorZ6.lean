/-
  Part 6 of the texts that the statement stands on.
-/
import Derived.Test.YtioijcfcehhmdaaGreatDoorZ5
import Derived.Test.YtioijcfcehhmdaaGreatDoorProg
import Derived.Shelf.SlSortCmp.WholeK
import Derived.Shelf.SlSortCmp.NoneTotal
import Derived.Shelf.SlicesG.Cmp
import Derived.Shelf.Small.Bits
import Derived.Ground.SlsfProg
import Derived.Ground.SlgcProg
import Derived.Ground.NamesProg
set_option linter.all false
open List renaming getElem?_eq_getElem → ZS, length_map → Z2, length_cons → za, getElem?_map → zb, length_nil → zd, getElem_mem → zR, length_append → Zaa, length_take → Zac, map_nil → Zai, append_assoc → Zay, take_length → ZaI
open Bool renaming and_eq_true → ZZ, true_and → zm, and_self → zt
open Nat renaming beq → Z1
open Option renaming map_some → Zah
open Int renaming lt_irrefl → Zap, toNat_of_nonneg → ZbB
namespace Go.Proofs.YtioijcfcehhmdaaGreatDoor.V
abbrev s8 (n:Int):PV:=.agg [.int .u8 n,.int .u8 0,.int .u8 0,.int .u8 0,.int .u8 0,.int .u8 0,.int .u8 0,.int .u8 0]
abbrev i3 (a b c:Int):PV:=.list 1 [.list 8 [s8 a,s8 b,s8 c]]
abbrev d1 (n:Int):PV:=.list 2 [.agg [.int .i64 3,.list 1 [.int .u64 n]]]
abbrev pO (d a b c:Int):PV:=.agg [.int .i64 0,.list 3 [.agg [.int .i64 1,.int .i64 1,.int .i64 7]],d1 d,i3 a b c]
abbrev pC (d a b c:Int):PV:=.agg [.int .i64 1,.list 3 [.agg [.int .i64 1,.int .i64 1,.int .i64 5],.agg [.int .i64 2,.int .i64 6,.int .i64 9]],d1 d,i3 a b c]
abbrev w1 (s b:Int):PV:=.agg [.int .i64 0,.int .i64 s,.list 8 [s8 b]]
abbrev p8 (s c:Int)(d:Bool):PV:=.agg [.int .i64 3,.int .i64 1,.int .i64 0,.int .i64 s,.int .i64 3,.int .i64 c,.bool d,.bool false]
theorem aK {f:Nat}{args:List PV}{rs:List nC}(h:NH env 400 f args=some rs):cal env f args=some rs:=KL h
theorem aw0:cal env 43 [(.int .i64 0),(.int .u8 1)]=some [((w1 0 1),false)]:=aK (by kernel_rfl)
theorem aw1:cal env 39 [(.list 1 [(.int .i64 3)]),(.list 3 [(w1 0 1)])]=some [((d1 1),true),((.bool true),false)]:=aK (by kernel_rfl)
theorem aw2:cal env 43 [(.int .i64 2),(.int .u8 2)]=some [((w1 2 2),false)]:=aK (by kernel_rfl)
theorem aw3:cal env 39 [(.list 1 [(.int .i64 3)]),(.list 3 [(w1 2 2)])]=some [((d1 4),true),((.bool true),false)]:=aK (by kernel_rfl)
theorem aw4:cal env 39 [(.list 1 [(.int .i64 3)]),(.list 3 [(w1 0 1),(w1 2 2)])]=some [((d1 5),true),((.bool true),false)]:=aK (by kernel_rfl)
theorem aw5:cal env 43 [(.int .i64 1),(.int .u8 3)]=some [((w1 1 3),false)]:=aK (by kernel_rfl)
theorem aw6:cal env 39 [(.list 1 [(.int .i64 3)]),(.list 3 [(w1 1 3)])]=some [((d1 2),true),((.bool true),false)]:=aK (by kernel_rfl)
theorem aw7:cal env 44 [(i3 1 0 0),(d1 1)]=some [((pO 1 1 0 0),false)]:=aK (by kernel_rfl)
theorem aw8:cal env 45 [(i3 0 0 2),(d1 4)]=some [((pC 4 0 0 2),false)]:=aK (by kernel_rfl)
theorem aw9:cal env 24 [(pO 1 1 0 0),(pC 4 0 0 2),(.int .i64 3)]=some [((p8 0 5 false),false),((.list 1 [(.list 2 [(.agg [(.int .i64 0),(.int .i64 1)]),(.agg [(.int .i64 2),(.int .i64 1)])])]),false),((.int .i64 0),false)]:=aK (by kernel_rfl)
theorem arW:cal env 27 [(.list 1 [(.list 2 [(.agg [(.int .i64 0),(.int .i64 1)]),(.agg [(.int .i64 2),(.int .i64 1)])])]),(.list 1 [(.list 2 [(.agg [(.int .i64 0),(.int .i64 1)]),(.agg [(.int .i64 2),(.int .i64 1)])])])]=some [((.bool true),false)]:=aK (by kernel_rfl)
theorem arX:cal env 45 [(i3 0 0 2),(d1 5)]=some [((pC 5 0 0 2),false)]:=aK (by kernel_rfl)
theorem arY:cal env 12 [(p8 0 5 false),(pC 5 0 0 2),(.int .i64 10),(.int .i64 0)]=some [((p8 1 10 false),false),((.agg [(.int .i64 5),(.int .i64 10),(.int .i64 0),(.list 1 []),(.list 3 [(w1 0 0),(w1 2 2)])]),false),((.int .i64 0),false)]:=aK (by kernel_rfl)
theorem arZ:cal env 36 [(i3 1 0 0),(.agg [(.int .i64 5),(.int .i64 10),(.int .i64 0),(.list 1 []),(.list 3 [(w1 0 0),(w1 2 2)])])]=some [((i3 0 0 2),false),((.int .i64 0),false)]:=aK (by kernel_rfl)
theorem ar0:cal env 44 [(i3 0 0 2),(d1 1)]=some [((pO 1 0 0 2),false)]:=aK (by kernel_rfl)
theorem ar1:cal env 45 [(i3 0 3 2),(d1 2)]=some [((pC 2 0 3 2),false)]:=aK (by kernel_rfl)
theorem ar2:cal env 15 [(p8 1 10 false),(pO 1 0 0 2),(pC 2 0 3 2)]=some [((.agg [(.int .i64 0),(.int .i64 0),(.int .i64 0),(.int .i64 0),(.int .i64 0),(.int .i64 0),(.bool false),(.bool false)]),false),((.int .i64 22),false)]:=aK (by kernel_rfl)
theorem ar4:cal env 12 [(p8 1 10 false),(pC 2 0 3 2),(.int .i64 11),(.int .i64 0)]=some [((p8 2 11 false),false),((.agg [(.int .i64 10),(.int .i64 11),(.int .i64 0),(.list 1 []),(.list 3 [(w1 1 3)])]),false),((.int .i64 0),false)]:=aK (by kernel_rfl)
theorem ar5:cal env 36 [(i3 0 0 2),(.agg [(.int .i64 10),(.int .i64 11),(.int .i64 0),(.list 1 []),(.list 3 [(w1 1 3)])])]=some [((i3 0 3 2),false),((.int .i64 0),false)]:=aK (by kernel_rfl)
theorem ar6:cal env 44 [(i3 0 3 2),(d1 1)]=some [((pO 1 0 3 2),false)]:=aK (by kernel_rfl)
theorem ar7:cal env 15 [(p8 2 11 false),(pO 1 0 3 2),(pC 2 0 3 2)]=some [((p8 2 11 true),false),((.int .i64 0),false)]:=aK (by kernel_rfl)
theorem ar8:cal env 17 [(i3 1 0 0),(i3 0 0 2)]=some [((.int .i64 2),false),((.int .i64 0),false)]:=aK (by kernel_rfl)
theorem ar9:cal env 37 [(i3 0 3 2),(i3 0 3 2)]=some [((.bool true),false)]:=aK (by kernel_rfl)
theorem asa:cal env 20 [(.list 5 [(.agg [(.int .i64 5),(.int .i64 10),(.int .i64 0),(.list 1 []),(.list 3 [(w1 0 0),(w1 2 2)])]),(.agg [(.int .i64 10),(.int .i64 11),(.int .i64 0),(.list 1 []),(.list 3 [(w1 1 3)])])])]=some [((.int .i64 3),false)]:=aK (by kernel_rfl)
theorem scP (k s1 s2 s3 a l1 l2 l3):(PV.agg [.int k a,.list s1 l1,.list s2 l2,.list s3 l3]).scalar=false:=rfl
theorem scW (k k2 s1 a b l1):(PV.agg [.int k a,.int k2 b,.list s1 l1]).scalar=false:=rfl
theorem scB (k s1 a l1):(PV.agg [.int k a,.list s1 l1]).scalar=false:=rfl
theorem scC (k1 k2 k3 s1 s2 a b c l1 l2):(PV.agg [.int k1 a,.int k2 b,.int k3 c,.list s1 l1,.list s2 l2]).scalar=false:=rfl
theorem scQ (k1 k2 k3 k4 k5 k6 a b c d e f x y):(PV.agg [.int k1 a,.int k2 b,.int k3 c,.int k4 d,.int k5 e,.int k6 f,.bool x,.bool y]).scalar=true:=rfl
theorem w00:IntKind.i64.wrap 0=0:=by decide
set_option maxRecDepth 20000 in
theorem UO:cal env 11 []=some [(.bool true,false)]:=by
 rw [ah aoy rfl];simp only [ad3,aG,Nat.reduceBEq,Nat.reduceLeDiff,Nat.reduceAdd,za,zd]
 simp only [aw0,aw1,aw2,aw3,aw4,aw5,aw6,aw7,aw8,aw9,arW,arX,arY,arZ,ar0,ar1,ar2,ar4,ar5,ar6,ar7,ar8,ar9,asa,scP,scW,scB,scC,scQ,w00,Int.add_zero,aF,Nat.reduceMul,Nat.reduceBEq,Nat.reduceLT,Nat.reduceLeDiff,reduceCtorEq,Nat.reduceEqDiff,Nat.reduceAdd,Z1]
def ai4 (im:fG):PV:=.list 1 (im.map aX)
def kQ (a b:fG):Int:=if bY a≠0 then bY a else if bY b≠0 then bY b else if aj a=aj b then 0 else 22
def differ (a b:fG):List (List cZ):=(a.zip b).map fun q=>Gu q.1 q.2
def ny (a b:fG):List (List cZ):=if kQ a b=0 then differ a b else []
theorem kC {a b:fG}(h:aj a=aj b):a.length=b.length∧∀ i (h1:i<a.length) (h2:i<b.length),a[i].length=b[i].length:=by
 have hl:a.length=b.length:=by simpa [aj] using congrArg List.length h
 refine ⟨hl,fun i h1 h2=>?_⟩
 have:=congrArg (fun l=>l[i]?) h
 simp only [aj,zb,ZS h1,ZS h2,Zah,Option.some.injEq] at this
 omega
theorem amC {A B:PV}{l:List fG}(hl:l.length≤lim)(hi0:∀ im∈l,im.length≤lim){st:St}(h:st.head [0,1,10,11,12] st.boxes.length=some ⟨[.pv A,.pv B,.any,.any,.any,.any,.any,.any,.any,.any,.row 1 (l.map ai4),.pv (.int .i64 l.length),.pv (.int .i64 (0:Nat)),.any,.any,.any,.any,.any,.any,.any,.any,.any,.any,.any,.any,.any,.any,.any],[],[],none⟩) :
  den env PI st=match l.find? (fun im=>decide (bY im≠0)) with|some im=>some (.ret,⟨[.pv A,.pv B,.any,.any,.pv (.int .i64 (bY im)),.any,.any,.any,.any,.any,.any,.any,.any,.any,.any,.any,.any,.any,.any,.any,.any,.any,.any,.any,.any,.any,.any,.any],[],[],none⟩)|none=>some (.normal,⟨[.pv A,.pv B,.any,.any,.any,.any,.any,.any,.any,.any,.any,.any,.any,.any,.any,.any,.any,.any,.any,.any,.any,.any,.any,.any,.any,.any,.any,.any],[],[],none⟩):=by
 unfold PI
 rw [ bM (env:=env) (l.length) (fun i=>⟨[.pv A,.pv B,.any,.any,.any,.any,.any,.any,.any,.any,.row 1 (l.map ai4),.pv (.int .i64 l.length),.pv (.int .i64 i),.any,.any,.any,.any,.any,.any,.any,.any,.any,.any,.any,.any,.any,.any,.any],[],[],none⟩) (fun i=>match (l.drop i).find? (fun im=>decide (bY im≠0)) with|some im=>some (.ret,⟨[.pv A,.pv B,.any,.any,.pv (.int .i64 (bY im)),.any,.any,.any,.any,.any,.any,.any,.any,.any,.any,.any,.any,.any,.any,.any,.any,.any,.any,.any,.any,.any,.any,.any],[],[],none⟩)|none=>some (.normal,⟨[.pv A,.pv B,.any,.any,.any,.any,.any,.any,.any,.any,.any,.any,.any,.any,.any,.any,.any,.any,.any,.any,.any,.any,.any,.any,.any,.any,.any,.any],[],[],none⟩)) h (fun _=>rfl) (fun _=>rfl) ?_ ?_]
 ·first|rfl|simp only [List.drop_zero,List.take_zero,Zai,Nat.zero_add,List.nil_append,List.foldl_nil]
 ·intro i rb hi ih
  have hi1:=bF hi hl
  have F1:((i:Int)<(l.length:Int))=True:=eq_true (by omega)
  have e1:=YK (hi0 _ (zR hi))
  rw [List.drop_eq_getElem_cons hi,List.find?_cons]
  by_cases hc:bY l[i]=0
  ·have F2:(bY l[i] != 0)=false:=by simp [hc]
   simp only [Gn,F1,F2,e1,ai4,au hi,zb,ZS hi,bg,reduceCtorEq,Nat.reduceEqDiff,Nat.reduceAdd,Nat.reduceLT,Nat.reduceLeDiff,Z1]
   rw [ih _ (by simp only [hi1];rfl)]
   simp only [hc,ne_eq,not_true,decide_false]
  ·have F2:(bY l[i] != 0)=true:=by simp [hc]
   simp only [Gn,F1,F2,e1,ai4,au hi,zb,ZS hi,bg,reduceCtorEq,Nat.reduceEqDiff,Nat.reduceAdd,Nat.reduceLT,Nat.reduceLeDiff,Z1]
   simp only [hc,ne_eq,not_false_eq_true,decide_true]
   rfl
 ·intro rb
  simp only [Gn,Zap,bg,reduceCtorEq,Nat.reduceEqDiff,Nat.reduceAdd,Nat.reduceLT,Nat.reduceLeDiff,Z1]
  rw [List.drop_length]
  rfl
theorem apu {a b:fG}(ha:a.length≤lim)(hb:b.length≤lim):cal env 76 [.list 1 (a.map aX),.list 1 (b.map aX)]=some [(.int .i64 (kQ a b),false)]:=by
 have h2:∀ im∈[a,b],im.length≤lim:=by simp;exact ⟨ha,hb⟩
 have e1:=XL ha
 have e2:=XL hb
 have e3:=al1 (l:=aj a) (m:=aj b) (by simpa [aj] using ha)
 rw [ah aoR rfl];simp only [aei];simp only [start,aJ,aT,aH,aS,aB,aC,aI,aQ,Nat.reduceAdd,Nat.reduceSub]
 simp only [e1,e2,e3,bg,reduceCtorEq,Nat.reduceEqDiff,Nat.reduceAdd,Nat.reduceLT,Nat.reduceLeDiff,Z1]
 rw [amC (l:=[a,b]) (by simp [lim]) h2]
 rotate_left
 ·rfl
 ·simp only [List.find?_cons,List.find?_nil,kQ]
  by_cases c1:bY a=0
  ·by_cases c2:bY b=0
   ·by_cases c4:aj a=aj b
    ·have hd:=decide_eq_true c4
     simp only [c1,c2,hd,ne_eq,not_true,decide_false,e1,e2,e3,bg,reduceCtorEq,Nat.reduceEqDiff,Nat.reduceAdd,Nat.reduceLT,Nat.reduceLeDiff,Z1]
     rw [if_pos c4]
    ·have hd:=decide_eq_false c4
     simp only [c1,c2,hd,ne_eq,not_true,decide_false,e1,e2,e3,bg,reduceCtorEq,Nat.reduceEqDiff,Nat.reduceAdd,Nat.reduceLT,Nat.reduceLeDiff,Z1]
     rw [if_neg c4]
   ·simp only [c1,c2,ne_eq,not_true,not_false_eq_true,decide_false,decide_true,if_false,if_true,e1,e2,e3,bg,reduceCtorEq,Nat.reduceEqDiff,Nat.reduceAdd,Nat.reduceLT,Nat.reduceLeDiff,Z1]
  ·simp only [c1,ne_eq,not_true,not_false_eq_true,decide_false,decide_true,if_false,if_true,e1,e2,e3,bg,reduceCtorEq,Nat.reduceEqDiff,Nat.reduceAdd,Nat.reduceLT,Nat.reduceLeDiff,Z1]
theorem amD {a b:fG}(hl:a.length≤lim)(hr:∀ v∈a,v.length≤lim)(hab:a.length=b.length)(hs:∀ i (h1:i<a.length) (h2:i<b.length),a[i].length=b[i].length)
  {st:St} (h:st.head [0,1,7,16,17,31] st.boxes.length=some ⟨[.pv (.list 1 (a.map aX)),.pv (.list 1 (b.map aX)),.any,.any,.any,.any,.any,.row 1 [],.any,.any,.any,.any,.any,.any,.any,.any,.pv (.int .i64 a.length),.pv (.int .i64 (0:Nat)),.any,.any,.any,.any,.any,.any,.any,.any,.any,.any,.any,.any,.any,.any,.any,.any],[],[],none⟩) :
  den env OV st=some (.normal,⟨[.any,.any,.any,.any,.any,.any,.any,.row 1 ((differ a b).map mY),.any,.any,.any,.any,.any,.any,.any,.any,.any,.any,.any,.any,.any,.any,.any,.any,.any,.any,.any,.any,.any,.any,.any,.any,.any,.any],[],[],none⟩):=by
 unfold OV
 have hz:(a.zip b).length=a.length:=by simp;omega
 refine bM (env:=env) a.length (fun i=>⟨[.pv (.list 1 (a.map aX)),.pv (.list 1 (b.map aX)),.any,.any,.any,.any,.any,.row 1 (((a.zip b).take i).map fun q=>mY (Gu q.1 q.2)),.any,.any,.any,.any,.any,.any,.any,.any,.pv (.int .i64 a.length),.pv (.int .i64 i),.any,.any,.any,.any,.any,.any,.any,.any,.any,.any,.any,.any,.any,.any,.any,.any],[],[],none⟩) (fun i=>some (.normal,⟨[.any,.any,.any,.any,.any,.any,.any,.row 1 ((differ a b).map mY),.any,.any,.any,.any,.any,.any,.any,.any,.any,.any,.any,.any,.any,.any,.any,.any,.any,.any,.any,.any,.any,.any,.any,.any,.any,.any],[],[],none⟩)) h (fun _=>rfl) (fun _=>rfl) ?_ ?_
 ·intro i rb hi ih
  have hi1:=bF hi hl
  have hj:i<b.length:=by omega
  have hiz:i<(a.zip b).length:=by omega
  have F1:((i:Int)<(a.length:Int))=True:=eq_true (by omega)
  have F2:(((a.zip b).take i).length+1≤lim)=True:=eq_true (by rw [Zac];omega)
  have e1:=apc (hr _ (zR hi)) (hs i hi hj)
  simp only [OU,F1,F2,e1,aX,au hi,au hj,zb,ZS hi,ZS hj,bg,reduceCtorEq,Nat.reduceEqDiff,Nat.reduceAdd,Nat.reduceLT,Nat.reduceLeDiff,Z1]
  rw [ih _ (by simp only [hi1];rw [← uJ _ hiz,List.getElem_zip];rfl)]
 ·intro rb
  simp only [OU,Zap,bg,reduceCtorEq,Nat.reduceEqDiff,Nat.reduceAdd,Nat.reduceLT,Nat.reduceLeDiff,Z1]
  rw [← hz,ZaI]
  simp only [differ,List.map_map]
  rfl
theorem apv {a b:fG}(ha:a.length≤lim)(hb':b.length≤lim)(hr:∀ v∈a,v.length≤lim):cal env 30 [.list 1 (a.map aX),.list 1 (b.map aX)]=some [(.list 1 ((ny a b).map mY),true),(.int .i64 (kQ a b),false)]:=by
 have e1:=apu ha hb'
 unfold ny
 by_cases c:kQ a b=0
 ·have hs:aj a=aj b:=by
   unfold kQ at c
   split at c
   ·omega
   ·split at c
    ·omega
    ·split at c
     ·assumption
     ·omega
  have G1:(kQ a b != 0)=false:=by simp [c]
  rw [ah aj7 rfl];simp only [aaZ];simp only [start,aJ,aT,aH,aS,aB,aC,aI,aQ,Nat.reduceAdd,Nat.reduceSub]
  simp only [G1,e1,bg,reduceCtorEq,Nat.reduceEqDiff,Nat.reduceAdd,Nat.reduceLT,Nat.reduceLeDiff,Z1]
  rw [amD ha hr (kC hs).1 (kC hs).2]
  rotate_left
  ·rfl
  ·simp only [c,bg,reduceCtorEq,Nat.reduceEqDiff,Nat.reduceAdd,Nat.reduceLT,Nat.reduceLeDiff,Z1]
 ·have G1:(kQ a b != 0)=true:=by simp [c]
  rw [ah aj7 rfl];simp only [aaZ];simp only [start,aJ,aT,aH,aS,aB,aC,aI,aQ,Nat.reduceAdd,Nat.reduceSub]
  simp only [G1,e1,bg,reduceCtorEq,Nat.reduceEqDiff,Nat.reduceAdd,Nat.reduceLT,Nat.reduceLeDiff,Z1]
  simp only [c,if_false]
  rfl
--+
theorem Ar {α:Type}{l:List α}{i:Nat}(h:i<l.length):l.take (i+1)=l.take i++[l[i]]:=by rw [List.take_succ_eq_append_getElem h]
def okE (x:cZ):Prop:=(-9223372036854775808≤x.start∧x.start≤9223372036854775807)∧(-9223372036854775808≤x.count∧x.count≤9223372036854775807)
def Au (l:List cZ):Prop:=∀ x∈l,okE x
def xg (e:cZ):Int:=max e.start 0
def wTo (e:cZ):Int:=if e.start<0∨e.count<4096 - e.start then min (e.start+e.count) 4096 else 4096
def wX (e:cZ):Int×Int×Bool:=if e.count≤0 then (0,0,false) else (xg e,wTo e,decide (xg e<wTo e))
def KX (e:cZ)(s:Nat):Bool:=decide (0<e.count)&&(decide (e.start≤(s:Int))&&decide ((s:Int)<e.start+e.count))
def mM (l:List cZ)(s:Nat):Bool:=l.any fun e=>KX e s
theorem Qk {e:cZ}(h:(wX e).2.2=true):∃ n m:Nat,wX e=((n:Int),(m:Int),true)∧n<m∧m≤4096∧∀ s:Nat,s<4096→(KX e s=true ↔ n≤s∧s<m):=by
 unfold wX at h ⊢
 by_cases c:e.count≤0
 ·rw [if_pos c] at h;cases h
 ·rw [if_neg c] at h ⊢
  have h2:xg e<wTo e:=by simpa using h
  have h3:0≤xg e:=by unfold xg;omega
  have h4:wTo e≤4096:=by unfold wTo;split<;>omega
  refine ⟨(xg e).toNat,(wTo e).toNat,?_,by omega,by omega,fun s hs=>?_⟩
  ·rw [ZbB h3,ZbB (by omega),decide_eq_true h2]
  ·unfold KX
   simp only [ZZ,decide_eq_true_eq]
   have e1:(xg e).toNat≤s ↔ xg e≤(s:Int):=by omega
   have e2:s<(wTo e).toNat ↔ (s:Int)<wTo e:=by omega
   rw [e1,e2]
   unfold xg wTo
   split<;>omega
theorem afF {e:cZ}(h:(wX e).2.2=false){s:Nat}(hs:s<4096):KX e s=false:=by
 unfold wX at h
 by_cases c:e.count≤0
 ·unfold KX
  rw [decide_eq_false (by omega),Bool.false_and]
 ·rw [if_neg c] at h
  have h2:¬ xg e<wTo e:=by simpa using h
  unfold KX
  cases hq:(decide (0<e.count)&&(decide (e.start≤(s:Int))&&decide ((s:Int)<e.start+e.count))) with
  |false=>rfl
  |true =>
   exfalso
   simp only [ZZ,decide_eq_true_eq] at hq
   apply h2
   unfold xg wTo
   split<;>omega
theorem amE {e:cZ}(ho:okE e):cal env 141 [cO e]=some [(.int .i64 (wX e).1,false),(.int .i64 (wX e).2.1,false),(.bool (wX e).2.2,false)]:=by
 obtain ⟨⟨o1,o2⟩,o3,o4⟩:=ho
 unfold wX
 simp only [cO]
 by_cases c:e.count≤0
 ·rw [if_pos c]
  rw [ah PX rfl];simp only [EW,aG,Nat.reduceBEq,Nat.reduceLeDiff,Nat.reduceAdd,za,zd]
  simp only [c,aF,Nat.reduceMul,Nat.reduceBEq,Nat.reduceLT,Nat.reduceLeDiff,reduceCtorEq,Nat.reduceEqDiff,Nat.reduceAdd,Z1]
 ·rw [if_neg c]
  unfold xg wTo
  have hmin:min (e.start+e.count) 4096=if 4096<e.start+e.count then 4096 else e.start+e.count:=by split<;>omega
  by_cases c1:e.start<0
  ·have hmax:max e.start 0=0:=by omega
   rw [hmin,hmax]
   have W1:IntKind.i64.wrap (e.start+e.count)=e.start+e.count:=bn (by omega)
   rw [if_pos (.inl c1)]
   rw [ah PX rfl];simp only [EW,aG,Nat.reduceBEq,Nat.reduceLeDiff,Nat.reduceAdd,za,zd]
   simp only [c,c1,W1,aF,Nat.reduceMul,Nat.reduceBEq,Nat.reduceLT,Nat.reduceLeDiff,reduceCtorEq,Nat.reduceEqDiff,Nat.reduceAdd,Z1]
  ·have hmax:max e.start 0=e.start:=by omega
   rw [hmin,hmax]
   have W2:IntKind.i64.wrap (4096 - e.start)=4096 - e.start:=bn (by omega)
   by_cases c2:e.count<4096 - e.start
   ·have W1:IntKind.i64.wrap (e.start+e.count)=e.start+e.count:=bn (by omega)
    rw [if_pos (.inr c2)]
    rw [ah PX rfl];simp only [EW,aG,Nat.reduceBEq,Nat.reduceLeDiff,Nat.reduceAdd,za,zd]
    simp only [c,c1,c2,W1,W2,aF,Nat.reduceMul,Nat.reduceBEq,Nat.reduceLT,Nat.reduceLeDiff,reduceCtorEq,Nat.reduceEqDiff,Nat.reduceAdd,Z1]
   ·rw [if_neg (by omega)]
    rw [ah PX rfl];simp only [EW,aG,Nat.reduceBEq,Nat.reduceLeDiff,Nat.reduceAdd,za,zd]
    simp only [c,c1,c2,W2,aF,Nat.reduceMul,Nat.reduceBEq,Nat.reduceLT,Nat.reduceLeDiff,reduceCtorEq,Nat.reduceEqDiff,Nat.reduceAdd,Z1]
def gy (i:Nat)(l:List cZ):List End:=l.flatMap fun e=>if (wX e).2.2 then [⟨(wX e).1.toNat,i,1⟩,⟨(wX e).2.1.toNat,i,-1⟩] else []
theorem JB (i:Nat)(l:List cZ)(e:cZ):gy i (l++[e])=gy i l++(if (wX e).2.2 then [⟨(wX e).1.toNat,i,1⟩,⟨(wX e).2.1.toNat,i,-1⟩] else []):=by simp [gy]
theorem Ec (i:Nat):∀ l:List cZ,(gy i l).length≤2*l.length
 |[]=>Nat.le_refl _
 |e::l=>by
  have:=Ec i l
  have h:gy i (e::l)=(if (wX e).2.2 then [⟨(wX e).1.toNat,i,1⟩,⟨(wX e).2.1.toNat,i,-1⟩] else [])++gy i l:=by simp [gy]
  rw [h,Zaa,za]
  split<;>simp<;>omega
def dJ:Nat→List (List cZ)→List End
 |_,[]=>[]
 |i,l::ls=>gy i l++dJ (i+1) ls
theorem CG:∀ (ls:List (List cZ)) (i:Nat) (l:List cZ),dJ i (ls++[l])=dJ i ls++gy (i+ls.length) l
 |[],i,l=>by simp [dJ]
 |m::ls,i,l=>by
  simp only [List.cons_append,dJ,CG ls (i+1) l,za,Zay]
  rw [show i+1+ls.length=i+(ls.length+1) by omega]
theorem um {n:Nat}:∀ (ls:List (List cZ)) (i:Nat),(∀ l∈ls,l.length≤n)→(dJ i ls).length≤2*n*ls.length
 |[],i,_=>Nat.zero_le _
 |l::ls,i,h=>by
  have h1:=um ls (i+1) fun x hx=>h x (by simp [hx])
  have h2:=Ec i l
  have h3:=h l (by simp)
  simp only [dJ,Zaa,za]
  rw [Nat.mul_add]
  omega
set_option maxRecDepth 20000 in
theorem ai5 {D:PV}{l:List cZ}{pre:List End}{v n:Nat}{q17:AV}(hq:q17=.pv (.list 2 (l.map cO)))(ho:Au l)(hl:l.length≤100000)(hpre:pre.length≤10000000){st:St}(h:st.head [0,3,4,5,11,12,13,17,18,19,20,39] st.boxes.length=some ⟨sl 45 [(0,.pv D),(3,.row 3 ((pre++gy v (l.take ((0:Nat)))).map jA)),(4,.pv (.int .i64 v)),(5,.pv (.list 2 (l.map cO))),(11,.pv D),(12,.pv (.int .i64 n)),(13,.pv (.int .i64 v)),(17,.pv (.list 2 (l.map cO))),(18,.pv (.list 2 (l.map cO))),(19,.pv (.int .i64 l.length)),(20,.pv (.int .i64 (0:Nat))),(39,.any)],[],[],none⟩) :
  den env IE st=some (.normal,⟨sl 45 [(0,.pv D),(2,.any),(3,.row 3 ((pre++gy v l).map jA)),(11,.pv D),(12,.pv (.int .i64 n)),(13,.pv (.int .i64 v)),(39,.any)],[],[],none⟩):=by
 unfold IE
 refine bM (env:=env) (l.length) (fun i=>⟨sl 45 [(0,.pv D),(3,.row 3 ((pre++gy v (l.take (i))).map jA)),(4,.pv (.int .i64 v)),(5,.pv (.list 2 (l.map cO))),(11,.pv D),(12,.pv (.int .i64 n)),(13,.pv (.int .i64 v)),(17,.pv (.list 2 (l.map cO))),(18,.pv (.list 2 (l.map cO))),(19,.pv (.int .i64 l.length)),(20,.pv (.int .i64 i)),(39,.any)],[],[],none⟩) (fun i=>some (.normal,⟨sl 45 [(0,.pv D),(2,.any),(3,.row 3 ((pre++gy v l).map jA)),(11,.pv D),(12,.pv (.int .i64 n)),(13,.pv (.int .i64 v)),(39,.any)],[],[],none⟩)) h (fun _=>rfl) (fun _=>by simp only [aG,bJ,Nat.reduceMul,Nat.reduceBEq,Nat.reduceLT,Nat.reduceLeDiff,Nat.reduceAdd,decide_true,zt,zm]) ?_ ?_
 ·intro i rb hi ih
  have hlim:lim=1073741824:=rfl
  have hi1:=bF hi (by omega)
  have F1:((i:Int)<(l.length:Int))=True:=eq_true (by omega)
  have hx:l[i]?=some l[i]:=ZS hi
  have ht:=Ar hi
  have hox:=ho _ (zR hi)
  generalize l[i]=x at *
  have e1:=amE hox
  have hrl:=Ec v (l.take i)
  rw [Zac] at hrl
  have P2:part [PV.int .i64 x.start,.int .i64 x.count] 0 (some 2)=some (.agg [.int .i64 x.start,.int .i64 x.count]):=rfl
  simp only [cO] at e1
  cases hw:(wX x).2.2 with
  |false =>
   rw [hw] at e1
   have hs:gy v (l.take (i+1))=gy v (l.take i):=by rw [ht,JB,hw];simp
   simp only [BQ,F1,hx,e1,cO,P2,au hi,zb,Zah,Z2,za,zd,aF,Nat.reduceMul,Nat.reduceBEq,Nat.reduceLT,Nat.reduceLeDiff,reduceCtorEq,Nat.reduceEqDiff,Nat.reduceAdd,Z1]
   rw [ih _ (by simp only [hi1,hs,aF,Nat.reduceMul,Nat.reduceBEq,Nat.reduceLT,Nat.reduceLeDiff,reduceCtorEq,Nat.reduceEqDiff,Nat.reduceAdd,Z1]<;>rfl)]
  |true =>
   obtain ⟨a,b,hab,-,-,-⟩:=Qk hw
   have hs:gy v (l.take (i+1))=gy v (l.take i)++[⟨a,v,1⟩,⟨b,v,-1⟩]:=by rw [ht,JB,hab];simp
   rw [hab] at e1
   have F2:((pre++gy v (l.take i)).length+1+1≤lim)=True:=eq_true (by rw [Zaa];omega)
   have F3:((pre++gy v (l.take i)).length+2≤lim)=True:=eq_true (by rw [Zaa];omega)
   simp only [BQ,F1,F2,F3,hx,e1,cO,P2,au hi,zb,Zah,Z2,za,zd,aF,Nat.reduceMul,Nat.reduceBEq,Nat.reduceLT,Nat.reduceLeDiff,reduceCtorEq,Nat.reduceEqDiff,Nat.reduceAdd,Z1]
   rw [ih _ (by simp only [hi1,hs,← Zay,List.map_append,List.map_cons,Zai,jA,aF,Nat.reduceMul,Nat.reduceBEq,Nat.reduceLT,Nat.reduceLeDiff,reduceCtorEq,Nat.reduceEqDiff,Nat.reduceAdd,Z1]<;>rfl)]
 ·intro rb
  simp only [BQ,Zap,Z2,ZaI,aF,Nat.reduceMul,Nat.reduceBEq,Nat.reduceLT,Nat.reduceLeDiff,reduceCtorEq,Nat.reduceEqDiff,Nat.reduceAdd,Z1]
set_option maxRecDepth 20000 in
theorem abA {ls:List (List cZ)}(ho:∀ l∈ls,Au l)(hr:∀ l∈ls,l.length≤100000)(hl:ls.length≤10){st:St}(h:st.head [0,3,11,12,13,39] st.boxes.length=some ⟨sl 45 [(0,.pv (.list 1 (ls.map mY))),(3,.row 3 ((dJ 0 (ls.take ((0:Nat)))).map jA)),(11,.pv (.list 1 (ls.map mY))),(12,.pv (.int .i64 ls.length)),(13,.pv (.int .i64 (0:Nat))),(39,.any)],[],[],none⟩) :
  den env II st=some (.normal,⟨sl 45 [(2,.any),(3,.row 3 ((dJ 0 ls).map jA))],[],[],none⟩):=by
 unfold II
 refine bM (env:=env) (ls.length) (fun i=>⟨sl 45 [(0,.pv (.list 1 (ls.map mY))),(3,.row 3 ((dJ 0 (ls.take (i))).map jA)),(11,.pv (.list 1 (ls.map mY))),(12,.pv (.int .i64 ls.length)),(13,.pv (.int .i64 i)),(39,.any)],[],[],none⟩) (fun i=>some (.normal,⟨sl 45 [(2,.any),(3,.row 3 ((dJ 0 ls).map jA))],[],[],none⟩)) h (fun _=>rfl) (fun _=>by simp only [aG,bJ,Nat.reduceMul,Nat.reduceBEq,Nat.reduceLT,Nat.reduceLeDiff,Nat.reduceAdd,decide_true,zt,zm]) ?_ ?_
 ·intro i rb hi ih
  have hlim:lim=1073741824:=rfl
  have hi1:=bF hi (by omega)
  have F1:((i:Int)<(ls.length:Int))=True:=eq_true (by omega)
  have hx:ls[i]?=some ls[i]:=ZS hi
  have ht:=Ar hi
  have hox:=ho _ (zR hi)
  have hrx:=hr _ (zR hi)
  have hli:(ls.take i).length=i:=by rw [Zac];omega
  have hp:=um (n:=100000) (ls.take i) 0 fun l hl=>hr l (List.mem_of_mem_take hl)
  rw [hli] at hp
  generalize ls[i]=l at *
  have hs:dJ 0 (ls.take (i+1))=dJ 0 (ls.take i)++gy i l:=by rw [ht,CG,hli,Nat.zero_add]
  have hr0:gy i ([]:List cZ)=[]:=rfl
  simp only [IG,F1,hx,mY,au hi,zb,Zah,Z2,aF,Nat.reduceMul,Nat.reduceBEq,Nat.reduceLT,Nat.reduceLeDiff,reduceCtorEq,Nat.reduceEqDiff,Nat.reduceAdd,Z1]
  rw [ai5 (l:=l) (pre:=dJ 0 (ls.take i)) (v:=i) (q17:=.pv (.list 2 (l.map cO))) rfl hox hrx (by omega)]
  rotate_left
  ·simp only [tZ,hr0,List.append_nil,mY,aF,Nat.reduceMul,Nat.reduceBEq,Nat.reduceLT,Nat.reduceLeDiff,reduceCtorEq,Nat.reduceEqDiff,Nat.reduceAdd,Z1]<;>rfl
  simp only [aF,Nat.reduceMul,Nat.reduceBEq,Nat.reduceLT,Nat.reduceLeDiff,reduceCtorEq,Nat.reduceEqDiff,Nat.reduceAdd,Z1]
  rw [ih _ (by simp only [hi1,hs,mY,aF,Nat.reduceMul,Nat.reduceBEq,Nat.reduceLT,Nat.reduceLeDiff,reduceCtorEq,Nat.reduceEqDiff,Nat.reduceAdd,Z1]<;>rfl)]
 ·intro rb
  simp only [IG,Zap,Z2,ZaI,aF,Nat.reduceMul,Nat.reduceBEq,Nat.reduceLT,Nat.reduceLeDiff,reduceCtorEq,Nat.reduceEqDiff,Nat.reduceAdd,Z1]
def mQ (ls:List (List cZ)):List End:=uf (dJ 0 ls)
theorem amF {ls:List (List cZ)}(ho:∀ l∈ls,Au l)(hr:∀ l∈ls,l.length≤10000)(hl:ls.length≤2)(hsl:(mQ ls).length=(dJ 0 ls).length):cal env 120 [.list 1 (ls.map mY)]=some [(.list 3 ((mQ ls).map jA),true)]:=by
 have hp:=um (n:=10000) ls 0 hr
 have hp2:(dJ 0 ls).length≤1000000:=by
  have:2*10000*ls.length≤2*10000*2:=Nat.mul_le_mul_left _ hl
  omega
 have h1:=KP (g:=143) (l:=dJ 0 ls) hp2
 have h2:((uf (dJ 0 ls)).map jA).length=((dJ 0 ls).map jA).length:=by
  rw [Z2,Z2];exact hsl
 unfold mQ
 have hcond:(0=0∧(dJ 0 ls).length=((dJ 0 ls).map jA).length∧((uf (dJ 0 ls)).map jA).length=((dJ 0 ls).map jA).length)=True:=eq_true ⟨rfl,by simp,h2⟩
 rw [ah alE rfl];simp only [TU,aG,Nat.reduceBEq,Nat.reduceLeDiff,Nat.reduceAdd,za,zd]
 simp only [Z2,aeK,h1,hsl,aF,Nat.reduceMul,Nat.reduceBEq,Nat.reduceLT,Nat.reduceLeDiff,reduceCtorEq,Nat.reduceEqDiff,Nat.reduceAdd,Z1]
 rw [abA ho (fun l h=>by have:=hr l h;omega) (by omega) (by simp only [tZ,dJ,Zai,aF,Nat.reduceMul,Nat.reduceBEq,Nat.reduceLT,Nat.reduceLeDiff,reduceCtorEq,Nat.reduceEqDiff,Nat.reduceAdd,Z1]<;>rfl)]
 simp only [h2,Z2,aeK,h1,hsl,aF,Nat.reduceMul,Nat.reduceBEq,Nat.reduceLT,Nat.reduceLeDiff,reduceCtorEq,Nat.reduceEqDiff,Nat.reduceAdd,Z1]
 rw [← hsl]
 unfold mQ
 rw [BL]
end Go.Proofs.YtioijcfcehhmdaaGreatDoor.V
namespace Go.Proofs
open Go.Shelf
def Tryz.sortEnd_ren:Go.Shelf.Ren:=⟨fun|6=>142|15=>156|14=>155|28=>166|29=>167|20=>158|21=>159|22=>160|23=>161|24=>162|25=>163|26=>164|27=>165|46=>168|47=>169|48=>170|49=>171|50=>172|57=>173|n=>n,fun|22=>170|24=>173|25=>196|3=>3|39=>180|0=>0|53=>214|55=>144|4=>4|46=>207|45=>206|50=>211|5=>5|9=>9|66=>215|70=>219|76=>221|77=>50|n=>n,fun|n=>n⟩
theorem Tryz.sortEnd:Go.Proofs.SlLaysF0.n6 Tryz.prog Tryz.sortEnd_ren:={
 mixed:=by kernel_rfl
 f6:=⟨Tryz.f142.name,by decide,Tryz.func142.trans (congrArg some (by kernel_rfl))⟩
 f14:=⟨Tryz.f155.name,by decide,Tryz.func155.trans (congrArg some (by kernel_rfl))⟩
 f15:=Tryz.func156.trans (congrArg some (by kernel_rfl))
 f20:=⟨Tryz.f158.name,by decide,Tryz.func158.trans (congrArg some (by kernel_rfl))⟩
 f21:=⟨Tryz.f159.name,by decide,Tryz.func159.trans (congrArg some (by kernel_rfl))⟩
 f22:=⟨Tryz.f160.name,by decide,Tryz.func160.trans (congrArg some (by kernel_rfl))⟩
 f23:=⟨Tryz.f161.name,by decide,Tryz.func161.trans (congrArg some (by kernel_rfl))⟩
 f24:=⟨Tryz.f162.name,by decide,Tryz.func162.trans (congrArg some (by kernel_rfl))⟩
 f25:=⟨Tryz.f163.name,by decide,Tryz.func163.trans (congrArg some (by kernel_rfl))⟩
 f26:=⟨Tryz.f164.name,by decide,Tryz.func164.trans (congrArg some (by kernel_rfl))⟩
 f27:=⟨Tryz.f165.name,by decide,Tryz.func165.trans (congrArg some (by kernel_rfl))⟩
 f28:=Tryz.func166.trans (congrArg some (by kernel_rfl))
 f29:=Tryz.func167.trans (congrArg some (by kernel_rfl))
 f46:=⟨Tryz.f168.name,by decide,Tryz.func168.trans (congrArg some (by kernel_rfl))⟩
 f47:=Tryz.func169.trans (congrArg some (by kernel_rfl))
 f48:=Tryz.func170.trans (congrArg some (by kernel_rfl))
 f49:=⟨Tryz.f171.name,by decide,Tryz.func171.trans (congrArg some (by kernel_rfl))⟩
 f50:=⟨Tryz.f172.name,by decide,Tryz.func172.trans (congrArg some (by kernel_rfl))⟩
 f57:=⟨Tryz.f173.name,by decide,Tryz.func173.trans (congrArg some (by kernel_rfl))⟩
 t0:=Tryz.underlying0
 a0:=Tryz.isAgg0
 z0:=Tryz.sizeOf0
 v0:=Tryz.zeroValue0
 t3:=Tryz.underlying3
 a3:=Tryz.isAgg3
 z3:=Tryz.sizeOf3
 v3:=Tryz.zeroValue3
 t4:=Tryz.underlying4
 a4:=Tryz.isAgg4
 z4:=Tryz.sizeOf4
 v4:=Tryz.zeroValue4
 t5:=Tryz.underlying5
 a5:=Tryz.isAgg5
 z5:=Tryz.sizeOf5
 v5:=Tryz.zeroValue5
 t9:=Tryz.underlying9
 a9:=Tryz.isAgg9
 z9:=Tryz.sizeOf9
 v9:=Tryz.zeroValue9
 t22:=Tryz.underlying170
 a22:=Tryz.isAgg170
 z22:=Tryz.sizeOf170
 v22:=Tryz.zeroValue170
 t25:=Tryz.underlying196
 a25:=Tryz.isAgg196
 z25:=Tryz.sizeOf196
 v25:=Tryz.zeroValue196
 t39:=Tryz.underlying180
 a39:=Tryz.isAgg180
 z39:=Tryz.sizeOf180
 v39:=Tryz.zeroValue180
 t45:=Tryz.underlying206
 a45:=Tryz.isAgg206
 z45:=Tryz.sizeOf206
 v45:=Tryz.zeroValue206
 t46:=Tryz.underlying207
 a46:=Tryz.isAgg207
 z46:=Tryz.sizeOf207
 v46:=Tryz.zeroValue207
 t50:=Tryz.underlying211
 a50:=Tryz.isAgg211
 z50:=Tryz.sizeOf211
 v50:=Tryz.zeroValue211
 t53:=Tryz.underlying214
 a53:=Tryz.isAgg214
 z53:=Tryz.sizeOf214
 v53:=Tryz.zeroValue214
 t55:=Tryz.underlying144
 a55:=Tryz.isAgg144
 z55:=Tryz.sizeOf144
 v55:=Tryz.zeroValue144
 t66:=Tryz.underlying215
 a66:=Tryz.isAgg215
 z66:=Tryz.sizeOf215
 v66:=Tryz.zeroValue215
 t70:=Tryz.underlying219
 a70:=Tryz.isAgg219
 z70:=Tryz.sizeOf219
 v70:=Tryz.zeroValue219
 t76:=Tryz.underlying221
 a76:=Tryz.isAgg221
 z76:=Tryz.sizeOf221
 v76:=Tryz.zeroValue221
 t77:=Tryz.underlying50
 a77:=Tryz.isAgg50
 z77:=Tryz.sizeOf50
 v77:=Tryz.zeroValue50 }
def Tryz.cmpInt_ren:Go.Shelf.Ren:=⟨fun|5=>144|7=>157|n=>n,fun|22=>3|3=>3|4=>4|n=>n,fun|n=>n⟩
theorem Tryz.cmpInt:Go.Proofs.SlLaysC2.n5 Tryz.prog Tryz.cmpInt_ren:={
 mixed:=by kernel_rfl
 f5:=⟨Tryz.f144.name,by decide,Tryz.func144.trans (congrArg some (by kernel_rfl))⟩
 f7:=⟨Tryz.f157.name,by decide,Tryz.func157.trans (congrArg some (by kernel_rfl))⟩
 t3:=Tryz.underlying3
 a3:=Tryz.isAgg3
 z3:=Tryz.sizeOf3
 v3:=Tryz.zeroValue3
 t4:=Tryz.underlying4
 a4:=Tryz.isAgg4
 z4:=Tryz.sizeOf4
 v4:=Tryz.zeroValue4
 t22:=Tryz.underlying3
 a22:=Tryz.isAgg3
 z22:=Tryz.sizeOf3
 v22:=Tryz.zeroValue3 }
end Go.Proofs
