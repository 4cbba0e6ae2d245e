/-
  Part 9 of the texts that the statement stands on.
-/
import Derived.Test.YtioijcfcehhmdaaGreatDoorZ8
import Derived.Test.YtioijcfcehhmdaaGreatDoorRows
import Derived.WalkSmall
import Derived.WalkSpells
import Derived.Lib.SliceRun
set_option linter.all false
open Option renaming some → ZD, map_some → Zah, map_eq_some_iff → Zat, getD_some → ZbJ
open List renaming getElem?_eq_getElem → ZS, length_map → Z2, getElem?_eq_some_iff → Z6, length_cons → za, getElem?_map → zb, length_nil → zd, getElem?_set → zp, drop_eq_getElem_cons → zw, all_eq_true → zE, getElem?_append_right → zP, getElem_mem → zR, length_append → Zaa, mem_of_getElem? → Zab, length_take → Zac, getElem?_append_left → Zad, mem_cons → Zaf, getD_eq_getElem?_getD → Zag, map_nil → Zai, map_cons → Zaj, getElem?_cons_zero → Zak, replicate → Zal, take_succ_eq_append_getElem → Zao, range → Zar, not_mem_nil → Zas, mem_singleton → Zav, all_cons → Zaw, nodup_cons → Zax, append_assoc → Zay, eq_nil_of_length_eq_zero → Zaz, nodup_nil → ZaB, append_nil → ZaE, head?_cons → ZaF, getElem?_cons_succ → ZaH, take_length → ZaI, tail_cons → ZaJ, map_append → ZaK, getElem?_toArray → ZaL, filterMap_cons → ZaO, getElem?_drop → ZaP, take_zero → ZaQ, mem_range → ZaS, drop_length → ZaT, all_nil → ZaU, getElem?_eq_none → ZaV, filterMap_nil → ZaW, mem_map → ZaY, mem_of_mem_take → Za2, cons_append → Za3, nil_append → Za4, drop_zero → Za5, mem_iff_getElem → Za9, length_drop → Zbe, filter_append → Zbg, take_of_length_le → Zbm, filter_congr → Zbo, any_eq_false → ZbA, ext_getElem → ZbD, range_succ → ZbG, getElem_map → ZbM, drop_eq_nil_of_le → ZbN, foldl_cons → ZbU, take_add_one → Zb1, ext_getElem? → Zca, length_range → Zcb, set_cons_zero → Zcr, getElem_take → Zcv, foldl_append → Zcx, length_filter_le → ZcK, countP_eq_length_filter → Zc1, Pairwise → Zc9, setIfInBounds_toArray → Zdb, any_eq_true → Zdj, any_append → Zdq, contains_iff_mem → Zdz, set_cons_succ → ZdQ, mem_flatMap → Zd4
open Bool renaming and_eq_true → ZZ, true_and → zm, and_self → zt, false_and → Za8, and_false → Zbi, eq_iff_iff → ZbH, or_false → ZcC, or_eq_false_iff → ZcP
open Nat renaming beq → Z1, le_refl → ze, le_trans → zr, lt_of_lt_of_le → Zae, zero_add → Zan, zero_le → ZaM, shiftRight_eq_div_pow → Za0, add_zero → Za1, testBit_two_pow_mul_add → Zba, min_eq_left → Zbv, le_of_not_lt → ZbK, testBit_shiftRight → ZbQ, testBit_and → ZbX, pow_le_pow_right → Zb3, testBit_lt_two_pow → ZcB, eq_of_testBit_eq → ZcU, testBit_mod_two_pow → Zdl, lt_of_le_of_lt → ZdR
open Array renaming getElem?_eq_some_iff → zz, getElem?_toList → Zbd
open Int renaming lt_irrefl → Zap, toNat_natCast → ZaG, eq_ofNat_of_zero_le → ZbI
namespace Go.Proofs.YtioijcfcehhmdaaGreatDoor.V
def sE:List cZ→Int
 |[]=>0
 |e::l=>e.count+sE l
def sL:List (List cZ)→Int
 |[]=>0
 |x::l=>sE x+sL l
theorem afM:∀ a b:List cZ,sE (a++b)=sE a+sE b
 |[],b=>by simp [sE]
 |e::a,b=>by simp only [Za3,sE,afM a b];omega
theorem afN:∀ a b:List (List cZ),sL (a++b)=sL a+sL b
 |[],b=>by simp [sL]
 |e::a,b=>by simp only [Za3,sL,afN a b];omega
theorem ai8 {l:List cZ}{i:Nat}(h:i<l.length):sE (l.take (i+1))=sE (l.take i)+l[i].count:=by
 rw [Zao h,afM];simp [sE]
theorem ai9 {l:List (List cZ)}{i:Nat}(h:i<l.length):sL (l.take (i+1))=sL (l.take i)+sE l[i]:=by
 rw [Zao h,afN];simp [sL]
def okS (x:List cZ):Prop:=x.length≤4096∧∀ e∈x,0≤e.count∧e.count≤4096
theorem akp:∀ {l:List cZ},(∀ e∈l,0≤e.count∧e.count≤4096)→0≤sE l∧sE l≤4096*(l.length:Int)
 |[],_=>by simp [sE]
 |e::l,h=>by
  have h1:=h e (by simp)
  have h2:=akp (l:=l) fun x hx=>h x (by simp [hx])
  simp only [sE,za]
  omega
theorem akq {l:List cZ}(h:okS l)(i:Nat):0≤sE (l.take i)∧sE (l.take i)≤16777216:=by
 have h1:=akp (l:=l.take i) fun e he=>h.2 e (Za2 he)
 have h2:=h.1
 have h3:(l.take i).length≤l.length:=by rw [Zac];omega
 omega
theorem amK {l:List cZ}(h:okS l):0≤sE l∧sE l≤16777216:=by
 have:=akq h l.length
 rwa [ZaI] at this
theorem akr:∀ {l:List (List cZ)},(∀ x∈l,okS x)→0≤sL l∧sL l≤16777216*(l.length:Int)
 |[],_=>by simp [sL]
 |x::l,h=>by
  have h1:=amK (h x (by simp))
  have h2:=akr (l:=l) fun y hy=>h y (by simp [hy])
  simp only [sL,za]
  omega
theorem apB {l:List (List cZ)}(h:∀ x∈l,okS x)(hl:l.length≤4096)(i:Nat):0≤sL (l.take i)∧sL (l.take i)≤68719476736:=by
 have h1:=akr (l:=l.take i) fun e he=>h e (Za2 he)
 have h3:(l.take i).length≤l.length:=by rw [Zac];omega
 omega
theorem aja {l:List cZ}{i:Nat}(h:i<l.length):(l.map cO)[i]?=some (.agg [.int .i64 l[i].start,.int .i64 l[i].count]):=by rw [zb,ZS h];rfl
theorem afO {l:List (List cZ)}{i:Nat}(h:i<l.length):(l.map mY)[i]?=some (.list 2 (l[i].map cO)):=by rw [zb,ZS h];rfl
theorem amL {ll:List (List cZ)}{x:List cZ}{c:Int}{j:Nat}(hc:0≤c∧c≤68719476736)(hx0:okS x){st:St}(h:st.head [6,8,10,17,22,23,24,27,28,29,30] st.boxes.length=some ⟨sl 41 [(6,.row 1 (ll.map mY)),(8,.pv (.int .i64 (c+sE (x.take ((0:Nat)))))),(10,.pv (.list 2 (x.map cO))),(17,.any),(22,.ref (.slot 6) 0 ll.length),(23,.pv (.int .i64 ll.length)),(24,.pv (.int .i64 j)),(27,.pv (.list 2 (x.map cO))),(28,.pv (.list 2 (x.map cO))),(29,.pv (.int .i64 x.length)),(30,.pv (.int .i64 (0:Nat)))],[],[],none⟩) :
  den env OJ st=some (.normal,⟨sl 41 [(4,.any),(5,.any),(6,.row 1 (ll.map mY)),(8,.pv (.int .i64 (c+sE x))),(17,.any),(22,.ref (.slot 6) 0 ll.length),(23,.pv (.int .i64 ll.length)),(24,.pv (.int .i64 j))],[],[],none⟩):=by
 unfold OJ
 refine bM (env:=env) (nb:=0) (x.length) (fun i=>⟨sl 41 [(6,.row 1 (ll.map mY)),(8,.pv (.int .i64 (c+sE (x.take (i))))),(10,.pv (.list 2 (x.map cO))),(17,.any),(22,.ref (.slot 6) 0 ll.length),(23,.pv (.int .i64 ll.length)),(24,.pv (.int .i64 j)),(27,.pv (.list 2 (x.map cO))),(28,.pv (.list 2 (x.map cO))),(29,.pv (.int .i64 x.length)),(30,.pv (.int .i64 i))],[],[],none⟩) (fun i=>some (.normal,⟨sl 41 [(4,.any),(5,.any),(6,.row 1 (ll.map mY)),(8,.pv (.int .i64 (c+sE x))),(17,.any),(22,.ref (.slot 6) 0 ll.length),(23,.pv (.int .i64 ll.length)),(24,.pv (.int .i64 j))],[],[],none⟩)) h (fun _=>rfl) (fun _=>by simp only [aG,bJ,Nat.reduceMul,Nat.reduceBEq,Nat.reduceLT,Nat.reduceLeDiff,Nat.reduceAdd,decide_true,zt,zm]) ?_ ?_
 ·intro i rb hi ih
  have hl:=hx0.1
  have hi1:=bF hi (zr hl (by decide))
  have F1:((i:Int)<(x.length:Int))=True:=eq_true (by omega)
  have hx:=aja hi
  have P2:∀ a b:PV,part [a,b] 0 (some 2)=some (.agg [a,b]):=fun _ _=>rfl
  have b1:=akq hx0 i
  have b2:=hx0.2 _ (zR hi)
  have W:IntKind.i64.wrap (c+sE (x.take i)+x[i].count)=c+sE (x.take (i+1)):=by rw [ai8 hi,bn (by omega)];omega
  simp only [OI,F1,hx,P2,W,au hi,Z2,aF,Nat.reduceMul,Nat.reduceBEq,Nat.reduceLT,Nat.reduceLeDiff,reduceCtorEq,Nat.reduceEqDiff,Nat.reduceAdd,Z1]
  rw [ih _ (by simp only [hi1,aF,Nat.reduceMul,Nat.reduceBEq,Nat.reduceLT,Nat.reduceLeDiff,reduceCtorEq,Nat.reduceEqDiff,Nat.reduceAdd,Z1]<;>rfl)]
 ·intro rb
  rw [ZaI]
  simp only [OI,Zap,Z2,aF,Nat.reduceMul,Nat.reduceBEq,Nat.reduceLT,Nat.reduceLeDiff,reduceCtorEq,Nat.reduceEqDiff,Nat.reduceAdd,Z1]
theorem afP {ll:List (List cZ)}(ho:∀ x∈ll,okS x)(hl:ll.length≤4096){st:St}(h:st.head [6,8,17,22,23,24] st.boxes.length=some ⟨sl 41 [(6,.row 1 (ll.map mY)),(8,.pv (.int .i64 (sL (ll.take ((0:Nat)))))),(17,.any),(22,.ref (.slot 6) 0 ll.length),(23,.pv (.int .i64 ll.length)),(24,.pv (.int .i64 (0:Nat)))],[],[],none⟩) :
  den env OM st=some (.normal,⟨sl 41 [(4,.any),(5,.any),(8,.pv (.int .i64 (sL ll)))],[],[],none⟩):=by
 unfold OM
 refine bM (env:=env) (nb:=0) (ll.length) (fun i=>⟨sl 41 [(6,.row 1 (ll.map mY)),(8,.pv (.int .i64 (sL (ll.take (i))))),(17,.any),(22,.ref (.slot 6) 0 ll.length),(23,.pv (.int .i64 ll.length)),(24,.pv (.int .i64 i))],[],[],none⟩) (fun i=>some (.normal,⟨sl 41 [(4,.any),(5,.any),(8,.pv (.int .i64 (sL ll)))],[],[],none⟩)) h (fun _=>rfl) (fun _=>by simp only [aG,bJ,Nat.reduceMul,Nat.reduceBEq,Nat.reduceLT,Nat.reduceLeDiff,Nat.reduceAdd,decide_true,zt,zm]) ?_ ?_
 ·intro i rb hi ih
  have hi1:=bF hi (zr hl (by decide))
  have F1:((i:Int)<(ll.length:Int))=True:=eq_true (by omega)
  have hx:=afO hi
  have b1:=apB ho hl i
  have hs:=ai9 hi
  simp only [OL,F1,hx,au hi,Z2,aF,Nat.reduceMul,Nat.reduceBEq,Nat.reduceLT,Nat.reduceLeDiff,reduceCtorEq,Nat.reduceEqDiff,Nat.reduceAdd,Z1]
  rw [amL (ll:=ll) (x:=ll[i]) (c:=sL (ll.take i)) (j:=i) b1 (ho _ (zR hi)) (by simp only [ZaQ,sE,Int.add_zero];simp only [aG,bJ,Nat.reduceMul,Nat.reduceBEq,Nat.reduceLT,Nat.reduceLeDiff,Nat.reduceAdd,decide_true,zt,zm]<;>rfl)]
  simp only [← hs,aF,Nat.reduceMul,Nat.reduceBEq,Nat.reduceLT,Nat.reduceLeDiff,reduceCtorEq,Nat.reduceEqDiff,Nat.reduceAdd,Z1]
  rw [ih _ (by simp only [hi1,aF,Nat.reduceMul,Nat.reduceBEq,Nat.reduceLT,Nat.reduceLeDiff,reduceCtorEq,Nat.reduceEqDiff,Nat.reduceAdd,Z1]<;>rfl)]
 ·intro rb
  rw [ZaI]
  simp only [OL,Zap,Z2,aF,Nat.reduceMul,Nat.reduceBEq,Nat.reduceLT,Nat.reduceLeDiff,reduceCtorEq,Nat.reduceEqDiff,Nat.reduceAdd,Z1]
theorem XT {a b:fG}(ha:a.length≤4096)(hv:∀ v∈a,v.length≤4096):(ny a b).length≤4096∧∀ x∈ny a b,okS x:=by
 unfold ny
 split
 ·unfold differ
  refine ⟨by rw [Z2,List.length_zip];omega,?_⟩
  intro x hx
  obtain ⟨q,hq,rfl⟩:=ZaY.1 hx
  have h1:=hv _ (List.of_mem_zip hq).1
  have e:Gu q.1 q.2=ext (dif q.1 q.2) q.1.length:=rfl
  rw [e]
  refine ⟨zr (Gx _ _) h1,?_⟩
  intro y hy
  have:=Az _ _ y hy
  omega
 ·exact ⟨by simp,fun x h=>by cases h⟩
theorem apC {a b:fG}(ha:a.length≤4096)(hb:b.length≤lim)(hv:∀ v∈a,v.length≤4096):cal env 17 [.list 1 (a.map aX),.list 1 (b.map aX)]=some [(.int .i64 (if kQ a b=0 then sL (ny a b) else 0),false),(.int .i64 (kQ a b),false)]:=by
 have hl:lim=1073741824:=rfl
 have e1:=apv (a:=a) (b:=b) (by omega) hb (fun v h=>by have:=hv v h;omega)
 obtain ⟨h1,h2⟩:=XT (a:=a) (b:=b) ha hv
 by_cases c:kQ a b=0
 ·have F1:((0:Int) != 0)=false:=rfl
  rw [c] at e1
  rw [if_pos c,c]
  rw [ah aj6 rfl];simp only [aaY,aG,Nat.reduceBEq,Nat.reduceLeDiff,Nat.reduceAdd,za,zd]
  simp only [e1,F1,Z2,aF,Nat.reduceMul,Nat.reduceBEq,Nat.reduceLT,Nat.reduceLeDiff,reduceCtorEq,Nat.reduceEqDiff,Nat.reduceAdd,Z1]
  rw [afP h2 h1]
  rotate_left
  ·simp only [ZaQ,sL];simp only [aG,bJ,Nat.reduceMul,Nat.reduceBEq,Nat.reduceLT,Nat.reduceLeDiff,Nat.reduceAdd,decide_true,zt,zm]<;>rfl
  ·simp only [aF,Nat.reduceMul,Nat.reduceBEq,Nat.reduceLT,Nat.reduceLeDiff,reduceCtorEq,Nat.reduceEqDiff,Nat.reduceAdd,Z1]
 ·have F1:(kQ a b != 0)=true:=by simp [c]
  rw [if_neg c]
  rw [ah aj6 rfl];simp only [aaY,aG,Nat.reduceBEq,Nat.reduceLeDiff,Nat.reduceAdd,za,zd]
  simp only [e1,F1,aF,Nat.reduceMul,Nat.reduceBEq,Nat.reduceLT,Nat.reduceLeDiff,reduceCtorEq,Nat.reduceEqDiff,Nat.reduceAdd,Z1]
theorem ajb {l:List (List cZ)}{i:Nat}(h:i<l.length):(l.map wH)[i]?=some (.list 2 (l[i].map cO)):=by rw [zb,ZS h];rfl
end Go.Proofs.YtioijcfcehhmdaaGreatDoor.V
namespace Go.Proofs.YtioijcfcehhmdaaGreatDoor
open Go.RowKit
abbrev oH:Rep (List fE):=Yl AL
abbrev Wr:=Int×Int×List fE
abbrev wrR:Rep Wr:=QW xE (QW xE oH)
def ajd:fE:=Vector.replicate 8 0
theorem Tryz.mixed:Tryz.prog.follows .mixedOrders=true:=by kernel_rfl
theorem Tryz.aks:uq Tryz.prog 33 3 1 8 (.int .i64 0):=⟨Tryz.underlying33,by kernel_rfl,rfl,by decide⟩
theorem Tryz.akt:uq Tryz.prog 66 68 8 8 (.agg #[.int .u8 0,.int .u8 0,.int .u8 0,.int .u8 0,.int .u8 0,.int .u8 0,.int .u8 0,.int .u8 0]):=⟨Tryz.underlying66,by kernel_rfl,rfl,by decide⟩
theorem Tryz.afQ:uq Tryz.prog 26 66 1 24 (.slice none 0 0):=⟨Tryz.underlying26,by kernel_rfl,rfl,by decide⟩
theorem qV {k:IntKind}{a b:Int}(h:a=b):Ending.returned (.int k a)=.returned (.int k b):=by rw [h]
theorem yF {a b:Bool}(h:a=b):Ending.returned (.bool a)=.returned (.bool b):=by rw [h]
theorem abD {n:Nat}(h:n≤maxLen):pR (n:Int):=by unfold pR maxLen at *;omega
theorem Sl.i64 {α:Type}{r:Rep α}{ok:Nat→Prop}{w:World}{a:Option Addr}{n c:Nat}{l:List α}(h:Sl r ok w a n c l):pR (n:Int):=abD (zr h.cap h.bnd)
theorem Sl.small {α:Type}{r:Rep α}{ok:Nat→Prop}{w:World}{a:Option Addr}{n c:Nat}{l:List α}(h:Sl r ok w a n c l):n≤9223372036854775807:=by
 have:=zr h.cap h.bnd;unfold maxLen at this;omega
theorem KY {α:Type}{p:α→Bool}{l:List α}{k:Nat}{x:α}(h:l[k]?=some x):(l.take (k+1)).any p=((l.take k).any p || p x):=by
 rw [Zb1,h];simp
theorem any_true {α:Type}{p:α→Bool}{l:List α}{k:Nat}{x:α}(h:l[k]?=some x)(hp:p x=true):l.any p=true:=by
 rw [Zdj];exact ⟨x,Zab h,hp⟩
theorem pI {α:Type}{l:List α}{k:Nat}{x:α}(h:l[k]?=some x):l.take (k+1)=l.take k++[x]:=by
 rw [Zb1,h];rfl
theorem CP {α:Type}{l:List α}{n:Nat}(h:l.length=n):l.take n=l:=Zbm (by omega)
def ou (n:Int):Bool:=decide (n<1) || decide (4096<n)
def iL (l:List Int):Int:=if l.length<1∨8<l.length then 6 else if l.any ou then 2 else 0
def lens (im:List (List fE)):List Int:=im.map fun v=>(v.length:Int)
def sG (im:List (List fE)):Int:=iL (lens im)
def lF (sizes:List Int)(vol start:Int)(len:Nat):Int :=
 if vol<0∨(sizes.length:Int)≤vol then 7 else if len=0 then 1
 else if start<0∨sizes.getD vol.toNat 0≤start∨sizes.getD vol.toNat 0 - start<len then 2 else 0
theorem Gy {α:Type}{l:List α}{k:Nat}{x d:α}(h:l[k]?=some x):l.getD k d=x:=by simp [List.getD,h]
def kN (im:List (List fE))(vol start:Int)(len:Nat):Int:=if sG im≠0 then sG im else lF (lens im) vol start len
theorem YU {x:Int}{w:World}(_hx:pR x):Calls Tryz.prog 148 #[.int .i64 x] w fun e w'=>e=.returned (.bool (ou x))∧Below w.heap.size w w':=by
 by_cases h1:x<1
 ·go_enter Tryz.func148,Tryz.ntmps148
  go_wp2
  go_ret
  exact ⟨yF (by simp [ou,h1]),Below.refl _ _⟩
 ·by_cases h2:4096<x
  ·go_enter Tryz.func148,Tryz.ntmps148
   go_wp2
   go_ret
   exact ⟨yF (by simp [ou,h2]),Below.refl _ _⟩
  ·go_enter Tryz.func148,Tryz.ntmps148
   go_wp2
   go_ret
   exact ⟨yF (by simp [ou];omega),Below.refl _ _⟩
set_option maxHeartbeats 1000000 in
theorem Ef {a:Option Addr}{n c:Nat}{l:List Int}{ok:Nat→Prop}{w:World}(h:Sl xE ok w a n c l) :
  Calls Tryz.prog 151 #[.slice a n c,.func (.func 148) #[] #[]] w fun e w'=>∃ z:Int,e=.returned (.int .i64 z)∧(0≤z ↔ l.any ou=true)∧pR z∧Below w.heap.size w w':=by
 have hs:=h.small
 go_enter Tryz.func151,Tryz.ntmps151
 go_wp2
 go_loopw [5,8] (fun _ i wr=>∃ k:Nat,k≤n∧i=.int .i64 k∧Hid ((l.take k).any ou=false)∧Below w.heap.size w wr) (fun _ i _=>n - (intOf i).toNat)
 case atStart=>exact ⟨0,ZaM _,rfl,rfl,Below.refl _ _⟩
 case round =>
  obtain ⟨k,hk,rfl,HT,hB⟩:=hrel
  by_cases hlt:k<n
  ·obtain ⟨b,off,rfl,_,_⟩:=h.addr hlt
   obtain ⟨x,hx⟩:=h.get hlt
   obtain ⟨hcell,hi⟩:=(h.below hB).int hx
   have HX:=Lib.hid hx
   clear hx
   cases hp:ou x with
   |true =>
    have HP:=Lib.hid hp
    have hcall:=YU (w:=wr) hi
    rw [hp] at hcall
    clear hp
    go_wp2_with (fail)
    refine hcall.mono ?_
    rintro e w1 ⟨rfl,hB1⟩
    go_wp2
    go_ret
    exact ⟨k,rfl,by rw [any_true HX.out HP.out];simp,by unfold pR;omega,hB.trans (hB1.mono hB.size)⟩
   |false =>
    have HP:=Lib.hid hp
    have hcall:=YU (w:=wr) hi
    rw [hp] at hcall
    clear hp
    go_wp2_with (fail)
    refine hcall.mono ?_
    rintro e w1 ⟨rfl,hB1⟩
    go_wp2
    go_roundw
    case rel=>exact ⟨k+1,by omega,by go_num,by show _=false;rw [KY HX.out,HT.out,HP.out];rfl,hB.trans (hB1.mono hB.size)⟩
    case measure=>simp [intOf];omega
  ·go_wp2
   go_ret
   obtain rfl:k=n:=by omega
   have e:=HT.out
   rw [CP h.len] at e
   exact ⟨-1,rfl,by rw [e];simp,by unfold pR;omega,hB⟩
theorem Qp {a:Option Addr}{n c:Nat}{l:List Int}{ok:Nat→Prop}{w:World}(h:Sl xE ok w a n c l) :
  Calls Tryz.prog 129 #[.slice a n c,.func (.func 148) #[] #[]] w fun e w'=>e=.returned (.bool (l.any ou))∧Below w.heap.size w w':=by
 go_enter Tryz.func129,Tryz.ntmps129
 go_wp2_with fail
 refine (Ef h).mono ?_
 rintro e w1 ⟨z,rfl,hz,hi,hB⟩
 unfold pR at hi
 cases hp:l.any ou with
 |true =>
  have hz0:0≤z:=hz.2 hp
  have HP:=Lib.hid hp
  clear hz hp
  go_wp2
  go_ret
  exact ⟨yF HP.out.symm,hB⟩
 |false =>
  have hz0:z<0:=by rw [hp] at hz;simp at hz;omega
  have HP:=Lib.hid hp
  clear hz hp
  go_wp2
  go_ret
  exact ⟨yF (by rw [HP.out];simp;omega),hB⟩
theorem JD {a:Option Addr}{n c:Nat}{l:List Int}{ok:Nat→Prop}{w:World}(h:Sl xE ok w a n c l) :
  Calls Tryz.prog 124 #[.slice a n c] w fun e w'=>e=.returned (.int .i64 (iL l))∧Below w.heap.size w w':=by
 have hs:=h.small
 by_cases hn1:n<1
 ·obtain rfl:n=0:=by omega
  go_enter Tryz.func124,Tryz.ntmps124
  go_wp2
  go_ret
  exact ⟨by simp [iL,h.len],Below.refl _ _⟩
 by_cases hn8:8<n
 ·go_enter Tryz.func124,Tryz.ntmps124
  go_wp2
  go_ret
  exact ⟨qV (by rw [iL,if_pos (by rw [h.len];exact .inr hn8)]),Below.refl _ _⟩
 go_enter Tryz.func124,Tryz.ntmps124
 go_wp2_with fail
 refine (Qp h).mono ?_
 rintro e w1 ⟨rfl,hB⟩
 cases hp:l.any ou with
 |true =>
  have HP:=Lib.hid hp;clear hp
  go_wp2
  go_ret
  exact ⟨qV (by rw [iL,if_neg (by rw [h.len];omega),if_pos HP.out]),hB⟩
 |false =>
  have HP:=Lib.hid hp;clear hp
  go_wp2
  go_ret
  exact ⟨qV (by rw [iL,if_neg (by rw [h.len];omega),HP.out];rfl),hB⟩
theorem afR {a:Option Addr}{n c:Nat}{l:List fE}{ok:Nat→Prop}{w:World}(h:Sl AL ok w a n c l) :
  Calls Tryz.prog 139 #[.slice a n c] w fun e w'=>∃ z:Int,e=.returned (.int .i64 z)∧xE.rd (w.heap.size≤·) w' [.int .i64 z] (l.length:Int)∧Below w.heap.size w w':=by
 have hs:=h.small
 go_enter Tryz.func139,Tryz.ntmps139
 go_wp2
 go_ret
 exact ⟨_,rfl,⟨by rw [h.len],by rw [h.len];exact h.i64⟩,Below.refl _ _⟩
set_option maxHeartbeats 1000000 in
theorem XU {a:Option Addr}{n c:Nat}{l:List (List fE)}{ok:Nat→Prop}{w:World}(h:Sl oH ok w a n c l)(hn:n≤1000000) :
  Calls Tryz.prog 138 #[.slice a n c,.func (.func 139) #[] #[]] w fun e w'=>∃ v,e=.returned v∧lQ xE w.heap.size w'.heap.size 3 w' v (l.map (fun v:List fE=>(v.length:Int)))∧Below w.heap.size w w':=by
 go_enter Tryz.func138,Tryz.ntmps138
 go_wp2_with (at_make;refine Ce (r:=xE) (B:=w.heap.size) Tryz.aks rfl _ _ rfl rfl rfl ?b2 ?b3 ?b4 ?_)
 case b2=>omega
 case b3=>unfold maxLen;omega
 case b4=>exact ze _
 intro w0 hown0 hB0
 have hs:=h.small
 go_wp2
 go_loopw [5,13] (fun v i wr=>∃ k:Nat,k≤n∧i=.int .i64 k∧lQ xE w.heap.size wr.heap.size 3 wr v ((l.map (fun v:List fE=>(v.length:Int))).take k)∧Below w.heap.size w wr) (fun _ i _=>n - (intOf i).toNat)
 case atStart=>exact ⟨0,ZaM _,rfl,hown0 _,hB0⟩
 case round =>
  obtain ⟨k,hk,rfl,hown,hB⟩:=hrel
  by_cases hlt:k<n
  ·obtain ⟨b,off,rfl,_,_⟩:=h.addr hlt
   obtain ⟨x,hx⟩:=h.get hlt
   obtain ⟨a',n',c',hcell,hx'⟩:=(h.below hB).slice hx
   have hlen:((l.map (fun v:List fE=>(v.length:Int))).take k).length=k:=by have:=h.len;simp;omega
   have HL:=Lib.hid hlen;clear hlen
   have HX:=Lib.hid hx;clear hx
   go_wp2_with (fail)
   refine (afR hx').mono ?_
   rintro e w1 ⟨z,rfl,hrd,hB1⟩
   have UZ:=hown.lt
   have hz1:=hB1.size
   have hz:=hB.size
   go_wp2_with (at_builtin;refine E5 Tryz.aks rfl _ _ rfl rfl ((hown.below hB1).below ((Below.refl _ _).alloc (ze _) _)) rfl (UH w1 3 #[.int .i64 z]) (UJ hrd) (fun k hk=>(UZ k hk).2) ?c1 ?c2 ?c3 ?c4 ?_)
   case c1=>rw [HL.out];unfold maxLen;omega
   case c2=>rw [HL.out];omega
   case c3=>omega
   case c4=>simp;omega
   intro v' w2 hown1 hgrow _
   go_wp2
   go_roundw
   case rel=>exact ⟨k+1,by omega,by go_num,by
    have e:(l.map (fun v:List fE=>(v.length:Int))).take (k+1)=(l.map (fun v:List fE=>(v.length:Int))).take k++[(fun v:List fE=>(v.length:Int)) x]:=pI (by rw [zb,HX.out];rfl)
    rw [e];exact hown1,((hB.trans (hB1.mono hB.size)).alloc (by omega) _).grown hgrow (by simp;omega) (fun k hk=>(UZ k hk).1)⟩
   case measure=>simp [intOf];omega
  ·go_wp2
   go_ret
   obtain rfl:k=n:=by omega
   rw [CP (by rw [Z2];exact h.len)] at hown
   exact ⟨_,rfl,hown,hB⟩
theorem XV {a:Option Addr}{n c:Nat}{im:List (List fE)}{ok:Nat→Prop}{w:World}(h:Sl oH ok w a n c im)(hn:n≤1000000) :
  Calls Tryz.prog 116 #[.slice a n c] w fun e w'=>∃ a' n' c',e=.returned (.slice a' n' c')∧Sl xE (w.heap.size≤·) w' a' n' c' (lens im)∧Below w.heap.size w w':=by
 go_enter Tryz.func116,Tryz.ntmps116
 go_wp2_with fail
 refine (XU h hn).mono ?_
 rintro e w1 ⟨v,rfl,hown,hB⟩
 obtain ⟨a',n',c',rfl,h1⟩:=hown.sl
 go_wp2
 go_ret
 exact ⟨_,_,_,rfl,h1,hB⟩
theorem JE {a:Option Addr}{n c:Nat}{im:List (List fE)}{ok:Nat→Prop}{w:World}(h:Sl oH ok w a n c im)(hn:n≤1000000) :
  Calls Tryz.prog 85 #[.slice a n c] w fun e w'=>e=.returned (.int .i64 (sG im))∧Below w.heap.size w w':=by
 go_enter Tryz.func85,Tryz.ntmps85
 go_wp2_with fail
 refine (XV h hn).mono ?_
 rintro e w1 ⟨a',n',c',rfl,h1,hB⟩
 go_wp2_with fail
 refine (JD h1).mono ?_
 rintro e w2 ⟨rfl,hB2⟩
 go_wp2
 go_ret
 exact ⟨rfl,hB.trans (hB2.mono hB.size)⟩
def YV {α:Type}(e:Int)(l:List α):List α:=if e=0 then l else []
theorem afS {α:Type}{e:Int}{l:List α}(h:e=0):YV e l=l:=if_pos h
theorem abE {α:Type}{e:Int}{l:List α}(h:¬ e=0):YV e l=[]:=if_neg h
def zeros (n:Int):List fE:=Zal n.toNat ajd
def oZ (l:List Int):List (List fE):=l.map zeros
set_option maxHeartbeats 1000000 in
theorem abG {a:Option Addr}{n c:Nat}{l:List fE}{ok:Nat→Prop}{w:World}(h:Sl AL ok w a n c l)(hn:n≤1000000) :
  Calls Tryz.prog 95 #[.slice a n c] w fun e w'=>∃ a' n' c',e=.returned (.slice a' n' c')∧(jG AL 68).rd (w.heap.size≤·) w' [.slice a' n' c'] l∧Below w.heap.size w w':=by
 have heq:=fun (a:Option Addr) (n c:Nat) (w:World)=>Lib.run_eql_slice_nil (P:=Tryz.prog) w 66 68 a n c 0 0 Tryz.underlying66
 cases a with
 |none =>
  have h0:l=[]:=Zaz (by rw [h.len];have:=h.nil rfl;have:=h.cap;omega)
  have H0:=Lib.hid h0;clear h0
  go_enter Tryz.func95,Tryz.ntmps95
  go_wp2
  go_ret
  refine ⟨_,_,_,rfl,?_,Below.refl _ _⟩
  rw [H0.out]
  exact jG.mk (Own.nil _ _ _ _ _) (fun _=>.inl rfl)
 |some ad =>
  have hs:=h.small
  go_enter Tryz.func95,Tryz.ntmps95
  go_wp2_with (at_builtin;refine zM Tryz.akt rfl _ _ rfl rfl (Own.amu AL (ok:=fun _=>False) (ze _)) rfl ((Src.Ym (h.below ((Below.refl _ _).alloc (ze _) _))).flat Flat.sec) ?c1 ?c2 ?c3 ?_)
  case c1=>simp;unfold maxLen;omega
  case c2=>simp;omega
  case c3=>simp
  intro v' w1 hown hgrow hat
  obtain ⟨a',n',c',rfl,_⟩:=hown.sl
  go_wp2
  go_ret
  refine ⟨_,_,_,rfl,jG.mk (by simpa using hown) (fun e=>?_),((Below.refl _ _).alloc (ze _) _).grown hgrow (by simp) (fun k hk=>by cases hk;exact ze _)⟩
  subst e
  obtain ⟨xs,h1,_⟩:=hown
  rcases h1.2 with ⟨hv,_⟩|⟨g,cap,cur,hv,_⟩
  ·exact .inl hv
  ·exact .inr ⟨g,cap,by simpa using hv⟩
def sH (v:List fE):List fE:=v
theorem afT (l:List (List fE)):l.map sH=l:=List.map_id l
abbrev qW:Rep (List fE):=jG AL 68
set_option maxHeartbeats 1000000 in
theorem Qq {a:Option Addr}{n c:Nat}{l:List (List fE)}{ok:Nat→Prop}{w:World}(h:Sl oH ok w a n c l)(hn:n≤1000000)(hv:∀ v∈l,v.length≤1000000) :
  Calls Tryz.prog 125 #[.slice a n c,.func (.func 95) #[] #[]] w fun e w'=>∃ v,e=.returned v∧lQ qW w.heap.size w'.heap.size 66 w' v (l.map sH)∧Below w.heap.size w w':=by
 go_enter Tryz.func125,Tryz.ntmps125
 go_wp2_with (at_make;refine Ce (r:=qW) (B:=w.heap.size) Tryz.afQ rfl _ _ rfl rfl rfl ?b2 ?b3 ?b4 ?_)
 case b2=>omega
 case b3=>unfold maxLen;omega
 case b4=>exact ze _
 intro w0 hown0 hB0
 have hs:=h.small
 go_wp2
 go_loopw [5,13] (fun v i wr=>∃ k:Nat,k≤n∧i=.int .i64 k∧lQ qW w.heap.size wr.heap.size 66 wr v ((l.map sH).take k)∧Below w.heap.size w wr) (fun _ i _=>n - (intOf i).toNat)
 case atStart=>exact ⟨0,ZaM _,rfl,hown0 _,hB0⟩
 case round =>
  obtain ⟨k,hk,rfl,hown,hB⟩:=hrel
  by_cases hlt:k<n
  ·obtain ⟨b,off,rfl,_,_⟩:=h.addr hlt
   obtain ⟨x,hx⟩:=h.get hlt
   obtain ⟨a',n',c',hcell,hx'⟩:=(h.below hB).slice hx;have hv':=hv x (Zab hx)
   have hlen:((l.map sH).take k).length=k:=by have:=h.len;simp;omega
   have HL:=Lib.hid hlen;clear hlen
   have HX:=Lib.hid hx;clear hx
   go_wp2_with (fail)
   refine (abG hx' (by rw [← hx'.len];exact hv')).mono ?_
   rintro e w1 ⟨a2,n2,c2,rfl,hrd,hB1⟩
   have UZ:=hown.lt
   have hz1:=hB1.size
   have hz:=hB.size
   go_wp2_with (at_builtin;refine E5 Tryz.afQ rfl _ _ rfl rfl ((hown.below hB1).below ((Below.refl _ _).alloc (ze _) _)) rfl (UH w1 66 #[.slice a2 n2 c2]) (UJ hrd) (fun k hk=>(UZ k hk).2) ?c1 ?c2 ?c3 ?c4 ?_)
   case c1=>rw [HL.out];unfold maxLen;omega
   case c2=>rw [HL.out];omega
   case c3=>omega
   case c4=>simp;omega
   intro v' w2 hown1 hgrow _
   go_wp2
   go_roundw
   case rel=>exact ⟨k+1,by omega,by go_num,by
    have e:(l.map sH).take (k+1)=(l.map sH).take k++[sH x]:=pI (by rw [zb,HX.out];rfl)
    rw [e];exact hown1,((hB.trans (hB1.mono hB.size)).alloc (by omega) _).grown hgrow (by simp;omega) (fun k hk=>(UZ k hk).1)⟩
   case measure=>simp [intOf];omega
  ·go_wp2
   go_ret
   obtain rfl:k=n:=by omega
   rw [CP (by rw [Z2];exact h.len)] at hown
   exact ⟨_,rfl,hown,hB⟩
theorem XW {a:Option Addr}{n c:Nat}{im:List (List fE)}{ok:Nat→Prop}{w:World}(h:Sl oH ok w a n c im)(hn:n≤1000000)(hv:∀ v∈im,v.length≤1000000) :
  Calls Tryz.prog 88 #[.slice a n c] w fun e w'=>∃ v,e=.returned v∧lQ qW w.heap.size w'.heap.size 66 w' v im∧Below w.heap.size w w':=by
 go_enter Tryz.func88,Tryz.ntmps88
 go_wp2_with fail
 refine (Qq h hn hv).mono ?_
 rintro e w1 ⟨v,rfl,hown,hB⟩
 go_wp2
 go_ret
 exact ⟨_,rfl,by rw [afT] at hown;exact hown,hB⟩
theorem Sl.imp {α:Type}{r s:Rep α}{ok:Nat→Prop}{w:World}{a:Option Addr}{n c:Nat}{l:List α}(hz:s.sz=r.sz)(hi:∀ cs x,r.rd ok w cs x→s.rd ok w cs x)(h:Sl r ok w a n c l):Sl s ok w a n c l :=
 ⟨h.len,h.cap,h.bnd,h.nil,h.cells.imp id fun ⟨b,off,e,hb,hl,hc⟩=>⟨b,off,e,hb,hl,fun i x hx=>let ⟨cs,g1,g2⟩:=hc i x hx;⟨cs,by rw [hz];exact g1,hi cs x g2⟩⟩⟩
theorem Qr {ok:Nat→Prop}{w:World}{cs:List Value}{x:List fE}(h:qW.rd ok w cs x):oH.rd ok w cs x:=by
 obtain ⟨v,rfl,h1⟩:=h
 obtain ⟨a,n,c,rfl,h2⟩:=jG.sl Flat.sec (v:=v) ⟨v,rfl,h1⟩
 exact ⟨a,n,c,rfl,h2⟩
theorem lQ.img {B F:Nat}{E:TypeId}{w:World}{v:Value}{im:List (List fE)}(h:lQ qW B F E w v im):∃ a n c,v=.slice a n c∧Sl oH (B≤·) w a n c im :=
 let ⟨a,n,c,e,h⟩:=h.sl;⟨a,n,c,e,Sl.imp (r:=qW) (s:=oH) rfl (fun _ _ g=>Qr g) h⟩
set_option maxHeartbeats 2000000 in
theorem Nk {a:Option Addr}{n c:Nat}{im:List (List fE)}{ok:Nat→Prop}{w:World}(h:Sl oH ok w a n c im){vol start:Int}(hv:pR vol)(hst:pR start)
  {da:Option Addr} {dn dc:Nat} (hd:dn≤9223372036854775807) :
  Calls Tryz.prog 89 #[.slice a n c,.agg #[.int .i64 vol,.int .i64 start,.slice da dn dc]] w fun e w'=>e=.returned (.int .i64 (lF (lens im) vol start dn))∧Below w.heap.size w w':=by
 have hs:=h.small
 unfold pR at hv hst
 have hlen:(lens im).length=n:=by simp [lens,h.len]
 have HL:=Lib.hid hlen;clear hlen
 have hB0:Below w.heap.size w (w.alloc (.cells #[.int .i64 vol,.int .i64 start,.slice da dn dc] 81)):=(Below.refl _ _).alloc (ze _) _
 by_cases h1:vol<0
 ·go_enter Tryz.func89,Tryz.ntmps89
  go_wp2
  go_ret
  exact ⟨qV (by rw [lF,if_pos (.inl h1)]),hB0⟩
 obtain ⟨k,rfl⟩:=ZbI (Int.not_lt.1 h1)
 by_cases h2:n≤k
 ·go_enter Tryz.func89,Tryz.ntmps89
  go_wp2
  go_ret
  exact ⟨qV (by rw [lF,if_pos (.inr (by rw [HL.out];omega))]),hB0⟩
 have hlt:k<n:=by omega
 obtain ⟨b,off,rfl,_,_⟩:=h.addr hlt
 obtain ⟨x,hx⟩:=h.get hlt
 have HX:Hid ((lens im)[k]?=some (x.length:Int)):=by show _=_;rw [lens,zb,hx];rfl
 obtain ⟨a',n',c',hcell,hx'⟩:=(h.below hB0).slice hx
 have hs':=hx'.small
 have hn':=hx'.len
 have HN:=Lib.hid hn';clear hn'
 clear hx
 by_cases h3:dn=0
 ·subst h3
  go_enter Tryz.func89,Tryz.ntmps89
  go_wp2
  go_ret
  exact ⟨qV (by rw [lF,if_neg (by rw [HL.out];omega),if_pos rfl]),hB0⟩
 have h3':0<dn:=by omega
 clear h3
 by_cases h4:start<0
 ·have d1:decide (start<0)=true:=by simp;omega
  go_enter Tryz.func89,Tryz.ntmps89
  go_wp2_with fail
  refine wp_region_quiet_lit (by kernel_rfl) (by kernel_rfl) ?_
  repeat (go_big_quiet_step (fail))
  refine wpQuiet_nil ?_
  rintro _ ⟨nq,rfl⟩
  go_wp2
  go_ret
  exact ⟨qV (by rw [lF,if_neg (by rw [HL.out];omega),if_neg (by omega),if_pos (.inl h4)]),below_drewN hB0 _⟩
 have h4':0≤start:=by omega
 have d1:decide (start<0)=false:=by simp;omega
 by_cases h5:(n':Int) - dn<start
 ·have d2:decide ((n':Int) - dn<start)=true:=by simp;omega
  go_enter Tryz.func89,Tryz.ntmps89
  go_wp2_with fail
  refine wp_region_quiet_lit (by kernel_rfl) (by kernel_rfl) ?_
  repeat (go_big_quiet_step (fail))
  refine wpQuiet_nil ?_
  rintro _ ⟨nq,rfl⟩
  go_wp2
  go_ret
  exact ⟨qV (by rw [lF,if_neg (by rw [HL.out];omega),if_neg (by omega),if_pos (by rw [ZaG,Gy HX.out,HN.out];omega)]),below_drewN hB0 _⟩
 ·have h5':start≤(n':Int) - dn:=by omega
  have d2:decide ((n':Int) - dn<start)=false:=by simp;omega
  go_enter Tryz.func89,Tryz.ntmps89
  go_wp2_with fail
  refine wp_region_quiet_lit (by kernel_rfl) (by kernel_rfl) ?_
  repeat (go_big_quiet_step (fail))
  refine wpQuiet_nil ?_
  rintro _ ⟨nq,rfl⟩
  go_wp2
  go_ret
  exact ⟨qV (by rw [lF,if_neg (by rw [HL.out];omega),if_neg (by omega),if_neg (by rw [ZaG,Gy HX.out,HN.out];omega)]),below_drewN hB0 _⟩
theorem Tryz.apD:(Tryz.prog.info? 68).map (·.size)=some 8:=by kernel_rfl
def CQ (l:List fE)(s:Nat)(d:List fE):List fE:=l.take s++d++l.drop (s+d.length)
def FU (im:List (List fE))(x:Wr):List (List fE):=im.set x.1.toNat (CQ (im.getD x.1.toNat []) x.2.1.toNat x.2.2)
def qp (sz:List Int)(x:Wr):Int:=lF sz x.1 x.2.1 x.2.2.length
def eG (sz:List Int):List Wr→Nat→Int×Int
 |[],_=>(0,0)
 |x::l,i=>if qp sz x≠0 then (i,qp sz x) else eG sz l (i+1)
def sJ (im:List (List fE))(l:List Wr):List (List fE):=if sG im≠0 then [] else YV (eG (lens im) l 0).2 (l.foldl FU im)
def sK (im:List (List fE))(l:List Wr):Int:=if sG im≠0 then 0 else (eG (lens im) l 0).1
def sN (im:List (List fE))(l:List Wr):Int:=if sG im≠0 then sG im else (eG (lens im) l 0).2
def sO (w:World)(im:List (List fE))(l:List Wr):Ending→World→Prop:=fun e w' =>
 ∃ a n c,e=.returned (.tuple #[.slice a n c,.int .i64 (sK im l),.int .i64 (sN im l)])∧Sl oH (w.heap.size≤·) w' a n c (sJ im l)∧(a=none∨sN im l=0)∧Below w.heap.size w w'
theorem sO.mk {w w':World}{im:List (List fE)}{l:List Wr}{a:Option Addr}{n c:Nat}{i e:Int}(hi:i=sK im l)(he:e=sN im l)(h:Sl oH (w.heap.size≤·) w' a n c (sJ im l))(hz:a=none∨sN im l=0)(hB:Below w.heap.size w w') :
  sO w im l (.returned (.tuple #[.slice a n c,.int .i64 i,.int .i64 e])) w':=⟨a,n,c,by rw [hi,he],h,hz,hB⟩
theorem KZ {sz:List Int}{l:List Wr}{k:Nat}{x:Wr}(hx:l[k]?=some x)(h:eG sz l 0=eG sz (l.drop k) k)(hf:qp sz x=0):eG sz l 0=eG sz (l.drop (k+1)) (k+1):=by
 obtain ⟨hk,rfl⟩:=Z6.1 hx
 rw [h,zw hk,eG,if_neg (by rw [hf];decide)]
theorem Qs {sz:List Int}{l:List Wr}{k:Nat}{x:Wr}(hx:l[k]?=some x)(h:eG sz l 0=eG sz (l.drop k) k)(hf:qp sz x≠0):eG sz l 0=((k:Int),qp sz x):=by
 obtain ⟨hk,rfl⟩:=Z6.1 hx
 rw [h,zw hk,eG,if_pos hf]
theorem Qu {sz:List Int}{l:List Wr}{k:Nat}(hk:l.length≤k)(h:eG sz l 0=eG sz (l.drop k) k):eG sz l 0=(0,0):=by
 rw [h,ZbN hk,eG]
theorem yG {l d:List fE}{s:Nat}(h:s+d.length≤l.length):(CQ l s d).length=l.length:=by
 unfold CQ;simp;omega
theorem YW {im:List (List fE)}{v s:Int}{d:List fE}(h:qp (lens im) (v,s,d)=0):0≤v∧v<im.length∧0<d.length∧0≤s∧∃ x,im[v.toNat]?=some x∧s+d.length≤x.length:=by
 unfold qp lF at h
 simp only at h
 split at h
 ·omega
 ·rename_i h1
  split at h
  ·omega
  ·rename_i h2
   split at h
   ·omega
   ·rename_i h3
    have h4:v.toNat<im.length:=by simp [lens] at h1;omega
    have e:(lens im).getD v.toNat 0=((im[v.toNat]'h4).length:Int):=by simp [lens,List.getD,h4]
    rw [e] at h3
    simp [lens] at h1
    exact ⟨by omega,by omega,by omega,by omega,_,ZS h4,by omega⟩
theorem U0 {im:List (List fE)}{x:Wr}(h:qp (lens im) x=0):lens (FU im x)=lens im:=by
 obtain ⟨v,s,d⟩:=x
 obtain ⟨h1,h2,h3,h4,y,hy,h5⟩:=YW h
 unfold lens FU
 rw [List.map_set]
 apply Zca
 intro i
 rw [zp]
 by_cases hi:v.toNat=i
 ·subst hi
  have hl:=(Z6.1 hy).1
  simp only [Z2,if_true,if_pos hl,zb,hy,Zah]
  rw [Gy hy,yG (by omega)]
 ·rw [if_neg hi]
set_option maxHeartbeats 4000000 in
theorem XY {a:Option Addr}{n c:Nat}{im:List (List fE)}{ok ok2:Nat→Prop}{w:World}(h:Sl oH ok w a n c im)(hn:n≤1000000)(hvs:∀ v∈im,v.length≤1000000)
  {la:Option Addr} {ln lc:Nat} {l:List Wr} (hl:Sl wrR ok2 w la ln lc l) :
  Calls Tryz.prog 38 #[.slice a n c,.slice la ln lc] w (sO w im l):=by
 by_cases he:sG im=0
 rotate_left
 ·have hb:(sG im != 0)=true:=by simp [he]
  have HE:=Lib.hid he;clear he
  go_enter Tryz.func38,Tryz.ntmps38
  go_wp2_with fail
  refine (JE h hn).mono ?_
  rintro e w1 ⟨rfl,hB1⟩
  go_wp2
  go_ret3
  exact sO.mk (by rw [sK,if_pos HE.out]) (by rw [sN,if_pos HE.out]) (by rw [sJ,if_pos HE.out];exact Sl.nil0 _ _ _) (.inl rfl) hB1
 have hb:(sG im != 0)=false:=by simp [he]
 have HE:=Lib.hid he;clear he
 have hls:=hl.small
 go_enter Tryz.func38,Tryz.ntmps38
 go_wp2_with fail
 refine (JE h hn).mono ?_
 rintro e w1 ⟨rfl,hB1⟩
 go_wp2_with fail
 refine (XW (h.below hB1) hn hvs).mono ?_
 rintro e w2 ⟨v0,rfl,hown0,hB2⟩
 have hB3:=hB1.trans (hB2.mono hB1.size)
 go_wp2
 go_loopw [21] (fun i wr=>∃ k:Nat,k≤ln∧i=.int .i64 k∧Hid (eG (lens im) l 0=eG (lens im) (l.drop k) k∧lens ((l.take k).foldl FU im)=lens im)∧lQ qW w1.heap.size wr.heap.size 66 wr v0 ((l.take k).foldl FU im)∧Below w1.heap.size w1 wr) (fun i _=>ln - (intOf i).toNat)
 case atStart=>exact ⟨0,ZaM _,rfl,⟨rfl,rfl⟩,hown0,hB2⟩
 case round =>
  obtain ⟨k,hk,rfl,HK,hown,hB⟩:=hrel
  by_cases hlt:k<ln
  ·obtain ⟨b,off,rfl,_,_⟩:=hl.addr hlt
   obtain ⟨⟨v,s,d⟩,hx⟩:=hl.get hlt
   obtain ⟨da,dn,dc,hc0,hc1,hc2,hv,hs,hd⟩:=(hl.below (hB1.trans (hB.mono hB1.size))).wr hx
   have HX:=Lib.hid hx;clear hx
   obtain ⟨a2,n2,c2,rfl,abH⟩:=hown.img
   generalize hcur:(l.take k).foldl FU im=cur at *
   have HC:=Lib.hid hcur;clear hcur
   have hds:=hd.small
   by_cases hf:lF (lens cur) v s dn=0
   rotate_left
   ·have hfb:(lF (lens cur) v s dn != 0)=true:=by simp [hf]
    have HF:=Lib.hid hf;clear hf
    go_wp2_with fail
    refine (Nk (abH.below ((Below.refl _ _).alloc (ze _) _)) hv hs hds).mono ?_
    rintro e w3 ⟨rfl,hB4⟩
    go_wp2
    go_ret3
    have e0:eG (lens im) l 0=((k:Int),lF (lens cur) v s dn):=by
     have e1:qp (lens im) (v,s,d)=lF (lens cur) v s dn:=by unfold qp;rw [HK.out.2,hd.len]
     rw [← e1]
     exact Qs HX.out HK.out.1 (by rw [e1];exact HF.out)
    exact sO.mk (by rw [sK,if_neg (by simp [HE.out]),e0]) (by rw [sN,if_neg (by simp [HE.out]),e0]) (by rw [sJ,if_neg (by simp [HE.out]),e0,abE HF.out];exact Sl.nil0 _ _ _) (.inl rfl)
     ((hB1.trans (hB.mono hB1.size)).trans (((Below.refl _ _).alloc (ze _) _).trans (hB4.mono (by simp)) |>.mono (zr hB1.size hB.size)))
   ·have hfb:(lF (lens cur) v s dn != 0)=false:=by simp [hf]
    have hfw:qp (lens cur) (v,s,d)=0:=by unfold qp;rw [hd.len];exact hf
    obtain ⟨h1,h2,h3,h4,x,hx,h5⟩:=YW hfw
    obtain ⟨v,rfl⟩:=ZbI h1
    obtain ⟨s,rfl⟩:=ZbI h4
    rw [ZaG] at hx
    have HFW:=Lib.hid hfw;clear hfw
    have HF:=Lib.hid hf;clear hf
    have hdn:0<dn:=by rw [← hd.len];exact h3
    have h5':s+dn≤x.length:=by rw [hd.len] at h5;omega
    have h2':v<n2:=by rw [← abH.len];omega
    go_wp2_with fail
    refine (Nk (abH.below ((Below.refl _ _).alloc (ze _) _)) hv hs hds).mono ?_
    rintro e w3 ⟨rfl,hB4⟩
    have hB5:Below wr.heap.size wr w3:=((Below.refl _ _).alloc (ze _) _).trans (hB4.mono (by simp))
    -- the row that is written
    obtain ⟨g,cap,cc,okk,hvv,hBg,hg,hcc,⟨u,rfl,hub,hu,_⟩,asc,hput⟩:=((hown.below hB5).below ((Below.refl _ _).drew)).at hx
    cases hvv
    have hu':=hu
    obtain ⟨xs,hrow,_⟩:=hu
    obtain ⟨gi,U1,rfl⟩:∃ gi U1,u=.slice (some ⟨gi,0,none⟩) x.length U1:=by
     rcases hrow.2 with ⟨_,h0⟩|⟨gi,U1,cur',hvu,_⟩
     ·omega
     ·exact ⟨gi,U1,hvu⟩
    have hcap:x.length≤U1:=by obtain ⟨_,_,_,e,q⟩:=hu'.sl;cases e;exact q.cap
    have hcell:w3.cell? ⟨g,v,none⟩=some (.slice (some ⟨gi,0,none⟩) x.length U1):=by have:=hcc 0 Nat.zero_lt_one;simpa [qW,jG] using this
    have hgi:=asc gi (hub gi rfl)
    have hw3:=hB5.size
    have hl0:=wI (g:=gi) (Qg hB4 (j:=0) rfl) (by show wr.heap.size≠gi;omega)
    have hl1:=wI (g:=gi) (Qg hB4 (j:=1) rfl) (by show wr.heap.size≠gi;omega)
    have hl2:=wI (g:=gi) (Qg hB4 (j:=2) rfl) (by show wr.heap.size≠gi;omega)
    have hl3:=wI (g:=gi) hcell (fun e=>hgi.2.2 e.symm)
    have hsl:=fun w=>UK Tryz.underlying66 Tryz.apD (some ⟨gi,0,none⟩) x.length U1 s (by omega) w
    have hsub:wJ (some ⟨gi,0,none⟩) U1 s 8=some ⟨gi,s*8,none⟩:=by unfold wJ;rw [if_neg (by omega)];simp [Addr.add_lit]
    rw [hsub] at hsl
    have HS:=Lib.hid hsub;clear hsub
    have avc:s≤x.length:=by omega
    clear h5 hcc
    go_wp2_with fail
    refine nI (fun w'=>∃ x:uK (w3) (gi),w'=x.w) [([0,1,2,3,4,5,6,7,8,9],10)] [] Tryz.mixed (by kernel_rfl) (uK.drew _ _) ?_
    refine l7 ?_
    simp only [pick,ZaO,ZaW,ZaL,ZaH,Zak]
    change wpQuiet _ _ _ _ [_,_,_,_,_,_,_,_,_,_] _
    repeat (go_big_quiet_step (fail))
    refine wpQuiet_nil ?_
    change wpList _ _ _ [_] _ _
    refine Jr Tryz.akt Flat.sec rfl _ _ rfl (s:=s) (r:=AL) rfl rfl hu' (ys:=d) (((hd.below hB5).below ((Below.refl _ _).drew))) (by omega) hdn (by omega) ?_
    intro w4 hrow4 abI arP
    have hgr:w3.grownBy w4 (some gi):=yB (grown_drew _ _) abI
    have hown4:=hput w4 (CQ x s d) (fun b hb hne=>abI.block b hb (fun e=>hne (by rw [ZD.inj e];exact hub gi rfl))) abI.os abI.tape abI.output abI.size ⟨_,rfl,hub,hrow4,fun e=>by
     have:=yG (l:=x) (d:=d) (s:=s) (by rw [hd.len];omega)
     rw [e] at this;simp at this;omega⟩
    have e1:FU cur ((v:Int),(s:Int),d)=cur.set v (CQ x s d):=by
     unfold FU;rw [ZaG,ZaG,Gy hx]
    have H1:=Lib.hid e1;clear e1
    have HXX:=Lib.hid hx;clear hx
    go_wp2_with fail
    refine ⟨uK.of hgr,?_⟩
    refine sZ ?_
    simp only [pick,ZaO,ZaW,ZaL,ZaH,Zak]
    change wpQuiet _ _ _ _ [] _
    repeat (go_big_quiet_step (fail))
    refine wpQuiet_nil ?_
    go_wp2
    go_roundw
    case rel =>
     refine ⟨k+1,by omega,by go_num,?_,?_,(hB.trans (hB5.mono hB.size)).grown hgr (by have:=hB.size;omega) (fun j hj=>by cases hj;omega)⟩
     ·show _∧_
      have hfw:qp (lens im) ((v:Int),(s:Int),d)=0:=by rw [← HK.out.2];exact HFW.out
      refine ⟨KZ HX.out HK.out.1 hfw,?_⟩
      rw [pI HX.out,Zcx,HC.out]
      show lens (FU cur _)=_
      rw [U0 HFW.out,HK.out.2]
     ·rw [pI HX.out,Zcx,HC.out]
      show lQ _ _ _ _ _ _ (FU cur _)
      rw [H1.out]
      exact hown4.up (by have:=hgr.size;omega)
    case measure=>simp [intOf];omega
  ·obtain rfl:k=ln:=by omega
   obtain ⟨a2,n2,c2,rfl,abH⟩:=hown.img
   go_wp2
   go_ret3
   have e0:=Qu (Nat.le_of_eq hl.len) HK.out.1
   rw [CP hl.len] at abH
   exact sO.mk (by rw [sK,if_neg (by simp [HE.out]),e0]) (by rw [sN,if_neg (by simp [HE.out]),e0]) (by rw [sJ,if_neg (by simp [HE.out]),e0,afS rfl];exact abH.mono fun b hb=>zr hB1.size hb) (.inr (by rw [sN,if_neg (by simp [HE.out]),e0]))
    (hB1.trans (hB.mono hB1.size))
end Go.Proofs.YtioijcfcehhmdaaGreatDoor
namespace Go.Proofs.YtioijcfcehhmdaaGreatDoor
open Go.RowKit V
theorem XZ {w:World}{b o:Nat}{u:Value}(h:w.cell? ⟨b,o,none⟩=some u):dD w b:=by
 unfold World.cell? at h
 simp only at h
 split at h
 ·rename_i e;exact ⟨_,_,_,e⟩
 ·cases h
theorem AA {α:Type}{r:Rep α}{enc:α→PV}{ok:Nat→Prop}{w:World}{l:List α}{sz:Nat}{v:Value}(hsz:sz=r.sz)(hc:∀ x,(enc x).cells.length=r.sz)
  (hr:∀ x∈l,∀ (cs:List Value),cs.length=r.sz→(∀ (j:Nat) p u,(enc x).cells[j]?=some p→cs[j]?=some u→aA ok w p u)→r.rd ok w cs x) (h:aA ok w (.list sz (l.map enc)) v):∃ a n c,v=.slice a n c∧Sl r ok w a n c l:=by
 generalize he:l.map enc=es at h
 cases h with
 |nil _ a =>
  have:l=[]:=by simpa using he
  subst this
  exact ⟨a,0,0,rfl,⟨rfl,ze _,ZaM _,fun _=>rfl,.inl rfl⟩⟩
 |list _ _ b off c cv h1 h2 h3 h4 h6 h7 h8 =>
  subst hsz he
  refine ⟨_,_,c,rfl,⟨by simp,h3,h4,(fun e=>by cases e),.inr ⟨b,off,rfl,h1,h2.lt,fun i x hx=>?_⟩⟩⟩
  have hi:(l.map enc)[i]?=some (enc x):=by simp [hx]
  refine ⟨(Zar r.sz).map (cv i),fun j hj=>?_,hr x (Zab hx) _ (by simp) fun j p u hp hu=>?_⟩
  ·have hj':j<(enc x).cells.length:=by rw [hc];exact hj
   rw [(h7 i _ j _ hi (ZS hj')).1]
   simp [hj]
  ·have hj:j<r.sz:=by have:=(Z6.1 hp).1;rw [hc] at this;exact this
   have:u=cv i j:=by simp [hj] at hu;exact hu.symm
   rw [this]
   exact h8 i _ j _ hi hp
theorem JF {α:Type}{r:Rep α}{enc:α→PV}{ok ok':Nat→Prop}{w:World}{l:List α}{a:Option Addr}{n c:Nat}(hk:∀ b,ok b→b<w.heap.size→ok' b)(hp0:0<r.sz)(hc:∀ x,(enc x).cells.length=r.sz)
  (hr:∀ x∈l,∀ (cs:List Value),cs.length=r.sz→r.rd ok w cs x→∀ (j:Nat) p u,(enc x).cells[j]?=some p→cs[j]?=some u→u.oneCell'=true∧aA ok' w p u) (hz:l=[]→c=0) (h:Sl r ok w a n c l):aA ok' w (.list r.sz (l.map enc)) (.slice a n c):=by
 obtain ⟨h1,h2,h3,h4,h5⟩:=h
 by_cases hl:l=[]
 ·have:=hz hl
  subst hl
  have:n=0:=by simpa using h1.symm
  subst this
  have:c=0:=by omega
  subst this
  exact .nil _ _
 ·rcases h5 with h5|⟨b,off,rfl,hb,hlt,h6⟩
  ·exact absurd (Zaz (by omega)) hl
  ·have hn:n=(l.map enc).length:=by simp [h1]
   rw [hn]
   have key:∀ (i:Nat) (x:α) (j:Nat) (p:PV),l[i]?=some x→(enc x).cells[j]?=some p→∃ u,w.cell? ⟨b,off+i*r.sz+j,none⟩=some u∧u.oneCell'=true∧aA ok' w p u:=by
    intro i x j p hx hp
    obtain ⟨cs,g1,g2⟩:=h6 i x hx
    have hj:j<r.sz:=by have:=(Z6.1 hp).1;rw [hc] at this;exact this
    have hl2:=r.len g2
    have hu:cs[j]?=some (cs[j]'(by omega)):=ZS (by omega)
    obtain ⟨k1,k2⟩:=hr x (Zab hx) cs hl2 g2 j p _ hp hu
    exact ⟨_,by rw [g1 j hj,hu],k1,k2⟩
   have get:∀ {i:Nat} {e:PV},(l.map enc)[i]?=some e→∃ x,l[i]?=some x∧e=enc x:=by
    intro i e he
    rw [zb] at he
    cases hx:l[i]? with
    |none=>rw [hx] at he;cases he
    |some x=>rw [hx] at he;cases he;exact ⟨x,rfl,rfl⟩
   have hce:dD w b:=by
    cases l with
    |nil=>exact absurd rfl hl
    |cons x l =>
     have hj:0<(enc x).cells.length:=by rw [hc];exact hp0
     obtain ⟨u,k1,_⟩:=key 0 x 0 _ rfl (ZS hj)
     exact XZ k1
   refine .list _ _ b off c (fun i j=>(w.cell? ⟨b,off+i*r.sz+j,none⟩).getD undef) (hk b hb hlt) hce (by simp;omega) h3 (fun e he=>?_) (fun i e j x hi hj=>?_) fun i e j x hi hj=>?_
   ·obtain ⟨x,_,rfl⟩:=ZaY.1 he;exact hc x
   ·obtain ⟨x',hx,rfl⟩:=get hi
    obtain ⟨u,k1,k2,k3⟩:=key i x' j x hx hj
    rw [k1];exact ⟨rfl,k2⟩
   ·obtain ⟨x',hx,rfl⟩:=get hi
    obtain ⟨u,k1,k2,k3⟩:=key i x' j x hx hj
    rw [k1];exact k3
theorem YX {ok:Nat→Prop}{w:World}{l:List fE}{v:Value}(h:aA ok w (aX l) v):∃ a n c,v=.slice a n c∧Sl AL ok w a n c l:=by
 refine AA (r:=AL) (enc:=je) rfl (fun x=>iP x) (fun x _ cs hl hcs=>?_) h
 show cs=nH x
 refine Zca fun j=>?_
 by_cases hj:j<8
 ·have h1:cs[j]?=some (cs[j]'(by rw [hl];exact hj)):=ZS _
  have h2:(je x).cells[j]?=some (.int .u8 ((x.toList[j]'(by simpa using hj)).toNat:Int)):=by
   show (qh x)[j]?=_
   have hj':j<x.toList.length:=by simpa using hj
   simp only [qh,zb,ZS hj',Zah]
  have:=(hcs j _ _ h2 h1).bP
  have hj':j<x.toList.length:=by simpa using hj
  rw [h1,this]
  simp only [nH,zb,ZS hj',Zah]
 ·have e1:cs.length=8:=hl
  rw [ZaV (by omega),ZaV (by rw [wW];omega)]
theorem amM {ok:Nat→Prop}{w:World}{l:List (List fE)}{v:Value}(h:aA ok w (.list 1 (l.map aX)) v):∃ a n c,v=.slice a n c∧Sl oH ok w a n c l:=by
 refine AA (r:=oH) (enc:=aX) rfl (fun x=>rfl) (fun x _ cs hl hcs=>?_) h
 match cs,hl with
 |[u],_ =>
  obtain ⟨a,n,c,rfl,hs⟩:=YX (hcs 0 _ u rfl rfl)
  exact ⟨a,n,c,rfl,hs⟩
theorem amN {ok:Nat→Prop}{w:World}{l:List fK}{v:Value}(hok:∀ x∈l,qR x.volume=true∧qR x.start=true)(h:aA ok w (.list 3 (l.map jw)) v):∃ a n c,v=.slice a n c∧Sl wrR ok w a n c (l.map fun x=>(x.volume,x.start,x.data)):=by
 have:∃ a n c,v=.slice a n c∧Sl (α:=fK) ⟨3,fun ok w cs x=>wrR.rd ok w cs (x.volume,x.start,x.data),fun h=>wrR.len h,fun hk h=>wrR.mono hk h,fun h=>wrR.live h,fun hf h=>wrR.frame hf h,fun h=>wrR.one h⟩ ok w a n c l:=by
  refine AA rfl (fun x=>rfl) (fun x hx cs hl hcs=>?_) h
  match cs,hl with
  |[u,u2,u3],_ =>
   have e1:=(hcs 0 _ u rfl rfl).bP
   have e2:=(hcs 1 _ u2 rfl rfl).bP
   obtain ⟨a,n,c,rfl,hs⟩:=YX (l:=x.data) (hcs 2 _ u3 rfl rfl)
   obtain ⟨o1,o2⟩:=hok x hx
   simp only [qR,ZZ,decide_eq_true_eq] at o1 o2
   exact ⟨[u],[u2,.slice a n c],rfl,⟨by rw [e1],o1⟩,⟨[u2],[.slice a n c],rfl,⟨by rw [e2],o2⟩,a,n,c,rfl,hs⟩⟩
 obtain ⟨a,n,c,rfl,h1,h2,h3,h4,h5⟩:=this
 refine ⟨a,n,c,rfl,⟨by simpa using h1,h2,h3,h4,h5.imp id fun ⟨b,off,g1,g2,g3,g4⟩=>⟨b,off,g1,g2,g3,fun i x hx=>?_⟩⟩⟩
 rw [zb] at hx
 cases hx':l[i]? with
 |none=>rw [hx'] at hx;cases hx
 |some y=>rw [hx'] at hx;cases hx;exact g4 i y hx'
theorem aje {ok ok':Nat→Prop}{w:World}{l:List (List fE)}{a:Option Addr}{n c:Nat}(hk:∀ b,ok b→b<w.heap.size→ok' b)(hz:l=[]→c=0)(hne:∀ x∈l,x≠[])(h:Sl oH ok w a n c l):aA ok' w (.list 1 (l.map aX)) (.slice a n c):=by
 refine JF (r:=oH) (enc:=aX) hk (by decide) (fun x=>rfl) (fun x hx cs hl hrd j p u hp hu=>?_) hz h
 obtain ⟨a,n,c,rfl,hs⟩:=hrd
 match j with
 |j+1=>simp [aX,PV.cells] at hp
 |0 =>
  cases hp
  cases hu
  refine ⟨rfl,JF (r:=AL) (enc:=je) hk (by decide) (fun x=>iP x) (fun s _ cs hl hrd j p u hp hu=>?_) (fun e=>absurd e (hne x hx)) hs⟩
  have hrd:cs=nH s:=hrd
  subst hrd
  simp only [nH,zb,Zat] at hu
  have hp:(qh s)[j]?=some p:=hp
  simp only [qh,zb,Zat] at hp
  obtain ⟨b,h1,rfl⟩:=hu
  obtain ⟨b',h2,rfl⟩:=hp
  rw [h1] at h2
  cases h2
  exact ⟨rfl,.int _ _⟩
theorem Nl (sz:List Int)(x:fK):sD sz x=qp sz (x.volume,x.start,x.data):=by
 simp only [qp,lF,sD]
 repeat' split
 all_goals first|rfl|omega
theorem Eh (sz:List Int):∀ (l:List fK) (i:Nat),mP sz l i=eG sz (l.map fun x=>(x.volume,x.start,x.data)) i
 |[],_=>rfl
 |x::l,i=>by rw [Zaj,mP,eG,Nl,Eh sz l (i+1)]
theorem X0 (im:List (List fE))(l:List fK):wE im l=sN im (l.map fun x=>(x.volume,x.start,x.data)):=by
 unfold wE sN;rw [Eh];rfl
theorem amO (im:List (List fE))(l:List fK):apI im l=sK im (l.map fun x=>(x.volume,x.start,x.data)):=by
 unfold apI sK;rw [Eh];rfl
theorem ajf (im:List (List fE))(x:fK):FD im x=FU im (x.volume,x.start,x.data):=rfl
theorem YZ:∀ (l:List fK) (im:List (List fE)),l.foldl FD im=(l.map fun x=>(x.volume,x.start,x.data)).foldl FU im
 |[],_=>rfl
 |x::l,im=>by rw [Zaj,ZbU,ZbU,ajf,YZ l]
theorem amP (im:List (List fE))(l:List fK):qj im l=sJ im (l.map fun x=>(x.volume,x.start,x.data)):=by
 unfold qj sJ
 rw [X0,YZ]
 unfold sN YV
 by_cases h:sG im=0
 ·simp [h]
 ·simp [h]
theorem U2 {im:List (List fE)}{x:fK}(h:sD (bG im) x=0):bG (FD im x)=bG im:=by
 rw [Nl] at h
 exact U0 h
theorem JG:∀ (l:List fK) (im:List (List fE)) (i:Nat),(mP (bG im) l i).2=0→bG (l.foldl FD im)=bG im
 |[],_,_,_=>rfl
 |x::l,im,i,h=>by
  unfold mP at h
  split at h
  ·rename_i h2;exact absurd h h2
  ·rename_i h2
   have h2:sD (bG im) x=0:=by omega
   have e:=U2 h2
   rw [ZbU,JG l (FD im x) (i+1) (by rw [e];exact h),e]
theorem rJ {im:List (List fE)}{l:List fK}(h:wE im l=0):bG (qj im l)=bG im:=by
 unfold qj
 rw [if_pos h]
 unfold wE at h
 split at h
 ·rename_i h2;exact absurd h h2
 ·exact JG l im 0 h
theorem yH {im:List (List fE)}(h:vk (bG im)=0):im≠[]∧∀ v∈im,v≠[]:=by
 unfold vk at h
 split at h
 ·cases h
 ·rename_i h1
  split at h
  ·cases h
  ·rename_i h2
   refine ⟨fun e=>by subst e;simp [bG] at h1,fun v hv e=>?_⟩
   subst e
   refine h2 (Zdj.2 ⟨0,?_,by decide⟩)
   exact ZaY.2 ⟨[],hv,rfl⟩
theorem afU {im:List (List fE)}{l:List fK}:(wE im l=0→qj im l≠[])∧∀ v∈qj im l,v≠[]:=by
 by_cases h:wE im l=0
 ·have h0:vk (bG im)=0:=by
   unfold wE at h
   split at h
   ·rename_i h2;exact absurd h h2
   ·omega
  have:=yH (im:=qj im l) (by rw [rJ h];exact h0)
  exact ⟨fun _=>this.1,this.2⟩
 ·exact ⟨fun e=>absurd e h,fun v hv=>by unfold qj at hv;rw [if_neg h] at hv;cases hv⟩
theorem afV {f:Nat}(hc:callable Tryz.prog f=true)(hA:∀ {a:Option Addr} {n c:Nat} {im:List (List fE)} {ok ok2:Nat→Prop} {w:World},Sl oH ok w a n c im→n≤1000000→(∀ v∈im,v.length≤1000000) →
  ∀ {la:Option Addr} {ln lc:Nat} {l:List Wr},Sl wrR ok2 w la ln lc l→Calls Tryz.prog f #[.slice a n c,.slice la ln lc] w (sO w im l)) :
  ∀ args rs,wF args=some rs→callable Tryz.prog f=true∧nP Tryz.prog f args rs:=fun args rs h=>by
 obtain ⟨im,l,rfl,hw,hn,hv,rfl⟩:=aaW h
 refine ⟨hc,fun T0 w vs h1 h2 h3 h4 _=>?_⟩
 match vs,h3 with
 |[v0,v1],_ =>
  obtain ⟨a,n,c,rfl,hs⟩:=amM (h4 0 _ v0 rfl rfl)
  obtain ⟨la,ln,lc,rfl,hl⟩:=amN hw (h4 1 _ v1 rfl rfl)
  refine (hA hs (by rw [← hs.len];exact hn) hv hl).mono ?_
  rintro e w' ⟨a',n',c',rfl,hr,hz,hB⟩
  rw [← amO,← X0]
  rw [← amP] at hr
  rw [← X0] at hz
  refine ⟨_,fun b=>if w.heap.size≤b∧b<w'.heap.size then .ro else T0 b,rfl,hB,fun b hb=>if_neg (by omega),fun b hb=>?_,#[_,_,_],rfl,rfl,fun i r u hr' hu=>?_⟩
  ·show (if _ then _ else T0 b)=_
   rw [if_neg (by omega)];exact h2 b (by have:=hB.size;omega)
  ·match i with
   |0 =>
    cases hr';cases hu
    refine aje (ok:=(w.heap.size≤·)) (fun b hb hlt=>if_pos ⟨hb,hlt⟩) (fun e=>?_) afU.2 hr
    rcases hz with hz|hz
    ·exact hr.nil hz
    ·exact absurd e (afU.1 hz)
   |1=>cases hr';cases hu;exact .int _ _
   |2=>cases hr';cases hu;exact .int _ _
   |i+3=>simp at hr'
theorem abJ:∀ args rs,wF args=some rs→callable Tryz.prog 38=true∧nP Tryz.prog 38 args rs:=afV (by kernel_rfl) fun h hn hv _ _ _ _ hl=>XY h hn hv hl
def Qv (f:Nat)(fn:iq):Env:=fun k=>if k=f then some (.code fn) else none
theorem Np {P:Program}{f:Nat}{fn:iq}(h:bT P f fn=true):tY P (Qv f fn):=fun k d hk=>by
 unfold Qv at hk
 split at hk
 ·rename_i e;subst e;cases hk;exact h
 ·cases hk
def emR (n:Nat):Rep Unit where
 sz:=n
 rd _ _ cs _:=cs.length=n∧∀ u∈cs,u.oneCell'=true
 len h:=h.1
 mono _ h:=h
 live h:=h
 frame _ h:=h
 one h:=h.2
theorem Flat.em (n:Nat):Flat (emR n):=fun h=>h
theorem afW {ok:Nat→Prop}{w:World}{sz:Nat}{v:Value}(h:aA ok w (.list sz []) v):∃ a c,v=.slice a 0 c∧Sl (emR sz) (fun _=>True) w a 0 c []:=by
 obtain ⟨l,hl⟩:∃ l:List PV,l=[]:=⟨_,rfl⟩
 rw [← hl] at h
 cases h with
 |nil _ a=>exact ⟨a,0,rfl,⟨rfl,ze _,ZaM _,fun _=>rfl,.inl rfl⟩⟩
 |list _ _ b off c cv h1 h2 h3 h4 h6 h7 h8=>subst hl;exact ⟨_,c,rfl,⟨rfl,ZaM _,h4,(fun e=>by cases e),.inl rfl⟩⟩
--+
theorem apF:uq Tryz.prog 66 68 8 8 (.agg #[.int .u8 0,.int .u8 0,.int .u8 0,.int .u8 0,.int .u8 0,.int .u8 0,.int .u8 0,.int .u8 0]):=⟨Tryz.underlying66,by kernel_rfl,rfl,by decide⟩
set_option maxHeartbeats 1000000 in
theorem afX {a:Option Addr}{n c:Nat}{l:List Unit}{ok:Nat→Prop}{w:World}(h:Sl (emR 8) ok w a n c l)(hn:n≤1000000) :
  Calls Tryz.prog 95 #[.slice a n c] w fun e w'=>∃ a' n' c',e=.returned (.slice a' n' c')∧(jG (emR 8) 68).rd (w.heap.size≤·) w' [.slice a' n' c'] l∧Below w.heap.size w w':=by
 have heq:=fun (a:Option Addr) (n c:Nat) (w:World)=>Lib.run_eql_slice_nil (P:=Tryz.prog) w 66 68 a n c 0 0 Tryz.underlying66
 cases a with
 |none =>
  have h0:l=[]:=Zaz (by rw [h.len];have:=h.nil rfl;have:=h.cap;omega)
  have H0:=Lib.hid h0;clear h0
  go_enter Tryz.func95,Tryz.ntmps95
  go_wp2
  go_ret
  refine ⟨_,_,_,rfl,?_,Below.refl _ _⟩
  rw [H0.out]
  exact jG.mk (Own.nil _ _ _ _ _) (fun _=>.inl rfl)
 |some ad =>
  have hs:n≤9223372036854775807:=by have:=zr h.cap h.bnd;unfold maxLen at this;omega
  go_enter Tryz.func95,Tryz.ntmps95
  go_wp2_with (at_builtin;refine zM apF rfl _ _ rfl rfl (Own.amu (emR 8) (ok:=fun _=>False) (ze _)) rfl ((Src.Ym (h.below ((Below.refl _ _).alloc (ze _) _))).flat (Flat.em 8)) ?c1 ?c2 ?c3 ?_)
  case c1=>simp;unfold maxLen;omega
  case c2=>simp;omega
  case c3=>simp
  intro v' w1 hown hgrow hat
  obtain ⟨a',n',c',rfl,_⟩:=hown.sl
  go_wp2
  go_ret
  refine ⟨_,_,_,rfl,jG.mk (by simpa using hown) (fun e=>?_),((Below.refl _ _).alloc (ze _) _).grown hgrow (by simp) (fun k hk=>by cases hk;exact ze _)⟩
  subst e
  obtain ⟨xs,h1,_⟩:=hown
  rcases h1.2 with ⟨hv,_⟩|⟨g,cap,cur,hv,_⟩
  ·exact .inl hv
  ·exact .inr ⟨g,cap,by simpa using hv⟩
theorem X3:bT Tryz.prog 95 aiF=true:=by kernel_rfl
theorem Qw {en:Env}(hen:en 95=some (.code aiF)){e:PV}{es:List PV}(hl:(e::es).length≤lim):cal en 95 [.list 8 (e::es)]=some [(.list 8 (e::es),true)]:=by
 have F1:(es.length+1≤lim)=True:=eq_true (by simpa using hl)
 rw [ah hen rfl]
 simp only [aiF]
 simp only [start,aJ,aT,aH,aS,aB,aC,aI,aQ,Nat.reduceAdd,Nat.reduceSub]
 simp only [F1,aQ,bg,reduceCtorEq,Nat.reduceEqDiff,Nat.reduceAdd,Nat.reduceLT,Nat.reduceLeDiff,Z1]
theorem X4:∀ args rs,uI 8 args=some rs→callable Tryz.prog 95=true∧nP Tryz.prog 95 args rs:=fun args rs h=>by
 unfold uI at h
 split at h
 case h_2=>cases h
 rename_i sz es
 split at h
 case isFalse=>cases h
 rename_i hc
 obtain ⟨rfl,hl⟩:=hc
 cases h
 cases es with
 |cons e es =>
  obtain ⟨n,hn⟩:=lN (Qw (en:=Qv 95 aiF) (if_pos rfl) hl)
  exact uZ (Np X3) hn
 |nil =>
  refine ⟨by kernel_rfl,fun T0 w vs h1 h2 h3 h4 _=>?_⟩
  match vs,h3 with
  |[v],_ =>
   have hv:=h4 0 _ v rfl rfl
   obtain ⟨a,c,rfl,hsl⟩:=afW hv
   refine (afX (ok:=fun _=>True) hsl (by omega)).mono ?_
   rintro e w' ⟨a',n',c',rfl,hrd,hB⟩
   obtain ⟨v,hv,hb,⟨xs,hown,_⟩,hnil⟩:=hrd
   obtain rfl:Value.slice a' n' c'=v:=by simpa using hv
   rcases hown.2 with ⟨e1,_⟩|⟨g,cap,cur,e1,_,hg,_,hm,hs,_⟩
   ·refine ⟨_,T0,rfl,hB,fun _ _=>rfl,fun b hb=>h2 b (by have:=hB.size;omega),#[_],rfl,rfl,fun i r u hr hu=>?_⟩
    cases i with
    |zero=>cases hr;cases hu;exact .inl ⟨rfl,none,e1⟩
    |succ i=>simp at hr
   ·have hg0:w.heap.size≤g:=hb g (by rw [e1];rfl)
    have hgl:g<w'.heap.size:=(zz.1 hg).1
    refine ⟨_,fun b=>if b=g then .row (.part 0 0) else T0 b,rfl,hB,fun b hb=>if_neg (by omega),fun b hb=>?_,#[_],rfl,rfl,fun i r u hr hu=>?_⟩
    ·show (if b=g then _ else T0 b)=_
     rw [if_neg (by omega)];exact h2 b (by have:=hB.size;omega)
    ·cases i with
     |zero =>
      cases hr;cases hu
      exact .inr ⟨g,cap,cur,_,e1,if_pos rfl,hg,hs,ZaM _,hm,(fun e he=>by cases he),fun i e j x hi=>by simp at hi⟩
     |succ i=>simp at hr
--+
theorem amQ:uq Tryz.prog 87 144 1 8 (.int .u64 0):=⟨Tryz.underlying87,by kernel_rfl,rfl,by decide⟩
set_option maxHeartbeats 1000000 in
theorem abK {a:Option Addr}{n c:Nat}{l:List Unit}{ok:Nat→Prop}{w:World}(h:Sl (emR 1) ok w a n c l)(hn:n≤1000000) :
  Calls Tryz.prog 146 #[.slice a n c] w fun e w'=>∃ a' n' c',e=.returned (.slice a' n' c')∧(jG (emR 1) 144).rd (w.heap.size≤·) w' [.slice a' n' c'] l∧Below w.heap.size w w':=by
 have heq:=fun (a:Option Addr) (n c:Nat) (w:World)=>Lib.run_eql_slice_nil (P:=Tryz.prog) w 87 144 a n c 0 0 Tryz.underlying87
 cases a with
 |none =>
  have h0:l=[]:=Zaz (by rw [h.len];have:=h.nil rfl;have:=h.cap;omega)
  have H0:=Lib.hid h0;clear h0
  go_enter Tryz.func146,Tryz.ntmps146
  go_wp2
  go_ret
  refine ⟨_,_,_,rfl,?_,Below.refl _ _⟩
  rw [H0.out]
  exact jG.mk (Own.nil _ _ _ _ _) (fun _=>.inl rfl)
 |some ad =>
  have hs:n≤9223372036854775807:=by have:=zr h.cap h.bnd;unfold maxLen at this;omega
  go_enter Tryz.func146,Tryz.ntmps146
  go_wp2_with (at_builtin;refine zM amQ rfl _ _ rfl rfl (Own.amu (emR 1) (ok:=fun _=>False) (ze _)) rfl ((Src.Ym (h.below ((Below.refl _ _).alloc (ze _) _))).flat (Flat.em 1)) ?c1 ?c2 ?c3 ?_)
  case c1=>simp;unfold maxLen;omega
  case c2=>simp;omega
  case c3=>simp
  intro v' w1 hown hgrow hat
  obtain ⟨a',n',c',rfl,_⟩:=hown.sl
  go_wp2
  go_ret
  refine ⟨_,_,_,rfl,jG.mk (by simpa using hown) (fun e=>?_),((Below.refl _ _).alloc (ze _) _).grown hgrow (by simp) (fun k hk=>by cases hk;exact ze _)⟩
  subst e
  obtain ⟨xs,h1,_⟩:=hown
  rcases h1.2 with ⟨hv,_⟩|⟨g,cap,cur,hv,_⟩
  ·exact .inl hv
  ·exact .inr ⟨g,cap,by simpa using hv⟩
theorem U3:bT Tryz.prog 146 YI=true:=by kernel_rfl
theorem La {en:Env}(hen:en 146=some (.code YI)){e:PV}{es:List PV}(hl:(e::es).length≤lim):cal en 146 [.list 1 (e::es)]=some [(.list 1 (e::es),true)]:=by
 have F1:(es.length+1≤lim)=True:=eq_true (by simpa using hl)
 rw [ah hen rfl]
 simp only [YI]
 simp only [start,aJ,aT,aH,aS,aB,aC,aI,aQ,Nat.reduceAdd,Nat.reduceSub]
 simp only [F1,aQ,bg,reduceCtorEq,Nat.reduceEqDiff,Nat.reduceAdd,Nat.reduceLT,Nat.reduceLeDiff,Z1]
theorem U4:∀ args rs,uI 1 args=some rs→callable Tryz.prog 146=true∧nP Tryz.prog 146 args rs:=fun args rs h=>by
 unfold uI at h
 split at h
 case h_2=>cases h
 rename_i sz es
 split at h
 case isFalse=>cases h
 rename_i hc
 obtain ⟨rfl,hl⟩:=hc
 cases h
 cases es with
 |cons e es =>
  obtain ⟨n,hn⟩:=lN (La (en:=Qv 146 YI) (if_pos rfl) hl)
  exact uZ (Np U3) hn
 |nil =>
  refine ⟨by kernel_rfl,fun T0 w vs h1 h2 h3 h4 _=>?_⟩
  match vs,h3 with
  |[v],_ =>
   have hv:=h4 0 _ v rfl rfl
   obtain ⟨a,c,rfl,hsl⟩:=afW hv
   refine (abK (ok:=fun _=>True) hsl (by omega)).mono ?_
   rintro e w' ⟨a',n',c',rfl,hrd,hB⟩
   obtain ⟨v,hv,hb,⟨xs,hown,_⟩,hnil⟩:=hrd
   obtain rfl:Value.slice a' n' c'=v:=by simpa using hv
   rcases hown.2 with ⟨e1,_⟩|⟨g,cap,cur,e1,_,hg,_,hm,hs,_⟩
   ·refine ⟨_,T0,rfl,hB,fun _ _=>rfl,fun b hb=>h2 b (by have:=hB.size;omega),#[_],rfl,rfl,fun i r u hr hu=>?_⟩
    cases i with
    |zero=>cases hr;cases hu;exact .inl ⟨rfl,none,e1⟩
    |succ i=>simp at hr
   ·have hg0:w.heap.size≤g:=hb g (by rw [e1];rfl)
    have hgl:g<w'.heap.size:=(zz.1 hg).1
    refine ⟨_,fun b=>if b=g then .row (.part 0 0) else T0 b,rfl,hB,fun b hb=>if_neg (by omega),fun b hb=>?_,#[_],rfl,rfl,fun i r u hr hu=>?_⟩
    ·show (if b=g then _ else T0 b)=_
     rw [if_neg (by omega)];exact h2 b (by have:=hB.size;omega)
    ·cases i with
     |zero =>
      cases hr;cases hu
      exact .inr ⟨g,cap,cur,_,e1,if_pos rfl,hg,hs,ZaM _,hm,(fun e he=>by cases he),fun i e j x hi=>by simp at hi⟩
     |succ i=>simp at hr
end Go.Proofs.YtioijcfcehhmdaaGreatDoor
namespace Go.Proofs.YtioijcfcehhmdaaGreatDoor.V
theorem getD_lt {α:Type}{l:List α}{i:Nat}{d:α}(h:i<l.length):l.getD i d=l[i]:=by simp [Zag,ZS h]
def okW (l:List fK):Prop:=∀ w∈l,qR w.volume=true∧qR w.start=true
theorem Y0 {im:fG}{l:List fK}(hw:okW l)(hl:im.length≤1000000)(hr:∀ v∈im,v.length≤1000000):cal env 38 [.list 1 (im.map aX),.list 3 (l.map jw)]=some [(.list 1 ((qj im l).map aX),false),(.int .i64 (apI im l),false),(.int .i64 (wE im l),false)] :=
 (Gh aoH).trans (Xy hw hl hr)
theorem abL {a b:fG}(h:bG a=bG b)(hl:b.length≤9)(hr:∀ v∈b,v.length≤24):a.length≤9∧∀ v∈a,v.length≤24:=by
 obtain ⟨h1,h2⟩:=kC (a:=a) (b:=b) h
 refine ⟨by omega,fun v hv=>?_⟩
 obtain ⟨i,hi,rfl⟩:=Za9.1 hv
 rw [h2 i hi (by omega)]
 exact hr _ (zR _)
theorem qX {im:fG}{l:List fK}(h:wE im l=0):vk (bG im)=0:=by
 unfold wE at h
 split at h
 ·rename_i h2;exact absurd h h2
 ·omega
end Go.Proofs.YtioijcfcehhmdaaGreatDoor.V
namespace Go.Proofs.YtioijcfcehhmdaaGreatDoor
end Go.Proofs.YtioijcfcehhmdaaGreatDoor
namespace Go.Proofs.YtioijcfcehhmdaaGreatDoor.V
def mk (f:Nat→Bool):List Bool:=(Zar 4096).map f
theorem JH (l:List cZ)(e:cZ)(s:Nat):mM (l++[e]) s=(mM l s || KX e s):=by simp [mM]
def CU (size:Int):Int→List cZ→Int
 |_,[]=>0
 |nx,e::l=>if e.count≤0 then 1 else if e.start<0∨e.count > size - e.start then 2 else if e.start<nx then 3 else CU size (e.start+e.count+1) l
def Lc (l:List cZ)(size:Int):Int:=if size<0∨4096<size then 2 else CU size 0 l
def afY {α β:Type}(g:Nat→α→β)(l:List α):List β:=l.mapIdx g
def ajg (im:fG)(l:List (List cZ)):List Bool:=afY (fun i x=>decide (Lc x ((im.getD i []).length:Int)=0)) l
def CV (im:fG)(l:List (List cZ)):Int:=if l.length≠im.length then 6 else if (ajg im l).contains false then 3 else 0
theorem ajh {l:List cZ}{n:Nat}(h:∀ x∈l,0≤x.start∧1≤x.count∧x.start+x.count≤(n:Int))(s:Nat):mM (wZ l n) s=(mM l s || decide (s=n)):=by
 rcases jV l with e|⟨pre,y,e⟩
 ·subst e
  show mM [⟨(n:Int),1⟩] s=_
  rw [ZbH]
  simp [mM,KX];omega
 ·subst e
  have hy:=h y (by simp)
  rw [iE]
  split
  ·rw [JH,JH,Bool.or_assoc]
   congr 1
   rw [ZbH]
   simp [KX];omega
  ·rw [JH (pre++[y])]
   congr 1
   rw [ZbH]
   simp [KX];omega
theorem CW (p:Nat→Bool)(s:Nat):∀ n,mM (ext p n) s=(decide (s<n)&&p s)
 |0=>by simp [UA,mM]
 |n+1=>by
  rw [og]
  by_cases h:p n=true
  ·rw [if_pos h,ajh (Az p n),CW p s n]
   by_cases h2:s=n
   ·subst h2;rw [h];simp
   ·rw [decide_eq_false h2,ZcC]
    congr 1
    rw [ZbH];simp;omega
  ·rw [if_neg h,CW p s n]
   by_cases h2:s=n
   ·subst h2;simp [h]
   ·congr 1
    rw [ZbH];simp;omega
theorem afZ (p:Nat→Bool){n:Nat}(hn:n≤4096):Au (ext p n):=fun x hx=>by
 have:=Az p n x hx
 exact ⟨by omega,by omega⟩
theorem CX {a:fG}{l:List (List cZ)}(h:CV a l=0):l.length=a.length:=by
 unfold CV at h
 split at h
 ·omega
 ·rename_i c;simpa using c
def qY (im:fG)(v s:Nat):fE:=(im.getD v []).getD s Ig
def hit (w:fK)(v s:Nat):Bool:=decide (w.volume=(v:Int))&&(decide (w.start≤(s:Int))&&decide ((s:Int) - w.start<w.data.length))
def oz (v s:Nat)(x:fE)(w:fK):fE:=if hit w v s then w.data.getD ((s:Int) - w.start).toNat Ig else x
def Ei (v s:Nat)(l:List fK)(x:fE):fE:=l.foldl (oz v s) x
theorem Fa {im:fG}{w:fK}(h:sD (bG im) w=0):0≤w.volume∧w.volume<(im.length:Int)∧0<w.data.length∧0≤w.start∧w.start+w.data.length≤((im.getD w.volume.toNat []).length:Int):=by
 unfold sD at h
 have hl:(bG im).length=im.length:=by simp [bG]
 rw [hl] at h
 split at h
 ·omega
 ·rename_i h1
  split at h
  ·omega
  ·rename_i h2
   split at h
   ·omega
   ·rename_i h3
    have h4:w.volume.toNat<im.length:=by omega
    have e:(bG im).getD w.volume.toNat 0=((im.getD w.volume.toNat []).length:Int):=by
     simp only [bG,Zag,zb,ZS h4,Zah,ZbJ]
    rw [e] at h3
    exact ⟨by omega,by omega,by omega,by omega,by omega⟩
theorem abM {l d:List fE}{s k:Nat}(h:s+d.length≤l.length)(hk:k<l.length):(putAt l s d).getD k Ig=if s≤k∧k<s+d.length then d.getD (k - s) Ig else l.getD k Ig:=by
 have h1:(l.take s).length=s:=by rw [Zac];omega
 simp only [putAt,Zag]
 by_cases c1:k<s
 ·rw [Zay,Zad (by omega),if_neg (by omega),List.getElem?_take_of_lt c1]
 ·by_cases c2:k<s+d.length
  ·rw [Zay,zP (by omega),h1,Zad (by omega),if_pos (by omega)]
  ·rw [zP (by simp;omega),if_neg (by omega)]
   simp only [Zaa,h1,ZaP]
   congr 2;omega
theorem af0 {im:fG}{w:fK}{v s:Nat}(h:sD (bG im) w=0)(hv:v<im.length)(hs:s<(im.getD v []).length):qY (FD im w) v s=oz v s (qY im v s) w:=by
 obtain ⟨h1,h2,h3,h4,h5⟩:=Fa h
 unfold qY FD oz hit
 by_cases e:w.volume.toNat=v
 ·subst e
  have:(im.set w.volume.toNat (putAt (im.getD w.volume.toNat []) w.start.toNat w.data)).getD w.volume.toNat []=putAt (im.getD w.volume.toNat []) w.start.toNat w.data:=by
   simp [Zag,zp,hv]
  rw [this,abM (by omega) hs]
  have ev:decide (w.volume=((w.volume.toNat:Nat):Int))=true:=by simp;omega
  rw [ev,zm]
  by_cases c:w.start.toNat≤s∧s<w.start.toNat+w.data.length
  ·rw [if_pos c,decide_eq_true (show w.start≤(s:Int) by omega),decide_eq_true (show (s:Int) - w.start<w.data.length by omega)]
   simp only [zt,if_true]
   congr 1;omega
  ·rw [if_neg c]
   by_cases c1:w.start≤(s:Int)
   ·rw [decide_eq_true c1,decide_eq_false (show ¬ (s:Int) - w.start<w.data.length by omega)];rfl
   ·rw [decide_eq_false c1];rfl
 ·have:(im.set w.volume.toNat (putAt (im.getD w.volume.toNat []) w.start.toNat w.data)).getD v []=im.getD v []:=by
   simp [Zag,zp,e]
  rw [this,decide_eq_false (show ¬ w.volume=(v:Int) by omega)]
  rfl
theorem gV {a b:fG}(h:bG a=bG b)(v:Nat):(a.getD v []).length=(b.getD v []).length∧a.length=b.length:=by
 obtain ⟨h1,h2⟩:=kC (a:=a) (b:=b) h
 refine ⟨?_,h1⟩
 by_cases hv:v<a.length
 ·rw [getD_lt hv,getD_lt (show v<b.length by omega)];exact h2 v hv (by omega)
 ·simp [Zag,ZaV (show a.length≤v by omega),ZaV (show b.length≤v by omega)]
theorem JI:∀ (l:List fK) (im:fG) (i:Nat),(mP (bG im) l i).2=0→∀ {v s:Nat},v<im.length→s<(im.getD v []).length→qY (l.foldl FD im) v s=Ei v s l (qY im v s)
 |[],_,_,_,_,_,_,_=>rfl
 |w::l,im,i,h,v,s,hv,hs=>by
  unfold mP at h
  split at h
  ·rename_i h2;exact absurd h h2
  ·rename_i h2
   have h2:sD (bG im) w=0:=by omega
   have e:=U2 h2
   obtain ⟨q1,q2⟩:=gV e v
   rw [ZbU,JI l (FD im w) (i+1) (by rw [e];exact h) (by omega) (by omega),af0 h2 hv hs]
   rfl
theorem Y1:∀ (l:List fK) (im:fG) (i:Nat),(mP (bG im) l i).2=0→∀ w∈l,sD (bG im) w=0
 |[],_,_,_,w,hw=>by cases hw
 |x::l,im,i,h,w,hw=>by
  unfold mP at h
  split at h
  ·rename_i h2;exact absurd h h2
  ·rename_i h2
   rcases Zaf.1 hw with rfl|hw
   ·omega
   ·exact Y1 l im (i+1) h w hw
theorem Y2 {l:List cZ}{s:Nat}:mM l s=true ↔ ∃ e∈l,KX e s=true:=by simp [mM]
theorem Ej (v s:Nat):∀ (l:List fK) (x:fE),(∀ w∈l,¬ hit w v s=true)→Ei v s l x=x
 |[],_,_=>rfl
 |w::l,x,h=>by
  show Ei v s l (oz v s x w)=x
  have:oz v s x w=x:=by unfold oz;rw [if_neg (h w (by simp))]
  rw [this]
  exact Ej v s l x fun y hy=>h y (by simp [hy])
theorem aji {a b:fG}(hs:aj a=aj b){v s:Nat}(hv:v<a.length)(h:s<(a.getD v []).length):dif (a.getD v []) (b.getD v []) s=true ↔ qY a v s≠qY b v s:=by
 obtain ⟨g1,g2⟩:=gV (show bG a=bG b from hs) v
 have h2:s<(b.getD v []).length:=by omega
 unfold dif qY
 rw [ZS h,ZS h2,getD_lt h,getD_lt h2]
 simp
theorem Y3 {p:Nat→Bool}{n:Nat}:∀ k,(∀ s,n≤s→p s=false)→ext p (n+k)=ext p n
 |0,_=>rfl
 |k+1,h=>by
  rw [show n+(k+1)=n+k+1 by omega,og,h (n+k) (by omega)]
  exact Y3 k h
theorem U5 {p:Nat→Bool}{n m:Nat}(h:n≤m)(hp:∀ s,n≤s→p s=false):ext p m=ext p n:=by
 rw [show m=n+(m - n) by omega];exact Y3 _ hp
theorem ajj {n:Int}(h:0≤n):((nG n).toNat:Int)=nG n:=by unfold nG;omega
def newE (n:Int):Int:=if n<0∨n > 4096 then 2 else 0
def Em (n:Int):Bm:=if n<0∨n > 4096 then ⟨0,[]⟩ else ⟨n,Zal (nG n).toNat 0⟩
theorem apG {n:Int}:cal env 83 [.int .i64 n]=some [(jq (Em n),false),(.int .i64 (newE n),false)]:=by
 have hz:=Jo
 unfold newE Em
 by_cases c0:n<0
 ·rw [if_pos (.inl c0),if_pos (.inl c0),hz]
  have F0:(n<0)=True:=eq_true c0
  rw [ah aeH rfl];simp only [XH,aG,Nat.reduceBEq,Nat.reduceLeDiff,Nat.reduceAdd,za,zd]
  simp only [F0,aF,Nat.reduceMul,Nat.reduceBEq,Nat.reduceLT,Nat.reduceLeDiff,reduceCtorEq,Nat.reduceEqDiff,Nat.reduceAdd,Z1]
 ·have F0:(n<0)=False:=eq_false c0
  by_cases c1:n > 4096
  ·rw [if_pos (.inr c1),if_pos (.inr c1),hz]
   have F1:(n > 4096)=True:=eq_true c1
   rw [ah aeH rfl];simp only [XH,aG,Nat.reduceBEq,Nat.reduceLeDiff,Nat.reduceAdd,za,zd]
   simp only [F0,F1,aF,Nat.reduceMul,Nat.reduceBEq,Nat.reduceLT,Nat.reduceLeDiff,reduceCtorEq,Nat.reduceEqDiff,Nat.reduceAdd,Z1]
  ·have F1:(n > 4096)=False:=eq_false c1
   rw [if_neg (by omega),if_neg (by omega)]
   have e1:=ae0 (n:=n) (by omega)
   have hw:0≤nG n∧nG n≤64:=by unfold nG;omega
   have F3:(0≤nG n)=True:=eq_true hw.1
   have F4:(nG n≤(lim:Int))=True:=eq_true (by unfold lim;omega)
   have F5:(nG n≤nG n)=True:=eq_true (Int.le_refl _)
   have z0:eW 0=.int .u64 0:=rfl
   unfold jq
   rw [List.map_replicate,z0]
   rw [ah aeH rfl];simp only [XH,aG,Nat.reduceBEq,Nat.reduceLeDiff,Nat.reduceAdd,za,zd]
   simp only [F0,F1,e1,F3,F4,F5,aF,Nat.reduceMul,Nat.reduceBEq,Nat.reduceLT,Nat.reduceLeDiff,reduceCtorEq,Nat.reduceEqDiff,Nat.reduceAdd,Z1]
def CY (size:Int)(e:cZ):Bool:=decide (0≤e.start)&&decide (0≤e.count)&&decide (e.start≤size)&&decide (e.count≤size - e.start)
theorem zn {size:Int}{e:cZ}:CY size e=true ↔ 0≤e.start∧0≤e.count∧e.start≤size∧e.count≤size - e.start:=by
 unfold CY;simp [and_assoc]
theorem amR {size:Int}{e:cZ}(hs:0≤size∧size≤4096):cal env 145 [cO e,.int .i64 size]=some [(.bool (CY size e),false)]:=by
 unfold CY cO
 by_cases c0:0≤e.start
 ·have F0:(e.start ≥ 0)=True:=eq_true c0
  rw [decide_eq_true c0]
  by_cases c1:0≤e.count
  ·have F1:(e.count ≥ 0)=True:=eq_true c1
   rw [decide_eq_true c1]
   by_cases c2:e.start≤size
   ·have F2:(e.start≤size)=True:=eq_true c2
    have W:IntKind.i64.wrap (size - e.start)=size - e.start:=bn (by omega)
    rw [decide_eq_true c2]
    rw [ah PY rfl];simp only [EX,aG,Nat.reduceBEq,Nat.reduceLeDiff,Nat.reduceAdd,za,zd]
    simp only [F0,F1,F2,W,aF,Nat.reduceMul,Nat.reduceBEq,Nat.reduceLT,Nat.reduceLeDiff,reduceCtorEq,Nat.reduceEqDiff,Nat.reduceAdd,Z1]
   ·have F2:(e.start≤size)=False:=eq_false c2
    rw [decide_eq_false c2]
    rw [ah PY rfl];simp only [EX,aG,Nat.reduceBEq,Nat.reduceLeDiff,Nat.reduceAdd,za,zd]
    simp only [F0,F1,F2,aF,Nat.reduceMul,Nat.reduceBEq,Nat.reduceLT,Nat.reduceLeDiff,reduceCtorEq,Nat.reduceEqDiff,Nat.reduceAdd,Z1]
  ·have F1:(e.count ≥ 0)=False:=eq_false c1
   rw [decide_eq_false c1]
   rw [ah PY rfl];simp only [EX,aG,Nat.reduceBEq,Nat.reduceLeDiff,Nat.reduceAdd,za,zd]
   simp only [F0,F1,aF,Nat.reduceMul,Nat.reduceBEq,Nat.reduceLT,Nat.reduceLeDiff,reduceCtorEq,Nat.reduceEqDiff,Nat.reduceAdd,Z1]
 ·have F0:(e.start ≥ 0)=False:=eq_false c0
  rw [decide_eq_false c0]
  rw [ah PY rfl];simp only [EX,aG,Nat.reduceBEq,Nat.reduceLeDiff,Nat.reduceAdd,za,zd]
  simp only [F0,aF,Nat.reduceMul,Nat.reduceBEq,Nat.reduceLT,Nat.reduceLeDiff,reduceCtorEq,Nat.reduceEqDiff,Nat.reduceAdd,Z1]
def chW (f:Wd→Wd→Wd)(ws:List Wd)(e:cZ):List Wd:=ws.mapIdx fun k w=>f w (yh k e.start (e.start+e.count))
theorem Y4 (f:Wd→Wd→Wd)(ws:List Wd)(e:cZ):(chW f ws e).length=ws.length:=by simp [chW]
def QV (b:Bm)(e:cZ):Int:=if okB b=false then 3 else if CY b.size e=false then 2 else 0
def Y5 (f:Wd→Wd→Wd)(b:Bm)(e:cZ):Bm:=if QV b e=0 then ⟨b.size,chW f b.ws e⟩ else ⟨0,[]⟩
def En (a b:List Wd)(i:Nat):List PV:=(a.take i++b.drop i).map eW
theorem af4 {a b:List Wd}(h:a.length=b.length)(i:Nat):(En a b i).length=b.length:=by simp [En];omega
theorem af5 {a b:List Wd}(h:a.length=b.length){i:Nat}(hi:i<b.length):(En a b i)[i]?=some (eW b[i]):=by
 unfold En
 rw [zb,zP (by simp;omega),Zac,Zbv (by omega),Nat.sub_self,ZaP,Za1,ZS hi]
 rfl
theorem af6 {a b:List Wd}(h:a.length=b.length){i:Nat}(hi:i<a.length):(En a b i).set i (eW a[i])=En a b (i+1):=by
 unfold En
 rw [← List.map_set,List.set_append_right _ _ (by simp;omega),Zac,Zbv (by omega),Nat.sub_self,Zao hi,Zay]
 congr 2
 rw [zw (show i<b.length by omega)]
 rfl
theorem abN (a b:List Wd):En a b 0=b.map eW:=by simp [En]
theorem af7 {a b:List Wd}(h:a.length=b.length):En a b b.length=a.map eW:=by
 unfold En
 rw [Zbm (by omega),List.drop_of_length_le (ze _),ZaE]
theorem ajk {f:Wd→Wd→Wd}{ws:List Wd}{e:cZ}{i:Nat}(h:i<(chW f ws e).length)(h2:i<ws.length):(chW f ws e)[i]=f ws[i] (yh i e.start (e.start+e.count)):=by
 simp [chW]
theorem amS {es:List PV}(hl:es.length≤lim):cal env 146 [.list 1 es]=some [(.list 1 es,true)]:=(Gh alU).trans (if_pos ⟨rfl,hl⟩)
set_option maxRecDepth 20000 in
theorem ajl {b:Bm}{e:cZ}{f:Wd→Wd→Wd}{gf:Nat}(hf:∀ x y,cal env gf [eW x,eW y]=some [(eW (f x y),false)])(hm:b.ws.length≤64)(he:0≤e.start∧e.start≤4096∧0≤e.count∧e.count≤4096){st:St}(h:st.head [3,4,5,6,9,25,27,28] st.boxes.length=some ⟨sl 55 [(3,.aO 0 0),(4,.aO 1 0),(5,.aO 2 0),(6,.aO 3 0),(9,.row 1 (En (chW f b.ws e) b.ws ((0:Nat)))),(25,.any),(27,.pv (.int .i64 b.ws.length)),(28,.pv (.int .i64 (0:Nat)))],[⟨false,[.pv (.func gf [])]⟩,⟨false,[.pv (.int .i64 b.size),.pv (.list 1 (b.ws.map eW))]⟩,⟨false,[.pv (.int .i64 e.start),.pv (.int .i64 e.count)]⟩,⟨false,[.pv (.int .i64 0),.row 1 []]⟩],[],none⟩) :
  den env IK st=some (.normal,⟨sl 55 [(4,.aO 1 0),(6,.aO 3 0),(7,.any),(9,.row 1 ((chW f b.ws e).map eW))],[⟨false,[.pv (.func gf [])]⟩,⟨false,[.pv (.int .i64 b.size),.pv (.list 1 (b.ws.map eW))]⟩,⟨false,[.pv (.int .i64 e.start),.pv (.int .i64 e.count)]⟩,⟨false,[.pv (.int .i64 0),.row 1 []]⟩],[],none⟩):=by
 unfold IK
 refine bM (env:=env) (nb:=4) (b.ws.length) (fun i=>⟨sl 55 [(3,.aO 0 0),(4,.aO 1 0),(5,.aO 2 0),(6,.aO 3 0),(9,.row 1 (En (chW f b.ws e) b.ws (i))),(25,.any),(27,.pv (.int .i64 b.ws.length)),(28,.pv (.int .i64 i))],[⟨false,[.pv (.func gf [])]⟩,⟨false,[.pv (.int .i64 b.size),.pv (.list 1 (b.ws.map eW))]⟩,⟨false,[.pv (.int .i64 e.start),.pv (.int .i64 e.count)]⟩,⟨false,[.pv (.int .i64 0),.row 1 []]⟩],[],none⟩) (fun i=>some (.normal,⟨sl 55 [(4,.aO 1 0),(6,.aO 3 0),(7,.any),(9,.row 1 ((chW f b.ws e).map eW))],[⟨false,[.pv (.func gf [])]⟩,⟨false,[.pv (.int .i64 b.size),.pv (.list 1 (b.ws.map eW))]⟩,⟨false,[.pv (.int .i64 e.start),.pv (.int .i64 e.count)]⟩,⟨false,[.pv (.int .i64 0),.row 1 []]⟩],[],none⟩)) h (fun _=>rfl) (fun _=>by simp only [aG,bJ,Nat.reduceMul,Nat.reduceBEq,Nat.reduceLT,Nat.reduceLeDiff,Nat.reduceAdd,decide_true,zt,zm]) ?_ ?_
 ·intro i rb hi ih
  have hi1:=bF hi (by unfold lim;omega)
  have F1:((i:Int)<(b.ws.length:Int))=True:=eq_true (by omega)
  have hcl:=Y4 f b.ws e
  have f1:=af4 hcl i
  have f2:=af5 hcl hi
  have f3:=af6 hcl (i:=i) (by omega)
  have e1:=hf b.ws[i] (yh i e.start (e.start+e.count))
  rw [ajk (by omega) hi] at f3
  have W:IntKind.i64.wrap (e.start+e.count)=e.start+e.count:=bn (by omega)
  have e2:=ae1 (k:=i) (a:=e.start) (b:=e.start+e.count) (by omega) (by omega) (by omega)
  unfold eW at e1 e2 f2 f3 ih ⊢
  simp only [IJ,F1,W,e1,e2,f1,f2,f3,au hi,Zah,Z2,aF,Nat.reduceMul,Nat.reduceBEq,Nat.reduceLT,Nat.reduceLeDiff,reduceCtorEq,Nat.reduceEqDiff,Nat.reduceAdd,Z1]
  rw [ih _ (by simp only [hi1,aF,Nat.reduceMul,Nat.reduceBEq,Nat.reduceLT,Nat.reduceLeDiff,reduceCtorEq,Nat.reduceEqDiff,Nat.reduceAdd,Z1]<;>rfl)]
 ·intro rb
  rw [af7 (Y4 f b.ws e)]
  simp only [IJ,Zap,aF,Nat.reduceMul,Nat.reduceBEq,Nat.reduceLT,Nat.reduceLeDiff,reduceCtorEq,Nat.reduceEqDiff,Nat.reduceAdd,Z1]
theorem amT {b:Bm}{e:cZ}{f:Wd→Wd→Wd}{gf:Nat}(hf:∀ x y,cal env gf [eW x,eW y]=some [(eW (f x y),false)]) :
  cal env 123 [.agg [.func gf []],jq b,cO e]=some [(jq (Y5 f b e),false),(.int .i64 (QV b e),false)]:=by
 have P:∀ b:Bm,part [PV.int .i64 b.size,.list 1 (b.ws.map eW)] 0 (some 2)=some (jq b):=fun _=>rfl
 have e1:=MR (b:=b)
 have Z0:((0:Int) != 0)=false:=rfl
 have Z3:((3:Int) != 0)=true:=rfl
 have hz:=Jo
 have eA:jq b=.agg [.int .i64 b.size,.list 1 (b.ws.map eW)]:=rfl
 have eX:cO e=.agg [.int .i64 e.start,.int .i64 e.count]:=rfl
 unfold Y5
 cases c1:okB b with
 |false =>
  have hE:QV b e=3:=by unfold QV;rw [if_pos c1]
  rw [hE,if_neg (by decide),hz]
  rw [yu c1] at e1
  rw [eA] at e1 ⊢;rw [eX]
  rw [ah XJ rfl];simp only [IL,aG,Nat.reduceBEq,Nat.reduceLeDiff,Nat.reduceAdd,za,zd]
  simp only [e1,Z3,DU,DT,Ip,aF,Nat.reduceMul,Nat.reduceBEq,Nat.reduceLT,Nat.reduceLeDiff,reduceCtorEq,Nat.reduceEqDiff,Nat.reduceAdd,Z1]
 |true =>
  rw [Ah c1] at e1
  have hsz:=jM c1
  have e2:=amR (size:=b.size) (e:=e) ⟨hsz.1,hsz.2.1⟩
  cases c2:CY b.size e with
  |false =>
   have hE:QV b e=2:=by unfold QV;rw [if_neg (by rw [c1];decide),if_pos c2]
   rw [hE,if_neg (by decide),hz]
   rw [c2] at e2
   rw [eA] at e1 ⊢;rw [eX] at e2 ⊢
   rw [ah XJ rfl];simp only [IL,aG,Nat.reduceBEq,Nat.reduceLeDiff,Nat.reduceAdd,za,zd]
   simp only [e1,e2,Z0,aF,Nat.reduceMul,Nat.reduceBEq,Nat.reduceLT,Nat.reduceLeDiff,reduceCtorEq,Nat.reduceEqDiff,Nat.reduceAdd,Z1]
  |true =>
   have hE:QV b e=0:=by unfold QV;rw [if_neg (by rw [c1];decide),if_neg (by rw [c2];decide)]
   rw [hE,if_pos rfl]
   rw [c2] at e2
   have hfi:=zn.1 c2
   have k1:=amS (es:=b.ws.map eW) (by rw [Z2];unfold lim;omega)
   rw [eA] at e1 ⊢;rw [eX] at e2 ⊢
   rw [ah XJ rfl];simp only [IL,aG,Nat.reduceBEq,Nat.reduceLeDiff,Nat.reduceAdd,za,zd]
   simp only [e1,e2,k1,Z0,Z2,aF,Nat.reduceMul,Nat.reduceBEq,Nat.reduceLT,Nat.reduceLeDiff,reduceCtorEq,Nat.reduceEqDiff,Nat.reduceAdd,Z1]
   have q1:b.ws.length≤64:=by omega
   have q2:0≤e.start∧e.start≤4096∧0≤e.count∧e.count≤4096:=by omega
   rw [ajl hf q1 q2]
   rotate_left
   ·rw [abN]
    simp only [aG,bJ,Nat.reduceMul,Nat.reduceBEq,Nat.reduceLT,Nat.reduceLeDiff,Nat.reduceAdd,decide_true,zt,zm]<;>rfl
   ·simp only [e1,e2,k1,Z0,Z2,aF,Nat.reduceMul,Nat.reduceBEq,Nat.reduceLT,Nat.reduceLeDiff,reduceCtorEq,Nat.reduceEqDiff,Nat.reduceAdd,Z1]
    rfl
theorem amU (x y:Wd):cal env 122 [eW x,eW y]=some [(eW (x ||| y),false)]:=by
 have W:=apd x y
 unfold eW
 rw [ah alG rfl];simp only [TW];simp only [start,aJ,aT,aH,aS,aB,aC,aI,aQ,Nat.reduceAdd,Nat.reduceSub]
 simp only [W,bg,reduceCtorEq,Nat.reduceEqDiff,Nat.reduceAdd,Nat.reduceLT,Nat.reduceLeDiff,Z1]
theorem apH {b:Bm}{e:cZ}:cal env 84 [jq b,cO e]=some [(jq (Y5 D5 b e),false),(.int .i64 (QV b e),false)]:=by
 have e1:=amT (b:=b) (e:=e) (f:=D5) (gf:=122) amU
 have eA:∀ a:Bm,jq a=.agg [.int .i64 a.size,.list 1 (a.ws.map eW)]:=fun _=>rfl
 have eX:cO e=.agg [.int .i64 e.start,.int .i64 e.count]:=rfl
 rw [eA,eA,eX] at e1 ⊢
 rw [ah aoX rfl];simp only [aeo];simp only [start,aJ,aT,aH,aS,aB,aC,aI,aQ,Nat.reduceAdd,Nat.reduceSub]
 simp only [e1,bg,reduceCtorEq,Nat.reduceEqDiff,Nat.reduceAdd,Nat.reduceLT,Nat.reduceLeDiff,Z1]
def zD (b:Bm)(l:List cZ):Bm:=l.foldl (fun b e=>Y5 D5 b e) b
def frE:Bm→List cZ→Int
 |_,[]=>0
 |b,e::l=>if QV b e=0 then frE (Y5 D5 b e) l else QV b e
def fxE (n:Int)(l:List cZ):Int:=if newE n=0 then frE (Em n) l else newE n
def fxO (n:Int)(l:List cZ):Bm:=if fxE n l=0 then zD (Em n) l else ⟨0,[]⟩
theorem af9 {b:Bm}{l:List cZ}{k:Nat}(h:k<l.length):frE (zD b (l.take k)) (l.drop k)=if QV (zD b (l.take k)) l[k]=0 then frE (zD b (l.take (k+1))) (l.drop (k+1)) else QV (zD b (l.take k)) l[k]:=by
 rw [zw h,frE]
 congr 2
 unfold zD
 rw [Zao h,Zcx]
 rfl
def Nq (n:Nat)(b0:Bm)(l:List cZ)(e:Int):Option (Ex×St) :=
 if e=0 then some (.normal,⟨sl n [(4,.aO 0 0),(5,.any),(6,.aO 1 0)],[⟨false,[.pv (.int .i64 0),.row 1 []]⟩,⟨false,[.pv (.int .i64 (zD b0 l).size),.pv (.list 1 ((zD b0 l).ws.map eW))]⟩],[],none⟩)
 else some (.ret,⟨sl n [(4,.aO 0 0),(5,.pv (.int .i64 e)),(6,.aO 1 0)],[⟨false,[.pv (.int .i64 0),.pv (.list 1 [])]⟩,⟨false,[.pv (.int .i64 0),.pv (.list 1 [])]⟩],[],none⟩)
theorem aga {l:List cZ}{b0:Bm}(hl:l.length≤lim){st:St}(h:st.head [1,4,6,19,20,21] st.boxes.length=some ⟨sl 37 [(1,.pv (.list 2 (l.map cO))),(4,.aO 0 0),(6,.aO 1 0),(19,.pv (.list 2 (l.map cO))),(20,.pv (.int .i64 l.length)),(21,.pv (.int .i64 (0:Nat)))],[⟨false,[.pv (.int .i64 0),.row 1 []]⟩,⟨false,[.pv (.int .i64 (zD b0 (l.take ((0:Nat)))).size),.pv (.list 1 ((zD b0 (l.take ((0:Nat)))).ws.map eW))]⟩],[],none⟩) :
  den env OY st=Nq 37 b0 l (frE (zD b0 (l.take ((0:Nat)))) (l.drop ((0:Nat)))):=by
 unfold OY
 refine bM (env:=env) (nb:=2) (l.length) (fun i=>⟨sl 37 [(1,.pv (.list 2 (l.map cO))),(4,.aO 0 0),(6,.aO 1 0),(19,.pv (.list 2 (l.map cO))),(20,.pv (.int .i64 l.length)),(21,.pv (.int .i64 i))],[⟨false,[.pv (.int .i64 0),.row 1 []]⟩,⟨false,[.pv (.int .i64 (zD b0 (l.take (i))).size),.pv (.list 1 ((zD b0 (l.take (i))).ws.map eW))]⟩],[],none⟩) (fun i=>Nq 37 b0 l (frE (zD b0 (l.take (i))) (l.drop (i)))) h (fun _=>rfl) (fun _=>by simp only [aG,bJ,Nat.reduceMul,Nat.reduceBEq,Nat.reduceLT,Nat.reduceLeDiff,Nat.reduceAdd,decide_true,zt,zm]) ?_ ?_
 ·intro i rb hi ih
  have hi1:=bF hi hl
  have F1:((i:Int)<(l.length:Int))=True:=eq_true (by omega)
  have eA:∀ b:Bm,jq b=.agg [.int .i64 b.size,.list 1 (b.ws.map eW)]:=fun _=>rfl
  have eX:∀ e:cZ,cO e=.agg [.int .i64 e.start,.int .i64 e.count]:=fun _=>rfl
  have P2:∀ a b:PV,part [a,b] 0 (some 2)=some (.agg [a,b]):=fun _ _=>rfl
  have e2:=apH (b:=zD b0 (l.take i)) (e:=l[i])
  have hx:(l.map cO)[i]?=some (cO l[i]):=by rw [zb,ZS hi];rfl
  have hs:zD b0 (l.take (i+1))=Y5 D5 (zD b0 (l.take i)) l[i]:=by unfold zD;rw [Zao hi,Zcx];rfl
  rw [af9 hi]
  by_cases c0:QV (zD b0 (l.take i)) l[i]=0
  ·have Z:((0:Int) != 0)=false:=rfl
   rw [if_pos c0]
   rw [c0,← hs] at e2
   generalize zD b0 (l.take i)=p at *
   generalize zD b0 (l.take (i+1))=q at *
   rw [eA,eA,eX] at e2
   rw [eX] at hx
   simp only [Gj,F1,Z,hx,e2,P2,au hi,Z2,aF,Nat.reduceMul,Nat.reduceBEq,Nat.reduceLT,Nat.reduceLeDiff,reduceCtorEq,Nat.reduceEqDiff,Nat.reduceAdd,Z1]
   rw [ih _ (by simp only [hi1,aF,Nat.reduceMul,Nat.reduceBEq,Nat.reduceLT,Nat.reduceLeDiff,reduceCtorEq,Nat.reduceEqDiff,Nat.reduceAdd,Z1]<;>rfl)]
  ·have Z:(QV (zD b0 (l.take i)) l[i] != 0)=true:=by simpa using c0
   rw [if_neg c0]
   unfold Nq
   rw [if_neg c0]
   have hz:Y5 D5 (zD b0 (l.take i)) l[i]=⟨0,[]⟩:=by unfold Y5;rw [if_neg c0]
   have hz2:jq ⟨0,[]⟩=.agg [.int .i64 0,.list 1 []]:=rfl
   rw [hz,hz2] at e2
   generalize zD b0 (l.take i)=p at *
   rw [eA,eX] at e2
   rw [eX] at hx
   simp only [Gj,F1,Z,hx,e2,P2,au hi,Z2,aF,Nat.reduceMul,Nat.reduceBEq,Nat.reduceLT,Nat.reduceLeDiff,reduceCtorEq,Nat.reduceEqDiff,Nat.reduceAdd,Z1]
 ·intro rb
  unfold Nq
  rw [ZaT,ZaI,frE,if_pos rfl]
  simp only [Gj,Zap,aF,Nat.reduceMul,Nat.reduceBEq,Nat.reduceLT,Nat.reduceLeDiff,reduceCtorEq,Nat.reduceEqDiff,Nat.reduceAdd,Z1]
theorem akv {l:List cZ}{n:Int}(hl:l.length≤lim):cal env 35 [.int .i64 n,.list 2 (l.map cO)]=some [(jq (fxO n l),false),(.int .i64 (fxE n l),false)]:=by
 have e0:=apG (n:=n)
 have eA:∀ b:Bm,jq b=.agg [.int .i64 b.size,.list 1 (b.ws.map eW)]:=fun _=>rfl
 have hz2:jq ⟨0,[]⟩=.agg [.int .i64 0,.list 1 []]:=rfl
 have P2:∀ a b:PV,part [a,b] 0 (some 2)=some (.agg [a,b]):=fun _ _=>rfl
 have Z:((0:Int) != 0)=false:=rfl
 by_cases c0:newE n=0
 ·have hE:fxE n l=frE (Em n) l:=by unfold fxE;rw [if_pos c0]
  unfold fxO
  rw [hE]
  rw [c0] at e0
  rw [eA] at e0
  generalize hb:Em n=b0 at *
  by_cases c1:frE b0 l=0
  ·rw [if_pos c1,c1,eA]
   rw [ah aeD rfl];simp only [XE,aG,Nat.reduceBEq,Nat.reduceLeDiff,Nat.reduceAdd,za,zd]
   simp only [e0,Z,P2,Z2,aF,Nat.reduceMul,Nat.reduceBEq,Nat.reduceLT,Nat.reduceLeDiff,reduceCtorEq,Nat.reduceEqDiff,Nat.reduceAdd,Z1]
   rw [aga (l:=l) (b0:=b0) hl]
   rotate_left
   ·rw [ZaQ]
    simp only [aG,bJ,Nat.reduceMul,Nat.reduceBEq,Nat.reduceLT,Nat.reduceLeDiff,Nat.reduceAdd,decide_true,zt,zm]<;>rfl
   ·rw [ZaQ,Za5]
    unfold Nq
    rw [show zD b0 []=b0 from rfl,if_pos c1]
    simp only [e0,Z,P2,Z2,aF,Nat.reduceMul,Nat.reduceBEq,Nat.reduceLT,Nat.reduceLeDiff,reduceCtorEq,Nat.reduceEqDiff,Nat.reduceAdd,Z1]
  ·rw [if_neg c1,hz2]
   rw [ah aeD rfl];simp only [XE,aG,Nat.reduceBEq,Nat.reduceLeDiff,Nat.reduceAdd,za,zd]
   simp only [e0,Z,P2,Z2,aF,Nat.reduceMul,Nat.reduceBEq,Nat.reduceLT,Nat.reduceLeDiff,reduceCtorEq,Nat.reduceEqDiff,Nat.reduceAdd,Z1]
   rw [aga (l:=l) (b0:=b0) hl]
   rotate_left
   ·rw [ZaQ]
    simp only [aG,bJ,Nat.reduceMul,Nat.reduceBEq,Nat.reduceLT,Nat.reduceLeDiff,Nat.reduceAdd,decide_true,zt,zm]<;>rfl
   ·rw [ZaQ,Za5]
    unfold Nq
    rw [show zD b0 []=b0 from rfl,if_neg c1]
    simp only [e0,Z,P2,Z2,aF,Nat.reduceMul,Nat.reduceBEq,Nat.reduceLT,Nat.reduceLeDiff,reduceCtorEq,Nat.reduceEqDiff,Nat.reduceAdd,Z1]
 ·have hE:fxE n l=newE n:=by unfold fxE;rw [if_neg c0]
  unfold fxO
  rw [hE,if_neg c0,hz2]
  have Zn:(newE n != 0)=true:=by simpa using c0
  rw [eA] at e0
  rw [ah aeD rfl];simp only [XE,aG,Nat.reduceBEq,Nat.reduceLeDiff,Nat.reduceAdd,za,zd]
  simp only [e0,Zn,P2,Z2,aF,Nat.reduceMul,Nat.reduceBEq,Nat.reduceLT,Nat.reduceLeDiff,reduceCtorEq,Nat.reduceEqDiff,Nat.reduceAdd,Z1]
theorem amV {n:Nat}(h:n≤4096):newE (n:Int)=0∧okB (Em (n:Int))=true∧(Em (n:Int)).size=(n:Int)∧∀ s,bit (Em (n:Int)).ws s=false:=by
 have e1:newE (n:Int)=0:=by unfold newE;rw [if_neg (by omega)]
 have e2:Em (n:Int)=⟨n,Zal (nG n).toNat 0⟩:=by unfold Em;rw [if_neg (by omega)]
 have hb:∀ s,bit (Zal (nG n).toNat (0:Wd)) s=false:=fun s=>by
  unfold bit
  rw [Zag,List.getElem?_replicate]
  split<;>simp
 rw [e2]
 refine ⟨e1,kP.2 ⟨⟨by show (0:Int)≤(n:Int);omega,by show (n:Int)≤4096;omega,?_⟩,fun i _=>hb i⟩,rfl,hb⟩
 show ((Zal (nG n).toNat (0:Wd)).length:Int)=nG n
 rw [List.length_replicate]
 exact ajj (by omega)
theorem ajm (ws:List Wd)(e:cZ):chW D5 ws e=setW ws e.start (e.start+e.count):=rfl
theorem amW {b:Bm}{e:cZ}(h:okB b=true)(hf:CY b.size e=true):QV b e=0∧okB (Y5 D5 b e)=true∧(Y5 D5 b e).size=b.size∧∀ s:Nat,(s:Int)<b.size→bit (Y5 D5 b e).ws s=(bit b.ws s || decide (e.start≤(s:Int)∧(s:Int)<e.start+e.count)):=by
 have hE:QV b e=0:=by unfold QV;rw [if_neg (by rw [h];decide),if_neg (by rw [hf];decide)]
 have hO:Y5 D5 b e=⟨b.size,setW b.ws e.start (e.start+e.count)⟩:=by unfold Y5;rw [if_pos hE,ajm]
 have hs:=jM h
 have hf:=zn.1 hf
 rw [hO]
 have hl:(setW b.ws e.start (e.start+e.count)).length=b.ws.length:=by simp [setW]
 refine ⟨hE,kP.2 ⟨⟨hs.1,hs.2.1,?_⟩,fun i hi=>?_⟩,rfl,fun s hlt=>YO (by omega)⟩
 ·show ((setW b.ws e.start (e.start+e.count)).length:Int)=_
  rw [hl];exact (kP.1 h).1.2.2
 ·have hi:b.size≤(i:Int):=hi
  by_cases c:i<64*b.ws.length
  ·show bit (setW b.ws e.start (e.start+e.count)) i=false
   rw [YO c,(kP.1 h).2 i hi,decide_eq_false (by omega)]
   rfl
  ·exact Gv (by show 64*(setW b.ws e.start (e.start+e.count)).length≤i;rw [hl];omega)
theorem ajn {size:Int}{e:cZ}(h:CY size e=true)(s:Nat):KX e s=decide (e.start≤(s:Int)∧(s:Int)<e.start+e.count):=by
 have h:=zn.1 h
 unfold KX
 rw [ZbH]
 simp only [ZZ,decide_eq_true_eq]
 omega
theorem akw:∀ (l:List cZ) {b:Bm},okB b=true→(∀ e∈l,CY b.size e=true)→frE b l=0∧okB (zD b l)=true∧(zD b l).size=b.size∧∀ s:Nat,(s:Int)<b.size→bit (zD b l).ws s=(bit b.ws s || mM l s)
 |[],b,h,_=>⟨rfl,h,rfl,fun s _=>by simp [zD,mM]⟩
 |e::l,b,h,hf=>by
  obtain ⟨k1,k2,k3,k4⟩:=amW h (hf e (by simp))
  obtain ⟨g1,g2,g3,g4⟩:=akw l k2 (fun x hx=>by rw [k3];exact hf x (by simp [hx]))
  refine ⟨?_,g2,g3.trans k3,fun s hs=>?_⟩
  ·unfold frE
   rw [if_pos k1]
   exact g1
  ·have:=g4 s (by rw [k3];exact hs)
   show bit (zD (Y5 D5 b e) l).ws s=_
   rw [this,k4 s hs,← ajn (hf e (by simp)) s,Bool.or_assoc]
   rfl
theorem apJ {n:Nat}{l:List cZ}(hn:n≤4096)(h:∀ e∈l,0≤e.start∧1≤e.count∧e.start+e.count≤(n:Int)):fxE n l=0∧fxO n l=zD (Em n) l∧okB (fxO n l)=true∧(fxO n l).size=(n:Int)∧∀ s:Nat,s<n→bit (fxO n l).ws s=mM l s:=by
 obtain ⟨h1,h2,h3,h4⟩:=amV hn
 obtain ⟨g1,g2,g3,g4⟩:=akw l h2 (fun e he=>by
  obtain ⟨q1,q2,q3⟩:=h e he
  rw [h3]
  exact zn.2 (by omega))
 have e1:fxE n l=0:=by unfold fxE;rw [if_pos h1];exact g1
 have e2:fxO n l=zD (Em n) l:=by unfold fxO;rw [if_pos e1]
 rw [e2]
 refine ⟨e1,rfl,g2,g3.trans h3,fun s hs=>?_⟩
 rw [g4 s (by rw [h3];omega),h4 s,Bool.false_or]
def JJ (l:List fK):Bool:=(l.take 60).all (fun w=>decide (w.data.length≤24))&&decide (l.length≤40)
theorem Eo {l:List fK}(h:JJ l=true):l.length≤40∧∀ w∈l,w.data.length≤24:=by
 unfold JJ at h
 simp only [ZZ,decide_eq_true_eq] at h
 rw [Zbm (by omega)] at h
 exact ⟨h.2,fun w hw=>by have:=zE.1 h.1 w hw;simpa using this⟩
theorem amX {l:List fK}{st:St}(h:st.head [0,3] st.boxes.length=some ⟨[.pv (.list 3 (l.map jw)),.any,.any,.pv (.int .i64 (0:Nat)),.any,.any,.any,.any,.any,.any,.any,.any,.any,.any,.any,.any,.any,.any,.any,.any,.any,.any,.any,.any],[],[],none⟩) :
  den env Py st=if (l.take 60).all (fun w=>decide (w.data.length≤24)) then some (.normal,⟨[.pv (.list 3 (l.map jw)),.any,.any,.any,.any,.any,.any,.any,.any,.any,.any,.any,.any,.any,.any,.any,.any,.any,.any,.any,.any,.any,.any,.any],[],[],none⟩) else some (.ret,⟨[.pv (.list 3 (l.map jw)),.any,.pv (.bool false),.any,.any,.any,.any,.any,.any,.any,.any,.any,.any,.any,.any,.any,.any,.any,.any,.any,.any,.any,.any,.any],[],[],none⟩):=by
 unfold Py
 rw [ bM (env:=env) ((l.take 60).length) (fun i=>⟨[.pv (.list 3 (l.map jw)),.any,.any,.pv (.int .i64 i),.any,.any,.any,.any,.any,.any,.any,.any,.any,.any,.any,.any,.any,.any,.any,.any,.any,.any,.any,.any],[],[],none⟩) (fun i=>if ((l.take 60).drop i).all (fun w=>decide (w.data.length≤24)) then some (.normal,⟨[.pv (.list 3 (l.map jw)),.any,.any,.any,.any,.any,.any,.any,.any,.any,.any,.any,.any,.any,.any,.any,.any,.any,.any,.any,.any,.any,.any,.any],[],[],none⟩) else some (.ret,⟨[.pv (.list 3 (l.map jw)),.any,.pv (.bool false),.any,.any,.any,.any,.any,.any,.any,.any,.any,.any,.any,.any,.any,.any,.any,.any,.any,.any,.any,.any,.any],[],[],none⟩)) h (fun _=>rfl) (fun _=>rfl) ?_ ?_]
 ·first|rfl|simp only [Za5,ZaQ,Zai,Zan,Za4,List.foldl_nil]
 ·intro i rb hi ih
  have hlim:lim=1073741824:=rfl
  have avd:i<60:=by rw [Zac] at hi;omega
  have hil:i<l.length:=by rw [Zac] at hi;omega
  have hi1:=bF (show i<i+1 by omega) (by omega)
  have F1:((i:Int)<(l.length:Int))=True:=eq_true (by omega)
  have F2:((i:Int)<60)=True:=eq_true (by omega)
  rw [zw hi,Zaw]
  have hx:l[i]?=some (l.take 60)[i]:=by rw [Zcv];exact ZS hil
  generalize (l.take 60)[i]=w at *
  simp only [BO,F1,F2,hx,jw,au hil,zb,Zah,Z2,bg,reduceCtorEq,Nat.reduceEqDiff,Nat.reduceAdd,Nat.reduceLT,Nat.reduceLeDiff,Z1]
  (try simp only [dV,fF,dW]);refine dI (fun hb=>?_) (fun hb=>?_)<;>try simp only [hb,bg,reduceCtorEq,Nat.reduceEqDiff,Nat.reduceAdd,Nat.reduceLT,Nat.reduceLeDiff,Z1]
  ·rw [decide_eq_false (by simp at hb;omega)];rfl
  ·rw [ih _ (by simp only [hi1];rfl),decide_eq_true (show w.data.length≤24 by simp at hb;omega),zm]
 ·intro rb
  rw [ZaT]
  by_cases c:l.length<60
  ·have hn:(l.take 60).length=l.length:=by rw [Zac];omega
   rw [hn]
   simp only [BO,Zap,bg,reduceCtorEq,Nat.reduceEqDiff,Nat.reduceAdd,Nat.reduceLT,Nat.reduceLeDiff,Z1]
   rfl
  ·have hn:(l.take 60).length=60:=by rw [Zac];omega
   rw [hn]
   by_cases c2:l.length=60
   ·have F1:(((60:Nat):Int)<(l.length:Int))=False:=eq_false (by omega)
    simp only [BO,F1,Z2,bg,reduceCtorEq,Nat.reduceEqDiff,Nat.reduceAdd,Nat.reduceLT,Nat.reduceLeDiff,Z1]
    rfl
   ·have F1:(((60:Nat):Int)<(l.length:Int))=True:=eq_true (by omega)
    have F2:(((60:Nat):Int)<60)=False:=eq_false (by omega)
    simp only [BO,F1,F2,Z2,bg,reduceCtorEq,Nat.reduceEqDiff,Nat.reduceAdd,Nat.reduceLT,Nat.reduceLeDiff,Z1]
    rfl
theorem apK {l:List fK}:cal env 65 [.list 3 (l.map jw)]=some [(.bool (JJ l),false)]:=by
 rw [ah aoO rfl];simp only [aef];simp only [start,aJ,aT,aH,aS,aB,aC,aI,aQ,Nat.reduceAdd,Nat.reduceSub]
 simp only [bg,reduceCtorEq,Nat.reduceEqDiff,Nat.reduceAdd,Nat.reduceLT,Nat.reduceLeDiff,Z1]
 rw [amX (l:=l)]
 rotate_left
 ·rfl
 unfold JJ
 have F1:decide ((l.length:Int)≤40)=decide (l.length≤40):=decide_eq_decide.2 (by omega)
 cases (l.take 60).all (fun w=>decide (w.data.length≤24))<;>simp only [F1,if_true,if_false,Bool.false_eq_true,bg,reduceCtorEq,Nat.reduceEqDiff,Nat.reduceAdd,Nat.reduceLT,Nat.reduceLeDiff,Z1]
structure iT where
 im:fG
 o:List fK
 n:List fK
 rs:List (List fK)
def JK (l:List fK):PV:=.list 3 (l.map jw)
theorem ajo (l:List fK):JK l=.list 3 (l.map jw):=rfl
theorem Y6 {l:List (List fK)}{i:Nat}(h:i<l.length):(l.map JK)[i]?=some (.list 3 (l[i].map jw)):=by rw [zb,ZS h];rfl
theorem ajp {l:List fK}{i:Nat}(h:i<l.length):(l.map jw)[i]?=some (.agg [.int .i64 l[i].volume,.int .i64 l[i].start,.list 8 (l[i].data.map je)]):=by rw [zb,ZS h];rfl
theorem apL {l:List Int}{i:Nat}(h:i<l.length):(l.map eI)[i]?=some (.int .i64 l[i]):=by rw [zb,ZS h];rfl
theorem U6 {im:fG}{v:Nat}(h:v<im.length):(im.map aX)[v]?=some (.list 8 (im[v].map je)):=by rw [zb,ZS h];rfl
def U7 (x:iT):PV:=.agg [.list 1 (x.im.map aX),.list 3 (x.o.map jw),.list 3 (x.n.map jw),.list 1 (x.rs.map JK)]
theorem wQ (x:iT):U7 x=.agg [.list 1 (x.im.map aX),.list 3 (x.o.map jw),.list 3 (x.n.map jw),.list 1 (x.rs.map JK)]:=rfl
def bOut (x:iT):List BV:=[.pv (.list 1 (x.im.map aX)),.pv (.list 3 (x.o.map jw)),.pv (.list 3 (x.n.map jw)),.pv (.list 1 (x.rs.map JK))]
theorem fU (x:iT):bOut x=[.pv (.list 1 (x.im.map aX)),.pv (.list 3 (x.o.map jw)),.pv (.list 3 (x.n.map jw)),.pv (.list 1 (x.rs.map JK))]:=rfl
theorem Qx {im:fG}{i:Nat}(h:i<im.length):((aj im).take (i+1)).map eI=((aj im).take i).map eI++[.int .i64 (im[i].length:Int)]:=by
 have hi:i<(aj im).length:=by simpa [aj] using h
 rw [Zao hi,ZaK]
 simp [aj,eI]
theorem amY {x:iT}(hi0:x.im.length≤lim){st:St}(h:st.head [3,7,8,9,17] st.boxes.length=some ⟨sl 20 [(3,.row 1 (((aj x.im).take ((0:Nat))).map eI)),(7,.pv (.list 1 (x.im.map aX))),(8,.pv (.int .i64 x.im.length)),(9,.pv (.int .i64 (0:Nat))),(17,.any)],[⟨false,bOut x⟩],[],none⟩) :
  den env O8 st=some (.normal,⟨sl 20 [(2,.any),(3,.row 1 ((aj x.im).map eI))],[⟨false,bOut x⟩],[],none⟩):=by
 unfold O8
 refine bM (env:=env) (nb:=1) (x.im.length) (fun i=>⟨sl 20 [(3,.row 1 (((aj x.im).take (i)).map eI)),(7,.pv (.list 1 (x.im.map aX))),(8,.pv (.int .i64 x.im.length)),(9,.pv (.int .i64 i)),(17,.any)],[⟨false,bOut x⟩],[],none⟩) (fun i=>some (.normal,⟨sl 20 [(2,.any),(3,.row 1 ((aj x.im).map eI))],[⟨false,bOut x⟩],[],none⟩)) h (fun _=>rfl) (fun _=>by simp only [aG,bJ,Nat.reduceMul,Nat.reduceBEq,Nat.reduceLT,Nat.reduceLeDiff,Nat.reduceAdd,decide_true,zt,zm]) ?_ ?_
 ·intro i rb hi ih
  have hi1:=bF hi hi0
  have F1:((i:Int)<(x.im.length:Int))=True:=eq_true (by omega)
  have hy:=U6 hi
  have e5:=Qx hi
  have F2:(((aj x.im).take i).map eI).length+1≤lim:=by simp [aj];omega
  have F2:=eq_true F2
  rw [Z2] at F2
  simp only [O7,F1,F2,hy,fU,au hi,Z2,aF,Nat.reduceMul,Nat.reduceBEq,Nat.reduceLT,Nat.reduceLeDiff,reduceCtorEq,Nat.reduceEqDiff,Nat.reduceAdd,Z1]
  rw [ih _ (by simp only [hi1];rw [e5];simp only [fU,aF,Nat.reduceMul,Nat.reduceBEq,Nat.reduceLT,Nat.reduceLeDiff,reduceCtorEq,Nat.reduceEqDiff,Nat.reduceAdd,Z1]<;>rfl)]
  all_goals rfl
 ·intro rb
  have e9:(aj x.im).take x.im.length=aj x.im:=Zbm (by simp [aj])
  rw [e9]
  simp only [O7,Zap,fU,Z2,aF,Nat.reduceMul,Nat.reduceBEq,Nat.reduceLT,Nat.reduceLeDiff,reduceCtorEq,Nat.reduceEqDiff,Nat.reduceAdd,Z1]
theorem akx {x:iT}(hi0:x.im.length≤lim):cal env 40 [U7 x]=some [(.list 1 ((aj x.im).map eI),true)]:=by
 rw [wQ]
 rw [ah aoJ rfl];simp only [aea,aG,Nat.reduceBEq,Nat.reduceLeDiff,Nat.reduceAdd,za,zd]
 simp only [Z2,aF,Nat.reduceMul,Nat.reduceBEq,Nat.reduceLT,Nat.reduceLeDiff,reduceCtorEq,Nat.reduceEqDiff,Nat.reduceAdd,Z1]
 rw [amY (x:=x) hi0 (by simp only [ZaQ,Zai,fU];simp only [aG,bJ,Nat.reduceMul,Nat.reduceBEq,Nat.reduceLT,Nat.reduceLeDiff,Nat.reduceAdd,decide_true,zt,zm]<;>rfl)]
 simp only [fU,aF,Nat.reduceMul,Nat.reduceBEq,Nat.reduceLT,Nat.reduceLeDiff,reduceCtorEq,Nat.reduceEqDiff,Nat.reduceAdd,Z1]
def Ld (im:fG)(l:List (List fK)):Bool:=l.all fun w=>decide (wE im w=0)&&JJ w
def U8 (x:iT):Bool:=XM x.im&&(decide (x.rs.length≤8)&&Ld x.im (x.o::x.n::x.rs))
theorem abO {im:fG}{l:List (List fK)}{i:Nat}(h:i<l.length):Ld im (l.drop i)=((decide (wE im l[i]=0)&&JJ l[i])&&Ld im (l.drop (i+1))):=by
 unfold Ld
 rw [zw h,Zaw]
def abP (x:iT)(b:Bool):Option (Ex×St):=if b then some (.normal,⟨sl 49 [(2,.any)],[⟨false,bOut x⟩],[],none⟩) else some (.ret,⟨sl 49 [(2,.pv (.bool false))],[⟨false,bOut x⟩],[],none⟩)
def okO (x:iT):Prop:=okW x.o∧okW x.n∧∀ l∈x.rs,okW l
theorem ajq {x:iT}(h:okO x):∀ l∈x.o::x.n::x.rs,okW l:=fun l hl=>by
 rcases Zaf.1 hl with rfl|hl
 ·exact h.1
 ·rcases Zaf.1 hl with rfl|hl
  ·exact h.2.1
  ·exact h.2.2 l hl
theorem amZ {x:iT}{L:List (List fK)}(ho:∀ l∈L,okW l)(hL:L.length≤lim)(hi0:x.im.length≤1000000)(hr:∀ v∈x.im,v.length≤1000000){st:St}(h:st.head [1,3,16,27,28,29] st.boxes.length=some ⟨sl 49 [(1,.aO 0 0),(3,.row 1 (L.map JK)),(16,.any),(27,.ref (.slot 3) 0 L.length),(28,.pv (.int .i64 L.length)),(29,.pv (.int .i64 (0:Nat)))],[⟨false,bOut x⟩],[],none⟩) :
  den env OT st=abP x (Ld x.im (L.drop ((0:Nat)))):=by
 unfold OT
 refine bM (env:=env) (nb:=1) (L.length) (fun i=>⟨sl 49 [(1,.aO 0 0),(3,.row 1 (L.map JK)),(16,.any),(27,.ref (.slot 3) 0 L.length),(28,.pv (.int .i64 L.length)),(29,.pv (.int .i64 i))],[⟨false,bOut x⟩],[],none⟩) (fun i=>abP x (Ld x.im (L.drop (i)))) h (fun _=>rfl) (fun _=>by simp only [aG,bJ,Nat.reduceMul,Nat.reduceBEq,Nat.reduceLT,Nat.reduceLeDiff,Nat.reduceAdd,decide_true,zt,zm]) ?_ ?_
 ·intro i rb hi ih
  have hi1:=bF hi hL
  have F1:((i:Int)<(L.length:Int))=True:=eq_true (by omega)
  have hy:=Y6 hi
  have e1:=Y0 (im:=x.im) (l:=L[i]) (ho _ (zR hi)) hi0 hr
  have e2:=apK (l:=L[i])
  rw [abO hi]
  by_cases c1:wE x.im L[i]=0
  ·have Z0:((0:Int) != 0)=false:=rfl
   rw [c1] at e1
   rw [decide_eq_true c1,zm]
   cases c2:JJ L[i] with
   |true =>
    rw [c2] at e2
    rw [zm]
    simp only [BM,F1,hy,e1,e2,Z0,fU,au hi,Z2,aF,Nat.reduceMul,Nat.reduceBEq,Nat.reduceLT,Nat.reduceLeDiff,reduceCtorEq,Nat.reduceEqDiff,Nat.reduceAdd,Z1]
    rw [ih _ (by simp only [hi1,fU,aF,Nat.reduceMul,Nat.reduceBEq,Nat.reduceLT,Nat.reduceLeDiff,reduceCtorEq,Nat.reduceEqDiff,Nat.reduceAdd,Z1]<;>rfl)]
    all_goals rfl
   |false =>
    rw [c2] at e2
    rw [Za8]
    unfold abP
    rw [if_neg (by decide)]
    simp only [BM,F1,hy,e1,e2,Z0,fU,au hi,Z2,aF,Nat.reduceMul,Nat.reduceBEq,Nat.reduceLT,Nat.reduceLeDiff,reduceCtorEq,Nat.reduceEqDiff,Nat.reduceAdd,Z1]
  ·have Z:(wE x.im L[i] != 0)=true:=by simp [c1]
   rw [decide_eq_false c1,Za8,Za8]
   unfold abP
   rw [if_neg (by decide)]
   simp only [BM,F1,hy,e1,e2,Z,fU,au hi,Z2,aF,Nat.reduceMul,Nat.reduceBEq,Nat.reduceLT,Nat.reduceLeDiff,reduceCtorEq,Nat.reduceEqDiff,Nat.reduceAdd,Z1]
 ·intro rb
  rw [ZaT]
  unfold Ld abP
  rw [ZaU,if_pos rfl]
  simp only [BM,Zap,fU,Z2,aF,Nat.reduceMul,Nat.reduceBEq,Nat.reduceLT,Nat.reduceLeDiff,reduceCtorEq,Nat.reduceEqDiff,Nat.reduceAdd,Z1]
theorem Y7 {im:fG}(h:XM im=true):im.length≤9∧∀ v∈im,v.length≤24:=by
 unfold XM at h
 simp only [ZZ,decide_eq_true_eq] at h
 exact ⟨h.1,fun v hv=>by simpa using zE.1 h.2 v hv⟩
theorem apM {x:iT}(ho:okO x)(aue:x.rs.length+2≤VD):cal env 22 [U7 x]=some [(.bool (U8 x),false)]:=by
 have hlim:lim=1073741824:=rfl
 have e0:=ao9 (im:=x.im)
 have F0:=eq_true (show 2+x.rs.length≤VD by omega)
 unfold U8
 rw [wQ]
 cases h7:XM x.im with
 |false =>
  rw [h7] at e0
  rw [ah aeC rfl];simp only [XD,aG,Nat.reduceBEq,Nat.reduceLeDiff,Nat.reduceAdd,za,zd]
  simp only [e0,F0,Z2,za,zd,Nat.reduceAdd,aF,Nat.reduceMul,Nat.reduceBEq,Nat.reduceLT,Nat.reduceLeDiff,reduceCtorEq,Nat.reduceEqDiff,Z1]
 |true =>
  rw [h7] at e0
  obtain ⟨a1,a2⟩:=Y7 h7
  by_cases c:x.rs.length≤8
  ·have F1:((x.rs.length:Int) > 8)=False:=eq_false (by omega)
   rw [decide_eq_true c]
   simp only [zm]
   rw [ah aeC rfl];simp only [XD,aG,Nat.reduceBEq,Nat.reduceLeDiff,Nat.reduceAdd,za,zd]
   simp only [e0,F0,F1,Z2,za,zd,Nat.reduceAdd,aF,Nat.reduceMul,Nat.reduceBEq,Nat.reduceLT,Nat.reduceLeDiff,reduceCtorEq,Nat.reduceEqDiff,Z1]
   rw [amZ (x:=x) (L:=x.o::x.n::x.rs) (ajq ho) (by simp;omega) (by omega) (fun v hv=>by have:=a2 v hv;omega) (by simp only [fU,Zaj,za,Z2,ajo];simp only [aG,bJ,Nat.reduceMul,Nat.reduceBEq,Nat.reduceLT,Nat.reduceLeDiff,Nat.reduceAdd,decide_true,zt,zm]<;>rfl)]
   rw [Za5]
   unfold abP
   cases Ld x.im (x.o::x.n::x.rs) with
   |true=>rw [if_pos rfl];simp only [fU,aF,Nat.reduceMul,Nat.reduceBEq,Nat.reduceLT,Nat.reduceLeDiff,reduceCtorEq,Nat.reduceEqDiff,Nat.reduceAdd,Z1]
   |false=>rw [if_neg (by decide)];simp only [fU,aF,Nat.reduceMul,Nat.reduceBEq,Nat.reduceLT,Nat.reduceLeDiff,reduceCtorEq,Nat.reduceEqDiff,Nat.reduceAdd,Z1]
  ·have F1:((x.rs.length:Int) > 8)=True:=eq_true (by omega)
   rw [decide_eq_false c]
   rw [ah aeC rfl];simp only [XD,aG,Nat.reduceBEq,Nat.reduceLeDiff,Nat.reduceAdd,za,zd]
   simp only [e0,F0,F1,Z2,za,zd,Nat.reduceAdd,aF,Nat.reduceMul,Nat.reduceBEq,Nat.reduceLT,Nat.reduceLeDiff,reduceCtorEq,Nat.reduceEqDiff,Z1]
def wX8 (w:fK):cZ:=⟨w.start,w.data.length⟩
def o9 (v:Nat)(l:List fK):List cZ:=(l.filter fun w=>decide (w.volume=(v:Int))).map wX8
theorem ajr {v:Nat}{l:List fK}{i:Nat}(h:i<l.length)(c:l[i].volume=(v:Int)):o9 v (l.take (i+1))=o9 v (l.take i)++[wX8 l[i]]:=by
 unfold o9
 rw [Zao h,Zbg,ZaK,List.filter_cons_of_pos (by simpa using c)]
 rfl
theorem am0 {v:Nat}{l:List fK}{i:Nat}(h:i<l.length)(c:¬ l[i].volume=(v:Int)):o9 v (l.take (i+1))=o9 v (l.take i):=by
 unfold o9
 rw [Zao h,Zbg,ZaK,List.filter_cons_of_neg (by simpa using c)]
 simp
theorem Y8 (v:Nat)(l:List fK):(o9 v l).length≤l.length:=by
 unfold o9;rw [Z2];exact ZcK ..
theorem Qy (v:Nat)(a b:List fK):o9 v (a++b)=o9 v a++o9 v b:=by
 unfold o9;rw [Zbg,ZaK]
def qp (im:fG)(l:List fK):Prop:=∀ w∈l,sD (bG im) w=0
theorem Y9 {im:fG}{l:List fK}(h:qp im l){v:Nat}:∀ e∈o9 v l,0≤e.start∧1≤e.count∧e.start+e.count≤((im.getD v []).length:Int):=fun e he=>by
 unfold o9 at he
 obtain ⟨w,hw,rfl⟩:=ZaY.1 he
 obtain ⟨hw,hc⟩:=List.mem_filter.1 hw
 have hc:w.volume=(v:Int):=by simpa using hc
 obtain ⟨q1,q2,q3,q4,q5⟩:=Fa (h w hw)
 have e1:w.volume.toNat=v:=by omega
 rw [e1] at q5
 unfold wX8
 refine ⟨q4,?_,q5⟩
 show (1:Int)≤(w.data.length:Int)
 omega
theorem oD {im:fG}{k:Nat}(hr:∀ v∈im,v.length≤k)(v:Nat):(im.getD v []).length≤k:=by
 by_cases h:v<im.length
 ·rw [getD_lt h];exact hr _ (zR h)
 ·simp [Zag,ZaV (ZbK h)]
theorem am1 {im:fG}{l:List fK}(h:qp im l)(hr:∀ v∈im,v.length≤4096)(v:Nat):Au (o9 v l):=fun e he=>by
 have:=Y9 h e he
 have:=oD hr v
 unfold okE
 omega
theorem ajs {l:List cZ}{n:Int}(h:∀ e∈l,0≤e.start∧1≤e.count∧e.start+e.count≤n){s:Nat}(hs:n≤(s:Int)):mM l s=false:=by
 unfold mM
 rw [ZbA]
 intro e he
 have:=h e he
 unfold KX
 simp only [ZZ,decide_eq_true_eq]
 omega
theorem JL {im:fG}{l:List fK}(h:qp im l)(hr:∀ v∈im,v.length≤4096)(v:Nat):zi (o9 v l)=ext (mM (o9 v l)) (im.getD v []).length:=by
 have e1:zi (o9 v l)=ext (mM (o9 v l)) 4096:=by
  unfold zi setOf
  refine rH fun s _=>?_
  unfold Vw
  cases mM (o9 v l) s<;>rfl
 rw [e1]
 exact U5 (oD hr v) fun s hs=>ajs (Y9 h) (by omega)
def mB (im:fG)(l:List fK)(v:Nat):Bm:=fxO ((im.getD v []).length:Int) (zi (o9 v l))
theorem vI {im:fG}{l:List fK}(h:qp im l)(hr:∀ v∈im,v.length≤4096)(v:Nat):fxE ((im.getD v []).length:Int) (zi (o9 v l))=0∧okB (mB im l v)=true∧(mB im l v).size=((im.getD v []).length:Int)∧∀ s:Nat,s<(im.getD v []).length→bit (mB im l v).ws s=mM (o9 v l) s:=by
 obtain ⟨g1,g2,g3,g4,g5⟩:=apJ (n:=(im.getD v []).length) (l:=zi (o9 v l)) (oD hr v) (fun e he=>by
  rw [JL h hr v] at he
  exact Az _ _ e he)
 refine ⟨g1,g3,g4,fun s hs=>?_⟩
 unfold mB
 rw [g5 s hs,JL h hr v,CW,decide_eq_true hs,zm]
def jP (im:fG)(l:List fK):List Bm:=(Zar im.length).map (mB im l)
theorem agb (im:fG)(l:List fK)(i:Nat):((Zar (i+1)).map (mB im l)).map jq=((Zar i).map (mB im l)).map jq++[.agg [.int .i64 (mB im l i).size,.list 1 ((mB im l i).ws.map eW)]]:=by
 rw [ZbG,ZaK,ZaK];rfl
theorem am2 {im:fG}{l:List fK}{v:Nat}{n:Int}{r:List Bm}(hl:l.length≤1000){st:St}(h:st.head [0,1,6,7,8,9,14,15,16,21,22,23,39,53] st.boxes.length=some ⟨sl 56 [(0,.pv (.list 1 ((aj im).map eI))),(1,.pv (.list 3 (l.map jw))),(6,.row 2 (r.map jq)),(7,.pv (.int .i64 v)),(8,.pv (.int .i64 n)),(9,.row 2 ((o9 v (l.take ((0:Nat)))).map cO)),(14,.pv (.list 1 ((aj im).map eI))),(15,.pv (.int .i64 im.length)),(16,.pv (.int .i64 v)),(21,.pv (.list 3 (l.map jw))),(22,.pv (.int .i64 l.length)),(23,.pv (.int .i64 (0:Nat))),(39,.any),(53,.any)],[],[],none⟩) :
  den env O4 st=some (.normal,⟨sl 56 [(0,.pv (.list 1 ((aj im).map eI))),(1,.pv (.list 3 (l.map jw))),(4,.any),(5,.any),(6,.row 2 (r.map jq)),(8,.pv (.int .i64 n)),(9,.row 2 ((o9 v l).map cO)),(14,.pv (.list 1 ((aj im).map eI))),(15,.pv (.int .i64 im.length)),(16,.pv (.int .i64 v)),(39,.any),(53,.any)],[],[],none⟩):=by
 unfold O4
 refine bM (env:=env) (nb:=0) (l.length) (fun i=>⟨sl 56 [(0,.pv (.list 1 ((aj im).map eI))),(1,.pv (.list 3 (l.map jw))),(6,.row 2 (r.map jq)),(7,.pv (.int .i64 v)),(8,.pv (.int .i64 n)),(9,.row 2 ((o9 v (l.take (i))).map cO)),(14,.pv (.list 1 ((aj im).map eI))),(15,.pv (.int .i64 im.length)),(16,.pv (.int .i64 v)),(21,.pv (.list 3 (l.map jw))),(22,.pv (.int .i64 l.length)),(23,.pv (.int .i64 i)),(39,.any),(53,.any)],[],[],none⟩) (fun i=>some (.normal,⟨sl 56 [(0,.pv (.list 1 ((aj im).map eI))),(1,.pv (.list 3 (l.map jw))),(4,.any),(5,.any),(6,.row 2 (r.map jq)),(8,.pv (.int .i64 n)),(9,.row 2 ((o9 v l).map cO)),(14,.pv (.list 1 ((aj im).map eI))),(15,.pv (.int .i64 im.length)),(16,.pv (.int .i64 v)),(39,.any),(53,.any)],[],[],none⟩)) h (fun _=>rfl) (fun _=>by simp only [aG,bJ,Nat.reduceMul,Nat.reduceBEq,Nat.reduceLT,Nat.reduceLeDiff,Nat.reduceAdd,decide_true,zt,zm]) ?_ ?_
 ·intro i rb hi ih
  have hlim:lim=1073741824:=rfl
  have hi1:=bF hi (zr hl (by decide))
  have F1:((i:Int)<(l.length:Int))=True:=eq_true (by omega)
  have hx:=ajp hi
  have P3:∀ a b c:PV,part [a,b,c] 0 (some 3)=some (.agg [a,b,c]):=fun _ _ _=>rfl
  have h1:=Y8 v (l.take i)
  have h2:(l.take i).length≤l.length:=by rw [Zac];omega
  have F3:=eq_true (show (o9 v (l.take i)).length+1≤lim by omega)
  by_cases c:l[i].volume=(v:Int)
  ·have F2:(l[i].volume==(v:Int))=true:=by simp [c]
   have hs:(o9 v (l.take (i+1))).map cO=(o9 v (l.take i)).map cO++[.agg [.int .i64 l[i].start,.int .i64 l[i].data.length]]:=by rw [ajr hi c,ZaK];rfl
   simp only [Gl,F1,F2,F3,hx,P3,au hi,Z2,aF,Nat.reduceMul,Nat.reduceBEq,Nat.reduceLT,Nat.reduceLeDiff,reduceCtorEq,Nat.reduceEqDiff,Nat.reduceAdd,Z1]
   rw [ih _ (by simp only [hi1];rw [hs];simp only [aF,Nat.reduceMul,Nat.reduceBEq,Nat.reduceLT,Nat.reduceLeDiff,reduceCtorEq,Nat.reduceEqDiff,Nat.reduceAdd,Z1]<;>rfl)]
  ·have F2:(l[i].volume==(v:Int))=false:=by simp [c]
   simp only [Gl,F1,F2,F3,hx,P3,au hi,Z2,aF,Nat.reduceMul,Nat.reduceBEq,Nat.reduceLT,Nat.reduceLeDiff,reduceCtorEq,Nat.reduceEqDiff,Nat.reduceAdd,Z1]
   rw [ih _ (by simp only [hi1];rw [am0 hi c];simp only [aF,Nat.reduceMul,Nat.reduceBEq,Nat.reduceLT,Nat.reduceLeDiff,reduceCtorEq,Nat.reduceEqDiff,Nat.reduceAdd,Z1]<;>rfl)]
 ·intro rb
  rw [ZaI]
  simp only [Gl,Zap,Z2,aF,Nat.reduceMul,Nat.reduceBEq,Nat.reduceLT,Nat.reduceLeDiff,reduceCtorEq,Nat.reduceEqDiff,Nat.reduceAdd,Z1]
theorem agc {im:fG}{l:List fK}(hl:l.length≤1000)(hf:qp im l)(hi0:im.length≤1000)(hr:∀ v∈im,v.length≤4096){st:St}(h:st.head [0,1,6,14,15,16,39,53] st.boxes.length=some ⟨sl 56 [(0,.pv (.list 1 ((aj im).map eI))),(1,.pv (.list 3 (l.map jw))),(6,.row 2 (((Zar ((0:Nat))).map (mB im l)).map jq)),(14,.pv (.list 1 ((aj im).map eI))),(15,.pv (.int .i64 im.length)),(16,.pv (.int .i64 (0:Nat))),(39,.any),(53,.any)],[],[],none⟩) :
  den env O6 st=some (.normal,⟨sl 56 [(4,.any),(5,.any),(6,.row 2 ((jP im l).map jq))],[],[],none⟩):=by
 unfold O6
 refine bM (env:=env) (nb:=0) (im.length) (fun i=>⟨sl 56 [(0,.pv (.list 1 ((aj im).map eI))),(1,.pv (.list 3 (l.map jw))),(6,.row 2 (((Zar (i)).map (mB im l)).map jq)),(14,.pv (.list 1 ((aj im).map eI))),(15,.pv (.int .i64 im.length)),(16,.pv (.int .i64 i)),(39,.any),(53,.any)],[],[],none⟩) (fun i=>some (.normal,⟨sl 56 [(4,.any),(5,.any),(6,.row 2 ((jP im l).map jq))],[],[],none⟩)) h (fun _=>rfl) (fun _=>by simp only [aG,bJ,Nat.reduceMul,Nat.reduceBEq,Nat.reduceLT,Nat.reduceLeDiff,Nat.reduceAdd,decide_true,zt,zm]) ?_ ?_
 ·intro i rb hi ih
  have hlim:lim=1073741824:=rfl
  have hi1:=bF hi (zr hi0 (by decide))
  have F1:((i:Int)<(im.length:Int))=True:=eq_true (by omega)
  have hil:i<(aj im).length:=by simpa [aj] using hi
  have hx:((aj im).map eI)[i]?=some (.int .i64 ((im.getD i []).length:Int)):=by
   rw [apL hil,getD_lt hi];simp [aj]
  have P2:∀ a b:PV,part [a,b] 0 (some 2)=some (.agg [a,b]):=fun _ _=>rfl
  have hol:=Y8 i l
  obtain ⟨g1,_,_,_⟩:=vI hf hr i
  have e1:=ako (a:=o9 i l) (b:=[]) (am1 hf hr i) UY (by omega) (by simp)
  rw [Zai,show setOf Vw (o9 i l) []=zi (o9 i l) from rfl] at e1
  have e2:=akv (l:=zi (o9 i l)) (n:=((im.getD i []).length:Int)) (zr (vH _ _ _) (by decide))
  rw [g1,show fxO ((im.getD i []).length:Int) (zi (o9 i l))=mB im l i from rfl,show jq (mB im l i)=.agg [.int .i64 (mB im l i).size,.list 1 ((mB im l i).ws.map eW)] from rfl] at e2
  have Z0:((0:Int) != 0)=false:=rfl
  have hs:=agb im l i
  obtain ⟨r,hr2⟩:∃ r,r=(Zar i).map (mB im l):=⟨_,rfl⟩
  have hrl:r.length=i:=by rw [hr2,Z2,Zcb]
  rw [← hr2] at hs ⊢
  have F3:=eq_true (show r.length+1≤lim by omega)
  simp only [O5,F1,hx,au hil,Z2,aF,Nat.reduceMul,Nat.reduceBEq,Nat.reduceLT,Nat.reduceLeDiff,reduceCtorEq,Nat.reduceEqDiff,Nat.reduceAdd,Z1]
  rw [am2 (im:=im) (l:=l) (v:=i) (n:=((im.getD i []).length:Int)) (r:=r) hl (by simp only [ZaQ,show o9 i []=[] from rfl,Zai];simp only [aG,bJ,Nat.reduceMul,Nat.reduceBEq,Nat.reduceLT,Nat.reduceLeDiff,Nat.reduceAdd,decide_true,zt,zm]<;>rfl)]
  simp only [e1,e2,Z0,F3,P2,scB,Z2,aF,Nat.reduceMul,Nat.reduceBEq,Nat.reduceLT,Nat.reduceLeDiff,reduceCtorEq,Nat.reduceEqDiff,Nat.reduceAdd,Z1]
  rw [ih _ (by simp only [hi1];rw [hs];simp only [aF,Nat.reduceMul,Nat.reduceBEq,Nat.reduceLT,Nat.reduceLeDiff,reduceCtorEq,Nat.reduceEqDiff,Nat.reduceAdd,Z1]<;>rfl)]
 ·intro rb
  simp only [O5,Zap,Z2,aF,Nat.reduceMul,Nat.reduceBEq,Nat.reduceLT,Nat.reduceLeDiff,reduceCtorEq,Nat.reduceEqDiff,Nat.reduceAdd,Z1]
  rfl
theorem aky {im:fG}{l:List fK}(hl:l.length≤1000)(hf:qp im l)(hi0:im.length≤1000)(hr:∀ v∈im,v.length≤4096):cal env 39 [.list 1 ((aj im).map eI),.list 3 (l.map jw)]=some [(.list 2 ((jP im l).map jq),true),(.bool true,false)]:=by
 have hz:(aj im).length=im.length:=by simp [aj]
 rw [ah aoI rfl];simp only [ad9,aG,Nat.reduceBEq,Nat.reduceLeDiff,Nat.reduceAdd,za,zd]
 simp only [Z2,hz,aF,Nat.reduceMul,Nat.reduceBEq,Nat.reduceLT,Nat.reduceLeDiff,reduceCtorEq,Nat.reduceEqDiff,Nat.reduceAdd,Z1]
 rw [agc (im:=im) (l:=l) hl hf hi0 hr (by simp only [List.range_zero,Zai];simp only [aG,bJ,Nat.reduceMul,Nat.reduceBEq,Nat.reduceLT,Nat.reduceLeDiff,Nat.reduceAdd,decide_true,zt,zm]<;>rfl)]
 simp only [aF,Nat.reduceMul,Nat.reduceBEq,Nat.reduceLT,Nat.reduceLeDiff,reduceCtorEq,Nat.reduceEqDiff,Nat.reduceAdd,Z1]
theorem apP {im:fG}{d:List Bm}:cal env 44 [.list 1 (im.map aX),.list 2 (d.map jq)]=some [(FP ⟨0,[⟨1,1,7⟩],d,im⟩,false)]:=by
 have e:[(⟨1,1,7⟩:zh)].map jY=[.agg [.int .i64 1,.int .i64 1,.int .i64 7]]:=rfl
 rw [gJ,e]
 rw [ah aoM rfl];simp only [aed,aG,Nat.reduceBEq,Nat.reduceLeDiff,Nat.reduceAdd,za,zd]
 simp only [aF,Nat.reduceMul,Nat.reduceBEq,Nat.reduceLT,Nat.reduceLeDiff,reduceCtorEq,Nat.reduceEqDiff,Nat.reduceAdd,Z1]
def dF (x:iT):Pt:=⟨0,[⟨1,1,7⟩],jP x.im x.o,qj x.im x.o⟩
def iF (x:iT):Pt:=⟨1,[⟨1,1,5⟩,⟨2,6,9⟩],jP x.im x.n,qj x.im x.n⟩
theorem qF {im:fG}{l:List fK}(h:wE im l=0):qp im l:=by
 have h0:=qX h
 have hA:(mP (bG im) l 0).2=0:=by unfold wE at h;rwa [if_neg (by rw [h0];simp)] at h
 exact Y1 l im 0 hA
structure OkR (x:iT):Prop where
 ok:okO x
 im9:x.im.length≤9
 v24:∀ v∈x.im,v.length≤24
 eo:wE x.im x.o=0
 en:wE x.im x.n=0
 lo:x.o.length≤40
 ln:x.n.length≤40
theorem am3 {x:iT}(ho:okO x)(h:U8 x=true):OkR x:=by
 unfold U8 Ld at h
 simp only [ZZ,decide_eq_true_eq,Zaw] at h
 obtain ⟨h7,_,⟨a1,a2⟩,⟨b1,b2⟩,_⟩:=h
 obtain ⟨c1,c2⟩:=Y7 h7
 exact ⟨ho,c1,c2,a1,b1,(Eo a2).1,(Eo b2).1⟩
def cL:List (List cZ)→Int
 |[]=>0
 |x::l=>jB (zi x)+cL l
theorem agd:∀ a b:List (List cZ),cL (a++b)=cL a+cL b
 |[],b=>by simp [cL]
 |e::a,b=>by simp only [Za3,cL,agd a b];omega
theorem ajt {l:List (List cZ)}{i:Nat}(h:i<l.length):cL (l.take (i+1))=cL (l.take i)+jB (zi l[i]):=by
 rw [Zao h,agd];simp [cL]
theorem Za (x:List cZ):0≤jB (zi x)∧jB (zi x)≤4096:=by
 unfold zi setOf
 rw [CO]
 have:=ZcK (fun s=>Vw (mM x s) (mM [] s)) (Zar 4096)
 rw [Zcb] at this
 omega
theorem akz:∀ l:List (List cZ),0≤cL l∧cL l≤4096*(l.length:Int)
 |[]=>by simp [cL]
 |x::l=>by
  have h1:=Za x
  have h2:=akz l
  simp only [cL,za]
  omega
theorem am4 {l:List (List cZ)}(ho:∀ x∈l,Au x∧x.length≤10000)(hl:l.length≤1000){st:St}(h:st.head [0,3,6,7,8] st.boxes.length=some ⟨sl 18 [(0,.pv (.list 1 (l.map wH))),(3,.pv (.int .i64 (cL (l.take ((0:Nat)))))),(6,.pv (.list 1 (l.map wH))),(7,.pv (.int .i64 l.length)),(8,.pv (.int .i64 (0:Nat)))],[],[],none⟩) :
  den env OX st=some (.normal,⟨sl 18 [(2,.any),(3,.pv (.int .i64 (cL l)))],[],[],none⟩):=by
 unfold OX
 refine bM (env:=env) (nb:=0) (l.length) (fun i=>⟨sl 18 [(0,.pv (.list 1 (l.map wH))),(3,.pv (.int .i64 (cL (l.take (i))))),(6,.pv (.list 1 (l.map wH))),(7,.pv (.int .i64 l.length)),(8,.pv (.int .i64 i))],[],[],none⟩) (fun i=>some (.normal,⟨sl 18 [(2,.any),(3,.pv (.int .i64 (cL l)))],[],[],none⟩)) h (fun _=>rfl) (fun _=>by simp only [aG,bJ,Nat.reduceMul,Nat.reduceBEq,Nat.reduceLT,Nat.reduceLeDiff,Nat.reduceAdd,decide_true,zt,zm]) ?_ ?_
 ·intro i rb hi ih
  have hi1:=bF hi (zr hl (by decide))
  have F1:((i:Int)<(l.length:Int))=True:=eq_true (by omega)
  have hx:=ajb hi
  have b1:=akz (l.take i)
  have b2:=Za l[i]
  have b3:(l.take i).length≤l.length:=by rw [Zac];omega
  obtain ⟨o1,o2⟩:=ho _ (zR hi)
  have e1:=apA o1 o2
  have W:IntKind.i64.wrap (cL (l.take i)+jB (zi l[i]))=cL (l.take (i+1)):=by rw [ajt hi];exact bn (by omega)
  simp only [OW,F1,hx,W,e1,au hi,Z2,aF,Nat.reduceMul,Nat.reduceBEq,Nat.reduceLT,Nat.reduceLeDiff,reduceCtorEq,Nat.reduceEqDiff,Nat.reduceAdd,Z1]
  rw [ih _ (by simp only [hi1,aF,Nat.reduceMul,Nat.reduceBEq,Nat.reduceLT,Nat.reduceLeDiff,reduceCtorEq,Nat.reduceEqDiff,Nat.reduceAdd,Z1]<;>rfl)]
 ·intro rb
  rw [ZaI]
  simp only [OW,Zap,Z2,aF,Nat.reduceMul,Nat.reduceBEq,Nat.reduceLT,Nat.reduceLeDiff,reduceCtorEq,Nat.reduceEqDiff,Nat.reduceAdd,Z1]
theorem apR {l:List (List cZ)}(ho:∀ x∈l,Au x∧x.length≤10000)(hl:l.length≤1000):cal env 34 [.list 1 (l.map wH)]=some [(.int .i64 (cL l),false)]:=by
 rw [ah aoE rfl];simp only [ad6,aG,Nat.reduceBEq,Nat.reduceLeDiff,Nat.reduceAdd,za,zd]
 simp only [Z2,aF,Nat.reduceMul,Nat.reduceBEq,Nat.reduceLT,Nat.reduceLeDiff,reduceCtorEq,Nat.reduceEqDiff,Nat.reduceAdd,Z1]
 rw [am4 ho hl (by simp only [ZaQ,cL];simp only [aG,bJ,Nat.reduceMul,Nat.reduceBEq,Nat.reduceLT,Nat.reduceLeDiff,Nat.reduceAdd,decide_true,zt,zm]<;>rfl)]
 simp only [aF,Nat.reduceMul,Nat.reduceBEq,Nat.reduceLT,Nat.reduceLeDiff,reduceCtorEq,Nat.reduceEqDiff,Nat.reduceAdd,Z1]
theorem zo:∀ {bs:List Bm} {vs:fG},(∀ i (h1:i<bs.length) (h2:i<vs.length),okB bs[i]=true∧bs[i].size=(vs[i].length:Int))→yA bs vs=0
 |[],vs,_=>by unfold yA;rfl
 |_::_,[],_=>by unfold yA;rfl
 |b::bs,v::vs,h=>by
  obtain ⟨h1,h2⟩:=h 0 (by simp) (by simp)
  have h1:okB b=true:=h1
  have h2:b.size=(v.length:Int):=h2
  unfold yA
  have e:KR b=0:=by unfold KR;rw [if_pos h1]
  rw [if_neg (by rw [e];simp),if_neg (by rw [h2];simp)]
  exact zo fun i g1 g2=>h (i+1) (by simpa using g1) (by simpa using g2)
theorem eY (im:fG)(l:List fK):(jP im l).length=im.length:=by simp [jP]
theorem qZ {im:fG}{l:List fK}{i:Nat}(h:i<(jP im l).length):(jP im l)[i]=mB im l i:=by simp [jP]
theorem agf {im:fG}{l:List fK}{site:Int}{lin:List zh}(h:wE im l=0)(hr:∀ v∈im,v.length≤4096)(hs:0≤site∧site≤1073741824)(hl:qJ lin=true):gU ⟨site,lin,jP im l,qj im l⟩=0:=by
 have hz:=rJ h
 have h0:bY (qj im l)=0:=by show vk (bG (qj im l))=0;rw [hz];exact qX h
 obtain ⟨g1,g2⟩:=kC (a:=qj im l) (b:=im) hz
 unfold gU
 rw [if_neg (by show ¬ (site<0∨1073741824<site);omega),if_neg (by show ¬ qJ lin=false;rw [hl];decide),if_neg (by show ¬ bY (qj im l)≠0;rw [h0];simp),if_neg (by show ¬ (jP im l).length≠(qj im l).length;rw [eY,g1];simp)]
 show yA (jP im l) (qj im l)=0
 refine zo fun i h1 h2=>?_
 have hi:i<im.length:=by omega
 obtain ⟨_,k2,k3,_⟩:=vI (qF h) hr i
 rw [qZ,k3,getD_lt hi,g2 i h2 hi]
 exact ⟨k2,rfl⟩
theorem aju (v:Nat)(l:List fK)(s:Nat):mM (o9 v l) s=l.any fun w=>hit w v s:=by
 unfold mM o9
 rw [List.any_map,List.any_filter]
 congr 1
 funext w
 show (decide (w.volume=(v:Int))&&KX (wX8 w) s)=hit w v s
 unfold KX hit wX8
 rw [ZbH]
 simp only [ZZ,decide_eq_true_eq]
 omega
theorem yJ {im:fG}{l:List fK}(h:wE im l=0){v s:Nat}(hv:v<im.length)(hs:s<(im.getD v []).length)(hn:mM (o9 v l) s=false):qY (qj im l) v s=qY im v s:=by
 have h0:=qX h
 have hA:(mP (bG im) l 0).2=0:=by unfold wE at h;rwa [if_neg (by rw [h0];simp)] at h
 have hO:qj im l=l.foldl FD im:=by unfold qj;rw [if_pos h]
 rw [hO,JI l im 0 hA hv hs]
 refine Ej v s l _ fun w hw c=>?_
 rw [aju,ZbA] at hn
 exact hn w hw c
theorem CZ {p:Nat→Bool}{n:Nat}(hn:n≤4096):zi (ext p n)=ext p n:=by
 unfold zi setOf
 have e1:ext (fun s=>Vw (mM (ext p n) s) (mM [] s)) 4096=ext (fun s=>decide (s<n)&&p s) 4096:=rH fun s _=>by
  unfold Vw
  rw [CW,show mM [] s=false from rfl,ZcC]
 rw [e1,U5 hn fun s hs=>by rw [decide_eq_false (by omega)];rfl]
 exact rH fun s hs=>by rw [decide_eq_true hs,zm]
theorem cnt_mono {p q:Nat→Bool}{n:Nat}(h:∀ s,s<n→p s=true→q s=true):jB (ext p n)≤jB (ext q n):=by
 rw [CO,CO,← Zc1,← Zc1]
 have:=List.countP_mono_left (l:=Zar n) (p:=p) (q:=q) fun s hs=>h s (ZaS.1 hs)
 omega
theorem agh:∀ l:List cZ,sE l=jB l
 |[]=>rfl
 |e::l=>by
  have:=agh l
  unfold sE
  rw [this]
  simp [jB]
theorem akA:∀ {D:List (List cZ)},(∀ x∈D,zi x=x)→sL D=cL D
 |[],_=>rfl
 |x::D,h=>by
  unfold sL cL
  rw [h x (by simp),agh,akA fun y hy=>h y (by simp [hy])]
theorem Zb:∀ {D L:List (List cZ)},D.length=L.length→(∀ i (h1:i<D.length) (h2:i<L.length),jB (zi D[i])≤jB (zi L[i]))→cL D≤cL L
 |[],L,h,_=>by
  have:L=[]:=Zaz h.symm
  rw [this]
  exact Int.le_refl _
 |x::D,[],h,_=>by simp at h
 |x::D,y::L,h,hc=>by
  have h0:jB (zi x)≤jB (zi y):=hc 0 (by simp) (by simp)
  have h1:=Zb (D:=D) (L:=L) (by simpa using h) fun i g1 g2=>hc (i+1) (by simpa using g1) (by simpa using g2)
  unfold cL
  omega
section
variable {x:iT}(h:OkR x)
include h
theorem lT:∀ v∈x.im,v.length≤4096:=fun v hv=>by have:=h.v24 v hv;omega
theorem agi:gU (dF x)=0:=agf h.eo (lT h) (by decide) (by decide)
theorem agj:gU (iF x)=0:=agf h.en (lT h) (by decide) (by decide)
theorem Fb:bG (dF x).img=bG x.im:=rJ h.eo
theorem U9:bG (iF x).img=bG x.im:=rJ h.en
theorem JM:aj (dF x).img=aj (iF x).img:=(Fb h).trans (U9 h).symm
theorem agk:btE (dF x) (iF x)=0:=by
 unfold btE
 rw [if_pos (agi h),if_pos (agj h),if_pos (JM h)]
theorem Qz:uN (dF x) (iF x) 3=0:=by
 unfold uN
 have s1:gK (dF x).site=true:=by show gK 0=true;decide
 have s2:gK (iF x).site=true:=by show gK 1=true;decide
 have s3:(dF x).site≠(iF x).site:=by show (0:Int)≠1;decide
 have s4:(kH (dF x).lin).epoch<3:=by show (1:Int)<3;decide
 have s5:(kH (iF x).lin).epoch<3:=by show (2:Int)<3;decide
 rw [if_pos (agk h),if_pos s1,if_pos s2,if_pos s3,if_pos s4,if_pos s5,if_pos (by decide)]
theorem JO:(dF x).img.length=x.im.length:=(gV (Fb h) 0).2
theorem Gz:(iF x).img.length=x.im.length:=(gV (U9 h) 0).2
theorem abR:qo (dF x) (iF x) 3=Qe (dF x) (iF x) x.im.length:=by
 unfold qo btO
 rw [if_pos (Qz h),if_pos (agk h),JO h]
theorem X5:qp x.im (x.o++x.n):=fun w hw=>by
 rcases List.mem_append.1 hw with hw|hw
 ·exact qF h.eo w hw
 ·exact qF h.en w hw
theorem apS {v s:Nat}(hv:v<x.im.length)(hs:s<(x.im.getD v []).length):mk2 (dF x) (iF x) v s=mM (o9 v (x.o++x.n)) s:=by
 have hd:∀ l:List fK,(jP x.im l).getD v ⟨0,[]⟩=mB x.im l v:=fun l=>by
  have hl:v<(jP x.im l).length:=by rw [eY];exact hv
  rw [getD_lt hl,qZ]
 have e1:dir (dF x) v=mB x.im x.o v:=hd x.o
 have e2:dir (iF x) v=mB x.im x.n v:=hd x.n
 obtain ⟨_,a2,a3,a4⟩:=vI (qF h.eo) (lT h) v
 obtain ⟨_,b2,b3,b4⟩:=vI (qF h.en) (lT h) v
 unfold mk2
 rw [e1,e2,Gw a2 (by rw [a3];omega),Gw b2 (by rw [b3];omega),a4 s hs,b4 s hs,Qy]
 unfold mM
 rw [Zdq]
theorem Zc {v:Nat}(hv:v<x.im.length):(Qe (dF x) (iF x) x.im.length)[v]'(by rw [lY];exact hv)=zi (o9 v (x.o++x.n)):=by
 have e1:(Qe (dF x) (iF x) x.im.length)[v]'(by rw [lY];exact hv)=ext (mk2 (dF x) (iF x) v) (D7 (dF x) v):=by simp [Qe]
 have e2:D7 (dF x) v=(x.im.getD v []).length:=(gV (Fb h) v).1
 rw [e1,e2,JL (X5 h) (lT h) v]
 exact rH fun s hs=>apS h hv hs
theorem am5 {v s:Nat}(hv:v<x.im.length)(hs:s<(x.im.getD v []).length)(hd:dif ((dF x).img.getD v []) ((iF x).img.getD v []) s=true):mM (o9 v (x.o++x.n)) s=true:=by
 have l1:=(gV (Fb h) v).1
 have hne:=(aji (JM h) (by rw [JO h];exact hv) (by rw [l1];exact hs)).1 hd
 cases c:mM (o9 v (x.o++x.n)) s with
 |true=>rfl
 |false =>
  exfalso
  rw [Qy] at c
  unfold mM at c
  rw [Zdq,ZcP] at c
  exact hne ((yJ h.eo hv hs c.1).trans (yJ h.en hv hs c.2).symm)
theorem QB:kQ (dF x).img (iF x).img=0:=by
 obtain ⟨_,a2,_,_⟩:=lZ (agi h)
 obtain ⟨_,b2,_,_⟩:=lZ (agj h)
 unfold kQ
 rw [if_neg (by rw [a2];simp),if_neg (by rw [b2];simp),if_pos (JM h)]
theorem ase:ny (dF x).img (iF x).img=differ (dF x).img (iF x).img:=by
 unfold ny
 rw [if_pos (QB h)]
theorem QC:(differ (dF x).img (iF x).img).length=x.im.length:=by
 have h1:=JO h
 have h2:=Gz h
 unfold differ
 rw [Z2,List.length_zip]
 omega
theorem agl {v:Nat}(hv:v<x.im.length):(differ (dF x).img (iF x).img)[v]'(by rw [QC h];exact hv)=ext (dif ((dF x).img.getD v []) ((iF x).img.getD v [])) (x.im.getD v []).length:=by
 have h1:=JO h
 have h2:=Gz h
 have l1:=(gV (Fb h) v).1
 rw [← l1,getD_lt (show v<(dF x).img.length by omega),getD_lt (show v<(iF x).img.length by omega)]
 simp only [differ,ZbM,List.getElem_zip]
 rfl
theorem am6:∀ y∈differ (dF x).img (iF x).img,zi y=y:=fun y hy=>by
 obtain ⟨v,hv,rfl⟩:=Za9.1 hy
 rw [QC h] at hv
 rw [agl h hv]
 exact CZ (oD (lT h) v)
theorem agm:sL (differ (dF x).img (iF x).img)=cL (differ (dF x).img (iF x).img):=akA (am6 h)
theorem ajv:cL (differ (dF x).img (iF x).img)≤cL (Qe (dF x) (iF x) x.im.length):=by
 refine Zb (by rw [QC h,lY]) fun v h1 h2=>?_
 have hv:v<x.im.length:=by rw [lY] at h2;exact h2
 have hn:=oD (lT h) v
 rw [Zc h hv,agl h hv,JL (X5 h) (lT h) v,CZ hn,CZ hn]
 exact cnt_mono fun s hs hd=>am5 h hv hs hd
end
def jr (l:List fK):Int:=(l.map fun w=>(w.data.length:Int)).sum
theorem X6 (l:List fK)(x:fK):jr (l++[x])=jr l+x.data.length:=by simp [jr]
theorem X7 {l:List fK}{i:Nat}(h:i<l.length):jr (l.take (i+1))=jr (l.take i)+(l[i].data.length:Int):=by
 rw [Zao h,X6]
theorem zq {k:Nat}:∀ {l:List fK},(∀ w∈l,w.data.length≤k)→0≤jr l∧jr l≤(k*l.length:Nat)
 |[],_=>by simp [jr]
 |x::l,h=>by
  have:=zq (l:=l) fun w hw=>h w (by simp [hw])
  have hx:=h x (by simp)
  have e:jr (x::l)=(x.data.length:Int)+jr l:=by simp [jr]
  rw [e,za,Nat.mul_add,Nat.mul_one];omega
theorem Va {size:Int}:∀ (l:List cZ) (nx:Int),CU size nx l=0→∀ e∈l,0≤e.start∧1≤e.count∧e.start+e.count≤size
 |[],_,_,e,he=>by cases he
 |x::l,nx,h,e,he=>by
  unfold CU at h
  split at h
  ·omega
  ·split at h
   ·omega
   ·split at h
    ·omega
    ·rcases Zaf.1 he with rfl|he
     ·omega
     ·exact Va l _ h e he
theorem ajw {l:List cZ}{size:Int}(h:Lc l size=0):∀ e∈l,0≤e.start∧1≤e.count∧e.start+e.count≤size:=by
 unfold Lc at h
 split at h
 ·omega
 ·exact Va l 0 h
theorem agn {im:fG}{l:List (List cZ)}(h:CV im l=0){i:Nat}(hi:i<l.length)(hj:i<im.length):Lc l[i] (im[i].length:Int)=0:=by
 unfold CV at h
 split at h
 ·omega
 ·split at h
  ·omega
  ·rename_i c
   have h2:(ajg im l)[i]?=some (decide (Lc l[i] (im[i].length:Int)=0)):=by simp [ajg,afY,hi,hj]
   cases hd:decide (Lc l[i] (im[i].length:Int)=0) with
   |true=>simpa using hd
   |false =>
    rw [hd] at h2
    exact absurd (Zdz.2 (Zab h2)) c
def Vx (im:fG)(v:Nat)(e:cZ):fK:=⟨v,e.start,((im.getD v []).drop e.start.toNat).take e.count.toNat⟩
def QD (im:fG)(v:Nat)(x:List cZ):List fK:=x.map (Vx im v)
def FV (im:fG)(l:List (List cZ))(n:Nat):List fK:=(Zar n).flatMap fun v=>QD im v (l.getD v [])
def GH (im:fG)(l:List (List cZ)):List fK:=FV im l l.length
theorem yK (im:fG)(l:List (List cZ))(n:Nat):FV im l (n+1)=FV im l n++QD im n (l.getD n []):=by simp [FV,ZbG]
theorem agp {n a b:Int}:cal env 97 [.int .i64 n,.int .i64 a,.int .i64 b]=some [(.bool (decide (a≤n)&&decide (n≤b)),false)]:=by
 by_cases h:a≤n
 ·have F1:(a≤n)=True:=eq_true h
  rw [ah akd rfl];simp only [aa4,aG,Nat.reduceBEq,Nat.reduceLeDiff,Nat.reduceAdd,za,zd]
  simp only [F1,aF,Nat.reduceMul,Nat.reduceBEq,Nat.reduceLT,Nat.reduceLeDiff,reduceCtorEq,Nat.reduceEqDiff,Nat.reduceAdd,Z1]
 ·have F1:(a≤n)=False:=eq_false h
  rw [ah akd rfl];simp only [aa4,aG,Nat.reduceBEq,Nat.reduceLeDiff,Nat.reduceAdd,za,zd]
  simp only [F1,aF,Nat.reduceMul,Nat.reduceBEq,Nat.reduceLT,Nat.reduceLeDiff,reduceCtorEq,Nat.reduceEqDiff,Nat.reduceAdd,Z1]
def ajx (n:Int):Bool:=!(decide (0≤n)&&decide (n≤1073741824))
def agq (l:List Int):Int:=if 8<l.length then 6 else if l.any ajx then 2 else 0
theorem am7 {n:Int}:cal env 130 [eI n]=some [(.bool (ajx n),false)]:=by
 have e1:=agp (n:=n) (a:=0) (b:=1073741824)
 unfold eI
 rw [ah alM rfl];simp only [Ue,aG,Nat.reduceBEq,Nat.reduceLeDiff,Nat.reduceAdd,za,zd]
 simp only [e1,ajx,aF,Nat.reduceMul,Nat.reduceBEq,Nat.reduceLT,Nat.reduceLeDiff,reduceCtorEq,Nat.reduceEqDiff,Nat.reduceAdd,Z1]
theorem apT {l:List Int}(hl:l.length≤20):cal env 98 [.list 1 (l.map eI),.int .i64 0]=some [(.int .i64 (agq l),false)]:=by
 have e1:=agp (n:=(l.length:Int)) (a:=0) (b:=8)
 have e2:=aeN (l:=l) (enc:=eI) (caps:=[]) (fun x _=>am7 (n:=x)) (fun x=>rfl) (zr hl (by decide))
 unfold agq
 by_cases h:8<l.length
 ·have G:(decide ((0:Int)≤l.length)&&decide ((l.length:Int)≤8))=false:=by simp;omega
  rw [G] at e1
  rw [if_pos h]
  rw [ah aeI rfl];simp only [XI,aG,Nat.reduceBEq,Nat.reduceLeDiff,Nat.reduceAdd,za,zd]
  simp only [e1,Z2,aF,Nat.reduceMul,Nat.reduceBEq,Nat.reduceLT,Nat.reduceLeDiff,reduceCtorEq,Nat.reduceEqDiff,Nat.reduceAdd,Z1]
 ·have G:(decide ((0:Int)≤l.length)&&decide ((l.length:Int)≤8))=true:=by simp;omega
  rw [G] at e1
  rw [if_neg h]
  cases hb:l.any ajx with
  |true =>
   rw [hb] at e2
   rw [ah aeI rfl];simp only [XI,aG,Nat.reduceBEq,Nat.reduceLeDiff,Nat.reduceAdd,za,zd]
   simp only [e1,e2,Z2,aF,Nat.reduceMul,Nat.reduceBEq,Nat.reduceLT,Nat.reduceLeDiff,reduceCtorEq,Nat.reduceEqDiff,Nat.reduceAdd,Z1]
  |false =>
   rw [hb] at e2
   rw [ah aeI rfl];simp only [XI,aG,Nat.reduceBEq,Nat.reduceLeDiff,Nat.reduceAdd,za,zd]
   simp only [e1,e2,Z2,aF,Nat.reduceMul,Nat.reduceBEq,Nat.reduceLT,Nat.reduceLeDiff,reduceCtorEq,Nat.reduceEqDiff,Nat.reduceAdd,Z1]
def ajy (b n t:Int)(p:List Int)(w:List fK):PV:=.agg [.int .i64 b,.int .i64 n,.int .i64 t,.list 1 (p.map eI),.list 3 (w.map jw)]
def FW (b n t:Int)(p:List Int):Int:=if b<0∨n≤b∨n > 1073741824 then 2 else if t<0∨t > 1073741824 then 24 else agq p
def ajz (x w:fK):Prop:=x.volume<w.volume∨x.volume=w.volume∧x.start+x.data.length<w.start
def QE (im:fG)(l:List fK):Prop:=(∀ w∈l,kN im w=0)∧∀ i (h:i+1<l.length),ajz l[i] l[i+1]
theorem QF {im:fG}{w:fK}(h:kN im w=0):0≤w.volume∧w.volume<im.length∧0≤w.start∧w.start+w.data.length≤((im.getD w.volume.toNat []).length:Int):=by
 unfold kN at h
 split at h
 ·omega
 ·split at h
  ·omega
  ·split at h
   ·omega
   ·omega
theorem Vb {im:fG}(hr:∀ v∈im,v.length≤1000000)(v:Nat):(im.getD v []).length≤1000000:=by
 by_cases h:v<im.length
 ·have e:im.getD v []=im[v]:=by simp [h]
  rw [e];exact hr _ (zR h)
 ·have e:im.getD v []=[]:=by simp [Zag,ZaV (ZbK h)]
  rw [e];simp
theorem ru (im:fG):oZ (aj im)=im.map fun v=>Zal v.length Ig:=by simp [oZ,aj]
theorem JQ (im:fG):(oZ (aj im)).length=im.length:=by rw [ru];simp
theorem JR (im:fG):aj (oZ (aj im))=aj im:=by rw [ru];simp [aj]
theorem Vd {im:fG}{w:fK}(h:bY im=0):Jd (oZ (aj im)) w=kN im w:=by
 have h1:bY (oZ (aj im))=0:=by unfold bY at h ⊢;rw [JR];exact h
 have h2:∀ v:Nat,((oZ (aj im)).getD v []).length=(im.getD v []).length:=fun v=>by
  rw [ru]
  by_cases hv:v<im.length<;>simp [Zag,hv]
 unfold Jd
 rw [if_neg (by simpa using h1)]
 unfold kN
 rw [JQ,h2]
theorem am8 {im:fG}{w:fK}(hl:im.length≤lim)(hr:∀ v∈im,v.length≤lim)(hd:w.data.length≤lim):cal env 132 [jw w,.dM [.list 1 (im.map aX)] 0]=some [(.int .i64 (Jd im w),false)]:=by
 have e1:=ama hl hr hd
 unfold jw at *
 rw [ah alO rfl];simp only [Ug];simp only [start,aJ,aT,aH,aS,aB,aC,aI,aQ,Nat.reduceAdd,Nat.reduceSub]
 simp only [e1,bg,reduceCtorEq,Nat.reduceEqDiff,Nat.reduceAdd,Nat.reduceLT,Nat.reduceLeDiff,Z1]
theorem ajA {im:fG}{l:List fK}{gf:Nat}{caps:List PV}(hp:∀ w∈l,cal env gf (jw w::caps)=some [(.int .i64 0,false)])(hs:QE im l)(hr:∀ v∈im,v.length≤1000000)(hl:l.length≤lim){st:St}(h:st.head [0,1,9,10,11] st.boxes.length=some ⟨[.pv (.list 3 (l.map jw)),.pv (.func gf caps),.any,.any,.any,.any,.any,.any,.any,.pv (.list 3 (l.map jw)),.pv (.int .i64 l.length),.pv (.int .i64 (0:Nat)),.any,.any,.any,.any,.any,.any,.any,.any,.any,.any,.any,.any,.any,.any,.any,.any,.any,.any,.any,.any,.any,.any,.any,.any,.any,.any,.any,.any,.any,.any,.any,.any,.any,.any,.any,.any,.any,.any,.any,.any,.any],[],[],none⟩) :
  den env IV st=some (.normal,⟨[.any,.any,.any,.any,.any,.any,.any,.any,.any,.any,.any,.any,.any,.any,.any,.any,.any,.any,.any,.any,.any,.any,.any,.any,.any,.any,.any,.any,.any,.any,.any,.any,.any,.any,.any,.any,.any,.any,.any,.any,.any,.any,.any,.any,.any,.any,.any,.any,.any,.any,.any,.any,.any],[],[],none⟩):=by
 unfold IV
 refine bM (env:=env) (l.length) (fun i=>⟨[.pv (.list 3 (l.map jw)),.pv (.func gf caps),.any,.any,.any,.any,.any,.any,.any,.pv (.list 3 (l.map jw)),.pv (.int .i64 l.length),.pv (.int .i64 i),.any,.any,.any,.any,.any,.any,.any,.any,.any,.any,.any,.any,.any,.any,.any,.any,.any,.any,.any,.any,.any,.any,.any,.any,.any,.any,.any,.any,.any,.any,.any,.any,.any,.any,.any,.any,.any,.any,.any,.any,.any],[],[],none⟩) (fun i=>some (.normal,⟨[.any,.any,.any,.any,.any,.any,.any,.any,.any,.any,.any,.any,.any,.any,.any,.any,.any,.any,.any,.any,.any,.any,.any,.any,.any,.any,.any,.any,.any,.any,.any,.any,.any,.any,.any,.any,.any,.any,.any,.any,.any,.any,.any,.any,.any,.any,.any,.any,.any,.any,.any,.any,.any],[],[],none⟩)) h (fun _=>rfl) (fun _=>rfl) ?_ ?_
 ·intro i rb hi ih
  have hi1:=bF hi hl
  have F1:((i:Int)<(l.length:Int))=True:=eq_true (by omega)
  have e1:=hp _ (zR hi)
  have P:∀ x:fK,part [PV.int .i64 x.volume,.int .i64 x.start,.list 8 (x.data.map je)] 0 (some 3)=some (.agg [.int .i64 x.volume,.int .i64 x.start,.list 8 (x.data.map je)]):=fun x=>rfl
  unfold jw at e1
  cases i with
  |zero =>
   have Z0:(((0:Nat):Int)==0)=true:=rfl
   simp only [yg,F1,P,Z0,e1,jw,au hi,zb,ZS hi,bg,reduceCtorEq,Nat.reduceEqDiff,Nat.reduceAdd,Nat.reduceLT,Nat.reduceLeDiff,Z1]
   rw [ih _ (by simp only [hi1];rfl)]
  |succ j =>
   have hj:j<l.length:=by omega
   have Z:(((j+1:Nat):Int)==0)=false:=by simp;omega
   have W:IntKind.i64.wrap (((j+1:Nat):Int) - 1)=(j:Int):=by rw [show ((j+1:Nat):Int) - 1=(j:Int) by omega];exact bn (by unfold lim at hl;omega)
   have ho:=hs.2 j hi
   obtain ⟨q1,q2,q3,q4⟩:=QF (hs.1 _ (zR hj))
   have q5:=Vb hr l[j].volume.toNat
   have W2:IntKind.i64.wrap (l[j].start+(l[j].data.length:Int))=l[j].start+(l[j].data.length:Int):=bn (by omega)
   have G1:(l[j+1].volume<l[j].volume)=False:=eq_false (by unfold ajz at ho;omega)
   by_cases c:l[j+1].volume=l[j].volume
   ·have G2:(l[j+1].volume==l[j].volume)=true:=by simp [c]
    have G3:(l[j+1].start≤l[j].start+(l[j].data.length:Int))=False:=eq_false (by unfold ajz at ho;omega)
    simp only [yg,F1,P,Z,W,W2,G1,G2,G3,e1,jw,au hi,au hj,zb,ZS hi,ZS hj,Z2,bg,reduceCtorEq,Nat.reduceEqDiff,Nat.reduceAdd,Nat.reduceLT,Nat.reduceLeDiff,Z1]
    rw [ih _ (by simp only [hi1];rfl)]
   ·have G2:(l[j+1].volume==l[j].volume)=false:=by simp [c]
    simp only [yg,F1,P,Z,W,W2,G1,G2,e1,jw,au hi,au hj,zb,ZS hi,ZS hj,Z2,bg,reduceCtorEq,Nat.reduceEqDiff,Nat.reduceAdd,Nat.reduceLT,Nat.reduceLeDiff,Z1]
    rw [ih _ (by simp only [hi1];rfl)]
 ·intro rb
  simp only [yg,Zap,bg,reduceCtorEq,Nat.reduceEqDiff,Nat.reduceAdd,Nat.reduceLT,Nat.reduceLeDiff,Z1]
  rfl
theorem am9 {im:fG}{l:List fK}{gf:Nat}{caps:List PV}(hp:∀ w∈l,cal env gf (jw w::caps)=some [(.int .i64 0,false)])(hs:QE im l)(hr:∀ v∈im,v.length≤1000000)(hl:l.length≤lim) :
  cal env 131 [.list 3 (l.map jw),.func gf caps]=some [(.int .i64 0,false)]:=by
 rw [ah alN rfl];simp only [Uf];simp only [start,aJ,aT,aH,aS,aB,aC,aI,aQ,Nat.reduceAdd,Nat.reduceSub]
 simp only [Z2,bg,reduceCtorEq,Nat.reduceEqDiff,Nat.reduceAdd,Nat.reduceLT,Nat.reduceLeDiff,Z1]
 rw [ajA hp hs hr hl]
 rotate_left
 ·rfl
 ·simp only [bg,reduceCtorEq,Nat.reduceEqDiff,Nat.reduceAdd,Nat.reduceLT,Nat.reduceLeDiff,Z1]
theorem apU {im:fG}{l:List fK}(hs:QE im l)(hc:bY im=0)(hi:im.length≤lim)(hr:∀ v∈im,v.length≤1000000)(hl:l.length≤lim) :
  cal env 99 [.list 3 (l.map jw),.list 1 ((aj im).map eI)]=some [(.int .i64 0,false)]:=by
 have hz:(aj im).length≤lim:=by simpa [aj] using hi
 have e1:=akf hz
 have hc':iL (aj im)=0:=hc
 have hrn:∀ v∈oZ (aj im),v.length≤lim:=fun v hv=>by
  rw [ru] at hv
  obtain ⟨u,hu,rfl⟩:=ZaY.1 hv
  have:=hr u hu
  simp;unfold lim;omega
 have hsz:∀ w∈l,cal env 132 (jw w::[.dM [.list 1 ((oZ (aj im)).map aX)] 0])=some [(.int .i64 0,false)]:=fun w hw=>by
  obtain ⟨q1,q2,q3,q4⟩:=QF (hs.1 w hw)
  have q5:=Vb hr w.volume.toNat
  have:=am8 (w:=w) (im:=oZ (aj im)) (by rw [JQ];exact hi) hrn (by unfold lim;omega)
  rw [Vd hc,hs.1 w hw] at this
  exact this
 have e2:=am9 hsz hs hr hl
 rw [hc',if_pos rfl] at e1
 have Z:((0:Int) != 0)=false:=rfl
 rw [ah ao6 rfl];simp only [aey];simp only [start,aJ,aT,aH,aS,aB,aC,aI,aQ,Nat.reduceAdd,Nat.reduceSub]
 simp only [e1,e2,Z,bg,reduceCtorEq,Nat.reduceEqDiff,Nat.reduceAdd,Nat.reduceLT,Nat.reduceLeDiff,Z1]
theorem JU {size:Int}:∀ (l:List cZ) (nx:Int),CU size nx l=0→(∀ e∈l,nx≤e.start∧1≤e.count)∧l.Pairwise (fun a b=>a.start+a.count<b.start)
 |[],_,_=>⟨fun e he=>(by cases he),Zc9.nil⟩
 |x::l,nx,h=>by
  unfold CU at h
  split at h
  ·omega
  ·split at h
   ·omega
   ·split at h
    ·omega
    ·obtain ⟨h1,h2⟩:=JU l _ h
     refine ⟨fun e he=>?_,List.pairwise_cons.2 ⟨fun e he=>by have:=h1 e he;omega,h2⟩⟩
     rcases Zaf.1 he with rfl|he
     ·omega
     ·have:=h1 e he;omega
theorem abS {l:List cZ}{size:Int}(h:Lc l size=0):l.Pairwise (fun a b=>a.start+a.count<b.start):=by
 unfold Lc at h
 split at h
 ·omega
 ·exact (JU l 0 h).2
theorem wR {im:fG}{v:Nat}{e:cZ}(h0:0≤e.start)(h1:1≤e.count)(h2:e.start+e.count≤((im.getD v []).length:Int)):(((Vx im v e).data.length:Nat):Int)=e.count:=by
 simp only [Vx,Zac,Zbe];omega
theorem C9 {im:fG}{l:List (List cZ)}{n:Nat}{w:fK}(h:w∈FV im l n):∃ v,v<n∧∃ e∈l.getD v [],w=Vx im v e:=by
 simp only [FV,Zd4,ZaS,QD,ZaY] at h
 obtain ⟨v,hv,e,he,rfl⟩:=h
 exact ⟨v,hv,e,he,rfl⟩
theorem Dc {im:fG}{l:List (List cZ)}(h:CV im l=0){v:Nat}(hv:v<l.length){e:cZ}(he:e∈l.getD v []):0≤e.start∧1≤e.count∧e.start+e.count≤((im.getD v []).length:Int):=by
 have hf:=CX h
 have e1:l.getD v []=l[v]:=by simp [hv]
 have e2:im.getD v []=im[v]:=by simp [show v<im.length by omega]
 rw [e1] at he
 rw [e2]
 exact ajw (agn h hv (by omega)) e he
theorem Zd {im:fG}{l:List (List cZ)}(h:CV im l=0):QE im (GH im l):=by
 have hf:=CX h
 refine ⟨fun w hw=>?_,?_⟩
 ·obtain ⟨v,hv,e,he,rfl⟩:=C9 hw
  obtain ⟨q1,q2,q3⟩:=Dc h hv he
  have q4:=wR q1 q2 q3
  have e1:(Vx im v e).volume=(v:Int):=rfl
  have e2:(Vx im v e).start=e.start:=rfl
  unfold kN
  rw [if_neg (by rw [e1];omega),if_neg (by omega),if_neg (by rw [e1,e2,q4,ZaG];omega)]
 ·have hp:(GH im l).Pairwise ajz:=by
   unfold GH FV
   rw [List.pairwise_flatMap]
   refine ⟨fun v hv=>?_,?_⟩
   ·have hv:=ZaS.1 hv
    unfold QD
    rw [List.pairwise_map]
    have e1:l.getD v []=l[v]:=by simp [hv]
    have hp:=abS (agn h hv (by omega))
    rw [e1]
    refine Zc9.imp_of_mem ?_ hp
    intro a b ha hb hab
    rw [← e1] at ha
    obtain ⟨q1,q2,q3⟩:=Dc h hv ha
    have q4:=wR q1 q2 q3
    refine .inr ⟨rfl,?_⟩
    rw [q4]
    exact hab
   ·refine Zc9.imp ?_ List.pairwise_lt_range
    intro a b hab x hx y hy
    obtain ⟨_,_,rfl⟩:=ZaY.1 hx
    obtain ⟨_,_,rfl⟩:=ZaY.1 hy
    exact .inl (show ((a:Nat):Int)<(b:Int) by omega)
  exact fun i hi=>List.pairwise_iff_getElem.1 hp i (i+1) (by omega) hi (by omega)
theorem agr (im:fG)(v:Nat){x:List cZ}{i:Nat}(h:i<x.length):QD im v (x.take (i+1))=QD im v (x.take i)++[Vx im v x[i]]:=by
 unfold QD;rw [Zao h,ZaK];rfl
theorem ajB (im:fG)(l:List (List cZ)){n:Nat}(h:n≤l.length):(FV im l n).length≤(GH im l).length:=by
 unfold GH
 have e:l.length=n+(l.length - n):=by omega
 rw [e]
 generalize l.length - n=k
 induction k with
 |zero=>exact ze _
 |succ k ih=>rw [show n+(k+1)=(n+k)+1 by omega,yK,Zaa];omega
theorem ajC (im:fG)(l:List (List cZ)){v:Nat}(hv:v<l.length){i:Nat}(hi:i<l[v].length):(FV im l v++QD im v (l[v].take i)).length+1≤(GH im l).length:=by
 have h1:=ajB im l (n:=v+1) (by omega)
 rw [yK,show l.getD v []=l[v] by simp [hv]] at h1
 simp only [Zaa,QD,Z2,Zac] at h1 ⊢
 omega
theorem akB {im:fG}{b n t:Int}{p:List Int}{w:List fK}(hs:QE im w)(hc:bY im=0)(hi:im.length≤lim)(hr:∀ v∈im,v.length≤1000000)(hl:w.length≤lim)(hp:p.length≤20) :
  cal env 54 [ajy b n t p w,.list 1 ((aj im).map eI)]=some [(.int .i64 (FW b n t p),false)]:=by
 have hz:(aj im).length≤lim:=by simpa [aj] using hi
 have e1:=akf hz
 have hc':iL (aj im)=0:=hc
 rw [hc',if_pos rfl] at e1
 have e2:=agp (n:=t) (a:=0) (b:=1073741824)
 have e3:=apT hp
 have e4:=apU hs hc hi hr hl
 have Z:((0:Int) != 0)=false:=rfl
 unfold ajy FW
 by_cases c1:b<0∨n≤b∨n > 1073741824
 ·rw [if_pos c1]
  rw [ah YJ rfl];simp only [TG];simp only [start,aJ,aT,aH,aS,aB,aC,aI,aQ,Nat.reduceAdd,Nat.reduceSub]
  simp only [e1,Z,bg,reduceCtorEq,Nat.reduceEqDiff,Nat.reduceAdd,Nat.reduceLT,Nat.reduceLeDiff,Z1]
  by_cases d1:b<0
  ·simp only [eq_true d1,bg,reduceCtorEq,Nat.reduceEqDiff,Nat.reduceAdd,Nat.reduceLT,Nat.reduceLeDiff,Z1]
  ·have d1:=eq_false d1
   by_cases d2:n≤b
   ·simp only [d1,eq_true d2,bg,reduceCtorEq,Nat.reduceEqDiff,Nat.reduceAdd,Nat.reduceLT,Nat.reduceLeDiff,Z1]
   ·have d3:n > 1073741824:=by simp only [d1,false_or] at c1;omega
    simp only [d1,eq_false d2,eq_true d3,bg,reduceCtorEq,Nat.reduceEqDiff,Nat.reduceAdd,Nat.reduceLT,Nat.reduceLeDiff,Z1]
 ·rw [if_neg c1]
  have G1:(b<0)=False:=eq_false (by omega)
  have G2:(n≤b)=False:=eq_false (by omega)
  have G3:(n > 1073741824)=False:=eq_false (by omega)
  by_cases c2:t<0∨t > 1073741824
  ·rw [if_pos c2]
   have G4:(decide ((0:Int)≤t)&&decide (t≤1073741824))=false:=by simp;omega
   rw [G4] at e2
   rw [ah YJ rfl];simp only [TG];simp only [start,aJ,aT,aH,aS,aB,aC,aI,aQ,Nat.reduceAdd,Nat.reduceSub]
   simp only [e1,e2,G1,G2,G3,Z,bg,reduceCtorEq,Nat.reduceEqDiff,Nat.reduceAdd,Nat.reduceLT,Nat.reduceLeDiff,Z1]
  ·rw [if_neg c2]
   have G4:(decide ((0:Int)≤t)&&decide (t≤1073741824))=true:=by simp;omega
   rw [G4] at e2
   by_cases c3:agq p=0
   ·rw [c3] at e3
    rw [c3]
    rw [ah YJ rfl];simp only [TG];simp only [start,aJ,aT,aH,aS,aB,aC,aI,aQ,Nat.reduceAdd,Nat.reduceSub]
    simp only [e1,e2,e3,e4,G1,G2,G3,Z,bg,reduceCtorEq,Nat.reduceEqDiff,Nat.reduceAdd,Nat.reduceLT,Nat.reduceLeDiff,Z1]
   ·have G5:(agq p != 0)=true:=by simp [c3]
    rw [ah YJ rfl];simp only [TG];simp only [start,aJ,aT,aH,aS,aB,aC,aI,aQ,Nat.reduceAdd,Nat.reduceSub]
    simp only [e1,e2,e3,G1,G2,G3,G5,Z,bg,reduceCtorEq,Nat.reduceEqDiff,Nat.reduceAdd,Nat.reduceLT,Nat.reduceLeDiff,Z1]
def can:Int→List cZ→Prop
 |_,[]=>True
 |nx,x::l=>nx≤x.start∧1≤x.count∧can (x.start+x.count+1) l
def Ve:Int→List cZ→Int
 |nx,[]=>nx
 |_,x::l=>Ve (x.start+x.count+1) l
theorem vJ:∀ (l:List cZ) (nx:Int) (x:cZ),Ve nx (l++[x])=x.start+x.count+1
 |[],_,_=>rfl
 |y::l,_,x=>vJ l (y.start+y.count+1) x
theorem Df:∀ (l:List cZ) (nx:Int) (x:cZ),can nx (l++[x]) ↔ can nx l∧Ve nx l≤x.start∧1≤x.count
 |[],nx,x=>by simp [can,Ve]
 |y::l,nx,x=>by
  have:=Df l (y.start+y.count+1) x
  show nx≤y.start∧1≤y.count∧can _ (l++[x]) ↔ (nx≤y.start∧1≤y.count∧can _ l)∧Ve _ l≤x.start∧1≤x.count
  rw [this]
  constructor
  ·rintro ⟨a,b,c,d⟩;exact ⟨⟨a,b,c⟩,d⟩
  ·rintro ⟨⟨a,b,c⟩,d⟩;exact ⟨a,b,c,d⟩
theorem Ze (p:Nat→Bool):∀ n:Nat,can 0 (ext p n)∧Ve 0 (ext p n)≤(n:Int)+1
 |0=>by rw [UA];exact ⟨trivial,by simp [Ve]⟩
 |n+1=>by
  obtain ⟨h1,h2⟩:=Ze p n
  rw [og]
  split
  ·rcases jV (ext p n) with e|⟨pre,x,e⟩
   ·rw [e]
    have:wZ [] n=[⟨(n:Int),1⟩]:=rfl
    rw [this]
    exact ⟨⟨by simp only;omega,by simp only;omega,trivial⟩,by simp only [Ve];omega⟩
   ·rw [e] at h1 h2 ⊢
    have hx:=Az p n x (by rw [e];simp)
    rw [vJ] at h2
    obtain ⟨c1,c2,c3⟩:=(Df _ _ _).1 h1
    rw [iE]
    split
    ·exact ⟨(Df _ _ _).2 ⟨c1,c2,by simp only;omega⟩,by rw [vJ];simp only;omega⟩
    ·exact ⟨(Df _ _ _).2 ⟨h1,by rw [vJ];simp only;omega,by simp⟩,by rw [vJ];simp only;omega⟩
  ·exact ⟨h1,by omega⟩
theorem Zf {size:Int}:∀ (l:List cZ) (nx:Int),can nx l→(∀ x∈l,0≤x.start∧x.start+x.count≤size)→CU size nx l=0
 |[],_,_,_=>rfl
 |x::l,nx,h,hb=>by
  obtain ⟨h1,h2,h3⟩:=h
  have hx:=hb x (by simp)
  unfold CU
  rw [if_neg (by omega),if_neg (by omega),if_neg (by omega)]
  exact Zf l _ h3 fun y hy=>hb y (by simp [hy])
theorem ags (p:Nat→Bool)(n:Nat):CU n 0 (ext p n)=0:=Zf _ 0 (Ze p n).1 fun x hx=>by have:=Az p n x hx;omega
def Nr (a:Pt):List (List cZ):=a.dirty.map bmX
def Ep (a:Pt):List fK:=GH a.img (Nr a)
theorem pJ (a:Pt):(Nr a).length=a.dirty.length:=by unfold Nr;exact Z2 ..
theorem JV {a:Pt}{i:Nat}(h:i<a.dirty.length):(Nr a)[i]'(by rw [pJ];exact h)=bmX a.dirty[i]:=by unfold Nr;exact ZbM ..
theorem GI {a:Pt}(h:gU a=0){i:Nat}(hi:i<a.dirty.length)(hj:i<a.img.length):bmX a.dirty[i]=ext (bit a.dirty[i].ws) a.img[i].length:=by
 obtain ⟨_,_,h3,h4⟩:=lZ h
 obtain ⟨k1,k2⟩:=Jt h4 i hi hj
 unfold bmX Qc
 rw [if_pos k1,k2,ZaG]
theorem JW {a:Pt}(h:gU a=0)(hv:∀ v∈a.img,v.length≤4096):CV a.img (Nr a)=0:=by
 obtain ⟨_,_,h3,_⟩:=lZ h
 have hl:(Nr a).length=a.img.length:=by rw [pJ,h3]
 unfold CV
 rw [if_neg (by omega),if_neg]
 intro hc
 have hm:=Zdz.1 hc
 unfold ajg afY at hm
 obtain ⟨i,hi,e⟩:=List.mem_mapIdx.1 hm
 have hi1:i<a.dirty.length:=by rw [pJ] at hi;exact hi
 have hi2:i<a.img.length:=by omega
 have hz:=hv _ (zR hi2)
 have e0:a.img.getD i []=a.img[i]:=getD_lt hi2
 rw [JV hi1,GI h hi1 hi2,e0] at e
 have:Lc (ext (bit a.dirty[i].ws) a.img[i].length) (a.img[i].length:Int)=0:=by
  unfold Lc
  rw [if_neg (by omega)]
  exact ags _ _
 rw [this] at e
 simp at e
theorem agt {a:Pt}(h:gU a=0){k:Nat}(hv:∀ v∈a.img,v.length≤k):∀ x∈Nr a,x.length≤k:=fun x hx=>by
 obtain ⟨_,_,h3,_⟩:=lZ h
 obtain ⟨i,hi,rfl⟩:=Za9.1 hx
 have hi1:i<a.dirty.length:=by rw [pJ] at hi;exact hi
 have hi2:i<a.img.length:=by omega
 rw [JV hi1,GI h hi1 hi2]
 exact zr (Gx _ _) (hv _ (zR hi2))
theorem agu {im:fG}{l:List (List cZ)}{k:Nat}(hr:∀ x∈l,x.length≤k):∀ n,n≤l.length→(FV im l n).length≤k*n
 |0,_=>by simp [FV]
 |n+1,h=>by
  have ih:=agu (im:=im) hr n (by omega)
  have h2:=hr _ (zR (show n<l.length by omega))
  rw [yK,Zaa,show l.getD n []=l[n] by simp [show n<l.length by omega],Nat.mul_add,Nat.mul_one]
  simp only [QD,Z2]
  omega
theorem X8 {a:Pt}(h:gU a=0)(hl:a.img.length≤9)(hv:∀ v∈a.img,v.length≤24):(Ep a).length≤216:=by
 obtain ⟨_,_,h3,_⟩:=lZ h
 have h1:=agu (im:=a.img) (agt h hv) (Nr a).length (ze _)
 have h2:(Nr a).length=a.img.length:=by rw [pJ,h3]
 unfold Ep GH
 omega
def okM (im:fG)(l:List (List cZ)):Prop:=CV im l=0∧im.length≤lim∧(∀ v∈im,v.length≤1000000)∧(∀ x∈l,x.length≤10000)∧(GH im l).length≤1000000
theorem apW {a:Pt}(h:gU a=0)(hl:a.img.length≤9)(hv:∀ v∈a.img,v.length≤24):okM a.img (Nr a):=by
 have hlim:lim=1073741824:=rfl
 refine ⟨JW h fun v hx=>by have:=hv v hx;omega,by omega,fun v hx=>by have:=hv v hx;omega,fun x hx=>by have:=agt h hv x hx;omega,?_⟩
 have:=X8 h hl hv
 unfold Ep at this
 omega
theorem mk_one {im:fG}{l:List (List cZ)}(h:okM im l){v i:Nat}(hv:v<l.length)(hi:i<l[v].length):∃ hvi:v<im.length,
  (0≤l[v][i].start∧l[v][i].start≤((l[v][i].start+l[v][i].count).toNat:Int))∧(0≤l[v][i].start+l[v][i].count∧l[v][i].start+l[v][i].count≤(im[v].length:Int))∧IntKind.i64.wrap (l[v][i].start+l[v][i].count)=l[v][i].start+l[v][i].count ∧
  (l[v][i].start+l[v][i].count).toNat - l[v][i].start.toNat=l[v][i].count.toNat∧(((im[v].map je).drop l[v][i].start.toNat).take l[v][i].count.toNat).length≤lim∧(FV im l v++QD im v (l[v].take i)).length+1≤lim ∧
  (FV im l v++QD im v (l[v].take (i+1))).map jw=(FV im l v++QD im v (l[v].take i)).map jw++[.agg [.int .i64 (v:Int),.int .i64 l[v][i].start,.list 8 (((im[v].map je).drop l[v][i].start.toNat).take l[v][i].count.toNat)]]:=by
 obtain ⟨hf,him,hri,hr,hL⟩:=h
 have hlim:lim=1073741824:=rfl
 have hvi:v<im.length:=by have:=CX hf;omega
 obtain ⟨q1,q2,q3⟩:=Dc hf hv (e:=l[v][i]) (by rw [show l.getD v []=l[v] by simp [hv]];exact zR hi)
 have e8:im.getD v []=im[v]:=by simp [hvi]
 rw [e8] at q3
 have hvl:=hri _ (zR hvi)
 have hL2:=ajC im l hv hi
 refine ⟨hvi,by omega,by omega,bn (by omega),by omega,by simp;omega,by omega,?_⟩
 rw [agr im v hi];simp [jw,Vx,hvi,List.map_take,List.map_drop]
theorem Zg {im:fG}{v:Nat}(h:v<im.length):(im.map aX)[v]?=some (.list 8 (im[v].map je)):=by rw [zb,ZS h];rfl
theorem agv {l:List cZ}{i:Nat}(h:i<l.length):(l.map cO)[i]?=some (.agg [.int .i64 l[i].start,.int .i64 l[i].count]):=by rw [zb,ZS h];rfl
theorem GK {l:List Bm}{i:Nat}(h:i<l.length):(l.map jq)[i]?=some (.agg [.int .i64 l[i].size,.list 1 (l[i].ws.map eW)]):=by rw [zb,ZS h];rfl
theorem ana {a:Pt}{q:List BV}{l:List (List cZ)}{v:Nat}(h0:okM a.img l)(hv:v<l.length){st:St}(h:st.head [1,3,4,9,10,11,17,18,19,43] st.boxes.length=some ⟨sl 47 [(1,.aO 0 0),(3,.row 3 ((FV a.img l v++QD a.img v (l[v].take ((0:Nat)))).map jw)),(4,.pv (.int .i64 v)),(9,.pv (.list 2 (a.dirty.map jq))),(10,.pv (.int .i64 a.dirty.length)),(11,.pv (.int .i64 v)),(17,.row 2 (l[v].map cO)),(18,.pv (.int .i64 l[v].length)),(19,.pv (.int .i64 (0:Nat))),(43,.any)],[⟨false,qU a⟩,⟨false,q⟩],[],none⟩) :
  den env Pq st=some (.normal,⟨sl 47 [(1,.aO 0 0),(2,.any),(3,.row 3 ((FV a.img l (v+1)).map jw)),(9,.pv (.list 2 (a.dirty.map jq))),(10,.pv (.int .i64 a.dirty.length)),(11,.pv (.int .i64 v)),(43,.any)],[⟨false,qU a⟩,⟨false,q⟩],[],none⟩):=by
 unfold Pq
 refine bM (env:=env) (nb:=2) (l[v].length) (fun i=>⟨sl 47 [(1,.aO 0 0),(3,.row 3 ((FV a.img l v++QD a.img v (l[v].take (i))).map jw)),(4,.pv (.int .i64 v)),(9,.pv (.list 2 (a.dirty.map jq))),(10,.pv (.int .i64 a.dirty.length)),(11,.pv (.int .i64 v)),(17,.row 2 (l[v].map cO)),(18,.pv (.int .i64 l[v].length)),(19,.pv (.int .i64 i)),(43,.any)],[⟨false,qU a⟩,⟨false,q⟩],[],none⟩) (fun i=>some (.normal,⟨sl 47 [(1,.aO 0 0),(2,.any),(3,.row 3 ((FV a.img l (v+1)).map jw)),(9,.pv (.list 2 (a.dirty.map jq))),(10,.pv (.int .i64 a.dirty.length)),(11,.pv (.int .i64 v)),(43,.any)],[⟨false,qU a⟩,⟨false,q⟩],[],none⟩)) h (fun _=>rfl) (fun _=>by simp only [aG,bJ,Nat.reduceMul,Nat.reduceBEq,Nat.reduceLT,Nat.reduceLeDiff,Nat.reduceAdd,decide_true,zt,zm]) ?_ ?_
 ·intro i rb hi ih
  have hi1:=bF hi (zr (h0.2.2.2.1 _ (zR hv)) (by decide))
  have F1:((i:Int)<(l[v].length:Int))=True:=eq_true (by omega)
  obtain ⟨hvi,b1,b2,W,e6,f3,f2,e5⟩:=mk_one h0 hv hi
  have hx:=agv hi
  have hy:=Zg hvi
  have P2:∀ a b:PV,part [a,b] 0 (some 2)=some (.agg [a,b]):=fun _ _=>rfl
  have B1:=eq_true b1
  have B2:=eq_true b2
  have F2:=eq_true f2
  have g5:=ao8 (es:=((a.img[v].map je).drop l[v][i].start.toNat).take l[v][i].count.toNat) f3
  simp only [Po,F1,F2,hx,hy,P2,W,B1,B2,e6,g5,aZ,au hvi,au hi,Z2,aF,Nat.reduceMul,Nat.reduceBEq,Nat.reduceLT,Nat.reduceLeDiff,reduceCtorEq,Nat.reduceEqDiff,Nat.reduceAdd,Z1]
  rw [ih _ (by simp only [hi1];rw [e5];simp only [aZ,aF,Nat.reduceMul,Nat.reduceBEq,Nat.reduceLT,Nat.reduceLeDiff,reduceCtorEq,Nat.reduceEqDiff,Nat.reduceAdd,Z1]<;>rfl)]
  all_goals rfl
 ·intro rb
  have e9:FV a.img l v++QD a.img v l[v]=FV a.img l (v+1):=by rw [yK,show l.getD v []=l[v] by simp [hv]]
  rw [ZaI,e9]
  simp only [Po,Zap,aZ,Z2,aF,Nat.reduceMul,Nat.reduceBEq,Nat.reduceLT,Nat.reduceLeDiff,reduceCtorEq,Nat.reduceEqDiff,Nat.reduceAdd,Z1]
theorem agw {a:Pt}(h0:okM a.img (Nr a))(hd:a.dirty.length≤lim){st:St}(h:st.head [1,3,9,10,11,43] st.boxes.length=some ⟨sl 47 [(1,.aO 0 0),(3,.row 3 ((FV a.img (Nr a) ((0:Nat))).map jw)),(9,.pv (.list 2 (a.dirty.map jq))),(10,.pv (.int .i64 a.dirty.length)),(11,.pv (.int .i64 (0:Nat))),(43,.any)],[⟨false,qU a⟩],[],none⟩) :
  den env Px st=some (.normal,⟨sl 47 [(2,.any),(3,.row 3 ((Ep a).map jw))],[⟨false,qU a⟩],[],none⟩):=by
 unfold Px
 refine bM (env:=env) (nb:=1) (a.dirty.length) (fun i=>⟨sl 47 [(1,.aO 0 0),(3,.row 3 ((FV a.img (Nr a) (i)).map jw)),(9,.pv (.list 2 (a.dirty.map jq))),(10,.pv (.int .i64 a.dirty.length)),(11,.pv (.int .i64 i)),(43,.any)],[⟨false,qU a⟩],[],none⟩) (fun i=>some (.normal,⟨sl 47 [(2,.any),(3,.row 3 ((Ep a).map jw))],[⟨false,qU a⟩],[],none⟩)) h (fun _=>rfl) (fun _=>by simp only [aG,bJ,Nat.reduceMul,Nat.reduceBEq,Nat.reduceLT,Nat.reduceLeDiff,Nat.reduceAdd,decide_true,zt,zm]) ?_ ?_
 ·intro i rb hi ih
  have hi1:=bF hi hd
  have F1:((i:Int)<(a.dirty.length:Int))=True:=eq_true (by omega)
  have hx:=GK hi
  have P2:∀ a b:PV,part [a,b] 0 (some 2)=some (.agg [a,b]):=fun _ _=>rfl
  have e1:cal env 94 [.agg [.int .i64 a.dirty[i].size,.list 1 (a.dirty[i].ws.map eW)]]=_:=akk (b:=a.dirty[i])
  have hm:i<(Nr a).length:=by rw [pJ];exact hi
  rw [← JV hi] at e1
  simp only [Pv,F1,hx,P2,e1,aZ,au hi,Z2,aF,Nat.reduceMul,Nat.reduceBEq,Nat.reduceLT,Nat.reduceLeDiff,reduceCtorEq,Nat.reduceEqDiff,Nat.reduceAdd,Z1]
  rw [ana (a:=a) (l:=Nr a) (v:=i) h0 hm (by simp only [ZaQ,show QD a.img i []=[] from rfl,ZaE,aZ];simp only [aG,bJ,Nat.reduceMul,Nat.reduceBEq,Nat.reduceLT,Nat.reduceLeDiff,Nat.reduceAdd,decide_true,zt,zm]<;>rfl)]
  simp only [aZ,aF,Nat.reduceMul,Nat.reduceBEq,Nat.reduceLT,Nat.reduceLeDiff,reduceCtorEq,Nat.reduceEqDiff,Nat.reduceAdd,Z1]
  rw [ih _ (by simp only [hi1,aZ,aF,Nat.reduceMul,Nat.reduceBEq,Nat.reduceLT,Nat.reduceLeDiff,reduceCtorEq,Nat.reduceEqDiff,Nat.reduceAdd,Z1]<;>rfl)]
  all_goals rfl
 ·intro rb
  simp only [Pv,Zap,aZ,Z2,aF,Nat.reduceMul,Nat.reduceBEq,Nat.reduceLT,Nat.reduceLeDiff,reduceCtorEq,Nat.reduceEqDiff,Nat.reduceAdd,Z1]
  unfold Ep GH
  rw [pJ]
theorem apX {a:Pt}(h0:okM a.img (Nr a))(hd:a.dirty.length≤lim):cal env 53 [FP a]=some [(.list 3 ((Ep a).map jw),true)]:=by
 rw [gJ]
 rw [ah aoN rfl];simp only [aee,aG,Nat.reduceBEq,Nat.reduceLeDiff,Nat.reduceAdd,za,zd]
 simp only [Z2,aF,Nat.reduceMul,Nat.reduceBEq,Nat.reduceLT,Nat.reduceLeDiff,reduceCtorEq,Nat.reduceEqDiff,Nat.reduceAdd,Z1]
 rw [agw (a:=a) h0 hd (by simp only [show FV a.img (Nr a) 0=[] from rfl,Zai,aZ];simp only [aG,bJ,Nat.reduceMul,Nat.reduceBEq,Nat.reduceLT,Nat.reduceLeDiff,Nat.reduceAdd,decide_true,zt,zm]<;>rfl)]
 simp only [aZ,aF,Nat.reduceMul,Nat.reduceBEq,Nat.reduceLT,Nat.reduceLeDiff,reduceCtorEq,Nat.reduceEqDiff,Nat.reduceAdd,Z1]
end Go.Proofs.YtioijcfcehhmdaaGreatDoor.V
namespace Go.Proofs.YtioijcfcehhmdaaGreatDoor
open Go.RowKit V
def wS (ok:Nat→Prop)(W V:World)(b:Nat):Prop:=ok b∨(W.heap.size+3≤b∧b<V.heap.size)
theorem JX {ok:Nat→Prop}{W V:World}(h0:∀ b,ok b→b<W.heap.size)(hs:W.heap.size≤V.heap.size){b:Nat}(h:wS ok W V b):b<V.heap.size:=by
 rcases h with h|h
 ·exact Zae (h0 b h) hs
 ·exact h.2
theorem akD {ok:Nat→Prop}{W V V':World}(hs:W.heap.size+3≤V.heap.size)(hs':V.heap.size≤V'.heap.size){b:Nat}(h:okN (wS ok W V) V V' b):wS ok W V' b:=by
 rcases h with (h|h)|h
 ·exact .inl h
 ·exact .inr ⟨h.1,by omega⟩
 ·exact .inr ⟨by omega,h.2⟩
theorem Es {ok:Nat→Prop}{W V V':World}(hs':V.heap.size≤V'.heap.size){b:Nat}(h:wS ok W V b):wS ok W V' b:=by
 rcases h with h|h
 ·exact .inl h
 ·exact .inr ⟨h.1,by omega⟩
theorem aA.upG {ok:Nat→Prop}{W V V':World}{x:PV}{v:Value}(h:aA (wS ok W V) V x v)(hB:Below V.heap.size V V'):aA (wS ok W V') V' x v:=h.keep (fun b hb=>Es hB.size hb) fun b _ hl=>hB.block b hl
theorem aA.newG {ok:Nat→Prop}{W V V':World}{x:PV}{v:Value}(hs:W.heap.size+3≤V.heap.size)(hB:Below V.heap.size V V')(h:aA (okN (wS ok W V) V V') V' x v):aA (wS ok W V') V' x v:=h.keep (fun b hb=>akD hs hB.size hb) fun _ _ _=>rfl
theorem zJ.upG {ok:Nat→Prop}{W V:World}(h:zJ ok W)(hB:Below W.heap.size W V)(h0:∀ b,ok b→b<W.heap.size):zJ (wS ok W V) V:=h.frame fun b hb hl=>⟨.inl hb,hB.block b hl⟩
theorem ajD {ok:Nat→Prop}{w:World}{p:Pt}{v:Value}(h:aA ok w (FP p) v):∃ x1 c1 x2 c2 x3 c3,v=.agg #[.int .i64 p.site,.slice x1 p.lin.length c1,.slice x2 p.dirty.length c2,.slice x3 p.img.length c3]∧aA ok w (.list 3 (p.lin.map jY)) (.slice x1 p.lin.length c1)∧aA ok w (.list 2 (p.dirty.map jq)) (.slice x2 p.dirty.length c2)∧aA ok w (.list 1 (p.img.map aX)) (.slice x3 p.img.length c3):=by
 obtain ⟨arr,rfl,h1,_,h3⟩:=h.lW
 obtain ⟨a,b,c,d,rfl⟩:=apl h1
 have q0:=(h3 0 _ a rfl rfl).bP
 have q1:=h3 1 _ b rfl rfl
 have q2:=h3 2 _ c rfl rfl
 have q3:=h3 3 _ d rfl rfl
 obtain ⟨x1,c1,rfl,_⟩:=q1.gq
 obtain ⟨x2,c2,rfl,_⟩:=q2.gq
 obtain ⟨x3,c3,rfl,_⟩:=q3.gq
 rw [Z2] at q1 q2 q3
 exact ⟨x1,c1,x2,c2,x3,c3,by rw [q0,Z2,Z2,Z2],q1,q2,q3⟩
theorem QG {ok:Nat→Prop}{w:World}{sz:Nat}{es:List PV}{v:Value}(h:aA ok w (.list sz es) v):∃ a n c,v=.slice a n c:=by
 obtain ⟨a,c,rfl,-⟩:=h.gq
 exact ⟨a,_,c,rfl⟩
def Fe (ok:Nat→Prop)(w:World)(D c:Nat)(ds:List Bm):Prop :=
 ∃ arr E,w.heap[D]?=some (.cells arr E (0,0))∧arr.size=c*2∧ds.length≤c∧c≤maxLen∧∀ (i:Nat) (h:i<ds.length),arr[i*2]?=some (.int .i64 ds[i].size)∧∃ u,arr[i*2+1]?=some u∧u.oneCell'=true∧aA ok w (.list 1 (ds[i].ws.map eW)) u
theorem ajE {ok:Nat→Prop}{B:Nat}{w:World}{ds:List Bm}{v:Value}(h:ai2 ok B w 2 (ds.map jq) v)(h1:1≤ds.length):∃ D c,v=.slice (some ⟨D,0,none⟩) ds.length c∧B≤D∧Fe (fun k=>ok k∧k≠D) w D c ds:=by
 rcases h with ⟨h,_⟩|⟨b,c,arr,E,rfl,h2,h3,h4,h5,h6,h7,h8⟩
 ·have:=congrArg List.length h
  rw [Z2] at this
  simp at this
  rw [this] at h1;simp at h1
 ·rw [Z2] at h5 ⊢
  refine ⟨b,c,rfl,h2,arr,E,h3,h4,h5,h6,fun i hi=>?_⟩
  have he:=GK hi
  obtain ⟨u0,g1,_,g3⟩:=h8 i _ 0 _ he rfl
  obtain ⟨u1,k1,k2,k3⟩:=h8 i _ 1 _ he rfl
  rw [Za1] at g1
  exact ⟨by rw [g1,g3.bP],u1,k1,k2,k3⟩
theorem Et {ok:Nat→Prop}{w:World}{D c:Nat}{ds:List Bm}(h:Fe ok w D c ds)(hD:ok D):aA ok w (.list 2 (ds.map jq)) (.slice (some ⟨D,0,none⟩) ds.length c):=by
 obtain ⟨arr,E,h1,h2,h3,h4,h5⟩:=h
 have hc:∀ (k:Nat) (v:Value),arr[k]?=some v→w.cell? ⟨D,k,none⟩=some v:=fun k v hv=>lS h1 hv
 have key:∀ (i:Nat) (e:PV) (j:Nat) (x:PV),(ds.map jq)[i]?=some e→e.cells[j]?=some x→∃ u,arr[i*2+j]?=some u∧u.oneCell'=true∧aA ok w x u:=fun i e j x hi hj=>by
  have hl:i<ds.length:=by have:=(Z6.1 hi).1;rwa [Z2] at this
  rw [GK hl] at hi
  cases hi
  obtain ⟨g1,u,g2,g3,g4⟩:=h5 i hl
  match j,hj with
  |0,hj=>cases hj;exact ⟨_,g1,rfl,.int _ _⟩
  |1,hj=>cases hj;exact ⟨u,g2,g3,g4⟩
  |j+2,hj=>cases hj
 have:=aA.list (ok:=ok) (w:=w) 2 (ds.map jq) D 0 c (fun i j=>(arr[i*2+j]?).getD undef) hD ⟨_,_,_,h1⟩ (by rw [Z2];exact h3) h4 (fun e he=>by
  obtain ⟨s,-,rfl⟩:=ZaY.1 he
  rfl) (fun i e j x hi hj=>by
  obtain ⟨u,g1,g2,_⟩:=key i e j x hi hj
  rw [g1,Zan]
  exact ⟨hc _ _ g1,g2⟩) (fun i e j x hi hj=>by
  obtain ⟨u,g1,_,g3⟩:=key i e j x hi hj
  rw [g1]
  exact g3)
 rwa [Z2] at this
theorem Tryz.Vf {w:World}{b:Nat}{u0 u1 u2 u3:Value}(h:w.heap[b]?=some (.cells #[u0,u1,u2,u3] 59 (0,0))):∀ w',rM w w'→(loadVar 59 ⟨b,0,none⟩).run Tryz.prog w'=.ok (.agg #[u0,u1,u2,u3]) w':=by
 rintro _ ⟨y,rfl⟩
 exact EC (cs:=[u0,u1,u2,u3]) Tryz.underlying59 rfl (by kernel_rfl) fun j hj=>by
  rw [Addr.add_lit,Zan,cell_of_row _ _ _ _ _ (0,0) (dL h y.below)]
  show (#[u0,u1,u2,u3]:Array Value)[j]?=_
  rw [← Zbd]
theorem zK {P:Program}{ops:Array Oper}{rest:List Oper}{o:Oper}{a:Act}{w:World}{Q:Exit→Act→World→Prop}{T:TypeId}{p x:Operand}{b:Nat}{v:Value}{arr:Array Value}{E:TypeId}(hgd:o.guard=none)(ho:o.op=.store T p x)(hp:a.eval p=.pointer (some ⟨b,0,none⟩))(hx:a.eval x=v)
  (hs:iZ P T=some v.cells.size) (hb:w.heap[b]?=some (.cells arr E (0,0))) (hl:arr.size=v.cells.size) (h1:∀ u∈v.cells.toList,u.oneCell'=true) (h:wpList P ops Q rest (a.put o.dst undef) (w.setRow b v.cells)):wpList P ops Q (o::rest) a w :=
 wpList_plain hgd fun _ hK=>by
  have hst:=jT (P:=P) (T0:=T) (off:=0) hs hb (by omega) h1
  have e:arr.toList.drop (0+v.cells.toList.length)=[]:=ZbN (by simp [hl])
  rw [e] at hst
  simp only [ZaQ,Za4,ZaE,Array.toArray_toList] at hst
  unfold Oper.wp execOp
  simp only [ho,hp,hx,Instr.storeAt,Instr.sureAddr,Sem.run_bind,Sem.run_pure,Result.andThen_ok,hst]
  exact hK _ _ h
theorem wU (w:World)(b:Nat)(cs:Array Value):(w.setRow b cs).heap.size=w.heap.size:=by simp [World.setRow]
theorem anc (w:World)(o p q:Obj):∃ W,((w.alloc o).alloc p).alloc q=W∧W.heap[w.heap.size]?=some o∧W.heap[w.heap.size+1]?=some p∧W.heap[w.heap.size+1+1]?=some q∧W.heap.size=w.heap.size+3∧Below w.heap.size w W :=
 ⟨_,rfl,Js q (Js p (Ci w o)),by have:=Js q (Ci (w.alloc o) p);rwa [qK] at this,by have:=Ci ((w.alloc o).alloc p) q;rwa [qK,qK] at this,by rw [qK,qK,qK],(((Below.refl w.heap.size w).alloc (ze _) _).alloc (by rw [qK];omega) _).alloc (by rw [qK,qK];omega) _⟩
theorem ajF {w:World}{b d:Nat}{a1 a2 c1:Array Value}{E F:TypeId}(h:w.heap[b]?=some (.cells a1 E (0,0)))(h2:(w.setRow b c1).heap[d]?=some (.cells a2 F (0,0)))(hne:b≠d)(c2:Array Value):∃ v,(w.setRow b c1).setRow d c2=v∧v.heap[b]?=some (.cells c1 E (0,0))∧v.heap[d]?=some (.cells c2 F (0,0))∧v.heap.size=w.heap.size∧∀ k,k≠b→k≠d→v.heap[k]?=w.heap[k]? :=
 ⟨_,rfl,(setRow_other _ d b c2 hne).trans (setRow_heap _ _ _ c1 _ (0,0) h),setRow_heap _ _ _ c2 _ (0,0) h2,by rw [wU,wU],fun k h1 h3=>(setRow_other _ _ _ _ h3).trans (setRow_other _ _ _ _ h1)⟩
theorem fl3 {a b c:PV}:∀ r∈[(a,false),(b,false),(c,false)],r.2=false∨∃ sz es,r.1=PV.list sz es:=fun r hr=>.inl (by
 simp only [Zaf,Zas,or_false] at hr
 rcases hr with rfl|rfl|rfl<;>rfl)
theorem fl2 {a b:PV}:∀ r∈[(a,false),(b,false)],r.2=false∨∃ sz es,r.1=PV.list sz es:=fun r hr=>.inl (by
 simp only [Zaf,Zas,or_false] at hr
 rcases hr with rfl|rfl<;>rfl)
theorem fl1 {a:PV}:∀ r∈[(a,false)],r.2=false∨∃ sz es,r.1=PV.list sz es:=fun r hr=>.inl (by rw [Zav.1 hr])
theorem apY {x:Int}{a b c:Option Addr}{n1 c1 n2 c2 n3 c3:Nat}:∀ u∈(Value.agg #[.int .i64 x,.slice a n1 c1,.slice b n2 c2,.slice c n3 c3]).cells.toList,u.oneCell'=true:=fun u hu=>by
 have hu:u∈[Value.int .i64 x,.slice a n1 c1,.slice b n2 c2,.slice c n3 c3]:=hu
 simp only [Zaf,Zas,or_false] at hu
 rcases hu with rfl|rfl|rfl|rfl<;>rfl
set_option maxRecDepth 100000 in
set_option maxHeartbeats 4000000 in
theorem X9 {x:iT}(h:OkR x){W:World}{ok:Nat→Prop}(h0:∀ b,ok b→b<W.heap.size)(hE:tY Tryz.prog env){u0 u1 u2 u3:Value}(hO:aA ok W (U7 x) (.agg #[u0,u1,u2,u3]))(hG:zJ ok W) :
  Calls Tryz.prog 23 #[.agg #[u0,u1,u2,u3]] W (fun e w'=>∃ l1 d1 l2 d2 l3 d3 m1 e1 m3 e3 D c,e=.returned (.tuple #[.agg #[.int .i64 0,.slice l1 (dF x).lin.length d1,.slice l2 (dF x).dirty.length d2,.slice l3 (dF x).img.length d3],.agg #[.int .i64 1,.slice m1 2 e1,.slice (some ⟨D,0,none⟩) (jP x.im x.n).length c,.slice m3 (qj x.im x.n).length e3],.bool true])∧Below W.heap.size W w'∧W.heap.size≤D ∧
   aA (fun k=>wS ok W w' k∧k≠D) w' (.list 3 ((dF x).lin.map jY)) (.slice l1 (dF x).lin.length d1)∧aA (fun k=>wS ok W w' k∧k≠D) w' (.list 2 ((dF x).dirty.map jq)) (.slice l2 (dF x).dirty.length d2)∧aA (fun k=>wS ok W w' k∧k≠D) w' (.list 1 ((dF x).img.map aX)) (.slice l3 (dF x).img.length d3) ∧
   aA (fun k=>wS ok W w' k∧k≠D) w' (.list 3 (afs.map jY)) (.slice m1 2 e1)∧aA (fun k=>wS ok W w' k∧k≠D) w' (.list 1 ((qj x.im x.n).map aX)) (.slice m3 (qj x.im x.n).length e3)∧Fe (fun k=>wS ok W w' k∧k≠D) w' D c (jP x.im x.n)):=by
 have hlim:lim=1073741824:=rfl
 have hv4:∀ v∈x.im,v.length≤4096:=fun v hv=>by have:=h.v24 v hv;omega
 have hO':=hO
 rw [wQ] at hO'
 obtain ⟨arr,he,-,-,hp⟩:=hO'.lW
 cases he
 have p0:=hp 0 _ u0 rfl rfl
 have p1:=hp 1 _ u1 rfl rfl
 have p2:=hp 2 _ u2 rfl rfl
 clear hp hO'
 obtain ⟨y0,n0,k0,rfl⟩:=QG p0
 obtain ⟨y1,n1,k1,rfl⟩:=QG p1
 obtain ⟨y2,n2,k2,rfl⟩:=QG p2
 have hn1:1≤(jP x.im x.n).length:=by
  rw [eY]
  exact List.length_pos_iff.2 (yH (qX h.eo)).1
 have iK:∀ {V:World} {y:PV} {v:Value},Below W.heap.size W V→aA ok W y v→aA (wS ok W V) V y v:=fun hB hp=>hp.keep (fun b hb=>.inl hb) fun b _ hl=>hB.block b hl
 have cA:∀ (V:World) (l:List fK) (v:Value),W.heap.size+3≤V.heap.size→Below W.heap.size W V→okW l→wE x.im l=0→aA ok W (.list 3 (l.map jw)) v→Calls Tryz.prog 38 #[.slice y0 n0 k0,v] V (fun e w'=>∃ a c i,e=.returned (.tuple #[.slice a (qj x.im l).length c,.int .i64 i,.int .i64 0])∧Below V.heap.size V w'∧aA (wS ok W w') w' (.list 1 ((qj x.im l).map aX)) (.slice a (qj x.im l).length c)):=fun V l v hs hB hw he hp=>by
  have hc:=Y0 (im:=x.im) (l:=l) hw (by have:=h.im9;omega) (fun v hv=>by have:=h.v24 v hv;omega)
  rw [he] at hc
  refine (o8 (vs:=[.slice y0 n0 k0,v]) (fun b hb=>JX h0 hB.size hb) hE hc ⟨iK hB p0,iK hB hp,trivial⟩ (hG.upG hB h0) fl3).mono ?_
  rintro e w' ⟨v,rfl,hB1,hv⟩
  obtain ⟨va,vb,vc,rfl,q1,q2,q3⟩:=hv.three
  have q1:=q1.newG hs hB1
  obtain ⟨a,c,rfl,_⟩:=q1.gq
  have e2:=q2.bP
  have e3:=q3.bP
  have e1:((qj x.im l).map aX).length=(qj x.im l).length:=Z2 _
  refine ⟨a,c,_,by rw [e2,e3,e1],hB1,?_⟩
  rw [← e1];exact q1
 have cS:∀ (V:World),W.heap.size+3≤V.heap.size→Below W.heap.size W V→Calls Tryz.prog 40 #[.agg #[.slice y0 n0 k0,.slice y1 n1 k1,.slice y2 n2 k2,u3]] V (fun e w'=>∃ a n c,e=.returned (.slice a n c)∧Below V.heap.size V w'∧aA (wS ok W w') w' (.list 1 ((aj x.im).map eI)) (.slice a n c)):=fun V hs hB=>by
  have hc:=akx (x:=x) (by have:=h.im9;omega)
  refine (o8 (vs:=[.agg #[.slice y0 n0 k0,.slice y1 n1 k1,.slice y2 n2 k2,u3]]) (fun b hb=>JX h0 hB.size hb) hE hc ⟨iK hB hO,trivial⟩ (hG.upG hB h0) (fun r hr=>by
   obtain rfl:=Zav.1 hr
   exact .inr ⟨_,_,rfl⟩)).mono ?_
  rintro e w' ⟨v,rfl,hB1,hv⟩
  have q1:=hv.one.1.newG hs hB1
  obtain ⟨a,c,rfl,_⟩:=q1.gq
  exact ⟨a,_,c,rfl,hB1,q1⟩
 have cM:∀ (V:World) (l:List fK) (v s:Value),W.heap.size+3≤V.heap.size→Below W.heap.size W V→l.length≤1000→Go.Proofs.YtioijcfcehhmdaaGreatDoor.V.qp x.im l→aA ok W (.list 3 (l.map jw)) v→aA (wS ok W V) V (.list 1 ((aj x.im).map eI)) s→1≤(jP x.im l).length→Calls Tryz.prog 39 #[s,v] V (fun e w'=>∃ D c,e=.returned (.tuple #[.slice (some ⟨D,0,none⟩) (jP x.im l).length c,.bool true])∧Below V.heap.size V w'∧V.heap.size≤D∧Fe (fun k=>wS ok W w' k∧k≠D) w' D c (jP x.im l)):=fun V l v s hs hB hl hf hp hq h1=>by
  have hc:=aky (im:=x.im) (l:=l) hl hf (by have:=h.im9;omega) hv4
  refine (o8 (vs:=[s,v]) (fun b hb=>JX h0 hB.size hb) hE hc ⟨hq,iK hB hp,trivial⟩ (hG.upG hB h0) (fun r hr=>by
   simp only [Zaf,Zas,or_false] at hr
   rcases hr with rfl|rfl
   ·exact .inr ⟨_,_,rfl⟩
   ·exact .inl rfl)).mono ?_
  rintro e w' ⟨v,rfl,hB1,hv⟩
  obtain ⟨va,vb,rfl,q1,q2⟩:=hv.two
  obtain ⟨D,c,rfl,d1,arr,E,d2,d3,d4,d5,d6⟩:=ajE (q1.2 _ _ rfl) h1
  have e2:=q2.iJ
  refine ⟨D,c,by rw [e2],hB1,d1,arr,E,d2,d3,d4,d5,fun i hi=>?_⟩
  obtain ⟨g1,u,g2,g3,g4⟩:=d6 i hi
  exact ⟨g1,u,g2,g3,g4.keep (fun b hb=>⟨akD hs hB1.size hb.1,hb.2⟩) fun _ _ _=>rfl⟩
 go_enter Tryz.func23,Tryz.ntmps23
 go_wp2_with fail
 obtain ⟨W0,hW0,A1,A2,A3,S0,B0⟩:=anc W (.cells #[.slice y0 n0 k0,.slice y1 n1 k1,.slice y2 n2 k2,u3] 59) (.cells #[.int .i64 0,.slice none 0 0,.slice none 0 0,.slice none 0 0] 29) (.cells #[.int .i64 0,.slice none 0 0,.slice none 0 0,.slice none 0 0] 29)
 rw [hW0]
 refine (cA W0 x.o _ (by omega) B0 h.ok.1 h.eo p1).mono ?_
 rintro e w1 ⟨a1,c1,i1,rfl,hB1,q1⟩
 have B1:=B0.trans (hB1.mono B0.size)
 have S1:W.heap.size+3≤w1.heap.size:=by have:=hB1.size;omega
 have A1:=dL A1 hB1
 have A2:=dL A2 hB1
 have A3:=dL A3 hB1
 clear hW0 S0 hB1 B0
 have s0:=lS A1 (j:=0) rfl
 have s1:=lS A1 (j:=1) rfl
 have s2:=lS A1 (j:=2) rfl
 have s3:=lS A1 (j:=3) rfl
 go_wp2_with fail
 refine (cA w1 x.n _ S1 B1 h.ok.2.1 h.en p2).mono ?_
 rintro e w2 ⟨a2,c2,i2,rfl,hB2,q2⟩
 have q1:=q1.upG hB2
 have B2:=B1.trans (hB2.mono B1.size)
 have S2:W.heap.size+3≤w2.heap.size:=by have:=hB2.size;omega
 have A1:=dL A1 hB2
 have A2:=dL A2 hB2
 have A3:=dL A3 hB2
 clear s0 s1 s2 s3 hB2 B1 S1
 have s0:=vF (lS A1 (j:=0) rfl)
 have s1:=vF (lS A1 (j:=1) rfl)
 have s2:=vF (lS A1 (j:=2) rfl)
 have hL:=Tryz.Vf A1
 go_wp2_with fail
 refine nI (fun w'=>∃ x:Later (w2),w'=x.w) [([0,2,3],1),([],4)] [5,6,7,8,9] Tryz.mixed (by kernel_rfl) (rM.drew _) ?_
 refine l7 ?_
 simp only [pick,ZaO,ZaW,ZaL,ZaH,Zak]
 change wpQuiet _ _ _ _ (_::_::_::[]) _
 repeat (first|(go_big_quiet_want;refine GU _ (.tmp 1) rfl _ rfl _ hL ?_;go_big_quiet_on;simp only [Act.put,Zdb,Zcr,ZdQ])|go_big_quiet_step (fail))
 refine wpQuiet_nil ?_
 change wpList _ _ _ [_] _ _
 go_wp2_with fail
 have hd2:Below w2.heap.size w2 w2.drew:=(Below.refl _ _).drew
 refine (cS w2.drew S2 (B2.trans (hd2.mono B2.size))).mono ?_
 rintro e w3 ⟨z1,z2,z3,rfl,hB3,q3⟩
 have zF:Below w2.heap.size w2 w3:=hd2.trans hB3
 go_wp2_with fail
 refine ⟨rM.of zF,?_⟩
 refine l7 ?_
 simp only [pick,ZaO,ZaW,ZaL,ZaH,Zak]
 change wpQuiet _ _ _ _ ([]) _
 repeat (go_big_quiet_step (fail))
 refine wpQuiet_nil ?_
 change wpList _ _ _ [_] _ _
 go_wp2_with fail
 have hm1:1≤(jP x.im x.o).length:=by rw [eY] at hn1 ⊢;exact hn1
 refine (cM w3 x.o _ _ (by have:=zF.size;omega) (B2.trans (zF.mono B2.size)) (by have:=h.lo;omega) (qF h.eo) p1 q3 hm1).mono ?_
 rintro e w4 ⟨D1,c4,rfl,hB4,hD1,r1⟩
 have uO:=zF.trans (hB4.mono zF.size)
 go_wp2_with fail
 refine ⟨rM.of uO,?_⟩
 refine sZ ?_
 simp only [pick,ZaO,ZaW,ZaL,ZaH,Zak]
 change wpQuiet _ _ _ _ (_::_::_::_::_::[]) _
 repeat (go_big_quiet_step (fail))
 refine wpQuiet_nil ?_
 have q1:=q1.upG uO
 have q2:=q2.upG uO
 have B4:=B2.trans (uO.mono B2.size)
 have S4:W.heap.size+3≤w4.heap.size:=by have:=uO.size;omega
 have t1:=Et (ok:=wS ok W w4) (by
  obtain ⟨arr,E,d2,d3,d4,d5,d6⟩:=r1
  exact ⟨arr,E,d2,d3,d4,d5,fun i hi=>by
   obtain ⟨g1,u,g2,g3,g4⟩:=d6 i hi
   exact ⟨g1,u,g2,g3,g4.keep (fun b hb=>hb.1) fun _ _ _=>rfl⟩⟩) (show wS ok W w4 D1 from .inr ⟨by have:=zF.size;omega,by obtain ⟨arr,E,d2,-⟩:=r1;exact ltQ d2⟩)
 have A1:=dL A1 uO
 have A2:=dL A2 uO
 have A3:=dL A3 uO
 clear s0 s1 s2 hB4 hB3 zF uO B2 S2 hL q3 r1 hd2
 have s1:=vF (lS A1 (j:=1) rfl)
 have s2:=vF (lS A1 (j:=2) rfl)
 have hL:=Tryz.Vf A1
 go_wp2_with fail
 refine nI (fun w'=>∃ x:Later (w4),w'=x.w) [([0,2,3],1),([],4)] [5,6,7,8,9] Tryz.mixed (by kernel_rfl) (rM.drew _) ?_
 refine l7 ?_
 simp only [pick,ZaO,ZaW,ZaL,ZaH,Zak]
 change wpQuiet _ _ _ _ (_::_::_::[]) _
 repeat (first|(go_big_quiet_want;refine GU _ (.tmp 1) rfl _ rfl _ hL ?_;go_big_quiet_on;simp only [Act.put,Zdb,Zcr,ZdQ])|go_big_quiet_step (fail))
 refine wpQuiet_nil ?_
 change wpList _ _ _ [_] _ _
 go_wp2_with fail
 have hd2:Below w4.heap.size w4 w4.drew:=(Below.refl _ _).drew
 refine (cS w4.drew S4 (B4.trans (hd2.mono B4.size))).mono ?_
 rintro e w5 ⟨z1,z2,z3,rfl,hB3,q3⟩
 have zF:Below w4.heap.size w4 w5:=hd2.trans hB3
 go_wp2_with fail
 refine ⟨rM.of zF,?_⟩
 refine l7 ?_
 simp only [pick,ZaO,ZaW,ZaL,ZaH,Zak]
 change wpQuiet _ _ _ _ ([]) _
 repeat (go_big_quiet_step (fail))
 refine wpQuiet_nil ?_
 change wpList _ _ _ [_] _ _
 go_wp2_with fail
 refine (cM w5 x.n _ _ (by have:=zF.size;omega) (B4.trans (zF.mono B4.size)) (by have:=h.ln;omega) (qF h.en) p2 q3 hn1).mono ?_
 rintro e w6 ⟨D,c6,rfl,hB4,hD,r2⟩
 have uO:=zF.trans (hB4.mono zF.size)
 go_wp2_with fail
 refine ⟨rM.of uO,?_⟩
 refine sZ ?_
 simp only [pick,ZaO,ZaW,ZaL,ZaH,Zak]
 change wpQuiet _ _ _ _ (_::_::_::_::_::[]) _
 repeat (go_big_quiet_step (fail))
 refine wpQuiet_nil ?_
 have hDn:∀ b,wS ok W w4 b→wS ok W w6 b∧b≠D:=fun b hb=>⟨Es uO.size hb,fun e=>by
  have:=JX h0 B4.size hb
  have:=zF.size
  omega⟩
 have q1:=q1.keep hDn fun b _ hl=>uO.block b hl
 have q2:=q2.keep hDn fun b _ hl=>uO.block b hl
 have t1:=t1.keep hDn fun b _ hl=>uO.block b hl
 have B6:=B4.trans (uO.mono B4.size)
 have S6:W.heap.size+3≤w6.heap.size:=by have:=uO.size;omega
 have hDl:W.heap.size+3≤D:=by have:=zF.size;omega
 have A1:=dL A1 uO
 have A2:=dL A2 uO
 have A3:=dL A3 uO
 clear s1 s2 hB4 hB3 zF uO B4 S4 hL q3 hd2 hDn hD
 go_wp2_with fail
 have hcO:=apP (im:=qj x.im x.o) (d:=jP x.im x.o)
 have e1:(PV.list 1 ((qj x.im x.o).map aX))=.list 1 ((dF x).img.map aX):=rfl
 refine Calls.mono (o8 (ok:=fun k=>wS ok W w6 k∧k≠D) (vs:=[.slice a1 (qj x.im x.o).length c1,.slice (some ⟨D1,0,none⟩) (jP x.im x.o).length c4]) (fun b hb=>JX h0 B6.size hb.1) hE hcO ⟨q1,t1,trivial⟩ (hG.frame fun b hb hl=>⟨⟨.inl hb,fun e=>by have:=h0 b hb;omega⟩,B6.block b hl⟩) fl1) ?_
 rintro e w7 ⟨v,rfl,JY,hv⟩
 obtain ⟨l1,d1,l2,d2,l3,d3,rfl,o1,o2,o3⟩:=ajD (p:=dF x) hv.one.1
 have hN7:∀ b,okN (fun k=>wS ok W w6 k∧k≠D) w6 w7 b→wS ok W w7 b∧b≠D:=fun b hb=>by
  have hD6:D<w6.heap.size:=by obtain ⟨arr,E,d2,-⟩:=r2;exact ltQ d2
  rcases hb with hb|hb
  ·exact ⟨Es JY.size hb.1,hb.2⟩
  ·exact ⟨.inr ⟨by omega,hb.2⟩,by omega⟩
 have o1:=o1.keep hN7 fun _ _ _=>rfl
 have o2:=o2.keep hN7 fun _ _ _=>rfl
 have o3:=o3.keep hN7 fun _ _ _=>rfl
 have hU7:∀ b,wS ok W w6 b∧b≠D→wS ok W w7 b∧b≠D:=fun b hb=>⟨Es JY.size hb.1,hb.2⟩
 have q2:=q2.keep hU7 fun b _ hl=>JY.block b hl
 have B7:=B6.trans (JY.mono B6.size)
 have A1:=dL A1 JY
 have A2:=dL A2 JY
 have A3:=dL A3 JY
 go_wp2_with fail
 refine (UL (w:=w7)).mono ?_
 rintro e w8 ⟨m1,rfl,hB8,m2⟩
 have hU8:∀ b,wS ok W w7 b∧b≠D→wS ok W w8 b∧b≠D:=fun b hb=>⟨Es hB8.size hb.1,hb.2⟩
 have A1:=dL A1 hB8
 have A2:=dL A2 hB8
 have A3:=dL A3 hB8
 have q2:=q2.keep hU8 fun b _ hl=>hB8.block b hl
 have o1:=o1.keep hU8 fun b _ hl=>hB8.block b hl
 have o2:=o2.keep hU8 fun b _ hl=>hB8.block b hl
 have o3:=o3.keep hU8 fun b _ hl=>hB8.block b hl
 have B8:=B7.trans (hB8.mono B7.size)
 have z8:W.heap.size+3≤w8.heap.size:=by have:=hB8.size;have:=JY.size;omega
 have hD8:D<w7.heap.size:=by obtain ⟨arr,E,d2,-⟩:=r2;have:=ltQ d2;have:=JY.size;omega
 have m2:=m2.keep (ok':=fun k=>wS ok W w8 k∧k≠D) (fun b hb=>⟨.inr ⟨by have:=JY.size;omega,hb.2⟩,by omega⟩) fun _ _ _=>rfl
 have C3:=(setRow_other w8 (W.heap.size+1) (W.heap.size+1+1) #[.int .i64 (dF x).site,.slice l1 (dF x).lin.length d1,.slice l2 (dF x).dirty.length d2,.slice l3 (dF x).img.length d3] (by omega)).trans A3
 go_wp2_with (first|refine zK (b:=W.heap.size+1) (v:=.agg #[.int .i64 (dF x).site,.slice l1 (dF x).lin.length d1,.slice l2 (dF x).dirty.length d2,.slice l3 (dF x).img.length d3]) rfl rfl rfl rfl (by kernel_rfl) A2 rfl apY ?_|refine zK (b:=W.heap.size+1+1) (v:=.agg #[.int .i64 1,.slice m1 2 2,.slice (some ⟨D,0,none⟩) (jP x.im x.n).length c6,.slice a2 (qj x.im x.n).length c2]) rfl rfl rfl rfl (by kernel_rfl) C3 rfl apY ?_)
 obtain ⟨w9,hw9,E2,E3,z9,hF0⟩:=ajF A2 C3 (by omega) #[.int .i64 1,.slice m1 2 2,.slice (some ⟨D,0,none⟩) (jP x.im x.n).length c6,.slice a2 (qj x.im x.n).length c2]
 rw [hw9]
 have B9:Below W.heap.size W w9:=B8.trans ⟨by rw [← hw9];rfl,by rw [← hw9];rfl,by rw [← hw9];rfl,by omega,fun b hb=>hF0 b (by omega) (by omega)⟩
 have hF:∀ b,wS ok W w8 b→w9.heap[b]?=w8.heap[b]?:=fun b hb=>by
  have hne:b≠W.heap.size+1∧b≠W.heap.size+1+1:=by
   rcases hb with hb|hb
   ·have:=h0 b hb;omega
   ·omega
  exact hF0 b hne.1 hne.2
 refine bodyPost_ret (abw rfl rfl rfl rfl (Tryz.Qi E2) (Tryz.Qi E3)) rfl ?_
 have hU9:∀ b,wS ok W w8 b∧b≠D→wS ok W w9 b∧b≠D:=fun b hb=>⟨Es (by omega) hb.1,hb.2⟩
 have r9:Fe (fun k=>wS ok W w9 k∧k≠D) w9 D c6 (jP x.im x.n):=by
  obtain ⟨arr,E,d2,d3,d4,d5,d6⟩:=r2
  refine ⟨arr,E,?_,d3,d4,d5,fun i hi=>?_⟩
  ·have hl:=ltQ d2
   have:=hB8.size
   rw [hF D (.inr ⟨hDl,by omega⟩),hB8.block D hD8,JY.block D hl]
   exact d2
  ·obtain ⟨g1,u,g2,g3,g4⟩:=d6 i hi
   exact ⟨g1,u,g2,g3,g4.keep (fun b hb=>hU9 b (hU8 b (hU7 b hb))) fun b hb hl=>by rw [hF b (hU8 b (hU7 b hb)).1,hB8.block b (by have:=JY.size;omega),JY.block b hl]⟩
 exact ⟨l1,d1,l2,d2,l3,d3,m1,2,a2,c2,D,c6,rfl,B9,by omega,o1.keep hU9 fun b hb _=>hF b hb.1,o2.keep hU9 fun b hb _=>hF b hb.1,o3.keep hU9 fun b hb _=>hF b hb.1,m2.keep hU9 fun b hb _=>hF b hb.1,q2.keep hU9 fun b hb _=>hF b hb.1,r9⟩
end Go.Proofs.YtioijcfcehhmdaaGreatDoor
namespace Go.Proofs.YtioijcfcehhmdaaGreatDoor
open Go.RowKit
theorem Zh {P:Program}{env:Env}(hE:tY P env){g:Func}{res:List sU}(k6:lK P g.results.toList res=true){T0:Tags}{w0:World}(h0:∀ b,T0 b=.ro∨T0 b=.other)(hG:kF T0 w0)
  {c:Code} {vc:ay} {st st':St} (hm:mC P c vc=true) {x:Ex} (hx:x=.normal∨x=.ret) (hd:den env vc st=some (x,st')) (hst:st.stop=none) {rs:List nC} (hrs:fV st' res=some rs)
  {σ:Nat→Nat} {T:Tags} {a:Act} {w:World} (hS:aV 0 σ T st a w) (hJ:jU T0 w0 0 T w) (hdef:a.defers=[]) :
  c.wp P (bodyPostM Fence.wide 0 P g (fun e w'=>∃ v T',e=.returned v∧Below w0.heap.size w0 w'∧(∀ b,b<w0.heap.size→T' b=T0 b)∧(∀ b,w'.heap.size≤b→T' b=.other)∧kG T' w' rs v)) a w:=by
 obtain ⟨n,hn⟩:=Me hd
 have hR:=YF hE n
 have hC:Ctx.Ok ⟨st'.ys,none,jU T0 w0⟩ P 0:=⟨fun k T T' w1 w2 hc h=>qg (k:=k) h0 hc h,fun k T w1 h=>hG.frame fun b e hb=>⟨(h.2 b hb).trans e,h.1.block b hb⟩,fun s k T w ps vs hs=>by cases hs⟩
 refine (wpIn_wide (n:=0)).1 (wpIn_mono (hR.wp (F:=Fence.wide) (L:=0) (C:=⟨st'.ys,none,jU T0 w0⟩) (n:=0) (.inl rfl) (Ctx.pY _) hC c vc st x st' hm hn hst (List.prefix_refl _) σ T a w hS hJ) ?_)
 rintro y a' w' ⟨rfl,σ',T',ms,q1,q2,q3,q4,q5,q6⟩
 obtain ⟨p1,p2⟩:=q2
 have key:LeavesInM Fence.wide 0 P g a'.tmps (fun e w'=>∃ v T',e=.returned v∧Below w0.heap.size w0 w'∧(∀ b,b<w0.heap.size→T' b=T0 b)∧(∀ b,w'.heap.size≤b→T' b=.other)∧kG T' w' rs v) a'.defers .returning w':=by
  rw [q5,hdef,ZaE]
  refine lM (B:=w.heap.size) q6.2 (fun r hr=>⟨(q6.1 r hr).1,(q6.1 r hr).2.2⟩) fun w2 e1 e2 e3 e4 e5=>?_
  have q1':=q1.drop (fun r hr ⟨arr,E,q,e⟩=>by rw [(q6.1 r hr).2.2] at e;cases e) e5 e4
  obtain ⟨us,T2,r1,r2,r3,r4,r5⟩:=wB q1' k6 hrs
  have hw0:w0.heap.size≤w.heap.size:=hJ.1.size
  have hms:∀ b,b<w0.heap.size→b ∉ ms:=fun b hb hm=>by have:=(q6.1 b hm).1;omega
  have hT2:∀ b,b<w0.heap.size→T2 b=T0 b:=fun b hb=>by
   have e:drop T' ms b=T0 b:=by simp only [drop,if_neg (hms b hb)];exact p2 b hb
   rcases h0 b with e0|e0
   ·rw [e0];exact r3.ro b (by rw [e,e0])
   ·rw [e0];exact r3.other b (by rw [e,e0])
  refine ⟨_,qc r1,_,outT T2 st'.slots.length,rfl,p1.trans ⟨e1,e2,e3,by omega,fun b hb=>e5 b (hms b hb)⟩,fun b hb=>?_,fun b hb=>?_,us.toArray,by simpa using r2,rfl,fun i x u hx hu=>RK.out (r5 i x u hx (by simpa using hu))⟩
  ·simp only [outT,hT2 b hb]
   rcases h0 b with e0|e0<;>rw [e0]
  ·simp only [outT,r4 b hb]
 rcases hx with rfl|rfl
 ·exact key
 ·exact key
theorem agx {P:Program}{env:Env}(hE:tY P env){g:Func}{res:List sU}(k6:lK P g.results.toList res=true){T0:Tags}{w0:World}(h0:∀ b,T0 b=.ro∨T0 b=.other)(hG:kF T0 w0)
  {c:Code} {vc:ay} {st:St} (hm:mC P c vc=true) {rs:List nC} (hd:(den env vc st).bind (Go.Proofs.YtioijcfcehhmdaaGreatDoor.fin res)=some rs) (hst:st.stop=none)
  {σ:Nat→Nat} {T:Tags} {a:Act} {w:World} (hS:aV 0 σ T st a w) (hJ:jU T0 w0 0 T w) (hdef:a.defers=[]) :
  c.wp P (bodyPostM Fence.wide 0 P g (fun e w'=>∃ v T',e=.returned v∧Below w0.heap.size w0 w'∧(∀ b,b<w0.heap.size→T' b=T0 b)∧(∀ b,w'.heap.size≤b→T' b=.other)∧kG T' w' rs v)) a w:=by
 cases hq:den env vc st with
 |none=>rw [hq] at hd;cases hd
 |some q =>
  obtain ⟨e,st'⟩:=q
  rw [hq] at hd
  cases e with
  |normal=>exact Zh hE k6 h0 hG hm (.inl rfl) hq hst hd hS hJ hdef
  |ret=>exact Zh hE k6 h0 hG hm (.inr rfl) hq hst hd hS hJ hdef
  |exit i=>cases hd
  |nJ t n=>cases hd
end Go.Proofs.YtioijcfcehhmdaaGreatDoor
namespace Go.Proofs.YtioijcfcehhmdaaGreatDoor
open Go.RowKit V
structure uP (W:World)(g q:Nat) where
 w:World
 size:W.heap.size≤w.heap.size
 other:∀ b,b≠g→b<W.heap.size→w.heap[b]?=W.heap[b]?
 row:∀ arr E,W.heap[g]?=some (.cells arr E (0,0))→∃ arr',w.heap[g]?=some (.cells arr' E (0,0))∧∀ k,k≠q→arr'[k]?=arr[k]?
instance (W:World) (g q:Nat):Nonempty (uP W g q):=⟨⟨W,ze _,fun _ _ _=>rfl,fun arr E h=>⟨arr,h,fun _ _=>rfl⟩⟩⟩
theorem uP.drew (W:World)(g q:Nat):∃ x:uP W g q,W.drew=x.w:=⟨⟨W.drew,ze _,fun _ _ _=>rfl,fun arr E h=>⟨arr,h,fun _ _=>rfl⟩⟩,rfl⟩
theorem uP.of {W w:World}{g q:Nat}(h:Below W.heap.size W w):∃ x:uP W g q,w=x.w:=⟨⟨w,h.size,fun b _ hb=>h.block b hb,fun arr E hg=>⟨arr,dL hg h,fun _ _=>rfl⟩⟩,rfl⟩
theorem wV {W:World}{g q b k:Nat}{v:Value}{arr:Array Value}{E:TypeId}(hg:W.heap[g]?=some (.cells arr E (0,0)))(h:W.cell? ⟨b,k,none⟩=some v)(hne:b=g→k≠q):∀ x:uP W g q,x.w.cell? ⟨b,k,none⟩=some v:=fun x=>by
 by_cases e:b=g
 ·subst e
  obtain ⟨arr',h1,h2⟩:=x.row arr E hg
  rw [cell_of_row _ _ _ _ _ (0,0) hg] at h
  rw [cell_of_row _ _ _ _ _ (0,0) h1,h2 k (hne rfl)]
  exact h
 ·have hb:b<W.heap.size:=World.block_lt_of_cell? W ⟨b,k,none⟩ h
  rw [← h]
  exact World.cell?_of_block (a:=⟨b,k,none⟩) (x.other b e hb)
theorem JZ {P:Program}{ops:Array Oper}{rest:List Oper}{o:Oper}{a:Act}{w:World}{Q:Exit→Act→World→Prop}{T:TypeId}{p x:Operand}{b off:Nat}{v:Value}{arr:Array Value}{E:TypeId}(hgd:o.guard=none)(ho:o.op=.store T p x)(hp:a.eval p=.pointer (some ⟨b,off,none⟩))(hx:a.eval x=v)
  (hs:iZ P T=some v.cells.size) (hb:w.heap[b]?=some (.cells arr E (0,0))) (hl:off+v.cells.size≤arr.size) (h1:∀ u∈v.cells.toList,u.oneCell'=true) (h:wpList P ops Q rest (a.put o.dst undef) (w.setRow b (arr.toList.take off++v.cells.toList++arr.toList.drop (off+v.cells.toList.length)).toArray)):wpList P ops Q (o::rest) a w :=
 wpList_plain hgd fun _ hK=>by
  have hst:=jT (P:=P) (T0:=T) (off:=off) hs hb hl h1
  unfold Oper.wp execOp
  simp only [ho,hp,hx,Instr.storeAt,Instr.sureAddr,Sem.run_bind,Sem.run_pure,Result.andThen_ok,hst]
  exact hK _ _ h
theorem ane (arr:Array Value)(off:Nat)(a b:Value)(h:off+2≤arr.size)(k:Nat):(arr.toList.take off++[a,b]++arr.toList.drop (off+2)).toArray[k]?=if k=off then some a else if k=off+1 then some b else arr[k]?:=by
 have hl:(arr.toList.take off).length=off:=by rw [Zac,Array.length_toList];omega
 rw [ZaL]
 by_cases h1:k<off
 ·rw [if_neg (by omega),if_neg (by omega),Zay,Zad (by rw [hl];exact h1),List.getElem?_take,if_pos h1,Zbd]
 ·rw [Zay,zP (by rw [hl];omega),hl]
  obtain ⟨d,rfl⟩:∃ d,k=off+d:=⟨k - off,by omega⟩
  rw [Nat.add_sub_cancel_left]
  match d with
  |0=>rw [if_pos (by omega)];rfl
  |1=>rw [if_neg (by omega),if_pos (by omega)];rfl
  |d+2 =>
   rw [if_neg (by omega),if_neg (by omega)]
   show (arr.toList.drop (off+2))[d]?=_
   rw [ZaP,Zbd]
   congr 1;omega
theorem J3 {ok:Nat→Prop}{w:World}{ws:List Wd}{u:Value}(h:aA ok w (.list 1 (ws.map eW)) u)(h1:1≤ws.length):∃ b o n c k,u=.slice (some ⟨b,o,none⟩) n c∧1≤n∧w.cell? ⟨b,o,none⟩=some (.int .u64 k):=by
 obtain ⟨x,c,rfl,_,_,h4⟩:=h.gq
 obtain ⟨b,off,rfl,_,_,_,h5⟩:=h4 (by rw [Z2];exact h1)
 have he:(ws.map eW)[0]?=some (eW ws[0]):=by rw [zb,ZS h1];rfl
 obtain ⟨v,g1,_,g3⟩:=h5 0 _ he 0 _ rfl
 rw [g3.bP] at g1
 simp only [Nat.zero_mul,Za1] at g1
 exact ⟨b,off,_,c,_,rfl,by rw [Z2];exact h1,g1⟩
theorem Cc.words {w w':World}{g q:Nat}(h:Cc w w' g q){ok ok':Nat→Prop}(hok:∀ b,ok b→ok' b){ws:List Wd}{u:Value}(hp:aA ok w (.list 1 (ws.map eW)) u):aA ok' w' (.list 1 (ws.map eW)) u:=by
 generalize hes:ws.map eW=es at hp ⊢
 have hS:∀ e∈es,∃ n,e=.int .u64 n:=fun e he=>by
  rw [← hes] at he
  obtain ⟨y,-,rfl⟩:=ZaY.1 he
  exact ⟨_,rfl⟩
 clear hes
 have hX:∀ (i:Nat) (e:PV) (j:Nat) (x:PV),es[i]?=some e→e.cells[j]?=some x→∃ n,x=.int .u64 n:=fun i e j x hi hj=>by
  obtain ⟨n,rfl⟩:=hS e (Zab hi)
  match j,hj with
  |0,hj=>cases hj;exact ⟨n,rfl⟩
  |j+1,hj=>cases hj
 cases hp with
 |nil sz a=>exact .nil _ _
 |list sz es b off c cv h1 h2 h3 h4 h6 h7 h8 =>
  refine .list 1 es b off c cv (hok b h1) (h.yS h2) h3 h4 h6 (fun i e j x hi hj=>?_) (fun i e j x hi hj=>?_)
  ·rw [h.cell h2.lt (fun e' hq=>?_)]
   ·exact h7 i e j x hi hj
   ·subst e'
    obtain ⟨b2,o2,n2,c2,k2,p1,-,-⟩:=h.here
    have g1:=(h7 i e j x hi hj).1
    rw [hq,p1] at g1
    obtain ⟨n,rfl⟩:=hX i e j x hi hj
    have g2:=(h8 i e j _ hi hj).bP
    rw [g2] at g1
    cases g1
  ·obtain ⟨n,rfl⟩:=hX i e j x hi hj
   rw [(h8 i e j _ hi hj).bP]
   exact .int _ _
end Go.Proofs.YtioijcfcehhmdaaGreatDoor
namespace Go.Proofs.YtioijcfcehhmdaaGreatDoor.V
structure Ns where
 base:Int
 num:Int
 time:Int
 pos:List Int
 ws:List fK
def zG (c:Ns):PV:=.agg [.int .i64 c.base,.int .i64 c.num,.int .i64 c.time,.list 1 (c.pos.map eI),.list 3 (c.ws.map jw)]
theorem pK (c:Ns):zG c=.agg [.int .i64 c.base,.int .i64 c.num,.int .i64 c.time,.list 1 (c.pos.map eI),.list 3 (c.ws.map jw)]:=rfl
theorem ajG {l:List Ns}{i:Nat}(h:i<l.length):(l.map zG)[i]?=some (.agg [.int .i64 l[i].base,.int .i64 l[i].num,.int .i64 l[i].time,.list 1 (l[i].pos.map eI),.list 3 (l[i].ws.map jw)]):=by rw [zb,ZS h];rfl
theorem anf {l:List fK}{i:Nat}(h:i<l.length):(l.map jw)[i]?=some (.agg [.int .i64 l[i].volume,.int .i64 l[i].start,.list 8 (l[i].data.map je)]):=by rw [zb,ZS h];rfl
theorem ang {l:List fK}(hd:∀ w∈l,w.data.length≤10000)(hl:l.length≤1000000){st:St}(h:st.head [0,3,6,7,8] st.boxes.length=some ⟨sl 19 [(0,.pv (.list 3 (l.map jw))),(3,.pv (.int .i64 (jr (l.take ((0:Nat)))))),(6,.pv (.list 3 (l.map jw))),(7,.pv (.int .i64 l.length)),(8,.pv (.int .i64 (0:Nat)))],[],[],none⟩) :
  den env PD st=some (.normal,⟨sl 19 [(2,.any),(3,.pv (.int .i64 (jr l)))],[],[],none⟩):=by
 unfold PD
 refine bM (env:=env) (nb:=0) (l.length) (fun i=>⟨sl 19 [(0,.pv (.list 3 (l.map jw))),(3,.pv (.int .i64 (jr (l.take (i))))),(6,.pv (.list 3 (l.map jw))),(7,.pv (.int .i64 l.length)),(8,.pv (.int .i64 i))],[],[],none⟩) (fun i=>some (.normal,⟨sl 19 [(2,.any),(3,.pv (.int .i64 (jr l)))],[],[],none⟩)) h (fun _=>rfl) (fun _=>by simp only [aG,bJ,Nat.reduceMul,Nat.reduceBEq,Nat.reduceLT,Nat.reduceLeDiff,Nat.reduceAdd,decide_true,zt,zm]) ?_ ?_
 ·intro i rb hi ih
  have hi1:=bF hi (zr hl (by decide))
  have F1:((i:Int)<(l.length:Int))=True:=eq_true (by omega)
  have hx:=anf hi
  have P3:∀ a b c:PV,part [a,b,c] 0 (some 3)=some (.agg [a,b,c]):=fun _ _ _=>rfl
  have h1:=zq (l:=l.take i) fun w hw=>hd w (Za2 hw)
  have h2:=hd _ (zR hi)
  have h3:(l.take i).length≤1000000:=by rw [Zac];omega
  have W:IntKind.i64.wrap (jr (l.take i)+(l[i].data.length:Int))=jr (l.take (i+1)):=by rw [X7 hi];exact bn (by omega)
  simp only [Pz,F1,hx,P3,W,au hi,Z2,aF,Nat.reduceMul,Nat.reduceBEq,Nat.reduceLT,Nat.reduceLeDiff,reduceCtorEq,Nat.reduceEqDiff,Nat.reduceAdd,Z1]
  rw [ih _ (by simp only [hi1,aF,Nat.reduceMul,Nat.reduceBEq,Nat.reduceLT,Nat.reduceLeDiff,reduceCtorEq,Nat.reduceEqDiff,Nat.reduceAdd,Z1]<;>rfl)]
 ·intro rb
  rw [ZaI]
  simp only [Pz,Zap,Z2,aF,Nat.reduceMul,Nat.reduceBEq,Nat.reduceLT,Nat.reduceLeDiff,reduceCtorEq,Nat.reduceEqDiff,Nat.reduceAdd,Z1]
theorem ap0 {l:List fK}(hd:∀ w∈l,w.data.length≤10000)(hl:l.length≤1000000):cal env 66 [.list 3 (l.map jw)]=some [(.int .i64 (jr l),false)]:=by
 rw [ah aoP rfl];simp only [aeg,aG,Nat.reduceBEq,Nat.reduceLeDiff,Nat.reduceAdd,za,zd]
 simp only [Z2,aF,Nat.reduceMul,Nat.reduceBEq,Nat.reduceLT,Nat.reduceLeDiff,reduceCtorEq,Nat.reduceEqDiff,Nat.reduceAdd,Z1]
 rw [ang hd hl (by simp only [ZaQ];simp only [aG,bJ,Nat.reduceMul,Nat.reduceBEq,Nat.reduceLT,Nat.reduceLeDiff,Nat.reduceAdd,decide_true,zt,zm]<;>rfl)]
 simp only [aF,Nat.reduceMul,Nat.reduceBEq,Nat.reduceLT,Nat.reduceLeDiff,reduceCtorEq,Nat.reduceEqDiff,Nat.reduceAdd,Z1]
def jv:List Ns→Int
 |[]=>0
 |c::l=>jr c.ws+jv l
theorem zu:∀ a b:List Ns,jv (a++b)=jv a+jv b
 |[],b=>by simp [jv]
 |e::a,b=>by simp only [Za3,jv,zu a b];omega
theorem Ya {l:List Ns}{i:Nat}(h:i<l.length):jv (l.take (i+1))=jv (l.take i)+jr l[i].ws:=by
 rw [Zao h,zu];simp [jv]
def okC (l:List Ns):Prop:=l.length≤1000∧∀ c∈l,c.ws.length≤10000∧∀ w∈c.ws,w.data.length≤10000
theorem Vg:∀ {l:List Ns},(∀ c∈l,c.ws.length≤10000∧∀ w∈c.ws,w.data.length≤10000)→0≤jv l∧jv l≤100000000*(l.length:Int)
 |[],_=>by simp [jv]
 |c::l,h=>by
  obtain ⟨h0,h1⟩:=h c (by simp)
  have h3:=zq h1
  have h2:=Vg (l:=l) fun x hx=>h x (by simp [hx])
  simp only [jv,za]
  omega
theorem agy {l:List Ns}(h:okC l)(i:Nat):0≤jv (l.take i)∧jv (l.take i)≤100000000000:=by
 have h1:=Vg (l:=l.take i) fun c hc=>h.2 c (Za2 hc)
 have h2:=h.1
 have h3:(l.take i).length≤l.length:=by rw [Zac];omega
 omega
theorem anh {l:List Ns}(ho:okC l){st:St}(h:st.head [0,3,6,7,8] st.boxes.length=some ⟨sl 19 [(0,.pv (.list 5 (l.map zG))),(3,.pv (.int .i64 (jv (l.take ((0:Nat)))))),(6,.pv (.list 5 (l.map zG))),(7,.pv (.int .i64 l.length)),(8,.pv (.int .i64 (0:Nat)))],[],[],none⟩) :
  den env OQ st=some (.normal,⟨sl 19 [(2,.any),(3,.pv (.int .i64 (jv l)))],[],[],none⟩):=by
 unfold OQ
 refine bM (env:=env) (nb:=0) (l.length) (fun i=>⟨sl 19 [(0,.pv (.list 5 (l.map zG))),(3,.pv (.int .i64 (jv (l.take (i))))),(6,.pv (.list 5 (l.map zG))),(7,.pv (.int .i64 l.length)),(8,.pv (.int .i64 i))],[],[],none⟩) (fun i=>some (.normal,⟨sl 19 [(2,.any),(3,.pv (.int .i64 (jv l)))],[],[],none⟩)) h (fun _=>rfl) (fun _=>by simp only [aG,bJ,Nat.reduceMul,Nat.reduceBEq,Nat.reduceLT,Nat.reduceLeDiff,Nat.reduceAdd,decide_true,zt,zm]) ?_ ?_
 ·intro i rb hi ih
  have hl:=ho.1
  have hi1:=bF hi (zr hl (by decide))
  have F1:((i:Int)<(l.length:Int))=True:=eq_true (by omega)
  have hx:=ajG hi
  have P5:∀ a b c d e:PV,part [a,b,c,d,e] 0 (some 5)=some (.agg [a,b,c,d,e]):=fun _ _ _ _ _=>rfl
  have b1:=agy ho i
  obtain ⟨b2,b3⟩:=ho.2 _ (zR hi)
  have b4:=zq b3
  have e1:=ap0 (l:=l[i].ws) b3 (by omega)
  have W:IntKind.i64.wrap (jv (l.take i)+jr l[i].ws)=jv (l.take (i+1)):=by rw [Ya hi];exact bn (by omega)
  simp only [OO,F1,hx,P5,W,e1,au hi,Z2,aF,Nat.reduceMul,Nat.reduceBEq,Nat.reduceLT,Nat.reduceLeDiff,reduceCtorEq,Nat.reduceEqDiff,Nat.reduceAdd,Z1]
  rw [ih _ (by simp only [hi1,aF,Nat.reduceMul,Nat.reduceBEq,Nat.reduceLT,Nat.reduceLeDiff,reduceCtorEq,Nat.reduceEqDiff,Nat.reduceAdd,Z1]<;>rfl)]
 ·intro rb
  rw [ZaI]
  simp only [OO,Zap,Z2,aF,Nat.reduceMul,Nat.reduceBEq,Nat.reduceLT,Nat.reduceLeDiff,reduceCtorEq,Nat.reduceEqDiff,Nat.reduceAdd,Z1]
theorem ap1 {l:List Ns}(ho:okC l):cal env 20 [.list 5 (l.map zG)]=some [(.int .i64 (jv l),false)]:=by
 rw [ah aoB rfl];simp only [ad4,aG,Nat.reduceBEq,Nat.reduceLeDiff,Nat.reduceAdd,za,zd]
 simp only [Z2,aF,Nat.reduceMul,Nat.reduceBEq,Nat.reduceLT,Nat.reduceLeDiff,reduceCtorEq,Nat.reduceEqDiff,Nat.reduceAdd,Z1]
 rw [anh ho (by simp only [ZaQ,jv];simp only [aG,bJ,Nat.reduceMul,Nat.reduceBEq,Nat.reduceLT,Nat.reduceLeDiff,Nat.reduceAdd,decide_true,zt,zm]<;>rfl)]
 simp only [aF,Nat.reduceMul,Nat.reduceBEq,Nat.reduceLT,Nat.reduceLeDiff,reduceCtorEq,Nat.reduceEqDiff,Nat.reduceAdd,Z1]
def xA:Ns:=⟨0,0,0,[],[]⟩
def sQ (p:sS)(a:Pt)(n t:Int):Int:=(if jZ p=0 then (if gU a=0 then (if a.site=p.uj then (if p.done=false then (if p.step<4096 then (if p.ng<n then (if (kH a.lin).to≤n then (if FW p.ng n t []=0 then 0 else FW p.ng n t []) else 2) else 2) else 11) else 12) else 1) else gU a) else jZ p)
def uQ (p:sS)(a:Pt)(n t:Int):sS:=if sQ p a n t=0 then { p with step:=p.step+1,ng:=n } else fM
def uS (p:sS)(a:Pt)(n t:Int):Ns:=if sQ p a n t=0 then ⟨p.ng,n,t,[],Ep a⟩ else xA
theorem abU {p:sS}(h:jZ p=0):p.step≤4096:=by
 unfold jZ at h
 by_cases c:p.step≤4096
 ·exact c
 ·exfalso
  repeat' (split at h)
  all_goals first|omega|exact absurd h (by decide)
theorem agz (b n t:Int)(w:List fK):ajy b n t [] w=.agg [.int .i64 b,.int .i64 n,.int .i64 t,.list 1 [],.list 3 (w.map jw)]:=rfl
theorem QH:([]:List Int).map eI=[]:=rfl
theorem QI:([]:List fK).map jw=[]:=rfl
theorem QJ {im:fG}{i:Nat}(h:i<im.length):((aj im).take (i+1)).map eI=((aj im).take i).map eI++[.int .i64 (im[i].length:Int)]:=by
 have hi:i<(aj im).length:=by simpa [aj] using h
 rw [Zao hi,ZaK]
 simp [aj,eI]
theorem agA {a:Pt}{n:Int}{d0 d1 d2 d3 d4 d5:List BV}(hi0:a.img.length≤lim){st:St}(h:st.head [2,8,9,10,11,14,68,69,70,78] st.boxes.length=some ⟨sl 96 [(2,.pv (.int .i64 n)),(8,.aO 2 0),(9,.aO 3 0),(10,.aO 4 0),(11,.aO 5 0),(14,.row 1 (((aj a.img).take ((0:Nat))).map eI)),(68,.pv (.list 1 (a.img.map aX))),(69,.pv (.int .i64 a.img.length)),(70,.pv (.int .i64 (0:Nat))),(78,.any)],[⟨false,d0⟩,⟨false,d1⟩,⟨false,d2⟩,⟨false,d3⟩,⟨false,d4⟩,⟨false,d5⟩],[],none⟩) :
  den env OG st=some (.normal,⟨sl 96 [(2,.pv (.int .i64 n)),(8,.aO 2 0),(9,.aO 3 0),(10,.aO 4 0),(11,.aO 5 0),(14,.row 1 ((aj a.img).map eI))],[⟨false,d0⟩,⟨false,d1⟩,⟨false,d2⟩,⟨false,d3⟩,⟨false,d4⟩,⟨false,d5⟩],[],none⟩):=by
 unfold OG
 refine bM (env:=env) (nb:=6) (a.img.length) (fun i=>⟨sl 96 [(2,.pv (.int .i64 n)),(8,.aO 2 0),(9,.aO 3 0),(10,.aO 4 0),(11,.aO 5 0),(14,.row 1 (((aj a.img).take (i)).map eI)),(68,.pv (.list 1 (a.img.map aX))),(69,.pv (.int .i64 a.img.length)),(70,.pv (.int .i64 i)),(78,.any)],[⟨false,d0⟩,⟨false,d1⟩,⟨false,d2⟩,⟨false,d3⟩,⟨false,d4⟩,⟨false,d5⟩],[],none⟩) (fun i=>some (.normal,⟨sl 96 [(2,.pv (.int .i64 n)),(8,.aO 2 0),(9,.aO 3 0),(10,.aO 4 0),(11,.aO 5 0),(14,.row 1 ((aj a.img).map eI))],[⟨false,d0⟩,⟨false,d1⟩,⟨false,d2⟩,⟨false,d3⟩,⟨false,d4⟩,⟨false,d5⟩],[],none⟩)) h (fun _=>rfl) (fun _=>by simp only [aG,bJ,Nat.reduceMul,Nat.reduceBEq,Nat.reduceLT,Nat.reduceLeDiff,Nat.reduceAdd,decide_true,zt,zm]) ?_ ?_
 ·intro i rb hi ih
  have hi1:=bF hi hi0
  have F1:((i:Int)<(a.img.length:Int))=True:=eq_true (by omega)
  have hy:=Zg hi
  have e5:=QJ hi
  have F2:(((aj a.img).take i).map eI).length+1≤lim:=by simp [aj];omega
  have F2:=eq_true F2
  rw [Z2] at F2
  simp only [OE,F1,F2,hy,au hi,Z2,aF,Nat.reduceMul,Nat.reduceBEq,Nat.reduceLT,Nat.reduceLeDiff,reduceCtorEq,Nat.reduceEqDiff,Nat.reduceAdd,Z1]
  rw [ih _ (by simp only [hi1];rw [e5];simp only [aF,Nat.reduceMul,Nat.reduceBEq,Nat.reduceLT,Nat.reduceLeDiff,reduceCtorEq,Nat.reduceEqDiff,Nat.reduceAdd,Z1]<;>rfl)]
  all_goals rfl
 ·intro rb
  have e9:(aj a.img).take a.img.length=aj a.img:=Zbm (by simp [aj])
  rw [e9]
  simp only [OE,Zap,Z2,aF,Nat.reduceMul,Nat.reduceBEq,Nat.reduceLT,Nat.reduceLeDiff,reduceCtorEq,Nat.reduceEqDiff,Nat.reduceAdd,Z1]
theorem ap2 {p:sS}{a:Pt}{n t:Int}(ha:Cb a)(hl9:a.img.length≤9)(hv24:∀ v∈a.img,v.length≤24):cal env 12 [Ju p,FP a,.int .i64 n,.int .i64 t]=some [(Ju (uQ p a n t),false),(zG (uS p a n t),false),(.int .i64 (sQ p a n t),false)]:=by
 have d1:=apr (p:=p)
 rw [dw] at d1
 have g1:=afk (p:=a) ha
 rw [gJ] at g1
 have h1:=afB (l:=a.lin) ha.1
 have k1:=afz
 have k2:=afA
 have q1:=Ak
 have q2:=Jv
 have q3:=D8
 rw [dw,gJ,Oy aoz rfl]
 by_cases c0:jZ p=0
 rotate_left
 ·rw [if_neg c0] at d1
  have Z:(jZ p=0)=False:=eq_false c0
  have hE:sQ p a n t=jZ p:=by unfold sQ;rw [if_neg c0]
  have hO:uQ p a n t=fM:=by unfold uQ;rw [hE,if_neg c0]
  have hC:uS p a n t=xA:=by unfold uS;rw [hE,if_neg c0]
  rw [hE,hO,hC,dw,pK]
  simp only [DV,aG,Nat.reduceBEq,Nat.reduceLeDiff,Nat.reduceAdd,za,zd]
  simp only [h1,d1,Z,q1,q2,q3,fM,xA,QH,QI,aZ,bQ,aU,oJ.begun,fJ,varOf,dY,dR,fH,jy,St.setVar,St.bV,St.eP,PV.gG,Zaw,ZaU,ZaF,ZaJ,and_true,true_and,Zax,Zaf,Zas,or_false,not_false_eq_true,ZaB,ZD.injEq,Nat.reduceEqDiff,Int.reduceEq,if_true,if_false,aF,Nat.reduceMul,Nat.reduceBEq,Nat.reduceLT,Nat.reduceLeDiff,reduceCtorEq,Nat.reduceAdd,Z1]
 rw [if_pos c0] at d1
 have d2:=akn (p:=p) c0
 rw [dw] at d2
 have hs1:=afC c0
 have hs2:=abU c0
 by_cases c1:gU a=0
 rotate_left
 ·have k3:=YR c1
  have Z:(gU a=0)=False:=eq_false c1
  have hE:sQ p a n t=gU a:=by unfold sQ;rw [if_pos c0,if_neg c1]
  have hO:uQ p a n t=fM:=by unfold uQ;rw [hE,if_neg c1]
  have hC:uS p a n t=xA:=by unfold uS;rw [hE,if_neg c1]
  rw [hE,hO,hC,dw,pK]
  simp only [DV,aG,Nat.reduceBEq,Nat.reduceLeDiff,Nat.reduceAdd,za,zd]
  simp only [h1,d1,d2,g1,k3,Z,q1,q2,q3,fM,xA,QH,QI,aZ,bQ,aU,oJ.begun,fJ,varOf,dY,dR,fH,jy,St.setVar,St.bV,St.eP,PV.gG,Zaw,ZaU,ZaF,ZaJ,and_true,true_and,Zax,Zaf,Zas,or_false,not_false_eq_true,ZaB,ZD.injEq,Nat.reduceEqDiff,Int.reduceEq,if_true,if_false,aF,Nat.reduceMul,Nat.reduceBEq,Nat.reduceLT,Nat.reduceLeDiff,reduceCtorEq,Nat.reduceAdd,Z1]
 rw [c1] at g1
 have hM:=apW c1 hl9 hv24
 have mk:=apX hM ha.2.1
 rw [gJ] at mk
 by_cases c2:a.site=p.uj
 rotate_left
 ·have F2:(a.site==p.uj)=false:=by simpa using c2
  have hE:sQ p a n t=1:=by unfold sQ;rw [if_pos c0,if_pos c1,if_neg c2]
  have hO:uQ p a n t=fM:=by unfold uQ;rw [hE,if_neg (by decide)]
  have hC:uS p a n t=xA:=by unfold uS;rw [hE,if_neg (by decide)]
  rw [hE,hO,hC,dw,pK]
  simp only [DV,aG,Nat.reduceBEq,Nat.reduceLeDiff,Nat.reduceAdd,za,zd]
  simp only [h1,d1,d2,g1,k1,k2,F2,q1,q2,q3,fM,xA,QH,QI,aZ,bQ,aU,oJ.begun,fJ,varOf,dY,dR,fH,jy,St.setVar,St.bV,St.eP,PV.gG,Zaw,ZaU,ZaF,ZaJ,and_true,true_and,Zax,Zaf,Zas,or_false,not_false_eq_true,ZaB,ZD.injEq,Nat.reduceEqDiff,Int.reduceEq,if_true,if_false,aF,Nat.reduceMul,Nat.reduceBEq,Nat.reduceLT,Nat.reduceLeDiff,reduceCtorEq,Nat.reduceAdd,Z1]
 have F2:(a.site==p.uj)=true:=by simpa using c2
 by_cases c3:p.done=false
 rotate_left
 ·have F3:p.done=true:=by simpa using c3
  rw [F3] at d1 d2
  have hE:sQ p a n t=12:=by unfold sQ;rw [if_pos c0,if_pos c1,if_pos c2,if_neg c3]
  have hO:uQ p a n t=fM:=by unfold uQ;rw [hE,if_neg (by decide)]
  have hC:uS p a n t=xA:=by unfold uS;rw [hE,if_neg (by decide)]
  rw [hE,hO,hC,dw,pK]
  simp only [DV,aG,Nat.reduceBEq,Nat.reduceLeDiff,Nat.reduceAdd,za,zd]
  simp only [h1,d1,d2,g1,k1,k2,F2,F3,q1,q2,q3,fM,xA,QH,QI,aZ,bQ,aU,oJ.begun,fJ,varOf,dY,dR,fH,jy,St.setVar,St.bV,St.eP,PV.gG,Zaw,ZaU,ZaF,ZaJ,and_true,true_and,Zax,Zaf,Zas,or_false,not_false_eq_true,ZaB,ZD.injEq,Nat.reduceEqDiff,Int.reduceEq,if_true,if_false,aF,Nat.reduceMul,Nat.reduceBEq,Nat.reduceLT,Nat.reduceLeDiff,reduceCtorEq,Nat.reduceAdd,Z1]
 have F3:p.done=false:=by simpa using c3
 rw [F3] at d1 d2
 by_cases c4:p.step<4096
 rotate_left
 ·have F4:(p.step<4096)=False:=eq_false c4
  have hE:sQ p a n t=11:=by unfold sQ;rw [if_pos c0,if_pos c1,if_pos c2,if_pos c3,if_neg c4]
  have hO:uQ p a n t=fM:=by unfold uQ;rw [hE,if_neg (by decide)]
  have hC:uS p a n t=xA:=by unfold uS;rw [hE,if_neg (by decide)]
  rw [hE,hO,hC,dw,pK]
  simp only [DV,aG,Nat.reduceBEq,Nat.reduceLeDiff,Nat.reduceAdd,za,zd]
  simp only [h1,d1,d2,g1,k1,k2,F2,F3,F4,q1,q2,q3,fM,xA,QH,QI,aZ,bQ,aU,oJ.begun,fJ,varOf,dY,dR,fH,jy,St.setVar,St.bV,St.eP,PV.gG,Zaw,ZaU,ZaF,ZaJ,and_true,true_and,Zax,Zaf,Zas,or_false,not_false_eq_true,ZaB,ZD.injEq,Nat.reduceEqDiff,Int.reduceEq,if_true,if_false,aF,Nat.reduceMul,Nat.reduceBEq,Nat.reduceLT,Nat.reduceLeDiff,reduceCtorEq,Nat.reduceAdd,Z1]
 have F4:(p.step<4096)=True:=eq_true c4
 by_cases c5:p.ng<n
 rotate_left
 ·have F5:(n > p.ng)=False:=eq_false c5
  have hE:sQ p a n t=2:=by unfold sQ;rw [if_pos c0,if_pos c1,if_pos c2,if_pos c3,if_pos c4,if_neg c5]
  have hO:uQ p a n t=fM:=by unfold uQ;rw [hE,if_neg (by decide)]
  have hC:uS p a n t=xA:=by unfold uS;rw [hE,if_neg (by decide)]
  rw [hE,hO,hC,dw,pK]
  simp only [DV,aG,Nat.reduceBEq,Nat.reduceLeDiff,Nat.reduceAdd,za,zd]
  simp only [h1,d1,d2,g1,k1,k2,F2,F3,F4,F5,q1,q2,q3,fM,xA,QH,QI,aZ,bQ,aU,oJ.begun,fJ,varOf,dY,dR,fH,jy,St.setVar,St.bV,St.eP,PV.gG,Zaw,ZaU,ZaF,ZaJ,and_true,true_and,Zax,Zaf,Zas,or_false,not_false_eq_true,ZaB,ZD.injEq,Nat.reduceEqDiff,Int.reduceEq,if_true,if_false,aF,Nat.reduceMul,Nat.reduceBEq,Nat.reduceLT,Nat.reduceLeDiff,reduceCtorEq,Nat.reduceAdd,Z1]
 have F5:(n > p.ng)=True:=eq_true c5
 by_cases c6:(kH a.lin).to≤n
 rotate_left
 ·have F6:(n ≥ (kH a.lin).to)=False:=eq_false c6
  have hE:sQ p a n t=2:=by unfold sQ;rw [if_pos c0,if_pos c1,if_pos c2,if_pos c3,if_pos c4,if_pos c5,if_neg c6]
  have hO:uQ p a n t=fM:=by unfold uQ;rw [hE,if_neg (by decide)]
  have hC:uS p a n t=xA:=by unfold uS;rw [hE,if_neg (by decide)]
  rw [hE,hO,hC,dw,pK]
  simp only [DV,aG,Nat.reduceBEq,Nat.reduceLeDiff,Nat.reduceAdd,za,zd]
  simp only [h1,d1,d2,g1,k1,k2,F2,F3,F4,F5,F6,q1,q2,q3,fM,xA,QH,QI,aZ,bQ,aU,oJ.begun,fJ,varOf,dY,dR,fH,jy,St.setVar,St.bV,St.eP,PV.gG,Zaw,ZaU,ZaF,ZaJ,and_true,true_and,Zax,Zaf,Zas,or_false,not_false_eq_true,ZaB,ZD.injEq,Nat.reduceEqDiff,Int.reduceEq,if_true,if_false,aF,Nat.reduceMul,Nat.reduceBEq,Nat.reduceLT,Nat.reduceLeDiff,reduceCtorEq,Nat.reduceAdd,Z1]
 have F6:(n ≥ (kH a.lin).to)=True:=eq_true c6
 have cy:=akB (im:=a.img) (b:=p.ng) (n:=n) (t:=t) (p:=[]) (w:=Ep a) (Zd hM.1) (lZ c1).2.1 hM.2.1 hM.2.2.1 (zr hM.2.2.2.2 (by decide)) (by decide)
 rw [agz] at cy
 have W1:IntKind.i64.wrap (p.step+1)=p.step+1:=bn (by omega)
 by_cases c7:FW p.ng n t []=0
 rotate_left
 ·have k3:=YR c7
  have Z:(FW p.ng n t []=0)=False:=eq_false c7
  have hE:sQ p a n t=FW p.ng n t []:=by unfold sQ;rw [if_pos c0,if_pos c1,if_pos c2,if_pos c3,if_pos c4,if_pos c5,if_pos c6,if_neg c7]
  have hO:uQ p a n t=fM:=by unfold uQ;rw [hE,if_neg c7]
  have hC:uS p a n t=xA:=by unfold uS;rw [hE,if_neg c7]
  rw [hE,hO,hC,dw,pK]
  simp only [DV,aG,Nat.reduceBEq,Nat.reduceLeDiff,Nat.reduceAdd,za,zd]
  simp only [h1,d1,d2,g1,k1,k2,F2,F3,F4,F5,F6,mk,q1,q2,aZ,bQ,aU,oJ.begun,aF,Nat.reduceMul,Nat.reduceBEq,Nat.reduceLT,Nat.reduceLeDiff,reduceCtorEq,Nat.reduceEqDiff,Nat.reduceAdd,Z1]
  rw [agA (a:=a) (n:=n) (zr hl9 (by decide)) (by simp only [ZaQ,Zai];simp only [aG,bJ,Nat.reduceMul,Nat.reduceBEq,Nat.reduceLT,Nat.reduceLeDiff,Nat.reduceAdd,decide_true,zt,zm]<;>rfl)]
  simp only [h1,d1,d2,g1,k1,k2,F2,F3,F4,F5,F6,cy,k3,Z,mk,W1,q1,q2,q3,fM,xA,QH,QI,aZ,bQ,aU,oJ.begun,fJ,varOf,dY,dR,fH,jy,St.setVar,St.bV,St.eP,PV.gG,Zaw,ZaU,ZaF,ZaJ,and_true,true_and,Zax,Zaf,Zas,or_false,not_false_eq_true,ZaB,ZD.injEq,Nat.reduceEqDiff,Int.reduceEq,if_true,if_false,aF,Nat.reduceMul,Nat.reduceBEq,Nat.reduceLT,Nat.reduceLeDiff,reduceCtorEq,Nat.reduceAdd,Z1]
 rw [c7] at cy
 have hE:sQ p a n t=0:=by unfold sQ;rw [if_pos c0,if_pos c1,if_pos c2,if_pos c3,if_pos c4,if_pos c5,if_pos c6,if_pos c7]
 have hO:uQ p a n t={ p with step:=p.step+1,ng:=n }:=by unfold uQ;rw [hE,if_pos rfl]
 have hC:uS p a n t=⟨p.ng,n,t,[],Ep a⟩:=by unfold uS;rw [hE,if_pos rfl]
 rw [hE,hO,hC,dw,pK]
 simp only [DV,aG,Nat.reduceBEq,Nat.reduceLeDiff,Nat.reduceAdd,za,zd]
 simp only [h1,d1,d2,g1,k1,k2,F2,F3,F4,F5,F6,mk,q1,q2,aZ,bQ,aU,oJ.begun,aF,Nat.reduceMul,Nat.reduceBEq,Nat.reduceLT,Nat.reduceLeDiff,reduceCtorEq,Nat.reduceEqDiff,Nat.reduceAdd,Z1]
 rw [agA (a:=a) (n:=n) (zr hl9 (by decide)) (by simp only [ZaQ,Zai];simp only [aG,bJ,Nat.reduceMul,Nat.reduceBEq,Nat.reduceLT,Nat.reduceLeDiff,Nat.reduceAdd,decide_true,zt,zm]<;>rfl)]
 simp only [h1,d1,d2,g1,k1,k2,F2,F3,F4,F5,F6,cy,mk,W1,q1,q2,q3,fM,xA,QH,QI,aZ,bQ,aU,oJ.begun,fJ,varOf,dY,dR,fH,jy,St.setVar,St.bV,St.eP,PV.gG,Zaw,ZaU,ZaF,ZaJ,and_true,true_and,Zax,Zaf,Zas,or_false,not_false_eq_true,ZaB,ZD.injEq,Nat.reduceEqDiff,Int.reduceEq,if_true,if_false,aF,Nat.reduceMul,Nat.reduceBEq,Nat.reduceLT,Nat.reduceLeDiff,reduceCtorEq,Nat.reduceAdd,Z1]
theorem ajH {im im2:fG}{l:List fK}{site:Int}{lin:List zh}(h:wE im l=0)(hr:∀ v∈im,v.length≤4096)(hs:0≤site∧site≤1073741824)(hl:qJ lin=true)(hz:bG im2=bG im):gU ⟨site,lin,jP im l,im2⟩=0:=by
 have h0:bY im2=0:=by show vk (bG im2)=0;rw [hz];exact qX h
 obtain ⟨g1,g2⟩:=kC (a:=im2) (b:=im) hz
 unfold gU
 rw [if_neg (by show ¬ (site<0∨1073741824<site);omega),if_neg (by show ¬ qJ lin=false;rw [hl];decide),if_neg (by show ¬ bY im2≠0;rw [h0];simp),if_neg (by show ¬ (jP im l).length≠im2.length;rw [eY,g1];simp)]
 show yA (jP im l) im2=0
 refine zo fun i h1 h2=>?_
 have hi:i<im.length:=by omega
 obtain ⟨_,k2,k3,_⟩:=vI (qF h) hr i
 rw [qZ,k3,getD_lt hi,g2 i h2 hi]
 exact ⟨k2,rfl⟩
def rfP:sS:=⟨3,1,0,0,3,5,false,false⟩
section
variable {x:iT}(h:OkR x)
include h
theorem ani:wO (dF x) (iF x) 3=rfP:=by
 unfold wO
 rw [if_pos (Qz h)]
 rfl
theorem Eu {im:fG}(hz:bG im=bG x.im):Cb { dF x with img:=im }∧(∀ v∈im,v.length≤24)∧im.length≤9:=by
 obtain ⟨g1,g2⟩:=kC (a:=im) (b:=x.im) hz
 have h9:=h.im9
 have hv:∀ v∈im,v.length≤24:=fun v hv=>by
  obtain ⟨i,hi,rfl⟩:=Za9.1 hv
  rw [g2 i hi (by omega)]
  exact h.v24 _ (zR _)
 refine ⟨⟨by show 1≤lim;decide,?_,?_⟩,hv,by omega⟩
 ·show (jP x.im x.o).length≤lim
  rw [eY];unfold lim;omega
 ·show im.length≤lim
  unfold lim;omega
theorem ajI:Cb (iF x)∧(∀ v∈(iF x).img,v.length≤24)∧(iF x).img.length≤9:=by
 obtain ⟨_,h2,h3⟩:=Eu h (U9 h)
 refine ⟨⟨by show 2≤lim;decide,?_,by unfold lim;omega⟩,h2,h3⟩
 show (jP x.im x.n).length≤lim
 rw [eY];have:=h.im9;unfold lim;omega
end
def awN:List (List cZ):=[[⟨0,1⟩,⟨4,1⟩]]
theorem okN:∀ x∈awN,Au x:=by unfold awN Au okE;decide
theorem Nu (sz:List Int):∀ (l:List fK) (i:Nat),(∀ w∈l,sD sz w=0)→(mP sz l i).2=0
 |[],_,_=>rfl
 |w::l,i,h=>by
  unfold mP
  rw [if_neg (by rw [h w (by simp)];simp)]
  exact Nu sz l (i+1) fun x hx=>h x (by simp [hx])
theorem Vh (v s:Nat)(B:fE):∀ (l:List fK) (x:fE),(∀ w∈l,hit w v s=true→w.data.getD ((s:Int) - w.start).toNat Ig=B)→(x=B∨∃ w∈l,hit w v s=true)→Ei v s l x=B
 |[],x,_,h=>by
  rcases h with h|⟨w,hw,_⟩
  ·exact h
  ·cases hw
 |w::l,x,hh,h=>by
  show Ei v s l (oz v s x w)=B
  refine Vh v s B l _ (fun y hy=>hh y (by simp [hy])) ?_
  by_cases c:hit w v s=true
  ·left;unfold oz;rw [if_pos c];exact hh w (by simp) c
  ·rcases h with h|⟨y,hy,hc⟩
   ·left;unfold oz;rw [if_neg c];exact h
   ·rcases Zaf.1 hy with rfl|hy
    ·exact absurd hc c
    ·exact .inr ⟨y,hy,hc⟩
theorem anj {a:fG}{v:Nat}(hv:v<a.length):(bG a).getD v 0=((a.getD v []).length:Int):=by
 rw [getD_lt hv]
 simp only [bG,Zag,zb,ZS hv,Zah,ZbJ]
theorem ank {a b:fG}{x:List (List cZ)}(hs:aj a=aj b)(hf:CV a x=0){w:fK}(hw:w∈GH a x):sD (bG b) w=0:=by
 have hs':bG a=bG b:=hs
 obtain ⟨v,hv,e,he,rfl⟩:=C9 hw
 have hl:=CX hf
 obtain ⟨q1,q2,q3⟩:=Dc hf hv he
 have q4:=wR q1 q2 q3
 have hva:v<a.length:=by omega
 have hsz:(bG a).length=a.length:=by simp [bG]
 rw [← hs']
 unfold sD
 have e1:(Vx a v e).volume=(v:Int):=rfl
 have e2:(Vx a v e).start=e.start:=rfl
 rw [e1,e2,hsz,ZaG,anj hva]
 rw [if_neg (by omega),if_neg (by omega),if_neg (by omega)]
theorem QK {a:fG}{i v s:Nat}{e:cZ}(q1:0≤e.start)(q2:1≤e.count)(q3:e.start+e.count≤((a.getD i []).length:Int)):hit (Vx a i e) v s=true ↔ i=v∧KX e s=true:=by
 have q4:=wR q1 q2 q3
 have e1:(Vx a i e).volume=(i:Int):=rfl
 have e2:(Vx a i e).start=e.start:=rfl
 unfold hit KX
 rw [e1,e2,q4]
 simp only [ZZ,decide_eq_true_eq]
 omega
theorem ajJ {a:fG}{x:List (List cZ)}(hf:CV a x=0){v s:Nat}(hv:v<a.length)(hs:s<(a.getD v []).length)(y:fE) :
  Ei v s (GH a x) y=if mM (x.getD v []) s then qY a v s else y:=by
 have hl:=CX hf
 by_cases c:mM (x.getD v []) s=true
 ·rw [if_pos c]
  obtain ⟨e,he,hi⟩:=Y2.1 c
  refine Vh v s _ _ _ (fun w hw hh=>?_) (.inr ⟨Vx a v e,?_,?_⟩)
  ·obtain ⟨i,hi',e',he',rfl⟩:=C9 hw
   obtain ⟨q1,q2,q3⟩:=Dc hf hi' he'
   obtain ⟨rfl,h2⟩:=(QK q1 q2 q3).1 hh
   simp only [KX,ZZ,decide_eq_true_eq] at h2
   have q4:=wR q1 q2 q3
   have e2:(Vx a i e').start=e'.start:=rfl
   have e3:(Vx a i e').data=((a.getD i []).drop e'.start.toNat).take e'.count.toNat:=rfl
   have hk:((s:Int) - e'.start).toNat<(((a.getD i []).drop e'.start.toNat).take e'.count.toNat).length:=by rw [Zac,Zbe];omega
   unfold qY
   rw [e2,e3,getD_lt hk,getD_lt hs,Zcv,List.getElem_drop]
   congr 1;omega
  ·unfold GH FV
   exact Zd4.2 ⟨v,ZaS.2 (by omega),ZaY.2 ⟨e,he,rfl⟩⟩
  ·obtain ⟨q1,q2,q3⟩:=Dc hf (show v<x.length by omega) he
   exact (QK q1 q2 q3).2 ⟨rfl,hi⟩
 ·rw [if_neg c]
  refine Ej v s _ _ fun w hw hh=>c ?_
  obtain ⟨i,hi',e',he',rfl⟩:=C9 hw
  obtain ⟨q1,q2,q3⟩:=Dc hf hi' he'
  obtain ⟨rfl,h2⟩:=(QK q1 q2 q3).1 hh
  exact Y2.2 ⟨e',he',h2⟩
theorem akF {a b:fG}{x:List (List cZ)}(hs:aj a=aj b)(hf:CV a x=0)(h0:bY b=0) :
  wE b (GH a x)=0∧bG (qj b (GH a x))=bG a∧∀ v s,v<a.length→s<(a.getD v []).length→qY (qj b (GH a x)) v s=if mM (x.getD v []) s then qY a v s else qY b v s:=by
 have h0':vk (bG b)=0:=h0
 have hs':bG b=bG a:=hs.symm
 have hE:=Nu (bG b) (GH a x) 0 fun w hw=>ank hs hf hw
 have he:wE b (GH a x)=0:=by unfold wE;rw [if_neg (by rw [h0'];simp)];exact hE
 have hO:qj b (GH a x)=(GH a x).foldl FD b:=by unfold qj;rw [if_pos he]
 refine ⟨he,(rJ he).trans hs',fun v s hv hsv=>?_⟩
 obtain ⟨g1,g2⟩:=gV hs' v
 rw [hO,JI (GH a x) b 0 hE (show v<b.length by omega) (by omega)]
 exact ajJ hf hv hsv _
theorem anl {p q:fG}(h:bG p=bG q)(hg:∀ v s,v<p.length→s<(p.getD v []).length→qY p v s=qY q v s):p=q:=by
 obtain ⟨y1,y2⟩:=kC (a:=p) (b:=q) h
 apply ZbD y1
 intro v h1 h2
 apply ZbD (y2 v h1 h2)
 intro s h3 h4
 have:=hg v s h1 (by rw [getD_lt h1];exact h3)
 unfold qY at this
 rw [getD_lt h1,getD_lt h3,getD_lt h2,getD_lt h4] at this
 exact this
def Hits (a b:fG)(l:List (List cZ)):Prop:=∀ v s,v<a.length→s<(a.getD v []).length→qY a v s≠qY b v s→mM (l.getD v []) s=true
theorem anm {a b:fG}{l:List (List cZ)}(hs:aj a=aj b)(hf:CV a l=0)(h0:bY b=0):qj b (GH a l)=a ↔ Hits a b l:=by
 obtain ⟨h1,h2,h3⟩:=akF hs hf h0
 constructor
 ·intro e v s hv hsv hd
  have:=h3 v s hv hsv
  rw [e] at this
  by_cases c:mM (l.getD v []) s=true
  ·exact c
  ·rw [if_neg c] at this;exact absurd this hd
 ·intro hh
  refine (anl h2.symm fun v s hv hsv=>?_).symm
  rw [h3 v s hv hsv]
  by_cases c:mM (l.getD v []) s=true
  ·rw [if_pos c]
  ·rw [if_neg c]
   exact Classical.byContradiction fun hd=>c (hh v s hv hsv hd)
theorem agB {α:Type}(g:α→Int)(d:α)(l:List α):(l.map g).sum=((Zar l.length).map fun i=>g (l.getD i d)).sum:=by
 congr 1
 apply ZbD (by simp)
 intro i h1 h2
 simp only [Z2] at h1
 simp only [ZbM,List.getElem_range]
 rw [getD_lt h1]
theorem Ew {f g:Nat→Int}{l:List Nat}(h:∀ i∈l,f i=g i):(l.map f).sum=(l.map g).sum:=by rw [List.map_congr_left h]
theorem Vj {a:fG}{v:Nat}:∀ {x:List cZ},(∀ e∈x,0≤e.start∧1≤e.count∧e.start+e.count≤((a.getD v []).length:Int))→jr (QD a v x)=jB x
 |[],_=>rfl
 |e::x,h=>by
  have ih:=Vj (x:=x) fun y hy=>h y (by simp [hy])
  obtain ⟨q1,q2,q3⟩:=h e (by simp)
  have q4:=wR q1 q2 q3
  simp only [jr,QD,jB,Zaj,List.sum_cons] at ih ⊢
  omega
theorem Vk (l m:List fK):jr (l++m)=jr l+jr m:=by simp [jr]
theorem Zi {a:fG}{x:List (List cZ)}(hf:CV a x=0):∀ n,n≤x.length→jr (FV a x n)=((Zar n).map fun v=>jB (x.getD v [])).sum
 |0,_=>rfl
 |n+1,h=>by
  rw [yK,Vk,Zi hf n (by omega),ZbG,ZaK,List.sum_append,Vj fun e he=>Dc hf (by omega) he]
  simp
theorem ano {a:fG}{b:Pt}(hb:gU b=0)(ha:bY a=0)(hs:aj b.img=aj a)(hv:∀ v∈b.img,v.length≤4096)(hm:∀ (v s:Nat) (hv:v<b.dirty.length),s<(b.img.getD v []).length→qY b.img v s≠qY a v s→bit b.dirty[v].ws s=true):wE a (Ep b)=0∧qj a (Ep b)=b.img:=by
 obtain ⟨_,_,h3,_⟩:=lZ hb
 have hf:=JW hb hv
 obtain ⟨g1,-,-⟩:=akF hs hf ha
 refine ⟨g1,(anm hs hf ha).2 fun v s hv1 hs1 hd=>?_⟩
 have hvd:v<b.dirty.length:=by omega
 have e1:(Nr b).getD v []=bmX b.dirty[v]:=by rw [getD_lt (by rw [pJ];exact hvd),JV hvd]
 have e2:b.img.getD v []=b.img[v]:=getD_lt hv1
 have:=hm v s hvd hs1 hd
 rw [e2] at hs1
 rw [e1,GI hb hvd hv1,CW,decide_eq_true hs1,zm]
 exact this
theorem anp {im:fG}{D:List Bm}(h0:bY im=0)(hl:D.length=im.length)(hd:∀ i (h1:i<D.length) (h2:i<im.length),okB D[i]=true∧D[i].size=(im[i].length:Int)):gU ⟨1,[⟨1,1,5⟩,⟨2,6,9⟩],D,im⟩=0:=by
 unfold gU
 rw [if_neg (by show ¬ ((1:Int)<0∨1073741824<(1:Int));decide),if_neg (by show ¬ qJ [⟨1,1,5⟩,⟨2,6,9⟩]=false;decide),if_neg (by show ¬ bY im≠0;rw [h0];simp),if_neg (by show ¬ D.length≠im.length;omega)]
 exact zo hd
def jO (k:Nat):sS:=⟨3,1,0,(k:Int),3,if k=0 then 5 else 9+(k:Int),false,false⟩
theorem agC {k:Nat}(hk:k≤1000):jZ (jO k)=0:=by
 unfold jZ
 have hc:0≤(jO k).ng∧(jO k).ng≤1073741824:=by unfold jO;simp only;split<;>omega
 rw [if_pos (show (jO k).kind=3 from rfl),if_pos (show gK (jO k).uj=true from (by decide:gK 1=true)),if_pos (show gK (jO k).to=true from (by decide:gK 0=true)),if_pos (show (jO k).uj≠(jO k).to from (by decide:(1:Int)≠0)),if_pos (show 0≤(jO k).step from (by omega:(0:Int)≤(k:Int))),if_pos (show (jO k).step≤4096 from (by omega:(k:Int)≤4096)),if_pos (show 1≤(jO k).ep from (by decide:(1:Int)≤3)),if_pos (show (jO k).ep≤1073741824 from (by decide:(3:Int)≤1073741824)),if_pos hc.1,if_pos hc.2,if_pos (show (jO k).failed=false from rfl),if_neg (show ¬ (jO k).done=true from Bool.false_ne_true)]
theorem Yb {k:Nat}(hk:k≤1000){b:Pt}(hb:gU b=0)(hs:b.site=1)(hl:b.lin=[⟨1,1,5⟩,⟨2,6,9⟩]):sQ (jO k) b (10+(k:Int)) (k:Int)=0:=by
 unfold sQ
 have hc:FW (jO k).ng (10+(k:Int)) (k:Int) []=0:=by
  unfold FW jO
  rw [if_neg (by simp only;split<;>omega),if_neg (by omega)]
  rfl
 rw [if_pos (agC hk),if_pos hb,if_pos (by rw [hs];rfl),if_pos (show (jO k).done=false from rfl),if_pos (by show (k:Int)<4096;omega),if_pos (by unfold jO;simp only;split<;>omega),if_pos (by rw [hl];show (9:Int)≤_;omega),if_pos hc]
theorem ajK {k:Nat}(hk:k≤1000){b:Pt}(hb:gU b=0)(hs:b.site=1)(hl:b.lin=[⟨1,1,5⟩,⟨2,6,9⟩]):uQ (jO k) b (10+(k:Int)) (k:Int)=jO (k+1)∧uS (jO k) b (10+(k:Int)) (k:Int)=⟨(jO k).ng,10+(k:Int),(k:Int),[],Ep b⟩:=by
 unfold uQ uS
 rw [if_pos (Yb hk hb hs hl),if_pos (Yb hk hb hs hl)]
 refine ⟨?_,rfl⟩
 unfold jO
 simp only [sS.mk.injEq,true_and,and_true]
 rw [if_neg (by omega)]
 constructor<;>omega
structure OkQ (x:iT):Prop where
 r:OkR x
 n8:x.rs.length≤8
 er:∀ l∈x.rs,wE x.im l=0
 lr:∀ l∈x.rs,l.length≤40
theorem anq {x:iT}(ho:okO x)(h:U8 x=true):OkQ x:=by
 refine ⟨am3 ho h,?_,fun l hl=>?_,fun l hl=>?_⟩<;>unfold U8 Ld at h<;>simp only [ZZ,decide_eq_true_eq,Zaw] at h
 ·exact h.2.1
 ·have:=zE.1 h.2.2.2.2 l hl
  simp only [ZZ,decide_eq_true_eq] at this
  exact this.1
 ·have:=zE.1 h.2.2.2.2 l hl
  simp only [ZZ,decide_eq_true_eq] at this
  exact (Eo this.2).1
def oG (x:iT):Nat→fG
 |0=>(iF x).img
 |i+1=>qj (oG x i) (x.rs.getD i [])
def zL (x:iT):Nat→List fK
 |0=>x.o++x.n
 |i+1=>x.rs.getD i []
def xB (x:iT)(i:Nat):List Bm:=jP x.im (zL x i)
def Yc (x:iT):Nat→fG
 |0=>(dF x).img
 |i+1=>oG x i
def rC (x:iT)(i:Nat):Pt:=⟨1,[⟨1,1,5⟩,⟨2,6,9⟩],xB x i,oG x i⟩
theorem J4 {a b:fG}{l:List fK}(h:bG a=bG b):wE a l=wE b l:=by unfold wE;rw [h]
section
variable {x:iT}(h:OkQ x)
include h
theorem Zj {i:Nat}(hi:i<x.rs.length):wE x.im (x.rs.getD i [])=0:=by
 rw [Zag,ZS hi]
 exact h.er _ (zR hi)
theorem qw:∀ i,i≤x.rs.length→bG (oG x i)=bG x.im
 |0,_=>U9 h.r
 |i+1,hi=>by
  have ih:=qw i (by omega)
  show bG (qj (oG x i) _)=_
  rw [rJ (by rw [J4 ih];exact Zj h hi),ih]
theorem QL:∀ i,i≤x.rs.length→bG (Yc x i)=bG x.im
 |0,_=>Fb h.r
 |i+1,hi=>qw h i (by omega)
theorem Yd {i:Nat}(hi:i≤x.rs.length):(oG x i).length=x.im.length:=(gV (qw h i hi) 0).2
theorem AB {i:Nat}(hi:i≤x.rs.length):qp x.im (zL x i):=by
 cases i with
 |zero=>exact X5 h.r
 |succ i=>exact qF (Zj h (by omega))
theorem Ye {i:Nat}(hi:i≤x.rs.length):bY (oG x i)=0∧bY (Yc x i)=0:=by
 have h0:=qX h.r.eo
 constructor
 ·show vk (bG (oG x i))=0
  rw [qw h i hi];exact h0
 ·show vk (bG (Yc x i))=0
  rw [QL h i hi];exact h0
theorem J5 {i:Nat}(hi:i≤x.rs.length):gU (rC x i)=0:=by
 refine anp (Ye h hi).1 (by unfold xB;rw [eY,Yd h hi]) fun v h1 h2=>?_
 have hl:=(gV (qw h i hi) v).1
 obtain ⟨_,k2,k3,_⟩:=vI (AB h hi) (lT h.r) v
 have e:(xB x i)[v]=mB x.im (zL x i) v:=qZ (im:=x.im) (l:=zL x i) h1
 rw [e,k3,← hl,getD_lt h2]
 exact ⟨k2,rfl⟩
theorem anr {i:Nat}(hi:i≤x.rs.length){v s:Nat}(hv:v<x.im.length)(hs:s<(x.im.getD v []).length)(hd:qY (oG x i) v s≠qY (Yc x i) v s):mM (o9 v (zL x i)) s=true:=by
 cases c:mM (o9 v (zL x i)) s with
 |true=>rfl
 |false =>
  exfalso
  cases i with
  |zero =>
   have c:mM (o9 v (x.o++x.n)) s=false:=c
   rw [Qy] at c
   unfold mM at c
   rw [Zdq,ZcP] at c
   exact hd ((yJ h.r.en hv hs c.2).trans (yJ h.r.eo hv hs c.1).symm)
  |succ i =>
   have hz:=qw h i (by omega)
   obtain ⟨g1,g2⟩:=gV hz v
   exact hd (yJ (by rw [J4 hz];exact Zj h (by omega)) (by omega) (by rw [g1];exact hs) c)
theorem agD {i:Nat}(hi:i≤x.rs.length):wE (Yc x i) (Ep (rC x i))=0∧qj (Yc x i) (Ep (rC x i))=oG x i:=by
 have hz:=qw h i hi
 have hl:=Yd h hi
 refine ano (J5 h hi) (Ye h hi).2 (hz.trans (QL h i hi).symm) (fun v hv=>?_) fun v s hv hs hd=>?_
 ·obtain ⟨j,hj,rfl⟩:=Za9.1 hv
  have hj:j<(oG x i).length:=hj
  have g:=(gV hz j).1
  have e:(oG x i).getD j []=(oG x i)[j]:=getD_lt hj
  have:=oD (lT h.r) j
  show (oG x i)[j].length≤4096
  rw [← e,g];exact this
 ·have hvl:v<x.im.length:=by
   have:v<(jP x.im (zL x i)).length:=hv
   rwa [eY] at this
  have g:=(gV hz v).1
  have hs':s<(x.im.getD v []).length:=by rw [← g];exact hs
  obtain ⟨_,_,_,k4⟩:=vI (AB h hi) (lT h.r) v
  have e:(rC x i).dirty[v]=mB x.im (zL x i) v:=qZ (im:=x.im) (l:=zL x i) hv
  rw [e,k4 s hs']
  exact anr h hi hvl hs' hd
end
def ones (n:Nat)(x:Nat):Nat:=((Zar n).filter fun i=>x.testBit i).length
def oA (s m x:Nat):Nat:=(x >>> s &&& m)+(x &&& m)
def oC (m x:Nat):Nat:=((x >>> 4)+x) &&& m
def oT (m0 m1 m2 x:Nat):Nat:=oC m2 (oA 2 m1 (oA 1 m0 x))
theorem agE (x:Nat):x &&& 15=(x % 16) &&& 15:=by
 apply ZcU;intro j
 rw [ZbX,ZbX,show (16:Nat)=2 ^ 4 from rfl,Zdl]
 by_cases h:j<4
 ·rw [decide_eq_true h,zm]
 ·have:(15:Nat).testBit j=false:=ZcB (Zae (by decide:15<2 ^ 4) (Zb3 (by decide) (by omega)))
  rw [this,Zbi,Zbi]
theorem QM {a b m c:Nat}(hb:b<256)(hc:c<256):(256*a+b) &&& (256*m+c)=256*(a &&& m)+(b &&& c):=by
 have h8:(256:Nat)=2 ^ 8:=rfl
 rw [h8] at hb hc ⊢
 apply ZcU;intro j
 rw [ZbX,Zba _ hb,Zba _ hc,Zba _ (ZdR Nat.and_le_left hb)]
 split<;>rw [ZbX]
theorem Zk {a b m c s:Nat}(hb:b<256)(hs:s≤8)(hc:c<2 ^ (8 - s)):(256*a+b) >>> s &&& (256*m+c)=256*(a >>> s &&& m)+(b >>> s &&& c):=by
 have h8:(256:Nat)=2 ^ 8:=rfl
 have hc8:c<2 ^ 8:=Zae hc (Zb3 (by decide) (by omega))
 rw [h8] at hb ⊢
 apply ZcU;intro j
 rw [ZbX,ZbQ,Zba _ hb,Zba _ hc8,Zba _ (ZdR Nat.and_le_right hc8)]
 by_cases h:j<8
 ·rw [if_pos h,if_pos h,ZbX,ZbQ]
  by_cases h2:s+j<8
  ·rw [if_pos h2]
  ·have:c.testBit j=false:=ZcB (Zae hc (Zb3 (by decide) (by omega)))
   rw [this,Zbi,Zbi]
 ·rw [if_neg h,if_neg h,ZbX,ZbQ,if_neg (by omega),show s+j - 8=s+(j - 8) by omega]
def oc8:Bool:=(Zar 256).all fun b=>decide (oA 1 85 b<256)&&(decide (oA 2 51 (oA 1 85 b)≤68)&&(decide (oA 2 51 (oA 1 85 b) % 16≤4)&&(oT 85 51 15 b==ones 8 b)))
theorem ant:oc8=true:=by kernel_rfl
theorem ap4 {b:Nat}(h:b<256):oA 1 85 b<256∧oA 2 51 (oA 1 85 b)≤68∧oA 2 51 (oA 1 85 b) % 16≤4∧oT 85 51 15 b=ones 8 b:=by
 have:=zE.1 ant b (ZaS.2 h)
 simpa only [ZZ,decide_eq_true_eq,beq_iff_eq] using this
theorem Yf {m0 m1 m2 a b:Nat}(hb:b<256)(ha:oA 2 m1 (oA 1 m0 a) % 16≤4) :
  oT (256*m0+85) (256*m1+51) (256*m2+15) (256*a+b)=256*oT m0 m1 m2 a+ones 8 b∧oA 2 (256*m1+51) (oA 1 (256*m0+85) (256*a+b)) % 16≤4:=by
 obtain ⟨k1,k2,k3,k4⟩:=ap4 hb
 have e1:oA 1 (256*m0+85) (256*a+b)=256*oA 1 m0 a+oA 1 85 b:=by
  unfold oA
  rw [Zk hb (by decide) (by decide),QM hb (by decide)]
  omega
 have e2:oA 2 (256*m1+51) (256*oA 1 m0 a+oA 1 85 b)=256*oA 2 m1 (oA 1 m0 a)+oA 2 51 (oA 1 85 b):=by
  generalize oA 1 m0 a=A
  generalize oA 1 85 b=B at k1
  unfold oA
  rw [Zk k1 (by decide) (by decide),QM k1 (by decide)]
  omega
 unfold oT at k4 ⊢
 rw [e1,e2]
 generalize oA 2 m1 (oA 1 m0 a)=A at ha ⊢
 generalize oA 2 51 (oA 1 85 b)=B at k2 k3 k4
 refine ⟨?_,by omega⟩
 rw [← k4]
 unfold oC
 have e3:(256*A+B) >>> 4+(256*A+B)=256*(A >>> 4+A)+(16*(A % 16)+(B >>> 4+B)):=by
  simp only [Za0]
  omega
 have hB:B >>> 4≤4:=by simp only [Za0];omega
 rw [e3,QM (by omega) (by decide),agE (16*_+_),agE (B >>> 4+B)]
 congr 2
 omega
theorem J6 (n k x:Nat):ones (n+k) x=ones n x+ones k (x >>> n):=by
 unfold ones
 rw [List.range_add,Zbg,Zaa,List.filter_map,Z2]
 congr 2
 apply Zbo
 intro i _
 show x.testBit (n+i)=_
 rw [ZbQ]
theorem Vl (k x:Nat):ones k x=ones k (x % 2 ^ k):=by
 unfold ones
 congr 1
 apply Zbo
 intro i hi
 rw [Zdl,decide_eq_true (ZaS.1 hi),zm]
theorem Dh (k x:Nat):ones k x≤k:=by
 unfold ones
 have:=ZcK (fun i=>x.testBit i) (Zar k)
 rwa [Zcb] at this
theorem ap5 {x:Nat}(h:x<16777216):oT 6148914691236517205 3689348814741910323 1085102592571150095 x=65536*ones 8 (x / 65536)+256*ones 8 (x / 256 % 256)+ones 8 (x % 256):=by
 have z0:oA 2 219902325555 (oA 1 366503875925 0) % 16≤4:=by decide
 have zT:oT 366503875925 219902325555 64677154575 0=0:=by decide
 have s1:=Yf (m0:=366503875925) (m1:=219902325555) (m2:=64677154575) (a:=0) (b:=x / 65536) (by omega) z0
 have s2:=Yf (m0:=256*366503875925+85) (m1:=256*219902325555+51) (m2:=256*64677154575+15) (a:=256*0+x / 65536) (b:=x / 256 % 256) (by omega) s1.2
 have s3:=Yf (m0:=256*(256*366503875925+85)+85) (m1:=256*(256*219902325555+51)+51) (m2:=256*(256*64677154575+15)+15) (a:=256*(256*0+x / 65536)+x / 256 % 256) (b:=x % 256) (by omega) s2.2
 rw [zT] at s1
 rw [show 256*(256*(256*0+x / 65536)+x / 256 % 256)+x % 256=x by omega] at s3
 have s3:=s3.1
 rw [s2.1,s1.1] at s3
 rw [show 6148914691236517205=256*(256*(256*366503875925+85)+85)+85 from rfl,show 3689348814741910323=256*(256*(256*219902325555+51)+51)+51 from rfl,show 1085102592571150095=256*(256*(256*64677154575+15)+15)+15 from rfl,s3]
 omega
theorem ajL {x:Nat}(h:x<16777216):ones 24 x=ones 8 (x / 65536)+ones 8 (x / 256 % 256)+ones 8 (x % 256):=by
 rw [show 24=8+(8+8) from rfl,J6,J6,Vl 8 x,Vl 8 (x >>> 8),← Nat.shiftRight_add]
 simp only [Za0,Nat.reducePow,Nat.reduceAdd]
 omega
theorem anu {p q r:Nat}(hp:p≤8)(hq:q≤8)(hr:r≤8){y4 y5 y6:Nat}(h4:y4=(65536*p+256*q+r)+(65536*p+256*q+r) / 256)(h5:y5=y4+y4 / 65536)(h6:y6=y5+y5 / 4294967296):y6<1000000∧y6 % 128=p+q+r:=by
 have e1:(65536*p+256*q+r) / 256=256*p+q:=by omega
 rw [e1] at h4
 have e2:y4 / 65536=p:=by omega
 rw [e2] at h5
 have e3:y5 / 4294967296=0:=by omega
 omega
end Go.Proofs.YtioijcfcehhmdaaGreatDoor.V
