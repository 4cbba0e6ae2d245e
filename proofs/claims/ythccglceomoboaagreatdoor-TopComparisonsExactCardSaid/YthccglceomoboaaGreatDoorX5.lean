/-
  Part 5 of the texts that the statement stands on.
-/
import Derived.Test.YthccglceomoboaaGreatDoorX4
import Derived.Lib.TrailingZeros
import Derived.Test.YthccglceomoboaaGreatDoorProg
import Derived.Shelf.SlSortCmp.WholeK
import Derived.Shelf.SlSortCmp.NoneTotal
import Derived.Shelf.SlicesG.Cmp
import Derived.Shelf.Small.Bits
import Derived.Ground.SlsfProg
import Derived.Ground.SlgcProg
import Derived.Ground.NamesProg
set_option linter.all false
open And renaming intro → Zs
open List renaming getElem?_eq_getElem → ZD, length_map → Z3, getElem?_eq_some_iff → zb, getElem?_map → zc, length_cons → zd, length_nil → zj, drop_eq_getElem_cons → zr, all_eq_true → zt, length_append → zE, getD_eq_getElem?_getD → zR, length_take → Zaa, map_append → Zag, eq_nil_of_length_eq_zero → Zah, map_cons → Zai, range → Zam, getElem_mem → Zap, mem_singleton → Zaq, map_nil → Zar, take_length → Zas, append_assoc → Zav, mem_append → ZaE, drop_length → ZaG, take_of_length_le → ZaH, append_nil → ZaI, mem_cons → ZaK, length_drop → ZaL, mem_map → ZaS, drop_zero → ZaT, mem_range → Zbc, nil_append → Zbd, range_succ → Zbe, cons_append → Zbi, cons → Zbo, getElem_of_mem → Zbs, ext_getElem → ZbF, filter_append → ZbJ, getElem_range → ZbK, take_add_one → ZbL, foldl_append → ZbM, eq_nil_or_concat → ZbO, take → Zb4, getElem_map → Zch, concat_eq_append → Zcj, drop → Zcz, zip_cons_cons → ZcB, map_drop → ZcD, getElem_append_right → ZcI, getElem_append_left → ZcN, all_cons → Zdf, map_take → Zdg, flatMap_append → Zdk, flatMap_cons → Zds
open Bool renaming and_eq_true → ZZ, false_eq_true → zm, true_and → zz, and_self → zP, false_and → Za8, and_false → Zbm, not_false → Zbt, not_true → Zbx
open Nat renaming beq → Z6, le_refl → ze, zero_add → Zaj, add_assoc → Za0, mul_one → Zcd, not_lt_zero → ZcU
open Option renaming map_some → Zae, map_eq_some_iff → Zao, bind_some → ZaY
open Int renaming lt_irrefl → Zat, toNat_natCast → Zay, toNat_of_nonneg → Zbf, tdiv_eq_ediv_of_nonneg → Zbg, le_refl → ZbS, toNat → Zcy, ediv_le_self → Zdw
open BitVec renaming ofInt → Zbb
open Function renaming comp_def → Zbz
namespace Go.Proofs.YthccglceomoboaaGreatDoor
noncomputable def iter (env:Env)(f:Nat)(caps:List PV)(stop:Option Nat):Option (List (List PV)):=jR (den env) env f caps stop
def vZ (n:Nat)(caps:List PV)(stop:Option Nat):St:=⟨.lV::(caps.map .pv++List.replicate (n - (caps.length+1)) .any),[],[],some stop⟩
def akc:Ex×St→Option (List (List PV))
 |(.exit _,_)=>none
 |(.oL _ _,_)=>none
 |(_,st)=>some st.ys
section
variable {env:Env}
theorem QD (st:St):akc (.normal,st)=some st.ys:=(rfl)
theorem adx (st:St):akc (.ret,st)=some st.ys:=(rfl)
theorem nK {f:Nat}{fn:dP}{caps:List PV}{stop:Option Nat}(h:env f=some (.code fn))(hl:caps.length+1=fn.nargs)(hr:fn.results.isEmpty=true):iter env f caps stop=(den env fn.body (vZ fn.ntmps caps stop)).bind akc:=by
 unfold iter jR
 rw [h]
 simp only [if_pos (Zs hl hr)]
 show (den env fn.body _).bind _=_
 congr 1
 funext ⟨e,st⟩
 cases e<;>rfl
noncomputable def Bc (env:Env)(slots:List AV)(ps:List Nat)(assign body:aj)(nb:Nat)(x:List PV)(st:St):Option (Ex×St) :=
 (fP slots ps x).bind fun sl=>(den env assign { st with slots:=sl }).bind fun p=>match p with
  |(.normal,st)=>(den env body st).bind fun p=>match p with
   |(.normal,st)=>if nb≤st.boxes.length then some (.normal,{ st with boxes:=st.boxes.take nb }) else none
   |(.oL _ _,_)=>none
   |p=>some p
  |_=>none
theorem QE {slots:List AV}{ps:List Nat}{assign body:aj}{nb k:Nat}{x:List PV}{xs:List (List PV)}{st:St} :
  rounds (den env) slots ps assign body nb k (x::xs) st=(Bc env slots ps assign body nb x st).bind fun p=>match p with
   |(.normal,st)=>rounds (den env) slots ps assign body nb (k+1) xs st
   |(e,st)=>some (some (e,k+1),st):=by
 conv=>lhs;unfold rounds
 unfold Bc
 show (fP slots ps x).bind _=_
 cases fP slots ps x with
 |none=>rfl
 |some sl =>
  simp only [ZaY]
  show (den env assign _).bind _=_
  cases den env assign { st with slots:=sl } with
  |none=>rfl
  |some p =>
   obtain ⟨e,s⟩:=p
   simp only [ZaY]
   cases e with
   |normal =>
    simp only
    show (den env body _).bind _=_
    cases den env body s with
    |none=>rfl
    |some p =>
     obtain ⟨e,s⟩:=p
     simp only [ZaY]
     cases e with
     |normal =>
      simp only
      split<;>rfl
     |exit i=>rfl
     |ret=>rfl
     |oL t n=>rfl
   |exit i=>rfl
   |ret=>rfl
   |oL t n=>rfl
theorem agM {g:bK}{ps:List Nat}{assign body:aj}{st st1:St}{f:Nat}{caps:List PV}{xs:List (List PV)}(hg:st.bW g=some (.func f caps))(hi:iter env f caps none=some xs)
  (hr:rounds (den env) (st.slots.map AV.froze) ps assign body st.boxes.length 0 xs { st with slots:=st.slots.map AV.froze }=some (none,st1)):den env (.rng g ps assign body) st=some (.normal,{ st1 with slots:=st.slots.map AV.froze }):=by
 rw [lD]
 show ranged (den env) env g ps assign body st=_
 unfold ranged
 rw [hg]
 unfold iter at hi
 simp only [JB,ZaY,hi,hr]
theorem uz (B:Nat→List Box){g:bK}{ps:List Nat}{assign body:aj}{st:St}{f:Nat}{caps:List PV}{xs:List (List PV)}(hg:st.bW g=some (.func f caps))(hi:iter env f caps none=some xs)(hB:st.boxes=B 0)
  (h:∀ j x,xs[j]?=some x→∀ sl0,∃ sl1,Bc env (st.slots.map AV.froze) ps assign body st.boxes.length x ⟨sl0,B j,st.ys,st.stop⟩=some (.normal,⟨sl1,B (j+1),st.ys,st.stop⟩)) :
  den env (.rng g ps assign body) st=some (.normal,⟨st.slots.map AV.froze,B xs.length,st.ys,st.stop⟩):=by
 have key:∀ (l:List (List PV)) (j:Nat),xs.drop j=l→∀ (k:Nat) (sl0:List AV),∃ sl1,rounds (den env) (st.slots.map AV.froze) ps assign body st.boxes.length k l ⟨sl0,B j,st.ys,st.stop⟩=some (none,⟨sl1,B (j+l.length),st.ys,st.stop⟩):=by
  intro l
  induction l with
  |nil=>intro j _ k sl0;exact ⟨sl0,rfl⟩
  |cons x l ih =>
   intro j hj k sl0
   have hx:xs[j]?=some x:=by rw [← List.head?_drop,hj];rfl
   have hd:xs.drop (j+1)=l:=by rw [← List.drop_drop,hj];rfl
   obtain ⟨sl1,q⟩:=h j x hx sl0
   obtain ⟨sl2,q2⟩:=ih (j+1) hd (k+1) sl1
   refine ⟨sl2,?_⟩
   rw [QE,q]
   simp only [ZaY,q2,zd]
   rw [show j+1+l.length=j+(l.length+1) by omega]
 obtain ⟨sl1,q⟩:=key xs 0 (by simp) 0 (st.slots.map AV.froze)
 rw [← hB,Zaj] at q
 have r:=agM hg hi q
 exact r
noncomputable def V7 (env:Env)(body:aj)(nb:Nat):Ex×St→Option (Ex×St)
 |(.normal,st)=>(den env body st).bind fun p=>match p with
  |(.normal,st)=>if nb≤st.boxes.length then some (.normal,{ st with boxes:=st.boxes.take nb }) else none
  |(.oL _ _,_)=>none
  |p=>some p
 |_=>none
def rend (nb:Nat):Ex×St→Option (Ex×St)
 |(.normal,st)=>if nb≤st.boxes.length then some (.normal,{ st with boxes:=st.boxes.take nb }) else none
 |(.oL _ _,_)=>none
 |p=>some p
theorem YU (slots:List AV)(ps:List Nat)(assign body:aj)(nb:Nat)(x:List PV)(st:St):Bc env slots ps assign body nb x st=(fP slots ps x).bind fun sl=>(den env assign { st with slots:=sl }).bind (V7 env body nb):=by
 unfold Bc
 rfl
theorem GX (body:aj)(nb:Nat)(st:St):V7 env body nb (.normal,st)=(den env body st).bind (rend nb):=by
 rfl
theorem QF (nb:Nat)(st:St):rend nb (.normal,st)=if nb≤st.boxes.length then some (.normal,{ st with boxes:=st.boxes.take nb }) else none:=(rfl)
theorem YV (nb i:Nat)(st:St):rend nb (.exit i,st)=some (.exit i,st):=(rfl)
theorem ady (nb:Nat)(st:St):rend nb (.ret,st)=some (.ret,st):=(rfl)
theorem adz (slots:List AV):fP slots [] []=some slots:=(rfl)
theorem YW (slots:List AV)(p:Nat)(ps:List Nat)(v:PV)(vs:List PV):fP slots (p::ps) (v::vs)=fP (slots.set p (.pv v)) ps vs:=(rfl)
theorem adA (v:PV):AV.froze (.pv v)=.pv v:=(rfl)
theorem YX (sz:Nat)(es:List PV):AV.froze (.row sz es)=.pv (.list sz es):=(rfl)
theorem YZ:AV.froze .any=.any:=(rfl)
theorem Y0 (k:Bool)(l:List AV):AV.froze (.kE k l)=.any:=(rfl)
theorem Y1 (r:Root)(i j:Nat):AV.froze (.ref r i j)=.any:=(rfl)
theorem Y2 (r:Root)(i j:Nat):AV.froze (.oz r i j)=.any:=(rfl)
theorem UW (i j:Nat):AV.froze (.aO i j)=.aO i j:=(rfl)
theorem adB (f:Nat)(l:List AV):AV.froze (.fn f l)=.fn f l:=(rfl)
theorem Y3:AV.froze .lV=.lV:=(rfl)
end
def xJ:=Zs @YU (Zs @GX (Zs @QF (Zs @YV (Zs @ady (Zs @adz (Zs @YW (Zs @adA (Zs @YX (Zs @YZ (Zs @Y0 (Zs @Y1 (Zs @Y2 (Zs @UW (Zs @adB (Zs @Y3 (Zs @QD @adx))))))))))))))))
end Go.Proofs.YthccglceomoboaaGreatDoor
namespace Go.Proofs.YthccglceomoboaaGreatDoor.V
def hstep (h b:Int):Int:=IntKind.u64.wrap (IntKind.u64.wrap ((Zbb IntKind.u64.bits h ^^^ Zbb IntKind.u64.bits (IntKind.u64.wrap b)).toNat:Int)*1099511628211)
def hfin (h:Int):Int:=IntKind.u64.wrap ((Zbb IntKind.u64.bits h ^^^ Zbb IntKind.u64.bits (h.fdiv (2 ^ (min (Zcy 32) IntKind.u64.bits)))).toNat:Int)
def hfold (l:List Int):Int:=l.foldl hstep 14695981039346656037
def hash (l:List Int):Int:=hfin (hfold l)
theorem GY (l:List Int)(b:Int):hfold (l++[b])=hstep (hfold l) b:=by simp [hfold]
def yB (l:List Int):List (List PV):=l.map fun b=>[PV.int .u8 b]
def jG (b:Int):PV:=.int .u8 b
def rV (x:cZ):List Int:=x.toList.map fun b=>(b.toNat:Int)
def iV (l:List cZ):List Int:=l.flatMap rV
theorem wo (x:cZ):(rV x).length=8:=by simp [rV]
theorem GZ (x:cZ):je x=(rV x).map jG:=by simp [je,rV,jG]
theorem take_snoc {α:Type}{l:List α}{i:Nat}(h:i<l.length):l.take (i+1)=l.take i++[l[i]]:=by
 rw [ZbL,ZD h];rfl
theorem adC {gf:Nat}{caps:List PV}{bs:List Int}(hi:iter env gf caps none=some (yB bs)):cal env 185 [.func gf caps]=some [(.int .u64 (hash bs),false)]:=by
 rw [aA ajp rfl];simp only [PL];simp only [start,aN,aU,aJ,aT,aF,aH,aK,aP,Nat.reduceAdd,Nat.reduceSub]
 simp only [bJ,reduceCtorEq,Nat.reduceEqDiff,Nat.reduceAdd,Nat.reduceLT,Nat.reduceLeDiff,Z6]
 rw [uz (env:=env) (fun j=>[⟨false,[.pv (.int .u64 (hfold (bs.take j)))]⟩]) (xs:=yB bs) rfl hi rfl ?_]
 ·have e:bs.take (yB bs).length=bs:=by simp [yB]
  have h32:((32:Int)<0)=False:=eq_false (by omega)
  simp only [e,h32,hash,hfin,xJ,bJ,reduceCtorEq,Nat.reduceEqDiff,Nat.reduceAdd,Nat.reduceLT,Nat.reduceLeDiff,Z6]
 ·intro j x hx sl0
  simp only [yB,zc,Zao] at hx
  obtain ⟨b,hb,rfl⟩:=hx
  obtain ⟨hj,rfl⟩:=zb.1 hb
  refine ⟨?_,?_⟩
  rotate_left
  ·simp only [take_snoc hj,GY,PI,PK,hstep,xJ,bJ,reduceCtorEq,Nat.reduceEqDiff,Nat.reduceAdd,Nat.reduceLT,Nat.reduceLeDiff,Z6]
   rfl
theorem agN {bs:List Int}(hl:bs.length≤lim):iter env 270 [.cu [.list 1 (bs.map jG)] 0] none=some (yB bs):=by
 have loop:∀ {st:St} (h:st.head [0,5,6,7] st.boxes.length=some ⟨[.lV,.any,.any,.any,.any,.pv (.list 1 (bs.map jG)),.pv (.int .i64 bs.length),.pv (.int .i64 (0:Nat)),.any,.any,.any,.any,.any,.any,.any,.any],[],yB (bs.take 0),some none⟩),
   den env GK st=some (.normal,⟨[.any,.any,.any,.any,.any,.any,.any,.any,.any,.any,.any,.any,.any,.any,.any,.any],[],yB bs,some none⟩):=by
  intro st h
  unfold GK
  refine aY (env:=env) bs.length (fun i=>⟨[.lV,.any,.any,.any,.any,.pv (.list 1 (bs.map jG)),.pv (.int .i64 bs.length),.pv (.int .i64 i),.any,.any,.any,.any,.any,.any,.any,.any],[],yB (bs.take i),some none⟩) (fun _=>some (.normal,⟨[.any,.any,.any,.any,.any,.any,.any,.any,.any,.any,.any,.any,.any,.any,.any,.any],[],yB bs,some none⟩)) h (fun _=>rfl) (fun _=>rfl) ?_ ?_
  ·intro i rb hi ih
   have hi1:=bC hi hl
   have F1:((i:Int)<(bs.length:Int))=True:=eq_true (by omega)
   simp only [GI,F1,jG,au hi,zc,ZD hi,Zae,bJ,reduceCtorEq,Nat.reduceEqDiff,Nat.reduceAdd,Nat.reduceLT,Nat.reduceLeDiff,Z6]
   rw [ih _ (by simp only [hi1];rw [take_snoc hi];simp only [yB,Zag];rfl)]
  ·intro rb
   simp only [GI,Zat,bJ,reduceCtorEq,Nat.reduceEqDiff,Nat.reduceAdd,Nat.reduceLT,Nat.reduceLeDiff,Z6]
   rfl
 rw [nK ajW rfl rfl]
 simp only [QA,vZ,aN,aU,aJ,aT,aF,aH,aK,aP,Nat.reduceAdd,Nat.reduceSub]
 simp only [bJ,reduceCtorEq,Nat.reduceEqDiff,Nat.reduceAdd,Nat.reduceLT,Nat.reduceLeDiff,Z6]
 rw [loop]
 rotate_left
 ·rfl
 ·rfl
theorem akd {bs:List Int}(hl:bs.length≤lim):cal env 248 [.list 1 (bs.map jG)]=some [(.int .u64 (hash bs),false)]:=by
 have e1:=adC (agN hl)
 rw [aA ajN rfl];simp only [Qo];simp only [start,aN,aU,aJ,aT,aF,aH,aK,aP,Nat.reduceAdd,Nat.reduceSub]
 simp only [e1,bJ,reduceCtorEq,Nat.reduceEqDiff,Nat.reduceAdd,Nat.reduceLT,Nat.reduceLeDiff,Z6]
theorem adD {s:cZ}{Y:List Int}{A B C:PV}{bx:Box}
  {st:St} (h:st.head [0,7,8,9,13,14] st.boxes.length=some ⟨[.lV,.any,.any,.any,.any,.any,.any,.pv A,.pv B,.pv C,.any,.any,.any,.pv (.agg (je s)),.pv (.int .i64 (0:Nat)),.any,.any,.any,.any,.any,.any,.any,.any],[bx],yB Y,some none⟩) :
  den env Fg st=some (.normal,⟨[.lV,.any,.any,.any,.any,.any,.any,.pv A,.pv B,.pv C,.any,.any,.any,.any,.any,.any,.any,.any,.any,.any,.any,.any,.any],[bx],yB (Y++rV s),some none⟩):=by
 unfold Fg
 refine aY (env:=env) 8 (fun i=>⟨[.lV,.any,.any,.any,.any,.any,.any,.pv A,.pv B,.pv C,.any,.any,.any,.pv (.agg (je s)),.pv (.int .i64 i),.any,.any,.any,.any,.any,.any,.any,.any],[bx],yB Y++yB ((rV s).take i),some none⟩) (fun _=>some (.normal,⟨[.lV,.any,.any,.any,.any,.any,.any,.pv A,.pv B,.pv C,.any,.any,.any,.any,.any,.any,.any,.any,.any,.any,.any,.any,.any],[bx],yB (Y++rV s),some none⟩)) (by rw [h];simp [yB]) (fun _=>rfl) (fun i=>rfl) ?_ ?_
 ·intro i rb hi ih
  have hi1:=bC (n:=8) hi (by decide)
  have F1:((i:Int)<8)=True:=eq_true (by omega)
  have hi8:i<(rV s).length:=by rw [wo];exact hi
  have F2:part (je s) i none=some (.int .u8 (rV s)[i]):=by
   simp only [part,GZ,zc,ZD hi8];rfl
  simp only [Fe,F1,F2,au hi,Zcd,bJ,reduceCtorEq,Nat.reduceEqDiff,Nat.reduceAdd,Nat.reduceLT,Nat.reduceLeDiff,Z6]
  rw [ih _ (by simp only [hi1];rw [take_snoc hi8];simp only [yB,Zag,← Zav];rfl)]
 ·intro rb
  have F1:(((8:Nat):Int)<8)=False:=eq_false (by omega)
  have e8:(rV s).take 8=rV s:=ZaH (by rw [wo];exact ze _)
  simp only [Fe,F1,e8,bJ,reduceCtorEq,Nat.reduceEqDiff,Nat.reduceAdd,Nat.reduceLT,Nat.reduceLeDiff,Z6]
  simp only [yB,← Zag]
  rfl
theorem G5 {l:List cZ}{i:Nat}(h:i<l.length):iV (l.take (i+1))=iV (l.take i)++rV l[i]:=by
 rw [take_snoc h];simp only [iV,Zdk,Zds,List.flatMap_nil,ZaI]
theorem agO {l:List cZ}(hl:l.length≤lim):iter env 186 [.cu [.list 8 (l.map bH)] 0] none=some (yB (iV l)):=by
 have loop:∀ {st:St} (h:st.head [0,7,8,9] st.boxes.length=some ⟨[.lV,.any,.any,.any,.any,.any,.any,.pv (.list 8 (l.map bH)),.pv (.int .i64 l.length),.pv (.int .i64 (0:Nat)),.any,.any,.any,.any,.any,.any,.any,.any,.any,.any,.any,.any,.any],[],yB (iV (l.take 0)),some none⟩),
   den env Fj st=some (.normal,⟨[.any,.any,.any,.any,.any,.any,.any,.any,.any,.any,.any,.any,.any,.any,.any,.any,.any,.any,.any,.any,.any,.any,.any],[],yB (iV l),some none⟩):=by
  intro st h
  unfold Fj
  refine aY (env:=env) l.length (fun i=>⟨[.lV,.any,.any,.any,.any,.any,.any,.pv (.list 8 (l.map bH)),.pv (.int .i64 l.length),.pv (.int .i64 i),.any,.any,.any,.any,.any,.any,.any,.any,.any,.any,.any,.any,.any],[],yB (iV (l.take i)),some none⟩) (fun _=>some (.normal,⟨[.any,.any,.any,.any,.any,.any,.any,.any,.any,.any,.any,.any,.any,.any,.any,.any,.any,.any,.any,.any,.any,.any,.any],[],yB (iV l),some none⟩)) h (fun _=>rfl) (fun _=>rfl) ?_ ?_
  ·intro i rb hi ih
   have hi1:=bC hi hl
   have F1:((i:Int)<(l.length:Int))=True:=eq_true (by omega)
   simp only [Fh,F1,bH,au hi,zc,ZD hi,Zae,sO,fV,bJ,reduceCtorEq,Nat.reduceEqDiff,Nat.reduceAdd,Nat.reduceLT,Nat.reduceLeDiff,Z6]
   rw [adD (s:=l[i]) (Y:=iV (l.take i)) (A:=.list 8 (l.map bH)) (B:=.int .i64 l.length) (C:=.int .i64 i)]
   rotate_left
   ·rfl
   ·simp only [bJ,reduceCtorEq,Nat.reduceEqDiff,Nat.reduceAdd,Nat.reduceLT,Nat.reduceLeDiff,Z6]
    rw [ih _ (by simp only [hi1];rw [G5 hi];rfl)]
  ·intro rb
   simp only [Fh,Zat,Zas,bJ,reduceCtorEq,Nat.reduceEqDiff,Nat.reduceAdd,Nat.reduceLT,Nat.reduceLeDiff,Z6]
   rfl
 rw [nK ajq rfl rfl]
 simp only [PN,vZ,aN,aU,aJ,aT,aF,aH,aK,aP,Nat.reduceAdd,Nat.reduceSub]
 simp only [bJ,reduceCtorEq,Nat.reduceEqDiff,Nat.reduceAdd,Nat.reduceLT,Nat.reduceLeDiff,Z6]
 rw [loop]
 rotate_left
 ·rfl
 ·rfl
theorem amT {l:List cZ}(hl:l.length≤lim):cal env 93 [.list 8 (l.map bH)]=some [(.int .u64 (hash (iV l)),false)]:=by
 have e1:=adC (agO hl)
 rw [aA amK rfl];simp only [ab4];simp only [start,aN,aU,aJ,aT,aF,aH,aK,aP,Nat.reduceAdd,Nat.reduceSub]
 simp only [e1,bJ,reduceCtorEq,Nat.reduceEqDiff,Nat.reduceAdd,Nat.reduceLT,Nat.reduceLeDiff,Z6]
theorem agP {bs:List Int}(hl:bs.length≤lim){st:St}(h:st.head [0,3,4] st.boxes.length=some ⟨[.pv (.list 1 (bs.map jG)),.any,.any,.pv (.int .u64 (hfold (bs.take (0:Nat)))),.pv (.int .i64 (0:Nat)),.any,.any,.any,.any,.any,.any,.any,.any,.any,.any,.any,.any,.any,.any,.any,.any,.any,.any],[],[],none⟩) :
  den env Gl st=some (.normal,⟨[.any,.any,.any,.pv (.int .u64 (hfold bs)),.any,.any,.any,.any,.any,.any,.any,.any,.any,.any,.any,.any,.any,.any,.any,.any,.any,.any,.any],[],[],none⟩):=by
 unfold Gl
 refine aY (env:=env) (bs.length) (fun i=>⟨[.pv (.list 1 (bs.map jG)),.any,.any,.pv (.int .u64 (hfold (bs.take i))),.pv (.int .i64 i),.any,.any,.any,.any,.any,.any,.any,.any,.any,.any,.any,.any,.any,.any,.any,.any,.any,.any],[],[],none⟩) (fun i=>some (.normal,⟨[.any,.any,.any,.pv (.int .u64 (hfold bs)),.any,.any,.any,.any,.any,.any,.any,.any,.any,.any,.any,.any,.any,.any,.any,.any,.any,.any,.any],[],[],none⟩)) h (fun _=>rfl) (fun _=>rfl) ?_ ?_
 ·intro i rb hi ih
  have hi1:=bC hi hl
  have F1:((i:Int)<(bs.length:Int))=True:=eq_true (by omega)
  simp only [Gj,F1,jG,au hi,zc,ZD hi,Zae,bJ,reduceCtorEq,Nat.reduceEqDiff,Nat.reduceAdd,Nat.reduceLT,Nat.reduceLeDiff,Z6]
  rw [ih _ (by simp only [hi1];rw [take_snoc hi,GY,hstep];rfl)]
 ·intro rb
  simp only [Gj,Zat,Zas,bJ,reduceCtorEq,Nat.reduceEqDiff,Nat.reduceAdd,Nat.reduceLT,Nat.reduceLeDiff,Z6]
  rfl
theorem adE {bs:List Int}(hl:bs.length≤lim):cal env 249 [.list 1 (bs.map jG)]=some [(.int .u64 (hash bs),false)]:=by
 have h32:((32:Int)<0)=False:=eq_false (by omega)
 rw [aA ajO rfl];simp only [Qp];simp only [start,aN,aU,aJ,aT,aF,aH,aK,aP,Nat.reduceAdd,Nat.reduceSub]
 simp only [bJ,reduceCtorEq,Nat.reduceEqDiff,Nat.reduceAdd,Nat.reduceLT,Nat.reduceLeDiff,Z6]
 rw [agP hl]
 rotate_left
 ·rfl
 ·simp only [h32,hash,hfin,bJ,reduceCtorEq,Nat.reduceEqDiff,Nat.reduceAdd,Nat.reduceLT,Nat.reduceLeDiff,Z6]
theorem adF {l:List cZ}{i:Nat}{out:List Int}(hi0:i<l.length)(ho:out.length+8≤lim)
  {st:St} (h:st.head [0,3,4,5,24] st.boxes.length=some ⟨[.pv (.list 8 (l.map bH)),.any,.any,.row 1 (out.map jG),.pv (.int .i64 (i:Int)),.pv (.int .i64 (0:Nat)),.any,.any,.any,.any,.any,.any,.any,.any,.any,.any,.any,.any,.any,.any,.any,.any,.any,.any,.any,.any],[],[],none⟩) :
  den env Gn st=some (.normal,⟨[.pv (.list 8 (l.map bH)),.any,.any,.row 1 ((out++rV l[i]).map jG),.pv (.int .i64 (i:Int)),.any,.any,.any,.any,.any,.any,.any,.any,.any,.any,.any,.any,.any,.any,.any,.any,.any,.any,.any,.any,.any],[],[],none⟩):=by
 unfold Gn
 refine aY (env:=env) 8 (fun k=>⟨[.pv (.list 8 (l.map bH)),.any,.any,.row 1 (out.map jG++((rV l[i]).take k).map jG),.pv (.int .i64 (i:Int)),.pv (.int .i64 k),.any,.any,.any,.any,.any,.any,.any,.any,.any,.any,.any,.any,.any,.any,.any,.any,.any,.any,.any,.any],[],[],none⟩) (fun _=>some (.normal,⟨[.pv (.list 8 (l.map bH)),.any,.any,.row 1 ((out++rV l[i]).map jG),.pv (.int .i64 (i:Int)),.any,.any,.any,.any,.any,.any,.any,.any,.any,.any,.any,.any,.any,.any,.any,.any,.any,.any,.any,.any,.any],[],[],none⟩)) (by rw [h];simp) (fun _=>rfl) (fun _=>rfl) ?_ ?_
 ·intro k rb hi ih
  have hi1:=bC (n:=8) hi (by decide)
  have F1:((k:Int)<8)=True:=eq_true (by omega)
  have hi8:k<(rV l[i]).length:=by rw [wo];exact hi
  have F2:part (je l[i]) k none=some (.int .u8 (rV l[i])[k]):=by
   simp only [part,GZ,zc,ZD hi8];rfl
  have F3:((out.map jG++((rV l[i]).take k).map jG).length+1≤lim)=True:=eq_true (by simp;omega)
  simp only [Gm,F1,F2,F3,bH,au hi,au hi0,zc,ZD hi0,Zae,Zcd,Zaj,bJ,reduceCtorEq,Nat.reduceEqDiff,Nat.reduceAdd,Nat.reduceLT,Nat.reduceLeDiff,Z6]
  rw [ih _ (by simp only [hi1];rw [take_snoc hi8];simp only [Zag,← Zav];rfl)]
 ·intro rb
  have F1:(((8:Nat):Int)<8)=False:=eq_false (by omega)
  have e8:(rV l[i]).take 8=rV l[i]:=ZaH (by rw [wo];exact ze _)
  simp only [Gm,F1,e8,bJ,reduceCtorEq,Nat.reduceEqDiff,Nat.reduceAdd,Nat.reduceLT,Nat.reduceLeDiff,Z6]
  rw [Zag]
  rfl
theorem JI (l:List cZ):(iV l).length=8*l.length:=by
 induction l with
 |nil=>rfl
 |cons x l ih=>simp only [iV,Zds,zE,wo,zd] at *;omega
theorem Y4 {l:List cZ}(hl:8*l.length≤lim){st:St}(h:st.head [0,3,4,24] st.boxes.length=some ⟨[.pv (.list 8 (l.map bH)),.any,.any,.row 1 ((iV (l.take (0:Nat))).map jG),.pv (.int .i64 (0:Nat)),.any,.any,.any,.any,.any,.any,.any,.any,.any,.any,.any,.any,.any,.any,.any,.any,.any,.any,.any,.any,.any],[],[],none⟩) :
  den env Gq st=some (.normal,⟨[.any,.any,.any,.row 1 ((iV l).map jG),.any,.any,.any,.any,.any,.any,.any,.any,.any,.any,.any,.any,.any,.any,.any,.any,.any,.any,.any,.any,.any,.any],[],[],none⟩):=by
 unfold Gq
 refine aY (env:=env) (l.length) (fun i=>⟨[.pv (.list 8 (l.map bH)),.any,.any,.row 1 ((iV (l.take i)).map jG),.pv (.int .i64 i),.any,.any,.any,.any,.any,.any,.any,.any,.any,.any,.any,.any,.any,.any,.any,.any,.any,.any,.any,.any,.any],[],[],none⟩) (fun i=>some (.normal,⟨[.any,.any,.any,.row 1 ((iV l).map jG),.any,.any,.any,.any,.any,.any,.any,.any,.any,.any,.any,.any,.any,.any,.any,.any,.any,.any,.any,.any,.any,.any],[],[],none⟩)) h (fun _=>rfl) (fun _=>rfl) ?_ ?_
 ·intro i rb hi ih
  have hi1:=bC hi (by omega)
  have F1:((i:Int)<(l.length:Int))=True:=eq_true (by omega)
  simp only [Gp,F1,bJ,reduceCtorEq,Nat.reduceEqDiff,Nat.reduceAdd,Nat.reduceLT,Nat.reduceLeDiff,Z6]
  rw [adF hi (out:=iV (l.take i)) (by rw [JI,Zaa];omega)]
  rotate_left
  ·rfl
  ·simp only [bJ,reduceCtorEq,Nat.reduceEqDiff,Nat.reduceAdd,Nat.reduceLT,Nat.reduceLeDiff,Z6]
   rw [ih _ (by simp only [hi1];rw [G5 hi];rfl)]
 ·intro rb
  simp only [Gp,Zat,Zas,bJ,reduceCtorEq,Nat.reduceEqDiff,Nat.reduceAdd,Nat.reduceLT,Nat.reduceLeDiff,Z6]
  rfl
theorem ake {l:List cZ}(hl:8*l.length≤lim):cal env 250 [.list 8 (l.map bH)]=some [(.list 1 ((iV l).map jG),true)]:=by
 rw [aA ajP rfl];simp only [Qq];simp only [start,aN,aU,aJ,aT,aF,aH,aK,aP,Nat.reduceAdd,Nat.reduceSub]
 simp only [bJ,reduceCtorEq,Nat.reduceEqDiff,Nat.reduceAdd,Nat.reduceLT,Nat.reduceLeDiff,Z6]
 rw [Y4 hl]
 rotate_left
 ·rfl
 ·simp only [bJ,reduceCtorEq,Nat.reduceEqDiff,Nat.reduceAdd,Nat.reduceLT,Nat.reduceLeDiff,Z6]
theorem akf {l:List cZ}(hl:8*l.length≤lim):cal env 204 [.list 8 (l.map bH)]=some [(.int .u64 (hash (iV l)),false)]:=by
 have e1:=ake hl
 have e2:=adE (bs:=iV l) (by rw [JI];exact hl)
 rw [aA ajA rfl];simp only [P7];simp only [start,aN,aU,aJ,aT,aF,aH,aK,aP,Nat.reduceAdd,Nat.reduceSub]
 simp only [e1,e2,bJ,reduceCtorEq,Nat.reduceEqDiff,Nat.reduceAdd,Nat.reduceLT,Nat.reduceLeDiff,Z6]
def byteOf (a:Int)(k:Nat):Int:=IntKind.u8.wrap (a.fdiv (2 ^ (min (Zcy (8*(k:Int))) IntKind.u64.bits)))
def lT (a b:Int):List Int:=(Zam 8).map (byteOf a)++(Zam 8).map (byteOf b)
theorem yF {α:Type}(f:Nat→α)(i:Nat):(Zam (i+1)).map f=(Zam i).map f++[f i]:=by simp [Zbe]
theorem Y5 (a b:Int):(lT a b).map jG=(Zam 8).map (fun k=>jG (byteOf a k))++(Zam 8).map (fun k=>jG (byteOf b k)):=by
 simp [lT,Zag,Zbz]
theorem agQ {a b:Int}{st:St}(h:st.head [0,1,5,6,19,31] st.boxes.length=some ⟨[.pv (.int .u64 a),.pv (.int .u64 b),.any,.any,.any,.row 1 ((Zam (0:Nat)).map (fun k=>jG (byteOf a k))),.pv (.int .i64 (0:Nat)),.any,.any,.any,.any,.any,.any,.any,.any,.any,.any,.any,.any,.any,.any,.any,.any,.any,.any,.any,.any,.any,.any,.any,.any,.any,.any,.any],[],[],none⟩) :
  den env GN st=some (.normal,⟨[.any,.pv (.int .u64 b),.any,.any,.any,.row 1 ((Zam 8).map (fun k=>jG (byteOf a k))),.any,.any,.any,.any,.any,.any,.any,.any,.any,.any,.any,.any,.any,.any,.any,.any,.any,.any,.any,.any,.any,.any,.any,.any,.any,.any,.any,.any],[],[],none⟩):=by
 unfold GN
 refine aY (env:=env) (8) (fun i=>⟨[.pv (.int .u64 a),.pv (.int .u64 b),.any,.any,.any,.row 1 ((Zam i).map (fun k=>jG (byteOf a k))),.pv (.int .i64 i),.any,.any,.any,.any,.any,.any,.any,.any,.any,.any,.any,.any,.any,.any,.any,.any,.any,.any,.any,.any,.any,.any,.any,.any,.any,.any,.any],[],[],none⟩) (fun i=>some (.normal,⟨[.any,.pv (.int .u64 b),.any,.any,.any,.row 1 ((Zam 8).map (fun k=>jG (byteOf a k))),.any,.any,.any,.any,.any,.any,.any,.any,.any,.any,.any,.any,.any,.any,.any,.any,.any,.any,.any,.any,.any,.any,.any,.any,.any,.any,.any,.any],[],[],none⟩)) h (fun _=>rfl) (fun _=>rfl) ?_ ?_
 ·intro i rb hi ih
  have hi1:=bC (n:=8) hi (by decide)
  have F1:((i:Int)<8)=True:=eq_true (by omega)
  have F2:IntKind.i64.wrap (8*(i:Int))=8*(i:Int):=aI (by omega)
  have F3:(8*(i:Int)<0)=False:=eq_false (by omega)
  have F4:((Zam i).length+1≤lim)=True:=eq_true (by simp [lim];omega)
  simp only [GL,F1,F2,F3,F4,bJ,reduceCtorEq,Nat.reduceEqDiff,Nat.reduceAdd,Nat.reduceLT,Nat.reduceLeDiff,Z6]
  rw [ih _ (by simp only [hi1];rw [yF (fun k=>jG (byteOf a k)) i];rfl)]
 ·intro rb
  have F1:(((8:Nat):Int)<8)=False:=eq_false (by omega)
  simp only [GL,F1,bJ,reduceCtorEq,Nat.reduceEqDiff,Nat.reduceAdd,Nat.reduceLT,Nat.reduceLeDiff,Z6]
  rfl
theorem Y6 {a b:Int}{st:St}(h:st.head [1,5,7,19,31] st.boxes.length=some ⟨[.any,.pv (.int .u64 b),.any,.any,.any,.row 1 ((Zam 8).map (fun k=>jG (byteOf a k))++(Zam (0:Nat)).map (fun k=>jG (byteOf b k))),.any,.pv (.int .i64 (0:Nat)),.any,.any,.any,.any,.any,.any,.any,.any,.any,.any,.any,.any,.any,.any,.any,.any,.any,.any,.any,.any,.any,.any,.any,.any,.any,.any],[],[],none⟩) :
  den env GU st=some (.normal,⟨[.any,.any,.any,.any,.any,.row 1 ((lT a b).map jG),.any,.any,.any,.any,.any,.any,.any,.any,.any,.any,.any,.any,.any,.any,.any,.any,.any,.any,.any,.any,.any,.any,.any,.any,.any,.any,.any,.any],[],[],none⟩):=by
 unfold GU
 refine aY (env:=env) (8) (fun i=>⟨[.any,.pv (.int .u64 b),.any,.any,.any,.row 1 ((Zam 8).map (fun k=>jG (byteOf a k))++(Zam i).map (fun k=>jG (byteOf b k))),.any,.pv (.int .i64 i),.any,.any,.any,.any,.any,.any,.any,.any,.any,.any,.any,.any,.any,.any,.any,.any,.any,.any,.any,.any,.any,.any,.any,.any,.any,.any],[],[],none⟩) (fun i=>some (.normal,⟨[.any,.any,.any,.any,.any,.row 1 ((lT a b).map jG),.any,.any,.any,.any,.any,.any,.any,.any,.any,.any,.any,.any,.any,.any,.any,.any,.any,.any,.any,.any,.any,.any,.any,.any,.any,.any,.any,.any],[],[],none⟩)) h (fun _=>rfl) (fun _=>rfl) ?_ ?_
 ·intro i rb hi ih
  have hi1:=bC (n:=8) hi (by decide)
  have F1:((i:Int)<8)=True:=eq_true (by omega)
  have F2:IntKind.i64.wrap (8*(i:Int))=8*(i:Int):=aI (by omega)
  have F3:(8*(i:Int)<0)=False:=eq_false (by omega)
  have F4:(((Zam 8).map (fun k=>jG (byteOf a k))++(Zam i).map (fun k=>jG (byteOf b k))).length+1≤lim)=True:=eq_true (by simp [lim];omega)
  simp only [GR,F1,F2,F3,F4,bJ,reduceCtorEq,Nat.reduceEqDiff,Nat.reduceAdd,Nat.reduceLT,Nat.reduceLeDiff,Z6]
  rw [ih _ (by simp only [hi1];rw [yF (fun k=>jG (byteOf b k)) i,← Zav];rfl)]
 ·intro rb
  have F1:(((8:Nat):Int)<8)=False:=eq_false (by omega)
  simp only [GR,F1,bJ,reduceCtorEq,Nat.reduceEqDiff,Nat.reduceAdd,Nat.reduceLT,Nat.reduceLeDiff,Z6]
  rw [Y5]
  rfl
theorem Bd (a b:Int):(lT a b).length=16:=by simp [lT]
theorem akg {a b:Int}:cal env 271 [.int .u64 a,.int .u64 b]=some [(.int .u64 (hash (lT a b)),false)]:=by
 have e1:=adE (bs:=lT a b) (by rw [Bd];decide)
 rw [aA ajX rfl];simp only [QB];simp only [start,aN,aU,aJ,aT,aF,aH,aK,aP,Nat.reduceAdd,Nat.reduceSub]
 simp only [e1,bJ,reduceCtorEq,Nat.reduceEqDiff,Nat.reduceAdd,Nat.reduceLT,Nat.reduceLeDiff,Z6]
 rw [agQ]
 rotate_left
 ·rfl
 ·simp only [e1,bJ,reduceCtorEq,Nat.reduceEqDiff,Nat.reduceAdd,Nat.reduceLT,Nat.reduceLeDiff,Z6]
  rw [Y6 (a:=a)]
  rotate_left
  ·rfl
  ·simp only [e1,bJ,reduceCtorEq,Nat.reduceEqDiff,Nat.reduceAdd,Nat.reduceLT,Nat.reduceLeDiff,Z6]
def rC (a b:Int)(i:Nat):List Int:=(Zam 8).map (fun k=>if k<i then byteOf a k else 0)++(Zam 8).map (fun k=>if k<i then byteOf b k else 0)
theorem Y7 (a b:Int)(i:Nat):(rC a b i).length=16:=by simp [rC]
theorem agR (a b:Int):rC a b 8=lT a b:=rfl
def II (l:List Int):List BV:=l.map fun n=>BV.pv (.int .u8 n)
theorem UY (a b:Int){i:Nat}(h:i<8):Zb4 (8+i) (Zb4 i (II (rC a b i))++[BV.pv (.int .u8 (byteOf a i))]++Zcz (i+1) (II (rC a b i)))++[BV.pv (.int .u8 (byteOf b i))]++Zcz (8+i+1) (Zb4 i (II (rC a b i))++[BV.pv (.int .u8 (byteOf a i))]++Zcz (i+1) (II (rC a b i)))=II (rC a b (i+1)):=by
 have:i=0∨i=1∨i=2∨i=3∨i=4∨i=5∨i=6∨i=7:=by omega
 rcases this with rfl|rfl|rfl|rfl|rfl|rfl|rfl|rfl<;>rfl
theorem agS {a b:Int}{st:St}(h:st.head [0,1,5,7] st.boxes.length=some ⟨[.pv (.int .u64 a),.pv (.int .u64 b),.any,.any,.any,.aO 0 0,.any,.pv (.int .i64 (0:Nat)),.any,.any,.any,.any,.any,.any,.any,.any,.any,.any,.any,.any,.any,.any,.any,.any,.any,.any,.any,.any],[⟨false,II (rC a b 0)⟩],[],none⟩) :
  den env Fv st=some (.normal,⟨[.any,.any,.any,.any,.any,.aO 0 0,.any,.any,.any,.any,.any,.any,.any,.any,.any,.any,.any,.any,.any,.any,.any,.any,.any,.any,.any,.any,.any,.any],[⟨false,II (lT a b)⟩],[],none⟩):=by
 unfold Fv
 refine aY (env:=env) 8 (fun i=>⟨[.pv (.int .u64 a),.pv (.int .u64 b),.any,.any,.any,.aO 0 0,.any,.pv (.int .i64 i),.any,.any,.any,.any,.any,.any,.any,.any,.any,.any,.any,.any,.any,.any,.any,.any,.any,.any,.any,.any],[⟨false,II (rC a b i)⟩],[],none⟩) (fun _=>some (.normal,⟨[.any,.any,.any,.any,.any,.aO 0 0,.any,.any,.any,.any,.any,.any,.any,.any,.any,.any,.any,.any,.any,.any,.any,.any,.any,.any,.any,.any,.any,.any],[⟨false,II (lT a b)⟩],[],none⟩)) h (fun _=>rfl) (fun _=>rfl) ?_ ?_
 ·intro i rb hi ih
  have hi1:=bC (n:=8) hi (by decide)
  have F1:((i:Int)<8)=True:=eq_true (by omega)
  have F2:IntKind.i64.wrap (8*(i:Int))=8*(i:Int):=aI (by omega)
  have F3:(8*(i:Int)<0)=False:=eq_false (by omega)
  have F4:IntKind.i64.wrap (8+(i:Int))=((8+i:Nat):Int):=by rw [aI (by omega)];omega
  have F5:index (.int .i64 (i:Int)) 16=some i:=au (by omega)
  have F6:index (.int .i64 ((8+i:Nat):Int)) 16=some (8+i):=au (by omega)
  have hl:(II (rC a b i)).length=16:=by simp [II,Y7]
  have F7:(i+1≤(II (rC a b i)).length)=True:=eq_true (by omega)
  have F8:(8+i+1≤(Zb4 i (II (rC a b i))++[BV.pv (.int .u8 (byteOf a i))]++Zcz (i+1) (II (rC a b i))).length)=True:=eq_true (by simp [hl];omega)
  have F9:=UY a b hi
  simp only [byteOf] at F8 F9
  simp only [Fq,F1,F2,F3,F4,F5,F6,F7,F8,F9,Zcd,Zaj,bJ,reduceCtorEq,Nat.reduceEqDiff,Nat.reduceAdd,Nat.reduceLT,Nat.reduceLeDiff,Z6]
  rw [ih _ (by simp only [hi1];rfl)]
 ·intro rb
  have F1:(((8:Nat):Int)<8)=False:=eq_false (by omega)
  simp only [Fq,F1,agR,bJ,reduceCtorEq,Nat.reduceEqDiff,Nat.reduceAdd,Nat.reduceLT,Nat.reduceLeDiff,Z6]
  rfl
theorem akh {a b:Int}:cal env 188 [.int .u64 a,.int .u64 b]=some [(.int .u64 (hash (lT a b)),false)]:=by
 have e1:=akd (bs:=lT a b) (by rw [Bd];decide)
 have e2:(II (lT a b)).map BV.val=(lT a b).map jG:=by simp [II,jG,BV.val]
 have e3:(II (lT a b)).map BV.frozen=II (lT a b):=by simp [II,BV.frozen]
 have e4:((lT a b).map jG).all PV.single=true:=by simp [jG,PV.single]
 have e5:(II (lT a b)).length=16:=by simp [II,Bd]
 have e6:(16≤lim)=True:=eq_true (by decide)
 rw [aA ajs rfl];simp only [PS];simp only [start,aN,aU,aJ,aT,aF,aH,aK,aP,Nat.reduceAdd,Nat.reduceSub]
 simp only [e1,e2,e3,e4,e5,e6,bJ,reduceCtorEq,Nat.reduceEqDiff,Nat.reduceAdd,Nat.reduceLT,Nat.reduceLeDiff,Z6]
 rw [agS (a:=a) (b:=b)]
 rotate_left
 ·rfl
 ·simp only [e1,e2,e3,e4,e5,e6,bJ,reduceCtorEq,Nat.reduceEqDiff,Nat.reduceAdd,Nat.reduceLT,Nat.reduceLeDiff,Z6]
def jr (out:List bP)(i:Nat):List bP:=match out.getLast? with
 |some x=>if x.start+x.count=(i:Int) then out.dropLast++[⟨x.start,x.count+1⟩] else out++[⟨i,1⟩]
 |none=>[⟨i,1⟩]
def exts (l:List Nat):List bP:=l.foldl jr []
theorem fC (pre:List bP)(x:bP)(i:Nat):jr (pre++[x]) i=if x.start+x.count=(i:Int) then pre++[⟨x.start,x.count+1⟩] else pre++[x]++[⟨i,1⟩]:=by
 simp [jr]
theorem JJ (l:List Nat)(i:Nat):exts (l++[i])=jr (exts l) i:=by simp [exts]
theorem fD {α:Type}(l:List α):l=[]∨∃ p x,l=p++[x]:=by
 rcases ZbO l with h|⟨p,x,h⟩
 ·exact .inl h
 ·exact .inr ⟨p,x,by rw [h];simp⟩
theorem Y8:∀ (n:Nat) (l:List Nat),l.length=n→∀ i:Nat,∃ pre x,exts (l++[i])=pre++[x]∧x.start+x.count=(i:Int)+1∧0≤x.start∧1≤x.count∧pre.length≤l.length:=by
 intro n
 induction n with
 |zero =>
  intro l hl i
  have:=Zah hl
  subst this
  exact ⟨[],⟨i,1⟩,rfl,rfl,by simp,by simp,by simp⟩
 |succ n ih =>
  intro l hl i
  rcases fD l with rfl|⟨p,j,rfl⟩
  ·simp at hl
  ·obtain ⟨pre,x,e,h1,h2,h3,h4⟩:=ih p (by simpa using hl) j
   rw [JJ,e,fC]
   split
   ·rename_i hx
    exact ⟨pre,_,rfl,by simp;omega,h2,by simp;omega,by simp;omega⟩
   ·exact ⟨pre++[x],_,rfl,by simp,by simp,by simp,by simp;omega⟩
def ext (p:Nat→Bool)(n:Nat):List bP:=exts ((Zam n).filter p)
theorem QG (p:Nat→Bool):ext p 0=[]:=rfl
theorem iI (p:Nat→Bool)(n:Nat):ext p (n+1)=if p n then jr (ext p n) n else ext p n:=by
 unfold ext
 rw [Zbe,ZbJ]
 cases h:p n
 ·simp [h]
 ·rw [List.filter_cons_of_pos h,List.filter_nil,JJ];rfl
theorem agT {p:Nat→Bool}{n:Nat}(h:n=0∨p (n - 1)=false):jr (ext p n) n=ext p n++[⟨(n:Int),1⟩]:=by
 unfold ext
 rcases fD ((Zam n).filter p) with h0|⟨l,j,h0⟩
 ·rw [h0];rfl
 ·obtain ⟨pre,⟨s,c⟩,e0,h1,h2,h3,h4⟩:=Y8 _ l rfl j
  have hmem:j∈(Zam n).filter p:=by rw [h0];simp
  obtain ⟨q1,q2⟩:=List.mem_filter.1 hmem
  have hj:=Zbc.1 q1
  simp only at h1
  rw [h0,e0,fC,if_neg]
  intro hh
  simp only at hh
  have:j=n - 1:=by omega
  rcases h with h|h
  ·omega
  ·rw [← this,q2] at h;cases h
theorem xk {p:Nat→Bool}{a:Nat}:∀ k,(∀ s,a≤s→s<a+k→p s=false)→ext p (a+k)=ext p a
 |0,_=>rfl
 |k+1,h=>by
  rw [← Za0,iI,h (a+k) (by omega) (by omega),if_neg (by simp)]
  exact xk k fun s h1 h2=>h s h1 (by omega)
theorem G6 {p:Nat→Bool}{a:Nat}{pre:List bP}{s0:Int}(h0:ext p a=pre++[⟨s0,a - s0⟩]):∀ k,(∀ s,a≤s→s<a+k→p s=true)→ext p (a+k)=pre++[⟨s0,((a+k:Nat):Int) - s0⟩]
 |0,_=>h0
 |k+1,h=>by
  rw [← Za0,iI,h (a+k) (by omega) (by omega),if_pos rfl,G6 h0 k fun s h1 h2=>h s h1 (by omega),fC,if_pos (by simp only;omega)]
  congr 2
  simp only [bP.mk.injEq,true_and]
  omega
theorem Y9 {p:Nat→Bool}{a k:Nat}(hn:a=0∨p (a - 1)=false)(h:∀ s,a≤s→s<a+(k+1)→p s=true):ext p (a+(k+1))=ext p a++[⟨(a:Int),((a+(k+1):Nat):Int) - a⟩]:=by
 have h1:ext p (a+1)=ext p a++[⟨(a:Int),((a+1:Nat):Int) - a⟩]:=by
  rw [iI,h a (ze _) (by omega),if_pos rfl,agT hn]
  congr 2
  simp only [bP.mk.injEq,true_and]
  omega
 have:=G6 (a:=a+1) h1 k fun s h2 h3=>h s (by omega) (by omega)
 rw [show a+(k+1)=a+1+k by omega]
 exact this
theorem pG {p q:Nat→Bool}{n:Nat}(h:∀ s,s<n→p s=q s):ext p n=ext q n:=by
 unfold ext
 rw [List.filter_congr fun s hs=>h s (Zbc.1 hs)]
def dep (i:Nat)(s:Nat):List End→Int
 |[]=>0
 |x::l=>(if x.list=i∧x.pos≤s then x.step else 0)+dep i s l
def tot (i:Nat):List End→Int
 |[]=>0
 |x::l=>(if x.list=i then x.step else 0)+tot i l
theorem xq (i s:Nat):∀ l m:List End,dep i s (l++m)=dep i s l+dep i s m
 |[],m=>by simp [dep]
 |x::l,m=>by simp only [Zbi,dep,xq i s l m];omega
theorem V9 {i s:Nat}:∀ {l:List End},(∀ x∈l,x.pos≤s)→dep i s l=tot i l
 |[],_=>rfl
 |x::l,h=>by
  have h1:=h x (by simp)
  have ih:=V9 (i:=i) (s:=s) (l:=l) fun y hy=>h y (by simp [hy])
  simp only [dep,tot,ih,h1,and_true]
theorem zT {i s:Nat}:∀ {l:List End},(∀ x∈l,s<x.pos)→dep i s l=0
 |[],_=>rfl
 |x::l,h=>by
  have h1:=h x (by simp)
  have ih:=zT (i:=i) (s:=s) (l:=l) fun y hy=>h y (by simp [hy])
  simp only [dep,ih]
  rw [if_neg (by omega)];rfl
theorem zU (i:Nat):∀ l m:List End,tot i (l++m)=tot i l+tot i m
 |[],m=>by simp [tot]
 |x::l,m=>by simp only [Zbi,tot,zU i l m];omega
def kH (keep:Bool→Bool→Bool)(l:List End)(s:Nat):Bool:=keep (decide (dep 0 s l > 0)) (decide (dep 1 s l > 0))
def jH (x:End):List End→Bool
 |[]=>false
 |y::_=>decide (y.pos=x.pos)
def Bf (keep:Bool→Bool→Bool):List End→Int→Int→Int→Bool→List bP
 |[],_,_,_,_=>[]
 |x::l,d0,d1,st,ins =>
  if jH x l then Bf keep l (if x.list=0 then d0+x.step else d0) (if x.list=1 then d1+x.step else d1) st ins
  else
   (if !keep (decide ((if x.list=0 then d0+x.step else d0) > 0)) (decide ((if x.list=1 then d1+x.step else d1) > 0))&&ins then [⟨st,x.pos - st⟩] else []) ++
   Bf keep l (if x.list=0 then d0+x.step else d0) (if x.list=1 then d1+x.step else d1)
    (if keep (decide ((if x.list=0 then d0+x.step else d0) > 0)) (decide ((if x.list=1 then d1+x.step else d1) > 0))&&!ins then x.pos else st)
    (keep (decide ((if x.list=0 then d0+x.step else d0) > 0)) (decide ((if x.list=1 then d1+x.step else d1) > 0)))
def Asc:List End→Prop
 |[]=>True
 |[_]=>True
 |x::y::l=>x.pos≤y.pos∧Asc (y::l)
theorem Asc.tail {x:End}{l:List End}(h:Asc (x::l)):Asc l:=by
 cases l with
 |nil=>trivial
 |cons y l=>exact h.2
theorem Asc.le {x:End}:∀ {l:List End},Asc (x::l)→∀ y∈l,x.pos≤y.pos
 |[],_,y,hy=>by cases hy
 |z::l,h,y,hy=>by
  rcases ZaK.1 hy with rfl|hy
  ·exact h.1
  ·exact Nat.le_trans h.1 (Asc.le h.2 y hy)
def atStart (N:Nat):List End→Nat→Prop
 |[],a=>a=N
 |x::_,a=>a=x.pos
theorem xu {keep:Bool→Bool→Bool}(hk:keep false false=false){L:List End}{N:Nat}(hN:∀ x∈L,x.pos≤N)(h0:tot 0 L=0)(h1:tot 1 L=0) :
  ∀ (R P:List End) (out:List bP) (st:Int) (ins:Bool) (a:Nat),L=P++R→Asc R→(∀ x∈P,∀ y∈R,x.pos≤y.pos)→(∀ x∈P,x.pos≤a) →
   atStart N R a→ext (kH keep L) a=out++(if ins then [⟨st,a - st⟩] else [])→(a=0∨ins=true∨kH keep L (a - 1)=false)→(R=[]→ins=false)→(a=0→ins=false) →
   ext (kH keep L) N=out++Bf keep R (tot 0 P) (tot 1 P) st ins
 |[],P,out,st,ins,a,hL,_,_,_,ha,he,hi,hr,_=>by
  have ha:a=N:=ha
  rw [hr rfl] at he
  rw [ha] at he
  simpa [Bf] using he
 |x::l,P,out,st,ins,a,hL,hs,hP,hPa,ha,he,hi,_,hz=>by
  have ha:a=x.pos:=ha
  subst ha
  have hL2:L=(P++[x])++l:=by rw [hL];simp
  have t0:tot 0 (P++[x])=(if x.list=0 then tot 0 P+x.step else tot 0 P):=by
   rw [zU];simp only [tot];split<;>omega
  have t1:tot 1 (P++[x])=(if x.list=1 then tot 1 P+x.step else tot 1 P):=by
   rw [zU];simp only [tot];split<;>omega
  have hP2:∀ z∈P++[x],∀ y∈l,z.pos≤y.pos:=by
   intro z hz y hy
   rcases ZaE.1 hz with hz|hz
   ·exact hP z hz y (by simp [hy])
   ·simp only [Zaq] at hz;rw [hz];exact hs.le y hy
  have hPx:∀ z∈P++[x],z.pos≤x.pos:=by
   intro z hz
   rcases ZaE.1 hz with hz|hz
   ·exact hP z hz x (by simp)
   ·simp only [Zaq] at hz;rw [hz];exact ze _
  unfold Bf
  rw [← t0,← t1]
  by_cases hn:jH x l=true
  ·rw [if_pos hn]
   cases l with
   |nil=>simp [jH] at hn
   |cons y l =>
    have hy:y.pos=x.pos:=by simpa [jH] using hn
    exact xu hk hN h0 h1 (y::l) (P++[x]) out st ins x.pos hL2 hs.tail hP2 hPx hy.symm he hi (fun e=>by cases e) hz
  ·rw [if_neg hn]
   -- the next place
   obtain ⟨b,hb,hbl,hbx,hbm⟩:∃ b,x.pos≤b∧(∀ y∈l,b≤y.pos)∧(l≠[]→x.pos<b)∧atStart N l b:=by
    cases l with
    |nil=>exact ⟨N,hN x (by rw [hL];simp),fun y hy=>(by cases hy),fun h=>absurd rfl h,rfl⟩
    |cons y l =>
     have hy:y.pos≠x.pos:=by simpa [jH] using hn
     have:=hs.1
     exact ⟨y.pos,hs.1,fun z hz=>by
      rcases ZaK.1 hz with rfl|hz
      ·exact ze _
      ·exact hs.tail.le z hz,fun _=>by omega,rfl⟩
   have hconst:∀ s,x.pos≤s→s<b→kH keep L s=keep (decide (tot 0 (P++[x]) > 0)) (decide (tot 1 (P++[x]) > 0)):=by
    intro s hs1 hs2
    unfold kH
    have e:∀ i,dep i s L=tot i (P++[x]):=by
     intro i
     rw [hL2,xq,V9 (fun z hz=>by have:=hPx z hz;omega),zT (fun z hz=>by have:=hbl z hz;omega)]
     omega
    rw [e 0,e 1]
   have hlast:l=[]→keep (decide (tot 0 (P++[x]) > 0)) (decide (tot 1 (P++[x]) > 0))=false:=by
    intro hl
    have e0:tot 0 (P++[x])=0:=by rw [← h0,hL2,hl,ZaI]
    have e1:tot 1 (P++[x])=0:=by rw [← h1,hL2,hl,ZaI]
    rw [e0,e1]
    exact hk
   have hPb:∀ z∈P++[x],z.pos≤b:=fun z hz=>Nat.le_trans (hPx z hz) hb
   obtain ⟨k,rfl⟩:∃ k,b=x.pos+k:=⟨b - x.pos,by omega⟩
   generalize keep (decide (tot 0 (P++[x]) > 0)) (decide (tot 1 (P++[x]) > 0))=now at *
   have ahX:k≠0→kH keep L (x.pos+k - 1)=now:=fun hk0=>hconst _ (by omega) (by omega)
   cases now with
   |false =>
    have hf:=xk (p:=kH keep L) (a:=x.pos) k fun s q1 q2=>hconst s q1 q2
    cases ins with
    |false =>
     simp only [Zbt,Zbm,zm,if_false,Zbd,Bool.and_true,Za8,ZaI,if_true] at he ⊢
     refine xu hk hN h0 h1 l (P++[x]) out _ false (x.pos+k) hL2 hs.tail hP2 hPb hbm ?_ ?_ (fun _=>rfl) (fun _=>rfl)
     ·rw [hf,he];simp
     ·by_cases hk0:k=0
      ·subst hk0
       rcases hi with hi|hi|hi
       ·exact .inl hi
       ·cases hi
       ·exact .inr (.inr hi)
      ·exact .inr (.inr (ahX hk0))
    |true =>
     simp only [Zbt,zP,if_true,Zbx,Zbm,Za8,zm,if_false] at he ⊢
     rw [← Zav]
     by_cases hk0:k=0
     ·subst hk0
      have hl:l=[]:=by
       cases l with
       |nil=>rfl
       |cons y l=>have:=hbx (by simp);omega
      subst hl
      have hb2:x.pos+0=N:=hbm
      simp only [Bf,ZaI]
      rw [← hb2]
      exact he
     ·refine xu hk hN h0 h1 l (P++[x]) _ _ false (x.pos+k) hL2 hs.tail hP2 hPb hbm ?_ (.inr (.inr (ahX hk0))) (fun _=>rfl) (fun _=>rfl)
      rw [hf,he];simp
   |true =>
    have hl:l≠[]:=fun e=>by have:=hlast e;cases this
    have hk1:=hbx hl
    obtain ⟨j,rfl⟩:∃ j,k=j+1:=⟨k - 1,by omega⟩
    cases ins with
    |false =>
     simp only [Zbx,Za8,zm,if_false,Zbd,Zbt,zP,if_true,ZaI] at he ⊢
     refine xu hk hN h0 h1 l (P++[x]) out _ true (x.pos+(j+1)) hL2 hs.tail hP2 hPb hbm ?_ (.inr (.inl rfl)) (fun e=>absurd e hl) (fun e=>by omega)
     have hi2:x.pos=0∨kH keep L (x.pos - 1)=false:=by
      rcases hi with hi|hi|hi
      ·exact .inl hi
      ·cases hi
      ·exact .inr hi
     rw [Y9 hi2 fun s q1 q2=>hconst s q1 q2,he]
     simp
    |true =>
     simp only [Zbx,Za8,zm,if_false,Zbd,Zbm,if_true] at he ⊢
     refine xu hk hN h0 h1 l (P++[x]) out st true (x.pos+(j+1)) hL2 hs.tail hP2 hPb hbm ?_ (.inr (.inl rfl)) (fun e=>absurd e hl) (fun e=>by omega)
     rw [G6 he (j+1) fun s q1 q2=>hconst s q1 q2]
     simp
theorem adG {keep:Bool→Bool→Bool}(hk:keep false false=false){L:List End}{N:Nat}(hs:Asc L)(hN:∀ x∈L,x.pos≤N)(h0:tot 0 L=0)(h1:tot 1 L=0) :
  Bf keep L 0 0 0 false=ext (kH keep L) N:=by
 cases L with
 |nil =>
  have:ext (kH keep ([]:List End)) (0+N)=ext (kH keep []) 0:=xk N fun s _ _=>hk
  rw [Zaj] at this
  rw [this];rfl
 |cons x l =>
  have hb:ext (kH keep (x::l)) (0+x.pos)=ext (kH keep (x::l)) 0:=xk x.pos fun s _ h2=>by
   unfold kH
   have e:∀ i,dep i s (x::l)=0:=fun i=>zT fun y hy=>by
    rcases ZaK.1 hy with rfl|hy
    ·omega
    ·have:=hs.le y hy;omega
   rw [e 0,e 1]
   exact hk
  rw [Zaj] at hb
  have:=xu hk hN h0 h1 (x::l) [] [] 0 false x.pos rfl hs (fun z hz=>by cases hz) (fun z hz=>by cases hz) rfl (by rw [hb];rfl) (by
   by_cases h:x.pos=0
   ·exact .inl h
   ·refine .inr (.inr ?_)
    unfold kH
    have e:∀ i,dep i (x.pos - 1) (x::l)=0:=fun i=>zT fun y hy=>by
     rcases ZaK.1 hy with rfl|hy
     ·omega
     ·have:=hs.le y hy;omega
    rw [e 0,e 1]
    exact hk) (fun e=>by cases e) (fun _=>rfl)
  rw [this];rfl
abbrev Wd:=BitVec 64
structure Bm where
 size:Int
 ws:List Wd
 deriving DecidableEq
theorem QH (n:Int):IntKind.u64.wrap n=n % 2 ^ 64:=by
 simp only [IntKind.wrap,IntKind.bits,IntKind.signed,Za8,zm,if_false]
def eU (d:Int):PV:=.int .u64 d
def jn (a b:Int):Int:=hash (lT a b)
def upK (l:List Int)(k:Nat):Int:=if 2*k+1<l.length then jn (l.getD (2*k) 0) (l.getD (2*k+1) 0) else l.getD (2*k) 0
def yT (l:List Int):List Int:=(Zam ((l.length+1) / 2)).map (upK l)
theorem xw (l:List Int):(yT l).length=(l.length+1) / 2:=by simp [yT]
theorem UZ {l:List Int}{k:Nat}(h:k<(yT l).length):(yT l)[k]=upK l k:=by simp [yT]
def iq (l:List Int):Nat→List Int
 |0=>l
 |i+1=>yT (iq l i)
def cd (n:Nat):Nat→Nat
 |0=>n
 |i+1=>(cd n i+1) / 2
theorem fE (l:List Int):∀ i,(iq l i).length=cd l.length i
 |0=>rfl
 |i+1=>by
  show (yT _).length=_
  rw [xw,fE l i];rfl
theorem Wh (n i:Nat):cd n (i+1)=cd ((n+1) / 2) i:=by
 induction i with
 |zero=>rfl
 |succ i ih=>show (cd n (i+1)+1) / 2=_;rw [ih];rfl
theorem G7 {n:Nat}(h:1≤n):∀ i,1≤cd n i
 |0=>h
 |i+1=>by have:=G7 h i;show 1≤(cd n i+1) / 2;omega
theorem zV (n i:Nat)(h:1≤n):cd n i≤n:=by
 induction i with
 |zero=>exact ze _
 |succ i ih=>show (cd n i+1) / 2≤n;have:=G7 h i;omega
def Za:Nat→Nat→Nat
 |0,_=>0
 |f+1,n=>if n≤1 then 0 else Za f ((n+1) / 2)+1
def gZ (n:Nat):Nat:=Za 13 n
theorem Wi:∀ (f n:Nat),1≤n→n≤2 ^ f→cd n (Za f n)=1∧(∀ i,i<Za f n→2≤cd n i)∧Za f n≤f
 |0,n,h1,h2=>by
  have:n=1:=by simp at h2;omega
  subst this
  exact ⟨rfl,fun i hi=>absurd hi (ZcU _),ze _⟩
 |f+1,n,h1,h2=>by
  unfold Za
  by_cases c:n≤1
  ·rw [if_pos c]
   exact ⟨by show n=1;omega,fun i hi=>absurd hi (ZcU _),by omega⟩
  ·rw [if_neg c]
   have hp:(2:Nat) ^ (f+1)=2*2 ^ f:=by rw [Nat.pow_succ];omega
   obtain ⟨a1,a2,a3⟩:=Wi f ((n+1) / 2) (by omega) (by omega)
   refine ⟨by rw [Wh];exact a1,fun i hi=>?_,by omega⟩
   cases i with
   |zero=>show 2≤n;omega
   |succ i=>rw [Wh];exact a2 i (by omega)
theorem jk {n:Nat}(h1:1≤n)(h2:n≤4096):cd n (gZ n)=1∧(∀ i,i<gZ n→2≤cd n i)∧gZ n≤13:=Wi 13 n h1 (by omega)
def fG (l:List Int):List (List Int):=(Zam (gZ l.length+1)).map (iq l)
theorem dI (l:List Int):(fG l).length=gZ l.length+1:=by simp [fG]
theorem nM {l:List Int}{i:Nat}(h:i<(fG l).length):(fG l)[i]=iq l i:=by simp [fG]
def QI (d:Int):Prop:=0≤d∧d<18446744073709551616
theorem Wj (l:List Int):QI (hash l):=by
 unfold hash hfin QI
 constructor
 ·rw [QH];omega
 ·rw [QH];omega
theorem amU (a b:Int):QI (jn a b):=Wj _
theorem aki {l:List Int}(h:∀ d∈l,QI d):∀ d∈yT l,QI d:=fun d hd=>by
 obtain ⟨i,hi,rfl⟩:=Zbs hd
 rw [UZ]
 rw [xw] at hi
 unfold upK
 split
 ·exact amU _ _
 ·rw [zR,ZD (by omega)]
  exact h _ (Zap _)
theorem U0 {l:List Int}(h:∀ d∈l,QI d):∀ i,∀ d∈iq l i,QI d
 |0=>h
 |i+1=>aki (U0 h i)
theorem adH (n:Int):IntKind.u8.wrap n=n % 256:=by
 unfold IntKind.wrap;rfl
def oZ (d:Int):List Int:=(Zam 8).map (byteOf d)
theorem G8 {d:Int}(h:QI d){k:Nat}(hk:k<8):byteOf d k=d / 256 ^ k % 256:=by
 unfold byteOf
 have e:(2:Int) ^ (min (Zcy (8*(k:Int))) IntKind.u64.bits)=256 ^ k:=by
  rw [show min (Zcy (8*(k:Int))) IntKind.u64.bits=8*k by show min _ 64=_;omega,Int.pow_mul]
  rfl
 rw [e,Int.fdiv_eq_ediv_of_nonneg _ (Int.pow_nonneg (by decide))]
 exact adH _
theorem adJ {a b:Int}(ha:QI a)(hb:QI b)(h:oZ a=oZ b):a=b:=by
 have hk:∀ k,k<8→a / 256 ^ k % 256=b / 256 ^ k % 256:=fun k hk=>by
  have h1:(oZ a)[k]?=(oZ b)[k]?:=by rw [h]
  unfold oZ at h1
  rw [zc,zc,List.getElem?_range hk] at h1
  simp only [Zae,Option.some.injEq] at h1
  rw [G8 ha hk,G8 hb hk] at h1
  exact h1
 have h0:=hk 0 (by decide);have h1:=hk 1 (by decide);have h2:=hk 2 (by decide);have h3:=hk 3 (by decide)
 have h4:=hk 4 (by decide);have h5:=hk 5 (by decide);have h6:=hk 6 (by decide);have h7:=hk 7 (by decide)
 unfold QI at ha hb
 simp only [show (256:Int) ^ 0=1 from rfl,show (256:Int) ^ 1=256 from rfl,show (256:Int) ^ 2=65536 from rfl,show (256:Int) ^ 3=16777216 from rfl,show (256:Int) ^ 4=4294967296 from rfl,show (256:Int) ^ 5=1099511627776 from rfl,show (256:Int) ^ 6=281474976710656 from rfl,show (256:Int) ^ 7=72057594037927936 from rfl] at h0 h1 h2 h3 h4 h5 h6 h7
 omega
def fU (l:List bP):List Int:=l.flatMap fun x=>(Zam x.count.toNat).map fun (i:Nat)=>x.start+(i:Int)
theorem xA (l:List bP)(x:bP):fU (l++[x])=fU l++(Zam x.count.toNat).map fun (i:Nat)=>x.start+(i:Int):=by simp [fU]
end Go.Proofs.YthccglceomoboaaGreatDoor.V
namespace Go.Proofs.YthccglceomoboaaGreatDoor
def look:List (Nat×AV)→Nat→AV
 |[],_=>.any
 |(j,v)::l,i=>dR (Z6 i j) v (look l i)
def sl (n:Nat)(l:List (Nat×AV)):List AV:=(Zam n).map (look l)
def mapA (f:AV→AV):List (Nat×AV)→List (Nat×AV)
 |[]=>[]
 |(j,v)::l=>(j,f v)::mapA f l
def keepA (l:List (Nat×AV)):List Nat→List (Nat×AV)
 |[]=>[]
 |k::ks=>(k,look l k)::keepA l ks
def CJ:Nat→List PV→List (Nat×AV)
 |_,[]=>[]
 |k,v::l=>(k,.pv v)::CJ (k+1) l
def QJ (nb:Nat):List (Nat×AV)→Bool
 |[]=>true
 |(_,v)::l=>AV.low nb v&&QJ nb l
def U1 (n:Nat):List Nat→Bool
 |[]=>true
 |k::ks=>decide (k<n)&&U1 n ks
theorem adK (i:Nat)(v:AV)(l:List (Nat×AV)):look ((i,v)::l) i=v:=by
 show dR (Z6 i i) v _=v
 rw [Nat.beq_refl];rfl
theorem look_nil (i:Nat):look [] i=.any:=(rfl)
theorem akj {n i:Nat}{l:List (Nat×AV)}(h':i<n):(sl n l).getD i .any=look l i:=by
 simp [sl,zR,h']
theorem agU {n i:Nat}{l:List (Nat×AV)}(h':i<n):(sl n l)[i]?=some (look l i):=by
 simp [sl,h']
theorem nN (l:List (Nat×AV))(i j:Nat)(v:AV):look ((j,v)::l) i=if i=j then v else look l i:=by
 show dR (Z6 i j) v _=_
 by_cases h:i=j
 ·subst h;rw [Nat.beq_refl,if_pos rfl];rfl
 ·rw [if_neg h]
  have:Z6 i j=false:=by
   cases e:Z6 i j with
   |false=>rfl
   |true=>exact absurd (Nat.eq_of_beq_eq_true e) h
  rw [this];rfl
theorem akk (n i:Nat)(v:AV)(l:List (Nat×AV)):(sl n l).set i v=sl n ((i,v)::l):=by
 apply ZbF (by simp [sl])
 intro k h1 h2
 have hk:k<n:=by simpa [sl] using h2
 simp only [sl,List.getElem_set,Zch,ZbK,nN]
 by_cases h:i=k
 ·subst h;simp
 ·rw [if_neg h,if_neg (fun e=>h e.symm)]
theorem Zb {i j:Nat}{v:AV}{l:List (Nat×AV)}(h:(i==j)=false):look ((j,v)::l) i=look l i:=by
 rw [nN,if_neg (by simpa using h)]
theorem JK (f:AV→AV)(hf:f .any=.any):∀ (l:List (Nat×AV)) (i:Nat),look (mapA f l) i=f (look l i)
 |[],i=>hf.symm
 |(j,v)::l,i=>by
  show look ((j,f v)::mapA f l) i=_
  rw [nN,nN,JK f hf l i]
  split<;>rfl
theorem MC {f:AV→AV}(hf:f .any=.any)(n:Nat)(l:List (Nat×AV)):(sl n l).map f=sl n (mapA f l):=by
 unfold sl
 rw [List.map_map]
 apply List.map_congr_left
 intro i _
 exact (JK f hf l i).symm
theorem agV (n d:Nat)(l:List (Nat×AV)):(sl n l).map (AV.kill d)=sl n (mapA (AV.kill d) l):=MC rfl n l
theorem adL (n d:Nat)(l:List (Nat×AV)):(sl n l).map (AV.dw d)=sl n (mapA (AV.dw d) l):=MC rfl n l
theorem adM (n d y:Nat)(l:List (Nat×AV)):(sl n l).map (AV.iE d y)=sl n (mapA (AV.iE d y) l):=MC rfl n l
theorem adO (n:Nat)(l:List (Nat×AV)):(sl n l).map AV.froze=sl n (mapA AV.froze l):=MC rfl n l
theorem adP (f:AV→AV):mapA f []=[]:=(rfl)
theorem Zc (f:AV→AV)(j:Nat)(v:AV)(l:List (Nat×AV)):mapA f ((j,v)::l)=(j,f v)::mapA f l:=(rfl)
theorem Zd (l:List (Nat×AV)):keepA l []=[]:=(rfl)
theorem yG (l:List (Nat×AV))(k:Nat)(ks:List Nat):keepA l (k::ks)=(k,look l k)::keepA l ks:=(rfl)
theorem adQ (nb:Nat):QJ nb []=true:=(rfl)
theorem JL (nb k:Nat)(v:AV)(l:List (Nat×AV)):QJ nb ((k,v)::l)=(AV.low nb v&&QJ nb l):=(rfl)
theorem adR (n:Nat):U1 n []=true:=(rfl)
theorem JM (n k:Nat)(l:List Nat):U1 n (k::l)=(decide (k<n)&&U1 n l):=(rfl)
theorem Ze (k:Nat):CJ k []=[]:=(rfl)
theorem G9 (k:Nat)(v:PV)(l:List PV):CJ k (v::l)=(k,.pv v)::CJ (k+1) l:=(rfl)
theorem yH (l:List (Nat×AV)):∀ (ks:List Nat) (i:Nat),look (keepA l ks) i=if ks.contains i then look l i else .any
 |[],i=>rfl
 |k::ks,i=>by
  rw [yG,nN,yH l ks i,List.contains_cons]
  by_cases h:i=k
  ·subst h;simp
  ·have:(i==k)=false:=by simpa using h
   rw [if_neg h,this,Bool.false_or]
theorem QK (nb n:Nat)(l:List (Nat×AV)):∀ ks:List Nat,U1 n ks=true→(QJ nb (keepA l ks)=true ↔ ∀ k∈ks,(look l k).low nb=true)
 |[],_=>by simp [keepA,QJ]
 |k::ks,h=>by
  rw [JM,ZZ] at h
  rw [yG,JL,ZZ,QK nb n l ks h.2]
  simp
theorem Wn {n nb:Nat}{l:List (Nat×AV)}{keep:List Nat}{bx:List Box}{ys:List (List PV)}{sp:Option (Option Nat)}(h:U1 n keep=true)(hb:nb≤bx.length)(hl:QJ nb (keepA l keep)=true) :
  St.head ⟨sl n l,bx,ys,sp⟩ keep nb=some ⟨sl n (keepA l keep),bx.take nb,ys,sp⟩:=by
 have e:((sl n l).zipIdx.map fun (v,i)=>if keep.contains i then v else AV.any)=sl n (keepA l keep):=by
  apply ZbF (by simp [sl])
  intro i h1 h2
  simp only [sl,Zch,List.getElem_zipIdx,ZbK,yH,Zaj]
 unfold St.head
 simp only
 rw [e,if_pos]
 rw [ZZ,decide_eq_true_eq]
 refine ⟨?_,hb⟩
 rw [zt]
 intro v hv
 unfold sl at hv
 obtain ⟨i,hi,rfl⟩:=ZaS.1 hv
 rw [yH]
 split
 ·rename_i hc
  exact (QK nb n l keep h).1 hl i (by simpa using hc)
 ·rfl
theorem adS {n nb:Nat}{e:Ex}{l:List (Nat×AV)}{keep:List Nat}{bx:List Box}{ys:List (List PV)}{sp:Option (Option Nat)}(h:U1 n keep=true)(hb:nb≤bx.length)(hl:QJ nb (keepA l keep)=true) :
  mO keep nb (e,⟨sl n l,bx,ys,sp⟩)=some (e,⟨sl n (keepA l keep),bx.take nb,ys,sp⟩):=by
 unfold mO
 simp only
 rw [Wn h hb hl]
 rfl
theorem He:∀ (l:List PV) (k i:Nat),look (CJ k l) i=if k≤i then ((l[i - k]?).map AV.pv).getD .any else .any:=by
 intro l
 induction l with
 |nil=>intro k i;simp [CJ,look]
 |cons v l ih =>
  intro k i
  rw [G9,nN,ih]
  by_cases h1:i=k
  ·subst h1;simp
  ·rw [if_neg h1]
   by_cases h2:k≤i
   ·rw [if_pos (by omega),if_pos h2,show i - k=(i - (k+1))+1 by omega,List.getElem?_cons_succ]
   ·rw [if_neg (by omega),if_neg h2]
theorem Zf {n:Nat}{x:kL}{args:List PV}(hn:args.length+1≤n):Le n x args=⟨sl n ((0,x.av)::CJ 1 args),x.boxes,[],none⟩:=by
 unfold Le
 congr 1
 apply ZbF (by simp [sl];omega)
 intro i h1 h2
 simp only [sl,Zch,ZbK,nN,He]
 cases i with
 |zero=>simp
 |succ i =>
  rw [List.getElem_cons_succ,if_neg (by omega),if_pos (by omega),show i+1 - 1=i by omega]
  by_cases hi:i<args.length
  ·rw [ZcN (by simpa using hi)]
   simp [hi]
  ·rw [ZcI (by simp;omega)]
   simp [hi]
theorem adT {n:Nat}{args:List PV}(hn:args.length≤n):start n args=⟨sl n (CJ 0 args),[],[],none⟩:=by
 have key:=He
 unfold start
 congr 1
 apply ZbF (by simp [sl];omega)
 intro i h1 h2
 simp only [sl,Zch,ZbK,key,Nat.zero_le,if_true,Nat.sub_zero]
 by_cases hi:i<args.length
 ·rw [ZcN (by simpa using hi)]
  simp [hi]
 ·rw [ZcI (by simp;omega)]
  simp [hi]
theorem akl (nb:Nat)(v:PV):AV.low nb (.pv v)=true:=(rfl)
theorem agW (nb:Nat):AV.low nb .any=true:=(rfl)
theorem agX (nb:Nat):AV.low nb .lV=true:=(rfl)
theorem agY (nb sz:Nat)(es:List PV):AV.low nb (.row sz es)=true:=(rfl)
theorem adU (nb o j:Nat):AV.low nb (.aO o j)=decide (o<nb):=(rfl)
theorem adV (nb t off len:Nat):AV.low nb (.ref (.slot t) off len)=true:=(rfl)
theorem adW (nb o j off len:Nat):AV.low nb (.ref (.cell o j) off len)=decide (o<nb):=(rfl)
theorem adX (nb t i j:Nat):AV.low nb (.oz (.slot t) i j)=true:=(rfl)
theorem adY (nb o q i j:Nat):AV.low nb (.oz (.cell o q) i j)=decide (o<nb):=(rfl)
theorem akm (nb f:Nat)(caps:List AV):AV.low nb (.fn f caps)=caps.all fun c=>match c with
  |.pv _=>true
  |.aO o _=>o<nb
  |_=>false:=(rfl)
def aW:=Zs @adK (Zs @Zb (Zs @look_nil (Zs @akj (Zs @agU (Zs @akk (Zs @agV (Zs (Zs @adL @adM) (Zs @adO (Zs @adP (Zs @Zc (Zs @Zd (Zs @yG (Zs @adQ (Zs @JL (Zs @adR (Zs @JM (Zs @Ze (Zs @G9 (Zs @Wn (Zs @adS (Zs @adT (Zs @Zf (Zs @akl (Zs @agW (Zs @agX (Zs @agY (Zs @adU (Zs @adV (Zs @adW (Zs @adX (Zs @adY (@akm))))))))))))))))))))))))))))))))
def aC:=Zs @aW (Zs @bI (Zs @adv @jl))
end Go.Proofs.YthccglceomoboaaGreatDoor
namespace Go.Proofs.YthccglceomoboaaGreatDoor.V
theorem agZ {d:Int}{st:St}(h:st.head [0,3,5,15] st.boxes.length=some ⟨sl 18 [(0,.pv (.int .u64 d)),(3,.row 1 ((Zam ((0:Nat))).map (fun k=>jG (byteOf d k)))),(5,.pv (.int .i64 (0:Nat))),(15,.any)],[],[],none⟩) :
  den env EY st=some (.normal,⟨sl 18 [(2,.any),(3,.row 1 ((oZ d).map jG))],[],[],none⟩):=by
 unfold EY
 refine aY (env:=env) (8) (fun i=>⟨sl 18 [(0,.pv (.int .u64 d)),(3,.row 1 ((Zam (i)).map (fun k=>jG (byteOf d k)))),(5,.pv (.int .i64 i)),(15,.any)],[],[],none⟩) (fun i=>some (.normal,⟨sl 18 [(2,.any),(3,.row 1 ((oZ d).map jG))],[],[],none⟩)) h (fun _=>rfl) (fun _=>by simp only [aW,bI,Nat.reduceMul,Nat.reduceBEq,Nat.reduceLT,Nat.reduceLeDiff,Nat.reduceAdd,decide_true,zP,zz]) ?_ ?_
 ·intro i rb hi ih
  have hi1:=bC (n:=8) hi (by decide)
  have F1:((i:Int)<8)=True:=eq_true (by omega)
  have F2:IntKind.i64.wrap (8*(i:Int))=8*(i:Int):=aI (by omega)
  have F3:(8*(i:Int)<0)=False:=eq_false (by omega)
  have F4:(((Zam i).map (fun k=>jG (byteOf d k))).length+1≤lim)=True:=eq_true (by simp [lim];omega)
  have F5:((Zam i).length+1≤lim)=True:=eq_true (by simp [lim];omega)
  simp only [EX,F1,F2,F3,F4,F5,aC,Nat.reduceMul,Nat.reduceBEq,Nat.reduceLT,Nat.reduceLeDiff,reduceCtorEq,Nat.reduceEqDiff,Nat.reduceAdd,Z6]
  rw [ih _ (by rw [yF (fun k=>jG (byteOf d k)) i];simp only [hi1,aC,Nat.reduceMul,Nat.reduceBEq,Nat.reduceLT,Nat.reduceLeDiff,reduceCtorEq,Nat.reduceEqDiff,Nat.reduceAdd,Z6]<;>rfl)]
 ·intro rb
  have F1:(((8:Nat):Int)<8)=False:=eq_false (by omega)
  have F2:(oZ d).map jG=(Zam 8).map (fun k=>jG (byteOf d k)):=by simp [oZ,Zbz]
  rw [F2]
  simp only [EX,F1,aC,Nat.reduceMul,Nat.reduceBEq,Nat.reduceLT,Nat.reduceLeDiff,reduceCtorEq,Nat.reduceEqDiff,Nat.reduceAdd,Z6]
theorem adZ {d:Int}:cal env 109 [.int .u64 d]=some [(.list 1 ((oZ d).map jG),true)]:=by
 rw [aA ajf rfl];simp only [Pq,aW,Nat.reduceBEq,Nat.reduceLeDiff,Nat.reduceAdd,zd,zj]
 simp only [aC,Nat.reduceMul,Nat.reduceBEq,Nat.reduceLT,Nat.reduceLeDiff,reduceCtorEq,Nat.reduceEqDiff,Nat.reduceAdd,Z6]
 rw [agZ (d:=d) (by simp only [aW,bI,Nat.reduceMul,Nat.reduceBEq,Nat.reduceLT,Nat.reduceLeDiff,Nat.reduceAdd,decide_true,zP,zz]<;>rfl)]
 simp only [aC,Nat.reduceMul,Nat.reduceBEq,Nat.reduceLT,Nat.reduceLeDiff,reduceCtorEq,Nat.reduceEqDiff,Nat.reduceAdd,Z6]
theorem QL {l:List Int}{i:Nat}(h:i<(yT l).length):(yT l).take (i+1)=(yT l).take i++[upK l i]:=by
 rw [take_snoc h,UZ]
theorem ag0 {l:List Int}(hl:l.length≤4096){st:St}(h:st.head [0,1,5,6,31,38] st.boxes.length=some ⟨sl 40 [(0,.pv (.list 1 (l.map eU))),(1,.pv (.func 188 [])),(5,.row 1 (((yT l).take ((0:Nat))).map eU)),(6,.pv (.int .i64 ((2*((0:Nat)):Nat):Int))),(31,.any),(38,.any)],[],[],none⟩) :
  den env Fp st=some (.normal,⟨sl 40 [(4,.any),(5,.row 1 ((yT l).map eU))],[],[],none⟩):=by
 unfold Fp
 refine aY (env:=env) ((yT l).length) (fun i=>⟨sl 40 [(0,.pv (.list 1 (l.map eU))),(1,.pv (.func 188 [])),(5,.row 1 (((yT l).take (i)).map eU)),(6,.pv (.int .i64 ((2*(i):Nat):Int))),(31,.any),(38,.any)],[],[],none⟩) (fun i=>some (.normal,⟨sl 40 [(4,.any),(5,.row 1 ((yT l).map eU))],[],[],none⟩)) h (fun _=>rfl) (fun _=>by simp only [aW,bI,Nat.reduceMul,Nat.reduceBEq,Nat.reduceLT,Nat.reduceLeDiff,Nat.reduceAdd,decide_true,zP,zz]) ?_ ?_
 ·intro i rb hi ih
  have hu:=hi
  rw [xw] at hu
  have F1:(((2*i:Nat):Int)<(l.length:Int))=True:=eq_true (by omega)
  have W1:IntKind.i64.wrap (((2*i:Nat):Int)+1)=((2*i+1:Nat):Int):=by rw [aI (by omega)];omega
  have W2:IntKind.i64.wrap (((2*i:Nat):Int)+2)=((2*(i+1):Nat):Int):=by rw [aI (by omega)];omega
  have F4:(((yT l).take i).length+1≤lim)=True:=eq_true (by rw [Zaa];unfold lim;omega)
  have hx:(l.map eU)[2*i]?=some (.int .u64 (l.getD (2*i) 0)):=by rw [zc,zR,ZD (by omega)];rfl
  rw [QL hi] at ih
  unfold upK at ih
  by_cases c:2*i+1<l.length
  ·have F2:(((2*i+1:Nat):Int)<(l.length:Int))=True:=eq_true (by omega)
   rw [if_pos c] at ih
   have hy:(l.map eU)[2*i+1]?=some (.int .u64 (l.getD (2*i+1) 0)):=by rw [zc,zR,ZD c];rfl
   have e1:=akh (a:=l.getD (2*i) 0) (b:=l.getD (2*i+1) 0)
   simp only [zM,F1,F2,F4,W1,W2,hx,hy,e1,au (show 2*i<l.length by omega),au c,Z3,aC,Nat.reduceMul,Nat.reduceBEq,Nat.reduceLT,Nat.reduceLeDiff,reduceCtorEq,Nat.reduceEqDiff,Nat.reduceAdd,Z6]
   rw [ih _ (by rw [Zag];simp only [aC,Nat.reduceMul,Nat.reduceBEq,Nat.reduceLT,Nat.reduceLeDiff,reduceCtorEq,Nat.reduceEqDiff,Nat.reduceAdd,Z6]<;>rfl)]
  ·have F2:(((2*i+1:Nat):Int)<(l.length:Int))=False:=eq_false (by omega)
   rw [if_neg c] at ih
   simp only [zM,F1,F2,F4,W1,W2,hx,au (show 2*i<l.length by omega),Z3,aC,Nat.reduceMul,Nat.reduceBEq,Nat.reduceLT,Nat.reduceLeDiff,reduceCtorEq,Nat.reduceEqDiff,Nat.reduceAdd,Z6]
   rw [ih _ (by rw [Zag];simp only [aC,Nat.reduceMul,Nat.reduceBEq,Nat.reduceLT,Nat.reduceLeDiff,reduceCtorEq,Nat.reduceEqDiff,Nat.reduceAdd,Z6]<;>rfl)]
 ·intro rb
  have F1:(((2*(yT l).length:Nat):Int)<(l.length:Int))=False:=eq_false (by rw [xw];omega)
  rw [Zas]
  simp only [zM,F1,Z3,aC,Nat.reduceMul,Nat.reduceBEq,Nat.reduceLT,Nat.reduceLeDiff,reduceCtorEq,Nat.reduceEqDiff,Nat.reduceAdd,Z6]
theorem akn {l:List Int}(hl:l.length≤4096):cal env 187 [.list 1 (l.map eU),.func 188 []]=some [(.list 1 ((yT l).map eU),true)]:=by
 rw [aA ajr rfl];simp only [PO,aW,Nat.reduceBEq,Nat.reduceLeDiff,Nat.reduceAdd,zd,zj]
 simp only [aC,Nat.reduceMul,Nat.reduceBEq,Nat.reduceLT,Nat.reduceLeDiff,reduceCtorEq,Nat.reduceEqDiff,Nat.reduceAdd,Z6]
 rw [ag0 (l:=l) hl (by simp only [aW,bI,Nat.reduceMul,Nat.reduceBEq,Nat.reduceLT,Nat.reduceLeDiff,Nat.reduceAdd,decide_true,zP,zz]<;>rfl)]
 simp only [aC,Nat.reduceMul,Nat.reduceBEq,Nat.reduceLT,Nat.reduceLeDiff,reduceCtorEq,Nat.reduceEqDiff,Nat.reduceAdd,Z6]
theorem Zg {β:Type}(B:β→List Box)(F:β→List PV→β)(P:Nat→β→Prop)(b0:β){g:bK}{ps:List Nat}{assign body:aj}{st:St}{f:Nat}{caps:List PV}{xs:List (List PV)}(hg:st.bW g=some (.func f caps))(hi:iter env f caps none=some xs)
  (hB:st.boxes=B b0) (hP:P 0 b0)
  (h:∀ j b x,P j b→xs[j]?=some x→∀ sl0,P (j+1) (F b x)∧∃ sl1,Bc env (st.slots.map AV.froze) ps assign body st.boxes.length x ⟨sl0,B b,st.ys,st.stop⟩=some (.normal,⟨sl1,B (F b x),st.ys,st.stop⟩)) :
  den env (.rng g ps assign body) st=some (.normal,⟨st.slots.map AV.froze,B (xs.foldl F b0),st.ys,st.stop⟩):=by
 have hsn:∀ j x,xs[j]?=some x→xs.take (j+1)=xs.take j++[x]:=by
  intro j x hx
  rw [ZbL,hx];rfl
 have key:∀ j,j≤xs.length→P j ((xs.take j).foldl F b0):=by
  intro j
  induction j with
  |zero=>intro _;simpa using hP
  |succ j ih =>
   intro hj
   have hx:=ZD (l:=xs) (i:=j) (by omega)
   rw [hsn _ _ hx,ZbM]
   exact (h j _ _ (ih (by omega)) hx []).1
 have:=uz (env:=env) (fun j=>B ((xs.take j).foldl F b0)) hg hi (by simpa using hB) (ps:=ps) (assign:=assign) (body:=body) ?_
 ·rw [this,Zas]
 ·intro j x hx sl0
  have hj:=(zb.1 hx).1
  rw [hsn _ _ hx,ZbM]
  exact (h j _ _ (key j (by omega)) hx sl0).2
--+
theorem ag1 {l m:List Int}(hlm:l.length=m.length)(hl:l.length≤lim)
  {st:St} (h:st.head [0,1,12,13] st.boxes.length=some ⟨[.pv (.list 1 (l.map (PV.int .u64))),.pv (.list 1 (m.map (PV.int .u64))),.any,.any,.any,.any,.any,.any,.any,.any,.any,.any,.pv (.int .i64 l.length),.pv (.int .i64 (0:Nat)),.any,.any,.any,.any,.any,.any,.any,.any,.any,.any,.any,.any],[],[],none⟩) :
  den env FD st=if l=m then some (.normal,⟨[.any,.any,.any,.any,.any,.any,.any,.any,.any,.any,.any,.any,.any,.any,.any,.any,.any,.any,.any,.any,.any,.any,.any,.any,.any,.any],[],[],none⟩) else some (.ret,⟨[.any,.any,.any,.any,.pv (.bool false),.any,.any,.any,.any,.any,.any,.any,.any,.any,.any,.any,.any,.any,.any,.any,.any,.any,.any,.any,.any,.any],[],[],none⟩):=by
 unfold FD
 rw [aY l.length (fun i=>⟨[.pv (.list 1 (l.map (PV.int .u64))),.pv (.list 1 (m.map (PV.int .u64))),.any,.any,.any,.any,.any,.any,.any,.any,.any,.any,.pv (.int .i64 l.length),.pv (.int .i64 i),.any,.any,.any,.any,.any,.any,.any,.any,.any,.any,.any,.any],[],[],none⟩)
  (fun i=>if l.drop i=m.drop i then some (.normal,⟨[.any,.any,.any,.any,.any,.any,.any,.any,.any,.any,.any,.any,.any,.any,.any,.any,.any,.any,.any,.any,.any,.any,.any,.any,.any,.any],[],[],none⟩) else some (.ret,⟨[.any,.any,.any,.any,.pv (.bool false),.any,.any,.any,.any,.any,.any,.any,.any,.any,.any,.any,.any,.any,.any,.any,.any,.any,.any,.any,.any,.any],[],[],none⟩)) h (fun _=>rfl) (fun _=>rfl) ?_ ?_]
 ·simp only [ZaT]
 ·intro i rb hi ih
  have hi1:=bC hi hl
  have hj:i<m.length:=by omega
  have F1:((i:Int)<(l.length:Int))=True:=eq_true (by omega)
  simp only [FC,F1,Z3,au hi,au hj,zc,ZD hi,ZD hj,eI,bH,aZ,sO,fV,ru,gB,jl,reduceCtorEq,Nat.reduceEqDiff,Nat.reduceAdd,Nat.reduceLT,Nat.reduceLeDiff,Z6]
  (try simp only [dB,dO,dD]);refine bV (fun hb=>?_) (fun hb=>?_)<;>try simp only [hb,bJ,reduceCtorEq,Nat.reduceEqDiff,Nat.reduceAdd,Nat.reduceLT,Nat.reduceLeDiff,Z6]
  ·rw [ih _ (by simp only [hi1];rfl),zr hi,zr hj]
   have e:l[i]=m[i]:=by
    revert hb
    generalize l[i]=x
    generalize m[i]=y
    first|(intro hb;simpa using hb)|(cases x;cases y;intro hb;simpa using hb)
   simp only [e,Zbo.injEq,true_and]
  ·rw [zr hi,zr hj,if_neg (fun e=>?_)]
   ·rfl
   ·have e:=(Zbo.inj e).1
    rw [e] at hb
    simp at hb
 ·intro rb
  simp only [FC,Zat,jl,reduceCtorEq,Nat.reduceEqDiff,Nat.reduceAdd,Nat.reduceLT,Nat.reduceLeDiff,Z6]
  rw [ZaG,hlm,ZaG,if_pos rfl]
  rfl
theorem ako {l m:List Int}(hl:l.length≤lim) :
  cal env 191 [.list 1 (l.map (PV.int .u64)),.list 1 (m.map (PV.int .u64))]=some [(.bool (decide (l=m)),false)]:=by
 rw [aA ajv rfl];simp only [PX];simp only [start,aN,aU,aJ,aT,aF,aH,aK,aP,Nat.reduceAdd,Nat.reduceSub]
 simp only [Z3,jl,reduceCtorEq,Nat.reduceEqDiff,Nat.reduceAdd,Nat.reduceLT,Nat.reduceLeDiff,Z6]
 (try simp only [dB,dO,dD]);refine bV (fun hb=>?_) (fun hb=>?_)<;>try simp only [hb,bJ,reduceCtorEq,Nat.reduceEqDiff,Nat.reduceAdd,Nat.reduceLT,Nat.reduceLeDiff,Z6]
 ·have hlm:l.length=m.length:=by simp at hb;omega
  rw [ag1 hlm hl]
  rotate_left
  ·rfl
  ·by_cases e:l=m
   ·simp only [e,jl,reduceCtorEq,Nat.reduceEqDiff,Nat.reduceAdd,Nat.reduceLT,Nat.reduceLeDiff,Z6]
   ·simp only [e,jl,reduceCtorEq,Nat.reduceEqDiff,Nat.reduceAdd,Nat.reduceLT,Nat.reduceLeDiff,Z6]
 ·have:l≠m:=fun e=>by subst e;simp at hb
  simp only [this,jl,reduceCtorEq,Nat.reduceEqDiff,Nat.reduceAdd,Nat.reduceLT,Nat.reduceLeDiff,Z6]
--+
theorem ag2 {l m:List Int}(hlm:l.length=m.length)(hl:l.length≤lim)
  {st:St} (h:st.head [0,1,12,13] st.boxes.length=some ⟨[.pv (.list 1 (l.map (PV.int .u8))),.pv (.list 1 (m.map (PV.int .u8))),.any,.any,.any,.any,.any,.any,.any,.any,.any,.any,.pv (.int .i64 l.length),.pv (.int .i64 (0:Nat)),.any,.any,.any,.any,.any,.any,.any,.any,.any,.any,.any,.any],[],[],none⟩) :
  den env FI st=if l=m then some (.normal,⟨[.any,.any,.any,.any,.any,.any,.any,.any,.any,.any,.any,.any,.any,.any,.any,.any,.any,.any,.any,.any,.any,.any,.any,.any,.any,.any],[],[],none⟩) else some (.ret,⟨[.any,.any,.any,.any,.pv (.bool false),.any,.any,.any,.any,.any,.any,.any,.any,.any,.any,.any,.any,.any,.any,.any,.any,.any,.any,.any,.any,.any],[],[],none⟩):=by
 unfold FI
 rw [aY l.length (fun i=>⟨[.pv (.list 1 (l.map (PV.int .u8))),.pv (.list 1 (m.map (PV.int .u8))),.any,.any,.any,.any,.any,.any,.any,.any,.any,.any,.pv (.int .i64 l.length),.pv (.int .i64 i),.any,.any,.any,.any,.any,.any,.any,.any,.any,.any,.any,.any],[],[],none⟩)
  (fun i=>if l.drop i=m.drop i then some (.normal,⟨[.any,.any,.any,.any,.any,.any,.any,.any,.any,.any,.any,.any,.any,.any,.any,.any,.any,.any,.any,.any,.any,.any,.any,.any,.any,.any],[],[],none⟩) else some (.ret,⟨[.any,.any,.any,.any,.pv (.bool false),.any,.any,.any,.any,.any,.any,.any,.any,.any,.any,.any,.any,.any,.any,.any,.any,.any,.any,.any,.any,.any],[],[],none⟩)) h (fun _=>rfl) (fun _=>rfl) ?_ ?_]
 ·simp only [ZaT]
 ·intro i rb hi ih
  have hi1:=bC hi hl
  have hj:i<m.length:=by omega
  have F1:((i:Int)<(l.length:Int))=True:=eq_true (by omega)
  simp only [FH,F1,Z3,au hi,au hj,zc,ZD hi,ZD hj,eI,bH,aZ,sO,fV,ru,gB,jl,reduceCtorEq,Nat.reduceEqDiff,Nat.reduceAdd,Nat.reduceLT,Nat.reduceLeDiff,Z6]
  (try simp only [dB,dO,dD]);refine bV (fun hb=>?_) (fun hb=>?_)<;>try simp only [hb,bJ,reduceCtorEq,Nat.reduceEqDiff,Nat.reduceAdd,Nat.reduceLT,Nat.reduceLeDiff,Z6]
  ·rw [ih _ (by simp only [hi1];rfl),zr hi,zr hj]
   have e:l[i]=m[i]:=by
    revert hb
    generalize l[i]=x
    generalize m[i]=y
    first|(intro hb;simpa using hb)|(cases x;cases y;intro hb;simpa using hb)
   simp only [e,Zbo.injEq,true_and]
  ·rw [zr hi,zr hj,if_neg (fun e=>?_)]
   ·rfl
   ·have e:=(Zbo.inj e).1
    rw [e] at hb
    simp at hb
 ·intro rb
  simp only [FH,Zat,jl,reduceCtorEq,Nat.reduceEqDiff,Nat.reduceAdd,Nat.reduceLT,Nat.reduceLeDiff,Z6]
  rw [ZaG,hlm,ZaG,if_pos rfl]
  rfl
theorem akp {l m:List Int}(hl:l.length≤lim) :
  cal env 192 [.list 1 (l.map (PV.int .u8)),.list 1 (m.map (PV.int .u8))]=some [(.bool (decide (l=m)),false)]:=by
 rw [aA ajw rfl];simp only [PY];simp only [start,aN,aU,aJ,aT,aF,aH,aK,aP,Nat.reduceAdd,Nat.reduceSub]
 simp only [Z3,jl,reduceCtorEq,Nat.reduceEqDiff,Nat.reduceAdd,Nat.reduceLT,Nat.reduceLeDiff,Z6]
 (try simp only [dB,dO,dD]);refine bV (fun hb=>?_) (fun hb=>?_)<;>try simp only [hb,bJ,reduceCtorEq,Nat.reduceEqDiff,Nat.reduceAdd,Nat.reduceLT,Nat.reduceLeDiff,Z6]
 ·have hlm:l.length=m.length:=by simp at hb;omega
  rw [ag2 hlm hl]
  rotate_left
  ·rfl
  ·by_cases e:l=m
   ·simp only [e,jl,reduceCtorEq,Nat.reduceEqDiff,Nat.reduceAdd,Nat.reduceLT,Nat.reduceLeDiff,Z6]
   ·simp only [e,jl,reduceCtorEq,Nat.reduceEqDiff,Nat.reduceAdd,Nat.reduceLT,Nat.reduceLeDiff,Z6]
 ·have:l≠m:=fun e=>by subst e;simp at hb
  simp only [this,jl,reduceCtorEq,Nat.reduceEqDiff,Nat.reduceAdd,Nat.reduceLT,Nat.reduceLeDiff,Z6]
--+
theorem ag3 {α β:Type}{enc:α→PV}{enc2:β→PV}{eq:α→β→Bool}{l:List α}{m:List β}{gf:Nat}{caps:List PV}(hp:∀ x∈l,∀ y∈m,cal env gf (enc x::enc2 y::caps)=some [(.bool (eq x y),false)])(hs:∀ x,part (enc x).cells 0 none=some (enc x))(hs2:∀ x,part (enc2 x).cells 0 none=some (enc2 x))(hlm:l.length=m.length)(hl:l.length≤lim)
  {st:St} (h:st.head [0,1,2,15,16,17] st.boxes.length=some ⟨[.pv (.list 1 (l.map enc)),.pv (.list 1 (m.map enc2)),.pv (.func gf caps),.any,.any,.any,.any,.any,.any,.any,.any,.any,.any,.any,.any,.pv (.list 1 (l.map enc)),.pv (.int .i64 l.length),.pv (.int .i64 (0:Nat)),.any,.any,.any,.any,.any,.any,.any,.any,.any,.any,.any,.any,.any,.any],[],[],none⟩) :
  den env FB st=if (l.zip m).all (fun q=>eq q.1 q.2) then some (.normal,⟨[.any,.any,.any,.any,.any,.any,.any,.any,.any,.any,.any,.any,.any,.any,.any,.any,.any,.any,.any,.any,.any,.any,.any,.any,.any,.any,.any,.any,.any,.any,.any,.any],[],[],none⟩) else some (.ret,⟨[.any,.any,.any,.any,.any,.any,.pv (.bool false),.any,.any,.any,.any,.any,.any,.any,.any,.any,.any,.any,.any,.any,.any,.any,.any,.any,.any,.any,.any,.any,.any,.any,.any,.any],[],[],none⟩):=by
 unfold FB
 rw [aY l.length (fun i=>⟨[.pv (.list 1 (l.map enc)),.pv (.list 1 (m.map enc2)),.pv (.func gf caps),.any,.any,.any,.any,.any,.any,.any,.any,.any,.any,.any,.any,.pv (.list 1 (l.map enc)),.pv (.int .i64 l.length),.pv (.int .i64 i),.any,.any,.any,.any,.any,.any,.any,.any,.any,.any,.any,.any,.any,.any],[],[],none⟩)
  (fun i=>if ((l.drop i).zip (m.drop i)).all (fun q=>eq q.1 q.2) then some (.normal,⟨[.any,.any,.any,.any,.any,.any,.any,.any,.any,.any,.any,.any,.any,.any,.any,.any,.any,.any,.any,.any,.any,.any,.any,.any,.any,.any,.any,.any,.any,.any,.any,.any],[],[],none⟩) else some (.ret,⟨[.any,.any,.any,.any,.any,.any,.pv (.bool false),.any,.any,.any,.any,.any,.any,.any,.any,.any,.any,.any,.any,.any,.any,.any,.any,.any,.any,.any,.any,.any,.any,.any,.any,.any],[],[],none⟩)) h (fun _=>rfl) (fun _=>rfl) ?_ ?_]
 ·simp only [ZaT]
 ·intro i rb hi ih
  have hi1:=bC hi hl
  have hj:i<m.length:=by omega
  have F1:((i:Int)<(l.length:Int))=True:=eq_true (by omega)
  simp only [Fz,F1,Z3,au hi,au hj,zc,ZD hi,ZD hj,hs,hs2,hp _ (Zap hi) _ (Zap hj),jl,reduceCtorEq,Nat.reduceEqDiff,Nat.reduceAdd,Nat.reduceLT,Nat.reduceLeDiff,Z6]
  (try simp only [dB,dO,dD]);refine bV (fun hb=>?_) (fun hb=>?_)<;>try simp only [hb,bJ,reduceCtorEq,Nat.reduceEqDiff,Nat.reduceAdd,Nat.reduceLT,Nat.reduceLeDiff,Z6]
  ·rw [ih _ (by simp only [hi1];rfl),zr hi,zr hj]
   simp only [ZcB,Zdf,hb,zz]
  ·rw [zr hi,zr hj]
   simp only [ZcB,Zdf,hb,Za8,zm,if_false]
   rfl
 ·intro rb
  simp only [Fz,Zat,jl,reduceCtorEq,Nat.reduceEqDiff,Nat.reduceAdd,Nat.reduceLT,Nat.reduceLeDiff,Z6]
  rw [ZaG]
  rfl
theorem akq {α β:Type}{enc:α→PV}{enc2:β→PV}{eq:α→β→Bool}{l:List α}{m:List β}{gf:Nat}{caps:List PV}(hp:∀ x∈l,∀ y∈m,cal env gf (enc x::enc2 y::caps)=some [(.bool (eq x y),false)])(hs:∀ x,part (enc x).cells 0 none=some (enc x))(hs2:∀ x,part (enc2 x).cells 0 none=some (enc2 x))(hl:l.length≤lim) :
  cal env 190 [.list 1 (l.map enc),.list 1 (m.map enc2),.func gf caps]=some [(.bool (eqF eq l m),false)]:=by
 rw [aA aju rfl];simp only [PW];simp only [start,aN,aU,aJ,aT,aF,aH,aK,aP,Nat.reduceAdd,Nat.reduceSub]
 simp only [Z3,jl,reduceCtorEq,Nat.reduceEqDiff,Nat.reduceAdd,Nat.reduceLT,Nat.reduceLeDiff,Z6]
 (try simp only [dB,dO,dD]);refine bV (fun hb=>?_) (fun hb=>?_)<;>try simp only [hb,bJ,reduceCtorEq,Nat.reduceEqDiff,Nat.reduceAdd,Nat.reduceLT,Nat.reduceLeDiff,Z6]
 ·have hlm:l.length=m.length:=by simp at hb;omega
  rw [ag3 hp hs hs2 hlm hl]
  rotate_left
  ·rfl
  ·simp only [eqF,decide_eq_true hlm,zz]
   cases (l.zip m).all (fun q=>eq q.1 q.2)<;>simp only [jl,reduceCtorEq,Nat.reduceEqDiff,Nat.reduceAdd,Nat.reduceLT,Nat.reduceLeDiff,Z6]
 ·have:¬ l.length=m.length:=fun e=>by rw [e] at hb;simp at hb
  simp only [eqF,decide_eq_false this,jl,reduceCtorEq,Nat.reduceEqDiff,Nat.reduceAdd,Nat.reduceLT,Nat.reduceLeDiff,Z6]
theorem akr {es:List PV}(hl:es.length≤lim):cal env 120 [.list 1 es]=some [(.list 1 es,true)]:=(Du ajg).trans (if_pos ⟨rfl,hl⟩)
def yN (l:List Int):List (List PV):=l.map fun n=>[PV.int .i64 n]
theorem aks (l m:List Int):yN (l++m)=yN l++yN m:=by simp [yN]
def rgN (s:Int)(i:Nat):List Int:=(Zam i).map fun (k:Nat)=>s+(k:Int)
theorem ad1 (s:Int)(i:Nat):rgN s (i+1)=rgN s i++[s+(i:Int)]:=by simp [rgN,Zbe]
theorem Zh {l:List bP}{i:Nat}(h:i<l.length):fU (l.take (i+1))=fU (l.take i)++rgN l[i].start l[i].count.toNat:=by
 rw [take_snoc h,xA];rfl
theorem ag5 {s:Int}{c:Nat}{Y:List Int}{A B C:PV}(hs:0≤s∧s≤10000)(hc:c≤10000){st:St}(h:st.head [0,4,6,7,8,13,14] st.boxes.length=some ⟨sl 26 [(0,.lV),(4,.aO 0 0),(6,.pv A),(7,.pv B),(8,.pv C),(13,.pv (.int .i64 (c:Int))),(14,.pv (.int .i64 (0:Nat)))],[⟨false,[.pv (.int .i64 s),.pv (.int .i64 (c:Int))]⟩],yN (Y++rgN s ((0:Nat))),some none⟩) :
  den env FP st=some (.normal,⟨sl 26 [(0,.lV),(6,.pv A),(7,.pv B),(8,.pv C)],[⟨false,[.pv (.int .i64 s),.pv (.int .i64 (c:Int))]⟩],yN (Y++rgN s c),some none⟩):=by
 unfold FP
 refine aY (env:=env) (nb:=1) (c) (fun i=>⟨sl 26 [(0,.lV),(4,.aO 0 0),(6,.pv A),(7,.pv B),(8,.pv C),(13,.pv (.int .i64 (c:Int))),(14,.pv (.int .i64 i))],[⟨false,[.pv (.int .i64 s),.pv (.int .i64 (c:Int))]⟩],yN (Y++rgN s (i)),some none⟩) (fun i=>some (.normal,⟨sl 26 [(0,.lV),(6,.pv A),(7,.pv B),(8,.pv C)],[⟨false,[.pv (.int .i64 s),.pv (.int .i64 (c:Int))]⟩],yN (Y++rgN s c),some none⟩)) h (fun _=>rfl) (fun _=>by simp only [aW,bI,Nat.reduceMul,Nat.reduceBEq,Nat.reduceLT,Nat.reduceLeDiff,Nat.reduceAdd,decide_true,zP,zz]) ?_ ?_
 ·intro i rb hi ih
  have hi1:=bC hi (by unfold lim;omega)
  have F1:((i:Int)<(c:Int))=True:=eq_true (by omega)
  have W1:IntKind.i64.wrap (s+(i:Int))=s+(i:Int):=aI (by omega)
  simp only [FN,F1,W1,aC,Nat.reduceMul,Nat.reduceBEq,Nat.reduceLT,Nat.reduceLeDiff,reduceCtorEq,Nat.reduceEqDiff,Nat.reduceAdd,Z6]
  rw [ih _ (by rw [ad1,← Zav,aks _ [s+(i:Int)]];simp only [hi1,aC,Nat.reduceMul,Nat.reduceBEq,Nat.reduceLT,Nat.reduceLeDiff,reduceCtorEq,Nat.reduceEqDiff,Nat.reduceAdd,Z6]<;>rfl)]
 ·intro rb
  simp only [FN,Zat,aC,Nat.reduceMul,Nat.reduceBEq,Nat.reduceLT,Nat.reduceLeDiff,reduceCtorEq,Nat.reduceEqDiff,Nat.reduceAdd,Z6]
theorem Zi {l:List bP}(hl:l.length≤10000)(ho:∀ x∈l,0≤x.start∧x.start≤10000∧0≤x.count∧x.count≤10000){st:St}(h:st.head [0,6,7,8] st.boxes.length=some ⟨sl 26 [(0,.lV),(6,.pv (.list 2 (l.map aZ))),(7,.pv (.int .i64 l.length)),(8,.pv (.int .i64 (0:Nat)))],[],yN (fU (l.take ((0:Nat)))),some none⟩) :
  den env FT st=some (.normal,⟨sl 26 [],[],yN (fU l),some none⟩):=by
 unfold FT
 refine aY (env:=env) (nb:=0) (l.length) (fun i=>⟨sl 26 [(0,.lV),(6,.pv (.list 2 (l.map aZ))),(7,.pv (.int .i64 l.length)),(8,.pv (.int .i64 i))],[],yN (fU (l.take (i))),some none⟩) (fun i=>some (.normal,⟨sl 26 [],[],yN (fU l),some none⟩)) h (fun _=>rfl) (fun _=>by simp only [aW,bI,Nat.reduceMul,Nat.reduceBEq,Nat.reduceLT,Nat.reduceLeDiff,Nat.reduceAdd,decide_true,zP,zz]) ?_ ?_
 ·intro i rb hi ih
  have hi1:=bC hi (by unfold lim;omega)
  have F1:((i:Int)<(l.length:Int))=True:=eq_true (by omega)
  have hx:(l.map aZ)[i]?=some (.agg [.int .i64 l[i].start,.int .i64 l[i].count]):=by rw [zc,ZD hi];rfl
  have hxo:=ho _ (Zap hi)
  rw [Zh hi] at ih
  generalize l[i]=x at *
  have hc:((x.count.toNat:Nat):Int)=x.count:=by omega
  simp only [FQ,F1,hx,au hi,Z3,aC,Nat.reduceMul,Nat.reduceBEq,Nat.reduceLT,Nat.reduceLeDiff,reduceCtorEq,Nat.reduceEqDiff,Nat.reduceAdd,Z6]
  rw [ag5 (s:=x.start) (c:=x.count.toNat) (Y:=fU (l.take i)) (A:=.list 2 (l.map aZ)) (B:=.int .i64 l.length) (C:=.int .i64 i) (by omega) (by omega) (by rw [show rgN x.start 0=[] from rfl,ZaI,hc];simp only [aW,bI,Nat.reduceMul,Nat.reduceBEq,Nat.reduceLT,Nat.reduceLeDiff,Nat.reduceAdd,decide_true,zP,zz]<;>rfl)]
  simp only [aC,Nat.reduceMul,Nat.reduceBEq,Nat.reduceLT,Nat.reduceLeDiff,reduceCtorEq,Nat.reduceEqDiff,Nat.reduceAdd,Z6]
  rw [ih _ (by simp only [hi1,aC,Nat.reduceMul,Nat.reduceBEq,Nat.reduceLT,Nat.reduceLeDiff,reduceCtorEq,Nat.reduceEqDiff,Nat.reduceAdd,Z6]<;>rfl)]
 ·intro rb
  rw [Zas]
  simp only [FQ,Zat,aC,Nat.reduceMul,Nat.reduceBEq,Nat.reduceLT,Nat.reduceLeDiff,reduceCtorEq,Nat.reduceEqDiff,Nat.reduceAdd,Z6]
theorem Wp {l:List bP}(hl:l.length≤10000)(ho:∀ x∈l,0≤x.start∧x.start≤10000∧0≤x.count∧x.count≤10000):iter env 196 [.cu [.list 2 (l.map aZ)] 0] none=some (yN (fU l)):=by
 rw [nK ajy rfl rfl]
 simp only [P5,vZ,aN,aU,aJ,aT,aF,aH,aK,aP,Nat.reduceAdd,Nat.reduceSub]
 simp only [aC,Nat.reduceMul,Nat.reduceBEq,Nat.reduceLT,Nat.reduceLeDiff,reduceCtorEq,Nat.reduceEqDiff,Nat.reduceAdd,Z6]
 rw [Zi hl ho (by simp only [aW,bI,Nat.reduceMul,Nat.reduceBEq,Nat.reduceLT,Nat.reduceLeDiff,Nat.reduceAdd,decide_true,zP,zz]<;>rfl)]
 first|rfl|simp only [aC,Nat.reduceMul,Nat.reduceBEq,Nat.reduceLT,Nat.reduceLeDiff,reduceCtorEq,Nat.reduceEqDiff,Nat.reduceAdd,Z6]
theorem ad2 {l:List PV}:cal env 108 [.list 2 l]=some [(.func 196 [.cu [.list 2 l] 0],false)]:=by
 rw [aA aje rfl];simp only [Po];simp only [start,aN,aU,aJ,aT,aF,aH,aK,aP,Nat.reduceAdd,Nat.reduceSub]
 simp only [bJ,reduceCtorEq,Nat.reduceEqDiff,Nat.reduceAdd,Nat.reduceLT,Nat.reduceLeDiff,Z6]
def iJ (l:List Int):PV:=.list 1 (l.map eU)
structure Tre where
 sz:Int
 lf:Int
 lv:List (List Int)
def Bg (t:Tre):PV:=.agg [.int .i64 t.sz,.int .i64 t.lf,.list 1 (t.lv.map iJ)]
theorem Dw (t:Tre):Bg t=.agg [.int .i64 t.sz,.int .i64 t.lf,.list 1 (t.lv.map iJ)]:=rfl
def Bh (sz lf:Int)(l:List Int):Tre:=⟨sz,lf,fG l⟩
theorem lG (sz lf:Int)(l:List Int):Bg (Bh sz lf l)=.agg [.int .i64 sz,.int .i64 lf,.list 1 ((fG l).map iJ)]:=rfl
def lvA (l:List Int)(i:Nat):AV:=if i=0 then .pv (.list 1 (l.map eU)) else .row 1 ((iq l i).map eU)
theorem zW {l:List Int}{i:Nat}(h:i<(fG l).length):(fG l).take (i+1)=(fG l).take i++[iq l i]:=by
 rw [take_snoc h,nM]
theorem yI {l:List Int}(h1:1≤l.length)(h2:l.length≤4096)(i:Nat):(iq l i).length≤4096:=by
 rw [fE];have:=zV l.length i h1;omega
set_option maxRecDepth 20000 in
theorem akt {l:List Int}{sz lf:Int}(h1:1≤l.length)(h2:l.length≤4096){st:St}(h:st.head [2,6,7,21] st.boxes.length=some ⟨sl 23 [(2,lvA l ((0:Nat))),(6,.aO 0 0),(7,.aO 1 0),(21,.any)],[⟨false,[.pv (.int .i64 0),.pv (.int .i64 0),.pv (.list 0 [])]⟩,⟨false,[.pv (.int .i64 sz),.pv (.int .i64 lf),.row 1 (((fG l).take ((0:Nat))).map iJ)]⟩],[],none⟩) :
  den env L6 st=some (.normal,⟨sl 23 [(6,.aO 0 0),(7,.aO 1 0)],[⟨false,[.pv (.int .i64 0),.pv (.int .i64 0),.pv (.list 0 [])]⟩,⟨false,[.pv (.int .i64 sz),.pv (.int .i64 lf),.row 1 ((fG l).map iJ)]⟩],[],none⟩):=by
 unfold L6
 refine aY (env:=env) (nb:=2) (gZ l.length) (fun i=>⟨sl 23 [(2,lvA l (i)),(6,.aO 0 0),(7,.aO 1 0),(21,.any)],[⟨false,[.pv (.int .i64 0),.pv (.int .i64 0),.pv (.list 0 [])]⟩,⟨false,[.pv (.int .i64 sz),.pv (.int .i64 lf),.row 1 (((fG l).take (i)).map iJ)]⟩],[],none⟩) (fun i=>some (.normal,⟨sl 23 [(6,.aO 0 0),(7,.aO 1 0)],[⟨false,[.pv (.int .i64 0),.pv (.int .i64 0),.pv (.list 0 [])]⟩,⟨false,[.pv (.int .i64 sz),.pv (.int .i64 lf),.row 1 ((fG l).map iJ)]⟩],[],none⟩)) h (fun _=>rfl) (fun _=>by unfold lvA;split<;>(simp only [aW,bI,Nat.reduceMul,Nat.reduceBEq,Nat.reduceLT,Nat.reduceLeDiff,Nat.reduceAdd,decide_true,zP,zz])) ?_ ?_
 ·intro i rb hi ih
  obtain ⟨d1,d2,d3⟩:=jk h1 h2
  have hd:=d2 i hi
  rw [← fE] at hd
  have hle:=yI h1 h2 i
  have F1:(((iq l i).length:Int)==1)=false:=by simp;omega
  have hil:i<(fG l).length:=by rw [dI];omega
  have F2:(((fG l).take i).length+1≤lim)=True:=eq_true (by rw [Zaa,dI];unfold lim;omega)
  have e1:=akn (l:=iq l i) hle
  have ea:iJ (iq l i)=.list 1 ((iq l i).map eU):=rfl
  have en:lvA l (i+1)=.row 1 ((yT (iq l i)).map eU):=rfl
  rw [zW hil,Zag,Zai,Zar,ea,en] at ih
  have F0:(1≤lim)=True:=eq_true (by decide)
  cases i with
  |zero =>
   have el:lvA l 0=.pv (.list 1 ((iq l 0).map eU)):=rfl
   simp only [zI,el,F0,F1,F2,e1,Z3,aC,Nat.reduceMul,Nat.reduceBEq,Nat.reduceLT,Nat.reduceLeDiff,reduceCtorEq,Nat.reduceEqDiff,Nat.reduceAdd,Z6]
   rw [ih _ (by simp only [aC,Nat.reduceMul,Nat.reduceBEq,Nat.reduceLT,Nat.reduceLeDiff,reduceCtorEq,Nat.reduceEqDiff,Nat.reduceAdd,Z6]<;>rfl)]
  |succ i =>
   have el:lvA l (i+1)=.row 1 ((iq l (i+1)).map eU):=rfl
   simp only [zI,el,F0,F1,F2,e1,Z3,aC,Nat.reduceMul,Nat.reduceBEq,Nat.reduceLT,Nat.reduceLeDiff,reduceCtorEq,Nat.reduceEqDiff,Nat.reduceAdd,Z6]
   rw [ih _ (by simp only [aC,Nat.reduceMul,Nat.reduceBEq,Nat.reduceLT,Nat.reduceLeDiff,reduceCtorEq,Nat.reduceEqDiff,Nat.reduceAdd,Z6]<;>rfl)]
 ·intro rb
  obtain ⟨d1,d2,d3⟩:=jk h1 h2
  have hil:gZ l.length<(fG l).length:=by rw [dI];omega
  have hlen:(iq l (gZ l.length)).length=1:=by rw [fE];exact d1
  have F1:(((iq l (gZ l.length)).length:Int)==1)=true:=by rw [hlen];rfl
  have F2:(((fG l).take (gZ l.length)).length+1≤lim)=True:=eq_true (by rw [Zaa,dI];unfold lim;omega)
  have ea:iJ (iq l (gZ l.length))=.list 1 ((iq l (gZ l.length)).map eU):=rfl
  have et:(fG l).map iJ=((fG l).take (gZ l.length)).map iJ++[.list 1 ((iq l (gZ l.length)).map eU)]:=by
   conv=>lhs;rw [← Zas (l:=fG l),dI,zW hil]
   rw [Zag,Zai,Zar,ea]
  rw [et]
  generalize gZ l.length=d at *
  have F0:(1≤lim)=True:=eq_true (by decide)
  cases d with
  |zero =>
   have el:lvA l 0=.pv (.list 1 ((iq l 0).map eU)):=rfl
   simp only [zI,el,F0,F1,F2,Z3,aC,Nat.reduceMul,Nat.reduceBEq,Nat.reduceLT,Nat.reduceLeDiff,reduceCtorEq,Nat.reduceEqDiff,Nat.reduceAdd,Z6]
  |succ i =>
   have el:lvA l (i+1)=.row 1 ((iq l (i+1)).map eU):=rfl
   simp only [zI,el,F0,F1,F2,Z3,aC,Nat.reduceMul,Nat.reduceBEq,Nat.reduceLT,Nat.reduceLeDiff,reduceCtorEq,Nat.reduceEqDiff,Nat.reduceAdd,Z6]
set_option maxRecDepth 20000 in
theorem ahY {l:List Int}{sz lf:Int}(h1:1≤l.length)(h2:l.length≤4096):cal env 94 [.int .i64 sz,.int .i64 lf,.list 1 (l.map eU)]=some [(Bg (Bh sz lf l),false)]:=by
 have el:lvA l 0=.pv (.list 1 (l.map eU)):=rfl
 rw [lG]
 rw [aA amL rfl];simp only [ab5,aW,Nat.reduceBEq,Nat.reduceLeDiff,Nat.reduceAdd,zd,zj]
 simp only [aC,Nat.reduceMul,Nat.reduceBEq,Nat.reduceLT,Nat.reduceLeDiff,reduceCtorEq,Nat.reduceEqDiff,Nat.reduceAdd,Z6]
 rw [akt (l:=l) (sz:=sz) (lf:=lf) h1 h2 (by rw [el];simp only [aW,bI,Nat.reduceMul,Nat.reduceBEq,Nat.reduceLT,Nat.reduceLeDiff,Nat.reduceAdd,decide_true,zP,zz]<;>rfl)]
 simp only [aC,Nat.reduceMul,Nat.reduceBEq,Nat.reduceLT,Nat.reduceLeDiff,reduceCtorEq,Nat.reduceEqDiff,Nat.reduceAdd,Z6]
theorem ahZ {sz lf:Int}(h1:1≤sz∧sz≤4096)(h2:1≤lf∧lf≤4096):cal env 91 [.int .i64 sz,.int .i64 lf]=some [(.int .i64 0,false)]:=by
 have F1:(sz<1)=False:=eq_false (by omega)
 have F2:(sz > 4096)=False:=eq_false (by omega)
 have F3:(lf<1)=False:=eq_false (by omega)
 have F4:(lf > 4096)=False:=eq_false (by omega)
 rw [aA amI rfl];simp only [ab2,aW,Nat.reduceBEq,Nat.reduceLeDiff,Nat.reduceAdd,zd,zj]
 simp only [F1,F2,F3,F4,aC,Nat.reduceMul,Nat.reduceBEq,Nat.reduceLT,Nat.reduceLeDiff,reduceCtorEq,Nat.reduceEqDiff,Nat.reduceAdd,Z6]
def QM (sz lf:Int):Int:=(sz+lf - 1) / lf
theorem aku {sz lf:Int}(h1:1≤sz∧sz≤4096)(h2:1≤lf∧lf≤4096):cal env 189 [.int .i64 sz,.int .i64 lf]=some [(.int .i64 (QM sz lf),false)]:=by
 have W1:IntKind.i64.wrap (sz+lf)=sz+lf:=aI (by omega)
 have W2:IntKind.i64.wrap (sz+lf - 1)=sz+lf - 1:=aI (by omega)
 have Z:(lf=0)=False:=eq_false (by omega)
 have b1:0≤(sz+lf - 1) / lf:=Int.ediv_nonneg (by omega) (by omega)
 have b2:(sz+lf - 1) / lf≤sz+lf - 1:=Zdw _ (by omega)
 have T:(sz+lf - 1).tdiv lf=QM sz lf:=by unfold QM;rw [Zbg (by omega)]
 have W3:IntKind.i64.wrap (QM sz lf)=QM sz lf:=by unfold QM;exact aI (by omega)
 rw [aA ajt rfl];simp only [PU,aW,Nat.reduceBEq,Nat.reduceLeDiff,Nat.reduceAdd,zd,zj]
 simp only [W1,W2,W3,Z,T,aC,Nat.reduceMul,Nat.reduceBEq,Nat.reduceLT,Nat.reduceLeDiff,reduceCtorEq,Nat.reduceEqDiff,Nat.reduceAdd,Z6]
structure U2 (sz lf:Int)(l:List Int):Prop where
 s:1≤sz∧sz≤4096
 f:1≤lf∧lf≤4096
 n:(l.length:Int)=QM sz lf
 u:∀ d∈l,QI d
theorem U2.len {sz lf:Int}{l:List Int}(h:U2 sz lf l):1≤l.length∧l.length≤4096:=by
 obtain ⟨⟨s1,s2⟩,⟨f1,f2⟩,n,_⟩:=h
 unfold QM at n
 have a1:1≤(sz+lf - 1) / lf:=(Int.le_ediv_iff_mul_le (by omega)).2 (by omega)
 have a2:(sz+lf - 1) / lf<4097:=(Int.ediv_lt_iff_lt_mul (by omega)).2 (by
  have:(1:Int)*4096≤lf*4096:=Int.mul_le_mul_of_nonneg_right f1 (by decide)
  have:(4097:Int)*lf=lf*4096+lf:=by rw [Int.mul_comm];omega
  omega)
 omega
def Dh (n len:Nat):Nat:=(len+n - 1) / n
def Wq (n:Nat)(l:List PV)(i:Nat):List PV:=(l.drop (i*n)).take n
def chk (n:Nat)(l:List PV):List (List PV):=(Zam (Dh n l.length)).map (Wq n l)
theorem rD (n:Nat)(l:List PV):(chk n l).length=Dh n l.length:=by simp [chk]
theorem MF {n:Nat}{l:List PV}{i:Nat}(h:i<(chk n l).length):(chk n l)[i]=Wq n l i:=by simp [chk]
theorem rE {n len i:Nat}(hn:1≤n):i<Dh n len ↔ i*n<len:=by
 unfold Dh
 rw [Nat.lt_div_iff_mul_lt (by omega)]
 omega
def yC (sz:Nat)(l:List (List PV)):List (List PV):=l.map fun p=>[PV.list sz p]
theorem Ws (sz:Nat)(l:List (List PV))(p:List PV):yC sz (l++[p])=yC sz l++[[.list sz p]]:=by simp [yC]
theorem zX {n:Nat}{l:List PV}{i k:Nat}(h:k=n∨(k=l.length - i*n∧k≤n)):(l.drop (i*n)).take k=Wq n l i:=by
 unfold Wq
 rcases h with rfl|⟨h1,h2⟩
 ·rfl
 ·rw [ZaH (by rw [ZaL];omega),ZaH (by rw [ZaL];omega)]
--+
theorem ag7 {l:List PV}{n:Nat}(hl:l.length≤100000)(hn:1≤n∧n≤100000){st:St}(h:st.head [0,1,2,4] st.boxes.length=some ⟨sl 31 [(0,.lV),(1,.pv (.cu [.list 1 l] 0)),(2,.pv (.cu [.int .i64 (n:Int)] 0)),(4,.pv (.int .i64 ((((0:Nat))*n:Nat):Int)))],[],yC 1 ((chk n l).take ((0:Nat))),some none⟩) :
  den env FM st=some (.normal,⟨sl 31 [],[],yC 1 (chk n l),some none⟩):=by
 unfold FM
 refine aY (env:=env) (nb:=0) ((chk n l).length) (fun i=>⟨sl 31 [(0,.lV),(1,.pv (.cu [.list 1 l] 0)),(2,.pv (.cu [.int .i64 (n:Int)] 0)),(4,.pv (.int .i64 (((i)*n:Nat):Int)))],[],yC 1 ((chk n l).take (i)),some none⟩) (fun i=>some (.normal,⟨sl 31 [],[],yC 1 (chk n l),some none⟩)) h (fun _=>rfl) (fun _=>by simp only [aW,bI,Nat.reduceMul,Nat.reduceBEq,Nat.reduceLT,Nat.reduceLeDiff,Nat.reduceAdd,decide_true,zP,zz]) ?_ ?_
 ·intro i rb hi ih
  have hi':i*n<l.length:=by rw [rD] at hi;exact (rE hn.1).1 hi
  have F1:(((i*n:Nat):Int)<(l.length:Int))=True:=eq_true (by omega)
  have F2:((0:Int)≤((i*n:Nat):Int)∧((i*n:Nat):Int)≤(l.length:Int))=True:=eq_true (by omega)
  have hsn:(i+1)*n=i*n+n:=by rw [Nat.add_mul,Nat.one_mul]
  rw [take_snoc hi,MF,Ws] at ih
  rw [hsn] at ih
  generalize hoff:i*n=off at *
  have W2:IntKind.i64.wrap ((off:Int)+(n:Int))=((off+n:Nat):Int):=by rw [aI (by omega)];omega
  have T1:((off:Nat):Int).toNat=off:=Zay off
  have hlen:(l.drop off).length=l.length - off:=ZaL ..
  have hlen2:((l.drop off).take (l.length - off)).length=l.length - off:=by rw [Zaa,hlen];omega
  have Q0:((0:Int)≤(off:Int))=True:=eq_true (by omega)
  have Q3:((off:Int)≤(l.length:Int))=True:=eq_true (by omega)
  by_cases c:((l.length - off:Nat):Int)<(n:Int)
  ·have F3:=eq_true c
   have W1:IntKind.i64.wrap ((off:Int)+((l.length - off:Nat):Int))=(l.length:Int):=by rw [aI (by omega)];omega
   have hp:(l.drop off).take (l.length - off)=Wq n l i:=by rw [← hoff];exact zX (.inr ⟨rfl,by omega⟩)
   have E1:((0:Int)≤(l.length:Int)∧(l.length:Int)≤(l.length:Int))=True:=eq_true (by omega)
   have E0:((0:Int)≤(l.length:Int))=True:=eq_true (by omega)
   have E2:((l.length:Int)≤(l.length:Int))=True:=eq_true (by omega)
   have T2:((l.length:Nat):Int).toNat=l.length:=Zay _
   simp only [zN,F1,F3,W1,W2,T1,T2,E0,E1,E2,hlen,hlen2,Q0,Q3,aC,Nat.reduceMul,Nat.reduceBEq,Nat.reduceLT,Nat.reduceLeDiff,reduceCtorEq,Nat.reduceEqDiff,Nat.reduceAdd,Z6]
   rw [hp,ih _ (by simp only [aC,Nat.reduceMul,Nat.reduceBEq,Nat.reduceLT,Nat.reduceLeDiff,reduceCtorEq,Nat.reduceEqDiff,Nat.reduceAdd,Z6]<;>rfl)]
  ·have F3:=eq_false c
   have hp:(l.drop off).take (off+n - off)=Wq n l i:=by rw [← hoff];exact zX (.inl (by omega))
   have E1:((0:Int)≤((off+n:Nat):Int)∧((off+n:Nat):Int)≤(l.length:Int))=True:=eq_true (by omega)
   have E2:((0:Int)≤((off+n:Nat):Int)∧((off+n:Nat):Int)≤((off+n:Nat):Int))=True:=eq_true (by omega)
   have E3:((off:Int)≤((off+n:Nat):Int))=True:=eq_true (by omega)
   have T2:((off+n:Nat):Int).toNat=off+n:=Zay _
   have E4:((0:Int)≤((off+n:Nat):Int))=True:=eq_true (by omega)
   have E5:(((off+n:Nat):Int)≤(l.length:Int))=True:=eq_true (by omega)
   have E6:(((off+n:Nat):Int)≤((off+n:Nat):Int))=True:=eq_true (ZbS _)
   simp only [zN,F1,F3,W2,T1,T2,E3,E4,E5,E6,true_and,hlen,hlen2,Q0,Q3,aC,Nat.reduceMul,Nat.reduceBEq,Nat.reduceLT,Nat.reduceLeDiff,reduceCtorEq,Nat.reduceEqDiff,Nat.reduceAdd,Z6]
   rw [hp,ih _ (by simp only [aC,Nat.reduceMul,Nat.reduceBEq,Nat.reduceLT,Nat.reduceLeDiff,reduceCtorEq,Nat.reduceEqDiff,Nat.reduceAdd,Z6]<;>rfl)]
 ·intro rb
  have F1:((((chk n l).length*n:Nat):Int)<(l.length:Int))=False:=eq_false (by
   have h1:¬ ((chk n l).length<Dh n l.length):=by rw [rD];omega
   have h2:=mt (rE (len:=l.length) (i:=(chk n l).length) hn.1).2 h1
   omega)
  rw [Zas]
  simp only [zN,F1,aC,Nat.reduceMul,Nat.reduceBEq,Nat.reduceLT,Nat.reduceLeDiff,reduceCtorEq,Nat.reduceEqDiff,Nat.reduceAdd,Z6]
theorem ag8 {l:List PV}{n:Nat}(hl:l.length≤100000)(hn:1≤n∧n≤100000):iter env 195 [.cu [.list 1 l] 0,.cu [.int .i64 (n:Int)] 0] none=some (yC 1 (chk n l)):=by
 rw [nK ajx rfl rfl]
 simp only [PZ,vZ,aN,aU,aJ,aT,aF,aH,aK,aP,Nat.reduceAdd,Nat.reduceSub]
 simp only [aC,Nat.reduceMul,Nat.reduceBEq,Nat.reduceLT,Nat.reduceLeDiff,reduceCtorEq,Nat.reduceEqDiff,Nat.reduceAdd,Z6]
 rw [ag7 hl hn (by rw [show ((0*n:Nat):Int)=0 by simp];simp only [aW,bI,Nat.reduceMul,Nat.reduceBEq,Nat.reduceLT,Nat.reduceLeDiff,Nat.reduceAdd,decide_true,zP,zz]<;>rfl)]
 first|rfl|simp only [aC,Nat.reduceMul,Nat.reduceBEq,Nat.reduceLT,Nat.reduceLeDiff,reduceCtorEq,Nat.reduceEqDiff,Nat.reduceAdd,Z6]
theorem akv {l:List PV}{n:Nat}(hn:1≤n):cal env 105 [.list 1 l,.int .i64 (n:Int)]=some [(.func 195 [.cu [.list 1 l] 0,.cu [.int .i64 (n:Int)] 0],false)]:=by
 have F1:((n:Int)<1)=False:=eq_false (by omega)
 rw [aA ajc rfl];simp only [Pn,aW,Nat.reduceBEq,Nat.reduceLeDiff,Nat.reduceAdd,zd,zj]
 simp only [F1,aC,Nat.reduceMul,Nat.reduceBEq,Nat.reduceLT,Nat.reduceLeDiff,reduceCtorEq,Nat.reduceEqDiff,Nat.reduceAdd,Z6]
--+
theorem ag9 {l:List PV}{n:Nat}(hl:l.length≤100000)(hn:1≤n∧n≤100000){st:St}(h:st.head [0,1,2,4] st.boxes.length=some ⟨sl 31 [(0,.lV),(1,.pv (.cu [.list 8 l] 0)),(2,.pv (.cu [.int .i64 (n:Int)] 0)),(4,.pv (.int .i64 ((((0:Nat))*n:Nat):Int)))],[],yC 8 ((chk n l).take ((0:Nat))),some none⟩) :
  den env Fb st=some (.normal,⟨sl 31 [],[],yC 8 (chk n l),some none⟩):=by
 unfold Fb
 refine aY (env:=env) (nb:=0) ((chk n l).length) (fun i=>⟨sl 31 [(0,.lV),(1,.pv (.cu [.list 8 l] 0)),(2,.pv (.cu [.int .i64 (n:Int)] 0)),(4,.pv (.int .i64 (((i)*n:Nat):Int)))],[],yC 8 ((chk n l).take (i)),some none⟩) (fun i=>some (.normal,⟨sl 31 [],[],yC 8 (chk n l),some none⟩)) h (fun _=>rfl) (fun _=>by simp only [aW,bI,Nat.reduceMul,Nat.reduceBEq,Nat.reduceLT,Nat.reduceLeDiff,Nat.reduceAdd,decide_true,zP,zz]) ?_ ?_
 ·intro i rb hi ih
  have hi':i*n<l.length:=by rw [rD] at hi;exact (rE hn.1).1 hi
  have F1:(((i*n:Nat):Int)<(l.length:Int))=True:=eq_true (by omega)
  have F2:((0:Int)≤((i*n:Nat):Int)∧((i*n:Nat):Int)≤(l.length:Int))=True:=eq_true (by omega)
  have hsn:(i+1)*n=i*n+n:=by rw [Nat.add_mul,Nat.one_mul]
  rw [take_snoc hi,MF,Ws] at ih
  rw [hsn] at ih
  generalize hoff:i*n=off at *
  have W2:IntKind.i64.wrap ((off:Int)+(n:Int))=((off+n:Nat):Int):=by rw [aI (by omega)];omega
  have T1:((off:Nat):Int).toNat=off:=Zay off
  have hlen:(l.drop off).length=l.length - off:=ZaL ..
  have hlen2:((l.drop off).take (l.length - off)).length=l.length - off:=by rw [Zaa,hlen];omega
  have Q0:((0:Int)≤(off:Int))=True:=eq_true (by omega)
  have Q3:((off:Int)≤(l.length:Int))=True:=eq_true (by omega)
  by_cases c:((l.length - off:Nat):Int)<(n:Int)
  ·have F3:=eq_true c
   have W1:IntKind.i64.wrap ((off:Int)+((l.length - off:Nat):Int))=(l.length:Int):=by rw [aI (by omega)];omega
   have hp:(l.drop off).take (l.length - off)=Wq n l i:=by rw [← hoff];exact zX (.inr ⟨rfl,by omega⟩)
   have E1:((0:Int)≤(l.length:Int)∧(l.length:Int)≤(l.length:Int))=True:=eq_true (by omega)
   have E0:((0:Int)≤(l.length:Int))=True:=eq_true (by omega)
   have E2:((l.length:Int)≤(l.length:Int))=True:=eq_true (by omega)
   have T2:((l.length:Nat):Int).toNat=l.length:=Zay _
   simp only [zL,F1,F3,W1,W2,T1,T2,E0,E1,E2,hlen,hlen2,Q0,Q3,aC,Nat.reduceMul,Nat.reduceBEq,Nat.reduceLT,Nat.reduceLeDiff,reduceCtorEq,Nat.reduceEqDiff,Nat.reduceAdd,Z6]
   rw [hp,ih _ (by simp only [aC,Nat.reduceMul,Nat.reduceBEq,Nat.reduceLT,Nat.reduceLeDiff,reduceCtorEq,Nat.reduceEqDiff,Nat.reduceAdd,Z6]<;>rfl)]
  ·have F3:=eq_false c
   have hp:(l.drop off).take (off+n - off)=Wq n l i:=by rw [← hoff];exact zX (.inl (by omega))
   have E1:((0:Int)≤((off+n:Nat):Int)∧((off+n:Nat):Int)≤(l.length:Int))=True:=eq_true (by omega)
   have E2:((0:Int)≤((off+n:Nat):Int)∧((off+n:Nat):Int)≤((off+n:Nat):Int))=True:=eq_true (by omega)
   have E3:((off:Int)≤((off+n:Nat):Int))=True:=eq_true (by omega)
   have T2:((off+n:Nat):Int).toNat=off+n:=Zay _
   have E4:((0:Int)≤((off+n:Nat):Int))=True:=eq_true (by omega)
   have E5:(((off+n:Nat):Int)≤(l.length:Int))=True:=eq_true (by omega)
   have E6:(((off+n:Nat):Int)≤((off+n:Nat):Int))=True:=eq_true (ZbS _)
   simp only [zL,F1,F3,W2,T1,T2,E3,E4,E5,E6,true_and,hlen,hlen2,Q0,Q3,aC,Nat.reduceMul,Nat.reduceBEq,Nat.reduceLT,Nat.reduceLeDiff,reduceCtorEq,Nat.reduceEqDiff,Nat.reduceAdd,Z6]
   rw [hp,ih _ (by simp only [aC,Nat.reduceMul,Nat.reduceBEq,Nat.reduceLT,Nat.reduceLeDiff,reduceCtorEq,Nat.reduceEqDiff,Nat.reduceAdd,Z6]<;>rfl)]
 ·intro rb
  have F1:((((chk n l).length*n:Nat):Int)<(l.length:Int))=False:=eq_false (by
   have h1:¬ ((chk n l).length<Dh n l.length):=by rw [rD];omega
   have h2:=mt (rE (len:=l.length) (i:=(chk n l).length) hn.1).2 h1
   omega)
  rw [Zas]
  simp only [zL,F1,aC,Nat.reduceMul,Nat.reduceBEq,Nat.reduceLT,Nat.reduceLeDiff,reduceCtorEq,Nat.reduceEqDiff,Nat.reduceAdd,Z6]
theorem aha {l:List PV}{n:Nat}(hl:l.length≤100000)(hn:1≤n∧n≤100000):iter env 184 [.cu [.list 8 l] 0,.cu [.int .i64 (n:Int)] 0] none=some (yC 8 (chk n l)):=by
 rw [nK ajo rfl rfl]
 simp only [PG,vZ,aN,aU,aJ,aT,aF,aH,aK,aP,Nat.reduceAdd,Nat.reduceSub]
 simp only [aC,Nat.reduceMul,Nat.reduceBEq,Nat.reduceLT,Nat.reduceLeDiff,reduceCtorEq,Nat.reduceEqDiff,Nat.reduceAdd,Z6]
 rw [ag9 hl hn (by rw [show ((0*n:Nat):Int)=0 by simp];simp only [aW,bI,Nat.reduceMul,Nat.reduceBEq,Nat.reduceLT,Nat.reduceLeDiff,Nat.reduceAdd,decide_true,zP,zz]<;>rfl)]
 first|rfl|simp only [aC,Nat.reduceMul,Nat.reduceBEq,Nat.reduceLT,Nat.reduceLeDiff,reduceCtorEq,Nat.reduceEqDiff,Nat.reduceAdd,Z6]
theorem amV {l:List PV}{n:Nat}(hn:1≤n):cal env 92 [.list 8 l,.int .i64 (n:Int)]=some [(.func 184 [.cu [.list 8 l] 0,.cu [.int .i64 (n:Int)] 0],false)]:=by
 have F1:((n:Int)<1)=False:=eq_false (by omega)
 rw [aA amJ rfl];simp only [ab3,aW,Nat.reduceBEq,Nat.reduceLeDiff,Nat.reduceAdd,zd,zj]
 simp only [F1,aC,Nat.reduceMul,Nat.reduceBEq,Nat.reduceLT,Nat.reduceLeDiff,reduceCtorEq,Nat.reduceEqDiff,Nat.reduceAdd,Z6]
theorem Wu {α:Type}[DecidableEq α]:∀ l:List α,(l.zip l).all (fun q=>decide (q.1=q.2))=true
 |[]=>rfl
 |x::l=>by rw [ZcB,Zdf,Wu l];simp
def cz (n i:Nat):Nat:=if i≤gZ n then cd n i else 0
set_option maxRecDepth 20000 in
theorem akw {l:List Int}{sz lf:Int}(h1:1≤l.length)(h2:l.length≤4096){st:St}(h:st.head [1,4,22,23,24] st.boxes.length=some ⟨sl 68 [(1,.aO 0 0),(4,.pv (.int .i64 (cz l.length ((0:Nat)):Int))),(22,.pv (.list 1 ((fG l).map iJ))),(23,.pv (.int .i64 (fG l).length)),(24,.pv (.int .i64 (0:Nat)))],[⟨false,[.pv (.int .i64 sz),.pv (.int .i64 lf),.pv (.list 1 ((fG l).map iJ))]⟩],[],none⟩) :
  den env L8 st=some (.normal,⟨sl 68 [(1,.aO 0 0),(2,.any),(4,.pv (.int .i64 0))],[⟨false,[.pv (.int .i64 sz),.pv (.int .i64 lf),.pv (.list 1 ((fG l).map iJ))]⟩],[],none⟩):=by
 unfold L8
 refine aY (env:=env) (nb:=1) ((fG l).length) (fun i=>⟨sl 68 [(1,.aO 0 0),(4,.pv (.int .i64 (cz l.length (i):Int))),(22,.pv (.list 1 ((fG l).map iJ))),(23,.pv (.int .i64 (fG l).length)),(24,.pv (.int .i64 i))],[⟨false,[.pv (.int .i64 sz),.pv (.int .i64 lf),.pv (.list 1 ((fG l).map iJ))]⟩],[],none⟩) (fun i=>some (.normal,⟨sl 68 [(1,.aO 0 0),(2,.any),(4,.pv (.int .i64 0))],[⟨false,[.pv (.int .i64 sz),.pv (.int .i64 lf),.pv (.list 1 ((fG l).map iJ))]⟩],[],none⟩)) h (fun _=>rfl) (fun _=>by simp only [aW,bI,Nat.reduceMul,Nat.reduceBEq,Nat.reduceLT,Nat.reduceLeDiff,Nat.reduceAdd,decide_true,zP,zz]) ?_ ?_
 ·intro i rb hi ih
  obtain ⟨d1,d2,d3⟩:=jk h1 h2
  have hll:=dI l
  have hi1:=bC hi (by unfold lim;omega)
  have F1:((i:Int)<((fG l).length:Int))=True:=eq_true (by omega)
  have hx:((fG l).map iJ)[i]?=some (.list 1 ((iq l i).map eU)):=by rw [zc,ZD hi,nM];rfl
  have hn:(iq l i).length=cd l.length i:=fE l i
  have hcd:=zV l.length i h1
  have hcp:=G7 h1 i
  have hzi:cz l.length i=cd l.length i:=by unfold cz;rw [if_pos (by omega)]
  rw [hzi]
  have E1:((cd l.length i:Int) != (cd l.length i:Int))=false:=by simp
  have W1:IntKind.i64.wrap ((i:Int)+1)=((i+1:Nat):Int):=hi1
  by_cases c:i=gZ l.length
  ·have hc1:cd l.length i=1:=by rw [c];exact d1
   have F2:(((i+1:Nat):Int)<((fG l).length:Int))=False:=eq_false (by omega)
   have hz:cz l.length (i+1)=0:=by unfold cz;rw [if_neg (by omega)]
   have E2:((1:Int)==1)=true:=rfl
   have E3:IntKind.i64.wrap (0+1)=1:=rfl
   have E4:IntKind.i64.wrap ((1:Int).tdiv 2)=0:=rfl
   have z2:((2:Int)=0)=False:=eq_false (by decide)
   rw [hz] at ih
   rw [hc1] at hn E1 ⊢
   simp only [Dv,F1,F2,hx,hn,E1,E2,E3,E4,z2,W1,Int.ofNat_one,show ((1:Nat):Int)=1 from rfl,au hi,Z3,aC,Nat.reduceMul,Nat.reduceBEq,Nat.reduceLT,Nat.reduceLeDiff,reduceCtorEq,Nat.reduceEqDiff,Nat.reduceAdd,Z6]
   rw [ih _ (by simp only [show ((0:Nat):Int)=0 from rfl,aC,Nat.reduceMul,Nat.reduceBEq,Nat.reduceLT,Nat.reduceLeDiff,reduceCtorEq,Nat.reduceEqDiff,Nat.reduceAdd,Z6]<;>rfl)]
  ·have hc2:=d2 i (by omega)
   have E2:((cd l.length i:Int)==1)=false:=by simp;omega
   have W2:IntKind.i64.wrap ((cd l.length i:Int)+1)=(cd l.length i:Int)+1:=aI (by omega)
   have hz:cz l.length (i+1)=(cd l.length i+1) / 2:=by unfold cz;rw [if_pos (by omega)];rfl
   have T:((cd l.length i:Int)+1).tdiv 2=(((cd l.length i+1) / 2:Nat):Int):=by rw [Zbg (by omega)];omega
   have W3:IntKind.i64.wrap ((((cd l.length i+1) / 2:Nat):Int))=(((cd l.length i+1) / 2:Nat):Int):=aI (by omega)
   have z2:((2:Int)=0)=False:=eq_false (by decide)
   rw [hz] at ih
   simp only [Dv,F1,hx,hn,E1,E2,T,W1,W2,W3,z2,au hi,Z3,aC,Nat.reduceMul,Nat.reduceBEq,Nat.reduceLT,Nat.reduceLeDiff,reduceCtorEq,Nat.reduceEqDiff,Nat.reduceAdd,Z6]
   rw [ih _ (by simp only [aC,Nat.reduceMul,Nat.reduceBEq,Nat.reduceLT,Nat.reduceLeDiff,reduceCtorEq,Nat.reduceEqDiff,Nat.reduceAdd,Z6]<;>rfl)]
 ·intro rb
  have hz:cz l.length (fG l).length=0:=by unfold cz;rw [if_neg (by rw [dI];omega)]
  rw [hz]
  simp only [Dv,Zat,show ((0:Nat):Int)=0 from rfl,Z3,aC,Nat.reduceMul,Nat.reduceBEq,Nat.reduceLT,Nat.reduceLeDiff,reduceCtorEq,Nat.reduceEqDiff,Nat.reduceAdd,Z6]
set_option maxRecDepth 20000 in
theorem Wv {l:List Int}{sz lf:Int}(h:U2 sz lf l):cal env 95 [Bg (Bh sz lf l)]=some [(.int .i64 0,false)]:=by
 obtain ⟨h1,h2⟩:=h.len
 obtain ⟨d1,d2,d3⟩:=jk h1 h2
 have hll:=dI l
 have e1:=ahZ h.s h.f
 have e2:=aku h.s h.f
 have e3:=ahY (l:=l) (sz:=sz) (lf:=lf) h1 h2
 have e4:=akq (enc:=iJ) (enc2:=iJ) (eq:=fun x y=>decide (x=y)) (l:=fG l) (m:=fG l) (gf:=191) (caps:=[]) (fun x hx y hy=>ako (l:=x) (m:=y) (by
  obtain ⟨i,hi,rfl⟩:=Zbs hx
  rw [nM]
  have:=yI h1 h2 i
  unfold lim;omega)) (fun _=>rfl) (fun _=>rfl) (by rw [hll];unfold lim;omega)
 have e5:eqF (fun x y=>decide (x=y)) (fG l) (fG l)=true:=by
  unfold eqF
  rw [decide_eq_true rfl,zz]
  exact Wu _
 rw [e5] at e4
 rw [← h.n] at e2
 rw [lG] at e3 ⊢
 have P3:∀ a b c:PV,part [a,b,c] 0 (some 3)=some (.agg [a,b,c]):=fun _ _ _=>rfl
 have hx:((fG l).map iJ)[0]?=some (.list 1 (l.map eU)):=by rw [zc,ZD (by omega),nM];rfl
 have hz:cz l.length 0=l.length:=by unfold cz;rw [if_pos (by omega)];rfl
 have hI:index (.int .i64 0) (fG l).length=some 0:=au (n:=(fG l).length) (i:=0) (by omega)
 have Z:((0:Int) != 0)=false:=rfl
 rw [aA amM rfl];simp only [ab6,aW,Nat.reduceBEq,Nat.reduceLeDiff,Nat.reduceAdd,zd,zj]
 simp only [e1,e2,e3,e4,P3,hx,hI,Z,Z3,aC,Nat.reduceMul,Nat.reduceBEq,Nat.reduceLT,Nat.reduceLeDiff,reduceCtorEq,Nat.reduceEqDiff,Nat.reduceAdd,Z6]
 rw [akw (l:=l) (sz:=sz) (lf:=lf) h1 h2 (by rw [hz];simp only [aW,bI,Nat.reduceMul,Nat.reduceBEq,Nat.reduceLT,Nat.reduceLeDiff,Nat.reduceAdd,decide_true,zP,zz]<;>rfl)]
 simp only [e1,e2,e3,e4,P3,hx,hI,Z,Z3,aC,Nat.reduceMul,Nat.reduceBEq,Nat.reduceLT,Nat.reduceLeDiff,reduceCtorEq,Nat.reduceEqDiff,Nat.reduceAdd,Z6]
set_option maxRecDepth 20000 in
theorem akx {t:Tre}(hl:t.lv.length≤100)(hv:∀ x∈t.lv,x.length≤4096){st:St}(h:st.head [1,2,3,9,11,12,13,21] st.boxes.length=some ⟨sl 26 [(1,.aO 0 0),(2,.aO 1 0),(3,.row 1 ((t.lv.take ((0:Nat))).map iJ)),(9,.any),(11,.pv (.list 1 (t.lv.map iJ))),(12,.pv (.int .i64 t.lv.length)),(13,.pv (.int .i64 (0:Nat))),(21,.any)],[⟨false,[.pv (.int .i64 t.sz),.pv (.int .i64 t.lf),.pv (.list 1 (t.lv.map iJ))]⟩,⟨false,[.pv (.int .i64 0),.pv (.int .i64 0),.pv (.list 0 [])]⟩],[],none⟩) :
  den env Mc st=some (.normal,⟨sl 26 [(1,.aO 0 0),(2,.aO 1 0),(3,.row 1 (t.lv.map iJ))],[⟨false,[.pv (.int .i64 t.sz),.pv (.int .i64 t.lf),.pv (.list 1 (t.lv.map iJ))]⟩,⟨false,[.pv (.int .i64 0),.pv (.int .i64 0),.pv (.list 0 [])]⟩],[],none⟩):=by
 unfold Mc
 refine aY (env:=env) (nb:=2) (t.lv.length) (fun i=>⟨sl 26 [(1,.aO 0 0),(2,.aO 1 0),(3,.row 1 ((t.lv.take (i)).map iJ)),(9,.any),(11,.pv (.list 1 (t.lv.map iJ))),(12,.pv (.int .i64 t.lv.length)),(13,.pv (.int .i64 i)),(21,.any)],[⟨false,[.pv (.int .i64 t.sz),.pv (.int .i64 t.lf),.pv (.list 1 (t.lv.map iJ))]⟩,⟨false,[.pv (.int .i64 0),.pv (.int .i64 0),.pv (.list 0 [])]⟩],[],none⟩) (fun i=>some (.normal,⟨sl 26 [(1,.aO 0 0),(2,.aO 1 0),(3,.row 1 (t.lv.map iJ))],[⟨false,[.pv (.int .i64 t.sz),.pv (.int .i64 t.lf),.pv (.list 1 (t.lv.map iJ))]⟩,⟨false,[.pv (.int .i64 0),.pv (.int .i64 0),.pv (.list 0 [])]⟩],[],none⟩)) h (fun _=>rfl) (fun _=>by simp only [aW,bI,Nat.reduceMul,Nat.reduceBEq,Nat.reduceLT,Nat.reduceLeDiff,Nat.reduceAdd,decide_true,zP,zz]) ?_ ?_
 ·intro i rb hi ih
  have hi1:=bC hi (by unfold lim;omega)
  have F1:((i:Int)<(t.lv.length:Int))=True:=eq_true (by omega)
  have hx:(t.lv.map iJ)[i]?=some (.list 1 (t.lv[i].map eU)):=by rw [zc,ZD hi];rfl
  have hvi:=hv _ (Zap hi)
  have c1:=akr (es:=t.lv[i].map eU) (by rw [Z3];unfold lim;omega)
  have F4:((t.lv.take i).length+1≤lim)=True:=eq_true (by rw [Zaa];unfold lim;omega)
  have ea:iJ t.lv[i]=.list 1 (t.lv[i].map eU):=rfl
  rw [take_snoc hi,Zag,Zai,Zar,ea] at ih
  simp only [L9,F1,F4,hx,c1,au hi,Z3,aC,Nat.reduceMul,Nat.reduceBEq,Nat.reduceLT,Nat.reduceLeDiff,reduceCtorEq,Nat.reduceEqDiff,Nat.reduceAdd,Z6]
  rw [ih _ (by simp only [hi1,aC,Nat.reduceMul,Nat.reduceBEq,Nat.reduceLT,Nat.reduceLeDiff,reduceCtorEq,Nat.reduceEqDiff,Nat.reduceAdd,Z6]<;>rfl)]
 ·intro rb
  rw [Zas]
  simp only [L9,Zat,Z3,aC,Nat.reduceMul,Nat.reduceBEq,Nat.reduceLT,Nat.reduceLeDiff,reduceCtorEq,Nat.reduceEqDiff,Nat.reduceAdd,Z6]
set_option maxRecDepth 20000 in
theorem Wx {t:Tre}(hl:t.lv.length≤100)(hv:∀ x∈t.lv,x.length≤4096):cal env 96 [Bg t]=some [(Bg t,false)]:=by
 rw [Dw]
 have P3:∀ a b c:PV,part [a,b,c] 0 (some 3)=some (.agg [a,b,c]):=fun _ _ _=>rfl
 have F1:(0≤(t.lv.length:Int))=True:=eq_true (by omega)
 have F2:((t.lv.length:Int)≤(lim:Int))=True:=eq_true (by unfold lim;omega)
 have F3:((0:Int)≤0)=True:=eq_true (ZbS _)
 rw [aA amN rfl];simp only [ab7,aW,Nat.reduceBEq,Nat.reduceLeDiff,Nat.reduceAdd,zd,zj]
 simp only [P3,F1,F2,F3,Z3,aC,Nat.reduceMul,Nat.reduceBEq,Nat.reduceLT,Nat.reduceLeDiff,reduceCtorEq,Nat.reduceEqDiff,Nat.reduceAdd,Z6]
 rw [akx (t:=t) hl hv (by simp only [aW,bI,Nat.reduceMul,Nat.reduceBEq,Nat.reduceLT,Nat.reduceLeDiff,Nat.reduceAdd,decide_true,zP,zz]<;>rfl)]
 simp only [P3,F1,F2,F3,Z3,aC,Nat.reduceMul,Nat.reduceBEq,Nat.reduceLT,Nat.reduceLeDiff,reduceCtorEq,Nat.reduceEqDiff,Nat.reduceAdd,Z6]
structure nT where
 t:Tre
 pend:List bP
 nO:Int
 found:List bP
 sent:Int
 fin:Bool
def wP (w:nT):List PV:=[.int .i64 w.t.sz,.int .i64 w.t.lf,.list 1 (w.t.lv.map iJ),.list 2 (w.pend.map aZ),.int .i64 w.nO,.list 2 (w.found.map aZ),.int .i64 w.sent,.bool w.fin]
theorem jI (w:nT):wP w=[.int .i64 w.t.sz,.int .i64 w.t.lf,.list 1 (w.t.lv.map iJ),.list 2 (w.pend.map aZ),.int .i64 w.nO,.list 2 (w.found.map aZ),.int .i64 w.sent,.bool w.fin]:=rfl
def wB (w:nT):List BV:=[.pv (.int .i64 w.t.sz),.pv (.int .i64 w.t.lf),.pv (.list 1 (w.t.lv.map iJ)),.pv (.list 2 (w.pend.map aZ)),.pv (.int .i64 w.nO),.pv (.list 2 (w.found.map aZ)),.pv (.int .i64 w.sent),.pv (.bool w.fin)]
theorem jZ (w:nT):wB w=[.pv (.int .i64 w.t.sz),.pv (.int .i64 w.t.lf),.pv (.list 1 (w.t.lv.map iJ)),.pv (.list 2 (w.pend.map aZ)),.pv (.int .i64 w.nO),.pv (.list 2 (w.found.map aZ)),.pv (.int .i64 w.sent),.pv (.bool w.fin)]:=rfl
def Zj (w:nT):PV:=.agg (wP w)
theorem rW (w:nT):Zj w=.agg [.int .i64 w.t.sz,.int .i64 w.t.lf,.list 1 (w.t.lv.map iJ),.list 2 (w.pend.map aZ),.int .i64 w.nO,.list 2 (w.found.map aZ),.int .i64 w.sent,.bool w.fin]:=rfl
structure Msg where
 kind:Int
 num:Int
 vals:List Int
 body:List Int
def Am (m:Msg):PV:=.agg [.int .i64 m.kind,.int .i64 0,.int .i64 0,.int .i64 m.num,.int .i64 0,.int .i64 0,.list 1 (m.vals.map eI),.list 1 (m.body.map jG)]
theorem MG (m:Msg):Am m=.agg [.int .i64 m.kind,.int .i64 0,.int .i64 0,.int .i64 m.num,.int .i64 0,.int .i64 0,.list 1 (m.vals.map eI),.list 1 (m.body.map jG)]:=rfl
def uT (l:List bP):List Int:=l.flatMap fun x=>[x.start,x.count]
theorem QN {l:List bP}{i:Nat}(h:i<l.length):uT (l.take (i+1))=uT (l.take i)++[l[i].start,l[i].count]:=by
 unfold uT;rw [take_snoc h,Zdk];simp
theorem o7 (l:List bP):(uT l).length=2*l.length:=by
 induction l with
 |nil=>rfl
 |cons x l ih=>show (_++uT l).length=_;simp only [zE,ih,zd,zj];omega
def vals (w:nT):List Int:=w.t.sz::w.t.lf::uT w.pend
def uZ (w:nT):Msg:=⟨13,w.nO,vals w,[]⟩
theorem P8:∀ x0 x1 x2 x3 x4 x5 x6 x7:PV,part [x0,x1,x2,x3,x4,x5,x6,x7] 0 (some 8)=some (.agg [x0,x1,x2,x3,x4,x5,x6,x7]):=fun _ _ _ _ _ _ _ _=>rfl
theorem P3:∀ a b c:PV,part [a,b,c] 0 (some 3)=some (.agg [a,b,c]):=fun _ _ _=>rfl
def zMs:List BV:=[.pv (.int .i64 0),.pv (.int .i64 0),.pv (.int .i64 0),.pv (.int .i64 0),.pv (.int .i64 0),.pv (.int .i64 0),.pv (.list 0 []),.pv (.list 0 [])]
theorem jO:zMs=[.pv (.int .i64 0),.pv (.int .i64 0),.pv (.int .i64 0),.pv (.int .i64 0),.pv (.int .i64 0),.pv (.int .i64 0),.pv (.list 0 []),.pv (.list 0 [])]:=rfl
set_option maxRecDepth 20000 in
theorem aky {w:nT}(hl:w.pend.length≤4096){st:St}(h:st.head [0,2,3,18,23,24,25,35] st.boxes.length=some ⟨sl 44 [(0,.pv (.cu (wP w) 0)),(2,.aO 0 0),(3,.row 1 (.int .i64 w.t.sz::.int .i64 w.t.lf::(uT (w.pend.take ((0:Nat)))).map eI)),(18,.any),(23,.pv (.list 2 (w.pend.map aZ))),(24,.pv (.int .i64 w.pend.length)),(25,.pv (.int .i64 (0:Nat))),(35,.any)],[⟨false,zMs⟩],[],none⟩) :
  den env zK st=some (.normal,⟨sl 44 [(0,.pv (.cu (wP w) 0)),(2,.aO 0 0),(3,.row 1 ((vals w).map eI))],[⟨false,zMs⟩],[],none⟩):=by
 unfold zK
 refine aY (env:=env) (nb:=1) (w.pend.length) (fun i=>⟨sl 44 [(0,.pv (.cu (wP w) 0)),(2,.aO 0 0),(3,.row 1 (.int .i64 w.t.sz::.int .i64 w.t.lf::(uT (w.pend.take (i))).map eI)),(18,.any),(23,.pv (.list 2 (w.pend.map aZ))),(24,.pv (.int .i64 w.pend.length)),(25,.pv (.int .i64 i)),(35,.any)],[⟨false,zMs⟩],[],none⟩) (fun i=>some (.normal,⟨sl 44 [(0,.pv (.cu (wP w) 0)),(2,.aO 0 0),(3,.row 1 ((vals w).map eI))],[⟨false,zMs⟩],[],none⟩)) h (fun _=>rfl) (fun _=>by simp only [aW,bI,Nat.reduceMul,Nat.reduceBEq,Nat.reduceLT,Nat.reduceLeDiff,Nat.reduceAdd,decide_true,zP,zz]) ?_ ?_
 ·intro i rb hi ih
  have hi1:=bC hi (by unfold lim;omega)
  have F1:((i:Int)<(w.pend.length:Int))=True:=eq_true (by omega)
  have hx:(w.pend.map aZ)[i]?=some (.agg [.int .i64 w.pend[i].start,.int .i64 w.pend[i].count]):=by rw [zc,ZD hi];rfl
  have hv:(uT (w.pend.take i)).length=2*i:=by rw [o7,Zaa];omega
  have F4:((uT (w.pend.take i)).length+1+1+2≤lim)=True:=eq_true (by rw [hv];unfold lim;omega)
  rw [QN hi,Zag,Zai,Zai,Zar] at ih
  generalize w.pend[i]=x at *
  simp only [zJ,F1,F4,hx,jO,jZ,au hi,Z3,zd,aC,Nat.reduceMul,Nat.reduceBEq,Nat.reduceLT,Nat.reduceLeDiff,reduceCtorEq,Nat.reduceEqDiff,Nat.reduceAdd,Z6]
  rw [ih _ (by simp only [hi1,jO,jZ,eI,aC,Nat.reduceMul,Nat.reduceBEq,Nat.reduceLT,Nat.reduceLeDiff,reduceCtorEq,Nat.reduceEqDiff,Nat.reduceAdd,Z6]<;>rfl)]
  <;> first|done|rfl|simp only [jO,jZ]
 ·intro rb
  rw [Zas]
  simp only [zJ,Zat,jO,jZ,Z3,aC,Nat.reduceMul,Nat.reduceBEq,Nat.reduceLT,Nat.reduceLeDiff,reduceCtorEq,Nat.reduceEqDiff,Nat.reduceAdd,Z6]
  <;> first|done|rfl
set_option maxRecDepth 20000 in
theorem ah0 {w:nT}(hl:w.pend.length≤4096):cal env 97 [.cu (wP w) 0]=some [(Am (uZ w),false)]:=by
 have E:Am (uZ w)=.agg [.int .i64 13,.int .i64 0,.int .i64 0,.int .i64 w.nO,.int .i64 0,.int .i64 0,.list 1 ((vals w).map eI),.list 1 []]:=rfl
 have E2:vals w=w.t.sz::w.t.lf::uT w.pend:=rfl
 have hl':(w.pend.map aZ).length=w.pend.length:=Z3 ..
 rw [E]
 rw [aA ahV rfl]
 simp only [YT,jI,aW,Nat.reduceBEq,Nat.reduceLeDiff,Nat.reduceAdd,zd,zj]
 simp only [P8,P3,hl',aC,Nat.reduceMul,Nat.reduceBEq,Nat.reduceLT,Nat.reduceLeDiff,reduceCtorEq,Nat.reduceEqDiff,Nat.reduceAdd,Z6]
 rw [aky (w:=w) hl (by rw [jO];simp only [aW,bI,Nat.reduceMul,Nat.reduceBEq,Nat.reduceLT,Nat.reduceLeDiff,Nat.reduceAdd,decide_true,zP,zz]<;>rfl)]
 simp only [P8,P3,jO,jZ,jI,Z3,aC,Nat.reduceMul,Nat.reduceBEq,Nat.reduceLT,Nat.reduceLeDiff,reduceCtorEq,Nat.reduceEqDiff,Nat.reduceAdd,Z6]
set_option maxRecDepth 20000 in
theorem ahb {w:nT}(hl:w.pend.length≤4096){st:St}(h:st.head [0,2,3,18,23,24,25,35] st.boxes.length=some ⟨sl 44 [(0,.aO 0 0),(2,.aO 1 0),(3,.row 1 (.int .i64 w.t.sz::.int .i64 w.t.lf::(uT (w.pend.take ((0:Nat)))).map eI)),(18,.any),(23,.pv (.list 2 (w.pend.map aZ))),(24,.pv (.int .i64 w.pend.length)),(25,.pv (.int .i64 (0:Nat))),(35,.any)],[⟨false,wB w⟩,⟨false,zMs⟩],[],none⟩) :
  den env zK st=some (.normal,⟨sl 44 [(0,.aO 0 0),(2,.aO 1 0),(3,.row 1 ((vals w).map eI))],[⟨false,wB w⟩,⟨false,zMs⟩],[],none⟩):=by
 unfold zK
 refine aY (env:=env) (nb:=2) (w.pend.length) (fun i=>⟨sl 44 [(0,.aO 0 0),(2,.aO 1 0),(3,.row 1 (.int .i64 w.t.sz::.int .i64 w.t.lf::(uT (w.pend.take (i))).map eI)),(18,.any),(23,.pv (.list 2 (w.pend.map aZ))),(24,.pv (.int .i64 w.pend.length)),(25,.pv (.int .i64 i)),(35,.any)],[⟨false,wB w⟩,⟨false,zMs⟩],[],none⟩) (fun i=>some (.normal,⟨sl 44 [(0,.aO 0 0),(2,.aO 1 0),(3,.row 1 ((vals w).map eI))],[⟨false,wB w⟩,⟨false,zMs⟩],[],none⟩)) h (fun _=>rfl) (fun _=>by simp only [aW,bI,Nat.reduceMul,Nat.reduceBEq,Nat.reduceLT,Nat.reduceLeDiff,Nat.reduceAdd,decide_true,zP,zz]) ?_ ?_
 ·intro i rb hi ih
  have hi1:=bC hi (by unfold lim;omega)
  have F1:((i:Int)<(w.pend.length:Int))=True:=eq_true (by omega)
  have hx:(w.pend.map aZ)[i]?=some (.agg [.int .i64 w.pend[i].start,.int .i64 w.pend[i].count]):=by rw [zc,ZD hi];rfl
  have hv:(uT (w.pend.take i)).length=2*i:=by rw [o7,Zaa];omega
  have F4:((uT (w.pend.take i)).length+1+1+2≤lim)=True:=eq_true (by rw [hv];unfold lim;omega)
  rw [QN hi,Zag,Zai,Zai,Zar] at ih
  generalize w.pend[i]=x at *
  simp only [zJ,F1,F4,hx,jO,jZ,au hi,Z3,zd,aC,Nat.reduceMul,Nat.reduceBEq,Nat.reduceLT,Nat.reduceLeDiff,reduceCtorEq,Nat.reduceEqDiff,Nat.reduceAdd,Z6]
  rw [ih _ (by simp only [hi1,jO,jZ,eI,aC,Nat.reduceMul,Nat.reduceBEq,Nat.reduceLT,Nat.reduceLeDiff,reduceCtorEq,Nat.reduceEqDiff,Nat.reduceAdd,Z6]<;>rfl)]
  <;> first|done|rfl|simp only [jO,jZ]
 ·intro rb
  rw [Zas]
  simp only [zJ,Zat,jO,jZ,Z3,aC,Nat.reduceMul,Nat.reduceBEq,Nat.reduceLT,Nat.reduceLeDiff,reduceCtorEq,Nat.reduceEqDiff,Nat.reduceAdd,Z6]
  <;> first|done|rfl
set_option maxRecDepth 20000 in
theorem U3 {w:nT}(hl:w.pend.length≤4096):Eu env 97 (.box (wP w)) []=some ([(Am (uZ w),false)],some (wP w)):=by
 have E:Am (uZ w)=.agg [.int .i64 13,.int .i64 0,.int .i64 0,.int .i64 w.nO,.int .i64 0,.int .i64 0,.list 1 ((vals w).map eI),.list 1 []]:=rfl
 have E2:vals w=w.t.sz::w.t.lf::uT w.pend:=rfl
 have hl':(w.pend.map aZ).length=w.pend.length:=Z3 ..
 rw [E]
 rw [lQ ahV rfl]
 simp only [YT,jI,aW,Nat.reduceBEq,Nat.reduceLeDiff,Nat.reduceAdd,zd,zj]
 simp only [P8,P3,hl',aC,Nat.reduceMul,Nat.reduceBEq,Nat.reduceLT,Nat.reduceLeDiff,reduceCtorEq,Nat.reduceEqDiff,Nat.reduceAdd,Z6]
 rw [ahb (w:=w) hl (by rw [jO,jZ];simp only [aW,bI,Nat.reduceMul,Nat.reduceBEq,Nat.reduceLT,Nat.reduceLeDiff,Nat.reduceAdd,decide_true,zP,zz]<;>rfl)]
 simp only [P8,P3,jO,jZ,jI,Z3,aC,Nat.reduceMul,Nat.reduceBEq,Nat.reduceLT,Nat.reduceLeDiff,reduceCtorEq,Nat.reduceEqDiff,Nat.reduceAdd,Z6]
def wu (n:Nat)(l:List cZ)(i:Nat):List cZ:=(l.drop (i*n)).take n
def iL (n:Nat)(l:List cZ):List Int:=(Zam (Dh n l.length)).map fun i=>hash (iV (wu n l i))
theorem jB (n:Nat)(l:List cZ):(iL n l).length=Dh n l.length:=by simp [iL]
theorem MH {n:Nat}{l:List cZ}{i:Nat}(h:i<(iL n l).length):(iL n l)[i]=hash (iV (wu n l i)):=by simp [iL]
theorem akz (n:Nat)(l:List cZ):∀ d∈iL n l,QI d:=fun d hd=>by
 unfold iL at hd
 obtain ⟨i,-,rfl⟩:=ZaS.1 hd
 exact Wj _
theorem wz {n:Nat}{l:List cZ}(h1:1≤l.length∧l.length≤4096)(h2:1≤n∧n≤4096):U2 (l.length:Int) (n:Int) (iL n l):=by
 refine ⟨by omega,by omega,?_,akz n l⟩
 rw [jB]
 unfold Dh QM
 rw [show (l.length:Int)+(n:Int) - 1=((l.length+n - 1:Nat):Int) by omega]
 rfl
set_option maxRecDepth 20000 in
theorem ah1 {l:List cZ}{n:Nat}(h1:1≤l.length∧l.length≤4096)(h2:1≤n∧n≤4096):cal env 26 [.list 8 (l.map bH),.int .i64 (n:Int)]=some [(Bg (Bh (l.length:Int) (n:Int) (iL n l)),false),(.int .i64 0,false)]:=by
 have hT:=wz h1 h2
 have e1:=ahZ hT.s hT.f
 have e2:=amV (l:=l.map bH) (n:=n) h2.1
 have e3:=ahY (l:=iL n l) (sz:=(l.length:Int)) (lf:=(n:Int)) hT.len.1 hT.len.2
 have hit:=aha (l:=l.map bH) (n:=n) (by rw [Z3];omega) (by omega)
 have Z:((0:Int) != 0)=false:=rfl
 have sc:∀ (m n:Int) (z:Nat) (l:List PV),(PV.agg [.int .i64 m,.int .i64 n,.list z l]).scalar=false:=fun _ _ _ _=>rfl
 rw [lG] at e3 ⊢
 rw [aA amx rfl];simp only [abS];simp only [start,aN,aU,aJ,aT,aF,aH,aK,aP,Nat.reduceAdd,Nat.reduceSub]
 simp only [e1,e2,e3,P3,Z,Z3,bJ,reduceCtorEq,Nat.reduceEqDiff,Nat.reduceAdd,Nat.reduceLT,Nat.reduceLeDiff,Z6]
 rw [uz (env:=env) (fun j=>[⟨false,[.pv (.int .i64 0),.pv (.int .i64 0),.pv (.list 0 [])]⟩,⟨false,[.row 1 (((iL n l).take j).map eU)]⟩]) (xs:=yC 8 (chk n (l.map bH))) rfl hit rfl ?_]
 ·have hl:(yC 8 (chk n (l.map bH))).length=(iL n l).length:=by unfold yC;rw [Z3,rD,jB,Z3]
  simp only [hl,Zas,e3,P3,sc,Z3,xJ,bJ,reduceCtorEq,Nat.reduceEqDiff,Nat.reduceAdd,Nat.reduceLT,Nat.reduceLeDiff,Z6]
 ·intro j x hx sl0
  have hj:=(zb.1 hx).1
  have hl:(yC 8 (chk n (l.map bH))).length=(iL n l).length:=by unfold yC;rw [Z3,rD,jB,Z3]
  rw [hl] at hj
  have hjc:j<(chk n (l.map bH)).length:=by rw [rD,Z3,← jB];exact hj
  obtain rfl:x=[.list 8 ((wu n l j).map bH)]:=by
   unfold yC at hx
   rw [zc,ZD hjc,MF] at hx
   have e:Wq n (l.map bH) j=(wu n l j).map bH:=by unfold Wq wu;rw [Zdg,ZcD]
   rw [e] at hx
   simpa using hx.symm
  have hpl:(wu n l j).length≤4096:=by unfold wu;rw [Zaa];omega
  have c1:=amT (l:=wu n l j) (by unfold lim;omega)
  have F4:((iL n l).take j).length+1≤lim:=by rw [Zaa,jB,← jB];have:=hT.len.2;unfold lim;omega
  have F5:=eq_true F4
  have ht:(iL n l).take (j+1)=(iL n l).take j++[hash (iV (wu n l j))]:=by rw [take_snoc hj,MH]
  rw [ht]
  refine ⟨?_,?_⟩
  rotate_left
  ·simp only [VP,VQ,c1,F5,Z3,Zag,Zai,Zar,show eU (hash (iV (wu n l j)))=PV.int .u64 (hash (iV (wu n l j))) from rfl,xJ,bJ,reduceCtorEq,Nat.reduceEqDiff,Nat.reduceAdd,Nat.reduceLT,Nat.reduceLeDiff,Z6]
   rfl
theorem ahc {l:List Int}(hl:l.length≤4096){st:St}(h:st.head [0,3,4,28,35] st.boxes.length=some ⟨sl 37 [(0,.pv (.list 1 (l.map eU))),(3,.row 1 (((yT l).take ((0:Nat))).map eU)),(4,.pv (.int .i64 ((2*((0:Nat)):Nat):Int))),(28,.any),(35,.any)],[],[],none⟩) :
  den env Gs st=some (.normal,⟨sl 37 [(2,.any),(3,.row 1 ((yT l).map eU))],[],[],none⟩):=by
 unfold Gs
 refine aY (env:=env) ((yT l).length) (fun i=>⟨sl 37 [(0,.pv (.list 1 (l.map eU))),(3,.row 1 (((yT l).take (i)).map eU)),(4,.pv (.int .i64 ((2*(i):Nat):Int))),(28,.any),(35,.any)],[],[],none⟩) (fun i=>some (.normal,⟨sl 37 [(2,.any),(3,.row 1 ((yT l).map eU))],[],[],none⟩)) h (fun _=>rfl) (fun _=>by simp only [aW,bI,Nat.reduceMul,Nat.reduceBEq,Nat.reduceLT,Nat.reduceLeDiff,Nat.reduceAdd,decide_true,zP,zz]) ?_ ?_
 ·intro i rb hi ih
  have hu:=hi
  rw [xw] at hu
  have F1:(((2*i:Nat):Int)<(l.length:Int))=True:=eq_true (by omega)
  have W1:IntKind.i64.wrap (((2*i:Nat):Int)+1)=((2*i+1:Nat):Int):=by rw [aI (by omega)];omega
  have W2:IntKind.i64.wrap (((2*i:Nat):Int)+2)=((2*(i+1):Nat):Int):=by rw [aI (by omega)];omega
  have F4:(((yT l).take i).length+1≤lim)=True:=eq_true (by rw [Zaa];unfold lim;omega)
  have hx:(l.map eU)[2*i]?=some (.int .u64 (l.getD (2*i) 0)):=by rw [zc,zR,ZD (by omega)];rfl
  rw [QL hi] at ih
  unfold upK at ih
  by_cases c:2*i+1<l.length
  ·have F2:(((2*i+1:Nat):Int)<(l.length:Int))=True:=eq_true (by omega)
   rw [if_pos c] at ih
   have hy:(l.map eU)[2*i+1]?=some (.int .u64 (l.getD (2*i+1) 0)):=by rw [zc,zR,ZD c];rfl
   have e1:=akg (a:=l.getD (2*i) 0) (b:=l.getD (2*i+1) 0)
   simp only [zO,F1,F2,F4,W1,W2,hx,hy,e1,au (show 2*i<l.length by omega),au c,Z3,aC,Nat.reduceMul,Nat.reduceBEq,Nat.reduceLT,Nat.reduceLeDiff,reduceCtorEq,Nat.reduceEqDiff,Nat.reduceAdd,Z6]
   rw [ih _ (by rw [Zag];simp only [aC,Nat.reduceMul,Nat.reduceBEq,Nat.reduceLT,Nat.reduceLeDiff,reduceCtorEq,Nat.reduceEqDiff,Nat.reduceAdd,Z6]<;>rfl)]
  ·have F2:(((2*i+1:Nat):Int)<(l.length:Int))=False:=eq_false (by omega)
   rw [if_neg c] at ih
   simp only [zO,F1,F2,F4,W1,W2,hx,au (show 2*i<l.length by omega),Z3,aC,Nat.reduceMul,Nat.reduceBEq,Nat.reduceLT,Nat.reduceLeDiff,reduceCtorEq,Nat.reduceEqDiff,Nat.reduceAdd,Z6]
   rw [ih _ (by rw [Zag];simp only [aC,Nat.reduceMul,Nat.reduceBEq,Nat.reduceLT,Nat.reduceLeDiff,reduceCtorEq,Nat.reduceEqDiff,Nat.reduceAdd,Z6]<;>rfl)]
 ·intro rb
  have F1:(((2*(yT l).length:Nat):Int)<(l.length:Int))=False:=eq_false (by rw [xw];omega)
  rw [Zas]
  simp only [zO,F1,Z3,aC,Nat.reduceMul,Nat.reduceBEq,Nat.reduceLT,Nat.reduceLeDiff,reduceCtorEq,Nat.reduceEqDiff,Nat.reduceAdd,Z6]
theorem akA {l:List Int}(hl:l.length≤4096):cal env 251 [.list 1 (l.map eU)]=some [(.list 1 ((yT l).map eU),true)]:=by
 rw [aA ajQ rfl];simp only [Qr,aW,Nat.reduceBEq,Nat.reduceLeDiff,Nat.reduceAdd,zd,zj]
 simp only [aC,Nat.reduceMul,Nat.reduceBEq,Nat.reduceLT,Nat.reduceLeDiff,reduceCtorEq,Nat.reduceEqDiff,Nat.reduceAdd,Z6]
 rw [ahc (l:=l) hl (by simp only [aW,bI,Nat.reduceMul,Nat.reduceBEq,Nat.reduceLT,Nat.reduceLeDiff,Nat.reduceAdd,decide_true,zP,zz]<;>rfl)]
 simp only [aC,Nat.reduceMul,Nat.reduceBEq,Nat.reduceLT,Nat.reduceLeDiff,reduceCtorEq,Nat.reduceEqDiff,Nat.reduceAdd,Z6]
set_option maxRecDepth 20000 in
theorem ahd {l:List Int}{sz lf:Int}(h1:1≤l.length)(h2:l.length≤4096){st:St}(h:st.head [2,6,7,17] st.boxes.length=some ⟨sl 25 [(2,.pv (.list 1 ((iq l ((0:Nat))).map eU))),(6,.aO 0 0),(7,.aO 1 0),(17,.any)],[⟨false,[.pv (.int .i64 0),.pv (.int .i64 0),.pv (.list 0 [])]⟩,⟨false,[.pv (.int .i64 sz),.pv (.int .i64 lf),.row 1 (((fG l).take (((0:Nat))+1)).map iJ)]⟩],[],none⟩) :
  den env FV st=some (.normal,⟨sl 25 [(6,.aO 0 0),(7,.aO 1 0)],[⟨false,[.pv (.int .i64 0),.pv (.int .i64 0),.pv (.list 0 [])]⟩,⟨false,[.pv (.int .i64 sz),.pv (.int .i64 lf),.row 1 ((fG l).map iJ)]⟩],[],none⟩):=by
 unfold FV
 refine aY (env:=env) (nb:=2) (gZ l.length) (fun i=>⟨sl 25 [(2,.pv (.list 1 ((iq l (i)).map eU))),(6,.aO 0 0),(7,.aO 1 0),(17,.any)],[⟨false,[.pv (.int .i64 0),.pv (.int .i64 0),.pv (.list 0 [])]⟩,⟨false,[.pv (.int .i64 sz),.pv (.int .i64 lf),.row 1 (((fG l).take ((i)+1)).map iJ)]⟩],[],none⟩) (fun i=>some (.normal,⟨sl 25 [(6,.aO 0 0),(7,.aO 1 0)],[⟨false,[.pv (.int .i64 0),.pv (.int .i64 0),.pv (.list 0 [])]⟩,⟨false,[.pv (.int .i64 sz),.pv (.int .i64 lf),.row 1 ((fG l).map iJ)]⟩],[],none⟩)) h (fun _=>rfl) (fun _=>by simp only [aW,bI,Nat.reduceMul,Nat.reduceBEq,Nat.reduceLT,Nat.reduceLeDiff,Nat.reduceAdd,decide_true,zP,zz]) ?_ ?_
 ·intro i rb hi ih
  obtain ⟨d1,d2,d3⟩:=jk h1 h2
  have hd:=d2 i hi
  rw [← fE] at hd
  have hle:=yI h1 h2 i
  have F1:(((iq l i).length:Int) > 1)=True:=eq_true (by omega)
  have hil:i+1<(fG l).length:=by rw [dI];omega
  have F2:(((fG l).take (i+1)).length+1≤lim)=True:=eq_true (by rw [Zaa,dI];unfold lim;omega)
  have e1:=akA (l:=iq l i) hle
  have ea:iJ (iq l (i+1))=.list 1 ((yT (iq l i)).map eU):=rfl
  have en:iq l (i+1)=yT (iq l i):=rfl
  rw [zW hil,Zag,Zai,Zar,ea,en] at ih
  simp only [FU,F1,F2,e1,Z3,aC,Nat.reduceMul,Nat.reduceBEq,Nat.reduceLT,Nat.reduceLeDiff,reduceCtorEq,Nat.reduceEqDiff,Nat.reduceAdd,Z6]
  rw [ih _ (by simp only [aC,Nat.reduceMul,Nat.reduceBEq,Nat.reduceLT,Nat.reduceLeDiff,reduceCtorEq,Nat.reduceEqDiff,Nat.reduceAdd,Z6]<;>rfl)]
 ·intro rb
  obtain ⟨d1,d2,d3⟩:=jk h1 h2
  have hlen:(iq l (gZ l.length)).length=1:=by rw [fE];exact d1
  have F1:(((iq l (gZ l.length)).length:Int) > 1)=False:=eq_false (by rw [hlen];decide)
  have et:(fG l).take (gZ l.length+1)=fG l:=ZaH (by rw [dI];exact ze _)
  rw [et]
  simp only [FU,F1,Z3,aC,Nat.reduceMul,Nat.reduceBEq,Nat.reduceLT,Nat.reduceLeDiff,reduceCtorEq,Nat.reduceEqDiff,Nat.reduceAdd,Z6]
set_option maxRecDepth 20000 in
theorem akB {l:List Int}{sz lf:Int}(h1:1≤l.length)(h2:l.length≤4096):cal env 205 [.int .i64 sz,.int .i64 lf,.list 1 (l.map eU)]=some [(Bg (Bh sz lf l),false)]:=by
 have e0:((fG l).take (0+1)).map iJ=[.list 1 (l.map eU)]:=by
  rw [zW (by rw [dI];omega)];rfl
 have e1:(iq l 0).map eU=l.map eU:=rfl
 rw [lG]
 rw [aA ajB rfl];simp only [P9,aW,Nat.reduceBEq,Nat.reduceLeDiff,Nat.reduceAdd,zd,zj]
 simp only [aC,Nat.reduceMul,Nat.reduceBEq,Nat.reduceLT,Nat.reduceLeDiff,reduceCtorEq,Nat.reduceEqDiff,Nat.reduceAdd,Z6]
 rw [ahd (l:=l) (sz:=sz) (lf:=lf) h1 h2 (by rw [e0,e1];simp only [aW,bI,Nat.reduceMul,Nat.reduceBEq,Nat.reduceLT,Nat.reduceLeDiff,Nat.reduceAdd,decide_true,zP,zz]<;>rfl)]
 simp only [aC,Nat.reduceMul,Nat.reduceBEq,Nat.reduceLT,Nat.reduceLeDiff,reduceCtorEq,Nat.reduceEqDiff,Nat.reduceAdd,Z6]
theorem ad4 {sz lf:Int}(h1:1≤sz∧sz≤4096)(h2:1≤lf∧lf≤4096):cal env 203 [.int .i64 sz,.int .i64 lf]=some [(.int .i64 (QM sz lf),false)]:=by
 have W1:IntKind.i64.wrap (sz+lf)=sz+lf:=aI (by omega)
 have W2:IntKind.i64.wrap (sz+lf - 1)=sz+lf - 1:=aI (by omega)
 have Z:(lf=0)=False:=eq_false (by omega)
 have b1:0≤(sz+lf - 1) / lf:=Int.ediv_nonneg (by omega) (by omega)
 have b2:(sz+lf - 1) / lf≤sz+lf - 1:=Zdw _ (by omega)
 have T:(sz+lf - 1).tdiv lf=QM sz lf:=by unfold QM;rw [Zbg (by omega)]
 have W3:IntKind.i64.wrap (QM sz lf)=QM sz lf:=by unfold QM;exact aI (by omega)
 rw [aA ajz rfl];simp only [P6,aW,Nat.reduceBEq,Nat.reduceLeDiff,Nat.reduceAdd,zd,zj]
 simp only [W1,W2,W3,Z,T,aC,Nat.reduceMul,Nat.reduceBEq,Nat.reduceLT,Nat.reduceLeDiff,reduceCtorEq,Nat.reduceEqDiff,Nat.reduceAdd,Z6]
theorem U4 {l:List cZ}{n i:Nat}(h1:l.length≤4096)(h2:1≤n∧n≤4096)(hi:i*n<l.length):cal env 129 [.list 8 (l.map bH),.int .i64 (n:Int),.int .i64 (i:Int)]=some [(.list 8 ((wu n l i).map bH),false)]:=by
 have hm:(i:Int)*(n:Int)=((i*n:Nat):Int):=by rw [Int.natCast_mul]
 have W1:IntKind.i64.wrap ((i:Int)*(n:Int))=((i*n:Nat):Int):=by rw [hm];exact aI (by omega)
 generalize ho:i*n=off at *
 have W2:IntKind.i64.wrap ((off:Int)+(n:Int))=((off+n:Nat):Int):=by rw [aI (by omega)];omega
 have T1:((off:Nat):Int).toNat=off:=Zay off
 have Q0:((0:Int)≤(off:Int))=True:=eq_true (by omega)
 have hp:∀ k,(k=n∨(k=l.length - off∧k≤n))→((l.map bH).drop off).take k=(wu n l i).map bH:=fun k hk=>by
  have e1:(wu n l i).map bH=Wq n (l.map bH) i:=by unfold wu Wq;rw [Zdg,ZcD]
  rw [e1,← ho]
  exact zX (by rw [Z3,ho];exact hk)
 by_cases c:off+n<l.length
 ·have M1:(((off+n:Nat):Int)<(l.length:Int))=True:=eq_true (by omega)
  have E4:((0:Int)≤((off+n:Nat):Int))=True:=eq_true (by omega)
  have E5:(((off+n:Nat):Int)≤(l.length:Int))=True:=eq_true (by omega)
  have E3:((off:Int)≤((off+n:Nat):Int))=True:=eq_true (by omega)
  have T2:((off+n:Nat):Int).toNat=off+n:=Zay _
  have hq:=hp (off+n - off) (.inl (by omega))
  rw [aA adr rfl];simp only [JF,aW,Nat.reduceBEq,Nat.reduceLeDiff,Nat.reduceAdd,zd,zj]
  simp only [W1,W2,T1,T2,Q0,M1,E3,E4,E5,hq,Z3,aC,Nat.reduceMul,Nat.reduceBEq,Nat.reduceLT,Nat.reduceLeDiff,reduceCtorEq,Nat.reduceEqDiff,Nat.reduceAdd,Z6]
 ·have M1:(((off+n:Nat):Int)<(l.length:Int))=False:=eq_false (by omega)
  have E4:((0:Int)≤(l.length:Int))=True:=eq_true (by omega)
  have E5:((l.length:Int)≤(l.length:Int))=True:=eq_true (ZbS _)
  have E3:((off:Int)≤(l.length:Int))=True:=eq_true (by omega)
  have T2:((l.length:Nat):Int).toNat=l.length:=Zay _
  have hq:=hp (l.length - off) (.inr ⟨rfl,by omega⟩)
  rw [aA adr rfl];simp only [JF,aW,Nat.reduceBEq,Nat.reduceLeDiff,Nat.reduceAdd,zd,zj]
  simp only [W1,W2,T1,T2,Q0,M1,E3,E4,E5,hq,Z3,aC,Nat.reduceMul,Nat.reduceBEq,Nat.reduceLT,Nat.reduceLeDiff,reduceCtorEq,Nat.reduceEqDiff,Nat.reduceAdd,Z6]
set_option maxRecDepth 20000 in
theorem ahe {l:List cZ}{n:Nat}(h1:1≤l.length∧l.length≤4096)(h2:1≤n∧n≤4096){st:St}(h:st.head [0,1,4,6,7,39] st.boxes.length=some ⟨sl 45 [(0,.pv (.list 8 (l.map bH))),(1,.pv (.int .i64 (n:Int))),(4,.aO 0 0),(6,.row 1 (((iL n l).take ((0:Nat))).map eU)),(7,.pv (.int .i64 (0:Nat))),(39,.any)],[⟨false,[.pv (.int .i64 0),.pv (.int .i64 0),.pv (.list 0 [])]⟩],[],none⟩) :
  den env E8 st=some (.normal,⟨sl 45 [(0,.pv (.list 8 (l.map bH))),(1,.pv (.int .i64 (n:Int))),(4,.aO 0 0),(5,.any),(6,.row 1 ((iL n l).map eU))],[⟨false,[.pv (.int .i64 0),.pv (.int .i64 0),.pv (.list 0 [])]⟩],[],none⟩):=by
 unfold E8
 refine aY (env:=env) (nb:=1) ((iL n l).length) (fun i=>⟨sl 45 [(0,.pv (.list 8 (l.map bH))),(1,.pv (.int .i64 (n:Int))),(4,.aO 0 0),(6,.row 1 (((iL n l).take (i)).map eU)),(7,.pv (.int .i64 i)),(39,.any)],[⟨false,[.pv (.int .i64 0),.pv (.int .i64 0),.pv (.list 0 [])]⟩],[],none⟩) (fun i=>some (.normal,⟨sl 45 [(0,.pv (.list 8 (l.map bH))),(1,.pv (.int .i64 (n:Int))),(4,.aO 0 0),(5,.any),(6,.row 1 ((iL n l).map eU))],[⟨false,[.pv (.int .i64 0),.pv (.int .i64 0),.pv (.list 0 [])]⟩],[],none⟩)) h (fun _=>rfl) (fun _=>by simp only [aW,bI,Nat.reduceMul,Nat.reduceBEq,Nat.reduceLT,Nat.reduceLeDiff,Nat.reduceAdd,decide_true,zP,zz]) ?_ ?_
 ·intro i rb hi ih
  have hT:=wz h1 h2
  have hlen:=hT.len
  have hi1:=bC hi (by unfold lim;omega)
  have e0:=ad4 hT.s hT.f
  rw [← hT.n] at e0
  have F1:((i:Int)<((iL n l).length:Int))=True:=eq_true (by omega)
  have hin:i*n<l.length:=by rw [jB] at hi;exact (rE h2.1).1 hi
  have e1:=U4 (l:=l) (n:=n) (i:=i) h1.2 h2 hin
  have e2:=akf (l:=wu n l i) (by unfold wu;rw [Zaa];unfold lim;omega)
  have F4:(((iL n l).take i).length+1≤lim)=True:=eq_true (by rw [Zaa];unfold lim;omega)
  have et:((iL n l).take (i+1)).map eU=((iL n l).take i).map eU++[.int .u64 (hash (iV (wu n l i)))]:=by rw [take_snoc hi,MH,Zag];rfl
  rw [et] at ih
  simp only [EZ,F1,F4,e0,e1,e2,Z3,aC,Nat.reduceMul,Nat.reduceBEq,Nat.reduceLT,Nat.reduceLeDiff,reduceCtorEq,Nat.reduceEqDiff,Nat.reduceAdd,Z6]
  rw [ih _ (by simp only [hi1,aC,Nat.reduceMul,Nat.reduceBEq,Nat.reduceLT,Nat.reduceLeDiff,reduceCtorEq,Nat.reduceEqDiff,Nat.reduceAdd,Z6]<;>rfl)]
 ·intro rb
  have hT:=wz h1 h2
  have e0:=ad4 hT.s hT.f
  rw [← hT.n] at e0
  rw [Zas]
  simp only [EZ,e0,Zat,Z3,aC,Nat.reduceMul,Nat.reduceBEq,Nat.reduceLT,Nat.reduceLeDiff,reduceCtorEq,Nat.reduceEqDiff,Nat.reduceAdd,Z6]
set_option maxRecDepth 20000 in
theorem ad5 {l:List cZ}{n:Nat}(h1:1≤l.length∧l.length≤4096)(h2:1≤n∧n≤4096):cal env 128 [.list 8 (l.map bH),.int .i64 (n:Int)]=some [(Bg (Bh (l.length:Int) (n:Int) (iL n l)),false),(.int .i64 0,false)]:=by
 have hT:=wz h1 h2
 have e3:=akB (l:=iL n l) (sz:=(l.length:Int)) (lf:=(n:Int)) hT.len.1 hT.len.2
 have F1:((l.length:Int)<1)=False:=eq_false (by omega)
 have F2:((l.length:Int) > 4096)=False:=eq_false (by omega)
 have F3:((n:Int)<1)=False:=eq_false (by omega)
 have F4:((n:Int) > 4096)=False:=eq_false (by omega)
 have sc:∀ (m n:Int) (z:Nat) (l:List PV),(PV.agg [.int .i64 m,.int .i64 n,.list z l]).scalar=false:=fun _ _ _ _=>rfl
 rw [lG] at e3 ⊢
 rw [aA ajh rfl];simp only [Pv,aW,Nat.reduceBEq,Nat.reduceLeDiff,Nat.reduceAdd,zd,zj]
 simp only [F1,F2,F3,F4,P3,Z3,aC,Nat.reduceMul,Nat.reduceBEq,Nat.reduceLT,Nat.reduceLeDiff,reduceCtorEq,Nat.reduceEqDiff,Nat.reduceAdd,Z6]
 rw [ahe (l:=l) (n:=n) h1 h2 (by simp only [aW,bI,Nat.reduceMul,Nat.reduceBEq,Nat.reduceLT,Nat.reduceLeDiff,Nat.reduceAdd,decide_true,zP,zz]<;>rfl)]
 simp only [e3,P3,sc,Z3,aC,Nat.reduceMul,Nat.reduceBEq,Nat.reduceLT,Nat.reduceLeDiff,reduceCtorEq,Nat.reduceEqDiff,Nat.reduceAdd,Z6]
theorem akC {w:nT}{k:Nat}(hk:k<w.t.lv.length)(h:w.nO=(k:Int)):cal env 193 [.cu (wP w) 0]=some [(.list 1 (w.t.lv[k].map eU),false)]:=by
 have hx:(w.t.lv.map iJ)[k]?=some (.list 1 (w.t.lv[k].map eU)):=by rw [zc,ZD hk];rfl
 rw [aA adt rfl];simp only [JH,aW,Nat.reduceBEq,Nat.reduceLeDiff,Nat.reduceAdd,zd,zj]
 simp only [jI,h,hx,au hk,Z3,aC,Nat.reduceMul,Nat.reduceBEq,Nat.reduceLT,Nat.reduceLeDiff,reduceCtorEq,Nat.reduceEqDiff,Nat.reduceAdd,Z6]
def xP (g:Int→Int)(ns:List Int):List Int:=ns.flatMap fun n=>oZ (g n)
theorem wC (d:Int):(oZ d).length=8:=by simp [oZ]
theorem rF (g:Int→Int)(ns:List Int):(xP g ns).length=8*ns.length:=by
 induction ns with
 |nil=>rfl
 |cons n ns ih=>show (oZ (g n)++xP g ns).length=_;rw [zE,ih,wC,zd];omega
theorem QO (g:Int→Int)(n:Int)(ns:List Int):(xP g (n::ns)).map jG=(oZ (g n)).map jG++(xP g ns).map jG:=by
 rw [← Zag];rfl
theorem Wy (g:Int→Int)(n:Int)(ns:List Int):((xP g (n::ns)).map jG).take 8=(oZ (g n)).map jG:=by
 rw [QO,List.take_left' (by rw [Z3,wC])]
theorem WA (g:Int→Int)(n:Int)(ns:List Int):((xP g (n::ns)).map jG).drop 8=(xP g ns).map jG:=by
 rw [QO,List.drop_left' (by rw [Z3,wC])]
theorem WB (g:Int→Int)(n:Int)(ns:List Int):((xP g ns).map jG).take ((xP g (n::ns)).length - 8)=(xP g ns).map jG:=by
 apply ZaH
 rw [Z3,rF,rF,zd]
 omega
def oth (g f:Int→Int)(ns:List Int):List Int:=ns.filter fun n=>decide (g n≠f n)
theorem ad6 (g f:Int→Int)(ns:List Int)(n:Int):oth g f (ns++[n])=if g n=f n then oth g f ns else oth g f ns++[n]:=by
 unfold oth
 rw [ZbJ]
 by_cases c:g n=f n
 ·rw [if_pos c];simp [c]
 ·rw [if_neg c];simp [c]
theorem ahf (g f:Int→Int)(ns:List Int):(oth g f ns).length≤ns.length:=List.length_filter_le _ _
theorem apT {w:nT}{L:List Int}(h:1≤L.length):DU (.list 1 (L.map eU)) (wB w)=true:=by
 cases L with
 |nil=>simp at h
 |cons d L =>
  unfold DU
  rw [Zai,jZ]
  simp only [eU]
  rw [ZZ]
  refine ⟨?_,by rfl⟩
  rw [zt]
  intro x hx
  obtain ⟨y,-,rfl⟩:=ZaS.1 hx
  rfl
def stB (w:nT)(g f:Int→Int)(ns:List Int)(j:Nat):List Box:=[⟨false,wB { w with sent:=w.sent+(j:Int) }⟩,⟨false,[.pv (.list 1 ((xP g (ns.drop j)).map jG))]⟩,⟨false,[.row 1 ((oth g f (ns.take j)).map eI)]⟩]
set_option maxRecDepth 20000 in
theorem akD {w:nT}{k:Nat}{g:Int→Int}{L:List Int}(hk:k<w.t.lv.length)(jC:w.nO=(k:Int))(hL:w.t.lv[k]=L)(hu:∀ d∈L,QI d)(hg:∀ n,QI (g n))(hlL:L.length≤4096)
  (hp:w.pend.length≤10000) (hpo:∀ x∈w.pend,0≤x.start∧x.start≤10000∧0≤x.count∧x.count≤10000) (hn:∀ n∈fU w.pend,0≤n∧n<(L.length:Int)) (hnl:(fU w.pend).length≤4096) (hs:0≤w.sent∧w.sent≤100000) :
  Eu env 101 (.box (wP w)) [.list 1 ((xP g (fU w.pend)).map jG)]=some ([(.list 1 ((oth g (fun n=>L.getD n.toNat 0) (fU w.pend)).map eI),true)],some (wP { w with sent:=w.sent+((fU w.pend).length:Int) })):=by
 have hit:=Wp hp hpo
 have c0:=ad2 (l:=w.pend.map aZ)
 have hlB:(xP g (fU w.pend)).length≤lim:=by rw [rF];unfold lim;omega
 obtain ⟨f,hf⟩:∃ f:Int→Int,f=fun n=>L.getD n.toNat 0:=⟨_,rfl⟩
 rw [← hf]
 rw [lQ ai8 rfl]
 simp only [Pg,jI,Le,VK,VL,aN,aU,aJ,aT,aF,aH,aK,aP,Nat.reduceAdd,Nat.reduceSub]
 have fpp:∀ o j,(AV.pp o j).froze=.pp o j:=fun _ _=>rfl
 simp only [c0,jI,fpp,bJ,reduceCtorEq,Nat.reduceEqDiff,Nat.reduceAdd,Nat.reduceLT,Nat.reduceLeDiff,Z6]
 rw [uz (env:=env) (stB w g f (fU w.pend)) (xs:=yN (fU w.pend)) rfl hit ?_ ?_]
 ·have e1:(yN (fU w.pend)).length=(fU w.pend).length:=by simp [yN]
  simp only [e1,fpp,stB,Zas,jZ,xJ,bJ,reduceCtorEq,Nat.reduceEqDiff,Nat.reduceAdd,Nat.reduceLT,Nat.reduceLeDiff,Z6]
 ·simp only [stB,jZ,Int.ofNat_zero,Int.add_zero,ZaT,List.take_zero]
  rfl
 ·intro j x hx sl0
  simp only [yN,zc,Zao] at hx
  obtain ⟨n,hb,rfl⟩:=hx
  obtain ⟨hj,hnj⟩:=zb.1 hb
  have hnm:n∈fU w.pend:=by rw [← hnj];exact Zap hj
  obtain ⟨n0,n1⟩:=hn n hnm
  have hd:(fU w.pend).drop j=n::(fU w.pend).drop (j+1):=by rw [zr hj,hnj]
  have ht:(fU w.pend).take (j+1)=(fU w.pend).take j++[n]:=by rw [take_snoc hj,hnj]
  have c1:=akC (w:={ w with sent:=w.sent+(j:Int) }) hk jC
  rw [hL,jI] at c1
  have c1':=show iP (den env) env 193 _=_ from c1
  have hsep:=apT (w:={ w with sent:=w.sent+(j:Int) }) (L:=L) (by omega)
  rw [jZ] at hsep
  have pk:∀ v,(BV.pv v).peek=v:=fun _=>rfl
  have T8:(8 - 0:Nat)=8:=rfl
  have T9:Zcy 8=8:=rfl
  have hi:n.toNat<L.length:=by omega
  have hfn:f n=L[n.toNat]:=by rw [hf];show L.getD _ _=_;rw [zR,ZD hi];rfl
  have hx:(L.map eU)[n.toNat]?=some (.int .u64 (f n)):=by rw [zc,ZD hi,hfn];rfl
  have c2:=adZ (d:=f n)
  have c3:cal env 192 [.list 1 ((oZ (g n)).map jG),.list 1 ((oZ (f n)).map jG)]=some [(.bool (decide (oZ (g n)=oZ (f n))),false)]:=akp (by rw [wC];decide)
  have hI:index (.int .i64 n) L.length=some n.toNat:=A8 n0 n1
  have hbl:(xP g (n::(fU w.pend).drop (j+1))).length=8+8*((fU w.pend).length - (j+1)):=by rw [rF,zd,ZaL];omega
  have b1:((0:Int)≤8∧(8:Int)≤((8+8*((fU w.pend).length - (j+1)):Nat):Int))=True:=eq_true (by omega)
  have b2:((0:Int)≤8∧(8:Int)≤((xP g (n::(fU w.pend).drop (j+1))).length:Int))=True:=eq_true (by rw [hbl];omega)
  have W1:IntKind.i64.wrap (w.sent+(j:Int)+1)=w.sent+((j+1:Nat):Int):=by rw [aI (by omega)];omega
  have hol:(oth g f ((fU w.pend).take j)).length+1≤lim:=by have:=ahf g f ((fU w.pend).take j);rw [Zaa] at this;unfold lim;omega
  have F4:=eq_true hol
  simp only [stB,hd,ht,ad6]
  by_cases c:g n=f n
  ·rw [decide_eq_true (by rw [c])] at c3
   rw [if_pos c]
   refine ⟨?_,?_⟩
   rotate_left
   simp only [EM,EN,fpp,c1',hsep,pk,T8,T9,c2,c3,hx,hI,b1,b2,W1,F4,jZ,Wy,WA,WB,Z3,xJ,bJ,reduceCtorEq,Nat.reduceEqDiff,Nat.reduceAdd,Nat.reduceLT,Nat.reduceLeDiff,Z6]
   rfl
  ·have hne:oZ (g n)≠oZ (f n):=fun e=>c (adJ (hg n) (by rw [hfn];exact hu _ (Zap hi)) e)
   rw [decide_eq_false hne] at c3
   rw [if_neg c]
   refine ⟨?_,?_⟩
   rotate_left
   simp only [EM,EN,fpp,c1',hsep,pk,T8,T9,c2,c3,hx,hI,b1,b2,W1,F4,jZ,Wy,WA,WB,Z3,Zag,Zai,Zar,show eI n=PV.int .i64 n from rfl,xJ,bJ,reduceCtorEq,Nat.reduceEqDiff,Nat.reduceAdd,Nat.reduceLT,Nat.reduceLeDiff,Z6]
   rfl
set_option maxRecDepth 20000 in
theorem ad7 {w:nT}:Eu env 103 (.box (wP w)) []=some ([],some (wP { w with nO:=0,pend:=[],fin:=true })):=by
 rw [lQ aja rfl]
 simp only [Pj,jI,aW,Nat.reduceBEq,Nat.reduceLeDiff,Nat.reduceAdd,zd,zj]
 simp only [jI,aC,Nat.reduceMul,Nat.reduceBEq,Nat.reduceLT,Nat.reduceLeDiff,reduceCtorEq,Nat.reduceEqDiff,Nat.reduceAdd,Z6]
def ad8 (l:List bP):Prop:=∀ x∈l,0≤x.start∧x.start≤100000∧0≤x.count∧x.count≤100000
set_option maxRecDepth 20000 in
theorem ad9 {l:List bP}{n:Nat}(hl:l.length≤10000)(ho:ad8 l):Eu env 194 (.row 2 (l.map aZ)) [.int .i64 (n:Int)]=some ([(.list 2 ((jr l n).map aZ),true)],none):=by
 rcases ZbO l with rfl|⟨pre,x,rfl⟩
 ·have F1:(((0:Nat):Int) > 0)=False:=eq_false (by omega)
  have F0:(1≤lim)=True:=eq_true (by decide)
  have ea:(jr [] n).map aZ=[.agg [.int .i64 (n:Int),.int .i64 1]]:=rfl
  rw [ea,Zar]
  rw [lQ UU rfl]
  simp only [FK,aW,Nat.reduceBEq,Nat.reduceLeDiff,Nat.reduceAdd,zd,zj]
  simp only [F1,F0,zj,Z3,aC,Nat.reduceMul,Nat.reduceBEq,Nat.reduceLT,Nat.reduceLeDiff,reduceCtorEq,Nat.reduceEqDiff,Nat.reduceAdd,Z6]
 ·rw [Zcj] at *
  rw [fC]
  have hx:=ho x (by simp)
  have hlen:(pre++[x]).length=pre.length+1:=by simp
  have F1:(((pre.length+1:Nat):Int) > 0)=True:=eq_true (by omega)
  have W1:IntKind.i64.wrap (((pre.length+1:Nat):Int) - 1)=(pre.length:Int):=by rw [aI (by omega)];omega
  have hI:index (.int .i64 (pre.length:Int)) (pre.length+1)=some pre.length:=au (by omega)
  have hg:((pre++[x]).map aZ)[pre.length]?=some (.agg [.int .i64 x.start,.int .i64 x.count]):=by rw [zc,List.getElem?_append_right (ze _)];simp [aZ]
  have W2:IntKind.i64.wrap (x.start+x.count)=x.start+x.count:=aI (by omega)
  have hll:pre.length+1+1≤lim:=by rw [hlen] at hl;unfold lim;omega
  have F4:=eq_true hll
  by_cases c:x.start+x.count=(n:Int)
  ·rw [if_pos c]
   have E1:(x.start+x.count==(n:Int))=true:=by simp [c]
   have W3:IntKind.i64.wrap (x.count+1)=x.count+1:=aI (by omega)
   have hs:((pre++[x]).map aZ).set pre.length (.agg [.int .i64 x.start,.int .i64 (x.count+1)])=(pre++[(⟨x.start,x.count+1⟩:bP)]).map aZ:=by
    rw [Zag,List.set_append_right _ _ (by simp)]
    simp [aZ]
   rw [lQ UU rfl]
   simp only [FK,aW,Nat.reduceBEq,Nat.reduceLeDiff,Nat.reduceAdd,zd,zj]
   simp only [F1,W1,W2,W3,hI,hg,E1,hs,hlen,Z3,aC,Nat.reduceMul,Nat.reduceBEq,Nat.reduceLT,Nat.reduceLeDiff,reduceCtorEq,Nat.reduceEqDiff,Nat.reduceAdd,Z6]
  ·rw [if_neg c]
   have E1:(x.start+x.count==(n:Int))=false:=by simp [c]
   have hs:(pre++[x]++[(⟨(n:Int),1⟩:bP)]).map aZ=(pre++[x]).map aZ++[.agg [.int .i64 (n:Int),.int .i64 1]]:=by rw [Zag];rfl
   have ht:((pre++[x]).map aZ).take (pre.length+1)=(pre++[x]).map aZ:=ZaH (by rw [Z3,hlen];exact ze _)
   rw [hs,lQ UU rfl]
   simp only [FK,aW,Nat.reduceBEq,Nat.reduceLeDiff,Nat.reduceAdd,zd,zj]
   simp only [F1,F4,W1,W2,hI,hg,E1,ht,hlen,Z3,aC,Nat.reduceMul,Nat.reduceBEq,Nat.reduceLT,Nat.reduceLeDiff,reduceCtorEq,Nat.reduceEqDiff,Nat.reduceAdd,Z6]
def JO (m:Nat)(P:List bP)(k:Nat):List bP:=if k<m then jr P k else P
def WC (m:Nat)(P:List bP)(n:Nat):List bP:=JO m (JO m P (2*n)) (2*n+1)
def pnI (m:Nat)(P:List bP)(n i:Nat):List bP:=if i=0 then P else if i=1 then JO m P (2*n) else WC m P n
def wD (w:nT)(P:List bP):List BV:=[.pv (.int .i64 w.t.sz),.pv (.int .i64 w.t.lf),.pv (.list 1 (w.t.lv.map iJ)),.row 2 (P.map aZ),.pv (.int .i64 w.nO),.pv (.list 2 (w.found.map aZ)),.pv (.int .i64 w.sent),.pv (.bool w.fin)]
theorem jS (w:nT)(P:List bP):wD w P=[.pv (.int .i64 w.t.sz),.pv (.int .i64 w.t.lf),.pv (.list 1 (w.t.lv.map iJ)),.row 2 (P.map aZ),.pv (.int .i64 w.nO),.pv (.list 2 (w.found.map aZ)),.pv (.int .i64 w.sent),.pv (.bool w.fin)]:=rfl
theorem amW {w:nT}{P:List bP}{L:List Int}(h:1≤L.length):DU (.list 1 (L.map eU)) (wD w P)=true:=by
 cases L with
 |nil=>simp at h
 |cons d L =>
  unfold DU
  rw [Zai,jS]
  simp only [eU]
  rw [ZZ]
  refine ⟨?_,by rfl⟩
  rw [zt]
  intro x hx
  obtain ⟨y,-,rfl⟩:=ZaS.1 hx
  rfl
theorem aea {l:List bP}{n:Nat}{B:Int}(h:∀ x∈l,0≤x.start∧x.start≤B∧0≤x.count∧x.count≤B)(hn:(n:Int)<B)(h1:1≤B)(hB:∀ x∈l,x.start+x.count≤B):(∀ x∈jr l n,0≤x.start∧x.start≤B∧0≤x.count∧x.count≤B)∧∀ x∈jr l n,x.start+x.count≤B:=by
 rcases ZbO l with rfl|⟨pre,y,rfl⟩
 ·have e:jr [] n=[⟨(n:Int),1⟩]:=rfl
  rw [e]
  refine ⟨fun x hx=>?_,fun x hx=>?_⟩<;>rw [Zaq.1 hx]<;>simp only<;>omega
 ·rw [Zcj] at *
  rw [fC]
  have hy:=h y (by simp)
  have hy2:=hB y (by simp)
  split
  ·rename_i c
   refine ⟨fun x hx=>?_,fun x hx=>?_⟩<;>rcases ZaE.1 hx with hx|hx
   ·exact h x (by simp [hx])
   ·rw [Zaq.1 hx];simp only;omega
   ·exact hB x (by simp [hx])
   ·rw [Zaq.1 hx];simp only;omega
  ·refine ⟨fun x hx=>?_,fun x hx=>?_⟩<;>rcases ZaE.1 hx with hx|hx
   ·exact h x hx
   ·rw [Zaq.1 hx];simp only;omega
   ·exact hB x hx
   ·rw [Zaq.1 hx];simp only;omega
def IJ (P:List bP):Prop:=(∀ x∈P,0≤x.start∧x.start≤5000∧0≤x.count∧x.count≤5000)∧∀ x∈P,x.start+x.count≤5000
theorem IJ.ad {P:List bP}(h:IJ P){m k:Nat}(hm:m≤4096):IJ (JO m P k):=by
 unfold JO
 split
 ·exact aea h.1 (by omega) (by omega) h.2
 ·exact h
theorem IJ.ad8 {P:List bP}(h:IJ P):ad8 P:=fun x hx=>by have:=h.1 x hx;omega
theorem aeb (l:List bP)(n:Nat):(jr l n).length≤l.length+1:=by
 unfold jr
 split
 ·split
  ·rw [zE,List.length_dropLast];simp only [zd,zj];omega
  ·rw [zE];simp
 ·simp
theorem MI (m:Nat)(P:List bP)(k:Nat):(JO m P k).length≤P.length+1:=by
 unfold JO
 split
 ·exact aeb P k
 ·omega
theorem ahg {a b p e g h:PV}{lv:List (List Int)}{k:Nat}(hk:k<lv.length):cal env 193 [.cu [a,b,.list 1 (lv.map iJ),p,.int .i64 (k:Int),e,g,h] 0]=some [(.list 1 (lv[k].map eU),false)]:=by
 have hx:(lv.map iJ)[k]?=some (.list 1 (lv[k].map eU)):=by rw [zc,ZD hk];rfl
 rw [aA adt rfl];simp only [JH,aW,Nat.reduceBEq,Nat.reduceLeDiff,Nat.reduceAdd,zd,zj]
 simp only [hx,au hk,Z3,aC,Nat.reduceMul,Nat.reduceBEq,Nat.reduceLT,Nat.reduceLeDiff,reduceCtorEq,Nat.reduceEqDiff,Nat.reduceAdd,Z6]
set_option maxRecDepth 20000 in
theorem ahh {w:nT}{ns:List Nat}{P:List bP}{L:List Int}{k n j:Nat}(hk:k<w.t.lv.length)(jC:w.nO=(k:Int))(hL:w.t.lv[k]=L)(h1:1≤L.length)(h2:L.length≤4096)(hP:IJ P)(hPl:P.length≤9000)(hn:n≤4096){st:St}(h:st.head [0,1,21,22,23,32,33,34] st.boxes.length=some ⟨sl 56 [(0,.aO 0 0),(1,.pv (.list 1 (ns.map fun (i:Nat)=>eI (i:Int)))),(21,.pv (.list 1 (ns.map fun (i:Nat)=>eI (i:Int)))),(22,.pv (.int .i64 ns.length)),(23,.pv (.int .i64 j)),(32,.row 1 [.int .i64 ((2*n:Nat):Int),.int .i64 ((2*n+1:Nat):Int)]),(33,.pv (.int .i64 2)),(34,.pv (.int .i64 (0:Nat)))],[⟨false,wD w (pnI L.length P n ((0:Nat)))⟩],[],none⟩) :
  den env ER st=some (.normal,⟨sl 56 [(0,.aO 0 0),(1,.pv (.list 1 (ns.map fun (i:Nat)=>eI (i:Int)))),(21,.pv (.list 1 (ns.map fun (i:Nat)=>eI (i:Int)))),(22,.pv (.int .i64 ns.length)),(23,.pv (.int .i64 j))],[⟨false,wD w (WC L.length P n)⟩],[],none⟩):=by
 unfold ER
 refine aY (env:=env) (nb:=1) (2) (fun i=>⟨sl 56 [(0,.aO 0 0),(1,.pv (.list 1 (ns.map fun (i:Nat)=>eI (i:Int)))),(21,.pv (.list 1 (ns.map fun (i:Nat)=>eI (i:Int)))),(22,.pv (.int .i64 ns.length)),(23,.pv (.int .i64 j)),(32,.row 1 [.int .i64 ((2*n:Nat):Int),.int .i64 ((2*n+1:Nat):Int)]),(33,.pv (.int .i64 2)),(34,.pv (.int .i64 i))],[⟨false,wD w (pnI L.length P n (i))⟩],[],none⟩) (fun i=>some (.normal,⟨sl 56 [(0,.aO 0 0),(1,.pv (.list 1 (ns.map fun (i:Nat)=>eI (i:Int)))),(21,.pv (.list 1 (ns.map fun (i:Nat)=>eI (i:Int)))),(22,.pv (.int .i64 ns.length)),(23,.pv (.int .i64 j))],[⟨false,wD w (WC L.length P n)⟩],[],none⟩)) h (fun _=>rfl) (fun _=>by simp only [aW,bI,Nat.reduceMul,Nat.reduceBEq,Nat.reduceLT,Nat.reduceLeDiff,Nat.reduceAdd,decide_true,zP,zz]) ?_ ?_
 ·intro i rb hi ih
  have hi1:=bC (n:=2) hi (by decide)
  have F1:((i:Int)<2)=True:=eq_true (by omega)
  have c1:=fun p=>show iP (den env) env 193 _=_ from ahg (a:=.int .i64 w.t.sz) (b:=.int .i64 w.t.lf) (p:=p) (e:=.list 2 (w.found.map aZ)) (g:=.int .i64 w.sent) (h:=.bool w.fin) (lv:=w.t.lv) hk
  rw [hL] at c1
  have pk:∀ v,(BV.pv v).peek=v:=fun _=>rfl
  have pk2:∀ s v,(BV.row s v).peek=.void:=fun _ _=>rfl
  have F0:(1≤lim)=True:=eq_true (by decide)
  rcases (by omega:i=0∨i=1) with rfl|rfl
  ·have hsep:=amW (w:=w) (P:=P) h1
   have c2:=ad9 (l:=P) (n:=2*n) (by omega) hP.ad8
   have e1:pnI L.length P n 0=P:=rfl
   have e2:pnI L.length P n (0+1)=JO L.length P (2*n):=rfl
   rw [e2] at ih
   rw [e1]
   unfold JO at ih
   rw [jS,jC] at hsep
   have hI:index (.int .i64 ((0:Nat):Int)) 2=some 0:=rfl
   by_cases c:2*n<L.length
   ·have F2:(((2*n:Nat):Int)<(L.length:Int))=True:=eq_true (by omega)
    rw [if_pos c] at ih
    simp only [sN,F1,F2,hI,jC,c1,c2,pk,pk2,hsep,jS,Z3,aC,Nat.reduceMul,Nat.reduceBEq,Nat.reduceLT,Nat.reduceLeDiff,reduceCtorEq,Nat.reduceEqDiff,Nat.reduceAdd,Z6]
    rw [ih _ (by simp only [hi1,jC,jS,aC,Nat.reduceMul,Nat.reduceBEq,Nat.reduceLT,Nat.reduceLeDiff,reduceCtorEq,Nat.reduceEqDiff,Nat.reduceAdd,Z6]<;>rfl)]
    simp only [jS,jC]
   ·have F2:(((2*n:Nat):Int)<(L.length:Int))=False:=eq_false (by omega)
    rw [if_neg c] at ih
    simp only [sN,F1,F2,hI,jC,c1,pk,pk2,hsep,jS,Z3,aC,Nat.reduceMul,Nat.reduceBEq,Nat.reduceLT,Nat.reduceLeDiff,reduceCtorEq,Nat.reduceEqDiff,Nat.reduceAdd,Z6]
    rw [ih _ (by simp only [hi1,jC,jS,aC,Nat.reduceMul,Nat.reduceBEq,Nat.reduceLT,Nat.reduceLeDiff,reduceCtorEq,Nat.reduceEqDiff,Nat.reduceAdd,Z6]<;>rfl)]
    simp only [jS,jC]
  ·have hsep:=amW (w:=w) (P:=JO L.length P (2*n)) h1
   have hlen:=MI L.length P (2*n)
   have c2:=ad9 (l:=JO L.length P (2*n)) (n:=2*n+1) (by omega) (hP.ad h2).ad8
   have e1:pnI L.length P n 1=JO L.length P (2*n):=rfl
   have e2:pnI L.length P n (1+1)=JO L.length (JO L.length P (2*n)) (2*n+1):=rfl
   rw [e2] at ih
   rw [e1]
   generalize JO L.length P (2*n)=Q at *
   unfold JO at ih
   rw [jS,jC] at hsep
   have hI:index (.int .i64 ((1:Nat):Int)) 2=some 1:=rfl
   by_cases c:2*n+1<L.length
   ·have F2:(((2*n+1:Nat):Int)<(L.length:Int))=True:=eq_true (by omega)
    rw [if_pos c] at ih
    simp only [sN,F1,F2,hI,jC,c1,c2,pk,pk2,hsep,jS,Z3,aC,Nat.reduceMul,Nat.reduceBEq,Nat.reduceLT,Nat.reduceLeDiff,reduceCtorEq,Nat.reduceEqDiff,Nat.reduceAdd,Z6]
    rw [ih _ (by simp only [hi1,jC,jS,aC,Nat.reduceMul,Nat.reduceBEq,Nat.reduceLT,Nat.reduceLeDiff,reduceCtorEq,Nat.reduceEqDiff,Nat.reduceAdd,Z6]<;>rfl)]
    simp only [jS,jC]
   ·have F2:(((2*n+1:Nat):Int)<(L.length:Int))=False:=eq_false (by omega)
    rw [if_neg c] at ih
    simp only [sN,F1,F2,hI,jC,c1,pk,pk2,hsep,jS,Z3,aC,Nat.reduceMul,Nat.reduceBEq,Nat.reduceLT,Nat.reduceLeDiff,reduceCtorEq,Nat.reduceEqDiff,Nat.reduceAdd,Z6]
    rw [ih _ (by simp only [hi1,jC,jS,aC,Nat.reduceMul,Nat.reduceBEq,Nat.reduceLT,Nat.reduceLeDiff,reduceCtorEq,Nat.reduceEqDiff,Nat.reduceAdd,Z6]<;>rfl)]
    simp only [jS,jC]
 ·intro rb
  have F1:(((2:Nat):Int)<2)=False:=eq_false (by omega)
  have e2:pnI L.length P n 2=WC L.length P n:=rfl
  rw [e2]
  simp only [sN,F1,jS,aC,Nat.reduceMul,Nat.reduceBEq,Nat.reduceLT,Nat.reduceLeDiff,reduceCtorEq,Nat.reduceEqDiff,Nat.reduceAdd,Z6]
def pN (m:Nat)(ns:List Nat):List bP:=ns.foldl (WC m) []
theorem xB (m:Nat)(ns:List Nat)(n:Nat):pN m (ns++[n])=WC m (pN m ns) n:=by simp [pN]
theorem ahi (m:Nat)(P:List bP)(n:Nat):(WC m P n).length≤P.length+2:=by
 have h1:=MI m P (2*n)
 have h2:=MI m (JO m P (2*n)) (2*n+1)
 unfold WC;omega
theorem akE (m:Nat):∀ (k:Nat) (ns:List Nat),ns.length=k→(pN m ns).length≤2*k:=by
 intro k
 induction k with
 |zero=>intro ns h;rw [Zah h];exact ze _
 |succ k ih =>
  intro ns h
  rcases fD ns with rfl|⟨p,x,rfl⟩
  ·simp at h
  ·rw [xB]
   have:=ahi m (pN m p) x
   have:=ih p (by simpa using h)
   omega
theorem IJ.WC {P:List bP}(h:IJ P){m n:Nat}(hm:m≤4096):IJ (WC m P n):=(h.ad hm).ad hm
theorem amX {m:Nat}(hm:m≤4096):∀ (k:Nat) (ns:List Nat),ns.length=k→IJ (pN m ns):=by
 intro k
 induction k with
 |zero=>intro ns h;rw [Zah h];exact ⟨fun x hx=>(by cases hx),fun x hx=>(by cases hx)⟩
 |succ k ih =>
  intro ns h
  rcases fD ns with rfl|⟨p,x,rfl⟩
  ·simp at h
  ·rw [xB]
   exact (ih p (by simpa using h)).WC hm
set_option maxRecDepth 20000 in
theorem Zk {w:nT}{ns:List Nat}{L:List Int}{k:Nat}(hk:k<w.t.lv.length)(jC:w.nO=(k:Int))(hL:w.t.lv[k]=L)(h1:1≤L.length)(h2:L.length≤4096)(hnl:ns.length≤4096)(hns:∀ n∈ns,n≤4096){st:St}(h:st.head [0,1,21,22,23] st.boxes.length=some ⟨sl 56 [(0,.aO 0 0),(1,.pv (.list 1 (ns.map fun (i:Nat)=>eI (i:Int)))),(21,.pv (.list 1 (ns.map fun (i:Nat)=>eI (i:Int)))),(22,.pv (.int .i64 ns.length)),(23,.pv (.int .i64 (0:Nat)))],[⟨false,wD w (pN L.length (ns.take ((0:Nat))))⟩],[],none⟩) :
  den env ET st=some (.normal,⟨sl 56 [],[⟨false,wD w (pN L.length ns)⟩],[],none⟩):=by
 unfold ET
 refine aY (env:=env) (nb:=1) (ns.length) (fun i=>⟨sl 56 [(0,.aO 0 0),(1,.pv (.list 1 (ns.map fun (i:Nat)=>eI (i:Int)))),(21,.pv (.list 1 (ns.map fun (i:Nat)=>eI (i:Int)))),(22,.pv (.int .i64 ns.length)),(23,.pv (.int .i64 i))],[⟨false,wD w (pN L.length (ns.take (i)))⟩],[],none⟩) (fun i=>some (.normal,⟨sl 56 [],[⟨false,wD w (pN L.length ns)⟩],[],none⟩)) h (fun _=>rfl) (fun _=>by simp only [aW,bI,Nat.reduceMul,Nat.reduceBEq,Nat.reduceLT,Nat.reduceLeDiff,Nat.reduceAdd,decide_true,zP,zz]) ?_ ?_
 ·intro i rb hi ih
  have hi1:=bC hi (by unfold lim;omega)
  have F1:((i:Int)<(ns.length:Int))=True:=eq_true (by omega)
  have hx:(ns.map fun (i:Nat)=>eI (i:Int))[i]?=some (.int .i64 (ns[i]:Int)):=by rw [zc,ZD hi];rfl
  have hn:=hns _ (Zap hi)
  have W1:IntKind.i64.wrap (2*(ns[i]:Int))=((2*ns[i]:Nat):Int):=by rw [aI (by omega)];omega
  have W2:IntKind.i64.wrap (((2*ns[i]:Nat):Int)+1)=((2*ns[i]+1:Nat):Int):=by rw [aI (by omega)];omega
  have hPl:=akE L.length i (ns.take i) (by rw [Zaa];omega)
  have hPo:=amX h2 i (ns.take i) (by rw [Zaa];omega)
  rw [take_snoc hi,xB] at ih
  generalize ns[i]=n at *
  generalize pN L.length (ns.take i)=P at *
  have e0:pnI L.length P n 0=P:=rfl
  simp only [ES,F1,W1,W2,hx,jS,au hi,Z3,aC,Nat.reduceMul,Nat.reduceBEq,Nat.reduceLT,Nat.reduceLeDiff,reduceCtorEq,Nat.reduceEqDiff,Nat.reduceAdd,Z6]
  rw [ahh (w:=w) (ns:=ns) (P:=P) (L:=L) (k:=k) (n:=n) (j:=i) hk jC hL h1 h2 hPo (by omega) hn (by rw [e0,jS];simp only [aW,bI,Nat.reduceMul,Nat.reduceBEq,Nat.reduceLT,Nat.reduceLeDiff,Nat.reduceAdd,decide_true,zP,zz]<;>rfl)]
  simp only [jS,aC,Nat.reduceMul,Nat.reduceBEq,Nat.reduceLT,Nat.reduceLeDiff,reduceCtorEq,Nat.reduceEqDiff,Nat.reduceAdd,Z6]
  rw [ih _ (by simp only [hi1,jS,aC,Nat.reduceMul,Nat.reduceBEq,Nat.reduceLT,Nat.reduceLeDiff,reduceCtorEq,Nat.reduceEqDiff,Nat.reduceAdd,Z6]<;>rfl)]
  <;> first|done|rfl|simp only [jS]
 ·intro rb
  rw [Zas]
  simp only [ES,Zat,jS,aC,Nat.reduceMul,Nat.reduceBEq,Nat.reduceLT,Nat.reduceLeDiff,reduceCtorEq,Nat.reduceEqDiff,Nat.reduceAdd,Z6]
  <;> first|done|rfl
set_option maxRecDepth 20000 in
theorem akF {w:nT}{ns:List Nat}{L:List Int}{k:Nat}(hk:k<w.t.lv.length)(jC:w.nO=((k+1:Nat):Int))(hL:w.t.lv[k]=L)(h1:1≤L.length)(h2:L.length≤4096)(hnl:ns.length≤4096)(hns:∀ n∈ns,n≤4096)(hv:w.t.lv.length≤100):Eu env 104 (.box (wP w)) [.list 1 (ns.map fun (i:Nat)=>eI (i:Int))]=some ([],some (wP { w with nO:=(k:Int),pend:=pN L.length ns })):=by
 have W1:IntKind.i64.wrap (((k+1:Nat):Int) - 1)=(k:Int):=by rw [aI (by omega)];omega
 have hx:pN L.length (Zb4 0 ns)=[]:=rfl
 rw [lQ ajb rfl]
 simp only [Pm,jI,jC,aW,Nat.reduceBEq,Nat.reduceLeDiff,Nat.reduceAdd,zd,zj]
 simp only [W1,jI,Z3,aC,Nat.reduceMul,Nat.reduceBEq,Nat.reduceLT,Nat.reduceLeDiff,reduceCtorEq,Nat.reduceEqDiff,Nat.reduceAdd,Z6]
 rw [Zk (w:={ w with nO:=(k:Int),pend:=[] }) (ns:=ns) (L:=L) (k:=k) hk rfl hL h1 h2 hnl hns (by rw [hx,jS];simp only [aW,bI,Nat.reduceMul,Nat.reduceBEq,Nat.reduceLT,Nat.reduceLeDiff,Nat.reduceAdd,decide_true,zP,zz]<;>rfl)]
 simp only [jI,jS,aC,Nat.reduceMul,Nat.reduceBEq,Nat.reduceLT,Nat.reduceLeDiff,reduceCtorEq,Nat.reduceEqDiff,Nat.reduceAdd,Z6]
theorem yJ {α:Type}{l:List α}{i:Nat}(h:i<l.length):l.take (i+1)=l.take i++[l[i]]:=by rw [List.take_succ_eq_append_getElem h]
def okE (x:bP):Prop:=(-9223372036854775808≤x.start∧x.start≤9223372036854775807)∧(-9223372036854775808≤x.count∧x.count≤9223372036854775807)
def uD (l:List bP):Prop:=∀ x∈l,okE x
def uU (e:bP):Int:=max e.start 0
def ZO (e:bP):Int:=if e.start<0∨e.count<4096 - e.start then min (e.start+e.count) 4096 else 4096
def wX (e:bP):Int×Int×Bool:=if e.count≤0 then (0,0,false) else (uU e,ZO e,decide (uU e<ZO e))
def JQ (e:bP)(s:Nat):Bool:=decide (0<e.count)&&(decide (e.start≤(s:Int))&&decide ((s:Int)<e.start+e.count))
def qG (l:List bP)(s:Nat):Bool:=l.any fun e=>JQ e s
theorem MJ {e:bP}(h:(wX e).2.2=true):∃ n m:Nat,wX e=((n:Int),(m:Int),true)∧n<m∧m≤4096∧∀ s:Nat,s<4096→(JQ e s=true ↔ n≤s∧s<m):=by
 unfold wX at h ⊢
 by_cases c:e.count≤0
 ·rw [if_pos c] at h;cases h
 ·rw [if_neg c] at h ⊢
  have h2:uU e<ZO e:=by simpa using h
  have h3:0≤uU e:=by unfold uU;omega
  have h4:ZO e≤4096:=by unfold ZO;split<;>omega
  refine ⟨(uU e).toNat,(ZO e).toNat,?_,by omega,by omega,fun s hs=>?_⟩
  ·rw [Zbf h3,Zbf (by omega),decide_eq_true h2]
  ·unfold JQ
   simp only [ZZ,decide_eq_true_eq]
   have e1:(uU e).toNat≤s ↔ uU e≤(s:Int):=by omega
   have e2:s<(ZO e).toNat ↔ (s:Int)<ZO e:=by omega
   rw [e1,e2]
   unfold uU ZO
   split<;>omega
theorem aec {e:bP}(h:(wX e).2.2=false){s:Nat}(hs:s<4096):JQ e s=false:=by
 unfold wX at h
 by_cases c:e.count≤0
 ·unfold JQ
  rw [decide_eq_false (by omega),Za8]
 ·rw [if_neg c] at h
  have h2:¬ uU e<ZO e:=by simpa using h
  unfold JQ
  cases hq:(decide (0<e.count)&&(decide (e.start≤(s:Int))&&decide ((s:Int)<e.start+e.count))) with
  |false=>rfl
  |true =>
   exfalso
   simp only [ZZ,decide_eq_true_eq] at hq
   apply h2
   unfold uU ZO
   split<;>omega
theorem akG {e:bP}(ho:okE e):cal env 273 [aZ e]=some [(.int .i64 (wX e).1,false),(.int .i64 (wX e).2.1,false),(.bool (wX e).2.2,false)]:=by
 obtain ⟨⟨o1,o2⟩,o3,o4⟩:=ho
 unfold wX
 simp only [aZ]
 by_cases c:e.count≤0
 ·rw [if_pos c]
  rw [aA MB rfl];simp only [CG,aW,Nat.reduceBEq,Nat.reduceLeDiff,Nat.reduceAdd,zd,zj]
  simp only [c,aC,Nat.reduceMul,Nat.reduceBEq,Nat.reduceLT,Nat.reduceLeDiff,reduceCtorEq,Nat.reduceEqDiff,Nat.reduceAdd,Z6]
 ·rw [if_neg c]
  unfold uU ZO
  have hmin:min (e.start+e.count) 4096=if 4096<e.start+e.count then 4096 else e.start+e.count:=by split<;>omega
  by_cases c1:e.start<0
  ·have hmax:max e.start 0=0:=by omega
   rw [hmin,hmax]
   have W1:IntKind.i64.wrap (e.start+e.count)=e.start+e.count:=aI (by omega)
   rw [if_pos (.inl c1)]
   rw [aA MB rfl];simp only [CG,aW,Nat.reduceBEq,Nat.reduceLeDiff,Nat.reduceAdd,zd,zj]
   simp only [c,c1,W1,aC,Nat.reduceMul,Nat.reduceBEq,Nat.reduceLT,Nat.reduceLeDiff,reduceCtorEq,Nat.reduceEqDiff,Nat.reduceAdd,Z6]
  ·have hmax:max e.start 0=e.start:=by omega
   rw [hmin,hmax]
   have W2:IntKind.i64.wrap (4096 - e.start)=4096 - e.start:=aI (by omega)
   by_cases c2:e.count<4096 - e.start
   ·have W1:IntKind.i64.wrap (e.start+e.count)=e.start+e.count:=aI (by omega)
    rw [if_pos (.inr c2)]
    rw [aA MB rfl];simp only [CG,aW,Nat.reduceBEq,Nat.reduceLeDiff,Nat.reduceAdd,zd,zj]
    simp only [c,c1,c2,W1,W2,aC,Nat.reduceMul,Nat.reduceBEq,Nat.reduceLT,Nat.reduceLeDiff,reduceCtorEq,Nat.reduceEqDiff,Nat.reduceAdd,Z6]
   ·rw [if_neg (by omega)]
    rw [aA MB rfl];simp only [CG,aW,Nat.reduceBEq,Nat.reduceLeDiff,Nat.reduceAdd,zd,zj]
    simp only [c,c1,c2,W2,aC,Nat.reduceMul,Nat.reduceBEq,Nat.reduceLT,Nat.reduceLeDiff,reduceCtorEq,Nat.reduceEqDiff,Nat.reduceAdd,Z6]
def fK (i:Nat)(l:List bP):List End:=l.flatMap fun e=>if (wX e).2.2 then [⟨(wX e).1.toNat,i,1⟩,⟨(wX e).2.1.toNat,i,-1⟩] else []
theorem Hf (i:Nat)(l:List bP)(e:bP):fK i (l++[e])=fK i l++(if (wX e).2.2 then [⟨(wX e).1.toNat,i,1⟩,⟨(wX e).2.1.toNat,i,-1⟩] else []):=by simp [fK]
theorem Bj (i:Nat):∀ l:List bP,(fK i l).length≤2*l.length
 |[]=>ze _
 |e::l=>by
  have:=Bj i l
  have h:fK i (e::l)=(if (wX e).2.2 then [⟨(wX e).1.toNat,i,1⟩,⟨(wX e).2.1.toNat,i,-1⟩] else [])++fK i l:=by simp [fK]
  rw [h,zE,zd]
  split<;>simp<;>omega
def dF:Nat→List (List bP)→List End
 |_,[]=>[]
 |i,l::ls=>fK i l++dF (i+1) ls
theorem zY:∀ (ls:List (List bP)) (i:Nat) (l:List bP),dF i (ls++[l])=dF i ls++fK (i+ls.length) l
 |[],i,l=>by simp [dF]
 |m::ls,i,l=>by
  simp only [Zbi,dF,zY ls (i+1) l,zd,Zav]
  rw [show i+1+ls.length=i+(ls.length+1) by omega]
theorem rG {n:Nat}:∀ (ls:List (List bP)) (i:Nat),(∀ l∈ls,l.length≤n)→(dF i ls).length≤2*n*ls.length
 |[],i,_=>Nat.zero_le _
 |l::ls,i,h=>by
  have h1:=rG ls (i+1) fun x hx=>h x (by simp [hx])
  have h2:=Bj i l
  have h3:=h l (by simp)
  simp only [dF,zE,zd]
  rw [Nat.mul_add]
  omega
set_option maxRecDepth 20000 in
theorem ahj {D:PV}{l:List bP}{pre:List End}{v n:Nat}{q17:AV}(hq:q17=.pv (.list 2 (l.map aZ)))(ho:uD l)(hl:l.length≤100000)(hpre:pre.length≤10000000){st:St}(h:st.head [0,3,4,5,11,12,13,17,18,19,20,39] st.boxes.length=some ⟨sl 45 [(0,.pv D),(3,.row 3 ((pre++fK v (l.take ((0:Nat)))).map iW)),(4,.pv (.int .i64 v)),(5,.pv (.list 2 (l.map aZ))),(11,.pv D),(12,.pv (.int .i64 n)),(13,.pv (.int .i64 v)),(17,.pv (.list 2 (l.map aZ))),(18,.pv (.list 2 (l.map aZ))),(19,.pv (.int .i64 l.length)),(20,.pv (.int .i64 (0:Nat))),(39,.any)],[],[],none⟩) :
  den env Gw st=some (.normal,⟨sl 45 [(0,.pv D),(2,.any),(3,.row 3 ((pre++fK v l).map iW)),(11,.pv D),(12,.pv (.int .i64 n)),(13,.pv (.int .i64 v)),(39,.any)],[],[],none⟩):=by
 unfold Gw
 refine aY (env:=env) (l.length) (fun i=>⟨sl 45 [(0,.pv D),(3,.row 3 ((pre++fK v (l.take (i))).map iW)),(4,.pv (.int .i64 v)),(5,.pv (.list 2 (l.map aZ))),(11,.pv D),(12,.pv (.int .i64 n)),(13,.pv (.int .i64 v)),(17,.pv (.list 2 (l.map aZ))),(18,.pv (.list 2 (l.map aZ))),(19,.pv (.int .i64 l.length)),(20,.pv (.int .i64 i)),(39,.any)],[],[],none⟩) (fun i=>some (.normal,⟨sl 45 [(0,.pv D),(2,.any),(3,.row 3 ((pre++fK v l).map iW)),(11,.pv D),(12,.pv (.int .i64 n)),(13,.pv (.int .i64 v)),(39,.any)],[],[],none⟩)) h (fun _=>rfl) (fun _=>by simp only [aW,bI,Nat.reduceMul,Nat.reduceBEq,Nat.reduceLT,Nat.reduceLeDiff,Nat.reduceAdd,decide_true,zP,zz]) ?_ ?_
 ·intro i rb hi ih
  have hlim:lim=1073741824:=rfl
  have hi1:=bC hi (by omega)
  have F1:((i:Int)<(l.length:Int))=True:=eq_true (by omega)
  have hx:l[i]?=some l[i]:=ZD hi
  have ht:=yJ hi
  have hox:=ho _ (Zap hi)
  generalize l[i]=x at *
  have e1:=akG hox
  have hrl:=Bj v (l.take i)
  rw [Zaa] at hrl
  have P2:part [PV.int .i64 x.start,.int .i64 x.count] 0 (some 2)=some (.agg [.int .i64 x.start,.int .i64 x.count]):=rfl
  simp only [aZ] at e1
  cases hw:(wX x).2.2 with
  |false =>
   rw [hw] at e1
   have hs:fK v (l.take (i+1))=fK v (l.take i):=by rw [ht,Hf,hw];simp
   simp only [zQ,F1,hx,e1,aZ,P2,au hi,zc,Zae,Z3,zd,zj,aC,Nat.reduceMul,Nat.reduceBEq,Nat.reduceLT,Nat.reduceLeDiff,reduceCtorEq,Nat.reduceEqDiff,Nat.reduceAdd,Z6]
   rw [ih _ (by simp only [hi1,hs,aC,Nat.reduceMul,Nat.reduceBEq,Nat.reduceLT,Nat.reduceLeDiff,reduceCtorEq,Nat.reduceEqDiff,Nat.reduceAdd,Z6]<;>rfl)]
  |true =>
   obtain ⟨a,b,hab,-,-,-⟩:=MJ hw
   have hs:fK v (l.take (i+1))=fK v (l.take i)++[⟨a,v,1⟩,⟨b,v,-1⟩]:=by rw [ht,Hf,hab];simp
   rw [hab] at e1
   have F2:((pre++fK v (l.take i)).length+1+1≤lim)=True:=eq_true (by rw [zE];omega)
   have F3:((pre++fK v (l.take i)).length+2≤lim)=True:=eq_true (by rw [zE];omega)
   simp only [zQ,F1,F2,F3,hx,e1,aZ,P2,au hi,zc,Zae,Z3,zd,zj,aC,Nat.reduceMul,Nat.reduceBEq,Nat.reduceLT,Nat.reduceLeDiff,reduceCtorEq,Nat.reduceEqDiff,Nat.reduceAdd,Z6]
   rw [ih _ (by simp only [hi1,hs,← Zav,Zag,Zai,Zar,iW,aC,Nat.reduceMul,Nat.reduceBEq,Nat.reduceLT,Nat.reduceLeDiff,reduceCtorEq,Nat.reduceEqDiff,Nat.reduceAdd,Z6]<;>rfl)]
 ·intro rb
  simp only [zQ,Zat,Z3,Zas,aC,Nat.reduceMul,Nat.reduceBEq,Nat.reduceLT,Nat.reduceLeDiff,reduceCtorEq,Nat.reduceEqDiff,Nat.reduceAdd,Z6]
set_option maxRecDepth 20000 in
theorem Zl {ls:List (List bP)}(ho:∀ l∈ls,uD l)(hr:∀ l∈ls,l.length≤100000)(hl:ls.length≤10){st:St}(h:st.head [0,3,11,12,13,39] st.boxes.length=some ⟨sl 45 [(0,.pv (.list 1 (ls.map jf))),(3,.row 3 ((dF 0 (ls.take ((0:Nat)))).map iW)),(11,.pv (.list 1 (ls.map jf))),(12,.pv (.int .i64 ls.length)),(13,.pv (.int .i64 (0:Nat))),(39,.any)],[],[],none⟩) :
  den env Gy st=some (.normal,⟨sl 45 [(2,.any),(3,.row 3 ((dF 0 ls).map iW))],[],[],none⟩):=by
 unfold Gy
 refine aY (env:=env) (ls.length) (fun i=>⟨sl 45 [(0,.pv (.list 1 (ls.map jf))),(3,.row 3 ((dF 0 (ls.take (i))).map iW)),(11,.pv (.list 1 (ls.map jf))),(12,.pv (.int .i64 ls.length)),(13,.pv (.int .i64 i)),(39,.any)],[],[],none⟩) (fun i=>some (.normal,⟨sl 45 [(2,.any),(3,.row 3 ((dF 0 ls).map iW))],[],[],none⟩)) h (fun _=>rfl) (fun _=>by simp only [aW,bI,Nat.reduceMul,Nat.reduceBEq,Nat.reduceLT,Nat.reduceLeDiff,Nat.reduceAdd,decide_true,zP,zz]) ?_ ?_
 ·intro i rb hi ih
  have hlim:lim=1073741824:=rfl
  have hi1:=bC hi (by omega)
  have F1:((i:Int)<(ls.length:Int))=True:=eq_true (by omega)
  have hx:ls[i]?=some ls[i]:=ZD hi
  have ht:=yJ hi
  have hox:=ho _ (Zap hi)
  have hrx:=hr _ (Zap hi)
  have hli:(ls.take i).length=i:=by rw [Zaa];omega
  have hp:=rG (n:=100000) (ls.take i) 0 fun l hl=>hr l (List.mem_of_mem_take hl)
  rw [hli] at hp
  generalize ls[i]=l at *
  have hs:dF 0 (ls.take (i+1))=dF 0 (ls.take i)++fK i l:=by rw [ht,zY,hli,Zaj]
  have hr0:fK i ([]:List bP)=[]:=rfl
  simp only [Gx,F1,hx,jf,au hi,zc,Zae,Z3,aC,Nat.reduceMul,Nat.reduceBEq,Nat.reduceLT,Nat.reduceLeDiff,reduceCtorEq,Nat.reduceEqDiff,Nat.reduceAdd,Z6]
  rw [ahj (l:=l) (pre:=dF 0 (ls.take i)) (v:=i) (q17:=.pv (.list 2 (l.map aZ))) rfl hox hrx (by omega)]
  rotate_left
  ·simp only [qX,hr0,ZaI,jf,aC,Nat.reduceMul,Nat.reduceBEq,Nat.reduceLT,Nat.reduceLeDiff,reduceCtorEq,Nat.reduceEqDiff,Nat.reduceAdd,Z6]<;>rfl
  simp only [aC,Nat.reduceMul,Nat.reduceBEq,Nat.reduceLT,Nat.reduceLeDiff,reduceCtorEq,Nat.reduceEqDiff,Nat.reduceAdd,Z6]
  rw [ih _ (by simp only [hi1,hs,jf,aC,Nat.reduceMul,Nat.reduceBEq,Nat.reduceLT,Nat.reduceLeDiff,reduceCtorEq,Nat.reduceEqDiff,Nat.reduceAdd,Z6]<;>rfl)]
 ·intro rb
  simp only [Gx,Zat,Z3,Zas,aC,Nat.reduceMul,Nat.reduceBEq,Nat.reduceLT,Nat.reduceLeDiff,reduceCtorEq,Nat.reduceEqDiff,Nat.reduceAdd,Z6]
def lH (ls:List (List bP)):List End:=qY (dF 0 ls)
theorem akH {ls:List (List bP)}(ho:∀ l∈ls,uD l)(hr:∀ l∈ls,l.length≤10000)(hl:ls.length≤2)(hsl:(lH ls).length=(dF 0 ls).length):cal env 257 [.list 1 (ls.map jf)]=some [(.list 3 ((lH ls).map iW),true)]:=by
 have hp:=rG (n:=10000) ls 0 hr
 have hp2:(dF 0 ls).length≤1000000:=by
  have:2*10000*ls.length≤2*10000*2:=Nat.mul_le_mul_left _ hl
  omega
 have h1:=IE (g:=275) (l:=dF 0 ls) hp2
 have h2:((qY (dF 0 ls)).map iW).length=((dF 0 ls).map iW).length:=by
  rw [Z3,Z3];exact hsl
 unfold lH
 have hcond:(0=0∧(dF 0 ls).length=((dF 0 ls).map iW).length∧((qY (dF 0 ls)).map iW).length=((dF 0 ls).map iW).length)=True:=eq_true ⟨rfl,by simp,h2⟩
 rw [aA ajU rfl];simp only [Qy,aW,Nat.reduceBEq,Nat.reduceLeDiff,Nat.reduceAdd,zd,zj]
 simp only [Z3,adu,h1,hsl,aC,Nat.reduceMul,Nat.reduceBEq,Nat.reduceLT,Nat.reduceLeDiff,reduceCtorEq,Nat.reduceEqDiff,Nat.reduceAdd,Z6]
 rw [Zl ho (fun l h=>by have:=hr l h;omega) (by omega) (by simp only [qX,dF,Zar,aC,Nat.reduceMul,Nat.reduceBEq,Nat.reduceLT,Nat.reduceLeDiff,reduceCtorEq,Nat.reduceEqDiff,Nat.reduceAdd,Z6]<;>rfl)]
 simp only [h2,Z3,adu,h1,hsl,aC,Nat.reduceMul,Nat.reduceBEq,Nat.reduceLT,Nat.reduceLeDiff,reduceCtorEq,Nat.reduceEqDiff,Nat.reduceAdd,Z6]
 rw [← hsl]
 unfold lH
 rw [zD]
end Go.Proofs.YthccglceomoboaaGreatDoor.V
namespace Go.Proofs
open Go.Shelf
def Tryz.sortEnd_ren:Go.Shelf.Ren:=⟨fun|6=>274|15=>279|14=>280|28=>291|29=>292|20=>293|21=>294|22=>295|23=>296|24=>297|25=>298|26=>299|27=>300|46=>306|47=>302|48=>303|49=>307|50=>308|57=>310|n=>n,fun|22=>361|24=>365|25=>376|3=>3|39=>271|0=>0|53=>391|55=>193|4=>4|46=>384|45=>383|50=>388|5=>5|9=>9|66=>397|70=>401|76=>405|77=>152|n=>n,fun|n=>n⟩
theorem Tryz.sortEnd:Go.Proofs.SlLaysF0.n6 Tryz.prog Tryz.sortEnd_ren:={
 mixed:=by kernel_rfl
 f6:=⟨Tryz.f274.name,by decide,Tryz.func274.trans (congrArg some (by kernel_rfl))⟩
 f14:=⟨Tryz.f280.name,by decide,Tryz.func280.trans (congrArg some (by kernel_rfl))⟩
 f15:=Tryz.func279.trans (congrArg some (by kernel_rfl))
 f20:=⟨Tryz.f293.name,by decide,Tryz.func293.trans (congrArg some (by kernel_rfl))⟩
 f21:=⟨Tryz.f294.name,by decide,Tryz.func294.trans (congrArg some (by kernel_rfl))⟩
 f22:=⟨Tryz.f295.name,by decide,Tryz.func295.trans (congrArg some (by kernel_rfl))⟩
 f23:=⟨Tryz.f296.name,by decide,Tryz.func296.trans (congrArg some (by kernel_rfl))⟩
 f24:=⟨Tryz.f297.name,by decide,Tryz.func297.trans (congrArg some (by kernel_rfl))⟩
 f25:=⟨Tryz.f298.name,by decide,Tryz.func298.trans (congrArg some (by kernel_rfl))⟩
 f26:=⟨Tryz.f299.name,by decide,Tryz.func299.trans (congrArg some (by kernel_rfl))⟩
 f27:=⟨Tryz.f300.name,by decide,Tryz.func300.trans (congrArg some (by kernel_rfl))⟩
 f28:=Tryz.func291.trans (congrArg some (by kernel_rfl))
 f29:=Tryz.func292.trans (congrArg some (by kernel_rfl))
 f46:=⟨Tryz.f306.name,by decide,Tryz.func306.trans (congrArg some (by kernel_rfl))⟩
 f47:=Tryz.func302.trans (congrArg some (by kernel_rfl))
 f48:=Tryz.func303.trans (congrArg some (by kernel_rfl))
 f49:=⟨Tryz.f307.name,by decide,Tryz.func307.trans (congrArg some (by kernel_rfl))⟩
 f50:=⟨Tryz.f308.name,by decide,Tryz.func308.trans (congrArg some (by kernel_rfl))⟩
 f57:=⟨Tryz.f310.name,by decide,Tryz.func310.trans (congrArg some (by kernel_rfl))⟩
 t0:=Tryz.underlying0
 a0:=Tryz.isAgg0
 z0:=Tryz.sizeOf0
 v0:=Tryz.zeroValue0
 t3:=Tryz.underlying3
 a3:=Tryz.isAgg3
 z3:=Tryz.sizeOf3
 v3:=Tryz.zeroValue3
 t4:=Tryz.underlying4
 a4:=Tryz.isAgg4
 z4:=Tryz.sizeOf4
 v4:=Tryz.zeroValue4
 t5:=Tryz.underlying5
 a5:=Tryz.isAgg5
 z5:=Tryz.sizeOf5
 v5:=Tryz.zeroValue5
 t9:=Tryz.underlying9
 a9:=Tryz.isAgg9
 z9:=Tryz.sizeOf9
 v9:=Tryz.zeroValue9
 t22:=Tryz.underlying361
 a22:=Tryz.isAgg361
 z22:=Tryz.sizeOf361
 v22:=Tryz.zeroValue361
 t25:=Tryz.underlying376
 a25:=Tryz.isAgg376
 z25:=Tryz.sizeOf376
 v25:=Tryz.zeroValue376
 t39:=Tryz.underlying271
 a39:=Tryz.isAgg271
 z39:=Tryz.sizeOf271
 v39:=Tryz.zeroValue271
 t45:=Tryz.underlying383
 a45:=Tryz.isAgg383
 z45:=Tryz.sizeOf383
 v45:=Tryz.zeroValue383
 t46:=Tryz.underlying384
 a46:=Tryz.isAgg384
 z46:=Tryz.sizeOf384
 v46:=Tryz.zeroValue384
 t50:=Tryz.underlying388
 a50:=Tryz.isAgg388
 z50:=Tryz.sizeOf388
 v50:=Tryz.zeroValue388
 t53:=Tryz.underlying391
 a53:=Tryz.isAgg391
 z53:=Tryz.sizeOf391
 v53:=Tryz.zeroValue391
 t55:=Tryz.underlying193
 a55:=Tryz.isAgg193
 z55:=Tryz.sizeOf193
 v55:=Tryz.zeroValue193
 t66:=Tryz.underlying397
 a66:=Tryz.isAgg397
 z66:=Tryz.sizeOf397
 v66:=Tryz.zeroValue397
 t70:=Tryz.underlying401
 a70:=Tryz.isAgg401
 z70:=Tryz.sizeOf401
 v70:=Tryz.zeroValue401
 t76:=Tryz.underlying405
 a76:=Tryz.isAgg405
 z76:=Tryz.sizeOf405
 v76:=Tryz.zeroValue405
 t77:=Tryz.underlying152
 a77:=Tryz.isAgg152
 z77:=Tryz.sizeOf152
 v77:=Tryz.zeroValue152 }
def Tryz.cmpInt_ren:Go.Shelf.Ren:=⟨fun|5=>276|7=>281|n=>n,fun|22=>3|3=>3|4=>4|n=>n,fun|n=>n⟩
theorem Tryz.cmpInt:Go.Proofs.SlLaysC2.n5 Tryz.prog Tryz.cmpInt_ren:={
 mixed:=by kernel_rfl
 f5:=⟨Tryz.f276.name,by decide,Tryz.func276.trans (congrArg some (by kernel_rfl))⟩
 f7:=⟨Tryz.f281.name,by decide,Tryz.func281.trans (congrArg some (by kernel_rfl))⟩
 t3:=Tryz.underlying3
 a3:=Tryz.isAgg3
 z3:=Tryz.sizeOf3
 v3:=Tryz.zeroValue3
 t4:=Tryz.underlying4
 a4:=Tryz.isAgg4
 z4:=Tryz.sizeOf4
 v4:=Tryz.zeroValue4
 t22:=Tryz.underlying3
 a22:=Tryz.isAgg3
 z22:=Tryz.sizeOf3
 v22:=Tryz.zeroValue3 }
end Go.Proofs
