/-
  Part 4 of the texts that the statement stands on.
-/
import Derived.Test.YthccglceomoboaaGreatDoorZ3
import Derived.IntWalk
import Derived.Sort.Defs
import Derived.Lib.BitFns
import Derived.Shelf.Lays7
import Derived.Ground.Names7Prog
import Derived.Test.YthccglceomoboaaGreatDoorProg
import Derived.Shelf.Spec.TrailingZeros
import Derived.ProofKit
import Derived.SizedLaws
import Derived.OpenShut
import Derived.Deep.Strs
set_option linter.all false
open And renaming intro → Zs
open List renaming getElem?_eq_getElem → ZD, getElem?_eq_some_iff → za, length_map → zb, length_cons → zd, all_eq_true → zw, getElem?_append_right → zE, getD_eq_getElem?_getD → zP, getElem?_append_left → Zaa, mem_of_getElem? → Zab, replicate → Zag, map_cons → Zap, mem_singleton → Zat, drop_zero → ZaE, take_append_drop → ZaQ, mem_iff_getElem? → ZaR, take_of_length_le → Za2, map_map → Zb9, any_cons → Zci, mapM_cons → Zcu, take_nil → ZdF, any_map → ZdS
open Nat renaming beq → Z1, le_refl → zg, zero_add → Zaj, eq_zero_or_pos → Za1
open Bool renaming true_and → Zaf, false_and → ZaS, or_false → ZcZ
open Option renaming bind_eq_some_iff → ZaK, bind_some → ZaZ, bind → ZcC
open Int renaming toNat_of_nonneg → Zbv
namespace Go.Proofs.YthccglceomoboaaGreatDoor
def eP {α:Type}(b:Bool)(x y:α):α:=match b with
 |true=>x
 |false=>y
section
variable {env:Env}{α β:Type}
theorem VW (x y:α):eP true x y=x:=(rfl)
theorem Eh (x y:α):eP false x y=y:=(rfl)
theorem dV (b:Bool)(x y:Option α)(f:α→Option β):(eP b x y).bind f=eP b (x.bind f) (y.bind f):=by cases b<;>rfl
theorem fF (b:Bool)(x y:Option α)(f:α→β):(eP b x y).map f=eP b (x.map f) (y.map f):=by cases b<;>rfl
theorem KR (b:Bool)(x y:α):eP (!b) x y=eP b y x:=by cases b<;>rfl
theorem ZI {γ:Type}[BEq γ](a b:γ)(x y:α):eP (a != b) x y=eP (a==b) y x:=by unfold bne;rw [KR]
theorem aqp (b:Bool):(b==true)=b:=by cases b<;>rfl
theorem aqr (b:Bool):(b==false)=!b:=by cases b<;>rfl
theorem dD {b:Bool}{x y r:α}(h1:b=true→x=r)(h0:b=false→y=r):eP b x y=r:=by
 cases b
 ·exact h0 rfl
 ·exact h1 rfl
noncomputable def JJ (env:Env)(l:List iC)(st:St):Option St:=ops (den env) env l st
noncomputable def qF (env:Env)(o:iC)(st:St):Option St:=op (den env) env o st
noncomputable def next (env:Env)(b:ay):Ex×St→Option (Ex×St)
 |(.normal,st)=>den env b st
 |r=>some r
def endBlock (id:Nat):Ex×St→Ex×St
 |(.normal,st)=>(.normal,st)
 |(.exit j,st)=>(eP (Z1 j id) .normal (.exit j),st)
 |(.ret,st)=>(.ret,st)
 |(.pJ t n,st)=>(.pJ t n,st)
def nG (post:List Nat)(nb:Nat)(p:Ex×St):Option (Ex×St):=(p.2.head post nb).map fun st=>(p.1,st)
def fin (rs:List um):Ex×St→Option (List sH)
 |(.exit _,_)=>none
 |(.pJ _ _,_)=>none
 |(_,st)=>gu st rs
def start (n:Nat)(args:List PV):St:=⟨args.map .pv++Zag (n - args.length) .any,[],[],none⟩
theorem dW (st:St):den env .skip st=some (.normal,st):=by rw [kZ];rfl
theorem ah8 (l:List iC)(st:St):den env (.ops l) st=(JJ env l st).map fun st=>(.normal,st):=by rw [kZ];rfl
theorem ah9 (z a f q)(l:List iC)(st:St):den env (.qm z a f q l) st=(JJ env l (z.foldl St.iR st)).map fun st=>(.normal,st):=by rw [kZ];rfl
noncomputable def alm (env:Env)(keep:List Nat)(vo:List iC)(st:St)(l:List iH):Option St:=lT (den env) env keep vo st l
noncomputable def aia (env:Env)(keep:List Nat)(vo:List iC)(st:St)(x:iH):Option St:=mY (den env) env keep vo st x
noncomputable def Gp (env:Env)(keep:List Nat)(vo:List iC)(st s:St)(l:List iH):Option St:=agree s (l.map (mY (den env) env keep vo st))
def sameAs (s s':St)(r:Option St):Option St:=if s'.same s then r else none
theorem aib (z k vo l)(st:St):den env (.drs z k vo l) st=(alm env k vo (z.foldl St.iR st) l).map fun st=>(.normal,st):=by rw [kZ];rfl
theorem VX (k vo)(st:St)(x:iH)(l:List iH):alm env k vo st (x::l)=(aia env k vo st x).bind fun s=>Gp env k vo st s l:=(rfl)
theorem VY (k vo)(st s:St):Gp env k vo st s []=some s:=(rfl)
theorem QA (k vo)(st s:St)(x:iH)(l:List iH):Gp env k vo st s (x::l)=(aia env k vo st x).bind fun s'=>sameAs s s' (Gp env k vo st s l):=by
 show (mY (den env) env k vo st x).bind _=_
 unfold aia Gp sameAs
 congr 1
theorem QB (s:St)(r:Option St):sameAs s s r=r:=by
 show (if s.same s then r else none)=r
 rw [St.jr];rfl
theorem aic (k vo)(st:St)(a f q o w):aia env k vo st ⟨a,f,q,o,w⟩=(JJ env (bK vo o) st).bind (mX k st.boxes.length w):=(rfl)
theorem NG (k:List Nat)(nb:Nat)(s:St):mX k nb false s=s.head k s.boxes.length:=by
 unfold mX
 cases s.head k s.boxes.length<;>rfl
theorem QC (k:List Nat)(nb:Nat)(s:St):mX k nb true s=(s.head k s.boxes.length).bind fun s=>s.swap2 nb:=(rfl)
theorem ZJ (vo:List iC):bK vo []=[]:=(rfl)
theorem ZK (vo:List iC)(i:Nat)(l:List Nat):bK vo (i::l)=vo.getD i default::bK vo l:=(rfl)
theorem aie (a b:ay)(st:St):den env (.seq a b) st=(den env a st).bind (next env b):=by
 rw [kZ]
 show (den env a st).bind _=_
 congr 1
 funext ⟨e,st⟩
 cases e<;>rfl
theorem ac9 (c:bJ)(a b:ay)(st:St):den env (.cond c a b) st=(match st.bY c with
  |some (.bool t)=>eP t (den env a st) (den env b st)
  |_=>none):=by
 rw [kZ]
 show (st.bY c).bind _=_
 cases st.bY c with
 |none=>rfl
 |some v =>
  cases v<;>try rfl
  rename_i t
  cases t<;>rfl
theorem KT (i:Nat)(a:ay)(st:St):den env (.block i a) st=(den env a st).map (endBlock i):=by
 rw [kZ]
 show (den env a st).bind _=_
 cases den env a st with
 |none=>rfl
 |some r =>
  obtain ⟨e,st⟩:=r
  cases e with
  |normal=>rfl
  |ret=>rfl
  |pJ t n=>rfl
  |exit j =>
   show some (_,_)=some (_,_)
   by_cases h:j=i
   ·subst h;simp [eP]
   ·have:Z1 j i=false:=by cases e:Z1 j i with
    |false=>rfl
    |true=>exact absurd (Nat.eq_of_beq_eq_true e) h
    simp [eP,h,this]
theorem ada (keep:List Nat)(a:ay)(st:St):den env (.loop keep a) st=den env (.round keep st.boxes.length a) st:=by rw [kZ];rfl
theorem KU (keep:List Nat)(nb:Nat)(a:ay)(st:St):den env (.round keep nb a) st=(st.head keep nb).bind fun st=>(den env a st).bind (next env (.round keep nb a)):=by
 rw [kZ]
 show (st.head keep nb).bind _=_
 congr 1
 funext st
 show (den env a st).bind _=_
 congr 1
 funext ⟨e,st⟩
 cases e<;>rfl
theorem aif (a:ay)(st:St):den env (.scp a) st=den env a st:=by
 rw [kZ]
 rfl
theorem ZL (pre post:List Nat)(a:ay)(st:St):den env (.clean pre post a) st=(st.head pre st.boxes.length).bind fun s=>(den env a s).bind (nG post st.boxes.length):=by
 rw [kZ]
 show (st.head pre _).bind _=_
 congr 1
 funext s
 show (den env a s).bind _=_
 congr 1
 funext ⟨e,s⟩
 show (s.head post _).bind _=(s.head post _).map _
 cases s.head post st.boxes.length<;>rfl
theorem adb (i:Nat)(st:St):den env (.exit i) st=some (.exit i,st):=by rw [kZ];rfl
theorem aii (st:St):den env .ret st=some (.ret,st):=by rw [kZ];rfl
theorem QD (b:ay)(st:St):next env b (.normal,st)=den env b st:=(rfl)
theorem ZM (b:ay)(i:Nat)(st:St):next env b (.exit i,st)=some (.exit i,st):=(rfl)
theorem ade (b:ay)(st:St):next env b (.ret,st)=some (.ret,st):=(rfl)
theorem adf (b:ay)(t:Nat)(n:Int)(st:St):next env b (.pJ t n,st)=some (.pJ t n,st):=(rfl)
theorem NH (i t:Nat)(n:Int)(st:St):endBlock i (.pJ t n,st)=(.pJ t n,st):=(rfl)
noncomputable def thrown (env:Env)(f:Nat)(args:List PV):Option (Option (Nat×Int)):=Jt (den env) env f args
def amj:Ex×St→Option (Option (Nat×Int))
 |(.exit _,_)=>none
 |(.pJ t n,_)=>some (some (t,n))
 |_=>some none
theorem QE (st:St):amj (.normal,st)=some none:=(rfl)
theorem adg (st:St):amj (.ret,st)=some none:=(rfl)
theorem adh (t:Nat)(n:Int)(st:St):amj (.pJ t n,st)=some (some (t,n)):=(rfl)
noncomputable def VZ (env:Env)(d f:Nat)(args:List bJ)(st:St):Option (Nat×Int)→Option (Ex×St)
 |some (t,n)=>some (.pJ t n,st)
 |none=>(JJ env [.call d f args] st).map fun st=>(.normal,st)
theorem QF (d f:Nat)(args:List bJ)(st:St)(t:Nat)(n:Int):VZ env d f args st (some (t,n))=some (.pJ t n,st):=(rfl)
theorem QG (d f:Nat)(args:List bJ)(st:St):VZ env d f args st none=(JJ env [.call d f args] st).map fun st=>(.normal,st):=(rfl)
theorem aij (l:List iC)(d f:Nat)(args:List bJ)(st:St):den env (.dem l d f args) st=(JJ env l st).bind fun st1=>(args.mapM st1.bY).bind fun vs=>(thrown env f vs).bind (VZ env d f args st1):=by
 rw [kZ]
 show (JJ env l st).bind _=_
 congr 1
 funext st1
 show (args.mapM st1.bY).bind _=_
 congr 1
 funext vs
 show (thrown env f vs).bind _=_
 congr 1
 funext r
 cases r with
 |some p=>rfl
 |none =>
  show (act (den env) env (.call d f args) st1).map _=((act (den env) env (.call d f args) st1).bind (ops (den env) env [])).map _
  cases act (den env) env (.call d f args) st1<;>rfl
theorem EI (i:Nat)(st:St):endBlock i (.normal,st)=(.normal,st):=(rfl)
theorem NI (i:Nat)(st:St):endBlock i (.ret,st)=(.ret,st):=(rfl)
theorem JK (i j:Nat)(st:St):endBlock i (.exit j,st)=(eP (Z1 j i) .normal (.exit j),st):=(rfl)
theorem V3 (rs:List um)(st:St):fin rs (.normal,st)=gu st rs:=(rfl)
theorem aik (rs:List um)(st:St):fin rs (.ret,st)=gu st rs:=(rfl)
theorem aj {f:Nat}{fn:dH}{args:List PV}(h:env f=some (.code fn))(hl:args.length=fn.nargs):cal env f args=(den env fn.body (start fn.ntmps args)).bind (Go.Proofs.YthccglceomoboaaGreatDoor.fin fn.results):=by
 unfold cal jG
 rw [h]
 simp only [if_pos hl]
 show (den env fn.body _).bind _=_
 congr 1
 funext ⟨e,st⟩
 cases e<;>rfl
def V4 (n:Nat)(x:lD)(args:List PV):St:=⟨x.av::(args.map .pv++Zag (n - (args.length+1)) .any),x.boxes,[],none⟩
def amk (x:lD)(rs:List um):Ex×St→Option (List sH×Option (List PV))
 |(.exit _,_)=>none
 |(.pJ _ _,_)=>none
 |(_,st)=>uZ x st rs
theorem QH (x:lD)(rs:List um)(st:St):amk x rs (.normal,st)=uZ x st rs:=(rfl)
theorem adi (x:lD)(rs:List um)(st:St):amk x rs (.ret,st)=uZ x st rs:=(rfl)
theorem V5 (sz:Nat)(es:List PV)(st:St)(rs:List um):uZ (.row sz es) st rs=(gu st rs).map fun l=>(l,none):=(rfl)
theorem V6 (l:List AV)(st:St)(rs:List um):uZ (.own l) st rs=(gu st rs).map fun l=>(l,none):=(rfl)
theorem V7 (cs:List PV)(st:St)(rs:List um):uZ (.box cs) st rs=(match (st.bD 0).boxes[0]? with
  |some b=>eP b.fz none ((resultList (st.bD 0) rs).map fun l=>(l,some (b.cs.map BV.val)))
  |none=>none):=by
 show (match (st.bD 0).boxes[0]? with
  |some b=>if b.fz then none else (resultList (st.bD 0) rs).map fun l=>(l,some (b.cs.map BV.val))
  |none=>none)=_
 split
 ·rename_i b _
  cases b.fz<;>rfl
 ·rfl
theorem ail (sz:Nat)(es:List PV):(lD.row sz es).av=.row sz es:=(rfl)
theorem ain (l:List AV):(lD.own l).av=.lS true l:=(rfl)
theorem aio (cs:List PV):(lD.box cs).av=.aX 0 0:=(rfl)
theorem aip (sz:Nat)(es:List PV):(lD.row sz es).boxes=[]:=(rfl)
theorem aiq (l:List AV):(lD.own l).boxes=[]:=(rfl)
theorem air (cs:List PV):(lD.box cs).boxes=[⟨false,cs.map .pv⟩]:=(rfl)
theorem kV {f:Nat}{fn:dH}{x:lD}{args:List PV}(h:env f=some (.code fn))(hl:args.length+1=fn.nargs):xU env f x args=(den env fn.body (V4 fn.ntmps x args)).bind (amk x fn.results):=by
 unfold xU qp
 rw [h]
 simp only [if_pos hl]
 show (den env fn.body _).bind _=_
 congr 1
 funext ⟨e,st⟩
 cases e<;>rfl
theorem yS {f:Nat}{g:List PV→Option (List sH)}{args:List PV}(h:env f=some (.ext g)):cal env f args=g args:=by
 unfold cal jG
 rw [h]
theorem QI {keep post:List Nat}{id:Nat}{b:ay}{st S0:St}{R:Option (Ex×St)}(h:st.head keep st.boxes.length=some S0)(h2:S0.head keep S0.boxes.length=some S0)
  (key:∀ rb,rb=ay.round keep S0.boxes.length b→(((den env b S0).bind (next env rb)).map (endBlock id)).bind (nG post st.boxes.length)=R):den env (.clean keep post (.block id (.loop keep b))) st=R:=by
 rw [ZL,h,ZaZ,KT,ada,KU,h2,ZaZ]
 exact key _ rfl
theorem adk {keep:List Nat}{nb:Nat}{b rb:ay}{st S1:St}(hrb:rb=.round keep nb b)(h:st.head keep nb=some S1):den env rb st=(den env b S1).bind (next env rb):=by
 rw [hrb,KU,h,ZaZ]
noncomputable def oz (env:Env)(id:Nat)(post:List Nat)(nb:Nat)(x:Option (Ex×St)):Option (Ex×St):=(x.map (endBlock id)).bind (nG post nb)
theorem KW {β:Type}{keep post:List Nat}{id nb:Nat}{b:ay}(S:β→St)(R:β→Option (Ex×St))(P:β→Prop)(μ:β→Nat)(x0:β){st:St}(h:st.head keep st.boxes.length=some (S x0))(hP:P x0)
  (hS:∀ x,(S x).boxes.length=nb) (hh:∀ x,(S x).head keep nb=some (S x))
  (step:∀ x rb,P x→(∀ y,μ y<μ x→P y→∀ s,s.head keep nb=some (S y)→oz env id post nb (den env rb s)=R y)→oz env id post nb ((den env b (S x)).bind (next env rb))=R x) :
  den env (.clean keep post (.block id (.loop keep b))) st=R x0:=by
 have hb:st.boxes.length=nb:=by rw [← (yQ h).1];exact hS x0
 refine QI h (by rw [hS];exact hh x0) ?_
 intro rb hrb
 rw [hS] at hrb
 rw [hb]
 have key:∀ (k:Nat) (x:β),μ x<k→P x→oz env id post nb ((den env b (S x)).bind (next env rb))=R x:=by
  intro k
  induction k with
  |zero=>intro x hx;omega
  |succ k ih =>
   intro x hx hPx
   refine step x rb hPx fun y hy hPy s hs=>?_
   rw [adk hrb hs]
   exact ih y (by omega) hPy
 exact key (μ x0+1) x0 (by omega) hP
theorem bG {keep post:List Nat}{id nb:Nat}{b:ay}(n:Nat)(S:Nat→St)(R:Nat→Option (Ex×St)){st:St}(h:st.head keep st.boxes.length=some (S 0))(hS:∀ i,(S i).boxes.length=nb)(hh:∀ i,(S i).head keep nb=some (S i))
  (step:∀ i rb,i<n→(∀ s,s.head keep nb=some (S (i+1))→oz env id post nb (den env rb s)=R (i+1))→oz env id post nb ((den env b (S i)).bind (next env rb))=R i)
  (last:∀ rb,oz env id post nb ((den env b (S n)).bind (next env rb))=R n) :
  den env (.clean keep post (.block id (.loop keep b))) st=R 0:=by
 refine KW S R (fun i=>i≤n) (fun i=>n - i) 0 h (Nat.zero_le _) hS hh fun i rb hi ih=>?_
 by_cases hn:i=n
 ·subst hn;exact last rb
 ·exact step i rb (by omega) fun s hs=>ih (i+1) (by omega) (by omega) s hs
theorem QJ {id nb:Nat}{post:List Nat}(st:St):oz env id post nb (some (.normal,st))=nG post nb (.normal,st):=(rfl)
theorem adl {id nb:Nat}{post:List Nat}(t:Nat)(n:Int)(st:St):oz env id post nb (some (.pJ t n,st))=nG post nb (.pJ t n,st):=(rfl)
theorem adn {id nb:Nat}{post:List Nat}(st:St):oz env id post nb (some (.ret,st))=nG post nb (.ret,st):=(rfl)
theorem ZN {id j nb:Nat}{post:List Nat}(st:St):oz env id post nb (some (.exit j,st))=nG post nb (eP (Z1 j id) .normal (.exit j),st):=(rfl)
theorem dX {id nb:Nat}{post:List Nat}(b:Bool)(x y:Option (Ex×St)):oz env id post nb (eP b x y)=eP b (oz env id post nb x) (oz env id post nb y):=by cases b<;>rfl
theorem QK (a:α)(f:α→Option β):(some a).bind f=f a:=(rfl)
theorem QL (f:α→Option β):(none:Option α).bind f=none:=(rfl)
theorem V8 (a:α)(f:α→β):(some a).map f=some (f a):=(rfl)
theorem V9 (f:α→β):(none:Option α).map f=none:=(rfl)
theorem Wh (x y:α):(if True then x else y)=x:=(rfl)
theorem QM (x y:α):(if False then x else y)=y:=(rfl)
theorem Dc {γ δ:Type}(x:Option γ)(f:γ→Option δ):(x >>= f)=x.bind f:=(rfl)
theorem aml {γ:Type}(x:γ):(pure x:Option γ)=some x:=(rfl)
theorem aF {γ:Type}(a:γ)(l:List γ):(a::l).length=l.length+1:=(rfl)
theorem aJ {γ:Type}:([]:List γ).length=0:=(rfl)
theorem aI {γ:Type}(l:List γ):[]++l=l:=(rfl)
theorem aG {γ:Type}(a:γ)(l m:List γ):(a::l)++m=a::(l++m):=(rfl)
theorem QN {γ:Type}(a:γ)(l:List γ)(n:Nat):(a::l).take (n+1)=a::l.take n:=(rfl)
theorem sW {γ:Type}(l:List γ):l.take 0=[]:=(rfl)
theorem QO {γ:Type}(a:γ)(l:List γ)(n:Nat):(a::l).drop (n+1)=l.drop n:=(rfl)
theorem QS {γ:Type}(l:List γ):l.drop 0=l:=(rfl)
theorem Wi {γ:Type}(a:γ)(l:List γ):(a::l)[0]?=some a:=(rfl)
theorem Wj {γ:Type}(a:γ)(l:List γ)(n:Nat):(a::l)[n+1]?=l[n]?:=(rfl)
theorem ais {γ:Type}(a0 a1 a2 a3 a4 a5 a6 a7:γ)(l:List γ)(n:Nat):(a0::a1::a2::a3::a4::a5::a6::a7::l)[n+8]?=l[n]?:=(rfl)
theorem QT {γ:Type}(a:γ)(l:List γ)(d:γ):(a::l).getD 0 d=a:=(rfl)
theorem QU {γ:Type}(a:γ)(l:List γ)(n:Nat)(d:γ):(a::l).getD (n+1) d=l.getD n d:=(rfl)
theorem ado {γ:Type}(a0 a1 a2 a3 a4 a5 a6 a7:γ)(l:List γ)(n:Nat)(d:γ):(a0::a1::a2::a3::a4::a5::a6::a7::l).getD (n+8) d=l.getD n d:=(rfl)
theorem Wn {γ:Type}(a x:γ)(l:List γ):(a::l).set 0 x=x::l:=(rfl)
theorem Wp {γ:Type}(a x:γ)(l:List γ)(n:Nat):(a::l).set (n+1) x=a::l.set n x:=(rfl)
theorem ait {γ:Type}(a0 a1 a2 a3 a4 a5 a6 a7 x:γ)(l:List γ)(n:Nat):(a0::a1::a2::a3::a4::a5::a6::a7::l).set (n+8) x=a0::a1::a2::a3::a4::a5::a6::a7::l.set n x:=(rfl)
theorem Wq {γ δ:Type}(f:γ→Option δ):([]:List γ).mapM f=some []:=(rfl)
theorem Ws {γ:Type}(a:γ)(l:List γ)(p:γ→Bool):(a::l).any p=(p a || l.any p):=(rfl)
theorem ZO {γ:Type}(p:γ→Bool):([]:List γ).any p=false:=(rfl)
theorem Wu {γ:Type}(a:γ)(l:List γ)(p:γ→Bool):(a::l).all p=(p a&&l.all p):=(rfl)
theorem ZP {γ:Type}(p:γ→Bool):([]:List γ).all p=true:=(rfl)
theorem NJ {γ δ:Type}(f:δ→γ→δ)(b:δ)(a:γ)(l:List γ):(a::l).foldl f b=l.foldl f (f b a):=(rfl)
theorem QV {γ δ:Type}(f:δ→γ→δ)(b:δ):([]:List γ).foldl f b=b:=(rfl)
theorem aH {γ δ:Type}(f:γ→δ)(a:γ)(l:List γ):(a::l).map f=f a::l.map f:=(rfl)
theorem aK {γ δ:Type}(f:γ→δ):([]:List γ).map f=[]:=(rfl)
theorem aA {γ:Type}(a:γ):Zag 0 a=[]:=(rfl)
theorem aB {γ:Type}(a:γ)(n:Nat):Zag (n+1) a=a::Zag n a:=(rfl)
theorem adp (st:St):JJ env [] st=some st:=(rfl)
theorem ZQ (o:iC)(l:List iC)(st:St):JJ env (o::l) st=(qF env o st).bind (JJ env l):=(rfl)
theorem aiu {g:Nat}{w:Bool}{o:iC}(st:St):qF env (.grd g w o) st=(match st.slots.getD g .any with
  |.pv (.bool b)=>eP (b==w) (op1 (den env) env o st) (match bU o with
   |some d=>some (st.put d (.lS false []))
   |none=>some st)
  |.lS _ l=>eP l.isEmpty (match bU o with
   |some d=>some (st.put d (.lS false []))
   |none=>some st) none
  |_=>none):=by
 unfold qF op
 simp only
 generalize st.slots.getD g .any=v
 cases v with
 |pv p =>
  cases p with
  |bool b=>cases b<;>cases w<;>rfl
  |_=>rfl
 |lS k l=>cases l<;>rfl
 |_=>rfl
theorem adq {d c x y}(st:St):qF env (.pick d c x y) st=(match st.bY c with
  |some (.bool b)=>eP b ((st.bY x).map fun v=>st.put d (.pv v)) ((st.bY y).map fun v=>st.put d (.pv v))
  |_=>none):=by
 show (st.bY c).bind _=_
 cases st.bY c with
 |none=>rfl
 |some v =>
  cases v<;>try rfl
  rename_i t
  cases t
  ·show (st.bY y).bind _=Option.map _ (st.bY y)
   cases st.bY y<;>rfl
  ·show (st.bY x).bind _=Option.map _ (st.bY x)
   cases st.bY x<;>rfl
def oC (d:Nat)(args:List bJ)(caps:List AV)(st:St)(fl:Bool)(rs:List sH):Option St :=
 some ((eP (fl&&!(rs.all (·.1.scalar))) (caps.foldl (fun s v=>s.bF (.c .void) v) (args.foldl St.bV st)) st).layAll d rs)
theorem EJ (d:Nat)(args:List bJ)(caps:List AV)(st:St)(rs:List sH):oC d args caps st false rs=some (st.layAll d rs):=by
 simp only [oC,ZaS,Eh]
theorem Gq (d:Nat)(args:List bJ)(caps:List AV)(st:St)(r:sH)(rs:List sH):oC d args caps st true (r::rs)=eP ((r::rs).all (·.1.scalar)) (some (st.layAll d (r::rs))) (some ((caps.foldl (fun s v=>s.bF (.c .void) v) (args.foldl St.bV st)).layAll d (r::rs))):=by
 unfold oC
 rw [Zaf]
 cases h:(r::rs).all (·.1.scalar)<;>rfl
noncomputable def dcall (env:Env)(d f:Nat)(args:List bJ)(caps:List AV)(st:St):Option St :=
 (args.mapM fun x=>st.jP (st.get x)).bind fun l=>(caps.mapM st.snap).bind fun k=>(cal env f (l.map (·.1)++k.map (·.1))).bind (oC d args caps st (l.any (·.2) || k.any (·.2)))
noncomputable def Df (env:Env)(d f:Nat)(args:List bJ)(caps:List PV)(st:St):Option St :=
 (args.mapM fun x=>st.jP (st.get x)).bind fun l=>(cal env f (l.map (·.1)++caps)).bind (oC d args [] st (l.any (·.2)))
theorem Gs (st:St):∀ caps:List PV,(caps.map AV.pv).mapM st.snap=some (caps.map fun v=>(v,false))
 |[]=>rfl
 |c::l=>by
  rw [Zap,Zcu,Gs st l]
  rfl
theorem KX (st:St):∀ caps:List PV,(caps.map AV.pv).foldl (fun s v=>s.bF (.c .void) v) st=st
 |[]=>rfl
 |c::l=>KX st l
theorem Gt (d f:Nat)(args:List bJ)(caps:List AV)(st:St):jQ (den env) env d f args caps st=dcall env d f args caps st:=by
 unfold jQ dcall
 show ZcC _ _=ZcC _ _
 congr 1;funext l
 show ZcC _ _=ZcC _ _
 congr 1;funext k
 show ZcC _ _=ZcC _ _
 congr 1;funext rs
 show some _=some _
 congr 2
 cases h:(l.any (·.2) || k.any (·.2))&&!(rs.all (·.1.scalar))<;>rfl
theorem Dh (d f:Nat)(args:List bJ)(caps:List PV)(st:St):dcall env d f args (caps.map .pv) st=Df env d f args caps st:=by
 unfold Df dcall
 congr 1;funext l
 rw [Gs,ZaZ,Zb9,ZdS]
 have h1:(Prod.fst ∘ fun v:PV=>(v,false))=id:=rfl
 have h2:caps.any (Prod.snd ∘ fun v:PV=>(v,false))=false:=by
  induction caps with
  |nil=>rfl
  |cons c cs ih=>simp [Zci,ih]
 rw [h1,List.map_id,h2,ZcZ]
 congr 1;funext rs
 unfold oC
 rw [KX]
 rfl
theorem adr {d f args}(st:St):qF env (.call d f args) st=Df env d f args [] st:=(Gt ..).trans (Dh (caps:=[]) ..)
theorem ads {d f args}(st:St):op1 (den env) env (.call d f args) st=Df env d f args [] st:=(Gt ..).trans (Dh (caps:=[]) ..)
noncomputable def KY (env:Env)(d f:Nat)(x:bJ)(args:List bJ)(caps:List AV)(st:St):Option St :=
 (args.mapM fun x=>st.jP (st.get x)).bind fun l=>(caps.mapM st.snap).bind fun k=>(eP (l.any (·.2) || k.any (·.2)) none (uY st x)).bind fun q=>(xU env f q.1 (l.map (·.1)++k.map (·.1))).bind fun r=>(oN q.2.2 q.2.1 r.2).bind fun st2=>some (st2.layAll d r.1)
noncomputable def NK (env:Env)(d f:Nat)(x:bJ)(args:List bJ)(caps:List PV)(st:St):Option St :=
 (args.mapM fun x=>st.jP (st.get x)).bind fun l=>(eP (l.any (·.2)) none (uY st x)).bind fun q=>(xU env f q.1 (l.map (·.1)++caps)).bind fun r=>(oN q.2.2 q.2.1 r.2).bind fun st2=>some (st2.layAll d r.1)
theorem adt (d f:Nat)(x:bJ)(args:List bJ)(caps:List AV)(st:St):qP (den env) env d f x args caps st=KY env d f x args caps st:=by
 unfold qP KY
 congr 1;funext l
 congr 1;funext k
 congr 1
 cases h:(l.any (·.2) || k.any (·.2))<;>rfl
theorem ZR (d f:Nat)(x:bJ)(args:List bJ)(caps:List PV)(st:St):KY env d f x args (caps.map .pv) st=NK env d f x args caps st:=by
 unfold NK KY
 congr 1;funext l
 rw [Gs,ZaZ,Zb9,ZdS]
 have h1:(Prod.fst ∘ fun v:PV=>(v,false))=id:=rfl
 have h2:caps.any (Prod.snd ∘ fun v:PV=>(v,false))=false:=by
  induction caps with
  |nil=>rfl
  |cons c cs ih=>simp [Zci,ih]
 rw [h1,List.map_id,h2,ZcZ]
noncomputable def aiv (env:Env)(d f:Nat)(x:bJ)(args:List bJ)(caps:List AV)(st:St):Option St:=KY env d f x args caps (args.foldl St.bV st)
noncomputable def QW (env:Env)(d f:Nat)(x:bJ)(args:List bJ)(caps:List PV)(st:St):Option St:=NK env d f x args caps (args.foldl St.bV st)
theorem NM (d f:Nat)(x:bJ)(args:List bJ)(caps:List AV)(st:St):jf (den env) env d f x args caps st=aiv env d f x args caps st:=adt ..
theorem Gu (d f:Nat)(x:bJ)(args:List bJ)(caps:List PV)(st:St):aiv env d f x args (caps.map .pv) st=QW env d f x args caps st:=ZR ..
theorem aiw {d f x args}(st:St):qF env (.lin d f x args) st=QW env d f x args [] st:=(NM ..).trans (Gu (caps:=[]) ..)
theorem aix {d f x args}(st:St):op1 (den env) env (.lin d f x args) st=QW env d f x args [] st:=(NM ..).trans (Gu (caps:=[]) ..)
theorem adu {d g x args}(st:St):qF env (.linv d g x args) st=(match st.get g with
  |.pv (.func f caps)=>QW env d f x args caps st
  |.fn f caps=>aiv env d f x args caps st
  |_=>none):=by
 show (match st.get g with
  |.pv (.func f caps)=>jf (den env) env d f x args (caps.map .pv) st
  |.fn f caps=>jf (den env) env d f x args caps st
  |_=>none)=_
 split<;>simp only [NM,Gu]
theorem adv {d g x args}(st:St):op1 (den env) env (.linv d g x args) st=qF env (.linv d g x args) st:=(rfl)
theorem ZT {d x args}(st:St):qF env (.jU d x args) st=(match st.get x with
  |.pv (.func f caps)=>Df env d f args caps st
  |.fn f caps=>dcall env d f args caps st
  |_=>none):=by
 show (match st.get x with
  |.pv (.func f caps)=>jQ (den env) env d f args (caps.map .pv) st
  |.fn f caps=>jQ (den env) env d f args caps st
  |_=>none)=_
 split<;>simp only [Gt,Dh]
theorem ZU {d x args}(st:St):op1 (den env) env (.jU d x args) st=qF env (.jU d x args) st:=(rfl)
theorem adw {d c x y}(st:St):op1 (den env) env (.pick d c x y) st=qF env (.pick d c x y) st:=(rfl)
theorem aiy {d x}(st:St):qF env (.ah d x) st=plain (.ah d x) st:=(rfl)
theorem aiz {d x}(st:St):qF env (.ak d x) st=plain (.ak d x) st:=(rfl)
theorem aiA {d o x y}(st:St):qF env (.bin d o x y) st=plain (.bin d o x y) st:=(rfl)
theorem aiB {d neg n x y}(st:St):qF env (.UY d neg n x y) st=plain (.UY d neg n x y) st:=(rfl)
theorem aiC {d neg x y}(st:St):qF env (.YT d neg x y) st=plain (.YT d neg x y) st:=(rfl)
theorem aiD {d neg x}(st:St):qF env (.UZ d neg x) st=plain (.UZ d neg x) st:=(rfl)
theorem aiE {d sz x h m}(st:St):qF env (.sl3 d sz x h m) st=plain (.sl3 d sz x h m) st:=(rfl)
theorem aiF {d sz x l h m}(st:St):qF env (.sl4 d sz x l h m) st=plain (.sl4 d sz x l h m) st:=(rfl)
theorem aiG {d n x}(st:St):qF env (.asl d n x) st=plain (.asl d n x) st:=(rfl)
theorem aiH {d x}(st:St):qF env (.bxw d x) st=act (den env) env (.bxw d x) st:=(rfl)
theorem aiI {d x}(st:St):op1 (den env) env (.bxw d x) st=act (den env) env (.bxw d x) st:=(rfl)
theorem aiJ {n p x}(st:St):qF env (.stw n p x) st=act (den env) env (.stw n p x) st:=(rfl)
theorem aiK {n p x}(st:St):op1 (den env) env (.stw n p x) st=act (den env) env (.stw n p x) st:=(rfl)
theorem aiL {d f x g}(st:St):qF env (.Jr d f x g) st=act (den env) env (.Jr d f x g) st:=(rfl)
theorem aiM {d f x g}(st:St):op1 (den env) env (.Jr d f x g) st=act (den env) env (.Jr d f x g) st:=(rfl)
theorem aiN {d x}(st:St):qF env (.XH d x) st=plain (.XH d x) st:=(rfl)
theorem aiO {d x}(st:St):op1 (den env) env (.XH d x) st=plain (.XH d x) st:=(rfl)
theorem aiP {d n x}(st:St):qF env (.Ph d n x) st=plain (.Ph d n x) st:=(rfl)
theorem aiQ {d n x}(st:St):op1 (den env) env (.asl d n x) st=plain (.asl d n x) st:=(rfl)
theorem aiR {d n x}(st:St):op1 (den env) env (.Ph d n x) st=plain (.Ph d n x) st:=(rfl)
theorem aiS {d neg x}(st:St):op1 (den env) env (.UZ d neg x) st=plain (.UZ d neg x) st:=(rfl)
theorem aiT {d sz x h m}(st:St):op1 (den env) env (.sl3 d sz x h m) st=plain (.sl3 d sz x h m) st:=(rfl)
theorem aiU {d sz x l h m}(st:St):op1 (den env) env (.sl4 d sz x l h m) st=plain (.sl4 d sz x l h m) st:=(rfl)
theorem amm {d o x}(st:St):qF env (.un d o x) st=plain (.un d o x) st:=(rfl)
theorem adx {d k x}(st:St):qF env (.conv d k x) st=plain (.conv d k x) st:=(rfl)
theorem ady {d n p}(st:St):qF env (.load d n p) st=plain (.load d n p) st:=(rfl)
theorem adz {d p off}(st:St):qF env (.au d p off) st=plain (.au d p off) st:=(rfl)
theorem adA {d p i len sz}(st:St):qF env (.wM d p i len sz) st=plain (.wM d p i len sz) st:=(rfl)
theorem adB {d sz x i}(st:St):qF env (.bI d sz x i) st=plain (.bI d sz x i) st:=(rfl)
theorem aiV {d x i len sz n}(st:St):qF env (.idx d x i len sz n) st=plain (.idx d x i len sz n) st:=(rfl)
theorem aiW {d sz x lo hi}(st:St):qF env (.Js d sz x lo hi) st=plain (.Js d sz x lo hi) st:=(rfl)
theorem aiX {d x}(st:St):qF env (.len d x) st=plain (.len d x) st:=(rfl)
theorem aiY {d x i}(st:St):qF env (.ext d x i) st=plain (.ext d x i) st:=(rfl)
theorem ZV {d z parts}(st:St):qF env (.build d z parts) st=plain (.build d z parts) st:=(rfl)
theorem amn {d mx x y}(st:St):qF env (.mn d mx x y) st=plain (.mn d mx x y) st:=(rfl)
theorem aiZ {d f caps}(st:St):qF env (.Jq d f caps) st=plain (.Jq d f caps) st:=(rfl)
theorem ZW {d z}(st:St):qF env (.alloc d z) st=act (den env) env (.alloc d z) st:=(rfl)
theorem ai0 {d x}(st:St):qF env (.box d x) st=act (den env) env (.box d x) st:=(rfl)
theorem ZX {d n p x}(st:St):qF env (.store d n p x) st=act (den env) env (.store d n p x) st:=(rfl)
theorem adC {d sz parts}(st:St):qF env (.fE d sz parts) st=act (den env) env (.fE d sz parts) st:=(rfl)
theorem adD {d z n c}(st:St):qF env (.make d z n c) st=act (den env) env (.make d z n c) st:=(rfl)
theorem ai1 {d sz x y}(st:St):qF env (.app d sz x y) st=act (den env) env (.app d sz x y) st:=(rfl)
theorem ai2 {d sz x y}(st:St):qF env (.apf d sz x y) st=act (den env) env (.apf d sz x y) st:=(rfl)
theorem ai3 {d x}(st:St):qF env (.YU d x) st=act (den env) env (.YU d x) st:=(rfl)
theorem ai4 {d x}(st:St):qF env (.YV d x) st=plain (.YV d x) st:=(rfl)
theorem amo {d f x}(st:St):qF env (.pk d f x) st=act (den env) env (.pk d f x) st:=(rfl)
theorem ZY {d x args}(st:St):qF env (.yield d x args) st=act (den env) env (.yield d x args) st:=(rfl)
theorem ai5 {d x}(st:St):op1 (den env) env (.ah d x) st=plain (.ah d x) st:=(rfl)
theorem ai6 {d x}(st:St):op1 (den env) env (.ak d x) st=plain (.ak d x) st:=(rfl)
theorem ai7 {d o x y}(st:St):op1 (den env) env (.bin d o x y) st=plain (.bin d o x y) st:=(rfl)
theorem ai8 {d neg n x y}(st:St):op1 (den env) env (.UY d neg n x y) st=plain (.UY d neg n x y) st:=(rfl)
theorem ai9 {d neg x y}(st:St):op1 (den env) env (.YT d neg x y) st=plain (.YT d neg x y) st:=(rfl)
theorem amq {d o x}(st:St):op1 (den env) env (.un d o x) st=plain (.un d o x) st:=(rfl)
theorem adE {d k x}(st:St):op1 (den env) env (.conv d k x) st=plain (.conv d k x) st:=(rfl)
theorem adF {d n p}(st:St):op1 (den env) env (.load d n p) st=plain (.load d n p) st:=(rfl)
theorem adG {d p off}(st:St):op1 (den env) env (.au d p off) st=plain (.au d p off) st:=(rfl)
theorem adH {d p i len sz}(st:St):op1 (den env) env (.wM d p i len sz) st=plain (.wM d p i len sz) st:=(rfl)
theorem adI {d sz x i}(st:St):op1 (den env) env (.bI d sz x i) st=plain (.bI d sz x i) st:=(rfl)
theorem aja {d x i len sz n}(st:St):op1 (den env) env (.idx d x i len sz n) st=plain (.idx d x i len sz n) st:=(rfl)
theorem ajb {d sz x lo hi}(st:St):op1 (den env) env (.Js d sz x lo hi) st=plain (.Js d sz x lo hi) st:=(rfl)
theorem ajc {d x}(st:St):op1 (den env) env (.len d x) st=plain (.len d x) st:=(rfl)
theorem ajd {d x i}(st:St):op1 (den env) env (.ext d x i) st=plain (.ext d x i) st:=(rfl)
theorem Z4 {d z parts}(st:St):op1 (den env) env (.build d z parts) st=plain (.build d z parts) st:=(rfl)
theorem amr {d mx x y}(st:St):op1 (den env) env (.mn d mx x y) st=plain (.mn d mx x y) st:=(rfl)
theorem aje {d f caps}(st:St):op1 (den env) env (.Jq d f caps) st=plain (.Jq d f caps) st:=(rfl)
theorem Z5 {d z}(st:St):op1 (den env) env (.alloc d z) st=act (den env) env (.alloc d z) st:=(rfl)
theorem ajf {d x}(st:St):op1 (den env) env (.box d x) st=act (den env) env (.box d x) st:=(rfl)
theorem Z7 {d n p x}(st:St):op1 (den env) env (.store d n p x) st=act (den env) env (.store d n p x) st:=(rfl)
theorem adJ {d sz parts}(st:St):op1 (den env) env (.fE d sz parts) st=act (den env) env (.fE d sz parts) st:=(rfl)
theorem adK {d z n c}(st:St):op1 (den env) env (.make d z n c) st=act (den env) env (.make d z n c) st:=(rfl)
theorem ajg {d sz x y}(st:St):op1 (den env) env (.app d sz x y) st=act (den env) env (.app d sz x y) st:=(rfl)
theorem ajh {d sz x y}(st:St):op1 (den env) env (.apf d sz x y) st=act (den env) env (.apf d sz x y) st:=(rfl)
theorem aji {d x}(st:St):op1 (den env) env (.YU d x) st=act (den env) env (.YU d x) st:=(rfl)
theorem ajj {d x}(st:St):op1 (den env) env (.YV d x) st=plain (.YV d x) st:=(rfl)
theorem ams {d f x}(st:St):op1 (den env) env (.pk d f x) st=act (den env) env (.pk d f x) st:=(rfl)
theorem Z8 {d x args}(st:St):op1 (den env) env (.yield d x args) st=act (den env) env (.yield d x args) st:=(rfl)
theorem adL (d:Nat)(v:PV):AV.kill d (.pv v)=.pv v:=(rfl)
theorem Z9 (d:Nat):AV.kill d .any=.any:=(rfl)
theorem aac (d sz:Nat)(es:List PV):AV.kill d (.row sz es)=.row sz es:=(rfl)
theorem Wv (d o j:Nat):AV.kill d (.aX o j)=.aX o j:=(rfl)
theorem adM (d f:Nat)(l:List AV):AV.kill d (.fn f l)=.fn f l:=(rfl)
theorem adN (d o j:Nat):AV.kill d (.pp o j)=.pp o j:=(rfl)
theorem aad (d s:Nat)(l:List PV):AV.kill d (.Ez s l)=.Ez s l:=(rfl)
theorem aae (d:Nat)(k:Bool)(l:List AV):AV.kill d (.lS k l)=.lS k l:=(rfl)
theorem aaf (d:Nat):AV.kill d .oM=.oM:=(rfl)
theorem Wx (d t off len:Nat):AV.kill d (.ref (.slot t) off len)=eP (decide (t=d)) .any (.ref (.slot t) off len):=by
 by_cases h:t=d<;>simp [AV.kill,AV.roots,h,eP]
theorem Wy (d o j off len:Nat):AV.kill d (.ref (.cell o j) off len)=.ref (.cell o j) off len:=(rfl)
theorem WA (d t i j:Nat):AV.kill d (.pU (.slot t) i j)=eP (decide (t=d)) .any (.pU (.slot t) i j):=by
 by_cases h:t=d<;>simp [AV.kill,AV.roots,h,eP]
theorem WB (d o q i j:Nat):AV.kill d (.pU (.cell o q) i j)=.pU (.cell o q) i j:=(rfl)
theorem adO (d:Nat)(v:PV):AV.dB d (.pv v)=.pv v:=(rfl)
theorem aag (d:Nat):AV.dB d .any=.any:=(rfl)
theorem aah (d sz:Nat)(es:List PV):AV.dB d (.row sz es)=.row sz es:=(rfl)
theorem WC (d o j:Nat):AV.dB d (.aX o j)=.aX o j:=(rfl)
theorem adP (d f:Nat)(l:List AV):AV.dB d (.fn f l)=.fn f l:=(rfl)
theorem adQ (d o j:Nat):AV.dB d (.pp o j)=.pp o j:=(rfl)
theorem aai (d s:Nat)(l:List PV):AV.dB d (.Ez s l)=.Ez s l:=(rfl)
theorem aaj (d:Nat)(k:Bool)(l:List AV):AV.dB d (.lS k l)=.lS k l:=(rfl)
theorem aak (d:Nat):AV.dB d .oM=.oM:=(rfl)
theorem WE (d t j off len:Nat):AV.dB d (.ref (.cell t j) off len)=eP (decide (t=d)) .any (.ref (.cell t j) off len):=by
 by_cases h:t=d<;>simp [AV.dB,AV.yF,h,eP]
theorem WG (d t off len:Nat):AV.dB d (.ref (.slot t) off len)=.ref (.slot t) off len:=(rfl)
theorem WH (d t q i j:Nat):AV.dB d (.pU (.cell t q) i j)=eP (decide (t=d)) .any (.pU (.cell t q) i j):=by
 by_cases h:t=d<;>simp [AV.dB,AV.yF,h,eP]
theorem WI (d t i j:Nat):AV.dB d (.pU (.slot t) i j)=.pU (.slot t) i j:=(rfl)
theorem adR (d y:Nat)(v:PV):AV.iJ d y (.pv v)=.pv v:=(rfl)
theorem aal (d y:Nat):AV.iJ d y .any=.any:=(rfl)
theorem aam (d y sz:Nat)(es:List PV):AV.iJ d y (.row sz es)=.row sz es:=(rfl)
theorem WJ (d y o j:Nat):AV.iJ d y (.aX o j)=.aX o j:=(rfl)
theorem adS (d y f:Nat)(l:List AV):AV.iJ d y (.fn f l)=.fn f l:=(rfl)
theorem adT (d y o j:Nat):AV.iJ d y (.pp o j)=.pp o j:=(rfl)
theorem aan (d y s:Nat)(l:List PV):AV.iJ d y (.Ez s l)=.Ez s l:=(rfl)
theorem aao (d y:Nat)(k:Bool)(l:List AV):AV.iJ d y (.lS k l)=.lS k l:=(rfl)
theorem aap (d y:Nat):AV.iJ d y .oM=.oM:=(rfl)
theorem WL (d y t j off len:Nat):AV.iJ d y (.ref (.cell t j) off len)=eP (decide (t=d)) (eP (decide (j=y)) .any (.ref (.cell t j) off len)) (.ref (.cell t j) off len):=by
 by_cases h:t=d<;>by_cases h2:j=y<;>simp [AV.iJ,AV.ER,h,h2,eP]
theorem WM (d y t off len:Nat):AV.iJ d y (.ref (.slot t) off len)=.ref (.slot t) off len:=(rfl)
theorem WO (d y t q i j:Nat):AV.iJ d y (.pU (.cell t q) i j)=eP (decide (t=d)) (eP (decide (q=y)) .any (.pU (.cell t q) i j)) (.pU (.cell t q) i j):=by
 by_cases h:t=d<;>by_cases h2:q=y<;>simp [AV.iJ,AV.ER,h,h2,eP]
theorem WQ (d y t i j:Nat):AV.iJ d y (.pU (.slot t) i j)=.pU (.slot t) i j:=(rfl)
theorem Bh {γ δ:Type}(f:γ→δ)(l:List γ):(l.map f).take l.length=l.map f:=Za2 (by simp)
theorem adU (k:IntKind)(n:Int):(PV.int k n).scalar=true:=(rfl)
theorem aaq (b:Bool):(PV.bool b).scalar=true:=(rfl)
theorem adV (b:ByteArray):(PV.str b).scalar=true:=(rfl)
theorem aar (sz:Nat)(es:List PV):(PV.list sz es).scalar=false:=(rfl)
theorem aas (f:Nat)(es:List PV):(PV.func f es).scalar=false:=(rfl)
theorem aat (k:IntKind)(n:Int):(PV.int k n).cells=[.int k n]:=(rfl)
theorem WR (b:Bool):(PV.bool b).cells=[.bool b]:=(rfl)
theorem aau (b:ByteArray):(PV.str b).cells=[.str b]:=(rfl)
theorem WS (sz:Nat)(es:List PV):(PV.list sz es).cells=[.list sz es]:=(rfl)
theorem cells_func (f:Nat)(es:List PV):(PV.func f es).cells=[.func f es]:=(rfl)
theorem aav (cs:List PV):(PV.agg cs).cells=cs:=(rfl)
theorem QX (c:PV)(cs:List PV):part (c::cs) 0 none=some c:=(rfl)
theorem KZ (c:PV)(cs:List PV)(n:Nat)(m:Option Nat):part (c::cs) (n+1) m=part cs n m:=by
 cases m with
 |none=>rfl
 |some m =>
  simp only [part,zd,List.drop_succ_cons]
  by_cases h:n+m≤cs.length
  ·rw [if_pos h,if_pos (by omega)]
  ·rw [if_neg h,if_neg (by omega)]
theorem yT (c:PV)(cs:List PV)(m:Nat):part (c::cs) 0 (some m)=if m≤(c::cs).length then some (.agg ((c::cs).take m)) else none:=by
 simp only [part,Zaj,ZaE]
theorem aP {n:Int}(h:-9223372036854775808≤n∧n≤9223372036854775807):IntKind.i64.wrap n=n:=Go.IntWalk.i64_in n h
theorem bH {i n:Nat}(h:i<n)(hn:n≤lim):IntKind.i64.wrap ((i:Int)+1)=((i+1:Nat):Int):=by
 unfold lim at hn
 rw [Go.IntWalk.i64_in _ (by omega)]
 omega
theorem aC {k:IntKind}{i n:Nat}(h:i<n):index (.int k (i:Int)) n=some i:=by
 simp only [index]
 rw [if_pos (by omega)]
 simp
end
end Go.Proofs.YthccglceomoboaaGreatDoor
namespace Go.Proofs.YthccglceomoboaaGreatDoor
open V
def jy (n:Nat):List PV→Option (List sH)
 |[.list sz es]=>if sz=n∧es.length≤lim then some [(.list sz es,true)] else none
 |_=>none
def La:PV→Option UInt8
 |.int .u8 n=>if 0≤n∧n<256 then some (UInt8.ofNat n.toNat) else none
 |_=>none
def pY {α:Type}(f:PV→Option α):List PV→Option (List α)
 |[]=>some []
 |p::l=>match f p with
  |some x=>match pY f l with
   |some xs=>some (x::xs)
   |none=>none
  |none=>none
def Gv:PV→Option dN
 |.agg cs=>match pY La cs with
  |some l=>if h:l.length=8 then some ⟨l.toArray,by simpa using h⟩ else none
  |none=>none
 |_=>none
def yU:PV→Option (List dN)
 |.list 8 es=>pY Gv es
 |_=>none
def vS (n:Int):Bool:=decide (-9223372036854775808≤n)&&decide (n≤9223372036854775807)
def Ei:PV→Option o7
 |.agg [.int .i64 v,.int .i64 s,d]=>match yU d with
  |some d=>if vS v&&vS s then some ⟨v,s,d⟩ else none
  |none=>none
 |_=>none
theorem adW {p:PV}{x:UInt8}(h:La p=some x):p=.int .u8 (x.toNat:Int):=by
 unfold La at h
 split at h
 case h_2=>cases h
 rename_i n
 split at h
 case isFalse=>cases h
 cases h
 rw [UInt8.toNat_ofNat_of_lt' (show n.toNat<2 ^ 8 by omega)]
 congr 1;omega
theorem aaw (x:UInt8):La (.int .u8 (x.toNat:Int))=some x:=by
 have:=x.toNat_lt
 unfold La
 simp only
 rw [if_pos (by omega)]
 simp
theorem qK {α:Type}{f:PV→Option α}{enc:α→PV}(hf:∀ p x,f p=some x→p=enc x):∀ {l:List PV} {xs:List α},pY f l=some xs→l=xs.map enc
 |[],_,h=>by cases h;rfl
 |p::l,xs,h=>by
  unfold pY at h
  split at h
  case h_2=>cases h
  rename_i x hx
  split at h
  case h_2=>cases h
  rename_i ys hy
  cases h
  rw [Zap,← hf p x hx,← qK hf hy]
theorem oD {α:Type}{f:PV→Option α}{enc:α→PV}:∀ {l:List α},(∀ x∈l,f (enc x)=some x)→pY f (l.map enc)=some l
 |[],_=>rfl
 |x::l,h=>by
  simp only [Zap,pY,h x (by simp),oD (l:=l) fun y hy=>h y (by simp [hy])]
theorem aax {p:PV}{x:dN}(h:Gv p=some x):p=fQ x:=by
 unfold Gv at h
 split at h
 case h_2=>cases h
 rename_i cs
 split at h
 case h_2=>cases h
 rename_i l hl
 split at h
 case isFalse=>cases h
 rename_i h8
 cases h
 rw [qK (fun p x=>adW) hl]
 simp [fQ,ql,Vector.toList]
theorem WT (x:dN):Gv (fQ x)=some x:=by
 unfold Gv fQ ql
 simp only
 rw [oD (f:=La) (enc:=fun b:UInt8=>.int .u8 (b.toNat:Int)) fun b _=>aaw b]
 simp
 rfl
theorem Gw {p:PV}{x:List dN}(h:yU p=some x):p=bM x:=by
 unfold yU at h
 split at h
 case h_2=>cases h
 rw [qK (fun p x=>aax) h];rfl
theorem Ej (x:List dN):yU (bM x)=some x:=by
 unfold yU bM
 simp only
 exact oD fun x _=>WT x
theorem adX {p:PV}{x:o7}(h:Ei p=some x):p=U6 x:=by
 unfold Ei at h
 split at h
 case h_2=>cases h
 split at h
 case h_2=>cases h
 rename_i d hd
 split at h
 case isFalse=>cases h
 cases h
 have:=Gw hd
 rw [this];rfl
theorem adY {p:PV}{x:o7}(h:Ei p=some x):vS x.volume=true∧vS x.start=true:=by
 unfold Ei at h
 split at h
 case h_2=>cases h
 split at h
 case h_2=>cases h
 split at h
 case isFalse=>cases h
 rename_i hc
 cases h
 simpa using hc
theorem aay (x:o7)(h1:vS x.volume=true)(h2:vS x.start=true):Ei (U6 x)=some x:=by
 have:=Ej x.data
 unfold bM at this
 simp only [Ei,U6,this,h1,h2,Bool.and_self,if_true]
def xW (l:List Int):Int:=if l.length<1∨8<l.length then 6 else if l.any (fun n=>decide (n<1) || decide (n > 4096)) then 2 else 0
def dI (im:List (List dN)):List Int:=im.map fun v=>(v.length:Int)
def rC (sz:List Int)(w:o7):Int :=
 if w.volume<0∨(sz.length:Int)≤w.volume then 7 else if w.data.length=0 then 1
 else if w.start<0∨(sz.getD w.volume.toNat 0) - w.data.length<w.start then 2 else 0
def putAt (l:List dN)(s:Nat)(d:List dN):List dN:=l.take s++d++l.drop (s+d.length)
def Gx (im:List (List dN))(w:o7):List (List dN):=im.set w.volume.toNat (putAt (im.getD w.volume.toNat []) w.start.toNat w.data)
def qc (sz:List Int):List o7→Nat→Int×Int
 |[],_=>(0,0)
 |w::l,i=>if rC sz w≠0 then (i,rC sz w) else qc sz l (i+1)
def QY (im:List (List dN))(l:List o7):Int:=if xW (dI im)≠0 then xW (dI im) else (qc (dI im) l 0).2
def apI (im:List (List dN))(l:List o7):Int:=if xW (dI im)≠0 then 0 else (qc (dI im) l 0).1
def NP (im:List (List dN))(l:List o7):List (List dN):=if QY im l=0 then l.foldl Gx im else []
def vT:List PV→Option (List sH)
 |[.list 1 im,.list 3 l]=>match pY yU im with
  |some im=>match pY Ei l with
   |some l=>if im.length≤1000000∧im.all (fun v=>decide (v.length≤1000000))=true then some [(.list 1 ((NP im l).map bM),false),(.int .i64 (apI im l),false),(.int .i64 (QY im l),false)] else none
   |none=>none
  |none=>none
 |_=>none
theorem aaz {args:List PV}{rs:List sH}(h:vT args=some rs):∃ (im:List (List dN)) (l:List o7),args=[.list 1 (im.map bM),.list 3 (l.map U6)]∧(∀ w∈l,vS w.volume=true∧vS w.start=true)∧im.length≤1000000∧(∀ v∈im,v.length≤1000000) ∧
  rs=[(.list 1 ((NP im l).map bM),false),(.int .i64 (apI im l),false),(.int .i64 (QY im l),false)]:=by
 unfold vT at h
 split at h
 case h_2=>cases h
 split at h
 case h_2=>cases h
 rename_i im hi
 split at h
 case h_2=>cases h
 rename_i l hl
 split at h
 case isFalse=>cases h
 rename_i hc
 cases h
 refine ⟨im,l,by rw [qK (fun p x=>Gw) hi,qK (fun p x=>adX) hl],?_,hc.1,fun v hv=>by simpa using zw.1 hc.2 v hv,rfl⟩
 have:∀ {q:List PV} {xs:List o7},pY Ei q=some xs→∀ w∈xs,vS w.volume=true∧vS w.start=true:=by
  intro q
  induction q with
  |nil=>intro xs h;cases h;simp
  |cons p q ih =>
   intro xs h
   unfold pY at h
   split at h
   case h_2=>cases h
   rename_i x hx
   split at h
   case h_2=>cases h
   rename_i ys hy
   cases h
   simp only [List.mem_cons,forall_eq_or_imp]
   exact ⟨adY hx,ih hy⟩
 exact this hl
theorem WU {im:List (List dN)}{l:List o7}(h1:∀ w∈l,vS w.volume=true∧vS w.start=true)(h2:im.length≤1000000)(h3:∀ v∈im,v.length≤1000000) :
  vT [.list 1 (im.map bM),.list 3 (l.map U6)]=some [(.list 1 ((NP im l).map bM),false),(.int .i64 (apI im l),false),(.int .i64 (QY im l),false)]:=by
 simp only [vT]
 rw [oD fun x _=>Ej x,oD fun x hx=>aay x (h1 x hx).1 (h1 x hx).2]
 simp only
 rw [if_pos ⟨h2,zw.2 fun v hv=>by simpa using h3 v hv⟩]
end Go.Proofs.YthccglceomoboaaGreatDoor
namespace Go.Proofs.YthccglceomoboaaGreatDoor
structure End where
 pos:Nat
 list:Nat
 step:Int
 deriving DecidableEq,Inhabited
def jd (e:End):PV:=.agg [.int .i64 (e.pos:Int),.int .i64 (e.list:Int),.int .i64 e.step]
def Gy:PV→Option End
 |.agg [.int .i64 a,.int .i64 b,.int .i64 c]=>if 0≤a∧0≤b then some ⟨a.toNat,b.toNat,c⟩ else none
 |_=>none
theorem WV (e:End):Gy (jd e)=some e:=by
 simp [Gy,jd]
theorem aaA {p:PV}{e:End}(h:Gy p=some e):p=jd e:=by
 unfold Gy at h
 split at h
 ·split at h
  ·rename_i hc
   cases h
   simp only [jd,Zbv hc.1,Zbv hc.2]
  ·cases h
 ·cases h
def wH (x y:End):Bool:=decide (x.pos<y.pos)
def sZ (l:List End):List End:=(Sort.pdq wH l.toArray 0 l.length (Lib.bitLen l.length) true true).toList
def mJ (g:Nat):PV→List PV→Option (List PV)
 |.func f [],es=>if f=g then if es.length≤1000000 then (pY Gy es).map fun l=>(sZ l).map jd else none else none
 |_,_=>none
theorem JL {g:Nat}{l:List End}(h:l.length≤1000000):mJ g (.func g []) (l.map jd)=some ((sZ l).map jd):=by
 unfold mJ
 simp only [if_true,zb,h]
 rw [oD fun x _=>WV x]
 rfl
theorem NQ {g:Nat}{c:PV}{es es':List PV}(h:mJ g c es=some es'):∃ l:List End,c=.func g []∧es=l.map jd∧l.length≤1000000∧es'=(sZ l).map jd:=by
 unfold mJ at h
 split at h
 ·split at h
  ·rename_i hg
   split at h
   ·rename_i hl
    obtain ⟨l,h1,h2⟩:=Option.map_eq_some_iff.1 h
    have:=qK (fun p x h=>aaA h) h1
    subst this
    exact ⟨l,by rw [hg],rfl,by simpa using hl,h2.symm⟩
   ·cases h
  ·cases h
 ·cases h
end Go.Proofs.YthccglceomoboaaGreatDoor
namespace Go.Proofs
open Go.Shelf
def Tryz.tz_ren:Go.Shelf.Ren:=⟨fun|29=>264|n=>n,fun|22=>193|3=>3|4=>4|25=>271|54=>380|0=>0|5=>5|n=>n,fun|1=>0|n=>n⟩
theorem Tryz.tz:Go.Proofs.Lays7.n29 Tryz.prog Tryz.tz_ren:={
 mixed:=by kernel_rfl
 f29:=Tryz.func264.trans (congrArg some (by kernel_rfl))
 t0:=Tryz.underlying0
 a0:=Tryz.isAgg0
 z0:=Tryz.sizeOf0
 v0:=Tryz.zeroValue0
 i0:=by kernel_rfl
 t3:=Tryz.underlying3
 a3:=Tryz.isAgg3
 z3:=Tryz.sizeOf3
 v3:=Tryz.zeroValue3
 i3:=by kernel_rfl
 t4:=Tryz.underlying4
 a4:=Tryz.isAgg4
 z4:=Tryz.sizeOf4
 v4:=Tryz.zeroValue4
 i4:=by kernel_rfl
 t5:=Tryz.underlying5
 a5:=Tryz.isAgg5
 z5:=Tryz.sizeOf5
 v5:=Tryz.zeroValue5
 i5:=by kernel_rfl
 t22:=Tryz.underlying193
 a22:=Tryz.isAgg193
 z22:=Tryz.sizeOf193
 v22:=Tryz.zeroValue193
 i22:=by kernel_rfl
 t25:=Tryz.underlying271
 a25:=Tryz.isAgg271
 z25:=Tryz.sizeOf271
 v25:=Tryz.zeroValue271
 i25:=by kernel_rfl
 t54:=Tryz.underlying380
 a54:=Tryz.isAgg380
 z54:=Tryz.sizeOf380
 g1:=by kernel_rfl }
end Go.Proofs
namespace Go.Proofs.YthccglceomoboaaGreatDoor
open Go.RowKit Go.Shelf
def tzX:List PV→Option (List sH)
 |[.int .u64 n]=>if 0≤n∧n<18446744073709551616 then some [(.int .i64 (Lib.ctz 64 n.toNat:Nat),false)] else none
 |_=>none
theorem amu {T:Tags}{w:World}(h:kH T w):TabAt 0 Lib.deBruijn64tab w:=fun j hj=>by
 have hp:=h _ (Zat.2 rfl)
 obtain ⟨b,off,e1,_,_,h3⟩:=hp.uz
 obtain ⟨eb,eo⟩:0=b∧0=off+0:=by
  injection e1 with e1
  injection e1 with e1
  injection e1 with e2 e3
  exact ⟨e2,e3⟩
 have eo:off=0:=by omega
 subst eb;subst eo
 obtain ⟨u,c1,_,c2⟩:=h3 j (PV.int .u8 ((Lib.deBruijn64tab[j]:Nat):Int)) (by simp [ZD hj])
 rw [c2.dh] at c1
 rw [show Lib.deBruijn64tab.getD j 0=Lib.deBruijn64tab[j] by simp [zP,ZD hj]]
 simpa using c1
theorem aqs:∀ args rs,tzX args=some rs→callable Tryz.prog 264=true∧lW Tryz.prog 264 args rs:=fun args rs h=>by
 unfold tzX at h
 split at h
 case h_2=>cases h
 rename_i n
 split at h
 case isFalse=>cases h
 rename_i hn
 cases h
 refine ⟨by kernel_rfl,fun T0 w vs h1 h2 h3 h4 hG=>?_⟩
 match vs,h3 with
 |[v],_ =>
  have hv:=(h4 0 _ v rfl rfl).dh
  subst hv
  have hc:=Any7.bits_TrailingZeros64 Tryz.tz n.toNat (by omega) w (fun _=>amu hG)
  rw [Zbv hn.1] at hc
  refine Calls.mono hc ?_
  rintro e w' ⟨rfl,rfl⟩
  refine ⟨_,T0,rfl,Below.refl _ _,fun _ _=>rfl,h2,#[_],rfl,rfl,fun i r u hr hu=>?_⟩
  match i with
  |0=>cases hr;cases hu;exact .int _ _
  |i+1=>simp at hr
end Go.Proofs.YthccglceomoboaaGreatDoor
namespace Go.Proofs.YthccglceomoboaaGreatDoor
open Go.RowKit Go.ChangeShapes Go.WideShapes Go.ChangeAt
theorem QZ {T:Tags}{w:World}{b:Bool}{v:Value}(h:vJ T w [(.bool b,false)] v):v=.bool b:=by
 obtain ⟨arr,h1,h2,h3⟩:=h
 have ha:arr.size=1:=h1
 have e0:arr[0]?=some arr[0]:=Array.getElem?_eq_getElem (by omega)
 have hv:v=arr[0]:=by rw [h2,if_pos ha,Array.getD_eq_getD_getElem?,e0];rfl
 have hr:aO (fun b=>T b=.ro) w (.bool b) arr[0]:=h3 0 (.bool b,false) arr[0] rfl e0
 rw [hv]
 exact hr.lG
def NR (w:World):Prop:=kH (fun b=>if b<w.heap.size then .ro else .other) w
theorem WW {P:Program}{env:Env}{f:Nat}{args:List PV}{vs:List Value}{w:World}(hE:Ef P env)(h:cal env f args=some [(.bool true,false)])(hl:vs.length=args.length)
  (hr:∀ (i:Nat) x v,args[i]?=some x→vs[i]?=some v→aO (fun b=>b<w.heap.size) w x v) (hG:NR w):Calls P f vs.toArray w (fun e w'=>e=.returned (.bool true)∧Below w.heap.size w w'):=by
 obtain ⟨n,hn⟩:=lK h
 have hC:=(uG hE hn).2 (fun b=>if b<w.heap.size then .ro else .other) w vs (fun b=>by
  by_cases hb:b<w.heap.size
  ·exact .inl (if_pos hb)
  ·exact .inr (if_neg hb)) (fun b hb=>if_neg (by omega)) hl (fun i x v hx hv=>(hr i x v hx hv).frame fun b hb _=>⟨if_pos hb,rfl⟩) hG
 refine hC.mono ?_
 rintro e w' ⟨v,T',rfl,h1,_,_,h2⟩
 exact ⟨by rw [QZ h2],h1⟩
def NS (w:World):List PV→List Value→Prop
 |[],[]=>True
 |x::xs,v::vs=>aO (fun b=>b<w.heap.size) w x v∧NS w xs vs
 |_,_=>False
theorem NS.get {w:World}:∀ {xs:List PV} {vs:List Value},NS w xs vs→vs.length=xs.length∧∀ (i:Nat) x v,xs[i]?=some x→vs[i]?=some v→aO (fun b=>b<w.heap.size) w x v
 |[],[],_=>⟨rfl,fun i x v hx=>by simp at hx⟩
 |x::xs,v::vs,h=>by
  obtain ⟨h1,h2⟩:=h
  obtain ⟨k1,k2⟩:=h2.get
  refine ⟨by simp [k1],fun i y u hy hu=>?_⟩
  cases i with
  |zero=>cases hy;cases hu;exact h1
  |succ i=>exact k2 i y u hy hu
 |[],_::_,h=>h.elim
 |_::_,[],h=>h.elim
theorem aaB {P:Program}{env:Env}{f:Nat}{args:List PV}{vs:List Value}{w:World}(hE:Ef P env)(h:cal env f args=some [(.bool true,false)])(hr:NS w args vs)(hG:NR w:=by exact NR.none):Calls P f vs.toArray w (fun e w'=>e=.returned (.bool true)∧Below w.heap.size w w') :=
 WW hE h hr.get.1 hr.get.2 hG
def Di (w:World)(cs:List Value)(ps:List PV):Prop :=
 cs.length=ps.length∧(∀ c∈cs,c.oneCell'=true)∧∀ (j:Nat) x v,ps[j]?=some x→cs[j]?=some v→aO (fun b=>b<w.heap.size) w x v
def lZ (P:Program)(t:TypeId)(n:Nat)(S:List PV→Prop):Prop :=
 P.cellsOf t=n∧∀ {H:Type} {enc:TypeId×Value→H} {w:World} {fuel:Nat} {cs:List Value} {x:DataW H×List MemPlace},DataW.trod enc P w 0 (fun _=>true) true fuel t cs=some x→∃ ps,S ps∧ps.length=n∧Di w cs ps
def SInt (k:IntKind)(ps:List PV):Prop:=∃ n,(Lit.int k n).wf=true∧ps=[.int k n]
def aqt (ps:List PV):Prop:=∃ b,ps=[.bool b]
def aqu (n:Nat)(S:List PV→Prop)(ps:List PV):Prop:=ps.length=n∧∀ p∈ps,S [p]
def adZ (n:Nat)(S:List PV→Prop)(wr:List PV→PV)(ps:List PV):Prop:=∃ es,ps=[.list n es]∧∀ x∈es,∃ q,S q∧x=wr q
def Q5:List (List PV→Prop)→List PV→Prop
 |[],ps=>ps=[]
 |S::Ss,ps=>∃ p q,ps=p++q∧S p∧Q5 Ss q
section
variable {P:Program}{t e:TypeId}{n m:Nat}{S:List PV→Prop}{k:IntKind}
theorem uH {w:World}{c:Value}{p:PV}(hc:c.oneCell'=true)(h:aO (fun b=>b<w.heap.size) w p c):Di w [c] [p] :=
 ⟨rfl,fun x hx=>by rw [Zat.1 hx];exact hc,fun j x v hx hv=>by
  cases j with
  |zero=>cases hx;cases hv;exact h
  |succ j=>simp at hx⟩
theorem lZ.int (ht:P.underlying t=some (.int k))(hc:P.cellsOf t=1):lZ P t 1 (SInt k):=⟨hc,fun h=>by
 obtain ⟨n,rfl,_,hw⟩:=DataW.trod_int ht h
 exact ⟨[.int k n],⟨n,hw,rfl⟩,rfl,uH rfl (.int k n)⟩⟩
theorem lZ.bool (ht:P.underlying t=some .bool)(hc:P.cellsOf t=1):lZ P t 1 aqt:=⟨hc,fun h=>by
 obtain ⟨b,rfl,_⟩:=DataW.trod_bool ht h
 exact ⟨[.bool b],⟨b,rfl⟩,rfl,uH rfl (.bool b)⟩⟩
theorem yV {α:Type}{p:Nat→α→Prop}:∀ n:Nat,(∀ i,i<n→∃ y,p i y)→∃ l:List α,l.length=n∧∀ i x,l[i]?=some x→p i x
 |0,_=>⟨[],rfl,fun i x h=>by simp at h⟩
 |n+1,h=>by
  obtain ⟨l,h1,h2⟩:=yV n fun i hi=>h i (by omega)
  obtain ⟨y,hy⟩:=h n (by omega)
  refine ⟨l++[y],by simp [h1],fun i x hx=>?_⟩
  by_cases hi:i<n
  ·rw [Zaa (by omega)] at hx;exact h2 i x hx
  ·have:=(za.1 hx).1
   obtain rfl:i=n:=by simp at this;omega
   rw [zE (by omega),h1,Nat.sub_self] at hx
   cases hx
   exact hy
theorem lZ.arr (ht:P.underlying t=some (.array n e))(he:lZ P e 1 S)(hc:P.cellsOf t=n):lZ P t n (aqu n S):=⟨hc,fun {H enc w fuel cs x} h=>by
 obtain ⟨xs,m,_,_,hl,hx,hE⟩:=DataW.trod_array ht h
 rw [hc] at hl
 obtain ⟨l,h1,h2⟩:=yV (p:=fun i (b:PV)=>S [b]∧∃ c,cs[i]?=some c∧c.oneCell'=true∧aO (fun b=>b<w.heap.size) w b c) n fun i hi=>by
  have:=hE i hi
  rw [ZD (by omega),he.1] at this
  obtain ⟨ps,g1,g2,g3,g4,g5⟩:=he.2 this
  match ps,g2 with
  |[p],_ =>
   have hci:cs[i]?=some cs[i]:=ZD (by omega)
   have h0:((cs.drop (i*1)).take 1)[0]?=some cs[i]:=by
    rw [List.getElem?_take,if_pos (by decide),List.getElem?_drop]
    simpa using hci
   exact ⟨p,g1,cs[i],hci,g4 _ (Zab h0),g5 0 p _ rfl h0⟩
 refine ⟨l,⟨h1,fun p hp=>?_⟩,h1,by omega,fun c hc=>?_,fun j x v hx hv=>?_⟩
 ·obtain ⟨i,hi⟩:=ZaR.1 hp
  exact (h2 i p hi).1
 ·obtain ⟨i,hi⟩:=ZaR.1 hc
  have hil:i<l.length:=by
   have:=(za.1 hi).1
   omega
  obtain ⟨_,c',e1,e2,_⟩:=h2 i l[i] (ZD hil)
  rw [hi] at e1;cases e1;exact e2
 ·obtain ⟨_,c',e1,_,e3⟩:=h2 j x hx
  rw [hv] at e1;cases e1;exact e3⟩
theorem zT {w:World}{b off:Nat}{v:Value}(h:w.cell? ⟨b,off,none⟩=some v):cZ w b:=by
 unfold World.cell? at h
 split at h
 ·rename_i arr E q hb
  exact ⟨arr,E,q,hb⟩
 ·cases h
theorem lZ.list {wr:List PV→PV}(ht:P.underlying t=some (.slice e))(hc:P.cellsOf t=1)(hr:lZ P e n S)(hpos:0<n)(hw:∀ ps,S ps→ps.length=n→(wr ps).cells=ps):lZ P t 1 (adZ n S wr):=⟨hc,fun {H enc w fuel cs x} h=>by
 rcases DataW.trod_slice ht h with ⟨rfl,_⟩|⟨a,len,cap,elems,rest,m,_,rfl,_,_,hl,hm,hel,hE,hR,_⟩
 ·exact ⟨[.list n []],⟨[],rfl,fun x hx=>by cases hx⟩,rfl,uH rfl (.nil n none)⟩
 ·obtain ⟨l,h1,h2⟩:=yV (p:=fun i (y:List Value×List PV)=>w.cells? 0 (a.add (i*n)) n=some y.1∧S y.2∧y.2.length=n∧Di w y.1 y.2) len fun i hi=>by
   have:=hE i hi
   rw [ZD (by omega),hr.1,ZaK] at this
   obtain ⟨c,h3,h4⟩:=this
   obtain ⟨ps,g1,g2,g3⟩:=hr.2 h4
   exact ⟨(c,ps),h3,g1,g2,g3⟩
  refine ⟨[.list n (l.map fun y=>wr y.2)],⟨_,rfl,fun x hx=>?_⟩,rfl,uH rfl ?_⟩
  ·obtain ⟨y,hy,rfl⟩:=List.mem_map.1 hx
   obtain ⟨i,hi⟩:=ZaR.1 hy
   exact ⟨y.2,(h2 i y hi).2.1,rfl⟩
  ·by_cases hcap:cap=0
   ·have:len=0:=by omega
    subst hcap;subst this
    have:l=[]:=List.eq_nil_of_length_eq_zero h1
    subst this
    exact .nil n (some a)
   ·-- there are cells
    have hcell:∃ off v,w.cell? ⟨a.block,off,none⟩=some v∧a.spot=none:=by
     have Q7:∀ (i:Nat) (c:List Value),w.cells? 0 (a.add (i*n)) n=some c→∃ off v,w.cell? ⟨a.block,off,none⟩=some v∧a.spot=none:=fun i c h3=>by
      obtain ⟨_,hc0,h4⟩:=World.cells?_some h3
      have h5:=h4 0 hpos
      rw [ZD (by omega)] at h5
      have hs:(a.add (i*n)).spot=none:=by simpa [Addr.add] using World.cell?_spot h5
      have hs0:a.spot=none:=by
       unfold Addr.add at hs
       split at hs
       ·exact hs
       ·rename_i hne
        by_cases h0:i*n=0
        ·rename_i q;exact absurd h0 (by simpa using hne)
        ·rcases Za1 i with hi0|hi0
         ·subst hi0;simp at h0
         ·-- the row begins at a: its first cell
          have:0<len∨len=0:=by omega
          rcases this with hlen|hlen
          ·obtain ⟨y,hy⟩:∃ y,l[0]?=some y:=⟨l[0],ZD (by omega)⟩
           obtain ⟨_,hc1,h6⟩:=World.cells?_some (h2 0 y hy).1
           have h7:=h6 0 hpos
           rw [ZD (by omega)] at h7
           simpa [Addr.add] using World.cell?_spot h7
          ·have hrl:0<rest.length:=by have:=(hR rfl).1;omega
           have:=(hR rfl).2 0 (by omega)
           have h8:rest[0]?=some rest[0]:=ZD hrl
           rw [h8,hr.1,hlen,ZaK] at this
           obtain ⟨c1,h9,_⟩:=this
           obtain ⟨_,hc1,h6⟩:=World.cells?_some h9
           have h7:=h6 0 hpos
           rw [ZD (by omega)] at h7
           simpa [Addr.add] using World.cell?_spot h7
      obtain ⟨b,off,spot⟩:=a
      simp only at hs0
      subst hs0
      rw [Addr.add_lit,Addr.add_lit] at h5
      exact ⟨_,_,h5,rfl⟩
     rcases Za1 len with hlen|hlen
     ·have hrl:0<rest.length:=by have:=(hR rfl).1;omega
      have:=(hR rfl).2 0 (by omega)
      have h8:rest[0]?=some rest[0]:=ZD hrl
      rw [h8,hr.1,ZaK] at this
      obtain ⟨c1,h9,_⟩:=this
      exact Q7 _ c1 h9
     ·obtain ⟨y,hy⟩:∃ y,l[0]?=some y:=⟨l[0],ZD (by omega)⟩
      exact Q7 0 _ (h2 0 y hy).1
    obtain ⟨aub,v0,hv0,hspot⟩:=hcell
    obtain ⟨b,off,spot⟩:=a
    simp only at hspot hv0
    subst hspot
    have hC:cZ w b:=zT hv0
    have hget:∀ (i:Nat) x,(l.map fun y=>wr y.2)[i]?=some x→∃ y,l[i]?=some y∧x=wr y.2:=fun i x hx=>by
     rw [List.getElem?_map] at hx
     cases e:l[i]? with
     |none=>rw [e] at hx;cases hx
     |some y=>rw [e] at hx;exact ⟨y,rfl,(Option.some.inj hx).symm⟩
    have hlen:(l.map fun y=>wr y.2).length=len:=by simp [h1]
    have:=aO.list (ok:=fun b=>b<w.heap.size) (w:=w) n (l.map fun y=>wr y.2) b off cap (fun i j=>(((l[i]?).map (·.1)).getD []).getD j default) hC.lt hC (by rw [hlen];exact hl) hm
     (fun x hx=>by
      obtain ⟨i,hi⟩:=ZaR.1 hx
      obtain ⟨y,hy,rfl⟩:=hget i x hi
      obtain ⟨_,g1,g2,_⟩:=h2 i y hy
      rw [hw _ g1 g2,g2])
     (fun i x j p hi hj=>by
      obtain ⟨y,hy,rfl⟩:=hget i x hi
      obtain ⟨g0,g1,g2,g3,g4,g5⟩:=h2 i y hy
      rw [hw _ g1 g2] at hj
      have hjn:j<n:=by have:=(za.1 hj).1;omega
      obtain ⟨_,hc1,h6⟩:=World.cells?_some g0
      have h7:=h6 j hjn
      have hcj:y.1[j]?=some y.1[j]:=ZD (by omega)
      have hd:(((l[i]?).map (·.1)).getD []).getD j default=y.1[j]:=by
       rw [hy];simp [zP,hcj]
      rw [hd]
      rw [hcj,Addr.add_lit,Addr.add_lit] at h7
      exact ⟨h7,g4 _ (Zab hcj)⟩)
     (fun i x j p hi hj=>by
      obtain ⟨y,hy,rfl⟩:=hget i x hi
      obtain ⟨g0,g1,g2,g3,g4,g5⟩:=h2 i y hy
      rw [hw _ g1 g2] at hj
      have hjn:j<n:=by have:=(za.1 hj).1;omega
      have hcj:y.1[j]?=some y.1[j]:=ZD (by omega)
      have hd:(((l[i]?).map (·.1)).getD []).getD j default=y.1[j]:=by
       rw [hy];simp [zP,hcj]
      rw [hd]
      exact g5 j p _ hj hcj)
    rw [hlen] at this
    exact this⟩
theorem Di.append {w:World}{c1 c2:List Value}{p1 p2:List PV}(h1:Di w c1 p1)(h2:Di w c2 p2):Di w (c1++c2) (p1++p2):=by
 obtain ⟨a1,a2,a3⟩:=h1
 obtain ⟨b1,b2,b3⟩:=h2
 refine ⟨by simp [a1,b1],fun c hc=>?_,fun j x v hx hv=>?_⟩
 ·rcases List.mem_append.1 hc with h|h
  ·exact a2 c h
  ·exact b2 c h
 ·by_cases hj:j<p1.length
  ·rw [Zaa hj] at hx
   rw [Zaa (by omega)] at hv
   exact a3 j x v hx hv
  ·rw [zE (by omega)] at hx
   rw [zE (by omega),a1] at hv
   exact b3 _ x v hx hv
inductive WX (P:Program):Nat→List Field→List (List PV→Prop)→Nat→Prop
 |nil (o:Nat):WX P o [] [] 0
 |cons {o n m:Nat} {f:Field} {fs:List Field} {S:List PV→Prop} {Ss:List (List PV→Prop)}:f.offset=o→lZ P f.type n S→WX P (o+n) fs Ss m→WX P o (f::fs) (S::Ss) (n+m)
theorem WX.read {o:Nat}{fs:List Field}{Ss:List (List PV→Prop)}(h:WX P o fs Ss m){H:Type}{enc:TypeId×Value→H}{w:World}{fuel:Nat}{cs:List Value}{xs:List (DataW H×List MemPlace)}(hl:cs.length=o+m)
  (hx:∀ (i:Nat) (f:Field),fs[i]?=some f→∃ x,DataW.trod enc P w 0 (fun _=>true) true fuel f.type ((cs.drop f.offset).take (P.cellsOf f.type))=some x):∃ ps,Q5 Ss ps∧ps.length=m∧Di w (cs.drop o) ps:=by
 induction h with
 |nil o=>exact ⟨[],rfl,rfl,by rw [List.drop_of_length_le (by omega)];exact (⟨rfl,fun c hc=>(by cases hc),fun j x v hx=>(by simp at hx)⟩:Di w [] [])⟩
 |@cons o n m f fs S Ss h1 h2 h3 ih =>
  obtain ⟨x,h4⟩:=hx 0 f rfl
  rw [h2.1,h1] at h4
  obtain ⟨p,g1,g2,g3⟩:=h2.2 h4
  obtain ⟨q,k1,k2,k3⟩:=ih (by omega) (fun i f hf=>hx (i+1) f hf)
  refine ⟨p++q,⟨p,q,rfl,g1,k1⟩,by simp [g2,k2],?_⟩
  have:cs.drop o=(cs.drop o).take n++cs.drop (o+n):=by rw [← List.drop_drop,ZaQ]
  rw [this]
  exact g3.append k3
theorem lZ.struct {fs:Array Field}{Ss:List (List PV→Prop)}(ht:P.underlying t=some (.struct fs))(hf:WX P 0 fs.toList Ss n)(hc:P.cellsOf t=n):lZ P t n (Q5 Ss):=⟨hc,fun {H enc w fuel cs x} h=>by
 obtain ⟨xs,m,_,_,hl,hx,hE⟩:=DataW.trod_struct ht h
 obtain ⟨ps,h1,h2,h3⟩:=hf.read (xs:=xs) (enc:=enc) (w:=w) (fuel:=m) (cs:=cs) (by omega) (fun i f hi=>by
  have hi':fs[i]?=some f:=by simpa using hi
  have:=hE i f hi'
  have hil:i<xs.length:=by rw [hx];exact (Array.getElem?_eq_some_iff.1 hi').1
  exact ⟨xs[i],by rw [this,ZD hil]⟩)
 exact ⟨ps,h1,h2,by simpa using h3⟩⟩
theorem lZ.X3 {f0 f1 f2 f3:Field}{n0 n1 n2 n3:Nat}{S0 S1 S2 S3:List PV→Prop}(ht:P.underlying t=some (.struct #[f0,f1,f2,f3]))(h0:lZ P f0.type n0 S0)(h1:lZ P f1.type n1 S1)(h2:lZ P f2.type n2 S2)(h3:lZ P f3.type n3 S3)(o0:f0.offset=0)(o1:f1.offset=0+n0)(o2:f2.offset=0+n0+n1)(o3:f3.offset=0+n0+n1+n2)(hc:P.cellsOf t=n0+(n1+(n2+(n3+0)))):lZ P t (n0+(n1+(n2+(n3+0)))) (Q5 [S0,S1,S2,S3]) :=
 lZ.struct ht (show WX P 0 [f0,f1,f2,f3] [S0,S1,S2,S3] (n0+(n1+(n2+(n3+0)))) from .cons o0 h0 (.cons o1 h1 (.cons o2 h2 (.cons o3 h3 (.nil _))))) hc
theorem ajk {H:Type}{enc:TypeId×Value→H}{w:World}{v:Value}{d:DataW H}{p:List MemPlace}(hr:lZ P t 1 S)(hone:v.cells.toList=[v])(h:DataW.Trod enc P w 0 (fun _=>true) true t v d p) :
  ∃ q,S [q]∧aO (fun b=>b<w.heap.size) w q v:=by
 obtain ⟨fuel,hf⟩:=h
 obtain ⟨ps,h1,h2,h3,h4,h5⟩:=hr.2 hf
 match ps,h2 with
 |[q],_=>exact ⟨q,h1,h5 0 q v rfl (by rw [hone];rfl)⟩
theorem X4 {H:Type}{enc:TypeId×Value→H}{w:World}{v:Value}{d:DataW H}{p:List MemPlace}{m:Reach}{base:Nat}(ht:P.underlying t=some (.int k))(hr:lZ P t 1 S)(hv:Value.okWide P w m base t v)(h:DataW.Trod enc P w 0 (fun _=>true) true t v d p) :
  ∃ q,S [q]∧aO (fun b=>b<w.heap.size) w q v:=by
 have:v.cells.toList=[v]:=by
  simp only [Value.okWide,ht,Cell.okWide] at hv
  cases v<;>simp_all [Cell.ok,Value.cells]
 exact ajk hr this h
end
end Go.Proofs.YthccglceomoboaaGreatDoor
namespace Go.Proofs.YthccglceomoboaaGreatDoor
def fn8:dH:=⟨3,94,[.tmp 6],(.seq (.ops [.ak 6 (.c (.bool false))]) (.seq (.seq (.ops [.ah 20 (.t 2),.call 21 44 [(.t 20)],.un 22 .not (.t 21)]) (.cond (.t 22) (.seq (.ops [.call 23 24 [],.ak 6 (.t 23)]) .ret) .skip)) (.seq (.ops [.ah 25 (.t 0),.ah 26 (.t 1),.ah 27 (.t 2),.call 28 45 [(.t 25),(.t 26),(.t 27)],.ah 24 (.t 28),.ext 29 (.t 24) 0,.ext 30 (.t 24) 1,.ext 31 (.t 24) 2,.ext 32 (.t 24) 3,.ak 7 (.t 29),.ak 8 (.t 30),.ak 9 (.t 31),.ak 10 (.t 32)]) (.seq (.ops [.ah 34 (.t 7),.ah 35 (.t 9),.call 36 43 [(.t 34),(.t 35)],.ah 33 (.t 36),.ext 37 (.t 33) 0,.ext 38 (.t 33) 1,.ak 11 (.t 37),.ak 12 (.t 38)]) (.seq (.ops [.ah 40 (.t 8),.ah 41 (.t 11),.call 42 39 [(.t 40),(.t 41)],.ah 39 (.t 42),.ext 43 (.t 39) 0,.ext 44 (.t 39) 1,.ext 45 (.t 39) 2,.ak 13 (.t 43),.ak 14 (.t 44),.ak 15 (.t 45)]) (.seq (.ops [.ah 47 (.t 7),.ah 48 (.t 8),.ah 49 (.t 9),.call 50 46 [(.t 47),(.t 48),(.t 49)],.ah 46 (.t 50),.ext 51 (.t 46) 0,.ext 52 (.t 46) 1,.ak 16 (.t 51),.ak 17 (.t 52)]) (.seq (.ops [.ah 54 (.t 7),.ah 55 (.t 8),.ah 56 (.t 16),.call 57 47 [(.t 54),(.t 55),(.t 56)],.ah 53 (.t 57),.ext 58 (.t 53) 0,.ext 59 (.t 53) 1,.ak 18 (.t 58),.ak 19 (.t 59)]) (.seq (.seq (.ops [.ah 60 (.t 10),.un 61 .not (.t 60),.ah 62 (.t 61),.grd 62 false (.ah 63 (.t 12)),.grd 62 false (.bin 64 .neq (.t 63) (.c (.int .i64 0))),.pick 65 (.t 62) (.c (.bool true)) (.t 64),.ah 66 (.t 65),.grd 66 false (.ah 67 (.t 15)),.grd 66 false (.bin 68 .neq (.t 67) (.c (.int .i64 0))),.pick 69 (.t 66) (.c (.bool true)) (.t 68),.ah 70 (.t 69),.grd 70 false (.ah 71 (.t 17)),.grd 70 false (.bin 72 .neq (.t 71) (.c (.int .i64 0))),.pick 73 (.t 70) (.c (.bool true)) (.t 72),.ah 74 (.t 73),.grd 74 false (.ah 75 (.t 19)),.grd 74 false (.bin 76 .neq (.t 75) (.c (.int .i64 0))),.pick 77 (.t 74) (.c (.bool true)) (.t 76)]) (.cond (.t 77) (.seq (.ops [.ak 6 (.c (.bool false))]) .ret) .skip)) (.seq (.ops [.call 78 24 [],.ah 79 (.t 78),.grd 79 true (.ah 80 (.t 13)),.grd 79 true (.ah 81 (.t 7)),.grd 79 true (.call 82 22 [(.t 80),(.t 81)]),.pick 83 (.t 79) (.t 82) (.c (.bool false)),.ah 84 (.t 83),.grd 84 true (.ah 85 (.t 18)),.pick 86 (.t 84) (.t 85) (.c (.bool false)),.ah 87 (.t 86),.grd 87 true (.ah 88 (.t 16)),.grd 87 true (.call 89 48 [(.t 88)]),.grd 87 true (.ah 90 (.t 9)),.grd 87 true (.call 91 48 [(.t 90)]),.grd 87 true (.bin 92 .leq (.t 89) (.t 91)),.pick 93 (.t 87) (.t 92) (.c (.bool false)),.ak 6 (.t 93)]) .ret)))))))))⟩
def NT:ay:=(.seq (.seq (.ops [.ah 11 (.t 5),.ah 12 (.t 0),.len 13 (.t 12),.bin 14 .lss (.t 11) (.t 13)]) (.cond (.t 14) .skip (.exit 0))) (.seq (.block 1 (.seq (.qm [] [([0,1,2,3,4,5,6,7],8)] none [9] [.ah 17 (.t 0),.ah 18 (.t 5),.bI 19 1 (.t 17) (.t 18),.load 20 none (.t 19),.ah 21 (.t 1),.ah 22 (.t 5),.bI 23 1 (.t 21) (.t 22),.load 24 none (.t 23),.call 25 85 [(.t 20),(.t 24)],.un 26 .not (.t 25)]) (.cond (.t 26) (.seq (.ops [.ak 4 (.c (.bool false))]) .ret) .skip))) (.ops [.ah 15 (.t 5),.bin 16 .add (.t 15) (.c (.int .i64 1)),.ak 5 (.t 16)])))
def NU:ay :=
(.clean [0,1,5] [4] (.block 0 (.loop [0,1,5] NT)))
def ad1:dH:=⟨2,27,[.tmp 4],(.seq (.ops [.ak 4 (.c (.bool false))]) (.seq (.seq (.ops [.ah 6 (.t 0),.len 7 (.t 6),.ah 8 (.t 1),.len 9 (.t 8),.bin 10 .neq (.t 7) (.t 9)]) (.cond (.t 10) (.seq (.ops [.ak 4 (.c (.bool false))]) .ret) .skip)) (.seq (.seq (.ops [.ak 5 (.c (.int .i64 0))])
   NU) (.seq (.ops [.ak 4 (.c (.bool true))]) .ret))))⟩
def ad2:dH:=⟨0,132,[.tmp 0],(.seq (.ops [.ak 0 (.c (.bool false))]) (.seq (.ops [.call 18 87 [(.c (.int .i64 8)),(.c (.int .i64 4))],.ah 17 (.t 18),.ext 19 (.t 17) 0,.ext 20 (.t 17) 1,.alloc 1 [(.int .i64 0),(.int .i64 0),(.list 1 []),(.int .i64 0),(.list 1 [])],.store none 5 (.t 1) (.t 19),.ak 2 (.t 20)]) (.seq (.ops [.load 22 (some 5) (.t 1),.build 23 [(.int .i64 0),(.int .i64 0)] [(0,1,(.c (.int .i64 5))),(1,1,(.c (.int .i64 1)))],.call 24 88 [(.t 22),(.t 23)],.ah 21 (.t 24),.ext 25 (.t 21) 0,.ext 26 (.t 21) 1,.ext 27 (.t 21) 2,.store none 5 (.t 1) (.t 25),.ak 3 (.t 26),.ak 4 (.t 27)]) (.seq (.ops [.load 29 (some 5) (.t 1),.call 30 90 [(.t 29)],.call 31 89 [(.c (.int .i64 8)),(.c (.int .i64 4)),(.t 30)],.ah 28 (.t 31),.ext 32 (.t 28) 0,.ext 33 (.t 28) 1,.ext 34 (.t 28) 2,.alloc 5 [(.int .i64 0),(.int .i64 0),(.list 1 []),(.int .i64 0),(.list 1 [])],.store none 5 (.t 5) (.t 32),.ak 6 (.t 33),.ak 7 (.t 34)]) (.seq (.ops [.build 36 [(.int .u8 0),(.int .u8 0),(.int .u8 0),(.int .u8 0),(.int .u8 0),(.int .u8 0),(.int .u8 0),(.int .u8 0)] [],.build 37 [(.int .u8 0),(.int .u8 0),(.int .u8 0),(.int .u8 0),(.int .u8 0),(.int .u8 0),(.int .u8 0),(.int .u8 0)] [],.build 38 [(.int .u8 0),(.int .u8 0),(.int .u8 0),(.int .u8 0),(.int .u8 0),(.int .u8 0),(.int .u8 0),(.int .u8 0)] [],.build 39 [(.int .u8 0),(.int .u8 0),(.int .u8 0),(.int .u8 0),(.int .u8 0),(.int .u8 0),(.int .u8 0),(.int .u8 0)] [],.build 40 [(.int .u8 0),(.int .u8 0),(.int .u8 0),(.int .u8 0),(.int .u8 0),(.int .u8 0),(.int .u8 0),(.int .u8 0)] [],.build 41 [(.int .u8 0),(.int .u8 0),(.int .u8 0),(.int .u8 0),(.int .u8 0),(.int .u8 0),(.int .u8 0),(.int .u8 0)] [(0,1,(.c (.int .u8 1)))],.build 42 [(.int .u8 0),(.int .u8 0),(.int .u8 0),(.int .u8 0),(.int .u8 0),(.int .u8 0),(.int .u8 0),(.int .u8 0)] [],.build 43 [(.int .u8 0),(.int .u8 0),(.int .u8 0),(.int .u8 0),(.int .u8 0),(.int .u8 0),(.int .u8 0),(.int .u8 0)] [],.fE 44 8 [(.t 36),(.t 37),(.t 38),(.t 39),(.t 40),(.t 41),(.t 42),(.t 43)],.fE 45 1 [(.t 44)],.ah 46 (.t 6),.fE 47 1 [(.t 46)],.call 48 43 [(.t 45),(.t 47)],.ah 35 (.t 48),.ext 49 (.t 35) 0,.ext 50 (.t 35) 1,.ak 8 (.t 49),.ak 9 (.t 50)]) (.seq (.ops [.build 52 [(.int .u8 0),(.int .u8 0),(.int .u8 0),(.int .u8 0),(.int .u8 0),(.int .u8 0),(.int .u8 0),(.int .u8 0)] [],.build 53 [(.int .u8 0),(.int .u8 0),(.int .u8 0),(.int .u8 0),(.int .u8 0),(.int .u8 0),(.int .u8 0),(.int .u8 0)] [],.build 54 [(.int .u8 0),(.int .u8 0),(.int .u8 0),(.int .u8 0),(.int .u8 0),(.int .u8 0),(.int .u8 0),(.int .u8 0)] [],.fE 55 8 [(.t 52),(.t 53),(.t 54)],.call 56 26 [(.t 55),(.c (.int .i64 2))],.ah 51 (.t 56),.ext 57 (.t 51) 0,.ext 58 (.t 51) 1,.alloc 10 [(.int .i64 0),(.int .i64 0),(.list 0 [])],.store none 3 (.t 10) (.t 57),.ak 11 (.t 58)]) (.seq (.ops [.build 60 [(.int .u8 0),(.int .u8 0),(.int .u8 0),(.int .u8 0),(.int .u8 0),(.int .u8 0),(.int .u8 0),(.int .u8 0)] [],.build 61 [(.int .u8 0),(.int .u8 0),(.int .u8 0),(.int .u8 0),(.int .u8 0),(.int .u8 0),(.int .u8 0),(.int .u8 0)] [],.build 62 [(.int .u8 0),(.int .u8 0),(.int .u8 0),(.int .u8 0),(.int .u8 0),(.int .u8 0),(.int .u8 0),(.int .u8 0)] [(0,1,(.c (.int .u8 1)))],.fE 63 8 [(.t 60),(.t 61),(.t 62)],.call 64 26 [(.t 63),(.c (.int .i64 2))],.ah 59 (.t 64),.ext 65 (.t 59) 0,.ext 66 (.t 59) 1,.alloc 12 [(.int .i64 0),(.int .i64 0),(.list 0 [])],.store none 3 (.t 12) (.t 65),.ak 13 (.t 66)]) (.seq (.ops [.load 68 (some 3) (.t 10),.load 69 (some 3) (.t 12),.call 70 27 [(.t 68),(.t 69)],.ah 67 (.t 70),.ext 71 (.t 67) 0,.ext 72 (.t 67) 1,.ext 73 (.t 67) 2,.ak 14 (.t 71),.ak 15 (.t 72),.ak 16 (.t 73)]) (.seq (.seq (.ops [.ah 74 (.t 2),.bin 75 .neq (.t 74) (.c (.int .i64 0)),.ah 76 (.t 75),.grd 76 false (.ah 77 (.t 4)),.grd 76 false (.bin 78 .neq (.t 77) (.c (.int .i64 0))),.pick 79 (.t 76) (.c (.bool true)) (.t 78),.ah 80 (.t 79),.grd 80 false (.ah 81 (.t 7)),.grd 80 false (.bin 82 .neq (.t 81) (.c (.int .i64 0))),.pick 83 (.t 80) (.c (.bool true)) (.t 82),.ah 84 (.t 83),.grd 84 false (.ah 85 (.t 9)),.grd 84 false (.bin 86 .neq (.t 85) (.c (.int .i64 0))),.pick 87 (.t 84) (.c (.bool true)) (.t 86),.ah 88 (.t 87),.grd 88 false (.ah 89 (.t 11)),.grd 88 false (.bin 90 .neq (.t 89) (.c (.int .i64 0))),.pick 91 (.t 88) (.c (.bool true)) (.t 90),.ah 92 (.t 91),.grd 92 false (.ah 93 (.t 13)),.grd 92 false (.bin 94 .neq (.t 93) (.c (.int .i64 0))),.pick 95 (.t 92) (.c (.bool true)) (.t 94),.ah 96 (.t 95),.grd 96 false (.ah 97 (.t 16)),.grd 96 false (.bin 98 .neq (.t 97) (.c (.int .i64 0))),.pick 99 (.t 96) (.c (.bool true)) (.t 98),.ah 100 (.t 99),.grd 100 false (.ah 101 (.t 3)),.grd 100 false (.un 102 .not (.t 101)),.pick 103 (.t 100) (.c (.bool true)) (.t 102),.ah 104 (.t 103),.grd 104 false (.ah 105 (.t 8)),.grd 104 false (.len 106 (.t 105)),.grd 104 false (.bin 107 .neq (.t 106) (.c (.int .i64 1))),.pick 108 (.t 104) (.c (.bool true)) (.t 107)]) (.cond (.t 108) (.seq (.ops [.ak 0 (.c (.bool false))]) .ret) .skip)) (.seq (.ops [.ah 109 (.t 8),.bI 110 3 (.t 109) (.c (.int .i64 0)),.au 111 (.t 110) 1,.load 112 none (.t 111),.bin 113 .eql (.t 112) (.c (.int .i64 4)),.ah 114 (.t 113),.grd 114 true (.ah 115 (.t 8)),.grd 114 true (.bI 116 3 (.t 115) (.c (.int .i64 0))),.grd 114 true (.au 117 (.t 116) 2),.grd 114 true (.load 118 none (.t 117)),.grd 114 true (.len 119 (.t 118)),.grd 114 true (.bin 120 .eql (.t 119) (.c (.int .i64 4))),.pick 121 (.t 114) (.t 120) (.c (.bool false)),.ah 122 (.t 121),.grd 122 true (.ah 123 (.t 14)),.grd 122 true (.build 124 [(.int .i64 0),(.int .i64 0)] [(0,1,(.c (.int .i64 2))),(1,1,(.c (.int .i64 1)))]),.grd 122 true (.fE 125 2 [(.t 124)]),.grd 122 true (.call 126 32 [(.t 123),(.t 125)]),.pick 127 (.t 122) (.t 126) (.c (.bool false)),.ah 128 (.t 127),.grd 128 true (.ah 129 (.t 15)),.grd 128 true (.bin 130 .eql (.t 129) (.c (.int .i64 3))),.pick 131 (.t 128) (.t 130) (.c (.bool false)),.ak 0 (.t 131)]) .ret))))))))))⟩
def ajl:ay:=(.ops [.ak 8 (.t 20)])
def ajm:ay:=(.block 1 (.qm [] [([0,1],2),([],3)] (some ([],[],4,[([],5)])) [] [.load 21 none (.t 7),.ah 22 (.t 8),.call 23 93 [(.t 22)],.fE 24 1 [(.t 23)],.app 25 1 (.t 21) (.t 24),.store none 1 (.t 7) (.t 25)]))
def amv:dH:=⟨2,31,[.cell 4 (some 3),.tmp 5],(.seq (.ops [.alloc 4 [(.int .i64 0),(.int .i64 0),(.list 0 [])],.ak 5 (.c (.int .i64 0))]) (.seq (.seq (.ops [.ah 9 (.t 0),.len 10 (.t 9),.ah 11 (.t 1),.call 12 91 [(.t 10),(.t 11)],.ak 6 (.t 12)]) (.seq (.ops [.ah 13 (.t 6),.bin 14 .neq (.t 13) (.c (.int .i64 0))]) (.cond (.t 14) (.seq (.ops [.build 15 [(.int .i64 0),(.int .i64 0),(.list 0 [])] [],.ah 16 (.t 6),.store none 3 (.t 4) (.t 15),.ak 5 (.t 16)]) .ret) .skip))) (.seq (.ops [.alloc 7 [(.list 1 [])]]) (.seq (.seq (.ops [.ah 17 (.t 0),.ah 18 (.t 1),.call 19 92 [(.t 17),(.t 18)]]) (.block 0 (.rng (.t 19) [20] ajl ajm))) (.seq (.ops [.ah 26 (.t 0),.len 27 (.t 26),.ah 28 (.t 1),.load 29 none (.t 7),.call 30 94 [(.t 27),(.t 28),(.t 29)],.store none 3 (.t 4) (.t 30),.ak 5 (.c (.int .i64 0))]) .ret)))))⟩
def ajn:ay:=(.seq (.seq (.ops [.ah 37 (.t 9),.bin 38 .eql (.t 37) (.c (.int .i64 0)),.ah 39 (.t 38),.grd 39 true (.ah 40 (.t 8)),.grd 39 true (.len 41 (.t 40)),.grd 39 true (.bin 42 .gtr (.t 41) (.c (.int .i64 0))),.pick 43 (.t 39) (.t 42) (.c (.bool false))]) (.cond (.t 43) .skip (.exit 0))) (.block 1 (.seq (.ops [.alloc 10 [(.int .i64 0),(.int .i64 0),(.int .i64 0),(.int .i64 0),(.int .i64 0),(.int .i64 0),(.list 0 []),(.list 0 [])]]) (.seq (.qm [] [([0,1,2,3],4)] (some ([5,6],[7],8,[])) [9] [.load 45 (some 3) (.t 3),.ah 46 (.t 8),.bI 47 8 (.t 46) (.c (.int .i64 0)),.load 48 (some 8) (.t 47),.call 49 31 [(.t 45),(.t 48)],.ah 44 (.t 49),.ext 50 (.t 44) 0,.ext 51 (.t 44) 1,.store none 8 (.t 10) (.t 50),.ak 9 (.t 51)]) (.seq (.ops [.ah 52 (.t 9),.bin 53 .eql (.t 52) (.c (.int .i64 0))]) (.cond (.t 53) (.ops [.load 55 (some 8) (.t 7),.load 56 (some 8) (.t 10),.call 57 30 [(.t 55),(.t 56)],.ah 54 (.t 57),.ext 58 (.t 54) 0,.ext 59 (.t 54) 1,.ext 60 (.t 54) 2,.store none 8 (.t 7) (.t 58),.ak 8 (.t 59),.ak 9 (.t 60)]) .skip))))))
def ajo:ay :=
(.clean [3,7,8,9,15,59] [4,5,6,7,9] (.block 0 (.loop [3,7,8,9,15,59] ajn)))
def amw:dH:=⟨2,68,[.tmp 4,.tmp 5,.tmp 6],(.seq (.ops [.box 2 (.t 0),.box 3 (.t 1),.ak 4 (.nil 2),.ak 5 (.c (.int .i64 0)),.ak 6 (.c (.int .i64 0))]) (.seq (.ops [.load 12 (some 3) (.t 2),.call 13 28 [(.t 12)],.ah 11 (.t 13),.ext 14 (.t 11) 0,.ext 15 (.t 11) 1,.ext 16 (.t 11) 2,.alloc 7 [(.int .i64 0),(.int .i64 0),(.list 0 []),(.list 0 []),(.int .i64 0),(.list 0 []),(.int .i64 0),(.bool false)],.store none 8 (.t 7) (.t 14),.ak 8 (.t 15),.ak 9 (.t 16)]) (.seq (.seq (.ops [.ah 17 (.t 9),.bin 18 .eql (.t 17) (.c (.int .i64 0))]) (.cond (.t 18) (.ops [.load 19 (some 3) (.t 3),.call 20 95 [(.t 19)],.ak 9 (.t 20)]) .skip)) (.seq (.seq (.ops [.ah 21 (.t 9),.bin 22 .eql (.t 21) (.c (.int .i64 0)),.ah 23 (.t 22),.grd 23 true (.au 24 (.t 2) 0),.grd 23 true (.load 25 none (.t 24)),.grd 23 true (.au 26 (.t 3) 0),.grd 23 true (.load 27 none (.t 26)),.grd 23 true (.bin 28 .neq (.t 25) (.t 27)),.grd 23 true (.ah 29 (.t 28)),.grd 29 false (.au 30 (.t 2) 1),.grd 29 false (.load 31 none (.t 30)),.grd 29 false (.au 32 (.t 3) 1),.grd 29 false (.load 33 none (.t 32)),.grd 29 false (.bin 34 .neq (.t 31) (.t 33)),.grd 23 true (.pick 35 (.t 29) (.c (.bool true)) (.t 34)),.pick 36 (.t 23) (.t 35) (.c (.bool false))]) (.cond (.t 36) (.ops [.ak 9 (.c (.int .i64 22))]) .skip)) (.seq
   ajo (.seq (.seq (.ops [.ah 61 (.t 9),.bin 62 .neq (.t 61) (.c (.int .i64 0))]) (.cond (.t 62) (.seq (.ops [.ah 63 (.t 9),.ak 4 (.nil 2),.ak 5 (.c (.int .i64 0)),.ak 6 (.t 63)]) .ret) .skip)) (.seq (.qm [] [] none [0,1,2,3,4,5,6] [.au 64 (.t 7) 5,.load 65 none (.t 64),.au 66 (.t 7) 6,.load 67 none (.t 66),.ak 4 (.t 65),.ak 5 (.t 67),.ak 6 (.c (.int .i64 0))]) .ret)))))))⟩
def amx:dH:=⟨1,31,[.cell 2 (some 8),.tmp 3,.tmp 4],(.seq (.ops [.box 1 (.t 0),.alloc 2 [(.int .i64 0),(.int .i64 0),(.list 0 []),(.list 0 []),(.int .i64 0),(.list 0 []),(.int .i64 0),(.bool false)],.ak 3 (.nil 8),.ak 4 (.c (.int .i64 0))]) (.seq (.seq (.ops [.load 7 (some 3) (.t 1),.call 8 95 [(.t 7)],.ak 5 (.t 8)]) (.seq (.ops [.ah 9 (.t 5),.bin 10 .neq (.t 9) (.c (.int .i64 0))]) (.cond (.t 10) (.seq (.ops [.build 11 [(.int .i64 0),(.int .i64 0),(.list 0 []),(.list 0 []),(.int .i64 0),(.list 0 []),(.int .i64 0),(.bool false)] [],.ah 12 (.t 5),.store none 8 (.t 2) (.t 11),.ak 3 (.nil 8),.ak 4 (.t 12)]) .ret) .skip))) (.seq (.drs [] [2,6,23] [.load 13 (some 3) (.t 1),.call 14 96 [(.t 13)],.au 15 (.t 1) 2,.load 16 none (.t 15),.len 17 (.t 16),.bin 18 .sub (.t 17) (.c (.int .i64 1)),.build 19 [(.int .i64 0),(.int .i64 0)] [(0,1,(.c (.int .i64 0))),(1,1,(.c (.int .i64 1)))],.fE 20 2 [(.t 19)],.build 21 [(.int .i64 0),(.int .i64 0),(.list 0 []),(.list 0 []),(.int .i64 0),(.list 2 []),(.int .i64 0),(.bool false)] [(0,3,(.t 14)),(4,1,(.t 18)),(3,1,(.t 20))],.build 22 [(.int .i64 0),(.int .i64 0),(.list 0 []),(.list 0 []),(.int .i64 0),(.list 0 []),(.int .i64 0),(.bool false)] [(0,8,(.t 21))],.box 23 (.t 22),.ak 6 (.t 23)]
   [⟨[([0,2,3,4,5,6],1),([],7),([8,9],10)],none,[11],[0,2,3,4,5,6,1,7,8,9,10,11],false⟩,⟨[([0,2,3,4,5,6],7),([],1),([8,9],10)],none,[11],[0,2,3,4,5,6,7,1,8,9,10,11],false⟩]) (.seq (.drs [] [2,3,4,30] [.ah 24 (.t 6),.au 25 (.t 24) 0,.au 26 (.t 25) 0,.load 27 (some 8) (.t 26),.ah 28 (.t 6),.call 29 97 [(.t 28)],.fE 30 8 [(.t 29)],.store none 8 (.t 2) (.t 27),.ak 3 (.t 30),.ak 4 (.c (.int .i64 0))]
   [⟨[([0,4],1),([2,3],5)],(some ([],[],7,[([],6)])),[8,9],[0,4,1,2,3,5,7,6,8,9],false⟩,⟨[([0,4],5),([],1)],(some ([2,3],[],7,[([],6)])),[8,9],[0,4,5,1,2,3,7,6,8,9],false⟩,⟨[([0,4],1),([2,3],5),([],6)],(some ([],[],7,[])),[8,9],[0,4,1,2,3,5,6,7,8,9],false⟩,⟨[([0,4],5),([],1),([2,3],6)],(some ([],[],7,[])),[8,9],[0,4,5,1,2,3,6,7,8,9],false⟩,⟨[([0,4],5),([],6),([],1)],(some ([2,3],[],7,[])),[8,9],[0,4,5,6,1,2,3,7,8,9],false⟩]) .ret))))⟩
def amy:dH:=⟨2,100,[.cell 4 (some 8),.tmp 5,.tmp 6],(.seq (.ops [.box 2 (.t 0),.box 3 (.t 1),.alloc 4 [(.int .i64 0),(.int .i64 0),(.list 0 []),(.list 0 []),(.int .i64 0),(.list 0 []),(.int .i64 0),(.bool false)],.ak 5 (.nil 8),.ak 6 (.c (.int .i64 0))]) (.seq (.seq (.ops [.load 11 (some 8) (.t 2),.call 12 98 [(.t 11)],.ak 7 (.t 12)]) (.seq (.ops [.ah 13 (.t 7),.bin 14 .neq (.t 13) (.c (.int .i64 0))]) (.cond (.t 14) (.seq (.ops [.build 15 [(.int .i64 0),(.int .i64 0),(.list 0 []),(.list 0 []),(.int .i64 0),(.list 0 []),(.int .i64 0),(.bool false)] [],.ah 16 (.t 7),.store none 8 (.t 4) (.t 15),.ak 5 (.nil 8),.ak 6 (.t 16)]) .ret) .skip))) (.seq (.ops [.au 17 (.t 2) 0,.load 18 (some 3) (.t 17),.call 19 96 [(.t 18)],.au 20 (.t 2) 0,.store none 3 (.t 20) (.t 19)]) (.seq (.ops [.load 21 (some 8) (.t 2),.build 22 [(.int .i64 0),(.int .i64 0),(.list 0 []),(.list 0 []),(.int .i64 0),(.list 0 []),(.int .i64 0),(.bool false)] [(0,8,(.t 21))],.box 23 (.t 22),.ak 8 (.t 23)]) (.seq (.ops [.ah 24 (.t 8),.lin 25 97 (.t 24) [],.alloc 9 [(.int .i64 0),(.int .i64 0),(.int .i64 0),(.int .i64 0),(.int .i64 0),(.int .i64 0),(.list 0 []),(.list 0 [])],.store none 8 (.t 9) (.t 25)]) (.seq (.block 0 (.seq (.ops [.ah 27 (.t 8),.au 28 (.t 27) 0,.au 29 (.t 28) 0,.au 30 (.t 29) 7,.load 31 none (.t 30),.ak 26 (.t 31)]) (.cond (.t 26) (.seq (.ops [.build 32 [(.int .i64 0),(.int .i64 0),(.list 0 []),(.list 0 []),(.int .i64 0),(.list 0 []),(.int .i64 0),(.bool false)] [],.store none 8 (.t 4) (.t 32),.ak 5 (.nil 8),.ak 6 (.c (.int .i64 12))]) .ret) (.seq (.ops [.au 34 (.t 3) 0,.load 35 none (.t 34),.bin 36 .neq (.t 35) (.c (.int .i64 14)),.ak 33 (.t 36)]) (.cond (.t 33) (.seq (.ops [.build 37 [(.int .i64 0),(.int .i64 0),(.list 0 []),(.list 0 []),(.int .i64 0),(.list 0 []),(.int .i64 0),(.bool false)] [],.store none 8 (.t 4) (.t 37),.ak 5 (.nil 8),.ak 6 (.c (.int .i64 1))]) .ret) (.seq (.ops [.au 39 (.t 3) 3,.load 40 none (.t 39),.au 41 (.t 9) 3,.load 42 none (.t 41),.bin 43 .neq (.t 40) (.t 42),.ah 44 (.t 43),.grd 44 false (.au 45 (.t 3) 6),.grd 44 false (.load 46 none (.t 45)),.grd 44 false (.au 47 (.t 9) 6),.grd 44 false (.load 48 none (.t 47)),.grd 44 false (.call 49 99 [(.t 46),(.t 48)]),.grd 44 false (.un 50 .not (.t 49)),.pick 51 (.t 44) (.c (.bool true)) (.t 50),.ak 38 (.t 51)]) (.cond (.t 38) (.seq (.ops [.build 52 [(.int .i64 0),(.int .i64 0),(.list 0 []),(.list 0 []),(.int .i64 0),(.list 0 []),(.int .i64 0),(.bool false)] [],.store none 8 (.t 4) (.t 52),.ak 5 (.nil 8),.ak 6 (.c (.int .i64 22))]) .ret) (.seq (.qm [] [([0,1,2,3],4),([5,6,7],8)] none [9,10,11] [.au 54 (.t 3) 7,.load 55 none (.t 54),.len 56 (.t 55),.ah 57 (.t 8),.au 58 (.t 57) 0,.au 59 (.t 58) 0,.au 60 (.t 59) 3,.load 61 none (.t 60),.call 62 100 [(.t 61)],.bin 63 .mul (.c (.int .i64 8)) (.t 62),.bin 64 .neq (.t 56) (.t 63),.ak 53 (.t 64)]) (.cond (.t 53) (.seq (.ops [.build 65 [(.int .i64 0),(.int .i64 0),(.list 0 []),(.list 0 []),(.int .i64 0),(.list 0 []),(.int .i64 0),(.bool false)] [],.store none 8 (.t 4) (.t 65),.ak 5 (.nil 8),.ak 6 (.c (.int .i64 3))]) .ret) .skip))))))))) (.seq (.ops [.ah 66 (.t 8),.au 67 (.t 3) 7,.load 68 none (.t 67),.lin 69 101 (.t 66) [(.t 68)],.ak 10 (.t 69)]) (.seq (.block 1 (.seq (.ops [.ah 81 (.t 8),.au 82 (.t 81) 0,.au 83 (.t 82) 0,.au 84 (.t 83) 4,.load 85 none (.t 84),.bin 86 .eql (.t 85) (.c (.int .i64 0)),.ak 80 (.t 86)]) (.cond (.t 80) (.ops [.ah 87 (.t 8),.XH 88 (.t 10),.lin 89 102 (.t 87) [(.t 88)]]) (.seq (.ops [.ah 91 (.t 10),.len 92 (.t 91),.bin 93 .eql (.t 92) (.c (.int .i64 0)),.ak 90 (.t 93)]) (.cond (.t 90) (.ops [.ah 94 (.t 8),.lin 95 103 (.t 94) []]) (.seq (.ops [.ah 70 (.t 8),.XH 71 (.t 10),.lin 72 104 (.t 70) [(.t 71)]]) (.seq (.drs [] [4,5,6,79] [.ah 73 (.t 8),.au 74 (.t 73) 0,.au 75 (.t 74) 0,.load 76 (some 8) (.t 75),.ah 77 (.t 8),.call 78 97 [(.t 77)],.fE 79 8 [(.t 78)],.store none 8 (.t 4) (.t 76),.ak 5 (.t 79),.ak 6 (.c (.int .i64 0))]
         [⟨[([0,4],1),([2,3],5)],(some ([],[],7,[([],6)])),[8,9],[0,4,1,2,3,5,7,6,8,9],false⟩,⟨[([0,4],5),([],1)],(some ([2,3],[],7,[([],6)])),[8,9],[0,4,5,1,2,3,7,6,8,9],false⟩,⟨[([0,4],1),([2,3],5),([],6)],(some ([],[],7,[])),[8,9],[0,4,1,2,3,5,6,7,8,9],false⟩,⟨[([0,4],5),([],1),([2,3],6)],(some ([],[],7,[])),[8,9],[0,4,5,1,2,3,6,7,8,9],false⟩,⟨[([0,4],5),([],6),([],1)],(some ([2,3],[],7,[])),[8,9],[0,4,5,6,1,2,3,7,8,9],false⟩]) .ret))))))) (.seq (.ops [.ah 96 (.t 8),.au 97 (.t 96) 0,.au 98 (.t 97) 0,.load 99 (some 8) (.t 98),.store none 8 (.t 4) (.t 99),.ak 5 (.nil 8),.ak 6 (.c (.int .i64 0))]) .ret)))))))))⟩
def ajp:ay:=(.ops [.ak 8 (.t 72)])
def ajq:ay:=(.block 2 (.qm [] [([0,1,2,3,4,5,6,7],8)] (some ([],[],9,[([],10)])) [] [.load 73 none (.t 7),.ah 74 (.t 8),.bI 75 1 (.t 74) (.c (.int .i64 0)),.load 76 none (.t 75),.ah 77 (.t 8),.bI 78 1 (.t 77) (.c (.int .i64 1)),.load 79 none (.t 78),.build 80 [(.int .i64 0),(.int .i64 0)] [(0,1,(.t 76)),(1,1,(.t 79))],.fE 81 2 [(.t 80)],.app 82 2 (.t 73) (.t 81),.store none 1 (.t 7) (.t 82)]))
def ajr:ay:=(.ops [.ak 11 (.t 107)])
def ajs:ay:=(.block 4 (.qm [] [([0,1,2,3,4,5],6)] (some ([],[],7,[([8],9)])) [] [.au 108 (.t 10) 7,.load 109 none (.t 108),.load 110 none (.t 9),.ah 111 (.t 11),.bI 112 1 (.t 110) (.t 111),.load 113 none (.t 112),.call 114 109 [(.t 113)],.app 115 1 (.t 109) (.t 114),.au 116 (.t 10) 7,.store none 1 (.t 116) (.t 115)]))
def amA:dH:=⟨2,118,[.cell 4 (some 8),.tmp 5],(.seq (.ops [.box 2 (.t 0),.box 3 (.t 1),.alloc 4 [(.int .i64 0),(.int .i64 0),(.int .i64 0),(.int .i64 0),(.int .i64 0),(.int .i64 0),(.list 0 []),(.list 0 [])],.ak 5 (.c (.int .i64 0))]) (.seq (.ops [.load 12 (some 3) (.t 2),.call 13 95 [(.t 12)],.ak 6 (.t 13)]) (.seq (.block 0 (.seq (.ops [.ah 15 (.t 6),.bin 16 .neq (.t 15) (.c (.int .i64 0)),.ak 14 (.t 16)]) (.cond (.t 14) (.seq (.ops [.build 17 [(.int .i64 0),(.int .i64 0),(.int .i64 0),(.int .i64 0),(.int .i64 0),(.int .i64 0),(.list 0 []),(.list 0 [])] [],.ah 18 (.t 6),.store none 8 (.t 4) (.t 17),.ak 5 (.t 18)]) .ret) (.seq (.ops [.au 20 (.t 3) 0,.load 21 none (.t 20),.bin 22 .neq (.t 21) (.c (.int .i64 13)),.ak 19 (.t 22)]) (.cond (.t 19) (.seq (.ops [.build 23 [(.int .i64 0),(.int .i64 0),(.int .i64 0),(.int .i64 0),(.int .i64 0),(.int .i64 0),(.list 0 []),(.list 0 [])] [],.store none 8 (.t 4) (.t 23),.ak 5 (.c (.int .i64 1))]) .ret) (.seq (.ops [.au 25 (.t 3) 6,.load 26 none (.t 25),.len 27 (.t 26),.bin 28 .lss (.t 27) (.c (.int .i64 2)),.ah 29 (.t 28),.grd 29 false (.au 30 (.t 3) 6),.grd 29 false (.load 31 none (.t 30)),.grd 29 false (.len 32 (.t 31)),.grd 29 false (.bin 33 .rem (.t 32) (.c (.int .i64 2))),.grd 29 false (.bin 34 .eql (.t 33) (.c (.int .i64 1))),.pick 35 (.t 29) (.c (.bool true)) (.t 34),.ak 24 (.t 35)]) (.cond (.t 24) (.seq (.ops [.build 36 [(.int .i64 0),(.int .i64 0),(.int .i64 0),(.int .i64 0),(.int .i64 0),(.int .i64 0),(.list 0 []),(.list 0 [])] [],.store none 8 (.t 4) (.t 36),.ak 5 (.c (.int .i64 3))]) .ret) (.seq (.qm [] [] none [0,1,2,3,4,5,6,7,8,9,10,11,12,13,14,15,16] [.au 38 (.t 3) 6,.load 39 none (.t 38),.bI 40 1 (.t 39) (.c (.int .i64 0)),.load 41 none (.t 40),.au 42 (.t 2) 0,.load 43 none (.t 42),.bin 44 .neq (.t 41) (.t 43),.ah 45 (.t 44),.grd 45 false (.au 46 (.t 3) 6),.grd 45 false (.load 47 none (.t 46)),.grd 45 false (.bI 48 1 (.t 47) (.c (.int .i64 1))),.grd 45 false (.load 49 none (.t 48)),.grd 45 false (.au 50 (.t 2) 1),.grd 45 false (.load 51 none (.t 50)),.grd 45 false (.bin 52 .neq (.t 49) (.t 51)),.pick 53 (.t 45) (.c (.bool true)) (.t 52),.ak 37 (.t 53)]) (.cond (.t 37) (.seq (.ops [.build 54 [(.int .i64 0),(.int .i64 0),(.int .i64 0),(.int .i64 0),(.int .i64 0),(.int .i64 0),(.list 0 []),(.list 0 [])] [],.store none 8 (.t 4) (.t 54),.ak 5 (.c (.int .i64 22))]) .ret) (.seq (.ops [.au 56 (.t 3) 3,.load 57 none (.t 56),.bin 58 .lss (.t 57) (.c (.int .i64 0)),.ah 59 (.t 58),.grd 59 false (.au 60 (.t 3) 3),.grd 59 false (.load 61 none (.t 60)),.grd 59 false (.au 62 (.t 2) 2),.grd 59 false (.load 63 none (.t 62)),.grd 59 false (.len 64 (.t 63)),.grd 59 false (.bin 65 .geq (.t 61) (.t 64)),.pick 66 (.t 59) (.c (.bool true)) (.t 65),.ak 55 (.t 66)]) (.cond (.t 55) (.seq (.ops [.build 67 [(.int .i64 0),(.int .i64 0),(.int .i64 0),(.int .i64 0),(.int .i64 0),(.int .i64 0),(.list 0 []),(.list 0 [])] [],.store none 8 (.t 4) (.t 67),.ak 5 (.c (.int .i64 2))]) .ret) .skip))))))))))) (.seq (.ops [.alloc 7 [(.list 2 [])]]) (.seq (.seq (.ops [.au 68 (.t 3) 6,.load 69 none (.t 68),.Js 70 1 (.t 69) (some (.c (.int .i64 2))) none,.call 71 105 [(.t 70),(.c (.int .i64 2))]]) (.block 1 (.rng (.t 71) [72] ajp ajq))) (.seq (.ops [.au 83 (.t 2) 2,.load 84 none (.t 83),.au 85 (.t 3) 3,.load 86 none (.t 85),.bI 87 1 (.t 84) (.t 86),.load 88 none (.t 87),.alloc 9 [(.list 1 [])],.store none 1 (.t 9) (.t 88)]) (.seq (.seq (.ops [.load 89 none (.t 7),.load 90 none (.t 9),.len 91 (.t 90),.call 92 106 [(.t 89),(.t 91)],.bin 93 .neq (.t 92) (.c (.int .i64 0))]) (.cond (.t 93) (.seq (.ops [.build 94 [(.int .i64 0),(.int .i64 0),(.int .i64 0),(.int .i64 0),(.int .i64 0),(.int .i64 0),(.list 0 []),(.list 0 [])] [],.store none 8 (.t 4) (.t 94),.ak 5 (.c (.int .i64 3))]) .ret) .skip)) (.seq (.drs [] [4,7,9,10,107] [.au 95 (.t 3) 2,.load 96 none (.t 95),.au 97 (.t 3) 1,.load 98 none (.t 97),.au 99 (.t 3) 3,.load 100 none (.t 99),.au 101 (.t 3) 6,.load 102 none (.t 101),.call 103 107 [(.t 102)],.build 104 [(.int .i64 0),(.int .i64 0),(.int .i64 0),(.int .i64 0),(.int .i64 0),(.int .i64 0),(.list 0 []),(.lV 1)] [(0,1,(.c (.int .i64 14))),(1,1,(.t 96)),(2,1,(.t 98)),(3,1,(.t 100)),(6,1,(.t 103))],.alloc 10 [(.int .i64 0),(.int .i64 0),(.int .i64 0),(.int .i64 0),(.int .i64 0),(.int .i64 0),(.list 0 []),(.list 0 [])],.stw 8 (.t 10) (.t 104)]
     [⟨[([0,1,2,3,4,5,6,7],8),([9],10)],(some ([],[],11,[])),[],[0,1,2,3,4,5,6,7,8,9,10,11],false⟩,⟨[([0,1,2,3,4,5,6,7],10),([],8)],(some ([9],[],11,[])),[],[0,1,2,3,4,5,6,7,10,8,9,11],false⟩]) (.seq (.seq (.ops [.load 105 none (.t 7),.call 106 108 [(.t 105)]]) (.block 3 (.rng (.t 106) [107] ajr ajs))) (.seq (.ops [.load 117 (some 8) (.t 10),.store none 8 (.t 4) (.t 117),.ak 5 (.c (.int .i64 0))]) .ret))))))))))⟩
def ajt:ay:=(.seq (.seq (.ops [.ah 11 (.t 5),.ah 12 (.t 0),.len 13 (.t 12),.bin 14 .lss (.t 11) (.t 13)]) (.cond (.t 14) .skip (.exit 0))) (.seq (.block 1 (.seq (.qm [] [] none [0,1,2,3,4,5,6,7,8] [.ah 17 (.t 0),.ah 18 (.t 5),.bI 19 2 (.t 17) (.t 18),.load 20 (some 2) (.t 19),.ah 21 (.t 1),.ah 22 (.t 5),.bI 23 2 (.t 21) (.t 22),.load 24 (some 2) (.t 23),.UY 25 true 2 (.t 20) (.t 24)]) (.cond (.t 25) (.seq (.ops [.ak 4 (.c (.bool false))]) .ret) .skip))) (.ops [.ah 15 (.t 5),.bin 16 .add (.t 15) (.c (.int .i64 1)),.ak 5 (.t 16)])))
def aju:ay :=
(.clean [0,1,5] [4] (.block 0 (.loop [0,1,5] ajt)))
def amB:dH:=⟨2,26,[.tmp 4],(.seq (.ops [.ak 4 (.c (.bool false))]) (.seq (.seq (.ops [.ah 6 (.t 0),.len 7 (.t 6),.ah 8 (.t 1),.len 9 (.t 8),.bin 10 .neq (.t 7) (.t 9)]) (.cond (.t 10) (.seq (.ops [.ak 4 (.c (.bool false))]) .ret) .skip)) (.seq (.seq (.ops [.ak 5 (.c (.int .i64 0))])
   aju) (.seq (.ops [.ak 4 (.c (.bool true))]) .ret))))⟩
def X5:ay:=(.seq (.ops [.ak 9 (.t 24)]) (.ops [.alloc 10 [(.int .i64 0),(.int .i64 0)],.store none 2 (.t 10) (.t 25)]))
def X6:ay:=(.block 1 (.qm [] [([0,1,2,3,4,5,6,7,8,9,10,11,12,13,14,15],16),([17],18)] (some ([],[],19,[([],20)])) [] [.load 26 none (.t 8),.ah 27 (.t 9),.au 28 (.t 10) 0,.load 29 none (.t 28),.load 30 none (.t 2),.ah 31 (.t 9),.bI 32 1 (.t 30) (.t 31),.load 33 none (.t 32),.au 34 (.t 10) 0,.load 35 none (.t 34),.au 36 (.t 10) 0,.load 37 none (.t 36),.au 38 (.t 10) 1,.load 39 none (.t 38),.bin 40 .add (.t 37) (.t 39),.Js 41 8 (.t 33) (some (.t 35)) (some (.t 40)),.call 42 133 [(.t 41)],.build 43 [(.int .i64 0),(.int .i64 0),(.list 0 [])] [(0,1,(.t 27)),(1,1,(.t 29)),(2,1,(.t 42))],.fE 44 3 [(.t 43)],.app 45 3 (.t 26) (.t 44),.store none 1 (.t 8) (.t 45)]))
def WY:dH:=⟨2,47,[.tmp 4,.tmp 5],(.seq (.ops [.box 2 (.t 0),.ak 4 (.nil 3),.ak 5 (.c (.int .i64 0))]) (.seq (.seq (.ops [.load 11 none (.t 2),.call 12 76 [(.t 11)],.ak 6 (.t 12)]) (.seq (.ops [.ah 13 (.t 6),.bin 14 .neq (.t 13) (.c (.int .i64 0))]) (.cond (.t 14) (.seq (.ops [.ah 15 (.t 6),.ak 4 (.nil 3),.ak 5 (.t 15)]) .ret) .skip))) (.seq (.seq (.ops [.load 16 none (.t 2),.ah 17 (.t 1),.call 18 131 [(.t 16),(.t 17)],.ak 7 (.t 18)]) (.seq (.ops [.ah 19 (.t 7),.bin 20 .neq (.t 19) (.c (.int .i64 0))]) (.cond (.t 20) (.seq (.ops [.ah 21 (.t 7),.ak 4 (.nil 3),.ak 5 (.t 21)]) .ret) .skip))) (.seq (.ops [.alloc 8 [(.list 3 [])]]) (.seq (.seq (.ops [.ah 22 (.t 1),.call 23 132 [(.t 22)]]) (.block 0 (.rng (.t 23) [24,25] X5 X6))) (.seq (.ops [.load 46 none (.t 8),.ak 4 (.t 46),.ak 5 (.c (.int .i64 0))]) .ret))))))⟩
def EY:ay:=(.seq (.seq (.ops [.ah 4 (.t 3),.ah 5 (.t 0),.len 6 (.t 5),.bin 7 .lss (.t 4) (.t 6)]) (.cond (.t 7) .skip (.exit 0))) (.seq (.block 1 (.seq (.ops [.ah 10 (.t 0),.ah 11 (.t 3),.bI 12 4 (.t 10) (.t 11),.au 13 (.t 12) 3,.load 14 none (.t 13),.len 15 (.t 14),.bin 16 .gtr (.t 15) (.c (.int .i64 8))]) (.cond (.t 16) (.seq (.ops [.ak 2 (.c (.bool false))]) .ret) .skip))) (.ops [.ah 8 (.t 3),.bin 9 .add (.t 8) (.c (.int .i64 1)),.ak 3 (.t 9)])))
def NV:ay :=
(.clean [0,3] [0,2] (.block 0 (.loop [0,3] EY)))
def ad3:dH:=⟨1,20,[.tmp 2],(.seq (.ops [.ak 2 (.c (.bool false))]) (.seq (.seq (.ops [.ak 3 (.c (.int .i64 0))])
  NV) (.seq (.ops [.ah 17 (.t 0),.len 18 (.t 17),.bin 19 .leq (.t 18) (.c (.int .i64 30)),.ak 2 (.t 19)]) .ret)))⟩
def NW:ay:=(.seq (.seq (.ops [.ah 53 (.t 17),.ah 54 (.t 2),.len 55 (.t 54),.bin 56 .lss (.t 53) (.t 55),.ah 57 (.t 56),.grd 57 true (.au 58 (.t 16) 9),.grd 57 true (.load 59 none (.t 58)),.pick 60 (.t 57) (.t 59) (.c (.bool false))]) (.cond (.t 60) .skip (.exit 0))) (.seq (.block 1 (.qm [] [([0,1,2,3,4],5)] (some ([],[],6,[])) [] [.load 63 (some 10) (.t 16),.ah 64 (.t 2),.ah 65 (.t 17),.bI 66 4 (.t 64) (.t 65),.load 67 (some 4) (.t 66),.call 68 134 [(.t 63),(.t 67)],.store none 10 (.t 16) (.t 68)])) (.ops [.ah 61 (.t 17),.bin 62 .add (.t 61) (.c (.int .i64 1)),.ak 17 (.t 62)])))
def NY:ay :=
(.clean [2,10,11,16,17] [6,7,8,9,10,11,16] (.block 0 (.loop [2,10,11,16,17] NW)))
def ad4:dH:=⟨3,90,[.tmp 6,.tmp 7,.tmp 8,.tmp 9],(.seq (.ops [.ak 6 (.nil 1),.ak 7 (.nil 1),.ak 8 (.nil 1),.ak 9 (.c (.bool false))]) (.seq (.ops [.ah 21 (.t 0),.conv 22 .i64 (.t 21),.bin 23 .rem (.t 22) (.c (.int .i64 16)),.bin 24 .add (.c (.int .i64 1)) (.t 23),.ah 25 (.t 1),.conv 26 .i64 (.t 25),.bin 27 .rem (.t 26) (.c (.int .i64 6)),.bin 28 .add (.c (.int .i64 1)) (.t 27),.ak 10 (.t 24),.ak 11 (.t 28)]) (.seq (.ops [.ah 30 (.t 10),.fE 31 1 [(.t 30)],.call 32 52 [(.t 31)],.ah 29 (.t 32),.ext 33 (.t 29) 0,.ext 34 (.t 29) 1,.ak 12 (.t 33),.ak 13 (.t 34)]) (.seq (.ops [.ah 36 (.t 10),.ah 37 (.t 11),.call 38 87 [(.t 36),(.t 37)],.ah 35 (.t 38),.ext 39 (.t 35) 0,.ext 40 (.t 35) 1,.alloc 14 [(.int .i64 0),(.int .i64 0),(.list 1 []),(.int .i64 0),(.list 1 [])],.store none 5 (.t 14) (.t 39),.ak 15 (.t 40)]) (.seq (.drs [] [2,10,11,16] [.XH 41 (.t 12),.XH 42 (.t 12),.load 43 (some 5) (.t 14),.load 44 (some 5) (.t 14),.call 45 90 [(.t 44)],.ah 46 (.t 13),.bin 47 .eql (.t 46) (.c (.int .i64 0)),.ah 48 (.t 47),.grd 48 true (.ah 49 (.t 15)),.grd 48 true (.bin 50 .eql (.t 49) (.c (.int .i64 0))),.pick 51 (.t 48) (.t 50) (.c (.bool false)),.build 52 [(.list 0 []),(.list 0 []),(.int .i64 0),(.int .i64 0),(.list 0 []),(.int .i64 0),(.list 0 []),(.list 0 []),(.list 5 []),(.bool false)] [(0,1,(.t 41)),(1,1,(.t 42)),(2,5,(.t 43)),(7,1,(.t 45)),(9,1,(.t 51))],.alloc 16 [(.list 0 []),(.list 0 []),(.int .i64 0),(.int .i64 0),(.list 0 []),(.int .i64 0),(.list 0 []),(.list 0 []),(.list 0 []),(.bool false)],.store none 10 (.t 16) (.t 52)]
    [⟨[([0,1,2,3,5,6],4),([7,8,9,10,11],12)],(some ([],[],13,[])),[],[0,1,2,3,5,6,4,7,8,9,10,11,12,13],false⟩,⟨[([0,1,2,3,5,6],12),([],4)],(some ([7,8,9,10,11],[],13,[])),[],[0,1,2,3,5,6,12,4,7,8,9,10,11,13],false⟩]) (.seq (.seq (.ops [.ak 17 (.c (.int .i64 0))])
    NY) (.seq (.ops [.ah 70 (.t 10),.ah 71 (.t 11),.au 72 (.t 16) 7,.load 73 none (.t 72),.call 74 89 [(.t 70),(.t 71),(.t 73)],.ah 69 (.t 74),.ext 75 (.t 69) 0,.ext 76 (.t 69) 1,.ext 77 (.t 69) 2,.alloc 18 [(.int .i64 0),(.int .i64 0),(.list 1 []),(.int .i64 0),(.list 1 [])],.store none 5 (.t 18) (.t 75),.ak 19 (.t 76),.ak 20 (.t 77)]) (.seq (.qm [] [([0,1,2,3,4,6,7,8,9,10,11,12,13],5)] none [14,15] [.au 78 (.t 16) 0,.load 79 none (.t 78),.au 80 (.t 16) 1,.load 81 none (.t 80),.ah 82 (.t 19),.au 84 (.t 16) 9,.load 85 none (.t 84),.ah 86 (.t 85),.grd 86 true (.ah 87 (.t 20)),.grd 86 true (.bin 88 .eql (.t 87) (.c (.int .i64 0))),.pick 89 (.t 86) (.t 88) (.c (.bool false)),.ak 6 (.t 79),.ak 7 (.t 81),.fE 83 1 [(.t 82)],.ak 8 (.t 83),.ak 9 (.t 89)]) .ret))))))))⟩
def WZ:dH:=⟨3,29,[.tmp 6,.tmp 7],(.seq (.ops [.box 5 (.t 2),.ak 6 (.nil 1),.ak 7 (.c (.int .i64 0))]) (.seq (.ops [.ah 12 (.t 0),.ah 13 (.t 1),.call 14 67 [(.t 12),(.t 13)],.ah 11 (.t 14),.ext 15 (.t 11) 0,.ext 16 (.t 11) 1,.ak 8 (.t 15),.ak 9 (.t 16)]) (.seq (.seq (.ops [.ah 17 (.t 9),.bin 18 .neq (.t 17) (.c (.int .i64 0))]) (.cond (.t 18) (.seq (.ops [.ah 19 (.t 9),.ak 6 (.nil 1),.ak 7 (.t 19)]) .ret) .skip)) (.seq (.seq (.ops [.ah 20 (.t 0),.load 21 none (.t 5),.call 22 131 [(.t 20),(.t 21)],.ak 10 (.t 22)]) (.seq (.ops [.ah 23 (.t 10),.bin 24 .neq (.t 23) (.c (.int .i64 0))]) (.cond (.t 24) (.seq (.ops [.ah 25 (.t 10),.ak 6 (.nil 1),.ak 7 (.t 25)]) .ret) .skip))) (.seq (.ops [.ah 26 (.t 8),.Jq 27 136 [(.t 5)],.call 28 135 [(.t 26),(.t 27)],.ak 6 (.t 28),.ak 7 (.c (.int .i64 0))]) .ret)))))⟩
def aaC:dH:=⟨3,34,[.tmp 6,.tmp 7],(.seq (.ops [.ak 6 (.c (.bool false)),.ak 7 (.c (.int .i64 0))]) (.seq (.seq (.ops [.ah 13 (.t 0),.ah 14 (.t 1),.ah 15 (.t 2),.call 16 46 [(.t 13),(.t 14),(.t 15)],.ah 12 (.t 16),.ext 17 (.t 12) 0,.ext 18 (.t 12) 1,.ak 8 (.t 17),.ak 9 (.t 18)]) (.seq (.ops [.ah 19 (.t 9),.bin 20 .neq (.t 19) (.c (.int .i64 0))]) (.cond (.t 20) (.seq (.ops [.ah 21 (.t 9),.ak 6 (.c (.bool false)),.ak 7 (.t 21)]) .ret) .skip))) (.seq (.ops [.ah 23 (.t 0),.ah 24 (.t 1),.call 25 67 [(.t 23),(.t 24)],.ah 22 (.t 25),.ext 26 (.t 22) 0,.ext 27 (.t 22) 1,.ak 10 (.t 26),.ak 11 (.t 27)]) (.seq (.seq (.ops [.ah 28 (.t 11),.bin 29 .neq (.t 28) (.c (.int .i64 0))]) (.cond (.t 29) (.seq (.ops [.ah 30 (.t 11),.ak 6 (.c (.bool false)),.ak 7 (.t 30)]) .ret) .skip)) (.seq (.ops [.ah 31 (.t 10),.ah 32 (.t 2),.call 33 138 [(.t 31),(.t 32),(.c (.func 139 []))],.ak 6 (.t 33),.ak 7 (.c (.int .i64 0))]) .ret)))))⟩
def NZ:ay:=(.seq (.ops [.bin 10 .lss (.t 9) (.t 8)]) (.seq (.cond (.t 10) .skip (.exit 0)) (.seq (.block 1 (.seq (.ops [.bI 11 1 (.t 7) (.t 9),.load 12 none (.t 11),.ak 5 (.t 12)]) (.ops [.ah 13 (.t 3),.ah 14 (.t 5),.bin 15 .add (.t 13) (.t 14),.ak 3 (.t 15)]))) (.ops [.bin 16 .add (.t 9) (.c (.int .i64 1)),.ah 9 (.t 16)]))))
def N7:ay :=
(.clean [3,7,8,9] [2,3] (.block 0 (.loop [3,7,8,9] NZ)))
def ad5:dH:=⟨1,18,[.tmp 2],(.seq (.ops [.ak 2 (.c (.int .i64 0))]) (.seq (.ops [.ak 3 (.c (.int .i64 0))]) (.seq (.seq (.ops [.ah 6 (.t 0),.call 7 141 [(.t 6),(.c (.func 142 []))],.len 8 (.t 7),.ah 9 (.c (.int .i64 0))])
   N7) (.seq (.ops [.ah 17 (.t 3),.ak 2 (.t 17)]) .ret))))⟩
def N8:ay:=(.seq (.seq (.ops [.ah 12 (.t 6),.ah 13 (.t 0),.len 14 (.t 13),.bin 15 .lss (.t 12) (.t 14)]) (.cond (.t 15) .skip (.exit 0))) (.seq (.block 1 (.ops [.ah 18 (.t 5),.ah 19 (.t 0),.ah 20 (.t 6),.bI 21 1 (.t 19) (.t 20),.load 22 none (.t 21),.make 23 (.agg [(.int .u8 0),(.int .u8 0),(.int .u8 0),(.int .u8 0),(.int .u8 0),(.int .u8 0),(.int .u8 0),(.int .u8 0)]) (.t 22) (.t 22),.fE 24 1 [(.t 23)],.app 25 1 (.t 18) (.t 24),.ak 5 (.t 25)])) (.ops [.ah 16 (.t 6),.bin 17 .add (.t 16) (.c (.int .i64 1)),.ak 6 (.t 17)])))
def N9:ay :=
(.clean [0,5,6,25] [2,3,5] (.block 0 (.loop [0,5,6,25] N8)))
def aaD:dH:=⟨1,27,[.tmp 2,.tmp 3],(.seq (.ops [.ak 2 (.nil 1),.ak 3 (.c (.int .i64 0))]) (.seq (.seq (.ops [.ah 7 (.t 0),.call 8 143 [(.t 7)],.ak 4 (.t 8)]) (.seq (.ops [.ah 9 (.t 4),.bin 10 .neq (.t 9) (.c (.int .i64 0))]) (.cond (.t 10) (.seq (.ops [.ah 11 (.t 4),.ak 2 (.nil 1),.ak 3 (.t 11)]) .ret) .skip))) (.seq (.ops [.ak 5 (.nil 1)]) (.seq (.seq (.ops [.ak 6 (.c (.int .i64 0))])
   N9) (.seq (.ops [.ah 26 (.t 5),.ak 2 (.t 26),.ak 3 (.c (.int .i64 0))]) .ret)))))⟩
def Oa:ay:=(.seq (.ops [.bin 18 .lss (.t 17) (.t 16)]) (.seq (.cond (.t 18) .skip (.exit 0)) (.seq (.block 1 (.seq (.ops [.ah 19 (.t 17),.ak 8 (.t 19)]) (.qm [] [([0,1,2,3,4,5,6,7,8],9),([],10)] (some ([],[],11,[])) [12] [.ah 20 (.t 7),.ah 21 (.t 0),.ah 22 (.t 8),.bI 23 1 (.t 21) (.t 22),.load 24 none (.t 23),.ah 25 (.t 1),.ah 26 (.t 8),.bI 27 1 (.t 25) (.t 26),.load 28 none (.t 27),.call 29 159 [(.t 24),(.t 28)],.fE 30 1 [(.t 29)],.app 31 1 (.t 20) (.t 30),.ak 7 (.t 31)]))) (.ops [.bin 32 .add (.t 17) (.c (.int .i64 1)),.ah 17 (.t 32)]))))
def Ob:ay :=
(.clean [0,1,7,16,17,31] [4,5,7] (.block 0 (.loop [0,1,7,16,17,31] Oa)))
def aaE:dH:=⟨2,34,[.tmp 4,.tmp 5],(.seq (.ops [.ak 4 (.nil 1),.ak 5 (.c (.int .i64 0))]) (.seq (.seq (.ops [.ah 9 (.t 0),.ah 10 (.t 1),.call 11 158 [(.t 9),(.t 10)],.ak 6 (.t 11)]) (.seq (.ops [.ah 12 (.t 6),.bin 13 .neq (.t 12) (.c (.int .i64 0))]) (.cond (.t 13) (.seq (.ops [.ah 14 (.t 6),.ak 4 (.nil 1),.ak 5 (.t 14)]) .ret) .skip))) (.seq (.ops [.ak 7 (.nil 1)]) (.seq (.seq (.ops [.ah 15 (.t 0),.len 16 (.t 15),.ah 17 (.c (.int .i64 0))])
   Ob) (.seq (.ops [.ah 33 (.t 7),.ak 4 (.t 33),.ak 5 (.c (.int .i64 0))]) .ret)))))⟩
def ad6:dH:=⟨1,6,[.tmp 2],(.seq (.ops [.ak 2 (.c (.int .i64 0))]) (.seq (.ops [.ah 3 (.t 0),.call 4 166 [(.t 3)],.call 5 165 [(.t 4)],.ak 2 (.t 5)]) .ret))⟩
def Oc:ay:=(.seq (.seq (.ops [.ah 11 (.t 5),.ah 12 (.t 0),.len 13 (.t 12),.bin 14 .lss (.t 11) (.t 13)]) (.cond (.t 14) .skip (.exit 0))) (.seq (.block 1 (.seq (.qm [] [] none [0,1,2,3,4,5,6,7,8] [.ah 17 (.t 0),.ah 18 (.t 5),.bI 19 8 (.t 17) (.t 18),.load 20 (some 8) (.t 19),.ah 21 (.t 1),.ah 22 (.t 5),.bI 23 8 (.t 21) (.t 22),.load 24 (some 8) (.t 23),.UY 25 true 8 (.t 20) (.t 24)]) (.cond (.t 25) (.seq (.ops [.ak 4 (.c (.bool false))]) .ret) .skip))) (.ops [.ah 15 (.t 5),.bin 16 .add (.t 15) (.c (.int .i64 1)),.ak 5 (.t 16)])))
def Oe:ay :=
(.clean [0,1,5] [4] (.block 0 (.loop [0,1,5] Oc)))
def ad7:dH:=⟨2,26,[.tmp 4],(.seq (.ops [.ak 4 (.c (.bool false))]) (.seq (.seq (.ops [.ah 6 (.t 0),.len 7 (.t 6),.ah 8 (.t 1),.len 9 (.t 8),.bin 10 .neq (.t 7) (.t 9)]) (.cond (.t 10) (.seq (.ops [.ak 4 (.c (.bool false))]) .ret) .skip)) (.seq (.seq (.ops [.ak 5 (.c (.int .i64 0))])
   Oe) (.seq (.ops [.ak 4 (.c (.bool true))]) .ret))))⟩
def aaF:dH:=⟨2,29,[.cell 4 (some 5),.tmp 5],(.seq (.ops [.alloc 4 [(.int .i64 0),(.int .i64 0),(.list 1 []),(.int .i64 0),(.list 1 [])],.ak 5 (.c (.int .i64 0))]) (.seq (.seq (.ops [.ah 9 (.t 0),.ah 10 (.t 1),.call 11 172 [(.t 9),(.t 10)],.un 12 .not (.t 11)]) (.cond (.t 12) (.seq (.ops [.build 13 [(.int .i64 0),(.int .i64 0),(.list 1 []),(.int .i64 0),(.list 1 [])] [],.store none 5 (.t 4) (.t 13),.ak 5 (.c (.int .i64 2))]) .ret) .skip)) (.seq (.ops [.ah 14 (.t 0),.ah 15 (.t 1),.call 16 173 [(.t 14),(.t 15)],.ak 6 (.t 16)]) (.seq (.ops [.ah 18 (.t 6),.call 19 169 [(.t 18)],.ah 17 (.t 19),.ext 20 (.t 17) 0,.ext 21 (.t 17) 1,.alloc 7 [(.int .i64 0),(.list 1 [])],.store none 2 (.t 7) (.t 20),.ak 8 (.t 21)]) (.seq (.qm [] [([0,1,2,4,6],3)] (some ([5],[],7,[])) [8] [.ah 22 (.t 0),.ah 23 (.t 1),.ah 24 (.t 6),.load 26 (some 2) (.t 7),.ah 28 (.t 8),.make 25 (.int .i64 0) (.t 24) (.t 24),.build 27 [(.int .i64 0),(.int .i64 0),(.list 1 []),(.int .i64 0),(.list 1 [])] [(0,1,(.t 22)),(1,1,(.t 23)),(2,1,(.t 25)),(3,2,(.t 26))],.store none 5 (.t 4) (.t 27),.ak 5 (.t 28)]) .ret)))))⟩
def Og:ay:=(.ops [.ak 11 (.t 25)])
def Oh:ay:=(.block 1 (.ops [.load 26 none (.t 10),.ah 27 (.t 26),.grd 27 false (.au 28 (.t 2) 3),.grd 27 false (.load 29 (some 2) (.t 28)),.grd 27 false (.ah 30 (.t 11)),.grd 27 false (.call 31 177 [(.t 29),(.t 30)]),.grd 27 false (.un 32 .not (.t 31)),.pick 33 (.t 27) (.c (.bool true)) (.t 32),.store none 1 (.t 10) (.t 33)]))
def aaG:dH:=⟨2,45,[.cell 4 (some 5),.tmp 5,.tmp 6],(.seq (.ops [.box 2 (.t 0),.box 3 (.t 1),.alloc 4 [(.int .i64 0),(.int .i64 0),(.list 1 []),(.int .i64 0),(.list 1 [])],.ak 5 (.c (.bool false)),.ak 6 (.c (.int .i64 0))]) (.seq (.ops [.load 13 (some 5) (.t 2),.load 14 (some 2) (.t 3),.call 15 174 [(.t 13),(.t 14),(.c (.func 175 []))],.ah 12 (.t 15),.ext 16 (.t 12) 0,.ext 17 (.t 12) 1,.ext 18 (.t 12) 2,.alloc 7 [(.int .i64 0),(.int .i64 0),(.list 1 []),(.int .i64 0),(.list 1 [])],.alloc 8 [(.int .i64 0),(.int .i64 0)],.store none 5 (.t 7) (.t 16),.store none 2 (.t 8) (.t 17),.ak 9 (.t 18)]) (.seq (.seq (.ops [.ah 19 (.t 9),.bin 20 .neq (.t 19) (.c (.int .i64 0))]) (.cond (.t 20) (.seq (.ops [.build 21 [(.int .i64 0),(.int .i64 0),(.list 1 []),(.int .i64 0),(.list 1 [])] [],.ah 22 (.t 9),.store none 5 (.t 4) (.t 21),.ak 5 (.c (.bool false)),.ak 6 (.t 22)]) .ret) .skip)) (.seq (.ops [.alloc 10 [(.bool false)],.store none 1 (.t 10) (.c (.bool false))]) (.seq (.seq (.ops [.load 23 (some 2) (.t 8),.call 24 176 [(.t 23)]]) (.block 0 (.rng (.t 24) [25] Og Oh))) (.seq (.ops [.au 35 (.t 2) 3,.load 36 (some 2) (.t 35),.load 37 (some 2) (.t 8),.call 38 170 [(.t 36),(.t 37)],.ah 34 (.t 38),.ext 39 (.t 34) 0,.ext 40 (.t 34) 1,.au 41 (.t 7) 3,.store none 2 (.t 41) (.t 39),.ak 9 (.t 40)]) (.seq (.qm [(.t 10)] [] (some ([0],[1,2],3,[])) [4,5] [.load 42 (some 5) (.t 7),.Ph 43 none (.t 10),.ah 44 (.t 9),.store none 5 (.t 4) (.t 42),.ak 5 (.t 43),.ak 6 (.t 44)]) .ret)))))))⟩
def Oi:ay:=(.seq (.ops [.bin 92 .lss (.t 91) (.t 90)]) (.seq (.cond (.t 92) .skip (.exit 1)) (.seq (.block 2 (.seq (.ops [.bI 93 2 (.t 89) (.t 91),.load 94 (some 2) (.t 93),.alloc 16 [(.int .i64 0),(.int .i64 0)],.store none 2 (.t 16) (.t 94)]) (.seq (.ops [.au 95 (.t 16) 0,.load 96 none (.t 95),.ah 97 (.t 1),.bin 98 .mul (.t 96) (.t 97),.ak 17 (.t 98)]) (.ops [.ah 99 (.t 14),.ah 100 (.t 17),.au 101 (.t 16) 0,.load 102 none (.t 101),.au 103 (.t 16) 1,.load 104 none (.t 103),.bin 105 .add (.t 102) (.t 104),.ah 106 (.t 1),.bin 107 .mul (.t 105) (.t 106),.ah 108 (.t 0),.mn 109 false (.t 107) (.t 108),.ah 110 (.t 17),.bin 111 .sub (.t 109) (.t 110),.build 112 [(.int .i64 0),(.int .i64 0)] [(0,1,(.t 100)),(1,1,(.t 111))],.fE 113 2 [(.t 112)],.app 114 2 (.t 99) (.t 113),.ak 14 (.t 114)])))) (.ops [.bin 115 .add (.t 91) (.c (.int .i64 1)),.ah 91 (.t 115)]))))
def Oj:ay :=
(.clean [0,1,6,9,10,13,14,51,89,90,91,114] [6,7,8,9,10,14] (.block 1 (.loop [0,1,6,9,10,13,14,51,89,90,91,114] Oi)))
def Dj:dH:=⟨3,120,[.cell 6 (some 5),.tmp 7,.tmp 8],(.seq (.ops [.alloc 6 [(.int .i64 0),(.int .i64 0),(.list 1 []),(.int .i64 0),(.list 1 [])],.ak 7 (.nil 2),.ak 8 (.c (.int .i64 0))]) (.seq (.ops [.ah 19 (.t 0),.ah 20 (.t 1),.call 21 87 [(.t 19),(.t 20)],.ah 18 (.t 21),.ext 22 (.t 18) 0,.ext 23 (.t 18) 1,.alloc 9 [(.int .i64 0),(.int .i64 0),(.list 1 []),(.int .i64 0),(.list 1 [])],.store none 5 (.t 9) (.t 22),.ak 10 (.t 23)]) (.seq (.seq (.ops [.ah 24 (.t 10),.bin 25 .neq (.t 24) (.c (.int .i64 0))]) (.cond (.t 25) (.seq (.ops [.build 26 [(.int .i64 0),(.int .i64 0),(.list 1 []),(.int .i64 0),(.list 1 [])] [],.ah 27 (.t 10),.store none 5 (.t 6) (.t 26),.ak 7 (.nil 2),.ak 8 (.t 27)]) .ret) .skip)) (.seq (.ops [.ah 29 (.t 2),.call 30 178 [(.t 29)],.ah 28 (.t 30),.ext 31 (.t 28) 0,.ext 32 (.t 28) 1,.ext 33 (.t 28) 2,.ak 11 (.t 31),.ak 2 (.t 32),.ak 10 (.t 33)]) (.seq (.seq (.ops [.ah 34 (.t 10),.bin 35 .neq (.t 34) (.c (.int .i64 0))]) (.cond (.t 35) (.seq (.ops [.build 36 [(.int .i64 0),(.int .i64 0),(.list 1 []),(.int .i64 0),(.list 1 [])] [],.ah 37 (.t 10),.store none 5 (.t 6) (.t 36),.ak 7 (.nil 2),.ak 8 (.t 37)]) .ret) .skip)) (.seq (.ops [.ah 39 (.t 2),.call 40 178 [(.t 39)],.ah 38 (.t 40),.ext 41 (.t 38) 0,.ext 42 (.t 38) 1,.ext 43 (.t 38) 2,.ak 12 (.t 41),.ak 2 (.t 42),.ak 10 (.t 43)]) (.seq (.seq (.ops [.ah 44 (.t 10),.bin 45 .neq (.t 44) (.c (.int .i64 0))]) (.cond (.t 45) (.seq (.ops [.build 46 [(.int .i64 0),(.int .i64 0),(.list 1 []),(.int .i64 0),(.list 1 [])] [],.ah 47 (.t 10),.store none 5 (.t 6) (.t 46),.ak 7 (.nil 2),.ak 8 (.t 47)]) .ret) .skip)) (.seq (.ops [.ah 49 (.t 2),.call 50 179 [(.t 49)],.ah 48 (.t 50),.ext 51 (.t 48) 0,.ext 52 (.t 48) 1,.ext 53 (.t 48) 2,.ak 13 (.t 51),.ak 2 (.t 52),.ak 10 (.t 53)]) (.seq (.block 0 (.seq (.ops [.ah 55 (.t 10),.bin 56 .neq (.t 55) (.c (.int .i64 0)),.ak 54 (.t 56)]) (.cond (.t 54) (.seq (.ops [.build 57 [(.int .i64 0),(.int .i64 0),(.list 1 []),(.int .i64 0),(.list 1 [])] [],.ah 58 (.t 10),.store none 5 (.t 6) (.t 57),.ak 7 (.nil 2),.ak 8 (.t 58)]) .ret) (.seq (.ops [.ah 60 (.t 2),.len 61 (.t 60),.bin 62 .gtr (.t 61) (.c (.int .i64 0)),.ak 59 (.t 62)]) (.cond (.t 59) (.seq (.ops [.build 63 [(.int .i64 0),(.int .i64 0),(.list 1 []),(.int .i64 0),(.list 1 [])] [],.store none 5 (.t 6) (.t 63),.ak 7 (.nil 2),.ak 8 (.c (.int .i64 3))]) .ret) (.seq (.seq (.ops [.ah 65 (.t 11),.ah 66 (.t 0),.bin 67 .neq (.t 65) (.t 66),.ak 64 (.t 67)]) (.cond (.t 64) .skip (.ops [.ah 68 (.t 12),.ah 69 (.t 1),.bin 70 .neq (.t 68) (.t 69),.ak 64 (.t 70)]))) (.cond (.t 64) (.seq (.ops [.build 71 [(.int .i64 0),(.int .i64 0),(.list 1 []),(.int .i64 0),(.list 1 [])] [],.store none 5 (.t 6) (.t 71),.ak 7 (.nil 2),.ak 8 (.c (.int .i64 22))]) .ret) (.seq (.ops [.ah 73 (.t 13),.au 74 (.t 9) 2,.load 75 none (.t 74),.len 76 (.t 75),.call 77 106 [(.t 73),(.t 76)],.bin 78 .neq (.t 77) (.c (.int .i64 0)),.ak 72 (.t 78)]) (.cond (.t 72) (.seq (.ops [.build 79 [(.int .i64 0),(.int .i64 0),(.list 1 []),(.int .i64 0),(.list 1 [])] [],.store none 5 (.t 6) (.t 79),.ak 7 (.nil 2),.ak 8 (.c (.int .i64 3))]) .ret) .skip))))))))) (.seq (.ops [.au 81 (.t 9) 2,.load 82 none (.t 81),.len 83 (.t 82),.ah 84 (.t 13),.call 85 116 [(.t 83),(.t 84)],.ah 80 (.t 85),.ext 86 (.t 80) 0,.ext 87 (.t 80) 1,.au 88 (.t 9) 3,.store none 2 (.t 88) (.t 86),.ak 10 (.t 87)]) (.seq (.ops [.ak 14 (.nil 2)]) (.seq (.seq (.ops [.ah 89 (.t 13),.len 90 (.t 89),.ah 91 (.c (.int .i64 0))])
       Oj) (.seq (.qm [] [([0,1,3],2)] (some ([],[],4,[])) [5,6] [.load 116 (some 5) (.t 9),.ah 117 (.t 14),.ah 119 (.t 10),.call 118 180 [(.t 117),(.nil 2)],.store none 5 (.t 6) (.t 116),.ak 7 (.t 118),.ak 8 (.t 119)]) .ret)))))))))))))⟩
def aaH:dH:=⟨1,18,[.tmp 2],(.seq (.ops [.box 1 (.t 0),.ak 2 (.nil 1)]) (.seq (.seq (.ops [.load 4 (some 5) (.t 1),.call 5 181 [(.t 4)],.bin 6 .neq (.t 5) (.c (.int .i64 0))]) (.cond (.t 6) (.seq (.ops [.ak 2 (.nil 1)]) .ret) .skip)) (.seq (.qm [] [([0,1,3,4],2),([],5)] none [6] [.au 7 (.t 1) 0,.load 8 none (.t 7),.au 10 (.t 1) 1,.load 11 none (.t 10),.call 9 182 [(.nil 1),(.t 8)],.call 12 182 [(.t 9),(.t 11)],.ak 3 (.t 12)]) (.seq (.ops [.ah 13 (.t 3),.au 14 (.t 1) 3,.load 15 (some 2) (.t 14),.call 16 154 [(.t 15)],.call 17 183 [(.t 13),(.t 16)],.ak 2 (.t 17)]) .ret))))⟩
def amC:dH:=⟨2,19,[.tmp 4],(.seq (.ops [.ak 4 (.c (.int .i64 0))]) (.seq (.block 0 (.seq (.ops [.ah 6 (.t 0),.bin 7 .lss (.t 6) (.c (.int .i64 1)),.ah 8 (.t 7),.grd 8 false (.ah 9 (.t 0)),.grd 8 false (.bin 10 .gtr (.t 9) (.c (.int .i64 4096))),.pick 11 (.t 8) (.c (.bool true)) (.t 10),.ak 5 (.t 11)]) (.cond (.t 5) (.seq (.ops [.ak 4 (.c (.int .i64 2))]) .ret) (.seq (.ops [.ah 13 (.t 1),.bin 14 .lss (.t 13) (.c (.int .i64 1)),.ah 15 (.t 14),.grd 15 false (.ah 16 (.t 1)),.grd 15 false (.bin 17 .gtr (.t 16) (.c (.int .i64 4096))),.pick 18 (.t 15) (.c (.bool true)) (.t 17),.ak 12 (.t 18)]) (.cond (.t 12) (.seq (.ops [.ak 4 (.c (.int .i64 1))]) .ret) .skip))))) (.seq (.ops [.ak 4 (.c (.int .i64 0))]) .ret)))⟩
def amD:dH:=⟨2,9,[.tmp 4],(.seq (.ops [.box 2 (.t 0),.box 3 (.t 1),.ak 4 (.c .pR)]) (.seq (.seq (.ops [.load 5 none (.t 3),.bin 6 .lss (.t 5) (.c (.int .i64 1))]) (.cond (.t 6) (.drs [] [] []
   []) .skip)) (.seq (.ops [.Jq 8 184 [(.t 2),(.t 3)],.ak 4 (.t 8)]) .ret)))⟩
def amE:dH:=⟨1,5,[.tmp 2],(.seq (.ops [.box 1 (.t 0),.ak 2 (.c (.int .u64 0))]) (.seq (.ops [.Jq 3 186 [(.t 1)],.call 4 185 [(.t 3)],.ak 2 (.t 4)]) .ret))⟩
def ajv:ay:=(.block 1 (.seq (.ops [.au 11 (.t 7) 2,.load 12 none (.t 11),.ah 13 (.t 2),.fE 14 1 [(.t 13)],.app 15 1 (.t 12) (.t 14),.au 16 (.t 7) 2,.store none 1 (.t 16) (.t 15)]) (.seq (.seq (.ops [.ah 17 (.t 2),.len 18 (.t 17),.bin 19 .eql (.t 18) (.c (.int .i64 1))]) (.cond (.t 19) (.exit 0) .skip)) (.ops [.ah 20 (.t 2),.call 21 187 [(.t 20),(.c (.func 188 []))],.ak 2 (.t 21)]))))
def ajw:ay :=
(.clean [2,6,7,21] [6,7] (.block 0 (.loop [2,6,7,21] ajv)))
def amF:dH:=⟨3,23,[.cell 6 (some 3)],(.seq (.ops [.alloc 6 [(.int .i64 0),(.int .i64 0),(.list 0 [])]]) (.scp (.seq (.ops [.ah 8 (.t 0),.ah 9 (.t 1),.build 10 [(.int .i64 0),(.int .i64 0),(.lV 1)] [(0,1,(.t 8)),(1,1,(.t 9))],.alloc 7 [(.int .i64 0),(.int .i64 0),(.list 0 [])],.stw 3 (.t 7) (.t 10)]) (.seq .skip (.seq
   ajw (.seq (.ops [.load 22 (some 3) (.t 7),.store none 3 (.t 6) (.t 22)]) .ret))))))⟩
def ajx:ay:=(.seq (.ops [.bin 25 .lss (.t 24) (.t 23)]) (.seq (.cond (.t 25) .skip (.exit 0)) (.seq (.block 1 (.seq (.ops [.ah 26 (.t 24),.bI 27 1 (.t 22) (.t 24),.load 28 none (.t 27),.ak 5 (.t 26),.ak 6 (.t 28)]) (.seq (.seq (.ops [.ah 29 (.t 6),.len 30 (.t 29),.ah 31 (.t 4),.bin 32 .neq (.t 30) (.t 31),.ah 33 (.t 32),.grd 33 false (.ah 34 (.t 4)),.grd 33 false (.bin 35 .eql (.t 34) (.c (.int .i64 1))),.grd 33 false (.ah 36 (.t 35)),.grd 36 true (.ah 37 (.t 5)),.grd 36 true (.bin 38 .add (.t 37) (.c (.int .i64 1))),.grd 36 true (.au 39 (.t 1) 2),.grd 36 true (.load 40 none (.t 39)),.grd 36 true (.len 41 (.t 40)),.grd 36 true (.bin 42 .lss (.t 38) (.t 41)),.grd 33 false (.pick 43 (.t 36) (.t 42) (.c (.bool false))),.pick 44 (.t 33) (.c (.bool true)) (.t 43)]) (.cond (.t 44) (.seq (.ops [.ak 2 (.c (.int .i64 3))]) .ret) .skip)) (.seq (.seq (.ops [.ah 45 (.t 4),.bin 46 .eql (.t 45) (.c (.int .i64 1))]) (.cond (.t 46) (.ops [.ak 4 (.c (.int .i64 0))]) .skip)) (.ops [.ah 47 (.t 4),.bin 48 .add (.t 47) (.c (.int .i64 1)),.bin 49 .quo (.t 48) (.c (.int .i64 2)),.ak 4 (.t 49)]))))) (.ops [.bin 50 .add (.t 24) (.c (.int .i64 1)),.ah 24 (.t 50)]))))
def ajy:ay :=
(.clean [1,4,22,23,24] [1,2,4] (.block 0 (.loop [1,4,22,23,24] ajx)))
def amG:dH:=⟨1,68,[.tmp 2],(.seq (.ops [.box 1 (.t 0),.ak 2 (.c (.int .i64 0))]) (.seq (.seq (.ops [.au 8 (.t 1) 0,.load 9 none (.t 8),.au 10 (.t 1) 1,.load 11 none (.t 10),.call 12 91 [(.t 9),(.t 11)],.ak 3 (.t 12)]) (.seq (.ops [.ah 13 (.t 3),.bin 14 .neq (.t 13) (.c (.int .i64 0))]) (.cond (.t 14) (.seq (.ops [.ah 15 (.t 3),.ak 2 (.t 15)]) .ret) .skip))) (.seq (.ops [.au 16 (.t 1) 0,.load 17 none (.t 16),.au 18 (.t 1) 1,.load 19 none (.t 18),.call 20 189 [(.t 17),(.t 19)],.ak 4 (.t 20)]) (.seq (.seq (.ops [.au 21 (.t 1) 2,.load 22 none (.t 21),.len 23 (.t 22),.ah 24 (.c (.int .i64 0))])
   ajy) (.seq (.seq (.ops [.ah 51 (.t 4),.bin 52 .neq (.t 51) (.c (.int .i64 0))]) (.cond (.t 52) (.seq (.ops [.ak 2 (.c (.int .i64 3))]) .ret) .skip)) (.seq (.drs [] [1,7] [.au 53 (.t 1) 0,.load 54 none (.t 53),.au 55 (.t 1) 1,.load 56 none (.t 55),.au 57 (.t 1) 2,.load 58 none (.t 57),.bI 59 1 (.t 58) (.c (.int .i64 0)),.load 60 none (.t 59),.call 61 94 [(.t 54),(.t 56),(.t 60)],.alloc 7 [(.int .i64 0),(.int .i64 0),(.list 0 [])],.store none 3 (.t 7) (.t 61)]
    [⟨[([0,1,2,3,4,5,6,7],8),([],9)],(some ([],[],10,[])),[],[0,1,2,3,4,5,6,7,8,9,10],false⟩,⟨[([0,1,2,3,4,5,6,7],9),([],8)],(some ([],[],10,[])),[],[0,1,2,3,4,5,6,7,9,8,10],false⟩]) (.seq (.seq (.ops [.au 62 (.t 7) 2,.load 63 none (.t 62),.au 64 (.t 1) 2,.load 65 none (.t 64),.call 66 190 [(.t 63),(.t 65),(.c (.func 191 []))],.un 67 .not (.t 66)]) (.cond (.t 67) (.seq (.ops [.ak 2 (.c (.int .i64 22))]) .ret) .skip)) (.seq (.ops [.ak 2 (.c (.int .i64 0))]) .ret))))))))⟩
def ajz:ay:=(.seq (.ops [.bin 14 .lss (.t 13) (.t 12)]) (.seq (.cond (.t 14) .skip (.exit 0)) (.seq (.block 1 (.seq (.ops [.bI 15 1 (.t 11) (.t 13),.load 16 none (.t 15),.ak 5 (.t 16)]) (.ops [.ah 17 (.t 3),.ah 18 (.t 5),.call 19 120 [(.t 18)],.fE 20 1 [(.t 19)],.app 21 1 (.t 17) (.t 20),.ak 3 (.t 21)]))) (.ops [.bin 22 .add (.t 13) (.c (.int .i64 1)),.ah 13 (.t 22)]))))
def ajA:ay :=
(.clean [1,2,3,9,11,12,13,21] [1,2,3] (.block 0 (.loop [1,2,3,9,11,12,13,21] ajz)))
def amH:dH:=⟨1,26,[.cell 2 (some 3)],(.seq (.ops [.box 1 (.t 0),.alloc 2 [(.int .i64 0),(.int .i64 0),(.list 0 [])]]) (.seq (.ops [.au 6 (.t 1) 2,.load 7 none (.t 6),.len 8 (.t 7),.make 9 (.list 0 []) (.c (.int .i64 0)) (.t 8),.ak 3 (.t 9)]) (.seq (.seq (.ops [.au 10 (.t 1) 2,.load 11 none (.t 10),.len 12 (.t 11),.ah 13 (.c (.int .i64 0))])
   ajA) (.seq (.ops [.ah 23 (.t 3),.au 24 (.t 1) 2,.store none 1 (.t 24) (.t 23)]) (.seq (.ops [.load 25 (some 3) (.t 1),.store none 3 (.t 2) (.t 25)]) .ret)))))⟩
def ajB:ay:=(.seq (.ops [.bin 26 .lss (.t 25) (.t 24)]) (.seq (.cond (.t 26) .skip (.exit 0)) (.seq (.block 1 (.seq (.ops [.bI 27 2 (.t 23) (.t 25),.load 28 (some 2) (.t 27),.alloc 5 [(.int .i64 0),(.int .i64 0)],.store none 2 (.t 5) (.t 28)]) (.ops [.ah 29 (.t 3),.au 30 (.t 5) 0,.load 31 none (.t 30),.au 32 (.t 5) 1,.load 33 none (.t 32),.fE 34 1 [(.t 31),(.t 33)],.app 35 1 (.t 29) (.t 34),.ak 3 (.t 35)]))) (.ops [.bin 36 .add (.t 25) (.c (.int .i64 1)),.ah 25 (.t 36)]))))
def ajC:ay :=
(.clean [0,2,3,18,23,24,25,35] [0,2,3] (.block 0 (.loop [0,2,3,18,23,24,25,35] ajB)))
def amI:dH:=⟨1,44,[.cell 2 (some 8)],(.seq (.ops [.alloc 2 [(.int .i64 0),(.int .i64 0),(.int .i64 0),(.int .i64 0),(.int .i64 0),(.int .i64 0),(.list 0 []),(.list 0 [])]]) (.seq (.drs [] [0,2,3,18,35] [.ah 6 (.t 0),.au 7 (.t 6) 0,.au 8 (.t 7) 0,.au 9 (.t 8) 0,.au 10 (.t 9) 0,.load 11 none (.t 10),.ah 12 (.t 0),.au 13 (.t 12) 0,.au 14 (.t 13) 0,.au 15 (.t 14) 0,.au 16 (.t 15) 1,.load 17 none (.t 16),.fE 18 1 [(.t 11),(.t 17)],.ak 3 (.t 18)]
  [⟨[([0,6],1),([2,3,4,5],7),([8,9,10,11],12)],none,[13],[0,6,1,2,3,4,5,7,8,9,10,11,12,13],false⟩,⟨[([0,6],7),([8,9,10,11],1),([2,3,4,5],12)],none,[13],[0,6,7,8,9,10,11,1,2,3,4,5,12,13],false⟩]) (.seq (.seq (.ops [.ah 19 (.t 0),.au 20 (.t 19) 0,.au 21 (.t 20) 0,.au 22 (.t 21) 3,.load 23 none (.t 22),.len 24 (.t 23),.ah 25 (.c (.int .i64 0))])
   ajC) (.seq (.ops [.ah 37 (.t 0),.au 38 (.t 37) 0,.au 39 (.t 38) 0,.au 40 (.t 39) 4,.load 41 none (.t 40),.ah 42 (.t 3),.build 43 [(.int .i64 0),(.int .i64 0),(.int .i64 0),(.int .i64 0),(.int .i64 0),(.int .i64 0),(.list 0 []),(.list 1 [])] [(0,1,(.c (.int .i64 13))),(3,1,(.t 41)),(6,1,(.t 42))],.store none 8 (.t 2) (.t 43)]) .ret))))⟩
def amJ:dH:=⟨1,83,[.tmp 2],(.seq (.ops [.box 1 (.t 0),.ak 2 (.c (.int .i64 0))]) (.seq (.seq (.ops [.au 5 (.t 1) 0,.load 6 (some 3) (.t 5),.call 7 95 [(.t 6)],.ak 3 (.t 7)]) (.seq (.ops [.ah 8 (.t 3),.bin 9 .neq (.t 8) (.c (.int .i64 0))]) (.cond (.t 9) (.seq (.ops [.ah 10 (.t 3),.ak 2 (.t 10)]) .ret) .skip))) (.seq (.seq (.ops [.au 11 (.t 1) 4,.load 12 none (.t 11),.bin 13 .lss (.t 12) (.c (.int .i64 0)),.ah 14 (.t 13),.grd 14 false (.au 15 (.t 1) 4),.grd 14 false (.load 16 none (.t 15)),.grd 14 false (.au 17 (.t 1) 0),.grd 14 false (.au 18 (.t 17) 2),.grd 14 false (.load 19 none (.t 18)),.grd 14 false (.len 20 (.t 19)),.grd 14 false (.bin 21 .geq (.t 16) (.t 20)),.pick 22 (.t 14) (.c (.bool true)) (.t 21),.ah 23 (.t 22),.grd 23 false (.au 24 (.t 1) 7),.grd 23 false (.load 25 none (.t 24)),.grd 23 false (.ah 26 (.t 25)),.grd 26 true (.au 27 (.t 1) 4),.grd 26 true (.load 28 none (.t 27)),.grd 26 true (.bin 29 .neq (.t 28) (.c (.int .i64 0))),.grd 23 false (.pick 30 (.t 26) (.t 29) (.c (.bool false))),.pick 31 (.t 23) (.c (.bool true)) (.t 30),.ah 32 (.t 31),.grd 32 false (.au 33 (.t 1) 6),.grd 32 false (.load 34 none (.t 33)),.grd 32 false (.bin 35 .lss (.t 34) (.c (.int .i64 0))),.pick 36 (.t 32) (.c (.bool true)) (.t 35),.ah 37 (.t 36),.grd 37 false (.au 38 (.t 1) 6),.grd 37 false (.load 39 none (.t 38)),.grd 37 false (.bin 40 .gtr (.t 39) (.c (.int .i64 8192))),.pick 41 (.t 37) (.c (.bool true)) (.t 40)]) (.cond (.t 41) (.seq (.ops [.ak 2 (.c (.int .i64 2))]) .ret) .skip)) (.seq (.ops [.ak 4 (.c (.bool false))]) (.seq (.seq (.ops [.au 42 (.t 1) 7,.load 43 none (.t 42)]) (.cond (.t 43) (.ops [.au 44 (.t 1) 3,.load 45 none (.t 44),.len 46 (.t 45),.bin 47 .eql (.t 46) (.c (.int .i64 0)),.ah 48 (.t 47),.grd 48 true (.au 49 (.t 1) 5),.grd 48 true (.load 50 none (.t 49)),.grd 48 true (.au 51 (.t 1) 0),.grd 48 true (.au 52 (.t 51) 0),.grd 48 true (.load 53 none (.t 52)),.grd 48 true (.call 54 106 [(.t 50),(.t 53)]),.grd 48 true (.bin 55 .eql (.t 54) (.c (.int .i64 0))),.pick 56 (.t 48) (.t 55) (.c (.bool false)),.ak 4 (.t 56)]) (.qm [] [([0,1,2,3,4,5,6,7,8,9,10,11,12,13,14,15,16,17,18,19,20],21)] none [22,23,24] [.au 57 (.t 1) 3,.load 58 none (.t 57),.len 59 (.t 58),.bin 60 .gtr (.t 59) (.c (.int .i64 0)),.ah 61 (.t 60),.grd 61 true (.au 62 (.t 1) 5),.grd 61 true (.load 63 none (.t 62)),.grd 61 true (.len 64 (.t 63)),.grd 61 true (.bin 65 .eql (.t 64) (.c (.int .i64 0))),.pick 66 (.t 61) (.t 65) (.c (.bool false)),.ah 67 (.t 66),.grd 67 true (.au 68 (.t 1) 3),.grd 67 true (.load 69 none (.t 68)),.grd 67 true (.au 70 (.t 1) 0),.grd 67 true (.au 71 (.t 70) 2),.grd 67 true (.load 72 none (.t 71)),.grd 67 true (.au 73 (.t 1) 4),.grd 67 true (.load 74 none (.t 73)),.grd 67 true (.bI 75 1 (.t 72) (.t 74)),.grd 67 true (.load 76 none (.t 75)),.grd 67 true (.len 77 (.t 76)),.grd 67 true (.call 78 106 [(.t 69),(.t 77)]),.grd 67 true (.bin 79 .eql (.t 78) (.c (.int .i64 0))),.pick 80 (.t 67) (.t 79) (.c (.bool false)),.ak 4 (.t 80)]))) (.seq (.seq (.ops [.ah 81 (.t 4),.un 82 .not (.t 81)]) (.cond (.t 82) (.seq (.ops [.ak 2 (.c (.int .i64 3))]) .ret) .skip)) (.seq (.ops [.ak 2 (.c (.int .i64 0))]) .ret)))))))⟩
def Ol:ay:=(.seq (.ops [.bin 14 .lss (.t 13) (.t 12)]) (.seq (.cond (.t 14) .skip (.exit 0)) (.seq (.block 1 (.seq (.ops [.ah 15 (.t 13),.ak 5 (.t 15)]) (.seq (.qm [] [] none [0,1,2,3,4,5,6,7,8] [.ah 16 (.t 0),.ah 17 (.t 5),.bI 18 1 (.t 16) (.t 17),.load 19 none (.t 18),.ah 20 (.t 1),.ah 21 (.t 5),.bI 22 1 (.t 20) (.t 21),.load 23 none (.t 22),.bin 24 .neq (.t 19) (.t 23)]) (.cond (.t 24) (.seq (.ops [.ak 4 (.c (.bool false))]) .ret) .skip)))) (.ops [.bin 25 .add (.t 13) (.c (.int .i64 1)),.ah 13 (.t 25)]))))
def Om:ay :=
(.clean [0,1,12,13] [4] (.block 0 (.loop [0,1,12,13] Ol)))
def ad8:dH:=⟨2,26,[.tmp 4],(.seq (.ops [.ak 4 (.c (.bool false))]) (.seq (.seq (.ops [.ah 6 (.t 0),.len 7 (.t 6),.ah 8 (.t 1),.len 9 (.t 8),.bin 10 .neq (.t 7) (.t 9)]) (.cond (.t 10) (.seq (.ops [.ak 4 (.c (.bool false))]) .ret) .skip)) (.seq (.seq (.ops [.ah 11 (.t 0),.len 12 (.t 11),.ah 13 (.c (.int .i64 0))])
   Om) (.seq (.ops [.ak 4 (.c (.bool true))]) .ret))))⟩
def Gz:ay:=(.seq (.ops [.bin 10 .lss (.t 9) (.t 8)]) (.seq (.cond (.t 10) .skip (.exit 0)) (.seq (.block 1 (.seq (.ops [.bI 11 2 (.t 7) (.t 9),.load 12 (some 2) (.t 11),.alloc 5 [(.int .i64 0),(.int .i64 0)],.store none 2 (.t 5) (.t 12)]) (.ops [.ah 13 (.t 3),.au 14 (.t 5) 1,.load 15 none (.t 14),.bin 16 .add (.t 13) (.t 15),.ak 3 (.t 16)]))) (.ops [.bin 17 .add (.t 9) (.c (.int .i64 1)),.ah 9 (.t 17)]))))
def GH:ay :=
(.clean [3,7,8,9] [2,3] (.block 0 (.loop [3,7,8,9] Gz)))
def Q8:dH:=⟨1,19,[.tmp 2],(.seq (.ops [.ak 2 (.c (.int .i64 0))]) (.seq (.ops [.ak 3 (.c (.int .i64 0))]) (.seq (.seq (.ops [.ah 6 (.t 0),.call 7 180 [(.t 6),(.nil 2)],.len 8 (.t 7),.ah 9 (.c (.int .i64 0))])
   GH) (.seq (.ops [.ah 18 (.t 3),.ak 2 (.t 18)]) .ret))))⟩
def ad9:ay:=(.ops [.ak 6 (.t 13)])
def aea:ay:=(.block 1 (.seq (.seq (.qm [] [([0,1,2,4],3),([5,6],7),([],8)] none [9] [.load 14 none (.t 3),.Js 15 1 (.t 14) none (some (.c (.int .i64 8))),.YV 16 (.t 2),.ah 18 (.t 6),.pk 17 193 (.t 16),.bI 19 1 (.t 17) (.t 18),.load 20 none (.t 19),.call 21 109 [(.t 20)],.call 22 192 [(.t 15),(.t 21)],.un 23 .not (.t 22)]) (.cond (.t 23) (.ops [.load 24 none (.t 5),.ah 25 (.t 6),.fE 26 1 [(.t 25)],.app 27 1 (.t 24) (.t 26),.store none 1 (.t 5) (.t 27)]) .skip)) (.seq (.ops [.load 28 none (.t 3),.Js 29 1 (.t 28) (some (.c (.int .i64 8))) none,.store none 1 (.t 3) (.t 29)]) (.ops [.YV 30 (.t 2),.au 31 (.t 30) 0,.au 32 (.t 31) 0,.au 33 (.t 32) 6,.load 34 none (.t 33),.bin 35 .add (.t 34) (.c (.int .i64 1)),.au 36 (.t 30) 0,.au 37 (.t 36) 0,.au 38 (.t 37) 6,.store none 1 (.t 38) (.t 35)]))))
def aeb:dH:=⟨2,40,[.tmp 4],(.seq (.ops [.YU 2 (.t 0),.box 3 (.t 1),.ak 4 (.nil 1)]) (.seq (.ops [.alloc 5 [(.list 1 [])]]) (.seq (.seq (.ops [.YV 7 (.t 2),.au 8 (.t 7) 0,.au 9 (.t 8) 0,.au 10 (.t 9) 3,.load 11 none (.t 10),.call 12 108 [(.t 11)]]) (.block 0 (.rng (.t 12) [13] ad9 aea))) (.seq (.ops [.load 39 none (.t 5),.ak 4 (.t 39)]) .ret))))⟩
def aec:ay:=(.seq (.ops [.bin 15 .lss (.t 14) (.t 13)]) (.seq (.cond (.t 15) .skip (.exit 0)) (.seq (.block 1 (.seq (.ops [.bI 16 1 (.t 12) (.t 14),.load 17 none (.t 16),.ak 6 (.t 17)]) (.seq (.ops [.ah 18 (.t 6),.ah 19 (.t 0),.au 20 (.t 19) 0,.au 21 (.t 20) 0,.au 22 (.t 21) 0,.au 23 (.t 22) 1,.load 24 none (.t 23),.bin 25 .mul (.t 18) (.t 24),.ak 7 (.t 25)]) (.drs [] [0,1,4,12,13,14,45] [.ah 26 (.t 4),.ah 27 (.t 7),.ah 28 (.t 0),.au 29 (.t 28) 0,.au 30 (.t 29) 0,.au 31 (.t 30) 0,.au 32 (.t 31) 1,.load 33 none (.t 32),.ah 34 (.t 0),.au 35 (.t 34) 0,.au 36 (.t 35) 0,.au 37 (.t 36) 0,.au 38 (.t 37) 0,.load 39 none (.t 38),.ah 40 (.t 7),.bin 41 .sub (.t 39) (.t 40),.mn 42 false (.t 33) (.t 41),.build 43 [(.int .i64 0),(.int .i64 0)] [(0,1,(.t 27)),(1,1,(.t 42))],.fE 44 2 [(.t 43)],.app 45 2 (.t 26) (.t 44),.ak 4 (.t 45)]
    [⟨[([0,1,2,8,14],3),([4,5,6,7],9),([10,11,12,13,15,16,17],18)],(some ([],[],19,[])),[20],[0,1,2,8,14,3,4,5,6,7,9,10,11,12,13,15,16,17,18,19,20],false⟩,⟨[([0,1,2,8,14],9),([10,11,12,13,15],3),([4,5,6,7,16,17],18)],(some ([],[],19,[])),[20],[0,1,2,8,14,9,10,11,12,13,15,3,4,5,6,7,16,17,18,19,20],false⟩])))) (.ops [.bin 46 .add (.t 14) (.c (.int .i64 1)),.ah 14 (.t 46)]))))
def aed:ay :=
(.clean [0,1,4,12,13,14,45] [0,4] (.block 0 (.loop [0,1,4,12,13,14,45] aec)))
def aee:dH:=⟨2,55,[],(.seq (.ops [.ah 8 (.t 0),.au 9 (.t 8) 0,.au 10 (.t 9) 0,.au 11 (.t 10) 5,.store none 1 (.t 11) (.nil 2)]) (.seq (.ops [.ak 4 (.nil 2)]) (.seq (.seq (.ops [.ah 12 (.t 1),.len 13 (.t 12),.ah 14 (.c (.int .i64 0))])
   aed) (.seq (.ops [.ah 47 (.t 0),.ah 48 (.t 4),.call 49 180 [(.t 48),(.nil 2)],.au 50 (.t 47) 0,.au 51 (.t 50) 0,.au 52 (.t 51) 5,.store none 1 (.t 52) (.t 49)]) (.ops [.ah 53 (.t 0),.lin 54 103 (.t 53) []])))))⟩
def aef:dH:=⟨1,14,[],(.ops [.ah 2 (.t 0),.ah 3 (.t 0),.ah 4 (.t 0),.au 5 (.t 2) 0,.au 6 (.t 5) 0,.au 7 (.t 6) 4,.store none 1 (.t 7) (.c (.int .i64 0)),.au 8 (.t 3) 0,.au 9 (.t 8) 0,.au 10 (.t 9) 3,.store none 1 (.t 10) (.nil 2),.au 11 (.t 4) 0,.au 12 (.t 11) 0,.au 13 (.t 12) 7,.store none 1 (.t 13) (.c (.bool true))])⟩
def aeg:ay:=(.seq (.ops [.bin 35 .lss (.t 34) (.t 33)]) (.seq (.cond (.t 35) .skip (.exit 2)) (.seq (.block 3 (.seq (.ops [.bI 36 1 (.t 32) (.t 34),.load 37 none (.t 36),.ak 7 (.t 37)]) (.seq (.ops [.ah 38 (.t 7),.ah 39 (.t 0),.pk 40 193 (.t 39),.len 41 (.t 40),.bin 42 .lss (.t 38) (.t 41)]) (.cond (.t 42) (.ops [.ah 43 (.t 0),.ah 44 (.t 0),.au 45 (.t 44) 0,.au 46 (.t 45) 0,.au 47 (.t 46) 3,.load 48 none (.t 47),.ah 49 (.t 7),.lin 50 194 (.t 48) [(.t 49)],.au 51 (.t 43) 0,.au 52 (.t 51) 0,.au 53 (.t 52) 3,.store none 1 (.t 53) (.t 50)]) .skip)))) (.ops [.bin 54 .add (.t 34) (.c (.int .i64 1)),.ah 34 (.t 54)]))))
def aeh:ay :=
(.clean [0,1,21,22,23,32,33,34] [0,1,21,22,23] (.block 2 (.loop [0,1,21,22,23,32,33,34] aeg)))
def aei:ay:=(.seq (.ops [.bin 24 .lss (.t 23) (.t 22)]) (.seq (.cond (.t 24) .skip (.exit 0)) (.seq (.block 1 (.seq (.ops [.bI 25 1 (.t 21) (.t 23),.load 26 none (.t 25),.ak 5 (.t 26)]) (.seq (.ops [.ah 27 (.t 5),.bin 28 .mul (.c (.int .i64 2)) (.t 27),.ah 29 (.t 5),.bin 30 .mul (.c (.int .i64 2)) (.t 29),.bin 31 .add (.t 30) (.c (.int .i64 1)),.fE 32 1 [(.t 28),(.t 31)],.len 33 (.t 32),.ah 34 (.c (.int .i64 0))])
    aeh))) (.ops [.bin 55 .add (.t 23) (.c (.int .i64 1)),.ah 23 (.t 55)]))))
def aej:ay :=
(.clean [0,1,21,22,23] [] (.block 0 (.loop [0,1,21,22,23] aei)))
def aek:dH:=⟨2,56,[],(.seq (.ops [.ah 8 (.t 0),.au 9 (.t 8) 0,.au 10 (.t 9) 0,.au 11 (.t 10) 4,.load 12 none (.t 11),.bin 13 .sub (.t 12) (.c (.int .i64 1)),.au 14 (.t 8) 0,.au 15 (.t 14) 0,.au 16 (.t 15) 4,.store none 1 (.t 16) (.t 13)]) (.seq (.ops [.ah 17 (.t 0),.au 18 (.t 17) 0,.au 19 (.t 18) 0,.au 20 (.t 19) 3,.store none 1 (.t 20) (.nil 2)]) (.seq (.ops [.ah 21 (.t 1),.len 22 (.t 21),.ah 23 (.c (.int .i64 0))])
  aej)))⟩
def ael:dH:=⟨2,9,[.tmp 4],(.seq (.ops [.box 2 (.t 0),.box 3 (.t 1),.ak 4 (.c .pR)]) (.seq (.seq (.ops [.load 5 none (.t 3),.bin 6 .lss (.t 5) (.c (.int .i64 1))]) (.cond (.t 6) (.drs [] [] []
   []) .skip)) (.seq (.ops [.Jq 8 195 [(.t 2),(.t 3)],.ak 4 (.t 8)]) .ret)))⟩
def rD:ay:=(.seq (.ops [.bin 17 .lss (.t 16) (.t 15)]) (.seq (.cond (.t 17) .skip (.exit 0)) (.seq (.block 1 (.seq (.ops [.bI 18 2 (.t 14) (.t 16),.load 19 (some 2) (.t 18),.alloc 7 [(.int .i64 0),(.int .i64 0)],.store none 2 (.t 7) (.t 19)]) (.seq (.block 2 (.seq (.ops [.au 21 (.t 7) 1,.load 22 none (.t 21),.bin 23 .leq (.t 22) (.c (.int .i64 0)),.ak 20 (.t 23)]) (.cond (.t 20) (.seq (.ops [.ak 4 (.c (.int .i64 1))]) .ret) (.seq (.ops [.au 25 (.t 7) 0,.load 26 none (.t 25),.bin 27 .lss (.t 26) (.c (.int .i64 0)),.ah 28 (.t 27),.grd 28 false (.au 29 (.t 7) 1),.grd 28 false (.load 30 none (.t 29)),.grd 28 false (.ah 31 (.t 1)),.grd 28 false (.au 32 (.t 7) 0),.grd 28 false (.load 33 none (.t 32)),.grd 28 false (.bin 34 .sub (.t 31) (.t 33)),.grd 28 false (.bin 35 .gtr (.t 30) (.t 34)),.pick 36 (.t 28) (.c (.bool true)) (.t 35),.ak 24 (.t 36)]) (.cond (.t 24) (.seq (.ops [.ak 4 (.c (.int .i64 2))]) .ret) (.seq (.ops [.au 38 (.t 7) 0,.load 39 none (.t 38),.ah 40 (.t 5),.bin 41 .lss (.t 39) (.t 40),.ak 37 (.t 41)]) (.cond (.t 37) (.seq (.ops [.ak 4 (.c (.int .i64 3))]) .ret) .skip))))))) (.ops [.au 42 (.t 7) 0,.load 43 none (.t 42),.au 44 (.t 7) 1,.load 45 none (.t 44),.bin 46 .add (.t 43) (.t 45),.bin 47 .add (.t 46) (.c (.int .i64 1)),.ak 5 (.t 47)])))) (.ops [.bin 48 .add (.t 16) (.c (.int .i64 1)),.ah 16 (.t 48)]))))
def GI:ay :=
(.clean [0,1,5,14,15,16] [4] (.block 0 (.loop [0,1,5,14,15,16] rD)))
def GK:dH:=⟨2,49,[.tmp 4],(.seq (.ops [.ak 4 (.c (.int .i64 0))]) (.seq (.seq (.ops [.ah 8 (.t 1),.bin 9 .lss (.t 8) (.c (.int .i64 0)),.ah 10 (.t 9),.grd 10 false (.ah 11 (.t 1)),.grd 10 false (.bin 12 .gtr (.t 11) (.c (.int .i64 4096))),.pick 13 (.t 10) (.c (.bool true)) (.t 12)]) (.cond (.t 13) (.seq (.ops [.ak 4 (.c (.int .i64 2))]) .ret) .skip)) (.seq (.ops [.ak 5 (.c (.int .i64 0))]) (.seq (.seq (.ops [.ah 14 (.t 0),.len 15 (.t 14),.ah 16 (.c (.int .i64 0))])
   GI) (.seq (.ops [.ak 4 (.c (.int .i64 0))]) .ret)))))⟩
def X7:dH:=⟨1,8,[.tmp 2],(.seq (.ops [.ak 2 (.nil 1)]) (.seq (.seq (.ops [.ah 3 (.t 0),.UZ 4 false (.t 3)]) (.cond (.t 4) (.seq (.ops [.ak 2 (.nil 1)]) .ret) .skip)) (.seq (.ops [.fE 5 1 [],.ah 6 (.t 0),.app 7 1 (.t 5) (.t 6),.ak 2 (.t 7)]) .ret)))⟩
def aem:dH:=⟨1,4,[.tmp 2],(.seq (.ops [.box 1 (.t 0),.ak 2 (.c .pR)]) (.seq (.ops [.Jq 3 196 [(.t 1)],.ak 2 (.t 3)]) .ret))⟩
def aen:ay:=(.seq (.ops [.bin 6 .lss (.t 5) (.c (.int .i64 8))]) (.seq (.cond (.t 6) .skip (.exit 0)) (.seq (.block 1 (.seq (.ops [.ah 7 (.t 5),.ak 4 (.t 7)]) (.ops [.ah 8 (.t 3),.ah 9 (.t 0),.ah 10 (.t 4),.bin 11 .mul (.c (.int .i64 8)) (.t 10),.bin 12 .shr (.t 9) (.t 11),.conv 13 .u8 (.t 12),.fE 14 1 [(.t 13)],.app 15 1 (.t 8) (.t 14),.ak 3 (.t 15)]))) (.ops [.bin 16 .add (.t 5) (.c (.int .i64 1)),.ah 5 (.t 16)]))))
def aeo:ay :=
(.clean [0,3,5,15] [2,3] (.block 0 (.loop [0,3,5,15] aen)))
def aep:dH:=⟨1,18,[.tmp 2],(.seq (.ops [.ak 2 (.nil 1)]) (.seq (.ops [.ak 3 (.nil 1)]) (.seq (.seq (.ops [.ah 5 (.c (.int .i64 0))])
   aeo) (.seq (.ops [.ah 17 (.t 3),.ak 2 (.t 17)]) .ret))))⟩
def Bj:ay:=(.seq (.ops [.bin 22 .lss (.t 21) (.t 20)]) (.seq (.cond (.t 22) .skip (.exit 0)) (.seq (.block 1 (.seq (.ops [.bI 23 2 (.t 19) (.t 21),.load 24 (some 2) (.t 23),.alloc 9 [(.int .i64 0),(.int .i64 0)],.store none 2 (.t 9) (.t 24)]) (.seq (.ops [.load 26 (some 2) (.t 6),.load 27 (some 2) (.t 9),.call 28 170 [(.t 26),(.t 27)],.ah 25 (.t 28),.ext 29 (.t 25) 0,.ext 30 (.t 25) 1,.store none 2 (.t 6) (.t 29),.ak 7 (.t 30)]) (.seq (.ops [.ah 31 (.t 7),.bin 32 .neq (.t 31) (.c (.int .i64 0))]) (.cond (.t 32) (.seq (.ops [.build 33 [(.int .i64 0),(.list 1 [])] [],.ah 34 (.t 7),.store none 2 (.t 4) (.t 33),.ak 5 (.t 34)]) .ret) .skip))))) (.ops [.bin 35 .add (.t 21) (.c (.int .i64 1)),.ah 21 (.t 35)]))))
def GL:ay :=
(.clean [1,4,6,19,20,21] [4,5,6] (.block 0 (.loop [1,4,6,19,20,21] Bj)))
def GN:dH:=⟨2,37,[.cell 4 (some 2),.tmp 5],(.seq (.ops [.alloc 4 [(.int .i64 0),(.list 1 [])],.ak 5 (.c (.int .i64 0))]) (.seq (.ops [.ah 11 (.t 0),.call 12 169 [(.t 11)],.ah 10 (.t 12),.ext 13 (.t 10) 0,.ext 14 (.t 10) 1,.alloc 6 [(.int .i64 0),(.list 1 [])],.store none 2 (.t 6) (.t 13),.ak 7 (.t 14)]) (.seq (.seq (.ops [.ah 15 (.t 7),.bin 16 .neq (.t 15) (.c (.int .i64 0))]) (.cond (.t 16) (.seq (.ops [.build 17 [(.int .i64 0),(.list 1 [])] [],.ah 18 (.t 7),.store none 2 (.t 4) (.t 17),.ak 5 (.t 18)]) .ret) .skip)) (.seq (.seq (.ops [.ah 19 (.t 1),.len 20 (.t 19),.ah 21 (.c (.int .i64 0))])
   GL) (.seq (.ops [.load 36 (some 2) (.t 6),.store none 2 (.t 4) (.t 36),.ak 5 (.c (.int .i64 0))]) .ret)))))⟩
def X8:dH:=⟨1,8,[.tmp 2],(.seq (.ops [.ak 2 (.nil 1)]) (.seq (.seq (.ops [.ah 3 (.t 0),.UZ 4 false (.t 3)]) (.cond (.t 4) (.seq (.ops [.ak 2 (.nil 1)]) .ret) .skip)) (.seq (.ops [.fE 5 1 [],.ah 6 (.t 0),.app 7 1 (.t 5) (.t 6),.ak 2 (.t 7)]) .ret)))⟩
def Lc:dH:=⟨2,16,[.tmp 4],(.seq (.ops [.box 2 (.t 0),.ak 4 (.c (.int .i64 0))]) (.seq (.seq (.ops [.ah 6 (.t 1),.len 7 (.t 6),.load 8 none (.t 2),.len 9 (.t 8),.bin 10 .neq (.t 7) (.t 9)]) (.cond (.t 10) (.seq (.ops [.ak 4 (.c (.int .i64 6))]) .ret) .skip)) (.seq (.ops [.ah 11 (.t 1),.Jq 12 207 [(.t 2)],.call 13 206 [(.t 11),(.t 12)],.ak 5 (.t 13)]) (.seq (.seq (.ops [.ah 14 (.t 5),.call 15 208 [(.t 14),(.c (.bool false))]]) (.cond (.t 15) (.seq (.ops [.ak 4 (.c (.int .i64 3))]) .ret) .skip)) (.seq (.ops [.ak 4 (.c (.int .i64 0))]) .ret)))))⟩
def Q9:dH:=⟨1,4,[.tmp 2],(.seq (.ops [.box 1 (.t 0),.ak 2 (.c .pR)]) (.seq (.ops [.Jq 3 209 [(.t 1)],.ak 2 (.t 3)]) .ret))⟩
def X9:dH:=⟨1,8,[.tmp 2],(.seq (.ops [.ak 2 (.nil 8)]) (.seq (.seq (.ops [.ah 3 (.t 0),.UZ 4 false (.t 3)]) (.cond (.t 4) (.seq (.ops [.ak 2 (.nil 8)]) .ret) .skip)) (.seq (.ops [.fE 5 8 [],.ah 6 (.t 0),.app 7 8 (.t 5) (.t 6),.ak 2 (.t 7)]) .ret)))⟩
def rE:dH:=⟨2,163,[.cell 4 (some 10)],(.seq (.ops [.box 2 (.t 0),.box 3 (.t 1),.alloc 4 [(.list 0 []),(.list 0 []),(.int .i64 0),(.int .i64 0),(.list 0 []),(.int .i64 0),(.list 0 []),(.list 0 []),(.list 0 []),(.bool false)]]) (.seq (.seq (.ops [.au 17 (.t 3) 0,.load 18 none (.t 17),.bin 19 .rem (.t 18) (.c (.int .u8 5)),.bin 20 .eql (.t 19) (.c (.int .u8 0))]) (.cond (.t 20) (.seq (.ops [.load 21 (some 10) (.t 2),.load 22 (some 4) (.t 3),.call 23 210 [(.t 21),(.t 22)],.store none 10 (.t 4) (.t 23)]) .ret) .skip)) (.seq (.seq (.ops [.au 24 (.t 3) 0,.load 25 none (.t 24),.bin 26 .rem (.t 25) (.c (.int .u8 5)),.bin 27 .eql (.t 26) (.c (.int .u8 4))]) (.cond (.t 27) (.seq (.ops [.au 29 (.t 2) 2,.load 30 (some 5) (.t 29),.call 31 211 [(.t 30)],.ah 28 (.t 31),.ext 32 (.t 28) 0,.ext 33 (.t 28) 1,.alloc 5 [(.int .i64 0),(.int .i64 0),(.list 1 []),(.int .i64 0),(.list 1 [])],.store none 5 (.t 5) (.t 32),.ak 6 (.t 33)]) (.seq (.ops [.load 34 (some 5) (.t 5),.au 35 (.t 2) 2,.store none 5 (.t 35) (.t 34)]) (.seq (.seq (.ops [.au 36 (.t 3) 1,.load 37 none (.t 36),.bin 38 .rem (.t 37) (.c (.int .u8 2)),.bin 39 .eql (.t 38) (.c (.int .u8 0))]) (.cond (.t 39) (.ops [.load 40 (some 5) (.t 5),.call 41 90 [(.t 40)],.au 42 (.t 2) 7,.store none 1 (.t 42) (.t 41)]) .skip)) (.seq (.ops [.load 43 (some 10) (.t 2),.store none 10 (.t 4) (.t 43)]) .ret)))) .skip)) (.seq (.seq (.ops [.au 44 (.t 2) 8,.load 45 none (.t 44),.len 46 (.t 45),.bin 47 .eql (.t 46) (.c (.int .i64 0))]) (.cond (.t 47) (.seq (.ops [.load 48 (some 10) (.t 2),.store none 10 (.t 4) (.t 48)]) .ret) .skip)) (.seq (.ops [.au 49 (.t 3) 1,.load 50 none (.t 49),.conv 51 .i64 (.t 50),.au 52 (.t 2) 8,.load 53 none (.t 52),.len 54 (.t 53),.bin 55 .rem (.t 51) (.t 54),.ak 7 (.t 55)]) (.seq (.ops [.au 56 (.t 2) 8,.load 57 none (.t 56),.ah 58 (.t 7),.bI 59 5 (.t 57) (.t 58),.load 60 (some 5) (.t 59),.alloc 8 [(.int .i64 0),(.int .i64 0),(.list 0 []),(.bool false),(.bool false)],.store none 5 (.t 8) (.t 60)]) (.seq (.ops [.fE 61 5 [],.au 62 (.t 2) 8,.load 63 none (.t 62),.app 64 5 (.t 61) (.t 63),.au 65 (.t 2) 8,.store none 1 (.t 65) (.t 64)]) (.seq (.seq (.ops [.au 66 (.t 3) 0,.load 67 none (.t 66),.bin 68 .rem (.t 67) (.c (.int .u8 5))]) (.block 0 (.seq (.ops [.bin 70 .eql (.t 68) (.c (.int .u8 1)),.ak 69 (.t 70)]) (.cond (.t 69) (.seq (.ops [.au 72 (.t 2) 0,.load 73 none (.t 72),.au 74 (.t 8) 0,.load 75 (some 3) (.t 74),.fE 76 3 [(.t 75)],.call 77 39 [(.t 73),(.t 76)],.ah 71 (.t 77),.ext 78 (.t 71) 0,.ext 79 (.t 71) 1,.ext 80 (.t 71) 2,.ak 9 (.t 78),.ak 10 (.t 79),.ak 11 (.t 80)]) (.ops [.ah 81 (.t 9),.au 82 (.t 2) 9,.load 83 none (.t 82),.ah 84 (.t 83),.grd 84 true (.ah 85 (.t 11)),.grd 84 true (.bin 86 .eql (.t 85) (.c (.int .i64 0))),.pick 87 (.t 84) (.t 86) (.c (.bool false)),.au 88 (.t 2) 0,.store none 1 (.t 88) (.t 81),.au 89 (.t 8) 3,.store none 1 (.t 89) (.c (.bool true)),.au 90 (.t 2) 9,.store none 1 (.t 90) (.t 87)])) (.seq (.ops [.bin 92 .eql (.t 68) (.c (.int .u8 2)),.ak 91 (.t 92)]) (.cond (.t 91) (.seq (.ops [.au 94 (.t 2) 1,.load 95 none (.t 94),.au 96 (.t 8) 0,.load 97 (some 3) (.t 96),.fE 98 3 [(.t 97)],.call 99 39 [(.t 95),(.t 98)],.ah 93 (.t 99),.ext 100 (.t 93) 0,.ext 101 (.t 93) 1,.ext 102 (.t 93) 2,.ak 12 (.t 100),.ak 13 (.t 101),.ak 14 (.t 102)]) (.ops [.ah 103 (.t 12),.au 104 (.t 2) 9,.load 105 none (.t 104),.ah 106 (.t 105),.grd 106 true (.ah 107 (.t 14)),.grd 106 true (.bin 108 .eql (.t 107) (.c (.int .i64 0))),.pick 109 (.t 106) (.t 108) (.c (.bool false)),.au 110 (.t 2) 1,.store none 1 (.t 110) (.t 103),.au 111 (.t 8) 4,.store none 1 (.t 111) (.c (.bool true)),.au 112 (.t 2) 9,.store none 1 (.t 112) (.t 109)])) (.seq (.ops [.bin 114 .eql (.t 68) (.c (.int .u8 3)),.ak 113 (.t 114)]) (.cond (.t 113) (.seq (.ops [.au 115 (.t 8) 3,.load 116 none (.t 115),.ah 117 (.t 116),.grd 117 true (.au 118 (.t 8) 4),.grd 117 true (.load 119 none (.t 118)),.pick 120 (.t 117) (.t 119) (.c (.bool false))]) (.cond (.t 120) (.seq (.ops [.au 122 (.t 2) 2,.load 123 (some 5) (.t 122),.au 124 (.t 8) 0,.au 125 (.t 124) 1,.load 126 none (.t 125),.au 127 (.t 8) 0,.au 128 (.t 127) 2,.load 129 none (.t 128),.len 130 (.t 129),.build 131 [(.int .i64 0),(.int .i64 0)] [(0,1,(.t 126)),(1,1,(.t 130))],.call 132 212 [(.t 123),(.t 131)],.ah 121 (.t 132),.ext 133 (.t 121) 0,.ext 134 (.t 121) 1,.alloc 15 [(.int .i64 0),(.int .i64 0),(.list 1 []),(.int .i64 0),(.list 1 [])],.store none 5 (.t 15) (.t 133),.ak 16 (.t 134)]) (.seq (.ops [.load 135 (some 5) (.t 15),.au 136 (.t 2) 9,.load 137 none (.t 136),.ah 138 (.t 137),.grd 138 true (.ah 139 (.t 16)),.grd 138 true (.bin 140 .eql (.t 139) (.c (.int .i64 0))),.pick 141 (.t 138) (.t 140) (.c (.bool false)),.au 142 (.t 2) 2,.store none 5 (.t 142) (.t 135),.au 143 (.t 2) 9,.store none 1 (.t 143) (.t 141)]) (.seq (.qm [] [] (some ([0,1,2,3,4,5,6,7,8,9],[],10,[([11],12)])) [] [.au 144 (.t 2) 8,.load 145 none (.t 144),.ah 146 (.t 7),.ah 147 (.t 7),.sl3 148 5 (.t 145) (.t 146) (.t 147),.au 149 (.t 2) 8,.load 150 none (.t 149),.ah 151 (.t 7),.bin 152 .add (.t 151) (.c (.int .i64 1)),.Js 153 5 (.t 150) (some (.t 152)) none,.apf 154 5 (.t 148) (.t 153),.au 155 (.t 2) 8,.store none 1 (.t 155) (.t 154)]) (.seq (.ops [.load 156 (some 10) (.t 2),.store none 10 (.t 4) (.t 156)]) .ret)))) .skip)) .skip)))))))) (.seq (.ops [.au 157 (.t 2) 8,.load 158 none (.t 157),.ah 159 (.t 7),.load 160 (some 5) (.t 8),.bI 161 5 (.t 158) (.t 159),.store none 5 (.t 161) (.t 160)]) (.seq (.ops [.load 162 (some 10) (.t 2),.store none 10 (.t 4) (.t 162)]) .ret))))))))))⟩
def GR:ay:=(.seq (.ops [.bin 11 .lss (.t 10) (.t 9)]) (.seq (.cond (.t 11) .skip (.exit 0)) (.seq (.block 1 (.seq (.ops [.ah 12 (.t 10),.bI 13 1 (.t 8) (.t 10),.load 14 none (.t 13),.ak 6 (.t 12),.ak 7 (.t 14)]) (.ops [.ah 15 (.t 5),.ah 16 (.t 1),.ah 17 (.t 6),.ah 18 (.t 7),.jU 19 (.t 16) [(.t 17),(.t 18)],.fE 20 1 [(.t 19)],.app 21 1 (.t 15) (.t 20),.ak 5 (.t 21)]))) (.ops [.bin 22 .add (.t 10) (.c (.int .i64 1)),.ah 10 (.t 22)]))))
def GU:ay :=
(.clean [0,1,5,8,9,10,21] [4,5] (.block 0 (.loop [0,1,5,8,9,10,21] GR)))
def Rf:dH:=⟨2,24,[.tmp 4],(.seq (.ops [.ak 4 (.nil 1)]) (.seq (.ops [.ak 5 (.nil 1)]) (.seq (.seq (.ops [.ah 8 (.t 0),.len 9 (.t 8),.ah 10 (.c (.int .i64 0))])
   GU) (.seq (.ops [.ah 23 (.t 5),.ak 4 (.t 23)]) .ret))))⟩
def Rh:dH:=⟨3,12,[.tmp 5],(.seq (.ops [.ak 5 (.nil 2)]) (.seq (.ops [.ah 6 (.t 1),.load 7 none (.t 2),.ah 8 (.t 0),.bI 9 1 (.t 7) (.t 8),.load 10 none (.t 9),.call 11 137 [(.t 6),(.t 10)],.ak 5 (.t 11)]) .ret))⟩
def Ri:dH:=⟨2,9,[.tmp 4],(.seq (.ops [.ak 4 (.nil 2)]) (.seq (.ops [.ah 5 (.t 0),.ah 6 (.t 1),.call 7 214 [(.t 5),(.t 6),(.c (.func 215 []))],.call 8 213 [(.t 7)],.ak 4 (.t 8)]) .ret))⟩
def GV:ay:=(.seq (.ops [.bin 18 .lss (.t 17) (.t 16)]) (.seq (.cond (.t 18) .skip (.exit 0)) (.seq (.block 1 (.seq (.ops [.ah 19 (.t 17),.bI 20 1 (.t 15) (.t 17),.load 21 none (.t 20),.ak 7 (.t 19),.ak 8 (.t 21)]) (.seq (.ops [.ah 22 (.t 1),.ah 23 (.t 7),.bI 24 1 (.t 22) (.t 23),.load 25 none (.t 24),.ak 9 (.t 25)]) (.seq (.ops [.ah 26 (.t 2),.ah 27 (.t 8),.ah 28 (.t 9),.jU 29 (.t 26) [(.t 27),(.t 28)],.un 30 .not (.t 29)]) (.cond (.t 30) (.seq (.ops [.ak 6 (.c (.bool false))]) .ret) .skip))))) (.ops [.bin 31 .add (.t 17) (.c (.int .i64 1)),.ah 17 (.t 31)]))))
def GX:ay :=
(.clean [0,1,2,15,16,17] [6] (.block 0 (.loop [0,1,2,15,16,17] GV)))
def Rj:dH:=⟨3,32,[.tmp 6],(.seq (.ops [.ak 6 (.c (.bool false))]) (.seq (.seq (.ops [.ah 10 (.t 0),.len 11 (.t 10),.ah 12 (.t 1),.len 13 (.t 12),.bin 14 .neq (.t 11) (.t 13)]) (.cond (.t 14) (.seq (.ops [.ak 6 (.c (.bool false))]) .ret) .skip)) (.seq (.seq (.ops [.ah 15 (.t 0),.len 16 (.t 15),.ah 17 (.c (.int .i64 0))])
   GX) (.seq (.ops [.ak 6 (.c (.bool true))]) .ret))))⟩
def Rk:dH:=⟨2,8,[.tmp 4],(.seq (.ops [.ak 4 (.c (.bool false))]) (.seq (.ops [.ah 5 (.t 0),.ah 6 (.t 1),.call 7 140 [(.t 5),(.t 6)],.ak 4 (.t 7)]) .ret))⟩
def GY:ay:=(.seq (.ops [.bin 14 .lss (.t 13) (.t 12)]) (.seq (.cond (.t 14) .skip (.exit 0)) (.seq (.block 1 (.seq (.ops [.ah 15 (.t 13),.ak 5 (.t 15)]) (.seq (.qm [] [] none [0,1,2,3,4,5,6,7,8] [.ah 16 (.t 0),.ah 17 (.t 5),.bI 18 2 (.t 16) (.t 17),.load 19 (some 2) (.t 18),.ah 20 (.t 1),.ah 21 (.t 5),.bI 22 2 (.t 20) (.t 21),.load 23 (some 2) (.t 22),.UY 24 true 2 (.t 19) (.t 23)]) (.cond (.t 24) (.seq (.ops [.ak 4 (.c (.bool false))]) .ret) .skip)))) (.ops [.bin 25 .add (.t 13) (.c (.int .i64 1)),.ah 13 (.t 25)]))))
def GZ:ay :=
(.clean [0,1,12,13] [4] (.block 0 (.loop [0,1,12,13] GY)))
def Rl:dH:=⟨2,26,[.tmp 4],(.seq (.ops [.ak 4 (.c (.bool false))]) (.seq (.seq (.ops [.ah 6 (.t 0),.len 7 (.t 6),.ah 8 (.t 1),.len 9 (.t 8),.bin 10 .neq (.t 7) (.t 9)]) (.cond (.t 10) (.seq (.ops [.ak 4 (.c (.bool false))]) .ret) .skip)) (.seq (.seq (.ops [.ah 11 (.t 0),.len 12 (.t 11),.ah 13 (.c (.int .i64 0))])
   GZ) (.seq (.ops [.ak 4 (.c (.bool true))]) .ret))))⟩
def G5:ay:=(.seq (.ops [.bin 11 .lss (.t 10) (.t 9)]) (.seq (.cond (.t 11) .skip (.exit 0)) (.seq (.block 1 (.seq (.ops [.ah 12 (.t 10),.bI 13 1 (.t 8) (.t 10),.load 14 none (.t 13),.ak 6 (.t 12),.ak 7 (.t 14)]) (.ops [.ah 15 (.t 5),.ah 16 (.t 1),.ah 17 (.t 6),.ah 18 (.t 7),.jU 19 (.t 16) [(.t 17),(.t 18)],.fE 20 1 [(.t 19)],.app 21 1 (.t 15) (.t 20),.ak 5 (.t 21)]))) (.ops [.bin 22 .add (.t 10) (.c (.int .i64 1)),.ah 10 (.t 22)]))))
def G6:ay :=
(.clean [0,1,5,8,9,10,21] [4,5] (.block 0 (.loop [0,1,5,8,9,10,21] G5)))
def Rn:dH:=⟨2,24,[.tmp 4],(.seq (.ops [.ak 4 (.nil 1)]) (.seq (.ops [.ak 5 (.nil 1)]) (.seq (.seq (.ops [.ah 8 (.t 0),.len 9 (.t 8),.ah 10 (.c (.int .i64 0))])
   G6) (.seq (.ops [.ah 23 (.t 5),.ak 4 (.t 23)]) .ret))))⟩
def Ro:dH:=⟨2,7,[.tmp 4],(.seq (.ops [.ak 4 (.c (.int .i64 0))]) (.seq (.ops [.ah 5 (.t 1),.call 6 100 [(.t 5)],.ak 4 (.t 6)]) .ret))⟩
def G7:ay:=(.seq (.seq (.ops [.ah 12 (.t 3),.ah 13 (.t 0),.len 14 (.t 13),.bin 15 .lss (.t 12) (.t 14)]) (.cond (.t 15) .skip (.exit 0))) (.seq (.block 1 (.seq (.ops [.ah 18 (.t 0),.ah 19 (.t 3),.bI 20 1 (.t 18) (.t 19),.load 21 none (.t 20),.bin 22 .lss (.t 21) (.c (.int .i64 1)),.ah 23 (.t 22),.grd 23 false (.ah 24 (.t 0)),.grd 23 false (.ah 25 (.t 3)),.grd 23 false (.bI 26 1 (.t 24) (.t 25)),.grd 23 false (.load 27 none (.t 26)),.grd 23 false (.bin 28 .gtr (.t 27) (.c (.int .i64 4096))),.pick 29 (.t 23) (.c (.bool true)) (.t 28)]) (.cond (.t 29) (.seq (.ops [.ak 2 (.c (.int .i64 2))]) .ret) .skip))) (.ops [.ah 16 (.t 3),.bin 17 .add (.t 16) (.c (.int .i64 1)),.ak 3 (.t 17)])))
def G8:ay :=
(.clean [0,3] [2] (.block 0 (.loop [0,3] G7)))
def Rq:dH:=⟨1,30,[.tmp 2],(.seq (.ops [.ak 2 (.c (.int .i64 0))]) (.seq (.seq (.ops [.ah 4 (.t 0),.len 5 (.t 4),.bin 6 .lss (.t 5) (.c (.int .i64 1)),.ah 7 (.t 6),.grd 7 false (.ah 8 (.t 0)),.grd 7 false (.len 9 (.t 8)),.grd 7 false (.bin 10 .gtr (.t 9) (.c (.int .i64 8))),.pick 11 (.t 7) (.c (.bool true)) (.t 10)]) (.cond (.t 11) (.seq (.ops [.ak 2 (.c (.int .i64 6))]) .ret) .skip)) (.seq (.seq (.ops [.ak 3 (.c (.int .i64 0))])
   G8) (.seq (.ops [.ak 2 (.c (.int .i64 0))]) .ret))))⟩
def Bl:ay:=(.ops [.ak 4 (.t 8)])
def Bo:ay:=(.block 1 (.seq (.seq (.ops [.load 9 none (.t 3),.len 10 (.t 9),.ak 5 (.t 10)]) (.seq (.qm [] [] none [0,1,2,3,4,5,6,7,8,9,10,11,12,13,14,15,16,17,18] [.ah 11 (.t 5),.bin 12 .gtr (.t 11) (.c (.int .i64 0)),.ah 13 (.t 12),.grd 13 true (.load 14 none (.t 3)),.grd 13 true (.ah 15 (.t 5)),.grd 13 true (.bin 16 .sub (.t 15) (.c (.int .i64 1))),.grd 13 true (.bI 17 2 (.t 14) (.t 16)),.grd 13 true (.au 18 (.t 17) 0),.grd 13 true (.load 19 none (.t 18)),.grd 13 true (.load 20 none (.t 3)),.grd 13 true (.ah 21 (.t 5)),.grd 13 true (.bin 22 .sub (.t 21) (.c (.int .i64 1))),.grd 13 true (.bI 23 2 (.t 20) (.t 22)),.grd 13 true (.au 24 (.t 23) 1),.grd 13 true (.load 25 none (.t 24)),.grd 13 true (.bin 26 .add (.t 19) (.t 25)),.grd 13 true (.ah 27 (.t 4)),.grd 13 true (.bin 28 .eql (.t 26) (.t 27)),.pick 29 (.t 13) (.t 28) (.c (.bool false))]) (.cond (.t 29) (.seq (.ops [.load 30 none (.t 3),.ah 31 (.t 5),.bin 32 .sub (.t 31) (.c (.int .i64 1)),.bI 33 2 (.t 30) (.t 32),.au 34 (.t 33) 1,.load 35 none (.t 34),.bin 36 .add (.t 35) (.c (.int .i64 1)),.bI 37 2 (.t 30) (.t 32),.au 38 (.t 37) 1,.store none 1 (.t 38) (.t 36)]) (.exit 1)) .skip))) (.ops [.load 39 none (.t 3),.ah 40 (.t 4),.build 41 [(.int .i64 0),(.int .i64 0)] [(0,1,(.t 40)),(1,1,(.c (.int .i64 1)))],.fE 42 2 [(.t 41)],.app 43 2 (.t 39) (.t 42),.store none 1 (.t 3) (.t 43)])))
def Rt:dH:=⟨1,45,[.tmp 2],(.seq (.ops [.box 1 (.t 0),.ak 2 (.nil 2)]) (.seq (.ops [.alloc 3 [(.list 2 [])]]) (.seq (.seq (.ops [.load 6 (some 2) (.t 1),.call 7 219 [(.t 6),(.c (.int .i64 0))]]) (.block 0 (.rng (.t 7) [8] Bl Bo))) (.seq (.ops [.load 44 none (.t 3),.ak 2 (.t 44)]) .ret))))⟩
def Bq:ay:=(.seq (.ops [.bin 13 .lss (.t 12) (.t 11)]) (.seq (.cond (.t 13) .skip (.exit 0)) (.seq (.block 1 (.seq (.ops [.bI 14 1 (.t 10) (.t 12),.load 15 none (.t 14),.ak 6 (.t 15)]) (.seq (.ops [.ah 16 (.t 6),.call 17 76 [(.t 16)],.ak 7 (.t 17)]) (.seq (.ops [.ah 18 (.t 7),.bin 19 .neq (.t 18) (.c (.int .i64 0))]) (.cond (.t 19) (.seq (.ops [.ah 20 (.t 7),.ak 4 (.t 20)]) .ret) .skip))))) (.ops [.bin 21 .add (.t 12) (.c (.int .i64 1)),.ah 12 (.t 21)]))))
def G9:ay :=
(.clean [0,1,10,11,12] [0,1,4] (.block 0 (.loop [0,1,10,11,12] Bq)))
def Ru:dH:=⟨2,28,[.tmp 4],(.seq (.ops [.ak 4 (.c (.int .i64 0))]) (.seq (.seq (.ops [.ah 8 (.t 0),.ah 9 (.t 1),.fE 10 1 [(.t 8),(.t 9)],.len 11 (.t 10),.ah 12 (.c (.int .i64 0))])
  G9) (.seq (.seq (.ops [.ah 22 (.t 0),.call 23 166 [(.t 22)],.ah 24 (.t 1),.call 25 166 [(.t 24)],.call 26 99 [(.t 23),(.t 25)],.un 27 .not (.t 26)]) (.cond (.t 27) (.seq (.ops [.ak 4 (.c (.int .i64 22))]) .ret) .skip)) (.seq (.ops [.ak 4 (.c (.int .i64 0))]) .ret))))⟩
def Bv:ay:=(.ops [.ak 7 (.t 11)])
def Bz:ay:=(.block 1 (.seq (.seq (.ops [.ah 12 (.t 7),.load 13 none (.t 6),.bin 14 .eql (.t 12) (.t 13)]) (.cond (.t 14) (.ops [.load 15 none (.t 5),.load 16 none (.t 5),.len 17 (.t 16),.bin 18 .sub (.t 17) (.c (.int .i64 1)),.bI 19 2 (.t 15) (.t 18),.au 20 (.t 19) 1,.load 21 none (.t 20),.bin 22 .add (.t 21) (.c (.int .i64 1)),.bI 23 2 (.t 15) (.t 18),.au 24 (.t 23) 1,.store none 1 (.t 24) (.t 22)]) (.ops [.load 25 none (.t 5),.ah 26 (.t 7),.build 27 [(.int .i64 0),(.int .i64 0)] [(0,1,(.t 26)),(1,1,(.c (.int .i64 1)))],.fE 28 2 [(.t 27)],.app 29 2 (.t 25) (.t 28),.store none 1 (.t 5) (.t 29)]))) (.ops [.ah 30 (.t 7),.bin 31 .add (.t 30) (.c (.int .i64 1)),.store none 1 (.t 6) (.t 31)])))
def Rw:dH:=⟨2,33,[.tmp 4],(.seq (.ops [.ak 4 (.nil 2)]) (.seq (.ops [.alloc 5 [(.list 2 [])]]) (.seq (.ops [.alloc 6 [(.int .i64 0)],.store none 1 (.t 6) (.c (.int .i64 (-1)))]) (.seq (.seq (.ops [.ah 8 (.t 0),.ah 9 (.t 1),.call 10 221 [(.t 8),(.t 9)]]) (.block 0 (.rng (.t 10) [11] Bv Bz))) (.seq (.ops [.load 32 none (.t 5),.ak 4 (.t 32)]) .ret)))))⟩
def zy:dH:=⟨1,39,[.tmp 2],(.seq (.ops [.box 1 (.t 0),.ak 2 (.c (.int .i64 0))]) (.seq (.seq (.qm [] [([0,1,2,3,4,5,6,7,8,9,10,11,12,13],14)] none [15,16] [.au 4 (.t 1) 0,.load 5 none (.t 4),.bin 6 .lss (.t 5) (.c (.int .i64 0)),.ah 7 (.t 6),.grd 7 false (.au 8 (.t 1) 0),.grd 7 false (.load 9 none (.t 8)),.grd 7 false (.bin 10 .gtr (.t 9) (.c (.int .i64 4096))),.pick 11 (.t 7) (.c (.bool true)) (.t 10),.ah 12 (.t 11),.grd 12 false (.au 13 (.t 1) 1),.grd 12 false (.load 14 none (.t 13)),.grd 12 false (.len 15 (.t 14)),.grd 12 false (.au 16 (.t 1) 0),.grd 12 false (.load 17 none (.t 16)),.grd 12 false (.call 18 222 [(.t 17)]),.grd 12 false (.bin 19 .neq (.t 15) (.t 18)),.pick 20 (.t 12) (.c (.bool true)) (.t 19)]) (.cond (.t 20) (.seq (.ops [.ak 2 (.c (.int .i64 3))]) .ret) .skip)) (.seq (.seq (.ops [.au 21 (.t 1) 0,.load 22 none (.t 21),.bin 23 .rem (.t 22) (.c (.int .i64 64)),.ak 3 (.t 23)]) (.seq (.ops [.ah 24 (.t 3),.bin 25 .gtr (.t 24) (.c (.int .i64 0)),.ah 26 (.t 25),.grd 26 true (.au 27 (.t 1) 1),.grd 26 true (.load 28 none (.t 27)),.grd 26 true (.au 29 (.t 1) 1),.grd 26 true (.load 30 none (.t 29)),.grd 26 true (.len 31 (.t 30)),.grd 26 true (.bin 32 .sub (.t 31) (.c (.int .i64 1))),.grd 26 true (.bI 33 1 (.t 28) (.t 32)),.grd 26 true (.load 34 none (.t 33)),.grd 26 true (.ah 35 (.t 3)),.grd 26 true (.bin 36 .shr (.t 34) (.t 35)),.grd 26 true (.bin 37 .neq (.t 36) (.c (.int .u64 0))),.pick 38 (.t 26) (.t 37) (.c (.bool false))]) (.cond (.t 38) (.seq (.ops [.ak 2 (.c (.int .i64 3))]) .ret) .skip))) (.seq (.ops [.ak 2 (.c (.int .i64 0))]) .ret))))⟩
def Rx:dH:=⟨1,13,[.tmp 2],(.seq (.ops [.ak 2 (.c (.int .i64 0))]) (.seq (.seq (.ops [.ah 3 (.t 0),.len 4 (.t 3),.bin 5 .lss (.t 4) (.c (.int .i64 1)),.ah 6 (.t 5),.grd 6 false (.ah 7 (.t 0)),.grd 6 false (.len 8 (.t 7)),.grd 6 false (.bin 9 .gtr (.t 8) (.c (.int .i64 8))),.pick 10 (.t 6) (.c (.bool true)) (.t 9)]) (.cond (.t 10) (.seq (.ops [.ak 2 (.c (.int .i64 6))]) .ret) .skip)) (.seq (.seq (.ops [.ah 11 (.t 0),.call 12 223 [(.t 11),(.c (.func 227 []))]]) (.cond (.t 12) (.seq (.ops [.ak 2 (.c (.int .i64 2))]) .ret) .skip)) (.seq (.ops [.ak 2 (.c (.int .i64 0))]) .ret))))⟩
def Ry:dH:=⟨1,5,[.tmp 2],(.seq (.ops [.ak 2 (.nil 1)]) (.seq (.ops [.ah 3 (.t 0),.call 4 228 [(.t 3),(.c (.func 229 []))],.ak 2 (.t 4)]) .ret))⟩
def He:dH:=⟨1,16,[.cell 2 (some 2),.tmp 3],(.seq (.ops [.alloc 2 [(.int .i64 0),(.list 1 [])],.ak 3 (.c (.int .i64 0))]) (.seq (.seq (.ops [.ah 4 (.t 0),.bin 5 .lss (.t 4) (.c (.int .i64 0)),.ah 6 (.t 5),.grd 6 false (.ah 7 (.t 0)),.grd 6 false (.bin 8 .gtr (.t 7) (.c (.int .i64 4096))),.pick 9 (.t 6) (.c (.bool true)) (.t 8)]) (.cond (.t 9) (.seq (.ops [.build 10 [(.int .i64 0),(.list 1 [])] [],.store none 2 (.t 2) (.t 10),.ak 3 (.c (.int .i64 2))]) .ret) .skip)) (.seq (.ops [.ah 11 (.t 0),.ah 12 (.t 0),.call 13 222 [(.t 12)],.make 14 (.int .u64 0) (.t 13) (.t 13),.build 15 [(.int .i64 0),(.list 1 [])] [(0,1,(.t 11)),(1,1,(.t 14))],.store none 2 (.t 2) (.t 15),.ak 3 (.c (.int .i64 0))]) .ret)))⟩
def Rz:dH:=⟨2,12,[.cell 4 (some 2),.tmp 5],(.seq (.ops [.box 2 (.t 0),.box 3 (.t 1),.alloc 4 [(.int .i64 0),(.list 1 [])],.ak 5 (.c (.int .i64 0))]) (.seq (.ops [.build 6 [.pR] [(0,1,(.c (.func 233 [])))],.load 7 (some 2) (.t 2),.load 8 (some 2) (.t 3),.call 9 234 [(.t 6),(.t 7),(.t 8)],.ext 10 (.t 9) 0,.ext 11 (.t 9) 1,.store none 2 (.t 4) (.t 10),.ak 5 (.t 11)]) .ret))⟩
def Em:dH:=⟨2,19,[.tmp 4],(.seq (.ops [.ak 4 (.c (.bool false))]) (.seq (.ops [.ah 5 (.t 0),.bin 6 .geq (.t 5) (.c (.int .i64 1)),.ah 7 (.t 6),.grd 7 true (.ah 8 (.t 0)),.grd 7 true (.bin 9 .leq (.t 8) (.c (.int .i64 4096))),.pick 10 (.t 7) (.t 9) (.c (.bool false)),.ah 11 (.t 10),.grd 11 true (.ah 12 (.t 1)),.grd 11 true (.bin 13 .geq (.t 12) (.c (.int .i64 1))),.pick 14 (.t 11) (.t 13) (.c (.bool false)),.ah 15 (.t 14),.grd 15 true (.ah 16 (.t 1)),.grd 15 true (.bin 17 .leq (.t 16) (.c (.int .i64 4096))),.pick 18 (.t 15) (.t 17) (.c (.bool false)),.ak 4 (.t 18)]) .ret))⟩
def RD:dH:=⟨2,11,[.tmp 4],(.seq (.ops [.ak 4 (.c (.int .i64 0))]) (.seq (.ops [.ah 5 (.t 0),.ah 6 (.t 1),.bin 7 .add (.t 5) (.t 6),.bin 8 .sub (.t 7) (.c (.int .i64 1)),.ah 9 (.t 1),.bin 10 .quo (.t 8) (.t 9),.ak 4 (.t 10)]) .ret))⟩
def BA:ay:=(.ops [.ak 12 (.t 37)])
def BD:ay:=(.block 1 (.seq (.qm [] [([0,1,2,3,4,5,6,7,8],9)] (some ([10,11,13],[12],14,[([],15)])) [] [.au 39 (.t 3) 2,.load 40 none (.t 39),.ah 41 (.t 12),.load 42 none (.t 5),.au 43 (.t 3) 2,.load 44 none (.t 43),.ah 45 (.t 12),.bI 46 1 (.t 44) (.t 45),.load 47 none (.t 46),.jU 48 (.t 42) [(.t 47)],.ah 38 (.t 48),.ext 49 (.t 38) 0,.bI 51 1 (.t 40) (.t 41),.ext 50 (.t 38) 1,.store none 1 (.t 51) (.t 49),.store none 1 (.t 11) (.t 50)]) (.seq (.ops [.load 52 none (.t 11),.bin 53 .neq (.t 52) (.c (.int .i64 0))]) (.cond (.t 53) (.seq (.qm [(.t 11)] [] (some ([0],[2,1],3,[([],4),([],5)])) [] [.build 54 [(.int .i64 0),(.int .i64 0),(.list 1 []),(.int .i64 0),(.list 1 [])] [],.Ph 56 none (.t 11),.build 55 [(.int .i64 0),(.int .i64 0)] [],.store none 5 (.t 6) (.t 54),.store none 2 (.t 7) (.t 55),.store none 1 (.t 8) (.t 56)]) .ret) .skip))))
def En:dH:=⟨3,59,[.cell 6 (some 5),.cell 7 (some 2),.cell 8 none],(.seq (.ops [.box 3 (.t 0),.box 4 (.t 1),.box 5 (.t 2),.alloc 6 [(.int .i64 0),(.int .i64 0),(.list 1 []),(.int .i64 0),(.list 1 [])],.alloc 7 [(.int .i64 0),(.int .i64 0)],.alloc 8 [(.int .i64 0)]]) (.seq (.seq (.ops [.load 13 (some 5) (.t 3),.call 14 181 [(.t 13)],.ak 9 (.t 14)]) (.seq (.ops [.ah 15 (.t 9),.bin 16 .neq (.t 15) (.c (.int .i64 0))]) (.cond (.t 16) (.seq (.ops [.build 17 [(.int .i64 0),(.int .i64 0),(.list 1 []),(.int .i64 0),(.list 1 [])] [],.build 18 [(.int .i64 0),(.int .i64 0)] [],.ah 19 (.t 9),.store none 5 (.t 6) (.t 17),.store none 2 (.t 7) (.t 18),.store none 1 (.t 8) (.t 19)]) .ret) .skip))) (.seq (.ops [.load 21 (some 5) (.t 3),.load 22 (some 2) (.t 4),.call 23 235 [(.t 21),(.t 22)],.ah 20 (.t 23),.ext 24 (.t 20) 0,.ext 25 (.t 20) 1,.alloc 10 [(.int .i64 0),(.int .i64 0)],.alloc 11 [(.int .i64 0)],.store none 2 (.t 10) (.t 24),.store none 1 (.t 11) (.t 25)]) (.seq (.seq (.ops [.load 26 none (.t 11),.bin 27 .neq (.t 26) (.c (.int .i64 0))]) (.cond (.t 27) (.seq (.qm [(.t 11)] [] (some ([0],[2,1],3,[([],4),([],5)])) [] [.build 28 [(.int .i64 0),(.int .i64 0),(.list 1 []),(.int .i64 0),(.list 1 [])] [],.Ph 30 none (.t 11),.build 29 [(.int .i64 0),(.int .i64 0)] [],.store none 5 (.t 6) (.t 28),.store none 2 (.t 7) (.t 29),.store none 1 (.t 8) (.t 30)]) .ret) .skip)) (.seq (.ops [.au 31 (.t 3) 2,.load 32 none (.t 31),.call 33 107 [(.t 32)],.au 34 (.t 3) 2,.store none 1 (.t 34) (.t 33)]) (.seq (.seq (.ops [.load 35 (some 2) (.t 10),.call 36 176 [(.t 35)]]) (.block 0 (.rng (.t 36) [37] BA BD))) (.seq (.qm [(.t 10)] [] (some ([0],[1],2,[([],3),([],4)])) [] [.load 57 (some 5) (.t 3),.Ph 58 (some 2) (.t 10),.store none 5 (.t 6) (.t 57),.store none 2 (.t 7) (.t 58),.store none 1 (.t 8) (.c (.int .i64 0))]) .ret)))))))⟩
def Ld:dH:=⟨1,8,[.tmp 2,.tmp 3],(.seq (.ops [.ak 2 (.c (.int .i64 0)),.ak 3 (.c (.int .i64 0))]) (.seq (.seq (.ops [.ah 4 (.t 0),.bin 5 .eql (.t 4) (.c (.int .i64 4096))]) (.cond (.t 5) (.seq (.ops [.ak 2 (.c (.int .i64 0)),.ak 3 (.c (.int .i64 6))]) .ret) .skip)) (.seq (.ops [.ah 6 (.t 0),.bin 7 .add (.t 6) (.c (.int .i64 1)),.ak 2 (.t 7),.ak 3 (.c (.int .i64 0))]) .ret)))⟩
def RF:dH:=⟨1,4,[.tmp 2],(.seq (.ops [.box 1 (.t 0),.ak 2 (.c .pR)]) (.seq (.ops [.Jq 3 236 [(.t 1)],.ak 2 (.t 3)]) .ret))⟩
def Eo:dH:=⟨2,31,[.tmp 4],(.seq (.ops [.box 2 (.t 0),.ak 4 (.c (.bool false))]) (.seq (.ops [.load 5 (some 2) (.t 2),.call 6 161 [(.t 5)],.bin 7 .eql (.t 6) (.c (.int .i64 0)),.ah 8 (.t 7),.grd 8 true (.ah 9 (.t 1)),.grd 8 true (.bin 10 .geq (.t 9) (.c (.int .i64 0))),.pick 11 (.t 8) (.t 10) (.c (.bool false)),.ah 12 (.t 11),.grd 12 true (.ah 13 (.t 1)),.grd 12 true (.au 14 (.t 2) 0),.grd 12 true (.load 15 none (.t 14)),.grd 12 true (.bin 16 .lss (.t 13) (.t 15)),.pick 17 (.t 12) (.t 16) (.c (.bool false)),.ah 18 (.t 17),.grd 18 true (.au 19 (.t 2) 1),.grd 18 true (.load 20 none (.t 19)),.grd 18 true (.ah 21 (.t 1)),.grd 18 true (.bin 22 .quo (.t 21) (.c (.int .i64 64))),.grd 18 true (.bI 23 1 (.t 20) (.t 22)),.grd 18 true (.load 24 none (.t 23)),.grd 18 true (.ah 25 (.t 1)),.grd 18 true (.bin 26 .rem (.t 25) (.c (.int .i64 64))),.grd 18 true (.bin 27 .shr (.t 24) (.t 26)),.grd 18 true (.bin 28 .and (.t 27) (.c (.int .u64 1))),.grd 18 true (.bin 29 .eql (.t 28) (.c (.int .u64 1))),.pick 30 (.t 18) (.t 29) (.c (.bool false)),.ak 4 (.t 30)]) .ret))⟩
def RG:dH:=⟨1,10,[.tmp 2,.tmp 3,.tmp 4],(.seq (.ops [.ak 2 (.c (.int .i64 0)),.ak 3 (.nil 1),.ak 4 (.c (.int .i64 0))]) (.seq (.ops [.ah 5 (.t 0),.call 6 237 [(.t 5),(.c (.func 238 []))],.ext 7 (.t 6) 0,.ext 8 (.t 6) 1,.ext 9 (.t 6) 2,.ak 2 (.t 7),.ak 3 (.t 8),.ak 4 (.t 9)]) .ret))⟩
def RH:dH:=⟨1,10,[.tmp 2,.tmp 3,.tmp 4],(.seq (.ops [.ak 2 (.nil 2),.ak 3 (.nil 1),.ak 4 (.c (.int .i64 0))]) (.seq (.ops [.ah 5 (.t 0),.call 6 239 [(.t 5),(.c (.func 240 []))],.ext 7 (.t 6) 0,.ext 8 (.t 6) 1,.ext 9 (.t 6) 2,.ak 2 (.t 7),.ak 3 (.t 8),.ak 4 (.t 9)]) .ret))⟩
def RI:dH:=⟨2,9,[.tmp 4],(.seq (.ops [.ak 4 (.nil 2)]) (.seq (.ops [.ah 5 (.t 0),.ah 6 (.t 1),.call 7 214 [(.t 5),(.t 6),(.c (.func 243 []))],.call 8 213 [(.t 7)],.ak 4 (.t 8)]) .ret))⟩
def rF:ay:=(.seq (.ops [.bin 41 .lss (.t 40) (.t 39)]) (.seq (.cond (.t 41) .skip (.exit 0)) (.seq (.block 1 (.seq (.ops [.ah 42 (.t 40),.bI 43 1 (.t 38) (.t 40),.load 44 none (.t 43),.ak 3 (.t 42),.ak 4 (.t 44)]) (.seq (.ops [.ah 45 (.t 4),.bin 46 .lss (.t 45) (.c (.int .i64 0)),.ah 47 (.t 46),.grd 47 false (.ah 48 (.t 4)),.grd 47 false (.bin 49 .gtr (.t 48) (.c (.int .i64 4096))),.pick 50 (.t 47) (.c (.bool true)) (.t 49),.ah 51 (.t 50),.grd 51 false (.ah 52 (.t 4)),.grd 51 false (.bin 53 .gtr (.t 52) (.c (.int .i64 0))),.grd 51 false (.ah 54 (.t 53)),.grd 54 true (.au 55 (.t 1) 3),.grd 54 true (.load 56 (some 2) (.t 55)),.grd 54 true (.ah 57 (.t 3)),.grd 54 true (.call 58 177 [(.t 56),(.t 57)]),.grd 54 true (.un 59 .not (.t 58)),.grd 51 false (.pick 60 (.t 54) (.t 59) (.c (.bool false))),.pick 61 (.t 51) (.c (.bool true)) (.t 60)]) (.cond (.t 61) (.seq (.ops [.ak 2 (.c (.int .i64 3))]) .ret) .skip)))) (.ops [.bin 62 .add (.t 40) (.c (.int .i64 1)),.ah 40 (.t 62)]))))
def Hf:ay :=
(.clean [1,38,39,40] [2] (.block 0 (.loop [1,38,39,40] rF)))
def BF:dH:=⟨1,63,[.tmp 2],(.seq (.ops [.box 1 (.t 0),.ak 2 (.c (.int .i64 0))]) (.seq (.seq (.qm [] [([0,1,2,3],4),([5,6,7,8,9,10,11,12,13],14),([15,16,17,18,19],20)] none [21,22,23,24,25,26,27,28,29,30,31] [.au 5 (.t 1) 0,.load 6 none (.t 5),.au 7 (.t 1) 1,.load 8 none (.t 7),.call 9 172 [(.t 6),(.t 8)],.un 10 .not (.t 9),.ah 11 (.t 10),.grd 11 false (.au 12 (.t 1) 2),.grd 11 false (.load 13 none (.t 12)),.grd 11 false (.len 14 (.t 13)),.grd 11 false (.au 15 (.t 1) 0),.grd 11 false (.load 16 none (.t 15)),.grd 11 false (.au 17 (.t 1) 1),.grd 11 false (.load 18 none (.t 17)),.grd 11 false (.call 19 173 [(.t 16),(.t 18)]),.grd 11 false (.bin 20 .neq (.t 14) (.t 19)),.pick 21 (.t 11) (.c (.bool true)) (.t 20),.ah 22 (.t 21),.grd 22 false (.au 23 (.t 1) 3),.grd 22 false (.load 24 (some 2) (.t 23)),.grd 22 false (.call 25 161 [(.t 24)]),.grd 22 false (.bin 26 .neq (.t 25) (.c (.int .i64 0))),.pick 27 (.t 22) (.c (.bool true)) (.t 26),.ah 28 (.t 27),.grd 28 false (.au 29 (.t 1) 3),.grd 28 false (.au 30 (.t 29) 0),.grd 28 false (.load 31 none (.t 30)),.grd 28 false (.au 32 (.t 1) 2),.grd 28 false (.load 33 none (.t 32)),.grd 28 false (.len 34 (.t 33)),.grd 28 false (.bin 35 .neq (.t 31) (.t 34)),.pick 36 (.t 28) (.c (.bool true)) (.t 35)]) (.cond (.t 36) (.seq (.ops [.ak 2 (.c (.int .i64 3))]) .ret) .skip)) (.seq (.seq (.ops [.au 37 (.t 1) 2,.load 38 none (.t 37),.len 39 (.t 38),.ah 40 (.c (.int .i64 0))])
   Hf) (.seq (.ops [.ak 2 (.c (.int .i64 0))]) .ret))))⟩
def RJ:dH:=⟨2,9,[.tmp 4],(.seq (.ops [.ak 4 (.nil 1)]) (.seq (.ops [.ah 5 (.t 0),.call 6 245 [(.t 5)],.ah 7 (.t 1),.lin 8 244 (.t 6) [(.t 7)],.ak 4 (.t 8)]) .ret))⟩
def RN:dH:=⟨2,9,[.tmp 4],(.seq (.ops [.ak 4 (.nil 1)]) (.seq (.ops [.ah 5 (.t 0),.call 6 245 [(.t 5)],.ah 7 (.t 1),.lin 8 246 (.t 6) [(.t 7),(.c (.func 247 []))],.ak 4 (.t 8)]) .ret))⟩
def aer:ay:=(.seq (.seq (.ops [.ah 6 (.t 4),.load 7 none (.t 1),.len 8 (.t 7),.bin 9 .lss (.t 6) (.t 8)]) (.cond (.t 9) .skip (.exit 0))) (.seq (.block 1 (.seq (.qm [] [] none [0,1,2,3,4,5,6] [.load 13 none (.t 2),.load 14 none (.t 1),.ah 15 (.t 4),.Js 16 8 (.t 14) (some (.t 15)) none,.len 17 (.t 16),.mn 18 false (.t 13) (.t 17),.ak 5 (.t 18)]) (.seq (.ops [.ah 19 (.t 0),.load 20 none (.t 1),.ah 21 (.t 4),.ah 22 (.t 4),.ah 23 (.t 5),.bin 24 .add (.t 22) (.t 23),.ah 25 (.t 4),.ah 26 (.t 5),.bin 27 .add (.t 25) (.t 26),.sl4 28 8 (.t 20) (.t 21) (.t 24) (.t 27),.yield 29 (.t 19) [(.t 28)],.un 30 .not (.t 29)]) (.cond (.t 30) .ret .skip)))) (.ops [.ah 10 (.t 4),.load 11 none (.t 2),.bin 12 .add (.t 10) (.t 11),.ak 4 (.t 12)])))
def aes:ay :=
(.clean [0,1,2,4] [] (.block 0 (.loop [0,1,2,4] aer)))
def aeu:dH:=⟨3,31,[],(.seq (.ops [.ak 4 (.c (.int .i64 0))])
 aes)⟩
def aev:ay:=(.ops [.ak 4 (.t 6)])
def aew:ay:=(.block 1 (.ops [.load 7 none (.t 3),.ah 8 (.t 4),.conv 9 .u64 (.t 8),.bin 10 .xor (.t 7) (.t 9),.bin 11 .mul (.t 10) (.c (.int .u64 1099511628211)),.store none 1 (.t 3) (.t 11)]))
def aex:dH:=⟨1,16,[.tmp 2],(.seq (.ops [.ak 2 (.c (.int .u64 0))]) (.seq (.ops [.alloc 3 [(.int .u64 0)],.store none 1 (.t 3) (.c (.int .u64 14695981039346656037))]) (.seq (.seq (.ops [.ah 5 (.t 0)]) (.block 0 (.rng (.t 5) [6] aev aew))) (.seq (.ops [.load 12 none (.t 3),.load 13 none (.t 3),.bin 14 .shr (.t 13) (.c (.int .u64 32)),.bin 15 .xor (.t 12) (.t 14),.ak 2 (.t 15)]) .ret))))⟩
def aey:ay:=(.seq (.ops [.bin 15 .lss (.t 14) (.c (.int .i64 8))]) (.seq (.cond (.t 15) .skip (.exit 2)) (.seq (.block 3 (.seq (.ops [.idx 16 (.t 13) (.t 14) 8 1 none,.ak 6 (.t 16)]) (.seq (.ops [.ah 17 (.t 0),.ah 18 (.t 6),.yield 19 (.t 17) [(.t 18)],.un 20 .not (.t 19)]) (.cond (.t 20) .ret .skip)))) (.ops [.bin 21 .add (.t 14) (.c (.int .i64 1)),.ah 14 (.t 21)]))))
def aez:ay :=
(.clean [0,7,8,9,13,14] [0,7,8,9] (.block 2 (.loop [0,7,8,9,13,14] aey)))
def aeA:ay:=(.seq (.ops [.bin 10 .lss (.t 9) (.t 8)]) (.seq (.cond (.t 10) .skip (.exit 0)) (.seq (.block 1 (.seq (.ops [.bI 11 8 (.t 7) (.t 9),.load 12 (some 8) (.t 11),.alloc 4 [(.int .u8 0),(.int .u8 0),(.int .u8 0),(.int .u8 0),(.int .u8 0),(.int .u8 0),(.int .u8 0),(.int .u8 0)],.store none 8 (.t 4) (.t 12)]) (.seq (.ops [.load 13 (some 8) (.t 4),.ah 14 (.c (.int .i64 0))])
    aez))) (.ops [.bin 22 .add (.t 9) (.c (.int .i64 1)),.ah 9 (.t 22)]))))
def aeB:ay :=
(.clean [0,7,8,9] [] (.block 0 (.loop [0,7,8,9] aeA)))
def aeC:dH:=⟨2,23,[],(.seq (.ops [.load 7 none (.t 1),.len 8 (.t 7),.ah 9 (.c (.int .i64 0))])
 aeB)⟩
def aeD:ay:=(.seq (.seq (.ops [.ah 7 (.t 6),.ah 8 (.t 0),.len 9 (.t 8),.bin 10 .lss (.t 7) (.t 9)]) (.cond (.t 10) .skip (.exit 0))) (.seq (.block 1 (.seq (.ops [.ah 13 (.t 6),.bin 14 .add (.t 13) (.c (.int .i64 1)),.ah 15 (.t 0),.len 16 (.t 15),.bin 17 .lss (.t 14) (.t 16)]) (.cond (.t 17) (.qm [] [([0,1,2,3,4,5,6,7,8,9,10],11),([],12)] (some ([],[],13,[])) [14] [.ah 18 (.t 5),.ah 19 (.t 1),.ah 20 (.t 0),.ah 21 (.t 6),.bI 22 1 (.t 20) (.t 21),.load 23 none (.t 22),.ah 24 (.t 0),.ah 25 (.t 6),.bin 26 .add (.t 25) (.c (.int .i64 1)),.bI 27 1 (.t 24) (.t 26),.load 28 none (.t 27),.jU 29 (.t 19) [(.t 23),(.t 28)],.fE 30 1 [(.t 29)],.app 31 1 (.t 18) (.t 30),.ak 5 (.t 31)]) (.ops [.ah 32 (.t 5),.ah 33 (.t 0),.ah 34 (.t 6),.bI 35 1 (.t 33) (.t 34),.load 36 none (.t 35),.fE 37 1 [(.t 36)],.app 38 1 (.t 32) (.t 37),.ak 5 (.t 38)])))) (.ops [.ah 11 (.t 6),.bin 12 .add (.t 11) (.c (.int .i64 2)),.ak 6 (.t 12)])))
def aeE:ay :=
(.clean [0,1,5,6,31,38] [4,5] (.block 0 (.loop [0,1,5,6,31,38] aeD)))
def aeF:dH:=⟨2,40,[.tmp 4],(.seq (.ops [.ak 4 (.nil 1)]) (.seq (.ops [.ak 5 (.nil 1)]) (.seq (.seq (.ops [.ak 6 (.c (.int .i64 0))])
   aeE) (.seq (.ops [.ah 39 (.t 5),.ak 4 (.t 39)]) .ret))))⟩
def aeG:ay:=(.seq (.ops [.bin 8 .lss (.t 7) (.c (.int .i64 8))]) (.seq (.cond (.t 8) .skip (.exit 0)) (.seq (.block 1 (.seq (.ops [.ah 9 (.t 7),.ak 6 (.t 9)]) (.qm [] [] (some ([0,3,4,5,6,7,13],[1,2,8,9,10,11,12],14,[([15],16)])) [] [.ah 10 (.t 6),.ah 13 (.t 0),.ah 14 (.t 6),.bin 15 .mul (.c (.int .i64 8)) (.t 14),.bin 16 .shr (.t 13) (.t 15),.conv 17 .u8 (.t 16),.wM 23 (.t 5) (.t 10) 16 1,.ah 11 (.t 6),.bin 12 .add (.c (.int .i64 8)) (.t 11),.ah 18 (.t 1),.ah 19 (.t 6),.bin 20 .mul (.c (.int .i64 8)) (.t 19),.bin 21 .shr (.t 18) (.t 20),.conv 22 .u8 (.t 21),.store none 1 (.t 23) (.t 17),.wM 24 (.t 5) (.t 12) 16 1,.store none 1 (.t 24) (.t 22)]))) (.ops [.bin 25 .add (.t 7) (.c (.int .i64 1)),.ah 7 (.t 25)]))))
def aeH:ay :=
(.clean [0,1,5,7] [4,5] (.block 0 (.loop [0,1,5,7] aeG)))
def aeI:dH:=⟨2,28,[.tmp 4],(.seq (.ops [.ak 4 (.c (.int .u64 0))]) (.seq (.ops [.alloc 5 [(.int .u8 0),(.int .u8 0),(.int .u8 0),(.int .u8 0),(.int .u8 0),(.int .u8 0),(.int .u8 0),(.int .u8 0),(.int .u8 0),(.int .u8 0),(.int .u8 0),(.int .u8 0),(.int .u8 0),(.int .u8 0),(.int .u8 0),(.int .u8 0)]]) (.seq (.seq (.ops [.ah 7 (.c (.int .i64 0))])
   aeH) (.seq (.ops [.asl 26 16 (.t 5),.call 27 248 [(.t 26)],.ak 4 (.t 27)]) .ret))))⟩
def aeJ:dH:=⟨2,11,[.tmp 4],(.seq (.ops [.ak 4 (.c (.int .i64 0))]) (.seq (.ops [.ah 5 (.t 0),.ah 6 (.t 1),.bin 7 .add (.t 5) (.t 6),.bin 8 .sub (.t 7) (.c (.int .i64 1)),.ah 9 (.t 1),.bin 10 .quo (.t 8) (.t 9),.ak 4 (.t 10)]) .ret))⟩
def aeK:ay:=(.seq (.ops [.bin 18 .lss (.t 17) (.t 16)]) (.seq (.cond (.t 18) .skip (.exit 0)) (.seq (.block 1 (.seq (.ops [.ah 19 (.t 17),.bI 20 1 (.t 15) (.t 17),.load 21 none (.t 20),.ak 7 (.t 19),.ak 8 (.t 21)]) (.seq (.ops [.ah 22 (.t 1),.ah 23 (.t 7),.bI 24 1 (.t 22) (.t 23),.load 25 none (.t 24),.ak 9 (.t 25)]) (.seq (.ops [.ah 26 (.t 2),.ah 27 (.t 8),.ah 28 (.t 9),.jU 29 (.t 26) [(.t 27),(.t 28)],.un 30 .not (.t 29)]) (.cond (.t 30) (.seq (.ops [.ak 6 (.c (.bool false))]) .ret) .skip))))) (.ops [.bin 31 .add (.t 17) (.c (.int .i64 1)),.ah 17 (.t 31)]))))
def aeL:ay :=
(.clean [0,1,2,15,16,17] [6] (.block 0 (.loop [0,1,2,15,16,17] aeK)))
def aeM:dH:=⟨3,32,[.tmp 6],(.seq (.ops [.ak 6 (.c (.bool false))]) (.seq (.seq (.ops [.ah 10 (.t 0),.len 11 (.t 10),.ah 12 (.t 1),.len 13 (.t 12),.bin 14 .neq (.t 11) (.t 13)]) (.cond (.t 14) (.seq (.ops [.ak 6 (.c (.bool false))]) .ret) .skip)) (.seq (.seq (.ops [.ah 15 (.t 0),.len 16 (.t 15),.ah 17 (.c (.int .i64 0))])
   aeL) (.seq (.ops [.ak 6 (.c (.bool true))]) .ret))))⟩
def aeN:ay:=(.seq (.ops [.bin 14 .lss (.t 13) (.t 12)]) (.seq (.cond (.t 14) .skip (.exit 0)) (.seq (.block 1 (.seq (.ops [.ah 15 (.t 13),.ak 5 (.t 15)]) (.seq (.qm [] [] none [0,1,2,3,4,5,6,7,8] [.ah 16 (.t 0),.ah 17 (.t 5),.bI 18 1 (.t 16) (.t 17),.load 19 none (.t 18),.ah 20 (.t 1),.ah 21 (.t 5),.bI 22 1 (.t 20) (.t 21),.load 23 none (.t 22),.bin 24 .neq (.t 19) (.t 23)]) (.cond (.t 24) (.seq (.ops [.ak 4 (.c (.bool false))]) .ret) .skip)))) (.ops [.bin 25 .add (.t 13) (.c (.int .i64 1)),.ah 13 (.t 25)]))))
def aeO:ay :=
(.clean [0,1,12,13] [4] (.block 0 (.loop [0,1,12,13] aeN)))
def aeP:dH:=⟨2,26,[.tmp 4],(.seq (.ops [.ak 4 (.c (.bool false))]) (.seq (.seq (.ops [.ah 6 (.t 0),.len 7 (.t 6),.ah 8 (.t 1),.len 9 (.t 8),.bin 10 .neq (.t 7) (.t 9)]) (.cond (.t 10) (.seq (.ops [.ak 4 (.c (.bool false))]) .ret) .skip)) (.seq (.seq (.ops [.ah 11 (.t 0),.len 12 (.t 11),.ah 13 (.c (.int .i64 0))])
   aeO) (.seq (.ops [.ak 4 (.c (.bool true))]) .ret))))⟩
def aeQ:ay:=(.seq (.ops [.bin 14 .lss (.t 13) (.t 12)]) (.seq (.cond (.t 14) .skip (.exit 0)) (.seq (.block 1 (.seq (.ops [.ah 15 (.t 13),.ak 5 (.t 15)]) (.seq (.qm [] [] none [0,1,2,3,4,5,6,7,8] [.ah 16 (.t 0),.ah 17 (.t 5),.bI 18 1 (.t 16) (.t 17),.load 19 none (.t 18),.ah 20 (.t 1),.ah 21 (.t 5),.bI 22 1 (.t 20) (.t 21),.load 23 none (.t 22),.bin 24 .neq (.t 19) (.t 23)]) (.cond (.t 24) (.seq (.ops [.ak 4 (.c (.bool false))]) .ret) .skip)))) (.ops [.bin 25 .add (.t 13) (.c (.int .i64 1)),.ah 13 (.t 25)]))))
def aeR:ay :=
(.clean [0,1,12,13] [4] (.block 0 (.loop [0,1,12,13] aeQ)))
def aeS:dH:=⟨2,26,[.tmp 4],(.seq (.ops [.ak 4 (.c (.bool false))]) (.seq (.seq (.ops [.ah 6 (.t 0),.len 7 (.t 6),.ah 8 (.t 1),.len 9 (.t 8),.bin 10 .neq (.t 7) (.t 9)]) (.cond (.t 10) (.seq (.ops [.ak 4 (.c (.bool false))]) .ret) .skip)) (.seq (.seq (.ops [.ah 11 (.t 0),.len 12 (.t 11),.ah 13 (.c (.int .i64 0))])
   aeR) (.seq (.ops [.ak 4 (.c (.bool true))]) .ret))))⟩
def aeT:dH:=⟨1,16,[.tmp 2],(.seq (.ops [.ak 2 (.nil 1)]) (.seq (.drs [] [2,15] [.ah 3 (.t 0),.au 4 (.t 3) 0,.au 5 (.t 4) 0,.au 6 (.t 5) 0,.au 7 (.t 6) 2,.load 8 none (.t 7),.ah 9 (.t 0),.au 10 (.t 9) 0,.au 11 (.t 10) 0,.au 12 (.t 11) 4,.load 13 none (.t 12),.bI 14 1 (.t 8) (.t 13),.load 15 none (.t 14),.ak 2 (.t 15)]
  [⟨[([0,6],1),([2,3,4,5],7)],none,[8,9,10,11,12,13],[0,6,1,2,3,4,5,7,8,9,10,11,12,13],false⟩,⟨[([0,6],7),([8,9,10],1)],none,[2,3,4,5,11,12,13],[0,6,7,8,9,10,1,2,3,4,5,11,12,13],false⟩]) .ret))⟩
def aeU:dH:=⟨2,42,[.tmp 4],(.seq (.ops [.ak 4 (.nil 2)]) (.seq (.seq (.ops [.ah 6 (.t 0),.len 7 (.t 6),.ak 5 (.t 7)]) (.seq (.qm [] [] none [0,1,2,3,4,5,6,7,8,9,10,11,12,13,14,15,16,17,18] [.ah 8 (.t 5),.bin 9 .gtr (.t 8) (.c (.int .i64 0)),.ah 10 (.t 9),.grd 10 true (.ah 11 (.t 0)),.grd 10 true (.ah 12 (.t 5)),.grd 10 true (.bin 13 .sub (.t 12) (.c (.int .i64 1))),.grd 10 true (.bI 14 2 (.t 11) (.t 13)),.grd 10 true (.au 15 (.t 14) 0),.grd 10 true (.load 16 none (.t 15)),.grd 10 true (.ah 17 (.t 0)),.grd 10 true (.ah 18 (.t 5)),.grd 10 true (.bin 19 .sub (.t 18) (.c (.int .i64 1))),.grd 10 true (.bI 20 2 (.t 17) (.t 19)),.grd 10 true (.au 21 (.t 20) 1),.grd 10 true (.load 22 none (.t 21)),.grd 10 true (.bin 23 .add (.t 16) (.t 22)),.grd 10 true (.ah 24 (.t 1)),.grd 10 true (.bin 25 .eql (.t 23) (.t 24)),.pick 26 (.t 10) (.t 25) (.c (.bool false))]) (.cond (.t 26) (.seq (.ops [.ah 27 (.t 0),.ah 28 (.t 5),.bin 29 .sub (.t 28) (.c (.int .i64 1)),.bI 30 2 (.t 27) (.t 29),.au 31 (.t 30) 1,.load 32 none (.t 31),.bin 33 .add (.t 32) (.c (.int .i64 1)),.bI 34 2 (.t 27) (.t 29),.au 35 (.t 34) 1,.store none 1 (.t 35) (.t 33)]) (.seq (.ops [.ah 36 (.t 0),.ak 4 (.t 36)]) .ret)) .skip))) (.seq (.ops [.ah 37 (.t 0),.ah 38 (.t 1),.build 39 [(.int .i64 0),(.int .i64 0)] [(0,1,(.t 38)),(1,1,(.c (.int .i64 1)))],.fE 40 2 [(.t 39)],.app 41 2 (.t 37) (.t 40),.ak 4 (.t 41)]) .ret)))⟩
def aeV:ay:=(.seq (.seq (.ops [.ah 6 (.t 4),.load 7 none (.t 1),.len 8 (.t 7),.bin 9 .lss (.t 6) (.t 8)]) (.cond (.t 9) .skip (.exit 0))) (.seq (.block 1 (.seq (.qm [] [] none [0,1,2,3,4,5,6] [.load 13 none (.t 2),.load 14 none (.t 1),.ah 15 (.t 4),.Js 16 1 (.t 14) (some (.t 15)) none,.len 17 (.t 16),.mn 18 false (.t 13) (.t 17),.ak 5 (.t 18)]) (.seq (.ops [.ah 19 (.t 0),.load 20 none (.t 1),.ah 21 (.t 4),.ah 22 (.t 4),.ah 23 (.t 5),.bin 24 .add (.t 22) (.t 23),.ah 25 (.t 4),.ah 26 (.t 5),.bin 27 .add (.t 25) (.t 26),.sl4 28 1 (.t 20) (.t 21) (.t 24) (.t 27),.yield 29 (.t 19) [(.t 28)],.un 30 .not (.t 29)]) (.cond (.t 30) .ret .skip)))) (.ops [.ah 10 (.t 4),.load 11 none (.t 2),.bin 12 .add (.t 10) (.t 11),.ak 4 (.t 12)])))
def aeW:ay :=
(.clean [0,1,2,4] [] (.block 0 (.loop [0,1,2,4] aeV)))
def aeX:dH:=⟨3,31,[],(.seq (.ops [.ak 4 (.c (.int .i64 0))])
 aeW)⟩
def aeY:ay:=(.seq (.ops [.bin 15 .lss (.t 14) (.t 13)]) (.seq (.cond (.t 15) .skip (.exit 2)) (.seq (.block 3 (.seq (.ops [.ah 16 (.t 14),.ak 5 (.t 16)]) (.seq (.ops [.ah 17 (.t 0),.au 18 (.t 4) 0,.load 19 none (.t 18),.ah 20 (.t 5),.bin 21 .add (.t 19) (.t 20),.yield 22 (.t 17) [(.t 21)],.un 23 .not (.t 22)]) (.cond (.t 23) .ret .skip)))) (.ops [.bin 24 .add (.t 14) (.c (.int .i64 1)),.ah 14 (.t 24)]))))
def aeZ:ay :=
(.clean [0,4,6,7,8,13,14] [0,6,7,8] (.block 2 (.loop [0,4,6,7,8,13,14] aeY)))
def ae0:ay:=(.seq (.ops [.bin 9 .lss (.t 8) (.t 7)]) (.seq (.cond (.t 9) .skip (.exit 0)) (.seq (.block 1 (.seq (.ops [.bI 10 2 (.t 6) (.t 8),.load 11 (some 2) (.t 10),.alloc 4 [(.int .i64 0),(.int .i64 0)],.store none 2 (.t 4) (.t 11)]) (.seq (.ops [.au 12 (.t 4) 1,.load 13 none (.t 12),.ah 14 (.c (.int .i64 0))])
    aeZ))) (.ops [.bin 25 .add (.t 8) (.c (.int .i64 1)),.ah 8 (.t 25)]))))
def ae1:ay :=
(.clean [0,6,7,8] [] (.block 0 (.loop [0,6,7,8] ae0)))
def ae2:dH:=⟨2,26,[],(.seq (.ops [.load 6 none (.t 1),.len 7 (.t 6),.ah 8 (.c (.int .i64 0))])
 ae1)⟩
def Hg:ay:=(.seq (.ops [.bin 11 .lss (.t 10) (.t 9)]) (.seq (.cond (.t 11) .skip (.exit 0)) (.seq (.block 1 (.seq (.ops [.ah 12 (.t 10),.bI 13 1 (.t 8) (.t 10),.load 14 none (.t 13),.ak 6 (.t 12),.ak 7 (.t 14)]) (.ops [.ah 15 (.t 5),.ah 16 (.t 1),.ah 17 (.t 6),.ah 18 (.t 7),.jU 19 (.t 16) [(.t 17),(.t 18)],.fE 20 1 [(.t 19)],.app 21 1 (.t 15) (.t 20),.ak 5 (.t 21)]))) (.ops [.bin 22 .add (.t 10) (.c (.int .i64 1)),.ah 10 (.t 22)]))))
def Hl:ay :=
(.clean [0,1,5,8,9,10,21] [4,5] (.block 0 (.loop [0,1,5,8,9,10,21] Hg)))
def RP:dH:=⟨2,24,[.tmp 4],(.seq (.ops [.ak 4 (.nil 1)]) (.seq (.ops [.ak 5 (.nil 1)]) (.seq (.seq (.ops [.ah 8 (.t 0),.len 9 (.t 8),.ah 10 (.c (.int .i64 0))])
   Hl) (.seq (.ops [.ah 23 (.t 5),.ak 4 (.t 23)]) .ret))))⟩
def RQ:dH:=⟨3,14,[.tmp 5],(.seq (.ops [.ak 5 (.c (.bool false))]) (.seq (.ops [.ah 6 (.t 1),.load 7 none (.t 2),.ah 8 (.t 0),.bI 9 1 (.t 7) (.t 8),.load 10 none (.t 9),.len 11 (.t 10),.call 12 106 [(.t 6),(.t 11)],.bin 13 .eql (.t 12) (.c (.int .i64 0)),.ak 5 (.t 13)]) .ret))⟩
def RS:dH:=⟨2,9,[.tmp 4],(.seq (.ops [.ak 4 (.c (.bool false))]) (.seq (.ops [.ah 5 (.t 0),.ah 6 (.t 1),.call 7 252 [(.t 5),(.t 6)],.bin 8 .geq (.t 7) (.c (.int .i64 0)),.ak 4 (.t 8)]) .ret))⟩
def Ho:ay:=(.seq (.ops [.bin 17 .lss (.t 16) (.t 15)]) (.seq (.cond (.t 17) .skip (.exit 2)) (.seq (.block 3 (.seq (.ops [.bI 18 2 (.t 14) (.t 16),.load 19 (some 2) (.t 18),.alloc 6 [(.int .i64 0),(.int .i64 0)],.store none 2 (.t 6) (.t 19)]) (.seq (.ops [.ah 20 (.t 0),.ah 21 (.t 3),.load 22 (some 2) (.t 6),.yield 23 (.t 20) [(.t 21),(.t 22)],.un 24 .not (.t 23)]) (.cond (.t 24) .ret .skip)))) (.ops [.bin 25 .add (.t 16) (.c (.int .i64 1)),.ah 16 (.t 25)]))))
def Hq:ay :=
(.clean [0,3,4,7,8,9,13,14,15,16] [0,7,8,9] (.block 2 (.loop [0,3,4,7,8,9,13,14,15,16] Ho)))
def Hr:ay:=(.seq (.ops [.bin 10 .lss (.t 9) (.t 8)]) (.seq (.cond (.t 10) .skip (.exit 0)) (.seq (.block 1 (.seq (.ops [.ah 11 (.t 9),.bI 12 1 (.t 7) (.t 9),.load 13 none (.t 12),.ak 3 (.t 11),.ak 4 (.t 13)]) (.seq (.ops [.ah 14 (.t 4),.len 15 (.t 14),.ah 16 (.c (.int .i64 0))])
    Hq))) (.ops [.bin 26 .add (.t 9) (.c (.int .i64 1)),.ah 9 (.t 26)]))))
def Ht:ay :=
(.clean [0,7,8,9] [] (.block 0 (.loop [0,7,8,9] Hr)))
def RU:dH:=⟨2,27,[],(.seq (.ops [.load 7 none (.t 1),.len 8 (.t 7),.ah 9 (.c (.int .i64 0))])
 Ht)⟩
def xX:ay:=(.seq (.seq (.ops [.ah 56 (.t 7),.au 57 (.t 2) 8,.load 58 none (.t 57),.len 59 (.t 58),.bin 60 .lss (.t 56) (.t 59)]) (.cond (.t 60) .skip (.exit 0))) (.seq (.block 1 (.seq (.ops [.au 63 (.t 2) 8,.load 64 none (.t 63),.ah 65 (.t 7),.bI 66 5 (.t 64) (.t 65),.au 67 (.t 66) 0,.load 68 (some 3) (.t 67),.alloc 8 [(.int .i64 0),(.int .i64 0),(.list 0 [])],.store none 3 (.t 8) (.t 68)]) (.seq (.ops [.au 69 (.t 6) 1,.load 70 none (.t 69),.au 71 (.t 8) 1,.load 72 none (.t 71),.au 73 (.t 8) 2,.load 74 none (.t 73),.len 75 (.t 74),.bin 76 .add (.t 72) (.t 75),.bin 77 .lss (.t 70) (.t 76),.ah 78 (.t 77),.grd 78 true (.au 79 (.t 8) 1),.grd 78 true (.load 80 none (.t 79)),.grd 78 true (.au 81 (.t 6) 1),.grd 78 true (.load 82 none (.t 81)),.grd 78 true (.au 83 (.t 6) 2),.grd 78 true (.load 84 none (.t 83)),.grd 78 true (.len 85 (.t 84)),.grd 78 true (.bin 86 .add (.t 82) (.t 85)),.grd 78 true (.bin 87 .lss (.t 80) (.t 86)),.pick 88 (.t 78) (.t 87) (.c (.bool false))]) (.cond (.t 88) (.seq (.ops [.load 89 (some 10) (.t 2),.store none 10 (.t 4) (.t 89)]) .ret) .skip)))) (.ops [.ah 61 (.t 7),.bin 62 .add (.t 61) (.c (.int .i64 1)),.ak 7 (.t 62)])))
def Hu:ay :=
(.clean [2,4,6,7] [2,4,6] (.block 0 (.loop [2,4,6,7] xX)))
def Le:dH:=⟨2,126,[.cell 4 (some 10)],(.seq (.ops [.box 2 (.t 0),.box 3 (.t 1),.alloc 4 [(.list 0 []),(.list 0 []),(.int .i64 0),(.int .i64 0),(.list 0 []),(.int .i64 0),(.list 0 []),(.list 0 []),(.list 0 []),(.bool false)]]) (.seq (.seq (.ops [.au 12 (.t 2) 0,.load 13 none (.t 12),.len 14 (.t 13),.bin 15 .neq (.t 14) (.c (.int .i64 1)),.ah 16 (.t 15),.grd 16 false (.au 17 (.t 2) 0),.grd 16 false (.load 18 none (.t 17)),.grd 16 false (.bI 19 1 (.t 18) (.c (.int .i64 0))),.grd 16 false (.load 20 none (.t 19)),.grd 16 false (.len 21 (.t 20)),.grd 16 false (.bin 22 .eql (.t 21) (.c (.int .i64 0))),.pick 23 (.t 16) (.c (.bool true)) (.t 22),.ah 24 (.t 23),.grd 24 false (.au 25 (.t 3) 3),.grd 24 false (.load 26 none (.t 25)),.grd 24 false (.len 27 (.t 26)),.grd 24 false (.bin 28 .eql (.t 27) (.c (.int .i64 0))),.pick 29 (.t 24) (.c (.bool true)) (.t 28)]) (.cond (.t 29) (.seq (.ops [.load 30 (some 10) (.t 2),.store none 10 (.t 4) (.t 30)]) .ret) .skip)) (.seq (.ops [.au 31 (.t 2) 0,.load 32 none (.t 31),.bI 33 1 (.t 32) (.c (.int .i64 0)),.load 34 none (.t 33),.len 35 (.t 34),.ak 5 (.t 35)]) (.seq (.qm [] [([0,1,2,3,4,5,6,7],8)] (some ([],[],9,[])) [] [.au 36 (.t 3) 2,.load 37 none (.t 36),.conv 38 .i64 (.t 37),.ah 39 (.t 5),.bin 40 .rem (.t 38) (.t 39),.au 41 (.t 3) 3,.load 42 none (.t 41),.build 43 [(.int .i64 0),(.int .i64 0),(.list 0 [])] [(1,1,(.t 40)),(2,1,(.t 42))],.alloc 6 [(.int .i64 0),(.int .i64 0),(.list 0 [])],.store none 3 (.t 6) (.t 43)]) (.seq (.ops [.au 44 (.t 6) 2,.load 45 none (.t 44),.au 46 (.t 6) 2,.load 47 none (.t 46),.len 48 (.t 47),.ah 49 (.t 5),.au 50 (.t 6) 1,.load 51 none (.t 50),.bin 52 .sub (.t 49) (.t 51),.mn 53 false (.t 48) (.t 52),.Js 54 8 (.t 45) none (some (.t 53)),.au 55 (.t 6) 2,.store none 1 (.t 55) (.t 54)]) (.seq (.seq (.ops [.ak 7 (.c (.int .i64 0))])
    Hu) (.seq (.ops [.au 91 (.t 2) 2,.load 92 (some 5) (.t 91),.au 93 (.t 6) 1,.load 94 none (.t 93),.au 95 (.t 6) 2,.load 96 none (.t 95),.len 97 (.t 96),.build 98 [(.int .i64 0),(.int .i64 0)] [(0,1,(.t 94)),(1,1,(.t 97))],.call 99 88 [(.t 92),(.t 98)],.ah 90 (.t 99),.ext 100 (.t 90) 0,.ext 101 (.t 90) 1,.ext 102 (.t 90) 2,.alloc 9 [(.int .i64 0),(.int .i64 0),(.list 1 []),(.int .i64 0),(.list 1 [])],.store none 5 (.t 9) (.t 100),.ak 10 (.t 101),.ak 11 (.t 102)]) (.seq (.ops [.load 103 (some 5) (.t 9),.au 104 (.t 2) 9,.load 105 none (.t 104),.ah 106 (.t 105),.grd 106 true (.ah 107 (.t 11)),.grd 106 true (.bin 108 .eql (.t 107) (.c (.int .i64 0))),.pick 109 (.t 106) (.t 108) (.c (.bool false)),.au 110 (.t 2) 2,.store none 5 (.t 110) (.t 103),.au 111 (.t 2) 9,.store none 1 (.t 111) (.t 109)]) (.seq (.seq (.ops [.ah 112 (.t 10)]) (.cond (.t 112) (.ops [.load 113 (some 5) (.t 9),.call 114 90 [(.t 113)],.au 115 (.t 2) 7,.store none 1 (.t 115) (.t 114)]) .skip)) (.seq (.drs [(.t 6)] [2,4] [.fE 116 5 [],.au 117 (.t 2) 8,.load 118 none (.t 117),.app 119 5 (.t 116) (.t 118),.Ph 120 (some 3) (.t 6),.build 121 [(.int .i64 0),(.int .i64 0),(.list 0 []),(.bool false),(.bool false)] [(0,3,(.t 120))],.fE 122 5 [(.t 121)],.app 123 5 (.t 119) (.t 122),.au 124 (.t 2) 8,.store none 1 (.t 124) (.t 123)]
      [⟨[([1,2,4,5],0)],(some ([],[],3,[([],6),([],7),([8],9)])),[],[1,2,4,5,0,3,6,7,8,9],false⟩,⟨[([1,2,4,5],0),([],6)],(some ([],[],3,[([],7),([8],9)])),[],[1,2,4,5,0,6,3,7,8,9],false⟩,⟨[([1,2,4,5],6),([],0)],(some ([],[],3,[([],7),([8],9)])),[],[1,2,4,5,6,0,3,7,8,9],false⟩]) (.seq (.ops [.load 125 (some 10) (.t 2),.store none 10 (.t 4) (.t 125)]) .ret)))))))))))⟩
def nH:ay:=(.seq (.ops [.bin 21 .lss (.t 20) (.t 19)]) (.seq (.cond (.t 21) .skip (.exit 0)) (.seq (.block 1 (.seq (.ops [.ah 22 (.t 20),.bI 23 1 (.t 18) (.t 20),.load 24 none (.t 23),.ak 6 (.t 22),.ak 7 (.t 24)]) (.seq (.ops [.ah 25 (.t 7),.bin 26 .eql (.t 25) (.c (.int .i64 0)),.ah 27 (.t 26),.grd 27 true (.au 28 (.t 1) 3),.grd 27 true (.load 29 (some 2) (.t 28)),.grd 27 true (.ah 30 (.t 6)),.grd 27 true (.call 31 177 [(.t 29),(.t 30)]),.pick 32 (.t 27) (.t 31) (.c (.bool false))]) (.cond (.t 32) (.seq (.ops [.au 34 (.t 4) 3,.load 35 (some 2) (.t 34),.ah 36 (.t 6),.build 37 [(.int .i64 0),(.int .i64 0)] [(0,1,(.t 36)),(1,1,(.c (.int .i64 1)))],.call 38 253 [(.t 35),(.t 37)],.ah 33 (.t 38),.ext 39 (.t 33) 0,.ext 40 (.t 33) 1,.au 41 (.t 4) 3,.store none 2 (.t 41) (.t 39)]) (.ops [.ak 5 (.c (.bool true))])) .skip)))) (.ops [.bin 42 .add (.t 20) (.c (.int .i64 1)),.ah 20 (.t 42)]))))
def Hw:ay :=
(.clean [1,2,4,5,18,19,20] [2,3,4,5] (.block 0 (.loop [1,2,4,5,18,19,20] nH)))
def Lh:dH:=⟨1,45,[.cell 2 (some 5),.tmp 3],(.seq (.ops [.box 1 (.t 0),.alloc 2 [(.int .i64 0),(.int .i64 0),(.list 1 []),(.int .i64 0),(.list 1 [])],.ak 3 (.c (.bool false))]) (.seq (.seq (.ops [.load 8 (some 5) (.t 1),.call 9 181 [(.t 8)],.bin 10 .neq (.t 9) (.c (.int .i64 0))]) (.cond (.t 10) (.seq (.ops [.load 11 (some 5) (.t 1),.store none 5 (.t 2) (.t 11),.ak 3 (.c (.bool false))]) .ret) .skip)) (.seq (.ops [.load 12 (some 5) (.t 1),.alloc 4 [(.int .i64 0),(.int .i64 0),(.list 1 []),(.int .i64 0),(.list 1 [])],.store none 5 (.t 4) (.t 12),.ak 5 (.c (.bool false))]) (.seq (.ops [.au 13 (.t 1) 2,.load 14 none (.t 13),.call 15 107 [(.t 14)],.au 16 (.t 4) 2,.store none 1 (.t 16) (.t 15)]) (.seq (.seq (.ops [.au 17 (.t 1) 2,.load 18 none (.t 17),.len 19 (.t 18),.ah 20 (.c (.int .i64 0))])
    Hw) (.seq (.ops [.load 43 (some 5) (.t 4),.ah 44 (.t 5),.store none 5 (.t 2) (.t 43),.ak 3 (.t 44)]) .ret))))))⟩
def RV:dH:=⟨2,18,[.cell 4 (some 5),.tmp 5],(.seq (.ops [.box 2 (.t 0),.box 3 (.t 1),.alloc 4 [(.int .i64 0),(.int .i64 0),(.list 1 []),(.int .i64 0),(.list 1 [])],.ak 5 (.c (.int .i64 0))]) (.seq (.ops [.load 10 (some 5) (.t 2),.load 11 (some 2) (.t 3),.call 12 174 [(.t 10),(.t 11),(.c (.func 254 []))],.ah 9 (.t 12),.ext 13 (.t 9) 0,.ext 14 (.t 9) 1,.ext 15 (.t 9) 2,.alloc 6 [(.int .i64 0),(.int .i64 0),(.list 1 []),(.int .i64 0),(.list 1 [])],.alloc 7 [(.int .i64 0),(.int .i64 0)],.store none 5 (.t 6) (.t 13),.store none 2 (.t 7) (.t 14),.ak 8 (.t 15)]) (.seq (.ops [.load 16 (some 5) (.t 6),.ah 17 (.t 8),.store none 5 (.t 4) (.t 16),.ak 5 (.t 17)]) .ret)))⟩
def RX:dH:=⟨1,5,[.tmp 2],(.seq (.ops [.ak 2 (.nil 2)]) (.seq (.ops [.ah 3 (.t 0),.call 4 255 [(.c (.lV 2)),(.t 3)],.ak 2 (.t 4)]) .ret))⟩
def RY:dH:=⟨3,8,[.tmp 6],(.seq (.ops [.box 3 (.t 0),.box 4 (.t 1),.box 5 (.t 2),.ak 6 (.c .pR)]) (.seq (.ops [.Jq 7 256 [(.t 3),(.t 4),(.t 5)],.ak 6 (.t 7)]) .ret))⟩
def RZ:dH:=⟨2,9,[.tmp 4],(.seq (.ops [.ak 4 (.c (.bool false))]) (.seq (.ops [.ah 5 (.t 0),.ah 6 (.t 5),.grd 6 true (.ah 7 (.t 1)),.pick 8 (.t 6) (.t 7) (.c (.bool false)),.ak 4 (.t 8)]) .ret))⟩
def Si:dH:=⟨2,6,[.tmp 4],(.seq (.ops [.box 2 (.t 0),.box 3 (.t 1),.ak 4 (.c .pR)]) (.seq (.ops [.Jq 5 262 [(.t 2),(.t 3)],.ak 4 (.t 5)]) .ret))⟩
def Sj:dH:=⟨2,6,[.tmp 4],(.seq (.ops [.box 2 (.t 0),.box 3 (.t 1),.ak 4 (.c .pR)]) (.seq (.ops [.Jq 5 265 [(.t 2),(.t 3)],.ak 4 (.t 5)]) .ret))⟩
def Sm:dH:=⟨1,7,[.tmp 2],(.seq (.ops [.ak 2 (.c (.int .i64 0))]) (.seq (.ops [.ah 3 (.t 0),.bin 4 .add (.t 3) (.c (.int .i64 64)),.bin 5 .sub (.t 4) (.c (.int .i64 1)),.bin 6 .quo (.t 5) (.c (.int .i64 64)),.ak 2 (.t 6)]) .ret))⟩
def Sr:dH:=⟨2,9,[.tmp 4],(.seq (.ops [.ak 4 (.c (.bool false))]) (.seq (.ops [.ah 5 (.t 0),.ah 6 (.t 1),.call 7 266 [(.t 5),(.t 6)],.bin 8 .geq (.t 7) (.c (.int .i64 0)),.ak 4 (.t 8)]) .ret))⟩
def Sv:dH:=⟨1,9,[.tmp 2],(.seq (.ops [.ak 2 (.c (.bool false))]) (.seq (.ops [.ah 3 (.t 0),.bin 4 .lss (.t 3) (.c (.int .i64 1)),.ah 5 (.t 4),.grd 5 false (.ah 6 (.t 0)),.grd 5 false (.bin 7 .gtr (.t 6) (.c (.int .i64 4096))),.pick 8 (.t 5) (.c (.bool true)) (.t 7),.ak 2 (.t 8)]) .ret))⟩
def Hy:ay:=(.seq (.ops [.bin 14 .lss (.t 13) (.t 12)]) (.seq (.cond (.t 14) .skip (.exit 0)) (.seq (.block 1 (.seq (.ops [.bI 15 1 (.t 11) (.t 13),.load 16 none (.t 15),.ak 7 (.t 16)]) (.ops [.ah 17 (.t 5),.ah 18 (.t 1),.ah 19 (.t 7),.jU 20 (.t 18) [(.t 19)],.fE 21 1 [(.t 20)],.app 22 1 (.t 17) (.t 21),.ak 5 (.t 22)]))) (.ops [.bin 23 .add (.t 13) (.c (.int .i64 1)),.ah 13 (.t 23)]))))
def Hz:ay :=
(.clean [0,1,5,10,11,12,13,22] [4,5] (.block 0 (.loop [0,1,5,10,11,12,13,22] Hy)))
def Sz:dH:=⟨2,25,[.tmp 4],(.seq (.ops [.ak 4 (.nil 1)]) (.seq (.ops [.ah 8 (.t 0),.len 9 (.t 8),.make 10 (.int .i64 0) (.c (.int .i64 0)) (.t 9),.ak 5 (.t 10)]) (.seq (.seq (.ops [.ah 11 (.t 0),.len 12 (.t 11),.ah 13 (.c (.int .i64 0))])
   Hz) (.seq (.ops [.ah 24 (.t 5),.ak 4 (.t 24)]) .ret))))⟩
def SA:dH:=⟨1,5,[.tmp 2],(.seq (.ops [.ak 2 (.c (.int .i64 0))]) (.seq (.ops [.ah 3 (.t 0),.len 4 (.t 3),.ak 2 (.t 4)]) .ret))⟩
def SB:dH:=⟨2,8,[.tmp 4],(.seq (.ops [.ak 4 (.c (.int .u64 0))]) (.seq (.ops [.ah 5 (.t 0),.ah 6 (.t 1),.bin 7 .or (.t 5) (.t 6),.ak 4 (.t 7)]) .ret))⟩
def HY:ay:=(.seq (.ops [.bin 29 .lss (.t 28) (.t 27)]) (.seq (.cond (.t 29) .skip (.exit 0)) (.seq (.block 1 (.seq (.ops [.ah 30 (.t 28),.ak 10 (.t 30)]) (.qm [] [([0,1,2,3,4,5,6,7,8,9,10,11,12,13,14,15],16),([],17)] (some ([18],[],19,[])) [] [.ah 31 (.t 9),.ah 32 (.t 10),.au 33 (.t 3) 0,.load 34 none (.t 33),.ah 35 (.t 9),.ah 36 (.t 10),.bI 37 1 (.t 35) (.t 36),.load 38 none (.t 37),.ah 39 (.t 10),.au 40 (.t 5) 0,.load 41 none (.t 40),.au 42 (.t 5) 0,.load 43 none (.t 42),.au 44 (.t 5) 1,.load 45 none (.t 44),.bin 46 .add (.t 43) (.t 45),.call 47 263 [(.t 39),(.t 41),(.t 46)],.jU 48 (.t 34) [(.t 38),(.t 47)],.bI 49 1 (.t 31) (.t 32),.store none 1 (.t 49) (.t 48)]))) (.ops [.bin 50 .add (.t 28) (.c (.int .i64 1)),.ah 28 (.t 50)]))))
def H6:ay :=
(.clean [3,4,5,6,9,25,27,28] [4,6,7,9] (.block 0 (.loop [3,4,5,6,9,25,27,28] HY)))
def H7:dH:=⟨3,55,[.cell 6 (some 2),.tmp 7],(.seq (.ops [.box 3 (.t 0),.box 4 (.t 1),.box 5 (.t 2),.alloc 6 [(.int .i64 0),(.list 1 [])],.ak 7 (.c (.int .i64 0))]) (.seq (.seq (.ops [.load 11 (some 2) (.t 4),.call 12 161 [(.t 11)],.ak 8 (.t 12)]) (.seq (.ops [.ah 13 (.t 8),.bin 14 .neq (.t 13) (.c (.int .i64 0))]) (.cond (.t 14) (.seq (.ops [.build 15 [(.int .i64 0),(.list 1 [])] [],.ah 16 (.t 8),.store none 2 (.t 6) (.t 15),.ak 7 (.t 16)]) .ret) .skip))) (.seq (.seq (.ops [.load 17 (some 2) (.t 5),.au 18 (.t 4) 0,.load 19 none (.t 18),.call 20 267 [(.t 17),(.t 19)],.un 21 .not (.t 20)]) (.cond (.t 21) (.seq (.ops [.build 22 [(.int .i64 0),(.list 1 [])] [],.store none 2 (.t 6) (.t 22),.ak 7 (.c (.int .i64 2))]) .ret) .skip)) (.seq (.ops [.au 23 (.t 4) 1,.load 24 none (.t 23),.call 25 120 [(.t 24)],.ak 9 (.t 25)]) (.seq (.seq (.ops [.ah 26 (.t 9),.len 27 (.t 26),.ah 28 (.c (.int .i64 0))])
    H6) (.seq (.ops [.au 51 (.t 4) 0,.load 52 none (.t 51),.ah 53 (.t 9),.build 54 [(.int .i64 0),(.list 1 [])] [(0,1,(.t 52)),(1,1,(.t 53))],.store none 2 (.t 6) (.t 54),.ak 7 (.c (.int .i64 0))]) .ret))))))⟩
def BG:dH:=⟨2,52,[.cell 4 (some 2),.tmp 5],(.seq (.ops [.box 2 (.t 0),.box 3 (.t 1),.alloc 4 [(.int .i64 0),(.int .i64 0)],.ak 5 (.c (.int .i64 0))]) (.seq (.seq (.ops [.au 7 (.t 3) 0,.load 8 none (.t 7),.bin 9 .lss (.t 8) (.c (.int .i64 0)),.ah 10 (.t 9),.grd 10 false (.au 11 (.t 3) 1),.grd 10 false (.load 12 none (.t 11)),.grd 10 false (.bin 13 .lss (.t 12) (.c (.int .i64 1))),.pick 14 (.t 10) (.c (.bool true)) (.t 13),.ah 15 (.t 14),.grd 15 false (.au 16 (.t 3) 0),.grd 15 false (.load 17 none (.t 16)),.grd 15 false (.au 18 (.t 2) 0),.grd 15 false (.load 19 none (.t 18)),.grd 15 false (.bin 20 .geq (.t 17) (.t 19)),.pick 21 (.t 15) (.c (.bool true)) (.t 20),.ah 22 (.t 21),.grd 22 false (.au 23 (.t 3) 1),.grd 22 false (.load 24 none (.t 23)),.grd 22 false (.au 25 (.t 2) 0),.grd 22 false (.load 26 none (.t 25)),.grd 22 false (.au 27 (.t 3) 0),.grd 22 false (.load 28 none (.t 27)),.grd 22 false (.bin 29 .sub (.t 26) (.t 28)),.grd 22 false (.bin 30 .gtr (.t 24) (.t 29)),.pick 31 (.t 22) (.c (.bool true)) (.t 30)]) (.cond (.t 31) (.seq (.ops [.build 32 [(.int .i64 0),(.int .i64 0)] [],.store none 2 (.t 4) (.t 32),.ak 5 (.c (.int .i64 2))]) .ret) .skip)) (.seq (.ops [.au 33 (.t 3) 0,.load 34 none (.t 33),.au 35 (.t 2) 1,.load 36 none (.t 35),.bin 37 .quo (.t 34) (.t 36),.ak 6 (.t 37)]) (.seq (.ops [.ah 38 (.t 6),.au 39 (.t 3) 0,.load 40 none (.t 39),.au 41 (.t 3) 1,.load 42 none (.t 41),.bin 43 .add (.t 40) (.t 42),.bin 44 .sub (.t 43) (.c (.int .i64 1)),.au 45 (.t 2) 1,.load 46 none (.t 45),.bin 47 .quo (.t 44) (.t 46),.ah 48 (.t 6),.bin 49 .sub (.t 47) (.t 48),.bin 50 .add (.t 49) (.c (.int .i64 1)),.build 51 [(.int .i64 0),(.int .i64 0)] [(0,1,(.t 38)),(1,1,(.t 50))],.store none 2 (.t 4) (.t 51),.ak 5 (.c (.int .i64 0))]) .ret))))⟩
def xY:ay:=(.seq (.ops [.bin 7 .lss (.t 6) (.t 5)]) (.seq (.cond (.t 7) .skip (.exit 0)) (.seq (.block 1 (.seq (.ops [.ah 8 (.t 6),.ak 3 (.t 8)]) (.seq (.ops [.ah 9 (.t 0),.au 10 (.t 1) 0,.load 11 none (.t 10),.ah 12 (.t 3),.bin 13 .add (.t 11) (.t 12),.yield 14 (.t 9) [(.t 13)],.un 15 .not (.t 14)]) (.cond (.t 15) .ret .skip)))) (.ops [.bin 16 .add (.t 6) (.c (.int .i64 1)),.ah 6 (.t 16)]))))
def xZ:ay :=
(.clean [0,1,5,6] [] (.block 0 (.loop [0,1,5,6] xY)))
def Lj:dH:=⟨2,17,[],(.seq (.ops [.au 4 (.t 1) 1,.load 5 none (.t 4),.ah 6 (.c (.int .i64 0))])
 xZ)⟩
def Ll:dH:=⟨2,30,[.tmp 4,.tmp 5,.tmp 6],(.seq (.ops [.ak 4 (.c (.int .i64 0)),.ak 5 (.nil 1),.ak 6 (.c (.int .i64 0))]) (.seq (.ops [.ah 11 (.t 0),.build 12 [(.list 0 [])] [(0,1,(.t 11))],.box 13 (.t 12),.ak 7 (.t 13)]) (.seq (.ops [.ah 15 (.t 1),.ah 16 (.t 7),.linv 17 (.t 15) (.t 16) [],.ah 14 (.t 17),.ext 18 (.t 14) 0,.ext 19 (.t 14) 1,.ak 8 (.t 18),.ak 9 (.t 19)]) (.seq (.seq (.ops [.ah 20 (.t 9),.bin 21 .neq (.t 20) (.c (.int .i64 0))]) (.cond (.t 21) (.seq (.ops [.ak 10 (.c (.int .i64 0))]) (.seq (.ops [.ah 22 (.t 10),.ah 23 (.t 9),.ak 4 (.t 22),.ak 5 (.nil 1),.ak 6 (.t 23)]) .ret)) .skip)) (.seq (.ops [.ah 24 (.t 8),.ah 25 (.t 7),.au 26 (.t 25) 0,.au 27 (.t 26) 0,.load 28 none (.t 27),.call 29 245 [(.t 28)],.ak 4 (.t 24),.ak 5 (.t 29),.ak 6 (.c (.int .i64 0))]) .ret)))))⟩
def nI:ay:=(.seq (.ops [.bin 8 .lss (.t 7) (.c (.int .i64 8))]) (.seq (.cond (.t 8) .skip (.exit 0)) (.seq (.block 1 (.seq (.ops [.ah 9 (.t 7),.ak 5 (.t 9)]) (.seq (.seq (.ops [.ah 10 (.t 5),.ah 11 (.t 0),.au 12 (.t 11) 0,.au 13 (.t 12) 0,.load 14 none (.t 13),.len 15 (.t 14),.bin 16 .geq (.t 10) (.t 15)]) (.cond (.t 16) (.seq (.ops [.ak 2 (.c (.int .i64 0)),.ak 3 (.c (.int .i64 10))]) .ret) .skip)) (.seq (.ops [.ah 17 (.t 0),.au 18 (.t 17) 0,.au 19 (.t 18) 0,.load 20 none (.t 19),.ah 21 (.t 5),.bI 22 1 (.t 20) (.t 21),.load 23 none (.t 22),.ak 6 (.t 23)]) (.seq (.ops [.ah 24 (.t 4),.ah 25 (.t 6),.bin 26 .and (.t 25) (.c (.int .u8 127)),.conv 27 .i64 (.t 26),.ah 28 (.t 5),.bin 29 .mul (.c (.int .i64 7)) (.t 28),.bin 30 .shl (.t 27) (.t 29),.bin 31 .or (.t 24) (.t 30),.ak 4 (.t 31)]) (.seq (.seq (.ops [.ah 32 (.t 6),.bin 33 .and (.t 32) (.c (.int .u8 128)),.bin 34 .neq (.t 33) (.c (.int .u8 0))]) (.cond (.t 34) (.exit 1) .skip)) (.seq (.seq (.ops [.ah 35 (.t 6),.bin 36 .eql (.t 35) (.c (.int .u8 0)),.ah 37 (.t 36),.grd 37 true (.ah 38 (.t 5)),.grd 37 true (.bin 39 .gtr (.t 38) (.c (.int .i64 0))),.pick 40 (.t 37) (.t 39) (.c (.bool false)),.ah 41 (.t 40),.grd 41 false (.ah 42 (.t 4)),.grd 41 false (.bin 43 .gtr (.t 42) (.c (.int .i64 9007199254740991))),.pick 44 (.t 41) (.c (.bool true)) (.t 43)]) (.cond (.t 44) (.seq (.ops [.ak 2 (.c (.int .i64 0)),.ak 3 (.c (.int .i64 3))]) .ret) .skip)) (.seq (.ops [.ah 45 (.t 0),.ah 46 (.t 0),.au 47 (.t 46) 0,.au 48 (.t 47) 0,.load 49 none (.t 48),.ah 50 (.t 5),.bin 51 .add (.t 50) (.c (.int .i64 1)),.Js 52 1 (.t 49) (some (.t 51)) none,.au 53 (.t 45) 0,.au 54 (.t 53) 0,.store none 1 (.t 54) (.t 52)]) (.seq (.ops [.ah 55 (.t 4),.ak 2 (.t 55),.ak 3 (.c (.int .i64 0))]) .ret))))))))) (.ops [.bin 56 .add (.t 7) (.c (.int .i64 1)),.ah 7 (.t 56)]))))
def H8:ay :=
(.clean [0,4,7] [2,3] (.block 0 (.loop [0,4,7] nI)))
def SC:dH:=⟨1,57,[.tmp 2,.tmp 3],(.seq (.ops [.ak 2 (.c (.int .i64 0)),.ak 3 (.c (.int .i64 0))]) (.seq (.ops [.ak 4 (.c (.int .i64 0))]) (.seq (.seq (.ops [.ah 7 (.c (.int .i64 0))])
   H8) (.seq (.ops [.ak 2 (.c (.int .i64 0)),.ak 3 (.c (.int .i64 3))]) .ret))))⟩
def Lm:dH:=⟨2,30,[.tmp 4,.tmp 5,.tmp 6],(.seq (.ops [.ak 4 (.nil 2),.ak 5 (.nil 1),.ak 6 (.c (.int .i64 0))]) (.seq (.ops [.ah 11 (.t 0),.build 12 [(.list 0 [])] [(0,1,(.t 11))],.box 13 (.t 12),.ak 7 (.t 13)]) (.seq (.ops [.ah 15 (.t 1),.ah 16 (.t 7),.linv 17 (.t 15) (.t 16) [],.ah 14 (.t 17),.ext 18 (.t 14) 0,.ext 19 (.t 14) 1,.ak 8 (.t 18),.ak 9 (.t 19)]) (.seq (.seq (.ops [.ah 20 (.t 9),.bin 21 .neq (.t 20) (.c (.int .i64 0))]) (.cond (.t 21) (.seq (.ops [.ak 10 (.nil 2)]) (.seq (.ops [.ah 22 (.t 10),.ah 23 (.t 9),.ak 4 (.t 22),.ak 5 (.nil 1),.ak 6 (.t 23)]) .ret)) .skip)) (.seq (.ops [.ah 24 (.t 8),.ah 25 (.t 7),.au 26 (.t 25) 0,.au 27 (.t 26) 0,.load 28 none (.t 27),.call 29 245 [(.t 28)],.ak 4 (.t 24),.ak 5 (.t 29),.ak 6 (.c (.int .i64 0))]) .ret)))))⟩
def SE:dH:=⟨1,8,[.tmp 2,.tmp 3],(.seq (.ops [.ak 2 (.nil 2),.ak 3 (.c (.int .i64 0))]) (.seq (.ops [.ah 4 (.t 0),.lin 5 241 (.t 4) [(.c (.func 242 []))],.ext 6 (.t 5) 0,.ext 7 (.t 5) 1,.ak 2 (.t 6),.ak 3 (.t 7)]) .ret))⟩
def BH:ay:=(.seq (.ops [.bin 21 .lss (.t 20) (.t 19)]) (.seq (.cond (.t 21) .skip (.exit 0)) (.seq (.block 1 (.seq (.ops [.ah 23 (.t 1),.ah 24 (.t 0),.linv 25 (.t 23) (.t 24) [],.ah 22 (.t 25),.ext 26 (.t 22) 0,.ext 27 (.t 22) 1,.alloc 9 [(.int .i64 0),(.int .i64 0)],.store none 2 (.t 9) (.t 26),.ak 10 (.t 27)]) (.seq (.seq (.ops [.ah 28 (.t 10),.bin 29 .neq (.t 28) (.c (.int .i64 0))]) (.cond (.t 29) (.seq (.ops [.ah 30 (.t 10),.ak 4 (.nil 2),.ak 5 (.t 30)]) .ret) .skip)) (.ops [.ah 31 (.t 8),.load 32 (some 2) (.t 9),.fE 33 2 [(.t 32)],.app 34 2 (.t 31) (.t 33),.ak 8 (.t 34)])))) (.ops [.bin 35 .add (.t 20) (.c (.int .i64 1)),.ah 20 (.t 35)]))))
def H9:ay :=
(.clean [0,1,8,19,20,34] [4,5,8] (.block 0 (.loop [0,1,8,19,20,34] BH)))
def SG:dH:=⟨2,37,[.tmp 4,.tmp 5],(.seq (.ops [.ak 4 (.nil 2),.ak 5 (.c (.int .i64 0))]) (.seq (.ops [.ah 12 (.t 0),.lin 13 268 (.t 12) [],.ah 11 (.t 13),.ext 14 (.t 11) 0,.ext 15 (.t 11) 1,.ak 6 (.t 14),.ak 7 (.t 15)]) (.seq (.seq (.ops [.ah 16 (.t 7),.bin 17 .neq (.t 16) (.c (.int .i64 0))]) (.cond (.t 17) (.seq (.ops [.ah 18 (.t 7),.ak 4 (.nil 2),.ak 5 (.t 18)]) .ret) .skip)) (.seq (.ops [.ak 8 (.nil 2)]) (.seq (.seq (.ops [.ah 19 (.t 6),.ah 20 (.c (.int .i64 0))])
    H9) (.seq (.ops [.ah 36 (.t 8),.ak 4 (.t 36),.ak 5 (.c (.int .i64 0))]) .ret))))))⟩
def SH:dH:=⟨1,17,[.cell 2 (some 2),.tmp 3],(.seq (.ops [.alloc 2 [(.int .i64 0),(.int .i64 0)],.ak 3 (.c (.int .i64 0))]) (.seq (.ops [.ah 8 (.t 0),.lin 9 269 (.t 8) [],.ah 7 (.t 9),.ext 10 (.t 7) 0,.ext 11 (.t 7) 1,.ext 12 (.t 7) 2,.ak 4 (.t 10),.ak 5 (.t 11),.ak 6 (.t 12)]) (.seq (.ops [.ah 13 (.t 4),.ah 14 (.t 5),.build 15 [(.int .i64 0),(.int .i64 0)] [(0,1,(.t 13)),(1,1,(.t 14))],.ah 16 (.t 6),.store none 2 (.t 2) (.t 15),.ak 3 (.t 16)]) .ret)))⟩
def SI:dH:=⟨2,9,[.tmp 4],(.seq (.ops [.ak 4 (.c (.bool false))]) (.seq (.ops [.ah 5 (.t 0),.ah 6 (.t 5),.grd 6 false (.ah 7 (.t 1)),.pick 8 (.t 6) (.c (.bool true)) (.t 7),.ak 4 (.t 8)]) .ret))⟩
def Ia:ay:=(.seq (.seq (.ops [.ah 11 (.t 1),.bin 12 .geq (.t 11) (.c (.int .i64 128))]) (.cond (.t 12) .skip (.exit 0))) (.seq (.block 1 (.ops [.ah 15 (.t 0),.ah 16 (.t 1),.bin 17 .rem (.t 16) (.c (.int .i64 128)),.conv 18 .u8 (.t 17),.bin 19 .or (.t 18) (.c (.int .u8 128)),.fE 20 1 [(.t 19)],.app 21 1 (.t 15) (.t 20),.ak 0 (.t 21)])) (.ops [.ah 13 (.t 1),.bin 14 .quo (.t 13) (.c (.int .i64 128)),.ak 1 (.t 14)])))
def Ib:ay :=
(.clean [0,1,21] [0,1,4] (.block 0 (.loop [0,1,21] Ia)))
def Ic:dH:=⟨2,27,[.tmp 4],(.seq (.ops [.ak 4 (.nil 1)]) (.seq (.seq (.ops [.ah 5 (.t 1),.bin 6 .lss (.t 5) (.c (.int .i64 0)),.ah 7 (.t 6),.grd 7 false (.ah 8 (.t 1)),.grd 7 false (.bin 9 .gtr (.t 8) (.c (.int .i64 9007199254740991))),.pick 10 (.t 7) (.c (.bool true)) (.t 9)]) (.cond (.t 10) (.ops [.ak 1 (.c (.int .i64 0))]) .skip)) (.seq
  Ib (.seq (.ops [.ah 22 (.t 0),.ah 23 (.t 1),.conv 24 .u8 (.t 23),.fE 25 1 [(.t 24)],.app 26 1 (.t 22) (.t 25),.ak 4 (.t 26)]) .ret))))⟩
def Ya:dH:=⟨1,8,[.tmp 2],(.seq (.ops [.ak 2 (.nil 1)]) (.seq (.seq (.ops [.ah 3 (.t 0),.UZ 4 false (.t 3)]) (.cond (.t 4) (.seq (.ops [.ak 2 (.nil 1)]) .ret) .skip)) (.seq (.ops [.fE 5 1 [],.ah 6 (.t 0),.app 7 1 (.t 5) (.t 6),.ak 2 (.t 7)]) .ret)))⟩
def Ie:ay:=(.seq (.ops [.bin 16 .lss (.t 15) (.t 14)]) (.seq (.cond (.t 16) .skip (.exit 0)) (.seq (.block 1 (.seq (.ops [.bI 17 2 (.t 13) (.t 15),.load 18 (some 2) (.t 17),.alloc 8 [(.int .i64 0),(.int .i64 0)],.store none 2 (.t 8) (.t 18)]) (.ops [.ah 19 (.t 2),.ah 20 (.t 0),.load 21 (some 2) (.t 8),.linv 22 (.t 19) (.t 20) [(.t 21)],.ak 0 (.t 22)]))) (.ops [.bin 23 .add (.t 15) (.c (.int .i64 1)),.ah 15 (.t 23)]))))
def Ig:ay :=
(.clean [0,1,2,12,13,14,15,22] [0,6] (.block 0 (.loop [0,1,2,12,13,14,15,22] Ie)))
def SK:dH:=⟨3,25,[.tmp 6],(.seq (.ops [.ak 6 (.nil 1)]) (.seq (.ops [.ah 9 (.t 0),.ah 10 (.t 1),.len 11 (.t 10),.lin 12 244 (.t 9) [(.t 11)],.ak 0 (.t 12)]) (.seq (.seq (.ops [.ah 13 (.t 1),.len 14 (.t 13),.ah 15 (.c (.int .i64 0))])
   Ig) (.seq (.ops [.ah 24 (.t 0),.ak 6 (.t 24)]) .ret))))⟩
def SL:dH:=⟨2,12,[.tmp 4],(.seq (.ops [.box 3 (.t 1),.ak 4 (.nil 1)]) (.seq (.qm [(.t 3)] [] (some ([0,1,2],[4,5],3,[([],6)])) [7] [.ah 5 (.t 0),.au 6 (.t 3) 0,.load 7 none (.t 6),.au 9 (.t 3) 1,.Ph 10 none (.t 9),.lin 8 244 (.t 5) [(.t 7)],.lin 11 244 (.t 8) [(.t 10)],.ak 4 (.t 11)]) .ret))⟩
def ae3:dH:=⟨1,5,[.tmp 2],(.seq (.ops [.box 1 (.t 0),.ak 2 (.c (.int .u64 0))]) (.seq (.ops [.Jq 3 270 [(.t 1)],.call 4 185 [(.t 3)],.ak 2 (.t 4)]) .ret))⟩
def Ih:ay:=(.seq (.ops [.bin 9 .lss (.t 8) (.t 7)]) (.seq (.cond (.t 9) .skip (.exit 0)) (.seq (.block 1 (.seq (.ops [.ah 10 (.t 8),.ak 5 (.t 10)]) (.seq (.ops [.ah 11 (.t 1),.ah 12 (.t 0),.ah 13 (.t 5),.bI 14 1 (.t 12) (.t 13),.load 15 none (.t 14),.YT 16 false (.t 11) (.t 15)]) (.cond (.t 16) (.seq (.ops [.ah 17 (.t 5),.ak 4 (.t 17)]) .ret) .skip)))) (.ops [.bin 18 .add (.t 8) (.c (.int .i64 1)),.ah 8 (.t 18)]))))
def Ii:ay :=
(.clean [0,1,7,8] [4] (.block 0 (.loop [0,1,7,8] Ih)))
def SN:dH:=⟨2,19,[.tmp 4],(.seq (.ops [.ak 4 (.c (.int .i64 0))]) (.seq (.seq (.ops [.ah 6 (.t 0),.len 7 (.t 6),.ah 8 (.c (.int .i64 0))])
  Ii) (.seq (.ops [.ak 4 (.c (.int .i64 (-1)))]) .ret)))⟩
def SQ:dH:=⟨2,12,[.cell 4 (some 2),.tmp 5],(.seq (.ops [.box 2 (.t 0),.box 3 (.t 1),.alloc 4 [(.int .i64 0),(.list 1 [])],.ak 5 (.c (.int .i64 0))]) (.seq (.ops [.build 6 [.pR] [(0,1,(.c (.func 272 [])))],.load 7 (some 2) (.t 2),.load 8 (some 2) (.t 3),.call 9 234 [(.t 6),(.t 7),(.t 8)],.ext 10 (.t 9) 0,.ext 11 (.t 9) 1,.store none 2 (.t 4) (.t 10),.ak 5 (.t 11)]) .ret))⟩
def Lp:dH:=⟨1,8,[.tmp 2,.tmp 3],(.seq (.ops [.ak 2 (.c (.int .i64 0)),.ak 3 (.c (.int .i64 0))]) (.seq (.seq (.ops [.ah 4 (.t 0),.bin 5 .eql (.t 4) (.c (.int .i64 0))]) (.cond (.t 5) (.seq (.ops [.ak 2 (.c (.int .i64 0)),.ak 3 (.c (.int .i64 12))]) .ret) .skip)) (.seq (.ops [.ah 6 (.t 0),.bin 7 .sub (.t 6) (.c (.int .i64 1)),.ak 2 (.t 7),.ak 3 (.c (.int .i64 0))]) .ret)))⟩
def SS:ay:=(.ops [.alloc 5 [(.int .i64 0),(.int .i64 0)],.store none 2 (.t 5) (.t 7)])
def SV:ay:=(.block 1 (.ops [.load 8 none (.t 2),.load 9 (some 2) (.t 5),.fE 10 2 [(.t 9)],.app 11 2 (.t 8) (.t 10),.store none 1 (.t 2) (.t 11)]))
def SX:dH:=⟨2,13,[.tmp 4],(.seq (.ops [.box 2 (.t 0),.ak 4 (.nil 2)]) (.seq (.seq (.ops [.ah 6 (.t 1)]) (.block 0 (.rng (.t 6) [7] SS SV))) (.seq (.ops [.load 12 none (.t 2),.ak 4 (.t 12)]) .ret)))⟩
def pq:ay:=(.seq (.ops [.bin 19 .lss (.t 18) (.t 17)]) (.seq (.cond (.t 19) .skip (.exit 0)) (.seq (.block 1 (.seq (.ops [.ah 20 (.t 18),.bI 21 3 (.t 16) (.t 18),.load 22 (some 3) (.t 21),.alloc 10 [(.int .i64 0),(.int .i64 0),(.int .i64 0)],.ak 9 (.t 20),.store none 3 (.t 10) (.t 22)]) (.seq (.qm [] [] (some ([0,1,2,3,4,5,6,7],[],8,[])) [] [.au 23 (.t 10) 1,.load 24 none (.t 23),.wM 25 (.t 6) (.t 24) 2 1,.load 26 none (.t 25),.au 27 (.t 10) 2,.load 28 none (.t 27),.bin 29 .add (.t 26) (.t 28),.wM 30 (.t 6) (.t 24) 2 1,.store none 1 (.t 30) (.t 29)]) (.seq (.seq (.qm [] [] none [0,1,2,3,4,5,6,7,8,9,10,11,12,13,14,15] [.ah 31 (.t 9),.bin 32 .add (.t 31) (.c (.int .i64 1)),.ah 33 (.t 5),.len 34 (.t 33),.bin 35 .lss (.t 32) (.t 34),.ah 36 (.t 35),.grd 36 true (.ah 37 (.t 5)),.grd 36 true (.ah 38 (.t 9)),.grd 36 true (.bin 39 .add (.t 38) (.c (.int .i64 1))),.grd 36 true (.bI 40 3 (.t 37) (.t 39)),.grd 36 true (.au 41 (.t 40) 0),.grd 36 true (.load 42 none (.t 41)),.grd 36 true (.au 43 (.t 10) 0),.grd 36 true (.load 44 none (.t 43)),.grd 36 true (.bin 45 .eql (.t 42) (.t 44)),.pick 46 (.t 36) (.t 45) (.c (.bool false))]) (.cond (.t 46) (.exit 1) .skip)) (.seq (.ops [.load 47 none (.t 3),.wM 48 (.t 6) (.c (.int .i64 0)) 2 1,.load 49 none (.t 48),.bin 50 .gtr (.t 49) (.c (.int .i64 0)),.wM 51 (.t 6) (.c (.int .i64 1)) 2 1,.load 52 none (.t 51),.bin 53 .gtr (.t 52) (.c (.int .i64 0)),.jU 54 (.t 47) [(.t 50),(.t 53)],.ak 11 (.t 54)]) (.seq (.seq (.ops [.ah 55 (.t 11),.ah 56 (.t 55),.grd 56 true (.ah 57 (.t 8)),.grd 56 true (.un 58 .not (.t 57)),.pick 59 (.t 56) (.t 58) (.c (.bool false))]) (.cond (.t 59) (.ops [.au 60 (.t 10) 0,.load 61 none (.t 60),.ak 7 (.t 61)]) .skip)) (.seq (.seq (.ops [.ah 62 (.t 11),.un 63 .not (.t 62),.ah 64 (.t 63),.grd 64 true (.ah 65 (.t 8)),.pick 66 (.t 64) (.t 65) (.c (.bool false)),.ah 67 (.t 66),.grd 67 true (.ah 68 (.t 0)),.grd 67 true (.ah 69 (.t 7)),.grd 67 true (.au 70 (.t 10) 0),.grd 67 true (.load 71 none (.t 70)),.grd 67 true (.ah 72 (.t 7)),.grd 67 true (.bin 73 .sub (.t 71) (.t 72)),.grd 67 true (.build 74 [(.int .i64 0),(.int .i64 0)] [(0,1,(.t 69)),(1,1,(.t 73))]),.grd 67 true (.yield 75 (.t 68) [(.t 74)]),.grd 67 true (.un 76 .not (.t 75)),.pick 77 (.t 67) (.t 76) (.c (.bool false))]) (.cond (.t 77) .ret .skip)) (.ops [.ah 78 (.t 11),.ak 8 (.t 78)])))))))) (.ops [.bin 79 .add (.t 18) (.c (.int .i64 1)),.ah 18 (.t 79)]))))
def Ij:ay :=
(.clean [0,3,5,6,7,8,15,16,17,18] [] (.block 0 (.loop [0,3,5,6,7,8,15,16,17,18] pq)))
def SY:dH:=⟨4,80,[],(.seq (.ops [.load 12 none (.t 1),.load 13 none (.t 2),.fE 14 1 [(.t 12),(.t 13)],.call 15 257 [(.t 14)],.ak 5 (.t 15)]) (.seq (.ops [.alloc 6 [(.int .i64 0),(.int .i64 0)]]) (.seq (.ops [.ak 7 (.c (.int .i64 0)),.ak 8 (.c (.bool false))]) (.seq (.ops [.ah 16 (.t 5),.len 17 (.t 16),.ah 18 (.c (.int .i64 0))])
   Ij))))⟩
def BI:ay:=(.seq (.ops [.bin 21 .lss (.t 20) (.t 19)]) (.seq (.cond (.t 21) .skip (.exit 2)) (.seq (.block 3 (.seq (.ops [.bI 22 2 (.t 18) (.t 20),.load 23 (some 2) (.t 22),.alloc 7 [(.int .i64 0),(.int .i64 0)],.store none 2 (.t 7) (.t 23)]) (.seq (.ops [.load 25 (some 2) (.t 7),.call 26 273 [(.t 25)],.ah 24 (.t 26),.ext 27 (.t 24) 0,.ext 28 (.t 24) 1,.ext 29 (.t 24) 2,.ak 8 (.t 27),.ak 9 (.t 28),.ak 10 (.t 29)]) (.seq (.ops [.ah 30 (.t 10)]) (.cond (.t 30) (.ops [.ah 31 (.t 3),.ah 32 (.t 8),.ah 33 (.t 4),.build 34 [(.int .i64 0),(.int .i64 0),(.int .i64 0)] [(0,1,(.t 32)),(1,1,(.t 33)),(2,1,(.c (.int .i64 1)))],.ah 35 (.t 9),.ah 36 (.t 4),.build 37 [(.int .i64 0),(.int .i64 0),(.int .i64 0)] [(0,1,(.t 35)),(1,1,(.t 36)),(2,1,(.c (.int .i64 (-1))))],.fE 38 3 [(.t 34),(.t 37)],.app 39 3 (.t 31) (.t 38),.ak 3 (.t 39)]) .skip))))) (.ops [.bin 40 .add (.t 20) (.c (.int .i64 1)),.ah 20 (.t 40)]))))
def Ik:ay :=
(.clean [0,3,4,5,11,12,13,17,18,19,20,39] [0,2,3,11,12,13,39] (.block 2 (.loop [0,3,4,5,11,12,13,17,18,19,20,39] BI)))
def Il:ay:=(.seq (.ops [.bin 14 .lss (.t 13) (.t 12)]) (.seq (.cond (.t 14) .skip (.exit 0)) (.seq (.block 1 (.seq (.ops [.ah 15 (.t 13),.bI 16 1 (.t 11) (.t 13),.load 17 none (.t 16),.ak 4 (.t 15),.ak 5 (.t 17)]) (.seq (.ops [.ah 18 (.t 5),.len 19 (.t 18),.ah 20 (.c (.int .i64 0))])
    Ik))) (.ops [.bin 41 .add (.t 13) (.c (.int .i64 1)),.ah 13 (.t 41)]))))
def Io:ay :=
(.clean [0,3,11,12,13,39] [2,3] (.block 0 (.loop [0,3,11,12,13,39] Il)))
def S9:dH:=⟨1,45,[.tmp 2],(.seq (.ops [.ak 2 (.nil 3)]) (.seq (.ops [.ak 3 (.nil 3)]) (.seq (.seq (.ops [.ah 11 (.t 0),.len 12 (.t 11),.ah 13 (.c (.int .i64 0))])
   Io) (.seq (.ops [.ah 42 (.t 3),.Jr 43 274 (.t 42) (.c (.func 275 []))]) (.seq (.ops [.ah 44 (.t 3),.ak 2 (.t 44)]) .ret)))))⟩
def Ip:ay:=(.seq (.seq (.ops [.ah 24 (.t 5),.bin 25 .neq (.t 24) (.c (.int .u64 0))]) (.cond (.t 25) .skip (.exit 2))) (.block 3 (.seq (.seq (.ops [.ah 26 (.t 0),.ah 27 (.t 4),.bin 28 .mul (.t 27) (.c (.int .i64 64)),.ah 29 (.t 5),.call 30 264 [(.t 29)],.bin 31 .add (.t 28) (.t 30),.yield 32 (.t 26) [(.t 31)],.un 33 .not (.t 32)]) (.cond (.t 33) .ret .skip)) (.ops [.ah 34 (.t 5),.ah 35 (.t 5),.bin 36 .sub (.t 35) (.c (.int .u64 1)),.bin 37 .and (.t 34) (.t 36),.ak 5 (.t 37)]))))
def Iq:ay :=
(.clean [0,1,2,4,5,10,11,12] [0,1,2,10,11,12] (.block 2 (.loop [0,1,2,4,5,10,11,12] Ip)))
def Ir:ay:=(.seq (.ops [.bin 13 .lss (.t 12) (.t 11)]) (.seq (.cond (.t 13) .skip (.exit 0)) (.seq (.block 1 (.seq (.ops [.ah 14 (.t 12),.bI 15 1 (.t 10) (.t 12),.load 16 none (.t 15),.ak 4 (.t 14),.ak 5 (.t 16)]) (.seq (.ops [.ah 17 (.t 5),.ah 18 (.t 4),.load 19 none (.t 2),.au 20 (.t 1) 0,.load 21 none (.t 20),.call 22 263 [(.t 18),(.t 19),(.t 21)],.bin 23 .and (.t 17) (.t 22),.ak 5 (.t 23)])
    Iq))) (.ops [.bin 38 .add (.t 12) (.c (.int .i64 1)),.ah 12 (.t 38)]))))
def Iu:ay :=
(.clean [0,1,2,10,11,12] [] (.block 0 (.loop [0,1,2,10,11,12] Ir)))
def Td:dH:=⟨3,39,[],(.seq (.seq (.ops [.load 6 (some 2) (.t 1),.call 7 161 [(.t 6)],.bin 8 .neq (.t 7) (.c (.int .i64 0))]) (.cond (.t 8) .ret .skip)) (.seq (.ops [.au 9 (.t 1) 1,.load 10 none (.t 9),.len 11 (.t 10),.ah 12 (.c (.int .i64 0))])
  Iu))⟩
def Lr:dH:=⟨3,27,[.tmp 6],(.seq (.ops [.ak 6 (.c (.int .u64 0))]) (.seq (.ops [.ah 7 (.t 1),.ah 8 (.t 0),.bin 9 .mul (.t 8) (.c (.int .i64 64)),.bin 10 .sub (.t 7) (.t 9),.mn 11 true (.t 10) (.c (.int .i64 0)),.ah 12 (.t 2),.ah 13 (.t 0),.bin 14 .mul (.t 13) (.c (.int .i64 64)),.bin 15 .sub (.t 12) (.t 14),.mn 16 false (.t 15) (.c (.int .i64 64)),.ak 1 (.t 11),.ak 2 (.t 16)]) (.seq (.seq (.ops [.ah 17 (.t 1),.ah 18 (.t 2),.bin 19 .geq (.t 17) (.t 18)]) (.cond (.t 19) (.seq (.ops [.ak 6 (.c (.int .u64 0))]) .ret) .skip)) (.seq (.ops [.ah 20 (.t 2),.ah 21 (.t 1),.bin 22 .sub (.t 20) (.t 21),.bin 23 .sub (.c (.int .i64 64)) (.t 22),.bin 24 .shr (.c (.int .u64 18446744073709551615)) (.t 23),.ah 25 (.t 1),.bin 26 .shl (.t 24) (.t 25),.ak 6 (.t 26)]) .ret))))⟩
def BJ:ay:=(.seq (.ops [.bin 8 .lss (.t 7) (.t 6)]) (.seq (.cond (.t 8) .skip (.exit 0)) (.seq (.block 1 (.seq (.ops [.ah 9 (.t 7),.ak 4 (.t 9)]) (.seq (.qm [] [] (some ([0,1,2,3,4,5,6,7,8,9,10,11],[],12,[])) [13,14] [.load 10 none (.t 1),.ah 11 (.t 4),.bI 12 8 (.t 10) (.t 11),.load 13 (some 8) (.t 12),.load 14 none (.t 2),.ah 15 (.t 4),.bI 16 8 (.t 14) (.t 15),.load 17 (some 8) (.t 16),.UY 18 true 8 (.t 13) (.t 17),.ah 19 (.t 18),.grd 19 true (.ah 20 (.t 0)),.grd 19 true (.ah 21 (.t 4)),.grd 19 true (.yield 22 (.t 20) [(.t 21)]),.grd 19 true (.un 23 .not (.t 22)),.pick 24 (.t 19) (.t 23) (.c (.bool false))]) (.cond (.t 24) .ret .skip)))) (.ops [.bin 25 .add (.t 7) (.c (.int .i64 1)),.ah 7 (.t 25)]))))
def Iw:ay :=
(.clean [0,1,2,6,7] [] (.block 0 (.loop [0,1,2,6,7] BJ)))
def Tf:dH:=⟨3,26,[],(.seq (.ops [.load 5 none (.t 1),.len 6 (.t 5),.ah 7 (.c (.int .i64 0))])
 Iw)⟩
def Iy:ay:=(.seq (.ops [.bin 9 .lss (.t 8) (.t 7)]) (.seq (.cond (.t 9) .skip (.exit 0)) (.seq (.block 1 (.seq (.ops [.ah 10 (.t 8),.ak 5 (.t 10)]) (.seq (.ops [.ah 11 (.t 1),.ah 12 (.t 0),.ah 13 (.t 5),.bI 14 1 (.t 12) (.t 13),.load 15 none (.t 14),.jU 16 (.t 11) [(.t 15)]]) (.cond (.t 16) (.seq (.ops [.ah 17 (.t 5),.ak 4 (.t 17)]) .ret) .skip)))) (.ops [.bin 18 .add (.t 8) (.c (.int .i64 1)),.ah 8 (.t 18)]))))
def Iz:ay :=
(.clean [0,1,7,8] [4] (.block 0 (.loop [0,1,7,8] Iy)))
def Tj:dH:=⟨2,19,[.tmp 4],(.seq (.ops [.ak 4 (.c (.int .i64 0))]) (.seq (.seq (.ops [.ah 6 (.t 0),.len 7 (.t 6),.ah 8 (.c (.int .i64 0))])
  Iz) (.seq (.ops [.ak 4 (.c (.int .i64 (-1)))]) .ret)))⟩
def Ep:dH:=⟨2,28,[.tmp 4],(.seq (.ops [.box 2 (.t 0),.ak 4 (.c (.bool false))]) (.seq (.ops [.au 5 (.t 2) 0,.load 6 none (.t 5),.bin 7 .geq (.t 6) (.c (.int .i64 0)),.ah 8 (.t 7),.grd 8 true (.au 9 (.t 2) 1),.grd 8 true (.load 10 none (.t 9)),.grd 8 true (.bin 11 .geq (.t 10) (.c (.int .i64 0))),.pick 12 (.t 8) (.t 11) (.c (.bool false)),.ah 13 (.t 12),.grd 13 true (.au 14 (.t 2) 0),.grd 13 true (.load 15 none (.t 14)),.grd 13 true (.ah 16 (.t 1)),.grd 13 true (.bin 17 .leq (.t 15) (.t 16)),.pick 18 (.t 13) (.t 17) (.c (.bool false)),.ah 19 (.t 18),.grd 19 true (.au 20 (.t 2) 1),.grd 19 true (.load 21 none (.t 20)),.grd 19 true (.ah 22 (.t 1)),.grd 19 true (.au 23 (.t 2) 0),.grd 19 true (.load 24 none (.t 23)),.grd 19 true (.bin 25 .sub (.t 22) (.t 24)),.grd 19 true (.bin 26 .leq (.t 21) (.t 25)),.pick 27 (.t 19) (.t 26) (.c (.bool false)),.ak 4 (.t 27)]) .ret))⟩
def Tm:dH:=⟨1,19,[.tmp 2,.tmp 3],(.seq (.ops [.ak 2 (.c (.int .i64 0)),.ak 3 (.c (.int .i64 0))]) (.seq (.ops [.ah 7 (.t 0),.lin 8 238 (.t 7) [],.ah 6 (.t 8),.ext 9 (.t 6) 0,.ext 10 (.t 6) 1,.ak 4 (.t 9),.ak 5 (.t 10)]) (.seq (.seq (.ops [.ah 11 (.t 5),.bin 12 .eql (.t 11) (.c (.int .i64 0)),.ah 13 (.t 12),.grd 13 true (.ah 14 (.t 4)),.grd 13 true (.bin 15 .gtr (.t 14) (.c (.int .i64 65536))),.pick 16 (.t 13) (.t 15) (.c (.bool false))]) (.cond (.t 16) (.ops [.ak 5 (.c (.int .i64 5))]) .skip)) (.seq (.ops [.ah 17 (.t 4),.ah 18 (.t 5),.ak 2 (.t 17),.ak 3 (.t 18)]) .ret))))⟩
def Tq:dH:=⟨1,24,[.tmp 2,.tmp 3,.tmp 4],(.seq (.ops [.ak 2 (.c (.int .i64 0)),.ak 3 (.c (.int .i64 0)),.ak 4 (.c (.int .i64 0))]) (.seq (.ops [.ah 9 (.t 0),.lin 10 238 (.t 9) [],.ah 8 (.t 10),.ext 11 (.t 8) 0,.ext 12 (.t 8) 1,.ak 5 (.t 11),.ak 6 (.t 12)]) (.seq (.seq (.ops [.ah 13 (.t 6),.bin 14 .neq (.t 13) (.c (.int .i64 0))]) (.cond (.t 14) (.seq (.ops [.ah 15 (.t 6),.ak 2 (.c (.int .i64 0)),.ak 3 (.c (.int .i64 0)),.ak 4 (.t 15)]) .ret) .skip)) (.seq (.ops [.ah 17 (.t 0),.lin 18 238 (.t 17) [],.ah 16 (.t 18),.ext 19 (.t 16) 0,.ext 20 (.t 16) 1,.ak 7 (.t 19),.ak 6 (.t 20)]) (.seq (.ops [.ah 21 (.t 5),.ah 22 (.t 7),.ah 23 (.t 6),.ak 2 (.t 21),.ak 3 (.t 22),.ak 4 (.t 23)]) .ret)))))⟩
def ae4:ay:=(.seq (.ops [.bin 8 .lss (.t 7) (.t 6)]) (.seq (.cond (.t 8) .skip (.exit 0)) (.seq (.block 1 (.seq (.ops [.bI 9 1 (.t 5) (.t 7),.load 10 none (.t 9),.ak 4 (.t 10)]) (.seq (.ops [.ah 11 (.t 0),.ah 12 (.t 4),.yield 13 (.t 11) [(.t 12)],.un 14 .not (.t 13)]) (.cond (.t 14) .ret .skip)))) (.ops [.bin 15 .add (.t 7) (.c (.int .i64 1)),.ah 7 (.t 15)]))))
def ae5:ay :=
(.clean [0,5,6,7] [] (.block 0 (.loop [0,5,6,7] ae4)))
def ae6:dH:=⟨2,16,[],(.seq (.ops [.load 5 none (.t 1),.len 6 (.t 5),.ah 7 (.c (.int .i64 0))])
 ae5)⟩
def Tt:dH:=⟨2,8,[.tmp 4],(.seq (.ops [.ak 4 (.c (.int .u64 0))]) (.seq (.ops [.ah 5 (.t 0),.ah 6 (.t 1),.bin 7 .andNot (.t 5) (.t 6),.ak 4 (.t 7)]) .ret))⟩
def Es:dH:=⟨1,35,[.tmp 2,.tmp 3,.tmp 4],(.seq (.ops [.box 1 (.t 0),.ak 2 (.c (.int .i64 0)),.ak 3 (.c (.int .i64 0)),.ak 4 (.c (.bool false))]) (.seq (.seq (.ops [.au 7 (.t 1) 1,.load 8 none (.t 7),.bin 9 .leq (.t 8) (.c (.int .i64 0))]) (.cond (.t 9) (.seq (.ops [.ak 2 (.c (.int .i64 0)),.ak 3 (.c (.int .i64 0)),.ak 4 (.c (.bool false))]) .ret) .skip)) (.seq (.ops [.au 10 (.t 1) 0,.load 11 none (.t 10),.mn 12 true (.t 11) (.c (.int .i64 0)),.ak 5 (.t 12),.ak 6 (.c (.int .i64 4096))]) (.seq (.seq (.ops [.au 13 (.t 1) 0,.load 14 none (.t 13),.bin 15 .lss (.t 14) (.c (.int .i64 0)),.ah 16 (.t 15),.grd 16 false (.au 17 (.t 1) 1),.grd 16 false (.load 18 none (.t 17)),.grd 16 false (.au 19 (.t 1) 0),.grd 16 false (.load 20 none (.t 19)),.grd 16 false (.bin 21 .sub (.c (.int .i64 4096)) (.t 20)),.grd 16 false (.bin 22 .lss (.t 18) (.t 21)),.pick 23 (.t 16) (.c (.bool true)) (.t 22)]) (.cond (.t 23) (.ops [.au 24 (.t 1) 0,.load 25 none (.t 24),.au 26 (.t 1) 1,.load 27 none (.t 26),.bin 28 .add (.t 25) (.t 27),.mn 29 false (.t 28) (.c (.int .i64 4096)),.ak 6 (.t 29)]) .skip)) (.seq (.ops [.ah 30 (.t 5),.ah 31 (.t 6),.ah 32 (.t 5),.ah 33 (.t 6),.bin 34 .lss (.t 32) (.t 33),.ak 2 (.t 30),.ak 3 (.t 31),.ak 4 (.t 34)]) .ret)))))⟩
def ae7:dH:=⟨2,10,[.tmp 4],(.seq (.ops [.box 2 (.t 0),.box 3 (.t 1),.ak 4 (.c (.int .i64 0))]) (.seq (.ops [.au 5 (.t 2) 0,.load 6 none (.t 5),.au 7 (.t 3) 0,.load 8 none (.t 7),.call 9 276 [(.t 6),(.t 8)],.ak 4 (.t 9)]) .ret))⟩
def ae8:dH:=⟨2,20,[.tmp 4],(.seq (.ops [.ak 4 (.c (.int .i64 0))]) (.seq (.ops [.ah 7 (.t 0),.call 8 281 [(.t 7)],.ak 5 (.t 8)]) (.seq (.ops [.ah 9 (.t 1),.call 10 281 [(.t 9)],.ak 6 (.t 10)]) (.seq (.seq (.ops [.ah 11 (.t 5)]) (.cond (.t 11) (.seq (.seq (.ops [.ah 12 (.t 6)]) (.cond (.t 12) (.seq (.ops [.ak 4 (.c (.int .i64 0))]) .ret) .skip)) (.seq (.ops [.ak 4 (.c (.int .i64 (-1)))]) .ret)) .skip)) (.seq (.seq (.ops [.ah 13 (.t 6)]) (.cond (.t 13) (.seq (.ops [.ak 4 (.c (.int .i64 1))]) .ret) .skip)) (.seq (.seq (.ops [.ah 14 (.t 0),.ah 15 (.t 1),.bin 16 .lss (.t 14) (.t 15)]) (.cond (.t 16) (.seq (.ops [.ak 4 (.c (.int .i64 (-1)))]) .ret) .skip)) (.seq (.seq (.ops [.ah 17 (.t 0),.ah 18 (.t 1),.bin 19 .gtr (.t 17) (.t 18)]) (.cond (.t 19) (.seq (.ops [.ak 4 (.c (.int .i64 1))]) .ret) .skip)) (.seq (.ops [.ak 4 (.c (.int .i64 0))]) .ret))))))))⟩
def ae9:dH:=⟨1,6,[.tmp 2],(.seq (.ops [.ak 2 (.c (.bool false))]) (.seq (.ops [.ah 3 (.t 0),.ah 4 (.t 0),.bin 5 .neq (.t 3) (.t 4),.ak 2 (.t 5)]) .ret))⟩
def tab:List (Nat×ab8):=[(8,.code fn8),(22,.code ad1),(24,.code ad2),(26,.code amv),(27,.code amw),(28,.code amx),(30,.code amy),(31,.code amA),(32,.code amB),(39,.ext vT),(43,.code WY),(44,.code ad3),(45,.code ad4),(46,.code WZ),(47,.code aaC),(48,.code ad5),(52,.code aaD),(67,.code aaE),(76,.code ad6),(85,.code ad7),(87,.code aaF),(88,.code aaG),(89,.code Dj),(90,.code aaH),(91,.code amC),(92,.code amD),(93,.code amE),(94,.code amF),(95,.code amG),(96,.code amH),(97,.code amI),(98,.code amJ),(99,.code ad8),(100,.code Q8),(101,.code aeb),(102,.code aee),(103,.code aef),(104,.code aek),(105,.code ael),(106,.code GK),(107,.ext (jy 1)),(108,.code aem),(109,.code aep),(116,.code GN),(120,.ext (jy 1)),(131,.code Lc),(132,.code Q9),(133,.ext (jy 8)),(134,.code rE),(135,.code Rf),(136,.code Rh),(137,.code Ri),(138,.code Rj),(139,.code Rk),(140,.code Rl),(141,.code Rn),(142,.code Ro),(143,.code Rq),(154,.code Rt),(158,.code Ru),(159,.code Rw),(161,.code zy),(165,.code Rx),(166,.code Ry),(169,.code He),(170,.code Rz),(172,.code Em),(173,.code RD),(174,.code En),(175,.code Ld),(176,.code RF),(177,.code Eo),(178,.code RG),(179,.code RH),(180,.code RI),(181,.code BF),(182,.code RJ),(183,.code RN),(184,.code aeu),(185,.code aex),(186,.code aeC),(187,.code aeF),(188,.code aeI),(189,.code aeJ),(190,.code aeM),(191,.code aeP),(192,.code aeS),(193,.code aeT),(194,.code aeU),(195,.code aeX),(196,.code ae2),(206,.code RP),(207,.code RQ),(208,.code RS),(209,.code RU),(210,.code Le),(211,.code Lh),(212,.code RV),(213,.code RX),(214,.code RY),(215,.code RZ),(219,.code Si),(221,.code Sj),(222,.code Sm),(223,.code Sr),(227,.code Sv),(228,.code Sz),(229,.code SA),(233,.code SB),(234,.code H7),(235,.code BG),(236,.code Lj),(237,.code Ll),(238,.code SC),(239,.code Lm),(240,.code SE),(241,.code SG),(242,.code SH),(243,.code SI),(244,.code Ic),(245,.ext (jy 1)),(246,.code SK),(247,.code SL),(248,.code ae3),(252,.code SN),(253,.code SQ),(254,.code Lp),(255,.code SX),(256,.code SY),(257,.code S9),(262,.code Td),(263,.code Lr),(264,.ext tzX),(265,.code Tf),(266,.code Tj),(267,.code Ep),(268,.code Tm),(269,.code Tq),(270,.code ae6),(272,.code Tt),(273,.code Es),(274,.Jr (mJ 275)),(275,.code ae7),(276,.code ae8),(281,.code ae9)]
def env:Env:=fun f=>tab.lookup f
theorem aqv:env 8=some (.code fn8):=rfl
theorem aqw:env 22=some (.code ad1):=rfl
theorem aqx:env 24=some (.code ad2):=rfl
theorem aqy:env 39=some (.ext vT):=rfl
theorem afa:env 43=some (.code WY):=rfl
theorem aqz:env 44=some (.code ad3):=rfl
theorem aqA:env 45=some (.code ad4):=rfl
theorem afb:env 46=some (.code WZ):=rfl
theorem alo:env 47=some (.code aaC):=rfl
theorem aqB:env 48=some (.code ad5):=rfl
theorem alp:env 52=some (.code aaD):=rfl
theorem alq:env 67=some (.code aaE):=rfl
theorem aqC:env 76=some (.code ad6):=rfl
theorem aqD:env 85=some (.code ad7):=rfl
theorem alr:env 87=some (.code aaF):=rfl
theorem als:env 88=some (.code aaG):=rfl
theorem BK:env 89=some (.code Dj):=rfl
theorem alu:env 90=some (.code aaH):=rfl
theorem aqE:env 99=some (.code ad8):=rfl
theorem amK:env 100=some (.code Q8):=rfl
theorem W9:env 106=some (.code GK):=rfl
theorem amL:env 107=some (.ext (jy 1)):=rfl
theorem Xa:env 116=some (.code GN):=rfl
theorem amM:env 120=some (.ext (jy 1)):=rfl
theorem afc:env 131=some (.code Lc):=rfl
theorem amN:env 132=some (.code Q9):=rfl
theorem amO:env 133=some (.ext (jy 8)):=rfl
theorem rG:env 134=some (.code rE):=rfl
theorem amP:env 135=some (.code Rf):=rfl
theorem amQ:env 136=some (.code Rh):=rfl
theorem amR:env 137=some (.code Ri):=rfl
theorem amS:env 138=some (.code Rj):=rfl
theorem amT:env 139=some (.code Rk):=rfl
theorem amU:env 140=some (.code Rl):=rfl
theorem amV:env 141=some (.code Rn):=rfl
theorem amW:env 142=some (.code Ro):=rfl
theorem amX:env 143=some (.code Rq):=rfl
theorem amY:env 154=some (.code Rt):=rfl
theorem amZ:env 158=some (.code Ru):=rfl
theorem am0:env 159=some (.code Rw):=rfl
theorem Dk:env 161=some (.code zy):=rfl
theorem am1:env 165=some (.code Rx):=rfl
theorem am2:env 166=some (.code Ry):=rfl
theorem Xb:env 169=some (.code He):=rfl
theorem am3:env 170=some (.code Rz):=rfl
theorem Oo:env 172=some (.code Em):=rfl
theorem am4:env 173=some (.code RD):=rfl
theorem Oq:env 174=some (.code En):=rfl
theorem afd:env 175=some (.code Ld):=rfl
theorem am5:env 176=some (.code RF):=rfl
theorem Ot:env 177=some (.code Eo):=rfl
theorem am6:env 178=some (.code RG):=rfl
theorem am7:env 179=some (.code RH):=rfl
theorem am8:env 180=some (.code RI):=rfl
theorem IB:env 181=some (.code BF):=rfl
theorem am9:env 182=some (.code RJ):=rfl
theorem ana:env 183=some (.code RN):=rfl
theorem anb:env 206=some (.code RP):=rfl
theorem anc:env 207=some (.code RQ):=rfl
theorem ane:env 208=some (.code RS):=rfl
theorem anf:env 209=some (.code RU):=rfl
theorem afe:env 210=some (.code Le):=rfl
theorem aff:env 211=some (.code Lh):=rfl
theorem ang:env 212=some (.code RV):=rfl
theorem anh:env 213=some (.code RX):=rfl
theorem ani:env 214=some (.code RY):=rfl
theorem anj:env 215=some (.code RZ):=rfl
theorem ank:env 219=some (.code Si):=rfl
theorem anl:env 221=some (.code Sj):=rfl
theorem anm:env 222=some (.code Sm):=rfl
theorem ano:env 223=some (.code Sr):=rfl
theorem anp:env 227=some (.code Sv):=rfl
theorem anq:env 228=some (.code Sz):=rfl
theorem anr:env 229=some (.code SA):=rfl
theorem ant:env 233=some (.code SB):=rfl
theorem Xc:env 234=some (.code H7):=rfl
theorem IC:env 235=some (.code BG):=rfl
theorem afg:env 236=some (.code Lj):=rfl
theorem afh:env 237=some (.code Ll):=rfl
theorem anu:env 238=some (.code SC):=rfl
theorem afi:env 239=some (.code Lm):=rfl
theorem anv:env 240=some (.code SE):=rfl
theorem anw:env 241=some (.code SG):=rfl
theorem anx:env 242=some (.code SH):=rfl
theorem anz:env 243=some (.code SI):=rfl
theorem anA:env 244=some (.code Ic):=rfl
theorem anB:env 245=some (.ext (jy 1)):=rfl
theorem anC:env 246=some (.code SK):=rfl
theorem anD:env 247=some (.code SL):=rfl
theorem anE:env 252=some (.code SN):=rfl
theorem anF:env 253=some (.code SQ):=rfl
theorem afj:env 254=some (.code Lp):=rfl
theorem anG:env 255=some (.code SX):=rfl
theorem anH:env 256=some (.code SY):=rfl
theorem anI:env 257=some (.code S9):=rfl
theorem anJ:env 262=some (.code Td):=rfl
theorem afk:env 263=some (.code Lr):=rfl
theorem anK:env 264=some (.ext tzX):=rfl
theorem anL:env 265=some (.code Tf):=rfl
theorem anM:env 266=some (.code Tj):=rfl
theorem Ou:env 267=some (.code Ep):=rfl
theorem anN:env 268=some (.code Tm):=rfl
theorem anO:env 269=some (.code Tq):=rfl
theorem anP:env 272=some (.code Tt):=rfl
theorem Ov:env 273=some (.code Es):=rfl
theorem afl:env 274=some (.Jr (mJ 275)):=rfl
end Go.Proofs.YthccglceomoboaaGreatDoor
namespace Go.Proofs.YthccglceomoboaaGreatDoor
open V
def jX:=(Zs (Zs (Zs (Zs (Zs (Zs (Zs (Zs (Zs @QE @adg) (Zs @adh @aij)) (Zs (Zs @QF @QG) (Zs @adf @NH))) (Zs (Zs (Zs @adl @aib) (Zs @VX @VY)) (Zs (Zs @QA @QB) (Zs @aic @NG)))) (Zs (Zs (Zs (Zs @QC @ZJ) (Zs @ZK @dW)) (Zs (Zs @List.foldl_nil.{0,0} @List.foldl_cons.{0,0}) (Zs @ah8 @ah9))) (Zs (Zs (Zs @aie @aif) (Zs @ac9 @KT)) (Zs (Zs @adb @aii) (Zs @QD @ZM))))) (Zs (Zs (Zs (Zs (Zs @ade @EI) (Zs @NI @JK)) (Zs (Zs @QJ @adn) (Zs @ZN @V3))) (Zs (Zs (Zs @aik @VW) (Zs @Eh @QK)) (Zs (Zs @V8 @QL) (Zs @V9 @gu.eq_1)))) (Zs (Zs (Zs (Zs @gu.eq_2 @gu.eq_3) (Zs @resultList.eq_1 @resultList.eq_2)) (Zs (Zs @oZ.eq_1 @oZ.eq_2) (Zs @oZ.eq_3 @zBV.eq_1))) (Zs (Zs (Zs @zBV.eq_2 @splice.eq_1) (Zs @PV.xg.eq_1 @PV.xg.eq_2)) (Zs (Zs @PV.xg.eq_3 @PV.xg.eq_4) (Zs @St.iR.eq_1 (Zs @St.bC.eq_1 @St.gq.eq_1))))))) (Zs (Zs (Zs (Zs (Zs (Zs @St.gq.eq_2 @PV.single.eq_1) (Zs @PV.single.eq_2 @adp)) (Zs (Zs @ZQ @aiu) (Zs @adq @adr))) (Zs (Zs (Zs @ZT @ads) (Zs @ZU @aiw)) (Zs (Zs @adu @aix) (Zs @adv @adw)))) (Zs (Zs (Zs (Zs @aiy @aiz) (Zs @aiA @aiB)) (Zs (Zs @aiC @dW) (Zs @aiD @dW))) (Zs (Zs (Zs @aiE @aiF) (Zs @aiG @dW)) (Zs (Zs @aiP @aiL) (Zs @aiJ (Zs @aiH @dW)))))) (Zs (Zs (Zs (Zs (Zs @dW @aiN) (Zs @amm @adx)) (Zs (Zs @ady @adz) (Zs @adA @adB))) (Zs (Zs (Zs @dW @aiV) (Zs @aiW @aiX)) (Zs (Zs @dW @aiY) (Zs @ZV @amn)))) (Zs (Zs (Zs (Zs @aiZ @ZW) (Zs @ai0 @ZX)) (Zs (Zs @adC @adD) (Zs @ai1 @dW))) (Zs (Zs (Zs @ai2 @dW) (Zs @ai3 @ai4)) (Zs (Zs @amo @dW) (Zs @dW (Zs @ZY @ai5)))))))) (Zs (Zs (Zs (Zs (Zs (Zs (Zs @ai6 @ai7) (Zs @ai8 @ai9)) (Zs (Zs @dW @aiS) (Zs @dW @aiT))) (Zs (Zs (Zs @aiU @aiQ) (Zs @dW @aiR)) (Zs (Zs @aiM @aiK) (Zs @aiI @dW)))) (Zs (Zs (Zs (Zs @dW @aiO) (Zs @amq @adE)) (Zs (Zs @adF @adG) (Zs @adH @adI))) (Zs (Zs (Zs @dW @aja) (Zs @ajb @ajc)) (Zs (Zs @dW @ajd) (Zs @Z4 (Zs @amr @aje)))))) (Zs (Zs (Zs (Zs (Zs @Z5 @ajf) (Zs @Z7 @adJ)) (Zs (Zs @adK @ajg) (Zs @dW @ajh))) (Zs (Zs (Zs @dW @aji) (Zs @ajj @ams)) (Zs (Zs @dW @dW) (Zs @Z8 @plain.eq_1)))) (Zs (Zs (Zs (Zs @plain.eq_2 @plain.eq_3) (Zs @plain.eq_4 @plain.eq_5)) (Zs (Zs @plain.eq_6 @plain.eq_7) (Zs @plain.eq_8 @plain.eq_9))) (Zs (Zs (Zs @plain.eq_10 @plain.eq_11) (Zs @plain.eq_12 @plain.eq_13)) (Zs (Zs @plain.eq_14 @plain.eq_15) (Zs @plain.eq_16 (Zs @plain.eq_17 @plain.eq_18))))))) (Zs (Zs (Zs (Zs (Zs (Zs @plain.eq_19 @plain.eq_20) (Zs @plain.eq_21 @plain.eq_22)) (Zs (Zs @plain.eq_23 @plain.eq_24) (Zs @plain.eq_25 @plain.eq_26))) (Zs (Zs (Zs @plain.eq_27 @plain.eq_28) (Zs @plain.eq_29 @plain.eq_30)) (Zs (Zs @plain.eq_31 @plain.eq_32) (Zs @plain.eq_33 @plain.eq_34)))) (Zs (Zs (Zs (Zs @plain.eq_35 @act.eq_1) (Zs @act.eq_2 @act.eq_3)) (Zs (Zs @act.eq_4 @act.eq_5) (Zs @act.eq_6 @act.eq_7))) (Zs (Zs (Zs @act.eq_8 @act.eq_9) (Zs @act.eq_10 @act.eq_11)) (Zs (Zs @act.eq_12 @act.eq_13) (Zs @act.eq_14 (Zs @act.eq_15 @act.eq_16)))))) (Zs (Zs (Zs (Zs (Zs @act.eq_17 @act.eq_18) (Zs @act.eq_19 @act.eq_20)) (Zs (Zs @act.eq_21 @act.eq_22) (Zs @act.eq_23 @bU.eq_1))) (Zs (Zs (Zs @bU.eq_2 @bU.eq_3) (Zs @bU.eq_4 @bU.eq_5)) (Zs (Zs @bU.eq_6 @bU.eq_7) (Zs @bU.eq_8 @bU.eq_9)))) (Zs (Zs (Zs (Zs @bU.eq_10 @bU.eq_11) (Zs @bU.eq_12 @bU.eq_13)) (Zs (Zs @bU.eq_14 @bU.eq_15) (Zs @bU.eq_16 @bU.eq_17))) (Zs (Zs (Zs @bU.eq_18 @bU.eq_19) (Zs @bU.eq_20 @bU.eq_21)) (Zs (Zs @bU.eq_22 @bU.eq_23) (Zs @bU.eq_24 (Zs @bU.eq_25 @bU.eq_26))))))))) (Zs (Zs (Zs (Zs (Zs (Zs (Zs (Zs @bU.eq_27 @bU.eq_28) (Zs @bU.eq_29 @bU.eq_30)) (Zs (Zs @bU.eq_31 @bU.eq_32) (Zs @bU.eq_33 @bU.eq_34))) (Zs (Zs (Zs @bU.eq_35 @bU.eq_36) (Zs @bU.eq_37 @bU.eq_38)) (Zs (Zs @bU.eq_39 @bU.eq_40) (Zs @bU.eq_41 @bU.eq_42)))) (Zs (Zs (Zs (Zs @bU.eq_43 @bU.eq_44) (Zs @bU.eq_45 @bU.eq_46)) (Zs (Zs @bU.eq_47 @bU.eq_48) (Zs @bU.eq_49 @bU.eq_50))) (Zs (Zs (Zs @bU.eq_51 @bU.eq_52) (Zs @bU.eq_53 @bU.eq_54)) (Zs (Zs @bU.eq_55 @Bool.false_eq_true) (Zs @if_true.{1} @if_false.{1}))))) (Zs (Zs (Zs (Zs (Zs @Wh @QM) (Zs @St.get.eq_1 @St.get.eq_2)) (Zs (Zs @St.get.eq_3 @St.put.eq_1) (Zs @St.bY.eq_1 @St.putRow.eq_1))) (Zs (Zs (Zs @St.consume.eq_1 @St.consume.eq_2) (Zs @St.consume.eq_3 @St.freeze.eq_1)) (Zs (Zs @St.row.eq_1 @St.row.eq_2) (Zs @St.row.eq_3 @St.elems.eq_1)))) (Zs (Zs (Zs (Zs @St.grab.eq_1 @St.grab.eq_2) (Zs @St.grab.eq_3 @sJ.eq_1)) (Zs (Zs @sJ.eq_2 @sJ.eq_3) (Zs @sJ.eq_4 @YX.eq_1))) (Zs (Zs (Zs @YX.eq_2 @kD.eq_1) (Zs @kD.eq_2 @kD.eq_3)) (Zs (Zs @kD.eq_4 @St.takeRow.eq_1) (Zs @St.takeRow.eq_2 (Zs @St.takeRow.eq_3 @St.setRow.eq_1))))))) (Zs (Zs (Zs (Zs (Zs (Zs @St.setRow.eq_2 @St.setRow.eq_3) (Zs @St.place.eq_1 @St.place.eq_2)) (Zs (Zs @St.zu.eq_1 @St.zu.eq_2) (Zs @St.setCell.eq_1 @St.kC.eq_1))) (Zs (Zs (Zs @DW.eq_1 @DW.eq_2) (Zs @DW.eq_3 @DW.eq_4)) (Zs (Zs @Fz.eq_1 @Fz.eq_2) (Zs @Fz.eq_3 @Fz.eq_4)))) (Zs (Zs (Zs (Zs @gZ.eq_1 @gZ.eq_2) (Zs @gZ.eq_3 @gZ.eq_4)) (Zs (Zs @gZ.eq_5 @gZ.eq_6) (Zs @gZ.eq_7 @gZ.eq_8))) (Zs (Zs (Zs @gZ.eq_9 @gZ.eq_10) (Zs @gZ.eq_11 @gZ.eq_12)) (Zs (Zs @gZ.eq_13 @gZ.eq_14) (Zs @gZ.eq_15 (Zs @gZ.eq_16 @gZ.eq_17)))))) (Zs (Zs (Zs (Zs (Zs @YW.eq_1 @YW.eq_2) (Zs @YW.eq_3 @YW.eq_4)) (Zs (Zs @BV.val.eq_1 @BV.val.eq_2) (Zs @BV.av.eq_1 @BV.av.eq_2))) (Zs (Zs (Zs @aat @WR) (Zs @aau @WS)) (Zs (Zs @cells_func @aav) (Zs @QX @KZ)))) (Zs (Zs (Zs (Zs @yT @adL) (Zs @Z9 @aac)) (Zs (Zs @Wv @adM) (Zs @aae @aad))) (Zs (Zs (Zs @adN @aaf) (Zs @Wx @Wy)) (Zs (Zs @WA @WB) (Zs @adO (Zs @aag @aah)))))))) (Zs (Zs (Zs (Zs (Zs (Zs (Zs @WC @adP) (Zs @aaj @aai)) (Zs (Zs @adQ @aak) (Zs @WG @WE))) (Zs (Zs (Zs @WI @WH) (Zs @adR @aal)) (Zs (Zs @aam @WJ) (Zs @adS @aao)))) (Zs (Zs (Zs (Zs @aan @adT) (Zs @aap @WM)) (Zs (Zs @WL @WQ) (Zs @WO @bound.eq_1))) (Zs (Zs (Zs @bound.eq_2 @bound.eq_3) (Zs @fC.eq_1 @fC.eq_2)) (Zs (Zs @iK.eq_1 @iK.eq_2) (Zs @zD.eq_1 (Zs @zD.eq_2 @capOf.eq_1)))))) (Zs (Zs (Zs (Zs (Zs @Dc @aml) (Zs @aH @aK)) (Zs (Zs @aF @aJ) (Zs @List.append_nil.{0} @aI))) (Zs (Zs (Zs @aG @Zaj) (Zs @Nat.add_zero @QS)) (Zs (Zs @QO @QN) (Zs @sW @decide_true)))) (Zs (Zs (Zs (Zs @decide_false @Bool.not_true) (Zs @Bool.not_false @Bool.true_eq_false)) (Zs (Zs @beq_self_eq_true.{0} @Zaf) (Zs @Bool.and_true @ZaS))) (Zs (Zs (Zs @Bool.and_false @Bool.true_or) (Zs @Bool.false_or @ZcZ)) (Zs (Zs @Bool.or_true @aqp) (Zs @aqr (Zs @KR @ZI))))))) (Zs (Zs (Zs (Zs (Zs (Zs @zb.{0,0} @QT) (Zs @ado @QU)) (Zs (Zs @Wi @ais) (Zs @Wj @Wn))) (Zs (Zs (Zs @ait @Wp) (Zs @dcall.eq_1 @Df.eq_1)) (Zs (Zs @aiv.eq_1 @QW.eq_1) (Zs @KY.eq_1 @NK.eq_1)))) (Zs (Zs (Zs (Zs @uY.eq_1 @oN.eq_1) (Zs @oN.eq_2 @oN.eq_3)) (Zs (Zs @V5 @V6) (Zs @V7 @ail))) (Zs (Zs (Zs @ain @aio) (Zs @aip @aiq)) (Zs (Zs @air @QH) (Zs @adi (Zs @EJ @Gq)))))) (Zs (Zs (Zs (Zs (Zs @Zcu.{0,0,0} @Wq) (Zs @St.jP.eq_1 @St.jP.eq_2)) (Zs (Zs @St.snap.eq_1 @St.snap.eq_2) (Zs @St.snap.eq_3 @St.snap.eq_4))) (Zs (Zs (Zs @St.snap.eq_5 @St.snap.eq_6) (Zs @Ws @ZO)) (Zs (Zs @Wu @ZP) (Zs @adU @aaq)))) (Zs (Zs (Zs (Zs @adV @aar) (Zs @aas @St.layAll.eq_1)) (Zs (Zs @St.layAll.eq_2 @St.lay.eq_1) (Zs @St.lay.eq_2 @St.lay.eq_3))) (Zs (Zs (Zs @NJ @QV) (Zs @St.bV.eq_1 @St.bF.eq_1)) (Zs (Zs @St.bF.eq_2 @St.bF.eq_3) (Zs @St.bF.eq_4 (Zs @St.bF.eq_5 @St.bF.eq_6))))))))))
def afm:=(Zs (Zs (Zs (Zs @List.isEmpty_nil.{0} (Zs @ahN @U8)) (Zs @J7 (Zs @YZ @Y0))) (Zs (Zs @U7 (Zs @Int.le_refl @Bh)) (Zs @zg (Zs @St.bD.eq_1 @BV.frozen.eq_1)))) (Zs (Zs (Zs @BV.frozen.eq_2 (Zs @List.take_length.{0} @ZaQ.{0})) (Zs @aA (Zs @Int.toNat_zero @true_and))) (Zs (Zs @and_true (Zs @and_self @eq_self.{1})) (Zs @sW (Zs @List.drop_nil.{0} @ZdF.{0})))))
def dY:=(Zs (Zs @Nat.zero_le (Zs @List.take_zero.{0} @ZdF.{0})) (Zs (Zs @List.take_succ_cons.{0} @zd.{0}) (Zs @List.length_nil.{0} @zg)))
def aY:=Zs @afm @jX
end Go.Proofs.YthccglceomoboaaGreatDoor
namespace Go.Proofs.YthccglceomoboaaGreatDoor.V
theorem yg (x:dN):part (ql x) 0 (some 8)=some (.agg (ql x)):=by
 simp only [part,iF,Zaj,ZaE]
 rw [if_pos (zg _),Za2 (by rw [iF];exact zg _)]
theorem IE:∀ a b:List UInt8,a.length=b.length→iT (a.map fun b=>.int .u8 (b.toNat:Int)) (b.map fun b=>.int .u8 (b.toNat:Int))=some (decide (a=b))
 |[],[],_=>rfl
 |x::a,y::b,h=>by
  simp only [zd,Nat.add_right_cancel_iff] at h
  simp only [Zap,iT,if_pos,IE a b h,Option.map_some,List.cons.injEq]
  congr 1
  have:((x.toNat:Int)==(y.toNat:Int))=decide (x=y):=by
   by_cases e:x=y
   ·subst e;simp
   ·have:¬ x.toNat=y.toNat:=fun h=>e (UInt8.toNat_inj.1 h)
    simp [e];omega
  rw [this,Bool.decide_and]
 |[],_::_,h=>by simp at h
 |_::_,[],h=>by simp at h
theorem pz (a b:dN):iT (ql a) (ql b)=some (decide (a=b)):=by
 unfold ql
 rw [IE _ _ (by simp)]
 congr 1
 apply decide_eq_decide.2
 exact ⟨fun h=>Vector.toList_inj.1 h,fun h=>by rw [h]⟩
end Go.Proofs.YthccglceomoboaaGreatDoor.V
