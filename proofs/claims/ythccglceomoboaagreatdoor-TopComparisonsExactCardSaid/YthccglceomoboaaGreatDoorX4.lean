/-
  Part 4 of the texts that the statement stands on.
-/
import Derived.Test.YthccglceomoboaaGreatDoorX3
import Derived.IntWalk
import Derived.Sort.Defs
import Derived.Lib.BitFns
import Derived.Shelf.Lays7
import Derived.Ground.Names7Prog
import Derived.Test.YthccglceomoboaaGreatDoorProg
import Derived.Shelf.Spec.TrailingZeros
import Derived.ProofKit
import Derived.SizedLaws
import Derived.OpenShut
import Derived.Deep.Strs
set_option linter.all false
open And renaming intro → Zs
open List renaming getElem?_eq_getElem → ZD, length_map → Z3, getElem?_eq_some_iff → zb, getElem?_map → zc, length_cons → zd, drop_eq_getElem_cons → zr, all_eq_true → zt, getD_eq_getElem?_getD → zR, getElem?_append_right → Zab, getElem?_append_left → Zac, mem_of_getElem? → Zad, map_cons → Zai, getElem_mem → Zap, mem_singleton → Zaq, map_nil → Zar, take_length → Zas, replicate → Zaw, drop_length → ZaG, take_of_length_le → ZaH, mem_iff_getElem? → ZaM, take_append_drop → ZaP, drop_zero → ZaT, nil_append → Zbd, take_zero → Zbn, cons → Zbo, map_map → ZbN, mapM_cons → Zb6, foldl_nil → Zb7, findIdx_cons → Zca, any_cons → ZcC, take_nil → Zde, any_map → Zdq
open Nat renaming beq → Z6, le_refl → ze, zero_add → Zaj, eq_zero_or_pos → Za2
open Bool renaming false_eq_true → zm, true_and → zz, false_and → Za8, false_or → ZbR, or_false → Zcf, true_or → Zcq
open Int renaming lt_irrefl → Zat, toNat_of_nonneg → Zbf
open Option renaming bind_eq_some_iff → ZaF, bind_some → ZaY, bind → Zce
namespace Go.Proofs.YthccglceomoboaaGreatDoor
def dR {α:Type}(b:Bool)(x y:α):α:=match b with
 |true=>x
 |false=>y
section
variable {env:Env}{α β:Type}
theorem TQ (x y:α):dR true x y=x:=(rfl)
theorem Cj (x y:α):dR false x y=y:=(rfl)
theorem dB (b:Bool)(x y:Option α)(f:α→Option β):(dR b x y).bind f=dR b (x.bind f) (y.bind f):=by cases b<;>rfl
theorem dO (b:Bool)(x y:Option α)(f:α→β):(dR b x y).map f=dR b (x.map f) (y.map f):=by cases b<;>rfl
theorem Jy (b:Bool)(x y:α):dR (!b) x y=dR b y x:=by cases b<;>rfl
theorem X3 {γ:Type}[BEq γ](a b:γ)(x y:α):dR (a != b) x y=dR (a==b) y x:=by unfold bne;rw [Jy]
theorem amo (b:Bool):(b==true)=b:=by cases b<;>rfl
theorem amq (b:Bool):(b==false)=!b:=by cases b<;>rfl
theorem bV {b:Bool}{x y r:α}(h1:b=true→x=r)(h0:b=false→y=r):dR b x y=r:=by
 cases b
 ·exact h0 rfl
 ·exact h1 rfl
noncomputable def IB (env:Env)(l:List ig)(st:St):Option St:=ops (den env) env l st
noncomputable def pz (env:Env)(o:ig)(st:St):Option St:=op (den env) env o st
noncomputable def next (env:Env)(b:aj):Ex×St→Option (Ex×St)
 |(.normal,st)=>den env b st
 |r=>some r
def endBlock (id:Nat):Ex×St→Ex×St
 |(.normal,st)=>(.normal,st)
 |(.exit j,st)=>(dR (Z6 j id) .normal (.exit j),st)
 |(.ret,st)=>(.ret,st)
 |(.oL t n,st)=>(.oL t n,st)
def mO (post:List Nat)(nb:Nat)(p:Ex×St):Option (Ex×St):=(p.2.head post nb).map fun st=>(p.1,st)
def fin (rs:List rY):Ex×St→Option (List qK)
 |(.exit _,_)=>none
 |(.oL _ _,_)=>none
 |(_,st)=>fO st rs
def start (n:Nat)(args:List PV):St:=⟨args.map .pv++Zaw (n - args.length) .any,[],[],none⟩
theorem dH (st:St):den env .skip st=some (.normal,st):=by rw [lD];rfl
theorem afw (l:List ig)(st:St):den env (.ops l) st=(IB env l st).map fun st=>(.normal,st):=by rw [lD];rfl
theorem afx (z a f q)(l:List ig)(st:St):den env (.oK z a f q l) st=(IB env l (z.foldl St.iO st)).map fun st=>(.normal,st):=by rw [lD];rfl
noncomputable def ahU (env:Env)(keep:List Nat)(vo:List ig)(st:St)(l:List iD):Option St:=kX (den env) env keep vo st l
noncomputable def afy (env:Env)(keep:List Nat)(vo:List ig)(st:St)(x:iD):Option St:=l7 (den env) env keep vo st x
noncomputable def Ew (env:Env)(keep:List Nat)(vo:List ig)(st s:St)(l:List iD):Option St:=agree s (l.map (l7 (den env) env keep vo st))
def sameAs (s s':St)(r:Option St):Option St:=if s'.same s then r else none
theorem afz (z k vo l)(st:St):den env (.drs z k vo l) st=(ahU env k vo (z.foldl St.iO st) l).map fun st=>(.normal,st):=by rw [lD];rfl
theorem TS (k vo)(st:St)(x:iD)(l:List iD):ahU env k vo st (x::l)=(afy env k vo st x).bind fun s=>Ew env k vo st s l:=(rfl)
theorem TU (k vo)(st s:St):Ew env k vo st s []=some s:=(rfl)
theorem OC (k vo)(st s:St)(x:iD)(l:List iD):Ew env k vo st s (x::l)=(afy env k vo st x).bind fun s'=>sameAs s s' (Ew env k vo st s l):=by
 show (l7 (den env) env k vo st x).bind _=_
 unfold afy Ew sameAs
 congr 1
theorem OD (s:St)(r:Option St):sameAs s s r=r:=by
 show (if s.same s then r else none)=r
 rw [St.jh];rfl
theorem afA (k vo)(st:St)(a f q o w):afy env k vo st ⟨a,f,q,o,w⟩=(IB env (bM vo o) st).bind (lZ k st.boxes.length w):=(rfl)
theorem La (k:List Nat)(nb:Nat)(s:St):lZ k nb false s=s.head k s.boxes.length:=by
 unfold lZ
 cases s.head k s.boxes.length<;>rfl
theorem OE (k:List Nat)(nb:Nat)(s:St):lZ k nb true s=(s.head k s.boxes.length).bind fun s=>s.swap2 nb:=(rfl)
theorem X4 (vo:List ig):bM vo []=[]:=(rfl)
theorem X5 (vo:List ig)(i:Nat)(l:List Nat):bM vo (i::l)=vo.getD i default::bM vo l:=(rfl)
theorem afB (a b:aj)(st:St):den env (.seq a b) st=(den env a st).bind (next env b):=by
 rw [lD]
 show (den env a st).bind _=_
 congr 1
 funext ⟨e,st⟩
 cases e<;>rfl
theorem aaU (c:bK)(a b:aj)(st:St):den env (.cond c a b) st=(match st.bW c with
  |some (.bool t)=>dR t (den env a st) (den env b st)
  |_=>none):=by
 rw [lD]
 show (st.bW c).bind _=_
 cases st.bW c with
 |none=>rfl
 |some v =>
  cases v<;>try rfl
  rename_i t
  cases t<;>rfl
theorem Jz (i:Nat)(a:aj)(st:St):den env (.block i a) st=(den env a st).map (endBlock i):=by
 rw [lD]
 show (den env a st).bind _=_
 cases den env a st with
 |none=>rfl
 |some r =>
  obtain ⟨e,st⟩:=r
  cases e with
  |normal=>rfl
  |ret=>rfl
  |oL t n=>rfl
  |exit j =>
   show some (_,_)=some (_,_)
   by_cases h:j=i
   ·subst h;simp [dR]
   ·have:Z6 j i=false:=by cases e:Z6 j i with
    |false=>rfl
    |true=>exact absurd (Nat.eq_of_beq_eq_true e) h
    simp [dR,h,this]
theorem aaV (keep:List Nat)(a:aj)(st:St):den env (.loop keep a) st=den env (.round keep st.boxes.length a) st:=by rw [lD];rfl
theorem JA (keep:List Nat)(nb:Nat)(a:aj)(st:St):den env (.round keep nb a) st=(st.head keep nb).bind fun st=>(den env a st).bind (next env (.round keep nb a)):=by
 rw [lD]
 show (st.head keep nb).bind _=_
 congr 1
 funext st
 show (den env a st).bind _=_
 congr 1
 funext ⟨e,st⟩
 cases e<;>rfl
theorem afC (a:aj)(st:St):den env (.scp a) st=den env a st:=by
 rw [lD]
 rfl
theorem X6 (pre post:List Nat)(a:aj)(st:St):den env (.clean pre post a) st=(st.head pre st.boxes.length).bind fun s=>(den env a s).bind (mO post st.boxes.length):=by
 rw [lD]
 show (st.head pre _).bind _=_
 congr 1
 funext s
 show (den env a s).bind _=_
 congr 1
 funext ⟨e,s⟩
 show (s.head post _).bind _=(s.head post _).map _
 cases s.head post st.boxes.length<;>rfl
theorem aaW (i:Nat)(st:St):den env (.exit i) st=some (.exit i,st):=by rw [lD];rfl
theorem afD (st:St):den env .ret st=some (.ret,st):=by rw [lD];rfl
theorem OG (b:aj)(st:St):next env b (.normal,st)=den env b st:=(rfl)
theorem X7 (b:aj)(i:Nat)(st:St):next env b (.exit i,st)=some (.exit i,st):=(rfl)
theorem aaX (b:aj)(st:St):next env b (.ret,st)=some (.ret,st):=(rfl)
theorem aaY (b:aj)(t:Nat)(n:Int)(st:St):next env b (.oL t n,st)=some (.oL t n,st):=(rfl)
theorem Lc (i t:Nat)(n:Int)(st:St):endBlock i (.oL t n,st)=(.oL t n,st):=(rfl)
noncomputable def thrown (env:Env)(f:Nat)(args:List PV):Option (Option (Nat×Int)):=Ig (den env) env f args
def aiS:Ex×St→Option (Option (Nat×Int))
 |(.exit _,_)=>none
 |(.oL t n,_)=>some (some (t,n))
 |_=>some none
theorem OH (st:St):aiS (.normal,st)=some none:=(rfl)
theorem aaZ (st:St):aiS (.ret,st)=some none:=(rfl)
theorem aa0 (t:Nat)(n:Int)(st:St):aiS (.oL t n,st)=some (some (t,n)):=(rfl)
noncomputable def TV (env:Env)(d f:Nat)(args:List bK)(st:St):Option (Nat×Int)→Option (Ex×St)
 |some (t,n)=>some (.oL t n,st)
 |none=>(IB env [.call d f args] st).map fun st=>(.normal,st)
theorem OI (d f:Nat)(args:List bK)(st:St)(t:Nat)(n:Int):TV env d f args st (some (t,n))=some (.oL t n,st):=(rfl)
theorem OJ (d f:Nat)(args:List bK)(st:St):TV env d f args st none=(IB env [.call d f args] st).map fun st=>(.normal,st):=(rfl)
theorem afE (l:List ig)(d f:Nat)(args:List bK)(st:St):den env (.dem l d f args) st=(IB env l st).bind fun st1=>(args.mapM st1.bW).bind fun vs=>(thrown env f vs).bind (TV env d f args st1):=by
 rw [lD]
 show (IB env l st).bind _=_
 congr 1
 funext st1
 show (args.mapM st1.bW).bind _=_
 congr 1
 funext vs
 show (thrown env f vs).bind _=_
 congr 1
 funext r
 cases r with
 |some p=>rfl
 |none =>
  show (act (den env) env (.call d f args) st1).map _=((act (den env) env (.call d f args) st1).bind (ops (den env) env [])).map _
  cases act (den env) env (.call d f args) st1<;>rfl
theorem Dc (i:Nat)(st:St):endBlock i (.normal,st)=(.normal,st):=(rfl)
theorem Ld (i:Nat)(st:St):endBlock i (.ret,st)=(.ret,st):=(rfl)
theorem IC (i j:Nat)(st:St):endBlock i (.exit j,st)=(dR (Z6 j i) .normal (.exit j),st):=(rfl)
theorem TW (rs:List rY)(st:St):fin rs (.normal,st)=fO st rs:=(rfl)
theorem afF (rs:List rY)(st:St):fin rs (.ret,st)=fO st rs:=(rfl)
theorem aA {f:Nat}{fn:dP}{args:List PV}(h:env f=some (.code fn))(hl:args.length=fn.nargs):cal env f args=(den env fn.body (start fn.ntmps args)).bind (Go.Proofs.YthccglceomoboaaGreatDoor.fin fn.results):=by
 unfold cal iP
 rw [h]
 simp only [if_pos hl]
 show (den env fn.body _).bind _=_
 congr 1
 funext ⟨e,st⟩
 cases e<;>rfl
def Le (n:Nat)(x:kL)(args:List PV):St:=⟨x.av::(args.map .pv++Zaw (n - (args.length+1)) .any),x.boxes,[],none⟩
def aiT (x:kL)(rs:List rY):Ex×St→Option (List qK×Option (List PV))
 |(.exit _,_)=>none
 |(.oL _ _,_)=>none
 |(_,st)=>tJ x st rs
theorem OL (x:kL)(rs:List rY)(st:St):aiT x rs (.normal,st)=tJ x st rs:=(rfl)
theorem aa1 (x:kL)(rs:List rY)(st:St):aiT x rs (.ret,st)=tJ x st rs:=(rfl)
theorem TY (sz:Nat)(es:List PV)(st:St)(rs:List rY):tJ (.row sz es) st rs=(fO st rs).map fun l=>(l,none):=(rfl)
theorem Ua (l:List AV)(st:St)(rs:List rY):tJ (.own l) st rs=(fO st rs).map fun l=>(l,none):=(rfl)
theorem Ub (cs:List PV)(st:St)(rs:List rY):tJ (.box cs) st rs=(match (st.bD 0).boxes[0]? with
  |some b=>dR b.fz none ((resultList (st.bD 0) rs).map fun l=>(l,some (b.cs.map BV.val)))
  |none=>none):=by
 show (match (st.bD 0).boxes[0]? with
  |some b=>if b.fz then none else (resultList (st.bD 0) rs).map fun l=>(l,some (b.cs.map BV.val))
  |none=>none)=_
 split
 ·rename_i b _
  cases b.fz<;>rfl
 ·rfl
theorem afG (sz:Nat)(es:List PV):(kL.row sz es).av=.row sz es:=(rfl)
theorem afH (l:List AV):(kL.own l).av=.kE true l:=(rfl)
theorem VK (cs:List PV):(kL.box cs).av=.aO 0 0:=(rfl)
theorem afI (sz:Nat)(es:List PV):(kL.row sz es).boxes=[]:=(rfl)
theorem afJ (l:List AV):(kL.own l).boxes=[]:=(rfl)
theorem VL (cs:List PV):(kL.box cs).boxes=[⟨false,cs.map .pv⟩]:=(rfl)
theorem lQ {f:Nat}{fn:dP}{x:kL}{args:List PV}(h:env f=some (.code fn))(hl:args.length+1=fn.nargs):Eu env f x args=(den env fn.body (Le fn.ntmps x args)).bind (aiT x fn.results):=by
 unfold Eu oN
 rw [h]
 simp only [if_pos hl]
 show (den env fn.body _).bind _=_
 congr 1
 funext ⟨e,st⟩
 cases e<;>rfl
theorem Du {f:Nat}{g:List PV→Option (List qK)}{args:List PV}(h:env f=some (.ext g)):cal env f args=g args:=by
 unfold cal iP
 rw [h]
theorem OM {keep post:List Nat}{id:Nat}{b:aj}{st S0:St}{R:Option (Ex×St)}(h:st.head keep st.boxes.length=some S0)(h2:S0.head keep S0.boxes.length=some S0)
  (key:∀ rb,rb=aj.round keep S0.boxes.length b→(((den env b S0).bind (next env rb)).map (endBlock id)).bind (mO post st.boxes.length)=R):den env (.clean keep post (.block id (.loop keep b))) st=R:=by
 rw [X6,h,ZaY,Jz,aaV,JA,h2,ZaY]
 exact key _ rfl
theorem aa2 {keep:List Nat}{nb:Nat}{b rb:aj}{st S1:St}(hrb:rb=.round keep nb b)(h:st.head keep nb=some S1):den env rb st=(den env b S1).bind (next env rb):=by
 rw [hrb,JA,h,ZaY]
noncomputable def nH (env:Env)(id:Nat)(post:List Nat)(nb:Nat)(x:Option (Ex×St)):Option (Ex×St):=(x.map (endBlock id)).bind (mO post nb)
theorem X8 {β:Type}{keep post:List Nat}{id nb:Nat}{b:aj}(S:β→St)(R:β→Option (Ex×St))(P:β→Prop)(μ:β→Nat)(x0:β){st:St}(h:st.head keep st.boxes.length=some (S x0))(hP:P x0)
  (hS:∀ x,(S x).boxes.length=nb) (hh:∀ x,(S x).head keep nb=some (S x))
  (step:∀ x rb,P x→(∀ y,μ y<μ x→P y→∀ s,s.head keep nb=some (S y)→nH env id post nb (den env rb s)=R y)→nH env id post nb ((den env b (S x)).bind (next env rb))=R x) :
  den env (.clean keep post (.block id (.loop keep b))) st=R x0:=by
 have hb:st.boxes.length=nb:=by rw [← (wY h).1];exact hS x0
 refine OM h (by rw [hS];exact hh x0) ?_
 intro rb hrb
 rw [hS] at hrb
 rw [hb]
 have key:∀ (k:Nat) (x:β),μ x<k→P x→nH env id post nb ((den env b (S x)).bind (next env rb))=R x:=by
  intro k
  induction k with
  |zero=>intro x hx;omega
  |succ k ih =>
   intro x hx hPx
   refine step x rb hPx fun y hy hPy s hs=>?_
   rw [aa2 hrb hs]
   exact ih y (by omega) hPy
 exact key (μ x0+1) x0 (by omega) hP
theorem aY {keep post:List Nat}{id nb:Nat}{b:aj}(n:Nat)(S:Nat→St)(R:Nat→Option (Ex×St)){st:St}(h:st.head keep st.boxes.length=some (S 0))(hS:∀ i,(S i).boxes.length=nb)(hh:∀ i,(S i).head keep nb=some (S i))
  (step:∀ i rb,i<n→(∀ s,s.head keep nb=some (S (i+1))→nH env id post nb (den env rb s)=R (i+1))→nH env id post nb ((den env b (S i)).bind (next env rb))=R i)
  (last:∀ rb,nH env id post nb ((den env b (S n)).bind (next env rb))=R n) :
  den env (.clean keep post (.block id (.loop keep b))) st=R 0:=by
 refine X8 S R (fun i=>i≤n) (fun i=>n - i) 0 h (Nat.zero_le _) hS hh fun i rb hi ih=>?_
 by_cases hn:i=n
 ·subst hn;exact last rb
 ·exact step i rb (by omega) fun s hs=>ih (i+1) (by omega) (by omega) s hs
theorem OO {id nb:Nat}{post:List Nat}(st:St):nH env id post nb (some (.normal,st))=mO post nb (.normal,st):=(rfl)
theorem aa3 {id nb:Nat}{post:List Nat}(t:Nat)(n:Int)(st:St):nH env id post nb (some (.oL t n,st))=mO post nb (.oL t n,st):=(rfl)
theorem aa4 {id nb:Nat}{post:List Nat}(st:St):nH env id post nb (some (.ret,st))=mO post nb (.ret,st):=(rfl)
theorem X9 {id j nb:Nat}{post:List Nat}(st:St):nH env id post nb (some (.exit j,st))=mO post nb (dR (Z6 j id) .normal (.exit j),st):=(rfl)
theorem dD {id nb:Nat}{post:List Nat}(b:Bool)(x y:Option (Ex×St)):nH env id post nb (dR b x y)=dR b (nH env id post nb x) (nH env id post nb y):=by cases b<;>rfl
theorem OQ (a:α)(f:α→Option β):(some a).bind f=f a:=(rfl)
theorem OT (f:α→Option β):(none:Option α).bind f=none:=(rfl)
theorem Uc (a:α)(f:α→β):(some a).map f=some (f a):=(rfl)
theorem Ud (f:α→β):(none:Option α).map f=none:=(rfl)
theorem Ue (x y:α):(if True then x else y)=x:=(rfl)
theorem OU (x y:α):(if False then x else y)=y:=(rfl)
theorem JB {γ δ:Type}(x:Option γ)(f:γ→Option δ):(x >>= f)=x.bind f:=(rfl)
theorem aiU {γ:Type}(x:γ):(pure x:Option γ)=some x:=(rfl)
theorem aJ {γ:Type}(a:γ)(l:List γ):(a::l).length=l.length+1:=(rfl)
theorem aT {γ:Type}:([]:List γ).length=0:=(rfl)
theorem aP {γ:Type}(l:List γ):[]++l=l:=(rfl)
theorem aK {γ:Type}(a:γ)(l m:List γ):(a::l)++m=a::(l++m):=(rfl)
theorem OV {γ:Type}(a:γ)(l:List γ)(n:Nat):(a::l).take (n+1)=a::l.take n:=(rfl)
theorem qX {γ:Type}(l:List γ):l.take 0=[]:=(rfl)
theorem OW {γ:Type}(a:γ)(l:List γ)(n:Nat):(a::l).drop (n+1)=l.drop n:=(rfl)
theorem OX {γ:Type}(l:List γ):l.drop 0=l:=(rfl)
theorem Uf {γ:Type}(a:γ)(l:List γ):(a::l)[0]?=some a:=(rfl)
theorem Ug {γ:Type}(a:γ)(l:List γ)(n:Nat):(a::l)[n+1]?=l[n]?:=(rfl)
theorem afK {γ:Type}(a0 a1 a2 a3 a4 a5 a6 a7:γ)(l:List γ)(n:Nat):(a0::a1::a2::a3::a4::a5::a6::a7::l)[n+8]?=l[n]?:=(rfl)
theorem OY {γ:Type}(a:γ)(l:List γ)(d:γ):(a::l).getD 0 d=a:=(rfl)
theorem OZ {γ:Type}(a:γ)(l:List γ)(n:Nat)(d:γ):(a::l).getD (n+1) d=l.getD n d:=(rfl)
theorem aa5 {γ:Type}(a0 a1 a2 a3 a4 a5 a6 a7:γ)(l:List γ)(n:Nat)(d:γ):(a0::a1::a2::a3::a4::a5::a6::a7::l).getD (n+8) d=l.getD n d:=(rfl)
theorem Uh {γ:Type}(a x:γ)(l:List γ):(a::l).set 0 x=x::l:=(rfl)
theorem Ui {γ:Type}(a x:γ)(l:List γ)(n:Nat):(a::l).set (n+1) x=a::l.set n x:=(rfl)
theorem afL {γ:Type}(a0 a1 a2 a3 a4 a5 a6 a7 x:γ)(l:List γ)(n:Nat):(a0::a1::a2::a3::a4::a5::a6::a7::l).set (n+8) x=a0::a1::a2::a3::a4::a5::a6::a7::l.set n x:=(rfl)
theorem Uj {γ δ:Type}(f:γ→Option δ):([]:List γ).mapM f=some []:=(rfl)
theorem Uk {γ:Type}(a:γ)(l:List γ)(p:γ→Bool):(a::l).any p=(p a || l.any p):=(rfl)
theorem Ya {γ:Type}(p:γ→Bool):([]:List γ).any p=false:=(rfl)
theorem Ul {γ:Type}(a:γ)(l:List γ)(p:γ→Bool):(a::l).all p=(p a&&l.all p):=(rfl)
theorem Yb {γ:Type}(p:γ→Bool):([]:List γ).all p=true:=(rfl)
theorem Lh {γ δ:Type}(f:δ→γ→δ)(b:δ)(a:γ)(l:List γ):(a::l).foldl f b=l.foldl f (f b a):=(rfl)
theorem O1 {γ δ:Type}(f:δ→γ→δ)(b:δ):([]:List γ).foldl f b=b:=(rfl)
theorem aN {γ δ:Type}(f:γ→δ)(a:γ)(l:List γ):(a::l).map f=f a::l.map f:=(rfl)
theorem aU {γ δ:Type}(f:γ→δ):([]:List γ).map f=[]:=(rfl)
theorem aF {γ:Type}(a:γ):Zaw 0 a=[]:=(rfl)
theorem aH {γ:Type}(a:γ)(n:Nat):Zaw (n+1) a=a::Zaw n a:=(rfl)
theorem aa6 (st:St):IB env [] st=some st:=(rfl)
theorem Yc (o:ig)(l:List ig)(st:St):IB env (o::l) st=(pz env o st).bind (IB env l):=(rfl)
theorem afM {g:Nat}{w:Bool}{o:ig}(st:St):pz env (.grd g w o) st=(match st.slots.getD g .any with
  |.pv (.bool b)=>dR (b==w) (op1 (den env) env o st) (match bQ o with
   |some d=>some (st.put d (.kE false []))
   |none=>some st)
  |.kE _ l=>dR l.isEmpty (match bQ o with
   |some d=>some (st.put d (.kE false []))
   |none=>some st) none
  |_=>none):=by
 unfold pz op
 simp only
 generalize st.slots.getD g .any=v
 cases v with
 |pv p =>
  cases p with
  |bool b=>cases b<;>cases w<;>rfl
  |_=>rfl
 |kE k l=>cases l<;>rfl
 |_=>rfl
theorem aa7 {d c x y}(st:St):pz env (.pick d c x y) st=(match st.bW c with
  |some (.bool b)=>dR b ((st.bW x).map fun v=>st.put d (.pv v)) ((st.bW y).map fun v=>st.put d (.pv v))
  |_=>none):=by
 show (st.bW c).bind _=_
 cases st.bW c with
 |none=>rfl
 |some v =>
  cases v<;>try rfl
  rename_i t
  cases t
  ·show (st.bW y).bind _=Option.map _ (st.bW y)
   cases st.bW y<;>rfl
  ·show (st.bW x).bind _=Option.map _ (st.bW x)
   cases st.bW x<;>rfl
def nI (d:Nat)(args:List bK)(caps:List AV)(st:St)(fl:Bool)(rs:List qK):Option St :=
 some ((dR (fl&&!(rs.all (·.1.scalar))) (caps.foldl (fun s v=>s.bF (.c .void) v) (args.foldl St.bT st)) st).layAll d rs)
theorem Df (d:Nat)(args:List bK)(caps:List AV)(st:St)(rs:List qK):nI d args caps st false rs=some (st.layAll d rs):=by
 simp only [nI,Za8,Cj]
theorem Ey (d:Nat)(args:List bK)(caps:List AV)(st:St)(r:qK)(rs:List qK):nI d args caps st true (r::rs)=dR ((r::rs).all (·.1.scalar)) (some (st.layAll d (r::rs))) (some ((caps.foldl (fun s v=>s.bF (.c .void) v) (args.foldl St.bT st)).layAll d (r::rs))):=by
 unfold nI
 rw [zz]
 cases h:(r::rs).all (·.1.scalar)<;>rfl
noncomputable def dcall (env:Env)(d f:Nat)(args:List bK)(caps:List AV)(st:St):Option St :=
 (args.mapM fun x=>st.jL (st.get x)).bind fun l=>(caps.mapM st.snap).bind fun k=>(cal env f (l.map (·.1)++k.map (·.1))).bind (nI d args caps st (l.any (·.2) || k.any (·.2)))
noncomputable def AY (env:Env)(d f:Nat)(args:List bK)(caps:List PV)(st:St):Option St :=
 (args.mapM fun x=>st.jL (st.get x)).bind fun l=>(cal env f (l.map (·.1)++caps)).bind (nI d args [] st (l.any (·.2)))
theorem Ez (st:St):∀ caps:List PV,(caps.map AV.pv).mapM st.snap=some (caps.map fun v=>(v,false))
 |[]=>rfl
 |c::l=>by
  rw [Zai,Zb6,Ez st l]
  rfl
theorem JC (st:St):∀ caps:List PV,(caps.map AV.pv).foldl (fun s v=>s.bF (.c .void) v) st=st
 |[]=>rfl
 |c::l=>JC st l
theorem ED (d f:Nat)(args:List bK)(caps:List AV)(st:St):jM (den env) env d f args caps st=dcall env d f args caps st:=by
 unfold jM dcall
 show Zce _ _=Zce _ _
 congr 1;funext l
 show Zce _ _=Zce _ _
 congr 1;funext k
 show Zce _ _=Zce _ _
 congr 1;funext rs
 show some _=some _
 congr 2
 cases h:(l.any (·.2) || k.any (·.2))&&!(rs.all (·.1.scalar))<;>rfl
theorem AZ (d f:Nat)(args:List bK)(caps:List PV)(st:St):dcall env d f args (caps.map .pv) st=AY env d f args caps st:=by
 unfold AY dcall
 congr 1;funext l
 rw [Ez,ZaY,ZbN,Zdq]
 have h1:(Prod.fst ∘ fun v:PV=>(v,false))=id:=rfl
 have h2:caps.any (Prod.snd ∘ fun v:PV=>(v,false))=false:=by
  induction caps with
  |nil=>rfl
  |cons c cs ih=>simp [ZcC,ih]
 rw [h1,List.map_id,h2,Zcf]
 congr 1;funext rs
 unfold nI
 rw [JC]
 rfl
theorem aa8 {d f args}(st:St):pz env (.call d f args) st=AY env d f args [] st:=(ED ..).trans (AZ (caps:=[]) ..)
theorem aa9 {d f args}(st:St):op1 (den env) env (.call d f args) st=AY env d f args [] st:=(ED ..).trans (AZ (caps:=[]) ..)
noncomputable def JD (env:Env)(d f:Nat)(x:bK)(args:List bK)(caps:List AV)(st:St):Option St :=
 (args.mapM fun x=>st.jL (st.get x)).bind fun l=>(caps.mapM st.snap).bind fun k=>(dR (l.any (·.2) || k.any (·.2)) none (tH st x)).bind fun q=>(Eu env f q.1 (l.map (·.1)++k.map (·.1))).bind fun r=>(nP q.2.2 q.2.1 r.2).bind fun st2=>some (st2.layAll d r.1)
noncomputable def Lj (env:Env)(d f:Nat)(x:bK)(args:List bK)(caps:List PV)(st:St):Option St :=
 (args.mapM fun x=>st.jL (st.get x)).bind fun l=>(dR (l.any (·.2)) none (tH st x)).bind fun q=>(Eu env f q.1 (l.map (·.1)++caps)).bind fun r=>(nP q.2.2 q.2.1 r.2).bind fun st2=>some (st2.layAll d r.1)
theorem abb (d f:Nat)(x:bK)(args:List bK)(caps:List AV)(st:St):pR (den env) env d f x args caps st=JD env d f x args caps st:=by
 unfold pR JD
 congr 1;funext l
 congr 1;funext k
 congr 1
 cases h:(l.any (·.2) || k.any (·.2))<;>rfl
theorem Yd (d f:Nat)(x:bK)(args:List bK)(caps:List PV)(st:St):JD env d f x args (caps.map .pv) st=Lj env d f x args caps st:=by
 unfold Lj JD
 congr 1;funext l
 rw [Ez,ZaY,ZbN,Zdq]
 have h1:(Prod.fst ∘ fun v:PV=>(v,false))=id:=rfl
 have h2:caps.any (Prod.snd ∘ fun v:PV=>(v,false))=false:=by
  induction caps with
  |nil=>rfl
  |cons c cs ih=>simp [ZcC,ih]
 rw [h1,List.map_id,h2,Zcf]
noncomputable def afN (env:Env)(d f:Nat)(x:bK)(args:List bK)(caps:List AV)(st:St):Option St:=JD env d f x args caps (args.foldl St.bT st)
noncomputable def O4 (env:Env)(d f:Nat)(x:bK)(args:List bK)(caps:List PV)(st:St):Option St:=Lj env d f x args caps (args.foldl St.bT st)
theorem Ll (d f:Nat)(x:bK)(args:List bK)(caps:List AV)(st:St):iY (den env) env d f x args caps st=afN env d f x args caps st:=abb ..
theorem EF (d f:Nat)(x:bK)(args:List bK)(caps:List PV)(st:St):afN env d f x args (caps.map .pv) st=O4 env d f x args caps st:=Yd ..
theorem afO {d f x args}(st:St):pz env (.lin d f x args) st=O4 env d f x args [] st:=(Ll ..).trans (EF (caps:=[]) ..)
theorem afP {d f x args}(st:St):op1 (den env) env (.lin d f x args) st=O4 env d f x args [] st:=(Ll ..).trans (EF (caps:=[]) ..)
theorem abd {d g x args}(st:St):pz env (.linv d g x args) st=(match st.get g with
  |.pv (.func f caps)=>O4 env d f x args caps st
  |.fn f caps=>afN env d f x args caps st
  |_=>none):=by
 show (match st.get g with
  |.pv (.func f caps)=>iY (den env) env d f x args (caps.map .pv) st
  |.fn f caps=>iY (den env) env d f x args caps st
  |_=>none)=_
 split<;>simp only [Ll,EF]
theorem abe {d g x args}(st:St):op1 (den env) env (.linv d g x args) st=pz env (.linv d g x args) st:=(rfl)
theorem Ye {d x args}(st:St):pz env (.kK d x args) st=(match st.get x with
  |.pv (.func f caps)=>AY env d f args caps st
  |.fn f caps=>dcall env d f args caps st
  |_=>none):=by
 show (match st.get x with
  |.pv (.func f caps)=>jM (den env) env d f args (caps.map .pv) st
  |.fn f caps=>jM (den env) env d f args caps st
  |_=>none)=_
 split<;>simp only [ED,AZ]
theorem Yf {d x args}(st:St):op1 (den env) env (.kK d x args) st=pz env (.kK d x args) st:=(rfl)
theorem abf {d c x y}(st:St):op1 (den env) env (.pick d c x y) st=pz env (.pick d c x y) st:=(rfl)
theorem afQ {d x}(st:St):pz env (.ah d x) st=plain (.ah d x) st:=(rfl)
theorem afR {d x}(st:St):pz env (.ak d x) st=plain (.ak d x) st:=(rfl)
theorem afS {d o x y}(st:St):pz env (.bin d o x y) st=plain (.bin d o x y) st:=(rfl)
theorem afT {d neg n x y}(st:St):pz env (.Vs d neg n x y) st=plain (.Vs d neg n x y) st:=(rfl)
theorem afU {d neg x y}(st:St):pz env (.Xf d neg x y) st=plain (.Xf d neg x y) st:=(rfl)
theorem afV {d neg x}(st:St):pz env (.RQ d neg x) st=plain (.RQ d neg x) st:=(rfl)
theorem afW {d sz x l h m}(st:St):pz env (.sl4 d sz x l h m) st=plain (.sl4 d sz x l h m) st:=(rfl)
theorem afX {d n x}(st:St):pz env (.ZU d n x) st=plain (.ZU d n x) st:=(rfl)
theorem abg {d z l q m}(st:St):pz env (.CQ d z l q m) st=plain (.CQ d z l q m) st:=(rfl)
theorem abh {d z l q m}(st:St):op1 (den env) env (.CQ d z l q m) st=plain (.CQ d z l q m) st:=(rfl)
theorem afY {d x}(st:St):pz env (.bxw d x) st=act (den env) env (.bxw d x) st:=(rfl)
theorem afZ {d x}(st:St):op1 (den env) env (.bxw d x) st=act (den env) env (.bxw d x) st:=(rfl)
theorem af0 {n p x}(st:St):pz env (.Xi n p x) st=act (den env) env (.Xi n p x) st:=(rfl)
theorem af2 {n p x}(st:St):op1 (den env) env (.Xi n p x) st=act (den env) env (.Xi n p x) st:=(rfl)
theorem af4 {d f x g}(st:St):pz env (.Ie d f x g) st=act (den env) env (.Ie d f x g) st:=(rfl)
theorem af5 {d f x g}(st:St):op1 (den env) env (.Ie d f x g) st=act (den env) env (.Ie d f x g) st:=(rfl)
theorem af6 {d x}(st:St):pz env (.ZL d x) st=plain (.ZL d x) st:=(rfl)
theorem af7 {d x}(st:St):op1 (den env) env (.ZL d x) st=plain (.ZL d x) st:=(rfl)
theorem af8 {d n x}(st:St):pz env (.Nr d n x) st=plain (.Nr d n x) st:=(rfl)
theorem af9 {d n x}(st:St):op1 (den env) env (.ZU d n x) st=plain (.ZU d n x) st:=(rfl)
theorem aga {d n x}(st:St):op1 (den env) env (.Nr d n x) st=plain (.Nr d n x) st:=(rfl)
theorem agb {d neg x}(st:St):op1 (den env) env (.RQ d neg x) st=plain (.RQ d neg x) st:=(rfl)
theorem agc {d sz x l h m}(st:St):op1 (den env) env (.sl4 d sz x l h m) st=plain (.sl4 d sz x l h m) st:=(rfl)
theorem aiV {d o x}(st:St):pz env (.un d o x) st=plain (.un d o x) st:=(rfl)
theorem abj {d k x}(st:St):pz env (.conv d k x) st=plain (.conv d k x) st:=(rfl)
theorem abk {d n p}(st:St):pz env (.load d n p) st=plain (.load d n p) st:=(rfl)
theorem abl {d p off}(st:St):pz env (.ay d p off) st=plain (.ay d p off) st:=(rfl)
theorem abm {d p i len sz}(st:St):pz env (.tu d p i len sz) st=plain (.tu d p i len sz) st:=(rfl)
theorem abn {d sz x i}(st:St):pz env (.bG d sz x i) st=plain (.bG d sz x i) st:=(rfl)
theorem agd {d x i len sz n}(st:St):pz env (.idx d x i len sz n) st=plain (.idx d x i len sz n) st:=(rfl)
theorem agf {d sz x lo hi}(st:St):pz env (.I4 d sz x lo hi) st=plain (.I4 d sz x lo hi) st:=(rfl)
theorem agh {d x}(st:St):pz env (.len d x) st=plain (.len d x) st:=(rfl)
theorem agi {d x i}(st:St):pz env (.ext d x i) st=plain (.ext d x i) st:=(rfl)
theorem Yg {d z parts}(st:St):pz env (.build d z parts) st=plain (.build d z parts) st:=(rfl)
theorem aiW {d mx x y}(st:St):pz env (.mn d mx x y) st=plain (.mn d mx x y) st:=(rfl)
theorem agj {d f caps}(st:St):pz env (.I5 d f caps) st=plain (.I5 d f caps) st:=(rfl)
theorem Yh {d z}(st:St):pz env (.alloc d z) st=act (den env) env (.alloc d z) st:=(rfl)
theorem agk {d x}(st:St):pz env (.box d x) st=act (den env) env (.box d x) st:=(rfl)
theorem Yi {d n p x}(st:St):pz env (.store d n p x) st=act (den env) env (.store d n p x) st:=(rfl)
theorem abo {d sz parts}(st:St):pz env (.dW d sz parts) st=act (den env) env (.dW d sz parts) st:=(rfl)
theorem abp {d z n c}(st:St):pz env (.make d z n c) st=act (den env) env (.make d z n c) st:=(rfl)
theorem agl {d sz x y}(st:St):pz env (.app d sz x y) st=act (den env) env (.app d sz x y) st:=(rfl)
theorem agm {d x}(st:St):pz env (.Xg d x) st=act (den env) env (.Xg d x) st:=(rfl)
theorem agn {d x}(st:St):pz env (.Xh d x) st=plain (.Xh d x) st:=(rfl)
theorem aiX {d f x}(st:St):pz env (.pk d f x) st=act (den env) env (.pk d f x) st:=(rfl)
theorem Yj {d x args}(st:St):pz env (.yield d x args) st=act (den env) env (.yield d x args) st:=(rfl)
theorem agp {d x}(st:St):op1 (den env) env (.ah d x) st=plain (.ah d x) st:=(rfl)
theorem agq {d x}(st:St):op1 (den env) env (.ak d x) st=plain (.ak d x) st:=(rfl)
theorem agr {d o x y}(st:St):op1 (den env) env (.bin d o x y) st=plain (.bin d o x y) st:=(rfl)
theorem ags {d neg n x y}(st:St):op1 (den env) env (.Vs d neg n x y) st=plain (.Vs d neg n x y) st:=(rfl)
theorem agt {d neg x y}(st:St):op1 (den env) env (.Xf d neg x y) st=plain (.Xf d neg x y) st:=(rfl)
theorem aiY {d o x}(st:St):op1 (den env) env (.un d o x) st=plain (.un d o x) st:=(rfl)
theorem abq {d k x}(st:St):op1 (den env) env (.conv d k x) st=plain (.conv d k x) st:=(rfl)
theorem abr {d n p}(st:St):op1 (den env) env (.load d n p) st=plain (.load d n p) st:=(rfl)
theorem abt {d p off}(st:St):op1 (den env) env (.ay d p off) st=plain (.ay d p off) st:=(rfl)
theorem abu {d p i len sz}(st:St):op1 (den env) env (.tu d p i len sz) st=plain (.tu d p i len sz) st:=(rfl)
theorem abv {d sz x i}(st:St):op1 (den env) env (.bG d sz x i) st=plain (.bG d sz x i) st:=(rfl)
theorem agu {d x i len sz n}(st:St):op1 (den env) env (.idx d x i len sz n) st=plain (.idx d x i len sz n) st:=(rfl)
theorem agv {d sz x lo hi}(st:St):op1 (den env) env (.I4 d sz x lo hi) st=plain (.I4 d sz x lo hi) st:=(rfl)
theorem agw {d x}(st:St):op1 (den env) env (.len d x) st=plain (.len d x) st:=(rfl)
theorem agx {d x i}(st:St):op1 (den env) env (.ext d x i) st=plain (.ext d x i) st:=(rfl)
theorem Yk {d z parts}(st:St):op1 (den env) env (.build d z parts) st=plain (.build d z parts) st:=(rfl)
theorem aiZ {d mx x y}(st:St):op1 (den env) env (.mn d mx x y) st=plain (.mn d mx x y) st:=(rfl)
theorem agy {d f caps}(st:St):op1 (den env) env (.I5 d f caps) st=plain (.I5 d f caps) st:=(rfl)
theorem Yl {d z}(st:St):op1 (den env) env (.alloc d z) st=act (den env) env (.alloc d z) st:=(rfl)
theorem agz {d x}(st:St):op1 (den env) env (.box d x) st=act (den env) env (.box d x) st:=(rfl)
theorem Ym {d n p x}(st:St):op1 (den env) env (.store d n p x) st=act (den env) env (.store d n p x) st:=(rfl)
theorem abw {d sz parts}(st:St):op1 (den env) env (.dW d sz parts) st=act (den env) env (.dW d sz parts) st:=(rfl)
theorem abx {d z n c}(st:St):op1 (den env) env (.make d z n c) st=act (den env) env (.make d z n c) st:=(rfl)
theorem agA {d sz x y}(st:St):op1 (den env) env (.app d sz x y) st=act (den env) env (.app d sz x y) st:=(rfl)
theorem agB {d x}(st:St):op1 (den env) env (.Xg d x) st=act (den env) env (.Xg d x) st:=(rfl)
theorem agC {d x}(st:St):op1 (den env) env (.Xh d x) st=plain (.Xh d x) st:=(rfl)
theorem ai0 {d f x}(st:St):op1 (den env) env (.pk d f x) st=act (den env) env (.pk d f x) st:=(rfl)
theorem Yn {d x args}(st:St):op1 (den env) env (.yield d x args) st=act (den env) env (.yield d x args) st:=(rfl)
theorem aby (d:Nat)(v:PV):AV.kill d (.pv v)=.pv v:=(rfl)
theorem Yo (d:Nat):AV.kill d .any=.any:=(rfl)
theorem Yp (d sz:Nat)(es:List PV):AV.kill d (.row sz es)=.row sz es:=(rfl)
theorem Um (d o j:Nat):AV.kill d (.aO o j)=.aO o j:=(rfl)
theorem abz (d f:Nat)(l:List AV):AV.kill d (.fn f l)=.fn f l:=(rfl)
theorem abA (d o j:Nat):AV.kill d (.pp o j)=.pp o j:=(rfl)
theorem Yq (d s:Nat)(l:List PV):AV.kill d (.Dk s l)=.Dk s l:=(rfl)
theorem Yr (d:Nat)(k:Bool)(l:List AV):AV.kill d (.kE k l)=.kE k l:=(rfl)
theorem Yt (d:Nat):AV.kill d .lV=.lV:=(rfl)
theorem Un (d t off len:Nat):AV.kill d (.ref (.slot t) off len)=dR (decide (t=d)) .any (.ref (.slot t) off len):=by
 by_cases h:t=d<;>simp [AV.kill,AV.roots,h,dR]
theorem Uo (d o j off len:Nat):AV.kill d (.ref (.cell o j) off len)=.ref (.cell o j) off len:=(rfl)
theorem Ur (d t i j:Nat):AV.kill d (.oz (.slot t) i j)=dR (decide (t=d)) .any (.oz (.slot t) i j):=by
 by_cases h:t=d<;>simp [AV.kill,AV.roots,h,dR]
theorem Us (d o q i j:Nat):AV.kill d (.oz (.cell o q) i j)=.oz (.cell o q) i j:=(rfl)
theorem abB (d:Nat)(v:PV):AV.dw d (.pv v)=.pv v:=(rfl)
theorem Yu (d:Nat):AV.dw d .any=.any:=(rfl)
theorem Yv (d sz:Nat)(es:List PV):AV.dw d (.row sz es)=.row sz es:=(rfl)
theorem Ut (d o j:Nat):AV.dw d (.aO o j)=.aO o j:=(rfl)
theorem abC (d f:Nat)(l:List AV):AV.dw d (.fn f l)=.fn f l:=(rfl)
theorem abD (d o j:Nat):AV.dw d (.pp o j)=.pp o j:=(rfl)
theorem Yw (d s:Nat)(l:List PV):AV.dw d (.Dk s l)=.Dk s l:=(rfl)
theorem Yx (d:Nat)(k:Bool)(l:List AV):AV.dw d (.kE k l)=.kE k l:=(rfl)
theorem Yy (d:Nat):AV.dw d .lV=.lV:=(rfl)
theorem Uu (d t j off len:Nat):AV.dw d (.ref (.cell t j) off len)=dR (decide (t=d)) .any (.ref (.cell t j) off len):=by
 by_cases h:t=d<;>simp [AV.dw,AV.wJ,h,dR]
theorem Uw (d t off len:Nat):AV.dw d (.ref (.slot t) off len)=.ref (.slot t) off len:=(rfl)
theorem Ux (d t q i j:Nat):AV.dw d (.oz (.cell t q) i j)=dR (decide (t=d)) .any (.oz (.cell t q) i j):=by
 by_cases h:t=d<;>simp [AV.dw,AV.wJ,h,dR]
theorem Uy (d t i j:Nat):AV.dw d (.oz (.slot t) i j)=.oz (.slot t) i j:=(rfl)
theorem abE (d y:Nat)(v:PV):AV.iE d y (.pv v)=.pv v:=(rfl)
theorem Yz (d y:Nat):AV.iE d y .any=.any:=(rfl)
theorem YA (d y sz:Nat)(es:List PV):AV.iE d y (.row sz es)=.row sz es:=(rfl)
theorem Uz (d y o j:Nat):AV.iE d y (.aO o j)=.aO o j:=(rfl)
theorem abG (d y f:Nat)(l:List AV):AV.iE d y (.fn f l)=.fn f l:=(rfl)
theorem abH (d y o j:Nat):AV.iE d y (.pp o j)=.pp o j:=(rfl)
theorem YB (d y s:Nat)(l:List PV):AV.iE d y (.Dk s l)=.Dk s l:=(rfl)
theorem YC (d y:Nat)(k:Bool)(l:List AV):AV.iE d y (.kE k l)=.kE k l:=(rfl)
theorem YD (d y:Nat):AV.iE d y .lV=.lV:=(rfl)
theorem UA (d y t j off len:Nat):AV.iE d y (.ref (.cell t j) off len)=dR (decide (t=d)) (dR (decide (j=y)) .any (.ref (.cell t j) off len)) (.ref (.cell t j) off len):=by
 by_cases h:t=d<;>by_cases h2:j=y<;>simp [AV.iE,AV.Dl,h,h2,dR]
theorem UC (d y t off len:Nat):AV.iE d y (.ref (.slot t) off len)=.ref (.slot t) off len:=(rfl)
theorem UD (d y t q i j:Nat):AV.iE d y (.oz (.cell t q) i j)=dR (decide (t=d)) (dR (decide (q=y)) .any (.oz (.cell t q) i j)) (.oz (.cell t q) i j):=by
 by_cases h:t=d<;>by_cases h2:q=y<;>simp [AV.iE,AV.Dl,h,h2,dR]
theorem UE (d y t i j:Nat):AV.iE d y (.oz (.slot t) i j)=.oz (.slot t) i j:=(rfl)
theorem zD {γ δ:Type}(f:γ→δ)(l:List γ):(l.map f).take l.length=l.map f:=ZaH (by simp)
theorem abI (k:IntKind)(n:Int):(PV.int k n).scalar=true:=(rfl)
theorem YE (b:Bool):(PV.bool b).scalar=true:=(rfl)
theorem abJ (b:ByteArray):(PV.str b).scalar=true:=(rfl)
theorem YF (sz:Nat)(es:List PV):(PV.list sz es).scalar=false:=(rfl)
theorem YG (f:Nat)(es:List PV):(PV.func f es).scalar=false:=(rfl)
theorem YH (k:IntKind)(n:Int):(PV.int k n).cells=[.int k n]:=(rfl)
theorem UF (b:Bool):(PV.bool b).cells=[.bool b]:=(rfl)
theorem YI (b:ByteArray):(PV.str b).cells=[.str b]:=(rfl)
theorem UG (sz:Nat)(es:List PV):(PV.list sz es).cells=[.list sz es]:=(rfl)
theorem cells_func (f:Nat)(es:List PV):(PV.func f es).cells=[.func f es]:=(rfl)
theorem YJ (cs:List PV):(PV.agg cs).cells=cs:=(rfl)
theorem abK (c:PV)(cs:List PV):part (c::cs) 0 none=some c:=(rfl)
theorem YK (c:PV)(cs:List PV)(n:Nat)(m:Option Nat):part (c::cs) (n+1) m=part cs n m:=by
 cases m with
 |none=>rfl
 |some m =>
  simp only [part,zd,List.drop_succ_cons]
  by_cases h:n+m≤cs.length
  ·rw [if_pos h,if_pos (by omega)]
  ·rw [if_neg h,if_neg (by omega)]
theorem YL (c:PV)(cs:List PV)(m:Nat):part (c::cs) 0 (some m)=if m≤(c::cs).length then some (.agg ((c::cs).take m)) else none:=by
 simp only [part,Zaj,ZaT]
theorem aI {n:Int}(h:-9223372036854775808≤n∧n≤9223372036854775807):IntKind.i64.wrap n=n:=Go.IntWalk.i64_in n h
theorem bC {i n:Nat}(h:i<n)(hn:n≤lim):IntKind.i64.wrap ((i:Int)+1)=((i+1:Nat):Int):=by
 unfold lim at hn
 rw [Go.IntWalk.i64_in _ (by omega)]
 omega
theorem au {k:IntKind}{i n:Nat}(h:i<n):index (.int k (i:Int)) n=some i:=by
 simp only [index]
 rw [if_pos (by omega)]
 simp
theorem A8 {k:IntKind}{i:Int}{n:Nat}(h0:0≤i)(h:i<n):index (.int k i) n=some i.toNat:=by
 simp only [index]
 rw [if_pos ⟨h0,h⟩]
end
end Go.Proofs.YthccglceomoboaaGreatDoor
namespace Go.Proofs.YthccglceomoboaaGreatDoor
open V
def jA (n:Nat):List PV→Option (List qK)
 |[.list sz es]=>if sz=n∧es.length≤lim then some [(.list sz es,true)] else none
 |_=>none
def JE:PV→Option UInt8
 |.int .u8 n=>if 0≤n∧n<256 then some (UInt8.ofNat n.toNat) else none
 |_=>none
def oI {α:Type}(f:PV→Option α):List PV→Option (List α)
 |[]=>some []
 |p::l=>match f p with
  |some x=>match oI f l with
   |some xs=>some (x::xs)
   |none=>none
  |none=>none
def EG:PV→Option cZ
 |.agg cs=>match oI JE cs with
  |some l=>if h:l.length=8 then some ⟨l.toArray,by simpa using h⟩ else none
  |none=>none
 |_=>none
def wZ:PV→Option (List cZ)
 |.list 8 es=>oI EG es
 |_=>none
def uY (n:Int):Bool:=decide (-9223372036854775808≤n)&&decide (n≤9223372036854775807)
def Cm:PV→Option kM
 |.agg [.int .i64 v,.int .i64 s,d]=>match wZ d with
  |some d=>if uY v&&uY s then some ⟨v,s,d⟩ else none
  |none=>none
 |_=>none
theorem abL {p:PV}{x:UInt8}(h:JE p=some x):p=.int .u8 (x.toNat:Int):=by
 unfold JE at h
 split at h
 case h_2=>cases h
 rename_i n
 split at h
 case isFalse=>cases h
 cases h
 rw [UInt8.toNat_ofNat_of_lt' (show n.toNat<2 ^ 8 by omega)]
 congr 1;omega
theorem YM (x:UInt8):JE (.int .u8 (x.toNat:Int))=some x:=by
 have:=x.toNat_lt
 unfold JE
 simp only
 rw [if_pos (by omega)]
 simp
theorem pF {α:Type}{f:PV→Option α}{enc:α→PV}(hf:∀ p x,f p=some x→p=enc x):∀ {l:List PV} {xs:List α},oI f l=some xs→l=xs.map enc
 |[],_,h=>by cases h;rfl
 |p::l,xs,h=>by
  unfold oI at h
  split at h
  case h_2=>cases h
  rename_i x hx
  split at h
  case h_2=>cases h
  rename_i ys hy
  cases h
  rw [Zai,← hf p x hx,← pF hf hy]
theorem nJ {α:Type}{f:PV→Option α}{enc:α→PV}:∀ {l:List α},(∀ x∈l,f (enc x)=some x)→oI f (l.map enc)=some l
 |[],_=>rfl
 |x::l,h=>by
  simp only [Zai,oI,h x (by simp),nJ (l:=l) fun y hy=>h y (by simp [hy])]
theorem YN {p:PV}{x:cZ}(h:EG p=some x):p=bH x:=by
 unfold EG at h
 split at h
 case h_2=>cases h
 rename_i cs
 split at h
 case h_2=>cases h
 rename_i l hl
 split at h
 case isFalse=>cases h
 rename_i h8
 cases h
 rw [pF (fun p x=>abL) hl]
 simp [bH,je,Vector.toList]
theorem UH (x:cZ):EG (bH x)=some x:=by
 unfold EG bH je
 simp only
 rw [nJ (f:=JE) (enc:=fun b:UInt8=>.int .u8 (b.toNat:Int)) fun b _=>YM b]
 simp
 rfl
theorem EH {p:PV}{x:List cZ}(h:wZ p=some x):p=eP x:=by
 unfold wZ at h
 split at h
 case h_2=>cases h
 rw [pF (fun p x=>YN) h];rfl
theorem CB (x:List cZ):wZ (eP x)=some x:=by
 unfold wZ eP
 simp only
 exact nJ fun x _=>UH x
theorem abM {p:PV}{x:kM}(h:Cm p=some x):p=DV x:=by
 unfold Cm at h
 split at h
 case h_2=>cases h
 split at h
 case h_2=>cases h
 rename_i d hd
 split at h
 case isFalse=>cases h
 cases h
 have:=EH hd
 rw [this];rfl
theorem abN {p:PV}{x:kM}(h:Cm p=some x):uY x.volume=true∧uY x.start=true:=by
 unfold Cm at h
 split at h
 case h_2=>cases h
 split at h
 case h_2=>cases h
 split at h
 case isFalse=>cases h
 rename_i hc
 cases h
 simpa using hc
theorem YO (x:kM)(h1:uY x.volume=true)(h2:uY x.start=true):Cm (DV x)=some x:=by
 have:=CB x.data
 unfold eP at this
 simp only [Cm,DV,this,h1,h2,Bool.and_self,if_true]
def zF (l:List Int):Int:=if l.length<1∨8<l.length then 6 else if l.any (fun n=>decide (n<1) || decide (n > 4096)) then 2 else 0
def dS (im:List (List cZ)):List Int:=im.map fun v=>(v.length:Int)
def sJ (sz:List Int)(w:kM):Int :=
 if w.volume<0∨(sz.length:Int)≤w.volume then 7 else if w.data.length=0 then 1
 else if w.start<0∨(sz.getD w.volume.toNat 0) - w.data.length<w.start then 2 else 0
def putAt (l:List cZ)(s:Nat)(d:List cZ):List cZ:=l.take s++d++l.drop (s+d.length)
def EI (im:List (List cZ))(w:kM):List (List cZ):=im.set w.volume.toNat (putAt (im.getD w.volume.toNat []) w.start.toNat w.data)
def ql (sz:List Int):List kM→Nat→Int×Int
 |[],_=>(0,0)
 |w::l,i=>if sJ sz w≠0 then (i,sJ sz w) else ql sz l (i+1)
def UJ (im:List (List cZ))(l:List kM):Int:=if zF (dS im)≠0 then zF (dS im) else (ql (dS im) l 0).2
def apI (im:List (List cZ))(l:List kM):Int:=if zF (dS im)≠0 then 0 else (ql (dS im) l 0).1
def O5 (im:List (List cZ))(l:List kM):List (List cZ):=if UJ im l=0 then l.foldl EI im else []
def uy:List PV→Option (List qK)
 |[.list 1 im,.list 3 l]=>match oI wZ im with
  |some im=>match oI Cm l with
   |some l=>if im.length≤1000000∧im.all (fun v=>decide (v.length≤1000000))=true then some [(.list 1 ((O5 im l).map eP),false),(.int .i64 (apI im l),false),(.int .i64 (UJ im l),false)] else none
   |none=>none
  |none=>none
 |_=>none
theorem YP {args:List PV}{rs:List qK}(h:uy args=some rs):∃ (im:List (List cZ)) (l:List kM),args=[.list 1 (im.map eP),.list 3 (l.map DV)]∧(∀ w∈l,uY w.volume=true∧uY w.start=true)∧im.length≤1000000∧(∀ v∈im,v.length≤1000000) ∧
  rs=[(.list 1 ((O5 im l).map eP),false),(.int .i64 (apI im l),false),(.int .i64 (UJ im l),false)]:=by
 unfold uy at h
 split at h
 case h_2=>cases h
 split at h
 case h_2=>cases h
 rename_i im hi
 split at h
 case h_2=>cases h
 rename_i l hl
 split at h
 case isFalse=>cases h
 rename_i hc
 cases h
 refine ⟨im,l,by rw [pF (fun p x=>EH) hi,pF (fun p x=>abM) hl],?_,hc.1,fun v hv=>by simpa using zt.1 hc.2 v hv,rfl⟩
 have:∀ {q:List PV} {xs:List kM},oI Cm q=some xs→∀ w∈xs,uY w.volume=true∧uY w.start=true:=by
  intro q
  induction q with
  |nil=>intro xs h;cases h;simp
  |cons p q ih =>
   intro xs h
   unfold oI at h
   split at h
   case h_2=>cases h
   rename_i x hx
   split at h
   case h_2=>cases h
   rename_i ys hy
   cases h
   simp only [List.mem_cons,forall_eq_or_imp]
   exact ⟨abN hx,ih hy⟩
 exact this hl
theorem UK {im:List (List cZ)}{l:List kM}(h1:∀ w∈l,uY w.volume=true∧uY w.start=true)(h2:im.length≤1000000)(h3:∀ v∈im,v.length≤1000000) :
  uy [.list 1 (im.map eP),.list 3 (l.map DV)]=some [(.list 1 ((O5 im l).map eP),false),(.int .i64 (apI im l),false),(.int .i64 (UJ im l),false)]:=by
 simp only [uy]
 rw [nJ fun x _=>CB x,nJ fun x hx=>YO x (h1 x hx).1 (h1 x hx).2]
 simp only
 rw [if_pos ⟨h2,zt.2 fun v hv=>by simpa using h3 v hv⟩]
end Go.Proofs.YthccglceomoboaaGreatDoor
namespace Go.Proofs.YthccglceomoboaaGreatDoor
structure End where
 pos:Nat
 list:Nat
 step:Int
 deriving DecidableEq,Inhabited
def iW (e:End):PV:=.agg [.int .i64 (e.pos:Int),.int .i64 (e.list:Int),.int .i64 e.step]
def EJ:PV→Option End
 |.agg [.int .i64 a,.int .i64 b,.int .i64 c]=>if 0≤a∧0≤b then some ⟨a.toNat,b.toNat,c⟩ else none
 |_=>none
theorem UL (e:End):EJ (iW e)=some e:=by
 simp [EJ,iW]
theorem YQ {p:PV}{e:End}(h:EJ p=some e):p=iW e:=by
 unfold EJ at h
 split at h
 ·split at h
  ·rename_i hc
   cases h
   simp only [iW,Zbf hc.1,Zbf hc.2]
  ·cases h
 ·cases h
def uS (x y:End):Bool:=decide (x.pos<y.pos)
def qY (l:List End):List End:=(Sort.pdq uS l.toArray 0 l.length (Lib.bitLen l.length) true true).toList
def lS (g:Nat):PV→List PV→Option (List PV)
 |.func f [],es=>if f=g then if es.length≤1000000 then (oI EJ es).map fun l=>(qY l).map iW else none else none
 |_,_=>none
theorem IE {g:Nat}{l:List End}(h:l.length≤1000000):lS g (.func g []) (l.map iW)=some ((qY l).map iW):=by
 unfold lS
 simp only [if_true,Z3,h]
 rw [nJ fun x _=>UL x]
 rfl
theorem Lm {g:Nat}{c:PV}{es es':List PV}(h:lS g c es=some es'):∃ l:List End,c=.func g []∧es=l.map iW∧l.length≤1000000∧es'=(qY l).map iW:=by
 unfold lS at h
 split at h
 ·split at h
  ·rename_i hg
   split at h
   ·rename_i hl
    obtain ⟨l,h1,h2⟩:=Option.map_eq_some_iff.1 h
    have:=pF (fun p x h=>YQ h) h1
    subst this
    exact ⟨l,by rw [hg],rfl,by simpa using hl,h2.symm⟩
   ·cases h
  ·cases h
 ·cases h
end Go.Proofs.YthccglceomoboaaGreatDoor
namespace Go.Proofs
open Go.Shelf
def Tryz.tz_ren:Go.Shelf.Ren:=⟨fun|29=>264|n=>n,fun|22=>193|3=>3|4=>4|25=>271|54=>380|0=>0|5=>5|n=>n,fun|1=>0|n=>n⟩
theorem Tryz.tz:Go.Proofs.Lays7.n29 Tryz.prog Tryz.tz_ren:={
 mixed:=by kernel_rfl
 f29:=Tryz.func264.trans (congrArg some (by kernel_rfl))
 t0:=Tryz.underlying0
 a0:=Tryz.isAgg0
 z0:=Tryz.sizeOf0
 v0:=Tryz.zeroValue0
 i0:=by kernel_rfl
 t3:=Tryz.underlying3
 a3:=Tryz.isAgg3
 z3:=Tryz.sizeOf3
 v3:=Tryz.zeroValue3
 i3:=by kernel_rfl
 t4:=Tryz.underlying4
 a4:=Tryz.isAgg4
 z4:=Tryz.sizeOf4
 v4:=Tryz.zeroValue4
 i4:=by kernel_rfl
 t5:=Tryz.underlying5
 a5:=Tryz.isAgg5
 z5:=Tryz.sizeOf5
 v5:=Tryz.zeroValue5
 i5:=by kernel_rfl
 t22:=Tryz.underlying193
 a22:=Tryz.isAgg193
 z22:=Tryz.sizeOf193
 v22:=Tryz.zeroValue193
 i22:=by kernel_rfl
 t25:=Tryz.underlying271
 a25:=Tryz.isAgg271
 z25:=Tryz.sizeOf271
 v25:=Tryz.zeroValue271
 i25:=by kernel_rfl
 t54:=Tryz.underlying380
 a54:=Tryz.isAgg380
 z54:=Tryz.sizeOf380
 g1:=by kernel_rfl }
end Go.Proofs
namespace Go.Proofs.YthccglceomoboaaGreatDoor
open Go.RowKit Go.Shelf
def tzX:List PV→Option (List qK)
 |[.int .u64 n]=>if 0≤n∧n<18446744073709551616 then some [(.int .i64 (Lib.ctz 64 n.toNat:Nat),false)] else none
 |_=>none
theorem ai1 {T:Tags}{w:World}(h:jW T w):TabAt 0 Lib.deBruijn64tab w:=fun j hj=>by
 have hp:=h _ (Zaq.2 rfl)
 obtain ⟨b,off,e1,_,_,h3⟩:=hp.sF
 obtain ⟨eb,eo⟩:0=b∧0=off+0:=by
  injection e1 with e1
  injection e1 with e1
  injection e1 with e2 e3
  exact ⟨e2,e3⟩
 have eo:off=0:=by omega
 subst eb;subst eo
 obtain ⟨u,c1,_,c2⟩:=h3 j (PV.int .u8 ((Lib.deBruijn64tab[j]:Nat):Int)) (by simp [ZD hj])
 rw [c2.dA] at c1
 rw [show Lib.deBruijn64tab.getD j 0=Lib.deBruijn64tab[j] by simp [zR,ZD hj]]
 simpa using c1
theorem amr:∀ args rs,tzX args=some rs→callable Tryz.prog 264=true∧lq Tryz.prog 264 args rs:=fun args rs h=>by
 unfold tzX at h
 split at h
 case h_2=>cases h
 rename_i n
 split at h
 case isFalse=>cases h
 rename_i hn
 cases h
 refine ⟨by kernel_rfl,fun T0 w vs h1 h2 h3 h4 hG=>?_⟩
 match vs,h3 with
 |[v],_ =>
  have hv:=(h4 0 _ v rfl rfl).dA
  subst hv
  have hc:=Any7.bits_TrailingZeros64 Tryz.tz n.toNat (by omega) w (fun _=>ai1 hG)
  rw [Zbf hn.1] at hc
  refine Calls.mono hc ?_
  rintro e w' ⟨rfl,rfl⟩
  refine ⟨_,T0,rfl,Below.refl _ _,fun _ _=>rfl,h2,#[_],rfl,rfl,fun i r u hr hu=>?_⟩
  match i with
  |0=>cases hr;cases hu;exact .int _ _
  |i+1=>simp at hr
end Go.Proofs.YthccglceomoboaaGreatDoor
namespace Go.Proofs.YthccglceomoboaaGreatDoor
open Go.RowKit Go.ChangeShapes Go.WideShapes Go.ChangeAt
theorem O6 {T:Tags}{w:World}{b:Bool}{v:Value}(h:uh T w [(.bool b,false)] v):v=.bool b:=by
 obtain ⟨arr,h1,h2,h3⟩:=h
 have ha:arr.size=1:=h1
 have e0:arr[0]?=some arr[0]:=Array.getElem?_eq_getElem (by omega)
 have hv:v=arr[0]:=by rw [h2,if_pos ha,Array.getD_eq_getD_getElem?,e0];rfl
 have hr:aG (fun b=>T b=.ro) w (.bool b) arr[0]:=h3 0 (.bool b,false) arr[0] rfl e0
 rw [hv]
 exact hr.kP
def Lp (w:World):Prop:=jW (fun b=>if b<w.heap.size then .ro else .other) w
theorem UM {P:Program}{env:Env}{f:Nat}{args:List PV}{vs:List Value}{w:World}(hE:Ci P env)(h:cal env f args=some [(.bool true,false)])(hl:vs.length=args.length)
  (hr:∀ (i:Nat) x v,args[i]?=some x→vs[i]?=some v→aG (fun b=>b<w.heap.size) w x v) (hG:Lp w):Calls P f vs.toArray w (fun e w'=>e=.returned (.bool true)∧Below w.heap.size w w'):=by
 obtain ⟨n,hn⟩:=kT h
 have hC:=(sH hE hn).2 (fun b=>if b<w.heap.size then .ro else .other) w vs (fun b=>by
  by_cases hb:b<w.heap.size
  ·exact .inl (if_pos hb)
  ·exact .inr (if_neg hb)) (fun b hb=>if_neg (by omega)) hl (fun i x v hx hv=>(hr i x v hx hv).frame fun b hb _=>⟨if_pos hb,rfl⟩) hG
 refine hC.mono ?_
 rintro e w' ⟨v,T',rfl,h1,_,_,h2⟩
 exact ⟨by rw [O6 h2],h1⟩
def Lr (w:World):List PV→List Value→Prop
 |[],[]=>True
 |x::xs,v::vs=>aG (fun b=>b<w.heap.size) w x v∧Lr w xs vs
 |_,_=>False
theorem Lr.get {w:World}:∀ {xs:List PV} {vs:List Value},Lr w xs vs→vs.length=xs.length∧∀ (i:Nat) x v,xs[i]?=some x→vs[i]?=some v→aG (fun b=>b<w.heap.size) w x v
 |[],[],_=>⟨rfl,fun i x v hx=>by simp at hx⟩
 |x::xs,v::vs,h=>by
  obtain ⟨h1,h2⟩:=h
  obtain ⟨k1,k2⟩:=h2.get
  refine ⟨by simp [k1],fun i y u hy hu=>?_⟩
  cases i with
  |zero=>cases hy;cases hu;exact h1
  |succ i=>exact k2 i y u hy hu
 |[],_::_,h=>h.elim
 |_::_,[],h=>h.elim
theorem YR {P:Program}{env:Env}{f:Nat}{args:List PV}{vs:List Value}{w:World}(hE:Ci P env)(h:cal env f args=some [(.bool true,false)])(hr:Lr w args vs)(hG:Lp w:=by exact Lp.none):Calls P f vs.toArray w (fun e w'=>e=.returned (.bool true)∧Below w.heap.size w w') :=
 UM hE h hr.get.1 hr.get.2 hG
def Ba (w:World)(cs:List Value)(ps:List PV):Prop :=
 cs.length=ps.length∧(∀ c∈cs,c.oneCell'=true)∧∀ (j:Nat) x v,ps[j]?=some x→cs[j]?=some v→aG (fun b=>b<w.heap.size) w x v
def lF (P:Program)(t:TypeId)(n:Nat)(S:List PV→Prop):Prop :=
 P.cellsOf t=n∧∀ {H:Type} {enc:TypeId×Value→H} {w:World} {fuel:Nat} {cs:List Value} {x:DataW H×List MemPlace},DataW.trod enc P w 0 (fun _=>true) true fuel t cs=some x→∃ ps,S ps∧ps.length=n∧Ba w cs ps
def SInt (k:IntKind)(ps:List PV):Prop:=∃ n,(Lit.int k n).wf=true∧ps=[.int k n]
def ams (ps:List PV):Prop:=∃ b,ps=[.bool b]
def ai2 (n:Nat)(S:List PV→Prop)(ps:List PV):Prop:=ps.length=n∧∀ p∈ps,S [p]
def abO (n:Nat)(S:List PV→Prop)(wr:List PV→PV)(ps:List PV):Prop:=∃ es,ps=[.list n es]∧∀ x∈es,∃ q,S q∧x=wr q
def O7:List (List PV→Prop)→List PV→Prop
 |[],ps=>ps=[]
 |S::Ss,ps=>∃ p q,ps=p++q∧S p∧O7 Ss q
section
variable {P:Program}{t e:TypeId}{n m:Nat}{S:List PV→Prop}{k:IntKind}
theorem sK {w:World}{c:Value}{p:PV}(hc:c.oneCell'=true)(h:aG (fun b=>b<w.heap.size) w p c):Ba w [c] [p] :=
 ⟨rfl,fun x hx=>by rw [Zaq.1 hx];exact hc,fun j x v hx hv=>by
  cases j with
  |zero=>cases hx;cases hv;exact h
  |succ j=>simp at hx⟩
theorem lF.int (ht:P.underlying t=some (.int k))(hc:P.cellsOf t=1):lF P t 1 (SInt k):=⟨hc,fun h=>by
 obtain ⟨n,rfl,_,hw⟩:=DataW.trod_int ht h
 exact ⟨[.int k n],⟨n,hw,rfl⟩,rfl,sK rfl (.int k n)⟩⟩
theorem lF.bool (ht:P.underlying t=some .bool)(hc:P.cellsOf t=1):lF P t 1 ams:=⟨hc,fun h=>by
 obtain ⟨b,rfl,_⟩:=DataW.trod_bool ht h
 exact ⟨[.bool b],⟨b,rfl⟩,rfl,sK rfl (.bool b)⟩⟩
theorem xg {α:Type}{p:Nat→α→Prop}:∀ n:Nat,(∀ i,i<n→∃ y,p i y)→∃ l:List α,l.length=n∧∀ i x,l[i]?=some x→p i x
 |0,_=>⟨[],rfl,fun i x h=>by simp at h⟩
 |n+1,h=>by
  obtain ⟨l,h1,h2⟩:=xg n fun i hi=>h i (by omega)
  obtain ⟨y,hy⟩:=h n (by omega)
  refine ⟨l++[y],by simp [h1],fun i x hx=>?_⟩
  by_cases hi:i<n
  ·rw [Zac (by omega)] at hx;exact h2 i x hx
  ·have:=(zb.1 hx).1
   obtain rfl:i=n:=by simp at this;omega
   rw [Zab (by omega),h1,Nat.sub_self] at hx
   cases hx
   exact hy
theorem lF.arr (ht:P.underlying t=some (.array n e))(he:lF P e 1 S)(hc:P.cellsOf t=n):lF P t n (ai2 n S):=⟨hc,fun {H enc w fuel cs x} h=>by
 obtain ⟨xs,m,_,_,hl,hx,hE⟩:=DataW.trod_array ht h
 rw [hc] at hl
 obtain ⟨l,h1,h2⟩:=xg (p:=fun i (b:PV)=>S [b]∧∃ c,cs[i]?=some c∧c.oneCell'=true∧aG (fun b=>b<w.heap.size) w b c) n fun i hi=>by
  have:=hE i hi
  rw [ZD (by omega),he.1] at this
  obtain ⟨ps,g1,g2,g3,g4,g5⟩:=he.2 this
  match ps,g2 with
  |[p],_ =>
   have hci:cs[i]?=some cs[i]:=ZD (by omega)
   have h0:((cs.drop (i*1)).take 1)[0]?=some cs[i]:=by
    rw [List.getElem?_take,if_pos (by decide),List.getElem?_drop]
    simpa using hci
   exact ⟨p,g1,cs[i],hci,g4 _ (Zad h0),g5 0 p _ rfl h0⟩
 refine ⟨l,⟨h1,fun p hp=>?_⟩,h1,by omega,fun c hc=>?_,fun j x v hx hv=>?_⟩
 ·obtain ⟨i,hi⟩:=ZaM.1 hp
  exact (h2 i p hi).1
 ·obtain ⟨i,hi⟩:=ZaM.1 hc
  have hil:i<l.length:=by
   have:=(zb.1 hi).1
   omega
  obtain ⟨_,c',e1,e2,_⟩:=h2 i l[i] (ZD hil)
  rw [hi] at e1;cases e1;exact e2
 ·obtain ⟨_,c',e1,_,e3⟩:=h2 j x hx
  rw [hv] at e1;cases e1;exact e3⟩
theorem yD {w:World}{b off:Nat}{v:Value}(h:w.cell? ⟨b,off,none⟩=some v):bZ w b:=by
 unfold World.cell? at h
 split at h
 ·rename_i arr E q hb
  exact ⟨arr,E,q,hb⟩
 ·cases h
theorem lF.list {wr:List PV→PV}(ht:P.underlying t=some (.slice e))(hc:P.cellsOf t=1)(hr:lF P e n S)(hpos:0<n)(hw:∀ ps,S ps→ps.length=n→(wr ps).cells=ps):lF P t 1 (abO n S wr):=⟨hc,fun {H enc w fuel cs x} h=>by
 rcases DataW.trod_slice ht h with ⟨rfl,_⟩|⟨a,len,cap,elems,rest,m,_,rfl,_,_,hl,hm,hel,hE,hR,_⟩
 ·exact ⟨[.list n []],⟨[],rfl,fun x hx=>by cases hx⟩,rfl,sK rfl (.nil n none)⟩
 ·obtain ⟨l,h1,h2⟩:=xg (p:=fun i (y:List Value×List PV)=>w.cells? 0 (a.add (i*n)) n=some y.1∧S y.2∧y.2.length=n∧Ba w y.1 y.2) len fun i hi=>by
   have:=hE i hi
   rw [ZD (by omega),hr.1,ZaF] at this
   obtain ⟨c,h3,h4⟩:=this
   obtain ⟨ps,g1,g2,g3⟩:=hr.2 h4
   exact ⟨(c,ps),h3,g1,g2,g3⟩
  refine ⟨[.list n (l.map fun y=>wr y.2)],⟨_,rfl,fun x hx=>?_⟩,rfl,sK rfl ?_⟩
  ·obtain ⟨y,hy,rfl⟩:=List.mem_map.1 hx
   obtain ⟨i,hi⟩:=ZaM.1 hy
   exact ⟨y.2,(h2 i y hi).2.1,rfl⟩
  ·by_cases hcap:cap=0
   ·have:len=0:=by omega
    subst hcap;subst this
    have:l=[]:=List.eq_nil_of_length_eq_zero h1
    subst this
    exact .nil n (some a)
   ·-- there are cells
    have hcell:∃ off v,w.cell? ⟨a.block,off,none⟩=some v∧a.spot=none:=by
     have O8:∀ (i:Nat) (c:List Value),w.cells? 0 (a.add (i*n)) n=some c→∃ off v,w.cell? ⟨a.block,off,none⟩=some v∧a.spot=none:=fun i c h3=>by
      obtain ⟨_,hc0,h4⟩:=World.cells?_some h3
      have h5:=h4 0 hpos
      rw [ZD (by omega)] at h5
      have hs:(a.add (i*n)).spot=none:=by simpa [Addr.add] using World.cell?_spot h5
      have hs0:a.spot=none:=by
       unfold Addr.add at hs
       split at hs
       ·exact hs
       ·rename_i hne
        by_cases h0:i*n=0
        ·rename_i q;exact absurd h0 (by simpa using hne)
        ·rcases Za2 i with hi0|hi0
         ·subst hi0;simp at h0
         ·-- the row begins at a: its first cell
          have:0<len∨len=0:=by omega
          rcases this with hlen|hlen
          ·obtain ⟨y,hy⟩:∃ y,l[0]?=some y:=⟨l[0],ZD (by omega)⟩
           obtain ⟨_,hc1,h6⟩:=World.cells?_some (h2 0 y hy).1
           have h7:=h6 0 hpos
           rw [ZD (by omega)] at h7
           simpa [Addr.add] using World.cell?_spot h7
          ·have hrl:0<rest.length:=by have:=(hR rfl).1;omega
           have:=(hR rfl).2 0 (by omega)
           have h8:rest[0]?=some rest[0]:=ZD hrl
           rw [h8,hr.1,hlen,ZaF] at this
           obtain ⟨c1,h9,_⟩:=this
           obtain ⟨_,hc1,h6⟩:=World.cells?_some h9
           have h7:=h6 0 hpos
           rw [ZD (by omega)] at h7
           simpa [Addr.add] using World.cell?_spot h7
      obtain ⟨b,off,spot⟩:=a
      simp only at hs0
      subst hs0
      rw [Addr.add_lit,Addr.add_lit] at h5
      exact ⟨_,_,h5,rfl⟩
     rcases Za2 len with hlen|hlen
     ·have hrl:0<rest.length:=by have:=(hR rfl).1;omega
      have:=(hR rfl).2 0 (by omega)
      have h8:rest[0]?=some rest[0]:=ZD hrl
      rw [h8,hr.1,ZaF] at this
      obtain ⟨c1,h9,_⟩:=this
      exact O8 _ c1 h9
     ·obtain ⟨y,hy⟩:∃ y,l[0]?=some y:=⟨l[0],ZD (by omega)⟩
      exact O8 0 _ (h2 0 y hy).1
    obtain ⟨apS,v0,hv0,hspot⟩:=hcell
    obtain ⟨b,off,spot⟩:=a
    simp only at hspot hv0
    subst hspot
    have hC:bZ w b:=yD hv0
    have hget:∀ (i:Nat) x,(l.map fun y=>wr y.2)[i]?=some x→∃ y,l[i]?=some y∧x=wr y.2:=fun i x hx=>by
     rw [zc] at hx
     cases e:l[i]? with
     |none=>rw [e] at hx;cases hx
     |some y=>rw [e] at hx;exact ⟨y,rfl,(Option.some.inj hx).symm⟩
    have hlen:(l.map fun y=>wr y.2).length=len:=by simp [h1]
    have:=aG.list (ok:=fun b=>b<w.heap.size) (w:=w) n (l.map fun y=>wr y.2) b off cap (fun i j=>(((l[i]?).map (·.1)).getD []).getD j default) hC.lt hC (by rw [hlen];exact hl) hm
     (fun x hx=>by
      obtain ⟨i,hi⟩:=ZaM.1 hx
      obtain ⟨y,hy,rfl⟩:=hget i x hi
      obtain ⟨_,g1,g2,_⟩:=h2 i y hy
      rw [hw _ g1 g2,g2])
     (fun i x j p hi hj=>by
      obtain ⟨y,hy,rfl⟩:=hget i x hi
      obtain ⟨g0,g1,g2,g3,g4,g5⟩:=h2 i y hy
      rw [hw _ g1 g2] at hj
      have hjn:j<n:=by have:=(zb.1 hj).1;omega
      obtain ⟨_,hc1,h6⟩:=World.cells?_some g0
      have h7:=h6 j hjn
      have hcj:y.1[j]?=some y.1[j]:=ZD (by omega)
      have hd:(((l[i]?).map (·.1)).getD []).getD j default=y.1[j]:=by
       rw [hy];simp [zR,hcj]
      rw [hd]
      rw [hcj,Addr.add_lit,Addr.add_lit] at h7
      exact ⟨h7,g4 _ (Zad hcj)⟩)
     (fun i x j p hi hj=>by
      obtain ⟨y,hy,rfl⟩:=hget i x hi
      obtain ⟨g0,g1,g2,g3,g4,g5⟩:=h2 i y hy
      rw [hw _ g1 g2] at hj
      have hjn:j<n:=by have:=(zb.1 hj).1;omega
      have hcj:y.1[j]?=some y.1[j]:=ZD (by omega)
      have hd:(((l[i]?).map (·.1)).getD []).getD j default=y.1[j]:=by
       rw [hy];simp [zR,hcj]
      rw [hd]
      exact g5 j p _ hj hcj)
    rw [hlen] at this
    exact this⟩
theorem Ba.append {w:World}{c1 c2:List Value}{p1 p2:List PV}(h1:Ba w c1 p1)(h2:Ba w c2 p2):Ba w (c1++c2) (p1++p2):=by
 obtain ⟨a1,a2,a3⟩:=h1
 obtain ⟨b1,b2,b3⟩:=h2
 refine ⟨by simp [a1,b1],fun c hc=>?_,fun j x v hx hv=>?_⟩
 ·rcases List.mem_append.1 hc with h|h
  ·exact a2 c h
  ·exact b2 c h
 ·by_cases hj:j<p1.length
  ·rw [Zac hj] at hx
   rw [Zac (by omega)] at hv
   exact a3 j x v hx hv
  ·rw [Zab (by omega)] at hx
   rw [Zab (by omega),a1] at hv
   exact b3 _ x v hx hv
inductive UN (P:Program):Nat→List Field→List (List PV→Prop)→Nat→Prop
 |nil (o:Nat):UN P o [] [] 0
 |cons {o n m:Nat} {f:Field} {fs:List Field} {S:List PV→Prop} {Ss:List (List PV→Prop)}:f.offset=o→lF P f.type n S→UN P (o+n) fs Ss m→UN P o (f::fs) (S::Ss) (n+m)
theorem UN.read {o:Nat}{fs:List Field}{Ss:List (List PV→Prop)}(h:UN P o fs Ss m){H:Type}{enc:TypeId×Value→H}{w:World}{fuel:Nat}{cs:List Value}{xs:List (DataW H×List MemPlace)}(hl:cs.length=o+m)
  (hx:∀ (i:Nat) (f:Field),fs[i]?=some f→∃ x,DataW.trod enc P w 0 (fun _=>true) true fuel f.type ((cs.drop f.offset).take (P.cellsOf f.type))=some x):∃ ps,O7 Ss ps∧ps.length=m∧Ba w (cs.drop o) ps:=by
 induction h with
 |nil o=>exact ⟨[],rfl,rfl,by rw [List.drop_of_length_le (by omega)];exact (⟨rfl,fun c hc=>(by cases hc),fun j x v hx=>(by simp at hx)⟩:Ba w [] [])⟩
 |@cons o n m f fs S Ss h1 h2 h3 ih =>
  obtain ⟨x,h4⟩:=hx 0 f rfl
  rw [h2.1,h1] at h4
  obtain ⟨p,g1,g2,g3⟩:=h2.2 h4
  obtain ⟨q,k1,k2,k3⟩:=ih (by omega) (fun i f hf=>hx (i+1) f hf)
  refine ⟨p++q,⟨p,q,rfl,g1,k1⟩,by simp [g2,k2],?_⟩
  have:cs.drop o=(cs.drop o).take n++cs.drop (o+n):=by rw [← List.drop_drop,ZaP]
  rw [this]
  exact g3.append k3
theorem lF.struct {fs:Array Field}{Ss:List (List PV→Prop)}(ht:P.underlying t=some (.struct fs))(hf:UN P 0 fs.toList Ss n)(hc:P.cellsOf t=n):lF P t n (O7 Ss):=⟨hc,fun {H enc w fuel cs x} h=>by
 obtain ⟨xs,m,_,_,hl,hx,hE⟩:=DataW.trod_struct ht h
 obtain ⟨ps,h1,h2,h3⟩:=hf.read (xs:=xs) (enc:=enc) (w:=w) (fuel:=m) (cs:=cs) (by omega) (fun i f hi=>by
  have hi':fs[i]?=some f:=by simpa using hi
  have:=hE i f hi'
  have hil:i<xs.length:=by rw [hx];exact (Array.getElem?_eq_some_iff.1 hi').1
  exact ⟨xs[i],by rw [this,ZD hil]⟩)
 exact ⟨ps,h1,h2,by simpa using h3⟩⟩
theorem lF.VN {f0 f1 f2:Field}{n0 n1 n2:Nat}{S0 S1 S2:List PV→Prop}(ht:P.underlying t=some (.struct #[f0,f1,f2]))(h0:lF P f0.type n0 S0)(h1:lF P f1.type n1 S1)(h2:lF P f2.type n2 S2)(o0:f0.offset=0)(o1:f1.offset=0+n0)(o2:f2.offset=0+n0+n1)(hc:P.cellsOf t=n0+(n1+(n2+0))):lF P t (n0+(n1+(n2+0))) (O7 [S0,S1,S2]) :=
 lF.struct ht (show UN P 0 [f0,f1,f2] [S0,S1,S2] (n0+(n1+(n2+0))) from .cons o0 h0 (.cons o1 h1 (.cons o2 h2 (.nil _)))) hc
theorem VO {H:Type}{enc:TypeId×Value→H}{w:World}{v:Value}{d:DataW H}{p:List MemPlace}(hr:lF P t 1 S)(hone:v.cells.toList=[v])(h:DataW.Trod enc P w 0 (fun _=>true) true t v d p) :
  ∃ q,S [q]∧aG (fun b=>b<w.heap.size) w q v:=by
 obtain ⟨fuel,hf⟩:=h
 obtain ⟨ps,h1,h2,h3,h4,h5⟩:=hr.2 hf
 match ps,h2 with
 |[q],_=>exact ⟨q,h1,h5 0 q v rfl (by rw [hone];rfl)⟩
theorem YS {H:Type}{enc:TypeId×Value→H}{w:World}{v:Value}{d:DataW H}{p:List MemPlace}{m:Reach}{base:Nat}(ht:P.underlying t=some (.slice e))(hr:lF P t 1 S)(hv:Value.okWide P w m base t v)(h:DataW.Trod enc P w 0 (fun _=>true) true t v d p) :
  ∃ q,S [q]∧aG (fun b=>b<w.heap.size) w q v:=by
 obtain ⟨a,l,c,rfl⟩:=okWide_slice ht hv
 exact VO hr rfl h
theorem agD {H:Type}{enc:TypeId×Value→H}{w:World}{v:Value}{d:DataW H}{p:List MemPlace}{m:Reach}{base:Nat}(ht:P.underlying t=some (.int k))(hr:lF P t 1 S)(hv:Value.okWide P w m base t v)(h:DataW.Trod enc P w 0 (fun _=>true) true t v d p) :
  ∃ q,S [q]∧aG (fun b=>b<w.heap.size) w q v:=by
 have:v.cells.toList=[v]:=by
  simp only [Value.okWide,ht,Cell.okWide] at hv
  cases v<;>simp_all [Cell.ok,Value.cells]
 exact VO hr this h
end
end Go.Proofs.YthccglceomoboaaGreatDoor
namespace Go.Proofs.YthccglceomoboaaGreatDoor
def fn6:dP:=⟨3,144,[.tmp 6],(.seq (.ops [.ak 6 (.c (.bool false))]) (.seq (.seq (.ops [.ah 27 (.t 0),.len 28 (.t 27),.bin 29 .lss (.t 28) (.c (.int .i64 1)),.ah 30 (.t 29),.grd 30 false (.ah 31 (.t 0)),.grd 30 false (.len 32 (.t 31)),.grd 30 false (.bin 33 .gtr (.t 32) (.c (.int .i64 60))),.pick 34 (.t 30) (.c (.bool true)) (.t 33),.ah 35 (.t 34),.grd 35 false (.ah 36 (.t 1)),.grd 35 false (.len 37 (.t 36)),.grd 35 false (.bin 38 .gtr (.t 37) (.c (.int .i64 6))),.pick 39 (.t 35) (.c (.bool true)) (.t 38)]) (.cond (.t 39) (.seq (.ops [.call 40 24 [],.ak 6 (.t 40)]) .ret) .skip)) (.seq (.ops [.ah 41 (.t 2),.conv 42 .i64 (.t 41),.bin 43 .rem (.t 42) (.c (.int .i64 8)),.bin 44 .add (.c (.int .i64 1)) (.t 43),.ak 7 (.t 44)]) (.seq (.ops [.ah 46 (.t 0),.ah 47 (.t 1),.call 48 25 [(.t 46),(.t 47)],.ah 45 (.t 48),.ext 49 (.t 45) 0,.ext 50 (.t 45) 1,.ak 8 (.t 49),.ak 9 (.t 50)]) (.seq (.ops [.ah 52 (.t 8),.ah 53 (.t 9),.ah 54 (.t 7),.call 55 41 [(.t 52),(.t 53),(.t 54)],.ah 51 (.t 55),.ext 56 (.t 51) 0,.ext 57 (.t 51) 1,.ext 58 (.t 51) 2,.ak 10 (.t 56),.ak 11 (.t 57),.ak 12 (.t 58)]) (.seq (.seq (.ops [.ah 59 (.t 12),.un 60 .not (.t 59)]) (.cond (.t 60) (.seq (.ops [.call 61 24 [],.ak 6 (.t 61)]) .ret) .skip)) (.seq (.ops [.ah 63 (.t 8),.ah 64 (.t 7),.call 65 26 [(.t 63),(.t 64)],.ah 62 (.t 65),.ext 66 (.t 62) 0,.ext 67 (.t 62) 1,.alloc 13 [(.int .i64 0),(.int .i64 0),(.list 0 [])],.store none 3 (.t 13) (.t 66),.ak 14 (.t 67)]) (.seq (.ops [.ah 69 (.t 9),.ah 70 (.t 7),.call 71 26 [(.t 69),(.t 70)],.ah 68 (.t 71),.ext 72 (.t 68) 0,.ext 73 (.t 68) 1,.alloc 15 [(.int .i64 0),(.int .i64 0),(.list 0 [])],.store none 3 (.t 15) (.t 72),.ak 16 (.t 73)]) (.seq (.ops [.load 75 (some 3) (.t 13),.load 76 (some 3) (.t 15),.call 77 27 [(.t 75),(.t 76)],.ah 74 (.t 77),.ext 78 (.t 74) 0,.ext 79 (.t 74) 1,.ext 80 (.t 74) 2,.ak 17 (.t 78),.ak 18 (.t 79),.ak 19 (.t 80)]) (.seq (.ops [.ah 82 (.t 8),.len 83 (.t 82),.ah 84 (.t 7),.ah 85 (.t 11),.call 86 42 [(.t 83),(.t 84),(.t 85)],.ah 81 (.t 86),.ext 87 (.t 81) 0,.ext 88 (.t 81) 1,.ak 20 (.t 87),.ak 21 (.t 88)]) (.seq (.ops [.ah 90 (.t 8),.dW 91 1 [(.t 90)],.ah 92 (.t 17),.dW 93 1 [(.t 92)],.call 94 43 [(.t 91),(.t 93)],.ah 89 (.t 94),.ext 95 (.t 89) 0,.ext 96 (.t 89) 1,.ak 22 (.t 95),.ak 23 (.t 96)]) (.seq (.ops [.ah 98 (.t 9),.dW 99 1 [(.t 98)],.ah 100 (.t 22),.call 101 39 [(.t 99),(.t 100)],.ah 97 (.t 101),.ext 102 (.t 97) 0,.ext 103 (.t 97) 1,.ext 104 (.t 97) 2,.ak 24 (.t 102),.ak 25 (.t 103),.ak 26 (.t 104)]) (.seq (.seq (.ops [.ah 105 (.t 14),.bin 106 .neq (.t 105) (.c (.int .i64 0)),.ah 107 (.t 106),.grd 107 false (.ah 108 (.t 16)),.grd 107 false (.bin 109 .neq (.t 108) (.c (.int .i64 0))),.pick 110 (.t 107) (.c (.bool true)) (.t 109),.ah 111 (.t 110),.grd 111 false (.ah 112 (.t 19)),.grd 111 false (.bin 113 .neq (.t 112) (.c (.int .i64 0))),.pick 114 (.t 111) (.c (.bool true)) (.t 113),.ah 115 (.t 114),.grd 115 false (.ah 116 (.t 21)),.grd 115 false (.bin 117 .neq (.t 116) (.c (.int .i64 0))),.pick 118 (.t 115) (.c (.bool true)) (.t 117),.ah 119 (.t 118),.grd 119 false (.ah 120 (.t 23)),.grd 119 false (.bin 121 .neq (.t 120) (.c (.int .i64 0))),.pick 122 (.t 119) (.c (.bool true)) (.t 121),.ah 123 (.t 122),.grd 123 false (.ah 124 (.t 26)),.grd 123 false (.bin 125 .neq (.t 124) (.c (.int .i64 0))),.pick 126 (.t 123) (.c (.bool true)) (.t 125)]) (.cond (.t 126) (.seq (.ops [.ak 6 (.c (.bool false))]) .ret) .skip)) (.seq (.ops [.call 127 24 [],.ah 128 (.t 127),.grd 128 true (.ah 129 (.t 17)),.grd 128 true (.ah 130 (.t 10)),.grd 128 true (.call 131 32 [(.t 129),(.t 130)]),.pick 132 (.t 128) (.t 131) (.c (.bool false)),.ah 133 (.t 132),.grd 133 true (.ah 134 (.t 18)),.grd 133 true (.ah 135 (.t 20)),.grd 133 true (.bin 136 .leq (.t 134) (.t 135)),.pick 137 (.t 133) (.t 136) (.c (.bool false)),.ah 138 (.t 137),.grd 138 true (.ah 139 (.t 24)),.grd 138 true (.ah 140 (.t 8)),.grd 138 true (.dW 141 1 [(.t 140)]),.grd 138 true (.call 142 22 [(.t 139),(.t 141)]),.pick 143 (.t 138) (.t 142) (.c (.bool false)),.ak 6 (.t 143)]) .ret))))))))))))))⟩
def Ls:aj:=(.seq (.seq (.ops [.ah 11 (.t 5),.ah 12 (.t 0),.len 13 (.t 12),.bin 14 .lss (.t 11) (.t 13)]) (.cond (.t 14) .skip (.exit 0))) (.seq (.block 1 (.seq (.oK [] [([0,1,2,3,4,5,6,7],8)] none [9] [.ah 17 (.t 0),.ah 18 (.t 5),.bG 19 1 (.t 17) (.t 18),.load 20 none (.t 19),.ah 21 (.t 1),.ah 22 (.t 5),.bG 23 1 (.t 21) (.t 22),.load 24 none (.t 23),.call 25 85 [(.t 20),(.t 24)],.un 26 .not (.t 25)]) (.cond (.t 26) (.seq (.ops [.ak 4 (.c (.bool false))]) .ret) .skip))) (.ops [.ah 15 (.t 5),.bin 16 .add (.t 15) (.c (.int .i64 1)),.ak 5 (.t 16)])))
def Lu:aj :=
(.clean [0,1,5] [4] (.block 0 (.loop [0,1,5] Ls)))
def abP:dP:=⟨2,27,[.tmp 4],(.seq (.ops [.ak 4 (.c (.bool false))]) (.seq (.seq (.ops [.ah 6 (.t 0),.len 7 (.t 6),.ah 8 (.t 1),.len 9 (.t 8),.bin 10 .neq (.t 7) (.t 9)]) (.cond (.t 10) (.seq (.ops [.ak 4 (.c (.bool false))]) .ret) .skip)) (.seq (.seq (.ops [.ak 5 (.c (.int .i64 0))])
   Lu) (.seq (.ops [.ak 4 (.c (.bool true))]) .ret))))⟩
def abQ:dP:=⟨0,132,[.tmp 0],(.seq (.ops [.ak 0 (.c (.bool false))]) (.seq (.ops [.call 18 87 [(.c (.int .i64 8)),(.c (.int .i64 4))],.ah 17 (.t 18),.ext 19 (.t 17) 0,.ext 20 (.t 17) 1,.alloc 1 [(.int .i64 0),(.int .i64 0),(.list 1 []),(.int .i64 0),(.list 1 [])],.store none 5 (.t 1) (.t 19),.ak 2 (.t 20)]) (.seq (.ops [.load 22 (some 5) (.t 1),.build 23 [(.int .i64 0),(.int .i64 0)] [(0,1,(.c (.int .i64 5))),(1,1,(.c (.int .i64 1)))],.call 24 88 [(.t 22),(.t 23)],.ah 21 (.t 24),.ext 25 (.t 21) 0,.ext 26 (.t 21) 1,.ext 27 (.t 21) 2,.store none 5 (.t 1) (.t 25),.ak 3 (.t 26),.ak 4 (.t 27)]) (.seq (.ops [.load 29 (some 5) (.t 1),.call 30 90 [(.t 29)],.call 31 89 [(.c (.int .i64 8)),(.c (.int .i64 4)),(.t 30)],.ah 28 (.t 31),.ext 32 (.t 28) 0,.ext 33 (.t 28) 1,.ext 34 (.t 28) 2,.alloc 5 [(.int .i64 0),(.int .i64 0),(.list 1 []),(.int .i64 0),(.list 1 [])],.store none 5 (.t 5) (.t 32),.ak 6 (.t 33),.ak 7 (.t 34)]) (.seq (.ops [.build 36 [(.int .u8 0),(.int .u8 0),(.int .u8 0),(.int .u8 0),(.int .u8 0),(.int .u8 0),(.int .u8 0),(.int .u8 0)] [],.build 37 [(.int .u8 0),(.int .u8 0),(.int .u8 0),(.int .u8 0),(.int .u8 0),(.int .u8 0),(.int .u8 0),(.int .u8 0)] [],.build 38 [(.int .u8 0),(.int .u8 0),(.int .u8 0),(.int .u8 0),(.int .u8 0),(.int .u8 0),(.int .u8 0),(.int .u8 0)] [],.build 39 [(.int .u8 0),(.int .u8 0),(.int .u8 0),(.int .u8 0),(.int .u8 0),(.int .u8 0),(.int .u8 0),(.int .u8 0)] [],.build 40 [(.int .u8 0),(.int .u8 0),(.int .u8 0),(.int .u8 0),(.int .u8 0),(.int .u8 0),(.int .u8 0),(.int .u8 0)] [],.build 41 [(.int .u8 0),(.int .u8 0),(.int .u8 0),(.int .u8 0),(.int .u8 0),(.int .u8 0),(.int .u8 0),(.int .u8 0)] [(0,1,(.c (.int .u8 1)))],.build 42 [(.int .u8 0),(.int .u8 0),(.int .u8 0),(.int .u8 0),(.int .u8 0),(.int .u8 0),(.int .u8 0),(.int .u8 0)] [],.build 43 [(.int .u8 0),(.int .u8 0),(.int .u8 0),(.int .u8 0),(.int .u8 0),(.int .u8 0),(.int .u8 0),(.int .u8 0)] [],.dW 44 8 [(.t 36),(.t 37),(.t 38),(.t 39),(.t 40),(.t 41),(.t 42),(.t 43)],.dW 45 1 [(.t 44)],.ah 46 (.t 6),.dW 47 1 [(.t 46)],.call 48 43 [(.t 45),(.t 47)],.ah 35 (.t 48),.ext 49 (.t 35) 0,.ext 50 (.t 35) 1,.ak 8 (.t 49),.ak 9 (.t 50)]) (.seq (.ops [.build 52 [(.int .u8 0),(.int .u8 0),(.int .u8 0),(.int .u8 0),(.int .u8 0),(.int .u8 0),(.int .u8 0),(.int .u8 0)] [],.build 53 [(.int .u8 0),(.int .u8 0),(.int .u8 0),(.int .u8 0),(.int .u8 0),(.int .u8 0),(.int .u8 0),(.int .u8 0)] [],.build 54 [(.int .u8 0),(.int .u8 0),(.int .u8 0),(.int .u8 0),(.int .u8 0),(.int .u8 0),(.int .u8 0),(.int .u8 0)] [],.dW 55 8 [(.t 52),(.t 53),(.t 54)],.call 56 26 [(.t 55),(.c (.int .i64 2))],.ah 51 (.t 56),.ext 57 (.t 51) 0,.ext 58 (.t 51) 1,.alloc 10 [(.int .i64 0),(.int .i64 0),(.list 0 [])],.store none 3 (.t 10) (.t 57),.ak 11 (.t 58)]) (.seq (.ops [.build 60 [(.int .u8 0),(.int .u8 0),(.int .u8 0),(.int .u8 0),(.int .u8 0),(.int .u8 0),(.int .u8 0),(.int .u8 0)] [],.build 61 [(.int .u8 0),(.int .u8 0),(.int .u8 0),(.int .u8 0),(.int .u8 0),(.int .u8 0),(.int .u8 0),(.int .u8 0)] [],.build 62 [(.int .u8 0),(.int .u8 0),(.int .u8 0),(.int .u8 0),(.int .u8 0),(.int .u8 0),(.int .u8 0),(.int .u8 0)] [(0,1,(.c (.int .u8 1)))],.dW 63 8 [(.t 60),(.t 61),(.t 62)],.call 64 26 [(.t 63),(.c (.int .i64 2))],.ah 59 (.t 64),.ext 65 (.t 59) 0,.ext 66 (.t 59) 1,.alloc 12 [(.int .i64 0),(.int .i64 0),(.list 0 [])],.store none 3 (.t 12) (.t 65),.ak 13 (.t 66)]) (.seq (.ops [.load 68 (some 3) (.t 10),.load 69 (some 3) (.t 12),.call 70 27 [(.t 68),(.t 69)],.ah 67 (.t 70),.ext 71 (.t 67) 0,.ext 72 (.t 67) 1,.ext 73 (.t 67) 2,.ak 14 (.t 71),.ak 15 (.t 72),.ak 16 (.t 73)]) (.seq (.seq (.ops [.ah 74 (.t 2),.bin 75 .neq (.t 74) (.c (.int .i64 0)),.ah 76 (.t 75),.grd 76 false (.ah 77 (.t 4)),.grd 76 false (.bin 78 .neq (.t 77) (.c (.int .i64 0))),.pick 79 (.t 76) (.c (.bool true)) (.t 78),.ah 80 (.t 79),.grd 80 false (.ah 81 (.t 7)),.grd 80 false (.bin 82 .neq (.t 81) (.c (.int .i64 0))),.pick 83 (.t 80) (.c (.bool true)) (.t 82),.ah 84 (.t 83),.grd 84 false (.ah 85 (.t 9)),.grd 84 false (.bin 86 .neq (.t 85) (.c (.int .i64 0))),.pick 87 (.t 84) (.c (.bool true)) (.t 86),.ah 88 (.t 87),.grd 88 false (.ah 89 (.t 11)),.grd 88 false (.bin 90 .neq (.t 89) (.c (.int .i64 0))),.pick 91 (.t 88) (.c (.bool true)) (.t 90),.ah 92 (.t 91),.grd 92 false (.ah 93 (.t 13)),.grd 92 false (.bin 94 .neq (.t 93) (.c (.int .i64 0))),.pick 95 (.t 92) (.c (.bool true)) (.t 94),.ah 96 (.t 95),.grd 96 false (.ah 97 (.t 16)),.grd 96 false (.bin 98 .neq (.t 97) (.c (.int .i64 0))),.pick 99 (.t 96) (.c (.bool true)) (.t 98),.ah 100 (.t 99),.grd 100 false (.ah 101 (.t 3)),.grd 100 false (.un 102 .not (.t 101)),.pick 103 (.t 100) (.c (.bool true)) (.t 102),.ah 104 (.t 103),.grd 104 false (.ah 105 (.t 8)),.grd 104 false (.len 106 (.t 105)),.grd 104 false (.bin 107 .neq (.t 106) (.c (.int .i64 1))),.pick 108 (.t 104) (.c (.bool true)) (.t 107)]) (.cond (.t 108) (.seq (.ops [.ak 0 (.c (.bool false))]) .ret) .skip)) (.seq (.ops [.ah 109 (.t 8),.bG 110 3 (.t 109) (.c (.int .i64 0)),.ay 111 (.t 110) 1,.load 112 none (.t 111),.bin 113 .eql (.t 112) (.c (.int .i64 4)),.ah 114 (.t 113),.grd 114 true (.ah 115 (.t 8)),.grd 114 true (.bG 116 3 (.t 115) (.c (.int .i64 0))),.grd 114 true (.ay 117 (.t 116) 2),.grd 114 true (.load 118 none (.t 117)),.grd 114 true (.len 119 (.t 118)),.grd 114 true (.bin 120 .eql (.t 119) (.c (.int .i64 4))),.pick 121 (.t 114) (.t 120) (.c (.bool false)),.ah 122 (.t 121),.grd 122 true (.ah 123 (.t 14)),.grd 122 true (.build 124 [(.int .i64 0),(.int .i64 0)] [(0,1,(.c (.int .i64 2))),(1,1,(.c (.int .i64 1)))]),.grd 122 true (.dW 125 2 [(.t 124)]),.grd 122 true (.call 126 32 [(.t 123),(.t 125)]),.pick 127 (.t 122) (.t 126) (.c (.bool false)),.ah 128 (.t 127),.grd 128 true (.ah 129 (.t 15)),.grd 128 true (.bin 130 .eql (.t 129) (.c (.int .i64 3))),.pick 131 (.t 128) (.t 130) (.c (.bool false)),.ak 0 (.t 131)]) .ret))))))))))⟩
def zG:aj:=(.seq (.seq (.ops [.ah 19 (.t 8),.ah 20 (.t 1),.ah 21 (.t 7),.bG 22 3 (.t 20) (.t 21),.ay 23 (.t 22) 2,.load 24 none (.t 23),.len 25 (.t 24),.bin 26 .lss (.t 19) (.t 25),.ah 27 (.t 26),.grd 27 true (.ah 28 (.t 6)),.grd 27 true (.len 29 (.t 28)),.grd 27 true (.bin 30 .gtr (.t 29) (.c (.int .i64 0))),.pick 31 (.t 27) (.t 30) (.c (.bool false))]) (.cond (.t 31) .skip (.exit 2))) (.seq (.block 3 (.seq (.ops [.ah 34 (.t 1),.ah 35 (.t 7),.bG 36 3 (.t 34) (.t 35),.ay 37 (.t 36) 1,.load 38 none (.t 37),.ah 39 (.t 8),.bin 40 .add (.t 38) (.t 39),.ak 9 (.t 40)]) (.seq (.ops [.ah 41 (.t 9),.bin 42 .geq (.t 41) (.c (.int .i64 0)),.ah 43 (.t 42),.grd 43 true (.ah 44 (.t 9)),.grd 43 true (.ah 45 (.t 6)),.grd 43 true (.len 46 (.t 45)),.grd 43 true (.bin 47 .lss (.t 44) (.t 46)),.pick 48 (.t 43) (.t 47) (.c (.bool false))]) (.cond (.t 48) (.ops [.ah 49 (.t 6),.ah 50 (.t 9),.ah 51 (.t 1),.ah 52 (.t 7),.bG 53 3 (.t 51) (.t 52),.ay 54 (.t 53) 2,.load 55 none (.t 54),.ah 56 (.t 8),.bG 57 8 (.t 55) (.t 56),.load 58 (some 8) (.t 57),.bG 59 8 (.t 49) (.t 50),.store none 8 (.t 59) (.t 58)]) .skip)))) (.ops [.ah 32 (.t 8),.bin 33 .add (.t 32) (.c (.int .i64 1)),.ak 8 (.t 33)])))
def LC:aj :=
(.clean [0,1,6,7,8,12] [0,1,4,5,6,7,12] (.block 2 (.loop [0,1,6,7,8,12] zG)))
def LD:aj:=(.seq (.seq (.ops [.ah 13 (.t 7),.ah 14 (.t 1),.len 15 (.t 14),.bin 16 .lss (.t 13) (.t 15)]) (.cond (.t 16) .skip (.exit 0))) (.seq (.block 1 (.seq (.ops [.ak 8 (.c (.int .i64 0))])
   LC)) (.ops [.ah 17 (.t 7),.bin 18 .add (.t 17) (.c (.int .i64 1)),.ak 7 (.t 18)])))
def LG:aj :=
(.clean [0,1,6,7,12] [0,4,5,6] (.block 0 (.loop [0,1,6,7,12] LD)))
def abR:dP:=⟨2,62,[.tmp 4,.tmp 5],(.seq (.ops [.ak 4 (.nil 8),.ak 5 (.nil 8)]) (.seq (.ops [.dW 10 8 [],.ah 11 (.t 0),.app 12 8 (.t 10) (.t 11),.ak 6 (.t 12)]) (.seq (.seq (.ops [.ak 7 (.c (.int .i64 0))])
   LG) (.seq (.ops [.ah 60 (.t 0),.ah 61 (.t 6),.ak 4 (.t 60),.ak 5 (.t 61)]) .ret))))⟩
def VP:aj:=(.ops [.ak 8 (.t 20)])
def VQ:aj:=(.block 1 (.oK [] [([0,1],2),([],3)] (some ([],[],4,[([],5)])) [] [.load 21 none (.t 7),.ah 22 (.t 8),.call 23 93 [(.t 22)],.dW 24 1 [(.t 23)],.app 25 1 (.t 21) (.t 24),.store none 1 (.t 7) (.t 25)]))
def abS:dP:=⟨2,31,[.cell 4 (some 3),.tmp 5],(.seq (.ops [.alloc 4 [(.int .i64 0),(.int .i64 0),(.list 0 [])],.ak 5 (.c (.int .i64 0))]) (.seq (.seq (.ops [.ah 9 (.t 0),.len 10 (.t 9),.ah 11 (.t 1),.call 12 91 [(.t 10),(.t 11)],.ak 6 (.t 12)]) (.seq (.ops [.ah 13 (.t 6),.bin 14 .neq (.t 13) (.c (.int .i64 0))]) (.cond (.t 14) (.seq (.ops [.build 15 [(.int .i64 0),(.int .i64 0),(.list 0 [])] [],.ah 16 (.t 6),.store none 3 (.t 4) (.t 15),.ak 5 (.t 16)]) .ret) .skip))) (.seq (.ops [.alloc 7 [(.list 1 [])]]) (.seq (.seq (.ops [.ah 17 (.t 0),.ah 18 (.t 1),.call 19 92 [(.t 17),(.t 18)]]) (.block 0 (.rng (.t 19) [20] VP VQ))) (.seq (.ops [.ah 26 (.t 0),.len 27 (.t 26),.ah 28 (.t 1),.load 29 none (.t 7),.call 30 94 [(.t 27),(.t 28),(.t 29)],.store none 3 (.t 4) (.t 30),.ak 5 (.c (.int .i64 0))]) .ret)))))⟩
def LH:aj:=(.seq (.seq (.ops [.ah 37 (.t 9),.bin 38 .eql (.t 37) (.c (.int .i64 0)),.ah 39 (.t 38),.grd 39 true (.ah 40 (.t 8)),.grd 39 true (.len 41 (.t 40)),.grd 39 true (.bin 42 .gtr (.t 41) (.c (.int .i64 0))),.pick 43 (.t 39) (.t 42) (.c (.bool false))]) (.cond (.t 43) .skip (.exit 0))) (.block 1 (.seq (.ops [.alloc 10 [(.int .i64 0),(.int .i64 0),(.int .i64 0),(.int .i64 0),(.int .i64 0),(.int .i64 0),(.list 0 []),(.list 0 [])]]) (.seq (.oK [] [([0,1,2,3],4)] (some ([5,6],[7],8,[])) [9] [.load 45 (some 3) (.t 3),.ah 46 (.t 8),.bG 47 8 (.t 46) (.c (.int .i64 0)),.load 48 (some 8) (.t 47),.call 49 31 [(.t 45),(.t 48)],.ah 44 (.t 49),.ext 50 (.t 44) 0,.ext 51 (.t 44) 1,.store none 8 (.t 10) (.t 50),.ak 9 (.t 51)]) (.seq (.ops [.ah 52 (.t 9),.bin 53 .eql (.t 52) (.c (.int .i64 0))]) (.cond (.t 53) (.ops [.load 55 (some 8) (.t 7),.load 56 (some 8) (.t 10),.call 57 30 [(.t 55),(.t 56)],.ah 54 (.t 57),.ext 58 (.t 54) 0,.ext 59 (.t 54) 1,.ext 60 (.t 54) 2,.store none 8 (.t 7) (.t 58),.ak 8 (.t 59),.ak 9 (.t 60)]) .skip))))))
def LJ:aj :=
(.clean [3,7,8,9,15,59] [4,5,6,7,9] (.block 0 (.loop [3,7,8,9,15,59] LH)))
def abT:dP:=⟨2,68,[.tmp 4,.tmp 5,.tmp 6],(.seq (.ops [.box 2 (.t 0),.box 3 (.t 1),.ak 4 (.nil 2),.ak 5 (.c (.int .i64 0)),.ak 6 (.c (.int .i64 0))]) (.seq (.ops [.load 12 (some 3) (.t 2),.call 13 28 [(.t 12)],.ah 11 (.t 13),.ext 14 (.t 11) 0,.ext 15 (.t 11) 1,.ext 16 (.t 11) 2,.alloc 7 [(.int .i64 0),(.int .i64 0),(.list 0 []),(.list 0 []),(.int .i64 0),(.list 0 []),(.int .i64 0),(.bool false)],.store none 8 (.t 7) (.t 14),.ak 8 (.t 15),.ak 9 (.t 16)]) (.seq (.seq (.ops [.ah 17 (.t 9),.bin 18 .eql (.t 17) (.c (.int .i64 0))]) (.cond (.t 18) (.ops [.load 19 (some 3) (.t 3),.call 20 95 [(.t 19)],.ak 9 (.t 20)]) .skip)) (.seq (.seq (.ops [.ah 21 (.t 9),.bin 22 .eql (.t 21) (.c (.int .i64 0)),.ah 23 (.t 22),.grd 23 true (.ay 24 (.t 2) 0),.grd 23 true (.load 25 none (.t 24)),.grd 23 true (.ay 26 (.t 3) 0),.grd 23 true (.load 27 none (.t 26)),.grd 23 true (.bin 28 .neq (.t 25) (.t 27)),.grd 23 true (.ah 29 (.t 28)),.grd 29 false (.ay 30 (.t 2) 1),.grd 29 false (.load 31 none (.t 30)),.grd 29 false (.ay 32 (.t 3) 1),.grd 29 false (.load 33 none (.t 32)),.grd 29 false (.bin 34 .neq (.t 31) (.t 33)),.grd 23 true (.pick 35 (.t 29) (.c (.bool true)) (.t 34)),.pick 36 (.t 23) (.t 35) (.c (.bool false))]) (.cond (.t 36) (.ops [.ak 9 (.c (.int .i64 22))]) .skip)) (.seq
   LJ (.seq (.seq (.ops [.ah 61 (.t 9),.bin 62 .neq (.t 61) (.c (.int .i64 0))]) (.cond (.t 62) (.seq (.ops [.ah 63 (.t 9),.ak 4 (.nil 2),.ak 5 (.c (.int .i64 0)),.ak 6 (.t 63)]) .ret) .skip)) (.seq (.oK [] [] none [0,1,2,3,4,5,6] [.ay 64 (.t 7) 5,.load 65 none (.t 64),.ay 66 (.t 7) 6,.load 67 none (.t 66),.ak 4 (.t 65),.ak 5 (.t 67),.ak 6 (.c (.int .i64 0))]) .ret)))))))⟩
def abU:dP:=⟨1,31,[.cell 2 (some 8),.tmp 3,.tmp 4],(.seq (.ops [.box 1 (.t 0),.alloc 2 [(.int .i64 0),(.int .i64 0),(.list 0 []),(.list 0 []),(.int .i64 0),(.list 0 []),(.int .i64 0),(.bool false)],.ak 3 (.nil 8),.ak 4 (.c (.int .i64 0))]) (.seq (.seq (.ops [.load 7 (some 3) (.t 1),.call 8 95 [(.t 7)],.ak 5 (.t 8)]) (.seq (.ops [.ah 9 (.t 5),.bin 10 .neq (.t 9) (.c (.int .i64 0))]) (.cond (.t 10) (.seq (.ops [.build 11 [(.int .i64 0),(.int .i64 0),(.list 0 []),(.list 0 []),(.int .i64 0),(.list 0 []),(.int .i64 0),(.bool false)] [],.ah 12 (.t 5),.store none 8 (.t 2) (.t 11),.ak 3 (.nil 8),.ak 4 (.t 12)]) .ret) .skip))) (.seq (.drs [] [2,6,23] [.load 13 (some 3) (.t 1),.call 14 96 [(.t 13)],.ay 15 (.t 1) 2,.load 16 none (.t 15),.len 17 (.t 16),.bin 18 .sub (.t 17) (.c (.int .i64 1)),.build 19 [(.int .i64 0),(.int .i64 0)] [(0,1,(.c (.int .i64 0))),(1,1,(.c (.int .i64 1)))],.dW 20 2 [(.t 19)],.build 21 [(.int .i64 0),(.int .i64 0),(.list 0 []),(.list 0 []),(.int .i64 0),(.list 2 []),(.int .i64 0),(.bool false)] [(0,3,(.t 14)),(4,1,(.t 18)),(3,1,(.t 20))],.build 22 [(.int .i64 0),(.int .i64 0),(.list 0 []),(.list 0 []),(.int .i64 0),(.list 0 []),(.int .i64 0),(.bool false)] [(0,8,(.t 21))],.box 23 (.t 22),.ak 6 (.t 23)]
   [⟨[([0,2,3,4,5,6],1),([],7),([8,9],10)],none,[11],[0,2,3,4,5,6,1,7,8,9,10,11],false⟩,⟨[([0,2,3,4,5,6],7),([],1),([8,9],10)],none,[11],[0,2,3,4,5,6,7,1,8,9,10,11],false⟩]) (.seq (.drs [] [2,3,4,30] [.ah 24 (.t 6),.ay 25 (.t 24) 0,.ay 26 (.t 25) 0,.load 27 (some 8) (.t 26),.ah 28 (.t 6),.call 29 97 [(.t 28)],.dW 30 8 [(.t 29)],.store none 8 (.t 2) (.t 27),.ak 3 (.t 30),.ak 4 (.c (.int .i64 0))]
   [⟨[([0,4],1),([2,3],5)],(some ([],[],7,[([],6)])),[8,9],[0,4,1,2,3,5,7,6,8,9],false⟩,⟨[([0,4],5),([],1)],(some ([2,3],[],7,[([],6)])),[8,9],[0,4,5,1,2,3,7,6,8,9],false⟩,⟨[([0,4],1),([2,3],5),([],6)],(some ([],[],7,[])),[8,9],[0,4,1,2,3,5,6,7,8,9],false⟩,⟨[([0,4],5),([],1),([2,3],6)],(some ([],[],7,[])),[8,9],[0,4,5,1,2,3,6,7,8,9],false⟩,⟨[([0,4],5),([],6),([],1)],(some ([2,3],[],7,[])),[8,9],[0,4,5,6,1,2,3,7,8,9],false⟩]) .ret))))⟩
def UO:dP:=⟨2,100,[.cell 4 (some 8),.tmp 5,.tmp 6],(.seq (.ops [.box 2 (.t 0),.box 3 (.t 1),.alloc 4 [(.int .i64 0),(.int .i64 0),(.list 0 []),(.list 0 []),(.int .i64 0),(.list 0 []),(.int .i64 0),(.bool false)],.ak 5 (.nil 8),.ak 6 (.c (.int .i64 0))]) (.seq (.seq (.ops [.load 11 (some 8) (.t 2),.call 12 98 [(.t 11)],.ak 7 (.t 12)]) (.seq (.ops [.ah 13 (.t 7),.bin 14 .neq (.t 13) (.c (.int .i64 0))]) (.cond (.t 14) (.seq (.ops [.build 15 [(.int .i64 0),(.int .i64 0),(.list 0 []),(.list 0 []),(.int .i64 0),(.list 0 []),(.int .i64 0),(.bool false)] [],.ah 16 (.t 7),.store none 8 (.t 4) (.t 15),.ak 5 (.nil 8),.ak 6 (.t 16)]) .ret) .skip))) (.seq (.ops [.ay 17 (.t 2) 0,.load 18 (some 3) (.t 17),.call 19 96 [(.t 18)],.ay 20 (.t 2) 0,.store none 3 (.t 20) (.t 19)]) (.seq (.ops [.load 21 (some 8) (.t 2),.build 22 [(.int .i64 0),(.int .i64 0),(.list 0 []),(.list 0 []),(.int .i64 0),(.list 0 []),(.int .i64 0),(.bool false)] [(0,8,(.t 21))],.box 23 (.t 22),.ak 8 (.t 23)]) (.seq (.ops [.ah 24 (.t 8),.lin 25 97 (.t 24) [],.alloc 9 [(.int .i64 0),(.int .i64 0),(.int .i64 0),(.int .i64 0),(.int .i64 0),(.int .i64 0),(.list 0 []),(.list 0 [])],.store none 8 (.t 9) (.t 25)]) (.seq (.block 0 (.seq (.ops [.ah 27 (.t 8),.ay 28 (.t 27) 0,.ay 29 (.t 28) 0,.ay 30 (.t 29) 7,.load 31 none (.t 30),.ak 26 (.t 31)]) (.cond (.t 26) (.seq (.ops [.build 32 [(.int .i64 0),(.int .i64 0),(.list 0 []),(.list 0 []),(.int .i64 0),(.list 0 []),(.int .i64 0),(.bool false)] [],.store none 8 (.t 4) (.t 32),.ak 5 (.nil 8),.ak 6 (.c (.int .i64 12))]) .ret) (.seq (.ops [.ay 34 (.t 3) 0,.load 35 none (.t 34),.bin 36 .neq (.t 35) (.c (.int .i64 14)),.ak 33 (.t 36)]) (.cond (.t 33) (.seq (.ops [.build 37 [(.int .i64 0),(.int .i64 0),(.list 0 []),(.list 0 []),(.int .i64 0),(.list 0 []),(.int .i64 0),(.bool false)] [],.store none 8 (.t 4) (.t 37),.ak 5 (.nil 8),.ak 6 (.c (.int .i64 1))]) .ret) (.seq (.ops [.ay 39 (.t 3) 3,.load 40 none (.t 39),.ay 41 (.t 9) 3,.load 42 none (.t 41),.bin 43 .neq (.t 40) (.t 42),.ah 44 (.t 43),.grd 44 false (.ay 45 (.t 3) 6),.grd 44 false (.load 46 none (.t 45)),.grd 44 false (.ay 47 (.t 9) 6),.grd 44 false (.load 48 none (.t 47)),.grd 44 false (.call 49 99 [(.t 46),(.t 48)]),.grd 44 false (.un 50 .not (.t 49)),.pick 51 (.t 44) (.c (.bool true)) (.t 50),.ak 38 (.t 51)]) (.cond (.t 38) (.seq (.ops [.build 52 [(.int .i64 0),(.int .i64 0),(.list 0 []),(.list 0 []),(.int .i64 0),(.list 0 []),(.int .i64 0),(.bool false)] [],.store none 8 (.t 4) (.t 52),.ak 5 (.nil 8),.ak 6 (.c (.int .i64 22))]) .ret) (.seq (.oK [] [([0,1,2,3],4),([5,6,7],8)] none [9,10,11] [.ay 54 (.t 3) 7,.load 55 none (.t 54),.len 56 (.t 55),.ah 57 (.t 8),.ay 58 (.t 57) 0,.ay 59 (.t 58) 0,.ay 60 (.t 59) 3,.load 61 none (.t 60),.call 62 100 [(.t 61)],.bin 63 .mul (.c (.int .i64 8)) (.t 62),.bin 64 .neq (.t 56) (.t 63),.ak 53 (.t 64)]) (.cond (.t 53) (.seq (.ops [.build 65 [(.int .i64 0),(.int .i64 0),(.list 0 []),(.list 0 []),(.int .i64 0),(.list 0 []),(.int .i64 0),(.bool false)] [],.store none 8 (.t 4) (.t 65),.ak 5 (.nil 8),.ak 6 (.c (.int .i64 3))]) .ret) .skip))))))))) (.seq (.ops [.ah 66 (.t 8),.ay 67 (.t 3) 7,.load 68 none (.t 67),.lin 69 101 (.t 66) [(.t 68)],.ak 10 (.t 69)]) (.seq (.block 1 (.seq (.ops [.ah 81 (.t 8),.ay 82 (.t 81) 0,.ay 83 (.t 82) 0,.ay 84 (.t 83) 4,.load 85 none (.t 84),.bin 86 .eql (.t 85) (.c (.int .i64 0)),.ak 80 (.t 86)]) (.cond (.t 80) (.ops [.ah 87 (.t 8),.ZL 88 (.t 10),.lin 89 102 (.t 87) [(.t 88)]]) (.seq (.ops [.ah 91 (.t 10),.len 92 (.t 91),.bin 93 .eql (.t 92) (.c (.int .i64 0)),.ak 90 (.t 93)]) (.cond (.t 90) (.ops [.ah 94 (.t 8),.lin 95 103 (.t 94) []]) (.seq (.ops [.ah 70 (.t 8),.ZL 71 (.t 10),.lin 72 104 (.t 70) [(.t 71)]]) (.seq (.drs [] [4,5,6,79] [.ah 73 (.t 8),.ay 74 (.t 73) 0,.ay 75 (.t 74) 0,.load 76 (some 8) (.t 75),.ah 77 (.t 8),.call 78 97 [(.t 77)],.dW 79 8 [(.t 78)],.store none 8 (.t 4) (.t 76),.ak 5 (.t 79),.ak 6 (.c (.int .i64 0))]
         [⟨[([0,4],1),([2,3],5)],(some ([],[],7,[([],6)])),[8,9],[0,4,1,2,3,5,7,6,8,9],false⟩,⟨[([0,4],5),([],1)],(some ([2,3],[],7,[([],6)])),[8,9],[0,4,5,1,2,3,7,6,8,9],false⟩,⟨[([0,4],1),([2,3],5),([],6)],(some ([],[],7,[])),[8,9],[0,4,1,2,3,5,6,7,8,9],false⟩,⟨[([0,4],5),([],1),([2,3],6)],(some ([],[],7,[])),[8,9],[0,4,5,1,2,3,6,7,8,9],false⟩,⟨[([0,4],5),([],6),([],1)],(some ([2,3],[],7,[])),[8,9],[0,4,5,6,1,2,3,7,8,9],false⟩]) .ret))))))) (.seq (.ops [.ah 96 (.t 8),.ay 97 (.t 96) 0,.ay 98 (.t 97) 0,.load 99 (some 8) (.t 98),.store none 8 (.t 4) (.t 99),.ak 5 (.nil 8),.ak 6 (.c (.int .i64 0))]) .ret)))))))))⟩
def VR:aj:=(.ops [.ak 8 (.t 72)])
def VT:aj:=(.block 2 (.oK [] [([0,1,2,3,4,5,6,7],8)] (some ([],[],9,[([],10)])) [] [.load 73 none (.t 7),.ah 74 (.t 8),.bG 75 1 (.t 74) (.c (.int .i64 0)),.load 76 none (.t 75),.ah 77 (.t 8),.bG 78 1 (.t 77) (.c (.int .i64 1)),.load 79 none (.t 78),.build 80 [(.int .i64 0),(.int .i64 0)] [(0,1,(.t 76)),(1,1,(.t 79))],.dW 81 2 [(.t 80)],.app 82 2 (.t 73) (.t 81),.store none 1 (.t 7) (.t 82)]))
def VU:aj:=(.ops [.ak 11 (.t 107)])
def VW:aj:=(.block 4 (.oK [] [([0,1,2,3,4,5],6)] (some ([],[],7,[([8],9)])) [] [.ay 108 (.t 10) 7,.load 109 none (.t 108),.load 110 none (.t 9),.ah 111 (.t 11),.bG 112 1 (.t 110) (.t 111),.load 113 none (.t 112),.call 114 109 [(.t 113)],.app 115 1 (.t 109) (.t 114),.ay 116 (.t 10) 7,.store none 1 (.t 116) (.t 115)]))
def abV:dP:=⟨2,118,[.cell 4 (some 8),.tmp 5],(.seq (.ops [.box 2 (.t 0),.box 3 (.t 1),.alloc 4 [(.int .i64 0),(.int .i64 0),(.int .i64 0),(.int .i64 0),(.int .i64 0),(.int .i64 0),(.list 0 []),(.list 0 [])],.ak 5 (.c (.int .i64 0))]) (.seq (.ops [.load 12 (some 3) (.t 2),.call 13 95 [(.t 12)],.ak 6 (.t 13)]) (.seq (.block 0 (.seq (.ops [.ah 15 (.t 6),.bin 16 .neq (.t 15) (.c (.int .i64 0)),.ak 14 (.t 16)]) (.cond (.t 14) (.seq (.ops [.build 17 [(.int .i64 0),(.int .i64 0),(.int .i64 0),(.int .i64 0),(.int .i64 0),(.int .i64 0),(.list 0 []),(.list 0 [])] [],.ah 18 (.t 6),.store none 8 (.t 4) (.t 17),.ak 5 (.t 18)]) .ret) (.seq (.ops [.ay 20 (.t 3) 0,.load 21 none (.t 20),.bin 22 .neq (.t 21) (.c (.int .i64 13)),.ak 19 (.t 22)]) (.cond (.t 19) (.seq (.ops [.build 23 [(.int .i64 0),(.int .i64 0),(.int .i64 0),(.int .i64 0),(.int .i64 0),(.int .i64 0),(.list 0 []),(.list 0 [])] [],.store none 8 (.t 4) (.t 23),.ak 5 (.c (.int .i64 1))]) .ret) (.seq (.ops [.ay 25 (.t 3) 6,.load 26 none (.t 25),.len 27 (.t 26),.bin 28 .lss (.t 27) (.c (.int .i64 2)),.ah 29 (.t 28),.grd 29 false (.ay 30 (.t 3) 6),.grd 29 false (.load 31 none (.t 30)),.grd 29 false (.len 32 (.t 31)),.grd 29 false (.bin 33 .rem (.t 32) (.c (.int .i64 2))),.grd 29 false (.bin 34 .eql (.t 33) (.c (.int .i64 1))),.pick 35 (.t 29) (.c (.bool true)) (.t 34),.ak 24 (.t 35)]) (.cond (.t 24) (.seq (.ops [.build 36 [(.int .i64 0),(.int .i64 0),(.int .i64 0),(.int .i64 0),(.int .i64 0),(.int .i64 0),(.list 0 []),(.list 0 [])] [],.store none 8 (.t 4) (.t 36),.ak 5 (.c (.int .i64 3))]) .ret) (.seq (.oK [] [] none [0,1,2,3,4,5,6,7,8,9,10,11,12,13,14,15,16] [.ay 38 (.t 3) 6,.load 39 none (.t 38),.bG 40 1 (.t 39) (.c (.int .i64 0)),.load 41 none (.t 40),.ay 42 (.t 2) 0,.load 43 none (.t 42),.bin 44 .neq (.t 41) (.t 43),.ah 45 (.t 44),.grd 45 false (.ay 46 (.t 3) 6),.grd 45 false (.load 47 none (.t 46)),.grd 45 false (.bG 48 1 (.t 47) (.c (.int .i64 1))),.grd 45 false (.load 49 none (.t 48)),.grd 45 false (.ay 50 (.t 2) 1),.grd 45 false (.load 51 none (.t 50)),.grd 45 false (.bin 52 .neq (.t 49) (.t 51)),.pick 53 (.t 45) (.c (.bool true)) (.t 52),.ak 37 (.t 53)]) (.cond (.t 37) (.seq (.ops [.build 54 [(.int .i64 0),(.int .i64 0),(.int .i64 0),(.int .i64 0),(.int .i64 0),(.int .i64 0),(.list 0 []),(.list 0 [])] [],.store none 8 (.t 4) (.t 54),.ak 5 (.c (.int .i64 22))]) .ret) (.seq (.ops [.ay 56 (.t 3) 3,.load 57 none (.t 56),.bin 58 .lss (.t 57) (.c (.int .i64 0)),.ah 59 (.t 58),.grd 59 false (.ay 60 (.t 3) 3),.grd 59 false (.load 61 none (.t 60)),.grd 59 false (.ay 62 (.t 2) 2),.grd 59 false (.load 63 none (.t 62)),.grd 59 false (.len 64 (.t 63)),.grd 59 false (.bin 65 .geq (.t 61) (.t 64)),.pick 66 (.t 59) (.c (.bool true)) (.t 65),.ak 55 (.t 66)]) (.cond (.t 55) (.seq (.ops [.build 67 [(.int .i64 0),(.int .i64 0),(.int .i64 0),(.int .i64 0),(.int .i64 0),(.int .i64 0),(.list 0 []),(.list 0 [])] [],.store none 8 (.t 4) (.t 67),.ak 5 (.c (.int .i64 2))]) .ret) .skip))))))))))) (.seq (.ops [.alloc 7 [(.list 2 [])]]) (.seq (.seq (.ops [.ay 68 (.t 3) 6,.load 69 none (.t 68),.I4 70 1 (.t 69) (some (.c (.int .i64 2))) none,.call 71 105 [(.t 70),(.c (.int .i64 2))]]) (.block 1 (.rng (.t 71) [72] VR VT))) (.seq (.ops [.ay 83 (.t 2) 2,.load 84 none (.t 83),.ay 85 (.t 3) 3,.load 86 none (.t 85),.bG 87 1 (.t 84) (.t 86),.load 88 none (.t 87),.alloc 9 [(.list 1 [])],.store none 1 (.t 9) (.t 88)]) (.seq (.seq (.ops [.load 89 none (.t 7),.load 90 none (.t 9),.len 91 (.t 90),.call 92 106 [(.t 89),(.t 91)],.bin 93 .neq (.t 92) (.c (.int .i64 0))]) (.cond (.t 93) (.seq (.ops [.build 94 [(.int .i64 0),(.int .i64 0),(.int .i64 0),(.int .i64 0),(.int .i64 0),(.int .i64 0),(.list 0 []),(.list 0 [])] [],.store none 8 (.t 4) (.t 94),.ak 5 (.c (.int .i64 3))]) .ret) .skip)) (.seq (.drs [] [4,7,9,10,107] [.ay 95 (.t 3) 2,.load 96 none (.t 95),.ay 97 (.t 3) 1,.load 98 none (.t 97),.ay 99 (.t 3) 3,.load 100 none (.t 99),.ay 101 (.t 3) 6,.load 102 none (.t 101),.call 103 107 [(.t 102)],.build 104 [(.int .i64 0),(.int .i64 0),(.int .i64 0),(.int .i64 0),(.int .i64 0),(.int .i64 0),(.list 0 []),(.kZ 1)] [(0,1,(.c (.int .i64 14))),(1,1,(.t 96)),(2,1,(.t 98)),(3,1,(.t 100)),(6,1,(.t 103))],.alloc 10 [(.int .i64 0),(.int .i64 0),(.int .i64 0),(.int .i64 0),(.int .i64 0),(.int .i64 0),(.list 0 []),(.list 0 [])],.Xi 8 (.t 10) (.t 104)]
     [⟨[([0,1,2,3,4,5,6,7],8),([9],10)],(some ([],[],11,[])),[],[0,1,2,3,4,5,6,7,8,9,10,11],false⟩,⟨[([0,1,2,3,4,5,6,7],10),([],8)],(some ([9],[],11,[])),[],[0,1,2,3,4,5,6,7,10,8,9,11],false⟩]) (.seq (.seq (.ops [.load 105 none (.t 7),.call 106 108 [(.t 105)]]) (.block 3 (.rng (.t 106) [107] VU VW))) (.seq (.ops [.load 117 (some 8) (.t 10),.store none 8 (.t 4) (.t 117),.ak 5 (.c (.int .i64 0))]) .ret))))))))))⟩
def LK:aj:=(.seq (.seq (.ops [.ah 11 (.t 5),.ah 12 (.t 0),.len 13 (.t 12),.bin 14 .lss (.t 11) (.t 13)]) (.cond (.t 14) .skip (.exit 0))) (.seq (.block 1 (.seq (.oK [] [] none [0,1,2,3,4,5,6,7,8] [.ah 17 (.t 0),.ah 18 (.t 5),.bG 19 2 (.t 17) (.t 18),.load 20 (some 2) (.t 19),.ah 21 (.t 1),.ah 22 (.t 5),.bG 23 2 (.t 21) (.t 22),.load 24 (some 2) (.t 23),.Vs 25 true 2 (.t 20) (.t 24)]) (.cond (.t 25) (.seq (.ops [.ak 4 (.c (.bool false))]) .ret) .skip))) (.ops [.ah 15 (.t 5),.bin 16 .add (.t 15) (.c (.int .i64 1)),.ak 5 (.t 16)])))
def LM:aj :=
(.clean [0,1,5] [4] (.block 0 (.loop [0,1,5] LK)))
def abW:dP:=⟨2,26,[.tmp 4],(.seq (.ops [.ak 4 (.c (.bool false))]) (.seq (.seq (.ops [.ah 6 (.t 0),.len 7 (.t 6),.ah 8 (.t 1),.len 9 (.t 8),.bin 10 .neq (.t 7) (.t 9)]) (.cond (.t 10) (.seq (.ops [.ak 4 (.c (.bool false))]) .ret) .skip)) (.seq (.seq (.ops [.ak 5 (.c (.int .i64 0))])
   LM) (.seq (.ops [.ak 4 (.c (.bool true))]) .ret))))⟩
def zH:aj:=(.seq (.seq (.ops [.ah 36 (.t 14),.ay 37 (.t 9) 2,.load 38 none (.t 37),.bG 39 1 (.t 38) (.c (.int .i64 0)),.load 40 none (.t 39),.len 41 (.t 40),.bin 42 .lss (.t 36) (.t 41)]) (.cond (.t 42) .skip (.exit 0))) (.seq (.block 1 (.seq (.ops [.ah 45 (.t 0),.ah 46 (.t 2),.ah 47 (.t 14),.call 48 129 [(.t 45),(.t 46),(.t 47)],.ah 49 (.t 1),.ah 50 (.t 2),.ah 51 (.t 14),.call 52 129 [(.t 49),(.t 50),(.t 51)],.call 53 85 [(.t 48),(.t 52)],.un 54 .not (.t 53)]) (.cond (.t 54) (.seq (.ops [.ah 55 (.t 13),.ah 56 (.t 14),.dW 57 1 [(.t 56)],.app 58 1 (.t 55) (.t 57),.ak 13 (.t 58)]) (.seq (.oK [] [] none [0,1,2,3,4,5,6,7,8,9,10,11,12,13,14] [.ay 59 (.t 9) 2,.load 60 none (.t 59),.bG 61 1 (.t 60) (.c (.int .i64 0)),.load 62 none (.t 61),.ah 63 (.t 14),.bG 64 1 (.t 62) (.t 63),.load 65 none (.t 64),.ay 66 (.t 11) 2,.load 67 none (.t 66),.bG 68 1 (.t 67) (.c (.int .i64 0)),.load 69 none (.t 68),.ah 70 (.t 14),.bG 71 1 (.t 69) (.t 70),.load 72 none (.t 71),.bin 73 .eql (.t 65) (.t 72)]) (.cond (.t 73) (.seq (.ops [.ak 6 (.nil 2),.ak 7 (.c (.int .i64 0)),.ak 8 (.c (.bool false))]) .ret) .skip))) .skip))) (.ops [.ah 43 (.t 14),.bin 44 .add (.t 43) (.c (.int .i64 1)),.ak 14 (.t 44)])))
def LP:aj :=
(.clean [0,1,2,9,11,13,14,58] [0,2,6,7,8,9,11,13,58] (.block 0 (.loop [0,1,2,9,11,13,14,58] zH)))
def qZ:aj:=(.seq (.seq (.ops [.ah 81 (.t 16),.ay 82 (.t 9) 2,.load 83 none (.t 82),.ah 84 (.t 15),.bG 85 1 (.t 83) (.t 84),.load 86 none (.t 85),.len 87 (.t 86),.bin 88 .lss (.t 81) (.t 87)]) (.cond (.t 88) .skip (.exit 4))) (.seq (.block 5 (.seq (.oK [] [] none [0,1,2,3,4,5,6,7,8,9,10,11,12,13,14,15,16,17,18,19,20,21] [.ay 91 (.t 9) 2,.load 92 none (.t 91),.ah 93 (.t 15),.bin 94 .sub (.t 93) (.c (.int .i64 1)),.bG 95 1 (.t 92) (.t 94),.load 96 none (.t 95),.ah 97 (.t 16),.bin 98 .mul (.c (.int .i64 2)) (.t 97),.bG 99 1 (.t 96) (.t 98),.load 100 none (.t 99),.ay 101 (.t 11) 2,.load 102 none (.t 101),.ah 103 (.t 15),.bin 104 .sub (.t 103) (.c (.int .i64 1)),.bG 105 1 (.t 102) (.t 104),.load 106 none (.t 105),.ah 107 (.t 16),.bin 108 .mul (.c (.int .i64 2)) (.t 107),.bG 109 1 (.t 106) (.t 108),.load 110 none (.t 109),.bin 111 .neq (.t 100) (.t 110),.ak 17 (.t 111)]) (.seq (.seq (.ops [.ah 112 (.t 16),.bin 113 .mul (.c (.int .i64 2)) (.t 112),.bin 114 .add (.t 113) (.c (.int .i64 1)),.ay 115 (.t 9) 2,.load 116 none (.t 115),.ah 117 (.t 15),.bin 118 .sub (.t 117) (.c (.int .i64 1)),.bG 119 1 (.t 116) (.t 118),.load 120 none (.t 119),.len 121 (.t 120),.bin 122 .lss (.t 114) (.t 121)]) (.cond (.t 122) (.oK [] [] none [0,1,2,3,4,5,6,7,8,9,10,11,12,13,14,15,16,17,18,19,20,21,22,23,24,25,26] [.ah 123 (.t 17),.ah 124 (.t 123),.grd 124 false (.ay 125 (.t 9) 2),.grd 124 false (.load 126 none (.t 125)),.grd 124 false (.ah 127 (.t 15)),.grd 124 false (.bin 128 .sub (.t 127) (.c (.int .i64 1))),.grd 124 false (.bG 129 1 (.t 126) (.t 128)),.grd 124 false (.load 130 none (.t 129)),.grd 124 false (.ah 131 (.t 16)),.grd 124 false (.bin 132 .mul (.c (.int .i64 2)) (.t 131)),.grd 124 false (.bin 133 .add (.t 132) (.c (.int .i64 1))),.grd 124 false (.bG 134 1 (.t 130) (.t 133)),.grd 124 false (.load 135 none (.t 134)),.grd 124 false (.ay 136 (.t 11) 2),.grd 124 false (.load 137 none (.t 136)),.grd 124 false (.ah 138 (.t 15)),.grd 124 false (.bin 139 .sub (.t 138) (.c (.int .i64 1))),.grd 124 false (.bG 140 1 (.t 137) (.t 139)),.grd 124 false (.load 141 none (.t 140)),.grd 124 false (.ah 142 (.t 16)),.grd 124 false (.bin 143 .mul (.c (.int .i64 2)) (.t 142)),.grd 124 false (.bin 144 .add (.t 143) (.c (.int .i64 1))),.grd 124 false (.bG 145 1 (.t 141) (.t 144)),.grd 124 false (.load 146 none (.t 145)),.grd 124 false (.bin 147 .neq (.t 135) (.t 146)),.pick 148 (.t 124) (.c (.bool true)) (.t 147),.ak 17 (.t 148)]) .skip)) (.seq (.oK [] [] none [0,1,2,3,4,5,6,7,8,9,10,11,12,13,14,15,16,17,18,19] [.ah 149 (.t 17),.ah 150 (.t 149),.grd 150 true (.ay 151 (.t 9) 2),.grd 150 true (.load 152 none (.t 151)),.grd 150 true (.ah 153 (.t 15)),.grd 150 true (.bG 154 1 (.t 152) (.t 153)),.grd 150 true (.load 155 none (.t 154)),.grd 150 true (.ah 156 (.t 16)),.grd 150 true (.bG 157 1 (.t 155) (.t 156)),.grd 150 true (.load 158 none (.t 157)),.grd 150 true (.ay 159 (.t 11) 2),.grd 150 true (.load 160 none (.t 159)),.grd 150 true (.ah 161 (.t 15)),.grd 150 true (.bG 162 1 (.t 160) (.t 161)),.grd 150 true (.load 163 none (.t 162)),.grd 150 true (.ah 164 (.t 16)),.grd 150 true (.bG 165 1 (.t 163) (.t 164)),.grd 150 true (.load 166 none (.t 165)),.grd 150 true (.bin 167 .eql (.t 158) (.t 166)),.pick 168 (.t 150) (.t 167) (.c (.bool false))]) (.cond (.t 168) (.seq (.ops [.ak 6 (.nil 2),.ak 7 (.c (.int .i64 0)),.ak 8 (.c (.bool false))]) .ret) .skip))))) (.ops [.ah 89 (.t 16),.bin 90 .add (.t 89) (.c (.int .i64 1)),.ak 16 (.t 90)])))
def LQ:aj :=
(.clean [0,2,9,11,13,15,16,58] [0,2,6,7,8,9,11,13,15,58] (.block 4 (.loop [0,2,9,11,13,15,16,58] qZ)))
def LU:aj:=(.seq (.seq (.ops [.ah 74 (.t 15),.ay 75 (.t 9) 2,.load 76 none (.t 75),.len 77 (.t 76),.bin 78 .lss (.t 74) (.t 77)]) (.cond (.t 78) .skip (.exit 2))) (.seq (.block 3 (.seq (.ops [.ak 16 (.c (.int .i64 0))])
   LQ)) (.ops [.ah 79 (.t 15),.bin 80 .add (.t 79) (.c (.int .i64 1)),.ak 15 (.t 80)])))
def LV:aj :=
(.clean [0,2,9,11,13,15,58] [0,2,6,7,8,13] (.block 2 (.loop [0,2,9,11,13,15,58] LU)))
def abX:dP:=⟨3,176,[.tmp 6,.tmp 7,.tmp 8],(.seq (.ops [.ak 6 (.nil 2),.ak 7 (.c (.int .i64 0)),.ak 8 (.c (.bool false))]) (.seq (.ops [.ah 19 (.t 0),.ah 20 (.t 2),.call 21 128 [(.t 19),(.t 20)],.ah 18 (.t 21),.ext 22 (.t 18) 0,.ext 23 (.t 18) 1,.alloc 9 [(.int .i64 0),(.int .i64 0),(.list 0 [])],.store none 3 (.t 9) (.t 22),.ak 10 (.t 23)]) (.seq (.ops [.ah 25 (.t 1),.ah 26 (.t 2),.call 27 128 [(.t 25),(.t 26)],.ah 24 (.t 27),.ext 28 (.t 24) 0,.ext 29 (.t 24) 1,.alloc 11 [(.int .i64 0),(.int .i64 0),(.list 0 [])],.store none 3 (.t 11) (.t 28),.ak 12 (.t 29)]) (.seq (.seq (.ops [.ah 30 (.t 10),.bin 31 .neq (.t 30) (.c (.int .i64 0)),.ah 32 (.t 31),.grd 32 false (.ah 33 (.t 12)),.grd 32 false (.bin 34 .neq (.t 33) (.c (.int .i64 0))),.pick 35 (.t 32) (.c (.bool true)) (.t 34)]) (.cond (.t 35) (.seq (.ops [.ak 6 (.nil 2),.ak 7 (.c (.int .i64 0)),.ak 8 (.c (.bool false))]) .ret) .skip)) (.seq (.ops [.ak 13 (.nil 1)]) (.seq (.seq (.ops [.ak 14 (.c (.int .i64 0))])
    LP) (.seq (.seq (.ops [.ak 15 (.c (.int .i64 1))])
     LV) (.seq (.ops [.ah 169 (.t 0),.len 170 (.t 169),.ah 171 (.t 2),.ah 172 (.t 13),.call 173 130 [(.t 170),(.t 171),(.t 172)],.ah 174 (.t 13),.len 175 (.t 174),.ak 6 (.t 173),.ak 7 (.t 175),.ak 8 (.c (.bool true))]) .ret))))))))⟩
def LW:aj:=(.seq (.seq (.ops [.ah 36 (.t 8),.bin 37 .gtr (.t 36) (.c (.int .i64 1))]) (.cond (.t 37) .skip (.exit 0))) (.block 1 (.seq (.ops [.ah 38 (.t 8),.bin 39 .add (.t 38) (.c (.int .i64 1)),.bin 40 .quo (.t 39) (.c (.int .i64 2)),.ak 10 (.t 40)]) (.seq (.ops [.ah 41 (.t 9),.ah 42 (.t 8),.ah 43 (.t 2),.ah 44 (.t 10),.mn 45 false (.t 43) (.t 44),.bin 46 .mul (.c (.int .i64 2)) (.t 45),.mn 47 false (.t 42) (.t 46),.bin 48 .add (.t 41) (.t 47),.ak 9 (.t 48)]) (.ops [.ah 49 (.t 10),.ak 8 (.t 49)])))))
def LX:aj :=
(.clean [2,8,9] [6,7,9] (.block 0 (.loop [2,8,9] LW)))
def abY:dP:=⟨3,51,[.tmp 6,.tmp 7],(.seq (.ops [.ak 6 (.c (.int .i64 0)),.ak 7 (.c (.int .i64 0))]) (.seq (.seq (.ops [.ah 11 (.t 0),.bin 12 .lss (.t 11) (.c (.int .i64 1)),.ah 13 (.t 12),.grd 13 false (.ah 14 (.t 0)),.grd 13 false (.bin 15 .gtr (.t 14) (.c (.int .i64 4096))),.pick 16 (.t 13) (.c (.bool true)) (.t 15)]) (.cond (.t 16) (.seq (.ops [.ak 6 (.c (.int .i64 0)),.ak 7 (.c (.int .i64 2))]) .ret) .skip)) (.seq (.seq (.ops [.ah 17 (.t 1),.bin 18 .lss (.t 17) (.c (.int .i64 1)),.ah 19 (.t 18),.grd 19 false (.ah 20 (.t 1)),.grd 19 false (.bin 21 .gtr (.t 20) (.c (.int .i64 4096))),.pick 22 (.t 19) (.c (.bool true)) (.t 21)]) (.cond (.t 22) (.seq (.ops [.ak 6 (.c (.int .i64 0)),.ak 7 (.c (.int .i64 1))]) .ret) .skip)) (.seq (.ops [.ah 23 (.t 0),.ah 24 (.t 1),.bin 25 .add (.t 23) (.t 24),.bin 26 .sub (.t 25) (.c (.int .i64 1)),.ah 27 (.t 1),.bin 28 .quo (.t 26) (.t 27),.ak 8 (.t 28)]) (.seq (.seq (.ops [.ah 29 (.t 2),.bin 30 .lss (.t 29) (.c (.int .i64 0)),.ah 31 (.t 30),.grd 31 false (.ah 32 (.t 2)),.grd 31 false (.ah 33 (.t 8)),.grd 31 false (.bin 34 .gtr (.t 32) (.t 33)),.pick 35 (.t 31) (.c (.bool true)) (.t 34)]) (.cond (.t 35) (.seq (.ops [.ak 6 (.c (.int .i64 0)),.ak 7 (.c (.int .i64 2))]) .ret) .skip)) (.seq (.ops [.ak 9 (.c (.int .i64 1))]) (.seq
    LX (.seq (.ops [.ah 50 (.t 9),.ak 6 (.t 50),.ak 7 (.c (.int .i64 0))]) .ret))))))))⟩
def VX:aj:=(.seq (.ops [.ak 9 (.t 24)]) (.ops [.alloc 10 [(.int .i64 0),(.int .i64 0)],.store none 2 (.t 10) (.t 25)]))
def VY:aj:=(.block 1 (.oK [] [([0,1,2,3,4,5,6,7,8,9,10,11,12,13,14,15],16),([17],18)] (some ([],[],19,[([],20)])) [] [.load 26 none (.t 8),.ah 27 (.t 9),.ay 28 (.t 10) 0,.load 29 none (.t 28),.load 30 none (.t 2),.ah 31 (.t 9),.bG 32 1 (.t 30) (.t 31),.load 33 none (.t 32),.ay 34 (.t 10) 0,.load 35 none (.t 34),.ay 36 (.t 10) 0,.load 37 none (.t 36),.ay 38 (.t 10) 1,.load 39 none (.t 38),.bin 40 .add (.t 37) (.t 39),.I4 41 8 (.t 33) (some (.t 35)) (some (.t 40)),.call 42 133 [(.t 41)],.build 43 [(.int .i64 0),(.int .i64 0),(.list 0 [])] [(0,1,(.t 27)),(1,1,(.t 29)),(2,1,(.t 42))],.dW 44 3 [(.t 43)],.app 45 3 (.t 26) (.t 44),.store none 1 (.t 8) (.t 45)]))
def UQ:dP:=⟨2,47,[.tmp 4,.tmp 5],(.seq (.ops [.box 2 (.t 0),.ak 4 (.nil 3),.ak 5 (.c (.int .i64 0))]) (.seq (.seq (.ops [.load 11 none (.t 2),.call 12 76 [(.t 11)],.ak 6 (.t 12)]) (.seq (.ops [.ah 13 (.t 6),.bin 14 .neq (.t 13) (.c (.int .i64 0))]) (.cond (.t 14) (.seq (.ops [.ah 15 (.t 6),.ak 4 (.nil 3),.ak 5 (.t 15)]) .ret) .skip))) (.seq (.seq (.ops [.load 16 none (.t 2),.ah 17 (.t 1),.call 18 131 [(.t 16),(.t 17)],.ak 7 (.t 18)]) (.seq (.ops [.ah 19 (.t 7),.bin 20 .neq (.t 19) (.c (.int .i64 0))]) (.cond (.t 20) (.seq (.ops [.ah 21 (.t 7),.ak 4 (.nil 3),.ak 5 (.t 21)]) .ret) .skip))) (.seq (.ops [.alloc 8 [(.list 3 [])]]) (.seq (.seq (.ops [.ah 22 (.t 1),.call 23 132 [(.t 22)]]) (.block 0 (.rng (.t 23) [24,25] VX VY))) (.seq (.ops [.load 46 none (.t 8),.ak 4 (.t 46),.ak 5 (.c (.int .i64 0))]) .ret))))))⟩
def abZ:dP:=⟨1,6,[.tmp 2],(.seq (.ops [.ak 2 (.c (.int .i64 0))]) (.seq (.ops [.ah 3 (.t 0),.call 4 166 [(.t 3)],.call 5 165 [(.t 4)],.ak 2 (.t 5)]) .ret))⟩
def LY:aj:=(.seq (.seq (.ops [.ah 11 (.t 5),.ah 12 (.t 0),.len 13 (.t 12),.bin 14 .lss (.t 11) (.t 13)]) (.cond (.t 14) .skip (.exit 0))) (.seq (.block 1 (.seq (.oK [] [] none [0,1,2,3,4,5,6,7,8] [.ah 17 (.t 0),.ah 18 (.t 5),.bG 19 8 (.t 17) (.t 18),.load 20 (some 8) (.t 19),.ah 21 (.t 1),.ah 22 (.t 5),.bG 23 8 (.t 21) (.t 22),.load 24 (some 8) (.t 23),.Vs 25 true 8 (.t 20) (.t 24)]) (.cond (.t 25) (.seq (.ops [.ak 4 (.c (.bool false))]) .ret) .skip))) (.ops [.ah 15 (.t 5),.bin 16 .add (.t 15) (.c (.int .i64 1)),.ak 5 (.t 16)])))
def LZ:aj :=
(.clean [0,1,5] [4] (.block 0 (.loop [0,1,5] LY)))
def ab1:dP:=⟨2,26,[.tmp 4],(.seq (.ops [.ak 4 (.c (.bool false))]) (.seq (.seq (.ops [.ah 6 (.t 0),.len 7 (.t 6),.ah 8 (.t 1),.len 9 (.t 8),.bin 10 .neq (.t 7) (.t 9)]) (.cond (.t 10) (.seq (.ops [.ak 4 (.c (.bool false))]) .ret) .skip)) (.seq (.seq (.ops [.ak 5 (.c (.int .i64 0))])
   LZ) (.seq (.ops [.ak 4 (.c (.bool true))]) .ret))))⟩
def ai3:dP:=⟨2,29,[.cell 4 (some 5),.tmp 5],(.seq (.ops [.alloc 4 [(.int .i64 0),(.int .i64 0),(.list 1 []),(.int .i64 0),(.list 1 [])],.ak 5 (.c (.int .i64 0))]) (.seq (.seq (.ops [.ah 9 (.t 0),.ah 10 (.t 1),.call 11 172 [(.t 9),(.t 10)],.un 12 .not (.t 11)]) (.cond (.t 12) (.seq (.ops [.build 13 [(.int .i64 0),(.int .i64 0),(.list 1 []),(.int .i64 0),(.list 1 [])] [],.store none 5 (.t 4) (.t 13),.ak 5 (.c (.int .i64 2))]) .ret) .skip)) (.seq (.ops [.ah 14 (.t 0),.ah 15 (.t 1),.call 16 173 [(.t 14),(.t 15)],.ak 6 (.t 16)]) (.seq (.ops [.ah 18 (.t 6),.call 19 169 [(.t 18)],.ah 17 (.t 19),.ext 20 (.t 17) 0,.ext 21 (.t 17) 1,.alloc 7 [(.int .i64 0),(.list 1 [])],.store none 2 (.t 7) (.t 20),.ak 8 (.t 21)]) (.seq (.oK [] [([0,1,2,4,6],3)] (some ([5],[],7,[])) [8] [.ah 22 (.t 0),.ah 23 (.t 1),.ah 24 (.t 6),.load 26 (some 2) (.t 7),.ah 28 (.t 8),.make 25 (.int .i64 0) (.t 24) (.t 24),.build 27 [(.int .i64 0),(.int .i64 0),(.list 1 []),(.int .i64 0),(.list 1 [])] [(0,1,(.t 22)),(1,1,(.t 23)),(2,1,(.t 25)),(3,2,(.t 26))],.store none 5 (.t 4) (.t 27),.ak 5 (.t 28)]) .ret)))))⟩
def agF:aj:=(.ops [.ak 11 (.t 25)])
def agG:aj:=(.block 1 (.ops [.load 26 none (.t 10),.ah 27 (.t 26),.grd 27 false (.ay 28 (.t 2) 3),.grd 27 false (.load 29 (some 2) (.t 28)),.grd 27 false (.ah 30 (.t 11)),.grd 27 false (.call 31 177 [(.t 29),(.t 30)]),.grd 27 false (.un 32 .not (.t 31)),.pick 33 (.t 27) (.c (.bool true)) (.t 32),.store none 1 (.t 10) (.t 33)]))
def ai4:dP:=⟨2,45,[.cell 4 (some 5),.tmp 5,.tmp 6],(.seq (.ops [.box 2 (.t 0),.box 3 (.t 1),.alloc 4 [(.int .i64 0),(.int .i64 0),(.list 1 []),(.int .i64 0),(.list 1 [])],.ak 5 (.c (.bool false)),.ak 6 (.c (.int .i64 0))]) (.seq (.ops [.load 13 (some 5) (.t 2),.load 14 (some 2) (.t 3),.call 15 174 [(.t 13),(.t 14),(.c (.func 175 []))],.ah 12 (.t 15),.ext 16 (.t 12) 0,.ext 17 (.t 12) 1,.ext 18 (.t 12) 2,.alloc 7 [(.int .i64 0),(.int .i64 0),(.list 1 []),(.int .i64 0),(.list 1 [])],.alloc 8 [(.int .i64 0),(.int .i64 0)],.store none 5 (.t 7) (.t 16),.store none 2 (.t 8) (.t 17),.ak 9 (.t 18)]) (.seq (.seq (.ops [.ah 19 (.t 9),.bin 20 .neq (.t 19) (.c (.int .i64 0))]) (.cond (.t 20) (.seq (.ops [.build 21 [(.int .i64 0),(.int .i64 0),(.list 1 []),(.int .i64 0),(.list 1 [])] [],.ah 22 (.t 9),.store none 5 (.t 4) (.t 21),.ak 5 (.c (.bool false)),.ak 6 (.t 22)]) .ret) .skip)) (.seq (.ops [.alloc 10 [(.bool false)],.store none 1 (.t 10) (.c (.bool false))]) (.seq (.seq (.ops [.load 23 (some 2) (.t 8),.call 24 176 [(.t 23)]]) (.block 0 (.rng (.t 24) [25] agF agG))) (.seq (.ops [.ay 35 (.t 2) 3,.load 36 (some 2) (.t 35),.load 37 (some 2) (.t 8),.call 38 170 [(.t 36),(.t 37)],.ah 34 (.t 38),.ext 39 (.t 34) 0,.ext 40 (.t 34) 1,.ay 41 (.t 7) 3,.store none 2 (.t 41) (.t 39),.ak 9 (.t 40)]) (.seq (.oK [(.t 10)] [] (some ([0],[1,2],3,[])) [4,5] [.load 42 (some 5) (.t 7),.Nr 43 none (.t 10),.ah 44 (.t 9),.store none 5 (.t 4) (.t 42),.ak 5 (.t 43),.ak 6 (.t 44)]) .ret)))))))⟩
def agH:aj:=(.seq (.ops [.bin 92 .lss (.t 91) (.t 90)]) (.seq (.cond (.t 92) .skip (.exit 1)) (.seq (.block 2 (.seq (.ops [.bG 93 2 (.t 89) (.t 91),.load 94 (some 2) (.t 93),.alloc 16 [(.int .i64 0),(.int .i64 0)],.store none 2 (.t 16) (.t 94)]) (.seq (.ops [.ay 95 (.t 16) 0,.load 96 none (.t 95),.ah 97 (.t 1),.bin 98 .mul (.t 96) (.t 97),.ak 17 (.t 98)]) (.ops [.ah 99 (.t 14),.ah 100 (.t 17),.ay 101 (.t 16) 0,.load 102 none (.t 101),.ay 103 (.t 16) 1,.load 104 none (.t 103),.bin 105 .add (.t 102) (.t 104),.ah 106 (.t 1),.bin 107 .mul (.t 105) (.t 106),.ah 108 (.t 0),.mn 109 false (.t 107) (.t 108),.ah 110 (.t 17),.bin 111 .sub (.t 109) (.t 110),.build 112 [(.int .i64 0),(.int .i64 0)] [(0,1,(.t 100)),(1,1,(.t 111))],.dW 113 2 [(.t 112)],.app 114 2 (.t 99) (.t 113),.ak 14 (.t 114)])))) (.ops [.bin 115 .add (.t 91) (.c (.int .i64 1)),.ah 91 (.t 115)]))))
def agI:aj :=
(.clean [0,1,6,9,10,13,14,51,89,90,91,114] [6,7,8,9,10,14] (.block 1 (.loop [0,1,6,9,10,13,14,51,89,90,91,114] agH)))
def ai5:dP:=⟨3,120,[.cell 6 (some 5),.tmp 7,.tmp 8],(.seq (.ops [.alloc 6 [(.int .i64 0),(.int .i64 0),(.list 1 []),(.int .i64 0),(.list 1 [])],.ak 7 (.nil 2),.ak 8 (.c (.int .i64 0))]) (.seq (.ops [.ah 19 (.t 0),.ah 20 (.t 1),.call 21 87 [(.t 19),(.t 20)],.ah 18 (.t 21),.ext 22 (.t 18) 0,.ext 23 (.t 18) 1,.alloc 9 [(.int .i64 0),(.int .i64 0),(.list 1 []),(.int .i64 0),(.list 1 [])],.store none 5 (.t 9) (.t 22),.ak 10 (.t 23)]) (.seq (.seq (.ops [.ah 24 (.t 10),.bin 25 .neq (.t 24) (.c (.int .i64 0))]) (.cond (.t 25) (.seq (.ops [.build 26 [(.int .i64 0),(.int .i64 0),(.list 1 []),(.int .i64 0),(.list 1 [])] [],.ah 27 (.t 10),.store none 5 (.t 6) (.t 26),.ak 7 (.nil 2),.ak 8 (.t 27)]) .ret) .skip)) (.seq (.ops [.ah 29 (.t 2),.call 30 178 [(.t 29)],.ah 28 (.t 30),.ext 31 (.t 28) 0,.ext 32 (.t 28) 1,.ext 33 (.t 28) 2,.ak 11 (.t 31),.ak 2 (.t 32),.ak 10 (.t 33)]) (.seq (.seq (.ops [.ah 34 (.t 10),.bin 35 .neq (.t 34) (.c (.int .i64 0))]) (.cond (.t 35) (.seq (.ops [.build 36 [(.int .i64 0),(.int .i64 0),(.list 1 []),(.int .i64 0),(.list 1 [])] [],.ah 37 (.t 10),.store none 5 (.t 6) (.t 36),.ak 7 (.nil 2),.ak 8 (.t 37)]) .ret) .skip)) (.seq (.ops [.ah 39 (.t 2),.call 40 178 [(.t 39)],.ah 38 (.t 40),.ext 41 (.t 38) 0,.ext 42 (.t 38) 1,.ext 43 (.t 38) 2,.ak 12 (.t 41),.ak 2 (.t 42),.ak 10 (.t 43)]) (.seq (.seq (.ops [.ah 44 (.t 10),.bin 45 .neq (.t 44) (.c (.int .i64 0))]) (.cond (.t 45) (.seq (.ops [.build 46 [(.int .i64 0),(.int .i64 0),(.list 1 []),(.int .i64 0),(.list 1 [])] [],.ah 47 (.t 10),.store none 5 (.t 6) (.t 46),.ak 7 (.nil 2),.ak 8 (.t 47)]) .ret) .skip)) (.seq (.ops [.ah 49 (.t 2),.call 50 179 [(.t 49)],.ah 48 (.t 50),.ext 51 (.t 48) 0,.ext 52 (.t 48) 1,.ext 53 (.t 48) 2,.ak 13 (.t 51),.ak 2 (.t 52),.ak 10 (.t 53)]) (.seq (.block 0 (.seq (.ops [.ah 55 (.t 10),.bin 56 .neq (.t 55) (.c (.int .i64 0)),.ak 54 (.t 56)]) (.cond (.t 54) (.seq (.ops [.build 57 [(.int .i64 0),(.int .i64 0),(.list 1 []),(.int .i64 0),(.list 1 [])] [],.ah 58 (.t 10),.store none 5 (.t 6) (.t 57),.ak 7 (.nil 2),.ak 8 (.t 58)]) .ret) (.seq (.ops [.ah 60 (.t 2),.len 61 (.t 60),.bin 62 .gtr (.t 61) (.c (.int .i64 0)),.ak 59 (.t 62)]) (.cond (.t 59) (.seq (.ops [.build 63 [(.int .i64 0),(.int .i64 0),(.list 1 []),(.int .i64 0),(.list 1 [])] [],.store none 5 (.t 6) (.t 63),.ak 7 (.nil 2),.ak 8 (.c (.int .i64 3))]) .ret) (.seq (.seq (.ops [.ah 65 (.t 11),.ah 66 (.t 0),.bin 67 .neq (.t 65) (.t 66),.ak 64 (.t 67)]) (.cond (.t 64) .skip (.ops [.ah 68 (.t 12),.ah 69 (.t 1),.bin 70 .neq (.t 68) (.t 69),.ak 64 (.t 70)]))) (.cond (.t 64) (.seq (.ops [.build 71 [(.int .i64 0),(.int .i64 0),(.list 1 []),(.int .i64 0),(.list 1 [])] [],.store none 5 (.t 6) (.t 71),.ak 7 (.nil 2),.ak 8 (.c (.int .i64 22))]) .ret) (.seq (.ops [.ah 73 (.t 13),.ay 74 (.t 9) 2,.load 75 none (.t 74),.len 76 (.t 75),.call 77 106 [(.t 73),(.t 76)],.bin 78 .neq (.t 77) (.c (.int .i64 0)),.ak 72 (.t 78)]) (.cond (.t 72) (.seq (.ops [.build 79 [(.int .i64 0),(.int .i64 0),(.list 1 []),(.int .i64 0),(.list 1 [])] [],.store none 5 (.t 6) (.t 79),.ak 7 (.nil 2),.ak 8 (.c (.int .i64 3))]) .ret) .skip))))))))) (.seq (.ops [.ay 81 (.t 9) 2,.load 82 none (.t 81),.len 83 (.t 82),.ah 84 (.t 13),.call 85 116 [(.t 83),(.t 84)],.ah 80 (.t 85),.ext 86 (.t 80) 0,.ext 87 (.t 80) 1,.ay 88 (.t 9) 3,.store none 2 (.t 88) (.t 86),.ak 10 (.t 87)]) (.seq (.ops [.ak 14 (.nil 2)]) (.seq (.seq (.ops [.ah 89 (.t 13),.len 90 (.t 89),.ah 91 (.c (.int .i64 0))])
       agI) (.seq (.oK [] [([0,1,3],2)] (some ([],[],4,[])) [5,6] [.load 116 (some 5) (.t 9),.ah 117 (.t 14),.ah 119 (.t 10),.call 118 180 [(.t 117),(.nil 2)],.store none 5 (.t 6) (.t 116),.ak 7 (.t 118),.ak 8 (.t 119)]) .ret)))))))))))))⟩
def ai6:dP:=⟨1,18,[.tmp 2],(.seq (.ops [.box 1 (.t 0),.ak 2 (.nil 1)]) (.seq (.seq (.ops [.load 4 (some 5) (.t 1),.call 5 181 [(.t 4)],.bin 6 .neq (.t 5) (.c (.int .i64 0))]) (.cond (.t 6) (.seq (.ops [.ak 2 (.nil 1)]) .ret) .skip)) (.seq (.oK [] [([0,1,3,4],2),([],5)] none [6] [.ay 7 (.t 1) 0,.load 8 none (.t 7),.ay 10 (.t 1) 1,.load 11 none (.t 10),.call 9 182 [(.nil 1),(.t 8)],.call 12 182 [(.t 9),(.t 11)],.ak 3 (.t 12)]) (.seq (.ops [.ah 13 (.t 3),.ay 14 (.t 1) 3,.load 15 (some 2) (.t 14),.call 16 154 [(.t 15)],.call 17 183 [(.t 13),(.t 16)],.ak 2 (.t 17)]) .ret))))⟩
def ab2:dP:=⟨2,19,[.tmp 4],(.seq (.ops [.ak 4 (.c (.int .i64 0))]) (.seq (.block 0 (.seq (.ops [.ah 6 (.t 0),.bin 7 .lss (.t 6) (.c (.int .i64 1)),.ah 8 (.t 7),.grd 8 false (.ah 9 (.t 0)),.grd 8 false (.bin 10 .gtr (.t 9) (.c (.int .i64 4096))),.pick 11 (.t 8) (.c (.bool true)) (.t 10),.ak 5 (.t 11)]) (.cond (.t 5) (.seq (.ops [.ak 4 (.c (.int .i64 2))]) .ret) (.seq (.ops [.ah 13 (.t 1),.bin 14 .lss (.t 13) (.c (.int .i64 1)),.ah 15 (.t 14),.grd 15 false (.ah 16 (.t 1)),.grd 15 false (.bin 17 .gtr (.t 16) (.c (.int .i64 4096))),.pick 18 (.t 15) (.c (.bool true)) (.t 17),.ak 12 (.t 18)]) (.cond (.t 12) (.seq (.ops [.ak 4 (.c (.int .i64 1))]) .ret) .skip))))) (.seq (.ops [.ak 4 (.c (.int .i64 0))]) .ret)))⟩
def ab3:dP:=⟨2,9,[.tmp 4],(.seq (.ops [.box 2 (.t 0),.box 3 (.t 1),.ak 4 (.c .pO)]) (.seq (.seq (.ops [.load 5 none (.t 3),.bin 6 .lss (.t 5) (.c (.int .i64 1))]) (.cond (.t 6) (.drs [] [] []
   []) .skip)) (.seq (.ops [.I5 8 184 [(.t 2),(.t 3)],.ak 4 (.t 8)]) .ret)))⟩
def ab4:dP:=⟨1,5,[.tmp 2],(.seq (.ops [.box 1 (.t 0),.ak 2 (.c (.int .u64 0))]) (.seq (.ops [.I5 3 186 [(.t 1)],.call 4 185 [(.t 3)],.ak 2 (.t 4)]) .ret))⟩
def zI:aj:=(.block 1 (.seq (.ops [.ay 11 (.t 7) 2,.load 12 none (.t 11),.ah 13 (.t 2),.dW 14 1 [(.t 13)],.app 15 1 (.t 12) (.t 14),.ay 16 (.t 7) 2,.store none 1 (.t 16) (.t 15)]) (.seq (.seq (.ops [.ah 17 (.t 2),.len 18 (.t 17),.bin 19 .eql (.t 18) (.c (.int .i64 1))]) (.cond (.t 19) (.exit 0) .skip)) (.ops [.ah 20 (.t 2),.call 21 187 [(.t 20),(.c (.func 188 []))],.ak 2 (.t 21)]))))
def L6:aj :=
(.clean [2,6,7,21] [6,7] (.block 0 (.loop [2,6,7,21] zI)))
def ab5:dP:=⟨3,23,[.cell 6 (some 3)],(.seq (.ops [.alloc 6 [(.int .i64 0),(.int .i64 0),(.list 0 [])]]) (.scp (.seq (.ops [.ah 8 (.t 0),.ah 9 (.t 1),.build 10 [(.int .i64 0),(.int .i64 0),(.kZ 1)] [(0,1,(.t 8)),(1,1,(.t 9))],.alloc 7 [(.int .i64 0),(.int .i64 0),(.list 0 [])],.Xi 3 (.t 7) (.t 10)]) (.seq .skip (.seq
   L6 (.seq (.ops [.load 22 (some 3) (.t 7),.store none 3 (.t 6) (.t 22)]) .ret))))))⟩
def Dv:aj:=(.seq (.ops [.bin 25 .lss (.t 24) (.t 23)]) (.seq (.cond (.t 25) .skip (.exit 0)) (.seq (.block 1 (.seq (.ops [.ah 26 (.t 24),.bG 27 1 (.t 22) (.t 24),.load 28 none (.t 27),.ak 5 (.t 26),.ak 6 (.t 28)]) (.seq (.seq (.ops [.ah 29 (.t 6),.len 30 (.t 29),.ah 31 (.t 4),.bin 32 .neq (.t 30) (.t 31),.ah 33 (.t 32),.grd 33 false (.ah 34 (.t 4)),.grd 33 false (.bin 35 .eql (.t 34) (.c (.int .i64 1))),.grd 33 false (.ah 36 (.t 35)),.grd 36 true (.ah 37 (.t 5)),.grd 36 true (.bin 38 .add (.t 37) (.c (.int .i64 1))),.grd 36 true (.ay 39 (.t 1) 2),.grd 36 true (.load 40 none (.t 39)),.grd 36 true (.len 41 (.t 40)),.grd 36 true (.bin 42 .lss (.t 38) (.t 41)),.grd 33 false (.pick 43 (.t 36) (.t 42) (.c (.bool false))),.pick 44 (.t 33) (.c (.bool true)) (.t 43)]) (.cond (.t 44) (.seq (.ops [.ak 2 (.c (.int .i64 3))]) .ret) .skip)) (.seq (.seq (.ops [.ah 45 (.t 4),.bin 46 .eql (.t 45) (.c (.int .i64 1))]) (.cond (.t 46) (.ops [.ak 4 (.c (.int .i64 0))]) .skip)) (.ops [.ah 47 (.t 4),.bin 48 .add (.t 47) (.c (.int .i64 1)),.bin 49 .quo (.t 48) (.c (.int .i64 2)),.ak 4 (.t 49)]))))) (.ops [.bin 50 .add (.t 24) (.c (.int .i64 1)),.ah 24 (.t 50)]))))
def L8:aj :=
(.clean [1,4,22,23,24] [1,2,4] (.block 0 (.loop [1,4,22,23,24] Dv)))
def ab6:dP:=⟨1,68,[.tmp 2],(.seq (.ops [.box 1 (.t 0),.ak 2 (.c (.int .i64 0))]) (.seq (.seq (.ops [.ay 8 (.t 1) 0,.load 9 none (.t 8),.ay 10 (.t 1) 1,.load 11 none (.t 10),.call 12 91 [(.t 9),(.t 11)],.ak 3 (.t 12)]) (.seq (.ops [.ah 13 (.t 3),.bin 14 .neq (.t 13) (.c (.int .i64 0))]) (.cond (.t 14) (.seq (.ops [.ah 15 (.t 3),.ak 2 (.t 15)]) .ret) .skip))) (.seq (.ops [.ay 16 (.t 1) 0,.load 17 none (.t 16),.ay 18 (.t 1) 1,.load 19 none (.t 18),.call 20 189 [(.t 17),(.t 19)],.ak 4 (.t 20)]) (.seq (.seq (.ops [.ay 21 (.t 1) 2,.load 22 none (.t 21),.len 23 (.t 22),.ah 24 (.c (.int .i64 0))])
   L8) (.seq (.seq (.ops [.ah 51 (.t 4),.bin 52 .neq (.t 51) (.c (.int .i64 0))]) (.cond (.t 52) (.seq (.ops [.ak 2 (.c (.int .i64 3))]) .ret) .skip)) (.seq (.drs [] [1,7] [.ay 53 (.t 1) 0,.load 54 none (.t 53),.ay 55 (.t 1) 1,.load 56 none (.t 55),.ay 57 (.t 1) 2,.load 58 none (.t 57),.bG 59 1 (.t 58) (.c (.int .i64 0)),.load 60 none (.t 59),.call 61 94 [(.t 54),(.t 56),(.t 60)],.alloc 7 [(.int .i64 0),(.int .i64 0),(.list 0 [])],.store none 3 (.t 7) (.t 61)]
    [⟨[([0,1,2,3,4,5,6,7],8),([],9)],(some ([],[],10,[])),[],[0,1,2,3,4,5,6,7,8,9,10],false⟩,⟨[([0,1,2,3,4,5,6,7],9),([],8)],(some ([],[],10,[])),[],[0,1,2,3,4,5,6,7,9,8,10],false⟩]) (.seq (.seq (.ops [.ay 62 (.t 7) 2,.load 63 none (.t 62),.ay 64 (.t 1) 2,.load 65 none (.t 64),.call 66 190 [(.t 63),(.t 65),(.c (.func 191 []))],.un 67 .not (.t 66)]) (.cond (.t 67) (.seq (.ops [.ak 2 (.c (.int .i64 22))]) .ret) .skip)) (.seq (.ops [.ak 2 (.c (.int .i64 0))]) .ret))))))))⟩
def L9:aj:=(.seq (.ops [.bin 14 .lss (.t 13) (.t 12)]) (.seq (.cond (.t 14) .skip (.exit 0)) (.seq (.block 1 (.seq (.ops [.bG 15 1 (.t 11) (.t 13),.load 16 none (.t 15),.ak 5 (.t 16)]) (.ops [.ah 17 (.t 3),.ah 18 (.t 5),.call 19 120 [(.t 18)],.dW 20 1 [(.t 19)],.app 21 1 (.t 17) (.t 20),.ak 3 (.t 21)]))) (.ops [.bin 22 .add (.t 13) (.c (.int .i64 1)),.ah 13 (.t 22)]))))
def Mc:aj :=
(.clean [1,2,3,9,11,12,13,21] [1,2,3] (.block 0 (.loop [1,2,3,9,11,12,13,21] L9)))
def ab7:dP:=⟨1,26,[.cell 2 (some 3)],(.seq (.ops [.box 1 (.t 0),.alloc 2 [(.int .i64 0),(.int .i64 0),(.list 0 [])]]) (.seq (.ops [.ay 6 (.t 1) 2,.load 7 none (.t 6),.len 8 (.t 7),.make 9 (.list 0 []) (.c (.int .i64 0)) (.t 8),.ak 3 (.t 9)]) (.seq (.seq (.ops [.ay 10 (.t 1) 2,.load 11 none (.t 10),.len 12 (.t 11),.ah 13 (.c (.int .i64 0))])
   Mc) (.seq (.ops [.ah 23 (.t 3),.ay 24 (.t 1) 2,.store none 1 (.t 24) (.t 23)]) (.seq (.ops [.load 25 (some 3) (.t 1),.store none 3 (.t 2) (.t 25)]) .ret)))))⟩
def zJ:aj:=(.seq (.ops [.bin 26 .lss (.t 25) (.t 24)]) (.seq (.cond (.t 26) .skip (.exit 0)) (.seq (.block 1 (.seq (.ops [.bG 27 2 (.t 23) (.t 25),.load 28 (some 2) (.t 27),.alloc 5 [(.int .i64 0),(.int .i64 0)],.store none 2 (.t 5) (.t 28)]) (.ops [.ah 29 (.t 3),.ay 30 (.t 5) 0,.load 31 none (.t 30),.ay 32 (.t 5) 1,.load 33 none (.t 32),.dW 34 1 [(.t 31),(.t 33)],.app 35 1 (.t 29) (.t 34),.ak 3 (.t 35)]))) (.ops [.bin 36 .add (.t 25) (.c (.int .i64 1)),.ah 25 (.t 36)]))))
def zK:aj :=
(.clean [0,2,3,18,23,24,25,35] [0,2,3] (.block 0 (.loop [0,2,3,18,23,24,25,35] zJ)))
def YT:dP:=⟨1,44,[.cell 2 (some 8)],(.seq (.ops [.alloc 2 [(.int .i64 0),(.int .i64 0),(.int .i64 0),(.int .i64 0),(.int .i64 0),(.int .i64 0),(.list 0 []),(.list 0 [])]]) (.seq (.drs [] [0,2,3,18,35] [.ah 6 (.t 0),.ay 7 (.t 6) 0,.ay 8 (.t 7) 0,.ay 9 (.t 8) 0,.ay 10 (.t 9) 0,.load 11 none (.t 10),.ah 12 (.t 0),.ay 13 (.t 12) 0,.ay 14 (.t 13) 0,.ay 15 (.t 14) 0,.ay 16 (.t 15) 1,.load 17 none (.t 16),.dW 18 1 [(.t 11),(.t 17)],.ak 3 (.t 18)]
  [⟨[([0,6],1),([2,3,4,5],7),([8,9,10,11],12)],none,[13],[0,6,1,2,3,4,5,7,8,9,10,11,12,13],false⟩,⟨[([0,6],7),([8,9,10,11],1),([2,3,4,5],12)],none,[13],[0,6,7,8,9,10,11,1,2,3,4,5,12,13],false⟩]) (.seq (.seq (.ops [.ah 19 (.t 0),.ay 20 (.t 19) 0,.ay 21 (.t 20) 0,.ay 22 (.t 21) 3,.load 23 none (.t 22),.len 24 (.t 23),.ah 25 (.c (.int .i64 0))])
   zK) (.seq (.ops [.ah 37 (.t 0),.ay 38 (.t 37) 0,.ay 39 (.t 38) 0,.ay 40 (.t 39) 4,.load 41 none (.t 40),.ah 42 (.t 3),.build 43 [(.int .i64 0),(.int .i64 0),(.int .i64 0),(.int .i64 0),(.int .i64 0),(.int .i64 0),(.list 0 []),(.list 1 [])] [(0,1,(.c (.int .i64 13))),(3,1,(.t 41)),(6,1,(.t 42))],.store none 8 (.t 2) (.t 43)]) .ret))))⟩
def ab8:dP:=⟨1,83,[.tmp 2],(.seq (.ops [.box 1 (.t 0),.ak 2 (.c (.int .i64 0))]) (.seq (.seq (.ops [.ay 5 (.t 1) 0,.load 6 (some 3) (.t 5),.call 7 95 [(.t 6)],.ak 3 (.t 7)]) (.seq (.ops [.ah 8 (.t 3),.bin 9 .neq (.t 8) (.c (.int .i64 0))]) (.cond (.t 9) (.seq (.ops [.ah 10 (.t 3),.ak 2 (.t 10)]) .ret) .skip))) (.seq (.seq (.ops [.ay 11 (.t 1) 4,.load 12 none (.t 11),.bin 13 .lss (.t 12) (.c (.int .i64 0)),.ah 14 (.t 13),.grd 14 false (.ay 15 (.t 1) 4),.grd 14 false (.load 16 none (.t 15)),.grd 14 false (.ay 17 (.t 1) 0),.grd 14 false (.ay 18 (.t 17) 2),.grd 14 false (.load 19 none (.t 18)),.grd 14 false (.len 20 (.t 19)),.grd 14 false (.bin 21 .geq (.t 16) (.t 20)),.pick 22 (.t 14) (.c (.bool true)) (.t 21),.ah 23 (.t 22),.grd 23 false (.ay 24 (.t 1) 7),.grd 23 false (.load 25 none (.t 24)),.grd 23 false (.ah 26 (.t 25)),.grd 26 true (.ay 27 (.t 1) 4),.grd 26 true (.load 28 none (.t 27)),.grd 26 true (.bin 29 .neq (.t 28) (.c (.int .i64 0))),.grd 23 false (.pick 30 (.t 26) (.t 29) (.c (.bool false))),.pick 31 (.t 23) (.c (.bool true)) (.t 30),.ah 32 (.t 31),.grd 32 false (.ay 33 (.t 1) 6),.grd 32 false (.load 34 none (.t 33)),.grd 32 false (.bin 35 .lss (.t 34) (.c (.int .i64 0))),.pick 36 (.t 32) (.c (.bool true)) (.t 35),.ah 37 (.t 36),.grd 37 false (.ay 38 (.t 1) 6),.grd 37 false (.load 39 none (.t 38)),.grd 37 false (.bin 40 .gtr (.t 39) (.c (.int .i64 8192))),.pick 41 (.t 37) (.c (.bool true)) (.t 40)]) (.cond (.t 41) (.seq (.ops [.ak 2 (.c (.int .i64 2))]) .ret) .skip)) (.seq (.ops [.ak 4 (.c (.bool false))]) (.seq (.seq (.ops [.ay 42 (.t 1) 7,.load 43 none (.t 42)]) (.cond (.t 43) (.ops [.ay 44 (.t 1) 3,.load 45 none (.t 44),.len 46 (.t 45),.bin 47 .eql (.t 46) (.c (.int .i64 0)),.ah 48 (.t 47),.grd 48 true (.ay 49 (.t 1) 5),.grd 48 true (.load 50 none (.t 49)),.grd 48 true (.ay 51 (.t 1) 0),.grd 48 true (.ay 52 (.t 51) 0),.grd 48 true (.load 53 none (.t 52)),.grd 48 true (.call 54 106 [(.t 50),(.t 53)]),.grd 48 true (.bin 55 .eql (.t 54) (.c (.int .i64 0))),.pick 56 (.t 48) (.t 55) (.c (.bool false)),.ak 4 (.t 56)]) (.oK [] [([0,1,2,3,4,5,6,7,8,9,10,11,12,13,14,15,16,17,18,19,20],21)] none [22,23,24] [.ay 57 (.t 1) 3,.load 58 none (.t 57),.len 59 (.t 58),.bin 60 .gtr (.t 59) (.c (.int .i64 0)),.ah 61 (.t 60),.grd 61 true (.ay 62 (.t 1) 5),.grd 61 true (.load 63 none (.t 62)),.grd 61 true (.len 64 (.t 63)),.grd 61 true (.bin 65 .eql (.t 64) (.c (.int .i64 0))),.pick 66 (.t 61) (.t 65) (.c (.bool false)),.ah 67 (.t 66),.grd 67 true (.ay 68 (.t 1) 3),.grd 67 true (.load 69 none (.t 68)),.grd 67 true (.ay 70 (.t 1) 0),.grd 67 true (.ay 71 (.t 70) 2),.grd 67 true (.load 72 none (.t 71)),.grd 67 true (.ay 73 (.t 1) 4),.grd 67 true (.load 74 none (.t 73)),.grd 67 true (.bG 75 1 (.t 72) (.t 74)),.grd 67 true (.load 76 none (.t 75)),.grd 67 true (.len 77 (.t 76)),.grd 67 true (.call 78 106 [(.t 69),(.t 77)]),.grd 67 true (.bin 79 .eql (.t 78) (.c (.int .i64 0))),.pick 80 (.t 67) (.t 79) (.c (.bool false)),.ak 4 (.t 80)]))) (.seq (.seq (.ops [.ah 81 (.t 4),.un 82 .not (.t 81)]) (.cond (.t 82) (.seq (.ops [.ak 2 (.c (.int .i64 3))]) .ret) .skip)) (.seq (.ops [.ak 2 (.c (.int .i64 0))]) .ret)))))))⟩
def Md:aj:=(.seq (.ops [.bin 14 .lss (.t 13) (.t 12)]) (.seq (.cond (.t 14) .skip (.exit 0)) (.seq (.block 1 (.seq (.ops [.ah 15 (.t 13),.ak 5 (.t 15)]) (.seq (.oK [] [] none [0,1,2,3,4,5,6,7,8] [.ah 16 (.t 0),.ah 17 (.t 5),.bG 18 1 (.t 16) (.t 17),.load 19 none (.t 18),.ah 20 (.t 1),.ah 21 (.t 5),.bG 22 1 (.t 20) (.t 21),.load 23 none (.t 22),.bin 24 .neq (.t 19) (.t 23)]) (.cond (.t 24) (.seq (.ops [.ak 4 (.c (.bool false))]) .ret) .skip)))) (.ops [.bin 25 .add (.t 13) (.c (.int .i64 1)),.ah 13 (.t 25)]))))
def Me:aj :=
(.clean [0,1,12,13] [4] (.block 0 (.loop [0,1,12,13] Md)))
def ab9:dP:=⟨2,26,[.tmp 4],(.seq (.ops [.ak 4 (.c (.bool false))]) (.seq (.seq (.ops [.ah 6 (.t 0),.len 7 (.t 6),.ah 8 (.t 1),.len 9 (.t 8),.bin 10 .neq (.t 7) (.t 9)]) (.cond (.t 10) (.seq (.ops [.ak 4 (.c (.bool false))]) .ret) .skip)) (.seq (.seq (.ops [.ah 11 (.t 0),.len 12 (.t 11),.ah 13 (.c (.int .i64 0))])
   Me) (.seq (.ops [.ak 4 (.c (.bool true))]) .ret))))⟩
def EK:aj:=(.seq (.ops [.bin 10 .lss (.t 9) (.t 8)]) (.seq (.cond (.t 10) .skip (.exit 0)) (.seq (.block 1 (.seq (.ops [.bG 11 2 (.t 7) (.t 9),.load 12 (some 2) (.t 11),.alloc 5 [(.int .i64 0),(.int .i64 0)],.store none 2 (.t 5) (.t 12)]) (.ops [.ah 13 (.t 3),.ay 14 (.t 5) 1,.load 15 none (.t 14),.bin 16 .add (.t 13) (.t 15),.ak 3 (.t 16)]))) (.ops [.bin 17 .add (.t 9) (.c (.int .i64 1)),.ah 9 (.t 17)]))))
def EL:aj :=
(.clean [3,7,8,9] [2,3] (.block 0 (.loop [3,7,8,9] EK)))
def O9:dP:=⟨1,19,[.tmp 2],(.seq (.ops [.ak 2 (.c (.int .i64 0))]) (.seq (.ops [.ak 3 (.c (.int .i64 0))]) (.seq (.seq (.ops [.ah 6 (.t 0),.call 7 180 [(.t 6),(.nil 2)],.len 8 (.t 7),.ah 9 (.c (.int .i64 0))])
   EL) (.seq (.ops [.ah 18 (.t 3),.ak 2 (.t 18)]) .ret))))⟩
def EM:aj:=(.ops [.ak 6 (.t 13)])
def EN:aj:=(.block 1 (.seq (.seq (.oK [] [([0,1,2,4],3),([5,6],7),([],8)] none [9] [.load 14 none (.t 3),.I4 15 1 (.t 14) none (some (.c (.int .i64 8))),.Xh 16 (.t 2),.ah 18 (.t 6),.pk 17 193 (.t 16),.bG 19 1 (.t 17) (.t 18),.load 20 none (.t 19),.call 21 109 [(.t 20)],.call 22 192 [(.t 15),(.t 21)],.un 23 .not (.t 22)]) (.cond (.t 23) (.ops [.load 24 none (.t 5),.ah 25 (.t 6),.dW 26 1 [(.t 25)],.app 27 1 (.t 24) (.t 26),.store none 1 (.t 5) (.t 27)]) .skip)) (.seq (.ops [.load 28 none (.t 3),.I4 29 1 (.t 28) (some (.c (.int .i64 8))) none,.store none 1 (.t 3) (.t 29)]) (.ops [.Xh 30 (.t 2),.ay 31 (.t 30) 0,.ay 32 (.t 31) 0,.ay 33 (.t 32) 6,.load 34 none (.t 33),.bin 35 .add (.t 34) (.c (.int .i64 1)),.ay 36 (.t 30) 0,.ay 37 (.t 36) 0,.ay 38 (.t 37) 6,.store none 1 (.t 38) (.t 35)]))))
def Pg:dP:=⟨2,40,[.tmp 4],(.seq (.ops [.Xg 2 (.t 0),.box 3 (.t 1),.ak 4 (.nil 1)]) (.seq (.ops [.alloc 5 [(.list 1 [])]]) (.seq (.seq (.ops [.Xh 7 (.t 2),.ay 8 (.t 7) 0,.ay 9 (.t 8) 0,.ay 10 (.t 9) 3,.load 11 none (.t 10),.call 12 108 [(.t 11)]]) (.block 0 (.rng (.t 12) [13] EM EN))) (.seq (.ops [.load 39 none (.t 5),.ak 4 (.t 39)]) .ret))))⟩
def EO:aj:=(.seq (.ops [.bin 15 .lss (.t 14) (.t 13)]) (.seq (.cond (.t 15) .skip (.exit 0)) (.seq (.block 1 (.seq (.ops [.bG 16 1 (.t 12) (.t 14),.load 17 none (.t 16),.ak 6 (.t 17)]) (.seq (.ops [.ah 18 (.t 6),.ah 19 (.t 0),.ay 20 (.t 19) 0,.ay 21 (.t 20) 0,.ay 22 (.t 21) 0,.ay 23 (.t 22) 1,.load 24 none (.t 23),.bin 25 .mul (.t 18) (.t 24),.ak 7 (.t 25)]) (.drs [] [0,1,4,12,13,14,45] [.ah 26 (.t 4),.ah 27 (.t 7),.ah 28 (.t 0),.ay 29 (.t 28) 0,.ay 30 (.t 29) 0,.ay 31 (.t 30) 0,.ay 32 (.t 31) 1,.load 33 none (.t 32),.ah 34 (.t 0),.ay 35 (.t 34) 0,.ay 36 (.t 35) 0,.ay 37 (.t 36) 0,.ay 38 (.t 37) 0,.load 39 none (.t 38),.ah 40 (.t 7),.bin 41 .sub (.t 39) (.t 40),.mn 42 false (.t 33) (.t 41),.build 43 [(.int .i64 0),(.int .i64 0)] [(0,1,(.t 27)),(1,1,(.t 42))],.dW 44 2 [(.t 43)],.app 45 2 (.t 26) (.t 44),.ak 4 (.t 45)]
    [⟨[([0,1,2,8,14],3),([4,5,6,7],9),([10,11,12,13,15,16,17],18)],(some ([],[],19,[])),[20],[0,1,2,8,14,3,4,5,6,7,9,10,11,12,13,15,16,17,18,19,20],false⟩,⟨[([0,1,2,8,14],9),([10,11,12,13,15],3),([4,5,6,7,16,17],18)],(some ([],[],19,[])),[20],[0,1,2,8,14,9,10,11,12,13,15,3,4,5,6,7,16,17,18,19,20],false⟩])))) (.ops [.bin 46 .add (.t 14) (.c (.int .i64 1)),.ah 14 (.t 46)]))))
def EP:aj :=
(.clean [0,1,4,12,13,14,45] [0,4] (.block 0 (.loop [0,1,4,12,13,14,45] EO)))
def Ph:dP:=⟨2,55,[],(.seq (.ops [.ah 8 (.t 0),.ay 9 (.t 8) 0,.ay 10 (.t 9) 0,.ay 11 (.t 10) 5,.store none 1 (.t 11) (.nil 2)]) (.seq (.ops [.ak 4 (.nil 2)]) (.seq (.seq (.ops [.ah 12 (.t 1),.len 13 (.t 12),.ah 14 (.c (.int .i64 0))])
   EP) (.seq (.ops [.ah 47 (.t 0),.ah 48 (.t 4),.call 49 180 [(.t 48),(.nil 2)],.ay 50 (.t 47) 0,.ay 51 (.t 50) 0,.ay 52 (.t 51) 5,.store none 1 (.t 52) (.t 49)]) (.ops [.ah 53 (.t 0),.lin 54 103 (.t 53) []])))))⟩
def Pj:dP:=⟨1,14,[],(.ops [.ah 2 (.t 0),.ah 3 (.t 0),.ah 4 (.t 0),.ay 5 (.t 2) 0,.ay 6 (.t 5) 0,.ay 7 (.t 6) 4,.store none 1 (.t 7) (.c (.int .i64 0)),.ay 8 (.t 3) 0,.ay 9 (.t 8) 0,.ay 10 (.t 9) 3,.store none 1 (.t 10) (.nil 2),.ay 11 (.t 4) 0,.ay 12 (.t 11) 0,.ay 13 (.t 12) 7,.store none 1 (.t 13) (.c (.bool true))])⟩
def sN:aj:=(.seq (.ops [.bin 35 .lss (.t 34) (.t 33)]) (.seq (.cond (.t 35) .skip (.exit 2)) (.seq (.block 3 (.seq (.ops [.bG 36 1 (.t 32) (.t 34),.load 37 none (.t 36),.ak 7 (.t 37)]) (.seq (.ops [.ah 38 (.t 7),.ah 39 (.t 0),.pk 40 193 (.t 39),.len 41 (.t 40),.bin 42 .lss (.t 38) (.t 41)]) (.cond (.t 42) (.ops [.ah 43 (.t 0),.ah 44 (.t 0),.ay 45 (.t 44) 0,.ay 46 (.t 45) 0,.ay 47 (.t 46) 3,.load 48 none (.t 47),.ah 49 (.t 7),.lin 50 194 (.t 48) [(.t 49)],.ay 51 (.t 43) 0,.ay 52 (.t 51) 0,.ay 53 (.t 52) 3,.store none 1 (.t 53) (.t 50)]) .skip)))) (.ops [.bin 54 .add (.t 34) (.c (.int .i64 1)),.ah 34 (.t 54)]))))
def ER:aj :=
(.clean [0,1,21,22,23,32,33,34] [0,1,21,22,23] (.block 2 (.loop [0,1,21,22,23,32,33,34] sN)))
def ES:aj:=(.seq (.ops [.bin 24 .lss (.t 23) (.t 22)]) (.seq (.cond (.t 24) .skip (.exit 0)) (.seq (.block 1 (.seq (.ops [.bG 25 1 (.t 21) (.t 23),.load 26 none (.t 25),.ak 5 (.t 26)]) (.seq (.ops [.ah 27 (.t 5),.bin 28 .mul (.c (.int .i64 2)) (.t 27),.ah 29 (.t 5),.bin 30 .mul (.c (.int .i64 2)) (.t 29),.bin 31 .add (.t 30) (.c (.int .i64 1)),.dW 32 1 [(.t 28),(.t 31)],.len 33 (.t 32),.ah 34 (.c (.int .i64 0))])
    ER))) (.ops [.bin 55 .add (.t 23) (.c (.int .i64 1)),.ah 23 (.t 55)]))))
def ET:aj :=
(.clean [0,1,21,22,23] [] (.block 0 (.loop [0,1,21,22,23] ES)))
def Pm:dP:=⟨2,56,[],(.seq (.ops [.ah 8 (.t 0),.ay 9 (.t 8) 0,.ay 10 (.t 9) 0,.ay 11 (.t 10) 4,.load 12 none (.t 11),.bin 13 .sub (.t 12) (.c (.int .i64 1)),.ay 14 (.t 8) 0,.ay 15 (.t 14) 0,.ay 16 (.t 15) 4,.store none 1 (.t 16) (.t 13)]) (.seq (.ops [.ah 17 (.t 0),.ay 18 (.t 17) 0,.ay 19 (.t 18) 0,.ay 20 (.t 19) 3,.store none 1 (.t 20) (.nil 2)]) (.seq (.ops [.ah 21 (.t 1),.len 22 (.t 21),.ah 23 (.c (.int .i64 0))])
  ET)))⟩
def Pn:dP:=⟨2,9,[.tmp 4],(.seq (.ops [.box 2 (.t 0),.box 3 (.t 1),.ak 4 (.c .pO)]) (.seq (.seq (.ops [.load 5 none (.t 3),.bin 6 .lss (.t 5) (.c (.int .i64 1))]) (.cond (.t 6) (.drs [] [] []
   []) .skip)) (.seq (.ops [.I5 8 195 [(.t 2),(.t 3)],.ak 4 (.t 8)]) .ret)))⟩
def qm:aj:=(.seq (.ops [.bin 17 .lss (.t 16) (.t 15)]) (.seq (.cond (.t 17) .skip (.exit 0)) (.seq (.block 1 (.seq (.ops [.bG 18 2 (.t 14) (.t 16),.load 19 (some 2) (.t 18),.alloc 7 [(.int .i64 0),(.int .i64 0)],.store none 2 (.t 7) (.t 19)]) (.seq (.block 2 (.seq (.ops [.ay 21 (.t 7) 1,.load 22 none (.t 21),.bin 23 .leq (.t 22) (.c (.int .i64 0)),.ak 20 (.t 23)]) (.cond (.t 20) (.seq (.ops [.ak 4 (.c (.int .i64 1))]) .ret) (.seq (.ops [.ay 25 (.t 7) 0,.load 26 none (.t 25),.bin 27 .lss (.t 26) (.c (.int .i64 0)),.ah 28 (.t 27),.grd 28 false (.ay 29 (.t 7) 1),.grd 28 false (.load 30 none (.t 29)),.grd 28 false (.ah 31 (.t 1)),.grd 28 false (.ay 32 (.t 7) 0),.grd 28 false (.load 33 none (.t 32)),.grd 28 false (.bin 34 .sub (.t 31) (.t 33)),.grd 28 false (.bin 35 .gtr (.t 30) (.t 34)),.pick 36 (.t 28) (.c (.bool true)) (.t 35),.ak 24 (.t 36)]) (.cond (.t 24) (.seq (.ops [.ak 4 (.c (.int .i64 2))]) .ret) (.seq (.ops [.ay 38 (.t 7) 0,.load 39 none (.t 38),.ah 40 (.t 5),.bin 41 .lss (.t 39) (.t 40),.ak 37 (.t 41)]) (.cond (.t 37) (.seq (.ops [.ak 4 (.c (.int .i64 3))]) .ret) .skip))))))) (.ops [.ay 42 (.t 7) 0,.load 43 none (.t 42),.ay 44 (.t 7) 1,.load 45 none (.t 44),.bin 46 .add (.t 43) (.t 45),.bin 47 .add (.t 46) (.c (.int .i64 1)),.ak 5 (.t 47)])))) (.ops [.bin 48 .add (.t 16) (.c (.int .i64 1)),.ah 16 (.t 48)]))))
def EU:aj :=
(.clean [0,1,5,14,15,16] [4] (.block 0 (.loop [0,1,5,14,15,16] qm)))
def EW:dP:=⟨2,49,[.tmp 4],(.seq (.ops [.ak 4 (.c (.int .i64 0))]) (.seq (.seq (.ops [.ah 8 (.t 1),.bin 9 .lss (.t 8) (.c (.int .i64 0)),.ah 10 (.t 9),.grd 10 false (.ah 11 (.t 1)),.grd 10 false (.bin 12 .gtr (.t 11) (.c (.int .i64 4096))),.pick 13 (.t 10) (.c (.bool true)) (.t 12)]) (.cond (.t 13) (.seq (.ops [.ak 4 (.c (.int .i64 2))]) .ret) .skip)) (.seq (.ops [.ak 5 (.c (.int .i64 0))]) (.seq (.seq (.ops [.ah 14 (.t 0),.len 15 (.t 14),.ah 16 (.c (.int .i64 0))])
   EU) (.seq (.ops [.ak 4 (.c (.int .i64 0))]) .ret)))))⟩
def VZ:dP:=⟨1,8,[.tmp 2],(.seq (.ops [.ak 2 (.nil 1)]) (.seq (.seq (.ops [.ah 3 (.t 0),.RQ 4 false (.t 3)]) (.cond (.t 4) (.seq (.ops [.ak 2 (.nil 1)]) .ret) .skip)) (.seq (.ops [.dW 5 1 [],.ah 6 (.t 0),.app 7 1 (.t 5) (.t 6),.ak 2 (.t 7)]) .ret)))⟩
def Po:dP:=⟨1,4,[.tmp 2],(.seq (.ops [.box 1 (.t 0),.ak 2 (.c .pO)]) (.seq (.ops [.I5 3 196 [(.t 1)],.ak 2 (.t 3)]) .ret))⟩
def EX:aj:=(.seq (.ops [.bin 6 .lss (.t 5) (.c (.int .i64 8))]) (.seq (.cond (.t 6) .skip (.exit 0)) (.seq (.block 1 (.seq (.ops [.ah 7 (.t 5),.ak 4 (.t 7)]) (.ops [.ah 8 (.t 3),.ah 9 (.t 0),.ah 10 (.t 4),.bin 11 .mul (.c (.int .i64 8)) (.t 10),.bin 12 .shr (.t 9) (.t 11),.conv 13 .u8 (.t 12),.dW 14 1 [(.t 13)],.app 15 1 (.t 8) (.t 14),.ak 3 (.t 15)]))) (.ops [.bin 16 .add (.t 5) (.c (.int .i64 1)),.ah 5 (.t 16)]))))
def EY:aj :=
(.clean [0,3,5,15] [2,3] (.block 0 (.loop [0,3,5,15] EX)))
def Pq:dP:=⟨1,18,[.tmp 2],(.seq (.ops [.ak 2 (.nil 1)]) (.seq (.ops [.ak 3 (.nil 1)]) (.seq (.seq (.ops [.ah 5 (.c (.int .i64 0))])
   EY) (.seq (.ops [.ah 17 (.t 3),.ak 2 (.t 17)]) .ret))))⟩
def acd:aj:=(.seq (.ops [.bin 22 .lss (.t 21) (.t 20)]) (.seq (.cond (.t 22) .skip (.exit 0)) (.seq (.block 1 (.seq (.ops [.bG 23 2 (.t 19) (.t 21),.load 24 (some 2) (.t 23),.alloc 9 [(.int .i64 0),(.int .i64 0)],.store none 2 (.t 9) (.t 24)]) (.seq (.ops [.load 26 (some 2) (.t 6),.load 27 (some 2) (.t 9),.call 28 170 [(.t 26),(.t 27)],.ah 25 (.t 28),.ext 29 (.t 25) 0,.ext 30 (.t 25) 1,.store none 2 (.t 6) (.t 29),.ak 7 (.t 30)]) (.seq (.ops [.ah 31 (.t 7),.bin 32 .neq (.t 31) (.c (.int .i64 0))]) (.cond (.t 32) (.seq (.ops [.build 33 [(.int .i64 0),(.list 1 [])] [],.ah 34 (.t 7),.store none 2 (.t 4) (.t 33),.ak 5 (.t 34)]) .ret) .skip))))) (.ops [.bin 35 .add (.t 21) (.c (.int .i64 1)),.ah 21 (.t 35)]))))
def ace:aj :=
(.clean [1,4,6,19,20,21] [4,5,6] (.block 0 (.loop [1,4,6,19,20,21] acd)))
def acf:dP:=⟨2,37,[.cell 4 (some 2),.tmp 5],(.seq (.ops [.alloc 4 [(.int .i64 0),(.list 1 [])],.ak 5 (.c (.int .i64 0))]) (.seq (.ops [.ah 11 (.t 0),.call 12 169 [(.t 11)],.ah 10 (.t 12),.ext 13 (.t 10) 0,.ext 14 (.t 10) 1,.alloc 6 [(.int .i64 0),(.list 1 [])],.store none 2 (.t 6) (.t 13),.ak 7 (.t 14)]) (.seq (.seq (.ops [.ah 15 (.t 7),.bin 16 .neq (.t 15) (.c (.int .i64 0))]) (.cond (.t 16) (.seq (.ops [.build 17 [(.int .i64 0),(.list 1 [])] [],.ah 18 (.t 7),.store none 2 (.t 4) (.t 17),.ak 5 (.t 18)]) .ret) .skip)) (.seq (.seq (.ops [.ah 19 (.t 1),.len 20 (.t 19),.ah 21 (.c (.int .i64 0))])
   ace) (.seq (.ops [.load 36 (some 2) (.t 6),.store none 2 (.t 4) (.t 36),.ak 5 (.c (.int .i64 0))]) .ret)))))⟩
def V4:dP:=⟨1,8,[.tmp 2],(.seq (.ops [.ak 2 (.nil 1)]) (.seq (.seq (.ops [.ah 3 (.t 0),.RQ 4 false (.t 3)]) (.cond (.t 4) (.seq (.ops [.ak 2 (.nil 1)]) .ret) .skip)) (.seq (.ops [.dW 5 1 [],.ah 6 (.t 0),.app 7 1 (.t 5) (.t 6),.ak 2 (.t 7)]) .ret)))⟩
def EZ:aj:=(.seq (.seq (.ops [.ah 24 (.t 7),.ah 25 (.t 0),.len 26 (.t 25),.ah 27 (.t 1),.call 28 203 [(.t 26),(.t 27)],.bin 29 .lss (.t 24) (.t 28)]) (.cond (.t 29) .skip (.exit 0))) (.seq (.block 1 (.ops [.ah 32 (.t 6),.ah 33 (.t 0),.ah 34 (.t 1),.ah 35 (.t 7),.call 36 129 [(.t 33),(.t 34),(.t 35)],.call 37 204 [(.t 36)],.dW 38 1 [(.t 37)],.app 39 1 (.t 32) (.t 38),.ak 6 (.t 39)])) (.ops [.ah 30 (.t 7),.bin 31 .add (.t 30) (.c (.int .i64 1)),.ak 7 (.t 31)])))
def E8:aj :=
(.clean [0,1,4,6,7,39] [0,1,4,5,6] (.block 0 (.loop [0,1,4,6,7,39] EZ)))
def Pv:dP:=⟨2,45,[.cell 4 (some 3),.tmp 5],(.seq (.ops [.alloc 4 [(.int .i64 0),(.int .i64 0),(.list 0 [])],.ak 5 (.c (.int .i64 0))]) (.seq (.seq (.ops [.ah 8 (.t 0),.len 9 (.t 8),.bin 10 .lss (.t 9) (.c (.int .i64 1)),.ah 11 (.t 10),.grd 11 false (.ah 12 (.t 0)),.grd 11 false (.len 13 (.t 12)),.grd 11 false (.bin 14 .gtr (.t 13) (.c (.int .i64 4096))),.pick 15 (.t 11) (.c (.bool true)) (.t 14)]) (.cond (.t 15) (.seq (.ops [.build 16 [(.int .i64 0),(.int .i64 0),(.list 0 [])] [],.store none 3 (.t 4) (.t 16),.ak 5 (.c (.int .i64 2))]) .ret) .skip)) (.seq (.seq (.ops [.ah 17 (.t 1),.bin 18 .lss (.t 17) (.c (.int .i64 1)),.ah 19 (.t 18),.grd 19 false (.ah 20 (.t 1)),.grd 19 false (.bin 21 .gtr (.t 20) (.c (.int .i64 4096))),.pick 22 (.t 19) (.c (.bool true)) (.t 21)]) (.cond (.t 22) (.seq (.ops [.build 23 [(.int .i64 0),(.int .i64 0),(.list 0 [])] [],.store none 3 (.t 4) (.t 23),.ak 5 (.c (.int .i64 1))]) .ret) .skip)) (.seq (.ops [.ak 6 (.nil 1)]) (.seq (.seq (.ops [.ak 7 (.c (.int .i64 0))])
    E8) (.seq (.ops [.ah 40 (.t 0),.len 41 (.t 40),.ah 42 (.t 1),.ah 43 (.t 6),.call 44 205 [(.t 41),(.t 42),(.t 43)],.store none 3 (.t 4) (.t 44),.ak 5 (.c (.int .i64 0))]) .ret))))))⟩
def JF:dP:=⟨3,20,[.tmp 6],(.seq (.ops [.ak 6 (.nil 8)]) (.seq (.ops [.ah 7 (.t 0),.ah 8 (.t 2),.ah 9 (.t 1),.bin 10 .mul (.t 8) (.t 9),.ah 11 (.t 0),.len 12 (.t 11),.ah 13 (.t 2),.ah 14 (.t 1),.bin 15 .mul (.t 13) (.t 14),.ah 16 (.t 1),.bin 17 .add (.t 15) (.t 16),.mn 18 false (.t 12) (.t 17),.I4 19 8 (.t 7) (some (.t 10)) (some (.t 18)),.ak 6 (.t 19)]) .ret))⟩
def vY:aj:=(.seq (.seq (.ops [.ah 11 (.t 8),.ah 12 (.t 2),.len 13 (.t 12),.bin 14 .lss (.t 11) (.t 13)]) (.cond (.t 14) .skip (.exit 0))) (.seq (.block 1 (.seq (.oK [] [([0,1,2,3,4,5,6,7,8,9,10,11,12,13,14,15,16,17,18,19,20,21,22,23],24)] (some ([],[],25,[])) [] [.ah 17 (.t 2),.ah 18 (.t 8),.bG 19 1 (.t 17) (.t 18),.load 20 none (.t 19),.ah 21 (.t 1),.bin 22 .mul (.t 20) (.t 21),.ah 23 (.t 0),.ah 24 (.t 2),.ah 25 (.t 8),.bG 26 1 (.t 24) (.t 25),.load 27 none (.t 26),.ah 28 (.t 1),.bin 29 .mul (.t 27) (.t 28),.ah 30 (.t 1),.bin 31 .add (.t 29) (.t 30),.mn 32 false (.t 23) (.t 31),.ah 33 (.t 2),.ah 34 (.t 8),.bG 35 1 (.t 33) (.t 34),.load 36 none (.t 35),.ah 37 (.t 1),.bin 38 .mul (.t 36) (.t 37),.bin 39 .sub (.t 32) (.t 38),.build 40 [(.int .i64 0),(.int .i64 0)] [(0,1,(.t 22)),(1,1,(.t 39))],.alloc 9 [(.int .i64 0),(.int .i64 0)],.store none 2 (.t 9) (.t 40)]) (.seq (.ops [.ah 41 (.t 7),.len 42 (.t 41),.ak 10 (.t 42)]) (.seq (.oK [] [] none [0,1,2,3,4,5,6,7,8,9,10,11,12,13,14,15,16,17,18,19] [.ah 43 (.t 10),.bin 44 .gtr (.t 43) (.c (.int .i64 0)),.ah 45 (.t 44),.grd 45 true (.ah 46 (.t 7)),.grd 45 true (.ah 47 (.t 10)),.grd 45 true (.bin 48 .sub (.t 47) (.c (.int .i64 1))),.grd 45 true (.bG 49 2 (.t 46) (.t 48)),.grd 45 true (.ay 50 (.t 49) 0),.grd 45 true (.load 51 none (.t 50)),.grd 45 true (.ah 52 (.t 7)),.grd 45 true (.ah 53 (.t 10)),.grd 45 true (.bin 54 .sub (.t 53) (.c (.int .i64 1))),.grd 45 true (.bG 55 2 (.t 52) (.t 54)),.grd 45 true (.ay 56 (.t 55) 1),.grd 45 true (.load 57 none (.t 56)),.grd 45 true (.bin 58 .add (.t 51) (.t 57)),.grd 45 true (.ay 59 (.t 9) 0),.grd 45 true (.load 60 none (.t 59)),.grd 45 true (.bin 61 .eql (.t 58) (.t 60)),.pick 62 (.t 45) (.t 61) (.c (.bool false))]) (.cond (.t 62) (.oK [] [] (some ([0,1,2,3,4,5,6,7,8,9,10],[],11,[])) [] [.ah 63 (.t 7),.ah 64 (.t 10),.bin 65 .sub (.t 64) (.c (.int .i64 1)),.bG 66 2 (.t 63) (.t 65),.ay 67 (.t 66) 1,.load 68 none (.t 67),.ay 69 (.t 9) 1,.load 70 none (.t 69),.bin 71 .add (.t 68) (.t 70),.bG 72 2 (.t 63) (.t 65),.ay 73 (.t 72) 1,.store none 1 (.t 73) (.t 71)]) (.ops [.ah 74 (.t 7),.load 75 (some 2) (.t 9),.dW 76 2 [(.t 75)],.app 77 2 (.t 74) (.t 76),.ak 7 (.t 77)])))))) (.ops [.ah 15 (.t 8),.bin 16 .add (.t 15) (.c (.int .i64 1)),.ak 8 (.t 16)])))
def Fa:aj :=
(.clean [0,1,2,7,8,77] [6,7] (.block 0 (.loop [0,1,2,7,8,77] vY)))
def Px:dP:=⟨3,79,[.tmp 6],(.seq (.ops [.ak 6 (.nil 2)]) (.seq (.ops [.ak 7 (.nil 2)]) (.seq (.seq (.ops [.ak 8 (.c (.int .i64 0))])
   Fa) (.seq (.ops [.ah 78 (.t 7),.ak 6 (.t 78)]) .ret))))⟩
def JG:dP:=⟨2,16,[.tmp 4],(.seq (.ops [.box 2 (.t 0),.ak 4 (.c (.int .i64 0))]) (.seq (.seq (.ops [.ah 6 (.t 1),.len 7 (.t 6),.load 8 none (.t 2),.len 9 (.t 8),.bin 10 .neq (.t 7) (.t 9)]) (.cond (.t 10) (.seq (.ops [.ak 4 (.c (.int .i64 6))]) .ret) .skip)) (.seq (.ops [.ah 11 (.t 1),.I5 12 207 [(.t 2)],.call 13 206 [(.t 11),(.t 12)],.ak 5 (.t 13)]) (.seq (.seq (.ops [.ah 14 (.t 5),.call 15 208 [(.t 14),(.c (.bool false))]]) (.cond (.t 15) (.seq (.ops [.ak 4 (.c (.int .i64 3))]) .ret) .skip)) (.seq (.ops [.ak 4 (.c (.int .i64 0))]) .ret)))))⟩
def Py:dP:=⟨1,4,[.tmp 2],(.seq (.ops [.box 1 (.t 0),.ak 2 (.c .pO)]) (.seq (.ops [.I5 3 209 [(.t 1)],.ak 2 (.t 3)]) .ret))⟩
def V5:dP:=⟨1,8,[.tmp 2],(.seq (.ops [.ak 2 (.nil 8)]) (.seq (.seq (.ops [.ah 3 (.t 0),.RQ 4 false (.t 3)]) (.cond (.t 4) (.seq (.ops [.ak 2 (.nil 8)]) .ret) .skip)) (.seq (.ops [.dW 5 8 [],.ah 6 (.t 0),.app 7 8 (.t 5) (.t 6),.ak 2 (.t 7)]) .ret)))⟩
def acg:aj:=(.ops [.ak 4 (.t 8)])
def ach:aj:=(.block 1 (.seq (.seq (.ops [.load 9 none (.t 3),.len 10 (.t 9),.ak 5 (.t 10)]) (.seq (.oK [] [] none [0,1,2,3,4,5,6,7,8,9,10,11,12,13,14,15,16,17,18] [.ah 11 (.t 5),.bin 12 .gtr (.t 11) (.c (.int .i64 0)),.ah 13 (.t 12),.grd 13 true (.load 14 none (.t 3)),.grd 13 true (.ah 15 (.t 5)),.grd 13 true (.bin 16 .sub (.t 15) (.c (.int .i64 1))),.grd 13 true (.bG 17 2 (.t 14) (.t 16)),.grd 13 true (.ay 18 (.t 17) 0),.grd 13 true (.load 19 none (.t 18)),.grd 13 true (.load 20 none (.t 3)),.grd 13 true (.ah 21 (.t 5)),.grd 13 true (.bin 22 .sub (.t 21) (.c (.int .i64 1))),.grd 13 true (.bG 23 2 (.t 20) (.t 22)),.grd 13 true (.ay 24 (.t 23) 1),.grd 13 true (.load 25 none (.t 24)),.grd 13 true (.bin 26 .add (.t 19) (.t 25)),.grd 13 true (.ah 27 (.t 4)),.grd 13 true (.bin 28 .eql (.t 26) (.t 27)),.pick 29 (.t 13) (.t 28) (.c (.bool false))]) (.cond (.t 29) (.seq (.ops [.load 30 none (.t 3),.ah 31 (.t 5),.bin 32 .sub (.t 31) (.c (.int .i64 1)),.bG 33 2 (.t 30) (.t 32),.ay 34 (.t 33) 1,.load 35 none (.t 34),.bin 36 .add (.t 35) (.c (.int .i64 1)),.bG 37 2 (.t 30) (.t 32),.ay 38 (.t 37) 1,.store none 1 (.t 38) (.t 36)]) (.exit 1)) .skip))) (.ops [.load 39 none (.t 3),.ah 40 (.t 4),.build 41 [(.int .i64 0),(.int .i64 0)] [(0,1,(.t 40)),(1,1,(.c (.int .i64 1)))],.dW 42 2 [(.t 41)],.app 43 2 (.t 39) (.t 42),.store none 1 (.t 3) (.t 43)])))
def aci:dP:=⟨1,45,[.tmp 2],(.seq (.ops [.box 1 (.t 0),.ak 2 (.nil 2)]) (.seq (.ops [.alloc 3 [(.list 2 [])]]) (.seq (.seq (.ops [.load 6 (some 2) (.t 1),.call 7 219 [(.t 6),(.c (.int .i64 0))]]) (.block 0 (.rng (.t 7) [8] acg ach))) (.seq (.ops [.load 44 none (.t 3),.ak 2 (.t 44)]) .ret))))⟩
def acj:dP:=⟨1,39,[.tmp 2],(.seq (.ops [.box 1 (.t 0),.ak 2 (.c (.int .i64 0))]) (.seq (.seq (.oK [] [([0,1,2,3,4,5,6,7,8,9,10,11,12,13],14)] none [15,16] [.ay 4 (.t 1) 0,.load 5 none (.t 4),.bin 6 .lss (.t 5) (.c (.int .i64 0)),.ah 7 (.t 6),.grd 7 false (.ay 8 (.t 1) 0),.grd 7 false (.load 9 none (.t 8)),.grd 7 false (.bin 10 .gtr (.t 9) (.c (.int .i64 4096))),.pick 11 (.t 7) (.c (.bool true)) (.t 10),.ah 12 (.t 11),.grd 12 false (.ay 13 (.t 1) 1),.grd 12 false (.load 14 none (.t 13)),.grd 12 false (.len 15 (.t 14)),.grd 12 false (.ay 16 (.t 1) 0),.grd 12 false (.load 17 none (.t 16)),.grd 12 false (.call 18 222 [(.t 17)]),.grd 12 false (.bin 19 .neq (.t 15) (.t 18)),.pick 20 (.t 12) (.c (.bool true)) (.t 19)]) (.cond (.t 20) (.seq (.ops [.ak 2 (.c (.int .i64 3))]) .ret) .skip)) (.seq (.seq (.ops [.ay 21 (.t 1) 0,.load 22 none (.t 21),.bin 23 .rem (.t 22) (.c (.int .i64 64)),.ak 3 (.t 23)]) (.seq (.ops [.ah 24 (.t 3),.bin 25 .gtr (.t 24) (.c (.int .i64 0)),.ah 26 (.t 25),.grd 26 true (.ay 27 (.t 1) 1),.grd 26 true (.load 28 none (.t 27)),.grd 26 true (.ay 29 (.t 1) 1),.grd 26 true (.load 30 none (.t 29)),.grd 26 true (.len 31 (.t 30)),.grd 26 true (.bin 32 .sub (.t 31) (.c (.int .i64 1))),.grd 26 true (.bG 33 1 (.t 28) (.t 32)),.grd 26 true (.load 34 none (.t 33)),.grd 26 true (.ah 35 (.t 3)),.grd 26 true (.bin 36 .shr (.t 34) (.t 35)),.grd 26 true (.bin 37 .neq (.t 36) (.c (.int .u64 0))),.pick 38 (.t 26) (.t 37) (.c (.bool false))]) (.cond (.t 38) (.seq (.ops [.ak 2 (.c (.int .i64 3))]) .ret) .skip))) (.seq (.ops [.ak 2 (.c (.int .i64 0))]) .ret))))⟩
def Pz:dP:=⟨1,13,[.tmp 2],(.seq (.ops [.ak 2 (.c (.int .i64 0))]) (.seq (.seq (.ops [.ah 3 (.t 0),.len 4 (.t 3),.bin 5 .lss (.t 4) (.c (.int .i64 1)),.ah 6 (.t 5),.grd 6 false (.ah 7 (.t 0)),.grd 6 false (.len 8 (.t 7)),.grd 6 false (.bin 9 .gtr (.t 8) (.c (.int .i64 8))),.pick 10 (.t 6) (.c (.bool true)) (.t 9)]) (.cond (.t 10) (.seq (.ops [.ak 2 (.c (.int .i64 6))]) .ret) .skip)) (.seq (.seq (.ops [.ah 11 (.t 0),.call 12 223 [(.t 11),(.c (.func 227 []))]]) (.cond (.t 12) (.seq (.ops [.ak 2 (.c (.int .i64 2))]) .ret) .skip)) (.seq (.ops [.ak 2 (.c (.int .i64 0))]) .ret))))⟩
def PD:dP:=⟨1,5,[.tmp 2],(.seq (.ops [.ak 2 (.nil 1)]) (.seq (.ops [.ah 3 (.t 0),.call 4 228 [(.t 3),(.c (.func 229 []))],.ak 2 (.t 4)]) .ret))⟩
def acn:dP:=⟨1,16,[.cell 2 (some 2),.tmp 3],(.seq (.ops [.alloc 2 [(.int .i64 0),(.list 1 [])],.ak 3 (.c (.int .i64 0))]) (.seq (.seq (.ops [.ah 4 (.t 0),.bin 5 .lss (.t 4) (.c (.int .i64 0)),.ah 6 (.t 5),.grd 6 false (.ah 7 (.t 0)),.grd 6 false (.bin 8 .gtr (.t 7) (.c (.int .i64 4096))),.pick 9 (.t 6) (.c (.bool true)) (.t 8)]) (.cond (.t 9) (.seq (.ops [.build 10 [(.int .i64 0),(.list 1 [])] [],.store none 2 (.t 2) (.t 10),.ak 3 (.c (.int .i64 2))]) .ret) .skip)) (.seq (.ops [.ah 11 (.t 0),.ah 12 (.t 0),.call 13 222 [(.t 12)],.make 14 (.int .u64 0) (.t 13) (.t 13),.build 15 [(.int .i64 0),(.list 1 [])] [(0,1,(.t 11)),(1,1,(.t 14))],.store none 2 (.t 2) (.t 15),.ak 3 (.c (.int .i64 0))]) .ret)))⟩
def aco:dP:=⟨2,12,[.cell 4 (some 2),.tmp 5],(.seq (.ops [.box 2 (.t 0),.box 3 (.t 1),.alloc 4 [(.int .i64 0),(.list 1 [])],.ak 5 (.c (.int .i64 0))]) (.seq (.ops [.build 6 [.pO] [(0,1,(.c (.func 233 [])))],.load 7 (some 2) (.t 2),.load 8 (some 2) (.t 3),.call 9 234 [(.t 6),(.t 7),(.t 8)],.ext 10 (.t 9) 0,.ext 11 (.t 9) 1,.store none 2 (.t 4) (.t 10),.ak 5 (.t 11)]) .ret))⟩
def acp:dP:=⟨2,19,[.tmp 4],(.seq (.ops [.ak 4 (.c (.bool false))]) (.seq (.ops [.ah 5 (.t 0),.bin 6 .geq (.t 5) (.c (.int .i64 1)),.ah 7 (.t 6),.grd 7 true (.ah 8 (.t 0)),.grd 7 true (.bin 9 .leq (.t 8) (.c (.int .i64 4096))),.pick 10 (.t 7) (.t 9) (.c (.bool false)),.ah 11 (.t 10),.grd 11 true (.ah 12 (.t 1)),.grd 11 true (.bin 13 .geq (.t 12) (.c (.int .i64 1))),.pick 14 (.t 11) (.t 13) (.c (.bool false)),.ah 15 (.t 14),.grd 15 true (.ah 16 (.t 1)),.grd 15 true (.bin 17 .leq (.t 16) (.c (.int .i64 4096))),.pick 18 (.t 15) (.t 17) (.c (.bool false)),.ak 4 (.t 18)]) .ret))⟩
def acr:dP:=⟨2,11,[.tmp 4],(.seq (.ops [.ak 4 (.c (.int .i64 0))]) (.seq (.ops [.ah 5 (.t 0),.ah 6 (.t 1),.bin 7 .add (.t 5) (.t 6),.bin 8 .sub (.t 7) (.c (.int .i64 1)),.ah 9 (.t 1),.bin 10 .quo (.t 8) (.t 9),.ak 4 (.t 10)]) .ret))⟩
def acs:aj:=(.ops [.ak 12 (.t 37)])
def acu:aj:=(.block 1 (.seq (.oK [] [([0,1,2,3,4,5,6,7,8],9)] (some ([10,11,13],[12],14,[([],15)])) [] [.ay 39 (.t 3) 2,.load 40 none (.t 39),.ah 41 (.t 12),.load 42 none (.t 5),.ay 43 (.t 3) 2,.load 44 none (.t 43),.ah 45 (.t 12),.bG 46 1 (.t 44) (.t 45),.load 47 none (.t 46),.kK 48 (.t 42) [(.t 47)],.ah 38 (.t 48),.ext 49 (.t 38) 0,.bG 51 1 (.t 40) (.t 41),.ext 50 (.t 38) 1,.store none 1 (.t 51) (.t 49),.store none 1 (.t 11) (.t 50)]) (.seq (.ops [.load 52 none (.t 11),.bin 53 .neq (.t 52) (.c (.int .i64 0))]) (.cond (.t 53) (.seq (.oK [(.t 11)] [] (some ([0],[2,1],3,[([],4),([],5)])) [] [.build 54 [(.int .i64 0),(.int .i64 0),(.list 1 []),(.int .i64 0),(.list 1 [])] [],.Nr 56 none (.t 11),.build 55 [(.int .i64 0),(.int .i64 0)] [],.store none 5 (.t 6) (.t 54),.store none 2 (.t 7) (.t 55),.store none 1 (.t 8) (.t 56)]) .ret) .skip))))
def acv:dP:=⟨3,59,[.cell 6 (some 5),.cell 7 (some 2),.cell 8 none],(.seq (.ops [.box 3 (.t 0),.box 4 (.t 1),.box 5 (.t 2),.alloc 6 [(.int .i64 0),(.int .i64 0),(.list 1 []),(.int .i64 0),(.list 1 [])],.alloc 7 [(.int .i64 0),(.int .i64 0)],.alloc 8 [(.int .i64 0)]]) (.seq (.seq (.ops [.load 13 (some 5) (.t 3),.call 14 181 [(.t 13)],.ak 9 (.t 14)]) (.seq (.ops [.ah 15 (.t 9),.bin 16 .neq (.t 15) (.c (.int .i64 0))]) (.cond (.t 16) (.seq (.ops [.build 17 [(.int .i64 0),(.int .i64 0),(.list 1 []),(.int .i64 0),(.list 1 [])] [],.build 18 [(.int .i64 0),(.int .i64 0)] [],.ah 19 (.t 9),.store none 5 (.t 6) (.t 17),.store none 2 (.t 7) (.t 18),.store none 1 (.t 8) (.t 19)]) .ret) .skip))) (.seq (.ops [.load 21 (some 5) (.t 3),.load 22 (some 2) (.t 4),.call 23 235 [(.t 21),(.t 22)],.ah 20 (.t 23),.ext 24 (.t 20) 0,.ext 25 (.t 20) 1,.alloc 10 [(.int .i64 0),(.int .i64 0)],.alloc 11 [(.int .i64 0)],.store none 2 (.t 10) (.t 24),.store none 1 (.t 11) (.t 25)]) (.seq (.seq (.ops [.load 26 none (.t 11),.bin 27 .neq (.t 26) (.c (.int .i64 0))]) (.cond (.t 27) (.seq (.oK [(.t 11)] [] (some ([0],[2,1],3,[([],4),([],5)])) [] [.build 28 [(.int .i64 0),(.int .i64 0),(.list 1 []),(.int .i64 0),(.list 1 [])] [],.Nr 30 none (.t 11),.build 29 [(.int .i64 0),(.int .i64 0)] [],.store none 5 (.t 6) (.t 28),.store none 2 (.t 7) (.t 29),.store none 1 (.t 8) (.t 30)]) .ret) .skip)) (.seq (.ops [.ay 31 (.t 3) 2,.load 32 none (.t 31),.call 33 107 [(.t 32)],.ay 34 (.t 3) 2,.store none 1 (.t 34) (.t 33)]) (.seq (.seq (.ops [.load 35 (some 2) (.t 10),.call 36 176 [(.t 35)]]) (.block 0 (.rng (.t 36) [37] acs acu))) (.seq (.oK [(.t 10)] [] (some ([0],[1],2,[([],3),([],4)])) [] [.load 57 (some 5) (.t 3),.Nr 58 (some 2) (.t 10),.store none 5 (.t 6) (.t 57),.store none 2 (.t 7) (.t 58),.store none 1 (.t 8) (.c (.int .i64 0))]) .ret)))))))⟩
def acw:dP:=⟨1,8,[.tmp 2,.tmp 3],(.seq (.ops [.ak 2 (.c (.int .i64 0)),.ak 3 (.c (.int .i64 0))]) (.seq (.seq (.ops [.ah 4 (.t 0),.bin 5 .eql (.t 4) (.c (.int .i64 4096))]) (.cond (.t 5) (.seq (.ops [.ak 2 (.c (.int .i64 0)),.ak 3 (.c (.int .i64 6))]) .ret) .skip)) (.seq (.ops [.ah 6 (.t 0),.bin 7 .add (.t 6) (.c (.int .i64 1)),.ak 2 (.t 7),.ak 3 (.c (.int .i64 0))]) .ret)))⟩
def acy:dP:=⟨1,4,[.tmp 2],(.seq (.ops [.box 1 (.t 0),.ak 2 (.c .pO)]) (.seq (.ops [.I5 3 236 [(.t 1)],.ak 2 (.t 3)]) .ret))⟩
def acz:dP:=⟨2,31,[.tmp 4],(.seq (.ops [.box 2 (.t 0),.ak 4 (.c (.bool false))]) (.seq (.ops [.load 5 (some 2) (.t 2),.call 6 161 [(.t 5)],.bin 7 .eql (.t 6) (.c (.int .i64 0)),.ah 8 (.t 7),.grd 8 true (.ah 9 (.t 1)),.grd 8 true (.bin 10 .geq (.t 9) (.c (.int .i64 0))),.pick 11 (.t 8) (.t 10) (.c (.bool false)),.ah 12 (.t 11),.grd 12 true (.ah 13 (.t 1)),.grd 12 true (.ay 14 (.t 2) 0),.grd 12 true (.load 15 none (.t 14)),.grd 12 true (.bin 16 .lss (.t 13) (.t 15)),.pick 17 (.t 12) (.t 16) (.c (.bool false)),.ah 18 (.t 17),.grd 18 true (.ay 19 (.t 2) 1),.grd 18 true (.load 20 none (.t 19)),.grd 18 true (.ah 21 (.t 1)),.grd 18 true (.bin 22 .quo (.t 21) (.c (.int .i64 64))),.grd 18 true (.bG 23 1 (.t 20) (.t 22)),.grd 18 true (.load 24 none (.t 23)),.grd 18 true (.ah 25 (.t 1)),.grd 18 true (.bin 26 .rem (.t 25) (.c (.int .i64 64))),.grd 18 true (.bin 27 .shr (.t 24) (.t 26)),.grd 18 true (.bin 28 .and (.t 27) (.c (.int .u64 1))),.grd 18 true (.bin 29 .eql (.t 28) (.c (.int .u64 1))),.pick 30 (.t 18) (.t 29) (.c (.bool false)),.ak 4 (.t 30)]) .ret))⟩
def acA:dP:=⟨1,10,[.tmp 2,.tmp 3,.tmp 4],(.seq (.ops [.ak 2 (.c (.int .i64 0)),.ak 3 (.nil 1),.ak 4 (.c (.int .i64 0))]) (.seq (.ops [.ah 5 (.t 0),.call 6 237 [(.t 5),(.c (.func 238 []))],.ext 7 (.t 6) 0,.ext 8 (.t 6) 1,.ext 9 (.t 6) 2,.ak 2 (.t 7),.ak 3 (.t 8),.ak 4 (.t 9)]) .ret))⟩
def acB:dP:=⟨1,10,[.tmp 2,.tmp 3,.tmp 4],(.seq (.ops [.ak 2 (.nil 2),.ak 3 (.nil 1),.ak 4 (.c (.int .i64 0))]) (.seq (.ops [.ah 5 (.t 0),.call 6 239 [(.t 5),(.c (.func 240 []))],.ext 7 (.t 6) 0,.ext 8 (.t 6) 1,.ext 9 (.t 6) 2,.ak 2 (.t 7),.ak 3 (.t 8),.ak 4 (.t 9)]) .ret))⟩
def PE:dP:=⟨2,9,[.tmp 4],(.seq (.ops [.ak 4 (.nil 2)]) (.seq (.ops [.ah 5 (.t 0),.ah 6 (.t 1),.call 7 214 [(.t 5),(.t 6),(.c (.func 243 []))],.call 8 213 [(.t 7)],.ak 4 (.t 8)]) .ret))⟩
def acC:aj:=(.seq (.ops [.bin 41 .lss (.t 40) (.t 39)]) (.seq (.cond (.t 41) .skip (.exit 0)) (.seq (.block 1 (.seq (.ops [.ah 42 (.t 40),.bG 43 1 (.t 38) (.t 40),.load 44 none (.t 43),.ak 3 (.t 42),.ak 4 (.t 44)]) (.seq (.ops [.ah 45 (.t 4),.bin 46 .lss (.t 45) (.c (.int .i64 0)),.ah 47 (.t 46),.grd 47 false (.ah 48 (.t 4)),.grd 47 false (.bin 49 .gtr (.t 48) (.c (.int .i64 4096))),.pick 50 (.t 47) (.c (.bool true)) (.t 49),.ah 51 (.t 50),.grd 51 false (.ah 52 (.t 4)),.grd 51 false (.bin 53 .gtr (.t 52) (.c (.int .i64 0))),.grd 51 false (.ah 54 (.t 53)),.grd 54 true (.ay 55 (.t 1) 3),.grd 54 true (.load 56 (some 2) (.t 55)),.grd 54 true (.ah 57 (.t 3)),.grd 54 true (.call 58 177 [(.t 56),(.t 57)]),.grd 54 true (.un 59 .not (.t 58)),.grd 51 false (.pick 60 (.t 54) (.t 59) (.c (.bool false))),.pick 61 (.t 51) (.c (.bool true)) (.t 60)]) (.cond (.t 61) (.seq (.ops [.ak 2 (.c (.int .i64 3))]) .ret) .skip)))) (.ops [.bin 62 .add (.t 40) (.c (.int .i64 1)),.ah 40 (.t 62)]))))
def acD:aj :=
(.clean [1,38,39,40] [2] (.block 0 (.loop [1,38,39,40] acC)))
def acE:dP:=⟨1,63,[.tmp 2],(.seq (.ops [.box 1 (.t 0),.ak 2 (.c (.int .i64 0))]) (.seq (.seq (.oK [] [([0,1,2,3],4),([5,6,7,8,9,10,11,12,13],14),([15,16,17,18,19],20)] none [21,22,23,24,25,26,27,28,29,30,31] [.ay 5 (.t 1) 0,.load 6 none (.t 5),.ay 7 (.t 1) 1,.load 8 none (.t 7),.call 9 172 [(.t 6),(.t 8)],.un 10 .not (.t 9),.ah 11 (.t 10),.grd 11 false (.ay 12 (.t 1) 2),.grd 11 false (.load 13 none (.t 12)),.grd 11 false (.len 14 (.t 13)),.grd 11 false (.ay 15 (.t 1) 0),.grd 11 false (.load 16 none (.t 15)),.grd 11 false (.ay 17 (.t 1) 1),.grd 11 false (.load 18 none (.t 17)),.grd 11 false (.call 19 173 [(.t 16),(.t 18)]),.grd 11 false (.bin 20 .neq (.t 14) (.t 19)),.pick 21 (.t 11) (.c (.bool true)) (.t 20),.ah 22 (.t 21),.grd 22 false (.ay 23 (.t 1) 3),.grd 22 false (.load 24 (some 2) (.t 23)),.grd 22 false (.call 25 161 [(.t 24)]),.grd 22 false (.bin 26 .neq (.t 25) (.c (.int .i64 0))),.pick 27 (.t 22) (.c (.bool true)) (.t 26),.ah 28 (.t 27),.grd 28 false (.ay 29 (.t 1) 3),.grd 28 false (.ay 30 (.t 29) 0),.grd 28 false (.load 31 none (.t 30)),.grd 28 false (.ay 32 (.t 1) 2),.grd 28 false (.load 33 none (.t 32)),.grd 28 false (.len 34 (.t 33)),.grd 28 false (.bin 35 .neq (.t 31) (.t 34)),.pick 36 (.t 28) (.c (.bool true)) (.t 35)]) (.cond (.t 36) (.seq (.ops [.ak 2 (.c (.int .i64 3))]) .ret) .skip)) (.seq (.seq (.ops [.ay 37 (.t 1) 2,.load 38 none (.t 37),.len 39 (.t 38),.ah 40 (.c (.int .i64 0))])
   acD) (.seq (.ops [.ak 2 (.c (.int .i64 0))]) .ret))))⟩
def acF:dP:=⟨2,9,[.tmp 4],(.seq (.ops [.ak 4 (.nil 1)]) (.seq (.ops [.ah 5 (.t 0),.call 6 245 [(.t 5)],.ah 7 (.t 1),.lin 8 244 (.t 6) [(.t 7)],.ak 4 (.t 8)]) .ret))⟩
def acG:dP:=⟨2,9,[.tmp 4],(.seq (.ops [.ak 4 (.nil 1)]) (.seq (.ops [.ah 5 (.t 0),.call 6 245 [(.t 5)],.ah 7 (.t 1),.lin 8 246 (.t 6) [(.t 7),(.c (.func 247 []))],.ak 4 (.t 8)]) .ret))⟩
def zL:aj:=(.seq (.seq (.ops [.ah 6 (.t 4),.load 7 none (.t 1),.len 8 (.t 7),.bin 9 .lss (.t 6) (.t 8)]) (.cond (.t 9) .skip (.exit 0))) (.seq (.block 1 (.seq (.oK [] [] none [0,1,2,3,4,5,6] [.load 13 none (.t 2),.load 14 none (.t 1),.ah 15 (.t 4),.I4 16 8 (.t 14) (some (.t 15)) none,.len 17 (.t 16),.mn 18 false (.t 13) (.t 17),.ak 5 (.t 18)]) (.seq (.ops [.ah 19 (.t 0),.load 20 none (.t 1),.ah 21 (.t 4),.ah 22 (.t 4),.ah 23 (.t 5),.bin 24 .add (.t 22) (.t 23),.ah 25 (.t 4),.ah 26 (.t 5),.bin 27 .add (.t 25) (.t 26),.sl4 28 8 (.t 20) (.t 21) (.t 24) (.t 27),.yield 29 (.t 19) [(.t 28)],.un 30 .not (.t 29)]) (.cond (.t 30) .ret .skip)))) (.ops [.ah 10 (.t 4),.load 11 none (.t 2),.bin 12 .add (.t 10) (.t 11),.ak 4 (.t 12)])))
def Fb:aj :=
(.clean [0,1,2,4] [] (.block 0 (.loop [0,1,2,4] zL)))
def PG:dP:=⟨3,31,[],(.seq (.ops [.ak 4 (.c (.int .i64 0))])
 Fb)⟩
def PI:aj:=(.ops [.ak 4 (.t 6)])
def PK:aj:=(.block 1 (.ops [.load 7 none (.t 3),.ah 8 (.t 4),.conv 9 .u64 (.t 8),.bin 10 .xor (.t 7) (.t 9),.bin 11 .mul (.t 10) (.c (.int .u64 1099511628211)),.store none 1 (.t 3) (.t 11)]))
def PL:dP:=⟨1,16,[.tmp 2],(.seq (.ops [.ak 2 (.c (.int .u64 0))]) (.seq (.ops [.alloc 3 [(.int .u64 0)],.store none 1 (.t 3) (.c (.int .u64 14695981039346656037))]) (.seq (.seq (.ops [.ah 5 (.t 0)]) (.block 0 (.rng (.t 5) [6] PI PK))) (.seq (.ops [.load 12 none (.t 3),.load 13 none (.t 3),.bin 14 .shr (.t 13) (.c (.int .u64 32)),.bin 15 .xor (.t 12) (.t 14),.ak 2 (.t 15)]) .ret))))⟩
def Fe:aj:=(.seq (.ops [.bin 15 .lss (.t 14) (.c (.int .i64 8))]) (.seq (.cond (.t 15) .skip (.exit 2)) (.seq (.block 3 (.seq (.ops [.idx 16 (.t 13) (.t 14) 8 1 none,.ak 6 (.t 16)]) (.seq (.ops [.ah 17 (.t 0),.ah 18 (.t 6),.yield 19 (.t 17) [(.t 18)],.un 20 .not (.t 19)]) (.cond (.t 20) .ret .skip)))) (.ops [.bin 21 .add (.t 14) (.c (.int .i64 1)),.ah 14 (.t 21)]))))
def Fg:aj :=
(.clean [0,7,8,9,13,14] [0,7,8,9] (.block 2 (.loop [0,7,8,9,13,14] Fe)))
def Fh:aj:=(.seq (.ops [.bin 10 .lss (.t 9) (.t 8)]) (.seq (.cond (.t 10) .skip (.exit 0)) (.seq (.block 1 (.seq (.ops [.bG 11 8 (.t 7) (.t 9),.load 12 (some 8) (.t 11),.alloc 4 [(.int .u8 0),(.int .u8 0),(.int .u8 0),(.int .u8 0),(.int .u8 0),(.int .u8 0),(.int .u8 0),(.int .u8 0)],.store none 8 (.t 4) (.t 12)]) (.seq (.ops [.load 13 (some 8) (.t 4),.ah 14 (.c (.int .i64 0))])
    Fg))) (.ops [.bin 22 .add (.t 9) (.c (.int .i64 1)),.ah 9 (.t 22)]))))
def Fj:aj :=
(.clean [0,7,8,9] [] (.block 0 (.loop [0,7,8,9] Fh)))
def PN:dP:=⟨2,23,[],(.seq (.ops [.load 7 none (.t 1),.len 8 (.t 7),.ah 9 (.c (.int .i64 0))])
 Fj)⟩
def zM:aj:=(.seq (.seq (.ops [.ah 7 (.t 6),.ah 8 (.t 0),.len 9 (.t 8),.bin 10 .lss (.t 7) (.t 9)]) (.cond (.t 10) .skip (.exit 0))) (.seq (.block 1 (.seq (.ops [.ah 13 (.t 6),.bin 14 .add (.t 13) (.c (.int .i64 1)),.ah 15 (.t 0),.len 16 (.t 15),.bin 17 .lss (.t 14) (.t 16)]) (.cond (.t 17) (.oK [] [([0,1,2,3,4,5,6,7,8,9,10],11),([],12)] (some ([],[],13,[])) [14] [.ah 18 (.t 5),.ah 19 (.t 1),.ah 20 (.t 0),.ah 21 (.t 6),.bG 22 1 (.t 20) (.t 21),.load 23 none (.t 22),.ah 24 (.t 0),.ah 25 (.t 6),.bin 26 .add (.t 25) (.c (.int .i64 1)),.bG 27 1 (.t 24) (.t 26),.load 28 none (.t 27),.kK 29 (.t 19) [(.t 23),(.t 28)],.dW 30 1 [(.t 29)],.app 31 1 (.t 18) (.t 30),.ak 5 (.t 31)]) (.ops [.ah 32 (.t 5),.ah 33 (.t 0),.ah 34 (.t 6),.bG 35 1 (.t 33) (.t 34),.load 36 none (.t 35),.dW 37 1 [(.t 36)],.app 38 1 (.t 32) (.t 37),.ak 5 (.t 38)])))) (.ops [.ah 11 (.t 6),.bin 12 .add (.t 11) (.c (.int .i64 2)),.ak 6 (.t 12)])))
def Fp:aj :=
(.clean [0,1,5,6,31,38] [4,5] (.block 0 (.loop [0,1,5,6,31,38] zM)))
def PO:dP:=⟨2,40,[.tmp 4],(.seq (.ops [.ak 4 (.nil 1)]) (.seq (.ops [.ak 5 (.nil 1)]) (.seq (.seq (.ops [.ak 6 (.c (.int .i64 0))])
   Fp) (.seq (.ops [.ah 39 (.t 5),.ak 4 (.t 39)]) .ret))))⟩
def Fq:aj:=(.seq (.ops [.bin 8 .lss (.t 7) (.c (.int .i64 8))]) (.seq (.cond (.t 8) .skip (.exit 0)) (.seq (.block 1 (.seq (.ops [.ah 9 (.t 7),.ak 6 (.t 9)]) (.oK [] [] (some ([0,3,4,5,6,7,13],[1,2,8,9,10,11,12],14,[([15],16)])) [] [.ah 10 (.t 6),.ah 13 (.t 0),.ah 14 (.t 6),.bin 15 .mul (.c (.int .i64 8)) (.t 14),.bin 16 .shr (.t 13) (.t 15),.conv 17 .u8 (.t 16),.tu 23 (.t 5) (.t 10) 16 1,.ah 11 (.t 6),.bin 12 .add (.c (.int .i64 8)) (.t 11),.ah 18 (.t 1),.ah 19 (.t 6),.bin 20 .mul (.c (.int .i64 8)) (.t 19),.bin 21 .shr (.t 18) (.t 20),.conv 22 .u8 (.t 21),.store none 1 (.t 23) (.t 17),.tu 24 (.t 5) (.t 12) 16 1,.store none 1 (.t 24) (.t 22)]))) (.ops [.bin 25 .add (.t 7) (.c (.int .i64 1)),.ah 7 (.t 25)]))))
def Fv:aj :=
(.clean [0,1,5,7] [4,5] (.block 0 (.loop [0,1,5,7] Fq)))
def PS:dP:=⟨2,28,[.tmp 4],(.seq (.ops [.ak 4 (.c (.int .u64 0))]) (.seq (.ops [.alloc 5 [(.int .u8 0),(.int .u8 0),(.int .u8 0),(.int .u8 0),(.int .u8 0),(.int .u8 0),(.int .u8 0),(.int .u8 0),(.int .u8 0),(.int .u8 0),(.int .u8 0),(.int .u8 0),(.int .u8 0),(.int .u8 0),(.int .u8 0),(.int .u8 0)]]) (.seq (.seq (.ops [.ah 7 (.c (.int .i64 0))])
   Fv) (.seq (.ops [.ZU 26 16 (.t 5),.call 27 248 [(.t 26)],.ak 4 (.t 27)]) .ret))))⟩
def PU:dP:=⟨2,11,[.tmp 4],(.seq (.ops [.ak 4 (.c (.int .i64 0))]) (.seq (.ops [.ah 5 (.t 0),.ah 6 (.t 1),.bin 7 .add (.t 5) (.t 6),.bin 8 .sub (.t 7) (.c (.int .i64 1)),.ah 9 (.t 1),.bin 10 .quo (.t 8) (.t 9),.ak 4 (.t 10)]) .ret))⟩
def Fz:aj:=(.seq (.ops [.bin 18 .lss (.t 17) (.t 16)]) (.seq (.cond (.t 18) .skip (.exit 0)) (.seq (.block 1 (.seq (.ops [.ah 19 (.t 17),.bG 20 1 (.t 15) (.t 17),.load 21 none (.t 20),.ak 7 (.t 19),.ak 8 (.t 21)]) (.seq (.ops [.ah 22 (.t 1),.ah 23 (.t 7),.bG 24 1 (.t 22) (.t 23),.load 25 none (.t 24),.ak 9 (.t 25)]) (.seq (.ops [.ah 26 (.t 2),.ah 27 (.t 8),.ah 28 (.t 9),.kK 29 (.t 26) [(.t 27),(.t 28)],.un 30 .not (.t 29)]) (.cond (.t 30) (.seq (.ops [.ak 6 (.c (.bool false))]) .ret) .skip))))) (.ops [.bin 31 .add (.t 17) (.c (.int .i64 1)),.ah 17 (.t 31)]))))
def FB:aj :=
(.clean [0,1,2,15,16,17] [6] (.block 0 (.loop [0,1,2,15,16,17] Fz)))
def PW:dP:=⟨3,32,[.tmp 6],(.seq (.ops [.ak 6 (.c (.bool false))]) (.seq (.seq (.ops [.ah 10 (.t 0),.len 11 (.t 10),.ah 12 (.t 1),.len 13 (.t 12),.bin 14 .neq (.t 11) (.t 13)]) (.cond (.t 14) (.seq (.ops [.ak 6 (.c (.bool false))]) .ret) .skip)) (.seq (.seq (.ops [.ah 15 (.t 0),.len 16 (.t 15),.ah 17 (.c (.int .i64 0))])
   FB) (.seq (.ops [.ak 6 (.c (.bool true))]) .ret))))⟩
def FC:aj:=(.seq (.ops [.bin 14 .lss (.t 13) (.t 12)]) (.seq (.cond (.t 14) .skip (.exit 0)) (.seq (.block 1 (.seq (.ops [.ah 15 (.t 13),.ak 5 (.t 15)]) (.seq (.oK [] [] none [0,1,2,3,4,5,6,7,8] [.ah 16 (.t 0),.ah 17 (.t 5),.bG 18 1 (.t 16) (.t 17),.load 19 none (.t 18),.ah 20 (.t 1),.ah 21 (.t 5),.bG 22 1 (.t 20) (.t 21),.load 23 none (.t 22),.bin 24 .neq (.t 19) (.t 23)]) (.cond (.t 24) (.seq (.ops [.ak 4 (.c (.bool false))]) .ret) .skip)))) (.ops [.bin 25 .add (.t 13) (.c (.int .i64 1)),.ah 13 (.t 25)]))))
def FD:aj :=
(.clean [0,1,12,13] [4] (.block 0 (.loop [0,1,12,13] FC)))
def PX:dP:=⟨2,26,[.tmp 4],(.seq (.ops [.ak 4 (.c (.bool false))]) (.seq (.seq (.ops [.ah 6 (.t 0),.len 7 (.t 6),.ah 8 (.t 1),.len 9 (.t 8),.bin 10 .neq (.t 7) (.t 9)]) (.cond (.t 10) (.seq (.ops [.ak 4 (.c (.bool false))]) .ret) .skip)) (.seq (.seq (.ops [.ah 11 (.t 0),.len 12 (.t 11),.ah 13 (.c (.int .i64 0))])
   FD) (.seq (.ops [.ak 4 (.c (.bool true))]) .ret))))⟩
def FH:aj:=(.seq (.ops [.bin 14 .lss (.t 13) (.t 12)]) (.seq (.cond (.t 14) .skip (.exit 0)) (.seq (.block 1 (.seq (.ops [.ah 15 (.t 13),.ak 5 (.t 15)]) (.seq (.oK [] [] none [0,1,2,3,4,5,6,7,8] [.ah 16 (.t 0),.ah 17 (.t 5),.bG 18 1 (.t 16) (.t 17),.load 19 none (.t 18),.ah 20 (.t 1),.ah 21 (.t 5),.bG 22 1 (.t 20) (.t 21),.load 23 none (.t 22),.bin 24 .neq (.t 19) (.t 23)]) (.cond (.t 24) (.seq (.ops [.ak 4 (.c (.bool false))]) .ret) .skip)))) (.ops [.bin 25 .add (.t 13) (.c (.int .i64 1)),.ah 13 (.t 25)]))))
def FI:aj :=
(.clean [0,1,12,13] [4] (.block 0 (.loop [0,1,12,13] FH)))
def PY:dP:=⟨2,26,[.tmp 4],(.seq (.ops [.ak 4 (.c (.bool false))]) (.seq (.seq (.ops [.ah 6 (.t 0),.len 7 (.t 6),.ah 8 (.t 1),.len 9 (.t 8),.bin 10 .neq (.t 7) (.t 9)]) (.cond (.t 10) (.seq (.ops [.ak 4 (.c (.bool false))]) .ret) .skip)) (.seq (.seq (.ops [.ah 11 (.t 0),.len 12 (.t 11),.ah 13 (.c (.int .i64 0))])
   FI) (.seq (.ops [.ak 4 (.c (.bool true))]) .ret))))⟩
def JH:dP:=⟨1,16,[.tmp 2],(.seq (.ops [.ak 2 (.nil 1)]) (.seq (.drs [] [2,15] [.ah 3 (.t 0),.ay 4 (.t 3) 0,.ay 5 (.t 4) 0,.ay 6 (.t 5) 0,.ay 7 (.t 6) 2,.load 8 none (.t 7),.ah 9 (.t 0),.ay 10 (.t 9) 0,.ay 11 (.t 10) 0,.ay 12 (.t 11) 4,.load 13 none (.t 12),.bG 14 1 (.t 8) (.t 13),.load 15 none (.t 14),.ak 2 (.t 15)]
  [⟨[([0,6],1),([2,3,4,5],7)],none,[8,9,10,11,12,13],[0,6,1,2,3,4,5,7,8,9,10,11,12,13],false⟩,⟨[([0,6],7),([8,9,10],1)],none,[2,3,4,5,11,12,13],[0,6,7,8,9,10,1,2,3,4,5,11,12,13],false⟩]) .ret))⟩
def FK:dP:=⟨2,42,[.tmp 4],(.seq (.ops [.ak 4 (.nil 2)]) (.seq (.seq (.ops [.ah 6 (.t 0),.len 7 (.t 6),.ak 5 (.t 7)]) (.seq (.oK [] [] none [0,1,2,3,4,5,6,7,8,9,10,11,12,13,14,15,16,17,18] [.ah 8 (.t 5),.bin 9 .gtr (.t 8) (.c (.int .i64 0)),.ah 10 (.t 9),.grd 10 true (.ah 11 (.t 0)),.grd 10 true (.ah 12 (.t 5)),.grd 10 true (.bin 13 .sub (.t 12) (.c (.int .i64 1))),.grd 10 true (.bG 14 2 (.t 11) (.t 13)),.grd 10 true (.ay 15 (.t 14) 0),.grd 10 true (.load 16 none (.t 15)),.grd 10 true (.ah 17 (.t 0)),.grd 10 true (.ah 18 (.t 5)),.grd 10 true (.bin 19 .sub (.t 18) (.c (.int .i64 1))),.grd 10 true (.bG 20 2 (.t 17) (.t 19)),.grd 10 true (.ay 21 (.t 20) 1),.grd 10 true (.load 22 none (.t 21)),.grd 10 true (.bin 23 .add (.t 16) (.t 22)),.grd 10 true (.ah 24 (.t 1)),.grd 10 true (.bin 25 .eql (.t 23) (.t 24)),.pick 26 (.t 10) (.t 25) (.c (.bool false))]) (.cond (.t 26) (.seq (.ops [.ah 27 (.t 0),.ah 28 (.t 5),.bin 29 .sub (.t 28) (.c (.int .i64 1)),.bG 30 2 (.t 27) (.t 29),.ay 31 (.t 30) 1,.load 32 none (.t 31),.bin 33 .add (.t 32) (.c (.int .i64 1)),.bG 34 2 (.t 27) (.t 29),.ay 35 (.t 34) 1,.store none 1 (.t 35) (.t 33)]) (.seq (.ops [.ah 36 (.t 0),.ak 4 (.t 36)]) .ret)) .skip))) (.seq (.ops [.ah 37 (.t 0),.ah 38 (.t 1),.build 39 [(.int .i64 0),(.int .i64 0)] [(0,1,(.t 38)),(1,1,(.c (.int .i64 1)))],.dW 40 2 [(.t 39)],.app 41 2 (.t 37) (.t 40),.ak 4 (.t 41)]) .ret)))⟩
def zN:aj:=(.seq (.seq (.ops [.ah 6 (.t 4),.load 7 none (.t 1),.len 8 (.t 7),.bin 9 .lss (.t 6) (.t 8)]) (.cond (.t 9) .skip (.exit 0))) (.seq (.block 1 (.seq (.oK [] [] none [0,1,2,3,4,5,6] [.load 13 none (.t 2),.load 14 none (.t 1),.ah 15 (.t 4),.I4 16 1 (.t 14) (some (.t 15)) none,.len 17 (.t 16),.mn 18 false (.t 13) (.t 17),.ak 5 (.t 18)]) (.seq (.ops [.ah 19 (.t 0),.load 20 none (.t 1),.ah 21 (.t 4),.ah 22 (.t 4),.ah 23 (.t 5),.bin 24 .add (.t 22) (.t 23),.ah 25 (.t 4),.ah 26 (.t 5),.bin 27 .add (.t 25) (.t 26),.sl4 28 1 (.t 20) (.t 21) (.t 24) (.t 27),.yield 29 (.t 19) [(.t 28)],.un 30 .not (.t 29)]) (.cond (.t 30) .ret .skip)))) (.ops [.ah 10 (.t 4),.load 11 none (.t 2),.bin 12 .add (.t 10) (.t 11),.ak 4 (.t 12)])))
def FM:aj :=
(.clean [0,1,2,4] [] (.block 0 (.loop [0,1,2,4] zN)))
def PZ:dP:=⟨3,31,[],(.seq (.ops [.ak 4 (.c (.int .i64 0))])
 FM)⟩
def FN:aj:=(.seq (.ops [.bin 15 .lss (.t 14) (.t 13)]) (.seq (.cond (.t 15) .skip (.exit 2)) (.seq (.block 3 (.seq (.ops [.ah 16 (.t 14),.ak 5 (.t 16)]) (.seq (.ops [.ah 17 (.t 0),.ay 18 (.t 4) 0,.load 19 none (.t 18),.ah 20 (.t 5),.bin 21 .add (.t 19) (.t 20),.yield 22 (.t 17) [(.t 21)],.un 23 .not (.t 22)]) (.cond (.t 23) .ret .skip)))) (.ops [.bin 24 .add (.t 14) (.c (.int .i64 1)),.ah 14 (.t 24)]))))
def FP:aj :=
(.clean [0,4,6,7,8,13,14] [0,6,7,8] (.block 2 (.loop [0,4,6,7,8,13,14] FN)))
def FQ:aj:=(.seq (.ops [.bin 9 .lss (.t 8) (.t 7)]) (.seq (.cond (.t 9) .skip (.exit 0)) (.seq (.block 1 (.seq (.ops [.bG 10 2 (.t 6) (.t 8),.load 11 (some 2) (.t 10),.alloc 4 [(.int .i64 0),(.int .i64 0)],.store none 2 (.t 4) (.t 11)]) (.seq (.ops [.ay 12 (.t 4) 1,.load 13 none (.t 12),.ah 14 (.c (.int .i64 0))])
    FP))) (.ops [.bin 25 .add (.t 8) (.c (.int .i64 1)),.ah 8 (.t 25)]))))
def FT:aj :=
(.clean [0,6,7,8] [] (.block 0 (.loop [0,6,7,8] FQ)))
def P5:dP:=⟨2,26,[],(.seq (.ops [.load 6 none (.t 1),.len 7 (.t 6),.ah 8 (.c (.int .i64 0))])
 FT)⟩
def P6:dP:=⟨2,11,[.tmp 4],(.seq (.ops [.ak 4 (.c (.int .i64 0))]) (.seq (.ops [.ah 5 (.t 0),.ah 6 (.t 1),.bin 7 .add (.t 5) (.t 6),.bin 8 .sub (.t 7) (.c (.int .i64 1)),.ah 9 (.t 1),.bin 10 .quo (.t 8) (.t 9),.ak 4 (.t 10)]) .ret))⟩
def P7:dP:=⟨1,6,[.tmp 2],(.seq (.ops [.ak 2 (.c (.int .u64 0))]) (.seq (.ops [.ah 3 (.t 0),.call 4 250 [(.t 3)],.call 5 249 [(.t 4)],.ak 2 (.t 5)]) .ret))⟩
def FU:aj:=(.seq (.seq (.ops [.ah 13 (.t 2),.len 14 (.t 13),.bin 15 .gtr (.t 14) (.c (.int .i64 1))]) (.cond (.t 15) .skip (.exit 0))) (.block 1 (.seq (.ops [.ah 16 (.t 2),.call 17 251 [(.t 16)],.ak 2 (.t 17)]) (.ops [.ay 18 (.t 7) 2,.load 19 none (.t 18),.ah 20 (.t 2),.dW 21 1 [(.t 20)],.app 22 1 (.t 19) (.t 21),.ay 23 (.t 7) 2,.store none 1 (.t 23) (.t 22)]))))
def FV:aj :=
(.clean [2,6,7,17] [6,7] (.block 0 (.loop [2,6,7,17] FU)))
def P9:dP:=⟨3,25,[.cell 6 (some 3)],(.seq (.ops [.alloc 6 [(.int .i64 0),(.int .i64 0),(.list 0 [])]]) (.seq (.ops [.ah 8 (.t 0),.ah 9 (.t 1),.ah 10 (.t 2),.dW 11 1 [(.t 10)],.CQ 12 [(.int .i64 0),(.int .i64 0),(.list 0 [])] [(0,1,(.t 8)),(1,1,(.t 9))] 2 11,.alloc 7 [(.int .i64 0),(.int .i64 0),(.list 0 [])],.Xi 3 (.t 7) (.t 12)]) (.seq
  FV (.seq (.ops [.load 24 (some 3) (.t 7),.store none 3 (.t 6) (.t 24)]) .ret))))⟩
def FW:aj:=(.seq (.ops [.bin 11 .lss (.t 10) (.t 9)]) (.seq (.cond (.t 11) .skip (.exit 0)) (.seq (.block 1 (.seq (.ops [.ah 12 (.t 10),.bG 13 1 (.t 8) (.t 10),.load 14 none (.t 13),.ak 6 (.t 12),.ak 7 (.t 14)]) (.ops [.ah 15 (.t 5),.ah 16 (.t 1),.ah 17 (.t 6),.ah 18 (.t 7),.kK 19 (.t 16) [(.t 17),(.t 18)],.dW 20 1 [(.t 19)],.app 21 1 (.t 15) (.t 20),.ak 5 (.t 21)]))) (.ops [.bin 22 .add (.t 10) (.c (.int .i64 1)),.ah 10 (.t 22)]))))
def FX:aj :=
(.clean [0,1,5,8,9,10,21] [4,5] (.block 0 (.loop [0,1,5,8,9,10,21] FW)))
def Qc:dP:=⟨2,24,[.tmp 4],(.seq (.ops [.ak 4 (.nil 1)]) (.seq (.ops [.ak 5 (.nil 1)]) (.seq (.seq (.ops [.ah 8 (.t 0),.len 9 (.t 8),.ah 10 (.c (.int .i64 0))])
   FX) (.seq (.ops [.ah 23 (.t 5),.ak 4 (.t 23)]) .ret))))⟩
def Qd:dP:=⟨3,14,[.tmp 5],(.seq (.ops [.ak 5 (.c (.bool false))]) (.seq (.ops [.ah 6 (.t 1),.load 7 none (.t 2),.ah 8 (.t 0),.bG 9 1 (.t 7) (.t 8),.load 10 none (.t 9),.len 11 (.t 10),.call 12 106 [(.t 6),(.t 11)],.bin 13 .eql (.t 12) (.c (.int .i64 0)),.ak 5 (.t 13)]) .ret))⟩
def Qe:dP:=⟨2,9,[.tmp 4],(.seq (.ops [.ak 4 (.c (.bool false))]) (.seq (.ops [.ah 5 (.t 0),.ah 6 (.t 1),.call 7 252 [(.t 5),(.t 6)],.bin 8 .geq (.t 7) (.c (.int .i64 0)),.ak 4 (.t 8)]) .ret))⟩
def FY:aj:=(.seq (.ops [.bin 17 .lss (.t 16) (.t 15)]) (.seq (.cond (.t 17) .skip (.exit 2)) (.seq (.block 3 (.seq (.ops [.bG 18 2 (.t 14) (.t 16),.load 19 (some 2) (.t 18),.alloc 6 [(.int .i64 0),(.int .i64 0)],.store none 2 (.t 6) (.t 19)]) (.seq (.ops [.ah 20 (.t 0),.ah 21 (.t 3),.load 22 (some 2) (.t 6),.yield 23 (.t 20) [(.t 21),(.t 22)],.un 24 .not (.t 23)]) (.cond (.t 24) .ret .skip)))) (.ops [.bin 25 .add (.t 16) (.c (.int .i64 1)),.ah 16 (.t 25)]))))
def FZ:aj :=
(.clean [0,3,4,7,8,9,13,14,15,16] [0,7,8,9] (.block 2 (.loop [0,3,4,7,8,9,13,14,15,16] FY)))
def Gf:aj:=(.seq (.ops [.bin 10 .lss (.t 9) (.t 8)]) (.seq (.cond (.t 10) .skip (.exit 0)) (.seq (.block 1 (.seq (.ops [.ah 11 (.t 9),.bG 12 1 (.t 7) (.t 9),.load 13 none (.t 12),.ak 3 (.t 11),.ak 4 (.t 13)]) (.seq (.ops [.ah 14 (.t 4),.len 15 (.t 14),.ah 16 (.c (.int .i64 0))])
    FZ))) (.ops [.bin 26 .add (.t 9) (.c (.int .i64 1)),.ah 9 (.t 26)]))))
def Gg:aj :=
(.clean [0,7,8,9] [] (.block 0 (.loop [0,7,8,9] Gf)))
def Qg:dP:=⟨2,27,[],(.seq (.ops [.load 7 none (.t 1),.len 8 (.t 7),.ah 9 (.c (.int .i64 0))])
 Gg)⟩
def Qh:dP:=⟨1,5,[.tmp 2],(.seq (.ops [.ak 2 (.nil 2)]) (.seq (.ops [.ah 3 (.t 0),.call 4 255 [(.c (.kZ 2)),(.t 3)],.ak 2 (.t 4)]) .ret))⟩
def Qi:dP:=⟨3,8,[.tmp 6],(.seq (.ops [.box 3 (.t 0),.box 4 (.t 1),.box 5 (.t 2),.ak 6 (.c .pO)]) (.seq (.ops [.I5 7 256 [(.t 3),(.t 4),(.t 5)],.ak 6 (.t 7)]) .ret))⟩
def acH:dP:=⟨2,6,[.tmp 4],(.seq (.ops [.box 2 (.t 0),.box 3 (.t 1),.ak 4 (.c .pO)]) (.seq (.ops [.I5 5 262 [(.t 2),(.t 3)],.ak 4 (.t 5)]) .ret))⟩
def acI:dP:=⟨1,7,[.tmp 2],(.seq (.ops [.ak 2 (.c (.int .i64 0))]) (.seq (.ops [.ah 3 (.t 0),.bin 4 .add (.t 3) (.c (.int .i64 64)),.bin 5 .sub (.t 4) (.c (.int .i64 1)),.bin 6 .quo (.t 5) (.c (.int .i64 64)),.ak 2 (.t 6)]) .ret))⟩
def Qj:dP:=⟨2,9,[.tmp 4],(.seq (.ops [.ak 4 (.c (.bool false))]) (.seq (.ops [.ah 5 (.t 0),.ah 6 (.t 1),.call 7 266 [(.t 5),(.t 6)],.bin 8 .geq (.t 7) (.c (.int .i64 0)),.ak 4 (.t 8)]) .ret))⟩
def Qk:dP:=⟨1,9,[.tmp 2],(.seq (.ops [.ak 2 (.c (.bool false))]) (.seq (.ops [.ah 3 (.t 0),.bin 4 .lss (.t 3) (.c (.int .i64 1)),.ah 5 (.t 4),.grd 5 false (.ah 6 (.t 0)),.grd 5 false (.bin 7 .gtr (.t 6) (.c (.int .i64 4096))),.pick 8 (.t 5) (.c (.bool true)) (.t 7),.ak 2 (.t 8)]) .ret))⟩
def Gh:aj:=(.seq (.ops [.bin 14 .lss (.t 13) (.t 12)]) (.seq (.cond (.t 14) .skip (.exit 0)) (.seq (.block 1 (.seq (.ops [.bG 15 1 (.t 11) (.t 13),.load 16 none (.t 15),.ak 7 (.t 16)]) (.ops [.ah 17 (.t 5),.ah 18 (.t 1),.ah 19 (.t 7),.kK 20 (.t 18) [(.t 19)],.dW 21 1 [(.t 20)],.app 22 1 (.t 17) (.t 21),.ak 5 (.t 22)]))) (.ops [.bin 23 .add (.t 13) (.c (.int .i64 1)),.ah 13 (.t 23)]))))
def Gi:aj :=
(.clean [0,1,5,10,11,12,13,22] [4,5] (.block 0 (.loop [0,1,5,10,11,12,13,22] Gh)))
def Ql:dP:=⟨2,25,[.tmp 4],(.seq (.ops [.ak 4 (.nil 1)]) (.seq (.ops [.ah 8 (.t 0),.len 9 (.t 8),.make 10 (.int .i64 0) (.c (.int .i64 0)) (.t 9),.ak 5 (.t 10)]) (.seq (.seq (.ops [.ah 11 (.t 0),.len 12 (.t 11),.ah 13 (.c (.int .i64 0))])
   Gi) (.seq (.ops [.ah 24 (.t 5),.ak 4 (.t 24)]) .ret))))⟩
def Qm:dP:=⟨1,5,[.tmp 2],(.seq (.ops [.ak 2 (.c (.int .i64 0))]) (.seq (.ops [.ah 3 (.t 0),.len 4 (.t 3),.ak 2 (.t 4)]) .ret))⟩
def acJ:dP:=⟨2,8,[.tmp 4],(.seq (.ops [.ak 4 (.c (.int .u64 0))]) (.seq (.ops [.ah 5 (.t 0),.ah 6 (.t 1),.bin 7 .or (.t 5) (.t 6),.ak 4 (.t 7)]) .ret))⟩
def acK:aj:=(.seq (.ops [.bin 29 .lss (.t 28) (.t 27)]) (.seq (.cond (.t 29) .skip (.exit 0)) (.seq (.block 1 (.seq (.ops [.ah 30 (.t 28),.ak 10 (.t 30)]) (.oK [] [([0,1,2,3,4,5,6,7,8,9,10,11,12,13,14,15],16),([],17)] (some ([18],[],19,[])) [] [.ah 31 (.t 9),.ah 32 (.t 10),.ay 33 (.t 3) 0,.load 34 none (.t 33),.ah 35 (.t 9),.ah 36 (.t 10),.bG 37 1 (.t 35) (.t 36),.load 38 none (.t 37),.ah 39 (.t 10),.ay 40 (.t 5) 0,.load 41 none (.t 40),.ay 42 (.t 5) 0,.load 43 none (.t 42),.ay 44 (.t 5) 1,.load 45 none (.t 44),.bin 46 .add (.t 43) (.t 45),.call 47 263 [(.t 39),(.t 41),(.t 46)],.kK 48 (.t 34) [(.t 38),(.t 47)],.bG 49 1 (.t 31) (.t 32),.store none 1 (.t 49) (.t 48)]))) (.ops [.bin 50 .add (.t 28) (.c (.int .i64 1)),.ah 28 (.t 50)]))))
def acL:aj :=
(.clean [3,4,5,6,9,25,27,28] [4,6,7,9] (.block 0 (.loop [3,4,5,6,9,25,27,28] acK)))
def acM:dP:=⟨3,55,[.cell 6 (some 2),.tmp 7],(.seq (.ops [.box 3 (.t 0),.box 4 (.t 1),.box 5 (.t 2),.alloc 6 [(.int .i64 0),(.list 1 [])],.ak 7 (.c (.int .i64 0))]) (.seq (.seq (.ops [.load 11 (some 2) (.t 4),.call 12 161 [(.t 11)],.ak 8 (.t 12)]) (.seq (.ops [.ah 13 (.t 8),.bin 14 .neq (.t 13) (.c (.int .i64 0))]) (.cond (.t 14) (.seq (.ops [.build 15 [(.int .i64 0),(.list 1 [])] [],.ah 16 (.t 8),.store none 2 (.t 6) (.t 15),.ak 7 (.t 16)]) .ret) .skip))) (.seq (.seq (.ops [.load 17 (some 2) (.t 5),.ay 18 (.t 4) 0,.load 19 none (.t 18),.call 20 267 [(.t 17),(.t 19)],.un 21 .not (.t 20)]) (.cond (.t 21) (.seq (.ops [.build 22 [(.int .i64 0),(.list 1 [])] [],.store none 2 (.t 6) (.t 22),.ak 7 (.c (.int .i64 2))]) .ret) .skip)) (.seq (.ops [.ay 23 (.t 4) 1,.load 24 none (.t 23),.call 25 120 [(.t 24)],.ak 9 (.t 25)]) (.seq (.seq (.ops [.ah 26 (.t 9),.len 27 (.t 26),.ah 28 (.c (.int .i64 0))])
    acL) (.seq (.ops [.ay 51 (.t 4) 0,.load 52 none (.t 51),.ah 53 (.t 9),.build 54 [(.int .i64 0),(.list 1 [])] [(0,1,(.t 52)),(1,1,(.t 53))],.store none 2 (.t 6) (.t 54),.ak 7 (.c (.int .i64 0))]) .ret))))))⟩
def acN:dP:=⟨2,52,[.cell 4 (some 2),.tmp 5],(.seq (.ops [.box 2 (.t 0),.box 3 (.t 1),.alloc 4 [(.int .i64 0),(.int .i64 0)],.ak 5 (.c (.int .i64 0))]) (.seq (.seq (.ops [.ay 7 (.t 3) 0,.load 8 none (.t 7),.bin 9 .lss (.t 8) (.c (.int .i64 0)),.ah 10 (.t 9),.grd 10 false (.ay 11 (.t 3) 1),.grd 10 false (.load 12 none (.t 11)),.grd 10 false (.bin 13 .lss (.t 12) (.c (.int .i64 1))),.pick 14 (.t 10) (.c (.bool true)) (.t 13),.ah 15 (.t 14),.grd 15 false (.ay 16 (.t 3) 0),.grd 15 false (.load 17 none (.t 16)),.grd 15 false (.ay 18 (.t 2) 0),.grd 15 false (.load 19 none (.t 18)),.grd 15 false (.bin 20 .geq (.t 17) (.t 19)),.pick 21 (.t 15) (.c (.bool true)) (.t 20),.ah 22 (.t 21),.grd 22 false (.ay 23 (.t 3) 1),.grd 22 false (.load 24 none (.t 23)),.grd 22 false (.ay 25 (.t 2) 0),.grd 22 false (.load 26 none (.t 25)),.grd 22 false (.ay 27 (.t 3) 0),.grd 22 false (.load 28 none (.t 27)),.grd 22 false (.bin 29 .sub (.t 26) (.t 28)),.grd 22 false (.bin 30 .gtr (.t 24) (.t 29)),.pick 31 (.t 22) (.c (.bool true)) (.t 30)]) (.cond (.t 31) (.seq (.ops [.build 32 [(.int .i64 0),(.int .i64 0)] [],.store none 2 (.t 4) (.t 32),.ak 5 (.c (.int .i64 2))]) .ret) .skip)) (.seq (.ops [.ay 33 (.t 3) 0,.load 34 none (.t 33),.ay 35 (.t 2) 1,.load 36 none (.t 35),.bin 37 .quo (.t 34) (.t 36),.ak 6 (.t 37)]) (.seq (.ops [.ah 38 (.t 6),.ay 39 (.t 3) 0,.load 40 none (.t 39),.ay 41 (.t 3) 1,.load 42 none (.t 41),.bin 43 .add (.t 40) (.t 42),.bin 44 .sub (.t 43) (.c (.int .i64 1)),.ay 45 (.t 2) 1,.load 46 none (.t 45),.bin 47 .quo (.t 44) (.t 46),.ah 48 (.t 6),.bin 49 .sub (.t 47) (.t 48),.bin 50 .add (.t 49) (.c (.int .i64 1)),.build 51 [(.int .i64 0),(.int .i64 0)] [(0,1,(.t 38)),(1,1,(.t 50))],.store none 2 (.t 4) (.t 51),.ak 5 (.c (.int .i64 0))]) .ret))))⟩
def acO:aj:=(.seq (.ops [.bin 7 .lss (.t 6) (.t 5)]) (.seq (.cond (.t 7) .skip (.exit 0)) (.seq (.block 1 (.seq (.ops [.ah 8 (.t 6),.ak 3 (.t 8)]) (.seq (.ops [.ah 9 (.t 0),.ay 10 (.t 1) 0,.load 11 none (.t 10),.ah 12 (.t 3),.bin 13 .add (.t 11) (.t 12),.yield 14 (.t 9) [(.t 13)],.un 15 .not (.t 14)]) (.cond (.t 15) .ret .skip)))) (.ops [.bin 16 .add (.t 6) (.c (.int .i64 1)),.ah 6 (.t 16)]))))
def acP:aj :=
(.clean [0,1,5,6] [] (.block 0 (.loop [0,1,5,6] acO)))
def acQ:dP:=⟨2,17,[],(.seq (.ops [.ay 4 (.t 1) 1,.load 5 none (.t 4),.ah 6 (.c (.int .i64 0))])
 acP)⟩
def acR:dP:=⟨2,30,[.tmp 4,.tmp 5,.tmp 6],(.seq (.ops [.ak 4 (.c (.int .i64 0)),.ak 5 (.nil 1),.ak 6 (.c (.int .i64 0))]) (.seq (.ops [.ah 11 (.t 0),.build 12 [(.list 0 [])] [(0,1,(.t 11))],.box 13 (.t 12),.ak 7 (.t 13)]) (.seq (.ops [.ah 15 (.t 1),.ah 16 (.t 7),.linv 17 (.t 15) (.t 16) [],.ah 14 (.t 17),.ext 18 (.t 14) 0,.ext 19 (.t 14) 1,.ak 8 (.t 18),.ak 9 (.t 19)]) (.seq (.seq (.ops [.ah 20 (.t 9),.bin 21 .neq (.t 20) (.c (.int .i64 0))]) (.cond (.t 21) (.seq (.ops [.ak 10 (.c (.int .i64 0))]) (.seq (.ops [.ah 22 (.t 10),.ah 23 (.t 9),.ak 4 (.t 22),.ak 5 (.nil 1),.ak 6 (.t 23)]) .ret)) .skip)) (.seq (.ops [.ah 24 (.t 8),.ah 25 (.t 7),.ay 26 (.t 25) 0,.ay 27 (.t 26) 0,.load 28 none (.t 27),.call 29 245 [(.t 28)],.ak 4 (.t 24),.ak 5 (.t 29),.ak 6 (.c (.int .i64 0))]) .ret)))))⟩
def acS:aj:=(.seq (.ops [.bin 8 .lss (.t 7) (.c (.int .i64 8))]) (.seq (.cond (.t 8) .skip (.exit 0)) (.seq (.block 1 (.seq (.ops [.ah 9 (.t 7),.ak 5 (.t 9)]) (.seq (.seq (.ops [.ah 10 (.t 5),.ah 11 (.t 0),.ay 12 (.t 11) 0,.ay 13 (.t 12) 0,.load 14 none (.t 13),.len 15 (.t 14),.bin 16 .geq (.t 10) (.t 15)]) (.cond (.t 16) (.seq (.ops [.ak 2 (.c (.int .i64 0)),.ak 3 (.c (.int .i64 10))]) .ret) .skip)) (.seq (.ops [.ah 17 (.t 0),.ay 18 (.t 17) 0,.ay 19 (.t 18) 0,.load 20 none (.t 19),.ah 21 (.t 5),.bG 22 1 (.t 20) (.t 21),.load 23 none (.t 22),.ak 6 (.t 23)]) (.seq (.ops [.ah 24 (.t 4),.ah 25 (.t 6),.bin 26 .and (.t 25) (.c (.int .u8 127)),.conv 27 .i64 (.t 26),.ah 28 (.t 5),.bin 29 .mul (.c (.int .i64 7)) (.t 28),.bin 30 .shl (.t 27) (.t 29),.bin 31 .or (.t 24) (.t 30),.ak 4 (.t 31)]) (.seq (.seq (.ops [.ah 32 (.t 6),.bin 33 .and (.t 32) (.c (.int .u8 128)),.bin 34 .neq (.t 33) (.c (.int .u8 0))]) (.cond (.t 34) (.exit 1) .skip)) (.seq (.seq (.ops [.ah 35 (.t 6),.bin 36 .eql (.t 35) (.c (.int .u8 0)),.ah 37 (.t 36),.grd 37 true (.ah 38 (.t 5)),.grd 37 true (.bin 39 .gtr (.t 38) (.c (.int .i64 0))),.pick 40 (.t 37) (.t 39) (.c (.bool false)),.ah 41 (.t 40),.grd 41 false (.ah 42 (.t 4)),.grd 41 false (.bin 43 .gtr (.t 42) (.c (.int .i64 9007199254740991))),.pick 44 (.t 41) (.c (.bool true)) (.t 43)]) (.cond (.t 44) (.seq (.ops [.ak 2 (.c (.int .i64 0)),.ak 3 (.c (.int .i64 3))]) .ret) .skip)) (.seq (.ops [.ah 45 (.t 0),.ah 46 (.t 0),.ay 47 (.t 46) 0,.ay 48 (.t 47) 0,.load 49 none (.t 48),.ah 50 (.t 5),.bin 51 .add (.t 50) (.c (.int .i64 1)),.I4 52 1 (.t 49) (some (.t 51)) none,.ay 53 (.t 45) 0,.ay 54 (.t 53) 0,.store none 1 (.t 54) (.t 52)]) (.seq (.ops [.ah 55 (.t 4),.ak 2 (.t 55),.ak 3 (.c (.int .i64 0))]) .ret))))))))) (.ops [.bin 56 .add (.t 7) (.c (.int .i64 1)),.ah 7 (.t 56)]))))
def acT:aj :=
(.clean [0,4,7] [2,3] (.block 0 (.loop [0,4,7] acS)))
def acU:dP:=⟨1,57,[.tmp 2,.tmp 3],(.seq (.ops [.ak 2 (.c (.int .i64 0)),.ak 3 (.c (.int .i64 0))]) (.seq (.ops [.ak 4 (.c (.int .i64 0))]) (.seq (.seq (.ops [.ah 7 (.c (.int .i64 0))])
   acT) (.seq (.ops [.ak 2 (.c (.int .i64 0)),.ak 3 (.c (.int .i64 3))]) .ret))))⟩
def acV:dP:=⟨2,30,[.tmp 4,.tmp 5,.tmp 6],(.seq (.ops [.ak 4 (.nil 2),.ak 5 (.nil 1),.ak 6 (.c (.int .i64 0))]) (.seq (.ops [.ah 11 (.t 0),.build 12 [(.list 0 [])] [(0,1,(.t 11))],.box 13 (.t 12),.ak 7 (.t 13)]) (.seq (.ops [.ah 15 (.t 1),.ah 16 (.t 7),.linv 17 (.t 15) (.t 16) [],.ah 14 (.t 17),.ext 18 (.t 14) 0,.ext 19 (.t 14) 1,.ak 8 (.t 18),.ak 9 (.t 19)]) (.seq (.seq (.ops [.ah 20 (.t 9),.bin 21 .neq (.t 20) (.c (.int .i64 0))]) (.cond (.t 21) (.seq (.ops [.ak 10 (.nil 2)]) (.seq (.ops [.ah 22 (.t 10),.ah 23 (.t 9),.ak 4 (.t 22),.ak 5 (.nil 1),.ak 6 (.t 23)]) .ret)) .skip)) (.seq (.ops [.ah 24 (.t 8),.ah 25 (.t 7),.ay 26 (.t 25) 0,.ay 27 (.t 26) 0,.load 28 none (.t 27),.call 29 245 [(.t 28)],.ak 4 (.t 24),.ak 5 (.t 29),.ak 6 (.c (.int .i64 0))]) .ret)))))⟩
def acW:dP:=⟨1,8,[.tmp 2,.tmp 3],(.seq (.ops [.ak 2 (.nil 2),.ak 3 (.c (.int .i64 0))]) (.seq (.ops [.ah 4 (.t 0),.lin 5 241 (.t 4) [(.c (.func 242 []))],.ext 6 (.t 5) 0,.ext 7 (.t 5) 1,.ak 2 (.t 6),.ak 3 (.t 7)]) .ret))⟩
def acX:aj:=(.seq (.ops [.bin 21 .lss (.t 20) (.t 19)]) (.seq (.cond (.t 21) .skip (.exit 0)) (.seq (.block 1 (.seq (.ops [.ah 23 (.t 1),.ah 24 (.t 0),.linv 25 (.t 23) (.t 24) [],.ah 22 (.t 25),.ext 26 (.t 22) 0,.ext 27 (.t 22) 1,.alloc 9 [(.int .i64 0),(.int .i64 0)],.store none 2 (.t 9) (.t 26),.ak 10 (.t 27)]) (.seq (.seq (.ops [.ah 28 (.t 10),.bin 29 .neq (.t 28) (.c (.int .i64 0))]) (.cond (.t 29) (.seq (.ops [.ah 30 (.t 10),.ak 4 (.nil 2),.ak 5 (.t 30)]) .ret) .skip)) (.ops [.ah 31 (.t 8),.load 32 (some 2) (.t 9),.dW 33 2 [(.t 32)],.app 34 2 (.t 31) (.t 33),.ak 8 (.t 34)])))) (.ops [.bin 35 .add (.t 20) (.c (.int .i64 1)),.ah 20 (.t 35)]))))
def acY:aj :=
(.clean [0,1,8,19,20,34] [4,5,8] (.block 0 (.loop [0,1,8,19,20,34] acX)))
def acZ:dP:=⟨2,37,[.tmp 4,.tmp 5],(.seq (.ops [.ak 4 (.nil 2),.ak 5 (.c (.int .i64 0))]) (.seq (.ops [.ah 12 (.t 0),.lin 13 268 (.t 12) [],.ah 11 (.t 13),.ext 14 (.t 11) 0,.ext 15 (.t 11) 1,.ak 6 (.t 14),.ak 7 (.t 15)]) (.seq (.seq (.ops [.ah 16 (.t 7),.bin 17 .neq (.t 16) (.c (.int .i64 0))]) (.cond (.t 17) (.seq (.ops [.ah 18 (.t 7),.ak 4 (.nil 2),.ak 5 (.t 18)]) .ret) .skip)) (.seq (.ops [.ak 8 (.nil 2)]) (.seq (.seq (.ops [.ah 19 (.t 6),.ah 20 (.c (.int .i64 0))])
    acY) (.seq (.ops [.ah 36 (.t 8),.ak 4 (.t 36),.ak 5 (.c (.int .i64 0))]) .ret))))))⟩
def ac0:dP:=⟨1,17,[.cell 2 (some 2),.tmp 3],(.seq (.ops [.alloc 2 [(.int .i64 0),(.int .i64 0)],.ak 3 (.c (.int .i64 0))]) (.seq (.ops [.ah 8 (.t 0),.lin 9 269 (.t 8) [],.ah 7 (.t 9),.ext 10 (.t 7) 0,.ext 11 (.t 7) 1,.ext 12 (.t 7) 2,.ak 4 (.t 10),.ak 5 (.t 11),.ak 6 (.t 12)]) (.seq (.ops [.ah 13 (.t 4),.ah 14 (.t 5),.build 15 [(.int .i64 0),(.int .i64 0)] [(0,1,(.t 13)),(1,1,(.t 14))],.ah 16 (.t 6),.store none 2 (.t 2) (.t 15),.ak 3 (.t 16)]) .ret)))⟩
def Qn:dP:=⟨2,9,[.tmp 4],(.seq (.ops [.ak 4 (.c (.bool false))]) (.seq (.ops [.ah 5 (.t 0),.ah 6 (.t 5),.grd 6 false (.ah 7 (.t 1)),.pick 8 (.t 6) (.c (.bool true)) (.t 7),.ak 4 (.t 8)]) .ret))⟩
def ac1:aj:=(.seq (.seq (.ops [.ah 11 (.t 1),.bin 12 .geq (.t 11) (.c (.int .i64 128))]) (.cond (.t 12) .skip (.exit 0))) (.seq (.block 1 (.ops [.ah 15 (.t 0),.ah 16 (.t 1),.bin 17 .rem (.t 16) (.c (.int .i64 128)),.conv 18 .u8 (.t 17),.bin 19 .or (.t 18) (.c (.int .u8 128)),.dW 20 1 [(.t 19)],.app 21 1 (.t 15) (.t 20),.ak 0 (.t 21)])) (.ops [.ah 13 (.t 1),.bin 14 .quo (.t 13) (.c (.int .i64 128)),.ak 1 (.t 14)])))
def ac2:aj :=
(.clean [0,1,21] [0,1,4] (.block 0 (.loop [0,1,21] ac1)))
def ac3:dP:=⟨2,27,[.tmp 4],(.seq (.ops [.ak 4 (.nil 1)]) (.seq (.seq (.ops [.ah 5 (.t 1),.bin 6 .lss (.t 5) (.c (.int .i64 0)),.ah 7 (.t 6),.grd 7 false (.ah 8 (.t 1)),.grd 7 false (.bin 9 .gtr (.t 8) (.c (.int .i64 9007199254740991))),.pick 10 (.t 7) (.c (.bool true)) (.t 9)]) (.cond (.t 10) (.ops [.ak 1 (.c (.int .i64 0))]) .skip)) (.seq
  ac2 (.seq (.ops [.ah 22 (.t 0),.ah 23 (.t 1),.conv 24 .u8 (.t 23),.dW 25 1 [(.t 24)],.app 26 1 (.t 22) (.t 25),.ak 4 (.t 26)]) .ret))))⟩
def V6:dP:=⟨1,8,[.tmp 2],(.seq (.ops [.ak 2 (.nil 1)]) (.seq (.seq (.ops [.ah 3 (.t 0),.RQ 4 false (.t 3)]) (.cond (.t 4) (.seq (.ops [.ak 2 (.nil 1)]) .ret) .skip)) (.seq (.ops [.dW 5 1 [],.ah 6 (.t 0),.app 7 1 (.t 5) (.t 6),.ak 2 (.t 7)]) .ret)))⟩
def ac4:aj:=(.seq (.ops [.bin 16 .lss (.t 15) (.t 14)]) (.seq (.cond (.t 16) .skip (.exit 0)) (.seq (.block 1 (.seq (.ops [.bG 17 2 (.t 13) (.t 15),.load 18 (some 2) (.t 17),.alloc 8 [(.int .i64 0),(.int .i64 0)],.store none 2 (.t 8) (.t 18)]) (.ops [.ah 19 (.t 2),.ah 20 (.t 0),.load 21 (some 2) (.t 8),.linv 22 (.t 19) (.t 20) [(.t 21)],.ak 0 (.t 22)]))) (.ops [.bin 23 .add (.t 15) (.c (.int .i64 1)),.ah 15 (.t 23)]))))
def ac5:aj :=
(.clean [0,1,2,12,13,14,15,22] [0,6] (.block 0 (.loop [0,1,2,12,13,14,15,22] ac4)))
def ac6:dP:=⟨3,25,[.tmp 6],(.seq (.ops [.ak 6 (.nil 1)]) (.seq (.ops [.ah 9 (.t 0),.ah 10 (.t 1),.len 11 (.t 10),.lin 12 244 (.t 9) [(.t 11)],.ak 0 (.t 12)]) (.seq (.seq (.ops [.ah 13 (.t 1),.len 14 (.t 13),.ah 15 (.c (.int .i64 0))])
   ac5) (.seq (.ops [.ah 24 (.t 0),.ak 6 (.t 24)]) .ret))))⟩
def ac7:dP:=⟨2,12,[.tmp 4],(.seq (.ops [.box 3 (.t 1),.ak 4 (.nil 1)]) (.seq (.oK [(.t 3)] [] (some ([0,1,2],[4,5],3,[([],6)])) [7] [.ah 5 (.t 0),.ay 6 (.t 3) 0,.load 7 none (.t 6),.ay 9 (.t 3) 1,.Nr 10 none (.t 9),.lin 8 244 (.t 5) [(.t 7)],.lin 11 244 (.t 8) [(.t 10)],.ak 4 (.t 11)]) .ret))⟩
def Qo:dP:=⟨1,5,[.tmp 2],(.seq (.ops [.box 1 (.t 0),.ak 2 (.c (.int .u64 0))]) (.seq (.ops [.I5 3 270 [(.t 1)],.call 4 185 [(.t 3)],.ak 2 (.t 4)]) .ret))⟩
def Gj:aj:=(.seq (.seq (.ops [.ah 5 (.t 4),.ah 6 (.t 0),.len 7 (.t 6),.bin 8 .lss (.t 5) (.t 7)]) (.cond (.t 8) .skip (.exit 0))) (.seq (.block 1 (.ops [.ah 11 (.t 3),.ah 12 (.t 0),.ah 13 (.t 4),.bG 14 1 (.t 12) (.t 13),.load 15 none (.t 14),.conv 16 .u64 (.t 15),.bin 17 .xor (.t 11) (.t 16),.bin 18 .mul (.t 17) (.c (.int .u64 1099511628211)),.ak 3 (.t 18)])) (.ops [.ah 9 (.t 4),.bin 10 .add (.t 9) (.c (.int .i64 1)),.ak 4 (.t 10)])))
def Gl:aj :=
(.clean [0,3,4] [2,3] (.block 0 (.loop [0,3,4] Gj)))
def Qp:dP:=⟨1,23,[.tmp 2],(.seq (.ops [.ak 2 (.c (.int .u64 0))]) (.seq (.ops [.ak 3 (.c (.int .u64 14695981039346656037))]) (.seq (.seq (.ops [.ak 4 (.c (.int .i64 0))])
   Gl) (.seq (.ops [.ah 19 (.t 3),.ah 20 (.t 3),.bin 21 .shr (.t 20) (.c (.int .u64 32)),.bin 22 .xor (.t 19) (.t 21),.ak 2 (.t 22)]) .ret))))⟩
def Gm:aj:=(.seq (.seq (.ops [.ah 12 (.t 5),.bin 13 .lss (.t 12) (.c (.int .i64 8))]) (.cond (.t 13) .skip (.exit 2))) (.seq (.block 3 (.ops [.ah 16 (.t 3),.ah 17 (.t 0),.ah 18 (.t 4),.ah 19 (.t 5),.bG 20 8 (.t 17) (.t 18),.tu 21 (.t 20) (.t 19) 8 1,.load 22 none (.t 21),.dW 23 1 [(.t 22)],.app 24 1 (.t 16) (.t 23),.ak 3 (.t 24)])) (.ops [.ah 14 (.t 5),.bin 15 .add (.t 14) (.c (.int .i64 1)),.ak 5 (.t 15)])))
def Gn:aj :=
(.clean [0,3,4,5,24] [0,2,3,4,24] (.block 2 (.loop [0,3,4,5,24] Gm)))
def Gp:aj:=(.seq (.seq (.ops [.ah 6 (.t 4),.ah 7 (.t 0),.len 8 (.t 7),.bin 9 .lss (.t 6) (.t 8)]) (.cond (.t 9) .skip (.exit 0))) (.seq (.block 1 (.seq (.ops [.ak 5 (.c (.int .i64 0))])
   Gn)) (.ops [.ah 10 (.t 4),.bin 11 .add (.t 10) (.c (.int .i64 1)),.ak 4 (.t 11)])))
def Gq:aj :=
(.clean [0,3,4,24] [2,3] (.block 0 (.loop [0,3,4,24] Gp)))
def Qq:dP:=⟨1,26,[.tmp 2],(.seq (.ops [.ak 2 (.nil 1)]) (.seq (.ops [.ak 3 (.nil 1)]) (.seq (.seq (.ops [.ak 4 (.c (.int .i64 0))])
   Gq) (.seq (.ops [.ah 25 (.t 3),.ak 2 (.t 25)]) .ret))))⟩
def zO:aj:=(.seq (.seq (.ops [.ah 5 (.t 4),.ah 6 (.t 0),.len 7 (.t 6),.bin 8 .lss (.t 5) (.t 7)]) (.cond (.t 8) .skip (.exit 0))) (.seq (.block 1 (.seq (.ops [.ah 11 (.t 4),.bin 12 .add (.t 11) (.c (.int .i64 1)),.ah 13 (.t 0),.len 14 (.t 13),.bin 15 .lss (.t 12) (.t 14)]) (.cond (.t 15) (.oK [] [([0,1,2,3,4,5,6,7,8,9],10),([],11)] (some ([],[],12,[])) [13] [.ah 16 (.t 3),.ah 17 (.t 0),.ah 18 (.t 4),.bG 19 1 (.t 17) (.t 18),.load 20 none (.t 19),.ah 21 (.t 0),.ah 22 (.t 4),.bin 23 .add (.t 22) (.c (.int .i64 1)),.bG 24 1 (.t 21) (.t 23),.load 25 none (.t 24),.call 26 271 [(.t 20),(.t 25)],.dW 27 1 [(.t 26)],.app 28 1 (.t 16) (.t 27),.ak 3 (.t 28)]) (.ops [.ah 29 (.t 3),.ah 30 (.t 0),.ah 31 (.t 4),.bG 32 1 (.t 30) (.t 31),.load 33 none (.t 32),.dW 34 1 [(.t 33)],.app 35 1 (.t 29) (.t 34),.ak 3 (.t 35)])))) (.ops [.ah 9 (.t 4),.bin 10 .add (.t 9) (.c (.int .i64 2)),.ak 4 (.t 10)])))
def Gs:aj :=
(.clean [0,3,4,28,35] [2,3] (.block 0 (.loop [0,3,4,28,35] zO)))
def Qr:dP:=⟨1,37,[.tmp 2],(.seq (.ops [.ak 2 (.nil 1)]) (.seq (.ops [.ak 3 (.nil 1)]) (.seq (.seq (.ops [.ak 4 (.c (.int .i64 0))])
   Gs) (.seq (.ops [.ah 36 (.t 3),.ak 2 (.t 36)]) .ret))))⟩
def Gt:aj:=(.seq (.ops [.bin 9 .lss (.t 8) (.t 7)]) (.seq (.cond (.t 9) .skip (.exit 0)) (.seq (.block 1 (.seq (.ops [.ah 10 (.t 8),.ak 5 (.t 10)]) (.seq (.ops [.ah 11 (.t 1),.ah 12 (.t 0),.ah 13 (.t 5),.bG 14 1 (.t 12) (.t 13),.load 15 none (.t 14),.Xf 16 false (.t 11) (.t 15)]) (.cond (.t 16) (.seq (.ops [.ah 17 (.t 5),.ak 4 (.t 17)]) .ret) .skip)))) (.ops [.bin 18 .add (.t 8) (.c (.int .i64 1)),.ah 8 (.t 18)]))))
def Gu:aj :=
(.clean [0,1,7,8] [4] (.block 0 (.loop [0,1,7,8] Gt)))
def Qs:dP:=⟨2,19,[.tmp 4],(.seq (.ops [.ak 4 (.c (.int .i64 0))]) (.seq (.seq (.ops [.ah 6 (.t 0),.len 7 (.t 6),.ah 8 (.c (.int .i64 0))])
  Gu) (.seq (.ops [.ak 4 (.c (.int .i64 (-1)))]) .ret)))⟩
def Qu:aj:=(.ops [.alloc 5 [(.int .i64 0),(.int .i64 0)],.store none 2 (.t 5) (.t 7)])
def Qv:aj:=(.block 1 (.ops [.load 8 none (.t 2),.load 9 (some 2) (.t 5),.dW 10 2 [(.t 9)],.app 11 2 (.t 8) (.t 10),.store none 1 (.t 2) (.t 11)]))
def Qw:dP:=⟨2,13,[.tmp 4],(.seq (.ops [.box 2 (.t 0),.ak 4 (.nil 2)]) (.seq (.seq (.ops [.ah 6 (.t 1)]) (.block 0 (.rng (.t 6) [7] Qu Qv))) (.seq (.ops [.load 12 none (.t 2),.ak 4 (.t 12)]) .ret)))⟩
def oh:aj:=(.seq (.ops [.bin 19 .lss (.t 18) (.t 17)]) (.seq (.cond (.t 19) .skip (.exit 0)) (.seq (.block 1 (.seq (.ops [.ah 20 (.t 18),.bG 21 3 (.t 16) (.t 18),.load 22 (some 3) (.t 21),.alloc 10 [(.int .i64 0),(.int .i64 0),(.int .i64 0)],.ak 9 (.t 20),.store none 3 (.t 10) (.t 22)]) (.seq (.oK [] [] (some ([0,1,2,3,4,5,6,7],[],8,[])) [] [.ay 23 (.t 10) 1,.load 24 none (.t 23),.tu 25 (.t 6) (.t 24) 2 1,.load 26 none (.t 25),.ay 27 (.t 10) 2,.load 28 none (.t 27),.bin 29 .add (.t 26) (.t 28),.tu 30 (.t 6) (.t 24) 2 1,.store none 1 (.t 30) (.t 29)]) (.seq (.seq (.oK [] [] none [0,1,2,3,4,5,6,7,8,9,10,11,12,13,14,15] [.ah 31 (.t 9),.bin 32 .add (.t 31) (.c (.int .i64 1)),.ah 33 (.t 5),.len 34 (.t 33),.bin 35 .lss (.t 32) (.t 34),.ah 36 (.t 35),.grd 36 true (.ah 37 (.t 5)),.grd 36 true (.ah 38 (.t 9)),.grd 36 true (.bin 39 .add (.t 38) (.c (.int .i64 1))),.grd 36 true (.bG 40 3 (.t 37) (.t 39)),.grd 36 true (.ay 41 (.t 40) 0),.grd 36 true (.load 42 none (.t 41)),.grd 36 true (.ay 43 (.t 10) 0),.grd 36 true (.load 44 none (.t 43)),.grd 36 true (.bin 45 .eql (.t 42) (.t 44)),.pick 46 (.t 36) (.t 45) (.c (.bool false))]) (.cond (.t 46) (.exit 1) .skip)) (.seq (.ops [.load 47 none (.t 3),.tu 48 (.t 6) (.c (.int .i64 0)) 2 1,.load 49 none (.t 48),.bin 50 .gtr (.t 49) (.c (.int .i64 0)),.tu 51 (.t 6) (.c (.int .i64 1)) 2 1,.load 52 none (.t 51),.bin 53 .gtr (.t 52) (.c (.int .i64 0)),.kK 54 (.t 47) [(.t 50),(.t 53)],.ak 11 (.t 54)]) (.seq (.seq (.ops [.ah 55 (.t 11),.ah 56 (.t 55),.grd 56 true (.ah 57 (.t 8)),.grd 56 true (.un 58 .not (.t 57)),.pick 59 (.t 56) (.t 58) (.c (.bool false))]) (.cond (.t 59) (.ops [.ay 60 (.t 10) 0,.load 61 none (.t 60),.ak 7 (.t 61)]) .skip)) (.seq (.seq (.ops [.ah 62 (.t 11),.un 63 .not (.t 62),.ah 64 (.t 63),.grd 64 true (.ah 65 (.t 8)),.pick 66 (.t 64) (.t 65) (.c (.bool false)),.ah 67 (.t 66),.grd 67 true (.ah 68 (.t 0)),.grd 67 true (.ah 69 (.t 7)),.grd 67 true (.ay 70 (.t 10) 0),.grd 67 true (.load 71 none (.t 70)),.grd 67 true (.ah 72 (.t 7)),.grd 67 true (.bin 73 .sub (.t 71) (.t 72)),.grd 67 true (.build 74 [(.int .i64 0),(.int .i64 0)] [(0,1,(.t 69)),(1,1,(.t 73))]),.grd 67 true (.yield 75 (.t 68) [(.t 74)]),.grd 67 true (.un 76 .not (.t 75)),.pick 77 (.t 67) (.t 76) (.c (.bool false))]) (.cond (.t 77) .ret .skip)) (.ops [.ah 78 (.t 11),.ak 8 (.t 78)])))))))) (.ops [.bin 79 .add (.t 18) (.c (.int .i64 1)),.ah 18 (.t 79)]))))
def Gv:aj :=
(.clean [0,3,5,6,7,8,15,16,17,18] [] (.block 0 (.loop [0,3,5,6,7,8,15,16,17,18] oh)))
def Qx:dP:=⟨4,80,[],(.seq (.ops [.load 12 none (.t 1),.load 13 none (.t 2),.dW 14 1 [(.t 12),(.t 13)],.call 15 257 [(.t 14)],.ak 5 (.t 15)]) (.seq (.ops [.alloc 6 [(.int .i64 0),(.int .i64 0)]]) (.seq (.ops [.ak 7 (.c (.int .i64 0)),.ak 8 (.c (.bool false))]) (.seq (.ops [.ah 16 (.t 5),.len 17 (.t 16),.ah 18 (.c (.int .i64 0))])
   Gv))))⟩
def zQ:aj:=(.seq (.ops [.bin 21 .lss (.t 20) (.t 19)]) (.seq (.cond (.t 21) .skip (.exit 2)) (.seq (.block 3 (.seq (.ops [.bG 22 2 (.t 18) (.t 20),.load 23 (some 2) (.t 22),.alloc 7 [(.int .i64 0),(.int .i64 0)],.store none 2 (.t 7) (.t 23)]) (.seq (.ops [.load 25 (some 2) (.t 7),.call 26 273 [(.t 25)],.ah 24 (.t 26),.ext 27 (.t 24) 0,.ext 28 (.t 24) 1,.ext 29 (.t 24) 2,.ak 8 (.t 27),.ak 9 (.t 28),.ak 10 (.t 29)]) (.seq (.ops [.ah 30 (.t 10)]) (.cond (.t 30) (.ops [.ah 31 (.t 3),.ah 32 (.t 8),.ah 33 (.t 4),.build 34 [(.int .i64 0),(.int .i64 0),(.int .i64 0)] [(0,1,(.t 32)),(1,1,(.t 33)),(2,1,(.c (.int .i64 1)))],.ah 35 (.t 9),.ah 36 (.t 4),.build 37 [(.int .i64 0),(.int .i64 0),(.int .i64 0)] [(0,1,(.t 35)),(1,1,(.t 36)),(2,1,(.c (.int .i64 (-1))))],.dW 38 3 [(.t 34),(.t 37)],.app 39 3 (.t 31) (.t 38),.ak 3 (.t 39)]) .skip))))) (.ops [.bin 40 .add (.t 20) (.c (.int .i64 1)),.ah 20 (.t 40)]))))
def Gw:aj :=
(.clean [0,3,4,5,11,12,13,17,18,19,20,39] [0,2,3,11,12,13,39] (.block 2 (.loop [0,3,4,5,11,12,13,17,18,19,20,39] zQ)))
def Gx:aj:=(.seq (.ops [.bin 14 .lss (.t 13) (.t 12)]) (.seq (.cond (.t 14) .skip (.exit 0)) (.seq (.block 1 (.seq (.ops [.ah 15 (.t 13),.bG 16 1 (.t 11) (.t 13),.load 17 none (.t 16),.ak 4 (.t 15),.ak 5 (.t 17)]) (.seq (.ops [.ah 18 (.t 5),.len 19 (.t 18),.ah 20 (.c (.int .i64 0))])
    Gw))) (.ops [.bin 41 .add (.t 13) (.c (.int .i64 1)),.ah 13 (.t 41)]))))
def Gy:aj :=
(.clean [0,3,11,12,13,39] [2,3] (.block 0 (.loop [0,3,11,12,13,39] Gx)))
def Qy:dP:=⟨1,45,[.tmp 2],(.seq (.ops [.ak 2 (.nil 3)]) (.seq (.ops [.ak 3 (.nil 3)]) (.seq (.seq (.ops [.ah 11 (.t 0),.len 12 (.t 11),.ah 13 (.c (.int .i64 0))])
   Gy) (.seq (.ops [.ah 42 (.t 3),.Ie 43 274 (.t 42) (.c (.func 275 []))]) (.seq (.ops [.ah 44 (.t 3),.ak 2 (.t 44)]) .ret)))))⟩
def ac8:aj:=(.seq (.seq (.ops [.ah 24 (.t 5),.bin 25 .neq (.t 24) (.c (.int .u64 0))]) (.cond (.t 25) .skip (.exit 2))) (.block 3 (.seq (.seq (.ops [.ah 26 (.t 0),.ah 27 (.t 4),.bin 28 .mul (.t 27) (.c (.int .i64 64)),.ah 29 (.t 5),.call 30 264 [(.t 29)],.bin 31 .add (.t 28) (.t 30),.yield 32 (.t 26) [(.t 31)],.un 33 .not (.t 32)]) (.cond (.t 33) .ret .skip)) (.ops [.ah 34 (.t 5),.ah 35 (.t 5),.bin 36 .sub (.t 35) (.c (.int .u64 1)),.bin 37 .and (.t 34) (.t 36),.ak 5 (.t 37)]))))
def ac9:aj :=
(.clean [0,1,2,4,5,10,11,12] [0,1,2,10,11,12] (.block 2 (.loop [0,1,2,4,5,10,11,12] ac8)))
def ada:aj:=(.seq (.ops [.bin 13 .lss (.t 12) (.t 11)]) (.seq (.cond (.t 13) .skip (.exit 0)) (.seq (.block 1 (.seq (.ops [.ah 14 (.t 12),.bG 15 1 (.t 10) (.t 12),.load 16 none (.t 15),.ak 4 (.t 14),.ak 5 (.t 16)]) (.seq (.ops [.ah 17 (.t 5),.ah 18 (.t 4),.load 19 none (.t 2),.ay 20 (.t 1) 0,.load 21 none (.t 20),.call 22 263 [(.t 18),(.t 19),(.t 21)],.bin 23 .and (.t 17) (.t 22),.ak 5 (.t 23)])
    ac9))) (.ops [.bin 38 .add (.t 12) (.c (.int .i64 1)),.ah 12 (.t 38)]))))
def adb:aj :=
(.clean [0,1,2,10,11,12] [] (.block 0 (.loop [0,1,2,10,11,12] ada)))
def ade:dP:=⟨3,39,[],(.seq (.seq (.ops [.load 6 (some 2) (.t 1),.call 7 161 [(.t 6)],.bin 8 .neq (.t 7) (.c (.int .i64 0))]) (.cond (.t 8) .ret .skip)) (.seq (.ops [.ay 9 (.t 1) 1,.load 10 none (.t 9),.len 11 (.t 10),.ah 12 (.c (.int .i64 0))])
  adb))⟩
def adf:dP:=⟨3,27,[.tmp 6],(.seq (.ops [.ak 6 (.c (.int .u64 0))]) (.seq (.ops [.ah 7 (.t 1),.ah 8 (.t 0),.bin 9 .mul (.t 8) (.c (.int .i64 64)),.bin 10 .sub (.t 7) (.t 9),.mn 11 true (.t 10) (.c (.int .i64 0)),.ah 12 (.t 2),.ah 13 (.t 0),.bin 14 .mul (.t 13) (.c (.int .i64 64)),.bin 15 .sub (.t 12) (.t 14),.mn 16 false (.t 15) (.c (.int .i64 64)),.ak 1 (.t 11),.ak 2 (.t 16)]) (.seq (.seq (.ops [.ah 17 (.t 1),.ah 18 (.t 2),.bin 19 .geq (.t 17) (.t 18)]) (.cond (.t 19) (.seq (.ops [.ak 6 (.c (.int .u64 0))]) .ret) .skip)) (.seq (.ops [.ah 20 (.t 2),.ah 21 (.t 1),.bin 22 .sub (.t 20) (.t 21),.bin 23 .sub (.c (.int .i64 64)) (.t 22),.bin 24 .shr (.c (.int .u64 18446744073709551615)) (.t 23),.ah 25 (.t 1),.bin 26 .shl (.t 24) (.t 25),.ak 6 (.t 26)]) .ret))))⟩
def Gz:aj:=(.seq (.ops [.bin 9 .lss (.t 8) (.t 7)]) (.seq (.cond (.t 9) .skip (.exit 0)) (.seq (.block 1 (.seq (.ops [.ah 10 (.t 8),.ak 5 (.t 10)]) (.seq (.ops [.ah 11 (.t 1),.ah 12 (.t 0),.ah 13 (.t 5),.bG 14 1 (.t 12) (.t 13),.load 15 none (.t 14),.kK 16 (.t 11) [(.t 15)]]) (.cond (.t 16) (.seq (.ops [.ah 17 (.t 5),.ak 4 (.t 17)]) .ret) .skip)))) (.ops [.bin 18 .add (.t 8) (.c (.int .i64 1)),.ah 8 (.t 18)]))))
def GH:aj :=
(.clean [0,1,7,8] [4] (.block 0 (.loop [0,1,7,8] Gz)))
def Qz:dP:=⟨2,19,[.tmp 4],(.seq (.ops [.ak 4 (.c (.int .i64 0))]) (.seq (.seq (.ops [.ah 6 (.t 0),.len 7 (.t 6),.ah 8 (.c (.int .i64 0))])
  GH) (.seq (.ops [.ak 4 (.c (.int .i64 (-1)))]) .ret)))⟩
def adg:dP:=⟨2,28,[.tmp 4],(.seq (.ops [.box 2 (.t 0),.ak 4 (.c (.bool false))]) (.seq (.ops [.ay 5 (.t 2) 0,.load 6 none (.t 5),.bin 7 .geq (.t 6) (.c (.int .i64 0)),.ah 8 (.t 7),.grd 8 true (.ay 9 (.t 2) 1),.grd 8 true (.load 10 none (.t 9)),.grd 8 true (.bin 11 .geq (.t 10) (.c (.int .i64 0))),.pick 12 (.t 8) (.t 11) (.c (.bool false)),.ah 13 (.t 12),.grd 13 true (.ay 14 (.t 2) 0),.grd 13 true (.load 15 none (.t 14)),.grd 13 true (.ah 16 (.t 1)),.grd 13 true (.bin 17 .leq (.t 15) (.t 16)),.pick 18 (.t 13) (.t 17) (.c (.bool false)),.ah 19 (.t 18),.grd 19 true (.ay 20 (.t 2) 1),.grd 19 true (.load 21 none (.t 20)),.grd 19 true (.ah 22 (.t 1)),.grd 19 true (.ay 23 (.t 2) 0),.grd 19 true (.load 24 none (.t 23)),.grd 19 true (.bin 25 .sub (.t 22) (.t 24)),.grd 19 true (.bin 26 .leq (.t 21) (.t 25)),.pick 27 (.t 19) (.t 26) (.c (.bool false)),.ak 4 (.t 27)]) .ret))⟩
def adh:dP:=⟨1,19,[.tmp 2,.tmp 3],(.seq (.ops [.ak 2 (.c (.int .i64 0)),.ak 3 (.c (.int .i64 0))]) (.seq (.ops [.ah 7 (.t 0),.lin 8 238 (.t 7) [],.ah 6 (.t 8),.ext 9 (.t 6) 0,.ext 10 (.t 6) 1,.ak 4 (.t 9),.ak 5 (.t 10)]) (.seq (.seq (.ops [.ah 11 (.t 5),.bin 12 .eql (.t 11) (.c (.int .i64 0)),.ah 13 (.t 12),.grd 13 true (.ah 14 (.t 4)),.grd 13 true (.bin 15 .gtr (.t 14) (.c (.int .i64 65536))),.pick 16 (.t 13) (.t 15) (.c (.bool false))]) (.cond (.t 16) (.ops [.ak 5 (.c (.int .i64 5))]) .skip)) (.seq (.ops [.ah 17 (.t 4),.ah 18 (.t 5),.ak 2 (.t 17),.ak 3 (.t 18)]) .ret))))⟩
def adi:dP:=⟨1,24,[.tmp 2,.tmp 3,.tmp 4],(.seq (.ops [.ak 2 (.c (.int .i64 0)),.ak 3 (.c (.int .i64 0)),.ak 4 (.c (.int .i64 0))]) (.seq (.ops [.ah 9 (.t 0),.lin 10 238 (.t 9) [],.ah 8 (.t 10),.ext 11 (.t 8) 0,.ext 12 (.t 8) 1,.ak 5 (.t 11),.ak 6 (.t 12)]) (.seq (.seq (.ops [.ah 13 (.t 6),.bin 14 .neq (.t 13) (.c (.int .i64 0))]) (.cond (.t 14) (.seq (.ops [.ah 15 (.t 6),.ak 2 (.c (.int .i64 0)),.ak 3 (.c (.int .i64 0)),.ak 4 (.t 15)]) .ret) .skip)) (.seq (.ops [.ah 17 (.t 0),.lin 18 238 (.t 17) [],.ah 16 (.t 18),.ext 19 (.t 16) 0,.ext 20 (.t 16) 1,.ak 7 (.t 19),.ak 6 (.t 20)]) (.seq (.ops [.ah 21 (.t 5),.ah 22 (.t 7),.ah 23 (.t 6),.ak 2 (.t 21),.ak 3 (.t 22),.ak 4 (.t 23)]) .ret)))))⟩
def GI:aj:=(.seq (.ops [.bin 8 .lss (.t 7) (.t 6)]) (.seq (.cond (.t 8) .skip (.exit 0)) (.seq (.block 1 (.seq (.ops [.bG 9 1 (.t 5) (.t 7),.load 10 none (.t 9),.ak 4 (.t 10)]) (.seq (.ops [.ah 11 (.t 0),.ah 12 (.t 4),.yield 13 (.t 11) [(.t 12)],.un 14 .not (.t 13)]) (.cond (.t 14) .ret .skip)))) (.ops [.bin 15 .add (.t 7) (.c (.int .i64 1)),.ah 7 (.t 15)]))))
def GK:aj :=
(.clean [0,5,6,7] [] (.block 0 (.loop [0,5,6,7] GI)))
def QA:dP:=⟨2,16,[],(.seq (.ops [.load 5 none (.t 1),.len 6 (.t 5),.ah 7 (.c (.int .i64 0))])
 GK)⟩
def GL:aj:=(.seq (.seq (.ops [.ah 8 (.t 6),.bin 9 .lss (.t 8) (.c (.int .i64 8))]) (.cond (.t 9) .skip (.exit 0))) (.seq (.block 1 (.ops [.ah 12 (.t 5),.ah 13 (.t 0),.ah 14 (.t 6),.bin 15 .mul (.c (.int .i64 8)) (.t 14),.bin 16 .shr (.t 13) (.t 15),.conv 17 .u8 (.t 16),.dW 18 1 [(.t 17)],.app 19 1 (.t 12) (.t 18),.ak 5 (.t 19)])) (.ops [.ah 10 (.t 6),.bin 11 .add (.t 10) (.c (.int .i64 1)),.ak 6 (.t 11)])))
def GN:aj :=
(.clean [0,1,5,6,19,31] [1,4,5,19,31] (.block 0 (.loop [0,1,5,6,19,31] GL)))
def GR:aj:=(.seq (.seq (.ops [.ah 20 (.t 7),.bin 21 .lss (.t 20) (.c (.int .i64 8))]) (.cond (.t 21) .skip (.exit 2))) (.seq (.block 3 (.ops [.ah 24 (.t 5),.ah 25 (.t 1),.ah 26 (.t 7),.bin 27 .mul (.c (.int .i64 8)) (.t 26),.bin 28 .shr (.t 25) (.t 27),.conv 29 .u8 (.t 28),.dW 30 1 [(.t 29)],.app 31 1 (.t 24) (.t 30),.ak 5 (.t 31)])) (.ops [.ah 22 (.t 7),.bin 23 .add (.t 22) (.c (.int .i64 1)),.ak 7 (.t 23)])))
def GU:aj :=
(.clean [1,5,7,19,31] [4,5] (.block 2 (.loop [1,5,7,19,31] GR)))
def QB:dP:=⟨2,34,[.tmp 4],(.seq (.ops [.ak 4 (.c (.int .u64 0))]) (.seq (.ops [.ak 5 (.nil 1)]) (.seq (.seq (.ops [.ak 6 (.c (.int .i64 0))])
   GN) (.seq (.seq (.ops [.ak 7 (.c (.int .i64 0))])
   GU) (.seq (.ops [.ah 32 (.t 5),.call 33 249 [(.t 32)],.ak 4 (.t 33)]) .ret)))))⟩
def CG:dP:=⟨1,35,[.tmp 2,.tmp 3,.tmp 4],(.seq (.ops [.box 1 (.t 0),.ak 2 (.c (.int .i64 0)),.ak 3 (.c (.int .i64 0)),.ak 4 (.c (.bool false))]) (.seq (.seq (.ops [.ay 7 (.t 1) 1,.load 8 none (.t 7),.bin 9 .leq (.t 8) (.c (.int .i64 0))]) (.cond (.t 9) (.seq (.ops [.ak 2 (.c (.int .i64 0)),.ak 3 (.c (.int .i64 0)),.ak 4 (.c (.bool false))]) .ret) .skip)) (.seq (.ops [.ay 10 (.t 1) 0,.load 11 none (.t 10),.mn 12 true (.t 11) (.c (.int .i64 0)),.ak 5 (.t 12),.ak 6 (.c (.int .i64 4096))]) (.seq (.seq (.ops [.ay 13 (.t 1) 0,.load 14 none (.t 13),.bin 15 .lss (.t 14) (.c (.int .i64 0)),.ah 16 (.t 15),.grd 16 false (.ay 17 (.t 1) 1),.grd 16 false (.load 18 none (.t 17)),.grd 16 false (.ay 19 (.t 1) 0),.grd 16 false (.load 20 none (.t 19)),.grd 16 false (.bin 21 .sub (.c (.int .i64 4096)) (.t 20)),.grd 16 false (.bin 22 .lss (.t 18) (.t 21)),.pick 23 (.t 16) (.c (.bool true)) (.t 22)]) (.cond (.t 23) (.ops [.ay 24 (.t 1) 0,.load 25 none (.t 24),.ay 26 (.t 1) 1,.load 27 none (.t 26),.bin 28 .add (.t 25) (.t 27),.mn 29 false (.t 28) (.c (.int .i64 4096)),.ak 6 (.t 29)]) .skip)) (.seq (.ops [.ah 30 (.t 5),.ah 31 (.t 6),.ah 32 (.t 5),.ah 33 (.t 6),.bin 34 .lss (.t 32) (.t 33),.ak 2 (.t 30),.ak 3 (.t 31),.ak 4 (.t 34)]) .ret)))))⟩
def adk:dP:=⟨2,10,[.tmp 4],(.seq (.ops [.box 2 (.t 0),.box 3 (.t 1),.ak 4 (.c (.int .i64 0))]) (.seq (.ops [.ay 5 (.t 2) 0,.load 6 none (.t 5),.ay 7 (.t 3) 0,.load 8 none (.t 7),.call 9 276 [(.t 6),(.t 8)],.ak 4 (.t 9)]) .ret))⟩
def adl:dP:=⟨2,20,[.tmp 4],(.seq (.ops [.ak 4 (.c (.int .i64 0))]) (.seq (.ops [.ah 7 (.t 0),.call 8 281 [(.t 7)],.ak 5 (.t 8)]) (.seq (.ops [.ah 9 (.t 1),.call 10 281 [(.t 9)],.ak 6 (.t 10)]) (.seq (.seq (.ops [.ah 11 (.t 5)]) (.cond (.t 11) (.seq (.seq (.ops [.ah 12 (.t 6)]) (.cond (.t 12) (.seq (.ops [.ak 4 (.c (.int .i64 0))]) .ret) .skip)) (.seq (.ops [.ak 4 (.c (.int .i64 (-1)))]) .ret)) .skip)) (.seq (.seq (.ops [.ah 13 (.t 6)]) (.cond (.t 13) (.seq (.ops [.ak 4 (.c (.int .i64 1))]) .ret) .skip)) (.seq (.seq (.ops [.ah 14 (.t 0),.ah 15 (.t 1),.bin 16 .lss (.t 14) (.t 15)]) (.cond (.t 16) (.seq (.ops [.ak 4 (.c (.int .i64 (-1)))]) .ret) .skip)) (.seq (.seq (.ops [.ah 17 (.t 0),.ah 18 (.t 1),.bin 19 .gtr (.t 17) (.t 18)]) (.cond (.t 19) (.seq (.ops [.ak 4 (.c (.int .i64 1))]) .ret) .skip)) (.seq (.ops [.ak 4 (.c (.int .i64 0))]) .ret))))))))⟩
def adn:dP:=⟨1,6,[.tmp 2],(.seq (.ops [.ak 2 (.c (.bool false))]) (.seq (.ops [.ah 3 (.t 0),.ah 4 (.t 0),.bin 5 .neq (.t 3) (.t 4),.ak 2 (.t 5)]) .ret))⟩
def tab:List (Nat×ZV):=[(6,.code fn6),(22,.code abP),(24,.code abQ),(25,.code abR),(26,.code abS),(27,.code abT),(28,.code abU),(30,.code UO),(31,.code abV),(32,.code abW),(39,.ext uy),(41,.code abX),(42,.code abY),(43,.code UQ),(76,.code abZ),(85,.code ab1),(87,.code ai3),(88,.code ai4),(89,.code ai5),(90,.code ai6),(91,.code ab2),(92,.code ab3),(93,.code ab4),(94,.code ab5),(95,.code ab6),(96,.code ab7),(97,.code YT),(98,.code ab8),(99,.code ab9),(100,.code O9),(101,.code Pg),(102,.code Ph),(103,.code Pj),(104,.code Pm),(105,.code Pn),(106,.code EW),(107,.ext (jA 1)),(108,.code Po),(109,.code Pq),(116,.code acf),(120,.ext (jA 1)),(128,.code Pv),(129,.code JF),(130,.code Px),(131,.code JG),(132,.code Py),(133,.ext (jA 8)),(154,.code aci),(161,.code acj),(165,.code Pz),(166,.code PD),(169,.code acn),(170,.code aco),(172,.code acp),(173,.code acr),(174,.code acv),(175,.code acw),(176,.code acy),(177,.code acz),(178,.code acA),(179,.code acB),(180,.code PE),(181,.code acE),(182,.code acF),(183,.code acG),(184,.code PG),(185,.code PL),(186,.code PN),(187,.code PO),(188,.code PS),(189,.code PU),(190,.code PW),(191,.code PX),(192,.code PY),(193,.code JH),(194,.code FK),(195,.code PZ),(196,.code P5),(203,.code P6),(204,.code P7),(205,.code P9),(206,.code Qc),(207,.code Qd),(208,.code Qe),(209,.code Qg),(213,.code Qh),(214,.code Qi),(219,.code acH),(222,.code acI),(223,.code Qj),(227,.code Qk),(228,.code Ql),(229,.code Qm),(233,.code acJ),(234,.code acM),(235,.code acN),(236,.code acQ),(237,.code acR),(238,.code acU),(239,.code acV),(240,.code acW),(241,.code acZ),(242,.code ac0),(243,.code Qn),(244,.code ac3),(245,.ext (jA 1)),(246,.code ac6),(247,.code ac7),(248,.code Qo),(249,.code Qp),(250,.code Qq),(251,.code Qr),(252,.code Qs),(255,.code Qw),(256,.code Qx),(257,.code Qy),(262,.code ade),(263,.code adf),(264,.ext tzX),(266,.code Qz),(267,.code adg),(268,.code adh),(269,.code adi),(270,.code QA),(271,.code QB),(273,.code CG),(274,.Ie (lS 275)),(275,.code adk),(276,.code adl),(281,.code adn)]
def env:Env:=fun f=>tab.lookup f
theorem ado:env 6=some (.code fn6):=rfl
theorem amu:env 22=some (.code abP):=rfl
theorem amv:env 24=some (.code abQ):=rfl
theorem amw:env 25=some (.code abR):=rfl
theorem amx:env 26=some (.code abS):=rfl
theorem amy:env 27=some (.code abT):=rfl
theorem amA:env 28=some (.code abU):=rfl
theorem adp:env 30=some (.code UO):=rfl
theorem amB:env 31=some (.code abV):=rfl
theorem amC:env 32=some (.code abW):=rfl
theorem amD:env 39=some (.ext uy):=rfl
theorem amE:env 41=some (.code abX):=rfl
theorem amF:env 42=some (.code abY):=rfl
theorem adq:env 43=some (.code UQ):=rfl
theorem amG:env 76=some (.code abZ):=rfl
theorem amH:env 85=some (.code ab1):=rfl
theorem amI:env 91=some (.code ab2):=rfl
theorem amJ:env 92=some (.code ab3):=rfl
theorem amK:env 93=some (.code ab4):=rfl
theorem amL:env 94=some (.code ab5):=rfl
theorem amM:env 95=some (.code ab6):=rfl
theorem amN:env 96=some (.code ab7):=rfl
theorem ahV:env 97=some (.code YT):=rfl
theorem amO:env 98=some (.code ab8):=rfl
theorem amP:env 99=some (.code ab9):=rfl
theorem ai7:env 100=some (.code O9):=rfl
theorem ai8:env 101=some (.code Pg):=rfl
theorem ai9:env 102=some (.code Ph):=rfl
theorem aja:env 103=some (.code Pj):=rfl
theorem ajb:env 104=some (.code Pm):=rfl
theorem ajc:env 105=some (.code Pn):=rfl
theorem UR:env 106=some (.code EW):=rfl
theorem ajd:env 107=some (.ext (jA 1)):=rfl
theorem aje:env 108=some (.code Po):=rfl
theorem ajf:env 109=some (.code Pq):=rfl
theorem ajg:env 120=some (.ext (jA 1)):=rfl
theorem ajh:env 128=some (.code Pv):=rfl
theorem adr:env 129=some (.code JF):=rfl
theorem aji:env 130=some (.code Px):=rfl
theorem ads:env 131=some (.code JG):=rfl
theorem ajj:env 132=some (.code Py):=rfl
theorem ajk:env 133=some (.ext (jA 8)):=rfl
theorem ajl:env 165=some (.code Pz):=rfl
theorem ajm:env 166=some (.code PD):=rfl
theorem ajn:env 180=some (.code PE):=rfl
theorem ajo:env 184=some (.code PG):=rfl
theorem ajp:env 185=some (.code PL):=rfl
theorem ajq:env 186=some (.code PN):=rfl
theorem ajr:env 187=some (.code PO):=rfl
theorem ajs:env 188=some (.code PS):=rfl
theorem ajt:env 189=some (.code PU):=rfl
theorem aju:env 190=some (.code PW):=rfl
theorem ajv:env 191=some (.code PX):=rfl
theorem ajw:env 192=some (.code PY):=rfl
theorem adt:env 193=some (.code JH):=rfl
theorem UU:env 194=some (.code FK):=rfl
theorem ajx:env 195=some (.code PZ):=rfl
theorem ajy:env 196=some (.code P5):=rfl
theorem ajz:env 203=some (.code P6):=rfl
theorem ajA:env 204=some (.code P7):=rfl
theorem ajB:env 205=some (.code P9):=rfl
theorem ajC:env 206=some (.code Qc):=rfl
theorem ajD:env 207=some (.code Qd):=rfl
theorem ajE:env 208=some (.code Qe):=rfl
theorem ajF:env 209=some (.code Qg):=rfl
theorem ajG:env 213=some (.code Qh):=rfl
theorem ajH:env 214=some (.code Qi):=rfl
theorem ajI:env 223=some (.code Qj):=rfl
theorem ajJ:env 227=some (.code Qk):=rfl
theorem ajK:env 228=some (.code Ql):=rfl
theorem ajL:env 229=some (.code Qm):=rfl
theorem ajM:env 243=some (.code Qn):=rfl
theorem ajN:env 248=some (.code Qo):=rfl
theorem ajO:env 249=some (.code Qp):=rfl
theorem ajP:env 250=some (.code Qq):=rfl
theorem ajQ:env 251=some (.code Qr):=rfl
theorem ajR:env 252=some (.code Qs):=rfl
theorem ajS:env 255=some (.code Qw):=rfl
theorem ajT:env 256=some (.code Qx):=rfl
theorem ajU:env 257=some (.code Qy):=rfl
theorem ajV:env 266=some (.code Qz):=rfl
theorem ajW:env 270=some (.code QA):=rfl
theorem ajX:env 271=some (.code QB):=rfl
theorem MB:env 273=some (.code CG):=rfl
theorem adu:env 274=some (.Ie (lS 275)):=rfl
end Go.Proofs.YthccglceomoboaaGreatDoor
namespace Go.Proofs.YthccglceomoboaaGreatDoor
open V
def jl:=(Zs (Zs (Zs (Zs (Zs (Zs (Zs (Zs (Zs @OH @aaZ) (Zs @aa0 @afE)) (Zs (Zs @OI @OJ) (Zs @aaY @Lc))) (Zs (Zs (Zs @aa3 @afz) (Zs @TS @TU)) (Zs (Zs @OC @OD) (Zs @afA @La)))) (Zs (Zs (Zs (Zs @OE @X4) (Zs @X5 @dH)) (Zs (Zs @Zb7.{0,0} @List.foldl_cons.{0,0}) (Zs @afw @afx))) (Zs (Zs (Zs @afB @afC) (Zs @aaU @Jz)) (Zs (Zs @aaW @afD) (Zs @OG @X7))))) (Zs (Zs (Zs (Zs (Zs @aaX @Dc) (Zs @Ld @IC)) (Zs (Zs @OO @aa4) (Zs @X9 @TW))) (Zs (Zs (Zs @afF @TQ) (Zs @Cj @OQ)) (Zs (Zs @Uc @OT) (Zs @Ud @fO.eq_1)))) (Zs (Zs (Zs (Zs @fO.eq_2 @fO.eq_3) (Zs @resultList.eq_1 @resultList.eq_2)) (Zs (Zs @nX.eq_1 @nX.eq_2) (Zs @nX.eq_3 @zBV.eq_1))) (Zs (Zs (Zs @zBV.eq_2 @splice.eq_1) (Zs @PV.tC.eq_1 @PV.tC.eq_2)) (Zs (Zs @PV.tC.eq_3 @PV.tC.eq_4) (Zs @St.iO.eq_1 (Zs @St.bn.eq_1 @St.fM.eq_1))))))) (Zs (Zs (Zs (Zs (Zs (Zs @St.fM.eq_2 @PV.single.eq_1) (Zs @PV.single.eq_2 @aa6)) (Zs (Zs @Yc @afM) (Zs @aa7 @aa8))) (Zs (Zs (Zs @Ye @aa9) (Zs @Yf @afO)) (Zs (Zs @abd @afP) (Zs @abe @abf)))) (Zs (Zs (Zs (Zs @afQ @afR) (Zs @afS @afT)) (Zs (Zs @afU @dH) (Zs @afV @dH))) (Zs (Zs (Zs @dH @afW) (Zs @afX @dH)) (Zs (Zs @af8 @af4) (Zs @af0 (Zs @afY @dH)))))) (Zs (Zs (Zs (Zs (Zs @abg @af6) (Zs @aiV @abj)) (Zs (Zs @abk @abl) (Zs @abm @abn))) (Zs (Zs (Zs @dH @agd) (Zs @agf @agh)) (Zs (Zs @dH @agi) (Zs @Yg @aiW)))) (Zs (Zs (Zs (Zs @agj @Yh) (Zs @agk @Yi)) (Zs (Zs @abo @abp) (Zs @agl @dH))) (Zs (Zs (Zs @dH @dH) (Zs @agm @agn)) (Zs (Zs @aiX @dH) (Zs @dH (Zs @Yj @agp)))))))) (Zs (Zs (Zs (Zs (Zs (Zs (Zs @agq @agr) (Zs @ags @agt)) (Zs (Zs @dH @agb) (Zs @dH @dH))) (Zs (Zs (Zs @agc @af9) (Zs @dH @aga)) (Zs (Zs @af5 @af2) (Zs @afZ @dH)))) (Zs (Zs (Zs (Zs @abh @af7) (Zs @aiY @abq)) (Zs (Zs @abr @abt) (Zs @abu @abv))) (Zs (Zs (Zs @dH @agu) (Zs @agv @agw)) (Zs (Zs @dH @agx) (Zs @Yk (Zs @aiZ @agy)))))) (Zs (Zs (Zs (Zs (Zs @Yl @agz) (Zs @Ym @abw)) (Zs (Zs @abx @agA) (Zs @dH @dH))) (Zs (Zs (Zs @dH @agB) (Zs @agC @ai0)) (Zs (Zs @dH @dH) (Zs @Yn @plain.eq_1)))) (Zs (Zs (Zs (Zs @plain.eq_2 @plain.eq_3) (Zs @plain.eq_4 @plain.eq_5)) (Zs (Zs @plain.eq_6 @plain.eq_7) (Zs @plain.eq_8 @plain.eq_9))) (Zs (Zs (Zs @plain.eq_10 @plain.eq_11) (Zs @plain.eq_12 @plain.eq_13)) (Zs (Zs @plain.eq_14 @plain.eq_15) (Zs @plain.eq_16 (Zs @plain.eq_17 @plain.eq_18))))))) (Zs (Zs (Zs (Zs (Zs (Zs @plain.eq_19 @plain.eq_20) (Zs @plain.eq_21 @plain.eq_22)) (Zs (Zs @plain.eq_23 @plain.eq_24) (Zs @plain.eq_25 @plain.eq_26))) (Zs (Zs (Zs @plain.eq_27 @plain.eq_28) (Zs @plain.eq_29 @plain.eq_30)) (Zs (Zs @plain.eq_31 @plain.eq_32) (Zs @plain.eq_33 @plain.eq_34)))) (Zs (Zs (Zs (Zs @plain.eq_35 @act.eq_1) (Zs @act.eq_2 @act.eq_3)) (Zs (Zs @act.eq_4 @act.eq_5) (Zs @act.eq_6 @act.eq_7))) (Zs (Zs (Zs @act.eq_8 @act.eq_9) (Zs @act.eq_10 @act.eq_11)) (Zs (Zs @act.eq_12 @act.eq_13) (Zs @act.eq_14 (Zs @act.eq_15 @act.eq_16)))))) (Zs (Zs (Zs (Zs (Zs @act.eq_17 @act.eq_18) (Zs @act.eq_19 @act.eq_20)) (Zs (Zs @act.eq_21 @act.eq_22) (Zs @act.eq_23 @bQ.eq_1))) (Zs (Zs (Zs @bQ.eq_2 @bQ.eq_3) (Zs @bQ.eq_4 @bQ.eq_5)) (Zs (Zs @bQ.eq_6 @bQ.eq_7) (Zs @bQ.eq_8 @bQ.eq_9)))) (Zs (Zs (Zs (Zs @bQ.eq_10 @bQ.eq_11) (Zs @bQ.eq_12 @bQ.eq_13)) (Zs (Zs @bQ.eq_14 @bQ.eq_15) (Zs @bQ.eq_16 @bQ.eq_17))) (Zs (Zs (Zs @bQ.eq_18 @bQ.eq_19) (Zs @bQ.eq_20 @bQ.eq_21)) (Zs (Zs @bQ.eq_22 @bQ.eq_23) (Zs @bQ.eq_24 (Zs @bQ.eq_25 @bQ.eq_26))))))))) (Zs (Zs (Zs (Zs (Zs (Zs (Zs (Zs @bQ.eq_27 @bQ.eq_28) (Zs @bQ.eq_29 @bQ.eq_30)) (Zs (Zs @bQ.eq_31 @bQ.eq_32) (Zs @bQ.eq_33 @bQ.eq_34))) (Zs (Zs (Zs @bQ.eq_35 @bQ.eq_36) (Zs @bQ.eq_37 @bQ.eq_38)) (Zs (Zs @bQ.eq_39 @bQ.eq_40) (Zs @bQ.eq_41 @bQ.eq_42)))) (Zs (Zs (Zs (Zs @bQ.eq_43 @bQ.eq_44) (Zs @bQ.eq_45 @bQ.eq_46)) (Zs (Zs @bQ.eq_47 @bQ.eq_48) (Zs @bQ.eq_49 @bQ.eq_50))) (Zs (Zs (Zs @bQ.eq_51 @bQ.eq_52) (Zs @bQ.eq_53 @bQ.eq_54)) (Zs (Zs @bQ.eq_55 @zm) (Zs @if_true.{1} @if_false.{1}))))) (Zs (Zs (Zs (Zs (Zs @Ue @OU) (Zs @St.get.eq_1 @St.get.eq_2)) (Zs (Zs @St.get.eq_3 @St.put.eq_1) (Zs @St.bW.eq_1 @St.putRow.eq_1))) (Zs (Zs (Zs @St.consume.eq_1 @St.consume.eq_2) (Zs @St.consume.eq_3 @St.freeze.eq_1)) (Zs (Zs @St.row.eq_1 @St.row.eq_2) (Zs @St.row.eq_3 @St.elems.eq_1)))) (Zs (Zs (Zs (Zs @St.grab.eq_1 @St.grab.eq_2) (Zs @St.grab.eq_3 @qL.eq_1)) (Zs (Zs @qL.eq_2 @qL.eq_3) (Zs @qL.eq_4 @Xk.eq_1))) (Zs (Zs (Zs @Xk.eq_2 @jU.eq_1) (Zs @jU.eq_2 @jU.eq_3)) (Zs (Zs @jU.eq_4 @St.takeRow.eq_1) (Zs @St.takeRow.eq_2 (Zs @St.takeRow.eq_3 @St.setRow.eq_1))))))) (Zs (Zs (Zs (Zs (Zs (Zs @St.setRow.eq_2 @St.setRow.eq_3) (Zs @St.place.eq_1 @St.place.eq_2)) (Zs (Zs @St.xM.eq_1 @St.xM.eq_2) (Zs @St.setCell.eq_1 @St.jT.eq_1))) (Zs (Zs (Zs @BK.eq_1 @BK.eq_2) (Zs @BK.eq_3 @BK.eq_4)) (Zs (Zs @DR.eq_1 @DR.eq_2) (Zs @DR.eq_3 @DR.eq_4)))) (Zs (Zs (Zs (Zs @gQ.eq_1 @gQ.eq_2) (Zs @gQ.eq_3 @gQ.eq_4)) (Zs (Zs @gQ.eq_5 @gQ.eq_6) (Zs @gQ.eq_7 @gQ.eq_8))) (Zs (Zs (Zs @gQ.eq_9 @gQ.eq_10) (Zs @gQ.eq_11 @gQ.eq_12)) (Zs (Zs @gQ.eq_13 @gQ.eq_14) (Zs @gQ.eq_15 (Zs @gQ.eq_16 @gQ.eq_17)))))) (Zs (Zs (Zs (Zs (Zs @Xj.eq_1 @Xj.eq_2) (Zs @Xj.eq_3 @Xj.eq_4)) (Zs (Zs @BV.val.eq_1 @BV.val.eq_2) (Zs @BV.av.eq_1 @BV.av.eq_2))) (Zs (Zs (Zs @YH @UF) (Zs @YI @UG)) (Zs (Zs @cells_func @YJ) (Zs @abK @YK)))) (Zs (Zs (Zs (Zs @YL @aby) (Zs @Yo @Yp)) (Zs (Zs @Um @abz) (Zs @Yr @Yq))) (Zs (Zs (Zs @abA @Yt) (Zs @Un @Uo)) (Zs (Zs @Ur @Us) (Zs @abB (Zs @Yu @Yv)))))))) (Zs (Zs (Zs (Zs (Zs (Zs (Zs @Ut @abC) (Zs @Yx @Yw)) (Zs (Zs @abD @Yy) (Zs @Uw @Uu))) (Zs (Zs (Zs @Uy @Ux) (Zs @abE @Yz)) (Zs (Zs @YA @Uz) (Zs @abG @YC)))) (Zs (Zs (Zs (Zs @YB @abH) (Zs @YD @UC)) (Zs (Zs @UA @UE) (Zs @UD @bound.eq_1))) (Zs (Zs (Zs @bound.eq_2 @bound.eq_3) (Zs @eF.eq_1 @eF.eq_2)) (Zs (Zs @gU.eq_1 @gU.eq_2) (Zs @xU.eq_1 (Zs @xU.eq_2 @capOf.eq_1)))))) (Zs (Zs (Zs (Zs (Zs @JB @aiU) (Zs @aN @aU)) (Zs (Zs @aJ @aT) (Zs @List.append_nil.{0} @aP))) (Zs (Zs (Zs @aK @Zaj) (Zs @Nat.add_zero @OX)) (Zs (Zs @OW @OV) (Zs @qX @decide_true)))) (Zs (Zs (Zs (Zs @decide_false @Bool.not_true) (Zs @Bool.not_false @Bool.true_eq_false)) (Zs (Zs @beq_self_eq_true.{0} @zz) (Zs @Bool.and_true @Za8))) (Zs (Zs (Zs @Bool.and_false @Zcq) (Zs @ZbR @Zcf)) (Zs (Zs @Bool.or_true @amo) (Zs @amq (Zs @Jy @X3))))))) (Zs (Zs (Zs (Zs (Zs (Zs @Z3.{0,0} @OY) (Zs @aa5 @OZ)) (Zs (Zs @Uf @afK) (Zs @Ug @Uh))) (Zs (Zs (Zs @afL @Ui) (Zs @dcall.eq_1 @AY.eq_1)) (Zs (Zs @afN.eq_1 @O4.eq_1) (Zs @JD.eq_1 @Lj.eq_1)))) (Zs (Zs (Zs (Zs @tH.eq_1 @nP.eq_1) (Zs @nP.eq_2 @nP.eq_3)) (Zs (Zs @TY @Ua) (Zs @Ub @afG))) (Zs (Zs (Zs @afH @VK) (Zs @afI @afJ)) (Zs (Zs @VL @OL) (Zs @aa1 (Zs @Df @Ey)))))) (Zs (Zs (Zs (Zs (Zs @Zb6.{0,0,0} @Uj) (Zs @St.jL.eq_1 @St.jL.eq_2)) (Zs (Zs @St.snap.eq_1 @St.snap.eq_2) (Zs @St.snap.eq_3 @St.snap.eq_4))) (Zs (Zs (Zs @St.snap.eq_5 @St.snap.eq_6) (Zs @Uk @Ya)) (Zs (Zs @Ul @Yb) (Zs @abI @YE)))) (Zs (Zs (Zs (Zs @abJ @YF) (Zs @YG @St.layAll.eq_1)) (Zs (Zs @St.layAll.eq_2 @St.lay.eq_1) (Zs @St.lay.eq_2 @St.lay.eq_3))) (Zs (Zs (Zs @Lh @O1) (Zs @St.bT.eq_1 @St.bF.eq_1)) (Zs (Zs @St.bF.eq_2 @St.bF.eq_3) (Zs @St.bF.eq_4 (Zs @St.bF.eq_5 @St.bF.eq_6))))))))))
def adv:=(Zs (Zs (Zs (Zs @List.isEmpty_nil.{0} (Zs @afb @RZ)) (Zs @I7 (Zs @Xl @Xm))) (Zs (Zs @RY (Zs @Int.le_refl @zD)) (Zs @ze (Zs @St.bD.eq_1 @BV.frozen.eq_1)))) (Zs (Zs (Zs @BV.frozen.eq_2 (Zs @Zas.{0} @ZaP.{0})) (Zs @aF (Zs @Int.toNat_zero @true_and))) (Zs (Zs @and_true (Zs @and_self @eq_self.{1})) (Zs @qX (Zs @List.drop_nil.{0} @Zde.{0})))))
def bI:=(Zs (Zs @Nat.zero_le (Zs @Zbn.{0} @Zde.{0})) (Zs (Zs @List.take_succ_cons.{0} @zd.{0}) (Zs @List.length_nil.{0} @ze)))
def bJ:=Zs @adv @jl
end Go.Proofs.YthccglceomoboaaGreatDoor
namespace Go.Proofs.YthccglceomoboaaGreatDoor.V
theorem sO (x:cZ):part (je x) 0 (some 8)=some (.agg (je x)):=by
 simp only [part,fV,Zaj,ZaT]
 rw [if_pos (ze _),ZaH (by rw [fV];exact ze _)]
theorem GV:∀ a b:List UInt8,a.length=b.length→gB (a.map fun b=>.int .u8 (b.toNat:Int)) (b.map fun b=>.int .u8 (b.toNat:Int))=some (decide (a=b))
 |[],[],_=>rfl
 |x::a,y::b,h=>by
  simp only [zd,Nat.add_right_cancel_iff] at h
  simp only [Zai,gB,if_pos,GV a b h,Option.map_some,Zbo.injEq]
  congr 1
  have:((x.toNat:Int)==(y.toNat:Int))=decide (x=y):=by
   by_cases e:x=y
   ·subst e;simp
   ·have:¬ x.toNat=y.toNat:=fun h=>e (UInt8.toNat_inj.1 h)
    simp [e];omega
  rw [this,Bool.decide_and]
 |[],_::_,h=>by simp at h
 |_::_,[],h=>by simp at h
theorem ru (a b:cZ):gB (je a) (je b)=some (decide (a=b)):=by
 unfold je
 rw [GV _ _ (by simp)]
 congr 1
 apply decide_eq_decide.2
 exact ⟨fun h=>Vector.toList_inj.1 h,fun h=>by rw [h]⟩
def agJ {α:Type}(p:α→Bool)(l:List α):Int:=if l.any p then (l.findIdx p:Int) else -1
theorem QC {α:Type}(p:α→Bool)(l:List α):decide (agJ p l ≥ 0)=l.any p:=by
 unfold agJ
 cases l.any p
 ·rfl
 ·simp only [if_true];exact decide_eq_true (by omega)
def eqF {α β:Type}(eq:α→β→Bool)(l:List α)(m:List β):Bool:=decide (l.length=m.length)&&(l.zip m).all fun q=>eq q.1 q.2
--+
theorem agK {α:Type}{enc:α→PV}{l:List α}{p:α→Bool}{gf:Nat}{caps:List PV}(hp:∀ x∈l,cal env gf (enc x::caps)=some [(.bool (p x),false)])(hs:∀ x,part (enc x).cells 0 none=some (enc x))(hl:l.length≤lim)
  {st:St} (h:st.head [0,1,7,8] st.boxes.length=some ⟨[.pv (.list 1 (l.map enc)),.pv (.func gf caps),.any,.any,.any,.any,.any,.pv (.int .i64 l.length),.pv (.int .i64 (0:Nat)),.any,.any,.any,.any,.any,.any,.any,.any,.any,.any],[],[],none⟩) :
  den env GH st=if l.any p then some (.ret,⟨[.any,.any,.any,.any,.pv (.int .i64 (l.findIdx p)),.any,.any,.any,.any,.any,.any,.any,.any,.any,.any,.any,.any,.any,.any],[],[],none⟩) else some (.normal,⟨[.any,.any,.any,.any,.any,.any,.any,.any,.any,.any,.any,.any,.any,.any,.any,.any,.any,.any,.any],[],[],none⟩):=by
 unfold GH
 rw [aY l.length (fun i=>⟨[.pv (.list 1 (l.map enc)),.pv (.func gf caps),.any,.any,.any,.any,.any,.pv (.int .i64 l.length),.pv (.int .i64 i),.any,.any,.any,.any,.any,.any,.any,.any,.any,.any],[],[],none⟩)
  (fun i=>if (l.drop i).any p then some (.ret,⟨[.any,.any,.any,.any,.pv (.int .i64 ((i+(l.drop i).findIdx p:Nat):Int)),.any,.any,.any,.any,.any,.any,.any,.any,.any,.any,.any,.any,.any,.any],[],[],none⟩) else some (.normal,⟨[.any,.any,.any,.any,.any,.any,.any,.any,.any,.any,.any,.any,.any,.any,.any,.any,.any,.any,.any],[],[],none⟩)) h (fun _=>rfl) (fun _=>rfl) ?_ ?_]
 ·simp only [ZaT,Zaj]
 ·intro i rb hi ih
  have hi1:=bC hi hl
  have F1:((i:Int)<(l.length:Int))=True:=eq_true (by omega)
  simp only [Gz,F1,Z3,au hi,zc,ZD hi,hp _ (Zap hi),hs,jl,reduceCtorEq,Nat.reduceEqDiff,Nat.reduceAdd,Nat.reduceLT,Nat.reduceLeDiff,Z6]
  (try simp only [dB,dO,dD]);refine bV (fun hb=>?_) (fun hb=>?_)<;>try simp only [hb,bJ,reduceCtorEq,Nat.reduceEqDiff,Nat.reduceAdd,Nat.reduceLT,Nat.reduceLeDiff,Z6]
  ·rw [zr hi]
   simp only [ZcC,hb,Zcq,if_true,Zca,cond_true,Nat.add_zero]
   rfl
  ·rw [ih _ (by simp only [hi1];rfl),zr hi]
   simp only [ZcC,hb,ZbR,Zca,cond_false,Nat.add_assoc,Nat.add_comm 1]
 ·intro rb
  simp only [Gz,Zat,jl,reduceCtorEq,Nat.reduceEqDiff,Nat.reduceAdd,Nat.reduceLT,Nat.reduceLeDiff,Z6]
  simp only [ZaG,List.any_nil,zm,if_false]
  rfl
theorem ajY {α:Type}{enc:α→PV}{l:List α}{p:α→Bool}{gf:Nat}{caps:List PV}(hp:∀ x∈l,cal env gf (enc x::caps)=some [(.bool (p x),false)])(hs:∀ x,part (enc x).cells 0 none=some (enc x))(hl:l.length≤lim) :
  cal env 266 [.list 1 (l.map enc),.func gf caps]=some [(.int .i64 (agJ p l),false)]:=by
 rw [aA ajV rfl];simp only [Qz];simp only [start,aN,aU,aJ,aT,aF,aH,aK,aP,Nat.reduceAdd,Nat.reduceSub]
 simp only [Z3,jl,reduceCtorEq,Nat.reduceEqDiff,Nat.reduceAdd,Nat.reduceLT,Nat.reduceLeDiff,Z6]
 rw [agK hp hs hl]
 rotate_left
 ·rfl
 ·simp only [agJ]
  split<;>simp only [jl,reduceCtorEq,Nat.reduceEqDiff,Nat.reduceAdd,Nat.reduceLT,Nat.reduceLeDiff,Z6]
--+
theorem ajZ {α:Type}{enc:α→PV}{l:List α}{p:α→Bool}{gf:Nat}{caps:List PV}(hp:∀ x∈l,cal env gf (enc x::caps)=some [(.bool (p x),false)])(hs:∀ x,part (enc x).cells 0 none=some (enc x))(hl:l.length≤lim) :
  cal env 223 [.list 1 (l.map enc),.func gf caps]=some [(.bool (l.any p),false)]:=by
 rw [aA ajI rfl];simp only [Qj];simp only [start,aN,aU,aJ,aT,aF,aH,aK,aP,Nat.reduceAdd,Nat.reduceSub]
 simp only [ajY hp hs hl,QC,jl,reduceCtorEq,Nat.reduceEqDiff,Nat.reduceAdd,Nat.reduceLT,Nat.reduceLeDiff,Z6]
--+
theorem aj0 {l m:List Int}(hlm:l.length=m.length)(hl:l.length≤lim)
  {st:St} (h:st.head [0,1,12,13] st.boxes.length=some ⟨[.pv (.list 1 (l.map eI)),.pv (.list 1 (m.map eI)),.any,.any,.any,.any,.any,.any,.any,.any,.any,.any,.pv (.int .i64 l.length),.pv (.int .i64 (0:Nat)),.any,.any,.any,.any,.any,.any,.any,.any,.any,.any,.any,.any],[],[],none⟩) :
  den env Me st=if l=m then some (.normal,⟨[.any,.any,.any,.any,.any,.any,.any,.any,.any,.any,.any,.any,.any,.any,.any,.any,.any,.any,.any,.any,.any,.any,.any,.any,.any,.any],[],[],none⟩) else some (.ret,⟨[.any,.any,.any,.any,.pv (.bool false),.any,.any,.any,.any,.any,.any,.any,.any,.any,.any,.any,.any,.any,.any,.any,.any,.any,.any,.any,.any,.any],[],[],none⟩):=by
 unfold Me
 rw [aY l.length (fun i=>⟨[.pv (.list 1 (l.map eI)),.pv (.list 1 (m.map eI)),.any,.any,.any,.any,.any,.any,.any,.any,.any,.any,.pv (.int .i64 l.length),.pv (.int .i64 i),.any,.any,.any,.any,.any,.any,.any,.any,.any,.any,.any,.any],[],[],none⟩)
  (fun i=>if l.drop i=m.drop i then some (.normal,⟨[.any,.any,.any,.any,.any,.any,.any,.any,.any,.any,.any,.any,.any,.any,.any,.any,.any,.any,.any,.any,.any,.any,.any,.any,.any,.any],[],[],none⟩) else some (.ret,⟨[.any,.any,.any,.any,.pv (.bool false),.any,.any,.any,.any,.any,.any,.any,.any,.any,.any,.any,.any,.any,.any,.any,.any,.any,.any,.any,.any,.any],[],[],none⟩)) h (fun _=>rfl) (fun _=>rfl) ?_ ?_]
 ·simp only [ZaT]
 ·intro i rb hi ih
  have hi1:=bC hi hl
  have hj:i<m.length:=by omega
  have F1:((i:Int)<(l.length:Int))=True:=eq_true (by omega)
  simp only [Md,F1,Z3,au hi,au hj,zc,ZD hi,ZD hj,eI,bH,aZ,sO,fV,ru,gB,jl,reduceCtorEq,Nat.reduceEqDiff,Nat.reduceAdd,Nat.reduceLT,Nat.reduceLeDiff,Z6]
  (try simp only [dB,dO,dD]);refine bV (fun hb=>?_) (fun hb=>?_)<;>try simp only [hb,bJ,reduceCtorEq,Nat.reduceEqDiff,Nat.reduceAdd,Nat.reduceLT,Nat.reduceLeDiff,Z6]
  ·rw [ih _ (by simp only [hi1];rfl),zr hi,zr hj]
   have e:l[i]=m[i]:=by
    revert hb
    generalize l[i]=x
    generalize m[i]=y
    first|(intro hb;simpa using hb)|(cases x;cases y;intro hb;simpa using hb)
   simp only [e,Zbo.injEq,true_and]
  ·rw [zr hi,zr hj,if_neg (fun e=>?_)]
   ·rfl
   ·have e:=(Zbo.inj e).1
    rw [e] at hb
    simp at hb
 ·intro rb
  simp only [Md,Zat,jl,reduceCtorEq,Nat.reduceEqDiff,Nat.reduceAdd,Nat.reduceLT,Nat.reduceLeDiff,Z6]
  rw [ZaG,hlm,ZaG,if_pos rfl]
  rfl
theorem adw {l m:List Int}(hl:l.length≤lim) :
  cal env 99 [.list 1 (l.map eI),.list 1 (m.map eI)]=some [(.bool (decide (l=m)),false)]:=by
 rw [aA amP rfl];simp only [ab9];simp only [start,aN,aU,aJ,aT,aF,aH,aK,aP,Nat.reduceAdd,Nat.reduceSub]
 simp only [Z3,jl,reduceCtorEq,Nat.reduceEqDiff,Nat.reduceAdd,Nat.reduceLT,Nat.reduceLeDiff,Z6]
 (try simp only [dB,dO,dD]);refine bV (fun hb=>?_) (fun hb=>?_)<;>try simp only [hb,bJ,reduceCtorEq,Nat.reduceEqDiff,Nat.reduceAdd,Nat.reduceLT,Nat.reduceLeDiff,Z6]
 ·have hlm:l.length=m.length:=by simp at hb;omega
  rw [aj0 hlm hl]
  rotate_left
  ·rfl
  ·by_cases e:l=m
   ·simp only [e,jl,reduceCtorEq,Nat.reduceEqDiff,Nat.reduceAdd,Nat.reduceLT,Nat.reduceLeDiff,Z6]
   ·simp only [e,jl,reduceCtorEq,Nat.reduceEqDiff,Nat.reduceAdd,Nat.reduceLT,Nat.reduceLeDiff,Z6]
 ·have:l≠m:=fun e=>by subst e;simp at hb
  simp only [this,jl,reduceCtorEq,Nat.reduceEqDiff,Nat.reduceAdd,Nat.reduceLT,Nat.reduceLeDiff,Z6]
--+
theorem aj1 {es:List PV}(hl:es.length≤lim):cal env 133 [.list 8 es]=some [(.list 8 es,true)]:=(Du ajk).trans (if_pos ⟨rfl,hl⟩)
def kU (l:List Int):Int:=if l.length<1∨8<l.length then 6 else if l.any (fun n=>decide (n<1) || decide (n > 4096)) then 2 else 0
def gJ (im:nY):List Int:=im.map fun v=>(v.length:Int)
def iy (im:nY):Int:=kU (gJ im)
def zS (im:nY)(w:kM):Int :=
 if w.volume<0∨(im.length:Int)≤w.volume then 7 else if w.data.length=0 then 1
 else if w.start<0∨((im.getD w.volume.toNat []).length:Int) - w.data.length<w.start then 2 else 0
theorem IG {α β:Type}(f:α→β){l:List α}{i:Nat}(h:i<l.length):(l.take i).map f++[f l[i]]=(l.take (i+1)).map f:=by
 rw [List.take_succ,ZD h,List.map_append];rfl
theorem agL {α:Type}{enc:α→PV}{l:List α}{g:α→Int}{gf:Nat}{caps:List PV}(hp:∀ x∈l,cal env gf (enc x::caps)=some [(eI (g x),false)])(hs:∀ x,part (enc x).cells 0 none=some (enc x))(hs3:∀ x,(enc x).cells.length=1)(hl:l.length≤lim)
  {st:St} (h:st.head [0,1,5,10,11,12,13,22] st.boxes.length=some ⟨[.pv (.list 1 (l.map enc)),.pv (.func gf caps),.any,.any,.any,.row 1 [],.any,.any,.any,.any,.any,.pv (.list 1 (l.map enc)),.pv (.int .i64 l.length),.pv (.int .i64 (0:Nat)),.any,.any,.any,.any,.any,.any,.any,.any,.any,.any,.any],[],[],none⟩) :
  den env Gi st=some (.normal,⟨[.any,.any,.any,.any,.any,.row 1 (l.map fun x=>eI (g x)),.any,.any,.any,.any,.any,.any,.any,.any,.any,.any,.any,.any,.any,.any,.any,.any,.any,.any,.any],[],[],none⟩):=by
 unfold Gi
 rw [aY l.length (fun i=>⟨[.pv (.list 1 (l.map enc)),.pv (.func gf caps),.any,.any,.any,.row 1 ((l.take i).map fun x=>eI (g x)),.any,.any,.any,.any,.any,.pv (.list 1 (l.map enc)),.pv (.int .i64 l.length),.pv (.int .i64 i),.any,.any,.any,.any,.any,.any,.any,.any,.any,.any,.any],[],[],none⟩)
  (fun i=>some (.normal,⟨[.any,.any,.any,.any,.any,.row 1 (l.map fun x=>eI (g x)),.any,.any,.any,.any,.any,.any,.any,.any,.any,.any,.any,.any,.any,.any,.any,.any,.any,.any,.any],[],[],none⟩)) h (fun _=>rfl) (fun _=>rfl) ?_ ?_]
 ·intro i rb hi ih
  have hi1:=bC hi hl
  have F1:((i:Int)<(l.length:Int))=True:=eq_true (by omega)
  have F2:((l.take i).length+1≤lim)=True:=eq_true (by rw [List.length_take];omega)
  have hpi:cal env gf (enc l[i]::caps)=some [((PV.int .i64 (g l[i])),false)]:=hp _ (Zap hi)
  try simp only [aZ] at hpi
  simp only [Gh,F1,F2,au hi,zc,ZD hi,hpi,hs,hs3,bJ,reduceCtorEq,Nat.reduceEqDiff,Nat.reduceAdd,Nat.reduceLT,Nat.reduceLeDiff,Z6]
  rw [ih _ (by simp only [hi1];rw [← IG _ hi];rfl)]
 ·intro rb
  simp only [Gh,Zat,jl,reduceCtorEq,Nat.reduceEqDiff,Nat.reduceAdd,Nat.reduceLT,Nat.reduceLeDiff,Z6]
  rw [Zas]
  rfl
theorem aj2 {α:Type}{enc:α→PV}{l:List α}{g:α→Int}{gf:Nat}{caps:List PV}(hp:∀ x∈l,cal env gf (enc x::caps)=some [(eI (g x),false)])(hs:∀ x,part (enc x).cells 0 none=some (enc x))(hs3:∀ x,(enc x).cells.length=1)(hl:l.length≤lim) :
  cal env 228 [.list 1 (l.map enc),.func gf caps]=some [(.list 1 (l.map fun x=>eI (g x)),true)]:=by
 rw [aA ajK rfl];simp only [Ql];simp only [start,aN,aU,aJ,aT,aF,aH,aK,aP,Nat.reduceAdd,Nat.reduceSub]
 have F1:((l.length:Int)≤(lim:Int))=True:=eq_true (by omega)
 have F2:((0:Int)≤(l.length:Int))=True:=eq_true (by omega)
 simp only [F1,F2,Int.le_refl,bJ,reduceCtorEq,Nat.reduceEqDiff,Nat.reduceAdd,Nat.reduceLT,Nat.reduceLeDiff,Z6]
 rw [agL hp hs hs3 hl]
 rotate_left
 ·rfl
 ·simp only [bJ,reduceCtorEq,Nat.reduceEqDiff,Nat.reduceAdd,Nat.reduceLT,Nat.reduceLeDiff,Z6]
theorem aj3 {x:Int}:cal env 227 [eI x]=some [(.bool (decide (x<1) || decide (x > 4096)),false)]:=by
 unfold eI
 rw [aA ajJ rfl];simp only [Qk];simp only [start,aN,aU,aJ,aT,aF,aH,aK,aP,Nat.reduceAdd,Nat.reduceSub]
 simp only [bJ,reduceCtorEq,Nat.reduceEqDiff,Nat.reduceAdd,Nat.reduceLT,Nat.reduceLeDiff,Z6]
 (try simp only [dB,dO,dD]);refine bV (fun hb=>?_) (fun hb=>?_)<;>try simp only [hb,bJ,reduceCtorEq,Nat.reduceEqDiff,Nat.reduceAdd,Nat.reduceLT,Nat.reduceLeDiff,Z6]
theorem aj6 {l:List Int}(hl:l.length≤lim):cal env 165 [.list 1 (l.map eI)]=some [(.int .i64 (kU l),false)]:=by
 have e1:=ajZ (l:=l) (enc:=eI) (fun x _=>aj3 (x:=x)) (fun x=>rfl) hl
 rw [aA ajl rfl];simp only [Pz];simp only [start,aN,aU,aJ,aT,aF,aH,aK,aP,Nat.reduceAdd,Nat.reduceSub]
 simp only [e1,bJ,reduceCtorEq,Nat.reduceEqDiff,Nat.reduceAdd,Nat.reduceLT,Nat.reduceLeDiff,Z6]
 repeat' ((try simp only [dB,dO,dD]);refine bV (fun hb=>?_) (fun hb=>?_)<;>try simp only [hb,e1,bJ,reduceCtorEq,Nat.reduceEqDiff,Nat.reduceAdd,Nat.reduceLT,Nat.reduceLeDiff,Z6])
 all_goals grind [kU]
theorem aj7 {v:List cZ}:cal env 229 [eP v]=some [(eI v.length,false)]:=by
 unfold eP eI
 rw [aA ajL rfl];simp only [Qm];simp only [start,aN,aU,aJ,aT,aF,aH,aK,aP,Nat.reduceAdd,Nat.reduceSub]
 simp only [bJ,reduceCtorEq,Nat.reduceEqDiff,Nat.reduceAdd,Nat.reduceLT,Nat.reduceLeDiff,Z6]
theorem aj8 {im:nY}(hl:im.length≤lim):cal env 166 [.list 1 (im.map eP)]=some [(.list 1 ((gJ im).map eI),true)]:=by
 have e1:=aj2 (enc:=eP) (l:=im) (fun x _=>aj7 (v:=x)) (fun x=>rfl) (fun x=>rfl) hl
 rw [aA ajm rfl];simp only [PD];simp only [start,aN,aU,aJ,aT,aF,aH,aK,aP,Nat.reduceAdd,Nat.reduceSub]
 simp only [e1,bJ,reduceCtorEq,Nat.reduceEqDiff,Nat.reduceAdd,Nat.reduceLT,Nat.reduceLeDiff,Z6]
 simp [gJ]
theorem amQ {im:nY}(hl:im.length≤lim):cal env 76 [.list 1 (im.map eP)]=some [(.int .i64 (iy im),false)]:=by
 have h2:(gJ im).length≤lim:=by simpa [gJ] using hl
 have e1:=aj8 hl
 have e2:=aj6 h2
 rw [aA amG rfl];simp only [abZ];simp only [start,aN,aU,aJ,aT,aF,aH,aK,aP,Nat.reduceAdd,Nat.reduceSub]
 simp only [e1,e2,bJ,reduceCtorEq,Nat.reduceEqDiff,Nat.reduceAdd,Nat.reduceLT,Nat.reduceLeDiff,Z6]
 rfl
theorem aj9 {a b:List cZ}(hl:a.length≤lim)(hab:a.length=b.length){st:St}(h:st.head [0,1,5] st.boxes.length=some ⟨[.pv (.list 8 (a.map bH)),.pv (.list 8 (b.map bH)),.any,.any,.any,.pv (.int .i64 (0:Nat)),.any,.any,.any,.any,.any,.any,.any,.any,.any,.any,.any,.any,.any,.any,.any,.any,.any,.any,.any,.any],[],[],none⟩) :
  den env LZ st=if a=b then some (.normal,⟨[.any,.any,.any,.any,.any,.any,.any,.any,.any,.any,.any,.any,.any,.any,.any,.any,.any,.any,.any,.any,.any,.any,.any,.any,.any,.any],[],[],none⟩) else some (.ret,⟨[.any,.any,.any,.any,.pv (.bool false),.any,.any,.any,.any,.any,.any,.any,.any,.any,.any,.any,.any,.any,.any,.any,.any,.any,.any,.any,.any,.any],[],[],none⟩):=by
 unfold LZ
 rw [ aY (env:=env) (a.length) (fun i=>⟨[.pv (.list 8 (a.map bH)),.pv (.list 8 (b.map bH)),.any,.any,.any,.pv (.int .i64 i),.any,.any,.any,.any,.any,.any,.any,.any,.any,.any,.any,.any,.any,.any,.any,.any,.any,.any,.any,.any],[],[],none⟩) (fun i=>if a.drop i=b.drop i then some (.normal,⟨[.any,.any,.any,.any,.any,.any,.any,.any,.any,.any,.any,.any,.any,.any,.any,.any,.any,.any,.any,.any,.any,.any,.any,.any,.any,.any],[],[],none⟩) else some (.ret,⟨[.any,.any,.any,.any,.pv (.bool false),.any,.any,.any,.any,.any,.any,.any,.any,.any,.any,.any,.any,.any,.any,.any,.any,.any,.any,.any,.any,.any],[],[],none⟩)) h (fun _=>rfl) (fun _=>rfl) ?_ ?_]
 ·first|rfl|simp only [ZaT,Zbn,Zar,Zaj,Zbd,Zb7]
 ·intro i rb hi ih
  have hi1:=bC hi hl
  have hj:i<b.length:=by omega
  have F1:((i:Int)<(a.length:Int))=True:=eq_true (by omega)
  simp only [LY,F1,bH,au hi,au hj,zc,ZD hi,ZD hj,sO,fV,ru,bJ,reduceCtorEq,Nat.reduceEqDiff,Nat.reduceAdd,Nat.reduceLT,Nat.reduceLeDiff,Z6]
  rw [zr hi,zr hj]
  (try simp only [dB,dO,dD]);refine bV (fun hb=>?_) (fun hb=>?_)<;>try simp only [hb,bJ,reduceCtorEq,Nat.reduceEqDiff,Nat.reduceAdd,Nat.reduceLT,Nat.reduceLeDiff,Z6]
  ·rw [ih _ (by simp only [hi1];rfl)]
   simp only [decide_eq_true_eq] at hb
   simp only [hb,Zbo.injEq,true_and]
  ·simp only [decide_eq_false_iff_not] at hb
   simp only [hb,Zbo.injEq,false_and,if_false]
   rfl
 ·intro rb
  simp only [LY,Zat,bJ,reduceCtorEq,Nat.reduceEqDiff,Nat.reduceAdd,Nat.reduceLT,Nat.reduceLeDiff,Z6]
  rw [ZaG,hab,ZaG,if_pos rfl]
  rfl
theorem ahW {a b:List cZ}(hl:a.length≤lim):cal env 85 [.list 8 (a.map bH),.list 8 (b.map bH)]=some [(.bool (decide (a=b)),false)]:=by
 rw [aA amH rfl];simp only [ab1];simp only [start,aN,aU,aJ,aT,aF,aH,aK,aP,Nat.reduceAdd,Nat.reduceSub]
 simp only [bJ,reduceCtorEq,Nat.reduceEqDiff,Nat.reduceAdd,Nat.reduceLT,Nat.reduceLeDiff,Z6]
 (try simp only [dB,dO,dD]);refine bV (fun hb=>?_) (fun hb=>?_)<;>try simp only [hb,bJ,reduceCtorEq,Nat.reduceEqDiff,Nat.reduceAdd,Nat.reduceLT,Nat.reduceLeDiff,Z6]
 ·have hab:a.length=b.length:=by simp at hb;omega
  rw [aj9 hl hab]
  rotate_left
  ·rfl
  ·by_cases e:a=b<;>simp only [e,jl,reduceCtorEq,Nat.reduceEqDiff,Nat.reduceAdd,Nat.reduceLT,Nat.reduceLeDiff,Z6]
 ·have:a≠b:=fun e=>by subst e;simp at hb
  simp only [this,jl,reduceCtorEq,Nat.reduceEqDiff,Nat.reduceAdd,Nat.reduceLT,Nat.reduceLeDiff,Z6]
theorem akb {a b:nY}(hl:a.length≤lim)(hr:∀ v∈a,v.length≤lim)(hab:a.length=b.length){st:St}(h:st.head [0,1,5] st.boxes.length=some ⟨[.pv (.list 1 (a.map eP)),.pv (.list 1 (b.map eP)),.any,.any,.any,.pv (.int .i64 (0:Nat)),.any,.any,.any,.any,.any,.any,.any,.any,.any,.any,.any,.any,.any,.any,.any,.any,.any,.any,.any,.any,.any],[],[],none⟩) :
  den env Lu st=if a=b then some (.normal,⟨[.any,.any,.any,.any,.any,.any,.any,.any,.any,.any,.any,.any,.any,.any,.any,.any,.any,.any,.any,.any,.any,.any,.any,.any,.any,.any,.any],[],[],none⟩) else some (.ret,⟨[.any,.any,.any,.any,.pv (.bool false),.any,.any,.any,.any,.any,.any,.any,.any,.any,.any,.any,.any,.any,.any,.any,.any,.any,.any,.any,.any,.any,.any],[],[],none⟩):=by
 unfold Lu
 rw [ aY (env:=env) (a.length) (fun i=>⟨[.pv (.list 1 (a.map eP)),.pv (.list 1 (b.map eP)),.any,.any,.any,.pv (.int .i64 i),.any,.any,.any,.any,.any,.any,.any,.any,.any,.any,.any,.any,.any,.any,.any,.any,.any,.any,.any,.any,.any],[],[],none⟩) (fun i=>if a.drop i=b.drop i then some (.normal,⟨[.any,.any,.any,.any,.any,.any,.any,.any,.any,.any,.any,.any,.any,.any,.any,.any,.any,.any,.any,.any,.any,.any,.any,.any,.any,.any,.any],[],[],none⟩) else some (.ret,⟨[.any,.any,.any,.any,.pv (.bool false),.any,.any,.any,.any,.any,.any,.any,.any,.any,.any,.any,.any,.any,.any,.any,.any,.any,.any,.any,.any,.any,.any],[],[],none⟩)) h (fun _=>rfl) (fun _=>rfl) ?_ ?_]
 ·first|rfl|simp only [ZaT,Zbn,Zar,Zaj,Zbd,Zb7]
 ·intro i rb hi ih
  have hi1:=bC hi hl
  have hj:i<b.length:=by omega
  have F1:((i:Int)<(a.length:Int))=True:=eq_true (by omega)
  have e1:=ahW (b:=b[i]) (hr _ (Zap hi))
  simp only [Ls,F1,e1,eP,au hi,au hj,zc,ZD hi,ZD hj,bJ,reduceCtorEq,Nat.reduceEqDiff,Nat.reduceAdd,Nat.reduceLT,Nat.reduceLeDiff,Z6]
  rw [zr hi,zr hj]
  (try simp only [dB,dO,dD]);refine bV (fun hb=>?_) (fun hb=>?_)<;>try simp only [hb,bJ,reduceCtorEq,Nat.reduceEqDiff,Nat.reduceAdd,Nat.reduceLT,Nat.reduceLeDiff,Z6]
  ·rw [ih _ (by simp only [hi1];rfl)]
   simp only [decide_eq_true_eq] at hb
   simp only [hb,Zbo.injEq,true_and]
  ·simp only [decide_eq_false_iff_not] at hb
   simp only [hb,Zbo.injEq,false_and,if_false]
   rfl
 ·intro rb
  simp only [Ls,Zat,bJ,reduceCtorEq,Nat.reduceEqDiff,Nat.reduceAdd,Nat.reduceLT,Nat.reduceLeDiff,Z6]
  rw [ZaG,hab,ZaG,if_pos rfl]
  rfl
theorem amR {a b:nY}(hl:a.length≤lim)(hr:∀ v∈a,v.length≤lim):cal env 22 [.list 1 (a.map eP),.list 1 (b.map eP)]=some [(.bool (decide (a=b)),false)]:=by
 rw [aA amu rfl];simp only [abP];simp only [start,aN,aU,aJ,aT,aF,aH,aK,aP,Nat.reduceAdd,Nat.reduceSub]
 simp only [bJ,reduceCtorEq,Nat.reduceEqDiff,Nat.reduceAdd,Nat.reduceLT,Nat.reduceLeDiff,Z6]
 (try simp only [dB,dO,dD]);refine bV (fun hb=>?_) (fun hb=>?_)<;>try simp only [hb,bJ,reduceCtorEq,Nat.reduceEqDiff,Nat.reduceAdd,Nat.reduceLT,Nat.reduceLeDiff,Z6]
 ·have hab:a.length=b.length:=by simp at hb;omega
  rw [akb hl hr hab]
  rotate_left
  ·rfl
  ·by_cases e:a=b<;>simp only [e,jl,reduceCtorEq,Nat.reduceEqDiff,Nat.reduceAdd,Nat.reduceLT,Nat.reduceLeDiff,Z6]
 ·have:a≠b:=fun e=>by subst e;simp at hb
  simp only [this,jl,reduceCtorEq,Nat.reduceEqDiff,Nat.reduceAdd,Nat.reduceLT,Nat.reduceLeDiff,Z6]
end Go.Proofs.YthccglceomoboaaGreatDoor.V
