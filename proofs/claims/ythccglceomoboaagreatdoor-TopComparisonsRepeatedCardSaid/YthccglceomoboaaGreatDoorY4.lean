/-
  Part 4 of the texts that the statement stands on.
-/
import Derived.Test.YthccglceomoboaaGreatDoorY3
import Derived.IntWalk
import Derived.Sort.Defs
import Derived.Lib.BitFns
import Derived.Shelf.Lays7
import Derived.Ground.Names7Prog
import Derived.Test.YthccglceomoboaaGreatDoorProg
import Derived.Shelf.Spec.TrailingZeros
import Derived.ProofKit
import Derived.SizedLaws
import Derived.OpenShut
import Derived.Deep.Strs
import Derived.Lib.TrailingZeros
set_option linter.all false
open And renaming intro → Zs
open Option renaming some → ZD, map_some → Zae, map_eq_some_iff → Zaj, bind_eq_some_iff → Zaz, bind_some → ZaX, bind → ZbU
open List renaming getElem?_eq_getElem → ZZ, getElem?_eq_some_iff → Z3, length_map → za, getElem?_map → zc, length_cons → zd, drop_eq_getElem_cons → zw, mem_of_getElem? → zP, getElem?_append_left → Zab, getElem?_append_right → Zac, eq_nil_of_length_eq_zero → Zad, getD_eq_getElem?_getD → Zaf, map_cons → Zai, mem_singleton → Zal, map_append → Zam, replicate → Zao, take_length → Zaq, range → Zau, append_nil → ZaB, mem_append → ZaC, append_assoc → ZaD, mem_iff_getElem? → ZaG, take_append_drop → ZaI, mem_cons → ZaL, take_of_length_le → ZaM, drop_length → ZaQ, drop_zero → Za4, range_succ → Zbe, cons_append → Zbh, nil_append → Zbv, map_map → Zbz, cons → ZbD, take → ZbE, drop_drop → ZbQ, mapM_cons → ZbR, drop → Zcc, mem_range → ZcF, take_nil → ZcM
open Nat renaming beq → zb, le_refl → ze, le_trans → zR, zero_add → Zah, eq_zero_or_pos → ZaV, add_assoc → Za3, not_lt_zero → Zct
open Bool renaming false_eq_true → zj, and_self → zz, true_and → zE, false_and → Za5, not_false → Zbi, and_false → Zbj, not_true → Zbn, and_true → Zbu, or_false → ZbV
open Int renaming lt_irrefl → ZaA, toNat_of_nonneg → Za6, toNat → Zcb
open BitVec renaming ofInt → Za2
namespace Go.Proofs.YthccglceomoboaaGreatDoor
def dB {α:Type}(b:Bool)(x y:α):α:=match b with
 |true=>x
 |false=>y
section
variable {env:Env}{α β:Type}
theorem NM (x y:α):dB true x y=x:=(rfl)
theorem zn (x y:α):dB false x y=y:=(rfl)
theorem iq (b:Bool)(x y:Option α)(f:α→Option β):(dB b x y).bind f=dB b (x.bind f) (y.bind f):=by cases b<;>rfl
theorem je (b:Bool)(x y:Option α)(f:α→β):(dB b x y).map f=dB b (x.map f) (y.map f):=by cases b<;>rfl
theorem EO (b:Bool)(x y:α):dB (!b) x y=dB b y x:=by cases b<;>rfl
theorem RP {γ:Type}[BEq γ](a b:γ)(x y:α):dB (a != b) x y=dB (a==b) y x:=by unfold bne;rw [EO]
theorem agF (b:Bool):(b==true)=b:=by cases b<;>rfl
theorem agG (b:Bool):(b==false)=!b:=by cases b<;>rfl
theorem fM {b:Bool}{x y r:α}(h1:b=true→x=r)(h0:b=false→y=r):dB b x y=r:=by
 cases b
 ·exact h0 rfl
 ·exact h1 rfl
noncomputable def DZ (env:Env)(l:List fG)(st:St):Option St:=ops (den env) env l st
noncomputable def oI (env:Env)(o:fG)(st:St):Option St:=op (den env) env o st
noncomputable def next (env:Env)(b:aj):Ex×St→Option (Ex×St)
 |(.normal,st)=>den env b st
 |r=>some r
def endBlock (id:Nat):Ex×St→Ex×St
 |(.normal,st)=>(.normal,st)
 |(.exit j,st)=>(dB (zb j id) .normal (.exit j),st)
 |(.ret,st)=>(.ret,st)
 |(.nC t n,st)=>(.nC t n,st)
def lu (post:List Nat)(nb:Nat)(p:Ex×St):Option (Ex×St):=(p.2.head post nb).map fun st=>(p.1,st)
def fin (rs:List qy):Ex×St→Option (List qw)
 |(.exit _,_)=>none
 |(.nC _ _,_)=>none
 |(_,st)=>dY st rs
def start (n:Nat)(args:List PV):St:=⟨args.map .pv++Zao (n - args.length) .any,[],[],none⟩
theorem bT (st:St):den env .skip st=some (.normal,st):=by rw [kH];rfl
theorem aaJ (l:List fG)(st:St):den env (.ops l) st=(DZ env l st).map fun st=>(.normal,st):=by rw [kH];rfl
theorem aaK (z a f q)(l:List fG)(st:St):den env (.qp z a f q l) st=(DZ env l (z.foldl St.gJ st)).map fun st=>(.normal,st):=by rw [kH];rfl
noncomputable def ac4 (env:Env)(keep:List Nat)(vo:List fG)(st:St)(l:List fP):Option St:=kC (den env) env keep vo st l
noncomputable def aaL (env:Env)(keep:List Nat)(vo:List fG)(st:St)(x:fP):Option St:=kX (den env) env keep vo st x
noncomputable def AZ (env:Env)(keep:List Nat)(vo:List fG)(st s:St)(l:List fP):Option St:=agree s (l.map (kX (den env) env keep vo st))
def sameAs (s s':St)(r:Option St):Option St:=if s'.same s then r else none
theorem aaM (z k vo l)(st:St):den env (.drs z k vo l) st=(ac4 env k vo (z.foldl St.gJ st) l).map fun st=>(.normal,st):=by rw [kH];rfl
theorem NP (k vo)(st:St)(x:fP)(l:List fP):ac4 env k vo st (x::l)=(aaL env k vo st x).bind fun s=>AZ env k vo st s l:=(rfl)
theorem NQ (k vo)(st s:St):AZ env k vo st s []=some s:=(rfl)
theorem Jo (k vo)(st s:St)(x:fP)(l:List fP):AZ env k vo st s (x::l)=(aaL env k vo st x).bind fun s'=>sameAs s s' (AZ env k vo st s l):=by
 show (kX (den env) env k vo st x).bind _=_
 unfold aaL AZ sameAs
 congr 1
theorem Jp (s:St)(r:Option St):sameAs s s r=r:=by
 show (if s.same s then r else none)=r
 rw [St.iK];rfl
theorem aaN (k vo)(st:St)(a f q o w):aaL env k vo st ⟨a,f,q,o,w⟩=(DZ env (bD vo o) st).bind (kW k st.boxes.length w):=(rfl)
theorem Gu (k:List Nat)(nb:Nat)(s:St):kW k nb false s=s.head k s.boxes.length:=by
 unfold kW
 cases s.head k s.boxes.length<;>rfl
theorem Jq (k:List Nat)(nb:Nat)(s:St):kW k nb true s=(s.head k s.boxes.length).bind fun s=>s.swap2 nb:=(rfl)
theorem RQ (vo:List fG):bD vo []=[]:=(rfl)
theorem RS (vo:List fG)(i:Nat)(l:List Nat):bD vo (i::l)=vo.getD i default::bD vo l:=(rfl)
theorem aaO (a b:aj)(st:St):den env (.seq a b) st=(den env a st).bind (next env b):=by
 rw [kH]
 show (den env a st).bind _=_
 congr 1
 funext ⟨e,st⟩
 cases e<;>rfl
theorem VP (c:bf)(a b:aj)(st:St):den env (.cond c a b) st=(match st.bQ c with
  |some (.bool t)=>dB t (den env a st) (den env b st)
  |_=>none):=by
 rw [kH]
 show (st.bQ c).bind _=_
 cases st.bQ c with
 |none=>rfl
 |some v =>
  cases v<;>try rfl
  rename_i t
  cases t<;>rfl
theorem EP (i:Nat)(a:aj)(st:St):den env (.block i a) st=(den env a st).map (endBlock i):=by
 rw [kH]
 show (den env a st).bind _=_
 cases den env a st with
 |none=>rfl
 |some r =>
  obtain ⟨e,st⟩:=r
  cases e with
  |normal=>rfl
  |ret=>rfl
  |nC t n=>rfl
  |exit j =>
   show some (_,_)=some (_,_)
   by_cases h:j=i
   ·subst h;simp [dB]
   ·have:zb j i=false:=by cases e:zb j i with
    |false=>rfl
    |true=>exact absurd (Nat.eq_of_beq_eq_true e) h
    simp [dB,h,this]
theorem VQ (keep:List Nat)(a:aj)(st:St):den env (.loop keep a) st=den env (.round keep st.boxes.length a) st:=by rw [kH];rfl
theorem ER (keep:List Nat)(nb:Nat)(a:aj)(st:St):den env (.round keep nb a) st=(st.head keep nb).bind fun st=>(den env a st).bind (next env (.round keep nb a)):=by
 rw [kH]
 show (st.head keep nb).bind _=_
 congr 1
 funext st
 show (den env a st).bind _=_
 congr 1
 funext ⟨e,st⟩
 cases e<;>rfl
theorem aaP (a:aj)(st:St):den env (.scp a) st=den env a st:=by
 rw [kH]
 rfl
theorem RU (pre post:List Nat)(a:aj)(st:St):den env (.clean pre post a) st=(st.head pre st.boxes.length).bind fun s=>(den env a s).bind (lu post st.boxes.length):=by
 rw [kH]
 show (st.head pre _).bind _=_
 congr 1
 funext s
 show (den env a s).bind _=_
 congr 1
 funext ⟨e,s⟩
 show (s.head post _).bind _=(s.head post _).map _
 cases s.head post st.boxes.length<;>rfl
theorem VR (i:Nat)(st:St):den env (.exit i) st=some (.exit i,st):=by rw [kH];rfl
theorem aaQ (st:St):den env .ret st=some (.ret,st):=by rw [kH];rfl
theorem Jr (b:aj)(st:St):next env b (.normal,st)=den env b st:=(rfl)
theorem RV (b:aj)(i:Nat)(st:St):next env b (.exit i,st)=some (.exit i,st):=(rfl)
theorem VT (b:aj)(st:St):next env b (.ret,st)=some (.ret,st):=(rfl)
theorem VU (b:aj)(t:Nat)(n:Int)(st:St):next env b (.nC t n,st)=some (.nC t n,st):=(rfl)
theorem Gv (i t:Nat)(n:Int)(st:St):endBlock i (.nC t n,st)=(.nC t n,st):=(rfl)
noncomputable def thrown (env:Env)(f:Nat)(args:List PV):Option (Option (Nat×Int)):=DC (den env) env f args
def ad2:Ex×St→Option (Option (Nat×Int))
 |(.exit _,_)=>none
 |(.nC t n,_)=>some (some (t,n))
 |_=>some none
theorem Js (st:St):ad2 (.normal,st)=some none:=(rfl)
theorem VW (st:St):ad2 (.ret,st)=some none:=(rfl)
theorem VX (t:Nat)(n:Int)(st:St):ad2 (.nC t n,st)=some (some (t,n)):=(rfl)
noncomputable def NR (env:Env)(d f:Nat)(args:List bf)(st:St):Option (Nat×Int)→Option (Ex×St)
 |some (t,n)=>some (.nC t n,st)
 |none=>(DZ env [.call d f args] st).map fun st=>(.normal,st)
theorem Jt (d f:Nat)(args:List bf)(st:St)(t:Nat)(n:Int):NR env d f args st (some (t,n))=some (.nC t n,st):=(rfl)
theorem Ju (d f:Nat)(args:List bf)(st:St):NR env d f args st none=(DZ env [.call d f args] st).map fun st=>(.normal,st):=(rfl)
theorem aaR (l:List fG)(d f:Nat)(args:List bf)(st:St):den env (.dem l d f args) st=(DZ env l st).bind fun st1=>(args.mapM st1.bQ).bind fun vs=>(thrown env f vs).bind (NR env d f args st1):=by
 rw [kH]
 show (DZ env l st).bind _=_
 congr 1
 funext st1
 show (args.mapM st1.bQ).bind _=_
 congr 1
 funext vs
 show (thrown env f vs).bind _=_
 congr 1
 funext r
 cases r with
 |some p=>rfl
 |none =>
  show (act (den env) env (.call d f args) st1).map _=((act (den env) env (.call d f args) st1).bind (ops (den env) env [])).map _
  cases act (den env) env (.call d f args) st1<;>rfl
theorem zF (i:Nat)(st:St):endBlock i (.normal,st)=(.normal,st):=(rfl)
theorem Gw (i:Nat)(st:St):endBlock i (.ret,st)=(.ret,st):=(rfl)
theorem D5 (i j:Nat)(st:St):endBlock i (.exit j,st)=(dB (zb j i) .normal (.exit j),st):=(rfl)
theorem NS (rs:List qy)(st:St):fin rs (.normal,st)=dY st rs:=(rfl)
theorem aaS (rs:List qy)(st:St):fin rs (.ret,st)=dY st rs:=(rfl)
theorem aG {f:Nat}{fn:dL}{args:List PV}(h:env f=some (.code fn))(hl:args.length=fn.nargs):cal env f args=(den env fn.body (start fn.ntmps args)).bind (Go.Proofs.YthccglceomoboaaGreatDoor.fin fn.results):=by
 unfold cal gQ
 rw [h]
 simp only [if_pos hl]
 show (den env fn.body _).bind _=_
 congr 1
 funext ⟨e,st⟩
 cases e<;>rfl
def Gx (n:Nat)(x:jQ)(args:List PV):St:=⟨x.av::(args.map .pv++Zao (n - (args.length+1)) .any),x.boxes,[],none⟩
def ad3 (x:jQ)(rs:List qy):Ex×St→Option (List qw×Option (List PV))
 |(.exit _,_)=>none
 |(.nC _ _,_)=>none
 |(_,st)=>qP x st rs
theorem Jv (x:jQ)(rs:List qy)(st:St):ad3 x rs (.normal,st)=qP x st rs:=(rfl)
theorem VY (x:jQ)(rs:List qy)(st:St):ad3 x rs (.ret,st)=qP x st rs:=(rfl)
theorem NT (sz:Nat)(es:List PV)(st:St)(rs:List qy):qP (.row sz es) st rs=(dY st rs).map fun l=>(l,none):=(rfl)
theorem NU (l:List AV)(st:St)(rs:List qy):qP (.own l) st rs=(dY st rs).map fun l=>(l,none):=(rfl)
theorem NV (cs:List PV)(st:St)(rs:List qy):qP (.box cs) st rs=(match (st.aT 0).boxes[0]? with
  |some b=>dB b.fz none ((resultList (st.aT 0) rs).map fun l=>(l,some (b.cs.map BV.val)))
  |none=>none):=by
 show (match (st.aT 0).boxes[0]? with
  |some b=>if b.fz then none else (resultList (st.aT 0) rs).map fun l=>(l,some (b.cs.map BV.val))
  |none=>none)=_
 split
 ·rename_i b _
  cases b.fz<;>rfl
 ·rfl
theorem aaT (sz:Nat)(es:List PV):(jQ.row sz es).av=.row sz es:=(rfl)
theorem aaU (l:List AV):(jQ.own l).av=.ku true l:=(rfl)
theorem PL (cs:List PV):(jQ.box cs).av=.aJ 0 0:=(rfl)
theorem aaV (sz:Nat)(es:List PV):(jQ.row sz es).boxes=[]:=(rfl)
theorem aaW (l:List AV):(jQ.own l).boxes=[]:=(rfl)
theorem PN (cs:List PV):(jQ.box cs).boxes=[⟨false,cs.map .pv⟩]:=(rfl)
theorem kQ {f:Nat}{fn:dL}{x:jQ}{args:List PV}(h:env f=some (.code fn))(hl:args.length+1=fn.nargs):AY env f x args=(den env fn.body (Gx fn.ntmps x args)).bind (ad3 x fn.results):=by
 unfold AY nG
 rw [h]
 simp only [if_pos hl]
 show (den env fn.body _).bind _=_
 congr 1
 funext ⟨e,st⟩
 cases e<;>rfl
theorem PO {f:Nat}{g:List PV→Option (List qw)}{args:List PV}(h:env f=some (.ext g)):cal env f args=g args:=by
 unfold cal gQ
 rw [h]
theorem Jw {keep post:List Nat}{id:Nat}{b:aj}{st S0:St}{R:Option (Ex×St)}(h:st.head keep st.boxes.length=some S0)(h2:S0.head keep S0.boxes.length=some S0)
  (key:∀ rb,rb=aj.round keep S0.boxes.length b→(((den env b S0).bind (next env rb)).map (endBlock id)).bind (lu post st.boxes.length)=R):den env (.clean keep post (.block id (.loop keep b))) st=R:=by
 rw [RU,h,ZaX,EP,VQ,ER,h2,ZaX]
 exact key _ rfl
theorem VZ {keep:List Nat}{nb:Nat}{b rb:aj}{st S1:St}(hrb:rb=.round keep nb b)(h:st.head keep nb=some S1):den env rb st=(den env b S1).bind (next env rb):=by
 rw [hrb,ER,h,ZaX]
noncomputable def lS (env:Env)(id:Nat)(post:List Nat)(nb:Nat)(x:Option (Ex×St)):Option (Ex×St):=(x.map (endBlock id)).bind (lu post nb)
theorem RX {β:Type}{keep post:List Nat}{id nb:Nat}{b:aj}(S:β→St)(R:β→Option (Ex×St))(P:β→Prop)(μ:β→Nat)(x0:β){st:St}(h:st.head keep st.boxes.length=some (S x0))(hP:P x0)
  (hS:∀ x,(S x).boxes.length=nb) (hh:∀ x,(S x).head keep nb=some (S x))
  (step:∀ x rb,P x→(∀ y,μ y<μ x→P y→∀ s,s.head keep nb=some (S y)→lS env id post nb (den env rb s)=R y)→lS env id post nb ((den env b (S x)).bind (next env rb))=R x) :
  den env (.clean keep post (.block id (.loop keep b))) st=R x0:=by
 have hb:st.boxes.length=nb:=by rw [← (uw h).1];exact hS x0
 refine Jw h (by rw [hS];exact hh x0) ?_
 intro rb hrb
 rw [hS] at hrb
 rw [hb]
 have key:∀ (k:Nat) (x:β),μ x<k→P x→lS env id post nb ((den env b (S x)).bind (next env rb))=R x:=by
  intro k
  induction k with
  |zero=>intro x hx;omega
  |succ k ih =>
   intro x hx hPx
   refine step x rb hPx fun y hy hPy s hs=>?_
   rw [VZ hrb hs]
   exact ih y (by omega) hPy
 exact key (μ x0+1) x0 (by omega) hP
theorem aY {keep post:List Nat}{id nb:Nat}{b:aj}(n:Nat)(S:Nat→St)(R:Nat→Option (Ex×St)){st:St}(h:st.head keep st.boxes.length=some (S 0))(hS:∀ i,(S i).boxes.length=nb)(hh:∀ i,(S i).head keep nb=some (S i))
  (step:∀ i rb,i<n→(∀ s,s.head keep nb=some (S (i+1))→lS env id post nb (den env rb s)=R (i+1))→lS env id post nb ((den env b (S i)).bind (next env rb))=R i)
  (last:∀ rb,lS env id post nb ((den env b (S n)).bind (next env rb))=R n) :
  den env (.clean keep post (.block id (.loop keep b))) st=R 0:=by
 refine RX S R (fun i=>i≤n) (fun i=>n - i) 0 h (Nat.zero_le _) hS hh fun i rb hi ih=>?_
 by_cases hn:i=n
 ·subst hn;exact last rb
 ·exact step i rb (by omega) fun s hs=>ih (i+1) (by omega) (by omega) s hs
theorem Jy {id nb:Nat}{post:List Nat}(st:St):lS env id post nb (some (.normal,st))=lu post nb (.normal,st):=(rfl)
theorem V3 {id nb:Nat}{post:List Nat}(t:Nat)(n:Int)(st:St):lS env id post nb (some (.nC t n,st))=lu post nb (.nC t n,st):=(rfl)
theorem V4 {id nb:Nat}{post:List Nat}(st:St):lS env id post nb (some (.ret,st))=lu post nb (.ret,st):=(rfl)
theorem RY {id j nb:Nat}{post:List Nat}(st:St):lS env id post nb (some (.exit j,st))=lu post nb (dB (zb j id) .normal (.exit j),st):=(rfl)
theorem iw {id nb:Nat}{post:List Nat}(b:Bool)(x y:Option (Ex×St)):lS env id post nb (dB b x y)=dB b (lS env id post nb x) (lS env id post nb y):=by cases b<;>rfl
theorem Jz (a:α)(f:α→Option β):(some a).bind f=f a:=(rfl)
theorem JA (f:α→Option β):(none:Option α).bind f=none:=(rfl)
theorem NW (a:α)(f:α→β):(some a).map f=some (f a):=(rfl)
theorem NY (f:α→β):(none:Option α).map f=none:=(rfl)
theorem NZ (x y:α):(if True then x else y)=x:=(rfl)
theorem JB (x y:α):(if False then x else y)=y:=(rfl)
theorem ES {γ δ:Type}(x:Option γ)(f:γ→Option δ):(x >>= f)=x.bind f:=(rfl)
theorem ad4 {γ:Type}(x:γ):(pure x:Option γ)=some x:=(rfl)
theorem bg {γ:Type}(a:γ)(l:List γ):(a::l).length=l.length+1:=(rfl)
theorem bK {γ:Type}:([]:List γ).length=0:=(rfl)
theorem aZ {γ:Type}(l:List γ):[]++l=l:=(rfl)
theorem bn {γ:Type}(a:γ)(l m:List γ):(a::l)++m=a::(l++m):=(rfl)
theorem JC {γ:Type}(a:γ)(l:List γ)(n:Nat):(a::l).take (n+1)=a::l.take n:=(rfl)
theorem pJ {γ:Type}(l:List γ):l.take 0=[]:=(rfl)
theorem JD {γ:Type}(a:γ)(l:List γ)(n:Nat):(a::l).drop (n+1)=l.drop n:=(rfl)
theorem JE {γ:Type}(l:List γ):l.drop 0=l:=(rfl)
theorem N7 {γ:Type}(a:γ)(l:List γ):(a::l)[0]?=some a:=(rfl)
theorem N8 {γ:Type}(a:γ)(l:List γ)(n:Nat):(a::l)[n+1]?=l[n]?:=(rfl)
theorem aaX {γ:Type}(a0 a1 a2 a3 a4 a5 a6 a7:γ)(l:List γ)(n:Nat):(a0::a1::a2::a3::a4::a5::a6::a7::l)[n+8]?=l[n]?:=(rfl)
theorem JF {γ:Type}(a:γ)(l:List γ)(d:γ):(a::l).getD 0 d=a:=(rfl)
theorem JG {γ:Type}(a:γ)(l:List γ)(n:Nat)(d:γ):(a::l).getD (n+1) d=l.getD n d:=(rfl)
theorem V5 {γ:Type}(a0 a1 a2 a3 a4 a5 a6 a7:γ)(l:List γ)(n:Nat)(d:γ):(a0::a1::a2::a3::a4::a5::a6::a7::l).getD (n+8) d=l.getD n d:=(rfl)
theorem N9 {γ:Type}(a x:γ)(l:List γ):(a::l).set 0 x=x::l:=(rfl)
theorem Oa {γ:Type}(a x:γ)(l:List γ)(n:Nat):(a::l).set (n+1) x=a::l.set n x:=(rfl)
theorem aaY {γ:Type}(a0 a1 a2 a3 a4 a5 a6 a7 x:γ)(l:List γ)(n:Nat):(a0::a1::a2::a3::a4::a5::a6::a7::l).set (n+8) x=a0::a1::a2::a3::a4::a5::a6::a7::l.set n x:=(rfl)
theorem Ob {γ δ:Type}(f:γ→Option δ):([]:List γ).mapM f=some []:=(rfl)
theorem Oc {γ:Type}(a:γ)(l:List γ)(p:γ→Bool):(a::l).any p=(p a || l.any p):=(rfl)
theorem RZ {γ:Type}(p:γ→Bool):([]:List γ).any p=false:=(rfl)
theorem Oe {γ:Type}(a:γ)(l:List γ)(p:γ→Bool):(a::l).all p=(p a&&l.all p):=(rfl)
theorem Si {γ:Type}(p:γ→Bool):([]:List γ).all p=true:=(rfl)
theorem Gy {γ δ:Type}(f:δ→γ→δ)(b:δ)(a:γ)(l:List γ):(a::l).foldl f b=l.foldl f (f b a):=(rfl)
theorem JH {γ δ:Type}(f:δ→γ→δ)(b:δ):([]:List γ).foldl f b=b:=(rfl)
theorem bC {γ δ:Type}(f:γ→δ)(a:γ)(l:List γ):(a::l).map f=f a::l.map f:=(rfl)
theorem bM {γ δ:Type}(f:γ→δ):([]:List γ).map f=[]:=(rfl)
theorem aW {γ:Type}(a:γ):Zao 0 a=[]:=(rfl)
theorem aX {γ:Type}(a:γ)(n:Nat):Zao (n+1) a=a::Zao n a:=(rfl)
theorem V6 (st:St):DZ env [] st=some st:=(rfl)
theorem Sj (o:fG)(l:List fG)(st:St):DZ env (o::l) st=(oI env o st).bind (DZ env l):=(rfl)
theorem aaZ {g:Nat}{w:Bool}{o:fG}(st:St):oI env (.grd g w o) st=(match st.slots.getD g .any with
  |.pv (.bool b)=>dB (b==w) (op1 (den env) env o st) (match bF o with
   |some d=>some (st.put d (.ku false []))
   |none=>some st)
  |.ku _ l=>dB l.isEmpty (match bF o with
   |some d=>some (st.put d (.ku false []))
   |none=>some st) none
  |_=>none):=by
 unfold oI op
 simp only
 generalize st.slots.getD g .any=v
 cases v with
 |pv p =>
  cases p with
  |bool b=>cases b<;>cases w<;>rfl
  |_=>rfl
 |ku k l=>cases l<;>rfl
 |_=>rfl
theorem V7 {d c x y}(st:St):oI env (.pick d c x y) st=(match st.bQ c with
  |some (.bool b)=>dB b ((st.bQ x).map fun v=>st.put d (.pv v)) ((st.bQ y).map fun v=>st.put d (.pv v))
  |_=>none):=by
 show (st.bQ c).bind _=_
 cases st.bQ c with
 |none=>rfl
 |some v =>
  cases v<;>try rfl
  rename_i t
  cases t
  ·show (st.bQ y).bind _=Option.map _ (st.bQ y)
   cases st.bQ y<;>rfl
  ·show (st.bQ x).bind _=Option.map _ (st.bQ x)
   cases st.bQ x<;>rfl
def lT (d:Nat)(args:List bf)(caps:List AV)(st:St)(fl:Bool)(rs:List qw):Option St :=
 some ((dB (fl&&!(rs.all (·.1.scalar))) (caps.foldl (fun s v=>s.aU (.c .void) v) (args.foldl St.bH st)) st).layAll d rs)
theorem zG (d:Nat)(args:List bf)(caps:List AV)(st:St)(rs:List qw):lT d args caps st false rs=some (st.layAll d rs):=by
 simp only [lT,Za5,zn]
theorem A8 (d:Nat)(args:List bf)(caps:List AV)(st:St)(r:qw)(rs:List qw):lT d args caps st true (r::rs)=dB ((r::rs).all (·.1.scalar)) (some (st.layAll d (r::rs))) (some ((caps.foldl (fun s v=>s.aU (.c .void) v) (args.foldl St.bH st)).layAll d (r::rs))):=by
 unfold lT
 rw [zE]
 cases h:(r::rs).all (·.1.scalar)<;>rfl
noncomputable def dcall (env:Env)(d f:Nat)(args:List bf)(caps:List AV)(st:St):Option St :=
 (args.mapM fun x=>st.jf (st.get x)).bind fun l=>(caps.mapM st.snap).bind fun k=>(cal env f (l.map (·.1)++k.map (·.1))).bind (lT d args caps st (l.any (·.2) || k.any (·.2)))
noncomputable def yA (env:Env)(d f:Nat)(args:List bf)(caps:List PV)(st:St):Option St :=
 (args.mapM fun x=>st.jf (st.get x)).bind fun l=>(cal env f (l.map (·.1)++caps)).bind (lT d args [] st (l.any (·.2)))
theorem Ba (st:St):∀ caps:List PV,(caps.map AV.pv).mapM st.snap=some (caps.map fun v=>(v,false))
 |[]=>rfl
 |c::l=>by
  rw [Zai,ZbR,Ba st l]
  rfl
theorem ET (st:St):∀ caps:List PV,(caps.map AV.pv).foldl (fun s v=>s.aU (.c .void) v) st=st
 |[]=>rfl
 |c::l=>ET st l
theorem Bc (d f:Nat)(args:List bf)(caps:List AV)(st:St):jg (den env) env d f args caps st=dcall env d f args caps st:=by
 unfold jg dcall
 show ZbU _ _=ZbU _ _
 congr 1;funext l
 show ZbU _ _=ZbU _ _
 congr 1;funext k
 show ZbU _ _=ZbU _ _
 congr 1;funext rs
 show some _=some _
 congr 2
 cases h:(l.any (·.2) || k.any (·.2))&&!(rs.all (·.1.scalar))<;>rfl
theorem yD (d f:Nat)(args:List bf)(caps:List PV)(st:St):dcall env d f args (caps.map .pv) st=yA env d f args caps st:=by
 unfold yA dcall
 congr 1;funext l
 rw [Ba,ZaX,Zbz,List.any_map]
 have h1:(Prod.fst ∘ fun v:PV=>(v,false))=id:=rfl
 have h2:caps.any (Prod.snd ∘ fun v:PV=>(v,false))=false:=by
  induction caps with
  |nil=>rfl
  |cons c cs ih=>simp [List.any_cons,ih]
 rw [h1,List.map_id,h2,ZbV]
 congr 1;funext rs
 unfold lT
 rw [ET]
 rfl
theorem V9 {d f args}(st:St):oI env (.call d f args) st=yA env d f args [] st:=(Bc ..).trans (yD (caps:=[]) ..)
theorem Wh {d f args}(st:St):op1 (den env) env (.call d f args) st=yA env d f args [] st:=(Bc ..).trans (yD (caps:=[]) ..)
noncomputable def EU (env:Env)(d f:Nat)(x:bf)(args:List bf)(caps:List AV)(st:St):Option St :=
 (args.mapM fun x=>st.jf (st.get x)).bind fun l=>(caps.mapM st.snap).bind fun k=>(dB (l.any (·.2) || k.any (·.2)) none (qO st x)).bind fun q=>(AY env f q.1 (l.map (·.1)++k.map (·.1))).bind fun r=>(lZ q.2.2 q.2.1 r.2).bind fun st2=>some (st2.layAll d r.1)
noncomputable def Gz (env:Env)(d f:Nat)(x:bf)(args:List bf)(caps:List PV)(st:St):Option St :=
 (args.mapM fun x=>st.jf (st.get x)).bind fun l=>(dB (l.any (·.2)) none (qO st x)).bind fun q=>(AY env f q.1 (l.map (·.1)++caps)).bind fun r=>(lZ q.2.2 q.2.1 r.2).bind fun st2=>some (st2.layAll d r.1)
theorem Wi (d f:Nat)(x:bf)(args:List bf)(caps:List AV)(st:St):nZ (den env) env d f x args caps st=EU env d f x args caps st:=by
 unfold nZ EU
 congr 1;funext l
 congr 1;funext k
 congr 1
 cases h:(l.any (·.2) || k.any (·.2))<;>rfl
theorem Sm (d f:Nat)(x:bf)(args:List bf)(caps:List PV)(st:St):EU env d f x args (caps.map .pv) st=Gz env d f x args caps st:=by
 unfold Gz EU
 congr 1;funext l
 rw [Ba,ZaX,Zbz,List.any_map]
 have h1:(Prod.fst ∘ fun v:PV=>(v,false))=id:=rfl
 have h2:caps.any (Prod.snd ∘ fun v:PV=>(v,false))=false:=by
  induction caps with
  |nil=>rfl
  |cons c cs ih=>simp [List.any_cons,ih]
 rw [h1,List.map_id,h2,ZbV]
noncomputable def aa0 (env:Env)(d f:Nat)(x:bf)(args:List bf)(caps:List AV)(st:St):Option St:=EU env d f x args caps (args.foldl St.bH st)
noncomputable def JI (env:Env)(d f:Nat)(x:bf)(args:List bf)(caps:List PV)(st:St):Option St:=Gz env d f x args caps (args.foldl St.bH st)
theorem GH (d f:Nat)(x:bf)(args:List bf)(caps:List AV)(st:St):iC (den env) env d f x args caps st=aa0 env d f x args caps st:=Wi ..
theorem Bd (d f:Nat)(x:bf)(args:List bf)(caps:List PV)(st:St):aa0 env d f x args (caps.map .pv) st=JI env d f x args caps st:=Sm ..
theorem aa1 {d f x args}(st:St):oI env (.lin d f x args) st=JI env d f x args [] st:=(GH ..).trans (Bd (caps:=[]) ..)
theorem aa2 {d f x args}(st:St):op1 (den env) env (.lin d f x args) st=JI env d f x args [] st:=(GH ..).trans (Bd (caps:=[]) ..)
theorem Wj {d g x args}(st:St):oI env (.linv d g x args) st=(match st.get g with
  |.pv (.func f caps)=>JI env d f x args caps st
  |.fn f caps=>aa0 env d f x args caps st
  |_=>none):=by
 show (match st.get g with
  |.pv (.func f caps)=>iC (den env) env d f x args (caps.map .pv) st
  |.fn f caps=>iC (den env) env d f x args caps st
  |_=>none)=_
 split<;>simp only [GH,Bd]
theorem Wn {d g x args}(st:St):op1 (den env) env (.linv d g x args) st=oI env (.linv d g x args) st:=(rfl)
theorem Sr {d x args}(st:St):oI env (.jP d x args) st=(match st.get x with
  |.pv (.func f caps)=>yA env d f args caps st
  |.fn f caps=>dcall env d f args caps st
  |_=>none):=by
 show (match st.get x with
  |.pv (.func f caps)=>jg (den env) env d f args (caps.map .pv) st
  |.fn f caps=>jg (den env) env d f args caps st
  |_=>none)=_
 split<;>simp only [Bc,yD]
theorem Sv {d x args}(st:St):op1 (den env) env (.jP d x args) st=oI env (.jP d x args) st:=(rfl)
theorem Wp {d c x y}(st:St):op1 (den env) env (.pick d c x y) st=oI env (.pick d c x y) st:=(rfl)
theorem aa3 {d x}(st:St):oI env (.ah d x) st=plain (.ah d x) st:=(rfl)
theorem aa4 {d x}(st:St):oI env (.ak d x) st=plain (.ak d x) st:=(rfl)
theorem aa5 {d o x y}(st:St):oI env (.bin d o x y) st=plain (.bin d o x y) st:=(rfl)
theorem aa6 {d neg n x y}(st:St):oI env (.QE d neg n x y) st=plain (.QE d neg n x y) st:=(rfl)
theorem aa7 {d neg x y}(st:St):oI env (.QF d neg x y) st=plain (.QF d neg x y) st:=(rfl)
theorem aa8 {d neg x}(st:St):oI env (.LY d neg x) st=plain (.LY d neg x) st:=(rfl)
theorem aa9 {d sz x l h m}(st:St):oI env (.sl4 d sz x l h m) st=plain (.sl4 d sz x l h m) st:=(rfl)
theorem abb {d n x}(st:St):oI env (.UN d n x) st=plain (.UN d n x) st:=(rfl)
theorem abd {d x}(st:St):oI env (.bxw d x) st=act (den env) env (.bxw d x) st:=(rfl)
theorem abe {d x}(st:St):op1 (den env) env (.bxw d x) st=act (den env) env (.bxw d x) st:=(rfl)
theorem abf {n p x}(st:St):oI env (.UE n p x) st=act (den env) env (.UE n p x) st:=(rfl)
theorem abg {n p x}(st:St):op1 (den env) env (.UE n p x) st=act (den env) env (.UE n p x) st:=(rfl)
theorem abh {d f x g}(st:St):oI env (.Dz d f x g) st=act (den env) env (.Dz d f x g) st:=(rfl)
theorem abj {d f x g}(st:St):op1 (den env) env (.Dz d f x g) st=act (den env) env (.Dz d f x g) st:=(rfl)
theorem abk {d x}(st:St):oI env (.UD d x) st=plain (.UD d x) st:=(rfl)
theorem abl {d x}(st:St):op1 (den env) env (.UD d x) st=plain (.UD d x) st:=(rfl)
theorem abm {d n x}(st:St):oI env (.Ie d n x) st=plain (.Ie d n x) st:=(rfl)
theorem abn {d n x}(st:St):op1 (den env) env (.UN d n x) st=plain (.UN d n x) st:=(rfl)
theorem abo {d n x}(st:St):op1 (den env) env (.Ie d n x) st=plain (.Ie d n x) st:=(rfl)
theorem abp {d neg x}(st:St):op1 (den env) env (.LY d neg x) st=plain (.LY d neg x) st:=(rfl)
theorem abq {d sz x l h m}(st:St):op1 (den env) env (.sl4 d sz x l h m) st=plain (.sl4 d sz x l h m) st:=(rfl)
theorem ad5 {d o x}(st:St):oI env (.un d o x) st=plain (.un d o x) st:=(rfl)
theorem Wq {d k x}(st:St):oI env (.conv d k x) st=plain (.conv d k x) st:=(rfl)
theorem Ws {d n p}(st:St):oI env (.load d n p) st=plain (.load d n p) st:=(rfl)
theorem Wu {d p off}(st:St):oI env (.au d p off) st=plain (.au d p off) st:=(rfl)
theorem Wv {d p i len sz}(st:St):oI env (.rV d p i len sz) st=plain (.rV d p i len sz) st:=(rfl)
theorem Wx {d sz x i}(st:St):oI env (.bG d sz x i) st=plain (.bG d sz x i) st:=(rfl)
theorem abr {d x i len sz n}(st:St):oI env (.idx d x i len sz n) st=plain (.idx d x i len sz n) st:=(rfl)
theorem abt {d sz x lo hi}(st:St):oI env (.FC d sz x lo hi) st=plain (.FC d sz x lo hi) st:=(rfl)
theorem abu {d x}(st:St):oI env (.len d x) st=plain (.len d x) st:=(rfl)
theorem abv {d x i}(st:St):oI env (.ext d x i) st=plain (.ext d x i) st:=(rfl)
theorem Sz {d z parts}(st:St):oI env (.build d z parts) st=plain (.build d z parts) st:=(rfl)
theorem ad6 {d mx x y}(st:St):oI env (.mn d mx x y) st=plain (.mn d mx x y) st:=(rfl)
theorem abw {d f caps}(st:St):oI env (.Ef d f caps) st=plain (.Ef d f caps) st:=(rfl)
theorem SA {d z}(st:St):oI env (.alloc d z) st=act (den env) env (.alloc d z) st:=(rfl)
theorem abx {d x}(st:St):oI env (.box d x) st=act (den env) env (.box d x) st:=(rfl)
theorem SB {d n p x}(st:St):oI env (.store d n p x) st=act (den env) env (.store d n p x) st:=(rfl)
theorem Wy {d sz parts}(st:St):oI env (.eP d sz parts) st=act (den env) env (.eP d sz parts) st:=(rfl)
theorem WA {d z n c}(st:St):oI env (.make d z n c) st=act (den env) env (.make d z n c) st:=(rfl)
theorem aby {d sz x y}(st:St):oI env (.app d sz x y) st=act (den env) env (.app d sz x y) st:=(rfl)
theorem abz {d x}(st:St):oI env (.QG d x) st=act (den env) env (.QG d x) st:=(rfl)
theorem abA {d x}(st:St):oI env (.QH d x) st=plain (.QH d x) st:=(rfl)
theorem ad7 {d f x}(st:St):oI env (.pk d f x) st=act (den env) env (.pk d f x) st:=(rfl)
theorem SC {d x args}(st:St):oI env (.yield d x args) st=act (den env) env (.yield d x args) st:=(rfl)
theorem abB {d x}(st:St):op1 (den env) env (.ah d x) st=plain (.ah d x) st:=(rfl)
theorem abC {d x}(st:St):op1 (den env) env (.ak d x) st=plain (.ak d x) st:=(rfl)
theorem abD {d o x y}(st:St):op1 (den env) env (.bin d o x y) st=plain (.bin d o x y) st:=(rfl)
theorem abE {d neg n x y}(st:St):op1 (den env) env (.QE d neg n x y) st=plain (.QE d neg n x y) st:=(rfl)
theorem abG {d neg x y}(st:St):op1 (den env) env (.QF d neg x y) st=plain (.QF d neg x y) st:=(rfl)
theorem ad8 {d o x}(st:St):op1 (den env) env (.un d o x) st=plain (.un d o x) st:=(rfl)
theorem WB {d k x}(st:St):op1 (den env) env (.conv d k x) st=plain (.conv d k x) st:=(rfl)
theorem WC {d n p}(st:St):op1 (den env) env (.load d n p) st=plain (.load d n p) st:=(rfl)
theorem WE {d p off}(st:St):op1 (den env) env (.au d p off) st=plain (.au d p off) st:=(rfl)
theorem WG {d p i len sz}(st:St):op1 (den env) env (.rV d p i len sz) st=plain (.rV d p i len sz) st:=(rfl)
theorem WH {d sz x i}(st:St):op1 (den env) env (.bG d sz x i) st=plain (.bG d sz x i) st:=(rfl)
theorem abH {d x i len sz n}(st:St):op1 (den env) env (.idx d x i len sz n) st=plain (.idx d x i len sz n) st:=(rfl)
theorem abI {d sz x lo hi}(st:St):op1 (den env) env (.FC d sz x lo hi) st=plain (.FC d sz x lo hi) st:=(rfl)
theorem abJ {d x}(st:St):op1 (den env) env (.len d x) st=plain (.len d x) st:=(rfl)
theorem abK {d x i}(st:St):op1 (den env) env (.ext d x i) st=plain (.ext d x i) st:=(rfl)
theorem SE {d z parts}(st:St):op1 (den env) env (.build d z parts) st=plain (.build d z parts) st:=(rfl)
theorem ad9 {d mx x y}(st:St):op1 (den env) env (.mn d mx x y) st=plain (.mn d mx x y) st:=(rfl)
theorem abL {d f caps}(st:St):op1 (den env) env (.Ef d f caps) st=plain (.Ef d f caps) st:=(rfl)
theorem SG {d z}(st:St):op1 (den env) env (.alloc d z) st=act (den env) env (.alloc d z) st:=(rfl)
theorem abM {d x}(st:St):op1 (den env) env (.box d x) st=act (den env) env (.box d x) st:=(rfl)
theorem SH {d n p x}(st:St):op1 (den env) env (.store d n p x) st=act (den env) env (.store d n p x) st:=(rfl)
theorem WI {d sz parts}(st:St):op1 (den env) env (.eP d sz parts) st=act (den env) env (.eP d sz parts) st:=(rfl)
theorem WJ {d z n c}(st:St):op1 (den env) env (.make d z n c) st=act (den env) env (.make d z n c) st:=(rfl)
theorem abN {d sz x y}(st:St):op1 (den env) env (.app d sz x y) st=act (den env) env (.app d sz x y) st:=(rfl)
theorem abO {d x}(st:St):op1 (den env) env (.QG d x) st=act (den env) env (.QG d x) st:=(rfl)
theorem abP {d x}(st:St):op1 (den env) env (.QH d x) st=plain (.QH d x) st:=(rfl)
theorem aea {d f x}(st:St):op1 (den env) env (.pk d f x) st=act (den env) env (.pk d f x) st:=(rfl)
theorem SI {d x args}(st:St):op1 (den env) env (.yield d x args) st=act (den env) env (.yield d x args) st:=(rfl)
theorem WL (d:Nat)(v:PV):AV.kill d (.pv v)=.pv v:=(rfl)
theorem SK (d:Nat):AV.kill d .any=.any:=(rfl)
theorem SL (d sz:Nat)(es:List PV):AV.kill d (.row sz es)=.row sz es:=(rfl)
theorem Og (d o j:Nat):AV.kill d (.aJ o j)=.aJ o j:=(rfl)
theorem WM (d f:Nat)(l:List AV):AV.kill d (.fn f l)=.fn f l:=(rfl)
theorem WO (d o j:Nat):AV.kill d (.pp o j)=.pp o j:=(rfl)
theorem SN (d s:Nat)(l:List PV):AV.kill d (.zH s l)=.zH s l:=(rfl)
theorem SQ (d:Nat)(k:Bool)(l:List AV):AV.kill d (.ku k l)=.ku k l:=(rfl)
theorem SS (d:Nat):AV.kill d .lY=.lY:=(rfl)
theorem Oh (d t off len:Nat):AV.kill d (.ref (.slot t) off len)=dB (decide (t=d)) .any (.ref (.slot t) off len):=by
 by_cases h:t=d<;>simp [AV.kill,AV.roots,h,dB]
theorem Oi (d o j off len:Nat):AV.kill d (.ref (.cell o j) off len)=.ref (.cell o j) off len:=(rfl)
theorem Oj (d t i j:Nat):AV.kill d (.mW (.slot t) i j)=dB (decide (t=d)) .any (.mW (.slot t) i j):=by
 by_cases h:t=d<;>simp [AV.kill,AV.roots,h,dB]
theorem Ol (d o q i j:Nat):AV.kill d (.mW (.cell o q) i j)=.mW (.cell o q) i j:=(rfl)
theorem WQ (d:Nat)(v:PV):AV.bV d (.pv v)=.pv v:=(rfl)
theorem SV (d:Nat):AV.bV d .any=.any:=(rfl)
theorem SX (d sz:Nat)(es:List PV):AV.bV d (.row sz es)=.row sz es:=(rfl)
theorem Om (d o j:Nat):AV.bV d (.aJ o j)=.aJ o j:=(rfl)
theorem WR (d f:Nat)(l:List AV):AV.bV d (.fn f l)=.fn f l:=(rfl)
theorem WS (d o j:Nat):AV.bV d (.pp o j)=.pp o j:=(rfl)
theorem SY (d s:Nat)(l:List PV):AV.bV d (.zH s l)=.zH s l:=(rfl)
theorem S9 (d:Nat)(k:Bool)(l:List AV):AV.bV d (.ku k l)=.ku k l:=(rfl)
theorem Td (d:Nat):AV.bV d .lY=.lY:=(rfl)
theorem Oo (d t j off len:Nat):AV.bV d (.ref (.cell t j) off len)=dB (decide (t=d)) .any (.ref (.cell t j) off len):=by
 by_cases h:t=d<;>simp [AV.bV,AV.tV,h,dB]
theorem Oq (d t off len:Nat):AV.bV d (.ref (.slot t) off len)=.ref (.slot t) off len:=(rfl)
theorem Ot (d t q i j:Nat):AV.bV d (.mW (.cell t q) i j)=dB (decide (t=d)) .any (.mW (.cell t q) i j):=by
 by_cases h:t=d<;>simp [AV.bV,AV.tV,h,dB]
theorem Ou (d t i j:Nat):AV.bV d (.mW (.slot t) i j)=.mW (.slot t) i j:=(rfl)
theorem WT (d y:Nat)(v:PV):AV.fU d y (.pv v)=.pv v:=(rfl)
theorem Tf (d y:Nat):AV.fU d y .any=.any:=(rfl)
theorem Tj (d y sz:Nat)(es:List PV):AV.fU d y (.row sz es)=.row sz es:=(rfl)
theorem Ov (d y o j:Nat):AV.fU d y (.aJ o j)=.aJ o j:=(rfl)
theorem WU (d y f:Nat)(l:List AV):AV.fU d y (.fn f l)=.fn f l:=(rfl)
theorem WV (d y o j:Nat):AV.fU d y (.pp o j)=.pp o j:=(rfl)
theorem Tm (d y s:Nat)(l:List PV):AV.fU d y (.zH s l)=.zH s l:=(rfl)
theorem Tq (d y:Nat)(k:Bool)(l:List AV):AV.fU d y (.ku k l)=.ku k l:=(rfl)
theorem Tt (d y:Nat):AV.fU d y .lY=.lY:=(rfl)
theorem Ox (d y t j off len:Nat):AV.fU d y (.ref (.cell t j) off len)=dB (decide (t=d)) (dB (decide (j=y)) .any (.ref (.cell t j) off len)) (.ref (.cell t j) off len):=by
 by_cases h:t=d<;>by_cases h2:j=y<;>simp [AV.fU,AV.zI,h,h2,dB]
theorem Oy (d y t off len:Nat):AV.fU d y (.ref (.slot t) off len)=.ref (.slot t) off len:=(rfl)
theorem Oz (d y t q i j:Nat):AV.fU d y (.mW (.cell t q) i j)=dB (decide (t=d)) (dB (decide (q=y)) .any (.mW (.cell t q) i j)) (.mW (.cell t q) i j):=by
 by_cases h:t=d<;>by_cases h2:q=y<;>simp [AV.fU,AV.zI,h,h2,dB]
theorem OA (d y t i j:Nat):AV.fU d y (.mW (.slot t) i j)=.mW (.slot t) i j:=(rfl)
theorem wZ {γ δ:Type}(f:γ→δ)(l:List γ):(l.map f).take l.length=l.map f:=ZaM (by simp)
theorem WW (k:IntKind)(n:Int):(PV.int k n).scalar=true:=(rfl)
theorem Tv (b:Bool):(PV.bool b).scalar=true:=(rfl)
theorem WX (b:ByteArray):(PV.str b).scalar=true:=(rfl)
theorem TA (sz:Nat)(es:List PV):(PV.list sz es).scalar=false:=(rfl)
theorem TB (f:Nat)(es:List PV):(PV.func f es).scalar=false:=(rfl)
theorem TD (k:IntKind)(n:Int):(PV.int k n).cells=[.int k n]:=(rfl)
theorem OB (b:Bool):(PV.bool b).cells=[.bool b]:=(rfl)
theorem TF (b:ByteArray):(PV.str b).cells=[.str b]:=(rfl)
theorem OC (sz:Nat)(es:List PV):(PV.list sz es).cells=[.list sz es]:=(rfl)
theorem cells_func (f:Nat)(es:List PV):(PV.func f es).cells=[.func f es]:=(rfl)
theorem TG (cs:List PV):(PV.agg cs).cells=cs:=(rfl)
theorem WY (c:PV)(cs:List PV):part (c::cs) 0 none=some c:=(rfl)
theorem TI (c:PV)(cs:List PV)(n:Nat)(m:Option Nat):part (c::cs) (n+1) m=part cs n m:=by
 cases m with
 |none=>rfl
 |some m =>
  simp only [part,zd,List.drop_succ_cons]
  by_cases h:n+m≤cs.length
  ·rw [if_pos h,if_pos (by omega)]
  ·rw [if_neg h,if_neg (by omega)]
theorem TJ (c:PV)(cs:List PV)(m:Nat):part (c::cs) 0 (some m)=if m≤(c::cs).length then some (.agg ((c::cs).take m)) else none:=by
 simp only [part,Zah,Za4]
theorem aQ {n:Int}(h:-9223372036854775808≤n∧n≤9223372036854775807):IntKind.i64.wrap n=n:=Go.IntWalk.i64_in n h
theorem bU {i n:Nat}(h:i<n)(hn:n≤lim):IntKind.i64.wrap ((i:Int)+1)=((i+1:Nat):Int):=by
 unfold lim at hn
 rw [Go.IntWalk.i64_in _ (by omega)]
 omega
theorem ay {k:IntKind}{i n:Nat}(h:i<n):index (.int k (i:Int)) n=some i:=by
 simp only [index]
 rw [if_pos (by omega)]
 simp
theorem yF {k:IntKind}{i:Int}{n:Nat}(h0:0≤i)(h:i<n):index (.int k i) n=some i.toNat:=by
 simp only [index]
 rw [if_pos ⟨h0,h⟩]
end
end Go.Proofs.YthccglceomoboaaGreatDoor
namespace Go.Proofs.YthccglceomoboaaGreatDoor
open V
def jh (n:Nat):List PV→Option (List qw)
 |[.list sz es]=>if sz=n∧es.length≤lim then some [(.list sz es,true)] else none
 |_=>none
def yG {α:Type}(f:PV→Option α):List PV→Option (List α)
 |[]=>some []
 |p::l=>match f p with
  |some x=>match yG f l with
   |some xs=>some (x::xs)
   |none=>none
  |none=>none
theorem EW {α:Type}{f:PV→Option α}{enc:α→PV}(hf:∀ p x,f p=some x→p=enc x):∀ {l:List PV} {xs:List α},yG f l=some xs→l=xs.map enc
 |[],_,h=>by cases h;rfl
 |p::l,xs,h=>by
  unfold yG at h
  split at h
  case h_2=>cases h
  rename_i x hx
  split at h
  case h_2=>cases h
  rename_i ys hy
  cases h
  rw [Zai,← hf p x hx,← EW hf hy]
theorem Bf {α:Type}{f:PV→Option α}{enc:α→PV}:∀ {l:List α},(∀ x∈l,f (enc x)=some x)→yG f (l.map enc)=some l
 |[],_=>rfl
 |x::l,h=>by
  simp only [Zai,yG,h x (by simp),Bf (l:=l) fun y hy=>h y (by simp [hy])]
end Go.Proofs.YthccglceomoboaaGreatDoor
namespace Go.Proofs.YthccglceomoboaaGreatDoor
structure End where
 pos:Nat
 list:Nat
 step:Int
 deriving DecidableEq,Inhabited
def iy (e:End):PV:=.agg [.int .i64 (e.pos:Int),.int .i64 (e.list:Int),.int .i64 e.step]
def Bg:PV→Option End
 |.agg [.int .i64 a,.int .i64 b,.int .i64 c]=>if 0≤a∧0≤b then some ⟨a.toNat,b.toNat,c⟩ else none
 |_=>none
theorem OD (e:End):Bg (iy e)=some e:=by
 simp [Bg,iy]
theorem TK {p:PV}{e:End}(h:Bg p=some e):p=iy e:=by
 unfold Bg at h
 split at h
 ·split at h
  ·rename_i hc
   cases h
   simp only [iy,Za6 hc.1,Za6 hc.2]
  ·cases h
 ·cases h
def rO (x y:End):Bool:=decide (x.pos<y.pos)
def pK (l:List End):List End:=(Sort.pdq rO l.toArray 0 l.length (Lib.bitLen l.length) true true).toList
def kR (g:Nat):PV→List PV→Option (List PV)
 |.func f [],es=>if f=g then if es.length≤1000000 then (yG Bg es).map fun l=>(pK l).map iy else none else none
 |_,_=>none
theorem D6 {g:Nat}{l:List End}(h:l.length≤1000000):kR g (.func g []) (l.map iy)=some ((pK l).map iy):=by
 unfold kR
 simp only [if_true,za,h]
 rw [Bf fun x _=>OD x]
 rfl
theorem GI {g:Nat}{c:PV}{es es':List PV}(h:kR g c es=some es'):∃ l:List End,c=.func g []∧es=l.map iy∧l.length≤1000000∧es'=(pK l).map iy:=by
 unfold kR at h
 split at h
 ·split at h
  ·rename_i hg
   split at h
   ·rename_i hl
    obtain ⟨l,h1,h2⟩:=Zaj.1 h
    have:=EW (fun p x h=>TK h) h1
    subst this
    exact ⟨l,by rw [hg],rfl,by simpa using hl,h2.symm⟩
   ·cases h
  ·cases h
 ·cases h
end Go.Proofs.YthccglceomoboaaGreatDoor
namespace Go.Proofs
open Go.Shelf
def Tryz.tz_ren:Go.Shelf.Ren:=⟨fun|29=>264|n=>n,fun|22=>193|3=>3|4=>4|25=>271|54=>380|0=>0|5=>5|n=>n,fun|1=>0|n=>n⟩
theorem Tryz.tz:Go.Proofs.Lays7.n29 Tryz.prog Tryz.tz_ren:={
 mixed:=by kernel_rfl
 f29:=Tryz.func264.trans (congrArg some (by kernel_rfl))
 t0:=Tryz.underlying0
 a0:=Tryz.isAgg0
 z0:=Tryz.sizeOf0
 v0:=Tryz.zeroValue0
 i0:=by kernel_rfl
 t3:=Tryz.underlying3
 a3:=Tryz.isAgg3
 z3:=Tryz.sizeOf3
 v3:=Tryz.zeroValue3
 i3:=by kernel_rfl
 t4:=Tryz.underlying4
 a4:=Tryz.isAgg4
 z4:=Tryz.sizeOf4
 v4:=Tryz.zeroValue4
 i4:=by kernel_rfl
 t5:=Tryz.underlying5
 a5:=Tryz.isAgg5
 z5:=Tryz.sizeOf5
 v5:=Tryz.zeroValue5
 i5:=by kernel_rfl
 t22:=Tryz.underlying193
 a22:=Tryz.isAgg193
 z22:=Tryz.sizeOf193
 v22:=Tryz.zeroValue193
 i22:=by kernel_rfl
 t25:=Tryz.underlying271
 a25:=Tryz.isAgg271
 z25:=Tryz.sizeOf271
 v25:=Tryz.zeroValue271
 i25:=by kernel_rfl
 t54:=Tryz.underlying380
 a54:=Tryz.isAgg380
 z54:=Tryz.sizeOf380
 g1:=by kernel_rfl }
end Go.Proofs
namespace Go.Proofs.YthccglceomoboaaGreatDoor
open Go.RowKit Go.Shelf
def tzX:List PV→Option (List qw)
 |[.int .u64 n]=>if 0≤n∧n<18446744073709551616 then some [(.int .i64 (Lib.ctz 64 n.toNat:Nat),false)] else none
 |_=>none
theorem aeb {T:Tags}{w:World}(h:jA T w):TabAt 0 Lib.deBruijn64tab w:=fun j hj=>by
 have hp:=h _ (Zal.2 rfl)
 obtain ⟨b,off,e1,_,_,h3⟩:=hp.qE
 obtain ⟨eb,eo⟩:0=b∧0=off+0:=by
  injection e1 with e1
  injection e1 with e1
  injection e1 with e2 e3
  exact ⟨e2,e3⟩
 have eo:off=0:=by omega
 subst eb;subst eo
 obtain ⟨u,c1,_,c2⟩:=h3 j (PV.int .u8 ((Lib.deBruijn64tab[j]:Nat):Int)) (by simp [ZZ hj])
 rw [c2.dh] at c1
 rw [show Lib.deBruijn64tab.getD j 0=Lib.deBruijn64tab[j] by simp [Zaf,ZZ hj]]
 simpa using c1
theorem agH:∀ args rs,tzX args=some rs→callable Tryz.prog 264=true∧lN Tryz.prog 264 args rs:=fun args rs h=>by
 unfold tzX at h
 split at h
 case h_2=>cases h
 rename_i n
 split at h
 case isFalse=>cases h
 rename_i hn
 cases h
 refine ⟨by kernel_rfl,fun T0 w vs h1 h2 h3 h4 hG=>?_⟩
 match vs,h3 with
 |[v],_ =>
  have hv:=(h4 0 _ v rfl rfl).dh
  subst hv
  have hc:=Any7.bits_TrailingZeros64 Tryz.tz n.toNat (by omega) w (fun _=>aeb hG)
  rw [Za6 hn.1] at hc
  refine Calls.mono hc ?_
  rintro e w' ⟨rfl,rfl⟩
  refine ⟨_,T0,rfl,Below.refl _ _,fun _ _=>rfl,h2,#[_],rfl,rfl,fun i r u hr hu=>?_⟩
  match i with
  |0=>cases hr;cases hu;exact .int _ _
  |i+1=>simp at hr
end Go.Proofs.YthccglceomoboaaGreatDoor
namespace Go.Proofs.YthccglceomoboaaGreatDoor
open Go.RowKit Go.ChangeShapes Go.WideShapes Go.ChangeAt
theorem JJ {T:Tags}{w:World}{b:Bool}{v:Value}(h:rC T w [(.bool b,false)] v):v=.bool b:=by
 obtain ⟨arr,h1,h2,h3⟩:=h
 have ha:arr.size=1:=h1
 have e0:arr[0]?=some arr[0]:=Array.getElem?_eq_getElem (by omega)
 have hv:v=arr[0]:=by rw [h2,if_pos ha,Array.getD_eq_getD_getElem?,e0];rfl
 have hr:aA (fun b=>T b=.ro) w (.bool b) arr[0]:=h3 0 (.bool b,false) arr[0] rfl e0
 rw [hv]
 exact hr.jS
def GK (w:World):Prop:=jA (fun b=>if b<w.heap.size then .ro else .other) w
theorem OE {P:Program}{env:Env}{f:Nat}{args:List PV}{vs:List Value}{w:World}(hE:zl P env)(h:cal env f args=some [(.bool true,false)])(hl:vs.length=args.length)
  (hr:∀ (i:Nat) x v,args[i]?=some x→vs[i]?=some v→aA (fun b=>b<w.heap.size) w x v) (hG:GK w):Calls P f vs.toArray w (fun e w'=>e=.returned (.bool true)∧Below w.heap.size w w'):=by
 obtain ⟨n,hn⟩:=jW h
 have hC:=(qG hE hn).2 (fun b=>if b<w.heap.size then .ro else .other) w vs (fun b=>by
  by_cases hb:b<w.heap.size
  ·exact .inl (if_pos hb)
  ·exact .inr (if_neg hb)) (fun b hb=>if_neg (by omega)) hl (fun i x v hx hv=>(hr i x v hx hv).frame fun b hb _=>⟨if_pos hb,rfl⟩) hG
 refine hC.mono ?_
 rintro e w' ⟨v,T',rfl,h1,_,_,h2⟩
 exact ⟨by rw [JJ h2],h1⟩
def GL (w:World):List PV→List Value→Prop
 |[],[]=>True
 |x::xs,v::vs=>aA (fun b=>b<w.heap.size) w x v∧GL w xs vs
 |_,_=>False
theorem GL.get {w:World}:∀ {xs:List PV} {vs:List Value},GL w xs vs→vs.length=xs.length∧∀ (i:Nat) x v,xs[i]?=some x→vs[i]?=some v→aA (fun b=>b<w.heap.size) w x v
 |[],[],_=>⟨rfl,fun i x v hx=>by simp at hx⟩
 |x::xs,v::vs,h=>by
  obtain ⟨h1,h2⟩:=h
  obtain ⟨k1,k2⟩:=h2.get
  refine ⟨by simp [k1],fun i y u hy hu=>?_⟩
  cases i with
  |zero=>cases hy;cases hu;exact h1
  |succ i=>exact k2 i y u hy hu
 |[],_::_,h=>h.elim
 |_::_,[],h=>h.elim
theorem TL {P:Program}{env:Env}{f:Nat}{args:List PV}{vs:List Value}{w:World}(hE:zl P env)(h:cal env f args=some [(.bool true,false)])(hr:GL w args vs)(hG:GK w:=by exact GK.none):Calls P f vs.toArray w (fun e w'=>e=.returned (.bool true)∧Below w.heap.size w w') :=
 OE hE h hr.get.1 hr.get.2 hG
def yH (w:World)(cs:List Value)(ps:List PV):Prop :=
 cs.length=ps.length∧(∀ c∈cs,c.oneCell'=true)∧∀ (j:Nat) x v,ps[j]?=some x→cs[j]?=some v→aA (fun b=>b<w.heap.size) w x v
def jX (P:Program)(t:TypeId)(n:Nat)(S:List PV→Prop):Prop :=
 P.cellsOf t=n∧∀ {H:Type} {enc:TypeId×Value→H} {w:World} {fuel:Nat} {cs:List Value} {x:DataW H×List MemPlace},DataW.trod enc P w 0 (fun _=>true) true fuel t cs=some x→∃ ps,S ps∧ps.length=n∧yH w cs ps
def SInt (k:IntKind)(ps:List PV):Prop:=∃ n,(Lit.int k n).wf=true∧ps=[.int k n]
def agI (ps:List PV):Prop:=∃ b,ps=[.bool b]
def aec (n:Nat)(S:List PV→Prop)(ps:List PV):Prop:=ps.length=n∧∀ p∈ps,S [p]
def wrS (ps:List PV):PV:=ps.headD .void
def PS (n:Nat)(S:List PV→Prop)(wr:List PV→PV)(ps:List PV):Prop:=∃ es,ps=[.list n es]∧∀ x∈es,∃ q,S q∧x=wr q
def JK:List (List PV→Prop)→List PV→Prop
 |[],ps=>ps=[]
 |S::Ss,ps=>∃ p q,ps=p++q∧S p∧JK Ss q
section
variable {P:Program}{t e:TypeId}{n m:Nat}{S:List PV→Prop}{k:IntKind}
theorem qH {w:World}{c:Value}{p:PV}(hc:c.oneCell'=true)(h:aA (fun b=>b<w.heap.size) w p c):yH w [c] [p] :=
 ⟨rfl,fun x hx=>by rw [Zal.1 hx];exact hc,fun j x v hx hv=>by
  cases j with
  |zero=>cases hx;cases hv;exact h
  |succ j=>simp at hx⟩
theorem jX.int (ht:P.underlying t=some (.int k))(hc:P.cellsOf t=1):jX P t 1 (SInt k):=⟨hc,fun h=>by
 obtain ⟨n,rfl,_,hw⟩:=DataW.trod_int ht h
 exact ⟨[.int k n],⟨n,hw,rfl⟩,rfl,qH rfl (.int k n)⟩⟩
theorem jX.bool (ht:P.underlying t=some .bool)(hc:P.cellsOf t=1):jX P t 1 agI:=⟨hc,fun h=>by
 obtain ⟨b,rfl,_⟩:=DataW.trod_bool ht h
 exact ⟨[.bool b],⟨b,rfl⟩,rfl,qH rfl (.bool b)⟩⟩
theorem uy {α:Type}{p:Nat→α→Prop}:∀ n:Nat,(∀ i,i<n→∃ y,p i y)→∃ l:List α,l.length=n∧∀ i x,l[i]?=some x→p i x
 |0,_=>⟨[],rfl,fun i x h=>by simp at h⟩
 |n+1,h=>by
  obtain ⟨l,h1,h2⟩:=uy n fun i hi=>h i (by omega)
  obtain ⟨y,hy⟩:=h n (by omega)
  refine ⟨l++[y],by simp [h1],fun i x hx=>?_⟩
  by_cases hi:i<n
  ·rw [Zab (by omega)] at hx;exact h2 i x hx
  ·have:=(Z3.1 hx).1
   obtain rfl:i=n:=by simp at this;omega
   rw [Zac (by omega),h1,Nat.sub_self] at hx
   cases hx
   exact hy
theorem jX.arr (ht:P.underlying t=some (.array n e))(he:jX P e 1 S)(hc:P.cellsOf t=n):jX P t n (aec n S):=⟨hc,fun {H enc w fuel cs x} h=>by
 obtain ⟨xs,m,_,_,hl,hx,hE⟩:=DataW.trod_array ht h
 rw [hc] at hl
 obtain ⟨l,h1,h2⟩:=uy (p:=fun i (b:PV)=>S [b]∧∃ c,cs[i]?=some c∧c.oneCell'=true∧aA (fun b=>b<w.heap.size) w b c) n fun i hi=>by
  have:=hE i hi
  rw [ZZ (by omega),he.1] at this
  obtain ⟨ps,g1,g2,g3,g4,g5⟩:=he.2 this
  match ps,g2 with
  |[p],_ =>
   have hci:cs[i]?=some cs[i]:=ZZ (by omega)
   have h0:((cs.drop (i*1)).take 1)[0]?=some cs[i]:=by
    rw [List.getElem?_take,if_pos (by decide),List.getElem?_drop]
    simpa using hci
   exact ⟨p,g1,cs[i],hci,g4 _ (zP h0),g5 0 p _ rfl h0⟩
 refine ⟨l,⟨h1,fun p hp=>?_⟩,h1,by omega,fun c hc=>?_,fun j x v hx hv=>?_⟩
 ·obtain ⟨i,hi⟩:=ZaG.1 hp
  exact (h2 i p hi).1
 ·obtain ⟨i,hi⟩:=ZaG.1 hc
  have hil:i<l.length:=by
   have:=(Z3.1 hi).1
   omega
  obtain ⟨_,c',e1,e2,_⟩:=h2 i l[i] (ZZ hil)
  rw [hi] at e1;cases e1;exact e2
 ·obtain ⟨_,c',e1,_,e3⟩:=h2 j x hx
  rw [hv] at e1;cases e1;exact e3⟩
theorem vM {w:World}{b off:Nat}{v:Value}(h:w.cell? ⟨b,off,none⟩=some v):bY w b:=by
 unfold World.cell? at h
 split at h
 ·rename_i arr E q hb
  exact ⟨arr,E,q,hb⟩
 ·cases h
theorem jX.list {wr:List PV→PV}(ht:P.underlying t=some (.slice e))(hc:P.cellsOf t=1)(hr:jX P e n S)(hpos:0<n)(hw:∀ ps,S ps→ps.length=n→(wr ps).cells=ps):jX P t 1 (PS n S wr):=⟨hc,fun {H enc w fuel cs x} h=>by
 rcases DataW.trod_slice ht h with ⟨rfl,_⟩|⟨a,len,cap,elems,rest,m,_,rfl,_,_,hl,hm,hel,hE,hR,_⟩
 ·exact ⟨[.list n []],⟨[],rfl,fun x hx=>by cases hx⟩,rfl,qH rfl (.nil n none)⟩
 ·obtain ⟨l,h1,h2⟩:=uy (p:=fun i (y:List Value×List PV)=>w.cells? 0 (a.add (i*n)) n=some y.1∧S y.2∧y.2.length=n∧yH w y.1 y.2) len fun i hi=>by
   have:=hE i hi
   rw [ZZ (by omega),hr.1,Zaz] at this
   obtain ⟨c,h3,h4⟩:=this
   obtain ⟨ps,g1,g2,g3⟩:=hr.2 h4
   exact ⟨(c,ps),h3,g1,g2,g3⟩
  refine ⟨[.list n (l.map fun y=>wr y.2)],⟨_,rfl,fun x hx=>?_⟩,rfl,qH rfl ?_⟩
  ·obtain ⟨y,hy,rfl⟩:=List.mem_map.1 hx
   obtain ⟨i,hi⟩:=ZaG.1 hy
   exact ⟨y.2,(h2 i y hi).2.1,rfl⟩
  ·by_cases hcap:cap=0
   ·have:len=0:=by omega
    subst hcap;subst this
    have:l=[]:=Zad h1
    subst this
    exact .nil n (some a)
   ·-- there are cells
    have hcell:∃ off v,w.cell? ⟨a.block,off,none⟩=some v∧a.spot=none:=by
     have JL:∀ (i:Nat) (c:List Value),w.cells? 0 (a.add (i*n)) n=some c→∃ off v,w.cell? ⟨a.block,off,none⟩=some v∧a.spot=none:=fun i c h3=>by
      obtain ⟨_,hc0,h4⟩:=World.cells?_some h3
      have h5:=h4 0 hpos
      rw [ZZ (by omega)] at h5
      have hs:(a.add (i*n)).spot=none:=by simpa [Addr.add] using World.cell?_spot h5
      have hs0:a.spot=none:=by
       unfold Addr.add at hs
       split at hs
       ·exact hs
       ·rename_i hne
        by_cases h0:i*n=0
        ·rename_i q;exact absurd h0 (by simpa using hne)
        ·rcases ZaV i with hi0|hi0
         ·subst hi0;simp at h0
         ·-- the row begins at a: its first cell
          have:0<len∨len=0:=by omega
          rcases this with hlen|hlen
          ·obtain ⟨y,hy⟩:∃ y,l[0]?=some y:=⟨l[0],ZZ (by omega)⟩
           obtain ⟨_,hc1,h6⟩:=World.cells?_some (h2 0 y hy).1
           have h7:=h6 0 hpos
           rw [ZZ (by omega)] at h7
           simpa [Addr.add] using World.cell?_spot h7
          ·have hrl:0<rest.length:=by have:=(hR rfl).1;omega
           have:=(hR rfl).2 0 (by omega)
           have h8:rest[0]?=some rest[0]:=ZZ hrl
           rw [h8,hr.1,hlen,Zaz] at this
           obtain ⟨c1,h9,_⟩:=this
           obtain ⟨_,hc1,h6⟩:=World.cells?_some h9
           have h7:=h6 0 hpos
           rw [ZZ (by omega)] at h7
           simpa [Addr.add] using World.cell?_spot h7
      obtain ⟨b,off,spot⟩:=a
      simp only at hs0
      subst hs0
      rw [Addr.add_lit,Addr.add_lit] at h5
      exact ⟨_,_,h5,rfl⟩
     rcases ZaV len with hlen|hlen
     ·have hrl:0<rest.length:=by have:=(hR rfl).1;omega
      have:=(hR rfl).2 0 (by omega)
      have h8:rest[0]?=some rest[0]:=ZZ hrl
      rw [h8,hr.1,Zaz] at this
      obtain ⟨c1,h9,_⟩:=this
      exact JL _ c1 h9
     ·obtain ⟨y,hy⟩:∃ y,l[0]?=some y:=⟨l[0],ZZ (by omega)⟩
      exact JL 0 _ (h2 0 y hy).1
    obtain ⟨ajw,v0,hv0,hspot⟩:=hcell
    obtain ⟨b,off,spot⟩:=a
    simp only at hspot hv0
    subst hspot
    have hC:bY w b:=vM hv0
    have hget:∀ (i:Nat) x,(l.map fun y=>wr y.2)[i]?=some x→∃ y,l[i]?=some y∧x=wr y.2:=fun i x hx=>by
     rw [zc] at hx
     cases e:l[i]? with
     |none=>rw [e] at hx;cases hx
     |some y=>rw [e] at hx;exact ⟨y,rfl,(ZD.inj hx).symm⟩
    have hlen:(l.map fun y=>wr y.2).length=len:=by simp [h1]
    have:=aA.list (ok:=fun b=>b<w.heap.size) (w:=w) n (l.map fun y=>wr y.2) b off cap (fun i j=>(((l[i]?).map (·.1)).getD []).getD j default) hC.lt hC (by rw [hlen];exact hl) hm
     (fun x hx=>by
      obtain ⟨i,hi⟩:=ZaG.1 hx
      obtain ⟨y,hy,rfl⟩:=hget i x hi
      obtain ⟨_,g1,g2,_⟩:=h2 i y hy
      rw [hw _ g1 g2,g2])
     (fun i x j p hi hj=>by
      obtain ⟨y,hy,rfl⟩:=hget i x hi
      obtain ⟨g0,g1,g2,g3,g4,g5⟩:=h2 i y hy
      rw [hw _ g1 g2] at hj
      have hjn:j<n:=by have:=(Z3.1 hj).1;omega
      obtain ⟨_,hc1,h6⟩:=World.cells?_some g0
      have h7:=h6 j hjn
      have hcj:y.1[j]?=some y.1[j]:=ZZ (by omega)
      have hd:(((l[i]?).map (·.1)).getD []).getD j default=y.1[j]:=by
       rw [hy];simp [Zaf,hcj]
      rw [hd]
      rw [hcj,Addr.add_lit,Addr.add_lit] at h7
      exact ⟨h7,g4 _ (zP hcj)⟩)
     (fun i x j p hi hj=>by
      obtain ⟨y,hy,rfl⟩:=hget i x hi
      obtain ⟨g0,g1,g2,g3,g4,g5⟩:=h2 i y hy
      rw [hw _ g1 g2] at hj
      have hjn:j<n:=by have:=(Z3.1 hj).1;omega
      have hcj:y.1[j]?=some y.1[j]:=ZZ (by omega)
      have hd:(((l[i]?).map (·.1)).getD []).getD j default=y.1[j]:=by
       rw [hy];simp [Zaf,hcj]
      rw [hd]
      exact g5 j p _ hj hcj)
    rw [hlen] at this
    exact this⟩
theorem yH.append {w:World}{c1 c2:List Value}{p1 p2:List PV}(h1:yH w c1 p1)(h2:yH w c2 p2):yH w (c1++c2) (p1++p2):=by
 obtain ⟨a1,a2,a3⟩:=h1
 obtain ⟨b1,b2,b3⟩:=h2
 refine ⟨by simp [a1,b1],fun c hc=>?_,fun j x v hx hv=>?_⟩
 ·rcases ZaC.1 hc with h|h
  ·exact a2 c h
  ·exact b2 c h
 ·by_cases hj:j<p1.length
  ·rw [Zab hj] at hx
   rw [Zab (by omega)] at hv
   exact a3 j x v hx hv
  ·rw [Zac (by omega)] at hx
   rw [Zac (by omega),a1] at hv
   exact b3 _ x v hx hv
inductive OG (P:Program):Nat→List Field→List (List PV→Prop)→Nat→Prop
 |nil (o:Nat):OG P o [] [] 0
 |cons {o n m:Nat} {f:Field} {fs:List Field} {S:List PV→Prop} {Ss:List (List PV→Prop)}:f.offset=o→jX P f.type n S→OG P (o+n) fs Ss m→OG P o (f::fs) (S::Ss) (n+m)
theorem OG.read {o:Nat}{fs:List Field}{Ss:List (List PV→Prop)}(h:OG P o fs Ss m){H:Type}{enc:TypeId×Value→H}{w:World}{fuel:Nat}{cs:List Value}{xs:List (DataW H×List MemPlace)}(hl:cs.length=o+m)
  (hx:∀ (i:Nat) (f:Field),fs[i]?=some f→∃ x,DataW.trod enc P w 0 (fun _=>true) true fuel f.type ((cs.drop f.offset).take (P.cellsOf f.type))=some x):∃ ps,JK Ss ps∧ps.length=m∧yH w (cs.drop o) ps:=by
 induction h with
 |nil o=>exact ⟨[],rfl,rfl,by rw [List.drop_of_length_le (by omega)];exact (⟨rfl,fun c hc=>(by cases hc),fun j x v hx=>(by simp at hx)⟩:yH w [] [])⟩
 |@cons o n m f fs S Ss h1 h2 h3 ih =>
  obtain ⟨x,h4⟩:=hx 0 f rfl
  rw [h2.1,h1] at h4
  obtain ⟨p,g1,g2,g3⟩:=h2.2 h4
  obtain ⟨q,k1,k2,k3⟩:=ih (by omega) (fun i f hf=>hx (i+1) f hf)
  refine ⟨p++q,⟨p,q,rfl,g1,k1⟩,by simp [g2,k2],?_⟩
  have:cs.drop o=(cs.drop o).take n++cs.drop (o+n):=by rw [← ZbQ,ZaI]
  rw [this]
  exact g3.append k3
theorem jX.struct {fs:Array Field}{Ss:List (List PV→Prop)}(ht:P.underlying t=some (.struct fs))(hf:OG P 0 fs.toList Ss n)(hc:P.cellsOf t=n):jX P t n (JK Ss):=⟨hc,fun {H enc w fuel cs x} h=>by
 obtain ⟨xs,m,_,_,hl,hx,hE⟩:=DataW.trod_struct ht h
 obtain ⟨ps,h1,h2,h3⟩:=hf.read (xs:=xs) (enc:=enc) (w:=w) (fuel:=m) (cs:=cs) (by omega) (fun i f hi=>by
  have hi':fs[i]?=some f:=by simpa using hi
  have:=hE i f hi'
  have hil:i<xs.length:=by rw [hx];exact (Array.getElem?_eq_some_iff.1 hi').1
  exact ⟨xs[i],by rw [this,ZZ hil]⟩)
 exact ⟨ps,h1,h2,by simpa using h3⟩⟩
theorem jX.PU {f0 f1 f2:Field}{n0 n1 n2:Nat}{S0 S1 S2:List PV→Prop}(ht:P.underlying t=some (.struct #[f0,f1,f2]))(h0:jX P f0.type n0 S0)(h1:jX P f1.type n1 S1)(h2:jX P f2.type n2 S2)(o0:f0.offset=0)(o1:f1.offset=0+n0)(o2:f2.offset=0+n0+n1)(hc:P.cellsOf t=n0+(n1+(n2+0))):jX P t (n0+(n1+(n2+0))) (JK [S0,S1,S2]) :=
 jX.struct ht (show OG P 0 [f0,f1,f2] [S0,S1,S2] (n0+(n1+(n2+0))) from .cons o0 h0 (.cons o1 h1 (.cons o2 h2 (.nil _)))) hc
theorem abQ {H:Type}{enc:TypeId×Value→H}{w:World}{v:Value}{d:DataW H}{p:List MemPlace}(hr:jX P t 1 S)(hone:v.cells.toList=[v])(h:DataW.Trod enc P w 0 (fun _=>true) true t v d p) :
  ∃ q,S [q]∧aA (fun b=>b<w.heap.size) w q v:=by
 obtain ⟨fuel,hf⟩:=h
 obtain ⟨ps,h1,h2,h3,h4,h5⟩:=hr.2 hf
 match ps,h2 with
 |[q],_=>exact ⟨q,h1,h5 0 q v rfl (by rw [hone];rfl)⟩
theorem EX {H:Type}{enc:TypeId×Value→H}{w:World}{v:Value}{d:DataW H}{p:List MemPlace}{m:Reach}{base:Nat}(ht:P.underlying t=some (.slice e))(hr:jX P t 1 S)(hv:Value.okWide P w m base t v)(h:DataW.Trod enc P w 0 (fun _=>true) true t v d p) :
  ∃ q,S [q]∧aA (fun b=>b<w.heap.size) w q v:=by
 obtain ⟨a,l,c,rfl⟩:=okWide_slice ht hv
 exact abQ hr rfl h
end
end Go.Proofs.YthccglceomoboaaGreatDoor
namespace Go.Proofs.YthccglceomoboaaGreatDoor
def vN:aj:=(.seq (.seq (.ops [.ah 96 (.t 20),.ah 97 (.t 2),.len 98 (.t 97),.bin 99 .add (.t 98) (.c (.int .i64 20)),.bin 100 .lss (.t 96) (.t 99),.ah 101 (.t 100),.grd 101 true (.au 102 (.t 16) 7),.grd 101 true (.load 103 none (.t 102)),.grd 101 true (.un 104 .not (.t 103)),.pick 105 (.t 101) (.t 104) (.c (.bool false))]) (.cond (.t 105) .skip (.exit 0))) (.seq (.block 1 (.seq (.ops [.load 108 (some 8) (.t 16),.call 109 29 [(.t 108)],.alloc 21 [(.int .i64 0),(.int .i64 0),(.int .i64 0),(.int .i64 0),(.int .i64 0),(.int .i64 0),(.list 0 []),(.list 0 [])],.store none 8 (.t 21) (.t 109)]) (.seq (.seq (.ops [.ah 110 (.t 20),.ah 111 (.t 2),.len 112 (.t 111),.bin 113 .lss (.t 110) (.t 112),.ah 114 (.t 113),.grd 114 true (.ah 115 (.t 2)),.grd 114 true (.ah 116 (.t 20)),.grd 114 true (.bG 117 1 (.t 115) (.t 116)),.grd 114 true (.load 118 none (.t 117)),.grd 114 true (.bin 119 .rem (.t 118) (.c (.int .u8 3))),.grd 114 true (.bin 120 .eql (.t 119) (.c (.int .u8 1))),.pick 121 (.t 114) (.t 120) (.c (.bool false)),.ah 122 (.t 121),.grd 122 true (.ah 123 (.t 19)),.grd 122 true (.len 124 (.t 123)),.grd 122 true (.bin 125 .gtr (.t 124) (.c (.int .i64 0))),.pick 126 (.t 122) (.t 125) (.c (.bool false))]) (.cond (.t 126) (.seq (.drs [] [2,11,13,14,16,19,20,22,24,68,191] [.load 128 (some 8) (.t 16),.ah 129 (.t 19),.ah 130 (.t 2),.ah 131 (.t 20),.bG 132 1 (.t 130) (.t 131),.load 133 none (.t 132),.bin 134 .quo (.t 133) (.c (.int .u8 3)),.conv 135 .i64 (.t 134),.ah 136 (.t 19),.len 137 (.t 136),.bin 138 .rem (.t 135) (.t 137),.bG 139 8 (.t 129) (.t 138),.load 140 (some 8) (.t 139),.call 141 30 [(.t 128),(.t 140)],.ah 127 (.t 141),.ext 142 (.t 127) 0,.ext 143 (.t 127) 1,.ext 144 (.t 127) 2,.alloc 22 [(.int .i64 0),(.int .i64 0),(.list 0 []),(.list 0 []),(.int .i64 0),(.list 0 []),(.int .i64 0),(.bool false)],.store none 8 (.t 22) (.t 142),.ak 23 (.t 143),.ak 24 (.t 144)]
     [⟨[([0,1,2,3,4,5,6,7,8,9,10,11,12],13),([14,15,16,17],18)],(some ([],[],19,[])),[20,21],[0,1,2,3,4,5,6,7,8,9,10,11,12,13,14,15,16,17,18,19,20,21],false⟩,⟨[([0,1,2,3,4,5,6,7,8,9,10,11,12],18),([],13)],(some ([14,15],[16,17],19,[])),[20,21],[0,1,2,3,4,5,6,7,8,9,10,11,12,18,13,14,15,16,17,19,20,21],false⟩]) (.seq (.seq (.ops [.ah 145 (.t 24),.bin 146 .eql (.t 145) (.c (.int .i64 0)),.ah 147 (.t 146),.grd 147 false (.au 148 (.t 22) 6),.grd 147 false (.load 149 none (.t 148)),.grd 147 false (.bin 150 .neq (.t 149) (.c (.int .i64 0))),.pick 151 (.t 147) (.c (.bool true)) (.t 150),.ah 152 (.t 151),.grd 152 false (.au 153 (.t 22) 3),.grd 152 false (.load 154 none (.t 153)),.grd 152 false (.len 155 (.t 154)),.grd 152 false (.bin 156 .neq (.t 155) (.c (.int .i64 0))),.pick 157 (.t 152) (.c (.bool true)) (.t 156)]) (.cond (.t 157) (.seq (.ops [.ak 6 (.c (.bool false))]) .ret) .skip)) (.exit 1))) .skip)) (.seq (.ops [.load 159 (some 3) (.t 11),.load 160 (some 8) (.t 21),.call 161 31 [(.t 159),(.t 160)],.ah 158 (.t 161),.ext 162 (.t 158) 0,.ext 163 (.t 158) 1,.alloc 25 [(.int .i64 0),(.int .i64 0),(.int .i64 0),(.int .i64 0),(.int .i64 0),(.int .i64 0),(.list 0 []),(.list 0 [])],.store none 8 (.t 25) (.t 162),.ak 26 (.t 163)]) (.seq (.seq (.ops [.ah 164 (.t 26),.bin 165 .neq (.t 164) (.c (.int .i64 0))]) (.cond (.t 165) (.seq (.ops [.ak 6 (.c (.bool false))]) .ret) .skip)) (.seq (.seq (.ops [.ah 166 (.t 20),.ah 167 (.t 2),.len 168 (.t 167),.bin 169 .lss (.t 166) (.t 168),.ah 170 (.t 169),.grd 170 true (.ah 171 (.t 2)),.grd 170 true (.ah 172 (.t 20)),.grd 170 true (.bG 173 1 (.t 171) (.t 172)),.grd 170 true (.load 174 none (.t 173)),.grd 170 true (.bin 175 .rem (.t 174) (.c (.int .u8 3))),.grd 170 true (.bin 176 .eql (.t 175) (.c (.int .u8 2))),.pick 177 (.t 170) (.t 176) (.c (.bool false))]) (.cond (.t 177) (.exit 1) .skip)) (.seq (.ops [.load 179 (some 8) (.t 16),.load 180 (some 8) (.t 25),.call 181 30 [(.t 179),(.t 180)],.ah 178 (.t 181),.ext 182 (.t 178) 0,.ext 183 (.t 178) 1,.ext 184 (.t 178) 2,.alloc 27 [(.int .i64 0),(.int .i64 0),(.list 0 []),(.list 0 []),(.int .i64 0),(.list 0 []),(.int .i64 0),(.bool false)],.store none 8 (.t 27) (.t 182),.ak 28 (.t 183),.ak 26 (.t 184)]) (.seq (.seq (.ops [.ah 185 (.t 26),.bin 186 .neq (.t 185) (.c (.int .i64 0))]) (.cond (.t 186) (.seq (.ops [.ak 6 (.c (.bool false))]) .ret) .skip)) (.qp [(.t 27)] [([1,2,0],3)] (some ([],[],4,[([],5)])) [6] [.ah 188 (.t 19),.load 189 (some 8) (.t 25),.Ie 187 (some 8) (.t 27),.eP 190 8 [(.t 189)],.app 191 8 (.t 188) (.t 190),.store none 8 (.t 16) (.t 187),.ak 19 (.t 191)]))))))))) (.ops [.ah 106 (.t 20),.bin 107 .add (.t 106) (.c (.int .i64 1)),.ak 20 (.t 107)])))
def OH:aj :=
(.clean [2,11,13,14,16,19,20,68,191] [6,13,14,16] (.block 0 (.loop [2,11,13,14,16,19,20,68,191] vN)))
def fn4:dL:=⟨3,209,[.tmp 6],(.seq (.ops [.ak 6 (.c (.bool false))]) (.seq (.seq (.ops [.ah 29 (.t 0),.len 30 (.t 29),.bin 31 .lss (.t 30) (.c (.int .i64 1)),.ah 32 (.t 31),.grd 32 false (.ah 33 (.t 0)),.grd 32 false (.len 34 (.t 33)),.grd 32 false (.bin 35 .gtr (.t 34) (.c (.int .i64 60))),.pick 36 (.t 32) (.c (.bool true)) (.t 35),.ah 37 (.t 36),.grd 37 false (.ah 38 (.t 1)),.grd 37 false (.len 39 (.t 38)),.grd 37 false (.bin 40 .gtr (.t 39) (.c (.int .i64 6))),.pick 41 (.t 37) (.c (.bool true)) (.t 40),.ah 42 (.t 41),.grd 42 false (.ah 43 (.t 2)),.grd 42 false (.len 44 (.t 43)),.grd 42 false (.bin 45 .gtr (.t 44) (.c (.int .i64 60))),.pick 46 (.t 42) (.c (.bool true)) (.t 45)]) (.cond (.t 46) (.seq (.ops [.call 47 24 [],.ak 6 (.t 47)]) .ret) .skip)) (.seq (.ops [.ah 49 (.t 0),.ah 50 (.t 1),.call 51 25 [(.t 49),(.t 50)],.ah 48 (.t 51),.ext 52 (.t 48) 0,.ext 53 (.t 48) 1,.ak 7 (.t 52),.ak 8 (.t 53)]) (.seq (.ops [.ah 55 (.t 7),.call 56 26 [(.t 55),(.c (.int .i64 2))],.ah 54 (.t 56),.ext 57 (.t 54) 0,.ext 58 (.t 54) 1,.alloc 9 [(.int .i64 0),(.int .i64 0),(.list 0 [])],.store none 3 (.t 9) (.t 57),.ak 10 (.t 58)]) (.seq (.ops [.ah 60 (.t 8),.call 61 26 [(.t 60),(.c (.int .i64 2))],.ah 59 (.t 61),.ext 62 (.t 59) 0,.ext 63 (.t 59) 1,.alloc 11 [(.int .i64 0),(.int .i64 0),(.list 0 [])],.store none 3 (.t 11) (.t 62),.ak 12 (.t 63)]) (.seq (.ops [.load 65 (some 3) (.t 9),.load 66 (some 3) (.t 11),.call 67 27 [(.t 65),(.t 66)],.ah 64 (.t 67),.ext 68 (.t 64) 0,.ext 69 (.t 64) 1,.ext 70 (.t 64) 2,.ak 13 (.t 68),.ak 14 (.t 69),.ak 15 (.t 70)]) (.seq (.ops [.load 72 (some 3) (.t 9),.call 73 28 [(.t 72)],.ah 71 (.t 73),.ext 74 (.t 71) 0,.ext 75 (.t 71) 1,.ext 76 (.t 71) 2,.alloc 16 [(.int .i64 0),(.int .i64 0),(.list 0 []),(.list 0 []),(.int .i64 0),(.list 0 []),(.int .i64 0),(.bool false)],.store none 8 (.t 16) (.t 74),.ak 17 (.t 75),.ak 18 (.t 76)]) (.seq (.seq (.ops [.ah 77 (.t 10),.bin 78 .neq (.t 77) (.c (.int .i64 0)),.ah 79 (.t 78),.grd 79 false (.ah 80 (.t 12)),.grd 79 false (.bin 81 .neq (.t 80) (.c (.int .i64 0))),.pick 82 (.t 79) (.c (.bool true)) (.t 81),.ah 83 (.t 82),.grd 83 false (.ah 84 (.t 15)),.grd 83 false (.bin 85 .neq (.t 84) (.c (.int .i64 0))),.pick 86 (.t 83) (.c (.bool true)) (.t 85),.ah 87 (.t 86),.grd 87 false (.ah 88 (.t 18)),.grd 87 false (.bin 89 .neq (.t 88) (.c (.int .i64 0))),.pick 90 (.t 87) (.c (.bool true)) (.t 89),.ah 91 (.t 90),.grd 91 false (.ah 92 (.t 17)),.grd 91 false (.len 93 (.t 92)),.grd 91 false (.bin 94 .neq (.t 93) (.c (.int .i64 1))),.pick 95 (.t 91) (.c (.bool true)) (.t 94)]) (.cond (.t 95) (.seq (.ops [.ak 6 (.c (.bool false))]) .ret) .skip)) (.seq (.ops [.ak 19 (.nil 8)]) (.seq (.seq (.ops [.ak 20 (.c (.int .i64 0))])
      OH) (.seq (.ops [.call 192 24 [],.ah 193 (.t 192),.grd 193 true (.au 194 (.t 16) 7),.grd 193 true (.load 195 none (.t 194)),.pick 196 (.t 193) (.t 195) (.c (.bool false)),.ah 197 (.t 196),.grd 197 true (.au 198 (.t 16) 5),.grd 197 true (.load 199 none (.t 198)),.grd 197 true (.ah 200 (.t 13)),.grd 197 true (.call 201 32 [(.t 199),(.t 200)]),.pick 202 (.t 197) (.t 201) (.c (.bool false)),.ah 203 (.t 202),.grd 203 true (.au 204 (.t 16) 6),.grd 203 true (.load 205 none (.t 204)),.grd 203 true (.ah 206 (.t 14)),.grd 203 true (.bin 207 .eql (.t 205) (.t 206)),.pick 208 (.t 203) (.t 207) (.c (.bool false)),.ak 6 (.t 208)]) .ret)))))))))))⟩
def WZ:dL:=⟨0,132,[.tmp 0],(.seq (.ops [.ak 0 (.c (.bool false))]) (.seq (.ops [.call 18 87 [(.c (.int .i64 8)),(.c (.int .i64 4))],.ah 17 (.t 18),.ext 19 (.t 17) 0,.ext 20 (.t 17) 1,.alloc 1 [(.int .i64 0),(.int .i64 0),(.list 1 []),(.int .i64 0),(.list 1 [])],.store none 5 (.t 1) (.t 19),.ak 2 (.t 20)]) (.seq (.ops [.load 22 (some 5) (.t 1),.build 23 [(.int .i64 0),(.int .i64 0)] [(0,1,(.c (.int .i64 5))),(1,1,(.c (.int .i64 1)))],.call 24 88 [(.t 22),(.t 23)],.ah 21 (.t 24),.ext 25 (.t 21) 0,.ext 26 (.t 21) 1,.ext 27 (.t 21) 2,.store none 5 (.t 1) (.t 25),.ak 3 (.t 26),.ak 4 (.t 27)]) (.seq (.ops [.load 29 (some 5) (.t 1),.call 30 90 [(.t 29)],.call 31 89 [(.c (.int .i64 8)),(.c (.int .i64 4)),(.t 30)],.ah 28 (.t 31),.ext 32 (.t 28) 0,.ext 33 (.t 28) 1,.ext 34 (.t 28) 2,.alloc 5 [(.int .i64 0),(.int .i64 0),(.list 1 []),(.int .i64 0),(.list 1 [])],.store none 5 (.t 5) (.t 32),.ak 6 (.t 33),.ak 7 (.t 34)]) (.seq (.ops [.build 36 [(.int .u8 0),(.int .u8 0),(.int .u8 0),(.int .u8 0),(.int .u8 0),(.int .u8 0),(.int .u8 0),(.int .u8 0)] [],.build 37 [(.int .u8 0),(.int .u8 0),(.int .u8 0),(.int .u8 0),(.int .u8 0),(.int .u8 0),(.int .u8 0),(.int .u8 0)] [],.build 38 [(.int .u8 0),(.int .u8 0),(.int .u8 0),(.int .u8 0),(.int .u8 0),(.int .u8 0),(.int .u8 0),(.int .u8 0)] [],.build 39 [(.int .u8 0),(.int .u8 0),(.int .u8 0),(.int .u8 0),(.int .u8 0),(.int .u8 0),(.int .u8 0),(.int .u8 0)] [],.build 40 [(.int .u8 0),(.int .u8 0),(.int .u8 0),(.int .u8 0),(.int .u8 0),(.int .u8 0),(.int .u8 0),(.int .u8 0)] [],.build 41 [(.int .u8 0),(.int .u8 0),(.int .u8 0),(.int .u8 0),(.int .u8 0),(.int .u8 0),(.int .u8 0),(.int .u8 0)] [(0,1,(.c (.int .u8 1)))],.build 42 [(.int .u8 0),(.int .u8 0),(.int .u8 0),(.int .u8 0),(.int .u8 0),(.int .u8 0),(.int .u8 0),(.int .u8 0)] [],.build 43 [(.int .u8 0),(.int .u8 0),(.int .u8 0),(.int .u8 0),(.int .u8 0),(.int .u8 0),(.int .u8 0),(.int .u8 0)] [],.eP 44 8 [(.t 36),(.t 37),(.t 38),(.t 39),(.t 40),(.t 41),(.t 42),(.t 43)],.eP 45 1 [(.t 44)],.ah 46 (.t 6),.eP 47 1 [(.t 46)],.call 48 43 [(.t 45),(.t 47)],.ah 35 (.t 48),.ext 49 (.t 35) 0,.ext 50 (.t 35) 1,.ak 8 (.t 49),.ak 9 (.t 50)]) (.seq (.ops [.build 52 [(.int .u8 0),(.int .u8 0),(.int .u8 0),(.int .u8 0),(.int .u8 0),(.int .u8 0),(.int .u8 0),(.int .u8 0)] [],.build 53 [(.int .u8 0),(.int .u8 0),(.int .u8 0),(.int .u8 0),(.int .u8 0),(.int .u8 0),(.int .u8 0),(.int .u8 0)] [],.build 54 [(.int .u8 0),(.int .u8 0),(.int .u8 0),(.int .u8 0),(.int .u8 0),(.int .u8 0),(.int .u8 0),(.int .u8 0)] [],.eP 55 8 [(.t 52),(.t 53),(.t 54)],.call 56 26 [(.t 55),(.c (.int .i64 2))],.ah 51 (.t 56),.ext 57 (.t 51) 0,.ext 58 (.t 51) 1,.alloc 10 [(.int .i64 0),(.int .i64 0),(.list 0 [])],.store none 3 (.t 10) (.t 57),.ak 11 (.t 58)]) (.seq (.ops [.build 60 [(.int .u8 0),(.int .u8 0),(.int .u8 0),(.int .u8 0),(.int .u8 0),(.int .u8 0),(.int .u8 0),(.int .u8 0)] [],.build 61 [(.int .u8 0),(.int .u8 0),(.int .u8 0),(.int .u8 0),(.int .u8 0),(.int .u8 0),(.int .u8 0),(.int .u8 0)] [],.build 62 [(.int .u8 0),(.int .u8 0),(.int .u8 0),(.int .u8 0),(.int .u8 0),(.int .u8 0),(.int .u8 0),(.int .u8 0)] [(0,1,(.c (.int .u8 1)))],.eP 63 8 [(.t 60),(.t 61),(.t 62)],.call 64 26 [(.t 63),(.c (.int .i64 2))],.ah 59 (.t 64),.ext 65 (.t 59) 0,.ext 66 (.t 59) 1,.alloc 12 [(.int .i64 0),(.int .i64 0),(.list 0 [])],.store none 3 (.t 12) (.t 65),.ak 13 (.t 66)]) (.seq (.ops [.load 68 (some 3) (.t 10),.load 69 (some 3) (.t 12),.call 70 27 [(.t 68),(.t 69)],.ah 67 (.t 70),.ext 71 (.t 67) 0,.ext 72 (.t 67) 1,.ext 73 (.t 67) 2,.ak 14 (.t 71),.ak 15 (.t 72),.ak 16 (.t 73)]) (.seq (.seq (.ops [.ah 74 (.t 2),.bin 75 .neq (.t 74) (.c (.int .i64 0)),.ah 76 (.t 75),.grd 76 false (.ah 77 (.t 4)),.grd 76 false (.bin 78 .neq (.t 77) (.c (.int .i64 0))),.pick 79 (.t 76) (.c (.bool true)) (.t 78),.ah 80 (.t 79),.grd 80 false (.ah 81 (.t 7)),.grd 80 false (.bin 82 .neq (.t 81) (.c (.int .i64 0))),.pick 83 (.t 80) (.c (.bool true)) (.t 82),.ah 84 (.t 83),.grd 84 false (.ah 85 (.t 9)),.grd 84 false (.bin 86 .neq (.t 85) (.c (.int .i64 0))),.pick 87 (.t 84) (.c (.bool true)) (.t 86),.ah 88 (.t 87),.grd 88 false (.ah 89 (.t 11)),.grd 88 false (.bin 90 .neq (.t 89) (.c (.int .i64 0))),.pick 91 (.t 88) (.c (.bool true)) (.t 90),.ah 92 (.t 91),.grd 92 false (.ah 93 (.t 13)),.grd 92 false (.bin 94 .neq (.t 93) (.c (.int .i64 0))),.pick 95 (.t 92) (.c (.bool true)) (.t 94),.ah 96 (.t 95),.grd 96 false (.ah 97 (.t 16)),.grd 96 false (.bin 98 .neq (.t 97) (.c (.int .i64 0))),.pick 99 (.t 96) (.c (.bool true)) (.t 98),.ah 100 (.t 99),.grd 100 false (.ah 101 (.t 3)),.grd 100 false (.un 102 .not (.t 101)),.pick 103 (.t 100) (.c (.bool true)) (.t 102),.ah 104 (.t 103),.grd 104 false (.ah 105 (.t 8)),.grd 104 false (.len 106 (.t 105)),.grd 104 false (.bin 107 .neq (.t 106) (.c (.int .i64 1))),.pick 108 (.t 104) (.c (.bool true)) (.t 107)]) (.cond (.t 108) (.seq (.ops [.ak 0 (.c (.bool false))]) .ret) .skip)) (.seq (.ops [.ah 109 (.t 8),.bG 110 3 (.t 109) (.c (.int .i64 0)),.au 111 (.t 110) 1,.load 112 none (.t 111),.bin 113 .eql (.t 112) (.c (.int .i64 4)),.ah 114 (.t 113),.grd 114 true (.ah 115 (.t 8)),.grd 114 true (.bG 116 3 (.t 115) (.c (.int .i64 0))),.grd 114 true (.au 117 (.t 116) 2),.grd 114 true (.load 118 none (.t 117)),.grd 114 true (.len 119 (.t 118)),.grd 114 true (.bin 120 .eql (.t 119) (.c (.int .i64 4))),.pick 121 (.t 114) (.t 120) (.c (.bool false)),.ah 122 (.t 121),.grd 122 true (.ah 123 (.t 14)),.grd 122 true (.build 124 [(.int .i64 0),(.int .i64 0)] [(0,1,(.c (.int .i64 2))),(1,1,(.c (.int .i64 1)))]),.grd 122 true (.eP 125 2 [(.t 124)]),.grd 122 true (.call 126 32 [(.t 123),(.t 125)]),.pick 127 (.t 122) (.t 126) (.c (.bool false)),.ah 128 (.t 127),.grd 128 true (.ah 129 (.t 15)),.grd 128 true (.bin 130 .eql (.t 129) (.c (.int .i64 3))),.pick 131 (.t 128) (.t 130) (.c (.bool false)),.ak 0 (.t 131)]) .ret))))))))))⟩
def xg:aj:=(.seq (.seq (.ops [.ah 19 (.t 8),.ah 20 (.t 1),.ah 21 (.t 7),.bG 22 3 (.t 20) (.t 21),.au 23 (.t 22) 2,.load 24 none (.t 23),.len 25 (.t 24),.bin 26 .lss (.t 19) (.t 25),.ah 27 (.t 26),.grd 27 true (.ah 28 (.t 6)),.grd 27 true (.len 29 (.t 28)),.grd 27 true (.bin 30 .gtr (.t 29) (.c (.int .i64 0))),.pick 31 (.t 27) (.t 30) (.c (.bool false))]) (.cond (.t 31) .skip (.exit 2))) (.seq (.block 3 (.seq (.ops [.ah 34 (.t 1),.ah 35 (.t 7),.bG 36 3 (.t 34) (.t 35),.au 37 (.t 36) 1,.load 38 none (.t 37),.ah 39 (.t 8),.bin 40 .add (.t 38) (.t 39),.ak 9 (.t 40)]) (.seq (.ops [.ah 41 (.t 9),.bin 42 .geq (.t 41) (.c (.int .i64 0)),.ah 43 (.t 42),.grd 43 true (.ah 44 (.t 9)),.grd 43 true (.ah 45 (.t 6)),.grd 43 true (.len 46 (.t 45)),.grd 43 true (.bin 47 .lss (.t 44) (.t 46)),.pick 48 (.t 43) (.t 47) (.c (.bool false))]) (.cond (.t 48) (.ops [.ah 49 (.t 6),.ah 50 (.t 9),.ah 51 (.t 1),.ah 52 (.t 7),.bG 53 3 (.t 51) (.t 52),.au 54 (.t 53) 2,.load 55 none (.t 54),.ah 56 (.t 8),.bG 57 8 (.t 55) (.t 56),.load 58 (some 8) (.t 57),.bG 59 8 (.t 49) (.t 50),.store none 8 (.t 59) (.t 58)]) .skip)))) (.ops [.ah 32 (.t 8),.bin 33 .add (.t 32) (.c (.int .i64 1)),.ak 8 (.t 33)])))
def GN:aj :=
(.clean [0,1,6,7,8,12] [0,1,4,5,6,7,12] (.block 2 (.loop [0,1,6,7,8,12] xg)))
def GR:aj:=(.seq (.seq (.ops [.ah 13 (.t 7),.ah 14 (.t 1),.len 15 (.t 14),.bin 16 .lss (.t 13) (.t 15)]) (.cond (.t 16) .skip (.exit 0))) (.seq (.block 1 (.seq (.ops [.ak 8 (.c (.int .i64 0))])
   GN)) (.ops [.ah 17 (.t 7),.bin 18 .add (.t 17) (.c (.int .i64 1)),.ak 7 (.t 18)])))
def GU:aj :=
(.clean [0,1,6,7,12] [0,4,5,6] (.block 0 (.loop [0,1,6,7,12] GR)))
def W9:dL:=⟨2,62,[.tmp 4,.tmp 5],(.seq (.ops [.ak 4 (.nil 8),.ak 5 (.nil 8)]) (.seq (.ops [.eP 10 8 [],.ah 11 (.t 0),.app 12 8 (.t 10) (.t 11),.ak 6 (.t 12)]) (.seq (.seq (.ops [.ak 7 (.c (.int .i64 0))])
   GU) (.seq (.ops [.ah 60 (.t 0),.ah 61 (.t 6),.ak 4 (.t 60),.ak 5 (.t 61)]) .ret))))⟩
def PW:aj:=(.ops [.ak 8 (.t 20)])
def PX:aj:=(.block 1 (.qp [] [([0,1],2),([],3)] (some ([],[],4,[([],5)])) [] [.load 21 none (.t 7),.ah 22 (.t 8),.call 23 93 [(.t 22)],.eP 24 1 [(.t 23)],.app 25 1 (.t 21) (.t 24),.store none 1 (.t 7) (.t 25)]))
def Xa:dL:=⟨2,31,[.cell 4 (some 3),.tmp 5],(.seq (.ops [.alloc 4 [(.int .i64 0),(.int .i64 0),(.list 0 [])],.ak 5 (.c (.int .i64 0))]) (.seq (.seq (.ops [.ah 9 (.t 0),.len 10 (.t 9),.ah 11 (.t 1),.call 12 91 [(.t 10),(.t 11)],.ak 6 (.t 12)]) (.seq (.ops [.ah 13 (.t 6),.bin 14 .neq (.t 13) (.c (.int .i64 0))]) (.cond (.t 14) (.seq (.ops [.build 15 [(.int .i64 0),(.int .i64 0),(.list 0 [])] [],.ah 16 (.t 6),.store none 3 (.t 4) (.t 15),.ak 5 (.t 16)]) .ret) .skip))) (.seq (.ops [.alloc 7 [(.list 1 [])]]) (.seq (.seq (.ops [.ah 17 (.t 0),.ah 18 (.t 1),.call 19 92 [(.t 17),(.t 18)]]) (.block 0 (.rng (.t 19) [20] PW PX))) (.seq (.ops [.ah 26 (.t 0),.len 27 (.t 26),.ah 28 (.t 1),.load 29 none (.t 7),.call 30 94 [(.t 27),(.t 28),(.t 29)],.store none 3 (.t 4) (.t 30),.ak 5 (.c (.int .i64 0))]) .ret)))))⟩
def GV:aj:=(.seq (.seq (.ops [.ah 37 (.t 9),.bin 38 .eql (.t 37) (.c (.int .i64 0)),.ah 39 (.t 38),.grd 39 true (.ah 40 (.t 8)),.grd 39 true (.len 41 (.t 40)),.grd 39 true (.bin 42 .gtr (.t 41) (.c (.int .i64 0))),.pick 43 (.t 39) (.t 42) (.c (.bool false))]) (.cond (.t 43) .skip (.exit 0))) (.block 1 (.seq (.ops [.alloc 10 [(.int .i64 0),(.int .i64 0),(.int .i64 0),(.int .i64 0),(.int .i64 0),(.int .i64 0),(.list 0 []),(.list 0 [])]]) (.seq (.qp [] [([0,1,2,3],4)] (some ([5,6],[7],8,[])) [9] [.load 45 (some 3) (.t 3),.ah 46 (.t 8),.bG 47 8 (.t 46) (.c (.int .i64 0)),.load 48 (some 8) (.t 47),.call 49 31 [(.t 45),(.t 48)],.ah 44 (.t 49),.ext 50 (.t 44) 0,.ext 51 (.t 44) 1,.store none 8 (.t 10) (.t 50),.ak 9 (.t 51)]) (.seq (.ops [.ah 52 (.t 9),.bin 53 .eql (.t 52) (.c (.int .i64 0))]) (.cond (.t 53) (.ops [.load 55 (some 8) (.t 7),.load 56 (some 8) (.t 10),.call 57 30 [(.t 55),(.t 56)],.ah 54 (.t 57),.ext 58 (.t 54) 0,.ext 59 (.t 54) 1,.ext 60 (.t 54) 2,.store none 8 (.t 7) (.t 58),.ak 8 (.t 59),.ak 9 (.t 60)]) .skip))))))
def GX:aj :=
(.clean [3,7,8,9,15,59] [4,5,6,7,9] (.block 0 (.loop [3,7,8,9,15,59] GV)))
def Xb:dL:=⟨2,68,[.tmp 4,.tmp 5,.tmp 6],(.seq (.ops [.box 2 (.t 0),.box 3 (.t 1),.ak 4 (.nil 2),.ak 5 (.c (.int .i64 0)),.ak 6 (.c (.int .i64 0))]) (.seq (.ops [.load 12 (some 3) (.t 2),.call 13 28 [(.t 12)],.ah 11 (.t 13),.ext 14 (.t 11) 0,.ext 15 (.t 11) 1,.ext 16 (.t 11) 2,.alloc 7 [(.int .i64 0),(.int .i64 0),(.list 0 []),(.list 0 []),(.int .i64 0),(.list 0 []),(.int .i64 0),(.bool false)],.store none 8 (.t 7) (.t 14),.ak 8 (.t 15),.ak 9 (.t 16)]) (.seq (.seq (.ops [.ah 17 (.t 9),.bin 18 .eql (.t 17) (.c (.int .i64 0))]) (.cond (.t 18) (.ops [.load 19 (some 3) (.t 3),.call 20 95 [(.t 19)],.ak 9 (.t 20)]) .skip)) (.seq (.seq (.ops [.ah 21 (.t 9),.bin 22 .eql (.t 21) (.c (.int .i64 0)),.ah 23 (.t 22),.grd 23 true (.au 24 (.t 2) 0),.grd 23 true (.load 25 none (.t 24)),.grd 23 true (.au 26 (.t 3) 0),.grd 23 true (.load 27 none (.t 26)),.grd 23 true (.bin 28 .neq (.t 25) (.t 27)),.grd 23 true (.ah 29 (.t 28)),.grd 29 false (.au 30 (.t 2) 1),.grd 29 false (.load 31 none (.t 30)),.grd 29 false (.au 32 (.t 3) 1),.grd 29 false (.load 33 none (.t 32)),.grd 29 false (.bin 34 .neq (.t 31) (.t 33)),.grd 23 true (.pick 35 (.t 29) (.c (.bool true)) (.t 34)),.pick 36 (.t 23) (.t 35) (.c (.bool false))]) (.cond (.t 36) (.ops [.ak 9 (.c (.int .i64 22))]) .skip)) (.seq
   GX (.seq (.seq (.ops [.ah 61 (.t 9),.bin 62 .neq (.t 61) (.c (.int .i64 0))]) (.cond (.t 62) (.seq (.ops [.ah 63 (.t 9),.ak 4 (.nil 2),.ak 5 (.c (.int .i64 0)),.ak 6 (.t 63)]) .ret) .skip)) (.seq (.qp [] [] none [0,1,2,3,4,5,6] [.au 64 (.t 7) 5,.load 65 none (.t 64),.au 66 (.t 7) 6,.load 67 none (.t 66),.ak 4 (.t 65),.ak 5 (.t 67),.ak 6 (.c (.int .i64 0))]) .ret)))))))⟩
def Xc:dL:=⟨1,31,[.cell 2 (some 8),.tmp 3,.tmp 4],(.seq (.ops [.box 1 (.t 0),.alloc 2 [(.int .i64 0),(.int .i64 0),(.list 0 []),(.list 0 []),(.int .i64 0),(.list 0 []),(.int .i64 0),(.bool false)],.ak 3 (.nil 8),.ak 4 (.c (.int .i64 0))]) (.seq (.seq (.ops [.load 7 (some 3) (.t 1),.call 8 95 [(.t 7)],.ak 5 (.t 8)]) (.seq (.ops [.ah 9 (.t 5),.bin 10 .neq (.t 9) (.c (.int .i64 0))]) (.cond (.t 10) (.seq (.ops [.build 11 [(.int .i64 0),(.int .i64 0),(.list 0 []),(.list 0 []),(.int .i64 0),(.list 0 []),(.int .i64 0),(.bool false)] [],.ah 12 (.t 5),.store none 8 (.t 2) (.t 11),.ak 3 (.nil 8),.ak 4 (.t 12)]) .ret) .skip))) (.seq (.drs [] [2,6,23] [.load 13 (some 3) (.t 1),.call 14 96 [(.t 13)],.au 15 (.t 1) 2,.load 16 none (.t 15),.len 17 (.t 16),.bin 18 .sub (.t 17) (.c (.int .i64 1)),.build 19 [(.int .i64 0),(.int .i64 0)] [(0,1,(.c (.int .i64 0))),(1,1,(.c (.int .i64 1)))],.eP 20 2 [(.t 19)],.build 21 [(.int .i64 0),(.int .i64 0),(.list 0 []),(.list 0 []),(.int .i64 0),(.list 2 []),(.int .i64 0),(.bool false)] [(0,3,(.t 14)),(4,1,(.t 18)),(3,1,(.t 20))],.build 22 [(.int .i64 0),(.int .i64 0),(.list 0 []),(.list 0 []),(.int .i64 0),(.list 0 []),(.int .i64 0),(.bool false)] [(0,8,(.t 21))],.box 23 (.t 22),.ak 6 (.t 23)]
   [⟨[([0,2,3,4,5,6],1),([],7),([8,9],10)],none,[11],[0,2,3,4,5,6,1,7,8,9,10,11],false⟩,⟨[([0,2,3,4,5,6],7),([],1),([8,9],10)],none,[11],[0,2,3,4,5,6,7,1,8,9,10,11],false⟩]) (.seq (.drs [] [2,3,4,30] [.ah 24 (.t 6),.au 25 (.t 24) 0,.au 26 (.t 25) 0,.load 27 (some 8) (.t 26),.ah 28 (.t 6),.call 29 97 [(.t 28)],.eP 30 8 [(.t 29)],.store none 8 (.t 2) (.t 27),.ak 3 (.t 30),.ak 4 (.c (.int .i64 0))]
   [⟨[([0,4],1),([2,3],5)],(some ([],[],7,[([],6)])),[8,9],[0,4,1,2,3,5,7,6,8,9],false⟩,⟨[([0,4],5),([],1)],(some ([2,3],[],7,[([],6)])),[8,9],[0,4,5,1,2,3,7,6,8,9],false⟩,⟨[([0,4],1),([2,3],5),([],6)],(some ([],[],7,[])),[8,9],[0,4,1,2,3,5,6,7,8,9],false⟩,⟨[([0,4],5),([],1),([2,3],6)],(some ([],[],7,[])),[8,9],[0,4,5,1,2,3,6,7,8,9],false⟩,⟨[([0,4],5),([],6),([],1)],(some ([2,3],[],7,[])),[8,9],[0,4,5,6,1,2,3,7,8,9],false⟩]) .ret))))⟩
def GY:aj:=(.seq (.seq (.ops [.ah 12 (.t 4),.au 13 (.t 1) 3,.load 14 none (.t 13),.len 15 (.t 14),.bin 16 .lss (.t 12) (.t 15)]) (.cond (.t 16) .skip (.exit 0))) (.seq (.block 1 (.qp [] [([0,1,2,3,4,5,6,7,8,9,10,11,12],13)] (some ([],[],14,[])) [15] [.ah 19 (.t 3),.au 20 (.t 1) 3,.load 21 none (.t 20),.ah 22 (.t 4),.bG 23 2 (.t 21) (.t 22),.au 24 (.t 23) 0,.load 25 none (.t 24),.au 26 (.t 1) 3,.load 27 none (.t 26),.ah 28 (.t 4),.bG 29 2 (.t 27) (.t 28),.au 30 (.t 29) 1,.load 31 none (.t 30),.eP 32 1 [(.t 25),(.t 31)],.app 33 1 (.t 19) (.t 32),.ak 3 (.t 33)])) (.ops [.ah 17 (.t 4),.bin 18 .add (.t 17) (.c (.int .i64 1)),.ak 4 (.t 18)])))
def GZ:aj :=
(.clean [1,2,3,4,11,33] [1,2,3] (.block 0 (.loop [1,2,3,4,11,33] GY)))
def Xd:dL:=⟨1,38,[.cell 2 (some 8)],(.seq (.ops [.box 1 (.t 0),.alloc 2 [(.int .i64 0),(.int .i64 0),(.int .i64 0),(.int .i64 0),(.int .i64 0),(.int .i64 0),(.list 0 []),(.list 0 [])]]) (.seq (.ops [.au 5 (.t 1) 0,.au 6 (.t 5) 0,.load 7 none (.t 6),.au 8 (.t 1) 0,.au 9 (.t 8) 1,.load 10 none (.t 9),.eP 11 1 [(.t 7),(.t 10)],.ak 3 (.t 11)]) (.seq (.seq (.ops [.ak 4 (.c (.int .i64 0))])
   GZ) (.seq (.ops [.au 34 (.t 1) 4,.load 35 none (.t 34),.ah 36 (.t 3),.build 37 [(.int .i64 0),(.int .i64 0),(.int .i64 0),(.int .i64 0),(.int .i64 0),(.int .i64 0),(.list 0 []),(.list 1 [])] [(0,1,(.c (.int .i64 13))),(3,1,(.t 35)),(6,1,(.t 36))],.store none 8 (.t 2) (.t 37)]) .ret))))⟩
def JM:dL:=⟨2,100,[.cell 4 (some 8),.tmp 5,.tmp 6],(.seq (.ops [.box 2 (.t 0),.box 3 (.t 1),.alloc 4 [(.int .i64 0),(.int .i64 0),(.list 0 []),(.list 0 []),(.int .i64 0),(.list 0 []),(.int .i64 0),(.bool false)],.ak 5 (.nil 8),.ak 6 (.c (.int .i64 0))]) (.seq (.seq (.ops [.load 11 (some 8) (.t 2),.call 12 98 [(.t 11)],.ak 7 (.t 12)]) (.seq (.ops [.ah 13 (.t 7),.bin 14 .neq (.t 13) (.c (.int .i64 0))]) (.cond (.t 14) (.seq (.ops [.build 15 [(.int .i64 0),(.int .i64 0),(.list 0 []),(.list 0 []),(.int .i64 0),(.list 0 []),(.int .i64 0),(.bool false)] [],.ah 16 (.t 7),.store none 8 (.t 4) (.t 15),.ak 5 (.nil 8),.ak 6 (.t 16)]) .ret) .skip))) (.seq (.ops [.au 17 (.t 2) 0,.load 18 (some 3) (.t 17),.call 19 96 [(.t 18)],.au 20 (.t 2) 0,.store none 3 (.t 20) (.t 19)]) (.seq (.ops [.load 21 (some 8) (.t 2),.build 22 [(.int .i64 0),(.int .i64 0),(.list 0 []),(.list 0 []),(.int .i64 0),(.list 0 []),(.int .i64 0),(.bool false)] [(0,8,(.t 21))],.box 23 (.t 22),.ak 8 (.t 23)]) (.seq (.ops [.ah 24 (.t 8),.lin 25 97 (.t 24) [],.alloc 9 [(.int .i64 0),(.int .i64 0),(.int .i64 0),(.int .i64 0),(.int .i64 0),(.int .i64 0),(.list 0 []),(.list 0 [])],.store none 8 (.t 9) (.t 25)]) (.seq (.block 0 (.seq (.ops [.ah 27 (.t 8),.au 28 (.t 27) 0,.au 29 (.t 28) 0,.au 30 (.t 29) 7,.load 31 none (.t 30),.ak 26 (.t 31)]) (.cond (.t 26) (.seq (.ops [.build 32 [(.int .i64 0),(.int .i64 0),(.list 0 []),(.list 0 []),(.int .i64 0),(.list 0 []),(.int .i64 0),(.bool false)] [],.store none 8 (.t 4) (.t 32),.ak 5 (.nil 8),.ak 6 (.c (.int .i64 12))]) .ret) (.seq (.ops [.au 34 (.t 3) 0,.load 35 none (.t 34),.bin 36 .neq (.t 35) (.c (.int .i64 14)),.ak 33 (.t 36)]) (.cond (.t 33) (.seq (.ops [.build 37 [(.int .i64 0),(.int .i64 0),(.list 0 []),(.list 0 []),(.int .i64 0),(.list 0 []),(.int .i64 0),(.bool false)] [],.store none 8 (.t 4) (.t 37),.ak 5 (.nil 8),.ak 6 (.c (.int .i64 1))]) .ret) (.seq (.ops [.au 39 (.t 3) 3,.load 40 none (.t 39),.au 41 (.t 9) 3,.load 42 none (.t 41),.bin 43 .neq (.t 40) (.t 42),.ah 44 (.t 43),.grd 44 false (.au 45 (.t 3) 6),.grd 44 false (.load 46 none (.t 45)),.grd 44 false (.au 47 (.t 9) 6),.grd 44 false (.load 48 none (.t 47)),.grd 44 false (.call 49 99 [(.t 46),(.t 48)]),.grd 44 false (.un 50 .not (.t 49)),.pick 51 (.t 44) (.c (.bool true)) (.t 50),.ak 38 (.t 51)]) (.cond (.t 38) (.seq (.ops [.build 52 [(.int .i64 0),(.int .i64 0),(.list 0 []),(.list 0 []),(.int .i64 0),(.list 0 []),(.int .i64 0),(.bool false)] [],.store none 8 (.t 4) (.t 52),.ak 5 (.nil 8),.ak 6 (.c (.int .i64 22))]) .ret) (.seq (.qp [] [([0,1,2,3],4),([5,6,7],8)] none [9,10,11] [.au 54 (.t 3) 7,.load 55 none (.t 54),.len 56 (.t 55),.ah 57 (.t 8),.au 58 (.t 57) 0,.au 59 (.t 58) 0,.au 60 (.t 59) 3,.load 61 none (.t 60),.call 62 100 [(.t 61)],.bin 63 .mul (.c (.int .i64 8)) (.t 62),.bin 64 .neq (.t 56) (.t 63),.ak 53 (.t 64)]) (.cond (.t 53) (.seq (.ops [.build 65 [(.int .i64 0),(.int .i64 0),(.list 0 []),(.list 0 []),(.int .i64 0),(.list 0 []),(.int .i64 0),(.bool false)] [],.store none 8 (.t 4) (.t 65),.ak 5 (.nil 8),.ak 6 (.c (.int .i64 3))]) .ret) .skip))))))))) (.seq (.ops [.ah 66 (.t 8),.au 67 (.t 3) 7,.load 68 none (.t 67),.lin 69 101 (.t 66) [(.t 68)],.ak 10 (.t 69)]) (.seq (.block 1 (.seq (.ops [.ah 81 (.t 8),.au 82 (.t 81) 0,.au 83 (.t 82) 0,.au 84 (.t 83) 4,.load 85 none (.t 84),.bin 86 .eql (.t 85) (.c (.int .i64 0)),.ak 80 (.t 86)]) (.cond (.t 80) (.ops [.ah 87 (.t 8),.UD 88 (.t 10),.lin 89 102 (.t 87) [(.t 88)]]) (.seq (.ops [.ah 91 (.t 10),.len 92 (.t 91),.bin 93 .eql (.t 92) (.c (.int .i64 0)),.ak 90 (.t 93)]) (.cond (.t 90) (.ops [.ah 94 (.t 8),.lin 95 103 (.t 94) []]) (.seq (.ops [.ah 70 (.t 8),.UD 71 (.t 10),.lin 72 104 (.t 70) [(.t 71)]]) (.seq (.drs [] [4,5,6,79] [.ah 73 (.t 8),.au 74 (.t 73) 0,.au 75 (.t 74) 0,.load 76 (some 8) (.t 75),.ah 77 (.t 8),.call 78 97 [(.t 77)],.eP 79 8 [(.t 78)],.store none 8 (.t 4) (.t 76),.ak 5 (.t 79),.ak 6 (.c (.int .i64 0))]
         [⟨[([0,4],1),([2,3],5)],(some ([],[],7,[([],6)])),[8,9],[0,4,1,2,3,5,7,6,8,9],false⟩,⟨[([0,4],5),([],1)],(some ([2,3],[],7,[([],6)])),[8,9],[0,4,5,1,2,3,7,6,8,9],false⟩,⟨[([0,4],1),([2,3],5),([],6)],(some ([],[],7,[])),[8,9],[0,4,1,2,3,5,6,7,8,9],false⟩,⟨[([0,4],5),([],1),([2,3],6)],(some ([],[],7,[])),[8,9],[0,4,5,1,2,3,6,7,8,9],false⟩,⟨[([0,4],5),([],6),([],1)],(some ([2,3],[],7,[])),[8,9],[0,4,5,6,1,2,3,7,8,9],false⟩]) .ret))))))) (.seq (.ops [.ah 96 (.t 8),.au 97 (.t 96) 0,.au 98 (.t 97) 0,.load 99 (some 8) (.t 98),.store none 8 (.t 4) (.t 99),.ak 5 (.nil 8),.ak 6 (.c (.int .i64 0))]) .ret)))))))))⟩
def PY:aj:=(.ops [.ak 8 (.t 72)])
def PZ:aj:=(.block 2 (.qp [] [([0,1,2,3,4,5,6,7],8)] (some ([],[],9,[([],10)])) [] [.load 73 none (.t 7),.ah 74 (.t 8),.bG 75 1 (.t 74) (.c (.int .i64 0)),.load 76 none (.t 75),.ah 77 (.t 8),.bG 78 1 (.t 77) (.c (.int .i64 1)),.load 79 none (.t 78),.build 80 [(.int .i64 0),(.int .i64 0)] [(0,1,(.t 76)),(1,1,(.t 79))],.eP 81 2 [(.t 80)],.app 82 2 (.t 73) (.t 81),.store none 1 (.t 7) (.t 82)]))
def P5:aj:=(.ops [.ak 11 (.t 107)])
def P6:aj:=(.block 4 (.qp [] [([0,1,2,3,4,5],6)] (some ([],[],7,[([8],9)])) [] [.au 108 (.t 10) 7,.load 109 none (.t 108),.load 110 none (.t 9),.ah 111 (.t 11),.bG 112 1 (.t 110) (.t 111),.load 113 none (.t 112),.call 114 109 [(.t 113)],.app 115 1 (.t 109) (.t 114),.au 116 (.t 10) 7,.store none 1 (.t 116) (.t 115)]))
def Xe:dL:=⟨2,118,[.cell 4 (some 8),.tmp 5],(.seq (.ops [.box 2 (.t 0),.box 3 (.t 1),.alloc 4 [(.int .i64 0),(.int .i64 0),(.int .i64 0),(.int .i64 0),(.int .i64 0),(.int .i64 0),(.list 0 []),(.list 0 [])],.ak 5 (.c (.int .i64 0))]) (.seq (.ops [.load 12 (some 3) (.t 2),.call 13 95 [(.t 12)],.ak 6 (.t 13)]) (.seq (.block 0 (.seq (.ops [.ah 15 (.t 6),.bin 16 .neq (.t 15) (.c (.int .i64 0)),.ak 14 (.t 16)]) (.cond (.t 14) (.seq (.ops [.build 17 [(.int .i64 0),(.int .i64 0),(.int .i64 0),(.int .i64 0),(.int .i64 0),(.int .i64 0),(.list 0 []),(.list 0 [])] [],.ah 18 (.t 6),.store none 8 (.t 4) (.t 17),.ak 5 (.t 18)]) .ret) (.seq (.ops [.au 20 (.t 3) 0,.load 21 none (.t 20),.bin 22 .neq (.t 21) (.c (.int .i64 13)),.ak 19 (.t 22)]) (.cond (.t 19) (.seq (.ops [.build 23 [(.int .i64 0),(.int .i64 0),(.int .i64 0),(.int .i64 0),(.int .i64 0),(.int .i64 0),(.list 0 []),(.list 0 [])] [],.store none 8 (.t 4) (.t 23),.ak 5 (.c (.int .i64 1))]) .ret) (.seq (.ops [.au 25 (.t 3) 6,.load 26 none (.t 25),.len 27 (.t 26),.bin 28 .lss (.t 27) (.c (.int .i64 2)),.ah 29 (.t 28),.grd 29 false (.au 30 (.t 3) 6),.grd 29 false (.load 31 none (.t 30)),.grd 29 false (.len 32 (.t 31)),.grd 29 false (.bin 33 .rem (.t 32) (.c (.int .i64 2))),.grd 29 false (.bin 34 .eql (.t 33) (.c (.int .i64 1))),.pick 35 (.t 29) (.c (.bool true)) (.t 34),.ak 24 (.t 35)]) (.cond (.t 24) (.seq (.ops [.build 36 [(.int .i64 0),(.int .i64 0),(.int .i64 0),(.int .i64 0),(.int .i64 0),(.int .i64 0),(.list 0 []),(.list 0 [])] [],.store none 8 (.t 4) (.t 36),.ak 5 (.c (.int .i64 3))]) .ret) (.seq (.qp [] [] none [0,1,2,3,4,5,6,7,8,9,10,11,12,13,14,15,16] [.au 38 (.t 3) 6,.load 39 none (.t 38),.bG 40 1 (.t 39) (.c (.int .i64 0)),.load 41 none (.t 40),.au 42 (.t 2) 0,.load 43 none (.t 42),.bin 44 .neq (.t 41) (.t 43),.ah 45 (.t 44),.grd 45 false (.au 46 (.t 3) 6),.grd 45 false (.load 47 none (.t 46)),.grd 45 false (.bG 48 1 (.t 47) (.c (.int .i64 1))),.grd 45 false (.load 49 none (.t 48)),.grd 45 false (.au 50 (.t 2) 1),.grd 45 false (.load 51 none (.t 50)),.grd 45 false (.bin 52 .neq (.t 49) (.t 51)),.pick 53 (.t 45) (.c (.bool true)) (.t 52),.ak 37 (.t 53)]) (.cond (.t 37) (.seq (.ops [.build 54 [(.int .i64 0),(.int .i64 0),(.int .i64 0),(.int .i64 0),(.int .i64 0),(.int .i64 0),(.list 0 []),(.list 0 [])] [],.store none 8 (.t 4) (.t 54),.ak 5 (.c (.int .i64 22))]) .ret) (.seq (.ops [.au 56 (.t 3) 3,.load 57 none (.t 56),.bin 58 .lss (.t 57) (.c (.int .i64 0)),.ah 59 (.t 58),.grd 59 false (.au 60 (.t 3) 3),.grd 59 false (.load 61 none (.t 60)),.grd 59 false (.au 62 (.t 2) 2),.grd 59 false (.load 63 none (.t 62)),.grd 59 false (.len 64 (.t 63)),.grd 59 false (.bin 65 .geq (.t 61) (.t 64)),.pick 66 (.t 59) (.c (.bool true)) (.t 65),.ak 55 (.t 66)]) (.cond (.t 55) (.seq (.ops [.build 67 [(.int .i64 0),(.int .i64 0),(.int .i64 0),(.int .i64 0),(.int .i64 0),(.int .i64 0),(.list 0 []),(.list 0 [])] [],.store none 8 (.t 4) (.t 67),.ak 5 (.c (.int .i64 2))]) .ret) .skip))))))))))) (.seq (.ops [.alloc 7 [(.list 2 [])]]) (.seq (.seq (.ops [.au 68 (.t 3) 6,.load 69 none (.t 68),.FC 70 1 (.t 69) (some (.c (.int .i64 2))) none,.call 71 105 [(.t 70),(.c (.int .i64 2))]]) (.block 1 (.rng (.t 71) [72] PY PZ))) (.seq (.ops [.au 83 (.t 2) 2,.load 84 none (.t 83),.au 85 (.t 3) 3,.load 86 none (.t 85),.bG 87 1 (.t 84) (.t 86),.load 88 none (.t 87),.alloc 9 [(.list 1 [])],.store none 1 (.t 9) (.t 88)]) (.seq (.seq (.ops [.load 89 none (.t 7),.load 90 none (.t 9),.len 91 (.t 90),.call 92 106 [(.t 89),(.t 91)],.bin 93 .neq (.t 92) (.c (.int .i64 0))]) (.cond (.t 93) (.seq (.ops [.build 94 [(.int .i64 0),(.int .i64 0),(.int .i64 0),(.int .i64 0),(.int .i64 0),(.int .i64 0),(.list 0 []),(.list 0 [])] [],.store none 8 (.t 4) (.t 94),.ak 5 (.c (.int .i64 3))]) .ret) .skip)) (.seq (.drs [] [4,7,9,10,107] [.au 95 (.t 3) 2,.load 96 none (.t 95),.au 97 (.t 3) 1,.load 98 none (.t 97),.au 99 (.t 3) 3,.load 100 none (.t 99),.au 101 (.t 3) 6,.load 102 none (.t 101),.call 103 107 [(.t 102)],.build 104 [(.int .i64 0),(.int .i64 0),(.int .i64 0),(.int .i64 0),(.int .i64 0),(.int .i64 0),(.list 0 []),(.kE 1)] [(0,1,(.c (.int .i64 14))),(1,1,(.t 96)),(2,1,(.t 98)),(3,1,(.t 100)),(6,1,(.t 103))],.alloc 10 [(.int .i64 0),(.int .i64 0),(.int .i64 0),(.int .i64 0),(.int .i64 0),(.int .i64 0),(.list 0 []),(.list 0 [])],.UE 8 (.t 10) (.t 104)]
     [⟨[([0,1,2,3,4,5,6,7],8),([9],10)],(some ([],[],11,[])),[],[0,1,2,3,4,5,6,7,8,9,10,11],false⟩,⟨[([0,1,2,3,4,5,6,7],10),([],8)],(some ([9],[],11,[])),[],[0,1,2,3,4,5,6,7,10,8,9,11],false⟩]) (.seq (.seq (.ops [.load 105 none (.t 7),.call 106 108 [(.t 105)]]) (.block 3 (.rng (.t 106) [107] P5 P6))) (.seq (.ops [.load 117 (some 8) (.t 10),.store none 8 (.t 4) (.t 117),.ak 5 (.c (.int .i64 0))]) .ret))))))))))⟩
def G5:aj:=(.seq (.seq (.ops [.ah 11 (.t 5),.ah 12 (.t 0),.len 13 (.t 12),.bin 14 .lss (.t 11) (.t 13)]) (.cond (.t 14) .skip (.exit 0))) (.seq (.block 1 (.seq (.qp [] [] none [0,1,2,3,4,5,6,7,8] [.ah 17 (.t 0),.ah 18 (.t 5),.bG 19 2 (.t 17) (.t 18),.load 20 (some 2) (.t 19),.ah 21 (.t 1),.ah 22 (.t 5),.bG 23 2 (.t 21) (.t 22),.load 24 (some 2) (.t 23),.QE 25 true 2 (.t 20) (.t 24)]) (.cond (.t 25) (.seq (.ops [.ak 4 (.c (.bool false))]) .ret) .skip))) (.ops [.ah 15 (.t 5),.bin 16 .add (.t 15) (.c (.int .i64 1)),.ak 5 (.t 16)])))
def G6:aj :=
(.clean [0,1,5] [4] (.block 0 (.loop [0,1,5] G5)))
def Xf:dL:=⟨2,26,[.tmp 4],(.seq (.ops [.ak 4 (.c (.bool false))]) (.seq (.seq (.ops [.ah 6 (.t 0),.len 7 (.t 6),.ah 8 (.t 1),.len 9 (.t 8),.bin 10 .neq (.t 7) (.t 9)]) (.cond (.t 10) (.seq (.ops [.ak 4 (.c (.bool false))]) .ret) .skip)) (.seq (.seq (.ops [.ak 5 (.c (.int .i64 0))])
   G6) (.seq (.ops [.ak 4 (.c (.bool true))]) .ret))))⟩
def abS:aj:=(.seq (.ops [.ak 9 (.t 24)]) (.ops [.alloc 10 [(.int .i64 0),(.int .i64 0)],.store none 2 (.t 10) (.t 25)]))
def abT:aj:=(.block 1 (.qp [] [([0,1,2,3,4,5,6,7,8,9,10,11,12,13,14,15],16),([17],18)] (some ([],[],19,[([],20)])) [] [.load 26 none (.t 8),.ah 27 (.t 9),.au 28 (.t 10) 0,.load 29 none (.t 28),.load 30 none (.t 2),.ah 31 (.t 9),.bG 32 1 (.t 30) (.t 31),.load 33 none (.t 32),.au 34 (.t 10) 0,.load 35 none (.t 34),.au 36 (.t 10) 0,.load 37 none (.t 36),.au 38 (.t 10) 1,.load 39 none (.t 38),.bin 40 .add (.t 37) (.t 39),.FC 41 8 (.t 33) (some (.t 35)) (some (.t 40)),.call 42 133 [(.t 41)],.build 43 [(.int .i64 0),(.int .i64 0),(.list 0 [])] [(0,1,(.t 27)),(1,1,(.t 29)),(2,1,(.t 42))],.eP 44 3 [(.t 43)],.app 45 3 (.t 26) (.t 44),.store none 1 (.t 8) (.t 45)]))
def aed:dL:=⟨2,47,[.tmp 4,.tmp 5],(.seq (.ops [.box 2 (.t 0),.ak 4 (.nil 3),.ak 5 (.c (.int .i64 0))]) (.seq (.seq (.ops [.load 11 none (.t 2),.call 12 76 [(.t 11)],.ak 6 (.t 12)]) (.seq (.ops [.ah 13 (.t 6),.bin 14 .neq (.t 13) (.c (.int .i64 0))]) (.cond (.t 14) (.seq (.ops [.ah 15 (.t 6),.ak 4 (.nil 3),.ak 5 (.t 15)]) .ret) .skip))) (.seq (.seq (.ops [.load 16 none (.t 2),.ah 17 (.t 1),.call 18 131 [(.t 16),(.t 17)],.ak 7 (.t 18)]) (.seq (.ops [.ah 19 (.t 7),.bin 20 .neq (.t 19) (.c (.int .i64 0))]) (.cond (.t 20) (.seq (.ops [.ah 21 (.t 7),.ak 4 (.nil 3),.ak 5 (.t 21)]) .ret) .skip))) (.seq (.ops [.alloc 8 [(.list 3 [])]]) (.seq (.seq (.ops [.ah 22 (.t 1),.call 23 132 [(.t 22)]]) (.block 0 (.rng (.t 23) [24,25] abS abT))) (.seq (.ops [.load 46 none (.t 8),.ak 4 (.t 46),.ak 5 (.c (.int .i64 0))]) .ret))))))⟩
def aee:dL:=⟨1,6,[.tmp 2],(.seq (.ops [.ak 2 (.c (.int .i64 0))]) (.seq (.ops [.ah 3 (.t 0),.call 4 166 [(.t 3)],.call 5 165 [(.t 4)],.ak 2 (.t 5)]) .ret))⟩
def aef:dL:=⟨2,29,[.cell 4 (some 5),.tmp 5],(.seq (.ops [.alloc 4 [(.int .i64 0),(.int .i64 0),(.list 1 []),(.int .i64 0),(.list 1 [])],.ak 5 (.c (.int .i64 0))]) (.seq (.seq (.ops [.ah 9 (.t 0),.ah 10 (.t 1),.call 11 172 [(.t 9),(.t 10)],.un 12 .not (.t 11)]) (.cond (.t 12) (.seq (.ops [.build 13 [(.int .i64 0),(.int .i64 0),(.list 1 []),(.int .i64 0),(.list 1 [])] [],.store none 5 (.t 4) (.t 13),.ak 5 (.c (.int .i64 2))]) .ret) .skip)) (.seq (.ops [.ah 14 (.t 0),.ah 15 (.t 1),.call 16 173 [(.t 14),(.t 15)],.ak 6 (.t 16)]) (.seq (.ops [.ah 18 (.t 6),.call 19 169 [(.t 18)],.ah 17 (.t 19),.ext 20 (.t 17) 0,.ext 21 (.t 17) 1,.alloc 7 [(.int .i64 0),(.list 1 [])],.store none 2 (.t 7) (.t 20),.ak 8 (.t 21)]) (.seq (.qp [] [([0,1,2,4,6],3)] (some ([5],[],7,[])) [8] [.ah 22 (.t 0),.ah 23 (.t 1),.ah 24 (.t 6),.load 26 (some 2) (.t 7),.ah 28 (.t 8),.make 25 (.int .i64 0) (.t 24) (.t 24),.build 27 [(.int .i64 0),(.int .i64 0),(.list 1 []),(.int .i64 0),(.list 1 [])] [(0,1,(.t 22)),(1,1,(.t 23)),(2,1,(.t 25)),(3,2,(.t 26))],.store none 5 (.t 4) (.t 27),.ak 5 (.t 28)]) .ret)))))⟩
def abU:aj:=(.ops [.ak 11 (.t 25)])
def abV:aj:=(.block 1 (.ops [.load 26 none (.t 10),.ah 27 (.t 26),.grd 27 false (.au 28 (.t 2) 3),.grd 27 false (.load 29 (some 2) (.t 28)),.grd 27 false (.ah 30 (.t 11)),.grd 27 false (.call 31 177 [(.t 29),(.t 30)]),.grd 27 false (.un 32 .not (.t 31)),.pick 33 (.t 27) (.c (.bool true)) (.t 32),.store none 1 (.t 10) (.t 33)]))
def aeg:dL:=⟨2,45,[.cell 4 (some 5),.tmp 5,.tmp 6],(.seq (.ops [.box 2 (.t 0),.box 3 (.t 1),.alloc 4 [(.int .i64 0),(.int .i64 0),(.list 1 []),(.int .i64 0),(.list 1 [])],.ak 5 (.c (.bool false)),.ak 6 (.c (.int .i64 0))]) (.seq (.ops [.load 13 (some 5) (.t 2),.load 14 (some 2) (.t 3),.call 15 174 [(.t 13),(.t 14),(.c (.func 175 []))],.ah 12 (.t 15),.ext 16 (.t 12) 0,.ext 17 (.t 12) 1,.ext 18 (.t 12) 2,.alloc 7 [(.int .i64 0),(.int .i64 0),(.list 1 []),(.int .i64 0),(.list 1 [])],.alloc 8 [(.int .i64 0),(.int .i64 0)],.store none 5 (.t 7) (.t 16),.store none 2 (.t 8) (.t 17),.ak 9 (.t 18)]) (.seq (.seq (.ops [.ah 19 (.t 9),.bin 20 .neq (.t 19) (.c (.int .i64 0))]) (.cond (.t 20) (.seq (.ops [.build 21 [(.int .i64 0),(.int .i64 0),(.list 1 []),(.int .i64 0),(.list 1 [])] [],.ah 22 (.t 9),.store none 5 (.t 4) (.t 21),.ak 5 (.c (.bool false)),.ak 6 (.t 22)]) .ret) .skip)) (.seq (.ops [.alloc 10 [(.bool false)],.store none 1 (.t 10) (.c (.bool false))]) (.seq (.seq (.ops [.load 23 (some 2) (.t 8),.call 24 176 [(.t 23)]]) (.block 0 (.rng (.t 24) [25] abU abV))) (.seq (.ops [.au 35 (.t 2) 3,.load 36 (some 2) (.t 35),.load 37 (some 2) (.t 8),.call 38 170 [(.t 36),(.t 37)],.ah 34 (.t 38),.ext 39 (.t 34) 0,.ext 40 (.t 34) 1,.au 41 (.t 7) 3,.store none 2 (.t 41) (.t 39),.ak 9 (.t 40)]) (.seq (.qp [(.t 10)] [] (some ([0],[1,2],3,[])) [4,5] [.load 42 (some 5) (.t 7),.Ie 43 none (.t 10),.ah 44 (.t 9),.store none 5 (.t 4) (.t 42),.ak 5 (.t 43),.ak 6 (.t 44)]) .ret)))))))⟩
def abW:aj:=(.seq (.ops [.bin 92 .lss (.t 91) (.t 90)]) (.seq (.cond (.t 92) .skip (.exit 1)) (.seq (.block 2 (.seq (.ops [.bG 93 2 (.t 89) (.t 91),.load 94 (some 2) (.t 93),.alloc 16 [(.int .i64 0),(.int .i64 0)],.store none 2 (.t 16) (.t 94)]) (.seq (.ops [.au 95 (.t 16) 0,.load 96 none (.t 95),.ah 97 (.t 1),.bin 98 .mul (.t 96) (.t 97),.ak 17 (.t 98)]) (.ops [.ah 99 (.t 14),.ah 100 (.t 17),.au 101 (.t 16) 0,.load 102 none (.t 101),.au 103 (.t 16) 1,.load 104 none (.t 103),.bin 105 .add (.t 102) (.t 104),.ah 106 (.t 1),.bin 107 .mul (.t 105) (.t 106),.ah 108 (.t 0),.mn 109 false (.t 107) (.t 108),.ah 110 (.t 17),.bin 111 .sub (.t 109) (.t 110),.build 112 [(.int .i64 0),(.int .i64 0)] [(0,1,(.t 100)),(1,1,(.t 111))],.eP 113 2 [(.t 112)],.app 114 2 (.t 99) (.t 113),.ak 14 (.t 114)])))) (.ops [.bin 115 .add (.t 91) (.c (.int .i64 1)),.ah 91 (.t 115)]))))
def abX:aj :=
(.clean [0,1,6,9,10,13,14,51,89,90,91,114] [6,7,8,9,10,14] (.block 1 (.loop [0,1,6,9,10,13,14,51,89,90,91,114] abW)))
def aeh:dL:=⟨3,120,[.cell 6 (some 5),.tmp 7,.tmp 8],(.seq (.ops [.alloc 6 [(.int .i64 0),(.int .i64 0),(.list 1 []),(.int .i64 0),(.list 1 [])],.ak 7 (.nil 2),.ak 8 (.c (.int .i64 0))]) (.seq (.ops [.ah 19 (.t 0),.ah 20 (.t 1),.call 21 87 [(.t 19),(.t 20)],.ah 18 (.t 21),.ext 22 (.t 18) 0,.ext 23 (.t 18) 1,.alloc 9 [(.int .i64 0),(.int .i64 0),(.list 1 []),(.int .i64 0),(.list 1 [])],.store none 5 (.t 9) (.t 22),.ak 10 (.t 23)]) (.seq (.seq (.ops [.ah 24 (.t 10),.bin 25 .neq (.t 24) (.c (.int .i64 0))]) (.cond (.t 25) (.seq (.ops [.build 26 [(.int .i64 0),(.int .i64 0),(.list 1 []),(.int .i64 0),(.list 1 [])] [],.ah 27 (.t 10),.store none 5 (.t 6) (.t 26),.ak 7 (.nil 2),.ak 8 (.t 27)]) .ret) .skip)) (.seq (.ops [.ah 29 (.t 2),.call 30 178 [(.t 29)],.ah 28 (.t 30),.ext 31 (.t 28) 0,.ext 32 (.t 28) 1,.ext 33 (.t 28) 2,.ak 11 (.t 31),.ak 2 (.t 32),.ak 10 (.t 33)]) (.seq (.seq (.ops [.ah 34 (.t 10),.bin 35 .neq (.t 34) (.c (.int .i64 0))]) (.cond (.t 35) (.seq (.ops [.build 36 [(.int .i64 0),(.int .i64 0),(.list 1 []),(.int .i64 0),(.list 1 [])] [],.ah 37 (.t 10),.store none 5 (.t 6) (.t 36),.ak 7 (.nil 2),.ak 8 (.t 37)]) .ret) .skip)) (.seq (.ops [.ah 39 (.t 2),.call 40 178 [(.t 39)],.ah 38 (.t 40),.ext 41 (.t 38) 0,.ext 42 (.t 38) 1,.ext 43 (.t 38) 2,.ak 12 (.t 41),.ak 2 (.t 42),.ak 10 (.t 43)]) (.seq (.seq (.ops [.ah 44 (.t 10),.bin 45 .neq (.t 44) (.c (.int .i64 0))]) (.cond (.t 45) (.seq (.ops [.build 46 [(.int .i64 0),(.int .i64 0),(.list 1 []),(.int .i64 0),(.list 1 [])] [],.ah 47 (.t 10),.store none 5 (.t 6) (.t 46),.ak 7 (.nil 2),.ak 8 (.t 47)]) .ret) .skip)) (.seq (.ops [.ah 49 (.t 2),.call 50 179 [(.t 49)],.ah 48 (.t 50),.ext 51 (.t 48) 0,.ext 52 (.t 48) 1,.ext 53 (.t 48) 2,.ak 13 (.t 51),.ak 2 (.t 52),.ak 10 (.t 53)]) (.seq (.block 0 (.seq (.ops [.ah 55 (.t 10),.bin 56 .neq (.t 55) (.c (.int .i64 0)),.ak 54 (.t 56)]) (.cond (.t 54) (.seq (.ops [.build 57 [(.int .i64 0),(.int .i64 0),(.list 1 []),(.int .i64 0),(.list 1 [])] [],.ah 58 (.t 10),.store none 5 (.t 6) (.t 57),.ak 7 (.nil 2),.ak 8 (.t 58)]) .ret) (.seq (.ops [.ah 60 (.t 2),.len 61 (.t 60),.bin 62 .gtr (.t 61) (.c (.int .i64 0)),.ak 59 (.t 62)]) (.cond (.t 59) (.seq (.ops [.build 63 [(.int .i64 0),(.int .i64 0),(.list 1 []),(.int .i64 0),(.list 1 [])] [],.store none 5 (.t 6) (.t 63),.ak 7 (.nil 2),.ak 8 (.c (.int .i64 3))]) .ret) (.seq (.seq (.ops [.ah 65 (.t 11),.ah 66 (.t 0),.bin 67 .neq (.t 65) (.t 66),.ak 64 (.t 67)]) (.cond (.t 64) .skip (.ops [.ah 68 (.t 12),.ah 69 (.t 1),.bin 70 .neq (.t 68) (.t 69),.ak 64 (.t 70)]))) (.cond (.t 64) (.seq (.ops [.build 71 [(.int .i64 0),(.int .i64 0),(.list 1 []),(.int .i64 0),(.list 1 [])] [],.store none 5 (.t 6) (.t 71),.ak 7 (.nil 2),.ak 8 (.c (.int .i64 22))]) .ret) (.seq (.ops [.ah 73 (.t 13),.au 74 (.t 9) 2,.load 75 none (.t 74),.len 76 (.t 75),.call 77 106 [(.t 73),(.t 76)],.bin 78 .neq (.t 77) (.c (.int .i64 0)),.ak 72 (.t 78)]) (.cond (.t 72) (.seq (.ops [.build 79 [(.int .i64 0),(.int .i64 0),(.list 1 []),(.int .i64 0),(.list 1 [])] [],.store none 5 (.t 6) (.t 79),.ak 7 (.nil 2),.ak 8 (.c (.int .i64 3))]) .ret) .skip))))))))) (.seq (.ops [.au 81 (.t 9) 2,.load 82 none (.t 81),.len 83 (.t 82),.ah 84 (.t 13),.call 85 116 [(.t 83),(.t 84)],.ah 80 (.t 85),.ext 86 (.t 80) 0,.ext 87 (.t 80) 1,.au 88 (.t 9) 3,.store none 2 (.t 88) (.t 86),.ak 10 (.t 87)]) (.seq (.ops [.ak 14 (.nil 2)]) (.seq (.seq (.ops [.ah 89 (.t 13),.len 90 (.t 89),.ah 91 (.c (.int .i64 0))])
       abX) (.seq (.qp [] [([0,1,3],2)] (some ([],[],4,[])) [5,6] [.load 116 (some 5) (.t 9),.ah 117 (.t 14),.ah 119 (.t 10),.call 118 180 [(.t 117),(.nil 2)],.store none 5 (.t 6) (.t 116),.ak 7 (.t 118),.ak 8 (.t 119)]) .ret)))))))))))))⟩
def aei:dL:=⟨1,18,[.tmp 2],(.seq (.ops [.box 1 (.t 0),.ak 2 (.nil 1)]) (.seq (.seq (.ops [.load 4 (some 5) (.t 1),.call 5 181 [(.t 4)],.bin 6 .neq (.t 5) (.c (.int .i64 0))]) (.cond (.t 6) (.seq (.ops [.ak 2 (.nil 1)]) .ret) .skip)) (.seq (.qp [] [([0,1,3,4],2),([],5)] none [6] [.au 7 (.t 1) 0,.load 8 none (.t 7),.au 10 (.t 1) 1,.load 11 none (.t 10),.call 9 182 [(.nil 1),(.t 8)],.call 12 182 [(.t 9),(.t 11)],.ak 3 (.t 12)]) (.seq (.ops [.ah 13 (.t 3),.au 14 (.t 1) 3,.load 15 (some 2) (.t 14),.call 16 154 [(.t 15)],.call 17 183 [(.t 13),(.t 16)],.ak 2 (.t 17)]) .ret))))⟩
def Xg:dL:=⟨2,19,[.tmp 4],(.seq (.ops [.ak 4 (.c (.int .i64 0))]) (.seq (.block 0 (.seq (.ops [.ah 6 (.t 0),.bin 7 .lss (.t 6) (.c (.int .i64 1)),.ah 8 (.t 7),.grd 8 false (.ah 9 (.t 0)),.grd 8 false (.bin 10 .gtr (.t 9) (.c (.int .i64 4096))),.pick 11 (.t 8) (.c (.bool true)) (.t 10),.ak 5 (.t 11)]) (.cond (.t 5) (.seq (.ops [.ak 4 (.c (.int .i64 2))]) .ret) (.seq (.ops [.ah 13 (.t 1),.bin 14 .lss (.t 13) (.c (.int .i64 1)),.ah 15 (.t 14),.grd 15 false (.ah 16 (.t 1)),.grd 15 false (.bin 17 .gtr (.t 16) (.c (.int .i64 4096))),.pick 18 (.t 15) (.c (.bool true)) (.t 17),.ak 12 (.t 18)]) (.cond (.t 12) (.seq (.ops [.ak 4 (.c (.int .i64 1))]) .ret) .skip))))) (.seq (.ops [.ak 4 (.c (.int .i64 0))]) .ret)))⟩
def Xh:dL:=⟨2,9,[.tmp 4],(.seq (.ops [.box 2 (.t 0),.box 3 (.t 1),.ak 4 (.c .nY)]) (.seq (.seq (.ops [.load 5 none (.t 3),.bin 6 .lss (.t 5) (.c (.int .i64 1))]) (.cond (.t 6) (.drs [] [] []
   []) .skip)) (.seq (.ops [.Ef 8 184 [(.t 2),(.t 3)],.ak 4 (.t 8)]) .ret)))⟩
def Xi:dL:=⟨1,5,[.tmp 2],(.seq (.ops [.box 1 (.t 0),.ak 2 (.c (.int .u64 0))]) (.seq (.ops [.Ef 3 186 [(.t 1)],.call 4 185 [(.t 3)],.ak 2 (.t 4)]) .ret))⟩
def xk:aj:=(.block 1 (.seq (.ops [.au 11 (.t 7) 2,.load 12 none (.t 11),.ah 13 (.t 2),.eP 14 1 [(.t 13)],.app 15 1 (.t 12) (.t 14),.au 16 (.t 7) 2,.store none 1 (.t 16) (.t 15)]) (.seq (.seq (.ops [.ah 17 (.t 2),.len 18 (.t 17),.bin 19 .eql (.t 18) (.c (.int .i64 1))]) (.cond (.t 19) (.exit 0) .skip)) (.ops [.ah 20 (.t 2),.call 21 187 [(.t 20),(.c (.func 188 []))],.ak 2 (.t 21)]))))
def G7:aj :=
(.clean [2,6,7,21] [6,7] (.block 0 (.loop [2,6,7,21] xk)))
def Xj:dL:=⟨3,23,[.cell 6 (some 3)],(.seq (.ops [.alloc 6 [(.int .i64 0),(.int .i64 0),(.list 0 [])]]) (.scp (.seq (.ops [.ah 8 (.t 0),.ah 9 (.t 1),.build 10 [(.int .i64 0),(.int .i64 0),(.kE 1)] [(0,1,(.t 8)),(1,1,(.t 9))],.alloc 7 [(.int .i64 0),(.int .i64 0),(.list 0 [])],.UE 3 (.t 7) (.t 10)]) (.seq .skip (.seq
   G7 (.seq (.ops [.load 22 (some 3) (.t 7),.store none 3 (.t 6) (.t 22)]) .ret))))))⟩
def zO:aj:=(.seq (.ops [.bin 25 .lss (.t 24) (.t 23)]) (.seq (.cond (.t 25) .skip (.exit 0)) (.seq (.block 1 (.seq (.ops [.ah 26 (.t 24),.bG 27 1 (.t 22) (.t 24),.load 28 none (.t 27),.ak 5 (.t 26),.ak 6 (.t 28)]) (.seq (.seq (.ops [.ah 29 (.t 6),.len 30 (.t 29),.ah 31 (.t 4),.bin 32 .neq (.t 30) (.t 31),.ah 33 (.t 32),.grd 33 false (.ah 34 (.t 4)),.grd 33 false (.bin 35 .eql (.t 34) (.c (.int .i64 1))),.grd 33 false (.ah 36 (.t 35)),.grd 36 true (.ah 37 (.t 5)),.grd 36 true (.bin 38 .add (.t 37) (.c (.int .i64 1))),.grd 36 true (.au 39 (.t 1) 2),.grd 36 true (.load 40 none (.t 39)),.grd 36 true (.len 41 (.t 40)),.grd 36 true (.bin 42 .lss (.t 38) (.t 41)),.grd 33 false (.pick 43 (.t 36) (.t 42) (.c (.bool false))),.pick 44 (.t 33) (.c (.bool true)) (.t 43)]) (.cond (.t 44) (.seq (.ops [.ak 2 (.c (.int .i64 3))]) .ret) .skip)) (.seq (.seq (.ops [.ah 45 (.t 4),.bin 46 .eql (.t 45) (.c (.int .i64 1))]) (.cond (.t 46) (.ops [.ak 4 (.c (.int .i64 0))]) .skip)) (.ops [.ah 47 (.t 4),.bin 48 .add (.t 47) (.c (.int .i64 1)),.bin 49 .quo (.t 48) (.c (.int .i64 2)),.ak 4 (.t 49)]))))) (.ops [.bin 50 .add (.t 24) (.c (.int .i64 1)),.ah 24 (.t 50)]))))
def G8:aj :=
(.clean [1,4,22,23,24] [1,2,4] (.block 0 (.loop [1,4,22,23,24] zO)))
def Xk:dL:=⟨1,68,[.tmp 2],(.seq (.ops [.box 1 (.t 0),.ak 2 (.c (.int .i64 0))]) (.seq (.seq (.ops [.au 8 (.t 1) 0,.load 9 none (.t 8),.au 10 (.t 1) 1,.load 11 none (.t 10),.call 12 91 [(.t 9),(.t 11)],.ak 3 (.t 12)]) (.seq (.ops [.ah 13 (.t 3),.bin 14 .neq (.t 13) (.c (.int .i64 0))]) (.cond (.t 14) (.seq (.ops [.ah 15 (.t 3),.ak 2 (.t 15)]) .ret) .skip))) (.seq (.ops [.au 16 (.t 1) 0,.load 17 none (.t 16),.au 18 (.t 1) 1,.load 19 none (.t 18),.call 20 189 [(.t 17),(.t 19)],.ak 4 (.t 20)]) (.seq (.seq (.ops [.au 21 (.t 1) 2,.load 22 none (.t 21),.len 23 (.t 22),.ah 24 (.c (.int .i64 0))])
   G8) (.seq (.seq (.ops [.ah 51 (.t 4),.bin 52 .neq (.t 51) (.c (.int .i64 0))]) (.cond (.t 52) (.seq (.ops [.ak 2 (.c (.int .i64 3))]) .ret) .skip)) (.seq (.drs [] [1,7] [.au 53 (.t 1) 0,.load 54 none (.t 53),.au 55 (.t 1) 1,.load 56 none (.t 55),.au 57 (.t 1) 2,.load 58 none (.t 57),.bG 59 1 (.t 58) (.c (.int .i64 0)),.load 60 none (.t 59),.call 61 94 [(.t 54),(.t 56),(.t 60)],.alloc 7 [(.int .i64 0),(.int .i64 0),(.list 0 [])],.store none 3 (.t 7) (.t 61)]
    [⟨[([0,1,2,3,4,5,6,7],8),([],9)],(some ([],[],10,[])),[],[0,1,2,3,4,5,6,7,8,9,10],false⟩,⟨[([0,1,2,3,4,5,6,7],9),([],8)],(some ([],[],10,[])),[],[0,1,2,3,4,5,6,7,9,8,10],false⟩]) (.seq (.seq (.ops [.au 62 (.t 7) 2,.load 63 none (.t 62),.au 64 (.t 1) 2,.load 65 none (.t 64),.call 66 190 [(.t 63),(.t 65),(.c (.func 191 []))],.un 67 .not (.t 66)]) (.cond (.t 67) (.seq (.ops [.ak 2 (.c (.int .i64 22))]) .ret) .skip)) (.seq (.ops [.ak 2 (.c (.int .i64 0))]) .ret))))))))⟩
def G9:aj:=(.seq (.ops [.bin 14 .lss (.t 13) (.t 12)]) (.seq (.cond (.t 14) .skip (.exit 0)) (.seq (.block 1 (.seq (.ops [.bG 15 1 (.t 11) (.t 13),.load 16 none (.t 15),.ak 5 (.t 16)]) (.ops [.ah 17 (.t 3),.ah 18 (.t 5),.call 19 120 [(.t 18)],.eP 20 1 [(.t 19)],.app 21 1 (.t 17) (.t 20),.ak 3 (.t 21)]))) (.ops [.bin 22 .add (.t 13) (.c (.int .i64 1)),.ah 13 (.t 22)]))))
def He:aj :=
(.clean [1,2,3,9,11,12,13,21] [1,2,3] (.block 0 (.loop [1,2,3,9,11,12,13,21] G9)))
def Xl:dL:=⟨1,26,[.cell 2 (some 3)],(.seq (.ops [.box 1 (.t 0),.alloc 2 [(.int .i64 0),(.int .i64 0),(.list 0 [])]]) (.seq (.ops [.au 6 (.t 1) 2,.load 7 none (.t 6),.len 8 (.t 7),.make 9 (.list 0 []) (.c (.int .i64 0)) (.t 8),.ak 3 (.t 9)]) (.seq (.seq (.ops [.au 10 (.t 1) 2,.load 11 none (.t 10),.len 12 (.t 11),.ah 13 (.c (.int .i64 0))])
   He) (.seq (.ops [.ah 23 (.t 3),.au 24 (.t 1) 2,.store none 1 (.t 24) (.t 23)]) (.seq (.ops [.load 25 (some 3) (.t 1),.store none 3 (.t 2) (.t 25)]) .ret)))))⟩
def xq:aj:=(.seq (.ops [.bin 26 .lss (.t 25) (.t 24)]) (.seq (.cond (.t 26) .skip (.exit 0)) (.seq (.block 1 (.seq (.ops [.bG 27 2 (.t 23) (.t 25),.load 28 (some 2) (.t 27),.alloc 5 [(.int .i64 0),(.int .i64 0)],.store none 2 (.t 5) (.t 28)]) (.ops [.ah 29 (.t 3),.au 30 (.t 5) 0,.load 31 none (.t 30),.au 32 (.t 5) 1,.load 33 none (.t 32),.eP 34 1 [(.t 31),(.t 33)],.app 35 1 (.t 29) (.t 34),.ak 3 (.t 35)]))) (.ops [.bin 36 .add (.t 25) (.c (.int .i64 1)),.ah 25 (.t 36)]))))
def xu:aj :=
(.clean [0,2,3,18,23,24,25,35] [0,2,3] (.block 0 (.loop [0,2,3,18,23,24,25,35] xq)))
def TM:dL:=⟨1,44,[.cell 2 (some 8)],(.seq (.ops [.alloc 2 [(.int .i64 0),(.int .i64 0),(.int .i64 0),(.int .i64 0),(.int .i64 0),(.int .i64 0),(.list 0 []),(.list 0 [])]]) (.seq (.drs [] [0,2,3,18,35] [.ah 6 (.t 0),.au 7 (.t 6) 0,.au 8 (.t 7) 0,.au 9 (.t 8) 0,.au 10 (.t 9) 0,.load 11 none (.t 10),.ah 12 (.t 0),.au 13 (.t 12) 0,.au 14 (.t 13) 0,.au 15 (.t 14) 0,.au 16 (.t 15) 1,.load 17 none (.t 16),.eP 18 1 [(.t 11),(.t 17)],.ak 3 (.t 18)]
  [⟨[([0,6],1),([2,3,4,5],7),([8,9,10,11],12)],none,[13],[0,6,1,2,3,4,5,7,8,9,10,11,12,13],false⟩,⟨[([0,6],7),([8,9,10,11],1),([2,3,4,5],12)],none,[13],[0,6,7,8,9,10,11,1,2,3,4,5,12,13],false⟩]) (.seq (.seq (.ops [.ah 19 (.t 0),.au 20 (.t 19) 0,.au 21 (.t 20) 0,.au 22 (.t 21) 3,.load 23 none (.t 22),.len 24 (.t 23),.ah 25 (.c (.int .i64 0))])
   xu) (.seq (.ops [.ah 37 (.t 0),.au 38 (.t 37) 0,.au 39 (.t 38) 0,.au 40 (.t 39) 4,.load 41 none (.t 40),.ah 42 (.t 3),.build 43 [(.int .i64 0),(.int .i64 0),(.int .i64 0),(.int .i64 0),(.int .i64 0),(.int .i64 0),(.list 0 []),(.list 1 [])] [(0,1,(.c (.int .i64 13))),(3,1,(.t 41)),(6,1,(.t 42))],.store none 8 (.t 2) (.t 43)]) .ret))))⟩
def Xm:dL:=⟨1,83,[.tmp 2],(.seq (.ops [.box 1 (.t 0),.ak 2 (.c (.int .i64 0))]) (.seq (.seq (.ops [.au 5 (.t 1) 0,.load 6 (some 3) (.t 5),.call 7 95 [(.t 6)],.ak 3 (.t 7)]) (.seq (.ops [.ah 8 (.t 3),.bin 9 .neq (.t 8) (.c (.int .i64 0))]) (.cond (.t 9) (.seq (.ops [.ah 10 (.t 3),.ak 2 (.t 10)]) .ret) .skip))) (.seq (.seq (.ops [.au 11 (.t 1) 4,.load 12 none (.t 11),.bin 13 .lss (.t 12) (.c (.int .i64 0)),.ah 14 (.t 13),.grd 14 false (.au 15 (.t 1) 4),.grd 14 false (.load 16 none (.t 15)),.grd 14 false (.au 17 (.t 1) 0),.grd 14 false (.au 18 (.t 17) 2),.grd 14 false (.load 19 none (.t 18)),.grd 14 false (.len 20 (.t 19)),.grd 14 false (.bin 21 .geq (.t 16) (.t 20)),.pick 22 (.t 14) (.c (.bool true)) (.t 21),.ah 23 (.t 22),.grd 23 false (.au 24 (.t 1) 7),.grd 23 false (.load 25 none (.t 24)),.grd 23 false (.ah 26 (.t 25)),.grd 26 true (.au 27 (.t 1) 4),.grd 26 true (.load 28 none (.t 27)),.grd 26 true (.bin 29 .neq (.t 28) (.c (.int .i64 0))),.grd 23 false (.pick 30 (.t 26) (.t 29) (.c (.bool false))),.pick 31 (.t 23) (.c (.bool true)) (.t 30),.ah 32 (.t 31),.grd 32 false (.au 33 (.t 1) 6),.grd 32 false (.load 34 none (.t 33)),.grd 32 false (.bin 35 .lss (.t 34) (.c (.int .i64 0))),.pick 36 (.t 32) (.c (.bool true)) (.t 35),.ah 37 (.t 36),.grd 37 false (.au 38 (.t 1) 6),.grd 37 false (.load 39 none (.t 38)),.grd 37 false (.bin 40 .gtr (.t 39) (.c (.int .i64 8192))),.pick 41 (.t 37) (.c (.bool true)) (.t 40)]) (.cond (.t 41) (.seq (.ops [.ak 2 (.c (.int .i64 2))]) .ret) .skip)) (.seq (.ops [.ak 4 (.c (.bool false))]) (.seq (.seq (.ops [.au 42 (.t 1) 7,.load 43 none (.t 42)]) (.cond (.t 43) (.ops [.au 44 (.t 1) 3,.load 45 none (.t 44),.len 46 (.t 45),.bin 47 .eql (.t 46) (.c (.int .i64 0)),.ah 48 (.t 47),.grd 48 true (.au 49 (.t 1) 5),.grd 48 true (.load 50 none (.t 49)),.grd 48 true (.au 51 (.t 1) 0),.grd 48 true (.au 52 (.t 51) 0),.grd 48 true (.load 53 none (.t 52)),.grd 48 true (.call 54 106 [(.t 50),(.t 53)]),.grd 48 true (.bin 55 .eql (.t 54) (.c (.int .i64 0))),.pick 56 (.t 48) (.t 55) (.c (.bool false)),.ak 4 (.t 56)]) (.qp [] [([0,1,2,3,4,5,6,7,8,9,10,11,12,13,14,15,16,17,18,19,20],21)] none [22,23,24] [.au 57 (.t 1) 3,.load 58 none (.t 57),.len 59 (.t 58),.bin 60 .gtr (.t 59) (.c (.int .i64 0)),.ah 61 (.t 60),.grd 61 true (.au 62 (.t 1) 5),.grd 61 true (.load 63 none (.t 62)),.grd 61 true (.len 64 (.t 63)),.grd 61 true (.bin 65 .eql (.t 64) (.c (.int .i64 0))),.pick 66 (.t 61) (.t 65) (.c (.bool false)),.ah 67 (.t 66),.grd 67 true (.au 68 (.t 1) 3),.grd 67 true (.load 69 none (.t 68)),.grd 67 true (.au 70 (.t 1) 0),.grd 67 true (.au 71 (.t 70) 2),.grd 67 true (.load 72 none (.t 71)),.grd 67 true (.au 73 (.t 1) 4),.grd 67 true (.load 74 none (.t 73)),.grd 67 true (.bG 75 1 (.t 72) (.t 74)),.grd 67 true (.load 76 none (.t 75)),.grd 67 true (.len 77 (.t 76)),.grd 67 true (.call 78 106 [(.t 69),(.t 77)]),.grd 67 true (.bin 79 .eql (.t 78) (.c (.int .i64 0))),.pick 80 (.t 67) (.t 79) (.c (.bool false)),.ak 4 (.t 80)]))) (.seq (.seq (.ops [.ah 81 (.t 4),.un 82 .not (.t 81)]) (.cond (.t 82) (.seq (.ops [.ak 2 (.c (.int .i64 3))]) .ret) .skip)) (.seq (.ops [.ak 2 (.c (.int .i64 0))]) .ret)))))))⟩
def Hf:aj:=(.seq (.ops [.bin 14 .lss (.t 13) (.t 12)]) (.seq (.cond (.t 14) .skip (.exit 0)) (.seq (.block 1 (.seq (.ops [.ah 15 (.t 13),.ak 5 (.t 15)]) (.seq (.qp [] [] none [0,1,2,3,4,5,6,7,8] [.ah 16 (.t 0),.ah 17 (.t 5),.bG 18 1 (.t 16) (.t 17),.load 19 none (.t 18),.ah 20 (.t 1),.ah 21 (.t 5),.bG 22 1 (.t 20) (.t 21),.load 23 none (.t 22),.bin 24 .neq (.t 19) (.t 23)]) (.cond (.t 24) (.seq (.ops [.ak 4 (.c (.bool false))]) .ret) .skip)))) (.ops [.bin 25 .add (.t 13) (.c (.int .i64 1)),.ah 13 (.t 25)]))))
def Hg:aj :=
(.clean [0,1,12,13] [4] (.block 0 (.loop [0,1,12,13] Hf)))
def Xn:dL:=⟨2,26,[.tmp 4],(.seq (.ops [.ak 4 (.c (.bool false))]) (.seq (.seq (.ops [.ah 6 (.t 0),.len 7 (.t 6),.ah 8 (.t 1),.len 9 (.t 8),.bin 10 .neq (.t 7) (.t 9)]) (.cond (.t 10) (.seq (.ops [.ak 4 (.c (.bool false))]) .ret) .skip)) (.seq (.seq (.ops [.ah 11 (.t 0),.len 12 (.t 11),.ah 13 (.c (.int .i64 0))])
   Hg) (.seq (.ops [.ak 4 (.c (.bool true))]) .ret))))⟩
def Bh:aj:=(.seq (.ops [.bin 10 .lss (.t 9) (.t 8)]) (.seq (.cond (.t 10) .skip (.exit 0)) (.seq (.block 1 (.seq (.ops [.bG 11 2 (.t 7) (.t 9),.load 12 (some 2) (.t 11),.alloc 5 [(.int .i64 0),(.int .i64 0)],.store none 2 (.t 5) (.t 12)]) (.ops [.ah 13 (.t 3),.au 14 (.t 5) 1,.load 15 none (.t 14),.bin 16 .add (.t 13) (.t 15),.ak 3 (.t 16)]))) (.ops [.bin 17 .add (.t 9) (.c (.int .i64 1)),.ah 9 (.t 17)]))))
def Bj:aj :=
(.clean [3,7,8,9] [2,3] (.block 0 (.loop [3,7,8,9] Bh)))
def JO:dL:=⟨1,19,[.tmp 2],(.seq (.ops [.ak 2 (.c (.int .i64 0))]) (.seq (.ops [.ak 3 (.c (.int .i64 0))]) (.seq (.seq (.ops [.ah 6 (.t 0),.call 7 180 [(.t 6),(.nil 2)],.len 8 (.t 7),.ah 9 (.c (.int .i64 0))])
   Bj) (.seq (.ops [.ah 18 (.t 3),.ak 2 (.t 18)]) .ret))))⟩
def Bl:aj:=(.ops [.ak 6 (.t 13)])
def Bo:aj:=(.block 1 (.seq (.seq (.qp [] [([0,1,2,4],3),([5,6],7),([],8)] none [9] [.load 14 none (.t 3),.FC 15 1 (.t 14) none (some (.c (.int .i64 8))),.QH 16 (.t 2),.ah 18 (.t 6),.pk 17 193 (.t 16),.bG 19 1 (.t 17) (.t 18),.load 20 none (.t 19),.call 21 109 [(.t 20)],.call 22 192 [(.t 15),(.t 21)],.un 23 .not (.t 22)]) (.cond (.t 23) (.ops [.load 24 none (.t 5),.ah 25 (.t 6),.eP 26 1 [(.t 25)],.app 27 1 (.t 24) (.t 26),.store none 1 (.t 5) (.t 27)]) .skip)) (.seq (.ops [.load 28 none (.t 3),.FC 29 1 (.t 28) (some (.c (.int .i64 8))) none,.store none 1 (.t 3) (.t 29)]) (.ops [.QH 30 (.t 2),.au 31 (.t 30) 0,.au 32 (.t 31) 0,.au 33 (.t 32) 6,.load 34 none (.t 33),.bin 35 .add (.t 34) (.c (.int .i64 1)),.au 36 (.t 30) 0,.au 37 (.t 36) 0,.au 38 (.t 37) 6,.store none 1 (.t 38) (.t 35)]))))
def JQ:dL:=⟨2,40,[.tmp 4],(.seq (.ops [.QG 2 (.t 0),.box 3 (.t 1),.ak 4 (.nil 1)]) (.seq (.ops [.alloc 5 [(.list 1 [])]]) (.seq (.seq (.ops [.QH 7 (.t 2),.au 8 (.t 7) 0,.au 9 (.t 8) 0,.au 10 (.t 9) 3,.load 11 none (.t 10),.call 12 108 [(.t 11)]]) (.block 0 (.rng (.t 12) [13] Bl Bo))) (.seq (.ops [.load 39 none (.t 5),.ak 4 (.t 39)]) .ret))))⟩
def Bq:aj:=(.seq (.ops [.bin 15 .lss (.t 14) (.t 13)]) (.seq (.cond (.t 15) .skip (.exit 0)) (.seq (.block 1 (.seq (.ops [.bG 16 1 (.t 12) (.t 14),.load 17 none (.t 16),.ak 6 (.t 17)]) (.seq (.ops [.ah 18 (.t 6),.ah 19 (.t 0),.au 20 (.t 19) 0,.au 21 (.t 20) 0,.au 22 (.t 21) 0,.au 23 (.t 22) 1,.load 24 none (.t 23),.bin 25 .mul (.t 18) (.t 24),.ak 7 (.t 25)]) (.drs [] [0,1,4,12,13,14,45] [.ah 26 (.t 4),.ah 27 (.t 7),.ah 28 (.t 0),.au 29 (.t 28) 0,.au 30 (.t 29) 0,.au 31 (.t 30) 0,.au 32 (.t 31) 1,.load 33 none (.t 32),.ah 34 (.t 0),.au 35 (.t 34) 0,.au 36 (.t 35) 0,.au 37 (.t 36) 0,.au 38 (.t 37) 0,.load 39 none (.t 38),.ah 40 (.t 7),.bin 41 .sub (.t 39) (.t 40),.mn 42 false (.t 33) (.t 41),.build 43 [(.int .i64 0),(.int .i64 0)] [(0,1,(.t 27)),(1,1,(.t 42))],.eP 44 2 [(.t 43)],.app 45 2 (.t 26) (.t 44),.ak 4 (.t 45)]
    [⟨[([0,1,2,8,14],3),([4,5,6,7],9),([10,11,12,13,15,16,17],18)],(some ([],[],19,[])),[20],[0,1,2,8,14,3,4,5,6,7,9,10,11,12,13,15,16,17,18,19,20],false⟩,⟨[([0,1,2,8,14],9),([10,11,12,13,15],3),([4,5,6,7,16,17],18)],(some ([],[],19,[])),[20],[0,1,2,8,14,9,10,11,12,13,15,3,4,5,6,7,16,17,18,19,20],false⟩])))) (.ops [.bin 46 .add (.t 14) (.c (.int .i64 1)),.ah 14 (.t 46)]))))
def Bv:aj :=
(.clean [0,1,4,12,13,14,45] [0,4] (.block 0 (.loop [0,1,4,12,13,14,45] Bq)))
def JR:dL:=⟨2,55,[],(.seq (.ops [.ah 8 (.t 0),.au 9 (.t 8) 0,.au 10 (.t 9) 0,.au 11 (.t 10) 5,.store none 1 (.t 11) (.nil 2)]) (.seq (.ops [.ak 4 (.nil 2)]) (.seq (.seq (.ops [.ah 12 (.t 1),.len 13 (.t 12),.ah 14 (.c (.int .i64 0))])
   Bv) (.seq (.ops [.ah 47 (.t 0),.ah 48 (.t 4),.call 49 180 [(.t 48),(.nil 2)],.au 50 (.t 47) 0,.au 51 (.t 50) 0,.au 52 (.t 51) 5,.store none 1 (.t 52) (.t 49)]) (.ops [.ah 53 (.t 0),.lin 54 103 (.t 53) []])))))⟩
def JU:dL:=⟨1,14,[],(.ops [.ah 2 (.t 0),.ah 3 (.t 0),.ah 4 (.t 0),.au 5 (.t 2) 0,.au 6 (.t 5) 0,.au 7 (.t 6) 4,.store none 1 (.t 7) (.c (.int .i64 0)),.au 8 (.t 3) 0,.au 9 (.t 8) 0,.au 10 (.t 9) 3,.store none 1 (.t 10) (.nil 2),.au 11 (.t 4) 0,.au 12 (.t 11) 0,.au 13 (.t 12) 7,.store none 1 (.t 13) (.c (.bool true))])⟩
def qI:aj:=(.seq (.ops [.bin 35 .lss (.t 34) (.t 33)]) (.seq (.cond (.t 35) .skip (.exit 2)) (.seq (.block 3 (.seq (.ops [.bG 36 1 (.t 32) (.t 34),.load 37 none (.t 36),.ak 7 (.t 37)]) (.seq (.ops [.ah 38 (.t 7),.ah 39 (.t 0),.pk 40 193 (.t 39),.len 41 (.t 40),.bin 42 .lss (.t 38) (.t 41)]) (.cond (.t 42) (.ops [.ah 43 (.t 0),.ah 44 (.t 0),.au 45 (.t 44) 0,.au 46 (.t 45) 0,.au 47 (.t 46) 3,.load 48 none (.t 47),.ah 49 (.t 7),.lin 50 194 (.t 48) [(.t 49)],.au 51 (.t 43) 0,.au 52 (.t 51) 0,.au 53 (.t 52) 3,.store none 1 (.t 53) (.t 50)]) .skip)))) (.ops [.bin 54 .add (.t 34) (.c (.int .i64 1)),.ah 34 (.t 54)]))))
def Bz:aj :=
(.clean [0,1,21,22,23,32,33,34] [0,1,21,22,23] (.block 2 (.loop [0,1,21,22,23,32,33,34] qI)))
def BA:aj:=(.seq (.ops [.bin 24 .lss (.t 23) (.t 22)]) (.seq (.cond (.t 24) .skip (.exit 0)) (.seq (.block 1 (.seq (.ops [.bG 25 1 (.t 21) (.t 23),.load 26 none (.t 25),.ak 5 (.t 26)]) (.seq (.ops [.ah 27 (.t 5),.bin 28 .mul (.c (.int .i64 2)) (.t 27),.ah 29 (.t 5),.bin 30 .mul (.c (.int .i64 2)) (.t 29),.bin 31 .add (.t 30) (.c (.int .i64 1)),.eP 32 1 [(.t 28),(.t 31)],.len 33 (.t 32),.ah 34 (.c (.int .i64 0))])
    Bz))) (.ops [.bin 55 .add (.t 23) (.c (.int .i64 1)),.ah 23 (.t 55)]))))
def BD:aj :=
(.clean [0,1,21,22,23] [] (.block 0 (.loop [0,1,21,22,23] BA)))
def JV:dL:=⟨2,56,[],(.seq (.ops [.ah 8 (.t 0),.au 9 (.t 8) 0,.au 10 (.t 9) 0,.au 11 (.t 10) 4,.load 12 none (.t 11),.bin 13 .sub (.t 12) (.c (.int .i64 1)),.au 14 (.t 8) 0,.au 15 (.t 14) 0,.au 16 (.t 15) 4,.store none 1 (.t 16) (.t 13)]) (.seq (.ops [.ah 17 (.t 0),.au 18 (.t 17) 0,.au 19 (.t 18) 0,.au 20 (.t 19) 3,.store none 1 (.t 20) (.nil 2)]) (.seq (.ops [.ah 21 (.t 1),.len 22 (.t 21),.ah 23 (.c (.int .i64 0))])
  BD)))⟩
def JW:dL:=⟨2,9,[.tmp 4],(.seq (.ops [.box 2 (.t 0),.box 3 (.t 1),.ak 4 (.c .nY)]) (.seq (.seq (.ops [.load 5 none (.t 3),.bin 6 .lss (.t 5) (.c (.int .i64 1))]) (.cond (.t 6) (.drs [] [] []
   []) .skip)) (.seq (.ops [.Ef 8 195 [(.t 2),(.t 3)],.ak 4 (.t 8)]) .ret)))⟩
def oJ:aj:=(.seq (.ops [.bin 17 .lss (.t 16) (.t 15)]) (.seq (.cond (.t 17) .skip (.exit 0)) (.seq (.block 1 (.seq (.ops [.bG 18 2 (.t 14) (.t 16),.load 19 (some 2) (.t 18),.alloc 7 [(.int .i64 0),(.int .i64 0)],.store none 2 (.t 7) (.t 19)]) (.seq (.block 2 (.seq (.ops [.au 21 (.t 7) 1,.load 22 none (.t 21),.bin 23 .leq (.t 22) (.c (.int .i64 0)),.ak 20 (.t 23)]) (.cond (.t 20) (.seq (.ops [.ak 4 (.c (.int .i64 1))]) .ret) (.seq (.ops [.au 25 (.t 7) 0,.load 26 none (.t 25),.bin 27 .lss (.t 26) (.c (.int .i64 0)),.ah 28 (.t 27),.grd 28 false (.au 29 (.t 7) 1),.grd 28 false (.load 30 none (.t 29)),.grd 28 false (.ah 31 (.t 1)),.grd 28 false (.au 32 (.t 7) 0),.grd 28 false (.load 33 none (.t 32)),.grd 28 false (.bin 34 .sub (.t 31) (.t 33)),.grd 28 false (.bin 35 .gtr (.t 30) (.t 34)),.pick 36 (.t 28) (.c (.bool true)) (.t 35),.ak 24 (.t 36)]) (.cond (.t 24) (.seq (.ops [.ak 4 (.c (.int .i64 2))]) .ret) (.seq (.ops [.au 38 (.t 7) 0,.load 39 none (.t 38),.ah 40 (.t 5),.bin 41 .lss (.t 39) (.t 40),.ak 37 (.t 41)]) (.cond (.t 37) (.seq (.ops [.ak 4 (.c (.int .i64 3))]) .ret) .skip))))))) (.ops [.au 42 (.t 7) 0,.load 43 none (.t 42),.au 44 (.t 7) 1,.load 45 none (.t 44),.bin 46 .add (.t 43) (.t 45),.bin 47 .add (.t 46) (.c (.int .i64 1)),.ak 5 (.t 47)])))) (.ops [.bin 48 .add (.t 16) (.c (.int .i64 1)),.ah 16 (.t 48)]))))
def BF:aj :=
(.clean [0,1,5,14,15,16] [4] (.block 0 (.loop [0,1,5,14,15,16] oJ)))
def BG:dL:=⟨2,49,[.tmp 4],(.seq (.ops [.ak 4 (.c (.int .i64 0))]) (.seq (.seq (.ops [.ah 8 (.t 1),.bin 9 .lss (.t 8) (.c (.int .i64 0)),.ah 10 (.t 9),.grd 10 false (.ah 11 (.t 1)),.grd 10 false (.bin 12 .gtr (.t 11) (.c (.int .i64 4096))),.pick 13 (.t 10) (.c (.bool true)) (.t 12)]) (.cond (.t 13) (.seq (.ops [.ak 4 (.c (.int .i64 2))]) .ret) .skip)) (.seq (.ops [.ak 5 (.c (.int .i64 0))]) (.seq (.seq (.ops [.ah 14 (.t 0),.len 15 (.t 14),.ah 16 (.c (.int .i64 0))])
   BF) (.seq (.ops [.ak 4 (.c (.int .i64 0))]) .ret)))))⟩
def P7:dL:=⟨1,8,[.tmp 2],(.seq (.ops [.ak 2 (.nil 1)]) (.seq (.seq (.ops [.ah 3 (.t 0),.LY 4 false (.t 3)]) (.cond (.t 4) (.seq (.ops [.ak 2 (.nil 1)]) .ret) .skip)) (.seq (.ops [.eP 5 1 [],.ah 6 (.t 0),.app 7 1 (.t 5) (.t 6),.ak 2 (.t 7)]) .ret)))⟩
def JX:dL:=⟨1,4,[.tmp 2],(.seq (.ops [.box 1 (.t 0),.ak 2 (.c .nY)]) (.seq (.ops [.Ef 3 196 [(.t 1)],.ak 2 (.t 3)]) .ret))⟩
def BH:aj:=(.seq (.ops [.bin 6 .lss (.t 5) (.c (.int .i64 8))]) (.seq (.cond (.t 6) .skip (.exit 0)) (.seq (.block 1 (.seq (.ops [.ah 7 (.t 5),.ak 4 (.t 7)]) (.ops [.ah 8 (.t 3),.ah 9 (.t 0),.ah 10 (.t 4),.bin 11 .mul (.c (.int .i64 8)) (.t 10),.bin 12 .shr (.t 9) (.t 11),.conv 13 .u8 (.t 12),.eP 14 1 [(.t 13)],.app 15 1 (.t 8) (.t 14),.ak 3 (.t 15)]))) (.ops [.bin 16 .add (.t 5) (.c (.int .i64 1)),.ah 5 (.t 16)]))))
def BI:aj :=
(.clean [0,3,5,15] [2,3] (.block 0 (.loop [0,3,5,15] BH)))
def JY:dL:=⟨1,18,[.tmp 2],(.seq (.ops [.ak 2 (.nil 1)]) (.seq (.ops [.ak 3 (.nil 1)]) (.seq (.seq (.ops [.ah 5 (.c (.int .i64 0))])
   BI) (.seq (.ops [.ah 17 (.t 3),.ak 2 (.t 17)]) .ret))))⟩
def Xo:aj:=(.seq (.ops [.bin 22 .lss (.t 21) (.t 20)]) (.seq (.cond (.t 22) .skip (.exit 0)) (.seq (.block 1 (.seq (.ops [.bG 23 2 (.t 19) (.t 21),.load 24 (some 2) (.t 23),.alloc 9 [(.int .i64 0),(.int .i64 0)],.store none 2 (.t 9) (.t 24)]) (.seq (.ops [.load 26 (some 2) (.t 6),.load 27 (some 2) (.t 9),.call 28 170 [(.t 26),(.t 27)],.ah 25 (.t 28),.ext 29 (.t 25) 0,.ext 30 (.t 25) 1,.store none 2 (.t 6) (.t 29),.ak 7 (.t 30)]) (.seq (.ops [.ah 31 (.t 7),.bin 32 .neq (.t 31) (.c (.int .i64 0))]) (.cond (.t 32) (.seq (.ops [.build 33 [(.int .i64 0),(.list 1 [])] [],.ah 34 (.t 7),.store none 2 (.t 4) (.t 33),.ak 5 (.t 34)]) .ret) .skip))))) (.ops [.bin 35 .add (.t 21) (.c (.int .i64 1)),.ah 21 (.t 35)]))))
def Xp:aj :=
(.clean [1,4,6,19,20,21] [4,5,6] (.block 0 (.loop [1,4,6,19,20,21] Xo)))
def Xq:dL:=⟨2,37,[.cell 4 (some 2),.tmp 5],(.seq (.ops [.alloc 4 [(.int .i64 0),(.list 1 [])],.ak 5 (.c (.int .i64 0))]) (.seq (.ops [.ah 11 (.t 0),.call 12 169 [(.t 11)],.ah 10 (.t 12),.ext 13 (.t 10) 0,.ext 14 (.t 10) 1,.alloc 6 [(.int .i64 0),(.list 1 [])],.store none 2 (.t 6) (.t 13),.ak 7 (.t 14)]) (.seq (.seq (.ops [.ah 15 (.t 7),.bin 16 .neq (.t 15) (.c (.int .i64 0))]) (.cond (.t 16) (.seq (.ops [.build 17 [(.int .i64 0),(.list 1 [])] [],.ah 18 (.t 7),.store none 2 (.t 4) (.t 17),.ak 5 (.t 18)]) .ret) .skip)) (.seq (.seq (.ops [.ah 19 (.t 1),.len 20 (.t 19),.ah 21 (.c (.int .i64 0))])
   Xp) (.seq (.ops [.load 36 (some 2) (.t 6),.store none 2 (.t 4) (.t 36),.ak 5 (.c (.int .i64 0))]) .ret)))))⟩
def P9:dL:=⟨1,8,[.tmp 2],(.seq (.ops [.ak 2 (.nil 1)]) (.seq (.seq (.ops [.ah 3 (.t 0),.LY 4 false (.t 3)]) (.cond (.t 4) (.seq (.ops [.ak 2 (.nil 1)]) .ret) .skip)) (.seq (.ops [.eP 5 1 [],.ah 6 (.t 0),.app 7 1 (.t 5) (.t 6),.ak 2 (.t 7)]) .ret)))⟩
def Xr:dL:=⟨2,16,[.tmp 4],(.seq (.ops [.box 2 (.t 0),.ak 4 (.c (.int .i64 0))]) (.seq (.seq (.ops [.ah 6 (.t 1),.len 7 (.t 6),.load 8 none (.t 2),.len 9 (.t 8),.bin 10 .neq (.t 7) (.t 9)]) (.cond (.t 10) (.seq (.ops [.ak 4 (.c (.int .i64 6))]) .ret) .skip)) (.seq (.ops [.ah 11 (.t 1),.Ef 12 207 [(.t 2)],.call 13 206 [(.t 11),(.t 12)],.ak 5 (.t 13)]) (.seq (.seq (.ops [.ah 14 (.t 5),.call 15 208 [(.t 14),(.c (.bool false))]]) (.cond (.t 15) (.seq (.ops [.ak 4 (.c (.int .i64 3))]) .ret) .skip)) (.seq (.ops [.ak 4 (.c (.int .i64 0))]) .ret)))))⟩
def Xt:dL:=⟨1,4,[.tmp 2],(.seq (.ops [.box 1 (.t 0),.ak 2 (.c .nY)]) (.seq (.ops [.Ef 3 209 [(.t 1)],.ak 2 (.t 3)]) .ret))⟩
def Qa:dL:=⟨1,8,[.tmp 2],(.seq (.ops [.ak 2 (.nil 8)]) (.seq (.seq (.ops [.ah 3 (.t 0),.LY 4 false (.t 3)]) (.cond (.t 4) (.seq (.ops [.ak 2 (.nil 8)]) .ret) .skip)) (.seq (.ops [.eP 5 8 [],.ah 6 (.t 0),.app 7 8 (.t 5) (.t 6),.ak 2 (.t 7)]) .ret)))⟩
def Xu:aj:=(.ops [.ak 4 (.t 8)])
def Xv:aj:=(.block 1 (.seq (.seq (.ops [.load 9 none (.t 3),.len 10 (.t 9),.ak 5 (.t 10)]) (.seq (.qp [] [] none [0,1,2,3,4,5,6,7,8,9,10,11,12,13,14,15,16,17,18] [.ah 11 (.t 5),.bin 12 .gtr (.t 11) (.c (.int .i64 0)),.ah 13 (.t 12),.grd 13 true (.load 14 none (.t 3)),.grd 13 true (.ah 15 (.t 5)),.grd 13 true (.bin 16 .sub (.t 15) (.c (.int .i64 1))),.grd 13 true (.bG 17 2 (.t 14) (.t 16)),.grd 13 true (.au 18 (.t 17) 0),.grd 13 true (.load 19 none (.t 18)),.grd 13 true (.load 20 none (.t 3)),.grd 13 true (.ah 21 (.t 5)),.grd 13 true (.bin 22 .sub (.t 21) (.c (.int .i64 1))),.grd 13 true (.bG 23 2 (.t 20) (.t 22)),.grd 13 true (.au 24 (.t 23) 1),.grd 13 true (.load 25 none (.t 24)),.grd 13 true (.bin 26 .add (.t 19) (.t 25)),.grd 13 true (.ah 27 (.t 4)),.grd 13 true (.bin 28 .eql (.t 26) (.t 27)),.pick 29 (.t 13) (.t 28) (.c (.bool false))]) (.cond (.t 29) (.seq (.ops [.load 30 none (.t 3),.ah 31 (.t 5),.bin 32 .sub (.t 31) (.c (.int .i64 1)),.bG 33 2 (.t 30) (.t 32),.au 34 (.t 33) 1,.load 35 none (.t 34),.bin 36 .add (.t 35) (.c (.int .i64 1)),.bG 37 2 (.t 30) (.t 32),.au 38 (.t 37) 1,.store none 1 (.t 38) (.t 36)]) (.exit 1)) .skip))) (.ops [.load 39 none (.t 3),.ah 40 (.t 4),.build 41 [(.int .i64 0),(.int .i64 0)] [(0,1,(.t 40)),(1,1,(.c (.int .i64 1)))],.eP 42 2 [(.t 41)],.app 43 2 (.t 39) (.t 42),.store none 1 (.t 3) (.t 43)])))
def Xw:dL:=⟨1,45,[.tmp 2],(.seq (.ops [.box 1 (.t 0),.ak 2 (.nil 2)]) (.seq (.ops [.alloc 3 [(.list 2 [])]]) (.seq (.seq (.ops [.load 6 (some 2) (.t 1),.call 7 219 [(.t 6),(.c (.int .i64 0))]]) (.block 0 (.rng (.t 7) [8] Xu Xv))) (.seq (.ops [.load 44 none (.t 3),.ak 2 (.t 44)]) .ret))))⟩
def Xx:dL:=⟨1,39,[.tmp 2],(.seq (.ops [.box 1 (.t 0),.ak 2 (.c (.int .i64 0))]) (.seq (.seq (.qp [] [([0,1,2,3,4,5,6,7,8,9,10,11,12,13],14)] none [15,16] [.au 4 (.t 1) 0,.load 5 none (.t 4),.bin 6 .lss (.t 5) (.c (.int .i64 0)),.ah 7 (.t 6),.grd 7 false (.au 8 (.t 1) 0),.grd 7 false (.load 9 none (.t 8)),.grd 7 false (.bin 10 .gtr (.t 9) (.c (.int .i64 4096))),.pick 11 (.t 7) (.c (.bool true)) (.t 10),.ah 12 (.t 11),.grd 12 false (.au 13 (.t 1) 1),.grd 12 false (.load 14 none (.t 13)),.grd 12 false (.len 15 (.t 14)),.grd 12 false (.au 16 (.t 1) 0),.grd 12 false (.load 17 none (.t 16)),.grd 12 false (.call 18 222 [(.t 17)]),.grd 12 false (.bin 19 .neq (.t 15) (.t 18)),.pick 20 (.t 12) (.c (.bool true)) (.t 19)]) (.cond (.t 20) (.seq (.ops [.ak 2 (.c (.int .i64 3))]) .ret) .skip)) (.seq (.seq (.ops [.au 21 (.t 1) 0,.load 22 none (.t 21),.bin 23 .rem (.t 22) (.c (.int .i64 64)),.ak 3 (.t 23)]) (.seq (.ops [.ah 24 (.t 3),.bin 25 .gtr (.t 24) (.c (.int .i64 0)),.ah 26 (.t 25),.grd 26 true (.au 27 (.t 1) 1),.grd 26 true (.load 28 none (.t 27)),.grd 26 true (.au 29 (.t 1) 1),.grd 26 true (.load 30 none (.t 29)),.grd 26 true (.len 31 (.t 30)),.grd 26 true (.bin 32 .sub (.t 31) (.c (.int .i64 1))),.grd 26 true (.bG 33 1 (.t 28) (.t 32)),.grd 26 true (.load 34 none (.t 33)),.grd 26 true (.ah 35 (.t 3)),.grd 26 true (.bin 36 .shr (.t 34) (.t 35)),.grd 26 true (.bin 37 .neq (.t 36) (.c (.int .u64 0))),.pick 38 (.t 26) (.t 37) (.c (.bool false))]) (.cond (.t 38) (.seq (.ops [.ak 2 (.c (.int .i64 3))]) .ret) .skip))) (.seq (.ops [.ak 2 (.c (.int .i64 0))]) .ret))))⟩
def Xy:dL:=⟨1,13,[.tmp 2],(.seq (.ops [.ak 2 (.c (.int .i64 0))]) (.seq (.seq (.ops [.ah 3 (.t 0),.len 4 (.t 3),.bin 5 .lss (.t 4) (.c (.int .i64 1)),.ah 6 (.t 5),.grd 6 false (.ah 7 (.t 0)),.grd 6 false (.len 8 (.t 7)),.grd 6 false (.bin 9 .gtr (.t 8) (.c (.int .i64 8))),.pick 10 (.t 6) (.c (.bool true)) (.t 9)]) (.cond (.t 10) (.seq (.ops [.ak 2 (.c (.int .i64 6))]) .ret) .skip)) (.seq (.seq (.ops [.ah 11 (.t 0),.call 12 223 [(.t 11),(.c (.func 227 []))]]) (.cond (.t 12) (.seq (.ops [.ak 2 (.c (.int .i64 2))]) .ret) .skip)) (.seq (.ops [.ak 2 (.c (.int .i64 0))]) .ret))))⟩
def Xz:dL:=⟨1,5,[.tmp 2],(.seq (.ops [.ak 2 (.nil 1)]) (.seq (.ops [.ah 3 (.t 0),.call 4 228 [(.t 3),(.c (.func 229 []))],.ak 2 (.t 4)]) .ret))⟩
def XA:dL:=⟨1,16,[.cell 2 (some 2),.tmp 3],(.seq (.ops [.alloc 2 [(.int .i64 0),(.list 1 [])],.ak 3 (.c (.int .i64 0))]) (.seq (.seq (.ops [.ah 4 (.t 0),.bin 5 .lss (.t 4) (.c (.int .i64 0)),.ah 6 (.t 5),.grd 6 false (.ah 7 (.t 0)),.grd 6 false (.bin 8 .gtr (.t 7) (.c (.int .i64 4096))),.pick 9 (.t 6) (.c (.bool true)) (.t 8)]) (.cond (.t 9) (.seq (.ops [.build 10 [(.int .i64 0),(.list 1 [])] [],.store none 2 (.t 2) (.t 10),.ak 3 (.c (.int .i64 2))]) .ret) .skip)) (.seq (.ops [.ah 11 (.t 0),.ah 12 (.t 0),.call 13 222 [(.t 12)],.make 14 (.int .u64 0) (.t 13) (.t 13),.build 15 [(.int .i64 0),(.list 1 [])] [(0,1,(.t 11)),(1,1,(.t 14))],.store none 2 (.t 2) (.t 15),.ak 3 (.c (.int .i64 0))]) .ret)))⟩
def XB:dL:=⟨2,12,[.cell 4 (some 2),.tmp 5],(.seq (.ops [.box 2 (.t 0),.box 3 (.t 1),.alloc 4 [(.int .i64 0),(.list 1 [])],.ak 5 (.c (.int .i64 0))]) (.seq (.ops [.build 6 [.nY] [(0,1,(.c (.func 233 [])))],.load 7 (some 2) (.t 2),.load 8 (some 2) (.t 3),.call 9 234 [(.t 6),(.t 7),(.t 8)],.ext 10 (.t 9) 0,.ext 11 (.t 9) 1,.store none 2 (.t 4) (.t 10),.ak 5 (.t 11)]) .ret))⟩
def XC:dL:=⟨2,19,[.tmp 4],(.seq (.ops [.ak 4 (.c (.bool false))]) (.seq (.ops [.ah 5 (.t 0),.bin 6 .geq (.t 5) (.c (.int .i64 1)),.ah 7 (.t 6),.grd 7 true (.ah 8 (.t 0)),.grd 7 true (.bin 9 .leq (.t 8) (.c (.int .i64 4096))),.pick 10 (.t 7) (.t 9) (.c (.bool false)),.ah 11 (.t 10),.grd 11 true (.ah 12 (.t 1)),.grd 11 true (.bin 13 .geq (.t 12) (.c (.int .i64 1))),.pick 14 (.t 11) (.t 13) (.c (.bool false)),.ah 15 (.t 14),.grd 15 true (.ah 16 (.t 1)),.grd 15 true (.bin 17 .leq (.t 16) (.c (.int .i64 4096))),.pick 18 (.t 15) (.t 17) (.c (.bool false)),.ak 4 (.t 18)]) .ret))⟩
def XD:dL:=⟨2,11,[.tmp 4],(.seq (.ops [.ak 4 (.c (.int .i64 0))]) (.seq (.ops [.ah 5 (.t 0),.ah 6 (.t 1),.bin 7 .add (.t 5) (.t 6),.bin 8 .sub (.t 7) (.c (.int .i64 1)),.ah 9 (.t 1),.bin 10 .quo (.t 8) (.t 9),.ak 4 (.t 10)]) .ret))⟩
def XE:aj:=(.ops [.ak 12 (.t 37)])
def XF:aj:=(.block 1 (.seq (.qp [] [([0,1,2,3,4,5,6,7,8],9)] (some ([10,11,13],[12],14,[([],15)])) [] [.au 39 (.t 3) 2,.load 40 none (.t 39),.ah 41 (.t 12),.load 42 none (.t 5),.au 43 (.t 3) 2,.load 44 none (.t 43),.ah 45 (.t 12),.bG 46 1 (.t 44) (.t 45),.load 47 none (.t 46),.jP 48 (.t 42) [(.t 47)],.ah 38 (.t 48),.ext 49 (.t 38) 0,.bG 51 1 (.t 40) (.t 41),.ext 50 (.t 38) 1,.store none 1 (.t 51) (.t 49),.store none 1 (.t 11) (.t 50)]) (.seq (.ops [.load 52 none (.t 11),.bin 53 .neq (.t 52) (.c (.int .i64 0))]) (.cond (.t 53) (.seq (.qp [(.t 11)] [] (some ([0],[2,1],3,[([],4),([],5)])) [] [.build 54 [(.int .i64 0),(.int .i64 0),(.list 1 []),(.int .i64 0),(.list 1 [])] [],.Ie 56 none (.t 11),.build 55 [(.int .i64 0),(.int .i64 0)] [],.store none 5 (.t 6) (.t 54),.store none 2 (.t 7) (.t 55),.store none 1 (.t 8) (.t 56)]) .ret) .skip))))
def XG:dL:=⟨3,59,[.cell 6 (some 5),.cell 7 (some 2),.cell 8 none],(.seq (.ops [.box 3 (.t 0),.box 4 (.t 1),.box 5 (.t 2),.alloc 6 [(.int .i64 0),(.int .i64 0),(.list 1 []),(.int .i64 0),(.list 1 [])],.alloc 7 [(.int .i64 0),(.int .i64 0)],.alloc 8 [(.int .i64 0)]]) (.seq (.seq (.ops [.load 13 (some 5) (.t 3),.call 14 181 [(.t 13)],.ak 9 (.t 14)]) (.seq (.ops [.ah 15 (.t 9),.bin 16 .neq (.t 15) (.c (.int .i64 0))]) (.cond (.t 16) (.seq (.ops [.build 17 [(.int .i64 0),(.int .i64 0),(.list 1 []),(.int .i64 0),(.list 1 [])] [],.build 18 [(.int .i64 0),(.int .i64 0)] [],.ah 19 (.t 9),.store none 5 (.t 6) (.t 17),.store none 2 (.t 7) (.t 18),.store none 1 (.t 8) (.t 19)]) .ret) .skip))) (.seq (.ops [.load 21 (some 5) (.t 3),.load 22 (some 2) (.t 4),.call 23 235 [(.t 21),(.t 22)],.ah 20 (.t 23),.ext 24 (.t 20) 0,.ext 25 (.t 20) 1,.alloc 10 [(.int .i64 0),(.int .i64 0)],.alloc 11 [(.int .i64 0)],.store none 2 (.t 10) (.t 24),.store none 1 (.t 11) (.t 25)]) (.seq (.seq (.ops [.load 26 none (.t 11),.bin 27 .neq (.t 26) (.c (.int .i64 0))]) (.cond (.t 27) (.seq (.qp [(.t 11)] [] (some ([0],[2,1],3,[([],4),([],5)])) [] [.build 28 [(.int .i64 0),(.int .i64 0),(.list 1 []),(.int .i64 0),(.list 1 [])] [],.Ie 30 none (.t 11),.build 29 [(.int .i64 0),(.int .i64 0)] [],.store none 5 (.t 6) (.t 28),.store none 2 (.t 7) (.t 29),.store none 1 (.t 8) (.t 30)]) .ret) .skip)) (.seq (.ops [.au 31 (.t 3) 2,.load 32 none (.t 31),.call 33 107 [(.t 32)],.au 34 (.t 3) 2,.store none 1 (.t 34) (.t 33)]) (.seq (.seq (.ops [.load 35 (some 2) (.t 10),.call 36 176 [(.t 35)]]) (.block 0 (.rng (.t 36) [37] XE XF))) (.seq (.qp [(.t 10)] [] (some ([0],[1],2,[([],3),([],4)])) [] [.load 57 (some 5) (.t 3),.Ie 58 (some 2) (.t 10),.store none 5 (.t 6) (.t 57),.store none 2 (.t 7) (.t 58),.store none 1 (.t 8) (.c (.int .i64 0))]) .ret)))))))⟩
def XH:dL:=⟨1,8,[.tmp 2,.tmp 3],(.seq (.ops [.ak 2 (.c (.int .i64 0)),.ak 3 (.c (.int .i64 0))]) (.seq (.seq (.ops [.ah 4 (.t 0),.bin 5 .eql (.t 4) (.c (.int .i64 4096))]) (.cond (.t 5) (.seq (.ops [.ak 2 (.c (.int .i64 0)),.ak 3 (.c (.int .i64 6))]) .ret) .skip)) (.seq (.ops [.ah 6 (.t 0),.bin 7 .add (.t 6) (.c (.int .i64 1)),.ak 2 (.t 7),.ak 3 (.c (.int .i64 0))]) .ret)))⟩
def XI:dL:=⟨1,4,[.tmp 2],(.seq (.ops [.box 1 (.t 0),.ak 2 (.c .nY)]) (.seq (.ops [.Ef 3 236 [(.t 1)],.ak 2 (.t 3)]) .ret))⟩
def XJ:dL:=⟨2,31,[.tmp 4],(.seq (.ops [.box 2 (.t 0),.ak 4 (.c (.bool false))]) (.seq (.ops [.load 5 (some 2) (.t 2),.call 6 161 [(.t 5)],.bin 7 .eql (.t 6) (.c (.int .i64 0)),.ah 8 (.t 7),.grd 8 true (.ah 9 (.t 1)),.grd 8 true (.bin 10 .geq (.t 9) (.c (.int .i64 0))),.pick 11 (.t 8) (.t 10) (.c (.bool false)),.ah 12 (.t 11),.grd 12 true (.ah 13 (.t 1)),.grd 12 true (.au 14 (.t 2) 0),.grd 12 true (.load 15 none (.t 14)),.grd 12 true (.bin 16 .lss (.t 13) (.t 15)),.pick 17 (.t 12) (.t 16) (.c (.bool false)),.ah 18 (.t 17),.grd 18 true (.au 19 (.t 2) 1),.grd 18 true (.load 20 none (.t 19)),.grd 18 true (.ah 21 (.t 1)),.grd 18 true (.bin 22 .quo (.t 21) (.c (.int .i64 64))),.grd 18 true (.bG 23 1 (.t 20) (.t 22)),.grd 18 true (.load 24 none (.t 23)),.grd 18 true (.ah 25 (.t 1)),.grd 18 true (.bin 26 .rem (.t 25) (.c (.int .i64 64))),.grd 18 true (.bin 27 .shr (.t 24) (.t 26)),.grd 18 true (.bin 28 .and (.t 27) (.c (.int .u64 1))),.grd 18 true (.bin 29 .eql (.t 28) (.c (.int .u64 1))),.pick 30 (.t 18) (.t 29) (.c (.bool false)),.ak 4 (.t 30)]) .ret))⟩
def XK:dL:=⟨1,10,[.tmp 2,.tmp 3,.tmp 4],(.seq (.ops [.ak 2 (.c (.int .i64 0)),.ak 3 (.nil 1),.ak 4 (.c (.int .i64 0))]) (.seq (.ops [.ah 5 (.t 0),.call 6 237 [(.t 5),(.c (.func 238 []))],.ext 7 (.t 6) 0,.ext 8 (.t 6) 1,.ext 9 (.t 6) 2,.ak 2 (.t 7),.ak 3 (.t 8),.ak 4 (.t 9)]) .ret))⟩
def XL:dL:=⟨1,10,[.tmp 2,.tmp 3,.tmp 4],(.seq (.ops [.ak 2 (.nil 2),.ak 3 (.nil 1),.ak 4 (.c (.int .i64 0))]) (.seq (.ops [.ah 5 (.t 0),.call 6 239 [(.t 5),(.c (.func 240 []))],.ext 7 (.t 6) 0,.ext 8 (.t 6) 1,.ext 9 (.t 6) 2,.ak 2 (.t 7),.ak 3 (.t 8),.ak 4 (.t 9)]) .ret))⟩
def JZ:dL:=⟨2,9,[.tmp 4],(.seq (.ops [.ak 4 (.nil 2)]) (.seq (.ops [.ah 5 (.t 0),.ah 6 (.t 1),.call 7 214 [(.t 5),(.t 6),(.c (.func 243 []))],.call 8 213 [(.t 7)],.ak 4 (.t 8)]) .ret))⟩
def XM:aj:=(.seq (.ops [.bin 41 .lss (.t 40) (.t 39)]) (.seq (.cond (.t 41) .skip (.exit 0)) (.seq (.block 1 (.seq (.ops [.ah 42 (.t 40),.bG 43 1 (.t 38) (.t 40),.load 44 none (.t 43),.ak 3 (.t 42),.ak 4 (.t 44)]) (.seq (.ops [.ah 45 (.t 4),.bin 46 .lss (.t 45) (.c (.int .i64 0)),.ah 47 (.t 46),.grd 47 false (.ah 48 (.t 4)),.grd 47 false (.bin 49 .gtr (.t 48) (.c (.int .i64 4096))),.pick 50 (.t 47) (.c (.bool true)) (.t 49),.ah 51 (.t 50),.grd 51 false (.ah 52 (.t 4)),.grd 51 false (.bin 53 .gtr (.t 52) (.c (.int .i64 0))),.grd 51 false (.ah 54 (.t 53)),.grd 54 true (.au 55 (.t 1) 3),.grd 54 true (.load 56 (some 2) (.t 55)),.grd 54 true (.ah 57 (.t 3)),.grd 54 true (.call 58 177 [(.t 56),(.t 57)]),.grd 54 true (.un 59 .not (.t 58)),.grd 51 false (.pick 60 (.t 54) (.t 59) (.c (.bool false))),.pick 61 (.t 51) (.c (.bool true)) (.t 60)]) (.cond (.t 61) (.seq (.ops [.ak 2 (.c (.int .i64 3))]) .ret) .skip)))) (.ops [.bin 62 .add (.t 40) (.c (.int .i64 1)),.ah 40 (.t 62)]))))
def XO:aj :=
(.clean [1,38,39,40] [2] (.block 0 (.loop [1,38,39,40] XM)))
def XP:dL:=⟨1,63,[.tmp 2],(.seq (.ops [.box 1 (.t 0),.ak 2 (.c (.int .i64 0))]) (.seq (.seq (.qp [] [([0,1,2,3],4),([5,6,7,8,9,10,11,12,13],14),([15,16,17,18,19],20)] none [21,22,23,24,25,26,27,28,29,30,31] [.au 5 (.t 1) 0,.load 6 none (.t 5),.au 7 (.t 1) 1,.load 8 none (.t 7),.call 9 172 [(.t 6),(.t 8)],.un 10 .not (.t 9),.ah 11 (.t 10),.grd 11 false (.au 12 (.t 1) 2),.grd 11 false (.load 13 none (.t 12)),.grd 11 false (.len 14 (.t 13)),.grd 11 false (.au 15 (.t 1) 0),.grd 11 false (.load 16 none (.t 15)),.grd 11 false (.au 17 (.t 1) 1),.grd 11 false (.load 18 none (.t 17)),.grd 11 false (.call 19 173 [(.t 16),(.t 18)]),.grd 11 false (.bin 20 .neq (.t 14) (.t 19)),.pick 21 (.t 11) (.c (.bool true)) (.t 20),.ah 22 (.t 21),.grd 22 false (.au 23 (.t 1) 3),.grd 22 false (.load 24 (some 2) (.t 23)),.grd 22 false (.call 25 161 [(.t 24)]),.grd 22 false (.bin 26 .neq (.t 25) (.c (.int .i64 0))),.pick 27 (.t 22) (.c (.bool true)) (.t 26),.ah 28 (.t 27),.grd 28 false (.au 29 (.t 1) 3),.grd 28 false (.au 30 (.t 29) 0),.grd 28 false (.load 31 none (.t 30)),.grd 28 false (.au 32 (.t 1) 2),.grd 28 false (.load 33 none (.t 32)),.grd 28 false (.len 34 (.t 33)),.grd 28 false (.bin 35 .neq (.t 31) (.t 34)),.pick 36 (.t 28) (.c (.bool true)) (.t 35)]) (.cond (.t 36) (.seq (.ops [.ak 2 (.c (.int .i64 3))]) .ret) .skip)) (.seq (.seq (.ops [.au 37 (.t 1) 2,.load 38 none (.t 37),.len 39 (.t 38),.ah 40 (.c (.int .i64 0))])
   XO) (.seq (.ops [.ak 2 (.c (.int .i64 0))]) .ret))))⟩
def XQ:dL:=⟨2,9,[.tmp 4],(.seq (.ops [.ak 4 (.nil 1)]) (.seq (.ops [.ah 5 (.t 0),.call 6 245 [(.t 5)],.ah 7 (.t 1),.lin 8 244 (.t 6) [(.t 7)],.ak 4 (.t 8)]) .ret))⟩
def XR:dL:=⟨2,9,[.tmp 4],(.seq (.ops [.ak 4 (.nil 1)]) (.seq (.ops [.ah 5 (.t 0),.call 6 245 [(.t 5)],.ah 7 (.t 1),.lin 8 246 (.t 6) [(.t 7),(.c (.func 247 []))],.ak 4 (.t 8)]) .ret))⟩
def xw:aj:=(.seq (.seq (.ops [.ah 6 (.t 4),.load 7 none (.t 1),.len 8 (.t 7),.bin 9 .lss (.t 6) (.t 8)]) (.cond (.t 9) .skip (.exit 0))) (.seq (.block 1 (.seq (.qp [] [] none [0,1,2,3,4,5,6] [.load 13 none (.t 2),.load 14 none (.t 1),.ah 15 (.t 4),.FC 16 8 (.t 14) (some (.t 15)) none,.len 17 (.t 16),.mn 18 false (.t 13) (.t 17),.ak 5 (.t 18)]) (.seq (.ops [.ah 19 (.t 0),.load 20 none (.t 1),.ah 21 (.t 4),.ah 22 (.t 4),.ah 23 (.t 5),.bin 24 .add (.t 22) (.t 23),.ah 25 (.t 4),.ah 26 (.t 5),.bin 27 .add (.t 25) (.t 26),.sl4 28 8 (.t 20) (.t 21) (.t 24) (.t 27),.yield 29 (.t 19) [(.t 28)],.un 30 .not (.t 29)]) (.cond (.t 30) .ret .skip)))) (.ops [.ah 10 (.t 4),.load 11 none (.t 2),.bin 12 .add (.t 10) (.t 11),.ak 4 (.t 12)])))
def BJ:aj :=
(.clean [0,1,2,4] [] (.block 0 (.loop [0,1,2,4] xw)))
def J6:dL:=⟨3,31,[],(.seq (.ops [.ak 4 (.c (.int .i64 0))])
 BJ)⟩
def J7:aj:=(.ops [.ak 4 (.t 6)])
def J8:aj:=(.block 1 (.ops [.load 7 none (.t 3),.ah 8 (.t 4),.conv 9 .u64 (.t 8),.bin 10 .xor (.t 7) (.t 9),.bin 11 .mul (.t 10) (.c (.int .u64 1099511628211)),.store none 1 (.t 3) (.t 11)]))
def J9:dL:=⟨1,16,[.tmp 2],(.seq (.ops [.ak 2 (.c (.int .u64 0))]) (.seq (.ops [.alloc 3 [(.int .u64 0)],.store none 1 (.t 3) (.c (.int .u64 14695981039346656037))]) (.seq (.seq (.ops [.ah 5 (.t 0)]) (.block 0 (.rng (.t 5) [6] J7 J8))) (.seq (.ops [.load 12 none (.t 3),.load 13 none (.t 3),.bin 14 .shr (.t 13) (.c (.int .u64 32)),.bin 15 .xor (.t 12) (.t 14),.ak 2 (.t 15)]) .ret))))⟩
def BK:aj:=(.seq (.ops [.bin 15 .lss (.t 14) (.c (.int .i64 8))]) (.seq (.cond (.t 15) .skip (.exit 2)) (.seq (.block 3 (.seq (.ops [.idx 16 (.t 13) (.t 14) 8 1 none,.ak 6 (.t 16)]) (.seq (.ops [.ah 17 (.t 0),.ah 18 (.t 6),.yield 19 (.t 17) [(.t 18)],.un 20 .not (.t 19)]) (.cond (.t 20) .ret .skip)))) (.ops [.bin 21 .add (.t 14) (.c (.int .i64 1)),.ah 14 (.t 21)]))))
def BL:aj :=
(.clean [0,7,8,9,13,14] [0,7,8,9] (.block 2 (.loop [0,7,8,9,13,14] BK)))
def BM:aj:=(.seq (.ops [.bin 10 .lss (.t 9) (.t 8)]) (.seq (.cond (.t 10) .skip (.exit 0)) (.seq (.block 1 (.seq (.ops [.bG 11 8 (.t 7) (.t 9),.load 12 (some 8) (.t 11),.alloc 4 [(.int .u8 0),(.int .u8 0),(.int .u8 0),(.int .u8 0),(.int .u8 0),(.int .u8 0),(.int .u8 0),(.int .u8 0)],.store none 8 (.t 4) (.t 12)]) (.seq (.ops [.load 13 (some 8) (.t 4),.ah 14 (.c (.int .i64 0))])
    BL))) (.ops [.bin 22 .add (.t 9) (.c (.int .i64 1)),.ah 9 (.t 22)]))))
def BN:aj :=
(.clean [0,7,8,9] [] (.block 0 (.loop [0,7,8,9] BM)))
def Ko:dL:=⟨2,23,[],(.seq (.ops [.load 7 none (.t 1),.len 8 (.t 7),.ah 9 (.c (.int .i64 0))])
 BN)⟩
def xA:aj:=(.seq (.seq (.ops [.ah 7 (.t 6),.ah 8 (.t 0),.len 9 (.t 8),.bin 10 .lss (.t 7) (.t 9)]) (.cond (.t 10) .skip (.exit 0))) (.seq (.block 1 (.seq (.ops [.ah 13 (.t 6),.bin 14 .add (.t 13) (.c (.int .i64 1)),.ah 15 (.t 0),.len 16 (.t 15),.bin 17 .lss (.t 14) (.t 16)]) (.cond (.t 17) (.qp [] [([0,1,2,3,4,5,6,7,8,9,10],11),([],12)] (some ([],[],13,[])) [14] [.ah 18 (.t 5),.ah 19 (.t 1),.ah 20 (.t 0),.ah 21 (.t 6),.bG 22 1 (.t 20) (.t 21),.load 23 none (.t 22),.ah 24 (.t 0),.ah 25 (.t 6),.bin 26 .add (.t 25) (.c (.int .i64 1)),.bG 27 1 (.t 24) (.t 26),.load 28 none (.t 27),.jP 29 (.t 19) [(.t 23),(.t 28)],.eP 30 1 [(.t 29)],.app 31 1 (.t 18) (.t 30),.ak 5 (.t 31)]) (.ops [.ah 32 (.t 5),.ah 33 (.t 0),.ah 34 (.t 6),.bG 35 1 (.t 33) (.t 34),.load 36 none (.t 35),.eP 37 1 [(.t 36)],.app 38 1 (.t 32) (.t 37),.ak 5 (.t 38)])))) (.ops [.ah 11 (.t 6),.bin 12 .add (.t 11) (.c (.int .i64 2)),.ak 6 (.t 12)])))
def BO:aj :=
(.clean [0,1,5,6,31,38] [4,5] (.block 0 (.loop [0,1,5,6,31,38] xA)))
def Kq:dL:=⟨2,40,[.tmp 4],(.seq (.ops [.ak 4 (.nil 1)]) (.seq (.ops [.ak 5 (.nil 1)]) (.seq (.seq (.ops [.ak 6 (.c (.int .i64 0))])
   BO) (.seq (.ops [.ah 39 (.t 5),.ak 4 (.t 39)]) .ret))))⟩
def BP:aj:=(.seq (.ops [.bin 8 .lss (.t 7) (.c (.int .i64 8))]) (.seq (.cond (.t 8) .skip (.exit 0)) (.seq (.block 1 (.seq (.ops [.ah 9 (.t 7),.ak 6 (.t 9)]) (.qp [] [] (some ([0,3,4,5,6,7,13],[1,2,8,9,10,11,12],14,[([15],16)])) [] [.ah 10 (.t 6),.ah 13 (.t 0),.ah 14 (.t 6),.bin 15 .mul (.c (.int .i64 8)) (.t 14),.bin 16 .shr (.t 13) (.t 15),.conv 17 .u8 (.t 16),.rV 23 (.t 5) (.t 10) 16 1,.ah 11 (.t 6),.bin 12 .add (.c (.int .i64 8)) (.t 11),.ah 18 (.t 1),.ah 19 (.t 6),.bin 20 .mul (.c (.int .i64 8)) (.t 19),.bin 21 .shr (.t 18) (.t 20),.conv 22 .u8 (.t 21),.store none 1 (.t 23) (.t 17),.rV 24 (.t 5) (.t 12) 16 1,.store none 1 (.t 24) (.t 22)]))) (.ops [.bin 25 .add (.t 7) (.c (.int .i64 1)),.ah 7 (.t 25)]))))
def BQ:aj :=
(.clean [0,1,5,7] [4,5] (.block 0 (.loop [0,1,5,7] BP)))
def Kr:dL:=⟨2,28,[.tmp 4],(.seq (.ops [.ak 4 (.c (.int .u64 0))]) (.seq (.ops [.alloc 5 [(.int .u8 0),(.int .u8 0),(.int .u8 0),(.int .u8 0),(.int .u8 0),(.int .u8 0),(.int .u8 0),(.int .u8 0),(.int .u8 0),(.int .u8 0),(.int .u8 0),(.int .u8 0),(.int .u8 0),(.int .u8 0),(.int .u8 0),(.int .u8 0)]]) (.seq (.seq (.ops [.ah 7 (.c (.int .i64 0))])
   BQ) (.seq (.ops [.UN 26 16 (.t 5),.call 27 248 [(.t 26)],.ak 4 (.t 27)]) .ret))))⟩
def Kt:dL:=⟨2,11,[.tmp 4],(.seq (.ops [.ak 4 (.c (.int .i64 0))]) (.seq (.ops [.ah 5 (.t 0),.ah 6 (.t 1),.bin 7 .add (.t 5) (.t 6),.bin 8 .sub (.t 7) (.c (.int .i64 1)),.ah 9 (.t 1),.bin 10 .quo (.t 8) (.t 9),.ak 4 (.t 10)]) .ret))⟩
def BR:aj:=(.seq (.ops [.bin 18 .lss (.t 17) (.t 16)]) (.seq (.cond (.t 18) .skip (.exit 0)) (.seq (.block 1 (.seq (.ops [.ah 19 (.t 17),.bG 20 1 (.t 15) (.t 17),.load 21 none (.t 20),.ak 7 (.t 19),.ak 8 (.t 21)]) (.seq (.ops [.ah 22 (.t 1),.ah 23 (.t 7),.bG 24 1 (.t 22) (.t 23),.load 25 none (.t 24),.ak 9 (.t 25)]) (.seq (.ops [.ah 26 (.t 2),.ah 27 (.t 8),.ah 28 (.t 9),.jP 29 (.t 26) [(.t 27),(.t 28)],.un 30 .not (.t 29)]) (.cond (.t 30) (.seq (.ops [.ak 6 (.c (.bool false))]) .ret) .skip))))) (.ops [.bin 31 .add (.t 17) (.c (.int .i64 1)),.ah 17 (.t 31)]))))
def BU:aj :=
(.clean [0,1,2,15,16,17] [6] (.block 0 (.loop [0,1,2,15,16,17] BR)))
def Ku:dL:=⟨3,32,[.tmp 6],(.seq (.ops [.ak 6 (.c (.bool false))]) (.seq (.seq (.ops [.ah 10 (.t 0),.len 11 (.t 10),.ah 12 (.t 1),.len 13 (.t 12),.bin 14 .neq (.t 11) (.t 13)]) (.cond (.t 14) (.seq (.ops [.ak 6 (.c (.bool false))]) .ret) .skip)) (.seq (.seq (.ops [.ah 15 (.t 0),.len 16 (.t 15),.ah 17 (.c (.int .i64 0))])
   BU) (.seq (.ops [.ak 6 (.c (.bool true))]) .ret))))⟩
def BX:aj:=(.seq (.ops [.bin 14 .lss (.t 13) (.t 12)]) (.seq (.cond (.t 14) .skip (.exit 0)) (.seq (.block 1 (.seq (.ops [.ah 15 (.t 13),.ak 5 (.t 15)]) (.seq (.qp [] [] none [0,1,2,3,4,5,6,7,8] [.ah 16 (.t 0),.ah 17 (.t 5),.bG 18 1 (.t 16) (.t 17),.load 19 none (.t 18),.ah 20 (.t 1),.ah 21 (.t 5),.bG 22 1 (.t 20) (.t 21),.load 23 none (.t 22),.bin 24 .neq (.t 19) (.t 23)]) (.cond (.t 24) (.seq (.ops [.ak 4 (.c (.bool false))]) .ret) .skip)))) (.ops [.bin 25 .add (.t 13) (.c (.int .i64 1)),.ah 13 (.t 25)]))))
def BZ:aj :=
(.clean [0,1,12,13] [4] (.block 0 (.loop [0,1,12,13] BX)))
def Kv:dL:=⟨2,26,[.tmp 4],(.seq (.ops [.ak 4 (.c (.bool false))]) (.seq (.seq (.ops [.ah 6 (.t 0),.len 7 (.t 6),.ah 8 (.t 1),.len 9 (.t 8),.bin 10 .neq (.t 7) (.t 9)]) (.cond (.t 10) (.seq (.ops [.ak 4 (.c (.bool false))]) .ret) .skip)) (.seq (.seq (.ops [.ah 11 (.t 0),.len 12 (.t 11),.ah 13 (.c (.int .i64 0))])
   BZ) (.seq (.ops [.ak 4 (.c (.bool true))]) .ret))))⟩
def Cb:aj:=(.seq (.ops [.bin 14 .lss (.t 13) (.t 12)]) (.seq (.cond (.t 14) .skip (.exit 0)) (.seq (.block 1 (.seq (.ops [.ah 15 (.t 13),.ak 5 (.t 15)]) (.seq (.qp [] [] none [0,1,2,3,4,5,6,7,8] [.ah 16 (.t 0),.ah 17 (.t 5),.bG 18 1 (.t 16) (.t 17),.load 19 none (.t 18),.ah 20 (.t 1),.ah 21 (.t 5),.bG 22 1 (.t 20) (.t 21),.load 23 none (.t 22),.bin 24 .neq (.t 19) (.t 23)]) (.cond (.t 24) (.seq (.ops [.ak 4 (.c (.bool false))]) .ret) .skip)))) (.ops [.bin 25 .add (.t 13) (.c (.int .i64 1)),.ah 13 (.t 25)]))))
def Cc:aj :=
(.clean [0,1,12,13] [4] (.block 0 (.loop [0,1,12,13] Cb)))
def Kw:dL:=⟨2,26,[.tmp 4],(.seq (.ops [.ak 4 (.c (.bool false))]) (.seq (.seq (.ops [.ah 6 (.t 0),.len 7 (.t 6),.ah 8 (.t 1),.len 9 (.t 8),.bin 10 .neq (.t 7) (.t 9)]) (.cond (.t 10) (.seq (.ops [.ak 4 (.c (.bool false))]) .ret) .skip)) (.seq (.seq (.ops [.ah 11 (.t 0),.len 12 (.t 11),.ah 13 (.c (.int .i64 0))])
   Cc) (.seq (.ops [.ak 4 (.c (.bool true))]) .ret))))⟩
def EY:dL:=⟨1,16,[.tmp 2],(.seq (.ops [.ak 2 (.nil 1)]) (.seq (.drs [] [2,15] [.ah 3 (.t 0),.au 4 (.t 3) 0,.au 5 (.t 4) 0,.au 6 (.t 5) 0,.au 7 (.t 6) 2,.load 8 none (.t 7),.ah 9 (.t 0),.au 10 (.t 9) 0,.au 11 (.t 10) 0,.au 12 (.t 11) 4,.load 13 none (.t 12),.bG 14 1 (.t 8) (.t 13),.load 15 none (.t 14),.ak 2 (.t 15)]
  [⟨[([0,6],1),([2,3,4,5],7)],none,[8,9,10,11,12,13],[0,6,1,2,3,4,5,7,8,9,10,11,12,13],false⟩,⟨[([0,6],7),([8,9,10],1)],none,[2,3,4,5,11,12,13],[0,6,7,8,9,10,1,2,3,4,5,11,12,13],false⟩]) .ret))⟩
def Ce:dL:=⟨2,42,[.tmp 4],(.seq (.ops [.ak 4 (.nil 2)]) (.seq (.seq (.ops [.ah 6 (.t 0),.len 7 (.t 6),.ak 5 (.t 7)]) (.seq (.qp [] [] none [0,1,2,3,4,5,6,7,8,9,10,11,12,13,14,15,16,17,18] [.ah 8 (.t 5),.bin 9 .gtr (.t 8) (.c (.int .i64 0)),.ah 10 (.t 9),.grd 10 true (.ah 11 (.t 0)),.grd 10 true (.ah 12 (.t 5)),.grd 10 true (.bin 13 .sub (.t 12) (.c (.int .i64 1))),.grd 10 true (.bG 14 2 (.t 11) (.t 13)),.grd 10 true (.au 15 (.t 14) 0),.grd 10 true (.load 16 none (.t 15)),.grd 10 true (.ah 17 (.t 0)),.grd 10 true (.ah 18 (.t 5)),.grd 10 true (.bin 19 .sub (.t 18) (.c (.int .i64 1))),.grd 10 true (.bG 20 2 (.t 17) (.t 19)),.grd 10 true (.au 21 (.t 20) 1),.grd 10 true (.load 22 none (.t 21)),.grd 10 true (.bin 23 .add (.t 16) (.t 22)),.grd 10 true (.ah 24 (.t 1)),.grd 10 true (.bin 25 .eql (.t 23) (.t 24)),.pick 26 (.t 10) (.t 25) (.c (.bool false))]) (.cond (.t 26) (.seq (.ops [.ah 27 (.t 0),.ah 28 (.t 5),.bin 29 .sub (.t 28) (.c (.int .i64 1)),.bG 30 2 (.t 27) (.t 29),.au 31 (.t 30) 1,.load 32 none (.t 31),.bin 33 .add (.t 32) (.c (.int .i64 1)),.bG 34 2 (.t 27) (.t 29),.au 35 (.t 34) 1,.store none 1 (.t 35) (.t 33)]) (.seq (.ops [.ah 36 (.t 0),.ak 4 (.t 36)]) .ret)) .skip))) (.seq (.ops [.ah 37 (.t 0),.ah 38 (.t 1),.build 39 [(.int .i64 0),(.int .i64 0)] [(0,1,(.t 38)),(1,1,(.c (.int .i64 1)))],.eP 40 2 [(.t 39)],.app 41 2 (.t 37) (.t 40),.ak 4 (.t 41)]) .ret)))⟩
def xB:aj:=(.seq (.seq (.ops [.ah 6 (.t 4),.load 7 none (.t 1),.len 8 (.t 7),.bin 9 .lss (.t 6) (.t 8)]) (.cond (.t 9) .skip (.exit 0))) (.seq (.block 1 (.seq (.qp [] [] none [0,1,2,3,4,5,6] [.load 13 none (.t 2),.load 14 none (.t 1),.ah 15 (.t 4),.FC 16 1 (.t 14) (some (.t 15)) none,.len 17 (.t 16),.mn 18 false (.t 13) (.t 17),.ak 5 (.t 18)]) (.seq (.ops [.ah 19 (.t 0),.load 20 none (.t 1),.ah 21 (.t 4),.ah 22 (.t 4),.ah 23 (.t 5),.bin 24 .add (.t 22) (.t 23),.ah 25 (.t 4),.ah 26 (.t 5),.bin 27 .add (.t 25) (.t 26),.sl4 28 1 (.t 20) (.t 21) (.t 24) (.t 27),.yield 29 (.t 19) [(.t 28)],.un 30 .not (.t 29)]) (.cond (.t 30) .ret .skip)))) (.ops [.ah 10 (.t 4),.load 11 none (.t 2),.bin 12 .add (.t 10) (.t 11),.ak 4 (.t 12)])))
def Ci:aj :=
(.clean [0,1,2,4] [] (.block 0 (.loop [0,1,2,4] xB)))
def Ky:dL:=⟨3,31,[],(.seq (.ops [.ak 4 (.c (.int .i64 0))])
 Ci)⟩
def Cj:aj:=(.seq (.ops [.bin 15 .lss (.t 14) (.t 13)]) (.seq (.cond (.t 15) .skip (.exit 2)) (.seq (.block 3 (.seq (.ops [.ah 16 (.t 14),.ak 5 (.t 16)]) (.seq (.ops [.ah 17 (.t 0),.au 18 (.t 4) 0,.load 19 none (.t 18),.ah 20 (.t 5),.bin 21 .add (.t 19) (.t 20),.yield 22 (.t 17) [(.t 21)],.un 23 .not (.t 22)]) (.cond (.t 23) .ret .skip)))) (.ops [.bin 24 .add (.t 14) (.c (.int .i64 1)),.ah 14 (.t 24)]))))
def Cm:aj :=
(.clean [0,4,6,7,8,13,14] [0,6,7,8] (.block 2 (.loop [0,4,6,7,8,13,14] Cj)))
def CB:aj:=(.seq (.ops [.bin 9 .lss (.t 8) (.t 7)]) (.seq (.cond (.t 9) .skip (.exit 0)) (.seq (.block 1 (.seq (.ops [.bG 10 2 (.t 6) (.t 8),.load 11 (some 2) (.t 10),.alloc 4 [(.int .i64 0),(.int .i64 0)],.store none 2 (.t 4) (.t 11)]) (.seq (.ops [.au 12 (.t 4) 1,.load 13 none (.t 12),.ah 14 (.c (.int .i64 0))])
    Cm))) (.ops [.bin 25 .add (.t 8) (.c (.int .i64 1)),.ah 8 (.t 25)]))))
def CG:aj :=
(.clean [0,6,7,8] [] (.block 0 (.loop [0,6,7,8] CB)))
def Kz:dL:=⟨2,26,[],(.seq (.ops [.load 6 none (.t 1),.len 7 (.t 6),.ah 8 (.c (.int .i64 0))])
 CG)⟩
def XT:aj:=(.seq (.ops [.bin 11 .lss (.t 10) (.t 9)]) (.seq (.cond (.t 11) .skip (.exit 0)) (.seq (.block 1 (.seq (.ops [.ah 12 (.t 10),.bG 13 1 (.t 8) (.t 10),.load 14 none (.t 13),.ak 6 (.t 12),.ak 7 (.t 14)]) (.ops [.ah 15 (.t 5),.ah 16 (.t 1),.ah 17 (.t 6),.ah 18 (.t 7),.jP 19 (.t 16) [(.t 17),(.t 18)],.eP 20 1 [(.t 19)],.app 21 1 (.t 15) (.t 20),.ak 5 (.t 21)]))) (.ops [.bin 22 .add (.t 10) (.c (.int .i64 1)),.ah 10 (.t 22)]))))
def XU:aj :=
(.clean [0,1,5,8,9,10,21] [4,5] (.block 0 (.loop [0,1,5,8,9,10,21] XT)))
def XV:dL:=⟨2,24,[.tmp 4],(.seq (.ops [.ak 4 (.nil 1)]) (.seq (.ops [.ak 5 (.nil 1)]) (.seq (.seq (.ops [.ah 8 (.t 0),.len 9 (.t 8),.ah 10 (.c (.int .i64 0))])
   XU) (.seq (.ops [.ah 23 (.t 5),.ak 4 (.t 23)]) .ret))))⟩
def XW:dL:=⟨3,14,[.tmp 5],(.seq (.ops [.ak 5 (.c (.bool false))]) (.seq (.ops [.ah 6 (.t 1),.load 7 none (.t 2),.ah 8 (.t 0),.bG 9 1 (.t 7) (.t 8),.load 10 none (.t 9),.len 11 (.t 10),.call 12 106 [(.t 6),(.t 11)],.bin 13 .eql (.t 12) (.c (.int .i64 0)),.ak 5 (.t 13)]) .ret))⟩
def XY:dL:=⟨2,9,[.tmp 4],(.seq (.ops [.ak 4 (.c (.bool false))]) (.seq (.ops [.ah 5 (.t 0),.ah 6 (.t 1),.call 7 252 [(.t 5),(.t 6)],.bin 8 .geq (.t 7) (.c (.int .i64 0)),.ak 4 (.t 8)]) .ret))⟩
def XZ:aj:=(.seq (.ops [.bin 17 .lss (.t 16) (.t 15)]) (.seq (.cond (.t 17) .skip (.exit 2)) (.seq (.block 3 (.seq (.ops [.bG 18 2 (.t 14) (.t 16),.load 19 (some 2) (.t 18),.alloc 6 [(.int .i64 0),(.int .i64 0)],.store none 2 (.t 6) (.t 19)]) (.seq (.ops [.ah 20 (.t 0),.ah 21 (.t 3),.load 22 (some 2) (.t 6),.yield 23 (.t 20) [(.t 21),(.t 22)],.un 24 .not (.t 23)]) (.cond (.t 24) .ret .skip)))) (.ops [.bin 25 .add (.t 16) (.c (.int .i64 1)),.ah 16 (.t 25)]))))
def X0:aj :=
(.clean [0,3,4,7,8,9,13,14,15,16] [0,7,8,9] (.block 2 (.loop [0,3,4,7,8,9,13,14,15,16] XZ)))
def X3:aj:=(.seq (.ops [.bin 10 .lss (.t 9) (.t 8)]) (.seq (.cond (.t 10) .skip (.exit 0)) (.seq (.block 1 (.seq (.ops [.ah 11 (.t 9),.bG 12 1 (.t 7) (.t 9),.load 13 none (.t 12),.ak 3 (.t 11),.ak 4 (.t 13)]) (.seq (.ops [.ah 14 (.t 4),.len 15 (.t 14),.ah 16 (.c (.int .i64 0))])
    X0))) (.ops [.bin 26 .add (.t 9) (.c (.int .i64 1)),.ah 9 (.t 26)]))))
def X4:aj :=
(.clean [0,7,8,9] [] (.block 0 (.loop [0,7,8,9] X3)))
def X5:dL:=⟨2,27,[],(.seq (.ops [.load 7 none (.t 1),.len 8 (.t 7),.ah 9 (.c (.int .i64 0))])
 X4)⟩
def KA:dL:=⟨1,5,[.tmp 2],(.seq (.ops [.ak 2 (.nil 2)]) (.seq (.ops [.ah 3 (.t 0),.call 4 255 [(.c (.kE 2)),(.t 3)],.ak 2 (.t 4)]) .ret))⟩
def KC:dL:=⟨3,8,[.tmp 6],(.seq (.ops [.box 3 (.t 0),.box 4 (.t 1),.box 5 (.t 2),.ak 6 (.c .nY)]) (.seq (.ops [.Ef 7 256 [(.t 3),(.t 4),(.t 5)],.ak 6 (.t 7)]) .ret))⟩
def X6:dL:=⟨2,6,[.tmp 4],(.seq (.ops [.box 2 (.t 0),.box 3 (.t 1),.ak 4 (.c .nY)]) (.seq (.ops [.Ef 5 262 [(.t 2),(.t 3)],.ak 4 (.t 5)]) .ret))⟩
def X7:dL:=⟨1,7,[.tmp 2],(.seq (.ops [.ak 2 (.c (.int .i64 0))]) (.seq (.ops [.ah 3 (.t 0),.bin 4 .add (.t 3) (.c (.int .i64 64)),.bin 5 .sub (.t 4) (.c (.int .i64 1)),.bin 6 .quo (.t 5) (.c (.int .i64 64)),.ak 2 (.t 6)]) .ret))⟩
def X8:dL:=⟨2,9,[.tmp 4],(.seq (.ops [.ak 4 (.c (.bool false))]) (.seq (.ops [.ah 5 (.t 0),.ah 6 (.t 1),.call 7 266 [(.t 5),(.t 6)],.bin 8 .geq (.t 7) (.c (.int .i64 0)),.ak 4 (.t 8)]) .ret))⟩
def X9:dL:=⟨1,9,[.tmp 2],(.seq (.ops [.ak 2 (.c (.bool false))]) (.seq (.ops [.ah 3 (.t 0),.bin 4 .lss (.t 3) (.c (.int .i64 1)),.ah 5 (.t 4),.grd 5 false (.ah 6 (.t 0)),.grd 5 false (.bin 7 .gtr (.t 6) (.c (.int .i64 4096))),.pick 8 (.t 5) (.c (.bool true)) (.t 7),.ak 2 (.t 8)]) .ret))⟩
def Ya:aj:=(.seq (.ops [.bin 14 .lss (.t 13) (.t 12)]) (.seq (.cond (.t 14) .skip (.exit 0)) (.seq (.block 1 (.seq (.ops [.bG 15 1 (.t 11) (.t 13),.load 16 none (.t 15),.ak 7 (.t 16)]) (.ops [.ah 17 (.t 5),.ah 18 (.t 1),.ah 19 (.t 7),.jP 20 (.t 18) [(.t 19)],.eP 21 1 [(.t 20)],.app 22 1 (.t 17) (.t 21),.ak 5 (.t 22)]))) (.ops [.bin 23 .add (.t 13) (.c (.int .i64 1)),.ah 13 (.t 23)]))))
def Yb:aj :=
(.clean [0,1,5,10,11,12,13,22] [4,5] (.block 0 (.loop [0,1,5,10,11,12,13,22] Ya)))
def Yc:dL:=⟨2,25,[.tmp 4],(.seq (.ops [.ak 4 (.nil 1)]) (.seq (.ops [.ah 8 (.t 0),.len 9 (.t 8),.make 10 (.int .i64 0) (.c (.int .i64 0)) (.t 9),.ak 5 (.t 10)]) (.seq (.seq (.ops [.ah 11 (.t 0),.len 12 (.t 11),.ah 13 (.c (.int .i64 0))])
   Yb) (.seq (.ops [.ah 24 (.t 5),.ak 4 (.t 24)]) .ret))))⟩
def Yd:dL:=⟨1,5,[.tmp 2],(.seq (.ops [.ak 2 (.c (.int .i64 0))]) (.seq (.ops [.ah 3 (.t 0),.len 4 (.t 3),.ak 2 (.t 4)]) .ret))⟩
def Ye:dL:=⟨2,8,[.tmp 4],(.seq (.ops [.ak 4 (.c (.int .u64 0))]) (.seq (.ops [.ah 5 (.t 0),.ah 6 (.t 1),.bin 7 .or (.t 5) (.t 6),.ak 4 (.t 7)]) .ret))⟩
def Yf:aj:=(.seq (.ops [.bin 29 .lss (.t 28) (.t 27)]) (.seq (.cond (.t 29) .skip (.exit 0)) (.seq (.block 1 (.seq (.ops [.ah 30 (.t 28),.ak 10 (.t 30)]) (.qp [] [([0,1,2,3,4,5,6,7,8,9,10,11,12,13,14,15],16),([],17)] (some ([18],[],19,[])) [] [.ah 31 (.t 9),.ah 32 (.t 10),.au 33 (.t 3) 0,.load 34 none (.t 33),.ah 35 (.t 9),.ah 36 (.t 10),.bG 37 1 (.t 35) (.t 36),.load 38 none (.t 37),.ah 39 (.t 10),.au 40 (.t 5) 0,.load 41 none (.t 40),.au 42 (.t 5) 0,.load 43 none (.t 42),.au 44 (.t 5) 1,.load 45 none (.t 44),.bin 46 .add (.t 43) (.t 45),.call 47 263 [(.t 39),(.t 41),(.t 46)],.jP 48 (.t 34) [(.t 38),(.t 47)],.bG 49 1 (.t 31) (.t 32),.store none 1 (.t 49) (.t 48)]))) (.ops [.bin 50 .add (.t 28) (.c (.int .i64 1)),.ah 28 (.t 50)]))))
def Yg:aj :=
(.clean [3,4,5,6,9,25,27,28] [4,6,7,9] (.block 0 (.loop [3,4,5,6,9,25,27,28] Yf)))
def Yh:dL:=⟨3,55,[.cell 6 (some 2),.tmp 7],(.seq (.ops [.box 3 (.t 0),.box 4 (.t 1),.box 5 (.t 2),.alloc 6 [(.int .i64 0),(.list 1 [])],.ak 7 (.c (.int .i64 0))]) (.seq (.seq (.ops [.load 11 (some 2) (.t 4),.call 12 161 [(.t 11)],.ak 8 (.t 12)]) (.seq (.ops [.ah 13 (.t 8),.bin 14 .neq (.t 13) (.c (.int .i64 0))]) (.cond (.t 14) (.seq (.ops [.build 15 [(.int .i64 0),(.list 1 [])] [],.ah 16 (.t 8),.store none 2 (.t 6) (.t 15),.ak 7 (.t 16)]) .ret) .skip))) (.seq (.seq (.ops [.load 17 (some 2) (.t 5),.au 18 (.t 4) 0,.load 19 none (.t 18),.call 20 267 [(.t 17),(.t 19)],.un 21 .not (.t 20)]) (.cond (.t 21) (.seq (.ops [.build 22 [(.int .i64 0),(.list 1 [])] [],.store none 2 (.t 6) (.t 22),.ak 7 (.c (.int .i64 2))]) .ret) .skip)) (.seq (.ops [.au 23 (.t 4) 1,.load 24 none (.t 23),.call 25 120 [(.t 24)],.ak 9 (.t 25)]) (.seq (.seq (.ops [.ah 26 (.t 9),.len 27 (.t 26),.ah 28 (.c (.int .i64 0))])
    Yg) (.seq (.ops [.au 51 (.t 4) 0,.load 52 none (.t 51),.ah 53 (.t 9),.build 54 [(.int .i64 0),(.list 1 [])] [(0,1,(.t 52)),(1,1,(.t 53))],.store none 2 (.t 6) (.t 54),.ak 7 (.c (.int .i64 0))]) .ret))))))⟩
def Yi:dL:=⟨2,52,[.cell 4 (some 2),.tmp 5],(.seq (.ops [.box 2 (.t 0),.box 3 (.t 1),.alloc 4 [(.int .i64 0),(.int .i64 0)],.ak 5 (.c (.int .i64 0))]) (.seq (.seq (.ops [.au 7 (.t 3) 0,.load 8 none (.t 7),.bin 9 .lss (.t 8) (.c (.int .i64 0)),.ah 10 (.t 9),.grd 10 false (.au 11 (.t 3) 1),.grd 10 false (.load 12 none (.t 11)),.grd 10 false (.bin 13 .lss (.t 12) (.c (.int .i64 1))),.pick 14 (.t 10) (.c (.bool true)) (.t 13),.ah 15 (.t 14),.grd 15 false (.au 16 (.t 3) 0),.grd 15 false (.load 17 none (.t 16)),.grd 15 false (.au 18 (.t 2) 0),.grd 15 false (.load 19 none (.t 18)),.grd 15 false (.bin 20 .geq (.t 17) (.t 19)),.pick 21 (.t 15) (.c (.bool true)) (.t 20),.ah 22 (.t 21),.grd 22 false (.au 23 (.t 3) 1),.grd 22 false (.load 24 none (.t 23)),.grd 22 false (.au 25 (.t 2) 0),.grd 22 false (.load 26 none (.t 25)),.grd 22 false (.au 27 (.t 3) 0),.grd 22 false (.load 28 none (.t 27)),.grd 22 false (.bin 29 .sub (.t 26) (.t 28)),.grd 22 false (.bin 30 .gtr (.t 24) (.t 29)),.pick 31 (.t 22) (.c (.bool true)) (.t 30)]) (.cond (.t 31) (.seq (.ops [.build 32 [(.int .i64 0),(.int .i64 0)] [],.store none 2 (.t 4) (.t 32),.ak 5 (.c (.int .i64 2))]) .ret) .skip)) (.seq (.ops [.au 33 (.t 3) 0,.load 34 none (.t 33),.au 35 (.t 2) 1,.load 36 none (.t 35),.bin 37 .quo (.t 34) (.t 36),.ak 6 (.t 37)]) (.seq (.ops [.ah 38 (.t 6),.au 39 (.t 3) 0,.load 40 none (.t 39),.au 41 (.t 3) 1,.load 42 none (.t 41),.bin 43 .add (.t 40) (.t 42),.bin 44 .sub (.t 43) (.c (.int .i64 1)),.au 45 (.t 2) 1,.load 46 none (.t 45),.bin 47 .quo (.t 44) (.t 46),.ah 48 (.t 6),.bin 49 .sub (.t 47) (.t 48),.bin 50 .add (.t 49) (.c (.int .i64 1)),.build 51 [(.int .i64 0),(.int .i64 0)] [(0,1,(.t 38)),(1,1,(.t 50))],.store none 2 (.t 4) (.t 51),.ak 5 (.c (.int .i64 0))]) .ret))))⟩
def Yj:aj:=(.seq (.ops [.bin 7 .lss (.t 6) (.t 5)]) (.seq (.cond (.t 7) .skip (.exit 0)) (.seq (.block 1 (.seq (.ops [.ah 8 (.t 6),.ak 3 (.t 8)]) (.seq (.ops [.ah 9 (.t 0),.au 10 (.t 1) 0,.load 11 none (.t 10),.ah 12 (.t 3),.bin 13 .add (.t 11) (.t 12),.yield 14 (.t 9) [(.t 13)],.un 15 .not (.t 14)]) (.cond (.t 15) .ret .skip)))) (.ops [.bin 16 .add (.t 6) (.c (.int .i64 1)),.ah 6 (.t 16)]))))
def Yk:aj :=
(.clean [0,1,5,6] [] (.block 0 (.loop [0,1,5,6] Yj)))
def Yl:dL:=⟨2,17,[],(.seq (.ops [.au 4 (.t 1) 1,.load 5 none (.t 4),.ah 6 (.c (.int .i64 0))])
 Yk)⟩
def Ym:dL:=⟨2,30,[.tmp 4,.tmp 5,.tmp 6],(.seq (.ops [.ak 4 (.c (.int .i64 0)),.ak 5 (.nil 1),.ak 6 (.c (.int .i64 0))]) (.seq (.ops [.ah 11 (.t 0),.build 12 [(.list 0 [])] [(0,1,(.t 11))],.box 13 (.t 12),.ak 7 (.t 13)]) (.seq (.ops [.ah 15 (.t 1),.ah 16 (.t 7),.linv 17 (.t 15) (.t 16) [],.ah 14 (.t 17),.ext 18 (.t 14) 0,.ext 19 (.t 14) 1,.ak 8 (.t 18),.ak 9 (.t 19)]) (.seq (.seq (.ops [.ah 20 (.t 9),.bin 21 .neq (.t 20) (.c (.int .i64 0))]) (.cond (.t 21) (.seq (.ops [.ak 10 (.c (.int .i64 0))]) (.seq (.ops [.ah 22 (.t 10),.ah 23 (.t 9),.ak 4 (.t 22),.ak 5 (.nil 1),.ak 6 (.t 23)]) .ret)) .skip)) (.seq (.ops [.ah 24 (.t 8),.ah 25 (.t 7),.au 26 (.t 25) 0,.au 27 (.t 26) 0,.load 28 none (.t 27),.call 29 245 [(.t 28)],.ak 4 (.t 24),.ak 5 (.t 29),.ak 6 (.c (.int .i64 0))]) .ret)))))⟩
def Yn:aj:=(.seq (.ops [.bin 8 .lss (.t 7) (.c (.int .i64 8))]) (.seq (.cond (.t 8) .skip (.exit 0)) (.seq (.block 1 (.seq (.ops [.ah 9 (.t 7),.ak 5 (.t 9)]) (.seq (.seq (.ops [.ah 10 (.t 5),.ah 11 (.t 0),.au 12 (.t 11) 0,.au 13 (.t 12) 0,.load 14 none (.t 13),.len 15 (.t 14),.bin 16 .geq (.t 10) (.t 15)]) (.cond (.t 16) (.seq (.ops [.ak 2 (.c (.int .i64 0)),.ak 3 (.c (.int .i64 10))]) .ret) .skip)) (.seq (.ops [.ah 17 (.t 0),.au 18 (.t 17) 0,.au 19 (.t 18) 0,.load 20 none (.t 19),.ah 21 (.t 5),.bG 22 1 (.t 20) (.t 21),.load 23 none (.t 22),.ak 6 (.t 23)]) (.seq (.ops [.ah 24 (.t 4),.ah 25 (.t 6),.bin 26 .and (.t 25) (.c (.int .u8 127)),.conv 27 .i64 (.t 26),.ah 28 (.t 5),.bin 29 .mul (.c (.int .i64 7)) (.t 28),.bin 30 .shl (.t 27) (.t 29),.bin 31 .or (.t 24) (.t 30),.ak 4 (.t 31)]) (.seq (.seq (.ops [.ah 32 (.t 6),.bin 33 .and (.t 32) (.c (.int .u8 128)),.bin 34 .neq (.t 33) (.c (.int .u8 0))]) (.cond (.t 34) (.exit 1) .skip)) (.seq (.seq (.ops [.ah 35 (.t 6),.bin 36 .eql (.t 35) (.c (.int .u8 0)),.ah 37 (.t 36),.grd 37 true (.ah 38 (.t 5)),.grd 37 true (.bin 39 .gtr (.t 38) (.c (.int .i64 0))),.pick 40 (.t 37) (.t 39) (.c (.bool false)),.ah 41 (.t 40),.grd 41 false (.ah 42 (.t 4)),.grd 41 false (.bin 43 .gtr (.t 42) (.c (.int .i64 9007199254740991))),.pick 44 (.t 41) (.c (.bool true)) (.t 43)]) (.cond (.t 44) (.seq (.ops [.ak 2 (.c (.int .i64 0)),.ak 3 (.c (.int .i64 3))]) .ret) .skip)) (.seq (.ops [.ah 45 (.t 0),.ah 46 (.t 0),.au 47 (.t 46) 0,.au 48 (.t 47) 0,.load 49 none (.t 48),.ah 50 (.t 5),.bin 51 .add (.t 50) (.c (.int .i64 1)),.FC 52 1 (.t 49) (some (.t 51)) none,.au 53 (.t 45) 0,.au 54 (.t 53) 0,.store none 1 (.t 54) (.t 52)]) (.seq (.ops [.ah 55 (.t 4),.ak 2 (.t 55),.ak 3 (.c (.int .i64 0))]) .ret))))))))) (.ops [.bin 56 .add (.t 7) (.c (.int .i64 1)),.ah 7 (.t 56)]))))
def Yo:aj :=
(.clean [0,4,7] [2,3] (.block 0 (.loop [0,4,7] Yn)))
def Yp:dL:=⟨1,57,[.tmp 2,.tmp 3],(.seq (.ops [.ak 2 (.c (.int .i64 0)),.ak 3 (.c (.int .i64 0))]) (.seq (.ops [.ak 4 (.c (.int .i64 0))]) (.seq (.seq (.ops [.ah 7 (.c (.int .i64 0))])
   Yo) (.seq (.ops [.ak 2 (.c (.int .i64 0)),.ak 3 (.c (.int .i64 3))]) .ret))))⟩
def Yq:dL:=⟨2,30,[.tmp 4,.tmp 5,.tmp 6],(.seq (.ops [.ak 4 (.nil 2),.ak 5 (.nil 1),.ak 6 (.c (.int .i64 0))]) (.seq (.ops [.ah 11 (.t 0),.build 12 [(.list 0 [])] [(0,1,(.t 11))],.box 13 (.t 12),.ak 7 (.t 13)]) (.seq (.ops [.ah 15 (.t 1),.ah 16 (.t 7),.linv 17 (.t 15) (.t 16) [],.ah 14 (.t 17),.ext 18 (.t 14) 0,.ext 19 (.t 14) 1,.ak 8 (.t 18),.ak 9 (.t 19)]) (.seq (.seq (.ops [.ah 20 (.t 9),.bin 21 .neq (.t 20) (.c (.int .i64 0))]) (.cond (.t 21) (.seq (.ops [.ak 10 (.nil 2)]) (.seq (.ops [.ah 22 (.t 10),.ah 23 (.t 9),.ak 4 (.t 22),.ak 5 (.nil 1),.ak 6 (.t 23)]) .ret)) .skip)) (.seq (.ops [.ah 24 (.t 8),.ah 25 (.t 7),.au 26 (.t 25) 0,.au 27 (.t 26) 0,.load 28 none (.t 27),.call 29 245 [(.t 28)],.ak 4 (.t 24),.ak 5 (.t 29),.ak 6 (.c (.int .i64 0))]) .ret)))))⟩
def Yr:dL:=⟨1,8,[.tmp 2,.tmp 3],(.seq (.ops [.ak 2 (.nil 2),.ak 3 (.c (.int .i64 0))]) (.seq (.ops [.ah 4 (.t 0),.lin 5 241 (.t 4) [(.c (.func 242 []))],.ext 6 (.t 5) 0,.ext 7 (.t 5) 1,.ak 2 (.t 6),.ak 3 (.t 7)]) .ret))⟩
def Yt:aj:=(.seq (.ops [.bin 21 .lss (.t 20) (.t 19)]) (.seq (.cond (.t 21) .skip (.exit 0)) (.seq (.block 1 (.seq (.ops [.ah 23 (.t 1),.ah 24 (.t 0),.linv 25 (.t 23) (.t 24) [],.ah 22 (.t 25),.ext 26 (.t 22) 0,.ext 27 (.t 22) 1,.alloc 9 [(.int .i64 0),(.int .i64 0)],.store none 2 (.t 9) (.t 26),.ak 10 (.t 27)]) (.seq (.seq (.ops [.ah 28 (.t 10),.bin 29 .neq (.t 28) (.c (.int .i64 0))]) (.cond (.t 29) (.seq (.ops [.ah 30 (.t 10),.ak 4 (.nil 2),.ak 5 (.t 30)]) .ret) .skip)) (.ops [.ah 31 (.t 8),.load 32 (some 2) (.t 9),.eP 33 2 [(.t 32)],.app 34 2 (.t 31) (.t 33),.ak 8 (.t 34)])))) (.ops [.bin 35 .add (.t 20) (.c (.int .i64 1)),.ah 20 (.t 35)]))))
def Yu:aj :=
(.clean [0,1,8,19,20,34] [4,5,8] (.block 0 (.loop [0,1,8,19,20,34] Yt)))
def Yv:dL:=⟨2,37,[.tmp 4,.tmp 5],(.seq (.ops [.ak 4 (.nil 2),.ak 5 (.c (.int .i64 0))]) (.seq (.ops [.ah 12 (.t 0),.lin 13 268 (.t 12) [],.ah 11 (.t 13),.ext 14 (.t 11) 0,.ext 15 (.t 11) 1,.ak 6 (.t 14),.ak 7 (.t 15)]) (.seq (.seq (.ops [.ah 16 (.t 7),.bin 17 .neq (.t 16) (.c (.int .i64 0))]) (.cond (.t 17) (.seq (.ops [.ah 18 (.t 7),.ak 4 (.nil 2),.ak 5 (.t 18)]) .ret) .skip)) (.seq (.ops [.ak 8 (.nil 2)]) (.seq (.seq (.ops [.ah 19 (.t 6),.ah 20 (.c (.int .i64 0))])
    Yu) (.seq (.ops [.ah 36 (.t 8),.ak 4 (.t 36),.ak 5 (.c (.int .i64 0))]) .ret))))))⟩
def Yw:dL:=⟨1,17,[.cell 2 (some 2),.tmp 3],(.seq (.ops [.alloc 2 [(.int .i64 0),(.int .i64 0)],.ak 3 (.c (.int .i64 0))]) (.seq (.ops [.ah 8 (.t 0),.lin 9 269 (.t 8) [],.ah 7 (.t 9),.ext 10 (.t 7) 0,.ext 11 (.t 7) 1,.ext 12 (.t 7) 2,.ak 4 (.t 10),.ak 5 (.t 11),.ak 6 (.t 12)]) (.seq (.ops [.ah 13 (.t 4),.ah 14 (.t 5),.build 15 [(.int .i64 0),(.int .i64 0)] [(0,1,(.t 13)),(1,1,(.t 14))],.ah 16 (.t 6),.store none 2 (.t 2) (.t 15),.ak 3 (.t 16)]) .ret)))⟩
def KD:dL:=⟨2,9,[.tmp 4],(.seq (.ops [.ak 4 (.c (.bool false))]) (.seq (.ops [.ah 5 (.t 0),.ah 6 (.t 5),.grd 6 false (.ah 7 (.t 1)),.pick 8 (.t 6) (.c (.bool true)) (.t 7),.ak 4 (.t 8)]) .ret))⟩
def Yx:aj:=(.seq (.seq (.ops [.ah 11 (.t 1),.bin 12 .geq (.t 11) (.c (.int .i64 128))]) (.cond (.t 12) .skip (.exit 0))) (.seq (.block 1 (.ops [.ah 15 (.t 0),.ah 16 (.t 1),.bin 17 .rem (.t 16) (.c (.int .i64 128)),.conv 18 .u8 (.t 17),.bin 19 .or (.t 18) (.c (.int .u8 128)),.eP 20 1 [(.t 19)],.app 21 1 (.t 15) (.t 20),.ak 0 (.t 21)])) (.ops [.ah 13 (.t 1),.bin 14 .quo (.t 13) (.c (.int .i64 128)),.ak 1 (.t 14)])))
def Yy:aj :=
(.clean [0,1,21] [0,1,4] (.block 0 (.loop [0,1,21] Yx)))
def Yz:dL:=⟨2,27,[.tmp 4],(.seq (.ops [.ak 4 (.nil 1)]) (.seq (.seq (.ops [.ah 5 (.t 1),.bin 6 .lss (.t 5) (.c (.int .i64 0)),.ah 7 (.t 6),.grd 7 false (.ah 8 (.t 1)),.grd 7 false (.bin 9 .gtr (.t 8) (.c (.int .i64 9007199254740991))),.pick 10 (.t 7) (.c (.bool true)) (.t 9)]) (.cond (.t 10) (.ops [.ak 1 (.c (.int .i64 0))]) .skip)) (.seq
  Yy (.seq (.ops [.ah 22 (.t 0),.ah 23 (.t 1),.conv 24 .u8 (.t 23),.eP 25 1 [(.t 24)],.app 26 1 (.t 22) (.t 25),.ak 4 (.t 26)]) .ret))))⟩
def Qb:dL:=⟨1,8,[.tmp 2],(.seq (.ops [.ak 2 (.nil 1)]) (.seq (.seq (.ops [.ah 3 (.t 0),.LY 4 false (.t 3)]) (.cond (.t 4) (.seq (.ops [.ak 2 (.nil 1)]) .ret) .skip)) (.seq (.ops [.eP 5 1 [],.ah 6 (.t 0),.app 7 1 (.t 5) (.t 6),.ak 2 (.t 7)]) .ret)))⟩
def YA:aj:=(.seq (.ops [.bin 16 .lss (.t 15) (.t 14)]) (.seq (.cond (.t 16) .skip (.exit 0)) (.seq (.block 1 (.seq (.ops [.bG 17 2 (.t 13) (.t 15),.load 18 (some 2) (.t 17),.alloc 8 [(.int .i64 0),(.int .i64 0)],.store none 2 (.t 8) (.t 18)]) (.ops [.ah 19 (.t 2),.ah 20 (.t 0),.load 21 (some 2) (.t 8),.linv 22 (.t 19) (.t 20) [(.t 21)],.ak 0 (.t 22)]))) (.ops [.bin 23 .add (.t 15) (.c (.int .i64 1)),.ah 15 (.t 23)]))))
def YB:aj :=
(.clean [0,1,2,12,13,14,15,22] [0,6] (.block 0 (.loop [0,1,2,12,13,14,15,22] YA)))
def YC:dL:=⟨3,25,[.tmp 6],(.seq (.ops [.ak 6 (.nil 1)]) (.seq (.ops [.ah 9 (.t 0),.ah 10 (.t 1),.len 11 (.t 10),.lin 12 244 (.t 9) [(.t 11)],.ak 0 (.t 12)]) (.seq (.seq (.ops [.ah 13 (.t 1),.len 14 (.t 13),.ah 15 (.c (.int .i64 0))])
   YB) (.seq (.ops [.ah 24 (.t 0),.ak 6 (.t 24)]) .ret))))⟩
def YD:dL:=⟨2,12,[.tmp 4],(.seq (.ops [.box 3 (.t 1),.ak 4 (.nil 1)]) (.seq (.qp [(.t 3)] [] (some ([0,1,2],[4,5],3,[([],6)])) [7] [.ah 5 (.t 0),.au 6 (.t 3) 0,.load 7 none (.t 6),.au 9 (.t 3) 1,.Ie 10 none (.t 9),.lin 8 244 (.t 5) [(.t 7)],.lin 11 244 (.t 8) [(.t 10)],.ak 4 (.t 11)]) .ret))⟩
def KE:dL:=⟨1,5,[.tmp 2],(.seq (.ops [.box 1 (.t 0),.ak 2 (.c (.int .u64 0))]) (.seq (.ops [.Ef 3 270 [(.t 1)],.call 4 185 [(.t 3)],.ak 2 (.t 4)]) .ret))⟩
def YE:aj:=(.seq (.ops [.bin 9 .lss (.t 8) (.t 7)]) (.seq (.cond (.t 9) .skip (.exit 0)) (.seq (.block 1 (.seq (.ops [.ah 10 (.t 8),.ak 5 (.t 10)]) (.seq (.ops [.ah 11 (.t 1),.ah 12 (.t 0),.ah 13 (.t 5),.bG 14 1 (.t 12) (.t 13),.load 15 none (.t 14),.QF 16 false (.t 11) (.t 15)]) (.cond (.t 16) (.seq (.ops [.ah 17 (.t 5),.ak 4 (.t 17)]) .ret) .skip)))) (.ops [.bin 18 .add (.t 8) (.c (.int .i64 1)),.ah 8 (.t 18)]))))
def YF:aj :=
(.clean [0,1,7,8] [4] (.block 0 (.loop [0,1,7,8] YE)))
def YG:dL:=⟨2,19,[.tmp 4],(.seq (.ops [.ak 4 (.c (.int .i64 0))]) (.seq (.seq (.ops [.ah 6 (.t 0),.len 7 (.t 6),.ah 8 (.c (.int .i64 0))])
  YF) (.seq (.ops [.ak 4 (.c (.int .i64 (-1)))]) .ret)))⟩
def KF:aj:=(.ops [.alloc 5 [(.int .i64 0),(.int .i64 0)],.store none 2 (.t 5) (.t 7)])
def KG:aj:=(.block 1 (.ops [.load 8 none (.t 2),.load 9 (some 2) (.t 5),.eP 10 2 [(.t 9)],.app 11 2 (.t 8) (.t 10),.store none 1 (.t 2) (.t 11)]))
def KH:dL:=⟨2,13,[.tmp 4],(.seq (.ops [.box 2 (.t 0),.ak 4 (.nil 2)]) (.seq (.seq (.ops [.ah 6 (.t 1)]) (.block 0 (.rng (.t 6) [7] KF KG))) (.seq (.ops [.load 12 none (.t 2),.ak 4 (.t 12)]) .ret)))⟩
def mM:aj:=(.seq (.ops [.bin 19 .lss (.t 18) (.t 17)]) (.seq (.cond (.t 19) .skip (.exit 0)) (.seq (.block 1 (.seq (.ops [.ah 20 (.t 18),.bG 21 3 (.t 16) (.t 18),.load 22 (some 3) (.t 21),.alloc 10 [(.int .i64 0),(.int .i64 0),(.int .i64 0)],.ak 9 (.t 20),.store none 3 (.t 10) (.t 22)]) (.seq (.qp [] [] (some ([0,1,2,3,4,5,6,7],[],8,[])) [] [.au 23 (.t 10) 1,.load 24 none (.t 23),.rV 25 (.t 6) (.t 24) 2 1,.load 26 none (.t 25),.au 27 (.t 10) 2,.load 28 none (.t 27),.bin 29 .add (.t 26) (.t 28),.rV 30 (.t 6) (.t 24) 2 1,.store none 1 (.t 30) (.t 29)]) (.seq (.seq (.qp [] [] none [0,1,2,3,4,5,6,7,8,9,10,11,12,13,14,15] [.ah 31 (.t 9),.bin 32 .add (.t 31) (.c (.int .i64 1)),.ah 33 (.t 5),.len 34 (.t 33),.bin 35 .lss (.t 32) (.t 34),.ah 36 (.t 35),.grd 36 true (.ah 37 (.t 5)),.grd 36 true (.ah 38 (.t 9)),.grd 36 true (.bin 39 .add (.t 38) (.c (.int .i64 1))),.grd 36 true (.bG 40 3 (.t 37) (.t 39)),.grd 36 true (.au 41 (.t 40) 0),.grd 36 true (.load 42 none (.t 41)),.grd 36 true (.au 43 (.t 10) 0),.grd 36 true (.load 44 none (.t 43)),.grd 36 true (.bin 45 .eql (.t 42) (.t 44)),.pick 46 (.t 36) (.t 45) (.c (.bool false))]) (.cond (.t 46) (.exit 1) .skip)) (.seq (.ops [.load 47 none (.t 3),.rV 48 (.t 6) (.c (.int .i64 0)) 2 1,.load 49 none (.t 48),.bin 50 .gtr (.t 49) (.c (.int .i64 0)),.rV 51 (.t 6) (.c (.int .i64 1)) 2 1,.load 52 none (.t 51),.bin 53 .gtr (.t 52) (.c (.int .i64 0)),.jP 54 (.t 47) [(.t 50),(.t 53)],.ak 11 (.t 54)]) (.seq (.seq (.ops [.ah 55 (.t 11),.ah 56 (.t 55),.grd 56 true (.ah 57 (.t 8)),.grd 56 true (.un 58 .not (.t 57)),.pick 59 (.t 56) (.t 58) (.c (.bool false))]) (.cond (.t 59) (.ops [.au 60 (.t 10) 0,.load 61 none (.t 60),.ak 7 (.t 61)]) .skip)) (.seq (.seq (.ops [.ah 62 (.t 11),.un 63 .not (.t 62),.ah 64 (.t 63),.grd 64 true (.ah 65 (.t 8)),.pick 66 (.t 64) (.t 65) (.c (.bool false)),.ah 67 (.t 66),.grd 67 true (.ah 68 (.t 0)),.grd 67 true (.ah 69 (.t 7)),.grd 67 true (.au 70 (.t 10) 0),.grd 67 true (.load 71 none (.t 70)),.grd 67 true (.ah 72 (.t 7)),.grd 67 true (.bin 73 .sub (.t 71) (.t 72)),.grd 67 true (.build 74 [(.int .i64 0),(.int .i64 0)] [(0,1,(.t 69)),(1,1,(.t 73))]),.grd 67 true (.yield 75 (.t 68) [(.t 74)]),.grd 67 true (.un 76 .not (.t 75)),.pick 77 (.t 67) (.t 76) (.c (.bool false))]) (.cond (.t 77) .ret .skip)) (.ops [.ah 78 (.t 11),.ak 8 (.t 78)])))))))) (.ops [.bin 79 .add (.t 18) (.c (.int .i64 1)),.ah 18 (.t 79)]))))
def CJ:aj :=
(.clean [0,3,5,6,7,8,15,16,17,18] [] (.block 0 (.loop [0,3,5,6,7,8,15,16,17,18] mM)))
def KI:dL:=⟨4,80,[],(.seq (.ops [.load 12 none (.t 1),.load 13 none (.t 2),.eP 14 1 [(.t 12),(.t 13)],.call 15 257 [(.t 14)],.ak 5 (.t 15)]) (.seq (.ops [.alloc 6 [(.int .i64 0),(.int .i64 0)]]) (.seq (.ops [.ak 7 (.c (.int .i64 0)),.ak 8 (.c (.bool false))]) (.seq (.ops [.ah 16 (.t 5),.len 17 (.t 16),.ah 18 (.c (.int .i64 0))])
   CJ))))⟩
def xC:aj:=(.seq (.ops [.bin 21 .lss (.t 20) (.t 19)]) (.seq (.cond (.t 21) .skip (.exit 2)) (.seq (.block 3 (.seq (.ops [.bG 22 2 (.t 18) (.t 20),.load 23 (some 2) (.t 22),.alloc 7 [(.int .i64 0),(.int .i64 0)],.store none 2 (.t 7) (.t 23)]) (.seq (.ops [.load 25 (some 2) (.t 7),.call 26 273 [(.t 25)],.ah 24 (.t 26),.ext 27 (.t 24) 0,.ext 28 (.t 24) 1,.ext 29 (.t 24) 2,.ak 8 (.t 27),.ak 9 (.t 28),.ak 10 (.t 29)]) (.seq (.ops [.ah 30 (.t 10)]) (.cond (.t 30) (.ops [.ah 31 (.t 3),.ah 32 (.t 8),.ah 33 (.t 4),.build 34 [(.int .i64 0),(.int .i64 0),(.int .i64 0)] [(0,1,(.t 32)),(1,1,(.t 33)),(2,1,(.c (.int .i64 1)))],.ah 35 (.t 9),.ah 36 (.t 4),.build 37 [(.int .i64 0),(.int .i64 0),(.int .i64 0)] [(0,1,(.t 35)),(1,1,(.t 36)),(2,1,(.c (.int .i64 (-1))))],.eP 38 3 [(.t 34),(.t 37)],.app 39 3 (.t 31) (.t 38),.ak 3 (.t 39)]) .skip))))) (.ops [.bin 40 .add (.t 20) (.c (.int .i64 1)),.ah 20 (.t 40)]))))
def CO:aj :=
(.clean [0,3,4,5,11,12,13,17,18,19,20,39] [0,2,3,11,12,13,39] (.block 2 (.loop [0,3,4,5,11,12,13,17,18,19,20,39] xC)))
def CP:aj:=(.seq (.ops [.bin 14 .lss (.t 13) (.t 12)]) (.seq (.cond (.t 14) .skip (.exit 0)) (.seq (.block 1 (.seq (.ops [.ah 15 (.t 13),.bG 16 1 (.t 11) (.t 13),.load 17 none (.t 16),.ak 4 (.t 15),.ak 5 (.t 17)]) (.seq (.ops [.ah 18 (.t 5),.len 19 (.t 18),.ah 20 (.c (.int .i64 0))])
    CO))) (.ops [.bin 41 .add (.t 13) (.c (.int .i64 1)),.ah 13 (.t 41)]))))
def CQ:aj :=
(.clean [0,3,11,12,13,39] [2,3] (.block 0 (.loop [0,3,11,12,13,39] CP)))
def KJ:dL:=⟨1,45,[.tmp 2],(.seq (.ops [.ak 2 (.nil 3)]) (.seq (.ops [.ak 3 (.nil 3)]) (.seq (.seq (.ops [.ah 11 (.t 0),.len 12 (.t 11),.ah 13 (.c (.int .i64 0))])
   CQ) (.seq (.ops [.ah 42 (.t 3),.Dz 43 274 (.t 42) (.c (.func 275 []))]) (.seq (.ops [.ah 44 (.t 3),.ak 2 (.t 44)]) .ret)))))⟩
def YH:aj:=(.seq (.seq (.ops [.ah 24 (.t 5),.bin 25 .neq (.t 24) (.c (.int .u64 0))]) (.cond (.t 25) .skip (.exit 2))) (.block 3 (.seq (.seq (.ops [.ah 26 (.t 0),.ah 27 (.t 4),.bin 28 .mul (.t 27) (.c (.int .i64 64)),.ah 29 (.t 5),.call 30 264 [(.t 29)],.bin 31 .add (.t 28) (.t 30),.yield 32 (.t 26) [(.t 31)],.un 33 .not (.t 32)]) (.cond (.t 33) .ret .skip)) (.ops [.ah 34 (.t 5),.ah 35 (.t 5),.bin 36 .sub (.t 35) (.c (.int .u64 1)),.bin 37 .and (.t 34) (.t 36),.ak 5 (.t 37)]))))
def YI:aj :=
(.clean [0,1,2,4,5,10,11,12] [0,1,2,10,11,12] (.block 2 (.loop [0,1,2,4,5,10,11,12] YH)))
def YJ:aj:=(.seq (.ops [.bin 13 .lss (.t 12) (.t 11)]) (.seq (.cond (.t 13) .skip (.exit 0)) (.seq (.block 1 (.seq (.ops [.ah 14 (.t 12),.bG 15 1 (.t 10) (.t 12),.load 16 none (.t 15),.ak 4 (.t 14),.ak 5 (.t 16)]) (.seq (.ops [.ah 17 (.t 5),.ah 18 (.t 4),.load 19 none (.t 2),.au 20 (.t 1) 0,.load 21 none (.t 20),.call 22 263 [(.t 18),(.t 19),(.t 21)],.bin 23 .and (.t 17) (.t 22),.ak 5 (.t 23)])
    YI))) (.ops [.bin 38 .add (.t 12) (.c (.int .i64 1)),.ah 12 (.t 38)]))))
def YK:aj :=
(.clean [0,1,2,10,11,12] [] (.block 0 (.loop [0,1,2,10,11,12] YJ)))
def YL:dL:=⟨3,39,[],(.seq (.seq (.ops [.load 6 (some 2) (.t 1),.call 7 161 [(.t 6)],.bin 8 .neq (.t 7) (.c (.int .i64 0))]) (.cond (.t 8) .ret .skip)) (.seq (.ops [.au 9 (.t 1) 1,.load 10 none (.t 9),.len 11 (.t 10),.ah 12 (.c (.int .i64 0))])
  YK))⟩
def YM:dL:=⟨3,27,[.tmp 6],(.seq (.ops [.ak 6 (.c (.int .u64 0))]) (.seq (.ops [.ah 7 (.t 1),.ah 8 (.t 0),.bin 9 .mul (.t 8) (.c (.int .i64 64)),.bin 10 .sub (.t 7) (.t 9),.mn 11 true (.t 10) (.c (.int .i64 0)),.ah 12 (.t 2),.ah 13 (.t 0),.bin 14 .mul (.t 13) (.c (.int .i64 64)),.bin 15 .sub (.t 12) (.t 14),.mn 16 false (.t 15) (.c (.int .i64 64)),.ak 1 (.t 11),.ak 2 (.t 16)]) (.seq (.seq (.ops [.ah 17 (.t 1),.ah 18 (.t 2),.bin 19 .geq (.t 17) (.t 18)]) (.cond (.t 19) (.seq (.ops [.ak 6 (.c (.int .u64 0))]) .ret) .skip)) (.seq (.ops [.ah 20 (.t 2),.ah 21 (.t 1),.bin 22 .sub (.t 20) (.t 21),.bin 23 .sub (.c (.int .i64 64)) (.t 22),.bin 24 .shr (.c (.int .u64 18446744073709551615)) (.t 23),.ah 25 (.t 1),.bin 26 .shl (.t 24) (.t 25),.ak 6 (.t 26)]) .ret))))⟩
def YN:aj:=(.seq (.ops [.bin 9 .lss (.t 8) (.t 7)]) (.seq (.cond (.t 9) .skip (.exit 0)) (.seq (.block 1 (.seq (.ops [.ah 10 (.t 8),.ak 5 (.t 10)]) (.seq (.ops [.ah 11 (.t 1),.ah 12 (.t 0),.ah 13 (.t 5),.bG 14 1 (.t 12) (.t 13),.load 15 none (.t 14),.jP 16 (.t 11) [(.t 15)]]) (.cond (.t 16) (.seq (.ops [.ah 17 (.t 5),.ak 4 (.t 17)]) .ret) .skip)))) (.ops [.bin 18 .add (.t 8) (.c (.int .i64 1)),.ah 8 (.t 18)]))))
def YO:aj :=
(.clean [0,1,7,8] [4] (.block 0 (.loop [0,1,7,8] YN)))
def YP:dL:=⟨2,19,[.tmp 4],(.seq (.ops [.ak 4 (.c (.int .i64 0))]) (.seq (.seq (.ops [.ah 6 (.t 0),.len 7 (.t 6),.ah 8 (.c (.int .i64 0))])
  YO) (.seq (.ops [.ak 4 (.c (.int .i64 (-1)))]) .ret)))⟩
def YQ:dL:=⟨2,28,[.tmp 4],(.seq (.ops [.box 2 (.t 0),.ak 4 (.c (.bool false))]) (.seq (.ops [.au 5 (.t 2) 0,.load 6 none (.t 5),.bin 7 .geq (.t 6) (.c (.int .i64 0)),.ah 8 (.t 7),.grd 8 true (.au 9 (.t 2) 1),.grd 8 true (.load 10 none (.t 9)),.grd 8 true (.bin 11 .geq (.t 10) (.c (.int .i64 0))),.pick 12 (.t 8) (.t 11) (.c (.bool false)),.ah 13 (.t 12),.grd 13 true (.au 14 (.t 2) 0),.grd 13 true (.load 15 none (.t 14)),.grd 13 true (.ah 16 (.t 1)),.grd 13 true (.bin 17 .leq (.t 15) (.t 16)),.pick 18 (.t 13) (.t 17) (.c (.bool false)),.ah 19 (.t 18),.grd 19 true (.au 20 (.t 2) 1),.grd 19 true (.load 21 none (.t 20)),.grd 19 true (.ah 22 (.t 1)),.grd 19 true (.au 23 (.t 2) 0),.grd 19 true (.load 24 none (.t 23)),.grd 19 true (.bin 25 .sub (.t 22) (.t 24)),.grd 19 true (.bin 26 .leq (.t 21) (.t 25)),.pick 27 (.t 19) (.t 26) (.c (.bool false)),.ak 4 (.t 27)]) .ret))⟩
def YR:dL:=⟨1,19,[.tmp 2,.tmp 3],(.seq (.ops [.ak 2 (.c (.int .i64 0)),.ak 3 (.c (.int .i64 0))]) (.seq (.ops [.ah 7 (.t 0),.lin 8 238 (.t 7) [],.ah 6 (.t 8),.ext 9 (.t 6) 0,.ext 10 (.t 6) 1,.ak 4 (.t 9),.ak 5 (.t 10)]) (.seq (.seq (.ops [.ah 11 (.t 5),.bin 12 .eql (.t 11) (.c (.int .i64 0)),.ah 13 (.t 12),.grd 13 true (.ah 14 (.t 4)),.grd 13 true (.bin 15 .gtr (.t 14) (.c (.int .i64 65536))),.pick 16 (.t 13) (.t 15) (.c (.bool false))]) (.cond (.t 16) (.ops [.ak 5 (.c (.int .i64 5))]) .skip)) (.seq (.ops [.ah 17 (.t 4),.ah 18 (.t 5),.ak 2 (.t 17),.ak 3 (.t 18)]) .ret))))⟩
def YS:dL:=⟨1,24,[.tmp 2,.tmp 3,.tmp 4],(.seq (.ops [.ak 2 (.c (.int .i64 0)),.ak 3 (.c (.int .i64 0)),.ak 4 (.c (.int .i64 0))]) (.seq (.ops [.ah 9 (.t 0),.lin 10 238 (.t 9) [],.ah 8 (.t 10),.ext 11 (.t 8) 0,.ext 12 (.t 8) 1,.ak 5 (.t 11),.ak 6 (.t 12)]) (.seq (.seq (.ops [.ah 13 (.t 6),.bin 14 .neq (.t 13) (.c (.int .i64 0))]) (.cond (.t 14) (.seq (.ops [.ah 15 (.t 6),.ak 2 (.c (.int .i64 0)),.ak 3 (.c (.int .i64 0)),.ak 4 (.t 15)]) .ret) .skip)) (.seq (.ops [.ah 17 (.t 0),.lin 18 238 (.t 17) [],.ah 16 (.t 18),.ext 19 (.t 16) 0,.ext 20 (.t 16) 1,.ak 7 (.t 19),.ak 6 (.t 20)]) (.seq (.ops [.ah 21 (.t 5),.ah 22 (.t 7),.ah 23 (.t 6),.ak 2 (.t 21),.ak 3 (.t 22),.ak 4 (.t 23)]) .ret)))))⟩
def CU:aj:=(.seq (.ops [.bin 8 .lss (.t 7) (.t 6)]) (.seq (.cond (.t 8) .skip (.exit 0)) (.seq (.block 1 (.seq (.ops [.bG 9 1 (.t 5) (.t 7),.load 10 none (.t 9),.ak 4 (.t 10)]) (.seq (.ops [.ah 11 (.t 0),.ah 12 (.t 4),.yield 13 (.t 11) [(.t 12)],.un 14 .not (.t 13)]) (.cond (.t 14) .ret .skip)))) (.ops [.bin 15 .add (.t 7) (.c (.int .i64 1)),.ah 7 (.t 15)]))))
def CV:aj :=
(.clean [0,5,6,7] [] (.block 0 (.loop [0,5,6,7] CU)))
def KL:dL:=⟨2,16,[],(.seq (.ops [.load 5 none (.t 1),.len 6 (.t 5),.ah 7 (.c (.int .i64 0))])
 CV)⟩
def zo:dL:=⟨1,35,[.tmp 2,.tmp 3,.tmp 4],(.seq (.ops [.box 1 (.t 0),.ak 2 (.c (.int .i64 0)),.ak 3 (.c (.int .i64 0)),.ak 4 (.c (.bool false))]) (.seq (.seq (.ops [.au 7 (.t 1) 1,.load 8 none (.t 7),.bin 9 .leq (.t 8) (.c (.int .i64 0))]) (.cond (.t 9) (.seq (.ops [.ak 2 (.c (.int .i64 0)),.ak 3 (.c (.int .i64 0)),.ak 4 (.c (.bool false))]) .ret) .skip)) (.seq (.ops [.au 10 (.t 1) 0,.load 11 none (.t 10),.mn 12 true (.t 11) (.c (.int .i64 0)),.ak 5 (.t 12),.ak 6 (.c (.int .i64 4096))]) (.seq (.seq (.ops [.au 13 (.t 1) 0,.load 14 none (.t 13),.bin 15 .lss (.t 14) (.c (.int .i64 0)),.ah 16 (.t 15),.grd 16 false (.au 17 (.t 1) 1),.grd 16 false (.load 18 none (.t 17)),.grd 16 false (.au 19 (.t 1) 0),.grd 16 false (.load 20 none (.t 19)),.grd 16 false (.bin 21 .sub (.c (.int .i64 4096)) (.t 20)),.grd 16 false (.bin 22 .lss (.t 18) (.t 21)),.pick 23 (.t 16) (.c (.bool true)) (.t 22)]) (.cond (.t 23) (.ops [.au 24 (.t 1) 0,.load 25 none (.t 24),.au 26 (.t 1) 1,.load 27 none (.t 26),.bin 28 .add (.t 25) (.t 27),.mn 29 false (.t 28) (.c (.int .i64 4096)),.ak 6 (.t 29)]) .skip)) (.seq (.ops [.ah 30 (.t 5),.ah 31 (.t 6),.ah 32 (.t 5),.ah 33 (.t 6),.bin 34 .lss (.t 32) (.t 33),.ak 2 (.t 30),.ak 3 (.t 31),.ak 4 (.t 34)]) .ret)))))⟩
def YT:dL:=⟨2,10,[.tmp 4],(.seq (.ops [.box 2 (.t 0),.box 3 (.t 1),.ak 4 (.c (.int .i64 0))]) (.seq (.ops [.au 5 (.t 2) 0,.load 6 none (.t 5),.au 7 (.t 3) 0,.load 8 none (.t 7),.call 9 276 [(.t 6),(.t 8)],.ak 4 (.t 9)]) .ret))⟩
def YU:dL:=⟨2,20,[.tmp 4],(.seq (.ops [.ak 4 (.c (.int .i64 0))]) (.seq (.ops [.ah 7 (.t 0),.call 8 281 [(.t 7)],.ak 5 (.t 8)]) (.seq (.ops [.ah 9 (.t 1),.call 10 281 [(.t 9)],.ak 6 (.t 10)]) (.seq (.seq (.ops [.ah 11 (.t 5)]) (.cond (.t 11) (.seq (.seq (.ops [.ah 12 (.t 6)]) (.cond (.t 12) (.seq (.ops [.ak 4 (.c (.int .i64 0))]) .ret) .skip)) (.seq (.ops [.ak 4 (.c (.int .i64 (-1)))]) .ret)) .skip)) (.seq (.seq (.ops [.ah 13 (.t 6)]) (.cond (.t 13) (.seq (.ops [.ak 4 (.c (.int .i64 1))]) .ret) .skip)) (.seq (.seq (.ops [.ah 14 (.t 0),.ah 15 (.t 1),.bin 16 .lss (.t 14) (.t 15)]) (.cond (.t 16) (.seq (.ops [.ak 4 (.c (.int .i64 (-1)))]) .ret) .skip)) (.seq (.seq (.ops [.ah 17 (.t 0),.ah 18 (.t 1),.bin 19 .gtr (.t 17) (.t 18)]) (.cond (.t 19) (.seq (.ops [.ak 4 (.c (.int .i64 1))]) .ret) .skip)) (.seq (.ops [.ak 4 (.c (.int .i64 0))]) .ret))))))))⟩
def YV:dL:=⟨1,6,[.tmp 2],(.seq (.ops [.ak 2 (.c (.bool false))]) (.seq (.ops [.ah 3 (.t 0),.ah 4 (.t 0),.bin 5 .neq (.t 3) (.t 4),.ak 2 (.t 5)]) .ret))⟩
def tab:List (Nat×UO):=[(4,.code fn4),(24,.code WZ),(25,.code W9),(26,.code Xa),(27,.code Xb),(28,.code Xc),(29,.code Xd),(30,.code JM),(31,.code Xe),(32,.code Xf),(43,.code aed),(76,.code aee),(87,.code aef),(88,.code aeg),(89,.code aeh),(90,.code aei),(91,.code Xg),(92,.code Xh),(93,.code Xi),(94,.code Xj),(95,.code Xk),(96,.code Xl),(97,.code TM),(98,.code Xm),(99,.code Xn),(100,.code JO),(101,.code JQ),(102,.code JR),(103,.code JU),(104,.code JV),(105,.code JW),(106,.code BG),(107,.ext (jh 1)),(108,.code JX),(109,.code JY),(116,.code Xq),(120,.ext (jh 1)),(131,.code Xr),(132,.code Xt),(133,.ext (jh 8)),(154,.code Xw),(161,.code Xx),(165,.code Xy),(166,.code Xz),(169,.code XA),(170,.code XB),(172,.code XC),(173,.code XD),(174,.code XG),(175,.code XH),(176,.code XI),(177,.code XJ),(178,.code XK),(179,.code XL),(180,.code JZ),(181,.code XP),(182,.code XQ),(183,.code XR),(184,.code J6),(185,.code J9),(186,.code Ko),(187,.code Kq),(188,.code Kr),(189,.code Kt),(190,.code Ku),(191,.code Kv),(192,.code Kw),(193,.code EY),(194,.code Ce),(195,.code Ky),(196,.code Kz),(206,.code XV),(207,.code XW),(208,.code XY),(209,.code X5),(213,.code KA),(214,.code KC),(219,.code X6),(222,.code X7),(223,.code X8),(227,.code X9),(228,.code Yc),(229,.code Yd),(233,.code Ye),(234,.code Yh),(235,.code Yi),(236,.code Yl),(237,.code Ym),(238,.code Yp),(239,.code Yq),(240,.code Yr),(241,.code Yv),(242,.code Yw),(243,.code KD),(244,.code Yz),(245,.ext (jh 1)),(246,.code YC),(247,.code YD),(248,.code KE),(252,.code YG),(255,.code KH),(256,.code KI),(257,.code KJ),(262,.code YL),(263,.code YM),(264,.ext tzX),(266,.code YP),(267,.code YQ),(268,.code YR),(269,.code YS),(270,.code KL),(273,.code zo),(274,.Dz (kR 275)),(275,.code YT),(276,.code YU),(281,.code YV)]
def env:Env:=fun f=>tab.lookup f
theorem YW:env 4=some (.code fn4):=rfl
theorem agJ:env 24=some (.code WZ):=rfl
theorem agK:env 25=some (.code W9):=rfl
theorem agL:env 26=some (.code Xa):=rfl
theorem agM:env 27=some (.code Xb):=rfl
theorem agN:env 28=some (.code Xc):=rfl
theorem agO:env 29=some (.code Xd):=rfl
theorem Qc:env 30=some (.code JM):=rfl
theorem agP:env 31=some (.code Xe):=rfl
theorem agQ:env 32=some (.code Xf):=rfl
theorem agR:env 91=some (.code Xg):=rfl
theorem agS:env 92=some (.code Xh):=rfl
theorem agT:env 93=some (.code Xi):=rfl
theorem agU:env 94=some (.code Xj):=rfl
theorem agV:env 95=some (.code Xk):=rfl
theorem agW:env 96=some (.code Xl):=rfl
theorem ac5:env 97=some (.code TM):=rfl
theorem agX:env 98=some (.code Xm):=rfl
theorem agY:env 99=some (.code Xn):=rfl
theorem aej:env 100=some (.code JO):=rfl
theorem aek:env 101=some (.code JQ):=rfl
theorem ael:env 102=some (.code JR):=rfl
theorem aem:env 103=some (.code JU):=rfl
theorem aen:env 104=some (.code JV):=rfl
theorem aeo:env 105=some (.code JW):=rfl
theorem OI:env 106=some (.code BG):=rfl
theorem aep:env 107=some (.ext (jh 1)):=rfl
theorem aer:env 108=some (.code JX):=rfl
theorem aes:env 109=some (.code JY):=rfl
theorem aeu:env 120=some (.ext (jh 1)):=rfl
theorem aev:env 180=some (.code JZ):=rfl
theorem aew:env 184=some (.code J6):=rfl
theorem aex:env 185=some (.code J9):=rfl
theorem aey:env 186=some (.code Ko):=rfl
theorem aez:env 187=some (.code Kq):=rfl
theorem aeA:env 188=some (.code Kr):=rfl
theorem aeB:env 189=some (.code Kt):=rfl
theorem aeC:env 190=some (.code Ku):=rfl
theorem aeD:env 191=some (.code Kv):=rfl
theorem aeE:env 192=some (.code Kw):=rfl
theorem YX:env 193=some (.code EY):=rfl
theorem OJ:env 194=some (.code Ce):=rfl
theorem aeF:env 195=some (.code Ky):=rfl
theorem aeG:env 196=some (.code Kz):=rfl
theorem aeH:env 213=some (.code KA):=rfl
theorem aeI:env 214=some (.code KC):=rfl
theorem aeJ:env 243=some (.code KD):=rfl
theorem aeK:env 248=some (.code KE):=rfl
theorem aeL:env 255=some (.code KH):=rfl
theorem aeM:env 256=some (.code KI):=rfl
theorem aeN:env 257=some (.code KJ):=rfl
theorem aeO:env 270=some (.code KL):=rfl
theorem Hl:env 273=some (.code zo):=rfl
theorem YZ:env 274=some (.Dz (kR 275)):=rfl
end Go.Proofs.YthccglceomoboaaGreatDoor
namespace Go.Proofs.YthccglceomoboaaGreatDoor
open V
def lU:=(Zs (Zs (Zs (Zs (Zs (Zs (Zs (Zs (Zs @Js @VW) (Zs @VX @aaR)) (Zs (Zs @Jt @Ju) (Zs @VU @Gv))) (Zs (Zs (Zs @V3 @aaM) (Zs @NP @NQ)) (Zs (Zs @Jo @Jp) (Zs @aaN @Gu)))) (Zs (Zs (Zs (Zs @Jq @RQ) (Zs @RS @bT)) (Zs (Zs @List.foldl_nil.{0,0} @List.foldl_cons.{0,0}) (Zs @aaJ @aaK))) (Zs (Zs (Zs @aaO @aaP) (Zs @VP @EP)) (Zs (Zs @VR @aaQ) (Zs @Jr @RV))))) (Zs (Zs (Zs (Zs (Zs @VT @zF) (Zs @Gw @D5)) (Zs (Zs @Jy @V4) (Zs @RY @NS))) (Zs (Zs (Zs @aaS @NM) (Zs @zn @Jz)) (Zs (Zs @NW @JA) (Zs @NY @dY.eq_1)))) (Zs (Zs (Zs (Zs @dY.eq_2 @dY.eq_3) (Zs @resultList.eq_1 @resultList.eq_2)) (Zs (Zs @mD.eq_1 @mD.eq_2) (Zs @mD.eq_3 @zBV.eq_1))) (Zs (Zs (Zs @zBV.eq_2 @splice.eq_1) (Zs @PV.qN.eq_1 @PV.qN.eq_2)) (Zs (Zs @PV.qN.eq_3 @PV.qN.eq_4) (Zs @St.gJ.eq_1 (Zs @St.aP.eq_1 @St.dX.eq_1))))))) (Zs (Zs (Zs (Zs (Zs (Zs @St.dX.eq_2 @PV.single.eq_1) (Zs @PV.single.eq_2 @V6)) (Zs (Zs @Sj @aaZ) (Zs @V7 @V9))) (Zs (Zs (Zs @Sr @Wh) (Zs @Sv @aa1)) (Zs (Zs @Wj @aa2) (Zs @Wn @Wp)))) (Zs (Zs (Zs (Zs @aa3 @aa4) (Zs @aa5 @aa6)) (Zs (Zs @aa7 @bT) (Zs @aa8 @bT))) (Zs (Zs (Zs @bT @aa9) (Zs @abb @bT)) (Zs (Zs @abm @abh) (Zs @abf (Zs @abd @bT)))))) (Zs (Zs (Zs (Zs (Zs @bT @abk) (Zs @ad5 @Wq)) (Zs (Zs @Ws @Wu) (Zs @Wv @Wx))) (Zs (Zs (Zs @bT @abr) (Zs @abt @abu)) (Zs (Zs @bT @abv) (Zs @Sz @ad6)))) (Zs (Zs (Zs (Zs @abw @SA) (Zs @abx @SB)) (Zs (Zs @Wy @WA) (Zs @aby @bT))) (Zs (Zs (Zs @bT @bT) (Zs @abz @abA)) (Zs (Zs @ad7 @bT) (Zs @bT (Zs @SC @abB)))))))) (Zs (Zs (Zs (Zs (Zs (Zs (Zs @abC @abD) (Zs @abE @abG)) (Zs (Zs @bT @abp) (Zs @bT @bT))) (Zs (Zs (Zs @abq @abn) (Zs @bT @abo)) (Zs (Zs @abj @abg) (Zs @abe @bT)))) (Zs (Zs (Zs (Zs @bT @abl) (Zs @ad8 @WB)) (Zs (Zs @WC @WE) (Zs @WG @WH))) (Zs (Zs (Zs @bT @abH) (Zs @abI @abJ)) (Zs (Zs @bT @abK) (Zs @SE (Zs @ad9 @abL)))))) (Zs (Zs (Zs (Zs (Zs @SG @abM) (Zs @SH @WI)) (Zs (Zs @WJ @abN) (Zs @bT @bT))) (Zs (Zs (Zs @bT @abO) (Zs @abP @aea)) (Zs (Zs @bT @bT) (Zs @SI @plain.eq_1)))) (Zs (Zs (Zs (Zs @plain.eq_2 @plain.eq_3) (Zs @plain.eq_4 @plain.eq_5)) (Zs (Zs @plain.eq_6 @plain.eq_7) (Zs @plain.eq_8 @plain.eq_9))) (Zs (Zs (Zs @plain.eq_10 @plain.eq_11) (Zs @plain.eq_12 @plain.eq_13)) (Zs (Zs @plain.eq_14 @plain.eq_15) (Zs @plain.eq_16 (Zs @plain.eq_17 @plain.eq_18))))))) (Zs (Zs (Zs (Zs (Zs (Zs @plain.eq_19 @plain.eq_20) (Zs @plain.eq_21 @plain.eq_22)) (Zs (Zs @plain.eq_23 @plain.eq_24) (Zs @plain.eq_25 @plain.eq_26))) (Zs (Zs (Zs @plain.eq_27 @plain.eq_28) (Zs @plain.eq_29 @plain.eq_30)) (Zs (Zs @plain.eq_31 @plain.eq_32) (Zs @plain.eq_33 @plain.eq_34)))) (Zs (Zs (Zs (Zs @plain.eq_35 @act.eq_1) (Zs @act.eq_2 @act.eq_3)) (Zs (Zs @act.eq_4 @act.eq_5) (Zs @act.eq_6 @act.eq_7))) (Zs (Zs (Zs @act.eq_8 @act.eq_9) (Zs @act.eq_10 @act.eq_11)) (Zs (Zs @act.eq_12 @act.eq_13) (Zs @act.eq_14 (Zs @act.eq_15 @act.eq_16)))))) (Zs (Zs (Zs (Zs (Zs @act.eq_17 @act.eq_18) (Zs @act.eq_19 @act.eq_20)) (Zs (Zs @act.eq_21 @act.eq_22) (Zs @act.eq_23 @bF.eq_1))) (Zs (Zs (Zs @bF.eq_2 @bF.eq_3) (Zs @bF.eq_4 @bF.eq_5)) (Zs (Zs @bF.eq_6 @bF.eq_7) (Zs @bF.eq_8 @bF.eq_9)))) (Zs (Zs (Zs (Zs @bF.eq_10 @bF.eq_11) (Zs @bF.eq_12 @bF.eq_13)) (Zs (Zs @bF.eq_14 @bF.eq_15) (Zs @bF.eq_16 @bF.eq_17))) (Zs (Zs (Zs @bF.eq_18 @bF.eq_19) (Zs @bF.eq_20 @bF.eq_21)) (Zs (Zs @bF.eq_22 @bF.eq_23) (Zs @bF.eq_24 (Zs @bF.eq_25 @bF.eq_26))))))))) (Zs (Zs (Zs (Zs (Zs (Zs (Zs (Zs @bF.eq_27 @bF.eq_28) (Zs @bF.eq_29 @bF.eq_30)) (Zs (Zs @bF.eq_31 @bF.eq_32) (Zs @bF.eq_33 @bF.eq_34))) (Zs (Zs (Zs @bF.eq_35 @bF.eq_36) (Zs @bF.eq_37 @bF.eq_38)) (Zs (Zs @bF.eq_39 @bF.eq_40) (Zs @bF.eq_41 @bF.eq_42)))) (Zs (Zs (Zs (Zs @bF.eq_43 @bF.eq_44) (Zs @bF.eq_45 @bF.eq_46)) (Zs (Zs @bF.eq_47 @bF.eq_48) (Zs @bF.eq_49 @bF.eq_50))) (Zs (Zs (Zs @bF.eq_51 @bF.eq_52) (Zs @bF.eq_53 @bF.eq_54)) (Zs (Zs @bF.eq_55 @zj) (Zs @if_true.{1} @if_false.{1}))))) (Zs (Zs (Zs (Zs (Zs @NZ @JB) (Zs @St.get.eq_1 @St.get.eq_2)) (Zs (Zs @St.get.eq_3 @St.put.eq_1) (Zs @St.bQ.eq_1 @St.putRow.eq_1))) (Zs (Zs (Zs @St.consume.eq_1 @St.consume.eq_2) (Zs @St.consume.eq_3 @St.freeze.eq_1)) (Zs (Zs @St.row.eq_1 @St.row.eq_2) (Zs @St.row.eq_3 @St.elems.eq_1)))) (Zs (Zs (Zs (Zs @St.grab.eq_1 @St.grab.eq_2) (Zs @St.grab.eq_3 @o7.eq_1)) (Zs (Zs @o7.eq_2 @o7.eq_3) (Zs @o7.eq_4 @QJ.eq_1))) (Zs (Zs (Zs @QJ.eq_2 @jr.eq_1) (Zs @jr.eq_2 @jr.eq_3)) (Zs (Zs @jr.eq_4 @St.takeRow.eq_1) (Zs @St.takeRow.eq_2 (Zs @St.takeRow.eq_3 @St.setRow.eq_1))))))) (Zs (Zs (Zs (Zs (Zs (Zs @St.setRow.eq_2 @St.setRow.eq_3) (Zs @St.place.eq_1 @St.place.eq_2)) (Zs (Zs @St.uP.eq_1 @St.uP.eq_2) (Zs @St.setCell.eq_1 @St.jq.eq_1))) (Zs (Zs (Zs @yT.eq_1 @yT.eq_2) (Zs @yT.eq_3 @yT.eq_4)) (Zs (Zs @zX.eq_1 @zX.eq_2) (Zs @zX.eq_3 @zX.eq_4)))) (Zs (Zs (Zs (Zs @fB.eq_1 @fB.eq_2) (Zs @fB.eq_3 @fB.eq_4)) (Zs (Zs @fB.eq_5 @fB.eq_6) (Zs @fB.eq_7 @fB.eq_8))) (Zs (Zs (Zs @fB.eq_9 @fB.eq_10) (Zs @fB.eq_11 @fB.eq_12)) (Zs (Zs @fB.eq_13 @fB.eq_14) (Zs @fB.eq_15 (Zs @fB.eq_16 @fB.eq_17)))))) (Zs (Zs (Zs (Zs (Zs @QI.eq_1 @QI.eq_2) (Zs @QI.eq_3 @QI.eq_4)) (Zs (Zs @BV.val.eq_1 @BV.val.eq_2) (Zs @BV.av.eq_1 @BV.av.eq_2))) (Zs (Zs (Zs @TD @OB) (Zs @TF @OC)) (Zs (Zs @cells_func @TG) (Zs @WY @TI)))) (Zs (Zs (Zs (Zs @TJ @WL) (Zs @SK @SL)) (Zs (Zs @Og @WM) (Zs @SQ @SN))) (Zs (Zs (Zs @WO @SS) (Zs @Oh @Oi)) (Zs (Zs @Oj @Ol) (Zs @WQ (Zs @SV @SX)))))))) (Zs (Zs (Zs (Zs (Zs (Zs (Zs @Om @WR) (Zs @S9 @SY)) (Zs (Zs @WS @Td) (Zs @Oq @Oo))) (Zs (Zs (Zs @Ou @Ot) (Zs @WT @Tf)) (Zs (Zs @Tj @Ov) (Zs @WU @Tq)))) (Zs (Zs (Zs (Zs @Tm @WV) (Zs @Tt @Oy)) (Zs (Zs @Ox @OA) (Zs @Oz @bound.eq_1))) (Zs (Zs (Zs @bound.eq_2 @bound.eq_3) (Zs @dH.eq_1 @dH.eq_2)) (Zs (Zs @fV.eq_1 @fV.eq_2) (Zs @uU.eq_1 (Zs @uU.eq_2 @capOf.eq_1)))))) (Zs (Zs (Zs (Zs (Zs @ES @ad4) (Zs @bC @bM)) (Zs (Zs @bg @bK) (Zs @ZaB.{0} @aZ))) (Zs (Zs (Zs @bn @Zah) (Zs @Nat.add_zero @JE)) (Zs (Zs @JD @JC) (Zs @pJ @decide_true)))) (Zs (Zs (Zs (Zs @decide_false @Zbn) (Zs @Zbi @Bool.true_eq_false)) (Zs (Zs @beq_self_eq_true.{0} @zE) (Zs @Zbu @Za5))) (Zs (Zs (Zs @Zbj @Bool.true_or) (Zs @Bool.false_or @ZbV)) (Zs (Zs @Bool.or_true @agF) (Zs @agG (Zs @EO @RP))))))) (Zs (Zs (Zs (Zs (Zs (Zs @za.{0,0} @JF) (Zs @V5 @JG)) (Zs (Zs @N7 @aaX) (Zs @N8 @N9))) (Zs (Zs (Zs @aaY @Oa) (Zs @dcall.eq_1 @yA.eq_1)) (Zs (Zs @aa0.eq_1 @JI.eq_1) (Zs @EU.eq_1 @Gz.eq_1)))) (Zs (Zs (Zs (Zs @qO.eq_1 @lZ.eq_1) (Zs @lZ.eq_2 @lZ.eq_3)) (Zs (Zs @NT @NU) (Zs @NV @aaT))) (Zs (Zs (Zs @aaU @PL) (Zs @aaV @aaW)) (Zs (Zs @PN @Jv) (Zs @VY (Zs @zG @A8)))))) (Zs (Zs (Zs (Zs (Zs @ZbR.{0,0,0} @Ob) (Zs @St.jf.eq_1 @St.jf.eq_2)) (Zs (Zs @St.snap.eq_1 @St.snap.eq_2) (Zs @St.snap.eq_3 @St.snap.eq_4))) (Zs (Zs (Zs @St.snap.eq_5 @St.snap.eq_6) (Zs @Oc @RZ)) (Zs (Zs @Oe @Si) (Zs @WW @Tv)))) (Zs (Zs (Zs (Zs @WX @TA) (Zs @TB @St.layAll.eq_1)) (Zs (Zs @St.layAll.eq_2 @St.lay.eq_1) (Zs @St.lay.eq_2 @St.lay.eq_3))) (Zs (Zs (Zs @Gy @JH) (Zs @St.bH.eq_1 @St.aU.eq_1)) (Zs (Zs @St.aU.eq_2 @St.aU.eq_3) (Zs @St.aU.eq_4 (Zs @St.aU.eq_5 @St.aU.eq_6))))))))))
def Y0:=(Zs (Zs (Zs (Zs @List.isEmpty_nil.{0} (Zs @aam @MC)) (Zs @Eh (Zs @QM @QN))) (Zs (Zs @MB (Zs @Int.le_refl @wZ)) (Zs @ze (Zs @St.aT.eq_1 @BV.frozen.eq_1)))) (Zs (Zs (Zs @BV.frozen.eq_2 (Zs @Zaq.{0} @ZaI.{0})) (Zs @aW (Zs @Int.toNat_zero @true_and))) (Zs (Zs @and_true (Zs @and_self @eq_self.{1})) (Zs @pJ (Zs @List.drop_nil.{0} @ZcM.{0})))))
def bJ:=(Zs (Zs @Nat.zero_le (Zs @List.take_zero.{0} @ZcM.{0})) (Zs (Zs @List.take_succ_cons.{0} @zd.{0}) (Zs @List.length_nil.{0} @ze)))
def gy:=Zs @Y0 @lU
end Go.Proofs.YthccglceomoboaaGreatDoor
namespace Go.Proofs.YthccglceomoboaaGreatDoor.V
theorem tu (x:jF):part (kK x) 0 (some 8)=some (.agg (kK x)):=by
 simp only [part,iQ,Zah,Za4]
 rw [if_pos (ze _),ZaM (by rw [iQ];exact ze _)]
theorem CW:∀ a b:List UInt8,a.length=b.length→eX (a.map fun b=>.int .u8 (b.toNat:Int)) (b.map fun b=>.int .u8 (b.toNat:Int))=some (decide (a=b))
 |[],[],_=>rfl
 |x::a,y::b,h=>by
  simp only [zd,Nat.add_right_cancel_iff] at h
  simp only [Zai,eX,if_pos,CW a b h,Zae,ZbD.injEq]
  congr 1
  have:((x.toNat:Int)==(y.toNat:Int))=decide (x=y):=by
   by_cases e:x=y
   ·subst e;simp
   ·have:¬ x.toNat=y.toNat:=fun h=>e (UInt8.toNat_inj.1 h)
    simp [e];omega
  rw [this,Bool.decide_and]
 |[],_::_,h=>by simp at h
 |_::_,[],h=>by simp at h
theorem tC (a b:jF):eX (kK a) (kK b)=some (decide (a=b)):=by
 unfold kK
 rw [CW _ _ (by simp)]
 congr 1
 apply decide_eq_decide.2
 exact ⟨fun h=>Vector.toList_inj.1 h,fun h=>by rw [h]⟩
def eqF {α β:Type}(eq:α→β→Bool)(l:List α)(m:List β):Bool:=decide (l.length=m.length)&&(l.zip m).all fun q=>eq q.1 q.2
--+
theorem aeP {l m:List Int}(hlm:l.length=m.length)(hl:l.length≤lim)
  {st:St} (h:st.head [0,1,12,13] st.boxes.length=some ⟨[.pv (.list 1 (l.map eI)),.pv (.list 1 (m.map eI)),.any,.any,.any,.any,.any,.any,.any,.any,.any,.any,.pv (.int .i64 l.length),.pv (.int .i64 (0:Nat)),.any,.any,.any,.any,.any,.any,.any,.any,.any,.any,.any,.any],[],[],none⟩) :
  den env Hg st=if l=m then some (.normal,⟨[.any,.any,.any,.any,.any,.any,.any,.any,.any,.any,.any,.any,.any,.any,.any,.any,.any,.any,.any,.any,.any,.any,.any,.any,.any,.any],[],[],none⟩) else some (.ret,⟨[.any,.any,.any,.any,.pv (.bool false),.any,.any,.any,.any,.any,.any,.any,.any,.any,.any,.any,.any,.any,.any,.any,.any,.any,.any,.any,.any,.any],[],[],none⟩):=by
 unfold Hg
 rw [aY l.length (fun i=>⟨[.pv (.list 1 (l.map eI)),.pv (.list 1 (m.map eI)),.any,.any,.any,.any,.any,.any,.any,.any,.any,.any,.pv (.int .i64 l.length),.pv (.int .i64 i),.any,.any,.any,.any,.any,.any,.any,.any,.any,.any,.any,.any],[],[],none⟩)
  (fun i=>if l.drop i=m.drop i then some (.normal,⟨[.any,.any,.any,.any,.any,.any,.any,.any,.any,.any,.any,.any,.any,.any,.any,.any,.any,.any,.any,.any,.any,.any,.any,.any,.any,.any],[],[],none⟩) else some (.ret,⟨[.any,.any,.any,.any,.pv (.bool false),.any,.any,.any,.any,.any,.any,.any,.any,.any,.any,.any,.any,.any,.any,.any,.any,.any,.any,.any,.any,.any],[],[],none⟩)) h (fun _=>rfl) (fun _=>rfl) ?_ ?_]
 ·simp only [Za4]
 ·intro i rb hi ih
  have hi1:=bU hi hl
  have hj:i<m.length:=by omega
  have F1:((i:Int)<(l.length:Int))=True:=eq_true (by omega)
  simp only [Hf,F1,za,ay hi,ay hj,zc,ZZ hi,ZZ hj,eI,dS,aV,tu,iQ,tC,eX,lU,reduceCtorEq,Nat.reduceEqDiff,Nat.reduceAdd,Nat.reduceLT,Nat.reduceLeDiff,zb]
  (try simp only [iq,je,iw]);refine fM (fun hb=>?_) (fun hb=>?_)<;>try simp only [hb,gy,reduceCtorEq,Nat.reduceEqDiff,Nat.reduceAdd,Nat.reduceLT,Nat.reduceLeDiff,zb]
  ·rw [ih _ (by simp only [hi1];rfl),zw hi,zw hj]
   have e:l[i]=m[i]:=by
    revert hb
    generalize l[i]=x
    generalize m[i]=y
    first|(intro hb;simpa using hb)|(cases x;cases y;intro hb;simpa using hb)
   simp only [e,ZbD.injEq,true_and]
  ·rw [zw hi,zw hj,if_neg (fun e=>?_)]
   ·rfl
   ·have e:=(ZbD.inj e).1
    rw [e] at hb
    simp at hb
 ·intro rb
  simp only [Hf,ZaA,lU,reduceCtorEq,Nat.reduceEqDiff,Nat.reduceAdd,Nat.reduceLT,Nat.reduceLeDiff,zb]
  rw [ZaQ,hlm,ZaQ,if_pos rfl]
  rfl
theorem Y1 {l m:List Int}(hl:l.length≤lim) :
  cal env 99 [.list 1 (l.map eI),.list 1 (m.map eI)]=some [(.bool (decide (l=m)),false)]:=by
 rw [aG agY rfl];simp only [Xn];simp only [start,bC,bM,bg,bK,aW,aX,bn,aZ,Nat.reduceAdd,Nat.reduceSub]
 simp only [za,lU,reduceCtorEq,Nat.reduceEqDiff,Nat.reduceAdd,Nat.reduceLT,Nat.reduceLeDiff,zb]
 (try simp only [iq,je,iw]);refine fM (fun hb=>?_) (fun hb=>?_)<;>try simp only [hb,gy,reduceCtorEq,Nat.reduceEqDiff,Nat.reduceAdd,Nat.reduceLT,Nat.reduceLeDiff,zb]
 ·have hlm:l.length=m.length:=by simp at hb;omega
  rw [aeP hlm hl]
  rotate_left
  ·rfl
  ·by_cases e:l=m
   ·simp only [e,lU,reduceCtorEq,Nat.reduceEqDiff,Nat.reduceAdd,Nat.reduceLT,Nat.reduceLeDiff,zb]
   ·simp only [e,lU,reduceCtorEq,Nat.reduceEqDiff,Nat.reduceAdd,Nat.reduceLT,Nat.reduceLeDiff,zb]
 ·have:l≠m:=fun e=>by subst e;simp at hb
  simp only [this,lU,reduceCtorEq,Nat.reduceEqDiff,Nat.reduceAdd,Nat.reduceLT,Nat.reduceLeDiff,zb]
--+
def KN (l:List Int):Int:=if l.length<1∨8<l.length then 6 else if l.any (fun n=>decide (n<1) || decide (n > 4096)) then 2 else 0
end Go.Proofs.YthccglceomoboaaGreatDoor.V
namespace Go.Proofs.YthccglceomoboaaGreatDoor
noncomputable def iter (env:Env)(f:Nat)(caps:List PV)(stop:Option Nat):Option (List (List PV)):=jl (den env) env f caps stop
def vO (n:Nat)(caps:List PV)(stop:Option Nat):St:=⟨.lY::(caps.map .pv++Zao (n - (caps.length+1)) .any),[],[],some stop⟩
def aeQ:Ex×St→Option (List (List PV))
 |(.exit _,_)=>none
 |(.nC _ _,_)=>none
 |(_,st)=>some st.ys
section
variable {env:Env}
theorem KO (st:St):aeQ (.normal,st)=some st.ys:=(rfl)
theorem Y2 (st:St):aeQ (.ret,st)=some st.ys:=(rfl)
theorem nV {f:Nat}{fn:dL}{caps:List PV}{stop:Option Nat}(h:env f=some (.code fn))(hl:caps.length+1=fn.nargs)(hr:fn.results.isEmpty=true):iter env f caps stop=(den env fn.body (vO fn.ntmps caps stop)).bind aeQ:=by
 unfold iter jl
 rw [h]
 simp only [if_pos (Zs hl hr)]
 show (den env fn.body _).bind _=_
 congr 1
 funext ⟨e,st⟩
 cases e<;>rfl
noncomputable def CX (env:Env)(slots:List AV)(ps:List Nat)(assign body:aj)(nb:Nat)(x:List PV)(st:St):Option (Ex×St) :=
 (dZ slots ps x).bind fun sl=>(den env assign { st with slots:=sl }).bind fun p=>match p with
  |(.normal,st)=>(den env body st).bind fun p=>match p with
   |(.normal,st)=>if nb≤st.boxes.length then some (.normal,{ st with boxes:=st.boxes.take nb }) else none
   |(.nC _ _,_)=>none
   |p=>some p
  |_=>none
theorem KP {slots:List AV}{ps:List Nat}{assign body:aj}{nb k:Nat}{x:List PV}{xs:List (List PV)}{st:St} :
  rounds (den env) slots ps assign body nb k (x::xs) st=(CX env slots ps assign body nb x st).bind fun p=>match p with
   |(.normal,st)=>rounds (den env) slots ps assign body nb (k+1) xs st
   |(e,st)=>some (some (e,k+1),st):=by
 conv=>lhs;unfold rounds
 unfold CX
 show (dZ slots ps x).bind _=_
 cases dZ slots ps x with
 |none=>rfl
 |some sl =>
  simp only [ZaX]
  show (den env assign _).bind _=_
  cases den env assign { st with slots:=sl } with
  |none=>rfl
  |some p =>
   obtain ⟨e,s⟩:=p
   simp only [ZaX]
   cases e with
   |normal =>
    simp only
    show (den env body _).bind _=_
    cases den env body s with
    |none=>rfl
    |some p =>
     obtain ⟨e,s⟩:=p
     simp only [ZaX]
     cases e with
     |normal =>
      simp only
      split<;>rfl
     |exit i=>rfl
     |ret=>rfl
     |nC t n=>rfl
   |exit i=>rfl
   |ret=>rfl
   |nC t n=>rfl
theorem abY {g:bf}{ps:List Nat}{assign body:aj}{st st1:St}{f:Nat}{caps:List PV}{xs:List (List PV)}(hg:st.bQ g=some (.func f caps))(hi:iter env f caps none=some xs)
  (hr:rounds (den env) (st.slots.map AV.froze) ps assign body st.boxes.length 0 xs { st with slots:=st.slots.map AV.froze }=some (none,st1)):den env (.rng g ps assign body) st=some (.normal,{ st1 with slots:=st.slots.map AV.froze }):=by
 rw [kH]
 show ranged (den env) env g ps assign body st=_
 unfold ranged
 rw [hg]
 unfold iter at hi
 simp only [ES,ZaX,hi,hr]
theorem uz (B:Nat→List Box){g:bf}{ps:List Nat}{assign body:aj}{st:St}{f:Nat}{caps:List PV}{xs:List (List PV)}(hg:st.bQ g=some (.func f caps))(hi:iter env f caps none=some xs)(hB:st.boxes=B 0)
  (h:∀ j x,xs[j]?=some x→∀ sl0,∃ sl1,CX env (st.slots.map AV.froze) ps assign body st.boxes.length x ⟨sl0,B j,st.ys,st.stop⟩=some (.normal,⟨sl1,B (j+1),st.ys,st.stop⟩)) :
  den env (.rng g ps assign body) st=some (.normal,⟨st.slots.map AV.froze,B xs.length,st.ys,st.stop⟩):=by
 have key:∀ (l:List (List PV)) (j:Nat),xs.drop j=l→∀ (k:Nat) (sl0:List AV),∃ sl1,rounds (den env) (st.slots.map AV.froze) ps assign body st.boxes.length k l ⟨sl0,B j,st.ys,st.stop⟩=some (none,⟨sl1,B (j+l.length),st.ys,st.stop⟩):=by
  intro l
  induction l with
  |nil=>intro j _ k sl0;exact ⟨sl0,rfl⟩
  |cons x l ih =>
   intro j hj k sl0
   have hx:xs[j]?=some x:=by rw [← List.head?_drop,hj];rfl
   have hd:xs.drop (j+1)=l:=by rw [← ZbQ,hj];rfl
   obtain ⟨sl1,q⟩:=h j x hx sl0
   obtain ⟨sl2,q2⟩:=ih (j+1) hd (k+1) sl1
   refine ⟨sl2,?_⟩
   rw [KP,q]
   simp only [ZaX,q2,zd]
   rw [show j+1+l.length=j+(l.length+1) by omega]
 obtain ⟨sl1,q⟩:=key xs 0 (by simp) 0 (st.slots.map AV.froze)
 rw [← hB,Zah] at q
 have r:=abY hg hi q
 exact r
noncomputable def Qd (env:Env)(body:aj)(nb:Nat):Ex×St→Option (Ex×St)
 |(.normal,st)=>(den env body st).bind fun p=>match p with
  |(.normal,st)=>if nb≤st.boxes.length then some (.normal,{ st with boxes:=st.boxes.take nb }) else none
  |(.nC _ _,_)=>none
  |p=>some p
 |_=>none
def rend (nb:Nat):Ex×St→Option (Ex×St)
 |(.normal,st)=>if nb≤st.boxes.length then some (.normal,{ st with boxes:=st.boxes.take nb }) else none
 |(.nC _ _,_)=>none
 |p=>some p
theorem TN (slots:List AV)(ps:List Nat)(assign body:aj)(nb:Nat)(x:List PV)(st:St):CX env slots ps assign body nb x st=(dZ slots ps x).bind fun sl=>(den env assign { st with slots:=sl }).bind (Qd env body nb):=by
 unfold CX
 rfl
theorem CY (body:aj)(nb:Nat)(st:St):Qd env body nb (.normal,st)=(den env body st).bind (rend nb):=by
 rfl
theorem KQ (nb:Nat)(st:St):rend nb (.normal,st)=if nb≤st.boxes.length then some (.normal,{ st with boxes:=st.boxes.take nb }) else none:=(rfl)
theorem TP (nb i:Nat)(st:St):rend nb (.exit i,st)=some (.exit i,st):=(rfl)
theorem Y3 (nb:Nat)(st:St):rend nb (.ret,st)=some (.ret,st):=(rfl)
theorem Y4 (slots:List AV):dZ slots [] []=some slots:=(rfl)
theorem TQ (slots:List AV)(p:Nat)(ps:List Nat)(v:PV)(vs:List PV):dZ slots (p::ps) (v::vs)=dZ (slots.set p (.pv v)) ps vs:=(rfl)
theorem Y5 (v:PV):AV.froze (.pv v)=.pv v:=(rfl)
theorem TS (sz:Nat)(es:List PV):AV.froze (.row sz es)=.pv (.list sz es):=(rfl)
theorem TU:AV.froze .any=.any:=(rfl)
theorem TV (k:Bool)(l:List AV):AV.froze (.ku k l)=.any:=(rfl)
theorem TW (r:Root)(i j:Nat):AV.froze (.ref r i j)=.any:=(rfl)
theorem TY (r:Root)(i j:Nat):AV.froze (.mW r i j)=.any:=(rfl)
theorem OL (i j:Nat):AV.froze (.aJ i j)=.aJ i j:=(rfl)
theorem Y6 (f:Nat)(l:List AV):AV.froze (.fn f l)=.fn f l:=(rfl)
theorem Ua:AV.froze .lY=.lY:=(rfl)
end
def yI:=Zs @TN (Zs @CY (Zs @KQ (Zs @TP (Zs @Y3 (Zs @Y4 (Zs @TQ (Zs @Y5 (Zs @TS (Zs @TU (Zs @TV (Zs @TW (Zs @TY (Zs @OL (Zs @Y6 (Zs @Ua (Zs @KO @Y2))))))))))))))))
end Go.Proofs.YthccglceomoboaaGreatDoor
namespace Go.Proofs.YthccglceomoboaaGreatDoor.V
def hstep (h b:Int):Int:=IntKind.u64.wrap (IntKind.u64.wrap ((Za2 IntKind.u64.bits h ^^^ Za2 IntKind.u64.bits (IntKind.u64.wrap b)).toNat:Int)*1099511628211)
def hfin (h:Int):Int:=IntKind.u64.wrap ((Za2 IntKind.u64.bits h ^^^ Za2 IntKind.u64.bits (h.fdiv (2 ^ (min (Zcb 32) IntKind.u64.bits)))).toNat:Int)
def hfold (l:List Int):Int:=l.foldl hstep 14695981039346656037
def hash (l:List Int):Int:=hfin (hfold l)
theorem OM (l:List Int)(b:Int):hfold (l++[b])=hstep (hfold l) b:=by simp [hfold]
def yB (l:List Int):List (List PV):=l.map fun b=>[PV.int .u8 b]
def oN (b:Int):PV:=.int .u8 b
def yJ (x:jF):List Int:=x.toList.map fun b=>(b.toNat:Int)
def oK (l:List jF):List Int:=l.flatMap yJ
theorem KR (x:jF):(yJ x).length=8:=by simp [yJ]
theorem OO (x:jF):kK x=(yJ x).map oN:=by simp [kK,yJ,oN]
theorem take_snoc {α:Type}{l:List α}{i:Nat}(h:i<l.length):l.take (i+1)=l.take i++[l[i]]:=by
 rw [List.take_add_one,ZZ h];rfl
theorem Y7 {gf:Nat}{caps:List PV}{bs:List Int}(hi:iter env gf caps none=some (yB bs)):cal env 185 [.func gf caps]=some [(.int .u64 (hash bs),false)]:=by
 rw [aG aex rfl];simp only [J9];simp only [start,bC,bM,bg,bK,aW,aX,bn,aZ,Nat.reduceAdd,Nat.reduceSub]
 simp only [gy,reduceCtorEq,Nat.reduceEqDiff,Nat.reduceAdd,Nat.reduceLT,Nat.reduceLeDiff,zb]
 rw [uz (env:=env) (fun j=>[⟨false,[.pv (.int .u64 (hfold (bs.take j)))]⟩]) (xs:=yB bs) rfl hi rfl ?_]
 ·have e:bs.take (yB bs).length=bs:=by simp [yB]
  have h32:((32:Int)<0)=False:=eq_false (by omega)
  simp only [e,h32,hash,hfin,yI,gy,reduceCtorEq,Nat.reduceEqDiff,Nat.reduceAdd,Nat.reduceLT,Nat.reduceLeDiff,zb]
 ·intro j x hx sl0
  simp only [yB,zc,Zaj] at hx
  obtain ⟨b,hb,rfl⟩:=hx
  obtain ⟨hj,rfl⟩:=Z3.1 hb
  refine ⟨?_,?_⟩
  rotate_left
  ·simp only [take_snoc hj,OM,J7,J8,hstep,yI,gy,reduceCtorEq,Nat.reduceEqDiff,Nat.reduceAdd,Nat.reduceLT,Nat.reduceLeDiff,zb]
   rfl
theorem abZ {bs:List Int}(hl:bs.length≤lim):iter env 270 [.bW [.list 1 (bs.map oN)] 0] none=some (yB bs):=by
 have loop:∀ {st:St} (h:st.head [0,5,6,7] st.boxes.length=some ⟨[.lY,.any,.any,.any,.any,.pv (.list 1 (bs.map oN)),.pv (.int .i64 bs.length),.pv (.int .i64 (0:Nat)),.any,.any,.any,.any,.any,.any,.any,.any],[],yB (bs.take 0),some none⟩),
   den env CV st=some (.normal,⟨[.any,.any,.any,.any,.any,.any,.any,.any,.any,.any,.any,.any,.any,.any,.any,.any],[],yB bs,some none⟩):=by
  intro st h
  unfold CV
  refine aY (env:=env) bs.length (fun i=>⟨[.lY,.any,.any,.any,.any,.pv (.list 1 (bs.map oN)),.pv (.int .i64 bs.length),.pv (.int .i64 i),.any,.any,.any,.any,.any,.any,.any,.any],[],yB (bs.take i),some none⟩) (fun _=>some (.normal,⟨[.any,.any,.any,.any,.any,.any,.any,.any,.any,.any,.any,.any,.any,.any,.any,.any],[],yB bs,some none⟩)) h (fun _=>rfl) (fun _=>rfl) ?_ ?_
  ·intro i rb hi ih
   have hi1:=bU hi hl
   have F1:((i:Int)<(bs.length:Int))=True:=eq_true (by omega)
   simp only [CU,F1,oN,ay hi,zc,ZZ hi,Zae,gy,reduceCtorEq,Nat.reduceEqDiff,Nat.reduceAdd,Nat.reduceLT,Nat.reduceLeDiff,zb]
   rw [ih _ (by simp only [hi1];rw [take_snoc hi];simp only [yB,Zam];rfl)]
  ·intro rb
   simp only [CU,ZaA,gy,reduceCtorEq,Nat.reduceEqDiff,Nat.reduceAdd,Nat.reduceLT,Nat.reduceLeDiff,zb]
   rfl
 rw [nV aeO rfl rfl]
 simp only [KL,vO,bC,bM,bg,bK,aW,aX,bn,aZ,Nat.reduceAdd,Nat.reduceSub]
 simp only [gy,reduceCtorEq,Nat.reduceEqDiff,Nat.reduceAdd,Nat.reduceLT,Nat.reduceLeDiff,zb]
 rw [loop]
 rotate_left
 ·rfl
 ·rfl
theorem aeR {bs:List Int}(hl:bs.length≤lim):cal env 248 [.list 1 (bs.map oN)]=some [(.int .u64 (hash bs),false)]:=by
 have e1:=Y7 (abZ hl)
 rw [aG aeK rfl];simp only [KE];simp only [start,bC,bM,bg,bK,aW,aX,bn,aZ,Nat.reduceAdd,Nat.reduceSub]
 simp only [e1,gy,reduceCtorEq,Nat.reduceEqDiff,Nat.reduceAdd,Nat.reduceLT,Nat.reduceLeDiff,zb]
theorem Y8 {s:jF}{Y:List Int}{A B C:PV}{bx:Box}
  {st:St} (h:st.head [0,7,8,9,13,14] st.boxes.length=some ⟨[.lY,.any,.any,.any,.any,.any,.any,.pv A,.pv B,.pv C,.any,.any,.any,.pv (.agg (kK s)),.pv (.int .i64 (0:Nat)),.any,.any,.any,.any,.any,.any,.any,.any],[bx],yB Y,some none⟩) :
  den env BL st=some (.normal,⟨[.lY,.any,.any,.any,.any,.any,.any,.pv A,.pv B,.pv C,.any,.any,.any,.any,.any,.any,.any,.any,.any,.any,.any,.any,.any],[bx],yB (Y++yJ s),some none⟩):=by
 unfold BL
 refine aY (env:=env) 8 (fun i=>⟨[.lY,.any,.any,.any,.any,.any,.any,.pv A,.pv B,.pv C,.any,.any,.any,.pv (.agg (kK s)),.pv (.int .i64 i),.any,.any,.any,.any,.any,.any,.any,.any],[bx],yB Y++yB ((yJ s).take i),some none⟩) (fun _=>some (.normal,⟨[.lY,.any,.any,.any,.any,.any,.any,.pv A,.pv B,.pv C,.any,.any,.any,.any,.any,.any,.any,.any,.any,.any,.any,.any,.any],[bx],yB (Y++yJ s),some none⟩)) (by rw [h];simp [yB]) (fun _=>rfl) (fun i=>rfl) ?_ ?_
 ·intro i rb hi ih
  have hi1:=bU (n:=8) hi (by decide)
  have F1:((i:Int)<8)=True:=eq_true (by omega)
  have hi8:i<(yJ s).length:=by rw [KR];exact hi
  have F2:part (kK s) i none=some (.int .u8 (yJ s)[i]):=by
   simp only [part,OO,zc,ZZ hi8];rfl
  simp only [BK,F1,F2,ay hi,Nat.mul_one,gy,reduceCtorEq,Nat.reduceEqDiff,Nat.reduceAdd,Nat.reduceLT,Nat.reduceLeDiff,zb]
  rw [ih _ (by simp only [hi1];rw [take_snoc hi8];simp only [yB,Zam,← ZaD];rfl)]
 ·intro rb
  have F1:(((8:Nat):Int)<8)=False:=eq_false (by omega)
  have e8:(yJ s).take 8=yJ s:=ZaM (by rw [KR];exact ze _)
  simp only [BK,F1,e8,gy,reduceCtorEq,Nat.reduceEqDiff,Nat.reduceAdd,Nat.reduceLT,Nat.reduceLeDiff,zb]
  simp only [yB,← Zam]
  rfl
theorem OQ {l:List jF}{i:Nat}(h:i<l.length):oK (l.take (i+1))=oK (l.take i)++yJ l[i]:=by
 rw [take_snoc h];simp only [oK,List.flatMap_append,List.flatMap_cons,List.flatMap_nil,ZaB]
theorem ab1 {l:List jF}(hl:l.length≤lim):iter env 186 [.bW [.list 8 (l.map dS)] 0] none=some (yB (oK l)):=by
 have loop:∀ {st:St} (h:st.head [0,7,8,9] st.boxes.length=some ⟨[.lY,.any,.any,.any,.any,.any,.any,.pv (.list 8 (l.map dS)),.pv (.int .i64 l.length),.pv (.int .i64 (0:Nat)),.any,.any,.any,.any,.any,.any,.any,.any,.any,.any,.any,.any,.any],[],yB (oK (l.take 0)),some none⟩),
   den env BN st=some (.normal,⟨[.any,.any,.any,.any,.any,.any,.any,.any,.any,.any,.any,.any,.any,.any,.any,.any,.any,.any,.any,.any,.any,.any,.any],[],yB (oK l),some none⟩):=by
  intro st h
  unfold BN
  refine aY (env:=env) l.length (fun i=>⟨[.lY,.any,.any,.any,.any,.any,.any,.pv (.list 8 (l.map dS)),.pv (.int .i64 l.length),.pv (.int .i64 i),.any,.any,.any,.any,.any,.any,.any,.any,.any,.any,.any,.any,.any],[],yB (oK (l.take i)),some none⟩) (fun _=>some (.normal,⟨[.any,.any,.any,.any,.any,.any,.any,.any,.any,.any,.any,.any,.any,.any,.any,.any,.any,.any,.any,.any,.any,.any,.any],[],yB (oK l),some none⟩)) h (fun _=>rfl) (fun _=>rfl) ?_ ?_
  ·intro i rb hi ih
   have hi1:=bU hi hl
   have F1:((i:Int)<(l.length:Int))=True:=eq_true (by omega)
   simp only [BM,F1,dS,ay hi,zc,ZZ hi,Zae,tu,iQ,gy,reduceCtorEq,Nat.reduceEqDiff,Nat.reduceAdd,Nat.reduceLT,Nat.reduceLeDiff,zb]
   rw [Y8 (s:=l[i]) (Y:=oK (l.take i)) (A:=.list 8 (l.map dS)) (B:=.int .i64 l.length) (C:=.int .i64 i)]
   rotate_left
   ·rfl
   ·simp only [gy,reduceCtorEq,Nat.reduceEqDiff,Nat.reduceAdd,Nat.reduceLT,Nat.reduceLeDiff,zb]
    rw [ih _ (by simp only [hi1];rw [OQ hi];rfl)]
  ·intro rb
   simp only [BM,ZaA,Zaq,gy,reduceCtorEq,Nat.reduceEqDiff,Nat.reduceAdd,Nat.reduceLT,Nat.reduceLeDiff,zb]
   rfl
 rw [nV aey rfl rfl]
 simp only [Ko,vO,bC,bM,bg,bK,aW,aX,bn,aZ,Nat.reduceAdd,Nat.reduceSub]
 simp only [gy,reduceCtorEq,Nat.reduceEqDiff,Nat.reduceAdd,Nat.reduceLT,Nat.reduceLeDiff,zb]
 rw [loop]
 rotate_left
 ·rfl
 ·rfl
theorem agZ {l:List jF}(hl:l.length≤lim):cal env 93 [.list 8 (l.map dS)]=some [(.int .u64 (hash (oK l)),false)]:=by
 have e1:=Y7 (ab1 hl)
 rw [aG agT rfl];simp only [Xi];simp only [start,bC,bM,bg,bK,aW,aX,bn,aZ,Nat.reduceAdd,Nat.reduceSub]
 simp only [e1,gy,reduceCtorEq,Nat.reduceEqDiff,Nat.reduceAdd,Nat.reduceLT,Nat.reduceLeDiff,zb]
def byteOf (a:Int)(k:Nat):Int:=IntKind.u8.wrap (a.fdiv (2 ^ (min (Zcb (8*(k:Int))) IntKind.u64.bits)))
def pO (a b:Int):List Int:=(Zau 8).map (byteOf a)++(Zau 8).map (byteOf b)
theorem OT {α:Type}(f:Nat→α)(i:Nat):(Zau (i+1)).map f=(Zau i).map f++[f i]:=by simp [Zbe]
theorem EZ (a b:Int):(pO a b).length=16:=by simp [pO]
def pR (a b:Int)(i:Nat):List Int:=(Zau 8).map (fun k=>if k<i then byteOf a k else 0)++(Zau 8).map (fun k=>if k<i then byteOf b k else 0)
theorem Ub (a b:Int)(i:Nat):(pR a b i).length=16:=by simp [pR]
theorem ab2 (a b:Int):pR a b 8=pO a b:=rfl
def D7 (l:List Int):List BV:=l.map fun n=>BV.pv (.int .u8 n)
theorem OU (a b:Int){i:Nat}(h:i<8):ZbE (8+i) (ZbE i (D7 (pR a b i))++[BV.pv (.int .u8 (byteOf a i))]++Zcc (i+1) (D7 (pR a b i)))++[BV.pv (.int .u8 (byteOf b i))]++Zcc (8+i+1) (ZbE i (D7 (pR a b i))++[BV.pv (.int .u8 (byteOf a i))]++Zcc (i+1) (D7 (pR a b i)))=D7 (pR a b (i+1)):=by
 have:i=0∨i=1∨i=2∨i=3∨i=4∨i=5∨i=6∨i=7:=by omega
 rcases this with rfl|rfl|rfl|rfl|rfl|rfl|rfl|rfl<;>rfl
theorem ab3 {a b:Int}{st:St}(h:st.head [0,1,5,7] st.boxes.length=some ⟨[.pv (.int .u64 a),.pv (.int .u64 b),.any,.any,.any,.aJ 0 0,.any,.pv (.int .i64 (0:Nat)),.any,.any,.any,.any,.any,.any,.any,.any,.any,.any,.any,.any,.any,.any,.any,.any,.any,.any,.any,.any],[⟨false,D7 (pR a b 0)⟩],[],none⟩) :
  den env BQ st=some (.normal,⟨[.any,.any,.any,.any,.any,.aJ 0 0,.any,.any,.any,.any,.any,.any,.any,.any,.any,.any,.any,.any,.any,.any,.any,.any,.any,.any,.any,.any,.any,.any],[⟨false,D7 (pO a b)⟩],[],none⟩):=by
 unfold BQ
 refine aY (env:=env) 8 (fun i=>⟨[.pv (.int .u64 a),.pv (.int .u64 b),.any,.any,.any,.aJ 0 0,.any,.pv (.int .i64 i),.any,.any,.any,.any,.any,.any,.any,.any,.any,.any,.any,.any,.any,.any,.any,.any,.any,.any,.any,.any],[⟨false,D7 (pR a b i)⟩],[],none⟩) (fun _=>some (.normal,⟨[.any,.any,.any,.any,.any,.aJ 0 0,.any,.any,.any,.any,.any,.any,.any,.any,.any,.any,.any,.any,.any,.any,.any,.any,.any,.any,.any,.any,.any,.any],[⟨false,D7 (pO a b)⟩],[],none⟩)) h (fun _=>rfl) (fun _=>rfl) ?_ ?_
 ·intro i rb hi ih
  have hi1:=bU (n:=8) hi (by decide)
  have F1:((i:Int)<8)=True:=eq_true (by omega)
  have F2:IntKind.i64.wrap (8*(i:Int))=8*(i:Int):=aQ (by omega)
  have F3:(8*(i:Int)<0)=False:=eq_false (by omega)
  have F4:IntKind.i64.wrap (8+(i:Int))=((8+i:Nat):Int):=by rw [aQ (by omega)];omega
  have F5:index (.int .i64 (i:Int)) 16=some i:=ay (by omega)
  have F6:index (.int .i64 ((8+i:Nat):Int)) 16=some (8+i):=ay (by omega)
  have hl:(D7 (pR a b i)).length=16:=by simp [D7,Ub]
  have F7:(i+1≤(D7 (pR a b i)).length)=True:=eq_true (by omega)
  have F8:(8+i+1≤(ZbE i (D7 (pR a b i))++[BV.pv (.int .u8 (byteOf a i))]++Zcc (i+1) (D7 (pR a b i))).length)=True:=eq_true (by simp [hl];omega)
  have F9:=OU a b hi
  simp only [byteOf] at F8 F9
  simp only [BP,F1,F2,F3,F4,F5,F6,F7,F8,F9,Nat.mul_one,Zah,gy,reduceCtorEq,Nat.reduceEqDiff,Nat.reduceAdd,Nat.reduceLT,Nat.reduceLeDiff,zb]
  rw [ih _ (by simp only [hi1];rfl)]
 ·intro rb
  have F1:(((8:Nat):Int)<8)=False:=eq_false (by omega)
  simp only [BP,F1,ab2,gy,reduceCtorEq,Nat.reduceEqDiff,Nat.reduceAdd,Nat.reduceLT,Nat.reduceLeDiff,zb]
  rfl
theorem aeS {a b:Int}:cal env 188 [.int .u64 a,.int .u64 b]=some [(.int .u64 (hash (pO a b)),false)]:=by
 have e1:=aeR (bs:=pO a b) (by rw [EZ];decide)
 have e2:(D7 (pO a b)).map BV.val=(pO a b).map oN:=by simp [D7,oN,BV.val]
 have e3:(D7 (pO a b)).map BV.frozen=D7 (pO a b):=by simp [D7,BV.frozen]
 have e4:((pO a b).map oN).all PV.single=true:=by simp [oN,PV.single]
 have e5:(D7 (pO a b)).length=16:=by simp [D7,EZ]
 have e6:(16≤lim)=True:=eq_true (by decide)
 rw [aG aeA rfl];simp only [Kr];simp only [start,bC,bM,bg,bK,aW,aX,bn,aZ,Nat.reduceAdd,Nat.reduceSub]
 simp only [e1,e2,e3,e4,e5,e6,gy,reduceCtorEq,Nat.reduceEqDiff,Nat.reduceAdd,Nat.reduceLT,Nat.reduceLeDiff,zb]
 rw [ab3 (a:=a) (b:=b)]
 rotate_left
 ·rfl
 ·simp only [e1,e2,e3,e4,e5,e6,gy,reduceCtorEq,Nat.reduceEqDiff,Nat.reduceAdd,Nat.reduceLT,Nat.reduceLeDiff,zb]
def jD (out:List dJ)(i:Nat):List dJ:=match out.getLast? with
 |some x=>if x.start+x.count=(i:Int) then out.dropLast++[⟨x.start,x.count+1⟩] else out++[⟨i,1⟩]
 |none=>[⟨i,1⟩]
def exts (l:List Nat):List dJ:=l.foldl jD []
theorem gB (pre:List dJ)(x:dJ)(i:Nat):jD (pre++[x]) i=if x.start+x.count=(i:Int) then pre++[⟨x.start,x.count+1⟩] else pre++[x]++[⟨i,1⟩]:=by
 simp [jD]
theorem E8 (l:List Nat)(i:Nat):exts (l++[i])=jD (exts l) i:=by simp [exts]
theorem iU {α:Type}(l:List α):l=[]∨∃ p x,l=p++[x]:=by
 rcases List.eq_nil_or_concat l with h|⟨p,x,h⟩
 ·exact .inl h
 ·exact .inr ⟨p,x,by rw [h];simp⟩
theorem Uc:∀ (n:Nat) (l:List Nat),l.length=n→∀ i:Nat,∃ pre x,exts (l++[i])=pre++[x]∧x.start+x.count=(i:Int)+1∧0≤x.start∧1≤x.count∧pre.length≤l.length:=by
 intro n
 induction n with
 |zero =>
  intro l hl i
  have:=Zad hl
  subst this
  exact ⟨[],⟨i,1⟩,rfl,rfl,by simp,by simp,by simp⟩
 |succ n ih =>
  intro l hl i
  rcases iU l with rfl|⟨p,j,rfl⟩
  ·simp at hl
  ·obtain ⟨pre,x,e,h1,h2,h3,h4⟩:=ih p (by simpa using hl) j
   rw [E8,e,gB]
   split
   ·rename_i hx
    exact ⟨pre,_,rfl,by simp;omega,h2,by simp;omega,by simp;omega⟩
   ·exact ⟨pre++[x],_,rfl,by simp,by simp,by simp,by simp;omega⟩
def ext (p:Nat→Bool)(n:Nat):List dJ:=exts ((Zau n).filter p)
theorem KT (p:Nat→Bool):ext p 0=[]:=rfl
theorem iZ (p:Nat→Bool)(n:Nat):ext p (n+1)=if p n then jD (ext p n) n else ext p n:=by
 unfold ext
 rw [Zbe,List.filter_append]
 cases h:p n
 ·simp [h]
 ·rw [List.filter_cons_of_pos h,List.filter_nil,E8];rfl
theorem ab4 {p:Nat→Bool}{n:Nat}(h:n=0∨p (n - 1)=false):jD (ext p n) n=ext p n++[⟨(n:Int),1⟩]:=by
 unfold ext
 rcases iU ((Zau n).filter p) with h0|⟨l,j,h0⟩
 ·rw [h0];rfl
 ·obtain ⟨pre,⟨s,c⟩,e0,h1,h2,h3,h4⟩:=Uc _ l rfl j
  have hmem:j∈(Zau n).filter p:=by rw [h0];simp
  obtain ⟨q1,q2⟩:=List.mem_filter.1 hmem
  have hj:=ZcF.1 q1
  simp only at h1
  rw [h0,e0,gB,if_neg]
  intro hh
  simp only at hh
  have:j=n - 1:=by omega
  rcases h with h|h
  ·omega
  ·rw [← this,q2] at h;cases h
theorem uD {p:Nat→Bool}{a:Nat}:∀ k,(∀ s,a≤s→s<a+k→p s=false)→ext p (a+k)=ext p a
 |0,_=>rfl
 |k+1,h=>by
  rw [← Za3,iZ,h (a+k) (by omega) (by omega),if_neg (by simp)]
  exact uD k fun s h1 h2=>h s h1 (by omega)
theorem CZ {p:Nat→Bool}{a:Nat}{pre:List dJ}{s0:Int}(h0:ext p a=pre++[⟨s0,a - s0⟩]):∀ k,(∀ s,a≤s→s<a+k→p s=true)→ext p (a+k)=pre++[⟨s0,((a+k:Nat):Int) - s0⟩]
 |0,_=>h0
 |k+1,h=>by
  rw [← Za3,iZ,h (a+k) (by omega) (by omega),if_pos rfl,CZ h0 k fun s h1 h2=>h s h1 (by omega),gB,if_pos (by simp only;omega)]
  congr 2
  simp only [dJ.mk.injEq,true_and]
  omega
theorem Ud {p:Nat→Bool}{a k:Nat}(hn:a=0∨p (a - 1)=false)(h:∀ s,a≤s→s<a+(k+1)→p s=true):ext p (a+(k+1))=ext p a++[⟨(a:Int),((a+(k+1):Nat):Int) - a⟩]:=by
 have h1:ext p (a+1)=ext p a++[⟨(a:Int),((a+1:Nat):Int) - a⟩]:=by
  rw [iZ,h a (ze _) (by omega),if_pos rfl,ab4 hn]
  congr 2
  simp only [dJ.mk.injEq,true_and]
  omega
 have:=CZ (a:=a+1) h1 k fun s h2 h3=>h s (by omega) (by omega)
 rw [show a+(k+1)=a+1+k by omega]
 exact this
theorem uF {p q:Nat→Bool}{n:Nat}(h:∀ s,s<n→p s=q s):ext p n=ext q n:=by
 unfold ext
 rw [List.filter_congr fun s hs=>h s (ZcF.1 hs)]
def dep (i:Nat)(s:Nat):List End→Int
 |[]=>0
 |x::l=>(if x.list=i∧x.pos≤s then x.step else 0)+dep i s l
def tot (i:Nat):List End→Int
 |[]=>0
 |x::l=>(if x.list=i then x.step else 0)+tot i l
theorem uG (i s:Nat):∀ l m:List End,dep i s (l++m)=dep i s l+dep i s m
 |[],m=>by simp [dep]
 |x::l,m=>by simp only [Zbh,dep,uG i s l m];omega
theorem Qe {i s:Nat}:∀ {l:List End},(∀ x∈l,x.pos≤s)→dep i s l=tot i l
 |[],_=>rfl
 |x::l,h=>by
  have h1:=h x (by simp)
  have ih:=Qe (i:=i) (s:=s) (l:=l) fun y hy=>h y (by simp [hy])
  simp only [dep,tot,ih,h1,and_true]
theorem xE {i s:Nat}:∀ {l:List End},(∀ x∈l,s<x.pos)→dep i s l=0
 |[],_=>rfl
 |x::l,h=>by
  have h1:=h x (by simp)
  have ih:=xE (i:=i) (s:=s) (l:=l) fun y hy=>h y (by simp [hy])
  simp only [dep,ih]
  rw [if_neg (by omega)];rfl
theorem xG (i:Nat):∀ l m:List End,tot i (l++m)=tot i l+tot i m
 |[],m=>by simp [tot]
 |x::l,m=>by simp only [Zbh,tot,xG i l m];omega
def jL (keep:Bool→Bool→Bool)(l:List End)(s:Nat):Bool:=keep (decide (dep 0 s l > 0)) (decide (dep 1 s l > 0))
def jc (x:End):List End→Bool
 |[]=>false
 |y::_=>decide (y.pos=x.pos)
def yK (keep:Bool→Bool→Bool):List End→Int→Int→Int→Bool→List dJ
 |[],_,_,_,_=>[]
 |x::l,d0,d1,st,ins =>
  if jc x l then yK keep l (if x.list=0 then d0+x.step else d0) (if x.list=1 then d1+x.step else d1) st ins
  else
   (if !keep (decide ((if x.list=0 then d0+x.step else d0) > 0)) (decide ((if x.list=1 then d1+x.step else d1) > 0))&&ins then [⟨st,x.pos - st⟩] else []) ++
   yK keep l (if x.list=0 then d0+x.step else d0) (if x.list=1 then d1+x.step else d1)
    (if keep (decide ((if x.list=0 then d0+x.step else d0) > 0)) (decide ((if x.list=1 then d1+x.step else d1) > 0))&&!ins then x.pos else st)
    (keep (decide ((if x.list=0 then d0+x.step else d0) > 0)) (decide ((if x.list=1 then d1+x.step else d1) > 0)))
def Asc:List End→Prop
 |[]=>True
 |[_]=>True
 |x::y::l=>x.pos≤y.pos∧Asc (y::l)
theorem Asc.tail {x:End}{l:List End}(h:Asc (x::l)):Asc l:=by
 cases l with
 |nil=>trivial
 |cons y l=>exact h.2
theorem Asc.le {x:End}:∀ {l:List End},Asc (x::l)→∀ y∈l,x.pos≤y.pos
 |[],_,y,hy=>by cases hy
 |z::l,h,y,hy=>by
  rcases ZaL.1 hy with rfl|hy
  ·exact h.1
  ·exact zR h.1 (Asc.le h.2 y hy)
def atStart (N:Nat):List End→Nat→Prop
 |[],a=>a=N
 |x::_,a=>a=x.pos
theorem uH {keep:Bool→Bool→Bool}(hk:keep false false=false){L:List End}{N:Nat}(hN:∀ x∈L,x.pos≤N)(h0:tot 0 L=0)(h1:tot 1 L=0) :
  ∀ (R P:List End) (out:List dJ) (st:Int) (ins:Bool) (a:Nat),L=P++R→Asc R→(∀ x∈P,∀ y∈R,x.pos≤y.pos)→(∀ x∈P,x.pos≤a) →
   atStart N R a→ext (jL keep L) a=out++(if ins then [⟨st,a - st⟩] else [])→(a=0∨ins=true∨jL keep L (a - 1)=false)→(R=[]→ins=false)→(a=0→ins=false) →
   ext (jL keep L) N=out++yK keep R (tot 0 P) (tot 1 P) st ins
 |[],P,out,st,ins,a,hL,_,_,_,ha,he,hi,hr,_=>by
  have ha:a=N:=ha
  rw [hr rfl] at he
  rw [ha] at he
  simpa [yK] using he
 |x::l,P,out,st,ins,a,hL,hs,hP,hPa,ha,he,hi,_,hz=>by
  have ha:a=x.pos:=ha
  subst ha
  have hL2:L=(P++[x])++l:=by rw [hL];simp
  have t0:tot 0 (P++[x])=(if x.list=0 then tot 0 P+x.step else tot 0 P):=by
   rw [xG];simp only [tot];split<;>omega
  have t1:tot 1 (P++[x])=(if x.list=1 then tot 1 P+x.step else tot 1 P):=by
   rw [xG];simp only [tot];split<;>omega
  have hP2:∀ z∈P++[x],∀ y∈l,z.pos≤y.pos:=by
   intro z hz y hy
   rcases ZaC.1 hz with hz|hz
   ·exact hP z hz y (by simp [hy])
   ·simp only [Zal] at hz;rw [hz];exact hs.le y hy
  have hPx:∀ z∈P++[x],z.pos≤x.pos:=by
   intro z hz
   rcases ZaC.1 hz with hz|hz
   ·exact hP z hz x (by simp)
   ·simp only [Zal] at hz;rw [hz];exact ze _
  unfold yK
  rw [← t0,← t1]
  by_cases hn:jc x l=true
  ·rw [if_pos hn]
   cases l with
   |nil=>simp [jc] at hn
   |cons y l =>
    have hy:y.pos=x.pos:=by simpa [jc] using hn
    exact uH hk hN h0 h1 (y::l) (P++[x]) out st ins x.pos hL2 hs.tail hP2 hPx hy.symm he hi (fun e=>by cases e) hz
  ·rw [if_neg hn]
   -- the next place
   obtain ⟨b,hb,hbl,hbx,hbm⟩:∃ b,x.pos≤b∧(∀ y∈l,b≤y.pos)∧(l≠[]→x.pos<b)∧atStart N l b:=by
    cases l with
    |nil=>exact ⟨N,hN x (by rw [hL];simp),fun y hy=>(by cases hy),fun h=>absurd rfl h,rfl⟩
    |cons y l =>
     have hy:y.pos≠x.pos:=by simpa [jc] using hn
     have:=hs.1
     exact ⟨y.pos,hs.1,fun z hz=>by
      rcases ZaL.1 hz with rfl|hz
      ·exact ze _
      ·exact hs.tail.le z hz,fun _=>by omega,rfl⟩
   have hconst:∀ s,x.pos≤s→s<b→jL keep L s=keep (decide (tot 0 (P++[x]) > 0)) (decide (tot 1 (P++[x]) > 0)):=by
    intro s hs1 hs2
    unfold jL
    have e:∀ i,dep i s L=tot i (P++[x]):=by
     intro i
     rw [hL2,uG,Qe (fun z hz=>by have:=hPx z hz;omega),xE (fun z hz=>by have:=hbl z hz;omega)]
     omega
    rw [e 0,e 1]
   have hlast:l=[]→keep (decide (tot 0 (P++[x]) > 0)) (decide (tot 1 (P++[x]) > 0))=false:=by
    intro hl
    have e0:tot 0 (P++[x])=0:=by rw [← h0,hL2,hl,ZaB]
    have e1:tot 1 (P++[x])=0:=by rw [← h1,hL2,hl,ZaB]
    rw [e0,e1]
    exact hk
   have hPb:∀ z∈P++[x],z.pos≤b:=fun z hz=>zR (hPx z hz) hb
   obtain ⟨k,rfl⟩:∃ k,b=x.pos+k:=⟨b - x.pos,by omega⟩
   generalize keep (decide (tot 0 (P++[x]) > 0)) (decide (tot 1 (P++[x]) > 0))=now at *
   have ac6:k≠0→jL keep L (x.pos+k - 1)=now:=fun hk0=>hconst _ (by omega) (by omega)
   cases now with
   |false =>
    have hf:=uD (p:=jL keep L) (a:=x.pos) k fun s q1 q2=>hconst s q1 q2
    cases ins with
    |false =>
     simp only [Zbi,Zbj,zj,if_false,Zbv,Zbu,Za5,ZaB,if_true] at he ⊢
     refine uH hk hN h0 h1 l (P++[x]) out _ false (x.pos+k) hL2 hs.tail hP2 hPb hbm ?_ ?_ (fun _=>rfl) (fun _=>rfl)
     ·rw [hf,he];simp
     ·by_cases hk0:k=0
      ·subst hk0
       rcases hi with hi|hi|hi
       ·exact .inl hi
       ·cases hi
       ·exact .inr (.inr hi)
      ·exact .inr (.inr (ac6 hk0))
    |true =>
     simp only [Zbi,zz,if_true,Zbn,Zbj,Za5,zj,if_false] at he ⊢
     rw [← ZaD]
     by_cases hk0:k=0
     ·subst hk0
      have hl:l=[]:=by
       cases l with
       |nil=>rfl
       |cons y l=>have:=hbx (by simp);omega
      subst hl
      have hb2:x.pos+0=N:=hbm
      simp only [yK,ZaB]
      rw [← hb2]
      exact he
     ·refine uH hk hN h0 h1 l (P++[x]) _ _ false (x.pos+k) hL2 hs.tail hP2 hPb hbm ?_ (.inr (.inr (ac6 hk0))) (fun _=>rfl) (fun _=>rfl)
      rw [hf,he];simp
   |true =>
    have hl:l≠[]:=fun e=>by have:=hlast e;cases this
    have hk1:=hbx hl
    obtain ⟨j,rfl⟩:∃ j,k=j+1:=⟨k - 1,by omega⟩
    cases ins with
    |false =>
     simp only [Zbn,Za5,zj,if_false,Zbv,Zbi,zz,if_true,ZaB] at he ⊢
     refine uH hk hN h0 h1 l (P++[x]) out _ true (x.pos+(j+1)) hL2 hs.tail hP2 hPb hbm ?_ (.inr (.inl rfl)) (fun e=>absurd e hl) (fun e=>by omega)
     have hi2:x.pos=0∨jL keep L (x.pos - 1)=false:=by
      rcases hi with hi|hi|hi
      ·exact .inl hi
      ·cases hi
      ·exact .inr hi
     rw [Ud hi2 fun s q1 q2=>hconst s q1 q2,he]
     simp
    |true =>
     simp only [Zbn,Za5,zj,if_false,Zbv,Zbj,if_true] at he ⊢
     refine uH hk hN h0 h1 l (P++[x]) out st true (x.pos+(j+1)) hL2 hs.tail hP2 hPb hbm ?_ (.inr (.inl rfl)) (fun e=>absurd e hl) (fun e=>by omega)
     rw [CZ he (j+1) fun s q1 q2=>hconst s q1 q2]
     simp
theorem Y9 {keep:Bool→Bool→Bool}(hk:keep false false=false){L:List End}{N:Nat}(hs:Asc L)(hN:∀ x∈L,x.pos≤N)(h0:tot 0 L=0)(h1:tot 1 L=0) :
  yK keep L 0 0 0 false=ext (jL keep L) N:=by
 cases L with
 |nil =>
  have:ext (jL keep ([]:List End)) (0+N)=ext (jL keep []) 0:=uD N fun s _ _=>hk
  rw [Zah] at this
  rw [this];rfl
 |cons x l =>
  have hb:ext (jL keep (x::l)) (0+x.pos)=ext (jL keep (x::l)) 0:=uD x.pos fun s _ h2=>by
   unfold jL
   have e:∀ i,dep i s (x::l)=0:=fun i=>xE fun y hy=>by
    rcases ZaL.1 hy with rfl|hy
    ·omega
    ·have:=hs.le y hy;omega
   rw [e 0,e 1]
   exact hk
  rw [Zah] at hb
  have:=uH hk hN h0 h1 (x::l) [] [] 0 false x.pos rfl hs (fun z hz=>by cases hz) (fun z hz=>by cases hz) rfl (by rw [hb];rfl) (by
   by_cases h:x.pos=0
   ·exact .inl h
   ·refine .inr (.inr ?_)
    unfold jL
    have e:∀ i,dep i (x.pos - 1) (x::l)=0:=fun i=>xE fun y hy=>by
     rcases ZaL.1 hy with rfl|hy
     ·omega
     ·have:=hs.le y hy;omega
    rw [e 0,e 1]
    exact hk) (fun e=>by cases e) (fun _=>rfl)
  rw [this];rfl
abbrev Wd:=BitVec 64
structure Bm where
 size:Int
 ws:List Wd
 deriving DecidableEq
def eW (w:Wd):PV:=.int .u64 (w.toNat:Int)
theorem KU (n:Int):IntKind.u64.wrap n=n % 2 ^ 64:=by
 simp only [IntKind.wrap,IntKind.bits,IntKind.signed,Za5,zj,if_false]
def eU (d:Int):PV:=.int .u64 d
def jn (a b:Int):Int:=hash (pO a b)
def upK (l:List Int)(k:Nat):Int:=if 2*k+1<l.length then jn (l.getD (2*k) 0) (l.getD (2*k+1) 0) else l.getD (2*k) 0
def Fa (l:List Int):List Int:=(Zau ((l.length+1) / 2)).map (upK l)
theorem zQ (l:List Int):(Fa l).length=(l.length+1) / 2:=by simp [Fa]
theorem Za {l:List Int}{k:Nat}(h:k<(Fa l).length):(Fa l)[k]=upK l k:=by simp [Fa]
def rP (l:List Int):Nat→List Int
 |0=>l
 |i+1=>Fa (rP l i)
def cd (n:Nat):Nat→Nat
 |0=>n
 |i+1=>(cd n i+1) / 2
theorem lC (l:List Int):∀ i,(rP l i).length=cd l.length i
 |0=>rfl
 |i+1=>by
  show (Fa _).length=_
  rw [zQ,lC l i];rfl
theorem Qg (n i:Nat):cd n (i+1)=cd ((n+1) / 2) i:=by
 induction i with
 |zero=>rfl
 |succ i ih=>show (cd n (i+1)+1) / 2=_;rw [ih];rfl
theorem C9 {n:Nat}(h:1≤n):∀ i,1≤cd n i
 |0=>h
 |i+1=>by have:=C9 h i;show 1≤(cd n i+1) / 2;omega
theorem KW (n i:Nat)(h:1≤n):cd n i≤n:=by
 induction i with
 |zero=>exact ze _
 |succ i ih=>show (cd n i+1) / 2≤n;have:=C9 h i;omega
def Ue:Nat→Nat→Nat
 |0,_=>0
 |f+1,n=>if n≤1 then 0 else Ue f ((n+1) / 2)+1
def jo (n:Nat):Nat:=Ue 13 n
theorem Qh:∀ (f n:Nat),1≤n→n≤2 ^ f→cd n (Ue f n)=1∧(∀ i,i<Ue f n→2≤cd n i)∧Ue f n≤f
 |0,n,h1,h2=>by
  have:n=1:=by simp at h2;omega
  subst this
  exact ⟨rfl,fun i hi=>absurd hi (Zct _),ze _⟩
 |f+1,n,h1,h2=>by
  unfold Ue
  by_cases c:n≤1
  ·rw [if_pos c]
   exact ⟨by show n=1;omega,fun i hi=>absurd hi (Zct _),by omega⟩
  ·rw [if_neg c]
   have hp:(2:Nat) ^ (f+1)=2*2 ^ f:=by rw [Nat.pow_succ];omega
   obtain ⟨a1,a2,a3⟩:=Qh f ((n+1) / 2) (by omega) (by omega)
   refine ⟨by rw [Qg];exact a1,fun i hi=>?_,by omega⟩
   cases i with
   |zero=>show 2≤n;omega
   |succ i=>rw [Qg];exact a2 i (by omega)
theorem lD {n:Nat}(h1:1≤n)(h2:n≤4096):cd n (jo n)=1∧(∀ i,i<jo n→2≤cd n i)∧jo n≤13:=Qh 13 n h1 (by omega)
def kT (l:List Int):List (List Int):=(Zau (jo l.length+1)).map (rP l)
theorem iG (l:List Int):(kT l).length=jo l.length+1:=by simp [kT]
theorem lV {l:List Int}{i:Nat}(h:i<(kT l).length):(kT l)[i]=rP l i:=by simp [kT]
def KX (d:Int):Prop:=0≤d∧d<18446744073709551616
theorem Qi (l:List Int):KX (hash l):=by
 unfold hash hfin KX
 constructor
 ·rw [KU];omega
 ·rw [KU];omega
theorem ag1 (a b:Int):KX (jn a b):=Qi _
theorem aeT {l:List Int}(h:∀ d∈l,KX d):∀ d∈Fa l,KX d:=fun d hd=>by
 obtain ⟨i,hi,rfl⟩:=List.getElem_of_mem hd
 rw [Za]
 rw [zQ] at hi
 unfold upK
 split
 ·exact ag1 _ _
 ·rw [Zaf,ZZ (by omega)]
  exact h _ (List.getElem_mem _)
theorem OV {l:List Int}(h:∀ d∈l,KX d):∀ i,∀ d∈rP l i,KX d
 |0=>h
 |i+1=>aeT (OV h i)
theorem KY (n:Int):IntKind.u8.wrap n=n % 256:=by
 unfold IntKind.wrap;rfl
def nP (d:Int):List Int:=(Zau 8).map (byteOf d)
theorem Dc {d:Int}(h:KX d){k:Nat}(hk:k<8):byteOf d k=d / 256 ^ k % 256:=by
 unfold byteOf
 have e:(2:Int) ^ (min (Zcb (8*(k:Int))) IntKind.u64.bits)=256 ^ k:=by
  rw [show min (Zcb (8*(k:Int))) IntKind.u64.bits=8*k by show min _ 64=_;omega,Int.pow_mul]
  rfl
 rw [e,Int.fdiv_eq_ediv_of_nonneg _ (Int.pow_nonneg (by decide))]
 exact KY _
theorem Zb {a b:Int}(ha:KX a)(hb:KX b)(h:nP a=nP b):a=b:=by
 have hk:∀ k,k<8→a / 256 ^ k % 256=b / 256 ^ k % 256:=fun k hk=>by
  have h1:(nP a)[k]?=(nP b)[k]?:=by rw [h]
  unfold nP at h1
  rw [zc,zc,List.getElem?_range hk] at h1
  simp only [Zae,ZD.injEq] at h1
  rw [Dc ha hk,Dc hb hk] at h1
  exact h1
 have h0:=hk 0 (by decide);have h1:=hk 1 (by decide);have h2:=hk 2 (by decide);have h3:=hk 3 (by decide)
 have h4:=hk 4 (by decide);have h5:=hk 5 (by decide);have h6:=hk 6 (by decide);have h7:=hk 7 (by decide)
 unfold KX at ha hb
 simp only [show (256:Int) ^ 0=1 from rfl,show (256:Int) ^ 1=256 from rfl,show (256:Int) ^ 2=65536 from rfl,show (256:Int) ^ 3=16777216 from rfl,show (256:Int) ^ 4=4294967296 from rfl,show (256:Int) ^ 5=1099511627776 from rfl,show (256:Int) ^ 6=281474976710656 from rfl,show (256:Int) ^ 7=72057594037927936 from rfl] at h0 h1 h2 h3 h4 h5 h6 h7
 omega
def dV (l:List dJ):List Int:=l.flatMap fun x=>(Zau x.count.toNat).map fun (i:Nat)=>x.start+(i:Int)
theorem uI (l:List dJ)(x:dJ):dV (l++[x])=dV l++(Zau x.count.toNat).map fun (i:Nat)=>x.start+(i:Int):=by simp [dV]
end Go.Proofs.YthccglceomoboaaGreatDoor.V
