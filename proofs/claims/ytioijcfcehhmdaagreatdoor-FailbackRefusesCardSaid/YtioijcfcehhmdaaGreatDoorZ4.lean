/-
  Part 4 of the texts that the statement stands on.
-/
import Derived.Test.YtioijcfcehhmdaaGreatDoorZ3
import Derived.IntWalk
import Derived.Sort.Defs
import Derived.Lib.BitFns
import Derived.Shelf.Lays7
import Derived.Ground.Names7Prog
import Derived.Test.YtioijcfcehhmdaaGreatDoorProg
import Derived.Shelf.Spec.TrailingZeros
import Derived.Lib.TrailingZeros
set_option linter.all false
namespace Go.Proofs.YtioijcfcehhmdaaGreatDoor
def dX {α:Type} (b:Bool) (x y:α):α:=match b with
 |true=>x
 |false=>y
section
variable {env:Env} {α β:Type}
theorem Td (x y:α):dX true x y=x:=(rfl)
theorem CP (x y:α):dX false x y=y:=(rfl)
theorem fA (b:Bool) (x y:Option α) (f:α→Option β):(dX b x y).bind f=dX b (x.bind f) (y.bind f):=by cases b<;>rfl
theorem gB (b:Bool) (x y:Option α) (f:α→β):(dX b x y).map f=dX b (x.map f) (y.map f):=by cases b<;>rfl
theorem Jj (b:Bool) (x y:α):dX (!b) x y=dX b y x:=by cases b<;>rfl
theorem Xh {γ:Type} [BEq γ] (a b:γ) (x y:α):dX (a != b) x y=dX (a==b) y x:=by unfold bne;rw [Jj]
theorem akE (b:Bool):(b==true)=b:=by cases b<;>rfl
theorem akF (b:Bool):(b==false)=!b:=by cases b<;>rfl
theorem dQ {b:Bool} {x y r:α} (h1:b=true→x=r) (h0:b=false→y=r):dX b x y=r:=by
 cases b
 ·exact h0 rfl
 ·exact h1 rfl
noncomputable def Ic (env:Env) (l:List ig) (st:St):Option St:=ops (den env) env l st
noncomputable def sW (env:Env) (o:ig) (st:St):Option St:=op (den env) env o st
noncomputable def next (env:Env) (b:ak):Ex × St→Option (Ex × St)
 |(.normal,st)=>den env b st
 |r=>some r
def endBlock (id:Nat):Ex × St→Ex × St
 |(.normal,st)=>(.normal,st)
 |(.exit j,st)=>(dX (Nat.beq j id) .normal (.exit j),st)
 |(.ret,st)=>(.ret,st)
 |(.ng t n,st)=>(.ng t n,st)
def mO (post:List Nat) (nb:Nat) (p:Ex × St):Option (Ex × St):=(p.2.head post nb).map fun st=>(p.1,st)
def fin (rs:List rZ):Ex × St→Option (List oJ)
 |(.exit _,_)=>none
 |(.ng _ _,_)=>none
 |(_,st)=>gq st rs
def start (n:Nat) (args:List PV):St:=⟨args.map .pv++List.replicate (n - args.length) .any,[],[],none⟩
theorem bY (st:St):den env .skip st=some (.normal,st):=by rw [mM];rfl
theorem aez (l:List ig) (st:St):den env (.ops l) st=(Ic env l st).map fun st=>(.normal,st):=by rw [mM];rfl
theorem aeA (z a f q) (l:List ig) (st:St):den env (.y7 z a f q l) st=(Ic env l (z.foldl St.iT st)).map fun st=>(.normal,st):=by rw [mM];rfl
noncomputable def agW (env:Env) (keep:List Nat) (vo:List ig) (st:St) (l:List iG):Option St:=kV (den env) env keep vo st l
noncomputable def aeB (env:Env) (keep:List Nat) (vo:List ig) (st:St) (x:iG):Option St:=lQ (den env) env keep vo st x
noncomputable def EN (env:Env) (keep:List Nat) (vo:List ig) (st s:St) (l:List iG):Option St:=agree s (l.map (lQ (den env) env keep vo st))
def sameAs (s s':St) (r:Option St):Option St:=if s'.same s then r else none
theorem aeC (z k vo l) (st:St):den env (.drs z k vo l) st=(agW env k vo (z.foldl St.iT st) l).map fun st=>(.normal,st):=by rw [mM];rfl
theorem Tf (k vo) (st:St) (x:iG) (l:List iG):agW env k vo st (x :: l)=(aeB env k vo st x).bind fun s=>EN env k vo st s l:=(rfl)
theorem Tj (k vo) (st s:St):EN env k vo st s []=some s:=(rfl)
theorem OV (k vo) (st s:St) (x:iG) (l:List iG):EN env k vo st s (x :: l)=(aeB env k vo st x).bind fun s'=>sameAs s s' (EN env k vo st s l):=by
 show (lQ (den env) env k vo st x).bind _=_
 unfold aeB EN sameAs
 congr 1
theorem OW (s:St) (r:Option St):sameAs s s r=r:=by
 show (if s.same s then r else none)=r
 rw [St.jv];rfl
theorem aeD (k vo) (st:St) (a f q o w):aeB env k vo st ⟨a,f,q,o,w⟩=(Ic env (bP vo o) st).bind (lN k st.boxes.length w):=(rfl)
theorem KO (k:List Nat) (nb:Nat) (s:St):lN k nb false s=s.head k s.boxes.length:=by
 unfold lN
 cases s.head k s.boxes.length<;>rfl
theorem OX (k:List Nat) (nb:Nat) (s:St):lN k nb true s=(s.head k s.boxes.length).bind fun s=>s.swap2 nb:=(rfl)
theorem Xi (vo:List ig):bP vo []=[]:=(rfl)
theorem Xj (vo:List ig) (i:Nat) (l:List Nat):bP vo (i :: l)=vo.getD i default :: bP vo l:=(rfl)
theorem aeE (a b:ak) (st:St):den env (.seq a b) st=(den env a st).bind (next env b):=by
 rw [mM]
 show (den env a st).bind _=_
 congr 1
 funext ⟨e,st⟩
 cases e<;>rfl
theorem aae (c:bQ) (a b:ak) (st:St):den env (.cond c a b) st=(match st.dF c with
  |some (.bool t)=>dX t (den env a st) (den env b st)
  |_=>none):=by
 rw [mM]
 show (st.dF c).bind _=_
 cases st.dF c with
 |none=>rfl
 |some v =>
  cases v<;>try rfl
  rename_i t
  cases t<;>rfl
theorem Jk (i:Nat) (a:ak) (st:St):den env (.block i a) st=(den env a st).map (endBlock i):=by
 rw [mM]
 show (den env a st).bind _=_
 cases den env a st with
 |none=>rfl
 |some r =>
  obtain ⟨e,st⟩:=r
  cases e with
  |normal=>rfl
  |ret=>rfl
  |ng t n=>rfl
  |exit j =>
   show some (_,_)=some (_,_)
   by_cases h:j=i
   ·subst h;simp [dX]
   ·have:Nat.beq j i=false:=by cases e:Nat.beq j i with
    |false=>rfl
    |true=>exact absurd (Nat.eq_of_beq_eq_true e) h
    simp [dX,h,this]
theorem aaf (keep:List Nat) (a:ak) (st:St):den env (.loop keep a) st=den env (.round keep st.boxes.length a) st:=by rw [mM];rfl
theorem Jl (keep:List Nat) (nb:Nat) (a:ak) (st:St):den env (.round keep nb a) st=(st.head keep nb).bind fun st=>(den env a st).bind (next env (.round keep nb a)):=by
 rw [mM]
 show (st.head keep nb).bind _=_
 congr 1
 funext st
 show (den env a st).bind _=_
 congr 1
 funext ⟨e,st⟩
 cases e<;>rfl
theorem Xk (pre post:List Nat) (a:ak) (st:St):den env (.clean pre post a) st=(st.head pre st.boxes.length).bind fun s=>(den env a s).bind (mO post st.boxes.length):=by
 rw [mM]
 show (st.head pre _).bind _=_
 congr 1
 funext s
 show (den env a s).bind _=_
 congr 1
 funext ⟨e,s⟩
 show (s.head post _).bind _=(s.head post _).map _
 cases s.head post st.boxes.length<;>rfl
theorem aag (i:Nat) (st:St):den env (.exit i) st=some (.exit i,st):=by rw [mM];rfl
theorem aeF (st:St):den env .ret st=some (.ret,st):=by rw [mM];rfl
theorem OY (b:ak) (st:St):next env b (.normal,st)=den env b st:=(rfl)
theorem Xl (b:ak) (i:Nat) (st:St):next env b (.exit i,st)=some (.exit i,st):=(rfl)
theorem aah (b:ak) (st:St):next env b (.ret,st)=some (.ret,st):=(rfl)
theorem aai (b:ak) (t:Nat) (n:Int) (st:St):next env b (.ng t n,st)=some (.ng t n,st):=(rfl)
theorem KP (i t:Nat) (n:Int) (st:St):endBlock i (.ng t n,st)=(.ng t n,st):=(rfl)
noncomputable def thrown (env:Env) (f:Nat) (args:List PV):Option (Option (Nat × Int)):=Df (den env) env f args
theorem EO {f:Nat} {g:List PV→Option (Option (Nat × Int))} {args:List PV} (h:env f=some (.ng g)):thrown env f args=g args:=by
 unfold thrown Df
 rw [h]
def aeG:Ex × St→Option (Option (Nat × Int))
 |(.exit _,_)=>none
 |(.ng t n,_)=>some (some (t,n))
 |_=>some none
theorem OZ (st:St):aeG (.normal,st)=some none:=(rfl)
theorem aaj (st:St):aeG (.ret,st)=some none:=(rfl)
theorem aak (t:Nat) (n:Int) (st:St):aeG (.ng t n,st)=some (some (t,n)):=(rfl)
theorem dM {f:Nat} {fn:gW} {args:List PV} (h:env f=some (.code fn)) (hl:args.length=fn.nargs) (hr:fn.results.isEmpty=true):thrown env f args=(den env fn.body (start fn.ntmps args)).bind aeG:=by
 unfold thrown Df
 rw [h]
 simp only [if_pos (And.intro hl hr)]
 show (den env fn.body _).bind _=_
 congr 1
 funext ⟨e,st⟩
 cases e<;>rfl
noncomputable def Tm (env:Env) (d f:Nat) (args:List bQ) (st:St):Option (Nat × Int)→Option (Ex × St)
 |some (t,n)=>some (.ng t n,st)
 |none=>(Ic env [.call d f args] st).map fun st=>(.normal,st)
theorem O1 (d f:Nat) (args:List bQ) (st:St) (t:Nat) (n:Int):Tm env d f args st (some (t,n))=some (.ng t n,st):=(rfl)
theorem O4 (d f:Nat) (args:List bQ) (st:St):Tm env d f args st none=(Ic env [.call d f args] st).map fun st=>(.normal,st):=(rfl)
theorem aeH (l:List ig) (d f:Nat) (args:List bQ) (st:St):den env (.Ar l d f args) st=(Ic env l st).bind fun st1=>(args.mapM st1.dF).bind fun vs=>(thrown env f vs).bind (Tm env d f args st1):=by
 rw [mM]
 show (Ic env l st).bind _=_
 congr 1
 funext st1
 show (args.mapM st1.dF).bind _=_
 congr 1
 funext vs
 show (thrown env f vs).bind _=_
 congr 1
 funext r
 cases r with
 |some p=>rfl
 |none =>
  show (act (den env) env (.call d f args) st1).map _=((act (den env) env (.call d f args) st1).bind (ops (den env) env [])).map _
  cases act (den env) env (.call d f args) st1<;>rfl
theorem Dq (i:Nat) (st:St):endBlock i (.normal,st)=(.normal,st):=(rfl)
theorem KQ (i:Nat) (st:St):endBlock i (.ret,st)=(.ret,st):=(rfl)
theorem Ie (i j:Nat) (st:St):endBlock i (.exit j,st)=(dX (Nat.beq j i) .normal (.exit j),st):=(rfl)
theorem Tq (rs:List rZ) (st:St):fin rs (.normal,st)=gq st rs:=(rfl)
theorem aeI (rs:List rZ) (st:St):fin rs (.ret,st)=gq st rs:=(rfl)
theorem ah {f:Nat} {fn:gW} {args:List PV} (h:env f=some (.code fn)) (hl:args.length=fn.nargs):cal env f args=(den env fn.body (start fn.ntmps args)).bind (Go.Proofs.YtioijcfcehhmdaaGreatDoor.fin fn.results):=by
 unfold cal jA
 rw [h]
 simp only [if_pos hl]
 show (den env fn.body _).bind _=_
 congr 1
 funext ⟨e,st⟩
 cases e<;>rfl
theorem aeJ {f:Nat} {g:List PV→Option (Option (Nat × Int))} {args:List PV} (h:env f=some (.ng g)) (hg:g args=some none):cal env f args=some []:=by
 unfold cal jA
 rw [h]
 simp only [hg,Option.bind_some]
noncomputable def aal (env:Env) (fn:nC):Ex × St→Option (List oJ)
 |(.normal,st)=>(fn.begun st).bind fun st0=>(den env fn.body st0).bind fun r=>fG fn st0 r.1 r.2
 |_=>none
theorem aQ (fn:nC) (st:St):aal env fn (.normal,st)=(fn.begun st).bind fun st0=>(den env fn.body st0).bind fun r=>fG fn st0 r.1 r.2:=(rfl)
theorem KR {f:Nat} {fn:nC} {args:List PV} (h:env f=some (.dfn fn)) (hl:args.length=fn.nargs):cal env f args=(den env fn.pre (start fn.ntmps args)).bind (aal env fn):=by
 unfold cal jA
 rw [h]
 simp only [if_pos hl]
 show (den env fn.pre _).bind _=_
 congr 1
 funext ⟨e,st⟩
 cases e<;>rfl
def aam (n:Nat) (x:kX) (args:List PV):St:=⟨x.av :: (args.map .pv++List.replicate (n - (args.length+1)) .any),x.boxes,[],none⟩
def akG (x:kX) (rs:List rZ):Ex × St→Option (List oJ × Option (List PV))
 |(.exit _,_)=>none
 |(.ng _ _,_)=>none
 |(_,st)=>jV x st rs
theorem O5 (x:kX) (rs:List rZ) (st:St):akG x rs (.normal,st)=jV x st rs:=(rfl)
theorem aan (x:kX) (rs:List rZ) (st:St):akG x rs (.ret,st)=jV x st rs:=(rfl)
theorem Tt (sz:Nat) (es:List PV) (st:St) (rs:List rZ):jV (.row sz es) st rs=(gq st rs).map fun l=>(l,none):=(rfl)
theorem Tv (l:List AV) (st:St) (rs:List rZ):jV (.own l) st rs=(gq st rs).map fun l=>(l,none):=(rfl)
theorem TA (cs:List PV) (st:St) (rs:List rZ):jV (.box cs) st rs=(match (st.bC 0).boxes[0]? with
  |some b=>dX b.fz none ((resultList (st.bC 0) rs).map fun l=>(l,some (b.cs.map BV.val)))
  |none=>none):=by
 show (match (st.bC 0).boxes[0]? with
  |some b=>if b.fz then none else (resultList (st.bC 0) rs).map fun l=>(l,some (b.cs.map BV.val))
  |none=>none)=_
 split
 ·rename_i b _
  cases b.fz<;>rfl
 ·rfl
theorem aeK (sz:Nat) (es:List PV):(kX.row sz es).av=.row sz es:=(rfl)
theorem aeL (l:List AV):(kX.own l).av=.kU true l:=(rfl)
theorem aeM (cs:List PV):(kX.box cs).av=.aV 0 0:=(rfl)
theorem aeN (sz:Nat) (es:List PV):(kX.row sz es).boxes=[]:=(rfl)
theorem aeO (l:List AV):(kX.own l).boxes=[]:=(rfl)
theorem aeP (cs:List PV):(kX.box cs).boxes=[⟨false,cs.map .pv⟩]:=(rfl)
theorem DN {f:Nat} {g:List PV→Option (List oJ)} {args:List PV} (h:env f=some (.ext g)):cal env f args=g args:=by
 unfold cal jA
 rw [h]
theorem O6 {keep post:List Nat} {id:Nat} {b:ak} {st S0:St} {R:Option (Ex × St)} (h:st.head keep st.boxes.length=some S0) (h2:S0.head keep S0.boxes.length=some S0)
  (key:∀ rb,rb=ak.round keep S0.boxes.length b→(((den env b S0).bind (next env rb)).map (endBlock id)).bind (mO post st.boxes.length)=R):den env (.clean keep post (.block id (.loop keep b))) st=R:=by
 rw [Xk,h,Option.bind_some,Jk,aaf,Jl,h2,Option.bind_some]
 exact key _ rfl
theorem aao {keep:List Nat} {nb:Nat} {b rb:ak} {st S1:St} (hrb:rb=.round keep nb b) (h:st.head keep nb=some S1):den env rb st=(den env b S1).bind (next env rb):=by
 rw [hrb,Jl,h,Option.bind_some]
noncomputable def kL (env:Env) (id:Nat) (post:List Nat) (nb:Nat) (x:Option (Ex × St)):Option (Ex × St):=(x.map (endBlock id)).bind (mO post nb)
theorem Bg {β:Type} {keep post:List Nat} {id nb:Nat} {b:ak} (S:β→St) (R:β→Option (Ex × St)) (P:β→Prop) (μ:β→Nat) (x0:β) {st:St} (h:st.head keep st.boxes.length=some (S x0)) (hP:P x0)
  (hS:∀ x,(S x).boxes.length=nb) (hh:∀ x,(S x).head keep nb=some (S x))
  (step:∀ x rb,P x→(∀ y,μ y<μ x→P y→∀ s,s.head keep nb=some (S y)→kL env id post nb (den env rb s)=R y)→kL env id post nb ((den env b (S x)).bind (next env rb))=R x) :
  den env (.clean keep post (.block id (.loop keep b))) st=R x0:=by
 have hb:st.boxes.length=nb:=by rw [← (wZ h).1];exact hS x0
 refine O6 h (by rw [hS];exact hh x0) ?_
 intro rb hrb
 rw [hS] at hrb
 rw [hb]
 have key:∀ (k:Nat) (x:β),μ x<k→P x→kL env id post nb ((den env b (S x)).bind (next env rb))=R x:=by
  intro k
  induction k with
  |zero=>intro x hx;omega
  |succ k ih =>
   intro x hx hPx
   refine step x rb hPx fun y hy hPy s hs=>?_
   rw [aao hrb hs]
   exact ih y (by omega) hPy
 exact key (μ x0+1) x0 (by omega) hP
theorem dG {keep post:List Nat} {id nb:Nat} {b:ak} (n:Nat) (S:Nat→St) (R:Nat→Option (Ex × St)) {st:St} (h:st.head keep st.boxes.length=some (S 0)) (hS:∀ i,(S i).boxes.length=nb) (hh:∀ i,(S i).head keep nb=some (S i))
  (step:∀ i rb,i<n→(∀ s,s.head keep nb=some (S (i+1))→kL env id post nb (den env rb s)=R (i+1))→kL env id post nb ((den env b (S i)).bind (next env rb))=R i)
  (last:∀ rb,kL env id post nb ((den env b (S n)).bind (next env rb))=R n) :
  den env (.clean keep post (.block id (.loop keep b))) st=R 0:=by
 refine Bg S R (fun i=>i≤n) (fun i=>n - i) 0 h (Nat.zero_le _) hS hh fun i rb hi ih=>?_
 by_cases hn:i=n
 ·subst hn;exact last rb
 ·exact step i rb (by omega) fun s hs=>ih (i+1) (by omega) (by omega) s hs
theorem O7 {id nb:Nat} {post:List Nat} (st:St):kL env id post nb (some (.normal,st))=mO post nb (.normal,st):=(rfl)
theorem aap {id nb:Nat} {post:List Nat} (t:Nat) (n:Int) (st:St):kL env id post nb (some (.ng t n,st))=mO post nb (.ng t n,st):=(rfl)
theorem aaq {id nb:Nat} {post:List Nat} (st:St):kL env id post nb (some (.ret,st))=mO post nb (.ret,st):=(rfl)
theorem Xm {id j nb:Nat} {post:List Nat} (st:St):kL env id post nb (some (.exit j,st))=mO post nb (dX (Nat.beq j id) .normal (.exit j),st):=(rfl)
theorem fB {id nb:Nat} {post:List Nat} (b:Bool) (x y:Option (Ex × St)):kL env id post nb (dX b x y)=dX b (kL env id post nb x) (kL env id post nb y):=by cases b<;>rfl
theorem O8 (a:α) (f:α→Option β):(some a).bind f=f a:=(rfl)
theorem O9 (f:α→Option β):(none:Option α).bind f=none:=(rfl)
theorem TB (a:α) (f:α→β):(some a).map f=some (f a):=(rfl)
theorem TD (f:α→β):(none:Option α).map f=none:=(rfl)
theorem TF (x y:α):(if True then x else y)=x:=(rfl)
theorem Pg (x y:α):(if False then x else y)=y:=(rfl)
theorem Jm {γ δ:Type} (x:Option γ) (f:γ→Option δ):(x >>= f)=x.bind f:=(rfl)
theorem ahP {γ:Type} (x:γ):(pure x:Option γ)=some x:=(rfl)
theorem aH {γ:Type} (a:γ) (l:List γ):(a :: l).length=l.length+1:=(rfl)
theorem aS {γ:Type}:([]:List γ).length=0:=(rfl)
theorem aO {γ:Type} (l:List γ):[]++l=l:=(rfl)
theorem aI {γ:Type} (a:γ) (l m:List γ):(a :: l)++m=a :: (l++m):=(rfl)
theorem Ph {γ:Type} (a:γ) (l:List γ) (n:Nat):(a :: l).take (n+1)=a :: l.take n:=(rfl)
theorem qY {γ:Type} (l:List γ):l.take 0=[]:=(rfl)
theorem Pj {γ:Type} (a:γ) (l:List γ) (n:Nat):(a :: l).drop (n+1)=l.drop n:=(rfl)
theorem Pm {γ:Type} (l:List γ):l.drop 0=l:=(rfl)
theorem TG {γ:Type} (a:γ) (l:List γ):(a :: l)[0]?=some a:=(rfl)
theorem TI {γ:Type} (a:γ) (l:List γ) (n:Nat):(a :: l)[n+1]?=l[n]?:=(rfl)
theorem aeQ {γ:Type} (a0 a1 a2 a3 a4 a5 a6 a7:γ) (l:List γ) (n:Nat):(a0 :: a1 :: a2 :: a3 :: a4 :: a5 :: a6 :: a7 :: l)[n+8]?=l[n]?:=(rfl)
theorem Pn {γ:Type} (a:γ) (l:List γ) (d:γ):(a :: l).getD 0 d=a:=(rfl)
theorem Po {γ:Type} (a:γ) (l:List γ) (n:Nat) (d:γ):(a :: l).getD (n+1) d=l.getD n d:=(rfl)
theorem aar {γ:Type} (a0 a1 a2 a3 a4 a5 a6 a7:γ) (l:List γ) (n:Nat) (d:γ):(a0 :: a1 :: a2 :: a3 :: a4 :: a5 :: a6 :: a7 :: l).getD (n+8) d=l.getD n d:=(rfl)
theorem TJ {γ:Type} (a x:γ) (l:List γ):(a :: l).set 0 x=x :: l:=(rfl)
theorem TK {γ:Type} (a x:γ) (l:List γ) (n:Nat):(a :: l).set (n+1) x=a :: l.set n x:=(rfl)
theorem aeR {γ:Type} (a0 a1 a2 a3 a4 a5 a6 a7 x:γ) (l:List γ) (n:Nat):(a0 :: a1 :: a2 :: a3 :: a4 :: a5 :: a6 :: a7 :: l).set (n+8) x=a0 :: a1 :: a2 :: a3 :: a4 :: a5 :: a6 :: a7 :: l.set n x:=(rfl)
theorem TL {γ δ:Type} (f:γ→Option δ):([]:List γ).mapM f=some []:=(rfl)
theorem TM {γ:Type} (a:γ) (l:List γ) (p:γ→Bool):(a :: l).any p=(p a || l.any p):=(rfl)
theorem Xn {γ:Type} (p:γ→Bool):([]:List γ).any p=false:=(rfl)
theorem TN {γ:Type} (a:γ) (l:List γ) (p:γ→Bool):(a :: l).all p=(p a&&l.all p):=(rfl)
theorem Xo {γ:Type} (p:γ→Bool):([]:List γ).all p=true:=(rfl)
theorem KT {γ δ:Type} (f:δ→γ→δ) (b:δ) (a:γ) (l:List γ):(a :: l).foldl f b=l.foldl f (f b a):=(rfl)
theorem Pq {γ δ:Type} (f:δ→γ→δ) (b:δ):([]:List γ).foldl f b=b:=(rfl)
theorem aJ {γ δ:Type} (f:γ→δ) (a:γ) (l:List γ):(a :: l).map f=f a :: l.map f:=(rfl)
theorem aT {γ δ:Type} (f:γ→δ):([]:List γ).map f=[]:=(rfl)
theorem aA {γ:Type} (a:γ):List.replicate 0 a=[]:=(rfl)
theorem aB {γ:Type} (a:γ) (n:Nat):List.replicate (n+1) a=a :: List.replicate n a:=(rfl)
theorem aas (st:St):Ic env [] st=some st:=(rfl)
theorem Xp (o:ig) (l:List ig) (st:St):Ic env (o :: l) st=(sW env o st).bind (Ic env l):=(rfl)
theorem aeS {g:Nat} {w:Bool} {o:ig} (st:St):sW env (.grd g w o) st=(match st.slots.getD g .any with
  |.pv (.bool b)=>dX (b==w) (op1 (den env) env o st) (match dh o with
   |some d=>some (st.put d (.kU false []))
   |none=>some st)
  |.kU _ l=>dX l.isEmpty (match dh o with
   |some d=>some (st.put d (.kU false []))
   |none=>some st) none
  |_=>none):=by
 unfold sW op
 simp only
 generalize st.slots.getD g .any=v
 cases v with
 |pv p =>
  cases p with
  |bool b=>cases b<;>cases w<;>rfl
  |_=>rfl
 |kU k l=>cases l<;>rfl
 |_=>rfl
theorem aat {d c x y} (st:St):sW env (.pick d c x y) st=(match st.dF c with
  |some (.bool b)=>dX b ((st.dF x).map fun v=>st.put d (.pv v)) ((st.dF y).map fun v=>st.put d (.pv v))
  |_=>none):=by
 show (st.dF c).bind _=_
 cases st.dF c with
 |none=>rfl
 |some v =>
  cases v<;>try rfl
  rename_i t
  cases t
  ·show (st.dF y).bind _=Option.map _ (st.dF y)
   cases st.dF y<;>rfl
  ·show (st.dF x).bind _=Option.map _ (st.dF x)
   cases st.dF x<;>rfl
def nN (d:Nat) (args:List bQ) (caps:List AV) (st:St) (fl:Bool) (rs:List oJ):Option St :=
 some ((dX (fl&&!(rs.all (·.1.scalar))) (caps.foldl (fun s v=>s.bD (.c .void) v) (args.foldl St.bV st)) st).layAll d rs)
theorem Dt (d:Nat) (args:List bQ) (caps:List AV) (st:St) (rs:List oJ):nN d args caps st false rs=some (st.layAll d rs):=by
 simp only [nN,Bool.false_and,CP]
theorem EP (d:Nat) (args:List bQ) (caps:List AV) (st:St) (r:oJ) (rs:List oJ):nN d args caps st true (r :: rs)=dX ((r :: rs).all (·.1.scalar)) (some (st.layAll d (r :: rs))) (some ((caps.foldl (fun s v=>s.bD (.c .void) v) (args.foldl St.bV st)).layAll d (r :: rs))):=by
 unfold nN
 rw [Bool.true_and]
 cases h:(r :: rs).all (·.1.scalar)<;>rfl
noncomputable def dcall (env:Env) (d f:Nat) (args:List bQ) (caps:List AV) (st:St):Option St :=
 (args.mapM fun x=>st.jJ (st.get x)).bind fun l=>(caps.mapM st.snap).bind fun k=>(cal env f (l.map (·.1)++k.map (·.1))).bind (nN d args caps st (l.any (·.2) || k.any (·.2)))
noncomputable def Bh (env:Env) (d f:Nat) (args:List bQ) (caps:List PV) (st:St):Option St :=
 (args.mapM fun x=>st.jJ (st.get x)).bind fun l=>(cal env f (l.map (·.1)++caps)).bind (nN d args [] st (l.any (·.2)))
theorem ER (st:St):∀ caps:List PV,(caps.map AV.pv).mapM st.snap=some (caps.map fun v=>(v,false))
 |[]=>rfl
 |c :: l=>by
  rw [List.map_cons,List.mapM_cons,ER st l]
  rfl
theorem Jo (st:St):∀ caps:List PV,(caps.map AV.pv).foldl (fun s v=>s.bD (.c .void) v) st=st
 |[]=>rfl
 |c :: l=>Jo st l
theorem ES (d f:Nat) (args:List bQ) (caps:List AV) (st:St):jK (den env) env d f args caps st=dcall env d f args caps st:=by
 unfold jK dcall
 show Option.bind _ _=Option.bind _ _
 congr 1;funext l
 show Option.bind _ _=Option.bind _ _
 congr 1;funext k
 show Option.bind _ _=Option.bind _ _
 congr 1;funext rs
 show some _=some _
 congr 2
 cases h:(l.any (·.2) || k.any (·.2))&&!(rs.all (·.1.scalar))<;>rfl
theorem Bj (d f:Nat) (args:List bQ) (caps:List PV) (st:St):dcall env d f args (caps.map .pv) st=Bh env d f args caps st:=by
 unfold Bh dcall
 congr 1;funext l
 rw [ER,Option.bind_some,List.map_map,List.any_map]
 have h1:(Prod.fst ∘ fun v:PV=>(v,false))=id:=rfl
 have h2:caps.any (Prod.snd ∘ fun v:PV=>(v,false))=false:=by
  induction caps with
  |nil=>rfl
  |cons c cs ih=>simp [List.any_cons,ih]
 rw [h1,List.map_id,h2,Bool.or_false]
 congr 1;funext rs
 unfold nN
 rw [Jo]
 rfl
theorem aau {d f args} (st:St):sW env (.call d f args) st=Bh env d f args [] st:=(ES ..).trans (Bj (caps:=[]) ..)
theorem aav {d f args} (st:St):op1 (den env) env (.call d f args) st=Bh env d f args [] st:=(ES ..).trans (Bj (caps:=[]) ..)
noncomputable def Jp (env:Env) (d f:Nat) (x:bQ) (args:List bQ) (caps:List AV) (st:St):Option St :=
 (args.mapM fun x=>st.jJ (st.get x)).bind fun l=>(caps.mapM st.snap).bind fun k=>(dX (l.any (·.2) || k.any (·.2)) none (tH st x)).bind fun q=>(akB env f q.1 (l.map (·.1)++k.map (·.1))).bind fun r=>(nS q.2.2 q.2.1 r.2).bind fun st2=>some (st2.layAll d r.1)
noncomputable def KU (env:Env) (d f:Nat) (x:bQ) (args:List bQ) (caps:List PV) (st:St):Option St :=
 (args.mapM fun x=>st.jJ (st.get x)).bind fun l=>(dX (l.any (·.2)) none (tH st x)).bind fun q=>(akB env f q.1 (l.map (·.1)++caps)).bind fun r=>(nS q.2.2 q.2.1 r.2).bind fun st2=>some (st2.layAll d r.1)
theorem aaw (d f:Nat) (x:bQ) (args:List bQ) (caps:List AV) (st:St):pX (den env) env d f x args caps st=Jp env d f x args caps st:=by
 unfold pX Jp
 congr 1;funext l
 congr 1;funext k
 congr 1
 cases h:(l.any (·.2) || k.any (·.2))<;>rfl
theorem Xq (d f:Nat) (x:bQ) (args:List bQ) (caps:List PV) (st:St):Jp env d f x args (caps.map .pv) st=KU env d f x args caps st:=by
 unfold KU Jp
 congr 1;funext l
 rw [ER,Option.bind_some,List.map_map,List.any_map]
 have h1:(Prod.fst ∘ fun v:PV=>(v,false))=id:=rfl
 have h2:caps.any (Prod.snd ∘ fun v:PV=>(v,false))=false:=by
  induction caps with
  |nil=>rfl
  |cons c cs ih=>simp [List.any_cons,ih]
 rw [h1,List.map_id,h2,Bool.or_false]
noncomputable def aeT (env:Env) (d f:Nat) (x:bQ) (args:List bQ) (caps:List AV) (st:St):Option St:=Jp env d f x args caps (args.foldl St.bV st)
noncomputable def Pv (env:Env) (d f:Nat) (x:bQ) (args:List bQ) (caps:List PV) (st:St):Option St:=KU env d f x args caps (args.foldl St.bV st)
theorem KW (d f:Nat) (x:bQ) (args:List bQ) (caps:List AV) (st:St):jh (den env) env d f x args caps st=aeT env d f x args caps st:=aaw ..
theorem ET (d f:Nat) (x:bQ) (args:List bQ) (caps:List PV) (st:St):aeT env d f x args (caps.map .pv) st=Pv env d f x args caps st:=Xq ..
theorem aeU {d f x args} (st:St):sW env (.lin d f x args) st=Pv env d f x args [] st:=(KW ..).trans (ET (caps:=[]) ..)
theorem aeV {d f x args} (st:St):op1 (den env) env (.lin d f x args) st=Pv env d f x args [] st:=(KW ..).trans (ET (caps:=[]) ..)
theorem aax {d g x args} (st:St):sW env (.linv d g x args) st=(match st.get g with
  |.pv (.func f caps)=>Pv env d f x args caps st
  |.fn f caps=>aeT env d f x args caps st
  |_=>none):=by
 show (match st.get g with
  |.pv (.func f caps)=>jh (den env) env d f x args (caps.map .pv) st
  |.fn f caps=>jh (den env) env d f x args caps st
  |_=>none)=_
 split<;>simp only [KW,ET]
theorem aay {d g x args} (st:St):op1 (den env) env (.linv d g x args) st=sW env (.linv d g x args) st:=(rfl)
theorem Xr {d x args} (st:St):sW env (.kP d x args) st=(match st.get x with
  |.pv (.func f caps)=>Bh env d f args caps st
  |.fn f caps=>dcall env d f args caps st
  |_=>none):=by
 show (match st.get x with
  |.pv (.func f caps)=>jK (den env) env d f args (caps.map .pv) st
  |.fn f caps=>jK (den env) env d f args caps st
  |_=>none)=_
 split<;>simp only [ES,Bj]
theorem Xt {d x args} (st:St):op1 (den env) env (.kP d x args) st=sW env (.kP d x args) st:=(rfl)
theorem aaz {d c x y} (st:St):op1 (den env) env (.pick d c x y) st=sW env (.pick d c x y) st:=(rfl)
theorem aeW {d x} (st:St):sW env (.aj d x) st=plain (.aj d x) st:=(rfl)
theorem aeX {d x} (st:St):sW env (.aF d x) st=plain (.aF d x) st:=(rfl)
theorem aeY {d o x y} (st:St):sW env (.bin d o x y) st=plain (.bin d o x y) st:=(rfl)
theorem aeZ {d neg n x y} (st:St):sW env (.Rh d neg n x y) st=plain (.Rh d neg n x y) st:=(rfl)
theorem ae0 {d neg x} (st:St):sW env (.U6 d neg x) st=plain (.U6 d neg x) st:=(rfl)
theorem ae1 {d x} (st:St):sW env (.bxw d x) st=act (den env) env (.bxw d x) st:=(rfl)
theorem ae2 {d x} (st:St):op1 (den env) env (.bxw d x) st=act (den env) env (.bxw d x) st:=(rfl)
theorem ae3 {n p x} (st:St):sW env (.stw n p x) st=act (den env) env (.stw n p x) st:=(rfl)
theorem ae4 {n p x} (st:St):op1 (den env) env (.stw n p x) st=act (den env) env (.stw n p x) st:=(rfl)
theorem ae5 {d f x g} (st:St):sW env (.Hr d f x g) st=act (den env) env (.Hr d f x g) st:=(rfl)
theorem ae6 {d f x g} (st:St):op1 (den env) env (.Hr d f x g) st=act (den env) env (.Hr d f x g) st:=(rfl)
theorem ae7 {d n x} (st:St):sW env (.Y2 d n x) st=plain (.Y2 d n x) st:=(rfl)
theorem ae8 {d n x} (st:St):op1 (den env) env (.Y2 d n x) st=plain (.Y2 d n x) st:=(rfl)
theorem ae9 {d neg x} (st:St):op1 (den env) env (.U6 d neg x) st=plain (.U6 d neg x) st:=(rfl)
theorem ahQ {d o x} (st:St):sW env (.un d o x) st=plain (.un d o x) st:=(rfl)
theorem aaA {d k x} (st:St):sW env (.conv d k x) st=plain (.conv d k x) st:=(rfl)
theorem aaB {d n p} (st:St):sW env (.load d n p) st=plain (.load d n p) st:=(rfl)
theorem aaC {d p off} (st:St):sW env (.aG d p off) st=plain (.aG d p off) st:=(rfl)
theorem aaD {d p i len sz} (st:St):sW env (.uT d p i len sz) st=plain (.uT d p i len sz) st:=(rfl)
theorem aaE {d sz x i} (st:St):sW env (.cu d sz x i) st=plain (.cu d sz x i) st:=(rfl)
theorem afa {d sz x lo hi} (st:St):sW env (.Ws d sz x lo hi) st=plain (.Ws d sz x lo hi) st:=(rfl)
theorem afb {d x} (st:St):sW env (.len d x) st=plain (.len d x) st:=(rfl)
theorem afc {d x i} (st:St):sW env (.ext d x i) st=plain (.ext d x i) st:=(rfl)
theorem Xu {d z parts} (st:St):sW env (.build d z parts) st=plain (.build d z parts) st:=(rfl)
theorem ahR {d mx x y} (st:St):sW env (.mn d mx x y) st=plain (.mn d mx x y) st:=(rfl)
theorem afd {d f caps} (st:St):sW env (.Ri d f caps) st=plain (.Ri d f caps) st:=(rfl)
theorem Xv {d z} (st:St):sW env (.alloc d z) st=act (den env) env (.alloc d z) st:=(rfl)
theorem afe {d x} (st:St):sW env (.box d x) st=act (den env) env (.box d x) st:=(rfl)
theorem Xw {d n p x} (st:St):sW env (.store d n p x) st=act (den env) env (.store d n p x) st:=(rfl)
theorem aaF {d sz parts} (st:St):sW env (.iq d sz parts) st=act (den env) env (.iq d sz parts) st:=(rfl)
theorem aaG {d z n c} (st:St):sW env (.make d z n c) st=act (den env) env (.make d z n c) st:=(rfl)
theorem aff {d sz x y} (st:St):sW env (.app d sz x y) st=act (den env) env (.app d sz x y) st:=(rfl)
theorem afg {d x y} (st:St):sW env (.Y3 d x y) st=act (den env) env (.Y3 d x y) st:=(rfl)
theorem Xx {d x args} (st:St):sW env (.yield d x args) st=act (den env) env (.yield d x args) st:=(rfl)
theorem afh {d x} (st:St):op1 (den env) env (.aj d x) st=plain (.aj d x) st:=(rfl)
theorem afi {d x} (st:St):op1 (den env) env (.aF d x) st=plain (.aF d x) st:=(rfl)
theorem afj {d o x y} (st:St):op1 (den env) env (.bin d o x y) st=plain (.bin d o x y) st:=(rfl)
theorem afk {d neg n x y} (st:St):op1 (den env) env (.Rh d neg n x y) st=plain (.Rh d neg n x y) st:=(rfl)
theorem ahS {d o x} (st:St):op1 (den env) env (.un d o x) st=plain (.un d o x) st:=(rfl)
theorem aaH {d k x} (st:St):op1 (den env) env (.conv d k x) st=plain (.conv d k x) st:=(rfl)
theorem aaI {d n p} (st:St):op1 (den env) env (.load d n p) st=plain (.load d n p) st:=(rfl)
theorem aaJ {d p off} (st:St):op1 (den env) env (.aG d p off) st=plain (.aG d p off) st:=(rfl)
theorem aaK {d p i len sz} (st:St):op1 (den env) env (.uT d p i len sz) st=plain (.uT d p i len sz) st:=(rfl)
theorem aaL {d sz x i} (st:St):op1 (den env) env (.cu d sz x i) st=plain (.cu d sz x i) st:=(rfl)
theorem afl {d sz x lo hi} (st:St):op1 (den env) env (.Ws d sz x lo hi) st=plain (.Ws d sz x lo hi) st:=(rfl)
theorem afm {d x} (st:St):op1 (den env) env (.len d x) st=plain (.len d x) st:=(rfl)
theorem afn {d x i} (st:St):op1 (den env) env (.ext d x i) st=plain (.ext d x i) st:=(rfl)
theorem Xy {d z parts} (st:St):op1 (den env) env (.build d z parts) st=plain (.build d z parts) st:=(rfl)
theorem ahT {d mx x y} (st:St):op1 (den env) env (.mn d mx x y) st=plain (.mn d mx x y) st:=(rfl)
theorem afo {d f caps} (st:St):op1 (den env) env (.Ri d f caps) st=plain (.Ri d f caps) st:=(rfl)
theorem Xz {d z} (st:St):op1 (den env) env (.alloc d z) st=act (den env) env (.alloc d z) st:=(rfl)
theorem afp {d x} (st:St):op1 (den env) env (.box d x) st=act (den env) env (.box d x) st:=(rfl)
theorem XA {d n p x} (st:St):op1 (den env) env (.store d n p x) st=act (den env) env (.store d n p x) st:=(rfl)
theorem aaM {d sz parts} (st:St):op1 (den env) env (.iq d sz parts) st=act (den env) env (.iq d sz parts) st:=(rfl)
theorem aaN {d z n c} (st:St):op1 (den env) env (.make d z n c) st=act (den env) env (.make d z n c) st:=(rfl)
theorem afq {d sz x y} (st:St):op1 (den env) env (.app d sz x y) st=act (den env) env (.app d sz x y) st:=(rfl)
theorem afr {d x y} (st:St):op1 (den env) env (.Y3 d x y) st=act (den env) env (.Y3 d x y) st:=(rfl)
theorem XB {d x args} (st:St):op1 (den env) env (.yield d x args) st=act (den env) env (.yield d x args) st:=(rfl)
theorem aaO (d:Nat) (v:PV):AV.kill d (.pv v)=.pv v:=(rfl)
theorem XC (d:Nat):AV.kill d .any=.any:=(rfl)
theorem XD (d sz:Nat) (es:List PV):AV.kill d (.row sz es)=.row sz es:=(rfl)
theorem TP (d o j:Nat):AV.kill d (.aV o j)=.aV o j:=(rfl)
theorem aaP (d f:Nat) (l:List AV):AV.kill d (.fn f l)=.fn f l:=(rfl)
theorem XE (d s:Nat) (l:List PV):AV.kill d (.Hq s l)=.Hq s l:=(rfl)
theorem XF (d:Nat) (k:Bool) (l:List AV):AV.kill d (.kU k l)=.kU k l:=(rfl)
theorem XG (d:Nat):AV.kill d .rY=.rY:=(rfl)
theorem TQ (d t off len:Nat):AV.kill d (.ref (.slot t) off len)=dX (decide (t=d)) .any (.ref (.slot t) off len):=by
 by_cases h:t=d<;>simp [AV.kill,AV.roots,h,dX]
theorem TS (d o j off len:Nat):AV.kill d (.ref (.cell o j) off len)=.ref (.cell o j) off len:=(rfl)
theorem TU (d t i j:Nat):AV.kill d (.oL (.slot t) i j)=dX (decide (t=d)) .any (.oL (.slot t) i j):=by
 by_cases h:t=d<;>simp [AV.kill,AV.roots,h,dX]
theorem TV (d o q i j:Nat):AV.kill d (.oL (.cell o q) i j)=.oL (.cell o q) i j:=(rfl)
theorem aaQ (d:Nat) (v:PV):AV.dJ d (.pv v)=.pv v:=(rfl)
theorem XH (d:Nat):AV.dJ d .any=.any:=(rfl)
theorem XI (d sz:Nat) (es:List PV):AV.dJ d (.row sz es)=.row sz es:=(rfl)
theorem TW (d o j:Nat):AV.dJ d (.aV o j)=.aV o j:=(rfl)
theorem aaR (d f:Nat) (l:List AV):AV.dJ d (.fn f l)=.fn f l:=(rfl)
theorem XJ (d s:Nat) (l:List PV):AV.dJ d (.Hq s l)=.Hq s l:=(rfl)
theorem XK (d:Nat) (k:Bool) (l:List AV):AV.dJ d (.kU k l)=.kU k l:=(rfl)
theorem XL (d:Nat):AV.dJ d .rY=.rY:=(rfl)
theorem TY (d t j off len:Nat):AV.dJ d (.ref (.cell t j) off len)=dX (decide (t=d)) .any (.ref (.cell t j) off len):=by
 by_cases h:t=d<;>simp [AV.dJ,AV.wL,h,dX]
theorem Ua (d t off len:Nat):AV.dJ d (.ref (.slot t) off len)=.ref (.slot t) off len:=(rfl)
theorem Ub (d t q i j:Nat):AV.dJ d (.oL (.cell t q) i j)=dX (decide (t=d)) .any (.oL (.cell t q) i j):=by
 by_cases h:t=d<;>simp [AV.dJ,AV.wL,h,dX]
theorem Uc (d t i j:Nat):AV.dJ d (.oL (.slot t) i j)=.oL (.slot t) i j:=(rfl)
theorem aaS (d y:Nat) (v:PV):AV.iP d y (.pv v)=.pv v:=(rfl)
theorem XM (d y:Nat):AV.iP d y .any=.any:=(rfl)
theorem XO (d y sz:Nat) (es:List PV):AV.iP d y (.row sz es)=.row sz es:=(rfl)
theorem Ud (d y o j:Nat):AV.iP d y (.aV o j)=.aV o j:=(rfl)
theorem aaT (d y f:Nat) (l:List AV):AV.iP d y (.fn f l)=.fn f l:=(rfl)
theorem XP (d y s:Nat) (l:List PV):AV.iP d y (.Hq s l)=.Hq s l:=(rfl)
theorem XQ (d y:Nat) (k:Bool) (l:List AV):AV.iP d y (.kU k l)=.kU k l:=(rfl)
theorem XR (d y:Nat):AV.iP d y .rY=.rY:=(rfl)
theorem Ue (d y t j off len:Nat):AV.iP d y (.ref (.cell t j) off len)=dX (decide (t=d)) (dX (decide (j=y)) .any (.ref (.cell t j) off len)) (.ref (.cell t j) off len):=by
 by_cases h:t=d<;>by_cases h2:j=y<;>simp [AV.iP,AV.DF,h,h2,dX]
theorem Uf (d y t off len:Nat):AV.iP d y (.ref (.slot t) off len)=.ref (.slot t) off len:=(rfl)
theorem Ug (d y t q i j:Nat):AV.iP d y (.oL (.cell t q) i j)=dX (decide (t=d)) (dX (decide (q=y)) .any (.oL (.cell t q) i j)) (.oL (.cell t q) i j):=by
 by_cases h:t=d<;>by_cases h2:q=y<;>simp [AV.iP,AV.DF,h,h2,dX]
theorem Uh (d y t i j:Nat):AV.iP d y (.oL (.slot t) i j)=.oL (.slot t) i j:=(rfl)
theorem zQ {γ δ:Type} (f:γ→δ) (l:List γ):(l.map f).take l.length=l.map f:=List.take_of_length_le (by simp)
theorem aaU (k:IntKind) (n:Int):(PV.int k n).scalar=true:=(rfl)
theorem XT (b:Bool):(PV.bool b).scalar=true:=(rfl)
theorem aaV (b:ByteArray):(PV.str b).scalar=true:=(rfl)
theorem XU (sz:Nat) (es:List PV):(PV.list sz es).scalar=false:=(rfl)
theorem XV (f:Nat) (es:List PV):(PV.func f es).scalar=false:=(rfl)
theorem XW (k:IntKind) (n:Int):(PV.int k n).cells=[.int k n]:=(rfl)
theorem Ui (b:Bool):(PV.bool b).cells=[.bool b]:=(rfl)
theorem XY (b:ByteArray):(PV.str b).cells=[.str b]:=(rfl)
theorem Uj (sz:Nat) (es:List PV):(PV.list sz es).cells=[.list sz es]:=(rfl)
theorem cells_func (f:Nat) (es:List PV):(PV.func f es).cells=[.func f es]:=(rfl)
theorem XZ (cs:List PV):(PV.agg cs).cells=cs:=(rfl)
theorem EU (c:PV) (cs:List PV):part (c :: cs) 0 none=some c:=(rfl)
theorem Bl (c:PV) (cs:List PV) (n:Nat) (m:Option Nat):part (c :: cs) (n+1) m=part cs n m:=by
 cases m with
 |none=>rfl
 |some m =>
  simp only [part,List.length_cons,List.drop_succ_cons]
  by_cases h:n+m≤cs.length
  ·rw [if_pos h,if_pos (by omega)]
  ·rw [if_neg h,if_neg (by omega)]
theorem Bo (c:PV) (cs:List PV) (m:Nat):part (c :: cs) 0 (some m)=if m≤(c :: cs).length then some (.agg ((c :: cs).take m)) else none:=by
 simp only [part,Nat.zero_add,List.drop_zero]
theorem bZ {n:Int} (h:-9223372036854775808≤n∧n≤9223372036854775807):IntKind.i64.wrap n=n:=Go.IntWalk.i64_in n h
theorem cZ {i n:Nat} (h:i<n) (hn:n≤lim):IntKind.i64.wrap ((i:Int)+1)=((i+1:Nat):Int):=by
 unfold lim at hn
 rw [Go.IntWalk.i64_in _ (by omega)]
 omega
theorem ay {k:IntKind} {i n:Nat} (h:i<n):index (.int k (i:Int)) n=some i:=by
 simp only [index]
 rw [if_pos (by omega)]
 simp
theorem Vs (k:IntKind) (i:Int) (n:Nat):index (.int k i) n=dX (decide (0≤i∧i<n)) (some i.toNat) none:=by
 simp only [index]
 by_cases h:0≤i∧i<n
 ·rw [if_pos h,decide_eq_true h];rfl
 ·rw [if_neg h,decide_eq_false h];rfl
theorem X0 {k:IntKind} {i:Int} {n:Nat} (h0:0≤i) (h:i<n):index (.int k i) n=some i.toNat:=by
 simp only [index]
 rw [if_pos ⟨h0,h⟩]
end
end Go.Proofs.YtioijcfcehhmdaaGreatDoor

namespace Go.Proofs.YtioijcfcehhmdaaGreatDoor
open V
def rP (n:Nat):List PV→Option (List oJ)
 |[.list sz es]=>if sz=n∧es.length≤lim then some [(.list sz es,true)] else none
 |_=>none
def Jq:PV→Option UInt8
 |.int .u8 n=>if 0≤n∧n<256 then some (UInt8.ofNat n.toNat) else none
 |_=>none
def oP {α:Type} (f:PV→Option α):List PV→Option (List α)
 |[]=>some []
 |p :: l=>match f p with
  |some x=>match oP f l with
   |some xs=>some (x :: xs)
   |none=>none
  |none=>none
def EW:PV→Option fP
 |.agg cs=>match oP Jq cs with
  |some l=>if h:l.length=8 then some ⟨l.toArray,by simpa using h⟩ else none
  |none=>none
 |_=>none
def xk:PV→Option (List fP)
 |.list 8 es=>oP EW es
 |_=>none
def qw (n:Int):Bool:=decide (-9223372036854775808≤n)&&decide (n≤9223372036854775807)
def CQ:PV→Option iM
 |.agg [.int .i64 v,.int .i64 s,d]=>match xk d with
  |some d=>if qw v&&qw s then some ⟨v,s,d⟩ else none
  |none=>none
 |_=>none
theorem aaW {p:PV} {x:UInt8} (h:Jq p=some x):p=.int .u8 (x.toNat:Int):=by
 unfold Jq at h
 split at h
 case h_2=>cases h
 rename_i n
 split at h
 case isFalse=>cases h
 cases h
 rw [UInt8.toNat_ofNat_of_lt' (show n.toNat<2 ^ 8 by omega)]
 congr 1;omega
theorem X3 (x:UInt8):Jq (.int .u8 (x.toNat:Int))=some x:=by
 have:=x.toNat_lt
 unfold Jq
 simp only
 rw [if_pos (by omega)]
 simp
theorem pR {α:Type} {f:PV→Option α} {enc:α→PV} (hf:∀ p x,f p=some x→p=enc x):∀ {l:List PV} {xs:List α},oP f l=some xs→l=xs.map enc
 |[],_,h=>by cases h;rfl
 |p :: l,xs,h=>by
  unfold oP at h
  split at h
  case h_2=>cases h
  rename_i x hx
  split at h
  case h_2=>cases h
  rename_i ys hy
  cases h
  rw [List.map_cons,← hf p x hx,← pR hf hy]
theorem nO {α:Type} {f:PV→Option α} {enc:α→PV}:∀ {l:List α},(∀ x∈l,f (enc x)=some x)→oP f (l.map enc)=some l
 |[],_=>rfl
 |x :: l,h=>by
  simp only [List.map_cons,oP,h x (by simp),nO (l:=l) fun y hy=>h y (by simp [hy])]
theorem X4 {p:PV} {x:fP} (h:EW p=some x):p=ni x:=by
 unfold EW at h
 split at h
 case h_2=>cases h
 rename_i cs
 split at h
 case h_2=>cases h
 rename_i l hl
 split at h
 case isFalse=>cases h
 rename_i h8
 cases h
 rw [pR (fun p x=>aaW) hl]
 simp [ni,oz,Vector.toList]
theorem Uk (x:fP):EW (ni x)=some x:=by
 unfold EW ni oz
 simp only
 rw [nO (f:=Jq) (enc:=fun b:UInt8=>.int .u8 (b.toNat:Int)) fun b _=>X3 b]
 simp
 rfl
theorem EX {p:PV} {x:List fP} (h:xk p=some x):p=bF x:=by
 unfold xk at h
 split at h
 case h_2=>cases h
 rw [pR (fun p x=>X4) h];rfl
theorem CU (x:List fP):xk (bF x)=some x:=by
 unfold xk bF
 simp only
 exact nO fun x _=>Uk x
theorem aaX {p:PV} {x:iM} (h:CQ p=some x):p=jL x:=by
 unfold CQ at h
 split at h
 case h_2=>cases h
 split at h
 case h_2=>cases h
 rename_i d hd
 split at h
 case isFalse=>cases h
 cases h
 have:=EX hd
 rw [this];rfl
theorem aaY {p:PV} {x:iM} (h:CQ p=some x):qw x.volume=true∧qw x.start=true:=by
 unfold CQ at h
 split at h
 case h_2=>cases h
 split at h
 case h_2=>cases h
 split at h
 case isFalse=>cases h
 rename_i hc
 cases h
 simpa using hc
theorem X5 (x:iM) (h1:qw x.volume=true) (h2:qw x.start=true):CQ (jL x)=some x:=by
 have:=CU x.data
 unfold bF at this
 simp only [CQ,jL,this,h1,h2,Bool.and_self,if_true]
def xW (l:List Int):Int:=if l.length<1∨8<l.length then 6 else if l.any (fun n=>decide (n<1) || decide (n > 4096)) then 2 else 0
def dR (im:List (List fP)):List Int:=im.map fun v=>(v.length:Int)
def xX (sz:List Int) (w:iM):Int :=
 if w.volume<0∨(sz.length:Int)≤w.volume then 7 else if w.data.length=0 then 1
 else if w.start<0∨(sz.getD w.volume.toNat 0) - w.data.length<w.start then 2 else 0
def putAt (l:List fP) (s:Nat) (d:List fP):List fP:=l.take s++d++l.drop (s+d.length)
def X6 (im:List (List fP)) (w:iM):List (List fP):=im.set w.volume.toNat (putAt (im.getD w.volume.toNat []) w.start.toNat w.data)
def rQ (sz:List Int):List iM→Nat→Int × Int
 |[],_=>(0,0)
 |w :: l,i=>if xX sz w≠0 then (i,xX sz w) else rQ sz l (i+1)
def DR (im:List (List fP)) (l:List iM):Int:=if xW (dR im)≠0 then xW (dR im) else (rQ (dR im) l 0).2
def apI (im:List (List fP)) (l:List iM):Int:=if xW (dR im)≠0 then 0 else (rQ (dR im) l 0).1
def EY (im:List (List fP)) (l:List iM):List (List fP):=if DR im l=0 then l.foldl X6 im else []
def uw:List PV→Option (List oJ)
 |[.list 1 im,.list 3 l]=>match oP xk im with
  |some im=>match oP CQ l with
   |some l=>if im.length≤1000000∧im.all (fun v=>decide (v.length≤1000000))=true then some [(.list 1 ((EY im l).map bF),false),(.int .i64 (apI im l),false),(.int .i64 (DR im l),false)] else none
   |none=>none
  |none=>none
 |_=>none
theorem X7 {args:List PV} {rs:List oJ} (h:uw args=some rs):∃ (im:List (List fP)) (l:List iM),args=[.list 1 (im.map bF),.list 3 (l.map jL)]∧(∀ w∈l,qw w.volume=true∧qw w.start=true)∧im.length≤1000000∧(∀ v∈im,v.length≤1000000) ∧
  rs=[(.list 1 ((EY im l).map bF),false),(.int .i64 (apI im l),false),(.int .i64 (DR im l),false)]:=by
 unfold uw at h
 split at h
 case h_2=>cases h
 split at h
 case h_2=>cases h
 rename_i im hi
 split at h
 case h_2=>cases h
 rename_i l hl
 split at h
 case isFalse=>cases h
 rename_i hc
 cases h
 refine ⟨im,l,by rw [pR (fun p x=>EX) hi,pR (fun p x=>aaX) hl],?_,hc.1,fun v hv=>by simpa using List.all_eq_true.1 hc.2 v hv,rfl⟩
 have:∀ {q:List PV} {xs:List iM},oP CQ q=some xs→∀ w∈xs,qw w.volume=true∧qw w.start=true:=by
  intro q
  induction q with
  |nil=>intro xs h;cases h;simp
  |cons p q ih =>
   intro xs h
   unfold oP at h
   split at h
   case h_2=>cases h
   rename_i x hx
   split at h
   case h_2=>cases h
   rename_i ys hy
   cases h
   simp only [List.mem_cons,forall_eq_or_imp]
   exact ⟨aaY hx,ih hy⟩
 exact this hl
theorem Ul {im:List (List fP)} {l:List iM} (h1:∀ w∈l,qw w.volume=true∧qw w.start=true) (h2:im.length≤1000000) (h3:∀ v∈im,v.length≤1000000) :
  uw [.list 1 (im.map bF),.list 3 (l.map jL)]=some [(.list 1 ((EY im l).map bF),false),(.int .i64 (apI im l),false),(.int .i64 (DR im l),false)]:=by
 simp only [uw]
 rw [nO fun x _=>CU x,nO fun x hx=>X5 x (h1 x hx).1 (h1 x hx).2]
 simp only
 rw [if_pos ⟨h2,List.all_eq_true.2 fun v hv=>by simpa using h3 v hv⟩]
end Go.Proofs.YtioijcfcehhmdaaGreatDoor

namespace Go.Proofs.YtioijcfcehhmdaaGreatDoor
structure End where
 pos:Nat
 list:Nat
 step:Int
 deriving DecidableEq,Inhabited
def jf (e:End):PV:=.agg [.int .i64 (e.pos:Int),.int .i64 (e.list:Int),.int .i64 e.step]
def EZ:PV→Option End
 |.agg [.int .i64 a,.int .i64 b,.int .i64 c]=>if 0≤a∧0≤b then some ⟨a.toNat,b.toNat,c⟩ else none
 |_=>none
theorem Um (e:End):EZ (jf e)=some e:=by
 simp [EZ,jf]
theorem X8 {p:PV} {e:End} (h:EZ p=some e):p=jf e:=by
 unfold EZ at h
 split at h
 ·split at h
  ·rename_i hc
   cases h
   simp only [jf,Int.toNat_of_nonneg hc.1,Int.toNat_of_nonneg hc.2]
  ·cases h
 ·cases h
def uP (x y:End):Bool:=decide (x.pos<y.pos)
def qZ (l:List End):List End:=(Sort.pdq uP l.toArray 0 l.length (Lib.bitLen l.length) true true).toList
def lF (g:Nat):PV→List PV→Option (List PV)
 |.func f [],es=>if f=g then if es.length≤1000000 then (oP EZ es).map fun l=>(qZ l).map jf else none else none
 |_,_=>none
theorem Ig {g:Nat} {l:List End} (h:l.length≤1000000):lF g (.func g []) (l.map jf)=some ((qZ l).map jf):=by
 unfold lF
 simp only [if_true,List.length_map,h]
 rw [nO fun x _=>Um x]
 rfl
theorem KX {g:Nat} {c:PV} {es es':List PV} (h:lF g c es=some es'):∃ l:List End,c=.func g []∧es=l.map jf∧l.length≤1000000∧es'=(qZ l).map jf:=by
 unfold lF at h
 split at h
 ·split at h
  ·rename_i hg
   split at h
   ·rename_i hl
    obtain ⟨l,h1,h2⟩:=Option.map_eq_some_iff.1 h
    have:=pR (fun p x h=>X8 h) h1
    subst this
    exact ⟨l,by rw [hg],rfl,by simpa using hl,h2.symm⟩
   ·cases h
  ·cases h
 ·cases h
end Go.Proofs.YtioijcfcehhmdaaGreatDoor

namespace Go.Proofs
open Go.Shelf
def Tryz.tz_ren:Go.Shelf.Ren:=⟨fun|29=>150|n=>n,fun|22=>144|3=>3|4=>4|25=>180|54=>204|0=>0|5=>5|n=>n,fun|1=>0|n=>n⟩
theorem Tryz.tz:Go.Proofs.Lays7.n29 Tryz.prog Tryz.tz_ren:={
 mixed:=by kernel_rfl
 f29:=Tryz.func150.trans (congrArg some (by kernel_rfl))
 t0:=Tryz.underlying0
 a0:=Tryz.isAgg0
 z0:=Tryz.sizeOf0
 v0:=Tryz.zeroValue0
 i0:=by kernel_rfl
 t3:=Tryz.underlying3
 a3:=Tryz.isAgg3
 z3:=Tryz.sizeOf3
 v3:=Tryz.zeroValue3
 i3:=by kernel_rfl
 t4:=Tryz.underlying4
 a4:=Tryz.isAgg4
 z4:=Tryz.sizeOf4
 v4:=Tryz.zeroValue4
 i4:=by kernel_rfl
 t5:=Tryz.underlying5
 a5:=Tryz.isAgg5
 z5:=Tryz.sizeOf5
 v5:=Tryz.zeroValue5
 i5:=by kernel_rfl
 t22:=Tryz.underlying144
 a22:=Tryz.isAgg144
 z22:=Tryz.sizeOf144
 v22:=Tryz.zeroValue144
 i22:=by kernel_rfl
 t25:=Tryz.underlying180
 a25:=Tryz.isAgg180
 z25:=Tryz.sizeOf180
 v25:=Tryz.zeroValue180
 i25:=by kernel_rfl
 t54:=Tryz.underlying204
 a54:=Tryz.isAgg204
 z54:=Tryz.sizeOf204
 g1:=by kernel_rfl }
end Go.Proofs

namespace Go.Proofs.YtioijcfcehhmdaaGreatDoor
open Go.RowKit Go.Shelf
def tzX:List PV→Option (List oJ)
 |[.int .u64 n]=>if 0≤n∧n<18446744073709551616 then some [(.int .i64 (Lib.ctz 64 n.toNat:Nat),false)] else none
 |_=>none
theorem ahU {T:Tags} {w:World} (h:kK T w):TabAt 0 Lib.deBruijn64tab w:=fun j hj=>by
 have hp:=h _ (List.mem_singleton.2 rfl)
 obtain ⟨b,off,e1,_,_,h3⟩:=hp.sF
 obtain ⟨eb,eo⟩:0=b∧0=off+0:=by
  injection e1 with e1
  injection e1 with e1
  injection e1 with e2 e3
  exact ⟨e2,e3⟩
 have eo:off=0:=by omega
 subst eb;subst eo
 obtain ⟨u,c1,_,c2⟩:=h3 j (PV.int .u8 ((Lib.deBruijn64tab[j]:Nat):Int)) (by simp [List.getElem?_eq_getElem hj])
 rw [c2.bM] at c1
 rw [show Lib.deBruijn64tab.getD j 0=Lib.deBruijn64tab[j] by simp [List.getD_eq_getElem?_getD,List.getElem?_eq_getElem hj]]
 simpa using c1
theorem akH:∀ args rs,tzX args=some rs→callable Tryz.prog 150=true∧lU Tryz.prog 150 args rs:=fun args rs h=>by
 unfold tzX at h
 split at h
 case h_2=>cases h
 rename_i n
 split at h
 case isFalse=>cases h
 rename_i hn
 cases h
 refine ⟨by kernel_rfl,fun T0 w vs h1 h2 h3 h4 hG=>?_⟩
 match vs,h3 with
 |[v],_ =>
  have hv:=(h4 0 _ v rfl rfl).bM
  subst hv
  have hc:=Any7.bits_TrailingZeros64 Tryz.tz n.toNat (by omega) w (fun _=>ahU hG)
  rw [Int.toNat_of_nonneg hn.1] at hc
  refine Calls.mono hc ?_
  rintro e w' ⟨rfl,rfl⟩
  refine ⟨_,T0,rfl,Below.refl _ _,fun _ _=>rfl,h2,#[_],rfl,rfl,fun i r u hr hu=>?_⟩
  match i with
  |0=>cases hr;cases hu;exact .int _ _
  |i+1=>simp at hr
end Go.Proofs.YtioijcfcehhmdaaGreatDoor

namespace Go.Proofs.YtioijcfcehhmdaaGreatDoor
def uy:List PV→Option (Option (Nat × Int))
 |[.bool true,.int .i64 _]=>some none
 |[.bool false,.int .i64 n]=>some (some (148,n))
 |_=>none
end Go.Proofs.YtioijcfcehhmdaaGreatDoor

namespace Go.Proofs.YtioijcfcehhmdaaGreatDoor
def fn6:gW:=⟨3,152,[.tmp 6],(.seq (.ops [.box 3 (.t 0),.aF 6 (.c (.bool false))]) (.seq (.seq (.ops [.load 27 (some 4) (.t 3),.call 28 22 [(.t 27)],.un 29 .not (.t 28)]) (.cond (.t 29) (.seq (.ops [.call 30 11 [],.aF 6 (.t 30)]) .ret) .skip)) (.seq (.ops [.load 32 (some 4) (.t 3),.call 33 23 [(.t 32)],.aj 31 (.t 33),.ext 34 (.t 31) 0,.ext 35 (.t 31) 1,.ext 36 (.t 31) 2,.alloc 7 [(.int .i64 0),(.list 0 []),(.list 0 []),(.list 0 [])],.alloc 8 [(.int .i64 0),(.list 0 []),(.list 0 []),(.list 0 [])],.store none 4 (.t 7) (.t 34),.store none 4 (.t 8) (.t 35),.aF 9 (.t 36)]) (.seq (.ops [.load 38 (some 4) (.t 7),.load 39 (some 4) (.t 8),.call 40 24 [(.t 38),(.t 39),(.c (.int .i64 3))],.aj 37 (.t 40),.ext 41 (.t 37) 0,.ext 42 (.t 37) 1,.ext 43 (.t 37) 2,.alloc 10 [(.int .i64 0),(.int .i64 0),(.int .i64 0),(.int .i64 0),(.int .i64 0),(.int .i64 0),(.bool false),(.bool false)],.store none 8 (.t 10) (.t 41),.aF 11 (.t 42),.aF 12 (.t 43)]) (.seq (.ops [.load 45 (some 8) (.t 10),.load 46 (some 4) (.t 8),.call 47 12 [(.t 45),(.t 46),(.c (.int .i64 9)),(.c (.int .i64 0))],.aj 44 (.t 47),.ext 48 (.t 44) 0,.ext 49 (.t 44) 1,.ext 50 (.t 44) 2,.alloc 13 [(.int .i64 0),(.int .i64 0),(.int .i64 0),(.int .i64 0),(.int .i64 0),(.int .i64 0),(.bool false),(.bool false)],.alloc 14 [(.int .i64 0),(.int .i64 0),(.int .i64 0),(.list 1 []),(.list 3 [])],.store none 8 (.t 13) (.t 48),.store none 5 (.t 14) (.t 49),.aF 15 (.t 50)]) (.seq (.seq (.ops [.aj 51 (.t 9),.un 52 .not (.t 51),.aj 53 (.t 52),.grd 53 false (.aj 54 (.t 12)),.grd 53 false (.bin 55 .neq (.t 54) (.c (.int .i64 0))),.pick 56 (.t 53) (.c (.bool true)) (.t 55),.aj 57 (.t 56),.grd 57 false (.aj 58 (.t 15)),.grd 57 false (.bin 59 .neq (.t 58) (.c (.int .i64 0))),.pick 60 (.t 57) (.c (.bool true)) (.t 59),.aj 61 (.t 60),.grd 61 false (.aG 62 (.t 8) 3),.grd 61 false (.load 63 none (.t 62)),.grd 61 false (.len 64 (.t 63)),.grd 61 false (.bin 65 .eql (.t 64) (.c (.int .i64 0))),.pick 66 (.t 61) (.c (.bool true)) (.t 65)]) (.cond (.t 66) (.seq (.ops [.aF 6 (.c (.bool false))]) .ret) .skip)) (.seq (.ops [.load 68 (some 8) (.t 13),.load 69 (some 4) (.t 8),.aG 70 (.t 14) 1,.load 71 none (.t 70),.call 72 12 [(.t 68),(.t 69),(.t 71),(.c (.int .i64 0))],.aj 67 (.t 72),.ext 73 (.t 67) 0,.ext 74 (.t 67) 1,.ext 75 (.t 67) 2,.alloc 16 [(.int .i64 0),(.int .i64 0),(.int .i64 0),(.int .i64 0),(.int .i64 0),(.int .i64 0),(.bool false),(.bool false)],.alloc 17 [(.int .i64 0),(.int .i64 0),(.int .i64 0),(.list 1 []),(.list 3 [])],.store none 8 (.t 16) (.t 73),.store none 5 (.t 17) (.t 74),.aF 18 (.t 75)]) (.seq (.ops [.load 77 (some 8) (.t 10),.load 78 (some 4) (.t 7),.load 79 (some 4) (.t 8),.call 80 15 [(.t 77),(.t 78),(.t 79)],.aj 76 (.t 80),.ext 81 (.t 76) 0,.ext 82 (.t 76) 1,.alloc 19 [(.int .i64 0),(.int .i64 0),(.int .i64 0),(.int .i64 0),(.int .i64 0),(.int .i64 0),(.bool false),(.bool false)],.store none 8 (.t 19) (.t 81),.aF 20 (.t 82)]) (.seq (.ops [.aG 83 (.t 8) 3,.load 84 none (.t 83),.call 85 25 [(.t 84)],.aG 86 (.t 7) 3,.store none 1 (.t 86) (.t 85)]) (.seq (.ops [.aj 87 (.t 1),.conv 88 .i64 (.t 87),.aG 89 (.t 7) 3,.load 90 none (.t 89),.len 91 (.t 90),.bin 92 .rem (.t 88) (.t 91),.aF 21 (.t 92)]) (.seq (.seq (.ops [.aG 93 (.t 7) 3,.load 94 none (.t 93),.aj 95 (.t 21),.cu 96 1 (.t 94) (.t 95),.load 97 none (.t 96),.len 98 (.t 97),.bin 99 .eql (.t 98) (.c (.int .i64 0))]) (.cond (.t 99) (.seq (.ops [.aF 6 (.c (.bool false))]) .ret) .skip)) (.seq (.ops [.aj 100 (.t 2),.conv 101 .i64 (.t 100),.aG 102 (.t 7) 3,.load 103 none (.t 102),.aj 104 (.t 21),.cu 105 1 (.t 103) (.t 104),.load 106 none (.t 105),.len 107 (.t 106),.bin 108 .rem (.t 101) (.t 107),.aF 22 (.t 108)]) (.seq (.ops [.load 110 (some 8) (.t 13),.load 111 (some 4) (.t 7),.load 112 (some 4) (.t 8),.call 113 15 [(.t 110),(.t 111),(.t 112)],.aj 109 (.t 113),.ext 114 (.t 109) 0,.ext 115 (.t 109) 1,.alloc 23 [(.int .i64 0),(.int .i64 0),(.int .i64 0),(.int .i64 0),(.int .i64 0),(.int .i64 0),(.bool false),(.bool false)],.store none 8 (.t 23) (.t 114),.aF 24 (.t 115)]) (.seq (.y7 [] [] (some ([0,1,2,3,4,5,6,7,8,9,10,11],[],12,[])) [] [.aG 116 (.t 7) 3,.load 117 none (.t 116),.aj 118 (.t 21),.cu 119 1 (.t 117) (.t 118),.load 120 none (.t 119),.aj 121 (.t 22),.cu 122 8 (.t 120) (.t 121),.uT 123 (.t 122) (.c (.int .i64 0)) 8 1,.load 124 none (.t 123),.bin 125 .add (.t 124) (.c (.int .u8 1)),.cu 126 8 (.t 120) (.t 121),.uT 127 (.t 126) (.c (.int .i64 0)) 8 1,.store none 1 (.t 127) (.t 125)]) (.seq (.ops [.load 129 (some 8) (.t 13),.load 130 (some 4) (.t 7),.load 131 (some 4) (.t 8),.call 132 15 [(.t 129),(.t 130),(.t 131)],.aj 128 (.t 132),.ext 133 (.t 128) 0,.ext 134 (.t 128) 1,.alloc 25 [(.int .i64 0),(.int .i64 0),(.int .i64 0),(.int .i64 0),(.int .i64 0),(.int .i64 0),(.bool false),(.bool false)],.store none 8 (.t 25) (.t 133),.aF 26 (.t 134)]) (.seq (.ops [.aj 135 (.t 18),.bin 136 .eql (.t 135) (.c (.int .i64 2)),.aj 137 (.t 136),.grd 137 true (.aj 138 (.t 20)),.grd 137 true (.bin 139 .eql (.t 138) (.c (.int .i64 12))),.pick 140 (.t 137) (.t 139) (.c (.bool false)),.aj 141 (.t 140),.grd 141 true (.aj 142 (.t 24)),.grd 141 true (.bin 143 .eql (.t 142) (.c (.int .i64 0))),.pick 144 (.t 141) (.t 143) (.c (.bool false)),.aj 145 (.t 144),.grd 145 true (.aj 146 (.t 26)),.grd 145 true (.bin 147 .eql (.t 146) (.c (.int .i64 22))),.pick 148 (.t 145) (.t 147) (.c (.bool false)),.aj 149 (.t 148),.grd 149 true (.call 150 11 []),.pick 151 (.t 149) (.t 150) (.c (.bool false)),.aF 6 (.t 151)]) .ret))))))))))))))))⟩
def aaZ:gW:=⟨0,208,[.tmp 0],(.seq (.ops [.aF 0 (.c (.bool false))]) (.seq (.ops [.iq 29 1 [(.c (.int .i64 3))],.aF 1 (.t 29)]) (.seq (.ops [.aj 31 (.t 1),.call 32 43 [(.c (.int .i64 0)),(.c (.int .u8 1))],.iq 33 3 [(.t 32)],.call 34 39 [(.t 31),(.t 33)],.aj 30 (.t 34),.ext 35 (.t 30) 0,.ext 36 (.t 30) 1,.aF 2 (.t 35),.aF 3 (.t 36)]) (.seq (.ops [.aj 38 (.t 1),.call 39 43 [(.c (.int .i64 2)),(.c (.int .u8 2))],.iq 40 3 [(.t 39)],.call 41 39 [(.t 38),(.t 40)],.aj 37 (.t 41),.ext 42 (.t 37) 0,.ext 43 (.t 37) 1,.aF 4 (.t 42),.aF 5 (.t 43)]) (.seq (.ops [.aj 45 (.t 1),.call 46 43 [(.c (.int .i64 0)),(.c (.int .u8 1))],.call 47 43 [(.c (.int .i64 2)),(.c (.int .u8 2))],.iq 48 3 [(.t 46),(.t 47)],.call 49 39 [(.t 45),(.t 48)],.aj 44 (.t 49),.ext 50 (.t 44) 0,.ext 51 (.t 44) 1,.aF 6 (.t 50),.aF 7 (.t 51)]) (.seq (.ops [.aj 53 (.t 1),.call 54 43 [(.c (.int .i64 1)),(.c (.int .u8 3))],.iq 55 3 [(.t 54)],.call 56 39 [(.t 53),(.t 55)],.aj 52 (.t 56),.ext 57 (.t 52) 0,.ext 58 (.t 52) 1,.aF 8 (.t 57),.aF 9 (.t 58)]) (.seq (.ops [.build 59 [(.int .u8 0),(.int .u8 0),(.int .u8 0),(.int .u8 0),(.int .u8 0),(.int .u8 0),(.int .u8 0),(.int .u8 0)] [(0,1,(.c (.int .u8 1)))],.build 60 [(.int .u8 0),(.int .u8 0),(.int .u8 0),(.int .u8 0),(.int .u8 0),(.int .u8 0),(.int .u8 0),(.int .u8 0)] [],.build 61 [(.int .u8 0),(.int .u8 0),(.int .u8 0),(.int .u8 0),(.int .u8 0),(.int .u8 0),(.int .u8 0),(.int .u8 0)] [],.iq 62 8 [(.t 59),(.t 60),(.t 61)],.iq 63 1 [(.t 62)],.build 64 [(.int .u8 0),(.int .u8 0),(.int .u8 0),(.int .u8 0),(.int .u8 0),(.int .u8 0),(.int .u8 0),(.int .u8 0)] [],.build 65 [(.int .u8 0),(.int .u8 0),(.int .u8 0),(.int .u8 0),(.int .u8 0),(.int .u8 0),(.int .u8 0),(.int .u8 0)] [],.build 66 [(.int .u8 0),(.int .u8 0),(.int .u8 0),(.int .u8 0),(.int .u8 0),(.int .u8 0),(.int .u8 0),(.int .u8 0)] [(0,1,(.c (.int .u8 2)))],.iq 67 8 [(.t 64),(.t 65),(.t 66)],.iq 68 1 [(.t 67)],.build 69 [(.int .u8 0),(.int .u8 0),(.int .u8 0),(.int .u8 0),(.int .u8 0),(.int .u8 0),(.int .u8 0),(.int .u8 0)] [],.build 70 [(.int .u8 0),(.int .u8 0),(.int .u8 0),(.int .u8 0),(.int .u8 0),(.int .u8 0),(.int .u8 0),(.int .u8 0)] [(0,1,(.c (.int .u8 3)))],.build 71 [(.int .u8 0),(.int .u8 0),(.int .u8 0),(.int .u8 0),(.int .u8 0),(.int .u8 0),(.int .u8 0),(.int .u8 0)] [(0,1,(.c (.int .u8 2)))],.iq 72 8 [(.t 69),(.t 70),(.t 71)],.iq 73 1 [(.t 72)],.aF 10 (.t 63),.aF 11 (.t 68),.aF 12 (.t 73)]) (.seq (.ops [.aj 75 (.t 10),.aj 76 (.t 2),.call 77 44 [(.t 75),(.t 76)],.aj 78 (.t 11),.aj 79 (.t 4),.call 80 45 [(.t 78),(.t 79)],.call 81 24 [(.t 77),(.t 80),(.c (.int .i64 3))],.aj 74 (.t 81),.ext 82 (.t 74) 0,.ext 83 (.t 74) 1,.ext 84 (.t 74) 2,.alloc 13 [(.int .i64 0),(.int .i64 0),(.int .i64 0),(.int .i64 0),(.int .i64 0),(.int .i64 0),(.bool false),(.bool false)],.store none 8 (.t 13) (.t 82),.aF 14 (.t 83),.aF 15 (.t 84)]) (.seq (.seq (.ops [.aj 85 (.t 15),.bin 86 .neq (.t 85) (.c (.int .i64 0)),.aj 87 (.t 86),.grd 87 false (.aG 88 (.t 13) 5),.grd 87 false (.load 89 none (.t 88)),.grd 87 false (.bin 90 .neq (.t 89) (.c (.int .i64 5))),.pick 91 (.t 87) (.c (.bool true)) (.t 90),.aj 92 (.t 91),.grd 92 false (.aG 93 (.t 13) 4),.grd 92 false (.load 94 none (.t 93)),.grd 92 false (.bin 95 .neq (.t 94) (.c (.int .i64 3))),.pick 96 (.t 92) (.c (.bool true)) (.t 95),.aj 97 (.t 96),.grd 97 false (.aj 98 (.t 14)),.grd 97 false (.build 99 [(.int .i64 0),(.int .i64 0)] [(0,1,(.c (.int .i64 0))),(1,1,(.c (.int .i64 1)))]),.grd 97 false (.build 100 [(.int .i64 0),(.int .i64 0)] [(0,1,(.c (.int .i64 2))),(1,1,(.c (.int .i64 1)))]),.grd 97 false (.iq 101 2 [(.t 99),(.t 100)]),.grd 97 false (.iq 102 1 [(.t 101)]),.grd 97 false (.call 103 27 [(.t 98),(.t 102)]),.grd 97 false (.un 104 .not (.t 103)),.pick 105 (.t 97) (.c (.bool true)) (.t 104)]) (.cond (.t 105) (.seq (.ops [.aF 0 (.c (.bool false))]) .ret) .skip)) (.seq (.drs [] [2,8,10,11,12,13,15,16,35,57,63,68,73] [.load 107 (some 8) (.t 13),.aj 108 (.t 11),.aj 109 (.t 6),.call 110 45 [(.t 108),(.t 109)],.call 111 12 [(.t 107),(.t 110),(.c (.int .i64 10)),(.c (.int .i64 0))],.aj 106 (.t 111),.ext 112 (.t 106) 0,.ext 113 (.t 106) 1,.ext 114 (.t 106) 2,.alloc 16 [(.int .i64 0),(.int .i64 0),(.int .i64 0),(.list 1 []),(.list 3 [])],.store none 8 (.t 13) (.t 112),.store none 5 (.t 16) (.t 113),.aF 15 (.t 114)]
      [⟨[([0,1,2],3),([],4),([5,6,7,8],9)],(some ([],[],10,[([],11)])),[12],[0,1,2,3,4,5,6,7,8,9,10,11,12],false⟩,⟨[([0,1,2],3),([],9),([],4)],(some ([5,6],[7,8],10,[([],11)])),[12],[0,1,2,3,9,4,5,6,7,8,10,11,12],false⟩,⟨[([0,1,2],9),([],3),([],4)],(some ([5,6],[7,8],10,[([],11)])),[12],[0,1,2,9,3,4,5,6,7,8,10,11,12],false⟩]) (.seq (.ops [.aj 116 (.t 10),.load 117 (some 5) (.t 16),.call 118 36 [(.t 116),(.t 117)],.aj 115 (.t 118),.ext 119 (.t 115) 0,.ext 120 (.t 115) 1,.aF 17 (.t 119),.aF 18 (.t 120)]) (.seq (.drs [] [2,8,10,11,12,13,15,16,17,18,20,35,57,63,68,73,119] [.load 122 (some 8) (.t 13),.aj 123 (.t 17),.aj 124 (.t 2),.call 125 44 [(.t 123),(.t 124)],.aj 126 (.t 12),.aj 127 (.t 8),.call 128 45 [(.t 126),(.t 127)],.call 129 15 [(.t 122),(.t 125),(.t 128)],.aj 121 (.t 129),.ext 130 (.t 121) 0,.ext 131 (.t 121) 1,.alloc 19 [(.int .i64 0),(.int .i64 0),(.int .i64 0),(.int .i64 0),(.int .i64 0),(.int .i64 0),(.bool false),(.bool false)],.store none 8 (.t 19) (.t 130),.aF 20 (.t 131)]
       [⟨[([0,1,2,4,5],3),([],6),([],7),([8,9,10],11)],(some ([],[],12,[])),[13],[0,1,2,4,5,3,6,7,8,9,10,11,12,13],false⟩,⟨[([0,1,2,4,5],3),([],6),([],11),([],7)],(some ([8,9],[10],12,[])),[13],[0,1,2,4,5,3,6,11,7,8,9,10,12,13],false⟩,⟨[([0,1,2,4,5],3),([],11),([],6),([],7)],(some ([8,9],[10],12,[])),[13],[0,1,2,4,5,3,11,6,7,8,9,10,12,13],false⟩,⟨[([0,1,2,4,5],11),([],3),([],6),([],7)],(some ([8,9],[10],12,[])),[13],[0,1,2,4,5,11,3,6,7,8,9,10,12,13],false⟩]) (.seq (.drs [] [2,8,10,11,12,13,15,16,17,18,20,21,22,35,57,63,68,73,119] [.load 133 (some 8) (.t 13),.aj 134 (.t 12),.aj 135 (.t 8),.call 136 45 [(.t 134),(.t 135)],.call 137 12 [(.t 133),(.t 136),(.c (.int .i64 11)),(.c (.int .i64 0))],.aj 132 (.t 137),.ext 138 (.t 132) 0,.ext 139 (.t 132) 1,.ext 140 (.t 132) 2,.alloc 21 [(.int .i64 0),(.int .i64 0),(.int .i64 0),(.list 1 []),(.list 3 [])],.store none 8 (.t 13) (.t 138),.store none 5 (.t 21) (.t 139),.aF 22 (.t 140)]
        [⟨[([0,1,2],3),([],4),([5,6,7,8],9)],(some ([],[],10,[([],11)])),[12],[0,1,2,3,4,5,6,7,8,9,10,11,12],false⟩,⟨[([0,1,2],3),([],9),([],4)],(some ([5,6],[7,8],10,[([],11)])),[12],[0,1,2,3,9,4,5,6,7,8,10,11,12],false⟩,⟨[([0,1,2],9),([],3),([],4)],(some ([5,6],[7,8],10,[([],11)])),[12],[0,1,2,9,3,4,5,6,7,8,10,11,12],false⟩]) (.seq (.ops [.aj 142 (.t 17),.load 143 (some 5) (.t 21),.call 144 36 [(.t 142),(.t 143)],.aj 141 (.t 144),.ext 145 (.t 141) 0,.ext 146 (.t 141) 1,.aF 23 (.t 145),.aF 24 (.t 146)]) (.seq (.drs [] [10,11,12,15,16,18,20,21,22,23,24,25,26,63,68,73,145] [.load 148 (some 8) (.t 13),.aj 149 (.t 23),.aj 150 (.t 2),.call 151 44 [(.t 149),(.t 150)],.aj 152 (.t 12),.aj 153 (.t 8),.call 154 45 [(.t 152),(.t 153)],.call 155 15 [(.t 148),(.t 151),(.t 154)],.aj 147 (.t 155),.ext 156 (.t 147) 0,.ext 157 (.t 147) 1,.alloc 25 [(.int .i64 0),(.int .i64 0),(.int .i64 0),(.int .i64 0),(.int .i64 0),(.int .i64 0),(.bool false),(.bool false)],.store none 8 (.t 25) (.t 156),.aF 26 (.t 157)]
         [⟨[([0,1,2,4,5],3),([],6),([],7),([8,9,10],11)],(some ([],[],12,[])),[13],[0,1,2,4,5,3,6,7,8,9,10,11,12,13],false⟩,⟨[([0,1,2,4,5],3),([],6),([],11),([],7)],(some ([8,9],[10],12,[])),[13],[0,1,2,4,5,3,6,11,7,8,9,10,12,13],false⟩,⟨[([0,1,2,4,5],3),([],11),([],6),([],7)],(some ([8,9],[10],12,[])),[13],[0,1,2,4,5,3,11,6,7,8,9,10,12,13],false⟩,⟨[([0,1,2,4,5],11),([],3),([],6),([],7)],(some ([8,9],[10],12,[])),[13],[0,1,2,4,5,11,3,6,7,8,9,10,12,13],false⟩]) (.seq (.ops [.aj 159 (.t 10),.aj 160 (.t 11),.call 161 17 [(.t 159),(.t 160)],.aj 158 (.t 161),.ext 162 (.t 158) 0,.ext 163 (.t 158) 1,.aF 27 (.t 162),.aF 28 (.t 163)]) (.seq (.seq (.ops [.aj 164 (.t 15),.aj 165 (.t 18),.bin 166 .add (.t 164) (.t 165),.aj 167 (.t 22),.bin 168 .add (.t 166) (.t 167),.aj 169 (.t 24),.bin 170 .add (.t 168) (.t 169),.aj 171 (.t 26),.bin 172 .add (.t 170) (.t 171),.aj 173 (.t 28),.bin 174 .add (.t 172) (.t 173),.bin 175 .neq (.t 174) (.c (.int .i64 0)),.aj 176 (.t 175),.grd 176 false (.aj 177 (.t 20)),.grd 176 false (.bin 178 .neq (.t 177) (.c (.int .i64 22))),.pick 179 (.t 176) (.c (.bool true)) (.t 178),.aj 180 (.t 179),.grd 180 false (.aG 181 (.t 16) 0),.grd 180 false (.load 182 none (.t 181)),.grd 180 false (.bin 183 .neq (.t 182) (.c (.int .i64 5))),.pick 184 (.t 180) (.c (.bool true)) (.t 183),.aj 185 (.t 184),.grd 185 false (.aG 186 (.t 21) 0),.grd 185 false (.load 187 none (.t 186)),.grd 185 false (.bin 188 .neq (.t 187) (.c (.int .i64 10))),.pick 189 (.t 185) (.c (.bool true)) (.t 188)]) (.cond (.t 189) (.seq (.ops [.aF 0 (.c (.bool false))]) .ret) .skip)) (.seq (.ops [.aG 190 (.t 25) 6,.load 191 none (.t 190),.aj 192 (.t 191),.grd 192 true (.aj 193 (.t 23)),.grd 192 true (.aj 194 (.t 12)),.grd 192 true (.call 195 37 [(.t 193),(.t 194)]),.pick 196 (.t 192) (.t 195) (.c (.bool false)),.aj 197 (.t 196),.grd 197 true (.load 198 (some 5) (.t 16)),.grd 197 true (.load 199 (some 5) (.t 21)),.grd 197 true (.iq 200 5 [(.t 198),(.t 199)]),.grd 197 true (.call 201 20 [(.t 200)]),.grd 197 true (.bin 202 .eql (.t 201) (.c (.int .i64 3))),.pick 203 (.t 197) (.t 202) (.c (.bool false)),.aj 204 (.t 203),.grd 204 true (.aj 205 (.t 27)),.grd 204 true (.bin 206 .eql (.t 205) (.c (.int .i64 2))),.pick 207 (.t 204) (.t 206) (.c (.bool false)),.aF 0 (.t 207)]) .ret))))))))))))))))))⟩
def KY:ak:=(.seq (.ops [.bin 71 .lss (.t 70) (.t 69)]) (.seq (.cond (.t 71) .skip (.exit 0)) (.seq (.block 1 (.seq (.ops [.cu 72 1 (.t 68) (.t 70),.load 73 none (.t 72),.aF 16 (.t 73)]) (.ops [.aj 74 (.t 14),.aj 75 (.t 16),.len 76 (.t 75),.iq 77 1 [(.t 76)],.app 78 1 (.t 74) (.t 77),.aF 14 (.t 78)]))) (.ops [.bin 79 .add (.t 70) (.c (.int .i64 1)),.aj 70 (.t 79)]))))
def KZ:ak :=
(.clean [2,8,9,10,11,14,68,69,70,78] [2,8,9,10,11,14] (.block 0 (.loop [2,8,9,10,11,14,68,69,70,78] KY)))
def Bq:nC:=⟨4,96,[.cell 8 (some 8),.cell 9 (some 5),.cell 10 none],(.ops [.box 4 (.t 0),.box 5 (.t 1),.alloc 8 [(.int .i64 0),(.int .i64 0),(.int .i64 0),(.int .i64 0),(.int .i64 0),(.int .i64 0),(.bool false),(.bool false)],.alloc 9 [(.int .i64 0),(.int .i64 0),(.int .i64 0),(.list 1 []),(.list 3 [])],.alloc 10 [(.int .i64 0)]]),(.seq (.ops [.load 18 (some 8) (.t 4),.build 19 [(.int .i64 0),(.int .i64 0),(.int .i64 0),(.int .i64 0),(.int .i64 0),(.int .i64 0),(.bool false),(.bool false)] [(0,8,(.t 18))],.alloc 11 [(.int .i64 0),(.int .i64 0),(.int .i64 0),(.int .i64 0),(.int .i64 0),(.int .i64 0),(.bool false),(.bool false)],.store none 8 (.t 11) (.t 19)]) (.seq (.Ar [.load 20 (some 8) (.t 11)] 21 48 [(.t 20)]) (.seq (.Ar [.load 22 (some 4) (.t 5),.call 23 50 [(.t 22)]] 24 49 [(.t 23)]) (.seq (.Ar [.aG 25 (.t 5) 0,.load 26 none (.t 25),.aG 27 (.t 11) 0,.aG 28 (.t 27) 1,.load 29 none (.t 28),.bin 30 .eql (.t 26) (.t 29)] 31 51 [(.t 30),(.c (.int .i64 1))]) (.seq (.Ar [.aG 32 (.t 11) 0,.aG 33 (.t 32) 6,.load 34 none (.t 33),.un 35 .not (.t 34)] 36 51 [(.t 35),(.c (.int .i64 12))]) (.seq (.Ar [.aG 37 (.t 11) 0,.aG 38 (.t 37) 3,.load 39 none (.t 38),.bin 40 .lss (.t 39) (.c (.int .i64 4096))] 41 51 [(.t 40),(.c (.int .i64 11))]) (.seq (.ops [.aG 43 (.t 5) 1,.load 44 none (.t 43),.call 45 52 [(.t 44)],.aj 42 (.t 45),.ext 46 (.t 42) 0,.ext 47 (.t 42) 1,.aF 12 (.t 46),.aF 13 (.t 47)]) (.seq (.Ar [.aj 48 (.t 2),.aG 49 (.t 11) 0,.aG 50 (.t 49) 5,.load 51 none (.t 50),.bin 52 .gtr (.t 48) (.t 51),.aj 53 (.t 52),.grd 53 true (.aj 54 (.t 2)),.grd 53 true (.aj 55 (.t 13)),.grd 53 true (.bin 56 .geq (.t 54) (.t 55)),.pick 57 (.t 53) (.t 56) (.c (.bool false))] 58 51 [(.t 57),(.c (.int .i64 2))]) (.seq (.y7 [] [([0,1,2,3,4,5],6)] (some ([7],[],8,[])) [] [.aG 59 (.t 11) 0,.aG 60 (.t 59) 5,.load 61 none (.t 60),.aj 62 (.t 2),.aj 63 (.t 3),.load 64 (some 4) (.t 5),.call 65 53 [(.t 64)],.build 66 [(.int .i64 0),(.int .i64 0),(.int .i64 0),(.list 1 []),(.list 3 [])] [(0,1,(.t 61)),(1,1,(.t 62)),(2,1,(.t 63)),(4,1,(.t 65))],.store none 5 (.t 9) (.t 66)]) (.seq (.ops [.aF 14 (.nil 1)]) (.seq (.seq (.ops [.aG 67 (.t 5) 3,.load 68 none (.t 67),.len 69 (.t 68),.aj 70 (.c (.int .i64 0))])
       KZ) (.seq (.Ar [.load 80 (some 5) (.t 9),.aj 81 (.t 14),.call 82 54 [(.t 80),(.t 81)]] 83 49 [(.t 82)]) (.seq (.ops [.aG 84 (.t 11) 0,.aG 85 (.t 84) 3,.load 86 none (.t 85),.bin 87 .add (.t 86) (.c (.int .i64 1)),.aG 88 (.t 11) 0,.aG 89 (.t 88) 3,.store none 1 (.t 89) (.t 87)]) (.seq (.ops [.aj 90 (.t 2),.aG 91 (.t 11) 0,.aG 92 (.t 91) 5,.store none 1 (.t 92) (.t 90)]) (.seq (.drs [] [8,9,10] [.aG 93 (.t 11) 0,.load 94 (some 8) (.t 93),.load 95 (some 5) (.t 9),.store none 8 (.t 8) (.t 94),.store none 5 (.t 9) (.t 95),.store none 1 (.t 10) (.c (.int .i64 0))] [⟨[],(some ([0,1],[],3,[([2],4),([],5)])),[],[0,1,3,2,4,5],false⟩,⟨[([0,1],2)],(some ([],[],3,[([],4),([],5)])),[],[0,1,2,3,4,5],false⟩]) .ret))))))))))))))),
148,10,47,(some (17,46,[(8,[(.int .i64 0),(.int .i64 0),(.int .i64 0),(.int .i64 0),(.int .i64 0),(.int .i64 0),(.bool false),(.bool false)]),(9,[(.int .i64 0),(.int .i64 0),(.int .i64 0),(.list 1 []),(.list 3 [])])]))⟩
def DT:ak:=(.seq (.ops [.bin 21 .lss (.t 20) (.t 19)]) (.seq (.cond (.t 21) .skip (.exit 0)) (.seq (.block 1 (.seq (.ops [.cu 22 4 (.t 18) (.t 20),.load 23 (some 4) (.t 22),.alloc 10 [(.int .i64 0),(.list 0 []),(.list 0 []),(.list 0 [])],.store none 4 (.t 10) (.t 23)]) (.Ar [.load 24 (some 4) (.t 10),.call 25 50 [(.t 24)]] 26 49 [(.t 25)]))) (.ops [.bin 27 .add (.t 20) (.c (.int .i64 1)),.aj 20 (.t 27)]))))
def La:ak :=
(.clean [4,5,6,7,8,18,19,20] [4,5,6,7,8] (.block 0 (.loop [4,5,6,7,8,18,19,20] DT)))
def Du:nC:=⟨3,64,[.cell 6 (some 8),.cell 7 none],(.ops [.box 3 (.t 0),.box 4 (.t 1),.box 5 (.t 2),.alloc 6 [(.int .i64 0),(.int .i64 0),(.int .i64 0),(.int .i64 0),(.int .i64 0),(.int .i64 0),(.bool false),(.bool false)],.alloc 7 [(.int .i64 0)]]),(.seq (.ops [.load 12 (some 8) (.t 3),.build 13 [(.int .i64 0),(.int .i64 0),(.int .i64 0),(.int .i64 0),(.int .i64 0),(.int .i64 0),(.bool false),(.bool false)] [(0,8,(.t 12))],.alloc 8 [(.int .i64 0),(.int .i64 0),(.int .i64 0),(.int .i64 0),(.int .i64 0),(.int .i64 0),(.bool false),(.bool false)],.store none 8 (.t 8) (.t 13)]) (.seq (.Ar [.load 14 (some 8) (.t 8)] 15 48 [(.t 14)]) (.seq (.seq (.ops [.load 16 (some 4) (.t 4),.load 17 (some 4) (.t 5),.iq 18 4 [(.t 16),(.t 17)],.len 19 (.t 18),.aj 20 (.c (.int .i64 0))])
   La) (.seq (.Ar [.aG 28 (.t 4) 0,.load 29 none (.t 28),.aG 30 (.t 8) 0,.aG 31 (.t 30) 2,.load 32 none (.t 31),.bin 33 .eql (.t 29) (.t 32),.aj 34 (.t 33),.grd 34 true (.aG 35 (.t 5) 0),.grd 34 true (.load 36 none (.t 35)),.grd 34 true (.aG 37 (.t 8) 0),.grd 34 true (.aG 38 (.t 37) 1),.grd 34 true (.load 39 none (.t 38)),.grd 34 true (.bin 40 .eql (.t 36) (.t 39)),.pick 41 (.t 34) (.t 40) (.c (.bool false))] 42 51 [(.t 41),(.c (.int .i64 1))]) (.seq (.Ar [.aG 43 (.t 8) 0,.aG 44 (.t 43) 6,.load 45 none (.t 44),.un 46 .not (.t 45),.aj 47 (.t 46),.grd 47 true (.aG 48 (.t 8) 0),.grd 47 true (.aG 49 (.t 48) 3),.grd 47 true (.load 50 none (.t 49)),.grd 47 true (.bin 51 .gtr (.t 50) (.c (.int .i64 0))),.pick 52 (.t 47) (.t 51) (.c (.bool false))] 53 51 [(.t 52),(.c (.int .i64 12))]) (.seq (.Ar [.aG 54 (.t 4) 3,.load 55 none (.t 54),.aG 56 (.t 5) 3,.load 57 none (.t 56),.call 58 37 [(.t 55),(.t 57)]] 59 51 [(.t 58),(.c (.int .i64 22))]) (.seq (.ops [.aG 60 (.t 8) 0,.aG 61 (.t 60) 6,.store none 1 (.t 61) (.c (.bool true))]) (.seq (.ops [.aG 62 (.t 8) 0,.load 63 (some 8) (.t 62),.store none 8 (.t 6) (.t 63),.store none 1 (.t 7) (.c (.int .i64 0))]) .ret)))))))),
148,7,47,(some (11,62,[(6,[(.int .i64 0),(.int .i64 0),(.int .i64 0),(.int .i64 0),(.int .i64 0),(.int .i64 0),(.bool false),(.bool false)])]))⟩
def afs:ak:=(.seq (.ops [.bin 31 .lss (.t 30) (.t 29)]) (.seq (.cond (.t 31) .skip (.exit 2)) (.seq (.block 3 (.seq (.ops [.cu 32 2 (.t 28) (.t 30),.load 33 (some 2) (.t 32),.alloc 12 [(.int .i64 0),(.int .i64 0)],.store none 2 (.t 12) (.t 33)]) (.ops [.aj 34 (.t 8),.aG 35 (.t 12) 1,.load 36 none (.t 35),.bin 37 .add (.t 34) (.t 36),.aF 8 (.t 37)]))) (.ops [.bin 38 .add (.t 30) (.c (.int .i64 1)),.aj 30 (.t 38)]))))
def aft:ak :=
(.clean [6,8,10,17,22,23,24,27,28,29,30] [4,5,6,8,17,22,23,24] (.block 2 (.loop [6,8,10,17,22,23,24,27,28,29,30] afs)))
def afu:ak:=(.seq (.ops [.bin 25 .lss (.t 24) (.t 23)]) (.seq (.cond (.t 25) .skip (.exit 0)) (.seq (.block 1 (.seq (.ops [.cu 26 1 (.t 22) (.t 24),.load 27 none (.t 26),.aF 10 (.t 27)]) (.seq (.ops [.aj 28 (.t 10),.len 29 (.t 28),.aj 30 (.c (.int .i64 0))])
    aft))) (.ops [.bin 39 .add (.t 24) (.c (.int .i64 1)),.aj 24 (.t 39)]))))
def afv:ak :=
(.clean [6,8,17,22,23,24] [4,5,8] (.block 0 (.loop [6,8,17,22,23,24] afu)))
def ahV:gW:=⟨2,41,[.tmp 4,.tmp 5],(.seq (.ops [.aF 4 (.c (.int .i64 0)),.aF 5 (.c (.int .i64 0))]) (.seq (.ops [.aj 14 (.t 0),.aj 15 (.t 1),.call 16 30 [(.t 14),(.t 15)],.aj 13 (.t 16),.ext 17 (.t 13) 0,.ext 18 (.t 13) 1,.aF 6 (.t 17),.aF 7 (.t 18)]) (.seq (.seq (.ops [.aj 19 (.t 7),.bin 20 .neq (.t 19) (.c (.int .i64 0))]) (.cond (.t 20) (.seq (.ops [.aj 21 (.t 7),.aF 4 (.c (.int .i64 0)),.aF 5 (.t 21)]) .ret) .skip)) (.seq (.ops [.aF 8 (.c (.int .i64 0))]) (.seq (.seq (.ops [.aj 22 (.t 6),.len 23 (.t 22),.aj 24 (.c (.int .i64 0))])
    afv) (.seq (.ops [.aj 40 (.t 8),.aF 4 (.t 40),.aF 5 (.c (.int .i64 0))]) .ret))))))⟩
def afw:ak:=(.seq (.ops [.bin 9 .lss (.t 8) (.t 7)]) (.seq (.cond (.t 9) .skip (.exit 0)) (.seq (.block 1 (.seq (.ops [.cu 10 5 (.t 6) (.t 8),.load 11 (some 5) (.t 10),.alloc 5 [(.int .i64 0),(.int .i64 0),(.int .i64 0),(.list 1 []),(.list 3 [])],.store none 5 (.t 5) (.t 11)]) (.ops [.aj 12 (.t 3),.aG 13 (.t 5) 4,.load 14 none (.t 13),.call 15 66 [(.t 14)],.bin 16 .add (.t 12) (.t 15),.aF 3 (.t 16)]))) (.ops [.bin 17 .add (.t 8) (.c (.int .i64 1)),.aj 8 (.t 17)]))))
def afx:ak :=
(.clean [0,3,6,7,8] [2,3] (.block 0 (.loop [0,3,6,7,8] afw)))
def ahW:gW:=⟨1,19,[.tmp 2],(.seq (.ops [.aF 2 (.c (.int .i64 0))]) (.seq (.ops [.aF 3 (.c (.int .i64 0))]) (.seq (.seq (.ops [.aj 6 (.t 0),.len 7 (.t 6),.aj 8 (.c (.int .i64 0))])
   afx) (.seq (.ops [.aj 18 (.t 3),.aF 2 (.t 18)]) .ret))))⟩
def zS:ak:=(.seq (.ops [.bin 30 .lss (.t 29) (.t 28)]) (.seq (.cond (.t 30) .skip (.exit 0)) (.seq (.block 1 (.seq (.ops [.cu 31 1 (.t 27) (.t 29),.load 32 none (.t 31),.aF 5 (.t 32)]) (.seq (.ops [.aG 34 (.t 1) 0,.load 35 none (.t 34),.aj 36 (.t 5),.call 37 38 [(.t 35),(.t 36)],.aj 33 (.t 37),.ext 38 (.t 33) 0,.ext 39 (.t 33) 1,.ext 40 (.t 33) 2,.aF 6 (.t 38),.aF 7 (.t 39),.aF 8 (.t 40)]) (.seq (.ops [.aj 41 (.t 8),.bin 42 .neq (.t 41) (.c (.int .i64 0)),.aj 43 (.t 42),.grd 43 false (.aj 44 (.t 5)),.grd 43 false (.call 45 65 [(.t 44)]),.grd 43 false (.un 46 .not (.t 45)),.pick 47 (.t 43) (.c (.bool true)) (.t 46)]) (.cond (.t 47) (.seq (.ops [.aF 2 (.c (.bool false))]) .ret) .skip))))) (.ops [.bin 48 .add (.t 29) (.c (.int .i64 1)),.aj 29 (.t 48)]))))
def Lc:ak :=
(.clean [1,3,16,27,28,29] [2] (.block 0 (.loop [1,3,16,27,28,29] zS)))
def Un:gW:=⟨1,49,[.tmp 2],(.seq (.ops [.box 1 (.t 0),.aF 2 (.c (.bool false))]) (.seq (.ops [.aG 9 (.t 1) 1,.load 10 none (.t 9),.aG 11 (.t 1) 2,.load 12 none (.t 11),.iq 13 1 [(.t 10),(.t 12)],.aG 14 (.t 1) 3,.load 15 none (.t 14),.Y3 16 (.t 13) (.t 15),.aF 3 (.t 16)]) (.seq (.seq (.ops [.aG 17 (.t 1) 0,.load 18 none (.t 17),.call 19 42 [(.t 18)],.un 20 .not (.t 19),.aj 21 (.t 20),.grd 21 false (.aG 22 (.t 1) 3),.grd 21 false (.load 23 none (.t 22)),.grd 21 false (.len 24 (.t 23)),.grd 21 false (.bin 25 .gtr (.t 24) (.c (.int .i64 8))),.pick 26 (.t 21) (.c (.bool true)) (.t 25)]) (.cond (.t 26) (.seq (.ops [.aF 2 (.c (.bool false))]) .ret) .skip)) (.seq (.seq (.ops [.aj 27 (.t 3),.len 28 (.t 27),.aj 29 (.c (.int .i64 0))])
   Lc) (.seq (.ops [.aF 2 (.c (.bool true))]) .ret)))))⟩
def aa0:gW:=⟨1,67,[.cell 2 (some 4),.cell 3 (some 4),.tmp 4],(.seq (.ops [.box 1 (.t 0),.alloc 2 [(.int .i64 0),(.list 0 []),(.list 0 []),(.list 0 [])],.alloc 3 [(.int .i64 0),(.list 0 []),(.list 0 []),(.list 0 [])],.aF 4 (.c (.bool false))]) (.seq (.ops [.aG 16 (.t 1) 0,.load 17 none (.t 16),.aG 18 (.t 1) 1,.load 19 none (.t 18),.call 20 38 [(.t 17),(.t 19)],.aj 15 (.t 20),.ext 21 (.t 15) 0,.ext 22 (.t 15) 1,.ext 23 (.t 15) 2,.aF 5 (.t 21),.aF 6 (.t 22),.aF 7 (.t 23)]) (.seq (.ops [.aG 25 (.t 1) 0,.load 26 none (.t 25),.aG 27 (.t 1) 2,.load 28 none (.t 27),.call 29 38 [(.t 26),(.t 28)],.aj 24 (.t 29),.ext 30 (.t 24) 0,.ext 31 (.t 24) 1,.ext 32 (.t 24) 2,.aF 8 (.t 30),.aF 9 (.t 31),.aF 10 (.t 32)]) (.seq (.y7 [] [([0,2,3],1),([],4)] none [5,6,7,8,9] [.load 34 (some 4) (.t 1),.aG 36 (.t 1) 1,.load 37 none (.t 36),.call 35 40 [(.t 34)],.call 38 39 [(.t 35),(.t 37)],.aj 33 (.t 38),.ext 39 (.t 33) 0,.ext 40 (.t 33) 1,.aF 11 (.t 39),.aF 12 (.t 40)]) (.seq (.y7 [] [([0,2,3],1),([],4)] none [5,6,7,8,9] [.load 42 (some 4) (.t 1),.aG 44 (.t 1) 2,.load 45 none (.t 44),.call 43 40 [(.t 42)],.call 46 39 [(.t 43),(.t 45)],.aj 41 (.t 46),.ext 47 (.t 41) 0,.ext 48 (.t 41) 1,.aF 13 (.t 47),.aF 14 (.t 48)]) (.seq (.ops [.aj 49 (.t 5),.aj 50 (.t 11),.call 51 44 [(.t 49),(.t 50)],.aj 52 (.t 8),.aj 53 (.t 13),.call 54 45 [(.t 52),(.t 53)],.aj 55 (.t 12),.aj 56 (.t 55),.grd 56 true (.aj 57 (.t 14)),.pick 58 (.t 56) (.t 57) (.c (.bool false)),.aj 59 (.t 58),.grd 59 true (.aj 60 (.t 7)),.grd 59 true (.bin 61 .eql (.t 60) (.c (.int .i64 0))),.pick 62 (.t 59) (.t 61) (.c (.bool false)),.aj 63 (.t 62),.grd 63 true (.aj 64 (.t 10)),.grd 63 true (.bin 65 .eql (.t 64) (.c (.int .i64 0))),.pick 66 (.t 63) (.t 65) (.c (.bool false)),.store none 4 (.t 2) (.t 51),.store none 4 (.t 3) (.t 54),.aF 4 (.t 66)]) .ret))))))⟩
def Dv:nC:=⟨3,80,[.cell 6 (some 8),.cell 7 none,.cell 8 none],(.ops [.box 3 (.t 0),.box 4 (.t 1),.alloc 6 [(.int .i64 0),(.int .i64 0),(.int .i64 0),(.int .i64 0),(.int .i64 0),(.int .i64 0),(.bool false),(.bool false)],.alloc 7 [(.list 1 [])],.alloc 8 [(.int .i64 0)]]),(.seq (.ops [.load 18 (some 4) (.t 3),.load 19 (some 4) (.t 4),.call 20 69 [(.t 18),(.t 19)],.aj 17 (.t 20),.ext 21 (.t 17) 0,.ext 22 (.t 17) 1,.store none 1 (.t 7) (.t 21),.aF 9 (.t 22)]) (.seq (.Ar [.aj 23 (.t 9)] 24 49 [(.t 23)]) (.seq (.Ar [.aG 25 (.t 3) 0,.load 26 none (.t 25),.call 27 70 [(.t 26)],.aj 28 (.t 27),.grd 28 true (.aG 29 (.t 4) 0),.grd 28 true (.load 30 none (.t 29)),.grd 28 true (.call 31 70 [(.t 30)]),.pick 32 (.t 28) (.t 31) (.c (.bool false))] 33 51 [(.t 32),(.c (.int .i64 2))]) (.seq (.Ar [.aG 34 (.t 3) 0,.load 35 none (.t 34),.aG 36 (.t 4) 0,.load 37 none (.t 36),.bin 38 .neq (.t 35) (.t 37)] 39 51 [(.t 38),(.c (.int .i64 1))]) (.seq (.ops [.aG 41 (.t 3) 1,.load 42 none (.t 41),.call 43 52 [(.t 42)],.aj 40 (.t 43),.ext 44 (.t 40) 0,.ext 45 (.t 40) 1,.aF 10 (.t 44),.aF 11 (.t 45)]) (.seq (.ops [.aG 47 (.t 4) 1,.load 48 none (.t 47),.call 49 52 [(.t 48)],.aj 46 (.t 49),.ext 50 (.t 46) 0,.ext 51 (.t 46) 1,.aF 12 (.t 50),.aF 13 (.t 51)]) (.seq (.Ar [.aj 52 (.t 2),.aj 53 (.t 10),.bin 54 .gtr (.t 52) (.t 53),.aj 55 (.t 54),.grd 55 true (.aj 56 (.t 2)),.grd 55 true (.aj 57 (.t 12)),.grd 55 true (.bin 58 .gtr (.t 56) (.t 57)),.pick 59 (.t 55) (.t 58) (.c (.bool false))] 60 51 [(.t 59),(.c (.int .i64 13))]) (.seq (.Ar [.aj 61 (.t 2),.bin 62 .leq (.t 61) (.c (.int .i64 1073741824))] 63 51 [(.t 62),(.c (.int .i64 2))]) (.seq (.ops [.aG 65 (.t 3) 1,.load 66 none (.t 65),.aG 67 (.t 4) 1,.load 68 none (.t 67),.call 69 71 [(.t 66),(.t 68)],.aj 64 (.t 69),.ext 70 (.t 64) 0,.ext 71 (.t 64) 1,.aF 14 (.t 70),.aF 15 (.t 71)]) (.seq (.drs [] [6,7,8] [.aG 72 (.t 4) 0,.load 73 none (.t 72),.aG 74 (.t 3) 0,.load 75 none (.t 74),.aj 76 (.t 2),.aj 77 (.t 14),.build 78 [(.int .i64 0),(.int .i64 0),(.int .i64 0),(.int .i64 0),(.int .i64 0),(.int .i64 0),(.bool false),(.bool false)] [(0,1,(.c (.int .i64 3))),(1,1,(.t 73)),(2,1,(.t 75)),(4,1,(.t 76)),(5,1,(.t 77))],.load 79 none (.t 7),.store none 8 (.t 6) (.t 78),.store none 1 (.t 7) (.t 79),.store none 1 (.t 8) (.c (.int .i64 0))] [⟨[],(some ([0,1,2,3,4,5,6],[],8,[([7],9),([],10)])),[],[0,1,2,3,4,5,6,8,7,9,10],false⟩,⟨[([0,1,2,3,4,5,6],7)],(some ([],[],8,[([],9),([],10)])),[],[0,1,2,3,4,5,6,7,8,9,10],false⟩]) .ret)))))))))),
148,8,47,(some (16,68,[(6,[(.int .i64 0),(.int .i64 0),(.int .i64 0),(.int .i64 0),(.int .i64 0),(.int .i64 0),(.bool false),(.bool false)]),(7,[(.list 1 [])])]))⟩
def afy:ak:=(.seq (.seq (.ops [.aj 6 (.t 4),.aj 7 (.t 0),.len 8 (.t 7),.bin 9 .lss (.t 6) (.t 8)]) (.cond (.t 9) .skip (.exit 0))) (.seq (.block 1 (.seq (.ops [.aF 5 (.nil 8)]) (.ops [.aj 12 (.t 3),.aj 13 (.t 5),.aj 14 (.t 0),.aj 15 (.t 4),.cu 16 1 (.t 14) (.t 15),.load 17 none (.t 16),.app 18 8 (.t 13) (.t 17),.iq 19 1 [(.t 18)],.app 20 1 (.t 12) (.t 19),.aF 3 (.t 20)]))) (.ops [.aj 10 (.t 4),.bin 11 .add (.t 10) (.c (.int .i64 1)),.aF 4 (.t 11)])))
def afz:ak :=
(.clean [0,3,4,20] [2,3] (.block 0 (.loop [0,3,4,20] afy)))
def ahX:gW:=⟨1,22,[.tmp 2],(.seq (.ops [.aF 2 (.nil 1)]) (.seq (.ops [.aF 3 (.nil 1)]) (.seq (.seq (.ops [.aF 4 (.c (.int .i64 0))])
   afz) (.seq (.ops [.aj 21 (.t 3),.aF 2 (.t 21)]) .ret))))⟩
def afA:ak:=(.seq (.seq (.ops [.aj 11 (.t 5),.aj 12 (.t 0),.len 13 (.t 12),.bin 14 .lss (.t 11) (.t 13)]) (.cond (.t 14) .skip (.exit 0))) (.seq (.block 1 (.seq (.y7 [] [([0,1,2,3,4,5,6,7],8)] none [9] [.aj 17 (.t 0),.aj 18 (.t 5),.cu 19 1 (.t 17) (.t 18),.load 20 none (.t 19),.aj 21 (.t 1),.aj 22 (.t 5),.cu 23 1 (.t 21) (.t 22),.load 24 none (.t 23),.call 25 75 [(.t 20),(.t 24)],.un 26 .not (.t 25)]) (.cond (.t 26) (.seq (.ops [.aF 4 (.c (.bool false))]) .ret) .skip))) (.ops [.aj 15 (.t 5),.bin 16 .add (.t 15) (.c (.int .i64 1)),.aF 5 (.t 16)])))
def afB:ak :=
(.clean [0,1,5] [4] (.block 0 (.loop [0,1,5] afA)))
def ahY:gW:=⟨2,27,[.tmp 4],(.seq (.ops [.aF 4 (.c (.bool false))]) (.seq (.seq (.ops [.aj 6 (.t 0),.len 7 (.t 6),.aj 8 (.t 1),.len 9 (.t 8),.bin 10 .neq (.t 7) (.t 9)]) (.cond (.t 10) (.seq (.ops [.aF 4 (.c (.bool false))]) .ret) .skip)) (.seq (.seq (.ops [.aF 5 (.c (.int .i64 0))])
   afB) (.seq (.ops [.aF 4 (.c (.bool true))]) .ret))))⟩
def afC:ak:=(.seq (.ops [.bin 18 .lss (.t 17) (.t 16)]) (.seq (.cond (.t 18) .skip (.exit 0)) (.seq (.block 1 (.seq (.ops [.aj 19 (.t 17),.aF 8 (.t 19)]) (.y7 [] [([0,1,2,3,4,5,6,7,8],9),([],10)] (some ([],[],11,[])) [12] [.aj 20 (.t 7),.aj 21 (.t 0),.aj 22 (.t 8),.cu 23 1 (.t 21) (.t 22),.load 24 none (.t 23),.aj 25 (.t 1),.aj 26 (.t 8),.cu 27 1 (.t 25) (.t 26),.load 28 none (.t 27),.call 29 77 [(.t 24),(.t 28)],.iq 30 1 [(.t 29)],.app 31 1 (.t 20) (.t 30),.aF 7 (.t 31)]))) (.ops [.bin 32 .add (.t 17) (.c (.int .i64 1)),.aj 17 (.t 32)]))))
def afD:ak :=
(.clean [0,1,7,16,17,31] [4,5,7] (.block 0 (.loop [0,1,7,16,17,31] afC)))
def ahZ:gW:=⟨2,34,[.tmp 4,.tmp 5],(.seq (.ops [.aF 4 (.nil 1),.aF 5 (.c (.int .i64 0))]) (.seq (.seq (.ops [.aj 9 (.t 0),.aj 10 (.t 1),.call 11 76 [(.t 9),(.t 10)],.aF 6 (.t 11)]) (.seq (.ops [.aj 12 (.t 6),.bin 13 .neq (.t 12) (.c (.int .i64 0))]) (.cond (.t 13) (.seq (.ops [.aj 14 (.t 6),.aF 4 (.nil 1),.aF 5 (.t 14)]) .ret) .skip))) (.seq (.ops [.aF 7 (.nil 1)]) (.seq (.seq (.ops [.aj 15 (.t 0),.len 16 (.t 15),.aj 17 (.c (.int .i64 0))])
   afD) (.seq (.ops [.aj 33 (.t 7),.aF 4 (.t 33),.aF 5 (.c (.int .i64 0))]) .ret)))))⟩
def aa1:gW:=⟨2,9,[.tmp 4],(.seq (.ops [.aF 4 (.nil 2)]) (.seq (.ops [.aj 5 (.t 0),.aj 6 (.t 1),.call 7 79 [(.t 5),(.t 6),(.c (.func 81 []))],.call 8 78 [(.t 7)],.aF 4 (.t 8)]) .ret))⟩
def DU:ak:=(.seq (.ops [.bin 22 .lss (.t 21) (.t 20)]) (.seq (.cond (.t 22) .skip (.exit 0)) (.seq (.block 1 (.seq (.ops [.cu 23 2 (.t 19) (.t 21),.load 24 (some 2) (.t 23),.alloc 9 [(.int .i64 0),(.int .i64 0)],.store none 2 (.t 9) (.t 24)]) (.seq (.ops [.load 26 (some 2) (.t 6),.load 27 (some 2) (.t 9),.call 28 84 [(.t 26),(.t 27)],.aj 25 (.t 28),.ext 29 (.t 25) 0,.ext 30 (.t 25) 1,.store none 2 (.t 6) (.t 29),.aF 7 (.t 30)]) (.seq (.ops [.aj 31 (.t 7),.bin 32 .neq (.t 31) (.c (.int .i64 0))]) (.cond (.t 32) (.seq (.ops [.build 33 [(.int .i64 0),(.list 1 [])] [],.aj 34 (.t 7),.store none 2 (.t 4) (.t 33),.aF 5 (.t 34)]) .ret) .skip))))) (.ops [.bin 35 .add (.t 21) (.c (.int .i64 1)),.aj 21 (.t 35)]))))
def Ld:ak :=
(.clean [1,4,6,19,20,21] [4,5,6] (.block 0 (.loop [1,4,6,19,20,21] DU)))
def Uo:gW:=⟨2,37,[.cell 4 (some 2),.tmp 5],(.seq (.ops [.alloc 4 [(.int .i64 0),(.list 1 [])],.aF 5 (.c (.int .i64 0))]) (.seq (.ops [.aj 11 (.t 0),.call 12 83 [(.t 11)],.aj 10 (.t 12),.ext 13 (.t 10) 0,.ext 14 (.t 10) 1,.alloc 6 [(.int .i64 0),(.list 1 [])],.store none 2 (.t 6) (.t 13),.aF 7 (.t 14)]) (.seq (.seq (.ops [.aj 15 (.t 7),.bin 16 .neq (.t 15) (.c (.int .i64 0))]) (.cond (.t 16) (.seq (.ops [.build 17 [(.int .i64 0),(.list 1 [])] [],.aj 18 (.t 7),.store none 2 (.t 4) (.t 17),.aF 5 (.t 18)]) .ret) .skip)) (.seq (.seq (.ops [.aj 19 (.t 1),.len 20 (.t 19),.aj 21 (.c (.int .i64 0))])
   Ld) (.seq (.ops [.load 36 (some 2) (.t 6),.store none 2 (.t 4) (.t 36),.aF 5 (.c (.int .i64 0))]) .ret)))))⟩
def afE:ak:=(.seq (.ops [.bin 22 .lss (.t 21) (.t 20)]) (.seq (.cond (.t 22) .skip (.exit 0)) (.seq (.block 1 (.seq (.ops [.cu 23 1 (.t 19) (.t 21),.load 24 none (.t 23),.aF 9 (.t 24)]) (.ops [.aj 25 (.t 7),.aj 26 (.t 9),.len 27 (.t 26),.iq 28 1 [(.t 27)],.app 29 1 (.t 25) (.t 28),.aF 7 (.t 29)]))) (.ops [.bin 30 .add (.t 21) (.c (.int .i64 1)),.aj 21 (.t 30)]))))
def afF:ak :=
(.clean [0,3,7,19,20,21,29] [0,3,4,5,7] (.block 0 (.loop [0,3,7,19,20,21,29] afE)))
def ah0:gW:=⟨2,47,[.tmp 4,.tmp 5],(.seq (.ops [.box 3 (.t 1),.aF 4 (.nil 1),.aF 5 (.c (.int .i64 0))]) (.seq (.seq (.ops [.aj 14 (.t 0),.call 15 85 [(.t 14)],.aF 6 (.t 15)]) (.seq (.ops [.aj 16 (.t 6),.bin 17 .neq (.t 16) (.c (.int .i64 0))]) (.cond (.t 17) (.seq (.ops [.aj 18 (.t 6),.aF 4 (.nil 1),.aF 5 (.t 18)]) .ret) .skip))) (.seq (.ops [.aF 7 (.nil 1)]) (.seq (.seq (.ops [.aj 19 (.t 0),.len 20 (.t 19),.aj 21 (.c (.int .i64 0))])
   afF) (.seq (.seq (.ops [.load 31 (some 5) (.t 3),.aj 32 (.t 7),.call 33 54 [(.t 31),(.t 32)],.aF 10 (.t 33)]) (.seq (.ops [.aj 34 (.t 10),.bin 35 .neq (.t 34) (.c (.int .i64 0))]) (.cond (.t 35) (.seq (.ops [.aj 36 (.t 10),.aF 4 (.nil 1),.aF 5 (.t 36)]) .ret) .skip))) (.seq (.ops [.aj 38 (.t 0),.aG 39 (.t 3) 4,.load 40 none (.t 39),.call 41 38 [(.t 38),(.t 40)],.aj 37 (.t 41),.ext 42 (.t 37) 0,.ext 43 (.t 37) 1,.ext 44 (.t 37) 2,.aF 11 (.t 42),.aF 12 (.t 43),.aF 13 (.t 44)]) (.seq (.ops [.aj 45 (.t 11),.aj 46 (.t 13),.aF 4 (.t 45),.aF 5 (.t 46)]) .ret)))))))⟩
def aa2:gW:=⟨2,8,[.tmp 4],(.seq (.ops [.aF 4 (.c (.bool false))]) (.seq (.ops [.aj 5 (.t 0),.aj 6 (.t 1),.call 7 86 [(.t 5),(.t 6),(.c (.func 87 []))],.aF 4 (.t 7)]) .ret))⟩
def DV:ak:=(.seq (.ops [.bin 24 .lss (.t 23) (.t 22)]) (.seq (.cond (.t 24) .skip (.exit 2)) (.seq (.block 3 (.seq (.ops [.cu 25 3 (.t 21) (.t 23),.load 26 (some 3) (.t 25),.alloc 11 [(.int .i64 0),(.int .i64 0),(.list 0 [])],.store none 3 (.t 11) (.t 26)]) (.seq (.ops [.aG 27 (.t 11) 0,.load 28 none (.t 27),.aj 29 (.t 7),.bin 30 .eql (.t 28) (.t 29)]) (.cond (.t 30) (.ops [.aj 31 (.t 9),.aG 32 (.t 11) 1,.load 33 none (.t 32),.aG 34 (.t 11) 2,.load 35 none (.t 34),.len 36 (.t 35),.build 37 [(.int .i64 0),(.int .i64 0)] [(0,1,(.t 33)),(1,1,(.t 36))],.iq 38 2 [(.t 37)],.app 39 2 (.t 31) (.t 38),.aF 9 (.t 39)]) .skip)))) (.ops [.bin 40 .add (.t 23) (.c (.int .i64 1)),.aj 23 (.t 40)]))))
def Le:ak :=
(.clean [0,1,6,7,8,9,14,15,16,21,22,23,39,53] [0,1,4,5,6,8,9,14,15,16,39,53] (.block 2 (.loop [0,1,6,7,8,9,14,15,16,21,22,23,39,53] DV)))
def Lh:ak:=(.seq (.ops [.bin 17 .lss (.t 16) (.t 15)]) (.seq (.cond (.t 17) .skip (.exit 0)) (.seq (.block 1 (.seq (.ops [.aj 18 (.t 16),.cu 19 1 (.t 14) (.t 16),.load 20 none (.t 19),.aF 7 (.t 18),.aF 8 (.t 20)]) (.seq (.ops [.aF 9 (.nil 2)]) (.seq (.seq (.ops [.aj 21 (.t 1),.len 22 (.t 21),.aj 23 (.c (.int .i64 0))])
     Le) (.seq (.ops [.aj 42 (.t 8),.aj 43 (.t 9),.call 44 33 [(.t 43),(.nil 2)],.call 45 35 [(.t 42),(.t 44)],.aj 41 (.t 45),.ext 46 (.t 41) 0,.ext 47 (.t 41) 1,.alloc 12 [(.int .i64 0),(.list 1 [])],.store none 2 (.t 12) (.t 46),.aF 13 (.t 47)]) (.seq (.seq (.ops [.aj 48 (.t 13),.bin 49 .neq (.t 48) (.c (.int .i64 0))]) (.cond (.t 49) (.seq (.ops [.aF 4 (.nil 2),.aF 5 (.c (.bool false))]) .ret) .skip)) (.ops [.aj 50 (.t 6),.load 51 (some 2) (.t 12),.iq 52 2 [(.t 51)],.app 53 2 (.t 50) (.t 52),.aF 6 (.t 53)]))))))) (.ops [.bin 54 .add (.t 16) (.c (.int .i64 1)),.aj 16 (.t 54)]))))
def Lj:ak :=
(.clean [0,1,6,14,15,16,39,53] [4,5,6] (.block 0 (.loop [0,1,6,14,15,16,39,53] Lh)))
def aa3:gW:=⟨2,56,[.tmp 4,.tmp 5],(.seq (.ops [.aF 4 (.nil 2),.aF 5 (.c (.bool false))]) (.seq (.ops [.aF 6 (.nil 2)]) (.seq (.seq (.ops [.aj 14 (.t 0),.len 15 (.t 14),.aj 16 (.c (.int .i64 0))])
   Lj) (.seq (.ops [.aj 55 (.t 6),.aF 4 (.t 55),.aF 5 (.c (.bool true))]) .ret))))⟩
def Ll:ak:=(.seq (.ops [.bin 10 .lss (.t 9) (.t 8)]) (.seq (.cond (.t 10) .skip (.exit 0)) (.seq (.block 1 (.seq (.ops [.cu 11 1 (.t 7) (.t 9),.load 12 none (.t 11),.aF 5 (.t 12)]) (.ops [.aj 13 (.t 3),.aj 14 (.t 5),.len 15 (.t 14),.iq 16 1 [(.t 15)],.app 17 1 (.t 13) (.t 16),.aF 3 (.t 17)]))) (.ops [.bin 18 .add (.t 9) (.c (.int .i64 1)),.aj 9 (.t 18)]))))
def Lm:ak :=
(.clean [3,7,8,9,17] [2,3] (.block 0 (.loop [3,7,8,9,17] Ll)))
def aa4:gW:=⟨1,20,[.tmp 2],(.seq (.ops [.box 1 (.t 0),.aF 2 (.nil 1)]) (.seq (.ops [.aF 3 (.nil 1)]) (.seq (.seq (.ops [.aG 6 (.t 1) 0,.load 7 none (.t 6),.len 8 (.t 7),.aj 9 (.c (.int .i64 0))])
   Lm) (.seq (.ops [.aj 19 (.t 3),.aF 2 (.t 19)]) .ret))))⟩
def Lp:ak:=(.seq (.seq (.ops [.aj 7 (.t 3),.aj 8 (.t 0),.len 9 (.t 8),.bin 10 .lss (.t 7) (.t 9)]) (.cond (.t 10) .skip (.exit 0))) (.seq (.block 1 (.seq (.ops [.aj 13 (.t 0),.aj 14 (.t 3),.cu 15 1 (.t 13) (.t 14),.load 16 none (.t 15),.len 17 (.t 16),.bin 18 .gtr (.t 17) (.c (.int .i64 24))]) (.cond (.t 18) (.seq (.ops [.aF 2 (.c (.bool false))]) .ret) .skip))) (.ops [.aj 11 (.t 3),.bin 12 .add (.t 11) (.c (.int .i64 1)),.aF 3 (.t 12)])))
def Lr:ak :=
(.clean [0,3] [2] (.block 0 (.loop [0,3] Lp)))
def aa5:gW:=⟨1,19,[.tmp 2],(.seq (.ops [.aF 2 (.c (.bool false))]) (.seq (.seq (.ops [.aj 4 (.t 0),.len 5 (.t 4),.bin 6 .gtr (.t 5) (.c (.int .i64 9))]) (.cond (.t 6) (.seq (.ops [.aF 2 (.c (.bool false))]) .ret) .skip)) (.seq (.seq (.ops [.aF 3 (.c (.int .i64 0))])
   Lr) (.seq (.ops [.aF 2 (.c (.bool true))]) .ret))))⟩
def ah1:gW:=⟨2,10,[.cell 4 (some 3)],(.seq (.ops [.alloc 4 [(.int .i64 0),(.int .i64 0),(.list 0 [])]]) (.seq (.ops [.aj 5 (.t 0),.aj 6 (.t 1),.build 7 [(.int .u8 0),(.int .u8 0),(.int .u8 0),(.int .u8 0),(.int .u8 0),(.int .u8 0),(.int .u8 0),(.int .u8 0)] [(0,1,(.t 6))],.iq 8 8 [(.t 7)],.build 9 [(.int .i64 0),(.int .i64 0),(.list 0 [])] [(1,1,(.t 5)),(2,1,(.t 8))],.store none 3 (.t 4) (.t 9)]) .ret))⟩
def aa6:gW:=⟨2,10,[.cell 4 (some 4)],(.seq (.ops [.alloc 4 [(.int .i64 0),(.list 0 []),(.list 0 []),(.list 0 [])]]) (.seq (.ops [.build 5 [(.int .i64 0),(.int .i64 0),(.int .i64 0)] [(0,1,(.c (.int .i64 1))),(1,1,(.c (.int .i64 1))),(2,1,(.c (.int .i64 7)))],.iq 6 3 [(.t 5)],.aj 7 (.t 1),.aj 8 (.t 0),.build 9 [(.int .i64 0),(.list 0 []),(.list 0 []),(.list 0 [])] [(0,1,(.c (.int .i64 0))),(1,1,(.t 6)),(2,1,(.t 7)),(3,1,(.t 8))],.store none 4 (.t 4) (.t 9)]) .ret))⟩
def aa7:gW:=⟨2,11,[.cell 4 (some 4)],(.seq (.ops [.alloc 4 [(.int .i64 0),(.list 0 []),(.list 0 []),(.list 0 [])]]) (.seq (.ops [.build 5 [(.int .i64 0),(.int .i64 0),(.int .i64 0)] [(0,1,(.c (.int .i64 1))),(1,1,(.c (.int .i64 1))),(2,1,(.c (.int .i64 5)))],.build 6 [(.int .i64 0),(.int .i64 0),(.int .i64 0)] [(0,1,(.c (.int .i64 2))),(1,1,(.c (.int .i64 6))),(2,1,(.c (.int .i64 9)))],.iq 7 3 [(.t 5),(.t 6)],.aj 8 (.t 1),.aj 9 (.t 0),.build 10 [(.int .i64 0),(.list 0 []),(.list 0 []),(.list 0 [])] [(0,1,(.c (.int .i64 1))),(1,1,(.t 7)),(2,1,(.t 8)),(3,1,(.t 9))],.store none 4 (.t 4) (.t 10)]) .ret))⟩
def ah2:gW:=⟨3,7,[],(.seq (.ops [.load 3 none (.t 0),.bin 4 .neq (.t 3) (.c (.int .i64 0))]) (.cond (.t 4) (.ops [.build 5 [(.int .i64 0),(.int .i64 0),(.int .i64 0),(.int .i64 0),(.int .i64 0),(.int .i64 0),(.bool false),(.bool false)] [],.build 6 [(.int .i64 0),(.int .i64 0),(.int .i64 0),(.list 1 []),(.list 3 [])] [],.store none 8 (.t 1) (.t 5),.store none 5 (.t 2) (.t 6)]) .skip))⟩
def sJ:gW:=⟨1,79,[],(.seq (.ops [.box 1 (.t 0)]) (.seq (.Ar [.aG 2 (.t 1) 0,.aG 3 (.t 2) 0,.load 4 none (.t 3),.bin 5 .eql (.t 4) (.c (.int .i64 3))] 6 51 [(.t 5),(.c (.int .i64 1))]) (.seq (.Ar [.aG 7 (.t 1) 0,.aG 8 (.t 7) 1,.load 9 none (.t 8),.call 10 70 [(.t 9)],.aj 11 (.t 10),.grd 11 true (.aG 12 (.t 1) 0),.grd 11 true (.aG 13 (.t 12) 2),.grd 11 true (.load 14 none (.t 13)),.grd 11 true (.call 15 70 [(.t 14)]),.pick 16 (.t 11) (.t 15) (.c (.bool false)),.aj 17 (.t 16),.grd 17 true (.aG 18 (.t 1) 0),.grd 17 true (.aG 19 (.t 18) 1),.grd 17 true (.load 20 none (.t 19)),.grd 17 true (.aG 21 (.t 1) 0),.grd 17 true (.aG 22 (.t 21) 2),.grd 17 true (.load 23 none (.t 22)),.grd 17 true (.bin 24 .neq (.t 20) (.t 23)),.pick 25 (.t 17) (.t 24) (.c (.bool false))] 26 51 [(.t 25),(.c (.int .i64 2))]) (.seq (.Ar [.aG 27 (.t 1) 0,.aG 28 (.t 27) 3,.load 29 none (.t 28),.bin 30 .geq (.t 29) (.c (.int .i64 0)),.aj 31 (.t 30),.grd 31 true (.aG 32 (.t 1) 0),.grd 31 true (.aG 33 (.t 32) 3),.grd 31 true (.load 34 none (.t 33)),.grd 31 true (.bin 35 .leq (.t 34) (.c (.int .i64 4096))),.pick 36 (.t 31) (.t 35) (.c (.bool false)),.aj 37 (.t 36),.grd 37 true (.aG 38 (.t 1) 0),.grd 37 true (.aG 39 (.t 38) 4),.grd 37 true (.load 40 none (.t 39)),.grd 37 true (.bin 41 .geq (.t 40) (.c (.int .i64 1))),.pick 42 (.t 37) (.t 41) (.c (.bool false)),.aj 43 (.t 42),.grd 43 true (.aG 44 (.t 1) 0),.grd 43 true (.aG 45 (.t 44) 4),.grd 43 true (.load 46 none (.t 45)),.grd 43 true (.bin 47 .leq (.t 46) (.c (.int .i64 1073741824))),.pick 48 (.t 43) (.t 47) (.c (.bool false)),.aj 49 (.t 48),.grd 49 true (.aG 50 (.t 1) 0),.grd 49 true (.aG 51 (.t 50) 5),.grd 49 true (.load 52 none (.t 51)),.grd 49 true (.bin 53 .geq (.t 52) (.c (.int .i64 0))),.pick 54 (.t 49) (.t 53) (.c (.bool false)),.aj 55 (.t 54),.grd 55 true (.aG 56 (.t 1) 0),.grd 55 true (.aG 57 (.t 56) 5),.grd 55 true (.load 58 none (.t 57)),.grd 55 true (.bin 59 .leq (.t 58) (.c (.int .i64 1073741824))),.pick 60 (.t 55) (.t 59) (.c (.bool false))] 61 51 [(.t 60),(.c (.int .i64 2))]) (.Ar [.aG 62 (.t 1) 0,.aG 63 (.t 62) 7,.load 64 none (.t 63),.un 65 .not (.t 64),.aj 66 (.t 65),.grd 66 true (.aG 67 (.t 1) 0),.grd 66 true (.aG 68 (.t 67) 6),.grd 66 true (.load 69 none (.t 68)),.grd 66 true (.un 70 .not (.t 69)),.grd 66 true (.aj 71 (.t 70)),.grd 71 false (.aG 72 (.t 1) 0),.grd 71 false (.aG 73 (.t 72) 3),.grd 71 false (.load 74 none (.t 73)),.grd 71 false (.bin 75 .geq (.t 74) (.c (.int .i64 1))),.grd 66 true (.pick 76 (.t 71) (.c (.bool true)) (.t 75)),.pick 77 (.t 66) (.t 76) (.c (.bool false))] 78 51 [(.t 77),(.c (.int .i64 12))])))))⟩
def Ur:gW:=⟨1,6,[],(.Ar [.aj 2 (.t 0),.bin 3 .eql (.t 2) (.c (.int .i64 0)),.aj 4 (.t 0)] 5 51 [(.t 3),(.t 4)])⟩
def zT:ak:=(.seq (.ops [.bin 34 .lss (.t 33) (.t 32)]) (.seq (.cond (.t 34) .skip (.exit 1)) (.seq (.block 2 (.seq (.ops [.aj 35 (.t 33),.cu 36 2 (.t 31) (.t 33),.load 37 (some 2) (.t 36),.alloc 5 [(.int .i64 0),(.list 1 [])],.aF 4 (.t 35),.store none 2 (.t 5) (.t 37)]) (.seq (.seq (.ops [.load 38 (some 2) (.t 5),.call 39 90 [(.t 38)],.aF 6 (.t 39)]) (.seq (.ops [.aj 40 (.t 6),.bin 41 .neq (.t 40) (.c (.int .i64 0))]) (.cond (.t 41) (.seq (.ops [.aj 42 (.t 6),.aF 2 (.t 42)]) .ret) .skip))) (.seq (.y7 [] [] none [0,1,2,3,4,5,6,7,8] [.aG 43 (.t 5) 0,.load 44 none (.t 43),.aG 45 (.t 1) 3,.load 46 none (.t 45),.aj 47 (.t 4),.cu 48 1 (.t 46) (.t 47),.load 49 none (.t 48),.len 50 (.t 49),.bin 51 .neq (.t 44) (.t 50)]) (.cond (.t 51) (.seq (.ops [.aF 2 (.c (.int .i64 22))]) .ret) .skip))))) (.ops [.bin 52 .add (.t 33) (.c (.int .i64 1)),.aj 33 (.t 52)]))))
def Ls:ak :=
(.clean [1,31,32,33] [2] (.block 1 (.loop [1,31,32,33] zT)))
def Lu:gW:=⟨1,53,[.tmp 2],(.seq (.ops [.box 1 (.t 0),.aF 2 (.c (.int .i64 0))]) (.seq (.block 0 (.seq (.ops [.aG 8 (.t 1) 0,.load 9 none (.t 8),.call 10 92 [(.t 9),(.c (.int .i64 0))],.un 11 .not (.t 10),.aF 7 (.t 11)]) (.cond (.t 7) (.seq (.ops [.aF 2 (.c (.int .i64 2))]) .ret) (.seq (.ops [.aG 13 (.t 1) 1,.load 14 none (.t 13),.call 15 93 [(.t 14)],.un 16 .not (.t 15),.aF 12 (.t 16)]) (.cond (.t 12) (.seq (.ops [.aF 2 (.c (.int .i64 3))]) .ret) .skip))))) (.seq (.seq (.ops [.aG 17 (.t 1) 3,.load 18 none (.t 17),.call 19 85 [(.t 18)],.aF 3 (.t 19)]) (.seq (.ops [.aj 20 (.t 3),.bin 21 .neq (.t 20) (.c (.int .i64 0))]) (.cond (.t 21) (.seq (.ops [.aj 22 (.t 3),.aF 2 (.t 22)]) .ret) .skip))) (.seq (.seq (.ops [.aG 23 (.t 1) 2,.load 24 none (.t 23),.len 25 (.t 24),.aG 26 (.t 1) 3,.load 27 none (.t 26),.len 28 (.t 27),.bin 29 .neq (.t 25) (.t 28)]) (.cond (.t 29) (.seq (.ops [.aF 2 (.c (.int .i64 6))]) .ret) .skip)) (.seq (.seq (.ops [.aG 30 (.t 1) 2,.load 31 none (.t 30),.len 32 (.t 31),.aj 33 (.c (.int .i64 0))])
    Ls) (.seq (.ops [.aF 2 (.c (.int .i64 0))]) .ret))))))⟩
def X9:gW:=⟨1,18,[.tmp 2,.tmp 3],(.seq (.ops [.aF 2 (.c (.int .i64 0)),.aF 3 (.c (.int .i64 0))]) (.seq (.seq (.ops [.aj 5 (.t 0),.len 6 (.t 5),.bin 7 .eql (.t 6) (.c (.int .i64 0))]) (.cond (.t 7) (.seq (.ops [.aF 2 (.c (.int .i64 0)),.aF 3 (.c (.int .i64 0))]) .ret) .skip)) (.seq (.ops [.aj 8 (.t 0),.aj 9 (.t 0),.len 10 (.t 9),.bin 11 .sub (.t 10) (.c (.int .i64 1)),.cu 12 3 (.t 8) (.t 11),.load 13 (some 3) (.t 12),.alloc 4 [(.int .i64 0),(.int .i64 0),(.int .i64 0)],.store none 3 (.t 4) (.t 13)]) (.seq (.y7 [] [] none [0,1,2,3,4,5] [.aG 14 (.t 4) 0,.load 15 none (.t 14),.aG 16 (.t 4) 2,.load 17 none (.t 16),.aF 2 (.t 15),.aF 3 (.t 17)]) .ret))))⟩
def LC:ak:=(.seq (.ops [.bin 20 .lss (.t 19) (.t 18)]) (.seq (.cond (.t 20) .skip (.exit 2)) (.seq (.block 3 (.seq (.ops [.cu 21 2 (.t 17) (.t 19),.load 22 (some 2) (.t 21),.alloc 7 [(.int .i64 0),(.int .i64 0)],.store none 2 (.t 7) (.t 22)]) (.y7 [] [([0,1,2,3,4,5,6,7,8,9,10,11,12,13,14,15,16],17),([18],19)] (some ([],[],20,[])) [21] [.aj 23 (.t 3),.aj 24 (.t 4),.aG 25 (.t 7) 0,.load 26 none (.t 25),.aG 27 (.t 1) 3,.load 28 none (.t 27),.aj 29 (.t 4),.cu 30 1 (.t 28) (.t 29),.load 31 none (.t 30),.aG 32 (.t 7) 0,.load 33 none (.t 32),.aG 34 (.t 7) 0,.load 35 none (.t 34),.aG 36 (.t 7) 1,.load 37 none (.t 36),.bin 38 .add (.t 35) (.t 37),.Ws 39 8 (.t 31) (some (.t 33)) (some (.t 38)),.call 40 95 [(.t 39)],.build 41 [(.int .i64 0),(.int .i64 0),(.list 0 [])] [(0,1,(.t 24)),(1,1,(.t 26)),(2,1,(.t 40))],.iq 42 3 [(.t 41)],.app 43 3 (.t 23) (.t 42),.aF 3 (.t 43)]))) (.ops [.bin 44 .add (.t 19) (.c (.int .i64 1)),.aj 19 (.t 44)]))))
def LD:ak :=
(.clean [1,3,4,9,10,11,17,18,19,43] [1,2,3,9,10,11,43] (.block 2 (.loop [1,3,4,9,10,11,17,18,19,43] LC)))
def LG:ak:=(.seq (.ops [.bin 12 .lss (.t 11) (.t 10)]) (.seq (.cond (.t 12) .skip (.exit 0)) (.seq (.block 1 (.seq (.ops [.aj 13 (.t 11),.cu 14 2 (.t 9) (.t 11),.load 15 (some 2) (.t 14),.alloc 5 [(.int .i64 0),(.list 1 [])],.aF 4 (.t 13),.store none 2 (.t 5) (.t 15)]) (.seq (.ops [.load 16 (some 2) (.t 5),.call 17 94 [(.t 16)],.len 18 (.t 17),.aj 19 (.c (.int .i64 0))])
    LD))) (.ops [.bin 45 .add (.t 11) (.c (.int .i64 1)),.aj 11 (.t 45)]))))
def LH:ak :=
(.clean [1,3,9,10,11,43] [2,3] (.block 0 (.loop [1,3,9,10,11,43] LG)))
def aa8:gW:=⟨1,47,[.tmp 2],(.seq (.ops [.box 1 (.t 0),.aF 2 (.nil 3)]) (.seq (.ops [.aF 3 (.nil 3)]) (.seq (.seq (.ops [.aG 8 (.t 1) 2,.load 9 none (.t 8),.len 10 (.t 9),.aj 11 (.c (.int .i64 0))])
   LH) (.seq (.ops [.aj 46 (.t 3),.aF 2 (.t 46)]) .ret))))⟩
def Px:gW:=⟨2,47,[.tmp 4],(.seq (.ops [.box 2 (.t 0),.aF 4 (.c (.int .i64 0))]) (.seq (.seq (.ops [.aj 9 (.t 1),.call 10 96 [(.t 9)],.aj 8 (.t 10),.ext 11 (.t 8) 0,.ext 12 (.t 8) 1,.aF 5 (.t 11),.aF 6 (.t 12)]) (.seq (.ops [.aj 13 (.t 6),.bin 14 .neq (.t 13) (.c (.int .i64 0))]) (.cond (.t 14) (.seq (.ops [.aj 15 (.t 6),.aF 4 (.t 15)]) .ret) .skip))) (.seq (.block 0 (.seq (.ops [.aG 17 (.t 2) 0,.load 18 none (.t 17),.bin 19 .lss (.t 18) (.c (.int .i64 0)),.aj 20 (.t 19),.grd 20 false (.aG 21 (.t 2) 1),.grd 20 false (.load 22 none (.t 21)),.grd 20 false (.aG 23 (.t 2) 0),.grd 20 false (.load 24 none (.t 23)),.grd 20 false (.bin 25 .leq (.t 22) (.t 24)),.pick 26 (.t 20) (.c (.bool true)) (.t 25),.aj 27 (.t 26),.grd 27 false (.aG 28 (.t 2) 1),.grd 27 false (.load 29 none (.t 28)),.grd 27 false (.bin 30 .gtr (.t 29) (.c (.int .i64 1073741824))),.pick 31 (.t 27) (.c (.bool true)) (.t 30),.aF 16 (.t 31)]) (.cond (.t 16) (.seq (.ops [.aF 4 (.c (.int .i64 2))]) .ret) (.seq (.ops [.aG 33 (.t 2) 2,.load 34 none (.t 33),.call 35 97 [(.t 34),(.c (.int .i64 0)),(.c (.int .i64 1073741824))],.un 36 .not (.t 35),.aF 32 (.t 36)]) (.cond (.t 32) (.seq (.ops [.aF 4 (.c (.int .i64 24))]) .ret) .skip))))) (.seq (.seq (.ops [.aG 37 (.t 2) 3,.load 38 none (.t 37),.call 39 98 [(.t 38),(.c (.int .i64 0))],.aF 7 (.t 39)]) (.seq (.ops [.aj 40 (.t 7),.bin 41 .neq (.t 40) (.c (.int .i64 0))]) (.cond (.t 41) (.seq (.ops [.aj 42 (.t 7),.aF 4 (.t 42)]) .ret) .skip))) (.seq (.ops [.aG 43 (.t 2) 4,.load 44 none (.t 43),.aj 45 (.t 1),.call 46 99 [(.t 44),(.t 45)],.aF 4 (.t 46)]) .ret)))))⟩
def ah3:gW:=⟨2,5,[],(.seq (.ops [.load 2 none (.t 0),.bin 3 .neq (.t 2) (.c (.int .i64 0))]) (.cond (.t 3) (.ops [.build 4 [(.int .i64 0),(.int .i64 0),(.int .i64 0),(.int .i64 0),(.int .i64 0),(.int .i64 0),(.bool false),(.bool false)] [],.store none 8 (.t 1) (.t 4)]) .skip))⟩
def zU:ak:=(.seq (.seq (.ops [.aj 4 (.t 3),.aj 5 (.t 0),.len 6 (.t 5),.bin 7 .lss (.t 4) (.t 6),.aj 8 (.t 7),.grd 8 true (.aj 9 (.t 3)),.grd 8 true (.bin 10 .lss (.t 9) (.c (.int .i64 60))),.pick 11 (.t 8) (.t 10) (.c (.bool false))]) (.cond (.t 11) .skip (.exit 0))) (.seq (.block 1 (.seq (.ops [.aj 14 (.t 0),.aj 15 (.t 3),.cu 16 3 (.t 14) (.t 15),.aG 17 (.t 16) 2,.load 18 none (.t 17),.len 19 (.t 18),.bin 20 .gtr (.t 19) (.c (.int .i64 24))]) (.cond (.t 20) (.seq (.ops [.aF 2 (.c (.bool false))]) .ret) .skip))) (.ops [.aj 12 (.t 3),.bin 13 .add (.t 12) (.c (.int .i64 1)),.aF 3 (.t 13)])))
def LJ:ak :=
(.clean [0,3] [0,2] (.block 0 (.loop [0,3] zU)))
def aa9:gW:=⟨1,24,[.tmp 2],(.seq (.ops [.aF 2 (.c (.bool false))]) (.seq (.seq (.ops [.aF 3 (.c (.int .i64 0))])
  LJ) (.seq (.ops [.aj 21 (.t 0),.len 22 (.t 21),.bin 23 .leq (.t 22) (.c (.int .i64 40)),.aF 2 (.t 23)]) .ret)))⟩
def afG:ak:=(.seq (.ops [.bin 9 .lss (.t 8) (.t 7)]) (.seq (.cond (.t 9) .skip (.exit 0)) (.seq (.block 1 (.seq (.ops [.cu 10 3 (.t 6) (.t 8),.load 11 (some 3) (.t 10),.alloc 5 [(.int .i64 0),(.int .i64 0),(.list 0 [])],.store none 3 (.t 5) (.t 11)]) (.ops [.aj 12 (.t 3),.aG 13 (.t 5) 2,.load 14 none (.t 13),.len 15 (.t 14),.bin 16 .add (.t 12) (.t 15),.aF 3 (.t 16)]))) (.ops [.bin 17 .add (.t 8) (.c (.int .i64 1)),.aj 8 (.t 17)]))))
def afH:ak :=
(.clean [0,3,6,7,8] [2,3] (.block 0 (.loop [0,3,6,7,8] afG)))
def ah4:gW:=⟨1,19,[.tmp 2],(.seq (.ops [.aF 2 (.c (.int .i64 0))]) (.seq (.ops [.aF 3 (.c (.int .i64 0))]) (.seq (.seq (.ops [.aj 6 (.t 0),.len 7 (.t 6),.aj 8 (.c (.int .i64 0))])
   afH) (.seq (.ops [.aj 18 (.t 3),.aF 2 (.t 18)]) .ret))))⟩
def ah5:gW:=⟨3,6,[],(.seq (.ops [.load 3 none (.t 0),.bin 4 .neq (.t 3) (.c (.int .i64 0))]) (.cond (.t 4) (.ops [.build 5 [(.int .i64 0),(.int .i64 0),(.int .i64 0),(.int .i64 0),(.int .i64 0),(.int .i64 0),(.bool false),(.bool false)] [],.store none 8 (.t 1) (.t 5),.store none 1 (.t 2) (.nil 1)]) .skip))⟩
def DW:ak:=(.seq (.ops [.bin 14 .lss (.t 13) (.t 12)]) (.seq (.cond (.t 14) .skip (.exit 0)) (.seq (.block 1 (.seq (.ops [.cu 15 4 (.t 11) (.t 13),.load 16 (some 4) (.t 15),.alloc 7 [(.int .i64 0),(.list 0 []),(.list 0 []),(.list 0 [])],.store none 4 (.t 7) (.t 16)]) (.seq (.ops [.load 17 (some 4) (.t 7),.call 18 50 [(.t 17)],.aF 8 (.t 18)]) (.seq (.ops [.aj 19 (.t 8),.bin 20 .neq (.t 19) (.c (.int .i64 0))]) (.cond (.t 20) (.seq (.ops [.aj 21 (.t 8),.aF 4 (.nil 1),.aF 5 (.t 21)]) .ret) .skip))))) (.ops [.bin 22 .add (.t 13) (.c (.int .i64 1)),.aj 13 (.t 22)]))))
def LK:ak :=
(.clean [2,3,11,12,13] [2,3,4,5] (.block 0 (.loop [2,3,11,12,13] DW)))
def abb:gW:=⟨2,32,[.tmp 4,.tmp 5],(.seq (.ops [.box 2 (.t 0),.box 3 (.t 1),.aF 4 (.nil 1),.aF 5 (.c (.int .i64 0))]) (.seq (.seq (.ops [.load 9 (some 4) (.t 2),.load 10 (some 4) (.t 3),.iq 11 4 [(.t 9),(.t 10)],.len 12 (.t 11),.aj 13 (.c (.int .i64 0))])
  LK) (.seq (.seq (.ops [.aG 23 (.t 2) 3,.load 24 none (.t 23),.aG 25 (.t 3) 3,.load 26 none (.t 25),.call 27 111 [(.t 24),(.t 26)],.un 28 .not (.t 27)]) (.cond (.t 28) (.seq (.ops [.aF 4 (.nil 1),.aF 5 (.c (.int .i64 22))]) .ret) .skip)) (.seq (.ops [.load 29 (some 4) (.t 2),.load 30 (some 4) (.t 3),.call 31 112 [(.t 29),(.t 30)],.aF 4 (.t 31),.aF 5 (.c (.int .i64 0))]) .ret))))⟩
def Ya:gW:=⟨1,9,[.tmp 2],(.seq (.ops [.aF 2 (.c (.bool false))]) (.seq (.ops [.aj 3 (.t 0),.bin 4 .geq (.t 3) (.c (.int .i64 0)),.aj 5 (.t 4),.grd 5 true (.aj 6 (.t 0)),.grd 5 true (.bin 7 .lss (.t 6) (.c (.int .i64 4))),.pick 8 (.t 5) (.t 7) (.c (.bool false)),.aF 2 (.t 8)]) .ret))⟩
def zV:ak:=(.seq (.seq (.y7 [] [] none [0,1,2,3,4,5,6,7,8,9,10,11,12,13,14,15,16,17,18,19] [.aj 17 (.t 8),.aj 18 (.t 0),.len 19 (.t 18),.aj 20 (.t 1),.len 21 (.t 20),.mn 22 false (.t 19) (.t 21),.bin 23 .lss (.t 17) (.t 22),.aj 24 (.t 23),.grd 24 true (.aj 25 (.t 0)),.grd 24 true (.aj 26 (.t 8)),.grd 24 true (.cu 27 3 (.t 25) (.t 26)),.grd 24 true (.aG 28 (.t 27) 0),.grd 24 true (.load 29 none (.t 28)),.grd 24 true (.aj 30 (.t 1)),.grd 24 true (.aj 31 (.t 8)),.grd 24 true (.cu 32 3 (.t 30) (.t 31)),.grd 24 true (.aG 33 (.t 32) 0),.grd 24 true (.load 34 none (.t 33)),.grd 24 true (.bin 35 .eql (.t 29) (.t 34)),.pick 36 (.t 24) (.t 35) (.c (.bool false))]) (.cond (.t 36) .skip (.exit 0))) (.seq (.block 1 (.seq (.y7 [] [] none [0,1,2,3,4,5,6,7,8,9,10,11,12,13,14,15,16,17] [.aj 39 (.t 0),.aj 40 (.t 8),.cu 41 3 (.t 39) (.t 40),.aG 42 (.t 41) 2,.load 43 none (.t 42),.aj 44 (.t 1),.aj 45 (.t 8),.cu 46 3 (.t 44) (.t 45),.aG 47 (.t 46) 2,.load 48 none (.t 47),.mn 49 false (.t 43) (.t 48),.aj 50 (.t 0),.aj 51 (.t 8),.cu 52 3 (.t 50) (.t 51),.aG 53 (.t 52) 0,.load 54 none (.t 53),.aF 6 (.t 49),.aF 7 (.t 54)]) (.seq (.y7 [] [] none [0,1,2,3,4,5,6,7,8,9,10] [.aj 55 (.t 0),.aj 56 (.t 8),.cu 57 3 (.t 55) (.t 56),.aG 58 (.t 57) 2,.load 59 none (.t 58),.aj 60 (.t 1),.aj 61 (.t 8),.cu 62 3 (.t 60) (.t 61),.aG 63 (.t 62) 2,.load 64 none (.t 63),.bin 65 .neq (.t 59) (.t 64)]) (.cond (.t 65) (.exit 0) .skip)))) (.ops [.aj 37 (.t 8),.bin 38 .add (.t 37) (.c (.int .i64 1)),.aF 8 (.t 38)])))
def LM:ak :=
(.clean [0,1,6,7,8] [4,5,6,7] (.block 0 (.loop [0,1,6,7,8] zV)))
def Us:gW:=⟨2,68,[.tmp 4,.tmp 5],(.seq (.ops [.aF 4 (.c (.int .i64 0)),.aF 5 (.c (.int .i64 0))]) (.seq (.seq (.ops [.aj 9 (.t 0),.call 10 93 [(.t 9)],.un 11 .not (.t 10),.aj 12 (.t 11),.grd 12 false (.aj 13 (.t 1)),.grd 12 false (.call 14 93 [(.t 13)]),.grd 12 false (.un 15 .not (.t 14)),.pick 16 (.t 12) (.c (.bool true)) (.t 15)]) (.cond (.t 16) (.seq (.ops [.aF 4 (.c (.int .i64 0)),.aF 5 (.c (.int .i64 0))]) .ret) .skip)) (.seq (.ops [.aF 6 (.c (.int .i64 0)),.aF 7 (.c (.int .i64 0))]) (.seq (.seq (.ops [.aF 8 (.c (.int .i64 0))])
   LM) (.seq (.ops [.aj 66 (.t 6),.aj 67 (.t 7),.aF 4 (.t 66),.aF 5 (.t 67)]) .ret)))))⟩
def afI:ak:=(.seq (.seq (.ops [.aj 11 (.t 5),.aj 12 (.t 0),.len 13 (.t 12),.bin 14 .lss (.t 11) (.t 13)]) (.cond (.t 14) .skip (.exit 0))) (.seq (.block 1 (.seq (.y7 [] [] none [0,1,2,3,4,5,6,7,8] [.aj 17 (.t 0),.aj 18 (.t 5),.cu 19 2 (.t 17) (.t 18),.load 20 (some 2) (.t 19),.aj 21 (.t 1),.aj 22 (.t 5),.cu 23 2 (.t 21) (.t 22),.load 24 (some 2) (.t 23),.Rh 25 true 2 (.t 20) (.t 24)]) (.cond (.t 25) (.seq (.ops [.aF 4 (.c (.bool false))]) .ret) .skip))) (.ops [.aj 15 (.t 5),.bin 16 .add (.t 15) (.c (.int .i64 1)),.aF 5 (.t 16)])))
def afJ:ak :=
(.clean [0,1,5] [4] (.block 0 (.loop [0,1,5] afI)))
def ah6:gW:=⟨2,26,[.tmp 4],(.seq (.ops [.aF 4 (.c (.bool false))]) (.seq (.seq (.ops [.aj 6 (.t 0),.len 7 (.t 6),.aj 8 (.t 1),.len 9 (.t 8),.bin 10 .neq (.t 7) (.t 9)]) (.cond (.t 10) (.seq (.ops [.aF 4 (.c (.bool false))]) .ret) .skip)) (.seq (.seq (.ops [.aF 5 (.c (.int .i64 0))])
   afJ) (.seq (.ops [.aF 4 (.c (.bool true))]) .ret))))⟩
def afK:ak:=(.seq (.ops [.bin 13 .lss (.t 12) (.t 11)]) (.seq (.cond (.t 13) .skip (.exit 0)) (.seq (.block 1 (.seq (.ops [.cu 14 1 (.t 10) (.t 12),.load 15 none (.t 14),.aF 6 (.t 15)]) (.seq (.ops [.aj 16 (.t 6),.call 17 85 [(.t 16)],.aF 7 (.t 17)]) (.seq (.ops [.aj 18 (.t 7),.bin 19 .neq (.t 18) (.c (.int .i64 0))]) (.cond (.t 19) (.seq (.ops [.aj 20 (.t 7),.aF 4 (.t 20)]) .ret) .skip))))) (.ops [.bin 21 .add (.t 12) (.c (.int .i64 1)),.aj 12 (.t 21)]))))
def afL:ak :=
(.clean [0,1,10,11,12] [0,1,4] (.block 0 (.loop [0,1,10,11,12] afK)))
def ah7:gW:=⟨2,28,[.tmp 4],(.seq (.ops [.aF 4 (.c (.int .i64 0))]) (.seq (.seq (.ops [.aj 8 (.t 0),.aj 9 (.t 1),.iq 10 1 [(.t 8),(.t 9)],.len 11 (.t 10),.aj 12 (.c (.int .i64 0))])
  afL) (.seq (.seq (.ops [.aj 22 (.t 0),.call 23 116 [(.t 22)],.aj 24 (.t 1),.call 25 116 [(.t 24)],.call 26 115 [(.t 23),(.t 25)],.un 27 .not (.t 26)]) (.cond (.t 27) (.seq (.ops [.aF 4 (.c (.int .i64 22))]) .ret) .skip)) (.seq (.ops [.aF 4 (.c (.int .i64 0))]) .ret))))⟩
def afM:ak:=(.ops [.aF 7 (.t 11)])
def afN:ak:=(.block 1 (.seq (.seq (.ops [.aj 12 (.t 7),.load 13 none (.t 6),.bin 14 .eql (.t 12) (.t 13)]) (.cond (.t 14) (.ops [.load 15 none (.t 5),.load 16 none (.t 5),.len 17 (.t 16),.bin 18 .sub (.t 17) (.c (.int .i64 1)),.cu 19 2 (.t 15) (.t 18),.aG 20 (.t 19) 1,.load 21 none (.t 20),.bin 22 .add (.t 21) (.c (.int .i64 1)),.cu 23 2 (.t 15) (.t 18),.aG 24 (.t 23) 1,.store none 1 (.t 24) (.t 22)]) (.ops [.load 25 none (.t 5),.aj 26 (.t 7),.build 27 [(.int .i64 0),(.int .i64 0)] [(0,1,(.t 26)),(1,1,(.c (.int .i64 1)))],.iq 28 2 [(.t 27)],.app 29 2 (.t 25) (.t 28),.store none 1 (.t 5) (.t 29)]))) (.ops [.aj 30 (.t 7),.bin 31 .add (.t 30) (.c (.int .i64 1)),.store none 1 (.t 6) (.t 31)])))
def ah8:gW:=⟨2,33,[.tmp 4],(.seq (.ops [.aF 4 (.nil 2)]) (.seq (.ops [.alloc 5 [(.list 2 [])]]) (.seq (.ops [.alloc 6 [(.int .i64 0)],.store none 1 (.t 6) (.c (.int .i64 (-1)))]) (.seq (.seq (.ops [.aj 8 (.t 0),.aj 9 (.t 1),.call 10 117 [(.t 8),(.t 9)]]) (.block 0 (.rng (.t 10) [11] afM afN))) (.seq (.ops [.load 32 none (.t 5),.aF 4 (.t 32)]) .ret)))))⟩
def abd:gW:=⟨1,5,[.tmp 2],(.seq (.ops [.aF 2 (.nil 2)]) (.seq (.ops [.aj 3 (.t 0),.call 4 118 [(.c (.lJ 2)),(.t 3)],.aF 2 (.t 4)]) .ret))⟩
def abe:gW:=⟨3,8,[.tmp 6],(.seq (.ops [.box 3 (.t 0),.box 4 (.t 1),.box 5 (.t 2),.aF 6 (.c .tC)]) (.seq (.ops [.Ri 7 119 [(.t 3),(.t 4),(.t 5)],.aF 6 (.t 7)]) .ret))⟩
def abf:gW:=⟨2,9,[.tmp 4],(.seq (.ops [.aF 4 (.c (.bool false))]) (.seq (.ops [.aj 5 (.t 0),.aj 6 (.t 5),.grd 6 false (.aj 7 (.t 1)),.pick 8 (.t 6) (.c (.bool true)) (.t 7),.aF 4 (.t 8)]) .ret))⟩
def Ut:gW:=⟨1,16,[.cell 2 (some 2),.tmp 3],(.seq (.ops [.alloc 2 [(.int .i64 0),(.list 1 [])],.aF 3 (.c (.int .i64 0))]) (.seq (.seq (.ops [.aj 4 (.t 0),.bin 5 .lss (.t 4) (.c (.int .i64 0)),.aj 6 (.t 5),.grd 6 false (.aj 7 (.t 0)),.grd 6 false (.bin 8 .gtr (.t 7) (.c (.int .i64 4096))),.pick 9 (.t 6) (.c (.bool true)) (.t 8)]) (.cond (.t 9) (.seq (.ops [.build 10 [(.int .i64 0),(.list 1 [])] [],.store none 2 (.t 2) (.t 10),.aF 3 (.c (.int .i64 2))]) .ret) .skip)) (.seq (.ops [.aj 11 (.t 0),.aj 12 (.t 0),.call 13 121 [(.t 12)],.make 14 (.int .u64 0) (.t 13) (.t 13),.build 15 [(.int .i64 0),(.list 1 [])] [(0,1,(.t 11)),(1,1,(.t 14))],.store none 2 (.t 2) (.t 15),.aF 3 (.c (.int .i64 0))]) .ret)))⟩
def abg:gW:=⟨2,12,[.cell 4 (some 2),.tmp 5],(.seq (.ops [.box 2 (.t 0),.box 3 (.t 1),.alloc 4 [(.int .i64 0),(.list 1 [])],.aF 5 (.c (.int .i64 0))]) (.seq (.ops [.build 6 [.tC] [(0,1,(.c (.func 122 [])))],.load 7 (some 2) (.t 2),.load 8 (some 2) (.t 3),.call 9 123 [(.t 6),(.t 7),(.t 8)],.ext 10 (.t 9) 0,.ext 11 (.t 9) 1,.store none 2 (.t 4) (.t 10),.aF 5 (.t 11)]) .ret))⟩
def abh:gW:=⟨1,6,[.tmp 2],(.seq (.ops [.aF 2 (.c (.int .i64 0))]) (.seq (.ops [.aj 3 (.t 0),.call 4 116 [(.t 3)],.call 5 124 [(.t 4)],.aF 2 (.t 5)]) .ret))⟩
def LP:ak:=(.seq (.ops [.bin 18 .lss (.t 17) (.t 16)]) (.seq (.cond (.t 18) .skip (.exit 0)) (.seq (.block 1 (.seq (.ops [.aj 19 (.t 17),.cu 20 1 (.t 15) (.t 17),.load 21 none (.t 20),.aF 7 (.t 19),.aF 8 (.t 21)]) (.seq (.ops [.aj 22 (.t 1),.aj 23 (.t 7),.cu 24 1 (.t 22) (.t 23),.load 25 none (.t 24),.aF 9 (.t 25)]) (.seq (.ops [.aj 26 (.t 2),.aj 27 (.t 8),.aj 28 (.t 9),.kP 29 (.t 26) [(.t 27),(.t 28)],.un 30 .not (.t 29)]) (.cond (.t 30) (.seq (.ops [.aF 6 (.c (.bool false))]) .ret) .skip))))) (.ops [.bin 31 .add (.t 17) (.c (.int .i64 1)),.aj 17 (.t 31)]))))
def LQ:ak :=
(.clean [0,1,2,15,16,17] [6] (.block 0 (.loop [0,1,2,15,16,17] LP)))
def abj:gW:=⟨3,32,[.tmp 6],(.seq (.ops [.aF 6 (.c (.bool false))]) (.seq (.seq (.ops [.aj 10 (.t 0),.len 11 (.t 10),.aj 12 (.t 1),.len 13 (.t 12),.bin 14 .neq (.t 11) (.t 13)]) (.cond (.t 14) (.seq (.ops [.aF 6 (.c (.bool false))]) .ret) .skip)) (.seq (.seq (.ops [.aj 15 (.t 0),.len 16 (.t 15),.aj 17 (.c (.int .i64 0))])
   LQ) (.seq (.ops [.aF 6 (.c (.bool true))]) .ret))))⟩
def LU:ak:=(.seq (.ops [.bin 14 .lss (.t 13) (.t 12)]) (.seq (.cond (.t 14) .skip (.exit 0)) (.seq (.block 1 (.seq (.ops [.aj 15 (.t 13),.aF 5 (.t 15)]) (.seq (.y7 [] [] none [0,1,2,3,4,5,6,7,8] [.aj 16 (.t 0),.aj 17 (.t 5),.cu 18 8 (.t 16) (.t 17),.load 19 (some 8) (.t 18),.aj 20 (.t 1),.aj 21 (.t 5),.cu 22 8 (.t 20) (.t 21),.load 23 (some 8) (.t 22),.Rh 24 true 8 (.t 19) (.t 23)]) (.cond (.t 24) (.seq (.ops [.aF 4 (.c (.bool false))]) .ret) .skip)))) (.ops [.bin 25 .add (.t 13) (.c (.int .i64 1)),.aj 13 (.t 25)]))))
def LV:ak :=
(.clean [0,1,12,13] [4] (.block 0 (.loop [0,1,12,13] LU)))
def abk:gW:=⟨2,26,[.tmp 4],(.seq (.ops [.aF 4 (.c (.bool false))]) (.seq (.seq (.ops [.aj 6 (.t 0),.len 7 (.t 6),.aj 8 (.t 1),.len 9 (.t 8),.bin 10 .neq (.t 7) (.t 9)]) (.cond (.t 10) (.seq (.ops [.aF 4 (.c (.bool false))]) .ret) .skip)) (.seq (.seq (.ops [.aj 11 (.t 0),.len 12 (.t 11),.aj 13 (.c (.int .i64 0))])
   LV) (.seq (.ops [.aF 4 (.c (.bool true))]) .ret))))⟩
def Yb:gW:=⟨2,40,[.tmp 4],(.seq (.ops [.box 3 (.t 1),.aF 4 (.c (.int .i64 0))]) (.seq (.block 0 (.seq (.ops [.aG 6 (.t 3) 0,.load 7 none (.t 6),.bin 8 .lss (.t 7) (.c (.int .i64 0)),.aj 9 (.t 8),.grd 9 false (.aG 10 (.t 3) 0),.grd 9 false (.load 11 none (.t 10)),.grd 9 false (.aj 12 (.t 0)),.grd 9 false (.len 13 (.t 12)),.grd 9 false (.bin 14 .geq (.t 11) (.t 13)),.pick 15 (.t 9) (.c (.bool true)) (.t 14),.aF 5 (.t 15)]) (.cond (.t 5) (.seq (.ops [.aF 4 (.c (.int .i64 7))]) .ret) (.seq (.ops [.aG 17 (.t 3) 2,.load 18 none (.t 17),.len 19 (.t 18),.bin 20 .eql (.t 19) (.c (.int .i64 0)),.aF 16 (.t 20)]) (.cond (.t 16) (.seq (.ops [.aF 4 (.c (.int .i64 1))]) .ret) (.seq (.y7 [] [] none [0,1,2,3,4,5,6,7,8,9,10,11,12,13,14,15,16,17,18] [.aG 22 (.t 3) 1,.load 23 none (.t 22),.bin 24 .lss (.t 23) (.c (.int .i64 0)),.aj 25 (.t 24),.grd 25 false (.aG 26 (.t 3) 1),.grd 25 false (.load 27 none (.t 26)),.grd 25 false (.aj 28 (.t 0)),.grd 25 false (.aG 29 (.t 3) 0),.grd 25 false (.load 30 none (.t 29)),.grd 25 false (.cu 31 1 (.t 28) (.t 30)),.grd 25 false (.load 32 none (.t 31)),.grd 25 false (.len 33 (.t 32)),.grd 25 false (.aG 34 (.t 3) 2),.grd 25 false (.load 35 none (.t 34)),.grd 25 false (.len 36 (.t 35)),.grd 25 false (.bin 37 .sub (.t 33) (.t 36)),.grd 25 false (.bin 38 .gtr (.t 27) (.t 37)),.pick 39 (.t 25) (.c (.bool true)) (.t 38),.aF 21 (.t 39)]) (.cond (.t 21) (.seq (.ops [.aF 4 (.c (.int .i64 2))]) .ret) .skip))))))) (.seq (.ops [.aF 4 (.c (.int .i64 0))]) .ret)))⟩
def Ih:gW:=⟨1,39,[.tmp 2],(.seq (.ops [.box 1 (.t 0),.aF 2 (.c (.int .i64 0))]) (.seq (.seq (.y7 [] [([0,1,2,3,4,5,6,7,8,9,10,11,12,13],14)] none [15,16] [.aG 4 (.t 1) 0,.load 5 none (.t 4),.bin 6 .lss (.t 5) (.c (.int .i64 0)),.aj 7 (.t 6),.grd 7 false (.aG 8 (.t 1) 0),.grd 7 false (.load 9 none (.t 8)),.grd 7 false (.bin 10 .gtr (.t 9) (.c (.int .i64 4096))),.pick 11 (.t 7) (.c (.bool true)) (.t 10),.aj 12 (.t 11),.grd 12 false (.aG 13 (.t 1) 1),.grd 12 false (.load 14 none (.t 13)),.grd 12 false (.len 15 (.t 14)),.grd 12 false (.aG 16 (.t 1) 0),.grd 12 false (.load 17 none (.t 16)),.grd 12 false (.call 18 121 [(.t 17)]),.grd 12 false (.bin 19 .neq (.t 15) (.t 18)),.pick 20 (.t 12) (.c (.bool true)) (.t 19)]) (.cond (.t 20) (.seq (.ops [.aF 2 (.c (.int .i64 3))]) .ret) .skip)) (.seq (.seq (.ops [.aG 21 (.t 1) 0,.load 22 none (.t 21),.bin 23 .rem (.t 22) (.c (.int .i64 64)),.aF 3 (.t 23)]) (.seq (.ops [.aj 24 (.t 3),.bin 25 .gtr (.t 24) (.c (.int .i64 0)),.aj 26 (.t 25),.grd 26 true (.aG 27 (.t 1) 1),.grd 26 true (.load 28 none (.t 27)),.grd 26 true (.aG 29 (.t 1) 1),.grd 26 true (.load 30 none (.t 29)),.grd 26 true (.len 31 (.t 30)),.grd 26 true (.bin 32 .sub (.t 31) (.c (.int .i64 1))),.grd 26 true (.cu 33 1 (.t 28) (.t 32)),.grd 26 true (.load 34 none (.t 33)),.grd 26 true (.aj 35 (.t 3)),.grd 26 true (.bin 36 .shr (.t 34) (.t 35)),.grd 26 true (.bin 37 .neq (.t 36) (.c (.int .u64 0))),.pick 38 (.t 26) (.t 37) (.c (.bool false))]) (.cond (.t 38) (.seq (.ops [.aF 2 (.c (.int .i64 3))]) .ret) .skip))) (.seq (.ops [.aF 2 (.c (.int .i64 0))]) .ret))))⟩
def abl:gW:=⟨2,12,[.tmp 4],(.seq (.ops [.aF 4 (.c (.bool false))]) (.seq (.ops [.aj 5 (.t 0),.aj 6 (.t 1),.bin 7 .geq (.t 5) (.t 6),.aj 8 (.t 7),.grd 8 true (.aj 9 (.t 0)),.grd 8 true (.bin 10 .leq (.t 9) (.c (.int .i64 1073741824))),.pick 11 (.t 8) (.t 10) (.c (.bool false)),.aF 4 (.t 11)]) .ret))⟩
def ru:ak:=(.seq (.ops [.bin 10 .lss (.t 9) (.t 8)]) (.seq (.cond (.t 10) .skip (.exit 0)) (.seq (.block 1 (.seq (.ops [.cu 11 3 (.t 7) (.t 9),.load 12 (some 3) (.t 11),.alloc 5 [(.int .i64 0),(.int .i64 0),(.int .i64 0)],.store none 3 (.t 5) (.t 12)]) (.seq (.seq (.ops [.aG 13 (.t 5) 1,.load 14 none (.t 13),.aG 15 (.t 3) 2,.load 16 none (.t 15),.bin 17 .add (.t 16) (.c (.int .i64 1)),.bin 18 .neq (.t 14) (.t 17),.aj 19 (.t 18),.grd 19 false (.aG 20 (.t 5) 2),.grd 19 false (.load 21 none (.t 20)),.grd 19 false (.aG 22 (.t 5) 1),.grd 19 false (.load 23 none (.t 22)),.grd 19 false (.bin 24 .lss (.t 21) (.t 23)),.pick 25 (.t 19) (.c (.bool true)) (.t 24),.aj 26 (.t 25),.grd 26 false (.aG 27 (.t 5) 2),.grd 26 false (.load 28 none (.t 27)),.grd 26 false (.bin 29 .gtr (.t 28) (.c (.int .i64 1073741824))),.pick 30 (.t 26) (.c (.bool true)) (.t 29),.aj 31 (.t 30),.grd 31 false (.aG 32 (.t 5) 0),.grd 31 false (.load 33 none (.t 32)),.grd 31 false (.call 34 92 [(.t 33),(.c (.int .i64 1))]),.grd 31 false (.un 35 .not (.t 34)),.pick 36 (.t 31) (.c (.bool true)) (.t 35),.aj 37 (.t 36),.grd 37 false (.aG 38 (.t 5) 0),.grd 37 false (.load 39 none (.t 38)),.grd 37 false (.aG 40 (.t 3) 0),.grd 37 false (.load 41 none (.t 40)),.grd 37 false (.bin 42 .leq (.t 39) (.t 41)),.pick 43 (.t 37) (.c (.bool true)) (.t 42)]) (.cond (.t 43) (.seq (.ops [.aF 2 (.c (.bool false))]) .ret) .skip)) (.ops [.load 44 (some 3) (.t 5),.store none 3 (.t 3) (.t 44)])))) (.ops [.bin 45 .add (.t 9) (.c (.int .i64 1)),.aj 9 (.t 45)]))))
def LW:ak :=
(.clean [0,3,7,8,9] [2] (.block 0 (.loop [0,3,7,8,9] ru)))
def abm:gW:=⟨1,46,[.tmp 2],(.seq (.ops [.aF 2 (.c (.bool false))]) (.seq (.ops [.build 6 [(.int .i64 0),(.int .i64 0),(.int .i64 0)] [],.alloc 3 [(.int .i64 0),(.int .i64 0),(.int .i64 0)],.store none 3 (.t 3) (.t 6)]) (.seq (.seq (.ops [.aj 7 (.t 0),.len 8 (.t 7),.aj 9 (.c (.int .i64 0))])
   LW) (.seq (.ops [.aF 2 (.c (.bool true))]) .ret))))⟩
def DX:ak:=(.ops [.aF 4 (.t 8)])
def DY:ak:=(.block 1 (.seq (.seq (.ops [.load 9 none (.t 3),.len 10 (.t 9),.aF 5 (.t 10)]) (.seq (.y7 [] [] none [0,1,2,3,4,5,6,7,8,9,10,11,12,13,14,15,16,17,18] [.aj 11 (.t 5),.bin 12 .gtr (.t 11) (.c (.int .i64 0)),.aj 13 (.t 12),.grd 13 true (.load 14 none (.t 3)),.grd 13 true (.aj 15 (.t 5)),.grd 13 true (.bin 16 .sub (.t 15) (.c (.int .i64 1))),.grd 13 true (.cu 17 2 (.t 14) (.t 16)),.grd 13 true (.aG 18 (.t 17) 0),.grd 13 true (.load 19 none (.t 18)),.grd 13 true (.load 20 none (.t 3)),.grd 13 true (.aj 21 (.t 5)),.grd 13 true (.bin 22 .sub (.t 21) (.c (.int .i64 1))),.grd 13 true (.cu 23 2 (.t 20) (.t 22)),.grd 13 true (.aG 24 (.t 23) 1),.grd 13 true (.load 25 none (.t 24)),.grd 13 true (.bin 26 .add (.t 19) (.t 25)),.grd 13 true (.aj 27 (.t 4)),.grd 13 true (.bin 28 .eql (.t 26) (.t 27)),.pick 29 (.t 13) (.t 28) (.c (.bool false))]) (.cond (.t 29) (.seq (.ops [.load 30 none (.t 3),.aj 31 (.t 5),.bin 32 .sub (.t 31) (.c (.int .i64 1)),.cu 33 2 (.t 30) (.t 32),.aG 34 (.t 33) 1,.load 35 none (.t 34),.bin 36 .add (.t 35) (.c (.int .i64 1)),.cu 37 2 (.t 30) (.t 32),.aG 38 (.t 37) 1,.store none 1 (.t 38) (.t 36)]) (.exit 1)) .skip))) (.ops [.load 39 none (.t 3),.aj 40 (.t 4),.build 41 [(.int .i64 0),(.int .i64 0)] [(0,1,(.t 40)),(1,1,(.c (.int .i64 1)))],.iq 42 2 [(.t 41)],.app 43 2 (.t 39) (.t 42),.store none 1 (.t 3) (.t 43)])))
def abn:gW:=⟨1,45,[.tmp 2],(.seq (.ops [.box 1 (.t 0),.aF 2 (.nil 2)]) (.seq (.ops [.alloc 3 [(.list 2 [])]]) (.seq (.seq (.ops [.load 6 (some 2) (.t 1),.call 7 126 [(.t 6),(.c (.int .i64 0))]]) (.block 0 (.rng (.t 7) [8] DX DY))) (.seq (.ops [.load 44 none (.t 3),.aF 2 (.t 44)]) .ret))))⟩
def afO:gW:=⟨1,8,[.tmp 2],(.seq (.ops [.aF 2 (.nil 8)]) (.seq (.seq (.ops [.aj 3 (.t 0),.U6 4 false (.t 3)]) (.cond (.t 4) (.seq (.ops [.aF 2 (.nil 8)]) .ret) .skip)) (.seq (.ops [.iq 5 8 [],.aj 6 (.t 0),.app 7 8 (.t 5) (.t 6),.aF 2 (.t 7)]) .ret)))⟩
def Yc:gW:=⟨1,12,[.tmp 2,.tmp 3],(.seq (.ops [.aF 2 (.nil 1),.aF 3 (.c (.int .i64 0))]) (.seq (.seq (.ops [.aj 5 (.t 0),.call 6 124 [(.t 5)],.aF 4 (.t 6)]) (.seq (.ops [.aj 7 (.t 4),.bin 8 .neq (.t 7) (.c (.int .i64 0))]) (.cond (.t 8) (.seq (.ops [.aj 9 (.t 4),.aF 2 (.nil 1),.aF 3 (.t 9)]) .ret) .skip))) (.seq (.ops [.aj 10 (.t 0),.call 11 127 [(.t 10),(.c (.func 128 []))],.aF 2 (.t 11),.aF 3 (.c (.int .i64 0))]) .ret)))⟩
def Yd:gW:=⟨3,15,[.tmp 6],(.seq (.ops [.aF 6 (.c (.bool false))]) (.seq (.ops [.aj 7 (.t 0),.aj 8 (.t 1),.bin 9 .geq (.t 7) (.t 8),.aj 10 (.t 9),.grd 10 true (.aj 11 (.t 0)),.grd 10 true (.aj 12 (.t 2)),.grd 10 true (.bin 13 .leq (.t 11) (.t 12)),.pick 14 (.t 10) (.t 13) (.c (.bool false)),.aF 6 (.t 14)]) .ret))⟩
def Uu:gW:=⟨2,12,[.tmp 4],(.seq (.ops [.aF 4 (.c (.int .i64 0))]) (.seq (.seq (.ops [.aj 5 (.t 0),.len 6 (.t 5),.aj 7 (.t 1),.call 8 97 [(.t 6),(.t 7),(.c (.int .i64 8))],.un 9 .not (.t 8)]) (.cond (.t 9) (.seq (.ops [.aF 4 (.c (.int .i64 6))]) .ret) .skip)) (.seq (.seq (.ops [.aj 10 (.t 0),.call 11 129 [(.t 10),(.c (.func 130 []))]]) (.cond (.t 11) (.seq (.ops [.aF 4 (.c (.int .i64 2))]) .ret) .skip)) (.seq (.ops [.aF 4 (.c (.int .i64 0))]) .ret))))⟩
def abo:gW:=⟨2,18,[.tmp 4],(.seq (.ops [.aF 4 (.c (.int .i64 0))]) (.seq (.ops [.aj 8 (.t 1),.call 9 96 [(.t 8)],.aj 7 (.t 9),.ext 10 (.t 7) 0,.ext 11 (.t 7) 1,.alloc 5 [(.list 1 [])],.store none 1 (.t 5) (.t 10),.aF 6 (.t 11)]) (.seq (.seq (.ops [.aj 12 (.t 6),.bin 13 .neq (.t 12) (.c (.int .i64 0))]) (.cond (.t 13) (.seq (.ops [.aj 14 (.t 6),.aF 4 (.t 14)]) .ret) .skip)) (.seq (.ops [.aj 15 (.t 0),.Ri 16 132 [(.t 5)],.call 17 131 [(.t 15),(.t 16)],.aF 4 (.t 17)]) .ret))))⟩
def Py:gW:=⟨2,8,[.tmp 4],(.seq (.ops [.aF 4 (.c (.bool false))]) (.seq (.ops [.aj 5 (.t 0),.aj 6 (.t 1),.call 7 86 [(.t 5),(.t 6),(.c (.func 135 []))],.aF 4 (.t 7)]) .ret))⟩
def E5:ak:=(.seq (.ops [.bin 16 .lss (.t 15) (.t 14)]) (.seq (.cond (.t 16) .skip (.exit 0)) (.seq (.block 1 (.seq (.ops [.aj 17 (.t 15),.aF 6 (.t 17)]) (.seq (.drs [] [2,3,5,6,7,12,14,15] [.aG 19 (.t 2) 2,.load 20 none (.t 19),.aj 21 (.t 6),.cu 22 2 (.t 20) (.t 21),.load 23 (some 2) (.t 22),.aG 24 (.t 3) 2,.load 25 none (.t 24),.aj 26 (.t 6),.cu 27 2 (.t 25) (.t 26),.load 28 (some 2) (.t 27),.call 29 136 [(.t 23),(.t 28)],.aj 18 (.t 29),.ext 30 (.t 18) 0,.ext 31 (.t 18) 1,.alloc 7 [(.int .i64 0),(.list 1 [])],.store none 2 (.t 7) (.t 30),.aF 8 (.t 31)]
    [⟨[([0,1,2,3,4,5,6,7,8,9],10),([11,12,13],14)],(some ([],[],15,[])),[16],[0,1,2,3,4,5,6,7,8,9,10,11,12,13,14,15,16],false⟩,⟨[([0,1,2,3,4,5,6,7,8,9],14),([],10)],(some ([11,12],[13],15,[])),[16],[0,1,2,3,4,5,6,7,8,9,14,10,11,12,13,15,16],false⟩]) (.ops [.aj 32 (.t 5),.aj 33 (.t 6),.load 34 (some 2) (.t 7),.call 35 94 [(.t 34)],.cu 36 1 (.t 32) (.t 33),.store none 1 (.t 36) (.t 35)])))) (.ops [.bin 37 .add (.t 15) (.c (.int .i64 1)),.aj 15 (.t 37)]))))
def E8:ak :=
(.clean [2,3,5,12,14,15] [4,5] (.block 0 (.loop [2,3,5,12,14,15] E5)))
def Pz:gW:=⟨2,39,[.tmp 4],(.seq (.ops [.box 2 (.t 0),.box 3 (.t 1),.aF 4 (.nil 1)]) (.seq (.ops [.aG 9 (.t 2) 2,.load 10 none (.t 9),.len 11 (.t 10),.make 12 (.list 0 []) (.t 11) (.t 11),.aF 5 (.t 12)]) (.seq (.seq (.ops [.aj 13 (.t 5),.len 14 (.t 13),.aj 15 (.c (.int .i64 0))])
   E8) (.seq (.ops [.aj 38 (.t 5),.aF 4 (.t 38)]) .ret))))⟩
def abp:ak:=(.seq (.ops [.bin 14 .lss (.t 13) (.t 12)]) (.seq (.cond (.t 14) .skip (.exit 0)) (.seq (.block 1 (.seq (.ops [.aj 15 (.t 13),.aF 5 (.t 15)]) (.seq (.y7 [] [] none [0,1,2,3,4,5,6,7,8] [.aj 16 (.t 0),.aj 17 (.t 5),.cu 18 1 (.t 16) (.t 17),.load 19 none (.t 18),.aj 20 (.t 1),.aj 21 (.t 5),.cu 22 1 (.t 20) (.t 21),.load 23 none (.t 22),.bin 24 .neq (.t 19) (.t 23)]) (.cond (.t 24) (.seq (.ops [.aF 4 (.c (.bool false))]) .ret) .skip)))) (.ops [.bin 25 .add (.t 13) (.c (.int .i64 1)),.aj 13 (.t 25)]))))
def abq:ak :=
(.clean [0,1,12,13] [4] (.block 0 (.loop [0,1,12,13] abp)))
def abr:gW:=⟨2,26,[.tmp 4],(.seq (.ops [.aF 4 (.c (.bool false))]) (.seq (.seq (.ops [.aj 6 (.t 0),.len 7 (.t 6),.aj 8 (.t 1),.len 9 (.t 8),.bin 10 .neq (.t 7) (.t 9)]) (.cond (.t 10) (.seq (.ops [.aF 4 (.c (.bool false))]) .ret) .skip)) (.seq (.seq (.ops [.aj 11 (.t 0),.len 12 (.t 11),.aj 13 (.c (.int .i64 0))])
   abq) (.seq (.ops [.aF 4 (.c (.bool true))]) .ret))))⟩
def PD:gW:=⟨1,5,[.tmp 2],(.seq (.ops [.aF 2 (.nil 1)]) (.seq (.ops [.aj 3 (.t 0),.call 4 138 [(.t 3),(.c (.func 139 []))],.aF 2 (.t 4)]) .ret))⟩
def abt:gW:=⟨2,6,[.tmp 4],(.seq (.ops [.box 2 (.t 0),.box 3 (.t 1),.aF 4 (.c .tC)]) (.seq (.ops [.Ri 5 140 [(.t 2),(.t 3)],.aF 4 (.t 5)]) .ret))⟩
def PE:ak:=(.ops [.alloc 5 [(.int .i64 0),(.int .i64 0)],.store none 2 (.t 5) (.t 7)])
def PG:ak:=(.block 1 (.ops [.load 8 none (.t 2),.load 9 (some 2) (.t 5),.iq 10 2 [(.t 9)],.app 11 2 (.t 8) (.t 10),.store none 1 (.t 2) (.t 11)]))
def PI:gW:=⟨2,13,[.tmp 4],(.seq (.ops [.box 2 (.t 0),.aF 4 (.nil 2)]) (.seq (.seq (.ops [.aj 6 (.t 1)]) (.block 0 (.rng (.t 6) [7] PE PG))) (.seq (.ops [.load 12 none (.t 2),.aF 4 (.t 12)]) .ret)))⟩
def oC:ak:=(.seq (.ops [.bin 19 .lss (.t 18) (.t 17)]) (.seq (.cond (.t 19) .skip (.exit 0)) (.seq (.block 1 (.seq (.ops [.aj 20 (.t 18),.cu 21 3 (.t 16) (.t 18),.load 22 (some 3) (.t 21),.alloc 10 [(.int .i64 0),(.int .i64 0),(.int .i64 0)],.aF 9 (.t 20),.store none 3 (.t 10) (.t 22)]) (.seq (.y7 [] [] (some ([0,1,2,3,4,5,6,7],[],8,[])) [] [.aG 23 (.t 10) 1,.load 24 none (.t 23),.uT 25 (.t 6) (.t 24) 2 1,.load 26 none (.t 25),.aG 27 (.t 10) 2,.load 28 none (.t 27),.bin 29 .add (.t 26) (.t 28),.uT 30 (.t 6) (.t 24) 2 1,.store none 1 (.t 30) (.t 29)]) (.seq (.seq (.y7 [] [] none [0,1,2,3,4,5,6,7,8,9,10,11,12,13,14,15] [.aj 31 (.t 9),.bin 32 .add (.t 31) (.c (.int .i64 1)),.aj 33 (.t 5),.len 34 (.t 33),.bin 35 .lss (.t 32) (.t 34),.aj 36 (.t 35),.grd 36 true (.aj 37 (.t 5)),.grd 36 true (.aj 38 (.t 9)),.grd 36 true (.bin 39 .add (.t 38) (.c (.int .i64 1))),.grd 36 true (.cu 40 3 (.t 37) (.t 39)),.grd 36 true (.aG 41 (.t 40) 0),.grd 36 true (.load 42 none (.t 41)),.grd 36 true (.aG 43 (.t 10) 0),.grd 36 true (.load 44 none (.t 43)),.grd 36 true (.bin 45 .eql (.t 42) (.t 44)),.pick 46 (.t 36) (.t 45) (.c (.bool false))]) (.cond (.t 46) (.exit 1) .skip)) (.seq (.ops [.load 47 none (.t 3),.uT 48 (.t 6) (.c (.int .i64 0)) 2 1,.load 49 none (.t 48),.bin 50 .gtr (.t 49) (.c (.int .i64 0)),.uT 51 (.t 6) (.c (.int .i64 1)) 2 1,.load 52 none (.t 51),.bin 53 .gtr (.t 52) (.c (.int .i64 0)),.kP 54 (.t 47) [(.t 50),(.t 53)],.aF 11 (.t 54)]) (.seq (.seq (.ops [.aj 55 (.t 11),.aj 56 (.t 55),.grd 56 true (.aj 57 (.t 8)),.grd 56 true (.un 58 .not (.t 57)),.pick 59 (.t 56) (.t 58) (.c (.bool false))]) (.cond (.t 59) (.ops [.aG 60 (.t 10) 0,.load 61 none (.t 60),.aF 7 (.t 61)]) .skip)) (.seq (.seq (.ops [.aj 62 (.t 11),.un 63 .not (.t 62),.aj 64 (.t 63),.grd 64 true (.aj 65 (.t 8)),.pick 66 (.t 64) (.t 65) (.c (.bool false)),.aj 67 (.t 66),.grd 67 true (.aj 68 (.t 0)),.grd 67 true (.aj 69 (.t 7)),.grd 67 true (.aG 70 (.t 10) 0),.grd 67 true (.load 71 none (.t 70)),.grd 67 true (.aj 72 (.t 7)),.grd 67 true (.bin 73 .sub (.t 71) (.t 72)),.grd 67 true (.build 74 [(.int .i64 0),(.int .i64 0)] [(0,1,(.t 69)),(1,1,(.t 73))]),.grd 67 true (.yield 75 (.t 68) [(.t 74)]),.grd 67 true (.un 76 .not (.t 75)),.pick 77 (.t 67) (.t 76) (.c (.bool false))]) (.cond (.t 77) .ret .skip)) (.ops [.aj 78 (.t 11),.aF 8 (.t 78)])))))))) (.ops [.bin 79 .add (.t 18) (.c (.int .i64 1)),.aj 18 (.t 79)]))))
def Fa:ak :=
(.clean [0,3,5,6,7,8,15,16,17,18] [] (.block 0 (.loop [0,3,5,6,7,8,15,16,17,18] oC)))
def PK:gW:=⟨4,80,[],(.seq (.ops [.load 12 none (.t 1),.load 13 none (.t 2),.iq 14 1 [(.t 12),(.t 13)],.call 15 120 [(.t 14)],.aF 5 (.t 15)]) (.seq (.ops [.alloc 6 [(.int .i64 0),(.int .i64 0)]]) (.seq (.ops [.aF 7 (.c (.int .i64 0)),.aF 8 (.c (.bool false))]) (.seq (.ops [.aj 16 (.t 5),.len 17 (.t 16),.aj 18 (.c (.int .i64 0))])
   Fa))))⟩
def zW:ak:=(.seq (.ops [.bin 21 .lss (.t 20) (.t 19)]) (.seq (.cond (.t 21) .skip (.exit 2)) (.seq (.block 3 (.seq (.ops [.cu 22 2 (.t 18) (.t 20),.load 23 (some 2) (.t 22),.alloc 7 [(.int .i64 0),(.int .i64 0)],.store none 2 (.t 7) (.t 23)]) (.seq (.ops [.load 25 (some 2) (.t 7),.call 26 141 [(.t 25)],.aj 24 (.t 26),.ext 27 (.t 24) 0,.ext 28 (.t 24) 1,.ext 29 (.t 24) 2,.aF 8 (.t 27),.aF 9 (.t 28),.aF 10 (.t 29)]) (.seq (.ops [.aj 30 (.t 10)]) (.cond (.t 30) (.ops [.aj 31 (.t 3),.aj 32 (.t 8),.aj 33 (.t 4),.build 34 [(.int .i64 0),(.int .i64 0),(.int .i64 0)] [(0,1,(.t 32)),(1,1,(.t 33)),(2,1,(.c (.int .i64 1)))],.aj 35 (.t 9),.aj 36 (.t 4),.build 37 [(.int .i64 0),(.int .i64 0),(.int .i64 0)] [(0,1,(.t 35)),(1,1,(.t 36)),(2,1,(.c (.int .i64 (-1))))],.iq 38 3 [(.t 34),(.t 37)],.app 39 3 (.t 31) (.t 38),.aF 3 (.t 39)]) .skip))))) (.ops [.bin 40 .add (.t 20) (.c (.int .i64 1)),.aj 20 (.t 40)]))))
def Fb:ak :=
(.clean [0,3,4,5,11,12,13,17,18,19,20,39] [0,2,3,11,12,13,39] (.block 2 (.loop [0,3,4,5,11,12,13,17,18,19,20,39] zW)))
def Fe:ak:=(.seq (.ops [.bin 14 .lss (.t 13) (.t 12)]) (.seq (.cond (.t 14) .skip (.exit 0)) (.seq (.block 1 (.seq (.ops [.aj 15 (.t 13),.cu 16 1 (.t 11) (.t 13),.load 17 none (.t 16),.aF 4 (.t 15),.aF 5 (.t 17)]) (.seq (.ops [.aj 18 (.t 5),.len 19 (.t 18),.aj 20 (.c (.int .i64 0))])
    Fb))) (.ops [.bin 41 .add (.t 13) (.c (.int .i64 1)),.aj 13 (.t 41)]))))
def Fg:ak :=
(.clean [0,3,11,12,13,39] [2,3] (.block 0 (.loop [0,3,11,12,13,39] Fe)))
def PL:gW:=⟨1,45,[.tmp 2],(.seq (.ops [.aF 2 (.nil 3)]) (.seq (.ops [.aF 3 (.nil 3)]) (.seq (.seq (.ops [.aj 11 (.t 0),.len 12 (.t 11),.aj 13 (.c (.int .i64 0))])
   Fg) (.seq (.ops [.aj 42 (.t 3),.Hr 43 142 (.t 42) (.c (.func 143 []))]) (.seq (.ops [.aj 44 (.t 3),.aF 2 (.t 44)]) .ret)))))⟩
def PN:gW:=⟨1,7,[.tmp 2],(.seq (.ops [.aF 2 (.c (.int .i64 0))]) (.seq (.ops [.aj 3 (.t 0),.bin 4 .add (.t 3) (.c (.int .i64 64)),.bin 5 .sub (.t 4) (.c (.int .i64 1)),.bin 6 .quo (.t 5) (.c (.int .i64 64)),.aF 2 (.t 6)]) .ret))⟩
def PO:gW:=⟨2,8,[.tmp 4],(.seq (.ops [.aF 4 (.c (.int .u64 0))]) (.seq (.ops [.aj 5 (.t 0),.aj 6 (.t 1),.bin 7 .or (.t 5) (.t 6),.aF 4 (.t 7)]) .ret))⟩
def Fh:ak:=(.seq (.ops [.bin 29 .lss (.t 28) (.t 27)]) (.seq (.cond (.t 29) .skip (.exit 0)) (.seq (.block 1 (.seq (.ops [.aj 30 (.t 28),.aF 10 (.t 30)]) (.y7 [] [([0,1,2,3,4,5,6,7,8,9,10,11,12,13,14,15],16),([],17)] (some ([18],[],19,[])) [] [.aj 31 (.t 9),.aj 32 (.t 10),.aG 33 (.t 3) 0,.load 34 none (.t 33),.aj 35 (.t 9),.aj 36 (.t 10),.cu 37 1 (.t 35) (.t 36),.load 38 none (.t 37),.aj 39 (.t 10),.aG 40 (.t 5) 0,.load 41 none (.t 40),.aG 42 (.t 5) 0,.load 43 none (.t 42),.aG 44 (.t 5) 1,.load 45 none (.t 44),.bin 46 .add (.t 43) (.t 45),.call 47 147 [(.t 39),(.t 41),(.t 46)],.kP 48 (.t 34) [(.t 38),(.t 47)],.cu 49 1 (.t 31) (.t 32),.store none 1 (.t 49) (.t 48)]))) (.ops [.bin 50 .add (.t 28) (.c (.int .i64 1)),.aj 28 (.t 50)]))))
def Fj:ak :=
(.clean [3,4,5,6,9,25,27,28] [4,6,7,9] (.block 0 (.loop [3,4,5,6,9,25,27,28] Fh)))
def Fp:gW:=⟨3,55,[.cell 6 (some 2),.tmp 7],(.seq (.ops [.box 3 (.t 0),.box 4 (.t 1),.box 5 (.t 2),.alloc 6 [(.int .i64 0),(.list 1 [])],.aF 7 (.c (.int .i64 0))]) (.seq (.seq (.ops [.load 11 (some 2) (.t 4),.call 12 90 [(.t 11)],.aF 8 (.t 12)]) (.seq (.ops [.aj 13 (.t 8),.bin 14 .neq (.t 13) (.c (.int .i64 0))]) (.cond (.t 14) (.seq (.ops [.build 15 [(.int .i64 0),(.list 1 [])] [],.aj 16 (.t 8),.store none 2 (.t 6) (.t 15),.aF 7 (.t 16)]) .ret) .skip))) (.seq (.seq (.ops [.load 17 (some 2) (.t 5),.aG 18 (.t 4) 0,.load 19 none (.t 18),.call 20 145 [(.t 17),(.t 19)],.un 21 .not (.t 20)]) (.cond (.t 21) (.seq (.ops [.build 22 [(.int .i64 0),(.list 1 [])] [],.store none 2 (.t 6) (.t 22),.aF 7 (.c (.int .i64 2))]) .ret) .skip)) (.seq (.ops [.aG 23 (.t 4) 1,.load 24 none (.t 23),.call 25 146 [(.t 24)],.aF 9 (.t 25)]) (.seq (.seq (.ops [.aj 26 (.t 9),.len 27 (.t 26),.aj 28 (.c (.int .i64 0))])
    Fj) (.seq (.ops [.aG 51 (.t 4) 0,.load 52 none (.t 51),.aj 53 (.t 9),.build 54 [(.int .i64 0),(.list 1 [])] [(0,1,(.t 52)),(1,1,(.t 53))],.store none 2 (.t 6) (.t 54),.aF 7 (.c (.int .i64 0))]) .ret))))))⟩
def PS:gW:=⟨1,13,[.tmp 2],(.seq (.ops [.aF 2 (.c (.int .i64 0))]) (.seq (.seq (.ops [.aj 3 (.t 0),.len 4 (.t 3),.bin 5 .lss (.t 4) (.c (.int .i64 1)),.aj 6 (.t 5),.grd 6 false (.aj 7 (.t 0)),.grd 6 false (.len 8 (.t 7)),.grd 6 false (.bin 9 .gtr (.t 8) (.c (.int .i64 8))),.pick 10 (.t 6) (.c (.bool true)) (.t 9)]) (.cond (.t 10) (.seq (.ops [.aF 2 (.c (.int .i64 6))]) .ret) .skip)) (.seq (.seq (.ops [.aj 11 (.t 0),.call 12 129 [(.t 11),(.c (.func 148 []))]]) (.cond (.t 12) (.seq (.ops [.aF 2 (.c (.int .i64 2))]) .ret) .skip)) (.seq (.ops [.aF 2 (.c (.int .i64 0))]) .ret))))⟩
def PU:gW:=⟨2,6,[.tmp 4],(.seq (.ops [.box 2 (.t 0),.box 3 (.t 1),.aF 4 (.c .tC)]) (.seq (.ops [.Ri 5 149 [(.t 2),(.t 3)],.aF 4 (.t 5)]) .ret))⟩
def Fq:ak:=(.seq (.ops [.bin 14 .lss (.t 13) (.t 12)]) (.seq (.cond (.t 14) .skip (.exit 0)) (.seq (.block 1 (.seq (.ops [.cu 15 1 (.t 11) (.t 13),.load 16 none (.t 15),.aF 7 (.t 16)]) (.ops [.aj 17 (.t 5),.aj 18 (.t 1),.aj 19 (.t 7),.kP 20 (.t 18) [(.t 19)],.iq 21 1 [(.t 20)],.app 22 1 (.t 17) (.t 21),.aF 5 (.t 22)]))) (.ops [.bin 23 .add (.t 13) (.c (.int .i64 1)),.aj 13 (.t 23)]))))
def Fv:ak :=
(.clean [0,1,5,10,11,12,13,22] [4,5] (.block 0 (.loop [0,1,5,10,11,12,13,22] Fq)))
def PW:gW:=⟨2,25,[.tmp 4],(.seq (.ops [.aF 4 (.nil 1)]) (.seq (.ops [.aj 8 (.t 0),.len 9 (.t 8),.make 10 (.list 0 []) (.c (.int .i64 0)) (.t 9),.aF 5 (.t 10)]) (.seq (.seq (.ops [.aj 11 (.t 0),.len 12 (.t 11),.aj 13 (.c (.int .i64 0))])
   Fv) (.seq (.ops [.aj 24 (.t 5),.aF 4 (.t 24)]) .ret))))⟩
def PX:gW:=⟨1,5,[.tmp 2],(.seq (.ops [.aF 2 (.nil 8)]) (.seq (.ops [.aj 3 (.t 0),.make 4 (.agg [(.int .u8 0),(.int .u8 0),(.int .u8 0),(.int .u8 0),(.int .u8 0),(.int .u8 0),(.int .u8 0),(.int .u8 0)]) (.t 3) (.t 3),.aF 2 (.t 4)]) .ret))⟩
def PY:gW:=⟨2,9,[.tmp 4],(.seq (.ops [.aF 4 (.c (.bool false))]) (.seq (.ops [.aj 5 (.t 0),.aj 6 (.t 1),.call 7 151 [(.t 5),(.t 6)],.bin 8 .geq (.t 7) (.c (.int .i64 0)),.aF 4 (.t 8)]) .ret))⟩
def PZ:gW:=⟨1,6,[.tmp 2],(.seq (.ops [.aF 2 (.c (.bool false))]) (.seq (.ops [.aj 3 (.t 0),.call 4 97 [(.t 3),(.c (.int .i64 0)),(.c (.int .i64 1073741824))],.un 5 .not (.t 4),.aF 2 (.t 5)]) .ret))⟩
def vU:ak:=(.seq (.ops [.bin 12 .lss (.t 11) (.t 10)]) (.seq (.cond (.t 12) .skip (.exit 0)) (.seq (.block 1 (.seq (.ops [.aj 13 (.t 11),.cu 14 3 (.t 9) (.t 11),.load 15 (some 3) (.t 14),.alloc 6 [(.int .i64 0),(.int .i64 0),(.list 0 [])],.aF 5 (.t 13),.store none 3 (.t 6) (.t 15)]) (.seq (.seq (.ops [.aj 16 (.t 1),.load 17 (some 3) (.t 6),.kP 18 (.t 16) [(.t 17)],.aF 7 (.t 18)]) (.seq (.ops [.aj 19 (.t 7),.bin 20 .neq (.t 19) (.c (.int .i64 0))]) (.cond (.t 20) (.seq (.ops [.aj 21 (.t 7),.aF 4 (.t 21)]) .ret) .skip))) (.seq (.seq (.ops [.aj 22 (.t 5),.bin 23 .eql (.t 22) (.c (.int .i64 0))]) (.cond (.t 23) (.exit 1) .skip)) (.seq (.ops [.aj 24 (.t 0),.aj 25 (.t 5),.bin 26 .sub (.t 25) (.c (.int .i64 1)),.cu 27 3 (.t 24) (.t 26),.load 28 (some 3) (.t 27),.alloc 8 [(.int .i64 0),(.int .i64 0),(.list 0 [])],.store none 3 (.t 8) (.t 28)]) (.seq (.ops [.aG 29 (.t 6) 0,.load 30 none (.t 29),.aG 31 (.t 8) 0,.load 32 none (.t 31),.bin 33 .lss (.t 30) (.t 32),.aj 34 (.t 33),.grd 34 false (.aG 35 (.t 6) 0),.grd 34 false (.load 36 none (.t 35)),.grd 34 false (.aG 37 (.t 8) 0),.grd 34 false (.load 38 none (.t 37)),.grd 34 false (.bin 39 .eql (.t 36) (.t 38)),.grd 34 false (.aj 40 (.t 39)),.grd 40 true (.aG 41 (.t 6) 1),.grd 40 true (.load 42 none (.t 41)),.grd 40 true (.aG 43 (.t 8) 1),.grd 40 true (.load 44 none (.t 43)),.grd 40 true (.aG 45 (.t 8) 2),.grd 40 true (.load 46 none (.t 45)),.grd 40 true (.len 47 (.t 46)),.grd 40 true (.bin 48 .add (.t 44) (.t 47)),.grd 40 true (.bin 49 .leq (.t 42) (.t 48)),.grd 34 false (.pick 50 (.t 40) (.t 49) (.c (.bool false))),.pick 51 (.t 34) (.c (.bool true)) (.t 50)]) (.cond (.t 51) (.seq (.ops [.aF 4 (.c (.int .i64 3))]) .ret) .skip))))))) (.ops [.bin 52 .add (.t 11) (.c (.int .i64 1)),.aj 11 (.t 52)]))))
def Fz:ak :=
(.clean [0,1,9,10,11] [4] (.block 0 (.loop [0,1,9,10,11] vU)))
def P5:gW:=⟨2,53,[.tmp 4],(.seq (.ops [.aF 4 (.c (.int .i64 0))]) (.seq (.seq (.ops [.aj 9 (.t 0),.len 10 (.t 9),.aj 11 (.c (.int .i64 0))])
  Fz) (.seq (.ops [.aF 4 (.c (.int .i64 0))]) .ret)))⟩
def P6:gW:=⟨2,7,[.tmp 3],(.seq (.ops [.box 2 (.t 0),.aF 3 (.c (.int .i64 0))]) (.seq (.ops [.load 4 none (.t 1),.load 5 (some 3) (.t 2),.call 6 133 [(.t 4),(.t 5)],.aF 3 (.t 6)]) .ret))⟩
def P7:gW:=⟨2,14,[.tmp 4],(.seq (.ops [.box 3 (.t 1),.aF 4 (.c (.int .i64 0))]) (.seq (.seq (.ops [.aj 6 (.t 0),.call 7 85 [(.t 6)],.aF 5 (.t 7)]) (.seq (.ops [.aj 8 (.t 5),.bin 9 .neq (.t 8) (.c (.int .i64 0))]) (.cond (.t 9) (.seq (.ops [.aj 10 (.t 5),.aF 4 (.t 10)]) .ret) .skip))) (.seq (.ops [.aj 11 (.t 0),.load 12 (some 3) (.t 3),.call 13 89 [(.t 11),(.t 12)],.aF 4 (.t 13)]) .ret)))⟩
def Jr:gW:=⟨2,10,[.tmp 4],(.seq (.ops [.aF 4 (.c (.bool false))]) (.seq (.ops [.aj 5 (.t 0),.len 6 (.t 5),.aj 7 (.t 1),.len 8 (.t 7),.bin 9 .eql (.t 6) (.t 8),.aF 4 (.t 9)]) .ret))⟩
def P8:gW:=⟨2,11,[.cell 4 (some 2),.tmp 5],(.seq (.ops [.box 2 (.t 0),.box 3 (.t 1),.alloc 4 [(.int .i64 0),(.list 1 [])],.aF 5 (.c (.int .i64 0))]) (.seq (.ops [.load 6 (some 2) (.t 2),.load 7 (some 2) (.t 3),.call 8 152 [(.t 6),(.t 7),(.c (.func 153 []))],.ext 9 (.t 8) 0,.ext 10 (.t 8) 1,.store none 2 (.t 4) (.t 9),.aF 5 (.t 10)]) .ret))⟩
def FB:ak:=(.seq (.ops [.bin 14 .lss (.t 13) (.t 12)]) (.seq (.cond (.t 14) .skip (.exit 0)) (.seq (.block 1 (.seq (.ops [.cu 15 1 (.t 11) (.t 13),.load 16 none (.t 15),.aF 7 (.t 16)]) (.ops [.aj 17 (.t 5),.aj 18 (.t 1),.aj 19 (.t 7),.kP 20 (.t 18) [(.t 19)],.iq 21 1 [(.t 20)],.app 22 1 (.t 17) (.t 21),.aF 5 (.t 22)]))) (.ops [.bin 23 .add (.t 13) (.c (.int .i64 1)),.aj 13 (.t 23)]))))
def FC:ak :=
(.clean [0,1,5,10,11,12,13,22] [4,5] (.block 0 (.loop [0,1,5,10,11,12,13,22] FB)))
def P9:gW:=⟨2,25,[.tmp 4],(.seq (.ops [.aF 4 (.nil 1)]) (.seq (.ops [.aj 8 (.t 0),.len 9 (.t 8),.make 10 (.int .i64 0) (.c (.int .i64 0)) (.t 9),.aF 5 (.t 10)]) (.seq (.seq (.ops [.aj 11 (.t 0),.len 12 (.t 11),.aj 13 (.c (.int .i64 0))])
   FC) (.seq (.ops [.aj 24 (.t 5),.aF 4 (.t 24)]) .ret))))⟩
def Qc:gW:=⟨1,5,[.tmp 2],(.seq (.ops [.aF 2 (.c (.int .i64 0))]) (.seq (.ops [.aj 3 (.t 0),.len 4 (.t 3),.aF 2 (.t 4)]) .ret))⟩
def abu:ak:=(.seq (.ops [.bin 8 .lss (.t 7) (.t 6)]) (.seq (.cond (.t 8) .skip (.exit 0)) (.seq (.block 1 (.seq (.ops [.aj 9 (.t 7),.aF 4 (.t 9)]) (.seq (.y7 [] [] (some ([0,1,2,3,4,5,6,7,8,9,10,11],[],12,[])) [13,14] [.load 10 none (.t 1),.aj 11 (.t 4),.cu 12 8 (.t 10) (.t 11),.load 13 (some 8) (.t 12),.load 14 none (.t 2),.aj 15 (.t 4),.cu 16 8 (.t 14) (.t 15),.load 17 (some 8) (.t 16),.Rh 18 true 8 (.t 13) (.t 17),.aj 19 (.t 18),.grd 19 true (.aj 20 (.t 0)),.grd 19 true (.aj 21 (.t 4)),.grd 19 true (.yield 22 (.t 20) [(.t 21)]),.grd 19 true (.un 23 .not (.t 22)),.pick 24 (.t 19) (.t 23) (.c (.bool false))]) (.cond (.t 24) .ret .skip)))) (.ops [.bin 25 .add (.t 7) (.c (.int .i64 1)),.aj 7 (.t 25)]))))
def abv:ak :=
(.clean [0,1,2,6,7] [] (.block 0 (.loop [0,1,2,6,7] abu)))
def abw:gW:=⟨3,26,[],(.seq (.ops [.load 5 none (.t 1),.len 6 (.t 5),.aj 7 (.c (.int .i64 0))])
 abv)⟩
def CV:gW:=⟨1,35,[.tmp 2,.tmp 3,.tmp 4],(.seq (.ops [.box 1 (.t 0),.aF 2 (.c (.int .i64 0)),.aF 3 (.c (.int .i64 0)),.aF 4 (.c (.bool false))]) (.seq (.seq (.ops [.aG 7 (.t 1) 1,.load 8 none (.t 7),.bin 9 .leq (.t 8) (.c (.int .i64 0))]) (.cond (.t 9) (.seq (.ops [.aF 2 (.c (.int .i64 0)),.aF 3 (.c (.int .i64 0)),.aF 4 (.c (.bool false))]) .ret) .skip)) (.seq (.ops [.aG 10 (.t 1) 0,.load 11 none (.t 10),.mn 12 true (.t 11) (.c (.int .i64 0)),.aF 5 (.t 12),.aF 6 (.c (.int .i64 4096))]) (.seq (.seq (.ops [.aG 13 (.t 1) 0,.load 14 none (.t 13),.bin 15 .lss (.t 14) (.c (.int .i64 0)),.aj 16 (.t 15),.grd 16 false (.aG 17 (.t 1) 1),.grd 16 false (.load 18 none (.t 17)),.grd 16 false (.aG 19 (.t 1) 0),.grd 16 false (.load 20 none (.t 19)),.grd 16 false (.bin 21 .sub (.c (.int .i64 4096)) (.t 20)),.grd 16 false (.bin 22 .lss (.t 18) (.t 21)),.pick 23 (.t 16) (.c (.bool true)) (.t 22)]) (.cond (.t 23) (.ops [.aG 24 (.t 1) 0,.load 25 none (.t 24),.aG 26 (.t 1) 1,.load 27 none (.t 26),.bin 28 .add (.t 25) (.t 27),.mn 29 false (.t 28) (.c (.int .i64 4096)),.aF 6 (.t 29)]) .skip)) (.seq (.ops [.aj 30 (.t 5),.aj 31 (.t 6),.aj 32 (.t 5),.aj 33 (.t 6),.bin 34 .lss (.t 32) (.t 33),.aF 2 (.t 30),.aF 3 (.t 31),.aF 4 (.t 34)]) .ret)))))⟩
def abx:gW:=⟨2,10,[.tmp 4],(.seq (.ops [.box 2 (.t 0),.box 3 (.t 1),.aF 4 (.c (.int .i64 0))]) (.seq (.ops [.aG 5 (.t 2) 0,.load 6 none (.t 5),.aG 7 (.t 3) 0,.load 8 none (.t 7),.call 9 144 [(.t 6),(.t 8)],.aF 4 (.t 9)]) .ret))⟩
def aby:gW:=⟨2,20,[.tmp 4],(.seq (.ops [.aF 4 (.c (.int .i64 0))]) (.seq (.ops [.aj 7 (.t 0),.call 8 157 [(.t 7)],.aF 5 (.t 8)]) (.seq (.ops [.aj 9 (.t 1),.call 10 157 [(.t 9)],.aF 6 (.t 10)]) (.seq (.seq (.ops [.aj 11 (.t 5)]) (.cond (.t 11) (.seq (.seq (.ops [.aj 12 (.t 6)]) (.cond (.t 12) (.seq (.ops [.aF 4 (.c (.int .i64 0))]) .ret) .skip)) (.seq (.ops [.aF 4 (.c (.int .i64 (-1)))]) .ret)) .skip)) (.seq (.seq (.ops [.aj 13 (.t 6)]) (.cond (.t 13) (.seq (.ops [.aF 4 (.c (.int .i64 1))]) .ret) .skip)) (.seq (.seq (.ops [.aj 14 (.t 0),.aj 15 (.t 1),.bin 16 .lss (.t 14) (.t 15)]) (.cond (.t 16) (.seq (.ops [.aF 4 (.c (.int .i64 (-1)))]) .ret) .skip)) (.seq (.seq (.ops [.aj 17 (.t 0),.aj 18 (.t 1),.bin 19 .gtr (.t 17) (.t 18)]) (.cond (.t 19) (.seq (.ops [.aF 4 (.c (.int .i64 1))]) .ret) .skip)) (.seq (.ops [.aF 4 (.c (.int .i64 0))]) .ret))))))))⟩
def CW:gW:=⟨2,28,[.tmp 4],(.seq (.ops [.box 2 (.t 0),.aF 4 (.c (.bool false))]) (.seq (.ops [.aG 5 (.t 2) 0,.load 6 none (.t 5),.bin 7 .geq (.t 6) (.c (.int .i64 0)),.aj 8 (.t 7),.grd 8 true (.aG 9 (.t 2) 1),.grd 8 true (.load 10 none (.t 9)),.grd 8 true (.bin 11 .geq (.t 10) (.c (.int .i64 0))),.pick 12 (.t 8) (.t 11) (.c (.bool false)),.aj 13 (.t 12),.grd 13 true (.aG 14 (.t 2) 0),.grd 13 true (.load 15 none (.t 14)),.grd 13 true (.aj 16 (.t 1)),.grd 13 true (.bin 17 .leq (.t 15) (.t 16)),.pick 18 (.t 13) (.t 17) (.c (.bool false)),.aj 19 (.t 18),.grd 19 true (.aG 20 (.t 2) 1),.grd 19 true (.load 21 none (.t 20)),.grd 19 true (.aj 22 (.t 1)),.grd 19 true (.aG 23 (.t 2) 0),.grd 19 true (.load 24 none (.t 23)),.grd 19 true (.bin 25 .sub (.t 22) (.t 24)),.grd 19 true (.bin 26 .leq (.t 21) (.t 25)),.pick 27 (.t 19) (.t 26) (.c (.bool false)),.aF 4 (.t 27)]) .ret))⟩
def Vt:gW:=⟨1,8,[.tmp 2],(.seq (.ops [.aF 2 (.nil 1)]) (.seq (.seq (.ops [.aj 3 (.t 0),.U6 4 false (.t 3)]) (.cond (.t 4) (.seq (.ops [.aF 2 (.nil 1)]) .ret) .skip)) (.seq (.ops [.iq 5 1 [],.aj 6 (.t 0),.app 7 1 (.t 5) (.t 6),.aF 2 (.t 7)]) .ret)))⟩
def Js:gW:=⟨3,27,[.tmp 6],(.seq (.ops [.aF 6 (.c (.int .u64 0))]) (.seq (.ops [.aj 7 (.t 1),.aj 8 (.t 0),.bin 9 .mul (.t 8) (.c (.int .i64 64)),.bin 10 .sub (.t 7) (.t 9),.mn 11 true (.t 10) (.c (.int .i64 0)),.aj 12 (.t 2),.aj 13 (.t 0),.bin 14 .mul (.t 13) (.c (.int .i64 64)),.bin 15 .sub (.t 12) (.t 14),.mn 16 false (.t 15) (.c (.int .i64 64)),.aF 1 (.t 11),.aF 2 (.t 16)]) (.seq (.seq (.ops [.aj 17 (.t 1),.aj 18 (.t 2),.bin 19 .geq (.t 17) (.t 18)]) (.cond (.t 19) (.seq (.ops [.aF 6 (.c (.int .u64 0))]) .ret) .skip)) (.seq (.ops [.aj 20 (.t 2),.aj 21 (.t 1),.bin 22 .sub (.t 20) (.t 21),.bin 23 .sub (.c (.int .i64 64)) (.t 22),.bin 24 .shr (.c (.int .u64 18446744073709551615)) (.t 23),.aj 25 (.t 1),.bin 26 .shl (.t 24) (.t 25),.aF 6 (.t 26)]) .ret))))⟩
def Qd:gW:=⟨1,9,[.tmp 2],(.seq (.ops [.aF 2 (.c (.bool false))]) (.seq (.ops [.aj 3 (.t 0),.bin 4 .lss (.t 3) (.c (.int .i64 1)),.aj 5 (.t 4),.grd 5 false (.aj 6 (.t 0)),.grd 5 false (.bin 7 .gtr (.t 6) (.c (.int .i64 4096))),.pick 8 (.t 5) (.c (.bool true)) (.t 7),.aF 2 (.t 8)]) .ret))⟩
def FD:ak:=(.seq (.seq (.ops [.aj 24 (.t 5),.bin 25 .neq (.t 24) (.c (.int .u64 0))]) (.cond (.t 25) .skip (.exit 2))) (.block 3 (.seq (.seq (.ops [.aj 26 (.t 0),.aj 27 (.t 4),.bin 28 .mul (.t 27) (.c (.int .i64 64)),.aj 29 (.t 5),.call 30 150 [(.t 29)],.bin 31 .add (.t 28) (.t 30),.yield 32 (.t 26) [(.t 31)],.un 33 .not (.t 32)]) (.cond (.t 33) .ret .skip)) (.ops [.aj 34 (.t 5),.aj 35 (.t 5),.bin 36 .sub (.t 35) (.c (.int .u64 1)),.bin 37 .and (.t 34) (.t 36),.aF 5 (.t 37)]))))
def FH:ak :=
(.clean [0,1,2,4,5,10,11,12] [0,1,2,10,11,12] (.block 2 (.loop [0,1,2,4,5,10,11,12] FD)))
def FI:ak:=(.seq (.ops [.bin 13 .lss (.t 12) (.t 11)]) (.seq (.cond (.t 13) .skip (.exit 0)) (.seq (.block 1 (.seq (.ops [.aj 14 (.t 12),.cu 15 1 (.t 10) (.t 12),.load 16 none (.t 15),.aF 4 (.t 14),.aF 5 (.t 16)]) (.seq (.ops [.aj 17 (.t 5),.aj 18 (.t 4),.load 19 none (.t 2),.aG 20 (.t 1) 0,.load 21 none (.t 20),.call 22 147 [(.t 18),(.t 19),(.t 21)],.bin 23 .and (.t 17) (.t 22),.aF 5 (.t 23)])
    FH))) (.ops [.bin 38 .add (.t 12) (.c (.int .i64 1)),.aj 12 (.t 38)]))))
def FK:ak :=
(.clean [0,1,2,10,11,12] [] (.block 0 (.loop [0,1,2,10,11,12] FI)))
def Qe:gW:=⟨3,39,[],(.seq (.seq (.ops [.load 6 (some 2) (.t 1),.call 7 90 [(.t 6)],.bin 8 .neq (.t 7) (.c (.int .i64 0))]) (.cond (.t 8) .ret .skip)) (.seq (.ops [.aG 9 (.t 1) 1,.load 10 none (.t 9),.len 11 (.t 10),.aj 12 (.c (.int .i64 0))])
  FK))⟩
def FM:ak:=(.seq (.ops [.bin 9 .lss (.t 8) (.t 7)]) (.seq (.cond (.t 9) .skip (.exit 0)) (.seq (.block 1 (.seq (.ops [.aj 10 (.t 8),.aF 5 (.t 10)]) (.seq (.ops [.aj 11 (.t 1),.aj 12 (.t 0),.aj 13 (.t 5),.cu 14 1 (.t 12) (.t 13),.load 15 none (.t 14),.kP 16 (.t 11) [(.t 15)]]) (.cond (.t 16) (.seq (.ops [.aj 17 (.t 5),.aF 4 (.t 17)]) .ret) .skip)))) (.ops [.bin 18 .add (.t 8) (.c (.int .i64 1)),.aj 8 (.t 18)]))))
def FN:ak :=
(.clean [0,1,7,8] [4] (.block 0 (.loop [0,1,7,8] FM)))
def Qg:gW:=⟨2,19,[.tmp 4],(.seq (.ops [.aF 4 (.c (.int .i64 0))]) (.seq (.seq (.ops [.aj 6 (.t 0),.len 7 (.t 6),.aj 8 (.c (.int .i64 0))])
  FN) (.seq (.ops [.aF 4 (.c (.int .i64 (-1)))]) .ret)))⟩
def FP:ak:=(.seq (.ops [.bin 37 .lss (.t 36) (.t 35)]) (.seq (.cond (.t 37) .skip (.exit 0)) (.seq (.block 1 (.seq (.ops [.aj 38 (.t 36),.aF 11 (.t 38)]) (.y7 [] [([0,1,2,3,4,5,6,7,8,9,10,11,12],13)] (some ([14],[],15,[])) [] [.aj 39 (.t 10),.aj 40 (.t 11),.aj 41 (.t 2),.aG 42 (.t 3) 1,.load 43 none (.t 42),.aj 44 (.t 11),.cu 45 1 (.t 43) (.t 44),.load 46 none (.t 45),.aG 47 (.t 4) 1,.load 48 none (.t 47),.aj 49 (.t 11),.cu 50 1 (.t 48) (.t 49),.load 51 none (.t 50),.kP 52 (.t 41) [(.t 46),(.t 51)],.cu 53 1 (.t 39) (.t 40),.store none 1 (.t 53) (.t 52)]))) (.ops [.bin 54 .add (.t 36) (.c (.int .i64 1)),.aj 36 (.t 54)]))))
def FQ:ak :=
(.clean [2,3,4,6,10,33,35,36] [3,6,7,10] (.block 0 (.loop [2,3,4,6,10,33,35,36] FP)))
def CX:gW:=⟨3,59,[.cell 6 (some 2),.tmp 7],(.seq (.ops [.box 3 (.t 0),.box 4 (.t 1),.alloc 6 [(.int .i64 0),(.list 1 [])],.aF 7 (.c (.int .i64 0))]) (.seq (.seq (.ops [.load 12 (some 2) (.t 3),.call 13 90 [(.t 12)],.aF 8 (.t 13)]) (.seq (.ops [.aj 14 (.t 8),.bin 15 .neq (.t 14) (.c (.int .i64 0))]) (.cond (.t 15) (.seq (.ops [.build 16 [(.int .i64 0),(.list 1 [])] [],.aj 17 (.t 8),.store none 2 (.t 6) (.t 16),.aF 7 (.t 17)]) .ret) .skip))) (.seq (.seq (.ops [.load 18 (some 2) (.t 4),.call 19 90 [(.t 18)],.aF 9 (.t 19)]) (.seq (.ops [.aj 20 (.t 9),.bin 21 .neq (.t 20) (.c (.int .i64 0))]) (.cond (.t 21) (.seq (.ops [.build 22 [(.int .i64 0),(.list 1 [])] [],.aj 23 (.t 9),.store none 2 (.t 6) (.t 22),.aF 7 (.t 23)]) .ret) .skip))) (.seq (.seq (.ops [.aG 24 (.t 3) 0,.load 25 none (.t 24),.aG 26 (.t 4) 0,.load 27 none (.t 26),.bin 28 .neq (.t 25) (.t 27)]) (.cond (.t 28) (.seq (.ops [.build 29 [(.int .i64 0),(.list 1 [])] [],.store none 2 (.t 6) (.t 29),.aF 7 (.c (.int .i64 22))]) .ret) .skip)) (.seq (.ops [.aG 30 (.t 3) 1,.load 31 none (.t 30),.len 32 (.t 31),.make 33 (.int .u64 0) (.t 32) (.t 32),.aF 10 (.t 33)]) (.seq (.seq (.ops [.aj 34 (.t 10),.len 35 (.t 34),.aj 36 (.c (.int .i64 0))])
    FQ) (.seq (.ops [.aG 55 (.t 3) 0,.load 56 none (.t 55),.aj 57 (.t 10),.build 58 [(.int .i64 0),(.list 1 [])] [(0,1,(.t 56)),(1,1,(.t 57))],.store none 2 (.t 6) (.t 58),.aF 7 (.c (.int .i64 0))]) .ret)))))))⟩
def Qh:gW:=⟨2,8,[.tmp 4],(.seq (.ops [.aF 4 (.c (.int .u64 0))]) (.seq (.ops [.aj 5 (.t 0),.aj 6 (.t 1),.bin 7 .or (.t 5) (.t 6),.aF 4 (.t 7)]) .ret))⟩
def abz:gW:=⟨1,6,[.tmp 2],(.seq (.ops [.aF 2 (.c (.bool false))]) (.seq (.ops [.aj 3 (.t 0),.aj 4 (.t 0),.bin 5 .neq (.t 3) (.t 4),.aF 2 (.t 5)]) .ret))⟩
def tab:List (Nat × Zc):=[(6,.code fn6),(11,.code aaZ),(12,.dfn Bq),(15,.dfn Du),(17,.code ahV),(20,.code ahW),(22,.code Un),(23,.code aa0),(24,.dfn Dv),(25,.code ahX),(27,.code ahY),(30,.code ahZ),(33,.code aa1),(35,.code Uo),(36,.code ah0),(37,.code aa2),(38,.ext uw),(39,.code aa3),(40,.code aa4),(42,.code aa5),(43,.code ah1),(44,.code aa6),(45,.code aa7),(46,.code ah2),(48,.code sJ),(49,.code Ur),(50,.code Lu),(51,.ng uy),(52,.code X9),(53,.code aa8),(54,.code Px),(62,.code ah3),(65,.code aa9),(66,.code ah4),(68,.code ah5),(69,.code abb),(70,.code Ya),(71,.code Us),(75,.code ah6),(76,.code ah7),(77,.code ah8),(78,.code abd),(79,.code abe),(81,.code abf),(83,.code Ut),(84,.code abg),(85,.code abh),(86,.code abj),(87,.code abk),(89,.code Yb),(90,.code Ih),(92,.code abl),(93,.code abm),(94,.code abn),(95,.ext (rP 8)),(96,.code Yc),(97,.code Yd),(98,.code Uu),(99,.code abo),(111,.code Py),(112,.code Pz),(115,.code abr),(116,.code PD),(117,.code abt),(118,.code PI),(119,.code PK),(120,.code PL),(121,.code PN),(122,.code PO),(123,.code Fp),(124,.code PS),(126,.code PU),(127,.code PW),(128,.code PX),(129,.code PY),(130,.code PZ),(131,.code P5),(132,.code P6),(133,.code P7),(135,.code Jr),(136,.code P8),(138,.code P9),(139,.code Qc),(140,.code abw),(141,.code CV),(142,.Hr (lF 143)),(143,.code abx),(144,.code aby),(145,.code CW),(146,.ext (rP 1)),(147,.code Js),(148,.code Qd),(149,.code Qe),(150,.ext tzX),(151,.code Qg),(152,.code CX),(153,.code Qh),(157,.code abz)]
def env:Env:=fun f=>tab.lookup f
theorem akI:env 11=some (.code aaZ):=rfl
theorem akJ:env 12=some (.dfn Bq):=rfl
theorem akK:env 15=some (.dfn Du):=rfl
theorem abA:env 22=some (.code Un):=rfl
theorem akL:env 23=some (.code aa0):=rfl
theorem akM:env 24=some (.dfn Dv):=rfl
theorem akN:env 33=some (.code aa1):=rfl
theorem abB:env 35=some (.code Uo):=rfl
theorem akO:env 37=some (.code aa2):=rfl
theorem akP:env 38=some (.ext uw):=rfl
theorem akQ:env 39=some (.code aa3):=rfl
theorem akR:env 40=some (.code aa4):=rfl
theorem akS:env 42=some (.code aa5):=rfl
theorem akT:env 44=some (.code aa6):=rfl
theorem akU:env 45=some (.code aa7):=rfl
theorem oU:env 48=some (.code sJ):=rfl
theorem abC:env 49=some (.code Ur):=rfl
theorem Qi:env 50=some (.code Lu):=rfl
theorem abD:env 51=some (.ng uy):=rfl
theorem agX:env 52=some (.code X9):=rfl
theorem akV:env 53=some (.code aa8):=rfl
theorem Vu:env 54=some (.code Px):=rfl
theorem akW:env 65=some (.code aa9):=rfl
theorem akX:env 69=some (.code abb):=rfl
theorem agY:env 70=some (.code Ya):=rfl
theorem abE:env 71=some (.code Us):=rfl
theorem akY:env 78=some (.code abd):=rfl
theorem akZ:env 79=some (.code abe):=rfl
theorem ak0:env 81=some (.code abf):=rfl
theorem abG:env 83=some (.code Ut):=rfl
theorem ak1:env 84=some (.code abg):=rfl
theorem ak2:env 85=some (.code abh):=rfl
theorem ak3:env 86=some (.code abj):=rfl
theorem ak4:env 87=some (.code abk):=rfl
theorem agZ:env 89=some (.code Yb):=rfl
theorem Jt:env 90=some (.code Ih):=rfl
theorem ak5:env 92=some (.code abl):=rfl
theorem ak6:env 93=some (.code abm):=rfl
theorem ak7:env 94=some (.code abn):=rfl
theorem ak8:env 95=some (.ext (rP 8)):=rfl
theorem ag0:env 96=some (.code Yc):=rfl
theorem ag1:env 97=some (.code Yd):=rfl
theorem abH:env 98=some (.code Uu):=rfl
theorem ak9:env 99=some (.code abo):=rfl
theorem ah9:env 111=some (.code Py):=rfl
theorem aia:env 112=some (.code Pz):=rfl
theorem aib:env 116=some (.code PD):=rfl
theorem aic:env 118=some (.code PI):=rfl
theorem aie:env 119=some (.code PK):=rfl
theorem aif:env 120=some (.code PL):=rfl
theorem aii:env 121=some (.code PN):=rfl
theorem aij:env 122=some (.code PO):=rfl
theorem Uw:env 123=some (.code Fp):=rfl
theorem aik:env 124=some (.code PS):=rfl
theorem ail:env 126=some (.code PU):=rfl
theorem ain:env 127=some (.code PW):=rfl
theorem aio:env 128=some (.code PX):=rfl
theorem aip:env 129=some (.code PY):=rfl
theorem aiq:env 130=some (.code PZ):=rfl
theorem air:env 131=some (.code P5):=rfl
theorem ais:env 132=some (.code P6):=rfl
theorem ait:env 133=some (.code P7):=rfl
theorem abI:env 135=some (.code Jr):=rfl
theorem aiu:env 136=some (.code P8):=rfl
theorem aiv:env 138=some (.code P9):=rfl
theorem aiw:env 139=some (.code Qc):=rfl
theorem LX:env 141=some (.code CV):=rfl
theorem abJ:env 142=some (.Hr (lF 143)):=rfl
theorem LY:env 145=some (.code CW):=rfl
theorem aix:env 146=some (.ext (rP 1)):=rfl
theorem abK:env 147=some (.code Js):=rfl
theorem aiy:env 148=some (.code Qd):=rfl
theorem aiz:env 149=some (.code Qe):=rfl
theorem aiA:env 150=some (.ext tzX):=rfl
theorem aiB:env 151=some (.code Qg):=rfl
theorem LZ:env 152=some (.code CX):=rfl
theorem aiC:env 153=some (.code Qh):=rfl
end Go.Proofs.YtioijcfcehhmdaaGreatDoor

namespace Go.Proofs.YtioijcfcehhmdaaGreatDoor
open V
def rU:=(And.intro (And.intro (And.intro (And.intro (And.intro (And.intro (And.intro (And.intro @OZ (And.intro @aaj @aak)) (And.intro (And.intro @aeH @O1) (And.intro @O4 @aai))) (And.intro (And.intro (And.intro @KP @aap) (And.intro @aeC @Tf)) (And.intro (And.intro @Tj @OV) (And.intro @OW @aeD)))) (And.intro (And.intro (And.intro (And.intro @KO @OX) (And.intro @Xi @Xj)) (And.intro (And.intro @bY @List.foldl_nil.{0,0}) (And.intro @List.foldl_cons.{0,0} @aez))) (And.intro (And.intro (And.intro @aeA @aeE) (And.intro @aae @Jk)) (And.intro (And.intro @aag @aeF) (And.intro @OY @Xl))))) (And.intro (And.intro (And.intro (And.intro @aah (And.intro @Dq @KQ)) (And.intro (And.intro @Ie @O7) (And.intro @aaq @Xm))) (And.intro (And.intro (And.intro @Tq @aeI) (And.intro @Td @CP)) (And.intro (And.intro @O8 @TB) (And.intro @O9 @TD)))) (And.intro (And.intro (And.intro (And.intro @gq.eq_1 @gq.eq_2) (And.intro @gq.eq_3 @resultList.eq_1)) (And.intro (And.intro @resultList.eq_2 @og.eq_1) (And.intro @og.eq_2 @og.eq_3))) (And.intro (And.intro (And.intro @zBV.eq_1 @zBV.eq_2) (And.intro @splice.eq_1 @PV.vk.eq_1)) (And.intro (And.intro @PV.vk.eq_2 @PV.vk.eq_3) (And.intro @PV.vk.eq_4 @St.iT.eq_1)))))) (And.intro (And.intro (And.intro (And.intro (And.intro @St.bn.eq_1 (And.intro @St.fZ.eq_1 @St.fZ.eq_2)) (And.intro (And.intro @PV.single.eq_1 @PV.single.eq_2) (And.intro @aas @Xp))) (And.intro (And.intro (And.intro @aeS @aat) (And.intro @aau @Xr)) (And.intro (And.intro @aav @Xt) (And.intro @aeU @aax)))) (And.intro (And.intro (And.intro (And.intro @aeV @aay) (And.intro @aaz @aeW)) (And.intro (And.intro @aeX @aeY) (And.intro @aeZ @bY))) (And.intro (And.intro (And.intro @bY @ae0) (And.intro @bY @bY)) (And.intro (And.intro @bY @bY) (And.intro @ae7 @ae5))))) (And.intro (And.intro (And.intro (And.intro @ae3 (And.intro @ae1 @bY)) (And.intro (And.intro @bY @bY) (And.intro @ahQ @aaA))) (And.intro (And.intro (And.intro @aaB @aaC) (And.intro @aaD @aaE)) (And.intro (And.intro @bY @bY) (And.intro @afa @afb)))) (And.intro (And.intro (And.intro (And.intro @bY @afc) (And.intro @Xu @ahR)) (And.intro (And.intro @afd @Xv) (And.intro @afe @Xw))) (And.intro (And.intro (And.intro @aaF @aaG) (And.intro @aff @afg)) (And.intro (And.intro @bY @bY) (And.intro @Xx @afh))))))) (And.intro (And.intro (And.intro (And.intro (And.intro (And.intro @afi (And.intro @afj @afk)) (And.intro (And.intro @bY @bY) (And.intro @ae9 @bY))) (And.intro (And.intro (And.intro @bY @bY) (And.intro @bY @ae8)) (And.intro (And.intro @ae6 @ae4) (And.intro @ae2 @bY)))) (And.intro (And.intro (And.intro (And.intro @bY @bY) (And.intro @ahS @aaH)) (And.intro (And.intro @aaI @aaJ) (And.intro @aaK @aaL))) (And.intro (And.intro (And.intro @bY @bY) (And.intro @afl @afm)) (And.intro (And.intro @bY @afn) (And.intro @Xy @ahT))))) (And.intro (And.intro (And.intro (And.intro @afo (And.intro @Xz @afp)) (And.intro (And.intro @XA @aaM) (And.intro @aaN @afq))) (And.intro (And.intro (And.intro @afr @bY) (And.intro @bY @XB)) (And.intro (And.intro @plain.eq_1 @plain.eq_2) (And.intro @plain.eq_3 @plain.eq_4)))) (And.intro (And.intro (And.intro (And.intro @plain.eq_5 @plain.eq_6) (And.intro @plain.eq_7 @plain.eq_8)) (And.intro (And.intro @plain.eq_9 @plain.eq_10) (And.intro @plain.eq_11 @plain.eq_12))) (And.intro (And.intro (And.intro @plain.eq_13 @plain.eq_14) (And.intro @plain.eq_15 @plain.eq_16)) (And.intro (And.intro @plain.eq_17 @plain.eq_18) (And.intro @plain.eq_19 @plain.eq_20)))))) (And.intro (And.intro (And.intro (And.intro (And.intro @plain.eq_21 (And.intro @plain.eq_22 @plain.eq_23)) (And.intro (And.intro @plain.eq_24 @plain.eq_25) (And.intro @plain.eq_26 @plain.eq_27))) (And.intro (And.intro (And.intro @plain.eq_28 @plain.eq_29) (And.intro @plain.eq_30 @plain.eq_31)) (And.intro (And.intro @plain.eq_32 @plain.eq_33) (And.intro @act.eq_1 @act.eq_2)))) (And.intro (And.intro (And.intro (And.intro @act.eq_3 @act.eq_4) (And.intro @act.eq_5 @act.eq_6)) (And.intro (And.intro @act.eq_7 @act.eq_8) (And.intro @act.eq_9 @act.eq_10))) (And.intro (And.intro (And.intro @act.eq_11 @act.eq_12) (And.intro @act.eq_13 @act.eq_14)) (And.intro (And.intro @act.eq_15 @act.eq_16) (And.intro @act.eq_17 @act.eq_18))))) (And.intro (And.intro (And.intro (And.intro (And.intro @act.eq_19 @dh.eq_1) (And.intro @dh.eq_2 @dh.eq_3)) (And.intro (And.intro @dh.eq_4 @dh.eq_5) (And.intro @dh.eq_6 @dh.eq_7))) (And.intro (And.intro (And.intro @dh.eq_8 @dh.eq_9) (And.intro @dh.eq_10 @dh.eq_11)) (And.intro (And.intro @dh.eq_12 @dh.eq_13) (And.intro @dh.eq_14 @dh.eq_15)))) (And.intro (And.intro (And.intro (And.intro @dh.eq_16 @dh.eq_17) (And.intro @dh.eq_18 @dh.eq_19)) (And.intro (And.intro @dh.eq_20 @dh.eq_21) (And.intro @dh.eq_22 @dh.eq_23))) (And.intro (And.intro (And.intro @dh.eq_24 @dh.eq_25) (And.intro @dh.eq_26 @dh.eq_27)) (And.intro (And.intro @dh.eq_28 @dh.eq_29) (And.intro @dh.eq_30 @dh.eq_31)))))))) (And.intro (And.intro (And.intro (And.intro (And.intro (And.intro (And.intro @dh.eq_32 (And.intro @dh.eq_33 @dh.eq_34)) (And.intro (And.intro @dh.eq_35 @dh.eq_36) (And.intro @dh.eq_37 @dh.eq_38))) (And.intro (And.intro (And.intro @dh.eq_39 @dh.eq_40) (And.intro @dh.eq_41 @dh.eq_42)) (And.intro (And.intro @dh.eq_43 @dh.eq_44) (And.intro @dh.eq_45 @dh.eq_46)))) (And.intro (And.intro (And.intro (And.intro @dh.eq_47 @dh.eq_48) (And.intro @dh.eq_49 @Bool.false_eq_true)) (And.intro (And.intro @if_true.{1} @if_false.{1}) (And.intro @TF @Pg))) (And.intro (And.intro (And.intro @St.get.eq_1 @St.get.eq_2) (And.intro @St.get.eq_3 @St.put.eq_1)) (And.intro (And.intro @St.dF.eq_1 @St.putRow.eq_1) (And.intro @St.consume.eq_1 @St.consume.eq_2))))) (And.intro (And.intro (And.intro (And.intro @St.consume.eq_3 (And.intro @St.freeze.eq_1 @St.row.eq_1)) (And.intro (And.intro @St.row.eq_2 @St.row.eq_3) (And.intro @St.elems.eq_1 @St.grab.eq_1))) (And.intro (And.intro (And.intro @St.grab.eq_2 @St.grab.eq_3) (And.intro @qN.eq_1 @qN.eq_2)) (And.intro (And.intro @qN.eq_3 @qN.eq_4) (And.intro @Wv.eq_1 @Wv.eq_2)))) (And.intro (And.intro (And.intro (And.intro @jU.eq_1 @jU.eq_2) (And.intro @jU.eq_3 @jU.eq_4)) (And.intro (And.intro @St.takeRow.eq_1 @St.takeRow.eq_2) (And.intro @St.takeRow.eq_3 @St.setRow.eq_1))) (And.intro (And.intro (And.intro @St.setRow.eq_2 @St.setRow.eq_3) (And.intro @St.place.eq_1 @St.place.eq_2)) (And.intro (And.intro @St.xQ.eq_1 @St.xQ.eq_2) (And.intro @St.setCell.eq_1 @St.jT.eq_1)))))) (And.intro (And.intro (And.intro (And.intro (And.intro @BX.eq_1 (And.intro @BX.eq_2 @BX.eq_3)) (And.intro (And.intro @BX.eq_4 @Ed.eq_1) (And.intro @Ed.eq_2 @Ed.eq_3))) (And.intro (And.intro (And.intro @Ed.eq_4 @gK.eq_1) (And.intro @gK.eq_2 @gK.eq_3)) (And.intro (And.intro @gK.eq_4 @gK.eq_5) (And.intro @gK.eq_6 @gK.eq_7)))) (And.intro (And.intro (And.intro (And.intro @gK.eq_8 @gK.eq_9) (And.intro @gK.eq_10 @gK.eq_11)) (And.intro (And.intro @gK.eq_12 @gK.eq_13) (And.intro @gK.eq_14 @gK.eq_15))) (And.intro (And.intro (And.intro @gK.eq_16 @gK.eq_17) (And.intro @Wu.eq_1 @Wu.eq_2)) (And.intro (And.intro @Wu.eq_3 @Wu.eq_4) (And.intro @BV.val.eq_1 @BV.val.eq_2))))) (And.intro (And.intro (And.intro (And.intro @BV.av.eq_1 (And.intro @BV.av.eq_2 @XW)) (And.intro (And.intro @Ui @XY) (And.intro @Uj @cells_func))) (And.intro (And.intro (And.intro @XZ @EU) (And.intro @Bl @Bo)) (And.intro (And.intro @aaO @XC) (And.intro @XD @TP)))) (And.intro (And.intro (And.intro (And.intro @aaP @XF) (And.intro @XE @XG)) (And.intro (And.intro @TQ @TS) (And.intro @TU @TV))) (And.intro (And.intro (And.intro @aaQ @XH) (And.intro @XI @TW)) (And.intro (And.intro @aaR @XK) (And.intro @XJ @XL))))))) (And.intro (And.intro (And.intro (And.intro (And.intro (And.intro @Ua (And.intro @TY @Uc)) (And.intro (And.intro @Ub @aaS) (And.intro @XM @XO))) (And.intro (And.intro (And.intro @Ud @aaT) (And.intro @XQ @XP)) (And.intro (And.intro @XR @Uf) (And.intro @Ue @Uh)))) (And.intro (And.intro (And.intro (And.intro @Ug @bound.eq_1) (And.intro @bound.eq_2 @bound.eq_3)) (And.intro (And.intro @eU.eq_1 @eU.eq_2) (And.intro @iK.eq_1 @iK.eq_2))) (And.intro (And.intro (And.intro @yh.eq_1 @yh.eq_2) (And.intro @capOf.eq_1 @Jm)) (And.intro (And.intro @ahP @aJ) (And.intro @aT @aH))))) (And.intro (And.intro (And.intro (And.intro @aS (And.intro @List.append_nil.{0} @aO)) (And.intro (And.intro @aI @Nat.zero_add) (And.intro @Nat.add_zero @Pm))) (And.intro (And.intro (And.intro @Pj @Ph) (And.intro @qY @decide_true)) (And.intro (And.intro @decide_false @Bool.not_true) (And.intro @Bool.not_false @Bool.true_eq_false)))) (And.intro (And.intro (And.intro (And.intro @beq_self_eq_true.{0} @Bool.true_and) (And.intro @Bool.and_true @Bool.false_and)) (And.intro (And.intro @Bool.and_false @Bool.true_or) (And.intro @Bool.false_or @Bool.or_false))) (And.intro (And.intro (And.intro @Bool.or_true @akE) (And.intro @akF @Jj)) (And.intro (And.intro @Xh @List.length_map.{0,0}) (And.intro @Pn @aar)))))) (And.intro (And.intro (And.intro (And.intro (And.intro @Po (And.intro @TG @aeQ)) (And.intro (And.intro @TI @TJ) (And.intro @aeR @TK))) (And.intro (And.intro (And.intro @dcall.eq_1 @Bh.eq_1) (And.intro @aeT.eq_1 @Pv.eq_1)) (And.intro (And.intro @Jp.eq_1 @KU.eq_1) (And.intro @tH.eq_1 @nS.eq_1)))) (And.intro (And.intro (And.intro (And.intro @nS.eq_2 @nS.eq_3) (And.intro @Tt @Tv)) (And.intro (And.intro @TA @aeK) (And.intro @aeL @aeM))) (And.intro (And.intro (And.intro @aeN @aeO) (And.intro @aeP @O5)) (And.intro (And.intro @aan @Dt) (And.intro @EP @List.mapM_cons.{0,0,0}))))) (And.intro (And.intro (And.intro (And.intro (And.intro @TL @St.jJ.eq_1) (And.intro @St.jJ.eq_2 @St.snap.eq_1)) (And.intro (And.intro @St.snap.eq_2 @St.snap.eq_3) (And.intro @St.snap.eq_4 @St.snap.eq_5))) (And.intro (And.intro (And.intro @St.snap.eq_6 @TM) (And.intro @Xn @TN)) (And.intro (And.intro @Xo @aaU) (And.intro @XT @aaV)))) (And.intro (And.intro (And.intro (And.intro @XU @XV) (And.intro @St.layAll.eq_1 @St.layAll.eq_2)) (And.intro (And.intro @St.lay.eq_1 @St.lay.eq_2) (And.intro @St.lay.eq_3 @KT))) (And.intro (And.intro (And.intro @Pq @St.bV.eq_1) (And.intro @St.bD.eq_1 @St.bD.eq_2)) (And.intro (And.intro @St.bD.eq_3 @St.bD.eq_4) (And.intro @St.bD.eq_5 @St.bD.eq_6)))))))))
def abL:=(And.intro (And.intro (And.intro (And.intro @List.isEmpty_nil.{0} (And.intro @aey @S9)) (And.intro @Ji (And.intro @Xf @Xg))) (And.intro (And.intro @SY (And.intro @Int.le_refl @zQ)) (And.intro @Nat.le_refl (And.intro @St.bC.eq_1 @BV.frozen.eq_1)))) (And.intro (And.intro (And.intro @BV.frozen.eq_2 (And.intro @List.take_length.{0} @List.take_append_drop.{0})) (And.intro @aA (And.intro @Int.toNat_zero @true_and))) (And.intro (And.intro @and_true (And.intro @and_self @eq_self.{1})) (And.intro @qY (And.intro @List.drop_nil.{0} @List.take_nil.{0})))))
def dB:=(And.intro (And.intro @Nat.zero_le (And.intro @List.take_zero.{0} @List.take_nil.{0})) (And.intro (And.intro @List.take_succ_cons.{0} @List.length_cons.{0}) (And.intro @List.length_nil.{0} @Nat.le_refl)))
def bI:=And.intro @abL @rU
end Go.Proofs.YtioijcfcehhmdaaGreatDoor

namespace Go.Proofs.YtioijcfcehhmdaaGreatDoor.V
theorem Ux:oz KN=[.int .u8 0,.int .u8 0,.int .u8 0,.int .u8 0,.int .u8 0,.int .u8 0,.int .u8 0,.int .u8 0]:=rfl
theorem abM (x:fP):part (oz x) 0 (some 8)=some (.agg (oz x)):=by
 simp only [part,kE,Nat.zero_add,List.drop_zero]
 rw [if_pos (Nat.le_refl _),List.take_of_length_le (by rw [kE];exact Nat.le_refl _)]
theorem FT:∀ a b:List UInt8,a.length=b.length→jg (a.map fun b=>.int .u8 (b.toNat:Int)) (b.map fun b=>.int .u8 (b.toNat:Int))=some (decide (a=b))
 |[],[],_=>rfl
 |x :: a,y :: b,h=>by
  simp only [List.length_cons,Nat.add_right_cancel_iff] at h
  simp only [List.map_cons,jg,if_pos,FT a b h,Option.map_some,List.cons.injEq]
  congr 1
  have:((x.toNat:Int)==(y.toNat:Int))=decide (x=y):=by
   by_cases e:x=y
   ·subst e;simp
   ·have:¬ x.toNat=y.toNat:=fun h=>e (UInt8.toNat_inj.1 h)
    simp [e];omega
  rw [this,Bool.decide_and]
 |[],_ :: _,h=>by simp at h
 |_ :: _,[],h=>by simp at h
theorem Qj (a b:fP):jg (oz a) (oz b)=some (decide (a=b)):=by
 unfold oz
 rw [FT _ _ (by simp)]
 congr 1
 apply decide_eq_decide.2
 exact ⟨fun h=>Vector.toList_inj.1 h,fun h=>by rw [h]⟩
end Go.Proofs.YtioijcfcehhmdaaGreatDoor.V

namespace Go.Proofs.YtioijcfcehhmdaaGreatDoor
noncomputable def iter (env:Env) (f:Nat) (caps:List PV) (stop:Option Nat):Option (List (List PV)):=jP (den env) env f caps stop
def Uy (n:Nat) (caps:List PV) (stop:Option Nat):St:=⟨.rY :: (caps.map .pv++List.replicate (n - (caps.length+1)) .any),[],[],some stop⟩
def aiD:Ex × St→Option (List (List PV))
 |(.exit _,_)=>none
 |(.ng _ _,_)=>none
 |(_,st)=>some st.ys
section
variable {env:Env}
theorem Qk (st:St):aiD (.normal,st)=some st.ys:=(rfl)
theorem abN (st:St):aiD (.ret,st)=some st.ys:=(rfl)
theorem Ju {f:Nat} {fn:gW} {caps:List PV} {stop:Option Nat} (h:env f=some (.code fn)) (hl:caps.length+1=fn.nargs) (hr:fn.results.isEmpty=true):iter env f caps stop=(den env fn.body (Uy fn.ntmps caps stop)).bind aiD:=by
 unfold iter jP
 rw [h]
 simp only [if_pos (And.intro hl hr)]
 show (den env fn.body _).bind _=_
 congr 1
 funext ⟨e,st⟩
 cases e<;>rfl
noncomputable def FU (env:Env) (slots:List AV) (ps:List Nat) (assign body:ak) (nb:Nat) (x:List PV) (st:St):Option (Ex × St) :=
 (gy slots ps x).bind fun sl=>(den env assign { st with slots:=sl }).bind fun p=>match p with
  |(.normal,st)=>(den env body st).bind fun p=>match p with
   |(.normal,st)=>if nb≤st.boxes.length then some (.normal,{ st with boxes:=st.boxes.take nb }) else none
   |(.ng _ _,_)=>none
   |p=>some p
  |_=>none
theorem Ql {slots:List AV} {ps:List Nat} {assign body:ak} {nb k:Nat} {x:List PV} {xs:List (List PV)} {st:St} :
  rounds (den env) slots ps assign body nb k (x :: xs) st=(FU env slots ps assign body nb x st).bind fun p=>match p with
   |(.normal,st)=>rounds (den env) slots ps assign body nb (k+1) xs st
   |(e,st)=>some (some (e,k+1),st):=by
 conv=>lhs;unfold rounds
 unfold FU
 show (gy slots ps x).bind _=_
 cases gy slots ps x with
 |none=>rfl
 |some sl =>
  simp only [Option.bind_some]
  show (den env assign _).bind _=_
  cases den env assign { st with slots:=sl } with
  |none=>rfl
  |some p =>
   obtain ⟨e,s⟩:=p
   simp only [Option.bind_some]
   cases e with
   |normal =>
    simp only
    show (den env body _).bind _=_
    cases den env body s with
    |none=>rfl
    |some p =>
     obtain ⟨e,s⟩:=p
     simp only [Option.bind_some]
     cases e with
     |normal =>
      simp only
      split<;>rfl
     |exit i=>rfl
     |ret=>rfl
     |ng t n=>rfl
   |exit i=>rfl
   |ret=>rfl
   |ng t n=>rfl
theorem afP {g:bQ} {ps:List Nat} {assign body:ak} {st st1:St} {f:Nat} {caps:List PV} {xs:List (List PV)} (hg:st.dF g=some (.func f caps)) (hi:iter env f caps none=some xs)
  (hr:rounds (den env) (st.slots.map AV.froze) ps assign body st.boxes.length 0 xs { st with slots:=st.slots.map AV.froze }=some (none,st1)):den env (.rng g ps assign body) st=some (.normal,{ st1 with slots:=st.slots.map AV.froze }):=by
 rw [mM]
 show ranged (den env) env g ps assign body st=_
 unfold ranged
 rw [hg]
 unfold iter at hi
 simp only [Jm,Option.bind_some,hi,hr]
theorem Vw (B:Nat→List Box) {g:bQ} {ps:List Nat} {assign body:ak} {st:St} {f:Nat} {caps:List PV} {xs:List (List PV)} (hg:st.dF g=some (.func f caps)) (hi:iter env f caps none=some xs) (hB:st.boxes=B 0)
  (h:∀ j x,xs[j]?=some x→∀ sl0,∃ sl1,FU env (st.slots.map AV.froze) ps assign body st.boxes.length x ⟨sl0,B j,st.ys,st.stop⟩=some (.normal,⟨sl1,B (j+1),st.ys,st.stop⟩)) :
  den env (.rng g ps assign body) st=some (.normal,⟨st.slots.map AV.froze,B xs.length,st.ys,st.stop⟩):=by
 have key:∀ (l:List (List PV)) (j:Nat),xs.drop j=l→∀ (k:Nat) (sl0:List AV),∃ sl1,rounds (den env) (st.slots.map AV.froze) ps assign body st.boxes.length k l ⟨sl0,B j,st.ys,st.stop⟩=some (none,⟨sl1,B (j+l.length),st.ys,st.stop⟩):=by
  intro l
  induction l with
  |nil=>intro j _ k sl0;exact ⟨sl0,rfl⟩
  |cons x l ih =>
   intro j hj k sl0
   have hx:xs[j]?=some x:=by rw [← List.head?_drop,hj];rfl
   have hd:xs.drop (j+1)=l:=by rw [← List.drop_drop,hj];rfl
   obtain ⟨sl1,q⟩:=h j x hx sl0
   obtain ⟨sl2,q2⟩:=ih (j+1) hd (k+1) sl1
   refine ⟨sl2,?_⟩
   rw [Ql,q]
   simp only [Option.bind_some,q2,List.length_cons]
   rw [show j+1+l.length=j+(l.length+1) by omega]
 obtain ⟨sl1,q⟩:=key xs 0 (by simp) 0 (st.slots.map AV.froze)
 rw [← hB,Nat.zero_add] at q
 have r:=afP hg hi q
 exact r
theorem Jv {keep post:List Nat} {id nb:Nat} {b:ak} (n:Nat) (P:Nat→Prop) (S:Nat→St) (R:Nat→Option (Ex × St)) {st:St} (h:st.head keep st.boxes.length=some (S 0)) (hP:P 0) (hS:∀ i,(S i).boxes.length=nb) (hh:∀ i,(S i).head keep nb=some (S i))
  (step:∀ i rb,i<n→P i→(P (i+1)→∀ s,s.head keep nb=some (S (i+1))→kL env id post nb (den env rb s)=R (i+1))→kL env id post nb ((den env b (S i)).bind (next env rb))=R i)
  (last:∀ rb,P n→kL env id post nb ((den env b (S n)).bind (next env rb))=R n) :
  den env (.clean keep post (.block id (.loop keep b))) st=R 0:=by
 refine Bg S R (fun i=>i≤n∧P i) (fun i=>n - i) 0 h ⟨Nat.zero_le _,hP⟩ hS hh fun i rb hi ih=>?_
 by_cases hn:i=n
 ·subst hn;exact last rb hi.2
 ·exact step i rb (by omega) hi.2 fun hp s hs=>ih (i+1) (by omega) ⟨by omega,hp⟩ s hs
noncomputable def Vx (env:Env) (body:ak) (nb:Nat):Ex × St→Option (Ex × St)
 |(.normal,st)=>(den env body st).bind fun p=>match p with
  |(.normal,st)=>if nb≤st.boxes.length then some (.normal,{ st with boxes:=st.boxes.take nb }) else none
  |(.ng _ _,_)=>none
  |p=>some p
 |_=>none
def rend (nb:Nat):Ex × St→Option (Ex × St)
 |(.normal,st)=>if nb≤st.boxes.length then some (.normal,{ st with boxes:=st.boxes.take nb }) else none
 |(.ng _ _,_)=>none
 |p=>some p
theorem Ye (slots:List AV) (ps:List Nat) (assign body:ak) (nb:Nat) (x:List PV) (st:St):FU env slots ps assign body nb x st=(gy slots ps x).bind fun sl=>(den env assign { st with slots:=sl }).bind (Vx env body nb):=by
 unfold FU
 rfl
theorem FV (body:ak) (nb:Nat) (st:St):Vx env body nb (.normal,st)=(den env body st).bind (rend nb):=by
 rfl
theorem Qm (nb:Nat) (st:St):rend nb (.normal,st)=if nb≤st.boxes.length then some (.normal,{ st with boxes:=st.boxes.take nb }) else none:=(rfl)
theorem Yf (nb i:Nat) (st:St):rend nb (.exit i,st)=some (.exit i,st):=(rfl)
theorem abO (nb:Nat) (st:St):rend nb (.ret,st)=some (.ret,st):=(rfl)
theorem abP (slots:List AV):gy slots [] []=some slots:=(rfl)
theorem Yg (slots:List AV) (p:Nat) (ps:List Nat) (v:PV) (vs:List PV):gy slots (p :: ps) (v :: vs)=gy (slots.set p (.pv v)) ps vs:=(rfl)
theorem abQ (v:PV):AV.froze (.pv v)=.pv v:=(rfl)
theorem Yh (sz:Nat) (es:List PV):AV.froze (.row sz es)=.pv (.list sz es):=(rfl)
theorem Yi:AV.froze .any=.any:=(rfl)
theorem Yj (k:Bool) (l:List AV):AV.froze (.kU k l)=.any:=(rfl)
theorem Yk (r:Root) (i j:Nat):AV.froze (.ref r i j)=.any:=(rfl)
theorem Yl (r:Root) (i j:Nat):AV.froze (.oL r i j)=.any:=(rfl)
theorem Uz (i j:Nat):AV.froze (.aV i j)=.aV i j:=(rfl)
theorem abR (f:Nat) (l:List AV):AV.froze (.fn f l)=.fn f l:=(rfl)
theorem Ym:AV.froze .rY=.rY:=(rfl)
end
def Qn:=And.intro @Ye (And.intro @FV (And.intro @Qm (And.intro @Yf (And.intro @abO (And.intro @abP (And.intro @Yg (And.intro @abQ (And.intro @Yh (And.intro @Yi (And.intro @Yj (And.intro @Yk (And.intro @Yl (And.intro @Uz (And.intro @abR (And.intro @Ym (And.intro @Qk @abN))))))))))))))))
end Go.Proofs.YtioijcfcehhmdaaGreatDoor

namespace Go.Proofs.YtioijcfcehhmdaaGreatDoor.V
structure xI where
 epoch:Int
 fr:Int
 to:Int
 deriving DecidableEq
def lg (x:xI):PV:=.agg [.int .i64 x.epoch,.int .i64 x.fr,.int .i64 x.to]
def Dw (x:xI):List BV:=[.pv (.int .i64 x.epoch),.pv (.int .i64 x.fr),.pv (.int .i64 x.to)]
def ku (p x:xI):Bool:=decide (x.fr=p.to+1)&&(decide (x.fr≤x.to)&&(decide (x.to≤1073741824)&&(decide (x.epoch≤1073741824)&&decide (p.epoch<x.epoch))))
def z0:xI:=⟨0,0,0⟩
def linGo:xI→List xI→Bool
 |_,[]=>true
 |p,x :: l=>ku p x&&linGo x l
def qx (l:List xI):Bool:=linGo z0 l
def lastOf (l:List xI) (j:Nat):xI:=if j=0 then z0 else l.getD (j - 1) z0
def Jw (p:xI):Prop:=0≤p.epoch∧p.epoch≤1073741824∧0≤p.to∧p.to≤1073741824
theorem vV {l:List xI} {i:Nat} (h:i<l.length):lastOf l (i+1)=l[i]:=by
 simp [lastOf,List.getD_eq_getElem?_getD,List.getElem?_eq_getElem h]
theorem Qo {p x:xI} (h:ku p x=true) (hp:Jw p):Jw x∧x.fr=p.to+1∧x.fr≤x.to∧p.epoch<x.epoch:=by
 simp only [ku,Bool.and_eq_true,decide_eq_true_eq] at h
 unfold Jw at *
 omega
def jV (p:xI):List xI→Bool × xI
 |[]=>(true,p)
 |x :: r=>if ku p x=true then jV x r else (false,p)
theorem Jy:∀ (l:List xI) (p:xI),(jV p l).1=linGo p l
 |[],_=>rfl
 |x :: l,p=>by
  unfold jV linGo
  by_cases h:ku p x=true
  ·simp only [h,if_true,Bool.true_and];exact Jy l x
  ·simp only [h,if_false,Bool.not_eq_true] at *;simp [h]
theorem ag2 {n low:Int}:cal env 92 [.int .i64 n,.int .i64 low]=some [(.bool (decide (n ≥ low)&&decide (n≤1073741824)),false)]:=by
 rw [ah ak5 rfl];simp only [abl];simp only [start,aJ,aT,aH,aS,aA,aB,aI,aO,Nat.reduceAdd,Nat.reduceSub]
 by_cases h:n ≥ low
 ·have G:(n ≥ low)=True:=eq_true h
  simp only [G,bI,reduceCtorEq,Nat.reduceEqDiff,Nat.reduceAdd,Nat.reduceLT,Nat.reduceLeDiff,Nat.beq]
 ·have G:(n ≥ low)=False:=eq_false h
  simp only [G,bI,reduceCtorEq,Nat.reduceEqDiff,Nat.reduceAdd,Nat.reduceLT,Nat.reduceLeDiff,Nat.beq]
theorem aiE {l:List xI} (hl:l.length≤lim)
  {st:St} (h:st.head [0,3,7,8,9] st.boxes.length=some ⟨[.pv (.list 3 (l.map lg)),.any,.any,.aV 0 0,.any,.any,.any,.pv (.list 3 (l.map lg)),.pv (.int .i64 l.length),.pv (.int .i64 (0:Nat)),.any,.any,.any,.any,.any,.any,.any,.any,.any,.any,.any,.any,.any,.any,.any,.any,.any,.any,.any,.any,.any,.any,.any,.any,.any,.any,.any,.any,.any,.any,.any,.any,.any,.any,.any,.any],[⟨false,Dw z0⟩],[],none⟩) :
  den env LW st=match jV z0 l with
   |(true,p)=>some (.normal,⟨[.any,.any,.any,.any,.any,.any,.any,.any,.any,.any,.any,.any,.any,.any,.any,.any,.any,.any,.any,.any,.any,.any,.any,.any,.any,.any,.any,.any,.any,.any,.any,.any,.any,.any,.any,.any,.any,.any,.any,.any,.any,.any,.any,.any,.any,.any],[⟨false,Dw p⟩],[],none⟩)
   |(false,p)=>some (.ret,⟨[.any,.any,.pv (.bool false),.any,.any,.any,.any,.any,.any,.any,.any,.any,.any,.any,.any,.any,.any,.any,.any,.any,.any,.any,.any,.any,.any,.any,.any,.any,.any,.any,.any,.any,.any,.any,.any,.any,.any,.any,.any,.any,.any,.any,.any,.any,.any,.any],[⟨false,Dw p⟩],[],none⟩):=by
 unfold LW
 refine Jv (env:=env) l.length (fun i=>Jw (lastOf l i)) (fun i=>⟨[.pv (.list 3 (l.map lg)),.any,.any,.aV 0 0,.any,.any,.any,.pv (.list 3 (l.map lg)),.pv (.int .i64 l.length),.pv (.int .i64 i),.any,.any,.any,.any,.any,.any,.any,.any,.any,.any,.any,.any,.any,.any,.any,.any,.any,.any,.any,.any,.any,.any,.any,.any,.any,.any,.any,.any,.any,.any,.any,.any,.any,.any,.any,.any],[⟨false,Dw (lastOf l i)⟩],[],none⟩)
  (fun i=>match jV (lastOf l i) (l.drop i) with
   |(true,p)=>some (.normal,⟨[.any,.any,.any,.any,.any,.any,.any,.any,.any,.any,.any,.any,.any,.any,.any,.any,.any,.any,.any,.any,.any,.any,.any,.any,.any,.any,.any,.any,.any,.any,.any,.any,.any,.any,.any,.any,.any,.any,.any,.any,.any,.any,.any,.any,.any,.any],[⟨false,Dw p⟩],[],none⟩)
   |(false,p)=>some (.ret,⟨[.any,.any,.pv (.bool false),.any,.any,.any,.any,.any,.any,.any,.any,.any,.any,.any,.any,.any,.any,.any,.any,.any,.any,.any,.any,.any,.any,.any,.any,.any,.any,.any,.any,.any,.any,.any,.any,.any,.any,.any,.any,.any,.any,.any,.any,.any,.any,.any],[⟨false,Dw p⟩],[],none⟩)) h (by simp [lastOf,Jw,z0]) (fun _=>rfl) (fun _=>rfl) ?_ ?_
 ·intro i rb hi hf ih
  have hi1:=cZ hi hl
  have F1:((i:Int)<(l.length:Int))=True:=eq_true (by omega)
  have hk:l[i]?=some l[i]:=List.getElem?_eq_getElem hi
  rw [vV hi] at ih
  rw [List.drop_eq_getElem_cons hi]
  unfold jV
  generalize lastOf l i=p at *
  generalize l[i]=x at *
  obtain ⟨pe,pf,pt⟩:=p
  obtain ⟨xe,xf,xt⟩:=x
  have hf':=hf
  simp only [Jw] at hf
  have F2:IntKind.i64.wrap (pt+1)=pt+1:=bZ (by omega)
  by_cases c1:xf=pt+1
  rotate_left
  ·have G1:(xf != pt+1)=true:=by simpa using c1
   have hn:ku ⟨pe,pf,pt⟩ ⟨xe,xf,xt⟩=false:=by simp [ku,c1]
   simp only [G1,ru,F1,F2,hk,Dw,lg,ay hi,List.getElem?_map,Option.map_some,bI,reduceCtorEq,Nat.reduceEqDiff,Nat.reduceAdd,Nat.reduceLT,Nat.reduceLeDiff,Nat.beq]
   simp only [hn]
   rfl
  have G1:(xf != pt+1)=false:=by simpa using c1
  by_cases c2:xt<xf
  ·have G2:(xt<xf)=True:=eq_true c2
   have hn:ku ⟨pe,pf,pt⟩ ⟨xe,xf,xt⟩=false:=by simp [ku];omega
   simp only [G1,G2,ru,F1,F2,hk,Dw,lg,ay hi,List.getElem?_map,Option.map_some,bI,reduceCtorEq,Nat.reduceEqDiff,Nat.reduceAdd,Nat.reduceLT,Nat.reduceLeDiff,Nat.beq]
   simp only [hn]
   rfl
  have G2:(xt<xf)=False:=eq_false c2
  by_cases c3:xt > 1073741824
  ·have G3:(xt > 1073741824)=True:=eq_true c3
   have hn:ku ⟨pe,pf,pt⟩ ⟨xe,xf,xt⟩=false:=by simp [ku];omega
   simp only [G1,G2,G3,ru,F1,F2,hk,Dw,lg,ay hi,List.getElem?_map,Option.map_some,bI,reduceCtorEq,Nat.reduceEqDiff,Nat.reduceAdd,Nat.reduceLT,Nat.reduceLeDiff,Nat.beq]
   simp only [hn]
   rfl
  have G3:(xt > 1073741824)=False:=eq_false c3
  have e1:=ag2 (n:=xe) (low:=1)
  by_cases c4:1≤xe∧xe≤1073741824
  rotate_left
  ·have G4:(decide (xe ≥ 1)&&decide (xe≤1073741824))=false:=by
    rw [← Bool.not_eq_true];simp;omega
   rw [G4] at e1
   have hn:ku ⟨pe,pf,pt⟩ ⟨xe,xf,xt⟩=false:=by simp [ku];omega
   simp only [G1,G2,G3,e1,ru,F1,F2,hk,Dw,lg,ay hi,List.getElem?_map,Option.map_some,bI,reduceCtorEq,Nat.reduceEqDiff,Nat.reduceAdd,Nat.reduceLT,Nat.reduceLeDiff,Nat.beq]
   simp only [hn]
   rfl
  have G4:(decide (xe ≥ 1)&&decide (xe≤1073741824))=true:=by simp;omega
  rw [G4] at e1
  by_cases c5:xe≤pe
  ·have G5:(xe≤pe)=True:=eq_true c5
   have hn:ku ⟨pe,pf,pt⟩ ⟨xe,xf,xt⟩=false:=by simp [ku];omega
   simp only [G1,G2,G3,e1,G5,ru,F1,F2,hk,Dw,lg,ay hi,List.getElem?_map,Option.map_some,bI,reduceCtorEq,Nat.reduceEqDiff,Nat.reduceAdd,Nat.reduceLT,Nat.reduceLeDiff,Nat.beq]
   simp only [hn]
   rfl
  have G5:(xe≤pe)=False:=eq_false c5
  have hn:ku ⟨pe,pf,pt⟩ ⟨xe,xf,xt⟩=true:=by simp [ku];omega
  have hfx:=(Qo hn hf').1
  simp only [G1,G2,G3,e1,G5,ru,F1,F2,hk,Dw,lg,ay hi,List.getElem?_map,Option.map_some,bI,reduceCtorEq,Nat.reduceEqDiff,Nat.reduceAdd,Nat.reduceLT,Nat.reduceLeDiff,Nat.beq]
  rw [ih hfx _ (by simp only [hi1];rfl)]
  simp only [hn,if_true]
  rfl
 ·intro rb hf
  simp only [ru,Int.lt_irrefl,bI,reduceCtorEq,Nat.reduceEqDiff,Nat.reduceAdd,Nat.reduceLT,Nat.reduceLeDiff,Nat.beq]
  rw [List.drop_length]
  rfl
theorem abS {l:List xI} (hl:l.length≤lim):cal env 93 [.list 3 (l.map lg)]=some [(.bool (qx l),false)]:=by
 rw [ah ak6 rfl];simp only [abm];simp only [start,aJ,aT,aH,aS,aA,aB,aI,aO,Nat.reduceAdd,Nat.reduceSub]
 simp only [bI,reduceCtorEq,Nat.reduceEqDiff,Nat.reduceAdd,Nat.reduceLT,Nat.reduceLeDiff,Nat.beq]
 rw [aiE hl]
 rotate_left
 ·rfl
 ·have:=Jy l z0
  cases h:jV z0 l with
  |mk t p =>
   rw [h] at this
   cases t with
   |true=>simp only [qx,← this,bI,reduceCtorEq,Nat.reduceEqDiff,Nat.reduceAdd,Nat.reduceLT,Nat.reduceLeDiff,Nat.beq]
   |false=>simp only [qx,← this,bI,reduceCtorEq,Nat.reduceEqDiff,Nat.reduceAdd,Nat.reduceLT,Nat.reduceLeDiff,Nat.beq]
end Go.Proofs.YtioijcfcehhmdaaGreatDoor.V

namespace Go.Proofs.YtioijcfcehhmdaaGreatDoor.V
end Go.Proofs.YtioijcfcehhmdaaGreatDoor.V

namespace Go.Proofs.YtioijcfcehhmdaaGreatDoor.V
def jD (l:List xI):xI:=lastOf l l.length
end Go.Proofs.YtioijcfcehhmdaaGreatDoor.V

namespace Go.Proofs.YtioijcfcehhmdaaGreatDoor.V
def afQ {α:Type} (p:α→Bool) (l:List α):Int:=if l.any p then (l.findIdx p:Int) else -1
theorem Qp {α:Type} (p:α→Bool) (l:List α):decide (afQ p l ≥ 0)=l.any p:=by
 unfold afQ
 cases l.any p
 ·rfl
 ·simp only [if_true];exact decide_eq_true (by omega)
def eqF {α β:Type} (eq:α→β→Bool) (l:List α) (m:List β):Bool:=decide (l.length=m.length)&&(l.zip m).all fun q=>eq q.1 q.2
--+
theorem afR {α:Type} {enc:α→PV} {l:List α} {p:α→Bool} {gf:Nat} {caps:List PV} (hp:∀ x∈l,cal env gf (enc x :: caps)=some [(.bool (p x),false)]) (hs:∀ x,part (enc x).cells 0 none=some (enc x)) (hl:l.length≤lim)
  {st:St} (h:st.head [0,1,7,8] st.boxes.length=some ⟨[.pv (.list 1 (l.map enc)),.pv (.func gf caps),.any,.any,.any,.any,.any,.pv (.int .i64 l.length),.pv (.int .i64 (0:Nat)),.any,.any,.any,.any,.any,.any,.any,.any,.any,.any],[],[],none⟩) :
  den env FN st=if l.any p then some (.ret,⟨[.any,.any,.any,.any,.pv (.int .i64 (l.findIdx p)),.any,.any,.any,.any,.any,.any,.any,.any,.any,.any,.any,.any,.any,.any],[],[],none⟩) else some (.normal,⟨[.any,.any,.any,.any,.any,.any,.any,.any,.any,.any,.any,.any,.any,.any,.any,.any,.any,.any,.any],[],[],none⟩):=by
 unfold FN
 rw [dG l.length (fun i=>⟨[.pv (.list 1 (l.map enc)),.pv (.func gf caps),.any,.any,.any,.any,.any,.pv (.int .i64 l.length),.pv (.int .i64 i),.any,.any,.any,.any,.any,.any,.any,.any,.any,.any],[],[],none⟩)
  (fun i=>if (l.drop i).any p then some (.ret,⟨[.any,.any,.any,.any,.pv (.int .i64 ((i+(l.drop i).findIdx p:Nat):Int)),.any,.any,.any,.any,.any,.any,.any,.any,.any,.any,.any,.any,.any,.any],[],[],none⟩) else some (.normal,⟨[.any,.any,.any,.any,.any,.any,.any,.any,.any,.any,.any,.any,.any,.any,.any,.any,.any,.any,.any],[],[],none⟩)) h (fun _=>rfl) (fun _=>rfl) ?_ ?_]
 ·simp only [List.drop_zero,Nat.zero_add]
 ·intro i rb hi ih
  have hi1:=cZ hi hl
  have F1:((i:Int)<(l.length:Int))=True:=eq_true (by omega)
  simp only [FM,F1,List.length_map,ay hi,List.getElem?_map,List.getElem?_eq_getElem hi,hp _ (List.getElem_mem hi),hs,rU,reduceCtorEq,Nat.reduceEqDiff,Nat.reduceAdd,Nat.reduceLT,Nat.reduceLeDiff,Nat.beq]
  (try simp only [fA,gB,fB]);refine dQ (fun hb=>?_) (fun hb=>?_)<;>try simp only [hb,bI,reduceCtorEq,Nat.reduceEqDiff,Nat.reduceAdd,Nat.reduceLT,Nat.reduceLeDiff,Nat.beq]
  ·rw [List.drop_eq_getElem_cons hi]
   simp only [List.any_cons,hb,Bool.true_or,if_true,List.findIdx_cons,cond_true,Nat.add_zero]
   rfl
  ·rw [ih _ (by simp only [hi1];rfl),List.drop_eq_getElem_cons hi]
   simp only [List.any_cons,hb,Bool.false_or,List.findIdx_cons,cond_false,Nat.add_assoc,Nat.add_comm 1]
 ·intro rb
  simp only [FM,Int.lt_irrefl,rU,reduceCtorEq,Nat.reduceEqDiff,Nat.reduceAdd,Nat.reduceLT,Nat.reduceLeDiff,Nat.beq]
  simp only [List.drop_length,List.any_nil,Bool.false_eq_true,if_false]
  rfl
theorem aiF {α:Type} {enc:α→PV} {l:List α} {p:α→Bool} {gf:Nat} {caps:List PV} (hp:∀ x∈l,cal env gf (enc x :: caps)=some [(.bool (p x),false)]) (hs:∀ x,part (enc x).cells 0 none=some (enc x)) (hl:l.length≤lim) :
  cal env 151 [.list 1 (l.map enc),.func gf caps]=some [(.int .i64 (afQ p l),false)]:=by
 rw [ah aiB rfl];simp only [Qg];simp only [start,aJ,aT,aH,aS,aA,aB,aI,aO,Nat.reduceAdd,Nat.reduceSub]
 simp only [List.length_map,rU,reduceCtorEq,Nat.reduceEqDiff,Nat.reduceAdd,Nat.reduceLT,Nat.reduceLeDiff,Nat.beq]
 rw [afR hp hs hl]
 rotate_left
 ·rfl
 ·simp only [afQ]
  split<;>simp only [rU,reduceCtorEq,Nat.reduceEqDiff,Nat.reduceAdd,Nat.reduceLT,Nat.reduceLeDiff,Nat.beq]
--+
theorem abT {α:Type} {enc:α→PV} {l:List α} {p:α→Bool} {gf:Nat} {caps:List PV} (hp:∀ x∈l,cal env gf (enc x :: caps)=some [(.bool (p x),false)]) (hs:∀ x,part (enc x).cells 0 none=some (enc x)) (hl:l.length≤lim) :
  cal env 129 [.list 1 (l.map enc),.func gf caps]=some [(.bool (l.any p),false)]:=by
 rw [ah aip rfl];simp only [PY];simp only [start,aJ,aT,aH,aS,aA,aB,aI,aO,Nat.reduceAdd,Nat.reduceSub]
 simp only [aiF hp hs hl,Qp,rU,reduceCtorEq,Nat.reduceEqDiff,Nat.reduceAdd,Nat.reduceLT,Nat.reduceLeDiff,Nat.beq]
--+
theorem aiG {l m:List fP} (hlm:l.length=m.length) (hl:l.length≤lim)
  {st:St} (h:st.head [0,1,12,13] st.boxes.length=some ⟨[.pv (.list 8 (l.map ni)),.pv (.list 8 (m.map ni)),.any,.any,.any,.any,.any,.any,.any,.any,.any,.any,.pv (.int .i64 l.length),.pv (.int .i64 (0:Nat)),.any,.any,.any,.any,.any,.any,.any,.any,.any,.any,.any,.any],[],[],none⟩) :
  den env LV st=if l=m then some (.normal,⟨[.any,.any,.any,.any,.any,.any,.any,.any,.any,.any,.any,.any,.any,.any,.any,.any,.any,.any,.any,.any,.any,.any,.any,.any,.any,.any],[],[],none⟩) else some (.ret,⟨[.any,.any,.any,.any,.pv (.bool false),.any,.any,.any,.any,.any,.any,.any,.any,.any,.any,.any,.any,.any,.any,.any,.any,.any,.any,.any,.any,.any],[],[],none⟩):=by
 unfold LV
 rw [dG l.length (fun i=>⟨[.pv (.list 8 (l.map ni)),.pv (.list 8 (m.map ni)),.any,.any,.any,.any,.any,.any,.any,.any,.any,.any,.pv (.int .i64 l.length),.pv (.int .i64 i),.any,.any,.any,.any,.any,.any,.any,.any,.any,.any,.any,.any],[],[],none⟩)
  (fun i=>if l.drop i=m.drop i then some (.normal,⟨[.any,.any,.any,.any,.any,.any,.any,.any,.any,.any,.any,.any,.any,.any,.any,.any,.any,.any,.any,.any,.any,.any,.any,.any,.any,.any],[],[],none⟩) else some (.ret,⟨[.any,.any,.any,.any,.pv (.bool false),.any,.any,.any,.any,.any,.any,.any,.any,.any,.any,.any,.any,.any,.any,.any,.any,.any,.any,.any,.any,.any],[],[],none⟩)) h (fun _=>rfl) (fun _=>rfl) ?_ ?_]
 ·simp only [List.drop_zero]
 ·intro i rb hi ih
  have hi1:=cZ hi hl
  have hj:i<m.length:=by omega
  have F1:((i:Int)<(l.length:Int))=True:=eq_true (by omega)
  simp only [LU,F1,List.length_map,ay hi,ay hj,List.getElem?_map,List.getElem?_eq_getElem hi,List.getElem?_eq_getElem hj,eI,ni,dW,abM,kE,Qj,jg,rU,reduceCtorEq,Nat.reduceEqDiff,Nat.reduceAdd,Nat.reduceLT,Nat.reduceLeDiff,Nat.beq]
  (try simp only [fA,gB,fB]);refine dQ (fun hb=>?_) (fun hb=>?_)<;>try simp only [hb,bI,reduceCtorEq,Nat.reduceEqDiff,Nat.reduceAdd,Nat.reduceLT,Nat.reduceLeDiff,Nat.beq]
  ·rw [ih _ (by simp only [hi1];rfl),List.drop_eq_getElem_cons hi,List.drop_eq_getElem_cons hj]
   have e:l[i]=m[i]:=by
    revert hb
    generalize l[i]=x
    generalize m[i]=y
    first|(intro hb;simpa using hb)|(cases x;cases y;intro hb;simpa using hb)
   simp only [e,List.cons.injEq,true_and]
  ·rw [List.drop_eq_getElem_cons hi,List.drop_eq_getElem_cons hj,if_neg (fun e=>?_)]
   ·rfl
   ·have e:=(List.cons.inj e).1
    rw [e] at hb
    simp at hb
 ·intro rb
  simp only [LU,Int.lt_irrefl,rU,reduceCtorEq,Nat.reduceEqDiff,Nat.reduceAdd,Nat.reduceLT,Nat.reduceLeDiff,Nat.beq]
  rw [List.drop_length,hlm,List.drop_length,if_pos rfl]
  rfl
theorem ala {l m:List fP} (hl:l.length≤lim) :
  cal env 87 [.list 8 (l.map ni),.list 8 (m.map ni)]=some [(.bool (decide (l=m)),false)]:=by
 rw [ah ak4 rfl];simp only [abk];simp only [start,aJ,aT,aH,aS,aA,aB,aI,aO,Nat.reduceAdd,Nat.reduceSub]
 simp only [List.length_map,rU,reduceCtorEq,Nat.reduceEqDiff,Nat.reduceAdd,Nat.reduceLT,Nat.reduceLeDiff,Nat.beq]
 (try simp only [fA,gB,fB]);refine dQ (fun hb=>?_) (fun hb=>?_)<;>try simp only [hb,bI,reduceCtorEq,Nat.reduceEqDiff,Nat.reduceAdd,Nat.reduceLT,Nat.reduceLeDiff,Nat.beq]
 ·have hlm:l.length=m.length:=by simp at hb;omega
  rw [aiG hlm hl]
  rotate_left
  ·rfl
  ·by_cases e:l=m
   ·simp only [e,rU,reduceCtorEq,Nat.reduceEqDiff,Nat.reduceAdd,Nat.reduceLT,Nat.reduceLeDiff,Nat.beq]
   ·simp only [e,rU,reduceCtorEq,Nat.reduceEqDiff,Nat.reduceAdd,Nat.reduceLT,Nat.reduceLeDiff,Nat.beq]
 ·have:l≠m:=fun e=>by subst e;simp at hb
  simp only [this,rU,reduceCtorEq,Nat.reduceEqDiff,Nat.reduceAdd,Nat.reduceLT,Nat.reduceLeDiff,Nat.beq]
--+
theorem aiH {α β:Type} {enc:α→PV} {enc2:β→PV} {eq:α→β→Bool} {l:List α} {m:List β} {gf:Nat} {caps:List PV} (hp:∀ x∈l,∀ y∈m,cal env gf (enc x :: enc2 y :: caps)=some [(.bool (eq x y),false)]) (hs:∀ x,part (enc x).cells 0 none=some (enc x)) (hs2:∀ x,part (enc2 x).cells 0 none=some (enc2 x)) (hlm:l.length=m.length) (hl:l.length≤lim)
  {st:St} (h:st.head [0,1,2,15,16,17] st.boxes.length=some ⟨[.pv (.list 1 (l.map enc)),.pv (.list 1 (m.map enc2)),.pv (.func gf caps),.any,.any,.any,.any,.any,.any,.any,.any,.any,.any,.any,.any,.pv (.list 1 (l.map enc)),.pv (.int .i64 l.length),.pv (.int .i64 (0:Nat)),.any,.any,.any,.any,.any,.any,.any,.any,.any,.any,.any,.any,.any,.any],[],[],none⟩) :
  den env LQ st=if (l.zip m).all (fun q=>eq q.1 q.2) then some (.normal,⟨[.any,.any,.any,.any,.any,.any,.any,.any,.any,.any,.any,.any,.any,.any,.any,.any,.any,.any,.any,.any,.any,.any,.any,.any,.any,.any,.any,.any,.any,.any,.any,.any],[],[],none⟩) else some (.ret,⟨[.any,.any,.any,.any,.any,.any,.pv (.bool false),.any,.any,.any,.any,.any,.any,.any,.any,.any,.any,.any,.any,.any,.any,.any,.any,.any,.any,.any,.any,.any,.any,.any,.any,.any],[],[],none⟩):=by
 unfold LQ
 rw [dG l.length (fun i=>⟨[.pv (.list 1 (l.map enc)),.pv (.list 1 (m.map enc2)),.pv (.func gf caps),.any,.any,.any,.any,.any,.any,.any,.any,.any,.any,.any,.any,.pv (.list 1 (l.map enc)),.pv (.int .i64 l.length),.pv (.int .i64 i),.any,.any,.any,.any,.any,.any,.any,.any,.any,.any,.any,.any,.any,.any],[],[],none⟩)
  (fun i=>if ((l.drop i).zip (m.drop i)).all (fun q=>eq q.1 q.2) then some (.normal,⟨[.any,.any,.any,.any,.any,.any,.any,.any,.any,.any,.any,.any,.any,.any,.any,.any,.any,.any,.any,.any,.any,.any,.any,.any,.any,.any,.any,.any,.any,.any,.any,.any],[],[],none⟩) else some (.ret,⟨[.any,.any,.any,.any,.any,.any,.pv (.bool false),.any,.any,.any,.any,.any,.any,.any,.any,.any,.any,.any,.any,.any,.any,.any,.any,.any,.any,.any,.any,.any,.any,.any,.any,.any],[],[],none⟩)) h (fun _=>rfl) (fun _=>rfl) ?_ ?_]
 ·simp only [List.drop_zero]
 ·intro i rb hi ih
  have hi1:=cZ hi hl
  have hj:i<m.length:=by omega
  have F1:((i:Int)<(l.length:Int))=True:=eq_true (by omega)
  simp only [LP,F1,List.length_map,ay hi,ay hj,List.getElem?_map,List.getElem?_eq_getElem hi,List.getElem?_eq_getElem hj,hs,hs2,hp _ (List.getElem_mem hi) _ (List.getElem_mem hj),rU,reduceCtorEq,Nat.reduceEqDiff,Nat.reduceAdd,Nat.reduceLT,Nat.reduceLeDiff,Nat.beq]
  (try simp only [fA,gB,fB]);refine dQ (fun hb=>?_) (fun hb=>?_)<;>try simp only [hb,bI,reduceCtorEq,Nat.reduceEqDiff,Nat.reduceAdd,Nat.reduceLT,Nat.reduceLeDiff,Nat.beq]
  ·rw [ih _ (by simp only [hi1];rfl),List.drop_eq_getElem_cons hi,List.drop_eq_getElem_cons hj]
   simp only [List.zip_cons_cons,List.all_cons,hb,Bool.true_and]
  ·rw [List.drop_eq_getElem_cons hi,List.drop_eq_getElem_cons hj]
   simp only [List.zip_cons_cons,List.all_cons,hb,Bool.false_and,Bool.false_eq_true,if_false]
   rfl
 ·intro rb
  simp only [LP,Int.lt_irrefl,rU,reduceCtorEq,Nat.reduceEqDiff,Nat.reduceAdd,Nat.reduceLT,Nat.reduceLeDiff,Nat.beq]
  rw [List.drop_length]
  rfl
theorem ag3 {α β:Type} {enc:α→PV} {enc2:β→PV} {eq:α→β→Bool} {l:List α} {m:List β} {gf:Nat} {caps:List PV} (hp:∀ x∈l,∀ y∈m,cal env gf (enc x :: enc2 y :: caps)=some [(.bool (eq x y),false)]) (hs:∀ x,part (enc x).cells 0 none=some (enc x)) (hs2:∀ x,part (enc2 x).cells 0 none=some (enc2 x)) (hl:l.length≤lim) :
  cal env 86 [.list 1 (l.map enc),.list 1 (m.map enc2),.func gf caps]=some [(.bool (eqF eq l m),false)]:=by
 rw [ah ak3 rfl];simp only [abj];simp only [start,aJ,aT,aH,aS,aA,aB,aI,aO,Nat.reduceAdd,Nat.reduceSub]
 simp only [List.length_map,rU,reduceCtorEq,Nat.reduceEqDiff,Nat.reduceAdd,Nat.reduceLT,Nat.reduceLeDiff,Nat.beq]
 (try simp only [fA,gB,fB]);refine dQ (fun hb=>?_) (fun hb=>?_)<;>try simp only [hb,bI,reduceCtorEq,Nat.reduceEqDiff,Nat.reduceAdd,Nat.reduceLT,Nat.reduceLeDiff,Nat.beq]
 ·have hlm:l.length=m.length:=by simp at hb;omega
  rw [aiH hp hs hs2 hlm hl]
  rotate_left
  ·rfl
  ·simp only [eqF,decide_eq_true hlm,Bool.true_and]
   cases (l.zip m).all (fun q=>eq q.1 q.2)<;>simp only [rU,reduceCtorEq,Nat.reduceEqDiff,Nat.reduceAdd,Nat.reduceLT,Nat.reduceLeDiff,Nat.beq]
 ·have:¬ l.length=m.length:=fun e=>by rw [e] at hb;simp at hb
  simp only [eqF,decide_eq_false this,rU,reduceCtorEq,Nat.reduceEqDiff,Nat.reduceAdd,Nat.reduceLT,Nat.reduceLeDiff,Nat.beq]
--+
theorem alb {es:List PV} (hl:es.length≤lim):cal env 95 [.list 8 es]=some [(.list 8 es,true)]:=(DN ak8).trans (if_pos ⟨rfl,hl⟩)
end Go.Proofs.YtioijcfcehhmdaaGreatDoor.V

namespace Go.Proofs.YtioijcfcehhmdaaGreatDoor.V
def iy (l:List Int):Int:=if l.length<1∨8<l.length then 6 else if l.any (fun n=>decide (n<1) || decide (n > 4096)) then 2 else 0
def au (im:iR):List Int:=im.map fun v=>(v.length:Int)
def iZ (im:iR):Int:=iy (au im)
def mP (im:iR) (w:iM):Int :=
 if w.volume<0∨(im.length:Int)≤w.volume then 7 else if w.data.length=0 then 1
 else if w.start<0∨((im.getD w.volume.toNat []).length:Int) - w.data.length<w.start then 2 else 0
def FW (im:iR) (w:iM):Int:=if iZ im≠0 then iZ im else mP im w
def nP (l:List Int):iR:=l.map fun n=>List.replicate n.toNat KN
theorem xY {α β:Type} (f:α→β) {l:List α} {i:Nat} (h:i<l.length):(l.take i).map f++[f l[i]]=(l.take (i+1)).map f:=by
 rw [List.take_succ,List.getElem?_eq_getElem h,List.map_append];rfl
theorem afS {α:Type} {enc:α→PV} {l:List α} {g:α→List fP} {gf:Nat} {caps:List PV} (hp:∀ x∈l,cal env gf (enc x :: caps)=some [(bF (g x),true)]) (hs:∀ x,part (enc x).cells 0 none=some (enc x)) (hs3:∀ x,(enc x).cells.length=1) (hl:l.length≤lim)
  {st:St} (h:st.head [0,1,5,10,11,12,13,22] st.boxes.length=some ⟨[.pv (.list 1 (l.map enc)),.pv (.func gf caps),.any,.any,.any,.row 1 [],.any,.any,.any,.any,.any,.pv (.list 1 (l.map enc)),.pv (.int .i64 l.length),.pv (.int .i64 (0:Nat)),.any,.any,.any,.any,.any,.any,.any,.any,.any,.any,.any],[],[],none⟩) :
  den env Fv st=some (.normal,⟨[.any,.any,.any,.any,.any,.row 1 (l.map fun x=>bF (g x)),.any,.any,.any,.any,.any,.any,.any,.any,.any,.any,.any,.any,.any,.any,.any,.any,.any,.any,.any],[],[],none⟩):=by
 unfold Fv
 rw [dG l.length (fun i=>⟨[.pv (.list 1 (l.map enc)),.pv (.func gf caps),.any,.any,.any,.row 1 ((l.take i).map fun x=>bF (g x)),.any,.any,.any,.any,.any,.pv (.list 1 (l.map enc)),.pv (.int .i64 l.length),.pv (.int .i64 i),.any,.any,.any,.any,.any,.any,.any,.any,.any,.any,.any],[],[],none⟩)
  (fun i=>some (.normal,⟨[.any,.any,.any,.any,.any,.row 1 (l.map fun x=>bF (g x)),.any,.any,.any,.any,.any,.any,.any,.any,.any,.any,.any,.any,.any,.any,.any,.any,.any,.any,.any],[],[],none⟩)) h (fun _=>rfl) (fun _=>rfl) ?_ ?_]
 ·intro i rb hi ih
  have hi1:=cZ hi hl
  have F1:((i:Int)<(l.length:Int))=True:=eq_true (by omega)
  have F2:((l.take i).length+1≤lim)=True:=eq_true (by rw [List.length_take];omega)
  have hpi:cal env gf (enc l[i] :: caps)=some [((PV.list 8 ((g l[i]).map ni)),true)]:=hp _ (List.getElem_mem hi)
  try simp only [dW] at hpi
  simp only [Fq,F1,F2,ay hi,List.getElem?_map,List.getElem?_eq_getElem hi,hpi,hs,hs3,bI,reduceCtorEq,Nat.reduceEqDiff,Nat.reduceAdd,Nat.reduceLT,Nat.reduceLeDiff,Nat.beq]
  rw [ih _ (by simp only [hi1];rw [← xY _ hi];rfl)]
 ·intro rb
  simp only [Fq,Int.lt_irrefl,rU,reduceCtorEq,Nat.reduceEqDiff,Nat.reduceAdd,Nat.reduceLT,Nat.reduceLeDiff,Nat.beq]
  rw [List.take_length]
  rfl
theorem aiI {α:Type} {enc:α→PV} {l:List α} {g:α→List fP} {gf:Nat} {caps:List PV} (hp:∀ x∈l,cal env gf (enc x :: caps)=some [(bF (g x),true)]) (hs:∀ x,part (enc x).cells 0 none=some (enc x)) (hs3:∀ x,(enc x).cells.length=1) (hl:l.length≤lim) :
  cal env 127 [.list 1 (l.map enc),.func gf caps]=some [(.list 1 (l.map fun x=>bF (g x)),true)]:=by
 rw [ah ain rfl];simp only [PW];simp only [start,aJ,aT,aH,aS,aA,aB,aI,aO,Nat.reduceAdd,Nat.reduceSub]
 have F1:((l.length:Int)≤(lim:Int))=True:=eq_true (by omega)
 have F2:((0:Int)≤(l.length:Int))=True:=eq_true (by omega)
 simp only [F1,F2,Int.le_refl,bI,reduceCtorEq,Nat.reduceEqDiff,Nat.reduceAdd,Nat.reduceLT,Nat.reduceLeDiff,Nat.beq]
 rw [afS hp hs hs3 hl]
 rotate_left
 ·rfl
 ·simp only [bI,reduceCtorEq,Nat.reduceEqDiff,Nat.reduceAdd,Nat.reduceLT,Nat.reduceLeDiff,Nat.beq]
--+
theorem afT {α:Type} {enc:α→PV} {l:List α} {g:α→Int} {gf:Nat} {caps:List PV} (hp:∀ x∈l,cal env gf (enc x :: caps)=some [(eI (g x),false)]) (hs:∀ x,part (enc x).cells 0 none=some (enc x)) (hs3:∀ x,(enc x).cells.length=1) (hl:l.length≤lim)
  {st:St} (h:st.head [0,1,5,10,11,12,13,22] st.boxes.length=some ⟨[.pv (.list 1 (l.map enc)),.pv (.func gf caps),.any,.any,.any,.row 1 [],.any,.any,.any,.any,.any,.pv (.list 1 (l.map enc)),.pv (.int .i64 l.length),.pv (.int .i64 (0:Nat)),.any,.any,.any,.any,.any,.any,.any,.any,.any,.any,.any],[],[],none⟩) :
  den env FC st=some (.normal,⟨[.any,.any,.any,.any,.any,.row 1 (l.map fun x=>eI (g x)),.any,.any,.any,.any,.any,.any,.any,.any,.any,.any,.any,.any,.any,.any,.any,.any,.any,.any,.any],[],[],none⟩):=by
 unfold FC
 rw [dG l.length (fun i=>⟨[.pv (.list 1 (l.map enc)),.pv (.func gf caps),.any,.any,.any,.row 1 ((l.take i).map fun x=>eI (g x)),.any,.any,.any,.any,.any,.pv (.list 1 (l.map enc)),.pv (.int .i64 l.length),.pv (.int .i64 i),.any,.any,.any,.any,.any,.any,.any,.any,.any,.any,.any],[],[],none⟩)
  (fun i=>some (.normal,⟨[.any,.any,.any,.any,.any,.row 1 (l.map fun x=>eI (g x)),.any,.any,.any,.any,.any,.any,.any,.any,.any,.any,.any,.any,.any,.any,.any,.any,.any,.any,.any],[],[],none⟩)) h (fun _=>rfl) (fun _=>rfl) ?_ ?_]
 ·intro i rb hi ih
  have hi1:=cZ hi hl
  have F1:((i:Int)<(l.length:Int))=True:=eq_true (by omega)
  have F2:((l.take i).length+1≤lim)=True:=eq_true (by rw [List.length_take];omega)
  have hpi:cal env gf (enc l[i] :: caps)=some [((PV.int .i64 (g l[i])),false)]:=hp _ (List.getElem_mem hi)
  try simp only [dW] at hpi
  simp only [FB,F1,F2,ay hi,List.getElem?_map,List.getElem?_eq_getElem hi,hpi,hs,hs3,bI,reduceCtorEq,Nat.reduceEqDiff,Nat.reduceAdd,Nat.reduceLT,Nat.reduceLeDiff,Nat.beq]
  rw [ih _ (by simp only [hi1];rw [← xY _ hi];rfl)]
 ·intro rb
  simp only [FB,Int.lt_irrefl,rU,reduceCtorEq,Nat.reduceEqDiff,Nat.reduceAdd,Nat.reduceLT,Nat.reduceLeDiff,Nat.beq]
  rw [List.take_length]
  rfl
theorem aiJ {α:Type} {enc:α→PV} {l:List α} {g:α→Int} {gf:Nat} {caps:List PV} (hp:∀ x∈l,cal env gf (enc x :: caps)=some [(eI (g x),false)]) (hs:∀ x,part (enc x).cells 0 none=some (enc x)) (hs3:∀ x,(enc x).cells.length=1) (hl:l.length≤lim) :
  cal env 138 [.list 1 (l.map enc),.func gf caps]=some [(.list 1 (l.map fun x=>eI (g x)),true)]:=by
 rw [ah aiv rfl];simp only [P9];simp only [start,aJ,aT,aH,aS,aA,aB,aI,aO,Nat.reduceAdd,Nat.reduceSub]
 have F1:((l.length:Int)≤(lim:Int))=True:=eq_true (by omega)
 have F2:((0:Int)≤(l.length:Int))=True:=eq_true (by omega)
 simp only [F1,F2,Int.le_refl,bI,reduceCtorEq,Nat.reduceEqDiff,Nat.reduceAdd,Nat.reduceLT,Nat.reduceLeDiff,Nat.beq]
 rw [afT hp hs hs3 hl]
 rotate_left
 ·rfl
 ·simp only [bI,reduceCtorEq,Nat.reduceEqDiff,Nat.reduceAdd,Nat.reduceLT,Nat.reduceLeDiff,Nat.beq]
theorem aiK {x:Int}:cal env 148 [eI x]=some [(.bool (decide (x<1) || decide (x > 4096)),false)]:=by
 unfold eI
 rw [ah aiy rfl];simp only [Qd];simp only [start,aJ,aT,aH,aS,aA,aB,aI,aO,Nat.reduceAdd,Nat.reduceSub]
 simp only [bI,reduceCtorEq,Nat.reduceEqDiff,Nat.reduceAdd,Nat.reduceLT,Nat.reduceLeDiff,Nat.beq]
 (try simp only [fA,gB,fB]);refine dQ (fun hb=>?_) (fun hb=>?_)<;>try simp only [hb,bI,reduceCtorEq,Nat.reduceEqDiff,Nat.reduceAdd,Nat.reduceLT,Nat.reduceLeDiff,Nat.beq]
theorem abU {l:List Int} (hl:l.length≤lim):cal env 124 [.list 1 (l.map eI)]=some [(.int .i64 (iy l),false)]:=by
 have e1:=abT (l:=l) (enc:=eI) (fun x _=>aiK (x:=x)) (fun x=>rfl) hl
 rw [ah aik rfl];simp only [PS];simp only [start,aJ,aT,aH,aS,aA,aB,aI,aO,Nat.reduceAdd,Nat.reduceSub]
 simp only [e1,bI,reduceCtorEq,Nat.reduceEqDiff,Nat.reduceAdd,Nat.reduceLT,Nat.reduceLeDiff,Nat.beq]
 repeat' ((try simp only [fA,gB,fB]);refine dQ (fun hb=>?_) (fun hb=>?_)<;>try simp only [hb,e1,bI,reduceCtorEq,Nat.reduceEqDiff,Nat.reduceAdd,Nat.reduceLT,Nat.reduceLeDiff,Nat.beq])
 all_goals grind [iy]
theorem aiL {v:List fP}:cal env 139 [bF v]=some [(eI v.length,false)]:=by
 unfold bF eI
 rw [ah aiw rfl];simp only [Qc];simp only [start,aJ,aT,aH,aS,aA,aB,aI,aO,Nat.reduceAdd,Nat.reduceSub]
 simp only [bI,reduceCtorEq,Nat.reduceEqDiff,Nat.reduceAdd,Nat.reduceLT,Nat.reduceLeDiff,Nat.beq]
theorem aiM {im:iR} (hl:im.length≤lim):cal env 116 [.list 1 (im.map bF)]=some [(.list 1 ((au im).map eI),true)]:=by
 have e1:=aiJ (enc:=bF) (l:=im) (fun x _=>aiL (v:=x)) (fun x=>rfl) (fun x=>rfl) hl
 rw [ah aib rfl];simp only [PD];simp only [start,aJ,aT,aH,aS,aA,aB,aI,aO,Nat.reduceAdd,Nat.reduceSub]
 simp only [e1,bI,reduceCtorEq,Nat.reduceEqDiff,Nat.reduceAdd,Nat.reduceLT,Nat.reduceLeDiff,Nat.beq]
 simp [au]
theorem ag4 {im:iR} (hl:im.length≤lim):cal env 85 [.list 1 (im.map bF)]=some [(.int .i64 (iZ im),false)]:=by
 have h2:(au im).length≤lim:=by simpa [au] using hl
 have e1:=aiM hl
 have e2:=abU h2
 rw [ah ak2 rfl];simp only [abh];simp only [start,aJ,aT,aH,aS,aA,aB,aI,aO,Nat.reduceAdd,Nat.reduceSub]
 simp only [e1,e2,bI,reduceCtorEq,Nat.reduceEqDiff,Nat.reduceAdd,Nat.reduceLT,Nat.reduceLeDiff,Nat.beq]
 rfl
theorem aiN {n:Int} (h0:0≤n) (h1:n≤4096):cal env 128 [eI n]=some [(bF (List.replicate n.toNat KN),true)]:=by
 unfold eI bF
 rw [ah aio rfl];simp only [PX];simp only [start,aJ,aT,aH,aS,aA,aB,aI,aO,Nat.reduceAdd,Nat.reduceSub]
 have F1:(n≤(lim:Int))=True:=eq_true (by simp [lim];omega)
 simp only [F1,h0,← Ux,kE,bI,reduceCtorEq,Nat.reduceEqDiff,Nat.reduceAdd,Nat.reduceLT,Nat.reduceLeDiff,Nat.beq]
 simp only [List.map_replicate]
 rfl
theorem ag5 {l:List Int} (hl:l.length≤lim):cal env 96 [.list 1 (l.map eI)]=some [(.list 1 ((if iy l=0 then nP l else []).map bF),true),(.int .i64 (iy l),false)]:=by
 have e0:=abU hl
 by_cases h:iy l=0
 ·have hs:∀ x∈l,1≤x∧x≤4096:=by
   intro x hx
   unfold iy at h
   split at h
   ·omega
   ·split at h
    ·omega
    ·rename_i h2
     simp only [List.any_eq_true,not_exists,not_and,Bool.not_eq_true] at h2
     have:=h2 x hx
     simp at this
     omega
  have e1:=aiI (enc:=eI) (g:=fun n=>List.replicate n.toNat KN) (l:=l) (fun x hx=>aiN (n:=x) (by have:=hs x hx;omega) (by have:=hs x hx;omega)) (fun x=>rfl) (fun x=>rfl) hl
  rw [ah ag0 rfl];simp only [Yc];simp only [start,aJ,aT,aH,aS,aA,aB,aI,aO,Nat.reduceAdd,Nat.reduceSub]
  simp only [e0,e1,bI,reduceCtorEq,Nat.reduceEqDiff,Nat.reduceAdd,Nat.reduceLT,Nat.reduceLeDiff,Nat.beq]
  (try simp only [fA,gB,fB]);refine dQ (fun hb=>?_) (fun hb=>?_)<;>try simp only [hb,e0,e1,bI,reduceCtorEq,Nat.reduceEqDiff,Nat.reduceAdd,Nat.reduceLT,Nat.reduceLeDiff,Nat.beq]
  ·simp [nP,h]
  ·simp at hb;omega
 ·have e1:=e0
  rw [ah ag0 rfl];simp only [Yc];simp only [start,aJ,aT,aH,aS,aA,aB,aI,aO,Nat.reduceAdd,Nat.reduceSub]
  simp only [e0,e1,bI,reduceCtorEq,Nat.reduceEqDiff,Nat.reduceAdd,Nat.reduceLT,Nat.reduceLeDiff,Nat.beq]
  (try simp only [fA,gB,fB]);refine dQ (fun hb=>?_) (fun hb=>?_)<;>try simp only [hb,e0,e1,bI,reduceCtorEq,Nat.reduceEqDiff,Nat.reduceAdd,Nat.reduceLT,Nat.reduceLeDiff,Nat.beq]
  ·simp at hb;omega
  ·simp [h]
theorem abV {α:Type} [DecidableEq α]:∀ (l m:List α),eqF (fun x y=>decide (x=y)) l m=decide (l=m)
 |[],[]=>by simp [eqF]
 |[],_ :: _=>by simp [eqF]
 |_ :: _,[]=>by simp [eqF]
 |x :: l,y :: m=>by
  have:=abV l m
  simp only [eqF,List.length_cons,List.zip_cons_cons,List.all_cons,List.cons.injEq,Bool.decide_and] at *
  rw [← this]
  by_cases h:l.length=m.length<;>simp [h]
theorem alc {a b:iR} (ha:a.length≤lim) (hr:∀ v∈a,v.length≤lim):cal env 37 [.list 1 (a.map bF),.list 1 (b.map bF)]=some [(.bool (decide (a=b)),false)]:=by
 have e1:=ag3 (enc:=bF) (enc2:=bF) (l:=a) (m:=b) (eq:=fun x y=>decide (x=y)) (fun x hx y _=>ala (hr x hx)) (fun x=>rfl) (fun x=>rfl) ha
 rw [abV] at e1
 rw [ah akO rfl];simp only [aa2];simp only [start,aJ,aT,aH,aS,aA,aB,aI,aO,Nat.reduceAdd,Nat.reduceSub]
 simp only [e1,bI,reduceCtorEq,Nat.reduceEqDiff,Nat.reduceAdd,Nat.reduceLT,Nat.reduceLeDiff,Nat.beq]
end Go.Proofs.YtioijcfcehhmdaaGreatDoor.V

namespace Go.Proofs.YtioijcfcehhmdaaGreatDoor.V
def UA (im:iR):Bool:=decide (im.length≤9)&&im.all fun v=>decide (v.length≤24)
theorem aiO {im:iR} (hl:im.length≤lim) {st:St} (h:st.head [0,3] st.boxes.length=some ⟨[.pv (.list 1 (im.map bF)),.any,.any,.pv (.int .i64 (0:Nat)),.any,.any,.any,.any,.any,.any,.any,.any,.any,.any,.any,.any,.any,.any,.any],[],[],none⟩) :
  den env Lr st=if im.all (fun v=>decide (v.length≤24)) then some (.normal,⟨[.any,.any,.any,.any,.any,.any,.any,.any,.any,.any,.any,.any,.any,.any,.any,.any,.any,.any,.any],[],[],none⟩) else some (.ret,⟨[.any,.any,.pv (.bool false),.any,.any,.any,.any,.any,.any,.any,.any,.any,.any,.any,.any,.any,.any,.any,.any],[],[],none⟩):=by
 unfold Lr
 rw [ dG (env:=env) (im.length) (fun i=>⟨[.pv (.list 1 (im.map bF)),.any,.any,.pv (.int .i64 i),.any,.any,.any,.any,.any,.any,.any,.any,.any,.any,.any,.any,.any,.any,.any],[],[],none⟩) (fun i=>if (im.drop i).all (fun v=>decide (v.length≤24)) then some (.normal,⟨[.any,.any,.any,.any,.any,.any,.any,.any,.any,.any,.any,.any,.any,.any,.any,.any,.any,.any,.any],[],[],none⟩) else some (.ret,⟨[.any,.any,.pv (.bool false),.any,.any,.any,.any,.any,.any,.any,.any,.any,.any,.any,.any,.any,.any,.any,.any],[],[],none⟩)) h (fun _=>rfl) (fun _=>rfl) ?_ ?_]
 ·first|rfl|simp only [List.drop_zero,List.take_zero,List.map_nil,Nat.zero_add,List.nil_append,List.foldl_nil]
 ·intro i rb hi ih
  have hi1:=cZ hi hl
  have F1:((i:Int)<(im.length:Int))=True:=eq_true (by omega)
  simp only [Lp,F1,bF,ay hi,List.getElem?_map,List.getElem?_eq_getElem hi,bI,reduceCtorEq,Nat.reduceEqDiff,Nat.reduceAdd,Nat.reduceLT,Nat.reduceLeDiff,Nat.beq]
  rw [List.drop_eq_getElem_cons hi,List.all_cons]
  (try simp only [fA,gB,fB]);refine dQ (fun hb=>?_) (fun hb=>?_)<;>try simp only [hb,bI,reduceCtorEq,Nat.reduceEqDiff,Nat.reduceAdd,Nat.reduceLT,Nat.reduceLeDiff,Nat.beq]
  ·rw [decide_eq_false (by simp at hb;omega)];rfl
  ·rw [ih _ (by simp only [hi1];rfl),decide_eq_true (show im[i].length≤24 by simp at hb;omega),Bool.true_and]
 ·intro rb
  simp only [Lp,Int.lt_irrefl,bI,reduceCtorEq,Nat.reduceEqDiff,Nat.reduceAdd,Nat.reduceLT,Nat.reduceLeDiff,Nat.beq]
  rw [List.drop_length]
  rfl
theorem ald {im:iR}:cal env 42 [.list 1 (im.map bF)]=some [(.bool (UA im),false)]:=by
 rw [ah akS rfl];simp only [aa5];simp only [start,aJ,aT,aH,aS,aA,aB,aI,aO,Nat.reduceAdd,Nat.reduceSub]
 simp only [bI,reduceCtorEq,Nat.reduceEqDiff,Nat.reduceAdd,Nat.reduceLT,Nat.reduceLeDiff,Nat.beq]
 (try simp only [fA,gB,fB]);refine dQ (fun hb=>?_) (fun hb=>?_)<;>try simp only [hb,bI,reduceCtorEq,Nat.reduceEqDiff,Nat.reduceAdd,Nat.reduceLT,Nat.reduceLeDiff,Nat.beq]
 ·simp at hb
  rw [UA,decide_eq_false (by omega)];rfl
 ·have hl:im.length≤9:=by simp at hb;omega
  rw [aiO (im:=im) (by unfold lim;omega)]
  rotate_left
  ·rfl
  ·rw [UA,decide_eq_true hl,Bool.true_and]
   cases im.all (fun v=>decide (v.length≤24))<;>simp only [rU,reduceCtorEq,Nat.reduceEqDiff,Nat.reduceAdd,Nat.reduceLT,Nat.reduceLeDiff,Nat.beq]
theorem getD_get {α:Type} {l:List α} {i:Nat} {d:α} (h:i<l.length):l.getD i d=l[i]:=by simp [List.getD_eq_getElem?_getD,List.getElem?_eq_getElem h]
theorem ale {im:iR} {w:iM} (hl:im.length≤lim) (hr:∀ v∈im,v.length≤lim) (hd:w.data.length≤lim):cal env 89 [.list 1 (im.map bF),jL w]=some [(.int .i64 (mP im w),false)]:=by
 obtain ⟨v,s,d⟩:=w
 simp only [jL] at *
 by_cases h0:0≤v∧v<im.length
 ·have h1:=X0 (k:=.i64) h0.1 h0.2
  have h2:v.toNat<im.length:=by omega
  have h3:=List.getElem?_eq_getElem h2
  have h4:im[v.toNat].length≤lim:=hr _ (List.getElem_mem h2)
  have h5:IntKind.i64.wrap ((im[v.toNat].length:Int) - d.length)=im[v.toNat].length - d.length:=bZ (by unfold lim at *;omega)
  rw [ah agZ rfl];simp only [Yb];simp only [start,aJ,aT,aH,aS,aA,aB,aI,aO,Nat.reduceAdd,Nat.reduceSub]
  simp only [h1,h3,h5,bF,List.getElem?_map,bI,reduceCtorEq,Nat.reduceEqDiff,Nat.reduceAdd,Nat.reduceLT,Nat.reduceLeDiff,Nat.beq]
  repeat' ((try simp only [fA,gB,fB]);refine dQ (fun hb=>?_) (fun hb=>?_)<;>try simp only [hb,h1,h3,h5,bF,List.getElem?_map,bI,reduceCtorEq,Nat.reduceEqDiff,Nat.reduceAdd,Nat.reduceLT,Nat.reduceLeDiff,Nat.beq])
  all_goals clear h1 h3 h5
  all_goals simp only [mP,getD_get h2,decide_eq_true_eq,decide_eq_false_iff_not,beq_iff_eq,beq_eq_false_iff_ne,ne_eq,ge_iff_le,gt_iff_lt,Bool.and_eq_true,Bool.or_eq_true,Bool.not_eq_true',Bool.not_eq_false'] at *
  all_goals ((repeat' split)<;>first|rfl|(exfalso;omega))
 ·rw [ah agZ rfl];simp only [Yb];simp only [start,aJ,aT,aH,aS,aA,aB,aI,aO,Nat.reduceAdd,Nat.reduceSub]
  simp only [bF,List.getElem?_map,Vs,bI,reduceCtorEq,Nat.reduceEqDiff,Nat.reduceAdd,Nat.reduceLT,Nat.reduceLeDiff,Nat.beq]
  repeat' ((try simp only [fA,gB,fB]);refine dQ (fun hb=>?_) (fun hb=>?_)<;>try simp only [hb,bF,List.getElem?_map,Vs,bI,reduceCtorEq,Nat.reduceEqDiff,Nat.reduceAdd,Nat.reduceLT,Nat.reduceLeDiff,Nat.beq])
  all_goals simp only [mP,decide_eq_true_eq,decide_eq_false_iff_not,beq_iff_eq,beq_eq_false_iff_ne,ne_eq,ge_iff_le,gt_iff_lt,Bool.and_eq_true,Bool.or_eq_true,Bool.not_eq_true',Bool.not_eq_false'] at *
  all_goals ((repeat' split)<;>first|rfl|(exfalso;omega))
theorem aiP {im:iR} {w:iM} (hl:im.length≤lim) (hr:∀ v∈im,v.length≤lim) (hd:w.data.length≤lim):cal env 133 [.list 1 (im.map bF),jL w]=some [(.int .i64 (FW im w),false)]:=by
 have e1:=ag4 hl
 have e2:=ale (w:=w) hl hr hd
 simp only [jL] at *
 rw [ah ait rfl];simp only [P7];simp only [start,aJ,aT,aH,aS,aA,aB,aI,aO,Nat.reduceAdd,Nat.reduceSub]
 simp only [e1,e2,bI,reduceCtorEq,Nat.reduceEqDiff,Nat.reduceAdd,Nat.reduceLT,Nat.reduceLeDiff,Nat.beq]
 repeat' ((try simp only [fA,gB,fB]);refine dQ (fun hb=>?_) (fun hb=>?_)<;>try simp only [hb,e1,e2,bI,reduceCtorEq,Nat.reduceEqDiff,Nat.reduceAdd,Nat.reduceLT,Nat.reduceLeDiff,Nat.beq])
 all_goals simp only [FW,decide_eq_true_eq,decide_eq_false_iff_not,beq_iff_eq,beq_eq_false_iff_ne,ne_eq,ge_iff_le,gt_iff_lt,Bool.and_eq_true,Bool.or_eq_true,Bool.not_eq_true',Bool.not_eq_false'] at *
 all_goals ((repeat' split)<;>first|rfl|(exfalso;omega))
end Go.Proofs.YtioijcfcehhmdaaGreatDoor.V

namespace Go.Proofs.YtioijcfcehhmdaaGreatDoor.V
def vW (out:List eH) (i:Nat):List eH:=match out.getLast? with
 |some x=>if x.start+x.count=(i:Int) then out.dropLast++[⟨x.start,x.count+1⟩] else out++[⟨i,1⟩]
 |none=>[⟨i,1⟩]
def exts (l:List Nat):List eH:=l.foldl vW []
theorem jE (pre:List eH) (x:eH) (i:Nat):vW (pre++[x]) i=if x.start+x.count=(i:Int) then pre++[⟨x.start,x.count+1⟩] else pre++[x]++[⟨i,1⟩]:=by
 simp [vW]
theorem xq (l:List Nat) (i:Nat):exts (l++[i])=vW (exts l) i:=by simp [exts]
theorem lq {α:Type} (l:List α):l=[]∨∃ p x,l=p++[x]:=by
 rcases List.eq_nil_or_concat l with h|⟨p,x,h⟩
 ·exact .inl h
 ·exact .inr ⟨p,x,by rw [h];simp⟩
theorem Jz:∀ (n:Nat) (l:List Nat),l.length=n→∀ i:Nat,∃ pre x,exts (l++[i])=pre++[x]∧x.start+x.count=(i:Int)+1∧0≤x.start∧1≤x.count∧pre.length≤l.length:=by
 intro n
 induction n with
 |zero =>
  intro l hl i
  have:=List.eq_nil_of_length_eq_zero hl
  subst this
  exact ⟨[],⟨i,1⟩,rfl,rfl,by simp,by simp,by simp⟩
 |succ n ih =>
  intro l hl i
  rcases lq l with rfl|⟨p,j,rfl⟩
  ·simp at hl
  ·obtain ⟨pre,x,e,h1,h2,h3,h4⟩:=ih p (by simpa using hl) j
   rw [xq,e,jE]
   split
   ·rename_i hx
    exact ⟨pre,_,rfl,by simp;omega,h2,by simp;omega,by simp;omega⟩
   ·exact ⟨pre++[x],_,rfl,by simp,by simp,by simp,by simp;omega⟩
theorem Yn {n:Nat} (h:n≤lim):IntKind.i64.wrap (((n+1:Nat):Int) - 1)=(n:Int):=by
 rw [bZ (by unfold lim at h;omega)];omega
def yI (l:List Nat):List (List PV):=l.map fun (i:Nat)=>[PV.int .i64 (i:Int)]
end Go.Proofs.YtioijcfcehhmdaaGreatDoor.V

namespace Go.Proofs.YtioijcfcehhmdaaGreatDoor.V
def ext (p:Nat→Bool) (n:Nat):List eH:=exts ((List.range n).filter p)
theorem Qq (p:Nat→Bool):ext p 0=[]:=rfl
theorem oD (p:Nat→Bool) (n:Nat):ext p (n+1)=if p n then vW (ext p n) n else ext p n:=by
 unfold ext
 rw [List.range_succ,List.filter_append]
 cases h:p n
 ·simp [h]
 ·rw [List.filter_cons_of_pos h,List.filter_nil,xq];rfl
theorem afU {p:Nat→Bool} {n:Nat} (h:n=0∨p (n - 1)=false):vW (ext p n) n=ext p n++[⟨(n:Int),1⟩]:=by
 unfold ext
 rcases lq ((List.range n).filter p) with h0|⟨l,j,h0⟩
 ·rw [h0];rfl
 ·obtain ⟨pre,⟨s,c⟩,e0,h1,h2,h3,h4⟩:=Jz _ l rfl j
  have hmem:j∈(List.range n).filter p:=by rw [h0];simp
  obtain ⟨q1,q2⟩:=List.mem_filter.1 hmem
  have hj:=List.mem_range.1 q1
  simp only at h1
  rw [h0,e0,jE,if_neg]
  intro hh
  simp only at hh
  have:j=n - 1:=by omega
  rcases h with h|h
  ·omega
  ·rw [← this,q2] at h;cases h
theorem xu {p:Nat→Bool} {a:Nat}:∀ k,(∀ s,a≤s→s<a+k→p s=false)→ext p (a+k)=ext p a
 |0,_=>rfl
 |k+1,h=>by
  rw [← Nat.add_assoc,oD,h (a+k) (by omega) (by omega),if_neg (by simp)]
  exact xu k fun s h1 h2=>h s h1 (by omega)
theorem FX {p:Nat→Bool} {a:Nat} {pre:List eH} {s0:Int} (h0:ext p a=pre++[⟨s0,a - s0⟩]):∀ k,(∀ s,a≤s→s<a+k→p s=true)→ext p (a+k)=pre++[⟨s0,((a+k:Nat):Int) - s0⟩]
 |0,_=>h0
 |k+1,h=>by
  rw [← Nat.add_assoc,oD,h (a+k) (by omega) (by omega),if_pos rfl,FX h0 k fun s h1 h2=>h s h1 (by omega),jE,if_pos (by simp only;omega)]
  congr 2
  simp only [eH.mk.injEq,true_and]
  omega
theorem Yo {p:Nat→Bool} {a k:Nat} (hn:a=0∨p (a - 1)=false) (h:∀ s,a≤s→s<a+(k+1)→p s=true):ext p (a+(k+1))=ext p a++[⟨(a:Int),((a+(k+1):Nat):Int) - a⟩]:=by
 have h1:ext p (a+1)=ext p a++[⟨(a:Int),((a+1:Nat):Int) - a⟩]:=by
  rw [oD,h a (Nat.le_refl _) (by omega),if_pos rfl,afU hn]
  congr 2
  simp only [eH.mk.injEq,true_and]
  omega
 have:=FX (a:=a+1) h1 k fun s h2 h3=>h s (by omega) (by omega)
 rw [show a+(k+1)=a+1+k by omega]
 exact this
theorem JA {p q:Nat→Bool} {n:Nat} (h:∀ s,s<n→p s=q s):ext p n=ext q n:=by
 unfold ext
 rw [List.filter_congr fun s hs=>h s (List.mem_range.1 hs)]
def dep (i:Nat) (s:Nat):List End→Int
 |[]=>0
 |x :: l=>(if x.list=i∧x.pos≤s then x.step else 0)+dep i s l
def tot (i:Nat):List End→Int
 |[]=>0
 |x :: l=>(if x.list=i then x.step else 0)+tot i l
theorem xw (i s:Nat):∀ l m:List End,dep i s (l++m)=dep i s l+dep i s m
 |[],m=>by simp [dep]
 |x :: l,m=>by simp only [List.cons_append,dep,xw i s l m];omega
theorem Vy {i s:Nat}:∀ {l:List End},(∀ x∈l,x.pos≤s)→dep i s l=tot i l
 |[],_=>rfl
 |x :: l,h=>by
  have h1:=h x (by simp)
  have ih:=Vy (i:=i) (s:=s) (l:=l) fun y hy=>h y (by simp [hy])
  simp only [dep,tot,ih,h1,and_true]
theorem zX {i s:Nat}:∀ {l:List End},(∀ x∈l,s<x.pos)→dep i s l=0
 |[],_=>rfl
 |x :: l,h=>by
  have h1:=h x (by simp)
  have ih:=zX (i:=i) (s:=s) (l:=l) fun y hy=>h y (by simp [hy])
  simp only [dep,ih]
  rw [if_neg (by omega)];rfl
theorem zY (i:Nat):∀ l m:List End,tot i (l++m)=tot i l+tot i m
 |[],m=>by simp [tot]
 |x :: l,m=>by simp only [List.cons_append,tot,zY i l m];omega
def kM (keep:Bool→Bool→Bool) (l:List End) (s:Nat):Bool:=keep (decide (dep 0 s l > 0)) (decide (dep 1 s l > 0))
def jG (x:End):List End→Bool
 |[]=>false
 |y :: _=>decide (y.pos=x.pos)
def Bv (keep:Bool→Bool→Bool):List End→Int→Int→Int→Bool→List eH
 |[],_,_,_,_=>[]
 |x :: l,d0,d1,st,ins =>
  if jG x l then Bv keep l (if x.list=0 then d0+x.step else d0) (if x.list=1 then d1+x.step else d1) st ins
  else
   (if !keep (decide ((if x.list=0 then d0+x.step else d0) > 0)) (decide ((if x.list=1 then d1+x.step else d1) > 0))&&ins then [⟨st,x.pos - st⟩] else []) ++
   Bv keep l (if x.list=0 then d0+x.step else d0) (if x.list=1 then d1+x.step else d1)
    (if keep (decide ((if x.list=0 then d0+x.step else d0) > 0)) (decide ((if x.list=1 then d1+x.step else d1) > 0))&&!ins then x.pos else st)
    (keep (decide ((if x.list=0 then d0+x.step else d0) > 0)) (decide ((if x.list=1 then d1+x.step else d1) > 0)))
def Asc:List End→Prop
 |[]=>True
 |[_]=>True
 |x :: y :: l=>x.pos≤y.pos∧Asc (y :: l)
theorem Asc.tail {x:End} {l:List End} (h:Asc (x :: l)):Asc l:=by
 cases l with
 |nil=>trivial
 |cons y l=>exact h.2
theorem Asc.le {x:End}:∀ {l:List End},Asc (x :: l)→∀ y∈l,x.pos≤y.pos
 |[],_,y,hy=>by cases hy
 |z :: l,h,y,hy=>by
  rcases List.mem_cons.1 hy with rfl|hy
  ·exact h.1
  ·exact Nat.le_trans h.1 (Asc.le h.2 y hy)
def atStart (N:Nat):List End→Nat→Prop
 |[],a=>a=N
 |x :: _,a=>a=x.pos
theorem xA {keep:Bool→Bool→Bool} (hk:keep false false=false) {L:List End} {N:Nat} (hN:∀ x∈L,x.pos≤N) (h0:tot 0 L=0) (h1:tot 1 L=0) :
  ∀ (R P:List End) (out:List eH) (st:Int) (ins:Bool) (a:Nat),L=P++R→Asc R→(∀ x∈P,∀ y∈R,x.pos≤y.pos)→(∀ x∈P,x.pos≤a) →
   atStart N R a→ext (kM keep L) a=out++(if ins then [⟨st,a - st⟩] else [])→(a=0∨ins=true∨kM keep L (a - 1)=false)→(R=[]→ins=false)→(a=0→ins=false) →
   ext (kM keep L) N=out++Bv keep R (tot 0 P) (tot 1 P) st ins
 |[],P,out,st,ins,a,hL,_,_,_,ha,he,hi,hr,_=>by
  have ha:a=N:=ha
  rw [hr rfl] at he
  rw [ha] at he
  simpa [Bv] using he
 |x :: l,P,out,st,ins,a,hL,hs,hP,hPa,ha,he,hi,_,hz=>by
  have ha:a=x.pos:=ha
  subst ha
  have hL2:L=(P++[x])++l:=by rw [hL];simp
  have t0:tot 0 (P++[x])=(if x.list=0 then tot 0 P+x.step else tot 0 P):=by
   rw [zY];simp only [tot];split<;>omega
  have t1:tot 1 (P++[x])=(if x.list=1 then tot 1 P+x.step else tot 1 P):=by
   rw [zY];simp only [tot];split<;>omega
  have hP2:∀ z∈P++[x],∀ y∈l,z.pos≤y.pos:=by
   intro z hz y hy
   rcases List.mem_append.1 hz with hz|hz
   ·exact hP z hz y (by simp [hy])
   ·simp only [List.mem_singleton] at hz;rw [hz];exact hs.le y hy
  have hPx:∀ z∈P++[x],z.pos≤x.pos:=by
   intro z hz
   rcases List.mem_append.1 hz with hz|hz
   ·exact hP z hz x (by simp)
   ·simp only [List.mem_singleton] at hz;rw [hz];exact Nat.le_refl _
  unfold Bv
  rw [← t0,← t1]
  by_cases hn:jG x l=true
  ·rw [if_pos hn]
   cases l with
   |nil=>simp [jG] at hn
   |cons y l =>
    have hy:y.pos=x.pos:=by simpa [jG] using hn
    exact xA hk hN h0 h1 (y :: l) (P++[x]) out st ins x.pos hL2 hs.tail hP2 hPx hy.symm he hi (fun e=>by cases e) hz
  ·rw [if_neg hn]
   -- the next place
   obtain ⟨b,hb,hbl,hbx,hbm⟩:∃ b,x.pos≤b∧(∀ y∈l,b≤y.pos)∧(l≠[]→x.pos<b)∧atStart N l b:=by
    cases l with
    |nil=>exact ⟨N,hN x (by rw [hL];simp),fun y hy=>(by cases hy),fun h=>absurd rfl h,rfl⟩
    |cons y l =>
     have hy:y.pos≠x.pos:=by simpa [jG] using hn
     have:=hs.1
     exact ⟨y.pos,hs.1,fun z hz=>by
      rcases List.mem_cons.1 hz with rfl|hz
      ·exact Nat.le_refl _
      ·exact hs.tail.le z hz,fun _=>by omega,rfl⟩
   have hconst:∀ s,x.pos≤s→s<b→kM keep L s=keep (decide (tot 0 (P++[x]) > 0)) (decide (tot 1 (P++[x]) > 0)):=by
    intro s hs1 hs2
    unfold kM
    have e:∀ i,dep i s L=tot i (P++[x]):=by
     intro i
     rw [hL2,xw,Vy (fun z hz=>by have:=hPx z hz;omega),zX (fun z hz=>by have:=hbl z hz;omega)]
     omega
    rw [e 0,e 1]
   have hlast:l=[]→keep (decide (tot 0 (P++[x]) > 0)) (decide (tot 1 (P++[x]) > 0))=false:=by
    intro hl
    have e0:tot 0 (P++[x])=0:=by rw [← h0,hL2,hl,List.append_nil]
    have e1:tot 1 (P++[x])=0:=by rw [← h1,hL2,hl,List.append_nil]
    rw [e0,e1]
    exact hk
   have hPb:∀ z∈P++[x],z.pos≤b:=fun z hz=>Nat.le_trans (hPx z hz) hb
   obtain ⟨k,rfl⟩:∃ k,b=x.pos+k:=⟨b - x.pos,by omega⟩
   generalize keep (decide (tot 0 (P++[x]) > 0)) (decide (tot 1 (P++[x]) > 0))=now at *
   have ag6:k≠0→kM keep L (x.pos+k - 1)=now:=fun hk0=>hconst _ (by omega) (by omega)
   cases now with
   |false =>
    have hf:=xu (p:=kM keep L) (a:=x.pos) k fun s q1 q2=>hconst s q1 q2
    cases ins with
    |false =>
     simp only [Bool.not_false,Bool.and_false,Bool.false_eq_true,if_false,List.nil_append,Bool.and_true,Bool.false_and,List.append_nil,if_true] at he ⊢
     refine xA hk hN h0 h1 l (P++[x]) out _ false (x.pos+k) hL2 hs.tail hP2 hPb hbm ?_ ?_ (fun _=>rfl) (fun _=>rfl)
     ·rw [hf,he];simp
     ·by_cases hk0:k=0
      ·subst hk0
       rcases hi with hi|hi|hi
       ·exact .inl hi
       ·cases hi
       ·exact .inr (.inr hi)
      ·exact .inr (.inr (ag6 hk0))
    |true =>
     simp only [Bool.not_false,Bool.and_self,if_true,Bool.not_true,Bool.and_false,Bool.false_and,Bool.false_eq_true,if_false] at he ⊢
     rw [← List.append_assoc]
     by_cases hk0:k=0
     ·subst hk0
      have hl:l=[]:=by
       cases l with
       |nil=>rfl
       |cons y l=>have:=hbx (by simp);omega
      subst hl
      have hb2:x.pos+0=N:=hbm
      simp only [Bv,List.append_nil]
      rw [← hb2]
      exact he
     ·refine xA hk hN h0 h1 l (P++[x]) _ _ false (x.pos+k) hL2 hs.tail hP2 hPb hbm ?_ (.inr (.inr (ag6 hk0))) (fun _=>rfl) (fun _=>rfl)
      rw [hf,he];simp
   |true =>
    have hl:l≠[]:=fun e=>by have:=hlast e;cases this
    have hk1:=hbx hl
    obtain ⟨j,rfl⟩:∃ j,k=j+1:=⟨k - 1,by omega⟩
    cases ins with
    |false =>
     simp only [Bool.not_true,Bool.false_and,Bool.false_eq_true,if_false,List.nil_append,Bool.not_false,Bool.and_self,if_true,List.append_nil] at he ⊢
     refine xA hk hN h0 h1 l (P++[x]) out _ true (x.pos+(j+1)) hL2 hs.tail hP2 hPb hbm ?_ (.inr (.inl rfl)) (fun e=>absurd e hl) (fun e=>by omega)
     have hi2:x.pos=0∨kM keep L (x.pos - 1)=false:=by
      rcases hi with hi|hi|hi
      ·exact .inl hi
      ·cases hi
      ·exact .inr hi
     rw [Yo hi2 fun s q1 q2=>hconst s q1 q2,he]
     simp
    |true =>
     simp only [Bool.not_true,Bool.false_and,Bool.false_eq_true,if_false,List.nil_append,Bool.and_false,if_true] at he ⊢
     refine xA hk hN h0 h1 l (P++[x]) out st true (x.pos+(j+1)) hL2 hs.tail hP2 hPb hbm ?_ (.inr (.inl rfl)) (fun e=>absurd e hl) (fun e=>by omega)
     rw [FX he (j+1) fun s q1 q2=>hconst s q1 q2]
     simp
theorem abW {keep:Bool→Bool→Bool} (hk:keep false false=false) {L:List End} {N:Nat} (hs:Asc L) (hN:∀ x∈L,x.pos≤N) (h0:tot 0 L=0) (h1:tot 1 L=0) :
  Bv keep L 0 0 0 false=ext (kM keep L) N:=by
 cases L with
 |nil =>
  have:ext (kM keep ([]:List End)) (0+N)=ext (kM keep []) 0:=xu N fun s _ _=>hk
  rw [Nat.zero_add] at this
  rw [this];rfl
 |cons x l =>
  have hb:ext (kM keep (x :: l)) (0+x.pos)=ext (kM keep (x :: l)) 0:=xu x.pos fun s _ h2=>by
   unfold kM
   have e:∀ i,dep i s (x :: l)=0:=fun i=>zX fun y hy=>by
    rcases List.mem_cons.1 hy with rfl|hy
    ·omega
    ·have:=hs.le y hy;omega
   rw [e 0,e 1]
   exact hk
  rw [Nat.zero_add] at hb
  have:=xA hk hN h0 h1 (x :: l) [] [] 0 false x.pos rfl hs (fun z hz=>by cases hz) (fun z hz=>by cases hz) rfl (by rw [hb];rfl) (by
   by_cases h:x.pos=0
   ·exact .inl h
   ·refine .inr (.inr ?_)
    unfold kM
    have e:∀ i,dep i (x.pos - 1) (x :: l)=0:=fun i=>zX fun y hy=>by
     rcases List.mem_cons.1 hy with rfl|hy
     ·omega
     ·have:=hs.le y hy;omega
    rw [e 0,e 1]
    exact hk) (fun e=>by cases e) (fun _=>rfl)
  rw [this];rfl
end Go.Proofs.YtioijcfcehhmdaaGreatDoor.V

namespace Go.Proofs.YtioijcfcehhmdaaGreatDoor.V
abbrev Wd:=BitVec 64
structure Bm where
 size:Int
 ws:List Wd
 deriving DecidableEq
def eW (w:Wd):PV:=.int .u64 (w.toNat:Int)
def jQ (b:Bm):PV:=.agg [.int .i64 b.size,.list 1 (b.ws.map eW)]
def bit (ws:List Wd) (i:Nat):Bool:=(ws.getD (i / 64) 0).getLsbD (i % 64)
theorem UC {ws:List Wd} {k:Nat} (h:k<ws.length) {j:Nat} (hj:j<64):bit ws (64 * k+j)=ws[k].getLsbD j:=by
 unfold bit
 have e1:(64 * k+j) / 64=k:=by omega
 have e2:(64 * k+j) % 64=j:=by omega
 rw [e1,e2];simp [h]
theorem FY {ws:List Wd} {i:Nat} (h:i / 64<ws.length):bit ws i=ws[i / 64].getLsbD (i % 64):=by
 unfold bit;simp [h]
theorem DZ {ws:List Wd} {i:Nat} (h:64 * ws.length≤i):bit ws i=false:=by
 unfold bit
 have:ws.length≤i / 64:=by omega
 rw [List.getD_eq_getElem?_getD,List.getElem?_eq_none this];simp
theorem afV (w:Wd):BitVec.ofInt 64 (w.toNat:Int)=w:=by
 apply BitVec.eq_of_toNat_eq
 have:=w.isLt
 rw [BitVec.toNat_ofInt]
 omega
theorem abX (n:Int):IntKind.u64.wrap n=n % 2 ^ 64:=by
 simp only [IntKind.wrap,IntKind.bits,IntKind.signed,Bool.false_and,Bool.false_eq_true,if_false]
theorem abY (w:Wd):IntKind.u64.wrap (w.toNat:Int)=(w.toNat:Int):=by
 have:=w.isLt
 simp only [IntKind.wrap,IntKind.bits,IntKind.signed,Bool.false_and,Bool.false_eq_true,if_false]
 omega
theorem alf (a b:Wd):IntKind.u64.wrap ((BitVec.ofInt IntKind.u64.bits (a.toNat:Int) ||| BitVec.ofInt IntKind.u64.bits (b.toNat:Int)).toNat:Int)=((a ||| b).toNat:Int):=by
 show IntKind.u64.wrap ((BitVec.ofInt 64 (a.toNat:Int) ||| BitVec.ofInt 64 (b.toNat:Int)).toNat:Int)=_
 rw [afV,afV,abY]
theorem ag7 (a b:Wd):IntKind.u64.wrap ((BitVec.ofInt IntKind.u64.bits (a.toNat:Int) &&& BitVec.ofInt IntKind.u64.bits (b.toNat:Int)).toNat:Int)=((a &&& b).toNat:Int):=by
 show IntKind.u64.wrap ((BitVec.ofInt 64 (a.toNat:Int) &&& BitVec.ofInt 64 (b.toNat:Int)).toNat:Int)=_
 rw [afV,afV,abY]
theorem ag8 (w:Wd) {s:Int} {n:Nat} (hs:s=(n:Int)):(w.toNat:Int).fdiv (2 ^ (min s.toNat IntKind.u64.bits))=((w >>> n).toNat:Int):=by
 subst hs
 rw [BitVec.toNat_ushiftRight,Nat.shiftRight_eq_div_pow,Int.toNat_natCast]
 have hw:=w.isLt
 show (w.toNat:Int).fdiv (2 ^ (min n 64))=_
 by_cases h:n≤64
 ·have h2:(0:Int)≤2 ^ n:=by have:=Int.natCast_nonneg (2 ^ n);push_cast at this;exact this
  rw [Nat.min_eq_left h,Int.fdiv_eq_ediv_of_nonneg _ h2]
  push_cast
  rfl
 ·rw [Nat.min_eq_right (by omega),Int.fdiv_eq_ediv_of_nonneg _ (by decide)]
  have h1:w.toNat / 2 ^ n=0:=Nat.div_eq_of_lt (Nat.lt_of_lt_of_le hw (Nat.pow_le_pow_right (by decide) (by omega)))
  rw [h1]
  omega
theorem alg (w:Wd) {s:Int} {n:Nat} (hs:s=(n:Int)):IntKind.u64.wrap ((w.toNat:Int) * 2 ^ (min s.toNat IntKind.u64.bits))=((w <<< n).toNat:Int):=by
 subst hs
 rw [BitVec.toNat_shiftLeft,Nat.shiftLeft_eq,Int.toNat_natCast]
 have hw:=w.isLt
 rw [abX]
 show ((w.toNat:Int) * 2 ^ (min n 64)) % 2 ^ 64=_
 by_cases h:n≤64
 ·have e2:((2 ^ n:Nat):Int)=2 ^ n:=by push_cast;rfl
  have e3:((2 ^ 64:Nat):Int)=2 ^ 64:=by decide
  rw [Nat.min_eq_left h,Int.natCast_emod,Int.natCast_mul,e2,e3]
 ·rw [Nat.min_eq_right (by omega)]
  have e:2 ^ n=2 ^ 64 * 2 ^ (n - 64):=by rw [← Nat.pow_add];congr 1;omega
  have:w.toNat * 2 ^ n % 2 ^ 64=0:=by
   rw [e,Nat.mul_left_comm];exact Nat.mul_mod_right _ _
  rw [this]
  exact Int.mul_emod_left _ _
theorem alh (a b:Wd):IntKind.u64.wrap ((a.toNat:Int) - (b.toNat:Int))=((a - b).toNat:Int):=by
 have h1:=a.isLt
 have h2:=b.isLt
 simp only [IntKind.wrap,IntKind.bits,IntKind.signed,Bool.false_and,Bool.false_eq_true,if_false]
 rw [BitVec.toNat_sub]
 omega
theorem ag9 (a b:Wd):((a.toNat:Int)==(b.toNat:Int))=decide (a=b):=by
 by_cases h:a=b
 ·subst h;simp
 ·have:a.toNat≠b.toNat:=fun e=>h (BitVec.eq_of_toNat_eq e)
  simp [h];omega
def vX (k:Nat) (a b:Int):Wd :=
 if max (a - 64 * (k:Int)) 0 ≥ min (b - 64 * (k:Int)) 64 then 0
 else (BitVec.allOnes 64 >>> (64 - (min (b - 64 * (k:Int)) 64 - max (a - 64 * (k:Int)) 0)).toNat) <<< (max (a - 64 * (k:Int)) 0).toNat
theorem Qr (k:Nat) (a b:Int) {j:Nat} (hj:j<64):(vX k a b).getLsbD j=decide (a≤64 * (k:Int)+j∧64 * (k:Int)+j<b):=by
 unfold vX
 split
 ·rename_i h
  rw [show (0:Wd).getLsbD j=false by simp]
  symm
  apply decide_eq_false
  omega
 ·rename_i h
  rw [BitVec.getLsbD_shiftLeft,BitVec.getLsbD_ushiftRight,BitVec.getLsbD_allOnes]
  rw [Bool.eq_iff_iff]
  simp only [Bool.and_eq_true,decide_eq_true_eq,Bool.not_eq_true',decide_eq_false_iff_not]
  omega
def bitsOf (w:Wd):List Nat:=(List.range 64).filter fun j=>w.getLsbD j
theorem Yp:bitsOf 0=[]:=by
 unfold bitsOf
 rw [List.filter_eq_nil_iff]
 intro j _
 simp
theorem Vz {w:Wd} (h:w≠0):Lib.ctz 64 w.toNat<64∧(∀ j,j<Lib.ctz 64 w.toNat→w.getLsbD j=false)∧w.getLsbD (Lib.ctz 64 w.toNat)=true∧∀ j,j<64→(w &&& (w - 1)).getLsbD j=(w.getLsbD j&&decide (j≠Lib.ctz 64 w.toNat)):=by
 have h0:0<w.toNat:=by
  rcases Nat.eq_zero_or_pos w.toNat with e|e
  ·exact absurd (BitVec.eq_of_toNat_eq (by simpa using e)) h
  ·exact e
 have hl:Lib.ctz 64 w.toNat=Lib.ctzFrom 64 w.toNat:=by unfold Lib.ctz;rw [if_neg (by omega)]
 rw [hl]
 obtain ⟨m,h1,h2⟩:=Lib.ctzFrom_spec 64 w.toNat h0 w.isLt
 generalize Lib.ctzFrom 64 w.toNat=c at h1 h2
 have hbit:∀ j,w.getLsbD j=if j<c then false else (2 * m+1).testBit (j - c):=fun j=>by
  rw [← BitVec.testBit_toNat,h1,Nat.testBit_two_pow_mul]
  by_cases hc:j<c
  ·rw [if_pos hc,decide_eq_false (by omega),Bool.false_and]
  ·rw [if_neg hc,decide_eq_true (by omega),Bool.true_and]
 have hsub:(w - 1).toNat=2 ^ c * (2 * m)+(2 ^ c - 1):=by
  have hp:0<2 ^ c:=Nat.pow_pos (by decide)
  rw [BitVec.toNat_sub]
  have:=w.isLt
  have e1:(1:Wd).toNat=1:=rfl
  rw [e1,show 2 ^ 64 - 1+w.toNat=(w.toNat - 1)+2 ^ 64 by omega,Nat.add_mod_right,Nat.mod_eq_of_lt (by omega),h1,Nat.mul_add,Nat.mul_one]
  omega
 have ali:∀ j,(w - 1).getLsbD j=if j<c then true else (2 * m).testBit (j - c):=fun j=>by
  rw [← BitVec.testBit_toNat,hsub]
  have hp:2 ^ c - 1<2 ^ c:=by have:0<2 ^ c:=Nat.pow_pos (by decide);omega
  by_cases hc:j<c
  ·rw [if_pos hc,Nat.testBit_two_pow_mul_add _ hp,if_pos hc,Nat.testBit_two_pow_sub_one]
   simp [hc]
  ·rw [if_neg hc,Nat.testBit_two_pow_mul_add _ hp,if_neg hc]
 refine ⟨h2,fun j hj=>by rw [hbit,if_pos hj],by rw [hbit,if_neg (Nat.lt_irrefl _),Nat.sub_self];simp,fun j hj=>?_⟩
 rw [BitVec.getLsbD_and,hbit,ali]
 by_cases hc:j<c
 ·simp [hc]
 ·rw [if_neg hc,if_neg hc]
  by_cases he:j=c
  ·subst he;simp
  ·obtain ⟨d,hd⟩:∃ d,j - c=d+1:=⟨j - c - 1,by omega⟩
   rw [hd,Nat.testBit_succ,Nat.testBit_succ,show (2 * m+1) / 2=m by omega,show 2 * m / 2=m by omega]
   simp [he]
theorem L6 {p q:Nat→Bool} {c n:Nat} (hc:c<n) (hlow:∀ j,j<c→p j=false) (hp:p c=true) (hq:∀ j,j<n→q j=(p j&&decide (j≠c))):(List.range n).filter p=c :: (List.range n).filter q:=by
 have e:List.range n=List.range c++(c :: (List.range (n - c - 1)).map (c+1+·)):=by
  apply List.ext_getElem
  ·simp;omega
  ·intro i h1 h2
   simp only [List.length_range] at h1
   rw [List.getElem_range,List.getElem_append]
   split
   ·simp
   ·rename_i h
    simp only [List.length_range] at h ⊢
    obtain ⟨d,hd⟩:∃ d,i=c+d:=⟨i - c,by omega⟩
    subst hd
    cases d with
    |zero=>simp
    |succ d=>simp [show c+(d+1) - c=d+1 by omega];omega
 have hq':∀ j,j∈List.range n→q j=(p j&&decide (j≠c)):=fun j hj=>hq j (List.mem_range.1 hj)
 rw [List.filter_congr hq',e,List.filter_append,List.filter_append]
 have h1:(List.range c).filter p=[]:=by
  rw [List.filter_eq_nil_iff];intro j hj;rw [hlow j (List.mem_range.1 hj)];simp
 have h2:(List.range c).filter (fun j=>p j&&decide (j≠c))=[]:=by
  rw [List.filter_eq_nil_iff];intro j hj;rw [hlow j (List.mem_range.1 hj)];simp
 rw [h1,h2,List.nil_append,List.nil_append,List.filter_cons_of_pos hp,List.filter_cons_of_neg (by simp)]
 congr 1
 apply List.filter_congr
 intro j hj
 obtain ⟨d,_,rfl⟩:=List.mem_map.1 hj
 simp;omega
theorem Yq {w:Wd} (h:w≠0):bitsOf w=Lib.ctz 64 w.toNat :: bitsOf (w &&& (w - 1)):=by
 obtain ⟨h1,h2,h3,h4⟩:=Vz h
 exact L6 h1 h2 h3 h4
def vY (ws:List Wd) (a b:Int):List Nat:=(List.range (64 * ws.length)).filter fun (i:Nat)=>bit ws i&&decide (a≤(i:Int)∧(i:Int)<b)
theorem range_add (n m:Nat):List.range (n+m)=List.range n++(List.range m).map (n+·):=List.range_add
theorem UD {ws:List Wd} {k:Nat} (h:k<ws.length) (a b:Int):(List.range (64 * (k+1))).filter (fun (i:Nat)=>bit ws i&&decide (a≤(i:Int)∧(i:Int)<b))
  = (List.range (64 * k)).filter (fun (i:Nat)=>bit ws i&&decide (a≤(i:Int)∧(i:Int)<b))++(bitsOf (ws[k] &&& vX k a b)).map (64 * k+·):=by
 rw [show 64 * (k+1)=64 * k+64 by omega,List.range_add,List.filter_append,List.filter_map]
 congr 2
 unfold bitsOf
 apply List.filter_congr
 intro j hj
 have hj:=List.mem_range.1 hj
 rw [BitVec.getLsbD_and,Qr k a b hj]
 show (bit ws (64 * k+j)&&_)=_
 rw [UC h hj]
 push_cast
 rfl
def setW (ws:List Wd) (a b:Int):List Wd:=ws.mapIdx fun k w=>w ||| vX k a b
theorem VA {ws:List Wd} {a b:Int} {i:Nat} (h:i<64 * ws.length):bit (setW ws a b) i=(bit ws i || decide (a≤(i:Int)∧(i:Int)<b)):=by
 have hk:i / 64<ws.length:=by omega
 have hk2:i / 64<(setW ws a b).length:=by simp [setW,hk]
 rw [FY hk,FY hk2]
 simp only [setW,List.getElem_mapIdx,BitVec.getLsbD_or]
 rw [Qr _ _ _ (Nat.mod_lt _ (by decide))]
 congr 2
 have:(64 * ((i / 64:Nat):Int))+((i % 64:Nat):Int)=(i:Int):=by omega
 rw [this]
def mQ (f:Wd→Wd→Wd) (a b:List Wd):List Wd:=List.zipWith f a b
theorem afW {f:Wd→Wd→Wd} {g:Bool→Bool→Bool} (hf:∀ x y j,j<64→(f x y).getLsbD j=g (x.getLsbD j) (y.getLsbD j)) {a b:List Wd} (hl:a.length=b.length) {i:Nat} (h:i<64 * a.length):bit (mQ f a b) i=g (bit a i) (bit b i):=by
 have hk:i / 64<a.length:=by omega
 have hk1:i / 64<b.length:=by omega
 have hk2:i / 64<(mQ f a b).length:=by simp [mQ];omega
 rw [FY hk,FY hk1,FY hk2]
 simp only [mQ,List.getElem_zipWith]
 rw [hf _ _ _ (Nat.mod_lt _ (by decide))]
def lI (n:Int):Int:=(n+63) / 64
def okB (b:Bm):Bool:=decide (0≤b.size∧b.size≤4096∧(b.ws.length:Int)=lI b.size)&&(List.range (64 * b.ws.length)).all fun (i:Nat)=>decide ((i:Int)<b.size) || !bit b.ws i
theorem kF {b:Bm}:okB b=true ↔ (0≤b.size∧b.size≤4096∧(b.ws.length:Int)=lI b.size)∧∀ i:Nat,b.size≤(i:Int)→bit b.ws i=false:=by
 unfold okB
 simp only [Bool.and_eq_true,decide_eq_true_eq,List.all_eq_true,List.mem_range,Bool.or_eq_true,Bool.not_eq_true']
 refine and_congr Iff.rfl ⟨fun h i hi=>?_,fun h i hi=>?_⟩
 ·by_cases c:i<64 * b.ws.length
  ·exact (h i c).resolve_left (by omega)
  ·exact DZ (by omega)
 ·by_cases c:(i:Int)<b.size
  ·exact .inl c
  ·exact .inr (h i (by omega))
theorem mV {b:Bm} (h:okB b=true):0≤b.size∧b.size≤4096∧b.ws.length≤64∧b.size≤64 * (b.ws.length:Int)∧64 * (b.ws.length:Int)<b.size+64:=by
 have:=(kF.1 h).1
 unfold lI at this
 omega
theorem abZ {b:Bm} (h:0≤b.size∧b.size≤4096∧(b.ws.length:Int)=lI b.size):okB b=true ↔ (b.size % 64=0∨∀ (hw:b.ws.length - 1<b.ws.length),b.ws[b.ws.length - 1] >>> (b.size % 64).toNat=0):=by
 rw [kF]
 unfold lI at h ⊢
 constructor
 ·rintro ⟨_,h2⟩
  by_cases c:b.size % 64=0
  ·exact .inl c
  ·refine .inr fun hw=>?_
   apply BitVec.eq_of_getLsbD_eq
   intro j hj
   rw [BitVec.getLsbD_ushiftRight]
   by_cases cj:(b.size % 64).toNat+j<64
   ·rw [← UC hw cj,h2 _ (by omega)];simp
   ·rw [BitVec.getLsbD_of_ge _ _ (by omega)];simp
 ·intro hr
  refine ⟨by omega,fun i hi=>?_⟩
  by_cases c:i<64 * b.ws.length
  ·have hw:b.ws.length - 1<b.ws.length:=by omega
   have hk:i / 64=b.ws.length - 1:=by omega
   rcases hr with hr|hr
   ·omega
   ·have:=congrArg (fun w:Wd=>w.getLsbD (i % 64 - (b.size % 64).toNat)) (hr hw)
    simp only [BitVec.getLsbD_ushiftRight,BitVec.getLsbD_zero] at this
    rw [show (b.size % 64).toNat+(i % 64 - (b.size % 64).toNat)=i % 64 by omega] at this
    rw [show i=64 * (b.ws.length - 1)+i % 64 by omega,UC hw (Nat.mod_lt _ (by decide))]
    simpa using this
  ·exact DZ (by omega)
def L8 (b:Bm):List eH:=ext (bit b.ws) b.size.toNat
def Ii (b:Bm):Int:=if okB b then 0 else 3
theorem ab4 {b:Bm} (h:okB b=true) (a:Int) (ha:a≤0):vY b.ws a b.size=(List.range b.size.toNat).filter (bit b.ws):=by
 unfold vY
 obtain ⟨h1,h2,h3,h4,h5⟩:=mV h
 rw [show 64 * b.ws.length=b.size.toNat+(64 * b.ws.length - b.size.toNat) by omega,List.range_add,List.filter_append]
 have e:(((List.range (64 * b.ws.length - b.size.toNat)).map (b.size.toNat+·)).filter fun (i:Nat)=>bit b.ws i&&decide (a≤(i:Int)∧(i:Int)<b.size))=[]:=by
  rw [List.filter_eq_nil_iff]
  intro i hi
  obtain ⟨d,_,rfl⟩:=List.mem_map.1 hi
  rw [decide_eq_false (by omega)];simp
 rw [e,List.append_nil]
 apply List.filter_congr
 intro i hi
 have hi:=List.mem_range.1 hi
 rw [decide_eq_true (by omega),Bool.and_true]
end Go.Proofs.YtioijcfcehhmdaaGreatDoor.V

namespace Go.Proofs.YtioijcfcehhmdaaGreatDoor.V
theorem Bz {b:Bm} (h:okB b=true):Ii b=0:=by unfold Ii;rw [if_pos h]
theorem vZ {b:Bm} (h:okB b=false):Ii b=3:=by unfold Ii;rw [if_neg (by rw [h];exact Bool.false_ne_true)]
theorem q64 {n:Int} (h:0≤n):(n+64 - 1).tdiv 64=lI n:=by
 unfold lI;rw [Int.tdiv_eq_ediv_of_nonneg (by omega)];congr 1;omega
theorem z64:((64:Int)=0)=False:=eq_false (by decide)
theorem ab5 {n:Int} (h:0≤n∧n≤4096):cal env 121 [.int .i64 n]=some [(.int .i64 (lI n),false)]:=by
 have W1:IntKind.i64.wrap (n+64)=n+64:=bZ (by omega)
 have W2:IntKind.i64.wrap (n+64 - 1)=n+64 - 1:=bZ (by omega)
 have W3:IntKind.i64.wrap (lI n)=lI n:=bZ (by unfold lI;omega)
 rw [ah aii rfl];simp only [PN];simp only [start,aJ,aT,aH,aS,aA,aB,aI,aO,Nat.reduceAdd,Nat.reduceSub]
 simp only [W1,W2,q64 h.1,W3,z64,bI,reduceCtorEq,Nat.reduceEqDiff,Nat.reduceAdd,Nat.reduceLT,Nat.reduceLeDiff,Nat.beq]
theorem Qs {b:Bm}:cal env 90 [jQ b]=some [(.int .i64 (Ii b),false)]:=by
 unfold jQ
 have P:∀ x y:PV,part [x,y] 0 (some 2)=some (.agg [x,y]):=fun _ _=>rfl
 by_cases c0:b.size<0
 ·have hE:Ii b=3:=vZ (by rw [Bool.eq_false_iff];intro h;have:=mV h;omega)
  rw [hE]
  rw [ah Jt rfl];simp only [Ih];simp only [start,aJ,aT,aH,aS,aA,aB,aI,aO,Nat.reduceAdd,Nat.reduceSub]
  simp only [c0,P,bI,reduceCtorEq,Nat.reduceEqDiff,Nat.reduceAdd,Nat.reduceLT,Nat.reduceLeDiff,Nat.beq]
 ·by_cases c1:b.size > 4096
  ·have hE:Ii b=3:=vZ (by rw [Bool.eq_false_iff];intro h;have:=mV h;omega)
   rw [hE]
   have F1:(b.size > 4096)=True:=eq_true c1
   rw [ah Jt rfl];simp only [Ih];simp only [start,aJ,aT,aH,aS,aA,aB,aI,aO,Nat.reduceAdd,Nat.reduceSub]
   simp only [c0,F1,P,bI,reduceCtorEq,Nat.reduceEqDiff,Nat.reduceAdd,Nat.reduceLT,Nat.reduceLeDiff,Nat.beq]
  ·have F1:(b.size > 4096)=False:=eq_false c1
   have e1:=ab5 (n:=b.size) (by omega)
   by_cases c2:(b.ws.length:Int)=lI b.size
   ·have F2:((b.ws.length:Int) != lI b.size)=false:=by simp [c2]
    have hr:=abZ (b:=b) ⟨by omega,by omega,c2⟩
    have hw:=c2
    unfold lI at hw
    have M:b.size.tmod 64=b.size % 64:=Int.tmod_eq_emod_of_nonneg (by omega)
    by_cases c3:b.size % 64=0
    ·have hE:Ii b=0:=Bz (hr.2 (.inl c3))
     rw [hE]
     have F3:(b.size % 64 > 0)=False:=eq_false (by omega)
     rw [ah Jt rfl];simp only [Ih];simp only [start,aJ,aT,aH,aS,aA,aB,aI,aO,Nat.reduceAdd,Nat.reduceSub]
     simp only [c0,F1,F2,F3,M,e1,z64,P,bI,reduceCtorEq,Nat.reduceEqDiff,Nat.reduceAdd,Nat.reduceLT,Nat.reduceLeDiff,Nat.beq]
    ·have F3:(b.size % 64 > 0)=True:=eq_true (by omega)
     have hi:b.ws.length - 1<b.ws.length:=by omega
     have W:IntKind.i64.wrap ((b.ws.length:Int) - 1)=((b.ws.length - 1:Nat):Int):=by rw [bZ (by omega)];omega
     have S0:(b.size % 64<0)=False:=eq_false (by omega)
     have S:=ag8 b.ws[b.ws.length - 1] (s:=b.size % 64) (n:=(b.size % 64).toNat) (by omega)
     have B:=ag9 (b.ws[b.ws.length - 1] >>> (b.size % 64).toNat) 0
     have B0:((0:Wd).toNat:Int)=0:=rfl
     rw [B0] at B
     have B':(((b.ws[b.ws.length - 1] >>> (b.size % 64).toNat).toNat:Int) != 0)=!decide (b.ws[b.ws.length - 1] >>> (b.size % 64).toNat=0):=by unfold bne;rw [B]
     by_cases c4:b.ws[b.ws.length - 1] >>> (b.size % 64).toNat=0
     ·have hE:Ii b=0:=Bz (hr.2 (.inr fun _=>c4))
      rw [hE]
      rw [decide_eq_true c4] at B'
      rw [ah Jt rfl];simp only [Ih];simp only [start,aJ,aT,aH,aS,aA,aB,aI,aO,Nat.reduceAdd,Nat.reduceSub]
      simp only [c0,F1,F2,F3,M,e1,z64,P,W,S0,S,B',ay hi,eW,List.getElem?_map,List.getElem?_eq_getElem hi,bI,reduceCtorEq,Nat.reduceEqDiff,Nat.reduceAdd,Nat.reduceLT,Nat.reduceLeDiff,Nat.beq]
     ·have hE:Ii b=3:=vZ (by
       rw [Bool.eq_false_iff];intro h
       rcases hr.1 h with h|h
       ·exact c3 h
       ·exact c4 (h hi))
      rw [hE]
      rw [decide_eq_false c4] at B'
      rw [ah Jt rfl];simp only [Ih];simp only [start,aJ,aT,aH,aS,aA,aB,aI,aO,Nat.reduceAdd,Nat.reduceSub]
      simp only [c0,F1,F2,F3,M,e1,z64,P,W,S0,S,B',ay hi,eW,List.getElem?_map,List.getElem?_eq_getElem hi,bI,reduceCtorEq,Nat.reduceEqDiff,Nat.reduceAdd,Nat.reduceLT,Nat.reduceLeDiff,Nat.beq]
   ·have F2:((b.ws.length:Int) != lI b.size)=true:=by simp [c2]
    have hE:Ii b=3:=vZ (by rw [Bool.eq_false_iff];intro h;exact c2 (kF.1 h).1.2.2)
    rw [hE]
    rw [ah Jt rfl];simp only [Ih];simp only [start,aJ,aT,aH,aS,aA,aB,aI,aO,Nat.reduceAdd,Nat.reduceSub]
    simp only [c0,F1,F2,e1,P,bI,reduceCtorEq,Nat.reduceEqDiff,Nat.reduceAdd,Nat.reduceLT,Nat.reduceLeDiff,Nat.beq]
theorem ab6 {k:Nat} {a b:Int} (hk:k≤100000) (ha:-1000000≤a∧a≤1000000) (hb':-1000000≤b∧b≤1000000):cal env 147 [.int .i64 (k:Nat),.int .i64 a,.int .i64 b]=some [(eW (vX k a b),false)]:=by
 have W0:IntKind.i64.wrap ((k:Int) * 64)=64 * (k:Int):=by rw [bZ (by omega)];omega
 have W1:IntKind.i64.wrap (a - 64 * (k:Int))=a - 64 * (k:Int):=bZ (by omega)
 have W2:IntKind.i64.wrap (b - 64 * (k:Int))=b - 64 * (k:Int):=bZ (by omega)
 have X1:(if a - 64 * (k:Int)<0 then 0 else a - 64 * (k:Int))=max (a - 64 * (k:Int)) 0:=by split<;>omega
 have X2:(if 64<b - 64 * (k:Int) then 64 else b - 64 * (k:Int))=min (b - 64 * (k:Int)) 64:=by split<;>omega
 unfold vX eW
 generalize hf:max (a - 64 * (k:Int)) 0=f at X1 ⊢
 generalize ht:min (b - 64 * (k:Int)) 64=t at X2 ⊢
 by_cases c:f ≥ t
 ·have F1:(f ≥ t)=True:=eq_true c
  rw [if_pos c]
  have B0:((0:Wd).toNat:Int)=0:=rfl
  rw [B0]
  rw [ah abK rfl];simp only [Js];simp only [start,aJ,aT,aH,aS,aA,aB,aI,aO,Nat.reduceAdd,Nat.reduceSub]
  simp only [W0,W1,W2,X1,X2,F1,bI,reduceCtorEq,Nat.reduceEqDiff,Nat.reduceAdd,Nat.reduceLT,Nat.reduceLeDiff,Nat.beq]
 ·have F1:(f ≥ t)=False:=eq_false c
  rw [if_neg c]
  have W3:IntKind.i64.wrap (t - f)=t - f:=bZ (by omega)
  have W4:IntKind.i64.wrap (64 - (t - f))=64 - (t - f):=bZ (by omega)
  have A:(18446744073709551615:Int)=((BitVec.allOnes 64).toNat:Int):=rfl
  have S0:(64 - (t - f)<0)=False:=eq_false (by omega)
  have S1:(f<0)=False:=eq_false (by omega)
  have S2:=ag8 (BitVec.allOnes 64) (s:=64 - (t - f)) (n:=(64 - (t - f)).toNat) (by omega)
  have S3:=alg (BitVec.allOnes 64 >>> (64 - (t - f)).toNat) (s:=f) (n:=f.toNat) (by omega)
  rw [← A] at S2
  rw [ah abK rfl];simp only [Js];simp only [start,aJ,aT,aH,aS,aA,aB,aI,aO,Nat.reduceAdd,Nat.reduceSub]
  simp only [W0,W1,W2,W3,W4,X1,X2,F1,S0,S1,S2,S3,bI,reduceCtorEq,Nat.reduceEqDiff,Nat.reduceAdd,Nat.reduceLT,Nat.reduceLeDiff,Nat.beq]
end Go.Proofs.YtioijcfcehhmdaaGreatDoor.V
