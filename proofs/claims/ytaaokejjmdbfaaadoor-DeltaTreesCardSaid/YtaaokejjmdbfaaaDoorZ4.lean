/-
  Part 4 of the texts that the statement stands on.
-/
import Derived.Test.YtaaokejjmdbfaaaDoorZ3
import Derived.IntWalk
import Derived.Shelf.Lays7
import Derived.Ground.Names7Prog
import Derived.Test.YtaaokejjmdbfaaaDoorProg
import Derived.Shelf.Spec.TrailingZeros
import Derived.Sort.Defs
import Derived.Lib.BitFns
import Derived.Lib.TrailingZeros
set_option linter.all false
namespace Go.Proofs.YtaaokejjmdbfaaaDoor
def dO {α:Type} (b:Bool) (x y:α):α:=match b with
 |true=>x
 |false=>y
section
variable {env:Env} {α β:Type}
theorem PW (x y:α):dO true x y=x:=(rfl)
theorem Ah (x y:α):dO false x y=y:=(rfl)
theorem kH (b:Bool) (x y:Option α) (f:α→Option β):(dO b x y).bind f=dO b (x.bind f) (y.bind f):=by cases b<;>rfl
theorem l9 (b:Bool) (x y:Option α) (f:α→β):(dO b x y).map f=dO b (x.map f) (y.map f):=by cases b<;>rfl
theorem Gi (b:Bool) (x y:α):dO (!b) x y=dO b y x:=by cases b<;>rfl
theorem U4 {γ:Type} [BEq γ] (a b:γ) (x y:α):dO (a != b) x y=dO (a==b) y x:=by unfold bne;rw [Gi]
theorem ahS (b:Bool):(b==true)=b:=by cases b<;>rfl
theorem ahT (b:Bool):(b==false)=!b:=by cases b<;>rfl
theorem jE {b:Bool} {x y r:α} (h1:b=true→x=r) (h0:b=false→y=r):dO b x y=r:=by
 cases b
 ·exact h0 rfl
 ·exact h1 rfl
noncomputable def CX (env:Env) (l:List gq) (st:St):Option St:=ops (den env) env l st
noncomputable def rF (env:Env) (o:gq) (st:St):Option St:=op (den env) env o st
noncomputable def next (env:Env) (b:ak):Ex × St→Option (Ex × St)
 |(.normal,st)=>den env b st
 |r=>some r
def endBlock (id:Nat):Ex × St→Ex × St
 |(.normal,st)=>(.normal,st)
 |(.exit j,st)=>(dO (Nat.beq j id) .normal (.exit j),st)
 |(.ret,st)=>(.ret,st)
 |(.nS t n,st)=>(.nS t n,st)
def lI (post:List Nat) (nb:Nat) (p:Ex × St):Option (Ex × St):=(p.2.head post nb).map fun st=>(p.1,st)
def fin (rs:List qP):Ex × St→Option (List oJ)
 |(.exit _,_)=>none
 |(.nS _ _,_)=>none
 |(_,st)=>fE st rs
def start (n:Nat) (args:List PV):St:=⟨args.map .pv++List.replicate (n - args.length) .any,[],[],none⟩
theorem bV (st:St):den env .skip st=some (.normal,st):=by rw [kG];rfl
theorem ab8 (l:List gq) (st:St):den env (.ops l) st=(CX env l st).map fun st=>(.normal,st):=by rw [kG];rfl
theorem ab9 (z a f q) (l:List gq) (st:St):den env (.uT z a f q l) st=(CX env l (z.foldl St.iw st)).map fun st=>(.normal,st):=by rw [kG];rfl
noncomputable def aeE (env:Env) (keep:List Nat) (vo:List gq) (st:St) (l:List gG):Option St:=jY (den env) env keep vo st l
noncomputable def acd (env:Env) (keep:List Nat) (vo:List gq) (st:St) (x:gG):Option St:=lg (den env) env keep vo st x
noncomputable def CY (env:Env) (keep:List Nat) (vo:List gq) (st s:St) (l:List gG):Option St:=agree s (l.map (lg (den env) env keep vo st))
def sameAs (s s':St) (r:Option St):Option St:=if s'.same s then r else none
theorem ace (z k vo l) (st:St):den env (.drs z k vo l) st=(aeE env k vo (z.foldl St.iw st) l).map fun st=>(.normal,st):=by rw [kG];rfl
theorem PX (k vo) (st:St) (x:gG) (l:List gG):aeE env k vo st (x :: l)=(acd env k vo st x).bind fun s=>CY env k vo st s l:=(rfl)
theorem PY (k vo) (st s:St):CY env k vo st s []=some s:=(rfl)
theorem L8 (k vo) (st s:St) (x:gG) (l:List gG):CY env k vo st s (x :: l)=(acd env k vo st x).bind fun s'=>sameAs s s' (CY env k vo st s l):=by
 show (lg (den env) env k vo st x).bind _=_
 unfold acd CY sameAs
 congr 1
theorem L9 (s:St) (r:Option St):sameAs s s r=r:=by
 show (if s.same s then r else none)=r
 rw [St.iO];rfl
theorem acf (k vo) (st:St) (a f q o w):acd env k vo st ⟨a,f,q,o,w⟩=(CX env (bH vo o) st).bind (kZ k st.boxes.length w):=(rfl)
theorem IC (k:List Nat) (nb:Nat) (s:St):kZ k nb false s=s.head k s.boxes.length:=by
 unfold kZ
 cases s.head k s.boxes.length<;>rfl
theorem Mc (k:List Nat) (nb:Nat) (s:St):kZ k nb true s=(s.head k s.boxes.length).bind fun s=>s.swap2 nb:=(rfl)
theorem U5 (vo:List gq):bH vo []=[]:=(rfl)
theorem U6 (vo:List gq) (i:Nat) (l:List Nat):bH vo (i :: l)=vo.getD i default :: bH vo l:=(rfl)
theorem acg (a b:ak) (st:St):den env (.seq a b) st=(den env a st).bind (next env b):=by
 rw [kG]
 show (den env a st).bind _=_
 congr 1
 funext ⟨e,st⟩
 cases e<;>rfl
theorem Yz (c:bI) (a b:ak) (st:St):den env (.cond c a b) st=(match st.dG c with
  |some (.bool t)=>dO t (den env a st) (den env b st)
  |_=>none):=by
 rw [kG]
 show (st.dG c).bind _=_
 cases st.dG c with
 |none=>rfl
 |some v =>
  cases v<;>try rfl
  rename_i t
  cases t<;>rfl
theorem Gj (i:Nat) (a:ak) (st:St):den env (.block i a) st=(den env a st).map (endBlock i):=by
 rw [kG]
 show (den env a st).bind _=_
 cases den env a st with
 |none=>rfl
 |some r =>
  obtain ⟨e,st⟩:=r
  cases e with
  |normal=>rfl
  |ret=>rfl
  |nS t n=>rfl
  |exit j =>
   show some (_,_)=some (_,_)
   by_cases h:j=i
   ·subst h;simp [dO]
   ·have:Nat.beq j i=false:=by cases e:Nat.beq j i with
    |false=>rfl
    |true=>exact absurd (Nat.eq_of_beq_eq_true e) h
    simp [dO,h,this]
theorem YA (keep:List Nat) (a:ak) (st:St):den env (.loop keep a) st=den env (.round keep st.boxes.length a) st:=by rw [kG];rfl
theorem Gl (keep:List Nat) (nb:Nat) (a:ak) (st:St):den env (.round keep nb a) st=(st.head keep nb).bind fun st=>(den env a st).bind (next env (.round keep nb a)):=by
 rw [kG]
 show (st.head keep nb).bind _=_
 congr 1
 funext st
 show (den env a st).bind _=_
 congr 1
 funext ⟨e,st⟩
 cases e<;>rfl
theorem U7 (pre post:List Nat) (a:ak) (st:St):den env (.clean pre post a) st=(st.head pre st.boxes.length).bind fun s=>(den env a s).bind (lI post st.boxes.length):=by
 rw [kG]
 show (st.head pre _).bind _=_
 congr 1
 funext s
 show (den env a s).bind _=_
 congr 1
 funext ⟨e,s⟩
 show (s.head post _).bind _=(s.head post _).map _
 cases s.head post st.boxes.length<;>rfl
theorem YB (i:Nat) (st:St):den env (.exit i) st=some (.exit i,st):=by rw [kG];rfl
theorem ach (st:St):den env .ret st=some (.ret,st):=by rw [kG];rfl
theorem Md (b:ak) (st:St):next env b (.normal,st)=den env b st:=(rfl)
theorem U8 (b:ak) (i:Nat) (st:St):next env b (.exit i,st)=some (.exit i,st):=(rfl)
theorem YC (b:ak) (st:St):next env b (.ret,st)=some (.ret,st):=(rfl)
theorem YD (b:ak) (t:Nat) (n:Int) (st:St):next env b (.nS t n,st)=some (.nS t n,st):=(rfl)
theorem IE (i t:Nat) (n:Int) (st:St):endBlock i (.nS t n,st)=(.nS t n,st):=(rfl)
noncomputable def thrown (env:Env) (f:Nat) (args:List PV):Option (Option (Nat × Int)):=EH (den env) env f args
def aft:Ex × St→Option (Option (Nat × Int))
 |(.exit _,_)=>none
 |(.nS t n,_)=>some (some (t,n))
 |_=>some none
theorem Me (st:St):aft (.normal,st)=some none:=(rfl)
theorem YE (st:St):aft (.ret,st)=some none:=(rfl)
theorem YF (t:Nat) (n:Int) (st:St):aft (.nS t n,st)=some (some (t,n)):=(rfl)
noncomputable def PZ (env:Env) (d f:Nat) (args:List bI) (st:St):Option (Nat × Int)→Option (Ex × St)
 |some (t,n)=>some (.nS t n,st)
 |none=>(CX env [.call d f args] st).map fun st=>(.normal,st)
theorem MB (d f:Nat) (args:List bI) (st:St) (t:Nat) (n:Int):PZ env d f args st (some (t,n))=some (.nS t n,st):=(rfl)
theorem MC (d f:Nat) (args:List bI) (st:St):PZ env d f args st none=(CX env [.call d f args] st).map fun st=>(.normal,st):=(rfl)
theorem aci (l:List gq) (d f:Nat) (args:List bI) (st:St):den env (.dem l d f args) st=(CX env l st).bind fun st1=>(args.mapM st1.dG).bind fun vs=>(thrown env f vs).bind (PZ env d f args st1):=by
 rw [kG]
 show (CX env l st).bind _=_
 congr 1
 funext st1
 show (args.mapM st1.dG).bind _=_
 congr 1
 funext vs
 show (thrown env f vs).bind _=_
 congr 1
 funext r
 cases r with
 |some p=>rfl
 |none =>
  show (act (den env) env (.call d f args) st1).map _=((act (den env) env (.call d f args) st1).bind (ops (den env) env [])).map _
  cases act (den env) env (.call d f args) st1<;>rfl
theorem AX (i:Nat) (st:St):endBlock i (.normal,st)=(.normal,st):=(rfl)
theorem IG (i:Nat) (st:St):endBlock i (.ret,st)=(.ret,st):=(rfl)
theorem EX (i j:Nat) (st:St):endBlock i (.exit j,st)=(dO (Nat.beq j i) .normal (.exit j),st):=(rfl)
theorem P7 (rs:List qP) (st:St):fin rs (.normal,st)=fE st rs:=(rfl)
theorem acj (rs:List qP) (st:St):fin rs (.ret,st)=fE st rs:=(rfl)
theorem au {f:Nat} {fn:jd} {args:List PV} (h:env f=some (.code fn)) (hl:args.length=fn.nargs):cal env f args=(den env fn.body (start fn.ntmps args)).bind (Go.Proofs.YtaaokejjmdbfaaaDoor.fin fn.results):=by
 unfold cal jJ
 rw [h]
 simp only [if_pos hl]
 show (den env fn.body _).bind _=_
 congr 1
 funext ⟨e,st⟩
 cases e<;>rfl
def YG (n:Nat) (x:ku) (args:List PV):St:=⟨x.av :: (args.map .pv++List.replicate (n - (args.length+1)) .any),x.boxes,[],none⟩
def ahU (x:ku) (rs:List qP):Ex × St→Option (List oJ × Option (List PV))
 |(.exit _,_)=>none
 |(.nS _ _,_)=>none
 |(_,st)=>jw x st rs
theorem MF (x:ku) (rs:List qP) (st:St):ahU x rs (.normal,st)=jw x st rs:=(rfl)
theorem YH (x:ku) (rs:List qP) (st:St):ahU x rs (.ret,st)=jw x st rs:=(rfl)
theorem P8 (sz:Nat) (es:List PV) (st:St) (rs:List qP):jw (.row sz es) st rs=(fE st rs).map fun l=>(l,none):=(rfl)
theorem P9 (l:List AV) (st:St) (rs:List qP):jw (.own l) st rs=(fE st rs).map fun l=>(l,none):=(rfl)
theorem Qc (cs:List PV) (st:St) (rs:List qP):jw (.box cs) st rs=(match (st.bf 0).boxes[0]? with
  |some b=>dO b.fz none ((resultList (st.bf 0) rs).map fun l=>(l,some (b.cs.map BV.val)))
  |none=>none):=by
 show (match (st.bf 0).boxes[0]? with
  |some b=>if b.fz then none else (resultList (st.bf 0) rs).map fun l=>(l,some (b.cs.map BV.val))
  |none=>none)=_
 split
 ·rename_i b _
  cases b.fz<;>rfl
 ·rfl
theorem acn (sz:Nat) (es:List PV):(ku.row sz es).av=.row sz es:=(rfl)
theorem aco (l:List AV):(ku.own l).av=.jO true l:=(rfl)
theorem acp (cs:List PV):(ku.box cs).av=.aA 0 0:=(rfl)
theorem acr (sz:Nat) (es:List PV):(ku.row sz es).boxes=[]:=(rfl)
theorem acs (l:List AV):(ku.own l).boxes=[]:=(rfl)
theorem acu (cs:List PV):(ku.box cs).boxes=[⟨false,cs.map .pv⟩]:=(rfl)
theorem II {f:Nat} {g:List PV→Option (List oJ)} {args:List PV} (h:env f=some (.ext g)):cal env f args=g args:=by
 unfold cal jJ
 rw [h]
theorem MG {keep post:List Nat} {id:Nat} {b:ak} {st S0:St} {R:Option (Ex × St)} (h:st.head keep st.boxes.length=some S0) (h2:S0.head keep S0.boxes.length=some S0)
  (key:∀ rb,rb=ak.round keep S0.boxes.length b→(((den env b S0).bind (next env rb)).map (endBlock id)).bind (lI post st.boxes.length)=R):den env (.clean keep post (.block id (.loop keep b))) st=R:=by
 rw [U7,h,Option.bind_some,Gj,YA,Gl,h2,Option.bind_some]
 exact key _ rfl
theorem YI {keep:List Nat} {nb:Nat} {b rb:ak} {st S1:St} (hrb:rb=.round keep nb b) (h:st.head keep nb=some S1):den env rb st=(den env b S1).bind (next env rb):=by
 rw [hrb,Gl,h,Option.bind_some]
noncomputable def iq (env:Env) (id:Nat) (post:List Nat) (nb:Nat) (x:Option (Ex × St)):Option (Ex × St):=(x.map (endBlock id)).bind (lI post nb)
theorem vI {β:Type} {keep post:List Nat} {id nb:Nat} {b:ak} (S:β→St) (R:β→Option (Ex × St)) (P:β→Prop) (μ:β→Nat) (x0:β) {st:St} (h:st.head keep st.boxes.length=some (S x0)) (hP:P x0)
  (hS:∀ x,(S x).boxes.length=nb) (hh:∀ x,(S x).head keep nb=some (S x))
  (step:∀ x rb,P x→(∀ y,μ y<μ x→P y→∀ s,s.head keep nb=some (S y)→iq env id post nb (den env rb s)=R y)→iq env id post nb ((den env b (S x)).bind (next env rb))=R x) :
  den env (.clean keep post (.block id (.loop keep b))) st=R x0:=by
 have hb:st.boxes.length=nb:=by rw [← (vH h).1];exact hS x0
 refine MG h (by rw [hS];exact hh x0) ?_
 intro rb hrb
 rw [hS] at hrb
 rw [hb]
 have key:∀ (k:Nat) (x:β),μ x<k→P x→iq env id post nb ((den env b (S x)).bind (next env rb))=R x:=by
  intro k
  induction k with
  |zero=>intro x hx;omega
  |succ k ih =>
   intro x hx hPx
   refine step x rb hPx fun y hy hPy s hs=>?_
   rw [YI hrb hs]
   exact ih y (by omega) hPy
 exact key (μ x0+1) x0 (by omega) hP
theorem bJ {keep post:List Nat} {id nb:Nat} {b:ak} (n:Nat) (S:Nat→St) (R:Nat→Option (Ex × St)) {st:St} (h:st.head keep st.boxes.length=some (S 0)) (hS:∀ i,(S i).boxes.length=nb) (hh:∀ i,(S i).head keep nb=some (S i))
  (step:∀ i rb,i<n→(∀ s,s.head keep nb=some (S (i+1))→iq env id post nb (den env rb s)=R (i+1))→iq env id post nb ((den env b (S i)).bind (next env rb))=R i)
  (last:∀ rb,iq env id post nb ((den env b (S n)).bind (next env rb))=R n) :
  den env (.clean keep post (.block id (.loop keep b))) st=R 0:=by
 refine vI S R (fun i=>i≤n) (fun i=>n - i) 0 h (Nat.zero_le _) hS hh fun i rb hi ih=>?_
 by_cases hn:i=n
 ·subst hn;exact last rb
 ·exact step i rb (by omega) fun s hs=>ih (i+1) (by omega) (by omega) s hs
theorem MH {id nb:Nat} {post:List Nat} (st:St):iq env id post nb (some (.normal,st))=lI post nb (.normal,st):=(rfl)
theorem YJ {id nb:Nat} {post:List Nat} (t:Nat) (n:Int) (st:St):iq env id post nb (some (.nS t n,st))=lI post nb (.nS t n,st):=(rfl)
theorem YK {id nb:Nat} {post:List Nat} (st:St):iq env id post nb (some (.ret,st))=lI post nb (.ret,st):=(rfl)
theorem U9 {id j nb:Nat} {post:List Nat} (st:St):iq env id post nb (some (.exit j,st))=lI post nb (dO (Nat.beq j id) .normal (.exit j),st):=(rfl)
theorem kJ {id nb:Nat} {post:List Nat} (b:Bool) (x y:Option (Ex × St)):iq env id post nb (dO b x y)=dO b (iq env id post nb x) (iq env id post nb y):=by cases b<;>rfl
theorem MI (a:α) (f:α→Option β):(some a).bind f=f a:=(rfl)
theorem MJ (f:α→Option β):(none:Option α).bind f=none:=(rfl)
theorem Qd (a:α) (f:α→β):(some a).map f=some (f a):=(rfl)
theorem Qe (f:α→β):(none:Option α).map f=none:=(rfl)
theorem Qg (x y:α):(if True then x else y)=x:=(rfl)
theorem MK (x y:α):(if False then x else y)=y:=(rfl)
theorem Gm {γ δ:Type} (x:Option γ) (f:γ→Option δ):(x >>= f)=x.bind f:=(rfl)
theorem afu {γ:Type} (x:γ):(pure x:Option γ)=some x:=(rfl)
theorem aN {γ:Type} (a:γ) (l:List γ):(a :: l).length=l.length+1:=(rfl)
theorem aW {γ:Type}:([]:List γ).length=0:=(rfl)
theorem aT {γ:Type} (l:List γ):[]++l=l:=(rfl)
theorem aO {γ:Type} (a:γ) (l m:List γ):(a :: l)++m=a :: (l++m):=(rfl)
theorem ML {γ:Type} (a:γ) (l:List γ) (n:Nat):(a :: l).take (n+1)=a :: l.take n:=(rfl)
theorem Ai {γ:Type} (l:List γ):l.take 0=[]:=(rfl)
theorem MN {γ:Type} (a:γ) (l:List γ) (n:Nat):(a :: l).drop (n+1)=l.drop n:=(rfl)
theorem MO {γ:Type} (l:List γ):l.drop 0=l:=(rfl)
theorem Qh {γ:Type} (a:γ) (l:List γ):(a :: l)[0]?=some a:=(rfl)
theorem Qi {γ:Type} (a:γ) (l:List γ) (n:Nat):(a :: l)[n+1]?=l[n]?:=(rfl)
theorem acv {γ:Type} (a0 a1 a2 a3 a4 a5 a6 a7:γ) (l:List γ) (n:Nat):(a0 :: a1 :: a2 :: a3 :: a4 :: a5 :: a6 :: a7 :: l)[n+8]?=l[n]?:=(rfl)
theorem MP {γ:Type} (a:γ) (l:List γ) (d:γ):(a :: l).getD 0 d=a:=(rfl)
theorem MQ {γ:Type} (a:γ) (l:List γ) (n:Nat) (d:γ):(a :: l).getD (n+1) d=l.getD n d:=(rfl)
theorem YL {γ:Type} (a0 a1 a2 a3 a4 a5 a6 a7:γ) (l:List γ) (n:Nat) (d:γ):(a0 :: a1 :: a2 :: a3 :: a4 :: a5 :: a6 :: a7 :: l).getD (n+8) d=l.getD n d:=(rfl)
theorem Qj {γ:Type} (a x:γ) (l:List γ):(a :: l).set 0 x=x :: l:=(rfl)
theorem Qk {γ:Type} (a x:γ) (l:List γ) (n:Nat):(a :: l).set (n+1) x=a :: l.set n x:=(rfl)
theorem acw {γ:Type} (a0 a1 a2 a3 a4 a5 a6 a7 x:γ) (l:List γ) (n:Nat):(a0 :: a1 :: a2 :: a3 :: a4 :: a5 :: a6 :: a7 :: l).set (n+8) x=a0 :: a1 :: a2 :: a3 :: a4 :: a5 :: a6 :: a7 :: l.set n x:=(rfl)
theorem Ql {γ δ:Type} (f:γ→Option δ):([]:List γ).mapM f=some []:=(rfl)
theorem Qm {γ:Type} (a:γ) (l:List γ) (p:γ→Bool):(a :: l).any p=(p a || l.any p):=(rfl)
theorem Va {γ:Type} (p:γ→Bool):([]:List γ).any p=false:=(rfl)
theorem Qn {γ:Type} (a:γ) (l:List γ) (p:γ→Bool):(a :: l).all p=(p a&&l.all p):=(rfl)
theorem Vb {γ:Type} (p:γ→Bool):([]:List γ).all p=true:=(rfl)
theorem IJ {γ δ:Type} (f:δ→γ→δ) (b:δ) (a:γ) (l:List γ):(a :: l).foldl f b=l.foldl f (f b a):=(rfl)
theorem MR {γ δ:Type} (f:δ→γ→δ) (b:δ):([]:List γ).foldl f b=b:=(rfl)
theorem aP {γ δ:Type} (f:γ→δ) (a:γ) (l:List γ):(a :: l).map f=f a :: l.map f:=(rfl)
theorem aX {γ δ:Type} (f:γ→δ):([]:List γ).map f=[]:=(rfl)
theorem aI {γ:Type} (a:γ):List.replicate 0 a=[]:=(rfl)
theorem aJ {γ:Type} (a:γ) (n:Nat):List.replicate (n+1) a=a :: List.replicate n a:=(rfl)
theorem YM (st:St):CX env [] st=some st:=(rfl)
theorem Vd (o:gq) (l:List gq) (st:St):CX env (o :: l) st=(rF env o st).bind (CX env l):=(rfl)
theorem acy {g:Nat} {w:Bool} {o:gq} (st:St):rF env (.grd g w o) st=(match st.slots.getD g .any with
  |.pv (.bool b)=>dO (b==w) (op1 (den env) env o st) (match cO o with
   |some d=>some (st.put d (.jO false []))
   |none=>some st)
  |.jO _ l=>dO l.isEmpty (match cO o with
   |some d=>some (st.put d (.jO false []))
   |none=>some st) none
  |_=>none):=by
 unfold rF op
 simp only
 generalize st.slots.getD g .any=v
 cases v with
 |pv p =>
  cases p with
  |bool b=>cases b<;>cases w<;>rfl
  |_=>rfl
 |jO k l=>cases l<;>rfl
 |_=>rfl
theorem YN {d c x y} (st:St):rF env (.pick d c x y) st=(match st.dG c with
  |some (.bool b)=>dO b ((st.dG x).map fun v=>st.put d (.pv v)) ((st.dG y).map fun v=>st.put d (.pv v))
  |_=>none):=by
 show (st.dG c).bind _=_
 cases st.dG c with
 |none=>rfl
 |some v =>
  cases v<;>try rfl
  rename_i t
  cases t
  ·show (st.dG y).bind _=Option.map _ (st.dG y)
   cases st.dG y<;>rfl
  ·show (st.dG x).bind _=Option.map _ (st.dG x)
   cases st.dG x<;>rfl
def mg (d:Nat) (args:List bI) (caps:List AV) (st:St) (fl:Bool) (rs:List oJ):Option St :=
 some ((dO (fl&&!(rs.all (·.1.scalar))) (caps.foldl (fun s v=>s.bg (.c .void) v) (args.foldl St.bT st)) st).layAll d rs)
theorem AY (d:Nat) (args:List bI) (caps:List AV) (st:St) (rs:List oJ):mg d args caps st false rs=some (st.layAll d rs):=by
 simp only [mg,Bool.false_and,Ah]
theorem CZ (d:Nat) (args:List bI) (caps:List AV) (st:St) (r:oJ) (rs:List oJ):mg d args caps st true (r :: rs)=dO ((r :: rs).all (·.1.scalar)) (some (st.layAll d (r :: rs))) (some ((caps.foldl (fun s v=>s.bg (.c .void) v) (args.foldl St.bT st)).layAll d (r :: rs))):=by
 unfold mg
 rw [Bool.true_and]
 cases h:(r :: rs).all (·.1.scalar)<;>rfl
noncomputable def dcall (env:Env) (d f:Nat) (args:List bI) (caps:List AV) (st:St):Option St :=
 (args.mapM fun x=>st.jh (st.get x)).bind fun l=>(caps.mapM st.snap).bind fun k=>(cal env f (l.map (·.1)++k.map (·.1))).bind (mg d args caps st (l.any (·.2) || k.any (·.2)))
noncomputable def zD (env:Env) (d f:Nat) (args:List bI) (caps:List PV) (st:St):Option St :=
 (args.mapM fun x=>st.jh (st.get x)).bind fun l=>(cal env f (l.map (·.1)++caps)).bind (mg d args [] st (l.any (·.2)))
theorem C9 (st:St):∀ caps:List PV,(caps.map AV.pv).mapM st.snap=some (caps.map fun v=>(v,false))
 |[]=>rfl
 |c :: l=>by
  rw [List.map_cons,List.mapM_cons,C9 st l]
  rfl
theorem Gn (st:St):∀ caps:List PV,(caps.map AV.pv).foldl (fun s v=>s.bg (.c .void) v) st=st
 |[]=>rfl
 |c :: l=>Gn st l
theorem Dc (d f:Nat) (args:List bI) (caps:List AV) (st:St):ji (den env) env d f args caps st=dcall env d f args caps st:=by
 unfold ji dcall
 show Option.bind _ _=Option.bind _ _
 congr 1;funext l
 show Option.bind _ _=Option.bind _ _
 congr 1;funext k
 show Option.bind _ _=Option.bind _ _
 congr 1;funext rs
 show some _=some _
 congr 2
 cases h:(l.any (·.2) || k.any (·.2))&&!(rs.all (·.1.scalar))<;>rfl
theorem zF (d f:Nat) (args:List bI) (caps:List PV) (st:St):dcall env d f args (caps.map .pv) st=zD env d f args caps st:=by
 unfold zD dcall
 congr 1;funext l
 rw [C9,Option.bind_some,List.map_map,List.any_map]
 have h1:(Prod.fst ∘ fun v:PV=>(v,false))=id:=rfl
 have h2:caps.any (Prod.snd ∘ fun v:PV=>(v,false))=false:=by
  induction caps with
  |nil=>rfl
  |cons c cs ih=>simp [List.any_cons,ih]
 rw [h1,List.map_id,h2,Bool.or_false]
 congr 1;funext rs
 unfold mg
 rw [Gn]
 rfl
theorem YO {d f args} (st:St):rF env (.call d f args) st=zD env d f args [] st:=(Dc ..).trans (zF (caps:=[]) ..)
theorem YP {d f args} (st:St):op1 (den env) env (.call d f args) st=zD env d f args [] st:=(Dc ..).trans (zF (caps:=[]) ..)
noncomputable def Gp (env:Env) (d f:Nat) (x:bI) (args:List bI) (caps:List AV) (st:St):Option St :=
 (args.mapM fun x=>st.jh (st.get x)).bind fun l=>(caps.mapM st.snap).bind fun k=>(dO (l.any (·.2) || k.any (·.2)) none (rH st x)).bind fun q=>(ahR env f q.1 (l.map (·.1)++k.map (·.1))).bind fun r=>(mQ q.2.2 q.2.1 r.2).bind fun st2=>some (st2.layAll d r.1)
noncomputable def IK (env:Env) (d f:Nat) (x:bI) (args:List bI) (caps:List PV) (st:St):Option St :=
 (args.mapM fun x=>st.jh (st.get x)).bind fun l=>(dO (l.any (·.2)) none (rH st x)).bind fun q=>(ahR env f q.1 (l.map (·.1)++caps)).bind fun r=>(mQ q.2.2 q.2.1 r.2).bind fun st2=>some (st2.layAll d r.1)
theorem YQ (d f:Nat) (x:bI) (args:List bI) (caps:List AV) (st:St):oK (den env) env d f x args caps st=Gp env d f x args caps st:=by
 unfold oK Gp
 congr 1;funext l
 congr 1;funext k
 congr 1
 cases h:(l.any (·.2) || k.any (·.2))<;>rfl
theorem Ve (d f:Nat) (x:bI) (args:List bI) (caps:List PV) (st:St):Gp env d f x args (caps.map .pv) st=IK env d f x args caps st:=by
 unfold IK Gp
 congr 1;funext l
 rw [C9,Option.bind_some,List.map_map,List.any_map]
 have h1:(Prod.fst ∘ fun v:PV=>(v,false))=id:=rfl
 have h2:caps.any (Prod.snd ∘ fun v:PV=>(v,false))=false:=by
  induction caps with
  |nil=>rfl
  |cons c cs ih=>simp [List.any_cons,ih]
 rw [h1,List.map_id,h2,Bool.or_false]
noncomputable def acz (env:Env) (d f:Nat) (x:bI) (args:List bI) (caps:List AV) (st:St):Option St:=Gp env d f x args caps (args.foldl St.bT st)
noncomputable def MS (env:Env) (d f:Nat) (x:bI) (args:List bI) (caps:List PV) (st:St):Option St:=IK env d f x args caps (args.foldl St.bT st)
theorem IL (d f:Nat) (x:bI) (args:List bI) (caps:List AV) (st:St):iI (den env) env d f x args caps st=acz env d f x args caps st:=YQ ..
theorem Df (d f:Nat) (x:bI) (args:List bI) (caps:List PV) (st:St):acz env d f x args (caps.map .pv) st=MS env d f x args caps st:=Ve ..
theorem acA {d f x args} (st:St):rF env (.lin d f x args) st=MS env d f x args [] st:=(IL ..).trans (Df (caps:=[]) ..)
theorem acB {d f x args} (st:St):op1 (den env) env (.lin d f x args) st=MS env d f x args [] st:=(IL ..).trans (Df (caps:=[]) ..)
theorem YR {d g x args} (st:St):rF env (.linv d g x args) st=(match st.get g with
  |.pv (.func f caps)=>MS env d f x args caps st
  |.fn f caps=>acz env d f x args caps st
  |_=>none):=by
 show (match st.get g with
  |.pv (.func f caps)=>iI (den env) env d f x args (caps.map .pv) st
  |.fn f caps=>iI (den env) env d f x args caps st
  |_=>none)=_
 split<;>simp only [IL,Df]
theorem YS {d g x args} (st:St):op1 (den env) env (.linv d g x args) st=rF env (.linv d g x args) st:=(rfl)
theorem Vf {d x args} (st:St):rF env (.jP d x args) st=(match st.get x with
  |.pv (.func f caps)=>zD env d f args caps st
  |.fn f caps=>dcall env d f args caps st
  |_=>none):=by
 show (match st.get x with
  |.pv (.func f caps)=>ji (den env) env d f args (caps.map .pv) st
  |.fn f caps=>ji (den env) env d f args caps st
  |_=>none)=_
 split<;>simp only [Dc,zF]
theorem Vg {d x args} (st:St):op1 (den env) env (.jP d x args) st=rF env (.jP d x args) st:=(rfl)
theorem YT {d c x y} (st:St):op1 (den env) env (.pick d c x y) st=rF env (.pick d c x y) st:=(rfl)
theorem acC {d x} (st:St):rF env (.aj d x) st=plain (.aj d x) st:=(rfl)
theorem acD {d x} (st:St):rF env (.aC d x) st=plain (.aC d x) st:=(rfl)
theorem acE {d o x y} (st:St):rF env (.bin d o x y) st=plain (.bin d o x y) st:=(rfl)
theorem acF {d neg n x y} (st:St):rF env (.Ou d neg n x y) st=plain (.Ou d neg n x y) st:=(rfl)
theorem acG {d neg x} (st:St):rF env (.Ul d neg x) st=plain (.Ul d neg x) st:=(rfl)
theorem acH {d n x} (st:St):rF env (.Xp d n x) st=plain (.Xp d n x) st:=(rfl)
theorem YU {d z l q m} (st:St):rF env (.AA d z l q m) st=plain (.AA d z l q m) st:=(rfl)
theorem YV {d z l q m} (st:St):op1 (den env) env (.AA d z l q m) st=plain (.AA d z l q m) st:=(rfl)
theorem acI {d x} (st:St):rF env (.bxw d x) st=act (den env) env (.bxw d x) st:=(rfl)
theorem acJ {d x} (st:St):op1 (den env) env (.bxw d x) st=act (den env) env (.bxw d x) st:=(rfl)
theorem acK {n p x} (st:St):rF env (.Xq n p x) st=act (den env) env (.Xq n p x) st:=(rfl)
theorem acL {n p x} (st:St):op1 (den env) env (.Xq n p x) st=act (den env) env (.Xq n p x) st:=(rfl)
theorem acM {d f x g} (st:St):rF env (.Kv d f x g) st=act (den env) env (.Kv d f x g) st:=(rfl)
theorem acN {d f x g} (st:St):op1 (den env) env (.Kv d f x g) st=act (den env) env (.Kv d f x g) st:=(rfl)
theorem acO {d n x} (st:St):rF env (.OB d n x) st=plain (.OB d n x) st:=(rfl)
theorem acP {d n x} (st:St):op1 (den env) env (.Xp d n x) st=plain (.Xp d n x) st:=(rfl)
theorem acQ {d n x} (st:St):op1 (den env) env (.OB d n x) st=plain (.OB d n x) st:=(rfl)
theorem acR {d neg x} (st:St):op1 (den env) env (.Ul d neg x) st=plain (.Ul d neg x) st:=(rfl)
theorem afv {d o x} (st:St):rF env (.un d o x) st=plain (.un d o x) st:=(rfl)
theorem YW {d k x} (st:St):rF env (.conv d k x) st=plain (.conv d k x) st:=(rfl)
theorem YX {d n p} (st:St):rF env (.load d n p) st=plain (.load d n p) st:=(rfl)
theorem YZ {d p off} (st:St):rF env (.aU d p off) st=plain (.aU d p off) st:=(rfl)
theorem Y3 {d p i len sz} (st:St):rF env (.xC d p i len sz) st=plain (.xC d p i len sz) st:=(rfl)
theorem Y4 {d sz x i} (st:St):rF env (.bC d sz x i) st=plain (.bC d sz x i) st:=(rfl)
theorem acS {d x} (st:St):rF env (.len d x) st=plain (.len d x) st:=(rfl)
theorem acT {d x i} (st:St):rF env (.ext d x i) st=plain (.ext d x i) st:=(rfl)
theorem Vh {d z parts} (st:St):rF env (.build d z parts) st=plain (.build d z parts) st:=(rfl)
theorem afw {d mx x y} (st:St):rF env (.mn d mx x y) st=plain (.mn d mx x y) st:=(rfl)
theorem acU {d f caps} (st:St):rF env (.RZ d f caps) st=plain (.RZ d f caps) st:=(rfl)
theorem Vj {d z} (st:St):rF env (.alloc d z) st=act (den env) env (.alloc d z) st:=(rfl)
theorem acV {d x} (st:St):rF env (.box d x) st=act (den env) env (.box d x) st:=(rfl)
theorem Vk {d n p x} (st:St):rF env (.store d n p x) st=act (den env) env (.store d n p x) st:=(rfl)
theorem Y5 {d sz parts} (st:St):rF env (.jo d sz parts) st=act (den env) env (.jo d sz parts) st:=(rfl)
theorem Y6 {d z n c} (st:St):rF env (.make d z n c) st=act (den env) env (.make d z n c) st:=(rfl)
theorem acW {d sz x y} (st:St):rF env (.app d sz x y) st=act (den env) env (.app d sz x y) st:=(rfl)
theorem Vl {d x args} (st:St):rF env (.yield d x args) st=act (den env) env (.yield d x args) st:=(rfl)
theorem acX {d x} (st:St):op1 (den env) env (.aj d x) st=plain (.aj d x) st:=(rfl)
theorem acY {d x} (st:St):op1 (den env) env (.aC d x) st=plain (.aC d x) st:=(rfl)
theorem acZ {d o x y} (st:St):op1 (den env) env (.bin d o x y) st=plain (.bin d o x y) st:=(rfl)
theorem ac0 {d neg n x y} (st:St):op1 (den env) env (.Ou d neg n x y) st=plain (.Ou d neg n x y) st:=(rfl)
theorem afx {d o x} (st:St):op1 (den env) env (.un d o x) st=plain (.un d o x) st:=(rfl)
theorem Y7 {d k x} (st:St):op1 (den env) env (.conv d k x) st=plain (.conv d k x) st:=(rfl)
theorem Y8 {d n p} (st:St):op1 (den env) env (.load d n p) st=plain (.load d n p) st:=(rfl)
theorem Y9 {d p off} (st:St):op1 (den env) env (.aU d p off) st=plain (.aU d p off) st:=(rfl)
theorem Za {d p i len sz} (st:St):op1 (den env) env (.xC d p i len sz) st=plain (.xC d p i len sz) st:=(rfl)
theorem Zb {d sz x i} (st:St):op1 (den env) env (.bC d sz x i) st=plain (.bC d sz x i) st:=(rfl)
theorem ac1 {d x} (st:St):op1 (den env) env (.len d x) st=plain (.len d x) st:=(rfl)
theorem ac2 {d x i} (st:St):op1 (den env) env (.ext d x i) st=plain (.ext d x i) st:=(rfl)
theorem Vm {d z parts} (st:St):op1 (den env) env (.build d z parts) st=plain (.build d z parts) st:=(rfl)
theorem afy {d mx x y} (st:St):op1 (den env) env (.mn d mx x y) st=plain (.mn d mx x y) st:=(rfl)
theorem ac3 {d f caps} (st:St):op1 (den env) env (.RZ d f caps) st=plain (.RZ d f caps) st:=(rfl)
theorem Vo {d z} (st:St):op1 (den env) env (.alloc d z) st=act (den env) env (.alloc d z) st:=(rfl)
theorem ac4 {d x} (st:St):op1 (den env) env (.box d x) st=act (den env) env (.box d x) st:=(rfl)
theorem Vp {d n p x} (st:St):op1 (den env) env (.store d n p x) st=act (den env) env (.store d n p x) st:=(rfl)
theorem Zc {d sz parts} (st:St):op1 (den env) env (.jo d sz parts) st=act (den env) env (.jo d sz parts) st:=(rfl)
theorem Zd {d z n c} (st:St):op1 (den env) env (.make d z n c) st=act (den env) env (.make d z n c) st:=(rfl)
theorem ac5 {d sz x y} (st:St):op1 (den env) env (.app d sz x y) st=act (den env) env (.app d sz x y) st:=(rfl)
theorem Vq {d x args} (st:St):op1 (den env) env (.yield d x args) st=act (den env) env (.yield d x args) st:=(rfl)
theorem Ze (d:Nat) (v:PV):AV.kill d (.pv v)=.pv v:=(rfl)
theorem Vr (d:Nat):AV.kill d .any=.any:=(rfl)
theorem Vs (d sz:Nat) (es:List PV):AV.kill d (.row sz es)=.row sz es:=(rfl)
theorem Qo (d o j:Nat):AV.kill d (.aA o j)=.aA o j:=(rfl)
theorem Zf (d f:Nat) (l:List AV):AV.kill d (.fn f l)=.fn f l:=(rfl)
theorem Vt (d s:Nat) (l:List PV):AV.kill d (.EG s l)=.EG s l:=(rfl)
theorem Vu (d:Nat) (k:Bool) (l:List AV):AV.kill d (.jO k l)=.jO k l:=(rfl)
theorem Vw (d:Nat):AV.kill d .pK=.pK:=(rfl)
theorem Qp (d t off len:Nat):AV.kill d (.ref (.slot t) off len)=dO (decide (t=d)) .any (.ref (.slot t) off len):=by
 by_cases h:t=d<;>simp [AV.kill,AV.roots,h,dO]
theorem Qq (d o j off len:Nat):AV.kill d (.ref (.cell o j) off len)=.ref (.cell o j) off len:=(rfl)
theorem Qr (d t i j:Nat):AV.kill d (.nI (.slot t) i j)=dO (decide (t=d)) .any (.nI (.slot t) i j):=by
 by_cases h:t=d<;>simp [AV.kill,AV.roots,h,dO]
theorem Qs (d o q i j:Nat):AV.kill d (.nI (.cell o q) i j)=.nI (.cell o q) i j:=(rfl)
theorem Zg (d:Nat) (v:PV):AV.dH d (.pv v)=.pv v:=(rfl)
theorem Vx (d:Nat):AV.dH d .any=.any:=(rfl)
theorem Vy (d sz:Nat) (es:List PV):AV.dH d (.row sz es)=.row sz es:=(rfl)
theorem Qu (d o j:Nat):AV.dH d (.aA o j)=.aA o j:=(rfl)
theorem Zh (d f:Nat) (l:List AV):AV.dH d (.fn f l)=.fn f l:=(rfl)
theorem Vz (d s:Nat) (l:List PV):AV.dH d (.EG s l)=.EG s l:=(rfl)
theorem VA (d:Nat) (k:Bool) (l:List AV):AV.dH d (.jO k l)=.jO k l:=(rfl)
theorem VB (d:Nat):AV.dH d .pK=.pK:=(rfl)
theorem Qv (d t j off len:Nat):AV.dH d (.ref (.cell t j) off len)=dO (decide (t=d)) .any (.ref (.cell t j) off len):=by
 by_cases h:t=d<;>simp [AV.dH,AV.uU,h,dO]
theorem Qw (d t off len:Nat):AV.dH d (.ref (.slot t) off len)=.ref (.slot t) off len:=(rfl)
theorem Qx (d t q i j:Nat):AV.dH d (.nI (.cell t q) i j)=dO (decide (t=d)) .any (.nI (.cell t q) i j):=by
 by_cases h:t=d<;>simp [AV.dH,AV.uU,h,dO]
theorem Qy (d t i j:Nat):AV.dH d (.nI (.slot t) i j)=.nI (.slot t) i j:=(rfl)
theorem Zi (d y:Nat) (v:PV):AV.ig d y (.pv v)=.pv v:=(rfl)
theorem VD (d y:Nat):AV.ig d y .any=.any:=(rfl)
theorem VE (d y sz:Nat) (es:List PV):AV.ig d y (.row sz es)=.row sz es:=(rfl)
theorem Qz (d y o j:Nat):AV.ig d y (.aA o j)=.aA o j:=(rfl)
theorem Zj (d y f:Nat) (l:List AV):AV.ig d y (.fn f l)=.fn f l:=(rfl)
theorem VF (d y s:Nat) (l:List PV):AV.ig d y (.EG s l)=.EG s l:=(rfl)
theorem VG (d y:Nat) (k:Bool) (l:List AV):AV.ig d y (.jO k l)=.jO k l:=(rfl)
theorem VH (d y:Nat):AV.ig d y .pK=.pK:=(rfl)
theorem QA (d y t j off len:Nat):AV.ig d y (.ref (.cell t j) off len)=dO (decide (t=d)) (dO (decide (j=y)) .any (.ref (.cell t j) off len)) (.ref (.cell t j) off len):=by
 by_cases h:t=d<;>by_cases h2:j=y<;>simp [AV.ig,AV.Ba,h,h2,dO]
theorem QB (d y t off len:Nat):AV.ig d y (.ref (.slot t) off len)=.ref (.slot t) off len:=(rfl)
theorem QC (d y t q i j:Nat):AV.ig d y (.nI (.cell t q) i j)=dO (decide (t=d)) (dO (decide (q=y)) .any (.nI (.cell t q) i j)) (.nI (.cell t q) i j):=by
 by_cases h:t=d<;>by_cases h2:q=y<;>simp [AV.ig,AV.Ba,h,h2,dO]
theorem QD (d y t i j:Nat):AV.ig d y (.nI (.slot t) i j)=.nI (.slot t) i j:=(rfl)
theorem IQ {γ δ:Type} (f:γ→δ) (l:List γ):(l.map f).take l.length=l.map f:=List.take_of_length_le (by simp)
theorem Zk (k:IntKind) (n:Int):(PV.int k n).scalar=true:=(rfl)
theorem VI (b:Bool):(PV.bool b).scalar=true:=(rfl)
theorem Zl (b:ByteArray):(PV.str b).scalar=true:=(rfl)
theorem VJ (sz:Nat) (es:List PV):(PV.list sz es).scalar=false:=(rfl)
theorem VK (f:Nat) (es:List PV):(PV.func f es).scalar=false:=(rfl)
theorem VL (k:IntKind) (n:Int):(PV.int k n).cells=[.int k n]:=(rfl)
theorem QF (b:Bool):(PV.bool b).cells=[.bool b]:=(rfl)
theorem VN (b:ByteArray):(PV.str b).cells=[.str b]:=(rfl)
theorem QG (sz:Nat) (es:List PV):(PV.list sz es).cells=[.list sz es]:=(rfl)
theorem cells_func (f:Nat) (es:List PV):(PV.func f es).cells=[.func f es]:=(rfl)
theorem VO (cs:List PV):(PV.agg cs).cells=cs:=(rfl)
theorem MV (c:PV) (cs:List PV):part (c :: cs) 0 none=some c:=(rfl)
theorem Gq (c:PV) (cs:List PV) (n:Nat) (m:Option Nat):part (c :: cs) (n+1) m=part cs n m:=by
 cases m with
 |none=>rfl
 |some m =>
  simp only [part,List.length_cons,List.drop_succ_cons]
  by_cases h:n+m≤cs.length
  ·rw [if_pos h,if_pos (by omega)]
  ·rw [if_neg h,if_neg (by omega)]
theorem Gs (c:PV) (cs:List PV) (m:Nat):part (c :: cs) 0 (some m)=if m≤(c :: cs).length then some (.agg ((c :: cs).take m)) else none:=by
 simp only [part,Nat.zero_add,List.drop_zero]
theorem bF {n:Int} (h:-9223372036854775808≤n∧n≤9223372036854775807):IntKind.i64.wrap n=n:=Go.IntWalk.i64_in n h
theorem bP {i n:Nat} (h:i<n) (hn:n≤lim):IntKind.i64.wrap ((i:Int)+1)=((i+1:Nat):Int):=by
 unfold lim at hn
 rw [Go.IntWalk.i64_in _ (by omega)]
 omega
theorem ah {k:IntKind} {i n:Nat} (h:i<n):index (.int k (i:Int)) n=some i:=by
 simp only [index]
 rw [if_pos (by omega)]
 simp
end
end Go.Proofs.YtaaokejjmdbfaaaDoor

namespace Go.Proofs.YtaaokejjmdbfaaaDoor
open V
def Dh (n:Nat):List PV→Option (List oJ)
 |[.list sz es]=>if sz=n∧es.length≤lim then some [(.list sz es,true)] else none
 |_=>none
def Gt:PV→Option UInt8
 |.int .u8 n=>if 0≤n∧n<256 then some (UInt8.ofNat n.toNat) else none
 |_=>none
def oW {α:Type} (f:PV→Option α):List PV→Option (List α)
 |[]=>some []
 |p :: l=>match f p with
  |some x=>match oW f l with
   |some xs=>some (x :: xs)
   |none=>none
  |none=>none
def Di:PV→Option dY
 |.agg cs=>match oW Gt cs with
  |some l=>if h:l.length=8 then some ⟨l.toArray,by simpa using h⟩ else none
  |none=>none
 |_=>none
def qm:PV→Option (List dY)
 |.list 8 es=>oW Di es
 |_=>none
def nD (n:Int):Bool:=decide (-9223372036854775808≤n)&&decide (n≤9223372036854775807)
def Aj:PV→Option iW
 |.agg [.int .i64 v,.int .i64 s,d]=>match qm d with
  |some d=>if nD v&&nD s then some ⟨v,s,d⟩ else none
  |none=>none
 |_=>none
theorem Zm {p:PV} {x:UInt8} (h:Gt p=some x):p=.int .u8 (x.toNat:Int):=by
 unfold Gt at h
 split at h
 case h_2=>cases h
 rename_i n
 split at h
 case isFalse=>cases h
 cases h
 rw [UInt8.toNat_ofNat_of_lt' (show n.toNat<2 ^ 8 by omega)]
 congr 1;omega
theorem VP (x:UInt8):Gt (.int .u8 (x.toNat:Int))=some x:=by
 have:=x.toNat_lt
 unfold Gt
 simp only
 rw [if_pos (by omega)]
 simp
theorem qZ {α:Type} {f:PV→Option α} {enc:α→PV} (hf:∀ p x,f p=some x→p=enc x):∀ {l:List PV} {xs:List α},oW f l=some xs→l=xs.map enc
 |[],_,h=>by cases h;rfl
 |p :: l,xs,h=>by
  unfold oW at h
  split at h
  case h_2=>cases h
  rename_i x hx
  split at h
  case h_2=>cases h
  rename_i ys hy
  cases h
  rw [List.map_cons,← hf p x hx,← qZ hf hy]
theorem oZ {α:Type} {f:PV→Option α} {enc:α→PV}:∀ {l:List α},(∀ x∈l,f (enc x)=some x)→oW f (l.map enc)=some l
 |[],_=>rfl
 |x :: l,h=>by
  simp only [List.map_cons,oW,h x (by simp),oZ (l:=l) fun y hy=>h y (by simp [hy])]
theorem VQ {p:PV} {x:dY} (h:Di p=some x):p=ng x:=by
 unfold Di at h
 split at h
 case h_2=>cases h
 rename_i cs
 split at h
 case h_2=>cases h
 rename_i l hl
 split at h
 case isFalse=>cases h
 rename_i h8
 cases h
 rw [qZ (fun p x=>Zm) hl]
 simp [ng,lq,Vector.toList]
theorem QH (x:dY):Di (ng x)=some x:=by
 unfold Di ng lq
 simp only
 rw [oZ (f:=Gt) (enc:=fun b:UInt8=>.int .u8 (b.toNat:Int)) fun b _=>VP b]
 simp
 rfl
theorem sJ {p:PV} {x:List dY} (h:qm p=some x):p=aY x:=by
 unfold qm at h
 split at h
 case h_2=>cases h
 rw [qZ (fun p x=>VQ) h];rfl
theorem Ak (x:List dY):qm (aY x)=some x:=by
 unfold qm aY
 simp only
 exact oZ fun x _=>QH x
theorem Zn {p:PV} {x:iW} (h:Aj p=some x):p=vZ x:=by
 unfold Aj at h
 split at h
 case h_2=>cases h
 split at h
 case h_2=>cases h
 rename_i d hd
 split at h
 case isFalse=>cases h
 cases h
 have:=sJ hd
 rw [this];rfl
theorem Zo {p:PV} {x:iW} (h:Aj p=some x):nD x.volume=true∧nD x.start=true:=by
 unfold Aj at h
 split at h
 case h_2=>cases h
 split at h
 case h_2=>cases h
 split at h
 case isFalse=>cases h
 rename_i hc
 cases h
 simpa using hc
theorem VR (x:iW) (h1:nD x.volume=true) (h2:nD x.start=true):Aj (vZ x)=some x:=by
 have:=Ak x.data
 unfold aY at this
 simp only [Aj,vZ,this,h1,h2,Bool.and_self,if_true]
def yt (l:List Int):Int:=if l.length<1∨8<l.length then 6 else if l.any (fun n=>decide (n<1) || decide (n > 4096)) then 2 else 0
def gZ (im:List (List dY)):List Int:=im.map fun v=>(v.length:Int)
def yu (sz:List Int) (w:iW):Int :=
 if w.volume<0∨(sz.length:Int)≤w.volume then 7 else if w.data.length=0 then 1
 else if w.start<0∨(sz.getD w.volume.toNat 0) - w.data.length<w.start then 2 else 0
def putAt (l:List dY) (s:Nat) (d:List dY):List dY:=l.take s++d++l.drop (s+d.length)
def VT (im:List (List dY)) (w:iW):List (List dY):=im.set w.volume.toNat (putAt (im.getD w.volume.toNat []) w.start.toNat w.data)
def qJ (sz:List Int):List iW→Nat→Int × Int
 |[],_=>(0,0)
 |w :: l,i=>if yu sz w≠0 then (i,yu sz w) else qJ sz l (i+1)
def Dj (im:List (List dY)) (l:List iW):Int:=if yt (gZ im)≠0 then yt (gZ im) else (qJ (gZ im) l 0).2
def apI (im:List (List dY)) (l:List iW):Int:=if yt (gZ im)≠0 then 0 else (qJ (gZ im) l 0).1
def uI (im:List (List dY)) (l:List iW):List (List dY):=if Dj im l=0 then l.foldl VT im else []
def sK:List PV→Option (List oJ)
 |[.list 1 im,.list 3 l]=>match oW qm im with
  |some im=>match oW Aj l with
   |some l=>if im.length≤1000000∧im.all (fun v=>decide (v.length≤1000000))=true then some [(.list 1 ((uI im l).map aY),false),(.int .i64 (apI im l),false),(.int .i64 (Dj im l),false)] else none
   |none=>none
  |none=>none
 |_=>none
theorem VU {args:List PV} {rs:List oJ} (h:sK args=some rs):∃ (im:List (List dY)) (l:List iW),args=[.list 1 (im.map aY),.list 3 (l.map vZ)]∧(∀ w∈l,nD w.volume=true∧nD w.start=true)∧im.length≤1000000∧(∀ v∈im,v.length≤1000000) ∧
  rs=[(.list 1 ((uI im l).map aY),false),(.int .i64 (apI im l),false),(.int .i64 (Dj im l),false)]:=by
 unfold sK at h
 split at h
 case h_2=>cases h
 split at h
 case h_2=>cases h
 rename_i im hi
 split at h
 case h_2=>cases h
 rename_i l hl
 split at h
 case isFalse=>cases h
 rename_i hc
 cases h
 refine ⟨im,l,by rw [qZ (fun p x=>sJ) hi,qZ (fun p x=>Zn) hl],?_,hc.1,fun v hv=>by simpa using List.all_eq_true.1 hc.2 v hv,rfl⟩
 have:∀ {q:List PV} {xs:List iW},oW Aj q=some xs→∀ w∈xs,nD w.volume=true∧nD w.start=true:=by
  intro q
  induction q with
  |nil=>intro xs h;cases h;simp
  |cons p q ih =>
   intro xs h
   unfold oW at h
   split at h
   case h_2=>cases h
   rename_i x hx
   split at h
   case h_2=>cases h
   rename_i ys hy
   cases h
   simp only [List.mem_cons,forall_eq_or_imp]
   exact ⟨Zo hx,ih hy⟩
 exact this hl
theorem QI {im:List (List dY)} {l:List iW} (h1:∀ w∈l,nD w.volume=true∧nD w.start=true) (h2:im.length≤1000000) (h3:∀ v∈im,v.length≤1000000) :
  sK [.list 1 (im.map aY),.list 3 (l.map vZ)]=some [(.list 1 ((uI im l).map aY),false),(.int .i64 (apI im l),false),(.int .i64 (Dj im l),false)]:=by
 simp only [sK]
 rw [oZ fun x _=>Ak x,oZ fun x hx=>VR x (h1 x hx).1 (h1 x hx).2]
 simp only
 rw [if_pos ⟨h2,List.all_eq_true.2 fun v hv=>by simpa using h3 v hv⟩]
def mD (a:Int):PV:=.agg [.int .u8 a,.int .u8 0,.int .u8 0,.int .u8 0,.int .u8 0,.int .u8 0,.int .u8 0,.int .u8 0]
def ptP (a b c d m:Int):PV:=.agg [.int .i64 0,.list 3 [],.list 2 [.agg [.int .i64 4,.list 1 [.int .u64 m]]],.list 1 [.list 8 [mD a,mD b,mD c,mD d]]]
def IU:List PV→Option (List oJ)
 |[.agg [.int .u8 a,.int .u8 b,.int .u8 c,.int .u8 d],.list 1 [.int .i64 m,.int .i64 n]] =>
  if a=1∧b=5∧c=0∧d=0∧m=0∧n=1 then some [(ptP 1 5 0 0 3,false)]
  else if a=0∧b=5∧c=6∧d=0∧m=1∧n=2 then some [(ptP 0 5 6 0 6,false)] else none
 |_=>none
end Go.Proofs.YtaaokejjmdbfaaaDoor

namespace Go.Proofs
open Go.Shelf
def Tryd.tz_ren:Go.Shelf.Ren:=⟨fun|29=>111|n=>n,fun|22=>133|3=>3|4=>4|25=>160|54=>167|0=>0|5=>5|n=>n,fun|1=>0|n=>n⟩
theorem Tryd.tz:Go.Proofs.Lays7.n29 Tryd.prog Tryd.tz_ren:={
 mixed:=by kernel_rfl
 f29:=Tryd.func111.trans (congrArg some (by kernel_rfl))
 t0:=Tryd.underlying0
 a0:=Tryd.isAgg0
 z0:=Tryd.sizeOf0
 v0:=Tryd.zeroValue0
 i0:=by kernel_rfl
 t3:=Tryd.underlying3
 a3:=Tryd.isAgg3
 z3:=Tryd.sizeOf3
 v3:=Tryd.zeroValue3
 i3:=by kernel_rfl
 t4:=Tryd.underlying4
 a4:=Tryd.isAgg4
 z4:=Tryd.sizeOf4
 v4:=Tryd.zeroValue4
 i4:=by kernel_rfl
 t5:=Tryd.underlying5
 a5:=Tryd.isAgg5
 z5:=Tryd.sizeOf5
 v5:=Tryd.zeroValue5
 i5:=by kernel_rfl
 t22:=Tryd.underlying133
 a22:=Tryd.isAgg133
 z22:=Tryd.sizeOf133
 v22:=Tryd.zeroValue133
 i22:=by kernel_rfl
 t25:=Tryd.underlying160
 a25:=Tryd.isAgg160
 z25:=Tryd.sizeOf160
 v25:=Tryd.zeroValue160
 i25:=by kernel_rfl
 t54:=Tryd.underlying167
 a54:=Tryd.isAgg167
 z54:=Tryd.sizeOf167
 g1:=by kernel_rfl }
end Go.Proofs

namespace Go.Proofs.YtaaokejjmdbfaaaDoor
open Go.RowKit Go.Shelf
def tzX:List PV→Option (List oJ)
 |[.int .u64 n]=>if 0≤n∧n<18446744073709551616 then some [(.int .i64 (Lib.ctz 64 n.toNat:Nat),false)] else none
 |_=>none
theorem afz {T:Tags} {w:World} (h:jS T w):TabAt 0 Lib.deBruijn64tab w:=fun j hj=>by
 have hp:=h _ (List.mem_singleton.2 rfl)
 obtain ⟨b,off,e1,_,_,h3⟩:=hp.qV
 obtain ⟨eb,eo⟩:0=b∧0=off+0:=by
  injection e1 with e1
  injection e1 with e1
  injection e1 with e2 e3
  exact ⟨e2,e3⟩
 have eo:off=0:=by omega
 subst eb;subst eo
 obtain ⟨u,c1,_,c2⟩:=h3 j (PV.int .u8 ((Lib.deBruijn64tab[j]:Nat):Int)) (by simp [List.getElem?_eq_getElem hj])
 rw [c2.bU] at c1
 rw [show Lib.deBruijn64tab.getD j 0=Lib.deBruijn64tab[j] by simp [List.getD_eq_getElem?_getD,List.getElem?_eq_getElem hj]]
 simpa using c1
theorem ahV:∀ args rs,tzX args=some rs→callable Tryd.prog 111=true∧lZ Tryd.prog 111 args rs:=fun args rs h=>by
 unfold tzX at h
 split at h
 case h_2=>cases h
 rename_i n
 split at h
 case isFalse=>cases h
 rename_i hn
 cases h
 refine ⟨by kernel_rfl,fun T0 w vs h1 h2 h3 h4 hG=>?_⟩
 match vs,h3 with
 |[v],_ =>
  have hv:=(h4 0 _ v rfl rfl).bU
  subst hv
  have hc:=Any7.bits_TrailingZeros64 Tryd.tz n.toNat (by omega) w (fun _=>afz hG)
  rw [Int.toNat_of_nonneg hn.1] at hc
  refine Calls.mono hc ?_
  rintro e w' ⟨rfl,rfl⟩
  refine ⟨_,T0,rfl,Below.refl _ _,fun _ _=>rfl,h2,#[_],rfl,rfl,fun i r u hr hu=>?_⟩
  match i with
  |0=>cases hr;cases hu;exact .int _ _
  |i+1=>simp at hr
end Go.Proofs.YtaaokejjmdbfaaaDoor

namespace Go.Proofs.YtaaokejjmdbfaaaDoor
abbrev Run:=(Int × Int) × List dY
def wB (out:List Run):Run:=out.getD (out.length - 1) ((0,0),[])
def EY (v:Int) (i:Nat) (x:dY) (out:List Run):List Run :=
 if 0<out.length∧(wB out).1.1=v∧(wB out).1.2+((wB out).2.length:Int)=(i:Int) then out.set (out.length - 1) ((wB out).1,(wB out).2++[x]) else out++[((v,(i:Int)),[x])]
def stR (v:Int) (A B:List dY) (out:List Run) (i:Nat):List Run:=if A[i]?=B[i]? then out else EY v i (A.getD i V.ae3) out
def Oy (v:Int) (A B:List dY) (s:Nat):Nat→List Run
 |0=>[]
 |k+1=>stR v A B (Oy v A B s k) (s+k)
def okR (v:Int) (i:Nat) (out:List Run):Prop:=∀ x∈out,x.1.1=v∧0≤x.1.2∧x.1.2+(x.2.length:Int)≤(i:Int)∧x.2≠[]
theorem Gu {out:List Run} (h:0<out.length):wB out∈out:=by
 unfold wB
 rw [List.getD_eq_getElem?_getD,List.getElem?_eq_getElem (by omega)]
 exact List.getElem_mem _
theorem ac6 {v:Int} {i:Nat} {x:dY} {out:List Run} (h:okR v i out):okR v (i+1) (EY v i x out)∧(EY v i x out).length≤out.length+1:=by
 unfold EY
 split
 ·rename_i hc
  obtain ⟨h0,_,h1⟩:=hc
  refine ⟨fun y hy=>?_,by simp⟩
  rcases List.mem_or_eq_of_mem_set hy with hy|rfl
  ·obtain ⟨a,b,c,d⟩:=h y hy
   exact ⟨a,b,by omega,d⟩
  ·obtain ⟨a,b,c,d⟩:=h _ (Gu h0)
   refine ⟨a,b,?_,by simp⟩
   simp only [List.length_append,List.length_cons,List.length_nil]
   omega
 ·refine ⟨fun y hy=>?_,by simp⟩
  rcases List.mem_append.1 hy with hy|hy
  ·obtain ⟨a,b,c,d⟩:=h y hy
   exact ⟨a,b,by omega,d⟩
  ·rw [List.mem_singleton.1 hy]
   exact ⟨rfl,by simp,by simp,by simp⟩
theorem QJ (v:Int) (A B:List dY) (s:Nat):∀ k,okR v (s+k) (Oy v A B s k)∧(Oy v A B s k).length≤k
 |0=>⟨fun x hx=>by simp [Oy] at hx,Nat.le_refl _⟩
 |k+1=>by
  obtain ⟨h1,h2⟩:=QJ v A B s k
  unfold Oy stR
  split
  ·exact ⟨fun x hx=>by
    obtain ⟨a,b,c,d⟩:=h1 x hx
    exact ⟨a,b,by omega,d⟩,by omega⟩
  ·obtain ⟨h3,h4⟩:=ac6 (v:=v) (i:=s+k) (x:=A.getD (s+k) V.ae3) h1
   exact ⟨h3,by omega⟩
theorem IV {v:Int} {i:Nat} {x:dY} {out:List Run}:EY v i x out≠[]:=by
 unfold EY
 split
 ·rename_i h
  intro e
  have:=congrArg List.length e
  rw [List.length_set] at this
  rw [this] at h
  exact Nat.lt_irrefl _ h.1
 ·simp
def toW (r:Run):V.iW:=⟨r.1.1,r.1.2,r.2⟩
def Zp:List PV→Option (List oJ)
 |[.int .i64 v,f,t,.agg [.int .i64 s,.int .i64 m]]=>match qm f,qm t with
  |some A,some B=>if nD v=true∧0≤s∧0≤m∧s+m≤(A.length:Int)∧s+m≤(B.length:Int)∧A.length≤1000000 then some [(.list 3 (((Oy v A B s.toNat m.toNat).map toW).map V.vZ),false)] else none
  |_,_=>none
 |_=>none
theorem ac7 {args:List PV} {rs:List oJ} (h:Zp args=some rs):∃ (v:Int) (A B:List dY) (s m:Nat),args=[.int .i64 v,V.aY A,V.aY B,.agg [.int .i64 s,.int .i64 m]]∧nD v=true∧s+m≤A.length∧s+m≤B.length∧A.length≤1000000 ∧
  rs=[(.list 3 (((Oy v A B s m).map toW).map V.vZ),false)]:=by
 unfold Zp at h
 split at h
 ·rename_i v f t s m
  split at h
  ·rename_i A B hA hB
   split at h
   ·rename_i hc
    obtain ⟨c1,c2,c3,c4,c5,c6⟩:=hc
    have e1:=sJ hA
    have e2:=sJ hB
    subst e1 e2
    cases h
    exact ⟨v,A,B,s.toNat,m.toNat,by rw [Int.toNat_of_nonneg c2,Int.toNat_of_nonneg c3],c1,by omega,by omega,c6,rfl⟩
   ·cases h
  ·cases h
 ·cases h
end Go.Proofs.YtaaokejjmdbfaaaDoor

namespace Go.Proofs.YtaaokejjmdbfaaaDoor
def IW:ak:=(.seq (.ops [.bin 84 .lss (.t 83) (.t 82)]) (.seq (.cond (.t 84) .skip (.exit 0)) (.seq (.block 1 (.seq (.ops [.aj 85 (.t 83),.aC 18 (.t 85)]) (.seq (.ops [.aj 86 (.t 18),.load 87 none (.t 9),.bin 88 .neq (.t 86) (.t 87)]) (.cond (.t 88) (.seq (.ops [.aj 89 (.t 16),.aj 90 (.t 18),.aj 91 (.t 17),.load 92 none (.t 8),.bin 93 .rem (.t 91) (.t 92),.bC 94 1 (.t 89) (.t 90),.store none 1 (.t 94) (.t 93)]) (.ops [.aj 95 (.t 17),.load 96 none (.t 8),.bin 97 .quo (.t 95) (.t 96),.aC 17 (.t 97)])) .skip)))) (.ops [.bin 98 .add (.t 83) (.c (.int .i64 1)),.aj 83 (.t 98)]))))
def QK:ak :=
(.clean [0,7,8,9,10,11,13,16,17,44,62,77,82,83] [0,6,7,8,9,10,11,13,16,44] (.block 0 (.loop [0,7,8,9,10,11,13,16,17,44,62,77,82,83] IW)))
def IX:ak:=(.seq (.seq (.ops [.aj 129 (.t 25),.load 130 none (.t 9),.bin 131 .neq (.t 129) (.t 130)]) (.cond (.t 131) .skip (.exit 8))) (.block 9 (.seq (.uT [] [] none [0,1,2,3,4,5,6,7,8,9,10,11,12,13,14,15,16,17,18,19,20,21,22,23,24,25,26,27,28,29] [.aj 132 (.t 24),.aj 133 (.t 132),.grd 133 true (.load 134 none (.t 7)),.grd 133 true (.aj 135 (.t 25)),.grd 133 true (.bC 136 4 (.t 134) (.t 135)),.grd 133 true (.aU 137 (.t 136) 3),.grd 133 true (.load 138 none (.t 137)),.grd 133 true (.aj 139 (.t 22)),.grd 133 true (.bC 140 1 (.t 138) (.t 139)),.grd 133 true (.load 141 none (.t 140)),.grd 133 true (.aj 142 (.t 23)),.grd 133 true (.bC 143 8 (.t 141) (.t 142)),.grd 133 true (.load 144 (some 8) (.t 143)),.grd 133 true (.load 145 none (.t 7)),.grd 133 true (.aj 146 (.t 10)),.grd 133 true (.aj 147 (.t 25)),.grd 133 true (.bC 148 1 (.t 146) (.t 147)),.grd 133 true (.load 149 none (.t 148)),.grd 133 true (.bC 150 4 (.t 145) (.t 149)),.grd 133 true (.aU 151 (.t 150) 3),.grd 133 true (.load 152 none (.t 151)),.grd 133 true (.aj 153 (.t 22)),.grd 133 true (.bC 154 1 (.t 152) (.t 153)),.grd 133 true (.load 155 none (.t 154)),.grd 133 true (.aj 156 (.t 23)),.grd 133 true (.bC 157 8 (.t 155) (.t 156)),.grd 133 true (.load 158 (some 8) (.t 157)),.grd 133 true (.Ou 159 false 8 (.t 144) (.t 158)),.pick 160 (.t 133) (.t 159) (.c (.bool false)),.aC 24 (.t 160)]) (.ops [.aj 161 (.t 10),.aj 162 (.t 25),.bC 163 1 (.t 161) (.t 162),.load 164 none (.t 163),.aC 25 (.t 164)]))))
def QL:ak :=
(.clean [0,7,9,10,21,22,23,24,25,44,111,112,116,117,124,125] [0,6,7,9,10,21,22,23,24,44,111,112,116,117,124,125] (.block 8 (.loop [0,7,9,10,21,22,23,24,25,44,111,112,116,117,124,125] IX)))
def IY:ak:=(.seq (.ops [.bin 126 .lss (.t 125) (.t 124)]) (.seq (.cond (.t 126) .skip (.exit 6)) (.seq (.block 7 (.seq (.ops [.aj 127 (.t 125),.aC 23 (.t 127)]) (.seq (.ops [.aj 128 (.t 21),.aC 24 (.c (.bool true)),.aC 25 (.t 128)]) (.seq
    QL (.seq (.uT [] [] none [0,1,2,3,4,5,6,7,8,9,10,11,12,13,14,15,16,17,18,19,20,21,22,23,24,25] [.aj 165 (.t 24),.aj 166 (.t 165),.grd 166 true (.load 167 none (.t 7)),.grd 166 true (.aj 168 (.t 21)),.grd 166 true (.bC 169 4 (.t 167) (.t 168)),.grd 166 true (.aU 170 (.t 169) 3),.grd 166 true (.load 171 none (.t 170)),.grd 166 true (.aj 172 (.t 22)),.grd 166 true (.bC 173 1 (.t 171) (.t 172)),.grd 166 true (.load 174 none (.t 173)),.grd 166 true (.aj 175 (.t 23)),.grd 166 true (.bC 176 8 (.t 174) (.t 175)),.grd 166 true (.load 177 (some 8) (.t 176)),.grd 166 true (.load 178 none (.t 7)),.grd 166 true (.load 179 none (.t 9)),.grd 166 true (.bC 180 4 (.t 178) (.t 179)),.grd 166 true (.aU 181 (.t 180) 3),.grd 166 true (.load 182 none (.t 181)),.grd 166 true (.aj 183 (.t 22)),.grd 166 true (.bC 184 1 (.t 182) (.t 183)),.grd 166 true (.load 185 none (.t 184)),.grd 166 true (.aj 186 (.t 23)),.grd 166 true (.bC 187 8 (.t 185) (.t 186)),.grd 166 true (.load 188 (some 8) (.t 187)),.grd 166 true (.Ou 189 true 8 (.t 177) (.t 188)),.pick 190 (.t 166) (.t 189) (.c (.bool false))]) (.cond (.t 190) (.seq (.ops [.aC 6 (.c (.bool false))]) .ret) .skip)))))) (.ops [.bin 191 .add (.t 125) (.c (.int .i64 1)),.aj 125 (.t 191)]))))
def QM:ak :=
(.clean [0,7,9,10,21,22,44,111,112,116,117,124,125] [0,6,7,9,10,21,44,111,112,116,117] (.block 6 (.loop [0,7,9,10,21,22,44,111,112,116,117,124,125] IY)))
def QN:ak:=(.seq (.ops [.bin 118 .lss (.t 117) (.t 116)]) (.seq (.cond (.t 118) .skip (.exit 4)) (.seq (.block 5 (.seq (.ops [.aj 119 (.t 117),.aC 22 (.t 119)]) (.seq (.ops [.aj 120 (.t 0),.aj 121 (.t 22),.bC 122 1 (.t 120) (.t 121),.load 123 none (.t 122),.len 124 (.t 123),.aj 125 (.c (.int .i64 0))])
    QM))) (.ops [.bin 192 .add (.t 117) (.c (.int .i64 1)),.aj 117 (.t 192)]))))
def QO:ak :=
(.clean [0,7,9,10,21,44,111,112,116,117] [0,6,7,9,10,44,111,112] (.block 4 (.loop [0,7,9,10,21,44,111,112,116,117] QN)))
def QS:ak:=(.seq (.ops [.bin 113 .lss (.t 112) (.t 111)]) (.seq (.cond (.t 113) .skip (.exit 2)) (.seq (.block 3 (.seq (.ops [.aj 114 (.t 112),.aC 21 (.t 114)]) (.seq (.ops [.aj 115 (.t 0),.len 116 (.t 115),.aj 117 (.c (.int .i64 0))])
    QO))) (.ops [.bin 193 .add (.t 112) (.c (.int .i64 1)),.aj 112 (.t 193)]))))
def QT:ak :=
(.clean [0,7,9,10,44,111,112] [6] (.block 2 (.loop [0,7,9,10,44,111,112] QS)))
def fn9:jd:=⟨3,195,[.tmp 6],(.seq (.ops [.box 5 (.t 2),.aC 6 (.c (.bool false))]) (.seq (.ops [.aj 26 (.t 0),.aj 27 (.t 1),.call 28 32 [(.t 26),(.t 27)],.alloc 7 [(.list 4 [])],.store none 1 (.t 7) (.t 28)]) (.seq (.seq (.ops [.load 29 none (.t 7),.len 30 (.t 29),.bin 31 .eql (.t 30) (.c (.int .i64 0))]) (.cond (.t 31) (.seq (.ops [.call 32 12 [],.aC 6 (.t 32)]) .ret) .skip)) (.seq (.ops [.load 33 none (.t 7),.len 34 (.t 33),.alloc 8 [(.int .i64 0)],.store none 1 (.t 8) (.t 34)]) (.seq (.ops [.xC 35 (.t 5) (.c (.int .i64 0)) 2 1,.load 36 none (.t 35),.conv 37 .i64 (.t 36),.load 38 none (.t 8),.bin 39 .rem (.t 37) (.t 38),.alloc 9 [(.int .i64 0)],.store none 1 (.t 9) (.t 39)]) (.seq (.ops [.load 41 none (.t 7),.load 42 none (.t 9),.call 43 24 [(.t 41),(.t 42)],.aj 40 (.t 43),.ext 44 (.t 40) 0,.ext 45 (.t 40) 1,.ext 46 (.t 40) 2,.aC 10 (.t 44),.aC 11 (.t 45),.aC 12 (.t 46)]) (.seq (.seq (.ops [.aj 47 (.t 12),.bin 48 .neq (.t 47) (.c (.int .i64 0)),.aj 49 (.t 48),.grd 49 false (.aj 50 (.t 10)),.grd 49 false (.len 51 (.t 50)),.grd 49 false (.load 52 none (.t 8)),.grd 49 false (.bin 53 .neq (.t 51) (.t 52)),.pick 54 (.t 49) (.c (.bool true)) (.t 53),.aj 55 (.t 54),.grd 55 false (.aj 56 (.t 10)),.grd 55 false (.load 57 none (.t 9)),.grd 55 false (.bC 58 1 (.t 56) (.t 57)),.grd 55 false (.load 59 none (.t 58)),.grd 55 false (.bin 60 .neq (.t 59) (.c (.int .i64 (-1)))),.pick 61 (.t 55) (.c (.bool true)) (.t 60)]) (.cond (.t 61) (.seq (.ops [.aC 6 (.c (.bool false))]) .ret) .skip)) (.seq (.ops [.RZ 62 33 [(.t 8),(.t 9),(.t 7)],.aC 13 (.t 62)]) (.seq (.seq (.ops [.aj 64 (.t 13),.aj 65 (.t 10),.jP 66 (.t 64) [(.t 65)],.aj 63 (.t 66),.ext 67 (.t 63) 0,.ext 68 (.t 63) 1,.aC 14 (.t 67),.aC 15 (.t 68)]) (.seq (.ops [.aj 69 (.t 15),.un 70 .not (.t 69),.aj 71 (.t 70),.grd 71 false (.aj 72 (.t 14)),.grd 71 false (.aj 73 (.t 11)),.grd 71 false (.bin 74 .neq (.t 72) (.t 73)),.pick 75 (.t 71) (.c (.bool true)) (.t 74)]) (.cond (.t 75) (.seq (.ops [.aC 6 (.c (.bool false))]) .ret) .skip))) (.seq (.ops [.aj 76 (.t 10),.call 77 35 [(.t 76)],.aC 16 (.t 77)]) (.seq (.ops [.xC 78 (.t 5) (.c (.int .i64 1)) 2 1,.load 79 none (.t 78),.conv 80 .i64 (.t 79),.aC 17 (.t 80)]) (.seq (.seq (.ops [.aj 81 (.t 16),.len 82 (.t 81),.aj 83 (.c (.int .i64 0))])
       QK) (.seq (.seq (.ops [.aj 100 (.t 13),.aj 101 (.t 16),.jP 102 (.t 100) [(.t 101)],.aj 99 (.t 102),.ext 103 (.t 99) 0,.ext 104 (.t 99) 1,.aC 19 (.t 103),.aC 20 (.t 104)]) (.seq (.ops [.aj 105 (.t 20),.aj 106 (.t 105),.grd 106 true (.aj 107 (.t 19)),.grd 106 true (.aj 108 (.t 11)),.grd 106 true (.bin 109 .lss (.t 107) (.t 108)),.pick 110 (.t 106) (.t 109) (.c (.bool false))]) (.cond (.t 110) (.seq (.ops [.aC 6 (.c (.bool false))]) .ret) .skip))) (.seq (.seq (.ops [.load 111 none (.t 8),.aj 112 (.c (.int .i64 0))])
        QT) (.seq (.ops [.call 194 12 [],.aC 6 (.t 194)]) .ret)))))))))))))))⟩
def afC:jd:=⟨0,123,[.tmp 0],(.seq (.ops [.aC 0 (.c (.bool false))]) (.seq (.ops [.build 14 [(.int .u8 0),(.int .u8 0),(.int .u8 0),(.int .u8 0)] [(0,1,(.c (.int .u8 1))),(1,1,(.c (.int .u8 5))),(2,1,(.c (.int .u8 0))),(3,1,(.c (.int .u8 0)))],.jo 15 1 [(.c (.int .i64 0)),(.c (.int .i64 1))],.call 16 42 [(.t 14),(.t 15)],.build 17 [(.int .u8 0),(.int .u8 0),(.int .u8 0),(.int .u8 0)] [(0,1,(.c (.int .u8 0))),(1,1,(.c (.int .u8 5))),(2,1,(.c (.int .u8 6))),(3,1,(.c (.int .u8 0)))],.jo 18 1 [(.c (.int .i64 1)),(.c (.int .i64 2))],.call 19 42 [(.t 17),(.t 18)],.alloc 1 [(.int .i64 0),(.list 0 []),(.list 0 []),(.list 0 [])],.alloc 2 [(.int .i64 0),(.list 0 []),(.list 0 []),(.list 0 [])],.store none 4 (.t 1) (.t 16),.store none 4 (.t 2) (.t 19)]) (.seq (.ops [.build 20 [(.int .i64 0),(.int .i64 0),(.int .i64 0)] [(0,1,(.c (.int .i64 1))),(1,1,(.c (.int .i64 1))),(2,1,(.c (.int .i64 5)))],.build 21 [(.int .i64 0),(.int .i64 0),(.int .i64 0)] [(0,1,(.c (.int .i64 3))),(1,1,(.c (.int .i64 6))),(2,1,(.c (.int .i64 9)))],.jo 22 3 [(.t 20),(.t 21)],.aU 23 (.t 1) 1,.store none 1 (.t 23) (.t 22)]) (.seq (.ops [.build 24 [(.int .i64 0),(.int .i64 0),(.int .i64 0)] [(0,1,(.c (.int .i64 1))),(1,1,(.c (.int .i64 1))),(2,1,(.c (.int .i64 7)))],.jo 25 3 [(.t 24)],.aU 26 (.t 2) 1,.store none 1 (.t 26) (.t 25)]) (.seq (.ops [.aU 28 (.t 1) 1,.load 29 none (.t 28),.aU 30 (.t 2) 1,.load 31 none (.t 30),.call 32 18 [(.t 29),(.t 31)],.aj 27 (.t 32),.ext 33 (.t 27) 0,.ext 34 (.t 27) 1,.aC 3 (.t 33),.aC 4 (.t 34)]) (.seq (.drs [] [1,2,3,4,5,6] [.load 36 (some 4) (.t 2),.load 37 (some 4) (.t 1),.jo 38 4 [(.t 36),(.t 37)],.make 39 (.bool false) (.c (.int .i64 2)) (.c (.int .i64 2)),.call 40 20 [(.t 38),(.t 39)],.aj 35 (.t 40),.ext 41 (.t 35) 0,.ext 42 (.t 35) 1,.aC 5 (.t 41),.aC 6 (.t 42)]
    [⟨[([0,1],2),([],3),([],4)],none,[5,6,7,8,9],[0,1,2,3,4,5,6,7,8,9],false⟩,⟨[([0,1],3),([],2),([],4)],none,[5,6,7,8,9],[0,1,3,2,4,5,6,7,8,9],false⟩]) (.seq (.ops [.load 44 (some 4) (.t 1),.load 45 (some 4) (.t 2),.call 46 13 [(.t 44),(.t 45)],.aj 43 (.t 46),.ext 47 (.t 43) 0,.ext 48 (.t 43) 1,.aC 7 (.t 47),.aC 8 (.t 48)]) (.seq (.ops [.load 50 (some 4) (.t 1),.load 51 (some 4) (.t 2),.jo 52 4 [(.t 50),(.t 51)],.call 53 22 [(.t 52),(.c (.int .i64 0)),(.c (.int .i64 1))],.aj 49 (.t 53),.ext 54 (.t 49) 0,.ext 55 (.t 49) 1,.aC 9 (.t 54),.aC 10 (.t 55)]) (.seq (.ops [.load 57 (some 4) (.t 1),.load 58 (some 4) (.t 2),.jo 59 4 [(.t 57),(.t 58)],.call 60 24 [(.t 59),(.c (.int .i64 1))],.aj 56 (.t 60),.ext 61 (.t 56) 0,.ext 62 (.t 56) 1,.ext 63 (.t 56) 2,.aC 11 (.t 61),.aC 12 (.t 62),.aC 13 (.t 63)]) (.seq (.seq (.ops [.aj 64 (.t 3),.bin 65 .neq (.t 64) (.c (.int .i64 5)),.aj 66 (.t 65),.grd 66 false (.aj 67 (.t 4)),.grd 66 false (.bin 68 .neq (.t 67) (.c (.int .i64 1))),.pick 69 (.t 66) (.c (.bool true)) (.t 68),.aj 70 (.t 69),.grd 70 false (.aj 71 (.t 6)),.grd 70 false (.bin 72 .neq (.t 71) (.c (.int .i64 0))),.pick 73 (.t 70) (.c (.bool true)) (.t 72),.aj 74 (.t 73),.grd 74 false (.aj 75 (.t 5)),.grd 74 false (.bin 76 .neq (.t 75) (.c (.int .i64 1))),.pick 77 (.t 74) (.c (.bool true)) (.t 76),.aj 78 (.t 77),.grd 78 false (.aj 79 (.t 8)),.grd 78 false (.bin 80 .neq (.t 79) (.c (.int .i64 0))),.pick 81 (.t 78) (.c (.bool true)) (.t 80),.aj 82 (.t 81),.grd 82 false (.aj 83 (.t 7)),.grd 82 false (.len 84 (.t 83)),.grd 82 false (.bin 85 .neq (.t 84) (.c (.int .i64 1))),.pick 86 (.t 82) (.c (.bool true)) (.t 85),.aj 87 (.t 86),.grd 87 false (.aj 88 (.t 7)),.grd 87 false (.bC 89 1 (.t 88) (.c (.int .i64 0))),.grd 87 false (.load 90 none (.t 89)),.grd 87 false (.build 91 [(.int .i64 0),(.int .i64 0)] [(0,1,(.c (.int .i64 0))),(1,1,(.c (.int .i64 3)))]),.grd 87 false (.jo 92 2 [(.t 91)]),.grd 87 false (.call 93 43 [(.t 90),(.t 92)]),.grd 87 false (.un 94 .not (.t 93)),.pick 95 (.t 87) (.c (.bool true)) (.t 94),.aj 96 (.t 95),.grd 96 false (.aj 97 (.t 13)),.grd 96 false (.bin 98 .neq (.t 97) (.c (.int .i64 0))),.pick 99 (.t 96) (.c (.bool true)) (.t 98),.aj 100 (.t 99),.grd 100 false (.aj 101 (.t 11)),.grd 100 false (.jo 102 1 [(.c (.int .i64 1)),(.c (.int .i64 (-1)))]),.grd 100 false (.call 103 27 [(.t 101),(.t 102)]),.grd 100 false (.un 104 .not (.t 103)),.pick 105 (.t 100) (.c (.bool true)) (.t 104),.aj 106 (.t 105),.grd 106 false (.aj 107 (.t 12)),.grd 106 false (.bin 108 .neq (.t 107) (.c (.int .i64 3))),.pick 109 (.t 106) (.c (.bool true)) (.t 108)]) (.cond (.t 109) (.seq (.ops [.aC 0 (.c (.bool false))]) .ret) .skip)) (.seq (.ops [.aj 110 (.t 10),.bin 111 .eql (.t 110) (.c (.int .i64 0)),.aj 112 (.t 111),.grd 112 true (.aj 113 (.t 9)),.grd 112 true (.build 114 [(.int .u8 0),(.int .u8 0),(.int .u8 0),(.int .u8 0),(.int .u8 0),(.int .u8 0),(.int .u8 0),(.int .u8 0)] [(0,1,(.c (.int .u8 1)))]),.grd 112 true (.jo 115 8 [(.t 114)]),.grd 112 true (.build 116 [(.int .i64 0),(.int .i64 0),(.list 0 [])] [(1,1,(.c (.int .i64 0))),(2,1,(.t 115))]),.grd 112 true (.build 117 [(.int .u8 0),(.int .u8 0),(.int .u8 0),(.int .u8 0),(.int .u8 0),(.int .u8 0),(.int .u8 0),(.int .u8 0)] []),.grd 112 true (.jo 118 8 [(.t 117)]),.grd 112 true (.build 119 [(.int .i64 0),(.int .i64 0),(.list 0 [])] [(1,1,(.c (.int .i64 2))),(2,1,(.t 118))]),.grd 112 true (.jo 120 3 [(.t 116),(.t 119)]),.grd 112 true (.call 121 26 [(.t 113),(.t 120)]),.pick 122 (.t 112) (.t 121) (.c (.bool false)),.aC 0 (.t 122)]) .ret)))))))))))⟩
def ac8:ak:=(.seq (.ops [.bin 14 .lss (.t 13) (.t 12)]) (.seq (.cond (.t 14) .skip (.exit 0)) (.seq (.block 1 (.seq (.ops [.bC 15 4 (.t 11) (.t 13),.load 16 (some 4) (.t 15),.alloc 7 [(.int .i64 0),(.list 0 []),(.list 0 []),(.list 0 [])],.store none 4 (.t 7) (.t 16)]) (.seq (.ops [.load 17 (some 4) (.t 7),.call 18 15 [(.t 17)],.aC 8 (.t 18)]) (.seq (.ops [.aj 19 (.t 8),.bin 20 .neq (.t 19) (.c (.int .i64 0))]) (.cond (.t 20) (.seq (.ops [.aj 21 (.t 8),.aC 4 (.nil 1),.aC 5 (.t 21)]) .ret) .skip))))) (.ops [.bin 22 .add (.t 13) (.c (.int .i64 1)),.aj 13 (.t 22)]))))
def ac9:ak :=
(.clean [2,3,11,12,13] [2,3,4,5] (.block 0 (.loop [2,3,11,12,13] ac8)))
def afD:jd:=⟨2,32,[.tmp 4,.tmp 5],(.seq (.ops [.box 2 (.t 0),.box 3 (.t 1),.aC 4 (.nil 1),.aC 5 (.c (.int .i64 0))]) (.seq (.seq (.ops [.load 9 (some 4) (.t 2),.load 10 (some 4) (.t 3),.jo 11 4 [(.t 9),(.t 10)],.len 12 (.t 11),.aj 13 (.c (.int .i64 0))])
  ac9) (.seq (.seq (.ops [.aU 23 (.t 2) 3,.load 24 none (.t 23),.aU 25 (.t 3) 3,.load 26 none (.t 25),.call 27 44 [(.t 24),(.t 26)],.un 28 .not (.t 27)]) (.cond (.t 28) (.seq (.ops [.aC 4 (.nil 1),.aC 5 (.c (.int .i64 22))]) .ret) .skip)) (.seq (.ops [.load 29 (some 4) (.t 2),.load 30 (some 4) (.t 3),.call 31 45 [(.t 29),(.t 30)],.aC 4 (.t 31),.aC 5 (.c (.int .i64 0))]) .ret))))⟩
def yw:ak:=(.seq (.ops [.bin 34 .lss (.t 33) (.t 32)]) (.seq (.cond (.t 34) .skip (.exit 1)) (.seq (.block 2 (.seq (.ops [.aj 35 (.t 33),.bC 36 2 (.t 31) (.t 33),.load 37 (some 2) (.t 36),.alloc 5 [(.int .i64 0),(.list 1 [])],.aC 4 (.t 35),.store none 2 (.t 5) (.t 37)]) (.seq (.seq (.ops [.load 38 (some 2) (.t 5),.call 39 51 [(.t 38)],.aC 6 (.t 39)]) (.seq (.ops [.aj 40 (.t 6),.bin 41 .neq (.t 40) (.c (.int .i64 0))]) (.cond (.t 41) (.seq (.ops [.aj 42 (.t 6),.aC 2 (.t 42)]) .ret) .skip))) (.seq (.uT [] [] none [0,1,2,3,4,5,6,7,8] [.aU 43 (.t 5) 0,.load 44 none (.t 43),.aU 45 (.t 1) 3,.load 46 none (.t 45),.aj 47 (.t 4),.bC 48 1 (.t 46) (.t 47),.load 49 none (.t 48),.len 50 (.t 49),.bin 51 .neq (.t 44) (.t 50)]) (.cond (.t 51) (.seq (.ops [.aC 2 (.c (.int .i64 22))]) .ret) .skip))))) (.ops [.bin 52 .add (.t 33) (.c (.int .i64 1)),.aj 33 (.t 52)]))))
def IZ:ak :=
(.clean [1,31,32,33] [2] (.block 1 (.loop [1,31,32,33] yw)))
def I4:jd:=⟨1,53,[.tmp 2],(.seq (.ops [.box 1 (.t 0),.aC 2 (.c (.int .i64 0))]) (.seq (.block 0 (.seq (.ops [.aU 8 (.t 1) 0,.load 9 none (.t 8),.call 10 48 [(.t 9),(.c (.int .i64 0))],.un 11 .not (.t 10),.aC 7 (.t 11)]) (.cond (.t 7) (.seq (.ops [.aC 2 (.c (.int .i64 2))]) .ret) (.seq (.ops [.aU 13 (.t 1) 1,.load 14 none (.t 13),.call 15 49 [(.t 14)],.un 16 .not (.t 15),.aC 12 (.t 16)]) (.cond (.t 12) (.seq (.ops [.aC 2 (.c (.int .i64 3))]) .ret) .skip))))) (.seq (.seq (.ops [.aU 17 (.t 1) 3,.load 18 none (.t 17),.call 19 50 [(.t 18)],.aC 3 (.t 19)]) (.seq (.ops [.aj 20 (.t 3),.bin 21 .neq (.t 20) (.c (.int .i64 0))]) (.cond (.t 21) (.seq (.ops [.aj 22 (.t 3),.aC 2 (.t 22)]) .ret) .skip))) (.seq (.seq (.ops [.aU 23 (.t 1) 2,.load 24 none (.t 23),.len 25 (.t 24),.aU 26 (.t 1) 3,.load 27 none (.t 26),.len 28 (.t 27),.bin 29 .neq (.t 25) (.t 28)]) (.cond (.t 29) (.seq (.ops [.aC 2 (.c (.int .i64 6))]) .ret) .skip)) (.seq (.seq (.ops [.aU 30 (.t 1) 2,.load 31 none (.t 30),.len 32 (.t 31),.aj 33 (.c (.int .i64 0))])
    IZ) (.seq (.ops [.aC 2 (.c (.int .i64 0))]) .ret))))))⟩
def ada:ak:=(.seq (.seq (.uT [] [] none [0,1,2,3,4,5,6,7,8,9,10,11,12,13,14,15,16,17,18,19] [.aj 17 (.t 8),.aj 18 (.t 0),.len 19 (.t 18),.aj 20 (.t 1),.len 21 (.t 20),.mn 22 false (.t 19) (.t 21),.bin 23 .lss (.t 17) (.t 22),.aj 24 (.t 23),.grd 24 true (.aj 25 (.t 0)),.grd 24 true (.aj 26 (.t 8)),.grd 24 true (.bC 27 3 (.t 25) (.t 26)),.grd 24 true (.aU 28 (.t 27) 0),.grd 24 true (.load 29 none (.t 28)),.grd 24 true (.aj 30 (.t 1)),.grd 24 true (.aj 31 (.t 8)),.grd 24 true (.bC 32 3 (.t 30) (.t 31)),.grd 24 true (.aU 33 (.t 32) 0),.grd 24 true (.load 34 none (.t 33)),.grd 24 true (.bin 35 .eql (.t 29) (.t 34)),.pick 36 (.t 24) (.t 35) (.c (.bool false))]) (.cond (.t 36) .skip (.exit 0))) (.seq (.block 1 (.seq (.uT [] [] none [0,1,2,3,4,5,6,7,8,9,10,11,12,13,14,15,16,17] [.aj 39 (.t 0),.aj 40 (.t 8),.bC 41 3 (.t 39) (.t 40),.aU 42 (.t 41) 2,.load 43 none (.t 42),.aj 44 (.t 1),.aj 45 (.t 8),.bC 46 3 (.t 44) (.t 45),.aU 47 (.t 46) 2,.load 48 none (.t 47),.mn 49 false (.t 43) (.t 48),.aj 50 (.t 0),.aj 51 (.t 8),.bC 52 3 (.t 50) (.t 51),.aU 53 (.t 52) 0,.load 54 none (.t 53),.aC 6 (.t 49),.aC 7 (.t 54)]) (.seq (.uT [] [] none [0,1,2,3,4,5,6,7,8,9,10] [.aj 55 (.t 0),.aj 56 (.t 8),.bC 57 3 (.t 55) (.t 56),.aU 58 (.t 57) 2,.load 59 none (.t 58),.aj 60 (.t 1),.aj 61 (.t 8),.bC 62 3 (.t 60) (.t 61),.aU 63 (.t 62) 2,.load 64 none (.t 63),.bin 65 .neq (.t 59) (.t 64)]) (.cond (.t 65) (.exit 0) .skip)))) (.ops [.aj 37 (.t 8),.bin 38 .add (.t 37) (.c (.int .i64 1)),.aC 8 (.t 38)])))
def adb:ak :=
(.clean [0,1,6,7,8] [4,5,6,7] (.block 0 (.loop [0,1,6,7,8] ada)))
def afE:jd:=⟨2,68,[.tmp 4,.tmp 5],(.seq (.ops [.aC 4 (.c (.int .i64 0)),.aC 5 (.c (.int .i64 0))]) (.seq (.seq (.ops [.aj 9 (.t 0),.call 10 49 [(.t 9)],.un 11 .not (.t 10),.aj 12 (.t 11),.grd 12 false (.aj 13 (.t 1)),.grd 12 false (.call 14 49 [(.t 13)]),.grd 12 false (.un 15 .not (.t 14)),.pick 16 (.t 12) (.c (.bool true)) (.t 15)]) (.cond (.t 16) (.seq (.ops [.aC 4 (.c (.int .i64 0)),.aC 5 (.c (.int .i64 0))]) .ret) .skip)) (.seq (.ops [.aC 6 (.c (.int .i64 0)),.aC 7 (.c (.int .i64 0))]) (.seq (.seq (.ops [.aC 8 (.c (.int .i64 0))])
   adb) (.seq (.ops [.aj 66 (.t 6),.aj 67 (.t 7),.aC 4 (.t 66),.aC 5 (.t 67)]) .ret)))))⟩
def afF:jd:=⟨2,24,[.tmp 4,.tmp 5],(.seq (.ops [.box 3 (.t 1),.aC 4 (.c (.int .i64 0)),.aC 5 (.c (.int .i64 0))]) (.seq (.seq (.ops [.aj 8 (.t 0),.call 9 56 [(.t 8)],.aC 6 (.t 9)]) (.seq (.ops [.aj 10 (.t 6),.bin 11 .neq (.t 10) (.c (.int .i64 0))]) (.cond (.t 11) (.seq (.ops [.aj 12 (.t 6),.aC 4 (.c (.int .i64 0)),.aC 5 (.t 12)]) .ret) .skip))) (.seq (.seq (.ops [.load 13 none (.t 3),.len 14 (.t 13),.aj 15 (.t 0),.len 16 (.t 15),.bin 17 .neq (.t 14) (.t 16)]) (.cond (.t 17) (.seq (.ops [.aC 4 (.c (.int .i64 0)),.aC 5 (.c (.int .i64 6))]) .ret) .skip)) (.seq (.ops [.aj 18 (.t 0),.RZ 19 58 [(.t 3)],.call 20 57 [(.t 18),(.t 19),(.c (.func 59 []))],.aC 7 (.t 20)]) (.seq (.seq (.ops [.aj 21 (.t 7),.bin 22 .lss (.t 21) (.c (.int .i64 0))]) (.cond (.t 22) (.seq (.ops [.aC 4 (.c (.int .i64 0)),.aC 5 (.c (.int .i64 17))]) .ret) .skip)) (.seq (.ops [.aj 23 (.t 7),.aC 4 (.t 23),.aC 5 (.c (.int .i64 0))]) .ret))))))⟩
def ade:ak:=(.seq (.ops [.bin 53 .lss (.t 52) (.t 51)]) (.seq (.cond (.t 53) .skip (.exit 2)) (.seq (.block 3 (.seq (.ops [.bC 54 2 (.t 50) (.t 52),.load 55 (some 2) (.t 54),.alloc 15 [(.int .i64 0),(.int .i64 0)],.store none 2 (.t 15) (.t 55)]) (.uT [] [([0,1,2,3,4,5,6,7,8,9,10,11,12],13)] (some ([],[],14,[])) [15] [.aj 56 (.t 11),.aj 57 (.t 12),.aU 58 (.t 9) 3,.load 59 none (.t 58),.aj 60 (.t 12),.bC 61 1 (.t 59) (.t 60),.load 62 none (.t 61),.aU 63 (.t 10) 3,.load 64 none (.t 63),.aj 65 (.t 12),.bC 66 1 (.t 64) (.t 65),.load 67 none (.t 66),.load 68 (some 2) (.t 15),.call 69 64 [(.t 57),(.t 62),(.t 67),(.t 68)],.app 70 3 (.t 56) (.t 69),.aC 11 (.t 70)]))) (.ops [.bin 71 .add (.t 52) (.c (.int .i64 1)),.aj 52 (.t 71)]))))
def adf:ak :=
(.clean [9,10,11,12,13,43,44,45,49,50,51,52,70] [6,7,9,10,11,43,44,45,70] (.block 2 (.loop [9,10,11,12,13,43,44,45,49,50,51,52,70] ade)))
def adg:ak:=(.seq (.ops [.bin 46 .lss (.t 45) (.t 44)]) (.seq (.cond (.t 46) .skip (.exit 0)) (.seq (.block 1 (.seq (.ops [.aj 47 (.t 45),.bC 48 1 (.t 43) (.t 45),.load 49 none (.t 48),.aC 12 (.t 47),.aC 13 (.t 49)]) (.seq (.ops [.aj 50 (.t 13),.len 51 (.t 50),.aj 52 (.c (.int .i64 0))])
    adf))) (.ops [.bin 72 .add (.t 45) (.c (.int .i64 1)),.aj 45 (.t 72)]))))
def adh:ak :=
(.clean [9,10,11,43,44,45,70] [6,7,11] (.block 0 (.loop [9,10,11,43,44,45,70] adg)))
def afG:jd:=⟨3,74,[.tmp 6,.tmp 7],(.seq (.ops [.aC 6 (.nil 3),.aC 7 (.c (.int .i64 0))]) (.seq (.seq (.ops [.aj 16 (.t 0),.call 17 56 [(.t 16)],.aC 8 (.t 17)]) (.seq (.ops [.aj 18 (.t 8),.bin 19 .neq (.t 18) (.c (.int .i64 0))]) (.cond (.t 19) (.seq (.ops [.aj 20 (.t 8),.aC 6 (.nil 3),.aC 7 (.t 20)]) .ret) .skip))) (.seq (.seq (.ops [.aj 21 (.t 1),.aj 22 (.t 2),.mn 23 false (.t 21) (.t 22),.bin 24 .lss (.t 23) (.c (.int .i64 0)),.aj 25 (.t 24),.grd 25 false (.aj 26 (.t 1)),.grd 25 false (.aj 27 (.t 2)),.grd 25 false (.mn 28 true (.t 26) (.t 27)),.grd 25 false (.aj 29 (.t 0)),.grd 25 false (.len 30 (.t 29)),.grd 25 false (.bin 31 .geq (.t 28) (.t 30)),.pick 32 (.t 25) (.c (.bool true)) (.t 31)]) (.cond (.t 32) (.seq (.ops [.aC 6 (.nil 3),.aC 7 (.c (.int .i64 7))]) .ret) .skip)) (.seq (.drs [(.t 39)] [9,10,70] [.aj 33 (.t 0),.aj 34 (.t 1),.bC 35 4 (.t 33) (.t 34),.load 36 (some 4) (.t 35),.aj 37 (.t 0),.aj 38 (.t 2),.bC 39 4 (.t 37) (.t 38),.OB 40 (some 4) (.t 39),.alloc 9 [(.int .i64 0),(.list 0 []),(.list 0 []),(.list 0 [])],.alloc 10 [(.int .i64 0),(.list 0 []),(.list 0 []),(.list 0 [])],.store none 4 (.t 9) (.t 36),.store none 4 (.t 10) (.t 40)]
   [⟨[([0,1,2,3,4,5,6,7],8),([],9)],(some ([],[],10,[([],11)])),[],[0,1,2,3,4,5,6,7,8,9,10,11],false⟩,⟨[([0,1,2,3,4,5,6,7],9),([],8)],(some ([],[],10,[([],11)])),[],[0,1,2,3,4,5,6,7,9,8,10,11],true⟩]) (.seq (.ops [.aC 11 (.nil 3)]) (.seq (.seq (.ops [.load 41 (some 4) (.t 9),.load 42 (some 4) (.t 10),.call 43 45 [(.t 41),(.t 42)],.len 44 (.t 43),.aj 45 (.c (.int .i64 0))])
    adh) (.seq (.ops [.aj 73 (.t 11),.aC 6 (.t 73),.aC 7 (.c (.int .i64 0))]) .ret)))))))⟩
def I5:ak:=(.seq (.ops [.bin 41 .lss (.t 40) (.t 39)]) (.seq (.cond (.t 41) .skip (.exit 0)) (.seq (.block 1 (.seq (.lend 9 [0] [.aj 42 (.t 0),.aj 43 (.t 9),.call 44 68 [(.t 42),(.t 43)],.call 45 67 [(.t 44)],.call 46 66 [(.t 45),(.c (.func 69 []))],.alloc 11 [(.int .i64 0),(.int .i64 0),(.int .i64 0)],.store none 3 (.t 11) (.t 46)]) (.seq (.uT [(.t 11)] [] (some ([0,1,2,6,7,8],[3,4,5],9,[([10],11)])) [] [.aj 47 (.t 8),.aU 48 (.t 11) 1,.load 49 none (.t 48),.aU 53 (.t 11) 2,.load 54 none (.t 53),.bC 55 1 (.t 47) (.t 49),.aj 50 (.t 9),.aU 51 (.t 11) 1,.OB 52 none (.t 51),.store none 1 (.t 55) (.t 54),.bC 56 1 (.t 50) (.t 52),.store none 1 (.t 56) (.c (.bool true))]) (.ops [.aj 57 (.t 10),.aU 58 (.t 11) 0,.load 59 none (.t 58),.bin 60 .add (.t 57) (.t 59),.aC 10 (.t 60)])))) (.ops [.bin 61 .add (.t 40) (.c (.int .i64 1)),.aj 40 (.t 61)]))))
def I7:ak :=
(.clean [0,8,9,10,27,30,39,40] [4,5,6,8,10] (.block 0 (.loop [0,8,9,10,27,30,39,40] I5)))
def MW:jd:=⟨2,64,[.tmp 4,.tmp 5,.tmp 6],(.seq (.ops [.aC 4 (.nil 1),.aC 5 (.c (.int .i64 0)),.aC 6 (.c (.int .i64 0))]) (.seq (.seq (.ops [.aj 12 (.t 0),.call 13 56 [(.t 12)],.aC 7 (.t 13)]) (.seq (.ops [.aj 14 (.t 7),.bin 15 .neq (.t 14) (.c (.int .i64 0))]) (.cond (.t 15) (.seq (.ops [.aj 16 (.t 7),.aC 4 (.nil 1),.aC 5 (.c (.int .i64 0)),.aC 6 (.t 16)]) .ret) .skip))) (.seq (.seq (.ops [.aj 17 (.t 1),.bin 18 .lss (.t 17) (.c (.int .i64 0)),.aj 19 (.t 18),.grd 19 false (.aj 20 (.t 1)),.grd 19 false (.aj 21 (.t 0)),.grd 19 false (.len 22 (.t 21)),.grd 19 false (.bin 23 .geq (.t 20) (.t 22)),.pick 24 (.t 19) (.c (.bool true)) (.t 23)]) (.cond (.t 24) (.seq (.ops [.aC 4 (.nil 1),.aC 5 (.c (.int .i64 0)),.aC 6 (.c (.int .i64 7))]) .ret) .skip)) (.seq (.drs [] [0,1,8,9,27,30] [.aj 25 (.t 0),.len 26 (.t 25),.make 27 (.int .i64 0) (.t 26) (.t 26),.aj 28 (.t 0),.len 29 (.t 28),.make 30 (.bool false) (.t 29) (.t 29),.aC 8 (.t 27),.aC 9 (.t 30)]
   [⟨[([0,1,3,4],2),([6],5)],none,[7],[0,1,3,4,2,6,5,7],false⟩,⟨[([0,1,3,4],5),([],2)],none,[6,7],[0,1,3,4,5,2,6,7],false⟩]) (.seq (.ops [.aj 31 (.t 8),.aj 32 (.t 1),.aj 33 (.t 9),.aj 34 (.t 1),.bC 35 1 (.t 31) (.t 32),.store none 1 (.t 35) (.c (.int .i64 (-1))),.bC 36 1 (.t 33) (.t 34),.store none 1 (.t 36) (.c (.bool true))]) (.seq (.ops [.aC 10 (.c (.int .i64 0))]) (.seq (.seq (.ops [.aj 37 (.t 0),.len 38 (.t 37),.bin 39 .sub (.t 38) (.c (.int .i64 1)),.aj 40 (.c (.int .i64 0))])
     I7) (.seq (.ops [.aj 62 (.t 8),.aj 63 (.t 10),.aC 4 (.t 62),.aC 5 (.t 63),.aC 6 (.c (.int .i64 0))]) .ret))))))))⟩
def adi:ak:=(.seq (.seq (.ops [.aj 11 (.t 5),.aj 12 (.t 0),.len 13 (.t 12),.bin 14 .lss (.t 11) (.t 13)]) (.cond (.t 14) .skip (.exit 0))) (.seq (.block 1 (.seq (.uT [] [([0,1,2,3,4,5,6,7,8,9,10,11,12,13,14,15,16,17,18,19,20,21,22,23,24,25,26,27,28,29,30,31,32,33,34],35)] none [36,37] [.aj 17 (.t 0),.aj 18 (.t 5),.bC 19 3 (.t 17) (.t 18),.aU 20 (.t 19) 0,.load 21 none (.t 20),.aj 22 (.t 1),.aj 23 (.t 5),.bC 24 3 (.t 22) (.t 23),.aU 25 (.t 24) 0,.load 26 none (.t 25),.bin 27 .neq (.t 21) (.t 26),.aj 28 (.t 27),.grd 28 false (.aj 29 (.t 0)),.grd 28 false (.aj 30 (.t 5)),.grd 28 false (.bC 31 3 (.t 29) (.t 30)),.grd 28 false (.aU 32 (.t 31) 1),.grd 28 false (.load 33 none (.t 32)),.grd 28 false (.aj 34 (.t 1)),.grd 28 false (.aj 35 (.t 5)),.grd 28 false (.bC 36 3 (.t 34) (.t 35)),.grd 28 false (.aU 37 (.t 36) 1),.grd 28 false (.load 38 none (.t 37)),.grd 28 false (.bin 39 .neq (.t 33) (.t 38)),.pick 40 (.t 28) (.c (.bool true)) (.t 39),.aj 41 (.t 40),.grd 41 false (.aj 42 (.t 0)),.grd 41 false (.aj 43 (.t 5)),.grd 41 false (.bC 44 3 (.t 42) (.t 43)),.grd 41 false (.aU 45 (.t 44) 2),.grd 41 false (.load 46 none (.t 45)),.grd 41 false (.aj 47 (.t 1)),.grd 41 false (.aj 48 (.t 5)),.grd 41 false (.bC 49 3 (.t 47) (.t 48)),.grd 41 false (.aU 50 (.t 49) 2),.grd 41 false (.load 51 none (.t 50)),.grd 41 false (.call 52 70 [(.t 46),(.t 51)]),.grd 41 false (.un 53 .not (.t 52)),.pick 54 (.t 41) (.c (.bool true)) (.t 53)]) (.cond (.t 54) (.seq (.ops [.aC 4 (.c (.bool false))]) .ret) .skip))) (.ops [.aj 15 (.t 5),.bin 16 .add (.t 15) (.c (.int .i64 1)),.aC 5 (.t 16)])))
def adk:ak :=
(.clean [0,1,5] [4] (.block 0 (.loop [0,1,5] adi)))
def afH:jd:=⟨2,55,[.tmp 4],(.seq (.ops [.aC 4 (.c (.bool false))]) (.seq (.seq (.ops [.aj 6 (.t 0),.len 7 (.t 6),.aj 8 (.t 1),.len 9 (.t 8),.bin 10 .neq (.t 7) (.t 9)]) (.cond (.t 10) (.seq (.ops [.aC 4 (.c (.bool false))]) .ret) .skip)) (.seq (.seq (.ops [.aC 5 (.c (.int .i64 0))])
   adk) (.seq (.ops [.aC 4 (.c (.bool true))]) .ret))))⟩
def adl:ak:=(.seq (.ops [.bin 14 .lss (.t 13) (.t 12)]) (.seq (.cond (.t 14) .skip (.exit 0)) (.seq (.block 1 (.seq (.ops [.aj 15 (.t 13),.aC 5 (.t 15)]) (.seq (.uT [] [] none [0,1,2,3,4,5,6,7,8] [.aj 16 (.t 0),.aj 17 (.t 5),.bC 18 1 (.t 16) (.t 17),.load 19 none (.t 18),.aj 20 (.t 1),.aj 21 (.t 5),.bC 22 1 (.t 20) (.t 21),.load 23 none (.t 22),.bin 24 .neq (.t 19) (.t 23)]) (.cond (.t 24) (.seq (.ops [.aC 4 (.c (.bool false))]) .ret) .skip)))) (.ops [.bin 25 .add (.t 13) (.c (.int .i64 1)),.aj 13 (.t 25)]))))
def adn:ak :=
(.clean [0,1,12,13] [4] (.block 0 (.loop [0,1,12,13] adl)))
def afI:jd:=⟨2,26,[.tmp 4],(.seq (.ops [.aC 4 (.c (.bool false))]) (.seq (.seq (.ops [.aj 6 (.t 0),.len 7 (.t 6),.aj 8 (.t 1),.len 9 (.t 8),.bin 10 .neq (.t 7) (.t 9)]) (.cond (.t 10) (.seq (.ops [.aC 4 (.c (.bool false))]) .ret) .skip)) (.seq (.seq (.ops [.aj 11 (.t 0),.len 12 (.t 11),.aj 13 (.c (.int .i64 0))])
   adn) (.seq (.ops [.aC 4 (.c (.bool true))]) .ret))))⟩
def Bh:ak:=(.seq (.ops [.bin 68 .lss (.t 67) (.t 66)]) (.seq (.cond (.t 68) .skip (.exit 4)) (.seq (.block 5 (.seq (.ops [.bC 69 3 (.t 65) (.t 67),.load 70 (some 3) (.t 69),.alloc 15 [(.int .i64 0),(.int .i64 0),(.list 0 [])],.store none 3 (.t 15) (.t 70)]) (.seq (.ops [.aU 71 (.t 15) 0,.load 72 none (.t 71),.aj 73 (.t 12),.bin 74 .eql (.t 72) (.t 73)]) (.cond (.t 74) (.ops [.aj 75 (.t 13),.aU 76 (.t 15) 1,.load 77 none (.t 76),.aU 78 (.t 15) 2,.load 79 none (.t 78),.len 80 (.t 79),.build 81 [(.int .i64 0),(.int .i64 0)] [(0,1,(.t 77)),(1,1,(.t 80))],.jo 82 2 [(.t 81)],.app 83 2 (.t 75) (.t 82),.aC 13 (.t 83)]) .skip)))) (.ops [.bin 84 .add (.t 67) (.c (.int .i64 1)),.aj 67 (.t 84)]))))
def I8:ak :=
(.clean [0,1,5,7,8,11,12,13,36,37,38,42,47,61,62,65,66,67,83,105] [0,1,4,5,7,8,11,12,13,36,37,38,42,47,61,62,83,105] (.block 4 (.loop [0,1,5,7,8,11,12,13,36,37,38,42,47,61,62,65,66,67,83,105] Bh)))
def Bj:ak:=(.seq (.ops [.bin 63 .lss (.t 62) (.t 61)]) (.seq (.cond (.t 63) .skip (.exit 2)) (.seq (.block 3 (.seq (.ops [.aj 64 (.t 62),.aC 12 (.t 64)]) (.seq (.ops [.aC 13 (.nil 2)]) (.seq (.seq (.ops [.aj 65 (.t 7),.len 66 (.t 65),.aj 67 (.c (.int .i64 0))])
     I8) (.seq (.ops [.aj 86 (.t 8),.aj 87 (.t 12),.bC 88 1 (.t 86) (.t 87),.load 89 none (.t 88),.len 90 (.t 89),.aj 91 (.t 13),.call 92 71 [(.t 90),(.t 91)],.aj 85 (.t 92),.ext 93 (.t 85) 0,.ext 94 (.t 85) 1,.alloc 16 [(.int .i64 0),(.list 1 [])],.store none 2 (.t 16) (.t 93),.aC 17 (.t 94)]) (.ops [.aU 95 (.t 11) 2,.load 96 none (.t 95),.load 97 (some 2) (.t 16),.jo 98 2 [(.t 97)],.app 99 2 (.t 96) (.t 98),.aU 100 (.t 11) 2,.store none 1 (.t 100) (.t 99)])))))) (.ops [.bin 101 .add (.t 62) (.c (.int .i64 1)),.aj 62 (.t 101)]))))
def I9:ak :=
(.clean [0,1,5,7,8,11,36,37,38,42,47,61,62,83,105] [0,1,4,5,11,36,37,38,83,105] (.block 2 (.loop [0,1,5,7,8,11,36,37,38,42,47,61,62,83,105] Bj)))
def yx:ak:=(.seq (.ops [.bin 39 .lss (.t 38) (.t 37)]) (.seq (.cond (.t 39) .skip (.exit 0)) (.seq (.block 1 (.seq (.ops [.aj 40 (.t 38),.bC 41 1 (.t 36) (.t 38),.load 42 none (.t 41),.aC 6 (.t 40),.aC 7 (.t 42)]) (.seq (.ops [.aj 44 (.t 0),.aj 45 (.t 7),.call 46 39 [(.t 44),(.t 45)],.aj 43 (.t 46),.ext 47 (.t 43) 0,.ext 48 (.t 43) 1,.ext 49 (.t 43) 2,.aC 8 (.t 47),.aC 9 (.t 48),.aC 10 (.t 49)]) (.seq (.seq (.ops [.aj 50 (.t 10),.bin 51 .neq (.t 50) (.c (.int .i64 0)),.aj 52 (.t 51),.grd 52 false (.aj 53 (.t 7)),.grd 52 false (.len 54 (.t 53)),.grd 52 false (.bin 55 .gtr (.t 54) (.c (.int .i64 20))),.pick 56 (.t 52) (.c (.bool true)) (.t 55)]) (.cond (.t 56) (.seq (.ops [.aC 4 (.nil 4)]) .ret) .skip)) (.seq (.ops [.aj 57 (.t 6),.aj 58 (.t 8),.build 59 [(.int .i64 0),(.list 3 []),(.jV 2),(.list 0 [])] [(0,1,(.t 57)),(3,1,(.t 58))],.alloc 11 [(.int .i64 0),(.list 0 []),(.list 0 []),(.list 0 [])],.store none 4 (.t 11) (.t 59)]) (.seq (.seq (.ops [.aj 60 (.t 8),.len 61 (.t 60),.aj 62 (.c (.int .i64 0))])
      I9) (.ops [.aj 102 (.t 5),.load 103 (some 4) (.t 11),.jo 104 4 [(.t 103)],.app 105 4 (.t 102) (.t 104),.aC 5 (.t 105)]))))))) (.ops [.bin 106 .add (.t 38) (.c (.int .i64 1)),.aj 38 (.t 106)]))))
def Ja:ak :=
(.clean [0,1,5,36,37,38,83,105] [4,5] (.block 0 (.loop [0,1,5,36,37,38,83,105] yx)))
def EZ:jd:=⟨2,108,[.tmp 4],(.seq (.ops [.aC 4 (.nil 4)]) (.seq (.seq (.ops [.aj 18 (.t 0),.call 19 41 [(.t 18)],.un 20 .not (.t 19),.aj 21 (.t 20),.grd 21 false (.aj 22 (.t 0)),.grd 21 false (.call 23 50 [(.t 22)]),.grd 21 false (.bin 24 .neq (.t 23) (.c (.int .i64 0))),.pick 25 (.t 21) (.c (.bool true)) (.t 24),.aj 26 (.t 25),.grd 26 false (.aj 27 (.t 1)),.grd 26 false (.len 28 (.t 27)),.grd 26 false (.bin 29 .lss (.t 28) (.c (.int .i64 1))),.pick 30 (.t 26) (.c (.bool true)) (.t 29),.aj 31 (.t 30),.grd 31 false (.aj 32 (.t 1)),.grd 31 false (.len 33 (.t 32)),.grd 31 false (.bin 34 .gtr (.t 33) (.c (.int .i64 4))),.pick 35 (.t 31) (.c (.bool true)) (.t 34)]) (.cond (.t 35) (.seq (.ops [.aC 4 (.nil 4)]) .ret) .skip)) (.seq (.ops [.aC 5 (.nil 4)]) (.seq (.seq (.ops [.aj 36 (.t 1),.len 37 (.t 36),.aj 38 (.c (.int .i64 0))])
   Ja) (.seq (.ops [.aj 107 (.t 5),.aC 4 (.t 107)]) .ret)))))⟩
def yA:ak:=(.seq (.seq (.ops [.aj 16 (.t 9),.load 17 none (.t 2),.bin 18 .neq (.t 16) (.t 17),.aj 19 (.t 18),.grd 19 true (.aj 20 (.t 10)),.grd 19 true (.load 21 none (.t 1)),.grd 19 true (.bin 22 .leq (.t 20) (.t 21)),.pick 23 (.t 19) (.t 22) (.c (.bool false))]) (.cond (.t 23) .skip (.exit 2))) (.block 3 (.seq (.seq (.uT [] [] none [0,1,2,3,4,5,6,7,8,9,10,11,12] [.aj 24 (.t 0),.aj 25 (.t 9),.bC 26 1 (.t 24) (.t 25),.load 27 none (.t 26),.bin 28 .lss (.t 27) (.c (.int .i64 0)),.aj 29 (.t 28),.grd 29 false (.aj 30 (.t 0)),.grd 29 false (.aj 31 (.t 9)),.grd 29 false (.bC 32 1 (.t 30) (.t 31)),.grd 29 false (.load 33 none (.t 32)),.grd 29 false (.load 34 none (.t 1)),.grd 29 false (.bin 35 .geq (.t 33) (.t 34)),.pick 36 (.t 29) (.c (.bool true)) (.t 35)]) (.cond (.t 36) (.seq (.ops [.aC 5 (.c (.int .i64 0)),.aC 6 (.c (.bool false))]) .ret) .skip)) (.ops [.aj 37 (.t 0),.aj 38 (.t 9),.bC 39 1 (.t 37) (.t 38),.load 40 none (.t 39),.aj 41 (.t 10),.bin 42 .add (.t 41) (.c (.int .i64 1)),.aC 9 (.t 40),.aC 10 (.t 42)]))))
def Jb:ak :=
(.clean [0,1,2,3,7,8,9,10,11,12] [0,1,2,3,5,6,7,8,9,11,12] (.block 2 (.loop [0,1,2,3,7,8,9,10,11,12] yA)))
def yB:ak:=(.seq (.ops [.bin 13 .lss (.t 12) (.t 11)]) (.seq (.cond (.t 13) .skip (.exit 0)) (.seq (.block 1 (.seq (.ops [.aj 14 (.t 12),.aC 8 (.t 14)]) (.seq (.ops [.aj 15 (.t 8),.aC 9 (.t 15),.aC 10 (.c (.int .i64 0))]) (.seq
    Jb (.seq (.seq (.ops [.aj 43 (.t 9),.load 44 none (.t 2),.bin 45 .neq (.t 43) (.t 44)]) (.cond (.t 45) (.seq (.ops [.aC 5 (.c (.int .i64 0)),.aC 6 (.c (.bool false))]) .ret) .skip)) (.seq (.ops [.aj 46 (.t 8),.load 47 none (.t 2),.bin 48 .neq (.t 46) (.t 47)]) (.cond (.t 48) (.uT [] [([0,1,2,3,4,5,6,7,8,9,10,11],12)] none [13,14] [.aj 49 (.t 7),.load 50 none (.t 3),.aj 51 (.t 8),.bC 52 4 (.t 50) (.t 51),.load 53 (some 4) (.t 52),.load 54 none (.t 3),.aj 55 (.t 0),.aj 56 (.t 8),.bC 57 1 (.t 55) (.t 56),.load 58 none (.t 57),.bC 59 4 (.t 54) (.t 58),.load 60 (some 4) (.t 59),.call 61 34 [(.t 53),(.t 60)],.bin 62 .add (.t 49) (.t 61),.aC 7 (.t 62)]) .skip))))))) (.ops [.bin 63 .add (.t 12) (.c (.int .i64 1)),.aj 12 (.t 63)]))))
def Jc:ak :=
(.clean [0,1,2,3,7,11,12] [5,6,7] (.block 0 (.loop [0,1,2,3,7,11,12] yB)))
def VW:jd:=⟨4,65,[.tmp 5,.tmp 6],(.seq (.ops [.aC 5 (.c (.int .i64 0)),.aC 6 (.c (.bool false))]) (.seq (.ops [.aC 7 (.c (.int .i64 0))]) (.seq (.seq (.ops [.load 11 none (.t 1),.aj 12 (.c (.int .i64 0))])
   Jc) (.seq (.ops [.aj 64 (.t 7),.aC 5 (.t 64),.aC 6 (.c (.bool true))]) .ret))))⟩
def Zq:jd:=⟨2,14,[.tmp 4],(.seq (.ops [.box 2 (.t 0),.box 3 (.t 1),.aC 4 (.c (.int .i64 0))]) (.seq (.ops [.load 8 (some 4) (.t 2),.load 9 (some 4) (.t 3),.call 10 47 [(.t 8),(.t 9)],.aj 7 (.t 10),.ext 11 (.t 7) 0,.ext 12 (.t 7) 1,.aC 5 (.t 11),.aC 6 (.t 12)]) (.seq (.ops [.aj 13 (.t 6),.aC 4 (.t 13)]) .ret)))⟩
def ado:jd:=⟨1,8,[.tmp 2],(.seq (.ops [.aC 2 (.nil 1)]) (.seq (.seq (.ops [.aj 3 (.t 0),.Ul 4 false (.t 3)]) (.cond (.t 4) (.seq (.ops [.aC 2 (.nil 1)]) .ret) .skip)) (.seq (.ops [.jo 5 1 [],.aj 6 (.t 0),.app 7 1 (.t 5) (.t 6),.aC 2 (.t 7)]) .ret)))⟩
def Jd:ak:=(.seq (.seq (.ops [.aj 7 (.t 3),.aj 8 (.t 0),.len 9 (.t 8),.bin 10 .lss (.t 7) (.t 9)]) (.cond (.t 10) .skip (.exit 0))) (.seq (.block 1 (.seq (.ops [.aj 13 (.t 0),.aj 14 (.t 3),.bC 15 1 (.t 13) (.t 14),.load 16 none (.t 15),.len 17 (.t 16),.bin 18 .gtr (.t 17) (.c (.int .i64 24))]) (.cond (.t 18) (.seq (.ops [.aC 2 (.c (.bool false))]) .ret) .skip))) (.ops [.aj 11 (.t 3),.bin 12 .add (.t 11) (.c (.int .i64 1)),.aC 3 (.t 12)])))
def Je:ak :=
(.clean [0,3] [2] (.block 0 (.loop [0,3] Jd)))
def Zr:jd:=⟨1,19,[.tmp 2],(.seq (.ops [.aC 2 (.c (.bool false))]) (.seq (.seq (.ops [.aj 4 (.t 0),.len 5 (.t 4),.bin 6 .gtr (.t 5) (.c (.int .i64 9))]) (.cond (.t 6) (.seq (.ops [.aC 2 (.c (.bool false))]) .ret) .skip)) (.seq (.seq (.ops [.aC 3 (.c (.int .i64 0))])
   Je) (.seq (.ops [.aC 2 (.c (.bool true))]) .ret))))⟩
def adp:ak:=(.seq (.ops [.bin 14 .lss (.t 13) (.t 12)]) (.seq (.cond (.t 14) .skip (.exit 0)) (.seq (.block 1 (.seq (.ops [.aj 15 (.t 13),.aC 5 (.t 15)]) (.seq (.uT [] [] none [0,1,2,3,4,5,6,7,8] [.aj 16 (.t 0),.aj 17 (.t 5),.bC 18 2 (.t 16) (.t 17),.load 19 (some 2) (.t 18),.aj 20 (.t 1),.aj 21 (.t 5),.bC 22 2 (.t 20) (.t 21),.load 23 (some 2) (.t 22),.Ou 24 true 2 (.t 19) (.t 23)]) (.cond (.t 24) (.seq (.ops [.aC 4 (.c (.bool false))]) .ret) .skip)))) (.ops [.bin 25 .add (.t 13) (.c (.int .i64 1)),.aj 13 (.t 25)]))))
def adq:ak :=
(.clean [0,1,12,13] [4] (.block 0 (.loop [0,1,12,13] adp)))
def afJ:jd:=⟨2,26,[.tmp 4],(.seq (.ops [.aC 4 (.c (.bool false))]) (.seq (.seq (.ops [.aj 6 (.t 0),.len 7 (.t 6),.aj 8 (.t 1),.len 9 (.t 8),.bin 10 .neq (.t 7) (.t 9)]) (.cond (.t 10) (.seq (.ops [.aC 4 (.c (.bool false))]) .ret) .skip)) (.seq (.seq (.ops [.aj 11 (.t 0),.len 12 (.t 11),.aj 13 (.c (.int .i64 0))])
   adq) (.seq (.ops [.aC 4 (.c (.bool true))]) .ret))))⟩
def Zt:jd:=⟨2,8,[.tmp 4],(.seq (.ops [.aC 4 (.c (.bool false))]) (.seq (.ops [.aj 5 (.t 0),.aj 6 (.t 1),.call 7 77 [(.t 5),(.t 6),(.c (.func 79 []))],.aC 4 (.t 7)]) .ret))⟩
def Jf:ak:=(.seq (.ops [.bin 16 .lss (.t 15) (.t 14)]) (.seq (.cond (.t 16) .skip (.exit 0)) (.seq (.block 1 (.seq (.ops [.aj 17 (.t 15),.aC 6 (.t 17)]) (.seq (.drs [] [2,3,5,6,7,12,14,15] [.aU 19 (.t 2) 2,.load 20 none (.t 19),.aj 21 (.t 6),.bC 22 2 (.t 20) (.t 21),.load 23 (some 2) (.t 22),.aU 24 (.t 3) 2,.load 25 none (.t 24),.aj 26 (.t 6),.bC 27 2 (.t 25) (.t 26),.load 28 (some 2) (.t 27),.call 29 80 [(.t 23),(.t 28)],.aj 18 (.t 29),.ext 30 (.t 18) 0,.ext 31 (.t 18) 1,.alloc 7 [(.int .i64 0),(.list 1 [])],.store none 2 (.t 7) (.t 30),.aC 8 (.t 31)]
    [⟨[([0,1,2,3,4,5,6,7,8,9],10),([11,12,13],14)],(some ([],[],15,[])),[16],[0,1,2,3,4,5,6,7,8,9,10,11,12,13,14,15,16],false⟩,⟨[([0,1,2,3,4,5,6,7,8,9],14),([],10)],(some ([11,12],[13],15,[])),[16],[0,1,2,3,4,5,6,7,8,9,14,10,11,12,13,15,16],false⟩]) (.ops [.aj 32 (.t 5),.aj 33 (.t 6),.load 34 (some 2) (.t 7),.call 35 81 [(.t 34)],.bC 36 1 (.t 32) (.t 33),.store none 1 (.t 36) (.t 35)])))) (.ops [.bin 37 .add (.t 15) (.c (.int .i64 1)),.aj 15 (.t 37)]))))
def Jg:ak :=
(.clean [2,3,5,12,14,15] [4,5] (.block 0 (.loop [2,3,5,12,14,15] Jf)))
def Zu:jd:=⟨2,39,[.tmp 4],(.seq (.ops [.box 2 (.t 0),.box 3 (.t 1),.aC 4 (.nil 1)]) (.seq (.ops [.aU 9 (.t 2) 2,.load 10 none (.t 9),.len 11 (.t 10),.make 12 (.list 0 []) (.t 11) (.t 11),.aC 5 (.t 12)]) (.seq (.seq (.ops [.aj 13 (.t 5),.len 14 (.t 13),.aj 15 (.c (.int .i64 0))])
   Jg) (.seq (.ops [.aj 38 (.t 5),.aC 4 (.t 38)]) .ret))))⟩
def vJ:ak:=(.seq (.seq (.ops [.aj 19 (.t 10),.aU 20 (.t 2) 3,.load 21 none (.t 20),.aj 22 (.t 8),.bC 23 1 (.t 21) (.t 22),.load 24 none (.t 23),.len 25 (.t 24),.bin 26 .lss (.t 19) (.t 25)]) (.cond (.t 26) .skip (.exit 2))) (.seq (.block 3 (.seq (.seq (.ops [.load 29 (some 4) (.t 2),.load 30 (some 4) (.t 3),.aj 31 (.t 8),.aj 32 (.t 10),.call 33 65 [(.t 29),(.t 30),(.t 31),(.t 32)],.un 34 .not (.t 33)]) (.cond (.t 34) (.exit 3) .skip)) (.seq (.ops [.aj 35 (.t 7),.bin 36 .add (.t 35) (.c (.int .i64 1)),.aC 7 (.t 36)]) (.seq (.ops [.aj 37 (.t 9),.len 38 (.t 37),.aC 11 (.t 38)]) (.seq (.uT [] [] none [0,1,2,3,4,5,6,7,8,9,10,11,12,13,14,15,16,17,18] [.aj 39 (.t 11),.bin 40 .gtr (.t 39) (.c (.int .i64 0)),.aj 41 (.t 40),.grd 41 true (.aj 42 (.t 9)),.grd 41 true (.aj 43 (.t 11)),.grd 41 true (.bin 44 .sub (.t 43) (.c (.int .i64 1))),.grd 41 true (.bC 45 2 (.t 42) (.t 44)),.grd 41 true (.aU 46 (.t 45) 0),.grd 41 true (.load 47 none (.t 46)),.grd 41 true (.aj 48 (.t 9)),.grd 41 true (.aj 49 (.t 11)),.grd 41 true (.bin 50 .sub (.t 49) (.c (.int .i64 1))),.grd 41 true (.bC 51 2 (.t 48) (.t 50)),.grd 41 true (.aU 52 (.t 51) 1),.grd 41 true (.load 53 none (.t 52)),.grd 41 true (.bin 54 .add (.t 47) (.t 53)),.grd 41 true (.aj 55 (.t 10)),.grd 41 true (.bin 56 .eql (.t 54) (.t 55)),.pick 57 (.t 41) (.t 56) (.c (.bool false))]) (.cond (.t 57) (.ops [.aj 58 (.t 9),.aj 59 (.t 11),.bin 60 .sub (.t 59) (.c (.int .i64 1)),.bC 61 2 (.t 58) (.t 60),.aU 62 (.t 61) 1,.load 63 none (.t 62),.bin 64 .add (.t 63) (.c (.int .i64 1)),.bC 65 2 (.t 58) (.t 60),.aU 66 (.t 65) 1,.store none 1 (.t 66) (.t 64)]) (.ops [.aj 67 (.t 9),.aj 68 (.t 10),.build 69 [(.int .i64 0),(.int .i64 0)] [(0,1,(.t 68)),(1,1,(.c (.int .i64 1)))],.jo 70 2 [(.t 69)],.app 71 2 (.t 67) (.t 70),.aC 9 (.t 71)]))))))) (.ops [.aj 27 (.t 10),.bin 28 .add (.t 27) (.c (.int .i64 1)),.aC 10 (.t 28)])))
def Jh:ak :=
(.clean [2,3,6,7,8,9,10,71,75] [2,3,4,5,6,7,8,9,71,75] (.block 2 (.loop [2,3,6,7,8,9,10,71,75] vJ)))
def Ji:ak:=(.seq (.seq (.ops [.aj 12 (.t 8),.aU 13 (.t 2) 3,.load 14 none (.t 13),.len 15 (.t 14),.bin 16 .lss (.t 12) (.t 15)]) (.cond (.t 16) .skip (.exit 0))) (.seq (.block 1 (.seq (.ops [.aC 9 (.nil 2)]) (.seq (.seq (.ops [.aC 10 (.c (.int .i64 0))])
    Jh) (.ops [.aj 72 (.t 6),.aj 73 (.t 9),.jo 74 1 [(.t 73)],.app 75 1 (.t 72) (.t 74),.aC 6 (.t 75)])))) (.ops [.aj 17 (.t 8),.bin 18 .add (.t 17) (.c (.int .i64 1)),.aC 8 (.t 18)])))
def Jj:ak :=
(.clean [2,3,6,7,8,71,75] [4,5,6,7] (.block 0 (.loop [2,3,6,7,8,71,75] Ji)))
def Zv:jd:=⟨2,78,[.tmp 4,.tmp 5],(.seq (.ops [.box 2 (.t 0),.box 3 (.t 1),.aC 4 (.nil 1),.aC 5 (.c (.int .i64 0))]) (.seq (.ops [.aC 6 (.nil 1)]) (.seq (.ops [.aC 7 (.c (.int .i64 0))]) (.seq (.seq (.ops [.aC 8 (.c (.int .i64 0))])
   Jj) (.seq (.ops [.aj 76 (.t 6),.aj 77 (.t 7),.aC 4 (.t 76),.aC 5 (.t 77)]) .ret)))))⟩
def Zw:jd:=⟨2,12,[.tmp 4],(.seq (.ops [.aC 4 (.c (.bool false))]) (.seq (.ops [.aj 5 (.t 0),.aj 6 (.t 1),.bin 7 .geq (.t 5) (.t 6),.aj 8 (.t 7),.grd 8 true (.aj 9 (.t 0)),.grd 8 true (.bin 10 .leq (.t 9) (.c (.int .i64 1073741824))),.pick 11 (.t 8) (.t 10) (.c (.bool false)),.aC 4 (.t 11)]) .ret))⟩
def qo:ak:=(.seq (.ops [.bin 10 .lss (.t 9) (.t 8)]) (.seq (.cond (.t 10) .skip (.exit 0)) (.seq (.block 1 (.seq (.ops [.bC 11 3 (.t 7) (.t 9),.load 12 (some 3) (.t 11),.alloc 5 [(.int .i64 0),(.int .i64 0),(.int .i64 0)],.store none 3 (.t 5) (.t 12)]) (.seq (.seq (.ops [.aU 13 (.t 5) 1,.load 14 none (.t 13),.aU 15 (.t 3) 2,.load 16 none (.t 15),.bin 17 .add (.t 16) (.c (.int .i64 1)),.bin 18 .neq (.t 14) (.t 17),.aj 19 (.t 18),.grd 19 false (.aU 20 (.t 5) 2),.grd 19 false (.load 21 none (.t 20)),.grd 19 false (.aU 22 (.t 5) 1),.grd 19 false (.load 23 none (.t 22)),.grd 19 false (.bin 24 .lss (.t 21) (.t 23)),.pick 25 (.t 19) (.c (.bool true)) (.t 24),.aj 26 (.t 25),.grd 26 false (.aU 27 (.t 5) 2),.grd 26 false (.load 28 none (.t 27)),.grd 26 false (.bin 29 .gtr (.t 28) (.c (.int .i64 1073741824))),.pick 30 (.t 26) (.c (.bool true)) (.t 29),.aj 31 (.t 30),.grd 31 false (.aU 32 (.t 5) 0),.grd 31 false (.load 33 none (.t 32)),.grd 31 false (.call 34 48 [(.t 33),(.c (.int .i64 1))]),.grd 31 false (.un 35 .not (.t 34)),.pick 36 (.t 31) (.c (.bool true)) (.t 35),.aj 37 (.t 36),.grd 37 false (.aU 38 (.t 5) 0),.grd 37 false (.load 39 none (.t 38)),.grd 37 false (.aU 40 (.t 3) 0),.grd 37 false (.load 41 none (.t 40)),.grd 37 false (.bin 42 .leq (.t 39) (.t 41)),.pick 43 (.t 37) (.c (.bool true)) (.t 42)]) (.cond (.t 43) (.seq (.ops [.aC 2 (.c (.bool false))]) .ret) .skip)) (.ops [.load 44 (some 3) (.t 5),.store none 3 (.t 3) (.t 44)])))) (.ops [.bin 45 .add (.t 9) (.c (.int .i64 1)),.aj 9 (.t 45)]))))
def Jk:ak :=
(.clean [0,3,7,8,9] [2] (.block 0 (.loop [0,3,7,8,9] qo)))
def Zx:jd:=⟨1,46,[.tmp 2],(.seq (.ops [.aC 2 (.c (.bool false))]) (.seq (.ops [.build 6 [(.int .i64 0),(.int .i64 0),(.int .i64 0)] [],.alloc 3 [(.int .i64 0),(.int .i64 0),(.int .i64 0)],.store none 3 (.t 3) (.t 6)]) (.seq (.seq (.ops [.aj 7 (.t 0),.len 8 (.t 7),.aj 9 (.c (.int .i64 0))])
   Jk) (.seq (.ops [.aC 2 (.c (.bool true))]) .ret))))⟩
def Zy:jd:=⟨1,6,[.tmp 2],(.seq (.ops [.aC 2 (.c (.int .i64 0))]) (.seq (.ops [.aj 3 (.t 0),.call 4 83 [(.t 3)],.call 5 82 [(.t 4)],.aC 2 (.t 5)]) .ret))⟩
def E5:jd:=⟨1,39,[.tmp 2],(.seq (.ops [.box 1 (.t 0),.aC 2 (.c (.int .i64 0))]) (.seq (.seq (.uT [] [([0,1,2,3,4,5,6,7,8,9,10,11,12,13],14)] none [15,16] [.aU 4 (.t 1) 0,.load 5 none (.t 4),.bin 6 .lss (.t 5) (.c (.int .i64 0)),.aj 7 (.t 6),.grd 7 false (.aU 8 (.t 1) 0),.grd 7 false (.load 9 none (.t 8)),.grd 7 false (.bin 10 .gtr (.t 9) (.c (.int .i64 4096))),.pick 11 (.t 7) (.c (.bool true)) (.t 10),.aj 12 (.t 11),.grd 12 false (.aU 13 (.t 1) 1),.grd 12 false (.load 14 none (.t 13)),.grd 12 false (.len 15 (.t 14)),.grd 12 false (.aU 16 (.t 1) 0),.grd 12 false (.load 17 none (.t 16)),.grd 12 false (.call 18 84 [(.t 17)]),.grd 12 false (.bin 19 .neq (.t 15) (.t 18)),.pick 20 (.t 12) (.c (.bool true)) (.t 19)]) (.cond (.t 20) (.seq (.ops [.aC 2 (.c (.int .i64 3))]) .ret) .skip)) (.seq (.seq (.ops [.aU 21 (.t 1) 0,.load 22 none (.t 21),.bin 23 .rem (.t 22) (.c (.int .i64 64)),.aC 3 (.t 23)]) (.seq (.ops [.aj 24 (.t 3),.bin 25 .gtr (.t 24) (.c (.int .i64 0)),.aj 26 (.t 25),.grd 26 true (.aU 27 (.t 1) 1),.grd 26 true (.load 28 none (.t 27)),.grd 26 true (.aU 29 (.t 1) 1),.grd 26 true (.load 30 none (.t 29)),.grd 26 true (.len 31 (.t 30)),.grd 26 true (.bin 32 .sub (.t 31) (.c (.int .i64 1))),.grd 26 true (.bC 33 1 (.t 28) (.t 32)),.grd 26 true (.load 34 none (.t 33)),.grd 26 true (.aj 35 (.t 3)),.grd 26 true (.bin 36 .shr (.t 34) (.t 35)),.grd 26 true (.bin 37 .neq (.t 36) (.c (.int .u64 0))),.pick 38 (.t 26) (.t 37) (.c (.bool false))]) (.cond (.t 38) (.seq (.ops [.aC 2 (.c (.int .i64 3))]) .ret) .skip))) (.seq (.ops [.aC 2 (.c (.int .i64 0))]) .ret))))⟩
def Bl:ak:=(.seq (.seq (.ops [.aj 24 (.t 3),.aU 25 (.t 1) 1,.load 26 none (.t 25),.len 27 (.t 26),.bin 28 .mul (.c (.int .i64 64)) (.t 27),.bin 29 .lss (.t 24) (.t 28)]) (.cond (.t 29) .skip (.exit 0))) (.seq (.block 1 (.seq (.ops [.load 32 (some 2) (.t 1),.aj 33 (.t 3),.call 34 87 [(.t 32),(.t 33)]]) (.cond (.t 34) (.seq (.ops [.aC 2 (.c (.int .i64 3))]) .ret) .skip))) (.ops [.aj 30 (.t 3),.bin 31 .add (.t 30) (.c (.int .i64 1)),.aC 3 (.t 31)])))
def Jl:ak :=
(.clean [1,3] [2] (.block 0 (.loop [1,3] Bl)))
def MX:jd:=⟨1,35,[.tmp 2],(.seq (.ops [.box 1 (.t 0),.aC 2 (.c (.int .i64 0))]) (.seq (.seq (.ops [.aU 4 (.t 1) 0,.load 5 none (.t 4),.bin 6 .lss (.t 5) (.c (.int .i64 0)),.aj 7 (.t 6),.grd 7 false (.aU 8 (.t 1) 0),.grd 7 false (.load 9 none (.t 8)),.grd 7 false (.bin 10 .gtr (.t 9) (.c (.int .i64 4096))),.pick 11 (.t 7) (.c (.bool true)) (.t 10),.aj 12 (.t 11),.grd 12 false (.aU 13 (.t 1) 1),.grd 12 false (.load 14 none (.t 13)),.grd 12 false (.len 15 (.t 14)),.grd 12 false (.aU 16 (.t 1) 0),.grd 12 false (.load 17 none (.t 16)),.grd 12 false (.bin 18 .add (.t 17) (.c (.int .i64 63))),.grd 12 false (.bin 19 .quo (.t 18) (.c (.int .i64 64))),.grd 12 false (.bin 20 .neq (.t 15) (.t 19)),.pick 21 (.t 12) (.c (.bool true)) (.t 20)]) (.cond (.t 21) (.seq (.ops [.aC 2 (.c (.int .i64 3))]) .ret) .skip)) (.seq (.seq (.ops [.aU 22 (.t 1) 0,.load 23 none (.t 22),.aC 3 (.t 23)])
   Jl) (.seq (.ops [.aC 2 (.c (.int .i64 0))]) .ret))))⟩
def Bo:ak:=(.seq (.ops [.bin 11 .lss (.t 10) (.t 9)]) (.seq (.cond (.t 11) .skip (.exit 0)) (.seq (.block 1 (.seq (.ops [.bC 12 4 (.t 8) (.t 10),.load 13 (some 4) (.t 12),.alloc 4 [(.int .i64 0),(.list 0 []),(.list 0 []),(.list 0 [])],.store none 4 (.t 4) (.t 13)]) (.seq (.ops [.load 14 (some 4) (.t 4),.call 15 15 [(.t 14)],.aC 5 (.t 15)]) (.seq (.ops [.aj 16 (.t 5),.bin 17 .neq (.t 16) (.c (.int .i64 0))]) (.cond (.t 17) (.seq (.ops [.aj 18 (.t 5),.aC 2 (.t 18)]) .ret) .skip))))) (.ops [.bin 19 .add (.t 10) (.c (.int .i64 1)),.aj 10 (.t 19)]))))
def Jm:ak :=
(.clean [0,8,9,10] [0,2] (.block 0 (.loop [0,8,9,10] Bo)))
def Bq:ak:=(.seq (.ops [.bin 31 .lss (.t 30) (.t 29)]) (.seq (.cond (.t 31) .skip (.exit 2)) (.seq (.block 3 (.seq (.ops [.bC 32 4 (.t 28) (.t 30),.load 33 (some 4) (.t 32),.alloc 7 [(.int .i64 0),(.list 0 []),(.list 0 []),(.list 0 [])],.store none 4 (.t 7) (.t 33)]) (.seq (.uT [] [([0,1,2,3,4,5],6)] none [7] [.aU 34 (.t 7) 3,.load 35 none (.t 34),.aj 36 (.t 0),.bC 37 4 (.t 36) (.c (.int .i64 0)),.aU 38 (.t 37) 3,.load 39 none (.t 38),.call 40 44 [(.t 35),(.t 39)],.un 41 .not (.t 40)]) (.cond (.t 41) (.seq (.ops [.aC 2 (.c (.int .i64 22))]) .ret) .skip)))) (.ops [.bin 42 .add (.t 30) (.c (.int .i64 1)),.aj 30 (.t 42)]))))
def Jo:ak :=
(.clean [0,28,29,30] [2] (.block 2 (.loop [0,28,29,30] Bq)))
def Zz:jd:=⟨1,43,[.tmp 2],(.seq (.ops [.aC 2 (.c (.int .i64 0))]) (.seq (.seq (.ops [.aj 8 (.t 0),.len 9 (.t 8),.aj 10 (.c (.int .i64 0))])
  Jm) (.seq (.seq (.ops [.aj 20 (.t 0),.len 21 (.t 20),.bin 22 .lss (.t 21) (.c (.int .i64 1)),.aj 23 (.t 22),.grd 23 false (.aj 24 (.t 0)),.grd 23 false (.len 25 (.t 24)),.grd 23 false (.bin 26 .gtr (.t 25) (.c (.int .i64 4))),.pick 27 (.t 23) (.c (.bool true)) (.t 26)]) (.cond (.t 27) (.seq (.ops [.aC 2 (.c (.int .i64 6))]) .ret) .skip)) (.seq (.seq (.ops [.aj 28 (.t 0),.len 29 (.t 28),.aj 30 (.c (.int .i64 0))])
   Jo) (.seq (.ops [.aC 2 (.c (.int .i64 0))]) .ret)))))⟩
def adr:ak:=(.seq (.ops [.bin 13 .lss (.t 12) (.t 11)]) (.seq (.cond (.t 13) .skip (.exit 0)) (.seq (.block 1 (.seq (.ops [.aj 14 (.t 12),.bC 15 4 (.t 10) (.t 12),.load 16 (some 4) (.t 15),.alloc 9 [(.int .i64 0),(.list 0 []),(.list 0 []),(.list 0 [])],.aC 8 (.t 14),.store none 4 (.t 9) (.t 16)]) (.seq (.uT [] [([0,1],2),([3,4,5,6,7,8,9,10,11,12],13)] none [14,15,16] [.aj 17 (.t 1),.aj 18 (.t 8),.jP 19 (.t 17) [(.t 18)],.aj 20 (.t 19),.grd 20 true (.aj 21 (.t 7)),.grd 20 true (.bin 22 .lss (.t 21) (.c (.int .i64 0))),.grd 20 true (.aj 23 (.t 22)),.grd 23 false (.aj 24 (.t 2)),.grd 23 false (.load 25 (some 4) (.t 9)),.grd 23 false (.aj 26 (.t 0)),.grd 23 false (.aj 27 (.t 7)),.grd 23 false (.bC 28 4 (.t 26) (.t 27)),.grd 23 false (.load 29 (some 4) (.t 28)),.grd 23 false (.jP 30 (.t 24) [(.t 25),(.t 29)]),.grd 23 false (.bin 31 .gtr (.t 30) (.c (.int .i64 0))),.grd 20 true (.pick 32 (.t 23) (.c (.bool true)) (.t 31)),.pick 33 (.t 20) (.t 32) (.c (.bool false))]) (.cond (.t 33) (.ops [.aj 34 (.t 8),.aC 7 (.t 34)]) .skip)))) (.ops [.bin 35 .add (.t 12) (.c (.int .i64 1)),.aj 12 (.t 35)]))))
def ads:ak :=
(.clean [0,1,2,7,10,11,12] [6,7] (.block 0 (.loop [0,1,2,7,10,11,12] adr)))
def afK:jd:=⟨3,37,[.tmp 6],(.seq (.ops [.aC 6 (.c (.int .i64 0))]) (.seq (.ops [.aC 7 (.c (.int .i64 (-1)))]) (.seq (.seq (.ops [.aj 10 (.t 0),.len 11 (.t 10),.aj 12 (.c (.int .i64 0))])
   ads) (.seq (.ops [.aj 36 (.t 7),.aC 6 (.t 36)]) .ret))))⟩
def afL:jd:=⟨2,9,[.tmp 3],(.seq (.ops [.aC 3 (.c (.bool false))]) (.seq (.ops [.load 4 none (.t 1),.aj 5 (.t 0),.bC 6 1 (.t 4) (.t 5),.load 7 none (.t 6),.un 8 .not (.t 7),.aC 3 (.t 8)]) .ret))⟩
def afM:jd:=⟨2,16,[.tmp 4],(.seq (.ops [.box 2 (.t 0),.box 3 (.t 1),.aC 4 (.c (.int .i64 0))]) (.seq (.drs [] [5,6] [.aU 7 (.t 2) 1,.load 8 none (.t 7),.call 9 60 [(.t 8)],.aU 10 (.t 3) 1,.load 11 none (.t 10),.call 12 60 [(.t 11)],.alloc 5 [(.int .i64 0),(.int .i64 0)],.alloc 6 [(.int .i64 0),(.int .i64 0)],.store none 2 (.t 5) (.t 9),.store none 2 (.t 6) (.t 12)]
  [⟨[([0,1,3,4],2),([],5),([],6),([],7)],(some ([],[],8,[([],9)])),[],[0,1,3,4,2,5,6,7,8,9],false⟩,⟨[([0,1,3,4],2),([],5),([],7),([],6)],(some ([],[],8,[([],9)])),[],[0,1,3,4,2,5,7,6,8,9],true⟩,⟨[([0,1,3,4],2),([],6),([],5),([],7)],(some ([],[],8,[([],9)])),[],[0,1,3,4,2,6,5,7,8,9],false⟩,⟨[([0,1,3,4],2),([],6),([],7),([],5)],(some ([],[],8,[([],9)])),[],[0,1,3,4,2,6,7,5,8,9],false⟩,⟨[([0,1,3,4],2),([],7),([],5),([],6)],(some ([],[],8,[([],9)])),[],[0,1,3,4,2,7,5,6,8,9],true⟩,⟨[([0,1,3,4],2),([],7),([],6),([],5)],(some ([],[],8,[([],9)])),[],[0,1,3,4,2,7,6,5,8,9],true⟩,⟨[([0,1,3,4],6),([],2),([],5),([],7)],(some ([],[],8,[([],9)])),[],[0,1,3,4,6,2,5,7,8,9],false⟩,⟨[([0,1,3,4],6),([],2),([],7),([],5)],(some ([],[],8,[([],9)])),[],[0,1,3,4,6,2,7,5,8,9],false⟩,⟨[([0,1,3,4],6),([],7),([],2),([],5)],(some ([],[],8,[([],9)])),[],[0,1,3,4,6,7,2,5,8,9],false⟩,⟨[([0,1,3,4],7),([],2),([],5),([],6)],(some ([],[],8,[([],9)])),[],[0,1,3,4,7,2,5,6,8,9],true⟩,⟨[([0,1,3,4],7),([],2),([],6),([],5)],(some ([],[],8,[([],9)])),[],[0,1,3,4,7,2,6,5,8,9],true⟩,⟨[([0,1,3,4],7),([],6),([],2),([],5)],(some ([],[],8,[([],9)])),[],[0,1,3,4,7,6,2,5,8,9],true⟩]) (.seq (.uT [] [([0,1],2)] none [3] [.Xp 13 2 (.t 5),.Xp 14 2 (.t 6),.call 15 61 [(.t 13),(.t 14)],.aC 4 (.t 15)]) .ret)))⟩
def afN:jd:=⟨1,19,[.cell 2 (some 2)],(.seq (.ops [.alloc 2 [(.int .i64 0),(.int .i64 0)]]) (.seq (.seq (.ops [.aj 4 (.t 0),.len 5 (.t 4),.bin 6 .eql (.t 5) (.c (.int .i64 0))]) (.cond (.t 6) (.seq (.ops [.build 7 [(.int .i64 0),(.int .i64 0)] [],.store none 2 (.t 2) (.t 7)]) .ret) .skip)) (.seq (.ops [.aj 8 (.t 0),.aj 9 (.t 0),.len 10 (.t 9),.bin 11 .sub (.t 10) (.c (.int .i64 1)),.bC 12 3 (.t 8) (.t 11),.load 13 (some 3) (.t 12),.alloc 3 [(.int .i64 0),(.int .i64 0),(.int .i64 0)],.store none 3 (.t 3) (.t 13)]) (.seq (.ops [.aU 14 (.t 3) 0,.load 15 none (.t 14),.aU 16 (.t 3) 2,.load 17 none (.t 16),.build 18 [(.int .i64 0),(.int .i64 0)] [(0,1,(.t 15)),(1,1,(.t 17))],.store none 2 (.t 2) (.t 18)]) .ret))))⟩
def adt:ak:=(.seq (.ops [.bin 12 .lss (.t 11) (.t 10)]) (.seq (.cond (.t 12) .skip (.exit 0)) (.seq (.block 1 (.seq (.ops [.aj 13 (.t 11),.bC 14 1 (.t 9) (.t 11),.load 15 none (.t 14),.aC 5 (.t 13),.aC 6 (.t 15)]) (.seq (.seq (.ops [.aj 16 (.t 5),.aj 17 (.t 1),.len 18 (.t 17),.bin 19 .geq (.t 16) (.t 18)]) (.cond (.t 19) (.seq (.ops [.aC 4 (.c (.int .i64 1))]) .ret) .skip)) (.seq (.ops [.aj 20 (.t 1),.aj 21 (.t 5),.bC 22 1 (.t 20) (.t 21),.load 23 none (.t 22),.aC 7 (.t 23)]) (.seq (.ops [.aj 24 (.t 6),.aj 25 (.t 7),.call 26 88 [(.t 24),(.t 25)],.aC 8 (.t 26)]) (.seq (.ops [.aj 27 (.t 8),.bin 28 .neq (.t 27) (.c (.int .i64 0))]) (.cond (.t 28) (.seq (.ops [.aj 29 (.t 8),.aC 4 (.t 29)]) .ret) .skip))))))) (.ops [.bin 30 .add (.t 11) (.c (.int .i64 1)),.aj 11 (.t 30)]))))
def adu:ak :=
(.clean [0,1,9,10,11] [0,1,4] (.block 0 (.loop [0,1,9,10,11] adt)))
def afO:jd:=⟨2,36,[.tmp 4],(.seq (.ops [.aC 4 (.c (.int .i64 0))]) (.seq (.seq (.ops [.aj 9 (.t 0),.len 10 (.t 9),.aj 11 (.c (.int .i64 0))])
  adu) (.seq (.seq (.ops [.aj 31 (.t 0),.len 32 (.t 31),.aj 33 (.t 1),.len 34 (.t 33),.bin 35 .lss (.t 32) (.t 34)]) (.cond (.t 35) (.seq (.ops [.aC 4 (.c (.int .i64 (-1)))]) .ret) .skip)) (.seq (.ops [.aC 4 (.c (.int .i64 0))]) .ret))))⟩
def VX:jd:=⟨4,25,[.tmp 8],(.seq (.ops [.box 4 (.t 0),.box 5 (.t 1),.aC 8 (.c (.bool false))]) (.seq (.ops [.aU 9 (.t 4) 2,.load 10 none (.t 9),.aj 11 (.t 2),.bC 12 2 (.t 10) (.t 11),.load 13 (some 2) (.t 12),.aj 14 (.t 3),.call 15 89 [(.t 13),(.t 14)],.aj 16 (.t 15),.grd 16 false (.aU 17 (.t 5) 2),.grd 16 false (.load 18 none (.t 17)),.grd 16 false (.aj 19 (.t 2)),.grd 16 false (.bC 20 2 (.t 18) (.t 19)),.grd 16 false (.load 21 (some 2) (.t 20)),.grd 16 false (.aj 22 (.t 3)),.grd 16 false (.call 23 89 [(.t 21),(.t 22)]),.pick 24 (.t 16) (.c (.bool true)) (.t 23),.aC 8 (.t 24)]) .ret))⟩
def Bv:ak:=(.seq (.seq (.ops [.aj 14 (.t 6),.aj 15 (.t 0),.len 16 (.t 15),.bin 17 .lss (.t 14) (.t 16)]) (.cond (.t 17) .skip (.exit 0))) (.seq (.block 1 (.seq (.uT [] [([0,1,2,3,4,5],6)] none [7] [.aj 20 (.t 1),.aj 21 (.t 0),.aj 22 (.t 6),.bC 23 3 (.t 21) (.t 22),.load 24 (some 3) (.t 23),.load 25 (some 3) (.t 5),.jP 26 (.t 20) [(.t 24),(.t 25)],.bin 27 .lss (.t 26) (.c (.int .i64 0))]) (.cond (.t 27) (.ops [.aj 28 (.t 0),.aj 29 (.t 6),.bC 30 3 (.t 28) (.t 29),.load 31 (some 3) (.t 30),.store none 3 (.t 5) (.t 31)]) .skip))) (.ops [.aj 18 (.t 6),.bin 19 .add (.t 18) (.c (.int .i64 1)),.aC 6 (.t 19)])))
def Jp:ak :=
(.clean [0,1,4,5,6] [4,5] (.block 0 (.loop [0,1,4,5,6] Bv)))
def ZA:jd:=⟨2,33,[.cell 4 (some 3)],(.seq (.ops [.alloc 4 [(.int .i64 0),(.int .i64 0),(.int .i64 0)]]) (.seq (.seq (.ops [.aj 7 (.t 0),.len 8 (.t 7),.bin 9 .lss (.t 8) (.c (.int .i64 1))]) (.cond (.t 9) (.drs [] [] []
   []) .skip)) (.seq (.ops [.aj 11 (.t 0),.bC 12 3 (.t 11) (.c (.int .i64 0)),.load 13 (some 3) (.t 12),.alloc 5 [(.int .i64 0),(.int .i64 0),(.int .i64 0)],.store none 3 (.t 5) (.t 13)]) (.seq (.seq (.ops [.aC 6 (.c (.int .i64 1))])
   Jp) (.seq (.ops [.load 32 (some 3) (.t 5),.store none 3 (.t 4) (.t 32)]) .ret)))))⟩
def ZB:jd:=⟨1,5,[.tmp 2],(.seq (.ops [.aC 2 (.nil 3)]) (.seq (.ops [.aj 3 (.t 0),.call 4 90 [(.c (.jV 3)),(.t 3)],.aC 2 (.t 4)]) .ret))⟩
def ZC:jd:=⟨2,6,[.tmp 4],(.seq (.ops [.box 2 (.t 0),.box 3 (.t 1),.aC 4 (.c .tV)]) (.seq (.ops [.RZ 5 91 [(.t 2),(.t 3)],.aC 4 (.t 5)]) .ret))⟩
def ZE:jd:=⟨2,22,[.tmp 4],(.seq (.ops [.box 2 (.t 0),.box 3 (.t 1),.aC 4 (.c (.int .i64 0))]) (.seq (.uT [] [([0,1,2,3,5,6,7,8,10,11,12,13],4),([],9),([],14),([],15),([],16)] none [17] [.aU 5 (.t 2) 0,.load 6 none (.t 5),.aU 7 (.t 3) 0,.load 8 none (.t 7),.aU 10 (.t 2) 1,.load 11 none (.t 10),.aU 12 (.t 3) 1,.load 13 none (.t 12),.aU 15 (.t 2) 2,.load 16 none (.t 15),.aU 17 (.t 3) 2,.load 18 none (.t 17),.call 9 88 [(.t 6),(.t 8)],.call 14 88 [(.t 11),(.t 13)],.call 19 88 [(.t 16),(.t 18)],.jo 20 1 [(.t 9),(.t 14),(.t 19)],.call 21 93 [(.t 20)],.aC 4 (.t 21)]) .ret))⟩
def adv:ak:=(.seq (.seq (.ops [.aj 11 (.t 5),.aj 12 (.t 0),.len 13 (.t 12),.bin 14 .lss (.t 11) (.t 13)]) (.cond (.t 14) .skip (.exit 0))) (.seq (.block 1 (.seq (.uT [] [] none [0,1,2,3,4,5,6,7,8] [.aj 17 (.t 0),.aj 18 (.t 5),.bC 19 8 (.t 17) (.t 18),.load 20 (some 8) (.t 19),.aj 21 (.t 1),.aj 22 (.t 5),.bC 23 8 (.t 21) (.t 22),.load 24 (some 8) (.t 23),.Ou 25 true 8 (.t 20) (.t 24)]) (.cond (.t 25) (.seq (.ops [.aC 4 (.c (.bool false))]) .ret) .skip))) (.ops [.aj 15 (.t 5),.bin 16 .add (.t 15) (.c (.int .i64 1)),.aC 5 (.t 16)])))
def adw:ak :=
(.clean [0,1,5] [4] (.block 0 (.loop [0,1,5] adv)))
def afP:jd:=⟨2,26,[.tmp 4],(.seq (.ops [.aC 4 (.c (.bool false))]) (.seq (.seq (.ops [.aj 6 (.t 0),.len 7 (.t 6),.aj 8 (.t 1),.len 9 (.t 8),.bin 10 .neq (.t 7) (.t 9)]) (.cond (.t 10) (.seq (.ops [.aC 4 (.c (.bool false))]) .ret) .skip)) (.seq (.seq (.ops [.aC 5 (.c (.int .i64 0))])
   adw) (.seq (.ops [.aC 4 (.c (.bool true))]) .ret))))⟩
def Bz:ak:=(.seq (.seq (.ops [.aj 14 (.t 8),.aj 15 (.t 1),.len 16 (.t 15),.bin 17 .lss (.t 14) (.t 16),.aj 18 (.t 17),.grd 18 true (.aj 19 (.t 7)),.grd 18 true (.bin 20 .eql (.t 19) (.c (.int .i64 0))),.pick 21 (.t 18) (.t 20) (.c (.bool false))]) (.cond (.t 21) .skip (.exit 0))) (.seq (.block 1 (.uT [] [([0,1,2,3,4],5)] (some ([6,7],[8],9,[])) [10] [.load 25 (some 2) (.t 6),.aj 26 (.t 1),.aj 27 (.t 8),.bC 28 2 (.t 26) (.t 27),.load 29 (some 2) (.t 28),.call 30 95 [(.t 25),(.t 29)],.aj 24 (.t 30),.ext 31 (.t 24) 0,.ext 32 (.t 24) 1,.store none 2 (.t 6) (.t 31),.aC 7 (.t 32)])) (.ops [.aj 22 (.t 8),.bin 23 .add (.t 22) (.c (.int .i64 1)),.aC 8 (.t 23)])))
def Jq:ak :=
(.clean [1,4,6,7,8] [4,5,6,7] (.block 0 (.loop [1,4,6,7,8] Bz)))
def ZF:jd:=⟨2,35,[.cell 4 (some 2),.tmp 5],(.seq (.ops [.alloc 4 [(.int .i64 0),(.list 1 [])],.aC 5 (.c (.int .i64 0))]) (.seq (.ops [.aj 10 (.t 0),.call 11 94 [(.t 10)],.aj 9 (.t 11),.ext 12 (.t 9) 0,.ext 13 (.t 9) 1,.alloc 6 [(.int .i64 0),(.list 1 [])],.store none 2 (.t 6) (.t 12),.aC 7 (.t 13)]) (.seq (.seq (.ops [.aC 8 (.c (.int .i64 0))])
   Jq) (.seq (.ops [.load 33 (some 2) (.t 6),.aj 34 (.t 7),.store none 2 (.t 4) (.t 33),.aC 5 (.t 34)]) .ret))))⟩
def Jr:ak:=(.seq (.ops [.bin 18 .lss (.t 17) (.t 16)]) (.seq (.cond (.t 18) .skip (.exit 0)) (.seq (.block 1 (.seq (.ops [.aj 19 (.t 17),.bC 20 1 (.t 15) (.t 17),.load 21 none (.t 20),.aC 7 (.t 19),.aC 8 (.t 21)]) (.seq (.ops [.aj 22 (.t 1),.aj 23 (.t 7),.bC 24 1 (.t 22) (.t 23),.load 25 none (.t 24),.aC 9 (.t 25)]) (.seq (.ops [.aj 26 (.t 2),.aj 27 (.t 8),.aj 28 (.t 9),.jP 29 (.t 26) [(.t 27),(.t 28)],.un 30 .not (.t 29)]) (.cond (.t 30) (.seq (.ops [.aC 6 (.c (.bool false))]) .ret) .skip))))) (.ops [.bin 31 .add (.t 17) (.c (.int .i64 1)),.aj 17 (.t 31)]))))
def Js:ak :=
(.clean [0,1,2,15,16,17] [6] (.block 0 (.loop [0,1,2,15,16,17] Jr)))
def ZG:jd:=⟨3,32,[.tmp 6],(.seq (.ops [.aC 6 (.c (.bool false))]) (.seq (.seq (.ops [.aj 10 (.t 0),.len 11 (.t 10),.aj 12 (.t 1),.len 13 (.t 12),.bin 14 .neq (.t 11) (.t 13)]) (.cond (.t 14) (.seq (.ops [.aC 6 (.c (.bool false))]) .ret) .skip)) (.seq (.seq (.ops [.aj 15 (.t 0),.len 16 (.t 15),.aj 17 (.c (.int .i64 0))])
   Js) (.seq (.ops [.aC 6 (.c (.bool true))]) .ret))))⟩
def VY:jd:=⟨2,10,[.tmp 4],(.seq (.ops [.aC 4 (.c (.bool false))]) (.seq (.ops [.aj 5 (.t 0),.len 6 (.t 5),.aj 7 (.t 1),.len 8 (.t 7),.bin 9 .eql (.t 6) (.t 8),.aC 4 (.t 9)]) .ret))⟩
def ZH:jd:=⟨2,11,[.cell 4 (some 2),.tmp 5],(.seq (.ops [.box 2 (.t 0),.box 3 (.t 1),.alloc 4 [(.int .i64 0),(.list 1 [])],.aC 5 (.c (.int .i64 0))]) (.seq (.ops [.load 6 (some 2) (.t 2),.load 7 (some 2) (.t 3),.call 8 99 [(.t 6),(.t 7),(.c (.func 100 []))],.ext 9 (.t 8) 0,.ext 10 (.t 8) 1,.store none 2 (.t 4) (.t 9),.aC 5 (.t 10)]) .ret))⟩
def BA:ak:=(.ops [.aC 4 (.t 8)])
def BD:ak:=(.block 1 (.seq (.seq (.ops [.load 9 none (.t 3),.len 10 (.t 9),.aC 5 (.t 10)]) (.seq (.uT [] [] none [0,1,2,3,4,5,6,7,8,9,10,11,12,13,14,15,16,17,18] [.aj 11 (.t 5),.bin 12 .gtr (.t 11) (.c (.int .i64 0)),.aj 13 (.t 12),.grd 13 true (.load 14 none (.t 3)),.grd 13 true (.aj 15 (.t 5)),.grd 13 true (.bin 16 .sub (.t 15) (.c (.int .i64 1))),.grd 13 true (.bC 17 2 (.t 14) (.t 16)),.grd 13 true (.aU 18 (.t 17) 0),.grd 13 true (.load 19 none (.t 18)),.grd 13 true (.load 20 none (.t 3)),.grd 13 true (.aj 21 (.t 5)),.grd 13 true (.bin 22 .sub (.t 21) (.c (.int .i64 1))),.grd 13 true (.bC 23 2 (.t 20) (.t 22)),.grd 13 true (.aU 24 (.t 23) 1),.grd 13 true (.load 25 none (.t 24)),.grd 13 true (.bin 26 .add (.t 19) (.t 25)),.grd 13 true (.aj 27 (.t 4)),.grd 13 true (.bin 28 .eql (.t 26) (.t 27)),.pick 29 (.t 13) (.t 28) (.c (.bool false))]) (.cond (.t 29) (.seq (.ops [.load 30 none (.t 3),.aj 31 (.t 5),.bin 32 .sub (.t 31) (.c (.int .i64 1)),.bC 33 2 (.t 30) (.t 32),.aU 34 (.t 33) 1,.load 35 none (.t 34),.bin 36 .add (.t 35) (.c (.int .i64 1)),.bC 37 2 (.t 30) (.t 32),.aU 38 (.t 37) 1,.store none 1 (.t 38) (.t 36)]) (.exit 1)) .skip))) (.ops [.load 39 none (.t 3),.aj 40 (.t 4),.build 41 [(.int .i64 0),(.int .i64 0)] [(0,1,(.t 40)),(1,1,(.c (.int .i64 1)))],.jo 42 2 [(.t 41)],.app 43 2 (.t 39) (.t 42),.store none 1 (.t 3) (.t 43)])))
def ZI:jd:=⟨1,45,[.tmp 2],(.seq (.ops [.box 1 (.t 0),.aC 2 (.nil 2)]) (.seq (.ops [.alloc 3 [(.list 2 [])]]) (.seq (.seq (.ops [.load 6 (some 2) (.t 1),.call 7 101 [(.t 6),(.c (.int .i64 0))]]) (.block 0 (.rng (.t 7) [8] BA BD))) (.seq (.ops [.load 44 none (.t 3),.aC 2 (.t 44)]) .ret))))⟩
def ZJ:jd:=⟨1,13,[.tmp 2],(.seq (.ops [.aC 2 (.c (.int .i64 0))]) (.seq (.seq (.ops [.aj 3 (.t 0),.len 4 (.t 3),.bin 5 .lss (.t 4) (.c (.int .i64 1)),.aj 6 (.t 5),.grd 6 false (.aj 7 (.t 0)),.grd 6 false (.len 8 (.t 7)),.grd 6 false (.bin 9 .gtr (.t 8) (.c (.int .i64 8))),.pick 10 (.t 6) (.c (.bool true)) (.t 9)]) (.cond (.t 10) (.seq (.ops [.aC 2 (.c (.int .i64 6))]) .ret) .skip)) (.seq (.seq (.ops [.aj 11 (.t 0),.call 12 102 [(.t 11),(.c (.func 103 []))]]) (.cond (.t 12) (.seq (.ops [.aC 2 (.c (.int .i64 2))]) .ret) .skip)) (.seq (.ops [.aC 2 (.c (.int .i64 0))]) .ret))))⟩
def ZK:jd:=⟨1,5,[.tmp 2],(.seq (.ops [.aC 2 (.nil 1)]) (.seq (.ops [.aj 3 (.t 0),.call 4 104 [(.t 3),(.c (.func 105 []))],.aC 2 (.t 4)]) .ret))⟩
def ZL:jd:=⟨1,7,[.tmp 2],(.seq (.ops [.aC 2 (.c (.int .i64 0))]) (.seq (.ops [.aj 3 (.t 0),.bin 4 .add (.t 3) (.c (.int .i64 64)),.bin 5 .sub (.t 4) (.c (.int .i64 1)),.bin 6 .quo (.t 5) (.c (.int .i64 64)),.aC 2 (.t 6)]) .ret))⟩
def ZM:jd:=⟨2,17,[.tmp 4],(.seq (.ops [.box 2 (.t 0),.aC 4 (.c (.bool false))]) (.seq (.ops [.aU 5 (.t 2) 1,.load 6 none (.t 5),.aj 7 (.t 1),.bin 8 .quo (.t 7) (.c (.int .i64 64)),.bC 9 1 (.t 6) (.t 8),.load 10 none (.t 9),.aj 11 (.t 1),.bin 12 .rem (.t 11) (.c (.int .i64 64)),.conv 13 .u64 (.t 12),.bin 14 .shr (.t 10) (.t 13),.bin 15 .and (.t 14) (.c (.int .u64 1)),.bin 16 .eql (.t 15) (.c (.int .u64 1)),.aC 4 (.t 16)]) .ret))⟩
def QU:jd:=⟨2,20,[.tmp 4],(.seq (.ops [.aC 4 (.c (.int .i64 0))]) (.seq (.ops [.aj 7 (.t 0),.call 8 106 [(.t 7)],.aC 5 (.t 8)]) (.seq (.ops [.aj 9 (.t 1),.call 10 106 [(.t 9)],.aC 6 (.t 10)]) (.seq (.seq (.ops [.aj 11 (.t 5)]) (.cond (.t 11) (.seq (.seq (.ops [.aj 12 (.t 6)]) (.cond (.t 12) (.seq (.ops [.aC 4 (.c (.int .i64 0))]) .ret) .skip)) (.seq (.ops [.aC 4 (.c (.int .i64 (-1)))]) .ret)) .skip)) (.seq (.seq (.ops [.aj 13 (.t 6)]) (.cond (.t 13) (.seq (.ops [.aC 4 (.c (.int .i64 1))]) .ret) .skip)) (.seq (.seq (.ops [.aj 14 (.t 0),.aj 15 (.t 1),.bin 16 .lss (.t 14) (.t 15)]) (.cond (.t 16) (.seq (.ops [.aC 4 (.c (.int .i64 (-1)))]) .ret) .skip)) (.seq (.seq (.ops [.aj 17 (.t 0),.aj 18 (.t 1),.bin 19 .gtr (.t 17) (.t 18)]) (.cond (.t 19) (.seq (.ops [.aC 4 (.c (.int .i64 1))]) .ret) .skip)) (.seq (.ops [.aC 4 (.c (.int .i64 0))]) .ret))))))))⟩
def MZ:jd:=⟨2,23,[.tmp 4],(.seq (.ops [.box 2 (.t 0),.aC 4 (.c (.bool false))]) (.seq (.ops [.load 5 (some 2) (.t 2),.call 6 53 [(.t 5)],.bin 7 .eql (.t 6) (.c (.int .i64 0)),.aj 8 (.t 7),.grd 8 true (.aj 9 (.t 1)),.grd 8 true (.bin 10 .geq (.t 9) (.c (.int .i64 0))),.pick 11 (.t 8) (.t 10) (.c (.bool false)),.aj 12 (.t 11),.grd 12 true (.aj 13 (.t 1)),.grd 12 true (.aU 14 (.t 2) 0),.grd 12 true (.load 15 none (.t 14)),.grd 12 true (.bin 16 .lss (.t 13) (.t 15)),.pick 17 (.t 12) (.t 16) (.c (.bool false)),.aj 18 (.t 17),.grd 18 true (.load 19 (some 2) (.t 2)),.grd 18 true (.aj 20 (.t 1)),.grd 18 true (.call 21 87 [(.t 19),(.t 20)]),.pick 22 (.t 18) (.t 21) (.c (.bool false)),.aC 4 (.t 22)]) .ret))⟩
def SN:ak:=(.ops [.alloc 5 [(.int .i64 0),(.int .i64 0),(.int .i64 0)],.store none 3 (.t 5) (.t 7)])
def SQ:ak:=(.block 1 (.ops [.load 8 none (.t 2),.load 9 (some 3) (.t 5),.jo 10 3 [(.t 9)],.app 11 3 (.t 8) (.t 10),.store none 1 (.t 2) (.t 11)]))
def ZN:jd:=⟨2,13,[.tmp 4],(.seq (.ops [.box 2 (.t 0),.aC 4 (.nil 3)]) (.seq (.seq (.ops [.aj 6 (.t 1)]) (.block 0 (.rng (.t 6) [7] SN SQ))) (.seq (.ops [.load 12 none (.t 2),.aC 4 (.t 12)]) .ret)))⟩
def yC:ak:=(.seq (.ops [.bin 14 .lss (.t 13) (.t 12)]) (.seq (.cond (.t 14) .skip (.exit 2)) (.seq (.block 3 (.seq (.ops [.aj 15 (.t 13),.aC 5 (.t 15)]) (.seq (.uT [] [([0,1,2,3,4,5,6,7,8,9,10,11,12,13,14,15,16,17,18,19,20,22,23],21)] (some ([24],[],25,[])) [26,27] [.load 16 none (.t 2),.aj 17 (.t 4),.bC 18 1 (.t 16) (.t 17),.load 19 none (.t 18),.aj 20 (.t 19),.grd 20 true (.load 21 none (.t 2)),.grd 20 true (.aj 22 (.t 5)),.grd 20 true (.bC 23 1 (.t 21) (.t 22)),.grd 20 true (.load 24 none (.t 23)),.grd 20 true (.un 25 .not (.t 24)),.pick 26 (.t 20) (.t 25) (.c (.bool false)),.aj 27 (.t 26),.grd 27 true (.aj 28 (.t 0)),.grd 27 true (.load 29 none (.t 1)),.grd 27 true (.aj 30 (.t 4)),.grd 27 true (.bC 31 4 (.t 29) (.t 30)),.grd 27 true (.load 32 (some 4) (.t 31)),.grd 27 true (.load 33 none (.t 1)),.grd 27 true (.aj 34 (.t 5)),.grd 27 true (.bC 35 4 (.t 33) (.t 34)),.grd 27 true (.load 36 (some 4) (.t 35)),.grd 27 true (.aj 38 (.t 5)),.grd 27 true (.aj 39 (.t 4)),.grd 27 true (.call 37 92 [(.t 32),(.t 36)]),.grd 27 true (.build 40 [(.int .i64 0),(.int .i64 0),(.int .i64 0)] [(0,1,(.t 37)),(1,1,(.t 38)),(2,1,(.t 39))]),.grd 27 true (.yield 41 (.t 28) [(.t 40)]),.grd 27 true (.un 42 .not (.t 41)),.pick 43 (.t 27) (.t 42) (.c (.bool false))]) (.cond (.t 43) .ret .skip)))) (.ops [.bin 44 .add (.t 13) (.c (.int .i64 1)),.aj 13 (.t 44)]))))
def Jt:ak :=
(.clean [0,1,2,4,7,8,12,13] [0,1,2,7,8] (.block 2 (.loop [0,1,2,4,7,8,12,13] yC)))
def Ju:ak:=(.seq (.ops [.bin 9 .lss (.t 8) (.t 7)]) (.seq (.cond (.t 9) .skip (.exit 0)) (.seq (.block 1 (.seq (.ops [.aj 10 (.t 8),.aC 4 (.t 10)]) (.seq (.ops [.load 11 none (.t 1),.len 12 (.t 11),.aj 13 (.c (.int .i64 0))])
    Jt))) (.ops [.bin 45 .add (.t 8) (.c (.int .i64 1)),.aj 8 (.t 45)]))))
def Jv:ak :=
(.clean [0,1,2,7,8] [] (.block 0 (.loop [0,1,2,7,8] Ju)))
def ZO:jd:=⟨3,46,[],(.seq (.ops [.load 6 none (.t 1),.len 7 (.t 6),.aj 8 (.c (.int .i64 0))])
 Jv)⟩
def Jw:ak:=(.seq (.ops [.bin 21 .lss (.t 20) (.t 19)]) (.seq (.cond (.t 21) .skip (.exit 2)) (.seq (.block 3 (.seq (.ops [.bC 22 2 (.t 18) (.t 20),.load 23 (some 2) (.t 22),.alloc 9 [(.int .i64 0),(.int .i64 0)],.store none 2 (.t 9) (.t 23)]) (.ops [.aj 24 (.t 5),.aU 25 (.t 9) 1,.load 26 none (.t 25),.bin 27 .add (.t 24) (.t 26),.aC 5 (.t 27)]))) (.ops [.bin 28 .add (.t 20) (.c (.int .i64 1)),.aj 20 (.t 28)]))))
def Jy:ak :=
(.clean [5,7,12,13,14,17,18,19,20] [4,5,12,13,14] (.block 2 (.loop [5,7,12,13,14,17,18,19,20] Jw)))
def Jz:ak:=(.seq (.ops [.bin 15 .lss (.t 14) (.t 13)]) (.seq (.cond (.t 15) .skip (.exit 0)) (.seq (.block 1 (.seq (.ops [.bC 16 1 (.t 12) (.t 14),.load 17 none (.t 16),.aC 7 (.t 17)]) (.seq (.ops [.aj 18 (.t 7),.len 19 (.t 18),.aj 20 (.c (.int .i64 0))])
    Jy))) (.ops [.bin 29 .add (.t 14) (.c (.int .i64 1)),.aj 14 (.t 29)]))))
def JA:ak :=
(.clean [5,12,13,14] [4,5] (.block 0 (.loop [5,12,13,14] Jz)))
def ZP:jd:=⟨2,31,[.tmp 4],(.seq (.ops [.box 2 (.t 0),.box 3 (.t 1),.aC 4 (.c (.int .i64 0))]) (.seq (.ops [.aC 5 (.c (.int .i64 0))]) (.seq (.seq (.ops [.load 10 (some 4) (.t 2),.load 11 (some 4) (.t 3),.call 12 45 [(.t 10),(.t 11)],.len 13 (.t 12),.aj 14 (.c (.int .i64 0))])
   JA) (.seq (.ops [.aj 30 (.t 5),.aC 4 (.t 30)]) .ret))))⟩
def BF:ak:=(.seq (.ops [.bin 9 .lss (.t 8) (.t 7)]) (.seq (.cond (.t 9) .skip (.exit 0)) (.seq (.block 1 (.seq (.ops [.bC 10 1 (.t 6) (.t 8),.load 11 none (.t 10),.aC 5 (.t 11)]) (.seq (.ops [.aj 12 (.t 5),.aj 13 (.t 3),.bin 14 .neq (.t 12) (.t 13)]) (.cond (.t 14) (.seq (.ops [.aj 15 (.t 5),.aC 2 (.t 15)]) .ret) .skip)))) (.ops [.bin 16 .add (.t 8) (.c (.int .i64 1)),.aj 8 (.t 16)]))))
def JB:ak :=
(.clean [0,3,6,7,8] [2,3] (.block 0 (.loop [0,3,6,7,8] BF)))
def VZ:jd:=⟨1,18,[.tmp 2],(.seq (.ops [.aC 2 (.c (.int .i64 0))]) (.seq (.ops [.aC 3 (.c (.int .i64 0))]) (.seq (.seq (.ops [.aj 6 (.t 0),.len 7 (.t 6),.aj 8 (.c (.int .i64 0))])
   JB) (.seq (.ops [.aj 17 (.t 3),.aC 2 (.t 17)]) .ret))))⟩
def QV:jd:=⟨1,17,[.cell 2 (some 2),.tmp 3],(.seq (.ops [.alloc 2 [(.int .i64 0),(.list 1 [])],.aC 3 (.c (.int .i64 0))]) (.seq (.seq (.ops [.aj 4 (.t 0),.bin 5 .lss (.t 4) (.c (.int .i64 0)),.aj 6 (.t 5),.grd 6 false (.aj 7 (.t 0)),.grd 6 false (.bin 8 .gtr (.t 7) (.c (.int .i64 4096))),.pick 9 (.t 6) (.c (.bool true)) (.t 8)]) (.cond (.t 9) (.seq (.ops [.build 10 [(.int .i64 0),(.list 1 [])] [],.store none 2 (.t 2) (.t 10),.aC 3 (.c (.int .i64 2))]) .ret) .skip)) (.seq (.ops [.aj 11 (.t 0),.aj 12 (.t 0),.bin 13 .add (.t 12) (.c (.int .i64 63)),.bin 14 .quo (.t 13) (.c (.int .i64 64)),.make 15 (.int .u64 0) (.t 14) (.t 14),.build 16 [(.int .i64 0),(.list 1 [])] [(0,1,(.t 11)),(1,1,(.t 15))],.store none 2 (.t 2) (.t 16),.aC 3 (.c (.int .i64 0))]) .ret)))⟩
def ZQ:jd:=⟨2,11,[.cell 4 (some 2),.tmp 5],(.seq (.ops [.box 2 (.t 0),.box 3 (.t 1),.alloc 4 [(.int .i64 0),(.list 1 [])],.aC 5 (.c (.int .i64 0))]) (.seq (.ops [.load 6 (some 2) (.t 2),.load 7 (some 2) (.t 3),.call 8 107 [(.t 6),(.t 7),(.c (.bool true))],.ext 9 (.t 8) 0,.ext 10 (.t 8) 1,.store none 2 (.t 4) (.t 9),.aC 5 (.t 10)]) .ret))⟩
def JC:ak:=(.seq (.ops [.bin 37 .lss (.t 36) (.t 35)]) (.seq (.cond (.t 37) .skip (.exit 0)) (.seq (.block 1 (.seq (.ops [.aj 38 (.t 36),.aC 11 (.t 38)]) (.uT [] [([0,1,2,3,4,5,6,7,8,9,10,11,12],13)] (some ([14],[],15,[])) [] [.aj 39 (.t 10),.aj 40 (.t 11),.aj 41 (.t 2),.aU 42 (.t 3) 1,.load 43 none (.t 42),.aj 44 (.t 11),.bC 45 1 (.t 43) (.t 44),.load 46 none (.t 45),.aU 47 (.t 4) 1,.load 48 none (.t 47),.aj 49 (.t 11),.bC 50 1 (.t 48) (.t 49),.load 51 none (.t 50),.jP 52 (.t 41) [(.t 46),(.t 51)],.bC 53 1 (.t 39) (.t 40),.store none 1 (.t 53) (.t 52)]))) (.ops [.bin 54 .add (.t 36) (.c (.int .i64 1)),.aj 36 (.t 54)]))))
def JD:ak :=
(.clean [2,3,4,6,10,33,35,36] [3,6,7,10] (.block 0 (.loop [2,3,4,6,10,33,35,36] JC)))
def Na:jd:=⟨3,59,[.cell 6 (some 2),.tmp 7],(.seq (.ops [.box 3 (.t 0),.box 4 (.t 1),.alloc 6 [(.int .i64 0),(.list 1 [])],.aC 7 (.c (.int .i64 0))]) (.seq (.seq (.ops [.load 12 (some 2) (.t 3),.call 13 51 [(.t 12)],.aC 8 (.t 13)]) (.seq (.ops [.aj 14 (.t 8),.bin 15 .neq (.t 14) (.c (.int .i64 0))]) (.cond (.t 15) (.seq (.ops [.build 16 [(.int .i64 0),(.list 1 [])] [],.aj 17 (.t 8),.store none 2 (.t 6) (.t 16),.aC 7 (.t 17)]) .ret) .skip))) (.seq (.seq (.ops [.load 18 (some 2) (.t 4),.call 19 51 [(.t 18)],.aC 9 (.t 19)]) (.seq (.ops [.aj 20 (.t 9),.bin 21 .neq (.t 20) (.c (.int .i64 0))]) (.cond (.t 21) (.seq (.ops [.build 22 [(.int .i64 0),(.list 1 [])] [],.aj 23 (.t 9),.store none 2 (.t 6) (.t 22),.aC 7 (.t 23)]) .ret) .skip))) (.seq (.seq (.ops [.aU 24 (.t 3) 0,.load 25 none (.t 24),.aU 26 (.t 4) 0,.load 27 none (.t 26),.bin 28 .neq (.t 25) (.t 27)]) (.cond (.t 28) (.seq (.ops [.build 29 [(.int .i64 0),(.list 1 [])] [],.store none 2 (.t 6) (.t 29),.aC 7 (.c (.int .i64 22))]) .ret) .skip)) (.seq (.ops [.aU 30 (.t 3) 1,.load 31 none (.t 30),.len 32 (.t 31),.make 33 (.int .u64 0) (.t 32) (.t 32),.aC 10 (.t 33)]) (.seq (.seq (.ops [.aj 34 (.t 10),.len 35 (.t 34),.aj 36 (.c (.int .i64 0))])
    JD) (.seq (.ops [.aU 55 (.t 3) 0,.load 56 none (.t 55),.aj 57 (.t 10),.build 58 [(.int .i64 0),(.list 1 [])] [(0,1,(.t 56)),(1,1,(.t 57))],.store none 2 (.t 6) (.t 58),.aC 7 (.c (.int .i64 0))]) .ret)))))))⟩
def Nb:jd:=⟨2,8,[.tmp 4],(.seq (.ops [.aC 4 (.c (.int .u64 0))]) (.seq (.ops [.aj 5 (.t 0),.aj 6 (.t 1),.bin 7 .or (.t 5) (.t 6),.aC 4 (.t 7)]) .ret))⟩
def Nc:jd:=⟨2,6,[.tmp 4],(.seq (.ops [.box 2 (.t 0),.box 3 (.t 1),.aC 4 (.c .tV)]) (.seq (.ops [.RZ 5 109 [(.t 2),(.t 3)],.aC 4 (.t 5)]) .ret))⟩
def Nh:jd:=⟨2,9,[.tmp 4],(.seq (.ops [.aC 4 (.c (.bool false))]) (.seq (.ops [.aj 5 (.t 0),.aj 6 (.t 1),.call 7 112 [(.t 5),(.t 6)],.bin 8 .geq (.t 7) (.c (.int .i64 0)),.aC 4 (.t 8)]) .ret))⟩
def Nj:jd:=⟨1,9,[.tmp 2],(.seq (.ops [.aC 2 (.c (.bool false))]) (.seq (.ops [.aj 3 (.t 0),.bin 4 .lss (.t 3) (.c (.int .i64 1)),.aj 5 (.t 4),.grd 5 false (.aj 6 (.t 0)),.grd 5 false (.bin 7 .gtr (.t 6) (.c (.int .i64 4096))),.pick 8 (.t 5) (.c (.bool true)) (.t 7),.aC 2 (.t 8)]) .ret))⟩
def Dk:ak:=(.seq (.ops [.bin 14 .lss (.t 13) (.t 12)]) (.seq (.cond (.t 14) .skip (.exit 0)) (.seq (.block 1 (.seq (.ops [.bC 15 1 (.t 11) (.t 13),.load 16 none (.t 15),.aC 7 (.t 16)]) (.ops [.aj 17 (.t 5),.aj 18 (.t 1),.aj 19 (.t 7),.jP 20 (.t 18) [(.t 19)],.jo 21 1 [(.t 20)],.app 22 1 (.t 17) (.t 21),.aC 5 (.t 22)]))) (.ops [.bin 23 .add (.t 13) (.c (.int .i64 1)),.aj 13 (.t 23)]))))
def Dl:ak :=
(.clean [0,1,5,10,11,12,13,22] [4,5] (.block 0 (.loop [0,1,5,10,11,12,13,22] Dk)))
def Nk:jd:=⟨2,25,[.tmp 4],(.seq (.ops [.aC 4 (.nil 1)]) (.seq (.ops [.aj 8 (.t 0),.len 9 (.t 8),.make 10 (.int .i64 0) (.c (.int .i64 0)) (.t 9),.aC 5 (.t 10)]) (.seq (.seq (.ops [.aj 11 (.t 0),.len 12 (.t 11),.aj 13 (.c (.int .i64 0))])
   Dl) (.seq (.ops [.aj 24 (.t 5),.aC 4 (.t 24)]) .ret))))⟩
def Nl:jd:=⟨1,5,[.tmp 2],(.seq (.ops [.aC 2 (.c (.int .i64 0))]) (.seq (.ops [.aj 3 (.t 0),.len 4 (.t 3),.aC 2 (.t 4)]) .ret))⟩
def Np:jd:=⟨1,6,[.tmp 2],(.seq (.ops [.aC 2 (.c (.bool false))]) (.seq (.ops [.aj 3 (.t 0),.aj 4 (.t 0),.bin 5 .neq (.t 3) (.t 4),.aC 2 (.t 5)]) .ret))⟩
def yD:ak:=(.seq (.seq (.ops [.aj 24 (.t 9),.aU 25 (.t 4) 0,.load 26 none (.t 25),.aU 27 (.t 4) 1,.load 28 none (.t 27),.bin 29 .add (.t 26) (.t 28),.bin 30 .lss (.t 24) (.t 29)]) (.cond (.t 30) .skip (.exit 0))) (.seq (.block 1 (.seq (.ops [.aj 33 (.t 2)]) (.cond (.t 33) (.uT [] [] (some ([0,1,2,3,4,5,6,7,8,9,10,11,12,13,14,15],[],16,[])) [] [.aU 34 (.t 8) 1,.load 35 none (.t 34),.aj 36 (.t 9),.bin 37 .quo (.t 36) (.c (.int .i64 64)),.aU 38 (.t 8) 1,.load 39 none (.t 38),.aj 40 (.t 9),.bin 41 .quo (.t 40) (.c (.int .i64 64)),.bC 42 1 (.t 39) (.t 41),.load 43 none (.t 42),.aj 44 (.t 9),.bin 45 .rem (.t 44) (.c (.int .i64 64)),.conv 46 .u64 (.t 45),.bin 47 .shl (.c (.int .u64 1)) (.t 46),.bin 48 .or (.t 43) (.t 47),.bC 49 1 (.t 35) (.t 37),.store none 1 (.t 49) (.t 48)]) (.uT [] [] (some ([0,1,2,3,4,5,6,7,8,9,10,11,12,13,14,15],[],16,[])) [] [.aU 50 (.t 8) 1,.load 51 none (.t 50),.aj 52 (.t 9),.bin 53 .quo (.t 52) (.c (.int .i64 64)),.aU 54 (.t 8) 1,.load 55 none (.t 54),.aj 56 (.t 9),.bin 57 .quo (.t 56) (.c (.int .i64 64)),.bC 58 1 (.t 55) (.t 57),.load 59 none (.t 58),.aj 60 (.t 9),.bin 61 .rem (.t 60) (.c (.int .i64 64)),.conv 62 .u64 (.t 61),.bin 63 .shl (.c (.int .u64 1)) (.t 62),.bin 64 .andNot (.t 59) (.t 63),.bC 65 1 (.t 51) (.t 53),.store none 1 (.t 65) (.t 64)])))) (.ops [.aj 31 (.t 9),.bin 32 .add (.t 31) (.c (.int .i64 1)),.aC 9 (.t 32)])))
def Dn:ak :=
(.clean [2,4,6,8,9] [6,7,8] (.block 0 (.loop [2,4,6,8,9] yD)))
def Dp:jd:=⟨3,67,[.cell 6 (some 2),.tmp 7],(.seq (.ops [.box 3 (.t 0),.box 4 (.t 1),.alloc 6 [(.int .i64 0),(.list 1 [])],.aC 7 (.c (.int .i64 0))]) (.seq (.seq (.ops [.load 10 (some 2) (.t 3),.call 11 53 [(.t 10)],.bin 12 .neq (.t 11) (.c (.int .i64 0))]) (.cond (.t 12) (.seq (.ops [.build 13 [(.int .i64 0),(.list 1 [])] [],.store none 2 (.t 6) (.t 13),.aC 7 (.c (.int .i64 3))]) .ret) .skip)) (.seq (.seq (.ops [.load 14 (some 2) (.t 4),.aU 15 (.t 3) 0,.load 16 none (.t 15),.call 17 113 [(.t 14),(.t 16)],.un 18 .not (.t 17)]) (.cond (.t 18) (.seq (.ops [.build 19 [(.int .i64 0),(.list 1 [])] [],.store none 2 (.t 6) (.t 19),.aC 7 (.c (.int .i64 2))]) .ret) .skip)) (.seq (.ops [.load 20 (some 2) (.t 3),.call 21 114 [(.t 20)],.alloc 8 [(.int .i64 0),(.list 1 [])],.Xq 2 (.t 8) (.t 21)]) (.seq (.seq (.ops [.aU 22 (.t 4) 0,.load 23 none (.t 22),.aC 9 (.t 23)])
    Dn) (.seq (.ops [.load 66 (some 2) (.t 8),.store none 2 (.t 6) (.t 66),.aC 7 (.c (.int .i64 0))]) .ret))))))⟩
def Dq:ak:=(.seq (.seq (.ops [.aj 24 (.t 5),.bin 25 .neq (.t 24) (.c (.int .u64 0))]) (.cond (.t 25) .skip (.exit 2))) (.block 3 (.seq (.seq (.ops [.aj 26 (.t 0),.aj 27 (.t 4),.bin 28 .mul (.t 27) (.c (.int .i64 64)),.aj 29 (.t 5),.call 30 111 [(.t 29)],.bin 31 .add (.t 28) (.t 30),.yield 32 (.t 26) [(.t 31)],.un 33 .not (.t 32)]) (.cond (.t 33) .ret .skip)) (.ops [.aj 34 (.t 5),.aj 35 (.t 5),.bin 36 .sub (.t 35) (.c (.int .u64 1)),.bin 37 .and (.t 34) (.t 36),.aC 5 (.t 37)]))))
def Dt:ak :=
(.clean [0,1,2,4,5,10,11,12] [0,1,2,10,11,12] (.block 2 (.loop [0,1,2,4,5,10,11,12] Dq)))
def Du:ak:=(.seq (.ops [.bin 13 .lss (.t 12) (.t 11)]) (.seq (.cond (.t 13) .skip (.exit 0)) (.seq (.block 1 (.seq (.ops [.aj 14 (.t 12),.bC 15 1 (.t 10) (.t 12),.load 16 none (.t 15),.aC 4 (.t 14),.aC 5 (.t 16)]) (.seq (.ops [.aj 17 (.t 5),.aj 18 (.t 4),.load 19 none (.t 2),.aU 20 (.t 1) 0,.load 21 none (.t 20),.call 22 110 [(.t 18),(.t 19),(.t 21)],.bin 23 .and (.t 17) (.t 22),.aC 5 (.t 23)])
    Dt))) (.ops [.bin 38 .add (.t 12) (.c (.int .i64 1)),.aj 12 (.t 38)]))))
def Dv:ak :=
(.clean [0,1,2,10,11,12] [] (.block 0 (.loop [0,1,2,10,11,12] Du)))
def Nq:jd:=⟨3,39,[],(.seq (.seq (.ops [.load 6 (some 2) (.t 1),.call 7 51 [(.t 6)],.bin 8 .neq (.t 7) (.c (.int .i64 0))]) (.cond (.t 8) .ret .skip)) (.seq (.ops [.aU 9 (.t 1) 1,.load 10 none (.t 9),.len 11 (.t 10),.aj 12 (.c (.int .i64 0))])
  Dv))⟩
def Gv:jd:=⟨3,27,[.tmp 6],(.seq (.ops [.aC 6 (.c (.int .u64 0))]) (.seq (.ops [.aj 7 (.t 1),.aj 8 (.t 0),.bin 9 .mul (.t 8) (.c (.int .i64 64)),.bin 10 .sub (.t 7) (.t 9),.mn 11 true (.t 10) (.c (.int .i64 0)),.aj 12 (.t 2),.aj 13 (.t 0),.bin 14 .mul (.t 13) (.c (.int .i64 64)),.bin 15 .sub (.t 12) (.t 14),.mn 16 false (.t 15) (.c (.int .i64 64)),.aC 1 (.t 11),.aC 2 (.t 16)]) (.seq (.seq (.ops [.aj 17 (.t 1),.aj 18 (.t 2),.bin 19 .geq (.t 17) (.t 18)]) (.cond (.t 19) (.seq (.ops [.aC 6 (.c (.int .u64 0))]) .ret) .skip)) (.seq (.ops [.aj 20 (.t 2),.aj 21 (.t 1),.bin 22 .sub (.t 20) (.t 21),.bin 23 .sub (.c (.int .i64 64)) (.t 22),.bin 24 .shr (.c (.int .u64 18446744073709551615)) (.t 23),.aj 25 (.t 1),.bin 26 .shl (.t 24) (.t 25),.aC 6 (.t 26)]) .ret))))⟩
def Dw:ak:=(.seq (.ops [.bin 9 .lss (.t 8) (.t 7)]) (.seq (.cond (.t 9) .skip (.exit 0)) (.seq (.block 1 (.seq (.ops [.aj 10 (.t 8),.aC 5 (.t 10)]) (.seq (.ops [.aj 11 (.t 1),.aj 12 (.t 0),.aj 13 (.t 5),.bC 14 1 (.t 12) (.t 13),.load 15 none (.t 14),.jP 16 (.t 11) [(.t 15)]]) (.cond (.t 16) (.seq (.ops [.aj 17 (.t 5),.aC 4 (.t 17)]) .ret) .skip)))) (.ops [.bin 18 .add (.t 8) (.c (.int .i64 1)),.aj 8 (.t 18)]))))
def Dx:ak :=
(.clean [0,1,7,8] [4] (.block 0 (.loop [0,1,7,8] Dw)))
def Nr:jd:=⟨2,19,[.tmp 4],(.seq (.ops [.aC 4 (.c (.int .i64 0))]) (.seq (.seq (.ops [.aj 6 (.t 0),.len 7 (.t 6),.aj 8 (.c (.int .i64 0))])
  Dx) (.seq (.ops [.aC 4 (.c (.int .i64 (-1)))]) .ret)))⟩
def Am:jd:=⟨2,28,[.tmp 4],(.seq (.ops [.box 2 (.t 0),.aC 4 (.c (.bool false))]) (.seq (.ops [.aU 5 (.t 2) 0,.load 6 none (.t 5),.bin 7 .geq (.t 6) (.c (.int .i64 0)),.aj 8 (.t 7),.grd 8 true (.aU 9 (.t 2) 1),.grd 8 true (.load 10 none (.t 9)),.grd 8 true (.bin 11 .geq (.t 10) (.c (.int .i64 0))),.pick 12 (.t 8) (.t 11) (.c (.bool false)),.aj 13 (.t 12),.grd 13 true (.aU 14 (.t 2) 0),.grd 13 true (.load 15 none (.t 14)),.grd 13 true (.aj 16 (.t 1)),.grd 13 true (.bin 17 .leq (.t 15) (.t 16)),.pick 18 (.t 13) (.t 17) (.c (.bool false)),.aj 19 (.t 18),.grd 19 true (.aU 20 (.t 2) 1),.grd 19 true (.load 21 none (.t 20)),.grd 19 true (.aj 22 (.t 1)),.grd 19 true (.aU 23 (.t 2) 0),.grd 19 true (.load 24 none (.t 23)),.grd 19 true (.bin 25 .sub (.t 22) (.t 24)),.grd 19 true (.bin 26 .leq (.t 21) (.t 25)),.pick 27 (.t 19) (.t 26) (.c (.bool false)),.aC 4 (.t 27)]) .ret))⟩
def Ns:jd:=⟨1,10,[.own 2 2],(.seq (.ops [.box 1 (.t 0),.alloc 2 [(.int .i64 0),(.list 1 [])]]) (.seq (.uT [(.t 1)] [([3,4,0,1],2)] (some ([],[],5,[([6],7)])) [] [.aU 6 (.t 1) 1,.load 7 none (.t 6),.aU 3 (.t 1) 0,.OB 4 none (.t 3),.jo 5 1 [],.app 8 1 (.t 5) (.t 7),.AA 9 [(.int .i64 0),(.list 1 [])] [(0,1,(.t 4))] 1 8,.Xq 2 (.t 2) (.t 9)]) .ret))⟩
def tab:List (Nat × XB):=[(9,.code fn9),(12,.code afC),(13,.code afD),(15,.code I4),(18,.code afE),(20,.code afF),(22,.code afG),(24,.code MW),(26,.code afH),(27,.code afI),(32,.code EZ),(33,.code VW),(34,.code Zq),(35,.ext (Dh 1)),(39,.ext sK),(41,.code Zr),(42,.ext IU),(43,.code afJ),(44,.code Zt),(45,.code Zu),(47,.code Zv),(48,.code Zw),(49,.code Zx),(50,.code Zy),(51,.code E5),(53,.code MX),(56,.code Zz),(57,.code afK),(58,.code afL),(59,.code afM),(60,.code afN),(61,.code afO),(64,.ext Zp),(65,.code VX),(66,.code ZA),(67,.code ZB),(68,.code ZC),(69,.code ZE),(70,.code afP),(71,.code ZF),(77,.code ZG),(79,.code VY),(80,.code ZH),(81,.code ZI),(82,.code ZJ),(83,.code ZK),(84,.code ZL),(87,.code ZM),(88,.code QU),(89,.code MZ),(90,.code ZN),(91,.code ZO),(92,.code ZP),(93,.code VZ),(94,.code QV),(95,.code ZQ),(99,.code Na),(100,.code Nb),(101,.code Nc),(102,.code Nh),(103,.code Nj),(104,.code Nk),(105,.code Nl),(106,.code Np),(107,.code Dp),(109,.code Nq),(110,.code Gv),(111,.ext tzX),(112,.code Nr),(113,.code Am),(114,.code Ns)]
def env:Env:=fun f=>tab.lookup f
theorem afQ:env 9=some (.code fn9):=rfl
theorem Nu:env 15=some (.code I4):=rfl
theorem SS:env 24=some (.code MW):=rfl
theorem Gw:env 32=some (.code EZ):=rfl
theorem aeF:env 33=some (.code VW):=rfl
theorem ahW:env 34=some (.code Zq):=rfl
theorem ahX:env 35=some (.ext (Dh 1)):=rfl
theorem ahY:env 39=some (.ext sK):=rfl
theorem ahZ:env 41=some (.code Zr):=rfl
theorem ah0:env 44=some (.code Zt):=rfl
theorem ah1:env 45=some (.code Zu):=rfl
theorem ah2:env 47=some (.code Zv):=rfl
theorem ah3:env 48=some (.code Zw):=rfl
theorem ah4:env 49=some (.code Zx):=rfl
theorem ah5:env 50=some (.code Zy):=rfl
theorem Gx:env 51=some (.code E5):=rfl
theorem SV:env 53=some (.code MX):=rfl
theorem ah6:env 56=some (.code Zz):=rfl
theorem aeG:env 65=some (.code VX):=rfl
theorem ah7:env 66=some (.code ZA):=rfl
theorem ah8:env 67=some (.code ZB):=rfl
theorem ah9:env 68=some (.code ZC):=rfl
theorem aia:env 69=some (.code ZE):=rfl
theorem aib:env 71=some (.code ZF):=rfl
theorem aic:env 77=some (.code ZG):=rfl
theorem aeH:env 79=some (.code VY):=rfl
theorem aie:env 80=some (.code ZH):=rfl
theorem aif:env 81=some (.code ZI):=rfl
theorem aii:env 82=some (.code ZJ):=rfl
theorem aij:env 83=some (.code ZK):=rfl
theorem aik:env 84=some (.code ZL):=rfl
theorem ail:env 87=some (.code ZM):=rfl
theorem ZR:env 88=some (.code QU):=rfl
theorem SX:env 89=some (.code MZ):=rfl
theorem ain:env 90=some (.code ZN):=rfl
theorem aio:env 91=some (.code ZO):=rfl
theorem aip:env 92=some (.code ZP):=rfl
theorem aeI:env 93=some (.code VZ):=rfl
theorem ZT:env 94=some (.code QV):=rfl
theorem aiq:env 95=some (.code ZQ):=rfl
theorem SY:env 99=some (.code Na):=rfl
theorem afR:env 100=some (.code Nb):=rfl
theorem afS:env 101=some (.code Nc):=rfl
theorem afT:env 102=some (.code Nh):=rfl
theorem afU:env 103=some (.code Nj):=rfl
theorem afV:env 104=some (.code Nk):=rfl
theorem afW:env 105=some (.code Nl):=rfl
theorem afX:env 106=some (.code Np):=rfl
theorem QW:env 107=some (.code Dp):=rfl
theorem afY:env 109=some (.code Nq):=rfl
theorem ZU:env 110=some (.code Gv):=rfl
theorem afZ:env 111=some (.ext tzX):=rfl
theorem af0:env 112=some (.code Nr):=rfl
theorem JE:env 113=some (.code Am):=rfl
theorem af2:env 114=some (.code Ns):=rfl
end Go.Proofs.YtaaokejjmdbfaaaDoor

namespace Go.Proofs.YtaaokejjmdbfaaaDoor
open V
def yE:=(And.intro (And.intro (And.intro (And.intro (And.intro (And.intro (And.intro (And.intro @Me (And.intro @YE @YF)) (And.intro (And.intro @aci @MB) (And.intro @MC @YD))) (And.intro (And.intro (And.intro @IE @YJ) (And.intro @ace @PX)) (And.intro (And.intro @PY @L8) (And.intro @L9 @acf)))) (And.intro (And.intro (And.intro (And.intro @IC @Mc) (And.intro @U5 @U6)) (And.intro (And.intro @bV @List.foldl_nil.{0,0}) (And.intro @List.foldl_cons.{0,0} @ab8))) (And.intro (And.intro (And.intro @ab9 @acg) (And.intro @Yz @Gj)) (And.intro (And.intro @YB @ach) (And.intro @Md @U8))))) (And.intro (And.intro (And.intro (And.intro @YC (And.intro @AX @IG)) (And.intro (And.intro @EX @MH) (And.intro @YK @U9))) (And.intro (And.intro (And.intro @P7 @acj) (And.intro @PW @Ah)) (And.intro (And.intro @MI @Qd) (And.intro @MJ @Qe)))) (And.intro (And.intro (And.intro (And.intro @fE.eq_1 @fE.eq_2) (And.intro @fE.eq_3 @resultList.eq_1)) (And.intro (And.intro @resultList.eq_2 @mZ.eq_1) (And.intro @mZ.eq_2 @mZ.eq_3))) (And.intro (And.intro (And.intro @zBV.eq_1 @zBV.eq_2) (And.intro @splice.eq_1 @PV.tX.eq_1)) (And.intro (And.intro @PV.tX.eq_2 @PV.tX.eq_3) (And.intro @PV.tX.eq_4 @St.iw.eq_1)))))) (And.intro (And.intro (And.intro (And.intro (And.intro @St.aV.eq_1 (And.intro @St.fD.eq_1 @St.fD.eq_2)) (And.intro (And.intro @PV.single.eq_1 @PV.single.eq_2) (And.intro @YM @Vd))) (And.intro (And.intro (And.intro @acy @YN) (And.intro @YO @Vf)) (And.intro (And.intro @YP @Vg) (And.intro @acA @YR)))) (And.intro (And.intro (And.intro (And.intro @acB @YS) (And.intro @YT @acC)) (And.intro (And.intro @acD @acE) (And.intro @acF @bV))) (And.intro (And.intro (And.intro @bV @acG) (And.intro @bV @bV)) (And.intro (And.intro @acH @bV) (And.intro @acO @acM))))) (And.intro (And.intro (And.intro (And.intro @acK (And.intro @acI @bV)) (And.intro (And.intro @YU @bV) (And.intro @afv @YW))) (And.intro (And.intro (And.intro @YX @YZ) (And.intro @Y3 @Y4)) (And.intro (And.intro @bV @bV) (And.intro @bV @acS)))) (And.intro (And.intro (And.intro (And.intro @bV @acT) (And.intro @Vh @afw)) (And.intro (And.intro @acU @Vj) (And.intro @acV @Vk))) (And.intro (And.intro (And.intro @Y5 @Y6) (And.intro @acW @bV)) (And.intro (And.intro @bV @bV) (And.intro @Vl @acX))))))) (And.intro (And.intro (And.intro (And.intro (And.intro (And.intro @acY (And.intro @acZ @ac0)) (And.intro (And.intro @bV @bV) (And.intro @acR @bV))) (And.intro (And.intro (And.intro @bV @acP) (And.intro @bV @acQ)) (And.intro (And.intro @acN @acL) (And.intro @acJ @bV)))) (And.intro (And.intro (And.intro (And.intro @YV @bV) (And.intro @afx @Y7)) (And.intro (And.intro @Y8 @Y9) (And.intro @Za @Zb))) (And.intro (And.intro (And.intro @bV @bV) (And.intro @bV @ac1)) (And.intro (And.intro @bV @ac2) (And.intro @Vm @afy))))) (And.intro (And.intro (And.intro (And.intro @ac3 (And.intro @Vo @ac4)) (And.intro (And.intro @Vp @Zc) (And.intro @Zd @ac5))) (And.intro (And.intro (And.intro @bV @bV) (And.intro @bV @Vq)) (And.intro (And.intro @plain.eq_1 @plain.eq_2) (And.intro @plain.eq_3 @plain.eq_4)))) (And.intro (And.intro (And.intro (And.intro @plain.eq_5 @plain.eq_6) (And.intro @plain.eq_7 @plain.eq_8)) (And.intro (And.intro @plain.eq_9 @plain.eq_10) (And.intro @plain.eq_11 @plain.eq_12))) (And.intro (And.intro (And.intro @plain.eq_13 @plain.eq_14) (And.intro @plain.eq_15 @plain.eq_16)) (And.intro (And.intro @plain.eq_17 @plain.eq_18) (And.intro @plain.eq_19 @plain.eq_20)))))) (And.intro (And.intro (And.intro (And.intro (And.intro @plain.eq_21 (And.intro @plain.eq_22 @plain.eq_23)) (And.intro (And.intro @plain.eq_24 @plain.eq_25) (And.intro @plain.eq_26 @plain.eq_27))) (And.intro (And.intro (And.intro @plain.eq_28 @plain.eq_29) (And.intro @plain.eq_30 @plain.eq_31)) (And.intro (And.intro @plain.eq_32 @plain.eq_33) (And.intro @act.eq_1 @act.eq_2)))) (And.intro (And.intro (And.intro (And.intro @act.eq_3 @act.eq_4) (And.intro @act.eq_5 @act.eq_6)) (And.intro (And.intro @act.eq_7 @act.eq_8) (And.intro @act.eq_9 @act.eq_10))) (And.intro (And.intro (And.intro @act.eq_11 @act.eq_12) (And.intro @act.eq_13 @act.eq_14)) (And.intro (And.intro @act.eq_15 @act.eq_16) (And.intro @act.eq_17 @act.eq_18))))) (And.intro (And.intro (And.intro (And.intro (And.intro @act.eq_19 @cO.eq_1) (And.intro @cO.eq_2 @cO.eq_3)) (And.intro (And.intro @cO.eq_4 @cO.eq_5) (And.intro @cO.eq_6 @cO.eq_7))) (And.intro (And.intro (And.intro @cO.eq_8 @cO.eq_9) (And.intro @cO.eq_10 @cO.eq_11)) (And.intro (And.intro @cO.eq_12 @cO.eq_13) (And.intro @cO.eq_14 @cO.eq_15)))) (And.intro (And.intro (And.intro (And.intro @cO.eq_16 @cO.eq_17) (And.intro @cO.eq_18 @cO.eq_19)) (And.intro (And.intro @cO.eq_20 @cO.eq_21) (And.intro @cO.eq_22 @cO.eq_23))) (And.intro (And.intro (And.intro @cO.eq_24 @cO.eq_25) (And.intro @cO.eq_26 @cO.eq_27)) (And.intro (And.intro @cO.eq_28 @cO.eq_29) (And.intro @cO.eq_30 @cO.eq_31)))))))) (And.intro (And.intro (And.intro (And.intro (And.intro (And.intro (And.intro @cO.eq_32 (And.intro @cO.eq_33 @cO.eq_34)) (And.intro (And.intro @cO.eq_35 @cO.eq_36) (And.intro @cO.eq_37 @cO.eq_38))) (And.intro (And.intro (And.intro @cO.eq_39 @cO.eq_40) (And.intro @cO.eq_41 @cO.eq_42)) (And.intro (And.intro @cO.eq_43 @cO.eq_44) (And.intro @cO.eq_45 @cO.eq_46)))) (And.intro (And.intro (And.intro (And.intro @cO.eq_47 @cO.eq_48) (And.intro @cO.eq_49 @Bool.false_eq_true)) (And.intro (And.intro @if_true.{1} @if_false.{1}) (And.intro @Qg @MK))) (And.intro (And.intro (And.intro @St.get.eq_1 @St.get.eq_2) (And.intro @St.get.eq_3 @St.put.eq_1)) (And.intro (And.intro @St.dG.eq_1 @St.putRow.eq_1) (And.intro @St.consume.eq_1 @St.consume.eq_2))))) (And.intro (And.intro (And.intro (And.intro @St.consume.eq_3 (And.intro @St.freeze.eq_1 @St.row.eq_1)) (And.intro (And.intro @St.row.eq_2 @St.row.eq_3) (And.intro @St.elems.eq_1 @St.grab.eq_1))) (And.intro (And.intro (And.intro @St.grab.eq_2 @St.grab.eq_3) (And.intro @pW.eq_1 @pW.eq_2)) (And.intro (And.intro @pW.eq_3 @pW.eq_4) (And.intro @Un.eq_1 @Un.eq_2)))) (And.intro (And.intro (And.intro (And.intro @jv.eq_1 @jv.eq_2) (And.intro @jv.eq_3 @jv.eq_4)) (And.intro (And.intro @St.takeRow.eq_1 @St.takeRow.eq_2) (And.intro @St.takeRow.eq_3 @St.setRow.eq_1))) (And.intro (And.intro (And.intro @St.setRow.eq_2 @St.setRow.eq_3) (And.intro @St.place.eq_1 @St.place.eq_2)) (And.intro (And.intro @St.vY.eq_1 @St.vY.eq_2) (And.intro @St.setCell.eq_1 @St.jr.eq_1)))))) (And.intro (And.intro (And.intro (And.intro (And.intro @zQ.eq_1 (And.intro @zQ.eq_2 @zQ.eq_3)) (And.intro (And.intro @zQ.eq_4 @BK.eq_1) (And.intro @BK.eq_2 @BK.eq_3))) (And.intro (And.intro (And.intro @BK.eq_4 @fP.eq_1) (And.intro @fP.eq_2 @fP.eq_3)) (And.intro (And.intro @fP.eq_4 @fP.eq_5) (And.intro @fP.eq_6 @fP.eq_7)))) (And.intro (And.intro (And.intro (And.intro @fP.eq_8 @fP.eq_9) (And.intro @fP.eq_10 @fP.eq_11)) (And.intro (And.intro @fP.eq_12 @fP.eq_13) (And.intro @fP.eq_14 @fP.eq_15))) (And.intro (And.intro (And.intro @fP.eq_16 @fP.eq_17) (And.intro @Um.eq_1 @Um.eq_2)) (And.intro (And.intro @Um.eq_3 @Um.eq_4) (And.intro @BV.val.eq_1 @BV.val.eq_2))))) (And.intro (And.intro (And.intro (And.intro @BV.av.eq_1 (And.intro @BV.av.eq_2 @VL)) (And.intro (And.intro @QF @VN) (And.intro @QG @cells_func))) (And.intro (And.intro (And.intro @VO @MV) (And.intro @Gq @Gs)) (And.intro (And.intro @Ze @Vr) (And.intro @Vs @Qo)))) (And.intro (And.intro (And.intro (And.intro @Zf @Vu) (And.intro @Vt @Vw)) (And.intro (And.intro @Qp @Qq) (And.intro @Qr @Qs))) (And.intro (And.intro (And.intro @Zg @Vx) (And.intro @Vy @Qu)) (And.intro (And.intro @Zh @VA) (And.intro @Vz @VB))))))) (And.intro (And.intro (And.intro (And.intro (And.intro (And.intro @Qw (And.intro @Qv @Qy)) (And.intro (And.intro @Qx @Zi) (And.intro @VD @VE))) (And.intro (And.intro (And.intro @Qz @Zj) (And.intro @VG @VF)) (And.intro (And.intro @VH @QB) (And.intro @QA @QD)))) (And.intro (And.intro (And.intro (And.intro @QC @bound.eq_1) (And.intro @bound.eq_2 @bound.eq_3)) (And.intro (And.intro @dU.eq_1 @dU.eq_2) (And.intro @fQ.eq_1 @fQ.eq_2))) (And.intro (And.intro (And.intro @wK.eq_1 @wK.eq_2) (And.intro @capOf.eq_1 @Gm)) (And.intro (And.intro @afu @aP) (And.intro @aX @aN))))) (And.intro (And.intro (And.intro (And.intro @aW (And.intro @List.append_nil.{0} @aT)) (And.intro (And.intro @aO @Nat.zero_add) (And.intro @Nat.add_zero @MO))) (And.intro (And.intro (And.intro @MN @ML) (And.intro @Ai @decide_true)) (And.intro (And.intro @decide_false @Bool.not_true) (And.intro @Bool.not_false @Bool.true_eq_false)))) (And.intro (And.intro (And.intro (And.intro @beq_self_eq_true.{0} @Bool.true_and) (And.intro @Bool.and_true @Bool.false_and)) (And.intro (And.intro @Bool.and_false @Bool.true_or) (And.intro @Bool.false_or @Bool.or_false))) (And.intro (And.intro (And.intro @Bool.or_true @ahS) (And.intro @ahT @Gi)) (And.intro (And.intro @U4 @List.length_map.{0,0}) (And.intro @MP @YL)))))) (And.intro (And.intro (And.intro (And.intro (And.intro @MQ (And.intro @Qh @acv)) (And.intro (And.intro @Qi @Qj) (And.intro @acw @Qk))) (And.intro (And.intro (And.intro @dcall.eq_1 @zD.eq_1) (And.intro @acz.eq_1 @MS.eq_1)) (And.intro (And.intro @Gp.eq_1 @IK.eq_1) (And.intro @rH.eq_1 @mQ.eq_1)))) (And.intro (And.intro (And.intro (And.intro @mQ.eq_2 @mQ.eq_3) (And.intro @P8 @P9)) (And.intro (And.intro @Qc @acn) (And.intro @aco @acp))) (And.intro (And.intro (And.intro @acr @acs) (And.intro @acu @MF)) (And.intro (And.intro @YH @AY) (And.intro @CZ @List.mapM_cons.{0,0,0}))))) (And.intro (And.intro (And.intro (And.intro (And.intro @Ql @St.jh.eq_1) (And.intro @St.jh.eq_2 @St.snap.eq_1)) (And.intro (And.intro @St.snap.eq_2 @St.snap.eq_3) (And.intro @St.snap.eq_4 @St.snap.eq_5))) (And.intro (And.intro (And.intro @St.snap.eq_6 @Qm) (And.intro @Va @Qn)) (And.intro (And.intro @Vb @Zk) (And.intro @VI @Zl)))) (And.intro (And.intro (And.intro (And.intro @VJ @VK) (And.intro @St.layAll.eq_1 @St.layAll.eq_2)) (And.intro (And.intro @St.lay.eq_1 @St.lay.eq_2) (And.intro @St.lay.eq_3 @IJ))) (And.intro (And.intro (And.intro @MR @St.bT.eq_1) (And.intro @St.bg.eq_1 @St.bg.eq_2)) (And.intro (And.intro @St.bg.eq_3 @St.bg.eq_4) (And.intro @St.bg.eq_5 @St.bg.eq_6)))))))))
def ZV:=(And.intro (And.intro (And.intro (And.intro @List.isEmpty_nil.{0} (And.intro @abJ @OE)) (And.intro @Fh (And.intro @Uo @Ur))) (And.intro (And.intro @OD (And.intro @Int.le_refl @IQ)) (And.intro @Nat.le_refl (And.intro @St.bf.eq_1 @BV.frozen.eq_1)))) (And.intro (And.intro (And.intro @BV.frozen.eq_2 (And.intro @List.take_length.{0} @List.take_append_drop.{0})) (And.intro @aI (And.intro @Int.toNat_zero @true_and))) (And.intro (And.intro @and_true (And.intro @and_self @eq_self.{1})) (And.intro @Ai (And.intro @List.drop_nil.{0} @List.take_nil.{0})))))
def bD:=(And.intro (And.intro @Nat.zero_le (And.intro @List.take_zero.{0} @List.take_nil.{0})) (And.intro (And.intro @List.take_succ_cons.{0} @List.length_cons.{0}) (And.intro @List.length_nil.{0} @Nat.le_refl)))
def dK:=And.intro @ZV @yE
end Go.Proofs.YtaaokejjmdbfaaaDoor

namespace Go.Proofs.YtaaokejjmdbfaaaDoor.V
theorem Nv (x:dY):part (lq x) 0 (some 8)=some (.agg (lq x)):=by
 simp only [part,iY,Nat.zero_add,List.drop_zero]
 rw [if_pos (Nat.le_refl _),List.take_of_length_le (by rw [iY];exact Nat.le_refl _)]
theorem Dy:∀ a b:List UInt8,a.length=b.length→iV (a.map fun b=>.int .u8 (b.toNat:Int)) (b.map fun b=>.int .u8 (b.toNat:Int))=some (decide (a=b))
 |[],[],_=>rfl
 |x :: a,y :: b,h=>by
  simp only [List.length_cons,Nat.add_right_cancel_iff] at h
  simp only [List.map_cons,iV,if_pos,Dy a b h,Option.map_some,List.cons.injEq]
  congr 1
  have:((x.toNat:Int)==(y.toNat:Int))=decide (x=y):=by
   by_cases e:x=y
   ·subst e;simp
   ·have:¬ x.toNat=y.toNat:=fun h=>e (UInt8.toNat_inj.1 h)
    simp [e];omega
  rw [this,Bool.decide_and]
 |[],_ :: _,h=>by simp at h
 |_ :: _,[],h=>by simp at h
theorem Ap (a b:dY):iV (lq a) (lq b)=some (decide (a=b)):=by
 unfold lq
 rw [Dy _ _ (by simp)]
 congr 1
 apply decide_eq_decide.2
 exact ⟨fun h=>Vector.toList_inj.1 h,fun h=>by rw [h]⟩
end Go.Proofs.YtaaokejjmdbfaaaDoor.V

namespace Go.Proofs.YtaaokejjmdbfaaaDoor.V
def adx {α:Type} (p:α→Bool) (l:List α):Int:=if l.any p then (l.findIdx p:Int) else -1
theorem Nw {α:Type} (p:α→Bool) (l:List α):decide (adx p l ≥ 0)=l.any p:=by
 unfold adx
 cases l.any p
 ·rfl
 ·simp only [if_true];exact decide_eq_true (by omega)
def eqF {α β:Type} (eq:α→β→Bool) (l:List α) (m:List β):Bool:=decide (l.length=m.length)&&(l.zip m).all fun q=>eq q.1 q.2
--+
theorem ady {α:Type} {enc:α→PV} {l:List α} {p:α→Bool} {gf:Nat} {caps:List PV} (hp:∀ x∈l,cal env gf (enc x :: caps)=some [(.bool (p x),false)]) (hs:∀ x,part (enc x).cells 0 none=some (enc x)) (hl:l.length≤lim)
  {st:St} (h:st.head [0,1,7,8] st.boxes.length=some ⟨[.pv (.list 1 (l.map enc)),.pv (.func gf caps),.any,.any,.any,.any,.any,.pv (.int .i64 l.length),.pv (.int .i64 (0:Nat)),.any,.any,.any,.any,.any,.any,.any,.any,.any,.any],[],[],none⟩) :
  den env Dx st=if l.any p then some (.ret,⟨[.any,.any,.any,.any,.pv (.int .i64 (l.findIdx p)),.any,.any,.any,.any,.any,.any,.any,.any,.any,.any,.any,.any,.any,.any],[],[],none⟩) else some (.normal,⟨[.any,.any,.any,.any,.any,.any,.any,.any,.any,.any,.any,.any,.any,.any,.any,.any,.any,.any,.any],[],[],none⟩):=by
 unfold Dx
 rw [bJ l.length (fun i=>⟨[.pv (.list 1 (l.map enc)),.pv (.func gf caps),.any,.any,.any,.any,.any,.pv (.int .i64 l.length),.pv (.int .i64 i),.any,.any,.any,.any,.any,.any,.any,.any,.any,.any],[],[],none⟩)
  (fun i=>if (l.drop i).any p then some (.ret,⟨[.any,.any,.any,.any,.pv (.int .i64 ((i+(l.drop i).findIdx p:Nat):Int)),.any,.any,.any,.any,.any,.any,.any,.any,.any,.any,.any,.any,.any,.any],[],[],none⟩) else some (.normal,⟨[.any,.any,.any,.any,.any,.any,.any,.any,.any,.any,.any,.any,.any,.any,.any,.any,.any,.any,.any],[],[],none⟩)) h (fun _=>rfl) (fun _=>rfl) ?_ ?_]
 ·simp only [List.drop_zero,Nat.zero_add]
 ·intro i rb hi ih
  have hi1:=bP hi hl
  have F1:((i:Int)<(l.length:Int))=True:=eq_true (by omega)
  simp only [Dw,F1,List.length_map,ah hi,List.getElem?_map,List.getElem?_eq_getElem hi,hp _ (List.getElem_mem hi),hs,yE,reduceCtorEq,Nat.reduceEqDiff,Nat.reduceAdd,Nat.reduceLT,Nat.reduceLeDiff,Nat.beq]
  (try simp only [kH,l9,kJ]);refine jE (fun hb=>?_) (fun hb=>?_)<;>try simp only [hb,dK,reduceCtorEq,Nat.reduceEqDiff,Nat.reduceAdd,Nat.reduceLT,Nat.reduceLeDiff,Nat.beq]
  ·rw [List.drop_eq_getElem_cons hi]
   simp only [List.any_cons,hb,Bool.true_or,if_true,List.findIdx_cons,cond_true,Nat.add_zero]
   rfl
  ·rw [ih _ (by simp only [hi1];rfl),List.drop_eq_getElem_cons hi]
   simp only [List.any_cons,hb,Bool.false_or,List.findIdx_cons,cond_false,Nat.add_assoc,Nat.add_comm 1]
 ·intro rb
  simp only [Dw,Int.lt_irrefl,yE,reduceCtorEq,Nat.reduceEqDiff,Nat.reduceAdd,Nat.reduceLT,Nat.reduceLeDiff,Nat.beq]
  simp only [List.drop_length,List.any_nil,Bool.false_eq_true,if_false]
  rfl
theorem af4 {α:Type} {enc:α→PV} {l:List α} {p:α→Bool} {gf:Nat} {caps:List PV} (hp:∀ x∈l,cal env gf (enc x :: caps)=some [(.bool (p x),false)]) (hs:∀ x,part (enc x).cells 0 none=some (enc x)) (hl:l.length≤lim) :
  cal env 112 [.list 1 (l.map enc),.func gf caps]=some [(.int .i64 (adx p l),false)]:=by
 rw [au af0 rfl];simp only [Nr];simp only [start,aP,aX,aN,aW,aI,aJ,aO,aT,Nat.reduceAdd,Nat.reduceSub]
 simp only [List.length_map,yE,reduceCtorEq,Nat.reduceEqDiff,Nat.reduceAdd,Nat.reduceLT,Nat.reduceLeDiff,Nat.beq]
 rw [ady hp hs hl]
 rotate_left
 ·rfl
 ·simp only [adx]
  split<;>simp only [yE,reduceCtorEq,Nat.reduceEqDiff,Nat.reduceAdd,Nat.reduceLT,Nat.reduceLeDiff,Nat.beq]
--+
theorem af5 {α:Type} {enc:α→PV} {l:List α} {p:α→Bool} {gf:Nat} {caps:List PV} (hp:∀ x∈l,cal env gf (enc x :: caps)=some [(.bool (p x),false)]) (hs:∀ x,part (enc x).cells 0 none=some (enc x)) (hl:l.length≤lim) :
  cal env 102 [.list 1 (l.map enc),.func gf caps]=some [(.bool (l.any p),false)]:=by
 rw [au afT rfl];simp only [Nh];simp only [start,aP,aX,aN,aW,aI,aJ,aO,aT,Nat.reduceAdd,Nat.reduceSub]
 simp only [af4 hp hs hl,Nw,yE,reduceCtorEq,Nat.reduceEqDiff,Nat.reduceAdd,Nat.reduceLT,Nat.reduceLeDiff,Nat.beq]
--+
theorem af6 {α β:Type} {enc:α→PV} {enc2:β→PV} {eq:α→β→Bool} {l:List α} {m:List β} {gf:Nat} {caps:List PV} (hp:∀ x∈l,∀ y∈m,cal env gf (enc x :: enc2 y :: caps)=some [(.bool (eq x y),false)]) (hs:∀ x,part (enc x).cells 0 none=some (enc x)) (hs2:∀ x,part (enc2 x).cells 0 none=some (enc2 x)) (hlm:l.length=m.length) (hl:l.length≤lim)
  {st:St} (h:st.head [0,1,2,15,16,17] st.boxes.length=some ⟨[.pv (.list 1 (l.map enc)),.pv (.list 1 (m.map enc2)),.pv (.func gf caps),.any,.any,.any,.any,.any,.any,.any,.any,.any,.any,.any,.any,.pv (.list 1 (l.map enc)),.pv (.int .i64 l.length),.pv (.int .i64 (0:Nat)),.any,.any,.any,.any,.any,.any,.any,.any,.any,.any,.any,.any,.any,.any],[],[],none⟩) :
  den env Js st=if (l.zip m).all (fun q=>eq q.1 q.2) then some (.normal,⟨[.any,.any,.any,.any,.any,.any,.any,.any,.any,.any,.any,.any,.any,.any,.any,.any,.any,.any,.any,.any,.any,.any,.any,.any,.any,.any,.any,.any,.any,.any,.any,.any],[],[],none⟩) else some (.ret,⟨[.any,.any,.any,.any,.any,.any,.pv (.bool false),.any,.any,.any,.any,.any,.any,.any,.any,.any,.any,.any,.any,.any,.any,.any,.any,.any,.any,.any,.any,.any,.any,.any,.any,.any],[],[],none⟩):=by
 unfold Js
 rw [bJ l.length (fun i=>⟨[.pv (.list 1 (l.map enc)),.pv (.list 1 (m.map enc2)),.pv (.func gf caps),.any,.any,.any,.any,.any,.any,.any,.any,.any,.any,.any,.any,.pv (.list 1 (l.map enc)),.pv (.int .i64 l.length),.pv (.int .i64 i),.any,.any,.any,.any,.any,.any,.any,.any,.any,.any,.any,.any,.any,.any],[],[],none⟩)
  (fun i=>if ((l.drop i).zip (m.drop i)).all (fun q=>eq q.1 q.2) then some (.normal,⟨[.any,.any,.any,.any,.any,.any,.any,.any,.any,.any,.any,.any,.any,.any,.any,.any,.any,.any,.any,.any,.any,.any,.any,.any,.any,.any,.any,.any,.any,.any,.any,.any],[],[],none⟩) else some (.ret,⟨[.any,.any,.any,.any,.any,.any,.pv (.bool false),.any,.any,.any,.any,.any,.any,.any,.any,.any,.any,.any,.any,.any,.any,.any,.any,.any,.any,.any,.any,.any,.any,.any,.any,.any],[],[],none⟩)) h (fun _=>rfl) (fun _=>rfl) ?_ ?_]
 ·simp only [List.drop_zero]
 ·intro i rb hi ih
  have hi1:=bP hi hl
  have hj:i<m.length:=by omega
  have F1:((i:Int)<(l.length:Int))=True:=eq_true (by omega)
  simp only [Jr,F1,List.length_map,ah hi,ah hj,List.getElem?_map,List.getElem?_eq_getElem hi,List.getElem?_eq_getElem hj,hs,hs2,hp _ (List.getElem_mem hi) _ (List.getElem_mem hj),yE,reduceCtorEq,Nat.reduceEqDiff,Nat.reduceAdd,Nat.reduceLT,Nat.reduceLeDiff,Nat.beq]
  (try simp only [kH,l9,kJ]);refine jE (fun hb=>?_) (fun hb=>?_)<;>try simp only [hb,dK,reduceCtorEq,Nat.reduceEqDiff,Nat.reduceAdd,Nat.reduceLT,Nat.reduceLeDiff,Nat.beq]
  ·rw [ih _ (by simp only [hi1];rfl),List.drop_eq_getElem_cons hi,List.drop_eq_getElem_cons hj]
   simp only [List.zip_cons_cons,List.all_cons,hb,Bool.true_and]
  ·rw [List.drop_eq_getElem_cons hi,List.drop_eq_getElem_cons hj]
   simp only [List.zip_cons_cons,List.all_cons,hb,Bool.false_and,Bool.false_eq_true,if_false]
   rfl
 ·intro rb
  simp only [Jr,Int.lt_irrefl,yE,reduceCtorEq,Nat.reduceEqDiff,Nat.reduceAdd,Nat.reduceLT,Nat.reduceLeDiff,Nat.beq]
  rw [List.drop_length]
  rfl
theorem air {α β:Type} {enc:α→PV} {enc2:β→PV} {eq:α→β→Bool} {l:List α} {m:List β} {gf:Nat} {caps:List PV} (hp:∀ x∈l,∀ y∈m,cal env gf (enc x :: enc2 y :: caps)=some [(.bool (eq x y),false)]) (hs:∀ x,part (enc x).cells 0 none=some (enc x)) (hs2:∀ x,part (enc2 x).cells 0 none=some (enc2 x)) (hl:l.length≤lim) :
  cal env 77 [.list 1 (l.map enc),.list 1 (m.map enc2),.func gf caps]=some [(.bool (eqF eq l m),false)]:=by
 rw [au aic rfl];simp only [ZG];simp only [start,aP,aX,aN,aW,aI,aJ,aO,aT,Nat.reduceAdd,Nat.reduceSub]
 simp only [List.length_map,yE,reduceCtorEq,Nat.reduceEqDiff,Nat.reduceAdd,Nat.reduceLT,Nat.reduceLeDiff,Nat.beq]
 (try simp only [kH,l9,kJ]);refine jE (fun hb=>?_) (fun hb=>?_)<;>try simp only [hb,dK,reduceCtorEq,Nat.reduceEqDiff,Nat.reduceAdd,Nat.reduceLT,Nat.reduceLeDiff,Nat.beq]
 ·have hlm:l.length=m.length:=by simp at hb;omega
  rw [af6 hp hs hs2 hlm hl]
  rotate_left
  ·rfl
  ·simp only [eqF,decide_eq_true hlm,Bool.true_and]
   cases (l.zip m).all (fun q=>eq q.1 q.2)<;>simp only [yE,reduceCtorEq,Nat.reduceEqDiff,Nat.reduceAdd,Nat.reduceLT,Nat.reduceLeDiff,Nat.beq]
 ·have:¬ l.length=m.length:=fun e=>by rw [e] at hb;simp at hb
  simp only [eqF,decide_eq_false this,yE,reduceCtorEq,Nat.reduceEqDiff,Nat.reduceAdd,Nat.reduceLT,Nat.reduceLeDiff,Nat.beq]
end Go.Proofs.YtaaokejjmdbfaaaDoor.V

namespace Go.Proofs.YtaaokejjmdbfaaaDoor.V
def jF (l:List Int):Int:=if l.length<1∨8<l.length then 6 else if l.any (fun n=>decide (n<1) || decide (n > 4096)) then 2 else 0
def bn (im:kC):List Int:=im.map fun v=>(v.length:Int)
def gW (im:kC):Int:=jF (bn im)
theorem E8 {α β:Type} (f:α→β) {l:List α} {i:Nat} (h:i<l.length):(l.take i).map f++[f l[i]]=(l.take (i+1)).map f:=by
 rw [List.take_succ,List.getElem?_eq_getElem h,List.map_append];rfl
theorem adz {α:Type} {enc:α→PV} {l:List α} {g:α→Int} {gf:Nat} {caps:List PV} (hp:∀ x∈l,cal env gf (enc x :: caps)=some [(eI (g x),false)]) (hs:∀ x,part (enc x).cells 0 none=some (enc x)) (hs3:∀ x,(enc x).cells.length=1) (hl:l.length≤lim)
  {st:St} (h:st.head [0,1,5,10,11,12,13,22] st.boxes.length=some ⟨[.pv (.list 1 (l.map enc)),.pv (.func gf caps),.any,.any,.any,.row 1 [],.any,.any,.any,.any,.any,.pv (.list 1 (l.map enc)),.pv (.int .i64 l.length),.pv (.int .i64 (0:Nat)),.any,.any,.any,.any,.any,.any,.any,.any,.any,.any,.any],[],[],none⟩) :
  den env Dl st=some (.normal,⟨[.any,.any,.any,.any,.any,.row 1 (l.map fun x=>eI (g x)),.any,.any,.any,.any,.any,.any,.any,.any,.any,.any,.any,.any,.any,.any,.any,.any,.any,.any,.any],[],[],none⟩):=by
 unfold Dl
 rw [bJ l.length (fun i=>⟨[.pv (.list 1 (l.map enc)),.pv (.func gf caps),.any,.any,.any,.row 1 ((l.take i).map fun x=>eI (g x)),.any,.any,.any,.any,.any,.pv (.list 1 (l.map enc)),.pv (.int .i64 l.length),.pv (.int .i64 i),.any,.any,.any,.any,.any,.any,.any,.any,.any,.any,.any],[],[],none⟩)
  (fun i=>some (.normal,⟨[.any,.any,.any,.any,.any,.row 1 (l.map fun x=>eI (g x)),.any,.any,.any,.any,.any,.any,.any,.any,.any,.any,.any,.any,.any,.any,.any,.any,.any,.any,.any],[],[],none⟩)) h (fun _=>rfl) (fun _=>rfl) ?_ ?_]
 ·intro i rb hi ih
  have hi1:=bP hi hl
  have F1:((i:Int)<(l.length:Int))=True:=eq_true (by omega)
  have F2:((l.take i).length+1≤lim)=True:=eq_true (by rw [List.length_take];omega)
  have hpi:cal env gf (enc l[i] :: caps)=some [((PV.int .i64 (g l[i])),false)]:=hp _ (List.getElem_mem hi)
  try simp only [gu] at hpi
  simp only [Dk,F1,F2,ah hi,List.getElem?_map,List.getElem?_eq_getElem hi,hpi,hs,hs3,dK,reduceCtorEq,Nat.reduceEqDiff,Nat.reduceAdd,Nat.reduceLT,Nat.reduceLeDiff,Nat.beq]
  rw [ih _ (by simp only [hi1];rw [← E8 _ hi];rfl)]
 ·intro rb
  simp only [Dk,Int.lt_irrefl,yE,reduceCtorEq,Nat.reduceEqDiff,Nat.reduceAdd,Nat.reduceLT,Nat.reduceLeDiff,Nat.beq]
  rw [List.take_length]
  rfl
theorem af7 {α:Type} {enc:α→PV} {l:List α} {g:α→Int} {gf:Nat} {caps:List PV} (hp:∀ x∈l,cal env gf (enc x :: caps)=some [(eI (g x),false)]) (hs:∀ x,part (enc x).cells 0 none=some (enc x)) (hs3:∀ x,(enc x).cells.length=1) (hl:l.length≤lim) :
  cal env 104 [.list 1 (l.map enc),.func gf caps]=some [(.list 1 (l.map fun x=>eI (g x)),true)]:=by
 rw [au afV rfl];simp only [Nk];simp only [start,aP,aX,aN,aW,aI,aJ,aO,aT,Nat.reduceAdd,Nat.reduceSub]
 have F1:((l.length:Int)≤(lim:Int))=True:=eq_true (by omega)
 have F2:((0:Int)≤(l.length:Int))=True:=eq_true (by omega)
 simp only [F1,F2,Int.le_refl,dK,reduceCtorEq,Nat.reduceEqDiff,Nat.reduceAdd,Nat.reduceLT,Nat.reduceLeDiff,Nat.beq]
 rw [adz hp hs hs3 hl]
 rotate_left
 ·rfl
 ·simp only [dK,reduceCtorEq,Nat.reduceEqDiff,Nat.reduceAdd,Nat.reduceLT,Nat.reduceLeDiff,Nat.beq]
theorem af8 {x:Int}:cal env 103 [eI x]=some [(.bool (decide (x<1) || decide (x > 4096)),false)]:=by
 unfold eI
 rw [au afU rfl];simp only [Nj];simp only [start,aP,aX,aN,aW,aI,aJ,aO,aT,Nat.reduceAdd,Nat.reduceSub]
 simp only [dK,reduceCtorEq,Nat.reduceEqDiff,Nat.reduceAdd,Nat.reduceLT,Nat.reduceLeDiff,Nat.beq]
 (try simp only [kH,l9,kJ]);refine jE (fun hb=>?_) (fun hb=>?_)<;>try simp only [hb,dK,reduceCtorEq,Nat.reduceEqDiff,Nat.reduceAdd,Nat.reduceLT,Nat.reduceLeDiff,Nat.beq]
theorem ais {l:List Int} (hl:l.length≤lim):cal env 82 [.list 1 (l.map eI)]=some [(.int .i64 (jF l),false)]:=by
 have e1:=af5 (l:=l) (enc:=eI) (fun x _=>af8 (x:=x)) (fun x=>rfl) hl
 rw [au aii rfl];simp only [ZJ];simp only [start,aP,aX,aN,aW,aI,aJ,aO,aT,Nat.reduceAdd,Nat.reduceSub]
 simp only [e1,dK,reduceCtorEq,Nat.reduceEqDiff,Nat.reduceAdd,Nat.reduceLT,Nat.reduceLeDiff,Nat.beq]
 repeat' ((try simp only [kH,l9,kJ]);refine jE (fun hb=>?_) (fun hb=>?_)<;>try simp only [hb,e1,dK,reduceCtorEq,Nat.reduceEqDiff,Nat.reduceAdd,Nat.reduceLT,Nat.reduceLeDiff,Nat.beq])
 all_goals grind [jF]
theorem af9 {v:List dY}:cal env 105 [aY v]=some [(eI v.length,false)]:=by
 unfold aY eI
 rw [au afW rfl];simp only [Nl];simp only [start,aP,aX,aN,aW,aI,aJ,aO,aT,Nat.reduceAdd,Nat.reduceSub]
 simp only [dK,reduceCtorEq,Nat.reduceEqDiff,Nat.reduceAdd,Nat.reduceLT,Nat.reduceLeDiff,Nat.beq]
theorem ait {im:kC} (hl:im.length≤lim):cal env 83 [.list 1 (im.map aY)]=some [(.list 1 ((bn im).map eI),true)]:=by
 have e1:=af7 (enc:=aY) (l:=im) (fun x _=>af9 (v:=x)) (fun x=>rfl) (fun x=>rfl) hl
 rw [au aij rfl];simp only [ZK];simp only [start,aP,aX,aN,aW,aI,aJ,aO,aT,Nat.reduceAdd,Nat.reduceSub]
 simp only [e1,dK,reduceCtorEq,Nat.reduceEqDiff,Nat.reduceAdd,Nat.reduceLT,Nat.reduceLeDiff,Nat.beq]
 simp [bn]
theorem aeJ {im:kC} (hl:im.length≤lim):cal env 50 [.list 1 (im.map aY)]=some [(.int .i64 (gW im),false)]:=by
 have h2:(bn im).length≤lim:=by simpa [bn] using hl
 have e1:=ait hl
 have e2:=ais h2
 rw [au ah5 rfl];simp only [Zy];simp only [start,aP,aX,aN,aW,aI,aJ,aO,aT,Nat.reduceAdd,Nat.reduceSub]
 simp only [e1,e2,dK,reduceCtorEq,Nat.reduceEqDiff,Nat.reduceAdd,Nat.reduceLT,Nat.reduceLeDiff,Nat.beq]
 rfl
end Go.Proofs.YtaaokejjmdbfaaaDoor.V

namespace Go.Proofs.YtaaokejjmdbfaaaDoor
noncomputable def iter (env:Env) (f:Nat) (caps:List PV) (stop:Option Nat):Option (List (List PV)):=jl (den env) env f caps stop
def QX (n:Nat) (caps:List PV) (stop:Option Nat):St:=⟨.pK :: (caps.map .pv++List.replicate (n - (caps.length+1)) .any),[],[],some stop⟩
def aga:Ex × St→Option (List (List PV))
 |(.exit _,_)=>none
 |(.nS _ _,_)=>none
 |(_,st)=>some st.ys
section
variable {env:Env}
theorem Ny (st:St):aga (.normal,st)=some st.ys:=(rfl)
theorem ZW (st:St):aga (.ret,st)=some st.ys:=(rfl)
theorem Gy {f:Nat} {fn:jd} {caps:List PV} {stop:Option Nat} (h:env f=some (.code fn)) (hl:caps.length+1=fn.nargs) (hr:fn.results.isEmpty=true):iter env f caps stop=(den env fn.body (QX fn.ntmps caps stop)).bind aga:=by
 unfold iter jl
 rw [h]
 simp only [if_pos (And.intro hl hr)]
 show (den env fn.body _).bind _=_
 congr 1
 funext ⟨e,st⟩
 cases e<;>rfl
noncomputable def Dz (env:Env) (slots:List AV) (ps:List Nat) (assign body:ak) (nb:Nat) (x:List PV) (st:St):Option (Ex × St) :=
 (fF slots ps x).bind fun sl=>(den env assign { st with slots:=sl }).bind fun p=>match p with
  |(.normal,st)=>(den env body st).bind fun p=>match p with
   |(.normal,st)=>if nb≤st.boxes.length then some (.normal,{ st with boxes:=st.boxes.take nb }) else none
   |(.nS _ _,_)=>none
   |p=>some p
  |_=>none
theorem Nz {slots:List AV} {ps:List Nat} {assign body:ak} {nb k:Nat} {x:List PV} {xs:List (List PV)} {st:St} :
  rounds (den env) slots ps assign body nb k (x :: xs) st=(Dz env slots ps assign body nb x st).bind fun p=>match p with
   |(.normal,st)=>rounds (den env) slots ps assign body nb (k+1) xs st
   |(e,st)=>some (some (e,k+1),st):=by
 conv=>lhs;unfold rounds
 unfold Dz
 show (fF slots ps x).bind _=_
 cases fF slots ps x with
 |none=>rfl
 |some sl =>
  simp only [Option.bind_some]
  show (den env assign _).bind _=_
  cases den env assign { st with slots:=sl } with
  |none=>rfl
  |some p =>
   obtain ⟨e,s⟩:=p
   simp only [Option.bind_some]
   cases e with
   |normal =>
    simp only
    show (den env body _).bind _=_
    cases den env body s with
    |none=>rfl
    |some p =>
     obtain ⟨e,s⟩:=p
     simp only [Option.bind_some]
     cases e with
     |normal =>
      simp only
      split<;>rfl
     |exit i=>rfl
     |ret=>rfl
     |nS t n=>rfl
   |exit i=>rfl
   |ret=>rfl
   |nS t n=>rfl
theorem adA {g:bI} {ps:List Nat} {assign body:ak} {st st1:St} {f:Nat} {caps:List PV} {xs:List (List PV)} (hg:st.dG g=some (.func f caps)) (hi:iter env f caps none=some xs)
  (hr:rounds (den env) (st.slots.map AV.froze) ps assign body st.boxes.length 0 xs { st with slots:=st.slots.map AV.froze }=some (none,st1)):den env (.rng g ps assign body) st=some (.normal,{ st1 with slots:=st.slots.map AV.froze }):=by
 rw [kG]
 show ranged (den env) env g ps assign body st=_
 unfold ranged
 rw [hg]
 unfold iter at hi
 simp only [Gm,Option.bind_some,hi,hr]
theorem S9 (B:Nat→List Box) {g:bI} {ps:List Nat} {assign body:ak} {st:St} {f:Nat} {caps:List PV} {xs:List (List PV)} (hg:st.dG g=some (.func f caps)) (hi:iter env f caps none=some xs) (hB:st.boxes=B 0)
  (h:∀ j x,xs[j]?=some x→∀ sl0,∃ sl1,Dz env (st.slots.map AV.froze) ps assign body st.boxes.length x ⟨sl0,B j,st.ys,st.stop⟩=some (.normal,⟨sl1,B (j+1),st.ys,st.stop⟩)) :
  den env (.rng g ps assign body) st=some (.normal,⟨st.slots.map AV.froze,B xs.length,st.ys,st.stop⟩):=by
 have key:∀ (l:List (List PV)) (j:Nat),xs.drop j=l→∀ (k:Nat) (sl0:List AV),∃ sl1,rounds (den env) (st.slots.map AV.froze) ps assign body st.boxes.length k l ⟨sl0,B j,st.ys,st.stop⟩=some (none,⟨sl1,B (j+l.length),st.ys,st.stop⟩):=by
  intro l
  induction l with
  |nil=>intro j _ k sl0;exact ⟨sl0,rfl⟩
  |cons x l ih =>
   intro j hj k sl0
   have hx:xs[j]?=some x:=by rw [← List.head?_drop,hj];rfl
   have hd:xs.drop (j+1)=l:=by rw [← List.drop_drop,hj];rfl
   obtain ⟨sl1,q⟩:=h j x hx sl0
   obtain ⟨sl2,q2⟩:=ih (j+1) hd (k+1) sl1
   refine ⟨sl2,?_⟩
   rw [Nz,q]
   simp only [Option.bind_some,q2,List.length_cons]
   rw [show j+1+l.length=j+(l.length+1) by omega]
 obtain ⟨sl1,q⟩:=key xs 0 (by simp) 0 (st.slots.map AV.froze)
 rw [← hB,Nat.zero_add] at q
 have r:=adA hg hi q
 exact r
theorem V3 {keep post:List Nat} {id nb:Nat} {b:ak} (n:Nat) (P:Nat→Prop) (S:Nat→St) (R:Nat→Option (Ex × St)) {st:St} (h:st.head keep st.boxes.length=some (S 0)) (hP:P 0) (hS:∀ i,(S i).boxes.length=nb) (hh:∀ i,(S i).head keep nb=some (S i))
  (step:∀ i rb,i<n→P i→(P (i+1)→∀ s,s.head keep nb=some (S (i+1))→iq env id post nb (den env rb s)=R (i+1))→iq env id post nb ((den env b (S i)).bind (next env rb))=R i)
  (last:∀ rb,P n→iq env id post nb ((den env b (S n)).bind (next env rb))=R n) :
  den env (.clean keep post (.block id (.loop keep b))) st=R 0:=by
 refine vI S R (fun i=>i≤n∧P i) (fun i=>n - i) 0 h ⟨Nat.zero_le _,hP⟩ hS hh fun i rb hi ih=>?_
 by_cases hn:i=n
 ·subst hn;exact last rb hi.2
 ·exact step i rb (by omega) hi.2 fun hp s hs=>ih (i+1) (by omega) ⟨by omega,hp⟩ s hs
noncomputable def Td (env:Env) (body:ak) (nb:Nat):Ex × St→Option (Ex × St)
 |(.normal,st)=>(den env body st).bind fun p=>match p with
  |(.normal,st)=>if nb≤st.boxes.length then some (.normal,{ st with boxes:=st.boxes.take nb }) else none
  |(.nS _ _,_)=>none
  |p=>some p
 |_=>none
def rend (nb:Nat):Ex × St→Option (Ex × St)
 |(.normal,st)=>if nb≤st.boxes.length then some (.normal,{ st with boxes:=st.boxes.take nb }) else none
 |(.nS _ _,_)=>none
 |p=>some p
theorem V4 (slots:List AV) (ps:List Nat) (assign body:ak) (nb:Nat) (x:List PV) (st:St):Dz env slots ps assign body nb x st=(fF slots ps x).bind fun sl=>(den env assign { st with slots:=sl }).bind (Td env body nb):=by
 unfold Dz
 rfl
theorem DC (body:ak) (nb:Nat) (st:St):Td env body nb (.normal,st)=(den env body st).bind (rend nb):=by
 rfl
theorem NC (nb:Nat) (st:St):rend nb (.normal,st)=if nb≤st.boxes.length then some (.normal,{ st with boxes:=st.boxes.take nb }) else none:=(rfl)
theorem V5 (nb i:Nat) (st:St):rend nb (.exit i,st)=some (.exit i,st):=(rfl)
theorem ZX (nb:Nat) (st:St):rend nb (.ret,st)=some (.ret,st):=(rfl)
theorem ZY (slots:List AV):fF slots [] []=some slots:=(rfl)
theorem V6 (slots:List AV) (p:Nat) (ps:List Nat) (v:PV) (vs:List PV):fF slots (p :: ps) (v :: vs)=fF (slots.set p (.pv v)) ps vs:=(rfl)
theorem Z8 (v:PV):AV.froze (.pv v)=.pv v:=(rfl)
theorem V7 (sz:Nat) (es:List PV):AV.froze (.row sz es)=.pv (.list sz es):=(rfl)
theorem V8:AV.froze .any=.any:=(rfl)
theorem V9 (k:Bool) (l:List AV):AV.froze (.jO k l)=.any:=(rfl)
theorem Wh (r:Root) (i j:Nat):AV.froze (.ref r i j)=.any:=(rfl)
theorem Wi (r:Root) (i j:Nat):AV.froze (.nI r i j)=.any:=(rfl)
theorem QY (i j:Nat):AV.froze (.aA i j)=.aA i j:=(rfl)
theorem Z9 (f:Nat) (l:List AV):AV.froze (.fn f l)=.fn f l:=(rfl)
theorem Wj:AV.froze .pK=.pK:=(rfl)
end
def ND:=And.intro @V4 (And.intro @DC (And.intro @NC (And.intro @V5 (And.intro @ZX (And.intro @ZY (And.intro @V6 (And.intro @Z8 (And.intro @V7 (And.intro @V8 (And.intro @V9 (And.intro @Wh (And.intro @Wi (And.intro @QY (And.intro @Z9 (And.intro @Wj (And.intro @Ny @ZW))))))))))))))))
end Go.Proofs.YtaaokejjmdbfaaaDoor

namespace Go.Proofs.YtaaokejjmdbfaaaDoor
def look:List (Nat × AV)→Nat→AV
 |[],_=>.any
 |(j,v) :: l,i=>dO (Nat.beq i j) v (look l i)
def sl (n:Nat) (l:List (Nat × AV)):List AV:=(List.range n).map (look l)
def mapA (f:AV→AV):List (Nat × AV)→List (Nat × AV)
 |[]=>[]
 |(j,v) :: l=>(j,f v) :: mapA f l
def keepA (l:List (Nat × AV)):List Nat→List (Nat × AV)
 |[]=>[]
 |k :: ks=>(k,look l k) :: keepA l ks
def Aq:Nat→List PV→List (Nat × AV)
 |_,[]=>[]
 |k,v :: l=>(k,.pv v) :: Aq (k+1) l
def NG (nb:Nat):List (Nat × AV)→Bool
 |[]=>true
 |(_,v) :: l=>AV.low nb v&&NG nb l
def QZ (n:Nat):List Nat→Bool
 |[]=>true
 |k :: ks=>decide (k<n)&&QZ n ks
theorem aac (i:Nat) (v:AV) (l:List (Nat × AV)):look ((i,v) :: l) i=v:=by
 show dO (Nat.beq i i) v _=v
 rw [Nat.beq_refl];rfl
theorem look_nil (i:Nat):look [] i=.any:=(rfl)
theorem agb {n i:Nat} {l:List (Nat × AV)} (h':i<n):(sl n l).getD i .any=look l i:=by
 simp [sl,List.getD_eq_getElem?_getD,h']
theorem Tf {n i:Nat} {l:List (Nat × AV)} (h':i<n):(sl n l)[i]?=some (look l i):=by
 simp [sl,h']
theorem kQ (l:List (Nat × AV)) (i j:Nat) (v:AV):look ((j,v) :: l) i=if i=j then v else look l i:=by
 show dO (Nat.beq i j) v _=_
 by_cases h:i=j
 ·subst h;rw [Nat.beq_refl,if_pos rfl];rfl
 ·rw [if_neg h]
  have:Nat.beq i j=false:=by
   cases e:Nat.beq i j with
   |false=>rfl
   |true=>exact absurd (Nat.eq_of_beq_eq_true e) h
  rw [this];rfl
theorem agc (n i:Nat) (v:AV) (l:List (Nat × AV)):(sl n l).set i v=sl n ((i,v) :: l):=by
 apply List.ext_getElem (by simp [sl])
 intro k h1 h2
 have hk:k<n:=by simpa [sl] using h2
 simp only [sl,List.getElem_set,List.getElem_map,List.getElem_range,kQ]
 by_cases h:i=k
 ·subst h;simp
 ·rw [if_neg h,if_neg (fun e=>h e.symm)]
theorem Wn {i j:Nat} {v:AV} {l:List (Nat × AV)} (h:(i==j)=false):look ((j,v) :: l) i=look l i:=by
 rw [kQ,if_neg (by simpa using h)]
theorem zG (f:AV→AV) (hf:f .any=.any):∀ (l:List (Nat × AV)) (i:Nat),look (mapA f l) i=f (look l i)
 |[],i=>hf.symm
 |(j,v) :: l,i=>by
  show look ((j,f v) :: mapA f l) i=_
  rw [kQ,kQ,zG f hf l i]
  split<;>rfl
theorem JF {f:AV→AV} (hf:f .any=.any) (n:Nat) (l:List (Nat × AV)):(sl n l).map f=sl n (mapA f l):=by
 unfold sl
 rw [List.map_map]
 apply List.map_congr_left
 intro i _
 exact (zG f hf l i).symm
theorem adB (n d:Nat) (l:List (Nat × AV)):(sl n l).map (AV.kill d)=sl n (mapA (AV.kill d) l):=JF rfl n l
theorem aad (n d:Nat) (l:List (Nat × AV)):(sl n l).map (AV.dH d)=sl n (mapA (AV.dH d) l):=JF rfl n l
theorem aae (n d y:Nat) (l:List (Nat × AV)):(sl n l).map (AV.ig d y)=sl n (mapA (AV.ig d y) l):=JF rfl n l
theorem aaf (n:Nat) (l:List (Nat × AV)):(sl n l).map AV.froze=sl n (mapA AV.froze l):=JF rfl n l
theorem aag (f:AV→AV):mapA f []=[]:=(rfl)
theorem Wp (f:AV→AV) (j:Nat) (v:AV) (l:List (Nat × AV)):mapA f ((j,v) :: l)=(j,f v) :: mapA f l:=(rfl)
theorem Wq (l:List (Nat × AV)):keepA l []=[]:=(rfl)
theorem wY (l:List (Nat × AV)) (k:Nat) (ks:List Nat):keepA l (k :: ks)=(k,look l k) :: keepA l ks:=(rfl)
theorem aah (nb:Nat):NG nb []=true:=(rfl)
theorem Gz (nb k:Nat) (v:AV) (l:List (Nat × AV)):NG nb ((k,v) :: l)=(AV.low nb v&&NG nb l):=(rfl)
theorem aai (n:Nat):QZ n []=true:=(rfl)
theorem GH (n k:Nat) (l:List Nat):QZ n (k :: l)=(decide (k<n)&&QZ n l):=(rfl)
theorem Ws (k:Nat):Aq k []=[]:=(rfl)
theorem DF (k:Nat) (v:PV) (l:List PV):Aq k (v :: l)=(k,.pv v) :: Aq (k+1) l:=(rfl)
theorem wZ (l:List (Nat × AV)):∀ (ks:List Nat) (i:Nat),look (keepA l ks) i=if ks.contains i then look l i else .any
 |[],i=>rfl
 |k :: ks,i=>by
  rw [wY,kQ,wZ l ks i,List.contains_cons]
  by_cases h:i=k
  ·subst h;simp
  ·have:(i==k)=false:=by simpa using h
   rw [if_neg h,this,Bool.false_or]
theorem NH (nb n:Nat) (l:List (Nat × AV)):∀ ks:List Nat,QZ n ks=true→(NG nb (keepA l ks)=true ↔ ∀ k∈ks,(look l k).low nb=true)
 |[],_=>by simp [keepA,NG]
 |k :: ks,h=>by
  rw [GH,Bool.and_eq_true] at h
  rw [wY,Gz,Bool.and_eq_true,NH nb n l ks h.2]
  simp
theorem yF {n nb:Nat} {l:List (Nat × AV)} {keep:List Nat} {bx:List Box} {ys:List (List PV)} {sp:Option (Option Nat)} (h:QZ n keep=true) (hb:nb≤bx.length) (hl:NG nb (keepA l keep)=true) :
  St.head ⟨sl n l,bx,ys,sp⟩ keep nb=some ⟨sl n (keepA l keep),bx.take nb,ys,sp⟩:=by
 have e:((sl n l).zipIdx.map fun (v,i)=>if keep.contains i then v else AV.any)=sl n (keepA l keep):=by
  apply List.ext_getElem (by simp [sl])
  intro i h1 h2
  simp only [sl,List.getElem_map,List.getElem_zipIdx,List.getElem_range,wZ,Nat.zero_add]
 unfold St.head
 simp only
 rw [e,if_pos]
 rw [Bool.and_eq_true,decide_eq_true_eq]
 refine ⟨?_,hb⟩
 rw [List.all_eq_true]
 intro v hv
 unfold sl at hv
 obtain ⟨i,hi,rfl⟩:=List.mem_map.1 hv
 rw [wZ]
 split
 ·rename_i hc
  exact (NH nb n l keep h).1 hl i (by simpa using hc)
 ·rfl
theorem aaj {n nb:Nat} {e:Ex} {l:List (Nat × AV)} {keep:List Nat} {bx:List Box} {ys:List (List PV)} {sp:Option (Option Nat)} (h:QZ n keep=true) (hb:nb≤bx.length) (hl:NG nb (keepA l keep)=true) :
  lI keep nb (e,⟨sl n l,bx,ys,sp⟩)=some (e,⟨sl n (keepA l keep),bx.take nb,ys,sp⟩):=by
 unfold lI
 simp only
 rw [yF h hb hl]
 rfl
theorem DI:∀ (l:List PV) (k i:Nat),look (Aq k l) i=if k≤i then ((l[i - k]?).map AV.pv).getD .any else .any:=by
 intro l
 induction l with
 |nil=>intro k i;simp [Aq,look]
 |cons v l ih =>
  intro k i
  rw [DF,kQ,ih]
  by_cases h1:i=k
  ·subst h1;simp
  ·rw [if_neg h1]
   by_cases h2:k≤i
   ·rw [if_pos (by omega),if_pos h2,show i - k=(i - (k+1))+1 by omega,List.getElem?_cons_succ]
   ·rw [if_neg (by omega),if_neg h2]
theorem Wu {n:Nat} {x:ku} {args:List PV} (hn:args.length+1≤n):YG n x args=⟨sl n ((0,x.av) :: Aq 1 args),x.boxes,[],none⟩:=by
 unfold YG
 congr 1
 apply List.ext_getElem (by simp [sl];omega)
 intro i h1 h2
 simp only [sl,List.getElem_map,List.getElem_range,kQ,DI]
 cases i with
 |zero=>simp
 |succ i =>
  rw [List.getElem_cons_succ,if_neg (by omega),if_pos (by omega),show i+1 - 1=i by omega]
  by_cases hi:i<args.length
  ·rw [List.getElem_append_left (by simpa using hi)]
   simp [hi]
  ·rw [List.getElem_append_right (by simp;omega)]
   simp [hi]
theorem aak {n:Nat} {args:List PV} (hn:args.length≤n):start n args=⟨sl n (Aq 0 args),[],[],none⟩:=by
 have key:=DI
 unfold start
 congr 1
 apply List.ext_getElem (by simp [sl];omega)
 intro i h1 h2
 simp only [sl,List.getElem_map,List.getElem_range,key,Nat.zero_le,if_true,Nat.sub_zero]
 by_cases hi:i<args.length
 ·rw [List.getElem_append_left (by simpa using hi)]
  simp [hi]
 ·rw [List.getElem_append_right (by simp;omega)]
  simp [hi]
theorem agd (nb:Nat) (v:PV):AV.low nb (.pv v)=true:=(rfl)
theorem adC (nb:Nat):AV.low nb .any=true:=(rfl)
theorem adD (nb:Nat):AV.low nb .pK=true:=(rfl)
theorem adE (nb sz:Nat) (es:List PV):AV.low nb (.row sz es)=true:=(rfl)
theorem aal (nb o j:Nat):AV.low nb (.aA o j)=decide (o<nb):=(rfl)
theorem aam (nb t off len:Nat):AV.low nb (.ref (.slot t) off len)=true:=(rfl)
theorem aan (nb o j off len:Nat):AV.low nb (.ref (.cell o j) off len)=decide (o<nb):=(rfl)
theorem aao (nb t i j:Nat):AV.low nb (.nI (.slot t) i j)=true:=(rfl)
theorem aap (nb o q i j:Nat):AV.low nb (.nI (.cell o q) i j)=decide (o<nb):=(rfl)
theorem agf (nb f:Nat) (caps:List AV):AV.low nb (.fn f caps)=caps.all fun c=>match c with
  |.pv _=>true
  |.aA o _=>o<nb
  |_=>false:=(rfl)
def aG:=And.intro @aac (And.intro @Wn (And.intro @look_nil (And.intro @agb (And.intro @Tf (And.intro @agc (And.intro @adB (And.intro (And.intro @aad @aae) (And.intro @aaf (And.intro @aag (And.intro @Wp (And.intro @Wq (And.intro @wY (And.intro @aah (And.intro @Gz (And.intro @aai (And.intro @GH (And.intro @Ws (And.intro @DF (And.intro @yF (And.intro @aaj (And.intro @aak (And.intro @Wu (And.intro @agd (And.intro @adC (And.intro @adD (And.intro @adE (And.intro @aal (And.intro @aam (And.intro @aan (And.intro @aao (And.intro @aap (@agf))))))))))))))))))))))))))))))))
def aB:=And.intro @aG (And.intro @bD (And.intro @ZV @yE))
end Go.Proofs.YtaaokejjmdbfaaaDoor

namespace Go.Proofs.YtaaokejjmdbfaaaDoor.V
--+
end Go.Proofs.YtaaokejjmdbfaaaDoor.V

namespace Go.Proofs.YtaaokejjmdbfaaaDoor
end Go.Proofs.YtaaokejjmdbfaaaDoor

namespace Go.Proofs.YtaaokejjmdbfaaaDoor.V
def NI (im:kC):Bool:=decide (im.length≤9)&&im.all fun v=>decide (v.length≤24)
theorem agh {im:kC} (hl:im.length≤lim) {st:St} (h:st.head [0,3] st.boxes.length=some ⟨[.pv (.list 1 (im.map aY)),.any,.any,.pv (.int .i64 (0:Nat)),.any,.any,.any,.any,.any,.any,.any,.any,.any,.any,.any,.any,.any,.any,.any],[],[],none⟩) :
  den env Je st=if im.all (fun v=>decide (v.length≤24)) then some (.normal,⟨[.any,.any,.any,.any,.any,.any,.any,.any,.any,.any,.any,.any,.any,.any,.any,.any,.any,.any,.any],[],[],none⟩) else some (.ret,⟨[.any,.any,.pv (.bool false),.any,.any,.any,.any,.any,.any,.any,.any,.any,.any,.any,.any,.any,.any,.any,.any],[],[],none⟩):=by
 unfold Je
 rw [ bJ (env:=env) (im.length) (fun i=>⟨[.pv (.list 1 (im.map aY)),.any,.any,.pv (.int .i64 i),.any,.any,.any,.any,.any,.any,.any,.any,.any,.any,.any,.any,.any,.any,.any],[],[],none⟩) (fun i=>if (im.drop i).all (fun v=>decide (v.length≤24)) then some (.normal,⟨[.any,.any,.any,.any,.any,.any,.any,.any,.any,.any,.any,.any,.any,.any,.any,.any,.any,.any,.any],[],[],none⟩) else some (.ret,⟨[.any,.any,.pv (.bool false),.any,.any,.any,.any,.any,.any,.any,.any,.any,.any,.any,.any,.any,.any,.any,.any],[],[],none⟩)) h (fun _=>rfl) (fun _=>rfl) ?_ ?_]
 ·first|rfl|simp only [List.drop_zero,List.take_zero,List.map_nil,Nat.zero_add,List.nil_append,List.foldl_nil]
 ·intro i rb hi ih
  have hi1:=bP hi hl
  have F1:((i:Int)<(im.length:Int))=True:=eq_true (by omega)
  simp only [Jd,F1,aY,ah hi,List.getElem?_map,List.getElem?_eq_getElem hi,dK,reduceCtorEq,Nat.reduceEqDiff,Nat.reduceAdd,Nat.reduceLT,Nat.reduceLeDiff,Nat.beq]
  rw [List.drop_eq_getElem_cons hi,List.all_cons]
  (try simp only [kH,l9,kJ]);refine jE (fun hb=>?_) (fun hb=>?_)<;>try simp only [hb,dK,reduceCtorEq,Nat.reduceEqDiff,Nat.reduceAdd,Nat.reduceLT,Nat.reduceLeDiff,Nat.beq]
  ·rw [decide_eq_false (by simp at hb;omega)];rfl
  ·rw [ih _ (by simp only [hi1];rfl),decide_eq_true (show im[i].length≤24 by simp at hb;omega),Bool.true_and]
 ·intro rb
  simp only [Jd,Int.lt_irrefl,dK,reduceCtorEq,Nat.reduceEqDiff,Nat.reduceAdd,Nat.reduceLT,Nat.reduceLeDiff,Nat.beq]
  rw [List.drop_length]
  rfl
theorem aiu {im:kC}:cal env 41 [.list 1 (im.map aY)]=some [(.bool (NI im),false)]:=by
 rw [au ahZ rfl];simp only [Zr];simp only [start,aP,aX,aN,aW,aI,aJ,aO,aT,Nat.reduceAdd,Nat.reduceSub]
 simp only [dK,reduceCtorEq,Nat.reduceEqDiff,Nat.reduceAdd,Nat.reduceLT,Nat.reduceLeDiff,Nat.beq]
 (try simp only [kH,l9,kJ]);refine jE (fun hb=>?_) (fun hb=>?_)<;>try simp only [hb,dK,reduceCtorEq,Nat.reduceEqDiff,Nat.reduceAdd,Nat.reduceLT,Nat.reduceLeDiff,Nat.beq]
 ·simp at hb
  rw [NI,decide_eq_false (by omega)];rfl
 ·have hl:im.length≤9:=by simp at hb;omega
  rw [agh (im:=im) (by unfold lim;omega)]
  rotate_left
  ·rfl
  ·rw [NI,decide_eq_true hl,Bool.true_and]
   cases im.all (fun v=>decide (v.length≤24))<;>simp only [yE,reduceCtorEq,Nat.reduceEqDiff,Nat.reduceAdd,Nat.reduceLT,Nat.reduceLeDiff,Nat.beq]
end Go.Proofs.YtaaokejjmdbfaaaDoor.V

namespace Go.Proofs.YtaaokejjmdbfaaaDoor.V
def yG (out:List lQ) (i:Nat):List lQ:=match out.getLast? with
 |some x=>if x.start+x.count=(i:Int) then out.dropLast++[⟨x.start,x.count+1⟩] else out++[⟨i,1⟩]
 |none=>[⟨i,1⟩]
def exts (l:List Nat):List lQ:=l.foldl yG []
theorem jG (pre:List lQ) (x:lQ) (i:Nat):yG (pre++[x]) i=if x.start+x.count=(i:Int) then pre++[⟨x.start,x.count+1⟩] else pre++[x]++[⟨i,1⟩]:=by
 simp [yG]
theorem mF (l:List Nat) (i:Nat):exts (l++[i])=yG (exts l) i:=by simp [exts]
theorem mJ {α:Type} (l:List α):l=[]∨∃ p x,l=p++[x]:=by
 rcases List.eq_nil_or_concat l with h|⟨p,x,h⟩
 ·exact .inl h
 ·exact .inr ⟨p,x,by rw [h];simp⟩
theorem GI:∀ (n:Nat) (l:List Nat),l.length=n→∀ i:Nat,∃ pre x,exts (l++[i])=pre++[x]∧x.start+x.count=(i:Int)+1∧0≤x.start∧1≤x.count∧pre.length≤l.length:=by
 intro n
 induction n with
 |zero =>
  intro l hl i
  have:=List.eq_nil_of_length_eq_zero hl
  subst this
  exact ⟨[],⟨i,1⟩,rfl,rfl,by simp,by simp,by simp⟩
 |succ n ih =>
  intro l hl i
  rcases mJ l with rfl|⟨p,j,rfl⟩
  ·simp at hl
  ·obtain ⟨pre,x,e,h1,h2,h3,h4⟩:=ih p (by simpa using hl) j
   rw [mF,e,jG]
   split
   ·rename_i hx
    exact ⟨pre,_,rfl,by simp;omega,h2,by simp;omega,by simp;omega⟩
   ·exact ⟨pre++[x],_,rfl,by simp,by simp,by simp,by simp;omega⟩
theorem GK {n:Nat} (h:n≤lim):IntKind.i64.wrap (((n+1:Nat):Int) - 1)=(n:Int):=by
 rw [bF (by unfold lim at h;omega)];omega
def yI (l:List Nat):List (List PV):=l.map fun (i:Nat)=>[PV.int .i64 (i:Int)]
end Go.Proofs.YtaaokejjmdbfaaaDoor.V

namespace Go.Proofs.YtaaokejjmdbfaaaDoor
structure End where
 pos:Nat
 list:Nat
 step:Int
 deriving DecidableEq,Inhabited
end Go.Proofs.YtaaokejjmdbfaaaDoor

namespace Go.Proofs.YtaaokejjmdbfaaaDoor.V
def ext (p:Nat→Bool) (n:Nat):List lQ:=exts ((List.range n).filter p)
theorem DJ (p:Nat→Bool) (n:Nat):ext p (n+1)=if p n then yG (ext p n) n else ext p n:=by
 unfold ext
 rw [List.range_succ,List.filter_append]
 cases h:p n
 ·simp [h]
 ·rw [List.filter_cons_of_pos h,List.filter_nil,mF];rfl
def dep (i:Nat) (s:Nat):List End→Int
 |[]=>0
 |x :: l=>(if x.list=i∧x.pos≤s then x.step else 0)+dep i s l
def tot (i:Nat):List End→Int
 |[]=>0
 |x :: l=>(if x.list=i then x.step else 0)+tot i l
def Asc:List End→Prop
 |[]=>True
 |[_]=>True
 |x :: y :: l=>x.pos≤y.pos∧Asc (y :: l)
theorem Asc.tail {x:End} {l:List End} (h:Asc (x :: l)):Asc l:=by
 cases l with
 |nil=>trivial
 |cons y l=>exact h.2
def atStart (N:Nat):List End→Nat→Prop
 |[],a=>a=N
 |x :: _,a=>a=x.pos
end Go.Proofs.YtaaokejjmdbfaaaDoor.V

namespace Go.Proofs.YtaaokejjmdbfaaaDoor.V
abbrev Wd:=BitVec 64
structure Bm where
 size:Int
 ws:List Wd
 deriving DecidableEq
def eW (w:Wd):PV:=.int .u64 (w.toNat:Int)
def jU (b:Bm):PV:=.agg [.int .i64 b.size,.list 1 (b.ws.map eW)]
def bit (ws:List Wd) (i:Nat):Bool:=(ws.getD (i / 64) 0).getLsbD (i % 64)
theorem DK {ws:List Wd} {k:Nat} (h:k<ws.length) {j:Nat} (hj:j<64):bit ws (64 * k+j)=ws[k].getLsbD j:=by
 unfold bit
 have e1:(64 * k+j) / 64=k:=by omega
 have e2:(64 * k+j) % 64=j:=by omega
 rw [e1,e2];simp [h]
theorem qK {ws:List Wd} {i:Nat} (h:i / 64<ws.length):bit ws i=ws[i / 64].getLsbD (i % 64):=by
 unfold bit;simp [h]
theorem yH {ws:List Wd} {i:Nat} (h:64 * ws.length≤i):bit ws i=false:=by
 unfold bit
 have:ws.length≤i / 64:=by omega
 rw [List.getD_eq_getElem?_getD,List.getElem?_eq_none this];simp
theorem aaq {a b:List Wd} (hl:a.length=b.length) (h:∀ i,i<64 * a.length→bit a i=bit b i):a=b:=by
 apply List.ext_getElem hl
 intro k h1 h2
 apply BitVec.eq_of_getLsbD_eq
 intro j hj
 rw [← DK h1 hj,← DK h2 hj,h _ (by omega)]
theorem Wv (w:Wd):BitVec.ofInt 64 (w.toNat:Int)=w:=by
 apply BitVec.eq_of_toNat_eq
 have:=w.isLt
 rw [BitVec.toNat_ofInt]
 omega
theorem DL (n:Int):IntKind.u64.wrap n=n % 2 ^ 64:=by
 simp only [IntKind.wrap,IntKind.bits,IntKind.signed,Bool.false_and,Bool.false_eq_true,if_false]
theorem Q5 (w:Wd):IntKind.u64.wrap (w.toNat:Int)=(w.toNat:Int):=by
 have:=w.isLt
 simp only [IntKind.wrap,IntKind.bits,IntKind.signed,Bool.false_and,Bool.false_eq_true,if_false]
 omega
theorem aiv (a b:Wd):IntKind.u64.wrap ((BitVec.ofInt IntKind.u64.bits (a.toNat:Int) ||| BitVec.ofInt IntKind.u64.bits (b.toNat:Int)).toNat:Int)=((a ||| b).toNat:Int):=by
 show IntKind.u64.wrap ((BitVec.ofInt 64 (a.toNat:Int) ||| BitVec.ofInt 64 (b.toNat:Int)).toNat:Int)=_
 rw [Wv,Wv,Q5]
theorem aar (a b:Wd):IntKind.u64.wrap ((BitVec.ofInt IntKind.u64.bits (a.toNat:Int) &&& BitVec.ofInt IntKind.u64.bits (b.toNat:Int)).toNat:Int)=((a &&& b).toNat:Int):=by
 show IntKind.u64.wrap ((BitVec.ofInt 64 (a.toNat:Int) &&& BitVec.ofInt 64 (b.toNat:Int)).toNat:Int)=_
 rw [Wv,Wv,Q5]
theorem aas (a b:Wd):IntKind.u64.wrap ((BitVec.ofInt IntKind.u64.bits (a.toNat:Int) &&& ~~~BitVec.ofInt IntKind.u64.bits (b.toNat:Int)).toNat:Int)=((a &&& ~~~b).toNat:Int):=by
 show IntKind.u64.wrap ((BitVec.ofInt 64 (a.toNat:Int) &&& ~~~BitVec.ofInt 64 (b.toNat:Int)).toNat:Int)=_
 rw [Wv,Wv,Q5]
theorem aat (w:Wd) {s:Int} {n:Nat} (hs:s=(n:Int)):(w.toNat:Int).fdiv (2 ^ (min s.toNat IntKind.u64.bits))=((w >>> n).toNat:Int):=by
 subst hs
 rw [BitVec.toNat_ushiftRight,Nat.shiftRight_eq_div_pow,Int.toNat_natCast]
 have hw:=w.isLt
 show (w.toNat:Int).fdiv (2 ^ (min n 64))=_
 by_cases h:n≤64
 ·have h2:(0:Int)≤2 ^ n:=by have:=Int.natCast_nonneg (2 ^ n);push_cast at this;exact this
  rw [Nat.min_eq_left h,Int.fdiv_eq_ediv_of_nonneg _ h2]
  push_cast
  rfl
 ·rw [Nat.min_eq_right (by omega),Int.fdiv_eq_ediv_of_nonneg _ (by decide)]
  have h1:w.toNat / 2 ^ n=0:=Nat.div_eq_of_lt (Nat.lt_of_lt_of_le hw (Nat.pow_le_pow_right (by decide) (by omega)))
  rw [h1]
  omega
theorem aeK (w:Wd) {s:Int} {n:Nat} (hs:s=(n:Int)):IntKind.u64.wrap ((w.toNat:Int) * 2 ^ (min s.toNat IntKind.u64.bits))=((w <<< n).toNat:Int):=by
 subst hs
 rw [BitVec.toNat_shiftLeft,Nat.shiftLeft_eq,Int.toNat_natCast]
 have hw:=w.isLt
 rw [DL]
 show ((w.toNat:Int) * 2 ^ (min n 64)) % 2 ^ 64=_
 by_cases h:n≤64
 ·have e2:((2 ^ n:Nat):Int)=2 ^ n:=by push_cast;rfl
  have e3:((2 ^ 64:Nat):Int)=2 ^ 64:=by decide
  rw [Nat.min_eq_left h,Int.natCast_emod,Int.natCast_mul,e2,e3]
 ·rw [Nat.min_eq_right (by omega)]
  have e:2 ^ n=2 ^ 64 * 2 ^ (n - 64):=by rw [← Nat.pow_add];congr 1;omega
  have:w.toNat * 2 ^ n % 2 ^ 64=0:=by
   rw [e,Nat.mul_left_comm];exact Nat.mul_mod_right _ _
  rw [this]
  exact Int.mul_emod_left _ _
theorem aiw (a b:Wd):IntKind.u64.wrap ((a.toNat:Int) - (b.toNat:Int))=((a - b).toNat:Int):=by
 have h1:=a.isLt
 have h2:=b.isLt
 simp only [IntKind.wrap,IntKind.bits,IntKind.signed,Bool.false_and,Bool.false_eq_true,if_false]
 rw [BitVec.toNat_sub]
 omega
theorem aau (a b:Wd):((a.toNat:Int)==(b.toNat:Int))=decide (a=b):=by
 by_cases h:a=b
 ·subst h;simp
 ·have:a.toNat≠b.toNat:=fun e=>h (BitVec.eq_of_toNat_eq e)
  simp [h];omega
def wC (k:Nat) (a b:Int):Wd :=
 if max (a - 64 * (k:Int)) 0 ≥ min (b - 64 * (k:Int)) 64 then 0
 else (BitVec.allOnes 64 >>> (64 - (min (b - 64 * (k:Int)) 64 - max (a - 64 * (k:Int)) 0)).toNat) <<< (max (a - 64 * (k:Int)) 0).toNat
theorem DN (k:Nat) (a b:Int) {j:Nat} (hj:j<64):(wC k a b).getLsbD j=decide (a≤64 * (k:Int)+j∧64 * (k:Int)+j<b):=by
 unfold wC
 split
 ·rename_i h
  rw [show (0:Wd).getLsbD j=false by simp]
  symm
  apply decide_eq_false
  omega
 ·rename_i h
  rw [BitVec.getLsbD_shiftLeft,BitVec.getLsbD_ushiftRight,BitVec.getLsbD_allOnes]
  rw [Bool.eq_iff_iff]
  simp only [Bool.and_eq_true,decide_eq_true_eq,Bool.not_eq_true',decide_eq_false_iff_not]
  omega
def bitsOf (w:Wd):List Nat:=(List.range 64).filter fun j=>w.getLsbD j
theorem Wx:bitsOf 0=[]:=by
 unfold bitsOf
 rw [List.filter_eq_nil_iff]
 intro j _
 simp
theorem Tj {w:Wd} (h:w≠0):Lib.ctz 64 w.toNat<64∧(∀ j,j<Lib.ctz 64 w.toNat→w.getLsbD j=false)∧w.getLsbD (Lib.ctz 64 w.toNat)=true∧∀ j,j<64→(w &&& (w - 1)).getLsbD j=(w.getLsbD j&&decide (j≠Lib.ctz 64 w.toNat)):=by
 have h0:0<w.toNat:=by
  rcases Nat.eq_zero_or_pos w.toNat with e|e
  ·exact absurd (BitVec.eq_of_toNat_eq (by simpa using e)) h
  ·exact e
 have hl:Lib.ctz 64 w.toNat=Lib.ctzFrom 64 w.toNat:=by unfold Lib.ctz;rw [if_neg (by omega)]
 rw [hl]
 obtain ⟨m,h1,h2⟩:=Lib.ctzFrom_spec 64 w.toNat h0 w.isLt
 generalize Lib.ctzFrom 64 w.toNat=c at h1 h2
 have hbit:∀ j,w.getLsbD j=if j<c then false else (2 * m+1).testBit (j - c):=fun j=>by
  rw [← BitVec.testBit_toNat,h1,Nat.testBit_two_pow_mul]
  by_cases hc:j<c
  ·rw [if_pos hc,decide_eq_false (by omega),Bool.false_and]
  ·rw [if_neg hc,decide_eq_true (by omega),Bool.true_and]
 have hsub:(w - 1).toNat=2 ^ c * (2 * m)+(2 ^ c - 1):=by
  have hp:0<2 ^ c:=Nat.pow_pos (by decide)
  rw [BitVec.toNat_sub]
  have:=w.isLt
  have e1:(1:Wd).toNat=1:=rfl
  rw [e1,show 2 ^ 64 - 1+w.toNat=(w.toNat - 1)+2 ^ 64 by omega,Nat.add_mod_right,Nat.mod_eq_of_lt (by omega),h1,Nat.mul_add,Nat.mul_one]
  omega
 have aix:∀ j,(w - 1).getLsbD j=if j<c then true else (2 * m).testBit (j - c):=fun j=>by
  rw [← BitVec.testBit_toNat,hsub]
  have hp:2 ^ c - 1<2 ^ c:=by have:0<2 ^ c:=Nat.pow_pos (by decide);omega
  by_cases hc:j<c
  ·rw [if_pos hc,Nat.testBit_two_pow_mul_add _ hp,if_pos hc,Nat.testBit_two_pow_sub_one]
   simp [hc]
  ·rw [if_neg hc,Nat.testBit_two_pow_mul_add _ hp,if_neg hc]
 refine ⟨h2,fun j hj=>by rw [hbit,if_pos hj],by rw [hbit,if_neg (Nat.lt_irrefl _),Nat.sub_self];simp,fun j hj=>?_⟩
 rw [BitVec.getLsbD_and,hbit,aix]
 by_cases hc:j<c
 ·simp [hc]
 ·rw [if_neg hc,if_neg hc]
  by_cases he:j=c
  ·subst he;simp
  ·obtain ⟨d,hd⟩:∃ d,j - c=d+1:=⟨j - c - 1,by omega⟩
   rw [hd,Nat.testBit_succ,Nat.testBit_succ,show (2 * m+1) / 2=m by omega,show 2 * m / 2=m by omega]
   simp [he]
theorem JG {p q:Nat→Bool} {c n:Nat} (hc:c<n) (hlow:∀ j,j<c→p j=false) (hp:p c=true) (hq:∀ j,j<n→q j=(p j&&decide (j≠c))):(List.range n).filter p=c :: (List.range n).filter q:=by
 have e:List.range n=List.range c++(c :: (List.range (n - c - 1)).map (c+1+·)):=by
  apply List.ext_getElem
  ·simp;omega
  ·intro i h1 h2
   simp only [List.length_range] at h1
   rw [List.getElem_range,List.getElem_append]
   split
   ·simp
   ·rename_i h
    simp only [List.length_range] at h ⊢
    obtain ⟨d,hd⟩:∃ d,i=c+d:=⟨i - c,by omega⟩
    subst hd
    cases d with
    |zero=>simp
    |succ d=>simp [show c+(d+1) - c=d+1 by omega];omega
 have hq':∀ j,j∈List.range n→q j=(p j&&decide (j≠c)):=fun j hj=>hq j (List.mem_range.1 hj)
 rw [List.filter_congr hq',e,List.filter_append,List.filter_append]
 have h1:(List.range c).filter p=[]:=by
  rw [List.filter_eq_nil_iff];intro j hj;rw [hlow j (List.mem_range.1 hj)];simp
 have h2:(List.range c).filter (fun j=>p j&&decide (j≠c))=[]:=by
  rw [List.filter_eq_nil_iff];intro j hj;rw [hlow j (List.mem_range.1 hj)];simp
 rw [h1,h2,List.nil_append,List.nil_append,List.filter_cons_of_pos hp,List.filter_cons_of_neg (by simp)]
 congr 1
 apply List.filter_congr
 intro j hj
 obtain ⟨d,_,rfl⟩:=List.mem_map.1 hj
 simp;omega
theorem Wy {w:Wd} (h:w≠0):bitsOf w=Lib.ctz 64 w.toNat :: bitsOf (w &&& (w - 1)):=by
 obtain ⟨h1,h2,h3,h4⟩:=Tj h
 exact JG h1 h2 h3 h4
def uJ (ws:List Wd) (a b:Int):List Nat:=(List.range (64 * ws.length)).filter fun (i:Nat)=>bit ws i&&decide (a≤(i:Int)∧(i:Int)<b)
theorem range_add (n m:Nat):List.range (n+m)=List.range n++(List.range m).map (n+·):=List.range_add
theorem Q7 {ws:List Wd} {k:Nat} (h:k<ws.length) (a b:Int):(List.range (64 * (k+1))).filter (fun (i:Nat)=>bit ws i&&decide (a≤(i:Int)∧(i:Int)<b))
  = (List.range (64 * k)).filter (fun (i:Nat)=>bit ws i&&decide (a≤(i:Int)∧(i:Int)<b))++(bitsOf (ws[k] &&& wC k a b)).map (64 * k+·):=by
 rw [show 64 * (k+1)=64 * k+64 by omega,List.range_add,List.filter_append,List.filter_map]
 congr 2
 unfold bitsOf
 apply List.filter_congr
 intro j hj
 have hj:=List.mem_range.1 hj
 rw [BitVec.getLsbD_and,DN k a b hj]
 show (bit ws (64 * k+j)&&_)=_
 rw [DK h hj]
 push_cast
 rfl
def setW (ws:List Wd) (a b:Int):List Wd:=ws.mapIdx fun k w=>w ||| wC k a b
def adF (ws:List Wd) (a b:Int):List Wd:=ws.mapIdx fun k w=>w &&& ~~~wC k a b
theorem yJ {ws:List Wd} {a b:Int} {i:Nat} (h:i<64 * ws.length):bit (setW ws a b) i=(bit ws i || decide (a≤(i:Int)∧(i:Int)<b)):=by
 have hk:i / 64<ws.length:=by omega
 have hk2:i / 64<(setW ws a b).length:=by simp [setW,hk]
 rw [qK hk,qK hk2]
 simp only [setW,List.getElem_mapIdx,BitVec.getLsbD_or]
 rw [DN _ _ _ (Nat.mod_lt _ (by decide))]
 congr 2
 have:(64 * ((i / 64:Nat):Int))+((i % 64:Nat):Int)=(i:Int):=by omega
 rw [this]
theorem JH {ws:List Wd} {a b:Int} {i:Nat} (h:i<64 * ws.length):bit (adF ws a b) i=(bit ws i&&!decide (a≤(i:Int)∧(i:Int)<b)):=by
 have hk:i / 64<ws.length:=by omega
 have hk2:i / 64<(adF ws a b).length:=by simp [adF,hk]
 rw [qK hk,qK hk2]
 simp only [adF,List.getElem_mapIdx,BitVec.getLsbD_and,BitVec.getLsbD_not]
 rw [DN _ _ _ (Nat.mod_lt _ (by decide))]
 have:(64 * ((i / 64:Nat):Int))+((i % 64:Nat):Int)=(i:Int):=by omega
 rw [this]
 have h64:decide (i % 64<64)=true:=decide_eq_true (Nat.mod_lt _ (by decide))
 rw [h64,Bool.true_and]
def lJ (f:Wd→Wd→Wd) (a b:List Wd):List Wd:=List.zipWith f a b
theorem adG {f:Wd→Wd→Wd} {g:Bool→Bool→Bool} (hf:∀ x y j,j<64→(f x y).getLsbD j=g (x.getLsbD j) (y.getLsbD j)) {a b:List Wd} (hl:a.length=b.length) {i:Nat} (h:i<64 * a.length):bit (lJ f a b) i=g (bit a i) (bit b i):=by
 have hk:i / 64<a.length:=by omega
 have hk1:i / 64<b.length:=by omega
 have hk2:i / 64<(lJ f a b).length:=by simp [lJ];omega
 rw [qK hk,qK hk1,qK hk2]
 simp only [lJ,List.getElem_zipWith]
 rw [hf _ _ _ (Nat.mod_lt _ (by decide))]
def iH (n:Int):Int:=(n+63) / 64
def okB (b:Bm):Bool:=decide (0≤b.size∧b.size≤4096∧(b.ws.length:Int)=iH b.size)&&(List.range (64 * b.ws.length)).all fun (i:Nat)=>decide ((i:Int)<b.size) || !bit b.ws i
theorem iL {b:Bm}:okB b=true ↔ (0≤b.size∧b.size≤4096∧(b.ws.length:Int)=iH b.size)∧∀ i:Nat,b.size≤(i:Int)→bit b.ws i=false:=by
 unfold okB
 simp only [Bool.and_eq_true,decide_eq_true_eq,List.all_eq_true,List.mem_range,Bool.or_eq_true,Bool.not_eq_true']
 refine and_congr Iff.rfl ⟨fun h i hi=>?_,fun h i hi=>?_⟩
 ·by_cases c:i<64 * b.ws.length
  ·exact (h i c).resolve_left (by omega)
  ·exact yH (by omega)
 ·by_cases c:(i:Int)<b.size
  ·exact .inl c
  ·exact .inr (h i (by omega))
theorem jf {b:Bm} (h:okB b=true):0≤b.size∧b.size≤4096∧b.ws.length≤64∧b.size≤64 * (b.ws.length:Int)∧64 * (b.ws.length:Int)<b.size+64:=by
 have:=(iL.1 h).1
 unfold iH at this
 omega
theorem aav {b:Bm} (h:0≤b.size∧b.size≤4096∧(b.ws.length:Int)=iH b.size):okB b=true ↔ (b.size % 64=0∨∀ (hw:b.ws.length - 1<b.ws.length),b.ws[b.ws.length - 1] >>> (b.size % 64).toNat=0):=by
 rw [iL]
 unfold iH at h ⊢
 constructor
 ·rintro ⟨_,h2⟩
  by_cases c:b.size % 64=0
  ·exact .inl c
  ·refine .inr fun hw=>?_
   apply BitVec.eq_of_getLsbD_eq
   intro j hj
   rw [BitVec.getLsbD_ushiftRight]
   by_cases cj:(b.size % 64).toNat+j<64
   ·rw [← DK hw cj,h2 _ (by omega)];simp
   ·rw [BitVec.getLsbD_of_ge _ _ (by omega)];simp
 ·intro hr
  refine ⟨by omega,fun i hi=>?_⟩
  by_cases c:i<64 * b.ws.length
  ·have hw:b.ws.length - 1<b.ws.length:=by omega
   have hk:i / 64=b.ws.length - 1:=by omega
   rcases hr with hr|hr
   ·omega
   ·have:=congrArg (fun w:Wd=>w.getLsbD (i % 64 - (b.size % 64).toNat)) (hr hw)
    simp only [BitVec.getLsbD_ushiftRight,BitVec.getLsbD_zero] at this
    rw [show (b.size % 64).toNat+(i % 64 - (b.size % 64).toNat)=i % 64 by omega] at this
    rw [show i=64 * (b.ws.length - 1)+i % 64 by omega,DK hw (Nat.mod_lt _ (by decide))]
    simpa using this
  ·exact yH (by omega)
def Q8 (b:Bm):List lQ:=ext (bit b.ws) b.size.toNat
def DR (b:Bm):Int:=if okB b then 0 else 3
theorem aaw {b:Bm} (h:okB b=true) (a:Int) (ha:a≤0):uJ b.ws a b.size=(List.range b.size.toNat).filter (bit b.ws):=by
 unfold uJ
 obtain ⟨h1,h2,h3,h4,h5⟩:=jf h
 rw [show 64 * b.ws.length=b.size.toNat+(64 * b.ws.length - b.size.toNat) by omega,List.range_add,List.filter_append]
 have e:(((List.range (64 * b.ws.length - b.size.toNat)).map (b.size.toNat+·)).filter fun (i:Nat)=>bit b.ws i&&decide (a≤(i:Int)∧(i:Int)<b.size))=[]:=by
  rw [List.filter_eq_nil_iff]
  intro i hi
  obtain ⟨d,_,rfl⟩:=List.mem_map.1 hi
  rw [decide_eq_false (by omega)];simp
 rw [e,List.append_nil]
 apply List.filter_congr
 intro i hi
 have hi:=List.mem_range.1 hi
 rw [decide_eq_true (by omega),Bool.and_true]
end Go.Proofs.YtaaokejjmdbfaaaDoor.V

namespace Go.Proofs.YtaaokejjmdbfaaaDoor.V
theorem sN {b:Bm} (h:okB b=true):DR b=0:=by unfold DR;rw [if_pos h]
theorem mM {b:Bm} (h:okB b=false):DR b=3:=by unfold DR;rw [if_neg (by rw [h];exact Bool.false_ne_true)]
theorem q64 {n:Int} (h:0≤n):(n+64 - 1).tdiv 64=iH n:=by
 unfold iH;rw [Int.tdiv_eq_ediv_of_nonneg (by omega)];congr 1;omega
theorem q63 {n:Int} (h:0≤n):(n+63).tdiv 64=iH n:=by
 unfold iH;rw [Int.tdiv_eq_ediv_of_nonneg (by omega)]
theorem z64:((64:Int)=0)=False:=eq_false (by decide)
theorem aiy {n:Int} (h:0≤n∧n≤4096):cal env 84 [.int .i64 n]=some [(.int .i64 (iH n),false)]:=by
 have W1:IntKind.i64.wrap (n+64)=n+64:=bF (by omega)
 have W2:IntKind.i64.wrap (n+64 - 1)=n+64 - 1:=bF (by omega)
 have W3:IntKind.i64.wrap (iH n)=iH n:=bF (by unfold iH;omega)
 rw [au aik rfl];simp only [ZL];simp only [start,aP,aX,aN,aW,aI,aJ,aO,aT,Nat.reduceAdd,Nat.reduceSub]
 simp only [W1,W2,q64 h.1,W3,z64,dK,reduceCtorEq,Nat.reduceEqDiff,Nat.reduceAdd,Nat.reduceLT,Nat.reduceLeDiff,Nat.beq]
theorem Tm {b:Bm}:cal env 51 [jU b]=some [(.int .i64 (DR b),false)]:=by
 unfold jU
 have P:∀ x y:PV,part [x,y] 0 (some 2)=some (.agg [x,y]):=fun _ _=>rfl
 by_cases c0:b.size<0
 ·have hE:DR b=3:=mM (by rw [Bool.eq_false_iff];intro h;have:=jf h;omega)
  rw [hE]
  rw [au Gx rfl];simp only [E5];simp only [start,aP,aX,aN,aW,aI,aJ,aO,aT,Nat.reduceAdd,Nat.reduceSub]
  simp only [c0,P,dK,reduceCtorEq,Nat.reduceEqDiff,Nat.reduceAdd,Nat.reduceLT,Nat.reduceLeDiff,Nat.beq]
 ·by_cases c1:b.size > 4096
  ·have hE:DR b=3:=mM (by rw [Bool.eq_false_iff];intro h;have:=jf h;omega)
   rw [hE]
   have F1:(b.size > 4096)=True:=eq_true c1
   rw [au Gx rfl];simp only [E5];simp only [start,aP,aX,aN,aW,aI,aJ,aO,aT,Nat.reduceAdd,Nat.reduceSub]
   simp only [c0,F1,P,dK,reduceCtorEq,Nat.reduceEqDiff,Nat.reduceAdd,Nat.reduceLT,Nat.reduceLeDiff,Nat.beq]
  ·have F1:(b.size > 4096)=False:=eq_false c1
   have e1:=aiy (n:=b.size) (by omega)
   by_cases c2:(b.ws.length:Int)=iH b.size
   ·have F2:((b.ws.length:Int) != iH b.size)=false:=by simp [c2]
    have hr:=aav (b:=b) ⟨by omega,by omega,c2⟩
    have hw:=c2
    unfold iH at hw
    have M:b.size.tmod 64=b.size % 64:=Int.tmod_eq_emod_of_nonneg (by omega)
    by_cases c3:b.size % 64=0
    ·have hE:DR b=0:=sN (hr.2 (.inl c3))
     rw [hE]
     have F3:(b.size % 64 > 0)=False:=eq_false (by omega)
     rw [au Gx rfl];simp only [E5];simp only [start,aP,aX,aN,aW,aI,aJ,aO,aT,Nat.reduceAdd,Nat.reduceSub]
     simp only [c0,F1,F2,F3,M,e1,z64,P,dK,reduceCtorEq,Nat.reduceEqDiff,Nat.reduceAdd,Nat.reduceLT,Nat.reduceLeDiff,Nat.beq]
    ·have F3:(b.size % 64 > 0)=True:=eq_true (by omega)
     have hi:b.ws.length - 1<b.ws.length:=by omega
     have W:IntKind.i64.wrap ((b.ws.length:Int) - 1)=((b.ws.length - 1:Nat):Int):=by rw [bF (by omega)];omega
     have S0:(b.size % 64<0)=False:=eq_false (by omega)
     have S:=aat b.ws[b.ws.length - 1] (s:=b.size % 64) (n:=(b.size % 64).toNat) (by omega)
     have B:=aau (b.ws[b.ws.length - 1] >>> (b.size % 64).toNat) 0
     have B0:((0:Wd).toNat:Int)=0:=rfl
     rw [B0] at B
     have B':(((b.ws[b.ws.length - 1] >>> (b.size % 64).toNat).toNat:Int) != 0)=!decide (b.ws[b.ws.length - 1] >>> (b.size % 64).toNat=0):=by unfold bne;rw [B]
     by_cases c4:b.ws[b.ws.length - 1] >>> (b.size % 64).toNat=0
     ·have hE:DR b=0:=sN (hr.2 (.inr fun _=>c4))
      rw [hE]
      rw [decide_eq_true c4] at B'
      rw [au Gx rfl];simp only [E5];simp only [start,aP,aX,aN,aW,aI,aJ,aO,aT,Nat.reduceAdd,Nat.reduceSub]
      simp only [c0,F1,F2,F3,M,e1,z64,P,W,S0,S,B',ah hi,eW,List.getElem?_map,List.getElem?_eq_getElem hi,dK,reduceCtorEq,Nat.reduceEqDiff,Nat.reduceAdd,Nat.reduceLT,Nat.reduceLeDiff,Nat.beq]
     ·have hE:DR b=3:=mM (by
       rw [Bool.eq_false_iff];intro h
       rcases hr.1 h with h|h
       ·exact c3 h
       ·exact c4 (h hi))
      rw [hE]
      rw [decide_eq_false c4] at B'
      rw [au Gx rfl];simp only [E5];simp only [start,aP,aX,aN,aW,aI,aJ,aO,aT,Nat.reduceAdd,Nat.reduceSub]
      simp only [c0,F1,F2,F3,M,e1,z64,P,W,S0,S,B',ah hi,eW,List.getElem?_map,List.getElem?_eq_getElem hi,dK,reduceCtorEq,Nat.reduceEqDiff,Nat.reduceAdd,Nat.reduceLT,Nat.reduceLeDiff,Nat.beq]
   ·have F2:((b.ws.length:Int) != iH b.size)=true:=by simp [c2]
    have hE:DR b=3:=mM (by rw [Bool.eq_false_iff];intro h;exact c2 (iL.1 h).1.2.2)
    rw [hE]
    rw [au Gx rfl];simp only [E5];simp only [start,aP,aX,aN,aW,aI,aJ,aO,aT,Nat.reduceAdd,Nat.reduceSub]
    simp only [c0,F1,F2,e1,P,dK,reduceCtorEq,Nat.reduceEqDiff,Nat.reduceAdd,Nat.reduceLT,Nat.reduceLeDiff,Nat.beq]
theorem agi {k:Nat} {a b:Int} (hk:k≤100000) (ha:-1000000≤a∧a≤1000000) (hb':-1000000≤b∧b≤1000000):cal env 110 [.int .i64 (k:Nat),.int .i64 a,.int .i64 b]=some [(eW (wC k a b),false)]:=by
 have W0:IntKind.i64.wrap ((k:Int) * 64)=64 * (k:Int):=by rw [bF (by omega)];omega
 have W1:IntKind.i64.wrap (a - 64 * (k:Int))=a - 64 * (k:Int):=bF (by omega)
 have W2:IntKind.i64.wrap (b - 64 * (k:Int))=b - 64 * (k:Int):=bF (by omega)
 have X1:(if a - 64 * (k:Int)<0 then 0 else a - 64 * (k:Int))=max (a - 64 * (k:Int)) 0:=by split<;>omega
 have X2:(if 64<b - 64 * (k:Int) then 64 else b - 64 * (k:Int))=min (b - 64 * (k:Int)) 64:=by split<;>omega
 unfold wC eW
 generalize hf:max (a - 64 * (k:Int)) 0=f at X1 ⊢
 generalize ht:min (b - 64 * (k:Int)) 64=t at X2 ⊢
 by_cases c:f ≥ t
 ·have F1:(f ≥ t)=True:=eq_true c
  rw [if_pos c]
  have B0:((0:Wd).toNat:Int)=0:=rfl
  rw [B0]
  rw [au ZU rfl];simp only [Gv];simp only [start,aP,aX,aN,aW,aI,aJ,aO,aT,Nat.reduceAdd,Nat.reduceSub]
  simp only [W0,W1,W2,X1,X2,F1,dK,reduceCtorEq,Nat.reduceEqDiff,Nat.reduceAdd,Nat.reduceLT,Nat.reduceLeDiff,Nat.beq]
 ·have F1:(f ≥ t)=False:=eq_false c
  rw [if_neg c]
  have W3:IntKind.i64.wrap (t - f)=t - f:=bF (by omega)
  have W4:IntKind.i64.wrap (64 - (t - f))=64 - (t - f):=bF (by omega)
  have A:(18446744073709551615:Int)=((BitVec.allOnes 64).toNat:Int):=rfl
  have S0:(64 - (t - f)<0)=False:=eq_false (by omega)
  have S1:(f<0)=False:=eq_false (by omega)
  have S2:=aat (BitVec.allOnes 64) (s:=64 - (t - f)) (n:=(64 - (t - f)).toNat) (by omega)
  have S3:=aeK (BitVec.allOnes 64 >>> (64 - (t - f)).toNat) (s:=f) (n:=f.toNat) (by omega)
  rw [← A] at S2
  rw [au ZU rfl];simp only [Gv];simp only [start,aP,aX,aN,aW,aI,aJ,aO,aT,Nat.reduceAdd,Nat.reduceSub]
  simp only [W0,W1,W2,W3,W4,X1,X2,F1,S0,S1,S2,S3,dK,reduceCtorEq,Nat.reduceEqDiff,Nat.reduceAdd,Nat.reduceLT,Nat.reduceLeDiff,Nat.beq]
end Go.Proofs.YtaaokejjmdbfaaaDoor.V

namespace Go.Proofs.YtaaokejjmdbfaaaDoor.V
def Xu (b:Bm):List PV:=[.int .i64 b.size,.list 1 (b.ws.map eW)]
def tz (w:Wd):Nat:=Lib.ctz 64 w.toNat
theorem agj {w:Wd}:cal env 111 [.int .u64 (w.toNat:Int)]=some [(.int .i64 (tz w:Nat),false)]:=by
 rw [II afZ]
 have:=w.isLt
 have e:tzX [.int .u64 (w.toNat:Int)]=if (0:Int)≤(w.toNat:Int)∧(w.toNat:Int)<18446744073709551616 then some [(.int .i64 (Lib.ctz 64 (w.toNat:Int).toNat:Nat),false)] else none:=rfl
 rw [e,if_pos (by omega),Int.toNat_natCast]
 rfl
theorem adH {b:Bm} {a:Int} {k:Nat} {w0:Wd} {ys0:List (List PV)} (hk:k≤100000)
  {st:St} (h:st.head [0,1,2,4,5,10,11,12] st.boxes.length=some ⟨[.pK,.pv (.bQ (Xu b) 0),.pv (.bQ [.int .i64 a] 0),.any,.pv (.int .i64 (k:Nat)),.pv (eW w0),.any,.any,.any,.any,.pv (.list 1 (b.ws.map eW)),.pv (.int .i64 b.ws.length),.pv (.int .i64 (k:Nat)),.any,.any,.any,.any,.any,.any,.any,.any,.any,.any,.any,.any,.any,.any,.any,.any,.any,.any,.any,.any,.any,.any,.any,.any,.any,.any],[],ys0,some none⟩) :
  den env Dt st=some (.normal,⟨[.pK,.pv (.bQ (Xu b) 0),.pv (.bQ [.int .i64 a] 0),.any,.any,.any,.any,.any,.any,.any,.pv (.list 1 (b.ws.map eW)),.pv (.int .i64 b.ws.length),.pv (.int .i64 (k:Nat)),.any,.any,.any,.any,.any,.any,.any,.any,.any,.any,.any,.any,.any,.any,.any,.any,.any,.any,.any,.any,.any,.any,.any,.any,.any,.any],[],ys0++yI ((bitsOf w0).map (64 * k+·)),some none⟩):=by
 unfold Dt
 refine vI (env:=env) (fun p:Wd × List (List PV)=>⟨[.pK,.pv (.bQ (Xu b) 0),.pv (.bQ [.int .i64 a] 0),.any,.pv (.int .i64 (k:Nat)),.pv (eW p.1),.any,.any,.any,.any,.pv (.list 1 (b.ws.map eW)),.pv (.int .i64 b.ws.length),.pv (.int .i64 (k:Nat)),.any,.any,.any,.any,.any,.any,.any,.any,.any,.any,.any,.any,.any,.any,.any,.any,.any,.any,.any,.any,.any,.any,.any,.any,.any,.any],[],p.2,some none⟩)
  (fun p=>some (.normal,⟨[.pK,.pv (.bQ (Xu b) 0),.pv (.bQ [.int .i64 a] 0),.any,.any,.any,.any,.any,.any,.any,.pv (.list 1 (b.ws.map eW)),.pv (.int .i64 b.ws.length),.pv (.int .i64 (k:Nat)),.any,.any,.any,.any,.any,.any,.any,.any,.any,.any,.any,.any,.any,.any,.any,.any,.any,.any,.any,.any,.any,.any,.any,.any,.any,.any],[],p.2++yI ((bitsOf p.1).map (64 * k+·)),some none⟩)) (fun _=>True) (fun p=>(bitsOf p.1).length) (w0,ys0) h trivial (fun _=>rfl) (fun _=>rfl) ?_
 rintro ⟨w,ys⟩ rb _ ih
 simp only [eW] at ih ⊢
 have B:=aau w 0
 have B0:((0:Wd).toNat:Int)=0:=rfl
 rw [B0] at B
 have B':((w.toNat:Int) != 0)=!decide (w=0):=by unfold bne;rw [B]
 by_cases c:w=0
 ·rw [decide_eq_true c] at B'
  subst c
  simp only [Dq,B',Wx,List.map_nil,dK,reduceCtorEq,Nat.reduceEqDiff,Nat.reduceAdd,Nat.reduceLT,Nat.reduceLeDiff,Nat.beq]
  simp only [yI,List.map_nil,List.append_nil]
  rfl
 ·rw [decide_eq_false c] at B'
  have e1:=agj (w:=w)
  have ht:=(Tj c).1
  have W0:IntKind.i64.wrap ((k:Int) * 64)=64 * (k:Int):=by rw [bF (by omega)];omega
  have W1:IntKind.i64.wrap (64 * (k:Int)+((tz w:Nat):Int))=((64 * k+tz w:Nat):Int):=by unfold tz;rw [bF (by omega)];omega
  have W2:=aiw w 1
  have W3:=aar w (w - 1)
  have B1:((1:Wd).toNat:Int)=1:=rfl
  rw [B1] at W2
  have hc:=Wy c
  simp only [Dq,B',e1,W0,W1,W2,W3,dK,reduceCtorEq,Nat.reduceEqDiff,Nat.reduceAdd,Nat.reduceLT,Nat.reduceLeDiff,Nat.beq]
  rw [ih (w &&& (w - 1),ys++[[.int .i64 ((64 * k+tz w:Nat):Int)]]) (by simp only;rw [hc,List.length_cons];omega) trivial _ rfl]
  rw [hc]
  simp only [yI,List.map_cons,List.append_assoc,List.cons_append,List.nil_append]
  rfl
theorem aax {b:Bm} {a:Int} (hb:b.ws.length≤64) (hs:0≤b.size∧b.size≤4096) (ha:-1000000≤a∧a≤1000000)
  {st:St} (h:st.head [0,1,2,10,11,12] st.boxes.length=some ⟨[.pK,.pv (.bQ (Xu b) 0),.pv (.bQ [.int .i64 a] 0),.any,.any,.any,.any,.any,.any,.any,.pv (.list 1 (b.ws.map eW)),.pv (.int .i64 b.ws.length),.pv (.int .i64 (0:Nat)),.any,.any,.any,.any,.any,.any,.any,.any,.any,.any,.any,.any,.any,.any,.any,.any,.any,.any,.any,.any,.any,.any,.any,.any,.any,.any],[],[],some none⟩) :
  den env Dv st=some (.normal,⟨[.any,.any,.any,.any,.any,.any,.any,.any,.any,.any,.any,.any,.any,.any,.any,.any,.any,.any,.any,.any,.any,.any,.any,.any,.any,.any,.any,.any,.any,.any,.any,.any,.any,.any,.any,.any,.any,.any,.any],[],yI (uJ b.ws a b.size),some none⟩):=by
 unfold Dv
 refine bJ (env:=env) b.ws.length (fun k=>⟨[.pK,.pv (.bQ (Xu b) 0),.pv (.bQ [.int .i64 a] 0),.any,.any,.any,.any,.any,.any,.any,.pv (.list 1 (b.ws.map eW)),.pv (.int .i64 b.ws.length),.pv (.int .i64 k),.any,.any,.any,.any,.any,.any,.any,.any,.any,.any,.any,.any,.any,.any,.any,.any,.any,.any,.any,.any,.any,.any,.any,.any,.any,.any],[],yI ((List.range (64 * k)).filter fun (i:Nat)=>bit b.ws i&&decide (a≤(i:Int)∧(i:Int)<b.size)),some none⟩)
  (fun _=>some (.normal,⟨[.any,.any,.any,.any,.any,.any,.any,.any,.any,.any,.any,.any,.any,.any,.any,.any,.any,.any,.any,.any,.any,.any,.any,.any,.any,.any,.any,.any,.any,.any,.any,.any,.any,.any,.any,.any,.any,.any,.any],[],yI (uJ b.ws a b.size),some none⟩)) h (fun _=>rfl) (fun _=>rfl) ?_ ?_
 ·intro k rb hi ih
  have hi1:=bP hi (by unfold lim;omega)
  have F1:((k:Int)<(b.ws.length:Int))=True:=eq_true (by omega)
  have e1:=agi (k:=k) (a:=a) (b:=b.size) (by omega) ha (by omega)
  have W3:=aar b.ws[k] (wC k a b.size)
  rw [Q7 hi] at ih
  unfold eW at e1
  simp only [Du,F1,e1,W3,Xu,eW,ah hi,List.getElem?_map,List.getElem?_eq_getElem hi,dK,reduceCtorEq,Nat.reduceEqDiff,Nat.reduceAdd,Nat.reduceLT,Nat.reduceLeDiff,Nat.beq]
  rw [adH (b:=b) (a:=a) (k:=k) (w0:=b.ws[k] &&& wC k a b.size) (ys0:=yI ((List.range (64 * k)).filter fun (i:Nat)=>bit b.ws i&&decide (a≤(i:Int)∧(i:Int)<b.size))) (by omega)]
  rotate_left
  ·rfl
  simp only [dK,reduceCtorEq,Nat.reduceEqDiff,Nat.reduceAdd,Nat.reduceLT,Nat.reduceLeDiff,Nat.beq]
  rw [ih _ (by simp only [hi1];simp only [yI,List.map_append];rfl)]
 ·intro rb
  simp only [Du,Int.lt_irrefl,dK,reduceCtorEq,Nat.reduceEqDiff,Nat.reduceAdd,Nat.reduceLT,Nat.reduceLeDiff,Nat.beq]
  rfl
theorem adI {b:Bm} {a:Int} (ha:-1000000≤a∧a≤1000000):iter env 109 [.bQ (Xu b) 0,.bQ [.int .i64 a] 0] none=some (yI (if okB b then uJ b.ws a b.size else [])):=by
 have P:part (Xu b) 0 (some 2)=some (jU b):=rfl
 have e1:=Tm (b:=b)
 rw [Gy afY rfl rfl]
 simp only [Nq,QX,aP,aX,aN,aW,aI,aJ,aO,aT,Nat.reduceAdd,Nat.reduceSub]
 cases c:okB b with
 |false =>
  rw [mM c] at e1
  have Z:((3:Int) != 0)=true:=rfl
  simp only [P,e1,Z,ND,dK,reduceCtorEq,Nat.reduceEqDiff,Nat.reduceAdd,Nat.reduceLT,Nat.reduceLeDiff,Nat.beq]
  rfl
 |true =>
  rw [sN c] at e1
  have Z:((0:Int) != 0)=false:=rfl
  obtain ⟨h1,h2,h3,_⟩:=jf c
  have P2:part (Xu b) 1 none=some (.list 1 (b.ws.map eW)):=rfl
  simp only [P,P2,e1,Z,List.length_map,ND,dK,reduceCtorEq,Nat.reduceEqDiff,Nat.reduceAdd,Nat.reduceLT,Nat.reduceLeDiff,Nat.beq]
  rw [aax (a:=a) h3 ⟨h1,h2⟩ ha]
  rotate_left
  ·rfl
  ·rfl
theorem agk {b:Bm} {a:Int}:cal env 101 [jU b,.int .i64 a]=some [(.func 109 [.bQ (Xu b) 0,.bQ [.int .i64 a] 0],false)]:=by
 unfold jU Xu
 rw [au afS rfl];simp only [Nc];simp only [start,aP,aX,aN,aW,aI,aJ,aO,aT,Nat.reduceAdd,Nat.reduceSub]
 simp only [dK,reduceCtorEq,Nat.reduceEqDiff,Nat.reduceAdd,Nat.reduceLT,Nat.reduceLeDiff,Nat.beq]
end Go.Proofs.YtaaokejjmdbfaaaDoor.V

namespace Go.Proofs.YtaaokejjmdbfaaaDoor.V
def ru (l:List PV) (z:PV) (i:Nat):List PV:=l.take i++List.replicate (l.length - i) z
theorem WA {l:List PV} {z:PV} {i:Nat} (h:i≤l.length):(ru l z i).length=l.length:=by simp [ru];omega
theorem WB {l:List PV} {z:PV} {i:Nat} (h:i<l.length):(ru l z i)[i]?=some z:=by
 unfold ru
 have e:(l.take i).length=i:=by simp;omega
 rw [List.getElem?_append_right (by omega),e,Nat.sub_self,List.getElem?_replicate,if_pos (by omega)]
theorem WC {l:List PV} {z x:PV} {i:Nat} (h:i<l.length) (hx:l[i]?=some x):(ru l z i).set i x=ru l z (i+1):=by
 unfold ru
 have e:(l.take i).length=i:=by simp;omega
 rw [List.set_append_right _ _ (by omega),e,Nat.sub_self,show l.length - i=(l.length - (i+1))+1 by omega,List.replicate_succ,List.set_cons_zero,List.take_add_one,hx,Option.toList,List.append_assoc]
 rfl
theorem Q9 (l:List PV) (z:PV):ru l z 0=List.replicate l.length z:=by simp [ru]
theorem WE (l:List PV) (z:PV):ru l z l.length=l:=by simp [ru]
theorem DT:jU ⟨0,[]⟩=.agg [.int .i64 0,.list 1 []]:=rfl
def nG (a b:Bm):Int:=if okB a=false then 3 else if okB b=false then 3 else if a.size≠b.size then 22 else 0
def uK (f:Wd→Wd→Wd) (a b:Bm):Bm:=if nG a b=0 then ⟨a.size,lJ f a.ws b.ws⟩ else ⟨0,[]⟩
theorem both_ok {a b:Bm} (h:nG a b=0):okB a=true∧okB b=true∧a.size=b.size∧a.ws.length=b.ws.length:=by
 unfold nG at h
 split at h
 ·omega
 ·split at h
  ·omega
  ·split at h
   ·omega
   ·rename_i c1 c2 c3
    have c1:okB a=true:=by cases h:okB a<;>simp_all
    have c2:okB b=true:=by cases h:okB b<;>simp_all
    have e:a.size=b.size:=Classical.not_not.1 c3
    have h1:=(iL.1 c1).1.2.2
    have h2:=(iL.1 c2).1.2.2
    exact ⟨c1,c2,e,by rw [e] at h1;omega⟩
theorem DU {f:Wd→Wd→Wd} {a b:List Wd} (h:a.length=b.length):(lJ f a b).length=a.length:=by simp [lJ,h]
theorem aay {f:Wd→Wd→Wd} {a b:List Wd} {i:Nat} (h1:i<a.length) (h2:i<b.length):(lJ f a b)[i]?=some (f a[i] b[i]):=by
 have h:i<(lJ f a b).length:=by simp [lJ];omega
 rw [List.getElem?_eq_getElem h]
 simp [lJ]
set_option maxRecDepth 20000 in
theorem agl {a b:Bm} {f:Wd→Wd→Wd} {gf:Nat} (hf:∀ x y,cal env gf [eW x,eW y]=some [(eW (f x y),false)]) (hl:a.ws.length=b.ws.length) (hm:a.ws.length≤64) {st:St} (h:st.head [2,3,4,6,10,33,35,36] st.boxes.length=some ⟨sl 59 [(2,.pv (.func gf [])),(3,.aA 0 0),(4,.aA 1 0),(6,.aA 2 0),(10,.row 1 (ru ((lJ f a.ws b.ws).map eW) (.int .u64 0) ((0:Nat)))),(33,.any),(35,.pv (.int .i64 a.ws.length)),(36,.pv (.int .i64 (0:Nat)))],[⟨false,[.pv (.int .i64 a.size),.pv (.list 1 (a.ws.map eW))]⟩,⟨false,[.pv (.int .i64 b.size),.pv (.list 1 (b.ws.map eW))]⟩,⟨false,[.pv (.int .i64 0),.row 1 []]⟩],[],none⟩) :
  den env JD st=some (.normal,⟨sl 59 [(3,.aA 0 0),(6,.aA 2 0),(7,.any),(10,.row 1 ((lJ f a.ws b.ws).map eW))],[⟨false,[.pv (.int .i64 a.size),.pv (.list 1 (a.ws.map eW))]⟩,⟨false,[.pv (.int .i64 b.size),.pv (.list 1 (b.ws.map eW))]⟩,⟨false,[.pv (.int .i64 0),.row 1 []]⟩],[],none⟩):=by
 unfold JD
 refine bJ (env:=env) (nb:=3) (a.ws.length) (fun i=>⟨sl 59 [(2,.pv (.func gf [])),(3,.aA 0 0),(4,.aA 1 0),(6,.aA 2 0),(10,.row 1 (ru ((lJ f a.ws b.ws).map eW) (.int .u64 0) (i))),(33,.any),(35,.pv (.int .i64 a.ws.length)),(36,.pv (.int .i64 i))],[⟨false,[.pv (.int .i64 a.size),.pv (.list 1 (a.ws.map eW))]⟩,⟨false,[.pv (.int .i64 b.size),.pv (.list 1 (b.ws.map eW))]⟩,⟨false,[.pv (.int .i64 0),.row 1 []]⟩],[],none⟩) (fun i=>some (.normal,⟨sl 59 [(3,.aA 0 0),(6,.aA 2 0),(7,.any),(10,.row 1 ((lJ f a.ws b.ws).map eW))],[⟨false,[.pv (.int .i64 a.size),.pv (.list 1 (a.ws.map eW))]⟩,⟨false,[.pv (.int .i64 b.size),.pv (.list 1 (b.ws.map eW))]⟩,⟨false,[.pv (.int .i64 0),.row 1 []]⟩],[],none⟩)) h (fun _=>rfl) (fun _=>by simp only [aG,bD,Nat.reduceMul,Nat.reduceBEq,Nat.reduceLT,Nat.reduceLeDiff,Nat.reduceAdd,decide_true,Bool.and_self,Bool.true_and]) ?_ ?_
 ·intro i rb hi ih
  have hi1:=bP hi (by unfold lim;omega)
  have hj:i<b.ws.length:=by omega
  have F1:((i:Int)<(a.ws.length:Int))=True:=eq_true (by omega)
  have zl:((lJ f a.ws b.ws).map eW).length=a.ws.length:=by rw [List.length_map,DU hl]
  have f1:=WA (l:=(lJ f a.ws b.ws).map eW) (z:=.int .u64 0) (i:=i) (by omega)
  have f2:=WB (l:=(lJ f a.ws b.ws).map eW) (z:=.int .u64 0) (i:=i) (by omega)
  have f3:=WC (l:=(lJ f a.ws b.ws).map eW) (z:=.int .u64 0) (i:=i) (x:=eW (f a.ws[i] b.ws[i])) (by omega) (by rw [List.getElem?_map,aay hi hj];rfl)
  have e1:=hf a.ws[i] b.ws[i]
  rw [zl] at f1
  unfold eW at e1 f1 f2 f3 ih ⊢
  simp only [JC,F1,e1,f1,f2,f3,ah hi,ah hj,List.getElem?_map,List.getElem?_eq_getElem hi,List.getElem?_eq_getElem hj,Option.map_some,List.length_map,aB,Nat.reduceMul,Nat.reduceBEq,Nat.reduceLT,Nat.reduceLeDiff,reduceCtorEq,Nat.reduceEqDiff,Nat.reduceAdd,Nat.beq]
  rw [ih _ (by simp only [hi1,aB,Nat.reduceMul,Nat.reduceBEq,Nat.reduceLT,Nat.reduceLeDiff,reduceCtorEq,Nat.reduceEqDiff,Nat.reduceAdd,Nat.beq]<;>rfl)]
 ·intro rb
  have zl:((lJ f a.ws b.ws).map eW).length=a.ws.length:=by rw [List.length_map,DU hl]
  have f4:=WE ((lJ f a.ws b.ws).map eW) (.int .u64 0)
  rw [zl] at f4
  rw [f4]
  simp only [JC,Int.lt_irrefl,aB,Nat.reduceMul,Nat.reduceBEq,Nat.reduceLT,Nat.reduceLeDiff,reduceCtorEq,Nat.reduceEqDiff,Nat.reduceAdd,Nat.beq]
theorem aiz {a b:Bm} {f:Wd→Wd→Wd} {gf:Nat} (hf:∀ x y,cal env gf [eW x,eW y]=some [(eW (f x y),false)]) :
  cal env 99 [jU a,jU b,.func gf []]=some [(jU (uK f a b),false),(.int .i64 (nG a b),false)]:=by
 have P:∀ b:Bm,part [PV.int .i64 b.size,.list 1 (b.ws.map eW)] 0 (some 2)=some (jU b):=fun _=>rfl
 have e1:=Tm (b:=a)
 have e2:=Tm (b:=b)
 have Z0:((0:Int) != 0)=false:=rfl
 have Z3:((3:Int) != 0)=true:=rfl
 have hz:=DT
 unfold uK
 cases c1:okB a with
 |false =>
  have hE:nG a b=3:=by unfold nG;rw [if_pos c1]
  rw [hE,if_neg (by decide),hz]
  rw [mM c1] at e1
  have eA:jU a=.agg [.int .i64 a.size,.list 1 (a.ws.map eW)]:=rfl
  have eB:jU b=.agg [.int .i64 b.size,.list 1 (b.ws.map eW)]:=rfl
  rw [eA] at e1 ⊢;rw [eB]
  rw [au SY rfl];simp only [Na,aG,Nat.reduceBEq,Nat.reduceLeDiff,Nat.reduceAdd,List.length_cons,List.length_nil]
  simp only [e1,Z3,Gs,Gq,MV,aB,Nat.reduceMul,Nat.reduceBEq,Nat.reduceLT,Nat.reduceLeDiff,reduceCtorEq,Nat.reduceEqDiff,Nat.reduceAdd,Nat.beq]
 |true =>
  rw [sN c1] at e1
  cases c2:okB b with
  |false =>
   have hE:nG a b=3:=by unfold nG;rw [if_neg (by rw [c1];decide),if_pos c2]
   rw [hE,if_neg (by decide),hz]
   rw [mM c2] at e2
   have eA:jU a=.agg [.int .i64 a.size,.list 1 (a.ws.map eW)]:=rfl
   have eB:jU b=.agg [.int .i64 b.size,.list 1 (b.ws.map eW)]:=rfl
   rw [eA] at e1 ⊢;rw [eB] at e2 ⊢
   rw [au SY rfl];simp only [Na,aG,Nat.reduceBEq,Nat.reduceLeDiff,Nat.reduceAdd,List.length_cons,List.length_nil]
   simp only [e1,e2,Z3,Z0,aB,Nat.reduceMul,Nat.reduceBEq,Nat.reduceLT,Nat.reduceLeDiff,reduceCtorEq,Nat.reduceEqDiff,Nat.reduceAdd,Nat.beq]
  |true =>
   rw [sN c2] at e2
   by_cases c3:a.size=b.size
   ·have hE:nG a b=0:=by unfold nG;rw [if_neg (by rw [c1];decide),if_neg (by rw [c2];decide),if_neg (by simpa using c3)]
    obtain ⟨_,_,_,hl⟩:=both_ok hE
    have hm:=(jf c1).2.2.1
    have G:(a.size != b.size)=false:=by simp [c3]
    have F3:((0:Int)≤(a.ws.length:Int))=True:=eq_true (by omega)
    have F4:((a.ws.length:Int)≤(lim:Int))=True:=eq_true (by unfold lim;omega)
    rw [hE,if_pos rfl]
    have eA:jU a=.agg [.int .i64 a.size,.list 1 (a.ws.map eW)]:=rfl
    have eB:jU b=.agg [.int .i64 b.size,.list 1 (b.ws.map eW)]:=rfl
    rw [eA] at e1 ⊢;rw [eB] at e2 ⊢
    rw [au SY rfl];simp only [Na,aG,Nat.reduceBEq,Nat.reduceLeDiff,Nat.reduceAdd,List.length_cons,List.length_nil]
    simp only [e1,e2,Z0,G,F3,F4,Int.toNat_natCast,List.length_map,List.length_replicate,aB,Nat.reduceMul,Nat.reduceBEq,Nat.reduceLT,Nat.reduceLeDiff,reduceCtorEq,Nat.reduceEqDiff,Nat.reduceAdd,Nat.beq]
    rw [agl hf hl hm]
    rotate_left
    ·have zl:((lJ f a.ws b.ws).map eW).length=a.ws.length:=by rw [List.length_map,DU hl]
     rw [Q9,zl]
     simp only [aG,bD,Nat.reduceMul,Nat.reduceBEq,Nat.reduceLT,Nat.reduceLeDiff,Nat.reduceAdd,decide_true,Bool.and_self,Bool.true_and]<;>rfl
    ·simp only [e1,e2,Z0,G,F3,F4,Int.toNat_natCast,List.length_map,List.length_replicate,aB,Nat.reduceMul,Nat.reduceBEq,Nat.reduceLT,Nat.reduceLeDiff,reduceCtorEq,Nat.reduceEqDiff,Nat.reduceAdd,Nat.beq]
     rfl
   ·have hE:nG a b=22:=by unfold nG;rw [if_neg (by rw [c1];decide),if_neg (by rw [c2];decide),if_pos (by simpa using c3)]
    have G:(a.size != b.size)=true:=by simp [c3]
    rw [hE,if_neg (by decide),hz]
    have eA:jU a=.agg [.int .i64 a.size,.list 1 (a.ws.map eW)]:=rfl
    have eB:jU b=.agg [.int .i64 b.size,.list 1 (b.ws.map eW)]:=rfl
    rw [eA] at e1 ⊢;rw [eB] at e2 ⊢
    rw [au SY rfl];simp only [Na,aG,Nat.reduceBEq,Nat.reduceLeDiff,Nat.reduceAdd,List.length_cons,List.length_nil]
    simp only [e1,e2,Z0,G,aB,Nat.reduceMul,Nat.reduceBEq,Nat.reduceLT,Nat.reduceLeDiff,reduceCtorEq,Nat.reduceEqDiff,Nat.reduceAdd,Nat.beq]
theorem agm (x y:Wd):cal env 100 [eW x,eW y]=some [(eW (x ||| y),false)]:=by
 have W:=aiv x y
 unfold eW
 rw [au afR rfl];simp only [Nb];simp only [start,aP,aX,aN,aW,aI,aJ,aO,aT,Nat.reduceAdd,Nat.reduceSub]
 simp only [W,dK,reduceCtorEq,Nat.reduceEqDiff,Nat.reduceAdd,Nat.reduceLT,Nat.reduceLeDiff,Nat.beq]
def qp (x y:Wd):Wd:=x ||| y
theorem aiA {a b:Bm}:cal env 80 [jU a,jU b]=some [(jU (uK qp a b),false),(.int .i64 (nG a b),false)]:=by
 have e1:=aiz (a:=a) (b:=b) (f:=qp) (gf:=100) agm
 have eA:∀ a:Bm,jU a=.agg [.int .i64 a.size,.list 1 (a.ws.map eW)]:=fun _=>rfl
 rw [eA,eA,eA] at e1 ⊢
 rw [au aie rfl];simp only [ZH];simp only [start,aP,aX,aN,aW,aI,aJ,aO,aT,Nat.reduceAdd,Nat.reduceSub]
 simp only [e1,dK,reduceCtorEq,Nat.reduceEqDiff,Nat.reduceAdd,Nat.reduceLT,Nat.reduceLeDiff,Nat.beq]
end Go.Proofs.YtaaokejjmdbfaaaDoor.V

namespace Go.Proofs.YtaaokejjmdbfaaaDoor.V
theorem sorted_at {l:List Nat} (hs:l.Pairwise (·<·)) {j i:Nat} (h:l[j]?=some i):j≤i∧∀ k∈l.take j,k<i:=by
 obtain ⟨hj,rfl⟩:=List.getElem?_eq_some_iff.1 h
 have hp:=List.pairwise_iff_getElem.1 hs
 refine ⟨?_,fun k hk=>?_⟩
 ·clear h
  induction j with
  |zero=>exact Nat.zero_le _
  |succ j ih =>
   have h1:=ih (by omega)
   have h2:=hp j (j+1) (by omega) hj (by omega)
   omega
 ·obtain ⟨m,hm,rfl⟩:=List.mem_iff_getElem.1 hk
  rw [List.getElem_take]
  simp only [List.length_take] at hm
  exact hp m j (by omega) hj (by omega)
def DV (b:Bm):List Nat:=if okB b then uJ b.ws 0 b.size else []
theorem adJ {b:Bm} {j i:Nat} (h:(DV b)[j]?=some i):i<4096∧j≤i∧∀ k∈(DV b).take j,k<i:=by
 unfold DV at h ⊢
 split at h
 ·rename_i c
  rw [if_pos c]
  have hs:(uJ b.ws 0 b.size).Pairwise (·<·):=List.pairwise_lt_range.filter _
  have hm:=List.mem_of_getElem? h
  simp only [uJ,List.mem_filter,List.mem_range,Bool.and_eq_true,decide_eq_true_eq] at hm
  have:=jf c
  exact ⟨by omega,sorted_at hs h⟩
 ·simp at h
def bmX (b:Bm):List lQ:=if okB b then Q8 b else []
theorem agn (b:Bm):exts (DV b)=bmX b:=by
 unfold DV bmX Q8 ext
 split
 ·rename_i c;rw [aaw c 0 (by omega)]
 ·rfl
theorem aiC {b:Bm}:cal env 81 [jU b]=some [(.list 2 ((bmX b).map gu),true)]:=by
 have e1:=agk (b:=b) (a:=0)
 have eA:∀ a:Bm,jU a=.agg [.int .i64 a.size,.list 1 (a.ws.map eW)]:=fun _=>rfl
 rw [eA] at e1 ⊢
 rw [au aif rfl];simp only [ZI];simp only [start,aP,aX,aN,aW,aI,aJ,aO,aT,Nat.reduceAdd,Nat.reduceSub]
 simp only [e1,dK,reduceCtorEq,Nat.reduceEqDiff,Nat.reduceAdd,Nat.reduceLT,Nat.reduceLeDiff,Nat.beq]
 rw [S9 (env:=env) (fun j=>[⟨false,[.pv (.int .i64 b.size),.pv (.list 1 (b.ws.map eW))]⟩,⟨false,[.row 2 ((exts ((DV b).take j)).map gu)]⟩]) (xs:=yI (DV b)) rfl (by have:=adI (b:=b) (a:=0) (by omega);exact this) rfl ?_]
 ·simp only [yI,List.length_map,List.take_length,ND,dK,reduceCtorEq,Nat.reduceEqDiff,Nat.reduceAdd,Nat.reduceLT,Nat.reduceLeDiff,Nat.beq]
  rw [agn]
 ·intro j x hx sl0
  simp only [yI,List.getElem?_map,Option.map_eq_some_iff] at hx
  obtain ⟨i,hi,rfl⟩:=hx
  obtain ⟨k1,k2,k3⟩:=adJ hi
  have hlim:lim=1073741824:=rfl
  have hj:=(List.getElem?_eq_some_iff.1 hi).1
  have ht:(DV b).take (j+1)=(DV b).take j++[i]:=by rw [List.take_add_one,hi];rfl
  have hlen:((DV b).take j).length=j:=by simp;omega
  rw [ht]
  rcases mJ ((DV b).take j) with h0|⟨p,q,h0⟩
  ·have F2:(((0:Nat):Int) > 0)=False:=eq_false (by omega)
   have F3:(0+1≤lim)=True:=eq_true (by omega)
   have e0:exts ([]:List Nat)=[]:=rfl
   have e2:exts [i]=[⟨i,1⟩]:=rfl
   refine ⟨?_,?_⟩
   rotate_left
   ·simp only [h0,List.nil_append,BA,BD,F2,F3,e0,e2,gu,List.map_nil,List.map_cons,ND,dK,reduceCtorEq,Nat.reduceEqDiff,Nat.reduceAdd,Nat.reduceLT,Nat.reduceLeDiff,Nat.beq]
    rfl
  ·obtain ⟨pre,⟨s,c⟩,e0,h1,h2,h3,h4⟩:=GI _ p rfl q
   have hqi:q<i:=k3 q (by rw [h0];simp)
   simp only at h1 h2 h3
   have hpl:p.length+1=j:=by rw [h0] at hlen;simpa using hlen
   have F2:(((pre.length+1:Nat):Int) > 0)=True:=eq_true (by omega)
   have F3:=GK (n:=pre.length) (by omega)
   have F4:IntKind.i64.wrap (s+c)=s+c:=bF (by omega)
   have F5:IntKind.i64.wrap (c+1)=c+1:=bF (by omega)
   have F6:(pre.length+1+1≤lim)=True:=eq_true (by omega)
   have F7:index (.int .i64 (pre.length:Int)) (pre.length+1)=some pre.length:=ah (by omega)
   by_cases hc:s+c=(i:Int)
   ·have F8:(s+c==(i:Int))=true:=by simpa using hc
    have e2:exts (p++[q]++[i])=pre++[⟨s,c+1⟩]:=by rw [mF,e0,jG,if_pos hc]
    refine ⟨?_,?_⟩
    rotate_left
    ·simp only [h0,BA,BD,e0,e2,F2,F3,F4,F5,F6,F7,F8,gu,List.map_append,List.map_cons,List.map_nil,ND,dK,reduceCtorEq,Nat.reduceEqDiff,Nat.reduceAdd,Nat.reduceLT,Nat.reduceLeDiff,Nat.beq]
     rfl
   ·have F8:(s+c==(i:Int))=false:=by simpa using hc
    have e2:exts (p++[q]++[i])=pre++[⟨s,c⟩]++[⟨i,1⟩]:=by rw [mF,e0,jG,if_neg hc]
    refine ⟨?_,?_⟩
    rotate_left
    ·simp only [h0,BA,BD,e0,e2,F2,F3,F4,F5,F6,F7,F8,gu,List.map_append,List.map_cons,List.map_nil,ND,dK,reduceCtorEq,Nat.reduceEqDiff,Nat.reduceAdd,Nat.reduceLT,Nat.reduceLeDiff,Nat.beq]
     rfl
theorem aiD (w:Wd) (s:Nat):(w >>> s &&& 1==(1:Wd))=w.getLsbD s:=by
 have h:w >>> s &&& 1=if w.getLsbD s then 1 else 0:=by
  apply BitVec.eq_of_getLsbD_eq
  intro j hj
  rw [BitVec.getLsbD_and,BitVec.getLsbD_ushiftRight]
  cases j with
  |zero=>cases h:w.getLsbD s<;>simp [h]
  |succ j =>
   have:(1:Wd).getLsbD (j+1)=false:=by
    rw [show (1:Wd)=1#64 from rfl,BitVec.getLsbD_one];simp
   rw [this,Bool.and_false]
   cases w.getLsbD s<;>simp
 rw [h]
 cases w.getLsbD s<;>rfl
theorem aeL {b:Bm} {i:Nat} (h:i / 64<b.ws.length) (hi:i≤1000000):cal env 87 [jU b,.int .i64 (i:Nat)]=some [(.bool (bit b.ws i),false)]:=by
 unfold jU
 have T1:(i:Int).tdiv 64=((i / 64:Nat):Int):=by rw [Int.tdiv_eq_ediv_of_nonneg (by omega)];omega
 have T2:(i:Int).tmod 64=((i % 64:Nat):Int):=by rw [Int.tmod_eq_emod_of_nonneg (by omega)];omega
 have W1:IntKind.i64.wrap ((i / 64:Nat):Int)=((i / 64:Nat):Int):=bF (by omega)
 have W2:IntKind.u64.wrap ((i % 64:Nat):Int)=((i % 64:Nat):Int):=by rw [DL];omega
 have S0:(((i % 64:Nat):Int)<0)=False:=eq_false (by omega)
 have S1:=aat b.ws[i / 64] (s:=((i % 64:Nat):Int)) (n:=i % 64) rfl
 have S2:=aar (b.ws[i / 64] >>> (i % 64)) 1
 have B1:((1:Wd).toNat:Int)=1:=rfl
 have S3:=aau (b.ws[i / 64] >>> (i % 64) &&& 1) 1
 rw [B1] at S2 S3
 have S4:decide (b.ws[i / 64] >>> (i % 64) &&& 1=(1:Wd))=bit b.ws i:=by rw [qK h,← aiD];rfl
 rw [S4] at S3
 rw [au ail rfl];simp only [ZM];simp only [start,aP,aX,aN,aW,aI,aJ,aO,aT,Nat.reduceAdd,Nat.reduceSub]
 simp only [z64,T1,T2,W1,W2,S0,S1,S2,S3,eW,ah h,List.getElem?_map,List.getElem?_eq_getElem h,dK,reduceCtorEq,Nat.reduceEqDiff,Nat.reduceAdd,Nat.reduceLT,Nat.reduceLeDiff,Nat.beq]
def sO (ws:List Wd) (k:Nat):Bool:=(List.range (64 * ws.length)).any fun i=>decide (k≤i)&&bit ws i
theorem kR {ws:List Wd} {k:Nat}:sO ws k=true ↔ ∃ i,k≤i∧i<64 * ws.length∧bit ws i=true:=by
 simp only [sO,List.any_eq_true,List.mem_range,Bool.and_eq_true,decide_eq_true_eq]
 exact ⟨fun ⟨i,h1,h2,h3⟩=>⟨i,h2,h1,h3⟩,fun ⟨i,h1,h2,h3⟩=>⟨i,h2,h1,h3⟩⟩
theorem JI {ws:List Wd} {k:Nat} (h:bit ws k=false):sO ws k=sO ws (k+1):=by
 rw [Bool.eq_iff_iff,kR,kR]
 constructor
 ·rintro ⟨j,h1,h2,h3⟩
  have:j≠k:=fun e=>by rw [e,h] at h3;cases h3
  exact ⟨j,by omega,h2,h3⟩
 ·rintro ⟨j,h1,h2,h3⟩
  exact ⟨j,by omega,h2,h3⟩
theorem agp {b:Bm} {s:Nat} (hs:b.size=(s:Int)) (hl:b.ws.length≤64) (hsl:s≤64 * b.ws.length) {st:St} (h:st.head [1,3] st.boxes.length=some ⟨[.any,.aA 0 0,.any,.pv (.int .i64 ((s+(0:Nat):Nat):Int)),.any,.any,.any,.any,.any,.any,.any,.any,.any,.any,.any,.any,.any,.any,.any,.any,.any,.any,.any,.any,.any,.any,.any,.any,.any,.any,.any,.any,.any,.any,.any],[⟨false,[.pv (.int .i64 b.size),.pv (.list 1 (b.ws.map eW))]⟩],[],none⟩) :
  den env Jl st=if sO b.ws (s+(0:Nat)) then some (.ret,⟨[.any,.any,.pv (.int .i64 3),.any,.any,.any,.any,.any,.any,.any,.any,.any,.any,.any,.any,.any,.any,.any,.any,.any,.any,.any,.any,.any,.any,.any,.any,.any,.any,.any,.any,.any,.any,.any,.any],[⟨false,[.pv (.int .i64 b.size),.pv (.list 1 (b.ws.map eW))]⟩],[],none⟩) else some (.normal,⟨[.any,.any,.any,.any,.any,.any,.any,.any,.any,.any,.any,.any,.any,.any,.any,.any,.any,.any,.any,.any,.any,.any,.any,.any,.any,.any,.any,.any,.any,.any,.any,.any,.any,.any,.any],[⟨false,[.pv (.int .i64 b.size),.pv (.list 1 (b.ws.map eW))]⟩],[],none⟩):=by
 unfold Jl
 refine bJ (env:=env) (64 * b.ws.length - s) (fun i=>⟨[.any,.aA 0 0,.any,.pv (.int .i64 ((s+i:Nat):Int)),.any,.any,.any,.any,.any,.any,.any,.any,.any,.any,.any,.any,.any,.any,.any,.any,.any,.any,.any,.any,.any,.any,.any,.any,.any,.any,.any,.any,.any,.any,.any],[⟨false,[.pv (.int .i64 b.size),.pv (.list 1 (b.ws.map eW))]⟩],[],none⟩) (fun i=>if sO b.ws (s+i) then some (.ret,⟨[.any,.any,.pv (.int .i64 3),.any,.any,.any,.any,.any,.any,.any,.any,.any,.any,.any,.any,.any,.any,.any,.any,.any,.any,.any,.any,.any,.any,.any,.any,.any,.any,.any,.any,.any,.any,.any,.any],[⟨false,[.pv (.int .i64 b.size),.pv (.list 1 (b.ws.map eW))]⟩],[],none⟩) else some (.normal,⟨[.any,.any,.any,.any,.any,.any,.any,.any,.any,.any,.any,.any,.any,.any,.any,.any,.any,.any,.any,.any,.any,.any,.any,.any,.any,.any,.any,.any,.any,.any,.any,.any,.any,.any,.any],[⟨false,[.pv (.int .i64 b.size),.pv (.list 1 (b.ws.map eW))]⟩],[],none⟩)) h (fun _=>rfl) (fun _=>rfl) ?_ ?_
 ·intro i rb hi ih
  have hi1:IntKind.i64.wrap (((s+i:Nat):Int)+1)=((s+(i+1):Nat):Int):=by rw [bF (by omega)];omega
  have W1:IntKind.i64.wrap (64 * (b.ws.length:Int))=64 * (b.ws.length:Int):=bF (by omega)
  have F1:(((s+i:Nat):Int)<64 * (b.ws.length:Int))=True:=eq_true (by omega)
  have e1:=aeL (b:=b) (i:=s+i) (by omega) (by omega)
  have P2:part [PV.int .i64 b.size,.list 1 (b.ws.map fun w=>PV.int .u64 (w.toNat:Int))] 0 (some 2)=some (.agg [PV.int .i64 b.size,.list 1 (b.ws.map fun w=>PV.int .u64 (w.toNat:Int))]):=rfl
  unfold jU at e1
  unfold eW at e1 ih ⊢
  cases c:bit b.ws (s+i) with
  |true =>
   rw [c] at e1
   have h:sO b.ws (s+i)=true:=kR.2 ⟨s+i,by omega,by omega,c⟩
   rw [if_pos h]
   simp only [Bl,F1,W1,e1,P2,List.length_map,dK,reduceCtorEq,Nat.reduceEqDiff,Nat.reduceAdd,Nat.reduceLT,Nat.reduceLeDiff,Nat.beq]
   rfl
  |false =>
   rw [c] at e1
   have h:=JI c
   simp only [Bl,F1,W1,e1,P2,List.length_map,dK,reduceCtorEq,Nat.reduceEqDiff,Nat.reduceAdd,Nat.reduceLT,Nat.reduceLeDiff,Nat.beq]
   rw [ih _ (by simp only [hi1];rfl),h]
   rfl
 ·intro rb
  have W1:IntKind.i64.wrap (64 * (b.ws.length:Int))=64 * (b.ws.length:Int):=bF (by omega)
  have F1:(((s+(64 * b.ws.length - s):Nat):Int)<64 * (b.ws.length:Int))=False:=eq_false (by omega)
  rw [if_neg (by rw [kR];rintro ⟨j,h1,h2,_⟩;omega)]
  simp only [Bl,F1,W1,List.length_map,dK,reduceCtorEq,Nat.reduceEqDiff,Nat.reduceAdd,Nat.reduceLT,Nat.reduceLeDiff,Nat.beq]
  rfl
end Go.Proofs.YtaaokejjmdbfaaaDoor.V

namespace Go.Proofs.YtaaokejjmdbfaaaDoor.V
theorem aeM {b:Bm}:cal env 53 [jU b]=some [(.int .i64 (DR b),false)]:=by
 unfold jU
 have P:∀ x y:PV,part [x,y] 0 (some 2)=some (.agg [x,y]):=fun _ _=>rfl
 by_cases c0:b.size<0
 ·have hE:DR b=3:=mM (by rw [Bool.eq_false_iff];intro h;have:=jf h;omega)
  rw [hE]
  rw [au SV rfl];simp only [MX];simp only [start,aP,aX,aN,aW,aI,aJ,aO,aT,Nat.reduceAdd,Nat.reduceSub]
  simp only [c0,P,dK,reduceCtorEq,Nat.reduceEqDiff,Nat.reduceAdd,Nat.reduceLT,Nat.reduceLeDiff,Nat.beq]
 ·by_cases c1:b.size > 4096
  ·have hE:DR b=3:=mM (by rw [Bool.eq_false_iff];intro h;have:=jf h;omega)
   rw [hE]
   have F1:(b.size > 4096)=True:=eq_true c1
   rw [au SV rfl];simp only [MX];simp only [start,aP,aX,aN,aW,aI,aJ,aO,aT,Nat.reduceAdd,Nat.reduceSub]
   simp only [c0,F1,P,dK,reduceCtorEq,Nat.reduceEqDiff,Nat.reduceAdd,Nat.reduceLT,Nat.reduceLeDiff,Nat.beq]
  ·have F1:(b.size > 4096)=False:=eq_false c1
   have W0:IntKind.i64.wrap (b.size+63)=b.size+63:=bF (by omega)
   have W3:IntKind.i64.wrap (iH b.size)=iH b.size:=bF (by unfold iH;omega)
   have T:=q63 (n:=b.size) (by omega)
   by_cases c2:(b.ws.length:Int)=iH b.size
   ·have F2:((b.ws.length:Int) != iH b.size)=false:=by simp [c2]
    have hw:=c2
    unfold iH at hw
    have hs:b.size=((b.size.toNat:Nat):Int):=by omega
    rw [au SV rfl];simp only [MX];simp only [start,aP,aX,aN,aW,aI,aJ,aO,aT,Nat.reduceAdd,Nat.reduceSub]
    simp only [c0,F1,F2,W0,W3,T,z64,P,List.length_map,dK,reduceCtorEq,Nat.reduceEqDiff,Nat.reduceAdd,Nat.reduceLT,Nat.reduceLeDiff,Nat.beq]
    rw [agp (b:=b) (s:=b.size.toNat) hs (by omega) (by omega)]
    rotate_left
    ·rw [Nat.add_zero,← hs];rfl
    ·cases c:okB b with
     |true =>
      rw [sN c,if_neg]
      ·simp only [c0,F1,F2,W0,W3,T,z64,P,List.length_map,dK,reduceCtorEq,Nat.reduceEqDiff,Nat.reduceAdd,Nat.reduceLT,Nat.reduceLeDiff,Nat.beq]
      ·rw [kR]
       rintro ⟨i,h1,h2,h3⟩
       rw [(iL.1 c).2 i (by omega)] at h3
       cases h3
     |false =>
      rw [mM c,if_pos]
      ·simp only [c0,F1,F2,W0,W3,T,z64,P,List.length_map,dK,reduceCtorEq,Nat.reduceEqDiff,Nat.reduceAdd,Nat.reduceLT,Nat.reduceLeDiff,Nat.beq]
      ·rw [kR]
       apply Classical.byContradiction
       intro hn
       have:okB b=true:=iL.2 ⟨⟨by omega,by omega,c2⟩,fun i hi=>by
        by_cases hl:i<64 * b.ws.length
        ·cases hb:bit b.ws i with
         |false=>rfl
         |true=>exact absurd ⟨i,by omega,hl,hb⟩ hn
        ·exact yH (by omega)⟩
       rw [this] at c;cases c
   ·have F2:((b.ws.length:Int) != iH b.size)=true:=by simp [c2]
    have hE:DR b=3:=mM (by rw [Bool.eq_false_iff];intro h;exact c2 (iL.1 h).1.2.2)
    rw [hE]
    rw [au SV rfl];simp only [MX];simp only [start,aP,aX,aN,aW,aI,aJ,aO,aT,Nat.reduceAdd,Nat.reduceSub]
    simp only [c0,F1,F2,W0,W3,T,z64,P,List.length_map,dK,reduceCtorEq,Nat.reduceEqDiff,Nat.reduceAdd,Nat.reduceLT,Nat.reduceLeDiff,Nat.beq]
theorem agq {b:Bm} (hl:b.ws.length≤lim):cal env 114 [jU b]=some [(jU b,true)]:=by
 unfold jU
 have F1:(b.ws.length≤lim)=True:=eq_true hl
 rw [au af2 rfl];simp only [Ns];simp only [start,aP,aX,aN,aW,aI,aJ,aO,aT,Nat.reduceAdd,Nat.reduceSub]
 simp only [F1,List.length_map,List.nil_append,dK,reduceCtorEq,Nat.reduceEqDiff,Nat.reduceAdd,Nat.reduceLT,Nat.reduceLeDiff,Nat.beq]
end Go.Proofs.YtaaokejjmdbfaaaDoor.V

namespace Go.Proofs.YtaaokejjmdbfaaaDoor.V
structure GL where
 epoch:Int
 fr:Int
 to:Int
 deriving DecidableEq
def vU (x:GL):PV:=.agg [.int .i64 x.epoch,.int .i64 x.fr,.int .i64 x.to]
def AZ (x:GL):List BV:=[.pv (.int .i64 x.epoch),.pv (.int .i64 x.fr),.pv (.int .i64 x.to)]
def jH (p x:GL):Bool:=decide (x.fr=p.to+1)&&(decide (x.fr≤x.to)&&(decide (x.to≤1073741824)&&(decide (x.epoch≤1073741824)&&decide (p.epoch<x.epoch))))
def z0:GL:=⟨0,0,0⟩
def linGo:GL→List GL→Bool
 |_,[]=>true
 |p,x :: l=>jH p x&&linGo x l
def GN (l:List GL):Bool:=linGo z0 l
def lastOf (l:List GL) (j:Nat):GL:=if j=0 then z0 else l.getD (j - 1) z0
def GR (p:GL):Prop:=0≤p.epoch∧p.epoch≤1073741824∧0≤p.to∧p.to≤1073741824
theorem NJ {l:List GL} {i:Nat} (h:i<l.length):lastOf l (i+1)=l[i]:=by
 simp [lastOf,List.getD_eq_getElem?_getD,List.getElem?_eq_getElem h]
theorem NK {p x:GL} (h:jH p x=true) (hp:GR p):GR x∧x.fr=p.to+1∧x.fr≤x.to∧p.epoch<x.epoch:=by
 simp only [jH,Bool.and_eq_true,decide_eq_true_eq] at h
 unfold GR at *
 omega
def jw (p:GL):List GL→Bool × GL
 |[]=>(true,p)
 |x :: r=>if jH p x=true then jw x r else (false,p)
theorem GU:∀ (l:List GL) (p:GL),(jw p l).1=linGo p l
 |[],_=>rfl
 |x :: l,p=>by
  unfold jw linGo
  by_cases h:jH p x=true
  ·simp only [h,if_true,Bool.true_and];exact GU l x
  ·simp only [h,if_false,Bool.not_eq_true] at *;simp [h]
theorem aeN {n low:Int}:cal env 48 [.int .i64 n,.int .i64 low]=some [(.bool (decide (n ≥ low)&&decide (n≤1073741824)),false)]:=by
 rw [au ah3 rfl];simp only [Zw];simp only [start,aP,aX,aN,aW,aI,aJ,aO,aT,Nat.reduceAdd,Nat.reduceSub]
 by_cases h:n ≥ low
 ·have G:(n ≥ low)=True:=eq_true h
  simp only [G,dK,reduceCtorEq,Nat.reduceEqDiff,Nat.reduceAdd,Nat.reduceLT,Nat.reduceLeDiff,Nat.beq]
 ·have G:(n ≥ low)=False:=eq_false h
  simp only [G,dK,reduceCtorEq,Nat.reduceEqDiff,Nat.reduceAdd,Nat.reduceLT,Nat.reduceLeDiff,Nat.beq]
theorem agr {l:List GL} (hl:l.length≤lim)
  {st:St} (h:st.head [0,3,7,8,9] st.boxes.length=some ⟨[.pv (.list 3 (l.map vU)),.any,.any,.aA 0 0,.any,.any,.any,.pv (.list 3 (l.map vU)),.pv (.int .i64 l.length),.pv (.int .i64 (0:Nat)),.any,.any,.any,.any,.any,.any,.any,.any,.any,.any,.any,.any,.any,.any,.any,.any,.any,.any,.any,.any,.any,.any,.any,.any,.any,.any,.any,.any,.any,.any,.any,.any,.any,.any,.any,.any],[⟨false,AZ z0⟩],[],none⟩) :
  den env Jk st=match jw z0 l with
   |(true,p)=>some (.normal,⟨[.any,.any,.any,.any,.any,.any,.any,.any,.any,.any,.any,.any,.any,.any,.any,.any,.any,.any,.any,.any,.any,.any,.any,.any,.any,.any,.any,.any,.any,.any,.any,.any,.any,.any,.any,.any,.any,.any,.any,.any,.any,.any,.any,.any,.any,.any],[⟨false,AZ p⟩],[],none⟩)
   |(false,p)=>some (.ret,⟨[.any,.any,.pv (.bool false),.any,.any,.any,.any,.any,.any,.any,.any,.any,.any,.any,.any,.any,.any,.any,.any,.any,.any,.any,.any,.any,.any,.any,.any,.any,.any,.any,.any,.any,.any,.any,.any,.any,.any,.any,.any,.any,.any,.any,.any,.any,.any,.any],[⟨false,AZ p⟩],[],none⟩):=by
 unfold Jk
 refine V3 (env:=env) l.length (fun i=>GR (lastOf l i)) (fun i=>⟨[.pv (.list 3 (l.map vU)),.any,.any,.aA 0 0,.any,.any,.any,.pv (.list 3 (l.map vU)),.pv (.int .i64 l.length),.pv (.int .i64 i),.any,.any,.any,.any,.any,.any,.any,.any,.any,.any,.any,.any,.any,.any,.any,.any,.any,.any,.any,.any,.any,.any,.any,.any,.any,.any,.any,.any,.any,.any,.any,.any,.any,.any,.any,.any],[⟨false,AZ (lastOf l i)⟩],[],none⟩)
  (fun i=>match jw (lastOf l i) (l.drop i) with
   |(true,p)=>some (.normal,⟨[.any,.any,.any,.any,.any,.any,.any,.any,.any,.any,.any,.any,.any,.any,.any,.any,.any,.any,.any,.any,.any,.any,.any,.any,.any,.any,.any,.any,.any,.any,.any,.any,.any,.any,.any,.any,.any,.any,.any,.any,.any,.any,.any,.any,.any,.any],[⟨false,AZ p⟩],[],none⟩)
   |(false,p)=>some (.ret,⟨[.any,.any,.pv (.bool false),.any,.any,.any,.any,.any,.any,.any,.any,.any,.any,.any,.any,.any,.any,.any,.any,.any,.any,.any,.any,.any,.any,.any,.any,.any,.any,.any,.any,.any,.any,.any,.any,.any,.any,.any,.any,.any,.any,.any,.any,.any,.any,.any],[⟨false,AZ p⟩],[],none⟩)) h (by simp [lastOf,GR,z0]) (fun _=>rfl) (fun _=>rfl) ?_ ?_
 ·intro i rb hi hf ih
  have hi1:=bP hi hl
  have F1:((i:Int)<(l.length:Int))=True:=eq_true (by omega)
  have hk:l[i]?=some l[i]:=List.getElem?_eq_getElem hi
  rw [NJ hi] at ih
  rw [List.drop_eq_getElem_cons hi]
  unfold jw
  generalize lastOf l i=p at *
  generalize l[i]=x at *
  obtain ⟨pe,pf,pt⟩:=p
  obtain ⟨xe,xf,xt⟩:=x
  have hf':=hf
  simp only [GR] at hf
  have F2:IntKind.i64.wrap (pt+1)=pt+1:=bF (by omega)
  by_cases c1:xf=pt+1
  rotate_left
  ·have G1:(xf != pt+1)=true:=by simpa using c1
   have hn:jH ⟨pe,pf,pt⟩ ⟨xe,xf,xt⟩=false:=by simp [jH,c1]
   simp only [G1,qo,F1,F2,hk,AZ,vU,ah hi,List.getElem?_map,Option.map_some,dK,reduceCtorEq,Nat.reduceEqDiff,Nat.reduceAdd,Nat.reduceLT,Nat.reduceLeDiff,Nat.beq]
   simp only [hn]
   rfl
  have G1:(xf != pt+1)=false:=by simpa using c1
  by_cases c2:xt<xf
  ·have G2:(xt<xf)=True:=eq_true c2
   have hn:jH ⟨pe,pf,pt⟩ ⟨xe,xf,xt⟩=false:=by simp [jH];omega
   simp only [G1,G2,qo,F1,F2,hk,AZ,vU,ah hi,List.getElem?_map,Option.map_some,dK,reduceCtorEq,Nat.reduceEqDiff,Nat.reduceAdd,Nat.reduceLT,Nat.reduceLeDiff,Nat.beq]
   simp only [hn]
   rfl
  have G2:(xt<xf)=False:=eq_false c2
  by_cases c3:xt > 1073741824
  ·have G3:(xt > 1073741824)=True:=eq_true c3
   have hn:jH ⟨pe,pf,pt⟩ ⟨xe,xf,xt⟩=false:=by simp [jH];omega
   simp only [G1,G2,G3,qo,F1,F2,hk,AZ,vU,ah hi,List.getElem?_map,Option.map_some,dK,reduceCtorEq,Nat.reduceEqDiff,Nat.reduceAdd,Nat.reduceLT,Nat.reduceLeDiff,Nat.beq]
   simp only [hn]
   rfl
  have G3:(xt > 1073741824)=False:=eq_false c3
  have e1:=aeN (n:=xe) (low:=1)
  by_cases c4:1≤xe∧xe≤1073741824
  rotate_left
  ·have G4:(decide (xe ≥ 1)&&decide (xe≤1073741824))=false:=by
    rw [← Bool.not_eq_true];simp;omega
   rw [G4] at e1
   have hn:jH ⟨pe,pf,pt⟩ ⟨xe,xf,xt⟩=false:=by simp [jH];omega
   simp only [G1,G2,G3,e1,qo,F1,F2,hk,AZ,vU,ah hi,List.getElem?_map,Option.map_some,dK,reduceCtorEq,Nat.reduceEqDiff,Nat.reduceAdd,Nat.reduceLT,Nat.reduceLeDiff,Nat.beq]
   simp only [hn]
   rfl
  have G4:(decide (xe ≥ 1)&&decide (xe≤1073741824))=true:=by simp;omega
  rw [G4] at e1
  by_cases c5:xe≤pe
  ·have G5:(xe≤pe)=True:=eq_true c5
   have hn:jH ⟨pe,pf,pt⟩ ⟨xe,xf,xt⟩=false:=by simp [jH];omega
   simp only [G1,G2,G3,e1,G5,qo,F1,F2,hk,AZ,vU,ah hi,List.getElem?_map,Option.map_some,dK,reduceCtorEq,Nat.reduceEqDiff,Nat.reduceAdd,Nat.reduceLT,Nat.reduceLeDiff,Nat.beq]
   simp only [hn]
   rfl
  have G5:(xe≤pe)=False:=eq_false c5
  have hn:jH ⟨pe,pf,pt⟩ ⟨xe,xf,xt⟩=true:=by simp [jH];omega
  have hfx:=(NK hn hf').1
  simp only [G1,G2,G3,e1,G5,qo,F1,F2,hk,AZ,vU,ah hi,List.getElem?_map,Option.map_some,dK,reduceCtorEq,Nat.reduceEqDiff,Nat.reduceAdd,Nat.reduceLT,Nat.reduceLeDiff,Nat.beq]
  rw [ih hfx _ (by simp only [hi1];rfl)]
  simp only [hn,if_true]
  rfl
 ·intro rb hf
  simp only [qo,Int.lt_irrefl,dK,reduceCtorEq,Nat.reduceEqDiff,Nat.reduceAdd,Nat.reduceLT,Nat.reduceLeDiff,Nat.beq]
  rw [List.drop_length]
  rfl
theorem aiE {l:List GL} (hl:l.length≤lim):cal env 49 [.list 3 (l.map vU)]=some [(.bool (GN l),false)]:=by
 rw [au ah4 rfl];simp only [Zx];simp only [start,aP,aX,aN,aW,aI,aJ,aO,aT,Nat.reduceAdd,Nat.reduceSub]
 simp only [dK,reduceCtorEq,Nat.reduceEqDiff,Nat.reduceAdd,Nat.reduceLT,Nat.reduceLeDiff,Nat.beq]
 rw [agr hl]
 rotate_left
 ·rfl
 ·have:=GU l z0
  cases h:jw z0 l with
  |mk t p =>
   rw [h] at this
   cases t with
   |true=>simp only [GN,← this,dK,reduceCtorEq,Nat.reduceEqDiff,Nat.reduceAdd,Nat.reduceLT,Nat.reduceLeDiff,Nat.beq]
   |false=>simp only [GN,← this,dK,reduceCtorEq,Nat.reduceEqDiff,Nat.reduceAdd,Nat.reduceLT,Nat.reduceLeDiff,Nat.beq]
end Go.Proofs.YtaaokejjmdbfaaaDoor.V

namespace Go.Proofs.YtaaokejjmdbfaaaDoor.V
end Go.Proofs.YtaaokejjmdbfaaaDoor.V

namespace Go.Proofs.YtaaokejjmdbfaaaDoor.V
end Go.Proofs.YtaaokejjmdbfaaaDoor.V
