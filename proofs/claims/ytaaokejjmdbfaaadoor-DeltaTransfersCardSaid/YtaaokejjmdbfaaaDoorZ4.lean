/-
  Part 4 of the texts that the statement stands on.
-/
import Derived.Test.YtaaokejjmdbfaaaDoorZ3
import Derived.ProofKit
import Derived.SizedLaws
import Derived.OpenShut
import Derived.Deep.Strs
set_option linter.all false
namespace Go.Proofs.YtaaokejjmdbfaaaDoor
abbrev Rec:=ak→St→Option (Ex × St)
def RLe (f g:Rec):Prop:=∀ c st r,f c st=some r→g c st=some r
open Classical in
noncomputable def den (env:Env) (c:ak) (st:St):Option (Ex × St) :=
 if h:∃ n r,vm env n c st=some r then some (Classical.choose (Classical.choose_spec h)) else none
structure Good {α:Type} (env:Env) (F:Rec→Option α):Prop where
 mono:∀ f g,RLe f g→∀ r,F f=some r→F g=some r
 cont:(∀ m n,m≤n→RLe (vm env m) (vm env n))→∀ r,F (den env)=some r→∃ n,F (vm env n)=some r
section
variable {α β:Type} {env:Env}
theorem Good.const (x:Option α):Good env (fun _=>x):=⟨fun _ _ _ _ h=>h,fun _ _ h=>⟨0,h⟩⟩
theorem Good.app (c:ak) (st:St):Good env (fun rec=>rec c st):=⟨fun _ _ h r=>h c st r,fun _ r h=>by
 unfold den at h
 split at h
 case isFalse=>cases h
 rename_i hx
 cases h
 exact ⟨_,Classical.choose_spec (Classical.choose_spec hx)⟩⟩
theorem Good.bind {F:Rec→Option α} {G:α→Rec→Option β} (hF:Good env F) (hG:∀ a,Good env (G a)):Good env (fun rec=>(F rec).bind fun a=>G a rec):=⟨fun f g h r e=>by
 obtain ⟨a,h1,h2⟩:=Option.bind_eq_some_iff.1 e
 exact Option.bind_eq_some_iff.2 ⟨a,hF.mono f g h a h1,(hG a).mono f g h r h2⟩,fun hm r e=>by
 obtain ⟨a,h1,h2⟩:=Option.bind_eq_some_iff.1 e
 obtain ⟨m,h3⟩:=hF.cont hm a h1
 obtain ⟨n,h4⟩:=(hG a).cont hm r h2
 exact ⟨max m n,Option.bind_eq_some_iff.2 ⟨a,hF.mono _ _ (hm m _ (Nat.le_max_left m n)) a h3,(hG a).mono _ _ (hm n _ (Nat.le_max_right m n)) r h4⟩⟩⟩
theorem Good.map {F:Rec→Option α} {g:α→β} (hF:Good env F):Good env (fun rec=>(F rec).map g):=by
 have:=hF.bind (G:=fun a _=>some (g a)) fun a=>Good.const _
 refine ⟨fun f g' h r e=>?_,fun hm r e=>?_⟩
 ·have:=this.mono f g' h r (by simpa [Option.map_eq_bind,Function.comp_def] using e)
  simpa [Option.map_eq_bind,Function.comp_def] using this
 ·obtain ⟨n,hn⟩:=this.cont hm r (by simpa [Option.map_eq_bind,Function.comp_def] using e)
  exact ⟨n,by simpa [Option.map_eq_bind,Function.comp_def] using hn⟩
theorem Good.gJ (f:Nat) (args:List PV):Good env (fun rec=>gJ rec env f args):=by
 unfold Go.Proofs.YtaaokejjmdbfaaaDoor.gJ
 split
 ·exact Good.const _
 ·split
  ·refine (Good.app _ _).bind fun a=>?_
   obtain ⟨e,st⟩:=a
   cases e<;>exact Good.const _
  ·exact Good.const _
 ·exact Good.const _
 ·exact Good.const _
 ·split
  ·refine (Good.app _ _).bind fun a=>?_
   split
   ·exact (Good.const _).bind fun st0=>(Good.app _ _).bind fun r=>Good.const _
   ·exact Good.const _
  ·exact Good.const _
 ·exact Good.const _
theorem Good.wV (f:Nat) (args:List PV):Good env (fun rec=>wV rec env f args):=by
 unfold Go.Proofs.YtaaokejjmdbfaaaDoor.wV
 split
 ·exact Good.const _
 ·split
  ·exact (Good.app _ _).bind fun a=>Good.const _
  ·exact Good.const _
 ·exact Good.const _
theorem Good.gK (f:Nat) (args:List PV) (s:Option Nat):Good env (fun rec=>gK rec env f args s):=by
 unfold Go.Proofs.YtaaokejjmdbfaaaDoor.gK
 split
 ·split
  ·refine (Good.app _ _).bind fun a=>?_
   obtain ⟨e,st⟩:=a
   cases e<;>exact Good.const _
  ·exact Good.const _
 ·exact Good.const _
theorem Good.gQ (d f:Nat) (args:List bP) (caps:List AV) (st:St):Good env (fun rec=>gQ rec env d f args caps st):=by
 unfold Go.Proofs.YtaaokejjmdbfaaaDoor.gQ
 exact (Good.const _).bind fun l=>(Good.const _).bind fun k=>(Good.gJ f _).bind fun rs=>Good.const _
theorem Good.kG (f:Nat) (x:kC) (args:List PV):Good env (fun rec=>kG rec env f x args):=by
 unfold Go.Proofs.YtaaokejjmdbfaaaDoor.kG
 split
 ·split
  ·refine (Good.app _ _).bind fun a=>?_
   obtain ⟨e,st⟩:=a
   cases e<;>exact Good.const _
  ·exact Good.const _
 ·exact Good.const _
theorem Good.fD (d f:Nat) (x:bP) (args:List bP) (caps:List AV) (st:St):Good env (fun rec=>fD rec env d f x args caps st):=by
 unfold Go.Proofs.YtaaokejjmdbfaaaDoor.fD mP
 exact (Good.const _).bind fun l=>(Good.const _).bind fun k=>(Good.const _).bind fun q=>(Good.kG f _ _).bind fun r=>Good.const _
theorem Good.act (o:fM) (st:St):Good env (fun rec=>act rec env o st):=by
 cases o
 case call d f args=>exact Good.gQ d f args [] st
 case ku d x args =>
  unfold Go.Proofs.YtaaokejjmdbfaaaDoor.act
  simp only
  split
  ·exact Good.gQ _ _ _ _ _
  ·exact Good.gQ _ _ _ _ _
  ·exact Good.const _
 case lin d f x args=>exact Good.fD d f x args [] st
 case linv d g x args =>
  unfold Go.Proofs.YtaaokejjmdbfaaaDoor.act
  simp only
  split
  ·exact Good.fD _ _ _ _ _ _
  ·exact Good.fD _ _ _ _ _ _
  ·exact Good.const _
 all_goals exact Good.const _
theorem Good.op1 (o:fM) (st:St):Good env (fun rec=>op1 rec env o st):=by
 unfold Go.Proofs.YtaaokejjmdbfaaaDoor.op1
 split
 ·exact Good.act o st
 ·exact Good.const _
theorem Good.op (o:fM) (st:St):Good env (fun rec=>op rec env o st):=by
 unfold Go.Proofs.YtaaokejjmdbfaaaDoor.op
 split
 ·split
  ·split
   ·exact Good.op1 _ _
   ·exact Good.const _
  ·exact Good.const _
  ·exact Good.const _
 ·exact Good.op1 _ _
theorem Good.ops:∀ (l:List fM) (st:St),Good env (fun rec=>ops rec env l st)
 |[],st=>Good.const _
 |o :: l,st=>(Good.op o st).bind fun st=>Good.ops l st
theorem Good.rounds (slots:List AV) (ps:List Nat) (assign body:ak) (nb:Nat):∀ (xs:List (List PV)) (k:Nat) (st:St),Good env (fun rec=>rounds rec slots ps assign body nb k xs st)
 |[],k,st=>by unfold Go.Proofs.YtaaokejjmdbfaaaDoor.rounds;exact Good.const _
 |x :: xs,k,st=>by
  unfold Go.Proofs.YtaaokejjmdbfaaaDoor.rounds
  refine (Good.const _).bind fun sl=>(Good.app _ _).bind fun a=>?_
  obtain ⟨e,st⟩:=a
  cases e
  case normal =>
   refine (Good.app _ _).bind fun a=>?_
   obtain ⟨e,st⟩:=a
   cases e
   case normal =>
    simp only
    split
    ·exact Good.rounds slots ps assign body nb xs (k+1) _
    ·exact Good.const _
   all_goals exact Good.const _
  all_goals exact Good.const _
theorem Good.ranged (g:bP) (ps:List Nat) (assign body:ak) (st:St):Good env (fun rec=>ranged rec env g ps assign body st):=by
 unfold Go.Proofs.YtaaokejjmdbfaaaDoor.ranged
 refine (Good.const _).bind fun v=>?_
 cases v<;>try exact Good.const _
 simp only
 refine (Good.gK _ _ _).bind fun xs=>(Good.rounds _ _ _ _ _ _ _ _).bind fun r=>?_
 obtain ⟨r,st1⟩:=r
 cases r with
 |none=>exact Good.const _
 |some p =>
  obtain ⟨e,k⟩:=p
  refine (Good.gK _ _ _).bind fun xs=>(Good.rounds _ _ _ _ _ _ _ _).bind fun r=>?_
  obtain ⟨r,st1⟩:=r
  cases r<;>exact Good.const _
theorem Good.iV (keep:List Nat) (vo:List fM) (st:St) (x:fZ):Good env (fun rec=>iV rec env keep vo st x):=by
 unfold Go.Proofs.YtaaokejjmdbfaaaDoor.iV
 exact (Good.ops _ _).bind fun s=>Good.const _
theorem Good.agree (keep:List Nat) (vo:List fM) (st s:St):∀ l:List fZ,Good env (fun rec=>agree s (l.map (Go.Proofs.YtaaokejjmdbfaaaDoor.iV rec env keep vo st)))
 |[]=>Good.const _
 |x :: xs=>by
  simp only [List.map_cons,Go.Proofs.YtaaokejjmdbfaaaDoor.agree]
  refine (Good.iV keep vo st x).bind fun s'=>?_
  split
  ·exact Good.agree keep vo st s xs
  ·exact Good.const _
theorem Good.iO (keep:List Nat) (vo:List fM) (st:St) (l:List fZ):Good env (fun rec=>iO rec env keep vo st l):=by
 cases l with
 |nil=>exact Good.const _
 |cons x xs =>
  simp only [Go.Proofs.YtaaokejjmdbfaaaDoor.iO]
  exact (Good.iV keep vo st x).bind fun s=>Good.agree keep vo st s xs
theorem Good.step (c:ak) (st:St):Good env (fun rec=>step rec env c st):=by
 cases c
 case ops l=>exact (Good.ops l st).map
 case vk fz _ _ _ l=>exact (Good.ops l (fz.foldl St.gG st)).map
 case drs fz keep vo alts=>exact (Good.iO keep vo (fz.foldl St.gG st) alts).map
 case lend d ks l =>
  simp only [Go.Proofs.YtaaokejjmdbfaaaDoor.step]
  split
  ·split
   ·exact ((Good.ops l _).bind fun s=>Good.const _).map
   ·exact Good.const _
  ·exact Good.const _
 case seq a b =>
  refine (Good.app _ _).bind fun x=>?_
  obtain ⟨e,st⟩:=x
  cases e
  case normal=>exact Good.app _ _
  all_goals exact Good.const _
 case cond c a b =>
  refine (Good.const _).bind fun v=>?_
  cases v<;>try exact Good.const _
  simp only
  split
  ·exact Good.app _ _
  ·exact Good.app _ _
 case block i a =>
  refine (Good.app _ _).bind fun x=>?_
  obtain ⟨e,st⟩:=x
  exact Good.const _
 case loop=>exact Good.app _ _
 case round keep nb a =>
  refine (Good.const _).bind fun s=>(Good.app _ _).bind fun x=>?_
  obtain ⟨e,st⟩:=x
  cases e
  case normal=>exact Good.app _ _
  all_goals exact Good.const _
 case rng g ps assign body=>exact Good.ranged g ps assign body st
 case clean pre post a =>
  refine (Good.const _).bind fun s=>(Good.app _ _).bind fun x=>?_
  obtain ⟨e,st⟩:=x
  exact Good.const _
 case dem l d f args =>
  refine (Good.ops l st).bind fun st1=>(Good.const _).bind fun vs=>(Good.wV f vs).bind fun r=>?_
  cases r with
  |some p=>exact Good.const _
  |none=>exact (Good.act _ _).map
 all_goals exact Good.const _
theorem QO (env:Env):∀ n,RLe (vm env n) (vm env (n+1))
 |0,c,st,r,h=>by simp [vm] at h
 |n+1,c,st,r,h=>(Good.step (env:=env) c st).mono _ _ (QO env n) r h
theorem KU (env:Env) (m n:Nat) (h:m≤n):RLe (vm env m) (vm env n):=by
 induction h with
 |refl=>exact fun _ _ _ h=>h
 |step _ ih=>exact fun c st r h=>QO env _ c st r (ih c st r h)
theorem ES {n:Nat} {c:ak} {st:St} {r:Ex × St} (h:vm env n c st=some r):den env c st=some r:=by
 have hx:∃ n r,vm env n c st=some r:=⟨n,r,h⟩
 unfold den
 rw [dif_pos hx]
 have h2:=Classical.choose_spec (Classical.choose_spec hx)
 have h3:=KU env _ _ (Nat.le_max_left n (Classical.choose hx)) c st r h
 have h4:=KU env _ _ (Nat.le_max_right n (Classical.choose hx)) c st _ h2
 rw [h3] at h4
 exact h4.symm
theorem Tj {c:ak} {st:St} {r:Ex × St} (h:den env c st=some r):∃ n,vm env n c st=some r :=
 (Good.app c st).cont (KU env) r h
theorem WS (env:Env) (n:Nat):RLe (vm env n) (den env):=fun _ _ _ h=>ES h
theorem kN (env:Env) (c:ak) (st:St):den env c st=step (den env) env c st:=by
 apply Option.ext
 intro r
 constructor
 ·intro h
  obtain ⟨n,hn⟩:=Tj h
  cases n with
  |zero=>simp [vm] at hn
  |succ n=>exact (Good.step c st).mono _ _ (WS env n) r hn
 ·intro h
  obtain ⟨n,hn⟩:=(Good.step c st).cont (KU env) r h
  exact ES (n:=n+1) hn
noncomputable def cal (env:Env) (f:Nat) (args:List PV):Option (List l9):=gJ (den env) env f args
noncomputable def agb (env:Env) (f:Nat) (x:kC) (args:List PV):Option (List l9 × Option (List PV)):=kG (den env) env f x args
theorem qm {f:Nat} {args:List PV} {rs:List l9} (h:cal env f args=some rs):∃ n,NK env n f args=some rs :=
 (Good.gJ (env:=env) f args).cont (KU env) rs h
theorem vK {n f:Nat} {args:List PV} {rs:List l9} (h:NK env n f args=some rs):cal env f args=some rs :=
 (Good.gJ (env:=env) f args).mono _ _ (WS env n) rs h
end
end Go.Proofs.YtaaokejjmdbfaaaDoor

namespace Go.Proofs.YtaaokejjmdbfaaaDoor
open Go.RowKit Go.ChangeShapes Go.WideShapes Go.ChangeAt
theorem KW {T:Tags} {w:World} {b:Bool} {v:Value} (h:qV T w [(.bool b,false)] v):v=.bool b:=by
 obtain ⟨arr,h1,h2,h3⟩:=h
 have ha:arr.size=1:=h1
 have e0:arr[0]?=some arr[0]:=Array.getElem?_eq_getElem (by omega)
 have hv:v=arr[0]:=by rw [h2,if_pos ha,Array.getD_eq_getD_getElem?,e0];rfl
 have hr:ay (fun b=>T b=.ro) w (.bool b) arr[0]:=h3 0 (.bool b,false) arr[0] rfl e0
 rw [hv]
 exact hr.mV
def oN (w:World):Prop:=jJ (fun b=>if b<w.heap.size then .ro else .other) w
theorem OJ {P:Program} {env:Env} {f:Nat} {args:List PV} {vs:List Value} {w:World} (hE:xM P env) (h:cal env f args=some [(.bool true,false)]) (hl:vs.length=args.length)
  (hr:∀ (i:Nat) x v,args[i]?=some x→vs[i]?=some v→ay (fun b=>b<w.heap.size) w x v) (hG:oN w):Calls P f vs.toArray w (fun e w'=>e=.returned (.bool true)∧Below w.heap.size w w'):=by
 obtain ⟨n,hn⟩:=qm h
 have hC:=(ER hE hn).2 (fun b=>if b<w.heap.size then .ro else .other) w vs (fun b=>by
  by_cases hb:b<w.heap.size
  ·exact .inl (if_pos hb)
  ·exact .inr (if_neg hb)) (fun b hb=>if_neg (by omega)) hl (fun i x v hx hv=>(hr i x v hx hv).frame fun b hb _=>⟨if_pos hb,rfl⟩) hG
 refine hC.mono ?_
 rintro e w' ⟨v,T',rfl,h1,_,_,h2⟩
 exact ⟨by rw [KW h2],h1⟩
def BP (w:World):List PV→List Value→Prop
 |[],[]=>True
 |x :: xs,v :: vs=>ay (fun b=>b<w.heap.size) w x v∧BP w xs vs
 |_,_=>False
theorem BP.get {w:World}:∀ {xs:List PV} {vs:List Value},BP w xs vs→vs.length=xs.length∧∀ (i:Nat) x v,xs[i]?=some x→vs[i]?=some v→ay (fun b=>b<w.heap.size) w x v
 |[],[],_=>⟨rfl,fun i x v hx=>by simp at hx⟩
 |x :: xs,v :: vs,h=>by
  obtain ⟨h1,h2⟩:=h
  obtain ⟨k1,k2⟩:=h2.get
  refine ⟨by simp [k1],fun i y u hy hu=>?_⟩
  cases i with
  |zero=>cases hy;cases hu;exact h1
  |succ i=>exact k2 i y u hy hu
 |[],_ :: _,h=>h.elim
 |_ :: _,[],h=>h.elim
theorem Tm {P:Program} {env:Env} {f:Nat} {args:List PV} {vs:List Value} {w:World} (hE:xM P env) (h:cal env f args=some [(.bool true,false)]) (hr:BP w args vs) (hG:oN w:=by exact oN.none):Calls P f vs.toArray w (fun e w'=>e=.returned (.bool true)∧Below w.heap.size w w') :=
 OJ hE h hr.get.1 hr.get.2 hG
def Hf (w:World) (cs:List Value) (ps:List PV):Prop :=
 cs.length=ps.length∧(∀ c∈cs,c.oneCell'=true)∧∀ (j:Nat) x v,ps[j]?=some x→cs[j]?=some v→ay (fun b=>b<w.heap.size) w x v
def eH (P:Program) (t:TypeId) (n:Nat) (S:List PV→Prop):Prop :=
 P.cellsOf t=n∧∀ {H:Type} {enc:TypeId × Value→H} {w:World} {fuel:Nat} {cs:List Value} {x:DataW H × List MemPlace},DataW.trod enc P w 0 (fun _=>true) true fuel t cs=some x→∃ ps,S ps∧ps.length=n∧Hf w cs ps
def SInt (k:IntKind) (ps:List PV):Prop:=∃ n,(Lit.int k n).wf=true∧ps=[.int k n]
def agc (ps:List PV):Prop:=∃ b,ps=[.bool b]
def agd (n:Nat) (S:List PV→Prop) (ps:List PV):Prop:=ps.length=n∧∀ p∈ps,S [p]
def wrS (ps:List PV):PV:=ps.headD .void
def xO (n:Nat) (S:List PV→Prop) (wr:List PV→PV) (ps:List PV):Prop:=∃ es,ps=[.list n es]∧∀ x∈es,∃ q,S q∧x=wr q
def Eb:List (List PV→Prop)→List PV→Prop
 |[],ps=>ps=[]
 |S :: Ss,ps=>∃ p q,ps=p++q∧S p∧Eb Ss q
section
variable {P:Program} {t e:TypeId} {n m:Nat} {S:List PV→Prop} {k:IntKind}
theorem xP {w:World} {c:Value} {p:PV} (hc:c.oneCell'=true) (h:ay (fun b=>b<w.heap.size) w p c):Hf w [c] [p] :=
 ⟨rfl,fun x hx=>by rw [List.mem_singleton.1 hx];exact hc,fun j x v hx hv=>by
  cases j with
  |zero=>cases hx;cases hv;exact h
  |succ j=>simp at hx⟩
theorem eH.int (ht:P.underlying t=some (.int k)) (hc:P.cellsOf t=1):eH P t 1 (SInt k):=⟨hc,fun h=>by
 obtain ⟨n,rfl,_,hw⟩:=DataW.trod_int ht h
 exact ⟨[.int k n],⟨n,hw,rfl⟩,rfl,xP rfl (.int k n)⟩⟩
theorem eH.bool (ht:P.underlying t=some .bool) (hc:P.cellsOf t=1):eH P t 1 agc:=⟨hc,fun h=>by
 obtain ⟨b,rfl,_⟩:=DataW.trod_bool ht h
 exact ⟨[.bool b],⟨b,rfl⟩,rfl,xP rfl (.bool b)⟩⟩
theorem yP {α:Type} {p:Nat→α→Prop}:∀ n:Nat,(∀ i,i<n→∃ y,p i y)→∃ l:List α,l.length=n∧∀ i x,l[i]?=some x→p i x
 |0,_=>⟨[],rfl,fun i x h=>by simp at h⟩
 |n+1,h=>by
  obtain ⟨l,h1,h2⟩:=yP n fun i hi=>h i (by omega)
  obtain ⟨y,hy⟩:=h n (by omega)
  refine ⟨l++[y],by simp [h1],fun i x hx=>?_⟩
  by_cases hi:i<n
  ·rw [List.getElem?_append_left (by omega)] at hx;exact h2 i x hx
  ·have:=(List.getElem?_eq_some_iff.1 hx).1
   obtain rfl:i=n:=by simp at this;omega
   rw [List.getElem?_append_right (by omega),h1,Nat.sub_self] at hx
   cases hx
   exact hy
theorem eH.arr (ht:P.underlying t=some (.array n e)) (he:eH P e 1 S) (hc:P.cellsOf t=n):eH P t n (agd n S):=⟨hc,fun {H enc w fuel cs x} h=>by
 obtain ⟨xs,m,_,_,hl,hx,hE⟩:=DataW.trod_array ht h
 rw [hc] at hl
 obtain ⟨l,h1,h2⟩:=yP (p:=fun i (b:PV)=>S [b]∧∃ c,cs[i]?=some c∧c.oneCell'=true∧ay (fun b=>b<w.heap.size) w b c) n fun i hi=>by
  have:=hE i hi
  rw [List.getElem?_eq_getElem (by omega),he.1] at this
  obtain ⟨ps,g1,g2,g3,g4,g5⟩:=he.2 this
  match ps,g2 with
  |[p],_ =>
   have hci:cs[i]?=some cs[i]:=List.getElem?_eq_getElem (by omega)
   have h0:((cs.drop (i * 1)).take 1)[0]?=some cs[i]:=by
    rw [List.getElem?_take,if_pos (by decide),List.getElem?_drop]
    simpa using hci
   exact ⟨p,g1,cs[i],hci,g4 _ (List.mem_of_getElem? h0),g5 0 p _ rfl h0⟩
 refine ⟨l,⟨h1,fun p hp=>?_⟩,h1,by omega,fun c hc=>?_,fun j x v hx hv=>?_⟩
 ·obtain ⟨i,hi⟩:=List.mem_iff_getElem?.1 hp
  exact (h2 i p hi).1
 ·obtain ⟨i,hi⟩:=List.mem_iff_getElem?.1 hc
  have hil:i<l.length:=by
   have:=(List.getElem?_eq_some_iff.1 hi).1
   omega
  obtain ⟨_,c',e1,e2,_⟩:=h2 i l[i] (List.getElem?_eq_getElem hil)
  rw [hi] at e1;cases e1;exact e2
 ·obtain ⟨_,c',e1,_,e3⟩:=h2 j x hx
  rw [hv] at e1;cases e1;exact e3⟩
theorem BQ {w:World} {b off:Nat} {v:Value} (h:w.cell? ⟨b,off,none⟩=some v):dD w b:=by
 unfold World.cell? at h
 split at h
 ·rename_i arr E q hb
  exact ⟨arr,E,q,hb⟩
 ·cases h
theorem eH.list {wr:List PV→PV} (ht:P.underlying t=some (.slice e)) (hc:P.cellsOf t=1) (hr:eH P e n S) (hpos:0<n) (hw:∀ ps,S ps→ps.length=n→(wr ps).cells=ps):eH P t 1 (xO n S wr):=⟨hc,fun {H enc w fuel cs x} h=>by
 rcases DataW.trod_slice ht h with ⟨rfl,_⟩|⟨a,len,cap,elems,rest,m,_,rfl,_,_,hl,hm,hel,hE,hR,_⟩
 ·exact ⟨[.list n []],⟨[],rfl,fun x hx=>by cases hx⟩,rfl,xP rfl (.nil n none)⟩
 ·obtain ⟨l,h1,h2⟩:=yP (p:=fun i (y:List Value × List PV)=>w.cells? 0 (a.add (i * n)) n=some y.1∧S y.2∧y.2.length=n∧Hf w y.1 y.2) len fun i hi=>by
   have:=hE i hi
   rw [List.getElem?_eq_getElem (by omega),hr.1,Option.bind_eq_some_iff] at this
   obtain ⟨c,h3,h4⟩:=this
   obtain ⟨ps,g1,g2,g3⟩:=hr.2 h4
   exact ⟨(c,ps),h3,g1,g2,g3⟩
  refine ⟨[.list n (l.map fun y=>wr y.2)],⟨_,rfl,fun x hx=>?_⟩,rfl,xP rfl ?_⟩
  ·obtain ⟨y,hy,rfl⟩:=List.mem_map.1 hx
   obtain ⟨i,hi⟩:=List.mem_iff_getElem?.1 hy
   exact ⟨y.2,(h2 i y hi).2.1,rfl⟩
  ·by_cases hcap:cap=0
   ·have:len=0:=by omega
    subst hcap;subst this
    have:l=[]:=List.eq_nil_of_length_eq_zero h1
    subst this
    exact .nil n (some a)
   ·-- there are cells
    have hcell:∃ off v,w.cell? ⟨a.block,off,none⟩=some v∧a.spot=none:=by
     have acP:∀ (i:Nat) (c:List Value),w.cells? 0 (a.add (i * n)) n=some c→∃ off v,w.cell? ⟨a.block,off,none⟩=some v∧a.spot=none:=fun i c h3=>by
      obtain ⟨_,hc0,h4⟩:=World.cells?_some h3
      have h5:=h4 0 hpos
      rw [List.getElem?_eq_getElem (by omega)] at h5
      have hs:(a.add (i * n)).spot=none:=by simpa [Addr.add] using World.cell?_spot h5
      have hs0:a.spot=none:=by
       unfold Addr.add at hs
       split at hs
       ·exact hs
       ·rename_i hne
        by_cases h0:i * n=0
        ·rename_i q;exact absurd h0 (by simpa using hne)
        ·rcases Nat.eq_zero_or_pos i with hi0|hi0
         ·subst hi0;simp at h0
         ·-- the row begins at a: its first cell
          have:0<len∨len=0:=by omega
          rcases this with hlen|hlen
          ·obtain ⟨y,hy⟩:∃ y,l[0]?=some y:=⟨l[0],List.getElem?_eq_getElem (by omega)⟩
           obtain ⟨_,hc1,h6⟩:=World.cells?_some (h2 0 y hy).1
           have h7:=h6 0 hpos
           rw [List.getElem?_eq_getElem (by omega)] at h7
           simpa [Addr.add] using World.cell?_spot h7
          ·have hrl:0<rest.length:=by have:=(hR rfl).1;omega
           have:=(hR rfl).2 0 (by omega)
           have h8:rest[0]?=some rest[0]:=List.getElem?_eq_getElem hrl
           rw [h8,hr.1,hlen,Option.bind_eq_some_iff] at this
           obtain ⟨c1,h9,_⟩:=this
           obtain ⟨_,hc1,h6⟩:=World.cells?_some h9
           have h7:=h6 0 hpos
           rw [List.getElem?_eq_getElem (by omega)] at h7
           simpa [Addr.add] using World.cell?_spot h7
      obtain ⟨b,off,spot⟩:=a
      simp only at hs0
      subst hs0
      rw [Addr.add_lit,Addr.add_lit] at h5
      exact ⟨_,_,h5,rfl⟩
     rcases Nat.eq_zero_or_pos len with hlen|hlen
     ·have hrl:0<rest.length:=by have:=(hR rfl).1;omega
      have:=(hR rfl).2 0 (by omega)
      have h8:rest[0]?=some rest[0]:=List.getElem?_eq_getElem hrl
      rw [h8,hr.1,Option.bind_eq_some_iff] at this
      obtain ⟨c1,h9,_⟩:=this
      exact acP _ c1 h9
     ·obtain ⟨y,hy⟩:∃ y,l[0]?=some y:=⟨l[0],List.getElem?_eq_getElem (by omega)⟩
      exact acP 0 _ (h2 0 y hy).1
    obtain ⟨akU,v0,hv0,hspot⟩:=hcell
    obtain ⟨b,off,spot⟩:=a
    simp only at hspot hv0
    subst hspot
    have hC:dD w b:=BQ hv0
    have hget:∀ (i:Nat) x,(l.map fun y=>wr y.2)[i]?=some x→∃ y,l[i]?=some y∧x=wr y.2:=fun i x hx=>by
     rw [List.getElem?_map] at hx
     cases e:l[i]? with
     |none=>rw [e] at hx;cases hx
     |some y=>rw [e] at hx;exact ⟨y,rfl,(Option.some.inj hx).symm⟩
    have hlen:(l.map fun y=>wr y.2).length=len:=by simp [h1]
    have:=ay.list (ok:=fun b=>b<w.heap.size) (w:=w) n (l.map fun y=>wr y.2) b off cap (fun i j=>(((l[i]?).map (·.1)).getD []).getD j default) hC.lt hC (by rw [hlen];exact hl) hm
     (fun x hx=>by
      obtain ⟨i,hi⟩:=List.mem_iff_getElem?.1 hx
      obtain ⟨y,hy,rfl⟩:=hget i x hi
      obtain ⟨_,g1,g2,_⟩:=h2 i y hy
      rw [hw _ g1 g2,g2])
     (fun i x j p hi hj=>by
      obtain ⟨y,hy,rfl⟩:=hget i x hi
      obtain ⟨g0,g1,g2,g3,g4,g5⟩:=h2 i y hy
      rw [hw _ g1 g2] at hj
      have hjn:j<n:=by have:=(List.getElem?_eq_some_iff.1 hj).1;omega
      obtain ⟨_,hc1,h6⟩:=World.cells?_some g0
      have h7:=h6 j hjn
      have hcj:y.1[j]?=some y.1[j]:=List.getElem?_eq_getElem (by omega)
      have hd:(((l[i]?).map (·.1)).getD []).getD j default=y.1[j]:=by
       rw [hy];simp [List.getD_eq_getElem?_getD,hcj]
      rw [hd]
      rw [hcj,Addr.add_lit,Addr.add_lit] at h7
      exact ⟨h7,g4 _ (List.mem_of_getElem? hcj)⟩)
     (fun i x j p hi hj=>by
      obtain ⟨y,hy,rfl⟩:=hget i x hi
      obtain ⟨g0,g1,g2,g3,g4,g5⟩:=h2 i y hy
      rw [hw _ g1 g2] at hj
      have hjn:j<n:=by have:=(List.getElem?_eq_some_iff.1 hj).1;omega
      have hcj:y.1[j]?=some y.1[j]:=List.getElem?_eq_getElem (by omega)
      have hd:(((l[i]?).map (·.1)).getD []).getD j default=y.1[j]:=by
       rw [hy];simp [List.getD_eq_getElem?_getD,hcj]
      rw [hd]
      exact g5 j p _ hj hcj)
    rw [hlen] at this
    exact this⟩
theorem Hf.append {w:World} {c1 c2:List Value} {p1 p2:List PV} (h1:Hf w c1 p1) (h2:Hf w c2 p2):Hf w (c1++c2) (p1++p2):=by
 obtain ⟨a1,a2,a3⟩:=h1
 obtain ⟨b1,b2,b3⟩:=h2
 refine ⟨by simp [a1,b1],fun c hc=>?_,fun j x v hx hv=>?_⟩
 ·rcases List.mem_append.1 hc with h|h
  ·exact a2 c h
  ·exact b2 c h
 ·by_cases hj:j<p1.length
  ·rw [List.getElem?_append_left hj] at hx
   rw [List.getElem?_append_left (by omega)] at hv
   exact a3 j x v hx hv
  ·rw [List.getElem?_append_right (by omega)] at hx
   rw [List.getElem?_append_right (by omega),a1] at hv
   exact b3 _ x v hx hv
inductive Hg (P:Program):Nat→List Field→List (List PV→Prop)→Nat→Prop
 |nil (o:Nat):Hg P o [] [] 0
 |cons {o n m:Nat} {f:Field} {fs:List Field} {S:List PV→Prop} {Ss:List (List PV→Prop)}:f.offset=o→eH P f.type n S→Hg P (o+n) fs Ss m→Hg P o (f :: fs) (S :: Ss) (n+m)
theorem Hg.read {o:Nat} {fs:List Field} {Ss:List (List PV→Prop)} (h:Hg P o fs Ss m) {H:Type} {enc:TypeId × Value→H} {w:World} {fuel:Nat} {cs:List Value} {xs:List (DataW H × List MemPlace)} (hl:cs.length=o+m)
  (hx:∀ (i:Nat) (f:Field),fs[i]?=some f→∃ x,DataW.trod enc P w 0 (fun _=>true) true fuel f.type ((cs.drop f.offset).take (P.cellsOf f.type))=some x):∃ ps,Eb Ss ps∧ps.length=m∧Hf w (cs.drop o) ps:=by
 induction h with
 |nil o=>exact ⟨[],rfl,rfl,by rw [List.drop_of_length_le (by omega)];exact (⟨rfl,fun c hc=>(by cases hc),fun j x v hx=>(by simp at hx)⟩:Hf w [] [])⟩
 |@cons o n m f fs S Ss h1 h2 h3 ih =>
  obtain ⟨x,h4⟩:=hx 0 f rfl
  rw [h2.1,h1] at h4
  obtain ⟨p,g1,g2,g3⟩:=h2.2 h4
  obtain ⟨q,k1,k2,k3⟩:=ih (by omega) (fun i f hf=>hx (i+1) f hf)
  refine ⟨p++q,⟨p,q,rfl,g1,k1⟩,by simp [g2,k2],?_⟩
  have:cs.drop o=(cs.drop o).take n++cs.drop (o+n):=by rw [← List.drop_drop,List.take_append_drop]
  rw [this]
  exact g3.append k3
theorem eH.struct {fs:Array Field} {Ss:List (List PV→Prop)} (ht:P.underlying t=some (.struct fs)) (hf:Hg P 0 fs.toList Ss n) (hc:P.cellsOf t=n):eH P t n (Eb Ss):=⟨hc,fun {H enc w fuel cs x} h=>by
 obtain ⟨xs,m,_,_,hl,hx,hE⟩:=DataW.trod_struct ht h
 obtain ⟨ps,h1,h2,h3⟩:=hf.read (xs:=xs) (enc:=enc) (w:=w) (fuel:=m) (cs:=cs) (by omega) (fun i f hi=>by
  have hi':fs[i]?=some f:=by simpa using hi
  have:=hE i f hi'
  have hil:i<xs.length:=by rw [hx];exact (Array.getElem?_eq_some_iff.1 hi').1
  exact ⟨xs[i],by rw [this,List.getElem?_eq_getElem hil]⟩)
 exact ⟨ps,h1,h2,by simpa using h3⟩⟩
theorem eH.aaF {f0 f1:Field} {n0 n1:Nat} {S0 S1:List PV→Prop} (ht:P.underlying t=some (.struct #[f0,f1])) (h0:eH P f0.type n0 S0) (h1:eH P f1.type n1 S1) (o0:f0.offset=0) (o1:f1.offset=0+n0) (hc:P.cellsOf t=n0+(n1+0)):eH P t (n0+(n1+0)) (Eb [S0,S1]) :=
 eH.struct ht (show Hg P 0 [f0,f1] [S0,S1] (n0+(n1+0)) from .cons o0 h0 (.cons o1 h1 (.nil _))) hc
theorem eH.aaG {f0 f1 f2:Field} {n0 n1 n2:Nat} {S0 S1 S2:List PV→Prop} (ht:P.underlying t=some (.struct #[f0,f1,f2])) (h0:eH P f0.type n0 S0) (h1:eH P f1.type n1 S1) (h2:eH P f2.type n2 S2) (o0:f0.offset=0) (o1:f1.offset=0+n0) (o2:f2.offset=0+n0+n1) (hc:P.cellsOf t=n0+(n1+(n2+0))):eH P t (n0+(n1+(n2+0))) (Eb [S0,S1,S2]) :=
 eH.struct ht (show Hg P 0 [f0,f1,f2] [S0,S1,S2] (n0+(n1+(n2+0))) from .cons o0 h0 (.cons o1 h1 (.cons o2 h2 (.nil _)))) hc
theorem eH.aaH {f0 f1 f2 f3:Field} {n0 n1 n2 n3:Nat} {S0 S1 S2 S3:List PV→Prop} (ht:P.underlying t=some (.struct #[f0,f1,f2,f3])) (h0:eH P f0.type n0 S0) (h1:eH P f1.type n1 S1) (h2:eH P f2.type n2 S2) (h3:eH P f3.type n3 S3) (o0:f0.offset=0) (o1:f1.offset=0+n0) (o2:f2.offset=0+n0+n1) (o3:f3.offset=0+n0+n1+n2) (hc:P.cellsOf t=n0+(n1+(n2+(n3+0)))):eH P t (n0+(n1+(n2+(n3+0)))) (Eb [S0,S1,S2,S3]) :=
 eH.struct ht (show Hg P 0 [f0,f1,f2,f3] [S0,S1,S2,S3] (n0+(n1+(n2+(n3+0)))) from .cons o0 h0 (.cons o1 h1 (.cons o2 h2 (.cons o3 h3 (.nil _))))) hc
theorem QS {H:Type} {enc:TypeId × Value→H} {w:World} {v:Value} {d:DataW H} {p:List MemPlace} (hr:eH P t 1 S) (hone:v.cells.toList=[v]) (h:DataW.Trod enc P w 0 (fun _=>true) true t v d p) :
  ∃ q,S [q]∧ay (fun b=>b<w.heap.size) w q v:=by
 obtain ⟨fuel,hf⟩:=h
 obtain ⟨ps,h1,h2,h3,h4,h5⟩:=hr.2 hf
 match ps,h2 with
 |[q],_=>exact ⟨q,h1,h5 0 q v rfl (by rw [hone];rfl)⟩
theorem Tq {H:Type} {enc:TypeId × Value→H} {w:World} {v:Value} {d:DataW H} {p:List MemPlace} {m:Reach} {base:Nat} (ht:P.underlying t=some (.slice e)) (hr:eH P t 1 S) (hv:Value.okWide P w m base t v) (h:DataW.Trod enc P w 0 (fun _=>true) true t v d p) :
  ∃ q,S [q]∧ay (fun b=>b<w.heap.size) w q v:=by
 obtain ⟨a,l,c,rfl⟩:=okWide_slice ht hv
 exact QS hr rfl h
theorem QT {H:Type} {enc:TypeId × Value→H} {w:World} {v:Value} {d:DataW H} {p:List MemPlace} {m:Reach} {base:Nat} (ht:P.underlying t=some (.int k)) (hr:eH P t 1 S) (hv:Value.okWide P w m base t v) (h:DataW.Trod enc P w 0 (fun _=>true) true t v d p) :
  ∃ q,S [q]∧ay (fun b=>b<w.heap.size) w q v:=by
 have:v.cells.toList=[v]:=by
  simp only [Value.okWide,ht,Cell.okWide] at hv
  cases v<;>simp_all [Cell.ok,Value.cells]
 exact QS hr this h
end
end Go.Proofs.YtaaokejjmdbfaaaDoor

namespace Go.Proofs.YtaaokejjmdbfaaaDoor
open Go.RowKit
end Go.Proofs.YtaaokejjmdbfaaaDoor

namespace Go.Proofs.YtaaokejjmdbfaaaDoor
open Go.RowKit
def aaI (l:List fV) (s:Nat) (d:List fV):List fV:=l.take s++d++l.drop (s+d.length)
def aiJ (im:List (List fV)) (x:Wr):List (List fV):=im.set x.1.toNat (aaI (im.getD x.1.toNat []) x.2.1.toNat x.2.2)
def agf (sz:List Int) (x:Wr):Int:=adh sz x.1 x.2.1 x.2.2.length
def xQ (sz:List Int):List Wr→Nat→Int × Int
 |[],_=>(0,0)
 |x :: l,i=>if agf sz x≠0 then (i,agf sz x) else xQ sz l (i+1)
def KX (im:List (List fV)) (l:List Wr):List (List fV):=if Gl im≠0 then [] else afM (xQ (lens im) l 0).2 (l.foldl aiJ im)
def KY (im:List (List fV)) (l:List Wr):Int:=if Gl im≠0 then 0 else (xQ (lens im) l 0).1
def Hl (im:List (List fV)) (l:List Wr):Int:=if Gl im≠0 then Gl im else (xQ (lens im) l 0).2
def KZ (w:World) (im:List (List fV)) (l:List Wr):Ending→World→Prop:=fun e w' =>
 ∃ a n c,e=.returned (.tuple #[.slice a n c,.int .i64 (KY im l),.int .i64 (Hl im l)])∧Sl zi (w.heap.size≤·) w' a n c (KX im l)∧(a=none∨Hl im l=0)∧Below w.heap.size w w'
theorem KZ.mk {w w':World} {im:List (List fV)} {l:List Wr} {a:Option Addr} {n c:Nat} {i e:Int} (hi:i=KY im l) (he:e=Hl im l) (h:Sl zi (w.heap.size≤·) w' a n c (KX im l)) (hz:a=none∨Hl im l=0) (hB:Below w.heap.size w w') :
  KZ w im l (.returned (.tuple #[.slice a n c,.int .i64 i,.int .i64 e])) w':=⟨a,n,c,by rw [hi,he],h,hz,hB⟩
end Go.Proofs.YtaaokejjmdbfaaaDoor

namespace Go.Proofs.YtaaokejjmdbfaaaDoor
open Go.RowKit V
theorem OL {w:World} {b o:Nat} {u:Value} (h:w.cell? ⟨b,o,none⟩=some u):dD w b:=by
 unfold World.cell? at h
 simp only at h
 split at h
 ·rename_i e;exact ⟨_,_,_,e⟩
 ·cases h
theorem BR {α:Type} {r:Rep α} {enc:α→PV} {ok:Nat→Prop} {w:World} {l:List α} {sz:Nat} {v:Value} (hsz:sz=r.sz) (hc:∀ x,(enc x).cells.length=r.sz)
  (hr:∀ x∈l,∀ (cs:List Value),cs.length=r.sz→(∀ (j:Nat) p u,(enc x).cells[j]?=some p→cs[j]?=some u→ay ok w p u)→r.rd ok w cs x) (h:ay ok w (.list sz (l.map enc)) v):∃ a n c,v=.slice a n c∧Sl r ok w a n c l:=by
 generalize he:l.map enc=es at h
 cases h with
 |nil _ a =>
  have:l=[]:=by simpa using he
  subst this
  exact ⟨a,0,0,rfl,⟨rfl,Nat.le_refl _,Nat.zero_le _,fun _=>rfl,.inl rfl⟩⟩
 |list _ _ b off c cv h1 h2 h3 h4 h6 h7 h8 =>
  subst hsz he
  refine ⟨_,_,c,rfl,⟨by simp,h3,h4,(fun e=>by cases e),.inr ⟨b,off,rfl,h1,h2.lt,fun i x hx=>?_⟩⟩⟩
  have hi:(l.map enc)[i]?=some (enc x):=by simp [hx]
  refine ⟨(List.range r.sz).map (cv i),fun j hj=>?_,hr x (List.mem_of_getElem? hx) _ (by simp) fun j p u hp hu=>?_⟩
  ·have hj':j<(enc x).cells.length:=by rw [hc];exact hj
   rw [(h7 i _ j _ hi (List.getElem?_eq_getElem hj')).1]
   simp [hj]
  ·have hj:j<r.sz:=by have:=(List.getElem?_eq_some_iff.1 hp).1;rw [hc] at this;exact this
   have:u=cv i j:=by simp [hj] at hu;exact hu.symm
   rw [this]
   exact h8 i _ j _ hi hp
theorem BU {α:Type} {r:Rep α} {enc:α→PV} {ok ok':Nat→Prop} {w:World} {l:List α} {a:Option Addr} {n c:Nat} (hk:∀ b,ok b→b<w.heap.size→ok' b) (hp0:0<r.sz) (hc:∀ x,(enc x).cells.length=r.sz)
  (hr:∀ x∈l,∀ (cs:List Value),cs.length=r.sz→r.rd ok w cs x→∀ (j:Nat) p u,(enc x).cells[j]?=some p→cs[j]?=some u→u.oneCell'=true∧ay ok' w p u) (hz:l=[]→c=0) (h:Sl r ok w a n c l):ay ok' w (.list r.sz (l.map enc)) (.slice a n c):=by
 obtain ⟨h1,h2,h3,h4,h5⟩:=h
 by_cases hl:l=[]
 ·have:=hz hl
  subst hl
  have:n=0:=by simpa using h1.symm
  subst this
  have:c=0:=by omega
  subst this
  exact .nil _ _
 ·rcases h5 with h5|⟨b,off,rfl,hb,hlt,h6⟩
  ·exact absurd (List.eq_nil_of_length_eq_zero (by omega)) hl
  ·have hn:n=(l.map enc).length:=by simp [h1]
   rw [hn]
   have key:∀ (i:Nat) (x:α) (j:Nat) (p:PV),l[i]?=some x→(enc x).cells[j]?=some p→∃ u,w.cell? ⟨b,off+i * r.sz+j,none⟩=some u∧u.oneCell'=true∧ay ok' w p u:=by
    intro i x j p hx hp
    obtain ⟨cs,g1,g2⟩:=h6 i x hx
    have hj:j<r.sz:=by have:=(List.getElem?_eq_some_iff.1 hp).1;rw [hc] at this;exact this
    have hl2:=r.len g2
    have hu:cs[j]?=some (cs[j]'(by omega)):=List.getElem?_eq_getElem (by omega)
    obtain ⟨k1,k2⟩:=hr x (List.mem_of_getElem? hx) cs hl2 g2 j p _ hp hu
    exact ⟨_,by rw [g1 j hj,hu],k1,k2⟩
   have get:∀ {i:Nat} {e:PV},(l.map enc)[i]?=some e→∃ x,l[i]?=some x∧e=enc x:=by
    intro i e he
    rw [List.getElem?_map] at he
    cases hx:l[i]? with
    |none=>rw [hx] at he;cases he
    |some x=>rw [hx] at he;cases he;exact ⟨x,rfl,rfl⟩
   have hce:dD w b:=by
    cases l with
    |nil=>exact absurd rfl hl
    |cons x l =>
     have hj:0<(enc x).cells.length:=by rw [hc];exact hp0
     obtain ⟨u,k1,_⟩:=key 0 x 0 _ rfl (List.getElem?_eq_getElem hj)
     exact OL k1
   refine .list _ _ b off c (fun i j=>(w.cell? ⟨b,off+i * r.sz+j,none⟩).getD undef) (hk b hb hlt) hce (by simp;omega) h3 (fun e he=>?_) (fun i e j x hi hj=>?_) fun i e j x hi hj=>?_
   ·obtain ⟨x,_,rfl⟩:=List.mem_map.1 he;exact hc x
   ·obtain ⟨x',hx,rfl⟩:=get hi
    obtain ⟨u,k1,k2,k3⟩:=key i x' j x hx hj
    rw [k1];exact ⟨rfl,k2⟩
   ·obtain ⟨x',hx,rfl⟩:=get hi
    obtain ⟨u,k1,k2,k3⟩:=key i x' j x hx hj
    rw [k1];exact k3
theorem Ho {ok:Nat→Prop} {w:World} {l:List fV} {v:Value} (h:ay ok w (cO l) v):∃ a n c,v=.slice a n c∧Sl pR ok w a n c l:=by
 refine BR (r:=pR) (enc:=lJ) rfl (fun x=>ji x) (fun x _ cs hl hcs=>?_) h
 show cs=aV x
 refine List.ext_getElem? fun j=>?_
 by_cases hj:j<8
 ·have h1:cs[j]?=some (cs[j]'(by rw [hl];exact hj)):=List.getElem?_eq_getElem _
  have h2:(lJ x).cells[j]?=some (.int .u8 ((x.toList[j]'(by simpa using hj)).toNat:Int)):=by
   show (nM x)[j]?=_
   have hj':j<x.toList.length:=by simpa using hj
   simp only [nM,List.getElem?_map,List.getElem?_eq_getElem hj',Option.map_some]
  have:=(hcs j _ _ h2 h1).bV
  have hj':j<x.toList.length:=by simpa using hj
  rw [h1,this]
  simp only [aV,List.getElem?_map,List.getElem?_eq_getElem hj',Option.map_some]
 ·have e1:cs.length=8:=hl
  rw [List.getElem?_eq_none (by omega),List.getElem?_eq_none (by rw [dY];omega)]
theorem WT {ok:Nat→Prop} {w:World} {l:List (List fV)} {v:Value} (h:ay ok w (.list 1 (l.map cO)) v):∃ a n c,v=.slice a n c∧Sl zi ok w a n c l:=by
 refine BR (r:=zi) (enc:=cO) rfl (fun x=>rfl) (fun x _ cs hl hcs=>?_) h
 match cs,hl with
 |[u],_ =>
  obtain ⟨a,n,c,rfl,hs⟩:=Ho (hcs 0 _ u rfl rfl)
  exact ⟨a,n,c,rfl,hs⟩
end Go.Proofs.YtaaokejjmdbfaaaDoor
