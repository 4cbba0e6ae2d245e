/-
  Part 5 of the texts that the statement stands on.
-/
import Derived.Test.YtioijcfcehhmdaaGreatDoorZ4
import Derived.Lib.TrailingZeros
set_option linter.all false
namespace Go.Proofs.YtioijcfcehhmdaaGreatDoor
noncomputable def iter (env:Env) (f:Nat) (caps:List PV) (stop:Option Nat):Option (List (List PV)):=iterRes (den env) env f caps stop
def ystart (n:Nat) (caps:List PV) (stop:Option Nat):St:=⟨.yld :: (caps.map .pv++List.replicate (n - (caps.length+1)) .any),[],[],some stop⟩
def yfin:Ex × St→Option (List (List PV))
 |(.exit _,_)=>none
 |(.thr _ _,_)=>none
 |(_,st)=>some st.ys
section
variable {env:Env}
theorem yfin_normal (st:St):yfin (.normal,st)=some st.ys:=(rfl)
theorem yfin_ret (st:St):yfin (.ret,st)=some st.ys:=(rfl)
theorem iter_code {f:Nat} {fn:VFn} {caps:List PV} {stop:Option Nat} (h:env f=some (.code fn)) (hl:caps.length+1=fn.nargs) (hr:fn.results.isEmpty=true):iter env f caps stop=(den env fn.body (ystart fn.ntmps caps stop)).bind yfin:=by
 unfold iter iterRes
 rw [h]
 simp only [if_pos (And.intro hl hr)]
 show (den env fn.body _).bind _=_
 congr 1
 funext ⟨e,st⟩
 cases e<;>rfl
noncomputable def round1 (env:Env) (slots:List AV) (ps:List Nat) (assign body:VCode) (nb:Nat) (x:List PV) (st:St):Option (Ex × St) :=
 (setParams slots ps x).bind fun sl=>(den env assign { st with slots:=sl }).bind fun p=>match p with
  |(.normal,st)=>(den env body st).bind fun p=>match p with
   |(.normal,st)=>if nb≤st.boxes.length then some (.normal,{ st with boxes:=st.boxes.take nb }) else none
   |(.thr _ _,_)=>none
   |p=>some p
  |_=>none
theorem rounds_cons {slots:List AV} {ps:List Nat} {assign body:VCode} {nb k:Nat} {x:List PV} {xs:List (List PV)} {st:St} :
  rounds (den env) slots ps assign body nb k (x :: xs) st=(round1 env slots ps assign body nb x st).bind fun p=>match p with
   |(.normal,st)=>rounds (den env) slots ps assign body nb (k+1) xs st
   |(e,st)=>some (some (e,k+1),st):=by
 conv=>lhs;unfold rounds
 unfold round1
 show (setParams slots ps x).bind _=_
 cases setParams slots ps x with
 |none=>rfl
 |some sl =>
  simp only [Option.bind_some]
  show (den env assign _).bind _=_
  cases den env assign { st with slots:=sl } with
  |none=>rfl
  |some p =>
   obtain ⟨e,s⟩:=p
   simp only [Option.bind_some]
   cases e with
   |normal =>
    simp only
    show (den env body _).bind _=_
    cases den env body s with
    |none=>rfl
    |some p =>
     obtain ⟨e,s⟩:=p
     simp only [Option.bind_some]
     cases e with
     |normal =>
      simp only
      split<;>rfl
     |exit i=>rfl
     |ret=>rfl
     |thr t n=>rfl
   |exit i=>rfl
   |ret=>rfl
   |thr t n=>rfl
theorem rng_all {g:Opd} {ps:List Nat} {assign body:VCode} {st st1:St} {f:Nat} {caps:List PV} {xs:List (List PV)} (hg:st.pvOf g=some (.func f caps)) (hi:iter env f caps none=some xs)
  (hr:rounds (den env) (st.slots.map AV.froze) ps assign body st.boxes.length 0 xs { st with slots:=st.slots.map AV.froze }=some (none,st1)):den env (.rng g ps assign body) st=some (.normal,{ st1 with slots:=st.slots.map AV.froze }):=by
 rw [den_eq]
 show ranged (den env) env g ps assign body st=_
 unfold ranged
 rw [hg]
 unfold iter at hi
 simp only [z_bind_eq,Option.bind_some,hi,hr]
theorem rng_idx (B:Nat→List Box) {g:Opd} {ps:List Nat} {assign body:VCode} {st:St} {f:Nat} {caps:List PV} {xs:List (List PV)} (hg:st.pvOf g=some (.func f caps)) (hi:iter env f caps none=some xs) (hB:st.boxes=B 0)
  (h:∀ j x,xs[j]?=some x→∀ sl0,∃ sl1,round1 env (st.slots.map AV.froze) ps assign body st.boxes.length x ⟨sl0,B j,st.ys,st.stop⟩=some (.normal,⟨sl1,B (j+1),st.ys,st.stop⟩)) :
  den env (.rng g ps assign body) st=some (.normal,⟨st.slots.map AV.froze,B xs.length,st.ys,st.stop⟩):=by
 have key:∀ (l:List (List PV)) (j:Nat),xs.drop j=l→∀ (k:Nat) (sl0:List AV),∃ sl1,rounds (den env) (st.slots.map AV.froze) ps assign body st.boxes.length k l ⟨sl0,B j,st.ys,st.stop⟩=some (none,⟨sl1,B (j+l.length),st.ys,st.stop⟩):=by
  intro l
  induction l with
  |nil=>intro j _ k sl0;exact ⟨sl0,rfl⟩
  |cons x l ih =>
   intro j hj k sl0
   have hx:xs[j]?=some x:=by rw [← List.head?_drop,hj];rfl
   have hd:xs.drop (j+1)=l:=by rw [← List.drop_drop,hj];rfl
   obtain ⟨sl1,q⟩:=h j x hx sl0
   obtain ⟨sl2,q2⟩:=ih (j+1) hd (k+1) sl1
   refine ⟨sl2,?_⟩
   rw [rounds_cons,q]
   simp only [Option.bind_some,q2,List.length_cons]
   rw [show j+1+l.length=j+(l.length+1) by omega]
 obtain ⟨sl1,q⟩:=key xs 0 (by simp) 0 (st.slots.map AV.froze)
 rw [← hB,Nat.zero_add] at q
 have r:=rng_all hg hi q
 exact r
theorem clean_upP {keep post:List Nat} {id nb:Nat} {b:VCode} (n:Nat) (P:Nat→Prop) (S:Nat→St) (R:Nat→Option (Ex × St)) {st:St} (h:st.head keep st.boxes.length=some (S 0)) (hP:P 0) (hS:∀ i,(S i).boxes.length=nb) (hh:∀ i,(S i).head keep nb=some (S i))
  (step:∀ i rb,i<n→P i→(P (i+1)→∀ s,s.head keep nb=some (S (i+1))→tailOf env id post nb (den env rb s)=R (i+1))→tailOf env id post nb ((den env b (S i)).bind (next env rb))=R i)
  (last:∀ rb,P n→tailOf env id post nb ((den env b (S n)).bind (next env rb))=R n) :
  den env (.clean keep post (.block id (.loop keep b))) st=R 0:=by
 refine clean_rec S R (fun i=>i≤n∧P i) (fun i=>n - i) 0 h ⟨Nat.zero_le _,hP⟩ hS hh fun i rb hi ih=>?_
 by_cases hn:i=n
 ·subst hn;exact last rb hi.2
 ·exact step i rb (by omega) hi.2 fun hp s hs=>ih (i+1) (by omega) ⟨by omega,hp⟩ s hs
noncomputable def rassign (env:Env) (body:VCode) (nb:Nat):Ex × St→Option (Ex × St)
 |(.normal,st)=>(den env body st).bind fun p=>match p with
  |(.normal,st)=>if nb≤st.boxes.length then some (.normal,{ st with boxes:=st.boxes.take nb }) else none
  |(.thr _ _,_)=>none
  |p=>some p
 |_=>none
def rend (nb:Nat):Ex × St→Option (Ex × St)
 |(.normal,st)=>if nb≤st.boxes.length then some (.normal,{ st with boxes:=st.boxes.take nb }) else none
 |(.thr _ _,_)=>none
 |p=>some p
theorem round1_eq (slots:List AV) (ps:List Nat) (assign body:VCode) (nb:Nat) (x:List PV) (st:St):round1 env slots ps assign body nb x st=(setParams slots ps x).bind fun sl=>(den env assign { st with slots:=sl }).bind (rassign env body nb):=by
 unfold round1
 rfl
theorem rassign_normal (body:VCode) (nb:Nat) (st:St):rassign env body nb (.normal,st)=(den env body st).bind (rend nb):=by
 rfl
theorem rend_normal (nb:Nat) (st:St):rend nb (.normal,st)=if nb≤st.boxes.length then some (.normal,{ st with boxes:=st.boxes.take nb }) else none:=(rfl)
theorem rend_exit (nb i:Nat) (st:St):rend nb (.exit i,st)=some (.exit i,st):=(rfl)
theorem rend_ret (nb:Nat) (st:St):rend nb (.ret,st)=some (.ret,st):=(rfl)
theorem setP_nil (slots:List AV):setParams slots [] []=some slots:=(rfl)
theorem setP_cons (slots:List AV) (p:Nat) (ps:List Nat) (v:PV) (vs:List PV):setParams slots (p :: ps) (v :: vs)=setParams (slots.set p (.pv v)) ps vs:=(rfl)
theorem froze_pv (v:PV):AV.froze (.pv v)=.pv v:=(rfl)
theorem froze_row (sz:Nat) (es:List PV):AV.froze (.row sz es)=.pv (.list sz es):=(rfl)
theorem froze_any:AV.froze .any=.any:=(rfl)
theorem froze_tup (k:Bool) (l:List AV):AV.froze (.tup k l)=.any:=(rfl)
theorem froze_ref (r:Root) (i j:Nat):AV.froze (.ref r i j)=.any:=(rfl)
theorem froze_pel (r:Root) (i j:Nat):AV.froze (.pel r i j)=.any:=(rfl)
theorem froze_pbox (i j:Nat):AV.froze (.pbox i j)=.pbox i j:=(rfl)
theorem froze_fn (f:Nat) (l:List AV):AV.froze (.fn f l)=.fn f l:=(rfl)
theorem froze_yld:AV.froze .yld=.yld:=(rfl)
end
def vRng:=And.intro @round1_eq (And.intro @rassign_normal (And.intro @rend_normal (And.intro @rend_exit (And.intro @rend_ret (And.intro @setP_nil (And.intro @setP_cons (And.intro @froze_pv (And.intro @froze_row (And.intro @froze_any (And.intro @froze_tup (And.intro @froze_ref (And.intro @froze_pel (And.intro @froze_pbox (And.intro @froze_fn (And.intro @froze_yld (And.intro @yfin_normal @yfin_ret))))))))))))))))
end Go.Proofs.YtioijcfcehhmdaaGreatDoor

namespace Go.Proofs.YtioijcfcehhmdaaGreatDoor.V
structure Spn where
 epoch:Int
 fr:Int
 to:Int
 deriving DecidableEq
def eSpn (x:Spn):PV:=.agg [.int .i64 x.epoch,.int .i64 x.fr,.int .i64 x.to]
def bSpn (x:Spn):List BV:=[.pv (.int .i64 x.epoch),.pv (.int .i64 x.fr),.pv (.int .i64 x.to)]
def okNext (p x:Spn):Bool:=decide (x.fr=p.to+1)&&(decide (x.fr≤x.to)&&(decide (x.to≤1073741824)&&(decide (x.epoch≤1073741824)&&decide (p.epoch<x.epoch))))
def z0:Spn:=⟨0,0,0⟩
def linGo:Spn→List Spn→Bool
 |_,[]=>true
 |p,x :: l=>okNext p x&&linGo x l
def linOk (l:List Spn):Bool:=linGo z0 l
def lastOf (l:List Spn) (j:Nat):Spn:=if j=0 then z0 else l.getD (j - 1) z0
def fineS (p:Spn):Prop:=0≤p.epoch∧p.epoch≤1073741824∧0≤p.to∧p.to≤1073741824
theorem lastOf_succ {l:List Spn} {i:Nat} (h:i<l.length):lastOf l (i+1)=l[i]:=by
 simp [lastOf,List.getD_eq_getElem?_getD,List.getElem?_eq_getElem h]
theorem okNext_fine {p x:Spn} (h:okNext p x=true) (hp:fineS p):fineS x∧x.fr=p.to+1∧x.fr≤x.to∧p.epoch<x.epoch:=by
 simp only [okNext,Bool.and_eq_true,decide_eq_true_eq] at h
 unfold fineS at *
 omega
def linRes (p:Spn):List Spn→Bool × Spn
 |[]=>(true,p)
 |x :: r=>if okNext p x=true then linRes x r else (false,p)
theorem linRes_go:∀ (l:List Spn) (p:Spn),(linRes p l).1=linGo p l
 |[],_=>rfl
 |x :: l,p=>by
  unfold linRes linGo
  by_cases h:okNext p x=true
  ·simp only [h,if_true,Bool.true_and];exact linRes_go l x
  ·simp only [h,if_false,Bool.not_eq_true] at *;simp [h]
theorem cal92 {n low:Int}:cal env 92 [.int .i64 n,.int .i64 low]=some [(.bool (decide (n ≥ low)&&decide (n≤1073741824)),false)]:=by
 rw [cal_code env92 rfl];simp only [fn92];simp only [start,z_map_cons,z_map_nil,z_len_cons,z_len_nil,z_repl_zero,z_repl_succ,z_cons_app,z_nil_app,Nat.reduceAdd,Nat.reduceSub]
 by_cases h:n ≥ low
 ·have G:(n ≥ low)=True:=eq_true h
  simp only [G,memAll,vAll,reduceCtorEq,Nat.reduceEqDiff,Nat.reduceAdd,Nat.reduceLT,Nat.reduceLeDiff,Nat.beq]
 ·have G:(n ≥ low)=False:=eq_false h
  simp only [G,memAll,vAll,reduceCtorEq,Nat.reduceEqDiff,Nat.reduceAdd,Nat.reduceLT,Nat.reduceLeDiff,Nat.beq]
theorem loop93 {l:List Spn} (hl:l.length≤lim)
  {st:St} (h:st.head [0,3,7,8,9] st.boxes.length=some ⟨[.pv (.list 3 (l.map eSpn)),.any,.any,.pbox 0 0,.any,.any,.any,.pv (.list 3 (l.map eSpn)),.pv (.int .i64 l.length),.pv (.int .i64 (0:Nat)),.any,.any,.any,.any,.any,.any,.any,.any,.any,.any,.any,.any,.any,.any,.any,.any,.any,.any,.any,.any,.any,.any,.any,.any,.any,.any,.any,.any,.any,.any,.any,.any,.any,.any,.any,.any],[⟨false,bSpn z0⟩],[],none⟩) :
  den env fn93_l1 st=match linRes z0 l with
   |(true,p)=>some (.normal,⟨[.any,.any,.any,.any,.any,.any,.any,.any,.any,.any,.any,.any,.any,.any,.any,.any,.any,.any,.any,.any,.any,.any,.any,.any,.any,.any,.any,.any,.any,.any,.any,.any,.any,.any,.any,.any,.any,.any,.any,.any,.any,.any,.any,.any,.any,.any],[⟨false,bSpn p⟩],[],none⟩)
   |(false,p)=>some (.ret,⟨[.any,.any,.pv (.bool false),.any,.any,.any,.any,.any,.any,.any,.any,.any,.any,.any,.any,.any,.any,.any,.any,.any,.any,.any,.any,.any,.any,.any,.any,.any,.any,.any,.any,.any,.any,.any,.any,.any,.any,.any,.any,.any,.any,.any,.any,.any,.any,.any],[⟨false,bSpn p⟩],[],none⟩):=by
 unfold fn93_l1
 refine clean_upP (env:=env) l.length (fun i=>fineS (lastOf l i)) (fun i=>⟨[.pv (.list 3 (l.map eSpn)),.any,.any,.pbox 0 0,.any,.any,.any,.pv (.list 3 (l.map eSpn)),.pv (.int .i64 l.length),.pv (.int .i64 i),.any,.any,.any,.any,.any,.any,.any,.any,.any,.any,.any,.any,.any,.any,.any,.any,.any,.any,.any,.any,.any,.any,.any,.any,.any,.any,.any,.any,.any,.any,.any,.any,.any,.any,.any,.any],[⟨false,bSpn (lastOf l i)⟩],[],none⟩)
  (fun i=>match linRes (lastOf l i) (l.drop i) with
   |(true,p)=>some (.normal,⟨[.any,.any,.any,.any,.any,.any,.any,.any,.any,.any,.any,.any,.any,.any,.any,.any,.any,.any,.any,.any,.any,.any,.any,.any,.any,.any,.any,.any,.any,.any,.any,.any,.any,.any,.any,.any,.any,.any,.any,.any,.any,.any,.any,.any,.any,.any],[⟨false,bSpn p⟩],[],none⟩)
   |(false,p)=>some (.ret,⟨[.any,.any,.pv (.bool false),.any,.any,.any,.any,.any,.any,.any,.any,.any,.any,.any,.any,.any,.any,.any,.any,.any,.any,.any,.any,.any,.any,.any,.any,.any,.any,.any,.any,.any,.any,.any,.any,.any,.any,.any,.any,.any,.any,.any,.any,.any,.any,.any],[⟨false,bSpn p⟩],[],none⟩)) h (by simp [lastOf,fineS,z0]) (fun _=>rfl) (fun _=>rfl) ?_ ?_
 ·intro i rb hi hf ih
  have hi1:=i64_next hi hl
  have F1:((i:Int)<(l.length:Int))=True:=eq_true (by omega)
  have hk:l[i]?=some l[i]:=List.getElem?_eq_getElem hi
  rw [lastOf_succ hi] at ih
  rw [List.drop_eq_getElem_cons hi]
  unfold linRes
  generalize lastOf l i=p at *
  generalize l[i]=x at *
  obtain ⟨pe,pf,pt⟩:=p
  obtain ⟨xe,xf,xt⟩:=x
  have hf':=hf
  simp only [fineS] at hf
  have F2:IntKind.i64.wrap (pt+1)=pt+1:=i64_fits (by omega)
  by_cases c1:xf=pt+1
  rotate_left
  ·have G1:(xf != pt+1)=true:=by simpa using c1
   have hn:okNext ⟨pe,pf,pt⟩ ⟨xe,xf,xt⟩=false:=by simp [okNext,c1]
   simp only [G1,fn93_b0,F1,F2,hk,bSpn,eSpn,index_nat hi,List.getElem?_map,Option.map_some,memAll,vAll,reduceCtorEq,Nat.reduceEqDiff,Nat.reduceAdd,Nat.reduceLT,Nat.reduceLeDiff,Nat.beq]
   simp only [hn]
   rfl
  have G1:(xf != pt+1)=false:=by simpa using c1
  by_cases c2:xt<xf
  ·have G2:(xt<xf)=True:=eq_true c2
   have hn:okNext ⟨pe,pf,pt⟩ ⟨xe,xf,xt⟩=false:=by simp [okNext];omega
   simp only [G1,G2,fn93_b0,F1,F2,hk,bSpn,eSpn,index_nat hi,List.getElem?_map,Option.map_some,memAll,vAll,reduceCtorEq,Nat.reduceEqDiff,Nat.reduceAdd,Nat.reduceLT,Nat.reduceLeDiff,Nat.beq]
   simp only [hn]
   rfl
  have G2:(xt<xf)=False:=eq_false c2
  by_cases c3:xt > 1073741824
  ·have G3:(xt > 1073741824)=True:=eq_true c3
   have hn:okNext ⟨pe,pf,pt⟩ ⟨xe,xf,xt⟩=false:=by simp [okNext];omega
   simp only [G1,G2,G3,fn93_b0,F1,F2,hk,bSpn,eSpn,index_nat hi,List.getElem?_map,Option.map_some,memAll,vAll,reduceCtorEq,Nat.reduceEqDiff,Nat.reduceAdd,Nat.reduceLT,Nat.reduceLeDiff,Nat.beq]
   simp only [hn]
   rfl
  have G3:(xt > 1073741824)=False:=eq_false c3
  have e1:=cal92 (n:=xe) (low:=1)
  by_cases c4:1≤xe∧xe≤1073741824
  rotate_left
  ·have G4:(decide (xe ≥ 1)&&decide (xe≤1073741824))=false:=by
    rw [← Bool.not_eq_true];simp;omega
   rw [G4] at e1
   have hn:okNext ⟨pe,pf,pt⟩ ⟨xe,xf,xt⟩=false:=by simp [okNext];omega
   simp only [G1,G2,G3,e1,fn93_b0,F1,F2,hk,bSpn,eSpn,index_nat hi,List.getElem?_map,Option.map_some,memAll,vAll,reduceCtorEq,Nat.reduceEqDiff,Nat.reduceAdd,Nat.reduceLT,Nat.reduceLeDiff,Nat.beq]
   simp only [hn]
   rfl
  have G4:(decide (xe ≥ 1)&&decide (xe≤1073741824))=true:=by simp;omega
  rw [G4] at e1
  by_cases c5:xe≤pe
  ·have G5:(xe≤pe)=True:=eq_true c5
   have hn:okNext ⟨pe,pf,pt⟩ ⟨xe,xf,xt⟩=false:=by simp [okNext];omega
   simp only [G1,G2,G3,e1,G5,fn93_b0,F1,F2,hk,bSpn,eSpn,index_nat hi,List.getElem?_map,Option.map_some,memAll,vAll,reduceCtorEq,Nat.reduceEqDiff,Nat.reduceAdd,Nat.reduceLT,Nat.reduceLeDiff,Nat.beq]
   simp only [hn]
   rfl
  have G5:(xe≤pe)=False:=eq_false c5
  have hn:okNext ⟨pe,pf,pt⟩ ⟨xe,xf,xt⟩=true:=by simp [okNext];omega
  have hfx:=(okNext_fine hn hf').1
  simp only [G1,G2,G3,e1,G5,fn93_b0,F1,F2,hk,bSpn,eSpn,index_nat hi,List.getElem?_map,Option.map_some,memAll,vAll,reduceCtorEq,Nat.reduceEqDiff,Nat.reduceAdd,Nat.reduceLT,Nat.reduceLeDiff,Nat.beq]
  rw [ih hfx _ (by simp only [hi1];rfl)]
  simp only [hn,if_true]
  rfl
 ·intro rb hf
  simp only [fn93_b0,Int.lt_irrefl,memAll,vAll,reduceCtorEq,Nat.reduceEqDiff,Nat.reduceAdd,Nat.reduceLT,Nat.reduceLeDiff,Nat.beq]
  rw [List.drop_length]
  rfl
theorem cal93 {l:List Spn} (hl:l.length≤lim):cal env 93 [.list 3 (l.map eSpn)]=some [(.bool (linOk l),false)]:=by
 rw [cal_code env93 rfl];simp only [fn93];simp only [start,z_map_cons,z_map_nil,z_len_cons,z_len_nil,z_repl_zero,z_repl_succ,z_cons_app,z_nil_app,Nat.reduceAdd,Nat.reduceSub]
 simp only [ memAll,vAll,reduceCtorEq,Nat.reduceEqDiff,Nat.reduceAdd,Nat.reduceLT,Nat.reduceLeDiff,Nat.beq]
 rw [loop93 hl]
 rotate_left
 ·rfl
 ·have:=linRes_go l z0
  cases h:linRes z0 l with
  |mk t p =>
   rw [h] at this
   cases t with
   |true=>simp only [linOk,← this,memAll,vAll,reduceCtorEq,Nat.reduceEqDiff,Nat.reduceAdd,Nat.reduceLT,Nat.reduceLeDiff,Nat.beq]
   |false=>simp only [linOk,← this,memAll,vAll,reduceCtorEq,Nat.reduceEqDiff,Nat.reduceAdd,Nat.reduceLT,Nat.reduceLeDiff,Nat.beq]
end Go.Proofs.YtioijcfcehhmdaaGreatDoor.V

namespace Go.Proofs.YtioijcfcehhmdaaGreatDoor.V
end Go.Proofs.YtioijcfcehhmdaaGreatDoor.V

namespace Go.Proofs.YtioijcfcehhmdaaGreatDoor.V
def headOf (l:List Spn):Spn:=lastOf l l.length
end Go.Proofs.YtioijcfcehhmdaaGreatDoor.V

namespace Go.Proofs.YtioijcfcehhmdaaGreatDoor.V
def idxI {α:Type} (p:α→Bool) (l:List α):Int:=if l.any p then (l.findIdx p:Int) else -1
theorem idxI_nonneg {α:Type} (p:α→Bool) (l:List α):decide (idxI p l ≥ 0)=l.any p:=by
 unfold idxI
 cases l.any p
 ·rfl
 ·simp only [if_true];exact decide_eq_true (by omega)
def eqF {α β:Type} (eq:α→β→Bool) (l:List α) (m:List β):Bool:=decide (l.length=m.length)&&(l.zip m).all fun q=>eq q.1 q.2
--+
theorem loop151 {α:Type} {enc:α→PV} {l:List α} {p:α→Bool} {gf:Nat} {caps:List PV} (hp:∀ x∈l,cal env gf (enc x :: caps)=some [(.bool (p x),false)]) (hs:∀ x,part (enc x).cells 0 none=some (enc x)) (hl:l.length≤lim)
  {st:St} (h:st.head [0,1,7,8] st.boxes.length=some ⟨[.pv (.list 1 (l.map enc)),.pv (.func gf caps),.any,.any,.any,.any,.any,.pv (.int .i64 l.length),.pv (.int .i64 (0:Nat)),.any,.any,.any,.any,.any,.any,.any,.any,.any,.any],[],[],none⟩) :
  den env fn151_l1 st=if l.any p then some (.ret,⟨[.any,.any,.any,.any,.pv (.int .i64 (l.findIdx p)),.any,.any,.any,.any,.any,.any,.any,.any,.any,.any,.any,.any,.any,.any],[],[],none⟩) else some (.normal,⟨[.any,.any,.any,.any,.any,.any,.any,.any,.any,.any,.any,.any,.any,.any,.any,.any,.any,.any,.any],[],[],none⟩):=by
 unfold fn151_l1
 rw [clean_up l.length (fun i=>⟨[.pv (.list 1 (l.map enc)),.pv (.func gf caps),.any,.any,.any,.any,.any,.pv (.int .i64 l.length),.pv (.int .i64 i),.any,.any,.any,.any,.any,.any,.any,.any,.any,.any],[],[],none⟩)
  (fun i=>if (l.drop i).any p then some (.ret,⟨[.any,.any,.any,.any,.pv (.int .i64 ((i+(l.drop i).findIdx p:Nat):Int)),.any,.any,.any,.any,.any,.any,.any,.any,.any,.any,.any,.any,.any,.any],[],[],none⟩) else some (.normal,⟨[.any,.any,.any,.any,.any,.any,.any,.any,.any,.any,.any,.any,.any,.any,.any,.any,.any,.any,.any],[],[],none⟩)) h (fun _=>rfl) (fun _=>rfl) ?_ ?_]
 ·simp only [List.drop_zero,Nat.zero_add]
 ·intro i rb hi ih
  have hi1:=i64_next hi hl
  have F1:((i:Int)<(l.length:Int))=True:=eq_true (by omega)
  simp only [fn151_b0,F1,List.length_map,index_nat hi,List.getElem?_map,List.getElem?_eq_getElem hi,hp _ (List.getElem_mem hi),hs,vAll,reduceCtorEq,Nat.reduceEqDiff,Nat.reduceAdd,Nat.reduceLT,Nat.reduceLeDiff,Nat.beq]
  (try simp only [bcase_bind,bcase_map,tail_bcase]);refine bcase_split (fun hb=>?_) (fun hb=>?_)<;>try simp only [hb, memAll,vAll,reduceCtorEq,Nat.reduceEqDiff,Nat.reduceAdd,Nat.reduceLT,Nat.reduceLeDiff,Nat.beq]
  ·rw [List.drop_eq_getElem_cons hi]
   simp only [List.any_cons,hb,Bool.true_or,if_true,List.findIdx_cons,cond_true,Nat.add_zero]
   rfl
  ·rw [ih _ (by simp only [hi1];rfl),List.drop_eq_getElem_cons hi]
   simp only [List.any_cons,hb,Bool.false_or,List.findIdx_cons,cond_false,Nat.add_assoc,Nat.add_comm 1]
 ·intro rb
  simp only [fn151_b0,Int.lt_irrefl,vAll,reduceCtorEq,Nat.reduceEqDiff,Nat.reduceAdd,Nat.reduceLT,Nat.reduceLeDiff,Nat.beq]
  simp only [List.drop_length,List.any_nil,Bool.false_eq_true,if_false]
  rfl
theorem cal151 {α:Type} {enc:α→PV} {l:List α} {p:α→Bool} {gf:Nat} {caps:List PV} (hp:∀ x∈l,cal env gf (enc x :: caps)=some [(.bool (p x),false)]) (hs:∀ x,part (enc x).cells 0 none=some (enc x)) (hl:l.length≤lim) :
  cal env 151 [.list 1 (l.map enc),.func gf caps]=some [(.int .i64 (idxI p l),false)]:=by
 rw [cal_code env151 rfl];simp only [fn151];simp only [start,z_map_cons,z_map_nil,z_len_cons,z_len_nil,z_repl_zero,z_repl_succ,z_cons_app,z_nil_app,Nat.reduceAdd,Nat.reduceSub]
 simp only [List.length_map,vAll,reduceCtorEq,Nat.reduceEqDiff,Nat.reduceAdd,Nat.reduceLT,Nat.reduceLeDiff,Nat.beq]
 rw [loop151 hp hs hl]
 rotate_left
 ·rfl
 ·simp only [idxI]
  split<;>simp only [vAll,reduceCtorEq,Nat.reduceEqDiff,Nat.reduceAdd,Nat.reduceLT,Nat.reduceLeDiff,Nat.beq]
--+
theorem cal129 {α:Type} {enc:α→PV} {l:List α} {p:α→Bool} {gf:Nat} {caps:List PV} (hp:∀ x∈l,cal env gf (enc x :: caps)=some [(.bool (p x),false)]) (hs:∀ x,part (enc x).cells 0 none=some (enc x)) (hl:l.length≤lim) :
  cal env 129 [.list 1 (l.map enc),.func gf caps]=some [(.bool (l.any p),false)]:=by
 rw [cal_code env129 rfl];simp only [fn129];simp only [start,z_map_cons,z_map_nil,z_len_cons,z_len_nil,z_repl_zero,z_repl_succ,z_cons_app,z_nil_app,Nat.reduceAdd,Nat.reduceSub]
 simp only [cal151 hp hs hl,idxI_nonneg,vAll,reduceCtorEq,Nat.reduceEqDiff,Nat.reduceAdd,Nat.reduceLT,Nat.reduceLeDiff,Nat.beq]
--+
theorem loop115 {l m:List Int} (hlm:l.length=m.length) (hl:l.length≤lim)
  {st:St} (h:st.head [0,1,12,13] st.boxes.length=some ⟨[.pv (.list 1 (l.map eI)),.pv (.list 1 (m.map eI)),.any,.any,.any,.any,.any,.any,.any,.any,.any,.any,.pv (.int .i64 l.length),.pv (.int .i64 (0:Nat)),.any,.any,.any,.any,.any,.any,.any,.any,.any,.any,.any,.any],[],[],none⟩) :
  den env fn115_l1 st=if l=m then some (.normal,⟨[.any,.any,.any,.any,.any,.any,.any,.any,.any,.any,.any,.any,.any,.any,.any,.any,.any,.any,.any,.any,.any,.any,.any,.any,.any,.any],[],[],none⟩) else some (.ret,⟨[.any,.any,.any,.any,.pv (.bool false),.any,.any,.any,.any,.any,.any,.any,.any,.any,.any,.any,.any,.any,.any,.any,.any,.any,.any,.any,.any,.any],[],[],none⟩):=by
 unfold fn115_l1
 rw [clean_up l.length (fun i=>⟨[.pv (.list 1 (l.map eI)),.pv (.list 1 (m.map eI)),.any,.any,.any,.any,.any,.any,.any,.any,.any,.any,.pv (.int .i64 l.length),.pv (.int .i64 i),.any,.any,.any,.any,.any,.any,.any,.any,.any,.any,.any,.any],[],[],none⟩)
  (fun i=>if l.drop i=m.drop i then some (.normal,⟨[.any,.any,.any,.any,.any,.any,.any,.any,.any,.any,.any,.any,.any,.any,.any,.any,.any,.any,.any,.any,.any,.any,.any,.any,.any,.any],[],[],none⟩) else some (.ret,⟨[.any,.any,.any,.any,.pv (.bool false),.any,.any,.any,.any,.any,.any,.any,.any,.any,.any,.any,.any,.any,.any,.any,.any,.any,.any,.any,.any,.any],[],[],none⟩)) h (fun _=>rfl) (fun _=>rfl) ?_ ?_]
 ·simp only [List.drop_zero]
 ·intro i rb hi ih
  have hi1:=i64_next hi hl
  have hj:i<m.length:=by omega
  have F1:((i:Int)<(l.length:Int))=True:=eq_true (by omega)
  simp only [fn115_b0,F1,List.length_map,index_nat hi,index_nat hj,List.getElem?_map,List.getElem?_eq_getElem hi,List.getElem?_eq_getElem hj,eI,eSec,eExt,part_sec,secPV_length,eqCells_sec,eqCells,vAll,reduceCtorEq,Nat.reduceEqDiff,Nat.reduceAdd,Nat.reduceLT,Nat.reduceLeDiff,Nat.beq]
  (try simp only [bcase_bind,bcase_map,tail_bcase]);refine bcase_split (fun hb=>?_) (fun hb=>?_)<;>try simp only [hb, memAll,vAll,reduceCtorEq,Nat.reduceEqDiff,Nat.reduceAdd,Nat.reduceLT,Nat.reduceLeDiff,Nat.beq]
  ·rw [ih _ (by simp only [hi1];rfl),List.drop_eq_getElem_cons hi,List.drop_eq_getElem_cons hj]
   have e:l[i]=m[i]:=by
    revert hb
    generalize l[i]=x
    generalize m[i]=y
    first|(intro hb;simpa using hb)|(cases x;cases y;intro hb;simpa using hb)
   simp only [e,List.cons.injEq,true_and]
  ·rw [List.drop_eq_getElem_cons hi,List.drop_eq_getElem_cons hj,if_neg (fun e=>?_)]
   ·rfl
   ·have e:=(List.cons.inj e).1
    rw [e] at hb
    simp at hb
 ·intro rb
  simp only [fn115_b0,Int.lt_irrefl,vAll,reduceCtorEq,Nat.reduceEqDiff,Nat.reduceAdd,Nat.reduceLT,Nat.reduceLeDiff,Nat.beq]
  rw [List.drop_length,hlm,List.drop_length,if_pos rfl]
  rfl
theorem cal115 {l m:List Int} (hl:l.length≤lim) :
  cal env 115 [.list 1 (l.map eI),.list 1 (m.map eI)]=some [(.bool (decide (l=m)),false)]:=by
 rw [cal_code env115 rfl];simp only [fn115];simp only [start,z_map_cons,z_map_nil,z_len_cons,z_len_nil,z_repl_zero,z_repl_succ,z_cons_app,z_nil_app,Nat.reduceAdd,Nat.reduceSub]
 simp only [List.length_map,vAll,reduceCtorEq,Nat.reduceEqDiff,Nat.reduceAdd,Nat.reduceLT,Nat.reduceLeDiff,Nat.beq]
 (try simp only [bcase_bind,bcase_map,tail_bcase]);refine bcase_split (fun hb=>?_) (fun hb=>?_)<;>try simp only [hb, memAll,vAll,reduceCtorEq,Nat.reduceEqDiff,Nat.reduceAdd,Nat.reduceLT,Nat.reduceLeDiff,Nat.beq]
 ·have hlm:l.length=m.length:=by simp at hb;omega
  rw [loop115 hlm hl]
  rotate_left
  ·rfl
  ·by_cases e:l=m
   ·simp only [e,vAll,reduceCtorEq,Nat.reduceEqDiff,Nat.reduceAdd,Nat.reduceLT,Nat.reduceLeDiff,Nat.beq]
   ·simp only [e,vAll,reduceCtorEq,Nat.reduceEqDiff,Nat.reduceAdd,Nat.reduceLT,Nat.reduceLeDiff,Nat.beq]
 ·have:l≠m:=fun e=>by subst e;simp at hb
  simp only [this,vAll,reduceCtorEq,Nat.reduceEqDiff,Nat.reduceAdd,Nat.reduceLT,Nat.reduceLeDiff,Nat.beq]
--+
theorem loop86 {α β:Type} {enc:α→PV} {enc2:β→PV} {eq:α→β→Bool} {l:List α} {m:List β} {gf:Nat} {caps:List PV} (hp:∀ x∈l,∀ y∈m,cal env gf (enc x :: enc2 y :: caps)=some [(.bool (eq x y),false)]) (hs:∀ x,part (enc x).cells 0 none=some (enc x)) (hs2:∀ x,part (enc2 x).cells 0 none=some (enc2 x)) (hlm:l.length=m.length) (hl:l.length≤lim)
  {st:St} (h:st.head [0,1,2,15,16,17] st.boxes.length=some ⟨[.pv (.list 1 (l.map enc)),.pv (.list 1 (m.map enc2)),.pv (.func gf caps),.any,.any,.any,.any,.any,.any,.any,.any,.any,.any,.any,.any,.pv (.list 1 (l.map enc)),.pv (.int .i64 l.length),.pv (.int .i64 (0:Nat)),.any,.any,.any,.any,.any,.any,.any,.any,.any,.any,.any,.any,.any,.any],[],[],none⟩) :
  den env fn86_l1 st=if (l.zip m).all (fun q=>eq q.1 q.2) then some (.normal,⟨[.any,.any,.any,.any,.any,.any,.any,.any,.any,.any,.any,.any,.any,.any,.any,.any,.any,.any,.any,.any,.any,.any,.any,.any,.any,.any,.any,.any,.any,.any,.any,.any],[],[],none⟩) else some (.ret,⟨[.any,.any,.any,.any,.any,.any,.pv (.bool false),.any,.any,.any,.any,.any,.any,.any,.any,.any,.any,.any,.any,.any,.any,.any,.any,.any,.any,.any,.any,.any,.any,.any,.any,.any],[],[],none⟩):=by
 unfold fn86_l1
 rw [clean_up l.length (fun i=>⟨[.pv (.list 1 (l.map enc)),.pv (.list 1 (m.map enc2)),.pv (.func gf caps),.any,.any,.any,.any,.any,.any,.any,.any,.any,.any,.any,.any,.pv (.list 1 (l.map enc)),.pv (.int .i64 l.length),.pv (.int .i64 i),.any,.any,.any,.any,.any,.any,.any,.any,.any,.any,.any,.any,.any,.any],[],[],none⟩)
  (fun i=>if ((l.drop i).zip (m.drop i)).all (fun q=>eq q.1 q.2) then some (.normal,⟨[.any,.any,.any,.any,.any,.any,.any,.any,.any,.any,.any,.any,.any,.any,.any,.any,.any,.any,.any,.any,.any,.any,.any,.any,.any,.any,.any,.any,.any,.any,.any,.any],[],[],none⟩) else some (.ret,⟨[.any,.any,.any,.any,.any,.any,.pv (.bool false),.any,.any,.any,.any,.any,.any,.any,.any,.any,.any,.any,.any,.any,.any,.any,.any,.any,.any,.any,.any,.any,.any,.any,.any,.any],[],[],none⟩)) h (fun _=>rfl) (fun _=>rfl) ?_ ?_]
 ·simp only [List.drop_zero]
 ·intro i rb hi ih
  have hi1:=i64_next hi hl
  have hj:i<m.length:=by omega
  have F1:((i:Int)<(l.length:Int))=True:=eq_true (by omega)
  simp only [fn86_b0,F1,List.length_map,index_nat hi,index_nat hj,List.getElem?_map,List.getElem?_eq_getElem hi,List.getElem?_eq_getElem hj,hs,hs2,hp _ (List.getElem_mem hi) _ (List.getElem_mem hj),vAll,reduceCtorEq,Nat.reduceEqDiff,Nat.reduceAdd,Nat.reduceLT,Nat.reduceLeDiff,Nat.beq]
  (try simp only [bcase_bind,bcase_map,tail_bcase]);refine bcase_split (fun hb=>?_) (fun hb=>?_)<;>try simp only [hb, memAll,vAll,reduceCtorEq,Nat.reduceEqDiff,Nat.reduceAdd,Nat.reduceLT,Nat.reduceLeDiff,Nat.beq]
  ·rw [ih _ (by simp only [hi1];rfl),List.drop_eq_getElem_cons hi,List.drop_eq_getElem_cons hj]
   simp only [List.zip_cons_cons,List.all_cons,hb,Bool.true_and]
  ·rw [List.drop_eq_getElem_cons hi,List.drop_eq_getElem_cons hj]
   simp only [List.zip_cons_cons,List.all_cons,hb,Bool.false_and,Bool.false_eq_true,if_false]
   rfl
 ·intro rb
  simp only [fn86_b0,Int.lt_irrefl,vAll,reduceCtorEq,Nat.reduceEqDiff,Nat.reduceAdd,Nat.reduceLT,Nat.reduceLeDiff,Nat.beq]
  rw [List.drop_length]
  rfl
theorem cal86 {α β:Type} {enc:α→PV} {enc2:β→PV} {eq:α→β→Bool} {l:List α} {m:List β} {gf:Nat} {caps:List PV} (hp:∀ x∈l,∀ y∈m,cal env gf (enc x :: enc2 y :: caps)=some [(.bool (eq x y),false)]) (hs:∀ x,part (enc x).cells 0 none=some (enc x)) (hs2:∀ x,part (enc2 x).cells 0 none=some (enc2 x)) (hl:l.length≤lim) :
  cal env 86 [.list 1 (l.map enc),.list 1 (m.map enc2),.func gf caps]=some [(.bool (eqF eq l m),false)]:=by
 rw [cal_code env86 rfl];simp only [fn86];simp only [start,z_map_cons,z_map_nil,z_len_cons,z_len_nil,z_repl_zero,z_repl_succ,z_cons_app,z_nil_app,Nat.reduceAdd,Nat.reduceSub]
 simp only [List.length_map,vAll,reduceCtorEq,Nat.reduceEqDiff,Nat.reduceAdd,Nat.reduceLT,Nat.reduceLeDiff,Nat.beq]
 (try simp only [bcase_bind,bcase_map,tail_bcase]);refine bcase_split (fun hb=>?_) (fun hb=>?_)<;>try simp only [hb, memAll,vAll,reduceCtorEq,Nat.reduceEqDiff,Nat.reduceAdd,Nat.reduceLT,Nat.reduceLeDiff,Nat.beq]
 ·have hlm:l.length=m.length:=by simp at hb;omega
  rw [loop86 hp hs hs2 hlm hl]
  rotate_left
  ·rfl
  ·simp only [eqF,decide_eq_true hlm,Bool.true_and]
   cases (l.zip m).all (fun q=>eq q.1 q.2)<;>simp only [vAll,reduceCtorEq,Nat.reduceEqDiff,Nat.reduceAdd,Nat.reduceLT,Nat.reduceLeDiff,Nat.beq]
 ·have:¬ l.length=m.length:=fun e=>by rw [e] at hb;simp at hb
  simp only [eqF,decide_eq_false this,vAll,reduceCtorEq,Nat.reduceEqDiff,Nat.reduceAdd,Nat.reduceLT,Nat.reduceLeDiff,Nat.beq]
--+
end Go.Proofs.YtioijcfcehhmdaaGreatDoor.V

namespace Go.Proofs.YtioijcfcehhmdaaGreatDoor.V
def sizesErr (l:List Int):Int:=if l.length<1∨8<l.length then 6 else if l.any (fun n=>decide (n<1) || decide (n > 4096)) then 2 else 0
def imSizes (im:Img):List Int:=im.map fun v=>(v.length:Int)
def imCheck (im:Img):Int:=sizesErr (imSizes im)
theorem take_map_succ {α β:Type} (f:α→β) {l:List α} {i:Nat} (h:i<l.length):(l.take i).map f++[f l[i]]=(l.take (i+1)).map f:=by
 rw [List.take_succ,List.getElem?_eq_getElem h,List.map_append];rfl
theorem loop138 {α:Type} {enc:α→PV} {l:List α} {g:α→Int} {gf:Nat} {caps:List PV} (hp:∀ x∈l,cal env gf (enc x :: caps)=some [(eI (g x),false)]) (hs:∀ x,part (enc x).cells 0 none=some (enc x)) (hs3:∀ x,(enc x).cells.length=1) (hl:l.length≤lim)
  {st:St} (h:st.head [0,1,5,10,11,12,13,22] st.boxes.length=some ⟨[.pv (.list 1 (l.map enc)),.pv (.func gf caps),.any,.any,.any,.row 1 [],.any,.any,.any,.any,.any,.pv (.list 1 (l.map enc)),.pv (.int .i64 l.length),.pv (.int .i64 (0:Nat)),.any,.any,.any,.any,.any,.any,.any,.any,.any,.any,.any],[],[],none⟩) :
  den env fn138_l1 st=some (.normal,⟨[.any,.any,.any,.any,.any,.row 1 (l.map fun x=>eI (g x)),.any,.any,.any,.any,.any,.any,.any,.any,.any,.any,.any,.any,.any,.any,.any,.any,.any,.any,.any],[],[],none⟩):=by
 unfold fn138_l1
 rw [clean_up l.length (fun i=>⟨[.pv (.list 1 (l.map enc)),.pv (.func gf caps),.any,.any,.any,.row 1 ((l.take i).map fun x=>eI (g x)),.any,.any,.any,.any,.any,.pv (.list 1 (l.map enc)),.pv (.int .i64 l.length),.pv (.int .i64 i),.any,.any,.any,.any,.any,.any,.any,.any,.any,.any,.any],[],[],none⟩)
  (fun i=>some (.normal,⟨[.any,.any,.any,.any,.any,.row 1 (l.map fun x=>eI (g x)),.any,.any,.any,.any,.any,.any,.any,.any,.any,.any,.any,.any,.any,.any,.any,.any,.any,.any,.any],[],[],none⟩)) h (fun _=>rfl) (fun _=>rfl) ?_ ?_]
 ·intro i rb hi ih
  have hi1:=i64_next hi hl
  have F1:((i:Int)<(l.length:Int))=True:=eq_true (by omega)
  have F2:((l.take i).length+1≤lim)=True:=eq_true (by rw [List.length_take];omega)
  have hpi:cal env gf (enc l[i] :: caps)=some [((PV.int .i64 (g l[i])),false)]:=hp _ (List.getElem_mem hi)
  try simp only [eExt] at hpi
  simp only [fn138_b0,F1,F2,index_nat hi,List.getElem?_map,List.getElem?_eq_getElem hi, hpi,hs,hs3,memAll,vAll,reduceCtorEq,Nat.reduceEqDiff,Nat.reduceAdd,Nat.reduceLT,Nat.reduceLeDiff,Nat.beq]
  rw [ih _ (by simp only [hi1];rw [← take_map_succ _ hi];rfl)]
 ·intro rb
  simp only [fn138_b0,Int.lt_irrefl,vAll,reduceCtorEq,Nat.reduceEqDiff,Nat.reduceAdd,Nat.reduceLT,Nat.reduceLeDiff,Nat.beq]
  rw [List.take_length]
  rfl
theorem cal138 {α:Type} {enc:α→PV} {l:List α} {g:α→Int} {gf:Nat} {caps:List PV} (hp:∀ x∈l,cal env gf (enc x :: caps)=some [(eI (g x),false)]) (hs:∀ x,part (enc x).cells 0 none=some (enc x)) (hs3:∀ x,(enc x).cells.length=1) (hl:l.length≤lim) :
  cal env 138 [.list 1 (l.map enc),.func gf caps]=some [(.list 1 (l.map fun x=>eI (g x)),true)]:=by
 rw [cal_code env138 rfl];simp only [fn138];simp only [start,z_map_cons,z_map_nil,z_len_cons,z_len_nil,z_repl_zero,z_repl_succ,z_cons_app,z_nil_app,Nat.reduceAdd,Nat.reduceSub]
 have F1:((l.length:Int)≤(lim:Int))=True:=eq_true (by omega)
 have F2:((0:Int)≤(l.length:Int))=True:=eq_true (by omega)
 simp only [F1,F2,Int.le_refl,memAll,vAll,reduceCtorEq,Nat.reduceEqDiff,Nat.reduceAdd,Nat.reduceLT,Nat.reduceLeDiff,Nat.beq]
 rw [loop138 hp hs hs3 hl]
 rotate_left
 ·rfl
 ·simp only [memAll,vAll,reduceCtorEq,Nat.reduceEqDiff,Nat.reduceAdd,Nat.reduceLT,Nat.reduceLeDiff,Nat.beq]
theorem cal148 {x:Int}:cal env 148 [eI x]=some [(.bool (decide (x<1) || decide (x > 4096)),false)]:=by
 unfold eI
 rw [cal_code env148 rfl];simp only [fn148];simp only [start,z_map_cons,z_map_nil,z_len_cons,z_len_nil,z_repl_zero,z_repl_succ,z_cons_app,z_nil_app,Nat.reduceAdd,Nat.reduceSub]
 simp only [ memAll,vAll,reduceCtorEq,Nat.reduceEqDiff,Nat.reduceAdd,Nat.reduceLT,Nat.reduceLeDiff,Nat.beq]
 (try simp only [bcase_bind,bcase_map,tail_bcase]);refine bcase_split (fun hb=>?_) (fun hb=>?_)<;>try simp only [hb, memAll,vAll,reduceCtorEq,Nat.reduceEqDiff,Nat.reduceAdd,Nat.reduceLT,Nat.reduceLeDiff,Nat.beq]
theorem cal124 {l:List Int} (hl:l.length≤lim):cal env 124 [.list 1 (l.map eI)]=some [(.int .i64 (sizesErr l),false)]:=by
 have e1:=cal129 (l:=l) (enc:=eI) (fun x _=>cal148 (x:=x)) (fun x=>rfl) hl
 rw [cal_code env124 rfl];simp only [fn124];simp only [start,z_map_cons,z_map_nil,z_len_cons,z_len_nil,z_repl_zero,z_repl_succ,z_cons_app,z_nil_app,Nat.reduceAdd,Nat.reduceSub]
 simp only [e1,memAll,vAll,reduceCtorEq,Nat.reduceEqDiff,Nat.reduceAdd,Nat.reduceLT,Nat.reduceLeDiff,Nat.beq]
 repeat' ((try simp only [bcase_bind,bcase_map,tail_bcase]);refine bcase_split (fun hb=>?_) (fun hb=>?_)<;>try simp only [hb,e1,memAll,vAll,reduceCtorEq,Nat.reduceEqDiff,Nat.reduceAdd,Nat.reduceLT,Nat.reduceLeDiff,Nat.beq])
 all_goals grind [sizesErr]
theorem cal139 {v:List Sec}:cal env 139 [eSecs v]=some [(eI v.length,false)]:=by
 unfold eSecs eI
 rw [cal_code env139 rfl];simp only [fn139];simp only [start,z_map_cons,z_map_nil,z_len_cons,z_len_nil,z_repl_zero,z_repl_succ,z_cons_app,z_nil_app,Nat.reduceAdd,Nat.reduceSub]
 simp only [ memAll,vAll,reduceCtorEq,Nat.reduceEqDiff,Nat.reduceAdd,Nat.reduceLT,Nat.reduceLeDiff,Nat.beq]
theorem cal116 {im:Img} (hl:im.length≤lim):cal env 116 [.list 1 (im.map eSecs)]=some [(.list 1 ((imSizes im).map eI),true)]:=by
 have e1:=cal138 (enc:=eSecs) (l:=im) (fun x _=>cal139 (v:=x)) (fun x=>rfl) (fun x=>rfl) hl
 rw [cal_code env116 rfl];simp only [fn116];simp only [start,z_map_cons,z_map_nil,z_len_cons,z_len_nil,z_repl_zero,z_repl_succ,z_cons_app,z_nil_app,Nat.reduceAdd,Nat.reduceSub]
 simp only [e1,memAll,vAll,reduceCtorEq,Nat.reduceEqDiff,Nat.reduceAdd,Nat.reduceLT,Nat.reduceLeDiff,Nat.beq]
 simp [imSizes]
theorem cal85 {im:Img} (hl:im.length≤lim):cal env 85 [.list 1 (im.map eSecs)]=some [(.int .i64 (imCheck im),false)]:=by
 have h2:(imSizes im).length≤lim:=by simpa [imSizes] using hl
 have e1:=cal116 hl
 have e2:=cal124 h2
 rw [cal_code env85 rfl];simp only [fn85];simp only [start,z_map_cons,z_map_nil,z_len_cons,z_len_nil,z_repl_zero,z_repl_succ,z_cons_app,z_nil_app,Nat.reduceAdd,Nat.reduceSub]
 simp only [e1,e2,memAll,vAll,reduceCtorEq,Nat.reduceEqDiff,Nat.reduceAdd,Nat.reduceLT,Nat.reduceLeDiff,Nat.beq]
 rfl
end Go.Proofs.YtioijcfcehhmdaaGreatDoor.V

namespace Go.Proofs.YtioijcfcehhmdaaGreatDoor.V
def few7 (im:Img):Bool:=decide (im.length≤9)&&im.all fun v=>decide (v.length≤24)
theorem loop42 {im:Img} (hl:im.length≤lim) {st:St} (h:st.head [0,3] st.boxes.length=some ⟨[.pv (.list 1 (im.map eSecs)),.any,.any,.pv (.int .i64 (0:Nat)),.any,.any,.any,.any,.any,.any,.any,.any,.any,.any,.any,.any,.any,.any,.any],[],[],none⟩) :
  den env fn42_l1 st=if im.all (fun v=>decide (v.length≤24)) then some (.normal,⟨[.any,.any,.any,.any,.any,.any,.any,.any,.any,.any,.any,.any,.any,.any,.any,.any,.any,.any,.any],[],[],none⟩) else some (.ret,⟨[.any,.any,.pv (.bool false),.any,.any,.any,.any,.any,.any,.any,.any,.any,.any,.any,.any,.any,.any,.any,.any],[],[],none⟩):=by
 unfold fn42_l1
 rw [ clean_up (env:=env) (im.length) (fun i=>⟨[.pv (.list 1 (im.map eSecs)),.any,.any,.pv (.int .i64 i),.any,.any,.any,.any,.any,.any,.any,.any,.any,.any,.any,.any,.any,.any,.any],[],[],none⟩) (fun i=>if (im.drop i).all (fun v=>decide (v.length≤24)) then some (.normal,⟨[.any,.any,.any,.any,.any,.any,.any,.any,.any,.any,.any,.any,.any,.any,.any,.any,.any,.any,.any],[],[],none⟩) else some (.ret,⟨[.any,.any,.pv (.bool false),.any,.any,.any,.any,.any,.any,.any,.any,.any,.any,.any,.any,.any,.any,.any,.any],[],[],none⟩)) h (fun _=>rfl) (fun _=>rfl) ?_ ?_]
 ·first|rfl|simp only [List.drop_zero,List.take_zero,List.map_nil,Nat.zero_add,List.nil_append,List.foldl_nil]
 ·intro i rb hi ih
  have hi1:=i64_next hi hl
  have F1:((i:Int)<(im.length:Int))=True:=eq_true (by omega)
  simp only [fn42_b0,F1,eSecs,index_nat hi,List.getElem?_map,List.getElem?_eq_getElem hi,memAll,vAll,reduceCtorEq,Nat.reduceEqDiff,Nat.reduceAdd,Nat.reduceLT,Nat.reduceLeDiff,Nat.beq]
  rw [List.drop_eq_getElem_cons hi,List.all_cons]
  (try simp only [bcase_bind,bcase_map,tail_bcase]);refine bcase_split (fun hb=>?_) (fun hb=>?_)<;>try simp only [hb, memAll,vAll,reduceCtorEq,Nat.reduceEqDiff,Nat.reduceAdd,Nat.reduceLT,Nat.reduceLeDiff,Nat.beq]
  ·rw [decide_eq_false (by simp at hb;omega)];rfl
  ·rw [ih _ (by simp only [hi1];rfl),decide_eq_true (show im[i].length≤24 by simp at hb;omega),Bool.true_and]
 ·intro rb
  simp only [fn42_b0,Int.lt_irrefl, memAll,vAll,reduceCtorEq,Nat.reduceEqDiff,Nat.reduceAdd,Nat.reduceLT,Nat.reduceLeDiff,Nat.beq]
  rw [List.drop_length]
  rfl
theorem cal42 {im:Img}:cal env 42 [.list 1 (im.map eSecs)]=some [(.bool (few7 im),false)]:=by
 rw [cal_code env42 rfl];simp only [fn42];simp only [start,z_map_cons,z_map_nil,z_len_cons,z_len_nil,z_repl_zero,z_repl_succ,z_cons_app,z_nil_app,Nat.reduceAdd,Nat.reduceSub]
 simp only [ memAll,vAll,reduceCtorEq,Nat.reduceEqDiff,Nat.reduceAdd,Nat.reduceLT,Nat.reduceLeDiff,Nat.beq]
 (try simp only [bcase_bind,bcase_map,tail_bcase]);refine bcase_split (fun hb=>?_) (fun hb=>?_)<;>try simp only [hb, memAll,vAll,reduceCtorEq,Nat.reduceEqDiff,Nat.reduceAdd,Nat.reduceLT,Nat.reduceLeDiff,Nat.beq]
 ·simp at hb
  rw [few7,decide_eq_false (by omega)];rfl
 ·have hl:im.length≤9:=by simp at hb;omega
  rw [loop42 (im:=im) (by unfold lim;omega)]
  rotate_left
  ·rfl
  ·rw [few7,decide_eq_true hl,Bool.true_and]
   cases im.all (fun v=>decide (v.length≤24))<;>simp only [vAll,reduceCtorEq,Nat.reduceEqDiff,Nat.reduceAdd,Nat.reduceLT,Nat.reduceLeDiff,Nat.beq]
end Go.Proofs.YtioijcfcehhmdaaGreatDoor.V

namespace Go.Proofs.YtioijcfcehhmdaaGreatDoor.V
def dif (a b:List Sec) (i:Nat):Bool:=decide (a[i]?≠b[i]?)
def difN (a b:List Sec) (n:Nat):List Nat:=(List.range n).filter (dif a b)
def difs (a b:List Sec):List Nat:=difN a b a.length
def addAt (out:List Exn) (i:Nat):List Exn:=match out.getLast? with
 |some x=>if x.start+x.count=(i:Int) then out.dropLast++[⟨x.start,x.count+1⟩] else out++[⟨i,1⟩]
 |none=>[⟨i,1⟩]
def exts (l:List Nat):List Exn:=l.foldl addAt []
def volDiff (a b:List Sec):List Exn:=exts (difs a b)
theorem difN_succ (a b:List Sec) (n:Nat):difN a b (n+1)=if dif a b n then difN a b n++[n] else difN a b n:=by
 simp only [difN,List.range_succ,List.filter_append,List.filter_cons,List.filter_nil]
 cases dif a b n<;>simp
theorem addAt_snoc (pre:List Exn) (x:Exn) (i:Nat):addAt (pre++[x]) i=if x.start+x.count=(i:Int) then pre++[⟨x.start,x.count+1⟩] else pre++[x]++[⟨i,1⟩]:=by
 simp [addAt]
theorem exts_snoc (l:List Nat) (i:Nat):exts (l++[i])=addAt (exts l) i:=by simp [exts]
theorem snoc_cases {α:Type} (l:List α):l=[]∨∃ p x,l=p++[x]:=by
 rcases List.eq_nil_or_concat l with h|⟨p,x,h⟩
 ·exact .inl h
 ·exact .inr ⟨p,x,by rw [h];simp⟩
theorem exts_last:∀ (n:Nat) (l:List Nat),l.length=n→∀ i:Nat,∃ pre x,exts (l++[i])=pre++[x]∧x.start+x.count=(i:Int)+1∧0≤x.start∧1≤x.count∧pre.length≤l.length:=by
 intro n
 induction n with
 |zero =>
  intro l hl i
  have:=List.eq_nil_of_length_eq_zero hl
  subst this
  exact ⟨[],⟨i,1⟩,rfl,rfl,by simp,by simp,by simp⟩
 |succ n ih =>
  intro l hl i
  rcases snoc_cases l with rfl|⟨p,j,rfl⟩
  ·simp at hl
  ·obtain ⟨pre,x,e,h1,h2,h3,h4⟩:=ih p (by simpa using hl) j
   rw [exts_snoc,e,addAt_snoc]
   split
   ·rename_i hx
    exact ⟨pre,_,rfl,by simp;omega,h2,by simp;omega,by simp;omega⟩
   ·exact ⟨pre++[x],_,rfl,by simp,by simp,by simp,by simp;omega⟩
theorem difN_lt {a b:List Sec} {n i:Nat} (h:i∈difN a b n):i<n:=by
 simp [difN] at h;exact h.1
theorem wrap_pred {n:Nat} (h:n≤lim):IntKind.i64.wrap (((n+1:Nat):Int) - 1)=(n:Int):=by
 rw [i64_fits (by unfold lim at h;omega)];omega
theorem cal117 {a b:List Sec}:cal env 117 [.list 8 (a.map eSec),.list 8 (b.map eSec)]=some [(.func 140 [.iptr [.list 8 (a.map eSec)] 0,.iptr [.list 8 (b.map eSec)] 0],false)]:=by
 rw [cal_code env117 rfl];simp only [fn117];simp only [start,z_map_cons,z_map_nil,z_len_cons,z_len_nil,z_repl_zero,z_repl_succ,z_cons_app,z_nil_app,Nat.reduceAdd,Nat.reduceSub]
 simp only [ memAll,vAll,reduceCtorEq,Nat.reduceEqDiff,Nat.reduceAdd,Nat.reduceLT,Nat.reduceLeDiff,Nat.beq]
def yI (l:List Nat):List (List PV):=l.map fun (i:Nat)=>[PV.int .i64 (i:Int)]
theorem yI_snoc (l:List Nat) (i:Nat):yI (l++[i])=yI l++[[.int .i64 (i:Int)]]:=by simp [yI]
theorem iter140 {a b:List Sec} (hl:a.length≤lim) (hab:a.length=b.length):iter env 140 [.iptr [.list 8 (a.map eSec)] 0,.iptr [.list 8 (b.map eSec)] 0] none=some (yI (difs a b)):=by
 have loop:∀ {st:St} (h:st.head [0,1,2,6,7] st.boxes.length=some ⟨[.yld,.pv (.iptr [.list 8 (a.map eSec)] 0),.pv (.iptr [.list 8 (b.map eSec)] 0),.any,.any,.any,.pv (.int .i64 a.length),.pv (.int .i64 (0:Nat)),.any,.any,.any,.any,.any,.any,.any,.any,.any,.any,.any,.any,.any,.any,.any,.any,.any,.any],[],yI (difN a b 0),some none⟩),
   den env fn140_l1 st=some (.normal,⟨[.any,.any,.any,.any,.any,.any,.any,.any,.any,.any,.any,.any,.any,.any,.any,.any,.any,.any,.any,.any,.any,.any,.any,.any,.any,.any],[],yI (difN a b a.length),some none⟩):=by
  intro st h
  unfold fn140_l1
  refine clean_up (env:=env) a.length (fun i=>⟨[.yld,.pv (.iptr [.list 8 (a.map eSec)] 0),.pv (.iptr [.list 8 (b.map eSec)] 0),.any,.any,.any,.pv (.int .i64 a.length),.pv (.int .i64 i),.any,.any,.any,.any,.any,.any,.any,.any,.any,.any,.any,.any,.any,.any,.any,.any,.any,.any],[],yI (difN a b i),some none⟩) (fun _=>some (.normal,⟨[.any,.any,.any,.any,.any,.any,.any,.any,.any,.any,.any,.any,.any,.any,.any,.any,.any,.any,.any,.any,.any,.any,.any,.any,.any,.any],[],yI (difN a b a.length),some none⟩)) h (fun _=>rfl) (fun _=>rfl) ?_ ?_
  ·intro i rb hi ih
   have hi1:=i64_next hi hl
   have hj:i<b.length:=by omega
   have F1:((i:Int)<(a.length:Int))=True:=eq_true (by omega)
   by_cases hd:a[i]=b[i]
   ·simp only [fn140_b0,F1,eSec,index_nat hi,index_nat hj,List.getElem?_map,List.getElem?_eq_getElem hi,List.getElem?_eq_getElem hj,part_sec,secPV_length,eqCells_sec,hd,decide_true,memAll,vAll,reduceCtorEq,Nat.reduceEqDiff,Nat.reduceAdd,Nat.reduceLT,Nat.reduceLeDiff,Nat.beq]
    rw [ih _ (by simp only [hi1];rw [difN_succ,if_neg (by simp [dif,List.getElem?_eq_getElem hi,List.getElem?_eq_getElem hj,hd])];rfl)]
   ·have hdd:dif a b i=true:=by simp [dif,List.getElem?_eq_getElem hi,List.getElem?_eq_getElem hj,hd]
    have hdf:=decide_eq_false hd
    simp only [fn140_b0,F1,eSec,index_nat hi,index_nat hj,List.getElem?_map,List.getElem?_eq_getElem hi,List.getElem?_eq_getElem hj,part_sec,secPV_length,eqCells_sec,hdf,memAll,vAll,reduceCtorEq,Nat.reduceEqDiff,Nat.reduceAdd,Nat.reduceLT,Nat.reduceLeDiff,Nat.beq]
    rw [ih _ (by simp only [hi1];rw [difN_succ,if_pos hdd,yI_snoc];rfl)]
  ·intro rb
   simp only [fn140_b0,Int.lt_irrefl,memAll,vAll,reduceCtorEq,Nat.reduceEqDiff,Nat.reduceAdd,Nat.reduceLT,Nat.reduceLeDiff,Nat.beq]
   rfl
 rw [iter_code env140 rfl rfl]
 simp only [fn140,ystart,z_map_cons,z_map_nil,z_len_cons,z_len_nil,z_repl_zero,z_repl_succ,z_cons_app,z_nil_app,Nat.reduceAdd,Nat.reduceSub]
 simp only [ memAll,vAll,reduceCtorEq,Nat.reduceEqDiff,Nat.reduceAdd,Nat.reduceLT,Nat.reduceLeDiff,Nat.beq]
 rw [loop]
 rotate_left
 ·rfl
 ·rfl
def endNs (l:List Nat):Int:=match l.getLast? with
 |some i=>i+1
 |none=>-1
theorem endNs_snoc (l:List Nat) (i:Nat):endNs (l++[i])=(i:Int)+1:=by simp [endNs]
theorem sorted_take {a b:List Sec} {j:Nat} {i:Nat} (h:(difs a b)[j]?=some i):i<a.length∧j≤i∧∀ k∈(difs a b).take j,k<i:=by
 have hs:(difs a b).Pairwise (·<·):=(List.pairwise_lt_range (n:=a.length)).filter _
 obtain ⟨hj,rfl⟩:=List.getElem?_eq_some_iff.1 h
 refine ⟨difN_lt (List.getElem_mem hj),?_,?_⟩
 ·have:∀ (l:List Nat),l.Pairwise (·<·)→∀ (j:Nat) (hj:j<l.length),j≤l[j]:=by
   intro l
   induction l with
   |nil=>intro _ j hj;simp at hj
   |cons x l ih =>
    intro hp j hj
    cases j with
    |zero=>simp
    |succ j =>
     have h1:=ih (List.pairwise_cons.1 hp).2
     simp only [List.length_cons,Nat.add_lt_add_iff_right] at hj
     simp only [List.getElem_cons_succ]
     cases j with
     |zero=>have:=(List.pairwise_cons.1 hp).1 l[0] (List.getElem_mem hj);omega
     |succ j =>
      have h2:=h1 (j+1) hj
      have h3:∀ (m:Nat) (hm:m<l.length),x+m+1≤l[m]:=by
       intro m
       induction m with
       |zero=>intro hm;have:=(List.pairwise_cons.1 hp).1 l[0] (List.getElem_mem hm);omega
       |succ m ihm =>
        intro hm
        have:=ihm (by omega)
        have h4:=List.pairwise_iff_getElem.1 (List.pairwise_cons.1 hp).2 m (m+1) (by omega) hm (by omega)
        omega
      have:=h3 (j+1) hj
      omega
  exact this _ hs j hj
 ·intro k hk
  obtain ⟨m,hm,rfl⟩:=List.mem_iff_getElem.1 hk
  rw [List.getElem_take]
  simp only [List.length_take] at hm
  exact List.pairwise_iff_getElem.1 hs m j (by omega) hj (by omega)
theorem cal77 {a b:List Sec} (hl:a.length≤lim) (hab:a.length=b.length):cal env 77 [.list 8 (a.map eSec),.list 8 (b.map eSec)]=some [(.list 2 ((volDiff a b).map eExt),true)]:=by
 have e1:=cal117 (a:=a) (b:=b)
 rw [cal_code env77 rfl];simp only [fn77];simp only [start,z_map_cons,z_map_nil,z_len_cons,z_len_nil,z_repl_zero,z_repl_succ,z_cons_app,z_nil_app,Nat.reduceAdd,Nat.reduceSub]
 simp only [e1,memAll,vAll,reduceCtorEq,Nat.reduceEqDiff,Nat.reduceAdd,Nat.reduceLT,Nat.reduceLeDiff,Nat.beq]
 rw [rng_idx (env:=env) (fun j=>[⟨false,[.row 2 ((exts ((difs a b).take j)).map eExt)]⟩,⟨false,[.pv (.int .i64 (endNs ((difs a b).take j)))]⟩]) (xs:=yI (difs a b)) rfl (iter140 hl hab) rfl ?_]
 ·simp only [yI,List.length_map,List.take_length,vRng,memAll,vAll,reduceCtorEq,Nat.reduceEqDiff,Nat.reduceAdd,Nat.reduceLT,Nat.reduceLeDiff,Nat.beq]
  rfl
 ·intro j x hx sl0
  simp only [yI,List.getElem?_map,Option.map_eq_some_iff] at hx
  obtain ⟨i,hi,rfl⟩:=hx
  obtain ⟨k1,k2,k3⟩:=sorted_take hi
  have hlim:lim=1073741824:=rfl
  have hj:=(List.getElem?_eq_some_iff.1 hi).1
  have ht:(difs a b).take (j+1)=(difs a b).take j++[i]:=by rw [List.take_add_one,hi];rfl
  have hlen:((difs a b).take j).length=j:=by simp;omega
  rw [ht]
  rcases snoc_cases ((difs a b).take j) with h0|⟨p,q,h0⟩
  ·have F2:((i:Int)==-1)=false:=by simp
   have F3:(0+1≤lim)=True:=eq_true (by omega)
   have F4:IntKind.i64.wrap ((i:Int)+1)=(i:Int)+1:=i64_fits (by omega)
   have e0:exts ([]:List Nat)=[]:=rfl
   have e1:endNs ([]:List Nat)=-1:=rfl
   have e2:exts [i]=[⟨i,1⟩]:=rfl
   have e3:endNs [i]=(i:Int)+1:=rfl
   refine ⟨?_,?_⟩
   rotate_left
   ·simp only [h0,fn77_b0,fn77_b1,F2,F3,F4,e0,e1,e2,e3,eExt,List.map_nil,vRng,memAll,vAll,reduceCtorEq,Nat.reduceEqDiff,Nat.reduceAdd,Nat.reduceLT,Nat.reduceLeDiff,Nat.beq]
    rfl
  ·obtain ⟨pre,⟨s,c⟩,e0,h1,h2,h3,h4⟩:=exts_last _ p rfl q
   have hqi:q<i:=k3 q (by rw [h0];simp)
   simp only at h1 h2 h3
   have hpl:p.length+1=j:=by rw [h0] at hlen;simpa using hlen
   have F3:=wrap_pred (n:=pre.length) (by omega)
   have F4:IntKind.i64.wrap ((i:Int)+1)=(i:Int)+1:=i64_fits (by omega)
   have F5:IntKind.i64.wrap (c+1)=c+1:=i64_fits (by omega)
   have F6:(pre.length+1+1≤lim)=True:=eq_true (by omega)
   have F7:index (.int .i64 (pre.length:Int)) (pre.length+1)=some pre.length:=index_nat (by omega)
   by_cases hc:(i:Int)=(q:Int)+1
   ·have F8:((i:Int)==(q:Int)+1)=true:=by simpa using hc
    have e2:exts (p++[q]++[i])=pre++[⟨s,c+1⟩]:=by rw [exts_snoc,e0,addAt_snoc,if_pos (by simp only;omega)]
    refine ⟨?_,?_⟩
    rotate_left
    ·simp only [h0,fn77_b0,fn77_b1,endNs_snoc,e0,e2,F3,F4,F5,F6,F7,F8,eExt,List.map_append,List.map_cons,List.map_nil,vRng,memAll,vAll,reduceCtorEq,Nat.reduceEqDiff,Nat.reduceAdd,Nat.reduceLT,Nat.reduceLeDiff,Nat.beq]
     rfl
   ·have F8:((i:Int)==(q:Int)+1)=false:=by simpa using hc
    have e2:exts (p++[q]++[i])=pre++[⟨s,c⟩]++[⟨i,1⟩]:=by rw [exts_snoc,e0,addAt_snoc,if_neg (by simp only;omega)]
    refine ⟨?_,?_⟩
    rotate_left
    ·simp only [h0,fn77_b0,fn77_b1,endNs_snoc,e0,e2,F3,F4,F5,F6,F7,F8,eExt,List.map_append,List.map_cons,List.map_nil,vRng,memAll,vAll,reduceCtorEq,Nat.reduceEqDiff,Nat.reduceAdd,Nat.reduceLT,Nat.reduceLeDiff,Nat.beq]
     rfl
end Go.Proofs.YtioijcfcehhmdaaGreatDoor.V

namespace Go.Proofs.YtioijcfcehhmdaaGreatDoor.V
def ext (p:Nat→Bool) (n:Nat):List Exn:=exts ((List.range n).filter p)
theorem ext_zero (p:Nat→Bool):ext p 0=[]:=rfl
theorem ext_succ (p:Nat→Bool) (n:Nat):ext p (n+1)=if p n then addAt (ext p n) n else ext p n:=by
 unfold ext
 rw [List.range_succ,List.filter_append]
 cases h:p n
 ·simp [h]
 ·rw [List.filter_cons_of_pos h,List.filter_nil,exts_snoc];rfl
theorem ext_new {p:Nat→Bool} {n:Nat} (h:n=0∨p (n - 1)=false):addAt (ext p n) n=ext p n++[⟨(n:Int),1⟩]:=by
 unfold ext
 rcases snoc_cases ((List.range n).filter p) with h0|⟨l,j,h0⟩
 ·rw [h0];rfl
 ·obtain ⟨pre,⟨s,c⟩,e0,h1,h2,h3,h4⟩:=exts_last _ l rfl j
  have hmem:j∈(List.range n).filter p:=by rw [h0];simp
  obtain ⟨q1,q2⟩:=List.mem_filter.1 hmem
  have hj:=List.mem_range.1 q1
  simp only at h1
  rw [h0,e0,addAt_snoc,if_neg]
  intro hh
  simp only at hh
  have:j=n - 1:=by omega
  rcases h with h|h
  ·omega
  ·rw [← this,q2] at h;cases h
theorem ext_false {p:Nat→Bool} {a:Nat}:∀ k,(∀ s,a≤s→s<a+k→p s=false)→ext p (a+k)=ext p a
 |0,_=>rfl
 |k+1,h=>by
  rw [← Nat.add_assoc,ext_succ,h (a+k) (by omega) (by omega),if_neg (by simp)]
  exact ext_false k fun s h1 h2=>h s h1 (by omega)
theorem ext_true {p:Nat→Bool} {a:Nat} {pre:List Exn} {s0:Int} (h0:ext p a=pre++[⟨s0,a - s0⟩]):∀ k,(∀ s,a≤s→s<a+k→p s=true)→ext p (a+k)=pre++[⟨s0,((a+k:Nat):Int) - s0⟩]
 |0,_=>h0
 |k+1,h=>by
  rw [← Nat.add_assoc,ext_succ,h (a+k) (by omega) (by omega),if_pos rfl,ext_true h0 k fun s h1 h2=>h s h1 (by omega),addAt_snoc,if_pos (by simp only;omega)]
  congr 2
  simp only [Exn.mk.injEq,true_and]
  omega
theorem ext_begin {p:Nat→Bool} {a k:Nat} (hn:a=0∨p (a - 1)=false) (h:∀ s,a≤s→s<a+(k+1)→p s=true):ext p (a+(k+1))=ext p a++[⟨(a:Int),((a+(k+1):Nat):Int) - a⟩]:=by
 have h1:ext p (a+1)=ext p a++[⟨(a:Int),((a+1:Nat):Int) - a⟩]:=by
  rw [ext_succ,h a (Nat.le_refl _) (by omega),if_pos rfl,ext_new hn]
  congr 2
  simp only [Exn.mk.injEq,true_and]
  omega
 have:=ext_true (a:=a+1) h1 k fun s h2 h3=>h s (by omega) (by omega)
 rw [show a+(k+1)=a+1+k by omega]
 exact this
theorem ext_congr {p q:Nat→Bool} {n:Nat} (h:∀ s,s<n→p s=q s):ext p n=ext q n:=by
 unfold ext
 rw [List.filter_congr fun s hs=>h s (List.mem_range.1 hs)]
def dep (i:Nat) (s:Nat):List End→Int
 |[]=>0
 |x :: l=>(if x.list=i∧x.pos≤s then x.step else 0)+dep i s l
def tot (i:Nat):List End→Int
 |[]=>0
 |x :: l=>(if x.list=i then x.step else 0)+tot i l
theorem dep_app (i s:Nat):∀ l m:List End,dep i s (l++m)=dep i s l+dep i s m
 |[],m=>by simp [dep]
 |x :: l,m=>by simp only [List.cons_append,dep,dep_app i s l m];omega
theorem dep_all {i s:Nat}:∀ {l:List End},(∀ x∈l,x.pos≤s)→dep i s l=tot i l
 |[],_=>rfl
 |x :: l,h=>by
  have h1:=h x (by simp)
  have ih:=dep_all (i:=i) (s:=s) (l:=l) fun y hy=>h y (by simp [hy])
  simp only [dep,tot,ih,h1,and_true]
theorem dep_none {i s:Nat}:∀ {l:List End},(∀ x∈l,s<x.pos)→dep i s l=0
 |[],_=>rfl
 |x :: l,h=>by
  have h1:=h x (by simp)
  have ih:=dep_none (i:=i) (s:=s) (l:=l) fun y hy=>h y (by simp [hy])
  simp only [dep,ih]
  rw [if_neg (by omega)];rfl
theorem tot_app (i:Nat):∀ l m:List End,tot i (l++m)=tot i l+tot i m
 |[],m=>by simp [tot]
 |x :: l,m=>by simp only [List.cons_append,tot,tot_app i l m];omega
def keepOf (keep:Bool→Bool→Bool) (l:List End) (s:Nat):Bool:=keep (decide (dep 0 s l > 0)) (decide (dep 1 s l > 0))
def nextSame (x:End):List End→Bool
 |[]=>false
 |y :: _=>decide (y.pos=x.pos)
def swGo (keep:Bool→Bool→Bool):List End→Int→Int→Int→Bool→List Exn
 |[],_,_,_,_=>[]
 |x :: l,d0,d1,st,ins =>
  if nextSame x l then swGo keep l (if x.list=0 then d0+x.step else d0) (if x.list=1 then d1+x.step else d1) st ins
  else
   (if !keep (decide ((if x.list=0 then d0+x.step else d0) > 0)) (decide ((if x.list=1 then d1+x.step else d1) > 0))&&ins then [⟨st,x.pos - st⟩] else []) ++
   swGo keep l (if x.list=0 then d0+x.step else d0) (if x.list=1 then d1+x.step else d1)
    (if keep (decide ((if x.list=0 then d0+x.step else d0) > 0)) (decide ((if x.list=1 then d1+x.step else d1) > 0))&&!ins then x.pos else st)
    (keep (decide ((if x.list=0 then d0+x.step else d0) > 0)) (decide ((if x.list=1 then d1+x.step else d1) > 0)))
def Asc:List End→Prop
 |[]=>True
 |[_]=>True
 |x :: y :: l=>x.pos≤y.pos∧Asc (y :: l)
theorem Asc.tail {x:End} {l:List End} (h:Asc (x :: l)):Asc l:=by
 cases l with
 |nil=>trivial
 |cons y l=>exact h.2
theorem Asc.le {x:End}:∀ {l:List End},Asc (x :: l)→∀ y∈l,x.pos≤y.pos
 |[],_,y,hy=>by cases hy
 |z :: l,h,y,hy=>by
  rcases List.mem_cons.1 hy with rfl|hy
  ·exact h.1
  ·exact Nat.le_trans h.1 (Asc.le h.2 y hy)
def atStart (N:Nat):List End→Nat→Prop
 |[],a=>a=N
 |x :: _,a=>a=x.pos
theorem swGo_ok {keep:Bool→Bool→Bool} (hk:keep false false=false) {L:List End} {N:Nat} (hN:∀ x∈L,x.pos≤N) (h0:tot 0 L=0) (h1:tot 1 L=0) :
  ∀ (R P:List End) (out:List Exn) (st:Int) (ins:Bool) (a:Nat),L=P++R→Asc R→(∀ x∈P,∀ y∈R,x.pos≤y.pos)→(∀ x∈P,x.pos≤a) →
   atStart N R a→ext (keepOf keep L) a=out++(if ins then [⟨st,a - st⟩] else [])→(a=0∨ins=true∨keepOf keep L (a - 1)=false)→(R=[]→ins=false)→(a=0→ins=false) →
   ext (keepOf keep L) N=out++swGo keep R (tot 0 P) (tot 1 P) st ins
 |[],P,out,st,ins,a,hL,_,_,_,ha,he,hi,hr,_=>by
  have ha:a=N:=ha
  rw [hr rfl] at he
  rw [ha] at he
  simpa [swGo] using he
 |x :: l,P,out,st,ins,a,hL,hs,hP,hPa,ha,he,hi,_,hz=>by
  have ha:a=x.pos:=ha
  subst ha
  have hL2:L=(P++[x])++l:=by rw [hL];simp
  have t0:tot 0 (P++[x])=(if x.list=0 then tot 0 P+x.step else tot 0 P):=by
   rw [tot_app];simp only [tot];split<;>omega
  have t1:tot 1 (P++[x])=(if x.list=1 then tot 1 P+x.step else tot 1 P):=by
   rw [tot_app];simp only [tot];split<;>omega
  have hP2:∀ z∈P++[x],∀ y∈l,z.pos≤y.pos:=by
   intro z hz y hy
   rcases List.mem_append.1 hz with hz|hz
   ·exact hP z hz y (by simp [hy])
   ·simp only [List.mem_singleton] at hz;rw [hz];exact hs.le y hy
  have hPx:∀ z∈P++[x],z.pos≤x.pos:=by
   intro z hz
   rcases List.mem_append.1 hz with hz|hz
   ·exact hP z hz x (by simp)
   ·simp only [List.mem_singleton] at hz;rw [hz];exact Nat.le_refl _
  unfold swGo
  rw [← t0,← t1]
  by_cases hn:nextSame x l=true
  ·rw [if_pos hn]
   cases l with
   |nil=>simp [nextSame] at hn
   |cons y l =>
    have hy:y.pos=x.pos:=by simpa [nextSame] using hn
    exact swGo_ok hk hN h0 h1 (y :: l) (P++[x]) out st ins x.pos hL2 hs.tail hP2 hPx hy.symm he hi (fun e=>by cases e) hz
  ·rw [if_neg hn]
   -- the next place
   obtain ⟨b,hb,hbl,hbx,hbm⟩:∃ b,x.pos≤b∧(∀ y∈l,b≤y.pos)∧(l≠[]→x.pos<b)∧atStart N l b:=by
    cases l with
    |nil=>exact ⟨N,hN x (by rw [hL];simp),fun y hy=>(by cases hy),fun h=>absurd rfl h,rfl⟩
    |cons y l =>
     have hy:y.pos≠x.pos:=by simpa [nextSame] using hn
     have:=hs.1
     exact ⟨y.pos,hs.1,fun z hz=>by
      rcases List.mem_cons.1 hz with rfl|hz
      ·exact Nat.le_refl _
      ·exact hs.tail.le z hz,fun _=>by omega,rfl⟩
   have hconst:∀ s,x.pos≤s→s<b→keepOf keep L s=keep (decide (tot 0 (P++[x]) > 0)) (decide (tot 1 (P++[x]) > 0)):=by
    intro s hs1 hs2
    unfold keepOf
    have e:∀ i,dep i s L=tot i (P++[x]):=by
     intro i
     rw [hL2,dep_app,dep_all (fun z hz=>by have:=hPx z hz;omega),dep_none (fun z hz=>by have:=hbl z hz;omega)]
     omega
    rw [e 0,e 1]
   have hlast:l=[]→keep (decide (tot 0 (P++[x]) > 0)) (decide (tot 1 (P++[x]) > 0))=false:=by
    intro hl
    have e0:tot 0 (P++[x])=0:=by rw [← h0,hL2,hl,List.append_nil]
    have e1:tot 1 (P++[x])=0:=by rw [← h1,hL2,hl,List.append_nil]
    rw [e0,e1]
    exact hk
   have hPb:∀ z∈P++[x],z.pos≤b:=fun z hz=>Nat.le_trans (hPx z hz) hb
   obtain ⟨k,rfl⟩:∃ k,b=x.pos+k:=⟨b - x.pos,by omega⟩
   generalize keep (decide (tot 0 (P++[x]) > 0)) (decide (tot 1 (P++[x]) > 0))=now at *
   have hprev:k≠0→keepOf keep L (x.pos+k - 1)=now:=fun hk0=>hconst _ (by omega) (by omega)
   cases now with
   |false =>
    have hf:=ext_false (p:=keepOf keep L) (a:=x.pos) k fun s q1 q2=>hconst s q1 q2
    cases ins with
    |false =>
     simp only [Bool.not_false,Bool.and_false,Bool.false_eq_true,if_false,List.nil_append,Bool.and_true,Bool.false_and,List.append_nil,if_true] at he ⊢
     refine swGo_ok hk hN h0 h1 l (P++[x]) out _ false (x.pos+k) hL2 hs.tail hP2 hPb hbm ?_ ?_ (fun _=>rfl) (fun _=>rfl)
     ·rw [hf,he];simp
     ·by_cases hk0:k=0
      ·subst hk0
       rcases hi with hi|hi|hi
       ·exact .inl hi
       ·cases hi
       ·exact .inr (.inr hi)
      ·exact .inr (.inr (hprev hk0))
    |true =>
     simp only [Bool.not_false,Bool.and_self,if_true,Bool.not_true,Bool.and_false,Bool.false_and,Bool.false_eq_true,if_false] at he ⊢
     rw [← List.append_assoc]
     by_cases hk0:k=0
     ·subst hk0
      have hl:l=[]:=by
       cases l with
       |nil=>rfl
       |cons y l=>have:=hbx (by simp);omega
      subst hl
      have hb2:x.pos+0=N:=hbm
      simp only [swGo,List.append_nil]
      rw [← hb2]
      exact he
     ·refine swGo_ok hk hN h0 h1 l (P++[x]) _ _ false (x.pos+k) hL2 hs.tail hP2 hPb hbm ?_ (.inr (.inr (hprev hk0))) (fun _=>rfl) (fun _=>rfl)
      rw [hf,he];simp
   |true =>
    have hl:l≠[]:=fun e=>by have:=hlast e;cases this
    have hk1:=hbx hl
    obtain ⟨j,rfl⟩:∃ j,k=j+1:=⟨k - 1,by omega⟩
    cases ins with
    |false =>
     simp only [Bool.not_true,Bool.false_and,Bool.false_eq_true,if_false,List.nil_append,Bool.not_false,Bool.and_self,if_true,List.append_nil] at he ⊢
     refine swGo_ok hk hN h0 h1 l (P++[x]) out _ true (x.pos+(j+1)) hL2 hs.tail hP2 hPb hbm ?_ (.inr (.inl rfl)) (fun e=>absurd e hl) (fun e=>by omega)
     have hi2:x.pos=0∨keepOf keep L (x.pos - 1)=false:=by
      rcases hi with hi|hi|hi
      ·exact .inl hi
      ·cases hi
      ·exact .inr hi
     rw [ext_begin hi2 fun s q1 q2=>hconst s q1 q2,he]
     simp
    |true =>
     simp only [Bool.not_true,Bool.false_and,Bool.false_eq_true,if_false,List.nil_append,Bool.and_false,if_true] at he ⊢
     refine swGo_ok hk hN h0 h1 l (P++[x]) out st true (x.pos+(j+1)) hL2 hs.tail hP2 hPb hbm ?_ (.inr (.inl rfl)) (fun e=>absurd e hl) (fun e=>by omega)
     rw [ext_true he (j+1) fun s q1 q2=>hconst s q1 q2]
     simp
theorem sweep_ok {keep:Bool→Bool→Bool} (hk:keep false false=false) {L:List End} {N:Nat} (hs:Asc L) (hN:∀ x∈L,x.pos≤N) (h0:tot 0 L=0) (h1:tot 1 L=0) :
  swGo keep L 0 0 0 false=ext (keepOf keep L) N:=by
 cases L with
 |nil =>
  have:ext (keepOf keep ([]:List End)) (0+N)=ext (keepOf keep []) 0:=ext_false N fun s _ _=>hk
  rw [Nat.zero_add] at this
  rw [this];rfl
 |cons x l =>
  have hb:ext (keepOf keep (x :: l)) (0+x.pos)=ext (keepOf keep (x :: l)) 0:=ext_false x.pos fun s _ h2=>by
   unfold keepOf
   have e:∀ i,dep i s (x :: l)=0:=fun i=>dep_none fun y hy=>by
    rcases List.mem_cons.1 hy with rfl|hy
    ·omega
    ·have:=hs.le y hy;omega
   rw [e 0,e 1]
   exact hk
  rw [Nat.zero_add] at hb
  have:=swGo_ok hk hN h0 h1 (x :: l) [] [] 0 false x.pos rfl hs (fun z hz=>by cases hz) (fun z hz=>by cases hz) rfl (by rw [hb];rfl) (by
   by_cases h:x.pos=0
   ·exact .inl h
   ·refine .inr (.inr ?_)
    unfold keepOf
    have e:∀ i,dep i (x.pos - 1) (x :: l)=0:=fun i=>dep_none fun y hy=>by
     rcases List.mem_cons.1 hy with rfl|hy
     ·omega
     ·have:=hs.le y hy;omega
    rw [e 0,e 1]
    exact hk) (fun e=>by cases e) (fun _=>rfl)
  rw [this];rfl
end Go.Proofs.YtioijcfcehhmdaaGreatDoor.V

namespace Go.Proofs.YtioijcfcehhmdaaGreatDoor.V
abbrev Wd:=BitVec 64
structure Bm where
 size:Int
 ws:List Wd
 deriving DecidableEq
def eW (w:Wd):PV:=.int .u64 (w.toNat:Int)
def eBm (b:Bm):PV:=.agg [.int .i64 b.size,.list 1 (b.ws.map eW)]
def bit (ws:List Wd) (i:Nat):Bool:=(ws.getD (i / 64) 0).getLsbD (i % 64)
theorem bit_at {ws:List Wd} {k:Nat} (h:k<ws.length) {j:Nat} (hj:j<64):bit ws (64 * k+j)=ws[k].getLsbD j:=by
 unfold bit
 have e1:(64 * k+j) / 64=k:=by omega
 have e2:(64 * k+j) % 64=j:=by omega
 rw [e1,e2];simp [h]
theorem bit_of {ws:List Wd} {i:Nat} (h:i / 64<ws.length):bit ws i=ws[i / 64].getLsbD (i % 64):=by
 unfold bit;simp [h]
theorem bit_out {ws:List Wd} {i:Nat} (h:64 * ws.length≤i):bit ws i=false:=by
 unfold bit
 have:ws.length≤i / 64:=by omega
 rw [List.getD_eq_getElem?_getD,List.getElem?_eq_none this];simp
theorem w_of (w:Wd):BitVec.ofInt 64 (w.toNat:Int)=w:=by
 apply BitVec.eq_of_toNat_eq
 have:=w.isLt
 rw [BitVec.toNat_ofInt]
 omega
theorem u64_wrap (n:Int):IntKind.u64.wrap n=n % 2 ^ 64:=by
 simp only [IntKind.wrap,IntKind.bits,IntKind.signed,Bool.false_and,Bool.false_eq_true,if_false]
theorem w_wrap (w:Wd):IntKind.u64.wrap (w.toNat:Int)=(w.toNat:Int):=by
 have:=w.isLt
 simp only [IntKind.wrap,IntKind.bits,IntKind.signed,Bool.false_and,Bool.false_eq_true,if_false]
 omega
theorem w_or (a b:Wd):IntKind.u64.wrap ((BitVec.ofInt IntKind.u64.bits (a.toNat:Int) ||| BitVec.ofInt IntKind.u64.bits (b.toNat:Int)).toNat:Int)=((a ||| b).toNat:Int):=by
 show IntKind.u64.wrap ((BitVec.ofInt 64 (a.toNat:Int) ||| BitVec.ofInt 64 (b.toNat:Int)).toNat:Int)=_
 rw [w_of,w_of,w_wrap]
theorem w_and (a b:Wd):IntKind.u64.wrap ((BitVec.ofInt IntKind.u64.bits (a.toNat:Int) &&& BitVec.ofInt IntKind.u64.bits (b.toNat:Int)).toNat:Int)=((a &&& b).toNat:Int):=by
 show IntKind.u64.wrap ((BitVec.ofInt 64 (a.toNat:Int) &&& BitVec.ofInt 64 (b.toNat:Int)).toNat:Int)=_
 rw [w_of,w_of,w_wrap]
theorem w_shr (w:Wd) {s:Int} {n:Nat} (hs:s=(n:Int)):(w.toNat:Int).fdiv (2 ^ (min s.toNat IntKind.u64.bits))=((w >>> n).toNat:Int):=by
 subst hs
 rw [BitVec.toNat_ushiftRight,Nat.shiftRight_eq_div_pow,Int.toNat_natCast]
 have hw:=w.isLt
 show (w.toNat:Int).fdiv (2 ^ (min n 64))=_
 by_cases h:n≤64
 ·have h2:(0:Int)≤2 ^ n:=by have:=Int.natCast_nonneg (2 ^ n);push_cast at this;exact this
  rw [Nat.min_eq_left h,Int.fdiv_eq_ediv_of_nonneg _ h2]
  push_cast
  rfl
 ·rw [Nat.min_eq_right (by omega),Int.fdiv_eq_ediv_of_nonneg _ (by decide)]
  have h1:w.toNat / 2 ^ n=0:=Nat.div_eq_of_lt (Nat.lt_of_lt_of_le hw (Nat.pow_le_pow_right (by decide) (by omega)))
  rw [h1]
  omega
theorem w_shl (w:Wd) {s:Int} {n:Nat} (hs:s=(n:Int)):IntKind.u64.wrap ((w.toNat:Int) * 2 ^ (min s.toNat IntKind.u64.bits))=((w <<< n).toNat:Int):=by
 subst hs
 rw [BitVec.toNat_shiftLeft,Nat.shiftLeft_eq,Int.toNat_natCast]
 have hw:=w.isLt
 rw [u64_wrap]
 show ((w.toNat:Int) * 2 ^ (min n 64)) % 2 ^ 64=_
 by_cases h:n≤64
 ·have e2:((2 ^ n:Nat):Int)=2 ^ n:=by push_cast;rfl
  have e3:((2 ^ 64:Nat):Int)=2 ^ 64:=by decide
  rw [Nat.min_eq_left h,Int.natCast_emod,Int.natCast_mul,e2,e3]
 ·rw [Nat.min_eq_right (by omega)]
  have e:2 ^ n=2 ^ 64 * 2 ^ (n - 64):=by rw [← Nat.pow_add];congr 1;omega
  have:w.toNat * 2 ^ n % 2 ^ 64=0:=by
   rw [e,Nat.mul_left_comm];exact Nat.mul_mod_right _ _
  rw [this]
  exact Int.mul_emod_left _ _
theorem w_sub (a b:Wd):IntKind.u64.wrap ((a.toNat:Int) - (b.toNat:Int))=((a - b).toNat:Int):=by
 have h1:=a.isLt
 have h2:=b.isLt
 simp only [IntKind.wrap,IntKind.bits,IntKind.signed,Bool.false_and,Bool.false_eq_true,if_false]
 rw [BitVec.toNat_sub]
 omega
theorem w_beq (a b:Wd):((a.toNat:Int)==(b.toNat:Int))=decide (a=b):=by
 by_cases h:a=b
 ·subst h;simp
 ·have:a.toNat≠b.toNat:=fun e=>h (BitVec.eq_of_toNat_eq e)
  simp [h];omega
/-! Masks. -/
def maskW (k:Nat) (a b:Int):Wd :=
 if max (a - 64 * (k:Int)) 0 ≥ min (b - 64 * (k:Int)) 64 then 0
 else (BitVec.allOnes 64 >>> (64 - (min (b - 64 * (k:Int)) 64 - max (a - 64 * (k:Int)) 0)).toNat) <<< (max (a - 64 * (k:Int)) 0).toNat
theorem mask_bit (k:Nat) (a b:Int) {j:Nat} (hj:j<64):(maskW k a b).getLsbD j=decide (a≤64 * (k:Int)+j∧64 * (k:Int)+j<b):=by
 unfold maskW
 split
 ·rename_i h
  rw [show (0:Wd).getLsbD j=false by simp]
  symm
  apply decide_eq_false
  omega
 ·rename_i h
  rw [BitVec.getLsbD_shiftLeft,BitVec.getLsbD_ushiftRight,BitVec.getLsbD_allOnes]
  rw [Bool.eq_iff_iff]
  simp only [Bool.and_eq_true,decide_eq_true_eq,Bool.not_eq_true',decide_eq_false_iff_not]
  omega
def bitsOf (w:Wd):List Nat:=(List.range 64).filter fun j=>w.getLsbD j
theorem bits_zero:bitsOf 0=[]:=by
 unfold bitsOf
 rw [List.filter_eq_nil_iff]
 intro j _
 simp
theorem ctz_low {w:Wd} (h:w≠0):Lib.ctz 64 w.toNat<64∧(∀ j,j<Lib.ctz 64 w.toNat→w.getLsbD j=false)∧w.getLsbD (Lib.ctz 64 w.toNat)=true∧∀ j,j<64→(w &&& (w - 1)).getLsbD j=(w.getLsbD j&&decide (j≠Lib.ctz 64 w.toNat)):=by
 have h0:0<w.toNat:=by
  rcases Nat.eq_zero_or_pos w.toNat with e|e
  ·exact absurd (BitVec.eq_of_toNat_eq (by simpa using e)) h
  ·exact e
 have hl:Lib.ctz 64 w.toNat=Lib.ctzFrom 64 w.toNat:=by unfold Lib.ctz;rw [if_neg (by omega)]
 rw [hl]
 obtain ⟨m,h1,h2⟩:=Lib.ctzFrom_spec 64 w.toNat h0 w.isLt
 generalize Lib.ctzFrom 64 w.toNat=c at h1 h2
 have hbit:∀ j,w.getLsbD j=if j<c then false else (2 * m+1).testBit (j - c):=fun j=>by
  rw [← BitVec.testBit_toNat,h1,Nat.testBit_two_pow_mul]
  by_cases hc:j<c
  ·rw [if_pos hc,decide_eq_false (by omega),Bool.false_and]
  ·rw [if_neg hc,decide_eq_true (by omega),Bool.true_and]
 have hsub:(w - 1).toNat=2 ^ c * (2 * m)+(2 ^ c - 1):=by
  have hp:0<2 ^ c:=Nat.pow_pos (by decide)
  rw [BitVec.toNat_sub]
  have:=w.isLt
  have e1:(1:Wd).toNat=1:=rfl
  rw [e1,show 2 ^ 64 - 1+w.toNat=(w.toNat - 1)+2 ^ 64 by omega,Nat.add_mod_right,Nat.mod_eq_of_lt (by omega),h1,Nat.mul_add,Nat.mul_one]
  omega
 have hbit2:∀ j,(w - 1).getLsbD j=if j<c then true else (2 * m).testBit (j - c):=fun j=>by
  rw [← BitVec.testBit_toNat,hsub]
  have hp:2 ^ c - 1<2 ^ c:=by have:0<2 ^ c:=Nat.pow_pos (by decide);omega
  by_cases hc:j<c
  ·rw [if_pos hc,Nat.testBit_two_pow_mul_add _ hp,if_pos hc,Nat.testBit_two_pow_sub_one]
   simp [hc]
  ·rw [if_neg hc,Nat.testBit_two_pow_mul_add _ hp,if_neg hc]
 refine ⟨h2,fun j hj=>by rw [hbit,if_pos hj],by rw [hbit,if_neg (Nat.lt_irrefl _),Nat.sub_self];simp,fun j hj=>?_⟩
 rw [BitVec.getLsbD_and,hbit,hbit2]
 by_cases hc:j<c
 ·simp [hc]
 ·rw [if_neg hc,if_neg hc]
  by_cases he:j=c
  ·subst he;simp
  ·obtain ⟨d,hd⟩:∃ d,j - c=d+1:=⟨j - c - 1,by omega⟩
   rw [hd,Nat.testBit_succ,Nat.testBit_succ,show (2 * m+1) / 2=m by omega,show 2 * m / 2=m by omega]
   simp [he]
theorem filter_first {p q:Nat→Bool} {c n:Nat} (hc:c<n) (hlow:∀ j,j<c→p j=false) (hp:p c=true) (hq:∀ j,j<n→q j=(p j&&decide (j≠c))):(List.range n).filter p=c :: (List.range n).filter q:=by
 have e:List.range n=List.range c++(c :: (List.range (n - c - 1)).map (c+1+·)):=by
  apply List.ext_getElem
  ·simp;omega
  ·intro i h1 h2
   simp only [List.length_range] at h1
   rw [List.getElem_range,List.getElem_append]
   split
   ·simp
   ·rename_i h
    simp only [List.length_range] at h ⊢
    obtain ⟨d,hd⟩:∃ d,i=c+d:=⟨i - c,by omega⟩
    subst hd
    cases d with
    |zero=>simp
    |succ d=>simp [show c+(d+1) - c=d+1 by omega];omega
 have hq':∀ j,j∈List.range n→q j=(p j&&decide (j≠c)):=fun j hj=>hq j (List.mem_range.1 hj)
 rw [List.filter_congr hq',e,List.filter_append,List.filter_append]
 have h1:(List.range c).filter p=[]:=by
  rw [List.filter_eq_nil_iff];intro j hj;rw [hlow j (List.mem_range.1 hj)];simp
 have h2:(List.range c).filter (fun j=>p j&&decide (j≠c))=[]:=by
  rw [List.filter_eq_nil_iff];intro j hj;rw [hlow j (List.mem_range.1 hj)];simp
 rw [h1,h2,List.nil_append,List.nil_append,List.filter_cons_of_pos hp,List.filter_cons_of_neg (by simp)]
 congr 1
 apply List.filter_congr
 intro j hj
 obtain ⟨d,_,rfl⟩:=List.mem_map.1 hj
 simp;omega
theorem bits_cons {w:Wd} (h:w≠0):bitsOf w=Lib.ctz 64 w.toNat :: bitsOf (w &&& (w - 1)):=by
 obtain ⟨h1,h2,h3,h4⟩:=ctz_low h
 exact filter_first h1 h2 h3 h4
def elemsW (ws:List Wd) (a b:Int):List Nat:=(List.range (64 * ws.length)).filter fun (i:Nat)=>bit ws i&&decide (a≤(i:Int)∧(i:Int)<b)
theorem range_add (n m:Nat):List.range (n+m)=List.range n++(List.range m).map (n+·):=List.range_add
theorem elems_take {ws:List Wd} {k:Nat} (h:k<ws.length) (a b:Int):(List.range (64 * (k+1))).filter (fun (i:Nat)=>bit ws i&&decide (a≤(i:Int)∧(i:Int)<b))
  = (List.range (64 * k)).filter (fun (i:Nat)=>bit ws i&&decide (a≤(i:Int)∧(i:Int)<b))++(bitsOf (ws[k] &&& maskW k a b)).map (64 * k+·):=by
 rw [show 64 * (k+1)=64 * k+64 by omega,List.range_add,List.filter_append,List.filter_map]
 congr 2
 unfold bitsOf
 apply List.filter_congr
 intro j hj
 have hj:=List.mem_range.1 hj
 rw [BitVec.getLsbD_and,mask_bit k a b hj]
 show (bit ws (64 * k+j)&&_)=_
 rw [bit_at h hj]
 push_cast
 rfl
def setW (ws:List Wd) (a b:Int):List Wd:=ws.mapIdx fun k w=>w ||| maskW k a b
theorem bit_set {ws:List Wd} {a b:Int} {i:Nat} (h:i<64 * ws.length):bit (setW ws a b) i=(bit ws i || decide (a≤(i:Int)∧(i:Int)<b)):=by
 have hk:i / 64<ws.length:=by omega
 have hk2:i / 64<(setW ws a b).length:=by simp [setW,hk]
 rw [bit_of hk,bit_of hk2]
 simp only [setW,List.getElem_mapIdx,BitVec.getLsbD_or]
 rw [mask_bit _ _ _ (Nat.mod_lt _ (by decide))]
 congr 2
 have:(64 * ((i / 64:Nat):Int))+((i % 64:Nat):Int)=(i:Int):=by omega
 rw [this]
def zipB (f:Wd→Wd→Wd) (a b:List Wd):List Wd:=List.zipWith f a b
theorem bit_zip {f:Wd→Wd→Wd} {g:Bool→Bool→Bool} (hf:∀ x y j,j<64→(f x y).getLsbD j=g (x.getLsbD j) (y.getLsbD j)) {a b:List Wd} (hl:a.length=b.length) {i:Nat} (h:i<64 * a.length):bit (zipB f a b) i=g (bit a i) (bit b i):=by
 have hk:i / 64<a.length:=by omega
 have hk1:i / 64<b.length:=by omega
 have hk2:i / 64<(zipB f a b).length:=by simp [zipB];omega
 rw [bit_of hk,bit_of hk1,bit_of hk2]
 simp only [zipB,List.getElem_zipWith]
 rw [hf _ _ _ (Nat.mod_lt _ (by decide))]
/-! Well-formed bitmaps. -/
def wdsN (n:Int):Int:=(n+63) / 64
def okB (b:Bm):Bool:=decide (0≤b.size∧b.size≤4096∧(b.ws.length:Int)=wdsN b.size)&&(List.range (64 * b.ws.length)).all fun (i:Nat)=>decide ((i:Int)<b.size) || !bit b.ws i
theorem okB_iff {b:Bm}:okB b=true ↔ (0≤b.size∧b.size≤4096∧(b.ws.length:Int)=wdsN b.size)∧∀ i:Nat,b.size≤(i:Int)→bit b.ws i=false:=by
 unfold okB
 simp only [Bool.and_eq_true,decide_eq_true_eq,List.all_eq_true,List.mem_range,Bool.or_eq_true,Bool.not_eq_true']
 refine and_congr Iff.rfl ⟨fun h i hi=>?_,fun h i hi=>?_⟩
 ·by_cases c:i<64 * b.ws.length
  ·exact (h i c).resolve_left (by omega)
  ·exact bit_out (by omega)
 ·by_cases c:(i:Int)<b.size
  ·exact .inl c
  ·exact .inr (h i (by omega))
theorem okB_size {b:Bm} (h:okB b=true):0≤b.size∧b.size≤4096∧b.ws.length≤64∧b.size≤64 * (b.ws.length:Int)∧64 * (b.ws.length:Int)<b.size+64:=by
 have:=(okB_iff.1 h).1
 unfold wdsN at this
 omega
theorem rest_iff {b:Bm} (h:0≤b.size∧b.size≤4096∧(b.ws.length:Int)=wdsN b.size):okB b=true ↔ (b.size % 64=0∨∀ (hw:b.ws.length - 1<b.ws.length),b.ws[b.ws.length - 1] >>> (b.size % 64).toNat=0):=by
 rw [okB_iff]
 unfold wdsN at h ⊢
 constructor
 ·rintro ⟨_,h2⟩
  by_cases c:b.size % 64=0
  ·exact .inl c
  ·refine .inr fun hw=>?_
   apply BitVec.eq_of_getLsbD_eq
   intro j hj
   rw [BitVec.getLsbD_ushiftRight]
   by_cases cj:(b.size % 64).toNat+j<64
   ·rw [← bit_at hw cj,h2 _ (by omega)];simp
   ·rw [BitVec.getLsbD_of_ge _ _ (by omega)];simp
 ·intro hr
  refine ⟨by omega,fun i hi=>?_⟩
  by_cases c:i<64 * b.ws.length
  ·have hw:b.ws.length - 1<b.ws.length:=by omega
   have hk:i / 64=b.ws.length - 1:=by omega
   rcases hr with hr|hr
   ·omega
   ·have:=congrArg (fun w:Wd=>w.getLsbD (i % 64 - (b.size % 64).toNat)) (hr hw)
    simp only [BitVec.getLsbD_ushiftRight,BitVec.getLsbD_zero] at this
    rw [show (b.size % 64).toNat+(i % 64 - (b.size % 64).toNat)=i % 64 by omega] at this
    rw [show i=64 * (b.ws.length - 1)+i % 64 by omega,bit_at hw (Nat.mod_lt _ (by decide))]
    simpa using this
  ·exact bit_out (by omega)
def bmExts (b:Bm):List Exn:=ext (bit b.ws) b.size.toNat
def bmE (b:Bm):Int:=if okB b then 0 else 3
theorem elems_ok {b:Bm} (h:okB b=true) (a:Int) (ha:a≤0):elemsW b.ws a b.size=(List.range b.size.toNat).filter (bit b.ws):=by
 unfold elemsW
 obtain ⟨h1,h2,h3,h4,h5⟩:=okB_size h
 rw [show 64 * b.ws.length=b.size.toNat+(64 * b.ws.length - b.size.toNat) by omega,List.range_add,List.filter_append]
 have e:(((List.range (64 * b.ws.length - b.size.toNat)).map (b.size.toNat+·)).filter fun (i:Nat)=>bit b.ws i&&decide (a≤(i:Int)∧(i:Int)<b.size))=[]:=by
  rw [List.filter_eq_nil_iff]
  intro i hi
  obtain ⟨d,_,rfl⟩:=List.mem_map.1 hi
  rw [decide_eq_false (by omega)];simp
 rw [e,List.append_nil]
 apply List.filter_congr
 intro i hi
 have hi:=List.mem_range.1 hi
 rw [decide_eq_true (by omega),Bool.and_true]
end Go.Proofs.YtioijcfcehhmdaaGreatDoor.V

namespace Go.Proofs.YtioijcfcehhmdaaGreatDoor.V
theorem bmE_ok {b:Bm} (h:okB b=true):bmE b=0:=by unfold bmE;rw [if_pos h]
theorem bmE_no {b:Bm} (h:okB b=false):bmE b=3:=by unfold bmE;rw [if_neg (by rw [h];exact Bool.false_ne_true)]
theorem q64 {n:Int} (h:0≤n):(n+64 - 1).tdiv 64=wdsN n:=by
 unfold wdsN;rw [Int.tdiv_eq_ediv_of_nonneg (by omega)];congr 1;omega
theorem z64:((64:Int)=0)=False:=eq_false (by decide)
theorem cal121 {n:Int} (h:0≤n∧n≤4096):cal env 121 [.int .i64 n]=some [(.int .i64 (wdsN n),false)]:=by
 have W1:IntKind.i64.wrap (n+64)=n+64:=i64_fits (by omega)
 have W2:IntKind.i64.wrap (n+64 - 1)=n+64 - 1:=i64_fits (by omega)
 have W3:IntKind.i64.wrap (wdsN n)=wdsN n:=i64_fits (by unfold wdsN;omega)
 rw [cal_code env121 rfl];simp only [fn121];simp only [start,z_map_cons,z_map_nil,z_len_cons,z_len_nil,z_repl_zero,z_repl_succ,z_cons_app,z_nil_app,Nat.reduceAdd,Nat.reduceSub]
 simp only [W1,W2,q64 h.1,W3,z64,memAll,vAll,reduceCtorEq,Nat.reduceEqDiff,Nat.reduceAdd,Nat.reduceLT,Nat.reduceLeDiff,Nat.beq]
theorem cal90 {b:Bm}:cal env 90 [eBm b]=some [(.int .i64 (bmE b),false)]:=by
 unfold eBm
 have P:∀ x y:PV,part [x,y] 0 (some 2)=some (.agg [x,y]):=fun _ _=>rfl
 by_cases c0:b.size<0
 ·have hE:bmE b=3:=bmE_no (by rw [Bool.eq_false_iff];intro h;have:=okB_size h;omega)
  rw [hE]
  rw [cal_code env90 rfl];simp only [fn90];simp only [start,z_map_cons,z_map_nil,z_len_cons,z_len_nil,z_repl_zero,z_repl_succ,z_cons_app,z_nil_app,Nat.reduceAdd,Nat.reduceSub]
  simp only [c0,P,memAll,vAll,reduceCtorEq,Nat.reduceEqDiff,Nat.reduceAdd,Nat.reduceLT,Nat.reduceLeDiff,Nat.beq]
 ·by_cases c1:b.size > 4096
  ·have hE:bmE b=3:=bmE_no (by rw [Bool.eq_false_iff];intro h;have:=okB_size h;omega)
   rw [hE]
   have F1:(b.size > 4096)=True:=eq_true c1
   rw [cal_code env90 rfl];simp only [fn90];simp only [start,z_map_cons,z_map_nil,z_len_cons,z_len_nil,z_repl_zero,z_repl_succ,z_cons_app,z_nil_app,Nat.reduceAdd,Nat.reduceSub]
   simp only [c0,F1,P,memAll,vAll,reduceCtorEq,Nat.reduceEqDiff,Nat.reduceAdd,Nat.reduceLT,Nat.reduceLeDiff,Nat.beq]
  ·have F1:(b.size > 4096)=False:=eq_false c1
   have e1:=cal121 (n:=b.size) (by omega)
   by_cases c2:(b.ws.length:Int)=wdsN b.size
   ·have F2:((b.ws.length:Int) != wdsN b.size)=false:=by simp [c2]
    have hr:=rest_iff (b:=b) ⟨by omega,by omega,c2⟩
    have hw:=c2
    unfold wdsN at hw
    have M:b.size.tmod 64=b.size % 64:=Int.tmod_eq_emod_of_nonneg (by omega)
    by_cases c3:b.size % 64=0
    ·have hE:bmE b=0:=bmE_ok (hr.2 (.inl c3))
     rw [hE]
     have F3:(b.size % 64 > 0)=False:=eq_false (by omega)
     rw [cal_code env90 rfl];simp only [fn90];simp only [start,z_map_cons,z_map_nil,z_len_cons,z_len_nil,z_repl_zero,z_repl_succ,z_cons_app,z_nil_app,Nat.reduceAdd,Nat.reduceSub]
     simp only [c0,F1,F2,F3,M,e1,z64,P,memAll,vAll,reduceCtorEq,Nat.reduceEqDiff,Nat.reduceAdd,Nat.reduceLT,Nat.reduceLeDiff,Nat.beq]
    ·have F3:(b.size % 64 > 0)=True:=eq_true (by omega)
     have hi:b.ws.length - 1<b.ws.length:=by omega
     have W:IntKind.i64.wrap ((b.ws.length:Int) - 1)=((b.ws.length - 1:Nat):Int):=by rw [i64_fits (by omega)];omega
     have S0:(b.size % 64<0)=False:=eq_false (by omega)
     have S:=w_shr b.ws[b.ws.length - 1] (s:=b.size % 64) (n:=(b.size % 64).toNat) (by omega)
     have B:=w_beq (b.ws[b.ws.length - 1] >>> (b.size % 64).toNat) 0
     have B0:((0:Wd).toNat:Int)=0:=rfl
     rw [B0] at B
     have B':(((b.ws[b.ws.length - 1] >>> (b.size % 64).toNat).toNat:Int) != 0)=!decide (b.ws[b.ws.length - 1] >>> (b.size % 64).toNat=0):=by unfold bne;rw [B]
     by_cases c4:b.ws[b.ws.length - 1] >>> (b.size % 64).toNat=0
     ·have hE:bmE b=0:=bmE_ok (hr.2 (.inr fun _=>c4))
      rw [hE]
      rw [decide_eq_true c4] at B'
      rw [cal_code env90 rfl];simp only [fn90];simp only [start,z_map_cons,z_map_nil,z_len_cons,z_len_nil,z_repl_zero,z_repl_succ,z_cons_app,z_nil_app,Nat.reduceAdd,Nat.reduceSub]
      simp only [c0,F1,F2,F3,M,e1,z64,P,W,S0,S,B',index_nat hi,eW,List.getElem?_map,List.getElem?_eq_getElem hi,memAll,vAll,reduceCtorEq,Nat.reduceEqDiff,Nat.reduceAdd,Nat.reduceLT,Nat.reduceLeDiff,Nat.beq]
     ·have hE:bmE b=3:=bmE_no (by
       rw [Bool.eq_false_iff];intro h
       rcases hr.1 h with h|h
       ·exact c3 h
       ·exact c4 (h hi))
      rw [hE]
      rw [decide_eq_false c4] at B'
      rw [cal_code env90 rfl];simp only [fn90];simp only [start,z_map_cons,z_map_nil,z_len_cons,z_len_nil,z_repl_zero,z_repl_succ,z_cons_app,z_nil_app,Nat.reduceAdd,Nat.reduceSub]
      simp only [c0,F1,F2,F3,M,e1,z64,P,W,S0,S,B',index_nat hi,eW,List.getElem?_map,List.getElem?_eq_getElem hi,memAll,vAll,reduceCtorEq,Nat.reduceEqDiff,Nat.reduceAdd,Nat.reduceLT,Nat.reduceLeDiff,Nat.beq]
   ·have F2:((b.ws.length:Int) != wdsN b.size)=true:=by simp [c2]
    have hE:bmE b=3:=bmE_no (by rw [Bool.eq_false_iff];intro h;exact c2 (okB_iff.1 h).1.2.2)
    rw [hE]
    rw [cal_code env90 rfl];simp only [fn90];simp only [start,z_map_cons,z_map_nil,z_len_cons,z_len_nil,z_repl_zero,z_repl_succ,z_cons_app,z_nil_app,Nat.reduceAdd,Nat.reduceSub]
    simp only [c0,F1,F2,e1,P,memAll,vAll,reduceCtorEq,Nat.reduceEqDiff,Nat.reduceAdd,Nat.reduceLT,Nat.reduceLeDiff,Nat.beq]
theorem cal147 {k:Nat} {a b:Int} (hk:k≤100000) (ha:-1000000≤a∧a≤1000000) (hb':-1000000≤b∧b≤1000000):cal env 147 [.int .i64 (k:Nat),.int .i64 a,.int .i64 b]=some [(eW (maskW k a b),false)]:=by
 have W0:IntKind.i64.wrap ((k:Int) * 64)=64 * (k:Int):=by rw [i64_fits (by omega)];omega
 have W1:IntKind.i64.wrap (a - 64 * (k:Int))=a - 64 * (k:Int):=i64_fits (by omega)
 have W2:IntKind.i64.wrap (b - 64 * (k:Int))=b - 64 * (k:Int):=i64_fits (by omega)
 have X1:(if a - 64 * (k:Int)<0 then 0 else a - 64 * (k:Int))=max (a - 64 * (k:Int)) 0:=by split<;>omega
 have X2:(if 64<b - 64 * (k:Int) then 64 else b - 64 * (k:Int))=min (b - 64 * (k:Int)) 64:=by split<;>omega
 unfold maskW eW
 generalize hf:max (a - 64 * (k:Int)) 0=f at X1 ⊢
 generalize ht:min (b - 64 * (k:Int)) 64=t at X2 ⊢
 by_cases c:f ≥ t
 ·have F1:(f ≥ t)=True:=eq_true c
  rw [if_pos c]
  have B0:((0:Wd).toNat:Int)=0:=rfl
  rw [B0]
  rw [cal_code env147 rfl];simp only [fn147];simp only [start,z_map_cons,z_map_nil,z_len_cons,z_len_nil,z_repl_zero,z_repl_succ,z_cons_app,z_nil_app,Nat.reduceAdd,Nat.reduceSub]
  simp only [W0,W1,W2,X1,X2,F1,memAll,vAll,reduceCtorEq,Nat.reduceEqDiff,Nat.reduceAdd,Nat.reduceLT,Nat.reduceLeDiff,Nat.beq]
 ·have F1:(f ≥ t)=False:=eq_false c
  rw [if_neg c]
  have W3:IntKind.i64.wrap (t - f)=t - f:=i64_fits (by omega)
  have W4:IntKind.i64.wrap (64 - (t - f))=64 - (t - f):=i64_fits (by omega)
  have A:(18446744073709551615:Int)=((BitVec.allOnes 64).toNat:Int):=rfl
  have S0:(64 - (t - f)<0)=False:=eq_false (by omega)
  have S1:(f<0)=False:=eq_false (by omega)
  have S2:=w_shr (BitVec.allOnes 64) (s:=64 - (t - f)) (n:=(64 - (t - f)).toNat) (by omega)
  have S3:=w_shl (BitVec.allOnes 64 >>> (64 - (t - f)).toNat) (s:=f) (n:=f.toNat) (by omega)
  rw [← A] at S2
  rw [cal_code env147 rfl];simp only [fn147];simp only [start,z_map_cons,z_map_nil,z_len_cons,z_len_nil,z_repl_zero,z_repl_succ,z_cons_app,z_nil_app,Nat.reduceAdd,Nat.reduceSub]
  simp only [W0,W1,W2,W3,W4,X1,X2,F1,S0,S1,S2,S3,memAll,vAll,reduceCtorEq,Nat.reduceEqDiff,Nat.reduceAdd,Nat.reduceLT,Nat.reduceLeDiff,Nat.beq]
end Go.Proofs.YtioijcfcehhmdaaGreatDoor.V

namespace Go.Proofs.YtioijcfcehhmdaaGreatDoor.V
def eB2 (b:Bm):List PV:=[.int .i64 b.size,.list 1 (b.ws.map eW)]
def tz (w:Wd):Nat:=Lib.ctz 64 w.toNat
theorem cal150 {w:Wd}:cal env 150 [.int .u64 (w.toNat:Int)]=some [(.int .i64 (tz w:Nat),false)]:=by
 rw [cal_ext env150]
 have:=w.isLt
 have e:tzX [.int .u64 (w.toNat:Int)]=if (0:Int)≤(w.toNat:Int)∧(w.toNat:Int)<18446744073709551616 then some [(.int .i64 (Lib.ctz 64 (w.toNat:Int).toNat:Nat),false)] else none:=rfl
 rw [e,if_pos (by omega),Int.toNat_natCast]
 rfl
theorem loop149 {b:Bm} {a:Int} {k:Nat} {w0:Wd} {ys0:List (List PV)} (hk:k≤100000)
  {st:St} (h:st.head [0,1,2,4,5,10,11,12] st.boxes.length=some ⟨[.yld,.pv (.iptr (eB2 b) 0),.pv (.iptr [.int .i64 a] 0),.any,.pv (.int .i64 (k:Nat)),.pv (eW w0),.any,.any,.any,.any,.pv (.list 1 (b.ws.map eW)),.pv (.int .i64 b.ws.length),.pv (.int .i64 (k:Nat)),.any,.any,.any,.any,.any,.any,.any,.any,.any,.any,.any,.any,.any,.any,.any,.any,.any,.any,.any,.any,.any,.any,.any,.any,.any,.any],[],ys0,some none⟩) :
  den env fn149_l1 st=some (.normal,⟨[.yld,.pv (.iptr (eB2 b) 0),.pv (.iptr [.int .i64 a] 0),.any,.any,.any,.any,.any,.any,.any,.pv (.list 1 (b.ws.map eW)),.pv (.int .i64 b.ws.length),.pv (.int .i64 (k:Nat)),.any,.any,.any,.any,.any,.any,.any,.any,.any,.any,.any,.any,.any,.any,.any,.any,.any,.any,.any,.any,.any,.any,.any,.any,.any,.any],[],ys0++yI ((bitsOf w0).map (64 * k+·)),some none⟩):=by
 unfold fn149_l1
 refine clean_rec (env:=env) (fun p:Wd × List (List PV)=>⟨[.yld,.pv (.iptr (eB2 b) 0),.pv (.iptr [.int .i64 a] 0),.any,.pv (.int .i64 (k:Nat)),.pv (eW p.1),.any,.any,.any,.any,.pv (.list 1 (b.ws.map eW)),.pv (.int .i64 b.ws.length),.pv (.int .i64 (k:Nat)),.any,.any,.any,.any,.any,.any,.any,.any,.any,.any,.any,.any,.any,.any,.any,.any,.any,.any,.any,.any,.any,.any,.any,.any,.any,.any],[],p.2,some none⟩)
  (fun p=>some (.normal,⟨[.yld,.pv (.iptr (eB2 b) 0),.pv (.iptr [.int .i64 a] 0),.any,.any,.any,.any,.any,.any,.any,.pv (.list 1 (b.ws.map eW)),.pv (.int .i64 b.ws.length),.pv (.int .i64 (k:Nat)),.any,.any,.any,.any,.any,.any,.any,.any,.any,.any,.any,.any,.any,.any,.any,.any,.any,.any,.any,.any,.any,.any,.any,.any,.any,.any],[],p.2++yI ((bitsOf p.1).map (64 * k+·)),some none⟩)) (fun _=>True) (fun p=>(bitsOf p.1).length) (w0,ys0) h trivial (fun _=>rfl) (fun _=>rfl) ?_
 rintro ⟨w,ys⟩ rb _ ih
 simp only [eW] at ih ⊢
 have B:=w_beq w 0
 have B0:((0:Wd).toNat:Int)=0:=rfl
 rw [B0] at B
 have B':((w.toNat:Int) != 0)=!decide (w=0):=by unfold bne;rw [B]
 by_cases c:w=0
 ·rw [decide_eq_true c] at B'
  subst c
  simp only [fn149_b0,B',bits_zero,List.map_nil,memAll,vAll,reduceCtorEq,Nat.reduceEqDiff,Nat.reduceAdd,Nat.reduceLT,Nat.reduceLeDiff,Nat.beq]
  simp only [yI,List.map_nil,List.append_nil]
  rfl
 ·rw [decide_eq_false c] at B'
  have e1:=cal150 (w:=w)
  have ht:=(ctz_low c).1
  have W0:IntKind.i64.wrap ((k:Int) * 64)=64 * (k:Int):=by rw [i64_fits (by omega)];omega
  have W1:IntKind.i64.wrap (64 * (k:Int)+((tz w:Nat):Int))=((64 * k+tz w:Nat):Int):=by unfold tz;rw [i64_fits (by omega)];omega
  have W2:=w_sub w 1
  have W3:=w_and w (w - 1)
  have B1:((1:Wd).toNat:Int)=1:=rfl
  rw [B1] at W2
  have hc:=bits_cons c
  simp only [fn149_b0,B',e1,W0,W1,W2,W3,memAll,vAll,reduceCtorEq,Nat.reduceEqDiff,Nat.reduceAdd,Nat.reduceLT,Nat.reduceLeDiff,Nat.beq]
  rw [ih (w &&& (w - 1),ys++[[.int .i64 ((64 * k+tz w:Nat):Int)]]) (by simp only;rw [hc,List.length_cons];omega) trivial _ rfl]
  rw [hc]
  simp only [yI,List.map_cons,List.append_assoc,List.cons_append,List.nil_append]
  rfl
theorem loop149b {b:Bm} {a:Int} (hb:b.ws.length≤64) (hs:0≤b.size∧b.size≤4096) (ha:-1000000≤a∧a≤1000000)
  {st:St} (h:st.head [0,1,2,10,11,12] st.boxes.length=some ⟨[.yld,.pv (.iptr (eB2 b) 0),.pv (.iptr [.int .i64 a] 0),.any,.any,.any,.any,.any,.any,.any,.pv (.list 1 (b.ws.map eW)),.pv (.int .i64 b.ws.length),.pv (.int .i64 (0:Nat)),.any,.any,.any,.any,.any,.any,.any,.any,.any,.any,.any,.any,.any,.any,.any,.any,.any,.any,.any,.any,.any,.any,.any,.any,.any,.any],[],[],some none⟩) :
  den env fn149_l3 st=some (.normal,⟨[.any,.any,.any,.any,.any,.any,.any,.any,.any,.any,.any,.any,.any,.any,.any,.any,.any,.any,.any,.any,.any,.any,.any,.any,.any,.any,.any,.any,.any,.any,.any,.any,.any,.any,.any,.any,.any,.any,.any],[],yI (elemsW b.ws a b.size),some none⟩):=by
 unfold fn149_l3
 refine clean_up (env:=env) b.ws.length (fun k=>⟨[.yld,.pv (.iptr (eB2 b) 0),.pv (.iptr [.int .i64 a] 0),.any,.any,.any,.any,.any,.any,.any,.pv (.list 1 (b.ws.map eW)),.pv (.int .i64 b.ws.length),.pv (.int .i64 k),.any,.any,.any,.any,.any,.any,.any,.any,.any,.any,.any,.any,.any,.any,.any,.any,.any,.any,.any,.any,.any,.any,.any,.any,.any,.any],[],yI ((List.range (64 * k)).filter fun (i:Nat)=>bit b.ws i&&decide (a≤(i:Int)∧(i:Int)<b.size)),some none⟩)
  (fun _=>some (.normal,⟨[.any,.any,.any,.any,.any,.any,.any,.any,.any,.any,.any,.any,.any,.any,.any,.any,.any,.any,.any,.any,.any,.any,.any,.any,.any,.any,.any,.any,.any,.any,.any,.any,.any,.any,.any,.any,.any,.any,.any],[],yI (elemsW b.ws a b.size),some none⟩)) h (fun _=>rfl) (fun _=>rfl) ?_ ?_
 ·intro k rb hi ih
  have hi1:=i64_next hi (by unfold lim;omega)
  have F1:((k:Int)<(b.ws.length:Int))=True:=eq_true (by omega)
  have e1:=cal147 (k:=k) (a:=a) (b:=b.size) (by omega) ha (by omega)
  have W3:=w_and b.ws[k] (maskW k a b.size)
  rw [elems_take hi] at ih
  unfold eW at e1
  simp only [fn149_b2,F1,e1,W3,eB2,eW,index_nat hi,List.getElem?_map,List.getElem?_eq_getElem hi,memAll,vAll,reduceCtorEq,Nat.reduceEqDiff,Nat.reduceAdd,Nat.reduceLT,Nat.reduceLeDiff,Nat.beq]
  rw [loop149 (b:=b) (a:=a) (k:=k) (w0:=b.ws[k] &&& maskW k a b.size) (ys0:=yI ((List.range (64 * k)).filter fun (i:Nat)=>bit b.ws i&&decide (a≤(i:Int)∧(i:Int)<b.size))) (by omega)]
  rotate_left
  ·rfl
  simp only [memAll,vAll,reduceCtorEq,Nat.reduceEqDiff,Nat.reduceAdd,Nat.reduceLT,Nat.reduceLeDiff,Nat.beq]
  rw [ih _ (by simp only [hi1];simp only [yI,List.map_append];rfl)]
 ·intro rb
  simp only [fn149_b2,Int.lt_irrefl,memAll,vAll,reduceCtorEq,Nat.reduceEqDiff,Nat.reduceAdd,Nat.reduceLT,Nat.reduceLeDiff,Nat.beq]
  rfl
theorem iter149 {b:Bm} {a:Int} (ha:-1000000≤a∧a≤1000000):iter env 149 [.iptr (eB2 b) 0,.iptr [.int .i64 a] 0] none=some (yI (if okB b then elemsW b.ws a b.size else [])):=by
 have P:part (eB2 b) 0 (some 2)=some (eBm b):=rfl
 have e1:=cal90 (b:=b)
 rw [iter_code env149 rfl rfl]
 simp only [fn149,ystart,z_map_cons,z_map_nil,z_len_cons,z_len_nil,z_repl_zero,z_repl_succ,z_cons_app,z_nil_app,Nat.reduceAdd,Nat.reduceSub]
 cases c:okB b with
 |false =>
  rw [bmE_no c] at e1
  have Z:((3:Int) != 0)=true:=rfl
  simp only [P,e1,Z,vRng,memAll,vAll,reduceCtorEq,Nat.reduceEqDiff,Nat.reduceAdd,Nat.reduceLT,Nat.reduceLeDiff,Nat.beq]
  rfl
 |true =>
  rw [bmE_ok c] at e1
  have Z:((0:Int) != 0)=false:=rfl
  obtain ⟨h1,h2,h3,_⟩:=okB_size c
  have P2:part (eB2 b) 1 none=some (.list 1 (b.ws.map eW)):=rfl
  simp only [P,P2,e1,Z,List.length_map,vRng,memAll,vAll,reduceCtorEq,Nat.reduceEqDiff,Nat.reduceAdd,Nat.reduceLT,Nat.reduceLeDiff,Nat.beq]
  rw [loop149b (a:=a) h3 ⟨h1,h2⟩ ha]
  rotate_left
  ·rfl
  ·rfl
theorem cal126 {b:Bm} {a:Int}:cal env 126 [eBm b,.int .i64 a]=some [(.func 149 [.iptr (eB2 b) 0,.iptr [.int .i64 a] 0],false)]:=by
 unfold eBm eB2
 rw [cal_code env126 rfl];simp only [fn126];simp only [start,z_map_cons,z_map_nil,z_len_cons,z_len_nil,z_repl_zero,z_repl_succ,z_cons_app,z_nil_app,Nat.reduceAdd,Nat.reduceSub]
 simp only [ memAll,vAll,reduceCtorEq,Nat.reduceEqDiff,Nat.reduceAdd,Nat.reduceLT,Nat.reduceLeDiff,Nat.beq]
end Go.Proofs.YtioijcfcehhmdaaGreatDoor.V

namespace Go.Proofs.YtioijcfcehhmdaaGreatDoor
def look:List (Nat × AV)→Nat→AV
 |[],_=>.any
 |(j,v) :: l,i=>bcase (Nat.beq i j) v (look l i)
def sl (n:Nat) (l:List (Nat × AV)):List AV:=(List.range n).map (look l)
def mapA (f:AV→AV):List (Nat × AV)→List (Nat × AV)
 |[]=>[]
 |(j,v) :: l=>(j,f v) :: mapA f l
def keepA (l:List (Nat × AV)):List Nat→List (Nat × AV)
 |[]=>[]
 |k :: ks=>(k,look l k) :: keepA l ks
def argsA:Nat→List PV→List (Nat × AV)
 |_,[]=>[]
 |k,v :: l=>(k,.pv v) :: argsA (k+1) l
def lowA (nb:Nat):List (Nat × AV)→Bool
 |[]=>true
 |(_,v) :: l=>AV.low nb v&&lowA nb l
def insA (n:Nat):List Nat→Bool
 |[]=>true
 |k :: ks=>decide (k<n)&&insA n ks
theorem look_hit (i:Nat) (v:AV) (l:List (Nat × AV)):look ((i,v) :: l) i=v:=by
 show bcase (Nat.beq i i) v _=v
 rw [Nat.beq_refl];rfl
theorem look_nil (i:Nat):look [] i=.any:=(rfl)
theorem sl_get {n i:Nat} {l:List (Nat × AV)} (h':i<n):(sl n l).getD i .any=look l i:=by
 simp [sl,List.getD_eq_getElem?_getD,h']
theorem sl_some {n i:Nat} {l:List (Nat × AV)} (h':i<n):(sl n l)[i]?=some (look l i):=by
 simp [sl,h']
theorem look_cons (l:List (Nat × AV)) (i j:Nat) (v:AV):look ((j,v) :: l) i=if i=j then v else look l i:=by
 show bcase (Nat.beq i j) v _=_
 by_cases h:i=j
 ·subst h;rw [Nat.beq_refl,if_pos rfl];rfl
 ·rw [if_neg h]
  have:Nat.beq i j=false:=by
   cases e:Nat.beq i j with
   |false=>rfl
   |true=>exact absurd (Nat.eq_of_beq_eq_true e) h
  rw [this];rfl
theorem sl_set (n i:Nat) (v:AV) (l:List (Nat × AV)):(sl n l).set i v=sl n ((i,v) :: l):=by
 apply List.ext_getElem (by simp [sl])
 intro k h1 h2
 have hk:k<n:=by simpa [sl] using h2
 simp only [sl,List.getElem_set,List.getElem_map,List.getElem_range,look_cons]
 by_cases h:i=k
 ·subst h;simp
 ·rw [if_neg h,if_neg (fun e=>h e.symm)]
theorem look_skip {i j:Nat} {v:AV} {l:List (Nat × AV)} (h:(i==j)=false):look ((j,v) :: l) i=look l i:=by
 rw [look_cons,if_neg (by simpa using h)]
theorem look_mapA (f:AV→AV) (hf:f .any=.any):∀ (l:List (Nat × AV)) (i:Nat),look (mapA f l) i=f (look l i)
 |[],i=>hf.symm
 |(j,v) :: l,i=>by
  show look ((j,f v) :: mapA f l) i=_
  rw [look_cons,look_cons,look_mapA f hf l i]
  split<;>rfl
theorem sl_map {f:AV→AV} (hf:f .any=.any) (n:Nat) (l:List (Nat × AV)):(sl n l).map f=sl n (mapA f l):=by
 unfold sl
 rw [List.map_map]
 apply List.map_congr_left
 intro i _
 exact (look_mapA f hf l i).symm
theorem sl_kill (n d:Nat) (l:List (Nat × AV)):(sl n l).map (AV.kill d)=sl n (mapA (AV.kill d) l):=sl_map rfl n l
theorem sl_killc (n d:Nat) (l:List (Nat × AV)):(sl n l).map (AV.killCell d)=sl n (mapA (AV.killCell d) l):=sl_map rfl n l
theorem sl_froze (n:Nat) (l:List (Nat × AV)):(sl n l).map AV.froze=sl n (mapA AV.froze l):=sl_map rfl n l
theorem mapA_nil (f:AV→AV):mapA f []=[]:=(rfl)
theorem mapA_cons (f:AV→AV) (j:Nat) (v:AV) (l:List (Nat × AV)):mapA f ((j,v) :: l)=(j,f v) :: mapA f l:=(rfl)
theorem keepA_nil (l:List (Nat × AV)):keepA l []=[]:=(rfl)
theorem keepA_cons (l:List (Nat × AV)) (k:Nat) (ks:List Nat):keepA l (k :: ks)=(k,look l k) :: keepA l ks:=(rfl)
theorem lowA_nil (nb:Nat):lowA nb []=true:=(rfl)
theorem lowA_cons (nb k:Nat) (v:AV) (l:List (Nat × AV)):lowA nb ((k,v) :: l)=(AV.low nb v&&lowA nb l):=(rfl)
theorem insA_nil (n:Nat):insA n []=true:=(rfl)
theorem insA_cons (n k:Nat) (l:List Nat):insA n (k :: l)=(decide (k<n)&&insA n l):=(rfl)
theorem argsA_nil (k:Nat):argsA k []=[]:=(rfl)
theorem argsA_cons (k:Nat) (v:PV) (l:List PV):argsA k (v :: l)=(k,.pv v) :: argsA (k+1) l:=(rfl)
theorem look_keepA (l:List (Nat × AV)):∀ (ks:List Nat) (i:Nat),look (keepA l ks) i=if ks.contains i then look l i else .any
 |[],i=>rfl
 |k :: ks,i=>by
  rw [keepA_cons,look_cons,look_keepA l ks i,List.contains_cons]
  by_cases h:i=k
  ·subst h;simp
  ·have:(i==k)=false:=by simpa using h
   rw [if_neg h,this,Bool.false_or]
theorem lowA_iff (nb n:Nat) (l:List (Nat × AV)):∀ ks:List Nat,insA n ks=true→(lowA nb (keepA l ks)=true ↔ ∀ k∈ks,(look l k).low nb=true)
 |[],_=>by simp [keepA,lowA]
 |k :: ks,h=>by
  rw [insA_cons,Bool.and_eq_true] at h
  rw [keepA_cons,lowA_cons,Bool.and_eq_true,lowA_iff nb n l ks h.2]
  simp
theorem head_sl {n nb:Nat} {l:List (Nat × AV)} {keep:List Nat} {bx:List Box} {ys:List (List PV)} {sp:Option (Option Nat)} (h:insA n keep=true) (hb:nb≤bx.length) (hl:lowA nb (keepA l keep)=true) :
  St.head ⟨sl n l,bx,ys,sp⟩ keep nb=some ⟨sl n (keepA l keep),bx.take nb,ys,sp⟩:=by
 have e:((sl n l).zipIdx.map fun (v,i)=>if keep.contains i then v else AV.any)=sl n (keepA l keep):=by
  apply List.ext_getElem (by simp [sl])
  intro i h1 h2
  simp only [sl,List.getElem_map,List.getElem_zipIdx,List.getElem_range,look_keepA,Nat.zero_add]
 unfold St.head
 simp only
 rw [e,if_pos]
 rw [Bool.and_eq_true,decide_eq_true_eq]
 refine ⟨?_,hb⟩
 rw [List.all_eq_true]
 intro v hv
 unfold sl at hv
 obtain ⟨i,hi,rfl⟩:=List.mem_map.1 hv
 rw [look_keepA]
 split
 ·rename_i hc
  exact (lowA_iff nb n l keep h).1 hl i (by simpa using hc)
 ·rfl
theorem clean_sl {n nb:Nat} {e:Ex} {l:List (Nat × AV)} {keep:List Nat} {bx:List Box} {ys:List (List PV)} {sp:Option (Option Nat)} (h:insA n keep=true) (hb:nb≤bx.length) (hl:lowA nb (keepA l keep)=true) :
  cleanEnd keep nb (e,⟨sl n l,bx,ys,sp⟩)=some (e,⟨sl n (keepA l keep),bx.take nb,ys,sp⟩):=by
 unfold cleanEnd
 simp only
 rw [head_sl h hb hl]
 rfl
theorem look_argsA:∀ (l:List PV) (k i:Nat),look (argsA k l) i=if k≤i then ((l[i - k]?).map AV.pv).getD .any else .any:=by
 intro l
 induction l with
 |nil=>intro k i;simp [argsA,look]
 |cons v l ih =>
  intro k i
  rw [argsA_cons,look_cons,ih]
  by_cases h1:i=k
  ·subst h1;simp
  ·rw [if_neg h1]
   by_cases h2:k≤i
   ·rw [if_pos (by omega),if_pos h2,show i - k=(i - (k+1))+1 by omega,List.getElem?_cons_succ]
   ·rw [if_neg (by omega),if_neg h2]
theorem startL_sl {n:Nat} {x:LArg} {args:List PV} (hn:args.length+1≤n):startL n x args=⟨sl n ((0,x.av) :: argsA 1 args),x.boxes,[],none⟩:=by
 unfold startL
 congr 1
 apply List.ext_getElem (by simp [sl];omega)
 intro i h1 h2
 simp only [sl,List.getElem_map,List.getElem_range,look_cons,look_argsA]
 cases i with
 |zero=>simp
 |succ i =>
  rw [List.getElem_cons_succ,if_neg (by omega),if_pos (by omega),show i+1 - 1=i by omega]
  by_cases hi:i<args.length
  ·rw [List.getElem_append_left (by simpa using hi)]
   simp [hi]
  ·rw [List.getElem_append_right (by simp;omega)]
   simp [hi]
theorem start_sl {n:Nat} {args:List PV} (hn:args.length≤n):start n args=⟨sl n (argsA 0 args),[],[],none⟩:=by
 have key:=look_argsA
 unfold start
 congr 1
 apply List.ext_getElem (by simp [sl];omega)
 intro i h1 h2
 simp only [sl,List.getElem_map,List.getElem_range,key,Nat.zero_le,if_true,Nat.sub_zero]
 by_cases hi:i<args.length
 ·rw [List.getElem_append_left (by simpa using hi)]
  simp [hi]
 ·rw [List.getElem_append_right (by simp;omega)]
  simp [hi]
theorem low_pv (nb:Nat) (v:PV):AV.low nb (.pv v)=true:=(rfl)
theorem low_any (nb:Nat):AV.low nb .any=true:=(rfl)
theorem low_yld (nb:Nat):AV.low nb .yld=true:=(rfl)
theorem low_row (nb sz:Nat) (es:List PV):AV.low nb (.row sz es)=true:=(rfl)
theorem low_pbox (nb o j:Nat):AV.low nb (.pbox o j)=decide (o<nb):=(rfl)
theorem low_refs (nb t off len:Nat):AV.low nb (.ref (.slot t) off len)=true:=(rfl)
theorem low_refc (nb o j off len:Nat):AV.low nb (.ref (.cell o j) off len)=decide (o<nb):=(rfl)
theorem low_pels (nb t i j:Nat):AV.low nb (.pel (.slot t) i j)=true:=(rfl)
theorem low_pelc (nb o q i j:Nat):AV.low nb (.pel (.cell o q) i j)=decide (o<nb):=(rfl)
theorem low_fn (nb f:Nat) (caps:List AV):AV.low nb (.fn f caps)=caps.all fun c=>match c with
  |.pv _=>true
  |.pbox o _=>o<nb
  |_=>false:=(rfl)
def slAll:=And.intro @look_hit (And.intro @look_skip (And.intro @look_nil (And.intro @sl_get (And.intro @sl_some (And.intro @sl_set (And.intro @sl_kill (And.intro @sl_killc (And.intro @sl_froze (And.intro @mapA_nil (And.intro @mapA_cons (And.intro @keepA_nil (And.intro @keepA_cons (And.intro @lowA_nil (And.intro @lowA_cons (And.intro @insA_nil (And.intro @insA_cons (And.intro @argsA_nil (And.intro @argsA_cons (And.intro @head_sl (And.intro @clean_sl (And.intro @start_sl (And.intro @startL_sl (And.intro @low_pv (And.intro @low_any (And.intro @low_yld (And.intro @low_row (And.intro @low_pbox (And.intro @low_refs (And.intro @low_refc (And.intro @low_pels (And.intro @low_pelc (@low_fn))))))))))))))))))))))))))))))))
end Go.Proofs.YtioijcfcehhmdaaGreatDoor

namespace Go.Proofs.YtioijcfcehhmdaaGreatDoor.V
def fillR (l:List PV) (z:PV) (i:Nat):List PV:=l.take i++List.replicate (l.length - i) z
theorem fillR_len {l:List PV} {z:PV} {i:Nat} (h:i≤l.length):(fillR l z i).length=l.length:=by simp [fillR];omega
theorem fillR_get {l:List PV} {z:PV} {i:Nat} (h:i<l.length):(fillR l z i)[i]?=some z:=by
 unfold fillR
 have e:(l.take i).length=i:=by simp;omega
 rw [List.getElem?_append_right (by omega),e,Nat.sub_self,List.getElem?_replicate,if_pos (by omega)]
theorem fillR_set {l:List PV} {z x:PV} {i:Nat} (h:i<l.length) (hx:l[i]?=some x):(fillR l z i).set i x=fillR l z (i+1):=by
 unfold fillR
 have e:(l.take i).length=i:=by simp;omega
 rw [List.set_append_right _ _ (by omega),e,Nat.sub_self,show l.length - i=(l.length - (i+1))+1 by omega,List.replicate_succ,List.set_cons_zero,List.take_add_one,hx,Option.toList,List.append_assoc]
 rfl
theorem fillR_zero (l:List PV) (z:PV):fillR l z 0=List.replicate l.length z:=by simp [fillR]
theorem fillR_all (l:List PV) (z:PV):fillR l z l.length=l:=by simp [fillR]
theorem eBm_zero:eBm ⟨0,[]⟩=.agg [.int .i64 0,.list 1 []]:=rfl
def bothE (a b:Bm):Int:=if okB a=false then 3 else if okB b=false then 3 else if a.size≠b.size then 22 else 0
def bothO (f:Wd→Wd→Wd) (a b:Bm):Bm:=if bothE a b=0 then ⟨a.size,zipB f a.ws b.ws⟩ else ⟨0,[]⟩
theorem both_ok {a b:Bm} (h:bothE a b=0):okB a=true∧okB b=true∧a.size=b.size∧a.ws.length=b.ws.length:=by
 unfold bothE at h
 split at h
 ·omega
 ·split at h
  ·omega
  ·split at h
   ·omega
   ·rename_i c1 c2 c3
    have c1:okB a=true:=by cases h:okB a<;>simp_all
    have c2:okB b=true:=by cases h:okB b<;>simp_all
    have e:a.size=b.size:=Classical.not_not.1 c3
    have h1:=(okB_iff.1 c1).1.2.2
    have h2:=(okB_iff.1 c2).1.2.2
    exact ⟨c1,c2,e,by rw [e] at h1;omega⟩
theorem zipB_len {f:Wd→Wd→Wd} {a b:List Wd} (h:a.length=b.length):(zipB f a b).length=a.length:=by simp [zipB,h]
theorem zipB_get {f:Wd→Wd→Wd} {a b:List Wd} {i:Nat} (h1:i<a.length) (h2:i<b.length):(zipB f a b)[i]?=some (f a[i] b[i]):=by
 have h:i<(zipB f a b).length:=by simp [zipB];omega
 rw [List.getElem?_eq_getElem h]
 simp [zipB]
set_option maxRecDepth 20000 in
theorem loop152 {a b:Bm} {f:Wd→Wd→Wd} {gf:Nat} (hf:∀ x y,cal env gf [eW x,eW y]=some [(eW (f x y),false)]) (hl:a.ws.length=b.ws.length) (hm:a.ws.length≤64) {st:St} (h:st.head [2,3,4,6,10,33,35,36] st.boxes.length=some ⟨sl 59 [(2,.pv (.func gf [])),(3,.pbox 0 0),(4,.pbox 1 0),(6,.pbox 2 0),(10,.row 1 (fillR ((zipB f a.ws b.ws).map eW) (.int .u64 0) ((0:Nat)))),(33,.any),(35,.pv (.int .i64 a.ws.length)),(36,.pv (.int .i64 (0:Nat)))],[⟨false,[.pv (.int .i64 a.size),.pv (.list 1 (a.ws.map eW))]⟩,⟨false,[.pv (.int .i64 b.size),.pv (.list 1 (b.ws.map eW))]⟩,⟨false,[.pv (.int .i64 0),.row 1 []]⟩],[],none⟩) :
  den env fn152_l1 st=some (.normal,⟨sl 59 [(3,.pbox 0 0),(6,.pbox 2 0),(7,.any),(10,.row 1 ((zipB f a.ws b.ws).map eW))],[⟨false,[.pv (.int .i64 a.size),.pv (.list 1 (a.ws.map eW))]⟩,⟨false,[.pv (.int .i64 b.size),.pv (.list 1 (b.ws.map eW))]⟩,⟨false,[.pv (.int .i64 0),.row 1 []]⟩],[],none⟩):=by
 unfold fn152_l1
 refine clean_up (env:=env) (nb:=3) (a.ws.length) (fun i=>⟨sl 59 [(2,.pv (.func gf [])),(3,.pbox 0 0),(4,.pbox 1 0),(6,.pbox 2 0),(10,.row 1 (fillR ((zipB f a.ws b.ws).map eW) (.int .u64 0) (i))),(33,.any),(35,.pv (.int .i64 a.ws.length)),(36,.pv (.int .i64 i))],[⟨false,[.pv (.int .i64 a.size),.pv (.list 1 (a.ws.map eW))]⟩,⟨false,[.pv (.int .i64 b.size),.pv (.list 1 (b.ws.map eW))]⟩,⟨false,[.pv (.int .i64 0),.row 1 []]⟩],[],none⟩) (fun i=>some (.normal,⟨sl 59 [(3,.pbox 0 0),(6,.pbox 2 0),(7,.any),(10,.row 1 ((zipB f a.ws b.ws).map eW))],[⟨false,[.pv (.int .i64 a.size),.pv (.list 1 (a.ws.map eW))]⟩,⟨false,[.pv (.int .i64 b.size),.pv (.list 1 (b.ws.map eW))]⟩,⟨false,[.pv (.int .i64 0),.row 1 []]⟩],[],none⟩)) h (fun _=>rfl) (fun _=>by simp only [slAll,slsAll,Nat.reduceMul,Nat.reduceBEq,Nat.reduceLT,Nat.reduceLeDiff,Nat.reduceAdd,decide_true,Bool.and_self,Bool.true_and]) ?_ ?_
 ·intro i rb hi ih
  have hi1:=i64_next hi (by unfold lim;omega)
  have hj:i<b.ws.length:=by omega
  have F1:((i:Int)<(a.ws.length:Int))=True:=eq_true (by omega)
  have zl:((zipB f a.ws b.ws).map eW).length=a.ws.length:=by rw [List.length_map,zipB_len hl]
  have f1:=fillR_len (l:=(zipB f a.ws b.ws).map eW) (z:=.int .u64 0) (i:=i) (by omega)
  have f2:=fillR_get (l:=(zipB f a.ws b.ws).map eW) (z:=.int .u64 0) (i:=i) (by omega)
  have f3:=fillR_set (l:=(zipB f a.ws b.ws).map eW) (z:=.int .u64 0) (i:=i) (x:=eW (f a.ws[i] b.ws[i])) (by omega) (by rw [List.getElem?_map,zipB_get hi hj];rfl)
  have e1:=hf a.ws[i] b.ws[i]
  rw [zl] at f1
  unfold eW at e1 f1 f2 f3 ih ⊢
  simp only [fn152_b0,F1,e1,f1,f2,f3,index_nat hi,index_nat hj,List.getElem?_map,List.getElem?_eq_getElem hi,List.getElem?_eq_getElem hj,Option.map_some,List.length_map,slAll,slsAll,Nat.reduceMul,Nat.reduceBEq,Nat.reduceLT,Nat.reduceLeDiff,memAll,vAll,reduceCtorEq,Nat.reduceEqDiff,Nat.reduceAdd,Nat.reduceLT,Nat.reduceLeDiff,Nat.beq]
  rw [ih _ (by simp only [hi1,slAll,slsAll,Nat.reduceMul,Nat.reduceBEq,Nat.reduceLT,Nat.reduceLeDiff,memAll,vAll,reduceCtorEq,Nat.reduceEqDiff,Nat.reduceAdd,Nat.reduceLT,Nat.reduceLeDiff,Nat.beq]<;>rfl)]
 ·intro rb
  have zl:((zipB f a.ws b.ws).map eW).length=a.ws.length:=by rw [List.length_map,zipB_len hl]
  have f4:=fillR_all ((zipB f a.ws b.ws).map eW) (.int .u64 0)
  rw [zl] at f4
  rw [f4]
  simp only [fn152_b0,Int.lt_irrefl,slAll,slsAll,Nat.reduceMul,Nat.reduceBEq,Nat.reduceLT,Nat.reduceLeDiff,memAll,vAll,reduceCtorEq,Nat.reduceEqDiff,Nat.reduceAdd,Nat.reduceLT,Nat.reduceLeDiff,Nat.beq]
theorem cal152 {a b:Bm} {f:Wd→Wd→Wd} {gf:Nat} (hf:∀ x y,cal env gf [eW x,eW y]=some [(eW (f x y),false)]) :
  cal env 152 [eBm a,eBm b,.func gf []]=some [(eBm (bothO f a b),false),(.int .i64 (bothE a b),false)]:=by
 have P:∀ b:Bm,part [PV.int .i64 b.size,.list 1 (b.ws.map eW)] 0 (some 2)=some (eBm b):=fun _=>rfl
 have e1:=cal90 (b:=a)
 have e2:=cal90 (b:=b)
 have Z0:((0:Int) != 0)=false:=rfl
 have Z3:((3:Int) != 0)=true:=rfl
 have hz:=eBm_zero
 unfold bothO
 cases c1:okB a with
 |false =>
  have hE:bothE a b=3:=by unfold bothE;rw [if_pos c1]
  rw [hE,if_neg (by decide),hz]
  rw [bmE_no c1] at e1
  have eA:eBm a=.agg [.int .i64 a.size,.list 1 (a.ws.map eW)]:=rfl
  have eB:eBm b=.agg [.int .i64 b.size,.list 1 (b.ws.map eW)]:=rfl
  rw [eA] at e1 ⊢;rw [eB]
  rw [cal_code env152 rfl];simp only [fn152,slAll,Nat.reduceBEq,Nat.reduceLeDiff,Nat.reduceAdd,List.length_cons,List.length_nil]
  simp only [e1,Z3,part_more,part_succ,part_one,slAll,slsAll,Nat.reduceMul,Nat.reduceBEq,Nat.reduceLT,Nat.reduceLeDiff,memAll,vAll,reduceCtorEq,Nat.reduceEqDiff,Nat.reduceAdd,Nat.reduceLT,Nat.reduceLeDiff,Nat.beq]
 |true =>
  rw [bmE_ok c1] at e1
  cases c2:okB b with
  |false =>
   have hE:bothE a b=3:=by unfold bothE;rw [if_neg (by rw [c1];decide),if_pos c2]
   rw [hE,if_neg (by decide),hz]
   rw [bmE_no c2] at e2
   have eA:eBm a=.agg [.int .i64 a.size,.list 1 (a.ws.map eW)]:=rfl
   have eB:eBm b=.agg [.int .i64 b.size,.list 1 (b.ws.map eW)]:=rfl
   rw [eA] at e1 ⊢;rw [eB] at e2 ⊢
   rw [cal_code env152 rfl];simp only [fn152,slAll,Nat.reduceBEq,Nat.reduceLeDiff,Nat.reduceAdd,List.length_cons,List.length_nil]
   simp only [e1,e2,Z3,Z0,slAll,slsAll,Nat.reduceMul,Nat.reduceBEq,Nat.reduceLT,Nat.reduceLeDiff,memAll,vAll,reduceCtorEq,Nat.reduceEqDiff,Nat.reduceAdd,Nat.reduceLT,Nat.reduceLeDiff,Nat.beq]
  |true =>
   rw [bmE_ok c2] at e2
   by_cases c3:a.size=b.size
   ·have hE:bothE a b=0:=by unfold bothE;rw [if_neg (by rw [c1];decide),if_neg (by rw [c2];decide),if_neg (by simpa using c3)]
    obtain ⟨_,_,_,hl⟩:=both_ok hE
    have hm:=(okB_size c1).2.2.1
    have G:(a.size != b.size)=false:=by simp [c3]
    have F3:((0:Int)≤(a.ws.length:Int))=True:=eq_true (by omega)
    have F4:((a.ws.length:Int)≤(lim:Int))=True:=eq_true (by unfold lim;omega)
    rw [hE,if_pos rfl]
    have eA:eBm a=.agg [.int .i64 a.size,.list 1 (a.ws.map eW)]:=rfl
    have eB:eBm b=.agg [.int .i64 b.size,.list 1 (b.ws.map eW)]:=rfl
    rw [eA] at e1 ⊢;rw [eB] at e2 ⊢
    rw [cal_code env152 rfl];simp only [fn152,slAll,Nat.reduceBEq,Nat.reduceLeDiff,Nat.reduceAdd,List.length_cons,List.length_nil]
    simp only [e1,e2,Z0,G,F3,F4,Int.toNat_natCast,List.length_map,List.length_replicate,slAll,slsAll,Nat.reduceMul,Nat.reduceBEq,Nat.reduceLT,Nat.reduceLeDiff,memAll,vAll,reduceCtorEq,Nat.reduceEqDiff,Nat.reduceAdd,Nat.reduceLT,Nat.reduceLeDiff,Nat.beq]
    rw [loop152 hf hl hm]
    rotate_left
    ·have zl:((zipB f a.ws b.ws).map eW).length=a.ws.length:=by rw [List.length_map,zipB_len hl]
     rw [fillR_zero,zl]
     simp only [slAll,slsAll,Nat.reduceMul,Nat.reduceBEq,Nat.reduceLT,Nat.reduceLeDiff,Nat.reduceAdd,decide_true,Bool.and_self,Bool.true_and]<;>rfl
    ·simp only [e1,e2,Z0,G,F3,F4,Int.toNat_natCast,List.length_map,List.length_replicate,slAll,slsAll,Nat.reduceMul,Nat.reduceBEq,Nat.reduceLT,Nat.reduceLeDiff,memAll,vAll,reduceCtorEq,Nat.reduceEqDiff,Nat.reduceAdd,Nat.reduceLT,Nat.reduceLeDiff,Nat.beq]
     rfl
   ·have hE:bothE a b=22:=by unfold bothE;rw [if_neg (by rw [c1];decide),if_neg (by rw [c2];decide),if_pos (by simpa using c3)]
    have G:(a.size != b.size)=true:=by simp [c3]
    rw [hE,if_neg (by decide),hz]
    have eA:eBm a=.agg [.int .i64 a.size,.list 1 (a.ws.map eW)]:=rfl
    have eB:eBm b=.agg [.int .i64 b.size,.list 1 (b.ws.map eW)]:=rfl
    rw [eA] at e1 ⊢;rw [eB] at e2 ⊢
    rw [cal_code env152 rfl];simp only [fn152,slAll,Nat.reduceBEq,Nat.reduceLeDiff,Nat.reduceAdd,List.length_cons,List.length_nil]
    simp only [e1,e2,Z0,G,slAll,slsAll,Nat.reduceMul,Nat.reduceBEq,Nat.reduceLT,Nat.reduceLeDiff,memAll,vAll,reduceCtorEq,Nat.reduceEqDiff,Nat.reduceAdd,Nat.reduceLT,Nat.reduceLeDiff,Nat.beq]
theorem cal153 (x y:Wd):cal env 153 [eW x,eW y]=some [(eW (x ||| y),false)]:=by
 have W:=w_or x y
 unfold eW
 rw [cal_code env153 rfl];simp only [fn153];simp only [start,z_map_cons,z_map_nil,z_len_cons,z_len_nil,z_repl_zero,z_repl_succ,z_cons_app,z_nil_app,Nat.reduceAdd,Nat.reduceSub]
 simp only [W,memAll,vAll,reduceCtorEq,Nat.reduceEqDiff,Nat.reduceAdd,Nat.reduceLT,Nat.reduceLeDiff,Nat.beq]
def orW (x y:Wd):Wd:=x ||| y
theorem cal136 {a b:Bm}:cal env 136 [eBm a,eBm b]=some [(eBm (bothO orW a b),false),(.int .i64 (bothE a b),false)]:=by
 have e1:=cal152 (a:=a) (b:=b) (f:=orW) (gf:=153) cal153
 have eA:∀ a:Bm,eBm a=.agg [.int .i64 a.size,.list 1 (a.ws.map eW)]:=fun _=>rfl
 rw [eA,eA,eA] at e1 ⊢
 rw [cal_code env136 rfl];simp only [fn136];simp only [start,z_map_cons,z_map_nil,z_len_cons,z_len_nil,z_repl_zero,z_repl_succ,z_cons_app,z_nil_app,Nat.reduceAdd,Nat.reduceSub]
 simp only [e1,memAll,vAll,reduceCtorEq,Nat.reduceEqDiff,Nat.reduceAdd,Nat.reduceLT,Nat.reduceLeDiff,Nat.beq]
end Go.Proofs.YtioijcfcehhmdaaGreatDoor.V

namespace Go.Proofs.YtioijcfcehhmdaaGreatDoor.V
theorem sorted_at {l:List Nat} (hs:l.Pairwise (·<·)) {j i:Nat} (h:l[j]?=some i):j≤i∧∀ k∈l.take j,k<i:=by
 obtain ⟨hj,rfl⟩:=List.getElem?_eq_some_iff.1 h
 have hp:=List.pairwise_iff_getElem.1 hs
 refine ⟨?_,fun k hk=>?_⟩
 ·clear h
  induction j with
  |zero=>exact Nat.zero_le _
  |succ j ih =>
   have h1:=ih (by omega)
   have h2:=hp j (j+1) (by omega) hj (by omega)
   omega
 ·obtain ⟨m,hm,rfl⟩:=List.mem_iff_getElem.1 hk
  rw [List.getElem_take]
  simp only [List.length_take] at hm
  exact hp m j (by omega) hj (by omega)
def bmEl (b:Bm):List Nat:=if okB b then elemsW b.ws 0 b.size else []
theorem bmEl_at {b:Bm} {j i:Nat} (h:(bmEl b)[j]?=some i):i<4096∧j≤i∧∀ k∈(bmEl b).take j,k<i:=by
 unfold bmEl at h ⊢
 split at h
 ·rename_i c
  rw [if_pos c]
  have hs:(elemsW b.ws 0 b.size).Pairwise (·<·):=List.pairwise_lt_range.filter _
  have hm:=List.mem_of_getElem? h
  simp only [elemsW,List.mem_filter,List.mem_range,Bool.and_eq_true,decide_eq_true_eq] at hm
  have:=okB_size c
  exact ⟨by omega,sorted_at hs h⟩
 ·simp at h
def bmX (b:Bm):List Exn:=if okB b then bmExts b else []
theorem bmEl_x (b:Bm):exts (bmEl b)=bmX b:=by
 unfold bmEl bmX bmExts ext
 split
 ·rename_i c;rw [elems_ok c 0 (by omega)]
 ·rfl
theorem cal94 {b:Bm}:cal env 94 [eBm b]=some [(.list 2 ((bmX b).map eExt),true)]:=by
 have e1:=cal126 (b:=b) (a:=0)
 have eA:∀ a:Bm,eBm a=.agg [.int .i64 a.size,.list 1 (a.ws.map eW)]:=fun _=>rfl
 rw [eA] at e1 ⊢
 rw [cal_code env94 rfl];simp only [fn94];simp only [start,z_map_cons,z_map_nil,z_len_cons,z_len_nil,z_repl_zero,z_repl_succ,z_cons_app,z_nil_app,Nat.reduceAdd,Nat.reduceSub]
 simp only [e1,memAll,vAll,reduceCtorEq,Nat.reduceEqDiff,Nat.reduceAdd,Nat.reduceLT,Nat.reduceLeDiff,Nat.beq]
 rw [rng_idx (env:=env) (fun j=>[⟨false,[.pv (.int .i64 b.size),.pv (.list 1 (b.ws.map eW))]⟩,⟨false,[.row 2 ((exts ((bmEl b).take j)).map eExt)]⟩]) (xs:=yI (bmEl b)) rfl (by have:=iter149 (b:=b) (a:=0) (by omega);exact this) rfl ?_]
 ·simp only [yI,List.length_map,List.take_length,vRng,memAll,vAll,reduceCtorEq,Nat.reduceEqDiff,Nat.reduceAdd,Nat.reduceLT,Nat.reduceLeDiff,Nat.beq]
  rw [bmEl_x]
 ·intro j x hx sl0
  simp only [yI,List.getElem?_map,Option.map_eq_some_iff] at hx
  obtain ⟨i,hi,rfl⟩:=hx
  obtain ⟨k1,k2,k3⟩:=bmEl_at hi
  have hlim:lim=1073741824:=rfl
  have hj:=(List.getElem?_eq_some_iff.1 hi).1
  have ht:(bmEl b).take (j+1)=(bmEl b).take j++[i]:=by rw [List.take_add_one,hi];rfl
  have hlen:((bmEl b).take j).length=j:=by simp;omega
  rw [ht]
  rcases snoc_cases ((bmEl b).take j) with h0|⟨p,q,h0⟩
  ·have F2:(((0:Nat):Int) > 0)=False:=eq_false (by omega)
   have F3:(0+1≤lim)=True:=eq_true (by omega)
   have e0:exts ([]:List Nat)=[]:=rfl
   have e2:exts [i]=[⟨i,1⟩]:=rfl
   refine ⟨?_,?_⟩
   rotate_left
   ·simp only [h0,List.nil_append,fn94_b0,fn94_b1,F2,F3,e0,e2,eExt,List.map_nil,List.map_cons,vRng,memAll,vAll,reduceCtorEq,Nat.reduceEqDiff,Nat.reduceAdd,Nat.reduceLT,Nat.reduceLeDiff,Nat.beq]
    rfl
  ·obtain ⟨pre,⟨s,c⟩,e0,h1,h2,h3,h4⟩:=exts_last _ p rfl q
   have hqi:q<i:=k3 q (by rw [h0];simp)
   simp only at h1 h2 h3
   have hpl:p.length+1=j:=by rw [h0] at hlen;simpa using hlen
   have F2:(((pre.length+1:Nat):Int) > 0)=True:=eq_true (by omega)
   have F3:=wrap_pred (n:=pre.length) (by omega)
   have F4:IntKind.i64.wrap (s+c)=s+c:=i64_fits (by omega)
   have F5:IntKind.i64.wrap (c+1)=c+1:=i64_fits (by omega)
   have F6:(pre.length+1+1≤lim)=True:=eq_true (by omega)
   have F7:index (.int .i64 (pre.length:Int)) (pre.length+1)=some pre.length:=index_nat (by omega)
   by_cases hc:s+c=(i:Int)
   ·have F8:(s+c==(i:Int))=true:=by simpa using hc
    have e2:exts (p++[q]++[i])=pre++[⟨s,c+1⟩]:=by rw [exts_snoc,e0,addAt_snoc,if_pos hc]
    refine ⟨?_,?_⟩
    rotate_left
    ·simp only [h0,fn94_b0,fn94_b1,e0,e2,F2,F3,F4,F5,F6,F7,F8,eExt,List.map_append,List.map_cons,List.map_nil,vRng,memAll,vAll,reduceCtorEq,Nat.reduceEqDiff,Nat.reduceAdd,Nat.reduceLT,Nat.reduceLeDiff,Nat.beq]
     rfl
   ·have F8:(s+c==(i:Int))=false:=by simpa using hc
    have e2:exts (p++[q]++[i])=pre++[⟨s,c⟩]++[⟨i,1⟩]:=by rw [exts_snoc,e0,addAt_snoc,if_neg hc]
    refine ⟨?_,?_⟩
    rotate_left
    ·simp only [h0,fn94_b0,fn94_b1,e0,e2,F2,F3,F4,F5,F6,F7,F8,eExt,List.map_append,List.map_cons,List.map_nil,vRng,memAll,vAll,reduceCtorEq,Nat.reduceEqDiff,Nat.reduceAdd,Nat.reduceLT,Nat.reduceLeDiff,Nat.beq]
     rfl
end Go.Proofs.YtioijcfcehhmdaaGreatDoor.V

namespace Go.Proofs.YtioijcfcehhmdaaGreatDoor.V
end Go.Proofs.YtioijcfcehhmdaaGreatDoor.V

namespace Go.Proofs.YtioijcfcehhmdaaGreatDoor.V
end Go.Proofs.YtioijcfcehhmdaaGreatDoor.V

namespace Go.Proofs.YtioijcfcehhmdaaGreatDoor.V
structure Pt where
 site:Int
 lin:List Spn
 dirty:List Bm
 img:Img
def ePt (p:Pt):PV:=.agg [.int .i64 p.site,.list 3 (p.lin.map eSpn),.list 2 (p.dirty.map eBm),.list 1 (p.img.map eSecs)]
def bPt (p:Pt):List BV:=[.pv (.int .i64 p.site),.pv (.list 3 (p.lin.map eSpn)),.pv (.list 2 (p.dirty.map eBm)),.pv (.list 1 (p.img.map eSecs))]
theorem bPt_eq (p:Pt):bPt p=[.pv (.int .i64 p.site),.pv (.list 3 (p.lin.map eSpn)),.pv (.list 2 (p.dirty.map eBm)),.pv (.list 1 (p.img.map eSecs))]:=rfl
theorem ePt_eq (p:Pt):ePt p=.agg [.int .i64 p.site,.list 3 (p.lin.map eSpn),.list 2 (p.dirty.map eBm),.list 1 (p.img.map eSecs)]:=rfl
def fitP (p:Pt):Prop:=p.lin.length≤lim∧p.dirty.length≤lim∧p.img.length≤lim
def dirE:List Bm→Img→Int
 |b :: bs,v :: vs=>if bmE b≠0 then bmE b else if b.size≠(v.length:Int) then 22 else dirE bs vs
 |_,_=>0
def chkP (p:Pt):Int :=
 if p.site<0∨1073741824<p.site then 2
 else if linOk p.lin=false then 3
 else if imCheck p.img≠0 then imCheck p.img
 else if p.dirty.length≠p.img.length then 6
 else dirE p.dirty p.img
def resD (n:Nat) (e:Int) (bx:List Box):Option (Ex × St):=if e=0 then some (.normal,⟨sl n [(2,.any)],bx,[],none⟩) else some (.ret,⟨sl n [(2,.pv (.int .i64 e))],bx,[],none⟩)
theorem dirE_step {bs:List Bm} {vs:Img} {i:Nat} (h1:i<bs.length) (h2:i<vs.length):dirE (bs.drop i) (vs.drop i)=if bmE bs[i]≠0 then bmE bs[i] else if bs[i].size≠(vs[i].length:Int) then 22 else dirE (bs.drop (i+1)) (vs.drop (i+1)):=by
 rw [List.drop_eq_getElem_cons h1,List.drop_eq_getElem_cons h2,dirE]
theorem loop50 {p:Pt} (hl:p.dirty.length≤lim) (hq:p.dirty.length=p.img.length) {st:St} (h:st.head [1,31,32,33] st.boxes.length=some ⟨sl 53 [(1,.pbox 0 0),(31,.pv (.list 2 (p.dirty.map eBm))),(32,.pv (.int .i64 p.dirty.length)),(33,.pv (.int .i64 (0:Nat)))],[⟨false,bPt p⟩],[],none⟩) :
  den env fn50_l1 st=resD 53 (dirE (p.dirty.drop ((0:Nat))) (p.img.drop ((0:Nat)))) [⟨false,bPt p⟩]:=by
 unfold fn50_l1
 refine clean_up (env:=env) (nb:=1) (p.dirty.length) (fun i=>⟨sl 53 [(1,.pbox 0 0),(31,.pv (.list 2 (p.dirty.map eBm))),(32,.pv (.int .i64 p.dirty.length)),(33,.pv (.int .i64 i))],[⟨false,bPt p⟩],[],none⟩) (fun i=>resD 53 (dirE (p.dirty.drop (i)) (p.img.drop (i))) [⟨false,bPt p⟩]) h (fun _=>rfl) (fun _=>by simp only [slAll,slsAll,Nat.reduceMul,Nat.reduceBEq,Nat.reduceLT,Nat.reduceLeDiff,Nat.reduceAdd,decide_true,Bool.and_self,Bool.true_and]) ?_ ?_
 ·intro i rb hi ih
  have hi1:=i64_next hi hl
  have hj:i<p.img.length:=by omega
  have F1:((i:Int)<(p.dirty.length:Int))=True:=eq_true (by omega)
  have P2:∀ a b:PV,part [a,b] 0 (some 2)=some (.agg [a,b]):=fun _ _=>rfl
  have eA:∀ b:Bm,eBm b=.agg [.int .i64 b.size,.list 1 (b.ws.map eW)]:=fun _=>rfl
  have eV:∀ v:List Sec,eSecs v=.list 8 (v.map eSec):=fun _=>rfl
  have hx:(p.dirty.map eBm)[i]?=some (eBm p.dirty[i]):=by rw [List.getElem?_map,List.getElem?_eq_getElem hi];rfl
  have hy:(p.img.map eSecs)[i]?=some (eSecs p.img[i]):=by rw [List.getElem?_map,List.getElem?_eq_getElem hj];rfl
  have e1:=cal90 (b:=p.dirty[i])
  have hD:=dirE_step hi hj
  rw [eA] at hx e1
  rw [eV] at hy
  by_cases c1:bmE p.dirty[i]=0
  ·have G1:((0:Int) != 0)=false:=rfl
   rw [c1] at e1
   rw [if_neg (show ¬ bmE p.dirty[i]≠0 from fun h=>h c1)] at hD
   by_cases c2:p.dirty[i].size=(p.img[i].length:Int)
   ·have G2:(p.dirty[i].size != (p.img[i].length:Int))=false:=by simpa using c2
    rw [if_neg (show ¬ p.dirty[i].size≠(p.img[i].length:Int) from fun h=>h c2)] at hD
    rw [hD]
    simp only [fn50_b0,F1,hx,hy,e1,P2,G1,G2,bPt_eq,index_nat hi,index_nat hj,List.length_map,slAll,slsAll,Nat.reduceMul,Nat.reduceBEq,Nat.reduceLT,Nat.reduceLeDiff,memAll,vAll,reduceCtorEq,Nat.reduceEqDiff,Nat.reduceAdd,Nat.reduceLT,Nat.reduceLeDiff,Nat.beq]
    rw [ih _ (by simp only [hi1,bPt_eq,slAll,slsAll,Nat.reduceMul,Nat.reduceBEq,Nat.reduceLT,Nat.reduceLeDiff,memAll,vAll,reduceCtorEq,Nat.reduceEqDiff,Nat.reduceAdd,Nat.reduceLT,Nat.reduceLeDiff,Nat.beq]<;>rfl)]
    all_goals rfl
   ·have G2:(p.dirty[i].size != (p.img[i].length:Int))=true:=by simpa using c2
    rw [if_pos c2] at hD
    rw [hD]
    unfold resD
    rw [if_neg (by decide)]
    simp only [fn50_b0,F1,hx,hy,e1,P2,G1,G2,bPt_eq,index_nat hi,index_nat hj,List.length_map,slAll,slsAll,Nat.reduceMul,Nat.reduceBEq,Nat.reduceLT,Nat.reduceLeDiff,memAll,vAll,reduceCtorEq,Nat.reduceEqDiff,Nat.reduceAdd,Nat.reduceLT,Nat.reduceLeDiff,Nat.beq]
  ·have G1:(bmE p.dirty[i] != 0)=true:=by simpa using c1
   rw [if_pos c1] at hD
   rw [hD]
   unfold resD
   rw [if_neg c1]
   simp only [fn50_b0,F1,hx,hy,e1,P2,G1,bPt_eq,index_nat hi,index_nat hj,List.length_map,slAll,slsAll,Nat.reduceMul,Nat.reduceBEq,Nat.reduceLT,Nat.reduceLeDiff,memAll,vAll,reduceCtorEq,Nat.reduceEqDiff,Nat.reduceAdd,Nat.reduceLT,Nat.reduceLeDiff,Nat.beq]
 ·intro rb
  rw [List.drop_length,hq,List.drop_length]
  unfold dirE resD
  rw [if_pos rfl]
  simp only [fn50_b0,Int.lt_irrefl,bPt_eq,hq,List.length_map,slAll,slsAll,Nat.reduceMul,Nat.reduceBEq,Nat.reduceLT,Nat.reduceLeDiff,memAll,vAll,reduceCtorEq,Nat.reduceEqDiff,Nat.reduceAdd,Nat.reduceLT,Nat.reduceLeDiff,Nat.beq]
theorem cal50 {p:Pt} (h:fitP p):cal env 50 [ePt p]=some [(.int .i64 (chkP p),false)]:=by
 obtain ⟨h1,h2,h3⟩:=h
 have e0:=cal92 (n:=p.site) (low:=0)
 have e1:=cal93 (l:=p.lin) h1
 have e2:=cal85 (im:=p.img) h3
 have Z:((0:Int) != 0)=false:=rfl
 unfold chkP
 rw [ePt_eq]
 by_cases c1:p.site<0∨1073741824<p.site
 ·have G1:(decide (p.site ≥ 0)&&decide (p.site≤1073741824))=false:=by simp;omega
  rw [G1] at e0
  rw [if_pos c1]
  rw [cal_code env50 rfl];simp only [fn50,slAll,Nat.reduceBEq,Nat.reduceLeDiff,Nat.reduceAdd,List.length_cons,List.length_nil]
  simp only [e0,slAll,slsAll,Nat.reduceMul,Nat.reduceBEq,Nat.reduceLT,Nat.reduceLeDiff,memAll,vAll,reduceCtorEq,Nat.reduceEqDiff,Nat.reduceAdd,Nat.reduceLT,Nat.reduceLeDiff,Nat.beq]
 ·have G1:(decide (p.site ≥ 0)&&decide (p.site≤1073741824))=true:=by simp;omega
  rw [G1] at e0
  rw [if_neg c1]
  cases c3:linOk p.lin with
  |false =>
   rw [c3] at e1
   rw [if_pos rfl]
   rw [cal_code env50 rfl];simp only [fn50,slAll,Nat.reduceBEq,Nat.reduceLeDiff,Nat.reduceAdd,List.length_cons,List.length_nil]
   simp only [e0,e1,slAll,slsAll,Nat.reduceMul,Nat.reduceBEq,Nat.reduceLT,Nat.reduceLeDiff,memAll,vAll,reduceCtorEq,Nat.reduceEqDiff,Nat.reduceAdd,Nat.reduceLT,Nat.reduceLeDiff,Nat.beq]
  |true =>
   rw [c3] at e1
   rw [if_neg (by decide)]
   by_cases c4:imCheck p.img=0
   ·rw [c4] at e2
    rw [if_neg (by rw [c4];decide)]
    by_cases c5:p.dirty.length=p.img.length
    ·have G5:((p.dirty.length:Int) != (p.img.length:Int))=false:=by simp [c5]
     rw [if_neg (by simpa using c5)]
     rw [cal_code env50 rfl];simp only [fn50,slAll,Nat.reduceBEq,Nat.reduceLeDiff,Nat.reduceAdd,List.length_cons,List.length_nil]
     simp only [e0,e1,e2,Z,G5,List.length_map,slAll,slsAll,Nat.reduceMul,Nat.reduceBEq,Nat.reduceLT,Nat.reduceLeDiff,memAll,vAll,reduceCtorEq,Nat.reduceEqDiff,Nat.reduceAdd,Nat.reduceLT,Nat.reduceLeDiff,Nat.beq]
     rw [loop50 (p:=p) h2 c5]
     rotate_left
     ·rw [bPt_eq]
      simp only [slAll,slsAll,Nat.reduceMul,Nat.reduceBEq,Nat.reduceLT,Nat.reduceLeDiff,Nat.reduceAdd,decide_true,Bool.and_self,Bool.true_and]<;>rfl
     ·rw [List.drop_zero,List.drop_zero]
      unfold resD
      split
      ·rename_i c6
       rw [c6]
       simp only [e0,e1,e2,Z,G5,List.length_map,slAll,slsAll,Nat.reduceMul,Nat.reduceBEq,Nat.reduceLT,Nat.reduceLeDiff,memAll,vAll,reduceCtorEq,Nat.reduceEqDiff,Nat.reduceAdd,Nat.reduceLT,Nat.reduceLeDiff,Nat.beq]
      ·simp only [e0,e1,e2,Z,G5,List.length_map,slAll,slsAll,Nat.reduceMul,Nat.reduceBEq,Nat.reduceLT,Nat.reduceLeDiff,memAll,vAll,reduceCtorEq,Nat.reduceEqDiff,Nat.reduceAdd,Nat.reduceLT,Nat.reduceLeDiff,Nat.beq]
    ·have G5:((p.dirty.length:Int) != (p.img.length:Int))=true:=by simp;omega
     rw [if_pos c5]
     rw [cal_code env50 rfl];simp only [fn50,slAll,Nat.reduceBEq,Nat.reduceLeDiff,Nat.reduceAdd,List.length_cons,List.length_nil]
     simp only [e0,e1,e2,Z,G5,List.length_map,slAll,slsAll,Nat.reduceMul,Nat.reduceBEq,Nat.reduceLT,Nat.reduceLeDiff,memAll,vAll,reduceCtorEq,Nat.reduceEqDiff,Nat.reduceAdd,Nat.reduceLT,Nat.reduceLeDiff,Nat.beq]
   ·have G4:(imCheck p.img != 0)=true:=by simpa using c4
    rw [if_pos c4]
    rw [cal_code env50 rfl];simp only [fn50,slAll,Nat.reduceBEq,Nat.reduceLeDiff,Nat.reduceAdd,List.length_cons,List.length_nil]
    simp only [e0,e1,e2,G4,List.length_map,slAll,slsAll,Nat.reduceMul,Nat.reduceBEq,Nat.reduceLT,Nat.reduceLeDiff,memAll,vAll,reduceCtorEq,Nat.reduceEqDiff,Nat.reduceAdd,Nat.reduceLT,Nat.reduceLeDiff,Nat.beq]
end Go.Proofs.YtioijcfcehhmdaaGreatDoor.V

namespace Go.Proofs.YtioijcfcehhmdaaGreatDoor.V
theorem eqF_sz:∀ a b:Img,eqF (fun x y:List Sec=>decide (x.length=y.length)) a b=decide (imSizes a=imSizes b)
 |[],[]=>rfl
 |[],y :: b=>by simp [eqF,imSizes]
 |x :: a,[]=>by simp [eqF,imSizes]
 |x :: a,y :: b=>by
  have ih:=eqF_sz a b
  unfold eqF at ih ⊢
  have e0:decide (imSizes (x :: a)=imSizes (y :: b))=(decide (x.length=y.length)&&decide (imSizes a=imSizes b)):=by
   rw [← Bool.decide_and]
   exact decide_eq_decide.2 (by simp only [imSizes,List.map_cons,List.cons.injEq];exact and_congr Int.ofNat_inj Iff.rfl)
  rw [e0,← ih]
  simp only [List.length_cons,List.zip_cons_cons,List.all_cons]
  have e2:decide (a.length+1=b.length+1)=decide (a.length=b.length):=decide_eq_decide.2 (by omega)
  rw [e2]
  cases decide (x.length=y.length)<;>cases decide (a.length=b.length)<;>simp
theorem cal135 {x y:List Sec}:cal env 135 [eSecs x,eSecs y]=some [(.bool (decide (x.length=y.length)),false)]:=by
 have eV:∀ v:List Sec,eSecs v=.list 8 (v.map eSec):=fun _=>rfl
 rw [eV,eV]
 by_cases c:x.length=y.length
 ·have G:((x.length:Int)==(y.length:Int))=true:=by simp [c]
  rw [decide_eq_true c]
  rw [cal_code env135 rfl];simp only [fn135,slAll,Nat.reduceBEq,Nat.reduceLeDiff,Nat.reduceAdd,List.length_cons,List.length_nil]
  simp only [G,List.length_map,slAll,slsAll,Nat.reduceMul,Nat.reduceBEq,Nat.reduceLT,Nat.reduceLeDiff,memAll,vAll,reduceCtorEq,Nat.reduceEqDiff,Nat.reduceAdd,Nat.reduceLT,Nat.reduceLeDiff,Nat.beq]
 ·have G:((x.length:Int)==(y.length:Int))=false:=by simp;omega
  rw [decide_eq_false c]
  rw [cal_code env135 rfl];simp only [fn135,slAll,Nat.reduceBEq,Nat.reduceLeDiff,Nat.reduceAdd,List.length_cons,List.length_nil]
  simp only [G,List.length_map,slAll,slsAll,Nat.reduceMul,Nat.reduceBEq,Nat.reduceLT,Nat.reduceLeDiff,memAll,vAll,reduceCtorEq,Nat.reduceEqDiff,Nat.reduceAdd,Nat.reduceLT,Nat.reduceLeDiff,Nat.beq]
theorem cal111 {a b:Img} (hl:a.length≤lim):cal env 111 [.list 1 (a.map eSecs),.list 1 (b.map eSecs)]=some [(.bool (decide (imSizes a=imSizes b)),false)]:=by
 have e1:=cal86 (enc:=eSecs) (enc2:=eSecs) (eq:=fun x y:List Sec=>decide (x.length=y.length)) (l:=a) (m:=b) (gf:=135) (caps:=[]) (fun x _ y _=>cal135) (fun _=>rfl) (fun _=>rfl) hl
 rw [eqF_sz] at e1
 rw [cal_code env111 rfl];simp only [fn111,slAll,Nat.reduceBEq,Nat.reduceLeDiff,Nat.reduceAdd,List.length_cons,List.length_nil]
 simp only [e1,slAll,slsAll,Nat.reduceMul,Nat.reduceBEq,Nat.reduceLT,Nat.reduceLeDiff,memAll,vAll,reduceCtorEq,Nat.reduceEqDiff,Nat.reduceAdd,Nat.reduceLT,Nat.reduceLeDiff,Nat.beq]
def frsE:List Pt→Int
 |[]=>0
 |p :: l=>if chkP p=0 then frsE l else chkP p
theorem frsE_step {l:List Pt} {i:Nat} (h:i<l.length):frsE (l.drop i)=if chkP l[i]=0 then frsE (l.drop (i+1)) else chkP l[i]:=by
 rw [List.drop_eq_getElem_cons h,frsE]
end Go.Proofs.YtioijcfcehhmdaaGreatDoor.V

namespace Go.Proofs.YtioijcfcehhmdaaGreatDoor.V
end Go.Proofs.YtioijcfcehhmdaaGreatDoor.V

namespace Go.Proofs.YtioijcfcehhmdaaGreatDoor.V
def getX (b:Bm) (s:Int):Bool:=okB b&&(decide (0≤s)&&(decide (s<b.size)&&bit b.ws s.toNat))
end Go.Proofs.YtioijcfcehhmdaaGreatDoor.V

namespace Go.Proofs.YtioijcfcehhmdaaGreatDoor.V
def dir (a:Pt) (v:Nat):Bm:=a.dirty.getD v ⟨0,[]⟩
def mk2 (a b:Pt) (v k:Nat):Bool:=getX (dir a v) (k:Int) || getX (dir b v) (k:Int)
theorem dir_at {a:Pt} {v:Nat} (h:v<a.dirty.length):(a.dirty.map eBm)[v]?=some (eBm (dir a v)):=by
 rw [List.getElem?_map,List.getElem?_eq_getElem h]
 unfold dir
 rw [List.getD_eq_getElem?_getD,List.getElem?_eq_getElem h]
 rfl
def vLen (a:Pt) (i:Nat):Nat:=(a.img.getD i []).length
def btw (a b:Pt) (n:Nat):List (List Exn):=(List.range n).map fun i=>ext (mk2 a b i) (vLen a i)
theorem btw_succ (a b:Pt) (n:Nat):btw a b (n+1)=btw a b n++[ext (mk2 a b n) (vLen a n)]:=by
 unfold btw;rw [List.range_succ,List.map_append];rfl
theorem btw_len (a b:Pt) (n:Nat):(btw a b n).length=n:=by simp [btw]
def eExs (l:List Exn):PV:=.list 2 (l.map eExt)
theorem eExs_eq (l:List Exn):eExs l=.list 2 (l.map eExt):=rfl
end Go.Proofs.YtioijcfcehhmdaaGreatDoor.V

namespace Go.Proofs.YtioijcfcehhmdaaGreatDoor.V
end Go.Proofs.YtioijcfcehhmdaaGreatDoor.V

namespace Go.Proofs.YtioijcfcehhmdaaGreatDoor.V
theorem or_okM {a b:Bm} (ha:okB a=true) (hb:okB b=true) (hs:a.size=b.size):bothE a b=0∧okB (bothO orW a b)=true∧(bothO orW a b).size=a.size∧∀ s:Nat,(s:Int)<a.size→bit (bothO orW a b).ws s=(bit a.ws s || bit b.ws s):=by
 have hE:bothE a b=0:=by unfold bothE;rw [if_neg (by rw [ha];decide),if_neg (by rw [hb];decide),if_neg (by simpa using hs)]
 obtain ⟨_,_,_,hl⟩:=both_ok hE
 have hO:bothO orW a b=⟨a.size,zipB orW a.ws b.ws⟩:=by unfold bothO;rw [if_pos hE]
 have hz:(zipB orW a.ws b.ws).length=a.ws.length:=by simp [zipB,hl]
 have hbit:∀ {i:Nat},i<64 * a.ws.length→bit (zipB orW a.ws b.ws) i=(bit a.ws i || bit b.ws i):=fun hi=>bit_zip (g:=fun x y=>x || y) (fun x y j _=>BitVec.getLsbD_or) hl hi
 have h1:=okB_size ha
 rw [hO]
 refine ⟨hE,okB_iff.2 ⟨⟨h1.1,h1.2.1,?_⟩,fun i hi=>?_⟩,rfl,fun s hlt=>hbit (by omega)⟩
 ·show ((zipB orW a.ws b.ws).length:Int)=_
  rw [hz];exact (okB_iff.1 ha).1.2.2
 ·have hi:a.size≤(i:Int):=hi
  by_cases c:i<64 * a.ws.length
  ·show bit (zipB orW a.ws b.ws) i=false
   rw [hbit c,(okB_iff.1 ha).2 i hi,(okB_iff.1 hb).2 i (by omega)]
   rfl
  ·exact bit_out (by show 64 * (zipB orW a.ws b.ws).length≤i;rw [hz];omega)
theorem extC {p q:Nat→Bool} {m:Nat} (h:∀ t,t<m→p t=q t):ext p m=ext q m:=by
 unfold ext
 congr 1
 apply List.filter_congr
 intro t ht
 exact h t (List.mem_range.1 ht)
theorem dirE_all:∀ {bs:List Bm} {vs:Img},dirE bs vs=0→∀ i (h1:i<bs.length) (h2:i<vs.length),okB bs[i]=true∧bs[i].size=(vs[i].length:Int)
 |[],_,_,i,h1,_=>absurd h1 (Nat.not_lt_zero _)
 |_ :: _,[],_,i,_,h2=>absurd h2 (Nat.not_lt_zero _)
 |b :: bs,v :: vs,h,i,h1,h2=>by
  unfold dirE at h
  split at h
  ·rename_i c;exact absurd h c
  ·rename_i c
   split at h
   ·cases h
   ·rename_i c2
    match i with
    |0 =>
     refine ⟨?_,by simpa using c2⟩
     cases hb:okB b with
     |true=>exact hb
     |false=>unfold bmE at c;rw [hb] at c;exact absurd (by decide) c
    |i+1=>exact dirE_all h i (by simpa using h1) (by simpa using h2)
theorem chkP_ok {p:Pt} (h:chkP p=0):linOk p.lin=true∧imCheck p.img=0∧p.dirty.length=p.img.length∧dirE p.dirty p.img=0:=by
 unfold chkP at h
 split at h
 ·cases h
 ·split at h
  ·cases h
  ·rename_i c
   split at h
   ·rename_i c2;exact absurd h c2
   ·rename_i c2
    split at h
    ·cases h
    ·rename_i c3
     exact ⟨by simpa using c,by simpa using c2,by simpa using c3,h⟩
theorem vLen_same {a b:Pt} (h:imSizes a.img=imSizes b.img) (i:Nat):vLen a i=vLen b i:=by
 have e:∀ p:Pt,((imSizes p.img).getD i 0)=(vLen p i:Int):=fun p=>by
  unfold imSizes vLen
  rw [List.getD_eq_getElem?_getD,List.getD_eq_getElem?_getD,List.getElem?_map]
  cases p.img[i]?<;>rfl
 have:=e a
 rw [h,e b] at this
 omega
theorem same_len {a b:Pt} (h:imSizes a.img=imSizes b.img):a.img.length=b.img.length:=by
 have:=congrArg List.length h
 simpa [imSizes] using this
theorem dir_ok {p:Pt} (h:chkP p=0) {v:Nat} (hv:v<p.img.length):okB (dir p v)=true∧(dir p v).size=(vLen p v:Int):=by
 obtain ⟨_,_,h3,h4⟩:=chkP_ok h
 have:=dirE_all h4 v (by omega) hv
 unfold dir vLen
 rw [List.getD_eq_getElem?_getD,List.getElem?_eq_getElem (by omega),List.getD_eq_getElem?_getD,List.getElem?_eq_getElem hv]
 exact this
theorem getX_in {b:Bm} (h:okB b=true) {k:Nat} (hk:(k:Int)<b.size):getX b (k:Int)=bit b.ws k:=by
 unfold getX
 rw [h,Bool.true_and,decide_eq_true (by omega),Bool.true_and,decide_eq_true hk,Bool.true_and,Int.toNat_natCast]
theorem mrk_ok {a b:Pt} (ha:chkP a=0) (hb:chkP b=0) (hs:imSizes a.img=imSizes b.img) {v:Nat} (hv:v<a.img.length):bothE (dir a v) (dir b v)=0∧bmX (bothO orW (dir a v) (dir b v))=ext (mk2 a b v) (vLen a v):=by
 have hv2:v<b.img.length:=by rw [← same_len hs];exact hv
 obtain ⟨a1,a2⟩:=dir_ok ha hv
 obtain ⟨b1,b2⟩:=dir_ok hb hv2
 have hL:=vLen_same hs v
 obtain ⟨g1,g2,g3,g4⟩:=or_okM a1 b1 (by rw [a2,b2,hL])
 refine ⟨g1,?_⟩
 unfold bmX bmExts
 rw [if_pos g2,g3,a2,Int.toNat_natCast]
 apply extC
 intro t ht
 rw [g4 t (by omega)]
 unfold mk2
 rw [getX_in a1 (by omega),getX_in b1 (by omega)]
end Go.Proofs.YtioijcfcehhmdaaGreatDoor.V

namespace Go.Proofs.YtioijcfcehhmdaaGreatDoor.V
def zrow (a b:Pt) (n i:Nat):List PV:=(btw a b i).map eExs++List.replicate (n - i) (PV.list 0 [])
theorem zrow_len {a b:Pt} {n i:Nat} (h:i≤n):(zrow a b n i).length=n:=by
 unfold zrow
 rw [List.length_append,List.length_map,btw_len,List.length_replicate]
 omega
theorem zrow_get {a b:Pt} {n i:Nat} (h:i<n):(zrow a b n i)[i]?=some (PV.list 0 []):=by
 unfold zrow
 have hl:((btw a b i).map eExs).length=i:=by rw [List.length_map,btw_len]
 rw [List.getElem?_append_right (by omega),hl,Nat.sub_self,List.getElem?_replicate,if_pos (by omega)]
theorem zrow_set {a b:Pt} {n i:Nat} (h:i<n):(zrow a b n i).set i (PV.list 2 ((ext (mk2 a b i) (vLen a i)).map eExt))=zrow a b n (i+1):=by
 unfold zrow
 have hl:((btw a b i).map eExs).length=i:=by rw [List.length_map,btw_len]
 rw [List.set_append_right _ _ (by omega),hl,Nat.sub_self,show n - i=(n - (i+1))+1 by omega,List.replicate_succ,List.set_cons_zero,btw_succ,List.map_append,List.append_assoc]
 rfl
theorem zrow_zero (a b:Pt) (n:Nat):zrow a b n 0=List.replicate n (PV.list 0 []):=by
 unfold zrow btw
 simp
theorem zrow_all (a b:Pt) (n:Nat):zrow a b n n=(btw a b n).map eExs:=by
 unfold zrow
 rw [Nat.sub_self]
 simp
set_option maxRecDepth 20000 in
theorem loop112 {a b:Pt} (ha:chkP a=0) (hb:chkP b=0) (hs:imSizes a.img=imSizes b.img) (hl:a.img.length≤lim) {st:St} (h:st.head [2,3,5,12,14,15] st.boxes.length=some ⟨sl 39 [(2,.pbox 0 0),(3,.pbox 1 0),(5,.row 1 (zrow a b a.img.length ((0:Nat)))),(12,.any),(14,.pv (.int .i64 a.img.length)),(15,.pv (.int .i64 (0:Nat)))],[⟨false,bPt a⟩,⟨false,bPt b⟩],[],none⟩) :
  den env fn112_l1 st=some (.normal,⟨sl 39 [(4,.any),(5,.row 1 (zrow a b a.img.length a.img.length))],[⟨false,bPt a⟩,⟨false,bPt b⟩],[],none⟩):=by
 unfold fn112_l1
 refine clean_up (env:=env) (nb:=2) (a.img.length) (fun i=>⟨sl 39 [(2,.pbox 0 0),(3,.pbox 1 0),(5,.row 1 (zrow a b a.img.length (i))),(12,.any),(14,.pv (.int .i64 a.img.length)),(15,.pv (.int .i64 i))],[⟨false,bPt a⟩,⟨false,bPt b⟩],[],none⟩) (fun i=>some (.normal,⟨sl 39 [(4,.any),(5,.row 1 (zrow a b a.img.length a.img.length))],[⟨false,bPt a⟩,⟨false,bPt b⟩],[],none⟩)) h (fun _=>rfl) (fun _=>by simp only [slAll,slsAll,Nat.reduceMul,Nat.reduceBEq,Nat.reduceLT,Nat.reduceLeDiff,Nat.reduceAdd,decide_true,Bool.and_self,Bool.true_and]) ?_ ?_
 ·intro i rb hi ih
  have hi1:=i64_next hi hl
  have F1:((i:Int)<(a.img.length:Int))=True:=eq_true (by omega)
  have h1:i<a.dirty.length:=by have:=(chkP_ok ha).2.2.1;omega
  have h2:i<b.dirty.length:=by have:=(chkP_ok hb).2.2.1;have:=same_len hs;omega
  have P2:∀ a b:PV,part [a,b] 0 (some 2)=some (.agg [a,b]):=fun _ _=>rfl
  have eA:∀ b:Bm,eBm b=.agg [.int .i64 b.size,.list 1 (b.ws.map eW)]:=fun _=>rfl
  obtain ⟨m1,m2⟩:=mrk_ok ha hb hs hi
  have hx:=dir_at h1
  have hy:=dir_at h2
  have e1:=cal136 (a:=dir a i) (b:=dir b i)
  have e2:=cal94 (b:=bothO orW (dir a i) (dir b i))
  rw [m1] at e1
  rw [m2] at e2
  generalize bothO orW (dir a i) (dir b i)=o at *
  rw [eA,eA,eA] at e1
  rw [eA] at e2 hx hy
  have z1:=zrow_len (a:=a) (b:=b) (n:=a.img.length) (i:=i) (by omega)
  have z2:=zrow_get (a:=a) (b:=b) hi
  have z3:=zrow_set (a:=a) (b:=b) hi
  have I1:index (.int .i64 (i:Int)) (zrow a b a.img.length i).length=some i:=by rw [z1];exact index_nat hi
  rw [← z3] at ih
  generalize zrow a b a.img.length i=z at *
  generalize (ext (mk2 a b i) (vLen a i)).map eExt=x at *
  simp only [fn112_b0,F1,P2,hx,hy,e1,e2,z2,I1,bPt_eq,index_nat h1,index_nat h2,List.length_map,slAll,slsAll,Nat.reduceMul,Nat.reduceBEq,Nat.reduceLT,Nat.reduceLeDiff,memAll,vAll,reduceCtorEq,Nat.reduceEqDiff,Nat.reduceAdd,Nat.reduceLT,Nat.reduceLeDiff,Nat.beq]
  rw [ih _ (by simp only [hi1,bPt_eq,slAll,slsAll,Nat.reduceMul,Nat.reduceBEq,Nat.reduceLT,Nat.reduceLeDiff,memAll,vAll,reduceCtorEq,Nat.reduceEqDiff,Nat.reduceAdd,Nat.reduceLT,Nat.reduceLeDiff,Nat.beq]<;>rfl)]
  all_goals rfl
 ·intro rb
  simp only [fn112_b0,Int.lt_irrefl,bPt_eq,List.length_map,slAll,slsAll,Nat.reduceMul,Nat.reduceBEq,Nat.reduceLT,Nat.reduceLeDiff,memAll,vAll,reduceCtorEq,Nat.reduceEqDiff,Nat.reduceAdd,Nat.reduceLT,Nat.reduceLeDiff,Nat.beq]
theorem cal112 {a b:Pt} (ha:chkP a=0) (hb:chkP b=0) (hs:imSizes a.img=imSizes b.img) (hl:a.img.length≤lim):cal env 112 [ePt a,ePt b]=some [(.list 1 ((btw a b a.img.length).map eExs),true)]:=by
 have hd:=(chkP_ok ha).2.2.1
 have hlim:lim=1073741824:=rfl
 have K1:(0≤(a.dirty.length:Int))=True:=eq_true (by omega)
 have K2:((a.dirty.length:Int)≤(lim:Int))=True:=eq_true (by omega)
 have K3:((a.dirty.length:Int)≤(a.dirty.length:Int))=True:=eq_true (Int.le_refl _)
 have K4:((a.dirty.length:Int)).toNat=a.dirty.length:=by omega
 rw [ePt_eq,ePt_eq]
 rw [cal_code env112 rfl];simp only [fn112,slAll,Nat.reduceBEq,Nat.reduceLeDiff,Nat.reduceAdd,List.length_cons,List.length_nil]
 simp only [K1,K2,K3,K4,List.length_map,List.length_replicate,slAll,slsAll,Nat.reduceMul,Nat.reduceBEq,Nat.reduceLT,Nat.reduceLeDiff,memAll,vAll,reduceCtorEq,Nat.reduceEqDiff,Nat.reduceAdd,Nat.reduceLT,Nat.reduceLeDiff,Nat.beq]
 rw [loop112 (a:=a) (b:=b) ha hb hs hl]
 rotate_left
 ·rw [zrow_zero,bPt_eq,bPt_eq,← hd]
  simp only [slAll,slsAll,Nat.reduceMul,Nat.reduceBEq,Nat.reduceLT,Nat.reduceLeDiff,Nat.reduceAdd,decide_true,Bool.and_self,Bool.true_and]<;>rfl
 ·rw [zrow_all]
  simp only [List.take_length,slAll,slsAll,Nat.reduceMul,Nat.reduceBEq,Nat.reduceLT,Nat.reduceLeDiff,memAll,vAll,reduceCtorEq,Nat.reduceEqDiff,Nat.reduceAdd,Nat.reduceLT,Nat.reduceLeDiff,Nat.beq]
def btE (a b:Pt):Int:=if chkP a=0 then if chkP b=0 then if imSizes a.img=imSizes b.img then 0 else 22 else chkP b else chkP a
def btO (a b:Pt):List (List Exn):=if btE a b=0 then btw a b a.img.length else []
def resT (n:Nat) (a b:Pt) (e:Int):Option (Ex × St):=if e=0 then some (.normal,⟨sl n [(2,.pbox 0 0),(3,.pbox 1 0),(4,.any),(5,.any)],[⟨false,bPt a⟩,⟨false,bPt b⟩],[],none⟩) else some (.ret,⟨sl n [(2,.pbox 0 0),(3,.pbox 1 0),(4,.row 1 []),(5,.pv (.int .i64 e))],[⟨false,bPt a⟩,⟨false,bPt b⟩],[],none⟩)
theorem loop69 {a b:Pt} (hf:∀ p∈[a,b],fitP p) {st:St} (h:st.head [2,3,11,12,13] st.boxes.length=some ⟨sl 32 [(2,.pbox 0 0),(3,.pbox 1 0),(11,.row 4 ([a,b].map ePt)),(12,.pv (.int .i64 [a,b].length)),(13,.pv (.int .i64 (0:Nat)))],[⟨false,bPt a⟩,⟨false,bPt b⟩],[],none⟩) :
  den env fn69_l1 st=resT 32 a b (frsE ([a,b].drop ((0:Nat)))):=by
 unfold fn69_l1
 refine clean_up (env:=env) (nb:=2) ([a,b].length) (fun i=>⟨sl 32 [(2,.pbox 0 0),(3,.pbox 1 0),(11,.row 4 ([a,b].map ePt)),(12,.pv (.int .i64 [a,b].length)),(13,.pv (.int .i64 i))],[⟨false,bPt a⟩,⟨false,bPt b⟩],[],none⟩) (fun i=>resT 32 a b (frsE ([a,b].drop (i)))) h (fun _=>rfl) (fun _=>by simp only [slAll,slsAll,Nat.reduceMul,Nat.reduceBEq,Nat.reduceLT,Nat.reduceLeDiff,Nat.reduceAdd,decide_true,Bool.and_self,Bool.true_and]) ?_ ?_
 ·intro i rb hi ih
  have hi1:=i64_next hi (by unfold lim;simp)
  have F1:((i:Int)<([a,b].length:Int))=True:=eq_true (by omega)
  generalize [a,b]=l at *
  have e1:=cal50 (p:=l[i]) (hf _ (List.getElem_mem hi))
  have hx:(l.map ePt)[i]?=some (ePt l[i]):=by rw [List.getElem?_map,List.getElem?_eq_getElem hi];rfl
  have P4:∀ a b c d:PV,part [a,b,c,d] 0 (some 4)=some (.agg [a,b,c,d]):=fun _ _ _ _=>rfl
  rw [frsE_step hi]
  rw [ePt_eq] at e1 hx
  by_cases c:chkP l[i]=0
  ·have G:((0:Int) != 0)=false:=rfl
   rw [if_pos c]
   rw [c] at e1
   simp only [fn69_b0,F1,hx,e1,G,P4,bPt_eq,index_nat hi,List.length_map,slAll,slsAll,Nat.reduceMul,Nat.reduceBEq,Nat.reduceLT,Nat.reduceLeDiff,memAll,vAll,reduceCtorEq,Nat.reduceEqDiff,Nat.reduceAdd,Nat.reduceLT,Nat.reduceLeDiff,Nat.beq]
   rw [ih _ (by simp only [hi1,bPt_eq,slAll,slsAll,Nat.reduceMul,Nat.reduceBEq,Nat.reduceLT,Nat.reduceLeDiff,memAll,vAll,reduceCtorEq,Nat.reduceEqDiff,Nat.reduceAdd,Nat.reduceLT,Nat.reduceLeDiff,Nat.beq]<;>rfl)]
   all_goals rfl
  ·have G:(chkP l[i] != 0)=true:=by simpa using c
   rw [if_neg c]
   unfold resT
   rw [if_neg c]
   simp only [fn69_b0,F1,hx,e1,G,P4,bPt_eq,index_nat hi,List.length_map,slAll,slsAll,Nat.reduceMul,Nat.reduceBEq,Nat.reduceLT,Nat.reduceLeDiff,memAll,vAll,reduceCtorEq,Nat.reduceEqDiff,Nat.reduceAdd,Nat.reduceLT,Nat.reduceLeDiff,Nat.beq]
 ·intro rb
  rw [List.drop_length]
  unfold frsE resT
  rw [if_pos rfl]
  simp only [fn69_b0,Int.lt_irrefl,bPt_eq,List.length_map,slAll,slsAll,Nat.reduceMul,Nat.reduceBEq,Nat.reduceLT,Nat.reduceLeDiff,memAll,vAll,reduceCtorEq,Nat.reduceEqDiff,Nat.reduceAdd,Nat.reduceLT,Nat.reduceLeDiff,Nat.beq]
theorem cal69 {a b:Pt} (ha:fitP a) (hb:fitP b):cal env 69 [ePt a,ePt b]=some [(.list 1 ((btO a b).map eExs),true),(.int .i64 (btE a b),false)]:=by
 have e3:=cal111 (a:=a.img) (b:=b.img) ha.2.2
 have P4:∀ a b c d:PV,part [a,b,c,d] 0 (some 4)=some (.agg [a,b,c,d]):=fun _ _ _ _=>rfl
 have hF:frsE [a,b]=if chkP a=0 then chkP b else chkP a:=by
  unfold frsE frsE frsE
  by_cases c:chkP b=0
  ·simp [c]
  ·simp [c]
 have hf:∀ p∈[a,b],fitP p:=by simp;exact ⟨ha,hb⟩
 rw [ePt_eq,ePt_eq]
 rw [cal_code env69 rfl];simp only [fn69,slAll,Nat.reduceBEq,Nat.reduceLeDiff,Nat.reduceAdd,List.length_cons,List.length_nil]
 simp only [P4,List.length_map,slAll,slsAll,Nat.reduceMul,Nat.reduceBEq,Nat.reduceLT,Nat.reduceLeDiff,memAll,vAll,reduceCtorEq,Nat.reduceEqDiff,Nat.reduceAdd,Nat.reduceLT,Nat.reduceLeDiff,Nat.beq]
 rw [loop69 (a:=a) (b:=b) hf]
 rotate_left
 ·rw [bPt_eq,bPt_eq]
  simp only [slAll,slsAll,Nat.reduceMul,Nat.reduceBEq,Nat.reduceLT,Nat.reduceLeDiff,Nat.reduceAdd,decide_true,Bool.and_self,Bool.true_and]<;>rfl
 ·rw [List.drop_zero,hF]
  unfold resT btO btE
  by_cases c1:chkP a=0
  ·rw [if_pos c1,if_pos c1]
   by_cases c2:chkP b=0
   ·rw [if_pos c2,if_pos c2]
    by_cases c3:imSizes a.img=imSizes b.img
    ·rw [decide_eq_true c3] at e3
     have e4:=cal112 (a:=a) (b:=b) c1 c2 c3 ha.2.2
     rw [ePt_eq,ePt_eq] at e4
     rw [if_pos c3,if_pos rfl]
     simp only [e3,e4,P4,bPt_eq,List.length_map,slAll,slsAll,Nat.reduceMul,Nat.reduceBEq,Nat.reduceLT,Nat.reduceLeDiff,memAll,vAll,reduceCtorEq,Nat.reduceEqDiff,Nat.reduceAdd,Nat.reduceLT,Nat.reduceLeDiff,Nat.beq]
    ·rw [decide_eq_false c3] at e3
     rw [if_neg c3,if_neg (by decide)]
     simp only [e3,P4,bPt_eq,List.length_map,List.map_nil,slAll,slsAll,Nat.reduceMul,Nat.reduceBEq,Nat.reduceLT,Nat.reduceLeDiff,memAll,vAll,reduceCtorEq,Nat.reduceEqDiff,Nat.reduceAdd,Nat.reduceLT,Nat.reduceLeDiff,Nat.beq]
   ·simp only [if_neg c2]
    simp only [bPt_eq,List.length_map,List.map_nil,slAll,slsAll,Nat.reduceMul,Nat.reduceBEq,Nat.reduceLT,Nat.reduceLeDiff,memAll,vAll,reduceCtorEq,Nat.reduceEqDiff,Nat.reduceAdd,Nat.reduceLT,Nat.reduceLeDiff,Nat.beq]
  ·simp only [if_neg c1]
   simp only [bPt_eq,List.length_map,List.map_nil,slAll,slsAll,Nat.reduceMul,Nat.reduceBEq,Nat.reduceLT,Nat.reduceLeDiff,memAll,vAll,reduceCtorEq,Nat.reduceEqDiff,Nat.reduceAdd,Nat.reduceLT,Nat.reduceLeDiff,Nat.beq]
end Go.Proofs.YtioijcfcehhmdaaGreatDoor.V

namespace Go.Proofs.YtioijcfcehhmdaaGreatDoor.V
structure Prc where
 kind:Int
 frm:Int
 to:Int
 step:Int
 ep:Int
 cyc:Int
 done:Bool
 failed:Bool
def ePrc (p:Prc):PV:=.agg [.int .i64 p.kind,.int .i64 p.frm,.int .i64 p.to,.int .i64 p.step,.int .i64 p.ep,.int .i64 p.cyc,.bool p.done,.bool p.failed]
theorem ePrc_eq (p:Prc):ePrc p=.agg [.int .i64 p.kind,.int .i64 p.frm,.int .i64 p.to,.int .i64 p.step,.int .i64 p.ep,.int .i64 p.cyc,.bool p.done,.bool p.failed]:=rfl
def siteB (n:Int):Bool:=decide (0≤n)&&decide (n<4)
--+
theorem cal70 {n:Int}:cal env 70 [.int .i64 n]=some [(.bool (siteB n),false)]:=by
 unfold siteB
 by_cases h:0≤n
 ·have F1:(n ≥ 0)=True:=eq_true h
  have F2:(0≤n)=True:=eq_true h
  rw [cal_code env70 rfl];simp only [fn70,slAll,Nat.reduceBEq,Nat.reduceLeDiff,Nat.reduceAdd,List.length_cons,List.length_nil]
  simp only [F1,F2,slAll,slsAll,Nat.reduceMul,Nat.reduceBEq,Nat.reduceLT,Nat.reduceLeDiff,memAll,vAll,reduceCtorEq,Nat.reduceEqDiff,Nat.reduceAdd,Nat.reduceLT,Nat.reduceLeDiff,Nat.beq]
 ·have F1:(n ≥ 0)=False:=eq_false h
  have F2:(0≤n)=False:=eq_false h
  rw [cal_code env70 rfl];simp only [fn70,slAll,Nat.reduceBEq,Nat.reduceLeDiff,Nat.reduceAdd,List.length_cons,List.length_nil]
  simp only [F1,F2,slAll,slsAll,Nat.reduceMul,Nat.reduceBEq,Nat.reduceLT,Nat.reduceLeDiff,memAll,vAll,reduceCtorEq,Nat.reduceEqDiff,Nat.reduceAdd,Nat.reduceLT,Nat.reduceLeDiff,Nat.beq]
--+
theorem demT51 (n:Int):thrown env 51 [.bool true,.int .i64 n]=some none:=thrown_thr env51
theorem demF51 (n:Int):thrown env 51 [.bool false,.int .i64 n]=some (some (148,n)):=thrown_thr env51
theorem cal51 (n:Int):cal env 51 [.bool true,.int .i64 n]=some []:=cal_thr env51 rfl
theorem okT49:thrown env 49 [.int .i64 0]=some none:=by
 have d1:=demT51
 have d2:=cal51
 have F1:((0:Int)==0)=true:=rfl
 rw [thrown_code env49 rfl rfl];simp only [fn49,slAll,Nat.reduceBEq,Nat.reduceLeDiff,Nat.reduceAdd,List.length_cons,List.length_nil]
 simp only [d1,d2,F1,slAll,slsAll,Nat.reduceMul,Nat.reduceBEq,Nat.reduceLT,Nat.reduceLeDiff,memAll,vAll,reduceCtorEq,Nat.reduceEqDiff,Nat.reduceAdd,Nat.reduceLT,Nat.reduceLeDiff,Nat.beq]
theorem okF49 {e:Int} (h:e≠0):thrown env 49 [.int .i64 e]=some (some (148,e)):=by
 have d1:=demF51
 have F1:(e==0)=false:=by simp [h]
 rw [thrown_code env49 rfl rfl];simp only [fn49,slAll,Nat.reduceBEq,Nat.reduceLeDiff,Nat.reduceAdd,List.length_cons,List.length_nil]
 simp only [d1,F1,slAll,slsAll,Nat.reduceMul,Nat.reduceBEq,Nat.reduceLT,Nat.reduceLeDiff,memAll,vAll,reduceCtorEq,Nat.reduceEqDiff,Nat.reduceAdd,Nat.reduceLT,Nat.reduceLeDiff,Nat.beq]
theorem cal49:cal env 49 [.int .i64 0]=some []:=by
 have d1:=demT51
 have d2:=cal51
 have F1:((0:Int)==0)=true:=rfl
 rw [cal_code env49 rfl];simp only [fn49,slAll,Nat.reduceBEq,Nat.reduceLeDiff,Nat.reduceAdd,List.length_cons,List.length_nil]
 simp only [d1,d2,F1,slAll,slsAll,Nat.reduceMul,Nat.reduceBEq,Nat.reduceLT,Nat.reduceLeDiff,memAll,vAll,reduceCtorEq,Nat.reduceEqDiff,Nat.reduceAdd,Nat.reduceLT,Nat.reduceLeDiff,Nat.beq]
end Go.Proofs.YtioijcfcehhmdaaGreatDoor.V

namespace Go.Proofs.YtioijcfcehhmdaaGreatDoor.V
end Go.Proofs.YtioijcfcehhmdaaGreatDoor.V

namespace Go.Proofs.YtioijcfcehhmdaaGreatDoor.V
--+
theorem cal52 {l:List Spn} (hl:l.length≤lim):cal env 52 [.list 3 (l.map eSpn)]=some [(.int .i64 (headOf l).epoch,false),(.int .i64 (headOf l).to,false)]:=by
 by_cases h0:l.length=0
 ·obtain rfl:=List.eq_nil_of_length_eq_zero h0
  have F1:(((0:Nat):Int)==0)=true:=rfl
  rw [cal_code env52 rfl];simp only [fn52,slAll,Nat.reduceBEq,Nat.reduceLeDiff,Nat.reduceAdd,List.length_cons,List.length_nil]
  simp only [F1,List.length_nil,List.map_nil,slAll,slsAll,Nat.reduceMul,Nat.reduceBEq,Nat.reduceLT,Nat.reduceLeDiff,memAll,vAll,reduceCtorEq,Nat.reduceEqDiff,Nat.reduceAdd,Nat.reduceLT,Nat.reduceLeDiff,Nat.beq]
  rfl
 ·obtain ⟨k,hk⟩:∃ k,l.length=k+1:=⟨l.length - 1,by omega⟩
  have hkl:k<l.length:=by omega
  have hx:l[k]?=some l[k]:=List.getElem?_eq_getElem hkl
  have he:headOf l=l[k]:=by rw [headOf,hk,lastOf_succ hkl]
  have hl':=hl
  unfold lim at hl'
  have F1:((l.length:Int)==0)=false:=by simpa using h0
  have F2:IntKind.i64.wrap ((l.length:Int) - 1)=(k:Int):=by rw [i64_fits (by omega)];omega
  have P0:∀ a b c:PV,part [a,b,c] 0 (some 3)=some (.agg [a,b,c]):=fun _ _ _=>rfl
  rw [he]
  generalize l[k]=x at *
  obtain ⟨xe,xf,xt⟩:=x
  rw [cal_code env52 rfl];simp only [fn52,slAll,Nat.reduceBEq,Nat.reduceLeDiff,Nat.reduceAdd,List.length_cons,List.length_nil]
  simp only [F1,F2,hx,eSpn,index_nat hkl,List.getElem?_map,Option.map_some,P0,List.length_map,slAll,slsAll,Nat.reduceMul,Nat.reduceBEq,Nat.reduceLT,Nat.reduceLeDiff,memAll,vAll,reduceCtorEq,Nat.reduceEqDiff,Nat.reduceAdd,Nat.reduceLT,Nat.reduceLeDiff,Nat.beq]
--+
end Go.Proofs.YtioijcfcehhmdaaGreatDoor.V

namespace Go.Proofs.YtioijcfcehhmdaaGreatDoor.V
def bPrc (p:Prc):List BV:=[.pv (.int .i64 p.kind),.pv (.int .i64 p.frm),.pv (.int .i64 p.to),.pv (.int .i64 p.step),.pv (.int .i64 p.ep),.pv (.int .i64 p.cyc),.pv (.bool p.done),.pv (.bool p.failed)]
theorem bPrc_eq (p:Prc):bPrc p=[.pv (.int .i64 p.kind),.pv (.int .i64 p.frm),.pv (.int .i64 p.to),.pv (.int .i64 p.step),.pv (.int .i64 p.ep),.pv (.int .i64 p.cyc),.pv (.bool p.done),.pv (.bool p.failed)]:=rfl
def zPrc:Prc:=⟨0,0,0,0,0,0,false,false⟩
end Go.Proofs.YtioijcfcehhmdaaGreatDoor.V

namespace Go.Proofs.YtioijcfcehhmdaaGreatDoor.V
end Go.Proofs.YtioijcfcehhmdaaGreatDoor.V

namespace Go.Proofs.YtioijcfcehhmdaaGreatDoor.V
def ancR (p:Spn):List Spn→List Spn→Bool × Int × Int
 |x :: a,y :: b=>if x.epoch=y.epoch then (if x.to=y.to then ancR x a b else (true,if y.to<x.to then y.to else x.to,x.epoch)) else (true,p.to,p.epoch)
 |_,_=>(false,p.to,p.epoch)
end Go.Proofs.YtioijcfcehhmdaaGreatDoor.V

namespace Go.Proofs.YtioijcfcehhmdaaGreatDoor.V
def ancX (a b:List Spn):Int × Int:=if (linOk a&&linOk b)=true then (ancR z0 a b).2 else (0,0)
end Go.Proofs.YtioijcfcehhmdaaGreatDoor.V

namespace Go.Proofs.YtioijcfcehhmdaaGreatDoor.V
set_option maxHeartbeats 2000000 in
theorem loop71 {a b:List Spn} (ha:a.length≤lim) (hb:b.length≤lim)
  {st:St} (h:st.head [0,1,6,7,8] st.boxes.length=some ⟨[.pv (.list 3 (a.map eSpn)),.pv (.list 3 (b.map eSpn)),.any,.any,.any,.any,.pv (.int .i64 0),.pv (.int .i64 0),.pv (.int .i64 (0:Nat)),.any,.any,.any,.any,.any,.any,.any,.any,.any,.any,.any,.any,.any,.any,.any,.any,.any,.any,.any,.any,.any,.any,.any,.any,.any,.any,.any,.any,.any,.any,.any,.any,.any,.any,.any,.any,.any,.any,.any,.any,.any,.any,.any,.any,.any,.any,.any,.any,.any,.any,.any,.any,.any,.any,.any,.any,.any,.any,.any],[],[],none⟩) :
  den env fn71_l1 st=match ancR z0 a b with
   |(false,c,e)=>some (.normal,⟨[.any,.any,.any,.any,.any,.any,.pv (.int .i64 c),.pv (.int .i64 e),.any,.any,.any,.any,.any,.any,.any,.any,.any,.any,.any,.any,.any,.any,.any,.any,.any,.any,.any,.any,.any,.any,.any,.any,.any,.any,.any,.any,.any,.any,.any,.any,.any,.any,.any,.any,.any,.any,.any,.any,.any,.any,.any,.any,.any,.any,.any,.any,.any,.any,.any,.any,.any,.any,.any,.any,.any,.any,.any,.any],[],[],none⟩)
   |(true,c,e)=>some (.normal,⟨[.any,.any,.any,.any,.any,.any,.pv (.int .i64 c),.pv (.int .i64 e),.any,.any,.any,.any,.any,.any,.any,.any,.any,.any,.any,.any,.any,.any,.any,.any,.any,.any,.any,.any,.any,.any,.any,.any,.any,.any,.any,.any,.any,.any,.any,.any,.any,.any,.any,.any,.any,.any,.any,.any,.any,.any,.any,.any,.any,.any,.any,.any,.any,.any,.any,.any,.any,.any,.any,.any,.any,.any,.any,.any],[],[],none⟩):=by
 unfold fn71_l1
 refine clean_upP (env:=env) (min a.length b.length) (fun _=>True) (fun i=>⟨[.pv (.list 3 (a.map eSpn)),.pv (.list 3 (b.map eSpn)),.any,.any,.any,.any,.pv (.int .i64 (lastOf a i).to),.pv (.int .i64 (lastOf a i).epoch),.pv (.int .i64 i),.any,.any,.any,.any,.any,.any,.any,.any,.any,.any,.any,.any,.any,.any,.any,.any,.any,.any,.any,.any,.any,.any,.any,.any,.any,.any,.any,.any,.any,.any,.any,.any,.any,.any,.any,.any,.any,.any,.any,.any,.any,.any,.any,.any,.any,.any,.any,.any,.any,.any,.any,.any,.any,.any,.any,.any,.any,.any,.any],[],[],none⟩)
  (fun i=>match ancR (lastOf a i) (a.drop i) (b.drop i) with
   |(false,c,e)=>some (.normal,⟨[.any,.any,.any,.any,.any,.any,.pv (.int .i64 c),.pv (.int .i64 e),.any,.any,.any,.any,.any,.any,.any,.any,.any,.any,.any,.any,.any,.any,.any,.any,.any,.any,.any,.any,.any,.any,.any,.any,.any,.any,.any,.any,.any,.any,.any,.any,.any,.any,.any,.any,.any,.any,.any,.any,.any,.any,.any,.any,.any,.any,.any,.any,.any,.any,.any,.any,.any,.any,.any,.any,.any,.any,.any,.any],[],[],none⟩)
   |(true,c,e)=>some (.normal,⟨[.any,.any,.any,.any,.any,.any,.pv (.int .i64 c),.pv (.int .i64 e),.any,.any,.any,.any,.any,.any,.any,.any,.any,.any,.any,.any,.any,.any,.any,.any,.any,.any,.any,.any,.any,.any,.any,.any,.any,.any,.any,.any,.any,.any,.any,.any,.any,.any,.any,.any,.any,.any,.any,.any,.any,.any,.any,.any,.any,.any,.any,.any,.any,.any,.any,.any,.any,.any,.any,.any,.any,.any,.any,.any],[],[],none⟩)) h trivial (fun _=>rfl) (fun _=>rfl) ?_ ?_
 ·intro i rb hi _ ih
  have hia:i<a.length:=by omega
  have hib:i<b.length:=by omega
  have hi1:=i64_next hia ha
  have F1:((i:Int)<(if (b.length:Int)<(a.length:Int) then (b.length:Int) else (a.length:Int)))=True:=eq_true (by split<;>omega)
  have hx:a[i]?=some a[i]:=List.getElem?_eq_getElem hia
  have hy:b[i]?=some b[i]:=List.getElem?_eq_getElem hib
  rw [lastOf_succ hia] at ih
  rw [List.drop_eq_getElem_cons hia,List.drop_eq_getElem_cons hib]
  unfold ancR
  generalize lastOf a i=p at *
  generalize a[i]=x at *
  generalize b[i]=y at *
  obtain ⟨pe,pf,pt⟩:=p
  obtain ⟨xe,xf,xt⟩:=x
  obtain ⟨ye,yf,yt⟩:=y
  by_cases c1:xe=ye
  rotate_left
  ·have G1:(xe==ye)=false:=by simpa using c1
   have G0:(xe=ye)=False:=eq_false c1
   simp only [G1,G0,if_false,fn71_b0,F1,hx,hy,eSpn,index_nat hia,index_nat hib,List.getElem?_map,Option.map_some,memAll,vAll,reduceCtorEq,Nat.reduceEqDiff,Nat.reduceAdd,Nat.reduceLT,Nat.reduceLeDiff,Nat.beq]<;>rfl
  have G1:(xe==ye)=true:=by simpa using c1
  by_cases c2:xt=yt
  rotate_left
  ·have G2:(xt != yt)=true:=by simpa using c2
   have G0:(xt=yt)=False:=eq_false c2
   simp only [G1,G2,c1,G0,if_false,if_true,fn71_b0,F1,hx,hy,eSpn,index_nat hia,index_nat hib,List.getElem?_map,Option.map_some,memAll,vAll,reduceCtorEq,Nat.reduceEqDiff,Nat.reduceAdd,Nat.reduceLT,Nat.reduceLeDiff,Nat.beq]<;>rfl
  subst c1 c2
  have G1:(xe==xe)=true:=by simp
  have G2:(xt != xt)=false:=by simp
  simp only [G1,G2,Int.lt_irrefl,if_false,if_true,fn71_b0,F1,hx,hy,eSpn,index_nat hia,index_nat hib,List.getElem?_map,Option.map_some,memAll,vAll,reduceCtorEq,Nat.reduceEqDiff,Nat.reduceAdd,Nat.reduceLT,Nat.reduceLeDiff,Nat.beq]
  rw [ih trivial _ (by simp only [hi1];rfl)]
 ·intro rb _
  have F1:(((min a.length b.length:Nat):Int)<(if (b.length:Int)<(a.length:Int) then (b.length:Int) else (a.length:Int)))=False:=eq_false (by split<;>omega)
  simp only [fn71_b0,F1,memAll,vAll,reduceCtorEq,Nat.reduceEqDiff,Nat.reduceAdd,Nat.reduceLT,Nat.reduceLeDiff,Nat.beq]
  by_cases h1:a.length≤b.length
  ·have e:min a.length b.length=a.length:=by omega
   rw [e,List.drop_length]
   rfl
  ·have e:min a.length b.length=b.length:=by omega
   rw [e,List.drop_length]
   cases a.drop b.length<;>rfl
end Go.Proofs.YtioijcfcehhmdaaGreatDoor.V

namespace Go.Proofs.YtioijcfcehhmdaaGreatDoor.V
theorem cal71 {a b:List Spn} (ha:a.length≤lim) (hb:b.length≤lim):cal env 71 [.list 3 (a.map eSpn),.list 3 (b.map eSpn)]=some [(.int .i64 (ancX a b).1,false),(.int .i64 (ancX a b).2,false)]:=by
 have e1:=cal93 ha
 have e2:=cal93 hb
 unfold ancX
 cases h1:linOk a with
 |false =>
  rw [h1] at e1
  rw [cal_code env71 rfl];simp only [fn71];simp only [start,z_map_cons,z_map_nil,z_len_cons,z_len_nil,z_repl_zero,z_repl_succ,z_cons_app,z_nil_app,Nat.reduceAdd,Nat.reduceSub]
  simp only [e1,Bool.false_and,Bool.false_eq_true,if_false,memAll,vAll,reduceCtorEq,Nat.reduceEqDiff,Nat.reduceAdd,Nat.reduceLT,Nat.reduceLeDiff,Nat.beq]
 |true =>
  rw [h1] at e1
  cases h2:linOk b with
  |false =>
   rw [h2] at e2
   rw [cal_code env71 rfl];simp only [fn71];simp only [start,z_map_cons,z_map_nil,z_len_cons,z_len_nil,z_repl_zero,z_repl_succ,z_cons_app,z_nil_app,Nat.reduceAdd,Nat.reduceSub]
   simp only [e1,e2,Bool.and_false,Bool.false_eq_true,if_false,memAll,vAll,reduceCtorEq,Nat.reduceEqDiff,Nat.reduceAdd,Nat.reduceLT,Nat.reduceLeDiff,Nat.beq]
  |true =>
   rw [h2] at e2
   rw [cal_code env71 rfl];simp only [fn71];simp only [start,z_map_cons,z_map_nil,z_len_cons,z_len_nil,z_repl_zero,z_repl_succ,z_cons_app,z_nil_app,Nat.reduceAdd,Nat.reduceSub]
   simp only [e1,e2,Bool.and_self,if_true,memAll,vAll,reduceCtorEq,Nat.reduceEqDiff,Nat.reduceAdd,Nat.reduceLT,Nat.reduceLeDiff,Nat.beq]
   rw [loop71 ha hb]
   rotate_left
   ·rfl
   ·cases h:ancR z0 a b with
    |mk t q =>
     obtain ⟨c,e⟩:=q
     cases t with
     |true=>simp only [memAll,vAll,reduceCtorEq,Nat.reduceEqDiff,Nat.reduceAdd,Nat.reduceLT,Nat.reduceLeDiff,Nat.beq]
     |false=>simp only [memAll,vAll,reduceCtorEq,Nat.reduceEqDiff,Nat.reduceAdd,Nat.reduceLT,Nat.reduceLeDiff,Nat.beq]
end Go.Proofs.YtioijcfcehhmdaaGreatDoor.V

namespace Go.Proofs.YtioijcfcehhmdaaGreatDoor.V
def begE (a b:Pt) (ep:Int):Int:=(if btE a b=0 then (if siteB a.site=true then (if siteB b.site=true then (if a.site≠b.site then (if (headOf a.lin).epoch<ep then (if (headOf b.lin).epoch<ep then (if ep≤1073741824 then 0 else 2) else 13) else 13) else 1) else 2) else 2) else btE a b)
def begO (a b:Pt) (ep:Int):Prc:=if begE a b ep=0 then ⟨3,b.site,a.site,0,ep,(ancX a.lin b.lin).1,false,false⟩ else zPrc
def begL (a b:Pt) (ep:Int):List (List Exn):=if begE a b ep=0 then btO a b else []
theorem eExts_nil:([]:List (List Exn)).map eExs=[]:=rfl
theorem cal24 {a b:Pt} {ep:Int} (ha:fitP a) (hb:fitP b):cal env 24 [ePt a,ePt b,.int .i64 ep]=some [(ePrc (begO a b ep),false),(.list 1 ((begL a b ep).map eExs),false),(.int .i64 (begE a b ep),false)]:=by
 have d1:=cal69 ha hb
 have s1:=cal70 (n:=a.site)
 have s2:=cal70 (n:=b.site)
 have h1:=cal52 (l:=a.lin) ha.1
 have h2:=cal52 (l:=b.lin) hb.1
 have an:=cal71 (a:=a.lin) (b:=b.lin) ha.1 hb.1
 rw [ePt_eq,ePt_eq] at d1
 have k1:=okT49
 have k2:=cal49
 have q1:=demT51
 have q2:=cal51
 have q3:=demF51
 rw [ePt_eq,ePt_eq,cal_dfn env24 rfl]
 by_cases c0:btE a b=0
 rotate_left
 ·have k3:=okF49 c0
  have Z:(btE a b=0)=False:=eq_false c0
  have hE:begE a b ep=btE a b:=by unfold begE;rw [if_neg c0]
  have hO:begO a b ep=zPrc:=by unfold begO;rw [hE,if_neg c0]
  have hL:begL a b ep=[]:=by unfold begL;rw [hE,if_neg c0]
  rw [hE,hO,hL,ePrc_eq]
  simp only [fn24,slAll,Nat.reduceBEq,Nat.reduceLeDiff,Nat.reduceAdd,List.length_cons,List.length_nil]
  simp only [h1,h2,an,d1,k3,Z,q1,q2,q3,zPrc,bPt_eq,bPrc_eq,eExts_nil,dfnRun_normal,DFn.begun,dfnEnd,varOf,dfnResc,dfnClos,heldOf,boxOf,St.setVar,St.setVars,St.varInt,PV.naught,List.all_cons,List.all_nil,List.head?_cons,List.tail_cons,and_true,true_and,List.nodup_cons,List.mem_cons,List.not_mem_nil,or_false,not_false_eq_true,List.nodup_nil,Option.some.injEq,Nat.reduceEqDiff,Int.reduceEq,if_true,if_false,slAll,slsAll,Nat.reduceMul,Nat.reduceBEq,Nat.reduceLT,Nat.reduceLeDiff,memAll,vAll,reduceCtorEq,Nat.reduceEqDiff,Nat.reduceAdd,Nat.reduceLT,Nat.reduceLeDiff,Nat.beq]
 rw [c0] at d1
 by_cases c1:siteB a.site=true
 rotate_left
 ·have F1:siteB a.site=false:=by simpa using c1
  have hE:begE a b ep=2:=by unfold begE;rw [if_pos c0,if_neg c1]
  have hO:begO a b ep=zPrc:=by unfold begO;rw [hE,if_neg (by decide)]
  have hL:begL a b ep=[]:=by unfold begL;rw [hE,if_neg (by decide)]
  rw [hE,hO,hL,ePrc_eq]
  simp only [fn24,slAll,Nat.reduceBEq,Nat.reduceLeDiff,Nat.reduceAdd,List.length_cons,List.length_nil]
  simp only [h1,h2,an,d1,k1,k2,s1,F1,q1,q2,q3,zPrc,bPt_eq,bPrc_eq,eExts_nil,dfnRun_normal,DFn.begun,dfnEnd,varOf,dfnResc,dfnClos,heldOf,boxOf,St.setVar,St.setVars,St.varInt,PV.naught,List.all_cons,List.all_nil,List.head?_cons,List.tail_cons,and_true,true_and,List.nodup_cons,List.mem_cons,List.not_mem_nil,or_false,not_false_eq_true,List.nodup_nil,Option.some.injEq,Nat.reduceEqDiff,Int.reduceEq,if_true,if_false,slAll,slsAll,Nat.reduceMul,Nat.reduceBEq,Nat.reduceLT,Nat.reduceLeDiff,memAll,vAll,reduceCtorEq,Nat.reduceEqDiff,Nat.reduceAdd,Nat.reduceLT,Nat.reduceLeDiff,Nat.beq]
 have F1:siteB a.site=true:=by simpa using c1
 by_cases c2:siteB b.site=true
 rotate_left
 ·have F2:siteB b.site=false:=by simpa using c2
  have hE:begE a b ep=2:=by unfold begE;rw [if_pos c0,if_pos c1,if_neg c2]
  have hO:begO a b ep=zPrc:=by unfold begO;rw [hE,if_neg (by decide)]
  have hL:begL a b ep=[]:=by unfold begL;rw [hE,if_neg (by decide)]
  rw [hE,hO,hL,ePrc_eq]
  simp only [fn24,slAll,Nat.reduceBEq,Nat.reduceLeDiff,Nat.reduceAdd,List.length_cons,List.length_nil]
  simp only [h1,h2,an,d1,k1,k2,s1,F1,s2,F2,q1,q2,q3,zPrc,bPt_eq,bPrc_eq,eExts_nil,dfnRun_normal,DFn.begun,dfnEnd,varOf,dfnResc,dfnClos,heldOf,boxOf,St.setVar,St.setVars,St.varInt,PV.naught,List.all_cons,List.all_nil,List.head?_cons,List.tail_cons,and_true,true_and,List.nodup_cons,List.mem_cons,List.not_mem_nil,or_false,not_false_eq_true,List.nodup_nil,Option.some.injEq,Nat.reduceEqDiff,Int.reduceEq,if_true,if_false,slAll,slsAll,Nat.reduceMul,Nat.reduceBEq,Nat.reduceLT,Nat.reduceLeDiff,memAll,vAll,reduceCtorEq,Nat.reduceEqDiff,Nat.reduceAdd,Nat.reduceLT,Nat.reduceLeDiff,Nat.beq]
 have F2:siteB b.site=true:=by simpa using c2
 by_cases c3:a.site≠b.site
 rotate_left
 ·have F3:(a.site != b.site)=false:=by simpa using c3
  have hE:begE a b ep=1:=by unfold begE;rw [if_pos c0,if_pos c1,if_pos c2,if_neg c3]
  have hO:begO a b ep=zPrc:=by unfold begO;rw [hE,if_neg (by decide)]
  have hL:begL a b ep=[]:=by unfold begL;rw [hE,if_neg (by decide)]
  rw [hE,hO,hL,ePrc_eq]
  simp only [fn24,slAll,Nat.reduceBEq,Nat.reduceLeDiff,Nat.reduceAdd,List.length_cons,List.length_nil]
  simp only [h1,h2,an,d1,k1,k2,s1,F1,s2,F2,F3,q1,q2,q3,zPrc,bPt_eq,bPrc_eq,eExts_nil,dfnRun_normal,DFn.begun,dfnEnd,varOf,dfnResc,dfnClos,heldOf,boxOf,St.setVar,St.setVars,St.varInt,PV.naught,List.all_cons,List.all_nil,List.head?_cons,List.tail_cons,and_true,true_and,List.nodup_cons,List.mem_cons,List.not_mem_nil,or_false,not_false_eq_true,List.nodup_nil,Option.some.injEq,Nat.reduceEqDiff,Int.reduceEq,if_true,if_false,slAll,slsAll,Nat.reduceMul,Nat.reduceBEq,Nat.reduceLT,Nat.reduceLeDiff,memAll,vAll,reduceCtorEq,Nat.reduceEqDiff,Nat.reduceAdd,Nat.reduceLT,Nat.reduceLeDiff,Nat.beq]
 have F3:(a.site != b.site)=true:=by simpa using c3
 by_cases c4:(headOf a.lin).epoch<ep
 rotate_left
 ·have F4:(ep > (headOf a.lin).epoch)=False:=eq_false c4
  have hE:begE a b ep=13:=by unfold begE;rw [if_pos c0,if_pos c1,if_pos c2,if_pos c3,if_neg c4]
  have hO:begO a b ep=zPrc:=by unfold begO;rw [hE,if_neg (by decide)]
  have hL:begL a b ep=[]:=by unfold begL;rw [hE,if_neg (by decide)]
  rw [hE,hO,hL,ePrc_eq]
  simp only [fn24,slAll,Nat.reduceBEq,Nat.reduceLeDiff,Nat.reduceAdd,List.length_cons,List.length_nil]
  simp only [h1,h2,an,d1,k1,k2,s1,F1,s2,F2,F3,F4,q1,q2,q3,zPrc,bPt_eq,bPrc_eq,eExts_nil,dfnRun_normal,DFn.begun,dfnEnd,varOf,dfnResc,dfnClos,heldOf,boxOf,St.setVar,St.setVars,St.varInt,PV.naught,List.all_cons,List.all_nil,List.head?_cons,List.tail_cons,and_true,true_and,List.nodup_cons,List.mem_cons,List.not_mem_nil,or_false,not_false_eq_true,List.nodup_nil,Option.some.injEq,Nat.reduceEqDiff,Int.reduceEq,if_true,if_false,slAll,slsAll,Nat.reduceMul,Nat.reduceBEq,Nat.reduceLT,Nat.reduceLeDiff,memAll,vAll,reduceCtorEq,Nat.reduceEqDiff,Nat.reduceAdd,Nat.reduceLT,Nat.reduceLeDiff,Nat.beq]
 have F4:(ep > (headOf a.lin).epoch)=True:=eq_true c4
 by_cases c5:(headOf b.lin).epoch<ep
 rotate_left
 ·have F5:(ep > (headOf b.lin).epoch)=False:=eq_false c5
  have hE:begE a b ep=13:=by unfold begE;rw [if_pos c0,if_pos c1,if_pos c2,if_pos c3,if_pos c4,if_neg c5]
  have hO:begO a b ep=zPrc:=by unfold begO;rw [hE,if_neg (by decide)]
  have hL:begL a b ep=[]:=by unfold begL;rw [hE,if_neg (by decide)]
  rw [hE,hO,hL,ePrc_eq]
  simp only [fn24,slAll,Nat.reduceBEq,Nat.reduceLeDiff,Nat.reduceAdd,List.length_cons,List.length_nil]
  simp only [h1,h2,an,d1,k1,k2,s1,F1,s2,F2,F3,F4,F5,q1,q2,q3,zPrc,bPt_eq,bPrc_eq,eExts_nil,dfnRun_normal,DFn.begun,dfnEnd,varOf,dfnResc,dfnClos,heldOf,boxOf,St.setVar,St.setVars,St.varInt,PV.naught,List.all_cons,List.all_nil,List.head?_cons,List.tail_cons,and_true,true_and,List.nodup_cons,List.mem_cons,List.not_mem_nil,or_false,not_false_eq_true,List.nodup_nil,Option.some.injEq,Nat.reduceEqDiff,Int.reduceEq,if_true,if_false,slAll,slsAll,Nat.reduceMul,Nat.reduceBEq,Nat.reduceLT,Nat.reduceLeDiff,memAll,vAll,reduceCtorEq,Nat.reduceEqDiff,Nat.reduceAdd,Nat.reduceLT,Nat.reduceLeDiff,Nat.beq]
 have F5:(ep > (headOf b.lin).epoch)=True:=eq_true c5
 by_cases c6:ep≤1073741824
 rotate_left
 ·have F6:(ep≤1073741824)=False:=eq_false c6
  have hE:begE a b ep=2:=by unfold begE;rw [if_pos c0,if_pos c1,if_pos c2,if_pos c3,if_pos c4,if_pos c5,if_neg c6]
  have hO:begO a b ep=zPrc:=by unfold begO;rw [hE,if_neg (by decide)]
  have hL:begL a b ep=[]:=by unfold begL;rw [hE,if_neg (by decide)]
  rw [hE,hO,hL,ePrc_eq]
  simp only [fn24,slAll,Nat.reduceBEq,Nat.reduceLeDiff,Nat.reduceAdd,List.length_cons,List.length_nil]
  simp only [h1,h2,an,d1,k1,k2,s1,F1,s2,F2,F3,F4,F5,F6,q1,q2,q3,zPrc,bPt_eq,bPrc_eq,eExts_nil,dfnRun_normal,DFn.begun,dfnEnd,varOf,dfnResc,dfnClos,heldOf,boxOf,St.setVar,St.setVars,St.varInt,PV.naught,List.all_cons,List.all_nil,List.head?_cons,List.tail_cons,and_true,true_and,List.nodup_cons,List.mem_cons,List.not_mem_nil,or_false,not_false_eq_true,List.nodup_nil,Option.some.injEq,Nat.reduceEqDiff,Int.reduceEq,if_true,if_false,slAll,slsAll,Nat.reduceMul,Nat.reduceBEq,Nat.reduceLT,Nat.reduceLeDiff,memAll,vAll,reduceCtorEq,Nat.reduceEqDiff,Nat.reduceAdd,Nat.reduceLT,Nat.reduceLeDiff,Nat.beq]
 have F6:(ep≤1073741824)=True:=eq_true c6
 have hE:begE a b ep=0:=by unfold begE;rw [if_pos c0,if_pos c1,if_pos c2,if_pos c3,if_pos c4,if_pos c5,if_pos c6]
 have hO:begO a b ep=⟨3,b.site,a.site,0,ep,(ancX a.lin b.lin).1,false,false⟩:=by unfold begO;rw [hE,if_pos rfl]
 have hL:begL a b ep=btO a b:=by unfold begL;rw [hE,if_pos rfl]
 rw [hE,hO,hL,ePrc_eq]
 simp only [fn24,slAll,Nat.reduceBEq,Nat.reduceLeDiff,Nat.reduceAdd,List.length_cons,List.length_nil]
 simp only [h1,h2,an,d1,k1,k2,s1,F1,s2,F2,F3,F4,F5,F6,q1,q2,q3,zPrc,bPt_eq,bPrc_eq,eExts_nil,dfnRun_normal,DFn.begun,dfnEnd,varOf,dfnResc,dfnClos,heldOf,boxOf,St.setVar,St.setVars,St.varInt,PV.naught,List.all_cons,List.all_nil,List.head?_cons,List.tail_cons,and_true,true_and,List.nodup_cons,List.mem_cons,List.not_mem_nil,or_false,not_false_eq_true,List.nodup_nil,Option.some.injEq,Nat.reduceEqDiff,Int.reduceEq,if_true,if_false,slAll,slsAll,Nat.reduceMul,Nat.reduceBEq,Nat.reduceLT,Nat.reduceLeDiff,memAll,vAll,reduceCtorEq,Nat.reduceEqDiff,Nat.reduceAdd,Nat.reduceLT,Nat.reduceLeDiff,Nat.beq]
end Go.Proofs.YtioijcfcehhmdaaGreatDoor.V

namespace Go.Proofs.YtioijcfcehhmdaaGreatDoor.V
theorem eqCells_ext (x y:Exn):eqCells [.int .i64 x.start,.int .i64 x.count] [.int .i64 y.start,.int .i64 y.count]=some (decide (x=y)):=by
 simp only [eqCells,if_true,Option.map_some]
 congr 1
 obtain ⟨a,b⟩:=x
 obtain ⟨c,d⟩:=y
 by_cases h1:a=c<;>by_cases h2:b=d<;>simp [h1,h2]
--+
theorem loop75 {a b:List Exn} (hl:a.length≤lim) (hab:a.length=b.length) {st:St} (h:st.head [0,1,5] st.boxes.length=some ⟨[.pv (.list 2 (a.map eExt)),.pv (.list 2 (b.map eExt)),.any,.any,.any,.pv (.int .i64 (0:Nat)),.any,.any,.any,.any,.any,.any,.any,.any,.any,.any,.any,.any,.any,.any,.any,.any,.any,.any,.any,.any],[],[],none⟩) :
  den env fn75_l1 st=if a=b then some (.normal,⟨[.any,.any,.any,.any,.any,.any,.any,.any,.any,.any,.any,.any,.any,.any,.any,.any,.any,.any,.any,.any,.any,.any,.any,.any,.any,.any],[],[],none⟩) else some (.ret,⟨[.any,.any,.any,.any,.pv (.bool false),.any,.any,.any,.any,.any,.any,.any,.any,.any,.any,.any,.any,.any,.any,.any,.any,.any,.any,.any,.any,.any],[],[],none⟩):=by
 unfold fn75_l1
 rw [ clean_up (env:=env) (a.length) (fun i=>⟨[.pv (.list 2 (a.map eExt)),.pv (.list 2 (b.map eExt)),.any,.any,.any,.pv (.int .i64 i),.any,.any,.any,.any,.any,.any,.any,.any,.any,.any,.any,.any,.any,.any,.any,.any,.any,.any,.any,.any],[],[],none⟩) (fun i=>if a.drop i=b.drop i then some (.normal,⟨[.any,.any,.any,.any,.any,.any,.any,.any,.any,.any,.any,.any,.any,.any,.any,.any,.any,.any,.any,.any,.any,.any,.any,.any,.any,.any],[],[],none⟩) else some (.ret,⟨[.any,.any,.any,.any,.pv (.bool false),.any,.any,.any,.any,.any,.any,.any,.any,.any,.any,.any,.any,.any,.any,.any,.any,.any,.any,.any,.any,.any],[],[],none⟩)) h (fun _=>rfl) (fun _=>rfl) ?_ ?_]
 ·first|rfl|simp only [List.drop_zero,List.take_zero,List.map_nil,Nat.zero_add,List.nil_append,List.foldl_nil]
 ·intro i rb hi ih
  have hi1:=i64_next hi hl
  have hj:i<b.length:=by omega
  have F1:((i:Int)<(a.length:Int))=True:=eq_true (by omega)
  have P:∀ x:Exn,part [PV.int .i64 x.start,.int .i64 x.count] 0 (some 2)=some (.agg [.int .i64 x.start,.int .i64 x.count]):=fun x=>rfl
  simp only [fn75_b0,F1,eExt,index_nat hi,index_nat hj,List.getElem?_map,List.getElem?_eq_getElem hi,List.getElem?_eq_getElem hj,P,eqCells_ext,List.length_cons,List.length_nil,memAll,vAll,reduceCtorEq,Nat.reduceEqDiff,Nat.reduceAdd,Nat.reduceLT,Nat.reduceLeDiff,Nat.beq]
  rw [List.drop_eq_getElem_cons hi,List.drop_eq_getElem_cons hj]
  (try simp only [bcase_bind,bcase_map,tail_bcase]);refine bcase_split (fun hb=>?_) (fun hb=>?_)<;>try simp only [hb, memAll,vAll,reduceCtorEq,Nat.reduceEqDiff,Nat.reduceAdd,Nat.reduceLT,Nat.reduceLeDiff,Nat.beq]
  ·rw [ih _ (by simp only [hi1];rfl)]
   simp only [decide_eq_true_eq] at hb
   simp only [hb,List.cons.injEq,true_and]
  ·simp only [decide_eq_false_iff_not] at hb
   simp only [hb,List.cons.injEq,false_and,if_false]
   rfl
 ·intro rb
  simp only [fn75_b0,Int.lt_irrefl, memAll,vAll,reduceCtorEq,Nat.reduceEqDiff,Nat.reduceAdd,Nat.reduceLT,Nat.reduceLeDiff,Nat.beq]
  rw [List.drop_length,hab,List.drop_length,if_pos rfl]
  rfl
theorem cal75 {a b:List Exn} (hl:a.length≤lim):cal env 75 [.list 2 (a.map eExt),.list 2 (b.map eExt)]=some [(.bool (decide (a=b)),false)]:=by
 rw [cal_code env75 rfl];simp only [fn75];simp only [start,z_map_cons,z_map_nil,z_len_cons,z_len_nil,z_repl_zero,z_repl_succ,z_cons_app,z_nil_app,Nat.reduceAdd,Nat.reduceSub]
 simp only [ memAll,vAll,reduceCtorEq,Nat.reduceEqDiff,Nat.reduceAdd,Nat.reduceLT,Nat.reduceLeDiff,Nat.beq]
 (try simp only [bcase_bind,bcase_map,tail_bcase]);refine bcase_split (fun hb=>?_) (fun hb=>?_)<;>try simp only [hb, memAll,vAll,reduceCtorEq,Nat.reduceEqDiff,Nat.reduceAdd,Nat.reduceLT,Nat.reduceLeDiff,Nat.beq]
 ·have hab:a.length=b.length:=by simp at hb;omega
  rw [loop75 hl hab]
  rotate_left
  ·rfl
  ·by_cases e:a=b<;>simp only [e,vAll,reduceCtorEq,Nat.reduceEqDiff,Nat.reduceAdd,Nat.reduceLT,Nat.reduceLeDiff,Nat.beq]
 ·have:a≠b:=fun e=>by subst e;simp at hb
  simp only [this,vAll,reduceCtorEq,Nat.reduceEqDiff,Nat.reduceAdd,Nat.reduceLT,Nat.reduceLeDiff,Nat.beq]
end Go.Proofs.YtioijcfcehhmdaaGreatDoor.V
