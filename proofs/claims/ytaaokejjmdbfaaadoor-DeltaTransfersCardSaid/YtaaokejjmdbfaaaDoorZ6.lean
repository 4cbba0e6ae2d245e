/-
  Part 6 of the texts that the statement stands on.
-/
import Derived.Test.YtaaokejjmdbfaaaDoorZ5
import Derived.Lib.SliceRun
import Derived.WalkSpells
set_option linter.all false
namespace Go.Proofs.YtaaokejjmdbfaaaDoor.V
theorem sorted_at {l:List Nat} (hs:l.Pairwise (·<·)) {j i:Nat} (h:l[j]?=some i):j≤i∧∀ k∈l.take j,k<i:=by
 obtain ⟨hj,rfl⟩:=List.getElem?_eq_some_iff.1 h
 have hp:=List.pairwise_iff_getElem.1 hs
 refine ⟨?_,fun k hk=>?_⟩
 ·clear h
  induction j with
  |zero=>exact Nat.zero_le _
  |succ j ih =>
   have h1:=ih (by omega)
   have h2:=hp j (j+1) (by omega) hj (by omega)
   omega
 ·obtain ⟨m,hm,rfl⟩:=List.mem_iff_getElem.1 hk
  rw [List.getElem_take]
  simp only [List.length_take] at hm
  exact hp m j (by omega) hj (by omega)
def Dl (b:Bm):List Nat:=if okB b then ug b.ws 0 b.size else []
theorem abZ {b:Bm} {j i:Nat} (h:(Dl b)[j]?=some i):i<4096∧j≤i∧∀ k∈(Dl b).take j,k<i:=by
 unfold Dl at h ⊢
 split at h
 ·rename_i c
  rw [if_pos c]
  have hs:(ug b.ws 0 b.size).Pairwise (·<·):=List.pairwise_lt_range.filter _
  have hm:=List.mem_of_getElem? h
  simp only [ug,List.mem_filter,List.mem_range,Bool.and_eq_true,decide_eq_true_eq] at hm
  have:=kF c
  exact ⟨by omega,sorted_at hs h⟩
 ·simp at h
def bmX (b:Bm):List o7:=if okB b then P8 b else []
theorem aeD (b:Bm):exts (Dl b)=bmX b:=by
 unfold Dl bmX P8 ext
 split
 ·rename_i c;rw [YH c 0 (by omega)]
 ·rfl
theorem ahc {b:Bm}:cal env 81 [mM b]=some [(.list 2 ((bmX b).map jh),true)]:=by
 have e1:=aew (b:=b) (a:=0)
 have eA:∀ a:Bm,mM a=.agg [.int .i64 a.size,.list 1 (a.ws.map eW)]:=fun _=>rfl
 rw [eA] at e1 ⊢
 rw [au agM rfl];simp only [Yi];simp only [start,aN,aU,aJ,aS,aF,aG,aK,aT,Nat.reduceAdd,Nat.reduceSub]
 simp only [e1,bI,reduceCtorEq,Nat.reduceEqDiff,Nat.reduceAdd,Nat.reduceLT,Nat.reduceLeDiff,Nat.beq]
 rw [Q8 (env:=env) (fun j=>[⟨false,[.pv (.int .i64 b.size),.pv (.list 1 (b.ws.map eW))]⟩,⟨false,[.row 2 ((exts ((Dl b).take j)).map jh)]⟩]) (xs:=yI (Dl b)) rfl (by have:=abU (b:=b) (a:=0) (by omega);exact this) rfl ?_]
 ·simp only [yI,List.length_map,List.take_length,MQ,bI,reduceCtorEq,Nat.reduceEqDiff,Nat.reduceAdd,Nat.reduceLT,Nat.reduceLeDiff,Nat.beq]
  rw [aeD]
 ·intro j x hx sl0
  simp only [yI,List.getElem?_map,Option.map_eq_some_iff] at hx
  obtain ⟨i,hi,rfl⟩:=hx
  obtain ⟨k1,k2,k3⟩:=abZ hi
  have hlim:lim=1073741824:=rfl
  have hj:=(List.getElem?_eq_some_iff.1 hi).1
  have ht:(Dl b).take (j+1)=(Dl b).take j++[i]:=by rw [List.take_add_one,hi];rfl
  have hlen:((Dl b).take j).length=j:=by simp;omega
  rw [ht]
  rcases jM ((Dl b).take j) with h0|⟨p,q,h0⟩
  ·have F2:(((0:Nat):Int) > 0)=False:=eq_false (by omega)
   have F3:(0+1≤lim)=True:=eq_true (by omega)
   have e0:exts ([]:List Nat)=[]:=rfl
   have e2:exts [i]=[⟨i,1⟩]:=rfl
   refine ⟨?_,?_⟩
   rotate_left
   ·simp only [h0,List.nil_append,Ap,Aq,F2,F3,e0,e2,jh,List.map_nil,List.map_cons,MQ,bI,reduceCtorEq,Nat.reduceEqDiff,Nat.reduceAdd,Nat.reduceLT,Nat.reduceLeDiff,Nat.beq]
    rfl
  ·obtain ⟨pre,⟨s,c⟩,e0,h1,h2,h3,h4⟩:=Fj _ p rfl q
   have hqi:q<i:=k3 q (by rw [h0];simp)
   simp only at h1 h2 h3
   have hpl:p.length+1=j:=by rw [h0] at hlen;simpa using hlen
   have F2:(((pre.length+1:Nat):Int) > 0)=True:=eq_true (by omega)
   have F3:=Fp (n:=pre.length) (by omega)
   have F4:IntKind.i64.wrap (s+c)=s+c:=bT (by omega)
   have F5:IntKind.i64.wrap (c+1)=c+1:=bT (by omega)
   have F6:(pre.length+1+1≤lim)=True:=eq_true (by omega)
   have F7:index (.int .i64 (pre.length:Int)) (pre.length+1)=some pre.length:=ah (by omega)
   by_cases hc:s+c=(i:Int)
   ·have F8:(s+c==(i:Int))=true:=by simpa using hc
    have e2:exts (p++[q]++[i])=pre++[⟨s,c+1⟩]:=by rw [l7,e0,iL,if_pos hc]
    refine ⟨?_,?_⟩
    rotate_left
    ·simp only [h0,Ap,Aq,e0,e2,F2,F3,F4,F5,F6,F7,F8,jh,List.map_append,List.map_cons,List.map_nil,MQ,bI,reduceCtorEq,Nat.reduceEqDiff,Nat.reduceAdd,Nat.reduceLT,Nat.reduceLeDiff,Nat.beq]
     rfl
   ·have F8:(s+c==(i:Int))=false:=by simpa using hc
    have e2:exts (p++[q]++[i])=pre++[⟨s,c⟩]++[⟨i,1⟩]:=by rw [l7,e0,iL,if_neg hc]
    refine ⟨?_,?_⟩
    rotate_left
    ·simp only [h0,Ap,Aq,e0,e2,F2,F3,F4,F5,F6,F7,F8,jh,List.map_append,List.map_cons,List.map_nil,MQ,bI,reduceCtorEq,Nat.reduceEqDiff,Nat.reduceAdd,Nat.reduceLT,Nat.reduceLeDiff,Nat.beq]
     rfl
theorem ahd (w:Wd) (s:Nat):(w >>> s &&& 1==(1:Wd))=w.getLsbD s:=by
 have h:w >>> s &&& 1=if w.getLsbD s then 1 else 0:=by
  apply BitVec.eq_of_getLsbD_eq
  intro j hj
  rw [BitVec.getLsbD_and,BitVec.getLsbD_ushiftRight]
  cases j with
  |zero=>cases h:w.getLsbD s<;>simp [h]
  |succ j =>
   have:(1:Wd).getLsbD (j+1)=false:=by
    rw [show (1:Wd)=1#64 from rfl,BitVec.getLsbD_one];simp
   rw [this,Bool.and_false]
   cases w.getLsbD s<;>simp
 rw [h]
 cases w.getLsbD s<;>rfl
theorem acY {b:Bm} {i:Nat} (h:i / 64<b.ws.length) (hi:i≤1000000):cal env 87 [mM b,.int .i64 (i:Nat)]=some [(.bool (bit b.ws i),false)]:=by
 unfold mM
 have T1:(i:Int).tdiv 64=((i / 64:Nat):Int):=by rw [Int.tdiv_eq_ediv_of_nonneg (by omega)];omega
 have T2:(i:Int).tmod 64=((i % 64:Nat):Int):=by rw [Int.tmod_eq_emod_of_nonneg (by omega)];omega
 have W1:IntKind.i64.wrap ((i / 64:Nat):Int)=((i / 64:Nat):Int):=bT (by omega)
 have W2:IntKind.u64.wrap ((i % 64:Nat):Int)=((i % 64:Nat):Int):=by rw [MR];omega
 have S0:(((i % 64:Nat):Int)<0)=False:=eq_false (by omega)
 have S1:=YD b.ws[i / 64] (s:=((i % 64:Nat):Int)) (n:=i % 64) rfl
 have S2:=YC (b.ws[i / 64] >>> (i % 64)) 1
 have B1:((1:Wd).toNat:Int)=1:=rfl
 have S3:=YE (b.ws[i / 64] >>> (i % 64) &&& 1) 1
 rw [B1] at S2 S3
 have S4:decide (b.ws[i / 64] >>> (i % 64) &&& 1=(1:Wd))=bit b.ws i:=by rw [Jm h,← ahd];rfl
 rw [S4] at S3
 rw [au agS rfl];simp only [Yo];simp only [start,aN,aU,aJ,aS,aF,aG,aK,aT,Nat.reduceAdd,Nat.reduceSub]
 simp only [z64,T1,T2,W1,W2,S0,S1,S2,S3,eW,ah h,List.getElem?_map,List.getElem?_eq_getElem h,bI,reduceCtorEq,Nat.reduceEqDiff,Nat.reduceAdd,Nat.reduceLT,Nat.reduceLeDiff,Nat.beq]
def rM (ws:List Wd) (k:Nat):Bool:=(List.range (64 * ws.length)).any fun i=>decide (k≤i)&&bit ws i
theorem kS {ws:List Wd} {k:Nat}:rM ws k=true ↔ ∃ i,k≤i∧i<64 * ws.length∧bit ws i=true:=by
 simp only [rM,List.any_eq_true,List.mem_range,Bool.and_eq_true,decide_eq_true_eq]
 exact ⟨fun ⟨i,h1,h2,h3⟩=>⟨i,h2,h1,h3⟩,fun ⟨i,h1,h2,h3⟩=>⟨i,h2,h1,h3⟩⟩
theorem Jq {ws:List Wd} {k:Nat} (h:bit ws k=false):rM ws k=rM ws (k+1):=by
 rw [Bool.eq_iff_iff,kS,kS]
 constructor
 ·rintro ⟨j,h1,h2,h3⟩
  have:j≠k:=fun e=>by rw [e,h] at h3;cases h3
  exact ⟨j,by omega,h2,h3⟩
 ·rintro ⟨j,h1,h2,h3⟩
  exact ⟨j,by omega,h2,h3⟩
theorem aeE {b:Bm} {s:Nat} (hs:b.size=(s:Int)) (hl:b.ws.length≤64) (hsl:s≤64 * b.ws.length) {st:St} (h:st.head [1,3] st.boxes.length=some ⟨[.any,.aQ 0 0,.any,.pv (.int .i64 ((s+(0:Nat):Nat):Int)),.any,.any,.any,.any,.any,.any,.any,.any,.any,.any,.any,.any,.any,.any,.any,.any,.any,.any,.any,.any,.any,.any,.any,.any,.any,.any,.any,.any,.any,.any,.any],[⟨false,[.pv (.int .i64 b.size),.pv (.list 1 (b.ws.map eW))]⟩],[],none⟩) :
  den env IU st=if rM b.ws (s+(0:Nat)) then some (.ret,⟨[.any,.any,.pv (.int .i64 3),.any,.any,.any,.any,.any,.any,.any,.any,.any,.any,.any,.any,.any,.any,.any,.any,.any,.any,.any,.any,.any,.any,.any,.any,.any,.any,.any,.any,.any,.any,.any,.any],[⟨false,[.pv (.int .i64 b.size),.pv (.list 1 (b.ws.map eW))]⟩],[],none⟩) else some (.normal,⟨[.any,.any,.any,.any,.any,.any,.any,.any,.any,.any,.any,.any,.any,.any,.any,.any,.any,.any,.any,.any,.any,.any,.any,.any,.any,.any,.any,.any,.any,.any,.any,.any,.any,.any,.any],[⟨false,[.pv (.int .i64 b.size),.pv (.list 1 (b.ws.map eW))]⟩],[],none⟩):=by
 unfold IU
 refine bH (env:=env) (64 * b.ws.length - s) (fun i=>⟨[.any,.aQ 0 0,.any,.pv (.int .i64 ((s+i:Nat):Int)),.any,.any,.any,.any,.any,.any,.any,.any,.any,.any,.any,.any,.any,.any,.any,.any,.any,.any,.any,.any,.any,.any,.any,.any,.any,.any,.any,.any,.any,.any,.any],[⟨false,[.pv (.int .i64 b.size),.pv (.list 1 (b.ws.map eW))]⟩],[],none⟩) (fun i=>if rM b.ws (s+i) then some (.ret,⟨[.any,.any,.pv (.int .i64 3),.any,.any,.any,.any,.any,.any,.any,.any,.any,.any,.any,.any,.any,.any,.any,.any,.any,.any,.any,.any,.any,.any,.any,.any,.any,.any,.any,.any,.any,.any,.any,.any],[⟨false,[.pv (.int .i64 b.size),.pv (.list 1 (b.ws.map eW))]⟩],[],none⟩) else some (.normal,⟨[.any,.any,.any,.any,.any,.any,.any,.any,.any,.any,.any,.any,.any,.any,.any,.any,.any,.any,.any,.any,.any,.any,.any,.any,.any,.any,.any,.any,.any,.any,.any,.any,.any,.any,.any],[⟨false,[.pv (.int .i64 b.size),.pv (.list 1 (b.ws.map eW))]⟩],[],none⟩)) h (fun _=>rfl) (fun _=>rfl) ?_ ?_
 ·intro i rb hi ih
  have hi1:IntKind.i64.wrap (((s+i:Nat):Int)+1)=((s+(i+1):Nat):Int):=by rw [bT (by omega)];omega
  have W1:IntKind.i64.wrap (64 * (b.ws.length:Int))=64 * (b.ws.length:Int):=bT (by omega)
  have F1:(((s+i:Nat):Int)<64 * (b.ws.length:Int))=True:=eq_true (by omega)
  have e1:=acY (b:=b) (i:=s+i) (by omega) (by omega)
  have P2:part [PV.int .i64 b.size,.list 1 (b.ws.map fun w=>PV.int .u64 (w.toNat:Int))] 0 (some 2)=some (.agg [PV.int .i64 b.size,.list 1 (b.ws.map fun w=>PV.int .u64 (w.toNat:Int))]):=rfl
  unfold mM at e1
  unfold eW at e1 ih ⊢
  cases c:bit b.ws (s+i) with
  |true =>
   rw [c] at e1
   have h:rM b.ws (s+i)=true:=kS.2 ⟨s+i,by omega,by omega,c⟩
   rw [if_pos h]
   simp only [Af,F1,W1,e1,P2,List.length_map,bI,reduceCtorEq,Nat.reduceEqDiff,Nat.reduceAdd,Nat.reduceLT,Nat.reduceLeDiff,Nat.beq]
   rfl
  |false =>
   rw [c] at e1
   have h:=Jq c
   simp only [Af,F1,W1,e1,P2,List.length_map,bI,reduceCtorEq,Nat.reduceEqDiff,Nat.reduceAdd,Nat.reduceLT,Nat.reduceLeDiff,Nat.beq]
   rw [ih _ (by simp only [hi1];rfl),h]
   rfl
 ·intro rb
  have W1:IntKind.i64.wrap (64 * (b.ws.length:Int))=64 * (b.ws.length:Int):=bT (by omega)
  have F1:(((s+(64 * b.ws.length - s):Nat):Int)<64 * (b.ws.length:Int))=False:=eq_false (by omega)
  rw [if_neg (by rw [kS];rintro ⟨j,h1,h2,_⟩;omega)]
  simp only [Af,F1,W1,List.length_map,bI,reduceCtorEq,Nat.reduceEqDiff,Nat.reduceAdd,Nat.reduceLT,Nat.reduceLeDiff,Nat.beq]
  rfl
end Go.Proofs.YtaaokejjmdbfaaaDoor.V

namespace Go.Proofs.YtaaokejjmdbfaaaDoor.V
theorem acZ {b:Bm}:cal env 53 [mM b]=some [(.int .i64 (zK b),false)]:=by
 unfold mM
 have P:∀ x y:PV,part [x,y] 0 (some 2)=some (.agg [x,y]):=fun _ _=>rfl
 by_cases c0:b.size<0
 ·have hE:zK b=3:=nI (by rw [Bool.eq_false_iff];intro h;have:=kF h;omega)
  rw [hE]
  rw [au QZ rfl];simp only [L8];simp only [start,aN,aU,aJ,aS,aF,aG,aK,aT,Nat.reduceAdd,Nat.reduceSub]
  simp only [c0,P,bI,reduceCtorEq,Nat.reduceEqDiff,Nat.reduceAdd,Nat.reduceLT,Nat.reduceLeDiff,Nat.beq]
 ·by_cases c1:b.size > 4096
  ·have hE:zK b=3:=nI (by rw [Bool.eq_false_iff];intro h;have:=kF h;omega)
   rw [hE]
   have F1:(b.size > 4096)=True:=eq_true c1
   rw [au QZ rfl];simp only [L8];simp only [start,aN,aU,aJ,aS,aF,aG,aK,aT,Nat.reduceAdd,Nat.reduceSub]
   simp only [c0,F1,P,bI,reduceCtorEq,Nat.reduceEqDiff,Nat.reduceAdd,Nat.reduceLT,Nat.reduceLeDiff,Nat.beq]
  ·have F1:(b.size > 4096)=False:=eq_false c1
   have W0:IntKind.i64.wrap (b.size+63)=b.size+63:=bT (by omega)
   have W3:IntKind.i64.wrap (nV b.size)=nV b.size:=bT (by unfold nV;omega)
   have T:=q63 (n:=b.size) (by omega)
   by_cases c2:(b.ws.length:Int)=nV b.size
   ·have F2:((b.ws.length:Int) != nV b.size)=false:=by simp [c2]
    have hw:=c2
    unfold nV at hw
    have hs:b.size=((b.size.toNat:Nat):Int):=by omega
    rw [au QZ rfl];simp only [L8];simp only [start,aN,aU,aJ,aS,aF,aG,aK,aT,Nat.reduceAdd,Nat.reduceSub]
    simp only [c0,F1,F2,W0,W3,T,z64,P,List.length_map,bI,reduceCtorEq,Nat.reduceEqDiff,Nat.reduceAdd,Nat.reduceLT,Nat.reduceLeDiff,Nat.beq]
    rw [aeE (b:=b) (s:=b.size.toNat) hs (by omega) (by omega)]
    rotate_left
    ·rw [Nat.add_zero,← hs];rfl
    ·cases c:okB b with
     |true =>
      rw [wK c,if_neg]
      ·simp only [c0,F1,F2,W0,W3,T,z64,P,List.length_map,bI,reduceCtorEq,Nat.reduceEqDiff,Nat.reduceAdd,Nat.reduceLT,Nat.reduceLeDiff,Nat.beq]
      ·rw [kS]
       rintro ⟨i,h1,h2,h3⟩
       rw [(kJ.1 c).2 i (by omega)] at h3
       cases h3
     |false =>
      rw [nI c,if_pos]
      ·simp only [c0,F1,F2,W0,W3,T,z64,P,List.length_map,bI,reduceCtorEq,Nat.reduceEqDiff,Nat.reduceAdd,Nat.reduceLT,Nat.reduceLeDiff,Nat.beq]
      ·rw [kS]
       apply Classical.byContradiction
       intro hn
       have:okB b=true:=kJ.2 ⟨⟨by omega,by omega,c2⟩,fun i hi=>by
        by_cases hl:i<64 * b.ws.length
        ·cases hb:bit b.ws i with
         |false=>rfl
         |true=>exact absurd ⟨i,by omega,hl,hb⟩ hn
        ·exact Au (by omega)⟩
       rw [this] at c;cases c
   ·have F2:((b.ws.length:Int) != nV b.size)=true:=by simp [c2]
    have hE:zK b=3:=nI (by rw [Bool.eq_false_iff];intro h;exact c2 (kJ.1 h).1.2.2)
    rw [hE]
    rw [au QZ rfl];simp only [L8];simp only [start,aN,aU,aJ,aS,aF,aG,aK,aT,Nat.reduceAdd,Nat.reduceSub]
    simp only [c0,F1,F2,W0,W3,T,z64,P,List.length_map,bI,reduceCtorEq,Nat.reduceEqDiff,Nat.reduceAdd,Nat.reduceLT,Nat.reduceLeDiff,Nat.beq]
end Go.Proofs.YtaaokejjmdbfaaaDoor.V

namespace Go.Proofs.YtaaokejjmdbfaaaDoor.V
structure zM where
 epoch:Int
 fr:Int
 to:Int
 deriving DecidableEq
def jy (x:zM):PV:=.agg [.int .i64 x.epoch,.int .i64 x.fr,.int .i64 x.to]
def zW (x:zM):List BV:=[.pv (.int .i64 x.epoch),.pv (.int .i64 x.fr),.pv (.int .i64 x.to)]
def dA (p x:zM):Bool:=decide (x.fr=p.to+1)&&(decide (x.fr≤x.to)&&(decide (x.to≤1073741824)&&(decide (x.epoch≤1073741824)&&decide (p.epoch<x.epoch))))
def z0:zM:=⟨0,0,0⟩
def linGo:zM→List zM→Bool
 |_,[]=>true
 |p,x :: l=>dA p x&&linGo x l
def vO (l:List zM):Bool:=linGo z0 l
def lastOf (l:List zM) (j:Nat):zM:=if j=0 then z0 else l.getD (j - 1) z0
def xX (p:zM):Prop:=0≤p.epoch∧p.epoch≤1073741824∧0≤p.to∧p.to≤1073741824
theorem uj {l:List zM} {i:Nat} (h:i<l.length):lastOf l (i+1)=l[i]:=by
 simp [lastOf,List.getD_eq_getElem?_getD,List.getElem?_eq_getElem h]
theorem um {p x:zM} (h:dA p x=true) (hp:xX p):xX x∧x.fr=p.to+1∧x.fr≤x.to∧p.epoch<x.epoch:=by
 simp only [dA,Bool.and_eq_true,decide_eq_true_eq] at h
 unfold xX at *
 omega
def iJ (p:zM):List zM→Bool × zM
 |[]=>(true,p)
 |x :: r=>if dA p x=true then iJ x r else (false,p)
theorem yU:∀ (l:List zM) (p:zM),(iJ p l).1=linGo p l
 |[],_=>rfl
 |x :: l,p=>by
  unfold iJ linGo
  by_cases h:dA p x=true
  ·simp only [h,if_true,Bool.true_and];exact yU l x
  ·simp only [h,if_false,Bool.not_eq_true] at *;simp [h]
theorem ac0 {n low:Int}:cal env 48 [.int .i64 n,.int .i64 low]=some [(.bool (decide (n ≥ low)&&decide (n≤1073741824)),false)]:=by
 rw [au agy rfl];simp only [X5];simp only [start,aN,aU,aJ,aS,aF,aG,aK,aT,Nat.reduceAdd,Nat.reduceSub]
 by_cases h:n ≥ low
 ·have G:(n ≥ low)=True:=eq_true h
  simp only [G,bI,reduceCtorEq,Nat.reduceEqDiff,Nat.reduceAdd,Nat.reduceLT,Nat.reduceLeDiff,Nat.beq]
 ·have G:(n ≥ low)=False:=eq_false h
  simp only [G,bI,reduceCtorEq,Nat.reduceEqDiff,Nat.reduceAdd,Nat.reduceLT,Nat.reduceLeDiff,Nat.beq]
theorem aeF {l:List zM} (hl:l.length≤lim)
  {st:St} (h:st.head [0,3,7,8,9] st.boxes.length=some ⟨[.pv (.list 3 (l.map jy)),.any,.any,.aQ 0 0,.any,.any,.any,.pv (.list 3 (l.map jy)),.pv (.int .i64 l.length),.pv (.int .i64 (0:Nat)),.any,.any,.any,.any,.any,.any,.any,.any,.any,.any,.any,.any,.any,.any,.any,.any,.any,.any,.any,.any,.any,.any,.any,.any,.any,.any,.any,.any,.any,.any,.any,.any,.any,.any,.any,.any],[⟨false,zW z0⟩],[],none⟩) :
  den env IQ st=match iJ z0 l with
   |(true,p)=>some (.normal,⟨[.any,.any,.any,.any,.any,.any,.any,.any,.any,.any,.any,.any,.any,.any,.any,.any,.any,.any,.any,.any,.any,.any,.any,.any,.any,.any,.any,.any,.any,.any,.any,.any,.any,.any,.any,.any,.any,.any,.any,.any,.any,.any,.any,.any,.any,.any],[⟨false,zW p⟩],[],none⟩)
   |(false,p)=>some (.ret,⟨[.any,.any,.pv (.bool false),.any,.any,.any,.any,.any,.any,.any,.any,.any,.any,.any,.any,.any,.any,.any,.any,.any,.any,.any,.any,.any,.any,.any,.any,.any,.any,.any,.any,.any,.any,.any,.any,.any,.any,.any,.any,.any,.any,.any,.any,.any,.any,.any],[⟨false,zW p⟩],[],none⟩):=by
 unfold IQ
 refine Fh (env:=env) l.length (fun i=>xX (lastOf l i)) (fun i=>⟨[.pv (.list 3 (l.map jy)),.any,.any,.aQ 0 0,.any,.any,.any,.pv (.list 3 (l.map jy)),.pv (.int .i64 l.length),.pv (.int .i64 i),.any,.any,.any,.any,.any,.any,.any,.any,.any,.any,.any,.any,.any,.any,.any,.any,.any,.any,.any,.any,.any,.any,.any,.any,.any,.any,.any,.any,.any,.any,.any,.any,.any,.any,.any,.any],[⟨false,zW (lastOf l i)⟩],[],none⟩)
  (fun i=>match iJ (lastOf l i) (l.drop i) with
   |(true,p)=>some (.normal,⟨[.any,.any,.any,.any,.any,.any,.any,.any,.any,.any,.any,.any,.any,.any,.any,.any,.any,.any,.any,.any,.any,.any,.any,.any,.any,.any,.any,.any,.any,.any,.any,.any,.any,.any,.any,.any,.any,.any,.any,.any,.any,.any,.any,.any,.any,.any],[⟨false,zW p⟩],[],none⟩)
   |(false,p)=>some (.ret,⟨[.any,.any,.pv (.bool false),.any,.any,.any,.any,.any,.any,.any,.any,.any,.any,.any,.any,.any,.any,.any,.any,.any,.any,.any,.any,.any,.any,.any,.any,.any,.any,.any,.any,.any,.any,.any,.any,.any,.any,.any,.any,.any,.any,.any,.any,.any,.any,.any],[⟨false,zW p⟩],[],none⟩)) h (by simp [lastOf,xX,z0]) (fun _=>rfl) (fun _=>rfl) ?_ ?_
 ·intro i rb hi hf ih
  have hi1:=bD hi hl
  have F1:((i:Int)<(l.length:Int))=True:=eq_true (by omega)
  have hk:l[i]?=some l[i]:=List.getElem?_eq_getElem hi
  rw [uj hi] at ih
  rw [List.drop_eq_getElem_cons hi]
  unfold iJ
  generalize lastOf l i=p at *
  generalize l[i]=x at *
  obtain ⟨pe,pf,pt⟩:=p
  obtain ⟨xe,xf,xt⟩:=x
  have hf':=hf
  simp only [xX] at hf
  have F2:IntKind.i64.wrap (pt+1)=pt+1:=bT (by omega)
  by_cases c1:xf=pt+1
  rotate_left
  ·have G1:(xf != pt+1)=true:=by simpa using c1
   have hn:dA ⟨pe,pf,pt⟩ ⟨xe,xf,xt⟩=false:=by simp [dA,c1]
   simp only [G1,pJ,F1,F2,hk,zW,jy,ah hi,List.getElem?_map,Option.map_some,bI,reduceCtorEq,Nat.reduceEqDiff,Nat.reduceAdd,Nat.reduceLT,Nat.reduceLeDiff,Nat.beq]
   simp only [hn]
   rfl
  have G1:(xf != pt+1)=false:=by simpa using c1
  by_cases c2:xt<xf
  ·have G2:(xt<xf)=True:=eq_true c2
   have hn:dA ⟨pe,pf,pt⟩ ⟨xe,xf,xt⟩=false:=by simp [dA];omega
   simp only [G1,G2,pJ,F1,F2,hk,zW,jy,ah hi,List.getElem?_map,Option.map_some,bI,reduceCtorEq,Nat.reduceEqDiff,Nat.reduceAdd,Nat.reduceLT,Nat.reduceLeDiff,Nat.beq]
   simp only [hn]
   rfl
  have G2:(xt<xf)=False:=eq_false c2
  by_cases c3:xt > 1073741824
  ·have G3:(xt > 1073741824)=True:=eq_true c3
   have hn:dA ⟨pe,pf,pt⟩ ⟨xe,xf,xt⟩=false:=by simp [dA];omega
   simp only [G1,G2,G3,pJ,F1,F2,hk,zW,jy,ah hi,List.getElem?_map,Option.map_some,bI,reduceCtorEq,Nat.reduceEqDiff,Nat.reduceAdd,Nat.reduceLT,Nat.reduceLeDiff,Nat.beq]
   simp only [hn]
   rfl
  have G3:(xt > 1073741824)=False:=eq_false c3
  have e1:=ac0 (n:=xe) (low:=1)
  by_cases c4:1≤xe∧xe≤1073741824
  rotate_left
  ·have G4:(decide (xe ≥ 1)&&decide (xe≤1073741824))=false:=by
    rw [← Bool.not_eq_true];simp;omega
   rw [G4] at e1
   have hn:dA ⟨pe,pf,pt⟩ ⟨xe,xf,xt⟩=false:=by simp [dA];omega
   simp only [G1,G2,G3,e1,pJ,F1,F2,hk,zW,jy,ah hi,List.getElem?_map,Option.map_some,bI,reduceCtorEq,Nat.reduceEqDiff,Nat.reduceAdd,Nat.reduceLT,Nat.reduceLeDiff,Nat.beq]
   simp only [hn]
   rfl
  have G4:(decide (xe ≥ 1)&&decide (xe≤1073741824))=true:=by simp;omega
  rw [G4] at e1
  by_cases c5:xe≤pe
  ·have G5:(xe≤pe)=True:=eq_true c5
   have hn:dA ⟨pe,pf,pt⟩ ⟨xe,xf,xt⟩=false:=by simp [dA];omega
   simp only [G1,G2,G3,e1,G5,pJ,F1,F2,hk,zW,jy,ah hi,List.getElem?_map,Option.map_some,bI,reduceCtorEq,Nat.reduceEqDiff,Nat.reduceAdd,Nat.reduceLT,Nat.reduceLeDiff,Nat.beq]
   simp only [hn]
   rfl
  have G5:(xe≤pe)=False:=eq_false c5
  have hn:dA ⟨pe,pf,pt⟩ ⟨xe,xf,xt⟩=true:=by simp [dA];omega
  have hfx:=(um hn hf').1
  simp only [G1,G2,G3,e1,G5,pJ,F1,F2,hk,zW,jy,ah hi,List.getElem?_map,Option.map_some,bI,reduceCtorEq,Nat.reduceEqDiff,Nat.reduceAdd,Nat.reduceLT,Nat.reduceLeDiff,Nat.beq]
  rw [ih hfx _ (by simp only [hi1];rfl)]
  simp only [hn,if_true]
  rfl
 ·intro rb hf
  simp only [pJ,Int.lt_irrefl,bI,reduceCtorEq,Nat.reduceEqDiff,Nat.reduceAdd,Nat.reduceLT,Nat.reduceLeDiff,Nat.beq]
  rw [List.drop_length]
  rfl
theorem ahe {l:List zM} (hl:l.length≤lim):cal env 49 [.list 3 (l.map jy)]=some [(.bool (vO l),false)]:=by
 rw [au agz rfl];simp only [X6];simp only [start,aN,aU,aJ,aS,aF,aG,aK,aT,Nat.reduceAdd,Nat.reduceSub]
 simp only [bI,reduceCtorEq,Nat.reduceEqDiff,Nat.reduceAdd,Nat.reduceLT,Nat.reduceLeDiff,Nat.beq]
 rw [aeF hl]
 rotate_left
 ·rfl
 ·have:=yU l z0
  cases h:iJ z0 l with
  |mk t p =>
   rw [h] at this
   cases t with
   |true=>simp only [vO,← this,bI,reduceCtorEq,Nat.reduceEqDiff,Nat.reduceAdd,Nat.reduceLT,Nat.reduceLeDiff,Nat.beq]
   |false=>simp only [vO,← this,bI,reduceCtorEq,Nat.reduceEqDiff,Nat.reduceAdd,Nat.reduceLT,Nat.reduceLeDiff,Nat.beq]
end Go.Proofs.YtaaokejjmdbfaaaDoor.V

namespace Go.Proofs.YtaaokejjmdbfaaaDoor.V
set_option maxHeartbeats 2000000 in
theorem aeG {l:List zM} (hl:l.length≤lim)
  {st:St} (h:st.head [0,3] st.boxes.length=some ⟨[.pv (.list 3 (l.map jy)),.any,.any,.pv (.int .i64 (0:Nat)),.any,.any,.any,.any,.any,.any,.any,.any,.any,.any,.any,.any,.any,.any,.any,.any,.any,.any,.any,.any,.any,.any,.any,.any,.any,.any,.any,.any,.any,.any,.any,.any,.any,.any,.any,.any,.any,.any,.any,.any,.any,.any,.any,.any,.any,.any,.any,.any,.any,.any,.any,.any,.any,.any,.any,.any,.any,.any,.any,.any,.any,.any,.any,.any,.any,.any,.any,.any,.any],[],[],none⟩) :
  den env Iz st=match iJ z0 l with
   |(true,_)=>some (.normal,⟨[.any,.any,.any,.any,.any,.any,.any,.any,.any,.any,.any,.any,.any,.any,.any,.any,.any,.any,.any,.any,.any,.any,.any,.any,.any,.any,.any,.any,.any,.any,.any,.any,.any,.any,.any,.any,.any,.any,.any,.any,.any,.any,.any,.any,.any,.any,.any,.any,.any,.any,.any,.any,.any,.any,.any,.any,.any,.any,.any,.any,.any,.any,.any,.any,.any,.any,.any,.any,.any,.any,.any,.any,.any],[],[],none⟩)
   |(false,_)=>some (.ret,⟨[.any,.any,.pv (.bool false),.any,.any,.any,.any,.any,.any,.any,.any,.any,.any,.any,.any,.any,.any,.any,.any,.any,.any,.any,.any,.any,.any,.any,.any,.any,.any,.any,.any,.any,.any,.any,.any,.any,.any,.any,.any,.any,.any,.any,.any,.any,.any,.any,.any,.any,.any,.any,.any,.any,.any,.any,.any,.any,.any,.any,.any,.any,.any,.any,.any,.any,.any,.any,.any,.any,.any,.any,.any,.any,.any],[],[],none⟩):=by
 unfold Iz
 refine Fh (env:=env) l.length (fun i=>xX (lastOf l i)) (fun i=>⟨[.pv (.list 3 (l.map jy)),.any,.any,.pv (.int .i64 i),.any,.any,.any,.any,.any,.any,.any,.any,.any,.any,.any,.any,.any,.any,.any,.any,.any,.any,.any,.any,.any,.any,.any,.any,.any,.any,.any,.any,.any,.any,.any,.any,.any,.any,.any,.any,.any,.any,.any,.any,.any,.any,.any,.any,.any,.any,.any,.any,.any,.any,.any,.any,.any,.any,.any,.any,.any,.any,.any,.any,.any,.any,.any,.any,.any,.any,.any,.any,.any],[],[],none⟩)
  (fun i=>match iJ (lastOf l i) (l.drop i) with
   |(true,_)=>some (.normal,⟨[.any,.any,.any,.any,.any,.any,.any,.any,.any,.any,.any,.any,.any,.any,.any,.any,.any,.any,.any,.any,.any,.any,.any,.any,.any,.any,.any,.any,.any,.any,.any,.any,.any,.any,.any,.any,.any,.any,.any,.any,.any,.any,.any,.any,.any,.any,.any,.any,.any,.any,.any,.any,.any,.any,.any,.any,.any,.any,.any,.any,.any,.any,.any,.any,.any,.any,.any,.any,.any,.any,.any,.any,.any],[],[],none⟩)
   |(false,_)=>some (.ret,⟨[.any,.any,.pv (.bool false),.any,.any,.any,.any,.any,.any,.any,.any,.any,.any,.any,.any,.any,.any,.any,.any,.any,.any,.any,.any,.any,.any,.any,.any,.any,.any,.any,.any,.any,.any,.any,.any,.any,.any,.any,.any,.any,.any,.any,.any,.any,.any,.any,.any,.any,.any,.any,.any,.any,.any,.any,.any,.any,.any,.any,.any,.any,.any,.any,.any,.any,.any,.any,.any,.any,.any,.any,.any,.any,.any],[],[],none⟩)) h (by simp [lastOf,xX,z0]) (fun _=>rfl) (fun _=>rfl) ?_ ?_
 ·intro i rb hi hf ih
  have hi1:=bD hi hl
  have F1:((i:Int)<(l.length:Int))=True:=eq_true (by omega)
  have hk:l[i]?=some l[i]:=List.getElem?_eq_getElem hi
  rw [uj hi] at ih
  rw [List.drop_eq_getElem_cons hi]
  unfold iJ
  have ahf:(i=0∧lastOf l i=z0)∨(∃ k,i=k+1∧l[k]?=some (lastOf l i)):=by
   cases i with
   |zero=>exact .inl ⟨rfl,rfl⟩
   |succ k=>exact .inr ⟨k,rfl,by rw [uj (by omega)];exact List.getElem?_eq_getElem (by omega)⟩
  generalize lastOf l i=p at *
  generalize l[i]=x at *
  obtain ⟨pe,pf,pt⟩:=p
  obtain ⟨xe,xf,xt⟩:=x
  have hf':=hf
  simp only [xX] at hf
  have F2:IntKind.i64.wrap (pt+1)=pt+1:=bT (by omega)
  have F3:IntKind.i64.wrap (pe+1)=pe+1:=bT (by omega)
  rcases ahf with ⟨rfl,hz⟩|⟨k,rfl,hkp⟩
  ·cases hz
   have F4:((((0:Nat):Int)) > 0)=False:=eq_false (by omega)
   by_cases c1:xf=1
   rotate_left
   ·have G1:(xf != 1)=true:=by simpa using c1
    have hn:dA ⟨0,0,0⟩ ⟨xe,xf,xt⟩=false:=by simp [dA,c1]
    simp only [G1,jB,F1,F4,hk,jy,ah hi,List.getElem?_map,Option.map_some,bI,reduceCtorEq,Nat.reduceEqDiff,Nat.reduceAdd,Nat.reduceLT,Nat.reduceLeDiff,Nat.beq]
    simp only [hn]
    rfl
   have G1:(xf != 1)=false:=by simpa using c1
   by_cases c2:xt<xf
   ·have G2:(xt<xf)=True:=eq_true c2
    have hn:dA ⟨0,0,0⟩ ⟨xe,xf,xt⟩=false:=by simp [dA];omega
    simp only [G1,G2,jB,F1,F4,hk,jy,ah hi,List.getElem?_map,Option.map_some,bI,reduceCtorEq,Nat.reduceEqDiff,Nat.reduceAdd,Nat.reduceLT,Nat.reduceLeDiff,Nat.beq]
    simp only [hn]
    rfl
   have G2:(xt<xf)=False:=eq_false c2
   by_cases c3:xt > 1073741824
   ·have G3:(xt > 1073741824)=True:=eq_true c3
    have hn:dA ⟨0,0,0⟩ ⟨xe,xf,xt⟩=false:=by simp [dA];omega
    simp only [G1,G2,G3,jB,F1,F4,hk,jy,ah hi,List.getElem?_map,Option.map_some,bI,reduceCtorEq,Nat.reduceEqDiff,Nat.reduceAdd,Nat.reduceLT,Nat.reduceLeDiff,Nat.beq]
    simp only [hn]
    rfl
   have G3:(xt > 1073741824)=False:=eq_false c3
   by_cases c4:xe<1
   ·have G4:(xe<1)=True:=eq_true c4
    have hn:dA ⟨0,0,0⟩ ⟨xe,xf,xt⟩=false:=by simp [dA];omega
    simp only [G1,G2,G3,G4,jB,F1,F4,hk,jy,ah hi,List.getElem?_map,Option.map_some,bI,reduceCtorEq,Nat.reduceEqDiff,Nat.reduceAdd,Nat.reduceLT,Nat.reduceLeDiff,Nat.beq]
    simp only [hn]
    rfl
   have G4:(xe<1)=False:=eq_false c4
   by_cases c5:xe > 1073741824
   ·have G5:(xe > 1073741824)=True:=eq_true c5
    have hn:dA ⟨0,0,0⟩ ⟨xe,xf,xt⟩=false:=by simp [dA];omega
    simp only [G1,G2,G3,G4,G5,jB,F1,F4,hk,jy,ah hi,List.getElem?_map,Option.map_some,bI,reduceCtorEq,Nat.reduceEqDiff,Nat.reduceAdd,Nat.reduceLT,Nat.reduceLeDiff,Nat.beq]
    simp only [hn]
    rfl
   have G5:(xe > 1073741824)=False:=eq_false c5
   have hn:dA ⟨0,0,0⟩ ⟨xe,xf,xt⟩=true:=by simp [dA];omega
   have hfx:=(um hn hf').1
   simp only [G1,G2,G3,G4,G5,jB,F1,F4,hk,jy,ah hi,List.getElem?_map,Option.map_some,bI,reduceCtorEq,Nat.reduceEqDiff,Nat.reduceAdd,Nat.reduceLT,Nat.reduceLeDiff,Nat.beq]
   rw [ih hfx _ (by simp only [hi1];rfl)]
   simp only [hn,if_true]<;>rfl
  ·have hkl:k<l.length:=by omega
   have F4:((((k+1:Nat):Int)) > 0)=True:=eq_true (by omega)
   have F5:IntKind.i64.wrap (((k+1:Nat):Int) - 1)=(k:Int):=by
    have hl':=hl
    unfold lim at hl'
    rw [bT (by omega)];omega
   by_cases c1:xf=pt+1
   rotate_left
   ·have G1:(xf != pt+1)=true:=by simpa using c1
    have hn:dA ⟨pe,pf,pt⟩ ⟨xe,xf,xt⟩=false:=by simp [dA,c1]
    simp only [G1,jB,F1,F2,F3,F4,F5,hk,hkp,jy,ah hi,ah hkl,List.getElem?_map,Option.map_some,bI,reduceCtorEq,Nat.reduceEqDiff,Nat.reduceAdd,Nat.reduceLT,Nat.reduceLeDiff,Nat.beq]
    simp only [hn]
    rfl
   have G1:(xf != pt+1)=false:=by simpa using c1
   by_cases c2:xt<xf
   ·have G2:(xt<xf)=True:=eq_true c2
    have hn:dA ⟨pe,pf,pt⟩ ⟨xe,xf,xt⟩=false:=by simp [dA];omega
    simp only [G1,G2,jB,F1,F2,F3,F4,F5,hk,hkp,jy,ah hi,ah hkl,List.getElem?_map,Option.map_some,bI,reduceCtorEq,Nat.reduceEqDiff,Nat.reduceAdd,Nat.reduceLT,Nat.reduceLeDiff,Nat.beq]
    simp only [hn]
    rfl
   have G2:(xt<xf)=False:=eq_false c2
   by_cases c3:xt > 1073741824
   ·have G3:(xt > 1073741824)=True:=eq_true c3
    have hn:dA ⟨pe,pf,pt⟩ ⟨xe,xf,xt⟩=false:=by simp [dA];omega
    simp only [G1,G2,G3,jB,F1,F2,F3,F4,F5,hk,hkp,jy,ah hi,ah hkl,List.getElem?_map,Option.map_some,bI,reduceCtorEq,Nat.reduceEqDiff,Nat.reduceAdd,Nat.reduceLT,Nat.reduceLeDiff,Nat.beq]
    simp only [hn]
    rfl
   have G3:(xt > 1073741824)=False:=eq_false c3
   by_cases c4:xe<pe+1
   ·have G4:(xe<pe+1)=True:=eq_true c4
    have hn:dA ⟨pe,pf,pt⟩ ⟨xe,xf,xt⟩=false:=by simp [dA];omega
    simp only [G1,G2,G3,G4,jB,F1,F2,F3,F4,F5,hk,hkp,jy,ah hi,ah hkl,List.getElem?_map,Option.map_some,bI,reduceCtorEq,Nat.reduceEqDiff,Nat.reduceAdd,Nat.reduceLT,Nat.reduceLeDiff,Nat.beq]
    simp only [hn]
    rfl
   have G4:(xe<pe+1)=False:=eq_false c4
   by_cases c5:xe > 1073741824
   ·have G5:(xe > 1073741824)=True:=eq_true c5
    have hn:dA ⟨pe,pf,pt⟩ ⟨xe,xf,xt⟩=false:=by simp [dA];omega
    simp only [G1,G2,G3,G4,G5,jB,F1,F2,F3,F4,F5,hk,hkp,jy,ah hi,ah hkl,List.getElem?_map,Option.map_some,bI,reduceCtorEq,Nat.reduceEqDiff,Nat.reduceAdd,Nat.reduceLT,Nat.reduceLeDiff,Nat.beq]
    simp only [hn]
    rfl
   have G5:(xe > 1073741824)=False:=eq_false c5
   have hn:dA ⟨pe,pf,pt⟩ ⟨xe,xf,xt⟩=true:=by simp [dA];omega
   have hfx:=(um hn hf').1
   simp only [G1,G2,G3,G4,G5,jB,F1,F2,F3,F4,F5,hk,hkp,jy,ah hi,ah hkl,List.getElem?_map,Option.map_some,bI,reduceCtorEq,Nat.reduceEqDiff,Nat.reduceAdd,Nat.reduceLT,Nat.reduceLeDiff,Nat.beq]
   rw [ih hfx _ (by simp only [hi1];rfl)]
   simp only [hn,if_true]<;>rfl
 ·intro rb hf
  simp only [jB,Int.lt_irrefl,bI,reduceCtorEq,Nat.reduceEqDiff,Nat.reduceAdd,Nat.reduceLT,Nat.reduceLeDiff,Nat.beq]
  rw [List.drop_length]
  rfl
end Go.Proofs.YtaaokejjmdbfaaaDoor.V

namespace Go.Proofs.YtaaokejjmdbfaaaDoor.V
theorem ahg {l:List zM} (hl:l.length≤lim):cal env 29 [.list 3 (l.map jy)]=some [(.bool (vO l),false)]:=by
 rw [au ags rfl];simp only [XU];simp only [start,aN,aU,aJ,aS,aF,aG,aK,aT,Nat.reduceAdd,Nat.reduceSub]
 simp only [bI,reduceCtorEq,Nat.reduceEqDiff,Nat.reduceAdd,Nat.reduceLT,Nat.reduceLeDiff,Nat.beq]
 rw [aeG hl]
 rotate_left
 ·rfl
 ·have:=yU l z0
  cases h:iJ z0 l with
  |mk t p =>
   rw [h] at this
   cases t with
   |true=>simp only [vO,← this,bI,reduceCtorEq,Nat.reduceEqDiff,Nat.reduceAdd,Nat.reduceLT,Nat.reduceLeDiff,Nat.beq]
   |false=>simp only [vO,← this,bI,reduceCtorEq,Nat.reduceEqDiff,Nat.reduceAdd,Nat.reduceLT,Nat.reduceLeDiff,Nat.beq]
end Go.Proofs.YtaaokejjmdbfaaaDoor.V

namespace Go.Proofs.YtaaokejjmdbfaaaDoor.V
structure Pt where
 site:Int
 lin:List zM
 dirty:List Bm
 img:zZ
def dX (p:Pt):PV:=.agg [.int .i64 p.site,.list 3 (p.lin.map jy),.list 2 (p.dirty.map mM),.list 1 (p.img.map cO)]
def lK (p:Pt):List BV:=[.pv (.int .i64 p.site),.pv (.list 3 (p.lin.map jy)),.pv (.list 2 (p.dirty.map mM)),.pv (.list 1 (p.img.map cO))]
theorem dh (p:Pt):lK p=[.pv (.int .i64 p.site),.pv (.list 3 (p.lin.map jy)),.pv (.list 2 (p.dirty.map mM)),.pv (.list 1 (p.img.map cO))]:=rfl
theorem dQ (p:Pt):dX p=.agg [.int .i64 p.site,.list 3 (p.lin.map jy),.list 2 (p.dirty.map mM),.list 1 (p.img.map cO)]:=rfl
def wO (p:Pt):Prop:=p.lin.length≤lim∧p.dirty.length≤lim∧p.img.length≤lim
def xY:List Bm→zZ→Int
 |b :: bs,v :: vs=>if zK b≠0 then zK b else if b.size≠(v.length:Int) then 22 else xY bs vs
 |_,_=>0
def lH (p:Pt):Int :=
 if p.site<0∨1073741824<p.site then 2
 else if vO p.lin=false then 3
 else if iU p.img≠0 then iU p.img
 else if p.dirty.length≠p.img.length then 6
 else xY p.dirty p.img
def resD (n:Nat) (e:Int) (bx:List Box):Option (Ex × St):=if e=0 then some (.normal,⟨sl n [(2,.any)],bx,[],none⟩) else some (.ret,⟨sl n [(2,.pv (.int .i64 e))],bx,[],none⟩)
theorem Fz {bs:List Bm} {vs:zZ} {i:Nat} (h1:i<bs.length) (h2:i<vs.length):xY (bs.drop i) (vs.drop i)=if zK bs[i]≠0 then zK bs[i] else if bs[i].size≠(vs[i].length:Int) then 22 else xY (bs.drop (i+1)) (vs.drop (i+1)):=by
 rw [List.drop_eq_getElem_cons h1,List.drop_eq_getElem_cons h2,xY]
theorem aeH {p:Pt} (hl:p.dirty.length≤lim) (hq:p.dirty.length=p.img.length) {st:St} (h:st.head [1,4] st.boxes.length=some ⟨sl 60 [(1,.aQ 0 0),(4,.pv (.int .i64 (0:Nat)))],[⟨false,lK p⟩],[],none⟩) :
  den env Ib st=resD 60 (xY (p.dirty.drop ((0:Nat))) (p.img.drop ((0:Nat)))) [⟨false,lK p⟩]:=by
 unfold Ib
 refine bH (env:=env) (nb:=1) (p.dirty.length) (fun i=>⟨sl 60 [(1,.aQ 0 0),(4,.pv (.int .i64 i))],[⟨false,lK p⟩],[],none⟩) (fun i=>resD 60 (xY (p.dirty.drop (i)) (p.img.drop (i))) [⟨false,lK p⟩]) h (fun _=>rfl) (fun _=>by simp only [aO,bJ,Nat.reduceMul,Nat.reduceBEq,Nat.reduceLT,Nat.reduceLeDiff,Nat.reduceAdd,decide_true,Bool.and_self,Bool.true_and]) ?_ ?_
 ·intro i rb hi ih
  have hi1:=bD hi hl
  have hj:i<p.img.length:=by omega
  have F1:((i:Int)<(p.dirty.length:Int))=True:=eq_true (by omega)
  have P2:∀ a b:PV,part [a,b] 0 (some 2)=some (.agg [a,b]):=fun _ _=>rfl
  have eA:∀ b:Bm,mM b=.agg [.int .i64 b.size,.list 1 (b.ws.map eW)]:=fun _=>rfl
  have eV:∀ v:List fV,cO v=.list 8 (v.map lJ):=fun _=>rfl
  have hx:(p.dirty.map mM)[i]?=some (mM p.dirty[i]):=by rw [List.getElem?_map,List.getElem?_eq_getElem hi];rfl
  have hy:(p.img.map cO)[i]?=some (cO p.img[i]):=by rw [List.getElem?_map,List.getElem?_eq_getElem hj];rfl
  have e1:=acZ (b:=p.dirty[i])
  have hD:=Fz hi hj
  rw [eA] at hx e1
  rw [eV] at hy
  by_cases c1:zK p.dirty[i]=0
  ·have G1:((0:Int) != 0)=false:=rfl
   rw [c1] at e1
   rw [if_neg (show ¬ zK p.dirty[i]≠0 from fun h=>h c1)] at hD
   by_cases c2:p.dirty[i].size=(p.img[i].length:Int)
   ·have G2:(p.dirty[i].size != (p.img[i].length:Int))=false:=by simpa using c2
    rw [if_neg (show ¬ p.dirty[i].size≠(p.img[i].length:Int) from fun h=>h c2)] at hD
    rw [hD]
    simp only [xU,F1,hx,hy,e1,P2,G1,G2,dh,ah hi,ah hj,List.length_map,aA,Nat.reduceMul,Nat.reduceBEq,Nat.reduceLT,Nat.reduceLeDiff,reduceCtorEq,Nat.reduceEqDiff,Nat.reduceAdd,Nat.beq]
    rw [ih _ (by simp only [hi1,dh,aA,Nat.reduceMul,Nat.reduceBEq,Nat.reduceLT,Nat.reduceLeDiff,reduceCtorEq,Nat.reduceEqDiff,Nat.reduceAdd,Nat.beq]<;>rfl)]
    all_goals rfl
   ·have G2:(p.dirty[i].size != (p.img[i].length:Int))=true:=by simpa using c2
    rw [if_pos c2] at hD
    rw [hD]
    unfold resD
    rw [if_neg (by decide)]
    simp only [xU,F1,hx,hy,e1,P2,G1,G2,dh,ah hi,ah hj,List.length_map,aA,Nat.reduceMul,Nat.reduceBEq,Nat.reduceLT,Nat.reduceLeDiff,reduceCtorEq,Nat.reduceEqDiff,Nat.reduceAdd,Nat.beq]
  ·have G1:(zK p.dirty[i] != 0)=true:=by simpa using c1
   rw [if_pos c1] at hD
   rw [hD]
   unfold resD
   rw [if_neg c1]
   simp only [xU,F1,hx,hy,e1,P2,G1,dh,ah hi,ah hj,List.length_map,aA,Nat.reduceMul,Nat.reduceBEq,Nat.reduceLT,Nat.reduceLeDiff,reduceCtorEq,Nat.reduceEqDiff,Nat.reduceAdd,Nat.beq]
 ·intro rb
  rw [List.drop_length,hq,List.drop_length]
  unfold xY resD
  rw [if_pos rfl]
  simp only [xU,Int.lt_irrefl,dh,hq,List.length_map,aA,Nat.reduceMul,Nat.reduceBEq,Nat.reduceLT,Nat.reduceLeDiff,reduceCtorEq,Nat.reduceEqDiff,Nat.reduceAdd,Nat.beq]
theorem ahh {p:Pt} (h:wO p):cal env 16 [dX p]=some [(.int .i64 (lH p),false)]:=by
 obtain ⟨h1,h2,h3⟩:=h
 have e1:=ahg (l:=p.lin) h1
 have e2:=ag3 (im:=p.img) h3
 have Z:((0:Int) != 0)=false:=rfl
 unfold lH
 rw [dQ]
 by_cases c1:p.site<0
 ·have G1:(p.site<0)=True:=eq_true c1
  rw [if_pos (.inl c1)]
  rw [au Fb rfl];simp only [Ed,aO,Nat.reduceBEq,Nat.reduceLeDiff,Nat.reduceAdd,List.length_cons,List.length_nil]
  simp only [G1,aA,Nat.reduceMul,Nat.reduceBEq,Nat.reduceLT,Nat.reduceLeDiff,reduceCtorEq,Nat.reduceEqDiff,Nat.reduceAdd,Nat.beq]
 ·have G1:(p.site<0)=False:=eq_false c1
  by_cases c2:p.site > 1073741824
  ·have G2:(p.site > 1073741824)=True:=eq_true c2
   rw [if_pos (.inr c2)]
   rw [au Fb rfl];simp only [Ed,aO,Nat.reduceBEq,Nat.reduceLeDiff,Nat.reduceAdd,List.length_cons,List.length_nil]
   simp only [G1,G2,aA,Nat.reduceMul,Nat.reduceBEq,Nat.reduceLT,Nat.reduceLeDiff,reduceCtorEq,Nat.reduceEqDiff,Nat.reduceAdd,Nat.beq]
  ·have G2:(p.site > 1073741824)=False:=eq_false c2
   rw [if_neg (by omega)]
   cases c3:vO p.lin with
   |false =>
    rw [c3] at e1
    rw [if_pos rfl]
    rw [au Fb rfl];simp only [Ed,aO,Nat.reduceBEq,Nat.reduceLeDiff,Nat.reduceAdd,List.length_cons,List.length_nil]
    simp only [G1,G2,e1,aA,Nat.reduceMul,Nat.reduceBEq,Nat.reduceLT,Nat.reduceLeDiff,reduceCtorEq,Nat.reduceEqDiff,Nat.reduceAdd,Nat.beq]
   |true =>
    rw [c3] at e1
    rw [if_neg (by decide)]
    by_cases c4:iU p.img=0
    ·rw [c4] at e2
     rw [if_neg (by rw [c4];decide)]
     by_cases c5:p.dirty.length=p.img.length
     ·have G5:((p.dirty.length:Int) != (p.img.length:Int))=false:=by simp [c5]
      rw [if_neg (by simpa using c5)]
      rw [au Fb rfl];simp only [Ed,aO,Nat.reduceBEq,Nat.reduceLeDiff,Nat.reduceAdd,List.length_cons,List.length_nil]
      simp only [G1,G2,e1,e2,Z,G5,List.length_map,aA,Nat.reduceMul,Nat.reduceBEq,Nat.reduceLT,Nat.reduceLeDiff,reduceCtorEq,Nat.reduceEqDiff,Nat.reduceAdd,Nat.beq]
      rw [aeH (p:=p) h2 c5]
      rotate_left
      ·rw [dh]
       simp only [aO,bJ,Nat.reduceMul,Nat.reduceBEq,Nat.reduceLT,Nat.reduceLeDiff,Nat.reduceAdd,decide_true,Bool.and_self,Bool.true_and]<;>rfl
      ·rw [List.drop_zero,List.drop_zero]
       unfold resD
       split
       ·rename_i c6
        rw [c6]
        simp only [G1,G2,e1,e2,Z,G5,List.length_map,aA,Nat.reduceMul,Nat.reduceBEq,Nat.reduceLT,Nat.reduceLeDiff,reduceCtorEq,Nat.reduceEqDiff,Nat.reduceAdd,Nat.beq]
       ·simp only [G1,G2,e1,e2,Z,G5,List.length_map,aA,Nat.reduceMul,Nat.reduceBEq,Nat.reduceLT,Nat.reduceLeDiff,reduceCtorEq,Nat.reduceEqDiff,Nat.reduceAdd,Nat.beq]
     ·have G5:((p.dirty.length:Int) != (p.img.length:Int))=true:=by simp;omega
      rw [if_pos c5]
      rw [au Fb rfl];simp only [Ed,aO,Nat.reduceBEq,Nat.reduceLeDiff,Nat.reduceAdd,List.length_cons,List.length_nil]
      simp only [G1,G2,e1,e2,Z,G5,List.length_map,aA,Nat.reduceMul,Nat.reduceBEq,Nat.reduceLT,Nat.reduceLeDiff,reduceCtorEq,Nat.reduceEqDiff,Nat.reduceAdd,Nat.beq]
    ·have G4:(iU p.img != 0)=true:=by simpa using c4
     rw [if_pos c4]
     rw [au Fb rfl];simp only [Ed,aO,Nat.reduceBEq,Nat.reduceLeDiff,Nat.reduceAdd,List.length_cons,List.length_nil]
     simp only [G1,G2,e1,e2,G4,List.length_map,aA,Nat.reduceMul,Nat.reduceBEq,Nat.reduceLT,Nat.reduceLeDiff,reduceCtorEq,Nat.reduceEqDiff,Nat.reduceAdd,Nat.beq]
theorem aeI {p:Pt} (hl:p.dirty.length≤lim) (hq:p.dirty.length=p.img.length) {st:St} (h:st.head [1,31,32,33] st.boxes.length=some ⟨sl 53 [(1,.aQ 0 0),(31,.pv (.list 2 (p.dirty.map mM))),(32,.pv (.int .i64 p.dirty.length)),(33,.pv (.int .i64 (0:Nat)))],[⟨false,lK p⟩],[],none⟩) :
  den env H9 st=resD 53 (xY (p.dirty.drop ((0:Nat))) (p.img.drop ((0:Nat)))) [⟨false,lK p⟩]:=by
 unfold H9
 refine bH (env:=env) (nb:=1) (p.dirty.length) (fun i=>⟨sl 53 [(1,.aQ 0 0),(31,.pv (.list 2 (p.dirty.map mM))),(32,.pv (.int .i64 p.dirty.length)),(33,.pv (.int .i64 i))],[⟨false,lK p⟩],[],none⟩) (fun i=>resD 53 (xY (p.dirty.drop (i)) (p.img.drop (i))) [⟨false,lK p⟩]) h (fun _=>rfl) (fun _=>by simp only [aO,bJ,Nat.reduceMul,Nat.reduceBEq,Nat.reduceLT,Nat.reduceLeDiff,Nat.reduceAdd,decide_true,Bool.and_self,Bool.true_and]) ?_ ?_
 ·intro i rb hi ih
  have hi1:=bD hi hl
  have hj:i<p.img.length:=by omega
  have F1:((i:Int)<(p.dirty.length:Int))=True:=eq_true (by omega)
  have P2:∀ a b:PV,part [a,b] 0 (some 2)=some (.agg [a,b]):=fun _ _=>rfl
  have eA:∀ b:Bm,mM b=.agg [.int .i64 b.size,.list 1 (b.ws.map eW)]:=fun _=>rfl
  have eV:∀ v:List fV,cO v=.list 8 (v.map lJ):=fun _=>rfl
  have hx:(p.dirty.map mM)[i]?=some (mM p.dirty[i]):=by rw [List.getElem?_map,List.getElem?_eq_getElem hi];rfl
  have hy:(p.img.map cO)[i]?=some (cO p.img[i]):=by rw [List.getElem?_map,List.getElem?_eq_getElem hj];rfl
  have e1:=Rh (b:=p.dirty[i])
  have hD:=Fz hi hj
  rw [eA] at hx e1
  rw [eV] at hy
  by_cases c1:zK p.dirty[i]=0
  ·have G1:((0:Int) != 0)=false:=rfl
   rw [c1] at e1
   rw [if_neg (show ¬ zK p.dirty[i]≠0 from fun h=>h c1)] at hD
   by_cases c2:p.dirty[i].size=(p.img[i].length:Int)
   ·have G2:(p.dirty[i].size != (p.img[i].length:Int))=false:=by simpa using c2
    rw [if_neg (show ¬ p.dirty[i].size≠(p.img[i].length:Int) from fun h=>h c2)] at hD
    rw [hD]
    simp only [xR,F1,hx,hy,e1,P2,G1,G2,dh,ah hi,ah hj,List.length_map,aA,Nat.reduceMul,Nat.reduceBEq,Nat.reduceLT,Nat.reduceLeDiff,reduceCtorEq,Nat.reduceEqDiff,Nat.reduceAdd,Nat.beq]
    rw [ih _ (by simp only [hi1,dh,aA,Nat.reduceMul,Nat.reduceBEq,Nat.reduceLT,Nat.reduceLeDiff,reduceCtorEq,Nat.reduceEqDiff,Nat.reduceAdd,Nat.beq]<;>rfl)]
    all_goals rfl
   ·have G2:(p.dirty[i].size != (p.img[i].length:Int))=true:=by simpa using c2
    rw [if_pos c2] at hD
    rw [hD]
    unfold resD
    rw [if_neg (by decide)]
    simp only [xR,F1,hx,hy,e1,P2,G1,G2,dh,ah hi,ah hj,List.length_map,aA,Nat.reduceMul,Nat.reduceBEq,Nat.reduceLT,Nat.reduceLeDiff,reduceCtorEq,Nat.reduceEqDiff,Nat.reduceAdd,Nat.beq]
  ·have G1:(zK p.dirty[i] != 0)=true:=by simpa using c1
   rw [if_pos c1] at hD
   rw [hD]
   unfold resD
   rw [if_neg c1]
   simp only [xR,F1,hx,hy,e1,P2,G1,dh,ah hi,ah hj,List.length_map,aA,Nat.reduceMul,Nat.reduceBEq,Nat.reduceLT,Nat.reduceLeDiff,reduceCtorEq,Nat.reduceEqDiff,Nat.reduceAdd,Nat.beq]
 ·intro rb
  rw [List.drop_length,hq,List.drop_length]
  unfold xY resD
  rw [if_pos rfl]
  simp only [xR,Int.lt_irrefl,dh,hq,List.length_map,aA,Nat.reduceMul,Nat.reduceBEq,Nat.reduceLT,Nat.reduceLeDiff,reduceCtorEq,Nat.reduceEqDiff,Nat.reduceAdd,Nat.beq]
theorem ahi {p:Pt} (h:wO p):cal env 15 [dX p]=some [(.int .i64 (lH p),false)]:=by
 obtain ⟨h1,h2,h3⟩:=h
 have e0:=ac0 (n:=p.site) (low:=0)
 have e1:=ahe (l:=p.lin) h1
 have e2:=ag0 (im:=p.img) h3
 have Z:((0:Int) != 0)=false:=rfl
 unfold lH
 rw [dQ]
 by_cases c1:p.site<0∨1073741824<p.site
 ·have G1:(decide (p.site ≥ 0)&&decide (p.site≤1073741824))=false:=by simp;omega
  rw [G1] at e0
  rw [if_pos c1]
  rw [au MK rfl];simp only [Ia,aO,Nat.reduceBEq,Nat.reduceLeDiff,Nat.reduceAdd,List.length_cons,List.length_nil]
  simp only [e0,aA,Nat.reduceMul,Nat.reduceBEq,Nat.reduceLT,Nat.reduceLeDiff,reduceCtorEq,Nat.reduceEqDiff,Nat.reduceAdd,Nat.beq]
 ·have G1:(decide (p.site ≥ 0)&&decide (p.site≤1073741824))=true:=by simp;omega
  rw [G1] at e0
  rw [if_neg c1]
  cases c3:vO p.lin with
  |false =>
   rw [c3] at e1
   rw [if_pos rfl]
   rw [au MK rfl];simp only [Ia,aO,Nat.reduceBEq,Nat.reduceLeDiff,Nat.reduceAdd,List.length_cons,List.length_nil]
   simp only [e0,e1,aA,Nat.reduceMul,Nat.reduceBEq,Nat.reduceLT,Nat.reduceLeDiff,reduceCtorEq,Nat.reduceEqDiff,Nat.reduceAdd,Nat.beq]
  |true =>
   rw [c3] at e1
   rw [if_neg (by decide)]
   by_cases c4:iU p.img=0
   ·rw [c4] at e2
    rw [if_neg (by rw [c4];decide)]
    by_cases c5:p.dirty.length=p.img.length
    ·have G5:((p.dirty.length:Int) != (p.img.length:Int))=false:=by simp [c5]
     rw [if_neg (by simpa using c5)]
     rw [au MK rfl];simp only [Ia,aO,Nat.reduceBEq,Nat.reduceLeDiff,Nat.reduceAdd,List.length_cons,List.length_nil]
     simp only [e0,e1,e2,Z,G5,List.length_map,aA,Nat.reduceMul,Nat.reduceBEq,Nat.reduceLT,Nat.reduceLeDiff,reduceCtorEq,Nat.reduceEqDiff,Nat.reduceAdd,Nat.beq]
     rw [aeI (p:=p) h2 c5]
     rotate_left
     ·rw [dh]
      simp only [aO,bJ,Nat.reduceMul,Nat.reduceBEq,Nat.reduceLT,Nat.reduceLeDiff,Nat.reduceAdd,decide_true,Bool.and_self,Bool.true_and]<;>rfl
     ·rw [List.drop_zero,List.drop_zero]
      unfold resD
      split
      ·rename_i c6
       rw [c6]
       simp only [e0,e1,e2,Z,G5,List.length_map,aA,Nat.reduceMul,Nat.reduceBEq,Nat.reduceLT,Nat.reduceLeDiff,reduceCtorEq,Nat.reduceEqDiff,Nat.reduceAdd,Nat.beq]
      ·simp only [e0,e1,e2,Z,G5,List.length_map,aA,Nat.reduceMul,Nat.reduceBEq,Nat.reduceLT,Nat.reduceLeDiff,reduceCtorEq,Nat.reduceEqDiff,Nat.reduceAdd,Nat.beq]
    ·have G5:((p.dirty.length:Int) != (p.img.length:Int))=true:=by simp;omega
     rw [if_pos c5]
     rw [au MK rfl];simp only [Ia,aO,Nat.reduceBEq,Nat.reduceLeDiff,Nat.reduceAdd,List.length_cons,List.length_nil]
     simp only [e0,e1,e2,Z,G5,List.length_map,aA,Nat.reduceMul,Nat.reduceBEq,Nat.reduceLT,Nat.reduceLeDiff,reduceCtorEq,Nat.reduceEqDiff,Nat.reduceAdd,Nat.beq]
   ·have G4:(iU p.img != 0)=true:=by simpa using c4
    rw [if_pos c4]
    rw [au MK rfl];simp only [Ia,aO,Nat.reduceBEq,Nat.reduceLeDiff,Nat.reduceAdd,List.length_cons,List.length_nil]
    simp only [e0,e1,e2,G4,List.length_map,aA,Nat.reduceMul,Nat.reduceBEq,Nat.reduceLT,Nat.reduceLeDiff,reduceCtorEq,Nat.reduceEqDiff,Nat.reduceAdd,Nat.beq]
end Go.Proofs.YtaaokejjmdbfaaaDoor.V

namespace Go.Proofs.YtaaokejjmdbfaaaDoor
open Go.RowKit
def RV (w:World) (rs:List l9) (v:Value):Prop :=
 ∃ arr:Array Value,arr.size=rs.length∧v=(if arr.size=1 then arr.getD 0 undef else .tuple arr)∧∀ (i:Nat) (r:l9) (u:Value),rs[i]?=some r→arr[i]?=some u→ay (fun b=>b<w.heap.size) w r.1 u
theorem Y1 {T:Tags} {w:World} {r:Root} {sz:Nat} {es:List PV} {v:Value} (h:aH T w r sz es v) {ok:Nat→Prop} (hk:∀ b,(T b=.ro∨T b=.row r)→b<w.heap.size→ok b):ay ok w (.list sz es) v:=by
 rcases h with ⟨rfl,a,rfl⟩|⟨b,c,arr,E,rfl,h1,h2,h3,h4,h5,h6,h7⟩
 ·exact .nil _ _
 ·have hb:b<w.heap.size:=(Array.getElem?_eq_some_iff.1 h2).1
  refine .list sz es b 0 c (fun i j=>arr[i * sz+j]?.getD undef) (hk b (.inr h1) hb) ⟨_,_,_,h2⟩ h4 h5 h6 (fun i e j x he hx=>?_) (fun i e j x he hx=>?_)
  ·obtain ⟨u,g1,g2,g3⟩:=h7 i e j x he hx
   rw [g1,Nat.zero_add,cell_of_row w b (i * sz+j) arr E (0,0) h2]
   exact ⟨g1,g2⟩
  ·obtain ⟨u,g1,g2,g3⟩:=h7 i e j x he hx
   rw [g1]
   exact g3.frame fun b e hb=>⟨hk b (.inl e) hb,rfl⟩
theorem oN.below {w w':World} (h:oN w) (hB:Below w.heap.size w w'):oN w':=h.frame fun b _ hb=>⟨if_pos (Nat.lt_of_lt_of_le hb hB.size),hB.block b hb⟩
theorem FB {P:Program} {env:Env} {f:Nat} {args:List PV} {rs:List l9} {vs:List Value} {w:World} (hE:xM P env) (h:cal env f args=some rs) (hr:BP w args vs) (hG:oN w) (hf:∀ r∈rs,r.2=false∨∃ sz es,r.1=.list sz es) :
  Calls P f vs.toArray w (fun e w'=>∃ v,e=.returned v∧Below w.heap.size w w'∧RV w' rs v):=by
 obtain ⟨n,hn⟩:=qm h
 have hC:=(ER hE hn).2 (fun b=>if b<w.heap.size then .ro else .other) w vs (fun b=>by
  by_cases hb:b<w.heap.size
  ·exact .inl (if_pos hb)
  ·exact .inr (if_neg hb)) (fun b hb=>if_neg (by omega)) hr.get.1 (fun i x v hx hv=>(hr.get.2 i x v hx hv).frame fun b hb _=>⟨if_pos hb,rfl⟩) hG
 refine hC.mono ?_
 rintro e w' ⟨v,T',rfl,h1,t1,t2,arr,s1,s2,h2⟩
 have hlt:∀ b,(T' b=.ro∨∃ r,T' b=.row r)→b<w'.heap.size:=fun b hb=>by
  refine Nat.lt_of_not_le fun hle=>?_
  rw [t2 b hle] at hb
  rcases hb with hb|⟨r,hb⟩<;>cases hb
 refine ⟨v,rfl,h1,arr,s1,s2,fun i r u hr hu=>?_⟩
 have h3:=h2 i r u hr hu
 obtain ⟨x,fl⟩:=r
 have hor:=hf _ (List.mem_of_getElem? hr)
 cases fl with
 |false =>
  have h4:ay (fun b=>T' b=.ro) w' x u:=by
   unfold R1 at h3
   split at h3
   ·rename_i q;cases q
   ·rename_i q;cases q
   ·rename_i q;cases q;exact h3
  exact h4.frame fun b hb _=>⟨hlt b (.inl hb),rfl⟩
 |true =>
  rcases hor with hor|⟨sz,es,hor⟩
  ·cases hor
  ·have hor:x=.list sz es:=hor
   subst hor
   have h4:aH T' w' (.part 0 i) sz es u:=h3
   exact Y1 h4 fun b hb hl=>hl
theorem arr1 {α:Type} {arr:Array α} (h:arr.size=1):∃ a,arr=#[a]:=by
 obtain ⟨l⟩:=arr
 match l,h with
 |[a],_=>exact ⟨a,rfl⟩
theorem yF {α:Type} {arr:Array α} (h:arr.size=2):∃ a b,arr=#[a,b]:=by
 obtain ⟨l⟩:=arr
 match l,h with
 |[a,b],_=>exact ⟨a,b,rfl⟩
theorem aiT {α:Type} {arr:Array α} (h:arr.size=4):∃ a b c d,arr=#[a,b,c,d]:=by
 obtain ⟨l⟩:=arr
 match l,h with
 |[a,b,c,d],_=>exact ⟨a,b,c,d,rfl⟩
theorem RV.one {w:World} {r:l9} {v:Value} (h:RV w [r] v):ay (fun b=>b<w.heap.size) w r.1 v:=by
 obtain ⟨arr,h1,rfl,h3⟩:=h
 obtain ⟨a,rfl⟩:=arr1 h1
 exact h3 0 _ _ rfl rfl
theorem RV.two {w:World} {r s:l9} {v:Value} (h:RV w [r,s] v):∃ a b,v=.tuple #[a,b]∧ay (fun b=>b<w.heap.size) w r.1 a∧ay (fun b=>b<w.heap.size) w s.1 b:=by
 obtain ⟨arr,h1,rfl,h3⟩:=h
 obtain ⟨a,b,rfl⟩:=yF h1
 exact ⟨a,b,rfl,h3 0 _ _ rfl rfl,h3 1 _ _ rfl rfl⟩
theorem ay.up {w w':World} {x:PV} {v:Value} (h:ay (fun b=>b<w.heap.size) w x v) (hB:Below w.heap.size w w'):ay (fun b=>b<w'.heap.size) w' x v:=h.frame fun b hb _=>⟨Nat.lt_of_lt_of_le hb hB.size,hB.block b hb⟩
theorem ay.cell1 {ok:Nat→Prop} {w:World} {sz:Nat} {es:List PV} {v:Value} (h:ay ok w (.list sz es) v):v.oneCell'=true:=by
 obtain ⟨x,c,rfl,_⟩:=h.qy
 rfl
open V in
structure PtR (w:World) (p:Pt) (v1 v2 v3:Value):Prop where
 l:ay (fun b=>b<w.heap.size) w (.list 3 (p.lin.map jy)) v1
 d:ay (fun b=>b<w.heap.size) w (.list 2 (p.dirty.map mM)) v2
 i:ay (fun b=>b<w.heap.size) w (.list 1 (p.img.map cO)) v3
open V in
theorem PtR.below {w w':World} {p:Pt} {v1 v2 v3:Value} (h:PtR w p v1 v2 v3) (hB:Below w.heap.size w w'):PtR w' p v1 v2 v3:=⟨h.l.up hB,h.d.up hB,h.i.up hB⟩
open V in
theorem aeJ {w:World} {p:Pt} {v:Value} (h:ay (fun b=>b<w.heap.size) w (dX p) v):∃ v1 v2 v3,v=.agg #[.int .i64 p.site,v1,v2,v3]∧PtR w p v1 v2 v3:=by
 obtain ⟨arr,rfl,h1,_,h3⟩:=h.qN
 obtain ⟨a,b,c,d,rfl⟩:=aiT h1
 have q0:=(h3 0 _ a rfl rfl).bV
 exact ⟨b,c,d,by rw [q0],h3 1 _ b rfl rfl,h3 2 _ c rfl rfl,h3 3 _ d rfl rfl⟩
open V in
theorem PtR.mk' {w:World} {p:Pt} {v1 v2 v3:Value} (h:PtR w p v1 v2 v3):ay (fun b=>b<w.heap.size) w (dX p) (.agg #[.int .i64 p.site,v1,v2,v3]):=by
 refine .agg _ _ rfl (fun j v hv=>?_) (fun j x v hx hv=>?_)
 ·match j with
  |0=>cases hv;rfl
  |1=>cases hv;exact h.l.cell1
  |2=>cases hv;exact h.d.cell1
  |3=>cases hv;exact h.i.cell1
  |j+4=>simp at hv
 ·match j with
  |0=>cases hv;cases hx;exact .int _ _
  |1=>cases hv;cases hx;exact h.l
  |2=>cases hv;cases hx;exact h.d
  |3=>cases hv;cases hx;exact h.i
  |j+4=>simp at hv
end Go.Proofs.YtaaokejjmdbfaaaDoor

namespace Go.Proofs.YtaaokejjmdbfaaaDoor
theorem Qe (pre:List Run) (x:Run):oh (pre++[x])=x:=by
 unfold oh
 simp
theorem Y2 (out:List Run):out=[]∨∃ pre x,out=pre++[x]:=by
 rcases List.eq_nil_or_concat out with h|⟨pre,x,h⟩
 ·exact .inl h
 ·exact .inr ⟨pre,x,by simpa using h⟩
theorem uX (v:Int) (i:Nat) (s:fV) (pre:List Run) (x:Run):oq v i s (pre++[x])=if x.1.1=v∧x.1.2+(x.2.length:Int)=(i:Int) then pre++[(x.1,x.2++[s])] else pre++[x]++[((v,(i:Int)),[s])]:=by
 unfold oq
 rw [Qe]
 by_cases c:x.1.1=v∧x.1.2+(x.2.length:Int)=(i:Int)
 ·rw [if_pos c,if_pos ⟨by simp,c.1,c.2⟩]
  simp
 ·rw [if_neg c,if_neg (fun h=>c h.2)]
theorem MW (v:Int) (i:Nat) (s:fV):oq v i s []=[((v,(i:Int)),[s])]:=rfl
end Go.Proofs.YtaaokejjmdbfaaaDoor

namespace Go.Proofs.YtaaokejjmdbfaaaDoor.V
theorem Y3:∀ a b:zZ,eqF (fun x y:List fV=>decide (x.length=y.length)) a b=decide (aC a=aC b)
 |[],[]=>rfl
 |[],y :: b=>by simp [eqF,aC]
 |x :: a,[]=>by simp [eqF,aC]
 |x :: a,y :: b=>by
  have ih:=Y3 a b
  unfold eqF at ih ⊢
  have e0:decide (aC (x :: a)=aC (y :: b))=(decide (x.length=y.length)&&decide (aC a=aC b)):=by
   rw [← Bool.decide_and]
   exact decide_eq_decide.2 (by simp only [aC,List.map_cons,List.cons.injEq];exact and_congr Int.ofNat_inj Iff.rfl)
  rw [e0,← ih]
  simp only [List.length_cons,List.zip_cons_cons,List.all_cons]
  have e2:decide (a.length+1=b.length+1)=decide (a.length=b.length):=decide_eq_decide.2 (by omega)
  rw [e2]
  cases decide (x.length=y.length)<;>cases decide (a.length=b.length)<;>simp
theorem ab2 {a b:zZ} {i:Nat} (h1:i<a.length) (h2:i<b.length):decide (aC (a.drop i)=aC (b.drop i))=(decide (a[i].length=b[i].length)&&decide (aC (a.drop (i+1))=aC (b.drop (i+1)))):=by
 rw [List.drop_eq_getElem_cons h1,List.drop_eq_getElem_cons h2,← Bool.decide_and]
 exact decide_eq_decide.2 (by simp only [aC,List.map_cons,List.cons.injEq];exact and_congr Int.ofNat_inj Iff.rfl)
def ab3 (n d:Nat) (t:Bool) (bx:List Box):Option (Ex × St):=if t then some (.normal,⟨sl n [(d,.any)],bx,[],none⟩) else some (.ret,⟨sl n [(d,.pv (.bool false))],bx,[],none⟩)
theorem Y4 (n d:Nat) (bx:List Box):ab3 n d true bx=some (.normal,⟨sl n [(d,.any)],bx,[],none⟩):=rfl
theorem Y5 (n d:Nat) (bx:List Box):ab3 n d false bx=some (.ret,⟨sl n [(d,.pv (.bool false))],bx,[],none⟩):=rfl
theorem aeK {a b:Pt} (hl:a.img.length≤lim) (hq:a.img.length=b.img.length) {st:St} (h:st.head [2,3,5] st.boxes.length=some ⟨sl 33 [(2,.aQ 0 0),(3,.aQ 1 0),(5,.pv (.int .i64 (0:Nat)))],[⟨false,lK a⟩,⟨false,lK b⟩],[],none⟩) :
  den env II st=ab3 33 4 (decide (aC (a.img.drop ((0:Nat)))=aC (b.img.drop ((0:Nat))))) [⟨false,lK a⟩,⟨false,lK b⟩]:=by
 unfold II
 refine bH (env:=env) (nb:=2) (a.img.length) (fun i=>⟨sl 33 [(2,.aQ 0 0),(3,.aQ 1 0),(5,.pv (.int .i64 i))],[⟨false,lK a⟩,⟨false,lK b⟩],[],none⟩) (fun i=>ab3 33 4 (decide (aC (a.img.drop (i))=aC (b.img.drop (i)))) [⟨false,lK a⟩,⟨false,lK b⟩]) h (fun _=>rfl) (fun _=>by simp only [aO,bJ,Nat.reduceMul,Nat.reduceBEq,Nat.reduceLT,Nat.reduceLeDiff,Nat.reduceAdd,decide_true,Bool.and_self,Bool.true_and]) ?_ ?_
 ·intro i rb hi ih
  have hi1:=bD hi hl
  have hj:i<b.img.length:=by omega
  have F1:((i:Int)<(a.img.length:Int))=True:=eq_true (by omega)
  have eV:∀ v:List fV,cO v=.list 8 (v.map lJ):=fun _=>rfl
  have hx:(a.img.map cO)[i]?=some (cO a.img[i]):=by rw [List.getElem?_map,List.getElem?_eq_getElem hi];rfl
  have hy:(b.img.map cO)[i]?=some (cO b.img[i]):=by rw [List.getElem?_map,List.getElem?_eq_getElem hj];rfl
  rw [eV] at hx hy
  rw [ab2 hi hj]
  by_cases c:a.img[i].length=b.img[i].length
  ·have G:((a.img[i].length:Int) != (b.img[i].length:Int))=false:=by simp [c]
   rw [decide_eq_true c,Bool.true_and]
   simp only [Ae,F1,hx,hy,G,dh,ah hi,ah hj,List.length_map,aA,Nat.reduceMul,Nat.reduceBEq,Nat.reduceLT,Nat.reduceLeDiff,reduceCtorEq,Nat.reduceEqDiff,Nat.reduceAdd,Nat.beq]
   rw [ih _ (by simp only [hi1,dh,aA,Nat.reduceMul,Nat.reduceBEq,Nat.reduceLT,Nat.reduceLeDiff,reduceCtorEq,Nat.reduceEqDiff,Nat.reduceAdd,Nat.beq]<;>rfl)]
   all_goals rfl
  ·have G:((a.img[i].length:Int) != (b.img[i].length:Int))=true:=by simp;omega
   rw [decide_eq_false c,Bool.false_and,Y5]
   simp only [Ae,F1,hx,hy,G,dh,ah hi,ah hj,List.length_map,aA,Nat.reduceMul,Nat.reduceBEq,Nat.reduceLT,Nat.reduceLeDiff,reduceCtorEq,Nat.reduceEqDiff,Nat.reduceAdd,Nat.beq]
 ·intro rb
  rw [List.drop_length,hq,List.drop_length,decide_eq_true rfl,Y4]
  simp only [Ae,Int.lt_irrefl,hq,dh,List.length_map,aA,Nat.reduceMul,Nat.reduceBEq,Nat.reduceLT,Nat.reduceLeDiff,reduceCtorEq,Nat.reduceEqDiff,Nat.reduceAdd,Nat.beq]
theorem ahj {a b:Pt} (hl:a.img.length≤lim):cal env 46 [dX a,dX b]=some [(.bool (decide (aC a.img=aC b.img)),false)]:=by
 rw [dQ,dQ]
 by_cases c:a.img.length=b.img.length
 ·have G:((a.img.length:Int) != (b.img.length:Int))=false:=by simp [c]
  rw [au acU rfl];simp only [Uy,aO,Nat.reduceBEq,Nat.reduceLeDiff,Nat.reduceAdd,List.length_cons,List.length_nil]
  simp only [G,List.length_map,aA,Nat.reduceMul,Nat.reduceBEq,Nat.reduceLT,Nat.reduceLeDiff,reduceCtorEq,Nat.reduceEqDiff,Nat.reduceAdd,Nat.beq]
  rw [aeK (a:=a) (b:=b) hl c]
  rotate_left
  ·rw [dh,dh]
   simp only [aO,bJ,Nat.reduceMul,Nat.reduceBEq,Nat.reduceLT,Nat.reduceLeDiff,Nat.reduceAdd,decide_true,Bool.and_self,Bool.true_and]<;>rfl
  ·rw [List.drop_zero,List.drop_zero]
   cases decide (aC a.img=aC b.img) with
   |true =>
    rw [Y4]
    simp only [G,List.length_map,aA,Nat.reduceMul,Nat.reduceBEq,Nat.reduceLT,Nat.reduceLeDiff,reduceCtorEq,Nat.reduceEqDiff,Nat.reduceAdd,Nat.beq]
   |false =>
    rw [Y5]
    simp only [G,List.length_map,aA,Nat.reduceMul,Nat.reduceBEq,Nat.reduceLT,Nat.reduceLeDiff,reduceCtorEq,Nat.reduceEqDiff,Nat.reduceAdd,Nat.beq]
 ·have G:((a.img.length:Int) != (b.img.length:Int))=true:=by simp;omega
  have:aC a.img≠aC b.img:=fun h=>c (by have:=congrArg List.length h;simpa [aC] using this)
  rw [decide_eq_false this]
  rw [au acU rfl];simp only [Uy,aO,Nat.reduceBEq,Nat.reduceLeDiff,Nat.reduceAdd,List.length_cons,List.length_nil]
  simp only [G,List.length_map,aA,Nat.reduceMul,Nat.reduceBEq,Nat.reduceLT,Nat.reduceLeDiff,reduceCtorEq,Nat.reduceEqDiff,Nat.reduceAdd,Nat.beq]
theorem ahk {x y:List fV}:cal env 79 [cO x,cO y]=some [(.bool (decide (x.length=y.length)),false)]:=by
 have eV:∀ v:List fV,cO v=.list 8 (v.map lJ):=fun _=>rfl
 rw [eV,eV]
 by_cases c:x.length=y.length
 ·have G:((x.length:Int)==(y.length:Int))=true:=by simp [c]
  rw [decide_eq_true c]
  rw [au acW rfl];simp only [UA,aO,Nat.reduceBEq,Nat.reduceLeDiff,Nat.reduceAdd,List.length_cons,List.length_nil]
  simp only [G,List.length_map,aA,Nat.reduceMul,Nat.reduceBEq,Nat.reduceLT,Nat.reduceLeDiff,reduceCtorEq,Nat.reduceEqDiff,Nat.reduceAdd,Nat.beq]
 ·have G:((x.length:Int)==(y.length:Int))=false:=by simp;omega
  rw [decide_eq_false c]
  rw [au acW rfl];simp only [UA,aO,Nat.reduceBEq,Nat.reduceLeDiff,Nat.reduceAdd,List.length_cons,List.length_nil]
  simp only [G,List.length_map,aA,Nat.reduceMul,Nat.reduceBEq,Nat.reduceLT,Nat.reduceLeDiff,reduceCtorEq,Nat.reduceEqDiff,Nat.reduceAdd,Nat.beq]
theorem ahl {a b:zZ} (hl:a.length≤lim):cal env 44 [.list 1 (a.map cO),.list 1 (b.map cO)]=some [(.bool (decide (aC a=aC b)),false)]:=by
 have e1:=agX (enc:=cO) (enc2:=cO) (eq:=fun x y:List fV=>decide (x.length=y.length)) (l:=a) (m:=b) (gf:=79) (caps:=[]) (fun x _ y _=>ahk) (fun _=>rfl) (fun _=>rfl) hl
 rw [Y3] at e1
 rw [au agv rfl];simp only [XY,aO,Nat.reduceBEq,Nat.reduceLeDiff,Nat.reduceAdd,List.length_cons,List.length_nil]
 simp only [e1,aA,Nat.reduceMul,Nat.reduceBEq,Nat.reduceLT,Nat.reduceLeDiff,reduceCtorEq,Nat.reduceEqDiff,Nat.reduceAdd,Nat.beq]
def vw:List Pt→Int
 |[]=>0
 |p :: l=>if lH p=0 then vw l else lH p
def sameAll (u:List Int) (l:List Pt):Bool:=l.all fun p=>decide (aC p.img=u)
def iy (l:List Pt):Int :=
 if vw l=0 then
  if l.length<1∨4<l.length then 6
  else if sameAll (aC (l.getD 0 ⟨0,[],[],[]⟩).img) l then 0 else 22
 else vw l
theorem FC {l:List Pt} {i:Nat} (h:i<l.length):vw (l.drop i)=if lH l[i]=0 then vw (l.drop (i+1)) else lH l[i]:=by
 rw [List.drop_eq_getElem_cons h,vw]
theorem xZ {u:List Int} {l:List Pt} {i:Nat} (h:i<l.length):sameAll u (l.drop i)=(decide (aC l[i].img=u)&&sameAll u (l.drop (i+1))):=by
 rw [List.drop_eq_getElem_cons h];rfl
def resE (n:Nat) (e:Int) (a:AV):Option (Ex × St):=if e=0 then some (.normal,⟨sl n [(0,a),(2,.any)],[],[],none⟩) else some (.ret,⟨sl n [(0,a),(2,.pv (.int .i64 e))],[],[],none⟩)
def FD (n:Nat) (t:Bool):Option (Ex × St):=if t then some (.normal,⟨sl n [(2,.any)],[],[],none⟩) else some (.ret,⟨sl n [(2,.pv (.int .i64 22))],[],[],none⟩)
theorem Aw (n:Nat):FD n true=some (.normal,⟨sl n [(2,.any)],[],[],none⟩):=rfl
theorem Az (n:Nat):FD n false=some (.ret,⟨sl n [(2,.pv (.int .i64 22))],[],[],none⟩):=rfl
theorem aeL {l:List Pt} (hl:l.length≤lim) (hf:∀ p∈l,wO p) {st:St} (h:st.head [0,3] st.boxes.length=some ⟨sl 43 [(0,.pv (.list 4 (l.map dX))),(3,.pv (.int .i64 (0:Nat)))],[],[],none⟩) :
  den env IX st=resE 43 (vw (l.drop ((0:Nat)))) (.pv (.list 4 (l.map dX))):=by
 unfold IX
 refine bH (env:=env) (nb:=0) (l.length) (fun i=>⟨sl 43 [(0,.pv (.list 4 (l.map dX))),(3,.pv (.int .i64 i))],[],[],none⟩) (fun i=>resE 43 (vw (l.drop (i))) (.pv (.list 4 (l.map dX)))) h (fun _=>rfl) (fun _=>by simp only [aO,bJ,Nat.reduceMul,Nat.reduceBEq,Nat.reduceLT,Nat.reduceLeDiff,Nat.reduceAdd,decide_true,Bool.and_self,Bool.true_and]) ?_ ?_
 ·intro i rb hi ih
  have hi1:=bD hi hl
  have F1:((i:Int)<(l.length:Int))=True:=eq_true (by omega)
  have e1:=ahh (p:=l[i]) (hf _ (List.getElem_mem hi))
  have hx:(l.map dX)[i]?=some (dX l[i]):=by rw [List.getElem?_map,List.getElem?_eq_getElem hi];rfl
  have P4:∀ a b c d:PV,part [a,b,c,d] 0 (some 4)=some (.agg [a,b,c,d]):=fun _ _ _ _=>rfl
  rw [FC hi]
  rw [dQ] at e1 hx
  by_cases c:lH l[i]=0
  ·have G:((0:Int) != 0)=false:=rfl
   rw [if_pos c]
   rw [c] at e1
   simp only [Ai,F1,hx,e1,G,P4,ah hi,List.length_map,aA,Nat.reduceMul,Nat.reduceBEq,Nat.reduceLT,Nat.reduceLeDiff,reduceCtorEq,Nat.reduceEqDiff,Nat.reduceAdd,Nat.beq]
   rw [ih _ (by simp only [hi1,aA,Nat.reduceMul,Nat.reduceBEq,Nat.reduceLT,Nat.reduceLeDiff,reduceCtorEq,Nat.reduceEqDiff,Nat.reduceAdd,Nat.beq]<;>rfl)]
  ·have G:(lH l[i] != 0)=true:=by simpa using c
   rw [if_neg c]
   unfold resE
   rw [if_neg c]
   simp only [Ai,F1,hx,e1,G,P4,ah hi,List.length_map,aA,Nat.reduceMul,Nat.reduceBEq,Nat.reduceLT,Nat.reduceLeDiff,reduceCtorEq,Nat.reduceEqDiff,Nat.reduceAdd,Nat.beq]
 ·intro rb
  rw [List.drop_length]
  unfold vw resE
  rw [if_pos rfl]
  simp only [Ai,Int.lt_irrefl,List.length_map,aA,Nat.reduceMul,Nat.reduceBEq,Nat.reduceLT,Nat.reduceLeDiff,reduceCtorEq,Nat.reduceEqDiff,Nat.reduceAdd,Nat.beq]
theorem Y6 {l:List Pt} {p0:Pt} (h0:l[0]?=some p0) (hl:l.length≤lim) (hf:∀ p∈l,wO p) {st:St} (h:st.head [0,5] st.boxes.length=some ⟨sl 43 [(0,.pv (.list 4 (l.map dX))),(5,.pv (.int .i64 (0:Nat)))],[],[],none⟩) :
  den env IY st=FD 43 (sameAll (aC p0.img) (l.drop ((0:Nat)))):=by
 unfold IY
 refine bH (env:=env) (nb:=0) (l.length) (fun i=>⟨sl 43 [(0,.pv (.list 4 (l.map dX))),(5,.pv (.int .i64 i))],[],[],none⟩) (fun i=>FD 43 (sameAll (aC p0.img) (l.drop (i)))) h (fun _=>rfl) (fun _=>by simp only [aO,bJ,Nat.reduceMul,Nat.reduceBEq,Nat.reduceLT,Nat.reduceLeDiff,Nat.reduceAdd,decide_true,Bool.and_self,Bool.true_and]) ?_ ?_
 ·intro i rb hi ih
  have hi1:=bD hi hl
  have F1:((i:Int)<(l.length:Int))=True:=eq_true (by omega)
  have hn:0<l.length:=by omega
  have e1:=ahj (a:=p0) (b:=l[i]) (hf _ (List.mem_of_getElem? h0)).2.2
  have hx:(l.map dX)[i]?=some (dX l[i]):=by rw [List.getElem?_map,List.getElem?_eq_getElem hi];rfl
  have hy:(l.map dX)[0]?=some (dX p0):=by rw [List.getElem?_map,h0];rfl
  have P4:∀ a b c d:PV,part [a,b,c,d] 0 (some 4)=some (.agg [a,b,c,d]):=fun _ _ _ _=>rfl
  have I0:index (.int .i64 0) l.length=some 0:=ah (i:=0) hn
  rw [xZ hi]
  rw [dQ] at hx hy
  rw [dQ,dQ] at e1
  by_cases c:aC l[i].img=aC p0.img
  ·rw [decide_eq_true c,Bool.true_and]
   rw [decide_eq_true c.symm] at e1
   simp only [Aj,F1,hx,hy,e1,P4,I0,ah hi,List.length_map,aA,Nat.reduceMul,Nat.reduceBEq,Nat.reduceLT,Nat.reduceLeDiff,reduceCtorEq,Nat.reduceEqDiff,Nat.reduceAdd,Nat.beq]
   rw [ih _ (by simp only [hi1,aA,Nat.reduceMul,Nat.reduceBEq,Nat.reduceLT,Nat.reduceLeDiff,reduceCtorEq,Nat.reduceEqDiff,Nat.reduceAdd,Nat.beq]<;>rfl)]
  ·rw [decide_eq_false c,Bool.false_and,Az]
   rw [decide_eq_false (fun h=>c h.symm)] at e1
   simp only [Aj,F1,hx,hy,e1,P4,I0,ah hi,List.length_map,aA,Nat.reduceMul,Nat.reduceBEq,Nat.reduceLT,Nat.reduceLeDiff,reduceCtorEq,Nat.reduceEqDiff,Nat.reduceAdd,Nat.beq]
 ·intro rb
  rw [List.drop_length]
  unfold sameAll
  rw [List.all_nil,Aw]
  simp only [Aj,Int.lt_irrefl,List.length_map,aA,Nat.reduceMul,Nat.reduceBEq,Nat.reduceLT,Nat.reduceLeDiff,reduceCtorEq,Nat.reduceEqDiff,Nat.reduceAdd,Nat.beq]
theorem ac1 {l:List Pt} (hl:l.length≤lim) (hf:∀ p∈l,wO p):cal env 62 [.list 4 (l.map dX)]=some [(.int .i64 (iy l),false)]:=by
 unfold iy
 rw [au agD rfl];simp only [Ya,aO,Nat.reduceBEq,Nat.reduceLeDiff,Nat.reduceAdd,List.length_cons,List.length_nil]
 simp only [List.length_map,aA,Nat.reduceMul,Nat.reduceBEq,Nat.reduceLT,Nat.reduceLeDiff,reduceCtorEq,Nat.reduceEqDiff,Nat.reduceAdd,Nat.beq]
 rw [aeL (l:=l) hl hf]
 rotate_left
 ·simp only [aO,bJ,Nat.reduceMul,Nat.reduceBEq,Nat.reduceLT,Nat.reduceLeDiff,Nat.reduceAdd,decide_true,Bool.and_self,Bool.true_and]<;>rfl
 ·rw [List.drop_zero]
  unfold resE
  by_cases c:vw l=0
  ·rw [if_pos c,if_pos c]
   by_cases c1:l.length<1
   ·have G:((l.length:Int)<1)=True:=eq_true (by omega)
    rw [if_pos (.inl c1)]
    simp only [G,List.length_map,aA,Nat.reduceMul,Nat.reduceBEq,Nat.reduceLT,Nat.reduceLeDiff,reduceCtorEq,Nat.reduceEqDiff,Nat.reduceAdd,Nat.beq]
   ·have G:((l.length:Int)<1)=False:=eq_false (by omega)
    by_cases c2:l.length > 4
    ·have G2:((l.length:Int) > 4)=True:=eq_true (by omega)
     rw [if_pos (.inr c2)]
     simp only [G,G2,List.length_map,aA,Nat.reduceMul,Nat.reduceBEq,Nat.reduceLT,Nat.reduceLeDiff,reduceCtorEq,Nat.reduceEqDiff,Nat.reduceAdd,Nat.beq]
    ·have G2:((l.length:Int) > 4)=False:=eq_false (by omega)
     rw [if_neg (by omega)]
     simp only [G,G2,List.length_map,aA,Nat.reduceMul,Nat.reduceBEq,Nat.reduceLT,Nat.reduceLeDiff,reduceCtorEq,Nat.reduceEqDiff,Nat.reduceAdd,Nat.beq]
     have h0:l[0]?=some l[0]:=List.getElem?_eq_getElem (by omega)
     have hD:l.getD 0 ⟨0,[],[],[]⟩=l[0]:=by rw [List.getD_eq_getElem?_getD,h0];rfl
     rw [Y6 h0 hl hf]
     rotate_left
     ·simp only [aO,bJ,Nat.reduceMul,Nat.reduceBEq,Nat.reduceLT,Nat.reduceLeDiff,Nat.reduceAdd,decide_true,Bool.and_self,Bool.true_and]<;>rfl
     ·rw [List.drop_zero,hD]
      cases sameAll (aC l[0].img) l with
      |true =>
       rw [Aw]
       simp only [List.length_map,aA,Nat.reduceMul,Nat.reduceBEq,Nat.reduceLT,Nat.reduceLeDiff,reduceCtorEq,Nat.reduceEqDiff,Nat.reduceAdd,Nat.beq]
      |false =>
       rw [Az]
       simp only [List.length_map,aA,Nat.reduceMul,Nat.reduceBEq,Nat.reduceLT,Nat.reduceLeDiff,reduceCtorEq,Nat.reduceEqDiff,Nat.reduceAdd,Nat.beq]
  ·rw [if_neg c,if_neg c]
   simp only [List.length_map,aA,Nat.reduceMul,Nat.reduceBEq,Nat.reduceLT,Nat.reduceLeDiff,reduceCtorEq,Nat.reduceEqDiff,Nat.reduceAdd,Nat.beq]
theorem aeM {l:List Pt} (hl:l.length≤lim) (hf:∀ p∈l,wO p) {st:St} (h:st.head [0,8,9,10] st.boxes.length=some ⟨sl 43 [(0,.pv (.list 4 (l.map dX))),(8,.pv (.list 4 (l.map dX))),(9,.pv (.int .i64 l.length)),(10,.pv (.int .i64 (0:Nat)))],[],[],none⟩) :
  den env IV st=resE 43 (vw (l.drop ((0:Nat)))) (.pv (.list 4 (l.map dX))):=by
 unfold IV
 refine bH (env:=env) (nb:=0) (l.length) (fun i=>⟨sl 43 [(0,.pv (.list 4 (l.map dX))),(8,.pv (.list 4 (l.map dX))),(9,.pv (.int .i64 l.length)),(10,.pv (.int .i64 i))],[],[],none⟩) (fun i=>resE 43 (vw (l.drop (i))) (.pv (.list 4 (l.map dX)))) h (fun _=>rfl) (fun _=>by simp only [aO,bJ,Nat.reduceMul,Nat.reduceBEq,Nat.reduceLT,Nat.reduceLeDiff,Nat.reduceAdd,decide_true,Bool.and_self,Bool.true_and]) ?_ ?_
 ·intro i rb hi ih
  have hi1:=bD hi hl
  have F1:((i:Int)<(l.length:Int))=True:=eq_true (by omega)
  have e1:=ahi (p:=l[i]) (hf _ (List.getElem_mem hi))
  have hx:(l.map dX)[i]?=some (dX l[i]):=by rw [List.getElem?_map,List.getElem?_eq_getElem hi];rfl
  have P4:∀ a b c d:PV,part [a,b,c,d] 0 (some 4)=some (.agg [a,b,c,d]):=fun _ _ _ _=>rfl
  rw [FC hi]
  rw [dQ] at e1 hx
  by_cases c:lH l[i]=0
  ·have G:((0:Int) != 0)=false:=rfl
   rw [if_pos c]
   rw [c] at e1
   simp only [Ag,F1,hx,e1,G,P4,ah hi,List.length_map,aA,Nat.reduceMul,Nat.reduceBEq,Nat.reduceLT,Nat.reduceLeDiff,reduceCtorEq,Nat.reduceEqDiff,Nat.reduceAdd,Nat.beq]
   rw [ih _ (by simp only [hi1,aA,Nat.reduceMul,Nat.reduceBEq,Nat.reduceLT,Nat.reduceLeDiff,reduceCtorEq,Nat.reduceEqDiff,Nat.reduceAdd,Nat.beq]<;>rfl)]
  ·have G:(lH l[i] != 0)=true:=by simpa using c
   rw [if_neg c]
   unfold resE
   rw [if_neg c]
   simp only [Ag,F1,hx,e1,G,P4,ah hi,List.length_map,aA,Nat.reduceMul,Nat.reduceBEq,Nat.reduceLT,Nat.reduceLeDiff,reduceCtorEq,Nat.reduceEqDiff,Nat.reduceAdd,Nat.beq]
 ·intro rb
  rw [List.drop_length]
  unfold vw resE
  rw [if_pos rfl]
  simp only [Ag,Int.lt_irrefl,List.length_map,aA,Nat.reduceMul,Nat.reduceBEq,Nat.reduceLT,Nat.reduceLeDiff,reduceCtorEq,Nat.reduceEqDiff,Nat.reduceAdd,Nat.beq]
theorem Y7 {l:List Pt} {p0:Pt} (h0:l[0]?=some p0) (hl:l.length≤lim) (hf:∀ p∈l,wO p) {st:St} (h:st.head [0,28,29,30] st.boxes.length=some ⟨sl 43 [(0,.pv (.list 4 (l.map dX))),(28,.pv (.list 4 (l.map dX))),(29,.pv (.int .i64 l.length)),(30,.pv (.int .i64 (0:Nat)))],[],[],none⟩) :
  den env IW st=FD 43 (sameAll (aC p0.img) (l.drop ((0:Nat)))):=by
 unfold IW
 refine bH (env:=env) (nb:=0) (l.length) (fun i=>⟨sl 43 [(0,.pv (.list 4 (l.map dX))),(28,.pv (.list 4 (l.map dX))),(29,.pv (.int .i64 l.length)),(30,.pv (.int .i64 i))],[],[],none⟩) (fun i=>FD 43 (sameAll (aC p0.img) (l.drop (i)))) h (fun _=>rfl) (fun _=>by simp only [aO,bJ,Nat.reduceMul,Nat.reduceBEq,Nat.reduceLT,Nat.reduceLeDiff,Nat.reduceAdd,decide_true,Bool.and_self,Bool.true_and]) ?_ ?_
 ·intro i rb hi ih
  have hi1:=bD hi hl
  have F1:((i:Int)<(l.length:Int))=True:=eq_true (by omega)
  have hn:0<l.length:=by omega
  have e1:=ahl (a:=l[i].img) (b:=p0.img) (hf _ (List.getElem_mem hi)).2.2
  have hx:(l.map dX)[i]?=some (dX l[i]):=by rw [List.getElem?_map,List.getElem?_eq_getElem hi];rfl
  have hy:(l.map dX)[0]?=some (dX p0):=by rw [List.getElem?_map,h0];rfl
  have P4:∀ a b c d:PV,part [a,b,c,d] 0 (some 4)=some (.agg [a,b,c,d]):=fun _ _ _ _=>rfl
  have I0:index (.int .i64 0) l.length=some 0:=ah (i:=0) hn
  rw [xZ hi]
  rw [dQ] at hx hy
  cases c:decide (aC l[i].img=aC p0.img) with
  |true =>
   rw [Bool.true_and]
   rw [c] at e1
   simp only [Ah,F1,hx,hy,e1,P4,I0,ah hi,List.length_map,aA,Nat.reduceMul,Nat.reduceBEq,Nat.reduceLT,Nat.reduceLeDiff,reduceCtorEq,Nat.reduceEqDiff,Nat.reduceAdd,Nat.beq]
   rw [ih _ (by simp only [hi1,aA,Nat.reduceMul,Nat.reduceBEq,Nat.reduceLT,Nat.reduceLeDiff,reduceCtorEq,Nat.reduceEqDiff,Nat.reduceAdd,Nat.beq]<;>rfl)]
  |false =>
   rw [Bool.false_and,Az]
   rw [c] at e1
   simp only [Ah,F1,hx,hy,e1,P4,I0,ah hi,List.length_map,aA,Nat.reduceMul,Nat.reduceBEq,Nat.reduceLT,Nat.reduceLeDiff,reduceCtorEq,Nat.reduceEqDiff,Nat.reduceAdd,Nat.beq]
 ·intro rb
  rw [List.drop_length]
  unfold sameAll
  rw [List.all_nil,Aw]
  simp only [Ah,Int.lt_irrefl,List.length_map,aA,Nat.reduceMul,Nat.reduceBEq,Nat.reduceLT,Nat.reduceLeDiff,reduceCtorEq,Nat.reduceEqDiff,Nat.reduceAdd,Nat.beq]
theorem Y8 {l:List Pt} (hl:l.length≤lim) (hf:∀ p∈l,wO p):cal env 56 [.list 4 (l.map dX)]=some [(.int .i64 (iy l),false)]:=by
 unfold iy
 rw [au agC rfl];simp only [X9,aO,Nat.reduceBEq,Nat.reduceLeDiff,Nat.reduceAdd,List.length_cons,List.length_nil]
 simp only [List.length_map,aA,Nat.reduceMul,Nat.reduceBEq,Nat.reduceLT,Nat.reduceLeDiff,reduceCtorEq,Nat.reduceEqDiff,Nat.reduceAdd,Nat.beq]
 rw [aeM (l:=l) hl hf]
 rotate_left
 ·simp only [aO,bJ,Nat.reduceMul,Nat.reduceBEq,Nat.reduceLT,Nat.reduceLeDiff,Nat.reduceAdd,decide_true,Bool.and_self,Bool.true_and]<;>rfl
 ·rw [List.drop_zero]
  unfold resE
  by_cases c:vw l=0
  ·rw [if_pos c,if_pos c]
   by_cases c1:l.length<1
   ·have G:((l.length:Int)<1)=True:=eq_true (by omega)
    rw [if_pos (.inl c1)]
    simp only [G,List.length_map,aA,Nat.reduceMul,Nat.reduceBEq,Nat.reduceLT,Nat.reduceLeDiff,reduceCtorEq,Nat.reduceEqDiff,Nat.reduceAdd,Nat.beq]
   ·have G:((l.length:Int)<1)=False:=eq_false (by omega)
    by_cases c2:l.length > 4
    ·have G2:((l.length:Int) > 4)=True:=eq_true (by omega)
     rw [if_pos (.inr c2)]
     simp only [G,G2,List.length_map,aA,Nat.reduceMul,Nat.reduceBEq,Nat.reduceLT,Nat.reduceLeDiff,reduceCtorEq,Nat.reduceEqDiff,Nat.reduceAdd,Nat.beq]
    ·have G2:((l.length:Int) > 4)=False:=eq_false (by omega)
     rw [if_neg (by omega)]
     simp only [G,G2,List.length_map,aA,Nat.reduceMul,Nat.reduceBEq,Nat.reduceLT,Nat.reduceLeDiff,reduceCtorEq,Nat.reduceEqDiff,Nat.reduceAdd,Nat.beq]
     have h0:l[0]?=some l[0]:=List.getElem?_eq_getElem (by omega)
     have hD:l.getD 0 ⟨0,[],[],[]⟩=l[0]:=by rw [List.getD_eq_getElem?_getD,h0];rfl
     rw [Y7 h0 hl hf]
     rotate_left
     ·simp only [aO,bJ,Nat.reduceMul,Nat.reduceBEq,Nat.reduceLT,Nat.reduceLeDiff,Nat.reduceAdd,decide_true,Bool.and_self,Bool.true_and]<;>rfl
     ·rw [List.drop_zero,hD]
      cases sameAll (aC l[0].img) l with
      |true =>
       rw [Aw]
       simp only [List.length_map,aA,Nat.reduceMul,Nat.reduceBEq,Nat.reduceLT,Nat.reduceLeDiff,reduceCtorEq,Nat.reduceEqDiff,Nat.reduceAdd,Nat.beq]
      |false =>
       rw [Az]
       simp only [List.length_map,aA,Nat.reduceMul,Nat.reduceBEq,Nat.reduceLT,Nat.reduceLeDiff,reduceCtorEq,Nat.reduceEqDiff,Nat.reduceAdd,Nat.beq]
  ·rw [if_neg c,if_neg c]
   simp only [List.length_map,aA,Nat.reduceMul,Nat.reduceBEq,Nat.reduceLT,Nat.reduceLeDiff,reduceCtorEq,Nat.reduceEqDiff,Nat.reduceAdd,Nat.beq]
end Go.Proofs.YtaaokejjmdbfaaaDoor.V

namespace Go.Proofs.YtaaokejjmdbfaaaDoor.V
def Qg (b:Bm) (s:Int):Bool:=okB b&&(decide (0≤s)&&(decide (s<b.size)&&bit b.ws s.toNat))
theorem ac2 {b:Bm} {s:Int}:cal env 89 [mM b,.int .i64 s]=some [(.bool (Qg b s),false)]:=by
 have e1:=acZ (b:=b)
 have P:∀ x y:PV,part [x,y] 0 (some 2)=some (.agg [x,y]):=fun _ _=>rfl
 have eA:mM b=.agg [.int .i64 b.size,.list 1 (b.ws.map eW)]:=rfl
 have Z0:((0:Int)==0)=true:=rfl
 have Z3:((3:Int)==0)=false:=rfl
 unfold Qg
 cases c:okB b with
 |false =>
  rw [nI c] at e1
  rw [eA] at e1 ⊢
  rw [au Q5 rfl];simp only [L9,aO,Nat.reduceBEq,Nat.reduceLeDiff,Nat.reduceAdd,List.length_cons,List.length_nil]
  simp only [e1,Z3,P,aA,Nat.reduceMul,Nat.reduceBEq,Nat.reduceLT,Nat.reduceLeDiff,reduceCtorEq,Nat.reduceEqDiff,Nat.reduceAdd,Nat.beq]
 |true =>
  rw [wK c] at e1
  have hs:=kF c
  by_cases c0:0≤s
  ·have F0:(s ≥ 0)=True:=eq_true c0
   rw [decide_eq_true c0]
   by_cases c1:s<b.size
   ·have F1:(s<b.size)=True:=eq_true c1
    rw [decide_eq_true c1]
    obtain ⟨i,rfl⟩:∃ i:Nat,s=(i:Int):=⟨s.toNat,by omega⟩
    have h:i / 64<b.ws.length:=by omega
    have e2:=acY (b:=b) (i:=i) h (by omega)
    have e9:(i:Int).toNat=i:=by omega
    rw [e9]
    rw [eA] at e1 e2 ⊢
    rw [au Q5 rfl];simp only [L9,aO,Nat.reduceBEq,Nat.reduceLeDiff,Nat.reduceAdd,List.length_cons,List.length_nil]
    simp only [e1,e2,Z0,P,F0,F1,aA,Nat.reduceMul,Nat.reduceBEq,Nat.reduceLT,Nat.reduceLeDiff,reduceCtorEq,Nat.reduceEqDiff,Nat.reduceAdd,Nat.beq]
   ·have F1:(s<b.size)=False:=eq_false c1
    rw [decide_eq_false c1]
    rw [eA] at e1 ⊢
    rw [au Q5 rfl];simp only [L9,aO,Nat.reduceBEq,Nat.reduceLeDiff,Nat.reduceAdd,List.length_cons,List.length_nil]
    simp only [e1,Z0,P,F0,F1,aA,Nat.reduceMul,Nat.reduceBEq,Nat.reduceLT,Nat.reduceLeDiff,reduceCtorEq,Nat.reduceEqDiff,Nat.reduceAdd,Nat.beq]
  ·have F0:(s ≥ 0)=False:=eq_false c0
   rw [decide_eq_false c0]
   rw [eA] at e1 ⊢
   rw [au Q5 rfl];simp only [L9,aO,Nat.reduceBEq,Nat.reduceLeDiff,Nat.reduceAdd,List.length_cons,List.length_nil]
   simp only [e1,Z0,P,F0,aA,Nat.reduceMul,Nat.reduceBEq,Nat.reduceLT,Nat.reduceLeDiff,reduceCtorEq,Nat.reduceEqDiff,Nat.reduceAdd,Nat.beq]
end Go.Proofs.YtaaokejjmdbfaaaDoor.V

namespace Go.Proofs.YtaaokejjmdbfaaaDoor.V
def dir (a:Pt) (v:Nat):Bm:=a.dirty.getD v ⟨0,[]⟩
def mk2 (a b:Pt) (v k:Nat):Bool:=Qg (dir a v) (k:Int) || Qg (dir b v) (k:Int)
theorem Jr {a:Pt} {v:Nat} (h:v<a.dirty.length):(a.dirty.map mM)[v]?=some (mM (dir a v)):=by
 rw [List.getElem?_map,List.getElem?_eq_getElem h]
 unfold dir
 rw [List.getD_eq_getElem?_getD,List.getElem?_eq_getElem h]
 rfl
theorem ac3 {a b:Pt} {v k:Nat} (ha:v<a.dirty.length) (hb:v<b.dirty.length):cal env 65 [dX a,dX b,.int .i64 v,.int .i64 k]=some [(.bool (mk2 a b v k),false)]:=by
 have e1:=ac2 (b:=dir a v) (s:=(k:Int))
 have e2:=ac2 (b:=dir b v) (s:=(k:Int))
 have eA:∀ b:Bm,mM b=.agg [.int .i64 b.size,.list 1 (b.ws.map eW)]:=fun _=>rfl
 have P2:∀ a b:PV,part [a,b] 0 (some 2)=some (.agg [a,b]):=fun _ _=>rfl
 have hx:=Jr ha
 have hy:=Jr hb
 unfold mk2
 rw [dQ,dQ]
 rw [eA] at e1 e2 hx hy
 cases c1:Qg (dir a v) (k:Int) with
 |true =>
  rw [c1] at e1
  rw [Bool.true_or]
  rw [au acV rfl];simp only [Uz,aO,Nat.reduceBEq,Nat.reduceLeDiff,Nat.reduceAdd,List.length_cons,List.length_nil]
  simp only [e1,P2,hx,ah ha,List.length_map,aA,Nat.reduceMul,Nat.reduceBEq,Nat.reduceLT,Nat.reduceLeDiff,reduceCtorEq,Nat.reduceEqDiff,Nat.reduceAdd,Nat.beq]
 |false =>
  rw [c1] at e1
  rw [Bool.false_or]
  rw [au acV rfl];simp only [Uz,aO,Nat.reduceBEq,Nat.reduceLeDiff,Nat.reduceAdd,List.length_cons,List.length_nil]
  simp only [e1,e2,P2,hx,hy,ah ha,ah hb,List.length_map,aA,Nat.reduceMul,Nat.reduceBEq,Nat.reduceLT,Nat.reduceLeDiff,reduceCtorEq,Nat.reduceEqDiff,Nat.reduceAdd,Nat.beq]
def wQ (p:Nat→Bool) (n:Nat):List Nat:=(List.range n).filter p
theorem MX (p:Nat→Bool) (n:Nat):wQ p (n+1)=if p n then wQ p n++[n] else wQ p n:=by
 unfold wQ
 rw [List.range_succ,List.filter_append]
 cases h:p n<;>simp [h]
theorem aeN {p:Nat→Bool} {n i:Nat} (h:i∈wQ p n):i<n:=by
 simp only [wQ,List.mem_filter,List.mem_range] at h;exact h.1
theorem Rk (p:Nat→Bool) (n:Nat):(wQ p n).length≤n:=by
 have:=List.length_filter_le p (List.range n);simpa [wQ] using this
def eX (a:Pt) (i:Nat):Nat:=(a.img.getD i []).length
def uY (a b:Pt) (n:Nat):List (List o7):=(List.range n).map fun i=>ext (mk2 a b i) (eX a i)
def qo (a b:Pt):Nat→Nat
 |0=>0
 |i+1=>qo a b i+(wQ (mk2 a b i) (eX a i)).length
theorem Dn (a b:Pt) (n:Nat):uY a b (n+1)=uY a b n++[ext (mk2 a b n) (eX a n)]:=by
 unfold uY;rw [List.range_succ,List.map_append];rfl
theorem rO (a b:Pt) (n:Nat):(uY a b n).length=n:=by simp [uY]
theorem Js {a:Pt} (b:Pt) (h:∀ i,eX a i≤4096):∀ n,qo a b n≤4096 * n
 |0=>Nat.le_refl _
 |n+1=>by
  have:=Js b h n
  have:=Rk (mk2 a b n) (eX a n)
  have:=h n
  unfold qo
  omega
def lM (l:List o7):PV:=.list 2 (l.map jh)
def ab4 (n:Nat) (o:List (List o7)) (c:Nat) (i:Nat) (l:List o7) (c2:Nat) (bx:List Box):Option (Ex × St):=some (.normal,⟨sl n [(2,.aQ 0 0),(3,.aQ 1 0),(4,.any),(5,.any),(6,.row 1 (o.map lM)),(7,.pv (.int .i64 ((c+c2:Nat):Int))),(8,.pv (.int .i64 i)),(9,.row 2 (l.map jh)),(71,.any),(75,.any)],bx,[],none⟩)
set_option maxRecDepth 20000 in
theorem aeO {a b:Pt} {v c:Nat} {o:List (List o7)} (ha:v<a.dirty.length) (hb:v<b.dirty.length) (hv:v<a.img.length) (hc:c≤1000000) (hn:eX a v≤4096) {st:St} (h:st.head [2,3,6,7,8,9,10,71,75] st.boxes.length=some ⟨sl 78 [(2,.aQ 0 0),(3,.aQ 1 0),(6,.row 1 (o.map lM)),(7,.pv (.int .i64 ((c+(wQ (mk2 a b v) ((0:Nat))).length:Nat):Int))),(8,.pv (.int .i64 v)),(9,.row 2 ((exts (wQ (mk2 a b v) ((0:Nat)))).map jh)),(10,.pv (.int .i64 (0:Nat))),(71,.any),(75,.any)],[⟨false,lK a⟩,⟨false,lK b⟩],[],none⟩) :
  den env IJ st=ab4 78 o c v (ext (mk2 a b v) (eX a v)) (wQ (mk2 a b v) (eX a v)).length [⟨false,lK a⟩,⟨false,lK b⟩]:=by
 unfold IJ
 refine bH (env:=env) (nb:=2) (eX a v) (fun i=>⟨sl 78 [(2,.aQ 0 0),(3,.aQ 1 0),(6,.row 1 (o.map lM)),(7,.pv (.int .i64 ((c+(wQ (mk2 a b v) (i)).length:Nat):Int))),(8,.pv (.int .i64 v)),(9,.row 2 ((exts (wQ (mk2 a b v) (i))).map jh)),(10,.pv (.int .i64 i)),(71,.any),(75,.any)],[⟨false,lK a⟩,⟨false,lK b⟩],[],none⟩) (fun i=>ab4 78 o c v (ext (mk2 a b v) (eX a v)) (wQ (mk2 a b v) (eX a v)).length [⟨false,lK a⟩,⟨false,lK b⟩]) h (fun _=>rfl) (fun _=>by simp only [aO,bJ,Nat.reduceMul,Nat.reduceBEq,Nat.reduceLT,Nat.reduceLeDiff,Nat.reduceAdd,decide_true,Bool.and_self,Bool.true_and]) ?_ ?_
 ·intro i rb hi ih
  have hi1:=bD hi (by unfold lim;omega)
  have eV:∀ v:List fV,cO v=.list 8 (v.map lJ):=fun _=>rfl
  have hg:a.img.getD v []=a.img[v]:=by rw [List.getD_eq_getElem?_getD,List.getElem?_eq_getElem hv];rfl
  have hL:eX a v=a.img[v].length:=by unfold eX;rw [hg]
  have hx:(a.img.map cO)[v]?=some (cO a.img[v]):=by rw [List.getElem?_map,List.getElem?_eq_getElem hv];rfl
  have F1:((i:Int)<(a.img[v].length:Int))=True:=eq_true (by omega)
  have P4:∀ a b c d:PV,part [a,b,c,d] 0 (some 4)=some (.agg [a,b,c,d]):=fun _ _ _ _=>rfl
  have e1:=ac3 (k:=i) ha hb
  have hlen:=Rk (mk2 a b v) i
  rw [eV] at hx
  rw [dQ,dQ] at e1
  cases cm:mk2 a b v i with
  |false =>
   rw [cm] at e1
   have hs:wQ (mk2 a b v) (i+1)=wQ (mk2 a b v) i:=by rw [MX,if_neg (by rw [cm];decide)]
   rw [hs] at ih
   simp only [uV,F1,hx,e1,P4,dh,ah hv,List.length_map,aA,Nat.reduceMul,Nat.reduceBEq,Nat.reduceLT,Nat.reduceLeDiff,reduceCtorEq,Nat.reduceEqDiff,Nat.reduceAdd,Nat.beq]
   rw [ih _ (by simp only [hi1,dh,aA,Nat.reduceMul,Nat.reduceBEq,Nat.reduceLT,Nat.reduceLeDiff,reduceCtorEq,Nat.reduceEqDiff,Nat.reduceAdd,Nat.beq]<;>rfl)]
   all_goals rfl
  |true =>
   rw [cm] at e1
   have hs:wQ (mk2 a b v) (i+1)=wQ (mk2 a b v) i++[i]:=by rw [MX,if_pos cm]
   have hw:IntKind.i64.wrap (((c+(wQ (mk2 a b v) i).length:Nat):Int)+1)=((c+(wQ (mk2 a b v) i++[i]).length:Nat):Int):=by
    rw [bT (by omega),List.length_append]
    simp only [List.length_singleton]
    omega
   have hlim:lim=1073741824:=rfl
   rw [hs] at ih
   rcases jM (wQ (mk2 a b v) i) with h0|⟨p,j,h0⟩
   ·have e0:exts (wQ (mk2 a b v) i)=[]:=by rw [h0];rfl
    have hE:(exts (wQ (mk2 a b v) i++[i])).map jh=[.agg [.int .i64 i,.int .i64 1]]:=by rw [l7,e0];rfl
    rw [hE] at ih
    have F2:(((0:Nat):Int) > 0)=False:=eq_false (by omega)
    have F3:(0+1≤lim)=True:=eq_true (by omega)
    simp only [uV,F1,F2,F3,hx,e1,e0,hw,P4,dh,ah hv,List.length_map,List.map_nil,List.length_nil,aA,Nat.reduceMul,Nat.reduceBEq,Nat.reduceLT,Nat.reduceLeDiff,reduceCtorEq,Nat.reduceEqDiff,Nat.reduceAdd,Nat.beq]
    rw [ih _ (by simp only [hi1,dh,aA,Nat.reduceMul,Nat.reduceBEq,Nat.reduceLT,Nat.reduceLeDiff,reduceCtorEq,Nat.reduceEqDiff,Nat.reduceAdd,Nat.beq]<;>rfl)]
    all_goals rfl
   ·obtain ⟨pre,⟨s,q⟩,e0,h1,h2,h3,h4⟩:=Fj _ p rfl j
    rw [← h0] at e0
    have hji:j<i:=aeN (p:=mk2 a b v) (show j∈wQ (mk2 a b v) i by rw [h0];simp)
    have hpl:p.length+1≤i:=by rw [h0] at hlen;simpa using hlen
    simp only at h1 h2 h3
    have F2:(((pre.length+1:Nat):Int) > 0)=True:=eq_true (by omega)
    have F3:=Fp (n:=pre.length) (by omega)
    have F4:IntKind.i64.wrap (s+q)=s+q:=bT (by omega)
    have F5:IntKind.i64.wrap (q+1)=q+1:=bT (by omega)
    have F6:(pre.length+1+1≤lim)=True:=eq_true (by omega)
    have F7:index (.int .i64 (pre.length:Int)) (pre.length+1)=some pre.length:=ah (by omega)
    by_cases c7:s+q=(i:Int)
    ·have hE:(exts (wQ (mk2 a b v) i++[i])).map jh=pre.map jh++[.agg [.int .i64 s,.int .i64 (q+1)]]:=by rw [l7,e0,iL,if_pos c7,List.map_append];rfl
     rw [hE] at ih
     have G:(s+q==(i:Int))=true:=by simpa using c7
     simp only [uV,F1,F2,F3,F4,F5,F6,F7,G,hx,e1,e0,hw,P4,dh,jh,ah hv,List.length_map,List.map_append,List.map_cons,List.map_nil,aA,Nat.reduceMul,Nat.reduceBEq,Nat.reduceLT,Nat.reduceLeDiff,reduceCtorEq,Nat.reduceEqDiff,Nat.reduceAdd,Nat.beq]
     rw [ih _ (by simp only [hi1,dh,jh,aA,Nat.reduceMul,Nat.reduceBEq,Nat.reduceLT,Nat.reduceLeDiff,reduceCtorEq,Nat.reduceEqDiff,Nat.reduceAdd,Nat.beq]<;>rfl)]
     all_goals rfl
    ·have hE:(exts (wQ (mk2 a b v) i++[i])).map jh=pre.map jh++[.agg [.int .i64 s,.int .i64 q]]++[.agg [.int .i64 i,.int .i64 1]]:=by rw [l7,e0,iL,if_neg c7,List.map_append,List.map_append];rfl
     rw [hE] at ih
     have G:(s+q==(i:Int))=false:=by simpa using c7
     simp only [uV,F1,F2,F3,F4,F5,F6,F7,G,hx,e1,e0,hw,P4,dh,jh,ah hv,List.length_map,List.map_append,List.map_cons,List.map_nil,aA,Nat.reduceMul,Nat.reduceBEq,Nat.reduceLT,Nat.reduceLeDiff,reduceCtorEq,Nat.reduceEqDiff,Nat.reduceAdd,Nat.beq]
     rw [ih _ (by simp only [hi1,dh,jh,aA,Nat.reduceMul,Nat.reduceBEq,Nat.reduceLT,Nat.reduceLeDiff,reduceCtorEq,Nat.reduceEqDiff,Nat.reduceAdd,Nat.beq]<;>rfl)]
     all_goals rfl
 ·intro rb
  have eV:∀ v:List fV,cO v=.list 8 (v.map lJ):=fun _=>rfl
  have hg:a.img.getD v []=a.img[v]:=by rw [List.getD_eq_getElem?_getD,List.getElem?_eq_getElem hv];rfl
  have hL:eX a v=a.img[v].length:=by unfold eX;rw [hg]
  have hx:(a.img.map cO)[v]?=some (cO a.img[v]):=by rw [List.getElem?_map,List.getElem?_eq_getElem hv];rfl
  have F1:((eX a v:Int)<(a.img[v].length:Int))=False:=eq_false (by omega)
  rw [eV] at hx
  unfold ab4 ext wQ
  simp only [uV,F1,hx,dh,ah hv,List.length_map,aA,Nat.reduceMul,Nat.reduceBEq,Nat.reduceLT,Nat.reduceLeDiff,reduceCtorEq,Nat.reduceEqDiff,Nat.reduceAdd,Nat.beq]
set_option maxRecDepth 20000 in
theorem Y9 {a b:Pt} (ha:a.dirty.length=a.img.length) (hb:a.img.length≤b.dirty.length) (hl:a.img.length≤8) (hn:∀ i,eX a i≤4096) {st:St} (h:st.head [2,3,6,7,8,71,75] st.boxes.length=some ⟨sl 78 [(2,.aQ 0 0),(3,.aQ 1 0),(6,.row 1 ((uY a b ((0:Nat))).map lM)),(7,.pv (.int .i64 (qo a b ((0:Nat))))),(8,.pv (.int .i64 (0:Nat))),(71,.any),(75,.any)],[⟨false,lK a⟩,⟨false,lK b⟩],[],none⟩) :
  den env IL st=some (.normal,⟨sl 78 [(4,.any),(5,.any),(6,.row 1 ((uY a b a.img.length).map lM)),(7,.pv (.int .i64 (qo a b a.img.length)))],[⟨false,lK a⟩,⟨false,lK b⟩],[],none⟩):=by
 unfold IL
 refine bH (env:=env) (nb:=2) (a.img.length) (fun i=>⟨sl 78 [(2,.aQ 0 0),(3,.aQ 1 0),(6,.row 1 ((uY a b (i)).map lM)),(7,.pv (.int .i64 (qo a b (i)))),(8,.pv (.int .i64 i)),(71,.any),(75,.any)],[⟨false,lK a⟩,⟨false,lK b⟩],[],none⟩) (fun i=>some (.normal,⟨sl 78 [(4,.any),(5,.any),(6,.row 1 ((uY a b a.img.length).map lM)),(7,.pv (.int .i64 (qo a b a.img.length)))],[⟨false,lK a⟩,⟨false,lK b⟩],[],none⟩)) h (fun _=>rfl) (fun _=>by simp only [aO,bJ,Nat.reduceMul,Nat.reduceBEq,Nat.reduceLT,Nat.reduceLeDiff,Nat.reduceAdd,decide_true,Bool.and_self,Bool.true_and]) ?_ ?_
 ·intro i rb hi ih
  have hi1:=bD hi (by unfold lim;omega)
  have F1:((i:Int)<(a.img.length:Int))=True:=eq_true (by omega)
  have hC:=Js b hn i
  have hs:(uY a b (i+1)).map lM=(uY a b i).map lM++[.list 2 ((ext (mk2 a b i) (eX a i)).map jh)]:=by rw [Dn,List.map_append];rfl
  have hs2:qo a b (i+1)=qo a b i+(wQ (mk2 a b i) (eX a i)).length:=rfl
  have F3:((uY a b i).length+1≤lim)=True:=eq_true (by rw [rO];unfold lim;omega)
  rw [hs,hs2] at ih
  simp only [IK,F1,dh,List.length_map,aA,Nat.reduceMul,Nat.reduceBEq,Nat.reduceLT,Nat.reduceLeDiff,reduceCtorEq,Nat.reduceEqDiff,Nat.reduceAdd,Nat.beq]
  rw [aeO (a:=a) (b:=b) (v:=i) (c:=qo a b i) (o:=uY a b i) (by omega) (by omega) hi (by omega) (hn i)]
  rotate_left
  ·rw [dh,dh]
   simp only [aO,bJ,Nat.reduceMul,Nat.reduceBEq,Nat.reduceLT,Nat.reduceLeDiff,Nat.reduceAdd,decide_true,Bool.and_self,Bool.true_and]<;>rfl
  ·unfold ab4
   simp only [F3,dh,List.length_map,aA,Nat.reduceMul,Nat.reduceBEq,Nat.reduceLT,Nat.reduceLeDiff,reduceCtorEq,Nat.reduceEqDiff,Nat.reduceAdd,Nat.beq]
   rw [ih _ (by simp only [hi1,dh,aA,Nat.reduceMul,Nat.reduceBEq,Nat.reduceLT,Nat.reduceLeDiff,reduceCtorEq,Nat.reduceEqDiff,Nat.reduceAdd,Nat.beq]<;>rfl)]
   all_goals rfl
 ·intro rb
  simp only [IK,Int.lt_irrefl,dh,List.length_map,aA,Nat.reduceMul,Nat.reduceBEq,Nat.reduceLT,Nat.reduceLeDiff,reduceCtorEq,Nat.reduceEqDiff,Nat.reduceAdd,Nat.beq]
theorem ahm {a b:Pt} (ha:a.dirty.length=a.img.length) (hb:a.img.length≤b.dirty.length) (hl:a.img.length≤8) (hn:∀ i,eX a i≤4096):cal env 47 [dX a,dX b]=some [(.list 1 ((uY a b a.img.length).map lM),true),(.int .i64 (qo a b a.img.length),false)]:=by
 rw [dQ,dQ]
 rw [au agx rfl];simp only [X0,aO,Nat.reduceBEq,Nat.reduceLeDiff,Nat.reduceAdd,List.length_cons,List.length_nil]
 simp only [List.length_map,aA,Nat.reduceMul,Nat.reduceBEq,Nat.reduceLT,Nat.reduceLeDiff,reduceCtorEq,Nat.reduceEqDiff,Nat.reduceAdd,Nat.beq]
 rw [Y9 (a:=a) (b:=b) ha hb hl hn]
 rotate_left
 ·rw [dh,dh]
  simp only [aO,bJ,Nat.reduceMul,Nat.reduceBEq,Nat.reduceLT,Nat.reduceLeDiff,Nat.reduceAdd,decide_true,Bool.and_self,Bool.true_and]<;>rfl
 ·simp only [aA,Nat.reduceMul,Nat.reduceBEq,Nat.reduceLT,Nat.reduceLeDiff,reduceCtorEq,Nat.reduceEqDiff,Nat.reduceAdd,Nat.beq]
theorem ahn {a b:Pt} (ha:a.dirty.length=a.img.length) (hb:a.img.length≤b.dirty.length) (hl:a.img.length≤8) (hn:∀ i,eX a i≤4096):cal env 34 [dX a,dX b]=some [(.int .i64 (qo a b a.img.length),false)]:=by
 have e1:=ahm ha hb hl hn
 have P4:∀ a b c d:PV,part [a,b,c,d] 0 (some 4)=some (.agg [a,b,c,d]):=fun _ _ _ _=>rfl
 rw [dQ,dQ] at e1 ⊢
 rw [au agt rfl];simp only [XV,aO,Nat.reduceBEq,Nat.reduceLeDiff,Nat.reduceAdd,List.length_cons,List.length_nil]
 simp only [e1,P4,List.length_map,aA,Nat.reduceMul,Nat.reduceBEq,Nat.reduceLT,Nat.reduceLeDiff,reduceCtorEq,Nat.reduceEqDiff,Nat.reduceAdd,Nat.beq]
end Go.Proofs.YtaaokejjmdbfaaaDoor.V

namespace Go.Proofs.YtaaokejjmdbfaaaDoor.V
end Go.Proofs.YtaaokejjmdbfaaaDoor.V

namespace Go.Proofs.YtaaokejjmdbfaaaDoor.V
theorem aeP {a b:Bm} (ha:okB a=true) (hb:okB b=true) (hs:a.size=b.size):mZ a b=0∧okB (uh Qd a b)=true∧(uh Qd a b).size=a.size∧∀ s:Nat,(s:Int)<a.size→bit (uh Qd a b).ws s=(bit a.ws s || bit b.ws s):=by
 have hE:mZ a b=0:=by unfold mZ;rw [if_neg (by rw [ha];decide),if_neg (by rw [hb];decide),if_neg (by simpa using hs)]
 obtain ⟨_,_,_,hl⟩:=both_ok hE
 have hO:uh Qd a b=⟨a.size,lG Qd a.ws b.ws⟩:=by unfold uh;rw [if_pos hE]
 have hz:(lG Qd a.ws b.ws).length=a.ws.length:=by simp [lG,hl]
 have hbit:∀ {i:Nat},i<64 * a.ws.length→bit (lG Qd a.ws b.ws) i=(bit a.ws i || bit b.ws i):=fun hi=>abS (g:=fun x y=>x || y) (fun x y j _=>BitVec.getLsbD_or) hl hi
 have h1:=kF ha
 rw [hO]
 refine ⟨hE,kJ.2 ⟨⟨h1.1,h1.2.1,?_⟩,fun i hi=>?_⟩,rfl,fun s hlt=>hbit (by omega)⟩
 ·show ((lG Qd a.ws b.ws).length:Int)=_
  rw [hz];exact (kJ.1 ha).1.2.2
 ·have hi:a.size≤(i:Int):=hi
  by_cases c:i<64 * a.ws.length
  ·show bit (lG Qd a.ws b.ws) i=false
   rw [hbit c,(kJ.1 ha).2 i hi,(kJ.1 hb).2 i (by omega)]
   rfl
  ·exact Au (by show 64 * (lG Qd a.ws b.ws).length≤i;rw [hz];omega)
theorem extC {p q:Nat→Bool} {m:Nat} (h:∀ t,t<m→p t=q t):ext p m=ext q m:=by
 unfold ext
 congr 1
 apply List.filter_congr
 intro t ht
 exact h t (List.mem_range.1 ht)
theorem MZ:∀ {bs:List Bm} {vs:zZ},xY bs vs=0→∀ i (h1:i<bs.length) (h2:i<vs.length),okB bs[i]=true∧bs[i].size=(vs[i].length:Int)
 |[],_,_,i,h1,_=>absurd h1 (Nat.not_lt_zero _)
 |_ :: _,[],_,i,_,h2=>absurd h2 (Nat.not_lt_zero _)
 |b :: bs,v :: vs,h,i,h1,h2=>by
  unfold xY at h
  split at h
  ·rename_i c;exact absurd h c
  ·rename_i c
   split at h
   ·cases h
   ·rename_i c2
    match i with
    |0 =>
     refine ⟨?_,by simpa using c2⟩
     cases hb:okB b with
     |true=>exact hb
     |false=>unfold zK at c;rw [hb] at c;exact absurd (by decide) c
    |i+1=>exact MZ h i (by simpa using h1) (by simpa using h2)
theorem jT {p:Pt} (h:lH p=0):vO p.lin=true∧iU p.img=0∧p.dirty.length=p.img.length∧xY p.dirty p.img=0:=by
 unfold lH at h
 split at h
 ·cases h
 ·split at h
  ·cases h
  ·rename_i c
   split at h
   ·rename_i c2;exact absurd h c2
   ·rename_i c2
    split at h
    ·cases h
    ·rename_i c3
     exact ⟨by simpa using c,by simpa using c2,by simpa using c3,h⟩
theorem jo {im:zZ} (h:iU im=0):im.length≤8∧∀ v∈im,v.length≤4096:=by
 unfold iU jE at h
 split at h
 ·cases h
 ·rename_i c
  split at h
  ·cases h
  ·rename_i c2
   unfold aC at c c2
   rw [List.length_map] at c
   refine ⟨by omega,fun v hv=>?_⟩
   simp only [Bool.not_eq_true,List.any_eq_false,List.mem_map,Bool.or_eq_true,decide_eq_true_eq,not_or] at c2
   have:=(c2 _ ⟨v,hv,rfl⟩).2
   omega
theorem Rl {p:Pt} (h:lH p=0) (i:Nat):eX p i≤4096:=by
 obtain ⟨_,h2,_,_⟩:=jT h
 unfold eX
 rw [List.getD_eq_getElem?_getD]
 cases hg:p.img[i]? with
 |none=>exact Nat.zero_le _
 |some v=>exact (jo h2).2 v (List.mem_of_getElem? hg)
theorem FH {a b:Pt} (h:aC a.img=aC b.img) (i:Nat):eX a i=eX b i:=by
 have e:∀ p:Pt,((aC p.img).getD i 0)=(eX p i:Int):=fun p=>by
  unfold aC eX
  rw [List.getD_eq_getElem?_getD,List.getD_eq_getElem?_getD,List.getElem?_map]
  cases p.img[i]?<;>rfl
 have:=e a
 rw [h,e b] at this
 omega
theorem Dp {a b:Pt} (h:aC a.img=aC b.img):a.img.length=b.img.length:=by
 have:=congrArg List.length h
 simpa [aC] using this
theorem Za {p:Pt} (h:lH p=0) {v:Nat} (hv:v<p.img.length):okB (dir p v)=true∧(dir p v).size=(eX p v:Int):=by
 obtain ⟨_,_,h3,h4⟩:=jT h
 have:=MZ h4 v (by omega) hv
 unfold dir eX
 rw [List.getD_eq_getElem?_getD,List.getElem?_eq_getElem (by omega),List.getD_eq_getElem?_getD,List.getElem?_eq_getElem hv]
 exact this
theorem Rn {b:Bm} (h:okB b=true) {k:Nat} (hk:(k:Int)<b.size):Qg b (k:Int)=bit b.ws k:=by
 unfold Qg
 rw [h,Bool.true_and,decide_eq_true (by omega),Bool.true_and,decide_eq_true hk,Bool.true_and,Int.toNat_natCast]
theorem aeQ {a b:Pt} (ha:lH a=0) (hb:lH b=0) (hs:aC a.img=aC b.img) {v:Nat} (hv:v<a.img.length):mZ (dir a v) (dir b v)=0∧bmX (uh Qd (dir a v) (dir b v))=ext (mk2 a b v) (eX a v):=by
 have hv2:v<b.img.length:=by rw [← Dp hs];exact hv
 obtain ⟨a1,a2⟩:=Za ha hv
 obtain ⟨b1,b2⟩:=Za hb hv2
 have hL:=FH hs v
 obtain ⟨g1,g2,g3,g4⟩:=aeP a1 b1 (by rw [a2,b2,hL])
 refine ⟨g1,?_⟩
 unfold bmX P8
 rw [if_pos g2,g3,a2,Int.toNat_natCast]
 apply extC
 intro t ht
 rw [g4 t (by omega)]
 unfold mk2
 rw [Rn a1 (by omega),Rn b1 (by omega)]
end Go.Proofs.YtaaokejjmdbfaaaDoor.V

namespace Go.Proofs.YtaaokejjmdbfaaaDoor.V
def dN (a:Pt) (v:Nat):List fV:=a.img.getD v []
def FI (v:Int) (A B:List fV) (l:List o7):List Run:=l.flatMap fun e=>wP v A B e.start.toNat e.count.toNat
def Qh (a b:Pt) (n:Nat):List Run:=(List.range n).flatMap fun (v:Nat)=>FI (v:Int) (dN a v) (dN b v) (ext (mk2 a b v) (eX a v))
theorem Ro (v:Int) (A B:List fV):FI v A B []=[]:=rfl
theorem Zb {v:Int} {A B:List fV} {l:List o7} {i:Nat} (h:i<l.length):FI v A B (l.take (i+1))=FI v A B (l.take i)++wP v A B l[i].start.toNat l[i].count.toNat:=by
 unfold FI
 rw [List.take_add_one,List.getElem?_eq_getElem h,Option.toList_some,List.flatMap_append,List.flatMap_cons,List.flatMap_nil,List.append_nil]
theorem Dq (a b:Pt) (n:Nat):Qh a b (n+1)=Qh a b n++FI n (dN a n) (dN b n) (ext (mk2 a b n) (eX a n)):=by
 unfold Qh
 rw [List.range_succ,List.flatMap_append,List.flatMap_cons,List.flatMap_nil,List.append_nil]
theorem Jt {v:Int} {A B:List fV} {N:Nat}:∀ {l:List o7},(∀ e∈l,e.count.toNat≤N)→(FI v A B l).length≤l.length * N
 |[],_=>Nat.zero_le _
 |e :: l,h=>by
  have h1:=Jt (v:=v) (A:=A) (B:=B) (l:=l) (fun x hx=>h x (List.mem_cons_of_mem _ hx))
  have h2:=(yA v A B e.start.toNat e.count.toNat).2
  have h3:=h e List.mem_cons_self
  unfold FI at *
  rw [List.flatMap_cons,List.length_append,List.length_cons,Nat.succ_mul]
  omega
def rowT (base:List Run) (v:Int) (A B:List fV) (l:List o7) (i:Nat):List PV:=((base++FI v A B (l.take i)).map toW).map y9
theorem U3 (base:List Run) (v:Int) (A B:List fV) (l:List o7):rowT base v A B l 0=(base.map toW).map y9:=by
 unfold rowT
 rw [List.take_zero,Ro,List.append_nil]
theorem Zc (base:List Run) (v:Int) (A B:List fV) (l:List o7):rowT base v A B l l.length=((base++FI v A B l).map toW).map y9:=by
 unfold rowT
 rw [List.take_length]
theorem U4 {base:List Run} {v:Int} {A B:List fV} {l:List o7} {i:Nat} (h:i<l.length):rowT base v A B l i++((wP v A B l[i].start.toNat l[i].count.toNat).map toW).map y9=rowT base v A B l (i+1):=by
 unfold rowT
 rw [Zb h,← List.append_assoc,List.map_append (l₁:=base++_),List.map_append (l₁:=(base++_).map toW)]
theorem Na {base:List Run} {v:Int} {A B:List fV} {l:List o7} {i N:Nat} (h:∀ e∈l,e.count.toNat≤N):(rowT base v A B l i).length≤base.length+l.length * N:=by
 unfold rowT
 have h1:=Jt (v:=v) (A:=A) (B:=B) (l:=l.take i) (N:=N) (fun e he=>h e (List.mem_of_mem_take he))
 have h2:(l.take i).length * N≤l.length * N:=Nat.mul_le_mul_right _ (by rw [List.length_take];omega)
 rw [List.length_map,List.length_map,List.length_append]
 omega
theorem Qi (l:List o7) (i:Nat):(vN l i).length≤l.length+1:=by
 rcases jM l with rfl|⟨p,x,rfl⟩
 ·simp [vN]
 ·rw [iL];split<;>simp
theorem x9 (p:Nat→Bool):∀ n,(ext p n).length≤n
 |0=>Nat.le_refl _
 |n+1=>by
  rw [uf]
  have:=x9 p n
  have:=Qi (ext p n) n
  split<;>omega
theorem yg (p:Nat→Bool) (n:Nat):(∀ x∈ext p n,0≤x.start∧1≤x.count∧x.start+x.count≤(n:Int)):=by
 induction n with
 |zero=>intro x hx;cases hx
 |succ n ih =>
  rw [uf]
  split
  ·rcases jM (ext p n) with e|⟨pre,y,e⟩
   ·rw [e]
    intro x hx
    have:vN [] n=[⟨(n:Int),1⟩]:=rfl
    rw [this] at hx
    simp only [List.mem_singleton] at hx
    subst hx
    simp only;omega
   ·rw [e] at ih ⊢
    intro x hx
    rw [iL] at hx
    split at hx
    ·rcases List.mem_append.1 hx with h|h
     ·have:=ih x (by simp [h]);omega
     ·simp only [List.mem_singleton] at h
      have:=ih y (by simp)
      subst h;simp only;omega
    ·rcases List.mem_append.1 hx with h|h
     ·have:=ih x h;omega
     ·simp only [List.mem_singleton] at h
      subst h;simp only;omega
  ·intro x hx;have:=ih x hx;omega
end Go.Proofs.YtaaokejjmdbfaaaDoor.V

namespace Go.Proofs.YtaaokejjmdbfaaaDoor.V
def inE (e:o7) (s:Nat):Bool:=decide (0<e.count)&&(decide (e.start≤(s:Int))&&decide ((s:Int)<e.start+e.count))
def inS (l:List o7) (s:Nat):Bool:=l.any fun e=>inE e s
end Go.Proofs.YtaaokejjmdbfaaaDoor.V

namespace Go.Proofs.YtaaokejjmdbfaaaDoor.V
theorem yh (v:Int) (A B:List fV) (l:List o7) (e:o7):FI v A B (l++[e])=FI v A B l++wP v A B e.start.toNat e.count.toNat:=by
 unfold FI
 rw [List.flatMap_append,List.flatMap_cons,List.flatMap_nil,List.append_nil]
end Go.Proofs.YtaaokejjmdbfaaaDoor.V

namespace Go.Proofs.YtaaokejjmdbfaaaDoor
open Go.RowKit V
end Go.Proofs.YtaaokejjmdbfaaaDoor

namespace Go.Proofs.YtaaokejjmdbfaaaDoor.V
theorem qF {a b:zZ} (h:aC a=aC b):a.length=b.length∧∀ i (h1:i<a.length) (h2:i<b.length),a[i].length=b[i].length:=by
 have hl:a.length=b.length:=by simpa [aC] using congrArg List.length h
 refine ⟨hl,fun i h1 h2=>?_⟩
 have:=congrArg (fun l=>l[i]?) h
 simp only [aC,List.getElem?_map,List.getElem?_eq_getElem h1,List.getElem?_eq_getElem h2,Option.map_some,Option.some.injEq] at this
 omega
end Go.Proofs.YtaaokejjmdbfaaaDoor.V

namespace Go.Proofs.YtaaokejjmdbfaaaDoor.V
end Go.Proofs.YtaaokejjmdbfaaaDoor.V

namespace Go.Proofs.YtaaokejjmdbfaaaDoor.V
end Go.Proofs.YtaaokejjmdbfaaaDoor.V

namespace Go.Proofs.YtaaokejjmdbfaaaDoor.V
theorem Nb {a b:zZ} (h:JH a=JH b) (v:Nat):(a.getD v []).length=(b.getD v []).length:=by
 obtain ⟨h1,h2⟩:=qF (a:=a) (b:=b) h
 rw [List.getD_eq_getElem?_getD,List.getD_eq_getElem?_getD]
 by_cases hv:v<a.length
 ·rw [List.getElem?_eq_getElem hv,List.getElem?_eq_getElem (by omega:v<b.length)]
  exact h2 v hv (by omega)
 ·rw [List.getElem?_eq_none (by omega),List.getElem?_eq_none (by omega)]
end Go.Proofs.YtaaokejjmdbfaaaDoor.V

namespace Go.Proofs.YtaaokejjmdbfaaaDoor.V
theorem ab5 {a b:Pt} {n:Nat} {x:Run}:x∈Qh a b n ↔ ∃ v,v<n∧x∈FI v (dN a v) (dN b v) (ext (mk2 a b v) (eX a v)):=by
 unfold Qh
 rw [List.mem_flatMap]
 exact ⟨fun ⟨v,h1,h2⟩=>⟨v,List.mem_range.1 h1,h2⟩,fun ⟨v,h1,h2⟩=>⟨v,List.mem_range.2 h1,h2⟩⟩
end Go.Proofs.YtaaokejjmdbfaaaDoor.V

namespace Go.Proofs.YtaaokejjmdbfaaaDoor.V
def Zd (l:List o7):Prop:=l.Pairwise fun x y=>x.start+x.count<y.start
theorem FK (p:Nat→Bool):∀ n,Zd (ext p n)
 |0=>List.Pairwise.nil
 |n+1=>by
  have ih:=FK p n
  have hin:=yg p n
  rw [uf]
  split
  ·rcases jM (ext p n) with e|⟨pre,y,e⟩
   ·rw [e]
    exact List.pairwise_singleton _ _
   ·rw [e] at ih hin ⊢
    unfold Zd at ih ⊢
    rw [iL]
    obtain ⟨y1,y2,y3⟩:=hin y (by simp)
    obtain ⟨i1,i2,i3⟩:=List.pairwise_append.1 ih
    split
    ·refine List.pairwise_append.2 ⟨i1,List.pairwise_singleton _ _,fun a ha b hb=>?_⟩
     rw [List.mem_singleton.1 hb]
     exact i3 a ha y (by simp)
    ·rename_i c
     refine List.pairwise_append.2 ⟨ih,List.pairwise_singleton _ _,fun a ha b hb=>?_⟩
     rw [List.mem_singleton.1 hb]
     rcases List.mem_append.1 ha with ha|ha
     ·have:=i3 a ha y (by simp)
      show a.start+a.count<(n:Int)
      omega
     ·rw [List.mem_singleton.1 ha]
      show y.start+y.count<(n:Int)
      omega
  ·exact ih
def lI (l:List o7):Int:=(l.map fun x=>x.count).sum
theorem uZ (l:List o7) (x:o7):lI (l++[x])=lI l+x.count:=by simp [lI]
theorem Nc (p:Nat→Bool):∀ n,lI (ext p n)=(((List.range n).filter p).length:Int)
 |0=>rfl
 |n+1=>by
  have ih:=Nc p n
  rw [uf,List.range_succ,List.filter_append,List.length_append]
  cases h:p n with
  |false=>rw [List.filter_cons_of_neg (by simp [h])];simpa using ih
  |true =>
   rw [List.filter_cons_of_pos h,List.filter_nil,if_pos rfl]
   have:lI (vN (ext p n) n)=lI (ext p n)+1:=by
    rcases jM (ext p n) with e|⟨pre,y,e⟩
    ·rw [e];rfl
    ·rw [e,iL]
     split
     ·rw [uZ,uZ]
      show lI pre+(y.count+1)=_
      omega
     ·rw [uZ]
   rw [this,ih]
   simp
end Go.Proofs.YtaaokejjmdbfaaaDoor.V

namespace Go.Proofs.YtaaokejjmdbfaaaDoor.V
end Go.Proofs.YtaaokejjmdbfaaaDoor.V

namespace Go.Proofs.YtaaokejjmdbfaaaDoor.V
end Go.Proofs.YtaaokejjmdbfaaaDoor.V

namespace Go.Proofs.YtaaokejjmdbfaaaDoor.V
end Go.Proofs.YtaaokejjmdbfaaaDoor.V

namespace Go.Proofs.YtaaokejjmdbfaaaDoor.V
end Go.Proofs.YtaaokejjmdbfaaaDoor.V

namespace Go.Proofs.YtaaokejjmdbfaaaDoor.V
end Go.Proofs.YtaaokejjmdbfaaaDoor.V

namespace Go.Proofs.YtaaokejjmdbfaaaDoor.V
end Go.Proofs.YtaaokejjmdbfaaaDoor.V

namespace Go.Proofs.YtaaokejjmdbfaaaDoor.V
end Go.Proofs.YtaaokejjmdbfaaaDoor.V

namespace Go.Proofs.YtaaokejjmdbfaaaDoor.V
end Go.Proofs.YtaaokejjmdbfaaaDoor.V

namespace Go.Proofs.YtaaokejjmdbfaaaDoor.V
def good (base:zZ) (l:List Wrt):Bool:=decide (apE base l=0)&&decide (l.length≤20)
end Go.Proofs.YtaaokejjmdbfaaaDoor.V

namespace Go.Proofs.YtaaokejjmdbfaaaDoor.V
end Go.Proofs.YtaaokejjmdbfaaaDoor.V

namespace Go.Proofs.YtaaokejjmdbfaaaDoor.V
def uo (a b:Pt) (n i:Nat):List PV:=(uY a b i).map lM++List.replicate (n - i) (PV.list 0 [])
theorem Ze {a b:Pt} {n i:Nat} (h:i≤n):(uo a b n i).length=n:=by
 unfold uo
 rw [List.length_append,List.length_map,rO,List.length_replicate]
 omega
theorem Zf {a b:Pt} {n i:Nat} (h:i<n):(uo a b n i)[i]?=some (PV.list 0 []):=by
 unfold uo
 have hl:((uY a b i).map lM).length=i:=by rw [List.length_map,rO]
 rw [List.getElem?_append_right (by omega),hl,Nat.sub_self,List.getElem?_replicate,if_pos (by omega)]
theorem Zg {a b:Pt} {n i:Nat} (h:i<n):(uo a b n i).set i (PV.list 2 ((ext (mk2 a b i) (eX a i)).map jh))=uo a b n (i+1):=by
 unfold uo
 have hl:((uY a b i).map lM).length=i:=by rw [List.length_map,rO]
 rw [List.set_append_right _ _ (by omega),hl,Nat.sub_self,show n - i=(n - (i+1))+1 by omega,List.replicate_succ,List.set_cons_zero,Dn,List.map_append,List.append_assoc]
 rfl
theorem U5 (a b:Pt) (n:Nat):uo a b n 0=List.replicate n (PV.list 0 []):=by
 unfold uo uY
 simp
theorem Zh (a b:Pt) (n:Nat):uo a b n n=(uY a b n).map lM:=by
 unfold uo
 rw [Nat.sub_self]
 simp
set_option maxRecDepth 20000 in
theorem aeR {a b:Pt} (ha:lH a=0) (hb:lH b=0) (hs:aC a.img=aC b.img) (hl:a.img.length≤lim) {st:St} (h:st.head [2,3,5,12,14,15] st.boxes.length=some ⟨sl 39 [(2,.aQ 0 0),(3,.aQ 1 0),(5,.row 1 (uo a b a.img.length ((0:Nat)))),(12,.any),(14,.pv (.int .i64 a.img.length)),(15,.pv (.int .i64 (0:Nat)))],[⟨false,lK a⟩,⟨false,lK b⟩],[],none⟩) :
  den env IG st=some (.normal,⟨sl 39 [(4,.any),(5,.row 1 (uo a b a.img.length a.img.length))],[⟨false,lK a⟩,⟨false,lK b⟩],[],none⟩):=by
 unfold IG
 refine bH (env:=env) (nb:=2) (a.img.length) (fun i=>⟨sl 39 [(2,.aQ 0 0),(3,.aQ 1 0),(5,.row 1 (uo a b a.img.length (i))),(12,.any),(14,.pv (.int .i64 a.img.length)),(15,.pv (.int .i64 i))],[⟨false,lK a⟩,⟨false,lK b⟩],[],none⟩) (fun i=>some (.normal,⟨sl 39 [(4,.any),(5,.row 1 (uo a b a.img.length a.img.length))],[⟨false,lK a⟩,⟨false,lK b⟩],[],none⟩)) h (fun _=>rfl) (fun _=>by simp only [aO,bJ,Nat.reduceMul,Nat.reduceBEq,Nat.reduceLT,Nat.reduceLeDiff,Nat.reduceAdd,decide_true,Bool.and_self,Bool.true_and]) ?_ ?_
 ·intro i rb hi ih
  have hi1:=bD hi hl
  have F1:((i:Int)<(a.img.length:Int))=True:=eq_true (by omega)
  have h1:i<a.dirty.length:=by have:=(jT ha).2.2.1;omega
  have h2:i<b.dirty.length:=by have:=(jT hb).2.2.1;have:=Dp hs;omega
  have P2:∀ a b:PV,part [a,b] 0 (some 2)=some (.agg [a,b]):=fun _ _=>rfl
  have eA:∀ b:Bm,mM b=.agg [.int .i64 b.size,.list 1 (b.ws.map eW)]:=fun _=>rfl
  obtain ⟨m1,m2⟩:=aeQ ha hb hs hi
  have hx:=Jr h1
  have hy:=Jr h2
  have e1:=aha (a:=dir a i) (b:=dir b i)
  have e2:=ahc (b:=uh Qd (dir a i) (dir b i))
  rw [m1] at e1
  rw [m2] at e2
  generalize uh Qd (dir a i) (dir b i)=o at *
  rw [eA,eA,eA] at e1
  rw [eA] at e2 hx hy
  have z1:=Ze (a:=a) (b:=b) (n:=a.img.length) (i:=i) (by omega)
  have z2:=Zf (a:=a) (b:=b) hi
  have z3:=Zg (a:=a) (b:=b) hi
  have I1:index (.int .i64 (i:Int)) (uo a b a.img.length i).length=some i:=by rw [z1];exact ah hi
  rw [← z3] at ih
  generalize uo a b a.img.length i=z at *
  generalize (ext (mk2 a b i) (eX a i)).map jh=x at *
  simp only [IE,F1,P2,hx,hy,e1,e2,z2,I1,dh,ah h1,ah h2,List.length_map,aA,Nat.reduceMul,Nat.reduceBEq,Nat.reduceLT,Nat.reduceLeDiff,reduceCtorEq,Nat.reduceEqDiff,Nat.reduceAdd,Nat.beq]
  rw [ih _ (by simp only [hi1,dh,aA,Nat.reduceMul,Nat.reduceBEq,Nat.reduceLT,Nat.reduceLeDiff,reduceCtorEq,Nat.reduceEqDiff,Nat.reduceAdd,Nat.beq]<;>rfl)]
  all_goals rfl
 ·intro rb
  simp only [IE,Int.lt_irrefl,dh,List.length_map,aA,Nat.reduceMul,Nat.reduceBEq,Nat.reduceLT,Nat.reduceLeDiff,reduceCtorEq,Nat.reduceEqDiff,Nat.reduceAdd,Nat.beq]
theorem ac4 {a b:Pt} (ha:lH a=0) (hb:lH b=0) (hs:aC a.img=aC b.img) (hl:a.img.length≤lim):cal env 45 [dX a,dX b]=some [(.list 1 ((uY a b a.img.length).map lM),true)]:=by
 have hd:=(jT ha).2.2.1
 have hlim:lim=1073741824:=rfl
 have K1:(0≤(a.dirty.length:Int))=True:=eq_true (by omega)
 have K2:((a.dirty.length:Int)≤(lim:Int))=True:=eq_true (by omega)
 have K3:((a.dirty.length:Int)≤(a.dirty.length:Int))=True:=eq_true (Int.le_refl _)
 have K4:((a.dirty.length:Int)).toNat=a.dirty.length:=by omega
 rw [dQ,dQ]
 rw [au agw rfl];simp only [XZ,aO,Nat.reduceBEq,Nat.reduceLeDiff,Nat.reduceAdd,List.length_cons,List.length_nil]
 simp only [K1,K2,K3,K4,List.length_map,List.length_replicate,aA,Nat.reduceMul,Nat.reduceBEq,Nat.reduceLT,Nat.reduceLeDiff,reduceCtorEq,Nat.reduceEqDiff,Nat.reduceAdd,Nat.beq]
 rw [aeR (a:=a) (b:=b) ha hb hs hl]
 rotate_left
 ·rw [U5,dh,dh,← hd]
  simp only [aO,bJ,Nat.reduceMul,Nat.reduceBEq,Nat.reduceLT,Nat.reduceLeDiff,Nat.reduceAdd,decide_true,Bool.and_self,Bool.true_and]<;>rfl
 ·rw [Zh]
  simp only [List.take_length,aA,Nat.reduceMul,Nat.reduceBEq,Nat.reduceLT,Nat.reduceLeDiff,reduceCtorEq,Nat.reduceEqDiff,Nat.reduceAdd,Nat.beq]
end Go.Proofs.YtaaokejjmdbfaaaDoor.V

namespace Go.Proofs.YtaaokejjmdbfaaaDoor.V
theorem aeS {v:Int} {A B:List fV} {s m:Nat} (h1:RQ v=true) (h2:s+m≤A.length) (h3:s+m≤B.length) (h4:A.length≤1000000) :
  cal env 64 [.int .i64 v,.list 8 (A.map lJ),.list 8 (B.map lJ),.agg [.int .i64 s,.int .i64 m]]=some [(.list 3 (((wP v A B s m).map toW).map y9),false)] :=
 (Hw agE).trans (VA h1 h2 h3 h4)
theorem Zi {a:Pt} {v:Nat} (h:v<a.img.length):(a.img.map cO)[v]?=some (.list 8 ((dN a v).map lJ)):=by
 rw [List.getElem?_map,List.getElem?_eq_getElem h]
 unfold dN
 rw [List.getD_eq_getElem?_getD,List.getElem?_eq_getElem h];rfl
def aho (N:Nat) (l:List o7):Prop:=l.length≤N∧∀ e∈l,0≤e.start∧1≤e.count∧e.start+e.count≤(N:Int)
set_option maxRecDepth 20000 in
theorem aeT {a b:Pt} {v:Nat} {l:List o7} {base:List Run} {ls:List PV} (hva:v<a.img.length) (hvb:v<b.img.length) (hAB:(dN a v).length=(dN b v).length) (hA:(dN a v).length≤4096) (hl:aho (dN a v).length l) (hbl:base.length+16777216≤lim) (hv8:v≤1000000) {st:St} (h:st.head [9,10,11,12,13,43,44,45,49,50,51,52,70] st.boxes.length=some ⟨sl 74 [(9,.aQ 0 0),(10,.aQ 1 0),(11,.row 3 (rowT base v (dN a v) (dN b v) l ((0:Nat)))),(12,.pv (.int .i64 v)),(13,.pv (.list 2 (l.map jh))),(43,.row 1 ls),(44,.pv (.int .i64 a.img.length)),(45,.pv (.int .i64 v)),(49,.pv (.list 2 (l.map jh))),(50,.pv (.list 2 (l.map jh))),(51,.pv (.int .i64 l.length)),(52,.pv (.int .i64 (0:Nat))),(70,.any)],[⟨false,lK a⟩,⟨false,lK b⟩],[],none⟩) :
  den env Ie st=some (.normal,⟨sl 74 [(6,.any),(7,.any),(9,.aQ 0 0),(10,.aQ 1 0),(11,.row 3 (rowT base v (dN a v) (dN b v) l l.length)),(43,.row 1 ls),(44,.pv (.int .i64 a.img.length)),(45,.pv (.int .i64 v)),(70,.any)],[⟨false,lK a⟩,⟨false,lK b⟩],[],none⟩):=by
 unfold Ie
 refine bH (env:=env) (nb:=2) (l.length) (fun i=>⟨sl 74 [(9,.aQ 0 0),(10,.aQ 1 0),(11,.row 3 (rowT base v (dN a v) (dN b v) l (i))),(12,.pv (.int .i64 v)),(13,.pv (.list 2 (l.map jh))),(43,.row 1 ls),(44,.pv (.int .i64 a.img.length)),(45,.pv (.int .i64 v)),(49,.pv (.list 2 (l.map jh))),(50,.pv (.list 2 (l.map jh))),(51,.pv (.int .i64 l.length)),(52,.pv (.int .i64 i)),(70,.any)],[⟨false,lK a⟩,⟨false,lK b⟩],[],none⟩) (fun i=>some (.normal,⟨sl 74 [(6,.any),(7,.any),(9,.aQ 0 0),(10,.aQ 1 0),(11,.row 3 (rowT base v (dN a v) (dN b v) l l.length)),(43,.row 1 ls),(44,.pv (.int .i64 a.img.length)),(45,.pv (.int .i64 v)),(70,.any)],[⟨false,lK a⟩,⟨false,lK b⟩],[],none⟩)) h (fun _=>rfl) (fun _=>by simp only [aO,bJ,Nat.reduceMul,Nat.reduceBEq,Nat.reduceLT,Nat.reduceLeDiff,Nat.reduceAdd,decide_true,Bool.and_self,Bool.true_and]) ?_ ?_
 ·intro i rb hi ih
  have hlim:lim=1073741824:=rfl
  obtain ⟨hl1,hl2⟩:=hl
  have hi1:=bD hi (by omega)
  have F1:((i:Int)<(l.length:Int))=True:=eq_true (by omega)
  obtain ⟨q1,q2,q3⟩:=hl2 _ (List.getElem_mem hi)
  have hx:(l.map jh)[i]?=some (.agg [.int .i64 l[i].start,.int .i64 l[i].count]):=by rw [List.getElem?_map,List.getElem?_eq_getElem hi];rfl
  have e1:=aeS (v:=(v:Int)) (A:=dN a v) (B:=dN b v) (s:=l[i].start.toNat) (m:=l[i].count.toNat) (by unfold RQ;simp;omega) (by omega) (by omega) (by omega)
  rw [Int.toNat_of_nonneg q1,Int.toNat_of_nonneg (by omega:0≤l[i].count)] at e1
  have z1:=U4 (base:=base) (v:=v) (A:=dN a v) (B:=dN b v) hi
  have z2:=Na (base:=base) (v:=v) (A:=dN a v) (B:=dN b v) (l:=l) (i:=i) (N:=4096) (fun e he=>by have:=hl2 e he;omega)
  have z3:=Na (base:=base) (v:=v) (A:=dN a v) (B:=dN b v) (l:=l) (i:=i+1) (N:=4096) (fun e he=>by have:=hl2 e he;omega)
  have z4:l.length * 4096≤16777216:=by
   have:l.length * 4096≤4096 * 4096:=Nat.mul_le_mul_right _ (by omega)
   omega
  rw [← z1,List.length_append] at z3
  have hxa:=Zi hva
  have hxb:=Zi hvb
  rw [← z1] at ih
  have L1:((rowT base v (dN a v) (dN b v) l i).length+(((wP v (dN a v) (dN b v) l[i].start.toNat l[i].count.toNat).map toW).map y9).length≤lim)=True:=eq_true (by omega)
  generalize rowT base v (dN a v) (dN b v) l i=z at *
  generalize ((wP v (dN a v) (dN b v) l[i].start.toNat l[i].count.toNat).map toW).map y9=x at *
  have P2:∀ a b:PV,part [a,b] 0 (some 2)=some (.agg [a,b]):=fun _ _=>rfl
  simp only [Ic,F1,P2,hx,hxa,hxb,e1,L1,dh,ah hi,ah hva,ah hvb,List.length_map,aA,Nat.reduceMul,Nat.reduceBEq,Nat.reduceLT,Nat.reduceLeDiff,reduceCtorEq,Nat.reduceEqDiff,Nat.reduceAdd,Nat.beq]
  rw [ih _ (by simp only [hi1,dh,aA,Nat.reduceMul,Nat.reduceBEq,Nat.reduceLT,Nat.reduceLeDiff,reduceCtorEq,Nat.reduceEqDiff,Nat.reduceAdd,Nat.beq]<;>rfl)]
  all_goals rfl
 ·intro rb
  simp only [Ic,Int.lt_irrefl,dh,List.length_map,aA,Nat.reduceMul,Nat.reduceBEq,Nat.reduceLT,Nat.reduceLeDiff,reduceCtorEq,Nat.reduceEqDiff,Nat.reduceAdd,Nat.beq]
def rowA (a b:Pt) (i:Nat):List PV:=((Qh a b i).map toW).map y9
theorem Rq {a b:Pt} (ha:lH a=0):∀ n,(Qh a b n).length≤n * 16777216
 |0=>Nat.zero_le _
 |n+1=>by
  have h1:=Rq (b:=b) ha n
  have h2:=yg (mk2 a b n) (eX a n)
  have h3:=x9 (mk2 a b n) (eX a n)
  have h4:=Rl ha n
  have h5:=Jt (v:=(n:Int)) (A:=dN a n) (B:=dN b n) (N:=4096) (l:=ext (mk2 a b n) (eX a n)) (fun e he=>by have:=h2 e he;omega)
  have h6:(ext (mk2 a b n) (eX a n)).length * 4096≤4096 * 4096:=Nat.mul_le_mul_right _ (by omega)
  rw [Dq,List.length_append,Nat.succ_mul]
  omega
theorem U6 (a b:Pt) (i:Nat):rowT (Qh a b i) i (dN a i) (dN b i) (ext (mk2 a b i) (eX a i)) (ext (mk2 a b i) (eX a i)).length=rowA a b (i+1):=by
 rw [Zc,← Dq];rfl
theorem aeU {a b:Pt} {n i:Nat} (h:i<n):((uY a b n).map lM)[i]?=some (.list 2 ((ext (mk2 a b i) (eX a i)).map jh)):=by
 unfold uY
 rw [List.map_map,List.getElem?_map,List.getElem?_range h];rfl
set_option maxRecDepth 20000 in
theorem Zj {a b:Pt} (ha:lH a=0) (hb:lH b=0) (hs:aC a.img=aC b.img) {st:St} (h:st.head [9,10,11,43,44,45,70] st.boxes.length=some ⟨sl 74 [(9,.aQ 0 0),(10,.aQ 1 0),(11,.row 3 (rowA a b ((0:Nat)))),(43,.row 1 ((uY a b a.img.length).map lM)),(44,.pv (.int .i64 a.img.length)),(45,.pv (.int .i64 (0:Nat))),(70,.any)],[⟨false,lK a⟩,⟨false,lK b⟩],[],none⟩) :
  den env Ih st=some (.normal,⟨sl 74 [(6,.any),(7,.any),(11,.row 3 (rowA a b a.img.length))],[⟨false,lK a⟩,⟨false,lK b⟩],[],none⟩):=by
 unfold Ih
 refine bH (env:=env) (nb:=2) (a.img.length) (fun i=>⟨sl 74 [(9,.aQ 0 0),(10,.aQ 1 0),(11,.row 3 (rowA a b (i))),(43,.row 1 ((uY a b a.img.length).map lM)),(44,.pv (.int .i64 a.img.length)),(45,.pv (.int .i64 i)),(70,.any)],[⟨false,lK a⟩,⟨false,lK b⟩],[],none⟩) (fun i=>some (.normal,⟨sl 74 [(6,.any),(7,.any),(11,.row 3 (rowA a b a.img.length))],[⟨false,lK a⟩,⟨false,lK b⟩],[],none⟩)) h (fun _=>rfl) (fun _=>by simp only [aO,bJ,Nat.reduceMul,Nat.reduceBEq,Nat.reduceLT,Nat.reduceLeDiff,Nat.reduceAdd,decide_true,Bool.and_self,Bool.true_and]) ?_ ?_
 ·intro i rb hi ih
  have hlim:lim=1073741824:=rfl
  have hI:=(jo (jT ha).2.1).1
  have hsl:=Dp hs
  have hi1:=bD hi (by omega)
  have F1:((i:Int)<(a.img.length:Int))=True:=eq_true (by omega)
  have hx:=aeU (a:=a) (b:=b) hi
  have hz:((uY a b a.img.length).map lM).length=a.img.length:=by rw [List.length_map,rO]
  have I1:index (.int .i64 (i:Int)) ((uY a b a.img.length).map lM).length=some i:=by rw [hz];exact ah hi
  have hA:=Rl ha i
  have hAB:eX a i=eX b i:=FH hs i
  have hin:=yg (mk2 a b i) (eX a i)
  have hel:=x9 (mk2 a b i) (eX a i)
  have htl:=Rq (b:=b) ha i
  have hr:=U6 a b i
  have hr0:=U3 (Qh a b i) i (dN a i) (dN b i) (ext (mk2 a b i) (eX a i))
  have hL:=fun (st:St)=>aeT (st:=st) (a:=a) (b:=b) (v:=i) (l:=ext (mk2 a b i) (eX a i)) (base:=Qh a b i) (ls:=(uY a b a.img.length).map lM) hi (by omega) hAB hA ⟨hel,hin⟩ (by omega) (by omega)
  rw [hr,hr0] at hL
  generalize (uY a b a.img.length).map lM=ls at *
  generalize ext (mk2 a b i) (eX a i)=es at *
  have e0:rowA a b i=((Qh a b i).map toW).map y9:=rfl
  rw [← e0] at hL
  simp only [Ig,F1,hx,I1,List.length_map,aA,Nat.reduceMul,Nat.reduceBEq,Nat.reduceLT,Nat.reduceLeDiff,reduceCtorEq,Nat.reduceEqDiff,Nat.reduceAdd,Nat.beq]
  rw [hL _ (by simp only [aO,bJ,Nat.reduceMul,Nat.reduceBEq,Nat.reduceLT,Nat.reduceLeDiff,Nat.reduceAdd,decide_true,Bool.and_self,Bool.true_and]<;>rfl)]
  simp only [List.length_map,aA,Nat.reduceMul,Nat.reduceBEq,Nat.reduceLT,Nat.reduceLeDiff,reduceCtorEq,Nat.reduceEqDiff,Nat.reduceAdd,Nat.beq]
  rw [ih _ (by simp only [hi1,aA,Nat.reduceMul,Nat.reduceBEq,Nat.reduceLT,Nat.reduceLeDiff,reduceCtorEq,Nat.reduceEqDiff,Nat.reduceAdd,Nat.beq]<;>rfl)]
 ·intro rb
  simp only [Ig,Int.lt_irrefl,List.length_map,aA,Nat.reduceMul,Nat.reduceBEq,Nat.reduceLT,Nat.reduceLeDiff,reduceCtorEq,Nat.reduceEqDiff,Nat.reduceAdd,Nat.beq]
theorem Rt:∀ {l:List Pt},vw l=0→∀ p∈l,lH p=0
 |[],_,p,hp=>by cases hp
 |q :: l,h,p,hp=>by
  unfold vw at h
  split at h
  ·rcases List.mem_cons.1 hp with rfl|hp
   ·assumption
   ·exact Rt h p hp
  ·rename_i c;exact absurd h c
theorem ng {l:List Pt} (h:iy l=0):(∀ p∈l,lH p=0)∧1≤l.length∧l.length≤4∧∀ p∈l,∀ q∈l,aC p.img=aC q.img:=by
 unfold iy at h
 split at h
 ·rename_i c
  split at h
  ·cases h
  ·split at h
   ·rename_i c2 c3
    refine ⟨Rt c,by omega,by omega,fun p hp q hq=>?_⟩
    have h1:=List.all_eq_true.1 c3 p hp
    have h2:=List.all_eq_true.1 c3 q hq
    rw [of_decide_eq_true h1,of_decide_eq_true h2]
   ·cases h
 ·rename_i c;exact absurd h c
set_option maxRecDepth 20000 in
theorem ahp {l:List Pt} (hl:l.length≤lim) (hf:∀ p∈l,wO p) {f t:Nat} (h1:f<l.length) (h2:t<l.length) (h0:iy l=0):cal env 22 [.list 4 (l.map dX),.int .i64 f,.int .i64 t]=some [(.list 3 (rowA l[f] l[t] l[f].img.length),true),(.int .i64 0,false)]:=by
 have hlim:lim=1073741824:=rfl
 obtain ⟨g1,g2,g3,g4⟩:=ng h0
 have e1:=Y8 hl hf
 rw [h0] at e1
 have ha:=g1 _ (List.getElem_mem h1)
 have hb:=g1 _ (List.getElem_mem h2)
 have hs:=g4 _ (List.getElem_mem h1) _ (List.getElem_mem h2)
 have e2:=ac4 ha hb hs (hf _ (List.getElem_mem h1)).2.2
 have hx:(l.map dX)[f]?=some (dX l[f]):=by rw [List.getElem?_map,List.getElem?_eq_getElem h1];rfl
 have hy:(l.map dX)[t]?=some (dX l[t]):=by rw [List.getElem?_map,List.getElem?_eq_getElem h2];rfl
 generalize l[f]=a at *
 generalize l[t]=b at *
 have hL:=fun (st:St)=>Zj (st:=st) (a:=a) (b:=b) ha hb hs
 have e0:rowA a b 0=[]:=rfl
 rw [e0] at hL
 have hz:((uY a b a.img.length).map lM).length=a.img.length:=by rw [List.length_map,rO]
 have P4:∀ a b c d:PV,part [a,b,c,d] 0 (some 4)=some (.agg [a,b,c,d]):=fun _ _ _ _=>rfl
 have Z:((0:Int) != 0)=false:=rfl
 have K1:(((if (t:Int)<(f:Int) then (t:Int) else (f:Int)))<0)=False:=eq_false (by split<;>omega)
 have K2:(((if (f:Int)<(t:Int) then (t:Int) else (f:Int))) ≥ (l.length:Int))=False:=eq_false (by split<;>omega)
 have K3:((l.length:Int)≤((if (f:Int)<(t:Int) then (t:Int) else (f:Int))))=False:=eq_false (by split<;>omega)
 rw [dQ,dQ] at e2
 rw [dQ] at hx hy
 generalize (uY a b a.img.length).map lM=ls at *
 rw [au QW rfl];simp only [LY,aO,Nat.reduceBEq,Nat.reduceLeDiff,Nat.reduceAdd,List.length_cons,List.length_nil]
 simp only [e1,e2,hx,hy,Z,P4,K1,K2,K3,ah h1,ah h2,hz,List.length_map,aA,Nat.reduceMul,Nat.reduceBEq,Nat.reduceLT,Nat.reduceLeDiff,reduceCtorEq,Nat.reduceEqDiff,Nat.reduceAdd,Nat.beq]
 have hsw:∀ (A B:List BV),St.swap2 ⟨sl 74 [(9,.aQ 1 0),(10,.aQ 0 0),(70,.any)],[⟨false,A⟩,⟨false,B⟩],[],none⟩ 0=some ⟨sl 74 [(9,.aQ 0 0),(10,.aQ 1 0),(70,.any)],[⟨false,B⟩,⟨false,A⟩],[],none⟩:=fun A B=>rfl
 simp only [hsw,e1,e2,hx,hy,Z,P4,K1,K2,K3,ah h1,ah h2,hz,List.length_map,aA,Nat.reduceMul,Nat.reduceBEq,Nat.reduceLT,Nat.reduceLeDiff,reduceCtorEq,Nat.reduceEqDiff,Nat.reduceAdd,Nat.beq]
 rw [hL _ (by simp only [aO,bJ,Nat.reduceMul,Nat.reduceBEq,Nat.reduceLT,Nat.reduceLeDiff,Nat.reduceAdd,decide_true,Bool.and_self,Bool.true_and]<;>rfl)]
 simp only [e1,e2,hx,hy,Z,P4,K1,K2,K3,ah h1,ah h2,hz,List.length_map,aA,Nat.reduceMul,Nat.reduceBEq,Nat.reduceLT,Nat.reduceLeDiff,reduceCtorEq,Nat.reduceEqDiff,Nat.reduceAdd,Nat.beq]
end Go.Proofs.YtaaokejjmdbfaaaDoor.V

namespace Go.Proofs.YtaaokejjmdbfaaaDoor.V
theorem yV {im:zZ} (h:iU im=0) (v:Nat):(im.getD v []).length≤4096:=by
 have h2:=(jo h).2
 rw [List.getD_eq_getElem?_getD]
 by_cases hv:v<im.length
 ·rw [List.getElem?_eq_getElem hv];exact h2 _ (List.getElem_mem hv)
 ·rw [List.getElem?_eq_none (by omega)];exact Nat.zero_le _
end Go.Proofs.YtaaokejjmdbfaaaDoor.V

namespace Go.Proofs.YtaaokejjmdbfaaaDoor.V
def NG (p:Nat→Bool) (v:Int) (A B:List fV) (out:List Run):Nat→List Run
 |0=>out
 |k+1=>if p k=true∧A[k]?≠B[k]? then oq v k (A.getD k V.Vw) (NG p v A B out k) else NG p v A B out k
def Ju (a b:Pt):Nat→List Run
 |0=>[]
 |i+1=>NG (mk2 a b i) (i:Int) (dN a i) (dN b i) (Ju a b i) (eX a i)
theorem Dt {v:Int} {i:Nat} {x:fV} {out:List Run} (h:∀ y∈out,¬ (y.1.1=v∧y.1.2+(y.2.length:Int)=(i:Int))):oq v i x out=out++[((v,(i:Int)),[x])]:=by
 rcases Y2 out with rfl|⟨pre,y,rfl⟩
 ·rfl
 ·rw [uX,if_neg (h y (by simp))]
theorem Zk {v:Int} {i:Nat} {x:fV} {out cur:List Run} (h:cur≠[]):oq v i x (out++cur)=out++oq v i x cur:=by
 rcases Y2 cur with rfl|⟨pre,y,rfl⟩
 ·exact absurd rfl h
 ·rw [← List.append_assoc,uX,uX]
  split
  ·rw [List.append_assoc]
  ·simp
theorem Ru {v:Int} {A B:List fV} {l:List o7} {n:Int} (h:∀ e∈l,0≤e.start∧0≤e.count∧e.start+e.count<n):∀ x∈FI v A B l,x.1.2+(x.2.length:Int)<n:=fun x hx=>by
 obtain ⟨e,he,hx⟩:=List.mem_flatMap.1 hx
 have h1:=h e he
 have h2:=(yA v A B e.start.toNat e.count.toNat).1 x hx
 omega
theorem Zl {p:Nat→Bool} {v:Int} {A B:List fV} {out:List Run} (ho:∀ x∈out,x.1.1≠v):∀ n,NG p v A B out n=out++FI v A B (ext p n)
 |0=>by show out=out++[];rw [List.append_nil]
 |n+1=>by
  have ih:=Zl (p:=p) (A:=A) (B:=B) ho n
  have hin:=yg p n
  have hap:=FK p n
  unfold NG
  rw [uf,ih]
  cases hp:p n with
  |false=>rw [if_neg (fun c=>by cases c.1),if_neg (by decide)]
  |true =>
   rw [if_pos rfl]
   have e1:wP v A B n 1=if A[n]?=B[n]? then [] else [((v,(n:Int)),[A.getD n V.Vw])]:=by
    show Vz v A B [] (n+0)=_
    unfold Vz
    rw [Nat.add_zero]
    split
    ·rfl
    ·rfl
   rcases jM (ext p n) with e|⟨pre,y,e⟩
   ·rw [e]
    rw [show vN [] n=[⟨(n:Int),1⟩] from rfl,show FI v A B [⟨(n:Int),1⟩]=FI v A B []++wP v A B n 1 from yh v A B [] ⟨(n:Int),1⟩,Ro,List.append_nil,List.nil_append,e1]
    by_cases c:A[n]?=B[n]?
    ·rw [if_neg (fun h=>h.2 c),if_pos c,List.append_nil]
    ·rw [if_pos ⟨rfl,c⟩,if_neg c,Dt (fun x hx h=>ho x hx h.1)]
   ·rw [e] at hin hap ⊢
    obtain ⟨y1,y2,y3⟩:=hin y (by simp)
    rw [iL]
    by_cases cc:y.start+y.count=(n:Int)
    ·rw [if_pos cc,yh,yh]
     have e2:(y.count+1).toNat=y.count.toNat+1:=by omega
     show _=out++(FI v A B pre++wP v A B y.start.toNat (y.count+1).toNat)
     rw [e2]
     show _=out++(FI v A B pre++Vz v A B (wP v A B y.start.toNat y.count.toNat) (y.start.toNat+y.count.toNat))
     rw [show y.start.toNat+y.count.toNat=n by omega]
     unfold Vz
     by_cases c:A[n]?=B[n]?
     ·rw [if_neg (fun h=>h.2 c),if_pos c]
     ·rw [if_pos ⟨rfl,c⟩,if_neg c]
      by_cases hd:wP v A B y.start.toNat y.count.toNat=[]
      ·rw [hd,List.append_nil,Dt (fun x hx h=>?_),MW,List.append_assoc]
       rcases List.mem_append.1 hx with hx|hx
       ·exact ho x hx h.1
       ·have:=Ru (n:=(n:Int)) (fun e he=>by
         have h1:=hin e (by simp [he])
         have h2:=(List.pairwise_append.1 hap).2.2 e he y (by simp)
         omega) x hx
        omega
      ·rw [← List.append_assoc,Zk hd,List.append_assoc]
    ·rw [if_neg cc]
     have hlt:∀ e'∈pre++[y],0≤e'.start∧0≤e'.count∧e'.start+e'.count<(n:Int):=fun e' he'=>by
      have h1:=hin e' he'
      rcases List.mem_append.1 he' with h|h
      ·have h2:=(List.pairwise_append.1 hap).2.2 e' h y (by simp)
       omega
      ·rw [List.mem_singleton.1 h] at h1 ⊢
       omega
     rw [yh (l:=pre++[y])]
     show _=out++(_++wP v A B n 1)
     rw [e1]
     by_cases c:A[n]?=B[n]?
     ·rw [if_neg (fun h=>h.2 c),if_pos c,List.append_nil]
     ·rw [if_pos ⟨rfl,c⟩,if_neg c,Dt (fun x hx h=>?_),List.append_assoc]
      rcases List.mem_append.1 hx with hx|hx
      ·exact ho x hx h.1
      ·have:=Ru hlt x hx
       omega
theorem ab6 {a b:Pt} {n:Nat}:∀ x∈Qh a b n,x.1.1<(n:Int):=fun x hx=>by
 obtain ⟨v,h1,h2⟩:=ab5.1 hx
 obtain ⟨e,he,hx⟩:=List.mem_flatMap.1 h2
 have:=(yA (v:Int) (dN a v) (dN b v) e.start.toNat e.count.toNat).1 x hx
 omega
theorem Qj (a b:Pt):∀ n,Ju a b n=Qh a b n
 |0=>rfl
 |n+1=>by
  unfold Ju
  rw [Qj a b n,Zl (fun x hx=>by have:=ab6 x hx;omega),Dq]
def okF (m N:Nat) (out:List Run):Prop:=(∀ x∈out,0≤x.1.1∧x.1.1≤8∧0≤x.1.2∧x.1.2+(x.2.length:Int)≤(m:Int)∧x.2≠[])∧out.length≤N
theorem Zm {v:Int} {i m N:Nat} {s:fV} {out:List Run} (hv:0≤v∧v≤8) (hi:i<m) (h:okF m N out):okF m (N+1) (oq v i s out):=by
 obtain ⟨h1,h2⟩:=h
 rcases Y2 out with rfl|⟨pre,x,rfl⟩
 ·rw [MW]
  refine ⟨fun y hy=>?_,by simp⟩
  rw [List.mem_singleton.1 hy]
  refine ⟨hv.1,hv.2,by show (0:Int)≤i;omega,by show (i:Int)+1≤m;omega,by simp⟩
 ·rw [uX]
  split
  ·rename_i c
   refine ⟨fun y hy=>?_,by simp at h2 ⊢;omega⟩
   rcases List.mem_append.1 hy with hy|hy
   ·exact h1 y (by simp [hy])
   ·rw [List.mem_singleton.1 hy]
    have:=h1 x (by simp)
    refine ⟨this.1,this.2.1,this.2.2.1,?_,by simp⟩
    simp only [List.length_append,List.length_cons,List.length_nil]
    omega
  ·refine ⟨fun y hy=>?_,by simp at h2 ⊢;omega⟩
   rcases List.mem_append.1 hy with hy|hy
   ·exact h1 y hy
   ·rw [List.mem_singleton.1 hy]
    refine ⟨hv.1,hv.2,by show (0:Int)≤i;omega,by show (i:Int)+1≤m;omega,by simp⟩
theorem Jv {p:Nat→Bool} {v:Int} {A B:List fV} {m N:Nat} (hv:0≤v∧v≤8) {out:List Run} (h:okF m N out):∀ n,n≤m→okF m (N+n) (NG p v A B out n)
 |0,_=>h
 |n+1,hn=>by
  have ih:=Jv (p:=p) (A:=A) (B:=B) hv h n (by omega)
  unfold NG
  split
  ·exact Zm hv (by omega) ih
  ·exact ⟨ih.1,by have:=ih.2;omega⟩
theorem AA {a b:Pt} (hi:iU a.img=0):∀ n,n≤8→okF 4096 (n * 4096) (Ju a b n)
 |0,_=>⟨fun x hx=>(by cases hx),Nat.le_refl _⟩
 |n+1,hn=>by
  have ih:=AA (b:=b) hi n (by omega)
  have hl:=yV hi n
  have h:=Jv (p:=mk2 a b n) (v:=(n:Int)) (A:=dN a n) (B:=dN b n) (by omega) ih (eX a n) hl
  refine ⟨h.1,?_⟩
  have:=h.2
  have hl:eX a n≤4096:=hl
  show (NG _ _ _ _ _ _).length≤_
  omega
end Go.Proofs.YtaaokejjmdbfaaaDoor.V
