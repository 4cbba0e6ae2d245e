/-
  Part 9 of the texts that the statement stands on.
-/
import Derived.Test.YtdahanchdjadiaaDoorZ8
set_option linter.all false
namespace Go.Proofs.YtdahanchdjadiaaDoor.V
theorem acV {i:fZ} {e:bD} (h:gG i=true) (h0:Zt i e=0):gG (Je i e)=true∧(Je i e).size=i.size∧(Je i e).aZ=i.aZ∧(Je i e).act.length=i.act.length:=by
 obtain ⟨-,hb⟩:=adS DT h0
 obtain ⟨s,c,ht,-⟩:=wC h hb
 obtain ⟨e1,e2⟩:=ad2 h hb ht h0
 refine ⟨e2,?_⟩
 rw [e1]
 exact ⟨rfl,rfl,dU ..⟩
theorem aac (p:Nat→Bool) {n:Nat} (hn:n≤4096):DZ (ext p n) n=0:=by
 unfold DZ
 rw [if_neg (by omega)]
 exact Z9 p n
theorem Vz {b:Bm} (h:okB b=true):BU b=ext (bit b.ws) b.size.toNat:=by
 unfold BU I9
 rw [if_pos h]
theorem acW {b:Bm} (h:okB b=true):VT b.size (BU b)=b:=by
 have hs:=iH h
 have hc:((b.size.toNat:Nat):Int)=b.size:=by omega
 obtain ⟨-,-,g2,g3,g4⟩:=adY (n:=b.size.toNat) (l:=BU b) (by omega) (fun e he=>by
  rw [Vz h] at he
  exact zZ _ _ e he)
 rw [hc] at g2 g3 g4
 refine aeV g2 h g3 fun s hlt=>?_
 rw [g3] at hlt
 rw [g4 s (by omega),Vz h,y7,decide_eq_true (by omega),Bool.true_and]
theorem Rx {n g:Int} {x:bD} (hn:1≤n∧n≤4096) (hg:1≤g∧g≤4096) (hx:0≤x.start∧1≤x.count∧x.start+x.count≤lY n g) {s:Nat} (hs:(s:Int)<n):rH (vC n g x) s=rH x (((s:Int) / g).toNat):=by
 obtain ⟨a1,a2,a3,a4⟩:=Aa hn hg hx
 have k0:0≤(s:Int) / g:=Int.ediv_nonneg (by omega) (by omega)
 have k1:x.start≤(s:Int) / g ↔ x.start * g≤(s:Int):=Int.le_ediv_iff_mul_le (by omega)
 have k2:(s:Int) / g<x.start+x.count ↔ (s:Int)<(x.start+x.count) * g:=Int.ediv_lt_iff_lt_mul (by omega)
 have kc:((((s:Int) / g).toNat:Nat):Int)=(s:Int) / g:=by omega
 unfold rH vC
 simp only
 rw [kc,Bool.eq_iff_iff]
 simp only [Bool.and_eq_true,decide_eq_true_eq]
 rw [k1,k2]
 split<;>omega
theorem Ry {i:fZ} (h:gG i=true):(∀ c∈mg i,c<256)∧EJ i.size i.aZ (mg i)=0∧rcI i.size i.aZ (mg i)=⟨i.size,i.aZ,List.replicate i.act.length 0,i.bm⟩ ∧
  (∀ s:Nat,(s:Int)<i.size→tK (rcL i.size i.aZ (mg i)) s=uX i.bm ((s:Int) / i.aZ))∧(rcL i.size i.aZ (mg i)).length≤4096∧∀ x∈rcL i.size i.aZ (mg i),0≤x.start∧1≤x.count∧x.start+x.count≤4096:=by
 obtain ⟨h1,h2,h3,h4,h5⟩:=bU.1 h
 obtain ⟨z1,z2,z3,z4⟩:=bT.1 h1
 have hg:=lq h1
 have hm:(most:Int)=9007199254740991:=rfl
 have hB:mg i=encI i.size++encI i.aZ++xI (BU i.bm):=by unfold mg;rw [if_pos h]
 have afw:∀ e∈BU i.bm,0≤e.start∧1≤e.count∧e.start+e.count≤lY i.size i.aZ:=fun e he=>by
  rw [Vz h3] at he
  have:=zZ _ _ e he
  omega
 have hD:tu (mg i)=(0,i.size,i.aZ,BU i.bm):=by
  rw [hB]
  refine ZX (by omega) (by omega) (fun e he=>?_) (Nat.le_trans (ZU _) (by decide))
  have:=afw e he
  unfold Rk
  omega
 obtain ⟨e1,e2,-⟩:=Jm h1
 have hck:DZ (BU i.bm) (lY i.size i.aZ)=0:=by
  rw [Vz h3]
  have:=aac (bit i.bm.ws) (n:=i.bm.size.toNat) (by omega)
  rwa [show ((i.bm.size.toNat:Nat):Int)=lY i.size i.aZ by omega] at this
 have hE:EJ i.size i.aZ (mg i)=0:=by
  unfold EJ
  rw [hD,if_pos e2]
  simp only
  rw [if_pos trivial,if_pos ⟨trivial,trivial⟩,if_pos hck]
 have hL:rcL i.size i.aZ (mg i)=ext (tK ((BU i.bm).map (vC i.size i.aZ))) 4096:=by
  unfold rcL
  rw [if_pos hE,hD,afv]
 refine ⟨?_,hE,?_,?_,?_,?_⟩
 ·rw [hB]
  intro c hc
  rcases List.mem_append.1 hc with hc|hc
  ·rcases List.mem_append.1 hc with hc|hc
   ·exact rC _ c hc
   ·exact rC _ c hc
  ·unfold xI at hc
   rcases List.mem_append.1 hc with hc|hc
   ·exact rC _ c hc
   ·obtain ⟨e,-,hc⟩:=List.mem_flatMap.1 hc
    unfold kE at hc
    rcases List.mem_append.1 hc with hc|hc
    ·exact rC _ c hc
    ·exact rC _ c hc
 ·unfold rcI
  rw [if_pos hE,hD,e1]
  simp only
  rw [show lY i.size i.aZ=i.bm.size by omega,acW h3,show i.bm.size.toNat=i.act.length by omega]
 ·intro s hs
  rw [hL,y7,decide_eq_true (by omega),Bool.true_and]
  have k0:0≤(s:Int) / i.aZ:=Int.ediv_nonneg (by omega) (by omega)
  have kc:((((s:Int) / i.aZ).toNat:Nat):Int)=(s:Int) / i.aZ:=by omega
  have e3:tK ((BU i.bm).map (vC i.size i.aZ)) s=tK (BU i.bm) (((s:Int) / i.aZ).toNat):=by
   unfold tK
   rw [List.any_map]
   rw [Bool.eq_iff_iff,List.any_eq_true,List.any_eq_true]
   constructor
   ·rintro ⟨x,hx,hh⟩
    refine ⟨x,hx,?_⟩
    rw [← Rx ⟨z1,z2⟩ ⟨z3,z4⟩ (afw x hx) hs]
    exact hh
   ·rintro ⟨x,hx,hh⟩
    refine ⟨x,hx,?_⟩
    show rH (vC i.size i.aZ x) s=true
    rw [Rx ⟨z1,z2⟩ ⟨z3,z4⟩ (afw x hx) hs]
    exact hh
  have hgx:∀ k:Int,0≤k→uX i.bm k=bit i.bm.ws k.toNat:=fun k hk=>by
   obtain ⟨m,rfl⟩:∃ m:Nat,k=(m:Int):=⟨k.toNat,by omega⟩
   rw [mJ h3,Int.toNat_natCast]
  rw [e3,Vz h3,y7,hgx _ k0]
  cases hb:bit i.bm.ws (((s:Int) / i.aZ).toNat) with
  |false=>rw [Bool.and_false]
  |true=>rw [decide_eq_true (by have:=LY h3 hb;omega)];rfl
 ·rw [hL];exact yY _ _
 ·rw [hL];exact fun x hx=>zZ _ _ x hx
theorem acX {i:fZ} (hs:i.size≤256):(mg i).length≤10000:=by
 unfold mg
 split
 ·rename_i h
  obtain ⟨h1,h2,h3,h4,h5⟩:=bU.1 h
  have hg:=lq h1
  have q1:=l7 i.size
  have q2:=l7 i.aZ
  have q3:=l7 ((BU i.bm).length:Int)
  have q4:(BU i.bm).length≤256:=by
   rw [Vz h3]
   have:=yY (bit i.bm.ws) i.bm.size.toNat
   omega
  have q5:∀ l:List bD,(l.flatMap kE).length≤18 * l.length:=by
   intro l
   induction l with
   |nil=>simp
   |cons e l ih =>
    rw [List.flatMap_cons,List.length_append,List.length_cons]
    have:=MB e
    omega
  have q6:=q5 (BU i.bm)
  rw [List.length_append,List.length_append]
  unfold xI
  rw [List.length_append]
  omega
 ·simp
end Go.Proofs.YtdahanchdjadiaaDoor.V

namespace Go.Proofs.YtdahanchdjadiaaDoor.V
def inB (s:Int) (e:bD):Bool:=decide (e.start≤s)&&decide (s<e.start+e.count)
theorem acY {m:List bD} (hm:∀ x∈m,0≤x.start∧1≤x.count∧x.start+x.count≤4096) (s:Nat):m.any (inB (s:Int))=tK m s:=by
 unfold tK
 rw [Bool.eq_iff_iff,List.any_eq_true,List.any_eq_true]
 constructor
 ·rintro ⟨x,hx,h⟩
  have:=hm x hx
  refine ⟨x,hx,?_⟩
  unfold inB at h
  unfold rH
  rw [h,decide_eq_true (by omega)]
  rfl
 ·rintro ⟨x,hx,h⟩
  refine ⟨x,hx,?_⟩
  unfold rH at h
  unfold inB
  rw [Bool.and_eq_true] at h
  exact h.2
end Go.Proofs.YtdahanchdjadiaaDoor.V

namespace Go.Proofs.YtdahanchdjadiaaDoor.V
structure Pnd where
 e:bD
 f:Bool
 s:Bool
 v:Int
structure iq where
 log:fZ
 st:List Nat
 a:List Int
 b:List Int
 ws:List Pnd
 nx:Int
 ok:Bool
def fG (p:Pnd):PV:=.agg [.int .i64 p.e.start,.int .i64 p.e.count,.bool p.f,.bool p.s,.int .i64 p.v]
def jT (m:iq):Prop:=m.a.length=60∧m.b.length=60
def mV (m:iq):List PV:=[.int .i64 m.log.size,.int .i64 m.log.aZ,.list 1 (m.log.act.map eI),.int .i64 m.log.bm.size,.list 1 (m.log.bm.ws.map eW),.list 1 (m.st.map eY)]++(m.a.map eI++(m.b.map eI++[.list 5 (m.ws.map fG),.int .i64 m.nx,.bool m.ok]))
def mC (m:iq) (w:BV):List BV:=[.pv (.int .i64 m.log.size),.pv (.int .i64 m.log.aZ),.pv (.list 1 (m.log.act.map eI)),.pv (.int .i64 m.log.bm.size),.pv (.list 1 (m.log.bm.ws.map eW)),.pv (.list 1 (m.st.map eY))]++(m.a.map (fun x=>.pv (eI x))++(m.b.map (fun x=>.pv (eI x))++[w,.pv (.int .i64 m.nx),.pv (.bool m.ok)]))
def wV (ws:List Pnd):BV:=.pv (.list 5 (ws.map fG))
theorem qA (ws:List Pnd):wV ws=.pv (.list 5 (ws.map fG)):=rfl
def oV (m:iq):PV:=.agg (mV m)
theorem cZ (m:iq):oV m=.agg (mV m):=rfl
theorem xK {m:iq} (h:jT m):(mV m).length=129:=by simp [mV,h.1,h.2]
theorem afx {m:iq} (h:jT m) (w:BV):(mC m w).length=129:=by simp [mC,h.1,h.2]
theorem Gu (m:iq):(mV m).map BV.pv=mC m (wV m.ws):=by
 have h:∀ l:List Int,(l.map eI).map BV.pv=l.map fun x=>BV.pv (eI x):=fun l=>by rw [List.map_map];rfl
 simp only [mV,mC,wV,List.map_append,h];rfl
theorem afy {m:iq} (h:jT m):part (mV m) 0 (some 129)=some (.agg (mV m)):=by
 simp only [part,xK h]
 simp [List.take_of_length_le,xK h]
section
variable {m:iq} (h:jT m) (w:BV)
include h
theorem ajd {s:Nat} (hs:s<60):(mC m w)[6+s]?=some (.pv (.int .i64 (m.a.getD s 0))):=by
 have h1:=h.1
 have:s<m.a.length:=by omega
 simp only [mC]
 rw [List.getElem?_append_right (by simp),List.getElem?_append_left (by simp;omega)]
 simp [List.getElem?_map,this,eI]
theorem aje {s:Nat} (hs:s<60):(mC m w)[66+s]?=some (.pv (.int .i64 (m.b.getD s 0))):=by
 have h1:=h.1
 have h2:=h.2
 have:s<m.b.length:=by omega
 simp only [mC]
 rw [List.getElem?_append_right (by simp;omega),List.getElem?_append_right (by simp;omega),List.getElem?_append_left (by simp;omega)]
 simp only [List.length_cons,List.length_nil,List.length_map,List.getElem?_map]
 rw [show 66+s - (0+1+1+1+1+1+1) - m.a.length=s by omega]
 simp [this,eI]
theorem Jo (k:Nat):(mC m w)[126+k]?=[w,.pv (.int .i64 m.nx),.pv (.bool m.ok)][k]?:=by
 have h1:=h.1
 have h2:=h.2
 simp only [mC]
 rw [List.getElem?_append_right (by simp;omega),List.getElem?_append_right (by simp;omega),List.getElem?_append_right (by simp;omega)]
 congr 1
 simp;omega
theorem tC:(mC m w)[126]?=some w:=Jo h w 0
theorem afz:(mC m w)[127]?=some (.pv (.int .i64 m.nx)):=Jo h w 1
theorem afA:(mC m w)[128]?=some (.pv (.bool m.ok)):=Jo h w 2
end
theorem VA {α:Type} {l:List α} {k:Nat} (x:α) (hk:k<l.length):l.take k++(x :: l.drop (k+1))=l.set k x:=by
 rw [List.set_eq_take_append_cons_drop,if_pos hk]
section
variable {m:iq} (h:jT m) (w:BV)
include h
theorem acZ {s:Nat} (hs:s<60) (x:Int):(mC m w).set (6+s) (.pv (.int .i64 x))=mC { m with a:=m.a.set s x } w:=by
 have h1:=h.1
 simp only [mC]
 rw [List.set_append_right _ _ (by simp),List.set_append_left _ _ (by simp;omega)]
 simp [List.map_set,eI]
theorem ac0 {s:Nat} (hs:s<60) (x:Int):(mC m w).set (66+s) (.pv (.int .i64 x))=mC { m with b:=m.b.set s x } w:=by
 have h1:=h.1
 have h2:=h.2
 simp only [mC]
 rw [List.set_append_right _ _ (by simp;omega),List.set_append_right _ _ (by simp;omega),List.set_append_left _ _ (by simp;omega)]
 simp only [List.length_cons,List.length_nil,List.length_map]
 rw [show 66+s - (0+1+1+1+1+1+1) - m.a.length=s by omega]
 simp [List.map_set,eI]
theorem xM (k:Nat) (x:BV):(mC m w).set (126+k) x=[.pv (.int .i64 m.log.size),.pv (.int .i64 m.log.aZ),.pv (.list 1 (m.log.act.map eI)),.pv (.int .i64 m.log.bm.size),.pv (.list 1 (m.log.bm.ws.map eW)),.pv (.list 1 (m.st.map eY))]++(m.a.map (fun x=>.pv (eI x))++(m.b.map (fun x=>.pv (eI x))++[w,.pv (.int .i64 m.nx),.pv (.bool m.ok)].set k x)):=by
 have h1:=h.1
 have h2:=h.2
 simp only [mC]
 rw [List.set_append_right _ _ (by simp;omega),List.set_append_right _ _ (by simp;omega),List.set_append_right _ _ (by simp;omega)]
 rw [show 126+k - ([BV.pv (.int .i64 m.log.size),.pv (.int .i64 m.log.aZ),.pv (.list 1 (m.log.act.map eI)),.pv (.int .i64 m.log.bm.size),.pv (.list 1 (m.log.bm.ws.map eW)),.pv (.list 1 (m.st.map eY))]:List BV).length - (m.a.map fun x=>BV.pv (eI x)).length - (m.b.map fun x=>BV.pv (eI x)).length=k by simp;omega]
theorem ac1 (x:BV):(mC m w).set 126 x=mC m x:=xM h w 0 x
theorem ac2 (x:Int):(mC m w).set 127 (.pv (.int .i64 x))=mC { m with nx:=x } w:=xM h w 1 _
theorem aad (x:Bool):(mC m w).set 128 (.pv (.bool x))=mC { m with ok:=x } w:=xM h w 2 _
end
theorem y9:(sN.map V3).length=129:=by simp [sN]
def ovE (a b:bD):Bool:=decide (a.start<b.start+b.count)&&decide (b.start<a.start+a.count)
def Gv (ws:List Pnd) (k:Nat) (a:bD) (i:Nat):Bool:=(ws.zipIdx.drop i).any fun p=>decide (p.2≠k)&&ovE a p.1.e
theorem aae {ws:List Pnd} {k:Nat} {a:bD} {i:Nat} (h:i<ws.length):Gv ws k a i=((decide (i≠k)&&ovE a ws[i].e) || Gv ws k a (i+1)):=by
 unfold Gv
 rw [List.drop_eq_getElem_cons (by simpa using h)]
 simp
theorem ac3 (ws:List Pnd) (k:Nat) (a:bD):Gv ws k a ws.length=false:=by
 unfold Gv
 rw [List.drop_of_length_le (by simp)]
 rfl
def inP (p:Pnd):Prop:=0≤p.e.start∧p.e.start≤4096∧0≤p.e.count∧p.e.count≤4096
def okP (ws:List Pnd):Prop:=∀ p∈ws,inP p
theorem Rz {ws:List Pnd} {i:Nat} (h:i<ws.length):(ws.map fG)[i]?=some (.agg [.int .i64 ws[i].e.start,.int .i64 ws[i].e.count,.bool ws[i].f,.bool ws[i].s,.int .i64 ws[i].v]):=by rw [List.getElem?_map,List.getElem?_eq_getElem h];rfl
end Go.Proofs.YtdahanchdjadiaaDoor.V

namespace Go.Proofs.YtdahanchdjadiaaDoor.V
def RD (m:iq) (a:bD) (b:Bool):Option (Ex × St):=if b then some (.ret,⟨sl 50 [(4,.pv (.bool true))],[⟨false,mC m (wV m.ws)⟩,⟨false,[.pv (.int .i64 a.start),.pv (.int .i64 a.count)]⟩],[],none⟩) else some (.normal,⟨sl 50 [(4,.any)],[⟨false,mC m (wV m.ws)⟩,⟨false,[.pv (.int .i64 a.start),.pv (.int .i64 a.count)]⟩],[],none⟩)
theorem RF (m:iq) (a:bD):RD m a true=some (.ret,⟨sl 50 [(4,.pv (.bool true))],[⟨false,mC m (wV m.ws)⟩,⟨false,[.pv (.int .i64 a.start),.pv (.int .i64 a.count)]⟩],[],none⟩):=rfl
theorem RG (m:iq) (a:bD):RD m a false=some (.normal,⟨sl 50 [(4,.any)],[⟨false,mC m (wV m.ws)⟩,⟨false,[.pv (.int .i64 a.start),.pv (.int .i64 a.count)]⟩],[],none⟩):=rfl
set_option maxRecDepth 20000 in
theorem afB {m:iq} {k:Nat} {a:bD} (hm:jT m) (hl:m.ws.length≤1000000) (hp:okP m.ws) (ha:0≤a.start∧a.start≤4096∧0≤a.count∧a.count≤4096) {st:St} (h:st.head [1,2,5,6] st.boxes.length=some ⟨sl 50 [(1,.pv (.int .i64 k)),(2,.aP 0 0),(5,.aP 1 0),(6,.pv (.int .i64 (0:Nat)))],[⟨false,mC m (wV m.ws)⟩,⟨false,[.pv (.int .i64 a.start),.pv (.int .i64 a.count)]⟩],[],none⟩) :
  den env Ic st=RD m a (Gv m.ws k a ((0:Nat))):=by
 unfold Ic
 refine dw (env:=env) (nb:=2) (m.ws.length) (fun i=>⟨sl 50 [(1,.pv (.int .i64 k)),(2,.aP 0 0),(5,.aP 1 0),(6,.pv (.int .i64 i))],[⟨false,mC m (wV m.ws)⟩,⟨false,[.pv (.int .i64 a.start),.pv (.int .i64 a.count)]⟩],[],none⟩) (fun i=>RD m a (Gv m.ws k a (i))) h (fun _=>rfl) (fun _=>by simp only [aG,bY,Nat.reduceMul,Nat.reduceBEq,Nat.reduceLT,Nat.reduceLeDiff,Nat.reduceAdd,decide_true,Bool.and_self,Bool.true_and]) ?_ ?_
 ·intro i rb hi ih
  have hi1:=dN hi (by unfold lim;omega)
  have F1:((i:Int)<(m.ws.length:Int))=True:=eq_true (by omega)
  have q:=hp _ (List.getElem_mem hi)
  unfold inP at q
  have hx:=Rz hi
  have W1:IntKind.i64.wrap (m.ws[i].e.start+m.ws[i].e.count)=m.ws[i].e.start+m.ws[i].e.count:=ay (by omega)
  have W2:IntKind.i64.wrap (a.start+a.count)=a.start+a.count:=ay (by omega)
  have P2:∀ x0 x1 x2 x3 x4:PV,part [x0,x1,x2,x3,x4] 0 (some 2)=some (.agg [x0,x1]):=fun _ _ _ _ _=>rfl
  rw [aae hi]
  by_cases c0:i=k
  ·have F2:((i:Int) != (k:Int))=false:=by simp [c0]
   rw [decide_eq_false (fun h=>h c0),Bool.false_and,Bool.false_or]
   simp only [vY,F1,F2,hx,W1,W2,P2,tC hm,qA,aj hi,List.length_map,ak,Nat.reduceMul,Nat.reduceBEq,Nat.reduceLT,Nat.reduceLeDiff,reduceCtorEq,Nat.reduceEqDiff,Nat.reduceAdd,Nat.beq]
   rw [ih _ (by simp only [hi1,qA,ak,Nat.reduceMul,Nat.reduceBEq,Nat.reduceLT,Nat.reduceLeDiff,reduceCtorEq,Nat.reduceEqDiff,Nat.reduceAdd,Nat.beq]<;>rfl)]
  ·have F2:((i:Int) != (k:Int))=true:=by simp;omega
   rw [decide_eq_true c0,Bool.true_and]
   unfold ovE
   by_cases c1:a.start<m.ws[i].e.start+m.ws[i].e.count
   ·have F3:=eq_true c1
    rw [decide_eq_true c1,Bool.true_and]
    by_cases c2:m.ws[i].e.start<a.start+a.count
    ·have F4:=eq_true c2
     rw [decide_eq_true c2,Bool.true_or,RF]
     simp only [vY,F1,F2,F3,F4,hx,W1,W2,P2,tC hm,qA,aj hi,List.length_map,ak,Nat.reduceMul,Nat.reduceBEq,Nat.reduceLT,Nat.reduceLeDiff,reduceCtorEq,Nat.reduceEqDiff,Nat.reduceAdd,Nat.beq]
    ·have F4:=eq_false c2
     rw [decide_eq_false c2,Bool.false_or]
     simp only [vY,F1,F2,F3,F4,hx,W1,W2,P2,tC hm,qA,aj hi,List.length_map,ak,Nat.reduceMul,Nat.reduceBEq,Nat.reduceLT,Nat.reduceLeDiff,reduceCtorEq,Nat.reduceEqDiff,Nat.reduceAdd,Nat.beq]
     rw [ih _ (by simp only [hi1,qA,ak,Nat.reduceMul,Nat.reduceBEq,Nat.reduceLT,Nat.reduceLeDiff,reduceCtorEq,Nat.reduceEqDiff,Nat.reduceAdd,Nat.beq]<;>rfl)]
   ·have F3:=eq_false c1
    rw [decide_eq_false c1,Bool.false_and,Bool.false_or]
    simp only [vY,F1,F2,F3,hx,W1,W2,P2,tC hm,qA,aj hi,List.length_map,ak,Nat.reduceMul,Nat.reduceBEq,Nat.reduceLT,Nat.reduceLeDiff,reduceCtorEq,Nat.reduceEqDiff,Nat.reduceAdd,Nat.beq]
    rw [ih _ (by simp only [hi1,qA,ak,Nat.reduceMul,Nat.reduceBEq,Nat.reduceLT,Nat.reduceLeDiff,reduceCtorEq,Nat.reduceEqDiff,Nat.reduceAdd,Nat.beq]<;>rfl)]
 ·intro rb
  rw [ac3,RG]
  simp only [vY,Int.lt_irrefl,tC hm,qA,List.length_map,ak,Nat.reduceMul,Nat.reduceBEq,Nat.reduceLT,Nat.reduceLeDiff,reduceCtorEq,Nat.reduceEqDiff,Nat.reduceAdd,Nat.beq]
set_option maxRecDepth 20000 in
theorem ad3 {m:iq} {k:Nat} (hm:jT m) (hl:m.ws.length≤1000000) (hp:okP m.ws) (hk:k<m.ws.length):cal env 14 [oV m,.int .i64 k]=some [(.bool (Gv m.ws k m.ws[k].e 0),false)]:=by
 have hx:=Rz hk
 have P2:∀ x0 x1 x2 x3 x4:PV,part [x0,x1,x2,x3,x4] 0 (some 2)=some (.agg [x0,x1]):=fun _ _ _ _ _=>rfl
 have q:=hp _ (List.getElem_mem hk)
 rw [cZ]
 rw [ah agI rfl];simp only [X8,aG,Nat.reduceBEq,Nat.reduceLeDiff,Nat.reduceAdd,List.length_cons,List.length_nil]
 simp only [Gu,tC hm,qA,hx,P2,aj hk,List.length_map,ak,Nat.reduceMul,Nat.reduceBEq,Nat.reduceLT,Nat.reduceLeDiff,reduceCtorEq,Nat.reduceEqDiff,Nat.reduceAdd,Nat.beq]
 rw [afB (m:=m) (k:=k) (a:=m.ws[k].e) hm hl hp q (by simp only [qA];simp only [aG,bY,Nat.reduceMul,Nat.reduceBEq,Nat.reduceLT,Nat.reduceLeDiff,Nat.reduceAdd,decide_true,Bool.and_self,Bool.true_and]<;>rfl)]
 cases Gv m.ws k m.ws[k].e 0 with
 |true=>rw [RF];simp only [Gu,tC hm,qA,hx,P2,aj hk,List.length_map,ak,Nat.reduceMul,Nat.reduceBEq,Nat.reduceLT,Nat.reduceLeDiff,reduceCtorEq,Nat.reduceEqDiff,Nat.reduceAdd,Nat.beq]
 |false=>rw [RG];simp only [Gu,tC hm,qA,hx,P2,aj hk,List.length_map,ak,Nat.reduceMul,Nat.reduceBEq,Nat.reduceLT,Nat.reduceLeDiff,reduceCtorEq,Nat.reduceEqDiff,Nat.reduceAdd,Nat.beq]
end Go.Proofs.YtdahanchdjadiaaDoor.V

namespace Go.Proofs.YtdahanchdjadiaaDoor.V
theorem aaf {b:Bm} {s:Int} {n:Nat}:newG b s n=true ↔ ∃ k:Nat,k<n∧uX b (s+(k:Int))=false:=by
 unfold newG
 simp [List.any_eq_true]
end Go.Proofs.YtdahanchdjadiaaDoor.V

namespace Go.Proofs.YtdahanchdjadiaaDoor.V
structure tY where
 kd:Nat
 wh:Nat
 st:Nat
 ct:Nat
def Bo (n:Int) (x:tY):bD:=⟨(x.st:Int) % n,1+(x.ct:Int) % (n - (x.st:Int) % n)⟩
def kM (m:iq) (x:tY):iq :=
 { m with log:=Je m.log (Bo m.log.size x),st:=if bgS m.log (Bo m.log.size x) then mg (Je m.log (Bo m.log.size x)) else m.st,ws:=m.ws++[⟨Bo m.log.size x,false,false,m.nx+1⟩],nx:=m.nx+1 }
def Gw (l:List Int) (e:bD) (v:Int):List Int:=l.mapIdx fun k x=>if rH e k then v else x
def kS (x:tY) (w:Pnd):Pnd:=⟨w.e,w.f || decide (x.kd % 5=1),w.s || decide (x.kd % 5=2),w.v⟩
def mM (m:iq) (x:tY) (k:Nat) (w:Pnd):iq:={ m with a:=if x.kd % 5=1 then Gw m.a w.e w.v else m.a,b:=if x.kd % 5=2 then Gw m.b w.e w.v else m.b,ws:=m.ws.set k (kS x w) }
def Jp (m:iq) (k:Nat) (e:bD):iq:={ m with log:=JH sU nV m.log e,ok:=m.ok&&decide (BX nV m.log e=0),ws:=m.ws.take k++m.ws.drop (k+1) }
def Jq (m:iq) (x:tY):iq:={ m with log:=xH m.log,st:=if x.wh % 2=0 then mg (xH m.log) else m.st }
def EK (m:iq) (x:tY) (k:Nat) (w:Pnd):iq :=
 if x.kd % 5=3∧(kS x w).f=true∧(kS x w).s=true∧Gv (mM m x k w).ws k w.e 0=false then Jp (mM m x k w) k w.e else mM m x k w
def pU (m:iq) (x:tY):iq :=
 if x.kd % 5=0 then kM m x else if x.kd % 5=4 then Jq m x else
 match m.ws[x.wh % m.ws.length]? with
 |none=>m
 |some w=>EK m x (x.wh % m.ws.length) w
def xO (m:iq):Bool:=match m.ws[m.ws.length - 1]? with
 |none=>false
 |some p=>Gv m.ws (m.ws.length - 1) p.e 0
def PW (m:iq) (x:tY):iq:=if (pU m x).ws.length≤m.ws.length∨xO (pU m x)=false then pU m x else m
def tO (n g:Int) (k:Nat) (e:bD):Bool:=decide ((jd n g e).start≤(k:Int)∧(k:Int)<(jd n g e).start+(jd n g e).count)
structure Inv (n g:Int) (m:iq) (j:fZ) (c:Nat):Prop where
 ok:m.ok=true
 ms:jT m
 lg:gG m.log=true
 sz:m.log.size=n
 gr:m.log.aZ=g
 jl:gG j=true
 js:j.size=n
 jg:j.aZ=g
 st:m.st=mg j
 su:∀ k:Nat,bit m.log.bm.ws k=true→bit j.bm.ws k=true
 wf:∀ e∈m.ws.map (·.e),lZ n e=true
 ac:∀ k (h:k<m.log.act.length),m.log.act[k]=(((m.ws.map (·.e)).countP (tO n g k):Nat):Int)
 df:∀ s:Nat,s<60→m.a.getD s 0≠m.b.getD s 0→∃ e∈m.ws.map (·.e),rH e s=true
 ds:(m.ws.map (·.e)).Pairwise fun p q=>ovE p q=false
 va:∀ p∈m.ws,p.f=true→∀ s:Nat,rH p.e s=true→m.a.getD s 0=p.v
 vb:∀ p∈m.ws,p.s=true→∀ s:Nat,rH p.e s=true→m.b.getD s 0=p.v
 wl:m.ws.length≤c
 nx:0≤m.nx∧m.nx≤c
theorem Inv.mono {n g:Int} {m:iq} {j:fZ} {c d:Nat} (h:Inv n g m j c) (hd:c≤d):Inv n g m j d :=
 { h with wl:=Nat.le_trans h.wl hd,nx:=⟨h.nx.1,by have:=h.nx.2;omega⟩ }
theorem wE {e:bD} {s:Nat}:rH e s=true ↔ 0<e.count∧e.start≤(s:Int)∧(s:Int)<e.start+e.count:=by unfold rH;simp [and_assoc]
theorem afC {p q:bD} {s:Nat} (h1:rH p s=true) (h2:rH q s=true):ovE p q=true:=by
 have a:=wE.1 h1
 have b:=wE.1 h2
 unfold ovE
 simp only [Bool.and_eq_true,decide_eq_true_eq];omega
theorem MR (p q:bD):ovE p q=ovE q p:=by unfold ovE;rw [Bool.and_comm]
theorem ah5 {n g:Int} (hs:lI n g=true) {e:bD} (hb:lZ n e=true) {s:Nat} (h:rH e s=true):tO n g ((s:Int) / g).toNat e=true:=by
 obtain ⟨h1,h2,h3,h4⟩:=bT.1 hs
 have a:=wE.1 h
 have k0:0≤(s:Int) / g:=Int.ediv_nonneg (by omega) (by omega)
 have k1:e.start / g≤(s:Int) / g:=Int.ediv_le_ediv (by omega) a.2.1
 have k2:(s:Int) / g≤(e.start+e.count - 1) / g:=Int.ediv_le_ediv (by omega) (by omega)
 unfold tO jd
 rw [if_pos hb]
 simp only [decide_eq_true_eq]
 omega
theorem Inv.n60 {n g:Int} {m:iq} {j:fZ} {c:Nat} (h:Inv n g m j c):lI n g=true:=by
 have:=(bU.1 h.lg).1
 rwa [h.sz,h.gr] at this
theorem count_le {α:Type} (l:List α) (p:α→Bool):l.countP p≤l.length:=List.countP_le_length
theorem VB {α:Type} {l:List α} {p:α→Bool} {x:α} (hx:x∈l) (hp:p x=true):1≤l.countP p:=List.countP_pos_iff.2 ⟨x,hx,hp⟩
theorem ac4 {n g:Int} {m:iq} {j:fZ} {c:Nat} (h:Inv n g m j c):EJ n g m.st=0∧∀ s:Nat,s<60→(s:Int)<n→m.a.getD s 0≠m.b.getD s 0→tK (rcL n g m.st) s=true:=by
 obtain ⟨r1,r2,r3,r4,r5⟩:=Ry h.jl
 rw [h.js,h.jg] at r2 r4
 rw [h.st]
 refine ⟨r2,fun s h60 hs hd=>?_⟩
 rw [r4 s (by omega)]
 obtain ⟨e,he,hi⟩:=h.df s h60 hd
 have hb:=h.wf e he
 have ht:=ah5 h.n60 hb hi
 obtain ⟨i1,i2,i3,i4,i5⟩:=bU.1 h.lg
 obtain ⟨q1,q2,q3,q4⟩:=bT.1 h.n60
 have k0:0≤(s:Int) / g:=Int.ediv_nonneg (by omega) (by omega)
 obtain ⟨t1,t2,t3⟩:=zS h.n60 hb
 have hkl:((s:Int) / g).toNat<m.log.act.length:=by
  unfold tO at ht
  simp only [decide_eq_true_eq] at ht
  rw [h.sz,h.gr] at i2
  omega
 have hp:0<m.log.act[((s:Int) / g).toNat]:=by
  rw [h.ac _ hkl]
  have:=VB he ht
  omega
 have hg:=(yV (i5 _ hkl)).2 hp
 rw [mJ i3] at hg
 have hj:=h.su _ hg
 have:=mJ (bU.1 h.jl).2.2.1 ((s:Int) / g).toNat
 rw [hj,show (((((s:Int) / g).toNat):Nat):Int)=(s:Int) / g by omega] at this
 exact this
theorem PX {n:Int} (hn:1≤n) (x:tY):lZ n (Bo n x)=true:=by
 have a:=Int.emod_nonneg (x.st:Int) (show n≠0 by omega)
 have b:=Int.emod_lt_of_pos (x.st:Int) (show 0<n by omega)
 have c:=Int.emod_nonneg (x.ct:Int) (show n - (x.st:Int) % n≠0 by omega)
 have d:=Int.emod_lt_of_pos (x.ct:Int) (show 0<n - (x.st:Int) % n by omega)
 unfold Bo
 refine iI.2 ⟨a,?_,b,?_⟩<;>(simp only;omega)
theorem PY {n g:Int} {e:bD} {s c:Nat} (ht:jd n g e=⟨(s:Int),(c:Int)⟩) (k:Nat):tO n g k e=decide (s≤k∧k<s+c):=by
 unfold tO
 rw [ht]
 apply decide_eq_decide.2
 simp only;omega
theorem aag {n g:Int} {m:iq} {j:fZ} {c:Nat} (h:Inv n g m j c) (hc:c<4096) {e:bD} (hb:lZ n e=true):Zt m.log e=0:=by
 have hb':lZ m.log.size e=true:=by rw [h.sz];exact hb
 obtain ⟨s,q,ht,k1,k2,k3⟩:=wC h.lg hb'
 unfold Zt
 rw [(y5 (v:=xE) h.lg hb' ht).1]
 rcases pO pY k2 with ⟨h1,_⟩|⟨i,hi,_,h2,_⟩
 ·exact h1
 ·exfalso
  apply h2
  unfold pY
  rw [if_neg]
  rw [h.ac]
  have:=count_le (m.ws.map (·.e)) (tO n g (s+i))
  have:=h.wl
  simp only [List.length_map] at *
  omega
theorem aah {ws:List Pnd} {p:Pnd} (h:Gv (ws++[p]) ws.length p.e 0=false):∀ q∈ws,ovE q.e p.e=false:=fun q hq=>by
 obtain ⟨i,hi,rfl⟩:=List.getElem_of_mem hq
 unfold Gv at h
 rw [List.drop_zero,List.any_eq_false] at h
 have:=h (ws[i],i) (by
  rw [List.mem_iff_getElem?]
  exact ⟨i,by simp [List.getElem?_append_left hi,List.getElem?_eq_getElem hi]⟩)
 simp only [Bool.and_eq_true,decide_eq_true_eq,not_and,Bool.not_eq_true] at this
 rw [MR]
 exact this (by omega)
theorem MS {m:iq} {ws:List Pnd} {p:Pnd} (hw:m.ws=ws++[p]):xO m=Gv (ws++[p]) ws.length p.e 0:=by
 unfold xO
 rw [hw]
 simp
theorem ac5 {n g:Int} {m:iq} {j:fZ} {c:Nat} (h:Inv n g m j c) (hc:c<4096) {x:tY} (ho:xO (kM m x)=false):∃ j',Inv n g (kM m x) j' (c+1):=by
 obtain ⟨z1,z2,z3,z4⟩:=bT.1 h.n60
 have hb:lZ n (Bo n x)=true:=PX z1 x
 have hE:=aag h hc hb
 have hb':lZ m.log.size (Bo n x)=true:=by rw [h.sz];exact hb
 obtain ⟨s,q,ht,k1,k2,k3⟩:=wC h.lg hb'
 obtain ⟨e1,ok1⟩:=ad2 h.lg hb' ht hE
 have htn:jd n g (Bo n x)=⟨(s:Int),(q:Int)⟩:=by rw [h.sz,h.gr] at ht;exact ht
 have hbm:=(bU.1 h.lg).2.2.1
 have ah6:=Rt hbm k3
 rw [MS (m:=kM m x) (ws:=m.ws) (p:=⟨Bo m.log.size x,false,false,m.nx+1⟩) rfl] at ho
 have hds:=aah ho
 have hsub:bgS m.log (Bo n x)=false→∀ k:Nat,bit (Je m.log (Bo n x)).bm.ws k=true→bit m.log.bm.ws k=true:=fun hS k hk=>by
  rw [e1] at hk
  simp only at hk
  rw [ah6] at hk
  unfold bgS at hS
  rw [decide_eq_true hE,Bool.true_and,ht] at hS
  cases hx:bit m.log.bm.ws k with
  |true=>rfl
  |false =>
   rw [hx,Bool.false_or,decide_eq_true_eq] at hk
   simp only at hk
   have:newG m.log.bm (s:Int) (Int.toNat (q:Int))=true:=aaf.2 ⟨k - s,by omega,by rw [show ((s:Int)+((k - s:Nat):Int))=((k:Nat):Int) by omega,mJ hbm];exact hx⟩
   simp only at hS
   rw [this] at hS;cases hS
 have key:∀ j',gG j'=true→j'.size=n→j'.aZ=g→(kM m x).st=mg j'→(∀ k:Nat,bit (Je m.log (Bo n x)).bm.ws k=true→bit j'.bm.ws k=true)→Inv n g (kM m x) j' (c+1):=fun j' a1 a2 a3 a4 a5=>by
  have hl:(kM m x).log=Je m.log (Bo n x):=by unfold kM;rw [h.sz]
  have hw:(kM m x).ws.map (·.e)=m.ws.map (·.e)++[Bo n x]:=by unfold kM;rw [h.sz];simp
  have hwl:(kM m x).ws.length=m.ws.length+1:=by unfold kM;simp
  refine ⟨h.ok,h.ms,by rw [hl];exact ok1,by rw [hl,e1];exact h.sz,by rw [hl,e1];exact h.gr,a1,a2,a3,a4,by rw [hl];exact a5,?_,?_,?_,?_,?_,?_,?_,?_⟩
  ·rw [hw];intro e he
   rcases List.mem_append.1 he with he|he
   ·exact h.wf e he
   ·rw [List.mem_singleton.1 he];exact hb
  ·rw [hw]
   intro k hk
   have hk':k<m.log.act.length:=by rw [hl,e1] at hk;simpa only [dU] using hk
   have:(kM m x).log.act[k]=(jS xE m.log.act s q)[k]'(by rw [dU];exact hk'):=by
    congr 1
    rw [hl,e1]
   rw [this,nX,List.countP_append,List.countP_singleton,PY htn,h.ac k hk']
   have hcc:=count_le (m.ws.map (·.e)) (tO n g k)
   have:=h.wl
   simp only [List.length_map] at hcc
   by_cases cc:s≤k∧k<s+q
   ·rw [if_pos cc,decide_eq_true cc]
    unfold xE
    rw [if_neg (by omega)]
    simp
   ·rw [if_neg cc,decide_eq_false cc]
    simp
  ·rw [hw];intro t h60 hd
   obtain ⟨e,he,hi⟩:=h.df t h60 hd
   exact ⟨e,List.mem_append_left _ he,hi⟩
  ·rw [hw]
   refine List.pairwise_append.2 ⟨h.ds,List.pairwise_singleton _ _,fun a ha b hb2=>?_⟩
   rw [List.mem_singleton.1 hb2]
   obtain ⟨p,hp,rfl⟩:=List.mem_map.1 ha
   have:=hds p hp
   simp only [h.sz] at this
   exact this
  ·intro p hp hf
   rcases List.mem_append.1 (show p∈m.ws++_ from hp) with hp|hp
   ·exact h.va p hp hf
   ·rw [List.mem_singleton.1 hp] at hf;cases hf
  ·intro p hp hf
   rcases List.mem_append.1 (show p∈m.ws++_ from hp) with hp|hp
   ·exact h.vb p hp hf
   ·rw [List.mem_singleton.1 hp] at hf;cases hf
  ·have:=h.wl;omega
  ·have:=h.nx
   show 0≤m.nx+1∧m.nx+1≤_
   omega
 cases hS:bgS m.log (Bo n x) with
 |true=>exact ⟨Je m.log (Bo n x),key _ ok1 (by rw [e1];exact h.sz) (by rw [e1];exact h.gr) (by unfold kM;rw [h.sz,hS];rfl) fun k hk=>hk⟩
 |false=>exact ⟨j,key j h.jl h.js h.jg (by unfold kM;rw [h.sz,hS];exact h.st) fun k hk=>h.su k (hsub hS k hk)⟩
theorem MV {i:fZ} (h:gG i=true):gG (xH i)=true∧(xH i).size=i.size∧(xH i).aZ=i.aZ∧(xH i).act=i.act∧∀ k:Nat,bit (xH i).bm.ws k=true→bit i.bm.ws k=true:=by
 obtain ⟨h1,h2,h3,h4,h5⟩:=bU.1 h
 obtain ⟨q1,q2,q3,q4⟩:=Z8 h i.act.length (Nat.le_refl _)
 have e:xH i={ i with bm:=(gq i i.act.length).1 }:=by unfold xH;rw [if_pos h]
 rw [e]
 refine ⟨bU.2 ⟨h1,h2,q1,q2.trans h4,fun g hg=>?_⟩,rfl,rfl,rfl,fun k hk=>?_⟩
 ·obtain ⟨r1,r2⟩:=yV (h5 g hg)
  unfold DR
  simp only
  rw [decide_eq_false (by omega),decide_eq_false (by omega)]
  by_cases c0:0<i.act[g]
  ·have:=r2 c0
   rw [mJ h3] at this
   rw [mJ q1,q3,this]
   have hz:¬ (g<i.act.length∧i.act.getD g 0=0):=by
    rintro ⟨_,hz⟩
    rw [List.getD_eq_getElem?_getD,List.getElem?_eq_getElem hg] at hz
    simp only [Option.getD_some] at hz
    omega
   rw [decide_eq_false hz]
   simp
  ·rw [decide_eq_false (by omega)]
   simp
 ·simp only at hk
  rw [q3] at hk
  exact (Bool.and_eq_true _ _ ▸ hk).1
theorem RH {n g:Int} {m:iq} {j:fZ} {c:Nat} (h:Inv n g m j c) (x:tY):∃ j',Inv n g (Jq m x) j' (c+1):=by
 obtain ⟨k1,k2,k3,k4,k5⟩:=MV h.lg
 have key:∀ j',gG j'=true→j'.size=n→j'.aZ=g→(Jq m x).st=mg j'→(∀ k:Nat,bit (xH m.log).bm.ws k=true→bit j'.bm.ws k=true)→Inv n g (Jq m x) j' (c+1):=fun j' a1 a2 a3 a4 a5 =>
  ⟨h.ok,h.ms,k1,k2.trans h.sz,k3.trans h.gr,a1,a2,a3,a4,a5,h.wf,fun k hk=>by
   have hk':k<m.log.act.length:=by rw [← k4];exact hk
   refine Eq.trans ?_ (h.ac k hk')
   have:(Jq m x).log.act=m.log.act:=k4
   congr 1,h.df,h.ds,h.va,h.vb,by have:=h.wl;show m.ws.length≤_;omega,by have:=h.nx;show 0≤m.nx∧m.nx≤_;omega⟩
 by_cases cw:x.wh % 2=0
 ·exact ⟨xH m.log,key _ k1 (k2.trans h.sz) (k3.trans h.gr) (by unfold Jq;rw [if_pos cw]) fun k hk=>hk⟩
 ·exact ⟨j,key j h.jl h.js h.jg (by unfold Jq;rw [if_neg cw];exact h.st) fun k hk=>h.su k (k5 k hk)⟩
theorem wF (l:List Int) (e:bD) (v:Int):(Gw l e v).length=l.length:=by simp [Gw]
theorem aai {l:List Int} {e:bD} {v:Int} {s:Nat} (h:s<l.length):(Gw l e v).getD s 0=if rH e s then v else l.getD s 0:=by
 rw [List.getD_eq_getElem?_getD,List.getD_eq_getElem?_getD,List.getElem?_eq_getElem (by rw [wF];exact h),List.getElem?_eq_getElem h]
 simp [Gw]
theorem aaj {n g:Int} {m:iq} {j:fZ} {c:Nat} (h:Inv n g m j c) (hn:n≤60) {e:bD} (he:e∈m.ws.map (·.e)) {s:Nat} (hi:rH e s=true):s<60:=by
 have a:=iI.1 (h.wf e he)
 have b:=wE.1 hi
 omega
theorem D5 {ws:List Pnd} {k:Nat} {w v:Pnd} (hk:ws[k]?=some w) (he:v.e=w.e):(ws.set k v).map (·.e)=ws.map (·.e):=by
 apply List.ext_getElem?
 intro i
 rw [List.getElem?_map,List.getElem?_map,List.getElem?_set]
 split
 ·rename_i hik
  subst hik
  have hl:=(List.getElem?_eq_some_iff.1 hk).1
  rw [if_pos hl,hk]
  simp [he]
 ·rfl
theorem Jr {n g:Int} {m:iq} {j:fZ} {c:Nat} (h:Inv n g m j c) (hn:n≤60) (x:tY) {k:Nat} {w:Pnd} (hk:m.ws[k]?=some w):Inv n g (mM m x k w) j (c+1):=by
 have hE:(mM m x k w).ws.map (·.e)=m.ws.map (·.e):=D5 hk rfl
 obtain ⟨hkl,hkw⟩:=List.getElem?_eq_some_iff.1 hk
 have hmem:w∈m.ws:=List.mem_of_getElem? hk
 have ha:(mM m x k w).a=if x.kd % 5=1 then Gw m.a w.e w.v else m.a:=rfl
 have hb:(mM m x k w).b=if x.kd % 5=2 then Gw m.b w.e w.v else m.b:=rfl
 have la:(mM m x k w).a.length=60:=by
  rw [ha];split
  ·rw [wF];exact h.ms.1
  ·exact h.ms.1
 have lb:(mM m x k w).b.length=60:=by
  rw [hb];split
  ·rw [wF];exact h.ms.2
  ·exact h.ms.2
 have ga:∀ s,s<60→(mM m x k w).a.getD s 0=if x.kd % 5=1∧rH w.e s=true then w.v else m.a.getD s 0:=fun s hs=>by
  rw [ha]
  by_cases c1:x.kd % 5=1
  ·rw [if_pos c1,aai (by rw [h.ms.1];exact hs)]
   by_cases c2:rH w.e s=true
   ·rw [if_pos c2,if_pos ⟨c1,c2⟩]
   ·rw [if_neg c2,if_neg (fun q=>c2 q.2)]
  ·rw [if_neg c1,if_neg (fun q=>c1 q.1)]
 have gb:∀ s,s<60→(mM m x k w).b.getD s 0=if x.kd % 5=2∧rH w.e s=true then w.v else m.b.getD s 0:=fun s hs=>by
  rw [hb]
  by_cases c1:x.kd % 5=2
  ·rw [if_pos c1,aai (by rw [h.ms.2];exact hs)]
   by_cases c2:rH w.e s=true
   ·rw [if_pos c2,if_pos ⟨c1,c2⟩]
   ·rw [if_neg c2,if_neg (fun q=>c2 q.2)]
  ·rw [if_neg c1,if_neg (fun q=>c1 q.1)]
 have dis:∀ (i:Nat) (p:Pnd),m.ws[i]?=some p→i≠k→∀ s,rH p.e s=true→rH w.e s=false:=fun i p hp hik s hs=>by
  rw [Bool.eq_false_iff]
  intro hw
  obtain ⟨hil,hiw⟩:=List.getElem?_eq_some_iff.1 hp
  have hpw:=List.pairwise_iff_getElem.1 h.ds
  have hov:=afC hs hw
  rcases Nat.lt_or_ge i k with cc|cc
  ·have:=hpw i k (by simpa using hil) (by simpa using hkl) cc
   simp only [List.getElem_map,hiw,hkw] at this
   rw [this] at hov;cases hov
  ·have:=hpw k i (by simpa using hkl) (by simpa using hil) (by omega)
   simp only [List.getElem_map,hiw,hkw] at this
   rw [MR,this] at hov;cases hov
 refine ⟨h.ok,⟨la,lb⟩,h.lg,h.sz,h.gr,h.jl,h.js,h.jg,h.st,h.su,by rw [hE];exact h.wf,fun q hq=>by rw [hE];exact h.ac q hq,fun s h60 hd=>?_,by rw [hE];exact h.ds,fun p hp hf s hs=>?_,fun p hp hf s hs=>?_,?_,?_⟩
 ·rw [hE]
  by_cases cw:rH w.e s=true
  ·exact ⟨w.e,List.mem_map_of_mem hmem,cw⟩
  ·rw [ga s h60,gb s h60,if_neg (fun q=>cw q.2),if_neg (fun q=>cw q.2)] at hd
   exact h.df s h60 hd
 ·obtain ⟨i,hi,rfl⟩:=List.getElem_of_mem (show p∈m.ws.set k (kS x w) from hp)
  have hi':i<m.ws.length:=by simpa using hi
  have h60:s<60:=aaj h hn (e:=(m.ws.set k (kS x w))[i].e) (by rw [← D5 hk (v:=kS x w) rfl];exact List.mem_map_of_mem (List.getElem_mem hi)) hs
  rw [ga s h60]
  rw [List.getElem_set] at hf hs ⊢
  by_cases cik:k=i
  ·rw [if_pos cik] at hf hs ⊢
   by_cases c1:x.kd % 5=1
   ·rw [if_pos ⟨c1,hs⟩];rfl
   ·rw [if_neg (fun q=>c1 q.1)]
    refine h.va w hmem ?_ s hs
    unfold kS at hf
    simpa [c1] using hf
  ·rw [if_neg cik] at hf hs ⊢
   rw [if_neg (fun q=>by have:=dis i m.ws[i] (List.getElem?_eq_getElem hi') (fun e=>cik e.symm) s hs;rw [this] at q;cases q.2)]
   exact h.va _ (List.getElem_mem hi') hf s hs
 ·obtain ⟨i,hi,rfl⟩:=List.getElem_of_mem (show p∈m.ws.set k (kS x w) from hp)
  have hi':i<m.ws.length:=by simpa using hi
  have h60:s<60:=aaj h hn (e:=(m.ws.set k (kS x w))[i].e) (by rw [← D5 hk (v:=kS x w) rfl];exact List.mem_map_of_mem (List.getElem_mem hi)) hs
  rw [gb s h60]
  rw [List.getElem_set] at hf hs ⊢
  by_cases cik:k=i
  ·rw [if_pos cik] at hf hs ⊢
   by_cases c1:x.kd % 5=2
   ·rw [if_pos ⟨c1,hs⟩];rfl
   ·rw [if_neg (fun q=>c1 q.1)]
    refine h.vb w hmem ?_ s hs
    unfold kS at hf
    simpa [c1] using hf
  ·rw [if_neg cik] at hf hs ⊢
   rw [if_neg (fun q=>by have:=dis i m.ws[i] (List.getElem?_eq_getElem hi') (fun e=>cik e.symm) s hs;rw [this] at q;cases q.2)]
   exact h.vb _ (List.getElem_mem hi') hf s hs
 ·have:=h.wl
  show (m.ws.set k (kS x w)).length≤_
  rw [List.length_set];omega
 ·have:=h.nx
  show 0≤m.nx∧m.nx≤_
  omega
theorem Js {n g:Int} {m:iq} {j:fZ} {c:Nat} (h:Inv n g m j c) (hn:n≤60) {k:Nat} {w:Pnd} (hk:m.ws[k]?=some w) (hf:w.f=true) (hs:w.s=true):Inv n g (Jp m k w.e) j c∧BX nV m.log w.e=0:=by
 obtain ⟨hkl,hkw⟩:=List.getElem?_eq_some_iff.1 hk
 have hmem:w∈m.ws:=List.mem_of_getElem? hk
 have hb:lZ n w.e=true:=h.wf _ (List.mem_map_of_mem hmem)
 have hb':lZ m.log.size w.e=true:=by rw [h.sz];exact hb
 obtain ⟨s,q,ht,k1,k2,k3⟩:=wC h.lg hb'
 have htn:jd n g w.e=⟨(s:Int),(q:Int)⟩:=by rw [h.sz,h.gr] at ht;exact ht
 have hsplit:m.ws=m.ws.take k++w :: m.ws.drop (k+1):=by
  rw [← hkw,← List.drop_eq_getElem_cons hkl,List.take_append_drop]
 have hcnt:∀ i:Nat,(m.ws.map (·.e)).countP (tO n g i)=((m.ws.take k++m.ws.drop (k+1)).map (·.e)).countP (tO n g i)+if tO n g i w.e then 1 else 0:=fun i=>by
  conv=>lhs;rw [hsplit]
  simp only [List.map_append,List.map_cons,List.countP_append,List.countP_cons]
  omega
 have hE:BX nV m.log w.e=0:=by
  rw [(y5 (v:=sU) h.lg hb' ht).1]
  rcases pO nV k2 with ⟨h1,_⟩|⟨i,hi,_,h2,_⟩
  ·exact h1
  ·exfalso
   apply h2
   unfold nV
   rw [if_neg]
   rw [h.ac,hcnt,PY htn,decide_eq_true (by omega)]
   simp only [if_true]
   omega
 obtain ⟨e1,ok1⟩:=ah2 h.lg hb' ht hE
 have hsub:(m.ws.take k++m.ws.drop (k+1)).Sublist m.ws:=by
  conv=>rhs;rw [hsplit]
  exact List.Sublist.append_left (List.sublist_cons_self _ _) _
 have hl:(Jp m k w.e).log=JH sU nV m.log w.e:=rfl
 have hw:(Jp m k w.e).ws=m.ws.take k++m.ws.drop (k+1):=rfl
 refine ⟨⟨?_,h.ms,by rw [hl];exact ok1,by rw [hl,e1];exact h.sz,by rw [hl,e1];exact h.gr,h.jl,h.js,h.jg,h.st,by rw [hl,e1];exact h.su,fun e he=>?_,fun i hi=>?_,fun t h60 hd=>?_,?_,fun p hp=>h.va p (hsub.subset hp),fun p hp=>h.vb p (hsub.subset hp),?_,h.nx⟩,hE⟩
 ·show (m.ok&&decide _)=true
  rw [h.ok,decide_eq_true hE];rfl
 ·rw [hw] at he
  exact h.wf e ((hsub.map _).subset he)
 ·have hi':i<m.log.act.length:=by rw [hl,e1] at hi;simpa only [dU] using hi
  have:(Jp m k w.e).log.act[i]=(jS sU m.log.act s q)[i]'(by rw [dU];exact hi'):=by
   congr 1
   rw [hl,e1]
  rw [this,nX,h.ac i hi',hcnt,PY htn,hw]
  by_cases cc:s≤i∧i<s+q
  ·rw [if_pos cc,decide_eq_true cc]
   unfold sU
   simp only [if_true]
   rw [if_neg (by omega)]
   omega
  ·rw [if_neg cc,decide_eq_false cc]
   simp
 ·obtain ⟨e,he,hi⟩:=h.df t h60 hd
  rw [hsplit] at he
  simp only [List.map_append,List.map_cons,List.mem_append,List.mem_cons] at he
  rw [hw,List.map_append]
  rcases he with he|he|he
  ·exact ⟨e,List.mem_append_left _ he,hi⟩
  ·exfalso
   subst he
   apply hd
   show m.a.getD t 0=m.b.getD t 0
   rw [h.va w hmem hf t hi,h.vb w hmem hs t hi]
  ·exact ⟨e,List.mem_append_right _ he,hi⟩
 ·rw [hw]
  exact h.ds.sublist (hsub.map _)
 ·rw [hw]
  exact Nat.le_trans hsub.length_le h.wl
theorem ac6 {n g:Int} {m:iq} {j:fZ} {c:Nat} (h:Inv n g m j c) (hn:n≤60) (hc:c<4096) (x:tY):∃ j',Inv n g (PW m x) j' (c+1):=by
 unfold PW
 by_cases hk0:x.kd % 5=0
 ·have e:pU m x=kM m x:=by unfold pU;rw [if_pos hk0]
  rw [e]
  split
  ·rename_i hh
   have:¬ (kM m x).ws.length≤m.ws.length:=by unfold kM;simp
   exact ac5 h hc (hh.resolve_left this)
  ·exact ⟨j,h.mono (by omega)⟩
 ·have hstp:∃ j',Inv n g (pU m x) j' (c+1):=by
   unfold pU
   rw [if_neg hk0]
   split
   ·exact RH h x
   ·split
    ·exact ⟨j,h.mono (by omega)⟩
    ·rename_i w hw
     have h1:=Jr h hn x hw
     unfold EK
     split
     ·rename_i hh
      obtain ⟨c1,c2,c3,c4⟩:=hh
      have hlt:x.wh % m.ws.length<m.ws.length:=(List.getElem?_eq_some_iff.1 hw).1
      exact ⟨j,(Js h1 hn (w:=kS x w) (show (m.ws.set _ _)[_]?=_ by rw [List.getElem?_set_self hlt]) c2 c3).1⟩
     ·exact ⟨j,h1⟩
  split
  ·exact hstp
  ·exact ⟨j,h.mono (by omega)⟩
def runM (m:iq) (l:List tY):iq:=l.foldl PW m
theorem VD (m:iq) (l:List tY) (x:tY):runM m (l++[x])=PW (runM m l) x:=by simp [runM]
theorem VE (m:iq) (x:tY) (l:List tY):runM m (x :: l)=runM (PW m x) l:=rfl
theorem RI {n g:Int} (hn:n≤60):∀ (l:List tY) {m:iq} {j:fZ} {c:Nat},Inv n g m j c→c+l.length≤4096→∃ j',Inv n g (runM m l) j' (c+l.length)
 |[],m,j,c,h,_=>⟨j,h⟩
 |x :: l,m,j,c,h,hc=>by
  simp only [List.length_cons] at hc
  obtain ⟨j',h'⟩:=ac6 h hn (by omega) x
  obtain ⟨j2,h2⟩:=RI hn l h' (by omega)
  exact ⟨j2,by rw [VE,List.length_cons,show c+(l.length+1)=c+1+l.length by omega];exact h2⟩
def MX (n g:Int):iq:=⟨jG n g,mg (jG n g),List.replicate 60 0,List.replicate 60 0,[],0,true⟩
theorem ac7 {n g:Int} (h:lI n g=true):Inv n g (MX n g) (jG n g) 0:=by
 obtain ⟨e1,-,ok⟩:=Jm h
 refine ⟨rfl,⟨by simp [MX],by simp [MX]⟩,ok,by show (jG n g).size=n;rw [e1],by show (jG n g).aZ=g;rw [e1],ok,by rw [e1],by rw [e1],rfl,fun k hk=>hk,fun e he=>by simp [MX] at he,fun k hk=>?_,fun s h60 hd=>by simp [MX] at hd,by simp [MX],fun p hp=>by simp [MX] at hp,fun p hp=>by simp [MX] at hp,by simp [MX],by simp [MX]⟩
 have:(MX n g).log.act=List.replicate (lY n g).toNat 0:=by show (jG n g).act=_;rw [e1]
 simp only [this,List.getElem_replicate]
 simp [MX]
end Go.Proofs.YtdahanchdjadiaaDoor.V
