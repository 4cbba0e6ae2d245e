/-
  Part 4 of the texts that the statement stands on.
-/
import Derived.Test.YtioijcfcehhmdaaGreatDoorZ3
import Derived.ProofKit
import Derived.SizedLaws
import Derived.OpenShut
import Derived.Deep.Strs
import Derived.IntWalk
import Derived.Sort.Defs
import Derived.Lib.BitFns
import Derived.Shelf.Lays7
import Derived.Ground.Names7Prog
import Derived.Test.YtioijcfcehhmdaaGreatDoorProg
import Derived.Shelf.Spec.TrailingZeros
set_option linter.all false
open And renaming intro → Zs
open List renaming getElem?_eq_getElem → ZS, length_map → Z2, getElem?_eq_some_iff → Z6, length_cons → za, getElem?_map → zb, drop_eq_getElem_cons → zw, all_eq_true → zE, getElem?_append_right → zP, getElem_mem → zR, mem_of_getElem? → Zab, length_take → Zac, getElem?_append_left → Zad, getD_eq_getElem?_getD → Zag, map_nil → Zai, map_cons → Zaj, replicate → Zal, mem_singleton → Zav, all_cons → Zaw, eq_nil_of_length_eq_zero → Zaz, take_length → ZaI, map_append → ZaK, take_zero → ZaQ, drop_length → ZaT, mem_iff_getElem? → ZaZ, drop_zero → Za5, take_append_drop → Zbc, take_of_length_le → Zbm, pairwise_iff_getElem → Zb2, map_map → Zb5, pairwise_cons → Zb7, zip_cons_cons → Zcq, mapM_cons → Zcs, cons → ZcH, drop_drop → ZcX, foldl_nil → ZcY, any_cons → Zda, take_nil → ZdC, any_map → ZdM, findIdx_cons → ZdW
open Bool renaming and_eq_true → ZZ, false_eq_true → zg, true_and → zm, not_eq_true' → ZaR, or_eq_true → Za7, false_and → Za8, false_or → Zcg, not_eq_false' → Zco, or_false → ZcC, true_or → Zdg, decide_and → Zdo
open Nat renaming beq → Z1, le_refl → ze, zero_add → Zan, zero_le → ZaM, eq_zero_or_pos → ZbR
open Int renaming lt_irrefl → Zap, toNat_of_nonneg → ZbB, le_refl → Zb9
open Option renaming map_eq_some_iff → Zat, bind_eq_some_iff → Za6, bind_some → Zbl, bind → Zcz
namespace Go.Proofs.YtioijcfcehhmdaaGreatDoor
open Go.RowKit Go.ChangeShapes Go.WideShapes Go.ChangeAt
theorem SG {T:Tags}{w:World}{b:Bool}{v:Value}(h:kG T w [(.bool b,false)] v):v=.bool b:=by
 obtain ⟨arr,h1,h2,h3⟩:=h
 have ha:arr.size=1:=h1
 have e0:arr[0]?=some arr[0]:=Array.getElem?_eq_getElem (by omega)
 have hv:v=arr[0]:=by rw [h2,if_pos ha,Array.getD_eq_getD_getElem?,e0];rfl
 have hr:aA (fun b=>T b=.ro) w (.bool b) arr[0]:=h3 0 (.bool b,false) arr[0] rfl e0
 rw [hv]
 exact hr.iJ
def su (w:World):Prop:=kF (fun b=>if b<w.heap.size then .ro else .other) w
theorem WG {P:Program}{env:Env}{f:Nat}{args:List PV}{vs:List Value}{w:World}(hE:tY P env)(h:cal env f args=some [(.bool true,false)])(hl:vs.length=args.length)
  (hr:∀ (i:Nat) x v,args[i]?=some x→vs[i]?=some v→aA (fun b=>b<w.heap.size) w x v) (hG:su w):Calls P f vs.toArray w (fun e w'=>e=.returned (.bool true)∧Below w.heap.size w w'):=by
 obtain ⟨n,hn⟩:=lN h
 have hC:=(uZ hE hn).2 (fun b=>if b<w.heap.size then .ro else .other) w vs (fun b=>by
  by_cases hb:b<w.heap.size
  ·exact .inl (if_pos hb)
  ·exact .inr (if_neg hb)) (fun b hb=>if_neg (by omega)) hl (fun i x v hx hv=>(hr i x v hx hv).frame fun b hb _=>⟨if_pos hb,rfl⟩) hG
 refine hC.mono ?_
 rintro e w' ⟨v,T',rfl,h1,_,_,h2⟩
 exact ⟨by rw [SG h2],h1⟩
def Ib (w:World):List PV→List Value→Prop
 |[],[]=>True
 |x::xs,v::vs=>aA (fun b=>b<w.heap.size) w x v∧Ib w xs vs
 |_,_=>False
theorem Ib.get {w:World}:∀ {xs:List PV} {vs:List Value},Ib w xs vs→vs.length=xs.length∧∀ (i:Nat) x v,xs[i]?=some x→vs[i]?=some v→aA (fun b=>b<w.heap.size) w x v
 |[],[],_=>⟨rfl,fun i x v hx=>by simp at hx⟩
 |x::xs,v::vs,h=>by
  obtain ⟨h1,h2⟩:=h
  obtain ⟨k1,k2⟩:=h2.get
  refine ⟨by simp [k1],fun i y u hy hu=>?_⟩
  cases i with
  |zero=>cases hy;cases hu;exact h1
  |succ i=>exact k2 i y u hy hu
 |[],_::_,h=>h.elim
 |_::_,[],h=>h.elim
theorem Z8 {P:Program}{env:Env}{f:Nat}{args:List PV}{vs:List Value}{w:World}(hE:tY P env)(h:cal env f args=some [(.bool true,false)])(hr:Ib w args vs)(hG:su w:=by exact su.none):Calls P f vs.toArray w (fun e w'=>e=.returned (.bool true)∧Below w.heap.size w w') :=
 WG hE h hr.get.1 hr.get.2 hG
def Ot (w:World)(cs:List Value)(ps:List PV):Prop :=
 cs.length=ps.length∧(∀ c∈cs,c.oneCell'=true)∧∀ (j:Nat) x v,ps[j]?=some x→cs[j]?=some v→aA (fun b=>b<w.heap.size) w x v
def jc (P:Program)(t:TypeId)(n:Nat)(S:List PV→Prop):Prop :=
 P.cellsOf t=n∧∀ {H:Type} {enc:TypeId×Value→H} {w:World} {fuel:Nat} {cs:List Value} {x:DataW H×List MemPlace},DataW.trod enc P w 0 (fun _=>true) true fuel t cs=some x→∃ ps,S ps∧ps.length=n∧Ot w cs ps
def SInt (k:IntKind)(ps:List PV):Prop:=∃ n,(Lit.int k n).wf=true∧ps=[.int k n]
def aos (ps:List PV):Prop:=∃ b,ps=[.bool b]
def aot (n:Nat)(S:List PV→Prop)(ps:List PV):Prop:=ps.length=n∧∀ p∈ps,S [p]
def wrS (ps:List PV):PV:=ps.headD .void
def Ic (n:Nat)(S:List PV→Prop)(wr:List PV→PV)(ps:List PV):Prop:=∃ es,ps=[.list n es]∧∀ x∈es,∃ q,S q∧x=wr q
def WH:List (List PV→Prop)→List PV→Prop
 |[],ps=>ps=[]
 |S::Ss,ps=>∃ p q,ps=p++q∧S p∧WH Ss q
section
variable {P:Program}{t e:TypeId}{n m:Nat}{S:List PV→Prop}{k:IntKind}
theorem BK {w:World}{c:Value}{p:PV}(hc:c.oneCell'=true)(h:aA (fun b=>b<w.heap.size) w p c):Ot w [c] [p] :=
 ⟨rfl,fun x hx=>by rw [Zav.1 hx];exact hc,fun j x v hx hv=>by
  cases j with
  |zero=>cases hx;cases hv;exact h
  |succ j=>simp at hx⟩
theorem jc.int (ht:P.underlying t=some (.int k))(hc:P.cellsOf t=1):jc P t 1 (SInt k):=⟨hc,fun h=>by
 obtain ⟨n,rfl,_,hw⟩:=DataW.trod_int ht h
 exact ⟨[.int k n],⟨n,hw,rfl⟩,rfl,BK rfl (.int k n)⟩⟩
theorem jc.bool (ht:P.underlying t=some .bool)(hc:P.cellsOf t=1):jc P t 1 aos:=⟨hc,fun h=>by
 obtain ⟨b,rfl,_⟩:=DataW.trod_bool ht h
 exact ⟨[.bool b],⟨b,rfl⟩,rfl,BK rfl (.bool b)⟩⟩
theorem DK {α:Type}{p:Nat→α→Prop}:∀ n:Nat,(∀ i,i<n→∃ y,p i y)→∃ l:List α,l.length=n∧∀ i x,l[i]?=some x→p i x
 |0,_=>⟨[],rfl,fun i x h=>by simp at h⟩
 |n+1,h=>by
  obtain ⟨l,h1,h2⟩:=DK n fun i hi=>h i (by omega)
  obtain ⟨y,hy⟩:=h n (by omega)
  refine ⟨l++[y],by simp [h1],fun i x hx=>?_⟩
  by_cases hi:i<n
  ·rw [Zad (by omega)] at hx;exact h2 i x hx
  ·have:=(Z6.1 hx).1
   obtain rfl:i=n:=by simp at this;omega
   rw [zP (by omega),h1,Nat.sub_self] at hx
   cases hx
   exact hy
theorem jc.arr (ht:P.underlying t=some (.array n e))(he:jc P e 1 S)(hc:P.cellsOf t=n):jc P t n (aot n S):=⟨hc,fun {H enc w fuel cs x} h=>by
 obtain ⟨xs,m,_,_,hl,hx,hE⟩:=DataW.trod_array ht h
 rw [hc] at hl
 obtain ⟨l,h1,h2⟩:=DK (p:=fun i (b:PV)=>S [b]∧∃ c,cs[i]?=some c∧c.oneCell'=true∧aA (fun b=>b<w.heap.size) w b c) n fun i hi=>by
  have:=hE i hi
  rw [ZS (by omega),he.1] at this
  obtain ⟨ps,g1,g2,g3,g4,g5⟩:=he.2 this
  match ps,g2 with
  |[p],_ =>
   have hci:cs[i]?=some cs[i]:=ZS (by omega)
   have h0:((cs.drop (i*1)).take 1)[0]?=some cs[i]:=by
    rw [List.getElem?_take,if_pos (by decide),List.getElem?_drop]
    simpa using hci
   exact ⟨p,g1,cs[i],hci,g4 _ (Zab h0),g5 0 p _ rfl h0⟩
 refine ⟨l,⟨h1,fun p hp=>?_⟩,h1,by omega,fun c hc=>?_,fun j x v hx hv=>?_⟩
 ·obtain ⟨i,hi⟩:=ZaZ.1 hp
  exact (h2 i p hi).1
 ·obtain ⟨i,hi⟩:=ZaZ.1 hc
  have hil:i<l.length:=by
   have:=(Z6.1 hi).1
   omega
  obtain ⟨_,c',e1,e2,_⟩:=h2 i l[i] (ZS hil)
  rw [hi] at e1;cases e1;exact e2
 ·obtain ⟨_,c',e1,_,e3⟩:=h2 j x hx
  rw [hv] at e1;cases e1;exact e3⟩
theorem Ie {w:World}{b off:Nat}{v:Value}(h:w.cell? ⟨b,off,none⟩=some v):dD w b:=by
 unfold World.cell? at h
 split at h
 ·rename_i arr E q hb
  exact ⟨arr,E,q,hb⟩
 ·cases h
theorem jc.list {wr:List PV→PV}(ht:P.underlying t=some (.slice e))(hc:P.cellsOf t=1)(hr:jc P e n S)(hpos:0<n)(hw:∀ ps,S ps→ps.length=n→(wr ps).cells=ps):jc P t 1 (Ic n S wr):=⟨hc,fun {H enc w fuel cs x} h=>by
 rcases DataW.trod_slice ht h with ⟨rfl,_⟩|⟨a,len,cap,elems,rest,m,_,rfl,_,_,hl,hm,hel,hE,hR,_⟩
 ·exact ⟨[.list n []],⟨[],rfl,fun x hx=>by cases hx⟩,rfl,BK rfl (.nil n none)⟩
 ·obtain ⟨l,h1,h2⟩:=DK (p:=fun i (y:List Value×List PV)=>w.cells? 0 (a.add (i*n)) n=some y.1∧S y.2∧y.2.length=n∧Ot w y.1 y.2) len fun i hi=>by
   have:=hE i hi
   rw [ZS (by omega),hr.1,Za6] at this
   obtain ⟨c,h3,h4⟩:=this
   obtain ⟨ps,g1,g2,g3⟩:=hr.2 h4
   exact ⟨(c,ps),h3,g1,g2,g3⟩
  refine ⟨[.list n (l.map fun y=>wr y.2)],⟨_,rfl,fun x hx=>?_⟩,rfl,BK rfl ?_⟩
  ·obtain ⟨y,hy,rfl⟩:=List.mem_map.1 hx
   obtain ⟨i,hi⟩:=ZaZ.1 hy
   exact ⟨y.2,(h2 i y hi).2.1,rfl⟩
  ·by_cases hcap:cap=0
   ·have:len=0:=by omega
    subst hcap;subst this
    have:l=[]:=Zaz h1
    subst this
    exact .nil n (some a)
   ·-- there are cells
    have hcell:∃ off v,w.cell? ⟨a.block,off,none⟩=some v∧a.spot=none:=by
     have aj2:∀ (i:Nat) (c:List Value),w.cells? 0 (a.add (i*n)) n=some c→∃ off v,w.cell? ⟨a.block,off,none⟩=some v∧a.spot=none:=fun i c h3=>by
      obtain ⟨_,hc0,h4⟩:=World.cells?_some h3
      have h5:=h4 0 hpos
      rw [ZS (by omega)] at h5
      have hs:(a.add (i*n)).spot=none:=by simpa [Addr.add] using World.cell?_spot h5
      have hs0:a.spot=none:=by
       unfold Addr.add at hs
       split at hs
       ·exact hs
       ·rename_i hne
        by_cases h0:i*n=0
        ·rename_i q;exact absurd h0 (by simpa using hne)
        ·rcases ZbR i with hi0|hi0
         ·subst hi0;simp at h0
         ·-- the row begins at a: its first cell
          have:0<len∨len=0:=by omega
          rcases this with hlen|hlen
          ·obtain ⟨y,hy⟩:∃ y,l[0]?=some y:=⟨l[0],ZS (by omega)⟩
           obtain ⟨_,hc1,h6⟩:=World.cells?_some (h2 0 y hy).1
           have h7:=h6 0 hpos
           rw [ZS (by omega)] at h7
           simpa [Addr.add] using World.cell?_spot h7
          ·have hrl:0<rest.length:=by have:=(hR rfl).1;omega
           have:=(hR rfl).2 0 (by omega)
           have h8:rest[0]?=some rest[0]:=ZS hrl
           rw [h8,hr.1,hlen,Za6] at this
           obtain ⟨c1,h9,_⟩:=this
           obtain ⟨_,hc1,h6⟩:=World.cells?_some h9
           have h7:=h6 0 hpos
           rw [ZS (by omega)] at h7
           simpa [Addr.add] using World.cell?_spot h7
      obtain ⟨b,off,spot⟩:=a
      simp only at hs0
      subst hs0
      rw [Addr.add_lit,Addr.add_lit] at h5
      exact ⟨_,_,h5,rfl⟩
     rcases ZbR len with hlen|hlen
     ·have hrl:0<rest.length:=by have:=(hR rfl).1;omega
      have:=(hR rfl).2 0 (by omega)
      have h8:rest[0]?=some rest[0]:=ZS hrl
      rw [h8,hr.1,Za6] at this
      obtain ⟨c1,h9,_⟩:=this
      exact aj2 _ c1 h9
     ·obtain ⟨y,hy⟩:∃ y,l[0]?=some y:=⟨l[0],ZS (by omega)⟩
      exact aj2 0 _ (h2 0 y hy).1
    obtain ⟨auS,v0,hv0,hspot⟩:=hcell
    obtain ⟨b,off,spot⟩:=a
    simp only at hspot hv0
    subst hspot
    have hC:dD w b:=Ie hv0
    have hget:∀ (i:Nat) x,(l.map fun y=>wr y.2)[i]?=some x→∃ y,l[i]?=some y∧x=wr y.2:=fun i x hx=>by
     rw [zb] at hx
     cases e:l[i]? with
     |none=>rw [e] at hx;cases hx
     |some y=>rw [e] at hx;exact ⟨y,rfl,(Option.some.inj hx).symm⟩
    have hlen:(l.map fun y=>wr y.2).length=len:=by simp [h1]
    have:=aA.list (ok:=fun b=>b<w.heap.size) (w:=w) n (l.map fun y=>wr y.2) b off cap (fun i j=>(((l[i]?).map (·.1)).getD []).getD j default) hC.lt hC (by rw [hlen];exact hl) hm
     (fun x hx=>by
      obtain ⟨i,hi⟩:=ZaZ.1 hx
      obtain ⟨y,hy,rfl⟩:=hget i x hi
      obtain ⟨_,g1,g2,_⟩:=h2 i y hy
      rw [hw _ g1 g2,g2])
     (fun i x j p hi hj=>by
      obtain ⟨y,hy,rfl⟩:=hget i x hi
      obtain ⟨g0,g1,g2,g3,g4,g5⟩:=h2 i y hy
      rw [hw _ g1 g2] at hj
      have hjn:j<n:=by have:=(Z6.1 hj).1;omega
      obtain ⟨_,hc1,h6⟩:=World.cells?_some g0
      have h7:=h6 j hjn
      have hcj:y.1[j]?=some y.1[j]:=ZS (by omega)
      have hd:(((l[i]?).map (·.1)).getD []).getD j default=y.1[j]:=by
       rw [hy];simp [Zag,hcj]
      rw [hd]
      rw [hcj,Addr.add_lit,Addr.add_lit] at h7
      exact ⟨h7,g4 _ (Zab hcj)⟩)
     (fun i x j p hi hj=>by
      obtain ⟨y,hy,rfl⟩:=hget i x hi
      obtain ⟨g0,g1,g2,g3,g4,g5⟩:=h2 i y hy
      rw [hw _ g1 g2] at hj
      have hjn:j<n:=by have:=(Z6.1 hj).1;omega
      have hcj:y.1[j]?=some y.1[j]:=ZS (by omega)
      have hd:(((l[i]?).map (·.1)).getD []).getD j default=y.1[j]:=by
       rw [hy];simp [Zag,hcj]
      rw [hd]
      exact g5 j p _ hj hcj)
    rw [hlen] at this
    exact this⟩
theorem Ot.append {w:World}{c1 c2:List Value}{p1 p2:List PV}(h1:Ot w c1 p1)(h2:Ot w c2 p2):Ot w (c1++c2) (p1++p2):=by
 obtain ⟨a1,a2,a3⟩:=h1
 obtain ⟨b1,b2,b3⟩:=h2
 refine ⟨by simp [a1,b1],fun c hc=>?_,fun j x v hx hv=>?_⟩
 ·rcases List.mem_append.1 hc with h|h
  ·exact a2 c h
  ·exact b2 c h
 ·by_cases hj:j<p1.length
  ·rw [Zad hj] at hx
   rw [Zad (by omega)] at hv
   exact a3 j x v hx hv
  ·rw [zP (by omega)] at hx
   rw [zP (by omega),a1] at hv
   exact b3 _ x v hx hv
inductive SH (P:Program):Nat→List Field→List (List PV→Prop)→Nat→Prop
 |nil (o:Nat):SH P o [] [] 0
 |cons {o n m:Nat} {f:Field} {fs:List Field} {S:List PV→Prop} {Ss:List (List PV→Prop)}:f.offset=o→jc P f.type n S→SH P (o+n) fs Ss m→SH P o (f::fs) (S::Ss) (n+m)
theorem SH.read {o:Nat}{fs:List Field}{Ss:List (List PV→Prop)}(h:SH P o fs Ss m){H:Type}{enc:TypeId×Value→H}{w:World}{fuel:Nat}{cs:List Value}{xs:List (DataW H×List MemPlace)}(hl:cs.length=o+m)
  (hx:∀ (i:Nat) (f:Field),fs[i]?=some f→∃ x,DataW.trod enc P w 0 (fun _=>true) true fuel f.type ((cs.drop f.offset).take (P.cellsOf f.type))=some x):∃ ps,WH Ss ps∧ps.length=m∧Ot w (cs.drop o) ps:=by
 induction h with
 |nil o=>exact ⟨[],rfl,rfl,by rw [List.drop_of_length_le (by omega)];exact (⟨rfl,fun c hc=>(by cases hc),fun j x v hx=>(by simp at hx)⟩:Ot w [] [])⟩
 |@cons o n m f fs S Ss h1 h2 h3 ih =>
  obtain ⟨x,h4⟩:=hx 0 f rfl
  rw [h2.1,h1] at h4
  obtain ⟨p,g1,g2,g3⟩:=h2.2 h4
  obtain ⟨q,k1,k2,k3⟩:=ih (by omega) (fun i f hf=>hx (i+1) f hf)
  refine ⟨p++q,⟨p,q,rfl,g1,k1⟩,by simp [g2,k2],?_⟩
  have:cs.drop o=(cs.drop o).take n++cs.drop (o+n):=by rw [← ZcX,Zbc]
  rw [this]
  exact g3.append k3
theorem jc.struct {fs:Array Field}{Ss:List (List PV→Prop)}(ht:P.underlying t=some (.struct fs))(hf:SH P 0 fs.toList Ss n)(hc:P.cellsOf t=n):jc P t n (WH Ss):=⟨hc,fun {H enc w fuel cs x} h=>by
 obtain ⟨xs,m,_,_,hl,hx,hE⟩:=DataW.trod_struct ht h
 obtain ⟨ps,h1,h2,h3⟩:=hf.read (xs:=xs) (enc:=enc) (w:=w) (fuel:=m) (cs:=cs) (by omega) (fun i f hi=>by
  have hi':fs[i]?=some f:=by simpa using hi
  have:=hE i f hi'
  have hil:i<xs.length:=by rw [hx];exact (Array.getElem?_eq_some_iff.1 hi').1
  exact ⟨xs[i],by rw [this,ZS hil]⟩)
 exact ⟨ps,h1,h2,by simpa using h3⟩⟩
theorem jc.ahx {f0 f1 f2:Field}{n0 n1 n2:Nat}{S0 S1 S2:List PV→Prop}(ht:P.underlying t=some (.struct #[f0,f1,f2]))(h0:jc P f0.type n0 S0)(h1:jc P f1.type n1 S1)(h2:jc P f2.type n2 S2)(o0:f0.offset=0)(o1:f1.offset=0+n0)(o2:f2.offset=0+n0+n1)(hc:P.cellsOf t=n0+(n1+(n2+0))):jc P t (n0+(n1+(n2+0))) (WH [S0,S1,S2]) :=
 jc.struct ht (show SH P 0 [f0,f1,f2] [S0,S1,S2] (n0+(n1+(n2+0))) from .cons o0 h0 (.cons o1 h1 (.cons o2 h2 (.nil _)))) hc
theorem jc.ahy {f0 f1 f2 f3:Field}{n0 n1 n2 n3:Nat}{S0 S1 S2 S3:List PV→Prop}(ht:P.underlying t=some (.struct #[f0,f1,f2,f3]))(h0:jc P f0.type n0 S0)(h1:jc P f1.type n1 S1)(h2:jc P f2.type n2 S2)(h3:jc P f3.type n3 S3)(o0:f0.offset=0)(o1:f1.offset=0+n0)(o2:f2.offset=0+n0+n1)(o3:f3.offset=0+n0+n1+n2)(hc:P.cellsOf t=n0+(n1+(n2+(n3+0)))):jc P t (n0+(n1+(n2+(n3+0)))) (WH [S0,S1,S2,S3]) :=
 jc.struct ht (show SH P 0 [f0,f1,f2,f3] [S0,S1,S2,S3] (n0+(n1+(n2+(n3+0)))) from .cons o0 h0 (.cons o1 h1 (.cons o2 h2 (.cons o3 h3 (.nil _))))) hc
theorem ahz {H:Type}{enc:TypeId×Value→H}{w:World}{arr:Array Value}{d:DataW H}{p:List MemPlace}(hr:jc P t n S)(h:DataW.Trod enc P w 0 (fun _=>true) true t (.agg arr) d p) :
  ∃ ps,S ps∧aA (fun b=>b<w.heap.size) w (.agg ps) (.agg arr):=by
 obtain ⟨fuel,hf⟩:=h
 obtain ⟨ps,h1,h2,h3,h4,h5⟩:=hr.2 hf
 have hc:(Value.agg arr).cells=arr:=rfl
 rw [hc] at h3 h4 h5
 refine ⟨ps,h1,.agg ps arr (by simpa using h3) (fun j v hv=>h4 v (Zab (i:=j) (by simpa using hv))) (fun j x v hx hv=>h5 j x v hx (by simpa using hv))⟩
theorem WI {H:Type}{enc:TypeId×Value→H}{w:World}{v:Value}{d:DataW H}{p:List MemPlace}{m:Reach}{base:Nat}{fs:Array Field}(ht:P.underlying t=some (.struct fs))(hr:jc P t n S)(hv:Value.okWide P w m base t v)(h:DataW.Trod enc P w 0 (fun _=>true) true t v d p) :
  ∃ ps,S ps∧aA (fun b=>b<w.heap.size) w (.agg ps) v:=by
 simp only [Value.okWide,ht] at hv
 obtain ⟨cs,rfl,_,_⟩:=hv
 exact ahz hr h
end
end Go.Proofs.YtioijcfcehhmdaaGreatDoor
namespace Go.Proofs.YtioijcfcehhmdaaGreatDoor.V
def eI (n:Int):PV:=.int .i64 n
def eB (b:Bool):PV:=.bool b
def qh (x:fE):List PV:=x.toList.map fun b=>.int .u8 (b.toNat:Int)
def je (x:fE):PV:=.agg (qh x)
def Ig:fE:=Vector.replicate 8 0
structure cZ where
 start:Int
 count:Int
 deriving DecidableEq
def cO (x:cZ):PV:=.agg [.int .i64 x.start,.int .i64 x.count]
structure fK where
 volume:Int
 start:Int
 data:List fE
 deriving DecidableEq
def jw (x:fK):PV:=.agg [.int .i64 x.volume,.int .i64 x.start,.list 8 (x.data.map je)]
def aX (l:List fE):PV:=.list 8 (l.map je)
def mY (l:List cZ):PV:=.list 2 (l.map cO)
abbrev fG:=List (List fE)
theorem iP (x:fE):(qh x).length=8:=by simp [qh]
theorem MB {α β:Type}(f:α→β)(l:List α)(x:β):(l.map f++[x]).length=l.length+1:=by simp
theorem Z9 {α β:Type}(f:α→β)(l:List α)(x:β):(l.map f++[x])[l.length]?=some x:=by
 have:(l.map f).length=l.length:=by simp
 rw [← this];simp
theorem aac {α β:Type}(f:α→β)(l:List α)(x y:β):(l.map f++[x]).set l.length y=l.map f++[y]:=by
 have:(l.map f).length=l.length:=by simp
 rw [← this];simp
theorem WJ {α β:Type}(f:α→β)(l:List α)(x:β):(l.map f++[x]).take (l.length+1)=l.map f++[x]:=by
 rw [← MB f l x,ZaI]
theorem ahA (l:List PV):(l.map BV.pv).map BV.val=l:=by
 rw [Zb5];exact List.map_id' l
theorem WL (l:List PV):(l.map BV.pv).map BV.frozen=l.map BV.pv:=by
 rw [Zb5];rfl
end Go.Proofs.YtioijcfcehhmdaaGreatDoor.V
namespace Go.Proofs.YtioijcfcehhmdaaGreatDoor
def dX {α:Type}(b:Bool)(x y:α):α:=match b with
 |true=>x
 |false=>y
section
variable {env:Env}{α β:Type}
theorem WM (x y:α):dX true x y=x:=(rfl)
theorem ES (x y:α):dX false x y=y:=(rfl)
theorem dV (b:Bool)(x y:Option α)(f:α→Option β):(dX b x y).bind f=dX b (x.bind f) (y.bind f):=by cases b<;>rfl
theorem fF (b:Bool)(x y:Option α)(f:α→β):(dX b x y).map f=dX b (x.map f) (y.map f):=by cases b<;>rfl
theorem MC (b:Bool)(x y:α):dX (!b) x y=dX b y x:=by cases b<;>rfl
theorem aad {γ:Type}[BEq γ](a b:γ)(x y:α):dX (a != b) x y=dX (a==b) y x:=by unfold bne;rw [MC]
theorem aou (b:Bool):(b==true)=b:=by cases b<;>rfl
theorem aov (b:Bool):(b==false)=!b:=by cases b<;>rfl
theorem dI {b:Bool}{x y r:α}(h1:b=true→x=r)(h0:b=false→y=r):dX b x y=r:=by
 cases b
 ·exact h0 rfl
 ·exact h1 rfl
noncomputable def KN (env:Env)(l:List iG)(st:St):Option St:=ops (den env) env l st
noncomputable def vg (env:Env)(o:iG)(st:St):Option St:=op (den env) env o st
noncomputable def next (env:Env)(b:ay):Ex×St→Option (Ex×St)
 |(.normal,st)=>den env b st
 |r=>some r
def endBlock (id:Nat):Ex×St→Ex×St
 |(.normal,st)=>(.normal,st)
 |(.exit j,st)=>(dX (Z1 j id) .normal (.exit j),st)
 |(.ret,st)=>(.ret,st)
 |(.nJ t n,st)=>(.nJ t n,st)
def nZ (post:List Nat)(nb:Nat)(p:Ex×St):Option (Ex×St):=(p.2.head post nb).map fun st=>(p.1,st)
def fin (rs:List sU):Ex×St→Option (List nC)
 |(.exit _,_)=>none
 |(.nJ _ _,_)=>none
 |(_,st)=>fV st rs
def start (n:Nat)(args:List PV):St:=⟨args.map .pv++Zal (n - args.length) .any,[],[],none⟩
theorem bK (st:St):den env .skip st=some (.normal,st):=by rw [mO];rfl
theorem ahB (l:List iG)(st:St):den env (.ops l) st=(KN env l st).map fun st=>(.normal,st):=by rw [mO];rfl
theorem ahC (z a f q)(l:List iG)(st:St):den env (.AQ z a f q l) st=(KN env l (z.foldl St.jh st)).map fun st=>(.normal,st):=by rw [mO];rfl
noncomputable def aj3 (env:Env)(keep:List Nat)(vo:List iG)(st:St)(l:List iQ):Option St:=lV (den env) env keep vo st l
noncomputable def ahD (env:Env)(keep:List Nat)(vo:List iG)(st:St)(x:iQ):Option St:=nO (den env) env keep vo st x
noncomputable def Ih (env:Env)(keep:List Nat)(vo:List iG)(st s:St)(l:List iQ):Option St:=agree s (l.map (nO (den env) env keep vo st))
def sameAs (s s':St)(r:Option St):Option St:=if s'.same s then r else none
theorem ahE (z k vo l)(st:St):den env (.drs z k vo l) st=(aj3 env k vo (z.foldl St.jh st) l).map fun st=>(.normal,st):=by rw [mO];rfl
theorem WO (k vo)(st:St)(x:iQ)(l:List iQ):aj3 env k vo st (x::l)=(ahD env k vo st x).bind fun s=>Ih env k vo st s l:=(rfl)
theorem WQ (k vo)(st s:St):Ih env k vo st s []=some s:=(rfl)
theorem SI (k vo)(st s:St)(x:iQ)(l:List iQ):Ih env k vo st s (x::l)=(ahD env k vo st x).bind fun s'=>sameAs s s' (Ih env k vo st s l):=by
 show (nO (den env) env k vo st x).bind _=_
 unfold ahD Ih sameAs
 congr 1
theorem SK (s:St)(r:Option St):sameAs s s r=r:=by
 show (if s.same s then r else none)=r
 rw [St.jK];rfl
theorem ahF (k vo)(st:St)(a f q o w):ahD env k vo st ⟨a,f,q,o,w⟩=(KN env (bW vo o) st).bind (nN k st.boxes.length w):=(rfl)
theorem Ou (k:List Nat)(nb:Nat)(s:St):nN k nb false s=s.head k s.boxes.length:=by
 unfold nN
 cases s.head k s.boxes.length<;>rfl
theorem SL (k:List Nat)(nb:Nat)(s:St):nN k nb true s=(s.head k s.boxes.length).bind fun s=>s.swap2 nb:=(rfl)
theorem aae (vo:List iG):bW vo []=[]:=(rfl)
theorem aaf (vo:List iG)(i:Nat)(l:List Nat):bW vo (i::l)=vo.getD i default::bW vo l:=(rfl)
theorem ahG (a b:ay)(st:St):den env (.seq a b) st=(den env a st).bind (next env b):=by
 rw [mO]
 show (den env a st).bind _=_
 congr 1
 funext ⟨e,st⟩
 cases e<;>rfl
theorem ada (c:bU)(a b:ay)(st:St):den env (.cond c a b) st=(match st.dG c with
  |some (.bool t)=>dX t (den env a st) (den env b st)
  |_=>none):=by
 rw [mO]
 show (st.dG c).bind _=_
 cases st.dG c with
 |none=>rfl
 |some v =>
  cases v<;>try rfl
  rename_i t
  cases t<;>rfl
theorem MF (i:Nat)(a:ay)(st:St):den env (.block i a) st=(den env a st).map (endBlock i):=by
 rw [mO]
 show (den env a st).bind _=_
 cases den env a st with
 |none=>rfl
 |some r =>
  obtain ⟨e,st⟩:=r
  cases e with
  |normal=>rfl
  |ret=>rfl
  |nJ t n=>rfl
  |exit j =>
   show some (_,_)=some (_,_)
   by_cases h:j=i
   ·subst h;simp [dX]
   ·have:Z1 j i=false:=by cases e:Z1 j i with
    |false=>rfl
    |true=>exact absurd (Nat.eq_of_beq_eq_true e) h
    simp [dX,h,this]
theorem adb (keep:List Nat)(a:ay)(st:St):den env (.loop keep a) st=den env (.round keep st.boxes.length a) st:=by rw [mO];rfl
theorem MG (keep:List Nat)(nb:Nat)(a:ay)(st:St):den env (.round keep nb a) st=(st.head keep nb).bind fun st=>(den env a st).bind (next env (.round keep nb a)):=by
 rw [mO]
 show (st.head keep nb).bind _=_
 congr 1
 funext st
 show (den env a st).bind _=_
 congr 1
 funext ⟨e,st⟩
 cases e<;>rfl
theorem ahH (a:ay)(st:St):den env (.scp a) st=den env a st:=by
 rw [mO]
 rfl
theorem aag (pre post:List Nat)(a:ay)(st:St):den env (.clean pre post a) st=(st.head pre st.boxes.length).bind fun s=>(den env a s).bind (nZ post st.boxes.length):=by
 rw [mO]
 show (st.head pre _).bind _=_
 congr 1
 funext s
 show (den env a s).bind _=_
 congr 1
 funext ⟨e,s⟩
 show (s.head post _).bind _=(s.head post _).map _
 cases s.head post st.boxes.length<;>rfl
theorem ade (i:Nat)(st:St):den env (.exit i) st=some (.exit i,st):=by rw [mO];rfl
theorem ahI (st:St):den env .ret st=some (.ret,st):=by rw [mO];rfl
theorem SN (b:ay)(st:St):next env b (.normal,st)=den env b st:=(rfl)
theorem aah (b:ay)(i:Nat)(st:St):next env b (.exit i,st)=some (.exit i,st):=(rfl)
theorem adf (b:ay)(st:St):next env b (.ret,st)=some (.ret,st):=(rfl)
theorem adg (b:ay)(t:Nat)(n:Int)(st:St):next env b (.nJ t n,st)=some (.nJ t n,st):=(rfl)
theorem Ov (i t:Nat)(n:Int)(st:St):endBlock i (.nJ t n,st)=(.nJ t n,st):=(rfl)
noncomputable def thrown (env:Env)(f:Nat)(args:List PV):Option (Option (Nat×Int)):=Fg (den env) env f args
theorem Ii {f:Nat}{g:List PV→Option (Option (Nat×Int))}{args:List PV}(h:env f=some (.nJ g)):thrown env f args=g args:=by
 unfold thrown Fg
 rw [h]
def ahJ:Ex×St→Option (Option (Nat×Int))
 |(.exit _,_)=>none
 |(.nJ t n,_)=>some (some (t,n))
 |_=>some none
theorem SQ (st:St):ahJ (.normal,st)=some none:=(rfl)
theorem adh (st:St):ahJ (.ret,st)=some none:=(rfl)
theorem adi (t:Nat)(n:Int)(st:St):ahJ (.nJ t n,st)=some (some (t,n)):=(rfl)
theorem dN {f:Nat}{fn:iq}{args:List PV}(h:env f=some (.code fn))(hl:args.length=fn.nargs)(hr:fn.results.isEmpty=true):thrown env f args=(den env fn.body (start fn.ntmps args)).bind ahJ:=by
 unfold thrown Fg
 rw [h]
 simp only [if_pos (Zs hl hr)]
 show (den env fn.body _).bind _=_
 congr 1
 funext ⟨e,st⟩
 cases e<;>rfl
noncomputable def WR (env:Env)(d f:Nat)(args:List bU)(st:St):Option (Nat×Int)→Option (Ex×St)
 |some (t,n)=>some (.nJ t n,st)
 |none=>(KN env [.call d f args] st).map fun st=>(.normal,st)
theorem SS (d f:Nat)(args:List bU)(st:St)(t:Nat)(n:Int):WR env d f args st (some (t,n))=some (.nJ t n,st):=(rfl)
theorem SV (d f:Nat)(args:List bU)(st:St):WR env d f args st none=(KN env [.call d f args] st).map fun st=>(.normal,st):=(rfl)
theorem ahK (l:List iG)(d f:Nat)(args:List bU)(st:St):den env (.Dk l d f args) st=(KN env l st).bind fun st1=>(args.mapM st1.dG).bind fun vs=>(thrown env f vs).bind (WR env d f args st1):=by
 rw [mO]
 show (KN env l st).bind _=_
 congr 1
 funext st1
 show (args.mapM st1.dG).bind _=_
 congr 1
 funext vs
 show (thrown env f vs).bind _=_
 congr 1
 funext r
 cases r with
 |some p=>rfl
 |none =>
  show (act (den env) env (.call d f args) st1).map _=((act (den env) env (.call d f args) st1).bind (ops (den env) env [])).map _
  cases act (den env) env (.call d f args) st1<;>rfl
theorem FB (i:Nat)(st:St):endBlock i (.normal,st)=(.normal,st):=(rfl)
theorem Ox (i:Nat)(st:St):endBlock i (.ret,st)=(.ret,st):=(rfl)
theorem KO (i j:Nat)(st:St):endBlock i (.exit j,st)=(dX (Z1 j i) .normal (.exit j),st):=(rfl)
theorem WS (rs:List sU)(st:St):fin rs (.normal,st)=fV st rs:=(rfl)
theorem ahL (rs:List sU)(st:St):fin rs (.ret,st)=fV st rs:=(rfl)
theorem ah {f:Nat}{fn:iq}{args:List PV}(h:env f=some (.code fn))(hl:args.length=fn.nargs):cal env f args=(den env fn.body (start fn.ntmps args)).bind (Go.Proofs.YtioijcfcehhmdaaGreatDoor.fin fn.results):=by
 unfold cal jk
 rw [h]
 simp only [if_pos hl]
 show (den env fn.body _).bind _=_
 congr 1
 funext ⟨e,st⟩
 cases e<;>rfl
theorem ahM {f:Nat}{g:List PV→Option (Option (Nat×Int))}{args:List PV}(h:env f=some (.nJ g))(hg:g args=some none):cal env f args=some []:=by
 unfold cal jk
 rw [h]
 simp only [hg,Zbl]
noncomputable def adk (env:Env)(fn:oJ):Ex×St→Option (List nC)
 |(.normal,st)=>(fn.begun st).bind fun st0=>(den env fn.body st0).bind fun r=>fJ fn st0 r.1 r.2
 |_=>none
theorem aU (fn:oJ)(st:St):adk env fn (.normal,st)=(fn.begun st).bind fun st0=>(den env fn.body st0).bind fun r=>fJ fn st0 r.1 r.2:=(rfl)
theorem Oy {f:Nat}{fn:oJ}{args:List PV}(h:env f=some (.dfn fn))(hl:args.length=fn.nargs):cal env f args=(den env fn.pre (start fn.ntmps args)).bind (adk env fn):=by
 unfold cal jk
 rw [h]
 simp only [if_pos hl]
 show (den env fn.pre _).bind _=_
 congr 1
 funext ⟨e,st⟩
 cases e<;>rfl
def adl (n:Nat)(x:mg)(args:List PV):St:=⟨x.av::(args.map .pv++Zal (n - (args.length+1)) .any),x.boxes,[],none⟩
def aow (x:mg)(rs:List sU):Ex×St→Option (List nC×Option (List PV))
 |(.exit _,_)=>none
 |(.nJ _ _,_)=>none
 |(_,st)=>kT x st rs
theorem SX (x:mg)(rs:List sU)(st:St):aow x rs (.normal,st)=kT x st rs:=(rfl)
theorem adn (x:mg)(rs:List sU)(st:St):aow x rs (.ret,st)=kT x st rs:=(rfl)
theorem WT (sz:Nat)(es:List PV)(st:St)(rs:List sU):kT (.row sz es) st rs=(fV st rs).map fun l=>(l,none):=(rfl)
theorem WU (l:List AV)(st:St)(rs:List sU):kT (.own l) st rs=(fV st rs).map fun l=>(l,none):=(rfl)
theorem WV (cs:List PV)(st:St)(rs:List sU):kT (.box cs) st rs=(match (st.bH 0).boxes[0]? with
  |some b=>dX b.fz none ((resultList (st.bH 0) rs).map fun l=>(l,some (b.cs.map BV.val)))
  |none=>none):=by
 show (match (st.bH 0).boxes[0]? with
  |some b=>if b.fz then none else (resultList (st.bH 0) rs).map fun l=>(l,some (b.cs.map BV.val))
  |none=>none)=_
 split
 ·rename_i b _
  cases b.fz<;>rfl
 ·rfl
theorem ahN (sz:Nat)(es:List PV):(mg.row sz es).av=.row sz es:=(rfl)
theorem ahO (l:List AV):(mg.own l).av=.lU true l:=(rfl)
theorem ahP (cs:List PV):(mg.box cs).av=.aO 0 0:=(rfl)
theorem ahQ (sz:Nat)(es:List PV):(mg.row sz es).boxes=[]:=(rfl)
theorem ahR (l:List AV):(mg.own l).boxes=[]:=(rfl)
theorem ahS (cs:List PV):(mg.box cs).boxes=[⟨false,cs.map .pv⟩]:=(rfl)
theorem Gh {f:Nat}{g:List PV→Option (List nC)}{args:List PV}(h:env f=some (.ext g)):cal env f args=g args:=by
 unfold cal jk
 rw [h]
theorem SY {keep post:List Nat}{id:Nat}{b:ay}{st S0:St}{R:Option (Ex×St)}(h:st.head keep st.boxes.length=some S0)(h2:S0.head keep S0.boxes.length=some S0)
  (key:∀ rb,rb=ay.round keep S0.boxes.length b→(((den env b S0).bind (next env rb)).map (endBlock id)).bind (nZ post st.boxes.length)=R):den env (.clean keep post (.block id (.loop keep b))) st=R:=by
 rw [aag,h,Zbl,MF,adb,MG,h2,Zbl]
 exact key _ rfl
theorem ado {keep:List Nat}{nb:Nat}{b rb:ay}{st S1:St}(hrb:rb=.round keep nb b)(h:st.head keep nb=some S1):den env rb st=(den env b S1).bind (next env rb):=by
 rw [hrb,MG,h,Zbl]
noncomputable def lC (env:Env)(id:Nat)(post:List Nat)(nb:Nat)(x:Option (Ex×St)):Option (Ex×St):=(x.map (endBlock id)).bind (nZ post nb)
theorem DL {β:Type}{keep post:List Nat}{id nb:Nat}{b:ay}(S:β→St)(R:β→Option (Ex×St))(P:β→Prop)(μ:β→Nat)(x0:β){st:St}(h:st.head keep st.boxes.length=some (S x0))(hP:P x0)
  (hS:∀ x,(S x).boxes.length=nb) (hh:∀ x,(S x).head keep nb=some (S x))
  (step:∀ x rb,P x→(∀ y,μ y<μ x→P y→∀ s,s.head keep nb=some (S y)→lC env id post nb (den env rb s)=R y)→lC env id post nb ((den env b (S x)).bind (next env rb))=R x) :
  den env (.clean keep post (.block id (.loop keep b))) st=R x0:=by
 have hb:st.boxes.length=nb:=by rw [← (yZ h).1];exact hS x0
 refine SY h (by rw [hS];exact hh x0) ?_
 intro rb hrb
 rw [hS] at hrb
 rw [hb]
 have key:∀ (k:Nat) (x:β),μ x<k→P x→lC env id post nb ((den env b (S x)).bind (next env rb))=R x:=by
  intro k
  induction k with
  |zero=>intro x hx;omega
  |succ k ih =>
   intro x hx hPx
   refine step x rb hPx fun y hy hPy s hs=>?_
   rw [ado hrb hs]
   exact ih y (by omega) hPy
 exact key (μ x0+1) x0 (by omega) hP
theorem bM {keep post:List Nat}{id nb:Nat}{b:ay}(n:Nat)(S:Nat→St)(R:Nat→Option (Ex×St)){st:St}(h:st.head keep st.boxes.length=some (S 0))(hS:∀ i,(S i).boxes.length=nb)(hh:∀ i,(S i).head keep nb=some (S i))
  (step:∀ i rb,i<n→(∀ s,s.head keep nb=some (S (i+1))→lC env id post nb (den env rb s)=R (i+1))→lC env id post nb ((den env b (S i)).bind (next env rb))=R i)
  (last:∀ rb,lC env id post nb ((den env b (S n)).bind (next env rb))=R n) :
  den env (.clean keep post (.block id (.loop keep b))) st=R 0:=by
 refine DL S R (fun i=>i≤n) (fun i=>n - i) 0 h (ZaM _) hS hh fun i rb hi ih=>?_
 by_cases hn:i=n
 ·subst hn;exact last rb
 ·exact step i rb (by omega) fun s hs=>ih (i+1) (by omega) (by omega) s hs
theorem S9 {id nb:Nat}{post:List Nat}(st:St):lC env id post nb (some (.normal,st))=nZ post nb (.normal,st):=(rfl)
theorem adp {id nb:Nat}{post:List Nat}(t:Nat)(n:Int)(st:St):lC env id post nb (some (.nJ t n,st))=nZ post nb (.nJ t n,st):=(rfl)
theorem adq {id nb:Nat}{post:List Nat}(st:St):lC env id post nb (some (.ret,st))=nZ post nb (.ret,st):=(rfl)
theorem aai {id j nb:Nat}{post:List Nat}(st:St):lC env id post nb (some (.exit j,st))=nZ post nb (dX (Z1 j id) .normal (.exit j),st):=(rfl)
theorem dW {id nb:Nat}{post:List Nat}(b:Bool)(x y:Option (Ex×St)):lC env id post nb (dX b x y)=dX b (lC env id post nb x) (lC env id post nb y):=by cases b<;>rfl
theorem Td (a:α)(f:α→Option β):(some a).bind f=f a:=(rfl)
theorem Tf (f:α→Option β):(none:Option α).bind f=none:=(rfl)
theorem WW (a:α)(f:α→β):(some a).map f=some (f a):=(rfl)
theorem WX (f:α→β):(none:Option α).map f=none:=(rfl)
theorem WY (x y:α):(if True then x else y)=x:=(rfl)
theorem Tj (x y:α):(if False then x else y)=y:=(rfl)
theorem MH {γ δ:Type}(x:Option γ)(f:γ→Option δ):(x >>= f)=x.bind f:=(rfl)
theorem alg {γ:Type}(x:γ):(pure x:Option γ)=some x:=(rfl)
theorem aH {γ:Type}(a:γ)(l:List γ):(a::l).length=l.length+1:=(rfl)
theorem aS {γ:Type}:([]:List γ).length=0:=(rfl)
theorem aQ {γ:Type}(l:List γ):[]++l=l:=(rfl)
theorem aI {γ:Type}(a:γ)(l m:List γ):(a::l)++m=a::(l++m):=(rfl)
theorem Tm {γ:Type}(a:γ)(l:List γ)(n:Nat):(a::l).take (n+1)=a::l.take n:=(rfl)
theorem tZ {γ:Type}(l:List γ):l.take 0=[]:=(rfl)
theorem Tt {γ:Type}(a:γ)(l:List γ)(n:Nat):(a::l).drop (n+1)=l.drop n:=(rfl)
theorem Tv {γ:Type}(l:List γ):l.drop 0=l:=(rfl)
theorem WZ {γ:Type}(a:γ)(l:List γ):(a::l)[0]?=some a:=(rfl)
theorem W9 {γ:Type}(a:γ)(l:List γ)(n:Nat):(a::l)[n+1]?=l[n]?:=(rfl)
theorem ahT {γ:Type}(a0 a1 a2 a3 a4 a5 a6 a7:γ)(l:List γ)(n:Nat):(a0::a1::a2::a3::a4::a5::a6::a7::l)[n+8]?=l[n]?:=(rfl)
theorem TA {γ:Type}(a:γ)(l:List γ)(d:γ):(a::l).getD 0 d=a:=(rfl)
theorem TB {γ:Type}(a:γ)(l:List γ)(n:Nat)(d:γ):(a::l).getD (n+1) d=l.getD n d:=(rfl)
theorem adr {γ:Type}(a0 a1 a2 a3 a4 a5 a6 a7:γ)(l:List γ)(n:Nat)(d:γ):(a0::a1::a2::a3::a4::a5::a6::a7::l).getD (n+8) d=l.getD n d:=(rfl)
theorem Xa {γ:Type}(a x:γ)(l:List γ):(a::l).set 0 x=x::l:=(rfl)
theorem Xb {γ:Type}(a x:γ)(l:List γ)(n:Nat):(a::l).set (n+1) x=a::l.set n x:=(rfl)
theorem ahU {γ:Type}(a0 a1 a2 a3 a4 a5 a6 a7 x:γ)(l:List γ)(n:Nat):(a0::a1::a2::a3::a4::a5::a6::a7::l).set (n+8) x=a0::a1::a2::a3::a4::a5::a6::a7::l.set n x:=(rfl)
theorem Xc {γ δ:Type}(f:γ→Option δ):([]:List γ).mapM f=some []:=(rfl)
theorem Xd {γ:Type}(a:γ)(l:List γ)(p:γ→Bool):(a::l).any p=(p a || l.any p):=(rfl)
theorem aaj {γ:Type}(p:γ→Bool):([]:List γ).any p=false:=(rfl)
theorem Xe {γ:Type}(a:γ)(l:List γ)(p:γ→Bool):(a::l).all p=(p a&&l.all p):=(rfl)
theorem aak {γ:Type}(p:γ→Bool):([]:List γ).all p=true:=(rfl)
theorem Oz {γ δ:Type}(f:δ→γ→δ)(b:δ)(a:γ)(l:List γ):(a::l).foldl f b=l.foldl f (f b a):=(rfl)
theorem TD {γ δ:Type}(f:δ→γ→δ)(b:δ):([]:List γ).foldl f b=b:=(rfl)
theorem aJ {γ δ:Type}(f:γ→δ)(a:γ)(l:List γ):(a::l).map f=f a::l.map f:=(rfl)
theorem aT {γ δ:Type}(f:γ→δ):([]:List γ).map f=[]:=(rfl)
theorem aB {γ:Type}(a:γ):Zal 0 a=[]:=(rfl)
theorem aC {γ:Type}(a:γ)(n:Nat):Zal (n+1) a=a::Zal n a:=(rfl)
theorem ads (st:St):KN env [] st=some st:=(rfl)
theorem aal (o:iG)(l:List iG)(st:St):KN env (o::l) st=(vg env o st).bind (KN env l):=(rfl)
theorem ahV {g:Nat}{w:Bool}{o:iG}(st:St):vg env (.grd g w o) st=(match st.slots.getD g .any with
  |.pv (.bool b)=>dX (b==w) (op1 (den env) env o st) (match bZ o with
   |some d=>some (st.put d (.lU false []))
   |none=>some st)
  |.lU _ l=>dX l.isEmpty (match bZ o with
   |some d=>some (st.put d (.lU false []))
   |none=>some st) none
  |_=>none):=by
 unfold vg op
 simp only
 generalize st.slots.getD g .any=v
 cases v with
 |pv p =>
  cases p with
  |bool b=>cases b<;>cases w<;>rfl
  |_=>rfl
 |lU k l=>cases l<;>rfl
 |_=>rfl
theorem adt {d c x y}(st:St):vg env (.pick d c x y) st=(match st.dG c with
  |some (.bool b)=>dX b ((st.dG x).map fun v=>st.put d (.pv v)) ((st.dG y).map fun v=>st.put d (.pv v))
  |_=>none):=by
 show (st.dG c).bind _=_
 cases st.dG c with
 |none=>rfl
 |some v =>
  cases v<;>try rfl
  rename_i t
  cases t
  ·show (st.dG y).bind _=Option.map _ (st.dG y)
   cases st.dG y<;>rfl
  ·show (st.dG x).bind _=Option.map _ (st.dG x)
   cases st.dG x<;>rfl
def oU (d:Nat)(args:List bU)(caps:List AV)(st:St)(fl:Bool)(rs:List nC):Option St :=
 some ((dX (fl&&!(rs.all (·.1.scalar))) (caps.foldl (fun s v=>s.bI (.c .void) v) (args.foldl St.dh st)) st).layAll d rs)
theorem FC (d:Nat)(args:List bU)(caps:List AV)(st:St)(rs:List nC):oU d args caps st false rs=some (st.layAll d rs):=by
 simp only [oU,Za8,ES]
theorem Ij (d:Nat)(args:List bU)(caps:List AV)(st:St)(r:nC)(rs:List nC):oU d args caps st true (r::rs)=dX ((r::rs).all (·.1.scalar)) (some (st.layAll d (r::rs))) (some ((caps.foldl (fun s v=>s.bI (.c .void) v) (args.foldl St.dh st)).layAll d (r::rs))):=by
 unfold oU
 rw [zm]
 cases h:(r::rs).all (·.1.scalar)<;>rfl
noncomputable def dcall (env:Env)(d f:Nat)(args:List bU)(caps:List AV)(st:St):Option St :=
 (args.mapM fun x=>st.kD (st.get x)).bind fun l=>(caps.mapM st.snap).bind fun k=>(cal env f (l.map (·.1)++k.map (·.1))).bind (oU d args caps st (l.any (·.2) || k.any (·.2)))
noncomputable def DN (env:Env)(d f:Nat)(args:List bU)(caps:List PV)(st:St):Option St :=
 (args.mapM fun x=>st.kD (st.get x)).bind fun l=>(cal env f (l.map (·.1)++caps)).bind (oU d args [] st (l.any (·.2)))
theorem Ik (st:St):∀ caps:List PV,(caps.map AV.pv).mapM st.snap=some (caps.map fun v=>(v,false))
 |[]=>rfl
 |c::l=>by
  rw [Zaj,Zcs,Ik st l]
  rfl
theorem MI (st:St):∀ caps:List PV,(caps.map AV.pv).foldl (fun s v=>s.bI (.c .void) v) st=st
 |[]=>rfl
 |c::l=>MI st l
theorem Il (d f:Nat)(args:List bU)(caps:List AV)(st:St):kE (den env) env d f args caps st=dcall env d f args caps st:=by
 unfold kE dcall
 show Zcz _ _=Zcz _ _
 congr 1;funext l
 show Zcz _ _=Zcz _ _
 congr 1;funext k
 show Zcz _ _=Zcz _ _
 congr 1;funext rs
 show some _=some _
 congr 2
 cases h:(l.any (·.2) || k.any (·.2))&&!(rs.all (·.1.scalar))<;>rfl
theorem DR (d f:Nat)(args:List bU)(caps:List PV)(st:St):dcall env d f args (caps.map .pv) st=DN env d f args caps st:=by
 unfold DN dcall
 congr 1;funext l
 rw [Ik,Zbl,Zb5,ZdM]
 have h1:(Prod.fst ∘ fun v:PV=>(v,false))=id:=rfl
 have h2:caps.any (Prod.snd ∘ fun v:PV=>(v,false))=false:=by
  induction caps with
  |nil=>rfl
  |cons c cs ih=>simp [Zda,ih]
 rw [h1,List.map_id,h2,ZcC]
 congr 1;funext rs
 unfold oU
 rw [MI]
 rfl
theorem adu {d f args}(st:St):vg env (.call d f args) st=DN env d f args [] st:=(Il ..).trans (DR (caps:=[]) ..)
theorem adv {d f args}(st:St):op1 (den env) env (.call d f args) st=DN env d f args [] st:=(Il ..).trans (DR (caps:=[]) ..)
noncomputable def MJ (env:Env)(d f:Nat)(x:bU)(args:List bU)(caps:List AV)(st:St):Option St :=
 (args.mapM fun x=>st.kD (st.get x)).bind fun l=>(caps.mapM st.snap).bind fun k=>(dX (l.any (·.2) || k.any (·.2)) none (vO st x)).bind fun q=>(aor env f q.1 (l.map (·.1)++k.map (·.1))).bind fun r=>(pq q.2.2 q.2.1 r.2).bind fun st2=>some (st2.layAll d r.1)
noncomputable def OA (env:Env)(d f:Nat)(x:bU)(args:List bU)(caps:List PV)(st:St):Option St :=
 (args.mapM fun x=>st.kD (st.get x)).bind fun l=>(dX (l.any (·.2)) none (vO st x)).bind fun q=>(aor env f q.1 (l.map (·.1)++caps)).bind fun r=>(pq q.2.2 q.2.1 r.2).bind fun st2=>some (st2.layAll d r.1)
theorem adw (d f:Nat)(x:bU)(args:List bU)(caps:List AV)(st:St):rP (den env) env d f x args caps st=MJ env d f x args caps st:=by
 unfold rP MJ
 congr 1;funext l
 congr 1;funext k
 congr 1
 cases h:(l.any (·.2) || k.any (·.2))<;>rfl
theorem aam (d f:Nat)(x:bU)(args:List bU)(caps:List PV)(st:St):MJ env d f x args (caps.map .pv) st=OA env d f x args caps st:=by
 unfold OA MJ
 congr 1;funext l
 rw [Ik,Zbl,Zb5,ZdM]
 have h1:(Prod.fst ∘ fun v:PV=>(v,false))=id:=rfl
 have h2:caps.any (Prod.snd ∘ fun v:PV=>(v,false))=false:=by
  induction caps with
  |nil=>rfl
  |cons c cs ih=>simp [Zda,ih]
 rw [h1,List.map_id,h2,ZcC]
noncomputable def ahW (env:Env)(d f:Nat)(x:bU)(args:List bU)(caps:List AV)(st:St):Option St:=MJ env d f x args caps (args.foldl St.dh st)
noncomputable def TF (env:Env)(d f:Nat)(x:bU)(args:List bU)(caps:List PV)(st:St):Option St:=OA env d f x args caps (args.foldl St.dh st)
theorem OB (d f:Nat)(x:bU)(args:List bU)(caps:List AV)(st:St):jC (den env) env d f x args caps st=ahW env d f x args caps st:=adw ..
theorem Io (d f:Nat)(x:bU)(args:List bU)(caps:List PV)(st:St):ahW env d f x args (caps.map .pv) st=TF env d f x args caps st:=aam ..
theorem ahX {d f x args}(st:St):vg env (.lin d f x args) st=TF env d f x args [] st:=(OB ..).trans (Io (caps:=[]) ..)
theorem ahY {d f x args}(st:St):op1 (den env) env (.lin d f x args) st=TF env d f x args [] st:=(OB ..).trans (Io (caps:=[]) ..)
theorem adx {d g x args}(st:St):vg env (.linv d g x args) st=(match st.get g with
  |.pv (.func f caps)=>TF env d f x args caps st
  |.fn f caps=>ahW env d f x args caps st
  |_=>none):=by
 show (match st.get g with
  |.pv (.func f caps)=>jC (den env) env d f x args (caps.map .pv) st
  |.fn f caps=>jC (den env) env d f x args caps st
  |_=>none)=_
 split<;>simp only [OB,Io]
theorem ady {d g x args}(st:St):op1 (den env) env (.linv d g x args) st=vg env (.linv d g x args) st:=(rfl)
theorem aan {d x args}(st:St):vg env (.lG d x args) st=(match st.get x with
  |.pv (.func f caps)=>DN env d f args caps st
  |.fn f caps=>dcall env d f args caps st
  |_=>none):=by
 show (match st.get x with
  |.pv (.func f caps)=>kE (den env) env d f args (caps.map .pv) st
  |.fn f caps=>kE (den env) env d f args caps st
  |_=>none)=_
 split<;>simp only [Il,DR]
theorem aao {d x args}(st:St):op1 (den env) env (.lG d x args) st=vg env (.lG d x args) st:=(rfl)
theorem adz {d c x y}(st:St):op1 (den env) env (.pick d c x y) st=vg env (.pick d c x y) st:=(rfl)
theorem ahZ {d x}(st:St):vg env (.ak d x) st=plain (.ak d x) st:=(rfl)
theorem ah0 {d x}(st:St):vg env (.aN d x) st=plain (.aN d x) st:=(rfl)
theorem ah1 {d o x y}(st:St):vg env (.bin d o x y) st=plain (.bin d o x y) st:=(rfl)
theorem ah2 {d neg n x y}(st:St):vg env (.Vz d neg n x y) st=plain (.Vz d neg n x y) st:=(rfl)
theorem ah3 {d neg x y}(st:St):vg env (.Zu d neg x y) st=plain (.Zu d neg x y) st:=(rfl)
theorem ah4 {d neg x}(st:St):vg env (.Yn d neg x) st=plain (.Yn d neg x) st:=(rfl)
theorem ah5 {d x}(st:St):vg env (.bxw d x) st=act (den env) env (.bxw d x) st:=(rfl)
theorem ah6 {d x}(st:St):op1 (den env) env (.bxw d x) st=act (den env) env (.bxw d x) st:=(rfl)
theorem ah7 {n p x}(st:St):vg env (.stw n p x) st=act (den env) env (.stw n p x) st:=(rfl)
theorem ah8 {n p x}(st:St):op1 (den env) env (.stw n p x) st=act (den env) env (.stw n p x) st:=(rfl)
theorem ah9 {d f x g}(st:St):vg env (.Kv d f x g) st=act (den env) env (.Kv d f x g) st:=(rfl)
theorem aia {d f x g}(st:St):op1 (den env) env (.Kv d f x g) st=act (den env) env (.Kv d f x g) st:=(rfl)
theorem aib {d n x}(st:St):vg env (.Zv d n x) st=plain (.Zv d n x) st:=(rfl)
theorem aic {d n x}(st:St):op1 (den env) env (.Zv d n x) st=plain (.Zv d n x) st:=(rfl)
theorem aie {d neg x}(st:St):op1 (den env) env (.Yn d neg x) st=plain (.Yn d neg x) st:=(rfl)
theorem alh {d o x}(st:St):vg env (.un d o x) st=plain (.un d o x) st:=(rfl)
theorem adA {d k x}(st:St):vg env (.conv d k x) st=plain (.conv d k x) st:=(rfl)
theorem adB {d n p}(st:St):vg env (.load d n p) st=plain (.load d n p) st:=(rfl)
theorem adC {d p off}(st:St):vg env (.aP d p off) st=plain (.aP d p off) st:=(rfl)
theorem adD {d p i len sz}(st:St):vg env (.zx d p i len sz) st=plain (.zx d p i len sz) st:=(rfl)
theorem adE {d sz x i}(st:St):vg env (.dA d sz x i) st=plain (.dA d sz x i) st:=(rfl)
theorem aif {d sz x lo hi}(st:St):vg env (.Zw d sz x lo hi) st=plain (.Zw d sz x lo hi) st:=(rfl)
theorem aii {d x}(st:St):vg env (.len d x) st=plain (.len d x) st:=(rfl)
theorem aij {d x i}(st:St):vg env (.ext d x i) st=plain (.ext d x i) st:=(rfl)
theorem aap {d z parts}(st:St):vg env (.build d z parts) st=plain (.build d z parts) st:=(rfl)
theorem ali {d mx x y}(st:St):vg env (.mn d mx x y) st=plain (.mn d mx x y) st:=(rfl)
theorem aik {d f caps}(st:St):vg env (.VA d f caps) st=plain (.VA d f caps) st:=(rfl)
theorem aaq {d z}(st:St):vg env (.alloc d z) st=act (den env) env (.alloc d z) st:=(rfl)
theorem ail {d x}(st:St):vg env (.box d x) st=act (den env) env (.box d x) st:=(rfl)
theorem aar {d n p x}(st:St):vg env (.store d n p x) st=act (den env) env (.store d n p x) st:=(rfl)
theorem adF {d sz parts}(st:St):vg env (.iH d sz parts) st=act (den env) env (.iH d sz parts) st:=(rfl)
theorem adG {d z n c}(st:St):vg env (.make d z n c) st=act (den env) env (.make d z n c) st:=(rfl)
theorem ain {d sz x y}(st:St):vg env (.app d sz x y) st=act (den env) env (.app d sz x y) st:=(rfl)
theorem aio {d x y}(st:St):vg env (.apb d x y) st=act (den env) env (.apb d x y) st:=(rfl)
theorem aas {d x args}(st:St):vg env (.yield d x args) st=act (den env) env (.yield d x args) st:=(rfl)
theorem aip {d x}(st:St):op1 (den env) env (.ak d x) st=plain (.ak d x) st:=(rfl)
theorem aiq {d x}(st:St):op1 (den env) env (.aN d x) st=plain (.aN d x) st:=(rfl)
theorem air {d o x y}(st:St):op1 (den env) env (.bin d o x y) st=plain (.bin d o x y) st:=(rfl)
theorem ais {d neg n x y}(st:St):op1 (den env) env (.Vz d neg n x y) st=plain (.Vz d neg n x y) st:=(rfl)
theorem ait {d neg x y}(st:St):op1 (den env) env (.Zu d neg x y) st=plain (.Zu d neg x y) st:=(rfl)
theorem alj {d o x}(st:St):op1 (den env) env (.un d o x) st=plain (.un d o x) st:=(rfl)
theorem adH {d k x}(st:St):op1 (den env) env (.conv d k x) st=plain (.conv d k x) st:=(rfl)
theorem adI {d n p}(st:St):op1 (den env) env (.load d n p) st=plain (.load d n p) st:=(rfl)
theorem adJ {d p off}(st:St):op1 (den env) env (.aP d p off) st=plain (.aP d p off) st:=(rfl)
theorem adK {d p i len sz}(st:St):op1 (den env) env (.zx d p i len sz) st=plain (.zx d p i len sz) st:=(rfl)
theorem adL {d sz x i}(st:St):op1 (den env) env (.dA d sz x i) st=plain (.dA d sz x i) st:=(rfl)
theorem aiu {d sz x lo hi}(st:St):op1 (den env) env (.Zw d sz x lo hi) st=plain (.Zw d sz x lo hi) st:=(rfl)
theorem aiv {d x}(st:St):op1 (den env) env (.len d x) st=plain (.len d x) st:=(rfl)
theorem aiw {d x i}(st:St):op1 (den env) env (.ext d x i) st=plain (.ext d x i) st:=(rfl)
theorem aat {d z parts}(st:St):op1 (den env) env (.build d z parts) st=plain (.build d z parts) st:=(rfl)
theorem alk {d mx x y}(st:St):op1 (den env) env (.mn d mx x y) st=plain (.mn d mx x y) st:=(rfl)
theorem aix {d f caps}(st:St):op1 (den env) env (.VA d f caps) st=plain (.VA d f caps) st:=(rfl)
theorem aau {d z}(st:St):op1 (den env) env (.alloc d z) st=act (den env) env (.alloc d z) st:=(rfl)
theorem aiy {d x}(st:St):op1 (den env) env (.box d x) st=act (den env) env (.box d x) st:=(rfl)
theorem aav {d n p x}(st:St):op1 (den env) env (.store d n p x) st=act (den env) env (.store d n p x) st:=(rfl)
theorem adM {d sz parts}(st:St):op1 (den env) env (.iH d sz parts) st=act (den env) env (.iH d sz parts) st:=(rfl)
theorem adN {d z n c}(st:St):op1 (den env) env (.make d z n c) st=act (den env) env (.make d z n c) st:=(rfl)
theorem aiz {d sz x y}(st:St):op1 (den env) env (.app d sz x y) st=act (den env) env (.app d sz x y) st:=(rfl)
theorem aiA {d x y}(st:St):op1 (den env) env (.apb d x y) st=act (den env) env (.apb d x y) st:=(rfl)
theorem aaw {d x args}(st:St):op1 (den env) env (.yield d x args) st=act (den env) env (.yield d x args) st:=(rfl)
theorem adO (d:Nat)(v:PV):AV.kill d (.pv v)=.pv v:=(rfl)
theorem aax (d:Nat):AV.kill d .any=.any:=(rfl)
theorem aay (d sz:Nat)(es:List PV):AV.kill d (.row sz es)=.row sz es:=(rfl)
theorem Xf (d o j:Nat):AV.kill d (.aO o j)=.aO o j:=(rfl)
theorem adP (d f:Nat)(l:List AV):AV.kill d (.fn f l)=.fn f l:=(rfl)
theorem adQ (d o j:Nat):AV.kill d (.pp o j)=.pp o j:=(rfl)
theorem aaz (d s:Nat)(l:List PV):AV.kill d (.FX s l)=.FX s l:=(rfl)
theorem aaA (d:Nat)(k:Bool)(l:List AV):AV.kill d (.lU k l)=.lU k l:=(rfl)
theorem aaB (d:Nat):AV.kill d .tq=.tq:=(rfl)
theorem Xg (d t off len:Nat):AV.kill d (.ref (.slot t) off len)=dX (decide (t=d)) .any (.ref (.slot t) off len):=by
 by_cases h:t=d<;>simp [AV.kill,AV.roots,h,dX]
theorem Xh (d o j off len:Nat):AV.kill d (.ref (.cell o j) off len)=.ref (.cell o j) off len:=(rfl)
theorem Xi (d t i j:Nat):AV.kill d (.qx (.slot t) i j)=dX (decide (t=d)) .any (.qx (.slot t) i j):=by
 by_cases h:t=d<;>simp [AV.kill,AV.roots,h,dX]
theorem Xj (d o q i j:Nat):AV.kill d (.qx (.cell o q) i j)=.qx (.cell o q) i j:=(rfl)
theorem adR (d:Nat)(v:PV):AV.dH d (.pv v)=.pv v:=(rfl)
theorem aaC (d:Nat):AV.dH d .any=.any:=(rfl)
theorem aaD (d sz:Nat)(es:List PV):AV.dH d (.row sz es)=.row sz es:=(rfl)
theorem Xk (d o j:Nat):AV.dH d (.aO o j)=.aO o j:=(rfl)
theorem adS (d f:Nat)(l:List AV):AV.dH d (.fn f l)=.fn f l:=(rfl)
theorem adT (d o j:Nat):AV.dH d (.pp o j)=.pp o j:=(rfl)
theorem aaE (d s:Nat)(l:List PV):AV.dH d (.FX s l)=.FX s l:=(rfl)
theorem aaF (d:Nat)(k:Bool)(l:List AV):AV.dH d (.lU k l)=.lU k l:=(rfl)
theorem aaG (d:Nat):AV.dH d .tq=.tq:=(rfl)
theorem Xl (d t j off len:Nat):AV.dH d (.ref (.cell t j) off len)=dX (decide (t=d)) .any (.ref (.cell t j) off len):=by
 by_cases h:t=d<;>simp [AV.dH,AV.yM,h,dX]
theorem Xm (d t off len:Nat):AV.dH d (.ref (.slot t) off len)=.ref (.slot t) off len:=(rfl)
theorem Xn (d t q i j:Nat):AV.dH d (.qx (.cell t q) i j)=dX (decide (t=d)) .any (.qx (.cell t q) i j):=by
 by_cases h:t=d<;>simp [AV.dH,AV.yM,h,dX]
theorem Xo (d t i j:Nat):AV.dH d (.qx (.slot t) i j)=.qx (.slot t) i j:=(rfl)
theorem adU (d y:Nat)(v:PV):AV.iU d y (.pv v)=.pv v:=(rfl)
theorem aaH (d y:Nat):AV.iU d y .any=.any:=(rfl)
theorem aaI (d y sz:Nat)(es:List PV):AV.iU d y (.row sz es)=.row sz es:=(rfl)
theorem Xp (d y o j:Nat):AV.iU d y (.aO o j)=.aO o j:=(rfl)
theorem adV (d y f:Nat)(l:List AV):AV.iU d y (.fn f l)=.fn f l:=(rfl)
theorem adW (d y o j:Nat):AV.iU d y (.pp o j)=.pp o j:=(rfl)
theorem aaJ (d y s:Nat)(l:List PV):AV.iU d y (.FX s l)=.FX s l:=(rfl)
theorem aaK (d y:Nat)(k:Bool)(l:List AV):AV.iU d y (.lU k l)=.lU k l:=(rfl)
theorem aaL (d y:Nat):AV.iU d y .tq=.tq:=(rfl)
theorem Xq (d y t j off len:Nat):AV.iU d y (.ref (.cell t j) off len)=dX (decide (t=d)) (dX (decide (j=y)) .any (.ref (.cell t j) off len)) (.ref (.cell t j) off len):=by
 by_cases h:t=d<;>by_cases h2:j=y<;>simp [AV.iU,AV.FY,h,h2,dX]
theorem Xr (d y t off len:Nat):AV.iU d y (.ref (.slot t) off len)=.ref (.slot t) off len:=(rfl)
theorem Xt (d y t q i j:Nat):AV.iU d y (.qx (.cell t q) i j)=dX (decide (t=d)) (dX (decide (q=y)) .any (.qx (.cell t q) i j)) (.qx (.cell t q) i j):=by
 by_cases h:t=d<;>by_cases h2:q=y<;>simp [AV.iU,AV.FY,h,h2,dX]
theorem Xu (d y t i j:Nat):AV.iU d y (.qx (.slot t) i j)=.qx (.slot t) i j:=(rfl)
theorem BL {γ δ:Type}(f:γ→δ)(l:List γ):(l.map f).take l.length=l.map f:=Zbm (by simp)
theorem adX (k:IntKind)(n:Int):(PV.int k n).scalar=true:=(rfl)
theorem aaM (b:Bool):(PV.bool b).scalar=true:=(rfl)
theorem adY (b:ByteArray):(PV.str b).scalar=true:=(rfl)
theorem aaN (sz:Nat)(es:List PV):(PV.list sz es).scalar=false:=(rfl)
theorem aaO (f:Nat)(es:List PV):(PV.func f es).scalar=false:=(rfl)
theorem aaP (k:IntKind)(n:Int):(PV.int k n).cells=[.int k n]:=(rfl)
theorem Xv (b:Bool):(PV.bool b).cells=[.bool b]:=(rfl)
theorem aaQ (b:ByteArray):(PV.str b).cells=[.str b]:=(rfl)
theorem Xw (sz:Nat)(es:List PV):(PV.list sz es).cells=[.list sz es]:=(rfl)
theorem cells_func (f:Nat)(es:List PV):(PV.func f es).cells=[.func f es]:=(rfl)
theorem aaR (cs:List PV):(PV.agg cs).cells=cs:=(rfl)
theorem Ip (c:PV)(cs:List PV):part (c::cs) 0 none=some c:=(rfl)
theorem DT (c:PV)(cs:List PV)(n:Nat)(m:Option Nat):part (c::cs) (n+1) m=part cs n m:=by
 cases m with
 |none=>rfl
 |some m =>
  simp only [part,za,List.drop_succ_cons]
  by_cases h:n+m≤cs.length
  ·rw [if_pos h,if_pos (by omega)]
  ·rw [if_neg h,if_neg (by omega)]
theorem DU (c:PV)(cs:List PV)(m:Nat):part (c::cs) 0 (some m)=if m≤(c::cs).length then some (.agg ((c::cs).take m)) else none:=by
 simp only [part,Zan,Za5]
theorem bn {n:Int}(h:-9223372036854775808≤n∧n≤9223372036854775807):IntKind.i64.wrap n=n:=Go.IntWalk.i64_in n h
theorem bF {i n:Nat}(h:i<n)(hn:n≤lim):IntKind.i64.wrap ((i:Int)+1)=((i+1:Nat):Int):=by
 unfold lim at hn
 rw [Go.IntWalk.i64_in _ (by omega)]
 omega
theorem au {k:IntKind}{i n:Nat}(h:i<n):index (.int k (i:Int)) n=some i:=by
 simp only [index]
 rw [if_pos (by omega)]
 simp
theorem YH (k:IntKind)(i:Int)(n:Nat):index (.int k i) n=dX (decide (0≤i∧i<n)) (some i.toNat) none:=by
 simp only [index]
 by_cases h:0≤i∧i<n
 ·rw [if_pos h,decide_eq_true h];rfl
 ·rw [if_neg h,decide_eq_false h];rfl
theorem aaS {k:IntKind}{i:Int}{n:Nat}(h0:0≤i)(h:i<n):index (.int k i) n=some i.toNat:=by
 simp only [index]
 rw [if_pos ⟨h0,h⟩]
end
end Go.Proofs.YtioijcfcehhmdaaGreatDoor
namespace Go.Proofs.YtioijcfcehhmdaaGreatDoor
open V
def uI (n:Nat):List PV→Option (List nC)
 |[.list sz es]=>if sz=n∧es.length≤lim then some [(.list sz es,true)] else none
 |_=>none
def MK:PV→Option UInt8
 |.int .u8 n=>if 0≤n∧n<256 then some (UInt8.ofNat n.toNat) else none
 |_=>none
def qC {α:Type}(f:PV→Option α):List PV→Option (List α)
 |[]=>some []
 |p::l=>match f p with
  |some x=>match qC f l with
   |some xs=>some (x::xs)
   |none=>none
  |none=>none
def Iq:PV→Option fE
 |.agg cs=>match qC MK cs with
  |some l=>if h:l.length=8 then some ⟨l.toArray,by simpa using h⟩ else none
  |none=>none
 |_=>none
def y7:PV→Option (List fE)
 |.list 8 es=>qC Iq es
 |_=>none
def qR (n:Int):Bool:=decide (-9223372036854775808≤n)&&decide (n≤9223372036854775807)
def ET:PV→Option fK
 |.agg [.int .i64 v,.int .i64 s,d]=>match y7 d with
  |some d=>if qR v&&qR s then some ⟨v,s,d⟩ else none
  |none=>none
 |_=>none
theorem adZ {p:PV}{x:UInt8}(h:MK p=some x):p=.int .u8 (x.toNat:Int):=by
 unfold MK at h
 split at h
 case h_2=>cases h
 rename_i n
 split at h
 case isFalse=>cases h
 cases h
 rw [UInt8.toNat_ofNat_of_lt' (show n.toNat<2 ^ 8 by omega)]
 congr 1;omega
theorem aaT (x:UInt8):MK (.int .u8 (x.toNat:Int))=some x:=by
 have:=x.toNat_lt
 unfold MK
 simp only
 rw [if_pos (by omega)]
 simp
theorem rF {α:Type}{f:PV→Option α}{enc:α→PV}(hf:∀ p x,f p=some x→p=enc x):∀ {l:List PV} {xs:List α},qC f l=some xs→l=xs.map enc
 |[],_,h=>by cases h;rfl
 |p::l,xs,h=>by
  unfold qC at h
  split at h
  case h_2=>cases h
  rename_i x hx
  split at h
  case h_2=>cases h
  rename_i ys hy
  cases h
  rw [Zaj,← hf p x hx,← rF hf hy]
theorem oV {α:Type}{f:PV→Option α}{enc:α→PV}:∀ {l:List α},(∀ x∈l,f (enc x)=some x)→qC f (l.map enc)=some l
 |[],_=>rfl
 |x::l,h=>by
  simp only [Zaj,qC,h x (by simp),oV (l:=l) fun y hy=>h y (by simp [hy])]
theorem aaU {p:PV}{x:fE}(h:Iq p=some x):p=je x:=by
 unfold Iq at h
 split at h
 case h_2=>cases h
 rename_i cs
 split at h
 case h_2=>cases h
 rename_i l hl
 split at h
 case isFalse=>cases h
 rename_i h8
 cases h
 rw [rF (fun p x=>adZ) hl]
 simp [je,qh,Vector.toList]
theorem Xx (x:fE):Iq (je x)=some x:=by
 unfold Iq je qh
 simp only
 rw [oV (f:=MK) (enc:=fun b:UInt8=>.int .u8 (b.toNat:Int)) fun b _=>aaT b]
 simp
 rfl
theorem Ir {p:PV}{x:List fE}(h:y7 p=some x):p=aX x:=by
 unfold y7 at h
 split at h
 case h_2=>cases h
 rw [rF (fun p x=>aaU) h];rfl
theorem EU (x:List fE):y7 (aX x)=some x:=by
 unfold y7 aX
 simp only
 exact oV fun x _=>Xx x
theorem ad1 {p:PV}{x:fK}(h:ET p=some x):p=jw x:=by
 unfold ET at h
 split at h
 case h_2=>cases h
 split at h
 case h_2=>cases h
 rename_i d hd
 split at h
 case isFalse=>cases h
 cases h
 have:=Ir hd
 rw [this];rfl
theorem ad2 {p:PV}{x:fK}(h:ET p=some x):qR x.volume=true∧qR x.start=true:=by
 unfold ET at h
 split at h
 case h_2=>cases h
 split at h
 case h_2=>cases h
 split at h
 case isFalse=>cases h
 rename_i hc
 cases h
 simpa using hc
theorem aaV (x:fK)(h1:qR x.volume=true)(h2:qR x.start=true):ET (jw x)=some x:=by
 have:=EU x.data
 unfold aX at this
 simp only [ET,jw,this,h1,h2,Bool.and_self,if_true]
def vk (l:List Int):Int:=if l.length<1∨8<l.length then 6 else if l.any (fun n=>decide (n<1) || decide (n > 4096)) then 2 else 0
def bG (im:List (List fE)):List Int:=im.map fun v=>(v.length:Int)
def sD (sz:List Int)(w:fK):Int :=
 if w.volume<0∨(sz.length:Int)≤w.volume then 7 else if w.data.length=0 then 1
 else if w.start<0∨(sz.getD w.volume.toNat 0) - w.data.length<w.start then 2 else 0
def putAt (l:List fE)(s:Nat)(d:List fE):List fE:=l.take s++d++l.drop (s+d.length)
def FD (im:List (List fE))(w:fK):List (List fE):=im.set w.volume.toNat (putAt (im.getD w.volume.toNat []) w.start.toNat w.data)
def mP (sz:List Int):List fK→Nat→Int×Int
 |[],_=>(0,0)
 |w::l,i=>if sD sz w≠0 then (i,sD sz w) else mP sz l (i+1)
def wE (im:List (List fE))(l:List fK):Int:=if vk (bG im)≠0 then vk (bG im) else (mP (bG im) l 0).2
def apI (im:List (List fE))(l:List fK):Int:=if vk (bG im)≠0 then 0 else (mP (bG im) l 0).1
def qj (im:List (List fE))(l:List fK):List (List fE):=if wE im l=0 then l.foldl FD im else []
def wF:List PV→Option (List nC)
 |[.list 1 im,.list 3 l]=>match qC y7 im with
  |some im=>match qC ET l with
   |some l=>if im.length≤1000000∧im.all (fun v=>decide (v.length≤1000000))=true then some [(.list 1 ((qj im l).map aX),false),(.int .i64 (apI im l),false),(.int .i64 (wE im l),false)] else none
   |none=>none
  |none=>none
 |_=>none
theorem aaW {args:List PV}{rs:List nC}(h:wF args=some rs):∃ (im:List (List fE)) (l:List fK),args=[.list 1 (im.map aX),.list 3 (l.map jw)]∧(∀ w∈l,qR w.volume=true∧qR w.start=true)∧im.length≤1000000∧(∀ v∈im,v.length≤1000000) ∧
  rs=[(.list 1 ((qj im l).map aX),false),(.int .i64 (apI im l),false),(.int .i64 (wE im l),false)]:=by
 unfold wF at h
 split at h
 case h_2=>cases h
 split at h
 case h_2=>cases h
 rename_i im hi
 split at h
 case h_2=>cases h
 rename_i l hl
 split at h
 case isFalse=>cases h
 rename_i hc
 cases h
 refine ⟨im,l,by rw [rF (fun p x=>Ir) hi,rF (fun p x=>ad1) hl],?_,hc.1,fun v hv=>by simpa using zE.1 hc.2 v hv,rfl⟩
 have:∀ {q:List PV} {xs:List fK},qC ET q=some xs→∀ w∈xs,qR w.volume=true∧qR w.start=true:=by
  intro q
  induction q with
  |nil=>intro xs h;cases h;simp
  |cons p q ih =>
   intro xs h
   unfold qC at h
   split at h
   case h_2=>cases h
   rename_i x hx
   split at h
   case h_2=>cases h
   rename_i ys hy
   cases h
   simp only [List.mem_cons,forall_eq_or_imp]
   exact ⟨ad2 hx,ih hy⟩
 exact this hl
theorem Xy {im:List (List fE)}{l:List fK}(h1:∀ w∈l,qR w.volume=true∧qR w.start=true)(h2:im.length≤1000000)(h3:∀ v∈im,v.length≤1000000) :
  wF [.list 1 (im.map aX),.list 3 (l.map jw)]=some [(.list 1 ((qj im l).map aX),false),(.int .i64 (apI im l),false),(.int .i64 (wE im l),false)]:=by
 simp only [wF]
 rw [oV fun x _=>EU x,oV fun x hx=>aaV x (h1 x hx).1 (h1 x hx).2]
 simp only
 rw [if_pos ⟨h2,zE.2 fun v hv=>by simpa using h3 v hv⟩]
end Go.Proofs.YtioijcfcehhmdaaGreatDoor
namespace Go.Proofs.YtioijcfcehhmdaaGreatDoor
structure End where
 pos:Nat
 list:Nat
 step:Int
 deriving DecidableEq,Inhabited
def jA (e:End):PV:=.agg [.int .i64 (e.pos:Int),.int .i64 (e.list:Int),.int .i64 e.step]
def Iu:PV→Option End
 |.agg [.int .i64 a,.int .i64 b,.int .i64 c]=>if 0≤a∧0≤b then some ⟨a.toNat,b.toNat,c⟩ else none
 |_=>none
theorem Xz (e:End):Iu (jA e)=some e:=by
 simp [Iu,jA]
theorem aaX {p:PV}{e:End}(h:Iu p=some e):p=jA e:=by
 unfold Iu at h
 split at h
 ·split at h
  ·rename_i hc
   cases h
   simp only [jA,ZbB hc.1,ZbB hc.2]
  ·cases h
 ·cases h
def wY (x y:End):Bool:=decide (x.pos<y.pos)
def uf (l:List End):List End:=(Sort.pdq wY l.toArray 0 l.length (Lib.bitLen l.length) true true).toList
def mZ (g:Nat):PV→List PV→Option (List PV)
 |.func f [],es=>if f=g then if es.length≤1000000 then (qC Iu es).map fun l=>(uf l).map jA else none else none
 |_,_=>none
theorem KP {g:Nat}{l:List End}(h:l.length≤1000000):mZ g (.func g []) (l.map jA)=some ((uf l).map jA):=by
 unfold mZ
 simp only [if_true,Z2,h]
 rw [oV fun x _=>Xz x]
 rfl
theorem OC {g:Nat}{c:PV}{es es':List PV}(h:mZ g c es=some es'):∃ l:List End,c=.func g []∧es=l.map jA∧l.length≤1000000∧es'=(uf l).map jA:=by
 unfold mZ at h
 split at h
 ·split at h
  ·rename_i hg
   split at h
   ·rename_i hl
    obtain ⟨l,h1,h2⟩:=Zat.1 h
    have:=rF (fun p x h=>aaX h) h1
    subst this
    exact ⟨l,by rw [hg],rfl,by simpa using hl,h2.symm⟩
   ·cases h
  ·cases h
 ·cases h
end Go.Proofs.YtioijcfcehhmdaaGreatDoor
namespace Go.Proofs
open Go.Shelf
def Tryz.tz_ren:Go.Shelf.Ren:=⟨fun|29=>150|n=>n,fun|22=>144|3=>3|4=>4|25=>180|54=>204|0=>0|5=>5|n=>n,fun|1=>0|n=>n⟩
theorem Tryz.tz:Go.Proofs.Lays7.n29 Tryz.prog Tryz.tz_ren:={
 mixed:=by kernel_rfl
 f29:=Tryz.func150.trans (congrArg some (by kernel_rfl))
 t0:=Tryz.underlying0
 a0:=Tryz.isAgg0
 z0:=Tryz.sizeOf0
 v0:=Tryz.zeroValue0
 i0:=by kernel_rfl
 t3:=Tryz.underlying3
 a3:=Tryz.isAgg3
 z3:=Tryz.sizeOf3
 v3:=Tryz.zeroValue3
 i3:=by kernel_rfl
 t4:=Tryz.underlying4
 a4:=Tryz.isAgg4
 z4:=Tryz.sizeOf4
 v4:=Tryz.zeroValue4
 i4:=by kernel_rfl
 t5:=Tryz.underlying5
 a5:=Tryz.isAgg5
 z5:=Tryz.sizeOf5
 v5:=Tryz.zeroValue5
 i5:=by kernel_rfl
 t22:=Tryz.underlying144
 a22:=Tryz.isAgg144
 z22:=Tryz.sizeOf144
 v22:=Tryz.zeroValue144
 i22:=by kernel_rfl
 t25:=Tryz.underlying180
 a25:=Tryz.isAgg180
 z25:=Tryz.sizeOf180
 v25:=Tryz.zeroValue180
 i25:=by kernel_rfl
 t54:=Tryz.underlying204
 a54:=Tryz.isAgg204
 z54:=Tryz.sizeOf204
 g1:=by kernel_rfl }
end Go.Proofs
namespace Go.Proofs.YtioijcfcehhmdaaGreatDoor
open Go.RowKit Go.Shelf
def tzX:List PV→Option (List nC)
 |[.int .u64 n]=>if 0≤n∧n<18446744073709551616 then some [(.int .i64 (Lib.ctz 64 n.toNat:Nat),false)] else none
 |_=>none
theorem aln {T:Tags}{w:World}(h:kF T w):TabAt 0 Lib.deBruijn64tab w:=fun j hj=>by
 have hp:=h _ (Zav.2 rfl)
 obtain ⟨b,off,e1,_,_,h3⟩:=hp.uV
 obtain ⟨eb,eo⟩:0=b∧0=off+0:=by
  injection e1 with e1
  injection e1 with e1
  injection e1 with e2 e3
  exact ⟨e2,e3⟩
 have eo:off=0:=by omega
 subst eb;subst eo
 obtain ⟨u,c1,_,c2⟩:=h3 j (PV.int .u8 ((Lib.deBruijn64tab[j]:Nat):Int)) (by simp [ZS hj])
 rw [c2.bP] at c1
 rw [show Lib.deBruijn64tab.getD j 0=Lib.deBruijn64tab[j] by simp [Zag,ZS hj]]
 simpa using c1
theorem aox:∀ args rs,tzX args=some rs→callable Tryz.prog 150=true∧nP Tryz.prog 150 args rs:=fun args rs h=>by
 unfold tzX at h
 split at h
 case h_2=>cases h
 rename_i n
 split at h
 case isFalse=>cases h
 rename_i hn
 cases h
 refine ⟨by kernel_rfl,fun T0 w vs h1 h2 h3 h4 hG=>?_⟩
 match vs,h3 with
 |[v],_ =>
  have hv:=(h4 0 _ v rfl rfl).bP
  subst hv
  have hc:=Any7.bits_TrailingZeros64 Tryz.tz n.toNat (by omega) w (fun _=>aln hG)
  rw [ZbB hn.1] at hc
  refine Calls.mono hc ?_
  rintro e w' ⟨rfl,rfl⟩
  refine ⟨_,T0,rfl,Below.refl _ _,fun _ _=>rfl,h2,#[_],rfl,rfl,fun i r u hr hu=>?_⟩
  match i with
  |0=>cases hr;cases hu;exact .int _ _
  |i+1=>simp at hr
end Go.Proofs.YtioijcfcehhmdaaGreatDoor
namespace Go.Proofs.YtioijcfcehhmdaaGreatDoor
def wG:List PV→Option (Option (Nat×Int))
 |[.bool true,.int .i64 _]=>some none
 |[.bool false,.int .i64 n]=>some (some (148,n))
 |_=>none
def XA:ay:=(.seq (.ops [.bin 197 .lss (.t 196) (.t 195)]) (.seq (.cond (.t 197) .skip (.exit 4)) (.seq (.block 5 (.seq (.ops [.dA 198 2 (.t 194) (.t 196),.load 199 (some 2) (.t 198),.alloc 26 [(.int .i64 0),(.list 1 [])],.store none 2 (.t 26) (.t 199)]) (.ops [.ak 200 (.t 11),.load 201 (some 2) (.t 26),.call 202 41 [(.t 201)],.bin 203 .add (.t 200) (.t 202),.aN 11 (.t 203)]))) (.ops [.bin 204 .add (.t 196) (.c (.int .i64 1)),.ak 196 (.t 204)]))))
def XB:ay :=
(.clean [1,3,4,6,9,11,13,23,108,109,154,182,194,195,196] [1,2,3,4,6,9,11,13,108,109,154] (.block 4 (.loop [1,3,4,6,9,11,13,23,108,109,154,182,194,195,196] XA)))
def OD:ay:=(.seq (.ops [.bin 110 .lss (.t 109) (.t 108)]) (.seq (.cond (.t 110) .skip (.exit 2)) (.seq (.block 3 (.seq (.ops [.ak 111 (.t 109),.aN 14 (.t 111)]) (.seq (.ops [.load 113 (some 8) (.t 6),.load 114 (some 4) (.t 4),.ak 115 (.t 14),.bin 116 .add (.c (.int .i64 10)) (.t 115),.ak 117 (.t 14),.call 118 12 [(.t 113),(.t 114),(.t 116),(.t 117)],.ak 112 (.t 118),.ext 119 (.t 112) 0,.ext 120 (.t 112) 1,.ext 121 (.t 112) 2,.alloc 15 [(.int .i64 0),(.int .i64 0),(.int .i64 0),(.int .i64 0),(.int .i64 0),(.int .i64 0),(.bool false),(.bool false)],.alloc 16 [(.int .i64 0),(.int .i64 0),(.int .i64 0),(.list 1 []),(.list 3 [])],.store none 8 (.t 15) (.t 119),.store none 5 (.t 16) (.t 120),.aN 17 (.t 121)]) (.seq (.ops [.aP 123 (.t 3) 3,.load 124 none (.t 123),.load 125 (some 5) (.t 16),.call 126 36 [(.t 124),(.t 125)],.ak 122 (.t 126),.ext 127 (.t 122) 0,.ext 128 (.t 122) 1,.aN 18 (.t 127),.aN 19 (.t 128)]) (.seq (.seq (.ops [.ak 129 (.t 17),.bin 130 .neq (.t 129) (.c (.int .i64 0)),.ak 131 (.t 130),.grd 131 false (.ak 132 (.t 19)),.grd 131 false (.bin 133 .neq (.t 132) (.c (.int .i64 0))),.pick 134 (.t 131) (.c (.bool true)) (.t 133),.ak 135 (.t 134),.grd 135 false (.aP 136 (.t 16) 0),.grd 135 false (.load 137 none (.t 136)),.grd 135 false (.aP 138 (.t 6) 5),.grd 135 false (.load 139 none (.t 138)),.grd 135 false (.bin 140 .neq (.t 137) (.t 139)),.pick 141 (.t 135) (.c (.bool true)) (.t 140),.ak 142 (.t 141),.grd 142 false (.ak 143 (.t 18)),.grd 142 false (.aP 144 (.t 4) 3),.grd 142 false (.load 145 none (.t 144)),.grd 142 false (.call 146 37 [(.t 143),(.t 145)]),.grd 142 false (.un 147 .not (.t 146)),.pick 148 (.t 142) (.c (.bool true)) (.t 147)]) (.cond (.t 148) (.seq (.ops [.aN 2 (.c (.bool false))]) .ret) .skip)) (.seq (.AQ [(.t 15)] [([2,3,0,1],4)] (some ([],[],5,[([],6),([7],8)])) [9] [.ak 151 (.t 13),.load 152 (some 5) (.t 16),.Zv 149 (some 8) (.t 15),.ak 150 (.t 18),.iH 153 5 [(.t 152)],.app 154 5 (.t 151) (.t 153),.store none 8 (.t 6) (.t 149),.aP 155 (.t 3) 3,.store none 1 (.t 155) (.t 150),.aN 13 (.t 154)]) (.seq (.seq (.ops [.ak 156 (.t 14),.aP 157 (.t 1) 3,.load 158 none (.t 157),.len 159 (.t 158),.bin 160 .eql (.t 156) (.t 159)]) (.cond (.t 160) (.exit 2) .skip)) (.seq (.AQ [] [([0,1,2,3,4,5,6],7)] none [8,9,10,11,12,13,14] [.aP 162 (.t 4) 3,.load 163 none (.t 162),.aP 164 (.t 1) 3,.load 165 none (.t 164),.ak 166 (.t 14),.dA 167 1 (.t 165) (.t 166),.load 168 none (.t 167),.call 169 38 [(.t 163),(.t 168)],.ak 161 (.t 169),.ext 170 (.t 161) 0,.ext 171 (.t 161) 1,.ext 172 (.t 161) 2,.aN 20 (.t 170),.aN 21 (.t 171),.aN 22 (.t 172)]) (.seq (.AQ [] [([0,2,3,4,5,6],1),([],7)] none [8,9,10,11,12] [.load 174 (some 4) (.t 1),.aP 176 (.t 1) 3,.load 177 none (.t 176),.ak 178 (.t 14),.dA 179 1 (.t 177) (.t 178),.load 180 none (.t 179),.call 175 40 [(.t 174)],.call 181 39 [(.t 175),(.t 180)],.ak 173 (.t 181),.ext 182 (.t 173) 0,.ext 183 (.t 173) 1,.aN 23 (.t 182),.aN 24 (.t 183)]) (.seq (.seq (.ops [.ak 184 (.t 22),.bin 185 .neq (.t 184) (.c (.int .i64 0)),.ak 186 (.t 185),.grd 186 false (.ak 187 (.t 24)),.grd 186 false (.un 188 .not (.t 187)),.pick 189 (.t 186) (.c (.bool true)) (.t 188)]) (.cond (.t 189) (.seq (.ops [.aN 2 (.c (.bool false))]) .ret) .skip)) (.seq (.ops [.ak 190 (.t 20),.ak 191 (.t 23),.aP 192 (.t 4) 3,.store none 1 (.t 192) (.t 190),.aP 193 (.t 4) 2,.store none 1 (.t 193) (.t 191)]) (.seq (.seq (.ops [.ak 194 (.t 23),.len 195 (.t 194),.ak 196 (.c (.int .i64 0))])
         XB) (.seq (.ops [.load 206 (some 8) (.t 6),.load 207 (some 4) (.t 3),.load 208 (some 4) (.t 4),.call 209 15 [(.t 206),(.t 207),(.t 208)],.ak 205 (.t 209),.ext 210 (.t 205) 0,.ext 211 (.t 205) 1,.alloc 27 [(.int .i64 0),(.int .i64 0),(.int .i64 0),(.int .i64 0),(.int .i64 0),(.int .i64 0),(.bool false),(.bool false)],.store none 8 (.t 27) (.t 210),.aN 28 (.t 211)]) (.seq (.ops [.ak 212 (.t 28),.bin 213 .eql (.t 212) (.c (.int .i64 0)),.aP 214 (.t 3) 3,.load 215 none (.t 214),.aP 216 (.t 4) 3,.load 217 none (.t 216),.call 218 37 [(.t 215),(.t 217)],.Zu 219 true (.t 213) (.t 218),.ak 220 (.t 219),.grd 220 false (.ak 221 (.t 28)),.grd 220 false (.bin 222 .neq (.t 221) (.c (.int .i64 0))),.grd 220 false (.ak 223 (.t 222)),.grd 223 true (.ak 224 (.t 28)),.grd 223 true (.bin 225 .neq (.t 224) (.c (.int .i64 22))),.grd 220 false (.pick 226 (.t 223) (.t 225) (.c (.bool false))),.pick 227 (.t 220) (.c (.bool true)) (.t 226)]) (.cond (.t 227) (.seq (.ops [.aN 2 (.c (.bool false))]) .ret) .skip))))))))))))))) (.ops [.bin 228 .add (.t 109) (.c (.int .i64 1)),.ak 109 (.t 228)]))))
def XC:ay :=
(.clean [1,3,4,6,9,11,13,108,109,154] [2,3,4,6,9,11,13] (.block 2 (.loop [1,3,4,6,9,11,13,108,109,154] OD)))
def ad3:iq:=⟨0,208,[.tmp 0],(.seq (.ops [.aN 0 (.c (.bool false))]) (.seq (.ops [.iH 29 1 [(.c (.int .i64 3))],.aN 1 (.t 29)]) (.seq (.ops [.ak 31 (.t 1),.call 32 43 [(.c (.int .i64 0)),(.c (.int .u8 1))],.iH 33 3 [(.t 32)],.call 34 39 [(.t 31),(.t 33)],.ak 30 (.t 34),.ext 35 (.t 30) 0,.ext 36 (.t 30) 1,.aN 2 (.t 35),.aN 3 (.t 36)]) (.seq (.ops [.ak 38 (.t 1),.call 39 43 [(.c (.int .i64 2)),(.c (.int .u8 2))],.iH 40 3 [(.t 39)],.call 41 39 [(.t 38),(.t 40)],.ak 37 (.t 41),.ext 42 (.t 37) 0,.ext 43 (.t 37) 1,.aN 4 (.t 42),.aN 5 (.t 43)]) (.seq (.ops [.ak 45 (.t 1),.call 46 43 [(.c (.int .i64 0)),(.c (.int .u8 1))],.call 47 43 [(.c (.int .i64 2)),(.c (.int .u8 2))],.iH 48 3 [(.t 46),(.t 47)],.call 49 39 [(.t 45),(.t 48)],.ak 44 (.t 49),.ext 50 (.t 44) 0,.ext 51 (.t 44) 1,.aN 6 (.t 50),.aN 7 (.t 51)]) (.seq (.ops [.ak 53 (.t 1),.call 54 43 [(.c (.int .i64 1)),(.c (.int .u8 3))],.iH 55 3 [(.t 54)],.call 56 39 [(.t 53),(.t 55)],.ak 52 (.t 56),.ext 57 (.t 52) 0,.ext 58 (.t 52) 1,.aN 8 (.t 57),.aN 9 (.t 58)]) (.seq (.ops [.build 59 [(.int .u8 0),(.int .u8 0),(.int .u8 0),(.int .u8 0),(.int .u8 0),(.int .u8 0),(.int .u8 0),(.int .u8 0)] [(0,1,(.c (.int .u8 1)))],.build 60 [(.int .u8 0),(.int .u8 0),(.int .u8 0),(.int .u8 0),(.int .u8 0),(.int .u8 0),(.int .u8 0),(.int .u8 0)] [],.build 61 [(.int .u8 0),(.int .u8 0),(.int .u8 0),(.int .u8 0),(.int .u8 0),(.int .u8 0),(.int .u8 0),(.int .u8 0)] [],.iH 62 8 [(.t 59),(.t 60),(.t 61)],.iH 63 1 [(.t 62)],.build 64 [(.int .u8 0),(.int .u8 0),(.int .u8 0),(.int .u8 0),(.int .u8 0),(.int .u8 0),(.int .u8 0),(.int .u8 0)] [],.build 65 [(.int .u8 0),(.int .u8 0),(.int .u8 0),(.int .u8 0),(.int .u8 0),(.int .u8 0),(.int .u8 0),(.int .u8 0)] [],.build 66 [(.int .u8 0),(.int .u8 0),(.int .u8 0),(.int .u8 0),(.int .u8 0),(.int .u8 0),(.int .u8 0),(.int .u8 0)] [(0,1,(.c (.int .u8 2)))],.iH 67 8 [(.t 64),(.t 65),(.t 66)],.iH 68 1 [(.t 67)],.build 69 [(.int .u8 0),(.int .u8 0),(.int .u8 0),(.int .u8 0),(.int .u8 0),(.int .u8 0),(.int .u8 0),(.int .u8 0)] [],.build 70 [(.int .u8 0),(.int .u8 0),(.int .u8 0),(.int .u8 0),(.int .u8 0),(.int .u8 0),(.int .u8 0),(.int .u8 0)] [(0,1,(.c (.int .u8 3)))],.build 71 [(.int .u8 0),(.int .u8 0),(.int .u8 0),(.int .u8 0),(.int .u8 0),(.int .u8 0),(.int .u8 0),(.int .u8 0)] [(0,1,(.c (.int .u8 2)))],.iH 72 8 [(.t 69),(.t 70),(.t 71)],.iH 73 1 [(.t 72)],.aN 10 (.t 63),.aN 11 (.t 68),.aN 12 (.t 73)]) (.seq (.ops [.ak 75 (.t 10),.ak 76 (.t 2),.call 77 44 [(.t 75),(.t 76)],.ak 78 (.t 11),.ak 79 (.t 4),.call 80 45 [(.t 78),(.t 79)],.call 81 24 [(.t 77),(.t 80),(.c (.int .i64 3))],.ak 74 (.t 81),.ext 82 (.t 74) 0,.ext 83 (.t 74) 1,.ext 84 (.t 74) 2,.alloc 13 [(.int .i64 0),(.int .i64 0),(.int .i64 0),(.int .i64 0),(.int .i64 0),(.int .i64 0),(.bool false),(.bool false)],.store none 8 (.t 13) (.t 82),.aN 14 (.t 83),.aN 15 (.t 84)]) (.seq (.seq (.ops [.ak 85 (.t 15),.bin 86 .neq (.t 85) (.c (.int .i64 0)),.ak 87 (.t 86),.grd 87 false (.aP 88 (.t 13) 5),.grd 87 false (.load 89 none (.t 88)),.grd 87 false (.bin 90 .neq (.t 89) (.c (.int .i64 5))),.pick 91 (.t 87) (.c (.bool true)) (.t 90),.ak 92 (.t 91),.grd 92 false (.aP 93 (.t 13) 4),.grd 92 false (.load 94 none (.t 93)),.grd 92 false (.bin 95 .neq (.t 94) (.c (.int .i64 3))),.pick 96 (.t 92) (.c (.bool true)) (.t 95),.ak 97 (.t 96),.grd 97 false (.ak 98 (.t 14)),.grd 97 false (.build 99 [(.int .i64 0),(.int .i64 0)] [(0,1,(.c (.int .i64 0))),(1,1,(.c (.int .i64 1)))]),.grd 97 false (.build 100 [(.int .i64 0),(.int .i64 0)] [(0,1,(.c (.int .i64 2))),(1,1,(.c (.int .i64 1)))]),.grd 97 false (.iH 101 2 [(.t 99),(.t 100)]),.grd 97 false (.iH 102 1 [(.t 101)]),.grd 97 false (.call 103 27 [(.t 98),(.t 102)]),.grd 97 false (.un 104 .not (.t 103)),.pick 105 (.t 97) (.c (.bool true)) (.t 104)]) (.cond (.t 105) (.seq (.ops [.aN 0 (.c (.bool false))]) .ret) .skip)) (.seq (.drs [] [2,8,10,11,12,13,15,16,35,57,63,68,73] [.load 107 (some 8) (.t 13),.ak 108 (.t 11),.ak 109 (.t 6),.call 110 45 [(.t 108),(.t 109)],.call 111 12 [(.t 107),(.t 110),(.c (.int .i64 10)),(.c (.int .i64 0))],.ak 106 (.t 111),.ext 112 (.t 106) 0,.ext 113 (.t 106) 1,.ext 114 (.t 106) 2,.alloc 16 [(.int .i64 0),(.int .i64 0),(.int .i64 0),(.list 1 []),(.list 3 [])],.store none 8 (.t 13) (.t 112),.store none 5 (.t 16) (.t 113),.aN 15 (.t 114)]
      [⟨[([0,1,2],3),([],4),([5,6,7,8],9)],(some ([],[],10,[([],11)])),[12],[0,1,2,3,4,5,6,7,8,9,10,11,12],false⟩,⟨[([0,1,2],3),([],9),([],4)],(some ([5,6],[7,8],10,[([],11)])),[12],[0,1,2,3,9,4,5,6,7,8,10,11,12],false⟩,⟨[([0,1,2],9),([],3),([],4)],(some ([5,6],[7,8],10,[([],11)])),[12],[0,1,2,9,3,4,5,6,7,8,10,11,12],false⟩]) (.seq (.ops [.ak 116 (.t 10),.load 117 (some 5) (.t 16),.call 118 36 [(.t 116),(.t 117)],.ak 115 (.t 118),.ext 119 (.t 115) 0,.ext 120 (.t 115) 1,.aN 17 (.t 119),.aN 18 (.t 120)]) (.seq (.drs [] [2,8,10,11,12,13,15,16,17,18,20,35,57,63,68,73,119] [.load 122 (some 8) (.t 13),.ak 123 (.t 17),.ak 124 (.t 2),.call 125 44 [(.t 123),(.t 124)],.ak 126 (.t 12),.ak 127 (.t 8),.call 128 45 [(.t 126),(.t 127)],.call 129 15 [(.t 122),(.t 125),(.t 128)],.ak 121 (.t 129),.ext 130 (.t 121) 0,.ext 131 (.t 121) 1,.alloc 19 [(.int .i64 0),(.int .i64 0),(.int .i64 0),(.int .i64 0),(.int .i64 0),(.int .i64 0),(.bool false),(.bool false)],.store none 8 (.t 19) (.t 130),.aN 20 (.t 131)]
       [⟨[([0,1,2,4,5],3),([],6),([],7),([8,9,10],11)],(some ([],[],12,[])),[13],[0,1,2,4,5,3,6,7,8,9,10,11,12,13],false⟩,⟨[([0,1,2,4,5],3),([],6),([],11),([],7)],(some ([8,9],[10],12,[])),[13],[0,1,2,4,5,3,6,11,7,8,9,10,12,13],false⟩,⟨[([0,1,2,4,5],3),([],11),([],6),([],7)],(some ([8,9],[10],12,[])),[13],[0,1,2,4,5,3,11,6,7,8,9,10,12,13],false⟩,⟨[([0,1,2,4,5],11),([],3),([],6),([],7)],(some ([8,9],[10],12,[])),[13],[0,1,2,4,5,11,3,6,7,8,9,10,12,13],false⟩]) (.seq (.drs [] [2,8,10,11,12,13,15,16,17,18,20,21,22,35,57,63,68,73,119] [.load 133 (some 8) (.t 13),.ak 134 (.t 12),.ak 135 (.t 8),.call 136 45 [(.t 134),(.t 135)],.call 137 12 [(.t 133),(.t 136),(.c (.int .i64 11)),(.c (.int .i64 0))],.ak 132 (.t 137),.ext 138 (.t 132) 0,.ext 139 (.t 132) 1,.ext 140 (.t 132) 2,.alloc 21 [(.int .i64 0),(.int .i64 0),(.int .i64 0),(.list 1 []),(.list 3 [])],.store none 8 (.t 13) (.t 138),.store none 5 (.t 21) (.t 139),.aN 22 (.t 140)]
        [⟨[([0,1,2],3),([],4),([5,6,7,8],9)],(some ([],[],10,[([],11)])),[12],[0,1,2,3,4,5,6,7,8,9,10,11,12],false⟩,⟨[([0,1,2],3),([],9),([],4)],(some ([5,6],[7,8],10,[([],11)])),[12],[0,1,2,3,9,4,5,6,7,8,10,11,12],false⟩,⟨[([0,1,2],9),([],3),([],4)],(some ([5,6],[7,8],10,[([],11)])),[12],[0,1,2,9,3,4,5,6,7,8,10,11,12],false⟩]) (.seq (.ops [.ak 142 (.t 17),.load 143 (some 5) (.t 21),.call 144 36 [(.t 142),(.t 143)],.ak 141 (.t 144),.ext 145 (.t 141) 0,.ext 146 (.t 141) 1,.aN 23 (.t 145),.aN 24 (.t 146)]) (.seq (.drs [] [10,11,12,15,16,18,20,21,22,23,24,25,26,63,68,73,145] [.load 148 (some 8) (.t 13),.ak 149 (.t 23),.ak 150 (.t 2),.call 151 44 [(.t 149),(.t 150)],.ak 152 (.t 12),.ak 153 (.t 8),.call 154 45 [(.t 152),(.t 153)],.call 155 15 [(.t 148),(.t 151),(.t 154)],.ak 147 (.t 155),.ext 156 (.t 147) 0,.ext 157 (.t 147) 1,.alloc 25 [(.int .i64 0),(.int .i64 0),(.int .i64 0),(.int .i64 0),(.int .i64 0),(.int .i64 0),(.bool false),(.bool false)],.store none 8 (.t 25) (.t 156),.aN 26 (.t 157)]
         [⟨[([0,1,2,4,5],3),([],6),([],7),([8,9,10],11)],(some ([],[],12,[])),[13],[0,1,2,4,5,3,6,7,8,9,10,11,12,13],false⟩,⟨[([0,1,2,4,5],3),([],6),([],11),([],7)],(some ([8,9],[10],12,[])),[13],[0,1,2,4,5,3,6,11,7,8,9,10,12,13],false⟩,⟨[([0,1,2,4,5],3),([],11),([],6),([],7)],(some ([8,9],[10],12,[])),[13],[0,1,2,4,5,3,11,6,7,8,9,10,12,13],false⟩,⟨[([0,1,2,4,5],11),([],3),([],6),([],7)],(some ([8,9],[10],12,[])),[13],[0,1,2,4,5,11,3,6,7,8,9,10,12,13],false⟩]) (.seq (.ops [.ak 159 (.t 10),.ak 160 (.t 11),.call 161 17 [(.t 159),(.t 160)],.ak 158 (.t 161),.ext 162 (.t 158) 0,.ext 163 (.t 158) 1,.aN 27 (.t 162),.aN 28 (.t 163)]) (.seq (.seq (.ops [.ak 164 (.t 15),.ak 165 (.t 18),.bin 166 .add (.t 164) (.t 165),.ak 167 (.t 22),.bin 168 .add (.t 166) (.t 167),.ak 169 (.t 24),.bin 170 .add (.t 168) (.t 169),.ak 171 (.t 26),.bin 172 .add (.t 170) (.t 171),.ak 173 (.t 28),.bin 174 .add (.t 172) (.t 173),.bin 175 .neq (.t 174) (.c (.int .i64 0)),.ak 176 (.t 175),.grd 176 false (.ak 177 (.t 20)),.grd 176 false (.bin 178 .neq (.t 177) (.c (.int .i64 22))),.pick 179 (.t 176) (.c (.bool true)) (.t 178),.ak 180 (.t 179),.grd 180 false (.aP 181 (.t 16) 0),.grd 180 false (.load 182 none (.t 181)),.grd 180 false (.bin 183 .neq (.t 182) (.c (.int .i64 5))),.pick 184 (.t 180) (.c (.bool true)) (.t 183),.ak 185 (.t 184),.grd 185 false (.aP 186 (.t 21) 0),.grd 185 false (.load 187 none (.t 186)),.grd 185 false (.bin 188 .neq (.t 187) (.c (.int .i64 10))),.pick 189 (.t 185) (.c (.bool true)) (.t 188)]) (.cond (.t 189) (.seq (.ops [.aN 0 (.c (.bool false))]) .ret) .skip)) (.seq (.ops [.aP 190 (.t 25) 6,.load 191 none (.t 190),.ak 192 (.t 191),.grd 192 true (.ak 193 (.t 23)),.grd 192 true (.ak 194 (.t 12)),.grd 192 true (.call 195 37 [(.t 193),(.t 194)]),.pick 196 (.t 192) (.t 195) (.c (.bool false)),.ak 197 (.t 196),.grd 197 true (.load 198 (some 5) (.t 16)),.grd 197 true (.load 199 (some 5) (.t 21)),.grd 197 true (.iH 200 5 [(.t 198),(.t 199)]),.grd 197 true (.call 201 20 [(.t 200)]),.grd 197 true (.bin 202 .eql (.t 201) (.c (.int .i64 3))),.pick 203 (.t 197) (.t 202) (.c (.bool false)),.ak 204 (.t 203),.grd 204 true (.ak 205 (.t 27)),.grd 204 true (.bin 206 .eql (.t 205) (.c (.int .i64 2))),.pick 207 (.t 204) (.t 206) (.c (.bool false)),.aN 0 (.t 207)]) .ret))))))))))))))))))⟩
def OE:ay:=(.seq (.ops [.bin 71 .lss (.t 70) (.t 69)]) (.seq (.cond (.t 71) .skip (.exit 0)) (.seq (.block 1 (.seq (.ops [.dA 72 1 (.t 68) (.t 70),.load 73 none (.t 72),.aN 16 (.t 73)]) (.ops [.ak 74 (.t 14),.ak 75 (.t 16),.len 76 (.t 75),.iH 77 1 [(.t 76)],.app 78 1 (.t 74) (.t 77),.aN 14 (.t 78)]))) (.ops [.bin 79 .add (.t 70) (.c (.int .i64 1)),.ak 70 (.t 79)]))))
def OG:ay :=
(.clean [2,8,9,10,11,14,68,69,70,78] [2,8,9,10,11,14] (.block 0 (.loop [2,8,9,10,11,14,68,69,70,78] OE)))
def DV:oJ:=⟨4,96,[.cell 8 (some 8),.cell 9 (some 5),.cell 10 none],(.ops [.box 4 (.t 0),.box 5 (.t 1),.alloc 8 [(.int .i64 0),(.int .i64 0),(.int .i64 0),(.int .i64 0),(.int .i64 0),(.int .i64 0),(.bool false),(.bool false)],.alloc 9 [(.int .i64 0),(.int .i64 0),(.int .i64 0),(.list 1 []),(.list 3 [])],.alloc 10 [(.int .i64 0)]]),(.seq (.ops [.load 18 (some 8) (.t 4),.build 19 [(.int .i64 0),(.int .i64 0),(.int .i64 0),(.int .i64 0),(.int .i64 0),(.int .i64 0),(.bool false),(.bool false)] [(0,8,(.t 18))],.alloc 11 [(.int .i64 0),(.int .i64 0),(.int .i64 0),(.int .i64 0),(.int .i64 0),(.int .i64 0),(.bool false),(.bool false)],.store none 8 (.t 11) (.t 19)]) (.seq (.Dk [.load 20 (some 8) (.t 11)] 21 48 [(.t 20)]) (.seq (.Dk [.load 22 (some 4) (.t 5),.call 23 50 [(.t 22)]] 24 49 [(.t 23)]) (.seq (.Dk [.aP 25 (.t 5) 0,.load 26 none (.t 25),.aP 27 (.t 11) 0,.aP 28 (.t 27) 1,.load 29 none (.t 28),.bin 30 .eql (.t 26) (.t 29)] 31 51 [(.t 30),(.c (.int .i64 1))]) (.seq (.Dk [.aP 32 (.t 11) 0,.aP 33 (.t 32) 6,.load 34 none (.t 33),.un 35 .not (.t 34)] 36 51 [(.t 35),(.c (.int .i64 12))]) (.seq (.Dk [.aP 37 (.t 11) 0,.aP 38 (.t 37) 3,.load 39 none (.t 38),.bin 40 .lss (.t 39) (.c (.int .i64 4096))] 41 51 [(.t 40),(.c (.int .i64 11))]) (.seq (.ops [.aP 43 (.t 5) 1,.load 44 none (.t 43),.call 45 52 [(.t 44)],.ak 42 (.t 45),.ext 46 (.t 42) 0,.ext 47 (.t 42) 1,.aN 12 (.t 46),.aN 13 (.t 47)]) (.seq (.Dk [.ak 48 (.t 2),.aP 49 (.t 11) 0,.aP 50 (.t 49) 5,.load 51 none (.t 50),.bin 52 .gtr (.t 48) (.t 51),.ak 53 (.t 52),.grd 53 true (.ak 54 (.t 2)),.grd 53 true (.ak 55 (.t 13)),.grd 53 true (.bin 56 .geq (.t 54) (.t 55)),.pick 57 (.t 53) (.t 56) (.c (.bool false))] 58 51 [(.t 57),(.c (.int .i64 2))]) (.seq (.AQ [] [([0,1,2,3,4,5],6)] (some ([7],[],8,[])) [] [.aP 59 (.t 11) 0,.aP 60 (.t 59) 5,.load 61 none (.t 60),.ak 62 (.t 2),.ak 63 (.t 3),.load 64 (some 4) (.t 5),.call 65 53 [(.t 64)],.build 66 [(.int .i64 0),(.int .i64 0),(.int .i64 0),(.list 1 []),(.list 3 [])] [(0,1,(.t 61)),(1,1,(.t 62)),(2,1,(.t 63)),(4,1,(.t 65))],.store none 5 (.t 9) (.t 66)]) (.seq (.ops [.aN 14 (.nil 1)]) (.seq (.seq (.ops [.aP 67 (.t 5) 3,.load 68 none (.t 67),.len 69 (.t 68),.ak 70 (.c (.int .i64 0))])
       OG) (.seq (.Dk [.load 80 (some 5) (.t 9),.ak 81 (.t 14),.call 82 54 [(.t 80),(.t 81)]] 83 49 [(.t 82)]) (.seq (.ops [.aP 84 (.t 11) 0,.aP 85 (.t 84) 3,.load 86 none (.t 85),.bin 87 .add (.t 86) (.c (.int .i64 1)),.aP 88 (.t 11) 0,.aP 89 (.t 88) 3,.store none 1 (.t 89) (.t 87)]) (.seq (.ops [.ak 90 (.t 2),.aP 91 (.t 11) 0,.aP 92 (.t 91) 5,.store none 1 (.t 92) (.t 90)]) (.seq (.drs [] [8,9,10] [.aP 93 (.t 11) 0,.load 94 (some 8) (.t 93),.load 95 (some 5) (.t 9),.store none 8 (.t 8) (.t 94),.store none 5 (.t 9) (.t 95),.store none 1 (.t 10) (.c (.int .i64 0))] [⟨[],(some ([0,1],[],3,[([2],4),([],5)])),[],[0,1,3,2,4,5],false⟩,⟨[([0,1],2)],(some ([],[],3,[([],4),([],5)])),[],[0,1,2,3,4,5],false⟩]) .ret))))))))))))))),
148,10,47,(some (17,46,[(8,[(.int .i64 0),(.int .i64 0),(.int .i64 0),(.int .i64 0),(.int .i64 0),(.int .i64 0),(.bool false),(.bool false)]),(9,[(.int .i64 0),(.int .i64 0),(.int .i64 0),(.list 1 []),(.list 3 [])])]))⟩
def Gi:ay:=(.seq (.ops [.bin 21 .lss (.t 20) (.t 19)]) (.seq (.cond (.t 21) .skip (.exit 0)) (.seq (.block 1 (.seq (.ops [.dA 22 4 (.t 18) (.t 20),.load 23 (some 4) (.t 22),.alloc 10 [(.int .i64 0),(.list 0 []),(.list 0 []),(.list 0 [])],.store none 4 (.t 10) (.t 23)]) (.Dk [.load 24 (some 4) (.t 10),.call 25 50 [(.t 24)]] 26 49 [(.t 25)]))) (.ops [.bin 27 .add (.t 20) (.c (.int .i64 1)),.ak 20 (.t 27)]))))
def OH:ay :=
(.clean [4,5,6,7,8,18,19,20] [4,5,6,7,8] (.block 0 (.loop [4,5,6,7,8,18,19,20] Gi)))
def FH:oJ:=⟨3,64,[.cell 6 (some 8),.cell 7 none],(.ops [.box 3 (.t 0),.box 4 (.t 1),.box 5 (.t 2),.alloc 6 [(.int .i64 0),(.int .i64 0),(.int .i64 0),(.int .i64 0),(.int .i64 0),(.int .i64 0),(.bool false),(.bool false)],.alloc 7 [(.int .i64 0)]]),(.seq (.ops [.load 12 (some 8) (.t 3),.build 13 [(.int .i64 0),(.int .i64 0),(.int .i64 0),(.int .i64 0),(.int .i64 0),(.int .i64 0),(.bool false),(.bool false)] [(0,8,(.t 12))],.alloc 8 [(.int .i64 0),(.int .i64 0),(.int .i64 0),(.int .i64 0),(.int .i64 0),(.int .i64 0),(.bool false),(.bool false)],.store none 8 (.t 8) (.t 13)]) (.seq (.Dk [.load 14 (some 8) (.t 8)] 15 48 [(.t 14)]) (.seq (.seq (.ops [.load 16 (some 4) (.t 4),.load 17 (some 4) (.t 5),.iH 18 4 [(.t 16),(.t 17)],.len 19 (.t 18),.ak 20 (.c (.int .i64 0))])
   OH) (.seq (.Dk [.aP 28 (.t 4) 0,.load 29 none (.t 28),.aP 30 (.t 8) 0,.aP 31 (.t 30) 2,.load 32 none (.t 31),.bin 33 .eql (.t 29) (.t 32),.ak 34 (.t 33),.grd 34 true (.aP 35 (.t 5) 0),.grd 34 true (.load 36 none (.t 35)),.grd 34 true (.aP 37 (.t 8) 0),.grd 34 true (.aP 38 (.t 37) 1),.grd 34 true (.load 39 none (.t 38)),.grd 34 true (.bin 40 .eql (.t 36) (.t 39)),.pick 41 (.t 34) (.t 40) (.c (.bool false))] 42 51 [(.t 41),(.c (.int .i64 1))]) (.seq (.Dk [.aP 43 (.t 8) 0,.aP 44 (.t 43) 6,.load 45 none (.t 44),.un 46 .not (.t 45),.ak 47 (.t 46),.grd 47 true (.aP 48 (.t 8) 0),.grd 47 true (.aP 49 (.t 48) 3),.grd 47 true (.load 50 none (.t 49)),.grd 47 true (.bin 51 .gtr (.t 50) (.c (.int .i64 0))),.pick 52 (.t 47) (.t 51) (.c (.bool false))] 53 51 [(.t 52),(.c (.int .i64 12))]) (.seq (.Dk [.aP 54 (.t 4) 3,.load 55 none (.t 54),.aP 56 (.t 5) 3,.load 57 none (.t 56),.call 58 37 [(.t 55),(.t 57)]] 59 51 [(.t 58),(.c (.int .i64 22))]) (.seq (.ops [.aP 60 (.t 8) 0,.aP 61 (.t 60) 6,.store none 1 (.t 61) (.c (.bool true))]) (.seq (.ops [.aP 62 (.t 8) 0,.load 63 (some 8) (.t 62),.store none 8 (.t 6) (.t 63),.store none 1 (.t 7) (.c (.int .i64 0))]) .ret)))))))),
148,7,47,(some (11,62,[(6,[(.int .i64 0),(.int .i64 0),(.int .i64 0),(.int .i64 0),(.int .i64 0),(.int .i64 0),(.bool false),(.bool false)])]))⟩
def OI:ay:=(.seq (.ops [.bin 31 .lss (.t 30) (.t 29)]) (.seq (.cond (.t 31) .skip (.exit 2)) (.seq (.block 3 (.seq (.ops [.dA 32 2 (.t 28) (.t 30),.load 33 (some 2) (.t 32),.alloc 12 [(.int .i64 0),(.int .i64 0)],.store none 2 (.t 12) (.t 33)]) (.ops [.ak 34 (.t 8),.aP 35 (.t 12) 1,.load 36 none (.t 35),.bin 37 .add (.t 34) (.t 36),.aN 8 (.t 37)]))) (.ops [.bin 38 .add (.t 30) (.c (.int .i64 1)),.ak 30 (.t 38)]))))
def OJ:ay :=
(.clean [6,8,10,17,22,23,24,27,28,29,30] [4,5,6,8,17,22,23,24] (.block 2 (.loop [6,8,10,17,22,23,24,27,28,29,30] OI)))
def OL:ay:=(.seq (.ops [.bin 25 .lss (.t 24) (.t 23)]) (.seq (.cond (.t 25) .skip (.exit 0)) (.seq (.block 1 (.seq (.ops [.dA 26 1 (.t 22) (.t 24),.load 27 none (.t 26),.aN 10 (.t 27)]) (.seq (.ops [.ak 28 (.t 10),.len 29 (.t 28),.ak 30 (.c (.int .i64 0))])
    OJ))) (.ops [.bin 39 .add (.t 24) (.c (.int .i64 1)),.ak 24 (.t 39)]))))
def OM:ay :=
(.clean [6,8,17,22,23,24] [4,5,8] (.block 0 (.loop [6,8,17,22,23,24] OL)))
def aaY:iq:=⟨2,41,[.tmp 4,.tmp 5],(.seq (.ops [.aN 4 (.c (.int .i64 0)),.aN 5 (.c (.int .i64 0))]) (.seq (.ops [.ak 14 (.t 0),.ak 15 (.t 1),.call 16 30 [(.t 14),(.t 15)],.ak 13 (.t 16),.ext 17 (.t 13) 0,.ext 18 (.t 13) 1,.aN 6 (.t 17),.aN 7 (.t 18)]) (.seq (.seq (.ops [.ak 19 (.t 7),.bin 20 .neq (.t 19) (.c (.int .i64 0))]) (.cond (.t 20) (.seq (.ops [.ak 21 (.t 7),.aN 4 (.c (.int .i64 0)),.aN 5 (.t 21)]) .ret) .skip)) (.seq (.ops [.aN 8 (.c (.int .i64 0))]) (.seq (.seq (.ops [.ak 22 (.t 6),.len 23 (.t 22),.ak 24 (.c (.int .i64 0))])
    OM) (.seq (.ops [.ak 40 (.t 8),.aN 4 (.t 40),.aN 5 (.c (.int .i64 0))]) .ret))))))⟩
def OO:ay:=(.seq (.ops [.bin 9 .lss (.t 8) (.t 7)]) (.seq (.cond (.t 9) .skip (.exit 0)) (.seq (.block 1 (.seq (.ops [.dA 10 5 (.t 6) (.t 8),.load 11 (some 5) (.t 10),.alloc 5 [(.int .i64 0),(.int .i64 0),(.int .i64 0),(.list 1 []),(.list 3 [])],.store none 5 (.t 5) (.t 11)]) (.ops [.ak 12 (.t 3),.aP 13 (.t 5) 4,.load 14 none (.t 13),.call 15 66 [(.t 14)],.bin 16 .add (.t 12) (.t 15),.aN 3 (.t 16)]))) (.ops [.bin 17 .add (.t 8) (.c (.int .i64 1)),.ak 8 (.t 17)]))))
def OQ:ay :=
(.clean [0,3,6,7,8] [2,3] (.block 0 (.loop [0,3,6,7,8] OO)))
def ad4:iq:=⟨1,19,[.tmp 2],(.seq (.ops [.aN 2 (.c (.int .i64 0))]) (.seq (.ops [.aN 3 (.c (.int .i64 0))]) (.seq (.seq (.ops [.ak 6 (.t 0),.len 7 (.t 6),.ak 8 (.c (.int .i64 0))])
   OQ) (.seq (.ops [.ak 18 (.t 3),.aN 2 (.t 18)]) .ret))))⟩
def BM:ay:=(.seq (.ops [.bin 30 .lss (.t 29) (.t 28)]) (.seq (.cond (.t 30) .skip (.exit 0)) (.seq (.block 1 (.seq (.ops [.dA 31 1 (.t 27) (.t 29),.load 32 none (.t 31),.aN 5 (.t 32)]) (.seq (.ops [.aP 34 (.t 1) 0,.load 35 none (.t 34),.ak 36 (.t 5),.call 37 38 [(.t 35),(.t 36)],.ak 33 (.t 37),.ext 38 (.t 33) 0,.ext 39 (.t 33) 1,.ext 40 (.t 33) 2,.aN 6 (.t 38),.aN 7 (.t 39),.aN 8 (.t 40)]) (.seq (.ops [.ak 41 (.t 8),.bin 42 .neq (.t 41) (.c (.int .i64 0)),.ak 43 (.t 42),.grd 43 false (.ak 44 (.t 5)),.grd 43 false (.call 45 65 [(.t 44)]),.grd 43 false (.un 46 .not (.t 45)),.pick 47 (.t 43) (.c (.bool true)) (.t 46)]) (.cond (.t 47) (.seq (.ops [.aN 2 (.c (.bool false))]) .ret) .skip))))) (.ops [.bin 48 .add (.t 29) (.c (.int .i64 1)),.ak 29 (.t 48)]))))
def OT:ay :=
(.clean [1,3,16,27,28,29] [2] (.block 0 (.loop [1,3,16,27,28,29] BM)))
def XD:iq:=⟨1,49,[.tmp 2],(.seq (.ops [.box 1 (.t 0),.aN 2 (.c (.bool false))]) (.seq (.ops [.aP 9 (.t 1) 1,.load 10 none (.t 9),.aP 11 (.t 1) 2,.load 12 none (.t 11),.iH 13 1 [(.t 10),(.t 12)],.aP 14 (.t 1) 3,.load 15 none (.t 14),.apb 16 (.t 13) (.t 15),.aN 3 (.t 16)]) (.seq (.seq (.ops [.aP 17 (.t 1) 0,.load 18 none (.t 17),.call 19 42 [(.t 18)],.un 20 .not (.t 19),.ak 21 (.t 20),.grd 21 false (.aP 22 (.t 1) 3),.grd 21 false (.load 23 none (.t 22)),.grd 21 false (.len 24 (.t 23)),.grd 21 false (.bin 25 .gtr (.t 24) (.c (.int .i64 8))),.pick 26 (.t 21) (.c (.bool true)) (.t 25)]) (.cond (.t 26) (.seq (.ops [.aN 2 (.c (.bool false))]) .ret) .skip)) (.seq (.seq (.ops [.ak 27 (.t 3),.len 28 (.t 27),.ak 29 (.c (.int .i64 0))])
   OT) (.seq (.ops [.aN 2 (.c (.bool true))]) .ret)))))⟩
def FI:oJ:=⟨3,80,[.cell 6 (some 8),.cell 7 none,.cell 8 none],(.ops [.box 3 (.t 0),.box 4 (.t 1),.alloc 6 [(.int .i64 0),(.int .i64 0),(.int .i64 0),(.int .i64 0),(.int .i64 0),(.int .i64 0),(.bool false),(.bool false)],.alloc 7 [(.list 1 [])],.alloc 8 [(.int .i64 0)]]),(.seq (.ops [.load 18 (some 4) (.t 3),.load 19 (some 4) (.t 4),.call 20 69 [(.t 18),(.t 19)],.ak 17 (.t 20),.ext 21 (.t 17) 0,.ext 22 (.t 17) 1,.store none 1 (.t 7) (.t 21),.aN 9 (.t 22)]) (.seq (.Dk [.ak 23 (.t 9)] 24 49 [(.t 23)]) (.seq (.Dk [.aP 25 (.t 3) 0,.load 26 none (.t 25),.call 27 70 [(.t 26)],.ak 28 (.t 27),.grd 28 true (.aP 29 (.t 4) 0),.grd 28 true (.load 30 none (.t 29)),.grd 28 true (.call 31 70 [(.t 30)]),.pick 32 (.t 28) (.t 31) (.c (.bool false))] 33 51 [(.t 32),(.c (.int .i64 2))]) (.seq (.Dk [.aP 34 (.t 3) 0,.load 35 none (.t 34),.aP 36 (.t 4) 0,.load 37 none (.t 36),.bin 38 .neq (.t 35) (.t 37)] 39 51 [(.t 38),(.c (.int .i64 1))]) (.seq (.ops [.aP 41 (.t 3) 1,.load 42 none (.t 41),.call 43 52 [(.t 42)],.ak 40 (.t 43),.ext 44 (.t 40) 0,.ext 45 (.t 40) 1,.aN 10 (.t 44),.aN 11 (.t 45)]) (.seq (.ops [.aP 47 (.t 4) 1,.load 48 none (.t 47),.call 49 52 [(.t 48)],.ak 46 (.t 49),.ext 50 (.t 46) 0,.ext 51 (.t 46) 1,.aN 12 (.t 50),.aN 13 (.t 51)]) (.seq (.Dk [.ak 52 (.t 2),.ak 53 (.t 10),.bin 54 .gtr (.t 52) (.t 53),.ak 55 (.t 54),.grd 55 true (.ak 56 (.t 2)),.grd 55 true (.ak 57 (.t 12)),.grd 55 true (.bin 58 .gtr (.t 56) (.t 57)),.pick 59 (.t 55) (.t 58) (.c (.bool false))] 60 51 [(.t 59),(.c (.int .i64 13))]) (.seq (.Dk [.ak 61 (.t 2),.bin 62 .leq (.t 61) (.c (.int .i64 1073741824))] 63 51 [(.t 62),(.c (.int .i64 2))]) (.seq (.ops [.aP 65 (.t 3) 1,.load 66 none (.t 65),.aP 67 (.t 4) 1,.load 68 none (.t 67),.call 69 71 [(.t 66),(.t 68)],.ak 64 (.t 69),.ext 70 (.t 64) 0,.ext 71 (.t 64) 1,.aN 14 (.t 70),.aN 15 (.t 71)]) (.seq (.drs [] [6,7,8] [.aP 72 (.t 4) 0,.load 73 none (.t 72),.aP 74 (.t 3) 0,.load 75 none (.t 74),.ak 76 (.t 2),.ak 77 (.t 14),.build 78 [(.int .i64 0),(.int .i64 0),(.int .i64 0),(.int .i64 0),(.int .i64 0),(.int .i64 0),(.bool false),(.bool false)] [(0,1,(.c (.int .i64 3))),(1,1,(.t 73)),(2,1,(.t 75)),(4,1,(.t 76)),(5,1,(.t 77))],.load 79 none (.t 7),.store none 8 (.t 6) (.t 78),.store none 1 (.t 7) (.t 79),.store none 1 (.t 8) (.c (.int .i64 0))] [⟨[],(some ([0,1,2,3,4,5,6],[],8,[([7],9),([],10)])),[],[0,1,2,3,4,5,6,8,7,9,10],false⟩,⟨[([0,1,2,3,4,5,6],7)],(some ([],[],8,[([],9),([],10)])),[],[0,1,2,3,4,5,6,7,8,9,10],false⟩]) .ret)))))))))),
148,8,47,(some (16,68,[(6,[(.int .i64 0),(.int .i64 0),(.int .i64 0),(.int .i64 0),(.int .i64 0),(.int .i64 0),(.bool false),(.bool false)]),(7,[(.list 1 [])])]))⟩
def aiB:ay:=(.seq (.seq (.ops [.ak 11 (.t 5),.ak 12 (.t 0),.len 13 (.t 12),.bin 14 .lss (.t 11) (.t 13)]) (.cond (.t 14) .skip (.exit 0))) (.seq (.block 1 (.seq (.AQ [] [([0,1,2,3,4,5,6,7],8)] none [9] [.ak 17 (.t 0),.ak 18 (.t 5),.dA 19 1 (.t 17) (.t 18),.load 20 none (.t 19),.ak 21 (.t 1),.ak 22 (.t 5),.dA 23 1 (.t 21) (.t 22),.load 24 none (.t 23),.call 25 75 [(.t 20),(.t 24)],.un 26 .not (.t 25)]) (.cond (.t 26) (.seq (.ops [.aN 4 (.c (.bool false))]) .ret) .skip))) (.ops [.ak 15 (.t 5),.bin 16 .add (.t 15) (.c (.int .i64 1)),.aN 5 (.t 16)])))
def aiC:ay :=
(.clean [0,1,5] [4] (.block 0 (.loop [0,1,5] aiB)))
def alo:iq:=⟨2,27,[.tmp 4],(.seq (.ops [.aN 4 (.c (.bool false))]) (.seq (.seq (.ops [.ak 6 (.t 0),.len 7 (.t 6),.ak 8 (.t 1),.len 9 (.t 8),.bin 10 .neq (.t 7) (.t 9)]) (.cond (.t 10) (.seq (.ops [.aN 4 (.c (.bool false))]) .ret) .skip)) (.seq (.seq (.ops [.aN 5 (.c (.int .i64 0))])
   aiC) (.seq (.ops [.aN 4 (.c (.bool true))]) .ret))))⟩
def OU:ay:=(.seq (.ops [.bin 18 .lss (.t 17) (.t 16)]) (.seq (.cond (.t 18) .skip (.exit 0)) (.seq (.block 1 (.seq (.ops [.ak 19 (.t 17),.aN 8 (.t 19)]) (.AQ [] [([0,1,2,3,4,5,6,7,8],9),([],10)] (some ([],[],11,[])) [12] [.ak 20 (.t 7),.ak 21 (.t 0),.ak 22 (.t 8),.dA 23 1 (.t 21) (.t 22),.load 24 none (.t 23),.ak 25 (.t 1),.ak 26 (.t 8),.dA 27 1 (.t 25) (.t 26),.load 28 none (.t 27),.call 29 77 [(.t 24),(.t 28)],.iH 30 1 [(.t 29)],.app 31 1 (.t 20) (.t 30),.aN 7 (.t 31)]))) (.ops [.bin 32 .add (.t 17) (.c (.int .i64 1)),.ak 17 (.t 32)]))))
def OV:ay :=
(.clean [0,1,7,16,17,31] [4,5,7] (.block 0 (.loop [0,1,7,16,17,31] OU)))
def aaZ:iq:=⟨2,34,[.tmp 4,.tmp 5],(.seq (.ops [.aN 4 (.nil 1),.aN 5 (.c (.int .i64 0))]) (.seq (.seq (.ops [.ak 9 (.t 0),.ak 10 (.t 1),.call 11 76 [(.t 9),(.t 10)],.aN 6 (.t 11)]) (.seq (.ops [.ak 12 (.t 6),.bin 13 .neq (.t 12) (.c (.int .i64 0))]) (.cond (.t 13) (.seq (.ops [.ak 14 (.t 6),.aN 4 (.nil 1),.aN 5 (.t 14)]) .ret) .skip))) (.seq (.ops [.aN 7 (.nil 1)]) (.seq (.seq (.ops [.ak 15 (.t 0),.len 16 (.t 15),.ak 17 (.c (.int .i64 0))])
   OV) (.seq (.ops [.ak 33 (.t 7),.aN 4 (.t 33),.aN 5 (.c (.int .i64 0))]) .ret)))))⟩
def ad5:iq:=⟨2,9,[.tmp 4],(.seq (.ops [.aN 4 (.nil 2)]) (.seq (.ops [.ak 5 (.t 0),.ak 6 (.t 1),.call 7 79 [(.t 5),(.t 6),(.c (.func 81 []))],.call 8 78 [(.t 7)],.aN 4 (.t 8)]) .ret))⟩
def OW:ay:=(.seq (.ops [.bin 9 .lss (.t 8) (.t 7)]) (.seq (.cond (.t 9) .skip (.exit 0)) (.seq (.block 1 (.seq (.ops [.dA 10 1 (.t 6) (.t 8),.load 11 none (.t 10),.aN 5 (.t 11)]) (.ops [.ak 12 (.t 3),.ak 13 (.t 5),.call 14 82 [(.t 13)],.bin 15 .add (.t 12) (.t 14),.aN 3 (.t 15)]))) (.ops [.bin 16 .add (.t 8) (.c (.int .i64 1)),.ak 8 (.t 16)]))))
def OX:ay :=
(.clean [0,3,6,7,8] [2,3] (.block 0 (.loop [0,3,6,7,8] OW)))
def ad6:iq:=⟨1,18,[.tmp 2],(.seq (.ops [.aN 2 (.c (.int .i64 0))]) (.seq (.ops [.aN 3 (.c (.int .i64 0))]) (.seq (.seq (.ops [.ak 6 (.t 0),.len 7 (.t 6),.ak 8 (.c (.int .i64 0))])
   OX) (.seq (.ops [.ak 17 (.t 3),.aN 2 (.t 17)]) .ret))))⟩
def Gj:ay:=(.seq (.ops [.bin 22 .lss (.t 21) (.t 20)]) (.seq (.cond (.t 22) .skip (.exit 0)) (.seq (.block 1 (.seq (.ops [.dA 23 2 (.t 19) (.t 21),.load 24 (some 2) (.t 23),.alloc 9 [(.int .i64 0),(.int .i64 0)],.store none 2 (.t 9) (.t 24)]) (.seq (.ops [.load 26 (some 2) (.t 6),.load 27 (some 2) (.t 9),.call 28 84 [(.t 26),(.t 27)],.ak 25 (.t 28),.ext 29 (.t 25) 0,.ext 30 (.t 25) 1,.store none 2 (.t 6) (.t 29),.aN 7 (.t 30)]) (.seq (.ops [.ak 31 (.t 7),.bin 32 .neq (.t 31) (.c (.int .i64 0))]) (.cond (.t 32) (.seq (.ops [.build 33 [(.int .i64 0),(.list 1 [])] [],.ak 34 (.t 7),.store none 2 (.t 4) (.t 33),.aN 5 (.t 34)]) .ret) .skip))))) (.ops [.bin 35 .add (.t 21) (.c (.int .i64 1)),.ak 21 (.t 35)]))))
def OY:ay :=
(.clean [1,4,6,19,20,21] [4,5,6] (.block 0 (.loop [1,4,6,19,20,21] Gj)))
def XE:iq:=⟨2,37,[.cell 4 (some 2),.tmp 5],(.seq (.ops [.alloc 4 [(.int .i64 0),(.list 1 [])],.aN 5 (.c (.int .i64 0))]) (.seq (.ops [.ak 11 (.t 0),.call 12 83 [(.t 11)],.ak 10 (.t 12),.ext 13 (.t 10) 0,.ext 14 (.t 10) 1,.alloc 6 [(.int .i64 0),(.list 1 [])],.store none 2 (.t 6) (.t 13),.aN 7 (.t 14)]) (.seq (.seq (.ops [.ak 15 (.t 7),.bin 16 .neq (.t 15) (.c (.int .i64 0))]) (.cond (.t 16) (.seq (.ops [.build 17 [(.int .i64 0),(.list 1 [])] [],.ak 18 (.t 7),.store none 2 (.t 4) (.t 17),.aN 5 (.t 18)]) .ret) .skip)) (.seq (.seq (.ops [.ak 19 (.t 1),.len 20 (.t 19),.ak 21 (.c (.int .i64 0))])
   OY) (.seq (.ops [.load 36 (some 2) (.t 6),.store none 2 (.t 4) (.t 36),.aN 5 (.c (.int .i64 0))]) .ret)))))⟩
def OZ:ay:=(.seq (.ops [.bin 22 .lss (.t 21) (.t 20)]) (.seq (.cond (.t 22) .skip (.exit 0)) (.seq (.block 1 (.seq (.ops [.dA 23 1 (.t 19) (.t 21),.load 24 none (.t 23),.aN 9 (.t 24)]) (.ops [.ak 25 (.t 7),.ak 26 (.t 9),.len 27 (.t 26),.iH 28 1 [(.t 27)],.app 29 1 (.t 25) (.t 28),.aN 7 (.t 29)]))) (.ops [.bin 30 .add (.t 21) (.c (.int .i64 1)),.ak 21 (.t 30)]))))
def O1:ay :=
(.clean [0,3,7,19,20,21,29] [0,3,4,5,7] (.block 0 (.loop [0,3,7,19,20,21,29] OZ)))
def ad7:iq:=⟨2,47,[.tmp 4,.tmp 5],(.seq (.ops [.box 3 (.t 1),.aN 4 (.nil 1),.aN 5 (.c (.int .i64 0))]) (.seq (.seq (.ops [.ak 14 (.t 0),.call 15 85 [(.t 14)],.aN 6 (.t 15)]) (.seq (.ops [.ak 16 (.t 6),.bin 17 .neq (.t 16) (.c (.int .i64 0))]) (.cond (.t 17) (.seq (.ops [.ak 18 (.t 6),.aN 4 (.nil 1),.aN 5 (.t 18)]) .ret) .skip))) (.seq (.ops [.aN 7 (.nil 1)]) (.seq (.seq (.ops [.ak 19 (.t 0),.len 20 (.t 19),.ak 21 (.c (.int .i64 0))])
   O1) (.seq (.seq (.ops [.load 31 (some 5) (.t 3),.ak 32 (.t 7),.call 33 54 [(.t 31),(.t 32)],.aN 10 (.t 33)]) (.seq (.ops [.ak 34 (.t 10),.bin 35 .neq (.t 34) (.c (.int .i64 0))]) (.cond (.t 35) (.seq (.ops [.ak 36 (.t 10),.aN 4 (.nil 1),.aN 5 (.t 36)]) .ret) .skip))) (.seq (.ops [.ak 38 (.t 0),.aP 39 (.t 3) 4,.load 40 none (.t 39),.call 41 38 [(.t 38),(.t 40)],.ak 37 (.t 41),.ext 42 (.t 37) 0,.ext 43 (.t 37) 1,.ext 44 (.t 37) 2,.aN 11 (.t 42),.aN 12 (.t 43),.aN 13 (.t 44)]) (.seq (.ops [.ak 45 (.t 11),.ak 46 (.t 13),.aN 4 (.t 45),.aN 5 (.t 46)]) .ret)))))))⟩
def ad8:iq:=⟨2,8,[.tmp 4],(.seq (.ops [.aN 4 (.c (.bool false))]) (.seq (.ops [.ak 5 (.t 0),.ak 6 (.t 1),.call 7 86 [(.t 5),(.t 6),(.c (.func 87 []))],.aN 4 (.t 7)]) .ret))⟩
def Gl:ay:=(.seq (.ops [.bin 24 .lss (.t 23) (.t 22)]) (.seq (.cond (.t 24) .skip (.exit 2)) (.seq (.block 3 (.seq (.ops [.dA 25 3 (.t 21) (.t 23),.load 26 (some 3) (.t 25),.alloc 11 [(.int .i64 0),(.int .i64 0),(.list 0 [])],.store none 3 (.t 11) (.t 26)]) (.seq (.ops [.aP 27 (.t 11) 0,.load 28 none (.t 27),.ak 29 (.t 7),.bin 30 .eql (.t 28) (.t 29)]) (.cond (.t 30) (.ops [.ak 31 (.t 9),.aP 32 (.t 11) 1,.load 33 none (.t 32),.aP 34 (.t 11) 2,.load 35 none (.t 34),.len 36 (.t 35),.build 37 [(.int .i64 0),(.int .i64 0)] [(0,1,(.t 33)),(1,1,(.t 36))],.iH 38 2 [(.t 37)],.app 39 2 (.t 31) (.t 38),.aN 9 (.t 39)]) .skip)))) (.ops [.bin 40 .add (.t 23) (.c (.int .i64 1)),.ak 23 (.t 40)]))))
def O4:ay :=
(.clean [0,1,6,7,8,9,14,15,16,21,22,23,39,53] [0,1,4,5,6,8,9,14,15,16,39,53] (.block 2 (.loop [0,1,6,7,8,9,14,15,16,21,22,23,39,53] Gl)))
def O5:ay:=(.seq (.ops [.bin 17 .lss (.t 16) (.t 15)]) (.seq (.cond (.t 17) .skip (.exit 0)) (.seq (.block 1 (.seq (.ops [.ak 18 (.t 16),.dA 19 1 (.t 14) (.t 16),.load 20 none (.t 19),.aN 7 (.t 18),.aN 8 (.t 20)]) (.seq (.ops [.aN 9 (.nil 2)]) (.seq (.seq (.ops [.ak 21 (.t 1),.len 22 (.t 21),.ak 23 (.c (.int .i64 0))])
     O4) (.seq (.ops [.ak 42 (.t 8),.ak 43 (.t 9),.call 44 33 [(.t 43),(.nil 2)],.call 45 35 [(.t 42),(.t 44)],.ak 41 (.t 45),.ext 46 (.t 41) 0,.ext 47 (.t 41) 1,.alloc 12 [(.int .i64 0),(.list 1 [])],.store none 2 (.t 12) (.t 46),.aN 13 (.t 47)]) (.seq (.seq (.ops [.ak 48 (.t 13),.bin 49 .neq (.t 48) (.c (.int .i64 0))]) (.cond (.t 49) (.seq (.ops [.aN 4 (.nil 2),.aN 5 (.c (.bool false))]) .ret) .skip)) (.ops [.ak 50 (.t 6),.load 51 (some 2) (.t 12),.iH 52 2 [(.t 51)],.app 53 2 (.t 50) (.t 52),.aN 6 (.t 53)]))))))) (.ops [.bin 54 .add (.t 16) (.c (.int .i64 1)),.ak 16 (.t 54)]))))
def O6:ay :=
(.clean [0,1,6,14,15,16,39,53] [4,5,6] (.block 0 (.loop [0,1,6,14,15,16,39,53] O5)))
def ad9:iq:=⟨2,56,[.tmp 4,.tmp 5],(.seq (.ops [.aN 4 (.nil 2),.aN 5 (.c (.bool false))]) (.seq (.ops [.aN 6 (.nil 2)]) (.seq (.seq (.ops [.ak 14 (.t 0),.len 15 (.t 14),.ak 16 (.c (.int .i64 0))])
   O6) (.seq (.ops [.ak 55 (.t 6),.aN 4 (.t 55),.aN 5 (.c (.bool true))]) .ret))))⟩
def O7:ay:=(.seq (.ops [.bin 10 .lss (.t 9) (.t 8)]) (.seq (.cond (.t 10) .skip (.exit 0)) (.seq (.block 1 (.seq (.ops [.dA 11 1 (.t 7) (.t 9),.load 12 none (.t 11),.aN 5 (.t 12)]) (.ops [.ak 13 (.t 3),.ak 14 (.t 5),.len 15 (.t 14),.iH 16 1 [(.t 15)],.app 17 1 (.t 13) (.t 16),.aN 3 (.t 17)]))) (.ops [.bin 18 .add (.t 9) (.c (.int .i64 1)),.ak 9 (.t 18)]))))
def O8:ay :=
(.clean [3,7,8,9,17] [2,3] (.block 0 (.loop [3,7,8,9,17] O7)))
def aea:iq:=⟨1,20,[.tmp 2],(.seq (.ops [.box 1 (.t 0),.aN 2 (.nil 1)]) (.seq (.ops [.aN 3 (.nil 1)]) (.seq (.seq (.ops [.aP 6 (.t 1) 0,.load 7 none (.t 6),.len 8 (.t 7),.ak 9 (.c (.int .i64 0))])
   O8) (.seq (.ops [.ak 19 (.t 3),.aN 2 (.t 19)]) .ret))))⟩
def O9:ay:=(.seq (.ops [.bin 13 .lss (.t 12) (.t 11)]) (.seq (.cond (.t 13) .skip (.exit 0)) (.seq (.block 1 (.seq (.ops [.dA 14 1 (.t 10) (.t 12),.load 15 none (.t 14),.aN 5 (.t 15)]) (.ops [.ak 16 (.t 3),.ak 17 (.t 5),.call 18 91 [(.t 17)],.bin 19 .add (.t 16) (.t 18),.aN 3 (.t 19)]))) (.ops [.bin 20 .add (.t 12) (.c (.int .i64 1)),.ak 12 (.t 20)]))))
def Pg:ay :=
(.clean [3,10,11,12] [2,3] (.block 0 (.loop [3,10,11,12] O9)))
def aeb:iq:=⟨1,22,[.tmp 2],(.seq (.ops [.box 1 (.t 0),.aN 2 (.c (.int .i64 0))]) (.seq (.seq (.ops [.load 6 (some 2) (.t 1),.call 7 90 [(.t 6)],.bin 8 .neq (.t 7) (.c (.int .i64 0))]) (.cond (.t 8) (.seq (.ops [.aN 2 (.c (.int .i64 0))]) .ret) .skip)) (.seq (.ops [.aN 3 (.c (.int .i64 0))]) (.seq (.seq (.ops [.aP 9 (.t 1) 1,.load 10 none (.t 9),.len 11 (.t 10),.ak 12 (.c (.int .i64 0))])
   Pg) (.seq (.ops [.ak 21 (.t 3),.aN 2 (.t 21)]) .ret)))))⟩
def Ph:ay:=(.seq (.seq (.ops [.ak 7 (.t 3),.ak 8 (.t 0),.len 9 (.t 8),.bin 10 .lss (.t 7) (.t 9)]) (.cond (.t 10) .skip (.exit 0))) (.seq (.block 1 (.seq (.ops [.ak 13 (.t 0),.ak 14 (.t 3),.dA 15 1 (.t 13) (.t 14),.load 16 none (.t 15),.len 17 (.t 16),.bin 18 .gtr (.t 17) (.c (.int .i64 24))]) (.cond (.t 18) (.seq (.ops [.aN 2 (.c (.bool false))]) .ret) .skip))) (.ops [.ak 11 (.t 3),.bin 12 .add (.t 11) (.c (.int .i64 1)),.aN 3 (.t 12)])))
def Pj:ay :=
(.clean [0,3] [2] (.block 0 (.loop [0,3] Ph)))
def aec:iq:=⟨1,19,[.tmp 2],(.seq (.ops [.aN 2 (.c (.bool false))]) (.seq (.seq (.ops [.ak 4 (.t 0),.len 5 (.t 4),.bin 6 .gtr (.t 5) (.c (.int .i64 9))]) (.cond (.t 6) (.seq (.ops [.aN 2 (.c (.bool false))]) .ret) .skip)) (.seq (.seq (.ops [.aN 3 (.c (.int .i64 0))])
   Pj) (.seq (.ops [.aN 2 (.c (.bool true))]) .ret))))⟩
def alp:iq:=⟨2,10,[.cell 4 (some 3)],(.seq (.ops [.alloc 4 [(.int .i64 0),(.int .i64 0),(.list 0 [])]]) (.seq (.ops [.ak 5 (.t 0),.ak 6 (.t 1),.build 7 [(.int .u8 0),(.int .u8 0),(.int .u8 0),(.int .u8 0),(.int .u8 0),(.int .u8 0),(.int .u8 0),(.int .u8 0)] [(0,1,(.t 6))],.iH 8 8 [(.t 7)],.build 9 [(.int .i64 0),(.int .i64 0),(.list 0 [])] [(1,1,(.t 5)),(2,1,(.t 8))],.store none 3 (.t 4) (.t 9)]) .ret))⟩
def aed:iq:=⟨2,10,[.cell 4 (some 4)],(.seq (.ops [.alloc 4 [(.int .i64 0),(.list 0 []),(.list 0 []),(.list 0 [])]]) (.seq (.ops [.build 5 [(.int .i64 0),(.int .i64 0),(.int .i64 0)] [(0,1,(.c (.int .i64 1))),(1,1,(.c (.int .i64 1))),(2,1,(.c (.int .i64 7)))],.iH 6 3 [(.t 5)],.ak 7 (.t 1),.ak 8 (.t 0),.build 9 [(.int .i64 0),(.list 0 []),(.list 0 []),(.list 0 [])] [(0,1,(.c (.int .i64 0))),(1,1,(.t 6)),(2,1,(.t 7)),(3,1,(.t 8))],.store none 4 (.t 4) (.t 9)]) .ret))⟩
def alq:iq:=⟨2,11,[.cell 4 (some 4)],(.seq (.ops [.alloc 4 [(.int .i64 0),(.list 0 []),(.list 0 []),(.list 0 [])]]) (.seq (.ops [.build 5 [(.int .i64 0),(.int .i64 0),(.int .i64 0)] [(0,1,(.c (.int .i64 1))),(1,1,(.c (.int .i64 1))),(2,1,(.c (.int .i64 5)))],.build 6 [(.int .i64 0),(.int .i64 0),(.int .i64 0)] [(0,1,(.c (.int .i64 2))),(1,1,(.c (.int .i64 6))),(2,1,(.c (.int .i64 9)))],.iH 7 3 [(.t 5),(.t 6)],.ak 8 (.t 1),.ak 9 (.t 0),.build 10 [(.int .i64 0),(.list 0 []),(.list 0 []),(.list 0 [])] [(0,1,(.c (.int .i64 1))),(1,1,(.t 7)),(2,1,(.t 8)),(3,1,(.t 9))],.store none 4 (.t 4) (.t 10)]) .ret))⟩
def alr:iq:=⟨3,7,[],(.seq (.ops [.load 3 none (.t 0),.bin 4 .neq (.t 3) (.c (.int .i64 0))]) (.cond (.t 4) (.ops [.build 5 [(.int .i64 0),(.int .i64 0),(.int .i64 0),(.int .i64 0),(.int .i64 0),(.int .i64 0),(.bool false),(.bool false)] [],.build 6 [(.int .i64 0),(.int .i64 0),(.int .i64 0),(.list 1 []),(.list 3 [])] [],.store none 8 (.t 1) (.t 5),.store none 5 (.t 2) (.t 6)]) .skip))⟩
def vw:iq:=⟨1,79,[],(.seq (.ops [.box 1 (.t 0)]) (.seq (.Dk [.aP 2 (.t 1) 0,.aP 3 (.t 2) 0,.load 4 none (.t 3),.bin 5 .eql (.t 4) (.c (.int .i64 3))] 6 51 [(.t 5),(.c (.int .i64 1))]) (.seq (.Dk [.aP 7 (.t 1) 0,.aP 8 (.t 7) 1,.load 9 none (.t 8),.call 10 70 [(.t 9)],.ak 11 (.t 10),.grd 11 true (.aP 12 (.t 1) 0),.grd 11 true (.aP 13 (.t 12) 2),.grd 11 true (.load 14 none (.t 13)),.grd 11 true (.call 15 70 [(.t 14)]),.pick 16 (.t 11) (.t 15) (.c (.bool false)),.ak 17 (.t 16),.grd 17 true (.aP 18 (.t 1) 0),.grd 17 true (.aP 19 (.t 18) 1),.grd 17 true (.load 20 none (.t 19)),.grd 17 true (.aP 21 (.t 1) 0),.grd 17 true (.aP 22 (.t 21) 2),.grd 17 true (.load 23 none (.t 22)),.grd 17 true (.bin 24 .neq (.t 20) (.t 23)),.pick 25 (.t 17) (.t 24) (.c (.bool false))] 26 51 [(.t 25),(.c (.int .i64 2))]) (.seq (.Dk [.aP 27 (.t 1) 0,.aP 28 (.t 27) 3,.load 29 none (.t 28),.bin 30 .geq (.t 29) (.c (.int .i64 0)),.ak 31 (.t 30),.grd 31 true (.aP 32 (.t 1) 0),.grd 31 true (.aP 33 (.t 32) 3),.grd 31 true (.load 34 none (.t 33)),.grd 31 true (.bin 35 .leq (.t 34) (.c (.int .i64 4096))),.pick 36 (.t 31) (.t 35) (.c (.bool false)),.ak 37 (.t 36),.grd 37 true (.aP 38 (.t 1) 0),.grd 37 true (.aP 39 (.t 38) 4),.grd 37 true (.load 40 none (.t 39)),.grd 37 true (.bin 41 .geq (.t 40) (.c (.int .i64 1))),.pick 42 (.t 37) (.t 41) (.c (.bool false)),.ak 43 (.t 42),.grd 43 true (.aP 44 (.t 1) 0),.grd 43 true (.aP 45 (.t 44) 4),.grd 43 true (.load 46 none (.t 45)),.grd 43 true (.bin 47 .leq (.t 46) (.c (.int .i64 1073741824))),.pick 48 (.t 43) (.t 47) (.c (.bool false)),.ak 49 (.t 48),.grd 49 true (.aP 50 (.t 1) 0),.grd 49 true (.aP 51 (.t 50) 5),.grd 49 true (.load 52 none (.t 51)),.grd 49 true (.bin 53 .geq (.t 52) (.c (.int .i64 0))),.pick 54 (.t 49) (.t 53) (.c (.bool false)),.ak 55 (.t 54),.grd 55 true (.aP 56 (.t 1) 0),.grd 55 true (.aP 57 (.t 56) 5),.grd 55 true (.load 58 none (.t 57)),.grd 55 true (.bin 59 .leq (.t 58) (.c (.int .i64 1073741824))),.pick 60 (.t 55) (.t 59) (.c (.bool false))] 61 51 [(.t 60),(.c (.int .i64 2))]) (.Dk [.aP 62 (.t 1) 0,.aP 63 (.t 62) 7,.load 64 none (.t 63),.un 65 .not (.t 64),.ak 66 (.t 65),.grd 66 true (.aP 67 (.t 1) 0),.grd 66 true (.aP 68 (.t 67) 6),.grd 66 true (.load 69 none (.t 68)),.grd 66 true (.un 70 .not (.t 69)),.grd 66 true (.ak 71 (.t 70)),.grd 71 false (.aP 72 (.t 1) 0),.grd 71 false (.aP 73 (.t 72) 3),.grd 71 false (.load 74 none (.t 73)),.grd 71 false (.bin 75 .geq (.t 74) (.c (.int .i64 1))),.grd 66 true (.pick 76 (.t 71) (.c (.bool true)) (.t 75)),.pick 77 (.t 66) (.t 76) (.c (.bool false))] 78 51 [(.t 77),(.c (.int .i64 12))])))))⟩
def XF:iq:=⟨1,6,[],(.Dk [.ak 2 (.t 0),.bin 3 .eql (.t 2) (.c (.int .i64 0)),.ak 4 (.t 0)] 5 51 [(.t 3),(.t 4)])⟩
def BN:ay:=(.seq (.ops [.bin 34 .lss (.t 33) (.t 32)]) (.seq (.cond (.t 34) .skip (.exit 1)) (.seq (.block 2 (.seq (.ops [.ak 35 (.t 33),.dA 36 2 (.t 31) (.t 33),.load 37 (some 2) (.t 36),.alloc 5 [(.int .i64 0),(.list 1 [])],.aN 4 (.t 35),.store none 2 (.t 5) (.t 37)]) (.seq (.seq (.ops [.load 38 (some 2) (.t 5),.call 39 90 [(.t 38)],.aN 6 (.t 39)]) (.seq (.ops [.ak 40 (.t 6),.bin 41 .neq (.t 40) (.c (.int .i64 0))]) (.cond (.t 41) (.seq (.ops [.ak 42 (.t 6),.aN 2 (.t 42)]) .ret) .skip))) (.seq (.AQ [] [] none [0,1,2,3,4,5,6,7,8] [.aP 43 (.t 5) 0,.load 44 none (.t 43),.aP 45 (.t 1) 3,.load 46 none (.t 45),.ak 47 (.t 4),.dA 48 1 (.t 46) (.t 47),.load 49 none (.t 48),.len 50 (.t 49),.bin 51 .neq (.t 44) (.t 50)]) (.cond (.t 51) (.seq (.ops [.aN 2 (.c (.int .i64 22))]) .ret) .skip))))) (.ops [.bin 52 .add (.t 33) (.c (.int .i64 1)),.ak 33 (.t 52)]))))
def Pm:ay :=
(.clean [1,31,32,33] [2] (.block 1 (.loop [1,31,32,33] BN)))
def Pn:iq:=⟨1,53,[.tmp 2],(.seq (.ops [.box 1 (.t 0),.aN 2 (.c (.int .i64 0))]) (.seq (.block 0 (.seq (.ops [.aP 8 (.t 1) 0,.load 9 none (.t 8),.call 10 92 [(.t 9),(.c (.int .i64 0))],.un 11 .not (.t 10),.aN 7 (.t 11)]) (.cond (.t 7) (.seq (.ops [.aN 2 (.c (.int .i64 2))]) .ret) (.seq (.ops [.aP 13 (.t 1) 1,.load 14 none (.t 13),.call 15 93 [(.t 14)],.un 16 .not (.t 15),.aN 12 (.t 16)]) (.cond (.t 12) (.seq (.ops [.aN 2 (.c (.int .i64 3))]) .ret) .skip))))) (.seq (.seq (.ops [.aP 17 (.t 1) 3,.load 18 none (.t 17),.call 19 85 [(.t 18)],.aN 3 (.t 19)]) (.seq (.ops [.ak 20 (.t 3),.bin 21 .neq (.t 20) (.c (.int .i64 0))]) (.cond (.t 21) (.seq (.ops [.ak 22 (.t 3),.aN 2 (.t 22)]) .ret) .skip))) (.seq (.seq (.ops [.aP 23 (.t 1) 2,.load 24 none (.t 23),.len 25 (.t 24),.aP 26 (.t 1) 3,.load 27 none (.t 26),.len 28 (.t 27),.bin 29 .neq (.t 25) (.t 28)]) (.cond (.t 29) (.seq (.ops [.aN 2 (.c (.int .i64 6))]) .ret) .skip)) (.seq (.seq (.ops [.aP 30 (.t 1) 2,.load 31 none (.t 30),.len 32 (.t 31),.ak 33 (.c (.int .i64 0))])
    Pm) (.seq (.ops [.aN 2 (.c (.int .i64 0))]) .ret))))))⟩
def aa0:iq:=⟨1,18,[.tmp 2,.tmp 3],(.seq (.ops [.aN 2 (.c (.int .i64 0)),.aN 3 (.c (.int .i64 0))]) (.seq (.seq (.ops [.ak 5 (.t 0),.len 6 (.t 5),.bin 7 .eql (.t 6) (.c (.int .i64 0))]) (.cond (.t 7) (.seq (.ops [.aN 2 (.c (.int .i64 0)),.aN 3 (.c (.int .i64 0))]) .ret) .skip)) (.seq (.ops [.ak 8 (.t 0),.ak 9 (.t 0),.len 10 (.t 9),.bin 11 .sub (.t 10) (.c (.int .i64 1)),.dA 12 3 (.t 8) (.t 11),.load 13 (some 3) (.t 12),.alloc 4 [(.int .i64 0),(.int .i64 0),(.int .i64 0)],.store none 3 (.t 4) (.t 13)]) (.seq (.AQ [] [] none [0,1,2,3,4,5] [.aP 14 (.t 4) 0,.load 15 none (.t 14),.aP 16 (.t 4) 2,.load 17 none (.t 16),.aN 2 (.t 15),.aN 3 (.t 17)]) .ret))))⟩
def Po:ay:=(.seq (.ops [.bin 20 .lss (.t 19) (.t 18)]) (.seq (.cond (.t 20) .skip (.exit 2)) (.seq (.block 3 (.seq (.ops [.dA 21 2 (.t 17) (.t 19),.load 22 (some 2) (.t 21),.alloc 7 [(.int .i64 0),(.int .i64 0)],.store none 2 (.t 7) (.t 22)]) (.AQ [] [([0,1,2,3,4,5,6,7,8,9,10,11,12,13,14,15,16],17),([18],19)] (some ([],[],20,[])) [21] [.ak 23 (.t 3),.ak 24 (.t 4),.aP 25 (.t 7) 0,.load 26 none (.t 25),.aP 27 (.t 1) 3,.load 28 none (.t 27),.ak 29 (.t 4),.dA 30 1 (.t 28) (.t 29),.load 31 none (.t 30),.aP 32 (.t 7) 0,.load 33 none (.t 32),.aP 34 (.t 7) 0,.load 35 none (.t 34),.aP 36 (.t 7) 1,.load 37 none (.t 36),.bin 38 .add (.t 35) (.t 37),.Zw 39 8 (.t 31) (some (.t 33)) (some (.t 38)),.call 40 95 [(.t 39)],.build 41 [(.int .i64 0),(.int .i64 0),(.list 0 [])] [(0,1,(.t 24)),(1,1,(.t 26)),(2,1,(.t 40))],.iH 42 3 [(.t 41)],.app 43 3 (.t 23) (.t 42),.aN 3 (.t 43)]))) (.ops [.bin 44 .add (.t 19) (.c (.int .i64 1)),.ak 19 (.t 44)]))))
def Pq:ay :=
(.clean [1,3,4,9,10,11,17,18,19,43] [1,2,3,9,10,11,43] (.block 2 (.loop [1,3,4,9,10,11,17,18,19,43] Po)))
def Pv:ay:=(.seq (.ops [.bin 12 .lss (.t 11) (.t 10)]) (.seq (.cond (.t 12) .skip (.exit 0)) (.seq (.block 1 (.seq (.ops [.ak 13 (.t 11),.dA 14 2 (.t 9) (.t 11),.load 15 (some 2) (.t 14),.alloc 5 [(.int .i64 0),(.list 1 [])],.aN 4 (.t 13),.store none 2 (.t 5) (.t 15)]) (.seq (.ops [.load 16 (some 2) (.t 5),.call 17 94 [(.t 16)],.len 18 (.t 17),.ak 19 (.c (.int .i64 0))])
    Pq))) (.ops [.bin 45 .add (.t 11) (.c (.int .i64 1)),.ak 11 (.t 45)]))))
def Px:ay :=
(.clean [1,3,9,10,11,43] [2,3] (.block 0 (.loop [1,3,9,10,11,43] Pv)))
def aee:iq:=⟨1,47,[.tmp 2],(.seq (.ops [.box 1 (.t 0),.aN 2 (.nil 3)]) (.seq (.ops [.aN 3 (.nil 3)]) (.seq (.seq (.ops [.aP 8 (.t 1) 2,.load 9 none (.t 8),.len 10 (.t 9),.ak 11 (.c (.int .i64 0))])
   Px) (.seq (.ops [.ak 46 (.t 3),.aN 2 (.t 46)]) .ret))))⟩
def TG:iq:=⟨2,47,[.tmp 4],(.seq (.ops [.box 2 (.t 0),.aN 4 (.c (.int .i64 0))]) (.seq (.seq (.ops [.ak 9 (.t 1),.call 10 96 [(.t 9)],.ak 8 (.t 10),.ext 11 (.t 8) 0,.ext 12 (.t 8) 1,.aN 5 (.t 11),.aN 6 (.t 12)]) (.seq (.ops [.ak 13 (.t 6),.bin 14 .neq (.t 13) (.c (.int .i64 0))]) (.cond (.t 14) (.seq (.ops [.ak 15 (.t 6),.aN 4 (.t 15)]) .ret) .skip))) (.seq (.block 0 (.seq (.ops [.aP 17 (.t 2) 0,.load 18 none (.t 17),.bin 19 .lss (.t 18) (.c (.int .i64 0)),.ak 20 (.t 19),.grd 20 false (.aP 21 (.t 2) 1),.grd 20 false (.load 22 none (.t 21)),.grd 20 false (.aP 23 (.t 2) 0),.grd 20 false (.load 24 none (.t 23)),.grd 20 false (.bin 25 .leq (.t 22) (.t 24)),.pick 26 (.t 20) (.c (.bool true)) (.t 25),.ak 27 (.t 26),.grd 27 false (.aP 28 (.t 2) 1),.grd 27 false (.load 29 none (.t 28)),.grd 27 false (.bin 30 .gtr (.t 29) (.c (.int .i64 1073741824))),.pick 31 (.t 27) (.c (.bool true)) (.t 30),.aN 16 (.t 31)]) (.cond (.t 16) (.seq (.ops [.aN 4 (.c (.int .i64 2))]) .ret) (.seq (.ops [.aP 33 (.t 2) 2,.load 34 none (.t 33),.call 35 97 [(.t 34),(.c (.int .i64 0)),(.c (.int .i64 1073741824))],.un 36 .not (.t 35),.aN 32 (.t 36)]) (.cond (.t 32) (.seq (.ops [.aN 4 (.c (.int .i64 24))]) .ret) .skip))))) (.seq (.seq (.ops [.aP 37 (.t 2) 3,.load 38 none (.t 37),.call 39 98 [(.t 38),(.c (.int .i64 0))],.aN 7 (.t 39)]) (.seq (.ops [.ak 40 (.t 7),.bin 41 .neq (.t 40) (.c (.int .i64 0))]) (.cond (.t 41) (.seq (.ops [.ak 42 (.t 7),.aN 4 (.t 42)]) .ret) .skip))) (.seq (.ops [.aP 43 (.t 2) 4,.load 44 none (.t 43),.ak 45 (.t 1),.call 46 99 [(.t 44),(.t 45)],.aN 4 (.t 46)]) .ret)))))⟩
def als:iq:=⟨2,5,[],(.seq (.ops [.load 2 none (.t 0),.bin 3 .neq (.t 2) (.c (.int .i64 0))]) (.cond (.t 3) (.ops [.build 4 [(.int .i64 0),(.int .i64 0),(.int .i64 0),(.int .i64 0),(.int .i64 0),(.int .i64 0),(.bool false),(.bool false)] [],.store none 8 (.t 1) (.t 4)]) .skip))⟩
def BO:ay:=(.seq (.seq (.ops [.ak 4 (.t 3),.ak 5 (.t 0),.len 6 (.t 5),.bin 7 .lss (.t 4) (.t 6),.ak 8 (.t 7),.grd 8 true (.ak 9 (.t 3)),.grd 8 true (.bin 10 .lss (.t 9) (.c (.int .i64 60))),.pick 11 (.t 8) (.t 10) (.c (.bool false))]) (.cond (.t 11) .skip (.exit 0))) (.seq (.block 1 (.seq (.ops [.ak 14 (.t 0),.ak 15 (.t 3),.dA 16 3 (.t 14) (.t 15),.aP 17 (.t 16) 2,.load 18 none (.t 17),.len 19 (.t 18),.bin 20 .gtr (.t 19) (.c (.int .i64 24))]) (.cond (.t 20) (.seq (.ops [.aN 2 (.c (.bool false))]) .ret) .skip))) (.ops [.ak 12 (.t 3),.bin 13 .add (.t 12) (.c (.int .i64 1)),.aN 3 (.t 13)])))
def Py:ay :=
(.clean [0,3] [0,2] (.block 0 (.loop [0,3] BO)))
def aef:iq:=⟨1,24,[.tmp 2],(.seq (.ops [.aN 2 (.c (.bool false))]) (.seq (.seq (.ops [.aN 3 (.c (.int .i64 0))])
  Py) (.seq (.ops [.ak 21 (.t 0),.len 22 (.t 21),.bin 23 .leq (.t 22) (.c (.int .i64 40)),.aN 2 (.t 23)]) .ret)))⟩
def Pz:ay:=(.seq (.ops [.bin 9 .lss (.t 8) (.t 7)]) (.seq (.cond (.t 9) .skip (.exit 0)) (.seq (.block 1 (.seq (.ops [.dA 10 3 (.t 6) (.t 8),.load 11 (some 3) (.t 10),.alloc 5 [(.int .i64 0),(.int .i64 0),(.list 0 [])],.store none 3 (.t 5) (.t 11)]) (.ops [.ak 12 (.t 3),.aP 13 (.t 5) 2,.load 14 none (.t 13),.len 15 (.t 14),.bin 16 .add (.t 12) (.t 15),.aN 3 (.t 16)]))) (.ops [.bin 17 .add (.t 8) (.c (.int .i64 1)),.ak 8 (.t 17)]))))
def PD:ay :=
(.clean [0,3,6,7,8] [2,3] (.block 0 (.loop [0,3,6,7,8] Pz)))
def aeg:iq:=⟨1,19,[.tmp 2],(.seq (.ops [.aN 2 (.c (.int .i64 0))]) (.seq (.ops [.aN 3 (.c (.int .i64 0))]) (.seq (.seq (.ops [.ak 6 (.t 0),.len 7 (.t 6),.ak 8 (.c (.int .i64 0))])
   PD) (.seq (.ops [.ak 18 (.t 3),.aN 2 (.t 18)]) .ret))))⟩
def alu:iq:=⟨3,6,[],(.seq (.ops [.load 3 none (.t 0),.bin 4 .neq (.t 3) (.c (.int .i64 0))]) (.cond (.t 4) (.ops [.build 5 [(.int .i64 0),(.int .i64 0),(.int .i64 0),(.int .i64 0),(.int .i64 0),(.int .i64 0),(.bool false),(.bool false)] [],.store none 8 (.t 1) (.t 5),.store none 1 (.t 2) (.nil 1)]) .skip))⟩
def Gm:ay:=(.seq (.ops [.bin 14 .lss (.t 13) (.t 12)]) (.seq (.cond (.t 14) .skip (.exit 0)) (.seq (.block 1 (.seq (.ops [.dA 15 4 (.t 11) (.t 13),.load 16 (some 4) (.t 15),.alloc 7 [(.int .i64 0),(.list 0 []),(.list 0 []),(.list 0 [])],.store none 4 (.t 7) (.t 16)]) (.seq (.ops [.load 17 (some 4) (.t 7),.call 18 50 [(.t 17)],.aN 8 (.t 18)]) (.seq (.ops [.ak 19 (.t 8),.bin 20 .neq (.t 19) (.c (.int .i64 0))]) (.cond (.t 20) (.seq (.ops [.ak 21 (.t 8),.aN 4 (.nil 1),.aN 5 (.t 21)]) .ret) .skip))))) (.ops [.bin 22 .add (.t 13) (.c (.int .i64 1)),.ak 13 (.t 22)]))))
def PE:ay :=
(.clean [2,3,11,12,13] [2,3,4,5] (.block 0 (.loop [2,3,11,12,13] Gm)))
def aeh:iq:=⟨2,32,[.tmp 4,.tmp 5],(.seq (.ops [.box 2 (.t 0),.box 3 (.t 1),.aN 4 (.nil 1),.aN 5 (.c (.int .i64 0))]) (.seq (.seq (.ops [.load 9 (some 4) (.t 2),.load 10 (some 4) (.t 3),.iH 11 4 [(.t 9),(.t 10)],.len 12 (.t 11),.ak 13 (.c (.int .i64 0))])
  PE) (.seq (.seq (.ops [.aP 23 (.t 2) 3,.load 24 none (.t 23),.aP 25 (.t 3) 3,.load 26 none (.t 25),.call 27 111 [(.t 24),(.t 26)],.un 28 .not (.t 27)]) (.cond (.t 28) (.seq (.ops [.aN 4 (.nil 1),.aN 5 (.c (.int .i64 22))]) .ret) .skip)) (.seq (.ops [.load 29 (some 4) (.t 2),.load 30 (some 4) (.t 3),.call 31 112 [(.t 29),(.t 30)],.aN 4 (.t 31),.aN 5 (.c (.int .i64 0))]) .ret))))⟩
def aa1:iq:=⟨1,9,[.tmp 2],(.seq (.ops [.aN 2 (.c (.bool false))]) (.seq (.ops [.ak 3 (.t 0),.bin 4 .geq (.t 3) (.c (.int .i64 0)),.ak 5 (.t 4),.grd 5 true (.ak 6 (.t 0)),.grd 5 true (.bin 7 .lss (.t 6) (.c (.int .i64 4))),.pick 8 (.t 5) (.t 7) (.c (.bool false)),.aN 2 (.t 8)]) .ret))⟩
def BP:ay:=(.seq (.seq (.AQ [] [] none [0,1,2,3,4,5,6,7,8,9,10,11,12,13,14,15,16,17,18,19] [.ak 17 (.t 8),.ak 18 (.t 0),.len 19 (.t 18),.ak 20 (.t 1),.len 21 (.t 20),.mn 22 false (.t 19) (.t 21),.bin 23 .lss (.t 17) (.t 22),.ak 24 (.t 23),.grd 24 true (.ak 25 (.t 0)),.grd 24 true (.ak 26 (.t 8)),.grd 24 true (.dA 27 3 (.t 25) (.t 26)),.grd 24 true (.aP 28 (.t 27) 0),.grd 24 true (.load 29 none (.t 28)),.grd 24 true (.ak 30 (.t 1)),.grd 24 true (.ak 31 (.t 8)),.grd 24 true (.dA 32 3 (.t 30) (.t 31)),.grd 24 true (.aP 33 (.t 32) 0),.grd 24 true (.load 34 none (.t 33)),.grd 24 true (.bin 35 .eql (.t 29) (.t 34)),.pick 36 (.t 24) (.t 35) (.c (.bool false))]) (.cond (.t 36) .skip (.exit 0))) (.seq (.block 1 (.seq (.AQ [] [] none [0,1,2,3,4,5,6,7,8,9,10,11,12,13,14,15,16,17] [.ak 39 (.t 0),.ak 40 (.t 8),.dA 41 3 (.t 39) (.t 40),.aP 42 (.t 41) 2,.load 43 none (.t 42),.ak 44 (.t 1),.ak 45 (.t 8),.dA 46 3 (.t 44) (.t 45),.aP 47 (.t 46) 2,.load 48 none (.t 47),.mn 49 false (.t 43) (.t 48),.ak 50 (.t 0),.ak 51 (.t 8),.dA 52 3 (.t 50) (.t 51),.aP 53 (.t 52) 0,.load 54 none (.t 53),.aN 6 (.t 49),.aN 7 (.t 54)]) (.seq (.AQ [] [] none [0,1,2,3,4,5,6,7,8,9,10] [.ak 55 (.t 0),.ak 56 (.t 8),.dA 57 3 (.t 55) (.t 56),.aP 58 (.t 57) 2,.load 59 none (.t 58),.ak 60 (.t 1),.ak 61 (.t 8),.dA 62 3 (.t 60) (.t 61),.aP 63 (.t 62) 2,.load 64 none (.t 63),.bin 65 .neq (.t 59) (.t 64)]) (.cond (.t 65) (.exit 0) .skip)))) (.ops [.ak 37 (.t 8),.bin 38 .add (.t 37) (.c (.int .i64 1)),.aN 8 (.t 38)])))
def PG:ay :=
(.clean [0,1,6,7,8] [4,5,6,7] (.block 0 (.loop [0,1,6,7,8] BP)))
def XG:iq:=⟨2,68,[.tmp 4,.tmp 5],(.seq (.ops [.aN 4 (.c (.int .i64 0)),.aN 5 (.c (.int .i64 0))]) (.seq (.seq (.ops [.ak 9 (.t 0),.call 10 93 [(.t 9)],.un 11 .not (.t 10),.ak 12 (.t 11),.grd 12 false (.ak 13 (.t 1)),.grd 12 false (.call 14 93 [(.t 13)]),.grd 12 false (.un 15 .not (.t 14)),.pick 16 (.t 12) (.c (.bool true)) (.t 15)]) (.cond (.t 16) (.seq (.ops [.aN 4 (.c (.int .i64 0)),.aN 5 (.c (.int .i64 0))]) .ret) .skip)) (.seq (.ops [.aN 6 (.c (.int .i64 0)),.aN 7 (.c (.int .i64 0))]) (.seq (.seq (.ops [.aN 8 (.c (.int .i64 0))])
   PG) (.seq (.ops [.ak 66 (.t 6),.ak 67 (.t 7),.aN 4 (.t 66),.aN 5 (.t 67)]) .ret)))))⟩
def aiD:ay:=(.seq (.seq (.ops [.ak 11 (.t 5),.ak 12 (.t 0),.len 13 (.t 12),.bin 14 .lss (.t 11) (.t 13)]) (.cond (.t 14) .skip (.exit 0))) (.seq (.block 1 (.seq (.AQ [] [] none [0,1,2,3,4,5,6,7,8] [.ak 17 (.t 0),.ak 18 (.t 5),.dA 19 2 (.t 17) (.t 18),.load 20 (some 2) (.t 19),.ak 21 (.t 1),.ak 22 (.t 5),.dA 23 2 (.t 21) (.t 22),.load 24 (some 2) (.t 23),.Vz 25 true 2 (.t 20) (.t 24)]) (.cond (.t 25) (.seq (.ops [.aN 4 (.c (.bool false))]) .ret) .skip))) (.ops [.ak 15 (.t 5),.bin 16 .add (.t 15) (.c (.int .i64 1)),.aN 5 (.t 16)])))
def aiE:ay :=
(.clean [0,1,5] [4] (.block 0 (.loop [0,1,5] aiD)))
def alv:iq:=⟨2,26,[.tmp 4],(.seq (.ops [.aN 4 (.c (.bool false))]) (.seq (.seq (.ops [.ak 6 (.t 0),.len 7 (.t 6),.ak 8 (.t 1),.len 9 (.t 8),.bin 10 .neq (.t 7) (.t 9)]) (.cond (.t 10) (.seq (.ops [.aN 4 (.c (.bool false))]) .ret) .skip)) (.seq (.seq (.ops [.aN 5 (.c (.int .i64 0))])
   aiE) (.seq (.ops [.aN 4 (.c (.bool true))]) .ret))))⟩
def Gn:ay:=(.seq (.ops [.bin 13 .lss (.t 12) (.t 11)]) (.seq (.cond (.t 13) .skip (.exit 0)) (.seq (.block 1 (.seq (.ops [.dA 14 1 (.t 10) (.t 12),.load 15 none (.t 14),.aN 6 (.t 15)]) (.seq (.ops [.ak 16 (.t 6),.call 17 85 [(.t 16)],.aN 7 (.t 17)]) (.seq (.ops [.ak 18 (.t 7),.bin 19 .neq (.t 18) (.c (.int .i64 0))]) (.cond (.t 19) (.seq (.ops [.ak 20 (.t 7),.aN 4 (.t 20)]) .ret) .skip))))) (.ops [.bin 21 .add (.t 12) (.c (.int .i64 1)),.ak 12 (.t 21)]))))
def PI:ay :=
(.clean [0,1,10,11,12] [0,1,4] (.block 0 (.loop [0,1,10,11,12] Gn)))
def aei:iq:=⟨2,28,[.tmp 4],(.seq (.ops [.aN 4 (.c (.int .i64 0))]) (.seq (.seq (.ops [.ak 8 (.t 0),.ak 9 (.t 1),.iH 10 1 [(.t 8),(.t 9)],.len 11 (.t 10),.ak 12 (.c (.int .i64 0))])
  PI) (.seq (.seq (.ops [.ak 22 (.t 0),.call 23 116 [(.t 22)],.ak 24 (.t 1),.call 25 116 [(.t 24)],.call 26 115 [(.t 23),(.t 25)],.un 27 .not (.t 26)]) (.cond (.t 27) (.seq (.ops [.aN 4 (.c (.int .i64 22))]) .ret) .skip)) (.seq (.ops [.aN 4 (.c (.int .i64 0))]) .ret))))⟩
def Gp:ay:=(.ops [.aN 7 (.t 11)])
def Gq:ay:=(.block 1 (.seq (.seq (.ops [.ak 12 (.t 7),.load 13 none (.t 6),.bin 14 .eql (.t 12) (.t 13)]) (.cond (.t 14) (.ops [.load 15 none (.t 5),.load 16 none (.t 5),.len 17 (.t 16),.bin 18 .sub (.t 17) (.c (.int .i64 1)),.dA 19 2 (.t 15) (.t 18),.aP 20 (.t 19) 1,.load 21 none (.t 20),.bin 22 .add (.t 21) (.c (.int .i64 1)),.dA 23 2 (.t 15) (.t 18),.aP 24 (.t 23) 1,.store none 1 (.t 24) (.t 22)]) (.ops [.load 25 none (.t 5),.ak 26 (.t 7),.build 27 [(.int .i64 0),(.int .i64 0)] [(0,1,(.t 26)),(1,1,(.c (.int .i64 1)))],.iH 28 2 [(.t 27)],.app 29 2 (.t 25) (.t 28),.store none 1 (.t 5) (.t 29)]))) (.ops [.ak 30 (.t 7),.bin 31 .add (.t 30) (.c (.int .i64 1)),.store none 1 (.t 6) (.t 31)])))
def aej:iq:=⟨2,33,[.tmp 4],(.seq (.ops [.aN 4 (.nil 2)]) (.seq (.ops [.alloc 5 [(.list 2 [])]]) (.seq (.ops [.alloc 6 [(.int .i64 0)],.store none 1 (.t 6) (.c (.int .i64 (-1)))]) (.seq (.seq (.ops [.ak 8 (.t 0),.ak 9 (.t 1),.call 10 117 [(.t 8),(.t 9)]]) (.block 0 (.rng (.t 10) [11] Gp Gq))) (.seq (.ops [.load 32 none (.t 5),.aN 4 (.t 32)]) .ret)))))⟩
def aek:iq:=⟨1,5,[.tmp 2],(.seq (.ops [.aN 2 (.nil 2)]) (.seq (.ops [.ak 3 (.t 0),.call 4 118 [(.c (.l9 2)),(.t 3)],.aN 2 (.t 4)]) .ret))⟩
def ael:iq:=⟨3,8,[.tmp 6],(.seq (.ops [.box 3 (.t 0),.box 4 (.t 1),.box 5 (.t 2),.aN 6 (.c .uw)]) (.seq (.ops [.VA 7 119 [(.t 3),(.t 4),(.t 5)],.aN 6 (.t 7)]) .ret))⟩
def aem:iq:=⟨2,9,[.tmp 4],(.seq (.ops [.aN 4 (.c (.bool false))]) (.seq (.ops [.ak 5 (.t 0),.ak 6 (.t 5),.grd 6 false (.ak 7 (.t 1)),.pick 8 (.t 6) (.c (.bool true)) (.t 7),.aN 4 (.t 8)]) .ret))⟩
def PK:ay:=(.seq (.ops [.bin 10 .lss (.t 9) (.t 8)]) (.seq (.cond (.t 10) .skip (.exit 0)) (.seq (.block 1 (.seq (.ops [.dA 11 2 (.t 7) (.t 9),.load 12 (some 2) (.t 11),.alloc 5 [(.int .i64 0),(.int .i64 0)],.store none 2 (.t 5) (.t 12)]) (.ops [.ak 13 (.t 3),.aP 14 (.t 5) 1,.load 15 none (.t 14),.bin 16 .add (.t 13) (.t 15),.aN 3 (.t 16)]))) (.ops [.bin 17 .add (.t 9) (.c (.int .i64 1)),.ak 9 (.t 17)]))))
def PL:ay :=
(.clean [3,7,8,9] [2,3] (.block 0 (.loop [3,7,8,9] PK)))
def aen:iq:=⟨1,19,[.tmp 2],(.seq (.ops [.aN 2 (.c (.int .i64 0))]) (.seq (.ops [.aN 3 (.c (.int .i64 0))]) (.seq (.seq (.ops [.ak 6 (.t 0),.call 7 33 [(.t 6),(.nil 2)],.len 8 (.t 7),.ak 9 (.c (.int .i64 0))])
   PL) (.seq (.ops [.ak 18 (.t 3),.aN 2 (.t 18)]) .ret))))⟩
def XH:iq:=⟨1,16,[.cell 2 (some 2),.tmp 3],(.seq (.ops [.alloc 2 [(.int .i64 0),(.list 1 [])],.aN 3 (.c (.int .i64 0))]) (.seq (.seq (.ops [.ak 4 (.t 0),.bin 5 .lss (.t 4) (.c (.int .i64 0)),.ak 6 (.t 5),.grd 6 false (.ak 7 (.t 0)),.grd 6 false (.bin 8 .gtr (.t 7) (.c (.int .i64 4096))),.pick 9 (.t 6) (.c (.bool true)) (.t 8)]) (.cond (.t 9) (.seq (.ops [.build 10 [(.int .i64 0),(.list 1 [])] [],.store none 2 (.t 2) (.t 10),.aN 3 (.c (.int .i64 2))]) .ret) .skip)) (.seq (.ops [.ak 11 (.t 0),.ak 12 (.t 0),.call 13 121 [(.t 12)],.make 14 (.int .u64 0) (.t 13) (.t 13),.build 15 [(.int .i64 0),(.list 1 [])] [(0,1,(.t 11)),(1,1,(.t 14))],.store none 2 (.t 2) (.t 15),.aN 3 (.c (.int .i64 0))]) .ret)))⟩
def aeo:iq:=⟨2,12,[.cell 4 (some 2),.tmp 5],(.seq (.ops [.box 2 (.t 0),.box 3 (.t 1),.alloc 4 [(.int .i64 0),(.list 1 [])],.aN 5 (.c (.int .i64 0))]) (.seq (.ops [.build 6 [.uw] [(0,1,(.c (.func 122 [])))],.load 7 (some 2) (.t 2),.load 8 (some 2) (.t 3),.call 9 123 [(.t 6),(.t 7),(.t 8)],.ext 10 (.t 9) 0,.ext 11 (.t 9) 1,.store none 2 (.t 4) (.t 10),.aN 5 (.t 11)]) .ret))⟩
def aep:iq:=⟨1,6,[.tmp 2],(.seq (.ops [.aN 2 (.c (.int .i64 0))]) (.seq (.ops [.ak 3 (.t 0),.call 4 116 [(.t 3)],.call 5 124 [(.t 4)],.aN 2 (.t 5)]) .ret))⟩
def PN:ay:=(.seq (.ops [.bin 18 .lss (.t 17) (.t 16)]) (.seq (.cond (.t 18) .skip (.exit 0)) (.seq (.block 1 (.seq (.ops [.ak 19 (.t 17),.dA 20 1 (.t 15) (.t 17),.load 21 none (.t 20),.aN 7 (.t 19),.aN 8 (.t 21)]) (.seq (.ops [.ak 22 (.t 1),.ak 23 (.t 7),.dA 24 1 (.t 22) (.t 23),.load 25 none (.t 24),.aN 9 (.t 25)]) (.seq (.ops [.ak 26 (.t 2),.ak 27 (.t 8),.ak 28 (.t 9),.lG 29 (.t 26) [(.t 27),(.t 28)],.un 30 .not (.t 29)]) (.cond (.t 30) (.seq (.ops [.aN 6 (.c (.bool false))]) .ret) .skip))))) (.ops [.bin 31 .add (.t 17) (.c (.int .i64 1)),.ak 17 (.t 31)]))))
def PO:ay :=
(.clean [0,1,2,15,16,17] [6] (.block 0 (.loop [0,1,2,15,16,17] PN)))
def aer:iq:=⟨3,32,[.tmp 6],(.seq (.ops [.aN 6 (.c (.bool false))]) (.seq (.seq (.ops [.ak 10 (.t 0),.len 11 (.t 10),.ak 12 (.t 1),.len 13 (.t 12),.bin 14 .neq (.t 11) (.t 13)]) (.cond (.t 14) (.seq (.ops [.aN 6 (.c (.bool false))]) .ret) .skip)) (.seq (.seq (.ops [.ak 15 (.t 0),.len 16 (.t 15),.ak 17 (.c (.int .i64 0))])
   PO) (.seq (.ops [.aN 6 (.c (.bool true))]) .ret))))⟩
def PS:ay:=(.seq (.ops [.bin 14 .lss (.t 13) (.t 12)]) (.seq (.cond (.t 14) .skip (.exit 0)) (.seq (.block 1 (.seq (.ops [.ak 15 (.t 13),.aN 5 (.t 15)]) (.seq (.AQ [] [] none [0,1,2,3,4,5,6,7,8] [.ak 16 (.t 0),.ak 17 (.t 5),.dA 18 8 (.t 16) (.t 17),.load 19 (some 8) (.t 18),.ak 20 (.t 1),.ak 21 (.t 5),.dA 22 8 (.t 20) (.t 21),.load 23 (some 8) (.t 22),.Vz 24 true 8 (.t 19) (.t 23)]) (.cond (.t 24) (.seq (.ops [.aN 4 (.c (.bool false))]) .ret) .skip)))) (.ops [.bin 25 .add (.t 13) (.c (.int .i64 1)),.ak 13 (.t 25)]))))
def PU:ay :=
(.clean [0,1,12,13] [4] (.block 0 (.loop [0,1,12,13] PS)))
def aes:iq:=⟨2,26,[.tmp 4],(.seq (.ops [.aN 4 (.c (.bool false))]) (.seq (.seq (.ops [.ak 6 (.t 0),.len 7 (.t 6),.ak 8 (.t 1),.len 9 (.t 8),.bin 10 .neq (.t 7) (.t 9)]) (.cond (.t 10) (.seq (.ops [.aN 4 (.c (.bool false))]) .ret) .skip)) (.seq (.seq (.ops [.ak 11 (.t 0),.len 12 (.t 11),.ak 13 (.c (.int .i64 0))])
   PU) (.seq (.ops [.aN 4 (.c (.bool true))]) .ret))))⟩
def aa2:iq:=⟨2,40,[.tmp 4],(.seq (.ops [.box 3 (.t 1),.aN 4 (.c (.int .i64 0))]) (.seq (.block 0 (.seq (.ops [.aP 6 (.t 3) 0,.load 7 none (.t 6),.bin 8 .lss (.t 7) (.c (.int .i64 0)),.ak 9 (.t 8),.grd 9 false (.aP 10 (.t 3) 0),.grd 9 false (.load 11 none (.t 10)),.grd 9 false (.ak 12 (.t 0)),.grd 9 false (.len 13 (.t 12)),.grd 9 false (.bin 14 .geq (.t 11) (.t 13)),.pick 15 (.t 9) (.c (.bool true)) (.t 14),.aN 5 (.t 15)]) (.cond (.t 5) (.seq (.ops [.aN 4 (.c (.int .i64 7))]) .ret) (.seq (.ops [.aP 17 (.t 3) 2,.load 18 none (.t 17),.len 19 (.t 18),.bin 20 .eql (.t 19) (.c (.int .i64 0)),.aN 16 (.t 20)]) (.cond (.t 16) (.seq (.ops [.aN 4 (.c (.int .i64 1))]) .ret) (.seq (.AQ [] [] none [0,1,2,3,4,5,6,7,8,9,10,11,12,13,14,15,16,17,18] [.aP 22 (.t 3) 1,.load 23 none (.t 22),.bin 24 .lss (.t 23) (.c (.int .i64 0)),.ak 25 (.t 24),.grd 25 false (.aP 26 (.t 3) 1),.grd 25 false (.load 27 none (.t 26)),.grd 25 false (.ak 28 (.t 0)),.grd 25 false (.aP 29 (.t 3) 0),.grd 25 false (.load 30 none (.t 29)),.grd 25 false (.dA 31 1 (.t 28) (.t 30)),.grd 25 false (.load 32 none (.t 31)),.grd 25 false (.len 33 (.t 32)),.grd 25 false (.aP 34 (.t 3) 2),.grd 25 false (.load 35 none (.t 34)),.grd 25 false (.len 36 (.t 35)),.grd 25 false (.bin 37 .sub (.t 33) (.t 36)),.grd 25 false (.bin 38 .gtr (.t 27) (.t 37)),.pick 39 (.t 25) (.c (.bool true)) (.t 38),.aN 21 (.t 39)]) (.cond (.t 21) (.seq (.ops [.aN 4 (.c (.int .i64 2))]) .ret) .skip))))))) (.seq (.ops [.aN 4 (.c (.int .i64 0))]) .ret)))⟩
def KQ:iq:=⟨1,39,[.tmp 2],(.seq (.ops [.box 1 (.t 0),.aN 2 (.c (.int .i64 0))]) (.seq (.seq (.AQ [] [([0,1,2,3,4,5,6,7,8,9,10,11,12,13],14)] none [15,16] [.aP 4 (.t 1) 0,.load 5 none (.t 4),.bin 6 .lss (.t 5) (.c (.int .i64 0)),.ak 7 (.t 6),.grd 7 false (.aP 8 (.t 1) 0),.grd 7 false (.load 9 none (.t 8)),.grd 7 false (.bin 10 .gtr (.t 9) (.c (.int .i64 4096))),.pick 11 (.t 7) (.c (.bool true)) (.t 10),.ak 12 (.t 11),.grd 12 false (.aP 13 (.t 1) 1),.grd 12 false (.load 14 none (.t 13)),.grd 12 false (.len 15 (.t 14)),.grd 12 false (.aP 16 (.t 1) 0),.grd 12 false (.load 17 none (.t 16)),.grd 12 false (.call 18 121 [(.t 17)]),.grd 12 false (.bin 19 .neq (.t 15) (.t 18)),.pick 20 (.t 12) (.c (.bool true)) (.t 19)]) (.cond (.t 20) (.seq (.ops [.aN 2 (.c (.int .i64 3))]) .ret) .skip)) (.seq (.seq (.ops [.aP 21 (.t 1) 0,.load 22 none (.t 21),.bin 23 .rem (.t 22) (.c (.int .i64 64)),.aN 3 (.t 23)]) (.seq (.ops [.ak 24 (.t 3),.bin 25 .gtr (.t 24) (.c (.int .i64 0)),.ak 26 (.t 25),.grd 26 true (.aP 27 (.t 1) 1),.grd 26 true (.load 28 none (.t 27)),.grd 26 true (.aP 29 (.t 1) 1),.grd 26 true (.load 30 none (.t 29)),.grd 26 true (.len 31 (.t 30)),.grd 26 true (.bin 32 .sub (.t 31) (.c (.int .i64 1))),.grd 26 true (.dA 33 1 (.t 28) (.t 32)),.grd 26 true (.load 34 none (.t 33)),.grd 26 true (.ak 35 (.t 3)),.grd 26 true (.bin 36 .shr (.t 34) (.t 35)),.grd 26 true (.bin 37 .neq (.t 36) (.c (.int .u64 0))),.pick 38 (.t 26) (.t 37) (.c (.bool false))]) (.cond (.t 38) (.seq (.ops [.aN 2 (.c (.int .i64 3))]) .ret) .skip))) (.seq (.ops [.aN 2 (.c (.int .i64 0))]) .ret))))⟩
def aeu:iq:=⟨1,35,[.tmp 2],(.seq (.ops [.aN 2 (.c (.int .i64 0))]) (.seq (.ops [.ak 3 (.t 0),.bin 4 .shr (.t 3) (.c (.int .u64 1)),.bin 5 .and (.t 4) (.c (.int .u64 6148914691236517205)),.ak 6 (.t 0),.bin 7 .and (.t 6) (.c (.int .u64 6148914691236517205)),.bin 8 .add (.t 5) (.t 7),.aN 0 (.t 8)]) (.seq (.ops [.ak 9 (.t 0),.bin 10 .shr (.t 9) (.c (.int .u64 2)),.bin 11 .and (.t 10) (.c (.int .u64 3689348814741910323)),.ak 12 (.t 0),.bin 13 .and (.t 12) (.c (.int .u64 3689348814741910323)),.bin 14 .add (.t 11) (.t 13),.aN 0 (.t 14)]) (.seq (.ops [.ak 15 (.t 0),.bin 16 .shr (.t 15) (.c (.int .u64 4)),.ak 17 (.t 0),.bin 18 .add (.t 16) (.t 17),.bin 19 .and (.t 18) (.c (.int .u64 1085102592571150095)),.aN 0 (.t 19)]) (.seq (.ops [.ak 20 (.t 0),.ak 21 (.t 0),.bin 22 .shr (.t 21) (.c (.int .u64 8)),.bin 23 .add (.t 20) (.t 22),.aN 0 (.t 23)]) (.seq (.ops [.ak 24 (.t 0),.ak 25 (.t 0),.bin 26 .shr (.t 25) (.c (.int .u64 16)),.bin 27 .add (.t 24) (.t 26),.aN 0 (.t 27)]) (.seq (.ops [.ak 28 (.t 0),.ak 29 (.t 0),.bin 30 .shr (.t 29) (.c (.int .u64 32)),.bin 31 .add (.t 28) (.t 30),.aN 0 (.t 31)]) (.seq (.ops [.ak 32 (.t 0),.conv 33 .i64 (.t 32),.bin 34 .and (.t 33) (.c (.int .i64 127)),.aN 2 (.t 34)]) .ret))))))))⟩
def aev:iq:=⟨2,12,[.tmp 4],(.seq (.ops [.aN 4 (.c (.bool false))]) (.seq (.ops [.ak 5 (.t 0),.ak 6 (.t 1),.bin 7 .geq (.t 5) (.t 6),.ak 8 (.t 7),.grd 8 true (.ak 9 (.t 0)),.grd 8 true (.bin 10 .leq (.t 9) (.c (.int .i64 1073741824))),.pick 11 (.t 8) (.t 10) (.c (.bool false)),.aN 4 (.t 11)]) .ret))⟩
def ug:ay:=(.seq (.ops [.bin 10 .lss (.t 9) (.t 8)]) (.seq (.cond (.t 10) .skip (.exit 0)) (.seq (.block 1 (.seq (.ops [.dA 11 3 (.t 7) (.t 9),.load 12 (some 3) (.t 11),.alloc 5 [(.int .i64 0),(.int .i64 0),(.int .i64 0)],.store none 3 (.t 5) (.t 12)]) (.seq (.seq (.ops [.aP 13 (.t 5) 1,.load 14 none (.t 13),.aP 15 (.t 3) 2,.load 16 none (.t 15),.bin 17 .add (.t 16) (.c (.int .i64 1)),.bin 18 .neq (.t 14) (.t 17),.ak 19 (.t 18),.grd 19 false (.aP 20 (.t 5) 2),.grd 19 false (.load 21 none (.t 20)),.grd 19 false (.aP 22 (.t 5) 1),.grd 19 false (.load 23 none (.t 22)),.grd 19 false (.bin 24 .lss (.t 21) (.t 23)),.pick 25 (.t 19) (.c (.bool true)) (.t 24),.ak 26 (.t 25),.grd 26 false (.aP 27 (.t 5) 2),.grd 26 false (.load 28 none (.t 27)),.grd 26 false (.bin 29 .gtr (.t 28) (.c (.int .i64 1073741824))),.pick 30 (.t 26) (.c (.bool true)) (.t 29),.ak 31 (.t 30),.grd 31 false (.aP 32 (.t 5) 0),.grd 31 false (.load 33 none (.t 32)),.grd 31 false (.call 34 92 [(.t 33),(.c (.int .i64 1))]),.grd 31 false (.un 35 .not (.t 34)),.pick 36 (.t 31) (.c (.bool true)) (.t 35),.ak 37 (.t 36),.grd 37 false (.aP 38 (.t 5) 0),.grd 37 false (.load 39 none (.t 38)),.grd 37 false (.aP 40 (.t 3) 0),.grd 37 false (.load 41 none (.t 40)),.grd 37 false (.bin 42 .leq (.t 39) (.t 41)),.pick 43 (.t 37) (.c (.bool true)) (.t 42)]) (.cond (.t 43) (.seq (.ops [.aN 2 (.c (.bool false))]) .ret) .skip)) (.ops [.load 44 (some 3) (.t 5),.store none 3 (.t 3) (.t 44)])))) (.ops [.bin 45 .add (.t 9) (.c (.int .i64 1)),.ak 9 (.t 45)]))))
def PW:ay :=
(.clean [0,3,7,8,9] [2] (.block 0 (.loop [0,3,7,8,9] ug)))
def aew:iq:=⟨1,46,[.tmp 2],(.seq (.ops [.aN 2 (.c (.bool false))]) (.seq (.ops [.build 6 [(.int .i64 0),(.int .i64 0),(.int .i64 0)] [],.alloc 3 [(.int .i64 0),(.int .i64 0),(.int .i64 0)],.store none 3 (.t 3) (.t 6)]) (.seq (.seq (.ops [.ak 7 (.t 0),.len 8 (.t 7),.ak 9 (.c (.int .i64 0))])
   PW) (.seq (.ops [.aN 2 (.c (.bool true))]) .ret))))⟩
def Gs:ay:=(.ops [.aN 4 (.t 8)])
def Gt:ay:=(.block 1 (.seq (.seq (.ops [.load 9 none (.t 3),.len 10 (.t 9),.aN 5 (.t 10)]) (.seq (.AQ [] [] none [0,1,2,3,4,5,6,7,8,9,10,11,12,13,14,15,16,17,18] [.ak 11 (.t 5),.bin 12 .gtr (.t 11) (.c (.int .i64 0)),.ak 13 (.t 12),.grd 13 true (.load 14 none (.t 3)),.grd 13 true (.ak 15 (.t 5)),.grd 13 true (.bin 16 .sub (.t 15) (.c (.int .i64 1))),.grd 13 true (.dA 17 2 (.t 14) (.t 16)),.grd 13 true (.aP 18 (.t 17) 0),.grd 13 true (.load 19 none (.t 18)),.grd 13 true (.load 20 none (.t 3)),.grd 13 true (.ak 21 (.t 5)),.grd 13 true (.bin 22 .sub (.t 21) (.c (.int .i64 1))),.grd 13 true (.dA 23 2 (.t 20) (.t 22)),.grd 13 true (.aP 24 (.t 23) 1),.grd 13 true (.load 25 none (.t 24)),.grd 13 true (.bin 26 .add (.t 19) (.t 25)),.grd 13 true (.ak 27 (.t 4)),.grd 13 true (.bin 28 .eql (.t 26) (.t 27)),.pick 29 (.t 13) (.t 28) (.c (.bool false))]) (.cond (.t 29) (.seq (.ops [.load 30 none (.t 3),.ak 31 (.t 5),.bin 32 .sub (.t 31) (.c (.int .i64 1)),.dA 33 2 (.t 30) (.t 32),.aP 34 (.t 33) 1,.load 35 none (.t 34),.bin 36 .add (.t 35) (.c (.int .i64 1)),.dA 37 2 (.t 30) (.t 32),.aP 38 (.t 37) 1,.store none 1 (.t 38) (.t 36)]) (.exit 1)) .skip))) (.ops [.load 39 none (.t 3),.ak 40 (.t 4),.build 41 [(.int .i64 0),(.int .i64 0)] [(0,1,(.t 40)),(1,1,(.c (.int .i64 1)))],.iH 42 2 [(.t 41)],.app 43 2 (.t 39) (.t 42),.store none 1 (.t 3) (.t 43)])))
def aex:iq:=⟨1,45,[.tmp 2],(.seq (.ops [.box 1 (.t 0),.aN 2 (.nil 2)]) (.seq (.ops [.alloc 3 [(.list 2 [])]]) (.seq (.seq (.ops [.load 6 (some 2) (.t 1),.call 7 126 [(.t 6),(.c (.int .i64 0))]]) (.block 0 (.rng (.t 7) [8] Gs Gt))) (.seq (.ops [.load 44 none (.t 3),.aN 2 (.t 44)]) .ret))))⟩
def aiF:iq:=⟨1,8,[.tmp 2],(.seq (.ops [.aN 2 (.nil 8)]) (.seq (.seq (.ops [.ak 3 (.t 0),.Yn 4 false (.t 3)]) (.cond (.t 4) (.seq (.ops [.aN 2 (.nil 8)]) .ret) .skip)) (.seq (.ops [.iH 5 8 [],.ak 6 (.t 0),.app 7 8 (.t 5) (.t 6),.aN 2 (.t 7)]) .ret)))⟩
def aa3:iq:=⟨1,12,[.tmp 2,.tmp 3],(.seq (.ops [.aN 2 (.nil 1),.aN 3 (.c (.int .i64 0))]) (.seq (.seq (.ops [.ak 5 (.t 0),.call 6 124 [(.t 5)],.aN 4 (.t 6)]) (.seq (.ops [.ak 7 (.t 4),.bin 8 .neq (.t 7) (.c (.int .i64 0))]) (.cond (.t 8) (.seq (.ops [.ak 9 (.t 4),.aN 2 (.nil 1),.aN 3 (.t 9)]) .ret) .skip))) (.seq (.ops [.ak 10 (.t 0),.call 11 127 [(.t 10),(.c (.func 128 []))],.aN 2 (.t 11),.aN 3 (.c (.int .i64 0))]) .ret)))⟩
def aa4:iq:=⟨3,15,[.tmp 6],(.seq (.ops [.aN 6 (.c (.bool false))]) (.seq (.ops [.ak 7 (.t 0),.ak 8 (.t 1),.bin 9 .geq (.t 7) (.t 8),.ak 10 (.t 9),.grd 10 true (.ak 11 (.t 0)),.grd 10 true (.ak 12 (.t 2)),.grd 10 true (.bin 13 .leq (.t 11) (.t 12)),.pick 14 (.t 10) (.t 13) (.c (.bool false)),.aN 6 (.t 14)]) .ret))⟩
def XI:iq:=⟨2,12,[.tmp 4],(.seq (.ops [.aN 4 (.c (.int .i64 0))]) (.seq (.seq (.ops [.ak 5 (.t 0),.len 6 (.t 5),.ak 7 (.t 1),.call 8 97 [(.t 6),(.t 7),(.c (.int .i64 8))],.un 9 .not (.t 8)]) (.cond (.t 9) (.seq (.ops [.aN 4 (.c (.int .i64 6))]) .ret) .skip)) (.seq (.seq (.ops [.ak 10 (.t 0),.call 11 129 [(.t 10),(.c (.func 130 []))]]) (.cond (.t 11) (.seq (.ops [.aN 4 (.c (.int .i64 2))]) .ret) .skip)) (.seq (.ops [.aN 4 (.c (.int .i64 0))]) .ret))))⟩
def aey:iq:=⟨2,18,[.tmp 4],(.seq (.ops [.aN 4 (.c (.int .i64 0))]) (.seq (.ops [.ak 8 (.t 1),.call 9 96 [(.t 8)],.ak 7 (.t 9),.ext 10 (.t 7) 0,.ext 11 (.t 7) 1,.alloc 5 [(.list 1 [])],.store none 1 (.t 5) (.t 10),.aN 6 (.t 11)]) (.seq (.seq (.ops [.ak 12 (.t 6),.bin 13 .neq (.t 12) (.c (.int .i64 0))]) (.cond (.t 13) (.seq (.ops [.ak 14 (.t 6),.aN 4 (.t 14)]) .ret) .skip)) (.seq (.ops [.ak 15 (.t 0),.VA 16 132 [(.t 5)],.call 17 131 [(.t 15),(.t 16)],.aN 4 (.t 17)]) .ret))))⟩
def TI:iq:=⟨2,8,[.tmp 4],(.seq (.ops [.aN 4 (.c (.bool false))]) (.seq (.ops [.ak 5 (.t 0),.ak 6 (.t 1),.call 7 86 [(.t 5),(.t 6),(.c (.func 135 []))],.aN 4 (.t 7)]) .ret))⟩
def Iw:ay:=(.seq (.ops [.bin 16 .lss (.t 15) (.t 14)]) (.seq (.cond (.t 16) .skip (.exit 0)) (.seq (.block 1 (.seq (.ops [.ak 17 (.t 15),.aN 6 (.t 17)]) (.seq (.drs [] [2,3,5,6,7,12,14,15] [.aP 19 (.t 2) 2,.load 20 none (.t 19),.ak 21 (.t 6),.dA 22 2 (.t 20) (.t 21),.load 23 (some 2) (.t 22),.aP 24 (.t 3) 2,.load 25 none (.t 24),.ak 26 (.t 6),.dA 27 2 (.t 25) (.t 26),.load 28 (some 2) (.t 27),.call 29 136 [(.t 23),(.t 28)],.ak 18 (.t 29),.ext 30 (.t 18) 0,.ext 31 (.t 18) 1,.alloc 7 [(.int .i64 0),(.list 1 [])],.store none 2 (.t 7) (.t 30),.aN 8 (.t 31)]
    [⟨[([0,1,2,3,4,5,6,7,8,9],10),([11,12,13],14)],(some ([],[],15,[])),[16],[0,1,2,3,4,5,6,7,8,9,10,11,12,13,14,15,16],false⟩,⟨[([0,1,2,3,4,5,6,7,8,9],14),([],10)],(some ([11,12],[13],15,[])),[16],[0,1,2,3,4,5,6,7,8,9,14,10,11,12,13,15,16],false⟩]) (.ops [.ak 32 (.t 5),.ak 33 (.t 6),.load 34 (some 2) (.t 7),.call 35 94 [(.t 34)],.dA 36 1 (.t 32) (.t 33),.store none 1 (.t 36) (.t 35)])))) (.ops [.bin 37 .add (.t 15) (.c (.int .i64 1)),.ak 15 (.t 37)]))))
def Iy:ay :=
(.clean [2,3,5,12,14,15] [4,5] (.block 0 (.loop [2,3,5,12,14,15] Iw)))
def TJ:iq:=⟨2,39,[.tmp 4],(.seq (.ops [.box 2 (.t 0),.box 3 (.t 1),.aN 4 (.nil 1)]) (.seq (.ops [.aP 9 (.t 2) 2,.load 10 none (.t 9),.len 11 (.t 10),.make 12 (.list 0 []) (.t 11) (.t 11),.aN 5 (.t 12)]) (.seq (.seq (.ops [.ak 13 (.t 5),.len 14 (.t 13),.ak 15 (.c (.int .i64 0))])
   Iy) (.seq (.ops [.ak 38 (.t 5),.aN 4 (.t 38)]) .ret))))⟩
def Iz:ay:=(.seq (.ops [.bin 14 .lss (.t 13) (.t 12)]) (.seq (.cond (.t 14) .skip (.exit 0)) (.seq (.block 1 (.seq (.ops [.ak 15 (.t 13),.aN 5 (.t 15)]) (.seq (.AQ [] [] none [0,1,2,3,4,5,6,7,8] [.ak 16 (.t 0),.ak 17 (.t 5),.dA 18 1 (.t 16) (.t 17),.load 19 none (.t 18),.ak 20 (.t 1),.ak 21 (.t 5),.dA 22 1 (.t 20) (.t 21),.load 23 none (.t 22),.bin 24 .neq (.t 19) (.t 23)]) (.cond (.t 24) (.seq (.ops [.aN 4 (.c (.bool false))]) .ret) .skip)))) (.ops [.bin 25 .add (.t 13) (.c (.int .i64 1)),.ak 13 (.t 25)]))))
def IB:ay :=
(.clean [0,1,12,13] [4] (.block 0 (.loop [0,1,12,13] Iz)))
def TK:iq:=⟨2,26,[.tmp 4],(.seq (.ops [.aN 4 (.c (.bool false))]) (.seq (.seq (.ops [.ak 6 (.t 0),.len 7 (.t 6),.ak 8 (.t 1),.len 9 (.t 8),.bin 10 .neq (.t 7) (.t 9)]) (.cond (.t 10) (.seq (.ops [.aN 4 (.c (.bool false))]) .ret) .skip)) (.seq (.seq (.ops [.ak 11 (.t 0),.len 12 (.t 11),.ak 13 (.c (.int .i64 0))])
   IB) (.seq (.ops [.aN 4 (.c (.bool true))]) .ret))))⟩
def TL:iq:=⟨1,5,[.tmp 2],(.seq (.ops [.aN 2 (.nil 1)]) (.seq (.ops [.ak 3 (.t 0),.call 4 138 [(.t 3),(.c (.func 139 []))],.aN 2 (.t 4)]) .ret))⟩
def TM:iq:=⟨2,6,[.tmp 4],(.seq (.ops [.box 2 (.t 0),.box 3 (.t 1),.aN 4 (.c .uw)]) (.seq (.ops [.VA 5 140 [(.t 2),(.t 3)],.aN 4 (.t 5)]) .ret))⟩
def TN:ay:=(.ops [.alloc 5 [(.int .i64 0),(.int .i64 0)],.store none 2 (.t 5) (.t 7)])
def TP:ay:=(.block 1 (.ops [.load 8 none (.t 2),.load 9 (some 2) (.t 5),.iH 10 2 [(.t 9)],.app 11 2 (.t 8) (.t 10),.store none 1 (.t 2) (.t 11)]))
def TQ:iq:=⟨2,13,[.tmp 4],(.seq (.ops [.box 2 (.t 0),.aN 4 (.nil 2)]) (.seq (.seq (.ops [.ak 6 (.t 1)]) (.block 0 (.rng (.t 6) [7] TN TP))) (.seq (.ops [.load 12 none (.t 2),.aN 4 (.t 12)]) .ret)))⟩
def ql:ay:=(.seq (.ops [.bin 19 .lss (.t 18) (.t 17)]) (.seq (.cond (.t 19) .skip (.exit 0)) (.seq (.block 1 (.seq (.ops [.ak 20 (.t 18),.dA 21 3 (.t 16) (.t 18),.load 22 (some 3) (.t 21),.alloc 10 [(.int .i64 0),(.int .i64 0),(.int .i64 0)],.aN 9 (.t 20),.store none 3 (.t 10) (.t 22)]) (.seq (.AQ [] [] (some ([0,1,2,3,4,5,6,7],[],8,[])) [] [.aP 23 (.t 10) 1,.load 24 none (.t 23),.zx 25 (.t 6) (.t 24) 2 1,.load 26 none (.t 25),.aP 27 (.t 10) 2,.load 28 none (.t 27),.bin 29 .add (.t 26) (.t 28),.zx 30 (.t 6) (.t 24) 2 1,.store none 1 (.t 30) (.t 29)]) (.seq (.seq (.AQ [] [] none [0,1,2,3,4,5,6,7,8,9,10,11,12,13,14,15] [.ak 31 (.t 9),.bin 32 .add (.t 31) (.c (.int .i64 1)),.ak 33 (.t 5),.len 34 (.t 33),.bin 35 .lss (.t 32) (.t 34),.ak 36 (.t 35),.grd 36 true (.ak 37 (.t 5)),.grd 36 true (.ak 38 (.t 9)),.grd 36 true (.bin 39 .add (.t 38) (.c (.int .i64 1))),.grd 36 true (.dA 40 3 (.t 37) (.t 39)),.grd 36 true (.aP 41 (.t 40) 0),.grd 36 true (.load 42 none (.t 41)),.grd 36 true (.aP 43 (.t 10) 0),.grd 36 true (.load 44 none (.t 43)),.grd 36 true (.bin 45 .eql (.t 42) (.t 44)),.pick 46 (.t 36) (.t 45) (.c (.bool false))]) (.cond (.t 46) (.exit 1) .skip)) (.seq (.ops [.load 47 none (.t 3),.zx 48 (.t 6) (.c (.int .i64 0)) 2 1,.load 49 none (.t 48),.bin 50 .gtr (.t 49) (.c (.int .i64 0)),.zx 51 (.t 6) (.c (.int .i64 1)) 2 1,.load 52 none (.t 51),.bin 53 .gtr (.t 52) (.c (.int .i64 0)),.lG 54 (.t 47) [(.t 50),(.t 53)],.aN 11 (.t 54)]) (.seq (.seq (.ops [.ak 55 (.t 11),.ak 56 (.t 55),.grd 56 true (.ak 57 (.t 8)),.grd 56 true (.un 58 .not (.t 57)),.pick 59 (.t 56) (.t 58) (.c (.bool false))]) (.cond (.t 59) (.ops [.aP 60 (.t 10) 0,.load 61 none (.t 60),.aN 7 (.t 61)]) .skip)) (.seq (.seq (.ops [.ak 62 (.t 11),.un 63 .not (.t 62),.ak 64 (.t 63),.grd 64 true (.ak 65 (.t 8)),.pick 66 (.t 64) (.t 65) (.c (.bool false)),.ak 67 (.t 66),.grd 67 true (.ak 68 (.t 0)),.grd 67 true (.ak 69 (.t 7)),.grd 67 true (.aP 70 (.t 10) 0),.grd 67 true (.load 71 none (.t 70)),.grd 67 true (.ak 72 (.t 7)),.grd 67 true (.bin 73 .sub (.t 71) (.t 72)),.grd 67 true (.build 74 [(.int .i64 0),(.int .i64 0)] [(0,1,(.t 69)),(1,1,(.t 73))]),.grd 67 true (.yield 75 (.t 68) [(.t 74)]),.grd 67 true (.un 76 .not (.t 75)),.pick 77 (.t 67) (.t 76) (.c (.bool false))]) (.cond (.t 77) .ret .skip)) (.ops [.ak 78 (.t 11),.aN 8 (.t 78)])))))))) (.ops [.bin 79 .add (.t 18) (.c (.int .i64 1)),.ak 18 (.t 79)]))))
def IC:ay :=
(.clean [0,3,5,6,7,8,15,16,17,18] [] (.block 0 (.loop [0,3,5,6,7,8,15,16,17,18] ql)))
def TS:iq:=⟨4,80,[],(.seq (.ops [.load 12 none (.t 1),.load 13 none (.t 2),.iH 14 1 [(.t 12),(.t 13)],.call 15 120 [(.t 14)],.aN 5 (.t 15)]) (.seq (.ops [.alloc 6 [(.int .i64 0),(.int .i64 0)]]) (.seq (.ops [.aN 7 (.c (.int .i64 0)),.aN 8 (.c (.bool false))]) (.seq (.ops [.ak 16 (.t 5),.len 17 (.t 16),.ak 18 (.c (.int .i64 0))])
   IC))))⟩
def BQ:ay:=(.seq (.ops [.bin 21 .lss (.t 20) (.t 19)]) (.seq (.cond (.t 21) .skip (.exit 2)) (.seq (.block 3 (.seq (.ops [.dA 22 2 (.t 18) (.t 20),.load 23 (some 2) (.t 22),.alloc 7 [(.int .i64 0),(.int .i64 0)],.store none 2 (.t 7) (.t 23)]) (.seq (.ops [.load 25 (some 2) (.t 7),.call 26 141 [(.t 25)],.ak 24 (.t 26),.ext 27 (.t 24) 0,.ext 28 (.t 24) 1,.ext 29 (.t 24) 2,.aN 8 (.t 27),.aN 9 (.t 28),.aN 10 (.t 29)]) (.seq (.ops [.ak 30 (.t 10)]) (.cond (.t 30) (.ops [.ak 31 (.t 3),.ak 32 (.t 8),.ak 33 (.t 4),.build 34 [(.int .i64 0),(.int .i64 0),(.int .i64 0)] [(0,1,(.t 32)),(1,1,(.t 33)),(2,1,(.c (.int .i64 1)))],.ak 35 (.t 9),.ak 36 (.t 4),.build 37 [(.int .i64 0),(.int .i64 0),(.int .i64 0)] [(0,1,(.t 35)),(1,1,(.t 36)),(2,1,(.c (.int .i64 (-1))))],.iH 38 3 [(.t 34),(.t 37)],.app 39 3 (.t 31) (.t 38),.aN 3 (.t 39)]) .skip))))) (.ops [.bin 40 .add (.t 20) (.c (.int .i64 1)),.ak 20 (.t 40)]))))
def IE:ay :=
(.clean [0,3,4,5,11,12,13,17,18,19,20,39] [0,2,3,11,12,13,39] (.block 2 (.loop [0,3,4,5,11,12,13,17,18,19,20,39] BQ)))
def IG:ay:=(.seq (.ops [.bin 14 .lss (.t 13) (.t 12)]) (.seq (.cond (.t 14) .skip (.exit 0)) (.seq (.block 1 (.seq (.ops [.ak 15 (.t 13),.dA 16 1 (.t 11) (.t 13),.load 17 none (.t 16),.aN 4 (.t 15),.aN 5 (.t 17)]) (.seq (.ops [.ak 18 (.t 5),.len 19 (.t 18),.ak 20 (.c (.int .i64 0))])
    IE))) (.ops [.bin 41 .add (.t 13) (.c (.int .i64 1)),.ak 13 (.t 41)]))))
def II:ay :=
(.clean [0,3,11,12,13,39] [2,3] (.block 0 (.loop [0,3,11,12,13,39] IG)))
def TU:iq:=⟨1,45,[.tmp 2],(.seq (.ops [.aN 2 (.nil 3)]) (.seq (.ops [.aN 3 (.nil 3)]) (.seq (.seq (.ops [.ak 11 (.t 0),.len 12 (.t 11),.ak 13 (.c (.int .i64 0))])
   II) (.seq (.ops [.ak 42 (.t 3),.Kv 43 142 (.t 42) (.c (.func 143 []))]) (.seq (.ops [.ak 44 (.t 3),.aN 2 (.t 44)]) .ret)))))⟩
def TV:iq:=⟨1,7,[.tmp 2],(.seq (.ops [.aN 2 (.c (.int .i64 0))]) (.seq (.ops [.ak 3 (.t 0),.bin 4 .add (.t 3) (.c (.int .i64 64)),.bin 5 .sub (.t 4) (.c (.int .i64 1)),.bin 6 .quo (.t 5) (.c (.int .i64 64)),.aN 2 (.t 6)]) .ret))⟩
def TW:iq:=⟨2,8,[.tmp 4],(.seq (.ops [.aN 4 (.c (.int .u64 0))]) (.seq (.ops [.ak 5 (.t 0),.ak 6 (.t 1),.bin 7 .or (.t 5) (.t 6),.aN 4 (.t 7)]) .ret))⟩
def IJ:ay:=(.seq (.ops [.bin 29 .lss (.t 28) (.t 27)]) (.seq (.cond (.t 29) .skip (.exit 0)) (.seq (.block 1 (.seq (.ops [.ak 30 (.t 28),.aN 10 (.t 30)]) (.AQ [] [([0,1,2,3,4,5,6,7,8,9,10,11,12,13,14,15],16),([],17)] (some ([18],[],19,[])) [] [.ak 31 (.t 9),.ak 32 (.t 10),.aP 33 (.t 3) 0,.load 34 none (.t 33),.ak 35 (.t 9),.ak 36 (.t 10),.dA 37 1 (.t 35) (.t 36),.load 38 none (.t 37),.ak 39 (.t 10),.aP 40 (.t 5) 0,.load 41 none (.t 40),.aP 42 (.t 5) 0,.load 43 none (.t 42),.aP 44 (.t 5) 1,.load 45 none (.t 44),.bin 46 .add (.t 43) (.t 45),.call 47 147 [(.t 39),(.t 41),(.t 46)],.lG 48 (.t 34) [(.t 38),(.t 47)],.dA 49 1 (.t 31) (.t 32),.store none 1 (.t 49) (.t 48)]))) (.ops [.bin 50 .add (.t 28) (.c (.int .i64 1)),.ak 28 (.t 50)]))))
def IK:ay :=
(.clean [3,4,5,6,9,25,27,28] [4,6,7,9] (.block 0 (.loop [3,4,5,6,9,25,27,28] IJ)))
def IL:iq:=⟨3,55,[.cell 6 (some 2),.tmp 7],(.seq (.ops [.box 3 (.t 0),.box 4 (.t 1),.box 5 (.t 2),.alloc 6 [(.int .i64 0),(.list 1 [])],.aN 7 (.c (.int .i64 0))]) (.seq (.seq (.ops [.load 11 (some 2) (.t 4),.call 12 90 [(.t 11)],.aN 8 (.t 12)]) (.seq (.ops [.ak 13 (.t 8),.bin 14 .neq (.t 13) (.c (.int .i64 0))]) (.cond (.t 14) (.seq (.ops [.build 15 [(.int .i64 0),(.list 1 [])] [],.ak 16 (.t 8),.store none 2 (.t 6) (.t 15),.aN 7 (.t 16)]) .ret) .skip))) (.seq (.seq (.ops [.load 17 (some 2) (.t 5),.aP 18 (.t 4) 0,.load 19 none (.t 18),.call 20 145 [(.t 17),(.t 19)],.un 21 .not (.t 20)]) (.cond (.t 21) (.seq (.ops [.build 22 [(.int .i64 0),(.list 1 [])] [],.store none 2 (.t 6) (.t 22),.aN 7 (.c (.int .i64 2))]) .ret) .skip)) (.seq (.ops [.aP 23 (.t 4) 1,.load 24 none (.t 23),.call 25 146 [(.t 24)],.aN 9 (.t 25)]) (.seq (.seq (.ops [.ak 26 (.t 9),.len 27 (.t 26),.ak 28 (.c (.int .i64 0))])
    IK) (.seq (.ops [.aP 51 (.t 4) 0,.load 52 none (.t 51),.ak 53 (.t 9),.build 54 [(.int .i64 0),(.list 1 [])] [(0,1,(.t 52)),(1,1,(.t 53))],.store none 2 (.t 6) (.t 54),.aN 7 (.c (.int .i64 0))]) .ret))))))⟩
def TY:iq:=⟨1,13,[.tmp 2],(.seq (.ops [.aN 2 (.c (.int .i64 0))]) (.seq (.seq (.ops [.ak 3 (.t 0),.len 4 (.t 3),.bin 5 .lss (.t 4) (.c (.int .i64 1)),.ak 6 (.t 5),.grd 6 false (.ak 7 (.t 0)),.grd 6 false (.len 8 (.t 7)),.grd 6 false (.bin 9 .gtr (.t 8) (.c (.int .i64 8))),.pick 10 (.t 6) (.c (.bool true)) (.t 9)]) (.cond (.t 10) (.seq (.ops [.aN 2 (.c (.int .i64 6))]) .ret) .skip)) (.seq (.seq (.ops [.ak 11 (.t 0),.call 12 129 [(.t 11),(.c (.func 148 []))]]) (.cond (.t 12) (.seq (.ops [.aN 2 (.c (.int .i64 2))]) .ret) .skip)) (.seq (.ops [.aN 2 (.c (.int .i64 0))]) .ret))))⟩
def Ua:iq:=⟨2,6,[.tmp 4],(.seq (.ops [.box 2 (.t 0),.box 3 (.t 1),.aN 4 (.c .uw)]) (.seq (.ops [.VA 5 149 [(.t 2),(.t 3)],.aN 4 (.t 5)]) .ret))⟩
def IQ:ay:=(.seq (.ops [.bin 14 .lss (.t 13) (.t 12)]) (.seq (.cond (.t 14) .skip (.exit 0)) (.seq (.block 1 (.seq (.ops [.dA 15 1 (.t 11) (.t 13),.load 16 none (.t 15),.aN 7 (.t 16)]) (.ops [.ak 17 (.t 5),.ak 18 (.t 1),.ak 19 (.t 7),.lG 20 (.t 18) [(.t 19)],.iH 21 1 [(.t 20)],.app 22 1 (.t 17) (.t 21),.aN 5 (.t 22)]))) (.ops [.bin 23 .add (.t 13) (.c (.int .i64 1)),.ak 13 (.t 23)]))))
def IU:ay :=
(.clean [0,1,5,10,11,12,13,22] [4,5] (.block 0 (.loop [0,1,5,10,11,12,13,22] IQ)))
def Ub:iq:=⟨2,25,[.tmp 4],(.seq (.ops [.aN 4 (.nil 1)]) (.seq (.ops [.ak 8 (.t 0),.len 9 (.t 8),.make 10 (.list 0 []) (.c (.int .i64 0)) (.t 9),.aN 5 (.t 10)]) (.seq (.seq (.ops [.ak 11 (.t 0),.len 12 (.t 11),.ak 13 (.c (.int .i64 0))])
   IU) (.seq (.ops [.ak 24 (.t 5),.aN 4 (.t 24)]) .ret))))⟩
def Uc:iq:=⟨1,5,[.tmp 2],(.seq (.ops [.aN 2 (.nil 8)]) (.seq (.ops [.ak 3 (.t 0),.make 4 (.agg [(.int .u8 0),(.int .u8 0),(.int .u8 0),(.int .u8 0),(.int .u8 0),(.int .u8 0),(.int .u8 0),(.int .u8 0)]) (.t 3) (.t 3),.aN 2 (.t 4)]) .ret))⟩
def Ud:iq:=⟨2,9,[.tmp 4],(.seq (.ops [.aN 4 (.c (.bool false))]) (.seq (.ops [.ak 5 (.t 0),.ak 6 (.t 1),.call 7 151 [(.t 5),(.t 6)],.bin 8 .geq (.t 7) (.c (.int .i64 0)),.aN 4 (.t 8)]) .ret))⟩
def Ue:iq:=⟨1,6,[.tmp 2],(.seq (.ops [.aN 2 (.c (.bool false))]) (.seq (.ops [.ak 3 (.t 0),.call 4 97 [(.t 3),(.c (.int .i64 0)),(.c (.int .i64 1073741824))],.un 5 .not (.t 4),.aN 2 (.t 5)]) .ret))⟩
def yg:ay:=(.seq (.ops [.bin 12 .lss (.t 11) (.t 10)]) (.seq (.cond (.t 12) .skip (.exit 0)) (.seq (.block 1 (.seq (.ops [.ak 13 (.t 11),.dA 14 3 (.t 9) (.t 11),.load 15 (some 3) (.t 14),.alloc 6 [(.int .i64 0),(.int .i64 0),(.list 0 [])],.aN 5 (.t 13),.store none 3 (.t 6) (.t 15)]) (.seq (.seq (.ops [.ak 16 (.t 1),.load 17 (some 3) (.t 6),.lG 18 (.t 16) [(.t 17)],.aN 7 (.t 18)]) (.seq (.ops [.ak 19 (.t 7),.bin 20 .neq (.t 19) (.c (.int .i64 0))]) (.cond (.t 20) (.seq (.ops [.ak 21 (.t 7),.aN 4 (.t 21)]) .ret) .skip))) (.seq (.seq (.ops [.ak 22 (.t 5),.bin 23 .eql (.t 22) (.c (.int .i64 0))]) (.cond (.t 23) (.exit 1) .skip)) (.seq (.ops [.ak 24 (.t 0),.ak 25 (.t 5),.bin 26 .sub (.t 25) (.c (.int .i64 1)),.dA 27 3 (.t 24) (.t 26),.load 28 (some 3) (.t 27),.alloc 8 [(.int .i64 0),(.int .i64 0),(.list 0 [])],.store none 3 (.t 8) (.t 28)]) (.seq (.ops [.aP 29 (.t 6) 0,.load 30 none (.t 29),.aP 31 (.t 8) 0,.load 32 none (.t 31),.bin 33 .lss (.t 30) (.t 32),.ak 34 (.t 33),.grd 34 false (.aP 35 (.t 6) 0),.grd 34 false (.load 36 none (.t 35)),.grd 34 false (.aP 37 (.t 8) 0),.grd 34 false (.load 38 none (.t 37)),.grd 34 false (.bin 39 .eql (.t 36) (.t 38)),.grd 34 false (.ak 40 (.t 39)),.grd 40 true (.aP 41 (.t 6) 1),.grd 40 true (.load 42 none (.t 41)),.grd 40 true (.aP 43 (.t 8) 1),.grd 40 true (.load 44 none (.t 43)),.grd 40 true (.aP 45 (.t 8) 2),.grd 40 true (.load 46 none (.t 45)),.grd 40 true (.len 47 (.t 46)),.grd 40 true (.bin 48 .add (.t 44) (.t 47)),.grd 40 true (.bin 49 .leq (.t 42) (.t 48)),.grd 34 false (.pick 50 (.t 40) (.t 49) (.c (.bool false))),.pick 51 (.t 34) (.c (.bool true)) (.t 50)]) (.cond (.t 51) (.seq (.ops [.aN 4 (.c (.int .i64 3))]) .ret) .skip))))))) (.ops [.bin 52 .add (.t 11) (.c (.int .i64 1)),.ak 11 (.t 52)]))))
def IV:ay :=
(.clean [0,1,9,10,11] [4] (.block 0 (.loop [0,1,9,10,11] yg)))
def Uf:iq:=⟨2,53,[.tmp 4],(.seq (.ops [.aN 4 (.c (.int .i64 0))]) (.seq (.seq (.ops [.ak 9 (.t 0),.len 10 (.t 9),.ak 11 (.c (.int .i64 0))])
  IV) (.seq (.ops [.aN 4 (.c (.int .i64 0))]) .ret)))⟩
def Ug:iq:=⟨2,7,[.tmp 3],(.seq (.ops [.box 2 (.t 0),.aN 3 (.c (.int .i64 0))]) (.seq (.ops [.load 4 none (.t 1),.load 5 (some 3) (.t 2),.call 6 133 [(.t 4),(.t 5)],.aN 3 (.t 6)]) .ret))⟩
def Uh:iq:=⟨2,14,[.tmp 4],(.seq (.ops [.box 3 (.t 1),.aN 4 (.c (.int .i64 0))]) (.seq (.seq (.ops [.ak 6 (.t 0),.call 7 85 [(.t 6)],.aN 5 (.t 7)]) (.seq (.ops [.ak 8 (.t 5),.bin 9 .neq (.t 8) (.c (.int .i64 0))]) (.cond (.t 9) (.seq (.ops [.ak 10 (.t 5),.aN 4 (.t 10)]) .ret) .skip))) (.seq (.ops [.ak 11 (.t 0),.load 12 (some 3) (.t 3),.call 13 89 [(.t 11),(.t 12)],.aN 4 (.t 13)]) .ret)))⟩
def ML:iq:=⟨2,10,[.tmp 4],(.seq (.ops [.aN 4 (.c (.bool false))]) (.seq (.ops [.ak 5 (.t 0),.len 6 (.t 5),.ak 7 (.t 1),.len 8 (.t 7),.bin 9 .eql (.t 6) (.t 8),.aN 4 (.t 9)]) .ret))⟩
def Ui:iq:=⟨2,11,[.cell 4 (some 2),.tmp 5],(.seq (.ops [.box 2 (.t 0),.box 3 (.t 1),.alloc 4 [(.int .i64 0),(.list 1 [])],.aN 5 (.c (.int .i64 0))]) (.seq (.ops [.load 6 (some 2) (.t 2),.load 7 (some 2) (.t 3),.call 8 152 [(.t 6),(.t 7),(.c (.func 153 []))],.ext 9 (.t 8) 0,.ext 10 (.t 8) 1,.store none 2 (.t 4) (.t 9),.aN 5 (.t 10)]) .ret))⟩
def IW:ay:=(.seq (.ops [.bin 14 .lss (.t 13) (.t 12)]) (.seq (.cond (.t 14) .skip (.exit 0)) (.seq (.block 1 (.seq (.ops [.dA 15 1 (.t 11) (.t 13),.load 16 none (.t 15),.aN 7 (.t 16)]) (.ops [.ak 17 (.t 5),.ak 18 (.t 1),.ak 19 (.t 7),.lG 20 (.t 18) [(.t 19)],.iH 21 1 [(.t 20)],.app 22 1 (.t 17) (.t 21),.aN 5 (.t 22)]))) (.ops [.bin 23 .add (.t 13) (.c (.int .i64 1)),.ak 13 (.t 23)]))))
def IX:ay :=
(.clean [0,1,5,10,11,12,13,22] [4,5] (.block 0 (.loop [0,1,5,10,11,12,13,22] IW)))
def Uj:iq:=⟨2,25,[.tmp 4],(.seq (.ops [.aN 4 (.nil 1)]) (.seq (.ops [.ak 8 (.t 0),.len 9 (.t 8),.make 10 (.int .i64 0) (.c (.int .i64 0)) (.t 9),.aN 5 (.t 10)]) (.seq (.seq (.ops [.ak 11 (.t 0),.len 12 (.t 11),.ak 13 (.c (.int .i64 0))])
   IX) (.seq (.ops [.ak 24 (.t 5),.aN 4 (.t 24)]) .ret))))⟩
def Uk:iq:=⟨1,5,[.tmp 2],(.seq (.ops [.aN 2 (.c (.int .i64 0))]) (.seq (.ops [.ak 3 (.t 0),.len 4 (.t 3),.aN 2 (.t 4)]) .ret))⟩
def BR:ay:=(.seq (.ops [.bin 8 .lss (.t 7) (.t 6)]) (.seq (.cond (.t 8) .skip (.exit 0)) (.seq (.block 1 (.seq (.ops [.ak 9 (.t 7),.aN 4 (.t 9)]) (.seq (.AQ [] [] (some ([0,1,2,3,4,5,6,7,8,9,10,11],[],12,[])) [13,14] [.load 10 none (.t 1),.ak 11 (.t 4),.dA 12 8 (.t 10) (.t 11),.load 13 (some 8) (.t 12),.load 14 none (.t 2),.ak 15 (.t 4),.dA 16 8 (.t 14) (.t 15),.load 17 (some 8) (.t 16),.Vz 18 true 8 (.t 13) (.t 17),.ak 19 (.t 18),.grd 19 true (.ak 20 (.t 0)),.grd 19 true (.ak 21 (.t 4)),.grd 19 true (.yield 22 (.t 20) [(.t 21)]),.grd 19 true (.un 23 .not (.t 22)),.pick 24 (.t 19) (.t 23) (.c (.bool false))]) (.cond (.t 24) .ret .skip)))) (.ops [.bin 25 .add (.t 7) (.c (.int .i64 1)),.ak 7 (.t 25)]))))
def IY:ay :=
(.clean [0,1,2,6,7] [] (.block 0 (.loop [0,1,2,6,7] BR)))
def Ul:iq:=⟨3,26,[],(.seq (.ops [.load 5 none (.t 1),.len 6 (.t 5),.ak 7 (.c (.int .i64 0))])
 IY)⟩
def EW:iq:=⟨1,35,[.tmp 2,.tmp 3,.tmp 4],(.seq (.ops [.box 1 (.t 0),.aN 2 (.c (.int .i64 0)),.aN 3 (.c (.int .i64 0)),.aN 4 (.c (.bool false))]) (.seq (.seq (.ops [.aP 7 (.t 1) 1,.load 8 none (.t 7),.bin 9 .leq (.t 8) (.c (.int .i64 0))]) (.cond (.t 9) (.seq (.ops [.aN 2 (.c (.int .i64 0)),.aN 3 (.c (.int .i64 0)),.aN 4 (.c (.bool false))]) .ret) .skip)) (.seq (.ops [.aP 10 (.t 1) 0,.load 11 none (.t 10),.mn 12 true (.t 11) (.c (.int .i64 0)),.aN 5 (.t 12),.aN 6 (.c (.int .i64 4096))]) (.seq (.seq (.ops [.aP 13 (.t 1) 0,.load 14 none (.t 13),.bin 15 .lss (.t 14) (.c (.int .i64 0)),.ak 16 (.t 15),.grd 16 false (.aP 17 (.t 1) 1),.grd 16 false (.load 18 none (.t 17)),.grd 16 false (.aP 19 (.t 1) 0),.grd 16 false (.load 20 none (.t 19)),.grd 16 false (.bin 21 .sub (.c (.int .i64 4096)) (.t 20)),.grd 16 false (.bin 22 .lss (.t 18) (.t 21)),.pick 23 (.t 16) (.c (.bool true)) (.t 22)]) (.cond (.t 23) (.ops [.aP 24 (.t 1) 0,.load 25 none (.t 24),.aP 26 (.t 1) 1,.load 27 none (.t 26),.bin 28 .add (.t 25) (.t 27),.mn 29 false (.t 28) (.c (.int .i64 4096)),.aN 6 (.t 29)]) .skip)) (.seq (.ops [.ak 30 (.t 5),.ak 31 (.t 6),.ak 32 (.t 5),.ak 33 (.t 6),.bin 34 .lss (.t 32) (.t 33),.aN 2 (.t 30),.aN 3 (.t 31),.aN 4 (.t 34)]) .ret)))))⟩
def aez:iq:=⟨2,10,[.tmp 4],(.seq (.ops [.box 2 (.t 0),.box 3 (.t 1),.aN 4 (.c (.int .i64 0))]) (.seq (.ops [.aP 5 (.t 2) 0,.load 6 none (.t 5),.aP 7 (.t 3) 0,.load 8 none (.t 7),.call 9 144 [(.t 6),(.t 8)],.aN 4 (.t 9)]) .ret))⟩
def aeA:iq:=⟨2,20,[.tmp 4],(.seq (.ops [.aN 4 (.c (.int .i64 0))]) (.seq (.ops [.ak 7 (.t 0),.call 8 157 [(.t 7)],.aN 5 (.t 8)]) (.seq (.ops [.ak 9 (.t 1),.call 10 157 [(.t 9)],.aN 6 (.t 10)]) (.seq (.seq (.ops [.ak 11 (.t 5)]) (.cond (.t 11) (.seq (.seq (.ops [.ak 12 (.t 6)]) (.cond (.t 12) (.seq (.ops [.aN 4 (.c (.int .i64 0))]) .ret) .skip)) (.seq (.ops [.aN 4 (.c (.int .i64 (-1)))]) .ret)) .skip)) (.seq (.seq (.ops [.ak 13 (.t 6)]) (.cond (.t 13) (.seq (.ops [.aN 4 (.c (.int .i64 1))]) .ret) .skip)) (.seq (.seq (.ops [.ak 14 (.t 0),.ak 15 (.t 1),.bin 16 .lss (.t 14) (.t 15)]) (.cond (.t 16) (.seq (.ops [.aN 4 (.c (.int .i64 (-1)))]) .ret) .skip)) (.seq (.seq (.ops [.ak 17 (.t 0),.ak 18 (.t 1),.bin 19 .gtr (.t 17) (.t 18)]) (.cond (.t 19) (.seq (.ops [.aN 4 (.c (.int .i64 1))]) .ret) .skip)) (.seq (.ops [.aN 4 (.c (.int .i64 0))]) .ret))))))))⟩
def EX:iq:=⟨2,28,[.tmp 4],(.seq (.ops [.box 2 (.t 0),.aN 4 (.c (.bool false))]) (.seq (.ops [.aP 5 (.t 2) 0,.load 6 none (.t 5),.bin 7 .geq (.t 6) (.c (.int .i64 0)),.ak 8 (.t 7),.grd 8 true (.aP 9 (.t 2) 1),.grd 8 true (.load 10 none (.t 9)),.grd 8 true (.bin 11 .geq (.t 10) (.c (.int .i64 0))),.pick 12 (.t 8) (.t 11) (.c (.bool false)),.ak 13 (.t 12),.grd 13 true (.aP 14 (.t 2) 0),.grd 13 true (.load 15 none (.t 14)),.grd 13 true (.ak 16 (.t 1)),.grd 13 true (.bin 17 .leq (.t 15) (.t 16)),.pick 18 (.t 13) (.t 17) (.c (.bool false)),.ak 19 (.t 18),.grd 19 true (.aP 20 (.t 2) 1),.grd 19 true (.load 21 none (.t 20)),.grd 19 true (.ak 22 (.t 1)),.grd 19 true (.aP 23 (.t 2) 0),.grd 19 true (.load 24 none (.t 23)),.grd 19 true (.bin 25 .sub (.t 22) (.t 24)),.grd 19 true (.bin 26 .leq (.t 21) (.t 25)),.pick 27 (.t 19) (.t 26) (.c (.bool false)),.aN 4 (.t 27)]) .ret))⟩
def YI:iq:=⟨1,8,[.tmp 2],(.seq (.ops [.aN 2 (.nil 1)]) (.seq (.seq (.ops [.ak 3 (.t 0),.Yn 4 false (.t 3)]) (.cond (.t 4) (.seq (.ops [.aN 2 (.nil 1)]) .ret) .skip)) (.seq (.ops [.iH 5 1 [],.ak 6 (.t 0),.app 7 1 (.t 5) (.t 6),.aN 2 (.t 7)]) .ret)))⟩
def MN:iq:=⟨3,27,[.tmp 6],(.seq (.ops [.aN 6 (.c (.int .u64 0))]) (.seq (.ops [.ak 7 (.t 1),.ak 8 (.t 0),.bin 9 .mul (.t 8) (.c (.int .i64 64)),.bin 10 .sub (.t 7) (.t 9),.mn 11 true (.t 10) (.c (.int .i64 0)),.ak 12 (.t 2),.ak 13 (.t 0),.bin 14 .mul (.t 13) (.c (.int .i64 64)),.bin 15 .sub (.t 12) (.t 14),.mn 16 false (.t 15) (.c (.int .i64 64)),.aN 1 (.t 11),.aN 2 (.t 16)]) (.seq (.seq (.ops [.ak 17 (.t 1),.ak 18 (.t 2),.bin 19 .geq (.t 17) (.t 18)]) (.cond (.t 19) (.seq (.ops [.aN 6 (.c (.int .u64 0))]) .ret) .skip)) (.seq (.ops [.ak 20 (.t 2),.ak 21 (.t 1),.bin 22 .sub (.t 20) (.t 21),.bin 23 .sub (.c (.int .i64 64)) (.t 22),.bin 24 .shr (.c (.int .u64 18446744073709551615)) (.t 23),.ak 25 (.t 1),.bin 26 .shl (.t 24) (.t 25),.aN 6 (.t 26)]) .ret))))⟩
def Um:iq:=⟨1,9,[.tmp 2],(.seq (.ops [.aN 2 (.c (.bool false))]) (.seq (.ops [.ak 3 (.t 0),.bin 4 .lss (.t 3) (.c (.int .i64 1)),.ak 5 (.t 4),.grd 5 false (.ak 6 (.t 0)),.grd 5 false (.bin 7 .gtr (.t 6) (.c (.int .i64 4096))),.pick 8 (.t 5) (.c (.bool true)) (.t 7),.aN 2 (.t 8)]) .ret))⟩
def IZ:ay:=(.seq (.seq (.ops [.ak 24 (.t 5),.bin 25 .neq (.t 24) (.c (.int .u64 0))]) (.cond (.t 25) .skip (.exit 2))) (.block 3 (.seq (.seq (.ops [.ak 26 (.t 0),.ak 27 (.t 4),.bin 28 .mul (.t 27) (.c (.int .i64 64)),.ak 29 (.t 5),.call 30 150 [(.t 29)],.bin 31 .add (.t 28) (.t 30),.yield 32 (.t 26) [(.t 31)],.un 33 .not (.t 32)]) (.cond (.t 33) .ret .skip)) (.ops [.ak 34 (.t 5),.ak 35 (.t 5),.bin 36 .sub (.t 35) (.c (.int .u64 1)),.bin 37 .and (.t 34) (.t 36),.aN 5 (.t 37)]))))
def I4:ay :=
(.clean [0,1,2,4,5,10,11,12] [0,1,2,10,11,12] (.block 2 (.loop [0,1,2,4,5,10,11,12] IZ)))
def I5:ay:=(.seq (.ops [.bin 13 .lss (.t 12) (.t 11)]) (.seq (.cond (.t 13) .skip (.exit 0)) (.seq (.block 1 (.seq (.ops [.ak 14 (.t 12),.dA 15 1 (.t 10) (.t 12),.load 16 none (.t 15),.aN 4 (.t 14),.aN 5 (.t 16)]) (.seq (.ops [.ak 17 (.t 5),.ak 18 (.t 4),.load 19 none (.t 2),.aP 20 (.t 1) 0,.load 21 none (.t 20),.call 22 147 [(.t 18),(.t 19),(.t 21)],.bin 23 .and (.t 17) (.t 22),.aN 5 (.t 23)])
    I4))) (.ops [.bin 38 .add (.t 12) (.c (.int .i64 1)),.ak 12 (.t 38)]))))
def I7:ay :=
(.clean [0,1,2,10,11,12] [] (.block 0 (.loop [0,1,2,10,11,12] I5)))
def Un:iq:=⟨3,39,[],(.seq (.seq (.ops [.load 6 (some 2) (.t 1),.call 7 90 [(.t 6)],.bin 8 .neq (.t 7) (.c (.int .i64 0))]) (.cond (.t 8) .ret .skip)) (.seq (.ops [.aP 9 (.t 1) 1,.load 10 none (.t 9),.len 11 (.t 10),.ak 12 (.c (.int .i64 0))])
  I7))⟩
def I8:ay:=(.seq (.ops [.bin 9 .lss (.t 8) (.t 7)]) (.seq (.cond (.t 9) .skip (.exit 0)) (.seq (.block 1 (.seq (.ops [.ak 10 (.t 8),.aN 5 (.t 10)]) (.seq (.ops [.ak 11 (.t 1),.ak 12 (.t 0),.ak 13 (.t 5),.dA 14 1 (.t 12) (.t 13),.load 15 none (.t 14),.lG 16 (.t 11) [(.t 15)]]) (.cond (.t 16) (.seq (.ops [.ak 17 (.t 5),.aN 4 (.t 17)]) .ret) .skip)))) (.ops [.bin 18 .add (.t 8) (.c (.int .i64 1)),.ak 8 (.t 18)]))))
def I9:ay :=
(.clean [0,1,7,8] [4] (.block 0 (.loop [0,1,7,8] I8)))
def Uo:iq:=⟨2,19,[.tmp 4],(.seq (.ops [.aN 4 (.c (.int .i64 0))]) (.seq (.seq (.ops [.ak 6 (.t 0),.len 7 (.t 6),.ak 8 (.c (.int .i64 0))])
  I9) (.seq (.ops [.aN 4 (.c (.int .i64 (-1)))]) .ret)))⟩
def Ja:ay:=(.seq (.ops [.bin 37 .lss (.t 36) (.t 35)]) (.seq (.cond (.t 37) .skip (.exit 0)) (.seq (.block 1 (.seq (.ops [.ak 38 (.t 36),.aN 11 (.t 38)]) (.AQ [] [([0,1,2,3,4,5,6,7,8,9,10,11,12],13)] (some ([14],[],15,[])) [] [.ak 39 (.t 10),.ak 40 (.t 11),.ak 41 (.t 2),.aP 42 (.t 3) 1,.load 43 none (.t 42),.ak 44 (.t 11),.dA 45 1 (.t 43) (.t 44),.load 46 none (.t 45),.aP 47 (.t 4) 1,.load 48 none (.t 47),.ak 49 (.t 11),.dA 50 1 (.t 48) (.t 49),.load 51 none (.t 50),.lG 52 (.t 41) [(.t 46),(.t 51)],.dA 53 1 (.t 39) (.t 40),.store none 1 (.t 53) (.t 52)]))) (.ops [.bin 54 .add (.t 36) (.c (.int .i64 1)),.ak 36 (.t 54)]))))
def Jb:ay :=
(.clean [2,3,4,6,10,33,35,36] [3,6,7,10] (.block 0 (.loop [2,3,4,6,10,33,35,36] Ja)))
def EY:iq:=⟨3,59,[.cell 6 (some 2),.tmp 7],(.seq (.ops [.box 3 (.t 0),.box 4 (.t 1),.alloc 6 [(.int .i64 0),(.list 1 [])],.aN 7 (.c (.int .i64 0))]) (.seq (.seq (.ops [.load 12 (some 2) (.t 3),.call 13 90 [(.t 12)],.aN 8 (.t 13)]) (.seq (.ops [.ak 14 (.t 8),.bin 15 .neq (.t 14) (.c (.int .i64 0))]) (.cond (.t 15) (.seq (.ops [.build 16 [(.int .i64 0),(.list 1 [])] [],.ak 17 (.t 8),.store none 2 (.t 6) (.t 16),.aN 7 (.t 17)]) .ret) .skip))) (.seq (.seq (.ops [.load 18 (some 2) (.t 4),.call 19 90 [(.t 18)],.aN 9 (.t 19)]) (.seq (.ops [.ak 20 (.t 9),.bin 21 .neq (.t 20) (.c (.int .i64 0))]) (.cond (.t 21) (.seq (.ops [.build 22 [(.int .i64 0),(.list 1 [])] [],.ak 23 (.t 9),.store none 2 (.t 6) (.t 22),.aN 7 (.t 23)]) .ret) .skip))) (.seq (.seq (.ops [.aP 24 (.t 3) 0,.load 25 none (.t 24),.aP 26 (.t 4) 0,.load 27 none (.t 26),.bin 28 .neq (.t 25) (.t 27)]) (.cond (.t 28) (.seq (.ops [.build 29 [(.int .i64 0),(.list 1 [])] [],.store none 2 (.t 6) (.t 29),.aN 7 (.c (.int .i64 22))]) .ret) .skip)) (.seq (.ops [.aP 30 (.t 3) 1,.load 31 none (.t 30),.len 32 (.t 31),.make 33 (.int .u64 0) (.t 32) (.t 32),.aN 10 (.t 33)]) (.seq (.seq (.ops [.ak 34 (.t 10),.len 35 (.t 34),.ak 36 (.c (.int .i64 0))])
    Jb) (.seq (.ops [.aP 55 (.t 3) 0,.load 56 none (.t 55),.ak 57 (.t 10),.build 58 [(.int .i64 0),(.list 1 [])] [(0,1,(.t 56)),(1,1,(.t 57))],.store none 2 (.t 6) (.t 58),.aN 7 (.c (.int .i64 0))]) .ret)))))))⟩
def Ur:iq:=⟨2,8,[.tmp 4],(.seq (.ops [.aN 4 (.c (.int .u64 0))]) (.seq (.ops [.ak 5 (.t 0),.ak 6 (.t 1),.bin 7 .or (.t 5) (.t 6),.aN 4 (.t 7)]) .ret))⟩
def aeB:iq:=⟨1,6,[.tmp 2],(.seq (.ops [.aN 2 (.c (.bool false))]) (.seq (.ops [.ak 3 (.t 0),.ak 4 (.t 0),.bin 5 .neq (.t 3) (.t 4),.aN 2 (.t 5)]) .ret))⟩
def tab:List (Nat×acf):=[(11,.code ad3),(12,.dfn DV),(15,.dfn FH),(17,.code aaY),(20,.code ad4),(22,.code XD),(24,.dfn FI),(27,.code alo),(30,.code aaZ),(33,.code ad5),(34,.code ad6),(35,.code XE),(36,.code ad7),(37,.code ad8),(38,.ext wF),(39,.code ad9),(40,.code aea),(41,.code aeb),(42,.code aec),(43,.code alp),(44,.code aed),(45,.code alq),(46,.code alr),(48,.code vw),(49,.code XF),(50,.code Pn),(51,.nJ wG),(52,.code aa0),(53,.code aee),(54,.code TG),(62,.code als),(65,.code aef),(66,.code aeg),(68,.code alu),(69,.code aeh),(70,.code aa1),(71,.code XG),(75,.code alv),(76,.code aei),(77,.code aej),(78,.code aek),(79,.code ael),(81,.code aem),(82,.code aen),(83,.code XH),(84,.code aeo),(85,.code aep),(86,.code aer),(87,.code aes),(89,.code aa2),(90,.code KQ),(91,.code aeu),(92,.code aev),(93,.code aew),(94,.code aex),(95,.ext (uI 8)),(96,.code aa3),(97,.code aa4),(98,.code XI),(99,.code aey),(111,.code TI),(112,.code TJ),(115,.code TK),(116,.code TL),(117,.code TM),(118,.code TQ),(119,.code TS),(120,.code TU),(121,.code TV),(122,.code TW),(123,.code IL),(124,.code TY),(126,.code Ua),(127,.code Ub),(128,.code Uc),(129,.code Ud),(130,.code Ue),(131,.code Uf),(132,.code Ug),(133,.code Uh),(135,.code ML),(136,.code Ui),(138,.code Uj),(139,.code Uk),(140,.code Ul),(141,.code EW),(142,.Kv (mZ 143)),(143,.code aez),(144,.code aeA),(145,.code EX),(146,.ext (uI 1)),(147,.code MN),(148,.code Um),(149,.code Un),(150,.ext tzX),(151,.code Uo),(152,.code EY),(153,.code Ur),(157,.code aeB)]
def env:Env:=fun f=>tab.lookup f
theorem aoy:env 11=some (.code ad3):=rfl
theorem aoz:env 12=some (.dfn DV):=rfl
theorem aoA:env 15=some (.dfn FH):=rfl
theorem aj6:env 17=some (.code aaY):=rfl
theorem aoB:env 20=some (.code ad4):=rfl
theorem aeC:env 22=some (.code XD):=rfl
theorem aoC:env 24=some (.dfn FI):=rfl
theorem aj7:env 30=some (.code aaZ):=rfl
theorem aoD:env 33=some (.code ad5):=rfl
theorem aoE:env 34=some (.code ad6):=rfl
theorem aeD:env 35=some (.code XE):=rfl
theorem aoF:env 36=some (.code ad7):=rfl
theorem aoG:env 37=some (.code ad8):=rfl
theorem aoH:env 38=some (.ext wF):=rfl
theorem aoI:env 39=some (.code ad9):=rfl
theorem aoJ:env 40=some (.code aea):=rfl
theorem aoK:env 41=some (.code aeb):=rfl
theorem aoL:env 42=some (.code aec):=rfl
theorem aoM:env 44=some (.code aed):=rfl
theorem qI:env 48=some (.code vw):=rfl
theorem aeE:env 49=some (.code XF):=rfl
theorem Us:env 50=some (.code Pn):=rfl
theorem aeF:env 51=some (.nJ wG):=rfl
theorem aj8:env 52=some (.code aa0):=rfl
theorem aoN:env 53=some (.code aee):=rfl
theorem YJ:env 54=some (.code TG):=rfl
theorem aoO:env 65=some (.code aef):=rfl
theorem aoP:env 66=some (.code aeg):=rfl
theorem aoQ:env 69=some (.code aeh):=rfl
theorem aj9:env 70=some (.code aa1):=rfl
theorem aeG:env 71=some (.code XG):=rfl
theorem aoR:env 76=some (.code aei):=rfl
theorem aoS:env 77=some (.code aej):=rfl
theorem aoT:env 78=some (.code aek):=rfl
theorem aoU:env 79=some (.code ael):=rfl
theorem aoV:env 81=some (.code aem):=rfl
theorem aoW:env 82=some (.code aen):=rfl
theorem aeH:env 83=some (.code XH):=rfl
theorem aoX:env 84=some (.code aeo):=rfl
theorem aoY:env 85=some (.code aep):=rfl
theorem aoZ:env 86=some (.code aer):=rfl
theorem ao0:env 87=some (.code aes):=rfl
theorem akb:env 89=some (.code aa2):=rfl
theorem MO:env 90=some (.code KQ):=rfl
theorem ao1:env 91=some (.code aeu):=rfl
theorem ao2:env 92=some (.code aev):=rfl
theorem ao3:env 93=some (.code aew):=rfl
theorem ao4:env 94=some (.code aex):=rfl
theorem ao5:env 95=some (.ext (uI 8)):=rfl
theorem akc:env 96=some (.code aa3):=rfl
theorem akd:env 97=some (.code aa4):=rfl
theorem aeI:env 98=some (.code XI):=rfl
theorem ao6:env 99=some (.code aey):=rfl
theorem alx:env 111=some (.code TI):=rfl
theorem aly:env 112=some (.code TJ):=rfl
theorem alz:env 115=some (.code TK):=rfl
theorem alA:env 116=some (.code TL):=rfl
theorem alB:env 117=some (.code TM):=rfl
theorem alC:env 118=some (.code TQ):=rfl
theorem alD:env 119=some (.code TS):=rfl
theorem alE:env 120=some (.code TU):=rfl
theorem alF:env 121=some (.code TV):=rfl
theorem alG:env 122=some (.code TW):=rfl
theorem XJ:env 123=some (.code IL):=rfl
theorem alH:env 124=some (.code TY):=rfl
theorem alI:env 126=some (.code Ua):=rfl
theorem alJ:env 127=some (.code Ub):=rfl
theorem alK:env 128=some (.code Uc):=rfl
theorem alL:env 129=some (.code Ud):=rfl
theorem alM:env 130=some (.code Ue):=rfl
theorem alN:env 131=some (.code Uf):=rfl
theorem alO:env 132=some (.code Ug):=rfl
theorem alP:env 133=some (.code Uh):=rfl
theorem aeJ:env 135=some (.code ML):=rfl
theorem alQ:env 136=some (.code Ui):=rfl
theorem alR:env 138=some (.code Uj):=rfl
theorem alS:env 139=some (.code Uk):=rfl
theorem alT:env 140=some (.code Ul):=rfl
theorem PX:env 141=some (.code EW):=rfl
theorem aeK:env 142=some (.Kv (mZ 143)):=rfl
theorem PY:env 145=some (.code EX):=rfl
theorem alU:env 146=some (.ext (uI 1)):=rfl
theorem aeL:env 147=some (.code MN):=rfl
theorem alV:env 148=some (.code Um):=rfl
theorem alW:env 149=some (.code Un):=rfl
theorem alX:env 150=some (.ext tzX):=rfl
theorem alY:env 151=some (.code Uo):=rfl
theorem PZ:env 152=some (.code EY):=rfl
theorem alZ:env 153=some (.code Ur):=rfl
end Go.Proofs.YtioijcfcehhmdaaGreatDoor
namespace Go.Proofs.YtioijcfcehhmdaaGreatDoor
open V
def oW:=(Zs (Zs (Zs (Zs (Zs (Zs (Zs (Zs (Zs @SQ @adh) (Zs @adi @ahK)) (Zs (Zs @SS @SV) (Zs @adg @Ov))) (Zs (Zs (Zs @adp @ahE) (Zs @WO @WQ)) (Zs (Zs @SI @SK) (Zs @ahF @Ou)))) (Zs (Zs (Zs (Zs @SL @aae) (Zs @aaf @bK)) (Zs (Zs @ZcY.{0,0} @List.foldl_cons.{0,0}) (Zs @ahB @ahC))) (Zs (Zs (Zs @ahG @ahH) (Zs @ada @MF)) (Zs (Zs @ade @ahI) (Zs @SN @aah))))) (Zs (Zs (Zs (Zs (Zs @adf @FB) (Zs @Ox @KO)) (Zs (Zs @S9 @adq) (Zs @aai @WS))) (Zs (Zs (Zs @ahL @WM) (Zs @ES @Td)) (Zs (Zs @WW @Tf) (Zs @WX @fV.eq_1)))) (Zs (Zs (Zs (Zs @fV.eq_2 @fV.eq_3) (Zs @resultList.eq_1 @resultList.eq_2)) (Zs (Zs @pU.eq_1 @pU.eq_2) (Zs @pU.eq_3 @zBV.eq_1))) (Zs (Zs (Zs @zBV.eq_2 @splice.eq_1) (Zs @PV.xG.eq_1 @PV.xG.eq_2)) (Zs (Zs @PV.xG.eq_3 @PV.xG.eq_4) (Zs @St.jh.eq_1 (Zs @St.bD.eq_1 @St.gB.eq_1))))))) (Zs (Zs (Zs (Zs (Zs (Zs @St.gB.eq_2 @PV.single.eq_1) (Zs @PV.single.eq_2 @ads)) (Zs (Zs @aal @ahV) (Zs @adt @adu))) (Zs (Zs (Zs @aan @adv) (Zs @aao @ahX)) (Zs (Zs @adx @ahY) (Zs @ady @adz)))) (Zs (Zs (Zs (Zs @ahZ @ah0) (Zs @ah1 @ah2)) (Zs (Zs @ah3 @bK) (Zs @ah4 @bK))) (Zs (Zs (Zs @bK @bK) (Zs @bK @bK)) (Zs (Zs @aib @ah9) (Zs @ah7 (Zs @ah5 @bK)))))) (Zs (Zs (Zs (Zs (Zs @bK @bK) (Zs @alh @adA)) (Zs (Zs @adB @adC) (Zs @adD @adE))) (Zs (Zs (Zs @bK @bK) (Zs @aif @aii)) (Zs (Zs @bK @aij) (Zs @aap @ali)))) (Zs (Zs (Zs (Zs @aik @aaq) (Zs @ail @aar)) (Zs (Zs @adF @adG) (Zs @ain @aio))) (Zs (Zs (Zs @bK @bK) (Zs @bK @bK)) (Zs (Zs @bK @bK) (Zs @bK (Zs @aas @aip)))))))) (Zs (Zs (Zs (Zs (Zs (Zs (Zs @aiq @air) (Zs @ais @ait)) (Zs (Zs @bK @aie) (Zs @bK @bK))) (Zs (Zs (Zs @bK @bK) (Zs @bK @aic)) (Zs (Zs @aia @ah8) (Zs @ah6 @bK)))) (Zs (Zs (Zs (Zs @bK @bK) (Zs @alj @adH)) (Zs (Zs @adI @adJ) (Zs @adK @adL))) (Zs (Zs (Zs @bK @bK) (Zs @aiu @aiv)) (Zs (Zs @bK @aiw) (Zs @aat (Zs @alk @aix)))))) (Zs (Zs (Zs (Zs (Zs @aau @aiy) (Zs @aav @adM)) (Zs (Zs @adN @aiz) (Zs @aiA @bK))) (Zs (Zs (Zs @bK @bK) (Zs @bK @bK)) (Zs (Zs @bK @bK) (Zs @aaw @plain.eq_1)))) (Zs (Zs (Zs (Zs @plain.eq_2 @plain.eq_3) (Zs @plain.eq_4 @plain.eq_5)) (Zs (Zs @plain.eq_6 @plain.eq_7) (Zs @plain.eq_8 @plain.eq_9))) (Zs (Zs (Zs @plain.eq_10 @plain.eq_11) (Zs @plain.eq_12 @plain.eq_13)) (Zs (Zs @plain.eq_14 @plain.eq_15) (Zs @plain.eq_16 (Zs @plain.eq_17 @plain.eq_18))))))) (Zs (Zs (Zs (Zs (Zs (Zs @plain.eq_19 @plain.eq_20) (Zs @plain.eq_21 @plain.eq_22)) (Zs (Zs @plain.eq_23 @plain.eq_24) (Zs @plain.eq_25 @plain.eq_26))) (Zs (Zs (Zs @plain.eq_27 @plain.eq_28) (Zs @plain.eq_29 @plain.eq_30)) (Zs (Zs @plain.eq_31 @plain.eq_32) (Zs @plain.eq_33 @plain.eq_34)))) (Zs (Zs (Zs (Zs @plain.eq_35 @act.eq_1) (Zs @act.eq_2 @act.eq_3)) (Zs (Zs @act.eq_4 @act.eq_5) (Zs @act.eq_6 @act.eq_7))) (Zs (Zs (Zs @act.eq_8 @act.eq_9) (Zs @act.eq_10 @act.eq_11)) (Zs (Zs @act.eq_12 @act.eq_13) (Zs @act.eq_14 (Zs @act.eq_15 @act.eq_16)))))) (Zs (Zs (Zs (Zs (Zs @act.eq_17 @act.eq_18) (Zs @act.eq_19 @act.eq_20)) (Zs (Zs @act.eq_21 @act.eq_22) (Zs @act.eq_23 @bZ.eq_1))) (Zs (Zs (Zs @bZ.eq_2 @bZ.eq_3) (Zs @bZ.eq_4 @bZ.eq_5)) (Zs (Zs @bZ.eq_6 @bZ.eq_7) (Zs @bZ.eq_8 @bZ.eq_9)))) (Zs (Zs (Zs (Zs @bZ.eq_10 @bZ.eq_11) (Zs @bZ.eq_12 @bZ.eq_13)) (Zs (Zs @bZ.eq_14 @bZ.eq_15) (Zs @bZ.eq_16 @bZ.eq_17))) (Zs (Zs (Zs @bZ.eq_18 @bZ.eq_19) (Zs @bZ.eq_20 @bZ.eq_21)) (Zs (Zs @bZ.eq_22 @bZ.eq_23) (Zs @bZ.eq_24 (Zs @bZ.eq_25 @bZ.eq_26))))))))) (Zs (Zs (Zs (Zs (Zs (Zs (Zs (Zs @bZ.eq_27 @bZ.eq_28) (Zs @bZ.eq_29 @bZ.eq_30)) (Zs (Zs @bZ.eq_31 @bZ.eq_32) (Zs @bZ.eq_33 @bZ.eq_34))) (Zs (Zs (Zs @bZ.eq_35 @bZ.eq_36) (Zs @bZ.eq_37 @bZ.eq_38)) (Zs (Zs @bZ.eq_39 @bZ.eq_40) (Zs @bZ.eq_41 @bZ.eq_42)))) (Zs (Zs (Zs (Zs @bZ.eq_43 @bZ.eq_44) (Zs @bZ.eq_45 @bZ.eq_46)) (Zs (Zs @bZ.eq_47 @bZ.eq_48) (Zs @bZ.eq_49 @bZ.eq_50))) (Zs (Zs (Zs @bZ.eq_51 @bZ.eq_52) (Zs @bZ.eq_53 @bZ.eq_54)) (Zs (Zs @bZ.eq_55 @zg) (Zs @if_true.{1} @if_false.{1}))))) (Zs (Zs (Zs (Zs (Zs @WY @Tj) (Zs @St.get.eq_1 @St.get.eq_2)) (Zs (Zs @St.get.eq_3 @St.put.eq_1) (Zs @St.dG.eq_1 @St.putRow.eq_1))) (Zs (Zs (Zs @St.consume.eq_1 @St.consume.eq_2) (Zs @St.consume.eq_3 @St.freeze.eq_1)) (Zs (Zs @St.row.eq_1 @St.row.eq_2) (Zs @St.row.eq_3 @St.elems.eq_1)))) (Zs (Zs (Zs (Zs @St.grab.eq_1 @St.grab.eq_2) (Zs @St.grab.eq_3 @tC.eq_1)) (Zs (Zs @tC.eq_2 @tC.eq_3) (Zs @tC.eq_4 @Zy.eq_1))) (Zs (Zs (Zs @Zy.eq_2 @kS.eq_1) (Zs @kS.eq_2 @kS.eq_3)) (Zs (Zs @kS.eq_4 @St.takeRow.eq_1) (Zs @St.takeRow.eq_2 (Zs @St.takeRow.eq_3 @St.setRow.eq_1))))))) (Zs (Zs (Zs (Zs (Zs (Zs @St.setRow.eq_2 @St.setRow.eq_3) (Zs @St.place.eq_1 @St.place.eq_2)) (Zs (Zs @St.zH.eq_1 @St.zH.eq_2) (Zs @St.setCell.eq_1 @St.kR.eq_1))) (Zs (Zs (Zs @EF.eq_1 @EF.eq_2) (Zs @EF.eq_3 @EF.eq_4)) (Zs (Zs @GV.eq_1 @GV.eq_2) (Zs @GV.eq_3 @GV.eq_4)))) (Zs (Zs (Zs (Zs @iw.eq_1 @iw.eq_2) (Zs @iw.eq_3 @iw.eq_4)) (Zs (Zs @iw.eq_5 @iw.eq_6) (Zs @iw.eq_7 @iw.eq_8))) (Zs (Zs (Zs @iw.eq_9 @iw.eq_10) (Zs @iw.eq_11 @iw.eq_12)) (Zs (Zs @iw.eq_13 @iw.eq_14) (Zs @iw.eq_15 (Zs @iw.eq_16 @iw.eq_17)))))) (Zs (Zs (Zs (Zs (Zs @Zx.eq_1 @Zx.eq_2) (Zs @Zx.eq_3 @Zx.eq_4)) (Zs (Zs @BV.val.eq_1 @BV.val.eq_2) (Zs @BV.av.eq_1 @BV.av.eq_2))) (Zs (Zs (Zs @aaP @Xv) (Zs @aaQ @Xw)) (Zs (Zs @cells_func @aaR) (Zs @Ip @DT)))) (Zs (Zs (Zs (Zs @DU @adO) (Zs @aax @aay)) (Zs (Zs @Xf @adP) (Zs @aaA @aaz))) (Zs (Zs (Zs @adQ @aaB) (Zs @Xg @Xh)) (Zs (Zs @Xi @Xj) (Zs @adR (Zs @aaC @aaD)))))))) (Zs (Zs (Zs (Zs (Zs (Zs (Zs @Xk @adS) (Zs @aaF @aaE)) (Zs (Zs @adT @aaG) (Zs @Xm @Xl))) (Zs (Zs (Zs @Xo @Xn) (Zs @adU @aaH)) (Zs (Zs @aaI @Xp) (Zs @adV @aaK)))) (Zs (Zs (Zs (Zs @aaJ @adW) (Zs @aaL @Xr)) (Zs (Zs @Xq @Xu) (Zs @Xt @bound.eq_1))) (Zs (Zs (Zs @bound.eq_2 @bound.eq_3) (Zs @fC.eq_1 @fC.eq_2)) (Zs (Zs @iV.eq_1 @iV.eq_2) (Zs @zO.eq_1 (Zs @zO.eq_2 @capOf.eq_1)))))) (Zs (Zs (Zs (Zs (Zs @MH @alg) (Zs @aJ @aT)) (Zs (Zs @aH @aS) (Zs @List.append_nil.{0} @aQ))) (Zs (Zs (Zs @aI @Zan) (Zs @Nat.add_zero @Tv)) (Zs (Zs @Tt @Tm) (Zs @tZ @decide_true)))) (Zs (Zs (Zs (Zs @decide_false @Bool.not_true) (Zs @Bool.not_false @Bool.true_eq_false)) (Zs (Zs @beq_self_eq_true.{0} @zm) (Zs @Bool.and_true @Za8))) (Zs (Zs (Zs @Bool.and_false @Zdg) (Zs @Zcg @ZcC)) (Zs (Zs @Bool.or_true @aou) (Zs @aov (Zs @MC @aad))))))) (Zs (Zs (Zs (Zs (Zs (Zs @Z2.{0,0} @TA) (Zs @adr @TB)) (Zs (Zs @WZ @ahT) (Zs @W9 @Xa))) (Zs (Zs (Zs @ahU @Xb) (Zs @dcall.eq_1 @DN.eq_1)) (Zs (Zs @ahW.eq_1 @TF.eq_1) (Zs @MJ.eq_1 @OA.eq_1)))) (Zs (Zs (Zs (Zs @vO.eq_1 @pq.eq_1) (Zs @pq.eq_2 @pq.eq_3)) (Zs (Zs @WT @WU) (Zs @WV @ahN))) (Zs (Zs (Zs @ahO @ahP) (Zs @ahQ @ahR)) (Zs (Zs @ahS @SX) (Zs @adn (Zs @FC @Ij)))))) (Zs (Zs (Zs (Zs (Zs @Zcs.{0,0,0} @Xc) (Zs @St.kD.eq_1 @St.kD.eq_2)) (Zs (Zs @St.snap.eq_1 @St.snap.eq_2) (Zs @St.snap.eq_3 @St.snap.eq_4))) (Zs (Zs (Zs @St.snap.eq_5 @St.snap.eq_6) (Zs @Xd @aaj)) (Zs (Zs @Xe @aak) (Zs @adX @aaM)))) (Zs (Zs (Zs (Zs @adY @aaN) (Zs @aaO @St.layAll.eq_1)) (Zs (Zs @St.layAll.eq_2 @St.lay.eq_1) (Zs @St.lay.eq_2 @St.lay.eq_3))) (Zs (Zs (Zs @Oz @TD) (Zs @St.dh.eq_1 @St.bI.eq_1)) (Zs (Zs @St.bI.eq_2 @St.bI.eq_3) (Zs @St.bI.eq_4 (Zs @St.bI.eq_5 @St.bI.eq_6))))))))))
def aeM:=(Zs (Zs (Zs (Zs @List.isEmpty_nil.{0} (Zs @ahA @WL)) (Zs @MB (Zs @Z9 @aac))) (Zs (Zs @WJ (Zs @Zb9 @BL)) (Zs @ze (Zs @St.bH.eq_1 @BV.frozen.eq_1)))) (Zs (Zs (Zs @BV.frozen.eq_2 (Zs @ZaI.{0} @Zbc.{0})) (Zs @aB (Zs @Int.toNat_zero @true_and))) (Zs (Zs @and_true (Zs @and_self @eq_self.{1})) (Zs @tZ (Zs @List.drop_nil.{0} @ZdC.{0})))))
def bJ:=(Zs (Zs @ZaM (Zs @ZaQ.{0} @ZdC.{0})) (Zs (Zs @List.take_succ_cons.{0} @za.{0}) (Zs @List.length_nil.{0} @ze)))
def bg:=Zs @aeM @oW
end Go.Proofs.YtioijcfcehhmdaaGreatDoor
namespace Go.Proofs.YtioijcfcehhmdaaGreatDoor.V
theorem XK:qh Ig=[.int .u8 0,.int .u8 0,.int .u8 0,.int .u8 0,.int .u8 0,.int .u8 0,.int .u8 0,.int .u8 0]:=rfl
theorem BU (x:fE):part (qh x) 0 (some 8)=some (.agg (qh x)):=by
 simp only [part,iP,Zan,Za5]
 rw [if_pos (ze _),Zbm (by rw [iP];exact ze _)]
theorem Jc:∀ a b:List UInt8,a.length=b.length→ji (a.map fun b=>.int .u8 (b.toNat:Int)) (b.map fun b=>.int .u8 (b.toNat:Int))=some (decide (a=b))
 |[],[],_=>rfl
 |x::a,y::b,h=>by
  simp only [za,Nat.add_right_cancel_iff] at h
  simp only [Zaj,ji,if_pos,Jc a b h,Option.map_some,ZcH.injEq]
  congr 1
  have:((x.toNat:Int)==(y.toNat:Int))=decide (x=y):=by
   by_cases e:x=y
   ·subst e;simp
   ·have:¬ x.toNat=y.toNat:=fun h=>e (UInt8.toNat_inj.1 h)
    simp [e];omega
  rw [this,Zdo]
 |[],_::_,h=>by simp at h
 |_::_,[],h=>by simp at h
theorem uh (a b:fE):ji (qh a) (qh b)=some (decide (a=b)):=by
 unfold qh
 rw [Jc _ _ (by simp)]
 congr 1
 apply decide_eq_decide.2
 exact ⟨fun h=>Vector.toList_inj.1 h,fun h=>by rw [h]⟩
def aiG {α:Type}(p:α→Bool)(l:List α):Int:=if l.any p then (l.findIdx p:Int) else -1
theorem Ut {α:Type}(p:α→Bool)(l:List α):decide (aiG p l ≥ 0)=l.any p:=by
 unfold aiG
 cases l.any p
 ·rfl
 ·simp only [if_true];exact decide_eq_true (by omega)
def eqF {α β:Type}(eq:α→β→Bool)(l:List α)(m:List β):Bool:=decide (l.length=m.length)&&(l.zip m).all fun q=>eq q.1 q.2
--+
theorem aiH {α:Type}{enc:α→PV}{l:List α}{p:α→Bool}{gf:Nat}{caps:List PV}(hp:∀ x∈l,cal env gf (enc x::caps)=some [(.bool (p x),false)])(hs:∀ x,part (enc x).cells 0 none=some (enc x))(hl:l.length≤lim)
  {st:St} (h:st.head [0,1,7,8] st.boxes.length=some ⟨[.pv (.list 1 (l.map enc)),.pv (.func gf caps),.any,.any,.any,.any,.any,.pv (.int .i64 l.length),.pv (.int .i64 (0:Nat)),.any,.any,.any,.any,.any,.any,.any,.any,.any,.any],[],[],none⟩) :
  den env I9 st=if l.any p then some (.ret,⟨[.any,.any,.any,.any,.pv (.int .i64 (l.findIdx p)),.any,.any,.any,.any,.any,.any,.any,.any,.any,.any,.any,.any,.any,.any],[],[],none⟩) else some (.normal,⟨[.any,.any,.any,.any,.any,.any,.any,.any,.any,.any,.any,.any,.any,.any,.any,.any,.any,.any,.any],[],[],none⟩):=by
 unfold I9
 rw [bM l.length (fun i=>⟨[.pv (.list 1 (l.map enc)),.pv (.func gf caps),.any,.any,.any,.any,.any,.pv (.int .i64 l.length),.pv (.int .i64 i),.any,.any,.any,.any,.any,.any,.any,.any,.any,.any],[],[],none⟩)
  (fun i=>if (l.drop i).any p then some (.ret,⟨[.any,.any,.any,.any,.pv (.int .i64 ((i+(l.drop i).findIdx p:Nat):Int)),.any,.any,.any,.any,.any,.any,.any,.any,.any,.any,.any,.any,.any,.any],[],[],none⟩) else some (.normal,⟨[.any,.any,.any,.any,.any,.any,.any,.any,.any,.any,.any,.any,.any,.any,.any,.any,.any,.any,.any],[],[],none⟩)) h (fun _=>rfl) (fun _=>rfl) ?_ ?_]
 ·simp only [Za5,Zan]
 ·intro i rb hi ih
  have hi1:=bF hi hl
  have F1:((i:Int)<(l.length:Int))=True:=eq_true (by omega)
  simp only [I8,F1,Z2,au hi,zb,ZS hi,hp _ (zR hi),hs,oW,reduceCtorEq,Nat.reduceEqDiff,Nat.reduceAdd,Nat.reduceLT,Nat.reduceLeDiff,Z1]
  (try simp only [dV,fF,dW]);refine dI (fun hb=>?_) (fun hb=>?_)<;>try simp only [hb,bg,reduceCtorEq,Nat.reduceEqDiff,Nat.reduceAdd,Nat.reduceLT,Nat.reduceLeDiff,Z1]
  ·rw [zw hi]
   simp only [Zda,hb,Zdg,if_true,ZdW,cond_true,Nat.add_zero]
   rfl
  ·rw [ih _ (by simp only [hi1];rfl),zw hi]
   simp only [Zda,hb,Zcg,ZdW,cond_false,Nat.add_assoc,Nat.add_comm 1]
 ·intro rb
  simp only [I8,Zap,oW,reduceCtorEq,Nat.reduceEqDiff,Nat.reduceAdd,Nat.reduceLT,Nat.reduceLeDiff,Z1]
  simp only [ZaT,List.any_nil,zg,if_false]
  rfl
theorem al0 {α:Type}{enc:α→PV}{l:List α}{p:α→Bool}{gf:Nat}{caps:List PV}(hp:∀ x∈l,cal env gf (enc x::caps)=some [(.bool (p x),false)])(hs:∀ x,part (enc x).cells 0 none=some (enc x))(hl:l.length≤lim) :
  cal env 151 [.list 1 (l.map enc),.func gf caps]=some [(.int .i64 (aiG p l),false)]:=by
 rw [ah alY rfl];simp only [Uo];simp only [start,aJ,aT,aH,aS,aB,aC,aI,aQ,Nat.reduceAdd,Nat.reduceSub]
 simp only [Z2,oW,reduceCtorEq,Nat.reduceEqDiff,Nat.reduceAdd,Nat.reduceLT,Nat.reduceLeDiff,Z1]
 rw [aiH hp hs hl]
 rotate_left
 ·rfl
 ·simp only [aiG]
  split<;>simp only [oW,reduceCtorEq,Nat.reduceEqDiff,Nat.reduceAdd,Nat.reduceLT,Nat.reduceLeDiff,Z1]
--+
theorem aeN {α:Type}{enc:α→PV}{l:List α}{p:α→Bool}{gf:Nat}{caps:List PV}(hp:∀ x∈l,cal env gf (enc x::caps)=some [(.bool (p x),false)])(hs:∀ x,part (enc x).cells 0 none=some (enc x))(hl:l.length≤lim) :
  cal env 129 [.list 1 (l.map enc),.func gf caps]=some [(.bool (l.any p),false)]:=by
 rw [ah alL rfl];simp only [Ud];simp only [start,aJ,aT,aH,aS,aB,aC,aI,aQ,Nat.reduceAdd,Nat.reduceSub]
 simp only [al0 hp hs hl,Ut,oW,reduceCtorEq,Nat.reduceEqDiff,Nat.reduceAdd,Nat.reduceLT,Nat.reduceLeDiff,Z1]
--+
theorem aiI {l m:List Int}(hlm:l.length=m.length)(hl:l.length≤lim)
  {st:St} (h:st.head [0,1,12,13] st.boxes.length=some ⟨[.pv (.list 1 (l.map eI)),.pv (.list 1 (m.map eI)),.any,.any,.any,.any,.any,.any,.any,.any,.any,.any,.pv (.int .i64 l.length),.pv (.int .i64 (0:Nat)),.any,.any,.any,.any,.any,.any,.any,.any,.any,.any,.any,.any],[],[],none⟩) :
  den env IB st=if l=m then some (.normal,⟨[.any,.any,.any,.any,.any,.any,.any,.any,.any,.any,.any,.any,.any,.any,.any,.any,.any,.any,.any,.any,.any,.any,.any,.any,.any,.any],[],[],none⟩) else some (.ret,⟨[.any,.any,.any,.any,.pv (.bool false),.any,.any,.any,.any,.any,.any,.any,.any,.any,.any,.any,.any,.any,.any,.any,.any,.any,.any,.any,.any,.any],[],[],none⟩):=by
 unfold IB
 rw [bM l.length (fun i=>⟨[.pv (.list 1 (l.map eI)),.pv (.list 1 (m.map eI)),.any,.any,.any,.any,.any,.any,.any,.any,.any,.any,.pv (.int .i64 l.length),.pv (.int .i64 i),.any,.any,.any,.any,.any,.any,.any,.any,.any,.any,.any,.any],[],[],none⟩)
  (fun i=>if l.drop i=m.drop i then some (.normal,⟨[.any,.any,.any,.any,.any,.any,.any,.any,.any,.any,.any,.any,.any,.any,.any,.any,.any,.any,.any,.any,.any,.any,.any,.any,.any,.any],[],[],none⟩) else some (.ret,⟨[.any,.any,.any,.any,.pv (.bool false),.any,.any,.any,.any,.any,.any,.any,.any,.any,.any,.any,.any,.any,.any,.any,.any,.any,.any,.any,.any,.any],[],[],none⟩)) h (fun _=>rfl) (fun _=>rfl) ?_ ?_]
 ·simp only [Za5]
 ·intro i rb hi ih
  have hi1:=bF hi hl
  have hj:i<m.length:=by omega
  have F1:((i:Int)<(l.length:Int))=True:=eq_true (by omega)
  simp only [Iz,F1,Z2,au hi,au hj,zb,ZS hi,ZS hj,eI,je,cO,BU,iP,uh,ji,oW,reduceCtorEq,Nat.reduceEqDiff,Nat.reduceAdd,Nat.reduceLT,Nat.reduceLeDiff,Z1]
  (try simp only [dV,fF,dW]);refine dI (fun hb=>?_) (fun hb=>?_)<;>try simp only [hb,bg,reduceCtorEq,Nat.reduceEqDiff,Nat.reduceAdd,Nat.reduceLT,Nat.reduceLeDiff,Z1]
  ·rw [ih _ (by simp only [hi1];rfl),zw hi,zw hj]
   have e:l[i]=m[i]:=by
    revert hb
    generalize l[i]=x
    generalize m[i]=y
    first|(intro hb;simpa using hb)|(cases x;cases y;intro hb;simpa using hb)
   simp only [e,ZcH.injEq,true_and]
  ·rw [zw hi,zw hj,if_neg (fun e=>?_)]
   ·rfl
   ·have e:=(ZcH.inj e).1
    rw [e] at hb
    simp at hb
 ·intro rb
  simp only [Iz,Zap,oW,reduceCtorEq,Nat.reduceEqDiff,Nat.reduceAdd,Nat.reduceLT,Nat.reduceLeDiff,Z1]
  rw [ZaT,hlm,ZaT,if_pos rfl]
  rfl
theorem al1 {l m:List Int}(hl:l.length≤lim) :
  cal env 115 [.list 1 (l.map eI),.list 1 (m.map eI)]=some [(.bool (decide (l=m)),false)]:=by
 rw [ah alz rfl];simp only [TK];simp only [start,aJ,aT,aH,aS,aB,aC,aI,aQ,Nat.reduceAdd,Nat.reduceSub]
 simp only [Z2,oW,reduceCtorEq,Nat.reduceEqDiff,Nat.reduceAdd,Nat.reduceLT,Nat.reduceLeDiff,Z1]
 (try simp only [dV,fF,dW]);refine dI (fun hb=>?_) (fun hb=>?_)<;>try simp only [hb,bg,reduceCtorEq,Nat.reduceEqDiff,Nat.reduceAdd,Nat.reduceLT,Nat.reduceLeDiff,Z1]
 ·have hlm:l.length=m.length:=by simp at hb;omega
  rw [aiI hlm hl]
  rotate_left
  ·rfl
  ·by_cases e:l=m
   ·simp only [e,oW,reduceCtorEq,Nat.reduceEqDiff,Nat.reduceAdd,Nat.reduceLT,Nat.reduceLeDiff,Z1]
   ·simp only [e,oW,reduceCtorEq,Nat.reduceEqDiff,Nat.reduceAdd,Nat.reduceLT,Nat.reduceLeDiff,Z1]
 ·have:l≠m:=fun e=>by subst e;simp at hb
  simp only [this,oW,reduceCtorEq,Nat.reduceEqDiff,Nat.reduceAdd,Nat.reduceLT,Nat.reduceLeDiff,Z1]
--+
theorem al2 {l m:List fE}(hlm:l.length=m.length)(hl:l.length≤lim)
  {st:St} (h:st.head [0,1,12,13] st.boxes.length=some ⟨[.pv (.list 8 (l.map je)),.pv (.list 8 (m.map je)),.any,.any,.any,.any,.any,.any,.any,.any,.any,.any,.pv (.int .i64 l.length),.pv (.int .i64 (0:Nat)),.any,.any,.any,.any,.any,.any,.any,.any,.any,.any,.any,.any],[],[],none⟩) :
  den env PU st=if l=m then some (.normal,⟨[.any,.any,.any,.any,.any,.any,.any,.any,.any,.any,.any,.any,.any,.any,.any,.any,.any,.any,.any,.any,.any,.any,.any,.any,.any,.any],[],[],none⟩) else some (.ret,⟨[.any,.any,.any,.any,.pv (.bool false),.any,.any,.any,.any,.any,.any,.any,.any,.any,.any,.any,.any,.any,.any,.any,.any,.any,.any,.any,.any,.any],[],[],none⟩):=by
 unfold PU
 rw [bM l.length (fun i=>⟨[.pv (.list 8 (l.map je)),.pv (.list 8 (m.map je)),.any,.any,.any,.any,.any,.any,.any,.any,.any,.any,.pv (.int .i64 l.length),.pv (.int .i64 i),.any,.any,.any,.any,.any,.any,.any,.any,.any,.any,.any,.any],[],[],none⟩)
  (fun i=>if l.drop i=m.drop i then some (.normal,⟨[.any,.any,.any,.any,.any,.any,.any,.any,.any,.any,.any,.any,.any,.any,.any,.any,.any,.any,.any,.any,.any,.any,.any,.any,.any,.any],[],[],none⟩) else some (.ret,⟨[.any,.any,.any,.any,.pv (.bool false),.any,.any,.any,.any,.any,.any,.any,.any,.any,.any,.any,.any,.any,.any,.any,.any,.any,.any,.any,.any,.any],[],[],none⟩)) h (fun _=>rfl) (fun _=>rfl) ?_ ?_]
 ·simp only [Za5]
 ·intro i rb hi ih
  have hi1:=bF hi hl
  have hj:i<m.length:=by omega
  have F1:((i:Int)<(l.length:Int))=True:=eq_true (by omega)
  simp only [PS,F1,Z2,au hi,au hj,zb,ZS hi,ZS hj,eI,je,cO,BU,iP,uh,ji,oW,reduceCtorEq,Nat.reduceEqDiff,Nat.reduceAdd,Nat.reduceLT,Nat.reduceLeDiff,Z1]
  (try simp only [dV,fF,dW]);refine dI (fun hb=>?_) (fun hb=>?_)<;>try simp only [hb,bg,reduceCtorEq,Nat.reduceEqDiff,Nat.reduceAdd,Nat.reduceLT,Nat.reduceLeDiff,Z1]
  ·rw [ih _ (by simp only [hi1];rfl),zw hi,zw hj]
   have e:l[i]=m[i]:=by
    revert hb
    generalize l[i]=x
    generalize m[i]=y
    first|(intro hb;simpa using hb)|(cases x;cases y;intro hb;simpa using hb)
   simp only [e,ZcH.injEq,true_and]
  ·rw [zw hi,zw hj,if_neg (fun e=>?_)]
   ·rfl
   ·have e:=(ZcH.inj e).1
    rw [e] at hb
    simp at hb
 ·intro rb
  simp only [PS,Zap,oW,reduceCtorEq,Nat.reduceEqDiff,Nat.reduceAdd,Nat.reduceLT,Nat.reduceLeDiff,Z1]
  rw [ZaT,hlm,ZaT,if_pos rfl]
  rfl
theorem ao7 {l m:List fE}(hl:l.length≤lim) :
  cal env 87 [.list 8 (l.map je),.list 8 (m.map je)]=some [(.bool (decide (l=m)),false)]:=by
 rw [ah ao0 rfl];simp only [aes];simp only [start,aJ,aT,aH,aS,aB,aC,aI,aQ,Nat.reduceAdd,Nat.reduceSub]
 simp only [Z2,oW,reduceCtorEq,Nat.reduceEqDiff,Nat.reduceAdd,Nat.reduceLT,Nat.reduceLeDiff,Z1]
 (try simp only [dV,fF,dW]);refine dI (fun hb=>?_) (fun hb=>?_)<;>try simp only [hb,bg,reduceCtorEq,Nat.reduceEqDiff,Nat.reduceAdd,Nat.reduceLT,Nat.reduceLeDiff,Z1]
 ·have hlm:l.length=m.length:=by simp at hb;omega
  rw [al2 hlm hl]
  rotate_left
  ·rfl
  ·by_cases e:l=m
   ·simp only [e,oW,reduceCtorEq,Nat.reduceEqDiff,Nat.reduceAdd,Nat.reduceLT,Nat.reduceLeDiff,Z1]
   ·simp only [e,oW,reduceCtorEq,Nat.reduceEqDiff,Nat.reduceAdd,Nat.reduceLT,Nat.reduceLeDiff,Z1]
 ·have:l≠m:=fun e=>by subst e;simp at hb
  simp only [this,oW,reduceCtorEq,Nat.reduceEqDiff,Nat.reduceAdd,Nat.reduceLT,Nat.reduceLeDiff,Z1]
--+
theorem al3 {α β:Type}{enc:α→PV}{enc2:β→PV}{eq:α→β→Bool}{l:List α}{m:List β}{gf:Nat}{caps:List PV}(hp:∀ x∈l,∀ y∈m,cal env gf (enc x::enc2 y::caps)=some [(.bool (eq x y),false)])(hs:∀ x,part (enc x).cells 0 none=some (enc x))(hs2:∀ x,part (enc2 x).cells 0 none=some (enc2 x))(hlm:l.length=m.length)(hl:l.length≤lim)
  {st:St} (h:st.head [0,1,2,15,16,17] st.boxes.length=some ⟨[.pv (.list 1 (l.map enc)),.pv (.list 1 (m.map enc2)),.pv (.func gf caps),.any,.any,.any,.any,.any,.any,.any,.any,.any,.any,.any,.any,.pv (.list 1 (l.map enc)),.pv (.int .i64 l.length),.pv (.int .i64 (0:Nat)),.any,.any,.any,.any,.any,.any,.any,.any,.any,.any,.any,.any,.any,.any],[],[],none⟩) :
  den env PO st=if (l.zip m).all (fun q=>eq q.1 q.2) then some (.normal,⟨[.any,.any,.any,.any,.any,.any,.any,.any,.any,.any,.any,.any,.any,.any,.any,.any,.any,.any,.any,.any,.any,.any,.any,.any,.any,.any,.any,.any,.any,.any,.any,.any],[],[],none⟩) else some (.ret,⟨[.any,.any,.any,.any,.any,.any,.pv (.bool false),.any,.any,.any,.any,.any,.any,.any,.any,.any,.any,.any,.any,.any,.any,.any,.any,.any,.any,.any,.any,.any,.any,.any,.any,.any],[],[],none⟩):=by
 unfold PO
 rw [bM l.length (fun i=>⟨[.pv (.list 1 (l.map enc)),.pv (.list 1 (m.map enc2)),.pv (.func gf caps),.any,.any,.any,.any,.any,.any,.any,.any,.any,.any,.any,.any,.pv (.list 1 (l.map enc)),.pv (.int .i64 l.length),.pv (.int .i64 i),.any,.any,.any,.any,.any,.any,.any,.any,.any,.any,.any,.any,.any,.any],[],[],none⟩)
  (fun i=>if ((l.drop i).zip (m.drop i)).all (fun q=>eq q.1 q.2) then some (.normal,⟨[.any,.any,.any,.any,.any,.any,.any,.any,.any,.any,.any,.any,.any,.any,.any,.any,.any,.any,.any,.any,.any,.any,.any,.any,.any,.any,.any,.any,.any,.any,.any,.any],[],[],none⟩) else some (.ret,⟨[.any,.any,.any,.any,.any,.any,.pv (.bool false),.any,.any,.any,.any,.any,.any,.any,.any,.any,.any,.any,.any,.any,.any,.any,.any,.any,.any,.any,.any,.any,.any,.any,.any,.any],[],[],none⟩)) h (fun _=>rfl) (fun _=>rfl) ?_ ?_]
 ·simp only [Za5]
 ·intro i rb hi ih
  have hi1:=bF hi hl
  have hj:i<m.length:=by omega
  have F1:((i:Int)<(l.length:Int))=True:=eq_true (by omega)
  simp only [PN,F1,Z2,au hi,au hj,zb,ZS hi,ZS hj,hs,hs2,hp _ (zR hi) _ (zR hj),oW,reduceCtorEq,Nat.reduceEqDiff,Nat.reduceAdd,Nat.reduceLT,Nat.reduceLeDiff,Z1]
  (try simp only [dV,fF,dW]);refine dI (fun hb=>?_) (fun hb=>?_)<;>try simp only [hb,bg,reduceCtorEq,Nat.reduceEqDiff,Nat.reduceAdd,Nat.reduceLT,Nat.reduceLeDiff,Z1]
  ·rw [ih _ (by simp only [hi1];rfl),zw hi,zw hj]
   simp only [Zcq,Zaw,hb,zm]
  ·rw [zw hi,zw hj]
   simp only [Zcq,Zaw,hb,Za8,zg,if_false]
   rfl
 ·intro rb
  simp only [PN,Zap,oW,reduceCtorEq,Nat.reduceEqDiff,Nat.reduceAdd,Nat.reduceLT,Nat.reduceLeDiff,Z1]
  rw [ZaT]
  rfl
theorem ake {α β:Type}{enc:α→PV}{enc2:β→PV}{eq:α→β→Bool}{l:List α}{m:List β}{gf:Nat}{caps:List PV}(hp:∀ x∈l,∀ y∈m,cal env gf (enc x::enc2 y::caps)=some [(.bool (eq x y),false)])(hs:∀ x,part (enc x).cells 0 none=some (enc x))(hs2:∀ x,part (enc2 x).cells 0 none=some (enc2 x))(hl:l.length≤lim) :
  cal env 86 [.list 1 (l.map enc),.list 1 (m.map enc2),.func gf caps]=some [(.bool (eqF eq l m),false)]:=by
 rw [ah aoZ rfl];simp only [aer];simp only [start,aJ,aT,aH,aS,aB,aC,aI,aQ,Nat.reduceAdd,Nat.reduceSub]
 simp only [Z2,oW,reduceCtorEq,Nat.reduceEqDiff,Nat.reduceAdd,Nat.reduceLT,Nat.reduceLeDiff,Z1]
 (try simp only [dV,fF,dW]);refine dI (fun hb=>?_) (fun hb=>?_)<;>try simp only [hb,bg,reduceCtorEq,Nat.reduceEqDiff,Nat.reduceAdd,Nat.reduceLT,Nat.reduceLeDiff,Z1]
 ·have hlm:l.length=m.length:=by simp at hb;omega
  rw [al3 hp hs hs2 hlm hl]
  rotate_left
  ·rfl
  ·simp only [eqF,decide_eq_true hlm,zm]
   cases (l.zip m).all (fun q=>eq q.1 q.2)<;>simp only [oW,reduceCtorEq,Nat.reduceEqDiff,Nat.reduceAdd,Nat.reduceLT,Nat.reduceLeDiff,Z1]
 ·have:¬ l.length=m.length:=fun e=>by rw [e] at hb;simp at hb
  simp only [eqF,decide_eq_false this,oW,reduceCtorEq,Nat.reduceEqDiff,Nat.reduceAdd,Nat.reduceLT,Nat.reduceLeDiff,Z1]
--+
theorem ao8 {es:List PV}(hl:es.length≤lim):cal env 95 [.list 8 es]=some [(.list 8 es,true)]:=(Gh ao5).trans (if_pos ⟨rfl,hl⟩)
def iL (l:List Int):Int:=if l.length<1∨8<l.length then 6 else if l.any (fun n=>decide (n<1) || decide (n > 4096)) then 2 else 0
def aj (im:fG):List Int:=im.map fun v=>(v.length:Int)
def bY (im:fG):Int:=iL (aj im)
def kN (im:fG)(w:fK):Int :=
 if w.volume<0∨(im.length:Int)≤w.volume then 7 else if w.data.length=0 then 1
 else if w.start<0∨((im.getD w.volume.toNat []).length:Int) - w.data.length<w.start then 2 else 0
def Jd (im:fG)(w:fK):Int:=if bY im≠0 then bY im else kN im w
def oZ (l:List Int):fG:=l.map fun n=>Zal n.toNat Ig
theorem uJ {α β:Type}(f:α→β){l:List α}{i:Nat}(h:i<l.length):(l.take i).map f++[f l[i]]=(l.take (i+1)).map f:=by
 rw [List.take_succ,ZS h,ZaK];rfl
theorem aiJ {α:Type}{enc:α→PV}{l:List α}{g:α→List fE}{gf:Nat}{caps:List PV}(hp:∀ x∈l,cal env gf (enc x::caps)=some [(aX (g x),true)])(hs:∀ x,part (enc x).cells 0 none=some (enc x))(hs3:∀ x,(enc x).cells.length=1)(hl:l.length≤lim)
  {st:St} (h:st.head [0,1,5,10,11,12,13,22] st.boxes.length=some ⟨[.pv (.list 1 (l.map enc)),.pv (.func gf caps),.any,.any,.any,.row 1 [],.any,.any,.any,.any,.any,.pv (.list 1 (l.map enc)),.pv (.int .i64 l.length),.pv (.int .i64 (0:Nat)),.any,.any,.any,.any,.any,.any,.any,.any,.any,.any,.any],[],[],none⟩) :
  den env IU st=some (.normal,⟨[.any,.any,.any,.any,.any,.row 1 (l.map fun x=>aX (g x)),.any,.any,.any,.any,.any,.any,.any,.any,.any,.any,.any,.any,.any,.any,.any,.any,.any,.any,.any],[],[],none⟩):=by
 unfold IU
 rw [bM l.length (fun i=>⟨[.pv (.list 1 (l.map enc)),.pv (.func gf caps),.any,.any,.any,.row 1 ((l.take i).map fun x=>aX (g x)),.any,.any,.any,.any,.any,.pv (.list 1 (l.map enc)),.pv (.int .i64 l.length),.pv (.int .i64 i),.any,.any,.any,.any,.any,.any,.any,.any,.any,.any,.any],[],[],none⟩)
  (fun i=>some (.normal,⟨[.any,.any,.any,.any,.any,.row 1 (l.map fun x=>aX (g x)),.any,.any,.any,.any,.any,.any,.any,.any,.any,.any,.any,.any,.any,.any,.any,.any,.any,.any,.any],[],[],none⟩)) h (fun _=>rfl) (fun _=>rfl) ?_ ?_]
 ·intro i rb hi ih
  have hi1:=bF hi hl
  have F1:((i:Int)<(l.length:Int))=True:=eq_true (by omega)
  have F2:((l.take i).length+1≤lim)=True:=eq_true (by rw [Zac];omega)
  have hpi:cal env gf (enc l[i]::caps)=some [((PV.list 8 ((g l[i]).map je)),true)]:=hp _ (zR hi)
  try simp only [cO] at hpi
  simp only [IQ,F1,F2,au hi,zb,ZS hi,hpi,hs,hs3,bg,reduceCtorEq,Nat.reduceEqDiff,Nat.reduceAdd,Nat.reduceLT,Nat.reduceLeDiff,Z1]
  rw [ih _ (by simp only [hi1];rw [← uJ _ hi];rfl)]
 ·intro rb
  simp only [IQ,Zap,oW,reduceCtorEq,Nat.reduceEqDiff,Nat.reduceAdd,Nat.reduceLT,Nat.reduceLeDiff,Z1]
  rw [ZaI]
  rfl
theorem al4 {α:Type}{enc:α→PV}{l:List α}{g:α→List fE}{gf:Nat}{caps:List PV}(hp:∀ x∈l,cal env gf (enc x::caps)=some [(aX (g x),true)])(hs:∀ x,part (enc x).cells 0 none=some (enc x))(hs3:∀ x,(enc x).cells.length=1)(hl:l.length≤lim) :
  cal env 127 [.list 1 (l.map enc),.func gf caps]=some [(.list 1 (l.map fun x=>aX (g x)),true)]:=by
 rw [ah alJ rfl];simp only [Ub];simp only [start,aJ,aT,aH,aS,aB,aC,aI,aQ,Nat.reduceAdd,Nat.reduceSub]
 have F1:((l.length:Int)≤(lim:Int))=True:=eq_true (by omega)
 have F2:((0:Int)≤(l.length:Int))=True:=eq_true (by omega)
 simp only [F1,F2,Zb9,bg,reduceCtorEq,Nat.reduceEqDiff,Nat.reduceAdd,Nat.reduceLT,Nat.reduceLeDiff,Z1]
 rw [aiJ hp hs hs3 hl]
 rotate_left
 ·rfl
 ·simp only [bg,reduceCtorEq,Nat.reduceEqDiff,Nat.reduceAdd,Nat.reduceLT,Nat.reduceLeDiff,Z1]
--+
theorem aiK {α:Type}{enc:α→PV}{l:List α}{g:α→Int}{gf:Nat}{caps:List PV}(hp:∀ x∈l,cal env gf (enc x::caps)=some [(eI (g x),false)])(hs:∀ x,part (enc x).cells 0 none=some (enc x))(hs3:∀ x,(enc x).cells.length=1)(hl:l.length≤lim)
  {st:St} (h:st.head [0,1,5,10,11,12,13,22] st.boxes.length=some ⟨[.pv (.list 1 (l.map enc)),.pv (.func gf caps),.any,.any,.any,.row 1 [],.any,.any,.any,.any,.any,.pv (.list 1 (l.map enc)),.pv (.int .i64 l.length),.pv (.int .i64 (0:Nat)),.any,.any,.any,.any,.any,.any,.any,.any,.any,.any,.any],[],[],none⟩) :
  den env IX st=some (.normal,⟨[.any,.any,.any,.any,.any,.row 1 (l.map fun x=>eI (g x)),.any,.any,.any,.any,.any,.any,.any,.any,.any,.any,.any,.any,.any,.any,.any,.any,.any,.any,.any],[],[],none⟩):=by
 unfold IX
 rw [bM l.length (fun i=>⟨[.pv (.list 1 (l.map enc)),.pv (.func gf caps),.any,.any,.any,.row 1 ((l.take i).map fun x=>eI (g x)),.any,.any,.any,.any,.any,.pv (.list 1 (l.map enc)),.pv (.int .i64 l.length),.pv (.int .i64 i),.any,.any,.any,.any,.any,.any,.any,.any,.any,.any,.any],[],[],none⟩)
  (fun i=>some (.normal,⟨[.any,.any,.any,.any,.any,.row 1 (l.map fun x=>eI (g x)),.any,.any,.any,.any,.any,.any,.any,.any,.any,.any,.any,.any,.any,.any,.any,.any,.any,.any,.any],[],[],none⟩)) h (fun _=>rfl) (fun _=>rfl) ?_ ?_]
 ·intro i rb hi ih
  have hi1:=bF hi hl
  have F1:((i:Int)<(l.length:Int))=True:=eq_true (by omega)
  have F2:((l.take i).length+1≤lim)=True:=eq_true (by rw [Zac];omega)
  have hpi:cal env gf (enc l[i]::caps)=some [((PV.int .i64 (g l[i])),false)]:=hp _ (zR hi)
  try simp only [cO] at hpi
  simp only [IW,F1,F2,au hi,zb,ZS hi,hpi,hs,hs3,bg,reduceCtorEq,Nat.reduceEqDiff,Nat.reduceAdd,Nat.reduceLT,Nat.reduceLeDiff,Z1]
  rw [ih _ (by simp only [hi1];rw [← uJ _ hi];rfl)]
 ·intro rb
  simp only [IW,Zap,oW,reduceCtorEq,Nat.reduceEqDiff,Nat.reduceAdd,Nat.reduceLT,Nat.reduceLeDiff,Z1]
  rw [ZaI]
  rfl
theorem al5 {α:Type}{enc:α→PV}{l:List α}{g:α→Int}{gf:Nat}{caps:List PV}(hp:∀ x∈l,cal env gf (enc x::caps)=some [(eI (g x),false)])(hs:∀ x,part (enc x).cells 0 none=some (enc x))(hs3:∀ x,(enc x).cells.length=1)(hl:l.length≤lim) :
  cal env 138 [.list 1 (l.map enc),.func gf caps]=some [(.list 1 (l.map fun x=>eI (g x)),true)]:=by
 rw [ah alR rfl];simp only [Uj];simp only [start,aJ,aT,aH,aS,aB,aC,aI,aQ,Nat.reduceAdd,Nat.reduceSub]
 have F1:((l.length:Int)≤(lim:Int))=True:=eq_true (by omega)
 have F2:((0:Int)≤(l.length:Int))=True:=eq_true (by omega)
 simp only [F1,F2,Zb9,bg,reduceCtorEq,Nat.reduceEqDiff,Nat.reduceAdd,Nat.reduceLT,Nat.reduceLeDiff,Z1]
 rw [aiK hp hs hs3 hl]
 rotate_left
 ·rfl
 ·simp only [bg,reduceCtorEq,Nat.reduceEqDiff,Nat.reduceAdd,Nat.reduceLT,Nat.reduceLeDiff,Z1]
theorem al6 {x:Int}:cal env 148 [eI x]=some [(.bool (decide (x<1) || decide (x > 4096)),false)]:=by
 unfold eI
 rw [ah alV rfl];simp only [Um];simp only [start,aJ,aT,aH,aS,aB,aC,aI,aQ,Nat.reduceAdd,Nat.reduceSub]
 simp only [bg,reduceCtorEq,Nat.reduceEqDiff,Nat.reduceAdd,Nat.reduceLT,Nat.reduceLeDiff,Z1]
 (try simp only [dV,fF,dW]);refine dI (fun hb=>?_) (fun hb=>?_)<;>try simp only [hb,bg,reduceCtorEq,Nat.reduceEqDiff,Nat.reduceAdd,Nat.reduceLT,Nat.reduceLeDiff,Z1]
theorem aeO {l:List Int}(hl:l.length≤lim):cal env 124 [.list 1 (l.map eI)]=some [(.int .i64 (iL l),false)]:=by
 have e1:=aeN (l:=l) (enc:=eI) (fun x _=>al6 (x:=x)) (fun x=>rfl) hl
 rw [ah alH rfl];simp only [TY];simp only [start,aJ,aT,aH,aS,aB,aC,aI,aQ,Nat.reduceAdd,Nat.reduceSub]
 simp only [e1,bg,reduceCtorEq,Nat.reduceEqDiff,Nat.reduceAdd,Nat.reduceLT,Nat.reduceLeDiff,Z1]
 repeat' ((try simp only [dV,fF,dW]);refine dI (fun hb=>?_) (fun hb=>?_)<;>try simp only [hb,e1,bg,reduceCtorEq,Nat.reduceEqDiff,Nat.reduceAdd,Nat.reduceLT,Nat.reduceLeDiff,Z1])
 all_goals grind [iL]
theorem al7 {v:List fE}:cal env 139 [aX v]=some [(eI v.length,false)]:=by
 unfold aX eI
 rw [ah alS rfl];simp only [Uk];simp only [start,aJ,aT,aH,aS,aB,aC,aI,aQ,Nat.reduceAdd,Nat.reduceSub]
 simp only [bg,reduceCtorEq,Nat.reduceEqDiff,Nat.reduceAdd,Nat.reduceLT,Nat.reduceLeDiff,Z1]
theorem XL {im:fG}(hl:im.length≤lim):cal env 116 [.list 1 (im.map aX)]=some [(.list 1 ((aj im).map eI),true)]:=by
 have e1:=al5 (enc:=aX) (l:=im) (fun x _=>al7 (v:=x)) (fun x=>rfl) (fun x=>rfl) hl
 rw [ah alA rfl];simp only [TL];simp only [start,aJ,aT,aH,aS,aB,aC,aI,aQ,Nat.reduceAdd,Nat.reduceSub]
 simp only [e1,bg,reduceCtorEq,Nat.reduceEqDiff,Nat.reduceAdd,Nat.reduceLT,Nat.reduceLeDiff,Z1]
 simp [aj]
theorem YK {im:fG}(hl:im.length≤lim):cal env 85 [.list 1 (im.map aX)]=some [(.int .i64 (bY im),false)]:=by
 have h2:(aj im).length≤lim:=by simpa [aj] using hl
 have e1:=XL hl
 have e2:=aeO h2
 rw [ah aoY rfl];simp only [aep];simp only [start,aJ,aT,aH,aS,aB,aC,aI,aQ,Nat.reduceAdd,Nat.reduceSub]
 simp only [e1,e2,bg,reduceCtorEq,Nat.reduceEqDiff,Nat.reduceAdd,Nat.reduceLT,Nat.reduceLeDiff,Z1]
 rfl
theorem al8 {n:Int}(h0:0≤n)(h1:n≤4096):cal env 128 [eI n]=some [(aX (Zal n.toNat Ig),true)]:=by
 unfold eI aX
 rw [ah alK rfl];simp only [Uc];simp only [start,aJ,aT,aH,aS,aB,aC,aI,aQ,Nat.reduceAdd,Nat.reduceSub]
 have F1:(n≤(lim:Int))=True:=eq_true (by simp [lim];omega)
 simp only [F1,h0,← XK,iP,bg,reduceCtorEq,Nat.reduceEqDiff,Nat.reduceAdd,Nat.reduceLT,Nat.reduceLeDiff,Z1]
 simp only [List.map_replicate]
 rfl
theorem akf {l:List Int}(hl:l.length≤lim):cal env 96 [.list 1 (l.map eI)]=some [(.list 1 ((if iL l=0 then oZ l else []).map aX),true),(.int .i64 (iL l),false)]:=by
 have e0:=aeO hl
 by_cases h:iL l=0
 ·have hs:∀ x∈l,1≤x∧x≤4096:=by
   intro x hx
   unfold iL at h
   split at h
   ·omega
   ·split at h
    ·omega
    ·rename_i h2
     simp only [List.any_eq_true,not_exists,not_and,Bool.not_eq_true] at h2
     have:=h2 x hx
     simp at this
     omega
  have e1:=al4 (enc:=eI) (g:=fun n=>Zal n.toNat Ig) (l:=l) (fun x hx=>al8 (n:=x) (by have:=hs x hx;omega) (by have:=hs x hx;omega)) (fun x=>rfl) (fun x=>rfl) hl
  rw [ah akc rfl];simp only [aa3];simp only [start,aJ,aT,aH,aS,aB,aC,aI,aQ,Nat.reduceAdd,Nat.reduceSub]
  simp only [e0,e1,bg,reduceCtorEq,Nat.reduceEqDiff,Nat.reduceAdd,Nat.reduceLT,Nat.reduceLeDiff,Z1]
  (try simp only [dV,fF,dW]);refine dI (fun hb=>?_) (fun hb=>?_)<;>try simp only [hb,e0,e1,bg,reduceCtorEq,Nat.reduceEqDiff,Nat.reduceAdd,Nat.reduceLT,Nat.reduceLeDiff,Z1]
  ·simp [oZ,h]
  ·simp at hb;omega
 ·have e1:=e0
  rw [ah akc rfl];simp only [aa3];simp only [start,aJ,aT,aH,aS,aB,aC,aI,aQ,Nat.reduceAdd,Nat.reduceSub]
  simp only [e0,e1,bg,reduceCtorEq,Nat.reduceEqDiff,Nat.reduceAdd,Nat.reduceLT,Nat.reduceLeDiff,Z1]
  (try simp only [dV,fF,dW]);refine dI (fun hb=>?_) (fun hb=>?_)<;>try simp only [hb,e0,e1,bg,reduceCtorEq,Nat.reduceEqDiff,Nat.reduceAdd,Nat.reduceLT,Nat.reduceLeDiff,Z1]
  ·simp at hb;omega
  ·simp [h]
theorem aeP {α:Type}[DecidableEq α]:∀ (l m:List α),eqF (fun x y=>decide (x=y)) l m=decide (l=m)
 |[],[]=>by simp [eqF]
 |[],_::_=>by simp [eqF]
 |_::_,[]=>by simp [eqF]
 |x::l,y::m=>by
  have:=aeP l m
  simp only [eqF,za,Zcq,Zaw,ZcH.injEq,Zdo] at *
  rw [← this]
  by_cases h:l.length=m.length<;>simp [h]
theorem aeQ {a b:fG}(ha:a.length≤lim)(hr:∀ v∈a,v.length≤lim):cal env 37 [.list 1 (a.map aX),.list 1 (b.map aX)]=some [(.bool (decide (a=b)),false)]:=by
 have e1:=ake (enc:=aX) (enc2:=aX) (l:=a) (m:=b) (eq:=fun x y=>decide (x=y)) (fun x hx y _=>ao7 (hr x hx)) (fun x=>rfl) (fun x=>rfl) ha
 rw [aeP] at e1
 rw [ah aoG rfl];simp only [ad8];simp only [start,aJ,aT,aH,aS,aB,aC,aI,aQ,Nat.reduceAdd,Nat.reduceSub]
 simp only [e1,bg,reduceCtorEq,Nat.reduceEqDiff,Nat.reduceAdd,Nat.reduceLT,Nat.reduceLeDiff,Z1]
def XM (im:fG):Bool:=decide (im.length≤9)&&im.all fun v=>decide (v.length≤24)
theorem al9 {im:fG}(hl:im.length≤lim){st:St}(h:st.head [0,3] st.boxes.length=some ⟨[.pv (.list 1 (im.map aX)),.any,.any,.pv (.int .i64 (0:Nat)),.any,.any,.any,.any,.any,.any,.any,.any,.any,.any,.any,.any,.any,.any,.any],[],[],none⟩) :
  den env Pj st=if im.all (fun v=>decide (v.length≤24)) then some (.normal,⟨[.any,.any,.any,.any,.any,.any,.any,.any,.any,.any,.any,.any,.any,.any,.any,.any,.any,.any,.any],[],[],none⟩) else some (.ret,⟨[.any,.any,.pv (.bool false),.any,.any,.any,.any,.any,.any,.any,.any,.any,.any,.any,.any,.any,.any,.any,.any],[],[],none⟩):=by
 unfold Pj
 rw [ bM (env:=env) (im.length) (fun i=>⟨[.pv (.list 1 (im.map aX)),.any,.any,.pv (.int .i64 i),.any,.any,.any,.any,.any,.any,.any,.any,.any,.any,.any,.any,.any,.any,.any],[],[],none⟩) (fun i=>if (im.drop i).all (fun v=>decide (v.length≤24)) then some (.normal,⟨[.any,.any,.any,.any,.any,.any,.any,.any,.any,.any,.any,.any,.any,.any,.any,.any,.any,.any,.any],[],[],none⟩) else some (.ret,⟨[.any,.any,.pv (.bool false),.any,.any,.any,.any,.any,.any,.any,.any,.any,.any,.any,.any,.any,.any,.any,.any],[],[],none⟩)) h (fun _=>rfl) (fun _=>rfl) ?_ ?_]
 ·first|rfl|simp only [Za5,ZaQ,Zai,Zan,List.nil_append,ZcY]
 ·intro i rb hi ih
  have hi1:=bF hi hl
  have F1:((i:Int)<(im.length:Int))=True:=eq_true (by omega)
  simp only [Ph,F1,aX,au hi,zb,ZS hi,bg,reduceCtorEq,Nat.reduceEqDiff,Nat.reduceAdd,Nat.reduceLT,Nat.reduceLeDiff,Z1]
  rw [zw hi,Zaw]
  (try simp only [dV,fF,dW]);refine dI (fun hb=>?_) (fun hb=>?_)<;>try simp only [hb,bg,reduceCtorEq,Nat.reduceEqDiff,Nat.reduceAdd,Nat.reduceLT,Nat.reduceLeDiff,Z1]
  ·rw [decide_eq_false (by simp at hb;omega)];rfl
  ·rw [ih _ (by simp only [hi1];rfl),decide_eq_true (show im[i].length≤24 by simp at hb;omega),zm]
 ·intro rb
  simp only [Ph,Zap,bg,reduceCtorEq,Nat.reduceEqDiff,Nat.reduceAdd,Nat.reduceLT,Nat.reduceLeDiff,Z1]
  rw [ZaT]
  rfl
theorem ao9 {im:fG}:cal env 42 [.list 1 (im.map aX)]=some [(.bool (XM im),false)]:=by
 rw [ah aoL rfl];simp only [aec];simp only [start,aJ,aT,aH,aS,aB,aC,aI,aQ,Nat.reduceAdd,Nat.reduceSub]
 simp only [bg,reduceCtorEq,Nat.reduceEqDiff,Nat.reduceAdd,Nat.reduceLT,Nat.reduceLeDiff,Z1]
 (try simp only [dV,fF,dW]);refine dI (fun hb=>?_) (fun hb=>?_)<;>try simp only [hb,bg,reduceCtorEq,Nat.reduceEqDiff,Nat.reduceAdd,Nat.reduceLT,Nat.reduceLeDiff,Z1]
 ·simp at hb
  rw [XM,decide_eq_false (by omega)];rfl
 ·have hl:im.length≤9:=by simp at hb;omega
  rw [al9 (im:=im) (by unfold lim;omega)]
  rotate_left
  ·rfl
  ·rw [XM,decide_eq_true hl,zm]
   cases im.all (fun v=>decide (v.length≤24))<;>simp only [oW,reduceCtorEq,Nat.reduceEqDiff,Nat.reduceAdd,Nat.reduceLT,Nat.reduceLeDiff,Z1]
theorem getD_get {α:Type}{l:List α}{i:Nat}{d:α}(h:i<l.length):l.getD i d=l[i]:=by simp [Zag,ZS h]
theorem apa {im:fG}{w:fK}(hl:im.length≤lim)(hr:∀ v∈im,v.length≤lim)(hd:w.data.length≤lim):cal env 89 [.list 1 (im.map aX),jw w]=some [(.int .i64 (kN im w),false)]:=by
 obtain ⟨v,s,d⟩:=w
 simp only [jw] at *
 by_cases h0:0≤v∧v<im.length
 ·have h1:=aaS (k:=.i64) h0.1 h0.2
  have h2:v.toNat<im.length:=by omega
  have h3:=ZS h2
  have h4:im[v.toNat].length≤lim:=hr _ (zR h2)
  have h5:IntKind.i64.wrap ((im[v.toNat].length:Int) - d.length)=im[v.toNat].length - d.length:=bn (by unfold lim at *;omega)
  rw [ah akb rfl];simp only [aa2];simp only [start,aJ,aT,aH,aS,aB,aC,aI,aQ,Nat.reduceAdd,Nat.reduceSub]
  simp only [h1,h3,h5,aX,zb,bg,reduceCtorEq,Nat.reduceEqDiff,Nat.reduceAdd,Nat.reduceLT,Nat.reduceLeDiff,Z1]
  repeat' ((try simp only [dV,fF,dW]);refine dI (fun hb=>?_) (fun hb=>?_)<;>try simp only [hb,h1,h3,h5,aX,zb,bg,reduceCtorEq,Nat.reduceEqDiff,Nat.reduceAdd,Nat.reduceLT,Nat.reduceLeDiff,Z1])
  all_goals clear h1 h3 h5
  all_goals simp only [kN,getD_get h2,decide_eq_true_eq,decide_eq_false_iff_not,beq_iff_eq,beq_eq_false_iff_ne,ne_eq,ge_iff_le,gt_iff_lt,ZZ,Za7,ZaR,Zco] at *
  all_goals ((repeat' split)<;>first|rfl|(exfalso;omega))
 ·rw [ah akb rfl];simp only [aa2];simp only [start,aJ,aT,aH,aS,aB,aC,aI,aQ,Nat.reduceAdd,Nat.reduceSub]
  simp only [aX,zb,YH,bg,reduceCtorEq,Nat.reduceEqDiff,Nat.reduceAdd,Nat.reduceLT,Nat.reduceLeDiff,Z1]
  repeat' ((try simp only [dV,fF,dW]);refine dI (fun hb=>?_) (fun hb=>?_)<;>try simp only [hb,aX,zb,YH,bg,reduceCtorEq,Nat.reduceEqDiff,Nat.reduceAdd,Nat.reduceLT,Nat.reduceLeDiff,Z1])
  all_goals simp only [kN,decide_eq_true_eq,decide_eq_false_iff_not,beq_iff_eq,beq_eq_false_iff_ne,ne_eq,ge_iff_le,gt_iff_lt,ZZ,Za7,ZaR,Zco] at *
  all_goals ((repeat' split)<;>first|rfl|(exfalso;omega))
theorem ama {im:fG}{w:fK}(hl:im.length≤lim)(hr:∀ v∈im,v.length≤lim)(hd:w.data.length≤lim):cal env 133 [.list 1 (im.map aX),jw w]=some [(.int .i64 (Jd im w),false)]:=by
 have e1:=YK hl
 have e2:=apa (w:=w) hl hr hd
 simp only [jw] at *
 rw [ah alP rfl];simp only [Uh];simp only [start,aJ,aT,aH,aS,aB,aC,aI,aQ,Nat.reduceAdd,Nat.reduceSub]
 simp only [e1,e2,bg,reduceCtorEq,Nat.reduceEqDiff,Nat.reduceAdd,Nat.reduceLT,Nat.reduceLeDiff,Z1]
 repeat' ((try simp only [dV,fF,dW]);refine dI (fun hb=>?_) (fun hb=>?_)<;>try simp only [hb,e1,e2,bg,reduceCtorEq,Nat.reduceEqDiff,Nat.reduceAdd,Nat.reduceLT,Nat.reduceLeDiff,Z1])
 all_goals simp only [Jd,decide_eq_true_eq,decide_eq_false_iff_not,beq_iff_eq,beq_eq_false_iff_ne,ne_eq,ge_iff_le,gt_iff_lt,ZZ,Za7,ZaR,Zco] at *
 all_goals ((repeat' split)<;>first|rfl|(exfalso;omega))
end Go.Proofs.YtioijcfcehhmdaaGreatDoor.V
namespace Go.Proofs.YtioijcfcehhmdaaGreatDoor
noncomputable def iter (env:Env)(f:Nat)(caps:List PV)(stop:Option Nat):Option (List (List PV)):=kM (den env) env f caps stop
def P6 (n:Nat)(caps:List PV)(stop:Option Nat):St:=⟨.tq::(caps.map .pv++Zal (n - (caps.length+1)) .any),[],[],some stop⟩
def amb:Ex×St→Option (List (List PV))
 |(.exit _,_)=>none
 |(.nJ _ _,_)=>none
 |(_,st)=>some st.ys
section
variable {env:Env}
theorem Uu (st:St):amb (.normal,st)=some st.ys:=(rfl)
theorem aeR (st:St):amb (.ret,st)=some st.ys:=(rfl)
theorem DW {f:Nat}{fn:iq}{caps:List PV}{stop:Option Nat}(h:env f=some (.code fn))(hl:caps.length+1=fn.nargs)(hr:fn.results.isEmpty=true):iter env f caps stop=(den env fn.body (P6 fn.ntmps caps stop)).bind amb:=by
 unfold iter kM
 rw [h]
 simp only [if_pos (Zs hl hr)]
 show (den env fn.body _).bind _=_
 congr 1
 funext ⟨e,st⟩
 cases e<;>rfl
noncomputable def Je (env:Env)(slots:List AV)(ps:List Nat)(assign body:ay)(nb:Nat)(x:List PV)(st:St):Option (Ex×St) :=
 (gI slots ps x).bind fun sl=>(den env assign { st with slots:=sl }).bind fun p=>match p with
  |(.normal,st)=>(den env body st).bind fun p=>match p with
   |(.normal,st)=>if nb≤st.boxes.length then some (.normal,{ st with boxes:=st.boxes.take nb }) else none
   |(.nJ _ _,_)=>none
   |p=>some p
  |_=>none
theorem Uw {slots:List AV}{ps:List Nat}{assign body:ay}{nb k:Nat}{x:List PV}{xs:List (List PV)}{st:St} :
  rounds (den env) slots ps assign body nb k (x::xs) st=(Je env slots ps assign body nb x st).bind fun p=>match p with
   |(.normal,st)=>rounds (den env) slots ps assign body nb (k+1) xs st
   |(e,st)=>some (some (e,k+1),st):=by
 conv=>lhs;unfold rounds
 unfold Je
 show (gI slots ps x).bind _=_
 cases gI slots ps x with
 |none=>rfl
 |some sl =>
  simp only [Zbl]
  show (den env assign _).bind _=_
  cases den env assign { st with slots:=sl } with
  |none=>rfl
  |some p =>
   obtain ⟨e,s⟩:=p
   simp only [Zbl]
   cases e with
   |normal =>
    simp only
    show (den env body _).bind _=_
    cases den env body s with
    |none=>rfl
    |some p =>
     obtain ⟨e,s⟩:=p
     simp only [Zbl]
     cases e with
     |normal =>
      simp only
      split<;>rfl
     |exit i=>rfl
     |ret=>rfl
     |nJ t n=>rfl
   |exit i=>rfl
   |ret=>rfl
   |nJ t n=>rfl
theorem aiL {g:bU}{ps:List Nat}{assign body:ay}{st st1:St}{f:Nat}{caps:List PV}{xs:List (List PV)}(hg:st.dG g=some (.func f caps))(hi:iter env f caps none=some xs)
  (hr:rounds (den env) (st.slots.map AV.froze) ps assign body st.boxes.length 0 xs { st with slots:=st.slots.map AV.froze }=some (none,st1)):den env (.rng g ps assign body) st=some (.normal,{ st1 with slots:=st.slots.map AV.froze }):=by
 rw [mO]
 show ranged (den env) env g ps assign body st=_
 unfold ranged
 rw [hg]
 unfold iter at hi
 simp only [MH,Zbl,hi,hr]
theorem P7 (B:Nat→List Box){g:bU}{ps:List Nat}{assign body:ay}{st:St}{f:Nat}{caps:List PV}{xs:List (List PV)}(hg:st.dG g=some (.func f caps))(hi:iter env f caps none=some xs)(hB:st.boxes=B 0)
  (h:∀ j x,xs[j]?=some x→∀ sl0,∃ sl1,Je env (st.slots.map AV.froze) ps assign body st.boxes.length x ⟨sl0,B j,st.ys,st.stop⟩=some (.normal,⟨sl1,B (j+1),st.ys,st.stop⟩)) :
  den env (.rng g ps assign body) st=some (.normal,⟨st.slots.map AV.froze,B xs.length,st.ys,st.stop⟩):=by
 have key:∀ (l:List (List PV)) (j:Nat),xs.drop j=l→∀ (k:Nat) (sl0:List AV),∃ sl1,rounds (den env) (st.slots.map AV.froze) ps assign body st.boxes.length k l ⟨sl0,B j,st.ys,st.stop⟩=some (none,⟨sl1,B (j+l.length),st.ys,st.stop⟩):=by
  intro l
  induction l with
  |nil=>intro j _ k sl0;exact ⟨sl0,rfl⟩
  |cons x l ih =>
   intro j hj k sl0
   have hx:xs[j]?=some x:=by rw [← List.head?_drop,hj];rfl
   have hd:xs.drop (j+1)=l:=by rw [← ZcX,hj];rfl
   obtain ⟨sl1,q⟩:=h j x hx sl0
   obtain ⟨sl2,q2⟩:=ih (j+1) hd (k+1) sl1
   refine ⟨sl2,?_⟩
   rw [Uw,q]
   simp only [Zbl,q2,za]
   rw [show j+1+l.length=j+(l.length+1) by omega]
 obtain ⟨sl1,q⟩:=key xs 0 (by simp) 0 (st.slots.map AV.froze)
 rw [← hB,Zan] at q
 have r:=aiL hg hi q
 exact r
theorem DX {keep post:List Nat}{id nb:Nat}{b:ay}(n:Nat)(P:Nat→Prop)(S:Nat→St)(R:Nat→Option (Ex×St)){st:St}(h:st.head keep st.boxes.length=some (S 0))(hP:P 0)(hS:∀ i,(S i).boxes.length=nb)(hh:∀ i,(S i).head keep nb=some (S i))
  (step:∀ i rb,i<n→P i→(P (i+1)→∀ s,s.head keep nb=some (S (i+1))→lC env id post nb (den env rb s)=R (i+1))→lC env id post nb ((den env b (S i)).bind (next env rb))=R i)
  (last:∀ rb,P n→lC env id post nb ((den env b (S n)).bind (next env rb))=R n) :
  den env (.clean keep post (.block id (.loop keep b))) st=R 0:=by
 refine DL S R (fun i=>i≤n∧P i) (fun i=>n - i) 0 h ⟨ZaM _,hP⟩ hS hh fun i rb hi ih=>?_
 by_cases hn:i=n
 ·subst hn;exact last rb hi.2
 ·exact step i rb (by omega) hi.2 fun hp s hs=>ih (i+1) (by omega) ⟨by omega,hp⟩ s hs
noncomputable def YL (env:Env)(body:ay)(nb:Nat):Ex×St→Option (Ex×St)
 |(.normal,st)=>(den env body st).bind fun p=>match p with
  |(.normal,st)=>if nb≤st.boxes.length then some (.normal,{ st with boxes:=st.boxes.take nb }) else none
  |(.nJ _ _,_)=>none
  |p=>some p
 |_=>none
def rend (nb:Nat):Ex×St→Option (Ex×St)
 |(.normal,st)=>if nb≤st.boxes.length then some (.normal,{ st with boxes:=st.boxes.take nb }) else none
 |(.nJ _ _,_)=>none
 |p=>some p
theorem aa5 (slots:List AV)(ps:List Nat)(assign body:ay)(nb:Nat)(x:List PV)(st:St):Je env slots ps assign body nb x st=(gI slots ps x).bind fun sl=>(den env assign { st with slots:=sl }).bind (YL env body nb):=by
 unfold Je
 rfl
theorem Jf (body:ay)(nb:Nat)(st:St):YL env body nb (.normal,st)=(den env body st).bind (rend nb):=by
 rfl
theorem Ux (nb:Nat)(st:St):rend nb (.normal,st)=if nb≤st.boxes.length then some (.normal,{ st with boxes:=st.boxes.take nb }) else none:=(rfl)
theorem aa6 (nb i:Nat)(st:St):rend nb (.exit i,st)=some (.exit i,st):=(rfl)
theorem aeS (nb:Nat)(st:St):rend nb (.ret,st)=some (.ret,st):=(rfl)
theorem aeT (slots:List AV):gI slots [] []=some slots:=(rfl)
theorem aa7 (slots:List AV)(p:Nat)(ps:List Nat)(v:PV)(vs:List PV):gI slots (p::ps) (v::vs)=gI (slots.set p (.pv v)) ps vs:=(rfl)
theorem aeU (v:PV):AV.froze (.pv v)=.pv v:=(rfl)
theorem aa8 (sz:Nat)(es:List PV):AV.froze (.row sz es)=.pv (.list sz es):=(rfl)
theorem aa9:AV.froze .any=.any:=(rfl)
theorem abb (k:Bool)(l:List AV):AV.froze (.lU k l)=.any:=(rfl)
theorem abd (r:Root)(i j:Nat):AV.froze (.ref r i j)=.any:=(rfl)
theorem abe (r:Root)(i j:Nat):AV.froze (.qx r i j)=.any:=(rfl)
theorem XO (i j:Nat):AV.froze (.aO i j)=.aO i j:=(rfl)
theorem aeV (f:Nat)(l:List AV):AV.froze (.fn f l)=.fn f l:=(rfl)
theorem abf:AV.froze .tq=.tq:=(rfl)
end
def FK:=Zs @aa5 (Zs @Jf (Zs @Ux (Zs @aa6 (Zs @aeS (Zs @aeT (Zs @aa7 (Zs @aeU (Zs @aa8 (Zs @aa9 (Zs @abb (Zs @abd (Zs @abe (Zs @XO (Zs @aeV (Zs @abf (Zs @Uu @aeR))))))))))))))))
end Go.Proofs.YtioijcfcehhmdaaGreatDoor
namespace Go.Proofs.YtioijcfcehhmdaaGreatDoor.V
def dif (a b:List fE)(i:Nat):Bool:=decide (a[i]?≠b[i]?)
def Jg (a b:List fE)(n:Nat):List Nat:=(List.range n).filter (dif a b)
def FM (a b:List fE):List Nat:=Jg a b a.length
def wZ (out:List cZ)(i:Nat):List cZ:=match out.getLast? with
 |some x=>if x.start+x.count=(i:Int) then out.dropLast++[⟨x.start,x.count+1⟩] else out++[⟨i,1⟩]
 |none=>[⟨i,1⟩]
def exts (l:List Nat):List cZ:=l.foldl wZ []
def Gu (a b:List fE):List cZ:=exts (FM a b)
theorem MP (a b:List fE)(n:Nat):Jg a b (n+1)=if dif a b n then Jg a b n++[n] else Jg a b n:=by
 simp only [Jg,List.range_succ,List.filter_append,List.filter_cons,List.filter_nil]
 cases dif a b n<;>simp
theorem iE (pre:List cZ)(x:cZ)(i:Nat):wZ (pre++[x]) i=if x.start+x.count=(i:Int) then pre++[⟨x.start,x.count+1⟩] else pre++[x]++[⟨i,1⟩]:=by
 simp [wZ]
theorem rG (l:List Nat)(i:Nat):exts (l++[i])=wZ (exts l) i:=by simp [exts]
theorem jV {α:Type}(l:List α):l=[]∨∃ p x,l=p++[x]:=by
 rcases List.eq_nil_or_concat l with h|⟨p,x,h⟩
 ·exact .inl h
 ·exact .inr ⟨p,x,by rw [h];simp⟩
theorem DY:∀ (n:Nat) (l:List Nat),l.length=n→∀ i:Nat,∃ pre x,exts (l++[i])=pre++[x]∧x.start+x.count=(i:Int)+1∧0≤x.start∧1≤x.count∧pre.length≤l.length:=by
 intro n
 induction n with
 |zero =>
  intro l hl i
  have:=Zaz hl
  subst this
  exact ⟨[],⟨i,1⟩,rfl,rfl,by simp,by simp,by simp⟩
 |succ n ih =>
  intro l hl i
  rcases jV l with rfl|⟨p,j,rfl⟩
  ·simp at hl
  ·obtain ⟨pre,x,e,h1,h2,h3,h4⟩:=ih p (by simpa using hl) j
   rw [rG,e,iE]
   split
   ·rename_i hx
    exact ⟨pre,_,rfl,by simp;omega,h2,by simp;omega,by simp;omega⟩
   ·exact ⟨pre++[x],_,rfl,by simp,by simp,by simp,by simp;omega⟩
theorem aiM {a b:List fE}{n i:Nat}(h:i∈Jg a b n):i<n:=by
 simp [Jg] at h;exact h.1
theorem MQ {n:Nat}(h:n≤lim):IntKind.i64.wrap (((n+1:Nat):Int) - 1)=(n:Int):=by
 rw [bn (by unfold lim at h;omega)];omega
theorem amc {a b:List fE}:cal env 117 [.list 8 (a.map je),.list 8 (b.map je)]=some [(.func 140 [.dM [.list 8 (a.map je)] 0,.dM [.list 8 (b.map je)] 0],false)]:=by
 rw [ah alB rfl];simp only [TM];simp only [start,aJ,aT,aH,aS,aB,aC,aI,aQ,Nat.reduceAdd,Nat.reduceSub]
 simp only [bg,reduceCtorEq,Nat.reduceEqDiff,Nat.reduceAdd,Nat.reduceLT,Nat.reduceLeDiff,Z1]
def yI (l:List Nat):List (List PV):=l.map fun (i:Nat)=>[PV.int .i64 (i:Int)]
theorem aiN (l:List Nat)(i:Nat):yI (l++[i])=yI l++[[.int .i64 (i:Int)]]:=by simp [yI]
theorem aiO {a b:List fE}(hl:a.length≤lim)(hab:a.length=b.length):iter env 140 [.dM [.list 8 (a.map je)] 0,.dM [.list 8 (b.map je)] 0] none=some (yI (FM a b)):=by
 have loop:∀ {st:St} (h:st.head [0,1,2,6,7] st.boxes.length=some ⟨[.tq,.pv (.dM [.list 8 (a.map je)] 0),.pv (.dM [.list 8 (b.map je)] 0),.any,.any,.any,.pv (.int .i64 a.length),.pv (.int .i64 (0:Nat)),.any,.any,.any,.any,.any,.any,.any,.any,.any,.any,.any,.any,.any,.any,.any,.any,.any,.any],[],yI (Jg a b 0),some none⟩),
   den env IY st=some (.normal,⟨[.any,.any,.any,.any,.any,.any,.any,.any,.any,.any,.any,.any,.any,.any,.any,.any,.any,.any,.any,.any,.any,.any,.any,.any,.any,.any],[],yI (Jg a b a.length),some none⟩):=by
  intro st h
  unfold IY
  refine bM (env:=env) a.length (fun i=>⟨[.tq,.pv (.dM [.list 8 (a.map je)] 0),.pv (.dM [.list 8 (b.map je)] 0),.any,.any,.any,.pv (.int .i64 a.length),.pv (.int .i64 i),.any,.any,.any,.any,.any,.any,.any,.any,.any,.any,.any,.any,.any,.any,.any,.any,.any,.any],[],yI (Jg a b i),some none⟩) (fun _=>some (.normal,⟨[.any,.any,.any,.any,.any,.any,.any,.any,.any,.any,.any,.any,.any,.any,.any,.any,.any,.any,.any,.any,.any,.any,.any,.any,.any,.any],[],yI (Jg a b a.length),some none⟩)) h (fun _=>rfl) (fun _=>rfl) ?_ ?_
  ·intro i rb hi ih
   have hi1:=bF hi hl
   have hj:i<b.length:=by omega
   have F1:((i:Int)<(a.length:Int))=True:=eq_true (by omega)
   by_cases hd:a[i]=b[i]
   ·simp only [BR,F1,je,au hi,au hj,zb,ZS hi,ZS hj,BU,iP,uh,hd,decide_true,bg,reduceCtorEq,Nat.reduceEqDiff,Nat.reduceAdd,Nat.reduceLT,Nat.reduceLeDiff,Z1]
    rw [ih _ (by simp only [hi1];rw [MP,if_neg (by simp [dif,ZS hi,ZS hj,hd])];rfl)]
   ·have hdd:dif a b i=true:=by simp [dif,ZS hi,ZS hj,hd]
    have hdf:=decide_eq_false hd
    simp only [BR,F1,je,au hi,au hj,zb,ZS hi,ZS hj,BU,iP,uh,hdf,bg,reduceCtorEq,Nat.reduceEqDiff,Nat.reduceAdd,Nat.reduceLT,Nat.reduceLeDiff,Z1]
    rw [ih _ (by simp only [hi1];rw [MP,if_pos hdd,aiN];rfl)]
  ·intro rb
   simp only [BR,Zap,bg,reduceCtorEq,Nat.reduceEqDiff,Nat.reduceAdd,Nat.reduceLT,Nat.reduceLeDiff,Z1]
   rfl
 rw [DW alT rfl rfl]
 simp only [Ul,P6,aJ,aT,aH,aS,aB,aC,aI,aQ,Nat.reduceAdd,Nat.reduceSub]
 simp only [bg,reduceCtorEq,Nat.reduceEqDiff,Nat.reduceAdd,Nat.reduceLT,Nat.reduceLeDiff,Z1]
 rw [loop]
 rotate_left
 ·rfl
 ·rfl
def Uy (l:List Nat):Int:=match l.getLast? with
 |some i=>i+1
 |none=>-1
theorem Jh (l:List Nat)(i:Nat):Uy (l++[i])=(i:Int)+1:=by simp [Uy]
theorem Uz {a b:List fE}{j:Nat}{i:Nat}(h:(FM a b)[j]?=some i):i<a.length∧j≤i∧∀ k∈(FM a b).take j,k<i:=by
 have hs:(FM a b).Pairwise (·<·):=(List.pairwise_lt_range (n:=a.length)).filter _
 obtain ⟨hj,rfl⟩:=Z6.1 h
 refine ⟨aiM (zR hj),?_,?_⟩
 ·have:∀ (l:List Nat),l.Pairwise (·<·)→∀ (j:Nat) (hj:j<l.length),j≤l[j]:=by
   intro l
   induction l with
   |nil=>intro _ j hj;simp at hj
   |cons x l ih =>
    intro hp j hj
    cases j with
    |zero=>simp
    |succ j =>
     have h1:=ih (Zb7.1 hp).2
     simp only [za,Nat.add_lt_add_iff_right] at hj
     simp only [List.getElem_cons_succ]
     cases j with
     |zero=>have:=(Zb7.1 hp).1 l[0] (zR hj);omega
     |succ j =>
      have h2:=h1 (j+1) hj
      have h3:∀ (m:Nat) (hm:m<l.length),x+m+1≤l[m]:=by
       intro m
       induction m with
       |zero=>intro hm;have:=(Zb7.1 hp).1 l[0] (zR hm);omega
       |succ m ihm =>
        intro hm
        have:=ihm (by omega)
        have h4:=Zb2.1 (Zb7.1 hp).2 m (m+1) (by omega) hm (by omega)
        omega
      have:=h3 (j+1) hj
      omega
  exact this _ hs j hj
 ·intro k hk
  obtain ⟨m,hm,rfl⟩:=List.mem_iff_getElem.1 hk
  rw [List.getElem_take]
  simp only [Zac] at hm
  exact Zb2.1 hs m j (by omega) hj (by omega)
theorem apc {a b:List fE}(hl:a.length≤lim)(hab:a.length=b.length):cal env 77 [.list 8 (a.map je),.list 8 (b.map je)]=some [(.list 2 ((Gu a b).map cO),true)]:=by
 have e1:=amc (a:=a) (b:=b)
 rw [ah aoS rfl];simp only [aej];simp only [start,aJ,aT,aH,aS,aB,aC,aI,aQ,Nat.reduceAdd,Nat.reduceSub]
 simp only [e1,bg,reduceCtorEq,Nat.reduceEqDiff,Nat.reduceAdd,Nat.reduceLT,Nat.reduceLeDiff,Z1]
 rw [P7 (env:=env) (fun j=>[⟨false,[.row 2 ((exts ((FM a b).take j)).map cO)]⟩,⟨false,[.pv (.int .i64 (Uy ((FM a b).take j)))]⟩]) (xs:=yI (FM a b)) rfl (aiO hl hab) rfl ?_]
 ·simp only [yI,Z2,ZaI,FK,bg,reduceCtorEq,Nat.reduceEqDiff,Nat.reduceAdd,Nat.reduceLT,Nat.reduceLeDiff,Z1]
  rfl
 ·intro j x hx sl0
  simp only [yI,zb,Zat] at hx
  obtain ⟨i,hi,rfl⟩:=hx
  obtain ⟨k1,k2,k3⟩:=Uz hi
  have hlim:lim=1073741824:=rfl
  have hj:=(Z6.1 hi).1
  have ht:(FM a b).take (j+1)=(FM a b).take j++[i]:=by rw [List.take_add_one,hi];rfl
  have hlen:((FM a b).take j).length=j:=by simp;omega
  rw [ht]
  rcases jV ((FM a b).take j) with h0|⟨p,q,h0⟩
  ·have F2:((i:Int)==-1)=false:=by simp
   have F3:(0+1≤lim)=True:=eq_true (by omega)
   have F4:IntKind.i64.wrap ((i:Int)+1)=(i:Int)+1:=bn (by omega)
   have e0:exts ([]:List Nat)=[]:=rfl
   have e1:Uy ([]:List Nat)=-1:=rfl
   have e2:exts [i]=[⟨i,1⟩]:=rfl
   have e3:Uy [i]=(i:Int)+1:=rfl
   refine ⟨?_,?_⟩
   rotate_left
   ·simp only [h0,Gp,Gq,F2,F3,F4,e0,e1,e2,e3,cO,Zai,FK,bg,reduceCtorEq,Nat.reduceEqDiff,Nat.reduceAdd,Nat.reduceLT,Nat.reduceLeDiff,Z1]
    rfl
  ·obtain ⟨pre,⟨s,c⟩,e0,h1,h2,h3,h4⟩:=DY _ p rfl q
   have hqi:q<i:=k3 q (by rw [h0];simp)
   simp only at h1 h2 h3
   have hpl:p.length+1=j:=by rw [h0] at hlen;simpa using hlen
   have F3:=MQ (n:=pre.length) (by omega)
   have F4:IntKind.i64.wrap ((i:Int)+1)=(i:Int)+1:=bn (by omega)
   have F5:IntKind.i64.wrap (c+1)=c+1:=bn (by omega)
   have F6:(pre.length+1+1≤lim)=True:=eq_true (by omega)
   have F7:index (.int .i64 (pre.length:Int)) (pre.length+1)=some pre.length:=au (by omega)
   by_cases hc:(i:Int)=(q:Int)+1
   ·have F8:((i:Int)==(q:Int)+1)=true:=by simpa using hc
    have e2:exts (p++[q]++[i])=pre++[⟨s,c+1⟩]:=by rw [rG,e0,iE,if_pos (by simp only;omega)]
    refine ⟨?_,?_⟩
    rotate_left
    ·simp only [h0,Gp,Gq,Jh,e0,e2,F3,F4,F5,F6,F7,F8,cO,ZaK,Zaj,Zai,FK,bg,reduceCtorEq,Nat.reduceEqDiff,Nat.reduceAdd,Nat.reduceLT,Nat.reduceLeDiff,Z1]
     rfl
   ·have F8:((i:Int)==(q:Int)+1)=false:=by simpa using hc
    have e2:exts (p++[q]++[i])=pre++[⟨s,c⟩]++[⟨i,1⟩]:=by rw [rG,e0,iE,if_neg (by simp only;omega)]
    refine ⟨?_,?_⟩
    rotate_left
    ·simp only [h0,Gp,Gq,Jh,e0,e2,F3,F4,F5,F6,F7,F8,cO,ZaK,Zaj,Zai,FK,bg,reduceCtorEq,Nat.reduceEqDiff,Nat.reduceAdd,Nat.reduceLT,Nat.reduceLeDiff,Z1]
     rfl
end Go.Proofs.YtioijcfcehhmdaaGreatDoor.V
