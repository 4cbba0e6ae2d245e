/-
  Part 4 of the texts that the statement stands on.
-/
import Derived.Test.YthccglceomoboaaGreatDoorW3
import Derived.ProofKit
import Derived.SizedLaws
import Derived.OpenShut
import Derived.Deep.Strs
import Derived.IntWalk
import Derived.Sort.Defs
import Derived.Lib.BitFns
import Derived.Shelf.Lays7
import Derived.Ground.Names7Prog
import Derived.Test.YthccglceomoboaaGreatDoorProg
import Derived.Shelf.Spec.TrailingZeros
set_option linter.all false
open And renaming intro → Zs
open List renaming getElem?_eq_getElem → ZZ, getElem?_eq_some_iff → Z1, length_map → za, length_cons → zc, getElem?_map → zd, all_eq_true → zw, mem_of_getElem? → zz, getElem?_append_right → zP, getElem?_append_left → zR, replicate → Zae, getD_eq_getElem?_getD → Zaf, drop_eq_getElem_cons → Zah, mem_singleton → Zao, map_cons → Zat, map_nil → Zav, drop_zero → ZaK, take_append_drop → ZaQ, mem_iff_getElem? → ZaR, take_length → ZaW, nil_append → Za0, drop_length → Zbq, take_zero → Zbt, take_succ_cons → Zbx, take_of_length_le → Zby, map_map → Zcd, drop_drop → Zcj, mapM_cons → Zck, foldl_nil → ZcK, any_cons → ZcR, cons → Zc8, take_nil → Zds, any_map → ZdD
open Nat renaming beq → zb, le_refl → zg, zero_add → Zaj, eq_zero_or_pos → ZaT
open Bool renaming true_and → Zai, false_and → ZaX, or_false → ZcS
open Option renaming bind_eq_some_iff → ZaJ, bind_some → Za1, bind → Zct
open Int renaming lt_irrefl → ZaL, toNat_of_nonneg → Zbw
namespace Go.Proofs.YthccglceomoboaaGreatDoor
open Go.RowKit Go.ChangeShapes Go.WideShapes Go.ChangeAt
theorem Oz {T:Tags}{w:World}{b:Bool}{v:Value}(h:uG T w [(.bool b,false)] v):v=.bool b:=by
 obtain ⟨arr,h1,h2,h3⟩:=h
 have ha:arr.size=1:=h1
 have e0:arr[0]?=some arr[0]:=Array.getElem?_eq_getElem (by omega)
 have hv:v=arr[0]:=by rw [h2,if_pos ha,Array.getD_eq_getD_getElem?,e0];rfl
 have hr:aA (fun b=>T b=.ro) w (.bool b) arr[0]:=h3 0 (.bool b,false) arr[0] rfl e0
 rw [hv]
 exact hr.jw
def qJ (w:World):Prop:=jR (fun b=>if b<w.heap.size then .ro else .other) w
theorem SI {P:Program}{env:Env}{f:Nat}{args:List PV}{vs:List Value}{w:World}(hE:Ae P env)(h:cal env f args=some [(.bool true,false)])(hl:vs.length=args.length)
  (hr:∀ (i:Nat) x v,args[i]?=some x→vs[i]?=some v→aA (fun b=>b<w.heap.size) w x v) (hG:qJ w):Calls P f vs.toArray w (fun e w'=>e=.returned (.bool true)∧Below w.heap.size w w'):=by
 obtain ⟨n,hn⟩:=jC h
 have hC:=(qh hE hn).2 (fun b=>if b<w.heap.size then .ro else .other) w vs (fun b=>by
  by_cases hb:b<w.heap.size
  ·exact .inl (if_pos hb)
  ·exact .inr (if_neg hb)) (fun b hb=>if_neg (by omega)) hl (fun i x v hx hv=>(hr i x v hx hv).frame fun b hb _=>⟨if_pos hb,rfl⟩) hG
 refine hC.mono ?_
 rintro e w' ⟨v,T',rfl,h1,_,_,h2⟩
 exact ⟨by rw [Oz h2],h1⟩
def EZ (w:World):List PV→List Value→Prop
 |[],[]=>True
 |x::xs,v::vs=>aA (fun b=>b<w.heap.size) w x v∧EZ w xs vs
 |_,_=>False
theorem EZ.get {w:World}:∀ {xs:List PV} {vs:List Value},EZ w xs vs→vs.length=xs.length∧∀ (i:Nat) x v,xs[i]?=some x→vs[i]?=some v→aA (fun b=>b<w.heap.size) w x v
 |[],[],_=>⟨rfl,fun i x v hx=>by simp at hx⟩
 |x::xs,v::vs,h=>by
  obtain ⟨h1,h2⟩:=h
  obtain ⟨k1,k2⟩:=h2.get
  refine ⟨by simp [k1],fun i y u hy hu=>?_⟩
  cases i with
  |zero=>cases hy;cases hu;exact h1
  |succ i=>exact k2 i y u hy hu
 |[],_::_,h=>h.elim
 |_::_,[],h=>h.elim
theorem Jp {P:Program}{env:Env}{f:Nat}{args:List PV}{vs:List Value}{w:World}(hE:Ae P env)(h:cal env f args=some [(.bool true,false)])(hr:EZ w args vs)(hG:qJ w:=by exact qJ.none):Calls P f vs.toArray w (fun e w'=>e=.returned (.bool true)∧Below w.heap.size w w') :=
 SI hE h hr.get.1 hr.get.2 hG
def BH (w:World)(cs:List Value)(ps:List PV):Prop :=
 cs.length=ps.length∧(∀ c∈cs,c.oneCell'=true)∧∀ (j:Nat) x v,ps[j]?=some x→cs[j]?=some v→aA (fun b=>b<w.heap.size) w x v
def lC (P:Program)(t:TypeId)(n:Nat)(S:List PV→Prop):Prop :=
 P.cellsOf t=n∧∀ {H:Type} {enc:TypeId×Value→H} {w:World} {fuel:Nat} {cs:List Value} {x:DataW H×List MemPlace},DataW.trod enc P w 0 (fun _=>true) true fuel t cs=some x→∃ ps,S ps∧ps.length=n∧BH w cs ps
def SInt (k:IntKind)(ps:List PV):Prop:=∃ n,(Lit.int k n).wf=true∧ps=[.int k n]
def ank (ps:List PV):Prop:=∃ b,ps=[.bool b]
def anl (n:Nat)(S:List PV→Prop)(ps:List PV):Prop:=ps.length=n∧∀ p∈ps,S [p]
def aaG (n:Nat)(S:List PV→Prop)(wr:List PV→PV)(ps:List PV):Prop:=∃ es,ps=[.list n es]∧∀ x∈es,∃ q,S q∧x=wr q
def OA:List (List PV→Prop)→List PV→Prop
 |[],ps=>ps=[]
 |S::Ss,ps=>∃ p q,ps=p++q∧S p∧OA Ss q
section
variable {P:Program}{t e:TypeId}{n m:Nat}{S:List PV→Prop}{k:IntKind}
theorem sZ {w:World}{c:Value}{p:PV}(hc:c.oneCell'=true)(h:aA (fun b=>b<w.heap.size) w p c):BH w [c] [p] :=
 ⟨rfl,fun x hx=>by rw [Zao.1 hx];exact hc,fun j x v hx hv=>by
  cases j with
  |zero=>cases hx;cases hv;exact h
  |succ j=>simp at hx⟩
theorem lC.int (ht:P.underlying t=some (.int k))(hc:P.cellsOf t=1):lC P t 1 (SInt k):=⟨hc,fun h=>by
 obtain ⟨n,rfl,_,hw⟩:=DataW.trod_int ht h
 exact ⟨[.int k n],⟨n,hw,rfl⟩,rfl,sZ rfl (.int k n)⟩⟩
theorem lC.bool (ht:P.underlying t=some .bool)(hc:P.cellsOf t=1):lC P t 1 ank:=⟨hc,fun h=>by
 obtain ⟨b,rfl,_⟩:=DataW.trod_bool ht h
 exact ⟨[.bool b],⟨b,rfl⟩,rfl,sZ rfl (.bool b)⟩⟩
theorem xX {α:Type}{p:Nat→α→Prop}:∀ n:Nat,(∀ i,i<n→∃ y,p i y)→∃ l:List α,l.length=n∧∀ i x,l[i]?=some x→p i x
 |0,_=>⟨[],rfl,fun i x h=>by simp at h⟩
 |n+1,h=>by
  obtain ⟨l,h1,h2⟩:=xX n fun i hi=>h i (by omega)
  obtain ⟨y,hy⟩:=h n (by omega)
  refine ⟨l++[y],by simp [h1],fun i x hx=>?_⟩
  by_cases hi:i<n
  ·rw [zR (by omega)] at hx;exact h2 i x hx
  ·have:=(Z1.1 hx).1
   obtain rfl:i=n:=by simp at this;omega
   rw [zP (by omega),h1,Nat.sub_self] at hx
   cases hx
   exact hy
theorem lC.arr (ht:P.underlying t=some (.array n e))(he:lC P e 1 S)(hc:P.cellsOf t=n):lC P t n (anl n S):=⟨hc,fun {H enc w fuel cs x} h=>by
 obtain ⟨xs,m,_,_,hl,hx,hE⟩:=DataW.trod_array ht h
 rw [hc] at hl
 obtain ⟨l,h1,h2⟩:=xX (p:=fun i (b:PV)=>S [b]∧∃ c,cs[i]?=some c∧c.oneCell'=true∧aA (fun b=>b<w.heap.size) w b c) n fun i hi=>by
  have:=hE i hi
  rw [ZZ (by omega),he.1] at this
  obtain ⟨ps,g1,g2,g3,g4,g5⟩:=he.2 this
  match ps,g2 with
  |[p],_ =>
   have hci:cs[i]?=some cs[i]:=ZZ (by omega)
   have h0:((cs.drop (i*1)).take 1)[0]?=some cs[i]:=by
    rw [List.getElem?_take,if_pos (by decide),List.getElem?_drop]
    simpa using hci
   exact ⟨p,g1,cs[i],hci,g4 _ (zz h0),g5 0 p _ rfl h0⟩
 refine ⟨l,⟨h1,fun p hp=>?_⟩,h1,by omega,fun c hc=>?_,fun j x v hx hv=>?_⟩
 ·obtain ⟨i,hi⟩:=ZaR.1 hp
  exact (h2 i p hi).1
 ·obtain ⟨i,hi⟩:=ZaR.1 hc
  have hil:i<l.length:=by
   have:=(Z1.1 hi).1
   omega
  obtain ⟨_,c',e1,e2,_⟩:=h2 i l[i] (ZZ hil)
  rw [hi] at e1;cases e1;exact e2
 ·obtain ⟨_,c',e1,_,e3⟩:=h2 j x hx
  rw [hv] at e1;cases e1;exact e3⟩
theorem zh {w:World}{b off:Nat}{v:Value}(h:w.cell? ⟨b,off,none⟩=some v):bV w b:=by
 unfold World.cell? at h
 split at h
 ·rename_i arr E q hb
  exact ⟨arr,E,q,hb⟩
 ·cases h
theorem lC.list {wr:List PV→PV}(ht:P.underlying t=some (.slice e))(hc:P.cellsOf t=1)(hr:lC P e n S)(hpos:0<n)(hw:∀ ps,S ps→ps.length=n→(wr ps).cells=ps):lC P t 1 (aaG n S wr):=⟨hc,fun {H enc w fuel cs x} h=>by
 rcases DataW.trod_slice ht h with ⟨rfl,_⟩|⟨a,len,cap,elems,rest,m,_,rfl,_,_,hl,hm,hel,hE,hR,_⟩
 ·exact ⟨[.list n []],⟨[],rfl,fun x hx=>by cases hx⟩,rfl,sZ rfl (.nil n none)⟩
 ·obtain ⟨l,h1,h2⟩:=xX (p:=fun i (y:List Value×List PV)=>w.cells? 0 (a.add (i*n)) n=some y.1∧S y.2∧y.2.length=n∧BH w y.1 y.2) len fun i hi=>by
   have:=hE i hi
   rw [ZZ (by omega),hr.1,ZaJ] at this
   obtain ⟨c,h3,h4⟩:=this
   obtain ⟨ps,g1,g2,g3⟩:=hr.2 h4
   exact ⟨(c,ps),h3,g1,g2,g3⟩
  refine ⟨[.list n (l.map fun y=>wr y.2)],⟨_,rfl,fun x hx=>?_⟩,rfl,sZ rfl ?_⟩
  ·obtain ⟨y,hy,rfl⟩:=List.mem_map.1 hx
   obtain ⟨i,hi⟩:=ZaR.1 hy
   exact ⟨y.2,(h2 i y hi).2.1,rfl⟩
  ·by_cases hcap:cap=0
   ·have:len=0:=by omega
    subst hcap;subst this
    have:l=[]:=List.eq_nil_of_length_eq_zero h1
    subst this
    exact .nil n (some a)
   ·-- there are cells
    have hcell:∃ off v,w.cell? ⟨a.block,off,none⟩=some v∧a.spot=none:=by
     have OB:∀ (i:Nat) (c:List Value),w.cells? 0 (a.add (i*n)) n=some c→∃ off v,w.cell? ⟨a.block,off,none⟩=some v∧a.spot=none:=fun i c h3=>by
      obtain ⟨_,hc0,h4⟩:=World.cells?_some h3
      have h5:=h4 0 hpos
      rw [ZZ (by omega)] at h5
      have hs:(a.add (i*n)).spot=none:=by simpa [Addr.add] using World.cell?_spot h5
      have hs0:a.spot=none:=by
       unfold Addr.add at hs
       split at hs
       ·exact hs
       ·rename_i hne
        by_cases h0:i*n=0
        ·rename_i q;exact absurd h0 (by simpa using hne)
        ·rcases ZaT i with hi0|hi0
         ·subst hi0;simp at h0
         ·-- the row begins at a: its first cell
          have:0<len∨len=0:=by omega
          rcases this with hlen|hlen
          ·obtain ⟨y,hy⟩:∃ y,l[0]?=some y:=⟨l[0],ZZ (by omega)⟩
           obtain ⟨_,hc1,h6⟩:=World.cells?_some (h2 0 y hy).1
           have h7:=h6 0 hpos
           rw [ZZ (by omega)] at h7
           simpa [Addr.add] using World.cell?_spot h7
          ·have hrl:0<rest.length:=by have:=(hR rfl).1;omega
           have:=(hR rfl).2 0 (by omega)
           have h8:rest[0]?=some rest[0]:=ZZ hrl
           rw [h8,hr.1,hlen,ZaJ] at this
           obtain ⟨c1,h9,_⟩:=this
           obtain ⟨_,hc1,h6⟩:=World.cells?_some h9
           have h7:=h6 0 hpos
           rw [ZZ (by omega)] at h7
           simpa [Addr.add] using World.cell?_spot h7
      obtain ⟨b,off,spot⟩:=a
      simp only at hs0
      subst hs0
      rw [Addr.add_lit,Addr.add_lit] at h5
      exact ⟨_,_,h5,rfl⟩
     rcases ZaT len with hlen|hlen
     ·have hrl:0<rest.length:=by have:=(hR rfl).1;omega
      have:=(hR rfl).2 0 (by omega)
      have h8:rest[0]?=some rest[0]:=ZZ hrl
      rw [h8,hr.1,ZaJ] at this
      obtain ⟨c1,h9,_⟩:=this
      exact OB _ c1 h9
     ·obtain ⟨y,hy⟩:∃ y,l[0]?=some y:=⟨l[0],ZZ (by omega)⟩
      exact OB 0 _ (h2 0 y hy).1
    obtain ⟨aqr,v0,hv0,hspot⟩:=hcell
    obtain ⟨b,off,spot⟩:=a
    simp only at hspot hv0
    subst hspot
    have hC:bV w b:=zh hv0
    have hget:∀ (i:Nat) x,(l.map fun y=>wr y.2)[i]?=some x→∃ y,l[i]?=some y∧x=wr y.2:=fun i x hx=>by
     rw [zd] at hx
     cases e:l[i]? with
     |none=>rw [e] at hx;cases hx
     |some y=>rw [e] at hx;exact ⟨y,rfl,(Option.some.inj hx).symm⟩
    have hlen:(l.map fun y=>wr y.2).length=len:=by simp [h1]
    have:=aA.list (ok:=fun b=>b<w.heap.size) (w:=w) n (l.map fun y=>wr y.2) b off cap (fun i j=>(((l[i]?).map (·.1)).getD []).getD j default) hC.lt hC (by rw [hlen];exact hl) hm
     (fun x hx=>by
      obtain ⟨i,hi⟩:=ZaR.1 hx
      obtain ⟨y,hy,rfl⟩:=hget i x hi
      obtain ⟨_,g1,g2,_⟩:=h2 i y hy
      rw [hw _ g1 g2,g2])
     (fun i x j p hi hj=>by
      obtain ⟨y,hy,rfl⟩:=hget i x hi
      obtain ⟨g0,g1,g2,g3,g4,g5⟩:=h2 i y hy
      rw [hw _ g1 g2] at hj
      have hjn:j<n:=by have:=(Z1.1 hj).1;omega
      obtain ⟨_,hc1,h6⟩:=World.cells?_some g0
      have h7:=h6 j hjn
      have hcj:y.1[j]?=some y.1[j]:=ZZ (by omega)
      have hd:(((l[i]?).map (·.1)).getD []).getD j default=y.1[j]:=by
       rw [hy];simp [Zaf,hcj]
      rw [hd]
      rw [hcj,Addr.add_lit,Addr.add_lit] at h7
      exact ⟨h7,g4 _ (zz hcj)⟩)
     (fun i x j p hi hj=>by
      obtain ⟨y,hy,rfl⟩:=hget i x hi
      obtain ⟨g0,g1,g2,g3,g4,g5⟩:=h2 i y hy
      rw [hw _ g1 g2] at hj
      have hjn:j<n:=by have:=(Z1.1 hj).1;omega
      have hcj:y.1[j]?=some y.1[j]:=ZZ (by omega)
      have hd:(((l[i]?).map (·.1)).getD []).getD j default=y.1[j]:=by
       rw [hy];simp [Zaf,hcj]
      rw [hd]
      exact g5 j p _ hj hcj)
    rw [hlen] at this
    exact this⟩
theorem BH.append {w:World}{c1 c2:List Value}{p1 p2:List PV}(h1:BH w c1 p1)(h2:BH w c2 p2):BH w (c1++c2) (p1++p2):=by
 obtain ⟨a1,a2,a3⟩:=h1
 obtain ⟨b1,b2,b3⟩:=h2
 refine ⟨by simp [a1,b1],fun c hc=>?_,fun j x v hx hv=>?_⟩
 ·rcases List.mem_append.1 hc with h|h
  ·exact a2 c h
  ·exact b2 c h
 ·by_cases hj:j<p1.length
  ·rw [zR hj] at hx
   rw [zR (by omega)] at hv
   exact a3 j x v hx hv
  ·rw [zP (by omega)] at hx
   rw [zP (by omega),a1] at hv
   exact b3 _ x v hx hv
inductive SK (P:Program):Nat→List Field→List (List PV→Prop)→Nat→Prop
 |nil (o:Nat):SK P o [] [] 0
 |cons {o n m:Nat} {f:Field} {fs:List Field} {S:List PV→Prop} {Ss:List (List PV→Prop)}:f.offset=o→lC P f.type n S→SK P (o+n) fs Ss m→SK P o (f::fs) (S::Ss) (n+m)
theorem SK.read {o:Nat}{fs:List Field}{Ss:List (List PV→Prop)}(h:SK P o fs Ss m){H:Type}{enc:TypeId×Value→H}{w:World}{fuel:Nat}{cs:List Value}{xs:List (DataW H×List MemPlace)}(hl:cs.length=o+m)
  (hx:∀ (i:Nat) (f:Field),fs[i]?=some f→∃ x,DataW.trod enc P w 0 (fun _=>true) true fuel f.type ((cs.drop f.offset).take (P.cellsOf f.type))=some x):∃ ps,OA Ss ps∧ps.length=m∧BH w (cs.drop o) ps:=by
 induction h with
 |nil o=>exact ⟨[],rfl,rfl,by rw [List.drop_of_length_le (by omega)];exact (⟨rfl,fun c hc=>(by cases hc),fun j x v hx=>(by simp at hx)⟩:BH w [] [])⟩
 |@cons o n m f fs S Ss h1 h2 h3 ih =>
  obtain ⟨x,h4⟩:=hx 0 f rfl
  rw [h2.1,h1] at h4
  obtain ⟨p,g1,g2,g3⟩:=h2.2 h4
  obtain ⟨q,k1,k2,k3⟩:=ih (by omega) (fun i f hf=>hx (i+1) f hf)
  refine ⟨p++q,⟨p,q,rfl,g1,k1⟩,by simp [g2,k2],?_⟩
  have:cs.drop o=(cs.drop o).take n++cs.drop (o+n):=by rw [← Zcj,ZaQ]
  rw [this]
  exact g3.append k3
theorem lC.struct {fs:Array Field}{Ss:List (List PV→Prop)}(ht:P.underlying t=some (.struct fs))(hf:SK P 0 fs.toList Ss n)(hc:P.cellsOf t=n):lC P t n (OA Ss):=⟨hc,fun {H enc w fuel cs x} h=>by
 obtain ⟨xs,m,_,_,hl,hx,hE⟩:=DataW.trod_struct ht h
 obtain ⟨ps,h1,h2,h3⟩:=hf.read (xs:=xs) (enc:=enc) (w:=w) (fuel:=m) (cs:=cs) (by omega) (fun i f hi=>by
  have hi':fs[i]?=some f:=by simpa using hi
  have:=hE i f hi'
  have hil:i<xs.length:=by rw [hx];exact (Array.getElem?_eq_some_iff.1 hi').1
  exact ⟨xs[i],by rw [this,ZZ hil]⟩)
 exact ⟨ps,h1,h2,by simpa using h3⟩⟩
theorem lC.Vg {f0 f1 f2 f3:Field}{n0 n1 n2 n3:Nat}{S0 S1 S2 S3:List PV→Prop}(ht:P.underlying t=some (.struct #[f0,f1,f2,f3]))(h0:lC P f0.type n0 S0)(h1:lC P f1.type n1 S1)(h2:lC P f2.type n2 S2)(h3:lC P f3.type n3 S3)(o0:f0.offset=0)(o1:f1.offset=0+n0)(o2:f2.offset=0+n0+n1)(o3:f3.offset=0+n0+n1+n2)(hc:P.cellsOf t=n0+(n1+(n2+(n3+0)))):lC P t (n0+(n1+(n2+(n3+0)))) (OA [S0,S1,S2,S3]) :=
 lC.struct ht (show SK P 0 [f0,f1,f2,f3] [S0,S1,S2,S3] (n0+(n1+(n2+(n3+0)))) from .cons o0 h0 (.cons o1 h1 (.cons o2 h2 (.cons o3 h3 (.nil _))))) hc
theorem af9 {H:Type}{enc:TypeId×Value→H}{w:World}{v:Value}{d:DataW H}{p:List MemPlace}(hr:lC P t 1 S)(hone:v.cells.toList=[v])(h:DataW.Trod enc P w 0 (fun _=>true) true t v d p) :
  ∃ q,S [q]∧aA (fun b=>b<w.heap.size) w q v:=by
 obtain ⟨fuel,hf⟩:=h
 obtain ⟨ps,h1,h2,h3,h4,h5⟩:=hr.2 hf
 match ps,h2 with
 |[q],_=>exact ⟨q,h1,h5 0 q v rfl (by rw [hone];rfl)⟩
theorem Vh {H:Type}{enc:TypeId×Value→H}{w:World}{v:Value}{d:DataW H}{p:List MemPlace}{m:Reach}{base:Nat}(ht:P.underlying t=some (.int k))(hr:lC P t 1 S)(hv:Value.okWide P w m base t v)(h:DataW.Trod enc P w 0 (fun _=>true) true t v d p) :
  ∃ q,S [q]∧aA (fun b=>b<w.heap.size) w q v:=by
 have:v.cells.toList=[v]:=by
  simp only [Value.okWide,ht,Cell.okWide] at hv
  cases v<;>simp_all [Cell.ok,Value.cells]
 exact af9 hr this h
end
end Go.Proofs.YthccglceomoboaaGreatDoor
namespace Go.Proofs.YthccglceomoboaaGreatDoor.V
def eI (n:Int):PV:=.int .i64 n
def kS (x:eG):List PV:=x.toList.map fun b=>.int .u8 (b.toNat:Int)
def eP (x:eG):PV:=.agg (kS x)
def E5:eG:=Vector.replicate 8 0
structure bH where
 start:Int
 count:Int
 deriving DecidableEq
def aZ (x:bH):PV:=.agg [.int .i64 x.start,.int .i64 x.count]
structure zy where
 volume:Int
 start:Int
 data:List eG
 deriving DecidableEq
def Zt (x:zy):PV:=.agg [.int .i64 x.volume,.int .i64 x.start,.list 8 (x.data.map eP)]
def dh (l:List eG):PV:=.list 8 (l.map eP)
def Af (l:List bH):PV:=.list 2 (l.map aZ)
abbrev Img:=List (List eG)
theorem iJ (x:eG):(kS x).length=8:=by simp [kS]
theorem Jq {α β:Type}(f:α→β)(l:List α)(x:β):(l.map f++[x]).length=l.length+1:=by simp
theorem Xm {α β:Type}(f:α→β)(l:List α)(x:β):(l.map f++[x])[l.length]?=some x:=by
 have:(l.map f).length=l.length:=by simp
 rw [← this];simp
theorem Xn {α β:Type}(f:α→β)(l:List α)(x y:β):(l.map f++[x]).set l.length y=l.map f++[y]:=by
 have:(l.map f).length=l.length:=by simp
 rw [← this];simp
theorem SL {α β:Type}(f:α→β)(l:List α)(x:β):(l.map f++[x]).take (l.length+1)=l.map f++[x]:=by
 rw [← Jq f l x,ZaW]
theorem aga (l:List PV):(l.map BV.pv).map BV.val=l:=by
 rw [Zcd];exact List.map_id' l
theorem SN (l:List PV):(l.map BV.pv).map BV.frozen=l.map BV.pv:=by
 rw [Zcd];rfl
end Go.Proofs.YthccglceomoboaaGreatDoor.V
namespace Go.Proofs.YthccglceomoboaaGreatDoor
def dR {α:Type}(b:Bool)(x y:α):α:=match b with
 |true=>x
 |false=>y
section
variable {env:Env}{α β:Type}
theorem SQ (x y:α):dR true x y=x:=(rfl)
theorem Dn (x y:α):dR false x y=y:=(rfl)
theorem nM (b:Bool)(x y:Option α)(f:α→Option β):(dR b x y).bind f=dR b (x.bind f) (y.bind f):=by cases b<;>rfl
theorem qj (b:Bool)(x y:Option α)(f:α→β):(dR b x y).map f=dR b (x.map f) (y.map f):=by cases b<;>rfl
theorem Jr (b:Bool)(x y:α):dR (!b) x y=dR b y x:=by cases b<;>rfl
theorem Xo {γ:Type}[BEq γ](a b:γ)(x y:α):dR (a != b) x y=dR (a==b) y x:=by unfold bne;rw [Jr]
theorem anm (b:Bool):(b==true)=b:=by cases b<;>rfl
theorem ano (b:Bool):(b==false)=!b:=by cases b<;>rfl
theorem lN {b:Bool}{x y r:α}(h1:b=true→x=r)(h0:b=false→y=r):dR b x y=r:=by
 cases b
 ·exact h0 rfl
 ·exact h1 rfl
noncomputable def Il (env:Env)(l:List gQ)(st:St):Option St:=ops (den env) env l st
noncomputable def pR (env:Env)(o:gQ)(st:St):Option St:=op (den env) env o st
noncomputable def next (env:Env)(b:au):Ex×St→Option (Ex×St)
 |(.normal,st)=>den env b st
 |r=>some r
def endBlock (id:Nat):Ex×St→Ex×St
 |(.normal,st)=>(.normal,st)
 |(.exit j,st)=>(dR (zb j id) .normal (.exit j),st)
 |(.ret,st)=>(.ret,st)
 |(.oK t n,st)=>(.oK t n,st)
def mM (post:List Nat)(nb:Nat)(p:Ex×St):Option (Ex×St):=(p.2.head post nb).map fun st=>(p.1,st)
def fin (rs:List sK):Ex×St→Option (List pY)
 |(.exit _,_)=>none
 |(.oK _ _,_)=>none
 |(_,st)=>fM st rs
def start (n:Nat)(args:List PV):St:=⟨args.map .pv++Zae (n - args.length) .any,[],[],none⟩
theorem dK (st:St):den env .skip st=some (.normal,st):=by rw [kH];rfl
theorem agb (l:List gQ)(st:St):den env (.ops l) st=(Il env l st).map fun st=>(.normal,st):=by rw [kH];rfl
theorem agc (z a f q)(l:List gQ)(st:St):den env (.qp z a f q l) st=(Il env l (z.foldl St.iF st)).map fun st=>(.normal,st):=by rw [kH];rfl
noncomputable def ai5 (env:Env)(keep:List Nat)(vo:List gQ)(st:St)(l:List gW):Option St:=kW (den env) env keep vo st l
noncomputable def agd (env:Env)(keep:List Nat)(vo:List gQ)(st:St)(x:gW):Option St:=l7 (den env) env keep vo st x
noncomputable def E8 (env:Env)(keep:List Nat)(vo:List gQ)(st s:St)(l:List gW):Option St:=agree s (l.map (l7 (den env) env keep vo st))
def sameAs (s s':St)(r:Option St):Option St:=if s'.same s then r else none
theorem agf (z k vo l)(st:St):den env (.drs z k vo l) st=(ai5 env k vo (z.foldl St.iF st) l).map fun st=>(.normal,st):=by rw [kH];rfl
theorem SS (k vo)(st:St)(x:gW)(l:List gW):ai5 env k vo st (x::l)=(agd env k vo st x).bind fun s=>E8 env k vo st s l:=(rfl)
theorem SV (k vo)(st s:St):E8 env k vo st s []=some s:=(rfl)
theorem OC (k vo)(st s:St)(x:gW)(l:List gW):E8 env k vo st s (x::l)=(agd env k vo st x).bind fun s'=>sameAs s s' (E8 env k vo st s l):=by
 show (l7 (den env) env k vo st x).bind _=_
 unfold agd E8 sameAs
 congr 1
theorem OD (s:St)(r:Option St):sameAs s s r=r:=by
 show (if s.same s then r else none)=r
 rw [St.iY];rfl
theorem agh (k vo)(st:St)(a f q o w):agd env k vo st ⟨a,f,q,o,w⟩=(Il env (bI vo o) st).bind (lZ k st.boxes.length w):=(rfl)
theorem La (k:List Nat)(nb:Nat)(s:St):lZ k nb false s=s.head k s.boxes.length:=by
 unfold lZ
 cases s.head k s.boxes.length<;>rfl
theorem OE (k:List Nat)(nb:Nat)(s:St):lZ k nb true s=(s.head k s.boxes.length).bind fun s=>s.swap2 nb:=(rfl)
theorem Xp (vo:List gQ):bI vo []=[]:=(rfl)
theorem Xq (vo:List gQ)(i:Nat)(l:List Nat):bI vo (i::l)=vo.getD i default::bI vo l:=(rfl)
theorem agi (a b:au)(st:St):den env (.seq a b) st=(den env a st).bind (next env b):=by
 rw [kH]
 show (den env a st).bind _=_
 congr 1
 funext ⟨e,st⟩
 cases e<;>rfl
theorem aaH (c:bF)(a b:au)(st:St):den env (.cond c a b) st=(match st.bU c with
  |some (.bool t)=>dR t (den env a st) (den env b st)
  |_=>none):=by
 rw [kH]
 show (st.bU c).bind _=_
 cases st.bU c with
 |none=>rfl
 |some v =>
  cases v<;>try rfl
  rename_i t
  cases t<;>rfl
theorem Js (i:Nat)(a:au)(st:St):den env (.block i a) st=(den env a st).map (endBlock i):=by
 rw [kH]
 show (den env a st).bind _=_
 cases den env a st with
 |none=>rfl
 |some r =>
  obtain ⟨e,st⟩:=r
  cases e with
  |normal=>rfl
  |ret=>rfl
  |oK t n=>rfl
  |exit j =>
   show some (_,_)=some (_,_)
   by_cases h:j=i
   ·subst h;simp [dR]
   ·have:zb j i=false:=by cases e:zb j i with
    |false=>rfl
    |true=>exact absurd (Nat.eq_of_beq_eq_true e) h
    simp [dR,h,this]
theorem aaI (keep:List Nat)(a:au)(st:St):den env (.loop keep a) st=den env (.round keep st.boxes.length a) st:=by rw [kH];rfl
theorem Jt (keep:List Nat)(nb:Nat)(a:au)(st:St):den env (.round keep nb a) st=(st.head keep nb).bind fun st=>(den env a st).bind (next env (.round keep nb a)):=by
 rw [kH]
 show (st.head keep nb).bind _=_
 congr 1
 funext st
 show (den env a st).bind _=_
 congr 1
 funext ⟨e,st⟩
 cases e<;>rfl
theorem agj (a:au)(st:St):den env (.scp a) st=den env a st:=by
 rw [kH]
 rfl
theorem Xr (pre post:List Nat)(a:au)(st:St):den env (.clean pre post a) st=(st.head pre st.boxes.length).bind fun s=>(den env a s).bind (mM post st.boxes.length):=by
 rw [kH]
 show (st.head pre _).bind _=_
 congr 1
 funext s
 show (den env a s).bind _=_
 congr 1
 funext ⟨e,s⟩
 show (s.head post _).bind _=(s.head post _).map _
 cases s.head post st.boxes.length<;>rfl
theorem aaJ (i:Nat)(st:St):den env (.exit i) st=some (.exit i,st):=by rw [kH];rfl
theorem agk (st:St):den env .ret st=some (.ret,st):=by rw [kH];rfl
theorem OG (b:au)(st:St):next env b (.normal,st)=den env b st:=(rfl)
theorem Xt (b:au)(i:Nat)(st:St):next env b (.exit i,st)=some (.exit i,st):=(rfl)
theorem aaK (b:au)(st:St):next env b (.ret,st)=some (.ret,st):=(rfl)
theorem aaL (b:au)(t:Nat)(n:Int)(st:St):next env b (.oK t n,st)=some (.oK t n,st):=(rfl)
theorem Lc (i t:Nat)(n:Int)(st:St):endBlock i (.oK t n,st)=(.oK t n,st):=(rfl)
noncomputable def thrown (env:Env)(f:Nat)(args:List PV):Option (Option (Nat×Int)):=HY (den env) env f args
def ajV:Ex×St→Option (Option (Nat×Int))
 |(.exit _,_)=>none
 |(.oK t n,_)=>some (some (t,n))
 |_=>some none
theorem OH (st:St):ajV (.normal,st)=some none:=(rfl)
theorem aaM (st:St):ajV (.ret,st)=some none:=(rfl)
theorem aaN (t:Nat)(n:Int)(st:St):ajV (.oK t n,st)=some (some (t,n)):=(rfl)
noncomputable def SX (env:Env)(d f:Nat)(args:List bF)(st:St):Option (Nat×Int)→Option (Ex×St)
 |some (t,n)=>some (.oK t n,st)
 |none=>(Il env [.call d f args] st).map fun st=>(.normal,st)
theorem OI (d f:Nat)(args:List bF)(st:St)(t:Nat)(n:Int):SX env d f args st (some (t,n))=some (.oK t n,st):=(rfl)
theorem OJ (d f:Nat)(args:List bF)(st:St):SX env d f args st none=(Il env [.call d f args] st).map fun st=>(.normal,st):=(rfl)
theorem agl (l:List gQ)(d f:Nat)(args:List bF)(st:St):den env (.dem l d f args) st=(Il env l st).bind fun st1=>(args.mapM st1.bU).bind fun vs=>(thrown env f vs).bind (SX env d f args st1):=by
 rw [kH]
 show (Il env l st).bind _=_
 congr 1
 funext st1
 show (args.mapM st1.bU).bind _=_
 congr 1
 funext vs
 show (thrown env f vs).bind _=_
 congr 1
 funext r
 cases r with
 |some p=>rfl
 |none =>
  show (act (den env) env (.call d f args) st1).map _=((act (den env) env (.call d f args) st1).bind (ops (den env) env [])).map _
  cases act (den env) env (.call d f args) st1<;>rfl
theorem DX (i:Nat)(st:St):endBlock i (.normal,st)=(.normal,st):=(rfl)
theorem Ld (i:Nat)(st:St):endBlock i (.ret,st)=(.ret,st):=(rfl)
theorem Io (i j:Nat)(st:St):endBlock i (.exit j,st)=(dR (zb j i) .normal (.exit j),st):=(rfl)
theorem SY (rs:List sK)(st:St):fin rs (.normal,st)=fM st rs:=(rfl)
theorem agm (rs:List sK)(st:St):fin rs (.ret,st)=fM st rs:=(rfl)
theorem ak {f:Nat}{fn:dQ}{args:List PV}(h:env f=some (.code fn))(hl:args.length=fn.nargs):cal env f args=(den env fn.body (start fn.ntmps args)).bind (Go.Proofs.YthccglceomoboaaGreatDoor.fin fn.results):=by
 unfold cal ji
 rw [h]
 simp only [if_pos hl]
 show (den env fn.body _).bind _=_
 congr 1
 funext ⟨e,st⟩
 cases e<;>rfl
def S9 (n:Nat)(x:kM)(args:List PV):St:=⟨x.av::(args.map .pv++Zae (n - (args.length+1)) .any),x.boxes,[],none⟩
def ajW (x:kM)(rs:List sK):Ex×St→Option (List pY×Option (List PV))
 |(.exit _,_)=>none
 |(.oK _ _,_)=>none
 |(_,st)=>qw x st rs
theorem OL (x:kM)(rs:List sK)(st:St):ajW x rs (.normal,st)=qw x st rs:=(rfl)
theorem aaO (x:kM)(rs:List sK)(st:St):ajW x rs (.ret,st)=qw x st rs:=(rfl)
theorem Td (sz:Nat)(es:List PV)(st:St)(rs:List sK):qw (.row sz es) st rs=(fM st rs).map fun l=>(l,none):=(rfl)
theorem Tf (l:List AV)(st:St)(rs:List sK):qw (.own l) st rs=(fM st rs).map fun l=>(l,none):=(rfl)
theorem Tj (cs:List PV)(st:St)(rs:List sK):qw (.box cs) st rs=(match (st.bn 0).boxes[0]? with
  |some b=>dR b.fz none ((resultList (st.bn 0) rs).map fun l=>(l,some (b.cs.map BV.val)))
  |none=>none):=by
 show (match (st.bn 0).boxes[0]? with
  |some b=>if b.fz then none else (resultList (st.bn 0) rs).map fun l=>(l,some (b.cs.map BV.val))
  |none=>none)=_
 split
 ·rename_i b _
  cases b.fz<;>rfl
 ·rfl
theorem agn (sz:Nat)(es:List PV):(kM.row sz es).av=.row sz es:=(rfl)
theorem agp (l:List AV):(kM.own l).av=.kV true l:=(rfl)
theorem agq (cs:List PV):(kM.box cs).av=.aP 0 0:=(rfl)
theorem agr (sz:Nat)(es:List PV):(kM.row sz es).boxes=[]:=(rfl)
theorem ags (l:List AV):(kM.own l).boxes=[]:=(rfl)
theorem agt (cs:List PV):(kM.box cs).boxes=[⟨false,cs.map .pv⟩]:=(rfl)
theorem kE {f:Nat}{fn:dQ}{x:kM}{args:List PV}(h:env f=some (.code fn))(hl:args.length+1=fn.nargs):wL env f x args=(den env fn.body (S9 fn.ntmps x args)).bind (ajW x fn.results):=by
 unfold wL pq
 rw [h]
 simp only [if_pos hl]
 show (den env fn.body _).bind _=_
 congr 1
 funext ⟨e,st⟩
 cases e<;>rfl
theorem Ag {f:Nat}{g:List PV→Option (List pY)}{args:List PV}(h:env f=some (.ext g)):cal env f args=g args:=by
 unfold cal ji
 rw [h]
theorem OM {keep post:List Nat}{id:Nat}{b:au}{st S0:St}{R:Option (Ex×St)}(h:st.head keep st.boxes.length=some S0)(h2:S0.head keep S0.boxes.length=some S0)
  (key:∀ rb,rb=au.round keep S0.boxes.length b→(((den env b S0).bind (next env rb)).map (endBlock id)).bind (mM post st.boxes.length)=R):den env (.clean keep post (.block id (.loop keep b))) st=R:=by
 rw [Xr,h,Za1,Js,aaI,Jt,h2,Za1]
 exact key _ rfl
theorem aaP {keep:List Nat}{nb:Nat}{b rb:au}{st S1:St}(hrb:rb=.round keep nb b)(h:st.head keep nb=some S1):den env rb st=(den env b S1).bind (next env rb):=by
 rw [hrb,Jt,h,Za1]
noncomputable def nN (env:Env)(id:Nat)(post:List Nat)(nb:Nat)(x:Option (Ex×St)):Option (Ex×St):=(x.map (endBlock id)).bind (mM post nb)
theorem Ju {β:Type}{keep post:List Nat}{id nb:Nat}{b:au}(S:β→St)(R:β→Option (Ex×St))(P:β→Prop)(μ:β→Nat)(x0:β){st:St}(h:st.head keep st.boxes.length=some (S x0))(hP:P x0)
  (hS:∀ x,(S x).boxes.length=nb) (hh:∀ x,(S x).head keep nb=some (S x))
  (step:∀ x rb,P x→(∀ y,μ y<μ x→P y→∀ s,s.head keep nb=some (S y)→nN env id post nb (den env rb s)=R y)→nN env id post nb ((den env b (S x)).bind (next env rb))=R x) :
  den env (.clean keep post (.block id (.loop keep b))) st=R x0:=by
 have hb:st.boxes.length=nb:=by rw [← (xW h).1];exact hS x0
 refine OM h (by rw [hS];exact hh x0) ?_
 intro rb hrb
 rw [hS] at hrb
 rw [hb]
 have key:∀ (k:Nat) (x:β),μ x<k→P x→nN env id post nb ((den env b (S x)).bind (next env rb))=R x:=by
  intro k
  induction k with
  |zero=>intro x hx;omega
  |succ k ih =>
   intro x hx hPx
   refine step x rb hPx fun y hy hPy s hs=>?_
   rw [aaP hrb hs]
   exact ih y (by omega) hPy
 exact key (μ x0+1) x0 (by omega) hP
theorem dL {keep post:List Nat}{id nb:Nat}{b:au}(n:Nat)(S:Nat→St)(R:Nat→Option (Ex×St)){st:St}(h:st.head keep st.boxes.length=some (S 0))(hS:∀ i,(S i).boxes.length=nb)(hh:∀ i,(S i).head keep nb=some (S i))
  (step:∀ i rb,i<n→(∀ s,s.head keep nb=some (S (i+1))→nN env id post nb (den env rb s)=R (i+1))→nN env id post nb ((den env b (S i)).bind (next env rb))=R i)
  (last:∀ rb,nN env id post nb ((den env b (S n)).bind (next env rb))=R n) :
  den env (.clean keep post (.block id (.loop keep b))) st=R 0:=by
 refine Ju S R (fun i=>i≤n) (fun i=>n - i) 0 h (Nat.zero_le _) hS hh fun i rb hi ih=>?_
 by_cases hn:i=n
 ·subst hn;exact last rb
 ·exact step i rb (by omega) fun s hs=>ih (i+1) (by omega) (by omega) s hs
theorem OO {id nb:Nat}{post:List Nat}(st:St):nN env id post nb (some (.normal,st))=mM post nb (.normal,st):=(rfl)
theorem aaQ {id nb:Nat}{post:List Nat}(t:Nat)(n:Int)(st:St):nN env id post nb (some (.oK t n,st))=mM post nb (.oK t n,st):=(rfl)
theorem aaR {id nb:Nat}{post:List Nat}(st:St):nN env id post nb (some (.ret,st))=mM post nb (.ret,st):=(rfl)
theorem Xu {id j nb:Nat}{post:List Nat}(st:St):nN env id post nb (some (.exit j,st))=mM post nb (dR (zb j id) .normal (.exit j),st):=(rfl)
theorem nO {id nb:Nat}{post:List Nat}(b:Bool)(x y:Option (Ex×St)):nN env id post nb (dR b x y)=dR b (nN env id post nb x) (nN env id post nb y):=by cases b<;>rfl
theorem OQ (a:α)(f:α→Option β):(some a).bind f=f a:=(rfl)
theorem OT (f:α→Option β):(none:Option α).bind f=none:=(rfl)
theorem Tm (a:α)(f:α→β):(some a).map f=some (f a):=(rfl)
theorem Tq (f:α→β):(none:Option α).map f=none:=(rfl)
theorem Tt (x y:α):(if True then x else y)=x:=(rfl)
theorem OU (x y:α):(if False then x else y)=y:=(rfl)
theorem BI {γ δ:Type}(x:Option γ)(f:γ→Option δ):(x >>= f)=x.bind f:=(rfl)
theorem ajX {γ:Type}(x:γ):(pure x:Option γ)=some x:=(rfl)
theorem aQ {γ:Type}(a:γ)(l:List γ):(a::l).length=l.length+1:=(rfl)
theorem aX {γ:Type}:([]:List γ).length=0:=(rfl)
theorem aU {γ:Type}(l:List γ):[]++l=l:=(rfl)
theorem aS {γ:Type}(a:γ)(l m:List γ):(a::l)++m=a::(l++m):=(rfl)
theorem OV {γ:Type}(a:γ)(l:List γ)(n:Nat):(a::l).take (n+1)=a::l.take n:=(rfl)
theorem rO {γ:Type}(l:List γ):l.take 0=[]:=(rfl)
theorem OW {γ:Type}(a:γ)(l:List γ)(n:Nat):(a::l).drop (n+1)=l.drop n:=(rfl)
theorem OX {γ:Type}(l:List γ):l.drop 0=l:=(rfl)
theorem Tv {γ:Type}(a:γ)(l:List γ):(a::l)[0]?=some a:=(rfl)
theorem TA {γ:Type}(a:γ)(l:List γ)(n:Nat):(a::l)[n+1]?=l[n]?:=(rfl)
theorem agu {γ:Type}(a0 a1 a2 a3 a4 a5 a6 a7:γ)(l:List γ)(n:Nat):(a0::a1::a2::a3::a4::a5::a6::a7::l)[n+8]?=l[n]?:=(rfl)
theorem OY {γ:Type}(a:γ)(l:List γ)(d:γ):(a::l).getD 0 d=a:=(rfl)
theorem OZ {γ:Type}(a:γ)(l:List γ)(n:Nat)(d:γ):(a::l).getD (n+1) d=l.getD n d:=(rfl)
theorem aaS {γ:Type}(a0 a1 a2 a3 a4 a5 a6 a7:γ)(l:List γ)(n:Nat)(d:γ):(a0::a1::a2::a3::a4::a5::a6::a7::l).getD (n+8) d=l.getD n d:=(rfl)
theorem TB {γ:Type}(a x:γ)(l:List γ):(a::l).set 0 x=x::l:=(rfl)
theorem TD {γ:Type}(a x:γ)(l:List γ)(n:Nat):(a::l).set (n+1) x=a::l.set n x:=(rfl)
theorem agv {γ:Type}(a0 a1 a2 a3 a4 a5 a6 a7 x:γ)(l:List γ)(n:Nat):(a0::a1::a2::a3::a4::a5::a6::a7::l).set (n+8) x=a0::a1::a2::a3::a4::a5::a6::a7::l.set n x:=(rfl)
theorem TF {γ δ:Type}(f:γ→Option δ):([]:List γ).mapM f=some []:=(rfl)
theorem TG {γ:Type}(a:γ)(l:List γ)(p:γ→Bool):(a::l).any p=(p a || l.any p):=(rfl)
theorem Xv {γ:Type}(p:γ→Bool):([]:List γ).any p=false:=(rfl)
theorem TI {γ:Type}(a:γ)(l:List γ)(p:γ→Bool):(a::l).all p=(p a&&l.all p):=(rfl)
theorem Xw {γ:Type}(p:γ→Bool):([]:List γ).all p=true:=(rfl)
theorem Le {γ δ:Type}(f:δ→γ→δ)(b:δ)(a:γ)(l:List γ):(a::l).foldl f b=l.foldl f (f b a):=(rfl)
theorem O1 {γ δ:Type}(f:δ→γ→δ)(b:δ):([]:List γ).foldl f b=b:=(rfl)
theorem aT {γ δ:Type}(f:γ→δ)(a:γ)(l:List γ):(a::l).map f=f a::l.map f:=(rfl)
theorem aY {γ δ:Type}(f:γ→δ):([]:List γ).map f=[]:=(rfl)
theorem aK {γ:Type}(a:γ):Zae 0 a=[]:=(rfl)
theorem aN {γ:Type}(a:γ)(n:Nat):Zae (n+1) a=a::Zae n a:=(rfl)
theorem aaT (st:St):Il env [] st=some st:=(rfl)
theorem Xx (o:gQ)(l:List gQ)(st:St):Il env (o::l) st=(pR env o st).bind (Il env l):=(rfl)
theorem agw {g:Nat}{w:Bool}{o:gQ}(st:St):pR env (.grd g w o) st=(match st.slots.getD g .any with
  |.pv (.bool b)=>dR (b==w) (op1 (den env) env o st) (match bM o with
   |some d=>some (st.put d (.kV false []))
   |none=>some st)
  |.kV _ l=>dR l.isEmpty (match bM o with
   |some d=>some (st.put d (.kV false []))
   |none=>some st) none
  |_=>none):=by
 unfold pR op
 simp only
 generalize st.slots.getD g .any=v
 cases v with
 |pv p =>
  cases p with
  |bool b=>cases b<;>cases w<;>rfl
  |_=>rfl
 |kV k l=>cases l<;>rfl
 |_=>rfl
theorem aaU {d c x y}(st:St):pR env (.pick d c x y) st=(match st.bU c with
  |some (.bool b)=>dR b ((st.bU x).map fun v=>st.put d (.pv v)) ((st.bU y).map fun v=>st.put d (.pv v))
  |_=>none):=by
 show (st.bU c).bind _=_
 cases st.bU c with
 |none=>rfl
 |some v =>
  cases v<;>try rfl
  rename_i t
  cases t
  ·show (st.bU y).bind _=Option.map _ (st.bU y)
   cases st.bU y<;>rfl
  ·show (st.bU x).bind _=Option.map _ (st.bU x)
   cases st.bU x<;>rfl
def nP (d:Nat)(args:List bF)(caps:List AV)(st:St)(fl:Bool)(rs:List pY):Option St :=
 some ((dR (fl&&!(rs.all (·.1.scalar))) (caps.foldl (fun s v=>s.bC (.c .void) v) (args.foldl St.bQ st)) st).layAll d rs)
theorem DY (d:Nat)(args:List bF)(caps:List AV)(st:St)(rs:List pY):nP d args caps st false rs=some (st.layAll d rs):=by
 simp only [nP,ZaX,Dn]
theorem Fa (d:Nat)(args:List bF)(caps:List AV)(st:St)(r:pY)(rs:List pY):nP d args caps st true (r::rs)=dR ((r::rs).all (·.1.scalar)) (some (st.layAll d (r::rs))) (some ((caps.foldl (fun s v=>s.bC (.c .void) v) (args.foldl St.bQ st)).layAll d (r::rs))):=by
 unfold nP
 rw [Zai]
 cases h:(r::rs).all (·.1.scalar)<;>rfl
noncomputable def dcall (env:Env)(d f:Nat)(args:List bF)(caps:List AV)(st:St):Option St :=
 (args.mapM fun x=>st.jD (st.get x)).bind fun l=>(caps.mapM st.snap).bind fun k=>(cal env f (l.map (·.1)++k.map (·.1))).bind (nP d args caps st (l.any (·.2) || k.any (·.2)))
noncomputable def BJ (env:Env)(d f:Nat)(args:List bF)(caps:List PV)(st:St):Option St :=
 (args.mapM fun x=>st.jD (st.get x)).bind fun l=>(cal env f (l.map (·.1)++caps)).bind (nP d args [] st (l.any (·.2)))
theorem Fb (st:St):∀ caps:List PV,(caps.map AV.pv).mapM st.snap=some (caps.map fun v=>(v,false))
 |[]=>rfl
 |c::l=>by
  rw [Zat,Zck,Fb st l]
  rfl
theorem Jv (st:St):∀ caps:List PV,(caps.map AV.pv).foldl (fun s v=>s.bC (.c .void) v) st=st
 |[]=>rfl
 |c::l=>Jv st l
theorem Fe (d f:Nat)(args:List bF)(caps:List AV)(st:St):jE (den env) env d f args caps st=dcall env d f args caps st:=by
 unfold jE dcall
 show Zct _ _=Zct _ _
 congr 1;funext l
 show Zct _ _=Zct _ _
 congr 1;funext k
 show Zct _ _=Zct _ _
 congr 1;funext rs
 show some _=some _
 congr 2
 cases h:(l.any (·.2) || k.any (·.2))&&!(rs.all (·.1.scalar))<;>rfl
theorem BK (d f:Nat)(args:List bF)(caps:List PV)(st:St):dcall env d f args (caps.map .pv) st=BJ env d f args caps st:=by
 unfold BJ dcall
 congr 1;funext l
 rw [Fb,Za1,Zcd,ZdD]
 have h1:(Prod.fst ∘ fun v:PV=>(v,false))=id:=rfl
 have h2:caps.any (Prod.snd ∘ fun v:PV=>(v,false))=false:=by
  induction caps with
  |nil=>rfl
  |cons c cs ih=>simp [ZcR,ih]
 rw [h1,List.map_id,h2,ZcS]
 congr 1;funext rs
 unfold nP
 rw [Jv]
 rfl
theorem aaV {d f args}(st:St):pR env (.call d f args) st=BJ env d f args [] st:=(Fe ..).trans (BK (caps:=[]) ..)
theorem aaW {d f args}(st:St):op1 (den env) env (.call d f args) st=BJ env d f args [] st:=(Fe ..).trans (BK (caps:=[]) ..)
noncomputable def Jw (env:Env)(d f:Nat)(x:bF)(args:List bF)(caps:List AV)(st:St):Option St :=
 (args.mapM fun x=>st.jD (st.get x)).bind fun l=>(caps.mapM st.snap).bind fun k=>(dR (l.any (·.2) || k.any (·.2)) none (um st x)).bind fun q=>(wL env f q.1 (l.map (·.1)++k.map (·.1))).bind fun r=>(nX q.2.2 q.2.1 r.2).bind fun st2=>some (st2.layAll d r.1)
noncomputable def Lh (env:Env)(d f:Nat)(x:bF)(args:List bF)(caps:List PV)(st:St):Option St :=
 (args.mapM fun x=>st.jD (st.get x)).bind fun l=>(dR (l.any (·.2)) none (um st x)).bind fun q=>(wL env f q.1 (l.map (·.1)++caps)).bind fun r=>(nX q.2.2 q.2.1 r.2).bind fun st2=>some (st2.layAll d r.1)
theorem aaX (d f:Nat)(x:bF)(args:List bF)(caps:List AV)(st:St):qx (den env) env d f x args caps st=Jw env d f x args caps st:=by
 unfold qx Jw
 congr 1;funext l
 congr 1;funext k
 congr 1
 cases h:(l.any (·.2) || k.any (·.2))<;>rfl
theorem Xy (d f:Nat)(x:bF)(args:List bF)(caps:List PV)(st:St):Jw env d f x args (caps.map .pv) st=Lh env d f x args caps st:=by
 unfold Lh Jw
 congr 1;funext l
 rw [Fb,Za1,Zcd,ZdD]
 have h1:(Prod.fst ∘ fun v:PV=>(v,false))=id:=rfl
 have h2:caps.any (Prod.snd ∘ fun v:PV=>(v,false))=false:=by
  induction caps with
  |nil=>rfl
  |cons c cs ih=>simp [ZcR,ih]
 rw [h1,List.map_id,h2,ZcS]
noncomputable def agx (env:Env)(d f:Nat)(x:bF)(args:List bF)(caps:List AV)(st:St):Option St:=Jw env d f x args caps (args.foldl St.bQ st)
noncomputable def O4 (env:Env)(d f:Nat)(x:bF)(args:List bF)(caps:List PV)(st:St):Option St:=Lh env d f x args caps (args.foldl St.bQ st)
theorem Lj (d f:Nat)(x:bF)(args:List bF)(caps:List AV)(st:St):iP (den env) env d f x args caps st=agx env d f x args caps st:=aaX ..
theorem Fg (d f:Nat)(x:bF)(args:List bF)(caps:List PV)(st:St):agx env d f x args (caps.map .pv) st=O4 env d f x args caps st:=Xy ..
theorem agy {d f x args}(st:St):pR env (.lin d f x args) st=O4 env d f x args [] st:=(Lj ..).trans (Fg (caps:=[]) ..)
theorem agz {d f x args}(st:St):op1 (den env) env (.lin d f x args) st=O4 env d f x args [] st:=(Lj ..).trans (Fg (caps:=[]) ..)
theorem aaY {d g x args}(st:St):pR env (.linv d g x args) st=(match st.get g with
  |.pv (.func f caps)=>O4 env d f x args caps st
  |.fn f caps=>agx env d f x args caps st
  |_=>none):=by
 show (match st.get g with
  |.pv (.func f caps)=>iP (den env) env d f x args (caps.map .pv) st
  |.fn f caps=>iP (den env) env d f x args caps st
  |_=>none)=_
 split<;>simp only [Lj,Fg]
theorem aaZ {d g x args}(st:St):op1 (den env) env (.linv d g x args) st=pR env (.linv d g x args) st:=(rfl)
theorem Xz {d x args}(st:St):pR env (.kL d x args) st=(match st.get x with
  |.pv (.func f caps)=>BJ env d f args caps st
  |.fn f caps=>dcall env d f args caps st
  |_=>none):=by
 show (match st.get x with
  |.pv (.func f caps)=>jE (den env) env d f args (caps.map .pv) st
  |.fn f caps=>jE (den env) env d f args caps st
  |_=>none)=_
 split<;>simp only [Fe,BK]
theorem XA {d x args}(st:St):op1 (den env) env (.kL d x args) st=pR env (.kL d x args) st:=(rfl)
theorem aa0 {d c x y}(st:St):op1 (den env) env (.pick d c x y) st=pR env (.pick d c x y) st:=(rfl)
theorem agA {d x}(st:St):pR env (.ah d x) st=plain (.ah d x) st:=(rfl)
theorem agB {d x}(st:St):pR env (.ay d x) st=plain (.ay d x) st:=(rfl)
theorem agC {d o x y}(st:St):pR env (.bin d o x y) st=plain (.bin d o x y) st:=(rfl)
theorem agD {d neg n x y}(st:St):pR env (.UW d neg n x y) st=plain (.UW d neg n x y) st:=(rfl)
theorem agE {d neg x y}(st:St):pR env (.Wp d neg x y) st=plain (.Wp d neg x y) st:=(rfl)
theorem agF {d neg x}(st:St):pR env (.QX d neg x) st=plain (.QX d neg x) st:=(rfl)
theorem agG {d sz x h m}(st:St):pR env (.sl3 d sz x h m) st=plain (.sl3 d sz x h m) st:=(rfl)
theorem agH {d sz x l h m}(st:St):pR env (.sl4 d sz x l h m) st=plain (.sl4 d sz x l h m) st:=(rfl)
theorem agI {d n x}(st:St):pR env (.ZE d n x) st=plain (.ZE d n x) st:=(rfl)
theorem agJ {d x}(st:St):pR env (.bxw d x) st=act (den env) env (.bxw d x) st:=(rfl)
theorem agK {d x}(st:St):op1 (den env) env (.bxw d x) st=act (den env) env (.bxw d x) st:=(rfl)
theorem agL {n p x}(st:St):pR env (.Zo n p x) st=act (den env) env (.Zo n p x) st:=(rfl)
theorem agM {n p x}(st:St):op1 (den env) env (.Zo n p x) st=act (den env) env (.Zo n p x) st:=(rfl)
theorem agN {d f x g}(st:St):pR env (.Hw d f x g) st=act (den env) env (.Hw d f x g) st:=(rfl)
theorem agO {d f x g}(st:St):op1 (den env) env (.Hw d f x g) st=act (den env) env (.Hw d f x g) st:=(rfl)
theorem agP {d x}(st:St):pR env (.UY d x) st=plain (.UY d x) st:=(rfl)
theorem agQ {d x}(st:St):op1 (den env) env (.UY d x) st=plain (.UY d x) st:=(rfl)
theorem agR {d n x}(st:St):pR env (.Nl d n x) st=plain (.Nl d n x) st:=(rfl)
theorem agS {d n x}(st:St):op1 (den env) env (.ZE d n x) st=plain (.ZE d n x) st:=(rfl)
theorem agT {d n x}(st:St):op1 (den env) env (.Nl d n x) st=plain (.Nl d n x) st:=(rfl)
theorem agU {d neg x}(st:St):op1 (den env) env (.QX d neg x) st=plain (.QX d neg x) st:=(rfl)
theorem agV {d sz x h m}(st:St):op1 (den env) env (.sl3 d sz x h m) st=plain (.sl3 d sz x h m) st:=(rfl)
theorem agW {d sz x l h m}(st:St):op1 (den env) env (.sl4 d sz x l h m) st=plain (.sl4 d sz x l h m) st:=(rfl)
theorem ajY {d o x}(st:St):pR env (.un d o x) st=plain (.un d o x) st:=(rfl)
theorem aa1 {d k x}(st:St):pR env (.conv d k x) st=plain (.conv d k x) st:=(rfl)
theorem aa2 {d n p}(st:St):pR env (.load d n p) st=plain (.load d n p) st:=(rfl)
theorem aa3 {d p off}(st:St):pR env (.aj d p off) st=plain (.aj d p off) st:=(rfl)
theorem aa4 {d p i len sz}(st:St):pR env (.vH d p i len sz) st=plain (.vH d p i len sz) st:=(rfl)
theorem aa5 {d sz x i}(st:St):pR env (.bG d sz x i) st=plain (.bG d sz x i) st:=(rfl)
theorem agX {d x i len sz n}(st:St):pR env (.idx d x i len sz n) st=plain (.idx d x i len sz n) st:=(rfl)
theorem agY {d sz x lo hi}(st:St):pR env (.Hz d sz x lo hi) st=plain (.Hz d sz x lo hi) st:=(rfl)
theorem agZ {d x}(st:St):pR env (.len d x) st=plain (.len d x) st:=(rfl)
theorem ag0 {d x i}(st:St):pR env (.ext d x i) st=plain (.ext d x i) st:=(rfl)
theorem XB {d z parts}(st:St):pR env (.build d z parts) st=plain (.build d z parts) st:=(rfl)
theorem ajZ {d mx x y}(st:St):pR env (.mn d mx x y) st=plain (.mn d mx x y) st:=(rfl)
theorem ag1 {d f caps}(st:St):pR env (.IQ d f caps) st=plain (.IQ d f caps) st:=(rfl)
theorem XC {d z}(st:St):pR env (.alloc d z) st=act (den env) env (.alloc d z) st:=(rfl)
theorem ag2 {d x}(st:St):pR env (.box d x) st=act (den env) env (.box d x) st:=(rfl)
theorem XD {d n p x}(st:St):pR env (.store d n p x) st=act (den env) env (.store d n p x) st:=(rfl)
theorem aa6 {d sz parts}(st:St):pR env (.eU d sz parts) st=act (den env) env (.eU d sz parts) st:=(rfl)
theorem aa7 {d z n c}(st:St):pR env (.make d z n c) st=act (den env) env (.make d z n c) st:=(rfl)
theorem ag3 {d sz x y}(st:St):pR env (.app d sz x y) st=act (den env) env (.app d sz x y) st:=(rfl)
theorem ag4 {d sz x y}(st:St):pR env (.Zm d sz x y) st=act (den env) env (.Zm d sz x y) st:=(rfl)
theorem ag5 {d x}(st:St):pR env (.Wq d x) st=act (den env) env (.Wq d x) st:=(rfl)
theorem ag6 {d x}(st:St):pR env (.Ws d x) st=plain (.Ws d x) st:=(rfl)
theorem aj0 {d f x}(st:St):pR env (.pk d f x) st=act (den env) env (.pk d f x) st:=(rfl)
theorem XE {d x args}(st:St):pR env (.yield d x args) st=act (den env) env (.yield d x args) st:=(rfl)
theorem ag7 {d x}(st:St):op1 (den env) env (.ah d x) st=plain (.ah d x) st:=(rfl)
theorem ag8 {d x}(st:St):op1 (den env) env (.ay d x) st=plain (.ay d x) st:=(rfl)
theorem ag9 {d o x y}(st:St):op1 (den env) env (.bin d o x y) st=plain (.bin d o x y) st:=(rfl)
theorem aha {d neg n x y}(st:St):op1 (den env) env (.UW d neg n x y) st=plain (.UW d neg n x y) st:=(rfl)
theorem ahb {d neg x y}(st:St):op1 (den env) env (.Wp d neg x y) st=plain (.Wp d neg x y) st:=(rfl)
theorem aj1 {d o x}(st:St):op1 (den env) env (.un d o x) st=plain (.un d o x) st:=(rfl)
theorem aa8 {d k x}(st:St):op1 (den env) env (.conv d k x) st=plain (.conv d k x) st:=(rfl)
theorem aa9 {d n p}(st:St):op1 (den env) env (.load d n p) st=plain (.load d n p) st:=(rfl)
theorem abb {d p off}(st:St):op1 (den env) env (.aj d p off) st=plain (.aj d p off) st:=(rfl)
theorem abd {d p i len sz}(st:St):op1 (den env) env (.vH d p i len sz) st=plain (.vH d p i len sz) st:=(rfl)
theorem abe {d sz x i}(st:St):op1 (den env) env (.bG d sz x i) st=plain (.bG d sz x i) st:=(rfl)
theorem ahc {d x i len sz n}(st:St):op1 (den env) env (.idx d x i len sz n) st=plain (.idx d x i len sz n) st:=(rfl)
theorem ahd {d sz x lo hi}(st:St):op1 (den env) env (.Hz d sz x lo hi) st=plain (.Hz d sz x lo hi) st:=(rfl)
theorem ahe {d x}(st:St):op1 (den env) env (.len d x) st=plain (.len d x) st:=(rfl)
theorem ahf {d x i}(st:St):op1 (den env) env (.ext d x i) st=plain (.ext d x i) st:=(rfl)
theorem XF {d z parts}(st:St):op1 (den env) env (.build d z parts) st=plain (.build d z parts) st:=(rfl)
theorem aj2 {d mx x y}(st:St):op1 (den env) env (.mn d mx x y) st=plain (.mn d mx x y) st:=(rfl)
theorem ahg {d f caps}(st:St):op1 (den env) env (.IQ d f caps) st=plain (.IQ d f caps) st:=(rfl)
theorem XG {d z}(st:St):op1 (den env) env (.alloc d z) st=act (den env) env (.alloc d z) st:=(rfl)
theorem ahh {d x}(st:St):op1 (den env) env (.box d x) st=act (den env) env (.box d x) st:=(rfl)
theorem XH {d n p x}(st:St):op1 (den env) env (.store d n p x) st=act (den env) env (.store d n p x) st:=(rfl)
theorem abf {d sz parts}(st:St):op1 (den env) env (.eU d sz parts) st=act (den env) env (.eU d sz parts) st:=(rfl)
theorem abg {d z n c}(st:St):op1 (den env) env (.make d z n c) st=act (den env) env (.make d z n c) st:=(rfl)
theorem ahi {d sz x y}(st:St):op1 (den env) env (.app d sz x y) st=act (den env) env (.app d sz x y) st:=(rfl)
theorem ahj {d sz x y}(st:St):op1 (den env) env (.Zm d sz x y) st=act (den env) env (.Zm d sz x y) st:=(rfl)
theorem ahk {d x}(st:St):op1 (den env) env (.Wq d x) st=act (den env) env (.Wq d x) st:=(rfl)
theorem ahl {d x}(st:St):op1 (den env) env (.Ws d x) st=plain (.Ws d x) st:=(rfl)
theorem aj3 {d f x}(st:St):op1 (den env) env (.pk d f x) st=act (den env) env (.pk d f x) st:=(rfl)
theorem XI {d x args}(st:St):op1 (den env) env (.yield d x args) st=act (den env) env (.yield d x args) st:=(rfl)
theorem abh (d:Nat)(v:PV):AV.kill d (.pv v)=.pv v:=(rfl)
theorem XJ (d:Nat):AV.kill d .any=.any:=(rfl)
theorem XK (d sz:Nat)(es:List PV):AV.kill d (.row sz es)=.row sz es:=(rfl)
theorem TJ (d o j:Nat):AV.kill d (.aP o j)=.aP o j:=(rfl)
theorem abj (d f:Nat)(l:List AV):AV.kill d (.fn f l)=.fn f l:=(rfl)
theorem abk (d o j:Nat):AV.kill d (.pp o j)=.pp o j:=(rfl)
theorem XL (d s:Nat)(l:List PV):AV.kill d (.DN s l)=.DN s l:=(rfl)
theorem XM (d:Nat)(k:Bool)(l:List AV):AV.kill d (.kV k l)=.kV k l:=(rfl)
theorem XO (d:Nat):AV.kill d .qX=.qX:=(rfl)
theorem TL (d t off len:Nat):AV.kill d (.ref (.slot t) off len)=dR (decide (t=d)) .any (.ref (.slot t) off len):=by
 by_cases h:t=d<;>simp [AV.kill,AV.roots,h,dR]
theorem TN (d o j off len:Nat):AV.kill d (.ref (.cell o j) off len)=.ref (.cell o j) off len:=(rfl)
theorem TP (d t i j:Nat):AV.kill d (.oO (.slot t) i j)=dR (decide (t=d)) .any (.oO (.slot t) i j):=by
 by_cases h:t=d<;>simp [AV.kill,AV.roots,h,dR]
theorem TQ (d o q i j:Nat):AV.kill d (.oO (.cell o q) i j)=.oO (.cell o q) i j:=(rfl)
theorem abl (d:Nat)(v:PV):AV.bZ d (.pv v)=.pv v:=(rfl)
theorem XP (d:Nat):AV.bZ d .any=.any:=(rfl)
theorem XQ (d sz:Nat)(es:List PV):AV.bZ d (.row sz es)=.row sz es:=(rfl)
theorem TS (d o j:Nat):AV.bZ d (.aP o j)=.aP o j:=(rfl)
theorem abm (d f:Nat)(l:List AV):AV.bZ d (.fn f l)=.fn f l:=(rfl)
theorem abn (d o j:Nat):AV.bZ d (.pp o j)=.pp o j:=(rfl)
theorem XR (d s:Nat)(l:List PV):AV.bZ d (.DN s l)=.DN s l:=(rfl)
theorem XT (d:Nat)(k:Bool)(l:List AV):AV.bZ d (.kV k l)=.kV k l:=(rfl)
theorem XU (d:Nat):AV.bZ d .qX=.qX:=(rfl)
theorem TU (d t j off len:Nat):AV.bZ d (.ref (.cell t j) off len)=dR (decide (t=d)) .any (.ref (.cell t j) off len):=by
 by_cases h:t=d<;>simp [AV.bZ,AV.xH,h,dR]
theorem TV (d t off len:Nat):AV.bZ d (.ref (.slot t) off len)=.ref (.slot t) off len:=(rfl)
theorem TY (d t q i j:Nat):AV.bZ d (.oO (.cell t q) i j)=dR (decide (t=d)) .any (.oO (.cell t q) i j):=by
 by_cases h:t=d<;>simp [AV.bZ,AV.xH,h,dR]
theorem Ua (d t i j:Nat):AV.bZ d (.oO (.slot t) i j)=.oO (.slot t) i j:=(rfl)
theorem abo (d y:Nat)(v:PV):AV.ig d y (.pv v)=.pv v:=(rfl)
theorem XV (d y:Nat):AV.ig d y .any=.any:=(rfl)
theorem XW (d y sz:Nat)(es:List PV):AV.ig d y (.row sz es)=.row sz es:=(rfl)
theorem Ub (d y o j:Nat):AV.ig d y (.aP o j)=.aP o j:=(rfl)
theorem abp (d y f:Nat)(l:List AV):AV.ig d y (.fn f l)=.fn f l:=(rfl)
theorem abq (d y o j:Nat):AV.ig d y (.pp o j)=.pp o j:=(rfl)
theorem XY (d y s:Nat)(l:List PV):AV.ig d y (.DN s l)=.DN s l:=(rfl)
theorem XZ (d y:Nat)(k:Bool)(l:List AV):AV.ig d y (.kV k l)=.kV k l:=(rfl)
theorem X0 (d y:Nat):AV.ig d y .qX=.qX:=(rfl)
theorem Uc (d y t j off len:Nat):AV.ig d y (.ref (.cell t j) off len)=dR (decide (t=d)) (dR (decide (j=y)) .any (.ref (.cell t j) off len)) (.ref (.cell t j) off len):=by
 by_cases h:t=d<;>by_cases h2:j=y<;>simp [AV.ig,AV.D8,h,h2,dR]
theorem Ud (d y t off len:Nat):AV.ig d y (.ref (.slot t) off len)=.ref (.slot t) off len:=(rfl)
theorem Ue (d y t q i j:Nat):AV.ig d y (.oO (.cell t q) i j)=dR (decide (t=d)) (dR (decide (q=y)) .any (.oO (.cell t q) i j)) (.oO (.cell t q) i j):=by
 by_cases h:t=d<;>by_cases h2:q=y<;>simp [AV.ig,AV.D8,h,h2,dR]
theorem Uf (d y t i j:Nat):AV.ig d y (.oO (.slot t) i j)=.oO (.slot t) i j:=(rfl)
theorem Ah {γ δ:Type}(f:γ→δ)(l:List γ):(l.map f).take l.length=l.map f:=Zby (by simp)
theorem abr (k:IntKind)(n:Int):(PV.int k n).scalar=true:=(rfl)
theorem X3 (b:Bool):(PV.bool b).scalar=true:=(rfl)
theorem abt (b:ByteArray):(PV.str b).scalar=true:=(rfl)
theorem X4 (sz:Nat)(es:List PV):(PV.list sz es).scalar=false:=(rfl)
theorem X5 (f:Nat)(es:List PV):(PV.func f es).scalar=false:=(rfl)
theorem X6 (k:IntKind)(n:Int):(PV.int k n).cells=[.int k n]:=(rfl)
theorem Ug (b:Bool):(PV.bool b).cells=[.bool b]:=(rfl)
theorem X7 (b:ByteArray):(PV.str b).cells=[.str b]:=(rfl)
theorem Uh (sz:Nat)(es:List PV):(PV.list sz es).cells=[.list sz es]:=(rfl)
theorem cells_func (f:Nat)(es:List PV):(PV.func f es).cells=[.func f es]:=(rfl)
theorem X8 (cs:List PV):(PV.agg cs).cells=cs:=(rfl)
theorem O5 (c:PV)(cs:List PV):part (c::cs) 0 none=some c:=(rfl)
theorem Jy (c:PV)(cs:List PV)(n:Nat)(m:Option Nat):part (c::cs) (n+1) m=part cs n m:=by
 cases m with
 |none=>rfl
 |some m =>
  simp only [part,zc,List.drop_succ_cons]
  by_cases h:n+m≤cs.length
  ·rw [if_pos h,if_pos (by omega)]
  ·rw [if_neg h,if_neg (by omega)]
theorem xY (c:PV)(cs:List PV)(m:Nat):part (c::cs) 0 (some m)=if m≤(c::cs).length then some (.agg ((c::cs).take m)) else none:=by
 simp only [part,Zaj,ZaK]
theorem aF {n:Int}(h:-9223372036854775808≤n∧n≤9223372036854775807):IntKind.i64.wrap n=n:=Go.IntWalk.i64_in n h
theorem dV {i n:Nat}(h:i<n)(hn:n≤lim):IntKind.i64.wrap ((i:Int)+1)=((i+1:Nat):Int):=by
 unfold lim at hn
 rw [Go.IntWalk.i64_in _ (by omega)]
 omega
theorem aB {k:IntKind}{i n:Nat}(h:i<n):index (.int k (i:Int)) n=some i:=by
 simp only [index]
 rw [if_pos (by omega)]
 simp
end
end Go.Proofs.YthccglceomoboaaGreatDoor
namespace Go.Proofs.YthccglceomoboaaGreatDoor
open V
def jo (n:Nat):List PV→Option (List pY)
 |[.list sz es]=>if sz=n∧es.length≤lim then some [(.list sz es,true)] else none
 |_=>none
def Jz:PV→Option UInt8
 |.int .u8 n=>if 0≤n∧n<256 then some (UInt8.ofNat n.toNat) else none
 |_=>none
def oV {α:Type}(f:PV→Option α):List PV→Option (List α)
 |[]=>some []
 |p::l=>match f p with
  |some x=>match oV f l with
   |some xs=>some (x::xs)
   |none=>none
  |none=>none
def Fh:PV→Option eG
 |.agg cs=>match oV Jz cs with
  |some l=>if h:l.length=8 then some ⟨l.toArray,by simpa using h⟩ else none
  |none=>none
 |_=>none
def xZ:PV→Option (List eG)
 |.list 8 es=>oV Fh es
 |_=>none
def vJ (n:Int):Bool:=decide (-9223372036854775808≤n)&&decide (n≤9223372036854775807)
def Dp:PV→Option zy
 |.agg [.int .i64 v,.int .i64 s,d]=>match xZ d with
  |some d=>if vJ v&&vJ s then some ⟨v,s,d⟩ else none
  |none=>none
 |_=>none
theorem abu {p:PV}{x:UInt8}(h:Jz p=some x):p=.int .u8 (x.toNat:Int):=by
 unfold Jz at h
 split at h
 case h_2=>cases h
 rename_i n
 split at h
 case isFalse=>cases h
 cases h
 rw [UInt8.toNat_ofNat_of_lt' (show n.toNat<2 ^ 8 by omega)]
 congr 1;omega
theorem X9 (x:UInt8):Jz (.int .u8 (x.toNat:Int))=some x:=by
 have:=x.toNat_lt
 unfold Jz
 simp only
 rw [if_pos (by omega)]
 simp
theorem ql {α:Type}{f:PV→Option α}{enc:α→PV}(hf:∀ p x,f p=some x→p=enc x):∀ {l:List PV} {xs:List α},oV f l=some xs→l=xs.map enc
 |[],_,h=>by cases h;rfl
 |p::l,xs,h=>by
  unfold oV at h
  split at h
  case h_2=>cases h
  rename_i x hx
  split at h
  case h_2=>cases h
  rename_i ys hy
  cases h
  rw [Zat,← hf p x hx,← ql hf hy]
theorem nR {α:Type}{f:PV→Option α}{enc:α→PV}:∀ {l:List α},(∀ x∈l,f (enc x)=some x)→oV f (l.map enc)=some l
 |[],_=>rfl
 |x::l,h=>by
  simp only [Zat,oV,h x (by simp),nR (l:=l) fun y hy=>h y (by simp [hy])]
theorem Ya {p:PV}{x:eG}(h:Fh p=some x):p=eP x:=by
 unfold Fh at h
 split at h
 case h_2=>cases h
 rename_i cs
 split at h
 case h_2=>cases h
 rename_i l hl
 split at h
 case isFalse=>cases h
 rename_i h8
 cases h
 rw [ql (fun p x=>abu) hl]
 simp [eP,kS,Vector.toList]
theorem Ui (x:eG):Fh (eP x)=some x:=by
 unfold Fh eP kS
 simp only
 rw [nR (f:=Jz) (enc:=fun b:UInt8=>.int .u8 (b.toNat:Int)) fun b _=>X9 b]
 simp
 rfl
theorem Fj {p:PV}{x:List eG}(h:xZ p=some x):p=dh x:=by
 unfold xZ at h
 split at h
 case h_2=>cases h
 rw [ql (fun p x=>Ya) h];rfl
theorem Dq (x:List eG):xZ (dh x)=some x:=by
 unfold xZ dh
 simp only
 exact nR fun x _=>Ui x
theorem abv {p:PV}{x:zy}(h:Dp p=some x):p=Zt x:=by
 unfold Dp at h
 split at h
 case h_2=>cases h
 split at h
 case h_2=>cases h
 rename_i d hd
 split at h
 case isFalse=>cases h
 cases h
 have:=Fj hd
 rw [this];rfl
theorem abw {p:PV}{x:zy}(h:Dp p=some x):vJ x.volume=true∧vJ x.start=true:=by
 unfold Dp at h
 split at h
 case h_2=>cases h
 split at h
 case h_2=>cases h
 split at h
 case isFalse=>cases h
 rename_i hc
 cases h
 simpa using hc
theorem Yb (x:zy)(h1:vJ x.volume=true)(h2:vJ x.start=true):Dp (Zt x)=some x:=by
 have:=Dq x.data
 unfold dh at this
 simp only [Dp,Zt,this,h1,h2,Bool.and_self,if_true]
def Dt (l:List Int):Int:=if l.length<1∨8<l.length then 6 else if l.any (fun n=>decide (n<1) || decide (n > 4096)) then 2 else 0
def kT (im:List (List eG)):List Int:=im.map fun v=>(v.length:Int)
def Du (sz:List Int)(w:zy):Int :=
 if w.volume<0∨(sz.length:Int)≤w.volume then 7 else if w.data.length=0 then 1
 else if w.start<0∨(sz.getD w.volume.toNat 0) - w.data.length<w.start then 2 else 0
def putAt (l:List eG)(s:Nat)(d:List eG):List eG:=l.take s++d++l.drop (s+d.length)
def Yc (im:List (List eG))(w:zy):List (List eG):=im.set w.volume.toNat (putAt (im.getD w.volume.toNat []) w.start.toNat w.data)
def wM (sz:List Int):List zy→Nat→Int×Int
 |[],_=>(0,0)
 |w::l,i=>if Du sz w≠0 then (i,Du sz w) else wM sz l (i+1)
def Vj (im:List (List eG))(l:List zy):Int:=if Dt (kT im)≠0 then Dt (kT im) else (wM (kT im) l 0).2
def apI (im:List (List eG))(l:List zy):Int:=if Dt (kT im)≠0 then 0 else (wM (kT im) l 0).1
def Vk (im:List (List eG))(l:List zy):List (List eG):=if Vj im l=0 then l.foldl Yc im else []
def uN:List PV→Option (List pY)
 |[.list 1 im,.list 3 l]=>match oV xZ im with
  |some im=>match oV Dp l with
   |some l=>if im.length≤1000000∧im.all (fun v=>decide (v.length≤1000000))=true then some [(.list 1 ((Vk im l).map dh),false),(.int .i64 (apI im l),false),(.int .i64 (Vj im l),false)] else none
   |none=>none
  |none=>none
 |_=>none
theorem Yd {args:List PV}{rs:List pY}(h:uN args=some rs):∃ (im:List (List eG)) (l:List zy),args=[.list 1 (im.map dh),.list 3 (l.map Zt)]∧(∀ w∈l,vJ w.volume=true∧vJ w.start=true)∧im.length≤1000000∧(∀ v∈im,v.length≤1000000) ∧
  rs=[(.list 1 ((Vk im l).map dh),false),(.int .i64 (apI im l),false),(.int .i64 (Vj im l),false)]:=by
 unfold uN at h
 split at h
 case h_2=>cases h
 split at h
 case h_2=>cases h
 rename_i im hi
 split at h
 case h_2=>cases h
 rename_i l hl
 split at h
 case isFalse=>cases h
 rename_i hc
 cases h
 refine ⟨im,l,by rw [ql (fun p x=>Fj) hi,ql (fun p x=>abv) hl],?_,hc.1,fun v hv=>by simpa using zw.1 hc.2 v hv,rfl⟩
 have:∀ {q:List PV} {xs:List zy},oV Dp q=some xs→∀ w∈xs,vJ w.volume=true∧vJ w.start=true:=by
  intro q
  induction q with
  |nil=>intro xs h;cases h;simp
  |cons p q ih =>
   intro xs h
   unfold oV at h
   split at h
   case h_2=>cases h
   rename_i x hx
   split at h
   case h_2=>cases h
   rename_i ys hy
   cases h
   simp only [List.mem_cons,forall_eq_or_imp]
   exact ⟨abw hx,ih hy⟩
 exact this hl
theorem Uj {im:List (List eG)}{l:List zy}(h1:∀ w∈l,vJ w.volume=true∧vJ w.start=true)(h2:im.length≤1000000)(h3:∀ v∈im,v.length≤1000000) :
  uN [.list 1 (im.map dh),.list 3 (l.map Zt)]=some [(.list 1 ((Vk im l).map dh),false),(.int .i64 (apI im l),false),(.int .i64 (Vj im l),false)]:=by
 simp only [uN]
 rw [nR fun x _=>Dq x,nR fun x hx=>Yb x (h1 x hx).1 (h1 x hx).2]
 simp only
 rw [if_pos ⟨h2,zw.2 fun v hv=>by simpa using h3 v hv⟩]
end Go.Proofs.YthccglceomoboaaGreatDoor
namespace Go.Proofs.YthccglceomoboaaGreatDoor
structure End where
 pos:Nat
 list:Nat
 step:Int
 deriving DecidableEq,Inhabited
def iM (e:End):PV:=.agg [.int .i64 (e.pos:Int),.int .i64 (e.list:Int),.int .i64 e.step]
def Fp:PV→Option End
 |.agg [.int .i64 a,.int .i64 b,.int .i64 c]=>if 0≤a∧0≤b then some ⟨a.toNat,b.toNat,c⟩ else none
 |_=>none
theorem Uk (e:End):Fp (iM e)=some e:=by
 simp [Fp,iM]
theorem Ye {p:PV}{e:End}(h:Fp p=some e):p=iM e:=by
 unfold Fp at h
 split at h
 ·split at h
  ·rename_i hc
   cases h
   simp only [iM,Zbw hc.1,Zbw hc.2]
  ·cases h
 ·cases h
def vw (x y:End):Bool:=decide (x.pos<y.pos)
def rP (l:List End):List End:=(Sort.pdq vw l.toArray 0 l.length (Lib.bitLen l.length) true true).toList
def lQ (g:Nat):PV→List PV→Option (List PV)
 |.func f [],es=>if f=g then if es.length≤1000000 then (oV Fp es).map fun l=>(rP l).map iM else none else none
 |_,_=>none
theorem Ip {g:Nat}{l:List End}(h:l.length≤1000000):lQ g (.func g []) (l.map iM)=some ((rP l).map iM):=by
 unfold lQ
 simp only [if_true,za,h]
 rw [nR fun x _=>Uk x]
 rfl
theorem Ll {g:Nat}{c:PV}{es es':List PV}(h:lQ g c es=some es'):∃ l:List End,c=.func g []∧es=l.map iM∧l.length≤1000000∧es'=(rP l).map iM:=by
 unfold lQ at h
 split at h
 ·split at h
  ·rename_i hg
   split at h
   ·rename_i hl
    obtain ⟨l,h1,h2⟩:=Option.map_eq_some_iff.1 h
    have:=ql (fun p x h=>Ye h) h1
    subst this
    exact ⟨l,by rw [hg],rfl,by simpa using hl,h2.symm⟩
   ·cases h
  ·cases h
 ·cases h
end Go.Proofs.YthccglceomoboaaGreatDoor
namespace Go.Proofs
open Go.Shelf
def Tryz.tz_ren:Go.Shelf.Ren:=⟨fun|29=>264|n=>n,fun|22=>193|3=>3|4=>4|25=>271|54=>380|0=>0|5=>5|n=>n,fun|1=>0|n=>n⟩
theorem Tryz.tz:Go.Proofs.Lays7.n29 Tryz.prog Tryz.tz_ren:={
 mixed:=by kernel_rfl
 f29:=Tryz.func264.trans (congrArg some (by kernel_rfl))
 t0:=Tryz.underlying0
 a0:=Tryz.isAgg0
 z0:=Tryz.sizeOf0
 v0:=Tryz.zeroValue0
 i0:=by kernel_rfl
 t3:=Tryz.underlying3
 a3:=Tryz.isAgg3
 z3:=Tryz.sizeOf3
 v3:=Tryz.zeroValue3
 i3:=by kernel_rfl
 t4:=Tryz.underlying4
 a4:=Tryz.isAgg4
 z4:=Tryz.sizeOf4
 v4:=Tryz.zeroValue4
 i4:=by kernel_rfl
 t5:=Tryz.underlying5
 a5:=Tryz.isAgg5
 z5:=Tryz.sizeOf5
 v5:=Tryz.zeroValue5
 i5:=by kernel_rfl
 t22:=Tryz.underlying193
 a22:=Tryz.isAgg193
 z22:=Tryz.sizeOf193
 v22:=Tryz.zeroValue193
 i22:=by kernel_rfl
 t25:=Tryz.underlying271
 a25:=Tryz.isAgg271
 z25:=Tryz.sizeOf271
 v25:=Tryz.zeroValue271
 i25:=by kernel_rfl
 t54:=Tryz.underlying380
 a54:=Tryz.isAgg380
 z54:=Tryz.sizeOf380
 g1:=by kernel_rfl }
end Go.Proofs
namespace Go.Proofs.YthccglceomoboaaGreatDoor
open Go.RowKit Go.Shelf
def tzX:List PV→Option (List pY)
 |[.int .u64 n]=>if 0≤n∧n<18446744073709551616 then some [(.int .i64 (Lib.ctz 64 n.toNat:Nat),false)] else none
 |_=>none
theorem aj7 {T:Tags}{w:World}(h:jR T w):TabAt 0 Lib.deBruijn64tab w:=fun j hj=>by
 have hp:=h _ (Zao.2 rfl)
 obtain ⟨b,off,e1,_,_,h3⟩:=hp.sU
 obtain ⟨eb,eo⟩:0=b∧0=off+0:=by
  injection e1 with e1
  injection e1 with e1
  injection e1 with e2 e3
  exact ⟨e2,e3⟩
 have eo:off=0:=by omega
 subst eb;subst eo
 obtain ⟨u,c1,_,c2⟩:=h3 j (PV.int .u8 ((Lib.deBruijn64tab[j]:Nat):Int)) (by simp [ZZ hj])
 rw [c2.bD] at c1
 rw [show Lib.deBruijn64tab.getD j 0=Lib.deBruijn64tab[j] by simp [Zaf,ZZ hj]]
 simpa using c1
theorem anp:∀ args rs,tzX args=some rs→callable Tryz.prog 264=true∧kZ Tryz.prog 264 args rs:=fun args rs h=>by
 unfold tzX at h
 split at h
 case h_2=>cases h
 rename_i n
 split at h
 case isFalse=>cases h
 rename_i hn
 cases h
 refine ⟨by kernel_rfl,fun T0 w vs h1 h2 h3 h4 hG=>?_⟩
 match vs,h3 with
 |[v],_ =>
  have hv:=(h4 0 _ v rfl rfl).bD
  subst hv
  have hc:=Any7.bits_TrailingZeros64 Tryz.tz n.toNat (by omega) w (fun _=>aj7 hG)
  rw [Zbw hn.1] at hc
  refine Calls.mono hc ?_
  rintro e w' ⟨rfl,rfl⟩
  refine ⟨_,T0,rfl,Below.refl _ _,fun _ _=>rfl,h2,#[_],rfl,rfl,fun i r u hr hu=>?_⟩
  match i with
  |0=>cases hr;cases hu;exact .int _ _
  |i+1=>simp at hr
end Go.Proofs.YthccglceomoboaaGreatDoor
namespace Go.Proofs.YthccglceomoboaaGreatDoor
def aj8:au:=(.seq (.seq (.ops [.ah 21 (.t 8),.ah 22 (.t 2),.len 23 (.t 22),.bin 24 .lss (.t 21) (.t 23)]) (.cond (.t 24) .skip (.exit 0))) (.seq (.block 1 (.qp [] [([0,1,2,3,4,5,6,7,8,9,10,11,12,13,14],15)] (some ([],[],16,[])) [17] [.ah 27 (.t 7),.ah 28 (.t 2),.ah 29 (.t 8),.bG 30 4 (.t 28) (.t 29),.aj 31 (.t 30) 2,.load 32 none (.t 31),.ah 33 (.t 2),.ah 34 (.t 8),.bG 35 4 (.t 33) (.t 34),.aj 36 (.t 35) 3,.load 37 none (.t 36),.build 38 [(.int .u8 0),(.int .u8 0),(.int .u8 0),(.list 8 [])] [(2,1,(.t 32)),(3,1,(.t 37))],.build 39 [(.int .u8 0),(.int .u8 0),(.int .u8 0),(.list 8 [])] [(0,1,(.c (.int .u8 1)))],.build 40 [(.int .u8 0),(.int .u8 0),(.int .u8 0),(.list 8 [])] [(0,1,(.c (.int .u8 2)))],.build 41 [(.int .u8 0),(.int .u8 0),(.int .u8 0),(.list 8 [])] [(0,1,(.c (.int .u8 3)))],.eU 42 4 [(.t 38),(.t 39),(.t 40),(.t 41)],.app 43 4 (.t 27) (.t 42),.ay 7 (.t 43)])) (.ops [.ah 25 (.t 8),.bin 26 .add (.t 25) (.c (.int .i64 1)),.ay 8 (.t 26)])))
def aj9:au :=
(.clean [0,1,2,7,8,43] [0,1,6,7] (.block 0 (.loop [0,1,2,7,8,43] aj8)))
def fn7:dQ:=⟨3,104,[.tmp 6],(.seq (.ops [.ay 6 (.c (.bool false))]) (.seq (.seq (.ops [.ah 17 (.t 2),.call 18 44 [(.t 17)],.un 19 .not (.t 18)]) (.cond (.t 19) (.seq (.ops [.call 20 24 [],.ay 6 (.t 20)]) .ret) .skip)) (.seq (.ops [.ay 7 (.nil 4)]) (.seq (.seq (.ops [.ay 8 (.c (.int .i64 0))])
   aj9) (.seq (.ops [.ah 45 (.t 0),.ah 46 (.t 1),.ah 47 (.t 7),.call 48 45 [(.t 45),(.t 46),(.t 47)],.ah 44 (.t 48),.ext 49 (.t 44) 0,.ext 50 (.t 44) 1,.ext 51 (.t 44) 2,.ext 52 (.t 44) 3,.ay 9 (.t 49),.ay 10 (.t 50),.ay 11 (.t 51),.ay 12 (.t 52)]) (.seq (.ops [.ah 54 (.t 0),.ah 55 (.t 1),.ah 56 (.t 7),.build 57 [(.int .u8 0),(.int .u8 0),(.int .u8 0),(.list 8 [])] [(0,1,(.c (.int .u8 4)))],.eU 58 4 [(.t 57)],.app 59 4 (.t 56) (.t 58),.call 60 45 [(.t 54),(.t 55),(.t 59)],.ah 53 (.t 60),.ext 61 (.t 53) 0,.ext 62 (.t 53) 1,.ext 63 (.t 53) 2,.ext 64 (.t 53) 3,.ay 13 (.t 61),.ay 14 (.t 62),.ay 15 (.t 63),.ay 16 (.t 64)]) (.seq (.seq (.ops [.ah 65 (.t 12),.un 66 .not (.t 65),.ah 67 (.t 66),.grd 67 false (.ah 68 (.t 16)),.grd 67 false (.un 69 .not (.t 68)),.pick 70 (.t 67) (.c (.bool true)) (.t 69),.ah 71 (.t 70),.grd 71 false (.ah 72 (.t 11)),.grd 71 false (.len 73 (.t 72)),.grd 71 false (.bin 74 .neq (.t 73) (.c (.int .i64 1))),.pick 75 (.t 71) (.c (.bool true)) (.t 74),.ah 76 (.t 75),.grd 76 false (.ah 77 (.t 15)),.grd 76 false (.len 78 (.t 77)),.grd 76 false (.bin 79 .neq (.t 78) (.c (.int .i64 1))),.pick 80 (.t 76) (.c (.bool true)) (.t 79)]) (.cond (.t 80) (.seq (.ops [.ay 6 (.c (.bool false))]) .ret) .skip)) (.seq (.ops [.call 81 24 [],.ah 82 (.t 81),.grd 82 true (.ah 83 (.t 9)),.grd 82 true (.ah 84 (.t 10)),.grd 82 true (.call 85 22 [(.t 83),(.t 84)]),.pick 86 (.t 82) (.t 85) (.c (.bool false)),.ah 87 (.t 86),.grd 87 true (.ah 88 (.t 13)),.grd 87 true (.ah 89 (.t 14)),.grd 87 true (.call 90 22 [(.t 88),(.t 89)]),.pick 91 (.t 87) (.t 90) (.c (.bool false)),.ah 92 (.t 91),.grd 92 true (.ah 93 (.t 9)),.grd 92 true (.ah 94 (.t 13)),.grd 92 true (.call 95 22 [(.t 93),(.t 94)]),.pick 96 (.t 92) (.t 95) (.c (.bool false)),.ah 97 (.t 96),.grd 97 true (.ah 98 (.t 15)),.grd 97 true (.bG 99 1 (.t 98) (.c (.int .i64 0))),.grd 97 true (.load 100 none (.t 99)),.grd 97 true (.len 101 (.t 100)),.grd 97 true (.bin 102 .eql (.t 101) (.c (.int .i64 0))),.pick 103 (.t 97) (.t 102) (.c (.bool false)),.ay 6 (.t 103)]) .ret))))))))⟩
def Lm:au:=(.seq (.seq (.ops [.ah 11 (.t 5),.ah 12 (.t 0),.len 13 (.t 12),.bin 14 .lss (.t 11) (.t 13)]) (.cond (.t 14) .skip (.exit 0))) (.seq (.block 1 (.seq (.qp [] [([0,1,2,3,4,5,6,7],8)] none [9] [.ah 17 (.t 0),.ah 18 (.t 5),.bG 19 1 (.t 17) (.t 18),.load 20 none (.t 19),.ah 21 (.t 1),.ah 22 (.t 5),.bG 23 1 (.t 21) (.t 22),.load 24 none (.t 23),.call 25 85 [(.t 20),(.t 24)],.un 26 .not (.t 25)]) (.cond (.t 26) (.seq (.ops [.ay 4 (.c (.bool false))]) .ret) .skip))) (.ops [.ah 15 (.t 5),.bin 16 .add (.t 15) (.c (.int .i64 1)),.ay 5 (.t 16)])))
def Lp:au :=
(.clean [0,1,5] [4] (.block 0 (.loop [0,1,5] Lm)))
def abx:dQ:=⟨2,27,[.tmp 4],(.seq (.ops [.ay 4 (.c (.bool false))]) (.seq (.seq (.ops [.ah 6 (.t 0),.len 7 (.t 6),.ah 8 (.t 1),.len 9 (.t 8),.bin 10 .neq (.t 7) (.t 9)]) (.cond (.t 10) (.seq (.ops [.ay 4 (.c (.bool false))]) .ret) .skip)) (.seq (.seq (.ops [.ay 5 (.c (.int .i64 0))])
   Lp) (.seq (.ops [.ay 4 (.c (.bool true))]) .ret))))⟩
def aby:dQ:=⟨0,132,[.tmp 0],(.seq (.ops [.ay 0 (.c (.bool false))]) (.seq (.ops [.call 18 87 [(.c (.int .i64 8)),(.c (.int .i64 4))],.ah 17 (.t 18),.ext 19 (.t 17) 0,.ext 20 (.t 17) 1,.alloc 1 [(.int .i64 0),(.int .i64 0),(.list 1 []),(.int .i64 0),(.list 1 [])],.store none 5 (.t 1) (.t 19),.ay 2 (.t 20)]) (.seq (.ops [.load 22 (some 5) (.t 1),.build 23 [(.int .i64 0),(.int .i64 0)] [(0,1,(.c (.int .i64 5))),(1,1,(.c (.int .i64 1)))],.call 24 88 [(.t 22),(.t 23)],.ah 21 (.t 24),.ext 25 (.t 21) 0,.ext 26 (.t 21) 1,.ext 27 (.t 21) 2,.store none 5 (.t 1) (.t 25),.ay 3 (.t 26),.ay 4 (.t 27)]) (.seq (.ops [.load 29 (some 5) (.t 1),.call 30 90 [(.t 29)],.call 31 89 [(.c (.int .i64 8)),(.c (.int .i64 4)),(.t 30)],.ah 28 (.t 31),.ext 32 (.t 28) 0,.ext 33 (.t 28) 1,.ext 34 (.t 28) 2,.alloc 5 [(.int .i64 0),(.int .i64 0),(.list 1 []),(.int .i64 0),(.list 1 [])],.store none 5 (.t 5) (.t 32),.ay 6 (.t 33),.ay 7 (.t 34)]) (.seq (.ops [.build 36 [(.int .u8 0),(.int .u8 0),(.int .u8 0),(.int .u8 0),(.int .u8 0),(.int .u8 0),(.int .u8 0),(.int .u8 0)] [],.build 37 [(.int .u8 0),(.int .u8 0),(.int .u8 0),(.int .u8 0),(.int .u8 0),(.int .u8 0),(.int .u8 0),(.int .u8 0)] [],.build 38 [(.int .u8 0),(.int .u8 0),(.int .u8 0),(.int .u8 0),(.int .u8 0),(.int .u8 0),(.int .u8 0),(.int .u8 0)] [],.build 39 [(.int .u8 0),(.int .u8 0),(.int .u8 0),(.int .u8 0),(.int .u8 0),(.int .u8 0),(.int .u8 0),(.int .u8 0)] [],.build 40 [(.int .u8 0),(.int .u8 0),(.int .u8 0),(.int .u8 0),(.int .u8 0),(.int .u8 0),(.int .u8 0),(.int .u8 0)] [],.build 41 [(.int .u8 0),(.int .u8 0),(.int .u8 0),(.int .u8 0),(.int .u8 0),(.int .u8 0),(.int .u8 0),(.int .u8 0)] [(0,1,(.c (.int .u8 1)))],.build 42 [(.int .u8 0),(.int .u8 0),(.int .u8 0),(.int .u8 0),(.int .u8 0),(.int .u8 0),(.int .u8 0),(.int .u8 0)] [],.build 43 [(.int .u8 0),(.int .u8 0),(.int .u8 0),(.int .u8 0),(.int .u8 0),(.int .u8 0),(.int .u8 0),(.int .u8 0)] [],.eU 44 8 [(.t 36),(.t 37),(.t 38),(.t 39),(.t 40),(.t 41),(.t 42),(.t 43)],.eU 45 1 [(.t 44)],.ah 46 (.t 6),.eU 47 1 [(.t 46)],.call 48 43 [(.t 45),(.t 47)],.ah 35 (.t 48),.ext 49 (.t 35) 0,.ext 50 (.t 35) 1,.ay 8 (.t 49),.ay 9 (.t 50)]) (.seq (.ops [.build 52 [(.int .u8 0),(.int .u8 0),(.int .u8 0),(.int .u8 0),(.int .u8 0),(.int .u8 0),(.int .u8 0),(.int .u8 0)] [],.build 53 [(.int .u8 0),(.int .u8 0),(.int .u8 0),(.int .u8 0),(.int .u8 0),(.int .u8 0),(.int .u8 0),(.int .u8 0)] [],.build 54 [(.int .u8 0),(.int .u8 0),(.int .u8 0),(.int .u8 0),(.int .u8 0),(.int .u8 0),(.int .u8 0),(.int .u8 0)] [],.eU 55 8 [(.t 52),(.t 53),(.t 54)],.call 56 26 [(.t 55),(.c (.int .i64 2))],.ah 51 (.t 56),.ext 57 (.t 51) 0,.ext 58 (.t 51) 1,.alloc 10 [(.int .i64 0),(.int .i64 0),(.list 0 [])],.store none 3 (.t 10) (.t 57),.ay 11 (.t 58)]) (.seq (.ops [.build 60 [(.int .u8 0),(.int .u8 0),(.int .u8 0),(.int .u8 0),(.int .u8 0),(.int .u8 0),(.int .u8 0),(.int .u8 0)] [],.build 61 [(.int .u8 0),(.int .u8 0),(.int .u8 0),(.int .u8 0),(.int .u8 0),(.int .u8 0),(.int .u8 0),(.int .u8 0)] [],.build 62 [(.int .u8 0),(.int .u8 0),(.int .u8 0),(.int .u8 0),(.int .u8 0),(.int .u8 0),(.int .u8 0),(.int .u8 0)] [(0,1,(.c (.int .u8 1)))],.eU 63 8 [(.t 60),(.t 61),(.t 62)],.call 64 26 [(.t 63),(.c (.int .i64 2))],.ah 59 (.t 64),.ext 65 (.t 59) 0,.ext 66 (.t 59) 1,.alloc 12 [(.int .i64 0),(.int .i64 0),(.list 0 [])],.store none 3 (.t 12) (.t 65),.ay 13 (.t 66)]) (.seq (.ops [.load 68 (some 3) (.t 10),.load 69 (some 3) (.t 12),.call 70 27 [(.t 68),(.t 69)],.ah 67 (.t 70),.ext 71 (.t 67) 0,.ext 72 (.t 67) 1,.ext 73 (.t 67) 2,.ay 14 (.t 71),.ay 15 (.t 72),.ay 16 (.t 73)]) (.seq (.seq (.ops [.ah 74 (.t 2),.bin 75 .neq (.t 74) (.c (.int .i64 0)),.ah 76 (.t 75),.grd 76 false (.ah 77 (.t 4)),.grd 76 false (.bin 78 .neq (.t 77) (.c (.int .i64 0))),.pick 79 (.t 76) (.c (.bool true)) (.t 78),.ah 80 (.t 79),.grd 80 false (.ah 81 (.t 7)),.grd 80 false (.bin 82 .neq (.t 81) (.c (.int .i64 0))),.pick 83 (.t 80) (.c (.bool true)) (.t 82),.ah 84 (.t 83),.grd 84 false (.ah 85 (.t 9)),.grd 84 false (.bin 86 .neq (.t 85) (.c (.int .i64 0))),.pick 87 (.t 84) (.c (.bool true)) (.t 86),.ah 88 (.t 87),.grd 88 false (.ah 89 (.t 11)),.grd 88 false (.bin 90 .neq (.t 89) (.c (.int .i64 0))),.pick 91 (.t 88) (.c (.bool true)) (.t 90),.ah 92 (.t 91),.grd 92 false (.ah 93 (.t 13)),.grd 92 false (.bin 94 .neq (.t 93) (.c (.int .i64 0))),.pick 95 (.t 92) (.c (.bool true)) (.t 94),.ah 96 (.t 95),.grd 96 false (.ah 97 (.t 16)),.grd 96 false (.bin 98 .neq (.t 97) (.c (.int .i64 0))),.pick 99 (.t 96) (.c (.bool true)) (.t 98),.ah 100 (.t 99),.grd 100 false (.ah 101 (.t 3)),.grd 100 false (.un 102 .not (.t 101)),.pick 103 (.t 100) (.c (.bool true)) (.t 102),.ah 104 (.t 103),.grd 104 false (.ah 105 (.t 8)),.grd 104 false (.len 106 (.t 105)),.grd 104 false (.bin 107 .neq (.t 106) (.c (.int .i64 1))),.pick 108 (.t 104) (.c (.bool true)) (.t 107)]) (.cond (.t 108) (.seq (.ops [.ay 0 (.c (.bool false))]) .ret) .skip)) (.seq (.ops [.ah 109 (.t 8),.bG 110 3 (.t 109) (.c (.int .i64 0)),.aj 111 (.t 110) 1,.load 112 none (.t 111),.bin 113 .eql (.t 112) (.c (.int .i64 4)),.ah 114 (.t 113),.grd 114 true (.ah 115 (.t 8)),.grd 114 true (.bG 116 3 (.t 115) (.c (.int .i64 0))),.grd 114 true (.aj 117 (.t 116) 2),.grd 114 true (.load 118 none (.t 117)),.grd 114 true (.len 119 (.t 118)),.grd 114 true (.bin 120 .eql (.t 119) (.c (.int .i64 4))),.pick 121 (.t 114) (.t 120) (.c (.bool false)),.ah 122 (.t 121),.grd 122 true (.ah 123 (.t 14)),.grd 122 true (.build 124 [(.int .i64 0),(.int .i64 0)] [(0,1,(.c (.int .i64 2))),(1,1,(.c (.int .i64 1)))]),.grd 122 true (.eU 125 2 [(.t 124)]),.grd 122 true (.call 126 32 [(.t 123),(.t 125)]),.pick 127 (.t 122) (.t 126) (.c (.bool false)),.ah 128 (.t 127),.grd 128 true (.ah 129 (.t 15)),.grd 128 true (.bin 130 .eql (.t 129) (.c (.int .i64 3))),.pick 131 (.t 128) (.t 130) (.c (.bool false)),.ay 0 (.t 131)]) .ret))))))))))⟩
def ahm:au:=(.ops [.ay 8 (.t 20)])
def ahn:au:=(.block 1 (.qp [] [([0,1],2),([],3)] (some ([],[],4,[([],5)])) [] [.load 21 none (.t 7),.ah 22 (.t 8),.call 23 93 [(.t 22)],.eU 24 1 [(.t 23)],.app 25 1 (.t 21) (.t 24),.store none 1 (.t 7) (.t 25)]))
def akb:dQ:=⟨2,31,[.cell 4 (some 3),.tmp 5],(.seq (.ops [.alloc 4 [(.int .i64 0),(.int .i64 0),(.list 0 [])],.ay 5 (.c (.int .i64 0))]) (.seq (.seq (.ops [.ah 9 (.t 0),.len 10 (.t 9),.ah 11 (.t 1),.call 12 91 [(.t 10),(.t 11)],.ay 6 (.t 12)]) (.seq (.ops [.ah 13 (.t 6),.bin 14 .neq (.t 13) (.c (.int .i64 0))]) (.cond (.t 14) (.seq (.ops [.build 15 [(.int .i64 0),(.int .i64 0),(.list 0 [])] [],.ah 16 (.t 6),.store none 3 (.t 4) (.t 15),.ay 5 (.t 16)]) .ret) .skip))) (.seq (.ops [.alloc 7 [(.list 1 [])]]) (.seq (.seq (.ops [.ah 17 (.t 0),.ah 18 (.t 1),.call 19 92 [(.t 17),(.t 18)]]) (.block 0 (.rng (.t 19) [20] ahm ahn))) (.seq (.ops [.ah 26 (.t 0),.len 27 (.t 26),.ah 28 (.t 1),.load 29 none (.t 7),.call 30 94 [(.t 27),(.t 28),(.t 29)],.store none 3 (.t 4) (.t 30),.ay 5 (.c (.int .i64 0))]) .ret)))))⟩
def aho:au:=(.seq (.seq (.ops [.ah 37 (.t 9),.bin 38 .eql (.t 37) (.c (.int .i64 0)),.ah 39 (.t 38),.grd 39 true (.ah 40 (.t 8)),.grd 39 true (.len 41 (.t 40)),.grd 39 true (.bin 42 .gtr (.t 41) (.c (.int .i64 0))),.pick 43 (.t 39) (.t 42) (.c (.bool false))]) (.cond (.t 43) .skip (.exit 0))) (.block 1 (.seq (.ops [.alloc 10 [(.int .i64 0),(.int .i64 0),(.int .i64 0),(.int .i64 0),(.int .i64 0),(.int .i64 0),(.list 0 []),(.list 0 [])]]) (.seq (.qp [] [([0,1,2,3],4)] (some ([5,6],[7],8,[])) [9] [.load 45 (some 3) (.t 3),.ah 46 (.t 8),.bG 47 8 (.t 46) (.c (.int .i64 0)),.load 48 (some 8) (.t 47),.call 49 31 [(.t 45),(.t 48)],.ah 44 (.t 49),.ext 50 (.t 44) 0,.ext 51 (.t 44) 1,.store none 8 (.t 10) (.t 50),.ay 9 (.t 51)]) (.seq (.ops [.ah 52 (.t 9),.bin 53 .eql (.t 52) (.c (.int .i64 0))]) (.cond (.t 53) (.ops [.load 55 (some 8) (.t 7),.load 56 (some 8) (.t 10),.call 57 30 [(.t 55),(.t 56)],.ah 54 (.t 57),.ext 58 (.t 54) 0,.ext 59 (.t 54) 1,.ext 60 (.t 54) 2,.store none 8 (.t 7) (.t 58),.ay 8 (.t 59),.ay 9 (.t 60)]) .skip))))))
def ahp:au :=
(.clean [3,7,8,9,15,59] [4,5,6,7,9] (.block 0 (.loop [3,7,8,9,15,59] aho)))
def akc:dQ:=⟨2,68,[.tmp 4,.tmp 5,.tmp 6],(.seq (.ops [.box 2 (.t 0),.box 3 (.t 1),.ay 4 (.nil 2),.ay 5 (.c (.int .i64 0)),.ay 6 (.c (.int .i64 0))]) (.seq (.ops [.load 12 (some 3) (.t 2),.call 13 28 [(.t 12)],.ah 11 (.t 13),.ext 14 (.t 11) 0,.ext 15 (.t 11) 1,.ext 16 (.t 11) 2,.alloc 7 [(.int .i64 0),(.int .i64 0),(.list 0 []),(.list 0 []),(.int .i64 0),(.list 0 []),(.int .i64 0),(.bool false)],.store none 8 (.t 7) (.t 14),.ay 8 (.t 15),.ay 9 (.t 16)]) (.seq (.seq (.ops [.ah 17 (.t 9),.bin 18 .eql (.t 17) (.c (.int .i64 0))]) (.cond (.t 18) (.ops [.load 19 (some 3) (.t 3),.call 20 95 [(.t 19)],.ay 9 (.t 20)]) .skip)) (.seq (.seq (.ops [.ah 21 (.t 9),.bin 22 .eql (.t 21) (.c (.int .i64 0)),.ah 23 (.t 22),.grd 23 true (.aj 24 (.t 2) 0),.grd 23 true (.load 25 none (.t 24)),.grd 23 true (.aj 26 (.t 3) 0),.grd 23 true (.load 27 none (.t 26)),.grd 23 true (.bin 28 .neq (.t 25) (.t 27)),.grd 23 true (.ah 29 (.t 28)),.grd 29 false (.aj 30 (.t 2) 1),.grd 29 false (.load 31 none (.t 30)),.grd 29 false (.aj 32 (.t 3) 1),.grd 29 false (.load 33 none (.t 32)),.grd 29 false (.bin 34 .neq (.t 31) (.t 33)),.grd 23 true (.pick 35 (.t 29) (.c (.bool true)) (.t 34)),.pick 36 (.t 23) (.t 35) (.c (.bool false))]) (.cond (.t 36) (.ops [.ay 9 (.c (.int .i64 22))]) .skip)) (.seq
   ahp (.seq (.seq (.ops [.ah 61 (.t 9),.bin 62 .neq (.t 61) (.c (.int .i64 0))]) (.cond (.t 62) (.seq (.ops [.ah 63 (.t 9),.ay 4 (.nil 2),.ay 5 (.c (.int .i64 0)),.ay 6 (.t 63)]) .ret) .skip)) (.seq (.qp [] [] none [0,1,2,3,4,5,6] [.aj 64 (.t 7) 5,.load 65 none (.t 64),.aj 66 (.t 7) 6,.load 67 none (.t 66),.ay 4 (.t 65),.ay 5 (.t 67),.ay 6 (.c (.int .i64 0))]) .ret)))))))⟩
def akd:dQ:=⟨1,31,[.cell 2 (some 8),.tmp 3,.tmp 4],(.seq (.ops [.box 1 (.t 0),.alloc 2 [(.int .i64 0),(.int .i64 0),(.list 0 []),(.list 0 []),(.int .i64 0),(.list 0 []),(.int .i64 0),(.bool false)],.ay 3 (.nil 8),.ay 4 (.c (.int .i64 0))]) (.seq (.seq (.ops [.load 7 (some 3) (.t 1),.call 8 95 [(.t 7)],.ay 5 (.t 8)]) (.seq (.ops [.ah 9 (.t 5),.bin 10 .neq (.t 9) (.c (.int .i64 0))]) (.cond (.t 10) (.seq (.ops [.build 11 [(.int .i64 0),(.int .i64 0),(.list 0 []),(.list 0 []),(.int .i64 0),(.list 0 []),(.int .i64 0),(.bool false)] [],.ah 12 (.t 5),.store none 8 (.t 2) (.t 11),.ay 3 (.nil 8),.ay 4 (.t 12)]) .ret) .skip))) (.seq (.drs [] [2,6,23] [.load 13 (some 3) (.t 1),.call 14 96 [(.t 13)],.aj 15 (.t 1) 2,.load 16 none (.t 15),.len 17 (.t 16),.bin 18 .sub (.t 17) (.c (.int .i64 1)),.build 19 [(.int .i64 0),(.int .i64 0)] [(0,1,(.c (.int .i64 0))),(1,1,(.c (.int .i64 1)))],.eU 20 2 [(.t 19)],.build 21 [(.int .i64 0),(.int .i64 0),(.list 0 []),(.list 0 []),(.int .i64 0),(.list 2 []),(.int .i64 0),(.bool false)] [(0,3,(.t 14)),(4,1,(.t 18)),(3,1,(.t 20))],.build 22 [(.int .i64 0),(.int .i64 0),(.list 0 []),(.list 0 []),(.int .i64 0),(.list 0 []),(.int .i64 0),(.bool false)] [(0,8,(.t 21))],.box 23 (.t 22),.ay 6 (.t 23)]
   [⟨[([0,2,3,4,5,6],1),([],7),([8,9],10)],none,[11],[0,2,3,4,5,6,1,7,8,9,10,11],false⟩,⟨[([0,2,3,4,5,6],7),([],1),([8,9],10)],none,[11],[0,2,3,4,5,6,7,1,8,9,10,11],false⟩]) (.seq (.drs [] [2,3,4,30] [.ah 24 (.t 6),.aj 25 (.t 24) 0,.aj 26 (.t 25) 0,.load 27 (some 8) (.t 26),.ah 28 (.t 6),.call 29 97 [(.t 28)],.eU 30 8 [(.t 29)],.store none 8 (.t 2) (.t 27),.ay 3 (.t 30),.ay 4 (.c (.int .i64 0))]
   [⟨[([0,4],1),([2,3],5)],(some ([],[],7,[([],6)])),[8,9],[0,4,1,2,3,5,7,6,8,9],false⟩,⟨[([0,4],5),([],1)],(some ([2,3],[],7,[([],6)])),[8,9],[0,4,5,1,2,3,7,6,8,9],false⟩,⟨[([0,4],1),([2,3],5),([],6)],(some ([],[],7,[])),[8,9],[0,4,1,2,3,5,6,7,8,9],false⟩,⟨[([0,4],5),([],1),([2,3],6)],(some ([],[],7,[])),[8,9],[0,4,5,1,2,3,6,7,8,9],false⟩,⟨[([0,4],5),([],6),([],1)],(some ([2,3],[],7,[])),[8,9],[0,4,5,6,1,2,3,7,8,9],false⟩]) .ret))))⟩
def ake:dQ:=⟨2,100,[.cell 4 (some 8),.tmp 5,.tmp 6],(.seq (.ops [.box 2 (.t 0),.box 3 (.t 1),.alloc 4 [(.int .i64 0),(.int .i64 0),(.list 0 []),(.list 0 []),(.int .i64 0),(.list 0 []),(.int .i64 0),(.bool false)],.ay 5 (.nil 8),.ay 6 (.c (.int .i64 0))]) (.seq (.seq (.ops [.load 11 (some 8) (.t 2),.call 12 98 [(.t 11)],.ay 7 (.t 12)]) (.seq (.ops [.ah 13 (.t 7),.bin 14 .neq (.t 13) (.c (.int .i64 0))]) (.cond (.t 14) (.seq (.ops [.build 15 [(.int .i64 0),(.int .i64 0),(.list 0 []),(.list 0 []),(.int .i64 0),(.list 0 []),(.int .i64 0),(.bool false)] [],.ah 16 (.t 7),.store none 8 (.t 4) (.t 15),.ay 5 (.nil 8),.ay 6 (.t 16)]) .ret) .skip))) (.seq (.ops [.aj 17 (.t 2) 0,.load 18 (some 3) (.t 17),.call 19 96 [(.t 18)],.aj 20 (.t 2) 0,.store none 3 (.t 20) (.t 19)]) (.seq (.ops [.load 21 (some 8) (.t 2),.build 22 [(.int .i64 0),(.int .i64 0),(.list 0 []),(.list 0 []),(.int .i64 0),(.list 0 []),(.int .i64 0),(.bool false)] [(0,8,(.t 21))],.box 23 (.t 22),.ay 8 (.t 23)]) (.seq (.ops [.ah 24 (.t 8),.lin 25 97 (.t 24) [],.alloc 9 [(.int .i64 0),(.int .i64 0),(.int .i64 0),(.int .i64 0),(.int .i64 0),(.int .i64 0),(.list 0 []),(.list 0 [])],.store none 8 (.t 9) (.t 25)]) (.seq (.block 0 (.seq (.ops [.ah 27 (.t 8),.aj 28 (.t 27) 0,.aj 29 (.t 28) 0,.aj 30 (.t 29) 7,.load 31 none (.t 30),.ay 26 (.t 31)]) (.cond (.t 26) (.seq (.ops [.build 32 [(.int .i64 0),(.int .i64 0),(.list 0 []),(.list 0 []),(.int .i64 0),(.list 0 []),(.int .i64 0),(.bool false)] [],.store none 8 (.t 4) (.t 32),.ay 5 (.nil 8),.ay 6 (.c (.int .i64 12))]) .ret) (.seq (.ops [.aj 34 (.t 3) 0,.load 35 none (.t 34),.bin 36 .neq (.t 35) (.c (.int .i64 14)),.ay 33 (.t 36)]) (.cond (.t 33) (.seq (.ops [.build 37 [(.int .i64 0),(.int .i64 0),(.list 0 []),(.list 0 []),(.int .i64 0),(.list 0 []),(.int .i64 0),(.bool false)] [],.store none 8 (.t 4) (.t 37),.ay 5 (.nil 8),.ay 6 (.c (.int .i64 1))]) .ret) (.seq (.ops [.aj 39 (.t 3) 3,.load 40 none (.t 39),.aj 41 (.t 9) 3,.load 42 none (.t 41),.bin 43 .neq (.t 40) (.t 42),.ah 44 (.t 43),.grd 44 false (.aj 45 (.t 3) 6),.grd 44 false (.load 46 none (.t 45)),.grd 44 false (.aj 47 (.t 9) 6),.grd 44 false (.load 48 none (.t 47)),.grd 44 false (.call 49 99 [(.t 46),(.t 48)]),.grd 44 false (.un 50 .not (.t 49)),.pick 51 (.t 44) (.c (.bool true)) (.t 50),.ay 38 (.t 51)]) (.cond (.t 38) (.seq (.ops [.build 52 [(.int .i64 0),(.int .i64 0),(.list 0 []),(.list 0 []),(.int .i64 0),(.list 0 []),(.int .i64 0),(.bool false)] [],.store none 8 (.t 4) (.t 52),.ay 5 (.nil 8),.ay 6 (.c (.int .i64 22))]) .ret) (.seq (.qp [] [([0,1,2,3],4),([5,6,7],8)] none [9,10,11] [.aj 54 (.t 3) 7,.load 55 none (.t 54),.len 56 (.t 55),.ah 57 (.t 8),.aj 58 (.t 57) 0,.aj 59 (.t 58) 0,.aj 60 (.t 59) 3,.load 61 none (.t 60),.call 62 100 [(.t 61)],.bin 63 .mul (.c (.int .i64 8)) (.t 62),.bin 64 .neq (.t 56) (.t 63),.ay 53 (.t 64)]) (.cond (.t 53) (.seq (.ops [.build 65 [(.int .i64 0),(.int .i64 0),(.list 0 []),(.list 0 []),(.int .i64 0),(.list 0 []),(.int .i64 0),(.bool false)] [],.store none 8 (.t 4) (.t 65),.ay 5 (.nil 8),.ay 6 (.c (.int .i64 3))]) .ret) .skip))))))))) (.seq (.ops [.ah 66 (.t 8),.aj 67 (.t 3) 7,.load 68 none (.t 67),.lin 69 101 (.t 66) [(.t 68)],.ay 10 (.t 69)]) (.seq (.block 1 (.seq (.ops [.ah 81 (.t 8),.aj 82 (.t 81) 0,.aj 83 (.t 82) 0,.aj 84 (.t 83) 4,.load 85 none (.t 84),.bin 86 .eql (.t 85) (.c (.int .i64 0)),.ay 80 (.t 86)]) (.cond (.t 80) (.ops [.ah 87 (.t 8),.UY 88 (.t 10),.lin 89 102 (.t 87) [(.t 88)]]) (.seq (.ops [.ah 91 (.t 10),.len 92 (.t 91),.bin 93 .eql (.t 92) (.c (.int .i64 0)),.ay 90 (.t 93)]) (.cond (.t 90) (.ops [.ah 94 (.t 8),.lin 95 103 (.t 94) []]) (.seq (.ops [.ah 70 (.t 8),.UY 71 (.t 10),.lin 72 104 (.t 70) [(.t 71)]]) (.seq (.drs [] [4,5,6,79] [.ah 73 (.t 8),.aj 74 (.t 73) 0,.aj 75 (.t 74) 0,.load 76 (some 8) (.t 75),.ah 77 (.t 8),.call 78 97 [(.t 77)],.eU 79 8 [(.t 78)],.store none 8 (.t 4) (.t 76),.ay 5 (.t 79),.ay 6 (.c (.int .i64 0))]
         [⟨[([0,4],1),([2,3],5)],(some ([],[],7,[([],6)])),[8,9],[0,4,1,2,3,5,7,6,8,9],false⟩,⟨[([0,4],5),([],1)],(some ([2,3],[],7,[([],6)])),[8,9],[0,4,5,1,2,3,7,6,8,9],false⟩,⟨[([0,4],1),([2,3],5),([],6)],(some ([],[],7,[])),[8,9],[0,4,1,2,3,5,6,7,8,9],false⟩,⟨[([0,4],5),([],1),([2,3],6)],(some ([],[],7,[])),[8,9],[0,4,5,1,2,3,6,7,8,9],false⟩,⟨[([0,4],5),([],6),([],1)],(some ([2,3],[],7,[])),[8,9],[0,4,5,6,1,2,3,7,8,9],false⟩]) .ret))))))) (.seq (.ops [.ah 96 (.t 8),.aj 97 (.t 96) 0,.aj 98 (.t 97) 0,.load 99 (some 8) (.t 98),.store none 8 (.t 4) (.t 99),.ay 5 (.nil 8),.ay 6 (.c (.int .i64 0))]) .ret)))))))))⟩
def ahq:au:=(.ops [.ay 8 (.t 72)])
def ahr:au:=(.block 2 (.qp [] [([0,1,2,3,4,5,6,7],8)] (some ([],[],9,[([],10)])) [] [.load 73 none (.t 7),.ah 74 (.t 8),.bG 75 1 (.t 74) (.c (.int .i64 0)),.load 76 none (.t 75),.ah 77 (.t 8),.bG 78 1 (.t 77) (.c (.int .i64 1)),.load 79 none (.t 78),.build 80 [(.int .i64 0),(.int .i64 0)] [(0,1,(.t 76)),(1,1,(.t 79))],.eU 81 2 [(.t 80)],.app 82 2 (.t 73) (.t 81),.store none 1 (.t 7) (.t 82)]))
def ahs:au:=(.ops [.ay 11 (.t 107)])
def aht:au:=(.block 4 (.qp [] [([0,1,2,3,4,5],6)] (some ([],[],7,[([8],9)])) [] [.aj 108 (.t 10) 7,.load 109 none (.t 108),.load 110 none (.t 9),.ah 111 (.t 11),.bG 112 1 (.t 110) (.t 111),.load 113 none (.t 112),.call 114 109 [(.t 113)],.app 115 1 (.t 109) (.t 114),.aj 116 (.t 10) 7,.store none 1 (.t 116) (.t 115)]))
def akf:dQ:=⟨2,118,[.cell 4 (some 8),.tmp 5],(.seq (.ops [.box 2 (.t 0),.box 3 (.t 1),.alloc 4 [(.int .i64 0),(.int .i64 0),(.int .i64 0),(.int .i64 0),(.int .i64 0),(.int .i64 0),(.list 0 []),(.list 0 [])],.ay 5 (.c (.int .i64 0))]) (.seq (.ops [.load 12 (some 3) (.t 2),.call 13 95 [(.t 12)],.ay 6 (.t 13)]) (.seq (.block 0 (.seq (.ops [.ah 15 (.t 6),.bin 16 .neq (.t 15) (.c (.int .i64 0)),.ay 14 (.t 16)]) (.cond (.t 14) (.seq (.ops [.build 17 [(.int .i64 0),(.int .i64 0),(.int .i64 0),(.int .i64 0),(.int .i64 0),(.int .i64 0),(.list 0 []),(.list 0 [])] [],.ah 18 (.t 6),.store none 8 (.t 4) (.t 17),.ay 5 (.t 18)]) .ret) (.seq (.ops [.aj 20 (.t 3) 0,.load 21 none (.t 20),.bin 22 .neq (.t 21) (.c (.int .i64 13)),.ay 19 (.t 22)]) (.cond (.t 19) (.seq (.ops [.build 23 [(.int .i64 0),(.int .i64 0),(.int .i64 0),(.int .i64 0),(.int .i64 0),(.int .i64 0),(.list 0 []),(.list 0 [])] [],.store none 8 (.t 4) (.t 23),.ay 5 (.c (.int .i64 1))]) .ret) (.seq (.ops [.aj 25 (.t 3) 6,.load 26 none (.t 25),.len 27 (.t 26),.bin 28 .lss (.t 27) (.c (.int .i64 2)),.ah 29 (.t 28),.grd 29 false (.aj 30 (.t 3) 6),.grd 29 false (.load 31 none (.t 30)),.grd 29 false (.len 32 (.t 31)),.grd 29 false (.bin 33 .rem (.t 32) (.c (.int .i64 2))),.grd 29 false (.bin 34 .eql (.t 33) (.c (.int .i64 1))),.pick 35 (.t 29) (.c (.bool true)) (.t 34),.ay 24 (.t 35)]) (.cond (.t 24) (.seq (.ops [.build 36 [(.int .i64 0),(.int .i64 0),(.int .i64 0),(.int .i64 0),(.int .i64 0),(.int .i64 0),(.list 0 []),(.list 0 [])] [],.store none 8 (.t 4) (.t 36),.ay 5 (.c (.int .i64 3))]) .ret) (.seq (.qp [] [] none [0,1,2,3,4,5,6,7,8,9,10,11,12,13,14,15,16] [.aj 38 (.t 3) 6,.load 39 none (.t 38),.bG 40 1 (.t 39) (.c (.int .i64 0)),.load 41 none (.t 40),.aj 42 (.t 2) 0,.load 43 none (.t 42),.bin 44 .neq (.t 41) (.t 43),.ah 45 (.t 44),.grd 45 false (.aj 46 (.t 3) 6),.grd 45 false (.load 47 none (.t 46)),.grd 45 false (.bG 48 1 (.t 47) (.c (.int .i64 1))),.grd 45 false (.load 49 none (.t 48)),.grd 45 false (.aj 50 (.t 2) 1),.grd 45 false (.load 51 none (.t 50)),.grd 45 false (.bin 52 .neq (.t 49) (.t 51)),.pick 53 (.t 45) (.c (.bool true)) (.t 52),.ay 37 (.t 53)]) (.cond (.t 37) (.seq (.ops [.build 54 [(.int .i64 0),(.int .i64 0),(.int .i64 0),(.int .i64 0),(.int .i64 0),(.int .i64 0),(.list 0 []),(.list 0 [])] [],.store none 8 (.t 4) (.t 54),.ay 5 (.c (.int .i64 22))]) .ret) (.seq (.ops [.aj 56 (.t 3) 3,.load 57 none (.t 56),.bin 58 .lss (.t 57) (.c (.int .i64 0)),.ah 59 (.t 58),.grd 59 false (.aj 60 (.t 3) 3),.grd 59 false (.load 61 none (.t 60)),.grd 59 false (.aj 62 (.t 2) 2),.grd 59 false (.load 63 none (.t 62)),.grd 59 false (.len 64 (.t 63)),.grd 59 false (.bin 65 .geq (.t 61) (.t 64)),.pick 66 (.t 59) (.c (.bool true)) (.t 65),.ay 55 (.t 66)]) (.cond (.t 55) (.seq (.ops [.build 67 [(.int .i64 0),(.int .i64 0),(.int .i64 0),(.int .i64 0),(.int .i64 0),(.int .i64 0),(.list 0 []),(.list 0 [])] [],.store none 8 (.t 4) (.t 67),.ay 5 (.c (.int .i64 2))]) .ret) .skip))))))))))) (.seq (.ops [.alloc 7 [(.list 2 [])]]) (.seq (.seq (.ops [.aj 68 (.t 3) 6,.load 69 none (.t 68),.Hz 70 1 (.t 69) (some (.c (.int .i64 2))) none,.call 71 105 [(.t 70),(.c (.int .i64 2))]]) (.block 1 (.rng (.t 71) [72] ahq ahr))) (.seq (.ops [.aj 83 (.t 2) 2,.load 84 none (.t 83),.aj 85 (.t 3) 3,.load 86 none (.t 85),.bG 87 1 (.t 84) (.t 86),.load 88 none (.t 87),.alloc 9 [(.list 1 [])],.store none 1 (.t 9) (.t 88)]) (.seq (.seq (.ops [.load 89 none (.t 7),.load 90 none (.t 9),.len 91 (.t 90),.call 92 106 [(.t 89),(.t 91)],.bin 93 .neq (.t 92) (.c (.int .i64 0))]) (.cond (.t 93) (.seq (.ops [.build 94 [(.int .i64 0),(.int .i64 0),(.int .i64 0),(.int .i64 0),(.int .i64 0),(.int .i64 0),(.list 0 []),(.list 0 [])] [],.store none 8 (.t 4) (.t 94),.ay 5 (.c (.int .i64 3))]) .ret) .skip)) (.seq (.drs [] [4,7,9,10,107] [.aj 95 (.t 3) 2,.load 96 none (.t 95),.aj 97 (.t 3) 1,.load 98 none (.t 97),.aj 99 (.t 3) 3,.load 100 none (.t 99),.aj 101 (.t 3) 6,.load 102 none (.t 101),.call 103 107 [(.t 102)],.build 104 [(.int .i64 0),(.int .i64 0),(.int .i64 0),(.int .i64 0),(.int .i64 0),(.int .i64 0),(.list 0 []),(.kY 1)] [(0,1,(.c (.int .i64 14))),(1,1,(.t 96)),(2,1,(.t 98)),(3,1,(.t 100)),(6,1,(.t 103))],.alloc 10 [(.int .i64 0),(.int .i64 0),(.int .i64 0),(.int .i64 0),(.int .i64 0),(.int .i64 0),(.list 0 []),(.list 0 [])],.Zo 8 (.t 10) (.t 104)]
     [⟨[([0,1,2,3,4,5,6,7],8),([9],10)],(some ([],[],11,[])),[],[0,1,2,3,4,5,6,7,8,9,10,11],false⟩,⟨[([0,1,2,3,4,5,6,7],10),([],8)],(some ([9],[],11,[])),[],[0,1,2,3,4,5,6,7,10,8,9,11],false⟩]) (.seq (.seq (.ops [.load 105 none (.t 7),.call 106 108 [(.t 105)]]) (.block 3 (.rng (.t 106) [107] ahs aht))) (.seq (.ops [.load 117 (some 8) (.t 10),.store none 8 (.t 4) (.t 117),.ay 5 (.c (.int .i64 0))]) .ret))))))))))⟩
def ahu:au:=(.seq (.seq (.ops [.ah 11 (.t 5),.ah 12 (.t 0),.len 13 (.t 12),.bin 14 .lss (.t 11) (.t 13)]) (.cond (.t 14) .skip (.exit 0))) (.seq (.block 1 (.seq (.qp [] [] none [0,1,2,3,4,5,6,7,8] [.ah 17 (.t 0),.ah 18 (.t 5),.bG 19 2 (.t 17) (.t 18),.load 20 (some 2) (.t 19),.ah 21 (.t 1),.ah 22 (.t 5),.bG 23 2 (.t 21) (.t 22),.load 24 (some 2) (.t 23),.UW 25 true 2 (.t 20) (.t 24)]) (.cond (.t 25) (.seq (.ops [.ay 4 (.c (.bool false))]) .ret) .skip))) (.ops [.ah 15 (.t 5),.bin 16 .add (.t 15) (.c (.int .i64 1)),.ay 5 (.t 16)])))
def ahv:au :=
(.clean [0,1,5] [4] (.block 0 (.loop [0,1,5] ahu)))
def akg:dQ:=⟨2,26,[.tmp 4],(.seq (.ops [.ay 4 (.c (.bool false))]) (.seq (.seq (.ops [.ah 6 (.t 0),.len 7 (.t 6),.ah 8 (.t 1),.len 9 (.t 8),.bin 10 .neq (.t 7) (.t 9)]) (.cond (.t 10) (.seq (.ops [.ay 4 (.c (.bool false))]) .ret) .skip)) (.seq (.seq (.ops [.ay 5 (.c (.int .i64 0))])
   ahv) (.seq (.ops [.ay 4 (.c (.bool true))]) .ret))))⟩
def ahw:au:=(.seq (.ops [.ay 9 (.t 24)]) (.ops [.alloc 10 [(.int .i64 0),(.int .i64 0)],.store none 2 (.t 10) (.t 25)]))
def ahx:au:=(.block 1 (.qp [] [([0,1,2,3,4,5,6,7,8,9,10,11,12,13,14,15],16),([17],18)] (some ([],[],19,[([],20)])) [] [.load 26 none (.t 8),.ah 27 (.t 9),.aj 28 (.t 10) 0,.load 29 none (.t 28),.load 30 none (.t 2),.ah 31 (.t 9),.bG 32 1 (.t 30) (.t 31),.load 33 none (.t 32),.aj 34 (.t 10) 0,.load 35 none (.t 34),.aj 36 (.t 10) 0,.load 37 none (.t 36),.aj 38 (.t 10) 1,.load 39 none (.t 38),.bin 40 .add (.t 37) (.t 39),.Hz 41 8 (.t 33) (some (.t 35)) (some (.t 40)),.call 42 133 [(.t 41)],.build 43 [(.int .i64 0),(.int .i64 0),(.list 0 [])] [(0,1,(.t 27)),(1,1,(.t 29)),(2,1,(.t 42))],.eU 44 3 [(.t 43)],.app 45 3 (.t 26) (.t 44),.store none 1 (.t 8) (.t 45)]))
def akh:dQ:=⟨2,47,[.tmp 4,.tmp 5],(.seq (.ops [.box 2 (.t 0),.ay 4 (.nil 3),.ay 5 (.c (.int .i64 0))]) (.seq (.seq (.ops [.load 11 none (.t 2),.call 12 76 [(.t 11)],.ay 6 (.t 12)]) (.seq (.ops [.ah 13 (.t 6),.bin 14 .neq (.t 13) (.c (.int .i64 0))]) (.cond (.t 14) (.seq (.ops [.ah 15 (.t 6),.ay 4 (.nil 3),.ay 5 (.t 15)]) .ret) .skip))) (.seq (.seq (.ops [.load 16 none (.t 2),.ah 17 (.t 1),.call 18 131 [(.t 16),(.t 17)],.ay 7 (.t 18)]) (.seq (.ops [.ah 19 (.t 7),.bin 20 .neq (.t 19) (.c (.int .i64 0))]) (.cond (.t 20) (.seq (.ops [.ah 21 (.t 7),.ay 4 (.nil 3),.ay 5 (.t 21)]) .ret) .skip))) (.seq (.ops [.alloc 8 [(.list 3 [])]]) (.seq (.seq (.ops [.ah 22 (.t 1),.call 23 132 [(.t 22)]]) (.block 0 (.rng (.t 23) [24,25] ahw ahx))) (.seq (.ops [.load 46 none (.t 8),.ay 4 (.t 46),.ay 5 (.c (.int .i64 0))]) .ret))))))⟩
def Ee:au:=(.seq (.seq (.ops [.ah 4 (.t 3),.ah 5 (.t 0),.len 6 (.t 5),.bin 7 .lss (.t 4) (.t 6)]) (.cond (.t 7) .skip (.exit 0))) (.seq (.block 1 (.seq (.ops [.ah 10 (.t 0),.ah 11 (.t 3),.bG 12 4 (.t 10) (.t 11),.aj 13 (.t 12) 3,.load 14 none (.t 13),.len 15 (.t 14),.bin 16 .gtr (.t 15) (.c (.int .i64 8))]) (.cond (.t 16) (.seq (.ops [.ay 2 (.c (.bool false))]) .ret) .skip))) (.ops [.ah 8 (.t 3),.bin 9 .add (.t 8) (.c (.int .i64 1)),.ay 3 (.t 9)])))
def Lr:au :=
(.clean [0,3] [0,2] (.block 0 (.loop [0,3] Ee)))
def abz:dQ:=⟨1,20,[.tmp 2],(.seq (.ops [.ay 2 (.c (.bool false))]) (.seq (.seq (.ops [.ay 3 (.c (.int .i64 0))])
  Lr) (.seq (.ops [.ah 17 (.t 0),.len 18 (.t 17),.bin 19 .leq (.t 18) (.c (.int .i64 30)),.ay 2 (.t 19)]) .ret)))⟩
def Ls:au:=(.seq (.seq (.ops [.ah 53 (.t 17),.ah 54 (.t 2),.len 55 (.t 54),.bin 56 .lss (.t 53) (.t 55),.ah 57 (.t 56),.grd 57 true (.aj 58 (.t 16) 9),.grd 57 true (.load 59 none (.t 58)),.pick 60 (.t 57) (.t 59) (.c (.bool false))]) (.cond (.t 60) .skip (.exit 0))) (.seq (.block 1 (.qp [] [([0,1,2,3,4],5)] (some ([],[],6,[])) [] [.load 63 (some 10) (.t 16),.ah 64 (.t 2),.ah 65 (.t 17),.bG 66 4 (.t 64) (.t 65),.load 67 (some 4) (.t 66),.call 68 134 [(.t 63),(.t 67)],.store none 10 (.t 16) (.t 68)])) (.ops [.ah 61 (.t 17),.bin 62 .add (.t 61) (.c (.int .i64 1)),.ay 17 (.t 62)])))
def Lu:au :=
(.clean [2,10,11,16,17] [6,7,8,9,10,11,16] (.block 0 (.loop [2,10,11,16,17] Ls)))
def abA:dQ:=⟨3,90,[.tmp 6,.tmp 7,.tmp 8,.tmp 9],(.seq (.ops [.ay 6 (.nil 1),.ay 7 (.nil 1),.ay 8 (.nil 1),.ay 9 (.c (.bool false))]) (.seq (.ops [.ah 21 (.t 0),.conv 22 .i64 (.t 21),.bin 23 .rem (.t 22) (.c (.int .i64 16)),.bin 24 .add (.c (.int .i64 1)) (.t 23),.ah 25 (.t 1),.conv 26 .i64 (.t 25),.bin 27 .rem (.t 26) (.c (.int .i64 6)),.bin 28 .add (.c (.int .i64 1)) (.t 27),.ay 10 (.t 24),.ay 11 (.t 28)]) (.seq (.ops [.ah 30 (.t 10),.eU 31 1 [(.t 30)],.call 32 52 [(.t 31)],.ah 29 (.t 32),.ext 33 (.t 29) 0,.ext 34 (.t 29) 1,.ay 12 (.t 33),.ay 13 (.t 34)]) (.seq (.ops [.ah 36 (.t 10),.ah 37 (.t 11),.call 38 87 [(.t 36),(.t 37)],.ah 35 (.t 38),.ext 39 (.t 35) 0,.ext 40 (.t 35) 1,.alloc 14 [(.int .i64 0),(.int .i64 0),(.list 1 []),(.int .i64 0),(.list 1 [])],.store none 5 (.t 14) (.t 39),.ay 15 (.t 40)]) (.seq (.drs [] [2,10,11,16] [.UY 41 (.t 12),.UY 42 (.t 12),.load 43 (some 5) (.t 14),.load 44 (some 5) (.t 14),.call 45 90 [(.t 44)],.ah 46 (.t 13),.bin 47 .eql (.t 46) (.c (.int .i64 0)),.ah 48 (.t 47),.grd 48 true (.ah 49 (.t 15)),.grd 48 true (.bin 50 .eql (.t 49) (.c (.int .i64 0))),.pick 51 (.t 48) (.t 50) (.c (.bool false)),.build 52 [(.list 0 []),(.list 0 []),(.int .i64 0),(.int .i64 0),(.list 0 []),(.int .i64 0),(.list 0 []),(.list 0 []),(.list 5 []),(.bool false)] [(0,1,(.t 41)),(1,1,(.t 42)),(2,5,(.t 43)),(7,1,(.t 45)),(9,1,(.t 51))],.alloc 16 [(.list 0 []),(.list 0 []),(.int .i64 0),(.int .i64 0),(.list 0 []),(.int .i64 0),(.list 0 []),(.list 0 []),(.list 0 []),(.bool false)],.store none 10 (.t 16) (.t 52)]
    [⟨[([0,1,2,3,5,6],4),([7,8,9,10,11],12)],(some ([],[],13,[])),[],[0,1,2,3,5,6,4,7,8,9,10,11,12,13],false⟩,⟨[([0,1,2,3,5,6],12),([],4)],(some ([7,8,9,10,11],[],13,[])),[],[0,1,2,3,5,6,12,4,7,8,9,10,11,13],false⟩]) (.seq (.seq (.ops [.ay 17 (.c (.int .i64 0))])
    Lu) (.seq (.ops [.ah 70 (.t 10),.ah 71 (.t 11),.aj 72 (.t 16) 7,.load 73 none (.t 72),.call 74 89 [(.t 70),(.t 71),(.t 73)],.ah 69 (.t 74),.ext 75 (.t 69) 0,.ext 76 (.t 69) 1,.ext 77 (.t 69) 2,.alloc 18 [(.int .i64 0),(.int .i64 0),(.list 1 []),(.int .i64 0),(.list 1 [])],.store none 5 (.t 18) (.t 75),.ay 19 (.t 76),.ay 20 (.t 77)]) (.seq (.qp [] [([0,1,2,3,4,6,7,8,9,10,11,12,13],5)] none [14,15] [.aj 78 (.t 16) 0,.load 79 none (.t 78),.aj 80 (.t 16) 1,.load 81 none (.t 80),.ah 82 (.t 19),.aj 84 (.t 16) 9,.load 85 none (.t 84),.ah 86 (.t 85),.grd 86 true (.ah 87 (.t 20)),.grd 86 true (.bin 88 .eql (.t 87) (.c (.int .i64 0))),.pick 89 (.t 86) (.t 88) (.c (.bool false)),.ay 6 (.t 79),.ay 7 (.t 81),.eU 83 1 [(.t 82)],.ay 8 (.t 83),.ay 9 (.t 89)]) .ret))))))))⟩
def LC:au:=(.seq (.seq (.ops [.ah 12 (.t 6),.ah 13 (.t 0),.len 14 (.t 13),.bin 15 .lss (.t 12) (.t 14)]) (.cond (.t 15) .skip (.exit 0))) (.seq (.block 1 (.ops [.ah 18 (.t 5),.ah 19 (.t 0),.ah 20 (.t 6),.bG 21 1 (.t 19) (.t 20),.load 22 none (.t 21),.make 23 (.agg [(.int .u8 0),(.int .u8 0),(.int .u8 0),(.int .u8 0),(.int .u8 0),(.int .u8 0),(.int .u8 0),(.int .u8 0)]) (.t 22) (.t 22),.eU 24 1 [(.t 23)],.app 25 1 (.t 18) (.t 24),.ay 5 (.t 25)])) (.ops [.ah 16 (.t 6),.bin 17 .add (.t 16) (.c (.int .i64 1)),.ay 6 (.t 17)])))
def LD:au :=
(.clean [0,5,6,25] [2,3,5] (.block 0 (.loop [0,5,6,25] LC)))
def Yf:dQ:=⟨1,27,[.tmp 2,.tmp 3],(.seq (.ops [.ay 2 (.nil 1),.ay 3 (.c (.int .i64 0))]) (.seq (.seq (.ops [.ah 7 (.t 0),.call 8 143 [(.t 7)],.ay 4 (.t 8)]) (.seq (.ops [.ah 9 (.t 4),.bin 10 .neq (.t 9) (.c (.int .i64 0))]) (.cond (.t 10) (.seq (.ops [.ah 11 (.t 4),.ay 2 (.nil 1),.ay 3 (.t 11)]) .ret) .skip))) (.seq (.ops [.ay 5 (.nil 1)]) (.seq (.seq (.ops [.ay 6 (.c (.int .i64 0))])
   LD) (.seq (.ops [.ah 26 (.t 5),.ay 2 (.t 26),.ay 3 (.c (.int .i64 0))]) .ret)))))⟩
def aki:dQ:=⟨1,6,[.tmp 2],(.seq (.ops [.ay 2 (.c (.int .i64 0))]) (.seq (.ops [.ah 3 (.t 0),.call 4 166 [(.t 3)],.call 5 165 [(.t 4)],.ay 2 (.t 5)]) .ret))⟩
def LG:au:=(.seq (.seq (.ops [.ah 11 (.t 5),.ah 12 (.t 0),.len 13 (.t 12),.bin 14 .lss (.t 11) (.t 13)]) (.cond (.t 14) .skip (.exit 0))) (.seq (.block 1 (.seq (.qp [] [] none [0,1,2,3,4,5,6,7,8] [.ah 17 (.t 0),.ah 18 (.t 5),.bG 19 8 (.t 17) (.t 18),.load 20 (some 8) (.t 19),.ah 21 (.t 1),.ah 22 (.t 5),.bG 23 8 (.t 21) (.t 22),.load 24 (some 8) (.t 23),.UW 25 true 8 (.t 20) (.t 24)]) (.cond (.t 25) (.seq (.ops [.ay 4 (.c (.bool false))]) .ret) .skip))) (.ops [.ah 15 (.t 5),.bin 16 .add (.t 15) (.c (.int .i64 1)),.ay 5 (.t 16)])))
def LH:au :=
(.clean [0,1,5] [4] (.block 0 (.loop [0,1,5] LG)))
def abB:dQ:=⟨2,26,[.tmp 4],(.seq (.ops [.ay 4 (.c (.bool false))]) (.seq (.seq (.ops [.ah 6 (.t 0),.len 7 (.t 6),.ah 8 (.t 1),.len 9 (.t 8),.bin 10 .neq (.t 7) (.t 9)]) (.cond (.t 10) (.seq (.ops [.ay 4 (.c (.bool false))]) .ret) .skip)) (.seq (.seq (.ops [.ay 5 (.c (.int .i64 0))])
   LH) (.seq (.ops [.ay 4 (.c (.bool true))]) .ret))))⟩
def Yg:dQ:=⟨2,29,[.cell 4 (some 5),.tmp 5],(.seq (.ops [.alloc 4 [(.int .i64 0),(.int .i64 0),(.list 1 []),(.int .i64 0),(.list 1 [])],.ay 5 (.c (.int .i64 0))]) (.seq (.seq (.ops [.ah 9 (.t 0),.ah 10 (.t 1),.call 11 172 [(.t 9),(.t 10)],.un 12 .not (.t 11)]) (.cond (.t 12) (.seq (.ops [.build 13 [(.int .i64 0),(.int .i64 0),(.list 1 []),(.int .i64 0),(.list 1 [])] [],.store none 5 (.t 4) (.t 13),.ay 5 (.c (.int .i64 2))]) .ret) .skip)) (.seq (.ops [.ah 14 (.t 0),.ah 15 (.t 1),.call 16 173 [(.t 14),(.t 15)],.ay 6 (.t 16)]) (.seq (.ops [.ah 18 (.t 6),.call 19 169 [(.t 18)],.ah 17 (.t 19),.ext 20 (.t 17) 0,.ext 21 (.t 17) 1,.alloc 7 [(.int .i64 0),(.list 1 [])],.store none 2 (.t 7) (.t 20),.ay 8 (.t 21)]) (.seq (.qp [] [([0,1,2,4,6],3)] (some ([5],[],7,[])) [8] [.ah 22 (.t 0),.ah 23 (.t 1),.ah 24 (.t 6),.load 26 (some 2) (.t 7),.ah 28 (.t 8),.make 25 (.int .i64 0) (.t 24) (.t 24),.build 27 [(.int .i64 0),(.int .i64 0),(.list 1 []),(.int .i64 0),(.list 1 [])] [(0,1,(.t 22)),(1,1,(.t 23)),(2,1,(.t 25)),(3,2,(.t 26))],.store none 5 (.t 4) (.t 27),.ay 5 (.t 28)]) .ret)))))⟩
def LJ:au:=(.ops [.ay 11 (.t 25)])
def LK:au:=(.block 1 (.ops [.load 26 none (.t 10),.ah 27 (.t 26),.grd 27 false (.aj 28 (.t 2) 3),.grd 27 false (.load 29 (some 2) (.t 28)),.grd 27 false (.ah 30 (.t 11)),.grd 27 false (.call 31 177 [(.t 29),(.t 30)]),.grd 27 false (.un 32 .not (.t 31)),.pick 33 (.t 27) (.c (.bool true)) (.t 32),.store none 1 (.t 10) (.t 33)]))
def Yh:dQ:=⟨2,45,[.cell 4 (some 5),.tmp 5,.tmp 6],(.seq (.ops [.box 2 (.t 0),.box 3 (.t 1),.alloc 4 [(.int .i64 0),(.int .i64 0),(.list 1 []),(.int .i64 0),(.list 1 [])],.ay 5 (.c (.bool false)),.ay 6 (.c (.int .i64 0))]) (.seq (.ops [.load 13 (some 5) (.t 2),.load 14 (some 2) (.t 3),.call 15 174 [(.t 13),(.t 14),(.c (.func 175 []))],.ah 12 (.t 15),.ext 16 (.t 12) 0,.ext 17 (.t 12) 1,.ext 18 (.t 12) 2,.alloc 7 [(.int .i64 0),(.int .i64 0),(.list 1 []),(.int .i64 0),(.list 1 [])],.alloc 8 [(.int .i64 0),(.int .i64 0)],.store none 5 (.t 7) (.t 16),.store none 2 (.t 8) (.t 17),.ay 9 (.t 18)]) (.seq (.seq (.ops [.ah 19 (.t 9),.bin 20 .neq (.t 19) (.c (.int .i64 0))]) (.cond (.t 20) (.seq (.ops [.build 21 [(.int .i64 0),(.int .i64 0),(.list 1 []),(.int .i64 0),(.list 1 [])] [],.ah 22 (.t 9),.store none 5 (.t 4) (.t 21),.ay 5 (.c (.bool false)),.ay 6 (.t 22)]) .ret) .skip)) (.seq (.ops [.alloc 10 [(.bool false)],.store none 1 (.t 10) (.c (.bool false))]) (.seq (.seq (.ops [.load 23 (some 2) (.t 8),.call 24 176 [(.t 23)]]) (.block 0 (.rng (.t 24) [25] LJ LK))) (.seq (.ops [.aj 35 (.t 2) 3,.load 36 (some 2) (.t 35),.load 37 (some 2) (.t 8),.call 38 170 [(.t 36),(.t 37)],.ah 34 (.t 38),.ext 39 (.t 34) 0,.ext 40 (.t 34) 1,.aj 41 (.t 7) 3,.store none 2 (.t 41) (.t 39),.ay 9 (.t 40)]) (.seq (.qp [(.t 10)] [] (some ([0],[1,2],3,[])) [4,5] [.load 42 (some 5) (.t 7),.Nl 43 none (.t 10),.ah 44 (.t 9),.store none 5 (.t 4) (.t 42),.ay 5 (.t 43),.ay 6 (.t 44)]) .ret)))))))⟩
def LM:au:=(.seq (.ops [.bin 92 .lss (.t 91) (.t 90)]) (.seq (.cond (.t 92) .skip (.exit 1)) (.seq (.block 2 (.seq (.ops [.bG 93 2 (.t 89) (.t 91),.load 94 (some 2) (.t 93),.alloc 16 [(.int .i64 0),(.int .i64 0)],.store none 2 (.t 16) (.t 94)]) (.seq (.ops [.aj 95 (.t 16) 0,.load 96 none (.t 95),.ah 97 (.t 1),.bin 98 .mul (.t 96) (.t 97),.ay 17 (.t 98)]) (.ops [.ah 99 (.t 14),.ah 100 (.t 17),.aj 101 (.t 16) 0,.load 102 none (.t 101),.aj 103 (.t 16) 1,.load 104 none (.t 103),.bin 105 .add (.t 102) (.t 104),.ah 106 (.t 1),.bin 107 .mul (.t 105) (.t 106),.ah 108 (.t 0),.mn 109 false (.t 107) (.t 108),.ah 110 (.t 17),.bin 111 .sub (.t 109) (.t 110),.build 112 [(.int .i64 0),(.int .i64 0)] [(0,1,(.t 100)),(1,1,(.t 111))],.eU 113 2 [(.t 112)],.app 114 2 (.t 99) (.t 113),.ay 14 (.t 114)])))) (.ops [.bin 115 .add (.t 91) (.c (.int .i64 1)),.ah 91 (.t 115)]))))
def LP:au :=
(.clean [0,1,6,9,10,13,14,51,89,90,91,114] [6,7,8,9,10,14] (.block 1 (.loop [0,1,6,9,10,13,14,51,89,90,91,114] LM)))
def BL:dQ:=⟨3,120,[.cell 6 (some 5),.tmp 7,.tmp 8],(.seq (.ops [.alloc 6 [(.int .i64 0),(.int .i64 0),(.list 1 []),(.int .i64 0),(.list 1 [])],.ay 7 (.nil 2),.ay 8 (.c (.int .i64 0))]) (.seq (.ops [.ah 19 (.t 0),.ah 20 (.t 1),.call 21 87 [(.t 19),(.t 20)],.ah 18 (.t 21),.ext 22 (.t 18) 0,.ext 23 (.t 18) 1,.alloc 9 [(.int .i64 0),(.int .i64 0),(.list 1 []),(.int .i64 0),(.list 1 [])],.store none 5 (.t 9) (.t 22),.ay 10 (.t 23)]) (.seq (.seq (.ops [.ah 24 (.t 10),.bin 25 .neq (.t 24) (.c (.int .i64 0))]) (.cond (.t 25) (.seq (.ops [.build 26 [(.int .i64 0),(.int .i64 0),(.list 1 []),(.int .i64 0),(.list 1 [])] [],.ah 27 (.t 10),.store none 5 (.t 6) (.t 26),.ay 7 (.nil 2),.ay 8 (.t 27)]) .ret) .skip)) (.seq (.ops [.ah 29 (.t 2),.call 30 178 [(.t 29)],.ah 28 (.t 30),.ext 31 (.t 28) 0,.ext 32 (.t 28) 1,.ext 33 (.t 28) 2,.ay 11 (.t 31),.ay 2 (.t 32),.ay 10 (.t 33)]) (.seq (.seq (.ops [.ah 34 (.t 10),.bin 35 .neq (.t 34) (.c (.int .i64 0))]) (.cond (.t 35) (.seq (.ops [.build 36 [(.int .i64 0),(.int .i64 0),(.list 1 []),(.int .i64 0),(.list 1 [])] [],.ah 37 (.t 10),.store none 5 (.t 6) (.t 36),.ay 7 (.nil 2),.ay 8 (.t 37)]) .ret) .skip)) (.seq (.ops [.ah 39 (.t 2),.call 40 178 [(.t 39)],.ah 38 (.t 40),.ext 41 (.t 38) 0,.ext 42 (.t 38) 1,.ext 43 (.t 38) 2,.ay 12 (.t 41),.ay 2 (.t 42),.ay 10 (.t 43)]) (.seq (.seq (.ops [.ah 44 (.t 10),.bin 45 .neq (.t 44) (.c (.int .i64 0))]) (.cond (.t 45) (.seq (.ops [.build 46 [(.int .i64 0),(.int .i64 0),(.list 1 []),(.int .i64 0),(.list 1 [])] [],.ah 47 (.t 10),.store none 5 (.t 6) (.t 46),.ay 7 (.nil 2),.ay 8 (.t 47)]) .ret) .skip)) (.seq (.ops [.ah 49 (.t 2),.call 50 179 [(.t 49)],.ah 48 (.t 50),.ext 51 (.t 48) 0,.ext 52 (.t 48) 1,.ext 53 (.t 48) 2,.ay 13 (.t 51),.ay 2 (.t 52),.ay 10 (.t 53)]) (.seq (.block 0 (.seq (.ops [.ah 55 (.t 10),.bin 56 .neq (.t 55) (.c (.int .i64 0)),.ay 54 (.t 56)]) (.cond (.t 54) (.seq (.ops [.build 57 [(.int .i64 0),(.int .i64 0),(.list 1 []),(.int .i64 0),(.list 1 [])] [],.ah 58 (.t 10),.store none 5 (.t 6) (.t 57),.ay 7 (.nil 2),.ay 8 (.t 58)]) .ret) (.seq (.ops [.ah 60 (.t 2),.len 61 (.t 60),.bin 62 .gtr (.t 61) (.c (.int .i64 0)),.ay 59 (.t 62)]) (.cond (.t 59) (.seq (.ops [.build 63 [(.int .i64 0),(.int .i64 0),(.list 1 []),(.int .i64 0),(.list 1 [])] [],.store none 5 (.t 6) (.t 63),.ay 7 (.nil 2),.ay 8 (.c (.int .i64 3))]) .ret) (.seq (.seq (.ops [.ah 65 (.t 11),.ah 66 (.t 0),.bin 67 .neq (.t 65) (.t 66),.ay 64 (.t 67)]) (.cond (.t 64) .skip (.ops [.ah 68 (.t 12),.ah 69 (.t 1),.bin 70 .neq (.t 68) (.t 69),.ay 64 (.t 70)]))) (.cond (.t 64) (.seq (.ops [.build 71 [(.int .i64 0),(.int .i64 0),(.list 1 []),(.int .i64 0),(.list 1 [])] [],.store none 5 (.t 6) (.t 71),.ay 7 (.nil 2),.ay 8 (.c (.int .i64 22))]) .ret) (.seq (.ops [.ah 73 (.t 13),.aj 74 (.t 9) 2,.load 75 none (.t 74),.len 76 (.t 75),.call 77 106 [(.t 73),(.t 76)],.bin 78 .neq (.t 77) (.c (.int .i64 0)),.ay 72 (.t 78)]) (.cond (.t 72) (.seq (.ops [.build 79 [(.int .i64 0),(.int .i64 0),(.list 1 []),(.int .i64 0),(.list 1 [])] [],.store none 5 (.t 6) (.t 79),.ay 7 (.nil 2),.ay 8 (.c (.int .i64 3))]) .ret) .skip))))))))) (.seq (.ops [.aj 81 (.t 9) 2,.load 82 none (.t 81),.len 83 (.t 82),.ah 84 (.t 13),.call 85 116 [(.t 83),(.t 84)],.ah 80 (.t 85),.ext 86 (.t 80) 0,.ext 87 (.t 80) 1,.aj 88 (.t 9) 3,.store none 2 (.t 88) (.t 86),.ay 10 (.t 87)]) (.seq (.ops [.ay 14 (.nil 2)]) (.seq (.seq (.ops [.ah 89 (.t 13),.len 90 (.t 89),.ah 91 (.c (.int .i64 0))])
       LP) (.seq (.qp [] [([0,1,3],2)] (some ([],[],4,[])) [5,6] [.load 116 (some 5) (.t 9),.ah 117 (.t 14),.ah 119 (.t 10),.call 118 180 [(.t 117),(.nil 2)],.store none 5 (.t 6) (.t 116),.ay 7 (.t 118),.ay 8 (.t 119)]) .ret)))))))))))))⟩
def Yi:dQ:=⟨1,18,[.tmp 2],(.seq (.ops [.box 1 (.t 0),.ay 2 (.nil 1)]) (.seq (.seq (.ops [.load 4 (some 5) (.t 1),.call 5 181 [(.t 4)],.bin 6 .neq (.t 5) (.c (.int .i64 0))]) (.cond (.t 6) (.seq (.ops [.ay 2 (.nil 1)]) .ret) .skip)) (.seq (.qp [] [([0,1,3,4],2),([],5)] none [6] [.aj 7 (.t 1) 0,.load 8 none (.t 7),.aj 10 (.t 1) 1,.load 11 none (.t 10),.call 9 182 [(.nil 1),(.t 8)],.call 12 182 [(.t 9),(.t 11)],.ay 3 (.t 12)]) (.seq (.ops [.ah 13 (.t 3),.aj 14 (.t 1) 3,.load 15 (some 2) (.t 14),.call 16 154 [(.t 15)],.call 17 183 [(.t 13),(.t 16)],.ay 2 (.t 17)]) .ret))))⟩
def akj:dQ:=⟨2,19,[.tmp 4],(.seq (.ops [.ay 4 (.c (.int .i64 0))]) (.seq (.block 0 (.seq (.ops [.ah 6 (.t 0),.bin 7 .lss (.t 6) (.c (.int .i64 1)),.ah 8 (.t 7),.grd 8 false (.ah 9 (.t 0)),.grd 8 false (.bin 10 .gtr (.t 9) (.c (.int .i64 4096))),.pick 11 (.t 8) (.c (.bool true)) (.t 10),.ay 5 (.t 11)]) (.cond (.t 5) (.seq (.ops [.ay 4 (.c (.int .i64 2))]) .ret) (.seq (.ops [.ah 13 (.t 1),.bin 14 .lss (.t 13) (.c (.int .i64 1)),.ah 15 (.t 14),.grd 15 false (.ah 16 (.t 1)),.grd 15 false (.bin 17 .gtr (.t 16) (.c (.int .i64 4096))),.pick 18 (.t 15) (.c (.bool true)) (.t 17),.ay 12 (.t 18)]) (.cond (.t 12) (.seq (.ops [.ay 4 (.c (.int .i64 1))]) .ret) .skip))))) (.seq (.ops [.ay 4 (.c (.int .i64 0))]) .ret)))⟩
def akk:dQ:=⟨2,9,[.tmp 4],(.seq (.ops [.box 2 (.t 0),.box 3 (.t 1),.ay 4 (.c .o7)]) (.seq (.seq (.ops [.load 5 none (.t 3),.bin 6 .lss (.t 5) (.c (.int .i64 1))]) (.cond (.t 6) (.drs [] [] []
   []) .skip)) (.seq (.ops [.IQ 8 184 [(.t 2),(.t 3)],.ay 4 (.t 8)]) .ret)))⟩
def akl:dQ:=⟨1,5,[.tmp 2],(.seq (.ops [.box 1 (.t 0),.ay 2 (.c (.int .u64 0))]) (.seq (.ops [.IQ 3 186 [(.t 1)],.call 4 185 [(.t 3)],.ay 2 (.t 4)]) .ret))⟩
def ahy:au:=(.block 1 (.seq (.ops [.aj 11 (.t 7) 2,.load 12 none (.t 11),.ah 13 (.t 2),.eU 14 1 [(.t 13)],.app 15 1 (.t 12) (.t 14),.aj 16 (.t 7) 2,.store none 1 (.t 16) (.t 15)]) (.seq (.seq (.ops [.ah 17 (.t 2),.len 18 (.t 17),.bin 19 .eql (.t 18) (.c (.int .i64 1))]) (.cond (.t 19) (.exit 0) .skip)) (.ops [.ah 20 (.t 2),.call 21 187 [(.t 20),(.c (.func 188 []))],.ay 2 (.t 21)]))))
def ahz:au :=
(.clean [2,6,7,21] [6,7] (.block 0 (.loop [2,6,7,21] ahy)))
def akm:dQ:=⟨3,23,[.cell 6 (some 3)],(.seq (.ops [.alloc 6 [(.int .i64 0),(.int .i64 0),(.list 0 [])]]) (.scp (.seq (.ops [.ah 8 (.t 0),.ah 9 (.t 1),.build 10 [(.int .i64 0),(.int .i64 0),(.kY 1)] [(0,1,(.t 8)),(1,1,(.t 9))],.alloc 7 [(.int .i64 0),(.int .i64 0),(.list 0 [])],.Zo 3 (.t 7) (.t 10)]) (.seq .skip (.seq
   ahz (.seq (.ops [.load 22 (some 3) (.t 7),.store none 3 (.t 6) (.t 22)]) .ret))))))⟩
def ahA:au:=(.seq (.ops [.bin 25 .lss (.t 24) (.t 23)]) (.seq (.cond (.t 25) .skip (.exit 0)) (.seq (.block 1 (.seq (.ops [.ah 26 (.t 24),.bG 27 1 (.t 22) (.t 24),.load 28 none (.t 27),.ay 5 (.t 26),.ay 6 (.t 28)]) (.seq (.seq (.ops [.ah 29 (.t 6),.len 30 (.t 29),.ah 31 (.t 4),.bin 32 .neq (.t 30) (.t 31),.ah 33 (.t 32),.grd 33 false (.ah 34 (.t 4)),.grd 33 false (.bin 35 .eql (.t 34) (.c (.int .i64 1))),.grd 33 false (.ah 36 (.t 35)),.grd 36 true (.ah 37 (.t 5)),.grd 36 true (.bin 38 .add (.t 37) (.c (.int .i64 1))),.grd 36 true (.aj 39 (.t 1) 2),.grd 36 true (.load 40 none (.t 39)),.grd 36 true (.len 41 (.t 40)),.grd 36 true (.bin 42 .lss (.t 38) (.t 41)),.grd 33 false (.pick 43 (.t 36) (.t 42) (.c (.bool false))),.pick 44 (.t 33) (.c (.bool true)) (.t 43)]) (.cond (.t 44) (.seq (.ops [.ay 2 (.c (.int .i64 3))]) .ret) .skip)) (.seq (.seq (.ops [.ah 45 (.t 4),.bin 46 .eql (.t 45) (.c (.int .i64 1))]) (.cond (.t 46) (.ops [.ay 4 (.c (.int .i64 0))]) .skip)) (.ops [.ah 47 (.t 4),.bin 48 .add (.t 47) (.c (.int .i64 1)),.bin 49 .quo (.t 48) (.c (.int .i64 2)),.ay 4 (.t 49)]))))) (.ops [.bin 50 .add (.t 24) (.c (.int .i64 1)),.ah 24 (.t 50)]))))
def ahB:au :=
(.clean [1,4,22,23,24] [1,2,4] (.block 0 (.loop [1,4,22,23,24] ahA)))
def akn:dQ:=⟨1,68,[.tmp 2],(.seq (.ops [.box 1 (.t 0),.ay 2 (.c (.int .i64 0))]) (.seq (.seq (.ops [.aj 8 (.t 1) 0,.load 9 none (.t 8),.aj 10 (.t 1) 1,.load 11 none (.t 10),.call 12 91 [(.t 9),(.t 11)],.ay 3 (.t 12)]) (.seq (.ops [.ah 13 (.t 3),.bin 14 .neq (.t 13) (.c (.int .i64 0))]) (.cond (.t 14) (.seq (.ops [.ah 15 (.t 3),.ay 2 (.t 15)]) .ret) .skip))) (.seq (.ops [.aj 16 (.t 1) 0,.load 17 none (.t 16),.aj 18 (.t 1) 1,.load 19 none (.t 18),.call 20 189 [(.t 17),(.t 19)],.ay 4 (.t 20)]) (.seq (.seq (.ops [.aj 21 (.t 1) 2,.load 22 none (.t 21),.len 23 (.t 22),.ah 24 (.c (.int .i64 0))])
   ahB) (.seq (.seq (.ops [.ah 51 (.t 4),.bin 52 .neq (.t 51) (.c (.int .i64 0))]) (.cond (.t 52) (.seq (.ops [.ay 2 (.c (.int .i64 3))]) .ret) .skip)) (.seq (.drs [] [1,7] [.aj 53 (.t 1) 0,.load 54 none (.t 53),.aj 55 (.t 1) 1,.load 56 none (.t 55),.aj 57 (.t 1) 2,.load 58 none (.t 57),.bG 59 1 (.t 58) (.c (.int .i64 0)),.load 60 none (.t 59),.call 61 94 [(.t 54),(.t 56),(.t 60)],.alloc 7 [(.int .i64 0),(.int .i64 0),(.list 0 [])],.store none 3 (.t 7) (.t 61)]
    [⟨[([0,1,2,3,4,5,6,7],8),([],9)],(some ([],[],10,[])),[],[0,1,2,3,4,5,6,7,8,9,10],false⟩,⟨[([0,1,2,3,4,5,6,7],9),([],8)],(some ([],[],10,[])),[],[0,1,2,3,4,5,6,7,9,8,10],false⟩]) (.seq (.seq (.ops [.aj 62 (.t 7) 2,.load 63 none (.t 62),.aj 64 (.t 1) 2,.load 65 none (.t 64),.call 66 190 [(.t 63),(.t 65),(.c (.func 191 []))],.un 67 .not (.t 66)]) (.cond (.t 67) (.seq (.ops [.ay 2 (.c (.int .i64 22))]) .ret) .skip)) (.seq (.ops [.ay 2 (.c (.int .i64 0))]) .ret))))))))⟩
def ahC:au:=(.seq (.ops [.bin 14 .lss (.t 13) (.t 12)]) (.seq (.cond (.t 14) .skip (.exit 0)) (.seq (.block 1 (.seq (.ops [.bG 15 1 (.t 11) (.t 13),.load 16 none (.t 15),.ay 5 (.t 16)]) (.ops [.ah 17 (.t 3),.ah 18 (.t 5),.call 19 120 [(.t 18)],.eU 20 1 [(.t 19)],.app 21 1 (.t 17) (.t 20),.ay 3 (.t 21)]))) (.ops [.bin 22 .add (.t 13) (.c (.int .i64 1)),.ah 13 (.t 22)]))))
def ahD:au :=
(.clean [1,2,3,9,11,12,13,21] [1,2,3] (.block 0 (.loop [1,2,3,9,11,12,13,21] ahC)))
def ako:dQ:=⟨1,26,[.cell 2 (some 3)],(.seq (.ops [.box 1 (.t 0),.alloc 2 [(.int .i64 0),(.int .i64 0),(.list 0 [])]]) (.seq (.ops [.aj 6 (.t 1) 2,.load 7 none (.t 6),.len 8 (.t 7),.make 9 (.list 0 []) (.c (.int .i64 0)) (.t 8),.ay 3 (.t 9)]) (.seq (.seq (.ops [.aj 10 (.t 1) 2,.load 11 none (.t 10),.len 12 (.t 11),.ah 13 (.c (.int .i64 0))])
   ahD) (.seq (.ops [.ah 23 (.t 3),.aj 24 (.t 1) 2,.store none 1 (.t 24) (.t 23)]) (.seq (.ops [.load 25 (some 3) (.t 1),.store none 3 (.t 2) (.t 25)]) .ret)))))⟩
def ahE:au:=(.seq (.ops [.bin 26 .lss (.t 25) (.t 24)]) (.seq (.cond (.t 26) .skip (.exit 0)) (.seq (.block 1 (.seq (.ops [.bG 27 2 (.t 23) (.t 25),.load 28 (some 2) (.t 27),.alloc 5 [(.int .i64 0),(.int .i64 0)],.store none 2 (.t 5) (.t 28)]) (.ops [.ah 29 (.t 3),.aj 30 (.t 5) 0,.load 31 none (.t 30),.aj 32 (.t 5) 1,.load 33 none (.t 32),.eU 34 1 [(.t 31),(.t 33)],.app 35 1 (.t 29) (.t 34),.ay 3 (.t 35)]))) (.ops [.bin 36 .add (.t 25) (.c (.int .i64 1)),.ah 25 (.t 36)]))))
def ahF:au :=
(.clean [0,2,3,18,23,24,25,35] [0,2,3] (.block 0 (.loop [0,2,3,18,23,24,25,35] ahE)))
def akp:dQ:=⟨1,44,[.cell 2 (some 8)],(.seq (.ops [.alloc 2 [(.int .i64 0),(.int .i64 0),(.int .i64 0),(.int .i64 0),(.int .i64 0),(.int .i64 0),(.list 0 []),(.list 0 [])]]) (.seq (.drs [] [0,2,3,18,35] [.ah 6 (.t 0),.aj 7 (.t 6) 0,.aj 8 (.t 7) 0,.aj 9 (.t 8) 0,.aj 10 (.t 9) 0,.load 11 none (.t 10),.ah 12 (.t 0),.aj 13 (.t 12) 0,.aj 14 (.t 13) 0,.aj 15 (.t 14) 0,.aj 16 (.t 15) 1,.load 17 none (.t 16),.eU 18 1 [(.t 11),(.t 17)],.ay 3 (.t 18)]
  [⟨[([0,6],1),([2,3,4,5],7),([8,9,10,11],12)],none,[13],[0,6,1,2,3,4,5,7,8,9,10,11,12,13],false⟩,⟨[([0,6],7),([8,9,10,11],1),([2,3,4,5],12)],none,[13],[0,6,7,8,9,10,11,1,2,3,4,5,12,13],false⟩]) (.seq (.seq (.ops [.ah 19 (.t 0),.aj 20 (.t 19) 0,.aj 21 (.t 20) 0,.aj 22 (.t 21) 3,.load 23 none (.t 22),.len 24 (.t 23),.ah 25 (.c (.int .i64 0))])
   ahF) (.seq (.ops [.ah 37 (.t 0),.aj 38 (.t 37) 0,.aj 39 (.t 38) 0,.aj 40 (.t 39) 4,.load 41 none (.t 40),.ah 42 (.t 3),.build 43 [(.int .i64 0),(.int .i64 0),(.int .i64 0),(.int .i64 0),(.int .i64 0),(.int .i64 0),(.list 0 []),(.list 1 [])] [(0,1,(.c (.int .i64 13))),(3,1,(.t 41)),(6,1,(.t 42))],.store none 8 (.t 2) (.t 43)]) .ret))))⟩
def akq:dQ:=⟨1,83,[.tmp 2],(.seq (.ops [.box 1 (.t 0),.ay 2 (.c (.int .i64 0))]) (.seq (.seq (.ops [.aj 5 (.t 1) 0,.load 6 (some 3) (.t 5),.call 7 95 [(.t 6)],.ay 3 (.t 7)]) (.seq (.ops [.ah 8 (.t 3),.bin 9 .neq (.t 8) (.c (.int .i64 0))]) (.cond (.t 9) (.seq (.ops [.ah 10 (.t 3),.ay 2 (.t 10)]) .ret) .skip))) (.seq (.seq (.ops [.aj 11 (.t 1) 4,.load 12 none (.t 11),.bin 13 .lss (.t 12) (.c (.int .i64 0)),.ah 14 (.t 13),.grd 14 false (.aj 15 (.t 1) 4),.grd 14 false (.load 16 none (.t 15)),.grd 14 false (.aj 17 (.t 1) 0),.grd 14 false (.aj 18 (.t 17) 2),.grd 14 false (.load 19 none (.t 18)),.grd 14 false (.len 20 (.t 19)),.grd 14 false (.bin 21 .geq (.t 16) (.t 20)),.pick 22 (.t 14) (.c (.bool true)) (.t 21),.ah 23 (.t 22),.grd 23 false (.aj 24 (.t 1) 7),.grd 23 false (.load 25 none (.t 24)),.grd 23 false (.ah 26 (.t 25)),.grd 26 true (.aj 27 (.t 1) 4),.grd 26 true (.load 28 none (.t 27)),.grd 26 true (.bin 29 .neq (.t 28) (.c (.int .i64 0))),.grd 23 false (.pick 30 (.t 26) (.t 29) (.c (.bool false))),.pick 31 (.t 23) (.c (.bool true)) (.t 30),.ah 32 (.t 31),.grd 32 false (.aj 33 (.t 1) 6),.grd 32 false (.load 34 none (.t 33)),.grd 32 false (.bin 35 .lss (.t 34) (.c (.int .i64 0))),.pick 36 (.t 32) (.c (.bool true)) (.t 35),.ah 37 (.t 36),.grd 37 false (.aj 38 (.t 1) 6),.grd 37 false (.load 39 none (.t 38)),.grd 37 false (.bin 40 .gtr (.t 39) (.c (.int .i64 8192))),.pick 41 (.t 37) (.c (.bool true)) (.t 40)]) (.cond (.t 41) (.seq (.ops [.ay 2 (.c (.int .i64 2))]) .ret) .skip)) (.seq (.ops [.ay 4 (.c (.bool false))]) (.seq (.seq (.ops [.aj 42 (.t 1) 7,.load 43 none (.t 42)]) (.cond (.t 43) (.ops [.aj 44 (.t 1) 3,.load 45 none (.t 44),.len 46 (.t 45),.bin 47 .eql (.t 46) (.c (.int .i64 0)),.ah 48 (.t 47),.grd 48 true (.aj 49 (.t 1) 5),.grd 48 true (.load 50 none (.t 49)),.grd 48 true (.aj 51 (.t 1) 0),.grd 48 true (.aj 52 (.t 51) 0),.grd 48 true (.load 53 none (.t 52)),.grd 48 true (.call 54 106 [(.t 50),(.t 53)]),.grd 48 true (.bin 55 .eql (.t 54) (.c (.int .i64 0))),.pick 56 (.t 48) (.t 55) (.c (.bool false)),.ay 4 (.t 56)]) (.qp [] [([0,1,2,3,4,5,6,7,8,9,10,11,12,13,14,15,16,17,18,19,20],21)] none [22,23,24] [.aj 57 (.t 1) 3,.load 58 none (.t 57),.len 59 (.t 58),.bin 60 .gtr (.t 59) (.c (.int .i64 0)),.ah 61 (.t 60),.grd 61 true (.aj 62 (.t 1) 5),.grd 61 true (.load 63 none (.t 62)),.grd 61 true (.len 64 (.t 63)),.grd 61 true (.bin 65 .eql (.t 64) (.c (.int .i64 0))),.pick 66 (.t 61) (.t 65) (.c (.bool false)),.ah 67 (.t 66),.grd 67 true (.aj 68 (.t 1) 3),.grd 67 true (.load 69 none (.t 68)),.grd 67 true (.aj 70 (.t 1) 0),.grd 67 true (.aj 71 (.t 70) 2),.grd 67 true (.load 72 none (.t 71)),.grd 67 true (.aj 73 (.t 1) 4),.grd 67 true (.load 74 none (.t 73)),.grd 67 true (.bG 75 1 (.t 72) (.t 74)),.grd 67 true (.load 76 none (.t 75)),.grd 67 true (.len 77 (.t 76)),.grd 67 true (.call 78 106 [(.t 69),(.t 77)]),.grd 67 true (.bin 79 .eql (.t 78) (.c (.int .i64 0))),.pick 80 (.t 67) (.t 79) (.c (.bool false)),.ay 4 (.t 80)]))) (.seq (.seq (.ops [.ah 81 (.t 4),.un 82 .not (.t 81)]) (.cond (.t 82) (.seq (.ops [.ay 2 (.c (.int .i64 3))]) .ret) .skip)) (.seq (.ops [.ay 2 (.c (.int .i64 0))]) .ret)))))))⟩
def ahG:au:=(.seq (.ops [.bin 14 .lss (.t 13) (.t 12)]) (.seq (.cond (.t 14) .skip (.exit 0)) (.seq (.block 1 (.seq (.ops [.ah 15 (.t 13),.ay 5 (.t 15)]) (.seq (.qp [] [] none [0,1,2,3,4,5,6,7,8] [.ah 16 (.t 0),.ah 17 (.t 5),.bG 18 1 (.t 16) (.t 17),.load 19 none (.t 18),.ah 20 (.t 1),.ah 21 (.t 5),.bG 22 1 (.t 20) (.t 21),.load 23 none (.t 22),.bin 24 .neq (.t 19) (.t 23)]) (.cond (.t 24) (.seq (.ops [.ay 4 (.c (.bool false))]) .ret) .skip)))) (.ops [.bin 25 .add (.t 13) (.c (.int .i64 1)),.ah 13 (.t 25)]))))
def ahH:au :=
(.clean [0,1,12,13] [4] (.block 0 (.loop [0,1,12,13] ahG)))
def akr:dQ:=⟨2,26,[.tmp 4],(.seq (.ops [.ay 4 (.c (.bool false))]) (.seq (.seq (.ops [.ah 6 (.t 0),.len 7 (.t 6),.ah 8 (.t 1),.len 9 (.t 8),.bin 10 .neq (.t 7) (.t 9)]) (.cond (.t 10) (.seq (.ops [.ay 4 (.c (.bool false))]) .ret) .skip)) (.seq (.seq (.ops [.ah 11 (.t 0),.len 12 (.t 11),.ah 13 (.c (.int .i64 0))])
   ahH) (.seq (.ops [.ay 4 (.c (.bool true))]) .ret))))⟩
def abC:au:=(.seq (.ops [.bin 10 .lss (.t 9) (.t 8)]) (.seq (.cond (.t 10) .skip (.exit 0)) (.seq (.block 1 (.seq (.ops [.bG 11 2 (.t 7) (.t 9),.load 12 (some 2) (.t 11),.alloc 5 [(.int .i64 0),(.int .i64 0)],.store none 2 (.t 5) (.t 12)]) (.ops [.ah 13 (.t 3),.aj 14 (.t 5) 1,.load 15 none (.t 14),.bin 16 .add (.t 13) (.t 15),.ay 3 (.t 16)]))) (.ops [.bin 17 .add (.t 9) (.c (.int .i64 1)),.ah 9 (.t 17)]))))
def abD:au :=
(.clean [3,7,8,9] [2,3] (.block 0 (.loop [3,7,8,9] abC)))
def abE:dQ:=⟨1,19,[.tmp 2],(.seq (.ops [.ay 2 (.c (.int .i64 0))]) (.seq (.ops [.ay 3 (.c (.int .i64 0))]) (.seq (.seq (.ops [.ah 6 (.t 0),.call 7 180 [(.t 6),(.nil 2)],.len 8 (.t 7),.ah 9 (.c (.int .i64 0))])
   abD) (.seq (.ops [.ah 18 (.t 3),.ay 2 (.t 18)]) .ret))))⟩
def abG:au:=(.ops [.ay 6 (.t 13)])
def abH:au:=(.block 1 (.seq (.seq (.qp [] [([0,1,2,4],3),([5,6],7),([],8)] none [9] [.load 14 none (.t 3),.Hz 15 1 (.t 14) none (some (.c (.int .i64 8))),.Ws 16 (.t 2),.ah 18 (.t 6),.pk 17 193 (.t 16),.bG 19 1 (.t 17) (.t 18),.load 20 none (.t 19),.call 21 109 [(.t 20)],.call 22 192 [(.t 15),(.t 21)],.un 23 .not (.t 22)]) (.cond (.t 23) (.ops [.load 24 none (.t 5),.ah 25 (.t 6),.eU 26 1 [(.t 25)],.app 27 1 (.t 24) (.t 26),.store none 1 (.t 5) (.t 27)]) .skip)) (.seq (.ops [.load 28 none (.t 3),.Hz 29 1 (.t 28) (some (.c (.int .i64 8))) none,.store none 1 (.t 3) (.t 29)]) (.ops [.Ws 30 (.t 2),.aj 31 (.t 30) 0,.aj 32 (.t 31) 0,.aj 33 (.t 32) 6,.load 34 none (.t 33),.bin 35 .add (.t 34) (.c (.int .i64 1)),.aj 36 (.t 30) 0,.aj 37 (.t 36) 0,.aj 38 (.t 37) 6,.store none 1 (.t 38) (.t 35)]))))
def abI:dQ:=⟨2,40,[.tmp 4],(.seq (.ops [.Wq 2 (.t 0),.box 3 (.t 1),.ay 4 (.nil 1)]) (.seq (.ops [.alloc 5 [(.list 1 [])]]) (.seq (.seq (.ops [.Ws 7 (.t 2),.aj 8 (.t 7) 0,.aj 9 (.t 8) 0,.aj 10 (.t 9) 3,.load 11 none (.t 10),.call 12 108 [(.t 11)]]) (.block 0 (.rng (.t 12) [13] abG abH))) (.seq (.ops [.load 39 none (.t 5),.ay 4 (.t 39)]) .ret))))⟩
def abJ:au:=(.seq (.ops [.bin 15 .lss (.t 14) (.t 13)]) (.seq (.cond (.t 15) .skip (.exit 0)) (.seq (.block 1 (.seq (.ops [.bG 16 1 (.t 12) (.t 14),.load 17 none (.t 16),.ay 6 (.t 17)]) (.seq (.ops [.ah 18 (.t 6),.ah 19 (.t 0),.aj 20 (.t 19) 0,.aj 21 (.t 20) 0,.aj 22 (.t 21) 0,.aj 23 (.t 22) 1,.load 24 none (.t 23),.bin 25 .mul (.t 18) (.t 24),.ay 7 (.t 25)]) (.drs [] [0,1,4,12,13,14,45] [.ah 26 (.t 4),.ah 27 (.t 7),.ah 28 (.t 0),.aj 29 (.t 28) 0,.aj 30 (.t 29) 0,.aj 31 (.t 30) 0,.aj 32 (.t 31) 1,.load 33 none (.t 32),.ah 34 (.t 0),.aj 35 (.t 34) 0,.aj 36 (.t 35) 0,.aj 37 (.t 36) 0,.aj 38 (.t 37) 0,.load 39 none (.t 38),.ah 40 (.t 7),.bin 41 .sub (.t 39) (.t 40),.mn 42 false (.t 33) (.t 41),.build 43 [(.int .i64 0),(.int .i64 0)] [(0,1,(.t 27)),(1,1,(.t 42))],.eU 44 2 [(.t 43)],.app 45 2 (.t 26) (.t 44),.ay 4 (.t 45)]
    [⟨[([0,1,2,8,14],3),([4,5,6,7],9),([10,11,12,13,15,16,17],18)],(some ([],[],19,[])),[20],[0,1,2,8,14,3,4,5,6,7,9,10,11,12,13,15,16,17,18,19,20],false⟩,⟨[([0,1,2,8,14],9),([10,11,12,13,15],3),([4,5,6,7,16,17],18)],(some ([],[],19,[])),[20],[0,1,2,8,14,9,10,11,12,13,15,3,4,5,6,7,16,17,18,19,20],false⟩])))) (.ops [.bin 46 .add (.t 14) (.c (.int .i64 1)),.ah 14 (.t 46)]))))
def abK:au :=
(.clean [0,1,4,12,13,14,45] [0,4] (.block 0 (.loop [0,1,4,12,13,14,45] abJ)))
def abL:dQ:=⟨2,55,[],(.seq (.ops [.ah 8 (.t 0),.aj 9 (.t 8) 0,.aj 10 (.t 9) 0,.aj 11 (.t 10) 5,.store none 1 (.t 11) (.nil 2)]) (.seq (.ops [.ay 4 (.nil 2)]) (.seq (.seq (.ops [.ah 12 (.t 1),.len 13 (.t 12),.ah 14 (.c (.int .i64 0))])
   abK) (.seq (.ops [.ah 47 (.t 0),.ah 48 (.t 4),.call 49 180 [(.t 48),(.nil 2)],.aj 50 (.t 47) 0,.aj 51 (.t 50) 0,.aj 52 (.t 51) 5,.store none 1 (.t 52) (.t 49)]) (.ops [.ah 53 (.t 0),.lin 54 103 (.t 53) []])))))⟩
def abM:dQ:=⟨1,14,[],(.ops [.ah 2 (.t 0),.ah 3 (.t 0),.ah 4 (.t 0),.aj 5 (.t 2) 0,.aj 6 (.t 5) 0,.aj 7 (.t 6) 4,.store none 1 (.t 7) (.c (.int .i64 0)),.aj 8 (.t 3) 0,.aj 9 (.t 8) 0,.aj 10 (.t 9) 3,.store none 1 (.t 10) (.nil 2),.aj 11 (.t 4) 0,.aj 12 (.t 11) 0,.aj 13 (.t 12) 7,.store none 1 (.t 13) (.c (.bool true))])⟩
def abN:au:=(.seq (.ops [.bin 35 .lss (.t 34) (.t 33)]) (.seq (.cond (.t 35) .skip (.exit 2)) (.seq (.block 3 (.seq (.ops [.bG 36 1 (.t 32) (.t 34),.load 37 none (.t 36),.ay 7 (.t 37)]) (.seq (.ops [.ah 38 (.t 7),.ah 39 (.t 0),.pk 40 193 (.t 39),.len 41 (.t 40),.bin 42 .lss (.t 38) (.t 41)]) (.cond (.t 42) (.ops [.ah 43 (.t 0),.ah 44 (.t 0),.aj 45 (.t 44) 0,.aj 46 (.t 45) 0,.aj 47 (.t 46) 3,.load 48 none (.t 47),.ah 49 (.t 7),.lin 50 194 (.t 48) [(.t 49)],.aj 51 (.t 43) 0,.aj 52 (.t 51) 0,.aj 53 (.t 52) 3,.store none 1 (.t 53) (.t 50)]) .skip)))) (.ops [.bin 54 .add (.t 34) (.c (.int .i64 1)),.ah 34 (.t 54)]))))
def abO:au :=
(.clean [0,1,21,22,23,32,33,34] [0,1,21,22,23] (.block 2 (.loop [0,1,21,22,23,32,33,34] abN)))
def abP:au:=(.seq (.ops [.bin 24 .lss (.t 23) (.t 22)]) (.seq (.cond (.t 24) .skip (.exit 0)) (.seq (.block 1 (.seq (.ops [.bG 25 1 (.t 21) (.t 23),.load 26 none (.t 25),.ay 5 (.t 26)]) (.seq (.ops [.ah 27 (.t 5),.bin 28 .mul (.c (.int .i64 2)) (.t 27),.ah 29 (.t 5),.bin 30 .mul (.c (.int .i64 2)) (.t 29),.bin 31 .add (.t 30) (.c (.int .i64 1)),.eU 32 1 [(.t 28),(.t 31)],.len 33 (.t 32),.ah 34 (.c (.int .i64 0))])
    abO))) (.ops [.bin 55 .add (.t 23) (.c (.int .i64 1)),.ah 23 (.t 55)]))))
def abQ:au :=
(.clean [0,1,21,22,23] [] (.block 0 (.loop [0,1,21,22,23] abP)))
def abR:dQ:=⟨2,56,[],(.seq (.ops [.ah 8 (.t 0),.aj 9 (.t 8) 0,.aj 10 (.t 9) 0,.aj 11 (.t 10) 4,.load 12 none (.t 11),.bin 13 .sub (.t 12) (.c (.int .i64 1)),.aj 14 (.t 8) 0,.aj 15 (.t 14) 0,.aj 16 (.t 15) 4,.store none 1 (.t 16) (.t 13)]) (.seq (.ops [.ah 17 (.t 0),.aj 18 (.t 17) 0,.aj 19 (.t 18) 0,.aj 20 (.t 19) 3,.store none 1 (.t 20) (.nil 2)]) (.seq (.ops [.ah 21 (.t 1),.len 22 (.t 21),.ah 23 (.c (.int .i64 0))])
  abQ)))⟩
def abS:dQ:=⟨2,9,[.tmp 4],(.seq (.ops [.box 2 (.t 0),.box 3 (.t 1),.ay 4 (.c .o7)]) (.seq (.seq (.ops [.load 5 none (.t 3),.bin 6 .lss (.t 5) (.c (.int .i64 1))]) (.cond (.t 6) (.drs [] [] []
   []) .skip)) (.seq (.ops [.IQ 8 195 [(.t 2),(.t 3)],.ay 4 (.t 8)]) .ret)))⟩
def qK:au:=(.seq (.ops [.bin 17 .lss (.t 16) (.t 15)]) (.seq (.cond (.t 17) .skip (.exit 0)) (.seq (.block 1 (.seq (.ops [.bG 18 2 (.t 14) (.t 16),.load 19 (some 2) (.t 18),.alloc 7 [(.int .i64 0),(.int .i64 0)],.store none 2 (.t 7) (.t 19)]) (.seq (.block 2 (.seq (.ops [.aj 21 (.t 7) 1,.load 22 none (.t 21),.bin 23 .leq (.t 22) (.c (.int .i64 0)),.ay 20 (.t 23)]) (.cond (.t 20) (.seq (.ops [.ay 4 (.c (.int .i64 1))]) .ret) (.seq (.ops [.aj 25 (.t 7) 0,.load 26 none (.t 25),.bin 27 .lss (.t 26) (.c (.int .i64 0)),.ah 28 (.t 27),.grd 28 false (.aj 29 (.t 7) 1),.grd 28 false (.load 30 none (.t 29)),.grd 28 false (.ah 31 (.t 1)),.grd 28 false (.aj 32 (.t 7) 0),.grd 28 false (.load 33 none (.t 32)),.grd 28 false (.bin 34 .sub (.t 31) (.t 33)),.grd 28 false (.bin 35 .gtr (.t 30) (.t 34)),.pick 36 (.t 28) (.c (.bool true)) (.t 35),.ay 24 (.t 36)]) (.cond (.t 24) (.seq (.ops [.ay 4 (.c (.int .i64 2))]) .ret) (.seq (.ops [.aj 38 (.t 7) 0,.load 39 none (.t 38),.ah 40 (.t 5),.bin 41 .lss (.t 39) (.t 40),.ay 37 (.t 41)]) (.cond (.t 37) (.seq (.ops [.ay 4 (.c (.int .i64 3))]) .ret) .skip))))))) (.ops [.aj 42 (.t 7) 0,.load 43 none (.t 42),.aj 44 (.t 7) 1,.load 45 none (.t 44),.bin 46 .add (.t 43) (.t 45),.bin 47 .add (.t 46) (.c (.int .i64 1)),.ay 5 (.t 47)])))) (.ops [.bin 48 .add (.t 16) (.c (.int .i64 1)),.ah 16 (.t 48)]))))
def Fq:au :=
(.clean [0,1,5,14,15,16] [4] (.block 0 (.loop [0,1,5,14,15,16] qK)))
def Fv:dQ:=⟨2,49,[.tmp 4],(.seq (.ops [.ay 4 (.c (.int .i64 0))]) (.seq (.seq (.ops [.ah 8 (.t 1),.bin 9 .lss (.t 8) (.c (.int .i64 0)),.ah 10 (.t 9),.grd 10 false (.ah 11 (.t 1)),.grd 10 false (.bin 12 .gtr (.t 11) (.c (.int .i64 4096))),.pick 13 (.t 10) (.c (.bool true)) (.t 12)]) (.cond (.t 13) (.seq (.ops [.ay 4 (.c (.int .i64 2))]) .ret) .skip)) (.seq (.ops [.ay 5 (.c (.int .i64 0))]) (.seq (.seq (.ops [.ah 14 (.t 0),.len 15 (.t 14),.ah 16 (.c (.int .i64 0))])
   Fq) (.seq (.ops [.ay 4 (.c (.int .i64 0))]) .ret)))))⟩
def Vl:dQ:=⟨1,8,[.tmp 2],(.seq (.ops [.ay 2 (.nil 1)]) (.seq (.seq (.ops [.ah 3 (.t 0),.QX 4 false (.t 3)]) (.cond (.t 4) (.seq (.ops [.ay 2 (.nil 1)]) .ret) .skip)) (.seq (.ops [.eU 5 1 [],.ah 6 (.t 0),.app 7 1 (.t 5) (.t 6),.ay 2 (.t 7)]) .ret)))⟩
def abT:dQ:=⟨1,4,[.tmp 2],(.seq (.ops [.box 1 (.t 0),.ay 2 (.c .o7)]) (.seq (.ops [.IQ 3 196 [(.t 1)],.ay 2 (.t 3)]) .ret))⟩
def abU:au:=(.seq (.ops [.bin 6 .lss (.t 5) (.c (.int .i64 8))]) (.seq (.cond (.t 6) .skip (.exit 0)) (.seq (.block 1 (.seq (.ops [.ah 7 (.t 5),.ay 4 (.t 7)]) (.ops [.ah 8 (.t 3),.ah 9 (.t 0),.ah 10 (.t 4),.bin 11 .mul (.c (.int .i64 8)) (.t 10),.bin 12 .shr (.t 9) (.t 11),.conv 13 .u8 (.t 12),.eU 14 1 [(.t 13)],.app 15 1 (.t 8) (.t 14),.ay 3 (.t 15)]))) (.ops [.bin 16 .add (.t 5) (.c (.int .i64 1)),.ah 5 (.t 16)]))))
def abV:au :=
(.clean [0,3,5,15] [2,3] (.block 0 (.loop [0,3,5,15] abU)))
def abW:dQ:=⟨1,18,[.tmp 2],(.seq (.ops [.ay 2 (.nil 1)]) (.seq (.ops [.ay 3 (.nil 1)]) (.seq (.seq (.ops [.ah 5 (.c (.int .i64 0))])
   abV) (.seq (.ops [.ah 17 (.t 3),.ay 2 (.t 17)]) .ret))))⟩
def Ai:au:=(.seq (.ops [.bin 22 .lss (.t 21) (.t 20)]) (.seq (.cond (.t 22) .skip (.exit 0)) (.seq (.block 1 (.seq (.ops [.bG 23 2 (.t 19) (.t 21),.load 24 (some 2) (.t 23),.alloc 9 [(.int .i64 0),(.int .i64 0)],.store none 2 (.t 9) (.t 24)]) (.seq (.ops [.load 26 (some 2) (.t 6),.load 27 (some 2) (.t 9),.call 28 170 [(.t 26),(.t 27)],.ah 25 (.t 28),.ext 29 (.t 25) 0,.ext 30 (.t 25) 1,.store none 2 (.t 6) (.t 29),.ay 7 (.t 30)]) (.seq (.ops [.ah 31 (.t 7),.bin 32 .neq (.t 31) (.c (.int .i64 0))]) (.cond (.t 32) (.seq (.ops [.build 33 [(.int .i64 0),(.list 1 [])] [],.ah 34 (.t 7),.store none 2 (.t 4) (.t 33),.ay 5 (.t 34)]) .ret) .skip))))) (.ops [.bin 35 .add (.t 21) (.c (.int .i64 1)),.ah 21 (.t 35)]))))
def Fz:au :=
(.clean [1,4,6,19,20,21] [4,5,6] (.block 0 (.loop [1,4,6,19,20,21] Ai)))
def FB:dQ:=⟨2,37,[.cell 4 (some 2),.tmp 5],(.seq (.ops [.alloc 4 [(.int .i64 0),(.list 1 [])],.ay 5 (.c (.int .i64 0))]) (.seq (.ops [.ah 11 (.t 0),.call 12 169 [(.t 11)],.ah 10 (.t 12),.ext 13 (.t 10) 0,.ext 14 (.t 10) 1,.alloc 6 [(.int .i64 0),(.list 1 [])],.store none 2 (.t 6) (.t 13),.ay 7 (.t 14)]) (.seq (.seq (.ops [.ah 15 (.t 7),.bin 16 .neq (.t 15) (.c (.int .i64 0))]) (.cond (.t 16) (.seq (.ops [.build 17 [(.int .i64 0),(.list 1 [])] [],.ah 18 (.t 7),.store none 2 (.t 4) (.t 17),.ay 5 (.t 18)]) .ret) .skip)) (.seq (.seq (.ops [.ah 19 (.t 1),.len 20 (.t 19),.ah 21 (.c (.int .i64 0))])
   Fz) (.seq (.ops [.load 36 (some 2) (.t 6),.store none 2 (.t 4) (.t 36),.ay 5 (.c (.int .i64 0))]) .ret)))))⟩
def Vm:dQ:=⟨1,8,[.tmp 2],(.seq (.ops [.ay 2 (.nil 1)]) (.seq (.seq (.ops [.ah 3 (.t 0),.QX 4 false (.t 3)]) (.cond (.t 4) (.seq (.ops [.ay 2 (.nil 1)]) .ret) .skip)) (.seq (.ops [.eU 5 1 [],.ah 6 (.t 0),.app 7 1 (.t 5) (.t 6),.ay 2 (.t 7)]) .ret)))⟩
def abX:dQ:=⟨2,16,[.tmp 4],(.seq (.ops [.box 2 (.t 0),.ay 4 (.c (.int .i64 0))]) (.seq (.seq (.ops [.ah 6 (.t 1),.len 7 (.t 6),.load 8 none (.t 2),.len 9 (.t 8),.bin 10 .neq (.t 7) (.t 9)]) (.cond (.t 10) (.seq (.ops [.ay 4 (.c (.int .i64 6))]) .ret) .skip)) (.seq (.ops [.ah 11 (.t 1),.IQ 12 207 [(.t 2)],.call 13 206 [(.t 11),(.t 12)],.ay 5 (.t 13)]) (.seq (.seq (.ops [.ah 14 (.t 5),.call 15 208 [(.t 14),(.c (.bool false))]]) (.cond (.t 15) (.seq (.ops [.ay 4 (.c (.int .i64 3))]) .ret) .skip)) (.seq (.ops [.ay 4 (.c (.int .i64 0))]) .ret)))))⟩
def abY:dQ:=⟨1,4,[.tmp 2],(.seq (.ops [.box 1 (.t 0),.ay 2 (.c .o7)]) (.seq (.ops [.IQ 3 209 [(.t 1)],.ay 2 (.t 3)]) .ret))⟩
def Vo:dQ:=⟨1,8,[.tmp 2],(.seq (.ops [.ay 2 (.nil 8)]) (.seq (.seq (.ops [.ah 3 (.t 0),.QX 4 false (.t 3)]) (.cond (.t 4) (.seq (.ops [.ay 2 (.nil 8)]) .ret) .skip)) (.seq (.ops [.eU 5 8 [],.ah 6 (.t 0),.app 7 8 (.t 5) (.t 6),.ay 2 (.t 7)]) .ret)))⟩
def qL:dQ:=⟨2,163,[.cell 4 (some 10)],(.seq (.ops [.box 2 (.t 0),.box 3 (.t 1),.alloc 4 [(.list 0 []),(.list 0 []),(.int .i64 0),(.int .i64 0),(.list 0 []),(.int .i64 0),(.list 0 []),(.list 0 []),(.list 0 []),(.bool false)]]) (.seq (.seq (.ops [.aj 17 (.t 3) 0,.load 18 none (.t 17),.bin 19 .rem (.t 18) (.c (.int .u8 5)),.bin 20 .eql (.t 19) (.c (.int .u8 0))]) (.cond (.t 20) (.seq (.ops [.load 21 (some 10) (.t 2),.load 22 (some 4) (.t 3),.call 23 210 [(.t 21),(.t 22)],.store none 10 (.t 4) (.t 23)]) .ret) .skip)) (.seq (.seq (.ops [.aj 24 (.t 3) 0,.load 25 none (.t 24),.bin 26 .rem (.t 25) (.c (.int .u8 5)),.bin 27 .eql (.t 26) (.c (.int .u8 4))]) (.cond (.t 27) (.seq (.ops [.aj 29 (.t 2) 2,.load 30 (some 5) (.t 29),.call 31 211 [(.t 30)],.ah 28 (.t 31),.ext 32 (.t 28) 0,.ext 33 (.t 28) 1,.alloc 5 [(.int .i64 0),(.int .i64 0),(.list 1 []),(.int .i64 0),(.list 1 [])],.store none 5 (.t 5) (.t 32),.ay 6 (.t 33)]) (.seq (.ops [.load 34 (some 5) (.t 5),.aj 35 (.t 2) 2,.store none 5 (.t 35) (.t 34)]) (.seq (.seq (.ops [.aj 36 (.t 3) 1,.load 37 none (.t 36),.bin 38 .rem (.t 37) (.c (.int .u8 2)),.bin 39 .eql (.t 38) (.c (.int .u8 0))]) (.cond (.t 39) (.ops [.load 40 (some 5) (.t 5),.call 41 90 [(.t 40)],.aj 42 (.t 2) 7,.store none 1 (.t 42) (.t 41)]) .skip)) (.seq (.ops [.load 43 (some 10) (.t 2),.store none 10 (.t 4) (.t 43)]) .ret)))) .skip)) (.seq (.seq (.ops [.aj 44 (.t 2) 8,.load 45 none (.t 44),.len 46 (.t 45),.bin 47 .eql (.t 46) (.c (.int .i64 0))]) (.cond (.t 47) (.seq (.ops [.load 48 (some 10) (.t 2),.store none 10 (.t 4) (.t 48)]) .ret) .skip)) (.seq (.ops [.aj 49 (.t 3) 1,.load 50 none (.t 49),.conv 51 .i64 (.t 50),.aj 52 (.t 2) 8,.load 53 none (.t 52),.len 54 (.t 53),.bin 55 .rem (.t 51) (.t 54),.ay 7 (.t 55)]) (.seq (.ops [.aj 56 (.t 2) 8,.load 57 none (.t 56),.ah 58 (.t 7),.bG 59 5 (.t 57) (.t 58),.load 60 (some 5) (.t 59),.alloc 8 [(.int .i64 0),(.int .i64 0),(.list 0 []),(.bool false),(.bool false)],.store none 5 (.t 8) (.t 60)]) (.seq (.ops [.eU 61 5 [],.aj 62 (.t 2) 8,.load 63 none (.t 62),.app 64 5 (.t 61) (.t 63),.aj 65 (.t 2) 8,.store none 1 (.t 65) (.t 64)]) (.seq (.seq (.ops [.aj 66 (.t 3) 0,.load 67 none (.t 66),.bin 68 .rem (.t 67) (.c (.int .u8 5))]) (.block 0 (.seq (.ops [.bin 70 .eql (.t 68) (.c (.int .u8 1)),.ay 69 (.t 70)]) (.cond (.t 69) (.seq (.ops [.aj 72 (.t 2) 0,.load 73 none (.t 72),.aj 74 (.t 8) 0,.load 75 (some 3) (.t 74),.eU 76 3 [(.t 75)],.call 77 39 [(.t 73),(.t 76)],.ah 71 (.t 77),.ext 78 (.t 71) 0,.ext 79 (.t 71) 1,.ext 80 (.t 71) 2,.ay 9 (.t 78),.ay 10 (.t 79),.ay 11 (.t 80)]) (.ops [.ah 81 (.t 9),.aj 82 (.t 2) 9,.load 83 none (.t 82),.ah 84 (.t 83),.grd 84 true (.ah 85 (.t 11)),.grd 84 true (.bin 86 .eql (.t 85) (.c (.int .i64 0))),.pick 87 (.t 84) (.t 86) (.c (.bool false)),.aj 88 (.t 2) 0,.store none 1 (.t 88) (.t 81),.aj 89 (.t 8) 3,.store none 1 (.t 89) (.c (.bool true)),.aj 90 (.t 2) 9,.store none 1 (.t 90) (.t 87)])) (.seq (.ops [.bin 92 .eql (.t 68) (.c (.int .u8 2)),.ay 91 (.t 92)]) (.cond (.t 91) (.seq (.ops [.aj 94 (.t 2) 1,.load 95 none (.t 94),.aj 96 (.t 8) 0,.load 97 (some 3) (.t 96),.eU 98 3 [(.t 97)],.call 99 39 [(.t 95),(.t 98)],.ah 93 (.t 99),.ext 100 (.t 93) 0,.ext 101 (.t 93) 1,.ext 102 (.t 93) 2,.ay 12 (.t 100),.ay 13 (.t 101),.ay 14 (.t 102)]) (.ops [.ah 103 (.t 12),.aj 104 (.t 2) 9,.load 105 none (.t 104),.ah 106 (.t 105),.grd 106 true (.ah 107 (.t 14)),.grd 106 true (.bin 108 .eql (.t 107) (.c (.int .i64 0))),.pick 109 (.t 106) (.t 108) (.c (.bool false)),.aj 110 (.t 2) 1,.store none 1 (.t 110) (.t 103),.aj 111 (.t 8) 4,.store none 1 (.t 111) (.c (.bool true)),.aj 112 (.t 2) 9,.store none 1 (.t 112) (.t 109)])) (.seq (.ops [.bin 114 .eql (.t 68) (.c (.int .u8 3)),.ay 113 (.t 114)]) (.cond (.t 113) (.seq (.ops [.aj 115 (.t 8) 3,.load 116 none (.t 115),.ah 117 (.t 116),.grd 117 true (.aj 118 (.t 8) 4),.grd 117 true (.load 119 none (.t 118)),.pick 120 (.t 117) (.t 119) (.c (.bool false))]) (.cond (.t 120) (.seq (.ops [.aj 122 (.t 2) 2,.load 123 (some 5) (.t 122),.aj 124 (.t 8) 0,.aj 125 (.t 124) 1,.load 126 none (.t 125),.aj 127 (.t 8) 0,.aj 128 (.t 127) 2,.load 129 none (.t 128),.len 130 (.t 129),.build 131 [(.int .i64 0),(.int .i64 0)] [(0,1,(.t 126)),(1,1,(.t 130))],.call 132 212 [(.t 123),(.t 131)],.ah 121 (.t 132),.ext 133 (.t 121) 0,.ext 134 (.t 121) 1,.alloc 15 [(.int .i64 0),(.int .i64 0),(.list 1 []),(.int .i64 0),(.list 1 [])],.store none 5 (.t 15) (.t 133),.ay 16 (.t 134)]) (.seq (.ops [.load 135 (some 5) (.t 15),.aj 136 (.t 2) 9,.load 137 none (.t 136),.ah 138 (.t 137),.grd 138 true (.ah 139 (.t 16)),.grd 138 true (.bin 140 .eql (.t 139) (.c (.int .i64 0))),.pick 141 (.t 138) (.t 140) (.c (.bool false)),.aj 142 (.t 2) 2,.store none 5 (.t 142) (.t 135),.aj 143 (.t 2) 9,.store none 1 (.t 143) (.t 141)]) (.seq (.qp [] [] (some ([0,1,2,3,4,5,6,7,8,9],[],10,[([11],12)])) [] [.aj 144 (.t 2) 8,.load 145 none (.t 144),.ah 146 (.t 7),.ah 147 (.t 7),.sl3 148 5 (.t 145) (.t 146) (.t 147),.aj 149 (.t 2) 8,.load 150 none (.t 149),.ah 151 (.t 7),.bin 152 .add (.t 151) (.c (.int .i64 1)),.Hz 153 5 (.t 150) (some (.t 152)) none,.Zm 154 5 (.t 148) (.t 153),.aj 155 (.t 2) 8,.store none 1 (.t 155) (.t 154)]) (.seq (.ops [.load 156 (some 10) (.t 2),.store none 10 (.t 4) (.t 156)]) .ret)))) .skip)) .skip)))))))) (.seq (.ops [.aj 157 (.t 2) 8,.load 158 none (.t 157),.ah 159 (.t 7),.load 160 (some 5) (.t 8),.bG 161 5 (.t 158) (.t 159),.store none 5 (.t 161) (.t 160)]) (.seq (.ops [.load 162 (some 10) (.t 2),.store none 10 (.t 4) (.t 162)]) .ret))))))))))⟩
def FC:au:=(.seq (.seq (.ops [.ah 12 (.t 3),.ah 13 (.t 0),.len 14 (.t 13),.bin 15 .lss (.t 12) (.t 14)]) (.cond (.t 15) .skip (.exit 0))) (.seq (.block 1 (.seq (.ops [.ah 18 (.t 0),.ah 19 (.t 3),.bG 20 1 (.t 18) (.t 19),.load 21 none (.t 20),.bin 22 .lss (.t 21) (.c (.int .i64 1)),.ah 23 (.t 22),.grd 23 false (.ah 24 (.t 0)),.grd 23 false (.ah 25 (.t 3)),.grd 23 false (.bG 26 1 (.t 24) (.t 25)),.grd 23 false (.load 27 none (.t 26)),.grd 23 false (.bin 28 .gtr (.t 27) (.c (.int .i64 4096))),.pick 29 (.t 23) (.c (.bool true)) (.t 28)]) (.cond (.t 29) (.seq (.ops [.ay 2 (.c (.int .i64 2))]) .ret) .skip))) (.ops [.ah 16 (.t 3),.bin 17 .add (.t 16) (.c (.int .i64 1)),.ay 3 (.t 17)])))
def FD:au :=
(.clean [0,3] [2] (.block 0 (.loop [0,3] FC)))
def O6:dQ:=⟨1,30,[.tmp 2],(.seq (.ops [.ay 2 (.c (.int .i64 0))]) (.seq (.seq (.ops [.ah 4 (.t 0),.len 5 (.t 4),.bin 6 .lss (.t 5) (.c (.int .i64 1)),.ah 7 (.t 6),.grd 7 false (.ah 8 (.t 0)),.grd 7 false (.len 9 (.t 8)),.grd 7 false (.bin 10 .gtr (.t 9) (.c (.int .i64 8))),.pick 11 (.t 7) (.c (.bool true)) (.t 10)]) (.cond (.t 11) (.seq (.ops [.ay 2 (.c (.int .i64 6))]) .ret) .skip)) (.seq (.seq (.ops [.ay 3 (.c (.int .i64 0))])
   FD) (.seq (.ops [.ay 2 (.c (.int .i64 0))]) .ret))))⟩
def Aj:au:=(.ops [.ay 4 (.t 8)])
def Ak:au:=(.block 1 (.seq (.seq (.ops [.load 9 none (.t 3),.len 10 (.t 9),.ay 5 (.t 10)]) (.seq (.qp [] [] none [0,1,2,3,4,5,6,7,8,9,10,11,12,13,14,15,16,17,18] [.ah 11 (.t 5),.bin 12 .gtr (.t 11) (.c (.int .i64 0)),.ah 13 (.t 12),.grd 13 true (.load 14 none (.t 3)),.grd 13 true (.ah 15 (.t 5)),.grd 13 true (.bin 16 .sub (.t 15) (.c (.int .i64 1))),.grd 13 true (.bG 17 2 (.t 14) (.t 16)),.grd 13 true (.aj 18 (.t 17) 0),.grd 13 true (.load 19 none (.t 18)),.grd 13 true (.load 20 none (.t 3)),.grd 13 true (.ah 21 (.t 5)),.grd 13 true (.bin 22 .sub (.t 21) (.c (.int .i64 1))),.grd 13 true (.bG 23 2 (.t 20) (.t 22)),.grd 13 true (.aj 24 (.t 23) 1),.grd 13 true (.load 25 none (.t 24)),.grd 13 true (.bin 26 .add (.t 19) (.t 25)),.grd 13 true (.ah 27 (.t 4)),.grd 13 true (.bin 28 .eql (.t 26) (.t 27)),.pick 29 (.t 13) (.t 28) (.c (.bool false))]) (.cond (.t 29) (.seq (.ops [.load 30 none (.t 3),.ah 31 (.t 5),.bin 32 .sub (.t 31) (.c (.int .i64 1)),.bG 33 2 (.t 30) (.t 32),.aj 34 (.t 33) 1,.load 35 none (.t 34),.bin 36 .add (.t 35) (.c (.int .i64 1)),.bG 37 2 (.t 30) (.t 32),.aj 38 (.t 37) 1,.store none 1 (.t 38) (.t 36)]) (.exit 1)) .skip))) (.ops [.load 39 none (.t 3),.ah 40 (.t 4),.build 41 [(.int .i64 0),(.int .i64 0)] [(0,1,(.t 40)),(1,1,(.c (.int .i64 1)))],.eU 42 2 [(.t 41)],.app 43 2 (.t 39) (.t 42),.store none 1 (.t 3) (.t 43)])))
def O7:dQ:=⟨1,45,[.tmp 2],(.seq (.ops [.box 1 (.t 0),.ay 2 (.nil 2)]) (.seq (.ops [.alloc 3 [(.list 2 [])]]) (.seq (.seq (.ops [.load 6 (some 2) (.t 1),.call 7 219 [(.t 6),(.c (.int .i64 0))]]) (.block 0 (.rng (.t 7) [8] Aj Ak))) (.seq (.ops [.load 44 none (.t 3),.ay 2 (.t 44)]) .ret))))⟩
def yJ:dQ:=⟨1,39,[.tmp 2],(.seq (.ops [.box 1 (.t 0),.ay 2 (.c (.int .i64 0))]) (.seq (.seq (.qp [] [([0,1,2,3,4,5,6,7,8,9,10,11,12,13],14)] none [15,16] [.aj 4 (.t 1) 0,.load 5 none (.t 4),.bin 6 .lss (.t 5) (.c (.int .i64 0)),.ah 7 (.t 6),.grd 7 false (.aj 8 (.t 1) 0),.grd 7 false (.load 9 none (.t 8)),.grd 7 false (.bin 10 .gtr (.t 9) (.c (.int .i64 4096))),.pick 11 (.t 7) (.c (.bool true)) (.t 10),.ah 12 (.t 11),.grd 12 false (.aj 13 (.t 1) 1),.grd 12 false (.load 14 none (.t 13)),.grd 12 false (.len 15 (.t 14)),.grd 12 false (.aj 16 (.t 1) 0),.grd 12 false (.load 17 none (.t 16)),.grd 12 false (.call 18 222 [(.t 17)]),.grd 12 false (.bin 19 .neq (.t 15) (.t 18)),.pick 20 (.t 12) (.c (.bool true)) (.t 19)]) (.cond (.t 20) (.seq (.ops [.ay 2 (.c (.int .i64 3))]) .ret) .skip)) (.seq (.seq (.ops [.aj 21 (.t 1) 0,.load 22 none (.t 21),.bin 23 .rem (.t 22) (.c (.int .i64 64)),.ay 3 (.t 23)]) (.seq (.ops [.ah 24 (.t 3),.bin 25 .gtr (.t 24) (.c (.int .i64 0)),.ah 26 (.t 25),.grd 26 true (.aj 27 (.t 1) 1),.grd 26 true (.load 28 none (.t 27)),.grd 26 true (.aj 29 (.t 1) 1),.grd 26 true (.load 30 none (.t 29)),.grd 26 true (.len 31 (.t 30)),.grd 26 true (.bin 32 .sub (.t 31) (.c (.int .i64 1))),.grd 26 true (.bG 33 1 (.t 28) (.t 32)),.grd 26 true (.load 34 none (.t 33)),.grd 26 true (.ah 35 (.t 3)),.grd 26 true (.bin 36 .shr (.t 34) (.t 35)),.grd 26 true (.bin 37 .neq (.t 36) (.c (.int .u64 0))),.pick 38 (.t 26) (.t 37) (.c (.bool false))]) (.cond (.t 38) (.seq (.ops [.ay 2 (.c (.int .i64 3))]) .ret) .skip))) (.seq (.ops [.ay 2 (.c (.int .i64 0))]) .ret))))⟩
def abZ:dQ:=⟨1,13,[.tmp 2],(.seq (.ops [.ay 2 (.c (.int .i64 0))]) (.seq (.seq (.ops [.ah 3 (.t 0),.len 4 (.t 3),.bin 5 .lss (.t 4) (.c (.int .i64 1)),.ah 6 (.t 5),.grd 6 false (.ah 7 (.t 0)),.grd 6 false (.len 8 (.t 7)),.grd 6 false (.bin 9 .gtr (.t 8) (.c (.int .i64 8))),.pick 10 (.t 6) (.c (.bool true)) (.t 9)]) (.cond (.t 10) (.seq (.ops [.ay 2 (.c (.int .i64 6))]) .ret) .skip)) (.seq (.seq (.ops [.ah 11 (.t 0),.call 12 223 [(.t 11),(.c (.func 227 []))]]) (.cond (.t 12) (.seq (.ops [.ay 2 (.c (.int .i64 2))]) .ret) .skip)) (.seq (.ops [.ay 2 (.c (.int .i64 0))]) .ret))))⟩
def ab1:dQ:=⟨1,5,[.tmp 2],(.seq (.ops [.ay 2 (.nil 1)]) (.seq (.ops [.ah 3 (.t 0),.call 4 228 [(.t 3),(.c (.func 229 []))],.ay 2 (.t 4)]) .ret))⟩
def FH:dQ:=⟨1,16,[.cell 2 (some 2),.tmp 3],(.seq (.ops [.alloc 2 [(.int .i64 0),(.list 1 [])],.ay 3 (.c (.int .i64 0))]) (.seq (.seq (.ops [.ah 4 (.t 0),.bin 5 .lss (.t 4) (.c (.int .i64 0)),.ah 6 (.t 5),.grd 6 false (.ah 7 (.t 0)),.grd 6 false (.bin 8 .gtr (.t 7) (.c (.int .i64 4096))),.pick 9 (.t 6) (.c (.bool true)) (.t 8)]) (.cond (.t 9) (.seq (.ops [.build 10 [(.int .i64 0),(.list 1 [])] [],.store none 2 (.t 2) (.t 10),.ay 3 (.c (.int .i64 2))]) .ret) .skip)) (.seq (.ops [.ah 11 (.t 0),.ah 12 (.t 0),.call 13 222 [(.t 12)],.make 14 (.int .u64 0) (.t 13) (.t 13),.build 15 [(.int .i64 0),(.list 1 [])] [(0,1,(.t 11)),(1,1,(.t 14))],.store none 2 (.t 2) (.t 15),.ay 3 (.c (.int .i64 0))]) .ret)))⟩
def O8:dQ:=⟨2,12,[.cell 4 (some 2),.tmp 5],(.seq (.ops [.box 2 (.t 0),.box 3 (.t 1),.alloc 4 [(.int .i64 0),(.list 1 [])],.ay 5 (.c (.int .i64 0))]) (.seq (.ops [.build 6 [.o7] [(0,1,(.c (.func 233 [])))],.load 7 (some 2) (.t 2),.load 8 (some 2) (.t 3),.call 9 234 [(.t 6),(.t 7),(.t 8)],.ext 10 (.t 9) 0,.ext 11 (.t 9) 1,.store none 2 (.t 4) (.t 10),.ay 5 (.t 11)]) .ret))⟩
def Dv:dQ:=⟨2,19,[.tmp 4],(.seq (.ops [.ay 4 (.c (.bool false))]) (.seq (.ops [.ah 5 (.t 0),.bin 6 .geq (.t 5) (.c (.int .i64 1)),.ah 7 (.t 6),.grd 7 true (.ah 8 (.t 0)),.grd 7 true (.bin 9 .leq (.t 8) (.c (.int .i64 4096))),.pick 10 (.t 7) (.t 9) (.c (.bool false)),.ah 11 (.t 10),.grd 11 true (.ah 12 (.t 1)),.grd 11 true (.bin 13 .geq (.t 12) (.c (.int .i64 1))),.pick 14 (.t 11) (.t 13) (.c (.bool false)),.ah 15 (.t 14),.grd 15 true (.ah 16 (.t 1)),.grd 15 true (.bin 17 .leq (.t 16) (.c (.int .i64 4096))),.pick 18 (.t 15) (.t 17) (.c (.bool false)),.ay 4 (.t 18)]) .ret))⟩
def O9:dQ:=⟨2,11,[.tmp 4],(.seq (.ops [.ay 4 (.c (.int .i64 0))]) (.seq (.ops [.ah 5 (.t 0),.ah 6 (.t 1),.bin 7 .add (.t 5) (.t 6),.bin 8 .sub (.t 7) (.c (.int .i64 1)),.ah 9 (.t 1),.bin 10 .quo (.t 8) (.t 9),.ay 4 (.t 10)]) .ret))⟩
def Am:au:=(.ops [.ay 12 (.t 37)])
def Ap:au:=(.block 1 (.seq (.qp [] [([0,1,2,3,4,5,6,7,8],9)] (some ([10,11,13],[12],14,[([],15)])) [] [.aj 39 (.t 3) 2,.load 40 none (.t 39),.ah 41 (.t 12),.load 42 none (.t 5),.aj 43 (.t 3) 2,.load 44 none (.t 43),.ah 45 (.t 12),.bG 46 1 (.t 44) (.t 45),.load 47 none (.t 46),.kL 48 (.t 42) [(.t 47)],.ah 38 (.t 48),.ext 49 (.t 38) 0,.bG 51 1 (.t 40) (.t 41),.ext 50 (.t 38) 1,.store none 1 (.t 51) (.t 49),.store none 1 (.t 11) (.t 50)]) (.seq (.ops [.load 52 none (.t 11),.bin 53 .neq (.t 52) (.c (.int .i64 0))]) (.cond (.t 53) (.seq (.qp [(.t 11)] [] (some ([0],[2,1],3,[([],4),([],5)])) [] [.build 54 [(.int .i64 0),(.int .i64 0),(.list 1 []),(.int .i64 0),(.list 1 [])] [],.Nl 56 none (.t 11),.build 55 [(.int .i64 0),(.int .i64 0)] [],.store none 5 (.t 6) (.t 54),.store none 2 (.t 7) (.t 55),.store none 1 (.t 8) (.t 56)]) .ret) .skip))))
def Dw:dQ:=⟨3,59,[.cell 6 (some 5),.cell 7 (some 2),.cell 8 none],(.seq (.ops [.box 3 (.t 0),.box 4 (.t 1),.box 5 (.t 2),.alloc 6 [(.int .i64 0),(.int .i64 0),(.list 1 []),(.int .i64 0),(.list 1 [])],.alloc 7 [(.int .i64 0),(.int .i64 0)],.alloc 8 [(.int .i64 0)]]) (.seq (.seq (.ops [.load 13 (some 5) (.t 3),.call 14 181 [(.t 13)],.ay 9 (.t 14)]) (.seq (.ops [.ah 15 (.t 9),.bin 16 .neq (.t 15) (.c (.int .i64 0))]) (.cond (.t 16) (.seq (.ops [.build 17 [(.int .i64 0),(.int .i64 0),(.list 1 []),(.int .i64 0),(.list 1 [])] [],.build 18 [(.int .i64 0),(.int .i64 0)] [],.ah 19 (.t 9),.store none 5 (.t 6) (.t 17),.store none 2 (.t 7) (.t 18),.store none 1 (.t 8) (.t 19)]) .ret) .skip))) (.seq (.ops [.load 21 (some 5) (.t 3),.load 22 (some 2) (.t 4),.call 23 235 [(.t 21),(.t 22)],.ah 20 (.t 23),.ext 24 (.t 20) 0,.ext 25 (.t 20) 1,.alloc 10 [(.int .i64 0),(.int .i64 0)],.alloc 11 [(.int .i64 0)],.store none 2 (.t 10) (.t 24),.store none 1 (.t 11) (.t 25)]) (.seq (.seq (.ops [.load 26 none (.t 11),.bin 27 .neq (.t 26) (.c (.int .i64 0))]) (.cond (.t 27) (.seq (.qp [(.t 11)] [] (some ([0],[2,1],3,[([],4),([],5)])) [] [.build 28 [(.int .i64 0),(.int .i64 0),(.list 1 []),(.int .i64 0),(.list 1 [])] [],.Nl 30 none (.t 11),.build 29 [(.int .i64 0),(.int .i64 0)] [],.store none 5 (.t 6) (.t 28),.store none 2 (.t 7) (.t 29),.store none 1 (.t 8) (.t 30)]) .ret) .skip)) (.seq (.ops [.aj 31 (.t 3) 2,.load 32 none (.t 31),.call 33 107 [(.t 32)],.aj 34 (.t 3) 2,.store none 1 (.t 34) (.t 33)]) (.seq (.seq (.ops [.load 35 (some 2) (.t 10),.call 36 176 [(.t 35)]]) (.block 0 (.rng (.t 36) [37] Am Ap))) (.seq (.qp [(.t 10)] [] (some ([0],[1],2,[([],3),([],4)])) [] [.load 57 (some 5) (.t 3),.Nl 58 (some 2) (.t 10),.store none 5 (.t 6) (.t 57),.store none 2 (.t 7) (.t 58),.store none 1 (.t 8) (.c (.int .i64 0))]) .ret)))))))⟩
def JA:dQ:=⟨1,8,[.tmp 2,.tmp 3],(.seq (.ops [.ay 2 (.c (.int .i64 0)),.ay 3 (.c (.int .i64 0))]) (.seq (.seq (.ops [.ah 4 (.t 0),.bin 5 .eql (.t 4) (.c (.int .i64 4096))]) (.cond (.t 5) (.seq (.ops [.ay 2 (.c (.int .i64 0)),.ay 3 (.c (.int .i64 6))]) .ret) .skip)) (.seq (.ops [.ah 6 (.t 0),.bin 7 .add (.t 6) (.c (.int .i64 1)),.ay 2 (.t 7),.ay 3 (.c (.int .i64 0))]) .ret)))⟩
def Pg:dQ:=⟨1,4,[.tmp 2],(.seq (.ops [.box 1 (.t 0),.ay 2 (.c .o7)]) (.seq (.ops [.IQ 3 236 [(.t 1)],.ay 2 (.t 3)]) .ret))⟩
def Dx:dQ:=⟨2,31,[.tmp 4],(.seq (.ops [.box 2 (.t 0),.ay 4 (.c (.bool false))]) (.seq (.ops [.load 5 (some 2) (.t 2),.call 6 161 [(.t 5)],.bin 7 .eql (.t 6) (.c (.int .i64 0)),.ah 8 (.t 7),.grd 8 true (.ah 9 (.t 1)),.grd 8 true (.bin 10 .geq (.t 9) (.c (.int .i64 0))),.pick 11 (.t 8) (.t 10) (.c (.bool false)),.ah 12 (.t 11),.grd 12 true (.ah 13 (.t 1)),.grd 12 true (.aj 14 (.t 2) 0),.grd 12 true (.load 15 none (.t 14)),.grd 12 true (.bin 16 .lss (.t 13) (.t 15)),.pick 17 (.t 12) (.t 16) (.c (.bool false)),.ah 18 (.t 17),.grd 18 true (.aj 19 (.t 2) 1),.grd 18 true (.load 20 none (.t 19)),.grd 18 true (.ah 21 (.t 1)),.grd 18 true (.bin 22 .quo (.t 21) (.c (.int .i64 64))),.grd 18 true (.bG 23 1 (.t 20) (.t 22)),.grd 18 true (.load 24 none (.t 23)),.grd 18 true (.ah 25 (.t 1)),.grd 18 true (.bin 26 .rem (.t 25) (.c (.int .i64 64))),.grd 18 true (.bin 27 .shr (.t 24) (.t 26)),.grd 18 true (.bin 28 .and (.t 27) (.c (.int .u64 1))),.grd 18 true (.bin 29 .eql (.t 28) (.c (.int .u64 1))),.pick 30 (.t 18) (.t 29) (.c (.bool false)),.ay 4 (.t 30)]) .ret))⟩
def Ph:dQ:=⟨1,10,[.tmp 2,.tmp 3,.tmp 4],(.seq (.ops [.ay 2 (.c (.int .i64 0)),.ay 3 (.nil 1),.ay 4 (.c (.int .i64 0))]) (.seq (.ops [.ah 5 (.t 0),.call 6 237 [(.t 5),(.c (.func 238 []))],.ext 7 (.t 6) 0,.ext 8 (.t 6) 1,.ext 9 (.t 6) 2,.ay 2 (.t 7),.ay 3 (.t 8),.ay 4 (.t 9)]) .ret))⟩
def Pj:dQ:=⟨1,10,[.tmp 2,.tmp 3,.tmp 4],(.seq (.ops [.ay 2 (.nil 2),.ay 3 (.nil 1),.ay 4 (.c (.int .i64 0))]) (.seq (.ops [.ah 5 (.t 0),.call 6 239 [(.t 5),(.c (.func 240 []))],.ext 7 (.t 6) 0,.ext 8 (.t 6) 1,.ext 9 (.t 6) 2,.ay 2 (.t 7),.ay 3 (.t 8),.ay 4 (.t 9)]) .ret))⟩
def Pm:dQ:=⟨2,9,[.tmp 4],(.seq (.ops [.ay 4 (.nil 2)]) (.seq (.ops [.ah 5 (.t 0),.ah 6 (.t 1),.call 7 214 [(.t 5),(.t 6),(.c (.func 243 []))],.call 8 213 [(.t 7)],.ay 4 (.t 8)]) .ret))⟩
def qM:au:=(.seq (.ops [.bin 41 .lss (.t 40) (.t 39)]) (.seq (.cond (.t 41) .skip (.exit 0)) (.seq (.block 1 (.seq (.ops [.ah 42 (.t 40),.bG 43 1 (.t 38) (.t 40),.load 44 none (.t 43),.ay 3 (.t 42),.ay 4 (.t 44)]) (.seq (.ops [.ah 45 (.t 4),.bin 46 .lss (.t 45) (.c (.int .i64 0)),.ah 47 (.t 46),.grd 47 false (.ah 48 (.t 4)),.grd 47 false (.bin 49 .gtr (.t 48) (.c (.int .i64 4096))),.pick 50 (.t 47) (.c (.bool true)) (.t 49),.ah 51 (.t 50),.grd 51 false (.ah 52 (.t 4)),.grd 51 false (.bin 53 .gtr (.t 52) (.c (.int .i64 0))),.grd 51 false (.ah 54 (.t 53)),.grd 54 true (.aj 55 (.t 1) 3),.grd 54 true (.load 56 (some 2) (.t 55)),.grd 54 true (.ah 57 (.t 3)),.grd 54 true (.call 58 177 [(.t 56),(.t 57)]),.grd 54 true (.un 59 .not (.t 58)),.grd 51 false (.pick 60 (.t 54) (.t 59) (.c (.bool false))),.pick 61 (.t 51) (.c (.bool true)) (.t 60)]) (.cond (.t 61) (.seq (.ops [.ay 2 (.c (.int .i64 3))]) .ret) .skip)))) (.ops [.bin 62 .add (.t 40) (.c (.int .i64 1)),.ah 40 (.t 62)]))))
def FI:au :=
(.clean [1,38,39,40] [2] (.block 0 (.loop [1,38,39,40] qM)))
def Aq:dQ:=⟨1,63,[.tmp 2],(.seq (.ops [.box 1 (.t 0),.ay 2 (.c (.int .i64 0))]) (.seq (.seq (.qp [] [([0,1,2,3],4),([5,6,7,8,9,10,11,12,13],14),([15,16,17,18,19],20)] none [21,22,23,24,25,26,27,28,29,30,31] [.aj 5 (.t 1) 0,.load 6 none (.t 5),.aj 7 (.t 1) 1,.load 8 none (.t 7),.call 9 172 [(.t 6),(.t 8)],.un 10 .not (.t 9),.ah 11 (.t 10),.grd 11 false (.aj 12 (.t 1) 2),.grd 11 false (.load 13 none (.t 12)),.grd 11 false (.len 14 (.t 13)),.grd 11 false (.aj 15 (.t 1) 0),.grd 11 false (.load 16 none (.t 15)),.grd 11 false (.aj 17 (.t 1) 1),.grd 11 false (.load 18 none (.t 17)),.grd 11 false (.call 19 173 [(.t 16),(.t 18)]),.grd 11 false (.bin 20 .neq (.t 14) (.t 19)),.pick 21 (.t 11) (.c (.bool true)) (.t 20),.ah 22 (.t 21),.grd 22 false (.aj 23 (.t 1) 3),.grd 22 false (.load 24 (some 2) (.t 23)),.grd 22 false (.call 25 161 [(.t 24)]),.grd 22 false (.bin 26 .neq (.t 25) (.c (.int .i64 0))),.pick 27 (.t 22) (.c (.bool true)) (.t 26),.ah 28 (.t 27),.grd 28 false (.aj 29 (.t 1) 3),.grd 28 false (.aj 30 (.t 29) 0),.grd 28 false (.load 31 none (.t 30)),.grd 28 false (.aj 32 (.t 1) 2),.grd 28 false (.load 33 none (.t 32)),.grd 28 false (.len 34 (.t 33)),.grd 28 false (.bin 35 .neq (.t 31) (.t 34)),.pick 36 (.t 28) (.c (.bool true)) (.t 35)]) (.cond (.t 36) (.seq (.ops [.ay 2 (.c (.int .i64 3))]) .ret) .skip)) (.seq (.seq (.ops [.aj 37 (.t 1) 2,.load 38 none (.t 37),.len 39 (.t 38),.ah 40 (.c (.int .i64 0))])
   FI) (.seq (.ops [.ay 2 (.c (.int .i64 0))]) .ret))))⟩
def Pn:dQ:=⟨2,9,[.tmp 4],(.seq (.ops [.ay 4 (.nil 1)]) (.seq (.ops [.ah 5 (.t 0),.call 6 245 [(.t 5)],.ah 7 (.t 1),.lin 8 244 (.t 6) [(.t 7)],.ay 4 (.t 8)]) .ret))⟩
def Po:dQ:=⟨2,9,[.tmp 4],(.seq (.ops [.ay 4 (.nil 1)]) (.seq (.ops [.ah 5 (.t 0),.call 6 245 [(.t 5)],.ah 7 (.t 1),.lin 8 246 (.t 6) [(.t 7),(.c (.func 247 []))],.ay 4 (.t 8)]) .ret))⟩
def ab2:au:=(.seq (.seq (.ops [.ah 6 (.t 4),.load 7 none (.t 1),.len 8 (.t 7),.bin 9 .lss (.t 6) (.t 8)]) (.cond (.t 9) .skip (.exit 0))) (.seq (.block 1 (.seq (.qp [] [] none [0,1,2,3,4,5,6] [.load 13 none (.t 2),.load 14 none (.t 1),.ah 15 (.t 4),.Hz 16 8 (.t 14) (some (.t 15)) none,.len 17 (.t 16),.mn 18 false (.t 13) (.t 17),.ay 5 (.t 18)]) (.seq (.ops [.ah 19 (.t 0),.load 20 none (.t 1),.ah 21 (.t 4),.ah 22 (.t 4),.ah 23 (.t 5),.bin 24 .add (.t 22) (.t 23),.ah 25 (.t 4),.ah 26 (.t 5),.bin 27 .add (.t 25) (.t 26),.sl4 28 8 (.t 20) (.t 21) (.t 24) (.t 27),.yield 29 (.t 19) [(.t 28)],.un 30 .not (.t 29)]) (.cond (.t 30) .ret .skip)))) (.ops [.ah 10 (.t 4),.load 11 none (.t 2),.bin 12 .add (.t 10) (.t 11),.ay 4 (.t 12)])))
def ab3:au :=
(.clean [0,1,2,4] [] (.block 0 (.loop [0,1,2,4] ab2)))
def ab4:dQ:=⟨3,31,[],(.seq (.ops [.ay 4 (.c (.int .i64 0))])
 ab3)⟩
def ab5:au:=(.ops [.ay 4 (.t 6)])
def ab6:au:=(.block 1 (.ops [.load 7 none (.t 3),.ah 8 (.t 4),.conv 9 .u64 (.t 8),.bin 10 .xor (.t 7) (.t 9),.bin 11 .mul (.t 10) (.c (.int .u64 1099511628211)),.store none 1 (.t 3) (.t 11)]))
def ab7:dQ:=⟨1,16,[.tmp 2],(.seq (.ops [.ay 2 (.c (.int .u64 0))]) (.seq (.ops [.alloc 3 [(.int .u64 0)],.store none 1 (.t 3) (.c (.int .u64 14695981039346656037))]) (.seq (.seq (.ops [.ah 5 (.t 0)]) (.block 0 (.rng (.t 5) [6] ab5 ab6))) (.seq (.ops [.load 12 none (.t 3),.load 13 none (.t 3),.bin 14 .shr (.t 13) (.c (.int .u64 32)),.bin 15 .xor (.t 12) (.t 14),.ay 2 (.t 15)]) .ret))))⟩
def ab8:au:=(.seq (.ops [.bin 15 .lss (.t 14) (.c (.int .i64 8))]) (.seq (.cond (.t 15) .skip (.exit 2)) (.seq (.block 3 (.seq (.ops [.idx 16 (.t 13) (.t 14) 8 1 none,.ay 6 (.t 16)]) (.seq (.ops [.ah 17 (.t 0),.ah 18 (.t 6),.yield 19 (.t 17) [(.t 18)],.un 20 .not (.t 19)]) (.cond (.t 20) .ret .skip)))) (.ops [.bin 21 .add (.t 14) (.c (.int .i64 1)),.ah 14 (.t 21)]))))
def ab9:au :=
(.clean [0,7,8,9,13,14] [0,7,8,9] (.block 2 (.loop [0,7,8,9,13,14] ab8)))
def acd:au:=(.seq (.ops [.bin 10 .lss (.t 9) (.t 8)]) (.seq (.cond (.t 10) .skip (.exit 0)) (.seq (.block 1 (.seq (.ops [.bG 11 8 (.t 7) (.t 9),.load 12 (some 8) (.t 11),.alloc 4 [(.int .u8 0),(.int .u8 0),(.int .u8 0),(.int .u8 0),(.int .u8 0),(.int .u8 0),(.int .u8 0),(.int .u8 0)],.store none 8 (.t 4) (.t 12)]) (.seq (.ops [.load 13 (some 8) (.t 4),.ah 14 (.c (.int .i64 0))])
    ab9))) (.ops [.bin 22 .add (.t 9) (.c (.int .i64 1)),.ah 9 (.t 22)]))))
def ace:au :=
(.clean [0,7,8,9] [] (.block 0 (.loop [0,7,8,9] acd)))
def acf:dQ:=⟨2,23,[],(.seq (.ops [.load 7 none (.t 1),.len 8 (.t 7),.ah 9 (.c (.int .i64 0))])
 ace)⟩
def acg:au:=(.seq (.seq (.ops [.ah 7 (.t 6),.ah 8 (.t 0),.len 9 (.t 8),.bin 10 .lss (.t 7) (.t 9)]) (.cond (.t 10) .skip (.exit 0))) (.seq (.block 1 (.seq (.ops [.ah 13 (.t 6),.bin 14 .add (.t 13) (.c (.int .i64 1)),.ah 15 (.t 0),.len 16 (.t 15),.bin 17 .lss (.t 14) (.t 16)]) (.cond (.t 17) (.qp [] [([0,1,2,3,4,5,6,7,8,9,10],11),([],12)] (some ([],[],13,[])) [14] [.ah 18 (.t 5),.ah 19 (.t 1),.ah 20 (.t 0),.ah 21 (.t 6),.bG 22 1 (.t 20) (.t 21),.load 23 none (.t 22),.ah 24 (.t 0),.ah 25 (.t 6),.bin 26 .add (.t 25) (.c (.int .i64 1)),.bG 27 1 (.t 24) (.t 26),.load 28 none (.t 27),.kL 29 (.t 19) [(.t 23),(.t 28)],.eU 30 1 [(.t 29)],.app 31 1 (.t 18) (.t 30),.ay 5 (.t 31)]) (.ops [.ah 32 (.t 5),.ah 33 (.t 0),.ah 34 (.t 6),.bG 35 1 (.t 33) (.t 34),.load 36 none (.t 35),.eU 37 1 [(.t 36)],.app 38 1 (.t 32) (.t 37),.ay 5 (.t 38)])))) (.ops [.ah 11 (.t 6),.bin 12 .add (.t 11) (.c (.int .i64 2)),.ay 6 (.t 12)])))
def ach:au :=
(.clean [0,1,5,6,31,38] [4,5] (.block 0 (.loop [0,1,5,6,31,38] acg)))
def aci:dQ:=⟨2,40,[.tmp 4],(.seq (.ops [.ay 4 (.nil 1)]) (.seq (.ops [.ay 5 (.nil 1)]) (.seq (.seq (.ops [.ay 6 (.c (.int .i64 0))])
   ach) (.seq (.ops [.ah 39 (.t 5),.ay 4 (.t 39)]) .ret))))⟩
def acj:au:=(.seq (.ops [.bin 8 .lss (.t 7) (.c (.int .i64 8))]) (.seq (.cond (.t 8) .skip (.exit 0)) (.seq (.block 1 (.seq (.ops [.ah 9 (.t 7),.ay 6 (.t 9)]) (.qp [] [] (some ([0,3,4,5,6,7,13],[1,2,8,9,10,11,12],14,[([15],16)])) [] [.ah 10 (.t 6),.ah 13 (.t 0),.ah 14 (.t 6),.bin 15 .mul (.c (.int .i64 8)) (.t 14),.bin 16 .shr (.t 13) (.t 15),.conv 17 .u8 (.t 16),.vH 23 (.t 5) (.t 10) 16 1,.ah 11 (.t 6),.bin 12 .add (.c (.int .i64 8)) (.t 11),.ah 18 (.t 1),.ah 19 (.t 6),.bin 20 .mul (.c (.int .i64 8)) (.t 19),.bin 21 .shr (.t 18) (.t 20),.conv 22 .u8 (.t 21),.store none 1 (.t 23) (.t 17),.vH 24 (.t 5) (.t 12) 16 1,.store none 1 (.t 24) (.t 22)]))) (.ops [.bin 25 .add (.t 7) (.c (.int .i64 1)),.ah 7 (.t 25)]))))
def acn:au :=
(.clean [0,1,5,7] [4,5] (.block 0 (.loop [0,1,5,7] acj)))
def aco:dQ:=⟨2,28,[.tmp 4],(.seq (.ops [.ay 4 (.c (.int .u64 0))]) (.seq (.ops [.alloc 5 [(.int .u8 0),(.int .u8 0),(.int .u8 0),(.int .u8 0),(.int .u8 0),(.int .u8 0),(.int .u8 0),(.int .u8 0),(.int .u8 0),(.int .u8 0),(.int .u8 0),(.int .u8 0),(.int .u8 0),(.int .u8 0),(.int .u8 0),(.int .u8 0)]]) (.seq (.seq (.ops [.ah 7 (.c (.int .i64 0))])
   acn) (.seq (.ops [.ZE 26 16 (.t 5),.call 27 248 [(.t 26)],.ay 4 (.t 27)]) .ret))))⟩
def acp:dQ:=⟨2,11,[.tmp 4],(.seq (.ops [.ay 4 (.c (.int .i64 0))]) (.seq (.ops [.ah 5 (.t 0),.ah 6 (.t 1),.bin 7 .add (.t 5) (.t 6),.bin 8 .sub (.t 7) (.c (.int .i64 1)),.ah 9 (.t 1),.bin 10 .quo (.t 8) (.t 9),.ay 4 (.t 10)]) .ret))⟩
def acr:au:=(.seq (.ops [.bin 18 .lss (.t 17) (.t 16)]) (.seq (.cond (.t 18) .skip (.exit 0)) (.seq (.block 1 (.seq (.ops [.ah 19 (.t 17),.bG 20 1 (.t 15) (.t 17),.load 21 none (.t 20),.ay 7 (.t 19),.ay 8 (.t 21)]) (.seq (.ops [.ah 22 (.t 1),.ah 23 (.t 7),.bG 24 1 (.t 22) (.t 23),.load 25 none (.t 24),.ay 9 (.t 25)]) (.seq (.ops [.ah 26 (.t 2),.ah 27 (.t 8),.ah 28 (.t 9),.kL 29 (.t 26) [(.t 27),(.t 28)],.un 30 .not (.t 29)]) (.cond (.t 30) (.seq (.ops [.ay 6 (.c (.bool false))]) .ret) .skip))))) (.ops [.bin 31 .add (.t 17) (.c (.int .i64 1)),.ah 17 (.t 31)]))))
def acs:au :=
(.clean [0,1,2,15,16,17] [6] (.block 0 (.loop [0,1,2,15,16,17] acr)))
def acu:dQ:=⟨3,32,[.tmp 6],(.seq (.ops [.ay 6 (.c (.bool false))]) (.seq (.seq (.ops [.ah 10 (.t 0),.len 11 (.t 10),.ah 12 (.t 1),.len 13 (.t 12),.bin 14 .neq (.t 11) (.t 13)]) (.cond (.t 14) (.seq (.ops [.ay 6 (.c (.bool false))]) .ret) .skip)) (.seq (.seq (.ops [.ah 15 (.t 0),.len 16 (.t 15),.ah 17 (.c (.int .i64 0))])
   acs) (.seq (.ops [.ay 6 (.c (.bool true))]) .ret))))⟩
def acv:au:=(.seq (.ops [.bin 14 .lss (.t 13) (.t 12)]) (.seq (.cond (.t 14) .skip (.exit 0)) (.seq (.block 1 (.seq (.ops [.ah 15 (.t 13),.ay 5 (.t 15)]) (.seq (.qp [] [] none [0,1,2,3,4,5,6,7,8] [.ah 16 (.t 0),.ah 17 (.t 5),.bG 18 1 (.t 16) (.t 17),.load 19 none (.t 18),.ah 20 (.t 1),.ah 21 (.t 5),.bG 22 1 (.t 20) (.t 21),.load 23 none (.t 22),.bin 24 .neq (.t 19) (.t 23)]) (.cond (.t 24) (.seq (.ops [.ay 4 (.c (.bool false))]) .ret) .skip)))) (.ops [.bin 25 .add (.t 13) (.c (.int .i64 1)),.ah 13 (.t 25)]))))
def acw:au :=
(.clean [0,1,12,13] [4] (.block 0 (.loop [0,1,12,13] acv)))
def acy:dQ:=⟨2,26,[.tmp 4],(.seq (.ops [.ay 4 (.c (.bool false))]) (.seq (.seq (.ops [.ah 6 (.t 0),.len 7 (.t 6),.ah 8 (.t 1),.len 9 (.t 8),.bin 10 .neq (.t 7) (.t 9)]) (.cond (.t 10) (.seq (.ops [.ay 4 (.c (.bool false))]) .ret) .skip)) (.seq (.seq (.ops [.ah 11 (.t 0),.len 12 (.t 11),.ah 13 (.c (.int .i64 0))])
   acw) (.seq (.ops [.ay 4 (.c (.bool true))]) .ret))))⟩
def acz:au:=(.seq (.ops [.bin 14 .lss (.t 13) (.t 12)]) (.seq (.cond (.t 14) .skip (.exit 0)) (.seq (.block 1 (.seq (.ops [.ah 15 (.t 13),.ay 5 (.t 15)]) (.seq (.qp [] [] none [0,1,2,3,4,5,6,7,8] [.ah 16 (.t 0),.ah 17 (.t 5),.bG 18 1 (.t 16) (.t 17),.load 19 none (.t 18),.ah 20 (.t 1),.ah 21 (.t 5),.bG 22 1 (.t 20) (.t 21),.load 23 none (.t 22),.bin 24 .neq (.t 19) (.t 23)]) (.cond (.t 24) (.seq (.ops [.ay 4 (.c (.bool false))]) .ret) .skip)))) (.ops [.bin 25 .add (.t 13) (.c (.int .i64 1)),.ah 13 (.t 25)]))))
def acA:au :=
(.clean [0,1,12,13] [4] (.block 0 (.loop [0,1,12,13] acz)))
def acB:dQ:=⟨2,26,[.tmp 4],(.seq (.ops [.ay 4 (.c (.bool false))]) (.seq (.seq (.ops [.ah 6 (.t 0),.len 7 (.t 6),.ah 8 (.t 1),.len 9 (.t 8),.bin 10 .neq (.t 7) (.t 9)]) (.cond (.t 10) (.seq (.ops [.ay 4 (.c (.bool false))]) .ret) .skip)) (.seq (.seq (.ops [.ah 11 (.t 0),.len 12 (.t 11),.ah 13 (.c (.int .i64 0))])
   acA) (.seq (.ops [.ay 4 (.c (.bool true))]) .ret))))⟩
def acC:dQ:=⟨1,16,[.tmp 2],(.seq (.ops [.ay 2 (.nil 1)]) (.seq (.drs [] [2,15] [.ah 3 (.t 0),.aj 4 (.t 3) 0,.aj 5 (.t 4) 0,.aj 6 (.t 5) 0,.aj 7 (.t 6) 2,.load 8 none (.t 7),.ah 9 (.t 0),.aj 10 (.t 9) 0,.aj 11 (.t 10) 0,.aj 12 (.t 11) 4,.load 13 none (.t 12),.bG 14 1 (.t 8) (.t 13),.load 15 none (.t 14),.ay 2 (.t 15)]
  [⟨[([0,6],1),([2,3,4,5],7)],none,[8,9,10,11,12,13],[0,6,1,2,3,4,5,7,8,9,10,11,12,13],false⟩,⟨[([0,6],7),([8,9,10],1)],none,[2,3,4,5,11,12,13],[0,6,7,8,9,10,1,2,3,4,5,11,12,13],false⟩]) .ret))⟩
def acD:dQ:=⟨2,42,[.tmp 4],(.seq (.ops [.ay 4 (.nil 2)]) (.seq (.seq (.ops [.ah 6 (.t 0),.len 7 (.t 6),.ay 5 (.t 7)]) (.seq (.qp [] [] none [0,1,2,3,4,5,6,7,8,9,10,11,12,13,14,15,16,17,18] [.ah 8 (.t 5),.bin 9 .gtr (.t 8) (.c (.int .i64 0)),.ah 10 (.t 9),.grd 10 true (.ah 11 (.t 0)),.grd 10 true (.ah 12 (.t 5)),.grd 10 true (.bin 13 .sub (.t 12) (.c (.int .i64 1))),.grd 10 true (.bG 14 2 (.t 11) (.t 13)),.grd 10 true (.aj 15 (.t 14) 0),.grd 10 true (.load 16 none (.t 15)),.grd 10 true (.ah 17 (.t 0)),.grd 10 true (.ah 18 (.t 5)),.grd 10 true (.bin 19 .sub (.t 18) (.c (.int .i64 1))),.grd 10 true (.bG 20 2 (.t 17) (.t 19)),.grd 10 true (.aj 21 (.t 20) 1),.grd 10 true (.load 22 none (.t 21)),.grd 10 true (.bin 23 .add (.t 16) (.t 22)),.grd 10 true (.ah 24 (.t 1)),.grd 10 true (.bin 25 .eql (.t 23) (.t 24)),.pick 26 (.t 10) (.t 25) (.c (.bool false))]) (.cond (.t 26) (.seq (.ops [.ah 27 (.t 0),.ah 28 (.t 5),.bin 29 .sub (.t 28) (.c (.int .i64 1)),.bG 30 2 (.t 27) (.t 29),.aj 31 (.t 30) 1,.load 32 none (.t 31),.bin 33 .add (.t 32) (.c (.int .i64 1)),.bG 34 2 (.t 27) (.t 29),.aj 35 (.t 34) 1,.store none 1 (.t 35) (.t 33)]) (.seq (.ops [.ah 36 (.t 0),.ay 4 (.t 36)]) .ret)) .skip))) (.seq (.ops [.ah 37 (.t 0),.ah 38 (.t 1),.build 39 [(.int .i64 0),(.int .i64 0)] [(0,1,(.t 38)),(1,1,(.c (.int .i64 1)))],.eU 40 2 [(.t 39)],.app 41 2 (.t 37) (.t 40),.ay 4 (.t 41)]) .ret)))⟩
def acE:au:=(.seq (.seq (.ops [.ah 6 (.t 4),.load 7 none (.t 1),.len 8 (.t 7),.bin 9 .lss (.t 6) (.t 8)]) (.cond (.t 9) .skip (.exit 0))) (.seq (.block 1 (.seq (.qp [] [] none [0,1,2,3,4,5,6] [.load 13 none (.t 2),.load 14 none (.t 1),.ah 15 (.t 4),.Hz 16 1 (.t 14) (some (.t 15)) none,.len 17 (.t 16),.mn 18 false (.t 13) (.t 17),.ay 5 (.t 18)]) (.seq (.ops [.ah 19 (.t 0),.load 20 none (.t 1),.ah 21 (.t 4),.ah 22 (.t 4),.ah 23 (.t 5),.bin 24 .add (.t 22) (.t 23),.ah 25 (.t 4),.ah 26 (.t 5),.bin 27 .add (.t 25) (.t 26),.sl4 28 1 (.t 20) (.t 21) (.t 24) (.t 27),.yield 29 (.t 19) [(.t 28)],.un 30 .not (.t 29)]) (.cond (.t 30) .ret .skip)))) (.ops [.ah 10 (.t 4),.load 11 none (.t 2),.bin 12 .add (.t 10) (.t 11),.ay 4 (.t 12)])))
def acF:au :=
(.clean [0,1,2,4] [] (.block 0 (.loop [0,1,2,4] acE)))
def acG:dQ:=⟨3,31,[],(.seq (.ops [.ay 4 (.c (.int .i64 0))])
 acF)⟩
def acH:au:=(.seq (.ops [.bin 15 .lss (.t 14) (.t 13)]) (.seq (.cond (.t 15) .skip (.exit 2)) (.seq (.block 3 (.seq (.ops [.ah 16 (.t 14),.ay 5 (.t 16)]) (.seq (.ops [.ah 17 (.t 0),.aj 18 (.t 4) 0,.load 19 none (.t 18),.ah 20 (.t 5),.bin 21 .add (.t 19) (.t 20),.yield 22 (.t 17) [(.t 21)],.un 23 .not (.t 22)]) (.cond (.t 23) .ret .skip)))) (.ops [.bin 24 .add (.t 14) (.c (.int .i64 1)),.ah 14 (.t 24)]))))
def acI:au :=
(.clean [0,4,6,7,8,13,14] [0,6,7,8] (.block 2 (.loop [0,4,6,7,8,13,14] acH)))
def acJ:au:=(.seq (.ops [.bin 9 .lss (.t 8) (.t 7)]) (.seq (.cond (.t 9) .skip (.exit 0)) (.seq (.block 1 (.seq (.ops [.bG 10 2 (.t 6) (.t 8),.load 11 (some 2) (.t 10),.alloc 4 [(.int .i64 0),(.int .i64 0)],.store none 2 (.t 4) (.t 11)]) (.seq (.ops [.aj 12 (.t 4) 1,.load 13 none (.t 12),.ah 14 (.c (.int .i64 0))])
    acI))) (.ops [.bin 25 .add (.t 8) (.c (.int .i64 1)),.ah 8 (.t 25)]))))
def acK:au :=
(.clean [0,6,7,8] [] (.block 0 (.loop [0,6,7,8] acJ)))
def acL:dQ:=⟨2,26,[],(.seq (.ops [.load 6 none (.t 1),.len 7 (.t 6),.ah 8 (.c (.int .i64 0))])
 acK)⟩
def acM:au:=(.seq (.ops [.bin 11 .lss (.t 10) (.t 9)]) (.seq (.cond (.t 11) .skip (.exit 0)) (.seq (.block 1 (.seq (.ops [.ah 12 (.t 10),.bG 13 1 (.t 8) (.t 10),.load 14 none (.t 13),.ay 6 (.t 12),.ay 7 (.t 14)]) (.ops [.ah 15 (.t 5),.ah 16 (.t 1),.ah 17 (.t 6),.ah 18 (.t 7),.kL 19 (.t 16) [(.t 17),(.t 18)],.eU 20 1 [(.t 19)],.app 21 1 (.t 15) (.t 20),.ay 5 (.t 21)]))) (.ops [.bin 22 .add (.t 10) (.c (.int .i64 1)),.ah 10 (.t 22)]))))
def acN:au :=
(.clean [0,1,5,8,9,10,21] [4,5] (.block 0 (.loop [0,1,5,8,9,10,21] acM)))
def acO:dQ:=⟨2,24,[.tmp 4],(.seq (.ops [.ay 4 (.nil 1)]) (.seq (.ops [.ay 5 (.nil 1)]) (.seq (.seq (.ops [.ah 8 (.t 0),.len 9 (.t 8),.ah 10 (.c (.int .i64 0))])
   acN) (.seq (.ops [.ah 23 (.t 5),.ay 4 (.t 23)]) .ret))))⟩
def acP:dQ:=⟨3,14,[.tmp 5],(.seq (.ops [.ay 5 (.c (.bool false))]) (.seq (.ops [.ah 6 (.t 1),.load 7 none (.t 2),.ah 8 (.t 0),.bG 9 1 (.t 7) (.t 8),.load 10 none (.t 9),.len 11 (.t 10),.call 12 106 [(.t 6),(.t 11)],.bin 13 .eql (.t 12) (.c (.int .i64 0)),.ay 5 (.t 13)]) .ret))⟩
def acQ:dQ:=⟨2,9,[.tmp 4],(.seq (.ops [.ay 4 (.c (.bool false))]) (.seq (.ops [.ah 5 (.t 0),.ah 6 (.t 1),.call 7 252 [(.t 5),(.t 6)],.bin 8 .geq (.t 7) (.c (.int .i64 0)),.ay 4 (.t 8)]) .ret))⟩
def acR:au:=(.seq (.ops [.bin 17 .lss (.t 16) (.t 15)]) (.seq (.cond (.t 17) .skip (.exit 2)) (.seq (.block 3 (.seq (.ops [.bG 18 2 (.t 14) (.t 16),.load 19 (some 2) (.t 18),.alloc 6 [(.int .i64 0),(.int .i64 0)],.store none 2 (.t 6) (.t 19)]) (.seq (.ops [.ah 20 (.t 0),.ah 21 (.t 3),.load 22 (some 2) (.t 6),.yield 23 (.t 20) [(.t 21),(.t 22)],.un 24 .not (.t 23)]) (.cond (.t 24) .ret .skip)))) (.ops [.bin 25 .add (.t 16) (.c (.int .i64 1)),.ah 16 (.t 25)]))))
def acS:au :=
(.clean [0,3,4,7,8,9,13,14,15,16] [0,7,8,9] (.block 2 (.loop [0,3,4,7,8,9,13,14,15,16] acR)))
def acT:au:=(.seq (.ops [.bin 10 .lss (.t 9) (.t 8)]) (.seq (.cond (.t 10) .skip (.exit 0)) (.seq (.block 1 (.seq (.ops [.ah 11 (.t 9),.bG 12 1 (.t 7) (.t 9),.load 13 none (.t 12),.ay 3 (.t 11),.ay 4 (.t 13)]) (.seq (.ops [.ah 14 (.t 4),.len 15 (.t 14),.ah 16 (.c (.int .i64 0))])
    acS))) (.ops [.bin 26 .add (.t 9) (.c (.int .i64 1)),.ah 9 (.t 26)]))))
def acU:au :=
(.clean [0,7,8,9] [] (.block 0 (.loop [0,7,8,9] acT)))
def acV:dQ:=⟨2,27,[],(.seq (.ops [.load 7 none (.t 1),.len 8 (.t 7),.ah 9 (.c (.int .i64 0))])
 acU)⟩
def wO:au:=(.seq (.seq (.ops [.ah 56 (.t 7),.aj 57 (.t 2) 8,.load 58 none (.t 57),.len 59 (.t 58),.bin 60 .lss (.t 56) (.t 59)]) (.cond (.t 60) .skip (.exit 0))) (.seq (.block 1 (.seq (.ops [.aj 63 (.t 2) 8,.load 64 none (.t 63),.ah 65 (.t 7),.bG 66 5 (.t 64) (.t 65),.aj 67 (.t 66) 0,.load 68 (some 3) (.t 67),.alloc 8 [(.int .i64 0),(.int .i64 0),(.list 0 [])],.store none 3 (.t 8) (.t 68)]) (.seq (.ops [.aj 69 (.t 6) 1,.load 70 none (.t 69),.aj 71 (.t 8) 1,.load 72 none (.t 71),.aj 73 (.t 8) 2,.load 74 none (.t 73),.len 75 (.t 74),.bin 76 .add (.t 72) (.t 75),.bin 77 .lss (.t 70) (.t 76),.ah 78 (.t 77),.grd 78 true (.aj 79 (.t 8) 1),.grd 78 true (.load 80 none (.t 79)),.grd 78 true (.aj 81 (.t 6) 1),.grd 78 true (.load 82 none (.t 81)),.grd 78 true (.aj 83 (.t 6) 2),.grd 78 true (.load 84 none (.t 83)),.grd 78 true (.len 85 (.t 84)),.grd 78 true (.bin 86 .add (.t 82) (.t 85)),.grd 78 true (.bin 87 .lss (.t 80) (.t 86)),.pick 88 (.t 78) (.t 87) (.c (.bool false))]) (.cond (.t 88) (.seq (.ops [.load 89 (some 10) (.t 2),.store none 10 (.t 4) (.t 89)]) .ret) .skip)))) (.ops [.ah 61 (.t 7),.bin 62 .add (.t 61) (.c (.int .i64 1)),.ay 7 (.t 62)])))
def FK:au :=
(.clean [2,4,6,7] [2,4,6] (.block 0 (.loop [2,4,6,7] wO)))
def JB:dQ:=⟨2,126,[.cell 4 (some 10)],(.seq (.ops [.box 2 (.t 0),.box 3 (.t 1),.alloc 4 [(.list 0 []),(.list 0 []),(.int .i64 0),(.int .i64 0),(.list 0 []),(.int .i64 0),(.list 0 []),(.list 0 []),(.list 0 []),(.bool false)]]) (.seq (.seq (.ops [.aj 12 (.t 2) 0,.load 13 none (.t 12),.len 14 (.t 13),.bin 15 .neq (.t 14) (.c (.int .i64 1)),.ah 16 (.t 15),.grd 16 false (.aj 17 (.t 2) 0),.grd 16 false (.load 18 none (.t 17)),.grd 16 false (.bG 19 1 (.t 18) (.c (.int .i64 0))),.grd 16 false (.load 20 none (.t 19)),.grd 16 false (.len 21 (.t 20)),.grd 16 false (.bin 22 .eql (.t 21) (.c (.int .i64 0))),.pick 23 (.t 16) (.c (.bool true)) (.t 22),.ah 24 (.t 23),.grd 24 false (.aj 25 (.t 3) 3),.grd 24 false (.load 26 none (.t 25)),.grd 24 false (.len 27 (.t 26)),.grd 24 false (.bin 28 .eql (.t 27) (.c (.int .i64 0))),.pick 29 (.t 24) (.c (.bool true)) (.t 28)]) (.cond (.t 29) (.seq (.ops [.load 30 (some 10) (.t 2),.store none 10 (.t 4) (.t 30)]) .ret) .skip)) (.seq (.ops [.aj 31 (.t 2) 0,.load 32 none (.t 31),.bG 33 1 (.t 32) (.c (.int .i64 0)),.load 34 none (.t 33),.len 35 (.t 34),.ay 5 (.t 35)]) (.seq (.qp [] [([0,1,2,3,4,5,6,7],8)] (some ([],[],9,[])) [] [.aj 36 (.t 3) 2,.load 37 none (.t 36),.conv 38 .i64 (.t 37),.ah 39 (.t 5),.bin 40 .rem (.t 38) (.t 39),.aj 41 (.t 3) 3,.load 42 none (.t 41),.build 43 [(.int .i64 0),(.int .i64 0),(.list 0 [])] [(1,1,(.t 40)),(2,1,(.t 42))],.alloc 6 [(.int .i64 0),(.int .i64 0),(.list 0 [])],.store none 3 (.t 6) (.t 43)]) (.seq (.ops [.aj 44 (.t 6) 2,.load 45 none (.t 44),.aj 46 (.t 6) 2,.load 47 none (.t 46),.len 48 (.t 47),.ah 49 (.t 5),.aj 50 (.t 6) 1,.load 51 none (.t 50),.bin 52 .sub (.t 49) (.t 51),.mn 53 false (.t 48) (.t 52),.Hz 54 8 (.t 45) none (some (.t 53)),.aj 55 (.t 6) 2,.store none 1 (.t 55) (.t 54)]) (.seq (.seq (.ops [.ay 7 (.c (.int .i64 0))])
    FK) (.seq (.ops [.aj 91 (.t 2) 2,.load 92 (some 5) (.t 91),.aj 93 (.t 6) 1,.load 94 none (.t 93),.aj 95 (.t 6) 2,.load 96 none (.t 95),.len 97 (.t 96),.build 98 [(.int .i64 0),(.int .i64 0)] [(0,1,(.t 94)),(1,1,(.t 97))],.call 99 88 [(.t 92),(.t 98)],.ah 90 (.t 99),.ext 100 (.t 90) 0,.ext 101 (.t 90) 1,.ext 102 (.t 90) 2,.alloc 9 [(.int .i64 0),(.int .i64 0),(.list 1 []),(.int .i64 0),(.list 1 [])],.store none 5 (.t 9) (.t 100),.ay 10 (.t 101),.ay 11 (.t 102)]) (.seq (.ops [.load 103 (some 5) (.t 9),.aj 104 (.t 2) 9,.load 105 none (.t 104),.ah 106 (.t 105),.grd 106 true (.ah 107 (.t 11)),.grd 106 true (.bin 108 .eql (.t 107) (.c (.int .i64 0))),.pick 109 (.t 106) (.t 108) (.c (.bool false)),.aj 110 (.t 2) 2,.store none 5 (.t 110) (.t 103),.aj 111 (.t 2) 9,.store none 1 (.t 111) (.t 109)]) (.seq (.seq (.ops [.ah 112 (.t 10)]) (.cond (.t 112) (.ops [.load 113 (some 5) (.t 9),.call 114 90 [(.t 113)],.aj 115 (.t 2) 7,.store none 1 (.t 115) (.t 114)]) .skip)) (.seq (.drs [(.t 6)] [2,4] [.eU 116 5 [],.aj 117 (.t 2) 8,.load 118 none (.t 117),.app 119 5 (.t 116) (.t 118),.Nl 120 (some 3) (.t 6),.build 121 [(.int .i64 0),(.int .i64 0),(.list 0 []),(.bool false),(.bool false)] [(0,3,(.t 120))],.eU 122 5 [(.t 121)],.app 123 5 (.t 119) (.t 122),.aj 124 (.t 2) 8,.store none 1 (.t 124) (.t 123)]
      [⟨[([1,2,4,5],0)],(some ([],[],3,[([],6),([],7),([8],9)])),[],[1,2,4,5,0,3,6,7,8,9],false⟩,⟨[([1,2,4,5],0),([],6)],(some ([],[],3,[([],7),([8],9)])),[],[1,2,4,5,0,6,3,7,8,9],false⟩,⟨[([1,2,4,5],6),([],0)],(some ([],[],3,[([],7),([8],9)])),[],[1,2,4,5,6,0,3,7,8,9],false⟩]) (.seq (.ops [.load 125 (some 10) (.t 2),.store none 10 (.t 4) (.t 125)]) .ret)))))))))))⟩
def mO:au:=(.seq (.ops [.bin 21 .lss (.t 20) (.t 19)]) (.seq (.cond (.t 21) .skip (.exit 0)) (.seq (.block 1 (.seq (.ops [.ah 22 (.t 20),.bG 23 1 (.t 18) (.t 20),.load 24 none (.t 23),.ay 6 (.t 22),.ay 7 (.t 24)]) (.seq (.ops [.ah 25 (.t 7),.bin 26 .eql (.t 25) (.c (.int .i64 0)),.ah 27 (.t 26),.grd 27 true (.aj 28 (.t 1) 3),.grd 27 true (.load 29 (some 2) (.t 28)),.grd 27 true (.ah 30 (.t 6)),.grd 27 true (.call 31 177 [(.t 29),(.t 30)]),.pick 32 (.t 27) (.t 31) (.c (.bool false))]) (.cond (.t 32) (.seq (.ops [.aj 34 (.t 4) 3,.load 35 (some 2) (.t 34),.ah 36 (.t 6),.build 37 [(.int .i64 0),(.int .i64 0)] [(0,1,(.t 36)),(1,1,(.c (.int .i64 1)))],.call 38 253 [(.t 35),(.t 37)],.ah 33 (.t 38),.ext 39 (.t 33) 0,.ext 40 (.t 33) 1,.aj 41 (.t 4) 3,.store none 2 (.t 41) (.t 39)]) (.ops [.ay 5 (.c (.bool true))])) .skip)))) (.ops [.bin 42 .add (.t 20) (.c (.int .i64 1)),.ah 20 (.t 42)]))))
def FM:au :=
(.clean [1,2,4,5,18,19,20] [2,3,4,5] (.block 0 (.loop [1,2,4,5,18,19,20] mO)))
def JC:dQ:=⟨1,45,[.cell 2 (some 5),.tmp 3],(.seq (.ops [.box 1 (.t 0),.alloc 2 [(.int .i64 0),(.int .i64 0),(.list 1 []),(.int .i64 0),(.list 1 [])],.ay 3 (.c (.bool false))]) (.seq (.seq (.ops [.load 8 (some 5) (.t 1),.call 9 181 [(.t 8)],.bin 10 .neq (.t 9) (.c (.int .i64 0))]) (.cond (.t 10) (.seq (.ops [.load 11 (some 5) (.t 1),.store none 5 (.t 2) (.t 11),.ay 3 (.c (.bool false))]) .ret) .skip)) (.seq (.ops [.load 12 (some 5) (.t 1),.alloc 4 [(.int .i64 0),(.int .i64 0),(.list 1 []),(.int .i64 0),(.list 1 [])],.store none 5 (.t 4) (.t 12),.ay 5 (.c (.bool false))]) (.seq (.ops [.aj 13 (.t 1) 2,.load 14 none (.t 13),.call 15 107 [(.t 14)],.aj 16 (.t 4) 2,.store none 1 (.t 16) (.t 15)]) (.seq (.seq (.ops [.aj 17 (.t 1) 2,.load 18 none (.t 17),.len 19 (.t 18),.ah 20 (.c (.int .i64 0))])
    FM) (.seq (.ops [.load 43 (some 5) (.t 4),.ah 44 (.t 5),.store none 5 (.t 2) (.t 43),.ay 3 (.t 44)]) .ret))))))⟩
def Pq:dQ:=⟨2,18,[.cell 4 (some 5),.tmp 5],(.seq (.ops [.box 2 (.t 0),.box 3 (.t 1),.alloc 4 [(.int .i64 0),(.int .i64 0),(.list 1 []),(.int .i64 0),(.list 1 [])],.ay 5 (.c (.int .i64 0))]) (.seq (.ops [.load 10 (some 5) (.t 2),.load 11 (some 2) (.t 3),.call 12 174 [(.t 10),(.t 11),(.c (.func 254 []))],.ah 9 (.t 12),.ext 13 (.t 9) 0,.ext 14 (.t 9) 1,.ext 15 (.t 9) 2,.alloc 6 [(.int .i64 0),(.int .i64 0),(.list 1 []),(.int .i64 0),(.list 1 [])],.alloc 7 [(.int .i64 0),(.int .i64 0)],.store none 5 (.t 6) (.t 13),.store none 2 (.t 7) (.t 14),.ay 8 (.t 15)]) (.seq (.ops [.load 16 (some 5) (.t 6),.ah 17 (.t 8),.store none 5 (.t 4) (.t 16),.ay 5 (.t 17)]) .ret)))⟩
def Pv:dQ:=⟨1,5,[.tmp 2],(.seq (.ops [.ay 2 (.nil 2)]) (.seq (.ops [.ah 3 (.t 0),.call 4 255 [(.c (.kY 2)),(.t 3)],.ay 2 (.t 4)]) .ret))⟩
def Px:dQ:=⟨3,8,[.tmp 6],(.seq (.ops [.box 3 (.t 0),.box 4 (.t 1),.box 5 (.t 2),.ay 6 (.c .o7)]) (.seq (.ops [.IQ 7 256 [(.t 3),(.t 4),(.t 5)],.ay 6 (.t 7)]) .ret))⟩
def Py:dQ:=⟨2,6,[.tmp 4],(.seq (.ops [.box 2 (.t 0),.box 3 (.t 1),.ay 4 (.c .o7)]) (.seq (.ops [.IQ 5 262 [(.t 2),(.t 3)],.ay 4 (.t 5)]) .ret))⟩
def Pz:dQ:=⟨1,7,[.tmp 2],(.seq (.ops [.ay 2 (.c (.int .i64 0))]) (.seq (.ops [.ah 3 (.t 0),.bin 4 .add (.t 3) (.c (.int .i64 64)),.bin 5 .sub (.t 4) (.c (.int .i64 1)),.bin 6 .quo (.t 5) (.c (.int .i64 64)),.ay 2 (.t 6)]) .ret))⟩
def acW:dQ:=⟨2,9,[.tmp 4],(.seq (.ops [.ay 4 (.c (.bool false))]) (.seq (.ops [.ah 5 (.t 0),.ah 6 (.t 1),.call 7 266 [(.t 5),(.t 6)],.bin 8 .geq (.t 7) (.c (.int .i64 0)),.ay 4 (.t 8)]) .ret))⟩
def acX:dQ:=⟨1,9,[.tmp 2],(.seq (.ops [.ay 2 (.c (.bool false))]) (.seq (.ops [.ah 3 (.t 0),.bin 4 .lss (.t 3) (.c (.int .i64 1)),.ah 5 (.t 4),.grd 5 false (.ah 6 (.t 0)),.grd 5 false (.bin 7 .gtr (.t 6) (.c (.int .i64 4096))),.pick 8 (.t 5) (.c (.bool true)) (.t 7),.ay 2 (.t 8)]) .ret))⟩
def acY:au:=(.seq (.ops [.bin 14 .lss (.t 13) (.t 12)]) (.seq (.cond (.t 14) .skip (.exit 0)) (.seq (.block 1 (.seq (.ops [.bG 15 1 (.t 11) (.t 13),.load 16 none (.t 15),.ay 7 (.t 16)]) (.ops [.ah 17 (.t 5),.ah 18 (.t 1),.ah 19 (.t 7),.kL 20 (.t 18) [(.t 19)],.eU 21 1 [(.t 20)],.app 22 1 (.t 17) (.t 21),.ay 5 (.t 22)]))) (.ops [.bin 23 .add (.t 13) (.c (.int .i64 1)),.ah 13 (.t 23)]))))
def acZ:au :=
(.clean [0,1,5,10,11,12,13,22] [4,5] (.block 0 (.loop [0,1,5,10,11,12,13,22] acY)))
def ac0:dQ:=⟨2,25,[.tmp 4],(.seq (.ops [.ay 4 (.nil 1)]) (.seq (.ops [.ah 8 (.t 0),.len 9 (.t 8),.make 10 (.int .i64 0) (.c (.int .i64 0)) (.t 9),.ay 5 (.t 10)]) (.seq (.seq (.ops [.ah 11 (.t 0),.len 12 (.t 11),.ah 13 (.c (.int .i64 0))])
   acZ) (.seq (.ops [.ah 24 (.t 5),.ay 4 (.t 24)]) .ret))))⟩
def ac1:dQ:=⟨1,5,[.tmp 2],(.seq (.ops [.ay 2 (.c (.int .i64 0))]) (.seq (.ops [.ah 3 (.t 0),.len 4 (.t 3),.ay 2 (.t 4)]) .ret))⟩
def PD:dQ:=⟨2,8,[.tmp 4],(.seq (.ops [.ay 4 (.c (.int .u64 0))]) (.seq (.ops [.ah 5 (.t 0),.ah 6 (.t 1),.bin 7 .or (.t 5) (.t 6),.ay 4 (.t 7)]) .ret))⟩
def FN:au:=(.seq (.ops [.bin 29 .lss (.t 28) (.t 27)]) (.seq (.cond (.t 29) .skip (.exit 0)) (.seq (.block 1 (.seq (.ops [.ah 30 (.t 28),.ay 10 (.t 30)]) (.qp [] [([0,1,2,3,4,5,6,7,8,9,10,11,12,13,14,15],16),([],17)] (some ([18],[],19,[])) [] [.ah 31 (.t 9),.ah 32 (.t 10),.aj 33 (.t 3) 0,.load 34 none (.t 33),.ah 35 (.t 9),.ah 36 (.t 10),.bG 37 1 (.t 35) (.t 36),.load 38 none (.t 37),.ah 39 (.t 10),.aj 40 (.t 5) 0,.load 41 none (.t 40),.aj 42 (.t 5) 0,.load 43 none (.t 42),.aj 44 (.t 5) 1,.load 45 none (.t 44),.bin 46 .add (.t 43) (.t 45),.call 47 263 [(.t 39),(.t 41),(.t 46)],.kL 48 (.t 34) [(.t 38),(.t 47)],.bG 49 1 (.t 31) (.t 32),.store none 1 (.t 49) (.t 48)]))) (.ops [.bin 50 .add (.t 28) (.c (.int .i64 1)),.ah 28 (.t 50)]))))
def FP:au :=
(.clean [3,4,5,6,9,25,27,28] [4,6,7,9] (.block 0 (.loop [3,4,5,6,9,25,27,28] FN)))
def FQ:dQ:=⟨3,55,[.cell 6 (some 2),.tmp 7],(.seq (.ops [.box 3 (.t 0),.box 4 (.t 1),.box 5 (.t 2),.alloc 6 [(.int .i64 0),(.list 1 [])],.ay 7 (.c (.int .i64 0))]) (.seq (.seq (.ops [.load 11 (some 2) (.t 4),.call 12 161 [(.t 11)],.ay 8 (.t 12)]) (.seq (.ops [.ah 13 (.t 8),.bin 14 .neq (.t 13) (.c (.int .i64 0))]) (.cond (.t 14) (.seq (.ops [.build 15 [(.int .i64 0),(.list 1 [])] [],.ah 16 (.t 8),.store none 2 (.t 6) (.t 15),.ay 7 (.t 16)]) .ret) .skip))) (.seq (.seq (.ops [.load 17 (some 2) (.t 5),.aj 18 (.t 4) 0,.load 19 none (.t 18),.call 20 267 [(.t 17),(.t 19)],.un 21 .not (.t 20)]) (.cond (.t 21) (.seq (.ops [.build 22 [(.int .i64 0),(.list 1 [])] [],.store none 2 (.t 6) (.t 22),.ay 7 (.c (.int .i64 2))]) .ret) .skip)) (.seq (.ops [.aj 23 (.t 4) 1,.load 24 none (.t 23),.call 25 120 [(.t 24)],.ay 9 (.t 25)]) (.seq (.seq (.ops [.ah 26 (.t 9),.len 27 (.t 26),.ah 28 (.c (.int .i64 0))])
    FP) (.seq (.ops [.aj 51 (.t 4) 0,.load 52 none (.t 51),.ah 53 (.t 9),.build 54 [(.int .i64 0),(.list 1 [])] [(0,1,(.t 52)),(1,1,(.t 53))],.store none 2 (.t 6) (.t 54),.ay 7 (.c (.int .i64 0))]) .ret))))))⟩
def Ar:dQ:=⟨2,52,[.cell 4 (some 2),.tmp 5],(.seq (.ops [.box 2 (.t 0),.box 3 (.t 1),.alloc 4 [(.int .i64 0),(.int .i64 0)],.ay 5 (.c (.int .i64 0))]) (.seq (.seq (.ops [.aj 7 (.t 3) 0,.load 8 none (.t 7),.bin 9 .lss (.t 8) (.c (.int .i64 0)),.ah 10 (.t 9),.grd 10 false (.aj 11 (.t 3) 1),.grd 10 false (.load 12 none (.t 11)),.grd 10 false (.bin 13 .lss (.t 12) (.c (.int .i64 1))),.pick 14 (.t 10) (.c (.bool true)) (.t 13),.ah 15 (.t 14),.grd 15 false (.aj 16 (.t 3) 0),.grd 15 false (.load 17 none (.t 16)),.grd 15 false (.aj 18 (.t 2) 0),.grd 15 false (.load 19 none (.t 18)),.grd 15 false (.bin 20 .geq (.t 17) (.t 19)),.pick 21 (.t 15) (.c (.bool true)) (.t 20),.ah 22 (.t 21),.grd 22 false (.aj 23 (.t 3) 1),.grd 22 false (.load 24 none (.t 23)),.grd 22 false (.aj 25 (.t 2) 0),.grd 22 false (.load 26 none (.t 25)),.grd 22 false (.aj 27 (.t 3) 0),.grd 22 false (.load 28 none (.t 27)),.grd 22 false (.bin 29 .sub (.t 26) (.t 28)),.grd 22 false (.bin 30 .gtr (.t 24) (.t 29)),.pick 31 (.t 22) (.c (.bool true)) (.t 30)]) (.cond (.t 31) (.seq (.ops [.build 32 [(.int .i64 0),(.int .i64 0)] [],.store none 2 (.t 4) (.t 32),.ay 5 (.c (.int .i64 2))]) .ret) .skip)) (.seq (.ops [.aj 33 (.t 3) 0,.load 34 none (.t 33),.aj 35 (.t 2) 1,.load 36 none (.t 35),.bin 37 .quo (.t 34) (.t 36),.ay 6 (.t 37)]) (.seq (.ops [.ah 38 (.t 6),.aj 39 (.t 3) 0,.load 40 none (.t 39),.aj 41 (.t 3) 1,.load 42 none (.t 41),.bin 43 .add (.t 40) (.t 42),.bin 44 .sub (.t 43) (.c (.int .i64 1)),.aj 45 (.t 2) 1,.load 46 none (.t 45),.bin 47 .quo (.t 44) (.t 46),.ah 48 (.t 6),.bin 49 .sub (.t 47) (.t 48),.bin 50 .add (.t 49) (.c (.int .i64 1)),.build 51 [(.int .i64 0),(.int .i64 0)] [(0,1,(.t 38)),(1,1,(.t 50))],.store none 2 (.t 4) (.t 51),.ay 5 (.c (.int .i64 0))]) .ret))))⟩
def wP:au:=(.seq (.ops [.bin 7 .lss (.t 6) (.t 5)]) (.seq (.cond (.t 7) .skip (.exit 0)) (.seq (.block 1 (.seq (.ops [.ah 8 (.t 6),.ay 3 (.t 8)]) (.seq (.ops [.ah 9 (.t 0),.aj 10 (.t 1) 0,.load 11 none (.t 10),.ah 12 (.t 3),.bin 13 .add (.t 11) (.t 12),.yield 14 (.t 9) [(.t 13)],.un 15 .not (.t 14)]) (.cond (.t 15) .ret .skip)))) (.ops [.bin 16 .add (.t 6) (.c (.int .i64 1)),.ah 6 (.t 16)]))))
def wQ:au :=
(.clean [0,1,5,6] [] (.block 0 (.loop [0,1,5,6] wP)))
def JD:dQ:=⟨2,17,[],(.seq (.ops [.aj 4 (.t 1) 1,.load 5 none (.t 4),.ah 6 (.c (.int .i64 0))])
 wQ)⟩
def JE:dQ:=⟨2,30,[.tmp 4,.tmp 5,.tmp 6],(.seq (.ops [.ay 4 (.c (.int .i64 0)),.ay 5 (.nil 1),.ay 6 (.c (.int .i64 0))]) (.seq (.ops [.ah 11 (.t 0),.build 12 [(.list 0 [])] [(0,1,(.t 11))],.box 13 (.t 12),.ay 7 (.t 13)]) (.seq (.ops [.ah 15 (.t 1),.ah 16 (.t 7),.linv 17 (.t 15) (.t 16) [],.ah 14 (.t 17),.ext 18 (.t 14) 0,.ext 19 (.t 14) 1,.ay 8 (.t 18),.ay 9 (.t 19)]) (.seq (.seq (.ops [.ah 20 (.t 9),.bin 21 .neq (.t 20) (.c (.int .i64 0))]) (.cond (.t 21) (.seq (.ops [.ay 10 (.c (.int .i64 0))]) (.seq (.ops [.ah 22 (.t 10),.ah 23 (.t 9),.ay 4 (.t 22),.ay 5 (.nil 1),.ay 6 (.t 23)]) .ret)) .skip)) (.seq (.ops [.ah 24 (.t 8),.ah 25 (.t 7),.aj 26 (.t 25) 0,.aj 27 (.t 26) 0,.load 28 none (.t 27),.call 29 245 [(.t 28)],.ay 4 (.t 24),.ay 5 (.t 29),.ay 6 (.c (.int .i64 0))]) .ret)))))⟩
def mP:au:=(.seq (.ops [.bin 8 .lss (.t 7) (.c (.int .i64 8))]) (.seq (.cond (.t 8) .skip (.exit 0)) (.seq (.block 1 (.seq (.ops [.ah 9 (.t 7),.ay 5 (.t 9)]) (.seq (.seq (.ops [.ah 10 (.t 5),.ah 11 (.t 0),.aj 12 (.t 11) 0,.aj 13 (.t 12) 0,.load 14 none (.t 13),.len 15 (.t 14),.bin 16 .geq (.t 10) (.t 15)]) (.cond (.t 16) (.seq (.ops [.ay 2 (.c (.int .i64 0)),.ay 3 (.c (.int .i64 10))]) .ret) .skip)) (.seq (.ops [.ah 17 (.t 0),.aj 18 (.t 17) 0,.aj 19 (.t 18) 0,.load 20 none (.t 19),.ah 21 (.t 5),.bG 22 1 (.t 20) (.t 21),.load 23 none (.t 22),.ay 6 (.t 23)]) (.seq (.ops [.ah 24 (.t 4),.ah 25 (.t 6),.bin 26 .and (.t 25) (.c (.int .u8 127)),.conv 27 .i64 (.t 26),.ah 28 (.t 5),.bin 29 .mul (.c (.int .i64 7)) (.t 28),.bin 30 .shl (.t 27) (.t 29),.bin 31 .or (.t 24) (.t 30),.ay 4 (.t 31)]) (.seq (.seq (.ops [.ah 32 (.t 6),.bin 33 .and (.t 32) (.c (.int .u8 128)),.bin 34 .neq (.t 33) (.c (.int .u8 0))]) (.cond (.t 34) (.exit 1) .skip)) (.seq (.seq (.ops [.ah 35 (.t 6),.bin 36 .eql (.t 35) (.c (.int .u8 0)),.ah 37 (.t 36),.grd 37 true (.ah 38 (.t 5)),.grd 37 true (.bin 39 .gtr (.t 38) (.c (.int .i64 0))),.pick 40 (.t 37) (.t 39) (.c (.bool false)),.ah 41 (.t 40),.grd 41 false (.ah 42 (.t 4)),.grd 41 false (.bin 43 .gtr (.t 42) (.c (.int .i64 9007199254740991))),.pick 44 (.t 41) (.c (.bool true)) (.t 43)]) (.cond (.t 44) (.seq (.ops [.ay 2 (.c (.int .i64 0)),.ay 3 (.c (.int .i64 3))]) .ret) .skip)) (.seq (.ops [.ah 45 (.t 0),.ah 46 (.t 0),.aj 47 (.t 46) 0,.aj 48 (.t 47) 0,.load 49 none (.t 48),.ah 50 (.t 5),.bin 51 .add (.t 50) (.c (.int .i64 1)),.Hz 52 1 (.t 49) (some (.t 51)) none,.aj 53 (.t 45) 0,.aj 54 (.t 53) 0,.store none 1 (.t 54) (.t 52)]) (.seq (.ops [.ah 55 (.t 4),.ay 2 (.t 55),.ay 3 (.c (.int .i64 0))]) .ret))))))))) (.ops [.bin 56 .add (.t 7) (.c (.int .i64 1)),.ah 7 (.t 56)]))))
def FT:au :=
(.clean [0,4,7] [2,3] (.block 0 (.loop [0,4,7] mP)))
def PE:dQ:=⟨1,57,[.tmp 2,.tmp 3],(.seq (.ops [.ay 2 (.c (.int .i64 0)),.ay 3 (.c (.int .i64 0))]) (.seq (.ops [.ay 4 (.c (.int .i64 0))]) (.seq (.seq (.ops [.ah 7 (.c (.int .i64 0))])
   FT) (.seq (.ops [.ay 2 (.c (.int .i64 0)),.ay 3 (.c (.int .i64 3))]) .ret))))⟩
def JF:dQ:=⟨2,30,[.tmp 4,.tmp 5,.tmp 6],(.seq (.ops [.ay 4 (.nil 2),.ay 5 (.nil 1),.ay 6 (.c (.int .i64 0))]) (.seq (.ops [.ah 11 (.t 0),.build 12 [(.list 0 [])] [(0,1,(.t 11))],.box 13 (.t 12),.ay 7 (.t 13)]) (.seq (.ops [.ah 15 (.t 1),.ah 16 (.t 7),.linv 17 (.t 15) (.t 16) [],.ah 14 (.t 17),.ext 18 (.t 14) 0,.ext 19 (.t 14) 1,.ay 8 (.t 18),.ay 9 (.t 19)]) (.seq (.seq (.ops [.ah 20 (.t 9),.bin 21 .neq (.t 20) (.c (.int .i64 0))]) (.cond (.t 21) (.seq (.ops [.ay 10 (.nil 2)]) (.seq (.ops [.ah 22 (.t 10),.ah 23 (.t 9),.ay 4 (.t 22),.ay 5 (.nil 1),.ay 6 (.t 23)]) .ret)) .skip)) (.seq (.ops [.ah 24 (.t 8),.ah 25 (.t 7),.aj 26 (.t 25) 0,.aj 27 (.t 26) 0,.load 28 none (.t 27),.call 29 245 [(.t 28)],.ay 4 (.t 24),.ay 5 (.t 29),.ay 6 (.c (.int .i64 0))]) .ret)))))⟩
def PG:dQ:=⟨1,8,[.tmp 2,.tmp 3],(.seq (.ops [.ay 2 (.nil 2),.ay 3 (.c (.int .i64 0))]) (.seq (.ops [.ah 4 (.t 0),.lin 5 241 (.t 4) [(.c (.func 242 []))],.ext 6 (.t 5) 0,.ext 7 (.t 5) 1,.ay 2 (.t 6),.ay 3 (.t 7)]) .ret))⟩
def Au:au:=(.seq (.ops [.bin 21 .lss (.t 20) (.t 19)]) (.seq (.cond (.t 21) .skip (.exit 0)) (.seq (.block 1 (.seq (.ops [.ah 23 (.t 1),.ah 24 (.t 0),.linv 25 (.t 23) (.t 24) [],.ah 22 (.t 25),.ext 26 (.t 22) 0,.ext 27 (.t 22) 1,.alloc 9 [(.int .i64 0),(.int .i64 0)],.store none 2 (.t 9) (.t 26),.ay 10 (.t 27)]) (.seq (.seq (.ops [.ah 28 (.t 10),.bin 29 .neq (.t 28) (.c (.int .i64 0))]) (.cond (.t 29) (.seq (.ops [.ah 30 (.t 10),.ay 4 (.nil 2),.ay 5 (.t 30)]) .ret) .skip)) (.ops [.ah 31 (.t 8),.load 32 (some 2) (.t 9),.eU 33 2 [(.t 32)],.app 34 2 (.t 31) (.t 33),.ay 8 (.t 34)])))) (.ops [.bin 35 .add (.t 20) (.c (.int .i64 1)),.ah 20 (.t 35)]))))
def FU:au :=
(.clean [0,1,8,19,20,34] [4,5,8] (.block 0 (.loop [0,1,8,19,20,34] Au)))
def PI:dQ:=⟨2,37,[.tmp 4,.tmp 5],(.seq (.ops [.ay 4 (.nil 2),.ay 5 (.c (.int .i64 0))]) (.seq (.ops [.ah 12 (.t 0),.lin 13 268 (.t 12) [],.ah 11 (.t 13),.ext 14 (.t 11) 0,.ext 15 (.t 11) 1,.ay 6 (.t 14),.ay 7 (.t 15)]) (.seq (.seq (.ops [.ah 16 (.t 7),.bin 17 .neq (.t 16) (.c (.int .i64 0))]) (.cond (.t 17) (.seq (.ops [.ah 18 (.t 7),.ay 4 (.nil 2),.ay 5 (.t 18)]) .ret) .skip)) (.seq (.ops [.ay 8 (.nil 2)]) (.seq (.seq (.ops [.ah 19 (.t 6),.ah 20 (.c (.int .i64 0))])
    FU) (.seq (.ops [.ah 36 (.t 8),.ay 4 (.t 36),.ay 5 (.c (.int .i64 0))]) .ret))))))⟩
def PK:dQ:=⟨1,17,[.cell 2 (some 2),.tmp 3],(.seq (.ops [.alloc 2 [(.int .i64 0),(.int .i64 0)],.ay 3 (.c (.int .i64 0))]) (.seq (.ops [.ah 8 (.t 0),.lin 9 269 (.t 8) [],.ah 7 (.t 9),.ext 10 (.t 7) 0,.ext 11 (.t 7) 1,.ext 12 (.t 7) 2,.ay 4 (.t 10),.ay 5 (.t 11),.ay 6 (.t 12)]) (.seq (.ops [.ah 13 (.t 4),.ah 14 (.t 5),.build 15 [(.int .i64 0),(.int .i64 0)] [(0,1,(.t 13)),(1,1,(.t 14))],.ah 16 (.t 6),.store none 2 (.t 2) (.t 15),.ay 3 (.t 16)]) .ret)))⟩
def PL:dQ:=⟨2,9,[.tmp 4],(.seq (.ops [.ay 4 (.c (.bool false))]) (.seq (.ops [.ah 5 (.t 0),.ah 6 (.t 5),.grd 6 false (.ah 7 (.t 1)),.pick 8 (.t 6) (.c (.bool true)) (.t 7),.ay 4 (.t 8)]) .ret))⟩
def FV:au:=(.seq (.seq (.ops [.ah 11 (.t 1),.bin 12 .geq (.t 11) (.c (.int .i64 128))]) (.cond (.t 12) .skip (.exit 0))) (.seq (.block 1 (.ops [.ah 15 (.t 0),.ah 16 (.t 1),.bin 17 .rem (.t 16) (.c (.int .i64 128)),.conv 18 .u8 (.t 17),.bin 19 .or (.t 18) (.c (.int .u8 128)),.eU 20 1 [(.t 19)],.app 21 1 (.t 15) (.t 20),.ay 0 (.t 21)])) (.ops [.ah 13 (.t 1),.bin 14 .quo (.t 13) (.c (.int .i64 128)),.ay 1 (.t 14)])))
def FW:au :=
(.clean [0,1,21] [0,1,4] (.block 0 (.loop [0,1,21] FV)))
def FX:dQ:=⟨2,27,[.tmp 4],(.seq (.ops [.ay 4 (.nil 1)]) (.seq (.seq (.ops [.ah 5 (.t 1),.bin 6 .lss (.t 5) (.c (.int .i64 0)),.ah 7 (.t 6),.grd 7 false (.ah 8 (.t 1)),.grd 7 false (.bin 9 .gtr (.t 8) (.c (.int .i64 9007199254740991))),.pick 10 (.t 7) (.c (.bool true)) (.t 9)]) (.cond (.t 10) (.ops [.ay 1 (.c (.int .i64 0))]) .skip)) (.seq
  FW (.seq (.ops [.ah 22 (.t 0),.ah 23 (.t 1),.conv 24 .u8 (.t 23),.eU 25 1 [(.t 24)],.app 26 1 (.t 22) (.t 25),.ay 4 (.t 26)]) .ret))))⟩
def Vp:dQ:=⟨1,8,[.tmp 2],(.seq (.ops [.ay 2 (.nil 1)]) (.seq (.seq (.ops [.ah 3 (.t 0),.QX 4 false (.t 3)]) (.cond (.t 4) (.seq (.ops [.ay 2 (.nil 1)]) .ret) .skip)) (.seq (.ops [.eU 5 1 [],.ah 6 (.t 0),.app 7 1 (.t 5) (.t 6),.ay 2 (.t 7)]) .ret)))⟩
def FY:au:=(.seq (.ops [.bin 16 .lss (.t 15) (.t 14)]) (.seq (.cond (.t 16) .skip (.exit 0)) (.seq (.block 1 (.seq (.ops [.bG 17 2 (.t 13) (.t 15),.load 18 (some 2) (.t 17),.alloc 8 [(.int .i64 0),(.int .i64 0)],.store none 2 (.t 8) (.t 18)]) (.ops [.ah 19 (.t 2),.ah 20 (.t 0),.load 21 (some 2) (.t 8),.linv 22 (.t 19) (.t 20) [(.t 21)],.ay 0 (.t 22)]))) (.ops [.bin 23 .add (.t 15) (.c (.int .i64 1)),.ah 15 (.t 23)]))))
def FZ:au :=
(.clean [0,1,2,12,13,14,15,22] [0,6] (.block 0 (.loop [0,1,2,12,13,14,15,22] FY)))
def PN:dQ:=⟨3,25,[.tmp 6],(.seq (.ops [.ay 6 (.nil 1)]) (.seq (.ops [.ah 9 (.t 0),.ah 10 (.t 1),.len 11 (.t 10),.lin 12 244 (.t 9) [(.t 11)],.ay 0 (.t 12)]) (.seq (.seq (.ops [.ah 13 (.t 1),.len 14 (.t 13),.ah 15 (.c (.int .i64 0))])
   FZ) (.seq (.ops [.ah 24 (.t 0),.ay 6 (.t 24)]) .ret))))⟩
def PO:dQ:=⟨2,12,[.tmp 4],(.seq (.ops [.box 3 (.t 1),.ay 4 (.nil 1)]) (.seq (.qp [(.t 3)] [] (some ([0,1,2],[4,5],3,[([],6)])) [7] [.ah 5 (.t 0),.aj 6 (.t 3) 0,.load 7 none (.t 6),.aj 9 (.t 3) 1,.Nl 10 none (.t 9),.lin 8 244 (.t 5) [(.t 7)],.lin 11 244 (.t 8) [(.t 10)],.ay 4 (.t 11)]) .ret))⟩
def ac2:dQ:=⟨1,5,[.tmp 2],(.seq (.ops [.box 1 (.t 0),.ay 2 (.c (.int .u64 0))]) (.seq (.ops [.IQ 3 270 [(.t 1)],.call 4 185 [(.t 3)],.ay 2 (.t 4)]) .ret))⟩
def ac3:au:=(.seq (.ops [.bin 9 .lss (.t 8) (.t 7)]) (.seq (.cond (.t 9) .skip (.exit 0)) (.seq (.block 1 (.seq (.ops [.ah 10 (.t 8),.ay 5 (.t 10)]) (.seq (.ops [.ah 11 (.t 1),.ah 12 (.t 0),.ah 13 (.t 5),.bG 14 1 (.t 12) (.t 13),.load 15 none (.t 14),.Wp 16 false (.t 11) (.t 15)]) (.cond (.t 16) (.seq (.ops [.ah 17 (.t 5),.ay 4 (.t 17)]) .ret) .skip)))) (.ops [.bin 18 .add (.t 8) (.c (.int .i64 1)),.ah 8 (.t 18)]))))
def ac4:au :=
(.clean [0,1,7,8] [4] (.block 0 (.loop [0,1,7,8] ac3)))
def ac5:dQ:=⟨2,19,[.tmp 4],(.seq (.ops [.ay 4 (.c (.int .i64 0))]) (.seq (.seq (.ops [.ah 6 (.t 0),.len 7 (.t 6),.ah 8 (.c (.int .i64 0))])
  ac4) (.seq (.ops [.ay 4 (.c (.int .i64 (-1)))]) .ret)))⟩
def PS:dQ:=⟨2,12,[.cell 4 (some 2),.tmp 5],(.seq (.ops [.box 2 (.t 0),.box 3 (.t 1),.alloc 4 [(.int .i64 0),(.list 1 [])],.ay 5 (.c (.int .i64 0))]) (.seq (.ops [.build 6 [.o7] [(0,1,(.c (.func 272 [])))],.load 7 (some 2) (.t 2),.load 8 (some 2) (.t 3),.call 9 234 [(.t 6),(.t 7),(.t 8)],.ext 10 (.t 9) 0,.ext 11 (.t 9) 1,.store none 2 (.t 4) (.t 10),.ay 5 (.t 11)]) .ret))⟩
def JG:dQ:=⟨1,8,[.tmp 2,.tmp 3],(.seq (.ops [.ay 2 (.c (.int .i64 0)),.ay 3 (.c (.int .i64 0))]) (.seq (.seq (.ops [.ah 4 (.t 0),.bin 5 .eql (.t 4) (.c (.int .i64 0))]) (.cond (.t 5) (.seq (.ops [.ay 2 (.c (.int .i64 0)),.ay 3 (.c (.int .i64 12))]) .ret) .skip)) (.seq (.ops [.ah 6 (.t 0),.bin 7 .sub (.t 6) (.c (.int .i64 1)),.ay 2 (.t 7),.ay 3 (.c (.int .i64 0))]) .ret)))⟩
def PU:au:=(.ops [.alloc 5 [(.int .i64 0),(.int .i64 0)],.store none 2 (.t 5) (.t 7)])
def PX:au:=(.block 1 (.ops [.load 8 none (.t 2),.load 9 (some 2) (.t 5),.eU 10 2 [(.t 9)],.app 11 2 (.t 8) (.t 10),.store none 1 (.t 2) (.t 11)]))
def PY:dQ:=⟨2,13,[.tmp 4],(.seq (.ops [.box 2 (.t 0),.ay 4 (.nil 2)]) (.seq (.seq (.ops [.ah 6 (.t 1)]) (.block 0 (.rng (.t 6) [7] PU PX))) (.seq (.ops [.load 12 none (.t 2),.ay 4 (.t 12)]) .ret)))⟩
def oC:au:=(.seq (.ops [.bin 19 .lss (.t 18) (.t 17)]) (.seq (.cond (.t 19) .skip (.exit 0)) (.seq (.block 1 (.seq (.ops [.ah 20 (.t 18),.bG 21 3 (.t 16) (.t 18),.load 22 (some 3) (.t 21),.alloc 10 [(.int .i64 0),(.int .i64 0),(.int .i64 0)],.ay 9 (.t 20),.store none 3 (.t 10) (.t 22)]) (.seq (.qp [] [] (some ([0,1,2,3,4,5,6,7],[],8,[])) [] [.aj 23 (.t 10) 1,.load 24 none (.t 23),.vH 25 (.t 6) (.t 24) 2 1,.load 26 none (.t 25),.aj 27 (.t 10) 2,.load 28 none (.t 27),.bin 29 .add (.t 26) (.t 28),.vH 30 (.t 6) (.t 24) 2 1,.store none 1 (.t 30) (.t 29)]) (.seq (.seq (.qp [] [] none [0,1,2,3,4,5,6,7,8,9,10,11,12,13,14,15] [.ah 31 (.t 9),.bin 32 .add (.t 31) (.c (.int .i64 1)),.ah 33 (.t 5),.len 34 (.t 33),.bin 35 .lss (.t 32) (.t 34),.ah 36 (.t 35),.grd 36 true (.ah 37 (.t 5)),.grd 36 true (.ah 38 (.t 9)),.grd 36 true (.bin 39 .add (.t 38) (.c (.int .i64 1))),.grd 36 true (.bG 40 3 (.t 37) (.t 39)),.grd 36 true (.aj 41 (.t 40) 0),.grd 36 true (.load 42 none (.t 41)),.grd 36 true (.aj 43 (.t 10) 0),.grd 36 true (.load 44 none (.t 43)),.grd 36 true (.bin 45 .eql (.t 42) (.t 44)),.pick 46 (.t 36) (.t 45) (.c (.bool false))]) (.cond (.t 46) (.exit 1) .skip)) (.seq (.ops [.load 47 none (.t 3),.vH 48 (.t 6) (.c (.int .i64 0)) 2 1,.load 49 none (.t 48),.bin 50 .gtr (.t 49) (.c (.int .i64 0)),.vH 51 (.t 6) (.c (.int .i64 1)) 2 1,.load 52 none (.t 51),.bin 53 .gtr (.t 52) (.c (.int .i64 0)),.kL 54 (.t 47) [(.t 50),(.t 53)],.ay 11 (.t 54)]) (.seq (.seq (.ops [.ah 55 (.t 11),.ah 56 (.t 55),.grd 56 true (.ah 57 (.t 8)),.grd 56 true (.un 58 .not (.t 57)),.pick 59 (.t 56) (.t 58) (.c (.bool false))]) (.cond (.t 59) (.ops [.aj 60 (.t 10) 0,.load 61 none (.t 60),.ay 7 (.t 61)]) .skip)) (.seq (.seq (.ops [.ah 62 (.t 11),.un 63 .not (.t 62),.ah 64 (.t 63),.grd 64 true (.ah 65 (.t 8)),.pick 66 (.t 64) (.t 65) (.c (.bool false)),.ah 67 (.t 66),.grd 67 true (.ah 68 (.t 0)),.grd 67 true (.ah 69 (.t 7)),.grd 67 true (.aj 70 (.t 10) 0),.grd 67 true (.load 71 none (.t 70)),.grd 67 true (.ah 72 (.t 7)),.grd 67 true (.bin 73 .sub (.t 71) (.t 72)),.grd 67 true (.build 74 [(.int .i64 0),(.int .i64 0)] [(0,1,(.t 69)),(1,1,(.t 73))]),.grd 67 true (.yield 75 (.t 68) [(.t 74)]),.grd 67 true (.un 76 .not (.t 75)),.pick 77 (.t 67) (.t 76) (.c (.bool false))]) (.cond (.t 77) .ret .skip)) (.ops [.ah 78 (.t 11),.ay 8 (.t 78)])))))))) (.ops [.bin 79 .add (.t 18) (.c (.int .i64 1)),.ah 18 (.t 79)]))))
def Gf:au :=
(.clean [0,3,5,6,7,8,15,16,17,18] [] (.block 0 (.loop [0,3,5,6,7,8,15,16,17,18] oC)))
def PZ:dQ:=⟨4,80,[],(.seq (.ops [.load 12 none (.t 1),.load 13 none (.t 2),.eU 14 1 [(.t 12),(.t 13)],.call 15 257 [(.t 14)],.ay 5 (.t 15)]) (.seq (.ops [.alloc 6 [(.int .i64 0),(.int .i64 0)]]) (.seq (.ops [.ay 7 (.c (.int .i64 0)),.ay 8 (.c (.bool false))]) (.seq (.ops [.ah 16 (.t 5),.len 17 (.t 16),.ah 18 (.c (.int .i64 0))])
   Gf))))⟩
def Aw:au:=(.seq (.ops [.bin 21 .lss (.t 20) (.t 19)]) (.seq (.cond (.t 21) .skip (.exit 2)) (.seq (.block 3 (.seq (.ops [.bG 22 2 (.t 18) (.t 20),.load 23 (some 2) (.t 22),.alloc 7 [(.int .i64 0),(.int .i64 0)],.store none 2 (.t 7) (.t 23)]) (.seq (.ops [.load 25 (some 2) (.t 7),.call 26 273 [(.t 25)],.ah 24 (.t 26),.ext 27 (.t 24) 0,.ext 28 (.t 24) 1,.ext 29 (.t 24) 2,.ay 8 (.t 27),.ay 9 (.t 28),.ay 10 (.t 29)]) (.seq (.ops [.ah 30 (.t 10)]) (.cond (.t 30) (.ops [.ah 31 (.t 3),.ah 32 (.t 8),.ah 33 (.t 4),.build 34 [(.int .i64 0),(.int .i64 0),(.int .i64 0)] [(0,1,(.t 32)),(1,1,(.t 33)),(2,1,(.c (.int .i64 1)))],.ah 35 (.t 9),.ah 36 (.t 4),.build 37 [(.int .i64 0),(.int .i64 0),(.int .i64 0)] [(0,1,(.t 35)),(1,1,(.t 36)),(2,1,(.c (.int .i64 (-1))))],.eU 38 3 [(.t 34),(.t 37)],.app 39 3 (.t 31) (.t 38),.ay 3 (.t 39)]) .skip))))) (.ops [.bin 40 .add (.t 20) (.c (.int .i64 1)),.ah 20 (.t 40)]))))
def Gg:au :=
(.clean [0,3,4,5,11,12,13,17,18,19,20,39] [0,2,3,11,12,13,39] (.block 2 (.loop [0,3,4,5,11,12,13,17,18,19,20,39] Aw)))
def Gh:au:=(.seq (.ops [.bin 14 .lss (.t 13) (.t 12)]) (.seq (.cond (.t 14) .skip (.exit 0)) (.seq (.block 1 (.seq (.ops [.ah 15 (.t 13),.bG 16 1 (.t 11) (.t 13),.load 17 none (.t 16),.ay 4 (.t 15),.ay 5 (.t 17)]) (.seq (.ops [.ah 18 (.t 5),.len 19 (.t 18),.ah 20 (.c (.int .i64 0))])
    Gg))) (.ops [.bin 41 .add (.t 13) (.c (.int .i64 1)),.ah 13 (.t 41)]))))
def Gi:au :=
(.clean [0,3,11,12,13,39] [2,3] (.block 0 (.loop [0,3,11,12,13,39] Gh)))
def P6:dQ:=⟨1,45,[.tmp 2],(.seq (.ops [.ay 2 (.nil 3)]) (.seq (.ops [.ay 3 (.nil 3)]) (.seq (.seq (.ops [.ah 11 (.t 0),.len 12 (.t 11),.ah 13 (.c (.int .i64 0))])
   Gi) (.seq (.ops [.ah 42 (.t 3),.Hw 43 274 (.t 42) (.c (.func 275 []))]) (.seq (.ops [.ah 44 (.t 3),.ay 2 (.t 44)]) .ret)))))⟩
def Gj:au:=(.seq (.seq (.ops [.ah 24 (.t 5),.bin 25 .neq (.t 24) (.c (.int .u64 0))]) (.cond (.t 25) .skip (.exit 2))) (.block 3 (.seq (.seq (.ops [.ah 26 (.t 0),.ah 27 (.t 4),.bin 28 .mul (.t 27) (.c (.int .i64 64)),.ah 29 (.t 5),.call 30 264 [(.t 29)],.bin 31 .add (.t 28) (.t 30),.yield 32 (.t 26) [(.t 31)],.un 33 .not (.t 32)]) (.cond (.t 33) .ret .skip)) (.ops [.ah 34 (.t 5),.ah 35 (.t 5),.bin 36 .sub (.t 35) (.c (.int .u64 1)),.bin 37 .and (.t 34) (.t 36),.ay 5 (.t 37)]))))
def Gl:au :=
(.clean [0,1,2,4,5,10,11,12] [0,1,2,10,11,12] (.block 2 (.loop [0,1,2,4,5,10,11,12] Gj)))
def Gm:au:=(.seq (.ops [.bin 13 .lss (.t 12) (.t 11)]) (.seq (.cond (.t 13) .skip (.exit 0)) (.seq (.block 1 (.seq (.ops [.ah 14 (.t 12),.bG 15 1 (.t 10) (.t 12),.load 16 none (.t 15),.ay 4 (.t 14),.ay 5 (.t 16)]) (.seq (.ops [.ah 17 (.t 5),.ah 18 (.t 4),.load 19 none (.t 2),.aj 20 (.t 1) 0,.load 21 none (.t 20),.call 22 263 [(.t 18),(.t 19),(.t 21)],.bin 23 .and (.t 17) (.t 22),.ay 5 (.t 23)])
    Gl))) (.ops [.bin 38 .add (.t 12) (.c (.int .i64 1)),.ah 12 (.t 38)]))))
def Gn:au :=
(.clean [0,1,2,10,11,12] [] (.block 0 (.loop [0,1,2,10,11,12] Gm)))
def P7:dQ:=⟨3,39,[],(.seq (.seq (.ops [.load 6 (some 2) (.t 1),.call 7 161 [(.t 6)],.bin 8 .neq (.t 7) (.c (.int .i64 0))]) (.cond (.t 8) .ret .skip)) (.seq (.ops [.aj 9 (.t 1) 1,.load 10 none (.t 9),.len 11 (.t 10),.ah 12 (.c (.int .i64 0))])
  Gn))⟩
def JH:dQ:=⟨3,27,[.tmp 6],(.seq (.ops [.ay 6 (.c (.int .u64 0))]) (.seq (.ops [.ah 7 (.t 1),.ah 8 (.t 0),.bin 9 .mul (.t 8) (.c (.int .i64 64)),.bin 10 .sub (.t 7) (.t 9),.mn 11 true (.t 10) (.c (.int .i64 0)),.ah 12 (.t 2),.ah 13 (.t 0),.bin 14 .mul (.t 13) (.c (.int .i64 64)),.bin 15 .sub (.t 12) (.t 14),.mn 16 false (.t 15) (.c (.int .i64 64)),.ay 1 (.t 11),.ay 2 (.t 16)]) (.seq (.seq (.ops [.ah 17 (.t 1),.ah 18 (.t 2),.bin 19 .geq (.t 17) (.t 18)]) (.cond (.t 19) (.seq (.ops [.ay 6 (.c (.int .u64 0))]) .ret) .skip)) (.seq (.ops [.ah 20 (.t 2),.ah 21 (.t 1),.bin 22 .sub (.t 20) (.t 21),.bin 23 .sub (.c (.int .i64 64)) (.t 22),.bin 24 .shr (.c (.int .u64 18446744073709551615)) (.t 23),.ah 25 (.t 1),.bin 26 .shl (.t 24) (.t 25),.ay 6 (.t 26)]) .ret))))⟩
def ac6:au:=(.seq (.ops [.bin 9 .lss (.t 8) (.t 7)]) (.seq (.cond (.t 9) .skip (.exit 0)) (.seq (.block 1 (.seq (.ops [.ah 10 (.t 8),.ay 5 (.t 10)]) (.seq (.ops [.ah 11 (.t 1),.ah 12 (.t 0),.ah 13 (.t 5),.bG 14 1 (.t 12) (.t 13),.load 15 none (.t 14),.kL 16 (.t 11) [(.t 15)]]) (.cond (.t 16) (.seq (.ops [.ah 17 (.t 5),.ay 4 (.t 17)]) .ret) .skip)))) (.ops [.bin 18 .add (.t 8) (.c (.int .i64 1)),.ah 8 (.t 18)]))))
def ac7:au :=
(.clean [0,1,7,8] [4] (.block 0 (.loop [0,1,7,8] ac6)))
def ac8:dQ:=⟨2,19,[.tmp 4],(.seq (.ops [.ay 4 (.c (.int .i64 0))]) (.seq (.seq (.ops [.ah 6 (.t 0),.len 7 (.t 6),.ah 8 (.c (.int .i64 0))])
  ac7) (.seq (.ops [.ay 4 (.c (.int .i64 (-1)))]) .ret)))⟩
def Dy:dQ:=⟨2,28,[.tmp 4],(.seq (.ops [.box 2 (.t 0),.ay 4 (.c (.bool false))]) (.seq (.ops [.aj 5 (.t 2) 0,.load 6 none (.t 5),.bin 7 .geq (.t 6) (.c (.int .i64 0)),.ah 8 (.t 7),.grd 8 true (.aj 9 (.t 2) 1),.grd 8 true (.load 10 none (.t 9)),.grd 8 true (.bin 11 .geq (.t 10) (.c (.int .i64 0))),.pick 12 (.t 8) (.t 11) (.c (.bool false)),.ah 13 (.t 12),.grd 13 true (.aj 14 (.t 2) 0),.grd 13 true (.load 15 none (.t 14)),.grd 13 true (.ah 16 (.t 1)),.grd 13 true (.bin 17 .leq (.t 15) (.t 16)),.pick 18 (.t 13) (.t 17) (.c (.bool false)),.ah 19 (.t 18),.grd 19 true (.aj 20 (.t 2) 1),.grd 19 true (.load 21 none (.t 20)),.grd 19 true (.ah 22 (.t 1)),.grd 19 true (.aj 23 (.t 2) 0),.grd 19 true (.load 24 none (.t 23)),.grd 19 true (.bin 25 .sub (.t 22) (.t 24)),.grd 19 true (.bin 26 .leq (.t 21) (.t 25)),.pick 27 (.t 19) (.t 26) (.c (.bool false)),.ay 4 (.t 27)]) .ret))⟩
def P8:dQ:=⟨1,19,[.tmp 2,.tmp 3],(.seq (.ops [.ay 2 (.c (.int .i64 0)),.ay 3 (.c (.int .i64 0))]) (.seq (.ops [.ah 7 (.t 0),.lin 8 238 (.t 7) [],.ah 6 (.t 8),.ext 9 (.t 6) 0,.ext 10 (.t 6) 1,.ay 4 (.t 9),.ay 5 (.t 10)]) (.seq (.seq (.ops [.ah 11 (.t 5),.bin 12 .eql (.t 11) (.c (.int .i64 0)),.ah 13 (.t 12),.grd 13 true (.ah 14 (.t 4)),.grd 13 true (.bin 15 .gtr (.t 14) (.c (.int .i64 65536))),.pick 16 (.t 13) (.t 15) (.c (.bool false))]) (.cond (.t 16) (.ops [.ay 5 (.c (.int .i64 5))]) .skip)) (.seq (.ops [.ah 17 (.t 4),.ah 18 (.t 5),.ay 2 (.t 17),.ay 3 (.t 18)]) .ret))))⟩
def P9:dQ:=⟨1,24,[.tmp 2,.tmp 3,.tmp 4],(.seq (.ops [.ay 2 (.c (.int .i64 0)),.ay 3 (.c (.int .i64 0)),.ay 4 (.c (.int .i64 0))]) (.seq (.ops [.ah 9 (.t 0),.lin 10 238 (.t 9) [],.ah 8 (.t 10),.ext 11 (.t 8) 0,.ext 12 (.t 8) 1,.ay 5 (.t 11),.ay 6 (.t 12)]) (.seq (.seq (.ops [.ah 13 (.t 6),.bin 14 .neq (.t 13) (.c (.int .i64 0))]) (.cond (.t 14) (.seq (.ops [.ah 15 (.t 6),.ay 2 (.c (.int .i64 0)),.ay 3 (.c (.int .i64 0)),.ay 4 (.t 15)]) .ret) .skip)) (.seq (.ops [.ah 17 (.t 0),.lin 18 238 (.t 17) [],.ah 16 (.t 18),.ext 19 (.t 16) 0,.ext 20 (.t 16) 1,.ay 7 (.t 19),.ay 6 (.t 20)]) (.seq (.ops [.ah 21 (.t 5),.ah 22 (.t 7),.ah 23 (.t 6),.ay 2 (.t 21),.ay 3 (.t 22),.ay 4 (.t 23)]) .ret)))))⟩
def ac9:au:=(.seq (.ops [.bin 8 .lss (.t 7) (.t 6)]) (.seq (.cond (.t 8) .skip (.exit 0)) (.seq (.block 1 (.seq (.ops [.bG 9 1 (.t 5) (.t 7),.load 10 none (.t 9),.ay 4 (.t 10)]) (.seq (.ops [.ah 11 (.t 0),.ah 12 (.t 4),.yield 13 (.t 11) [(.t 12)],.un 14 .not (.t 13)]) (.cond (.t 14) .ret .skip)))) (.ops [.bin 15 .add (.t 7) (.c (.int .i64 1)),.ah 7 (.t 15)]))))
def ada:au :=
(.clean [0,5,6,7] [] (.block 0 (.loop [0,5,6,7] ac9)))
def adb:dQ:=⟨2,16,[],(.seq (.ops [.load 5 none (.t 1),.len 6 (.t 5),.ah 7 (.c (.int .i64 0))])
 ada)⟩
def Qc:dQ:=⟨2,8,[.tmp 4],(.seq (.ops [.ay 4 (.c (.int .u64 0))]) (.seq (.ops [.ah 5 (.t 0),.ah 6 (.t 1),.bin 7 .andNot (.t 5) (.t 6),.ay 4 (.t 7)]) .ret))⟩
def Dz:dQ:=⟨1,35,[.tmp 2,.tmp 3,.tmp 4],(.seq (.ops [.box 1 (.t 0),.ay 2 (.c (.int .i64 0)),.ay 3 (.c (.int .i64 0)),.ay 4 (.c (.bool false))]) (.seq (.seq (.ops [.aj 7 (.t 1) 1,.load 8 none (.t 7),.bin 9 .leq (.t 8) (.c (.int .i64 0))]) (.cond (.t 9) (.seq (.ops [.ay 2 (.c (.int .i64 0)),.ay 3 (.c (.int .i64 0)),.ay 4 (.c (.bool false))]) .ret) .skip)) (.seq (.ops [.aj 10 (.t 1) 0,.load 11 none (.t 10),.mn 12 true (.t 11) (.c (.int .i64 0)),.ay 5 (.t 12),.ay 6 (.c (.int .i64 4096))]) (.seq (.seq (.ops [.aj 13 (.t 1) 0,.load 14 none (.t 13),.bin 15 .lss (.t 14) (.c (.int .i64 0)),.ah 16 (.t 15),.grd 16 false (.aj 17 (.t 1) 1),.grd 16 false (.load 18 none (.t 17)),.grd 16 false (.aj 19 (.t 1) 0),.grd 16 false (.load 20 none (.t 19)),.grd 16 false (.bin 21 .sub (.c (.int .i64 4096)) (.t 20)),.grd 16 false (.bin 22 .lss (.t 18) (.t 21)),.pick 23 (.t 16) (.c (.bool true)) (.t 22)]) (.cond (.t 23) (.ops [.aj 24 (.t 1) 0,.load 25 none (.t 24),.aj 26 (.t 1) 1,.load 27 none (.t 26),.bin 28 .add (.t 25) (.t 27),.mn 29 false (.t 28) (.c (.int .i64 4096)),.ay 6 (.t 29)]) .skip)) (.seq (.ops [.ah 30 (.t 5),.ah 31 (.t 6),.ah 32 (.t 5),.ah 33 (.t 6),.bin 34 .lss (.t 32) (.t 33),.ay 2 (.t 30),.ay 3 (.t 31),.ay 4 (.t 34)]) .ret)))))⟩
def ade:dQ:=⟨2,10,[.tmp 4],(.seq (.ops [.box 2 (.t 0),.box 3 (.t 1),.ay 4 (.c (.int .i64 0))]) (.seq (.ops [.aj 5 (.t 2) 0,.load 6 none (.t 5),.aj 7 (.t 3) 0,.load 8 none (.t 7),.call 9 276 [(.t 6),(.t 8)],.ay 4 (.t 9)]) .ret))⟩
def adf:dQ:=⟨2,20,[.tmp 4],(.seq (.ops [.ay 4 (.c (.int .i64 0))]) (.seq (.ops [.ah 7 (.t 0),.call 8 281 [(.t 7)],.ay 5 (.t 8)]) (.seq (.ops [.ah 9 (.t 1),.call 10 281 [(.t 9)],.ay 6 (.t 10)]) (.seq (.seq (.ops [.ah 11 (.t 5)]) (.cond (.t 11) (.seq (.seq (.ops [.ah 12 (.t 6)]) (.cond (.t 12) (.seq (.ops [.ay 4 (.c (.int .i64 0))]) .ret) .skip)) (.seq (.ops [.ay 4 (.c (.int .i64 (-1)))]) .ret)) .skip)) (.seq (.seq (.ops [.ah 13 (.t 6)]) (.cond (.t 13) (.seq (.ops [.ay 4 (.c (.int .i64 1))]) .ret) .skip)) (.seq (.seq (.ops [.ah 14 (.t 0),.ah 15 (.t 1),.bin 16 .lss (.t 14) (.t 15)]) (.cond (.t 16) (.seq (.ops [.ay 4 (.c (.int .i64 (-1)))]) .ret) .skip)) (.seq (.seq (.ops [.ah 17 (.t 0),.ah 18 (.t 1),.bin 19 .gtr (.t 17) (.t 18)]) (.cond (.t 19) (.seq (.ops [.ay 4 (.c (.int .i64 1))]) .ret) .skip)) (.seq (.ops [.ay 4 (.c (.int .i64 0))]) .ret))))))))⟩
def adg:dQ:=⟨1,6,[.tmp 2],(.seq (.ops [.ay 2 (.c (.bool false))]) (.seq (.ops [.ah 3 (.t 0),.ah 4 (.t 0),.bin 5 .neq (.t 3) (.t 4),.ay 2 (.t 5)]) .ret))⟩
def tab:List (Nat×ZF):=[(7,.code fn7),(22,.code abx),(24,.code aby),(26,.code akb),(27,.code akc),(28,.code akd),(30,.code ake),(31,.code akf),(32,.code akg),(39,.ext uN),(43,.code akh),(44,.code abz),(45,.code abA),(52,.code Yf),(76,.code aki),(85,.code abB),(87,.code Yg),(88,.code Yh),(89,.code BL),(90,.code Yi),(91,.code akj),(92,.code akk),(93,.code akl),(94,.code akm),(95,.code akn),(96,.code ako),(97,.code akp),(98,.code akq),(99,.code akr),(100,.code abE),(101,.code abI),(102,.code abL),(103,.code abM),(104,.code abR),(105,.code abS),(106,.code Fv),(107,.ext (jo 1)),(108,.code abT),(109,.code abW),(116,.code FB),(120,.ext (jo 1)),(131,.code abX),(132,.code abY),(133,.ext (jo 8)),(134,.code qL),(143,.code O6),(154,.code O7),(161,.code yJ),(165,.code abZ),(166,.code ab1),(169,.code FH),(170,.code O8),(172,.code Dv),(173,.code O9),(174,.code Dw),(175,.code JA),(176,.code Pg),(177,.code Dx),(178,.code Ph),(179,.code Pj),(180,.code Pm),(181,.code Aq),(182,.code Pn),(183,.code Po),(184,.code ab4),(185,.code ab7),(186,.code acf),(187,.code aci),(188,.code aco),(189,.code acp),(190,.code acu),(191,.code acy),(192,.code acB),(193,.code acC),(194,.code acD),(195,.code acG),(196,.code acL),(206,.code acO),(207,.code acP),(208,.code acQ),(209,.code acV),(210,.code JB),(211,.code JC),(212,.code Pq),(213,.code Pv),(214,.code Px),(219,.code Py),(222,.code Pz),(223,.code acW),(227,.code acX),(228,.code ac0),(229,.code ac1),(233,.code PD),(234,.code FQ),(235,.code Ar),(236,.code JD),(237,.code JE),(238,.code PE),(239,.code JF),(240,.code PG),(241,.code PI),(242,.code PK),(243,.code PL),(244,.code FX),(245,.ext (jo 1)),(246,.code PN),(247,.code PO),(248,.code ac2),(252,.code ac5),(253,.code PS),(254,.code JG),(255,.code PY),(256,.code PZ),(257,.code P6),(262,.code P7),(263,.code JH),(264,.ext tzX),(266,.code ac8),(267,.code Dy),(268,.code P8),(269,.code P9),(270,.code adb),(272,.code Qc),(273,.code Dz),(274,.Hw (lQ 275)),(275,.code ade),(276,.code adf),(281,.code adg)]
def env:Env:=fun f=>tab.lookup f
theorem anq:env 22=some (.code abx):=rfl
theorem anr:env 24=some (.code aby):=rfl
theorem ant:env 39=some (.ext uN):=rfl
theorem anu:env 44=some (.code abz):=rfl
theorem anv:env 45=some (.code abA):=rfl
theorem ai6:env 52=some (.code Yf):=rfl
theorem anw:env 85=some (.code abB):=rfl
theorem ai7:env 87=some (.code Yg):=rfl
theorem ai8:env 88=some (.code Yh):=rfl
theorem Az:env 89=some (.code BL):=rfl
theorem ai9:env 90=some (.code Yi):=rfl
theorem Ul:env 106=some (.code Fv):=rfl
theorem aks:env 107=some (.ext (jo 1)):=rfl
theorem Um:env 116=some (.code FB):=rfl
theorem akt:env 120=some (.ext (jo 1)):=rfl
theorem qN:env 134=some (.code qL):=rfl
theorem aku:env 143=some (.code O6):=rfl
theorem akv:env 154=some (.code O7):=rfl
theorem BM:env 161=some (.code yJ):=rfl
theorem Un:env 169=some (.code FH):=rfl
theorem akw:env 170=some (.code O8):=rfl
theorem LQ:env 172=some (.code Dv):=rfl
theorem akx:env 173=some (.code O9):=rfl
theorem LU:env 174=some (.code Dw):=rfl
theorem adh:env 175=some (.code JA):=rfl
theorem aky:env 176=some (.code Pg):=rfl
theorem LV:env 177=some (.code Dx):=rfl
theorem akz:env 178=some (.code Ph):=rfl
theorem akA:env 179=some (.code Pj):=rfl
theorem akB:env 180=some (.code Pm):=rfl
theorem Gp:env 181=some (.code Aq):=rfl
theorem akC:env 182=some (.code Pn):=rfl
theorem akD:env 183=some (.code Po):=rfl
theorem adi:env 210=some (.code JB):=rfl
theorem adk:env 211=some (.code JC):=rfl
theorem akE:env 212=some (.code Pq):=rfl
theorem akF:env 213=some (.code Pv):=rfl
theorem akG:env 214=some (.code Px):=rfl
theorem akH:env 219=some (.code Py):=rfl
theorem akI:env 222=some (.code Pz):=rfl
theorem akJ:env 233=some (.code PD):=rfl
theorem Uo:env 234=some (.code FQ):=rfl
theorem Gq:env 235=some (.code Ar):=rfl
theorem adl:env 236=some (.code JD):=rfl
theorem adn:env 237=some (.code JE):=rfl
theorem akK:env 238=some (.code PE):=rfl
theorem ado:env 239=some (.code JF):=rfl
theorem akL:env 240=some (.code PG):=rfl
theorem akM:env 241=some (.code PI):=rfl
theorem akN:env 242=some (.code PK):=rfl
theorem akO:env 243=some (.code PL):=rfl
theorem akP:env 244=some (.code FX):=rfl
theorem akQ:env 245=some (.ext (jo 1)):=rfl
theorem akR:env 246=some (.code PN):=rfl
theorem akS:env 247=some (.code PO):=rfl
theorem akT:env 253=some (.code PS):=rfl
theorem adp:env 254=some (.code JG):=rfl
theorem akU:env 255=some (.code PY):=rfl
theorem akV:env 256=some (.code PZ):=rfl
theorem akW:env 257=some (.code P6):=rfl
theorem akX:env 262=some (.code P7):=rfl
theorem adq:env 263=some (.code JH):=rfl
theorem akY:env 264=some (.ext tzX):=rfl
theorem LW:env 267=some (.code Dy):=rfl
theorem akZ:env 268=some (.code P8):=rfl
theorem ak0:env 269=some (.code P9):=rfl
theorem ak1:env 272=some (.code Qc):=rfl
theorem LX:env 273=some (.code Dz):=rfl
theorem adr:env 274=some (.Hw (lQ 275)):=rfl
end Go.Proofs.YthccglceomoboaaGreatDoor
namespace Go.Proofs.YthccglceomoboaaGreatDoor
open V
def Qd:=(Zs (Zs (Zs (Zs (Zs (Zs (Zs (Zs (Zs @OH @aaM) (Zs @aaN @agl)) (Zs (Zs @OI @OJ) (Zs @aaL @Lc))) (Zs (Zs (Zs @aaQ @agf) (Zs @SS @SV)) (Zs (Zs @OC @OD) (Zs @agh @La)))) (Zs (Zs (Zs (Zs @OE @Xp) (Zs @Xq @dK)) (Zs (Zs @ZcK.{0,0} @List.foldl_cons.{0,0}) (Zs @agb @agc))) (Zs (Zs (Zs @agi @agj) (Zs @aaH @Js)) (Zs (Zs @aaJ @agk) (Zs @OG @Xt))))) (Zs (Zs (Zs (Zs (Zs @aaK @DX) (Zs @Ld @Io)) (Zs (Zs @OO @aaR) (Zs @Xu @SY))) (Zs (Zs (Zs @agm @SQ) (Zs @Dn @OQ)) (Zs (Zs @Tm @OT) (Zs @Tq @fM.eq_1)))) (Zs (Zs (Zs (Zs @fM.eq_2 @fM.eq_3) (Zs @resultList.eq_1 @resultList.eq_2)) (Zs (Zs @oq.eq_1 @oq.eq_2) (Zs @oq.eq_3 @zBV.eq_1))) (Zs (Zs (Zs @zBV.eq_2 @splice.eq_1) (Zs @PV.vT.eq_1 @PV.vT.eq_2)) (Zs (Zs @PV.vT.eq_3 @PV.vT.eq_4) (Zs @St.iF.eq_1 (Zs @St.bg.eq_1 @St.fK.eq_1))))))) (Zs (Zs (Zs (Zs (Zs (Zs @St.fK.eq_2 @PV.single.eq_1) (Zs @PV.single.eq_2 @aaT)) (Zs (Zs @Xx @agw) (Zs @aaU @aaV))) (Zs (Zs (Zs @Xz @aaW) (Zs @XA @agy)) (Zs (Zs @aaY @agz) (Zs @aaZ @aa0)))) (Zs (Zs (Zs (Zs @agA @agB) (Zs @agC @agD)) (Zs (Zs @agE @dK) (Zs @agF @dK))) (Zs (Zs (Zs @agG @agH) (Zs @agI @dK)) (Zs (Zs @agR @agN) (Zs @agL (Zs @agJ @dK)))))) (Zs (Zs (Zs (Zs (Zs @dK @agP) (Zs @ajY @aa1)) (Zs (Zs @aa2 @aa3) (Zs @aa4 @aa5))) (Zs (Zs (Zs @dK @agX) (Zs @agY @agZ)) (Zs (Zs @dK @ag0) (Zs @XB @ajZ)))) (Zs (Zs (Zs (Zs @ag1 @XC) (Zs @ag2 @XD)) (Zs (Zs @aa6 @aa7) (Zs @ag3 @dK))) (Zs (Zs (Zs @ag4 @dK) (Zs @ag5 @ag6)) (Zs (Zs @aj0 @dK) (Zs @dK (Zs @XE @ag7)))))))) (Zs (Zs (Zs (Zs (Zs (Zs (Zs @ag8 @ag9) (Zs @aha @ahb)) (Zs (Zs @dK @agU) (Zs @dK @agV))) (Zs (Zs (Zs @agW @agS) (Zs @dK @agT)) (Zs (Zs @agO @agM) (Zs @agK @dK)))) (Zs (Zs (Zs (Zs @dK @agQ) (Zs @aj1 @aa8)) (Zs (Zs @aa9 @abb) (Zs @abd @abe))) (Zs (Zs (Zs @dK @ahc) (Zs @ahd @ahe)) (Zs (Zs @dK @ahf) (Zs @XF (Zs @aj2 @ahg)))))) (Zs (Zs (Zs (Zs (Zs @XG @ahh) (Zs @XH @abf)) (Zs (Zs @abg @ahi) (Zs @dK @ahj))) (Zs (Zs (Zs @dK @ahk) (Zs @ahl @aj3)) (Zs (Zs @dK @dK) (Zs @XI @plain.eq_1)))) (Zs (Zs (Zs (Zs @plain.eq_2 @plain.eq_3) (Zs @plain.eq_4 @plain.eq_5)) (Zs (Zs @plain.eq_6 @plain.eq_7) (Zs @plain.eq_8 @plain.eq_9))) (Zs (Zs (Zs @plain.eq_10 @plain.eq_11) (Zs @plain.eq_12 @plain.eq_13)) (Zs (Zs @plain.eq_14 @plain.eq_15) (Zs @plain.eq_16 (Zs @plain.eq_17 @plain.eq_18))))))) (Zs (Zs (Zs (Zs (Zs (Zs @plain.eq_19 @plain.eq_20) (Zs @plain.eq_21 @plain.eq_22)) (Zs (Zs @plain.eq_23 @plain.eq_24) (Zs @plain.eq_25 @plain.eq_26))) (Zs (Zs (Zs @plain.eq_27 @plain.eq_28) (Zs @plain.eq_29 @plain.eq_30)) (Zs (Zs @plain.eq_31 @plain.eq_32) (Zs @plain.eq_33 @plain.eq_34)))) (Zs (Zs (Zs (Zs @plain.eq_35 @act.eq_1) (Zs @act.eq_2 @act.eq_3)) (Zs (Zs @act.eq_4 @act.eq_5) (Zs @act.eq_6 @act.eq_7))) (Zs (Zs (Zs @act.eq_8 @act.eq_9) (Zs @act.eq_10 @act.eq_11)) (Zs (Zs @act.eq_12 @act.eq_13) (Zs @act.eq_14 (Zs @act.eq_15 @act.eq_16)))))) (Zs (Zs (Zs (Zs (Zs @act.eq_17 @act.eq_18) (Zs @act.eq_19 @act.eq_20)) (Zs (Zs @act.eq_21 @act.eq_22) (Zs @act.eq_23 @bM.eq_1))) (Zs (Zs (Zs @bM.eq_2 @bM.eq_3) (Zs @bM.eq_4 @bM.eq_5)) (Zs (Zs @bM.eq_6 @bM.eq_7) (Zs @bM.eq_8 @bM.eq_9)))) (Zs (Zs (Zs (Zs @bM.eq_10 @bM.eq_11) (Zs @bM.eq_12 @bM.eq_13)) (Zs (Zs @bM.eq_14 @bM.eq_15) (Zs @bM.eq_16 @bM.eq_17))) (Zs (Zs (Zs @bM.eq_18 @bM.eq_19) (Zs @bM.eq_20 @bM.eq_21)) (Zs (Zs @bM.eq_22 @bM.eq_23) (Zs @bM.eq_24 (Zs @bM.eq_25 @bM.eq_26))))))))) (Zs (Zs (Zs (Zs (Zs (Zs (Zs (Zs @bM.eq_27 @bM.eq_28) (Zs @bM.eq_29 @bM.eq_30)) (Zs (Zs @bM.eq_31 @bM.eq_32) (Zs @bM.eq_33 @bM.eq_34))) (Zs (Zs (Zs @bM.eq_35 @bM.eq_36) (Zs @bM.eq_37 @bM.eq_38)) (Zs (Zs @bM.eq_39 @bM.eq_40) (Zs @bM.eq_41 @bM.eq_42)))) (Zs (Zs (Zs (Zs @bM.eq_43 @bM.eq_44) (Zs @bM.eq_45 @bM.eq_46)) (Zs (Zs @bM.eq_47 @bM.eq_48) (Zs @bM.eq_49 @bM.eq_50))) (Zs (Zs (Zs @bM.eq_51 @bM.eq_52) (Zs @bM.eq_53 @bM.eq_54)) (Zs (Zs @bM.eq_55 @Bool.false_eq_true) (Zs @if_true.{1} @if_false.{1}))))) (Zs (Zs (Zs (Zs (Zs @Tt @OU) (Zs @St.get.eq_1 @St.get.eq_2)) (Zs (Zs @St.get.eq_3 @St.put.eq_1) (Zs @St.bU.eq_1 @St.putRow.eq_1))) (Zs (Zs (Zs @St.consume.eq_1 @St.consume.eq_2) (Zs @St.consume.eq_3 @St.freeze.eq_1)) (Zs (Zs @St.row.eq_1 @St.row.eq_2) (Zs @St.row.eq_3 @St.elems.eq_1)))) (Zs (Zs (Zs (Zs @St.grab.eq_1 @St.grab.eq_2) (Zs @St.grab.eq_3 @rC.eq_1)) (Zs (Zs @rC.eq_2 @rC.eq_3) (Zs @rC.eq_4 @Wv.eq_1))) (Zs (Zs (Zs @Wv.eq_2 @jO.eq_1) (Zs @jO.eq_2 @jO.eq_3)) (Zs (Zs @jO.eq_4 @St.takeRow.eq_1) (Zs @St.takeRow.eq_2 (Zs @St.takeRow.eq_3 @St.setRow.eq_1))))))) (Zs (Zs (Zs (Zs (Zs (Zs @St.setRow.eq_2 @St.setRow.eq_3) (Zs @St.place.eq_1 @St.place.eq_2)) (Zs (Zs @St.yG.eq_1 @St.yG.eq_2) (Zs @St.setCell.eq_1 @St.jM.eq_1))) (Zs (Zs (Zs @CU.eq_1 @CU.eq_2) (Zs @CU.eq_3 @CU.eq_4)) (Zs (Zs @Eo.eq_1 @Eo.eq_2) (Zs @Eo.eq_3 @Eo.eq_4)))) (Zs (Zs (Zs (Zs @gG.eq_1 @gG.eq_2) (Zs @gG.eq_3 @gG.eq_4)) (Zs (Zs @gG.eq_5 @gG.eq_6) (Zs @gG.eq_7 @gG.eq_8))) (Zs (Zs (Zs @gG.eq_9 @gG.eq_10) (Zs @gG.eq_11 @gG.eq_12)) (Zs (Zs @gG.eq_13 @gG.eq_14) (Zs @gG.eq_15 (Zs @gG.eq_16 @gG.eq_17)))))) (Zs (Zs (Zs (Zs (Zs @Wu.eq_1 @Wu.eq_2) (Zs @Wu.eq_3 @Wu.eq_4)) (Zs (Zs @BV.val.eq_1 @BV.val.eq_2) (Zs @BV.av.eq_1 @BV.av.eq_2))) (Zs (Zs (Zs @X6 @Ug) (Zs @X7 @Uh)) (Zs (Zs @cells_func @X8) (Zs @O5 @Jy)))) (Zs (Zs (Zs (Zs @xY @abh) (Zs @XJ @XK)) (Zs (Zs @TJ @abj) (Zs @XM @XL))) (Zs (Zs (Zs @abk @XO) (Zs @TL @TN)) (Zs (Zs @TP @TQ) (Zs @abl (Zs @XP @XQ)))))))) (Zs (Zs (Zs (Zs (Zs (Zs (Zs @TS @abm) (Zs @XT @XR)) (Zs (Zs @abn @XU) (Zs @TV @TU))) (Zs (Zs (Zs @Ua @TY) (Zs @abo @XV)) (Zs (Zs @XW @Ub) (Zs @abp @XZ)))) (Zs (Zs (Zs (Zs @XY @abq) (Zs @X0 @Ud)) (Zs (Zs @Uc @Uf) (Zs @Ue @bound.eq_1))) (Zs (Zs (Zs @bound.eq_2 @bound.eq_3) (Zs @dZ.eq_1 @dZ.eq_2)) (Zs (Zs @iq.eq_1 @iq.eq_2) (Zs @yO.eq_1 (Zs @yO.eq_2 @capOf.eq_1)))))) (Zs (Zs (Zs (Zs (Zs @BI @ajX) (Zs @aT @aY)) (Zs (Zs @aQ @aX) (Zs @List.append_nil.{0} @aU))) (Zs (Zs (Zs @aS @Zaj) (Zs @Nat.add_zero @OX)) (Zs (Zs @OW @OV) (Zs @rO @decide_true)))) (Zs (Zs (Zs (Zs @decide_false @Bool.not_true) (Zs @Bool.not_false @Bool.true_eq_false)) (Zs (Zs @beq_self_eq_true.{0} @Zai) (Zs @Bool.and_true @ZaX))) (Zs (Zs (Zs @Bool.and_false @Bool.true_or) (Zs @Bool.false_or @ZcS)) (Zs (Zs @Bool.or_true @anm) (Zs @ano (Zs @Jr @Xo))))))) (Zs (Zs (Zs (Zs (Zs (Zs @za.{0,0} @OY) (Zs @aaS @OZ)) (Zs (Zs @Tv @agu) (Zs @TA @TB))) (Zs (Zs (Zs @agv @TD) (Zs @dcall.eq_1 @BJ.eq_1)) (Zs (Zs @agx.eq_1 @O4.eq_1) (Zs @Jw.eq_1 @Lh.eq_1)))) (Zs (Zs (Zs (Zs @um.eq_1 @nX.eq_1) (Zs @nX.eq_2 @nX.eq_3)) (Zs (Zs @Td @Tf) (Zs @Tj @agn))) (Zs (Zs (Zs @agp @agq) (Zs @agr @ags)) (Zs (Zs @agt @OL) (Zs @aaO (Zs @DY @Fa)))))) (Zs (Zs (Zs (Zs (Zs @Zck.{0,0,0} @TF) (Zs @St.jD.eq_1 @St.jD.eq_2)) (Zs (Zs @St.snap.eq_1 @St.snap.eq_2) (Zs @St.snap.eq_3 @St.snap.eq_4))) (Zs (Zs (Zs @St.snap.eq_5 @St.snap.eq_6) (Zs @TG @Xv)) (Zs (Zs @TI @Xw) (Zs @abr @X3)))) (Zs (Zs (Zs (Zs @abt @X4) (Zs @X5 @St.layAll.eq_1)) (Zs (Zs @St.layAll.eq_2 @St.lay.eq_1) (Zs @St.lay.eq_2 @St.lay.eq_3))) (Zs (Zs (Zs @Le @O1) (Zs @St.bQ.eq_1 @St.bC.eq_1)) (Zs (Zs @St.bC.eq_2 @St.bC.eq_3) (Zs @St.bC.eq_4 (Zs @St.bC.eq_5 @St.bC.eq_6))))))))))
def ads:=(Zs (Zs (Zs (Zs @List.isEmpty_nil.{0} (Zs @aga @SN)) (Zs @Jq (Zs @Xm @Xn))) (Zs (Zs @SL (Zs @Int.le_refl @Ah)) (Zs @zg (Zs @St.bn.eq_1 @BV.frozen.eq_1)))) (Zs (Zs (Zs @BV.frozen.eq_2 (Zs @ZaW.{0} @ZaQ.{0})) (Zs @aK (Zs @Int.toNat_zero @true_and))) (Zs (Zs @and_true (Zs @and_self @eq_self.{1})) (Zs @rO (Zs @List.drop_nil.{0} @Zds.{0})))))
def dN:=(Zs (Zs @Nat.zero_le (Zs @Zbt.{0} @Zds.{0})) (Zs (Zs @Zbx.{0} @zc.{0}) (Zs @List.length_nil.{0} @zg)))
def dF:=Zs @ads @Qd
end Go.Proofs.YthccglceomoboaaGreatDoor
namespace Go.Proofs.YthccglceomoboaaGreatDoor.V
theorem adt (x:eG):part (kS x) 0 (some 8)=some (.agg (kS x)):=by
 simp only [part,iJ,Zaj,ZaK]
 rw [if_pos (zg _),Zby (by rw [iJ];exact zg _)]
theorem Gs:∀ a b:List UInt8,a.length=b.length→jh (a.map fun b=>.int .u8 (b.toNat:Int)) (b.map fun b=>.int .u8 (b.toNat:Int))=some (decide (a=b))
 |[],[],_=>rfl
 |x::a,y::b,h=>by
  simp only [zc,Nat.add_right_cancel_iff] at h
  simp only [Zat,jh,if_pos,Gs a b h,Option.map_some,Zc8.injEq]
  congr 1
  have:((x.toNat:Int)==(y.toNat:Int))=decide (x=y):=by
   by_cases e:x=y
   ·subst e;simp
   ·have:¬ x.toNat=y.toNat:=fun h=>e (UInt8.toNat_inj.1 h)
    simp [e];omega
  rw [this,Bool.decide_and]
 |[],_::_,h=>by simp at h
 |_::_,[],h=>by simp at h
theorem Qe (a b:eG):jh (kS a) (kS b)=some (decide (a=b)):=by
 unfold kS
 rw [Gs _ _ (by simp)]
 congr 1
 apply decide_eq_decide.2
 exact ⟨fun h=>Vector.toList_inj.1 h,fun h=>by rw [h]⟩
def fD (l:List Int):Int:=if l.length<1∨8<l.length then 6 else if l.any (fun n=>decide (n<1) || decide (n > 4096)) then 2 else 0
def mQ (l:List Int):Img:=l.map fun n=>Zae n.toNat E5
theorem ahI {l:List Int}(hl:l.length≤lim){st:St}(h:st.head [0,3] st.boxes.length=some ⟨[.pv (.list 1 (l.map eI)),.any,.any,.pv (.int .i64 (0:Nat)),.any,.any,.any,.any,.any,.any,.any,.any,.any,.any,.any,.any,.any,.any,.any,.any,.any,.any,.any,.any,.any,.any,.any,.any,.any,.any],[],[],none⟩) :
  den env FD st=if l.any (fun n=>decide (n<1) || decide (n > 4096)) then some (.ret,⟨[.any,.any,.pv (.int .i64 2),.any,.any,.any,.any,.any,.any,.any,.any,.any,.any,.any,.any,.any,.any,.any,.any,.any,.any,.any,.any,.any,.any,.any,.any,.any,.any,.any],[],[],none⟩) else some (.normal,⟨[.any,.any,.any,.any,.any,.any,.any,.any,.any,.any,.any,.any,.any,.any,.any,.any,.any,.any,.any,.any,.any,.any,.any,.any,.any,.any,.any,.any,.any,.any],[],[],none⟩):=by
 unfold FD
 rw [ dL (env:=env) (l.length) (fun i=>⟨[.pv (.list 1 (l.map eI)),.any,.any,.pv (.int .i64 i),.any,.any,.any,.any,.any,.any,.any,.any,.any,.any,.any,.any,.any,.any,.any,.any,.any,.any,.any,.any,.any,.any,.any,.any,.any,.any],[],[],none⟩) (fun i=>if (l.drop i).any (fun n=>decide (n<1) || decide (n > 4096)) then some (.ret,⟨[.any,.any,.pv (.int .i64 2),.any,.any,.any,.any,.any,.any,.any,.any,.any,.any,.any,.any,.any,.any,.any,.any,.any,.any,.any,.any,.any,.any,.any,.any,.any,.any,.any],[],[],none⟩) else some (.normal,⟨[.any,.any,.any,.any,.any,.any,.any,.any,.any,.any,.any,.any,.any,.any,.any,.any,.any,.any,.any,.any,.any,.any,.any,.any,.any,.any,.any,.any,.any,.any],[],[],none⟩)) h (fun _=>rfl) (fun _=>rfl) ?_ ?_]
 ·first|rfl|simp only [ZaK,Zbt,Zav,Zaj,Za0,ZcK]
 ·intro i rb hi ih
  have hi1:=dV hi hl;have F1:((i:Int)<(l.length:Int))=True:=eq_true (by omega)
  simp only [FC,eI,F1,aB hi,zd,ZZ hi,dF,reduceCtorEq,Nat.reduceEqDiff,Nat.reduceAdd,Nat.reduceLT,Nat.reduceLeDiff,zb]
  rw [Zah hi]
  repeat' ((try simp only [nM,qj,nO]);refine lN (fun hb=>?_) (fun hb=>?_)<;>try simp only [hb,eI,aB hi,zd,ZZ hi,dF,reduceCtorEq,Nat.reduceEqDiff,Nat.reduceAdd,Nat.reduceLT,Nat.reduceLeDiff,zb])
  ·rfl
  ·rfl
  ·rw [ih _ (by simp only [hi1];rfl)]
 ·intro rb
  simp only [FC,ZaL,eI,dF,reduceCtorEq,Nat.reduceEqDiff,Nat.reduceAdd,Nat.reduceLT,Nat.reduceLeDiff,zb]
  rw [Zbq]
  rfl
theorem ak2 {l:List Int}(hl:l.length≤lim):cal env 143 [.list 1 (l.map eI)]=some [(.int .i64 (fD l),false)]:=by
 rw [ak aku rfl];simp only [O6];simp only [start,aT,aY,aQ,aX,aK,aN,aS,aU,Nat.reduceAdd,Nat.reduceSub]
 simp only [eI,dF,reduceCtorEq,Nat.reduceEqDiff,Nat.reduceAdd,Nat.reduceLT,Nat.reduceLeDiff,zb]
 repeat' ((try simp only [nM,qj,nO]);refine lN (fun hb=>?_) (fun hb=>?_)<;>try simp only [hb,eI,dF,reduceCtorEq,Nat.reduceEqDiff,Nat.reduceAdd,Nat.reduceLT,Nat.reduceLeDiff,zb])
 ·grind [fD]
 ·grind [fD]
 ·rw [ahI hl]
  rotate_left
  ·rfl
  ·by_cases h:l.any (fun n=>decide (n<1) || decide (n > 4096))=true
   ·simp only [h,Qd,reduceCtorEq,Nat.reduceEqDiff,Nat.reduceAdd,Nat.reduceLT,Nat.reduceLeDiff,zb]
    grind [fD]
   ·simp only [h,Qd,reduceCtorEq,Nat.reduceEqDiff,Nat.reduceAdd,Nat.reduceLT,Nat.reduceLeDiff,zb]
    grind [fD]
theorem ak3 {a b:List eG}(hl:a.length≤lim)(hab:a.length=b.length){st:St}(h:st.head [0,1,5] st.boxes.length=some ⟨[.pv (.list 8 (a.map eP)),.pv (.list 8 (b.map eP)),.any,.any,.any,.pv (.int .i64 (0:Nat)),.any,.any,.any,.any,.any,.any,.any,.any,.any,.any,.any,.any,.any,.any,.any,.any,.any,.any,.any,.any],[],[],none⟩) :
  den env LH st=if a=b then some (.normal,⟨[.any,.any,.any,.any,.any,.any,.any,.any,.any,.any,.any,.any,.any,.any,.any,.any,.any,.any,.any,.any,.any,.any,.any,.any,.any,.any],[],[],none⟩) else some (.ret,⟨[.any,.any,.any,.any,.pv (.bool false),.any,.any,.any,.any,.any,.any,.any,.any,.any,.any,.any,.any,.any,.any,.any,.any,.any,.any,.any,.any,.any],[],[],none⟩):=by
 unfold LH
 rw [ dL (env:=env) (a.length) (fun i=>⟨[.pv (.list 8 (a.map eP)),.pv (.list 8 (b.map eP)),.any,.any,.any,.pv (.int .i64 i),.any,.any,.any,.any,.any,.any,.any,.any,.any,.any,.any,.any,.any,.any,.any,.any,.any,.any,.any,.any],[],[],none⟩) (fun i=>if a.drop i=b.drop i then some (.normal,⟨[.any,.any,.any,.any,.any,.any,.any,.any,.any,.any,.any,.any,.any,.any,.any,.any,.any,.any,.any,.any,.any,.any,.any,.any,.any,.any],[],[],none⟩) else some (.ret,⟨[.any,.any,.any,.any,.pv (.bool false),.any,.any,.any,.any,.any,.any,.any,.any,.any,.any,.any,.any,.any,.any,.any,.any,.any,.any,.any,.any,.any],[],[],none⟩)) h (fun _=>rfl) (fun _=>rfl) ?_ ?_]
 ·first|rfl|simp only [ZaK,Zbt,Zav,Zaj,Za0,ZcK]
 ·intro i rb hi ih
  have hi1:=dV hi hl
  have hj:i<b.length:=by omega
  have F1:((i:Int)<(a.length:Int))=True:=eq_true (by omega)
  simp only [LG,F1,eP,aB hi,aB hj,zd,ZZ hi,ZZ hj,adt,iJ,Qe,dF,reduceCtorEq,Nat.reduceEqDiff,Nat.reduceAdd,Nat.reduceLT,Nat.reduceLeDiff,zb]
  rw [Zah hi,Zah hj]
  (try simp only [nM,qj,nO]);refine lN (fun hb=>?_) (fun hb=>?_)<;>try simp only [hb,dF,reduceCtorEq,Nat.reduceEqDiff,Nat.reduceAdd,Nat.reduceLT,Nat.reduceLeDiff,zb]
  ·rw [ih _ (by simp only [hi1];rfl)]
   simp only [decide_eq_true_eq] at hb
   simp only [hb,Zc8.injEq,true_and]
  ·simp only [decide_eq_false_iff_not] at hb
   simp only [hb,Zc8.injEq,false_and,if_false]
   rfl
 ·intro rb
  simp only [LG,ZaL,dF,reduceCtorEq,Nat.reduceEqDiff,Nat.reduceAdd,Nat.reduceLT,Nat.reduceLeDiff,zb]
  rw [Zbq,hab,Zbq,if_pos rfl]
  rfl
theorem anx {a b:List eG}(hl:a.length≤lim):cal env 85 [.list 8 (a.map eP),.list 8 (b.map eP)]=some [(.bool (decide (a=b)),false)]:=by
 rw [ak anw rfl];simp only [abB];simp only [start,aT,aY,aQ,aX,aK,aN,aS,aU,Nat.reduceAdd,Nat.reduceSub]
 simp only [dF,reduceCtorEq,Nat.reduceEqDiff,Nat.reduceAdd,Nat.reduceLT,Nat.reduceLeDiff,zb]
 (try simp only [nM,qj,nO]);refine lN (fun hb=>?_) (fun hb=>?_)<;>try simp only [hb,dF,reduceCtorEq,Nat.reduceEqDiff,Nat.reduceAdd,Nat.reduceLT,Nat.reduceLeDiff,zb]
 ·have hab:a.length=b.length:=by simp at hb;omega
  rw [ak3 hl hab]
  rotate_left
  ·rfl
  ·by_cases e:a=b<;>simp only [e,Qd,reduceCtorEq,Nat.reduceEqDiff,Nat.reduceAdd,Nat.reduceLT,Nat.reduceLeDiff,zb]
 ·have:a≠b:=fun e=>by subst e;simp at hb
  simp only [this,Qd,reduceCtorEq,Nat.reduceEqDiff,Nat.reduceAdd,Nat.reduceLT,Nat.reduceLeDiff,zb]
theorem ak4 {a b:Img}(hl:a.length≤lim)(hr:∀ v∈a,v.length≤lim)(hab:a.length=b.length){st:St}(h:st.head [0,1,5] st.boxes.length=some ⟨[.pv (.list 1 (a.map dh)),.pv (.list 1 (b.map dh)),.any,.any,.any,.pv (.int .i64 (0:Nat)),.any,.any,.any,.any,.any,.any,.any,.any,.any,.any,.any,.any,.any,.any,.any,.any,.any,.any,.any,.any,.any],[],[],none⟩) :
  den env Lp st=if a=b then some (.normal,⟨[.any,.any,.any,.any,.any,.any,.any,.any,.any,.any,.any,.any,.any,.any,.any,.any,.any,.any,.any,.any,.any,.any,.any,.any,.any,.any,.any],[],[],none⟩) else some (.ret,⟨[.any,.any,.any,.any,.pv (.bool false),.any,.any,.any,.any,.any,.any,.any,.any,.any,.any,.any,.any,.any,.any,.any,.any,.any,.any,.any,.any,.any,.any],[],[],none⟩):=by
 unfold Lp
 rw [ dL (env:=env) (a.length) (fun i=>⟨[.pv (.list 1 (a.map dh)),.pv (.list 1 (b.map dh)),.any,.any,.any,.pv (.int .i64 i),.any,.any,.any,.any,.any,.any,.any,.any,.any,.any,.any,.any,.any,.any,.any,.any,.any,.any,.any,.any,.any],[],[],none⟩) (fun i=>if a.drop i=b.drop i then some (.normal,⟨[.any,.any,.any,.any,.any,.any,.any,.any,.any,.any,.any,.any,.any,.any,.any,.any,.any,.any,.any,.any,.any,.any,.any,.any,.any,.any,.any],[],[],none⟩) else some (.ret,⟨[.any,.any,.any,.any,.pv (.bool false),.any,.any,.any,.any,.any,.any,.any,.any,.any,.any,.any,.any,.any,.any,.any,.any,.any,.any,.any,.any,.any,.any],[],[],none⟩)) h (fun _=>rfl) (fun _=>rfl) ?_ ?_]
 ·first|rfl|simp only [ZaK,Zbt,Zav,Zaj,Za0,ZcK]
 ·intro i rb hi ih
  have hi1:=dV hi hl
  have hj:i<b.length:=by omega
  have F1:((i:Int)<(a.length:Int))=True:=eq_true (by omega)
  have e1:=anx (b:=b[i]) (hr _ (List.getElem_mem hi))
  simp only [Lm,F1,e1,dh,aB hi,aB hj,zd,ZZ hi,ZZ hj,dF,reduceCtorEq,Nat.reduceEqDiff,Nat.reduceAdd,Nat.reduceLT,Nat.reduceLeDiff,zb]
  rw [Zah hi,Zah hj]
  (try simp only [nM,qj,nO]);refine lN (fun hb=>?_) (fun hb=>?_)<;>try simp only [hb,dF,reduceCtorEq,Nat.reduceEqDiff,Nat.reduceAdd,Nat.reduceLT,Nat.reduceLeDiff,zb]
  ·rw [ih _ (by simp only [hi1];rfl)]
   simp only [decide_eq_true_eq] at hb
   simp only [hb,Zc8.injEq,true_and]
  ·simp only [decide_eq_false_iff_not] at hb
   simp only [hb,Zc8.injEq,false_and,if_false]
   rfl
 ·intro rb
  simp only [Lm,ZaL,dF,reduceCtorEq,Nat.reduceEqDiff,Nat.reduceAdd,Nat.reduceLT,Nat.reduceLeDiff,zb]
  rw [Zbq,hab,Zbq,if_pos rfl]
  rfl
theorem anz {a b:Img}(hl:a.length≤lim)(hr:∀ v∈a,v.length≤lim):cal env 22 [.list 1 (a.map dh),.list 1 (b.map dh)]=some [(.bool (decide (a=b)),false)]:=by
 rw [ak anq rfl];simp only [abx];simp only [start,aT,aY,aQ,aX,aK,aN,aS,aU,Nat.reduceAdd,Nat.reduceSub]
 simp only [dF,reduceCtorEq,Nat.reduceEqDiff,Nat.reduceAdd,Nat.reduceLT,Nat.reduceLeDiff,zb]
 (try simp only [nM,qj,nO]);refine lN (fun hb=>?_) (fun hb=>?_)<;>try simp only [hb,dF,reduceCtorEq,Nat.reduceEqDiff,Nat.reduceAdd,Nat.reduceLT,Nat.reduceLeDiff,zb]
 ·have hab:a.length=b.length:=by simp at hb;omega
  rw [ak4 hl hr hab]
  rotate_left
  ·rfl
  ·by_cases e:a=b<;>simp only [e,Qd,reduceCtorEq,Nat.reduceEqDiff,Nat.reduceAdd,Nat.reduceLT,Nat.reduceLeDiff,zb]
 ·have:a≠b:=fun e=>by subst e;simp at hb
  simp only [this,Qd,reduceCtorEq,Nat.reduceEqDiff,Nat.reduceAdd,Nat.reduceLT,Nat.reduceLeDiff,zb]
end Go.Proofs.YthccglceomoboaaGreatDoor.V
namespace Go.Proofs.YthccglceomoboaaGreatDoor
noncomputable def iter (env:Env)(f:Nat)(caps:List PV)(stop:Option Nat):Option (List (List PV)):=jH (den env) env f caps stop
def Gt (n:Nat)(caps:List PV)(stop:Option Nat):St:=⟨.qX::(caps.map .pv++Zae (n - (caps.length+1)) .any),[],[],some stop⟩
def ak5:Ex×St→Option (List (List PV))
 |(.exit _,_)=>none
 |(.oK _ _,_)=>none
 |(_,st)=>some st.ys
section
variable {env:Env}
theorem Qg (st:St):ak5 (.normal,st)=some st.ys:=(rfl)
theorem adu (st:St):ak5 (.ret,st)=some st.ys:=(rfl)
theorem yg {f:Nat}{fn:dQ}{caps:List PV}{stop:Option Nat}(h:env f=some (.code fn))(hl:caps.length+1=fn.nargs)(hr:fn.results.isEmpty=true):iter env f caps stop=(den env fn.body (Gt fn.ntmps caps stop)).bind ak5:=by
 unfold iter jH
 rw [h]
 simp only [if_pos (Zs hl hr)]
 show (den env fn.body _).bind _=_
 congr 1
 funext ⟨e,st⟩
 cases e<;>rfl
noncomputable def wR (env:Env)(slots:List AV)(ps:List Nat)(assign body:au)(nb:Nat)(x:List PV)(st:St):Option (Ex×St) :=
 (fO slots ps x).bind fun sl=>(den env assign { st with slots:=sl }).bind fun p=>match p with
  |(.normal,st)=>(den env body st).bind fun p=>match p with
   |(.normal,st)=>if nb≤st.boxes.length then some (.normal,{ st with boxes:=st.boxes.take nb }) else none
   |(.oK _ _,_)=>none
   |p=>some p
  |_=>none
theorem jf {slots:List AV}{ps:List Nat}{assign body:au}{nb k:Nat}{x:List PV}{xs:List (List PV)}{st:St} :
  rounds (den env) slots ps assign body nb k (x::xs) st=(wR env slots ps assign body nb x st).bind fun p=>match p with
   |(.normal,st)=>rounds (den env) slots ps assign body nb (k+1) xs st
   |(e,st)=>some (some (e,k+1),st):=by
 conv=>lhs;unfold rounds
 unfold wR
 show (fO slots ps x).bind _=_
 cases fO slots ps x with
 |none=>rfl
 |some sl =>
  simp only [Za1]
  show (den env assign _).bind _=_
  cases den env assign { st with slots:=sl } with
  |none=>rfl
  |some p =>
   obtain ⟨e,s⟩:=p
   simp only [Za1]
   cases e with
   |normal =>
    simp only
    show (den env body _).bind _=_
    cases den env body s with
    |none=>rfl
    |some p =>
     obtain ⟨e,s⟩:=p
     simp only [Za1]
     cases e with
     |normal =>
      simp only
      split<;>rfl
     |exit i=>rfl
     |ret=>rfl
     |oK t n=>rfl
   |exit i=>rfl
   |ret=>rfl
   |oK t n=>rfl
theorem DC {slots:List AV}{ps:List Nat}{assign body:au}{nb:Nat}{e:Ex}{m:Nat}{s:St}:∀ {xs:List (List PV)} {k:Nat} {st:St},rounds (den env) slots ps assign body nb k xs st=some (some (e,m),s) →
  k<m∧m≤k+xs.length∧rounds (den env) slots ps assign body nb k (xs.take (m - k)) st=some (some (e,m),s)
 |[],k,st,h=>by cases h
 |x::xs,k,st,h=>by
  rw [jf] at h
  cases hr:wR env slots ps assign body nb x st with
  |none=>rw [hr] at h;cases h
  |some p =>
   obtain ⟨e1,s1⟩:=p
   rw [hr] at h
   simp only [Za1] at h
   cases e1 with
   |normal =>
    obtain ⟨h1,h2,h3⟩:=DC h
    refine ⟨by omega,by simp only [zc];omega,?_⟩
    rw [show m - k=(m - (k+1))+1 by omega,Zbx,jf,hr]
    exact h3
   |exit i =>
    cases h
    refine ⟨by omega,by simp,?_⟩
    rw [show k+1 - k=0+1 by omega,Zbx,jf,hr]
    rfl
   |ret =>
    cases h
    refine ⟨by omega,by simp,?_⟩
    rw [show k+1 - k=0+1 by omega,Zbx,jf,hr]
    rfl
   |oK t0 n0 =>
    cases h
    refine ⟨by omega,by simp,?_⟩
    rw [show k+1 - k=0+1 by omega,Zbx,jf,hr]
    rfl
theorem ahJ {g:bF}{ps:List Nat}{assign body:au}{st st1:St}{f:Nat}{caps:List PV}{xs:List (List PV)}(hg:st.bU g=some (.func f caps))(hi:iter env f caps none=some xs)
  (hr:rounds (den env) (st.slots.map AV.froze) ps assign body st.boxes.length 0 xs { st with slots:=st.slots.map AV.froze }=some (none,st1)):den env (.rng g ps assign body) st=some (.normal,{ st1 with slots:=st.slots.map AV.froze }):=by
 rw [kH]
 show ranged (den env) env g ps assign body st=_
 unfold ranged
 rw [hg]
 unfold iter at hi
 simp only [BI,Za1,hi,hr]
theorem ahK {g:bF}{ps:List Nat}{assign body:au}{st st1:St}{f:Nat}{caps:List PV}{xs:List (List PV)}{e:Ex}{k:Nat}(hg:st.bU g=some (.func f caps))(hi:iter env f caps none=some xs)
  (hr:rounds (den env) (st.slots.map AV.froze) ps assign body st.boxes.length 0 xs { st with slots:=st.slots.map AV.froze }=some (some (e,k),st1)) (hi2:iter env f caps (some k)=some (xs.take k)):den env (.rng g ps assign body) st=some (e,{ st1 with slots:=st.slots.map AV.froze }):=by
 obtain ⟨h1,h2,h3⟩:=DC hr
 rw [kH]
 show ranged (den env) env g ps assign body st=_
 unfold ranged
 rw [hg]
 unfold iter at hi hi2
 simp only [Nat.sub_zero] at h3
 have hl:(xs.take k).length=k:=by rw [List.length_take];omega
 simp only [BI,Za1,hi,hr,hi2,h3,hl,and_self,if_true]
theorem Ef (B:Nat→List Box){g:bF}{ps:List Nat}{assign body:au}{st:St}{f:Nat}{caps:List PV}{xs:List (List PV)}(hg:st.bU g=some (.func f caps))(hi:iter env f caps none=some xs)(hB:st.boxes=B 0)
  (h:∀ j x,xs[j]?=some x→∀ sl0,∃ sl1,wR env (st.slots.map AV.froze) ps assign body st.boxes.length x ⟨sl0,B j,st.ys,st.stop⟩=some (.normal,⟨sl1,B (j+1),st.ys,st.stop⟩)) :
  den env (.rng g ps assign body) st=some (.normal,⟨st.slots.map AV.froze,B xs.length,st.ys,st.stop⟩):=by
 have key:∀ (l:List (List PV)) (j:Nat),xs.drop j=l→∀ (k:Nat) (sl0:List AV),∃ sl1,rounds (den env) (st.slots.map AV.froze) ps assign body st.boxes.length k l ⟨sl0,B j,st.ys,st.stop⟩=some (none,⟨sl1,B (j+l.length),st.ys,st.stop⟩):=by
  intro l
  induction l with
  |nil=>intro j _ k sl0;exact ⟨sl0,rfl⟩
  |cons x l ih =>
   intro j hj k sl0
   have hx:xs[j]?=some x:=by rw [← List.head?_drop,hj];rfl
   have hd:xs.drop (j+1)=l:=by rw [← Zcj,hj];rfl
   obtain ⟨sl1,q⟩:=h j x hx sl0
   obtain ⟨sl2,q2⟩:=ih (j+1) hd (k+1) sl1
   refine ⟨sl2,?_⟩
   rw [jf,q]
   simp only [Za1,q2,zc]
   rw [show j+1+l.length=j+(l.length+1) by omega]
 obtain ⟨sl1,q⟩:=key xs 0 (by simp) 0 (st.slots.map AV.froze)
 rw [← hB,Zaj] at q
 have r:=ahJ hg hi q
 exact r
theorem Qh (B:Nat→List Box)(m:Nat){g:bF}{ps:List Nat}{assign body:au}{st s:St}{e:Ex}{f:Nat}{caps:List PV}{xs:List (List PV)}(hg:st.bU g=some (.func f caps))(hi:iter env f caps none=some xs)(hi2:iter env f caps (some (m+1))=some (xs.take (m+1)))(hB:st.boxes=B 0)(hm:m<xs.length)
  (h:∀ j x,j<m→xs[j]?=some x→∀ sl0,∃ sl1,wR env (st.slots.map AV.froze) ps assign body st.boxes.length x ⟨sl0,B j,st.ys,st.stop⟩=some (.normal,⟨sl1,B (j+1),st.ys,st.stop⟩))
  (he:e≠.normal) (hl:∀ x,xs[m]?=some x→∀ sl0,∃ sl1,wR env (st.slots.map AV.froze) ps assign body st.boxes.length x ⟨sl0,B m,st.ys,st.stop⟩=some (e,{ s with slots:=sl1 })) :
  den env (.rng g ps assign body) st=some (e,{ s with slots:=st.slots.map AV.froze }):=by
 have key:∀ (d j:Nat),j+d=m→∀ (k:Nat) (sl0:List AV),∃ sl1,rounds (den env) (st.slots.map AV.froze) ps assign body st.boxes.length k (xs.drop j) ⟨sl0,B j,st.ys,st.stop⟩=some (some (e,k+d+1),{ s with slots:=sl1 }):=by
  intro d
  induction d with
  |zero =>
   intro j hj k sl0
   obtain rfl:j=m:=by omega
   rw [Zah hm]
   obtain ⟨sl1,q⟩:=hl _ (ZZ hm) sl0
   refine ⟨sl1,?_⟩
   rw [jf,q]
   cases e with
   |normal=>exact absurd rfl he
   |exit i=>rfl
   |ret=>rfl
   |oK t n=>rfl
  |succ d ih =>
   intro j hj k sl0
   have hj':j<xs.length:=by omega
   rw [Zah hj']
   obtain ⟨sl1,q⟩:=h j _ (by omega) (ZZ hj') sl0
   obtain ⟨sl2,q2⟩:=ih (j+1) (by omega) (k+1) sl1
   refine ⟨sl2,?_⟩
   rw [jf,q]
   simp only [Za1,q2]
   rw [show k+1+d+1=k+(d+1)+1 by omega]
 obtain ⟨sl1,q⟩:=key m 0 (by omega) 0 (st.slots.map AV.froze)
 rw [ZaK,← hB,Zaj] at q
 have r:=ahK hg hi q hi2
 exact r
noncomputable def Vq (env:Env)(body:au)(nb:Nat):Ex×St→Option (Ex×St)
 |(.normal,st)=>(den env body st).bind fun p=>match p with
  |(.normal,st)=>if nb≤st.boxes.length then some (.normal,{ st with boxes:=st.boxes.take nb }) else none
  |(.oK _ _,_)=>none
  |p=>some p
 |_=>none
def rend (nb:Nat):Ex×St→Option (Ex×St)
 |(.normal,st)=>if nb≤st.boxes.length then some (.normal,{ st with boxes:=st.boxes.take nb }) else none
 |(.oK _ _,_)=>none
 |p=>some p
theorem Yj (slots:List AV)(ps:List Nat)(assign body:au)(nb:Nat)(x:List PV)(st:St):wR env slots ps assign body nb x st=(fO slots ps x).bind fun sl=>(den env assign { st with slots:=sl }).bind (Vq env body nb):=by
 unfold wR
 rfl
theorem Gu (body:au)(nb:Nat)(st:St):Vq env body nb (.normal,st)=(den env body st).bind (rend nb):=by
 rfl
theorem Qi (nb:Nat)(st:St):rend nb (.normal,st)=if nb≤st.boxes.length then some (.normal,{ st with boxes:=st.boxes.take nb }) else none:=(rfl)
theorem Yk (nb i:Nat)(st:St):rend nb (.exit i,st)=some (.exit i,st):=(rfl)
theorem adv (nb:Nat)(st:St):rend nb (.ret,st)=some (.ret,st):=(rfl)
theorem adw (slots:List AV):fO slots [] []=some slots:=(rfl)
theorem Yl (slots:List AV)(p:Nat)(ps:List Nat)(v:PV)(vs:List PV):fO slots (p::ps) (v::vs)=fO (slots.set p (.pv v)) ps vs:=(rfl)
theorem adx (v:PV):AV.froze (.pv v)=.pv v:=(rfl)
theorem Ym (sz:Nat)(es:List PV):AV.froze (.row sz es)=.pv (.list sz es):=(rfl)
theorem Yn:AV.froze .any=.any:=(rfl)
theorem Yo (k:Bool)(l:List AV):AV.froze (.kV k l)=.any:=(rfl)
theorem Yp (r:Root)(i j:Nat):AV.froze (.ref r i j)=.any:=(rfl)
theorem Yq (r:Root)(i j:Nat):AV.froze (.oO r i j)=.any:=(rfl)
theorem Ur (i j:Nat):AV.froze (.aP i j)=.aP i j:=(rfl)
theorem ady (f:Nat)(l:List AV):AV.froze (.fn f l)=.fn f l:=(rfl)
theorem Yr:AV.froze .qX=.qX:=(rfl)
end
def yC:=Zs @Yj (Zs @Gu (Zs @Qi (Zs @Yk (Zs @adv (Zs @adw (Zs @Yl (Zs @adx (Zs @Ym (Zs @Yn (Zs @Yo (Zs @Yp (Zs @Yq (Zs @Ur (Zs @ady (Zs @Yr (Zs @Qg @adu))))))))))))))))
end Go.Proofs.YthccglceomoboaaGreatDoor
