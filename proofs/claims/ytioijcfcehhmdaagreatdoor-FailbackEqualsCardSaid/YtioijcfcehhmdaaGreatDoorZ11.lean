/-
  Part 11 of the texts that the statement stands on.
-/
import Derived.Test.YtioijcfcehhmdaaGreatDoorZ10
import Derived.Test.YtioijcfcehhmdaaGreatDoorRows
import Derived.Tactics
import Derived.Tactics2
import Derived.Defers
import Derived.Recover
import Derived.TacticsInMore
import Derived.RegionIn
import Derived.RecoverIn
import Derived.Laws.Pointers
import Derived.WalkSmall
set_option linter.all false
open Option renaming some → ZD
open List renaming getElem?_eq_getElem → ZS, length_map → Z2, getElem?_map → zb, mem_cons → Zaf, map_nil → Zai, map_cons → Zaj, getElem?_cons_zero → Zak, mem_singleton → Zav, getElem?_cons_succ → ZaH, getElem?_toArray → ZaL, filterMap_cons → ZaO, filterMap_nil → ZaW, size_toArray → ZaX, length_pos_iff → Zck
open Nat renaming le_refl → ze, lt_of_lt_of_le → Zae, zero_le → ZaM, not_lt_zero → ZcS
open Bool renaming false_eq_true → zg
open Array renaming getElem?_modify → ZcJ
namespace Go.Proofs.YtioijcfcehhmdaaGreatDoor
open Go.RowKit V
theorem aqg {a:Act}{w:World}{T:Tags}{σ:Nat→Nat}{dd mm:Int}{b0 b1 b2 b3:List BV}(hz:a.tmps.size=268)(h1:a.tmps[1]?=some (.pointer (some ⟨σ 0,0,none⟩)))(h3:a.tmps[3]?=some (.pointer (some ⟨σ 1,0,none⟩)))(h4:a.tmps[4]?=some (.pointer (some ⟨σ 2,0,none⟩)))(h6:a.tmps[6]?=some (.pointer (some ⟨σ 3,0,none⟩)))(h9:a.tmps[9]?=some (.int .i64 dd))(h11:a.tmps[11]?=some (.int .i64 mm))
  (g0:eU T w (σ 0) 0 ⟨false,b0⟩) (g1:eU T w (σ 1) 1 ⟨false,b1⟩) (g2:eU T w (σ 2) 2 ⟨false,b2⟩) (g3:eU T w (σ 3) 3 ⟨false,b3⟩) (hf:∀ b,w.heap.size≤b→T b=.other) :
  aV 0 σ T ⟨sl 268 [(1,.aO 0 0),(3,.aO 1 0),(4,.aO 2 0),(6,.aO 3 0),(9,.pv (.int .i64 dd)),(11,.pv (.int .i64 mm))],[⟨false,b0⟩,⟨false,b1⟩,⟨false,b2⟩,⟨false,b3⟩],[],none⟩ a w:=by
 refine ⟨by rw [ae4,hz],fun t av v ht hv=>?_,fun o bx ho=>?_,hf⟩
 ·have hlt:t<268:=by have:=(List.getElem?_eq_some_iff.1 ht).1;rwa [ae4] at this
  rw [YP hlt] at ht
  have ht:=ZD.inj ht
  subst ht
  by_cases c1:t=1
  ·subst c1;rw [h1] at hv;cases hv;exact ⟨by simp,rfl⟩
  by_cases c3:t=3
  ·subst c3;rw [h3] at hv;cases hv;exact ⟨by simp,rfl⟩
  by_cases c4:t=4
  ·subst c4;rw [h4] at hv;cases hv;exact ⟨by simp,rfl⟩
  by_cases c6:t=6
  ·subst c6;rw [h6] at hv;cases hv;exact ⟨by simp,rfl⟩
  by_cases c9:t=9
  ·subst c9;rw [h9] at hv;cases hv;exact .int _ _
  by_cases c11:t=11
  ·subst c11;rw [h11] at hv;cases hv;exact .int _ _
  have e:look [(1,AV.aO 0 0),(3,.aO 1 0),(4,.aO 2 0),(6,.aO 3 0),(9,.pv (.int .i64 dd)),(11,.pv (.int .i64 mm))] t=.any:=by
   have nb:∀ n,t≠n→t.beq n=false:=fun n hn=>by
    cases hb:t.beq n with
    |false=>rfl
    |true=>exact absurd (Nat.eq_of_beq_eq_true hb) hn
   simp only [look,nb _ c1,nb _ c3,nb _ c4,nb _ c6,nb _ c9,nb _ c11,dX]
  rw [e]
  trivial
 ·match o,ho with
  |0,ho=>cases ho;exact g0
  |1,ho=>cases ho;exact g1
  |2,ho=>cases ho;exact g2
  |3,ho=>cases ho;exact g3
  |o+4,ho=>cases ho
theorem akG {T:Tags}{w:World}{b o:Nat}{cs:List BV}{arr:Array Value}{E:TypeId}(h:w.heap[b]?=some (.cells arr E (0,0)))(hz:arr.size=cs.length)(hT:T b=.box o)(hc:∀ (j:Nat) bv u,cs[j]?=some bv→arr[j]?=some u→u.oneCell'=true∧GX T w o j bv u):eU T w b o ⟨false,cs⟩:=⟨arr,E,h,hz,hT,fun e=>(Bool.false_ne_true e).elim,hc⟩
theorem ajR {T:Tags}{w:World}{b o:Nat}{p:sS}{E:TypeId}(h:w.heap[b]?=some (.cells #[.int .i64 p.kind,.int .i64 p.uj,.int .i64 p.to,.int .i64 p.step,.int .i64 p.ep,.int .i64 p.ng,.bool p.done,.bool p.failed] E (0,0)))(hT:T b=.box o):eU T w b o ⟨false,xw p⟩:=by
 refine akG h rfl hT fun j bv u hj hu=>?_
 match j,hj with
 |0,hj=>cases hj;cases hu;exact ⟨rfl,.int _ _⟩
 |1,hj=>cases hj;cases hu;exact ⟨rfl,.int _ _⟩
 |2,hj=>cases hj;cases hu;exact ⟨rfl,.int _ _⟩
 |3,hj=>cases hj;cases hu;exact ⟨rfl,.int _ _⟩
 |4,hj=>cases hj;cases hu;exact ⟨rfl,.int _ _⟩
 |5,hj=>cases hj;cases hu;exact ⟨rfl,.int _ _⟩
 |6,hj=>cases hj;cases hu;exact ⟨rfl,.bool _⟩
 |7,hj=>cases hj;cases hu;exact ⟨rfl,.bool _⟩
 |j+8,hj=>cases hj
theorem Kq {T:Tags}{w:World}{b o:Nat}{x0 x1 x2 x3:PV}{u0 u1 u2 u3:Value}{E:TypeId}(h:w.heap[b]?=some (.cells #[u0,u1,u2,u3] E (0,0)))(hT:T b=.box o)(o0:u0.oneCell'=true)(o1:u1.oneCell'=true)(o2:u2.oneCell'=true)(o3:u3.oneCell'=true)
  (p0:aA (fun b=>T b=.ro) w x0 u0) (p1:aA (fun b=>T b=.ro) w x1 u1) (p2:aA (fun b=>T b=.ro) w x2 u2) (p3:aA (fun b=>T b=.ro) w x3 u3):eU T w b o ⟨false,[.pv x0,.pv x1,.pv x2,.pv x3]⟩:=by
 refine akG h rfl hT fun j bv u hj hu=>?_
 match j,hj with
 |0,hj=>cases hj;cases hu;exact ⟨o0,p0⟩
 |1,hj=>cases hj;cases hu;exact ⟨o1,p1⟩
 |2,hj=>cases hj;cases hu;exact ⟨o2,p2⟩
 |3,hj=>cases hj;cases hu;exact ⟨o3,p3⟩
 |j+4,hj=>cases hj
theorem Le (w:World)(b:Nat)(cs:Array Value):w.grownBy (w.setRow b cs) (some b):=⟨rfl,rfl,rfl,by simp [World.setRow],fun k _ hne=>setRow_other w b k cs fun e=>hne (by rw [e])⟩
theorem allocs (w:World)(o p:Obj):∃ W,(w.alloc o).alloc p=W∧W.heap[w.heap.size]?=some o∧W.heap[w.heap.size+1]?=some p∧W.heap.size=w.heap.size+2∧Below w.heap.size w W :=
 ⟨_,rfl,Js p (Ci w o),by have:=Ci (w.alloc o) p;rwa [qK] at this,by rw [qK,qK],((Below.refl w.heap.size w).alloc (ze _) _).alloc (by rw [qK];omega) _⟩
theorem alloc1 (w:World)(o:Obj):∃ W,w.alloc o=W∧W.heap[w.heap.size]?=some o∧W.heap.size=w.heap.size+1∧Below w.heap.size w W :=
 ⟨_,rfl,Ci w o,qK _ _,(Below.refl w.heap.size w).alloc (ze _) _⟩
theorem agR {w:World}{D k:Nat}{arr:Array Value}{E:TypeId}(a b:Value)(h:w.heap[D]?=some (.cells arr E (0,0)))(hk:k+2≤arr.size):∃ w8 KT,w.setRow D (arr.toList.take k++(Value.agg #[a,b]).cells.toList++arr.toList.drop (k+(Value.agg #[a,b]).cells.toList.length)).toArray=w8∧w.grownBy w8 (some D)∧w8.heap[D]?=some (.cells KT E (0,0))∧w8.heap.size=w.heap.size∧KT.size=arr.size∧∀ j,KT[j]?=if j=k then some a else if j=k+1 then some b else arr[j]?:=by
 refine ⟨_,_,rfl,Le _ _ _,setRow_heap w D _ _ _ (0,0) h,wU _ _ _,?_,fun j=>ane arr k _ _ hk j⟩
 simp only [ZaX,List.length_append,List.length_take,List.length_drop,Array.length_toList]
 show min k arr.size+2+(arr.size - (k+2))=arr.size
 omega
theorem Nz {ok ok':Nat→Prop}{w w':World}{D c:Nat}{ds:List Bm}(h:Fe ok w D c ds)(hok:∀ b,ok b→ok' b)(hw:∀ b,ok b→b<w.heap.size→w'.heap[b]?=w.heap[b]?)(hD:w'.heap[D]?=w.heap[D]?):Fe ok' w' D c ds:=by
 obtain ⟨arr,E,d2,d3,d4,d5,d6⟩:=h
 refine ⟨arr,E,hD.trans d2,d3,d4,d5,fun i hi=>?_⟩
 obtain ⟨g1,u,g2,g3,g4⟩:=d6 i hi
 exact ⟨g1,u,g2,g3,g4.keep hok hw⟩
theorem agS {ok:Nat→Prop}{w:World}{p:Pt}{v1 v2 v3:Value}(h1:aA ok w (.list 3 (p.lin.map jY)) v1)(h2:aA ok w (.list 2 (p.dirty.map jq)) v2)(h3:aA ok w (.list 1 (p.img.map aX)) v3):aA ok w (FP p) (.agg #[.int .i64 p.site,v1,v2,v3]):=by
 refine .agg _ _ rfl (fun j v hv=>?_) (fun j x v hx hv=>?_)
 ·match j with
  |0=>cases hv;rfl
  |1=>cases hv;exact h1.cell1
  |2=>cases hv;exact h2.cell1
  |3=>cases hv;exact h3.cell1
  |j+4=>simp at hv
 ·match j with
  |0=>cases hv;cases hx;exact .int _ _
  |1=>cases hv;cases hx;exact h1
  |2=>cases hv;cases hx;exact h2
  |3=>cases hv;cases hx;exact h3
  |j+4=>simp at hv
theorem abV {ok:Nat→Prop}{w:World}{im:fG}{a:Option Addr}{n c:Nat}(h:aA ok w (.list 1 (im.map aX)) (.slice a n c))(h1:1≤im.length):∃ ib io,a=some ⟨ib,io,none⟩∧ok ib∧ib<w.heap.size∧∀ (v:Nat) (hv:v<im.length),∃ y m,w.cell? ⟨ib,io+v,none⟩=some (.slice y im[v].length m):=by
 obtain ⟨x,c',e,_,_,h4⟩:=h.gq
 cases e
 obtain ⟨b,off,rfl,hb,hc,_,h5⟩:=h4 (by rw [Z2];exact h1)
 refine ⟨b,off,rfl,hb,hc.lt,fun v hv=>?_⟩
 have he:(im.map aX)[v]?=some (.list 8 (im[v].map je)):=by rw [zb,ZS hv];rfl
 obtain ⟨u,g1,_,g3⟩:=h5 v _ he 0 _ rfl
 obtain ⟨y,m,rfl,_⟩:=g3.gq
 rw [Z2] at g1
 exact ⟨y,m,by rw [← g1,Nat.mul_one,Nat.add_zero]⟩
theorem NC {ok:Nat→Prop}{w:World}{L:List (List cZ)}{a:Option Addr}{n c:Nat}(h:aA ok w (.list 1 (L.map wH)) (.slice a n c))(h1:1≤L.length):∃ lb lo,a=some ⟨lb,lo,none⟩∧ok lb∧lb<w.heap.size∧∀ (v:Nat) (hv:v<L.length),∃ y m,w.cell? ⟨lb,lo+v,none⟩=some (.slice y L[v].length m)∧aA ok w (.list 2 (L[v].map cO)) (.slice y L[v].length m):=by
 obtain ⟨x,c',e,_,_,h4⟩:=h.gq
 cases e
 obtain ⟨b,off,rfl,hb,hc,_,h5⟩:=h4 (by rw [Z2];exact h1)
 refine ⟨b,off,rfl,hb,hc.lt,fun v hv=>?_⟩
 have he:(L.map wH)[v]?=some (.list 2 (L[v].map cO)):=by rw [zb,ZS hv];rfl
 obtain ⟨u,g1,_,g3⟩:=h5 v _ he 0 _ rfl
 obtain ⟨y,m,rfl,_⟩:=g3.gq
 rw [Z2] at g1 g3
 exact ⟨y,m,by rw [← g1,Nat.mul_one,Nat.add_zero],g3⟩
theorem anF {ok:Nat→Prop}{w:World}{b:Bm}{v:Value}(h:aA ok w (jq b) v):∃ x n c,v=.agg #[.int .i64 b.size,.slice x n c]∧aA ok w (.list 1 (b.ws.map eW)) (.slice x n c):=by
 obtain ⟨arr,rfl,h1,_,h3⟩:=h.lW
 obtain ⟨a,d,rfl⟩:=Bh h1
 have q0:=(h3 0 _ a rfl rfl).bP
 have q1:=h3 1 _ d rfl rfl
 obtain ⟨x,c,rfl,_⟩:=q1.gq
 exact ⟨x,_,c,by rw [q0],q1⟩
abbrev kL (w w2 w3 v:World)(b:Nat):Prop:=b<v.heap.size∧b≠w.heap.size∧b≠w2.heap.size∧b≠w2.heap.size+1∧b≠w3.heap.size
def aqh (ok:Nat→Prop)(v:World)(o:iT)(k:Nat)(arr:Array Value):Prop:=∀ j,j<o.im.length→arr[j*2]?=some (.int .i64 ((o.im.getD j []).length:Int))∧∃ u,arr[j*2+1]?=some u∧u.oneCell'=true∧aA ok v (.list 1 ((if j<k then mB o.im (zL o 0) j else mB o.im o.n j).ws.map eW)) u
def Tq (w w2 w3 v:World):Tags:=fun b=>if b=w.heap.size then .box 0 else if b=w2.heap.size then .box 1 else if b=w2.heap.size+1 then .box 2 else if b=w3.heap.size then .box 3 else if b<v.heap.size then .ro else .other
theorem agT {w w2 w3 v:World}{b:Nat}(h:kL w w2 w3 v b):Tq w w2 w3 v b=.ro:=by
 unfold Tq
 rw [if_neg h.2.1,if_neg h.2.2.1,if_neg h.2.2.2.1,if_neg h.2.2.2.2,if_pos h.1]
def sq (b0 b1 b2 b3:Nat):Nat→Nat
 |0=>b0
 |1=>b1
 |2=>b2
 |_=>b3
theorem ajS (y:List cZ):NoW (.list 2 (y.map cO)):=by
 refine .list _ _ (by decide) fun e he x hx=>?_
 obtain ⟨z,-,rfl⟩:=List.mem_map.1 he
 have hx:x∈[PV.int .i64 z.start,PV.int .i64 z.count]:=hx
 rcases Zaf.1 hx with rfl|hx
 ·exact .int _ _ (by decide)
 ·rw [Zav.1 hx];exact .int _ _ (by decide)
set_option maxRecDepth 100000 in
set_option maxHeartbeats 4000000 in
theorem Yh (hE:tY Tryz.prog env){o:iT}(ho:okO o)(hrs:o.rs.length+2≤VD){w:World}{u0 u1 u2 u3:Value}(hO:aA (fun b=>b<w.heap.size) w (U7 o) (.agg #[u0,u1,u2,u3]))(hG:su w) :
  Calls Tryz.prog 9 #[.agg #[u0,u1,u2,u3]] w (fun e w'=>e=.returned (.bool true)∧Below w.heap.size w w'):=by
 have cR:∀ W,Below w.heap.size w W→Calls Tryz.prog 22 #[.agg #[u0,u1,u2,u3]] W (fun e w'=>e=.returned (.bool (U8 o))∧Below W.heap.size W w'):=fun W hB =>
  (D6 hE (vs:=[.agg #[u0,u1,u2,u3]]) (apM ho hrs) ⟨hO.up hB,trivial⟩ (hG.below hB) fl1).mono (by
   rintro e w' ⟨v,rfl,hB,hv⟩
   have:=hv.one.iJ
   exact ⟨by rw [this],hB⟩)
 have hB0:Below w.heap.size w (w.alloc (.cells #[u0,u1,u2,u3] 59)):=(Below.refl _ _).alloc (ze _) _
 cases hr:U8 o with
 |false =>
  rw [hr] at cR
  go_enter Tryz.func9,Tryz.ntmps9
  go_wp2_with fail
  refine (cR _ hB0).mono ?_
  rintro e w1 ⟨rfl,hB1⟩
  have B1:=hB0.trans (hB1.mono hB0.size)
  go_wp2_with fail
  refine (Z8 (vs:=[]) hE UO trivial (hG.below B1)).mono ?_
  rintro e w2 ⟨rfl,hB2⟩
  go_wp2
  go_ret
  exact ⟨rfl,B1.trans (hB2.mono B1.size)⟩
 |true =>
  have hq:=anq ho hr
  have h:=hq.r
  rw [hr] at cR
  have hO0:=hO
  rw [wQ] at hO0
  obtain ⟨arr,he,-,-,hp⟩:=hO0.lW
  cases he
  have p0:=hp 0 _ u0 rfl rfl
  have p1:=hp 1 _ u1 rfl rfl
  have p2:=hp 2 _ u2 rfl rfl
  have p3:=hp 3 _ u3 rfl rfl
  clear hp hO0
  refine Calls.mono (R:=fun e w'=>∃ v T',e=.returned v∧Below w.heap.size w w'∧(∀ b,b<w.heap.size→T' b=(fun b=>if b<w.heap.size then qG.ro else qG.other) b)∧(∀ b,w'.heap.size≤b→T' b=.other)∧kG T' w' [(.bool true,false)] v) ?_ ?_
  rotate_left
  ·rintro e w' ⟨v,T',rfl,hB,-,-,arr,hz,rfl,hv⟩
   obtain ⟨x,rfl⟩:=arr1 hz
   have:=hv 0 _ x rfl rfl
   have hx:x=.bool true:=(show aA (fun b=>T' b=.ro) w' (.bool true) x from this).iJ
   subst hx
   exact ⟨rfl,hB⟩
  refine (callsIn_wide (n:=0)).1 (callsIn_of_wp_marks Tryz.func9 rfl trivial ?_)
  refine wpIn_wide.2 ?_
  simp only [Tryz.ntmps9,ZaX,List.length_cons,List.length_nil,Nat.reduceAdd,Nat.reduceSub,Array.replicate_succ,Array.replicate_zero,List.push_toArray,List.append_toArray,List.nil_append,List.cons_append]
  go_wp2_with fail
  refine (cR _ hB0).mono ?_
  rintro e w1 ⟨rfl,hB1⟩
  have A1:=dL (Ci w (.cells #[u0,u1,u2,u3] 59)) hB1
  have B1:=hB0.trans (hB1.mono hB0.size)
  clear hB1 hB0 cR
  have s0:=lS A1 (j:=0) rfl
  have s1:=lS A1 (j:=1) rfl
  have s2:=lS A1 (j:=2) rfl
  have s3:=lS A1 (j:=3) rfl
  go_wp2_with fail
  refine (X9 h (W:=w1) (ok:=fun b=>b<w1.heap.size∧b≠w.heap.size) (fun b hb=>hb.1) hE (hO.keep (fun b hb=>⟨Zae hb B1.size,by omega⟩) fun b hb _=>B1.block b hb) (hG.toK.frame fun b hb _=>⟨⟨Zae hb B1.size,by omega⟩,B1.block b hb⟩)).mono ?_
  rintro e w2 ⟨l1,d1,l2,d2,l3,d3,m1,e1,m3,e3,D,c,rfl,hB2,hD1,P1,P2,P3,P4,P5,R⟩
  have E1:(jP o.im o.n).length=o.im.length:=eY _ _
  have E2:(qj o.im o.n).length=o.im.length:=Gz h
  have l21:w1.heap.size≤w2.heap.size:=hB2.size
  have lA1:w.heap.size<w1.heap.size:=ltQ A1
  have hD2:D<w2.heap.size:=by obtain ⟨arr,E,d2,-⟩:=R;exact ltQ d2
  have hmk:∀ b,wS (fun b=>b<w1.heap.size∧b≠w.heap.size) w1 w2 b→b<w2.heap.size∧b≠w.heap.size:=fun b hb=>by
   rcases hb with hb|hb
   ·exact ⟨Zae hb.1 l21,hb.2⟩
   ·exact ⟨hb.2,by omega⟩
  have kp:∀ {x:PV} {v:Value},aA (fun k=>wS (fun b=>b<w1.heap.size∧b≠w.heap.size) w1 w2 k∧k≠D) w2 x v→aA (fun b=>(b<w2.heap.size∧b≠w.heap.size)∧b≠D) w2 x v:=fun h=>h.keep (fun b hb=>⟨hmk b hb.1,hb.2⟩) (fun _ _ _=>rfl)
  have P1:=kp P1
  have P2:=kp P2
  have P3:=kp P3
  have P4:=kp P4
  have P5:=kp P5
  have R:=Nz (ok':=fun b=>(b<w2.heap.size∧b≠w.heap.size)∧b≠D) R (fun b hb=>⟨hmk b hb.1,hb.2⟩) (fun _ _ _=>rfl) rfl
  have B2:=B1.trans (hB2.mono B1.size)
  have A1:=dL A1 hB2
  clear hmk s0 s1 s2 s3
  simp only [E1,E2] at P5 ⊢
  generalize (dF o).lin.length=k1 at *
  generalize (dF o).dirty.length=k2 at *
  generalize (dF o).img.length=k3 at *
  go_wp2_with fail
  obtain ⟨W3,hW3,A3,A4,z3,hB3⟩:=allocs w2 (.cells #[.int .i64 0,.slice l1 k1 d1,.slice l2 k2 d2,.slice l3 k3 d3] 29) (.cells #[.int .i64 1,.slice m1 2 e1,.slice (some ⟨D,0,none⟩) o.im.length c,.slice m3 o.im.length e3] 29)
  rw [hW3]
  have A1:=dL A1 hB3
  have ko:∀ b,(b<w2.heap.size∧b≠w.heap.size)∧b≠D→b<w2.heap.size∧b≠w.heap.size:=fun b hb=>hb.1
  have kf:∀ b,(b<w2.heap.size∧b≠w.heap.size)∧b≠D→b<w2.heap.size→W3.heap[b]?=w2.heap[b]?:=fun b _ hl=>hB3.block b hl
  have R3:=Nz R ko kf (hB3.block D hD2)
  have hDr:=Et R3 ⟨hD2,by omega⟩
  rw [E1] at hDr
  have B3:=B2.trans (hB3.mono B2.size)
  have G3:zJ (fun b=>b<w2.heap.size∧b≠w.heap.size) W3:=hG.toK.frame fun b hb _=>⟨⟨by have:=B2.size;omega,by omega⟩,B3.block b hb⟩
  refine Calls.mono (o8 (ok:=fun b=>b<w2.heap.size∧b≠w.heap.size) (fun b hb=>by have:=hb.1;omega) hE (vs:=[.agg #[.int .i64 0,.slice l1 k1 d1,.slice l2 k2 d2,.slice l3 k3 d3],.agg #[.int .i64 1,.slice m1 2 e1,.slice (some ⟨D,0,none⟩) o.im.length c,.slice m3 o.im.length e3],.int .i64 3]) (apt (a:=dF o) (b:=iF o) (ep:=3) (Eu h (im:=(dF o).img) (Fb h)).1 (ajI h).1) ⟨agS (p:=dF o) (P1.keep ko kf) (P2.keep ko kf) (P3.keep ko kf),agS (p:=iF o) (P4.keep ko kf) hDr (P5.keep ko kf),.int _ _,trivial⟩ G3 fl3) ?_
  rintro e w3 ⟨v,rfl,hB4,hv⟩
  obtain ⟨va,vb,vc,rfl,q1,q2,q3⟩:=hv.three
  have f1:=ajQ q1
  have f3:=q3.bP
  rw [ani h] at f1
  rw [Qz h] at f3
  subst f1 f3
  have eL:((qo (dF o) (iF o) 3).map wH).length=o.im.length:=by rw [Z2,abR h,lY]
  obtain ⟨lx,lc,rfl,-⟩:=q2.gq
  rw [eL] at q2 ⊢
  have B4:=B3.trans (hB4.mono B3.size)
  have A1:=dL A1 hB4
  have A3:=dL A3 hB4
  have A4:=dL A4 hB4
  have z23:w2.heap.size+2≤w3.heap.size:=by have:=hB4.size;omega
  have avq:w.heap.size<w3.heap.size:=ltQ A1
  have lA3:w2.heap.size<w3.heap.size:=ltQ A3
  have lA4:w2.heap.size+1<w3.heap.size:=ltQ A4
  have a3:=lS A3 (j:=3) rfl
  have b3:=lS A4 (j:=3) rfl
  have b2:=lS A4 (j:=2) rfl
  unfold aqf rfP
  clear hv q1 q3
  go_wp2_with fail
  obtain ⟨W4,hW4,A6,z4,hB5⟩:=alloc1 w3 (.cells #[.int .i64 3,.int .i64 1,.int .i64 0,.int .i64 0,.int .i64 3,.int .i64 5,.bool false,.bool false] 23)
  rw [hW4]
  have A1:=dL A1 hB5
  have A3:=dL A3 hB5
  have A4:=dL A4 hB5
  have B5:=B4.trans (hB5.mono B4.size)
  have B24:Below w2.heap.size w2 W4:=hB3.trans ((hB4.mono (by omega)).trans (hB5.mono (by omega)))
  have kw:∀ b,(b<w2.heap.size∧b≠w.heap.size)∧b≠D→b<W4.heap.size:=fun b hb=>by omega
  have kg:∀ b,(b<w2.heap.size∧b≠w.heap.size)∧b≠D→b<w2.heap.size→W4.heap[b]?=w2.heap[b]?:=fun b _ hl=>B24.block b hl
  have hva:∀ v∈(dF o).img,v.length≤24:=(abL (a:=(dF o).img) (b:=o.im) (Fb h) h.im9 h.v24).2
  have ha9:=JO h
  have hb9:=Gz h
  have h9:=h.im9
  have hcL:=apC (a:=(dF o).img) (b:=(iF o).img) (by omega) (by have:lim=1073741824:=rfl;omega) (fun v hv=>by have:=hva v hv;omega)
  rw [if_pos (QB h),QB h,ase h] at hcL
  refine Calls.mono (D6 hE (vs:=[.slice l3 k3 d3,.slice m3 o.im.length e3]) hcL ⟨P3.keep kw kg,P5.keep kw kg,trivial⟩ (hG.below B5) fl2) ?_
  rintro e w5 ⟨v,rfl,hB6,hv⟩
  obtain ⟨va,vb,rfl,q4,q5⟩:=hv.two
  have f4:=q4.bP
  have f5:=q5.bP
  subst f4 f5
  have A1:=dL A1 hB6
  have A3:=dL A3 hB6
  have A4:=dL A4 hB6
  have A6:=dL A6 hB6
  have B6:=B5.trans (hB6.mono B5.size)
  have b2:=lS A4 (j:=2) rfl
  clear hv q4 q5 a3 b3
  go_wp2_with fail
  have hLl:=lY (dF o) (iF o) o.im.length
  have hcC:=apR (l:=Qe (dF o) (iF o) o.im.length) (fun y hy=>by
   obtain ⟨v,hv,rfl⟩:=List.mem_iff_getElem.1 hy
   rw [hLl] at hv
   rw [Zc h hv]
   have:=vH Vw (o9 v (o.o++o.n)) []
   exact ⟨afZ _ (ze _),by unfold zi;omega⟩) (by omega)
  rw [← abR h,aqa hq] at hcC
  have B35:Below w3.heap.size w3 w5:=hB5.trans (hB6.mono (by omega))
  have asC:∀ b,okN (fun b=>b<w2.heap.size∧b≠w.heap.size) W3 w3 b→b<w3.heap.size∧b≠w.heap.size∧b≠w2.heap.size∧b≠w2.heap.size+1:=fun b hb=>by
   rcases hb with hb|hb
   ·omega
   ·have:=hb.2;omega
  have q2:=q2.keep (ok':=fun b=>b<w3.heap.size∧b≠w.heap.size∧b≠w2.heap.size∧b≠w2.heap.size+1) (w':=w5) asC (fun b _ hl=>B35.block b hl)
  refine Calls.mono (D6 hE (vs:=[.slice lx o.im.length lc]) hcC ⟨q2.keep (fun b hb=>by have:=B35.size;omega) (fun _ _ _=>rfl),trivial⟩ (hG.below B6) fl1) ?_
  rintro e w6 ⟨v,rfl,JY,hv⟩
  have f6:=hv.one.bP
  subst f6
  have A1:=dL A1 JY
  have A3:=dL A3 JY
  have A4:=dL A4 JY
  have A6:=dL A6 JY
  have B7:=B6.trans (JY.mono B6.size)
  have B26:Below w2.heap.size w2 w6:=B24.trans ((hB6.mono (by omega)).trans (JY.mono (by have:=hB6.size;omega)))
  have z6:w3.heap.size+1≤w6.heap.size:=by have:=hB6.size;have:=JY.size;omega
  have q2:=q2.keep (ok':=fun b=>b<w3.heap.size∧b≠w.heap.size∧b≠w2.heap.size∧b≠w2.heap.size+1) (w':=w6) (fun _ hb=>hb) (fun b _ hl=>JY.block b hl)
  clear hv b2 kw kg hB6 hB5 JY B35 B24 hcL hcC
  have hn1:1≤o.im.length:=Zck.2 (yH (qX h.eo)).1
  have hLn:(qo (dF o) (iF o) 3).length=o.im.length:=by rw [abR h,lY]
  have P5w:=P5.keep (w':=w6) (fun _ hb=>hb) (fun b _ hl=>B26.block b (by omega))
  obtain ⟨ib,io,rfl,hib,asD,hic⟩:=abV P5w (by rw [E2];exact hn1)
  obtain ⟨lb,lo,rfl,-,-,-⟩:=NC q2 (by rw [hLn];exact hn1)
  obtain ⟨xP,E,R1,R2,R3',R4,R5⟩:=R
  rw [E1] at R3'
  have R1:=(B26.block D hD2).trans R1
  go_wp2_with fail
  rename_i K hK
  have HK:=Lib.hid hK
  clear hK
  go_loopw [81] (fun i wr=>∃ k:Nat,k≤o.im.length∧i=.int .i64 k∧w6.grownBy wr (some D)∧aA (kL w w2 w3 wr) wr (.list 1 ((qo (dF o) (iF o) 3).map wH)) (.slice (some ⟨lb,lo,none⟩) o.im.length lc)∧∃ arr,wr.heap[D]?=some (.cells arr E (0,0))∧arr.size=c*2∧aqh (kL w w2 w3 wr) wr o k arr) (fun i _=>o.im.length - (intOf i).toNat)
  case atStart =>
   refine ⟨0,ZaM _,rfl,World.grownBy.refl _ _,q2.keep (fun b hb=>by omega) (fun _ _ _=>rfl),xP,R1,R2,fun j hj=>?_⟩
   obtain ⟨g1,u,g2,g3,g4⟩:=R5 j (by rw [E1];exact hj)
   obtain ⟨_,_,k3,_⟩:=vI (qF h.en) (lT h) j
   rw [qZ] at g1 g4
   rw [k3] at g1
   refine ⟨g1,u,g2,g3,?_⟩
   rw [if_neg (ZcS _)]
   exact g4.keep (fun b hb=>by have:=B26.size;omega) (fun b hb hl=>B26.block b (by omega))
  case round =>
   obtain ⟨k,hk,rfl,hg,hl,arr,D1',D2',D3'⟩:=hrel
   by_cases hlt:k<o.im.length
   ·have hDw:D<w6.heap.size:=by have:=B26.size;omega
    have hgb:∀ b,b<w6.heap.size→b≠D→wr.heap[b]?=w6.heap[b]?:=fun b hb hne=>hg.block b hb (fun e=>hne (by cases e;rfl))
    have A4r:=(hgb _ (by omega) (by omega)).trans A4
    have hsz:w6.heap.size≤wr.heap.size:=hg.size
    have b2:=wV (q:=k*2+1) D1' (lS A4r (j:=2) rfl) (fun e=>by omega)
    have b3:=wV (q:=k*2+1) D1' (lS A4r (j:=3) rfl) (fun e=>by omega)
    obtain ⟨y,m,hy⟩:=hic k (by rw [E2];exact hlt)
    have hyr:=(World.cell?_of_block (a:=⟨ib,io+k,none⟩) (hgb ib asD hib.2)).trans hy
    have i3:=wV (q:=k*2+1) D1' hyr (fun e=>absurd e hib.2)
    obtain ⟨lb',lo',e0,-,-,hlc⟩:=NC hl (by rw [hLn];exact hn1)
    cases e0
    obtain ⟨z,mz,hz,hzl⟩:=hlc k (by rw [hLn];exact hlt)
    obtain ⟨gk1,uk,gk2,gk3,gk4⟩:=D3' k hlt
    obtain ⟨kf,kb,ksz,auo⟩:=vI (AB hq (ZaM _)) (lT h) k
    obtain ⟨jf,jb,jsz,aup⟩:=vI (qF h.en) (lT h) k
    have hv1:1≤(o.im.getD k []).length:=by
     have:=(yH (qX h.eo)).2 _ (List.getElem_mem hlt)
     rw [getD_lt hlt]
     exact Zck.2 this
    have hws:1≤(mB o.im o.n k).ws.length:=by have:=(jM jb).2.2.2.1;omega
    rw [if_neg (Nat.lt_irrefl k)] at gk4
    have l3:=wV (q:=k*2+1) D1' hz (fun e he=>by
     subst e
     rw [cell_of_row _ _ _ _ _ (0,0) D1',he,gk2] at hz
     obtain ⟨bb,oo,nn,cc,kk,e1,e2,e3⟩:=J3 gk4 hws
     subst e1
     exact (ajS _).words hzl (ZD.inj hz).symm e2 e3)
    have aqj:(qj o.im o.n)[k].length=(o.im.getD k []).length:=by
     have g:=(gV (U9 h) k).1
     rw [← g]
     have e:(qj o.im o.n).getD k []=(qj o.im o.n)[k]:=getD_lt (by rw [E2];exact hlt)
     show _=((qj o.im o.n).getD k []).length
     rw [e]
    rw [aqj] at hy hyr i3
    go_wp2_with fail
    refine nI (fun w'=>∃ x:uP wr D (k*2+1),w'=x.w) [([0,1,2,3,4,5,6,7,8,9,10,11,12],13),([14,15,16,17],18)] [19] Tryz.mixed (by kernel_rfl) (uP.drew _ _ _) ?_
    refine l7 ?_
    simp only [pick,ZaO,ZaW,ZaL,ZaH,Zak]
    change wpQuiet _ _ _ _ (_::_::_::_::_::_::_::_::_::_::_::_::_::[]) _
    repeat (go_big_quiet_step (fail))
    refine wpQuiet_nil ?_
    change wpList _ _ _ [_] _ _
    go_wp2_with fail
    have hgl:o.im.getD k []=o.im[k]:=getD_lt hlt
    have hLk:(qo (dF o) (iF o) 3)[k]'(by rw [hLn];exact hlt)=zi (o9 k (zL o 0)):=(List.getElem_of_eq (abR h) _).trans (Zc h hlt)
    have hcX:=akv (l:=(qo (dF o) (iF o) 3)[k]'(by rw [hLn];exact hlt)) (n:=(o.im[k].length:Int)) (by
     rw [hLk]
     have:=vH Vw (o9 k (zL o 0)) []
     have hlim:lim=1073741824:=rfl
     unfold zi;omega)
    rw [hLk] at hcX
    rw [show fxO (o.im[k].length:Int) (zi (o9 k (zL o 0)))=mB o.im (zL o 0) k by unfold mB;rw [hgl],show fxE (o.im[k].length:Int) (zi (o9 k (zL o 0)))=0 by rw [← hgl];exact kf,← hLk] at hcX
    have Bw:=B7.grown hg B7.size (fun b e=>by cases e;omega)
    refine Calls.mono (o8 (w:=wr.drew) (ok:=kL w w2 w3 wr) (fun b hb=>hb.1) hE (vs:=[.int .i64 (o.im[k].length:Int),.slice z ((qo (dF o) (iF o) 3)[k]'(by rw [hLn];exact hlt)).length mz]) hcX ⟨.int _ _,hzl.keep (fun _ hb=>hb) (fun _ _ _=>rfl),trivial⟩ (hG.toK.frame fun b hb _=>⟨by have:=Bw.size;omega,Bw.block b hb⟩) fl2) ?_
    rintro e wc ⟨v,rfl,hBc,hv⟩
    obtain ⟨va,vb,rfl,q4,q5⟩:=hv.two
    have f5:=q5.bP
    subst f5
    obtain ⟨ux,un,uc,rfl,q6⟩:=anF q4.1
    have Kr:Below wr.heap.size wr wc:=(Below.refl wr.heap.size wr).drew.trans hBc
    clear hv q4 q5
    rw [ksz]
    have hcl:∀ b,okN (kL w w2 w3 wr) wr.drew wc b→kL w w2 w3 wc b:=fun b hb=>by
     have hs:wr.drew.heap.size=wr.heap.size:=rfl
     have hs2:=Kr.size
     rcases hb with hb|hb
     ·omega
     ·rw [hs] at hb;omega
    have q6:=q6.keep hcl (fun _ _ _=>rfl)
    have hup:∀ b,kL w w2 w3 wr b→kL w w2 w3 wc b:=fun b hb=>by have:=Kr.size;omega
    have hlw:=hl.keep (w':=wc) hup (fun b hb _=>Kr.block b hb.1)
    have gk4:=gk4.keep (w':=wc) hup (fun b hb _=>Kr.block b hb.1)
    have hDc:=dL D1' Kr
    have D3c:aqh (kL w w2 w3 wc) wc o k arr:=fun j hj=>by
     obtain ⟨g1,u,g2,g3,g4⟩:=D3' j hj
     exact ⟨g1,u,g2,g3,g4.keep hup (fun b hb _=>Kr.block b hb.1)⟩
    have hoff:k*2+2≤arr.size:=by rw [D2'];omega
    go_wp2_with fail
    refine ⟨uP.of Kr,?_⟩
    refine l7 ?_
    simp only [pick,ZaO,ZaW,ZaL,ZaH,Zak]
    change wpQuiet _ _ _ _ (_::_::_::_::[]) _
    repeat (go_big_quiet_step (fail))
    refine wpQuiet_nil ?_
    change wpList _ _ _ [_] _ _
    have aqk:=gk1
    rw [hgl] at aqk
    have hone:∀ u∈(Value.agg #[.int .i64 (o.im[k].length:Int),.slice ux un uc]).cells.toList,u.oneCell'=true:=fun u hu=>by
     have hu:u∈[Value.int .i64 (o.im[k].length:Int),.slice ux un uc]:=hu
     rcases Zaf.1 hu with rfl|hu
     ·rfl
     ·rw [Zav.1 hu];rfl
    refine JZ (b:=D) (off:=k*2) (v:=.agg #[.int .i64 (o.im[k].length:Int),.slice ux un uc]) rfl rfl rfl rfl (by kernel_rfl) hDc hoff hone ?_
    obtain ⟨w8,KT,hw8,hg8,hD8,hz8,h8z,h8⟩:=agR (.int .i64 (o.im[k].length:Int)) (.slice ux un uc) hDc hoff
    rw [hw8]
    rw [D2'] at h8z
    have h8o:∀ j,j≠k*2+1→KT[j]?=arr[j]?:=fun j hj=>by
     rw [h8 j]
     by_cases e:j=k*2
     ·rw [if_pos e,e,aqk]
     ·rw [if_neg e,if_neg hj]
    have hPk:Cc wc w8 D (k*2+1):=by
     obtain ⟨bb,oo,nn,cc,kk,e1,e2,e3⟩:=J3 gk4 hws
     refine ⟨fun b hb hl=>hg8.block b hl (fun e=>hb (by cases e;rfl)),⟨arr,KT,E,E,hDc,hD8,h8o⟩,bb,oo,nn,cc,kk,?_,e2,e3⟩
     rw [cell_of_row _ _ _ _ _ (0,0) hDc,gk2,e1]
    have hcls:∃ x:uP wr D (k*2+1),w8=x.w:=⟨⟨w8,by have:=Kr.size;omega,fun b hb hl=>(hPk.other b hb (by have:=Kr.size;omega)).trans (Kr.block b hl),fun arr1 E1 h1=>by
     rw [D1'] at h1
     cases h1
     exact ⟨KT,hD8,h8o⟩⟩,rfl⟩
    refine ⟨rfl,hcls,?_⟩
    simp only [Act.put]
    refine sZ ?_
    simp only [pick,ZaO,ZaW,ZaL,ZaH,Zak]
    change wpQuiet _ _ _ _ (_::[]) _
    repeat (go_big_quiet_step (fail))
    refine wpQuiet_nil ?_
    have hg9:w6.grownBy w8 (some D):=yB hg (yB (abv (below_grown Kr)) hg8)
    have h88:∀ b,kL w w2 w3 wc b→kL w w2 w3 w8 b:=fun b hb=>by omega
    have hl8:=hPk.keep h88 hlw (afo _)
    have q8:=hPk.words h88 q6
    clear hcls b2 b3 i3 l3
    go_wp2
    go_roundw
    case rel =>
     refine ⟨k+1,by omega,by go_num,hg9,hl8,KT,hD8,h8z,fun j hj=>?_⟩
     obtain ⟨g1,u,g2,g3,g4⟩:=D3c j hj
     rw [h8o (j*2) (by omega)]
     refine ⟨g1,?_⟩
     by_cases e:j=k
     ·subst e
      rw [h8,if_neg (by omega),if_pos rfl,if_pos (Nat.lt_succ_self _)]
      exact ⟨_,rfl,rfl,q8⟩
     ·rw [h8o (j*2+1) (by omega)]
      refine ⟨u,g2,g3,?_⟩
      rw [show (if j<k+1 then mB o.im (zL o 0) j else mB o.im o.n j)=(if j<k then mB o.im (zL o 0) j else mB o.im o.n j) by
       by_cases c:j<k
       ·rw [if_pos c,if_pos (by omega)]
       ·rw [if_neg c,if_neg (by omega)]]
      exact hPk.words h88 g4
    case measure=>simp [intOf];omega
   ·obtain rfl:k=o.im.length:=by omega
    go_wp2_with fail
    refine HK.out _ _ ?_
    have Bw:=B7.grown hg B7.size (fun b e=>by cases e;omega)
    have hsz:w6.heap.size≤wr.heap.size:=hg.size
    have hgb:∀ b,b<w6.heap.size→b≠D→wr.heap[b]?=w6.heap[b]?:=fun b hb hne=>hg.block b hb (fun e=>hne (by cases e;rfl))
    have avz:=B26.size
    have A1r:=(hgb _ (by omega) (by omega)).trans A1
    have A3r:=(hgb _ (by omega) (by omega)).trans A3
    have A4r:=(hgb _ (by omega) (by omega)).trans A4
    have A6r:=(hgb _ (by omega) (by omega)).trans A6
    have t0:∀ b,b<w.heap.size→Tq w w2 w3 wr b=.ro:=fun b hb=>agT (by unfold kL;omega)
    have t2:∀ b,(b<w2.heap.size∧b≠w.heap.size)∧b≠D→Tq w w2 w3 wr b=.ro:=fun b hb=>agT (by unfold kL;omega)
    have f0:∀ b,b<w.heap.size→b<w.heap.size→wr.heap[b]?=w.heap[b]?:=fun b hb _=>Bw.block b hb
    have f2:∀ b,(b<w2.heap.size∧b≠w.heap.size)∧b≠D→b<w2.heap.size→wr.heap[b]?=w2.heap[b]?:=fun b hb hl=>(hgb b (by omega) hb.2).trans (B26.block b hl)
    have hTd:∀ b,kL w w2 w3 wr b→Tq w w2 w3 wr b=.ro:=fun b hb=>agT hb
    have hDd:Fe (fun b=>Tq w w2 w3 wr b=.ro) wr D c (xB o 0):=by
     refine ⟨arr,E,D1',D2',by show (jP o.im (zL o 0)).length≤c;rw [eY];exact R3',R4,fun i hi=>?_⟩
     have hi':i<o.im.length:=by rw [show (xB o 0).length=o.im.length from eY _ _] at hi;exact hi
     obtain ⟨g1,u,g2,g3,g4⟩:=D3' i hi'
     obtain ⟨_,_,ksz,_⟩:=vI (AB hq (ZaM _)) (lT h) i
     have eD:(xB o 0)[i]=mB o.im (zL o 0) i:=qZ (im:=o.im) (l:=zL o 0) hi
     rw [if_pos hi'] at g4
     rw [eD,ksz]
     exact ⟨g1,u,g2,g3,g4.keep hTd (fun _ _ _=>rfl)⟩
    have hDp:=Et hDd (hTd D (by omega))
    rw [show (xB o 0).length=o.im.length from eY _ _] at hDp
    have g0:eU (Tq w w2 w3 wr) wr w.heap.size 0 ⟨false,bOut o⟩:=Kq A1r (by unfold Tq;rw [if_pos rfl]) p0.cell1 p1.cell1 p2.cell1 p3.cell1 (p0.keep t0 f0) (p1.keep t0 f0) (p2.keep t0 f0) (p3.keep t0 f0)
    have g1:eU (Tq w w2 w3 wr) wr w2.heap.size 1 ⟨false,qU (QA o 0)⟩:=Kq A3r (by unfold Tq;rw [if_neg (by omega),if_pos rfl]) rfl rfl rfl rfl (.int _ _) (P1.keep t2 f2) (P2.keep t2 f2) (P3.keep t2 f2)
    have g2:eU (Tq w w2 w3 wr) wr (w2.heap.size+1) 2 ⟨false,qU (rC o 0)⟩:=Kq A4r (by unfold Tq;rw [if_neg (by omega),if_neg (by omega),if_pos rfl]) rfl rfl rfl rfl (.int _ _) (P4.keep t2 f2) hDp (P5.keep t2 f2)
    have g3:eU (Tq w w2 w3 wr) wr w3.heap.size 3 ⟨false,xw (jO 0)⟩:=ajR (p:=jO 0) A6r (by unfold Tq;rw [if_neg (by omega),if_neg (by omega),if_neg (by omega),if_pos rfl])
    have hf:∀ b,wr.heap.size≤b→Tq w w2 w3 wr b=.other:=fun b hb=>by
     unfold Tq
     rw [if_neg (by omega),if_neg (by omega),if_neg (by omega),if_neg (by omega),if_neg (by omega)]
    have hJ:jU (fun b=>if b<w.heap.size then qG.ro else qG.other) w 0 (Tq w w2 w3 wr) wr:=⟨Bw,fun b hb=>by rw [t0 b hb];exact (if_pos hb).symm⟩
    refine agx (T0:=fun b=>if b<w.heap.size then qG.ro else qG.other) (w0:=w) hE (g:=Tryz.f9) (res:=[.tmp 2]) (by kernel_rfl) (fun b=>?_) hG (vc:=s3q) (by kernel_rfl) (anE hq) rfl (σ:=sq w.heap.size w2.heap.size (w2.heap.size+1) w3.heap.size) (aqg rfl rfl rfl rfl rfl rfl rfl g0 g1 g2 g3 hf) hJ rfl
    by_cases hb:b<w.heap.size
    ·exact .inl (if_pos hb)
    ·exact .inr (if_neg hb)
end Go.Proofs.YtioijcfcehhmdaaGreatDoor
namespace Go.Proofs.YtioijcfcehhmdaaGreatDoor
open Go.RowKit
theorem Vp (n:Int)(w:World):Calls Tryz.prog 51 #[.bool true,.int .i64 n] w fun e w'=>e=.returned (.tuple #[])∧w'=w:=by
 go_enter Tryz.func51,Tryz.ntmps51
 have hnot:∀ (x:Bool) (w:World),(Op.unary .not (.bool x)).run Tryz.prog w=.ok (.bool (!x)) w:=fun _ _=>rfl
 go_wp2
 go_end0
 exact ⟨rfl,rfl⟩
theorem QO (n:Int)(w:World):Calls Tryz.prog 51 #[.bool false,.int .i64 n] w fun e w'=>e=.panicked [{ v:=.iface 148 (.int .i64 n),recovered:=false }]∧w'=w:=by
 go_enter Tryz.func51,Tryz.ntmps51
 have hnot:∀ (x:Bool) (w:World),(Op.unary .not (.bool x)).run Tryz.prog w=.ok (.bool (!x)) w:=fun _ _=>rfl
 have hp:=run_panic_iface (P:=Tryz.prog) 148 (.int .i64 n)
 go_wp2
 exact ⟨rfl,rfl,rfl⟩
theorem Yi {w:World}{b:Nat}{x v:Value}{E:TypeId}(h:w.heap[b]?=some (.cells #[x] E (0,0))):w.setCell ⟨b,0,none⟩ v=w.setRow b #[v]:=by
 simp only [World.setCell,World.setRow]
 congr 1
 refine Array.ext_getElem? fun i=>?_
 rw [ZcJ,ZcJ]
 by_cases e:b=i
 ·subst e
  simp [h]
 ·simp [e]
theorem xk {F:Fence}{k:Nat}{P:Program}{ops:Array Oper}{Q:Exit→Act→World→Prop}{rest:List Oper}{a:Act}{w w1:World}{o:Oper}(hF:F=Fence.wide)(hg:o.guard=none){v:Value}{nx:Next}(hr:(execOp a.eval o).run P w=.ok nx w1)(hnx:nx=.value v∨nx=.skip∧v=undef)(hd:∀ c,o.op≠.defer c)
  (h:wpListIn F k P ops Q rest (a.put o.dst v) w1):wpListIn F k P ops Q (o::rest) a w:=by
 subst hF
 have hw:Region.wanted o (yielded ops a.tmps)=true:=by simp only [Region.wanted,hg]
 simp only [wpListIn,hw,↓reduceIte]
 refine ⟨fun f _=>trivial,?_⟩
 rw [semAt_eq hd,hr]
 rcases hnx with rfl|⟨rfl,rfl⟩
 ·exact h
 ·exact h
theorem Vq (b:Nat)(m n:Int)(E:TypeId)(w:World)(h:w.heap[b]?=some (.cells #[.int .i64 m] E (0,0))):CallsDIn Fence.wide 0 Tryz.prog 47 #[.pointer (some ⟨b,0,none⟩)] (.panicking [{ v:=.iface 148 (.int .i64 n),recovered:=false }]) w fun e u' w'=>e=.returned (.tuple #[])∧settle u'=.returning∧w'=w.setRow b #[.int .i64 n]:=by
 have hc:w.cell? ⟨b,0,none⟩=some (.int .i64 m):=by rw [cell_of_row w _ _ _ _ (0,0) h];rfl
 have hz:w.frozen? ⟨b,0,none⟩=false:=by
  simp only [World.frozen?,h]
  rw [decide_eq_false (ZcS 0),Bool.and_false]
 have hS:=Yi (v:=.int .i64 n) h
 refine callsDIn_of_wpSIn Tryz.func47 rfl trivial fun c₀ cs hu=>?_
 apply wpSIn_seq
 apply wpSIn_region
 simp [wpOpsSIn,go_sem,recoverD,hu,Tryz.ntmps47,Exit.thenS]
 refine wpSIn_of_wpIn rfl ?_
 obtain ⟨I,hI⟩:∃ I:Value,I=.iface 148 (.int .i64 n):=⟨_,rfl⟩
 have hta:(Instr.typeAssert I 20 148 true).run Tryz.prog w=.ok (.tuple #[.int .i64 n,.bool true]) w:=by
  rw [hI];simp [Instr.typeAssert,run_underlying Tryz.underlying148]
 have heq:(do eqGuard .eql 20 (.tmp 6) (.const .nilIface) I .nilIface;Go.binOp .eql 20 I .nilIface:Sem Value).run Tryz.prog w=.ok (.bool false) w:=by
  rw [hI]
  simp [eqGuard,go_sem]
 refine wpIn_seq (wpIn_seq (wpIn_region_list ?_))
 refine xk (w1:=w) rfl rfl (v:=I) (nx:=.value I) (by simp [execOp,Act.eval,Act.put,hI]) (.inl rfl) (by intro c h;cases h) ?_
 refine xk (w1:=w) rfl rfl (v:=.bool false) (nx:=.value (.bool false)) (by simp [execOp,Act.eval,Act.put,hI,eqGuard,go_sem]) (.inl rfl) (by intro c h;cases h) ?_
 simp only [wpListIn,Exit.then]
 refine wpIn_cond (t:=false) (by simp [Act.eval,Act.put]) ?_
 simp only [zg,if_false]
 refine wpIn_skip ?_
 simp only [Exit.then]
 refine wpIn_seq (wpIn_region_list ?_)
 refine xk (w1:=w) rfl rfl (v:=I) (nx:=.value I) (by simp [execOp,Act.eval,Act.put,hI]) (.inl rfl) (by intro c h;cases h) ?_
 refine xk (w1:=w) rfl rfl (v:=.tuple #[.int .i64 n,.bool true]) (nx:=.value (.tuple #[.int .i64 n,.bool true])) (by rw [hI] at hta;simp [execOp,Act.eval,Act.put,hI,hta]) (.inl rfl) (by intro c h;cases h) ?_
 refine xk (w1:=w) rfl rfl (v:=.tuple #[.int .i64 n,.bool true]) (nx:=.value (.tuple #[.int .i64 n,.bool true])) (by simp [execOp,Act.eval,Act.put,hI]) (.inl rfl) (by intro c h;cases h) ?_
 refine xk (w1:=w) rfl rfl (v:=.int .i64 n) (nx:=.value (.int .i64 n)) (by simp [execOp,Act.eval,Act.put,hI,go_sem]) (.inl rfl) (by intro c h;cases h) ?_
 refine xk (w1:=w) rfl rfl (v:=.bool true) (nx:=.value (.bool true)) (by simp [execOp,Act.eval,Act.put,hI,go_sem]) (.inl rfl) (by intro c h;cases h) ?_
 refine xk (w1:=w) rfl rfl (v:=.int .i64 n) (nx:=.value (.int .i64 n)) (by simp [execOp,Act.eval,Act.put,hI]) (.inl rfl) (by intro c h;cases h) ?_
 refine xk (w1:=w) rfl rfl (v:=.bool true) (nx:=.value (.bool true)) (by simp [execOp,Act.eval,Act.put,hI]) (.inl rfl) (by intro c h;cases h) ?_
 simp only [wpListIn,Exit.then]
 refine wpIn_seq (wpIn_seq (wpIn_region_list ?_))
 refine xk (w1:=w) rfl rfl (v:=.bool true) (nx:=.value (.bool true)) (by simp [execOp,Act.eval,Act.put,hI]) (.inl rfl) (by intro c h;cases h) ?_
 refine xk (w1:=w) rfl rfl (v:=.bool false) (nx:=.value (.bool false)) (by simp [execOp,Act.eval,Act.put,hI,go_sem]) (.inl rfl) (by intro c h;cases h) ?_
 simp only [wpListIn,Exit.then]
 refine wpIn_cond (t:=false) (by simp [Act.eval,Act.put]) ?_
 simp only [zg,if_false]
 refine wpIn_skip ?_
 simp only [Exit.then]
 refine wpIn_region_list ?_
 refine xk (w1:=w) rfl rfl (v:=.pointer (some ⟨b,0,none⟩)) (nx:=.value (.pointer (some ⟨b,0,none⟩))) (by simp [execOp,Act.eval,Act.put,hI]) (.inl rfl) (by intro c h;cases h) ?_
 refine xk (w1:=w) rfl rfl (v:=.int .i64 n) (nx:=.value (.int .i64 n)) (by simp [execOp,Act.eval,Act.put,hI]) (.inl rfl) (by intro c h;cases h) ?_
 refine xk (w1:=w) rfl rfl (v:=.pointer (some ⟨b,0,none⟩)) (nx:=.value (.pointer (some ⟨b,0,none⟩))) (by simp [execOp,Act.eval,Act.put,hI,go_sem]) (.inl rfl) (by intro c h;cases h) ?_
 refine xk (w1:=w.setRow b #[.int .i64 n]) rfl rfl (v:=undef) (nx:=.skip) (by simp [execOp,Act.eval,Act.put,hI,go_sem,hc,hz,hS]) (.inr ⟨rfl,rfl⟩) (by intro c h;cases h) ?_
 simp only [wpListIn]
 simp [bodyPostS,results,Tryz.results47,settle,Act.put]
theorem QS (b:Nat)(w:World):CallsDIn Fence.wide 0 Tryz.prog 47 #[.pointer (some ⟨b,0,none⟩)] .returning w fun e u' w'=>e=.returned (.tuple #[])∧settle u'=.returning∧w'=w:=by
 refine callsDIn_of_wpSIn Tryz.func47 rfl trivial fun c₀ cs hu=>?_
 apply wpSIn_seq
 apply wpSIn_region
 simp [wpOpsSIn,go_sem,recoverD,hu,Tryz.ntmps47,Exit.thenS]
 refine wpSIn_of_wpIn rfl ?_
 refine wpIn_seq (wpIn_seq (wpIn_region_list ?_))
 refine xk (w1:=w) rfl rfl (v:=.nilIface) (nx:=.value .nilIface) (by simp [execOp,Act.eval,Act.put]) (.inl rfl) (by intro c h;cases h) ?_
 refine xk (w1:=w) rfl rfl (v:=.bool true) (nx:=.value (.bool true)) (by simp [execOp,Act.eval,Act.put,eqGuard,go_sem]) (.inl rfl) (by intro c h;cases h) ?_
 simp only [wpListIn,Exit.then]
 refine wpIn_cond (t:=true) (by simp [Act.eval,Act.put]) ?_
 simp only [if_true]
 refine wpIn_ret ?_
 simp only [Exit.then]
 simp [bodyPostS,results,Tryz.results47,settle,Act.put]
 cases c₀
 simp_all
theorem QT:Ia Tryz.prog 47 148:=⟨by kernel_rfl,fun b m n E w h=>Vq b m n E w h,fun b w=>QS b w⟩
theorem abW:(∀ args,wG args=some none→callable Tryz.prog 51=true∧nP Tryz.prog 51 args [])∧∀ args t n,wG args=some (some (t,n))→callable Tryz.prog 51=true∧RF Tryz.prog 51 args t n:=by
 have hc:callable Tryz.prog 51=true:=by kernel_rfl
 refine ⟨fun args h=>⟨hc,fun T0 w vs h0 hf hl hr hG=>?_⟩,fun args t n h=>⟨hc,fun T0 w vs h0 hf hl hr hG=>?_⟩⟩
 ·unfold wG at h
  split at h<;>try (cases h;done)
  match vs,hl with
  |[u,v],_ =>
   have e1:=(hr 0 _ u rfl rfl).iJ
   have e2:=(hr 1 _ v rfl rfl).bP
   subst e1;subst e2
   refine (Vp _ w).mono ?_
   rintro e w' ⟨rfl,rfl⟩
   exact ⟨.tuple #[],T0,rfl,Below.refl _ _,fun _ _=>rfl,hf,#[],rfl,rfl,fun i r u hr=>by simp at hr⟩
 ·unfold wG at h
  split at h<;>try (cases h;done)
  cases h
  match vs,hl with
  |[u,v],_ =>
   have e1:=(hr 0 _ u rfl rfl).iJ
   have e2:=(hr 1 _ v rfl rfl).bP
   subst e1;subst e2
   refine (QO _ w).mono ?_
   rintro e w' ⟨rfl,rfl⟩
   exact ⟨rfl,Below.refl _ _⟩
theorem vK {P:Program}{T0:TypeId}{w:World}{b:Nat}{v:Value}{arr:Array Value}{E:TypeId}(hs:iZ P T0=some v.cells.size)(hb:w.heap[b]?=some (.cells arr E (0,0)))(hl:arr.size=v.cells.size)(h1:∀ u∈v.cells.toList,u.oneCell'=true) :
  (Instr.storeAt T0 (.pointer (some ⟨b,0,none⟩)) v).run P w=.ok () (w.setRow b v.cells):=by
 have:=jT (P:=P) (T0:=T0) (off:=0) hs hb (by omega) h1
 have e:arr.toList.drop (0+v.cells.toList.length)=[]:=List.drop_eq_nil_of_le (by simp [hl])
 rw [e] at this
 simp [Instr.storeAt,Instr.sureAddr]
 simpa using this
theorem agU {bs:List Nat}(h:bs.length=1):∃ b,bs=[b]:=by
 match bs,h with
 |[b],_=>exact ⟨b,rfl⟩
theorem QU {bs:List Nat}(h:bs.length=2):∃ b c,bs=[b,c]:=by
 match bs,h with
 |[b,c],_=>exact ⟨b,c,rfl⟩
theorem Vr:Af Tryz.prog 62 [[.int .i64 0,.int .i64 0,.int .i64 0,.int .i64 0,.int .i64 0,.int .i64 0,.bool false,.bool false]]:=by
 refine ⟨by kernel_rfl,fun be bs E w hl h=>?_,fun be bs m E w hm hl h hb hn=>?_⟩
 ·obtain ⟨b0,rfl⟩:=agU hl
  have hc:w.cell? ⟨be,0,none⟩=some (.int .i64 0):=by rw [cell_of_row w _ _ _ _ (0,0) h];rfl
  refine (callsDIn_of_wp (R:=fun e w'=>e=.returned (.tuple #[])∧w'=w) Tryz.func62 rfl trivial ?_).mono (by rintro e u' w' ⟨rfl,rfl,rfl⟩;exact ⟨rfl,rfl,rfl⟩)
  simp only [ptrs,Zaj,Zai,Tryz.ntmps62]
  refine wpIn_seq (wpIn_region_list ?_)
  refine xk (w1:=w) rfl rfl (v:=.int .i64 0) (nx:=.value (.int .i64 0)) (by simp [execOp,Act.eval,Act.put,go_sem,hc]) (.inl rfl) (by intro c h;cases h) ?_
  refine xk (w1:=w) rfl rfl (v:=.bool false) (nx:=.value (.bool false)) (by simp [execOp,Act.eval,Act.put,eqGuard,go_sem]) (.inl rfl) (by intro c h;cases h) ?_
  simp only [wpListIn,Exit.then]
  refine wpIn_cond (t:=false) (by simp [Act.eval,Act.put]) ?_
  simp only [zg,if_false]
  refine wpIn_skip ?_
  simp [bodyPost,results,Tryz.results62,Act.put]
 ·obtain ⟨b0,rfl⟩:=agU hl
  have hc:w.cell? ⟨be,0,none⟩=some (.int .i64 m):=by rw [cell_of_row w _ _ _ _ (0,0) h];rfl
  refine (callsDIn_of_wp (R:=fun e w'=>e=.returned (.tuple #[])∧w'=nX [b0] [[.int .i64 0,.int .i64 0,.int .i64 0,.int .i64 0,.int .i64 0,.int .i64 0,.bool false,.bool false]] w) Tryz.func62 rfl trivial ?_).mono (by rintro e u' w' ⟨rfl,rfl,rfl⟩;exact ⟨rfl,rfl,rfl⟩)
  simp only [ptrs,Zaj,Zai,Tryz.ntmps62]
  refine wpIn_seq (wpIn_region_list ?_)
  have hm':(m != 0)=true:=by simpa using hm
  obtain ⟨xP,E0,g0,s0⟩:=hb 0 b0 _ rfl rfl
  refine xk (w1:=w) rfl rfl (v:=.int .i64 m) (nx:=.value (.int .i64 m)) (by simp [execOp,Act.eval,Act.put,go_sem,hc]) (.inl rfl) (by intro c h;cases h) ?_
  refine xk (w1:=w) rfl rfl (v:=.bool true) (nx:=.value (.bool true)) (by simp [execOp,Act.eval,Act.put,eqGuard,go_sem,hm']) (.inl rfl) (by intro c h;cases h) ?_
  simp only [wpListIn,Exit.then]
  refine wpIn_cond (t:=true) (by simp [Act.eval,Act.put]) ?_
  simp only [if_true]
  refine wpIn_region_list ?_
  refine xk (w1:=w) rfl rfl (v:=.agg #[.int .i64 0,.int .i64 0,.int .i64 0,.int .i64 0,.int .i64 0,.int .i64 0,.bool false,.bool false]) (nx:=.value (.agg #[.int .i64 0,.int .i64 0,.int .i64 0,.int .i64 0,.int .i64 0,.int .i64 0,.bool false,.bool false])) (by simp [execOp,Act.eval,Act.put,go_sem]) (.inl rfl) (by intro c h;cases h) ?_
  have S0:=vK (P:=Tryz.prog) (T0:=23) (v:=.agg #[.int .i64 0,.int .i64 0,.int .i64 0,.int .i64 0,.int .i64 0,.int .i64 0,.bool false,.bool false]) (by kernel_rfl) g0 (by rw [s0];rfl) (by simp [Value.cells,Value.oneCell'])
  refine xk (w1:=(w.setRow b0 #[.int .i64 0,.int .i64 0,.int .i64 0,.int .i64 0,.int .i64 0,.int .i64 0,.bool false,.bool false])) rfl rfl (v:=undef) (nx:=.skip) (by simp [execOp,Act.eval,Act.put];simp [S0,Value.cells]) (.inr ⟨rfl,rfl⟩) (by intro c h;cases h) ?_
  simp only [wpListIn]
  simp [bodyPost,results,Tryz.results62,Act.put,nX,zval,Value.cells]
theorem Yj:Af Tryz.prog 68 [[.int .i64 0,.int .i64 0,.int .i64 0,.int .i64 0,.int .i64 0,.int .i64 0,.bool false,.bool false],[.list 1 []]]:=by
 refine ⟨by kernel_rfl,fun be bs E w hl h=>?_,fun be bs m E w hm hl h hb hn=>?_⟩
 ·obtain ⟨b0,b1,rfl⟩:=QU hl
  have hc:w.cell? ⟨be,0,none⟩=some (.int .i64 0):=by rw [cell_of_row w _ _ _ _ (0,0) h];rfl
  refine (callsDIn_of_wp (R:=fun e w'=>e=.returned (.tuple #[])∧w'=w) Tryz.func68 rfl trivial ?_).mono (by rintro e u' w' ⟨rfl,rfl,rfl⟩;exact ⟨rfl,rfl,rfl⟩)
  simp only [ptrs,Zaj,Zai,Tryz.ntmps68]
  refine wpIn_seq (wpIn_region_list ?_)
  refine xk (w1:=w) rfl rfl (v:=.int .i64 0) (nx:=.value (.int .i64 0)) (by simp [execOp,Act.eval,Act.put,go_sem,hc]) (.inl rfl) (by intro c h;cases h) ?_
  refine xk (w1:=w) rfl rfl (v:=.bool false) (nx:=.value (.bool false)) (by simp [execOp,Act.eval,Act.put,eqGuard,go_sem]) (.inl rfl) (by intro c h;cases h) ?_
  simp only [wpListIn,Exit.then]
  refine wpIn_cond (t:=false) (by simp [Act.eval,Act.put]) ?_
  simp only [zg,if_false]
  refine wpIn_skip ?_
  simp [bodyPost,results,Tryz.results68,Act.put]
 ·obtain ⟨b0,b1,rfl⟩:=QU hl
  have hc:w.cell? ⟨be,0,none⟩=some (.int .i64 m):=by rw [cell_of_row w _ _ _ _ (0,0) h];rfl
  refine (callsDIn_of_wp (R:=fun e w'=>e=.returned (.tuple #[])∧w'=nX [b0,b1] [[.int .i64 0,.int .i64 0,.int .i64 0,.int .i64 0,.int .i64 0,.int .i64 0,.bool false,.bool false],[.list 1 []]] w) Tryz.func68 rfl trivial ?_).mono (by rintro e u' w' ⟨rfl,rfl,rfl⟩;exact ⟨rfl,rfl,rfl⟩)
  simp only [ptrs,Zaj,Zai,Tryz.ntmps68]
  refine wpIn_seq (wpIn_region_list ?_)
  have hm':(m != 0)=true:=by simpa using hm
  obtain ⟨xP,E0,g0,s0⟩:=hb 0 b0 _ rfl rfl
  obtain ⟨arr1,E1,g1,s1⟩:=hb 1 b1 _ rfl rfl
  have hne:b1≠b0:=fun e=>by subst e;simp at hn
  refine xk (w1:=w) rfl rfl (v:=.int .i64 m) (nx:=.value (.int .i64 m)) (by simp [execOp,Act.eval,Act.put,go_sem,hc]) (.inl rfl) (by intro c h;cases h) ?_
  refine xk (w1:=w) rfl rfl (v:=.bool true) (nx:=.value (.bool true)) (by simp [execOp,Act.eval,Act.put,eqGuard,go_sem,hm']) (.inl rfl) (by intro c h;cases h) ?_
  simp only [wpListIn,Exit.then]
  refine wpIn_cond (t:=true) (by simp [Act.eval,Act.put]) ?_
  simp only [if_true]
  refine wpIn_region_list ?_
  refine xk (w1:=w) rfl rfl (v:=.agg #[.int .i64 0,.int .i64 0,.int .i64 0,.int .i64 0,.int .i64 0,.int .i64 0,.bool false,.bool false]) (nx:=.value (.agg #[.int .i64 0,.int .i64 0,.int .i64 0,.int .i64 0,.int .i64 0,.int .i64 0,.bool false,.bool false])) (by simp [execOp,Act.eval,Act.put,go_sem]) (.inl rfl) (by intro c h;cases h) ?_
  have S0:=vK (P:=Tryz.prog) (T0:=23) (v:=.agg #[.int .i64 0,.int .i64 0,.int .i64 0,.int .i64 0,.int .i64 0,.int .i64 0,.bool false,.bool false]) (by kernel_rfl) g0 (by rw [s0];rfl) (by simp [Value.cells,Value.oneCell'])
  refine xk (w1:=(w.setRow b0 #[.int .i64 0,.int .i64 0,.int .i64 0,.int .i64 0,.int .i64 0,.int .i64 0,.bool false,.bool false])) rfl rfl (v:=undef) (nx:=.skip) (by simp [execOp,Act.eval,Act.put];simp [S0,Value.cells]) (.inr ⟨rfl,rfl⟩) (by intro c h;cases h) ?_
  have S1:=vK (P:=Tryz.prog) (w:=w.setRow b0 #[.int .i64 0,.int .i64 0,.int .i64 0,.int .i64 0,.int .i64 0,.int .i64 0,.bool false,.bool false]) (T0:=62) (v:=.slice none 0 0) (by kernel_rfl) ((setRow_other w b0 b1 _ hne).trans g1) (by rw [s1];rfl) (by simp [Value.cells,Value.oneCell'])
  refine xk (w1:=((w.setRow b0 #[.int .i64 0,.int .i64 0,.int .i64 0,.int .i64 0,.int .i64 0,.int .i64 0,.bool false,.bool false]).setRow b1 #[.slice none 0 0])) rfl rfl (v:=undef) (nx:=.skip) (by simp [execOp,Act.eval,Act.put];simp [S1,Value.cells]) (.inr ⟨rfl,rfl⟩) (by intro c h;cases h) ?_
  simp only [wpListIn]
  simp [bodyPost,results,Tryz.results68,Act.put,nX,zval,Value.cells]
theorem Yk:Af Tryz.prog 46 [[.int .i64 0,.int .i64 0,.int .i64 0,.int .i64 0,.int .i64 0,.int .i64 0,.bool false,.bool false],[.int .i64 0,.int .i64 0,.int .i64 0,.list 1 [],.list 3 []]]:=by
 refine ⟨by kernel_rfl,fun be bs E w hl h=>?_,fun be bs m E w hm hl h hb hn=>?_⟩
 ·obtain ⟨b0,b1,rfl⟩:=QU hl
  have hc:w.cell? ⟨be,0,none⟩=some (.int .i64 0):=by rw [cell_of_row w _ _ _ _ (0,0) h];rfl
  refine (callsDIn_of_wp (R:=fun e w'=>e=.returned (.tuple #[])∧w'=w) Tryz.func46 rfl trivial ?_).mono (by rintro e u' w' ⟨rfl,rfl,rfl⟩;exact ⟨rfl,rfl,rfl⟩)
  simp only [ptrs,Zaj,Zai,Tryz.ntmps46]
  refine wpIn_seq (wpIn_region_list ?_)
  refine xk (w1:=w) rfl rfl (v:=.int .i64 0) (nx:=.value (.int .i64 0)) (by simp [execOp,Act.eval,Act.put,go_sem,hc]) (.inl rfl) (by intro c h;cases h) ?_
  refine xk (w1:=w) rfl rfl (v:=.bool false) (nx:=.value (.bool false)) (by simp [execOp,Act.eval,Act.put,eqGuard,go_sem]) (.inl rfl) (by intro c h;cases h) ?_
  simp only [wpListIn,Exit.then]
  refine wpIn_cond (t:=false) (by simp [Act.eval,Act.put]) ?_
  simp only [zg,if_false]
  refine wpIn_skip ?_
  simp [bodyPost,results,Tryz.results46,Act.put]
 ·obtain ⟨b0,b1,rfl⟩:=QU hl
  have hc:w.cell? ⟨be,0,none⟩=some (.int .i64 m):=by rw [cell_of_row w _ _ _ _ (0,0) h];rfl
  refine (callsDIn_of_wp (R:=fun e w'=>e=.returned (.tuple #[])∧w'=nX [b0,b1] [[.int .i64 0,.int .i64 0,.int .i64 0,.int .i64 0,.int .i64 0,.int .i64 0,.bool false,.bool false],[.int .i64 0,.int .i64 0,.int .i64 0,.list 1 [],.list 3 []]] w) Tryz.func46 rfl trivial ?_).mono (by rintro e u' w' ⟨rfl,rfl,rfl⟩;exact ⟨rfl,rfl,rfl⟩)
  simp only [ptrs,Zaj,Zai,Tryz.ntmps46]
  refine wpIn_seq (wpIn_region_list ?_)
  have hm':(m != 0)=true:=by simpa using hm
  obtain ⟨xP,E0,g0,s0⟩:=hb 0 b0 _ rfl rfl
  obtain ⟨arr1,E1,g1,s1⟩:=hb 1 b1 _ rfl rfl
  have hne:b1≠b0:=fun e=>by subst e;simp at hn
  refine xk (w1:=w) rfl rfl (v:=.int .i64 m) (nx:=.value (.int .i64 m)) (by simp [execOp,Act.eval,Act.put,go_sem,hc]) (.inl rfl) (by intro c h;cases h) ?_
  refine xk (w1:=w) rfl rfl (v:=.bool true) (nx:=.value (.bool true)) (by simp [execOp,Act.eval,Act.put,eqGuard,go_sem,hm']) (.inl rfl) (by intro c h;cases h) ?_
  simp only [wpListIn,Exit.then]
  refine wpIn_cond (t:=true) (by simp [Act.eval,Act.put]) ?_
  simp only [if_true]
  refine wpIn_region_list ?_
  refine xk (w1:=w) rfl rfl (v:=.agg #[.int .i64 0,.int .i64 0,.int .i64 0,.int .i64 0,.int .i64 0,.int .i64 0,.bool false,.bool false]) (nx:=.value (.agg #[.int .i64 0,.int .i64 0,.int .i64 0,.int .i64 0,.int .i64 0,.int .i64 0,.bool false,.bool false])) (by simp [execOp,Act.eval,Act.put,go_sem]) (.inl rfl) (by intro c h;cases h) ?_
  refine xk (w1:=w) rfl rfl (v:=.agg #[.int .i64 0,.int .i64 0,.int .i64 0,.slice none 0 0,.slice none 0 0]) (nx:=.value (.agg #[.int .i64 0,.int .i64 0,.int .i64 0,.slice none 0 0,.slice none 0 0])) (by simp [execOp,Act.eval,Act.put,go_sem]) (.inl rfl) (by intro c h;cases h) ?_
  have S0:=vK (P:=Tryz.prog) (T0:=23) (v:=.agg #[.int .i64 0,.int .i64 0,.int .i64 0,.int .i64 0,.int .i64 0,.int .i64 0,.bool false,.bool false]) (by kernel_rfl) g0 (by rw [s0];rfl) (by simp [Value.cells,Value.oneCell'])
  refine xk (w1:=(w.setRow b0 #[.int .i64 0,.int .i64 0,.int .i64 0,.int .i64 0,.int .i64 0,.int .i64 0,.bool false,.bool false])) rfl rfl (v:=undef) (nx:=.skip) (by simp [execOp,Act.eval,Act.put];simp [S0,Value.cells]) (.inr ⟨rfl,rfl⟩) (by intro c h;cases h) ?_
  have S1:=vK (P:=Tryz.prog) (w:=w.setRow b0 #[.int .i64 0,.int .i64 0,.int .i64 0,.int .i64 0,.int .i64 0,.int .i64 0,.bool false,.bool false]) (T0:=36) (v:=.agg #[.int .i64 0,.int .i64 0,.int .i64 0,.slice none 0 0,.slice none 0 0]) (by kernel_rfl) ((setRow_other w b0 b1 _ hne).trans g1) (by rw [s1];rfl) (by simp [Value.cells,Value.oneCell'])
  refine xk (w1:=((w.setRow b0 #[.int .i64 0,.int .i64 0,.int .i64 0,.int .i64 0,.int .i64 0,.int .i64 0,.bool false,.bool false]).setRow b1 #[.int .i64 0,.int .i64 0,.int .i64 0,.slice none 0 0,.slice none 0 0])) rfl rfl (v:=undef) (nx:=.skip) (by simp [execOp,Act.eval,Act.put];simp [S1,Value.cells]) (.inr ⟨rfl,rfl⟩) (by intro c h;cases h) ?_
  simp only [wpListIn]
  simp [bodyPost,results,Tryz.results46,Act.put,nX,zval,Value.cells]
end Go.Proofs.YtioijcfcehhmdaaGreatDoor
