/-
  Part 4 of the texts that the statement stands on.
-/
import Derived.Test.YtpdfhckdmblicaaZ3
import Derived.RangeFuncRecord
import Derived.ProofKit
import Derived.SizedLaws
import Derived.OpenShut
import Derived.Deep.Strs
import Derived.IntWalk
set_option linter.all false
namespace Go.Proofs.Ytpdfhckdmblicaa
open Go.RowKit
section
variable {P:Program} {L K:Nat} {σ σ':Nat→Nat} {T T' T1 T2:Tags} {st st' st1:St} {a a1:Act} {w w1:World} {r:Root}
theorem Sim.retagTo (h:Sim L σ T st a w) {i:Nat} (h1:∀ t s l,st.slots[t]?=some (.row s l)→r≠.slot t) (h2:∀ (t i:Nat),r≠.part t i) (h3:∀ p q bx s l,st.boxes[p]?=some bx→bx.cs[q]?=some (.row s l)→r≠.cell p q) (hK:st.slots.length≤K) :
  Sim L σ (moved T r (.part K i)) st a w:=by
 have hw:∀ b,T b=.ro→b<w.heap.size→moved T r (.part K i) b=.ro∧w.heap[b]?=w.heap[b]?:=fun b e _=>⟨moved_ro e,rfl⟩
 refine ⟨h.size,fun t x u hx hu=>?_,fun p bx ho=>?_,fun b hb=>moved_other (h.fresh b hb)⟩
 ·have ht:t<st.slots.length:=(List.getElem?_eq_some_iff.1 hx).1
  refine (h.slots t x u hx hu).keep hw (fun s l e b hb _=>⟨moved_row (fun e2=>h1 t s l (by rw [hx,e]) e2.symm) (by simp) hb,rfl⟩) (fun l e i' _ b hb _=>⟨moved_row (fun e2=>h2 _ _ e2.symm) (fun e2=>?_) hb,rfl⟩) (fun q hq _ s l e=>⟨⟨l,e⟩,rfl⟩) (Nat.le_refl _) (fun _ _=>rfl)
  cases e2;omega
 ·obtain ⟨arr,E,g1,g2,g3,g4,g5⟩:=h.boxes p bx ho
  refine ⟨arr,E,g1,g2,?_,g4,fun j bv u hj hu=>?_⟩
  ·cases hf:bx.fz with
   |true=>rw [hf] at g3;simpa using moved_ro g3
   |false=>rw [hf] at g3;simpa using moved_box g3
  ·obtain ⟨k1,k2⟩:=g5 j bv u hj hu
   refine ⟨k1,?_⟩
   cases bv with
   |pv x=>exact PRep.frame hw k2
   |row sz es=>exact RowRep.frame (fun b e _=>⟨moved_row (fun e2=>h3 p j bx sz es ho hj e2.symm) (by simp) e,rfl⟩) hw k2
theorem RowRep.takeTo {sz:Nat} {es:List PV} {xa:Option Addr} {c:Nat} (h:RowRep T w r sz es (.slice xa es.length c)) (k:Nat):RowRep T w r sz (es.take k) (.slice xa (es.take k).length c):=by
 rcases h with ⟨rfl,a,e⟩|⟨b,c',arr,E,e,h2,h3,h4,h5,h6,h7,h8⟩
 ·simp only [List.length_nil,Value.slice.injEq] at e
  obtain ⟨_,_,rfl⟩:=e
  exact .inl ⟨by simp,xa,by simp⟩
 ·simp only [Value.slice.injEq] at e
  obtain ⟨rfl,_,rfl⟩:=e
  refine .inr ⟨b,c,arr,E,rfl,h2,h3,h4,?_,h6,fun e he=>h7 e (List.mem_of_mem_take he),fun i e j x hi hj=>?_⟩
  ·simp;omega
  ·rw [List.getElem?_take] at hi
   split at hi
   ·exact h8 i e j x hi hj
   ·cases hi
def RK (T:Tags) (w:World) (K i:Nat):Res→Value→Prop
 |(.list sz es,true),u=>RowRep T w (.part K i) sz es u
 |(.agg _,true),_=>False
 |(x,_),u=>PRep (fun b=>T b=.ro) w x u
theorem RK.pv {i:Nat} {x:PV} {u:Value} (h:PRep (fun b=>T b=.ro) w x u):RK T w K i (x,false) u:=by
 cases x<;>exact h
def readOf (tmps:Array Value):ResultVar→Sem Value
 |.tmp t=>pure (tmps.getD t undef)
 |.cell a t=>do loadVar t (← asAddr (tmps.getD a undef))
def mRes (P:Program):ResultVar→VRes→Bool
 |.tmp t,.tmp s=>t==s
 |.cell t T0,.cell s n=>t==s&&cellN P T0==some n
 |.cell t T0,.own s n=>t==s&&cellN P T0==some (some n)
 |_,_=>false
theorem result_one (h:Sim L σ T st a w) {g:ResultVar} {v:VRes} (hm:mRes P g v=true) {x:Res} (hp:resultOf st v=some (x,st1)) (hK:st.slots.length≤K) (i:Nat) :
  ∃ u T',(readOf a.tmps g).run P w=.ok u w∧Sim L σ T' st1 a w∧Still T T'∧RK T' w K i x u∧(∀ b k,k≠i→T b=.row (.part K k)→T' b=.row (.part K k))∧st1.slots.length=st.slots.length∧(∀ b o,T b=.box o→T' b=.box o):=by
 cases g<;>cases v<;>simp only [mRes,Bool.false_eq_true] at hm
 case tmp.tmp t s =>
  simp only [beq_iff_eq] at hm
  subst hm
  have hev:a.tmps.getD t undef=a.eval (.tmp t):=rfl
  have hmo:mOpd (.tmp t) (.t t)=true:=by simp [mOpd]
  simp only [resultOf] at hp
  split at hp
  ·rename_i sz es st2 hg
   have hp:=Option.some.inj hp
   cases hp
   obtain ⟨k1,k2,q,v,es0,c,xa,k3,k4,k5,k6,k7,k8,k9⟩:=h.grab hmo hg
   have hlen:st1.slots.length=st.slots.length:=by rw [← k1.size,← h.size]
   refine ⟨a.eval (.tmp t),moved T q (.part K i),by rw [readOf,hev];rfl,k1.retagTo k7 k8 k9 (by omega),Still.moved _ _ _,?_,fun b k hk e=>moved_row (fun e2=>k8 _ _ e2.symm) (by simp [hk]) e,hlen,fun b o e=>moved_box e⟩
   rw [k6]
   subst k5
   have:=RowRep.takeTo k3 es.length
   rw [← k4] at this
   exact RowRep.frame (fun b e _=>⟨moved_src e,rfl⟩) (fun b e _=>⟨moved_ro e,rfl⟩) this
  ·split at hp
   ·rename_i v hv
    have hp:=Option.some.inj hp
    cases hp
    have e2:st.pvOf (.t t)=some v:=by unfold St.pvOf;rw [show st.get (.t t)=.pv v from hv]
    exact ⟨a.eval (.tmp t),T,by rw [readOf,hev];rfl,h,Still.refl T,RK.pv (h.pv hmo e2),fun _ _ _ e=>e,rfl,fun _ _ e=>e⟩
   ·rename_i r off len hv
    split at hp
    case h_2=>cases hp
    rename_i sz es hr
    split at hp
    case isFalse=>cases hp
    rename_i hl
    have hp:=Option.some.inj hp
    cases hp
    obtain ⟨T1,k1,k2,k3,k4,k5⟩:=h.freeze r
    refine ⟨a.eval (.tmp t),T1,by rw [readOf,hev];rfl,k1,k2,RK.pv (h.refList hr (h.refR hmo hv sz es hr) hl (k4 sz es hr) k2.ro),fun b k _ e=>k3 b _ (fun e2=>by subst e2;simp [St.row] at hr) e,by rw [← k1.size,← h.size],k5⟩
   ·cases hp
 case cell.cell t T0 s n =>
  simp only [Bool.and_eq_true,beq_iff_eq] at hm
  obtain ⟨rfl,hc⟩:=hm
  simp only [resultOf] at hp
  split at hp
  case h_2=>cases hp
  rename_i p j hv
  split at hp
  case h_2=>cases hp
  rename_i bx h1
  have hs:st.slots[t]?=some (.pbox p j):=slots_get (st:=st) hv (by simp)
  have hlt:t<a.tmps.size:=by rw [h.size];exact (List.getElem?_eq_some_iff.1 hs).1
  have hgp:a.tmps.getD t undef=.pointer (some ⟨σ p,j,none⟩):=by
   have:=(h.slots t _ _ hs (Array.getElem?_eq_getElem hlt)).2
   rw [Array.getD_eq_getD_getElem?,Array.getElem?_eq_getElem hlt,Option.getD_some,this]
  have hread:∀ {u:Value},(loadVar T0 ⟨σ p,j,none⟩).run P w=.ok u w→(readOf a.tmps (.cell t T0)).run P w=.ok u w:=fun hu=>by
   simp only [readOf,hgp,asAddr,Sem.run_bind,Sem.run_pure,Result.andThen_ok]
   exact hu
  have hbox:=h.boxes p bx h1
  cases n with
  |none =>
   obtain ⟨arr,E,g1,g2,g3,g4,g5⟩:=hbox
   have hld:∀ (bv:BV),bx.cs[j]?=some bv→∃ u,(loadVar T0 ⟨σ p,j,none⟩).run P w=.ok u w∧BRep T w p j bv u:=fun bv hbv=>by
    have hj:j<arr.size:=by rw [g2];exact (List.getElem?_eq_some_iff.1 hbv).1
    obtain ⟨k1,k2⟩:=g5 j _ arr[j] hbv (Array.getElem?_eq_getElem hj)
    refine ⟨arr[j],?_,k2⟩
    unfold loadVar
    simp only [Sem.run_bind,run_isAgg_no hc,Result.andThen_ok,Bool.false_eq_true,if_false]
    unfold load
    simp only [Sem.run,cell_of_row w _ _ arr E (0,0) g1,Array.getElem?_eq_getElem hj]
   simp only at hp
   split at hp
   ·rename_i sz es hbv
    split at hp
    ·cases hp
    ·rename_i hfz
     have hp:=Option.some.inj hp
     cases hp
     obtain ⟨u,q1,q2⟩:=hld _ hbv
     have hr:st.row (.cell p j)=some (sz,es):=by simp [St.row,h1,hfz,hbv]
     obtain ⟨T1,k1,k2,k3,k4,k5⟩:=h.freeze (.cell p j)
     exact ⟨u,T1,hread q1,k1,k2,RK.pv (RowRep.list (k4 sz es hr) k2.ro q2),fun b k _ e=>k3 b _ (by simp) e,by rw [← k1.size,← h.size],k5⟩
   ·rename_i v hbv
    have hp:=Option.some.inj hp
    cases hp
    obtain ⟨u,q1,q2⟩:=hld _ hbv
    exact ⟨u,T,hread q1,h,Still.refl T,RK.pv q2,fun _ _ _ e=>e,rfl,fun _ _ e=>e⟩
   ·cases hp
  |some n =>
   simp only at hp
   obtain ⟨v,h2,hp⟩:=map_some' hp
   cases hp
   obtain ⟨T1,k1,k2,k3,k4,k5⟩:=h.freezeRowsB p
   have hmem:=hbox.mem (T':=T1) (fun j b e=>k4 (by rw [h1];rfl) b j e) k2.ro
   obtain ⟨u,h7,h8,_⟩:=part_mem (P:=P) hmem hc h2
   rw [Nat.zero_add] at h7
   exact ⟨u,T1,hread (h7 w rfl),k1,k2,RK.pv h8,fun b k _ e=>k3 b _ (by simp) e,by rw [← k1.size,← h.size],k5⟩
 case cell.own t T0 s n=>simp only [resultOf] at hp;cases hp
def RKo (T:Tags) (w:World) (K i:Nat) (x:Res) (u:Value):Prop :=
 RK T w K i x u∨(i=0∧∃ cs,x=(.agg cs,true)∧∃ arr:Array Value,u=.agg arr∧arr.size=cs.length∧∀ (k:Nat) x v,cs[k]?=some x→arr[k]?=some v→PartRep T w K k (ownP x) v)
def outO (T:Tags) (p j K:Nat):Tags:=fun b=>match T b with
 |.ro=>.ro
 |.row (.cell o q)=>if o=p∧j≤q then .row (.part K (q - j)) else .other
 |_=>.other
theorem ownCells_get:∀ {l:List BV} {cs:List PV},ownCells l=some cs→l.length=cs.length∧∀ (k:Nat) x,cs[k]?=some x→(∃ sz es,l[k]?=some (.row sz es)∧x=.list sz es)∨(l[k]?=some (.pv x)∧∀ s es,x≠.list s es)
 |[],cs,h=>by cases h;exact ⟨rfl,fun k x hk=>by simp at hk⟩
 |.row sz es :: l,cs,h=>by
  obtain ⟨c,h1,rfl⟩:=map_some' h
  obtain ⟨q1,q2⟩:=ownCells_get h1
  refine ⟨by simp [q1],fun k x hk=>?_⟩
  cases k with
  |zero=>cases hk;exact .inl ⟨sz,es,rfl,rfl⟩
  |succ k=>exact q2 k x hk
 |.pv v :: l,cs,h=>by
  have hv:(∀ s es,v≠.list s es)∧∃ c,ownCells l=some c∧cs=v :: c:=by
   cases v<;>first|(simp [ownCells] at h;done)|(obtain ⟨c,h1,rfl⟩:=map_some' h;exact ⟨(fun _ _ e=>by cases e),c,h1,rfl⟩)
  obtain ⟨hv,c,h1,rfl⟩:=hv
  obtain ⟨q1,q2⟩:=ownCells_get h1
  refine ⟨by simp [q1],fun k x hk=>?_⟩
  cases k with
  |zero=>cases hk;exact .inr ⟨rfl,hv⟩
  |succ k=>exact q2 k x hk
theorem load_cells {b j n T0:Nat} {arr:Array Value} {E q} (hc:cellN P T0=some (some n)) (hb:w.heap[b]?=some (.cells arr E (0,q))) (hn:j+n≤arr.size) :
  ∃ us:Array Value,(loadVar T0 ⟨b,j,none⟩).run P w=.ok (.agg us) w∧us.size=n∧∀ k v,us[k]?=some v→arr[j+k]?=some v:=by
 have hs:=(run_isAgg_yes (w:=w) hc).2
 let us:List Value:=(List.range n).map fun k=>arr.getD (j+k) undef
 have hus:∀ k v,us[k]?=some v→arr[j+k]?=some v:=fun k v hv=>by
  have hk:k<n:=by have:=(List.getElem?_eq_some_iff.1 hv).1;simpa [us] using this
  simp only [us,List.getElem?_map,List.getElem?_range hk,Option.map_some,Option.some.injEq] at hv
  rw [Array.getElem?_eq_getElem (by omega:j+k<arr.size)]
  rw [Array.getD_eq_getD_getElem?,Array.getElem?_eq_getElem (by omega:j+k<arr.size)] at hv
  rw [← hv];rfl
 have hlen:us.length=n:=by simp [us]
 refine ⟨us.toArray,?_,by simpa using hlen,fun k v hv=>hus k v (by simpa using hv)⟩
 have hl2:=run_loadCells_list (P:=P) (w:=w) ⟨b,j,none⟩ us (fun k v hv=>by
  rw [Addr.add_lit,cell_of_row w b _ arr E (0,q) hb];exact hus k v hv)
 rw [hlen] at hl2
 unfold loadVar
 simp only [Sem.run_bind,(run_isAgg_yes (w:=w) hc).1,Result.andThen_ok,if_true,run_szOf hs,hl2]
 rfl
theorem result_own (h:Sim L σ T st a w) {t T0 n p j:Nat} {bx:Box} {cs:List PV} (hc:cellN P T0=some (some n)) (hv:st.slots.getD t .any=.pbox p j) (h1:st.boxes[p]?=some bx) (hf:bx.fz=false) (hn:j+n≤bx.cs.length) (ho:ownCells ((bx.cs.drop j).take n)=some cs) :
  ∃ u T',(readOf a.tmps (.cell t T0)).run P w=.ok u w∧Still T T'∧(∀ b,w.heap.size≤b→T' b=.other)∧RKo T' w K 0 (.agg cs,true) u:=by
 have hs:st.slots[t]?=some (.pbox p j):=slots_get (st:=st) hv (by simp)
 have hlt:t<a.tmps.size:=by rw [h.size];exact (List.getElem?_eq_some_iff.1 hs).1
 have hgp:a.tmps.getD t undef=.pointer (some ⟨σ p,j,none⟩):=by
  have:=(h.slots t _ _ hs (Array.getElem?_eq_getElem hlt)).2
  rw [Array.getD_eq_getD_getElem?,Array.getElem?_eq_getElem hlt,Option.getD_some,this]
 obtain ⟨arr,E,g1,g2,g3,g4,g5⟩:=h.boxes p bx h1
 obtain ⟨us,r1,r2,r3⟩:=load_cells (P:=P) hc g1 (by omega:j+n≤arr.size)
 obtain ⟨q1,q2⟩:=ownCells_get ho
 have hro:∀ b,T b=.ro→outO T p j K b=.ro:=fun b e=>by simp [outO,e]
 refine ⟨.agg us,outO T p j K,?_,⟨hro,fun b e=>by simp [outO,e]⟩,fun b hb=>by simp [outO,h.fresh b hb],.inr ⟨rfl,cs,rfl,us,rfl,?_,fun k x v hx hu=>?_⟩⟩
 ·simp only [readOf,hgp,asAddr,Sem.run_bind,Sem.run_pure,Result.andThen_ok]
  exact r1
 ·rw [r2,← q1];simp;omega
 ·have hk:k<n:=by rw [← r2];exact (Array.getElem?_eq_some_iff.1 hu).1
  have hget:∀ bv,((bx.cs.drop j).take n)[k]?=some bv→bx.cs[j+k]?=some bv:=fun bv e=>by
   rw [List.getElem?_take_of_lt hk,List.getElem?_drop] at e;exact e
  rcases q2 k x hx with ⟨sz,es,e1,rfl⟩|⟨e1,e2⟩
  ·obtain ⟨_,k2⟩:=g5 (j+k) _ v (hget _ e1) (r3 k v hu)
   exact RowRep.frame (fun b e _=>⟨by simp [outO,e],rfl⟩) (fun b e _=>⟨hro b e,rfl⟩) k2
  ·obtain ⟨_,k2⟩:=g5 (j+k) _ v (hget _ e1) (r3 k v hu)
   have:ownP x=.pv x:=by cases x<;>first|rfl|exact absurd rfl (e2 _ _)
   rw [this]
   exact PRep.frame (fun b e _=>⟨hro b e,rfl⟩) k2
end
end Go.Proofs.Ytpdfhckdmblicaa

namespace Go.Proofs.Ytpdfhckdmblicaa
open Go.RowKit
def mResL (P:Program):List ResultVar→List VRes→Bool
 |[],[]=>true
 |g :: gs,v :: vs=>mRes P g v&&mResL P gs vs
 |_,_=>false
section
variable {P:Program} {L K:Nat} {σ σ':Nat→Nat} {T T' T1 T2:Tags} {st st' st1:St} {a a1:Act} {w w1:World} {r:Root}
theorem RK.frame {i:Nat} {x:Res} {u:Value} (hr:∀ b,T b=.row (.part K i)→T' b=.row (.part K i)) (hw:∀ b,T b=.ro→T' b=.ro) (h:RK T w K i x u):RK T' w K i x u:=by
 obtain ⟨v,own⟩:=x
 cases v<;>cases own<;>first|exact PRep.frame (fun b e _=>⟨hw b e,rfl⟩) h|exact RowRep.frame (fun b e _=>⟨hr b e,rfl⟩) (fun b e _=>⟨hw b e,rfl⟩) h|exact False.elim h
theorem result_list:∀ {gs:List ResultVar} {vs:List VRes} {st:St} {T:Tags} {xs:List Res} (i:Nat),Sim L σ T st a w→mResL P gs vs=true→resultList st vs=some xs→st.slots.length≤K →
  ∃ (us:List Value) (T':Tags),(gs.mapM (readOf a.tmps)).run P w=.ok us w∧us.length=xs.length∧Still T T'∧(∀ b,w.heap.size≤b→T' b=.other)∧(∀ (j:Nat) x u,xs[j]?=some x→us[j]?=some u→RK T' w K (i+j) x u)∧(∀ b k,k<i→T b=.row (.part K k)→T' b=.row (.part K k))∧∀ b o,T b=.box o→T' b=.box o
 |[],[],st,T,xs,i,h,_,hp,hK=>by
  simp only [resultList,Option.some.injEq] at hp
  subst hp
  exact ⟨[],T,by simp,rfl,Still.refl T,h.fresh,fun j x u hx=>by simp at hx,(fun _ _ _ e=>e),fun _ _ e=>e⟩
 |[],_ :: _,_,_,_,_,_,hm,_,_=>by simp [mResL] at hm
 |_ :: _,[],_,_,_,_,_,hm,_,_=>by simp [mResL] at hm
 |g :: gs,v :: vs,st,T,xs,i,h,hm,hp,hK=>by
  simp only [mResL,Bool.and_eq_true] at hm
  simp only [resultList] at hp
  replace hp:=bind_some hp
  obtain ⟨⟨x,st1⟩,h1,hp⟩:=hp
  replace hp:=bind_some hp
  obtain ⟨l,h2,hp⟩:=hp
  have hp:=Option.some.inj hp
  subst hp
  obtain ⟨u,T1,k1,k2,k3,k4,k5,k6,k7⟩:=result_one h hm.1 h1 hK i
  obtain ⟨us,T2,q1,q2,q3,q4,q5,q6,q7⟩:=result_list (i+1) k2 hm.2 h2 (by omega)
  refine ⟨u :: us,T2,?_,by simp [q2],k3.trans q3,q4,fun j x' u' hx hu=>?_,fun b k hk e=>q6 b k (by omega) (k5 b k (by omega) e),fun b o e=>q7 b o (k7 b o e)⟩
  ·rw [List.mapM_cons]
   simp only [Sem.run_bind,k1,Result.andThen_ok,q1,Sem.run_pure]
  ·cases j with
   |zero =>
    simp only [List.getElem?_cons_zero,Option.some.injEq] at hx hu
    subst hx;subst hu
    exact RK.frame (fun b e=>q6 b i (by omega) e) q3.ro k4
   |succ j =>
    have:=q5 j x' u' (by simpa using hx) (by simpa using hu)
    rwa [show i+1+j=i+(j+1) by omega] at this
theorem results_run {fn:Func} {us:List Value} (h:(fn.results.toList.mapM (readOf a.tmps)).run P w=.ok us w):(results fn a.tmps).run P w=.ok (if us.toArray.size=1 then us.toArray.getD 0 undef else .tuple us.toArray) w:=by
 have e:results fn a.tmps=(do let vs ← fn.results.mapM (readOf a.tmps);pure (if h:vs.size=1 then vs[0] else .tuple vs)):=by
  unfold results
  congr 1
 rw [e,Array.mapM_eq_mapM_toList]
 simp only [Sem.run_bind,Sem.run_map,h,Result.andThen_ok,Sem.run_pure]
 by_cases hs:us.toArray.size=1
 ·rw [dif_pos hs,if_pos hs,Array.getD_eq_getD_getElem?,Array.getElem?_eq_getElem (by omega),Option.getD_some]
 ·rw [dif_neg hs,if_neg hs]
theorem leavesM_marks {fn:Func} {R:Ending→World→Prop} {B:Nat}:∀ {ms:List Nat} {w:World},ms.Nodup→(∀ r∈ms,B≤r∧w.heap[r]?=some (.deferred (some []))) →
  (∀ w',w'.os=w.os→w'.tape=w.tape→w'.output=w.output→w'.heap.size=w.heap.size→(∀ b,b ∉ ms→w'.heap[b]?=w.heap[b]?)→∃ v,(results fn a.tmps).run P w'=.ok v w'∧R (.returned v) w') →
  LeavesInM Fence.wide 0 P fn a.tmps R (ms.map markOf) .returning w
 |[],w,_,_,h=>by
  simp only [List.map_nil,LeavesInM,LeavesIn]
  exact h w rfl rfl rfl rfl fun _ _=>rfl
 |r :: ms,w,hnd,hms,h=>by
  simp only [List.map_cons,LeavesInM]
  obtain ⟨hn1,hn2⟩:=List.nodup_cons.1 hnd
  obtain ⟨k1,k2⟩:=hms r (by simp)
  have hr:r<w.heap.size:=(Array.getElem?_eq_some_iff.1 k2).1
  have hput:∀ b,b≠r→(w.putObj r (.deferred none)).heap[b]?=w.heap[b]?:=fun b hb=>by simp [World.putObj,Array.getElem?_setIfInBounds,Ne.symm hb]
  refine ⟨by simp,.inl ⟨r,_,rfl,run_takeDeferred k2,leavesM_marks (B:=B) hn2 (fun r' hr'=>?_) fun w' e1 e2 e3 e4 e5=>h w' e1 e2 e3 (by rw [e4];simp [World.putObj]) fun b hb=>?_⟩⟩
  ·obtain ⟨q1,q2⟩:=hms r' (by simp [hr'])
   exact ⟨q1,by rw [hput r' (fun e=>hn1 (e ▸ hr'))];exact q2⟩
  ·simp only [List.mem_cons,not_or] at hb
   rw [e5 b hb.2,hput b hb.1]
end
end Go.Proofs.Ytpdfhckdmblicaa

namespace Go.Proofs.Ytpdfhckdmblicaa
open Go.RowKit
section
variable {P:Program} {L K:Nat} {σ σ':Nat→Nat} {T T' T1 T2:Tags} {st st' st1:St} {a a1:Act} {w w1:World} {r:Root}
 {rec:VCode→St→Option (Ex × St)} {env:Env}
theorem results_ok {gs:List ResultVar} {vs:List VRes} {xs:List Res} (h:Sim L σ T st a w) (hm:mResL P gs vs=true) (hp:resultsOf st vs=some xs) :
  ∃ (us:List Value) (T':Tags),(gs.mapM (readOf a.tmps)).run P w=.ok us w∧us.length=xs.length∧Still T T'∧(∀ b,w.heap.size≤b→T' b=.other)∧∀ (j:Nat) x u,xs[j]?=some x→us[j]?=some u→RKo T' w st.slots.length j x u:=by
 have gen:resultList st vs=some xs→∃ (us:List Value) (T':Tags),(gs.mapM (readOf a.tmps)).run P w=.ok us w∧us.length=xs.length∧Still T T'∧(∀ b,w.heap.size≤b→T' b=.other)∧∀ (j:Nat) x u,xs[j]?=some x→us[j]?=some u→RKo T' w st.slots.length j x u:=fun hl=>by
  obtain ⟨us,T',k1,k2,k3,k4,k5,_⟩:=result_list 0 h hm hl (Nat.le_refl _)
  exact ⟨us,T',k1,k2,k3,k4,fun j x u hx hu=>.inl (by simpa using k5 j x u hx hu)⟩
 unfold resultsOf at hp
 split at hp
 case h_3=>exact gen hp
 case h_2 =>
  rename_i t n
  split at hp
  case h_2=>cases hp
  rename_i p j hs
  split at hp
  case h_2=>cases hp
  rename_i bx h1
  split at hp
  ·cases hp
  ·rename_i hf
   simp only [Bool.or_eq_true,Bool.not_eq_true',decide_eq_false_iff_not,not_or,Bool.not_eq_true,Classical.not_not] at hf
   obtain ⟨cs,h2,rfl⟩:=map_some' hp
   obtain ⟨T0,hgs,hc⟩:∃ T0,gs=[.cell t T0]∧cellN P T0=some (some n):=by
    match gs,hm with
    |[.tmp s],hm=>simp [mResL,mRes] at hm
    |[.cell s T0],hm=>simp [mResL,mRes] at hm;exact ⟨T0,by rw [hm.1],hm.2⟩
    |[],hm=>simp [mResL] at hm
    |_ :: _ :: _,hm=>simp [mResL] at hm
   subst hgs
   obtain ⟨u,T',r1,r2,r3,r4⟩:=result_own (P:=P) (K:=st.slots.length) h hc hs h1 hf.1 hf.2 h2
   refine ⟨[u],T',?_,rfl,r2,r3,fun j x u' hx hu=>?_⟩
   ·simp only [List.mapM_cons,List.mapM_nil,Sem.run_bind,r1,Result.andThen_ok,Sem.run_pure]
   ·cases j with
    |zero =>
     simp only [List.getElem?_cons_zero,Option.some.injEq] at hx hu
     subst hx;subst hu;exact r4
    |succ j=>simp at hx
 rename_i t
 split at hp
 case h_2=>exact gen hp
 rename_i f caps hs
 obtain ⟨⟨p,fl⟩,h1,h2⟩:=map_some' hp
 subst h2
 have hmo:mOpd (.tmp t) (.t t)=true:=by simp [mOpd]
 have hg:st.get (.t t)=.fn f caps:=hs
 have hsn:st.snapFn (st.get (.t t))=some (p,fl):=by rw [hg];exact h1
 obtain ⟨k1,_,k3⟩:=h.snapF hmo hsn
 obtain ⟨T1,q1,q2,q3,q4⟩:=Froz.args [.t t] (Froz.refl T st) h (fun x hx=>by simp only [List.mem_singleton] at hx;subst hx;exact k1)
 have hgs:gs=[.tmp t]:=by
  match gs,hm with
  |[.tmp s],hm=>simp [mResL,mRes] at hm;rw [hm]
  |[.cell s T0],hm=>simp [mResL,mRes] at hm
  |[],hm=>simp [mResL] at hm
  |_ :: _ :: _,hm=>simp [mResL] at hm
 subst hgs
 refine ⟨[a.eval (.tmp t)],T1,by simp [readOf,Act.eval],rfl,q3,q2.fresh,fun j x u hx hu=>?_⟩
 cases j with
 |zero =>
  simp only [List.getElem?_cons_zero,Option.some.injEq] at hx hu
  subst hx;subst hu
  exact .inl (RK.pv (k3 T1 q3 (q4 _ (by simp))))
 |succ j=>simp at hx
theorem prep_avoid {ok good:Nat→Prop} (hg:∀ b,Cellish w b→good b) {x:PV} {v:Value} (h:PRep ok w x v):PRep (fun b=>ok b∧good b) w x v:=by
 induction h with
 |int k n=>exact .int k n
 |bool b=>exact .bool b
 |str s=>exact .str s
 |nilf=>exact .nilf
 |void v h=>exact .void v h
 |nil sz a=>exact .nil sz a
 |nils sz a=>exact .nils sz a
 |list sz es b off c cv h1 h2 h3 h4 h6 h7 h8 ih=>exact .list sz es b off c cv ⟨h1,hg b h2⟩ h2 h3 h4 h6 h7 ih
 |agg cs arr h1 h2 h3 ih=>exact .agg cs arr h1 h2 ih
 |func f caps arr h1 h2 ih=>exact .func f caps arr h1 ih
 |iptr cs j b off cv h1 h2 h3 h4 ih=>exact .iptr cs j b off cv ⟨h1,hg b h2⟩ h2 h3 ih
def drop (T:Tags) (ms:List Nat):Tags:=fun b=>if b∈ms then .other else T b
theorem Sim.drop (h:Sim L σ T st a w) {ms:List Nat} (hms:∀ r∈ms,¬ Cellish w r) (hw:∀ b,b ∉ ms→w1.heap[b]?=w.heap[b]?) (hsz:w1.heap.size=w.heap.size):Sim L σ (drop T ms) st a w1:=by
 have hg:∀ b,Cellish w b→b ∉ ms:=fun b hc hb=>hms b hb hc
 have hp:∀ {x v},PRep (fun b=>T b=.ro) w x v→PRep (fun b=>Go.Proofs.Ytpdfhckdmblicaa.drop T ms b=.ro) w1 x v:=fun h =>
  (prep_avoid hg h).frame fun b hb _=>⟨by simp [Go.Proofs.Ytpdfhckdmblicaa.drop,hb.1,hb.2],hw b hb.2⟩
 have hrow:∀ {r sz es v},RowRep T w r sz es v→RowRep (Go.Proofs.Ytpdfhckdmblicaa.drop T ms) w1 r sz es v:=fun {r sz es v} h=>by
  rcases h with h|⟨b,c,arr,E,h1,h2,h3,h4,h5,h6,h7,h8⟩
  ·exact .inl h
  ·have hb:b ∉ ms:=hg b ⟨_,_,_,h3⟩
   refine .inr ⟨b,c,arr,E,h1,by simp [Go.Proofs.Ytpdfhckdmblicaa.drop,hb,h2],(hw b hb).trans h3,h4,h5,h6,h7,fun i e j x hi hj=>?_⟩
   obtain ⟨u,k1,k2,k3⟩:=h8 i e j x hi hj
   exact ⟨u,k1,k2,hp k3⟩
 have hbox:∀ o,o<st.boxes.length→σ o ∉ ms:=fun o ho=>hg _ (h.boxes o _ (List.getElem?_eq_getElem ho)).cellish
 have hhdr:∀ r:Root,r.low st.boxes.length→hdr σ a w1 r=hdr σ a w r:=fun r hr=>by
  cases r with
  |slot t=>rfl
  |part t i=>rfl
  |cell o j=>exact World.cell?_of_block (w:=w) (a:=⟨σ o,j,none⟩) (hw _ (hbox o hr))
 refine ⟨h.size,fun t av v ht hv=>?_,fun o bx ho=>?_,fun b hb=>?_⟩
 ·have hA:=h.slots t av v ht hv
  cases av with
  |pv x=>exact hp hA
  |row sz es=>exact hrow hA
  |ref r off len=>exact ⟨hA.1,fun sz es hr=>by rw [hhdr r hA.1];exact hA.2 sz es hr⟩
  |pbox o j=>exact hA
  |pel r i j=>exact ⟨hA.1,fun sz es hr=>by rw [hhdr r hA.1];exact hA.2 sz es hr⟩
  |fn f caps =>
   obtain ⟨arr,e1,e2,e3⟩:=hA
   refine ⟨arr,e1,e2,fun k x u hx hu=>?_⟩
   have:=e3 k x u hx hu
   cases x with
   |pv p=>exact hp this
   |_=>exact this
  |tup k l =>
   obtain ⟨arr,e1,e2,e3⟩:=hA
   refine ⟨arr,e1,e2,fun k x u hx hu=>?_⟩
   have:=e3 k x u hx hu
   cases x with
   |pv p=>exact hp this
   |row sz es=>exact hrow this
   |_=>exact this
  |yld=>exact hA
  |any=>trivial
 ·have hb:=hbox o (List.getElem?_eq_some_iff.1 ho).1
  obtain ⟨arr,E,g1,g2,g3,g4,g5⟩:=h.boxes o bx ho
  refine ⟨arr,E,(hw _ hb).trans g1,g2,by simp only [Go.Proofs.Ytpdfhckdmblicaa.drop,if_neg hb];exact g3,g4,fun j bv u hj hu=>?_⟩
  obtain ⟨k1,k2⟩:=g5 j bv u hj hu
  refine ⟨k1,?_⟩
  cases bv with
  |pv x=>exact hp k2
  |row sz es=>exact hrow k2
 ·unfold Go.Proofs.Ytpdfhckdmblicaa.drop
  split
  ·rfl
  ·exact h.fresh b (by omega)
def outT (T:Tags) (K:Nat):Tags:=fun b=>match T b with
 |.ro=>.ro
 |.row (.part k i)=>if k=K then .row (.part 0 i) else .other
 |_=>.other
theorem PartRep.frameTo {k:Nat} {x:AV} {v:Value} (h:PartRep T w K k x v):PartRep (outT T K) w 0 k x v:=by
 cases x with
 |pv p=>exact PRep.frame (fun b e _=>⟨by simp [outT,e],rfl⟩) h
 |row sz es=>exact RowRep.frame (fun b e _=>⟨by simp [outT,e],rfl⟩) (fun b e _=>⟨by simp [outT,e],rfl⟩) h
 |any=>trivial
 |_=>exact h
theorem RK.out0 {i:Nat} {x:Res} {u:Value} (h:RK T w K i x u):R1 (outT T K) w i x u:=by
 have hp:∀ {x v},PRep (fun b=>T b=.ro) w x v→PRep (fun b=>outT T K b=.ro) w x v:=fun h=>h.frame fun b hb _=>⟨by simp [outT,hb],rfl⟩
 have hrow:∀ {sz es},RowRep T w (.part K i) sz es u→RowRep (outT T K) w (.part 0 i) sz es u:=fun h=>RowRep.frame (fun b e _=>⟨by simp [outT,e],rfl⟩) (fun b e _=>⟨by simp [outT,e],rfl⟩) h
 obtain ⟨v,own⟩:=x
 cases v<;>cases own<;>first|exact hrow h|exact hp h|exact False.elim h
theorem RK.out {i:Nat} {x:Res} {u:Value} (h:RKo T w K i x u):R1 (outT T K) w i x u:=by
 rcases h with h|⟨_,cs,rfl,arr,rfl,h1,h2⟩
 ·exact RK.out0 h
 ·exact ⟨arr,rfl,h1,fun k x v hx hv=>PartRep.frameTo (h2 k x v hx hv)⟩
def fnOk (P:Program) (f:Nat) (fn:VFn):Bool :=
 match P.funcs[f]? with
 |some g=>(match g.body with
  |some c=>mC P c fn.body
  |none=>false)&&g.name != "runtime.NumGoroutine"&&g.ntmps==fn.ntmps&&decide (fn.nargs≤fn.ntmps)&&mResL P g.results.toList fn.results
 |none=>false
theorem fnOk_eq {f:Nat} {fn:VFn} (h:fnOk P f fn=true):callable P f=true∧∃ g c,P.funcs[f]?=some g∧g.body=some c∧mC P c fn.body=true∧g.ntmps=fn.ntmps∧fn.nargs≤fn.ntmps∧mResL P g.results.toList fn.results=true:=by
 unfold fnOk at h
 split at h
 case h_2=>cases h
 rename_i g hf
 simp only [Bool.and_eq_true,beq_iff_eq,bne_iff_ne,decide_eq_true_eq] at h
 obtain ⟨⟨⟨⟨h1,h2⟩,h3⟩,h4⟩,h5⟩:=h
 split at h1
 case h_2=>cases h1
 rename_i c hb
 exact ⟨by simp [callable,hf,h2,hb],g,c,hf,hb,h1,h3,h4,h5⟩
def plainJ (T0:Tags) (w:World):Nat→Tags→World→Prop:=fun _ T w'=>Below w.heap.size w w'∧∀ b,b<w.heap.size→T b=T0 b
theorem plainJ_keep {T0:Tags} (h0:∀ b,T0 b=.ro∨T0 b=.other) {k:Nat} {w w1 w2:World} (hc:Chg T T' w1 w2) (h:plainJ T0 w k T w1):plainJ T0 w k T' w2:=by
 obtain ⟨h1,h2⟩:=h
 refine ⟨h1.trans ⟨hc.os,hc.tape,hc.output,hc.size,fun b hb=>hc.same b (Nat.lt_of_lt_of_le hb h1.size) ?_⟩,fun b hb=>?_⟩
 ·rw [h2 b hb];exact h0 b
 ·rcases h0 b with e|e
  ·rw [e];exact hc.ro b (by rw [h2 b hb,e])
  ·rw [e];exact hc.other b (Nat.lt_of_lt_of_le hb h1.size) (by rw [h2 b hb,e])
theorem init_sim {T0:Tags} {args:List PV} {vs:List Value} {n:Nat} (hf:∀ b,w.heap.size≤b→T0 b=.other) (hl:vs.length=args.length) (hr:∀ (i:Nat) x v,args[i]?=some x→vs[i]?=some v→PRep (fun b=>T0 b=.ro) w x v) (ys:List (List PV)) (stop:Option (Option Nat)) :
  Sim L σ T0 ⟨args.map .pv++List.replicate (n - args.length) .any,[],ys,stop⟩ { tmps:=vs.toArray++Array.replicate (n - vs.toArray.size) undef,defers:=[] } w:=by
 refine ⟨by simp [hl],fun t av v ht hv=>?_,fun o bx ho=>by simp at ho,hf⟩
 simp only at ht hv
 rcases Nat.lt_or_ge t args.length with h|h
 ·rw [List.getElem?_append_left (by simpa using h),List.getElem?_map,List.getElem?_eq_getElem h] at ht
  rw [Array.getElem?_append_left (by simpa [hl] using h)] at hv
  cases ht
  exact hr t _ v (List.getElem?_eq_getElem h) (by simpa using hv)
 ·rw [List.getElem?_append_right (by simpa using h),List.getElem?_replicate] at ht
  split at ht
  ·cases ht;trivial
  ·cases ht
theorem code_call (hR:RecOk P rec) {f:Nat} {fn:VFn} {args:List PV} {rs:List Res} (hfn:fnOk P f fn=true) (hl:args.length=fn.nargs) {e:Ex} (he:∀ i,e≠.exit i) (he2:∀ t n,e≠.thr t n)
  (hb:rec fn.body ⟨args.map .pv++List.replicate (fn.ntmps - args.length) .any,[],[],none⟩=some (e,st)) (hrs:resultsOf st fn.results=some rs):CallOk P f args rs:=by
 intro T0 w vs h0 hf hlen hr hG
 obtain ⟨_,g,c,k1,k2,k3,k4,k5,k6⟩:=fnOk_eq hfn
 refine (callsIn_wide (n:=0)).1 (callsIn_of_wp_marks k1 k2 trivial ?_)
 rw [k4]
 have hsim:Sim 0 (fun _=>0) T0 ⟨args.map .pv++List.replicate (fn.ntmps - args.length) .any,[],[],none⟩ { tmps:=vs.toArray++Array.replicate (fn.ntmps - vs.toArray.size) undef,defers:=[] } w:=init_sim hf hlen hr [] none
 have hC:Ctx.Ok ⟨st.ys,none,plainJ T0 w⟩ P 0:=⟨fun k T T' w1 w2 hc h=>plainJ_keep (k:=k) h0 hc h,fun k T w1 h=>hG.frame fun b e hb=>⟨(h.2 b hb).trans e,h.1.block b hb⟩,fun s k T w ps vs hs=>by cases hs⟩
 have hJ:plainJ T0 w 0 T0 w:=⟨Below.refl _ _,fun _ _=>rfl⟩
 refine wpIn_mono (hR.wp (F:=Fence.wide) (L:=0) (C:=⟨st.ys,none,plainJ T0 w⟩) (n:=0) (.inl rfl) (Ctx.rec_wide _) hC c fn.body _ e st k3 hb rfl (List.prefix_refl _) _ T0 _ w hsim hJ) ?_
 rintro x a' w' ⟨rfl,σ',T',ms,q1,q2,q3,q4,q5,q6⟩
 obtain ⟨p1,p2⟩:=q2
 have key:LeavesInM Fence.wide 0 P g a'.tmps (fun e w'=>∃ v T',e=.returned v∧Below w.heap.size w w'∧(∀ b,b<w.heap.size→T' b=T0 b)∧(∀ b,w'.heap.size≤b→T' b=.other)∧ResRep T' w' rs v) a'.defers .returning w':=by
  rw [q5,List.append_nil]
  refine leavesM_marks (B:=w.heap.size) q6.2 (fun r hr=>⟨(q6.1 r hr).1,(q6.1 r hr).2.2⟩) fun w2 e1 e2 e3 e4 e5=>?_
  have q1':=q1.drop (fun r hr ⟨arr,E,q,e⟩=>by rw [(q6.1 r hr).2.2] at e;cases e) e5 e4
  obtain ⟨us,T2,r1,r2,r3,r4,r5⟩:=results_ok q1' k6 hrs
  have hms:∀ b,b<w.heap.size→b ∉ ms:=fun b hb hm=>by have:=(q6.1 b hm).1;omega
  have hT2:∀ b,b<w.heap.size→T2 b=T0 b:=fun b hb=>by
   have e:drop T' ms b=T0 b:=by simp only [drop,if_neg (hms b hb)];exact p2 b hb
   rcases h0 b with e0|e0
   ·rw [e0];exact r3.ro b (by rw [e,e0])
   ·rw [e0];exact r3.other b (by rw [e,e0])
  refine ⟨_,results_run r1,_,outT T2 st.slots.length,rfl,p1.trans ⟨e1,e2,e3,by omega,fun b hb=>e5 b (hms b hb)⟩,fun b hb=>?_,fun b hb=>?_,us.toArray,by simpa using r2,rfl,fun i x u hx hu=>RK.out (r5 i x u hx (by simpa using hu))⟩
  ·simp only [outT,hT2 b hb]
   rcases h0 b with e0|e0<;>rw [e0]
  ·simp only [outT,r4 b hb]
 cases e with
 |normal=>exact key
 |ret=>exact key
 |exit i=>exact absurd rfl (he i)
 |thr t n=>exact absurd rfl (he2 t n)
theorem init_simL {T0:Tags} {x:LArg} {v:Value} {args:List PV} {vs:List Value} {n:Nat} (hf:∀ b,w.heap.size≤b→T0 b=.other) (hx:LRep T0 w v x) (hl:vs.length=args.length) (hr:∀ (i:Nat) x v,args[i]?=some x→vs[i]?=some v→PRep (fun b=>T0 b=.ro) w x v) :
  ∃ σ:Nat→Nat,Sim 0 σ T0 ⟨x.av :: (args.map .pv++List.replicate (n - (args.length+1)) .any),x.boxes,[],none⟩ { tmps:=(v :: vs).toArray++Array.replicate (n - (v :: vs).toArray.size) undef,defers:=[] } w∧∀ b,v=.pointer (some ⟨b,0,none⟩)→(∃ cs,x=.box cs)→σ 0=b:=by
 obtain ⟨b0,hb0⟩:∃ b0,∀ cs,x=.box cs→v=.pointer (some ⟨b0,0,none⟩)∧BoxRep T0 w b0 0 ⟨false,cs.map .pv⟩:=by
  cases x with
  |box cs=>obtain ⟨b,h1,h2⟩:=hx;exact ⟨b,fun cs' e=>by cases e;exact ⟨h1,h2⟩⟩
  |row sz es=>exact ⟨0,fun _ e=>by cases e⟩
  |own l=>exact ⟨0,fun _ e=>by cases e⟩
 refine ⟨fun _=>b0,⟨by simp [hl];omega,fun t av u ht hu=>?_,fun o bx ho=>?_,hf⟩,fun b hb ⟨cs,hcs⟩=>?_⟩
 ·cases t with
  |zero =>
   simp only [List.getElem?_cons_zero,Option.some.injEq] at ht
   have hu':u=v:=by
    have:((v :: vs).toArray++Array.replicate (n - (v :: vs).toArray.size) undef)[0]?=some v:=by rw [Array.getElem?_append_left (by simp)];rfl
    rw [this] at hu;exact (Option.some.inj hu).symm
   subst hu'
   subst ht
   cases x with
   |row sz es=>exact hx
   |own l=>obtain ⟨arr,h1,h2,h3⟩:=hx;exact ⟨arr,h1,h2,h3⟩
   |box cs=>exact ⟨by simp [LArg.boxes],(hb0 cs rfl).1⟩
  |succ t =>
   rw [List.getElem?_cons_succ] at ht
   rcases Nat.lt_or_ge t args.length with h|h
   ·rw [List.getElem?_append_left (by simpa using h),List.getElem?_map,List.getElem?_eq_getElem h] at ht
    simp only at hu
    rw [Array.getElem?_append_left (by simp [hl];omega)] at hu
    cases ht
    exact hr t _ u (List.getElem?_eq_getElem h) (by simpa using hu)
   ·rw [List.getElem?_append_right (by simpa using h),List.getElem?_replicate] at ht
    split at ht
    ·cases ht;trivial
    ·cases ht
 ·cases x with
  |box cs =>
   cases o with
   |zero =>
    simp only [LArg.boxes,List.getElem?_cons_zero,Option.some.injEq] at ho
    subst ho
    exact (hb0 cs rfl).2
   |succ o=>simp [LArg.boxes] at ho
  |row sz es=>simp [LArg.boxes] at ho
  |own l=>simp [LArg.boxes] at ho
 ·have:=(hb0 cs hcs).1
  rw [this] at hb
  injection hb with hb
  injection hb with hb
  injection hb with hb
def linJ (T0:Tags) (w:World):Nat→Tags→World→Prop:=fun _ T w'=>w.heap.size≤w'.heap.size∧w'.os=w.os∧w'.tape=w.tape∧w'.output=w.output∧∀ b,b<w.heap.size→(T0 b=.ro∨T0 b=.other)→w'.heap[b]?=w.heap[b]?∧T b=T0 b
theorem linJ_keep {T0:Tags} {k:Nat} {w w1 w2:World} (hc:Chg T T' w1 w2) (h:linJ T0 w k T w1):linJ T0 w k T' w2:=by
 obtain ⟨h1,h2,h3,h4,h5⟩:=h
 refine ⟨Nat.le_trans h1 hc.size,hc.os.trans h2,hc.tape.trans h3,hc.output.trans h4,fun b hb e=>?_⟩
 obtain ⟨k1,k2⟩:=h5 b hb e
 have hl:=Nat.lt_of_lt_of_le hb h1
 refine ⟨(hc.same b hl (by rw [k2];exact e)).trans k1,?_⟩
 rcases e with e|e
 ·rw [e];exact hc.ro b (by rw [k2,e])
 ·rw [e];exact hc.other b hl (by rw [k2,e])
theorem code_callL (hR:RecOk P rec) {f:Nat} {fn:VFn} {x:LArg} {args:List PV} {rs:List Res} {out:Option (List PV)} (hfn:fnOk P f fn=true) {e:Ex} (he:∀ i,e≠.exit i) (he2:∀ t n,e≠.thr t n)
  (hb:rec fn.body ⟨x.av :: (args.map .pv++List.replicate (fn.ntmps - (args.length+1)) .any),x.boxes,[],none⟩=some (e,st)) (hrs:linRes x st fn.results=some (rs,out)):CallOkL P f x args rs out:=by
 intro T0 w v vs hf hx hlen hr hG
 obtain ⟨_,g,c,k1,k2,k3,k4,k5,k6⟩:=fnOk_eq hfn
 refine (callsIn_wide (n:=0)).1 (callsIn_of_wp_marks k1 k2 trivial ?_)
 rw [k4]
 obtain ⟨σ0,hsim,hσ0⟩:=init_simL (n:=fn.ntmps) hf hx hlen hr
 have hC:Ctx.Ok ⟨st.ys,none,linJ T0 w⟩ P 0:=⟨fun k T T' w1 w2 hc h=>linJ_keep (k:=k) hc h,fun k T w1 h=>hG.frame fun b e hb=>⟨by rw [(h.2.2.2.2 b hb (.inl e)).2,e],(h.2.2.2.2 b hb (.inl e)).1⟩,fun s k T w ps vs hs=>by cases hs⟩
 have hJ:linJ T0 w 0 T0 w:=⟨Nat.le_refl _,rfl,rfl,rfl,fun _ _ _=>⟨rfl,rfl⟩⟩
 refine wpIn_mono (hR.wp (F:=Fence.wide) (L:=0) (C:=⟨st.ys,none,linJ T0 w⟩) (n:=0) (.inl rfl) (Ctx.rec_wide _) hC c fn.body _ e st k3 hb rfl (List.prefix_refl _) _ T0 _ w hsim hJ) ?_
 rintro x' a' w' ⟨rfl,σ',T',ms,q1,q2,q3,q4,q5,q6⟩
 obtain ⟨p1,p2,p3,p4,p5⟩:=q2
 have key:LeavesInM Fence.wide 0 P g a'.tmps (fun e w'=>∃ u T',e=.returned u∧w.heap.size≤w'.heap.size∧w'.os=w.os∧w'.tape=w.tape∧w'.output=w.output∧(∀ b,b<w.heap.size→(T0 b=.ro∨T0 b=.other)→w'.heap[b]?=w.heap[b]?∧T' b=T0 b)∧(∀ b,w'.heap.size≤b→T' b=.other)∧ResRep T' w' rs u∧LOut T' w' v out) a'.defers .returning w':=by
  rw [q5,List.append_nil]
  refine leavesM_marks (B:=w.heap.size) q6.2 (fun r hr=>⟨(q6.1 r hr).1,(q6.1 r hr).2.2⟩) fun w2 e1 e2 e3 e4 e5=>?_
  have q1':=q1.drop (fun r hr ⟨arr,E,q,e⟩=>by rw [(q6.1 r hr).2.2] at e;cases e) e5 e4
  have hms:∀ b,b<w.heap.size→b ∉ ms:=fun b hb hm=>by have:=(q6.1 b hm).1;omega
  -- what the results leave of the tags
  have fin:∀ (T1 T2:Tags) (K:Nat),Still (Go.Proofs.Ytpdfhckdmblicaa.drop T' ms) T1→Still T1 T2→∀ b,b<w.heap.size→(T0 b=.ro∨T0 b=.other)→w2.heap[b]?=w.heap[b]?∧outT T2 K b=T0 b:=fun T1 T2 K s1 s2 b hb e=>by
   obtain ⟨y1,y2⟩:=p5 b hb e
   refine ⟨(e5 b (hms b hb)).trans y1,?_⟩
   have ed:Go.Proofs.Ytpdfhckdmblicaa.drop T' ms b=T0 b:=by simp only [Go.Proofs.Ytpdfhckdmblicaa.drop,if_neg (hms b hb)];exact y2
   rcases e with e|e
   ·simp only [outT,s2.ro b (s1.ro b (by rw [ed,e])),e]
   ·simp only [outT,s2.other b (s1.other b (by rw [ed,e])),e]
  have plain:(∀ cs,x≠.box cs)→resultsOf st fn.results=some rs→out=none→∃ u T',(results g a'.tmps).run P w2=.ok u w2∧(∀ b,b<w.heap.size→(T0 b=.ro∨T0 b=.other)→w2.heap[b]?=w.heap[b]?∧T' b=T0 b)∧(∀ b,w2.heap.size≤b→T' b=.other)∧ResRep T' w2 rs u∧LOut T' w2 v out:=fun _ h1 h2=>by
   obtain ⟨us,T2,r1,r2,r3,r4,r5⟩:=results_ok q1' k6 h1
   refine ⟨_,outT T2 st.slots.length,results_run r1,fin _ T2 _ (Still.refl _) r3,fun b hb=>by simp only [outT,r4 b hb],⟨us.toArray,by simpa using r2,rfl,fun i x u hx hu=>RK.out (r5 i x u hx (by simpa using hu))⟩,by rw [h2];trivial⟩
  have pack:∀ (u:Value) (T2:Tags),(∀ b,b<w.heap.size→(T0 b=.ro∨T0 b=.other)→w2.heap[b]?=w.heap[b]?∧T2 b=T0 b)→(∀ b,w2.heap.size≤b→T2 b=.other)→ResRep T2 w2 rs u→LOut T2 w2 v out→∃ u' T',Ending.returned u=.returned u'∧w.heap.size≤w2.heap.size∧w2.os=w.os∧w2.tape=w.tape∧w2.output=w.output∧(∀ b,b<w.heap.size→(T0 b=.ro∨T0 b=.other)→w2.heap[b]?=w.heap[b]?∧T' b=T0 b)∧(∀ b,w2.heap.size≤b→T' b=.other)∧ResRep T' w2 rs u'∧LOut T' w2 v out:=fun u T2 s1 s2 s3 s4 =>
   ⟨u,T2,rfl,by omega,e1.trans p2,e2.trans p3,e3.trans p4,s1,s2,s3,s4⟩
  unfold linRes at hrs
  cases x with
  |row sz es =>
   obtain ⟨l,h1,h2⟩:=map_some' hrs
   cases h2
   obtain ⟨u,T2,s0,s1,s2,s3,s4⟩:=plain (fun _ e=>by cases e) h1 rfl
   exact ⟨u,s0,pack u T2 s1 s2 s3 s4⟩
  |own lo =>
   obtain ⟨l,h1,h2⟩:=map_some' hrs
   cases h2
   obtain ⟨u,T2,s0,s1,s2,s3,s4⟩:=plain (fun _ e=>by cases e) h1 rfl
   exact ⟨u,s0,pack u T2 s1 s2 s3 s4⟩
  |box cs =>
   simp only at hrs
   split at hrs
   case h_2=>cases hrs
   rename_i bx hbx
   split at hrs
   ·cases hrs
   rename_i hfz
   have hfz:bx.fz=false:=by simpa using hfz
   obtain ⟨l,h1,h2⟩:=map_some' hrs
   cases h2
   obtain ⟨T1,t1,t2,_,_,_⟩:=q1'.freezeRowsB 0
   obtain ⟨us,T2,r1,r2,r3,r4,r5,_,r7⟩:=result_list 0 t1 k6 h1 (Nat.le_refl _)
   have hσ:σ' 0=σ0 0:=q3 0 (by simp [LArg.boxes])
   obtain ⟨arr,E,g1,g2,g3,g4,g5⟩:=t1.boxes 0 bx hbx
   have hT1:T1 (σ' 0)=.box 0:=by rw [g3];simp [hfz]
   have hrow:∀ (j s:Nat) (l:List PV),bx.cs[j]?≠some (BV.row s l):=fun j s l e=>by
    unfold St.freezeRows at hbx
    cases h0:st.boxes[0]? with
    |none=>rw [h0] at hbx;simp only at hbx;rw [h0] at hbx;cases hbx
    |some b0 =>
     rw [h0] at hbx
     have hl0:0<st.boxes.length:=(List.getElem?_eq_some_iff.1 h0).1
     simp only [List.getElem?_set_self hl0,Option.some.injEq] at hbx
     rw [← hbx] at e
     obtain ⟨x,_,hx⟩:=frozen_get e
     cases hx
   refine ⟨_,results_run r1,pack _ (outT T2 (st.freezeRows 0).slots.length) (fin T1 T2 _ t2 r3) (fun b hb=>by simp only [outT,r4 b hb]) ⟨us.toArray,by simpa using r2,rfl,fun i x u hx hu=>RK.out (.inl (by simpa using r5 i x u hx (by simpa using hu)))⟩ fun b hv=>?_⟩
   have hb0:σ' 0=b:=hσ.trans (hσ0 b hv ⟨cs,rfl⟩)
   rw [hb0] at g1 hT1
   refine ⟨by simp only [outT,r7 b 0 hT1],arr,E,g1,by simpa using g2,fun j x u hx hu=>?_⟩
   rw [List.getElem?_map] at hx
   cases hc:bx.cs[j]? with
   |none=>rw [hc] at hx;cases hx
   |some bv =>
    rw [hc] at hx
    have hx:=Option.some.inj hx
    subst hx
    obtain ⟨y1,y2⟩:=g5 j bv u hc hu
    refine ⟨y1,?_⟩
    cases bv with
    |pv p=>exact PRep.frame (fun b hb _=>⟨by simp only [outT,r3.ro b hb],rfl⟩) y2
    |row s l=>exact absurd hc (hrow j s l)
 cases e with
 |normal=>exact key
 |ret=>exact key
 |exit i=>exact absurd rfl (he i)
 |thr t n=>exact absurd rfl (he2 t n)
end
end Go.Proofs.Ytpdfhckdmblicaa

namespace Go.Proofs.Ytpdfhckdmblicaa
open Go.RowKit
def zval:PV→Value
 |.int k n=>.int k n
 |.bool b=>.bool b
 |_=>.slice none 0 0
def zeroAll:List Nat→List (List PV)→World→World
 |b :: bs,z :: zs,w=>zeroAll bs zs (w.setRow b (z.map zval).toArray)
 |_,_,w=>w
def RescOk (P:Program) (r t:Nat):Prop:=callable P r=true ∧
 (∀ (b:Nat) (m n:Int) (E:TypeId) (w:World),w.heap[b]?=some (.cells #[.int .i64 m] E (0,0))→CallsDIn Fence.wide 0 P r #[.pointer (some ⟨b,0,none⟩)] (.panicking [{ v:=.iface t (.int .i64 n),recovered:=false }]) w fun e u' w'=>e=.returned (.tuple #[])∧settle u'=.returning∧w'=w.setRow b #[.int .i64 n]) ∧
 (∀ (b:Nat) (w:World),CallsDIn Fence.wide 0 P r #[.pointer (some ⟨b,0,none⟩)] .returning w fun e u' w'=>e=.returned (.tuple #[])∧settle u'=.returning∧w'=w)
def ptrs (bs:List Nat):Array Value:=(bs.map fun b=>Value.pointer (some ⟨b,0,none⟩)).toArray
def ClosOk (P:Program) (g:Nat) (zs:List (List PV)):Prop:=callable P g=true ∧
 (∀ (be:Nat) (bs:List Nat) (E:TypeId) (w:World),bs.length=zs.length→w.heap[be]?=some (.cells #[.int .i64 0] E (0,0))→CallsDIn Fence.wide 0 P g (ptrs (be :: bs)) .returning w fun e u' w'=>e=.returned (.tuple #[])∧settle u'=.returning∧w'=w) ∧
 (∀ (be:Nat) (bs:List Nat) (m:Int) (E:TypeId) (w:World),m≠0→bs.length=zs.length→w.heap[be]?=some (.cells #[.int .i64 m] E (0,0)) →
  (∀ (i:Nat) b z,bs[i]?=some b→zs[i]?=some z→∃ arr E,w.heap[b]?=some (.cells arr E (0,0))∧arr.size=z.length)→(be :: bs).Nodup →
  CallsDIn Fence.wide 0 P g (ptrs (be :: bs)) .returning w fun e u' w'=>e=.returned (.tuple #[])∧settle u'=.returning∧w'=zeroAll bs zs w)
def deferOf:Op→Option (Operand × List Operand)
 |.defer c=>match c.callee with
  |.value y=>some (y,c.args.toList)
  |_=>none
 |_=>none
def isResc (fn:DFn):List Oper→Bool
 |[o]=>o.guard.isNone&&o.dst.isNone&&(match deferOf o.op with
  |some (.func f,[.tmp s])=>f==fn.resc&&s==fn.e
  |_=>false)
 |_=>false
def isClos (P:Program) (fn:DFn):List Oper→Bool
 |[o,o2]=>match fn.clos with
  |some (d,g,zs)=>o.guard.isNone&&m1 P o (.mkf d g (.t fn.e :: zs.map fun z=>.t z.1))&&o2.guard.isNone&&o2.dst.isNone&&(match deferOf o2.op with
   |some (.tmp s,[])=>s==d
   |_=>false)
  |none=>false
 |_=>false
def mD (P:Program) (fn:DFn):Code→Bool
 |.seq r0 (.seq (.region _ o1 false) c)=>mC P r0 fn.pre&&(match fn.clos with
  |none=>isResc fn o1.toList&&mC P c fn.body
  |some _=>(match c with
   |.seq (.region _ o2 false) rest=>isClos P fn o1.toList&&isResc fn o2.toList&&mC P rest fn.body
   |_=>false))
 |_=>false
def dfnOk (P:Program) (f:Nat) (fn:DFn):Bool :=
 match P.funcs[f]? with
 |some g=>(match g.body with
  |some c=>mD P fn c
  |none=>false)&&g.name != "runtime.NumGoroutine"&&g.ntmps==fn.ntmps&&decide (fn.nargs≤fn.ntmps)&&mResL P g.results.toList fn.results
 |none=>false
section
variable {P:Program} {L K nb n:Nat} {F:Fence} {σ σ':Nat→Nat} {T T' T1 T2:Tags} {st st' st1:St} {a a1:Act} {w w1:World} {r:Root} {o:Oper} {opl:Array Oper} {Q:Exit→Act→World→Prop}
 {rec:VCode→St→Option (Ex × St)} {env:Env}
theorem dfnOk_eq {f:Nat} {fn:DFn} (h:dfnOk P f fn=true):callable P f=true∧∃ g c,P.funcs[f]?=some g∧g.body=some c∧mD P fn c=true∧g.ntmps=fn.ntmps∧fn.nargs≤fn.ntmps∧mResL P g.results.toList fn.results=true:=by
 unfold dfnOk at h
 split at h
 case h_2=>cases h
 rename_i g hf
 simp only [Bool.and_eq_true,beq_iff_eq,bne_iff_ne,decide_eq_true_eq] at h
 obtain ⟨⟨⟨⟨h1,h2⟩,h3⟩,h4⟩,h5⟩:=h
 split at h1
 case h_2=>cases h1
 rename_i c hb
 exact ⟨by simp [callable,hf,h2,hb],g,c,hf,hb,h1,h3,h4,h5⟩
theorem Sim.withDefers (h:Sim L σ T st a w) (ds:List Deferred):Sim L σ T st { a with defers:=ds } w:=⟨h.size,h.slots,h.boxes,h.fresh⟩
theorem leavesM_marks2 {fn:Func} {tmps:Array Value} {R:Ending→World→Prop} {B:Nat} {ds:List Deferred} {u:FrameMode} (hu:u≠.run):∀ {ms:List Nat} {w:World},ms.Nodup→(∀ r∈ms,B≤r∧w.heap[r]?=some (.deferred (some []))) →
  (∀ w',w'.os=w.os→w'.tape=w.tape→w'.output=w.output→w'.heap.size=w.heap.size→(∀ b,b ∉ ms→w'.heap[b]?=w.heap[b]?)→LeavesInM Fence.wide 0 P fn tmps R ds u w') →
  LeavesInM Fence.wide 0 P fn tmps R (ms.map markOf++ds) u w
 |[],w,_,_,h=>h w rfl rfl rfl rfl fun _ _=>rfl
 |r :: ms,w,hnd,hms,h=>by
  simp only [List.map_cons,List.cons_append,LeavesInM]
  obtain ⟨hn1,hn2⟩:=List.nodup_cons.1 hnd
  obtain ⟨k1,k2⟩:=hms r (by simp)
  have hput:∀ b,b≠r→(w.putObj r (.deferred none)).heap[b]?=w.heap[b]?:=fun b hb=>by simp [World.putObj,Array.getElem?_setIfInBounds,Ne.symm hb]
  refine ⟨hu,.inl ⟨r,_,rfl,run_takeDeferred k2,leavesM_marks2 hu (B:=B) hn2 (fun r' hr'=>?_) fun w' e1 e2 e3 e4 e5=>h w' e1 e2 e3 (by rw [e4];simp [World.putObj]) fun b hb=>?_⟩⟩
  ·obtain ⟨q1,q2⟩:=hms r' (by simp [hr'])
   exact ⟨q1,by rw [hput r' (fun e=>hn1 (e ▸ hr'))];exact q2⟩
  ·simp only [List.mem_cons,not_or] at hb
   rw [e5 b hb.2,hput b hb.1]
theorem leavesM_call {fn:Func} {tmps:Array Value} {R:Ending→World→Prop} {ds:List Deferred} {u:FrameMode} {g:Nat} {arr args:Array Value} (hu:u≠.run) (hc:callable P g=true)
  {w':World} (h:CallsDIn Fence.wide 0 P g (args++arr) u w fun e u' w2=>e=.returned (.tuple #[])∧settle u'=.returning∧w2=w') (hn:LeavesInM Fence.wide 0 P fn tmps R ds .returning w') :
  LeavesInM Fence.wide 0 P fn tmps R ({ target:=.fn (.func g) arr,args:=args } :: ds) u w:=by
 simp only [LeavesInM]
 refine ⟨hu,.inr ⟨(fun e=>by cases e),_,_,g,_,rfl,run_callFunc hc _ _,(fun _ _=>trivial),h.mono ?_⟩⟩
 rintro e u' w2 ⟨rfl,h2,rfl⟩
 simp only [h2]
 exact hn
theorem naught_rep {ok:Nat→Prop} {x:PV} (h:x.naught=true):PRep ok w x (zval x)∧(zval x).oneCell'=true:=by
 cases x with
 |int k n=>exact ⟨.int _ _,rfl⟩
 |bool b=>exact ⟨.bool _,rfl⟩
 |list sz l=>cases l with
  |nil=>exact ⟨.nil _ _,rfl⟩
  |cons _ _=>cases h
 |nils sz=>exact ⟨.nils _ _,rfl⟩
 |_=>cases h
theorem Sim.setVar (h:Sim L σ T st a w) {p:Nat} {vals:List PV} (hp:st.setVar p vals=some st'):(∃ arr E,w.heap[σ p]?=some (.cells arr E (0,0))∧arr.size=vals.length)∧Sim L σ T st' a (w.setRow (σ p) (vals.map zval).toArray) ∧
  Chg T T w (w.setRow (σ p) (vals.map zval).toArray)∧T (σ p)=.box p:=by
 unfold St.setVar at hp
 split at hp
 case h_2=>cases hp
 rename_i bx hb
 split at hp
 ·cases hp
 rename_i hc
 simp only [Bool.or_eq_true,Bool.not_eq_true',decide_eq_false_iff_not,not_or,Bool.not_eq_true,Classical.not_not,Bool.not_eq_false] at hc
 obtain ⟨⟨c1,c2⟩,c3⟩:=hc
 cases Option.some.inj hp
 obtain ⟨arr,E,g1,g2,g3,g4,g5⟩:=h.boxes p bx hb
 have:=h.setBox (T':=T) (cs':=vals.map .pv) (arr':=(vals.map zval).toArray) id hb c1 g1 (by simp [c2]) (by simp [g2,c2]) (fun k bv u hk hu=>by
  rw [List.getElem?_map] at hk
  cases hx:vals[k]? with
  |none=>rw [hx] at hk;cases hk
  |some x =>
   rw [hx] at hk
   cases hk
   rw [List.getElem?_toArray,List.getElem?_map,hx] at hu
   cases hu
   obtain ⟨q1,q2⟩:=naught_rep (w:=w.setRow (σ p) (vals.map zval).toArray) (ok:=fun b=>T b=.ro) (List.all_eq_true.1 c3 x (List.mem_of_getElem? hx))
   exact ⟨q2,q1⟩) (fun x=>.inr ⟨rfl,fun k _ s l hk=>by
  rw [List.getElem?_map] at hk
  cases hx:vals[k]? with
  |none=>rw [hx] at hk;cases hk
  |some x=>rw [hx] at hk;cases hk⟩) (fun _ e=>e) (fun _ _ e=>e) (fun _ e=>e) (fun _ _ _ _ _ e=>e) (fun _ _ _ _ _ e=>e) (fun _ _ _ _ e=>e)
 rw [List.map_id] at this
 exact ⟨⟨arr,E,g1,by omega⟩,this.1,this.2,by rw [g3,c1];rfl⟩
theorem setVar_boxes {p:Nat} {vals:List PV} (hp:st.setVar p vals=some st'):(∃ bx:Box,st.boxes[p]?=some bx∧bx.fz=false∧bx.cs.length=vals.length)∧∀ (q:Nat) (bx':Box),st'.boxes[q]?=some bx'→∃ bx:Box,st.boxes[q]?=some bx∧bx.fz=bx'.fz∧bx.cs.length=bx'.cs.length:=by
 unfold St.setVar at hp
 split at hp
 case h_2=>cases hp
 rename_i bx hb
 split at hp
 ·cases hp
 rename_i hc
 simp only [Bool.or_eq_true,Bool.not_eq_true',decide_eq_false_iff_not,not_or,Bool.not_eq_true,Classical.not_not,Bool.not_eq_false] at hc
 obtain ⟨⟨c1,c2⟩,c3⟩:=hc
 cases Option.some.inj hp
 refine ⟨⟨bx,hb,c1,c2⟩,fun q bx' hq=>?_⟩
 simp only [List.getElem?_set] at hq
 split at hq
 ·rename_i e
  subst e
  split at hq
  ·cases hq;exact ⟨bx,hb,rfl,by simp [c2]⟩
  ·cases hq
 ·exact ⟨bx',hq,rfl,rfl⟩
theorem setVars_boxes:∀ {os:List Nat} {zs:List (List PV)} {st:St},St.setVars os zs st=some st'→os.length=zs.length∧∀ (i:Nat) p z,os[i]?=some p→zs[i]?=some z→∃ bx:Box,st.boxes[p]?=some bx∧bx.fz=false∧bx.cs.length=z.length
 |[],[],st,_=>⟨rfl,fun i p z h=>by simp at h⟩
 |[],_ :: _,st,h=>by simp [St.setVars] at h
 |_ :: _,[],st,h=>by simp [St.setVars] at h
 |o :: os,z :: zs,st,h=>by
  simp only [St.setVars] at h
  obtain ⟨s1,h1,h2⟩:=bind_some h
  obtain ⟨g1,g2⟩:=setVar_boxes h1
  obtain ⟨k1,k2⟩:=setVars_boxes h2
  refine ⟨by simp [k1],fun i p z' hp hz=>?_⟩
  cases i with
  |zero=>simp only [List.getElem?_cons_zero,Option.some.injEq] at hp hz;subst hp;subst hz;exact g1
  |succ i =>
   obtain ⟨bx',q1,q2,q3⟩:=k2 i p z' (by simpa using hp) (by simpa using hz)
   obtain ⟨bx,r1,r2,r3⟩:=g2 p bx' q1
   exact ⟨bx,r1,r2.trans q2,r3.trans q3⟩
theorem Sim.setVars:∀ {os:List Nat} {zs:List (List PV)} {st:St} {w:World},Sim L σ T st a w→St.setVars os zs st=some st'→Sim L σ T st' a (zeroAll (os.map σ) zs w)∧Chg T T w (zeroAll (os.map σ) zs w)
 |[],[],st,w,h,hp=>by
  simp only [St.setVars,Option.some.injEq] at hp
  subst hp
  exact ⟨h,Chg.refl T w⟩
 |[],_ :: _,st,w,_,h=>by simp [St.setVars] at h
 |_ :: _,[],st,w,_,h=>by simp [St.setVars] at h
 |o :: os,z :: zs,st,w,hs,h=>by
  simp only [St.setVars] at h
  obtain ⟨s1,h1,h2⟩:=bind_some h
  obtain ⟨_,g1,g2,_⟩:=hs.setVar h1
  obtain ⟨k1,k2⟩:=Sim.setVars g1 h2
  exact ⟨k1,g2.trans k2⟩
theorem Sim.varInt (h:Sim L σ T st a w) {p:Nat} {m:Int} (hp:st.varInt p=some m):(∃ E,w.heap[σ p]?=some (.cells #[.int .i64 m] E (0,0)))∧T (σ p)=.box p:=by
 unfold St.varInt at hp
 split at hp
 case h_2=>cases hp
 rename_i m' hb
 cases Option.some.inj hp
 obtain ⟨arr,E,g1,g2,g3,g4,g5⟩:=h.boxes p _ hb
 refine ⟨⟨E,?_⟩,g3⟩
 match arr,g2 with
 |⟨[u]⟩,_ =>
  have:=(g5 0 _ u rfl rfl).2
  rw [PRep.int_inv this] at g1
  exact g1
theorem code_thr (hR:RecOk P rec) {f:Nat} {fn:VFn} {args:List PV} {t:Nat} {m:Int} (hfn:fnOk P f fn=true) (hl:args.length=fn.nargs)
  (hb:rec fn.body ⟨args.map .pv++List.replicate (fn.ntmps - args.length) .any,[],[],none⟩=some (.thr t m,st)):ThrOk P f args t m:=by
 intro T0 w vs h0 hf hlen hr hG
 obtain ⟨_,g,c,k1,k2,k3,k4,k5,k6⟩:=fnOk_eq hfn
 refine (callsIn_wide (n:=0)).1 (callsIn_of_wp_marks k1 k2 trivial ?_)
 rw [k4]
 have hsim:Sim 0 (fun _=>0) T0 ⟨args.map .pv++List.replicate (fn.ntmps - args.length) .any,[],[],none⟩ { tmps:=vs.toArray++Array.replicate (fn.ntmps - vs.toArray.size) undef,defers:=[] } w:=init_sim hf hlen hr [] none
 have hC:Ctx.Ok ⟨st.ys,none,plainJ T0 w⟩ P 0:=⟨fun k T T' w1 w2 hc h=>plainJ_keep (k:=k) h0 hc h,fun k T w1 h=>hG.frame fun b e hb=>⟨(h.2 b hb).trans e,h.1.block b hb⟩,fun s k T w ps vs hs=>by cases hs⟩
 have hJ:plainJ T0 w 0 T0 w:=⟨Below.refl _ _,fun _ _=>rfl⟩
 refine wpIn_mono (hR.wp (F:=Fence.wide) (L:=0) (C:=⟨st.ys,none,plainJ T0 w⟩) (n:=0) (.inl rfl) (Ctx.rec_wide _) hC c fn.body _ _ st k3 hb rfl (List.prefix_refl _) _ T0 _ w hsim hJ) ?_
 rintro x a' w' ⟨rfl,σ',T',ms,q1,q2,q3,q4,q5,q6⟩
 obtain ⟨p1,p2⟩:=q2
 simp only [toX,bodyPostM]
 rw [q5]
 refine leavesM_marks2 (B:=w.heap.size) (by simp) q6.2 (fun r hr=>⟨(q6.1 r hr).1,(q6.1 r hr).2.2⟩) fun w2 e1 e2 e3 e4 e5=>?_
 have hms:∀ b,b<w.heap.size→b ∉ ms:=fun b hb hm=>by have:=(q6.1 b hm).1;omega
 exact ⟨rfl,p1.trans ⟨e1,e2,e3,by omega,fun b hb=>e5 b (hms b hb)⟩⟩
theorem mapM_box {caps:List AV} {os:List Nat} (h:caps.mapM boxOf=some os):caps=os.map (.pbox · 0):=by
 obtain ⟨l1,l2⟩:=mapM_some h
 refine List.ext_getElem? fun i=>?_
 rw [List.getElem?_map]
 cases hc:caps[i]? with
 |none =>
  have:=List.getElem?_eq_none_iff.1 hc
  rw [List.getElem?_eq_none (by omega)]
  rfl
 |some c =>
  obtain ⟨q,g1,g2⟩:=l2 i c hc
  rw [g2]
  unfold boxOf at g1
  split at g1
  ·cases g1;rfl
  ·cases g1
set_option maxHeartbeats 1000000 in
theorem code_dfn (hR:RecOk P rec) {f:Nat} {fn:DFn} {args:List PV} {rs:List Res} (hfn:dfnOk P f fn=true) (hresc:RescOk P fn.resc fn.t) (hclos:∀ d g zs,fn.clos=some (d,g,zs)→ClosOk P g (zs.map (·.2))) (hl:args.length=fn.nargs) {s0 s1 s4:St} {e:Ex}
  (hp:rec fn.pre ⟨args.map .pv++List.replicate (fn.ntmps - args.length) .any,[],[],none⟩=some (.normal,s0)) (hm:fn.begun s0=some s1) (hb:rec fn.body s1=some (e,s4)) (he:dfnEnd fn s1 e s4=some rs):CallOk P f args rs:=by
 intro T0 w vs h0 hf hlen hr hG
 obtain ⟨_,g,c,k1,k2,k3,k4,k5,k6⟩:=dfnOk_eq hfn
 refine (callsIn_wide (n:=0)).1 (callsIn_of_wp_marks k1 k2 trivial ?_)
 rw [k4]
 have hsim:Sim 0 (fun _=>0) T0 ⟨args.map .pv++List.replicate (fn.ntmps - args.length) .any,[],[],none⟩ { tmps:=vs.toArray++Array.replicate (fn.ntmps - vs.toArray.size) undef,defers:=[] } w:=init_sim hf hlen hr [] none
 have hC:Ctx.Ok ⟨s4.ys,none,plainJ T0 w⟩ P 0:=⟨fun k T T' w1 w2 hc h=>plainJ_keep (k:=k) h0 hc h,fun k T w1 h=>hG.frame fun b e hb=>⟨(h.2 b hb).trans e,h.1.block b hb⟩,fun s k T w ps vs hs=>by cases hs⟩
 have hJ:plainJ T0 w 0 T0 w:=⟨Below.refl _ _,fun _ _=>rfl⟩
 -- the deferred calls
 unfold dfnEnd at he
 obtain ⟨oe,ho,he⟩:=bind_some he
 obtain ⟨s5,h5,he⟩:=bind_some he
 obtain ⟨s6,h6,hrs⟩:=bind_some he
 -- the body,its surroundings laid
 have body:∀ (rest:Code) (σ2:Nat→Nat) (T2:Tags) (a2:Act) (w2:World) (ms1:List Nat) (dl:List Deferred),mC P rest fn.body=true→Sim 0 σ2 T2 s1 a2 w2→plainJ T0 w 0 T2 w2→Stays T0 T2 w w2→s1.stop=none→s1.ys <+: s4.ys→Marks T2 w w2 ms1 →
   a2.defers={ target:=.fn (.func fn.resc) #[],args:=#[.pointer (some ⟨σ2 oe,0,none⟩)] } :: (dl++ms1.map markOf) →
   ((fn.clos=none∧dl=[])∨∃ d gf zs os,fn.clos=some (d,gf,zs)∧heldOf s1 d gf=some os∧(∀ o∈os,o<s1.boxes.length)∧dl=[{ target:=.fn (.func gf) (ptrs (os.map σ2)),args:=#[] }])→oe<s1.boxes.length →
   rest.wpIn Fence.wide 0 P (bodyPostM Fence.wide 0 P g (fun e w'=>∃ v T',e=.returned v∧Below w.heap.size w w'∧(∀ b,b<w.heap.size→T' b=T0 b)∧(∀ b,w'.heap.size≤b→T' b=.other)∧ResRep T' w' rs v)) a2 w2:=by
  intro rest σ2 T2 a2 w2 ms1 dl hmc hs2 hJ2 hst2 hstop hys hms1 hdef hdl hoe
  refine wpIn_mono (hR.wp (F:=Fence.wide) (L:=0) (C:=⟨s4.ys,none,plainJ T0 w⟩) (n:=0) (.inl rfl) (Ctx.rec_wide _) hC rest fn.body _ e s4 hmc hb hstop (List.prefix_refl _) σ2 T2 a2 w2 hs2 hJ2) ?_
  rintro x a4 w4 ⟨rfl,σ4,T4,ms4,q1,q2,q3,q4,q5,q6⟩
  obtain ⟨p1,p2⟩:=q2
  have hms4:∀ b,b<w2.heap.size→b ∉ ms4:=fun b hb hm=>by have:=(q6.1 b hm).1;omega
  have hsz2:w.heap.size≤w2.heap.size:=hst2.size
  have hm1:∀ r∈ms1,r<w2.heap.size:=fun r hr=>(Array.getElem?_eq_some_iff.1 (hms1.1 r hr).2.2).1
  -- behind all that is deferred
  have last:∀ (T6:Tags) (w6:World),Sim 0 σ4 T6 s6 a4 w6→Below w.heap.size w w6→(∀ b,b<w.heap.size→T6 b=T0 b)→(∀ r∈ms1,w6.heap[r]?=some (.deferred (some []))) →
    LeavesInM Fence.wide 0 P g a4.tmps (fun e w'=>∃ v T',e=.returned v∧Below w.heap.size w w'∧(∀ b,b<w.heap.size→T' b=T0 b)∧(∀ b,w'.heap.size≤b→T' b=.other)∧ResRep T' w' rs v) (ms1.map markOf) .returning w6:=by
   intro T6 w6 g1 g2 g3 g4
   refine leavesM_marks (B:=w.heap.size) hms1.2 (fun r hr=>⟨(hms1.1 r hr).1,g4 r hr⟩) fun w7 e1 e2 e3 e4 e5=>?_
   have q1':=g1.drop (fun r hr ⟨arr,E,q,e⟩=>by rw [g4 r hr] at e;cases e) e5 e4
   obtain ⟨us,T8,r1,r2,r3,r4,r5⟩:=results_ok q1' k6 hrs
   have hms:∀ b,b<w.heap.size→b ∉ ms1:=fun b hb hm=>by have:=(hms1.1 b hm).1;omega
   have hT2:∀ b,b<w.heap.size→T8 b=T0 b:=fun b hb=>by
    have e:drop T6 ms1 b=T0 b:=by simp only [drop,if_neg (hms b hb)];exact g3 b hb
    rcases h0 b with e0|e0
    ·rw [e0];exact r3.ro b (by rw [e,e0])
    ·rw [e0];exact r3.other b (by rw [e,e0])
   refine ⟨_,results_run r1,_,outT T8 s6.slots.length,rfl,g2.trans ⟨e1,e2,e3,by omega,fun b hb=>e5 b (hms b hb)⟩,fun b hb=>?_,fun b hb=>?_,us.toArray,by simpa using r2,rfl,fun i x u hx hu=>RK.out (r5 i x u hx (by simpa using hu))⟩
   ·simp only [outT,hT2 b hb]
    rcases h0 b with e0|e0<;>rw [e0]
   ·simp only [outT,r4 b hb]
  -- a block of the call's own is none of what was there
  have own:∀ {T6:Tags} {p b:Nat},(∀ b,b<w.heap.size→T6 b=T0 b)→T6 b=.box p→w.heap.size≤b:=fun {T6 p b} g3 e=>by
   rcases Nat.lt_or_ge b w.heap.size with h|h
   ·have:=g3 b h
    rw [e] at this
    rcases h0 b with e0|e0<;>rw [e0] at this<;>cases this
   ·exact h
  have step:∀ {T6:Tags} {w6 w7:World},Chg T6 T6 w6 w7→Below w.heap.size w w6→(∀ b,b<w.heap.size→T6 b=T0 b)→(∀ r∈ms1,T6 r=.ro∧w6.heap[r]?=some (.deferred (some [])))→Below w.heap.size w w7∧∀ r∈ms1,T6 r=.ro∧w7.heap[r]?=some (.deferred (some [])):=fun {T6 w6 w7} hc hB hT hm=>by
   have hsz:w.heap.size≤w6.heap.size:=hB.size
   refine ⟨hB.trans ⟨hc.os,hc.tape,hc.output,hc.size,fun b hb=>hc.same b (Nat.lt_of_lt_of_le hb hsz) ?_⟩,fun r hr=>?_⟩
   ·rw [hT b hb];exact h0 b
   ·obtain ⟨m1,m2⟩:=hm r hr
    exact ⟨m1,(hc.same r (Array.getElem?_eq_some_iff.1 m2).1 (.inl m1)).trans m2⟩
  -- the closure
  have clos:∀ (T5:Tags) (w5:World),Sim 0 σ4 T5 s5 a4 w5→Below w.heap.size w w5→(∀ b,b<w.heap.size→T5 b=T0 b)→(∀ r∈ms1,T5 r=.ro∧w5.heap[r]?=some (.deferred (some []))) →
    LeavesInM Fence.wide 0 P g a4.tmps (fun e w'=>∃ v T',e=.returned v∧Below w.heap.size w w'∧(∀ b,b<w.heap.size→T' b=T0 b)∧(∀ b,w'.heap.size≤b→T' b=.other)∧ResRep T' w' rs v) (dl++ms1.map markOf) .returning w5:=by
   intro T5 w5 g1 g2 g3 g4
   unfold dfnClos at h6
   rcases hdl with ⟨hn,rfl⟩|⟨d,gf,zs,os,hc,hos,hlt,rfl⟩
   ·rw [hn] at h6
    cases Option.some.inj h6
    exact last T5 w5 g1 g2 g3 fun r hr=>(g4 r hr).2
   ·rw [hc] at h6
    simp only [hos,Option.bind_some] at h6
    split at h6
    case isFalse=>cases h6
    rename_i hcond
    obtain ⟨c1,c2,c3⟩:=hcond
    obtain ⟨m,hm',h6⟩:=bind_some h6
    obtain ⟨os',rfl⟩:∃ os',os=oe :: os':=by
     cases os with
     |nil=>cases c1
     |cons x l=>cases c1;exact ⟨l,rfl⟩
    obtain ⟨d1,d2,d3⟩:=hclos d gf zs hc
    obtain ⟨⟨E,v1⟩,v2⟩:=g1.varInt hm'
    have hσ:∀ o∈oe :: os',σ4 o=σ2 o:=fun o ho=>q3 o (hlt o ho)
    have hmap:(oe :: os').map σ2=(oe :: os').map σ4:=List.map_congr_left fun o ho=>(hσ o ho).symm
    have hlen':(os'.map σ4).length=(zs.map (·.2)).length:=by simp at c3 ⊢;exact c3
    rw [hmap]
    show LeavesInM Fence.wide 0 P g a4.tmps _ ({ target:=.fn (.func gf) (ptrs (σ4 oe :: os'.map σ4)),args:=#[] } :: ms1.map markOf) .returning w5
    split at h6
    ·rename_i hm0
     subst hm0
     cases Option.some.inj h6
     refine leavesM_call (by simp) d1 (w':=w5) ?_ (last T5 w5 g1 g2 g3 fun r hr=>(g4 r hr).2)
     rw [Array.empty_append]
     exact d2 _ _ E w5 hlen' v1
    ·rename_i hm0
     simp only [List.tail_cons] at h6
     obtain ⟨_,b2⟩:=setVars_boxes h6
     obtain ⟨x1,x2⟩:=g1.setVars h6
     have hbox:∀ o∈oe :: os',T5 (σ4 o)=.box o:=fun o ho=>by
      rcases List.mem_cons.1 ho with rfl|ho
      ·exact v2
      ·obtain ⟨i,hi⟩:=List.mem_iff_getElem?.1 ho
       have hi2:i<(zs.map (·.2)).length:=by rw [← hlen',List.length_map];exact (List.getElem?_eq_some_iff.1 hi).1
       obtain ⟨bx,y1,y2,y3⟩:=b2 i o _ hi (List.getElem?_eq_getElem hi2)
       obtain ⟨_,_,_,_,y4,_⟩:=g1.boxes o bx y1
       rw [y4,y2];rfl
     refine leavesM_call (by simp) d1 (w':=zeroAll (os'.map σ4) (zs.map (·.2)) w5) ?_ ?_
     ·rw [Array.empty_append]
      refine d3 _ _ m E w5 hm0 hlen' v1 (fun i b z hi hz=>?_) ?_
      ·rw [List.getElem?_map] at hi
       cases ho:os'[i]? with
       |none=>rw [ho] at hi;cases hi
       |some o =>
        rw [ho] at hi
        cases hi
        obtain ⟨bx,y1,y2,y3⟩:=b2 i o z ho hz
        obtain ⟨arr,E',z1,z2,_⟩:=g1.boxes o bx y1
        exact ⟨arr,E',z1,by omega⟩
      ·show ((oe :: os').map σ4).Nodup
       refine List.pairwise_map.2 (List.Pairwise.imp_of_mem (fun {x y} hx hy hxy hs=>hxy ?_) c2)
       have:=hbox x hx
       rw [hs,hbox y hy] at this
       cases this
       rfl
     ·obtain ⟨y1,y2⟩:=step x2 g2 g3 g4
      exact last T5 _ x1 y1 g3 fun r hr=>(y2 r hr).2
  -- the marks of the body,then what puts the failure into the variable
  have resc:∀ (u:FrameMode),u≠.run→(∀ (w5:World),Sim 0 σ4 (drop T4 ms4) s4 a4 w5→Below w.heap.size w w5→(∀ r∈ms1,drop T4 ms4 r=.ro∧w5.heap[r]?=some (.deferred (some [])))→(∀ b,b<w.heap.size→drop T4 ms4 b=T0 b) →
    LeavesInM Fence.wide 0 P g a4.tmps (fun e w'=>∃ v T',e=.returned v∧Below w.heap.size w w'∧(∀ b,b<w.heap.size→T' b=T0 b)∧(∀ b,w'.heap.size≤b→T' b=.other)∧ResRep T' w' rs v) ({ target:=.fn (.func fn.resc) #[],args:=#[.pointer (some ⟨σ4 oe,0,none⟩)] } :: (dl++ms1.map markOf)) u w5) →
    LeavesInM Fence.wide 0 P g a4.tmps (fun e w'=>∃ v T',e=.returned v∧Below w.heap.size w w'∧(∀ b,b<w.heap.size→T' b=T0 b)∧(∀ b,w'.heap.size≤b→T' b=.other)∧ResRep T' w' rs v) a4.defers u w4:=by
   intro u hu hk
   rw [q5,hdef,← q3 oe hoe]
   refine leavesM_marks2 (B:=w2.heap.size) hu q6.2 (fun r hr=>⟨(q6.1 r hr).1,(q6.1 r hr).2.2⟩) fun w5 e1 e2 e3 e4 e5=>?_
   have g1:=q1.drop (fun r hr ⟨arr,E,q,e⟩=>by rw [(q6.1 r hr).2.2] at e;cases e) e5 e4
   refine hk w5 g1 (p1.trans ⟨e1,e2,e3,by omega,fun b hb=>e5 b (hms4 b (by omega))⟩) (fun r hr=>?_) fun b hb=>?_
   ·have hn:=hms4 r (hm1 r hr)
    obtain ⟨_,m2,m3⟩:=hms1.1 r hr
    refine ⟨by simp only [drop,if_neg hn];exact q4.ro r m2,?_⟩
    rw [e5 r hn,q4.same r (hm1 r hr) m2];exact m3
   ·simp only [drop,if_neg (hms4 b (by omega))];exact p2 b hb
  cases e with
  |exit i=>cases h5
  |normal =>
   cases Option.some.inj h5
   refine resc .returning (by simp) fun w5 g1 g2 g4 g3=>?_
   exact leavesM_call (by simp) hresc.1 (w':=w5) (hresc.2.2 _ w5) (clos _ w5 g1 g2 g3 g4)
  |ret =>
   cases Option.some.inj h5
   refine resc .returning (by simp) fun w5 g1 g2 g4 g3=>?_
   exact leavesM_call (by simp) hresc.1 (w':=w5) (hresc.2.2 _ w5) (clos _ w5 g1 g2 g3 g4)
  |thr t m =>
   simp only [dfnResc] at h5
   split at h5
   case isFalse=>cases h5
   rename_i ht
   subst ht
   obtain ⟨m0,hv,h5⟩:=bind_some h5
   refine resc (.panicking [{ v:=.iface fn.t (.int .i64 m),recovered:=false }]) (by simp) fun w5 g1 g2 g4 g3=>?_
   obtain ⟨⟨E,v1⟩,v2⟩:=g1.varInt hv
   obtain ⟨_,x1,x2,_⟩:=g1.setVar h5
   obtain ⟨y1,y2⟩:=step x2 g2 g3 g4
   exact leavesM_call (by simp) hresc.1 (hresc.2.1 _ m0 m E w5 v1) (clos _ _ x1 y1 g3 y2)
 -- the defer statements
 have heval:∀ (b:Act) (f:Nat),b.eval (.func f)=.func (.func f) #[] #[]:=fun _ _=>rfl
 have hptr:∀ {σ:Nat→Nat} {T:Tags} {st:St} {b:Act} {w:World} {s p:Nat},Sim 0 σ T st b w→varOf st s=some p→p<st.boxes.length∧b.eval (.tmp s)=.pointer (some ⟨σ p,0,none⟩):=by
  intro σ T st b w s p hs hv
  unfold varOf at hv
  split at hv
  case h_2=>cases hv
  rename_i o' ho'
  cases Option.some.inj hv
  have hlt:s<b.tmps.size:=by rw [hs.size];exact (List.getElem?_eq_some_iff.1 ho').1
  have:=hs.slots s _ _ ho' (Array.getElem?_eq_getElem hlt)
  refine ⟨this.1,?_⟩
  have e:b.eval (.tmp s)=b.tmps[s]:=by simp [Act.eval,hlt]
  rw [e]
  exact this.2
 -- the statement that defers what turns a failure into an error
 have rescStep:∀ {ops:List Oper} {opl:Array Oper} {Q:Exit→Act→World→Prop} {σ2:Nat→Nat} {T2:Tags} {a2:Act} {w2:World},isResc fn ops=true→Sim 0 σ2 T2 s1 a2 w2 →
   Q .normal { a2 with defers:={ target:=.fn (.func fn.resc) #[],args:=#[.pointer (some ⟨σ2 oe,0,none⟩)] } :: a2.defers } w2→wpListIn Fence.wide 0 P opl Q ops a2 w2:=by
  intro ops opl Q σ2 T2 a2 w2 hr hs hq
  unfold isResc at hr
  split at hr
  case h_2=>cases hr
  rename_i o
  simp only [Bool.and_eq_true] at hr
  obtain ⟨⟨hg,hd⟩,hr⟩:=hr
  split at hr
  case h_2=>cases hr
  rename_i f' s hop
  simp only [Bool.and_eq_true,beq_iff_eq] at hr
  obtain ⟨rfl,rfl⟩:=hr
  obtain ⟨c',ats,hop⟩:∃ c':Call,∃ _:Unit,o.op=.defer c'∧c'.callee=.value (.func fn.resc)∧c'.args=#[.tmp fn.e]:=by
   unfold deferOf at hop
   split at hop
   case h_2=>cases hop
   rename_i c' hc'
   split at hop
   case h_2=>cases hop
   rename_i y hy
   simp only [Option.some.injEq,Prod.mk.injEq] at hop
   obtain ⟨rfl,h2⟩:=hop
   exact ⟨c',(),hc',hy,by rw [← h2]⟩
  obtain ⟨o1,o2,o3⟩:=hop
  have hw:Region.wanted o (yielded opl a2.tmps)=true:=by simp only [Region.wanted,Option.isNone_iff_eq_none.1 hg]
  simp only [wpListIn,hw,↓reduceIte]
  refine ⟨fun f _=>trivial,?_⟩
  have hrun:(o.semAt Fence.wide.round a2.eval).run P w2=.ok (.defer { target:=.fn (.func fn.resc) #[],args:=#[.pointer (some ⟨σ2 oe,0,none⟩)] }) w2:=by
   show (execOp a2.eval o).run P w2=_
   simp [execOp,o1,resolve,o2,o3,heval,Deferred.ofValue,(hptr hs ho).2]
  rw [hrun,Oper.uponIn_defer]
  have hd':o.dst=none:=by simpa using hd
  rw [hd']
  exact hq
 have closStep:∀ {ops:List Oper} {opl:Array Oper} {Q:Exit→Act→World→Prop} {σ2:Nat→Nat} {T2:Tags} {a2:Act} {w2:World} {d gf:Nat} {zs:List (Nat × List PV)} {os:List Nat},fn.clos=some (d,gf,zs)→isClos P fn ops=true→Sim 0 σ2 T2 s0 a2 w2→heldOf s1 d gf=some os →
   (∀ T3 a3,Sim 0 σ2 T3 s1 a3 w2→Still T2 T3→(∀ o∈os,o<s1.boxes.length)→a3.defers={ target:=.fn (.func gf) (ptrs (os.map σ2)),args:=#[] } :: a2.defers→Q .normal a3 w2)→wpListIn Fence.wide 0 P opl Q ops a2 w2:=by
  intro ops opl Q σ2 T2 a2 w2 d gf zs os hc hr hs hos hq
  unfold isClos at hr
  split at hr
  case h_2=>cases hr
  rename_i oa ob
  rw [hc] at hr
  simp only [Bool.and_eq_true] at hr
  obtain ⟨⟨⟨⟨hg1,hm1⟩,hg2⟩,hd2⟩,hr⟩:=hr
  split at hr
  case h_2=>cases hr
  rename_i s hop
  simp only [beq_iff_eq] at hr
  subst hr
  unfold DFn.begun at hm
  rw [hc] at hm
  simp only at hm
  obtain ⟨v,T3,h1,h2,h3⟩:=plain_sound hs hm1 hm
  have hw1:∀ f,Region.wanted oa f=true:=fun f=>by simp only [Region.wanted,Option.isNone_iff_eq_none.1 hg1]
  have hw2:∀ f,Region.wanted ob f=true:=fun f=>by simp only [Region.wanted,Option.isNone_iff_eq_none.1 hg2]
  simp only [wpListIn,hw1,hw2,↓reduceIte]
  refine wpIn_value (.inl rfl) hm1 (h1 w2 (Sees.refl T2 w2)) (.inl rfl) ?_
  obtain ⟨c',o1,o2,o3⟩:∃ c':Call,ob.op=.defer c'∧c'.callee=.value (.tmp s)∧c'.args=#[]:=by
   unfold deferOf at hop
   split at hop
   case h_2=>cases hop
   rename_i c' hc'
   split at hop
   case h_2=>cases hop
   rename_i y hy
   simp only [Option.some.injEq,Prod.mk.injEq] at hop
   obtain ⟨rfl,h2⟩:=hop
   exact ⟨c',hc',hy,by simpa using h2⟩
  -- what the closure holds
  unfold heldOf at hos
  split at hos
  case h_2=>cases hos
  rename_i g' caps hsl
  split at hos
  case isFalse=>cases hos
  rename_i hgg
  subst hgg
  have hcaps:=mapM_box hos
  subst hcaps
  have hlt:s<(a2.put oa.dst v).tmps.size:=by rw [h2.size];exact (List.getElem?_eq_some_iff.1 hsl).1
  obtain ⟨arr,e1,e2,e3⟩:=h2.slots s _ _ hsl (Array.getElem?_eq_getElem hlt)
  have hcr:∀ (k:Nat) o,os[k]?=some o→o<s1.boxes.length∧arr[k]?=some (.pointer (some ⟨σ2 o,0,none⟩)):=fun k o hk=>by
   have hk':k<arr.size:=by rw [e2,List.length_map];exact (List.getElem?_eq_some_iff.1 hk).1
   have:=e3 k (.pbox o 0) _ (by rw [List.getElem?_map,hk];rfl) (Array.getElem?_eq_getElem hk')
   exact ⟨this.1,by rw [Array.getElem?_eq_getElem hk',this.2]⟩
  have harr:arr=ptrs (os.map σ2):=by
   refine Array.ext_getElem? fun k=>?_
   unfold ptrs
   refine Eq.trans ?_ List.getElem?_toArray.symm
   rw [List.map_map,List.getElem?_map]
   cases hk:os[k]? with
   |some o=>rw [(hcr k o hk).2];rfl
   |none =>
    have:=List.getElem?_eq_none_iff.1 hk
    rw [List.length_map] at e2
    rw [Array.getElem?_eq_none (by omega)]
    rfl
  have hev:(a2.put oa.dst v).eval (.tmp s)=.func (.func g') #[] arr:=by
   have e:(a2.put oa.dst v).eval (.tmp s)=(a2.put oa.dst v).tmps[s]:=by simp [Act.eval,hlt]
   rw [e,e1]
  refine ⟨fun f _=>trivial,?_⟩
  have hrun:(ob.semAt Fence.wide.round (a2.put oa.dst v).eval).run P w2=.ok (.defer { target:=.fn (.func g') arr,args:=#[] }) w2:=by
   show (execOp (a2.put oa.dst v).eval ob).run P w2=_
   simp [execOp,o1,resolve,o2,o3,hev,Deferred.ofValue]
  rw [hrun,Oper.uponIn_defer]
  have hd':ob.dst=none:=by simpa using hd2
  rw [hd']
  refine hq T3 _ (h2.withDefers _) h3 (fun o ho=>?_) (by rw [← harr,← put_defers (a:=a2) (d:=oa.dst) (v:=v)];rfl)
  obtain ⟨k,hk⟩:=List.mem_iff_getElem?.1 ho
  exact (hcr k o hk).1
 -- the whole
 unfold mD at k3
 split at k3
 case h_2=>cases k3
 rename_i r0 id1 o1 c1
 simp only [Bool.and_eq_true] at k3
 obtain ⟨m0,k3⟩:=k3
 have gpre:=hR.grow _ _ _ _ _ m0 hp
 cases hc:fn.clos with
 |none =>
  rw [hc] at k3
  simp only [Bool.and_eq_true] at k3
  obtain ⟨m1,m2⟩:=k3
  have e1:s1=s0:=by unfold DFn.begun at hm;rw [hc] at hm;exact (Option.some.inj hm).symm
  subst e1
  have gb:=hR.grow _ _ _ _ _ m2 hb
  refine wpIn_seq ?_
  refine wpIn_mono (hR.wp (F:=Fence.wide) (L:=0) (C:=⟨s4.ys,none,plainJ T0 w⟩) (n:=0) (.inl rfl) (Ctx.rec_wide _) hC r0 fn.pre _ _ s1 m0 hp rfl gb.2.1 _ T0 _ w hsim hJ) ?_
  rintro x a1 w1 ⟨rfl,σ1,T1,ms1,q1,q2,q3,q4,q5,q6⟩
  refine wpIn_seq (wpIn_region_list (rescStep m1 q1 ?_))
  have hoe:=(hptr q1 ho).1
  exact body c1 σ1 T1 _ w1 ms1 [] m2 (q1.withDefers _) q2 q4 gpre.2.2 gb.2.1 q6 (by simp only [q5,List.append_nil,List.nil_append]) (.inl ⟨hc,rfl⟩) hoe
 |some cl =>
  obtain ⟨d,gf,zs⟩:=cl
  rw [hc] at k3
  simp only at k3
  split at k3
  case h_2=>cases k3
  rename_i id2 o2 rest
  simp only [Bool.and_eq_true] at k3
  obtain ⟨⟨m1,m1'⟩,m2⟩:=k3
  have hmo:s1.ys=s0.ys∧s1.stop=s0.stop:=by
   have hm:=hm
   unfold DFn.begun at hm
   rw [hc] at hm
   have:=plain_mono hm
   exact ⟨this.2.1,this.2.2⟩
  have gb:=hR.grow _ _ _ _ _ m2 hb
  obtain ⟨os,hos⟩:∃ os,heldOf s1 d gf=some os:=by
   have h6:=h6
   unfold dfnClos at h6
   rw [hc] at h6
   obtain ⟨os,h,_⟩:=bind_some h6
   exact ⟨os,h⟩
  refine wpIn_seq ?_
  refine wpIn_mono (hR.wp (F:=Fence.wide) (L:=0) (C:=⟨s4.ys,none,plainJ T0 w⟩) (n:=0) (.inl rfl) (Ctx.rec_wide _) hC r0 fn.pre _ _ s0 m0 hp rfl (by rw [← hmo.1];exact gb.2.1) _ T0 _ w hsim hJ) ?_
  rintro x a1 w1 ⟨rfl,σ1,T1,ms1,q1,q2,q3,q4,q5,q6⟩
  refine wpIn_seq (wpIn_region_list (closStep hc m1 q1 hos ?_))
  intro T3 a3 g1 g2 g3 g4
  refine wpIn_seq (wpIn_region_list (rescStep m1' g1 ?_))
  have hoe:=(hptr g1 ho).1
  refine body rest σ1 T3 _ w1 ms1 [{ target:=.fn (.func gf) (ptrs (os.map σ1)),args:=#[] }] m2 (g1.withDefers _) (plainJ_keep (k:=0) h0 (g2.chg w1) q2) (q4.trans (g2.chg w1).stays) (hmo.2.trans gpre.2.2) gb.2.1 ⟨fun r hr=>?_,q6.2⟩ ?_ (.inr ⟨d,gf,zs,os,hc,hos,g3,rfl⟩) hoe
  ·obtain ⟨x1,x2,x3⟩:=q6.1 r hr
   exact ⟨x1,g2.ro r x2,x3⟩
  ·simp only [g4,q5,List.append_nil,List.cons_append,List.nil_append]
end
end Go.Proofs.Ytpdfhckdmblicaa

namespace Go.Proofs.Ytpdfhckdmblicaa
open Go.RowKit
def EnvOk (P:Program) (env:Env):Prop:=∀ f d,env f=some d→match d with
 |.code fn=>fnOk P f fn=true
 |.ext g=>∀ args rs,g args=some rs→callable P f=true∧CallOk P f args rs
 |.srt h=>callable P f=true∧SortOk P f h
 |.thr h=>(∀ args,h args=some none→callable P f=true∧CallOk P f args [])∧∀ args t n,h args=some (some (t,n))→callable P f=true∧ThrOk P f args t n
 |.dfn fn=>dfnOk P f fn=true∧RescOk P fn.resc fn.t∧∀ d g zs,fn.clos=some (d,g,zs)→ClosOk P g (zs.map (·.2))
section
variable {P:Program} {L K:Nat} {σ σ':Nat→Nat} {T T' T1 T2:Tags} {st st' st1:St} {a a1:Act} {w w1:World} {r:Root}
 {rec:VCode→St→Option (Ex × St)} {env:Env}
theorem calls_ok (hR:RecOk P rec) (hE:EnvOk P env):CallsOk P rec env:=by
 refine ⟨?_,(fun f h e=>hE f _ e),?_,?_⟩
 rotate_left
 ·intro f x args rs out h
  unfold callLin at h
  split at h
  ·rename_i fn hfn
   have hok:fnOk P f fn=true:=hE f _ hfn
   split at h
   case isFalse=>cases h
   replace h:=bind_some h
   obtain ⟨⟨e,st⟩,h1,h⟩:=h
   simp only at h
   refine ⟨(fnOk_eq hok).1,?_⟩
   split at h
   ·cases h
   ·cases h
   ·rename_i hne hne2
    exact code_callL hR hok (fun i e=>hne i e) (fun t n e=>hne2 t n e) h1 h
  ·cases h
 ·intro f args t n h
  unfold calT at h
  split at h
  ·rename_i g hg
   exact (hE f _ hg).2 args t n h
  ·rename_i fn hfn
   have hok:fnOk P f fn=true:=hE f _ hfn
   split at h
   case isFalse=>cases h
   rename_i hl
   obtain ⟨⟨e,st⟩,h1,h⟩:=bind_some h
   refine ⟨(fnOk_eq hok).1,?_⟩
   cases e with
   |thr t' n' =>
    simp only [Option.some.injEq,Prod.mk.injEq] at h
    obtain ⟨rfl,rfl⟩:=h
    exact code_thr hR hok hl.1 h1
   |_=>cases h
  ·cases h
 intro f args rs h
 unfold callRes at h
 split at h
 ·rename_i g hg
  exact hE f _ hg args rs h
 ·rename_i fn hfn
  have hok:fnOk P f fn=true:=hE f _ hfn
  split at h
  case isFalse=>cases h
  rename_i hl
  replace h:=bind_some h
  obtain ⟨⟨e,st⟩,h1,h⟩:=h
  simp only at h
  refine ⟨(fnOk_eq hok).1,?_⟩
  split at h
  ·cases h
  ·cases h
  ·rename_i hne hne2
   exact code_call hR hok hl (fun i e=>hne i e) (fun t n e=>hne2 t n e) h1 h
 ·cases h
 ·rename_i g hg
  obtain ⟨r,h1,h⟩:=bind_some h
  cases r with
  |some p=>cases h
  |none=>cases Option.some.inj h;exact (hE f _ hg).1 args h1
 ·rename_i fn hfn
  obtain ⟨q1,q2,q3⟩:dfnOk P f fn=true∧RescOk P fn.resc fn.t∧∀ d g zs,fn.clos=some (d,g,zs)→ClosOk P g (zs.map (·.2)):=hE f _ hfn
  refine ⟨(dfnOk_eq q1).1,?_⟩
  split at h
  case isFalse=>cases h
  rename_i hl
  obtain ⟨⟨e0,s0⟩,h1,h⟩:=bind_some h
  simp only at h
  split at h
  case isFalse=>cases h
  rename_i he0
  subst he0
  obtain ⟨s1,h2,h⟩:=bind_some h
  obtain ⟨⟨e,s4⟩,h3,h⟩:=bind_some h
  exact code_dfn hR q1 q2 q3 hl h1 h2 h3 h
 ·cases h
theorem iters_ok (hE:EnvOk P env):ItersOk P env:=fun f fn hfn=>by
 have hok:fnOk P f fn=true:=hE f _ hfn
 obtain ⟨k0,g,c,k1,k2,k3,k4,k5,k6⟩:=fnOk_eq hok
 refine ⟨k0,g,c,k1,k2,k3,k4,k5,fun he=>?_⟩
 have:fn.results=[]:=by simpa using he
 rw [this] at k6
 have:g.results.toList=[]:=by
  match h:g.results.toList,k6 with
  |[],_=>rfl
  |_ :: _,k6=>simp [mResL] at k6
 exact Array.toList_eq_nil_iff.1 this
theorem vm_ok (hE:EnvOk P env):∀ n,RecOk P (vm env n)
 |0=>⟨(fun _ _ _ _ _ _ h=>by simp [vm] at h),(fun _ _ _ _ _ _ _ _ h=>by simp [vm] at h),(fun _ _ _ _ _ _ _ _ _ h=>by simp [vm] at h),(fun _ _ _ _ _ _ _ _ _ _ _ h=>by simp [vm] at h)⟩
 |n+1=>step_ok (vm_ok hE n) (iters_ok hE) (calls_ok (vm_ok hE n) hE)
theorem vmCall_ok (hE:EnvOk P env) {n f:Nat} {args:List PV} {rs:List Res} (h:vmCall env n f args=some rs):callable P f=true∧CallOk P f args rs:=(calls_ok (vm_ok hE n) hE).1 f args rs h
end
end Go.Proofs.Ytpdfhckdmblicaa

namespace Go.Proofs.Ytpdfhckdmblicaa
abbrev Rec:=VCode→St→Option (Ex × St)
def RLe (f g:Rec):Prop:=∀ c st r,f c st=some r→g c st=some r
open Classical in
noncomputable def den (env:Env) (c:VCode) (st:St):Option (Ex × St) :=
 if h:∃ n r,vm env n c st=some r then some (Classical.choose (Classical.choose_spec h)) else none
structure Good {α:Type} (env:Env) (F:Rec→Option α):Prop where
 mono:∀ f g,RLe f g→∀ r,F f=some r→F g=some r
 cont:(∀ m n,m≤n→RLe (vm env m) (vm env n))→∀ r,F (den env)=some r→∃ n,F (vm env n)=some r
section
variable {α β:Type} {env:Env}
theorem Good.const (x:Option α):Good env (fun _=>x):=⟨fun _ _ _ _ h=>h,fun _ _ h=>⟨0,h⟩⟩
theorem Good.app (c:VCode) (st:St):Good env (fun rec=>rec c st):=⟨fun _ _ h r=>h c st r,fun _ r h=>by
 unfold den at h
 split at h
 case isFalse=>cases h
 rename_i hx
 cases h
 exact ⟨_,Classical.choose_spec (Classical.choose_spec hx)⟩⟩
theorem Good.bind {F:Rec→Option α} {G:α→Rec→Option β} (hF:Good env F) (hG:∀ a,Good env (G a)):Good env (fun rec=>(F rec).bind fun a=>G a rec):=⟨fun f g h r e=>by
 obtain ⟨a,h1,h2⟩:=Option.bind_eq_some_iff.1 e
 exact Option.bind_eq_some_iff.2 ⟨a,hF.mono f g h a h1,(hG a).mono f g h r h2⟩,fun hm r e=>by
 obtain ⟨a,h1,h2⟩:=Option.bind_eq_some_iff.1 e
 obtain ⟨m,h3⟩:=hF.cont hm a h1
 obtain ⟨n,h4⟩:=(hG a).cont hm r h2
 exact ⟨max m n,Option.bind_eq_some_iff.2 ⟨a,hF.mono _ _ (hm m _ (Nat.le_max_left m n)) a h3,(hG a).mono _ _ (hm n _ (Nat.le_max_right m n)) r h4⟩⟩⟩
theorem Good.map {F:Rec→Option α} {g:α→β} (hF:Good env F):Good env (fun rec=>(F rec).map g):=by
 have:=hF.bind (G:=fun a _=>some (g a)) fun a=>Good.const _
 refine ⟨fun f g' h r e=>?_,fun hm r e=>?_⟩
 ·have:=this.mono f g' h r (by simpa [Option.map_eq_bind,Function.comp_def] using e)
  simpa [Option.map_eq_bind,Function.comp_def] using this
 ·obtain ⟨n,hn⟩:=this.cont hm r (by simpa [Option.map_eq_bind,Function.comp_def] using e)
  exact ⟨n,by simpa [Option.map_eq_bind,Function.comp_def] using hn⟩
theorem Good.callRes (f:Nat) (args:List PV):Good env (fun rec=>callRes rec env f args):=by
 unfold Go.Proofs.Ytpdfhckdmblicaa.callRes
 split
 ·exact Good.const _
 ·split
  ·refine (Good.app _ _).bind fun a=>?_
   obtain ⟨e,st⟩:=a
   cases e<;>exact Good.const _
  ·exact Good.const _
 ·exact Good.const _
 ·exact Good.const _
 ·split
  ·refine (Good.app _ _).bind fun a=>?_
   split
   ·exact (Good.const _).bind fun st0=>(Good.app _ _).bind fun r=>Good.const _
   ·exact Good.const _
  ·exact Good.const _
 ·exact Good.const _
theorem Good.calT (f:Nat) (args:List PV):Good env (fun rec=>calT rec env f args):=by
 unfold Go.Proofs.Ytpdfhckdmblicaa.calT
 split
 ·exact Good.const _
 ·split
  ·exact (Good.app _ _).bind fun a=>Good.const _
  ·exact Good.const _
 ·exact Good.const _
theorem Good.iterRes (f:Nat) (args:List PV) (s:Option Nat):Good env (fun rec=>iterRes rec env f args s):=by
 unfold Go.Proofs.Ytpdfhckdmblicaa.iterRes
 split
 ·split
  ·refine (Good.app _ _).bind fun a=>?_
   obtain ⟨e,st⟩:=a
   cases e<;>exact Good.const _
  ·exact Good.const _
 ·exact Good.const _
theorem Good.callOn (d f:Nat) (args:List Opd) (caps:List AV) (st:St):Good env (fun rec=>callOn rec env d f args caps st):=by
 unfold Go.Proofs.Ytpdfhckdmblicaa.callOn
 exact (Good.const _).bind fun l=>(Good.const _).bind fun k=>(Good.callRes f _).bind fun rs=>Good.const _
theorem Good.callLin (f:Nat) (x:LArg) (args:List PV):Good env (fun rec=>callLin rec env f x args):=by
 unfold Go.Proofs.Ytpdfhckdmblicaa.callLin
 split
 ·split
  ·refine (Good.app _ _).bind fun a=>?_
   obtain ⟨e,st⟩:=a
   cases e<;>exact Good.const _
  ·exact Good.const _
 ·exact Good.const _
theorem Good.callOnL (d f:Nat) (x:Opd) (args:List Opd) (caps:List AV) (st:St):Good env (fun rec=>callOnL rec env d f x args caps st):=by
 unfold Go.Proofs.Ytpdfhckdmblicaa.callOnL
 exact (Good.const _).bind fun l=>(Good.const _).bind fun k=>(Good.const _).bind fun q=>(Good.callLin f _ _).bind fun r=>Good.const _
theorem Good.act (o:VOp) (st:St):Good env (fun rec=>act rec env o st):=by
 cases o
 case call d f args=>exact Good.callOn d f args [] st
 case callv d x args =>
  unfold Go.Proofs.Ytpdfhckdmblicaa.act
  simp only
  split
  ·exact Good.callOn _ _ _ _ _
  ·exact Good.callOn _ _ _ _ _
  ·exact Good.const _
 case lin d f x args=>exact Good.callOnL d f x args [] st
 case linv d g x args =>
  unfold Go.Proofs.Ytpdfhckdmblicaa.act
  simp only
  split
  ·exact Good.callOnL _ _ _ _ _ _
  ·exact Good.callOnL _ _ _ _ _ _
  ·exact Good.const _
 all_goals exact Good.const _
theorem Good.op1 (o:VOp) (st:St):Good env (fun rec=>op1 rec env o st):=by
 unfold Go.Proofs.Ytpdfhckdmblicaa.op1
 split
 ·exact Good.act o st
 ·exact Good.const _
theorem Good.op (o:VOp) (st:St):Good env (fun rec=>op rec env o st):=by
 unfold Go.Proofs.Ytpdfhckdmblicaa.op
 split
 ·split
  ·split
   ·exact Good.op1 _ _
   ·exact Good.const _
  ·exact Good.const _
  ·exact Good.const _
 ·exact Good.op1 _ _
theorem Good.ops:∀ (l:List VOp) (st:St),Good env (fun rec=>ops rec env l st)
 |[],st=>Good.const _
 |o :: l,st=>(Good.op o st).bind fun st=>Good.ops l st
theorem Good.rounds (slots:List AV) (ps:List Nat) (assign body:VCode) (nb:Nat):∀ (xs:List (List PV)) (k:Nat) (st:St),Good env (fun rec=>rounds rec slots ps assign body nb k xs st)
 |[],k,st=>by unfold Go.Proofs.Ytpdfhckdmblicaa.rounds;exact Good.const _
 |x :: xs,k,st=>by
  unfold Go.Proofs.Ytpdfhckdmblicaa.rounds
  refine (Good.const _).bind fun sl=>(Good.app _ _).bind fun a=>?_
  obtain ⟨e,st⟩:=a
  cases e
  case normal =>
   refine (Good.app _ _).bind fun a=>?_
   obtain ⟨e,st⟩:=a
   cases e
   case normal =>
    simp only
    split
    ·exact Good.rounds slots ps assign body nb xs (k+1) _
    ·exact Good.const _
   all_goals exact Good.const _
  all_goals exact Good.const _
theorem Good.ranged (g:Opd) (ps:List Nat) (assign body:VCode) (st:St):Good env (fun rec=>ranged rec env g ps assign body st):=by
 unfold Go.Proofs.Ytpdfhckdmblicaa.ranged
 refine (Good.const _).bind fun v=>?_
 cases v<;>try exact Good.const _
 simp only
 refine (Good.iterRes _ _ _).bind fun xs=>(Good.rounds _ _ _ _ _ _ _ _).bind fun r=>?_
 obtain ⟨r,st1⟩:=r
 cases r with
 |none=>exact Good.const _
 |some p =>
  obtain ⟨e,k⟩:=p
  refine (Good.iterRes _ _ _).bind fun xs=>(Good.rounds _ _ _ _ _ _ _ _).bind fun r=>?_
  obtain ⟨r,st1⟩:=r
  cases r<;>exact Good.const _
theorem Good.altRun (keep:List Nat) (vo:List VOp) (st:St) (x:DAlt):Good env (fun rec=>altRun rec env keep vo st x):=by
 unfold Go.Proofs.Ytpdfhckdmblicaa.altRun
 exact (Good.ops _ _).bind fun s=>Good.const _
theorem Good.agree (keep:List Nat) (vo:List VOp) (st s:St):∀ l:List DAlt,Good env (fun rec=>agree s (l.map (Go.Proofs.Ytpdfhckdmblicaa.altRun rec env keep vo st)))
 |[]=>Good.const _
 |x :: xs=>by
  simp only [List.map_cons,Go.Proofs.Ytpdfhckdmblicaa.agree]
  refine (Good.altRun keep vo st x).bind fun s'=>?_
  split
  ·exact Good.agree keep vo st s xs
  ·exact Good.const _
theorem Good.runAlts (keep:List Nat) (vo:List VOp) (st:St) (l:List DAlt):Good env (fun rec=>runAlts rec env keep vo st l):=by
 cases l with
 |nil=>exact Good.const _
 |cons x xs =>
  simp only [Go.Proofs.Ytpdfhckdmblicaa.runAlts]
  exact (Good.altRun keep vo st x).bind fun s=>Good.agree keep vo st s xs
theorem Good.step (c:VCode) (st:St):Good env (fun rec=>step rec env c st):=by
 cases c
 case ops l=>exact (Good.ops l st).map
 case drw fz _ _ _ l=>exact (Good.ops l (fz.foldl St.freezeAt st)).map
 case drs fz keep vo alts=>exact (Good.runAlts keep vo (fz.foldl St.freezeAt st) alts).map
 case lend d ks l =>
  simp only [Go.Proofs.Ytpdfhckdmblicaa.step]
  split
  ·split
   ·exact ((Good.ops l _).bind fun s=>Good.const _).map
   ·exact Good.const _
  ·exact Good.const _
 case seq a b =>
  refine (Good.app _ _).bind fun x=>?_
  obtain ⟨e,st⟩:=x
  cases e
  case normal=>exact Good.app _ _
  all_goals exact Good.const _
 case cond c a b =>
  refine (Good.const _).bind fun v=>?_
  cases v<;>try exact Good.const _
  simp only
  split
  ·exact Good.app _ _
  ·exact Good.app _ _
 case block i a =>
  refine (Good.app _ _).bind fun x=>?_
  obtain ⟨e,st⟩:=x
  exact Good.const _
 case loop=>exact Good.app _ _
 case round keep nb a =>
  refine (Good.const _).bind fun s=>(Good.app _ _).bind fun x=>?_
  obtain ⟨e,st⟩:=x
  cases e
  case normal=>exact Good.app _ _
  all_goals exact Good.const _
 case rng g ps assign body=>exact Good.ranged g ps assign body st
 case clean pre post a =>
  refine (Good.const _).bind fun s=>(Good.app _ _).bind fun x=>?_
  obtain ⟨e,st⟩:=x
  exact Good.const _
 case dem l d f args =>
  refine (Good.ops l st).bind fun st1=>(Good.const _).bind fun vs=>(Good.calT f vs).bind fun r=>?_
  cases r with
  |some p=>exact Good.const _
  |none=>exact (Good.act _ _).map
 all_goals exact Good.const _
theorem vm_succ (env:Env):∀ n,RLe (vm env n) (vm env (n+1))
 |0,c,st,r,h=>by simp [vm] at h
 |n+1,c,st,r,h=>(Good.step (env:=env) c st).mono _ _ (vm_succ env n) r h
theorem vm_le (env:Env) (m n:Nat) (h:m≤n):RLe (vm env m) (vm env n):=by
 induction h with
 |refl=>exact fun _ _ _ h=>h
 |step _ ih=>exact fun c st r h=>vm_succ env _ c st r (ih c st r h)
theorem den_of_vm {n:Nat} {c:VCode} {st:St} {r:Ex × St} (h:vm env n c st=some r):den env c st=some r:=by
 have hx:∃ n r,vm env n c st=some r:=⟨n,r,h⟩
 unfold den
 rw [dif_pos hx]
 have h2:=Classical.choose_spec (Classical.choose_spec hx)
 have h3:=vm_le env _ _ (Nat.le_max_left n (Classical.choose hx)) c st r h
 have h4:=vm_le env _ _ (Nat.le_max_right n (Classical.choose hx)) c st _ h2
 rw [h3] at h4
 exact h4.symm
theorem vm_of_den {c:VCode} {st:St} {r:Ex × St} (h:den env c st=some r):∃ n,vm env n c st=some r :=
 (Good.app c st).cont (vm_le env) r h
theorem vm_den (env:Env) (n:Nat):RLe (vm env n) (den env):=fun _ _ _ h=>den_of_vm h
theorem den_eq (env:Env) (c:VCode) (st:St):den env c st=step (den env) env c st:=by
 apply Option.ext
 intro r
 constructor
 ·intro h
  obtain ⟨n,hn⟩:=vm_of_den h
  cases n with
  |zero=>simp [vm] at hn
  |succ n=>exact (Good.step c st).mono _ _ (vm_den env n) r hn
 ·intro h
  obtain ⟨n,hn⟩:=(Good.step c st).cont (vm_le env) r h
  exact den_of_vm (n:=n+1) hn
noncomputable def cal (env:Env) (f:Nat) (args:List PV):Option (List Res):=callRes (den env) env f args
noncomputable def calL (env:Env) (f:Nat) (x:LArg) (args:List PV):Option (List Res × Option (List PV)):=callLin (den env) env f x args
theorem vmCall_of_cal {f:Nat} {args:List PV} {rs:List Res} (h:cal env f args=some rs):∃ n,vmCall env n f args=some rs :=
 (Good.callRes (env:=env) f args).cont (vm_le env) rs h
theorem cal_of_vmCall {n f:Nat} {args:List PV} {rs:List Res} (h:vmCall env n f args=some rs):cal env f args=some rs :=
 (Good.callRes (env:=env) f args).mono _ _ (vm_den env n) rs h
end
end Go.Proofs.Ytpdfhckdmblicaa

namespace Go.Proofs.Ytpdfhckdmblicaa
open Go.RowKit Go.ChangeShapes Go.WideShapes Go.ChangeAt
theorem resrep_true {T:Tags} {w:World} {b:Bool} {v:Value} (h:ResRep T w [(.bool b,false)] v):v=.bool b:=by
 obtain ⟨arr,h1,h2,h3⟩:=h
 have ha:arr.size=1:=h1
 have e0:arr[0]?=some arr[0]:=Array.getElem?_eq_getElem (by omega)
 have hv:v=arr[0]:=by rw [h2,if_pos ha,Array.getD_eq_getD_getElem?,e0];rfl
 have hr:PRep (fun b=>T b=.ro) w (.bool b) arr[0]:=h3 0 (.bool b,false) arr[0] rfl e0
 rw [hv]
 exact hr.bool_inv
def GlobIn (w:World):Prop:=GlobOk (fun b=>if b<w.heap.size then .ro else .other) w
theorem GlobIn.none {w:World}:GlobIn w:=fun p hp=>by cases hp
theorem calls_true {P:Program} {env:Env} {f:Nat} {args:List PV} {vs:List Value} {w:World} (hE:EnvOk P env) (h:cal env f args=some [(.bool true,false)]) (hl:vs.length=args.length)
  (hr:∀ (i:Nat) x v,args[i]?=some x→vs[i]?=some v→PRep (fun b=>b<w.heap.size) w x v) (hG:GlobIn w):Calls P f vs.toArray w (fun e w'=>e=.returned (.bool true)∧Below w.heap.size w w'):=by
 obtain ⟨n,hn⟩:=vmCall_of_cal h
 have hC:=(vmCall_ok hE hn).2 (fun b=>if b<w.heap.size then .ro else .other) w vs (fun b=>by
  by_cases hb:b<w.heap.size
  ·exact .inl (if_pos hb)
  ·exact .inr (if_neg hb)) (fun b hb=>if_neg (by omega)) hl (fun i x v hx hv=>(hr i x v hx hv).frame fun b hb _=>⟨if_pos hb,rfl⟩) hG
 refine hC.mono ?_
 rintro e w' ⟨v,T',rfl,h1,_,_,h2⟩
 exact ⟨by rw [resrep_true h2],h1⟩
def RepAll (w:World):List PV→List Value→Prop
 |[],[]=>True
 |x :: xs,v :: vs=>PRep (fun b=>b<w.heap.size) w x v∧RepAll w xs vs
 |_,_=>False
theorem RepAll.get {w:World}:∀ {xs:List PV} {vs:List Value},RepAll w xs vs→vs.length=xs.length∧∀ (i:Nat) x v,xs[i]?=some x→vs[i]?=some v→PRep (fun b=>b<w.heap.size) w x v
 |[],[],_=>⟨rfl,fun i x v hx=>by simp at hx⟩
 |x :: xs,v :: vs,h=>by
  obtain ⟨h1,h2⟩:=h
  obtain ⟨k1,k2⟩:=h2.get
  refine ⟨by simp [k1],fun i y u hy hu=>?_⟩
  cases i with
  |zero=>cases hy;cases hu;exact h1
  |succ i=>exact k2 i y u hy hu
 |[],_ :: _,h=>h.elim
 |_ :: _,[],h=>h.elim
theorem calls_all {P:Program} {env:Env} {f:Nat} {args:List PV} {vs:List Value} {w:World} (hE:EnvOk P env) (h:cal env f args=some [(.bool true,false)]) (hr:RepAll w args vs) (hG:GlobIn w:=by exact GlobIn.none):Calls P f vs.toArray w (fun e w'=>e=.returned (.bool true)∧Below w.heap.size w w') :=
 calls_true hE h hr.get.1 hr.get.2 hG
def CRep (w:World) (cs:List Value) (ps:List PV):Prop :=
 cs.length=ps.length∧(∀ c∈cs,c.oneCell'=true)∧∀ (j:Nat) x v,ps[j]?=some x→cs[j]?=some v→PRep (fun b=>b<w.heap.size) w x v
def RdsC (P:Program) (t:TypeId) (n:Nat) (S:List PV→Prop):Prop :=
 P.cellsOf t=n∧∀ {H:Type} {enc:TypeId × Value→H} {w:World} {fuel:Nat} {cs:List Value} {x:DataW H × List MemPlace},DataW.trod enc P w 0 (fun _=>true) true fuel t cs=some x→∃ ps,S ps∧ps.length=n∧CRep w cs ps
def SInt (k:IntKind) (ps:List PV):Prop:=∃ n,(Lit.int k n).wf=true∧ps=[.int k n]
def SBool (ps:List PV):Prop:=∃ b,ps=[.bool b]
def SArr (n:Nat) (S:List PV→Prop) (ps:List PV):Prop:=ps.length=n∧∀ p∈ps,S [p]
def wrS (ps:List PV):PV:=ps.headD .void
def SList (n:Nat) (S:List PV→Prop) (wr:List PV→PV) (ps:List PV):Prop:=∃ es,ps=[.list n es]∧∀ x∈es,∃ q,S q∧x=wr q
def SCat:List (List PV→Prop)→List PV→Prop
 |[],ps=>ps=[]
 |S :: Ss,ps=>∃ p q,ps=p++q∧S p∧SCat Ss q
section
variable {P:Program} {t e:TypeId} {n m:Nat} {S:List PV→Prop} {k:IntKind}
theorem crep_one {w:World} {c:Value} {p:PV} (hc:c.oneCell'=true) (h:PRep (fun b=>b<w.heap.size) w p c):CRep w [c] [p] :=
 ⟨rfl,fun x hx=>by rw [List.mem_singleton.1 hx];exact hc,fun j x v hx hv=>by
  cases j with
  |zero=>cases hx;cases hv;exact h
  |succ j=>simp at hx⟩
theorem RdsC.int (ht:P.underlying t=some (.int k)) (hc:P.cellsOf t=1):RdsC P t 1 (SInt k):=⟨hc,fun h=>by
 obtain ⟨n,rfl,_,hw⟩:=DataW.trod_int ht h
 exact ⟨[.int k n],⟨n,hw,rfl⟩,rfl,crep_one rfl (.int k n)⟩⟩
theorem RdsC.bool (ht:P.underlying t=some .bool) (hc:P.cellsOf t=1):RdsC P t 1 SBool:=⟨hc,fun h=>by
 obtain ⟨b,rfl,_⟩:=DataW.trod_bool ht h
 exact ⟨[.bool b],⟨b,rfl⟩,rfl,crep_one rfl (.bool b)⟩⟩
theorem each_pick {α:Type} {p:Nat→α→Prop}:∀ n:Nat,(∀ i,i<n→∃ y,p i y)→∃ l:List α,l.length=n∧∀ i x,l[i]?=some x→p i x
 |0,_=>⟨[],rfl,fun i x h=>by simp at h⟩
 |n+1,h=>by
  obtain ⟨l,h1,h2⟩:=each_pick n fun i hi=>h i (by omega)
  obtain ⟨y,hy⟩:=h n (by omega)
  refine ⟨l++[y],by simp [h1],fun i x hx=>?_⟩
  by_cases hi:i<n
  ·rw [List.getElem?_append_left (by omega)] at hx;exact h2 i x hx
  ·have:=(List.getElem?_eq_some_iff.1 hx).1
   obtain rfl:i=n:=by simp at this;omega
   rw [List.getElem?_append_right (by omega),h1,Nat.sub_self] at hx
   cases hx
   exact hy
theorem RdsC.arr (ht:P.underlying t=some (.array n e)) (he:RdsC P e 1 S) (hc:P.cellsOf t=n):RdsC P t n (SArr n S):=⟨hc,fun {H enc w fuel cs x} h=>by
 obtain ⟨xs,m,_,_,hl,hx,hE⟩:=DataW.trod_array ht h
 rw [hc] at hl
 obtain ⟨l,h1,h2⟩:=each_pick (p:=fun i (b:PV)=>S [b]∧∃ c,cs[i]?=some c∧c.oneCell'=true∧PRep (fun b=>b<w.heap.size) w b c) n fun i hi=>by
  have:=hE i hi
  rw [List.getElem?_eq_getElem (by omega),he.1] at this
  obtain ⟨ps,g1,g2,g3,g4,g5⟩:=he.2 this
  match ps,g2 with
  |[p],_ =>
   have hci:cs[i]?=some cs[i]:=List.getElem?_eq_getElem (by omega)
   have h0:((cs.drop (i * 1)).take 1)[0]?=some cs[i]:=by
    rw [List.getElem?_take,if_pos (by decide),List.getElem?_drop]
    simpa using hci
   exact ⟨p,g1,cs[i],hci,g4 _ (List.mem_of_getElem? h0),g5 0 p _ rfl h0⟩
 refine ⟨l,⟨h1,fun p hp=>?_⟩,h1,by omega,fun c hc=>?_,fun j x v hx hv=>?_⟩
 ·obtain ⟨i,hi⟩:=List.mem_iff_getElem?.1 hp
  exact (h2 i p hi).1
 ·obtain ⟨i,hi⟩:=List.mem_iff_getElem?.1 hc
  have hil:i<l.length:=by
   have:=(List.getElem?_eq_some_iff.1 hi).1
   omega
  obtain ⟨_,c',e1,e2,_⟩:=h2 i l[i] (List.getElem?_eq_getElem hil)
  rw [hi] at e1;cases e1;exact e2
 ·obtain ⟨_,c',e1,_,e3⟩:=h2 j x hx
  rw [hv] at e1;cases e1;exact e3⟩
theorem cellish_of {w:World} {b off:Nat} {v:Value} (h:w.cell? ⟨b,off,none⟩=some v):Cellish w b:=by
 unfold World.cell? at h
 split at h
 ·rename_i arr E q hb
  exact ⟨arr,E,q,hb⟩
 ·cases h
theorem RdsC.list {wr:List PV→PV} (ht:P.underlying t=some (.slice e)) (hc:P.cellsOf t=1) (hr:RdsC P e n S) (hpos:0<n) (hw:∀ ps,S ps→ps.length=n→(wr ps).cells=ps):RdsC P t 1 (SList n S wr):=⟨hc,fun {H enc w fuel cs x} h=>by
 rcases DataW.trod_slice ht h with ⟨rfl,_⟩|⟨a,len,cap,elems,rest,m,_,rfl,_,_,hl,hm,hel,hE,hR,_⟩
 ·exact ⟨[.list n []],⟨[],rfl,fun x hx=>by cases hx⟩,rfl,crep_one rfl (.nil n none)⟩
 ·obtain ⟨l,h1,h2⟩:=each_pick (p:=fun i (y:List Value × List PV)=>w.cells? 0 (a.add (i * n)) n=some y.1∧S y.2∧y.2.length=n∧CRep w y.1 y.2) len fun i hi=>by
   have:=hE i hi
   rw [List.getElem?_eq_getElem (by omega),hr.1,Option.bind_eq_some_iff] at this
   obtain ⟨c,h3,h4⟩:=this
   obtain ⟨ps,g1,g2,g3⟩:=hr.2 h4
   exact ⟨(c,ps),h3,g1,g2,g3⟩
  refine ⟨[.list n (l.map fun y=>wr y.2)],⟨_,rfl,fun x hx=>?_⟩,rfl,crep_one rfl ?_⟩
  ·obtain ⟨y,hy,rfl⟩:=List.mem_map.1 hx
   obtain ⟨i,hi⟩:=List.mem_iff_getElem?.1 hy
   exact ⟨y.2,(h2 i y hi).2.1,rfl⟩
  ·by_cases hcap:cap=0
   ·have:len=0:=by omega
    subst hcap;subst this
    have:l=[]:=List.eq_nil_of_length_eq_zero h1
    subst this
    exact .nil n (some a)
   ·-- there are cells
    have hcell:∃ off v,w.cell? ⟨a.block,off,none⟩=some v∧a.spot=none:=by
     have fromc:∀ (i:Nat) (c:List Value),w.cells? 0 (a.add (i * n)) n=some c→∃ off v,w.cell? ⟨a.block,off,none⟩=some v∧a.spot=none:=fun i c h3=>by
      obtain ⟨_,hc0,h4⟩:=World.cells?_some h3
      have h5:=h4 0 hpos
      rw [List.getElem?_eq_getElem (by omega)] at h5
      have hs:(a.add (i * n)).spot=none:=by simpa [Addr.add] using World.cell?_spot h5
      have hs0:a.spot=none:=by
       unfold Addr.add at hs
       split at hs
       ·exact hs
       ·rename_i hne
        by_cases h0:i * n=0
        ·rename_i q;exact absurd h0 (by simpa using hne)
        ·rcases Nat.eq_zero_or_pos i with hi0|hi0
         ·subst hi0;simp at h0
         ·-- the row begins at a: its first cell
          have:0<len∨len=0:=by omega
          rcases this with hlen|hlen
          ·obtain ⟨y,hy⟩:∃ y,l[0]?=some y:=⟨l[0],List.getElem?_eq_getElem (by omega)⟩
           obtain ⟨_,hc1,h6⟩:=World.cells?_some (h2 0 y hy).1
           have h7:=h6 0 hpos
           rw [List.getElem?_eq_getElem (by omega)] at h7
           simpa [Addr.add] using World.cell?_spot h7
          ·have hrl:0<rest.length:=by have:=(hR rfl).1;omega
           have:=(hR rfl).2 0 (by omega)
           have h8:rest[0]?=some rest[0]:=List.getElem?_eq_getElem hrl
           rw [h8,hr.1,hlen,Option.bind_eq_some_iff] at this
           obtain ⟨c1,h9,_⟩:=this
           obtain ⟨_,hc1,h6⟩:=World.cells?_some h9
           have h7:=h6 0 hpos
           rw [List.getElem?_eq_getElem (by omega)] at h7
           simpa [Addr.add] using World.cell?_spot h7
      obtain ⟨b,off,spot⟩:=a
      simp only at hs0
      subst hs0
      rw [Addr.add_lit,Addr.add_lit] at h5
      exact ⟨_,_,h5,rfl⟩
     rcases Nat.eq_zero_or_pos len with hlen|hlen
     ·have hrl:0<rest.length:=by have:=(hR rfl).1;omega
      have:=(hR rfl).2 0 (by omega)
      have h8:rest[0]?=some rest[0]:=List.getElem?_eq_getElem hrl
      rw [h8,hr.1,Option.bind_eq_some_iff] at this
      obtain ⟨c1,h9,_⟩:=this
      exact fromc _ c1 h9
     ·obtain ⟨y,hy⟩:∃ y,l[0]?=some y:=⟨l[0],List.getElem?_eq_getElem (by omega)⟩
      exact fromc 0 _ (h2 0 y hy).1
    obtain ⟨off0,v0,hv0,hspot⟩:=hcell
    obtain ⟨b,off,spot⟩:=a
    simp only at hspot hv0
    subst hspot
    have hC:Cellish w b:=cellish_of hv0
    have hget:∀ (i:Nat) x,(l.map fun y=>wr y.2)[i]?=some x→∃ y,l[i]?=some y∧x=wr y.2:=fun i x hx=>by
     rw [List.getElem?_map] at hx
     cases e:l[i]? with
     |none=>rw [e] at hx;cases hx
     |some y=>rw [e] at hx;exact ⟨y,rfl,(Option.some.inj hx).symm⟩
    have hlen:(l.map fun y=>wr y.2).length=len:=by simp [h1]
    have:=PRep.list (ok:=fun b=>b<w.heap.size) (w:=w) n (l.map fun y=>wr y.2) b off cap (fun i j=>(((l[i]?).map (·.1)).getD []).getD j default) hC.lt hC (by rw [hlen];exact hl) hm
     (fun x hx=>by
      obtain ⟨i,hi⟩:=List.mem_iff_getElem?.1 hx
      obtain ⟨y,hy,rfl⟩:=hget i x hi
      obtain ⟨_,g1,g2,_⟩:=h2 i y hy
      rw [hw _ g1 g2,g2])
     (fun i x j p hi hj=>by
      obtain ⟨y,hy,rfl⟩:=hget i x hi
      obtain ⟨g0,g1,g2,g3,g4,g5⟩:=h2 i y hy
      rw [hw _ g1 g2] at hj
      have hjn:j<n:=by have:=(List.getElem?_eq_some_iff.1 hj).1;omega
      obtain ⟨_,hc1,h6⟩:=World.cells?_some g0
      have h7:=h6 j hjn
      have hcj:y.1[j]?=some y.1[j]:=List.getElem?_eq_getElem (by omega)
      have hd:(((l[i]?).map (·.1)).getD []).getD j default=y.1[j]:=by
       rw [hy];simp [List.getD_eq_getElem?_getD,hcj]
      rw [hd]
      rw [hcj,Addr.add_lit,Addr.add_lit] at h7
      exact ⟨h7,g4 _ (List.mem_of_getElem? hcj)⟩)
     (fun i x j p hi hj=>by
      obtain ⟨y,hy,rfl⟩:=hget i x hi
      obtain ⟨g0,g1,g2,g3,g4,g5⟩:=h2 i y hy
      rw [hw _ g1 g2] at hj
      have hjn:j<n:=by have:=(List.getElem?_eq_some_iff.1 hj).1;omega
      have hcj:y.1[j]?=some y.1[j]:=List.getElem?_eq_getElem (by omega)
      have hd:(((l[i]?).map (·.1)).getD []).getD j default=y.1[j]:=by
       rw [hy];simp [List.getD_eq_getElem?_getD,hcj]
      rw [hd]
      exact g5 j p _ hj hcj)
    rw [hlen] at this
    exact this⟩
theorem CRep.append {w:World} {c1 c2:List Value} {p1 p2:List PV} (h1:CRep w c1 p1) (h2:CRep w c2 p2):CRep w (c1++c2) (p1++p2):=by
 obtain ⟨a1,a2,a3⟩:=h1
 obtain ⟨b1,b2,b3⟩:=h2
 refine ⟨by simp [a1,b1],fun c hc=>?_,fun j x v hx hv=>?_⟩
 ·rcases List.mem_append.1 hc with h|h
  ·exact a2 c h
  ·exact b2 c h
 ·by_cases hj:j<p1.length
  ·rw [List.getElem?_append_left hj] at hx
   rw [List.getElem?_append_left (by omega)] at hv
   exact a3 j x v hx hv
  ·rw [List.getElem?_append_right (by omega)] at hx
   rw [List.getElem?_append_right (by omega),a1] at hv
   exact b3 _ x v hx hv
inductive Flds (P:Program):Nat→List Field→List (List PV→Prop)→Nat→Prop
 |nil (o:Nat):Flds P o [] [] 0
 |cons {o n m:Nat} {f:Field} {fs:List Field} {S:List PV→Prop} {Ss:List (List PV→Prop)}:f.offset=o→RdsC P f.type n S→Flds P (o+n) fs Ss m→Flds P o (f :: fs) (S :: Ss) (n+m)
theorem Flds.read {o:Nat} {fs:List Field} {Ss:List (List PV→Prop)} (h:Flds P o fs Ss m) {H:Type} {enc:TypeId × Value→H} {w:World} {fuel:Nat} {cs:List Value} {xs:List (DataW H × List MemPlace)} (hl:cs.length=o+m)
  (hx:∀ (i:Nat) (f:Field),fs[i]?=some f→∃ x,DataW.trod enc P w 0 (fun _=>true) true fuel f.type ((cs.drop f.offset).take (P.cellsOf f.type))=some x):∃ ps,SCat Ss ps∧ps.length=m∧CRep w (cs.drop o) ps:=by
 induction h with
 |nil o=>exact ⟨[],rfl,rfl,by rw [List.drop_of_length_le (by omega)];exact (⟨rfl,fun c hc=>(by cases hc),fun j x v hx=>(by simp at hx)⟩:CRep w [] [])⟩
 |@cons o n m f fs S Ss h1 h2 h3 ih =>
  obtain ⟨x,h4⟩:=hx 0 f rfl
  rw [h2.1,h1] at h4
  obtain ⟨p,g1,g2,g3⟩:=h2.2 h4
  obtain ⟨q,k1,k2,k3⟩:=ih (by omega) (fun i f hf=>hx (i+1) f hf)
  refine ⟨p++q,⟨p,q,rfl,g1,k1⟩,by simp [g2,k2],?_⟩
  have:cs.drop o=(cs.drop o).take n++cs.drop (o+n):=by rw [← List.drop_drop,List.take_append_drop]
  rw [this]
  exact g3.append k3
theorem RdsC.struct {fs:Array Field} {Ss:List (List PV→Prop)} (ht:P.underlying t=some (.struct fs)) (hf:Flds P 0 fs.toList Ss n) (hc:P.cellsOf t=n):RdsC P t n (SCat Ss):=⟨hc,fun {H enc w fuel cs x} h=>by
 obtain ⟨xs,m,_,_,hl,hx,hE⟩:=DataW.trod_struct ht h
 obtain ⟨ps,h1,h2,h3⟩:=hf.read (xs:=xs) (enc:=enc) (w:=w) (fuel:=m) (cs:=cs) (by omega) (fun i f hi=>by
  have hi':fs[i]?=some f:=by simpa using hi
  have:=hE i f hi'
  have hil:i<xs.length:=by rw [hx];exact (Array.getElem?_eq_some_iff.1 hi').1
  exact ⟨xs[i],by rw [this,List.getElem?_eq_getElem hil]⟩)
 exact ⟨ps,h1,h2,by simpa using h3⟩⟩
theorem arg_one {H:Type} {enc:TypeId × Value→H} {w:World} {v:Value} {d:DataW H} {p:List MemPlace} (hr:RdsC P t 1 S) (hone:v.cells.toList=[v]) (h:DataW.Trod enc P w 0 (fun _=>true) true t v d p) :
  ∃ q,S [q]∧PRep (fun b=>b<w.heap.size) w q v:=by
 obtain ⟨fuel,hf⟩:=h
 obtain ⟨ps,h1,h2,h3,h4,h5⟩:=hr.2 hf
 match ps,h2 with
 |[q],_=>exact ⟨q,h1,h5 0 q v rfl (by rw [hone];rfl)⟩
theorem arg_slice {H:Type} {enc:TypeId × Value→H} {w:World} {v:Value} {d:DataW H} {p:List MemPlace} {m:Reach} {base:Nat} (ht:P.underlying t=some (.slice e)) (hr:RdsC P t 1 S) (hv:Value.okWide P w m base t v) (h:DataW.Trod enc P w 0 (fun _=>true) true t v d p) :
  ∃ q,S [q]∧PRep (fun b=>b<w.heap.size) w q v:=by
 obtain ⟨a,l,c,rfl⟩:=okWide_slice ht hv
 exact arg_one hr rfl h
end
end Go.Proofs.Ytpdfhckdmblicaa

namespace Go.Proofs.Ytpdfhckdmblicaa
open Go.RowKit V
theorem cellish_at {w:World} {b o:Nat} {u:Value} (h:w.cell? ⟨b,o,none⟩=some u):Cellish w b:=by
 unfold World.cell? at h
 simp only at h
 split at h
 ·rename_i e;exact ⟨_,_,_,e⟩
 ·cases h
theorem sl_of_prep {α:Type} {r:Rep α} {enc:α→PV} {ok:Nat→Prop} {w:World} {l:List α} {sz:Nat} {v:Value} (hsz:sz=r.sz) (hc:∀ x,(enc x).cells.length=r.sz)
  (hr:∀ x∈l,∀ (cs:List Value),cs.length=r.sz→(∀ (j:Nat) p u,(enc x).cells[j]?=some p→cs[j]?=some u→PRep ok w p u)→r.rd ok w cs x) (h:PRep ok w (.list sz (l.map enc)) v):∃ a n c,v=.slice a n c∧Sl r ok w a n c l:=by
 generalize he:l.map enc=es at h
 cases h with
 |nil _ a =>
  have:l=[]:=by simpa using he
  subst this
  exact ⟨a,0,0,rfl,⟨rfl,Nat.le_refl _,Nat.zero_le _,fun _=>rfl,.inl rfl⟩⟩
 |list _ _ b off c cv h1 h2 h3 h4 h6 h7 h8 =>
  subst hsz he
  refine ⟨_,_,c,rfl,⟨by simp,h3,h4,(fun e=>by cases e),.inr ⟨b,off,rfl,h1,h2.lt,fun i x hx=>?_⟩⟩⟩
  have hi:(l.map enc)[i]?=some (enc x):=by simp [hx]
  refine ⟨(List.range r.sz).map (cv i),fun j hj=>?_,hr x (List.mem_of_getElem? hx) _ (by simp) fun j p u hp hu=>?_⟩
  ·have hj':j<(enc x).cells.length:=by rw [hc];exact hj
   rw [(h7 i _ j _ hi (List.getElem?_eq_getElem hj')).1]
   simp [hj]
  ·have hj:j<r.sz:=by have:=(List.getElem?_eq_some_iff.1 hp).1;rw [hc] at this;exact this
   have:u=cv i j:=by simp [hj] at hu;exact hu.symm
   rw [this]
   exact h8 i _ j _ hi hp
theorem prep_of_sl {α:Type} {r:Rep α} {enc:α→PV} {ok ok':Nat→Prop} {w:World} {l:List α} {a:Option Addr} {n c:Nat} (hk:∀ b,ok b→b<w.heap.size→ok' b) (hp0:0<r.sz) (hc:∀ x,(enc x).cells.length=r.sz)
  (hr:∀ x∈l,∀ (cs:List Value),cs.length=r.sz→r.rd ok w cs x→∀ (j:Nat) p u,(enc x).cells[j]?=some p→cs[j]?=some u→u.oneCell'=true∧PRep ok' w p u) (hz:l=[]→c=0) (h:Sl r ok w a n c l):PRep ok' w (.list r.sz (l.map enc)) (.slice a n c):=by
 obtain ⟨h1,h2,h3,h4,h5⟩:=h
 by_cases hl:l=[]
 ·have:=hz hl
  subst hl
  have:n=0:=by simpa using h1.symm
  subst this
  have:c=0:=by omega
  subst this
  exact .nil _ _
 ·rcases h5 with h5|⟨b,off,rfl,hb,hlt,h6⟩
  ·exact absurd (List.eq_nil_of_length_eq_zero (by omega)) hl
  ·have hn:n=(l.map enc).length:=by simp [h1]
   rw [hn]
   have key:∀ (i:Nat) (x:α) (j:Nat) (p:PV),l[i]?=some x→(enc x).cells[j]?=some p→∃ u,w.cell? ⟨b,off+i * r.sz+j,none⟩=some u∧u.oneCell'=true∧PRep ok' w p u:=by
    intro i x j p hx hp
    obtain ⟨cs,g1,g2⟩:=h6 i x hx
    have hj:j<r.sz:=by have:=(List.getElem?_eq_some_iff.1 hp).1;rw [hc] at this;exact this
    have hl2:=r.len g2
    have hu:cs[j]?=some (cs[j]'(by omega)):=List.getElem?_eq_getElem (by omega)
    obtain ⟨k1,k2⟩:=hr x (List.mem_of_getElem? hx) cs hl2 g2 j p _ hp hu
    exact ⟨_,by rw [g1 j hj,hu],k1,k2⟩
   have get:∀ {i:Nat} {e:PV},(l.map enc)[i]?=some e→∃ x,l[i]?=some x∧e=enc x:=by
    intro i e he
    rw [List.getElem?_map] at he
    cases hx:l[i]? with
    |none=>rw [hx] at he;cases he
    |some x=>rw [hx] at he;cases he;exact ⟨x,rfl,rfl⟩
   have hce:Cellish w b:=by
    cases l with
    |nil=>exact absurd rfl hl
    |cons x l =>
     have hj:0<(enc x).cells.length:=by rw [hc];exact hp0
     obtain ⟨u,k1,_⟩:=key 0 x 0 _ rfl (List.getElem?_eq_getElem hj)
     exact cellish_at k1
   refine .list _ _ b off c (fun i j=>(w.cell? ⟨b,off+i * r.sz+j,none⟩).getD undef) (hk b hb hlt) hce (by simp;omega) h3 (fun e he=>?_) (fun i e j x hi hj=>?_) fun i e j x hi hj=>?_
   ·obtain ⟨x,_,rfl⟩:=List.mem_map.1 he;exact hc x
   ·obtain ⟨x',hx,rfl⟩:=get hi
    obtain ⟨u,k1,k2,k3⟩:=key i x' j x hx hj
    rw [k1];exact ⟨rfl,k2⟩
   ·obtain ⟨x',hx,rfl⟩:=get hi
    obtain ⟨u,k1,k2,k3⟩:=key i x' j x hx hj
    rw [k1];exact k3
theorem secs_in {ok:Nat→Prop} {w:World} {l:List Sec} {v:Value} (h:PRep ok w (eSecs l) v):∃ a n c,v=.slice a n c∧Sl secR ok w a n c l:=by
 refine sl_of_prep (r:=secR) (enc:=eSec) rfl (fun x=>secPV_length x) (fun x _ cs hl hcs=>?_) h
 show cs=secCells x
 refine List.ext_getElem? fun j=>?_
 by_cases hj:j<8
 ·have h1:cs[j]?=some (cs[j]'(by rw [hl];exact hj)):=List.getElem?_eq_getElem _
  have h2:(eSec x).cells[j]?=some (.int .u8 ((x.toList[j]'(by simpa using hj)).toNat:Int)):=by
   show (secPV x)[j]?=_
   have hj':j<x.toList.length:=by simpa using hj
   simp only [secPV,List.getElem?_map,List.getElem?_eq_getElem hj',Option.map_some]
  have:=(hcs j _ _ h2 h1).int_inv
  have hj':j<x.toList.length:=by simpa using hj
  rw [h1,this]
  simp only [secCells,List.getElem?_map,List.getElem?_eq_getElem hj',Option.map_some]
 ·have e1:cs.length=8:=hl
  rw [List.getElem?_eq_none (by omega),List.getElem?_eq_none (by rw [secCells_length];omega)]
theorem img_in {ok:Nat→Prop} {w:World} {l:List (List Sec)} {v:Value} (h:PRep ok w (.list 1 (l.map eSecs)) v):∃ a n c,v=.slice a n c∧Sl secsR ok w a n c l:=by
 refine sl_of_prep (r:=secsR) (enc:=eSecs) rfl (fun x=>rfl) (fun x _ cs hl hcs=>?_) h
 match cs,hl with
 |[u],_ =>
  obtain ⟨a,n,c,rfl,hs⟩:=secs_in (hcs 0 _ u rfl rfl)
  exact ⟨a,n,c,rfl,hs⟩
theorem img_out {ok ok':Nat→Prop} {w:World} {l:List (List Sec)} {a:Option Addr} {n c:Nat} (hk:∀ b,ok b→b<w.heap.size→ok' b) (hz:l=[]→c=0) (hne:∀ x∈l,x≠[]) (h:Sl secsR ok w a n c l):PRep ok' w (.list 1 (l.map eSecs)) (.slice a n c):=by
 refine prep_of_sl (r:=secsR) (enc:=eSecs) hk (by decide) (fun x=>rfl) (fun x hx cs hl hrd j p u hp hu=>?_) hz h
 obtain ⟨a,n,c,rfl,hs⟩:=hrd
 match j with
 |j+1=>simp [eSecs,PV.cells] at hp
 |0 =>
  cases hp
  cases hu
  refine ⟨rfl,prep_of_sl (r:=secR) (enc:=eSec) hk (by decide) (fun x=>secPV_length x) (fun s _ cs hl hrd j p u hp hu=>?_) (fun e=>absurd e (hne x hx)) hs⟩
  have hrd:cs=secCells s:=hrd
  subst hrd
  simp only [secCells,List.getElem?_map,Option.map_eq_some_iff] at hu
  have hp:(secPV s)[j]?=some p:=hp
  simp only [secPV,List.getElem?_map,Option.map_eq_some_iff] at hp
  obtain ⟨b,h1,rfl⟩:=hu
  obtain ⟨b',h2,rfl⟩:=hp
  rw [h1] at h2
  cases h2
  exact ⟨rfl,.int _ _⟩
theorem szErr_ne {im:List (List Sec)} (h:szErr (szsOf im)=0):im≠[]∧∀ v∈im,v≠[]:=by
 unfold szErr at h
 split at h
 ·cases h
 ·rename_i h1
  split at h
  ·cases h
  ·rename_i h2
   refine ⟨fun e=>by subst e;simp [szsOf] at h1,fun v hv e=>?_⟩
   subst e
   refine h2 (List.any_eq_true.2 ⟨0,?_,by decide⟩)
   exact List.mem_map.2 ⟨[],hv,rfl⟩
end Go.Proofs.Ytpdfhckdmblicaa

namespace Go.Proofs.Ytpdfhckdmblicaa
def bcase {α:Type} (b:Bool) (x y:α):α:=match b with
 |true=>x
 |false=>y
section
variable {env:Env} {α β:Type}
theorem bcase_true (x y:α):bcase true x y=x:=(rfl)
theorem bcase_false (x y:α):bcase false x y=y:=(rfl)
theorem bcase_bind (b:Bool) (x y:Option α) (f:α→Option β):(bcase b x y).bind f=bcase b (x.bind f) (y.bind f):=by cases b<;>rfl
theorem bcase_map (b:Bool) (x y:Option α) (f:α→β):(bcase b x y).map f=bcase b (x.map f) (y.map f):=by cases b<;>rfl
theorem bcase_not (b:Bool) (x y:α):bcase (!b) x y=bcase b y x:=by cases b<;>rfl
theorem bcase_bne {γ:Type} [BEq γ] (a b:γ) (x y:α):bcase (a != b) x y=bcase (a==b) y x:=by unfold bne;rw [bcase_not]
theorem beq_t (b:Bool):(b==true)=b:=by cases b<;>rfl
theorem beq_f (b:Bool):(b==false)=!b:=by cases b<;>rfl
theorem bcase_split {b:Bool} {x y r:α} (h1:b=true→x=r) (h0:b=false→y=r):bcase b x y=r:=by
 cases b
 ·exact h0 rfl
 ·exact h1 rfl
noncomputable def dops (env:Env) (l:List VOp) (st:St):Option St:=ops (den env) env l st
noncomputable def dop (env:Env) (o:VOp) (st:St):Option St:=op (den env) env o st
noncomputable def next (env:Env) (b:VCode):Ex × St→Option (Ex × St)
 |(.normal,st)=>den env b st
 |r=>some r
def endBlock (id:Nat):Ex × St→Ex × St
 |(.normal,st)=>(.normal,st)
 |(.exit j,st)=>(bcase (Nat.beq j id) .normal (.exit j),st)
 |(.ret,st)=>(.ret,st)
 |(.thr t n,st)=>(.thr t n,st)
def cleanEnd (post:List Nat) (nb:Nat) (p:Ex × St):Option (Ex × St):=(p.2.head post nb).map fun st=>(p.1,st)
def fin (rs:List VRes):Ex × St→Option (List Res)
 |(.exit _,_)=>none
 |(.thr _ _,_)=>none
 |(_,st)=>resultsOf st rs
def start (n:Nat) (args:List PV):St:=⟨args.map .pv++List.replicate (n - args.length) .any,[],[],none⟩
theorem den_skip (st:St):den env .skip st=some (.normal,st):=by rw [den_eq];rfl
theorem den_ops (l:List VOp) (st:St):den env (.ops l) st=(dops env l st).map fun st=>(.normal,st):=by rw [den_eq];rfl
theorem den_drw (z a f q) (l:List VOp) (st:St):den env (.drw z a f q l) st=(dops env l (z.foldl St.freezeAt st)).map fun st=>(.normal,st):=by rw [den_eq];rfl
noncomputable def dalts (env:Env) (keep:List Nat) (vo:List VOp) (st:St) (l:List DAlt):Option St:=runAlts (den env) env keep vo st l
noncomputable def dalt (env:Env) (keep:List Nat) (vo:List VOp) (st:St) (x:DAlt):Option St:=altRun (den env) env keep vo st x
noncomputable def dagree (env:Env) (keep:List Nat) (vo:List VOp) (st s:St) (l:List DAlt):Option St:=agree s (l.map (altRun (den env) env keep vo st))
def sameAs (s s':St) (r:Option St):Option St:=if s'.same s then r else none
theorem den_drs (z k vo l) (st:St):den env (.drs z k vo l) st=(dalts env k vo (z.foldl St.freezeAt st) l).map fun st=>(.normal,st):=by rw [den_eq];rfl
theorem dalts_cons (k vo) (st:St) (x:DAlt) (l:List DAlt):dalts env k vo st (x :: l)=(dalt env k vo st x).bind fun s=>dagree env k vo st s l:=(rfl)
theorem dagree_nil (k vo) (st s:St):dagree env k vo st s []=some s:=(rfl)
theorem dagree_cons (k vo) (st s:St) (x:DAlt) (l:List DAlt):dagree env k vo st s (x :: l)=(dalt env k vo st x).bind fun s'=>sameAs s s' (dagree env k vo st s l):=by
 show (altRun (den env) env k vo st x).bind _=_
 unfold dalt dagree sameAs
 congr 1
theorem sameAs_same (s:St) (r:Option St):sameAs s s r=r:=by
 show (if s.same s then r else none)=r
 rw [St.same_refl];rfl
theorem dalt_eq (k vo) (st:St) (a f q o w):dalt env k vo st ⟨a,f,q,o,w⟩=(dops env (pickV vo o) st).bind (altEnd k st.boxes.length w):=(rfl)
theorem altEnd_false (k:List Nat) (nb:Nat) (s:St):altEnd k nb false s=s.head k s.boxes.length:=by
 unfold altEnd
 cases s.head k s.boxes.length<;>rfl
theorem altEnd_true (k:List Nat) (nb:Nat) (s:St):altEnd k nb true s=(s.head k s.boxes.length).bind fun s=>s.swap2 nb:=(rfl)
theorem pickV_nil (vo:List VOp):pickV vo []=[]:=(rfl)
theorem pickV_one (vo:List VOp) (i:Nat) (l:List Nat):pickV vo (i :: l)=vo.getD i default :: pickV vo l:=(rfl)
theorem den_seq (a b:VCode) (st:St):den env (.seq a b) st=(den env a st).bind (next env b):=by
 rw [den_eq]
 show (den env a st).bind _=_
 congr 1
 funext ⟨e,st⟩
 cases e<;>rfl
theorem den_cond (c:Opd) (a b:VCode) (st:St):den env (.cond c a b) st=(match st.pvOf c with
  |some (.bool t)=>bcase t (den env a st) (den env b st)
  |_=>none):=by
 rw [den_eq]
 show (st.pvOf c).bind _=_
 cases st.pvOf c with
 |none=>rfl
 |some v =>
  cases v<;>try rfl
  rename_i t
  cases t<;>rfl
theorem den_block (i:Nat) (a:VCode) (st:St):den env (.block i a) st=(den env a st).map (endBlock i):=by
 rw [den_eq]
 show (den env a st).bind _=_
 cases den env a st with
 |none=>rfl
 |some r =>
  obtain ⟨e,st⟩:=r
  cases e with
  |normal=>rfl
  |ret=>rfl
  |thr t n=>rfl
  |exit j =>
   show some (_,_)=some (_,_)
   by_cases h:j=i
   ·subst h;simp [bcase]
   ·have:Nat.beq j i=false:=by cases e:Nat.beq j i with
    |false=>rfl
    |true=>exact absurd (Nat.eq_of_beq_eq_true e) h
    simp [bcase,h,this]
theorem den_loop (keep:List Nat) (a:VCode) (st:St):den env (.loop keep a) st=den env (.round keep st.boxes.length a) st:=by rw [den_eq];rfl
theorem den_round (keep:List Nat) (nb:Nat) (a:VCode) (st:St):den env (.round keep nb a) st=(st.head keep nb).bind fun st=>(den env a st).bind (next env (.round keep nb a)):=by
 rw [den_eq]
 show (st.head keep nb).bind _=_
 congr 1
 funext st
 show (den env a st).bind _=_
 congr 1
 funext ⟨e,st⟩
 cases e<;>rfl
theorem den_clean (pre post:List Nat) (a:VCode) (st:St):den env (.clean pre post a) st=(st.head pre st.boxes.length).bind fun s=>(den env a s).bind (cleanEnd post st.boxes.length):=by
 rw [den_eq]
 show (st.head pre _).bind _=_
 congr 1
 funext s
 show (den env a s).bind _=_
 congr 1
 funext ⟨e,s⟩
 show (s.head post _).bind _=(s.head post _).map _
 cases s.head post st.boxes.length<;>rfl
theorem den_exit (i:Nat) (st:St):den env (.exit i) st=some (.exit i,st):=by rw [den_eq];rfl
theorem den_ret (st:St):den env .ret st=some (.ret,st):=by rw [den_eq];rfl
theorem next_normal (b:VCode) (st:St):next env b (.normal,st)=den env b st:=(rfl)
theorem next_exit (b:VCode) (i:Nat) (st:St):next env b (.exit i,st)=some (.exit i,st):=(rfl)
theorem next_ret (b:VCode) (st:St):next env b (.ret,st)=some (.ret,st):=(rfl)
theorem next_thr (b:VCode) (t:Nat) (n:Int) (st:St):next env b (.thr t n,st)=some (.thr t n,st):=(rfl)
theorem endBlock_thr (i t:Nat) (n:Int) (st:St):endBlock i (.thr t n,st)=(.thr t n,st):=(rfl)
noncomputable def thrown (env:Env) (f:Nat) (args:List PV):Option (Option (Nat × Int)):=calT (den env) env f args
def tfin:Ex × St→Option (Option (Nat × Int))
 |(.exit _,_)=>none
 |(.thr t n,_)=>some (some (t,n))
 |_=>some none
theorem tfin_normal (st:St):tfin (.normal,st)=some none:=(rfl)
theorem tfin_ret (st:St):tfin (.ret,st)=some none:=(rfl)
theorem tfin_thr (t:Nat) (n:Int) (st:St):tfin (.thr t n,st)=some (some (t,n)):=(rfl)
noncomputable def demEnd (env:Env) (d f:Nat) (args:List Opd) (st:St):Option (Nat × Int)→Option (Ex × St)
 |some (t,n)=>some (.thr t n,st)
 |none=>(dops env [.call d f args] st).map fun st=>(.normal,st)
theorem demEnd_some (d f:Nat) (args:List Opd) (st:St) (t:Nat) (n:Int):demEnd env d f args st (some (t,n))=some (.thr t n,st):=(rfl)
theorem demEnd_none (d f:Nat) (args:List Opd) (st:St):demEnd env d f args st none=(dops env [.call d f args] st).map fun st=>(.normal,st):=(rfl)
theorem den_dem (l:List VOp) (d f:Nat) (args:List Opd) (st:St):den env (.dem l d f args) st=(dops env l st).bind fun st1=>(args.mapM st1.pvOf).bind fun vs=>(thrown env f vs).bind (demEnd env d f args st1):=by
 rw [den_eq]
 show (dops env l st).bind _=_
 congr 1
 funext st1
 show (args.mapM st1.pvOf).bind _=_
 congr 1
 funext vs
 show (thrown env f vs).bind _=_
 congr 1
 funext r
 cases r with
 |some p=>rfl
 |none =>
  show (act (den env) env (.call d f args) st1).map _=((act (den env) env (.call d f args) st1).bind (ops (den env) env [])).map _
  cases act (den env) env (.call d f args) st1<;>rfl
theorem endBlock_normal (i:Nat) (st:St):endBlock i (.normal,st)=(.normal,st):=(rfl)
theorem endBlock_ret (i:Nat) (st:St):endBlock i (.ret,st)=(.ret,st):=(rfl)
theorem endBlock_exit (i j:Nat) (st:St):endBlock i (.exit j,st)=(bcase (Nat.beq j i) .normal (.exit j),st):=(rfl)
theorem fin_normal (rs:List VRes) (st:St):fin rs (.normal,st)=resultsOf st rs:=(rfl)
theorem fin_ret (rs:List VRes) (st:St):fin rs (.ret,st)=resultsOf st rs:=(rfl)
theorem cal_code {f:Nat} {fn:VFn} {args:List PV} (h:env f=some (.code fn)) (hl:args.length=fn.nargs):cal env f args=(den env fn.body (start fn.ntmps args)).bind (Go.Proofs.Ytpdfhckdmblicaa.fin fn.results):=by
 unfold cal callRes
 rw [h]
 simp only [if_pos hl]
 show (den env fn.body _).bind _=_
 congr 1
 funext ⟨e,st⟩
 cases e<;>rfl
def startL (n:Nat) (x:LArg) (args:List PV):St:=⟨x.av :: (args.map .pv++List.replicate (n - (args.length+1)) .any),x.boxes,[],none⟩
def finL (x:LArg) (rs:List VRes):Ex × St→Option (List Res × Option (List PV))
 |(.exit _,_)=>none
 |(.thr _ _,_)=>none
 |(_,st)=>linRes x st rs
theorem finL_normal (x:LArg) (rs:List VRes) (st:St):finL x rs (.normal,st)=linRes x st rs:=(rfl)
theorem finL_ret (x:LArg) (rs:List VRes) (st:St):finL x rs (.ret,st)=linRes x st rs:=(rfl)
theorem linRes_row (sz:Nat) (es:List PV) (st:St) (rs:List VRes):linRes (.row sz es) st rs=(resultsOf st rs).map fun l=>(l,none):=(rfl)
theorem linRes_own (l:List AV) (st:St) (rs:List VRes):linRes (.own l) st rs=(resultsOf st rs).map fun l=>(l,none):=(rfl)
theorem linRes_box (cs:List PV) (st:St) (rs:List VRes):linRes (.box cs) st rs=(match (st.freezeRows 0).boxes[0]? with
  |some b=>bcase b.fz none ((resultList (st.freezeRows 0) rs).map fun l=>(l,some (b.cs.map BV.val)))
  |none=>none):=by
 show (match (st.freezeRows 0).boxes[0]? with
  |some b=>if b.fz then none else (resultList (st.freezeRows 0) rs).map fun l=>(l,some (b.cs.map BV.val))
  |none=>none)=_
 split
 ·rename_i b _
  cases b.fz<;>rfl
 ·rfl
theorem lav_row (sz:Nat) (es:List PV):(LArg.row sz es).av=.row sz es:=(rfl)
theorem lav_own (l:List AV):(LArg.own l).av=.tup true l:=(rfl)
theorem lav_box (cs:List PV):(LArg.box cs).av=.pbox 0 0:=(rfl)
theorem lbx_row (sz:Nat) (es:List PV):(LArg.row sz es).boxes=[]:=(rfl)
theorem lbx_own (l:List AV):(LArg.own l).boxes=[]:=(rfl)
theorem lbx_box (cs:List PV):(LArg.box cs).boxes=[⟨false,cs.map .pv⟩]:=(rfl)
theorem cal_ext {f:Nat} {g:List PV→Option (List Res)} {args:List PV} (h:env f=some (.ext g)):cal env f args=g args:=by
 unfold cal callRes
 rw [h]
theorem clean_loop' {keep post:List Nat} {id:Nat} {b:VCode} {st S0:St} {R:Option (Ex × St)} (h:st.head keep st.boxes.length=some S0) (h2:S0.head keep S0.boxes.length=some S0)
  (key:∀ rb,rb=VCode.round keep S0.boxes.length b→(((den env b S0).bind (next env rb)).map (endBlock id)).bind (cleanEnd post st.boxes.length)=R):den env (.clean keep post (.block id (.loop keep b))) st=R:=by
 rw [den_clean,h,Option.bind_some,den_block,den_loop,den_round,h2,Option.bind_some]
 exact key _ rfl
theorem round_on {keep:List Nat} {nb:Nat} {b rb:VCode} {st S1:St} (hrb:rb=.round keep nb b) (h:st.head keep nb=some S1):den env rb st=(den env b S1).bind (next env rb):=by
 rw [hrb,den_round,h,Option.bind_some]
noncomputable def tailOf (env:Env) (id:Nat) (post:List Nat) (nb:Nat) (x:Option (Ex × St)):Option (Ex × St):=(x.map (endBlock id)).bind (cleanEnd post nb)
theorem clean_rec {β:Type} {keep post:List Nat} {id nb:Nat} {b:VCode} (S:β→St) (R:β→Option (Ex × St)) (P:β→Prop) (μ:β→Nat) (x0:β) {st:St} (h:st.head keep st.boxes.length=some (S x0)) (hP:P x0)
  (hS:∀ x,(S x).boxes.length=nb) (hh:∀ x,(S x).head keep nb=some (S x))
  (step:∀ x rb,P x→(∀ y,μ y<μ x→P y→∀ s,s.head keep nb=some (S y)→tailOf env id post nb (den env rb s)=R y)→tailOf env id post nb ((den env b (S x)).bind (next env rb))=R x) :
  den env (.clean keep post (.block id (.loop keep b))) st=R x0:=by
 have hb:st.boxes.length=nb:=by rw [← (head_same h).1];exact hS x0
 refine clean_loop' h (by rw [hS];exact hh x0) ?_
 intro rb hrb
 rw [hS] at hrb
 rw [hb]
 have key:∀ (k:Nat) (x:β),μ x<k→P x→tailOf env id post nb ((den env b (S x)).bind (next env rb))=R x:=by
  intro k
  induction k with
  |zero=>intro x hx;omega
  |succ k ih =>
   intro x hx hPx
   refine step x rb hPx fun y hy hPy s hs=>?_
   rw [round_on hrb hs]
   exact ih y (by omega) hPy
 exact key (μ x0+1) x0 (by omega) hP
theorem clean_up {keep post:List Nat} {id nb:Nat} {b:VCode} (n:Nat) (S:Nat→St) (R:Nat→Option (Ex × St)) {st:St} (h:st.head keep st.boxes.length=some (S 0)) (hS:∀ i,(S i).boxes.length=nb) (hh:∀ i,(S i).head keep nb=some (S i))
  (step:∀ i rb,i<n→(∀ s,s.head keep nb=some (S (i+1))→tailOf env id post nb (den env rb s)=R (i+1))→tailOf env id post nb ((den env b (S i)).bind (next env rb))=R i)
  (last:∀ rb,tailOf env id post nb ((den env b (S n)).bind (next env rb))=R n) :
  den env (.clean keep post (.block id (.loop keep b))) st=R 0:=by
 refine clean_rec S R (fun i=>i≤n) (fun i=>n - i) 0 h (Nat.zero_le _) hS hh fun i rb hi ih=>?_
 by_cases hn:i=n
 ·subst hn;exact last rb
 ·exact step i rb (by omega) fun s hs=>ih (i+1) (by omega) (by omega) s hs
theorem tail_normal {id nb:Nat} {post:List Nat} (st:St):tailOf env id post nb (some (.normal,st))=cleanEnd post nb (.normal,st):=(rfl)
theorem tail_thr {id nb:Nat} {post:List Nat} (t:Nat) (n:Int) (st:St):tailOf env id post nb (some (.thr t n,st))=cleanEnd post nb (.thr t n,st):=(rfl)
theorem tail_ret {id nb:Nat} {post:List Nat} (st:St):tailOf env id post nb (some (.ret,st))=cleanEnd post nb (.ret,st):=(rfl)
theorem tail_exit {id j nb:Nat} {post:List Nat} (st:St):tailOf env id post nb (some (.exit j,st))=cleanEnd post nb (bcase (Nat.beq j id) .normal (.exit j),st):=(rfl)
theorem tail_bcase {id nb:Nat} {post:List Nat} (b:Bool) (x y:Option (Ex × St)):tailOf env id post nb (bcase b x y)=bcase b (tailOf env id post nb x) (tailOf env id post nb y):=by cases b<;>rfl
theorem z_bind_some (a:α) (f:α→Option β):(some a).bind f=f a:=(rfl)
theorem z_bind_none (f:α→Option β):(none:Option α).bind f=none:=(rfl)
theorem z_map_some (a:α) (f:α→β):(some a).map f=some (f a):=(rfl)
theorem z_map_none (f:α→β):(none:Option α).map f=none:=(rfl)
theorem z_ite_true (x y:α):(if True then x else y)=x:=(rfl)
theorem z_ite_false (x y:α):(if False then x else y)=y:=(rfl)
theorem z_bind_eq {γ δ:Type} (x:Option γ) (f:γ→Option δ):(x >>= f)=x.bind f:=(rfl)
theorem z_pure {γ:Type} (x:γ):(pure x:Option γ)=some x:=(rfl)
theorem z_len_cons {γ:Type} (a:γ) (l:List γ):(a :: l).length=l.length+1:=(rfl)
theorem z_len_nil {γ:Type}:([]:List γ).length=0:=(rfl)
theorem z_nil_app {γ:Type} (l:List γ):[]++l=l:=(rfl)
theorem z_cons_app {γ:Type} (a:γ) (l m:List γ):(a :: l)++m=a :: (l++m):=(rfl)
theorem z_take_succ {γ:Type} (a:γ) (l:List γ) (n:Nat):(a :: l).take (n+1)=a :: l.take n:=(rfl)
theorem z_take_zero {γ:Type} (l:List γ):l.take 0=[]:=(rfl)
theorem z_drop_succ {γ:Type} (a:γ) (l:List γ) (n:Nat):(a :: l).drop (n+1)=l.drop n:=(rfl)
theorem z_drop_zero {γ:Type} (l:List γ):l.drop 0=l:=(rfl)
theorem z_get_zero {γ:Type} (a:γ) (l:List γ):(a :: l)[0]?=some a:=(rfl)
theorem z_get_succ {γ:Type} (a:γ) (l:List γ) (n:Nat):(a :: l)[n+1]?=l[n]?:=(rfl)
theorem z_get_8 {γ:Type} (a0 a1 a2 a3 a4 a5 a6 a7:γ) (l:List γ) (n:Nat):(a0 :: a1 :: a2 :: a3 :: a4 :: a5 :: a6 :: a7 :: l)[n+8]?=l[n]?:=(rfl)
theorem z_getD_zero {γ:Type} (a:γ) (l:List γ) (d:γ):(a :: l).getD 0 d=a:=(rfl)
theorem z_getD_succ {γ:Type} (a:γ) (l:List γ) (n:Nat) (d:γ):(a :: l).getD (n+1) d=l.getD n d:=(rfl)
theorem z_getD_8 {γ:Type} (a0 a1 a2 a3 a4 a5 a6 a7:γ) (l:List γ) (n:Nat) (d:γ):(a0 :: a1 :: a2 :: a3 :: a4 :: a5 :: a6 :: a7 :: l).getD (n+8) d=l.getD n d:=(rfl)
theorem z_set_zero {γ:Type} (a x:γ) (l:List γ):(a :: l).set 0 x=x :: l:=(rfl)
theorem z_set_succ {γ:Type} (a x:γ) (l:List γ) (n:Nat):(a :: l).set (n+1) x=a :: l.set n x:=(rfl)
theorem z_set_8 {γ:Type} (a0 a1 a2 a3 a4 a5 a6 a7 x:γ) (l:List γ) (n:Nat):(a0 :: a1 :: a2 :: a3 :: a4 :: a5 :: a6 :: a7 :: l).set (n+8) x=a0 :: a1 :: a2 :: a3 :: a4 :: a5 :: a6 :: a7 :: l.set n x:=(rfl)
theorem z_mapM_nil {γ δ:Type} (f:γ→Option δ):([]:List γ).mapM f=some []:=(rfl)
theorem z_any_cons {γ:Type} (a:γ) (l:List γ) (p:γ→Bool):(a :: l).any p=(p a || l.any p):=(rfl)
theorem z_any_nil {γ:Type} (p:γ→Bool):([]:List γ).any p=false:=(rfl)
theorem z_all_cons {γ:Type} (a:γ) (l:List γ) (p:γ→Bool):(a :: l).all p=(p a&&l.all p):=(rfl)
theorem z_all_nil {γ:Type} (p:γ→Bool):([]:List γ).all p=true:=(rfl)
theorem z_foldl_cons {γ δ:Type} (f:δ→γ→δ) (b:δ) (a:γ) (l:List γ):(a :: l).foldl f b=l.foldl f (f b a):=(rfl)
theorem z_foldl_nil {γ δ:Type} (f:δ→γ→δ) (b:δ):([]:List γ).foldl f b=b:=(rfl)
theorem z_map_cons {γ δ:Type} (f:γ→δ) (a:γ) (l:List γ):(a :: l).map f=f a :: l.map f:=(rfl)
theorem z_map_nil {γ δ:Type} (f:γ→δ):([]:List γ).map f=[]:=(rfl)
theorem z_repl_zero {γ:Type} (a:γ):List.replicate 0 a=[]:=(rfl)
theorem z_repl_succ {γ:Type} (a:γ) (n:Nat):List.replicate (n+1) a=a :: List.replicate n a:=(rfl)
theorem dops_nil (st:St):dops env [] st=some st:=(rfl)
theorem dops_cons (o:VOp) (l:List VOp) (st:St):dops env (o :: l) st=(dop env o st).bind (dops env l):=(rfl)
theorem dop_grd {g:Nat} {w:Bool} {o:VOp} (st:St):dop env (.grd g w o) st=(match st.slots.getD g .any with
  |.pv (.bool b)=>bcase (b==w) (op1 (den env) env o st) (match dstOf o with
   |some d=>some (st.put d (.tup false []))
   |none=>some st)
  |.tup _ l=>bcase l.isEmpty (match dstOf o with
   |some d=>some (st.put d (.tup false []))
   |none=>some st) none
  |_=>none):=by
 unfold dop op
 simp only
 generalize st.slots.getD g .any=v
 cases v with
 |pv p =>
  cases p with
  |bool b=>cases b<;>cases w<;>rfl
  |_=>rfl
 |tup k l=>cases l<;>rfl
 |_=>rfl
theorem dop_pick {d c x y} (st:St):dop env (.pick d c x y) st=(match st.pvOf c with
  |some (.bool b)=>bcase b ((st.pvOf x).map fun v=>st.put d (.pv v)) ((st.pvOf y).map fun v=>st.put d (.pv v))
  |_=>none):=by
 show (st.pvOf c).bind _=_
 cases st.pvOf c with
 |none=>rfl
 |some v =>
  cases v<;>try rfl
  rename_i t
  cases t
  ·show (st.pvOf y).bind _=Option.map _ (st.pvOf y)
   cases st.pvOf y<;>rfl
  ·show (st.pvOf x).bind _=Option.map _ (st.pvOf x)
   cases st.pvOf x<;>rfl
def afterCall (d:Nat) (args:List Opd) (caps:List AV) (st:St) (fl:Bool) (rs:List Res):Option St :=
 some ((bcase (fl&&!(rs.all (·.1.scalar))) (caps.foldl (fun s v=>s.freezeArg1 (.c .void) v) (args.foldl St.freezeArg st)) st).layAll d rs)
theorem afterCall_false (d:Nat) (args:List Opd) (caps:List AV) (st:St) (rs:List Res):afterCall d args caps st false rs=some (st.layAll d rs):=by
 simp only [afterCall,Bool.false_and,bcase_false]
theorem afterCall_true (d:Nat) (args:List Opd) (caps:List AV) (st:St) (r:Res) (rs:List Res):afterCall d args caps st true (r :: rs)=bcase ((r :: rs).all (·.1.scalar)) (some (st.layAll d (r :: rs))) (some ((caps.foldl (fun s v=>s.freezeArg1 (.c .void) v) (args.foldl St.freezeArg st)).layAll d (r :: rs))):=by
 unfold afterCall
 rw [Bool.true_and]
 cases h:(r :: rs).all (·.1.scalar)<;>rfl
noncomputable def dcall (env:Env) (d f:Nat) (args:List Opd) (caps:List AV) (st:St):Option St :=
 (args.mapM fun x=>st.snapFn (st.get x)).bind fun l=>(caps.mapM st.snap).bind fun k=>(cal env f (l.map (·.1)++k.map (·.1))).bind (afterCall d args caps st (l.any (·.2) || k.any (·.2)))
noncomputable def dcallP (env:Env) (d f:Nat) (args:List Opd) (caps:List PV) (st:St):Option St :=
 (args.mapM fun x=>st.snapFn (st.get x)).bind fun l=>(cal env f (l.map (·.1)++caps)).bind (afterCall d args [] st (l.any (·.2)))
theorem snaps_pv (st:St):∀ caps:List PV,(caps.map AV.pv).mapM st.snap=some (caps.map fun v=>(v,false))
 |[]=>rfl
 |c :: l=>by
  rw [List.map_cons,List.mapM_cons,snaps_pv st l]
  rfl
theorem freeze_pv (st:St):∀ caps:List PV,(caps.map AV.pv).foldl (fun s v=>s.freezeArg1 (.c .void) v) st=st
 |[]=>rfl
 |c :: l=>freeze_pv st l
theorem dcall_eq (d f:Nat) (args:List Opd) (caps:List AV) (st:St):callOn (den env) env d f args caps st=dcall env d f args caps st:=by
 unfold callOn dcall
 show Option.bind _ _=Option.bind _ _
 congr 1;funext l
 show Option.bind _ _=Option.bind _ _
 congr 1;funext k
 show Option.bind _ _=Option.bind _ _
 congr 1;funext rs
 show some _=some _
 congr 2
 cases h:(l.any (·.2) || k.any (·.2))&&!(rs.all (·.1.scalar))<;>rfl
theorem dcallP_eq (d f:Nat) (args:List Opd) (caps:List PV) (st:St):dcall env d f args (caps.map .pv) st=dcallP env d f args caps st:=by
 unfold dcallP dcall
 congr 1;funext l
 rw [snaps_pv,Option.bind_some,List.map_map,List.any_map]
 have h1:(Prod.fst ∘ fun v:PV=>(v,false))=id:=rfl
 have h2:caps.any (Prod.snd ∘ fun v:PV=>(v,false))=false:=by
  induction caps with
  |nil=>rfl
  |cons c cs ih=>simp [List.any_cons,ih]
 rw [h1,List.map_id,h2,Bool.or_false]
 congr 1;funext rs
 unfold afterCall
 rw [freeze_pv]
 rfl
theorem dop_call {d f args} (st:St):dop env (.call d f args) st=dcallP env d f args [] st:=(dcall_eq ..).trans (dcallP_eq (caps:=[]) ..)
theorem op1_call {d f args} (st:St):op1 (den env) env (.call d f args) st=dcallP env d f args [] st:=(dcall_eq ..).trans (dcallP_eq (caps:=[]) ..)
noncomputable def dlin (env:Env) (d f:Nat) (x:Opd) (args:List Opd) (caps:List AV) (st:St):Option St :=
 (args.mapM fun x=>st.snapFn (st.get x)).bind fun l=>(caps.mapM st.snap).bind fun k=>(bcase (l.any (·.2) || k.any (·.2)) none (takeLin st x)).bind fun q=>(calL env f q.1 (l.map (·.1)++k.map (·.1))).bind fun r=>(backLin q.2.2 q.2.1 r.2).bind fun st2=>some (st2.layAll d r.1)
noncomputable def dlinP (env:Env) (d f:Nat) (x:Opd) (args:List Opd) (caps:List PV) (st:St):Option St :=
 (args.mapM fun x=>st.snapFn (st.get x)).bind fun l=>(bcase (l.any (·.2)) none (takeLin st x)).bind fun q=>(calL env f q.1 (l.map (·.1)++caps)).bind fun r=>(backLin q.2.2 q.2.1 r.2).bind fun st2=>some (st2.layAll d r.1)
theorem dlin_eq (d f:Nat) (x:Opd) (args:List Opd) (caps:List AV) (st:St):callOnL (den env) env d f x args caps st=dlin env d f x args caps st:=by
 unfold callOnL dlin
 congr 1;funext l
 congr 1;funext k
 congr 1
 cases h:(l.any (·.2) || k.any (·.2))<;>rfl
theorem dlinP_eq (d f:Nat) (x:Opd) (args:List Opd) (caps:List PV) (st:St):dlin env d f x args (caps.map .pv) st=dlinP env d f x args caps st:=by
 unfold dlinP dlin
 congr 1;funext l
 rw [snaps_pv,Option.bind_some,List.map_map,List.any_map]
 have h1:(Prod.fst ∘ fun v:PV=>(v,false))=id:=rfl
 have h2:caps.any (Prod.snd ∘ fun v:PV=>(v,false))=false:=by
  induction caps with
  |nil=>rfl
  |cons c cs ih=>simp [List.any_cons,ih]
 rw [h1,List.map_id,h2,Bool.or_false]
theorem dop_lin {d f x args} (st:St):dop env (.lin d f x args) st=dlinP env d f x args [] st:=(dlin_eq ..).trans (dlinP_eq (caps:=[]) ..)
theorem op1_lin {d f x args} (st:St):op1 (den env) env (.lin d f x args) st=dlinP env d f x args [] st:=(dlin_eq ..).trans (dlinP_eq (caps:=[]) ..)
theorem dop_linv {d g x args} (st:St):dop env (.linv d g x args) st=(match st.get g with
  |.pv (.func f caps)=>dlinP env d f x args caps st
  |.fn f caps=>dlin env d f x args caps st
  |_=>none):=by
 show (match st.get g with
  |.pv (.func f caps)=>callOnL (den env) env d f x args (caps.map .pv) st
  |.fn f caps=>callOnL (den env) env d f x args caps st
  |_=>none)=_
 split<;>simp only [dlin_eq,dlinP_eq]
theorem op1_linv {d g x args} (st:St):op1 (den env) env (.linv d g x args) st=dop env (.linv d g x args) st:=(rfl)
theorem dop_callv {d x args} (st:St):dop env (.callv d x args) st=(match st.get x with
  |.pv (.func f caps)=>dcallP env d f args caps st
  |.fn f caps=>dcall env d f args caps st
  |_=>none):=by
 show (match st.get x with
  |.pv (.func f caps)=>callOn (den env) env d f args (caps.map .pv) st
  |.fn f caps=>callOn (den env) env d f args caps st
  |_=>none)=_
 split<;>simp only [dcall_eq,dcallP_eq]
theorem op1_callv {d x args} (st:St):op1 (den env) env (.callv d x args) st=dop env (.callv d x args) st:=(rfl)
theorem op1_pick {d c x y} (st:St):op1 (den env) env (.pick d c x y) st=dop env (.pick d c x y) st:=(rfl)
theorem dop_mov {d x} (st:St):dop env (.mov d x) st=plain (.mov d x) st:=(rfl)
theorem dop_asg {d x} (st:St):dop env (.asg d x) st=plain (.asg d x) st:=(rfl)
theorem dop_bin {d o x y} (st:St):dop env (.bin d o x y) st=plain (.bin d o x y) st:=(rfl)
theorem dop_eqa {d neg n x y} (st:St):dop env (.eqa d neg n x y) st=plain (.eqa d neg n x y) st:=(rfl)
theorem dop_eqm {d neg ks x y} (st:St):dop env (.eqm d neg ks x y) st=plain (.eqm d neg ks x y) st:=(rfl)
theorem dop_eqb {d neg x y} (st:St):dop env (.eqb d neg x y) st=plain (.eqb d neg x y) st:=(rfl)
theorem dop_isn {d neg x} (st:St):dop env (.isn d neg x) st=plain (.isn d neg x) st:=(rfl)
theorem dop_cut {d sz x} (st:St):dop env (.cut d sz x) st=plain (.cut d sz x) st:=(rfl)
theorem dop_asl {d n x} (st:St):dop env (.asl d n x) st=plain (.asl d n x) st:=(rfl)
theorem dop_asz {d n sz x} (st:St):dop env (.asz d n sz x) st=plain (.asz d n sz x) st:=(rfl)
theorem dop_bldo {d z l q m} (st:St):dop env (.bldo d z l q m) st=plain (.bldo d z l q m) st:=(rfl)
theorem op1_bldo {d z l q m} (st:St):op1 (den env) env (.bldo d z l q m) st=plain (.bldo d z l q m) st:=(rfl)
theorem dop_stw {n p x} (st:St):dop env (.stw n p x) st=act (den env) env (.stw n p x) st:=(rfl)
theorem op1_stw {n p x} (st:St):op1 (den env) env (.stw n p x) st=act (den env) env (.stw n p x) st:=(rfl)
theorem dop_srt {d f x g} (st:St):dop env (.srt d f x g) st=act (den env) env (.srt d f x g) st:=(rfl)
theorem op1_srt {d f x g} (st:St):op1 (den env) env (.srt d f x g) st=act (den env) env (.srt d f x g) st:=(rfl)
theorem dop_mvz {d x} (st:St):dop env (.mvz d x) st=plain (.mvz d x) st:=(rfl)
theorem op1_mvz {d x} (st:St):op1 (den env) env (.mvz d x) st=plain (.mvz d x) st:=(rfl)
theorem dop_ldz {d n x} (st:St):dop env (.ldz d n x) st=plain (.ldz d n x) st:=(rfl)
theorem op1_asl {d n x} (st:St):op1 (den env) env (.asl d n x) st=plain (.asl d n x) st:=(rfl)
theorem op1_asz {d n sz x} (st:St):op1 (den env) env (.asz d n sz x) st=plain (.asz d n sz x) st:=(rfl)
theorem op1_ldz {d n x} (st:St):op1 (den env) env (.ldz d n x) st=plain (.ldz d n x) st:=(rfl)
theorem op1_isn {d neg x} (st:St):op1 (den env) env (.isn d neg x) st=plain (.isn d neg x) st:=(rfl)
theorem op1_cut {d sz x} (st:St):op1 (den env) env (.cut d sz x) st=plain (.cut d sz x) st:=(rfl)
theorem dop_un {d o x} (st:St):dop env (.un d o x) st=plain (.un d o x) st:=(rfl)
theorem dop_conv {d k x} (st:St):dop env (.conv d k x) st=plain (.conv d k x) st:=(rfl)
theorem dop_load {d n p} (st:St):dop env (.load d n p) st=plain (.load d n p) st:=(rfl)
theorem dop_fadr {d p off} (st:St):dop env (.fadr d p off) st=plain (.fadr d p off) st:=(rfl)
theorem dop_aadr {d p i len sz} (st:St):dop env (.aadr d p i len sz) st=plain (.aadr d p i len sz) st:=(rfl)
theorem dop_iadr {d sz x i} (st:St):dop env (.iadr d sz x i) st=plain (.iadr d sz x i) st:=(rfl)
theorem dop_fld {d x off n} (st:St):dop env (.fld d x off n) st=plain (.fld d x off n) st:=(rfl)
theorem dop_idx {d x i len sz n} (st:St):dop env (.idx d x i len sz n) st=plain (.idx d x i len sz n) st:=(rfl)
theorem dop_sli {d sz x lo hi} (st:St):dop env (.sli d sz x lo hi) st=plain (.sli d sz x lo hi) st:=(rfl)
theorem dop_len {d x} (st:St):dop env (.len d x) st=plain (.len d x) st:=(rfl)
theorem dop_lens {d x} (st:St):dop env (.lens d x) st=plain (.lens d x) st:=(rfl)
theorem dop_ext {d x i} (st:St):dop env (.ext d x i) st=plain (.ext d x i) st:=(rfl)
theorem dop_build {d z parts} (st:St):dop env (.build d z parts) st=plain (.build d z parts) st:=(rfl)
theorem dop_mn {d mx x y} (st:St):dop env (.mn d mx x y) st=plain (.mn d mx x y) st:=(rfl)
theorem dop_mkf {d f caps} (st:St):dop env (.mkf d f caps) st=plain (.mkf d f caps) st:=(rfl)
theorem dop_alloc {d z} (st:St):dop env (.alloc d z) st=act (den env) env (.alloc d z) st:=(rfl)
theorem dop_box {d x} (st:St):dop env (.box d x) st=act (den env) env (.box d x) st:=(rfl)
theorem dop_store {d n p x} (st:St):dop env (.store d n p x) st=act (den env) env (.store d n p x) st:=(rfl)
theorem dop_mksl {d sz parts} (st:St):dop env (.mksl d sz parts) st=act (den env) env (.mksl d sz parts) st:=(rfl)
theorem dop_make {d z n c} (st:St):dop env (.make d z n c) st=act (den env) env (.make d z n c) st:=(rfl)
theorem dop_app {d sz x y} (st:St):dop env (.app d sz x y) st=act (den env) env (.app d sz x y) st:=(rfl)
theorem dop_apb {d x y} (st:St):dop env (.apb d x y) st=act (den env) env (.apb d x y) st:=(rfl)
theorem dop_cpy {d sz x y} (st:St):dop env (.cpy d sz x y) st=act (den env) env (.cpy d sz x y) st:=(rfl)
theorem dop_yield {d x args} (st:St):dop env (.yield d x args) st=act (den env) env (.yield d x args) st:=(rfl)
theorem op1_mov {d x} (st:St):op1 (den env) env (.mov d x) st=plain (.mov d x) st:=(rfl)
theorem op1_asg {d x} (st:St):op1 (den env) env (.asg d x) st=plain (.asg d x) st:=(rfl)
theorem op1_bin {d o x y} (st:St):op1 (den env) env (.bin d o x y) st=plain (.bin d o x y) st:=(rfl)
theorem op1_eqa {d neg n x y} (st:St):op1 (den env) env (.eqa d neg n x y) st=plain (.eqa d neg n x y) st:=(rfl)
theorem op1_eqm {d neg ks x y} (st:St):op1 (den env) env (.eqm d neg ks x y) st=plain (.eqm d neg ks x y) st:=(rfl)
theorem op1_eqb {d neg x y} (st:St):op1 (den env) env (.eqb d neg x y) st=plain (.eqb d neg x y) st:=(rfl)
theorem op1_un {d o x} (st:St):op1 (den env) env (.un d o x) st=plain (.un d o x) st:=(rfl)
theorem op1_conv {d k x} (st:St):op1 (den env) env (.conv d k x) st=plain (.conv d k x) st:=(rfl)
theorem op1_load {d n p} (st:St):op1 (den env) env (.load d n p) st=plain (.load d n p) st:=(rfl)
theorem op1_fadr {d p off} (st:St):op1 (den env) env (.fadr d p off) st=plain (.fadr d p off) st:=(rfl)
theorem op1_aadr {d p i len sz} (st:St):op1 (den env) env (.aadr d p i len sz) st=plain (.aadr d p i len sz) st:=(rfl)
theorem op1_iadr {d sz x i} (st:St):op1 (den env) env (.iadr d sz x i) st=plain (.iadr d sz x i) st:=(rfl)
theorem op1_fld {d x off n} (st:St):op1 (den env) env (.fld d x off n) st=plain (.fld d x off n) st:=(rfl)
theorem op1_idx {d x i len sz n} (st:St):op1 (den env) env (.idx d x i len sz n) st=plain (.idx d x i len sz n) st:=(rfl)
theorem op1_sli {d sz x lo hi} (st:St):op1 (den env) env (.sli d sz x lo hi) st=plain (.sli d sz x lo hi) st:=(rfl)
theorem op1_len {d x} (st:St):op1 (den env) env (.len d x) st=plain (.len d x) st:=(rfl)
theorem op1_lens {d x} (st:St):op1 (den env) env (.lens d x) st=plain (.lens d x) st:=(rfl)
theorem op1_ext {d x i} (st:St):op1 (den env) env (.ext d x i) st=plain (.ext d x i) st:=(rfl)
theorem op1_build {d z parts} (st:St):op1 (den env) env (.build d z parts) st=plain (.build d z parts) st:=(rfl)
theorem op1_mn {d mx x y} (st:St):op1 (den env) env (.mn d mx x y) st=plain (.mn d mx x y) st:=(rfl)
theorem op1_mkf {d f caps} (st:St):op1 (den env) env (.mkf d f caps) st=plain (.mkf d f caps) st:=(rfl)
theorem op1_alloc {d z} (st:St):op1 (den env) env (.alloc d z) st=act (den env) env (.alloc d z) st:=(rfl)
theorem op1_box {d x} (st:St):op1 (den env) env (.box d x) st=act (den env) env (.box d x) st:=(rfl)
theorem op1_store {d n p x} (st:St):op1 (den env) env (.store d n p x) st=act (den env) env (.store d n p x) st:=(rfl)
theorem op1_mksl {d sz parts} (st:St):op1 (den env) env (.mksl d sz parts) st=act (den env) env (.mksl d sz parts) st:=(rfl)
theorem op1_make {d z n c} (st:St):op1 (den env) env (.make d z n c) st=act (den env) env (.make d z n c) st:=(rfl)
theorem op1_app {d sz x y} (st:St):op1 (den env) env (.app d sz x y) st=act (den env) env (.app d sz x y) st:=(rfl)
theorem op1_apb {d x y} (st:St):op1 (den env) env (.apb d x y) st=act (den env) env (.apb d x y) st:=(rfl)
theorem op1_cpy {d sz x y} (st:St):op1 (den env) env (.cpy d sz x y) st=act (den env) env (.cpy d sz x y) st:=(rfl)
theorem op1_yield {d x args} (st:St):op1 (den env) env (.yield d x args) st=act (den env) env (.yield d x args) st:=(rfl)
theorem killS_pv (d:Nat) (v:PV):AV.kill d (.pv v)=.pv v:=(rfl)
theorem killS_any (d:Nat):AV.kill d .any=.any:=(rfl)
theorem killS_row (d sz:Nat) (es:List PV):AV.kill d (.row sz es)=.row sz es:=(rfl)
theorem killS_pbox (d o j:Nat):AV.kill d (.pbox o j)=.pbox o j:=(rfl)
theorem killS_fn (d f:Nat) (l:List AV):AV.kill d (.fn f l)=.fn f l:=(rfl)
theorem killS_tup (d:Nat) (k:Bool) (l:List AV):AV.kill d (.tup k l)=.tup k l:=(rfl)
theorem killS_yld (d:Nat):AV.kill d .yld=.yld:=(rfl)
theorem killS_refs (d t off len:Nat):AV.kill d (.ref (.slot t) off len)=bcase (decide (t=d)) .any (.ref (.slot t) off len):=by
 by_cases h:t=d<;>simp [AV.kill,AV.roots,h,bcase]
theorem killS_refc (d o j off len:Nat):AV.kill d (.ref (.cell o j) off len)=.ref (.cell o j) off len:=(rfl)
theorem killS_pels (d t i j:Nat):AV.kill d (.pel (.slot t) i j)=bcase (decide (t=d)) .any (.pel (.slot t) i j):=by
 by_cases h:t=d<;>simp [AV.kill,AV.roots,h,bcase]
theorem killS_pelc (d o q i j:Nat):AV.kill d (.pel (.cell o q) i j)=.pel (.cell o q) i j:=(rfl)
theorem killc_pv (d:Nat) (v:PV):AV.killCell d (.pv v)=.pv v:=(rfl)
theorem killc_any (d:Nat):AV.killCell d .any=.any:=(rfl)
theorem killc_row (d sz:Nat) (es:List PV):AV.killCell d (.row sz es)=.row sz es:=(rfl)
theorem killc_pbox (d o j:Nat):AV.killCell d (.pbox o j)=.pbox o j:=(rfl)
theorem killc_fn (d f:Nat) (l:List AV):AV.killCell d (.fn f l)=.fn f l:=(rfl)
theorem killc_tup (d:Nat) (k:Bool) (l:List AV):AV.killCell d (.tup k l)=.tup k l:=(rfl)
theorem killc_yld (d:Nat):AV.killCell d .yld=.yld:=(rfl)
theorem killc_refc (d t j off len:Nat):AV.killCell d (.ref (.cell t j) off len)=bcase (decide (t=d)) .any (.ref (.cell t j) off len):=by
 by_cases h:t=d<;>simp [AV.killCell,AV.rootsCell,h,bcase]
theorem killc_refs (d t off len:Nat):AV.killCell d (.ref (.slot t) off len)=.ref (.slot t) off len:=(rfl)
theorem killc_pelc (d t q i j:Nat):AV.killCell d (.pel (.cell t q) i j)=bcase (decide (t=d)) .any (.pel (.cell t q) i j):=by
 by_cases h:t=d<;>simp [AV.killCell,AV.rootsCell,h,bcase]
theorem killc_pels (d t i j:Nat):AV.killCell d (.pel (.slot t) i j)=.pel (.slot t) i j:=(rfl)
theorem take_map_all {γ δ:Type} (f:γ→δ) (l:List γ):(l.map f).take l.length=l.map f:=List.take_of_length_le (by simp)
theorem scal_int (k:IntKind) (n:Int):(PV.int k n).scalar=true:=(rfl)
theorem scal_bool (b:Bool):(PV.bool b).scalar=true:=(rfl)
theorem scal_str (b:ByteArray):(PV.str b).scalar=true:=(rfl)
theorem scal_list (sz:Nat) (es:List PV):(PV.list sz es).scalar=false:=(rfl)
theorem scal_func (f:Nat) (es:List PV):(PV.func f es).scalar=false:=(rfl)
theorem cells_int (k:IntKind) (n:Int):(PV.int k n).cells=[.int k n]:=(rfl)
theorem cells_bool (b:Bool):(PV.bool b).cells=[.bool b]:=(rfl)
theorem cells_str (b:ByteArray):(PV.str b).cells=[.str b]:=(rfl)
theorem cells_list (sz:Nat) (es:List PV):(PV.list sz es).cells=[.list sz es]:=(rfl)
theorem cells_func (f:Nat) (es:List PV):(PV.func f es).cells=[.func f es]:=(rfl)
theorem cells_agg (cs:List PV):(PV.agg cs).cells=cs:=(rfl)
theorem part_one (c:PV) (cs:List PV):part (c :: cs) 0 none=some c:=(rfl)
theorem part_succ (c:PV) (cs:List PV) (n:Nat) (m:Option Nat):part (c :: cs) (n+1) m=part cs n m:=by
 cases m with
 |none=>rfl
 |some m =>
  simp only [part,List.length_cons,List.drop_succ_cons]
  by_cases h:n+m≤cs.length
  ·rw [if_pos h,if_pos (by omega)]
  ·rw [if_neg h,if_neg (by omega)]
theorem part_more (c:PV) (cs:List PV) (m:Nat):part (c :: cs) 0 (some m)=if m≤(c :: cs).length then some (.agg ((c :: cs).take m)) else none:=by
 simp only [part,Nat.zero_add,List.drop_zero]
theorem i64_fits {n:Int} (h:-9223372036854775808≤n∧n≤9223372036854775807):IntKind.i64.wrap n=n:=Go.IntWalk.i64_in n h
theorem i64_next {i n:Nat} (h:i<n) (hn:n≤lim):IntKind.i64.wrap ((i:Int)+1)=((i+1:Nat):Int):=by
 unfold lim at hn
 rw [Go.IntWalk.i64_in _ (by omega)]
 omega
theorem index_nat {k:IntKind} {i n:Nat} (h:i<n):index (.int k (i:Int)) n=some i:=by
 simp only [index]
 rw [if_pos (by omega)]
 simp
end
end Go.Proofs.Ytpdfhckdmblicaa

namespace Go.Proofs.Ytpdfhckdmblicaa
def fn3:VFn:=⟨2,41,[.tmp 4],(.seq (.ops [.asg 4 (.c (.bool false))]) (.seq (.seq (.ops [.mov 9 (.t 0),.len 10 (.t 9),.bin 11 .gtr (.t 10) (.c (.int .i64 20)),.mov 12 (.t 11),.grd 12 false (.mov 13 (.t 1)),.grd 12 false (.len 14 (.t 13)),.grd 12 false (.bin 15 .gtr (.t 14) (.c (.int .i64 20))),.pick 16 (.t 12) (.c (.bool true)) (.t 15)]) (.cond (.t 16) (.seq (.ops [.call 17 9 [],.asg 4 (.t 17)]) .ret) .skip)) (.seq (.ops [.mov 19 (.t 0),.mov 20 (.t 1),.call 21 10 [(.t 19),(.t 20)],.mov 18 (.t 21),.ext 22 (.t 18) 0,.ext 23 (.t 18) 1,.asg 5 (.t 22),.asg 6 (.t 23)]) (.seq (.ops [.mov 25 (.t 0),.mov 26 (.t 1),.call 27 11 [(.t 25),(.t 26)],.mov 24 (.t 27),.ext 28 (.t 24) 0,.ext 29 (.t 24) 1,.asg 7 (.t 28),.asg 8 (.t 29)]) (.seq (.ops [.mov 30 (.t 5),.mov 31 (.t 7),.bin 32 .eql (.t 30) (.t 31),.mov 33 (.t 32),.grd 33 true (.mov 34 (.t 6)),.grd 33 true (.mov 35 (.t 8)),.grd 33 true (.eqb 36 false (.t 34) (.t 35)),.pick 37 (.t 33) (.t 36) (.c (.bool false)),.mov 38 (.t 37),.grd 38 true (.call 39 9 []),.pick 40 (.t 38) (.t 39) (.c (.bool false)),.asg 4 (.t 40)]) .ret)))))⟩
def fn5:VFn:=⟨3,87,[.tmp 6],(.seq (.ops [.asg 6 (.c (.bool false))]) (.seq (.seq (.ops [.mov 17 (.t 0),.call 18 21 [(.t 17)],.un 19 .not (.t 18),.mov 20 (.t 19),.grd 20 false (.mov 21 (.t 1)),.grd 20 false (.call 22 21 [(.t 21)]),.grd 20 false (.un 23 .not (.t 22)),.pick 24 (.t 20) (.c (.bool true)) (.t 23),.mov 25 (.t 24),.grd 25 false (.mov 26 (.t 2)),.grd 25 false (.call 27 21 [(.t 26)]),.grd 25 false (.un 28 .not (.t 27)),.pick 29 (.t 25) (.c (.bool true)) (.t 28)]) (.cond (.t 29) (.seq (.ops [.call 30 9 [],.asg 6 (.t 30)]) .ret) .skip)) (.seq (.ops [.mov 32 (.t 0),.mov 33 (.t 1),.mov 34 (.t 2),.call 35 22 [(.t 32),(.t 33),(.t 34)],.mov 31 (.t 35),.ext 36 (.t 31) 0,.ext 37 (.t 31) 1,.asg 7 (.t 36),.asg 8 (.t 37)]) (.seq (.ops [.mov 39 (.t 0),.mov 40 (.t 1),.mov 41 (.t 2),.call 42 23 [(.t 39),(.t 40),(.t 41)],.mov 38 (.t 42),.ext 43 (.t 38) 0,.ext 44 (.t 38) 1,.asg 9 (.t 43),.asg 10 (.t 44)]) (.seq (.ops [.mov 46 (.t 0),.mov 47 (.t 1),.mov 48 (.t 2),.call 49 24 [(.t 46),(.t 47),(.t 48)],.mov 45 (.t 49),.ext 50 (.t 45) 0,.ext 51 (.t 45) 1,.ext 52 (.t 45) 2,.asg 11 (.t 50),.asg 12 (.t 51),.asg 13 (.t 52)]) (.seq (.ops [.mov 54 (.t 0),.mov 55 (.t 1),.mov 56 (.t 2),.call 57 25 [(.t 54),(.t 55),(.t 56)],.mov 53 (.t 57),.ext 58 (.t 53) 0,.ext 59 (.t 53) 1,.ext 60 (.t 53) 2,.asg 14 (.t 58),.asg 15 (.t 59),.asg 16 (.t 60)]) (.seq (.ops [.mov 61 (.t 7),.mov 62 (.t 9),.call 63 26 [(.t 61),(.t 62)],.mov 64 (.t 63),.grd 64 true (.mov 65 (.t 8)),.grd 64 true (.mov 66 (.t 10)),.grd 64 true (.bin 67 .eql (.t 65) (.t 66)),.pick 68 (.t 64) (.t 67) (.c (.bool false)),.mov 69 (.t 68),.grd 69 true (.mov 70 (.t 11)),.grd 69 true (.mov 71 (.t 14)),.grd 69 true (.call 72 27 [(.t 70),(.t 71)]),.pick 73 (.t 69) (.t 72) (.c (.bool false)),.mov 74 (.t 73),.grd 74 true (.mov 75 (.t 12)),.grd 74 true (.mov 76 (.t 15)),.grd 74 true (.call 77 26 [(.t 75),(.t 76)]),.pick 78 (.t 74) (.t 77) (.c (.bool false)),.mov 79 (.t 78),.grd 79 true (.mov 80 (.t 13)),.grd 79 true (.mov 81 (.t 16)),.grd 79 true (.bin 82 .eql (.t 80) (.t 81)),.pick 83 (.t 79) (.t 82) (.c (.bool false)),.mov 84 (.t 83),.grd 84 true (.call 85 9 []),.pick 86 (.t 84) (.t 85) (.c (.bool false)),.asg 6 (.t 86)]) .ret)))))))⟩
def fn9:VFn:=⟨0,136,[.tmp 0],(.seq (.ops [.asg 0 (.c (.bool false))]) (.seq (.ops [.call 16 39 [(.c (.int .i64 1)),(.c (.int .i64 1)),(.c (.int .i64 10))],.call 17 39 [(.c (.int .i64 2)),(.c (.int .i64 11)),(.c (.int .i64 14))],.mksl 18 3 [(.t 16),(.t 17)],.call 19 39 [(.c (.int .i64 1)),(.c (.int .i64 1)),(.c (.int .i64 12))],.mksl 20 3 [(.t 19)],.asg 1 (.t 18),.asg 2 (.t 20)]) (.seq (.ops [.mov 22 (.t 1),.mov 23 (.t 2),.call 24 10 [(.t 22),(.t 23)],.mov 21 (.t 24),.ext 25 (.t 21) 0,.ext 26 (.t 21) 1,.asg 3 (.t 25),.asg 4 (.t 26)]) (.seq (.ops [.mov 28 (.t 1),.sli 29 3 (.t 28) none (some (.c (.int .i64 1))),.mov 30 (.t 1),.call 31 10 [(.t 29),(.t 30)],.mov 27 (.t 31),.ext 32 (.t 27) 0,.ext 33 (.t 27) 1,.asg 5 (.t 32),.asg 6 (.t 33)]) (.seq (.ops [.mksl 35 1 [(.c (.int .u8 1)),(.c (.int .u8 1)),(.c (.int .u8 0)),(.c (.int .u8 2))],.call 36 40 [(.t 35)],.mksl 37 1 [(.c (.int .u8 0)),(.c (.int .u8 3)),(.c (.int .u8 3)),(.c (.int .u8 2))],.call 38 40 [(.t 37)],.mksl 39 1 [(.c (.int .u8 0)),(.c (.int .u8 0)),(.c (.int .u8 0)),(.c (.int .u8 0))],.call 40 40 [(.t 39)],.call 41 24 [(.t 36),(.t 38),(.t 40)],.mov 34 (.t 41),.ext 42 (.t 34) 0,.ext 43 (.t 34) 1,.ext 44 (.t 34) 2,.asg 7 (.t 42),.asg 8 (.t 43),.asg 9 (.t 44)]) (.seq (.seq (.ops [.mov 45 (.t 3),.bin 46 .neq (.t 45) (.c (.int .i64 10)),.mov 47 (.t 46),.grd 47 false (.mov 48 (.t 4)),.grd 47 false (.un 49 .not (.t 48)),.pick 50 (.t 47) (.c (.bool true)) (.t 49),.mov 51 (.t 50),.grd 51 false (.mov 52 (.t 5)),.grd 51 false (.bin 53 .neq (.t 52) (.c (.int .i64 10))),.pick 54 (.t 51) (.c (.bool true)) (.t 53),.mov 55 (.t 54),.grd 55 false (.mov 56 (.t 6)),.pick 57 (.t 55) (.c (.bool true)) (.t 56),.mov 58 (.t 57),.grd 58 false (.mov 59 (.t 9)),.grd 58 false (.bin 60 .neq (.t 59) (.c (.int .i64 0))),.pick 61 (.t 58) (.c (.bool true)) (.t 60),.mov 62 (.t 61),.grd 62 false (.mov 63 (.t 7)),.grd 62 false (.mksl 64 1 [(.c (.int .u8 1)),(.c (.int .u8 1)),(.c (.int .u8 3)),(.c (.int .u8 2))]),.grd 62 false (.call 65 40 [(.t 64)]),.grd 62 false (.call 66 34 [(.t 63),(.t 65)]),.grd 62 false (.un 67 .not (.t 66)),.pick 68 (.t 62) (.c (.bool true)) (.t 67),.mov 69 (.t 68),.grd 69 false (.mov 70 (.t 8)),.grd 69 false (.build 71 [(.int .i64 0),(.int .i64 0)] [(0,1,(.c (.int .i64 1))),(1,1,(.c (.int .i64 1)))]),.grd 69 false (.mksl 72 2 [(.t 71)]),.grd 69 false (.mksl 73 1 [(.t 72)]),.grd 69 false (.call 74 26 [(.t 70),(.t 73)]),.grd 69 false (.un 75 .not (.t 74)),.pick 76 (.t 69) (.c (.bool true)) (.t 75)]) (.cond (.t 76) (.seq (.ops [.asg 0 (.c (.bool false))]) .ret) .skip)) (.seq (.ops [.mov 77 (.t 2),.build 78 [(.int .i64 0),(.int .i64 0),(.int .i64 0),(.int .i64 0),(.list 0 []),(.int .i64 0),(.bool false),(.bool false)] [(0,1,(.c (.int .i64 0))),(1,1,(.c (.int .i64 1))),(2,1,(.c (.int .i64 1))),(3,1,(.c (.int .i64 12))),(4,1,(.t 77)),(5,1,(.c (.int .i64 (-1))))],.mov 79 (.t 1),.build 80 [(.int .i64 0),(.int .i64 0),(.int .i64 0),(.int .i64 0),(.list 0 []),(.int .i64 0),(.bool false),(.bool false)] [(0,1,(.c (.int .i64 1))),(1,1,(.c (.int .i64 1))),(2,1,(.c (.int .i64 2))),(3,1,(.c (.int .i64 14))),(4,1,(.t 79)),(5,1,(.c (.int .i64 (-1))))],.mksl 81 8 [(.t 78),(.t 80)],.asg 10 (.t 81)]) (.seq (.ops [.mov 83 (.t 10),.call 84 13 [(.t 83)],.mov 82 (.t 84),.ext 85 (.t 82) 0,.ext 86 (.t 82) 1,.asg 11 (.t 85),.asg 12 (.t 86)]) (.seq (.ops [.mov 88 (.t 10),.call 89 15 [(.t 88),(.c (.int .i64 1))],.mov 87 (.t 89),.ext 90 (.t 87) 0,.ext 91 (.t 87) 1,.ext 92 (.t 87) 2,.asg 13 (.t 90),.asg 14 (.t 91),.asg 15 (.t 92)]) (.seq (.ops [.mov 93 (.t 12),.bin 94 .eql (.t 93) (.c (.int .i64 0)),.mov 95 (.t 94),.grd 95 true (.mov 96 (.t 15)),.grd 95 true (.bin 97 .eql (.t 96) (.c (.int .i64 0))),.pick 98 (.t 95) (.t 97) (.c (.bool false)),.mov 99 (.t 98),.grd 99 true (.mov 100 (.t 11)),.grd 99 true (.mksl 101 1 [(.c (.int .i64 0)),(.c (.int .i64 1))]),.grd 99 true (.mksl 102 1 [(.t 101)]),.grd 99 true (.call 103 17 [(.t 100),(.t 102)]),.pick 104 (.t 99) (.t 103) (.c (.bool false)),.mov 105 (.t 104),.grd 105 true (.mov 106 (.t 14)),.grd 105 true (.mksl 107 1 [(.c (.int .i64 0))]),.grd 105 true (.call 108 20 [(.t 106),(.t 107)]),.pick 109 (.t 105) (.t 108) (.c (.bool false)),.mov 110 (.t 109),.grd 110 true (.mov 111 (.t 13)),.grd 110 true (.len 112 (.t 111)),.grd 110 true (.bin 113 .eql (.t 112) (.c (.int .i64 2))),.pick 114 (.t 110) (.t 113) (.c (.bool false)),.mov 115 (.t 114),.grd 115 true (.mov 116 (.t 13)),.grd 115 true (.iadr 117 8 (.t 116) (.c (.int .i64 0))),.grd 115 true (.fadr 118 (.t 117) 1),.grd 115 true (.load 119 none (.t 118)),.grd 115 true (.bin 120 .eql (.t 119) (.c (.int .i64 5))),.pick 121 (.t 115) (.t 120) (.c (.bool false)),.mov 122 (.t 121),.grd 122 true (.mov 123 (.t 13)),.grd 122 true (.iadr 124 8 (.t 123) (.c (.int .i64 0))),.grd 122 true (.fadr 125 (.t 124) 2),.grd 122 true (.load 126 none (.t 125)),.grd 122 true (.bin 127 .eql (.t 126) (.c (.int .i64 2))),.pick 128 (.t 122) (.t 127) (.c (.bool false)),.mov 129 (.t 128),.grd 129 true (.mov 130 (.t 13)),.grd 129 true (.iadr 131 8 (.t 130) (.c (.int .i64 1))),.grd 129 true (.fadr 132 (.t 131) 1),.grd 129 true (.load 133 none (.t 132)),.grd 129 true (.bin 134 .eql (.t 133) (.c (.int .i64 1))),.pick 135 (.t 129) (.t 134) (.c (.bool false)),.asg 0 (.t 135)]) .ret))))))))))⟩
def fn10:VFn:=⟨2,43,[.tmp 4,.tmp 5],(.seq (.ops [.asg 4 (.c (.int .i64 0)),.asg 5 (.c (.bool false))]) (.seq (.ops [.mov 13 (.t 0),.call 14 41 [(.t 13)],.mov 12 (.t 14),.ext 15 (.t 12) 0,.ext 16 (.t 12) 1,.asg 6 (.t 15),.asg 7 (.t 16)]) (.seq (.ops [.mov 18 (.t 1),.call 19 41 [(.t 18)],.mov 17 (.t 19),.ext 20 (.t 17) 0,.ext 21 (.t 17) 1,.asg 8 (.t 20),.asg 9 (.t 21)]) (.seq (.seq (.ops [.mov 22 (.t 7),.un 23 .not (.t 22),.mov 24 (.t 23),.grd 24 false (.mov 25 (.t 9)),.grd 24 false (.un 26 .not (.t 25)),.pick 27 (.t 24) (.c (.bool true)) (.t 26)]) (.cond (.t 27) (.seq (.ops [.asg 4 (.c (.int .i64 0)),.asg 5 (.c (.bool false))]) .ret) .skip)) (.seq (.ops [.mov 29 (.t 0),.mov 30 (.t 1),.call 31 42 [(.t 29),(.t 30)],.mov 28 (.t 31),.ext 32 (.t 28) 0,.ext 33 (.t 28) 1,.asg 10 (.t 32),.asg 11 (.t 33)]) (.seq (.ops [.mov 34 (.t 10),.mov 35 (.t 6),.mov 36 (.t 10),.bin 37 .gtr (.t 35) (.t 36),.mov 38 (.t 37),.grd 38 true (.mov 39 (.t 8)),.grd 38 true (.mov 40 (.t 10)),.grd 38 true (.bin 41 .gtr (.t 39) (.t 40)),.pick 42 (.t 38) (.t 41) (.c (.bool false)),.asg 4 (.t 34),.asg 5 (.t 42)]) .ret))))))⟩
def fn13_b0:VCode:=(.seq (.ops [.asg 6 (.t 16)]) (.ops [.asg 7 (.t 17)]))
def fn13_b1:VCode:=(.block 1 (.seq (.drw [] [([0,1,2,3,4,5,6,7],8)] none [] [.load 18 none (.t 1),.mov 19 (.t 6),.iadr 20 8 (.t 18) (.t 19),.load 21 (some 8) (.t 20),.load 22 none (.t 1),.mov 23 (.t 7),.iadr 24 8 (.t 22) (.t 23),.load 25 (some 8) (.t 24),.call 26 50 [(.t 21),(.t 25)]]) (.cond (.t 26) (.ops [.load 27 none (.t 5),.mov 28 (.t 6),.mov 29 (.t 7),.mksl 30 1 [(.t 28),(.t 29)],.mksl 31 1 [(.t 30)],.app 32 1 (.t 27) (.t 31),.store none 1 (.t 5) (.t 32)]) .skip)))
def fn13:VFn:=⟨1,34,[.tmp 2,.tmp 3],(.seq (.ops [.box 1 (.t 0),.asg 2 (.nil 1),.asg 3 (.c (.int .i64 0))]) (.seq (.seq (.ops [.load 8 none (.t 1),.call 9 48 [(.t 8)],.asg 4 (.t 9)]) (.seq (.ops [.mov 10 (.t 4),.bin 11 .neq (.t 10) (.c (.int .i64 0))]) (.cond (.t 11) (.seq (.ops [.mov 12 (.t 4),.asg 2 (.nil 1),.asg 3 (.t 12)]) .ret) .skip))) (.seq (.ops [.alloc 5 [(.list 1 [])]]) (.seq (.seq (.ops [.load 13 none (.t 1),.len 14 (.t 13),.call 15 49 [(.t 14)]]) (.block 0 (.rng (.t 15) [16,17] fn13_b0 fn13_b1))) (.seq (.ops [.load 33 none (.t 5),.asg 2 (.t 33),.asg 3 (.c (.int .i64 0))]) .ret)))))⟩
def fn15_b0:VCode:=(.seq (.ops [.bin 46 .lss (.t 45) (.t 44)]) (.seq (.cond (.t 46) .skip (.exit 0)) (.seq (.block 1 (.seq (.ops [.mov 47 (.t 45),.iadr 48 8 (.t 43) (.t 45),.load 49 (some 8) (.t 48),.alloc 12 [(.int .i64 0),(.int .i64 0),(.int .i64 0),(.int .i64 0),(.list 0 []),(.int .i64 0),(.bool false),(.bool false)],.asg 11 (.t 47),.store none 8 (.t 12) (.t 49)]) (.seq (.ops [.fadr 50 (.t 12) 4,.load 51 none (.t 50),.call 52 53 [(.t 51)],.fadr 53 (.t 12) 4,.store none 1 (.t 53) (.t 52)]) (.seq (.seq (.ops [.mov 54 (.t 11),.mov 55 (.t 1),.bin 56 .neq (.t 54) (.t 55),.mov 57 (.t 56),.grd 57 true (.fadr 58 (.t 12) 1),.grd 57 true (.load 59 none (.t 58)),.grd 57 true (.bin 60 .eql (.t 59) (.c (.int .i64 1))),.grd 57 true (.mov 61 (.t 60)),.grd 61 false (.load 62 (some 8) (.t 12)),.grd 61 false (.load 63 (some 8) (.t 8)),.grd 61 false (.call 64 50 [(.t 62),(.t 63)]),.grd 57 true (.pick 65 (.t 61) (.c (.bool true)) (.t 64)),.pick 66 (.t 57) (.t 65) (.c (.bool false))]) (.cond (.t 66) (.seq (.drw [(.t 8)] [] (some ([0,1,5],[2,3,4],6,[([7],8),([9],10)])) [] [.fadr 67 (.t 12) 2,.load 68 none (.t 67),.fadr 72 (.t 12) 1,.fadr 69 (.t 8) 2,.ldz 70 none (.t 69),.mn 71 true (.t 68) (.t 70),.store none 1 (.t 72) (.c (.int .i64 5)),.fadr 73 (.t 12) 5,.store none 1 (.t 73) (.c (.int .i64 (-1))),.fadr 74 (.t 12) 2,.store none 1 (.t 74) (.t 71)]) (.ops [.mov 75 (.t 10),.mov 76 (.t 11),.mksl 77 1 [(.t 76)],.app 78 1 (.t 75) (.t 77),.asg 10 (.t 78)])) .skip)) (.ops [.mov 79 (.t 9),.load 80 (some 8) (.t 12),.mksl 81 8 [(.t 80)],.app 82 8 (.t 79) (.t 81),.asg 9 (.t 82)]))))) (.ops [.bin 83 .add (.t 45) (.c (.int .i64 1)),.mov 45 (.t 83)]))))
def fn15_l1:VCode :=
(.clean [0,1,8,9,10,43,44,45,78,82] [4,5,6,9,10] (.block 0 (.loop [0,1,8,9,10,43,44,45,78,82] fn15_b0)))
def fn15:VFn:=⟨2,86,[.tmp 4,.tmp 5,.tmp 6],(.seq (.ops [.asg 4 (.nil 8),.asg 5 (.nil 1),.asg 6 (.c (.int .i64 0))]) (.seq (.seq (.ops [.mov 13 (.t 0),.call 14 48 [(.t 13)],.asg 7 (.t 14)]) (.seq (.ops [.mov 15 (.t 7),.bin 16 .neq (.t 15) (.c (.int .i64 0))]) (.cond (.t 16) (.seq (.ops [.mov 17 (.t 7),.asg 4 (.nil 8),.asg 5 (.nil 1),.asg 6 (.t 17)]) .ret) .skip))) (.seq (.seq (.ops [.mov 18 (.t 1),.bin 19 .lss (.t 18) (.c (.int .i64 0)),.mov 20 (.t 19),.grd 20 false (.mov 21 (.t 1)),.grd 20 false (.mov 22 (.t 0)),.grd 20 false (.len 23 (.t 22)),.grd 20 false (.bin 24 .geq (.t 21) (.t 23)),.pick 25 (.t 20) (.c (.bool true)) (.t 24)]) (.cond (.t 25) (.seq (.ops [.asg 4 (.nil 8),.asg 5 (.nil 1),.asg 6 (.c (.int .i64 7))]) .ret) .skip)) (.seq (.ops [.mov 26 (.t 0),.mov 27 (.t 1),.iadr 28 8 (.t 26) (.t 27),.load 29 (some 8) (.t 28),.alloc 8 [(.int .i64 0),(.int .i64 0),(.int .i64 0),(.int .i64 0),(.list 0 []),(.int .i64 0),(.bool false),(.bool false)],.store none 8 (.t 8) (.t 29)]) (.seq (.seq (.ops [.fadr 30 (.t 8) 1,.load 31 none (.t 30),.bin 32 .neq (.t 31) (.c (.int .i64 1)),.mov 33 (.t 32),.grd 33 true (.fadr 34 (.t 8) 1),.grd 33 true (.load 35 none (.t 34)),.grd 33 true (.bin 36 .neq (.t 35) (.c (.int .i64 2))),.pick 37 (.t 33) (.t 36) (.c (.bool false)),.mov 38 (.t 37),.grd 38 true (.fadr 39 (.t 8) 1),.grd 38 true (.load 40 none (.t 39)),.grd 38 true (.bin 41 .neq (.t 40) (.c (.int .i64 3))),.pick 42 (.t 38) (.t 41) (.c (.bool false))]) (.cond (.t 42) (.seq (.ops [.asg 4 (.nil 8),.asg 5 (.nil 1),.asg 6 (.c (.int .i64 18))]) .ret) .skip)) (.seq (.ops [.asg 9 (.nil 8)]) (.seq (.ops [.asg 10 (.nil 1)]) (.seq (.seq (.ops [.mov 43 (.t 0),.len 44 (.t 43),.mov 45 (.c (.int .i64 0))])
     fn15_l1) (.seq (.ops [.mov 84 (.t 9),.mov 85 (.t 10),.asg 4 (.t 84),.asg 5 (.t 85),.asg 6 (.c (.int .i64 0))]) .ret)))))))))⟩
def fn17_b0:VCode:=(.seq (.seq (.ops [.mov 29 (.t 6),.mov 30 (.t 0),.mov 31 (.t 5),.iadr 32 1 (.t 30) (.t 31),.load 33 none (.t 32),.len 34 (.t 33),.bin 35 .lss (.t 29) (.t 34)]) (.cond (.t 35) .skip (.exit 2))) (.seq (.block 3 (.seq (.drw [] [] none [0,1,2,3,4,5,6,7,8,9,10,11,12,13,14] [.mov 38 (.t 0),.mov 39 (.t 5),.iadr 40 1 (.t 38) (.t 39),.load 41 none (.t 40),.mov 42 (.t 6),.iadr 43 1 (.t 41) (.t 42),.load 44 none (.t 43),.mov 45 (.t 1),.mov 46 (.t 5),.iadr 47 1 (.t 45) (.t 46),.load 48 none (.t 47),.mov 49 (.t 6),.iadr 50 1 (.t 48) (.t 49),.load 51 none (.t 50),.bin 52 .neq (.t 44) (.t 51)]) (.cond (.t 52) (.seq (.ops [.asg 4 (.c (.bool false))]) .ret) .skip))) (.ops [.mov 36 (.t 6),.bin 37 .add (.t 36) (.c (.int .i64 1)),.asg 6 (.t 37)])))
def fn17_l1:VCode :=
(.clean [0,1,5,6] [0,1,4,5] (.block 2 (.loop [0,1,5,6] fn17_b0)))
def fn17_b2:VCode:=(.seq (.seq (.ops [.mov 12 (.t 5),.mov 13 (.t 0),.len 14 (.t 13),.bin 15 .lss (.t 12) (.t 14)]) (.cond (.t 15) .skip (.exit 0))) (.seq (.block 1 (.seq (.seq (.drw [] [] none [0,1,2,3,4,5,6,7,8,9,10] [.mov 18 (.t 0),.mov 19 (.t 5),.iadr 20 1 (.t 18) (.t 19),.load 21 none (.t 20),.len 22 (.t 21),.mov 23 (.t 1),.mov 24 (.t 5),.iadr 25 1 (.t 23) (.t 24),.load 26 none (.t 25),.len 27 (.t 26),.bin 28 .neq (.t 22) (.t 27)]) (.cond (.t 28) (.seq (.ops [.asg 4 (.c (.bool false))]) .ret) .skip)) (.seq (.ops [.asg 6 (.c (.int .i64 0))])
   fn17_l1))) (.ops [.mov 16 (.t 5),.bin 17 .add (.t 16) (.c (.int .i64 1)),.asg 5 (.t 17)])))
def fn17_l3:VCode :=
(.clean [0,1,5] [4] (.block 0 (.loop [0,1,5] fn17_b2)))
def fn17:VFn:=⟨2,53,[.tmp 4],(.seq (.ops [.asg 4 (.c (.bool false))]) (.seq (.seq (.ops [.mov 7 (.t 0),.len 8 (.t 7),.mov 9 (.t 1),.len 10 (.t 9),.bin 11 .neq (.t 8) (.t 10)]) (.cond (.t 11) (.seq (.ops [.asg 4 (.c (.bool false))]) .ret) .skip)) (.seq (.seq (.ops [.asg 5 (.c (.int .i64 0))])
   fn17_l3) (.seq (.ops [.asg 4 (.c (.bool true))]) .ret))))⟩
def fn20_b0:VCode:=(.seq (.ops [.bin 14 .lss (.t 13) (.t 12)]) (.seq (.cond (.t 14) .skip (.exit 0)) (.seq (.block 1 (.seq (.ops [.mov 15 (.t 13),.asg 5 (.t 15)]) (.seq (.drw [] [] none [0,1,2,3,4,5,6,7,8] [.mov 16 (.t 0),.mov 17 (.t 5),.iadr 18 1 (.t 16) (.t 17),.load 19 none (.t 18),.mov 20 (.t 1),.mov 21 (.t 5),.iadr 22 1 (.t 20) (.t 21),.load 23 none (.t 22),.bin 24 .neq (.t 19) (.t 23)]) (.cond (.t 24) (.seq (.ops [.asg 4 (.c (.bool false))]) .ret) .skip)))) (.ops [.bin 25 .add (.t 13) (.c (.int .i64 1)),.mov 13 (.t 25)]))))
def fn20_l1:VCode :=
(.clean [0,1,12,13] [4] (.block 0 (.loop [0,1,12,13] fn20_b0)))
def fn20:VFn:=⟨2,26,[.tmp 4],(.seq (.ops [.asg 4 (.c (.bool false))]) (.seq (.seq (.ops [.mov 6 (.t 0),.len 7 (.t 6),.mov 8 (.t 1),.len 9 (.t 8),.bin 10 .neq (.t 7) (.t 9)]) (.cond (.t 10) (.seq (.ops [.asg 4 (.c (.bool false))]) .ret) .skip)) (.seq (.seq (.ops [.mov 11 (.t 0),.len 12 (.t 11),.mov 13 (.c (.int .i64 0))])
   fn20_l1) (.seq (.ops [.asg 4 (.c (.bool true))]) .ret))))⟩
def fn21_b0:VCode:=(.seq (.seq (.ops [.mov 7 (.t 3),.mov 8 (.t 0),.len 9 (.t 8),.bin 10 .lss (.t 7) (.t 9)]) (.cond (.t 10) .skip (.exit 0))) (.seq (.block 1 (.seq (.ops [.mov 13 (.t 0),.mov 14 (.t 3),.iadr 15 1 (.t 13) (.t 14),.load 16 none (.t 15),.len 17 (.t 16),.bin 18 .gtr (.t 17) (.c (.int .i64 24))]) (.cond (.t 18) (.seq (.ops [.asg 2 (.c (.bool false))]) .ret) .skip))) (.ops [.mov 11 (.t 3),.bin 12 .add (.t 11) (.c (.int .i64 1)),.asg 3 (.t 12)])))
def fn21_l1:VCode :=
(.clean [0,3] [2] (.block 0 (.loop [0,3] fn21_b0)))
def fn21:VFn:=⟨1,19,[.tmp 2],(.seq (.ops [.asg 2 (.c (.bool false))]) (.seq (.seq (.ops [.mov 4 (.t 0),.len 5 (.t 4),.bin 6 .gtr (.t 5) (.c (.int .i64 9))]) (.cond (.t 6) (.seq (.ops [.asg 2 (.c (.bool false))]) .ret) .skip)) (.seq (.seq (.ops [.asg 3 (.c (.int .i64 0))])
   fn21_l1) (.seq (.ops [.asg 2 (.c (.bool true))]) .ret))))⟩
def fn22:VFn:=⟨3,36,[.tmp 6,.tmp 7],(.seq (.ops [.asg 6 (.nil 1),.asg 7 (.c (.int .i64 0))]) (.seq (.seq (.ops [.mov 12 (.t 0),.mov 13 (.t 1),.mov 14 (.t 2),.mksl 15 1 [(.t 12),(.t 13),(.t 14)],.call 16 56 [(.t 15)],.asg 8 (.t 16)]) (.seq (.ops [.mov 17 (.t 8),.bin 18 .neq (.t 17) (.c (.int .i64 0))]) (.cond (.t 18) (.seq (.ops [.mov 19 (.t 8),.asg 6 (.nil 1),.asg 7 (.t 19)]) .ret) .skip))) (.seq (.ops [.build 20 [(.int .u8 0),(.int .u8 0),(.int .u8 0),(.int .u8 0),(.int .u8 0),(.int .u8 0),(.int .u8 0),(.int .u8 0)] [(0,1,(.c (.int .u8 1)))],.build 21 [(.int .u8 0),(.int .u8 0),(.int .u8 0),(.int .u8 0),(.int .u8 0),(.int .u8 0),(.int .u8 0),(.int .u8 0)] [],.alloc 9 [(.int .u8 0),(.int .u8 0),(.int .u8 0),(.int .u8 0),(.int .u8 0),(.int .u8 0),(.int .u8 0),(.int .u8 0)],.alloc 10 [(.int .u8 0),(.int .u8 0),(.int .u8 0),(.int .u8 0),(.int .u8 0),(.int .u8 0),(.int .u8 0),(.int .u8 0)],.store none 8 (.t 9) (.t 20),.store none 8 (.t 10) (.t 21)]) (.seq (.ops [.mov 22 (.t 0),.mov 23 (.t 1),.mov 24 (.t 2),.mkf 25 58 [(.t 9),(.t 10)],.call 26 57 [(.t 22),(.t 23),(.t 24),(.t 25)],.asg 11 (.t 26)]) (.seq (.ops [.mov 27 (.t 11),.mov 28 (.t 0),.mov 29 (.t 1),.mov 30 (.t 2),.mkf 31 60 [(.t 10)],.call 32 57 [(.t 28),(.t 29),(.t 30),(.t 31)],.call 33 59 [(.t 27),(.t 32)],.ext 34 (.t 33) 0,.ext 35 (.t 33) 1,.asg 6 (.t 34),.asg 7 (.t 35)]) .ret)))))⟩
def fn23_b0:VCode:=(.seq (.seq (.ops [.mov 32 (.t 12),.mov 33 (.t 11),.len 34 (.t 33),.bin 35 .lss (.t 32) (.t 34)]) (.cond (.t 35) .skip (.exit 2))) (.seq (.block 3 (.drw [] [] (some ([0,1,2,3,4,5,6,7,8,9,10,11,12,13,14,15,16,17,18,19,20,21,22,23,24,25,26,27,28,29,30,31,32,33,34,35,36,37,38,39,40,41,42,43,44,45,46,47,48,49,50,51],[],52,[])) [] [.mov 38 (.t 11),.mov 39 (.t 12),.mov 40 (.t 0),.mov 41 (.t 10),.iadr 42 1 (.t 40) (.t 41),.load 43 none (.t 42),.mov 44 (.t 12),.iadr 45 8 (.t 43) (.t 44),.load 46 (some 8) (.t 45),.mov 47 (.t 2),.mov 48 (.t 10),.iadr 49 1 (.t 47) (.t 48),.load 50 none (.t 49),.mov 51 (.t 12),.iadr 52 8 (.t 50) (.t 51),.load 53 (some 8) (.t 52),.eqa 54 true 8 (.t 46) (.t 53),.mov 55 (.t 54),.grd 55 true (.mov 56 (.t 1)),.grd 55 true (.mov 57 (.t 10)),.grd 55 true (.iadr 58 1 (.t 56) (.t 57)),.grd 55 true (.load 59 none (.t 58)),.grd 55 true (.mov 60 (.t 12)),.grd 55 true (.iadr 61 8 (.t 59) (.t 60)),.grd 55 true (.load 62 (some 8) (.t 61)),.grd 55 true (.mov 63 (.t 2)),.grd 55 true (.mov 64 (.t 10)),.grd 55 true (.iadr 65 1 (.t 63) (.t 64)),.grd 55 true (.load 66 none (.t 65)),.grd 55 true (.mov 67 (.t 12)),.grd 55 true (.iadr 68 8 (.t 66) (.t 67)),.grd 55 true (.load 69 (some 8) (.t 68)),.grd 55 true (.eqa 70 true 8 (.t 62) (.t 69)),.pick 71 (.t 55) (.t 70) (.c (.bool false)),.mov 72 (.t 71),.grd 72 true (.mov 73 (.t 0)),.grd 72 true (.mov 74 (.t 10)),.grd 72 true (.iadr 75 1 (.t 73) (.t 74)),.grd 72 true (.load 76 none (.t 75)),.grd 72 true (.mov 77 (.t 12)),.grd 72 true (.iadr 78 8 (.t 76) (.t 77)),.grd 72 true (.load 79 (some 8) (.t 78)),.grd 72 true (.mov 80 (.t 1)),.grd 72 true (.mov 81 (.t 10)),.grd 72 true (.iadr 82 1 (.t 80) (.t 81)),.grd 72 true (.load 83 none (.t 82)),.grd 72 true (.mov 84 (.t 12)),.grd 72 true (.iadr 85 8 (.t 83) (.t 84)),.grd 72 true (.load 86 (some 8) (.t 85)),.grd 72 true (.eqa 87 true 8 (.t 79) (.t 86)),.pick 88 (.t 72) (.t 87) (.c (.bool false)),.iadr 89 1 (.t 38) (.t 39),.store none 1 (.t 89) (.t 88)])) (.ops [.mov 36 (.t 12),.bin 37 .add (.t 36) (.c (.int .i64 1)),.asg 12 (.t 37)])))
def fn23_l1:VCode :=
(.clean [0,1,2,9,10,11,12,31,94] [0,1,2,6,7,9,10,11,94] (.block 2 (.loop [0,1,2,9,10,11,12,31,94] fn23_b0)))
def fn23_b2:VCode:=(.seq (.seq (.ops [.mov 20 (.t 10),.mov 21 (.t 2),.len 22 (.t 21),.bin 23 .lss (.t 20) (.t 22)]) (.cond (.t 23) .skip (.exit 0))) (.seq (.block 1 (.seq (.ops [.mov 26 (.t 2),.mov 27 (.t 10),.iadr 28 1 (.t 26) (.t 27),.load 29 none (.t 28),.len 30 (.t 29),.make 31 (.bool false) (.t 30) (.t 30),.asg 11 (.t 31)]) (.seq (.seq (.ops [.asg 12 (.c (.int .i64 0))])
    fn23_l1) (.ops [.mov 90 (.t 9),.mov 91 (.t 11),.call 92 62 [(.t 91)],.mksl 93 1 [(.t 92)],.app 94 1 (.t 90) (.t 93),.asg 9 (.t 94)])))) (.ops [.mov 24 (.t 10),.bin 25 .add (.t 24) (.c (.int .i64 1)),.asg 10 (.t 25)])))
def fn23_l3:VCode :=
(.clean [0,1,2,9,10,94] [6,7,9] (.block 0 (.loop [0,1,2,9,10,94] fn23_b2)))
def fn23:VFn:=⟨3,96,[.tmp 6,.tmp 7],(.seq (.ops [.asg 6 (.nil 1),.asg 7 (.c (.int .i64 0))]) (.seq (.seq (.ops [.mov 13 (.t 0),.mov 14 (.t 1),.mov 15 (.t 2),.call 16 61 [(.t 13),(.t 14),(.t 15)],.asg 8 (.t 16)]) (.seq (.ops [.mov 17 (.t 8),.bin 18 .neq (.t 17) (.c (.int .i64 0))]) (.cond (.t 18) (.seq (.ops [.mov 19 (.t 8),.asg 6 (.nil 1),.asg 7 (.t 19)]) .ret) .skip))) (.seq (.ops [.asg 9 (.nil 1)]) (.seq (.seq (.ops [.asg 10 (.c (.int .i64 0))])
   fn23_l3) (.seq (.ops [.mov 95 (.t 9),.asg 6 (.t 95),.asg 7 (.c (.int .i64 0))]) .ret)))))⟩
def fn24:VFn:=⟨3,28,[.tmp 6,.tmp 7,.tmp 8],(.seq (.ops [.asg 6 (.nil 1),.asg 7 (.nil 1),.asg 8 (.c (.int .i64 0))]) (.seq (.ops [.mov 13 (.t 0),.mov 14 (.t 1),.mov 15 (.t 2),.call 16 22 [(.t 13),(.t 14),(.t 15)],.mov 12 (.t 16),.ext 17 (.t 12) 0,.ext 18 (.t 12) 1,.asg 9 (.t 17),.asg 10 (.t 18)]) (.seq (.seq (.ops [.mov 19 (.t 10),.bin 20 .neq (.t 19) (.c (.int .i64 0))]) (.cond (.t 20) (.seq (.ops [.mov 21 (.t 10),.asg 6 (.nil 1),.asg 7 (.nil 1),.asg 8 (.t 21)]) .ret) .skip)) (.seq (.ops [.mov 22 (.t 0),.mov 23 (.t 1),.mov 24 (.t 2),.call 25 57 [(.t 22),(.t 23),(.t 24),(.c (.func 63 []))],.asg 11 (.t 25)]) (.seq (.ops [.mov 26 (.t 11),.mov 27 (.t 9),.asg 6 (.t 26),.asg 7 (.t 27),.asg 8 (.c (.int .i64 0))]) .ret)))))⟩
def fn26_b0:VCode:=(.seq (.seq (.ops [.mov 11 (.t 5),.mov 12 (.t 0),.len 13 (.t 12),.bin 14 .lss (.t 11) (.t 13)]) (.cond (.t 14) .skip (.exit 0))) (.seq (.block 1 (.seq (.drw [] [([0,1,2,3,4,5,6,7],8)] none [9] [.mov 17 (.t 0),.mov 18 (.t 5),.iadr 19 1 (.t 17) (.t 18),.load 20 none (.t 19),.mov 21 (.t 1),.mov 22 (.t 5),.iadr 23 1 (.t 21) (.t 22),.load 24 none (.t 23),.call 25 65 [(.t 20),(.t 24)],.un 26 .not (.t 25)]) (.cond (.t 26) (.seq (.ops [.asg 4 (.c (.bool false))]) .ret) .skip))) (.ops [.mov 15 (.t 5),.bin 16 .add (.t 15) (.c (.int .i64 1)),.asg 5 (.t 16)])))
def fn26_l1:VCode :=
(.clean [0,1,5] [4] (.block 0 (.loop [0,1,5] fn26_b0)))
def fn26:VFn:=⟨2,27,[.tmp 4],(.seq (.ops [.asg 4 (.c (.bool false))]) (.seq (.seq (.ops [.mov 6 (.t 0),.len 7 (.t 6),.mov 8 (.t 1),.len 9 (.t 8),.bin 10 .neq (.t 7) (.t 9)]) (.cond (.t 10) (.seq (.ops [.asg 4 (.c (.bool false))]) .ret) .skip)) (.seq (.seq (.ops [.asg 5 (.c (.int .i64 0))])
   fn26_l1) (.seq (.ops [.asg 4 (.c (.bool true))]) .ret))))⟩
def fn27_b0:VCode:=(.seq (.seq (.ops [.mov 11 (.t 5),.mov 12 (.t 0),.len 13 (.t 12),.bin 14 .lss (.t 11) (.t 13)]) (.cond (.t 14) .skip (.exit 0))) (.seq (.block 1 (.seq (.drw [] [([0,1,2,3,4,5,6,7],8)] none [9] [.mov 17 (.t 0),.mov 18 (.t 5),.iadr 19 1 (.t 17) (.t 18),.load 20 none (.t 19),.mov 21 (.t 1),.mov 22 (.t 5),.iadr 23 1 (.t 21) (.t 22),.load 24 none (.t 23),.call 25 66 [(.t 20),(.t 24)],.un 26 .not (.t 25)]) (.cond (.t 26) (.seq (.ops [.asg 4 (.c (.bool false))]) .ret) .skip))) (.ops [.mov 15 (.t 5),.bin 16 .add (.t 15) (.c (.int .i64 1)),.asg 5 (.t 16)])))
def fn27_l1:VCode :=
(.clean [0,1,5] [4] (.block 0 (.loop [0,1,5] fn27_b0)))
def fn27:VFn:=⟨2,27,[.tmp 4],(.seq (.ops [.asg 4 (.c (.bool false))]) (.seq (.seq (.ops [.mov 6 (.t 0),.len 7 (.t 6),.mov 8 (.t 1),.len 9 (.t 8),.bin 10 .neq (.t 7) (.t 9)]) (.cond (.t 10) (.seq (.ops [.asg 4 (.c (.bool false))]) .ret) .skip)) (.seq (.seq (.ops [.asg 5 (.c (.int .i64 0))])
   fn27_l1) (.seq (.ops [.asg 4 (.c (.bool true))]) .ret))))⟩
def fn29:VFn:=⟨1,71,[.tmp 2],(.seq (.ops [.box 1 (.t 0),.asg 2 (.c (.int .i64 0))]) (.seq (.block 0 (.seq (.ops [.fadr 4 (.t 1) 0,.load 5 none (.t 4),.call 6 68 [(.t 5),(.c (.int .i64 0)),(.c (.int .i64 3))],.un 7 .not (.t 6),.asg 3 (.t 7)]) (.cond (.t 3) (.seq (.ops [.asg 2 (.c (.int .i64 2))]) .ret) (.seq (.ops [.fadr 9 (.t 1) 1,.load 10 none (.t 9),.call 11 68 [(.t 10),(.c (.int .i64 0)),(.c (.int .i64 5))],.un 12 .not (.t 11),.asg 8 (.t 12)]) (.cond (.t 8) (.seq (.ops [.asg 2 (.c (.int .i64 18))]) .ret) (.seq (.seq (.ops [.fadr 14 (.t 1) 2,.load 15 none (.t 14),.call 16 68 [(.t 15),(.c (.int .i64 0)),(.c (.int .i64 1073741824))],.un 17 .not (.t 16),.asg 13 (.t 17)]) (.cond (.t 13) .skip (.seq (.ops [.fadr 18 (.t 1) 3,.load 19 none (.t 18),.call 20 68 [(.t 19),(.c (.int .i64 0)),(.c (.int .i64 1073741824))],.un 21 .not (.t 20),.asg 13 (.t 21)]) (.cond (.t 13) .skip (.ops [.fadr 22 (.t 1) 2,.load 23 none (.t 22),.bin 24 .eql (.t 23) (.c (.int .i64 0)),.mov 25 (.t 24),.grd 25 true (.fadr 26 (.t 1) 1),.grd 25 true (.load 27 none (.t 26)),.grd 25 true (.bin 28 .neq (.t 27) (.c (.int .i64 0))),.pick 29 (.t 25) (.t 28) (.c (.bool false)),.asg 13 (.t 29)]))))) (.cond (.t 13) (.seq (.ops [.asg 2 (.c (.int .i64 2))]) .ret) (.seq (.ops [.fadr 31 (.t 1) 4,.load 32 none (.t 31),.call 33 69 [(.t 32)],.un 34 .not (.t 33),.asg 30 (.t 34)]) (.cond (.t 30) (.seq (.ops [.asg 2 (.c (.int .i64 3))]) .ret) (.seq (.drw [] [([0,1,4,5],2)] none [3,6,7] [.fadr 36 (.t 1) 4,.load 37 none (.t 36),.fadr 40 (.t 1) 2,.load 41 none (.t 40),.call 38 70 [(.t 37)],.fld 39 (.t 38) 0 none,.bin 42 .gtr (.t 39) (.t 41),.asg 35 (.t 42)]) (.cond (.t 35) (.seq (.ops [.asg 2 (.c (.int .i64 13))]) .ret) (.seq (.drw [] [([0,1,4,5],2)] none [3,6,7] [.fadr 44 (.t 1) 4,.load 45 none (.t 44),.fadr 48 (.t 1) 3,.load 49 none (.t 48),.call 46 70 [(.t 45)],.fld 47 (.t 46) 2 none,.bin 50 .neq (.t 47) (.t 49),.asg 43 (.t 50)]) (.cond (.t 43) (.seq (.ops [.asg 2 (.c (.int .i64 22))]) .ret) (.seq (.seq (.ops [.fadr 52 (.t 1) 1,.load 53 none (.t 52),.call 54 71 [(.t 53)],.mov 55 (.t 54),.grd 55 true (.load 56 (some 8) (.t 1)),.grd 55 true (.fadr 57 (.t 1) 5),.grd 55 true (.load 58 none (.t 57)),.grd 55 true (.call 59 72 [(.t 56),(.t 58)]),.grd 55 true (.un 60 .not (.t 59)),.pick 61 (.t 55) (.t 60) (.c (.bool false)),.asg 51 (.t 61)]) (.cond (.t 51) .skip (.ops [.fadr 62 (.t 1) 1,.load 63 none (.t 62),.call 64 71 [(.t 63)],.un 65 .not (.t 64),.mov 66 (.t 65),.grd 66 true (.fadr 67 (.t 1) 5),.grd 66 true (.load 68 none (.t 67)),.grd 66 true (.bin 69 .neq (.t 68) (.c (.int .i64 (-1)))),.pick 70 (.t 66) (.t 69) (.c (.bool false)),.asg 51 (.t 70)]))) (.cond (.t 51) (.seq (.ops [.asg 2 (.c (.int .i64 1))]) .ret) .skip))))))))))))))) (.seq (.ops [.asg 2 (.c (.int .i64 0))]) .ret)))⟩
def fn30:VFn:=⟨2,9,[.tmp 4],(.seq (.ops [.asg 4 (.c (.bool false))]) (.seq (.ops [.mov 5 (.t 0),.mov 6 (.t 1),.call 7 73 [(.t 5),(.t 6)],.bin 8 .geq (.t 7) (.c (.int .i64 0)),.asg 4 (.t 8)]) .ret))⟩
def fn34:VFn:=⟨2,8,[.tmp 4],(.seq (.ops [.asg 4 (.c (.bool false))]) (.seq (.ops [.mov 5 (.t 0),.mov 6 (.t 1),.call 7 77 [(.t 5),(.t 6),(.c (.func 78 []))],.asg 4 (.t 7)]) .ret))⟩
def fn39:VFn:=⟨3,11,[.cell 6 (some 3)],(.seq (.ops [.alloc 6 [(.int .i64 0),(.int .i64 0),(.int .i64 0)]]) (.seq (.ops [.mov 7 (.t 0),.mov 8 (.t 1),.mov 9 (.t 2),.build 10 [(.int .i64 0),(.int .i64 0),(.int .i64 0)] [(0,1,(.t 7)),(1,1,(.t 8)),(2,1,(.t 9))],.store none 3 (.t 6) (.t 10)]) .ret))⟩
def fn41:VFn:=⟨1,20,[.tmp 2,.tmp 3],(.seq (.ops [.asg 2 (.c (.int .i64 0)),.asg 3 (.c (.bool false))]) (.seq (.ops [.mov 7 (.t 0),.mov 8 (.t 0),.call 9 42 [(.t 7),(.t 8)],.mov 6 (.t 9),.ext 10 (.t 6) 0,.ext 11 (.t 6) 1,.asg 4 (.t 10),.asg 5 (.t 11)]) (.seq (.ops [.mov 12 (.t 4),.mov 13 (.t 0),.len 14 (.t 13),.bin 15 .eql (.t 14) (.c (.int .i64 0)),.mov 16 (.t 15),.grd 16 false (.mov 17 (.t 4)),.grd 16 false (.bin 18 .gtr (.t 17) (.c (.int .i64 0))),.pick 19 (.t 16) (.c (.bool true)) (.t 18),.asg 2 (.t 12),.asg 3 (.t 19)]) .ret)))⟩
def fn42_b0:VCode:=(.seq (.seq (.drw [] [] none [0,1,2,3,4,5,6,7,8,9,10,11,12,13,14,15,16,17,18,19] [.mov 17 (.t 8),.mov 18 (.t 0),.len 19 (.t 18),.mov 20 (.t 1),.len 21 (.t 20),.mn 22 false (.t 19) (.t 21),.bin 23 .lss (.t 17) (.t 22),.mov 24 (.t 23),.grd 24 true (.mov 25 (.t 0)),.grd 24 true (.mov 26 (.t 8)),.grd 24 true (.iadr 27 3 (.t 25) (.t 26)),.grd 24 true (.fadr 28 (.t 27) 0),.grd 24 true (.load 29 none (.t 28)),.grd 24 true (.mov 30 (.t 1)),.grd 24 true (.mov 31 (.t 8)),.grd 24 true (.iadr 32 3 (.t 30) (.t 31)),.grd 24 true (.fadr 33 (.t 32) 0),.grd 24 true (.load 34 none (.t 33)),.grd 24 true (.bin 35 .eql (.t 29) (.t 34)),.pick 36 (.t 24) (.t 35) (.c (.bool false))]) (.cond (.t 36) .skip (.exit 0))) (.seq (.block 1 (.seq (.drw [] [] none [0,1,2,3,4,5,6,7,8,9,10,11,12,13,14,15,16,17] [.mov 39 (.t 0),.mov 40 (.t 8),.iadr 41 3 (.t 39) (.t 40),.fadr 42 (.t 41) 2,.load 43 none (.t 42),.mov 44 (.t 1),.mov 45 (.t 8),.iadr 46 3 (.t 44) (.t 45),.fadr 47 (.t 46) 2,.load 48 none (.t 47),.mn 49 false (.t 43) (.t 48),.mov 50 (.t 0),.mov 51 (.t 8),.iadr 52 3 (.t 50) (.t 51),.fadr 53 (.t 52) 0,.load 54 none (.t 53),.asg 6 (.t 49),.asg 7 (.t 54)]) (.seq (.drw [] [] none [0,1,2,3,4,5,6,7,8,9,10] [.mov 55 (.t 0),.mov 56 (.t 8),.iadr 57 3 (.t 55) (.t 56),.fadr 58 (.t 57) 2,.load 59 none (.t 58),.mov 60 (.t 1),.mov 61 (.t 8),.iadr 62 3 (.t 60) (.t 61),.fadr 63 (.t 62) 2,.load 64 none (.t 63),.bin 65 .neq (.t 59) (.t 64)]) (.cond (.t 65) (.exit 0) .skip)))) (.ops [.mov 37 (.t 8),.bin 38 .add (.t 37) (.c (.int .i64 1)),.asg 8 (.t 38)])))
def fn42_l1:VCode :=
(.clean [0,1,6,7,8] [4,5,6,7] (.block 0 (.loop [0,1,6,7,8] fn42_b0)))
def fn42:VFn:=⟨2,68,[.tmp 4,.tmp 5],(.seq (.ops [.asg 4 (.c (.int .i64 0)),.asg 5 (.c (.int .i64 0))]) (.seq (.seq (.ops [.mov 9 (.t 0),.call 10 83 [(.t 9)],.un 11 .not (.t 10),.mov 12 (.t 11),.grd 12 false (.mov 13 (.t 1)),.grd 12 false (.call 14 83 [(.t 13)]),.grd 12 false (.un 15 .not (.t 14)),.pick 16 (.t 12) (.c (.bool true)) (.t 15)]) (.cond (.t 16) (.seq (.ops [.asg 4 (.c (.int .i64 0)),.asg 5 (.c (.int .i64 0))]) .ret) .skip)) (.seq (.ops [.asg 6 (.c (.int .i64 0)),.asg 7 (.c (.int .i64 0))]) (.seq (.seq (.ops [.asg 8 (.c (.int .i64 0))])
   fn42_l1) (.seq (.ops [.mov 66 (.t 6),.mov 67 (.t 7),.asg 4 (.t 66),.asg 5 (.t 67)]) .ret)))))⟩
def fn48_b0:VCode:=(.seq (.ops [.bin 12 .lss (.t 11) (.t 10)]) (.seq (.cond (.t 12) .skip (.exit 0)) (.seq (.block 1 (.seq (.ops [.iadr 13 8 (.t 9) (.t 11),.load 14 (some 8) (.t 13),.alloc 4 [(.int .i64 0),(.int .i64 0),(.int .i64 0),(.int .i64 0),(.list 0 []),(.int .i64 0),(.bool false),(.bool false)],.store none 8 (.t 4) (.t 14)]) (.seq (.ops [.load 15 (some 8) (.t 4),.call 16 29 [(.t 15)],.asg 5 (.t 16)]) (.seq (.ops [.mov 17 (.t 5),.bin 18 .neq (.t 17) (.c (.int .i64 0))]) (.cond (.t 18) (.seq (.ops [.mov 19 (.t 5),.asg 2 (.t 19)]) .ret) .skip))))) (.ops [.bin 20 .add (.t 11) (.c (.int .i64 1)),.mov 11 (.t 20)]))))
def fn48_l1:VCode :=
(.clean [0,9,10,11] [2] (.block 0 (.loop [0,9,10,11] fn48_b0)))
def fn48:VFn:=⟨1,21,[.tmp 2],(.seq (.ops [.asg 2 (.c (.int .i64 0))]) (.seq (.seq (.ops [.mov 6 (.t 0),.len 7 (.t 6),.bin 8 .gtr (.t 7) (.c (.int .i64 4))]) (.cond (.t 8) (.seq (.ops [.asg 2 (.c (.int .i64 6))]) .ret) .skip)) (.seq (.seq (.ops [.mov 9 (.t 0),.len 10 (.t 9),.mov 11 (.c (.int .i64 0))])
   fn48_l1) (.seq (.ops [.asg 2 (.c (.int .i64 0))]) .ret))))⟩
def fn49:VFn:=⟨1,4,[.tmp 2],(.seq (.ops [.box 1 (.t 0),.asg 2 (.c .nilf)]) (.seq (.ops [.mkf 3 85 [(.t 1)],.asg 2 (.t 3)]) .ret))⟩
def fn50:VFn:=⟨2,41,[.tmp 4],(.seq (.ops [.box 2 (.t 0),.box 3 (.t 1),.asg 4 (.c (.bool false))]) (.seq (.seq (.ops [.fadr 7 (.t 2) 1,.load 8 none (.t 7),.bin 9 .eql (.t 8) (.c (.int .i64 4)),.mov 10 (.t 9),.grd 10 false (.fadr 11 (.t 3) 1),.grd 10 false (.load 12 none (.t 11)),.grd 10 false (.bin 13 .eql (.t 12) (.c (.int .i64 4))),.pick 14 (.t 10) (.c (.bool true)) (.t 13)]) (.cond (.t 14) (.seq (.ops [.asg 4 (.c (.bool false))]) .ret) .skip)) (.seq (.ops [.fadr 16 (.t 2) 4,.load 17 none (.t 16),.fadr 18 (.t 3) 4,.load 19 none (.t 18),.call 20 10 [(.t 17),(.t 19)],.mov 15 (.t 20),.ext 21 (.t 15) 0,.ext 22 (.t 15) 1,.asg 5 (.t 21),.asg 6 (.t 22)]) (.seq (.ops [.mov 23 (.t 6),.mov 24 (.t 23),.grd 24 false (.fadr 25 (.t 2) 1),.grd 24 false (.load 26 none (.t 25)),.grd 24 false (.bin 27 .eql (.t 26) (.c (.int .i64 1))),.grd 24 false (.mov 28 (.t 27)),.grd 28 true (.fadr 29 (.t 3) 1),.grd 28 true (.load 30 none (.t 29)),.grd 28 true (.bin 31 .eql (.t 30) (.c (.int .i64 1))),.grd 24 false (.pick 32 (.t 28) (.t 31) (.c (.bool false))),.grd 24 false (.mov 33 (.t 32)),.grd 33 true (.fadr 34 (.t 2) 2),.grd 33 true (.load 35 none (.t 34)),.grd 33 true (.fadr 36 (.t 3) 2),.grd 33 true (.load 37 none (.t 36)),.grd 33 true (.bin 38 .eql (.t 35) (.t 37)),.grd 24 false (.pick 39 (.t 33) (.t 38) (.c (.bool false))),.pick 40 (.t 24) (.c (.bool true)) (.t 39),.asg 4 (.t 40)]) .ret))))⟩
def fn53:VFn:=⟨1,8,[.tmp 2],(.seq (.ops [.asg 2 (.nil 3)]) (.seq (.seq (.ops [.mov 3 (.t 0),.isn 4 false (.t 3)]) (.cond (.t 4) (.seq (.ops [.asg 2 (.nil 3)]) .ret) .skip)) (.seq (.ops [.mksl 5 3 [],.mov 6 (.t 0),.app 7 3 (.t 5) (.t 6),.asg 2 (.t 7)]) .ret)))⟩
def fn56_b0:VCode:=(.seq (.ops [.bin 11 .lss (.t 10) (.t 9)]) (.seq (.cond (.t 11) .skip (.exit 0)) (.seq (.block 1 (.seq (.ops [.iadr 12 1 (.t 8) (.t 10),.load 13 none (.t 12),.asg 4 (.t 13)]) (.seq (.ops [.mov 14 (.t 4),.call 15 74 [(.t 14)],.asg 5 (.t 15)]) (.seq (.ops [.mov 16 (.t 5),.bin 17 .neq (.t 16) (.c (.int .i64 0))]) (.cond (.t 17) (.seq (.ops [.mov 18 (.t 5),.asg 2 (.t 18)]) .ret) .skip))))) (.ops [.bin 19 .add (.t 10) (.c (.int .i64 1)),.mov 10 (.t 19)]))))
def fn56_l1:VCode :=
(.clean [0,8,9,10] [0,2] (.block 0 (.loop [0,8,9,10] fn56_b0)))
def fn56_b2:VCode:=(.seq (.ops [.bin 24 .lss (.t 23) (.t 22)]) (.seq (.cond (.t 24) .skip (.exit 2)) (.seq (.block 3 (.seq (.ops [.iadr 25 1 (.t 21) (.t 23),.load 26 none (.t 25),.asg 7 (.t 26)]) (.seq (.ops [.mov 27 (.t 7),.mov 28 (.t 0),.iadr 29 1 (.t 28) (.c (.int .i64 0)),.load 30 none (.t 29),.call 31 77 [(.t 27),(.t 30),(.c (.func 87 []))],.un 32 .not (.t 31)]) (.cond (.t 32) (.seq (.ops [.asg 2 (.c (.int .i64 22))]) .ret) .skip)))) (.ops [.bin 33 .add (.t 23) (.c (.int .i64 1)),.mov 23 (.t 33)]))))
def fn56_l3:VCode :=
(.clean [0,20,21,22,23] [2] (.block 2 (.loop [0,20,21,22,23] fn56_b2)))
def fn56:VFn:=⟨1,34,[.tmp 2],(.seq (.ops [.asg 2 (.c (.int .i64 0))]) (.seq (.seq (.ops [.mov 8 (.t 0),.len 9 (.t 8),.mov 10 (.c (.int .i64 0))])
  fn56_l1) (.seq (.seq (.ops [.mov 20 (.t 0),.sli 21 1 (.t 20) (some (.c (.int .i64 1))) none,.len 22 (.t 21),.mov 23 (.c (.int .i64 0))])
   fn56_l3) (.seq (.ops [.asg 2 (.c (.int .i64 0))]) .ret))))⟩
def fn57_b0:VCode:=(.seq (.ops [.bin 24 .lss (.t 23) (.t 22)]) (.seq (.cond (.t 24) .skip (.exit 2)) (.seq (.block 3 (.seq (.ops [.mov 25 (.t 23),.asg 12 (.t 25)]) (.drw [] [([0,1,2,3,4,5,6,7,8,9,10,11,12,13,14,15,16,17,18,19,20,21,22],23),([],24)] (some ([],[],25,[])) [26] [.mov 26 (.t 11),.mov 27 (.t 3),.mov 28 (.t 0),.mov 29 (.t 10),.iadr 30 1 (.t 28) (.t 29),.load 31 none (.t 30),.mov 32 (.t 12),.iadr 33 8 (.t 31) (.t 32),.load 34 (some 8) (.t 33),.mov 35 (.t 1),.mov 36 (.t 10),.iadr 37 1 (.t 35) (.t 36),.load 38 none (.t 37),.mov 39 (.t 12),.iadr 40 8 (.t 38) (.t 39),.load 41 (some 8) (.t 40),.mov 42 (.t 2),.mov 43 (.t 10),.iadr 44 1 (.t 42) (.t 43),.load 45 none (.t 44),.mov 46 (.t 12),.iadr 47 8 (.t 45) (.t 46),.load 48 (some 8) (.t 47),.callv 49 (.t 27) [(.t 34),(.t 41),(.t 48)],.mksl 50 8 [(.t 49)],.app 51 8 (.t 26) (.t 50),.asg 11 (.t 51)]))) (.ops [.bin 52 .add (.t 23) (.c (.int .i64 1)),.mov 23 (.t 52)]))))
def fn57_l1:VCode :=
(.clean [0,1,2,3,9,10,11,14,15,22,23,51,56] [0,1,2,3,8,9,11,14,15,51,56] (.block 2 (.loop [0,1,2,3,9,10,11,14,15,22,23,51,56] fn57_b0)))
def fn57_b2:VCode:=(.seq (.ops [.bin 16 .lss (.t 15) (.t 14)]) (.seq (.cond (.t 16) .skip (.exit 0)) (.seq (.block 1 (.seq (.ops [.mov 17 (.t 15),.asg 10 (.t 17)]) (.seq (.ops [.asg 11 (.nil 8)]) (.seq (.seq (.ops [.mov 18 (.t 2),.mov 19 (.t 10),.iadr 20 1 (.t 18) (.t 19),.load 21 none (.t 20),.len 22 (.t 21),.mov 23 (.c (.int .i64 0))])
     fn57_l1) (.ops [.mov 53 (.t 9),.mov 54 (.t 11),.mksl 55 1 [(.t 54)],.app 56 1 (.t 53) (.t 55),.asg 9 (.t 56)]))))) (.ops [.bin 57 .add (.t 15) (.c (.int .i64 1)),.mov 15 (.t 57)]))))
def fn57_l3:VCode :=
(.clean [0,1,2,3,9,14,15,51,56] [8,9] (.block 0 (.loop [0,1,2,3,9,14,15,51,56] fn57_b2)))
def fn57:VFn:=⟨4,59,[.tmp 8],(.seq (.ops [.asg 8 (.nil 1)]) (.seq (.ops [.asg 9 (.nil 1)]) (.seq (.seq (.ops [.mov 13 (.t 2),.len 14 (.t 13),.mov 15 (.c (.int .i64 0))])
   fn57_l3) (.seq (.ops [.mov 58 (.t 9),.asg 8 (.t 58)]) .ret))))⟩
def fn58:VFn:=⟨5,24,[.cell 8 (some 8)],(.seq (.ops [.box 5 (.t 0),.box 6 (.t 1),.box 7 (.t 2),.alloc 8 [(.int .u8 0),(.int .u8 0),(.int .u8 0),(.int .u8 0),(.int .u8 0),(.int .u8 0),(.int .u8 0),(.int .u8 0)]]) (.seq (.seq (.ops [.load 9 (some 8) (.t 5),.load 10 (some 8) (.t 7),.eqa 11 true 8 (.t 9) (.t 10),.mov 12 (.t 11),.grd 12 true (.load 13 (some 8) (.t 6)),.grd 12 true (.load 14 (some 8) (.t 7)),.grd 12 true (.eqa 15 true 8 (.t 13) (.t 14)),.pick 16 (.t 12) (.t 15) (.c (.bool false)),.mov 17 (.t 16),.grd 17 true (.load 18 (some 8) (.t 5)),.grd 17 true (.load 19 (some 8) (.t 6)),.grd 17 true (.eqa 20 true 8 (.t 18) (.t 19)),.pick 21 (.t 17) (.t 20) (.c (.bool false))]) (.cond (.t 21) (.seq (.ops [.load 22 (some 8) (.t 3),.store none 8 (.t 8) (.t 22)]) .ret) .skip)) (.seq (.ops [.load 23 (some 8) (.t 4),.store none 8 (.t 8) (.t 23)]) .ret)))⟩
def fn59_b0:VCode:=(.seq (.ops [.bin 18 .lss (.t 17) (.t 16)]) (.seq (.cond (.t 18) .skip (.exit 0)) (.seq (.block 1 (.seq (.ops [.mov 19 (.t 17),.asg 8 (.t 19)]) (.drw [] [([0,1,2,3,4,5,6,7,8],9),([],10)] (some ([],[],11,[])) [12] [.mov 20 (.t 7),.mov 21 (.t 0),.mov 22 (.t 8),.iadr 23 1 (.t 21) (.t 22),.load 24 none (.t 23),.mov 25 (.t 1),.mov 26 (.t 8),.iadr 27 1 (.t 25) (.t 26),.load 28 none (.t 27),.call 29 89 [(.t 24),(.t 28)],.mksl 30 1 [(.t 29)],.app 31 1 (.t 20) (.t 30),.asg 7 (.t 31)]))) (.ops [.bin 32 .add (.t 17) (.c (.int .i64 1)),.mov 17 (.t 32)]))))
def fn59_l1:VCode :=
(.clean [0,1,7,16,17,31] [4,5,7] (.block 0 (.loop [0,1,7,16,17,31] fn59_b0)))
def fn59:VFn:=⟨2,34,[.tmp 4,.tmp 5],(.seq (.ops [.asg 4 (.nil 1),.asg 5 (.c (.int .i64 0))]) (.seq (.seq (.ops [.mov 9 (.t 0),.mov 10 (.t 1),.call 11 88 [(.t 9),(.t 10)],.asg 6 (.t 11)]) (.seq (.ops [.mov 12 (.t 6),.bin 13 .neq (.t 12) (.c (.int .i64 0))]) (.cond (.t 13) (.seq (.ops [.mov 14 (.t 6),.asg 4 (.nil 1),.asg 5 (.t 14)]) .ret) .skip))) (.seq (.ops [.asg 7 (.nil 1)]) (.seq (.seq (.ops [.mov 15 (.t 0),.len 16 (.t 15),.mov 17 (.c (.int .i64 0))])
   fn59_l1) (.seq (.ops [.mov 33 (.t 7),.asg 4 (.t 33),.asg 5 (.c (.int .i64 0))]) .ret)))))⟩
def fn60:VFn:=⟨4,9,[.cell 7 (some 8)],(.seq (.ops [.box 4 (.t 0),.box 5 (.t 1),.box 6 (.t 2),.alloc 7 [(.int .u8 0),(.int .u8 0),(.int .u8 0),(.int .u8 0),(.int .u8 0),(.int .u8 0),(.int .u8 0),(.int .u8 0)]]) (.seq (.ops [.load 8 (some 8) (.t 3),.store none 8 (.t 7) (.t 8)]) .ret))⟩
def fn61_b0:VCode:=(.seq (.seq (.ops [.mov 38 (.t 10),.mov 39 (.t 2),.len 40 (.t 39),.bin 41 .lss (.t 38) (.t 40)]) (.cond (.t 41) .skip (.exit 0))) (.seq (.block 1 (.seq (.drw [] [] none [0,1,2,3,4,5,6,7,8,9,10,11,12,13,14,15,16,17,18,19,20,21,22,23] [.mov 44 (.t 0),.mov 45 (.t 10),.iadr 46 1 (.t 44) (.t 45),.load 47 none (.t 46),.len 48 (.t 47),.mov 49 (.t 2),.mov 50 (.t 10),.iadr 51 1 (.t 49) (.t 50),.load 52 none (.t 51),.len 53 (.t 52),.bin 54 .neq (.t 48) (.t 53),.mov 55 (.t 54),.grd 55 false (.mov 56 (.t 1)),.grd 55 false (.mov 57 (.t 10)),.grd 55 false (.iadr 58 1 (.t 56) (.t 57)),.grd 55 false (.load 59 none (.t 58)),.grd 55 false (.len 60 (.t 59)),.grd 55 false (.mov 61 (.t 2)),.grd 55 false (.mov 62 (.t 10)),.grd 55 false (.iadr 63 1 (.t 61) (.t 62)),.grd 55 false (.load 64 none (.t 63)),.grd 55 false (.len 65 (.t 64)),.grd 55 false (.bin 66 .neq (.t 60) (.t 65)),.pick 67 (.t 55) (.c (.bool true)) (.t 66)]) (.cond (.t 67) (.seq (.ops [.asg 6 (.c (.int .i64 22))]) .ret) .skip))) (.ops [.mov 42 (.t 10),.bin 43 .add (.t 42) (.c (.int .i64 1)),.asg 10 (.t 43)])))
def fn61_l1:VCode :=
(.clean [0,1,2,10] [6] (.block 0 (.loop [0,1,2,10] fn61_b0)))
def fn61:VFn:=⟨3,68,[.tmp 6],(.seq (.ops [.asg 6 (.c (.int .i64 0))]) (.seq (.seq (.ops [.mov 11 (.t 0),.call 12 90 [(.t 11)],.asg 7 (.t 12)]) (.seq (.ops [.mov 13 (.t 7),.bin 14 .neq (.t 13) (.c (.int .i64 0))]) (.cond (.t 14) (.seq (.ops [.mov 15 (.t 7),.asg 6 (.t 15)]) .ret) .skip))) (.seq (.seq (.ops [.mov 16 (.t 1),.call 17 90 [(.t 16)],.asg 8 (.t 17)]) (.seq (.ops [.mov 18 (.t 8),.bin 19 .neq (.t 18) (.c (.int .i64 0))]) (.cond (.t 19) (.seq (.ops [.mov 20 (.t 8),.asg 6 (.t 20)]) .ret) .skip))) (.seq (.seq (.ops [.mov 21 (.t 2),.call 22 90 [(.t 21)],.asg 9 (.t 22)]) (.seq (.ops [.mov 23 (.t 9),.bin 24 .neq (.t 23) (.c (.int .i64 0))]) (.cond (.t 24) (.seq (.ops [.mov 25 (.t 9),.asg 6 (.t 25)]) .ret) .skip))) (.seq (.seq (.ops [.mov 26 (.t 0),.len 27 (.t 26),.mov 28 (.t 2),.len 29 (.t 28),.bin 30 .neq (.t 27) (.t 29),.mov 31 (.t 30),.grd 31 false (.mov 32 (.t 1)),.grd 31 false (.len 33 (.t 32)),.grd 31 false (.mov 34 (.t 2)),.grd 31 false (.len 35 (.t 34)),.grd 31 false (.bin 36 .neq (.t 33) (.t 35)),.pick 37 (.t 31) (.c (.bool true)) (.t 36)]) (.cond (.t 37) (.seq (.ops [.asg 6 (.c (.int .i64 22))]) .ret) .skip)) (.seq (.seq (.ops [.asg 10 (.c (.int .i64 0))])
    fn61_l1) (.seq (.ops [.asg 6 (.c (.int .i64 0))]) .ret)))))))⟩
def fn62_b0:VCode:=(.seq (.seq (.ops [.mov 5 (.t 4),.mov 6 (.t 0),.len 7 (.t 6),.bin 8 .lss (.t 5) (.t 7)]) (.cond (.t 8) .skip (.exit 0))) (.seq (.block 1 (.seq (.seq (.ops [.mov 11 (.t 0),.mov 12 (.t 4),.iadr 13 1 (.t 11) (.t 12),.load 14 none (.t 13),.un 15 .not (.t 14)]) (.cond (.t 15) (.exit 1) .skip)) (.seq (.ops [.mov 16 (.t 4),.bin 17 .gtr (.t 16) (.c (.int .i64 0)),.mov 18 (.t 17),.grd 18 true (.mov 19 (.t 0)),.grd 18 true (.mov 20 (.t 4)),.grd 18 true (.bin 21 .sub (.t 20) (.c (.int .i64 1))),.grd 18 true (.iadr 22 1 (.t 19) (.t 21)),.grd 18 true (.load 23 none (.t 22)),.pick 24 (.t 18) (.t 23) (.c (.bool false))]) (.cond (.t 24) (.ops [.mov 25 (.t 3),.mov 26 (.t 3),.len 27 (.t 26),.bin 28 .sub (.t 27) (.c (.int .i64 1)),.iadr 29 2 (.t 25) (.t 28),.fadr 30 (.t 29) 1,.load 31 none (.t 30),.bin 32 .add (.t 31) (.c (.int .i64 1)),.iadr 33 2 (.t 25) (.t 28),.fadr 34 (.t 33) 1,.store none 1 (.t 34) (.t 32)]) (.ops [.mov 35 (.t 3),.mov 36 (.t 4),.build 37 [(.int .i64 0),(.int .i64 0)] [(0,1,(.t 36)),(1,1,(.c (.int .i64 1)))],.mksl 38 2 [(.t 37)],.app 39 2 (.t 35) (.t 38),.asg 3 (.t 39)]))))) (.ops [.mov 9 (.t 4),.bin 10 .add (.t 9) (.c (.int .i64 1)),.asg 4 (.t 10)])))
def fn62_l1:VCode :=
(.clean [0,3,4,39] [2,3] (.block 0 (.loop [0,3,4,39] fn62_b0)))
def fn62:VFn:=⟨1,41,[.tmp 2],(.seq (.ops [.asg 2 (.nil 2)]) (.seq (.ops [.asg 3 (.nil 2)]) (.seq (.seq (.ops [.asg 4 (.c (.int .i64 0))])
   fn62_l1) (.seq (.ops [.mov 40 (.t 3),.asg 2 (.t 40)]) .ret))))⟩
def fn63:VFn:=⟨3,12,[.cell 6 (some 8)],(.seq (.ops [.box 3 (.t 0),.box 4 (.t 1),.box 5 (.t 2),.alloc 6 [(.int .u8 0),(.int .u8 0),(.int .u8 0),(.int .u8 0),(.int .u8 0),(.int .u8 0),(.int .u8 0),(.int .u8 0)]]) (.seq (.seq (.ops [.load 7 (some 8) (.t 3),.load 8 (some 8) (.t 5),.eqa 9 false 8 (.t 7) (.t 8)]) (.cond (.t 9) (.seq (.ops [.load 10 (some 8) (.t 4),.store none 8 (.t 6) (.t 10)]) .ret) .skip)) (.seq (.ops [.load 11 (some 8) (.t 3),.store none 8 (.t 6) (.t 11)]) .ret)))⟩
def fn64_b0:VCode:=(.seq (.seq (.ops [.mov 6 (.t 4),.mov 7 (.t 0),.len 8 (.t 7),.bin 9 .lss (.t 6) (.t 8)]) (.cond (.t 9) .skip (.exit 0))) (.seq (.block 1 (.seq (.ops [.asg 5 (.nil 8)]) (.ops [.mov 12 (.t 3),.mov 13 (.t 5),.mov 14 (.t 0),.mov 15 (.t 4),.iadr 16 1 (.t 14) (.t 15),.load 17 none (.t 16),.app 18 8 (.t 13) (.t 17),.mksl 19 1 [(.t 18)],.app 20 1 (.t 12) (.t 19),.asg 3 (.t 20)]))) (.ops [.mov 10 (.t 4),.bin 11 .add (.t 10) (.c (.int .i64 1)),.asg 4 (.t 11)])))
def fn64_l1:VCode :=
(.clean [0,3,4,20] [2,3] (.block 0 (.loop [0,3,4,20] fn64_b0)))
def fn64:VFn:=⟨1,22,[.tmp 2],(.seq (.ops [.asg 2 (.nil 1)]) (.seq (.ops [.asg 3 (.nil 1)]) (.seq (.seq (.ops [.asg 4 (.c (.int .i64 0))])
   fn64_l1) (.seq (.ops [.mov 21 (.t 3),.asg 2 (.t 21)]) .ret))))⟩
def fn65_b0:VCode:=(.seq (.seq (.ops [.mov 11 (.t 5),.mov 12 (.t 0),.len 13 (.t 12),.bin 14 .lss (.t 11) (.t 13)]) (.cond (.t 14) .skip (.exit 0))) (.seq (.block 1 (.seq (.drw [] [] none [0,1,2,3,4,5,6,7,8] [.mov 17 (.t 0),.mov 18 (.t 5),.iadr 19 2 (.t 17) (.t 18),.load 20 (some 2) (.t 19),.mov 21 (.t 1),.mov 22 (.t 5),.iadr 23 2 (.t 21) (.t 22),.load 24 (some 2) (.t 23),.eqa 25 true 2 (.t 20) (.t 24)]) (.cond (.t 25) (.seq (.ops [.asg 4 (.c (.bool false))]) .ret) .skip))) (.ops [.mov 15 (.t 5),.bin 16 .add (.t 15) (.c (.int .i64 1)),.asg 5 (.t 16)])))
def fn65_l1:VCode :=
(.clean [0,1,5] [4] (.block 0 (.loop [0,1,5] fn65_b0)))
def fn65:VFn:=⟨2,26,[.tmp 4],(.seq (.ops [.asg 4 (.c (.bool false))]) (.seq (.seq (.ops [.mov 6 (.t 0),.len 7 (.t 6),.mov 8 (.t 1),.len 9 (.t 8),.bin 10 .neq (.t 7) (.t 9)]) (.cond (.t 10) (.seq (.ops [.asg 4 (.c (.bool false))]) .ret) .skip)) (.seq (.seq (.ops [.asg 5 (.c (.int .i64 0))])
   fn65_l1) (.seq (.ops [.asg 4 (.c (.bool true))]) .ret))))⟩
def fn66_b0:VCode:=(.seq (.seq (.ops [.mov 11 (.t 5),.mov 12 (.t 0),.len 13 (.t 12),.bin 14 .lss (.t 11) (.t 13)]) (.cond (.t 14) .skip (.exit 0))) (.seq (.block 1 (.seq (.drw [] [] none [0,1,2,3,4,5,6,7,8] [.mov 17 (.t 0),.mov 18 (.t 5),.iadr 19 8 (.t 17) (.t 18),.load 20 (some 8) (.t 19),.mov 21 (.t 1),.mov 22 (.t 5),.iadr 23 8 (.t 21) (.t 22),.load 24 (some 8) (.t 23),.eqa 25 true 8 (.t 20) (.t 24)]) (.cond (.t 25) (.seq (.ops [.asg 4 (.c (.bool false))]) .ret) .skip))) (.ops [.mov 15 (.t 5),.bin 16 .add (.t 15) (.c (.int .i64 1)),.asg 5 (.t 16)])))
def fn66_l1:VCode :=
(.clean [0,1,5] [4] (.block 0 (.loop [0,1,5] fn66_b0)))
def fn66:VFn:=⟨2,26,[.tmp 4],(.seq (.ops [.asg 4 (.c (.bool false))]) (.seq (.seq (.ops [.mov 6 (.t 0),.len 7 (.t 6),.mov 8 (.t 1),.len 9 (.t 8),.bin 10 .neq (.t 7) (.t 9)]) (.cond (.t 10) (.seq (.ops [.asg 4 (.c (.bool false))]) .ret) .skip)) (.seq (.seq (.ops [.asg 5 (.c (.int .i64 0))])
   fn66_l1) (.seq (.ops [.asg 4 (.c (.bool true))]) .ret))))⟩
def fn68:VFn:=⟨3,15,[.tmp 6],(.seq (.ops [.asg 6 (.c (.bool false))]) (.seq (.ops [.mov 7 (.t 0),.mov 8 (.t 1),.bin 9 .geq (.t 7) (.t 8),.mov 10 (.t 9),.grd 10 true (.mov 11 (.t 0)),.grd 10 true (.mov 12 (.t 2)),.grd 10 true (.bin 13 .leq (.t 11) (.t 12)),.pick 14 (.t 10) (.t 13) (.c (.bool false)),.asg 6 (.t 14)]) .ret))⟩
def fn69:VFn:=⟨1,35,[.tmp 2],(.seq (.ops [.asg 2 (.c (.bool false))]) (.seq (.seq (.ops [.mov 6 (.t 0),.len 7 (.t 6),.bin 8 .eql (.t 7) (.c (.int .i64 0))]) (.cond (.t 8) (.seq (.ops [.asg 2 (.c (.bool true))]) .ret) .skip)) (.seq (.ops [.mov 10 (.t 0),.mov 11 (.t 0),.call 12 42 [(.t 10),(.t 11)],.mov 9 (.t 12),.ext 13 (.t 9) 0,.ext 14 (.t 9) 1,.asg 3 (.t 13),.asg 4 (.t 14)]) (.seq (.ops [.mov 15 (.t 0),.mov 16 (.t 0),.len 17 (.t 16),.bin 18 .sub (.t 17) (.c (.int .i64 1)),.iadr 19 3 (.t 15) (.t 18),.load 20 (some 3) (.t 19),.alloc 5 [(.int .i64 0),(.int .i64 0),(.int .i64 0)],.store none 3 (.t 5) (.t 20)]) (.seq (.ops [.mov 21 (.t 3),.fadr 22 (.t 5) 2,.load 23 none (.t 22),.bin 24 .eql (.t 21) (.t 23),.mov 25 (.t 24),.grd 25 true (.mov 26 (.t 4)),.grd 25 true (.fadr 27 (.t 5) 0),.grd 25 true (.load 28 none (.t 27)),.grd 25 true (.bin 29 .eql (.t 26) (.t 28)),.pick 30 (.t 25) (.t 29) (.c (.bool false)),.mov 31 (.t 30),.grd 31 true (.mov 32 (.t 3)),.grd 31 true (.bin 33 .gtr (.t 32) (.c (.int .i64 0))),.pick 34 (.t 31) (.t 33) (.c (.bool false)),.asg 2 (.t 34)]) .ret)))))⟩
def fn70:VFn:=⟨1,13,[.cell 2 (some 3)],(.seq (.ops [.alloc 2 [(.int .i64 0),(.int .i64 0),(.int .i64 0)]]) (.seq (.seq (.ops [.mov 3 (.t 0),.len 4 (.t 3),.bin 5 .eql (.t 4) (.c (.int .i64 0))]) (.cond (.t 5) (.seq (.ops [.build 6 [(.int .i64 0),(.int .i64 0),(.int .i64 0)] [],.store none 3 (.t 2) (.t 6)]) .ret) .skip)) (.seq (.ops [.mov 7 (.t 0),.mov 8 (.t 0),.len 9 (.t 8),.bin 10 .sub (.t 9) (.c (.int .i64 1)),.iadr 11 3 (.t 7) (.t 10),.load 12 (some 3) (.t 11),.store none 3 (.t 2) (.t 12)]) .ret)))⟩
def fn71:VFn:=⟨1,9,[.tmp 2],(.seq (.ops [.asg 2 (.c (.bool false))]) (.seq (.ops [.mov 3 (.t 0),.bin 4 .eql (.t 3) (.c (.int .i64 2)),.mov 5 (.t 4),.grd 5 false (.mov 6 (.t 0)),.grd 5 false (.bin 7 .eql (.t 6) (.c (.int .i64 4))),.pick 8 (.t 5) (.c (.bool true)) (.t 7),.asg 2 (.t 8)]) .ret))⟩
def fn72:VFn:=⟨2,13,[.tmp 4],(.seq (.ops [.box 2 (.t 0),.asg 4 (.c (.bool false))]) (.seq (.ops [.mov 5 (.t 1),.call 6 68 [(.t 5),(.c (.int .i64 0)),(.c (.int .i64 3))],.mov 7 (.t 6),.grd 7 true (.mov 8 (.t 1)),.grd 7 true (.fadr 9 (.t 2) 0),.grd 7 true (.load 10 none (.t 9)),.grd 7 true (.bin 11 .neq (.t 8) (.t 10)),.pick 12 (.t 7) (.t 11) (.c (.bool false)),.asg 4 (.t 12)]) .ret))⟩
def fn73_b0:VCode:=(.seq (.ops [.bin 9 .lss (.t 8) (.t 7)]) (.seq (.cond (.t 9) .skip (.exit 0)) (.seq (.block 1 (.seq (.ops [.mov 10 (.t 8),.asg 5 (.t 10)]) (.seq (.ops [.mov 11 (.t 1),.mov 12 (.t 0),.mov 13 (.t 5),.iadr 14 1 (.t 12) (.t 13),.load 15 none (.t 14),.callv 16 (.t 11) [(.t 15)]]) (.cond (.t 16) (.seq (.ops [.mov 17 (.t 5),.asg 4 (.t 17)]) .ret) .skip)))) (.ops [.bin 18 .add (.t 8) (.c (.int .i64 1)),.mov 8 (.t 18)]))))
def fn73_l1:VCode :=
(.clean [0,1,7,8] [4] (.block 0 (.loop [0,1,7,8] fn73_b0)))
def fn73:VFn:=⟨2,19,[.tmp 4],(.seq (.ops [.asg 4 (.c (.int .i64 0))]) (.seq (.seq (.ops [.mov 6 (.t 0),.len 7 (.t 6),.mov 8 (.c (.int .i64 0))])
  fn73_l1) (.seq (.ops [.asg 4 (.c (.int .i64 (-1)))]) .ret)))⟩
def fn74:VFn:=⟨1,6,[.tmp 2],(.seq (.ops [.asg 2 (.c (.int .i64 0))]) (.seq (.ops [.mov 3 (.t 0),.call 4 92 [(.t 3)],.call 5 91 [(.t 4)],.asg 2 (.t 5)]) .ret))⟩
def fn77_b0:VCode:=(.seq (.ops [.bin 18 .lss (.t 17) (.t 16)]) (.seq (.cond (.t 18) .skip (.exit 0)) (.seq (.block 1 (.seq (.ops [.mov 19 (.t 17),.iadr 20 1 (.t 15) (.t 17),.load 21 none (.t 20),.asg 7 (.t 19),.asg 8 (.t 21)]) (.seq (.ops [.mov 22 (.t 1),.mov 23 (.t 7),.iadr 24 1 (.t 22) (.t 23),.load 25 none (.t 24),.asg 9 (.t 25)]) (.seq (.ops [.mov 26 (.t 2),.mov 27 (.t 8),.mov 28 (.t 9),.callv 29 (.t 26) [(.t 27),(.t 28)],.un 30 .not (.t 29)]) (.cond (.t 30) (.seq (.ops [.asg 6 (.c (.bool false))]) .ret) .skip))))) (.ops [.bin 31 .add (.t 17) (.c (.int .i64 1)),.mov 17 (.t 31)]))))
def fn77_l1:VCode :=
(.clean [0,1,2,15,16,17] [6] (.block 0 (.loop [0,1,2,15,16,17] fn77_b0)))
def fn77:VFn:=⟨3,32,[.tmp 6],(.seq (.ops [.asg 6 (.c (.bool false))]) (.seq (.seq (.ops [.mov 10 (.t 0),.len 11 (.t 10),.mov 12 (.t 1),.len 13 (.t 12),.bin 14 .neq (.t 11) (.t 13)]) (.cond (.t 14) (.seq (.ops [.asg 6 (.c (.bool false))]) .ret) .skip)) (.seq (.seq (.ops [.mov 15 (.t 0),.len 16 (.t 15),.mov 17 (.c (.int .i64 0))])
   fn77_l1) (.seq (.ops [.asg 6 (.c (.bool true))]) .ret))))⟩
def fn78_b0:VCode:=(.seq (.ops [.bin 14 .lss (.t 13) (.t 12)]) (.seq (.cond (.t 14) .skip (.exit 0)) (.seq (.block 1 (.seq (.ops [.mov 15 (.t 13),.asg 5 (.t 15)]) (.seq (.drw [] [] none [0,1,2,3,4,5,6,7,8] [.mov 16 (.t 0),.mov 17 (.t 5),.iadr 18 8 (.t 16) (.t 17),.load 19 (some 8) (.t 18),.mov 20 (.t 1),.mov 21 (.t 5),.iadr 22 8 (.t 20) (.t 21),.load 23 (some 8) (.t 22),.eqa 24 true 8 (.t 19) (.t 23)]) (.cond (.t 24) (.seq (.ops [.asg 4 (.c (.bool false))]) .ret) .skip)))) (.ops [.bin 25 .add (.t 13) (.c (.int .i64 1)),.mov 13 (.t 25)]))))
def fn78_l1:VCode :=
(.clean [0,1,12,13] [4] (.block 0 (.loop [0,1,12,13] fn78_b0)))
def fn78:VFn:=⟨2,26,[.tmp 4],(.seq (.ops [.asg 4 (.c (.bool false))]) (.seq (.seq (.ops [.mov 6 (.t 0),.len 7 (.t 6),.mov 8 (.t 1),.len 9 (.t 8),.bin 10 .neq (.t 7) (.t 9)]) (.cond (.t 10) (.seq (.ops [.asg 4 (.c (.bool false))]) .ret) .skip)) (.seq (.seq (.ops [.mov 11 (.t 0),.len 12 (.t 11),.mov 13 (.c (.int .i64 0))])
   fn78_l1) (.seq (.ops [.asg 4 (.c (.bool true))]) .ret))))⟩
def fn83_b0:VCode:=(.seq (.ops [.bin 10 .lss (.t 9) (.t 8)]) (.seq (.cond (.t 10) .skip (.exit 0)) (.seq (.block 1 (.seq (.ops [.iadr 11 3 (.t 7) (.t 9),.load 12 (some 3) (.t 11),.alloc 5 [(.int .i64 0),(.int .i64 0),(.int .i64 0)],.store none 3 (.t 5) (.t 12)]) (.seq (.seq (.ops [.fadr 13 (.t 5) 1,.load 14 none (.t 13),.fadr 15 (.t 3) 2,.load 16 none (.t 15),.bin 17 .add (.t 16) (.c (.int .i64 1)),.bin 18 .neq (.t 14) (.t 17),.mov 19 (.t 18),.grd 19 false (.fadr 20 (.t 5) 2),.grd 19 false (.load 21 none (.t 20)),.grd 19 false (.fadr 22 (.t 5) 1),.grd 19 false (.load 23 none (.t 22)),.grd 19 false (.bin 24 .lss (.t 21) (.t 23)),.pick 25 (.t 19) (.c (.bool true)) (.t 24),.mov 26 (.t 25),.grd 26 false (.fadr 27 (.t 5) 2),.grd 26 false (.load 28 none (.t 27)),.grd 26 false (.bin 29 .gtr (.t 28) (.c (.int .i64 1073741824))),.pick 30 (.t 26) (.c (.bool true)) (.t 29),.mov 31 (.t 30),.grd 31 false (.fadr 32 (.t 5) 0),.grd 31 false (.load 33 none (.t 32)),.grd 31 false (.call 34 106 [(.t 33),(.c (.int .i64 1))]),.grd 31 false (.un 35 .not (.t 34)),.pick 36 (.t 31) (.c (.bool true)) (.t 35),.mov 37 (.t 36),.grd 37 false (.fadr 38 (.t 5) 0),.grd 37 false (.load 39 none (.t 38)),.grd 37 false (.fadr 40 (.t 3) 0),.grd 37 false (.load 41 none (.t 40)),.grd 37 false (.bin 42 .leq (.t 39) (.t 41)),.pick 43 (.t 37) (.c (.bool true)) (.t 42)]) (.cond (.t 43) (.seq (.ops [.asg 2 (.c (.bool false))]) .ret) .skip)) (.ops [.load 44 (some 3) (.t 5),.store none 3 (.t 3) (.t 44)])))) (.ops [.bin 45 .add (.t 9) (.c (.int .i64 1)),.mov 9 (.t 45)]))))
def fn83_l1:VCode :=
(.clean [0,3,7,8,9] [2] (.block 0 (.loop [0,3,7,8,9] fn83_b0)))
def fn83:VFn:=⟨1,46,[.tmp 2],(.seq (.ops [.asg 2 (.c (.bool false))]) (.seq (.ops [.build 6 [(.int .i64 0),(.int .i64 0),(.int .i64 0)] [],.alloc 3 [(.int .i64 0),(.int .i64 0),(.int .i64 0)],.store none 3 (.t 3) (.t 6)]) (.seq (.seq (.ops [.mov 7 (.t 0),.len 8 (.t 7),.mov 9 (.c (.int .i64 0))])
   fn83_l1) (.seq (.ops [.asg 2 (.c (.bool true))]) .ret))))⟩
def fn85_b0:VCode:=(.seq (.seq (.ops [.mov 11 (.t 4),.load 12 none (.t 1),.bin 13 .lss (.t 11) (.t 12)]) (.cond (.t 13) .skip (.exit 2))) (.seq (.block 3 (.seq (.ops [.mov 16 (.t 0),.mov 17 (.t 3),.mov 18 (.t 4),.yield 19 (.t 16) [(.t 17),(.t 18)],.un 20 .not (.t 19)]) (.cond (.t 20) .ret .skip))) (.ops [.mov 14 (.t 4),.bin 15 .add (.t 14) (.c (.int .i64 1)),.asg 4 (.t 15)])))
def fn85_l1:VCode :=
(.clean [0,1,3,4,5,6] [0,1,5,6] (.block 2 (.loop [0,1,3,4,5,6] fn85_b0)))
def fn85_b2:VCode:=(.seq (.ops [.bin 7 .lss (.t 6) (.t 5)]) (.seq (.cond (.t 7) .skip (.exit 0)) (.seq (.block 1 (.seq (.ops [.mov 8 (.t 6),.asg 3 (.t 8)]) (.seq (.ops [.mov 9 (.t 3),.bin 10 .add (.t 9) (.c (.int .i64 1)),.asg 4 (.t 10)])
    fn85_l1))) (.ops [.bin 21 .add (.t 6) (.c (.int .i64 1)),.mov 6 (.t 21)]))))
def fn85_l3:VCode :=
(.clean [0,1,5,6] [] (.block 0 (.loop [0,1,5,6] fn85_b2)))
def fn85:VFn:=⟨2,22,[],(.seq (.ops [.load 5 none (.t 1),.mov 6 (.c (.int .i64 0))])
 fn85_l3)⟩
def fn87:VFn:=⟨2,10,[.tmp 4],(.seq (.ops [.asg 4 (.c (.bool false))]) (.seq (.ops [.mov 5 (.t 0),.len 6 (.t 5),.mov 7 (.t 1),.len 8 (.t 7),.bin 9 .eql (.t 6) (.t 8),.asg 4 (.t 9)]) .ret))⟩
def fn88_b0:VCode:=(.seq (.ops [.bin 13 .lss (.t 12) (.t 11)]) (.seq (.cond (.t 13) .skip (.exit 0)) (.seq (.block 1 (.seq (.ops [.iadr 14 1 (.t 10) (.t 12),.load 15 none (.t 14),.asg 6 (.t 15)]) (.seq (.ops [.mov 16 (.t 6),.call 17 74 [(.t 16)],.asg 7 (.t 17)]) (.seq (.ops [.mov 18 (.t 7),.bin 19 .neq (.t 18) (.c (.int .i64 0))]) (.cond (.t 19) (.seq (.ops [.mov 20 (.t 7),.asg 4 (.t 20)]) .ret) .skip))))) (.ops [.bin 21 .add (.t 12) (.c (.int .i64 1)),.mov 12 (.t 21)]))))
def fn88_l1:VCode :=
(.clean [0,1,10,11,12] [0,1,4] (.block 0 (.loop [0,1,10,11,12] fn88_b0)))
def fn88:VFn:=⟨2,28,[.tmp 4],(.seq (.ops [.asg 4 (.c (.int .i64 0))]) (.seq (.seq (.ops [.mov 8 (.t 0),.mov 9 (.t 1),.mksl 10 1 [(.t 8),(.t 9)],.len 11 (.t 10),.mov 12 (.c (.int .i64 0))])
  fn88_l1) (.seq (.seq (.ops [.mov 22 (.t 0),.call 23 92 [(.t 22)],.mov 24 (.t 1),.call 25 92 [(.t 24)],.call 26 20 [(.t 23),(.t 25)],.un 27 .not (.t 26)]) (.cond (.t 27) (.seq (.ops [.asg 4 (.c (.int .i64 22))]) .ret) .skip)) (.seq (.ops [.asg 4 (.c (.int .i64 0))]) .ret))))⟩
def fn89_b0:VCode:=(.ops [.asg 7 (.t 11)])
def fn89_b1:VCode:=(.block 1 (.seq (.seq (.ops [.mov 12 (.t 7),.load 13 none (.t 6),.bin 14 .eql (.t 12) (.t 13)]) (.cond (.t 14) (.ops [.load 15 none (.t 5),.load 16 none (.t 5),.len 17 (.t 16),.bin 18 .sub (.t 17) (.c (.int .i64 1)),.iadr 19 2 (.t 15) (.t 18),.fadr 20 (.t 19) 1,.load 21 none (.t 20),.bin 22 .add (.t 21) (.c (.int .i64 1)),.iadr 23 2 (.t 15) (.t 18),.fadr 24 (.t 23) 1,.store none 1 (.t 24) (.t 22)]) (.ops [.load 25 none (.t 5),.mov 26 (.t 7),.build 27 [(.int .i64 0),(.int .i64 0)] [(0,1,(.t 26)),(1,1,(.c (.int .i64 1)))],.mksl 28 2 [(.t 27)],.app 29 2 (.t 25) (.t 28),.store none 1 (.t 5) (.t 29)]))) (.ops [.mov 30 (.t 7),.bin 31 .add (.t 30) (.c (.int .i64 1)),.store none 1 (.t 6) (.t 31)])))
def fn89:VFn:=⟨2,33,[.tmp 4],(.seq (.ops [.asg 4 (.nil 2)]) (.seq (.ops [.alloc 5 [(.list 2 [])]]) (.seq (.ops [.alloc 6 [(.int .i64 0)],.store none 1 (.t 6) (.c (.int .i64 (-1)))]) (.seq (.seq (.ops [.mov 8 (.t 0),.mov 9 (.t 1),.call 10 111 [(.t 8),(.t 9)]]) (.block 0 (.rng (.t 10) [11] fn89_b0 fn89_b1))) (.seq (.ops [.load 32 none (.t 5),.asg 4 (.t 32)]) .ret)))))⟩
def fn90:VFn:=⟨1,6,[.tmp 2],(.seq (.ops [.asg 2 (.c (.int .i64 0))]) (.seq (.ops [.mov 3 (.t 0),.call 4 113 [(.t 3)],.call 5 112 [(.t 4)],.asg 2 (.t 5)]) .ret))⟩
def fn91:VFn:=⟨1,13,[.tmp 2],(.seq (.ops [.asg 2 (.c (.int .i64 0))]) (.seq (.seq (.ops [.mov 3 (.t 0),.len 4 (.t 3),.bin 5 .lss (.t 4) (.c (.int .i64 1)),.mov 6 (.t 5),.grd 6 false (.mov 7 (.t 0)),.grd 6 false (.len 8 (.t 7)),.grd 6 false (.bin 9 .gtr (.t 8) (.c (.int .i64 8))),.pick 10 (.t 6) (.c (.bool true)) (.t 9)]) (.cond (.t 10) (.seq (.ops [.asg 2 (.c (.int .i64 6))]) .ret) .skip)) (.seq (.seq (.ops [.mov 11 (.t 0),.call 12 30 [(.t 11),(.c (.func 114 []))]]) (.cond (.t 12) (.seq (.ops [.asg 2 (.c (.int .i64 2))]) .ret) .skip)) (.seq (.ops [.asg 2 (.c (.int .i64 0))]) .ret))))⟩
def fn92:VFn:=⟨1,5,[.tmp 2],(.seq (.ops [.asg 2 (.nil 1)]) (.seq (.ops [.mov 3 (.t 0),.call 4 115 [(.t 3),(.c (.func 116 []))],.asg 2 (.t 4)]) .ret))⟩
def fn106:VFn:=⟨2,12,[.tmp 4],(.seq (.ops [.asg 4 (.c (.bool false))]) (.seq (.ops [.mov 5 (.t 0),.mov 6 (.t 1),.bin 7 .geq (.t 5) (.t 6),.mov 8 (.t 7),.grd 8 true (.mov 9 (.t 0)),.grd 8 true (.bin 10 .leq (.t 9) (.c (.int .i64 1073741824))),.pick 11 (.t 8) (.t 10) (.c (.bool false)),.asg 4 (.t 11)]) .ret))⟩
def fn111:VFn:=⟨2,6,[.tmp 4],(.seq (.ops [.box 2 (.t 0),.box 3 (.t 1),.asg 4 (.c .nilf)]) (.seq (.ops [.mkf 5 117 [(.t 2),(.t 3)],.asg 4 (.t 5)]) .ret))⟩
def fn112_b0:VCode:=(.seq (.seq (.ops [.mov 12 (.t 3),.mov 13 (.t 0),.len 14 (.t 13),.bin 15 .lss (.t 12) (.t 14)]) (.cond (.t 15) .skip (.exit 0))) (.seq (.block 1 (.seq (.ops [.mov 18 (.t 0),.mov 19 (.t 3),.iadr 20 1 (.t 18) (.t 19),.load 21 none (.t 20),.bin 22 .lss (.t 21) (.c (.int .i64 1)),.mov 23 (.t 22),.grd 23 false (.mov 24 (.t 0)),.grd 23 false (.mov 25 (.t 3)),.grd 23 false (.iadr 26 1 (.t 24) (.t 25)),.grd 23 false (.load 27 none (.t 26)),.grd 23 false (.bin 28 .gtr (.t 27) (.c (.int .i64 4096))),.pick 29 (.t 23) (.c (.bool true)) (.t 28)]) (.cond (.t 29) (.seq (.ops [.asg 2 (.c (.int .i64 2))]) .ret) .skip))) (.ops [.mov 16 (.t 3),.bin 17 .add (.t 16) (.c (.int .i64 1)),.asg 3 (.t 17)])))
def fn112_l1:VCode :=
(.clean [0,3] [2] (.block 0 (.loop [0,3] fn112_b0)))
def fn112:VFn:=⟨1,30,[.tmp 2],(.seq (.ops [.asg 2 (.c (.int .i64 0))]) (.seq (.seq (.ops [.mov 4 (.t 0),.len 5 (.t 4),.bin 6 .lss (.t 5) (.c (.int .i64 1)),.mov 7 (.t 6),.grd 7 false (.mov 8 (.t 0)),.grd 7 false (.len 9 (.t 8)),.grd 7 false (.bin 10 .gtr (.t 9) (.c (.int .i64 8))),.pick 11 (.t 7) (.c (.bool true)) (.t 10)]) (.cond (.t 11) (.seq (.ops [.asg 2 (.c (.int .i64 6))]) .ret) .skip)) (.seq (.seq (.ops [.asg 3 (.c (.int .i64 0))])
   fn112_l1) (.seq (.ops [.asg 2 (.c (.int .i64 0))]) .ret))))⟩
def fn113_b0:VCode:=(.seq (.seq (.ops [.mov 5 (.t 4),.mov 6 (.t 0),.len 7 (.t 6),.bin 8 .lss (.t 5) (.t 7)]) (.cond (.t 8) .skip (.exit 0))) (.seq (.block 1 (.ops [.mov 11 (.t 3),.mov 12 (.t 0),.mov 13 (.t 4),.iadr 14 1 (.t 12) (.t 13),.load 15 none (.t 14),.len 16 (.t 15),.mksl 17 1 [(.t 16)],.app 18 1 (.t 11) (.t 17),.asg 3 (.t 18)])) (.ops [.mov 9 (.t 4),.bin 10 .add (.t 9) (.c (.int .i64 1)),.asg 4 (.t 10)])))
def fn113_l1:VCode :=
(.clean [0,3,4,18] [2,3] (.block 0 (.loop [0,3,4,18] fn113_b0)))
def fn113:VFn:=⟨1,20,[.tmp 2],(.seq (.ops [.asg 2 (.nil 1)]) (.seq (.ops [.asg 3 (.nil 1)]) (.seq (.seq (.ops [.asg 4 (.c (.int .i64 0))])
   fn113_l1) (.seq (.ops [.mov 19 (.t 3),.asg 2 (.t 19)]) .ret))))⟩
def fn114:VFn:=⟨1,9,[.tmp 2],(.seq (.ops [.asg 2 (.c (.bool false))]) (.seq (.ops [.mov 3 (.t 0),.bin 4 .lss (.t 3) (.c (.int .i64 1)),.mov 5 (.t 4),.grd 5 false (.mov 6 (.t 0)),.grd 5 false (.bin 7 .gtr (.t 6) (.c (.int .i64 4096))),.pick 8 (.t 5) (.c (.bool true)) (.t 7),.asg 2 (.t 8)]) .ret))⟩
def fn115_b0:VCode:=(.seq (.ops [.bin 14 .lss (.t 13) (.t 12)]) (.seq (.cond (.t 14) .skip (.exit 0)) (.seq (.block 1 (.seq (.ops [.iadr 15 1 (.t 11) (.t 13),.load 16 none (.t 15),.asg 7 (.t 16)]) (.ops [.mov 17 (.t 5),.mov 18 (.t 1),.mov 19 (.t 7),.callv 20 (.t 18) [(.t 19)],.mksl 21 1 [(.t 20)],.app 22 1 (.t 17) (.t 21),.asg 5 (.t 22)]))) (.ops [.bin 23 .add (.t 13) (.c (.int .i64 1)),.mov 13 (.t 23)]))))
def fn115_l1:VCode :=
(.clean [0,1,5,10,11,12,13,22] [4,5] (.block 0 (.loop [0,1,5,10,11,12,13,22] fn115_b0)))
def fn115:VFn:=⟨2,25,[.tmp 4],(.seq (.ops [.asg 4 (.nil 1)]) (.seq (.ops [.mov 8 (.t 0),.len 9 (.t 8),.make 10 (.int .i64 0) (.c (.int .i64 0)) (.t 9),.asg 5 (.t 10)]) (.seq (.seq (.ops [.mov 11 (.t 0),.len 12 (.t 11),.mov 13 (.c (.int .i64 0))])
   fn115_l1) (.seq (.ops [.mov 24 (.t 5),.asg 4 (.t 24)]) .ret))))⟩
def fn116:VFn:=⟨1,5,[.tmp 2],(.seq (.ops [.asg 2 (.c (.int .i64 0))]) (.seq (.ops [.mov 3 (.t 0),.len 4 (.t 3),.asg 2 (.t 4)]) .ret))⟩
def fn117_b0:VCode:=(.seq (.ops [.bin 8 .lss (.t 7) (.t 6)]) (.seq (.cond (.t 8) .skip (.exit 0)) (.seq (.block 1 (.seq (.ops [.mov 9 (.t 7),.asg 4 (.t 9)]) (.seq (.drw [] [] (some ([0,1,2,3,4,5,6,7,8,9,10,11],[],12,[])) [13,14] [.load 10 none (.t 1),.mov 11 (.t 4),.iadr 12 8 (.t 10) (.t 11),.load 13 (some 8) (.t 12),.load 14 none (.t 2),.mov 15 (.t 4),.iadr 16 8 (.t 14) (.t 15),.load 17 (some 8) (.t 16),.eqa 18 true 8 (.t 13) (.t 17),.mov 19 (.t 18),.grd 19 true (.mov 20 (.t 0)),.grd 19 true (.mov 21 (.t 4)),.grd 19 true (.yield 22 (.t 20) [(.t 21)]),.grd 19 true (.un 23 .not (.t 22)),.pick 24 (.t 19) (.t 23) (.c (.bool false))]) (.cond (.t 24) .ret .skip)))) (.ops [.bin 25 .add (.t 7) (.c (.int .i64 1)),.mov 7 (.t 25)]))))
def fn117_l1:VCode :=
(.clean [0,1,2,6,7] [] (.block 0 (.loop [0,1,2,6,7] fn117_b0)))
def fn117:VFn:=⟨3,26,[],(.seq (.ops [.load 5 none (.t 1),.len 6 (.t 5),.mov 7 (.c (.int .i64 0))])
 fn117_l1)⟩
def tab:List (Nat × VDef):=[(5,.code fn5),(9,.code fn9),(10,.code fn10),(13,.code fn13),(15,.code fn15),(17,.code fn17),(20,.code fn20),(21,.code fn21),(22,.code fn22),(23,.code fn23),(24,.code fn24),(26,.code fn26),(27,.code fn27),(29,.code fn29),(30,.code fn30),(34,.code fn34),(39,.code fn39),(40,.ext ofX),(41,.code fn41),(42,.code fn42),(48,.code fn48),(49,.code fn49),(50,.code fn50),(53,.ext (cloneX 3)),(56,.code fn56),(57,.code fn57),(58,.code fn58),(59,.code fn59),(60,.code fn60),(61,.code fn61),(62,.code fn62),(63,.code fn63),(64,.code fn64),(65,.code fn65),(66,.code fn66),(68,.code fn68),(69,.code fn69),(70,.code fn70),(71,.code fn71),(72,.code fn72),(73,.code fn73),(74,.code fn74),(77,.code fn77),(78,.code fn78),(83,.code fn83),(85,.code fn85),(87,.code fn87),(88,.code fn88),(89,.code fn89),(90,.code fn90),(91,.code fn91),(92,.code fn92),(106,.code fn106),(111,.code fn111),(112,.code fn112),(113,.code fn113),(114,.code fn114),(115,.code fn115),(116,.code fn116),(117,.code fn117)]
def env:Env:=fun f=>tab.lookup f
theorem env5:env 5=some (.code fn5):=rfl
theorem env20:env 20=some (.code fn20):=rfl
theorem env21:env 21=some (.code fn21):=rfl
theorem env22:env 22=some (.code fn22):=rfl
theorem env23:env 23=some (.code fn23):=rfl
theorem env24:env 24=some (.code fn24):=rfl
theorem env26:env 26=some (.code fn26):=rfl
theorem env27:env 27=some (.code fn27):=rfl
theorem env30:env 30=some (.code fn30):=rfl
theorem env56:env 56=some (.code fn56):=rfl
theorem env57:env 57=some (.code fn57):=rfl
theorem env58:env 58=some (.code fn58):=rfl
theorem env59:env 59=some (.code fn59):=rfl
theorem env60:env 60=some (.code fn60):=rfl
theorem env61:env 61=some (.code fn61):=rfl
theorem env62:env 62=some (.code fn62):=rfl
theorem env63:env 63=some (.code fn63):=rfl
theorem env65:env 65=some (.code fn65):=rfl
theorem env66:env 66=some (.code fn66):=rfl
theorem env73:env 73=some (.code fn73):=rfl
theorem env74:env 74=some (.code fn74):=rfl
theorem env77:env 77=some (.code fn77):=rfl
theorem env87:env 87=some (.code fn87):=rfl
theorem env88:env 88=some (.code fn88):=rfl
theorem env89:env 89=some (.code fn89):=rfl
theorem env90:env 90=some (.code fn90):=rfl
theorem env91:env 91=some (.code fn91):=rfl
theorem env92:env 92=some (.code fn92):=rfl
theorem env111:env 111=some (.code fn111):=rfl
theorem env112:env 112=some (.code fn112):=rfl
theorem env113:env 113=some (.code fn113):=rfl
theorem env114:env 114=some (.code fn114):=rfl
theorem env115:env 115=some (.code fn115):=rfl
theorem env116:env 116=some (.code fn116):=rfl
theorem env117:env 117=some (.code fn117):=rfl
end Go.Proofs.Ytpdfhckdmblicaa

namespace Go.Proofs.Ytpdfhckdmblicaa
open V
def vAll:=(And.intro (And.intro (And.intro (And.intro (And.intro (And.intro (And.intro (And.intro @tfin_normal (And.intro @tfin_ret @tfin_thr)) (And.intro (And.intro @den_dem @demEnd_some) (And.intro @demEnd_none @next_thr))) (And.intro (And.intro @endBlock_thr (And.intro @tail_thr @den_drs)) (And.intro (And.intro @dalts_cons @dagree_nil) (And.intro @dagree_cons @sameAs_same)))) (And.intro (And.intro (And.intro @dalt_eq (And.intro @altEnd_false @altEnd_true)) (And.intro (And.intro @pickV_nil @pickV_one) (And.intro @den_skip @List.foldl_nil.{0,0}))) (And.intro (And.intro @List.foldl_cons.{0,0} (And.intro @den_ops @den_drw)) (And.intro (And.intro @den_seq @den_cond) (And.intro @den_block @den_exit))))) (And.intro (And.intro (And.intro (And.intro @den_ret (And.intro @next_normal @next_exit)) (And.intro (And.intro @next_ret @endBlock_normal) (And.intro @endBlock_ret @endBlock_exit))) (And.intro (And.intro @tail_normal (And.intro @tail_ret @tail_exit)) (And.intro (And.intro @fin_normal @fin_ret) (And.intro @bcase_true @bcase_false)))) (And.intro (And.intro (And.intro @z_bind_some (And.intro @z_map_some @z_bind_none)) (And.intro (And.intro @z_map_none @resultsOf.eq_1) (And.intro @resultsOf.eq_2 @resultsOf.eq_3))) (And.intro (And.intro (And.intro @resultList.eq_1 @resultList.eq_2) (And.intro @resultOf.eq_1 @resultOf.eq_2)) (And.intro (And.intro @resultOf.eq_3 @zBV.eq_1) (And.intro @zBV.eq_2 @splice.eq_1)))))) (And.intro (And.intro (And.intro (And.intro (And.intro @PV.remade.eq_1 (And.intro @PV.remade.eq_2 @PV.remade.eq_3)) (And.intro (And.intro @PV.remade.eq_4 @St.freezeAt.eq_1) (And.intro @St.freezeBox.eq_1 @St.freezeCap.eq_1))) (And.intro (And.intro @St.freezeCap.eq_2 (And.intro @PV.single.eq_1 @PV.single.eq_2)) (And.intro (And.intro @dops_nil @dops_cons) (And.intro @dop_grd @dop_pick)))) (And.intro (And.intro (And.intro @dop_call (And.intro @dop_callv @op1_call)) (And.intro (And.intro @op1_callv @dop_lin) (And.intro @dop_linv @op1_lin))) (And.intro (And.intro (And.intro @op1_linv @op1_pick) (And.intro @dop_mov @dop_asg)) (And.intro (And.intro @dop_bin @dop_eqa) (And.intro @dop_eqb @dop_eqm))))) (And.intro (And.intro (And.intro (And.intro @dop_isn (And.intro @dop_cut @dop_asl)) (And.intro (And.intro @dop_asz @dop_ldz) (And.intro @dop_srt @dop_stw))) (And.intro (And.intro @dop_bldo (And.intro @dop_mvz @dop_un)) (And.intro (And.intro @dop_conv @dop_load) (And.intro @dop_fadr @dop_aadr)))) (And.intro (And.intro (And.intro @dop_iadr (And.intro @dop_fld @dop_idx)) (And.intro (And.intro @dop_sli @dop_len) (And.intro @dop_lens @dop_ext))) (And.intro (And.intro (And.intro @dop_build @dop_mn) (And.intro @dop_mkf @dop_alloc)) (And.intro (And.intro @dop_box @dop_store) (And.intro @dop_mksl @dop_make))))))) (And.intro (And.intro (And.intro (And.intro (And.intro (And.intro @dop_app (And.intro @dop_apb @dop_cpy)) (And.intro (And.intro @dop_yield @op1_mov) (And.intro @op1_asg @op1_bin))) (And.intro (And.intro @op1_eqa (And.intro @op1_eqb @op1_eqm)) (And.intro (And.intro @op1_isn @op1_cut) (And.intro @op1_asl @op1_asz)))) (And.intro (And.intro (And.intro @op1_ldz (And.intro @op1_srt @op1_stw)) (And.intro (And.intro @op1_bldo @op1_mvz) (And.intro @op1_un @op1_conv))) (And.intro (And.intro (And.intro @op1_load @op1_fadr) (And.intro @op1_aadr @op1_iadr)) (And.intro (And.intro @op1_fld @op1_idx) (And.intro @op1_sli @op1_len))))) (And.intro (And.intro (And.intro (And.intro @op1_lens (And.intro @op1_ext @op1_build)) (And.intro (And.intro @op1_mn @op1_mkf) (And.intro @op1_alloc @op1_box))) (And.intro (And.intro @op1_store (And.intro @op1_mksl @op1_make)) (And.intro (And.intro @op1_app @op1_apb) (And.intro @op1_cpy @op1_yield)))) (And.intro (And.intro (And.intro @plain.eq_1 (And.intro @plain.eq_2 @plain.eq_3)) (And.intro (And.intro @plain.eq_4 @plain.eq_5) (And.intro @plain.eq_6 @plain.eq_7))) (And.intro (And.intro (And.intro @plain.eq_8 @plain.eq_9) (And.intro @plain.eq_10 @plain.eq_11)) (And.intro (And.intro @plain.eq_12 @plain.eq_13) (And.intro @plain.eq_14 @plain.eq_15)))))) (And.intro (And.intro (And.intro (And.intro (And.intro @plain.eq_16 (And.intro @plain.eq_17 @plain.eq_18)) (And.intro (And.intro @plain.eq_19 @plain.eq_20) (And.intro @plain.eq_21 @plain.eq_22))) (And.intro (And.intro @plain.eq_23 (And.intro @plain.eq_24 @plain.eq_25)) (And.intro (And.intro @plain.eq_26 @plain.eq_27) (And.intro @plain.eq_28 @plain.eq_29)))) (And.intro (And.intro (And.intro @plain.eq_30 (And.intro @plain.eq_31 @act.eq_1)) (And.intro (And.intro @act.eq_2 @act.eq_3) (And.intro @act.eq_4 @act.eq_5))) (And.intro (And.intro (And.intro @act.eq_6 @act.eq_7) (And.intro @act.eq_8 @act.eq_9)) (And.intro (And.intro @act.eq_10 @act.eq_11) (And.intro @act.eq_12 @act.eq_13))))) (And.intro (And.intro (And.intro (And.intro @act.eq_14 (And.intro @act.eq_15 @act.eq_16)) (And.intro (And.intro @dstOf.eq_1 @dstOf.eq_2) (And.intro @dstOf.eq_3 @dstOf.eq_4))) (And.intro (And.intro @dstOf.eq_5 (And.intro @dstOf.eq_6 @dstOf.eq_7)) (And.intro (And.intro @dstOf.eq_8 @dstOf.eq_9) (And.intro @dstOf.eq_10 @dstOf.eq_11)))) (And.intro (And.intro (And.intro @dstOf.eq_12 (And.intro @dstOf.eq_13 @dstOf.eq_14)) (And.intro (And.intro @dstOf.eq_15 @dstOf.eq_16) (And.intro @dstOf.eq_17 @dstOf.eq_18))) (And.intro (And.intro (And.intro @dstOf.eq_19 @dstOf.eq_20) (And.intro @dstOf.eq_21 @dstOf.eq_22)) (And.intro (And.intro @dstOf.eq_23 @dstOf.eq_24) (And.intro @dstOf.eq_25 @dstOf.eq_26)))))))) (And.intro (And.intro (And.intro (And.intro (And.intro (And.intro (And.intro @dstOf.eq_27 (And.intro @dstOf.eq_28 @dstOf.eq_29)) (And.intro (And.intro @dstOf.eq_30 @dstOf.eq_31) (And.intro @dstOf.eq_32 @dstOf.eq_33))) (And.intro (And.intro @dstOf.eq_34 (And.intro @dstOf.eq_35 @dstOf.eq_36)) (And.intro (And.intro @dstOf.eq_37 @dstOf.eq_38) (And.intro @dstOf.eq_39 @dstOf.eq_40)))) (And.intro (And.intro (And.intro @dstOf.eq_41 (And.intro @dstOf.eq_42 @dstOf.eq_43)) (And.intro (And.intro @dstOf.eq_44 @dstOf.eq_45) (And.intro @Bool.false_eq_true @if_true.{1}))) (And.intro (And.intro (And.intro @if_false.{1} @z_ite_true) (And.intro @z_ite_false @St.get.eq_1)) (And.intro (And.intro @St.get.eq_2 @St.get.eq_3) (And.intro @St.put.eq_1 @St.pvOf.eq_1))))) (And.intro (And.intro (And.intro (And.intro @St.putRow.eq_1 (And.intro @St.consume.eq_1 @St.consume.eq_2)) (And.intro (And.intro @St.consume.eq_3 @St.freeze.eq_1) (And.intro @St.row.eq_1 @St.row.eq_2))) (And.intro (And.intro @St.row.eq_3 (And.intro @St.elems.eq_1 @St.grab.eq_1)) (And.intro (And.intro @St.grab.eq_2 @St.grab.eq_3) (And.intro @allBV.eq_1 @allBV.eq_2)))) (And.intro (And.intro (And.intro @allBV.eq_3 (And.intro @allBV.eq_4 @ownP.eq_1)) (And.intro (And.intro @ownP.eq_2 @ownCells.eq_1) (And.intro @ownCells.eq_2 @ownCells.eq_3))) (And.intro (And.intro (And.intro @ownCells.eq_4 @St.takeRow.eq_1) (And.intro @St.takeRow.eq_2 @St.takeRow.eq_3)) (And.intro (And.intro @St.setRow.eq_1 @St.setRow.eq_2) (And.intro @St.setRow.eq_3 @St.place.eq_1)))))) (And.intro (And.intro (And.intro (And.intro (And.intro @St.place.eq_2 (And.intro @St.optPv.eq_1 @St.optPv.eq_2)) (And.intro (And.intro @St.setCell.eq_1 @St.setCellRow.eq_1) (And.intro @binPV.eq_1 @binPV.eq_2))) (And.intro (And.intro @binPV.eq_3 (And.intro @binPV.eq_4 @eqMix.eq_1)) (And.intro (And.intro @eqMix.eq_2 @eqMix.eq_3) (And.intro @eqMix.eq_4 @intBin.eq_1)))) (And.intro (And.intro (And.intro @intBin.eq_2 (And.intro @intBin.eq_3 @intBin.eq_4)) (And.intro (And.intro @intBin.eq_5 @intBin.eq_6) (And.intro @intBin.eq_7 @intBin.eq_8))) (And.intro (And.intro (And.intro @intBin.eq_9 @intBin.eq_10) (And.intro @intBin.eq_11 @intBin.eq_12)) (And.intro (And.intro @intBin.eq_13 @intBin.eq_14) (And.intro @intBin.eq_15 @intBin.eq_16))))) (And.intro (And.intro (And.intro (And.intro @intBin.eq_17 (And.intro @unPV.eq_1 @unPV.eq_2)) (And.intro (And.intro @unPV.eq_3 @unPV.eq_4) (And.intro @BV.val.eq_1 @BV.val.eq_2))) (And.intro (And.intro @cells_int (And.intro @cells_bool @cells_str)) (And.intro (And.intro @cells_list @cells_func) (And.intro @cells_agg @part_one)))) (And.intro (And.intro (And.intro @part_succ (And.intro @part_more @killS_pv)) (And.intro (And.intro @killS_any @killS_row) (And.intro @killS_pbox @killS_fn))) (And.intro (And.intro (And.intro @killS_tup @killS_yld) (And.intro @killS_refs @killS_refc)) (And.intro (And.intro @killS_pels @killS_pelc) (And.intro @killc_pv @killc_any))))))) (And.intro (And.intro (And.intro (And.intro (And.intro (And.intro @killc_row (And.intro @killc_pbox @killc_fn)) (And.intro (And.intro @killc_tup @killc_yld) (And.intro @killc_refs @killc_refc))) (And.intro (And.intro @killc_pels (And.intro @killc_pelc @bound.eq_1)) (And.intro (And.intro @bound.eq_2 @bound.eq_3) (And.intro @consumeAll.eq_1 @consumeAll.eq_2)))) (And.intro (And.intro (And.intro @buildParts.eq_1 (And.intro @buildParts.eq_2 @capsOf.eq_1)) (And.intro (And.intro @capsOf.eq_2 @capOf.eq_1) (And.intro @z_bind_eq @z_pure))) (And.intro (And.intro (And.intro @z_map_cons @z_map_nil) (And.intro @z_len_cons @z_len_nil)) (And.intro (And.intro @List.append_nil.{0} @z_nil_app) (And.intro @z_cons_app @Nat.zero_add))))) (And.intro (And.intro (And.intro (And.intro @Nat.add_zero (And.intro @z_drop_zero @z_drop_succ)) (And.intro (And.intro @z_take_succ @z_take_zero) (And.intro @decide_true @decide_false))) (And.intro (And.intro @Bool.not_true (And.intro @Bool.not_false @Bool.true_eq_false)) (And.intro (And.intro @beq_self_eq_true.{0} @Bool.true_and) (And.intro @Bool.and_true @Bool.false_and)))) (And.intro (And.intro (And.intro @Bool.and_false (And.intro @Bool.true_or @Bool.false_or)) (And.intro (And.intro @Bool.or_false @Bool.or_true) (And.intro @beq_t @beq_f))) (And.intro (And.intro (And.intro @bcase_not @bcase_bne) (And.intro @List.length_map.{0,0} @z_getD_zero)) (And.intro (And.intro @z_getD_8 @z_getD_succ) (And.intro @z_get_zero @z_get_8)))))) (And.intro (And.intro (And.intro (And.intro (And.intro @z_get_succ (And.intro @z_set_zero @z_set_8)) (And.intro (And.intro @z_set_succ @dcall.eq_1) (And.intro @dcallP.eq_1 @dlin.eq_1))) (And.intro (And.intro @dlinP.eq_1 (And.intro @takeLin.eq_1 @backLin.eq_1)) (And.intro (And.intro @backLin.eq_2 @backLin.eq_3) (And.intro @linRes_row @linRes_own)))) (And.intro (And.intro (And.intro @linRes_box (And.intro @lav_row @lav_own)) (And.intro (And.intro @lav_box @lbx_row) (And.intro @lbx_own @lbx_box))) (And.intro (And.intro (And.intro @finL_normal @finL_ret) (And.intro @afterCall_false @afterCall_true)) (And.intro (And.intro @List.mapM_cons.{0,0,0} @z_mapM_nil) (And.intro @St.snapFn.eq_1 @St.snapFn.eq_2))))) (And.intro (And.intro (And.intro (And.intro @St.snap.eq_1 (And.intro @St.snap.eq_2 @St.snap.eq_3)) (And.intro (And.intro @St.snap.eq_4 @St.snap.eq_5) (And.intro @St.snap.eq_6 @z_any_cons))) (And.intro (And.intro @z_any_nil (And.intro @z_all_cons @z_all_nil)) (And.intro (And.intro @scal_int @scal_bool) (And.intro @scal_str @scal_list)))) (And.intro (And.intro (And.intro @scal_func (And.intro @St.layAll.eq_1 @St.layAll.eq_2)) (And.intro (And.intro @St.lay.eq_1 @St.lay.eq_2) (And.intro @St.lay.eq_3 @z_foldl_cons))) (And.intro (And.intro (And.intro @z_foldl_nil @St.freezeArg.eq_1) (And.intro @St.freezeArg1.eq_1 @St.freezeArg1.eq_2)) (And.intro (And.intro @St.freezeArg1.eq_3 @St.freezeArg1.eq_4) (And.intro @St.freezeArg1.eq_5 @St.freezeArg1.eq_6)))))))))
def memAll:=(And.intro (And.intro (And.intro (And.intro @List.isEmpty_nil.{0} (And.intro @val_pvs @frozen_pvs)) (And.intro @msnoc_len (And.intro @msnoc_get @msnoc_set))) (And.intro (And.intro @msnoc_take (And.intro @Int.le_refl @take_map_all)) (And.intro @Nat.le_refl (And.intro @St.freezeRows.eq_1 @BV.frozen.eq_1)))) (And.intro (And.intro (And.intro @BV.frozen.eq_2 (And.intro @List.take_length.{0} @List.take_append_drop.{0})) (And.intro @z_repl_zero (And.intro @Int.toNat_zero @true_and))) (And.intro (And.intro @and_true (And.intro @and_self @eq_self.{1})) (And.intro @z_take_zero (And.intro @List.drop_nil.{0} @List.take_nil.{0})))))
def slsAll:=(And.intro (And.intro @Nat.zero_le (And.intro @List.take_zero.{0} @List.take_nil.{0})) (And.intro (And.intro @List.take_succ_cons.{0} @List.length_cons.{0}) (And.intro @List.length_nil.{0} @Nat.le_refl)))
end Go.Proofs.Ytpdfhckdmblicaa

namespace Go.Proofs.Ytpdfhckdmblicaa.V
theorem secPV_zero:secPV zSec=[.int .u8 0,.int .u8 0,.int .u8 0,.int .u8 0,.int .u8 0,.int .u8 0,.int .u8 0,.int .u8 0]:=rfl
theorem part_sec (x:Sec):part (secPV x) 0 (some 8)=some (.agg (secPV x)):=by
 simp only [part,secPV_length,Nat.zero_add,List.drop_zero]
 rw [if_pos (Nat.le_refl _),List.take_of_length_le (by rw [secPV_length];exact Nat.le_refl _)]
theorem eqCells_u8:∀ a b:List UInt8,a.length=b.length→eqCells (a.map fun b=>.int .u8 (b.toNat:Int)) (b.map fun b=>.int .u8 (b.toNat:Int))=some (decide (a=b))
 |[],[],_=>rfl
 |x :: a,y :: b,h=>by
  simp only [List.length_cons,Nat.add_right_cancel_iff] at h
  simp only [List.map_cons,eqCells,if_pos,eqCells_u8 a b h,Option.map_some,List.cons.injEq]
  congr 1
  have:((x.toNat:Int)==(y.toNat:Int))=decide (x=y):=by
   by_cases e:x=y
   ·subst e;simp
   ·have:¬ x.toNat=y.toNat:=fun h=>e (UInt8.toNat_inj.1 h)
    simp [e];omega
  rw [this,Bool.decide_and]
 |[],_ :: _,h=>by simp at h
 |_ :: _,[],h=>by simp at h
theorem eqCells_sec (a b:Sec):eqCells (secPV a) (secPV b)=some (decide (a=b)):=by
 unfold secPV
 rw [eqCells_u8 _ _ (by simp)]
 congr 1
 apply decide_eq_decide.2
 exact ⟨fun h=>Vector.toList_inj.1 h,fun h=>by rw [h]⟩
end Go.Proofs.Ytpdfhckdmblicaa.V

namespace Go.Proofs.Ytpdfhckdmblicaa.V
def idxI {α:Type} (p:α→Bool) (l:List α):Int:=if l.any p then (l.findIdx p:Int) else -1
theorem idxI_nonneg {α:Type} (p:α→Bool) (l:List α):decide (idxI p l ≥ 0)=l.any p:=by
 unfold idxI
 cases l.any p
 ·rfl
 ·simp only [if_true];exact decide_eq_true (by omega)
def eqF {α β:Type} (eq:α→β→Bool) (l:List α) (m:List β):Bool:=decide (l.length=m.length)&&(l.zip m).all fun q=>eq q.1 q.2
--+
theorem loop73 {α:Type} {enc:α→PV} {l:List α} {p:α→Bool} {gf:Nat} {caps:List PV} (hp:∀ x∈l,cal env gf (enc x :: caps)=some [(.bool (p x),false)]) (hs:∀ x,part (enc x).cells 0 none=some (enc x)) (hl:l.length≤lim)
  {st:St} (h:st.head [0,1,7,8] st.boxes.length=some ⟨[.pv (.list 1 (l.map enc)),.pv (.func gf caps),.any,.any,.any,.any,.any,.pv (.int .i64 l.length),.pv (.int .i64 (0:Nat)),.any,.any,.any,.any,.any,.any,.any,.any,.any,.any],[],[],none⟩) :
  den env fn73_l1 st=if l.any p then some (.ret,⟨[.any,.any,.any,.any,.pv (.int .i64 (l.findIdx p)),.any,.any,.any,.any,.any,.any,.any,.any,.any,.any,.any,.any,.any,.any],[],[],none⟩) else some (.normal,⟨[.any,.any,.any,.any,.any,.any,.any,.any,.any,.any,.any,.any,.any,.any,.any,.any,.any,.any,.any],[],[],none⟩):=by
 unfold fn73_l1
 rw [clean_up l.length (fun i=>⟨[.pv (.list 1 (l.map enc)),.pv (.func gf caps),.any,.any,.any,.any,.any,.pv (.int .i64 l.length),.pv (.int .i64 i),.any,.any,.any,.any,.any,.any,.any,.any,.any,.any],[],[],none⟩)
  (fun i=>if (l.drop i).any p then some (.ret,⟨[.any,.any,.any,.any,.pv (.int .i64 ((i+(l.drop i).findIdx p:Nat):Int)),.any,.any,.any,.any,.any,.any,.any,.any,.any,.any,.any,.any,.any,.any],[],[],none⟩) else some (.normal,⟨[.any,.any,.any,.any,.any,.any,.any,.any,.any,.any,.any,.any,.any,.any,.any,.any,.any,.any,.any],[],[],none⟩)) h (fun _=>rfl) (fun _=>rfl) ?_ ?_]
 ·simp only [List.drop_zero,Nat.zero_add]
 ·intro i rb hi ih
  have hi1:=i64_next hi hl
  have F1:((i:Int)<(l.length:Int))=True:=eq_true (by omega)
  simp only [fn73_b0,F1,List.length_map,index_nat hi,List.getElem?_map,List.getElem?_eq_getElem hi,hp _ (List.getElem_mem hi),hs,vAll,reduceCtorEq,Nat.reduceEqDiff,Nat.reduceAdd,Nat.reduceLT,Nat.reduceLeDiff,Nat.beq]
  (try simp only [bcase_bind,bcase_map,tail_bcase]);refine bcase_split (fun hb=>?_) (fun hb=>?_)<;>try simp only [hb, memAll,vAll,reduceCtorEq,Nat.reduceEqDiff,Nat.reduceAdd,Nat.reduceLT,Nat.reduceLeDiff,Nat.beq]
  ·rw [List.drop_eq_getElem_cons hi]
   simp only [List.any_cons,hb,Bool.true_or,if_true,List.findIdx_cons,cond_true,Nat.add_zero]
   rfl
  ·rw [ih _ (by simp only [hi1];rfl),List.drop_eq_getElem_cons hi]
   simp only [List.any_cons,hb,Bool.false_or,List.findIdx_cons,cond_false,Nat.add_assoc,Nat.add_comm 1]
 ·intro rb
  simp only [fn73_b0,Int.lt_irrefl,vAll,reduceCtorEq,Nat.reduceEqDiff,Nat.reduceAdd,Nat.reduceLT,Nat.reduceLeDiff,Nat.beq]
  simp only [List.drop_length,List.any_nil,Bool.false_eq_true,if_false]
  rfl
theorem cal73 {α:Type} {enc:α→PV} {l:List α} {p:α→Bool} {gf:Nat} {caps:List PV} (hp:∀ x∈l,cal env gf (enc x :: caps)=some [(.bool (p x),false)]) (hs:∀ x,part (enc x).cells 0 none=some (enc x)) (hl:l.length≤lim) :
  cal env 73 [.list 1 (l.map enc),.func gf caps]=some [(.int .i64 (idxI p l),false)]:=by
 rw [cal_code env73 rfl];simp only [fn73];simp only [start,z_map_cons,z_map_nil,z_len_cons,z_len_nil,z_repl_zero,z_repl_succ,z_cons_app,z_nil_app,Nat.reduceAdd,Nat.reduceSub]
 simp only [List.length_map,vAll,reduceCtorEq,Nat.reduceEqDiff,Nat.reduceAdd,Nat.reduceLT,Nat.reduceLeDiff,Nat.beq]
 rw [loop73 hp hs hl]
 rotate_left
 ·rfl
 ·simp only [idxI]
  split<;>simp only [vAll,reduceCtorEq,Nat.reduceEqDiff,Nat.reduceAdd,Nat.reduceLT,Nat.reduceLeDiff,Nat.beq]
--+
theorem cal30 {α:Type} {enc:α→PV} {l:List α} {p:α→Bool} {gf:Nat} {caps:List PV} (hp:∀ x∈l,cal env gf (enc x :: caps)=some [(.bool (p x),false)]) (hs:∀ x,part (enc x).cells 0 none=some (enc x)) (hl:l.length≤lim) :
  cal env 30 [.list 1 (l.map enc),.func gf caps]=some [(.bool (l.any p),false)]:=by
 rw [cal_code env30 rfl];simp only [fn30];simp only [start,z_map_cons,z_map_nil,z_len_cons,z_len_nil,z_repl_zero,z_repl_succ,z_cons_app,z_nil_app,Nat.reduceAdd,Nat.reduceSub]
 simp only [cal73 hp hs hl,idxI_nonneg,vAll,reduceCtorEq,Nat.reduceEqDiff,Nat.reduceAdd,Nat.reduceLT,Nat.reduceLeDiff,Nat.beq]
--+
theorem loop20 {l m:List Int} (hlm:l.length=m.length) (hl:l.length≤lim)
  {st:St} (h:st.head [0,1,12,13] st.boxes.length=some ⟨[.pv (.list 1 (l.map eI)),.pv (.list 1 (m.map eI)),.any,.any,.any,.any,.any,.any,.any,.any,.any,.any,.pv (.int .i64 l.length),.pv (.int .i64 (0:Nat)),.any,.any,.any,.any,.any,.any,.any,.any,.any,.any,.any,.any],[],[],none⟩) :
  den env fn20_l1 st=if l=m then some (.normal,⟨[.any,.any,.any,.any,.any,.any,.any,.any,.any,.any,.any,.any,.any,.any,.any,.any,.any,.any,.any,.any,.any,.any,.any,.any,.any,.any],[],[],none⟩) else some (.ret,⟨[.any,.any,.any,.any,.pv (.bool false),.any,.any,.any,.any,.any,.any,.any,.any,.any,.any,.any,.any,.any,.any,.any,.any,.any,.any,.any,.any,.any],[],[],none⟩):=by
 unfold fn20_l1
 rw [clean_up l.length (fun i=>⟨[.pv (.list 1 (l.map eI)),.pv (.list 1 (m.map eI)),.any,.any,.any,.any,.any,.any,.any,.any,.any,.any,.pv (.int .i64 l.length),.pv (.int .i64 i),.any,.any,.any,.any,.any,.any,.any,.any,.any,.any,.any,.any],[],[],none⟩)
  (fun i=>if l.drop i=m.drop i then some (.normal,⟨[.any,.any,.any,.any,.any,.any,.any,.any,.any,.any,.any,.any,.any,.any,.any,.any,.any,.any,.any,.any,.any,.any,.any,.any,.any,.any],[],[],none⟩) else some (.ret,⟨[.any,.any,.any,.any,.pv (.bool false),.any,.any,.any,.any,.any,.any,.any,.any,.any,.any,.any,.any,.any,.any,.any,.any,.any,.any,.any,.any,.any],[],[],none⟩)) h (fun _=>rfl) (fun _=>rfl) ?_ ?_]
 ·simp only [List.drop_zero]
 ·intro i rb hi ih
  have hi1:=i64_next hi hl
  have hj:i<m.length:=by omega
  have F1:((i:Int)<(l.length:Int))=True:=eq_true (by omega)
  simp only [fn20_b0,F1,List.length_map,index_nat hi,index_nat hj,List.getElem?_map,List.getElem?_eq_getElem hi,List.getElem?_eq_getElem hj,eI,eSec,eExt,part_sec,secPV_length,eqCells_sec,eqCells,vAll,reduceCtorEq,Nat.reduceEqDiff,Nat.reduceAdd,Nat.reduceLT,Nat.reduceLeDiff,Nat.beq]
  (try simp only [bcase_bind,bcase_map,tail_bcase]);refine bcase_split (fun hb=>?_) (fun hb=>?_)<;>try simp only [hb, memAll,vAll,reduceCtorEq,Nat.reduceEqDiff,Nat.reduceAdd,Nat.reduceLT,Nat.reduceLeDiff,Nat.beq]
  ·rw [ih _ (by simp only [hi1];rfl),List.drop_eq_getElem_cons hi,List.drop_eq_getElem_cons hj]
   have e:l[i]=m[i]:=by
    revert hb
    generalize l[i]=x
    generalize m[i]=y
    first|(intro hb;simpa using hb)|(cases x;cases y;intro hb;simpa using hb)
   simp only [e,List.cons.injEq,true_and]
  ·rw [List.drop_eq_getElem_cons hi,List.drop_eq_getElem_cons hj,if_neg (fun e=>?_)]
   ·rfl
   ·have e:=(List.cons.inj e).1
    rw [e] at hb
    simp at hb
 ·intro rb
  simp only [fn20_b0,Int.lt_irrefl,vAll,reduceCtorEq,Nat.reduceEqDiff,Nat.reduceAdd,Nat.reduceLT,Nat.reduceLeDiff,Nat.beq]
  rw [List.drop_length,hlm,List.drop_length,if_pos rfl]
  rfl
theorem cal20 {l m:List Int} (hl:l.length≤lim) :
  cal env 20 [.list 1 (l.map eI),.list 1 (m.map eI)]=some [(.bool (decide (l=m)),false)]:=by
 rw [cal_code env20 rfl];simp only [fn20];simp only [start,z_map_cons,z_map_nil,z_len_cons,z_len_nil,z_repl_zero,z_repl_succ,z_cons_app,z_nil_app,Nat.reduceAdd,Nat.reduceSub]
 simp only [List.length_map,vAll,reduceCtorEq,Nat.reduceEqDiff,Nat.reduceAdd,Nat.reduceLT,Nat.reduceLeDiff,Nat.beq]
 (try simp only [bcase_bind,bcase_map,tail_bcase]);refine bcase_split (fun hb=>?_) (fun hb=>?_)<;>try simp only [hb, memAll,vAll,reduceCtorEq,Nat.reduceEqDiff,Nat.reduceAdd,Nat.reduceLT,Nat.reduceLeDiff,Nat.beq]
 ·have hlm:l.length=m.length:=by simp at hb;omega
  rw [loop20 hlm hl]
  rotate_left
  ·rfl
  ·by_cases e:l=m
   ·simp only [e,vAll,reduceCtorEq,Nat.reduceEqDiff,Nat.reduceAdd,Nat.reduceLT,Nat.reduceLeDiff,Nat.beq]
   ·simp only [e,vAll,reduceCtorEq,Nat.reduceEqDiff,Nat.reduceAdd,Nat.reduceLT,Nat.reduceLeDiff,Nat.beq]
 ·have:l≠m:=fun e=>by subst e;simp at hb
  simp only [this,vAll,reduceCtorEq,Nat.reduceEqDiff,Nat.reduceAdd,Nat.reduceLT,Nat.reduceLeDiff,Nat.beq]
--+
theorem loop77 {α β:Type} {enc:α→PV} {enc2:β→PV} {eq:α→β→Bool} {l:List α} {m:List β} {gf:Nat} {caps:List PV} (hp:∀ x∈l,∀ y∈m,cal env gf (enc x :: enc2 y :: caps)=some [(.bool (eq x y),false)]) (hs:∀ x,part (enc x).cells 0 none=some (enc x)) (hs2:∀ x,part (enc2 x).cells 0 none=some (enc2 x)) (hlm:l.length=m.length) (hl:l.length≤lim)
  {st:St} (h:st.head [0,1,2,15,16,17] st.boxes.length=some ⟨[.pv (.list 1 (l.map enc)),.pv (.list 1 (m.map enc2)),.pv (.func gf caps),.any,.any,.any,.any,.any,.any,.any,.any,.any,.any,.any,.any,.pv (.list 1 (l.map enc)),.pv (.int .i64 l.length),.pv (.int .i64 (0:Nat)),.any,.any,.any,.any,.any,.any,.any,.any,.any,.any,.any,.any,.any,.any],[],[],none⟩) :
  den env fn77_l1 st=if (l.zip m).all (fun q=>eq q.1 q.2) then some (.normal,⟨[.any,.any,.any,.any,.any,.any,.any,.any,.any,.any,.any,.any,.any,.any,.any,.any,.any,.any,.any,.any,.any,.any,.any,.any,.any,.any,.any,.any,.any,.any,.any,.any],[],[],none⟩) else some (.ret,⟨[.any,.any,.any,.any,.any,.any,.pv (.bool false),.any,.any,.any,.any,.any,.any,.any,.any,.any,.any,.any,.any,.any,.any,.any,.any,.any,.any,.any,.any,.any,.any,.any,.any,.any],[],[],none⟩):=by
 unfold fn77_l1
 rw [clean_up l.length (fun i=>⟨[.pv (.list 1 (l.map enc)),.pv (.list 1 (m.map enc2)),.pv (.func gf caps),.any,.any,.any,.any,.any,.any,.any,.any,.any,.any,.any,.any,.pv (.list 1 (l.map enc)),.pv (.int .i64 l.length),.pv (.int .i64 i),.any,.any,.any,.any,.any,.any,.any,.any,.any,.any,.any,.any,.any,.any],[],[],none⟩)
  (fun i=>if ((l.drop i).zip (m.drop i)).all (fun q=>eq q.1 q.2) then some (.normal,⟨[.any,.any,.any,.any,.any,.any,.any,.any,.any,.any,.any,.any,.any,.any,.any,.any,.any,.any,.any,.any,.any,.any,.any,.any,.any,.any,.any,.any,.any,.any,.any,.any],[],[],none⟩) else some (.ret,⟨[.any,.any,.any,.any,.any,.any,.pv (.bool false),.any,.any,.any,.any,.any,.any,.any,.any,.any,.any,.any,.any,.any,.any,.any,.any,.any,.any,.any,.any,.any,.any,.any,.any,.any],[],[],none⟩)) h (fun _=>rfl) (fun _=>rfl) ?_ ?_]
 ·simp only [List.drop_zero]
 ·intro i rb hi ih
  have hi1:=i64_next hi hl
  have hj:i<m.length:=by omega
  have F1:((i:Int)<(l.length:Int))=True:=eq_true (by omega)
  simp only [fn77_b0,F1,List.length_map,index_nat hi,index_nat hj,List.getElem?_map,List.getElem?_eq_getElem hi,List.getElem?_eq_getElem hj,hs,hs2,hp _ (List.getElem_mem hi) _ (List.getElem_mem hj),vAll,reduceCtorEq,Nat.reduceEqDiff,Nat.reduceAdd,Nat.reduceLT,Nat.reduceLeDiff,Nat.beq]
  (try simp only [bcase_bind,bcase_map,tail_bcase]);refine bcase_split (fun hb=>?_) (fun hb=>?_)<;>try simp only [hb, memAll,vAll,reduceCtorEq,Nat.reduceEqDiff,Nat.reduceAdd,Nat.reduceLT,Nat.reduceLeDiff,Nat.beq]
  ·rw [ih _ (by simp only [hi1];rfl),List.drop_eq_getElem_cons hi,List.drop_eq_getElem_cons hj]
   simp only [List.zip_cons_cons,List.all_cons,hb,Bool.true_and]
  ·rw [List.drop_eq_getElem_cons hi,List.drop_eq_getElem_cons hj]
   simp only [List.zip_cons_cons,List.all_cons,hb,Bool.false_and,Bool.false_eq_true,if_false]
   rfl
 ·intro rb
  simp only [fn77_b0,Int.lt_irrefl,vAll,reduceCtorEq,Nat.reduceEqDiff,Nat.reduceAdd,Nat.reduceLT,Nat.reduceLeDiff,Nat.beq]
  rw [List.drop_length]
  rfl
theorem cal77 {α β:Type} {enc:α→PV} {enc2:β→PV} {eq:α→β→Bool} {l:List α} {m:List β} {gf:Nat} {caps:List PV} (hp:∀ x∈l,∀ y∈m,cal env gf (enc x :: enc2 y :: caps)=some [(.bool (eq x y),false)]) (hs:∀ x,part (enc x).cells 0 none=some (enc x)) (hs2:∀ x,part (enc2 x).cells 0 none=some (enc2 x)) (hl:l.length≤lim) :
  cal env 77 [.list 1 (l.map enc),.list 1 (m.map enc2),.func gf caps]=some [(.bool (eqF eq l m),false)]:=by
 rw [cal_code env77 rfl];simp only [fn77];simp only [start,z_map_cons,z_map_nil,z_len_cons,z_len_nil,z_repl_zero,z_repl_succ,z_cons_app,z_nil_app,Nat.reduceAdd,Nat.reduceSub]
 simp only [List.length_map,vAll,reduceCtorEq,Nat.reduceEqDiff,Nat.reduceAdd,Nat.reduceLT,Nat.reduceLeDiff,Nat.beq]
 (try simp only [bcase_bind,bcase_map,tail_bcase]);refine bcase_split (fun hb=>?_) (fun hb=>?_)<;>try simp only [hb, memAll,vAll,reduceCtorEq,Nat.reduceEqDiff,Nat.reduceAdd,Nat.reduceLT,Nat.reduceLeDiff,Nat.beq]
 ·have hlm:l.length=m.length:=by simp at hb;omega
  rw [loop77 hp hs hs2 hlm hl]
  rotate_left
  ·rfl
  ·simp only [eqF,decide_eq_true hlm,Bool.true_and]
   cases (l.zip m).all (fun q=>eq q.1 q.2)<;>simp only [vAll,reduceCtorEq,Nat.reduceEqDiff,Nat.reduceAdd,Nat.reduceLT,Nat.reduceLeDiff,Nat.beq]
 ·have:¬ l.length=m.length:=fun e=>by rw [e] at hb;simp at hb
  simp only [eqF,decide_eq_false this,vAll,reduceCtorEq,Nat.reduceEqDiff,Nat.reduceAdd,Nat.reduceLT,Nat.reduceLeDiff,Nat.beq]
end Go.Proofs.Ytpdfhckdmblicaa.V
