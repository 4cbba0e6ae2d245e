/-
  Part 2 of the texts that the statement stands on.
-/
import Derived.Test.YtpcncggjmabnaaaGreatDoorZ1
import Derived.Maps.AppendAt
import Derived.Laws.CopyRow
import Derived.Laws.MakeOwn
import Derived.Lib.TrailingZeros
set_option linter.all false
namespace Go.Proofs.YtpcncggjmabnaaaGreatDoor
open Go.RowKit
section
variable {P:Program} {L:Nat} {σ σ':Nat→Nat} {T T':Tags} {st st' st1:St} {a:Act} {w w1:World} {o:Oper} {d n:Nat} {x x2:Opd} {y y2:Operand} {ok:Nat→Prop}
def Whole (w w':World):Prop:=w.heap.size≤w'.heap.size∧∀ b,b<w.heap.size→w'.heap[b]?=w.heap[b]?
theorem Whole.refl (w:World):Whole w w:=⟨Nat.le_refl _,fun _ _=>rfl⟩
theorem Whole.sees {T:Tags} {w w':World} (h:Whole w w'):Sees T w w':=⟨h.1,fun b _ hl=>h.2 b hl⟩
theorem whole_alloc (w:World) (ob:Obj):Whole w (w.alloc ob):=⟨by simp,fun b hl=>Below.heap_alloc _ _ _ hl⟩
def Does (P:Program) (L:Nat) (σ:Nat→Nat) (T:Tags) (nb:Nat) (st':St) (a:Act) (w:World) (o:Oper) (gentle:Bool):Prop :=
 ∃ nx v w1 σ' T',(execOp a.eval o).run P w=.ok nx w1∧(nx=.value v∨nx=.skip∧v=undef)∧Sim L σ' T' st' (a.put o.dst v) w1∧Chg T T' w w1∧(∀ k,k<nb→σ' k=σ k)∧(gentle=true→Whole w w1)
def upd (T:Tags) (b:Nat) (q:Owner):Tags:=fun x=>if x=b then q else T x
theorem upd_ne {b c:Nat} {q:Owner} (h:c≠b):upd T b q c=T c:=by simp [upd,h]
theorem upd_eq {b:Nat} {q:Owner}:upd T b q b=q:=by simp [upd]
theorem sees_alloc (T:Tags) (w:World) (ob:Obj):Sees T w (w.alloc ob):=⟨by simp,fun b _ hl=>Below.heap_alloc _ _ _ hl⟩
theorem chg_alloc (hT:T w.heap.size=.other) (ob:Obj) (q:Owner):Chg T (upd T w.heap.size q) w (w.alloc ob) :=
 ⟨by simp,rfl,rfl,rfl,fun b hl _=>Below.heap_alloc _ _ _ hl,fun b e=>by rw [upd_ne (fun e2=>by rw [e2,hT] at e;cases e)];exact e,fun b hl e=>by rw [upd_ne (by omega)];exact e⟩
theorem Sees.trans {w2:World} (h:Sees T w w1) (k:Sees T w1 w2):Sees T w w2:=⟨Nat.le_trans h.1 k.1,fun b hb hl=>(k.2 b hb (Nat.lt_of_lt_of_le hl h.1)).trans (h.2 b hb hl)⟩
theorem Sim.allocRow (h:Sim L σ T st a w) {sz c E:Nat} {es:List PV} {arr:Array Value} (h1:arr.size=c * sz) (h2:es.length≤c) (h3:c≤maxLen) (h4:∀ e∈es,e.cells.length=sz)
  (h5:∀ i e j x,es[i]?=some e→e.cells[j]?=some x→∃ u,arr[i * sz+j]?=some u∧u.oneCell'=true∧PRep (fun b=>T b=.ro) w x u) :
  Sim L σ (upd T w.heap.size (.row (.slot d))) (st.putRow d sz es) (a.put (some d) (.slice (some ⟨w.heap.size,0,none⟩) es.length c)) (w.alloc (.cells arr E)):=by
 have hT:=h.fresh w.heap.size (Nat.le_refl _)
 have hS:=h.sees (sees_alloc T w (.cells arr E))
 have hne:∀ c p,p≠.other→T c=p→upd T w.heap.size (.row (.slot d)) c=p:=fun c p hp e=>by rw [upd_ne (fun e2=>by subst e2;rw [hT] at e;exact hp e.symm)];exact e
 refine hS.putRow (.inr ⟨w.heap.size,c,arr,E,rfl,upd_eq,heap_alloc_new w _,h1,h2,h3,h4,fun i e j x hi hj=>?_⟩) (fun b e=>hne b _ (by simp) e) (fun b o e=>hne b _ (by simp) e) (fun b hb=>?_) (fun t s l _ _ b e=>hne b _ (by simp) e) (fun t i l _ _ _ b e=>hne b _ (by simp) e) (fun o j b e=>hne b _ (by simp) e)
 ·obtain ⟨u,k1,k2,k3⟩:=h5 i e j x hi hj
  exact ⟨u,k1,k2,k3.frame fun b e hl=>⟨hne b _ (by simp) e,Below.heap_alloc _ _ _ hl⟩⟩
 ·rw [World.size_alloc] at hb
  rw [upd_ne (by omega)];exact h.fresh b (by omega)
theorem Sim.retag (h:Sim L σ T st a w) (hn:Free st n) {p j:Nat} (hp:st.boxes.length≤p):Sim L σ (moved T (.slot n) (.cell p j)) st a w:=by
 have hw:∀ b,T b=.ro→b<w.heap.size→moved T (.slot n) (.cell p j) b=.ro∧w.heap[b]?=w.heap[b]?:=fun b e _=>⟨moved_ro e,rfl⟩
 refine ⟨h.size,fun t x u hx hu=>?_,fun q bx ho=>?_,fun b hb=>moved_other (h.fresh b hb)⟩
 ·refine (h.slots t x u hx hu).keep hw (fun s l e b hb _=>⟨moved_row (fun e2=>?_) (by simp) hb,rfl⟩) (fun l e i _ b hb _=>⟨moved_row (by simp) (by simp) hb,rfl⟩) (fun q hq _ s l e=>⟨⟨l,e⟩,rfl⟩) (Nat.le_refl _) (fun _ _=>rfl)
  cases e2
  exact hn s l (by rw [hx,e])
 ·have hq:q<st.boxes.length:=(List.getElem?_eq_some_iff.1 ho).1
  have hb:=h.boxes q bx ho
  have hT:moved T (.slot n) (.cell p j) (σ q)=T (σ q):=by
   obtain ⟨_,_,_,_,h3,_⟩:=hb
   rw [h3];split
   ·rename_i hf;exact moved_ro (by rw [h3,if_pos hf])
   ·rename_i hf;exact moved_box (by rw [h3,if_neg hf])
  exact hb.frame ⟨hT,rfl⟩ (fun k b e _=>⟨moved_row (by simp) (by intro e2;cases e2;omega) e,rfl⟩) hw
theorem Sim.addBox (h:Sim L σ T st a w) {cs:List BV} {arr:Array Value} {E:Nat} (h1:arr.size=cs.length) (h2:∀ (j:Nat) bv u,cs[j]?=some bv→arr[j]?=some u→u.oneCell'=true∧BRep T w st.boxes.length j bv u) :
  Sim L (fun k=>if k=st.boxes.length then w.heap.size else σ k) (upd T w.heap.size (.box st.boxes.length)) (({ st with boxes:=st.boxes++[(⟨false,cs⟩:Box)] }:St).put d (.pbox st.boxes.length 0)) (a.put (some d) (.pointer (some ⟨w.heap.size,0,none⟩))) (w.alloc (.cells arr E)):=by
 have hT:=h.fresh w.heap.size (Nat.le_refl _)
 have hS:=h.sees (sees_alloc T w (.cells arr E))
 have hne:∀ c p,p≠.other→T c=p→upd T w.heap.size (.box st.boxes.length) c=p:=fun c p hp e=>by rw [upd_ne (fun e2=>by subst e2;rw [hT] at e;exact hp e.symm)];exact e
 have hw:∀ c,T c=.ro→c<w.heap.size→upd T w.heap.size (.box st.boxes.length) c=.ro∧(w.alloc (.cells arr E)).heap[c]?=w.heap[c]?:=fun c e hl=>⟨hne c _ (by simp) e,Below.heap_alloc _ _ _ hl⟩
 have hσ:∀ k,k<st.boxes.length→(if k=st.boxes.length then w.heap.size else σ k)=σ k:=fun k hk=>if_neg (by omega)
 have hbb:∀ k bx,st.boxes[k]?=some bx→(st.boxes++[(⟨false,cs⟩:Box)])[k]?=some bx:=fun k bx e=>by
  rw [List.getElem?_append_left (List.getElem?_eq_some_iff.1 e).1];exact e
 -- first the variable
 have hA:Sim L (fun k=>if k=st.boxes.length then w.heap.size else σ k) (upd T w.heap.size (.box st.boxes.length)) ({ st with boxes:=st.boxes++[(⟨false,cs⟩:Box)] }:St) a (w.alloc (.cells arr E)):=by
  refine ⟨h.size,fun t av v ht hv=>?_,fun p bx ho=>?_,fun c hc=>?_⟩
  ·refine (h.slots t av v ht hv).keep hw (fun _ _ _ c e hl=>⟨hne c _ (by simp) e,Below.heap_alloc _ _ _ hl⟩) (fun _ _ _ _ c e hl=>⟨hne c _ (by simp) e,Below.heap_alloc _ _ _ hl⟩) (fun r hr hlow s l e=>?_) (by simp) hσ
   cases r with
   |slot t'=>exact ⟨⟨l,e⟩,rfl⟩
   |part t' i=>exact ⟨⟨l,e⟩,rfl⟩
   |cell p q =>
    by_cases hp:p<st.boxes.length
    ·have e2:st.row (.cell p q)=some (s,l):=by
      simp only [St.row] at e ⊢
      rw [List.getElem?_append_left hp] at e
      exact e
     refine ⟨⟨l,e2⟩,?_⟩
     obtain ⟨bx,hb,_⟩:=cell_of_row' e2
     have hl:=(h.boxes p bx hb).lt
     show (w.alloc (.cells arr E)).cell? ⟨if p=st.boxes.length then w.heap.size else σ p,q,none⟩=w.cell? ⟨σ p,q,none⟩
     rw [hσ p hp]
     exact World.cell?_of_block (w:=w) (a:=⟨σ p,q,none⟩) (Below.heap_alloc _ _ _ hl)
    ·exact absurd hlow hp
  ·by_cases hp:p<st.boxes.length
   ·rw [List.getElem?_append_left hp] at ho
    have hb:=h.boxes p bx ho
    have hlt:=hb.lt
    show BoxRep _ _ (if p=st.boxes.length then w.heap.size else σ p) p bx
    rw [hσ p hp]
    refine hb.frame ⟨upd_ne (by omega),Below.heap_alloc _ _ _ hlt⟩ (fun j c e hl=>⟨hne c _ (by simp) e,Below.heap_alloc _ _ _ hl⟩) hw
   ·have hpe:p=st.boxes.length:=by
     have:=(List.getElem?_eq_some_iff.1 ho).1
     simp at this;omega
    subst hpe
    rw [List.getElem?_append_right (Nat.le_refl _),Nat.sub_self] at ho
    have ho:=Option.some.inj ho
    subst ho
    show BoxRep _ _ (if st.boxes.length=st.boxes.length then w.heap.size else σ st.boxes.length) _ _
    rw [if_pos rfl]
    refine ⟨arr,E,heap_alloc_new w _,h1,by simp [upd_eq],(fun e=>by cases e),fun j bv u hj hu=>?_⟩
    obtain ⟨g1,g2⟩:=h2 j bv u hj hu
    exact ⟨g1,g2.frame (fun c e hl=>⟨hne c _ (by simp) e,Below.heap_alloc _ _ _ hl⟩) hw⟩
  ·rw [World.size_alloc] at hc
   rw [upd_ne (by omega)];exact h.fresh c (by omega)
 refine hA.put (by simp) ⟨?_,?_⟩
 ·show st.boxes.length<(st.boxes++[(⟨false,cs⟩:Box)]).length
  simp
 ·show Value.pointer _=Value.pointer (some ⟨if st.boxes.length=st.boxes.length then w.heap.size else σ st.boxes.length,0,none⟩)
  rw [if_pos rfl]
theorem does_alloc {T0:TypeId} {z:List PV} (h:Sim L σ T st a w) (hd:o.dst=some d) (ho:o.op=.alloc T0) (hz:zeroOk P T0 z=true) {rec env} (hp:act rec env (.alloc d z) st=some st'):Does P L σ T st.boxes.length st' a w o true:=by
 simp only [act,Option.some.injEq] at hp
 subst hp
 unfold zeroOk at hz
 split at hz
 case h_2=>cases hz
 rename_i it hit
 split at hz
 case h_2=>cases hz
 rename_i zv hzv
 have hc:=isLits_cells hz (fun b=>T b=.ro) w
 refine ⟨_,.pointer (some ⟨w.heap.size,0,none⟩),w.alloc (.cells zv.cells T0),fun k=>if k=st.boxes.length then w.heap.size else σ k,_,?_,.inl rfl,?_,chg_alloc (h.fresh _ (Nat.le_refl _)) _ (.box st.boxes.length),fun k hk=>if_neg (by omega),fun _=>whole_alloc _ _⟩
 ·simp [execOp,ho,Instr.alloc,zeroValue,typeInfo,hit,hzv,newVar,newRow,newObj,Sem.run]
  try rfl
 ·rw [hd]
  refine h.addBox (by simpa using hc.size) (fun j bv u hj hu=>?_)
  rw [List.getElem?_map] at hj
  cases e:z[j]? with
  |none=>rw [e] at hj;cases hj
  |some x =>
   rw [e] at hj;cases hj
   refine ⟨hc.one j u hu,?_⟩
   unfold zBV
   split
   ·have hc':=isLits_cells hz (fun _=>False) w
    have g:=hc'.rep j _ u e hu
    cases g with
    |nil sz a=>exact .inl ⟨rfl,a,rfl⟩
    |list _ _ _ _ _ _ h1=>exact h1.elim
   ·exact hc.rep j _ u e hu
theorem does_box {T0:TypeId} (h:Sim L σ T st a w) (hd:o.dst=some d) (ho:o.op=.box T0 y) (hm:mOpd y x=true) {rec env} (hp:act rec env (.box d x) st=some st'):Does P L σ T st.boxes.length st' a w o true:=by
 simp only [act] at hp
 obtain ⟨⟨v,own,st1⟩,h1,hp1⟩:=bind_some hp
 clear hp
 obtain ⟨T1,k1,k2,k3,k4,k5⟩:=h.consume hm h1
 have hp:=Option.some.inj hp1
 clear hp1
 have hrun:(execOp a.eval o).run P w=.ok (.value (.pointer (some ⟨w.heap.size,0,none⟩))) (w.alloc (.cells (a.eval y).cells T0)):=by
  simp [execOp,ho,Instr.box,newVar,newRow,newObj,Sem.run]
  try rfl
 have hpv:own=false∨(∀ sz es,v≠.list sz es)→Does P L σ T st.boxes.length (({ st1 with boxes:=st1.boxes++[(⟨false,v.cells.map .pv⟩:Box)] }:St).put d (.pbox st1.boxes.length 0)) a w o true:=fun hown=>by
  have hv:own=false:=by
   rcases hown with e|e
   ·exact e
   ·cases own
    ·rfl
    ·obtain ⟨sz,es,_,e2,_⟩:=k5 rfl;exact absurd e2 (e sz es)
  have hc:=(k4 hv).cells
  refine ⟨_,_,_,fun k=>if k=st1.boxes.length then w.heap.size else σ k,_,hrun,.inl rfl,?_,((k2.chg w).trans (chg_alloc (k1.fresh _ (Nat.le_refl _)) _ (.box st1.boxes.length))),fun k hk=>if_neg (by omega),fun _=>whole_alloc _ _⟩
  rw [hd]
  refine k1.addBox (by simpa using hc.size) (fun j bv u hj hu=>?_)
  rw [List.getElem?_map] at hj
  cases e:v.cells[j]? with
  |none=>rw [e] at hj;cases hj
  |some x=>rw [e] at hj;cases hj;exact ⟨hc.one j u hu,hc.rep j x u e hu⟩
 cases own with
 |false =>
  by_cases hnl:∃ sz,v=.nils sz
  ·obtain ⟨sz,rfl⟩:=hnl
   subst hp
   obtain ⟨xa,he⟩:∃ xa,a.eval y=.slice xa 0 0:=by
    have:=k4 rfl
    generalize a.eval y=u at this
    cases this;exact ⟨_,rfl⟩
   refine ⟨_,_,_,fun k=>if k=st1.boxes.length then w.heap.size else σ k,_,hrun,.inl rfl,?_,((k2.chg w).trans (chg_alloc (k1.fresh _ (Nat.le_refl _)) _ (.box st1.boxes.length))),fun k hk=>if_neg (by omega),fun _=>whole_alloc _ _⟩
   rw [hd]
   refine k1.addBox (by rw [he];rfl) (fun j bv u hj hu=>?_)
   rw [he] at hu
   cases j with
   |zero =>
    simp [Value.cells] at hj hu
    subst hj;subst hu
    exact ⟨rfl,.inl ⟨rfl,xa,rfl⟩⟩
   |succ j=>simp at hj
  have e:st'=(({ st1 with boxes:=st1.boxes++[(⟨false,v.cells.map .pv⟩:Box)] }:St).put d (.pbox st1.boxes.length 0)):=by
   rw [← hp];cases v<;>first|rfl|exact absurd ⟨_,rfl⟩ hnl
  rw [e]
  exact hpv (.inl rfl)
 |true =>
  obtain ⟨sz,es,n,rfl,hf,hr⟩:=k5 rfl
  subst hp
  have hone:(a.eval y).cells=#[a.eval y]∧(a.eval y).oneCell'=true:=by
   obtain ⟨xa,c,e,_⟩:=hr.slice
   rw [e];exact ⟨rfl,rfl⟩
  have k6:=k1.retag hf (p:=st1.boxes.length) (j:=0) (Nat.le_refl _)
  refine ⟨_,_,_,fun k=>if k=st1.boxes.length then w.heap.size else σ k,_,hrun,.inl rfl,?_,((k2.chg w).trans (((Still.moved T1 (.slot n) (.cell st1.boxes.length 0)).chg w).trans (chg_alloc (k6.fresh _ (Nat.le_refl _)) _ (.box st1.boxes.length)))),fun k hk=>if_neg (by omega),fun _=>whole_alloc _ _⟩
  rw [hd]
  refine k6.addBox (by rw [hone.1];rfl) (fun j bv u hj hu=>?_)
  rw [hone.1] at hu
  cases j with
  |zero =>
   simp at hj hu
   subst hj;subst hu
   exact ⟨hone.2,RowRep.frame (fun b e _=>⟨moved_src e,rfl⟩) (fun b e _=>⟨moved_ro e,rfl⟩) hr⟩
  |succ j=>simp at hj
end
end Go.Proofs.YtpcncggjmabnaaaGreatDoor

namespace Go.Proofs.YtpcncggjmabnaaaGreatDoor
open Go.RowKit
structure CellsL (ok:Nat→Prop) (w:World) (sz:Nat) (es:List PV) (xs:List Value):Prop where
 len:xs.length=es.length * sz
 wid:∀ e∈es,e.cells.length=sz
 rep:∀ (i:Nat) (e:PV) (j:Nat) (x:PV),es[i]?=some e→e.cells[j]?=some x→∃ u,xs[i * sz+j]?=some u∧u.oneCell'=true∧PRep ok w x u
theorem idx_lt {i n j sz:Nat} (hi:i<n) (hj:j<sz):i * sz+j<n * sz:=by
 calc i * sz+j<i * sz+sz:=by omega
  _=(i+1) * sz:=by rw [Nat.add_mul];omega
  _≤n * sz:=Nat.mul_le_mul_right _ hi
section
variable {P:Program} {L:Nat} {σ σ':Nat→Nat} {T T':Tags} {st st' st1:St} {a:Act} {w w1:World} {o:Oper} {d n:Nat} {x x2:Opd} {y y2:Operand} {ok:Nat→Prop} {sz:Nat} {es ys:List PV} {xs zs:List Value}
theorem CellsL.nil (ok:Nat→Prop) (w:World) (sz:Nat):CellsL ok w sz [] []:=⟨by simp,(fun e he=>by cases he),fun i e j x hi=>by simp at hi⟩
theorem CellsL.lt (h:CellsL ok w sz es xs) {i j:Nat} {e x:PV} (hi:es[i]?=some e) (hj:e.cells[j]?=some x):i<es.length∧j<sz:=by
 have h1:=(List.getElem?_eq_some_iff.1 hi).1
 have h2:=(List.getElem?_eq_some_iff.1 hj).1
 exact ⟨h1,by rw [h.wid e (List.mem_of_getElem? hi)] at h2;exact h2⟩
theorem CellsL.append (h:CellsL ok w sz es xs) (k:CellsL ok w sz ys zs):CellsL ok w sz (es++ys) (xs++zs):=by
 refine ⟨by simp [h.len,k.len,Nat.add_mul],fun e he=>(List.mem_append.1 he).elim (h.wid e) (k.wid e),fun i e j x hi hj=>?_⟩
 by_cases hl:i<es.length
 ·rw [List.getElem?_append_left hl] at hi
  obtain ⟨u,h1,h2,h3⟩:=h.rep i e j x hi hj
  exact ⟨u,by rw [List.getElem?_append_left (List.getElem?_eq_some_iff.1 h1).1];exact h1,h2,h3⟩
 ·rw [List.getElem?_append_right (by omega)] at hi
  obtain ⟨u,h1,h2,h3⟩:=k.rep _ e j x hi hj
  refine ⟨u,?_,h2,h3⟩
  have hm:es.length * sz≤i * sz:=Nat.mul_le_mul_right _ (by omega)
  rw [List.getElem?_append_right (by rw [h.len];omega),h.len,← h1]
  congr 1
  rw [Nat.sub_mul];omega
theorem CellsL.take (h:CellsL ok w sz es xs) (n:Nat):CellsL ok w sz (es.take n) (xs.take (n * sz)):=by
 refine ⟨?_,fun e he=>h.wid e (List.mem_of_mem_take he),fun i e j x hi hj=>?_⟩
 ·simp only [List.length_take,h.len]
  by_cases hn:n≤es.length
  ·rw [Nat.min_eq_left hn,Nat.min_eq_left (Nat.mul_le_mul_right _ hn)]
  ·have hn':es.length≤n:=by omega
   rw [Nat.min_eq_right hn',Nat.min_eq_right (Nat.mul_le_mul_right sz hn')]
 ·rw [List.getElem?_take] at hi
  split at hi
  case isFalse=>cases hi
  rename_i hin
  obtain ⟨u,h1,h2,h3⟩:=h.rep i e j x hi hj
  exact ⟨u,by rw [List.getElem?_take,if_pos (idx_lt hin (h.lt hi hj).2)];exact h1,h2,h3⟩
theorem CellsL.drop (h:CellsL ok w sz es xs) (n:Nat):CellsL ok w sz (es.drop n) (xs.drop (n * sz)):=by
 refine ⟨by simp [h.len,Nat.sub_mul],fun e he=>h.wid e (List.mem_of_mem_drop he),fun i e j x hi hj=>?_⟩
 rw [List.getElem?_drop] at hi
 obtain ⟨u,h1,h2,h3⟩:=h.rep _ e j x hi hj
 exact ⟨u,by rw [List.getElem?_drop,← h1];congr 1;rw [Nat.add_mul];omega,h2,h3⟩
theorem CellsL.frame (h:CellsL ok w sz es xs) {ok':Nat→Prop} (hf:∀ b,ok b→b<w.heap.size→ok' b∧w1.heap[b]?=w.heap[b]?):CellsL ok' w1 sz es xs :=
 ⟨h.len,h.wid,fun i e j x hi hj=>by obtain ⟨u,h1,h2,h3⟩:=h.rep i e j x hi hj;exact ⟨u,h1,h2,h3.frame hf⟩⟩
theorem CellsL.one (h:CellsL ok w sz es xs):∀ u∈xs,u.oneCell'=true:=by
 intro u hu
 obtain ⟨k,hk⟩:=List.mem_iff_getElem?.1 hu
 have hlt:=(List.getElem?_eq_some_iff.1 hk).1
 rw [h.len] at hlt
 have hpos:0<sz:=by rcases Nat.eq_zero_or_pos sz with h0|h0;(rw [h0] at hlt;simp at hlt);exact h0
 have hi:k / sz<es.length:=Nat.div_lt_of_lt_mul (by rw [Nat.mul_comm];exact hlt)
 have hm:=Nat.mod_lt k hpos
 have e1:es[k / sz]?=some es[k / sz]:=List.getElem?_eq_getElem hi
 have e2:(es[k / sz]).cells[k % sz]?=some _:=List.getElem?_eq_getElem (by rw [h.wid _ (List.getElem_mem hi)];exact hm)
 obtain ⟨v,h1,h2,h3⟩:=h.rep _ _ _ _ e1 e2
 rw [show k / sz * sz+k % sz=k by rw [Nat.mul_comm];exact Nat.div_add_mod k sz,hk] at h1
 cases h1;exact h2
theorem CellsL.ofMem {b off:Nat} (h1:∀ e∈es,e.cells.length=sz) (h2:∀ i e,es[i]?=some e→Mem ok w b (off+i * sz) e.cells) :
  ∃ xs,CellsL ok w sz es xs∧∀ k u,xs[k]?=some u→w.cell? ⟨b,off+k,none⟩=some u:=by
 let xs:List Value:=(List.range (es.length * sz)).map fun k=>(w.cell? ⟨b,off+k,none⟩).getD undef
 have hx:∀ i e j x,es[i]?=some e→e.cells[j]?=some x→∃ u,w.cell? ⟨b,off+(i * sz+j),none⟩=some u∧u.oneCell'=true∧PRep ok w x u:=fun i e j x hi hj=>by
  obtain ⟨u,g1,g2,g3⟩:=h2 i e hi j x hj
  exact ⟨u,by rw [← Nat.add_assoc];exact g1,g2,g3⟩
 have hget:∀ k,k<es.length * sz→xs[k]?=some ((w.cell? ⟨b,off+k,none⟩).getD undef):=fun k hk=>by simp [xs,hk]
 refine ⟨xs,⟨by simp [xs],h1,fun i e j x hi hj=>?_⟩,fun k u hk=>?_⟩
 ·obtain ⟨u,g1,g2,g3⟩:=hx i e j x hi hj
  have hl:i<es.length:=(List.getElem?_eq_some_iff.1 hi).1
  have hj':j<sz:=by have:=(List.getElem?_eq_some_iff.1 hj).1;rw [h1 e (List.mem_of_getElem? hi)] at this;exact this
  exact ⟨u,by rw [hget _ (idx_lt hl hj'),g1];rfl,g2,g3⟩
 ·have hlt:k<es.length * sz:=by have:=(List.getElem?_eq_some_iff.1 hk).1;simpa [xs] using this
  have hpos:0<sz:=by rcases Nat.eq_zero_or_pos sz with h0|h0;(rw [h0] at hlt;simp at hlt);exact h0
  have hi:k / sz<es.length:=Nat.div_lt_of_lt_mul (by rw [Nat.mul_comm];exact hlt)
  have e1:es[k / sz]?=some es[k / sz]:=List.getElem?_eq_getElem hi
  have e2:(es[k / sz]).cells[k % sz]?=some _:=List.getElem?_eq_getElem (by rw [h1 _ (List.getElem_mem hi)];exact Nat.mod_lt k hpos)
  obtain ⟨v,g1,_,_⟩:=hx _ _ _ _ e1 e2
  rw [show k / sz * sz+k % sz=k by rw [Nat.mul_comm];exact Nat.div_add_mod k sz] at g1
  rw [hget k hlt,g1] at hk
  rw [g1];exact hk
theorem RowRep.cellsL {r:Root} {v:Value} (h:RowRep T w r sz es v):(es=[]∧∃ xa,v=.slice xa 0 0)∨∃ b c arr E,v=.slice (some ⟨b,0,none⟩) es.length c∧T b=.row r∧w.heap[b]?=some (.cells arr E (0,0))∧arr.size=c * sz∧es.length≤c∧c≤maxLen∧CellsL (fun b=>T b=.ro) w sz es (arr.toList.take (es.length * sz)):=by
 rcases h with h|⟨b,c,arr,E,h1,h2,h3,h4,h5,h6,h7,h8⟩
 ·exact .inl h
 ·have hm:=Nat.mul_le_mul_right sz h5
  refine .inr ⟨b,c,arr,E,h1,h2,h3,h4,h5,h6,⟨by simp only [List.length_take,Array.length_toList];omega,h7,fun i e j x hi hj=>?_⟩⟩
  obtain ⟨u,g1,g2,g3⟩:=h8 i e j x hi hj
  refine ⟨u,?_,g2,g3⟩
  have hl:i<es.length:=(List.getElem?_eq_some_iff.1 hi).1
  have hj':j<sz:=by have:=(List.getElem?_eq_some_iff.1 hj).1;rw [h7 e (List.mem_of_getElem? hi)] at this;exact this
  rw [List.getElem?_take,if_pos (idx_lt hl hj'),Array.getElem?_toList];exact g1
theorem RowRep.mk {r:Root} {b c E:Nat} {arr:Array Value} (h2:T b=.row r) (h3:w.heap[b]?=some (.cells arr E (0,0))) (h4:arr.size=c * sz) (h5:es.length≤c) (h6:c≤maxLen) (hx:CellsL (fun b=>T b=.ro) w sz es xs) (hp:xs <+: arr.toList):RowRep T w r sz es (.slice (some ⟨b,0,none⟩) es.length c) :=
 .inr ⟨b,c,arr,E,rfl,h2,h3,h4,h5,h6,hx.wid,fun i e j x hi hj=>by
  obtain ⟨u,g1,g2,g3⟩:=hx.rep i e j x hi hj
  obtain ⟨t,ht⟩:=hp
  exact ⟨u,by rw [← Array.getElem?_toList,← ht,List.getElem?_append_left (List.getElem?_eq_some_iff.1 g1).1];exact g1,g2,g3⟩⟩
theorem Sim.elems (h:Sim L σ T st a w) (hm:mOpd y x=true) (he:st.elems x=some (sz,ys)):∃ xa c,a.eval y=.slice xa ys.length c∧(0<ys.length→∃ ad zs,xa=some ad∧CellsL (fun b=>T b=.ro) w sz ys zs∧∀ k u,zs[k]?=some u→w.cell? (ad.add k)=some u):=by
 unfold St.elems at he
 split at he
 case h_1 s l e =>
  simp only [Option.some.injEq,Prod.mk.injEq] at he
  obtain ⟨rfl,rfl⟩:=he
  obtain ⟨xa,c,e1,_,_,k3⟩:=(h.pv hm (show st.pvOf x=some (.list s l) by simp [St.pvOf,e])).list_inv
  refine ⟨xa,c,e1,fun hpos=>?_⟩
  obtain ⟨b,off,rfl,m1,m2,m3,m4⟩:=k3 hpos
  obtain ⟨zs,g1,g2⟩:=CellsL.ofMem m3 m4
  exact ⟨_,zs,rfl,g1,fun k u hk=>by rw [Addr.add_lit];exact g2 k u hk⟩
 case h_2 s l e =>
  simp only [Option.some.injEq,Prod.mk.injEq] at he
  obtain ⟨rfl,rfl⟩:=he
  cases x with
  |c v=>simp [St.get] at e
  |nil s' =>
   simp only [St.get,AV.row.injEq] at e
   obtain ⟨rfl,rfl⟩:=e
   rcases h.get hm with ⟨t,e1,_⟩|⟨v',e1,g⟩|⟨s,e1,g⟩
   ·cases e1
   ·cases e1
   ·exact ⟨none,0,g,fun h=>by simp at h⟩
  |t n =>
   obtain ⟨q1,q2,q3⟩:=h.rowR hm e
   obtain ⟨xa,c,e1,k1,k2,k3⟩:=q3.slice
   refine ⟨xa,c,e1,fun hpos=>?_⟩
   obtain ⟨b,rfl,m1,m2,m3,m4⟩:=k3 hpos
   obtain ⟨zs,g1,g2⟩:=CellsL.ofMem (off:=0) m3 (fun i e hi=>by rw [Nat.zero_add];exact m4 i e hi)
   exact ⟨_,zs,rfl,g1,fun k u hk=>by rw [Addr.add_lit];exact g2 k u hk⟩
 case h_3 r off len e =>
  split at he
  case h_2=>cases he
  rename_i s l hr
  split at he
  case isFalse=>cases he
  rename_i hl
  simp only [Option.some.injEq,Prod.mk.injEq] at he
  obtain ⟨rfl,rfl⟩:=he
  obtain ⟨xa,n,c,x',m1,m2,m3,m4,m0⟩:=h.refR hm e s l hr
  obtain ⟨u,m5,m6⟩:=h.rowHdr hr
  rw [m5] at m1;cases m1
  obtain ⟨xb,c',e3,m7,m8,m9⟩:=m6.slice
  cases e3
  have hlen:((l.drop off).take len).length=len:=by simp;omega
  refine ⟨x',c - off,by rw [hlen];exact m2,fun hpos=>?_⟩
  rw [hlen] at hpos
  obtain ⟨b,hb,q1,q2,q3,q4⟩:=m9 (by omega)
  have hx':x'=some ⟨b,off * s,none⟩:=by rw [m4 hpos,hb];simp [Addr.add_lit]
  obtain ⟨zs,g1,g2⟩:=CellsL.ofMem (w:=w) (ok:=fun b=>T b=.ro) (b:=b) (off:=off * s) (es:=(l.drop off).take len) (sz:=s) (fun el he=>q3 el (List.mem_of_mem_drop (List.mem_of_mem_take he))) (fun i el hi=>by
   rw [List.getElem?_take] at hi
   split at hi
   ·rw [List.getElem?_drop] at hi
    have:=q4 _ _ hi
    rwa [show off * s+i * s=(off+i) * s by rw [Nat.add_mul]]
   ·cases hi)
  exact ⟨_,zs,hx',g1,fun k u hk=>by rw [Addr.add_lit];exact g2 k u hk⟩
 case h_4=>cases he
end
end Go.Proofs.YtpcncggjmabnaaaGreatDoor

namespace Go.Proofs.YtpcncggjmabnaaaGreatDoor
open Go.RowKit
section
variable {P:Program} {L:Nat} {σ σ':Nat→Nat} {T T':Tags} {st st' st1:St} {a:Act} {w w1:World} {o:Oper} {d n:Nat} {x x2:Opd} {y y2:Operand} {ok:Nat→Prop} {sz:Nat} {es ys:List PV} {xs zs:List Value}
 {rec:VCode→St→Option (Ex × St)} {env:Env}
def elemOk (P:Program) (T0 sz:Nat):Bool :=
 match sliceE P T0 with
 |some e=>match P.info? e with
  |some i=>i.size==sz&&decide (0<sz)&&(match i.zero with|some z=>z.cells.size==sz|none=>false)&&decide (i.bytes≤131072)
  |none=>false
 |none=>false
theorem elemOk_eq {T0:Nat} (h:elemOk P T0 sz=true):∃ e i z,P.underlying T0=some (.slice e)∧P.info? e=some i∧i.size=sz∧0<sz∧i.zero=some z∧z.cells.size=sz∧i.bytes≤131072:=by
 unfold elemOk at h
 split at h
 case h_2=>cases h
 rename_i e he
 split at h
 case h_2=>cases h
 rename_i i hi
 simp only [Bool.and_eq_true,beq_iff_eq,decide_eq_true_eq] at h
 obtain ⟨⟨⟨h1,h2⟩,h3⟩,h4⟩:=h
 split at h3
 case h_2=>cases h3
 rename_i z hz
 exact ⟨e,i,z,sliceE_eq he,hi,h1,h2,hz,beq_iff_eq.1 h3,h4⟩
theorem Sim.newRowL (h:Sim L σ T st a w) {c E:Nat} {arr:Array Value} (h1:arr.size=c * sz) (h2:es.length≤c) (h3:c≤maxLen) (hx:CellsL (fun b=>T b=.ro) w sz es xs) (hp:xs <+: arr.toList) :
  Sim L σ (upd T w.heap.size (.row (.slot d))) (st.putRow d sz es) (a.put (some d) (.slice (some ⟨w.heap.size,0,none⟩) es.length c)) (w.alloc (.cells arr E)) :=
 h.allocRow h1 h2 h3 hx.wid (fun i e j x hi hj=>by
  obtain ⟨u,g1,g2,g3⟩:=hx.rep i e j x hi hj
  obtain ⟨t,ht⟩:=hp
  exact ⟨u,by rw [← Array.getElem?_toList,← ht,List.getElem?_append_left (List.getElem?_eq_some_iff.1 g1).1];exact g1,g2,g3⟩)
theorem madeCells_rep {z:PV} {zv:Value} (hz:Cells ok w z.cells zv.cells) (hpos:0<z.cells.length) (n m:Nat) (hn:n≤m):CellsL ok w z.cells.length (List.replicate n z) ((madeCells zv.cells (m * z.cells.length)).toList.take (n * z.cells.length)):=by
 have hsz:=hz.size
 refine ⟨?_,fun e he=>by rw [List.eq_of_mem_replicate he],fun i e j x hi hj=>?_⟩
 ·simp only [List.length_take,Array.length_toList,size_madeCells,List.length_replicate]
  exact Nat.min_eq_left (Nat.mul_le_mul_right _ hn)
 ·rw [List.getElem?_replicate] at hi
  split at hi
  case isFalse=>cases hi
  rename_i hin
  cases hi
  have hj':j<z.cells.length:=(List.getElem?_eq_some_iff.1 hj).1
  have hlt:=idx_lt hin hj'
  have hlt2:i * z.cells.length+j<m * z.cells.length:=idx_lt (by omega) hj'
  have e2:zv.cells[j]?=some zv.cells[j]:=Array.getElem?_eq_getElem (by omega)
  refine ⟨zv.cells[j],?_,hz.one j _ e2,hz.rep j x _ hj e2⟩
  rw [List.getElem?_take,if_pos hlt,Array.getElem?_toList]
  simp only [madeCells,Array.getElem?_map,Array.getElem?_range,hlt2,if_true,Option.map_some]
  have hmod:(i * z.cells.length+j) % zv.cells.size=j:=by rw [hsz,Nat.mul_comm,Nat.mul_add_mod,Nat.mod_eq_of_lt hj']
  rw [hmod,getElem!_pos zv.cells j (by omega)]
theorem does_make {T0 e:Nat} {z:PV} (h:Sim L σ T st a w) (hd:o.dst=some d) (ho:o.op=.makeSlice T0 y y2) (hm:mOpd y x=true) (hm2:mOpd y2 x2=true) (he:elemOk P T0 z.cells.length=true) (hse:sliceE P T0=some e) (hz:zeroOk P e z.cells=true)
  (hp:act rec env (.make d z x x2) st=some st'):Does P L σ T st.boxes.length st' a w o true:=by
 simp only [act] at hp
 obtain ⟨v1,h1,hp⟩:=bind_some hp
 cases v1<;>simp only [reduceCtorEq] at hp
 rename_i k m
 obtain ⟨v2,h2,hp⟩:=bind_some hp
 cases v2<;>simp only [reduceCtorEq] at hp
 rename_i l c
 split at hp
 case isFalse=>cases hp
 rename_i hc
 obtain ⟨c1,c2,c3⟩:=hc
 have hp:=Option.some.inj hp
 subst hp
 obtain ⟨e',i,zv,g1,g2,g3,g4,g5,g6,g7⟩:=elemOk_eq he
 have hee:e'=e:=by
  have:=sliceE_eq hse
  rw [g1] at this
  injection this with this
  injection this
 subst hee
 have hzc:Cells (fun b=>T b=.ro) w z.cells zv.cells:=by
  unfold zeroOk at hz
  rw [g2] at hz
  simp only [g5] at hz
  exact isLits_cells hz _ _
 have e1:=(h.pv hm h1).int_inv
 have e2:=(h.pv hm2 h2).int_inv
 unfold lim at c3
 obtain ⟨m,rfl⟩:=Int.eq_ofNat_of_zero_le c1
 obtain ⟨c,rfl⟩:=Int.eq_ofNat_of_zero_le (Int.le_trans c1 c2)
 have hb:(i.bytes:Int) * (c:Int)≤281474976710656:=by
  have h1:i.bytes * c≤131072 * 1073741824:=Nat.mul_le_mul g7 (by omega)
  have h2:((i.bytes * c:Nat):Int)≤281474976710656:=by omega
  rwa [Int.natCast_mul] at h2
 have hr:=run_make (P:=P) w T0 _ i zv g1 g2 g5 k l m c c1 c2 hb (by omega)
 simp only [Int.toNat_natCast] at hr
 refine ⟨_,.slice (some ⟨w.heap.size,0,none⟩) m c,w.alloc (.cells (madeCells zv.cells (c * i.size)) e'),σ,upd T w.heap.size (.row (.slot d)),?_,.inl rfl,?_,chg_alloc (h.fresh _ (Nat.le_refl _)) _ _,fun k _=>rfl,fun _=>whole_alloc _ _⟩
 ·simp [execOp,ho,e1,e2,hr]
 ·rw [hd,Int.toNat_natCast]
  have:=h.newRowL (d:=d) (E:=e') (arr:=madeCells zv.cells (c * i.size)) (sz:=z.cells.length) (es:=List.replicate m z) (c:=c) (by rw [size_madeCells,g3]) (by simp;omega) (by unfold maxLen;omega)
   (madeCells_rep hzc g4 m c (by omega)) (by rw [g3];exact List.take_prefix _ _)
  rwa [List.length_replicate] at this
theorem run_append_room' (w:World) (t ty e tb:TypeId) (i:TypeInfo) (ht:P.underlying t=some (.slice e)) (hi:P.info? e=some i)
  (g sLen sCap:Nat) (cur:Array Value) (hg:w.heap[g]?=some (.cells cur tb (0,0)))
  (a:Addr) (m c:Nat) (news:List Value) (hl:news.length=m * i.size) (hnews:∀ j u,news[j]?=some u→w.cell? (a.add j)=some u) (h1:∀ u∈news,u.oneCell'=true)
  (hroom:sLen+m≤sCap) (hfit:sLen * i.size+news.length≤cur.size) :
  (Builtin.append_ #[t,t] ty #[.slice (some ⟨g,0,none⟩) sLen sCap,.slice (some a) m c]).run P w =
   .ok (.slice (some ⟨g,0,none⟩) (sLen+m) sCap) (w.setRow g (cur.toList.take (sLen * i.size)++news++cur.toList.drop (sLen * i.size+news.length)).toArray):=by
 have hf:=run_firstCells_some (P:=P) w i.size m a m c news hl hnews
 have hst:=run_storeCells_at P g (sLen * i.size) tb news 0 cur w hg (by simpa using hfit) h1
 simp only [Nat.add_zero] at hst
 simp [Builtin.append_,run_underlying ht,sizeOf,typeInfo,hi,Builtin.lenOf,hroom,hf,Addr.add_lit,hst]
theorem run_append_none (w:World) (t ty e:TypeId) (i:TypeInfo) (ht:P.underlying t=some (.slice e)) (hi:P.info? e=some i) (xb ya:Option Addr) (sLen sCap c:Nat) (h:sLen≤sCap) :
  (Builtin.append_ #[t,t] ty #[.slice xb sLen sCap,.slice ya 0 c]).run P w=.ok (.slice xb sLen sCap) w:=by
 have h0:(Builtin.firstCells i.size 0 (.slice ya 0 c)).run P w=.ok #[] w:=by
  cases ya with
  |none=>exact run_firstCells_none w _ _ _ _
  |some ad=>exact run_firstCells_some w i.size 0 ad 0 c [] (by simp) (fun j v hj=>by simp at hj)
 cases xb<;>simp [Builtin.append_,run_underlying ht,sizeOf,typeInfo,hi,Builtin.lenOf,h,h0,storeCells]
theorem run_append {ρ:Operand→Value} {T0:TypeId} {v u:Value} {r:Value} (ho:o.op=.call { callee:=.builtin .append,args:=#[y,y2],argTypes:=#[T0,T0] }) (h1:ρ y=v) (h2:ρ y2=u) (hr:(Builtin.append_ #[T0,T0] o.type #[v,u]).run P w=.ok r w1):(execOp ρ o).run P w=.ok (.value r) w1:=by
 simp [execOp,ho,resolve,invoke,builtin,h1,h2,hr]
theorem Sim.grab (h:Sim L σ T st a w) (hm:mOpd y x=true) (hc:st.grab x=some (sz,es,st1)):Sim L σ T st1 a w∧st1.boxes.length=st.boxes.length∧∃ r v es0 c xa,RowRep T w r sz es0 v∧es=es0.take es.length∧v=.slice xa es0.length c∧a.eval y=.slice xa es.length c ∧
  (∀ t s l,st1.slots[t]?=some (.row s l)→r≠.slot t)∧(∀ (t i:Nat),r≠.part t i)∧(∀ p q bx s l,st1.boxes[p]?=some bx→bx.cs[q]?=some (.row s l)→r≠.cell p q):=by
 cases x with
 |c v=>simp [St.grab] at hc
 |nil s =>
  simp only [St.grab,Option.some.injEq,Prod.mk.injEq] at hc
  obtain ⟨rfl,rfl,rfl⟩:=hc
  have e1:a.eval y=.slice none 0 0:=by
   rcases h.get hm with ⟨t,e,_⟩|⟨v',e,_⟩|⟨s,_,g⟩
   ·cases e
   ·cases e
   ·exact g
  refine ⟨h,rfl,.slot st.slots.length,.slice none 0 0,[],0,none,RowRep.nil _ _ _ _ _,rfl,rfl,e1,fun t s l ht e=>?_,by simp,by simp⟩
  cases e
  rw [List.getElem?_eq_none (Nat.le_refl _)] at ht;cases ht
 |t n =>
  simp only [St.grab] at hc
  split at hc
  case h_1 s l e =>
   simp only [Option.some.injEq,Prod.mk.injEq] at hc
   obtain ⟨rfl,rfl,rfl⟩:=hc
   obtain ⟨q1,q2,q3⟩:=h.rowR hm e
   obtain ⟨xa,c,e1,_⟩:=q3.slice
   refine ⟨h.forget n,rfl,.slot n,_,_,c,xa,q3,by simp,e1,e1,fun t s' l' ht e=>?_,by simp,by simp⟩
   cases e
   simp only [St.put,List.getElem?_set,if_true] at ht
   split at ht<;>cases ht
  case h_3 s e =>
   simp only [Option.some.injEq,Prod.mk.injEq] at hc
   obtain ⟨rfl,rfl,rfl⟩:=hc
   have e2:st.pvOf (.t n)=some (.nils s):=by unfold St.pvOf;rw [show st.get (.t n)=.pv (.nils s) from e]
   have hr:=h.pv hm e2
   obtain ⟨xa,hx⟩:∃ xa,a.eval y=.slice xa 0 0:=by
    generalize a.eval y=u at hr
    cases hr with
    |nils _ xa=>exact ⟨xa,rfl⟩
   refine ⟨h,rfl,.slot st.slots.length,.slice xa 0 0,[],0,xa,.inl ⟨rfl,xa,rfl⟩,rfl,rfl,hx,fun t s l ht e=>?_,by simp,by simp⟩
   cases e
   rw [List.getElem?_eq_none (Nat.le_refl _)] at ht;cases ht
  case h_2 r len e =>
   split at hc
   case h_2=>cases hc
   rename_i s l hr
   split at hc
   case isFalse=>cases hc
   rename_i hl
   simp only [Option.some.injEq,Prod.mk.injEq] at hc
   obtain ⟨rfl,rfl,rfl⟩:=hc
   have e0:st.get (.t n)=.ref r 0 len:=e
   obtain ⟨xa,m,c,x',m1,m2,m3,_⟩:=h.refR hm e0 s l hr
   obtain ⟨u,m5,m6⟩:=h.rowHdr hr
   rw [m5] at m1;cases m1
   obtain ⟨xb,c',e3,_⟩:=m6.slice
   cases e3
   have hlen:(l.take len).length=len:=by simp;omega
   have h2:a.eval y=.slice xa (l.take len).length c:=by rw [hlen,m2,m3 rfl,Nat.sub_zero]
   have key:Sim L σ T (st.takeRow r) a w∧(st.takeRow r).boxes.length=st.boxes.length∧(∀ t s l,(st.takeRow r).slots[t]?=some (.row s l)→r≠.slot t)∧(∀ (t i:Nat),r≠.part t i)∧(∀ p q bx s l,(st.takeRow r).boxes[p]?=some bx→bx.cs[q]?=some (.row s l)→r≠.cell p q):=by
    cases r with
    |part t i=>simp [St.row] at hr
    |slot t =>
     refine ⟨h.forget t,rfl,fun t' s' l' ht e=>?_,by simp,by simp⟩
     cases e
     simp only [St.takeRow,St.put,List.getElem?_set,if_true] at ht
     split at ht<;>cases ht
    |cell p q =>
     obtain ⟨bx,hb,hf,hq⟩:=cell_of_row' hr
     have hst:st.takeRow (.cell p q)={ st with boxes:=st.boxes.set p { bx with cs:=bx.cs.set q (.pv .void) } }:=by simp [St.takeRow,St.setCell,hb]
     have hpl:p<st.boxes.length:=(List.getElem?_eq_some_iff.1 hb).1
     rw [hst]
     refine ⟨⟨h.size,fun t x u hx hu=>?_,fun p' bx' ho=>?_,h.fresh⟩,by simp,by simp,by simp,fun p' q' bx' s' l' ho hj e=>?_⟩
     ·refine (h.slots t x u hx hu).keep (fun b e _=>⟨e,rfl⟩) (fun _ _ _ b e _=>⟨e,rfl⟩) (fun _ _ _ _ b e _=>⟨e,rfl⟩) (fun r' hr' _ s l e=>⟨?_,rfl⟩) (by simp) (fun _ _=>rfl)
      cases r' with
      |slot t'=>exact ⟨l,e⟩
      |part t' i=>exact ⟨l,e⟩
      |cell o j =>
       simp only [St.row,List.getElem?_set] at e ⊢
       by_cases hop:p=o
       ·subst hop
        simp only [if_true,if_pos hpl,hf,Bool.false_eq_true,if_false,List.getElem?_set] at e
        simp only [hb,hf,Bool.false_eq_true,if_false]
        by_cases hqj:q=j
        ·subst hqj
         simp only [if_true] at e
         split at e
         ·rename_i hh;split at hh<;>cases hh
         ·cases e
        ·simp only [if_neg hqj] at e;exact ⟨l,e⟩
       ·simp only [if_neg hop] at e;exact ⟨l,e⟩
     ·rw [List.getElem?_set] at ho
      by_cases hop:p=p'
      ·subst hop
       simp only [if_true,if_pos hpl,Option.some.injEq] at ho
       subst ho
       obtain ⟨arr,E,h1,h2,h3,h4,h5⟩:=h.boxes p bx hb
       refine ⟨arr,E,h1,by simpa using h2,h3,by simp [hf],?_⟩
       intro j bv u hj hu
       have hj:(bx.cs.set q (.pv .void))[j]?=some bv:=hj
       rw [List.getElem?_set] at hj
       by_cases hqj:q=j
       ·subst hqj
        simp only [if_true] at hj
        split at hj
        ·cases hj
         obtain ⟨g1,_⟩:=h5 q _ u hq hu
         exact ⟨g1,.void _ g1⟩
        ·cases hj
       ·rw [if_neg hqj] at hj
        exact h5 j bv u hj hu
      ·rw [if_neg hop] at ho
       exact h.boxes p' bx' ho
     ·cases e
      rw [List.getElem?_set,if_pos rfl,if_pos hpl] at ho
      cases ho
      have hj:(bx.cs.set q (.pv .void))[q]?=some _:=hj
      rw [List.getElem?_set,if_pos rfl] at hj
      split at hj<;>cases hj
   obtain ⟨k1,k2,k3,k4,k5⟩:=key
   exact ⟨k1,k2,r,_,l,c,xa,m6,by rw [hlen],rfl,h2,k3,k4,k5⟩
  case h_4=>cases hc
end
end Go.Proofs.YtpcncggjmabnaaaGreatDoor

namespace Go.Proofs.YtpcncggjmabnaaaGreatDoor
open Go.RowKit
section
variable {P:Program} {L:Nat} {σ σ':Nat→Nat} {T T':Tags} {st st' st1:St} {a:Act} {w w1:World} {o:Oper} {d n:Nat} {x x2:Opd} {y y2:Operand} {ok:Nat→Prop} {sz:Nat} {es ys:List PV} {xs zs:List Value}
 {rec:VCode→St→Option (Ex × St)} {env:Env}
structure Unheld (st:St) (r:Root):Prop where
 slot:∀ (t:Nat) s l,st.slots[t]?=some (.row s l)→r≠.slot t
 part:∀ (t i:Nat),r≠.part t i
 cell:∀ (p q:Nat) bx s l,st.boxes[p]?=some bx→bx.cs[q]?=some (.row s l)→r≠.cell p q
def gone (T:Tags) (r:Root):Tags:=fun b=>if T b=.row r then .other else T b
theorem gone_ne {r:Root} {b:Nat} {q:Owner} (hq:q≠.row r) (h:T b=q):gone T r b=q:=by
 unfold gone;rw [if_neg (by rw [h];exact hq)];exact h
theorem gone_eq {r:Root} {b:Nat} (h:T b=.row r):gone T r b=.other:=by unfold gone;rw [if_pos h]
theorem Sim.unhold (h:Sim L σ T st a w) {r:Root} (hr:Unheld st r):Sim L σ (gone T r) st a w:=by
 have hw:∀ b,T b=.ro→b<w.heap.size→gone T r b=.ro∧w.heap[b]?=w.heap[b]?:=fun b e _=>⟨gone_ne (by simp) e,rfl⟩
 refine ⟨h.size,fun t x u hx hu=>?_,fun p bx ho=>?_,fun b hb=>gone_ne (by simp) (h.fresh b hb)⟩
 ·refine (h.slots t x u hx hu).keep hw (fun s l e b hb _=>⟨gone_ne (fun e2=>hr.slot t s l (by rw [hx,e]) (by injection e2 with e2;exact e2.symm)) hb,rfl⟩) (fun l e i _ b hb _=>⟨gone_ne (fun e2=>hr.part t i (by injection e2 with e2;exact e2.symm)) hb,rfl⟩) (fun q hq _ s l e=>⟨⟨l,e⟩,rfl⟩) (Nat.le_refl _) (fun _ _=>rfl)
 ·obtain ⟨arr,E,h1,h2,h3,h4,h5⟩:=h.boxes p bx ho
  refine ⟨arr,E,h1,h2,?_,h4,fun j bv u hj hu=>?_⟩
  ·split
   ·rename_i hf;exact gone_ne (by simp) (by rw [h3,if_pos hf])
   ·rename_i hf;exact gone_ne (by simp) (by rw [h3,if_neg hf])
  ·obtain ⟨g1,g2⟩:=h5 j bv u hj hu
   refine ⟨g1,?_⟩
   cases bv with
   |pv v=>exact PRep.frame hw g2
   |row s l=>exact RowRep.frame (fun b e _=>⟨gone_ne (fun e2=>hr.cell p j bx s l ho hj (by injection e2 with e2;exact e2.symm)) e,rfl⟩) hw g2
theorem RowRep.take {r:Root} {xa:Option Addr} {c:Nat} (h:RowRep T w r sz es (.slice xa es.length c)) (k:Nat):RowRep T w r sz (es.take k) (.slice xa (es.take k).length c):=by
 rcases h.cellsL with ⟨rfl,x,e⟩|⟨b,c',arr,E,e,h2,h3,h4,h5,h6,h7⟩
 ·injection e with e1 e2 e3
  subst e1;subst e3
  rw [List.take_nil]
  exact RowRep.nil _ _ _ _ _
 ·injection e with e1 e2 e3
  subst e1;subst e3
  exact RowRep.mk h2 h3 h4 (Nat.le_trans (List.length_take_le' _ _) h5) h6 (h7.take k) (by rw [List.take_take];exact List.take_prefix _ _)
theorem sees_setRow {r:Root} {b:Nat} (hT:T b=.row r) (cs:Array Value):Sees (gone T r) w (w.setRow b cs) :=
 ⟨by simp [World.setRow],fun c hc _=>setRow_other w b c cs (fun e=>by subst e;exact hc (gone_eq hT))⟩
theorem does_appC {T0:TypeId} (h:Sim L σ T st a w) (hd:o.dst=some d) (ho:o.op=.call { callee:=.builtin .append,args:=#[y,y2],argTypes:=#[T0,T0] }) (hm:mOpd y x=true) (hm2:mOpd y2 x2=true) {sy:Nat} (he:elemOk P T0 sy=true)
  {es ys:List PV} {st1:St} (h1:st.elems x2=some (sy,ys)) (h2:st.grab x=some (sy,es,st1)) (hlim:es.length+ys.length≤5864062014805) (hB:∀ e i,P.underlying T0=some (.slice e)→P.info? e=some i→(es.length+ys.length) * i.bytes≤140737488355328) :
  Does P L σ T st.boxes.length (st1.putRow d sy (es++ys)) a w o false:=by
 obtain ⟨e,i,z,g1,g2,g3,g4,g5,g6,g7⟩:=elemOk_eq he
 obtain ⟨ya,yc,e1,e2⟩:=h.elems hm2 h1
 obtain ⟨k1,k2,r,v,es0,c,xa,k3,k4,k5,k6,k7,k8,k9⟩:=h.grab hm h2
 have hun:Unheld st1 r:=⟨k7,k8,k9⟩
 have hlen:es.length≤es0.length:=by rw [k4];exact List.length_take_le' _ _
 subst k5
 have hrow:=k3.take es.length
 rw [← k4] at hrow
 have hcc:es.length≤c∧c≤maxLen:=by obtain ⟨_,_,e3,q1,q2,_⟩:=hrow.slice;injection e3 with _ _ e3;omega
 have hS:=k1.unhold hun
 by_cases hm0:ys.length=0
 ·-- nothing is appended
  have hy0:ys=[]:=List.eq_nil_of_length_eq_zero hm0
  subst hy0
  refine ⟨_,_,w,σ,moved T r (.slot d),run_append ho k6 e1 (run_append_none w T0 _ e i g1 g2 xa ya es.length c yc hcc.1),.inl rfl,?_,(Still.moved T r (.slot d)).chg w,fun _ _=>rfl,fun e=>by cases e⟩
  rw [hd,List.append_nil]
  refine hS.putRow (RowRep.frame (fun b e _=>⟨moved_src e,rfl⟩) (fun b e _=>⟨moved_ro e,rfl⟩) hrow) (fun b e=>?_) (fun b o e=>?_) (fun b hb=>moved_other (h.fresh b hb)) (fun t s l ht hs b e=>?_) (fun t j l ht hs hj b e=>?_) (fun o j b e=>?_)
  ·unfold gone at e;split at e;cases e;exact moved_ro e
  ·unfold gone at e;split at e;cases e;exact moved_box e
  ·unfold gone at e;split at e;cases e;exact moved_row (Ne.symm (hun.slot t s l hs)) (by simpa using ht) e
  ·unfold gone at e;split at e;cases e;exact moved_row (Ne.symm (hun.part t j)) (by simp) e
  ·unfold gone at e;split at e;cases e
   rename_i hne
   exact moved_row (fun e2=>hne (by rw [e,e2])) (by simp) e
 ·obtain ⟨ad,zs,rfl,e3,e4⟩:=e2 (by omega)
  have hzl:zs.length=ys.length * i.size:=by rw [g3];exact e3.len
  by_cases hroom:es.length+ys.length≤c
  ·-- there is room
   rcases hrow.cellsL with ⟨_,x0,ex⟩|⟨b,c',arr,E,ex,q2,q3,q4,q5,q6,q7⟩
   ·injection ex with _ _ ex;omega
   ·injection ex with ex1 _ ex3
    subst ex1;subst ex3
    have hfit:es.length * i.size+zs.length≤arr.size:=by rw [hzl,q4,g3,← Nat.add_mul];exact Nat.mul_le_mul_right _ hroom
    have hr:=run_append_room' (P:=P) w T0 o.type e E i g1 g2 b es.length c arr q3 ad ys.length yc zs hzl e4 e3.one hroom hfit
    obtain ⟨arr',harr⟩:∃ arr',arr'=(arr.toList.take (es.length * i.size)++zs++arr.toList.drop (es.length * i.size+zs.length)).toArray:=⟨_,rfl⟩
    rw [← harr] at hr
    have hT1:∀ b',upd (gone T r) b (.row (.slot d)) b'=.row (.slot d)∨upd (gone T r) b (.row (.slot d)) b'=gone T r b':=fun b'=>by
     by_cases e:b'=b
     ·subst e;exact .inl upd_eq
     ·exact .inr (upd_ne e)
    have hgb:gone T r b=.other:=gone_eq q2
    have hne:∀ c p,p≠.other→gone T r c=p→upd (gone T r) b (.row (.slot d)) c=p:=fun c p hp e=>by rw [upd_ne (fun e2=>by subst e2;rw [hgb] at e;exact hp e.symm)];exact e
    have hbl:b<w.heap.size:=(Array.getElem?_eq_some_iff.1 q3).1
    refine ⟨_,_,w.setRow b arr',σ,upd (gone T r) b (.row (.slot d)),run_append ho k6 e1 hr,.inl rfl,?_,?_,fun _ _=>rfl,fun e=>by cases e⟩
    ·rw [hd]
     have hS1:=hS.sees (sees_setRow q2 arr')
     have hsame:∀ b',T b'=.ro→b'<w.heap.size→upd (gone T r) b (.row (.slot d)) b'=.ro∧(w.setRow b arr').heap[b']?=w.heap[b']?:=fun b' e _=>⟨hne b' _ (by simp) (gone_ne (by simp) e),setRow_other w b b' arr' (fun e2=>by subst e2;rw [q2] at e;cases e)⟩
     have hnew:=(q7.frame hsame).append (e3.frame hsame)
     rw [← List.length_append]
     refine hS1.putRow (RowRep.mk (c:=c) (E:=E) (arr:=arr') upd_eq (setRow_heap w b arr arr' E (0,0) q3) ?_ (by simpa using hroom) q6 hnew ?_) (fun b' e=>hne b' _ (by simp) e) (fun b' o e=>hne b' _ (by simp) e) (fun b' hb'=>?_) (fun t s l ht hs b' e=>hne b' _ (by simp) e) (fun t j l ht hs hj b' e=>hne b' _ (by simp) e) (fun o j b' e=>hne b' _ (by simp) e)
     ·rw [harr];simp only [List.size_toArray,List.length_append,List.length_take,List.length_drop,Array.length_toList];omega
     ·rw [harr,g3];exact ⟨_,rfl⟩
     ·rw [show (w.setRow b arr').heap.size=w.heap.size by simp [World.setRow]] at hb'
      rw [upd_ne (by omega)];exact gone_ne (by simp) (h.fresh b' hb')
    ·refine ⟨by simp [World.setRow],rfl,rfl,rfl,fun b' _ e=>setRow_other w b b' arr' (fun e2=>by subst e2;rw [q2] at e;rcases e with e|e<;>cases e),fun b' e=>hne b' _ (by simp) (gone_ne (by simp) e),fun b' _ e=>?_⟩
     rw [upd_ne (fun e2=>by subst e2;rw [q2] at e;cases e)];exact gone_ne (by simp) e
  ·-- a new row
   have hbytes:(es.length+ys.length) * i.bytes≤140737488355328:=hB e i g1 g2
   have hsm:es.length+ys.length≤maxLen:=by unfold maxLen;omega
   have hold:∃ olds,CellsL (fun b=>T b=.ro) w sy es olds∧∀ (ad:Addr),xa=some ad→∀ j u,olds[j]?=some u→w.cell? (ad.add j)=some u:=by
    rcases hrow.cellsL with ⟨e0,x0,ex⟩|⟨b,c',arr,E,ex,q2,q3,q4,q5,q6,q7⟩
    ·rw [e0];exact ⟨[],CellsL.nil _ _ _,fun ad _ j u hj=>by simp at hj⟩
    ·injection ex with ex1 _ _
     refine ⟨_,q7,fun ad' hx j u hj=>?_⟩
     rw [ex1] at hx;cases hx
     rw [Addr.add_lit,Nat.zero_add,cell_of_row w b j arr E (0,0) q3]
     rw [List.getElem?_take] at hj
     split at hj
     ·simpa using hj
     ·cases hj
   obtain ⟨olds,o1,o2⟩:=hold
   have hdr:Sim L σ T st1 a w.drew:=k1.sees ⟨Nat.le_refl _,fun _ _ _=>rfl⟩
   have hcap:=grownCap_ge w (es.length+ys.length) c e
   have hcm:grownCap w (es.length+ys.length) c e≤maxLen:=grownCap_le_maxLen w (es.length+ys.length) c e hsm
   obtain ⟨G,hG⟩:∃ G,G=grownCap w (es.length+ys.length) c e:=⟨_,rfl⟩
   have hr:(Builtin.append_ #[T0,T0] o.type #[.slice xa es.length c,.slice (some ad) ys.length yc]).run P w=.ok (.slice (some ⟨w.heap.size,0,none⟩) (es.length+ys.length) G) (w.drew.alloc (.cells (olds.toArray++zs.toArray++Builtin.zeroCells z.cells (G - (es.length+ys.length))) e)):=by
    rw [hG]
    cases xa with
    |none =>
     have he0:es.length=0∧c=0:=by
      rcases hrow.cellsL with ⟨e0,x0,ex⟩|⟨b,c',arr,E,ex,_⟩
      ·injection ex with _ ex2 ex3;exact ⟨ex2,ex3⟩
      ·injection ex with ex1 _ _;cases ex1
     obtain ⟨e01,e02⟩:=he0
     have hol:olds=[]:=List.eq_nil_of_length_eq_zero (by rw [o1.len,e01,Nat.zero_mul])
     subst hol
     subst e02
     have:=run_append_nil (P:=P) w T0 o.type e i z g1 g2 g5 ad ys.length yc zs hzl e4 (by omega) (by omega) (by rw [e01,Nat.zero_add] at hbytes;omega)
     rw [e01,Nat.zero_add]
     simpa using this
    |some ab=>exact run_append_grow (P:=P) w T0 o.type e i z g1 g2 g5 ab es.length c olds (by rw [g3];exact o1.len) (o2 ab rfl) ad ys.length yc zs hzl e4 (by omega) (by omega) (growslice_fits (by omega) hbytes)
   refine ⟨_,_,_,σ,upd T w.heap.size (.row (.slot d)),run_append ho k6 e1 hr,.inl rfl,?_,?_,fun _ _=>rfl,fun e=>by cases e⟩
   ·rw [hd]
    have hxs:=o1.append e3
    have key:=hdr.newRowL (d:=d) (E:=e) (c:=G) (arr:=olds.toArray++zs.toArray++Builtin.zeroCells z.cells (G - (es.length+ys.length))) (by
     simp only [Array.size_append,List.size_toArray,size_zeroCells,g6,o1.len,e3.len,← Nat.add_mul]
     congr 1;omega) (by rw [List.length_append];omega) (by omega) (hxs.frame fun b e _=>⟨e,rfl⟩) ⟨_,by simp only [Array.toList_append];rfl⟩
    rw [List.length_append] at key
    exact key
   ·have:=chg_alloc (w:=w.drew) (T:=T) (hdr.fresh _ (Nat.le_refl _)) (.cells (olds.toArray++zs.toArray++Builtin.zeroCells z.cells (G - (es.length+ys.length))) e) (.row (.slot d))
    exact (show Chg T T w w.drew from ⟨Nat.le_refl _,rfl,rfl,rfl,fun _ _ _=>rfl,fun _ e=>e,fun _ _ e=>e⟩).trans this
theorem does_app {T0:TypeId} (h:Sim L σ T st a w) (hd:o.dst=some d) (ho:o.op=.call { callee:=.builtin .append,args:=#[y,y2],argTypes:=#[T0,T0] }) (hm:mOpd y x=true) (hm2:mOpd y2 x2=true) (he:elemOk P T0 sz=true)
  (hp:act rec env (.app d sz x x2) st=some st'):Does P L σ T st.boxes.length st' a w o false:=by
 simp only [act] at hp
 obtain ⟨⟨sy,ys⟩,h1,hp1⟩:=bind_some hp
 clear hp
 obtain ⟨⟨sx,es,st1⟩,h2,hp2⟩:=bind_some hp1
 clear hp1
 simp only at hp2
 split at hp2
 case isFalse=>cases hp2
 rename_i hc
 obtain ⟨rfl,rfl,hlim⟩:=hc
 have hp:=Option.some.inj hp2
 clear hp2
 subst hp
 unfold lim at hlim
 obtain ⟨e,i,z,g1,g2,g3,g4,g5,g6,g7⟩:=elemOk_eq he
 refine does_appC h hd ho hm hm2 he h1 h2 (by omega) fun e' i' q1 q2=>?_
 rw [g1] at q1;cases q1
 rw [g2] at q2;cases q2
 exact Nat.le_trans (Nat.mul_le_mul hlim g7) (by omega)
def elemOkB (P:Program) (T0:Nat):Bool:=elemOk P T0 1&&match sliceE P T0 with
 |some e=>match P.info? e with
  |some i=>decide (i.bytes≤24)
  |none=>false
 |none=>false
theorem does_apb {T0:TypeId} (h:Sim L σ T st a w) (hd:o.dst=some d) (ho:o.op=.call { callee:=.builtin .append,args:=#[y,y2],argTypes:=#[T0,T0] }) (hm:mOpd y x=true) (hm2:mOpd y2 x2=true) (he:elemOkB P T0=true)
  (hp:act rec env (.apb d x x2) st=some st'):Does P L σ T st.boxes.length st' a w o false:=by
 simp only [act] at hp
 obtain ⟨⟨sy,ys⟩,h1,hp1⟩:=bind_some hp
 clear hp
 obtain ⟨⟨sx,es,st1⟩,h2,hp2⟩:=bind_some hp1
 clear hp1
 simp only at hp2
 split at hp2
 case isFalse=>cases hp2
 rename_i hc
 obtain ⟨rfl,rfl,hlim⟩:=hc
 have hp:=Option.some.inj hp2
 clear hp2
 subst hp
 unfold limB at hlim
 unfold elemOkB at he
 rw [Bool.and_eq_true] at he
 obtain ⟨he,hb⟩:=he
 refine does_appC h hd ho hm hm2 he h1 h2 hlim fun e' i' q1 q2=>?_
 have q0:sliceE P T0=some e':=by unfold sliceE;rw [q1]
 rw [q0] at hb
 simp only [q2,decide_eq_true_eq] at hb
 exact Nat.le_trans (Nat.mul_le_mul hlim hb) (by omega)
end
end Go.Proofs.YtpcncggjmabnaaaGreatDoor

namespace Go.Proofs.YtpcncggjmabnaaaGreatDoor
open Go.RowKit
section
variable {P:Program} {L:Nat} {σ σ':Nat→Nat} {T T':Tags} {st st' st1:St} {a:Act} {w w1:World} {o:Oper} {d n:Nat} {x x2:Opd} {y y2:Operand} {ok:Nat→Prop} {sz:Nat} {es es' ys:List PV} {xs zs:List Value}
 {rec:VCode→St→Option (Ex × St)} {env:Env}
theorem Sim.setRowIn (h:Sim L σ T st a w) {r:Root} (hr:st.row r=some (sz,es)) {b c E:Nat} {arr arr':Array Value} (hv:hdr σ a w r=some (.slice (some ⟨b,0,none⟩) es.length c)) (hT:T b=.row r) (hb:w.heap[b]?=some (.cells arr E (0,0)))
  (hs:arr'.size=arr.size) (hl:es'.length=es.length) (hrep:RowRep T (w.setRow b arr') r sz es' (.slice (some ⟨b,0,none⟩) es'.length c)):Sim L σ T (st.setRow r sz es') a (w.setRow b arr')∧Chg T T w (w.setRow b arr'):=by
 have hoth:∀ q,q≠.row r→∀ b',T b'=q→(w.setRow b arr').heap[b']?=w.heap[b']?:=fun q hq b' e=>setRow_other w b b' arr' (fun e2=>by subst e2;rw [hT] at e;exact hq e.symm)
 have hw:∀ b',T b'=.ro→b'<w.heap.size→T b'=.ro∧(w.setRow b arr').heap[b']?=w.heap[b']?:=fun b' e _=>⟨e,hoth _ (by simp) b' e⟩
 have hsz:(w.setRow b arr').heap.size=w.heap.size:=by simp [World.setRow]
 have hbox:∀ p bx,st.boxes[p]?=some bx→(w.setRow b arr').heap[σ p]?=w.heap[σ p]?:=fun p bx hp=>by
  obtain ⟨_,_,_,_,h3,_⟩:=h.boxes p bx hp
  refine hoth _ ?_ _ h3
  split<;>simp
 have hhdr:∀ q s l,st.row q=some (s,l)→hdr σ a (w.setRow b arr') q=hdr σ a w q:=fun q s l e=>by
  cases q with
  |slot t=>rfl
  |part t i=>rfl
  |cell p j =>
   obtain ⟨bx,h1,_⟩:=cell_of_row' e
   exact World.cell?_of_block (w:=w) (a:=⟨σ p,j,none⟩) (hbox p bx h1)
 refine ⟨?_,⟨by omega,rfl,rfl,rfl,fun b' _ e=>?_,fun _ e=>e,fun _ _ e=>e⟩⟩
 ·cases r with
  |part t i=>simp [St.row] at hr
  |slot t =>
   have hst:=slot_of_row hr
   have htl:=(List.getElem?_eq_some_iff.1 hst).1
   have hrow:∀ q s l,(st.put t (.row sz es')).row q=some (s,l)→∃ l0,st.row q=some (s,l0):=fun q s l e=>by
    by_cases hq:q=.slot t
    ·subst hq
     have e2:=slot_of_row e
     simp only [St.put,List.getElem?_set,if_true,if_pos htl,Option.some.injEq,AV.row.injEq] at e2
     obtain ⟨rfl,rfl⟩:=e2
     exact ⟨es,hr⟩
    ·rw [row_put_ne hq] at e;exact ⟨l,e⟩
   refine ⟨by simp [St.setRow,St.put,h.size],fun t' x u hx hu=>?_,fun p bx ho=>?_,fun b' hb'=>h.fresh b' (by omega)⟩
   ·rcases getElem_set_slots hx with ⟨rfl,rfl,_⟩|⟨h1,h2⟩
    ·have:u=.slice (some ⟨b,0,none⟩) es'.length c:=by
      rw [hl];exact Option.some.inj (hu.symm.trans hv)
     rw [this];exact hrep
    ·refine (h.slots t' x u h2 hu).keep hw (fun s l e b' e2 _=>⟨e2,hoth _ (by simpa using h1) b' e2⟩) (fun l e i _ b' e2 _=>⟨e2,hoth _ (by simp) b' e2⟩) (fun q hq _ s l e=>?_) (Nat.le_refl _) (fun _ _=>rfl)
     obtain ⟨l0,e0⟩:=hrow q s l e
     exact ⟨⟨l0,e0⟩,hhdr q s l0 e0⟩
   ·exact (h.boxes p bx ho).frame ⟨rfl,hbox p bx ho⟩ (fun j b' e _=>⟨e,hoth _ (by simp) b' e⟩) hw
  |cell p q =>
   obtain ⟨bx0,hbx0,hfz,hq⟩:=cell_of_row' hr
   have hst:st.setRow (.cell p q) sz es'={ st with boxes:=st.boxes.set p { bx0 with cs:=bx0.cs.set q (.row sz es') } }:=by simp [St.setRow,St.setCell,hbx0]
   have hpl:p<st.boxes.length:=(List.getElem?_eq_some_iff.1 hbx0).1
   have hql:q<bx0.cs.length:=(List.getElem?_eq_some_iff.1 hq).1
   rw [hst]
   refine ⟨h.size,fun t x u hx hu=>?_,fun p' bx ho=>?_,fun b' hb'=>h.fresh b' (by omega)⟩
   ·refine (h.slots t x u hx hu).keep hw (fun s l e b' e2 _=>⟨e2,hoth _ (by simp) b' e2⟩) (fun l e i _ b' e2 _=>⟨e2,hoth _ (by simp) b' e2⟩) (fun r' hr' _ s l e=>?_) (by simp) (fun _ _=>rfl)
    have e0:∃ l0,st.row r'=some (s,l0):=by
     cases r' with
     |slot t'=>exact ⟨l,e⟩
     |part t' i=>exact ⟨l,e⟩
     |cell o j =>
      simp only [St.row,List.getElem?_set] at e ⊢
      by_cases hop:p=o
      ·subst hop
       simp only [if_true,if_pos hpl,hfz,Bool.false_eq_true,if_false,List.getElem?_set] at e
       simp only [hbx0,hfz,Bool.false_eq_true,if_false]
       by_cases hqj:q=j
       ·subst hqj
        simp only [if_true,if_pos hql,Option.some.injEq,Prod.mk.injEq] at e
        rw [hq]
        exact ⟨es,by rw [e.1]⟩
       ·simp only [if_neg hqj] at e;exact ⟨l,e⟩
      ·simp only [if_neg hop] at e;exact ⟨l,e⟩
    obtain ⟨l0,e0⟩:=e0
    exact ⟨⟨l0,e0⟩,hhdr r' s l0 e0⟩
   ·rw [List.getElem?_set] at ho
    by_cases hop:p=p'
    ·subst hop
     simp only [if_true,if_pos hpl,Option.some.injEq] at ho
     subst ho
     have hbb:=hbox p bx0 hbx0
     obtain ⟨arr0,E0,h1,h2,h3,h4,h5⟩:=h.boxes p bx0 hbx0
     refine ⟨arr0,E0,hbb.trans h1,by simpa using h2,h3,by simp [hfz],?_⟩
     intro j bv u hj hu
     have hj:(bx0.cs.set q (.row sz es'))[j]?=some bv:=hj
     rw [List.getElem?_set] at hj
     by_cases hqj:q=j
     ·subst hqj
      simp only [if_true,if_pos hql,Option.some.injEq] at hj
      subst hj
      have:u=.slice (some ⟨b,0,none⟩) es'.length c:=by
       have e2:hdr σ a w (.cell p q)=some u:=by simp only [hdr];rw [cell_of_row w _ _ arr0 E0 (0,0) h1];exact hu
       rw [hl];exact Option.some.inj (e2.symm.trans hv)
      rw [this];exact ⟨rfl,hrep⟩
     ·rw [if_neg hqj] at hj
      obtain ⟨g1,g2⟩:=h5 j bv u hj hu
      exact ⟨g1,g2.frame (fun b' e _=>⟨e,hoth _ (by simpa using Ne.symm hqj) b' e⟩) hw⟩
    ·rw [if_neg hop] at ho
     exact (h.boxes p' bx ho).frame ⟨rfl,hbox p' bx ho⟩ (fun j b' e _=>⟨e,hoth _ (by intro e2;cases e2;exact hop rfl) b' e⟩) hw
 ·rcases e with e|e
  ·exact hoth .ro (by simp) b' e
  ·exact hoth .other (by simp) b' e
theorem Sim.setRowW (h:Sim L σ T st a w) {r:Root} (hr:st.row r=some (sz,es)) {v:Value} {w':World} (hv:hdr σ a w r=some v) (hsz:w.heap.size≤w'.heap.size) (hos:w'.os=w.os) (htp:w'.tape=w.tape) (hou:w'.output=w.output)
  (hblk:∀ b,b<w.heap.size→T b≠.row r→w'.heap[b]?=w.heap[b]?) (hrep:RowRep T w' r sz es' v):Sim L σ T (st.setRow r sz es') a w'∧Chg T T w w':=by
 have hoth:∀ q,q≠.row r→∀ b',T b'=q→b'<w.heap.size→w'.heap[b']?=w.heap[b']?:=fun q hq b' e hb=>hblk b' hb (by rw [e];exact hq)
 have hw:∀ b',T b'=.ro→b'<w.heap.size→T b'=.ro∧w'.heap[b']?=w.heap[b']?:=fun b' e hb=>⟨e,hoth _ (by simp) b' e hb⟩
 have hbox:∀ p bx,st.boxes[p]?=some bx→w'.heap[σ p]?=w.heap[σ p]?:=fun p bx hp=>by
  obtain ⟨_,_,h1,_,h3,_⟩:=h.boxes p bx hp
  refine hoth _ ?_ _ h3 (Array.getElem?_eq_some_iff.1 h1).1
  split<;>simp
 have hhdr:∀ q s l,st.row q=some (s,l)→hdr σ a w' q=hdr σ a w q:=fun q s l e=>by
  cases q with
  |slot t=>rfl
  |part t i=>rfl
  |cell p j =>
   obtain ⟨bx,h1,_⟩:=cell_of_row' e
   exact World.cell?_of_block (w:=w) (a:=⟨σ p,j,none⟩) (hbox p bx h1)
 refine ⟨?_,⟨hsz,hos,htp,hou,fun b' hb e=>?_,fun _ e=>e,fun _ _ e=>e⟩⟩
 ·cases r with
  |part t i=>simp [St.row] at hr
  |slot t =>
   have hst:=slot_of_row hr
   have htl:=(List.getElem?_eq_some_iff.1 hst).1
   have hrow:∀ q s l,(st.put t (.row sz es')).row q=some (s,l)→∃ l0,st.row q=some (s,l0):=fun q s l e=>by
    by_cases hq:q=.slot t
    ·subst hq
     have e2:=slot_of_row e
     simp only [St.put,List.getElem?_set,if_true,if_pos htl,Option.some.injEq,AV.row.injEq] at e2
     obtain ⟨rfl,rfl⟩:=e2
     exact ⟨es,hr⟩
    ·rw [row_put_ne hq] at e;exact ⟨l,e⟩
   refine ⟨by simp [St.setRow,St.put,h.size],fun t' x u hx hu=>?_,fun p bx ho=>?_,fun b' hb'=>h.fresh b' (by omega)⟩
   ·rcases getElem_set_slots hx with ⟨rfl,rfl,_⟩|⟨h1,h2⟩
    ·have:u=v:=Option.some.inj (hu.symm.trans hv)
     rw [this];exact hrep
    ·refine (h.slots t' x u h2 hu).keep hw (fun s l e b' e2 hb=>⟨e2,hoth _ (by simpa using h1) b' e2 hb⟩) (fun l e i _ b' e2 hb=>⟨e2,hoth _ (by simp) b' e2 hb⟩) (fun q hq _ s l e=>?_) (Nat.le_refl _) (fun _ _=>rfl)
     obtain ⟨l0,e0⟩:=hrow q s l e
     exact ⟨⟨l0,e0⟩,hhdr q s l0 e0⟩
   ·exact (h.boxes p bx ho).frame ⟨rfl,hbox p bx ho⟩ (fun j b' e hb=>⟨e,hoth _ (by simp) b' e hb⟩) hw
  |cell p q =>
   obtain ⟨bx0,hbx0,hfz,hq⟩:=cell_of_row' hr
   have hst:st.setRow (.cell p q) sz es'={ st with boxes:=st.boxes.set p { bx0 with cs:=bx0.cs.set q (.row sz es') } }:=by simp [St.setRow,St.setCell,hbx0]
   have hpl:p<st.boxes.length:=(List.getElem?_eq_some_iff.1 hbx0).1
   have hql:q<bx0.cs.length:=(List.getElem?_eq_some_iff.1 hq).1
   rw [hst]
   refine ⟨h.size,fun t x u hx hu=>?_,fun p' bx ho=>?_,fun b' hb'=>h.fresh b' (by omega)⟩
   ·refine (h.slots t x u hx hu).keep hw (fun s l e b' e2 hb=>⟨e2,hoth _ (by simp) b' e2 hb⟩) (fun l e i _ b' e2 hb=>⟨e2,hoth _ (by simp) b' e2 hb⟩) (fun r' hr' _ s l e=>?_) (by simp) (fun _ _=>rfl)
    have e0:∃ l0,st.row r'=some (s,l0):=by
     cases r' with
     |slot t'=>exact ⟨l,e⟩
     |part t' i=>exact ⟨l,e⟩
     |cell o j =>
      simp only [St.row,List.getElem?_set] at e ⊢
      by_cases hop:p=o
      ·subst hop
       simp only [if_true,if_pos hpl,hfz,Bool.false_eq_true,if_false,List.getElem?_set] at e
       simp only [hbx0,hfz,Bool.false_eq_true,if_false]
       by_cases hqj:q=j
       ·subst hqj
        simp only [if_true,if_pos hql,Option.some.injEq,Prod.mk.injEq] at e
        rw [hq]
        exact ⟨es,by rw [e.1]⟩
       ·simp only [if_neg hqj] at e;exact ⟨l,e⟩
      ·simp only [if_neg hop] at e;exact ⟨l,e⟩
    obtain ⟨l0,e0⟩:=e0
    exact ⟨⟨l0,e0⟩,hhdr r' s l0 e0⟩
   ·rw [List.getElem?_set] at ho
    by_cases hop:p=p'
    ·subst hop
     simp only [if_true,if_pos hpl,Option.some.injEq] at ho
     subst ho
     have hbb:=hbox p bx0 hbx0
     obtain ⟨arr0,E0,h1,h2,h3,h4,h5⟩:=h.boxes p bx0 hbx0
     refine ⟨arr0,E0,hbb.trans h1,by simpa using h2,h3,by simp [hfz],?_⟩
     intro j bv u hj hu
     have hj:(bx0.cs.set q (.row sz es'))[j]?=some bv:=hj
     rw [List.getElem?_set] at hj
     by_cases hqj:q=j
     ·subst hqj
      simp only [if_true,if_pos hql,Option.some.injEq] at hj
      subst hj
      have:u=v:=by
       have e2:hdr σ a w (.cell p q)=some u:=by simp only [hdr];rw [cell_of_row w _ _ arr0 E0 (0,0) h1];exact hu
       exact Option.some.inj (e2.symm.trans hv)
      rw [this];exact ⟨by rcases hrep with ⟨_,_,rfl⟩|⟨_,_,_,_,rfl,_⟩<;>rfl,hrep⟩
     ·rw [if_neg hqj] at hj
      obtain ⟨g1,g2⟩:=h5 j bv u hj hu
      exact ⟨g1,g2.frame (fun b' e hb=>⟨e,hoth _ (by simpa using Ne.symm hqj) b' e hb⟩) hw⟩
    ·rw [if_neg hop] at ho
     exact (h.boxes p' bx ho).frame ⟨rfl,hbox p' bx ho⟩ (fun j b' e hb=>⟨e,hoth _ (by intro e2;cases e2;exact hop rfl) b' e hb⟩) hw
 ·rcases e with e|e
  ·exact hoth .ro (by simp) b' e hb
  ·exact hoth .other (by simp) b' e hb
theorem splice_eq {cs new cs':List PV} {off:Nat} (h:splice cs off new=some cs'):off+new.length≤cs.length∧cs'=cs.take off++new++cs.drop (off+new.length):=by
 unfold splice at h
 split at h
 ·exact ⟨by assumption,(Option.some.inj h).symm⟩
 ·cases h
theorem splice_get {α:Type} {cs new:List α} {off:Nat} (hl:off+new.length≤cs.length) (i:Nat):(cs.take off++new++cs.drop (off+new.length))[i]?=if off≤i∧i<off+new.length then new[i - off]? else cs[i]?:=by
 rw [List.append_assoc,List.getElem?_append]
 simp only [List.length_take,show min off cs.length=off by omega]
 split
 ·rename_i hi;rw [if_neg (by omega),List.getElem?_take,if_pos hi]
 ·rename_i hi
  rw [List.getElem?_append]
  split
  ·rename_i hj;rw [if_pos (by omega)]
  ·rename_i hj;rw [if_neg (by omega),List.getElem?_drop];congr 1;omega
theorem remade_cells {e e':PV} {cs:List PV} (h:e.remade cs=some e'):e'.cells=cs:=by
 unfold PV.remade at h
 split at h
 ·cases h;rfl
 ·split at h
  ·cases h
  ·rename_i c hc
   have h:=Option.some.inj h
   subst h
   cases c<;>first|rfl|exact absurd rfl (hc _)
  ·cases h
theorem CellsL.set (h:CellsL ok w sz es xs) {i j:Nat} {e e':PV} {cs':List PV} {vs:List PV} {us:List Value} (hi:es[i]?=some e) (hs:splice e.cells j vs=some cs') (he:e'.cells=cs') (hv:us.length=vs.length) (hu:∀ (k:Nat) x,vs[k]?=some x→∃ u,us[k]?=some u∧u.oneCell'=true∧PRep ok w x u) :
  CellsL ok w sz (es.set i e') (xs.take (i * sz+j)++us++xs.drop (i * sz+j+us.length)):=by
 obtain ⟨h1,rfl⟩:=splice_eq hs
 have hil:=(List.getElem?_eq_some_iff.1 hi).1
 have hw:=h.wid e (List.mem_of_getElem? hi)
 have hbound:i * sz+j+us.length≤xs.length:=by
  rw [h.len,hv]
  have:(i+1) * sz≤es.length * sz:=Nat.mul_le_mul_right _ hil
  rw [Nat.add_mul] at this;omega
 refine ⟨?_,fun e0 he0=>?_,fun i' e0 j' x hi' hj'=>?_⟩
 ·simp only [List.length_append,List.length_take,List.length_drop,List.length_set]
  rw [← h.len];omega
 ·rcases List.mem_or_eq_of_mem_set he0 with h2|rfl
  ·exact h.wid e0 h2
  ·rw [he];simp;omega
 ·rw [List.getElem?_set] at hi'
  rw [splice_get hbound]
  by_cases hii:i=i'
  ·subst hii
   rw [if_pos rfl,if_pos hil] at hi'
   cases hi'
   rw [he,splice_get h1] at hj'
   by_cases hjj:j≤j'∧j'<j+vs.length
   ·rw [if_pos hjj] at hj'
    obtain ⟨u,g1,g2,g3⟩:=hu _ _ hj'
    exact ⟨u,by rw [if_pos (by omega),show i * sz+j' - (i * sz+j)=j' - j by omega];exact g1,g2,g3⟩
   ·rw [if_neg hjj] at hj'
    obtain ⟨u,g1,g2,g3⟩:=h.rep i e j' x hi hj'
    exact ⟨u,by rw [if_neg (by omega)];exact g1,g2,g3⟩
  ·rw [if_neg hii] at hi'
   obtain ⟨u,g1,g2,g3⟩:=h.rep i' e0 j' x hi' hj'
   have hj3:=(h.lt hi' hj').2
   refine ⟨u,?_,g2,g3⟩
   rw [if_neg ?_]
   ·exact g1
   ·intro hh
    rcases Nat.lt_or_ge i' i with hlt|hge
    ·have:=idx_lt hlt hj3;omega
    ·have h3:i+1≤i':=by omega
     have:(i+1) * sz≤i' * sz:=Nat.mul_le_mul_right _ h3
     rw [Nat.add_mul] at this;omega
theorem run_storeVar {T0:TypeId} {b off tb:Nat} {v:Value} {arr:Array Value} (hs:szOf P T0=some v.cells.size) (hb:w.heap[b]?=some (.cells arr tb (0,0))) (hl:off+v.cells.size≤arr.size) (h1:∀ u∈v.cells.toList,u.oneCell'=true) :
  (storeVar T0 ⟨b,off,none⟩ v).run P w=.ok () (w.setRow b (arr.toList.take off++v.cells.toList++arr.toList.drop (off+v.cells.toList.length)).toArray):=by
 have hst:=run_storeCells_at P b off tb v.cells.toList 0 arr w hb (by simpa using hl) h1
 simp only [Nat.add_zero] at hst
 unfold storeVar
 simp only [Sem.run_bind,run_szOf hs,Result.andThen_ok,ne_eq,not_true_eq_false,if_false,hst]
theorem run_store {ρ:Operand→Value} {T0:TypeId} {ad:Addr} {v:Value} (ho:o.op=.store T0 y y2) (h1:ρ y=.pointer (some ad)) (h2:ρ y2=v) (hr:(storeVar T0 ad v).run P w=.ok () w1):(execOp ρ o).run P w=.ok .skip w1:=by
 simp [execOp,ho,Instr.storeAt,Instr.sureAddr,h1,h2,hr]
theorem Cells.mem1 {cs:List PV} {arr:Array Value} (h:Cells ok w cs arr):(∀ u∈arr.toList,u.oneCell'=true)∧∀ (k:Nat) x,cs[k]?=some x→∃ u,arr.toList[k]?=some u∧u.oneCell'=true∧PRep ok w x u:=by
 refine ⟨fun u hu=>?_,fun k x hk=>?_⟩
 ·obtain ⟨k,hk⟩:=List.mem_iff_getElem?.1 hu
  exact h.one k u (by simpa using hk)
 ·have hl:k<arr.size:=by rw [h.size];exact (List.getElem?_eq_some_iff.1 hk).1
  have e:arr[k]?=some arr[k]:=Array.getElem?_eq_getElem hl
  exact ⟨arr[k],by simpa using e,h.one k _ e,h.rep k x _ hk e⟩
theorem does_storeEl {T0:TypeId} {r:Root} {i j:Nat} (h:Sim L σ T st a w) (hd:o.dst=none) (ho:o.op=.store T0 y y2) (hm:mOpd y x=true) (hm2:mOpd y2 x2=true) (hs:szOf P T0=some n) {v:PV} {own:Bool} (h1:st.consume x2=some (v,own,st1)) (h2:st1.get x=.pel r i j)
  (h3:st1.row r=some (sz,es)) {e e':PV} (h4:es[i]?=some e) (h5:v.cells.length=n) {cs:List PV} (h6:splice e.cells j v.cells=some cs) (h7:e.remade cs=some e'):Does P L σ T st.boxes.length (st1.setRow r sz (es.set i e')) a w o false:=by
 obtain ⟨T1,k1,k2,k3,k4⟩:=h.consumeF hm2 h1
 have hp:=k1.pelR hm h2 sz es h3
 obtain ⟨b,m,c,m1,m2⟩:=hp
 obtain ⟨u,m3,m4⟩:=k1.rowHdr h3
 rw [m3] at m1;cases m1
 have hil:=(List.getElem?_eq_some_iff.1 h4).1
 rcases m4.cellsL with ⟨e0,_,_⟩|⟨b',c',arr,E,ex,q2,q3,q4,q5,q6,q7⟩
 ·rw [e0] at hil;simp at hil
 ·injection ex with ex1 ex2 ex3
  injection ex1 with ex1
  injection ex1 with ex1
  subst ex1;subst ex2;subst ex3
  have hc:=k4.cells
  obtain ⟨c1,c2⟩:=hc.mem1
  obtain ⟨hsp,_⟩:=splice_eq h6
  have hw:=q7.wid e (List.mem_of_getElem? h4)
  have hb1:i * sz+j+(a.eval y2).cells.size≤es.length * sz:=by
   rw [hc.size]
   have:(i+1) * sz≤es.length * sz:=Nat.mul_le_mul_right _ hil
   rw [Nat.add_mul] at this;omega
  have hb2:es.length * sz≤c * sz:=Nat.mul_le_mul_right _ q5
  have hset:=q7.set h4 h6 (remade_cells h7) (us:=(a.eval y2).cells.toList) (by simp [hc.size]) c2
  have hrun:=run_storeVar (P:=P) (T0:=T0) (w:=w) (b:=b) (off:=i * sz+j) (tb:=E) (v:=a.eval y2) (arr:=arr) (by rw [hs,hc.size,h5]) q3 (by rw [q4];omega) c1
  obtain ⟨arr',harr⟩:∃ arr',arr'=(arr.toList.take (i * sz+j)++(a.eval y2).cells.toList++arr.toList.drop (i * sz+j+(a.eval y2).cells.toList.length)).toArray:=⟨_,rfl⟩
  rw [← harr] at hrun
  have hnew:RowRep T1 (w.setRow b arr') r sz (es.set i e') (.slice (some ⟨b,0,none⟩) (es.set i e').length c):=by
   refine RowRep.mk (E:=E) (arr:=arr') (xs:=(arr.toList.take (es.length * sz)).take (i * sz+j)++(a.eval y2).cells.toList++(arr.toList.take (es.length * sz)).drop (i * sz+j+(a.eval y2).cells.toList.length)) q2 (setRow_heap w b arr arr' E (0,0) q3) ?_ (by simpa using q5) q6 (hset.frame fun b' e _=>⟨e,setRow_other w b b' arr' (fun e2=>by subst e2;rw [q2] at e;cases e)⟩) ?_
   ·rw [harr,← q4];simp only [List.size_toArray,List.length_append,List.length_take,List.length_drop,Array.length_toList];omega
   ·rw [harr]
    refine ⟨arr.toList.drop (es.length * sz),?_⟩
    simp only [List.take_take,List.append_assoc]
    rw [Nat.min_eq_left (by omega)]
    congr 2
    rw [List.drop_take]
    conv=>rhs;rw [← List.take_append_drop (es.length * sz - (i * sz+j+(a.eval y2).cells.toList.length)) (arr.toList.drop (i * sz+j+(a.eval y2).cells.toList.length))]
    congr 1
    rw [List.drop_drop]
    congr 1
    simp only [Array.length_toList]
    omega
  obtain ⟨s1,s2⟩:=k1.setRowIn h3 m3 q2 q3 (by rw [harr];simp only [List.size_toArray,List.length_append,List.length_take,List.length_drop,Array.length_toList];omega) (by simp) hnew
  refine ⟨_,undef,_,σ,T1,run_store ho m2 rfl hrun,.inr ⟨rfl,rfl⟩,by rw [hd];exact s1,(k2.chg w).trans s2,fun _ _=>rfl,fun e=>by cases e⟩
theorem setRow_self' {r:Root} (hr:st.row r=some (sz,es)):st.setRow r sz es=st:=by
 cases r with
 |part t i=>rfl
 |slot t =>
  have h:=slot_of_row hr
  obtain ⟨h1,h2⟩:=List.getElem?_eq_some_iff.1 h
  simp only [St.setRow,St.put]
  rw [← h2,List.set_getElem_self]
 |cell p q =>
  obtain ⟨bx,h1,h2,h3⟩:=cell_of_row' hr
  obtain ⟨g1,g2⟩:=List.getElem?_eq_some_iff.1 h3
  obtain ⟨g3,g4⟩:=List.getElem?_eq_some_iff.1 h1
  simp only [St.setRow,St.setCell,h1]
  have e1:bx.cs.set q (.row sz es)=bx.cs:=by rw [← g2,List.set_getElem_self]
  rw [e1]
  have e2:st.boxes.set p bx=st.boxes:=by rw [← g4,List.set_getElem_self]
  show { st with boxes:=st.boxes.set p bx }=st
  rw [e2]
theorem Sim.place (h:Sim L σ T st a w) (hm:mOpd y x=true) {r:Root} {off len:Nat} (hp:st.place x=some (r,off,len)) (hr:st.row r=some (sz,es)):RefRep (hdr σ a w r) off len sz (a.eval y):=by
 cases x with
 |c v=>simp [St.place] at hp
 |nil s=>simp [St.place] at hp
 |t n =>
  simp only [St.place] at hp
  split at hp
  ·rename_i r' off' len' e
   simp only [Option.some.injEq,Prod.mk.injEq] at hp
   obtain ⟨rfl,rfl,rfl⟩:=hp
   exact h.refR hm e sz es hr
  ·rename_i s l e
   simp only [Option.some.injEq,Prod.mk.injEq] at hp
   obtain ⟨rfl,rfl,rfl⟩:=hp
   have e0:st.get (.t n)=.row s l:=e
   obtain ⟨q1,q2,q3⟩:=h.rowR hm e0
   have:=slot_of_row hr
   rw [q1] at this;cases this
   obtain ⟨xa,c,e1,_⟩:=q3.slice
   exact ⟨xa,_,c,xa,by rw [← e1];exact q2,by rw [e1];simp,fun _=>rfl,fun _=>by cases xa<;>simp [Addr.add],fun b o e=>⟨o,e⟩⟩
  ·cases hp
theorem does_cpy {T0 T1':TypeId} (h:Sim L σ T st a w) (hd:o.dst=some d) (ho:o.op=.call { callee:=.builtin .copy,args:=#[y,y2],argTypes:=#[T0,T1'] }) (hm:mOpd y x=true) (hm2:mOpd y2 x2=true) (he:elemOk P T0 sz=true)
  (hp:act rec env (.cpy d sz x x2) st=some st'):Does P L σ T st.boxes.length st' a w o false:=by
 simp only [act] at hp
 obtain ⟨⟨sy,ys⟩,h1,hp1⟩:=bind_some hp
 clear hp
 obtain ⟨⟨r,off,len⟩,h2,hp2⟩:=bind_some hp1
 clear hp1
 obtain ⟨⟨sx,es⟩,h3,hp3⟩:=bind_some hp2
 clear hp2
 simp only at hp3 h3
 split at hp3
 case isFalse=>cases hp3
 rename_i hc
 obtain ⟨hsx,hsy,hol⟩:=hc
 subst hsx
 subst hsy
 have hp:=Option.some.inj hp3
 clear hp3
 subst hp
 obtain ⟨e,i,z,g1,g2,g3,g4,g5,g6,g7⟩:=elemOk_eq he
 obtain ⟨ya,yc,e1,e2⟩:=h.elems hm2 h1
 obtain ⟨xa,m,c,x',m1,m2,m3,m4,m0⟩:=h.place hm h2 h3
 obtain ⟨u,m5,m6⟩:=h.rowHdr h3
 rw [m5] at m1;cases m1
 obtain ⟨k,hk⟩:∃ k,k=min ys.length len:=⟨_,rfl⟩
 rw [← hk]
 have hmin:Nat.min ys.length len=k:=hk.symm
 by_cases hk0:k=0
 ·-- nothing is copied
  have hes:es.take off++ys.take k++es.drop (off+k)=es:=by rw [hk0];simp
  rw [hes,setRow_self' h3,hk0]
  refine ⟨_,.int .i64 (0:Nat),w,σ,T,?_,.inl rfl,?_,Chg.refl T w,fun _ _=>rfl,fun e=>by cases e⟩
  ·have h0:(Builtin.firstCells i.size 0 (.slice ya ys.length yc)).run P w=.ok #[] w:=by
    cases ya with
    |none=>exact run_firstCells_none w _ _ _ _
    |some ad=>exact run_firstCells_some w i.size 0 ad _ _ [] (by simp) (fun j v hj=>by simp at hj)
   have:(Builtin.copy_ #[T0,T1'] o.type #[.slice x' len (c - off),.slice ya ys.length yc]).run P w=.ok (goInt 0) w:=by
    have hmin0:Nat.min ys.length len=0:=by rw [hmin,hk0]
    cases x'<;>simp [Builtin.copy_,run_underlying g1,Builtin.lenOf,sizeOf,typeInfo,g2,hmin0,h0,storeCells]
   simp [execOp,ho,resolve,invoke,builtin,m2,e1,this,goInt]
  ·rw [hd];exact h.putPv (.int _ _)
 ·-- elements are copied
  obtain ⟨ad,zs,hya,e3,e4⟩:=e2 (by omega)
  subst hya
  rcases m6.cellsL with ⟨e0,_,_⟩|⟨b,c',arr,E,ex,q2,q3,q4,q5,q6,q7⟩
  ·rw [e0] at hol;simp at hol;omega
  ·injection ex with ex1 ex2 ex3
   subst ex1;subst ex2;subst ex3
   have hx':x'=some ⟨b,off * sy,none⟩:=by rw [m4 (by omega)];simp [Addr.add_lit]
   have hzk:=e3.take k
   have hlk:(ys.take k).length=k:=by simp;omega
   have hzl:(zs.take (k * sy)).length=k * sy:=by rw [hzk.len,hlk]
   have hb1:off * sy+k * sy≤es.length * sy:=by rw [← Nat.add_mul];exact Nat.mul_le_mul_right _ (by omega)
   have hb2:es.length * sy≤c * sy:=Nat.mul_le_mul_right _ q5
   have hl:=run_firstCells_some (P:=P) w sy k ad ys.length yc (zs.take (k * sy)) hzl (fun j v hj=>by
    rw [List.getElem?_take] at hj
    split at hj
    ·exact e4 j v hj
    ·cases hj)
   have hst:=run_storeCells_at P b (off * sy) E (zs.take (k * sy)) 0 arr w q3 (by rw [hzl,q4];omega) hzk.one
   simp only [Nat.add_zero] at hst
   obtain ⟨arr',harr⟩:∃ arr',arr'=(arr.toList.take (off * sy)++zs.take (k * sy)++arr.toList.drop (off * sy+(zs.take (k * sy)).length)).toArray:=⟨_,rfl⟩
   rw [← harr] at hst
   have hsz':arr'.size=arr.size:=by rw [harr];simp only [List.size_toArray,List.length_append,List.length_drop,hzl,List.length_take,Array.length_toList];omega
   have hcp:(Builtin.copy_ #[T0,T1'] o.type #[.slice x' len (c - off),.slice (some ad) ys.length yc]).run P w=.ok (goInt k) (w.setRow b arr'):=by
    rw [hx']
    simp only [Builtin.copy_]
    simp [run_underlying g1,Builtin.lenOf,sizeOf,typeInfo,g2,hmin,g3,hl,hst]
   have hnewl:(es.take off++ys.take k++es.drop (off+k)).length=es.length:=by simp;omega
   have hcell:=((q7.take off).append hzk).append (q7.drop (off+k))
   have hnew:RowRep T (w.setRow b arr') r sy (es.take off++ys.take k++es.drop (off+k)) (.slice (some ⟨b,0,none⟩) (es.take off++ys.take k++es.drop (off+k)).length c):=by
    refine RowRep.mk (E:=E) (arr:=arr') q2 (setRow_heap w b arr arr' E (0,0) q3) (by rw [hsz',q4]) (by rw [hnewl];exact q5) q6 (hcell.frame fun b' e _=>⟨e,setRow_other w b b' arr' (fun e2=>by subst e2;rw [q2] at e;cases e)⟩) ?_
    rw [harr,hzl]
    refine ⟨arr.toList.drop (es.length * sy),?_⟩
    simp only [List.take_take,List.append_assoc]
    rw [Nat.min_eq_left (by omega)]
    congr 2
    rw [List.drop_take,Nat.add_mul]
    conv=>rhs;rw [← List.take_append_drop (es.length * sy - (off * sy+k * sy)) (arr.toList.drop (off * sy+k * sy))]
    congr 1
    rw [List.drop_drop]
    congr 1
    omega
   obtain ⟨s1,s2⟩:=h.setRowIn h3 m5 q2 q3 hsz' hnewl hnew
   refine ⟨_,.int .i64 k,w.setRow b arr',σ,T,?_,.inl rfl,?_,s2,fun _ _=>rfl,fun e=>by cases e⟩
   ·simp [execOp,ho,resolve,invoke,builtin,m2,e1,hcp,goInt]
   ·rw [hd];exact s1.putPv (.int _ _)
end
end Go.Proofs.YtpcncggjmabnaaaGreatDoor

namespace Go.Proofs.YtpcncggjmabnaaaGreatDoor
open Go.RowKit
section
variable {P:Program} {L:Nat} {σ σ':Nat→Nat} {T T':Tags} {st st' st1:St} {a:Act} {w w1:World} {o:Oper} {d n:Nat} {x x2:Opd} {y y2:Operand} {ok:Nat→Prop} {sz:Nat} {es es' ys:List PV} {xs zs:List Value}
 {rec:VCode→St→Option (Ex × St)} {env:Env}
theorem Sim.setBox (h:Sim L σ T st a w) {p E:Nat} {bx:Box} {cs':List BV} {arr arr':Array Value} (g:AV→AV) (hb:st.boxes[p]?=some bx) (hf:bx.fz=false) (ha:w.heap[σ p]?=some (.cells arr E (0,0)))
  (hl:cs'.length=bx.cs.length) (hs:arr'.size=arr.size) (hrep:∀ (k:Nat) bv u,cs'[k]?=some bv→arr'[k]?=some u→u.oneCell'=true∧BRep T' (w.setRow (σ p) arr') p k bv u)
  (hg:∀ x,g x=.any∨(g x=x∧∀ k,x.root?=some (.cell p k)→∀ s l,cs'[k]?=some (.row s l)→(∃ l0,bx.cs[k]?=some (.row s l0))∧arr'[k]?=arr[k]?))
  (hro:∀ b,T b=.ro→T' b=.ro) (hbox:∀ b q,T b=.box q→T' b=.box q) (hoth:∀ b,T b=.other→T' b=.other) (hslot:∀ b t s l,st.slots[t]?=some (.row s l)→T b=.row (.slot t)→T' b=.row (.slot t)) (hpart:∀ {k:Bool} (b t i:Nat) l,st.slots[t]?=some (.tup k l)→T b=.row (.part t i)→T' b=.row (.part t i))
  (hcell:∀ b q k,q≠p→T b=.row (.cell q k)→T' b=.row (.cell q k)) :
  Sim L σ T' { st with slots:=st.slots.map g,boxes:=st.boxes.set p { bx with cs:=cs' } } a (w.setRow (σ p) arr')∧Chg T T w (w.setRow (σ p) arr'):=by
 have hT:T (σ p)=.box p:=by obtain ⟨_,_,_,_,h3,_⟩:=h.boxes p bx hb;rw [h3,hf];rfl
 have hne:∀ b q,q≠.box p→T b=q→(w.setRow (σ p) arr').heap[b]?=w.heap[b]?:=fun b q hq e=>setRow_other w (σ p) b arr' (fun e2=>by subst e2;rw [hT] at e;exact hq e.symm)
 have hw:∀ b,T b=.ro→b<w.heap.size→T' b=.ro∧(w.setRow (σ p) arr').heap[b]?=w.heap[b]?:=fun b e _=>⟨hro b e,hne b _ (by simp) e⟩
 have hsz:(w.setRow (σ p) arr').heap.size=w.heap.size:=by simp [World.setRow]
 have hpl:p<st.boxes.length:=(List.getElem?_eq_some_iff.1 hb).1
 have hoq:∀ q bq,q≠p→st.boxes[q]?=some bq→(w.setRow (σ p) arr').heap[σ q]?=w.heap[σ q]?:=fun q bq hqp hq=>by
  obtain ⟨_,_,_,_,h3,_⟩:=h.boxes q bq hq
  refine hne _ _ ?_ h3
  split
  ·simp
  ·intro e;cases e;exact hqp rfl
 refine ⟨⟨by simp [h.size],fun t x u hx hu=>?_,fun q bq hq=>?_,fun b hb'=>hoth b (h.fresh b (by omega))⟩,⟨by omega,rfl,rfl,rfl,fun b _ e=>?_,fun _ e=>e,fun _ _ e=>e⟩⟩
 ·obtain ⟨z,hz,rfl⟩:=kill_getElem hx
  rcases hg z with e|⟨e,hroot⟩
  ·rw [e];trivial
  ·rw [e]
   refine (h.slots t z u hz hu).keep hw (fun s l e b e2 _=>⟨hslot b t s l (by rw [hz,e]) e2,hne b _ (by simp) e2⟩) (fun l e i _ b e2 _=>⟨hpart b t i l (by rw [hz,e]) e2,hne b _ (by simp) e2⟩) (fun r hr _ s l e=>?_) (by simp) (fun _ _=>rfl)
   cases r with
   |slot t' =>
    have e2:=slot_of_row e
    obtain ⟨z',hz',hg'⟩:=kill_getElem (show (st.slots.map g)[t']?=_ from e2)
    rcases hg z' with e3|⟨e3,_⟩
    ·rw [e3] at hg';cases hg'
    ·rw [e3] at hg';subst hg'
     exact ⟨⟨l,by simp [St.row,hz']⟩,rfl⟩
   |part t' i=>simp [St.row] at e
   |cell q k =>
    obtain ⟨bq,h1,h2,h3⟩:=cell_of_row' e
    simp only [List.getElem?_set] at h1
    by_cases hqp:p=q
    ·subst hqp
     simp only [if_true,if_pos hpl,Option.some.injEq] at h1
     subst h1
     obtain ⟨⟨l0,g1⟩,g2⟩:=hroot k hr s l h3
     refine ⟨⟨l0,by simp [St.row,hb,hf,g1]⟩,?_⟩
     simp only [hdr]
     rw [cell_of_row _ (σ p) k arr' E (0,0) (setRow_heap w (σ p) arr arr' E (0,0) ha),cell_of_row w (σ p) k arr E (0,0) ha,g2]
    ·rw [if_neg hqp] at h1
     refine ⟨⟨l,by simp [St.row,h1,h2,h3]⟩,?_⟩
     exact World.cell?_of_block (w:=w) (a:=⟨σ q,k,none⟩) (hoq q bq (Ne.symm hqp) h1)
 ·simp only [List.getElem?_set] at hq
  by_cases hqp:p=q
  ·subst hqp
   simp only [if_true,if_pos hpl,Option.some.injEq] at hq
   subst hq
   obtain ⟨arr0,E0,h1,h2,h3,_⟩:=h.boxes p bx hb
   rw [ha] at h1;cases h1
   refine ⟨arr',E,setRow_heap w (σ p) arr arr' E (0,0) ha,by simp [hs,h2,hl],?_,by simp [hf],fun k bv u hk hu=>hrep k bv u hk hu⟩
   simp only [hf,Bool.false_eq_true,if_false]
   exact hbox _ _ hT
  ·rw [if_neg hqp] at hq
   have hbq:=h.boxes q bq hq
   have hT':T' (σ q)=T (σ q):=by
    obtain ⟨_,_,_,_,h3,_⟩:=hbq
    rw [h3];split
    ·rename_i hf;exact hro _ (by rw [h3,if_pos hf])
    ·rename_i hf;exact hbox _ _ (by rw [h3,if_neg hf])
   exact hbq.frame ⟨hT',hoq q bq (Ne.symm hqp) hq⟩ (fun j b e _=>⟨hcell b q j (Ne.symm hqp) e,hne b _ (by simp) e⟩) hw
 ·rcases e with e|e
  ·exact hne b .ro (by simp) e
  ·exact hne b .other (by simp) e
theorem does_storeBox {T0:TypeId} {p j:Nat} (h:Sim L σ T st a w) (hd:o.dst=none) (ho:o.op=.store T0 y y2) (hm:mOpd y x=true) (hm2:mOpd y2 x2=true) (hs:szOf P T0=some n) {v:PV} {own:Bool} (h1:st.consume x2=some (v,own,st1)) (h2:st1.get x=.pbox p j)
  {bx:Box} (h3:st1.boxes[p]?=some bx) (hf:bx.fz=false) (h5:v.cells.length=n) (h6:j+n≤bx.cs.length) :
  (own=false→Does P L σ T st.boxes.length { st1 with boxes:=st1.boxes.set p { bx with cs:=bx.cs.take j++v.cells.map .pv++bx.cs.drop (j+n) } } a w o false) ∧
  (∀ sz es,own=true→v=.list sz es→Does P L σ T st.boxes.length (st1.setCellRow p j sz es) a w o false):=by
 obtain ⟨T1,k1,k2,k3,k4,k5⟩:=h.consume hm2 h1
 obtain ⟨_,hp2⟩:=k1.pbox hm h2
 obtain ⟨arr,E,b1,b2,b3,b4,b5⟩:=k1.boxes p bx h3
 -- the values' cells,whatever they are
 have hvals:(∀ u∈(a.eval y2).cells.toList,u.oneCell'=true)∧(a.eval y2).cells.size=v.cells.length:=by
  cases own with
  |false=>have hc:=(k4 rfl).cells;exact ⟨hc.mem1.1,hc.size⟩
  |true =>
   obtain ⟨sz,es,m,rfl,_,q⟩:=k5 rfl
   obtain ⟨xa,c,e,_⟩:=q.slice
   rw [e];exact ⟨fun u hu=>by simp [Value.cells] at hu;subst hu;rfl,rfl⟩
 obtain ⟨c1,c2⟩:=hvals
 have hfit:j+(a.eval y2).cells.size≤arr.size:=by rw [c2,h5,b2];exact h6
 have hrun:=run_storeVar (P:=P) (T0:=T0) (w:=w) (b:=σ p) (off:=j) (tb:=E) (v:=a.eval y2) (arr:=arr) (by rw [hs,c2,h5]) b1 hfit c1
 obtain ⟨arr',harr⟩:∃ arr',arr'=(arr.toList.take j++(a.eval y2).cells.toList++arr.toList.drop (j+(a.eval y2).cells.toList.length)).toArray:=⟨_,rfl⟩
 rw [← harr] at hrun
 have hlen:(a.eval y2).cells.toList.length=n:=by rw [Array.length_toList,c2,h5]
 have hget:∀ k,arr'[k]?=if j≤k∧k<j+n then (a.eval y2).cells[k - j]? else arr[k]?:=fun k=>by
  rw [harr,List.getElem?_toArray,splice_get (by rw [hlen];simpa [b2] using h6),hlen]
  simp
 have hsz:arr'.size=arr.size:=by rw [harr];simp only [List.size_toArray,List.length_append,List.length_take,List.length_drop,Array.length_toList,hlen];rw [Array.length_toList] at hlen;omega
 have hold:∀ k,σ k≠σ k→False:=fun k h=>h rfl
 have hother:∀ q,q≠.box p→∀ b,T1 b=q→(w.setRow (σ p) arr').heap[b]?=w.heap[b]?:=fun q hq b e=>setRow_other w (σ p) b arr' (fun e2=>by subst e2;rw [b3,hf] at e;exact hq e.symm)
 refine ⟨fun hown=>?_,fun sz es hown hv=>?_⟩
 ·have hc:=(k4 hown).cells
  have hgo:=k1.setBox (T':=T1) (cs':=bx.cs.take j++v.cells.map .pv++bx.cs.drop (j+n)) (arr':=arr') id h3 hf b1 (by simp [h5];omega) hsz (fun k bv u hk hu=>?_) (fun x=>.inr ⟨rfl,fun k _ s l hk=>?_⟩) (fun _ e=>e) (fun _ _ e=>e) (fun _ e=>e) (fun _ _ _ _ _ e=>e) (fun _ _ _ _ _ e=>e) (fun _ _ _ _ e=>e)
  ·obtain ⟨s1,s2⟩:=hgo
   rw [List.map_id] at s1
   exact ⟨_,undef,_,σ,T1,run_store ho hp2 rfl hrun,.inr ⟨rfl,rfl⟩,by rw [hd];exact s1,(k2.chg w).trans s2,fun _ _=>rfl,fun e=>by cases e⟩
  ·have hml:(v.cells.map BV.pv).length=n:=by simp [h5]
   have hk2:=splice_get (cs:=bx.cs) (new:=v.cells.map BV.pv) (off:=j) (by rw [hml];exact h6) k
   rw [hml] at hk2
   rw [hk2] at hk
   rw [hget] at hu
   split at hk
   ·rename_i hin
    rw [if_pos hin] at hu
    rw [List.getElem?_map] at hk
    cases e:v.cells[k - j]? with
    |none=>rw [e] at hk;cases hk
    |some x=>rw [e] at hk;cases hk;exact ⟨hc.one _ u hu,(hc.rep _ x u e hu).frame fun b e _=>⟨e,hother _ (by simp) b e⟩⟩
   ·rename_i hin
    rw [if_neg hin] at hu
    obtain ⟨g1,g2⟩:=b5 k bv u hk hu
    exact ⟨g1,g2.frame (fun b e _=>⟨e,hother _ (by simp) b e⟩) (fun b e _=>⟨e,hother _ (by simp) b e⟩)⟩
  ·have hml:(v.cells.map BV.pv).length=n:=by simp [h5]
   have hk2:=splice_get (cs:=bx.cs) (new:=v.cells.map BV.pv) (off:=j) (by rw [hml];exact h6) k
   rw [hml] at hk2
   rw [hk2] at hk
   split at hk
   ·rw [List.getElem?_map] at hk
    cases e:v.cells[k - j]? with
    |none=>rw [e] at hk;cases hk
    |some x=>rw [e] at hk;cases hk
   ·rename_i hin
    exact ⟨⟨l,hk⟩,by rw [hget,if_neg hin]⟩
 ·subst hv
  obtain ⟨sz',es',m,e1,hfree,hrow⟩:=k5 hown
  cases e1
  have hn1:n=1:=by rw [← h5];rfl
  obtain ⟨xa,c,e1,_⟩:=hrow.slice
  have hst:st1.setCellRow p j sz es={ st1 with slots:=st1.slots.map (AV.killAt p j),boxes:=st1.boxes.set p { bx with cs:=bx.cs.set j (.row sz es) } }:=by simp [St.setCellRow,St.setCell,h3]
  rw [hst]
  have hgo:=k1.setBox (T':=moved T1 (.slot m) (.cell p j)) (cs':=bx.cs.set j (.row sz es)) (arr':=arr') (AV.killAt p j) h3 hf b1 (by simp) hsz (fun k bv u hk hu=>?_) (fun x=>?_) (fun _ e=>moved_ro e) (fun _ _ e=>moved_box e) (fun _ e=>moved_other e)
   (fun b t s l ht e=>moved_row (fun e2=>by cases e2;exact hfree s l ht) (by simp) e) (fun _ _ _ _ _ e=>moved_row (by simp) (by simp) e) (fun b q k hq e=>moved_row (by simp) (fun e2=>by cases e2;exact hq rfl) e)
  ·obtain ⟨s1,s2⟩:=hgo
   exact ⟨_,undef,_,σ,_,run_store ho hp2 rfl hrun,.inr ⟨rfl,rfl⟩,by rw [hd];exact s1,(k2.chg w).trans (s2.trans ((Still.moved T1 _ _).chg _)),fun _ _=>rfl,fun e=>by cases e⟩
  ·rw [List.getElem?_set] at hk
   rw [hget] at hu
   split at hk
   ·rename_i hkj
    subst hkj
    split at hk
    ·cases hk
     rw [if_pos (by omega),Nat.sub_self,e1] at hu
     have hu:(Value.slice xa es.length c)=u:=by simpa [Value.cells] using hu
     subst hu
     rw [e1] at hrow
     exact ⟨rfl,RowRep.frame (fun b e _=>⟨moved_src e,hother _ (by simp) b e⟩) (fun b e _=>⟨moved_ro e,hother _ (by simp) b e⟩) hrow⟩
    ·cases hk
   ·rename_i hkj
    rw [if_neg (by omega)] at hu
    obtain ⟨g1,g2⟩:=b5 k bv u hk hu
    refine ⟨g1,g2.frame (fun b e _=>⟨moved_row (by simp) (by simpa using Ne.symm hkj) e,hother _ (by simp) b e⟩) (fun b e _=>⟨moved_ro e,hother _ (by simp) b e⟩)⟩
  ·rcases killAt_cases p j x with e|⟨e,hne⟩
   ·exact .inl e
   ·refine .inr ⟨e,fun k hr s l hk=>?_⟩
    have hkj:j≠k:=fun e2=>hne (by rw [hr,e2])
    rw [List.getElem?_set,if_neg hkj] at hk
    exact ⟨⟨l,hk⟩,by rw [hget,if_neg (by omega)]⟩
def movedP (T:Tags) (m p j:Nat):Tags:=fun b=>match T b with
 |.row (.part t i)=>if t=m then .row (.cell p (j+i)) else .row (.part t i)
 |q=>q
theorem prep_single {ok:Nat→Prop} {v:PV} {u:Value} (h:PRep ok w v u) (hs:v.single=true):u.oneCell'=true:=by
 cases h<;>first|rfl|assumption|(simp [PV.single] at hs)
theorem allBV_get:∀ {l:List AV} {cs:List BV},allBV l=some cs→cs.length=l.length∧∀ (k:Nat) bv,cs[k]?=some bv→(∃ v,bv=.pv v∧l[k]?=some (.pv v)∧v.single=true)∨∃ sz es,bv=.row sz es∧l[k]?=some (.row sz es)
 |[],cs,h=>by cases h;exact ⟨rfl,fun k bv hk=>by simp at hk⟩
 |.pv v :: l,cs,h=>by
  simp only [allBV] at h
  split at h
  case isFalse=>cases h
  rename_i hs
  obtain ⟨cs',h1,rfl⟩:=Option.map_eq_some_iff.1 h
  obtain ⟨k1,k2⟩:=allBV_get h1
  refine ⟨by simp [k1],fun k bv hk=>?_⟩
  cases k with
  |zero=>cases hk;exact .inl ⟨v,rfl,rfl,hs⟩
  |succ k=>exact k2 k bv hk
 |.row sz es :: l,cs,h=>by
  simp only [allBV] at h
  obtain ⟨cs',h1,rfl⟩:=Option.map_eq_some_iff.1 h
  obtain ⟨k1,k2⟩:=allBV_get h1
  refine ⟨by simp [k1],fun k bv hk=>?_⟩
  cases k with
  |zero=>cases hk;exact .inr ⟨sz,es,rfl,rfl⟩
  |succ k=>exact k2 k bv hk
 |.ref .. :: _,_,h|.pbox .. :: _,_,h|.pel .. :: _,_,h|.fn .. :: _,_,h|.tup .. :: _,_,h|.yld :: _,_,h|.any :: _,_,h=>by simp [allBV] at h
theorem does_stw {T0:TypeId} {p j m:Nat} (h:Sim L σ T st a w) (hd:o.dst=none) (ho:o.op=.store T0 y y2) (hm:mOpd y x=true) (hm2:mOpd y2 (.t m)=true) (hs:szOf P T0=some n) {l:List AV} (h1:st.slots.getD m .any=.tup true l) (h2:(st.put m .any).get x=.pbox p j)
  {bx:Box} (h3:st.boxes[p]?=some bx) (hf:bx.fz=false) {cs:List BV} (hcs:allBV l=some cs) (h5:l.length=n) (h6:j+n≤bx.cs.length) :
  Does P L σ T st.boxes.length { (st.put m .any) with slots:=(st.put m .any).slots.map (AV.killCell p),boxes:=st.boxes.set p { bx with cs:=bx.cs.take j++cs++bx.cs.drop (j+n) } } a w o false:=by
 have e0:st.get (.t m)=.tup true l:=h1
 obtain ⟨t,e1,hA,hB,arr2,g1,g2,g3⟩:=h.at hm2 e0 (by simp) (by simp) (by simp)
 cases e1
 replace g1:a.eval y2=Value.agg arr2:=g1
 have k1:=h.forget m
 obtain ⟨_,hp2⟩:=k1.pbox hm h2
 obtain ⟨arr,E,b1,b2,b3,b4,b5⟩:=k1.boxes p bx h3
 obtain ⟨cl,cg⟩:=allBV_get hcs
 have hsz2:arr2.size=n:=by omega
 have hone:∀ (k:Nat) u,arr2[k]?=some u→u.oneCell'=true:=fun k u hu=>by
  have hk:k<cs.length:=by have:=(Array.getElem?_eq_some_iff.1 hu).1;omega
  rcases cg k cs[k] (List.getElem?_eq_getElem hk) with ⟨v,_,e2,e3⟩|⟨sz,es,_,e2⟩
  ·exact prep_single (g3 k _ u e2 hu) e3
  ·obtain ⟨xa,c,e,_⟩:=RowRep.slice (g3 k _ u e2 hu)
   rw [e];rfl
 have c2:(a.eval y2).cells.size=n:=by rw [g1];exact hsz2
 have c1:∀ u∈(a.eval y2).cells.toList,u.oneCell'=true:=fun u hu=>by
  rw [g1] at hu
  obtain ⟨k,hk⟩:=List.mem_iff_getElem?.1 hu
  exact hone k u (by simpa [Value.cells] using hk)
 have hfit:j+(a.eval y2).cells.size≤arr.size:=by rw [c2,b2];exact h6
 have hrun:=run_storeVar (P:=P) (T0:=T0) (w:=w) (b:=σ p) (off:=j) (tb:=E) (v:=a.eval y2) (arr:=arr) (by rw [hs,c2]) b1 hfit c1
 obtain ⟨arr',harr⟩:∃ arr',arr'=(arr.toList.take j++(a.eval y2).cells.toList++arr.toList.drop (j+(a.eval y2).cells.toList.length)).toArray:=⟨_,rfl⟩
 rw [← harr] at hrun
 have hlen:(a.eval y2).cells.toList.length=n:=by rw [Array.length_toList,c2]
 have hget:∀ k,arr'[k]?=if j≤k∧k<j+n then (a.eval y2).cells[k - j]? else arr[k]?:=fun k=>by
  rw [harr,List.getElem?_toArray,splice_get (by rw [hlen];simpa [b2] using h6),hlen]
  simp
 have hsz:arr'.size=arr.size:=by rw [harr];simp only [List.size_toArray,List.length_append,List.length_take,List.length_drop,Array.length_toList,hlen];rw [Array.length_toList] at hlen;omega
 have hother:∀ q,q≠.box p→∀ b,T b=q→(w.setRow (σ p) arr').heap[b]?=w.heap[b]?:=fun q hq b e=>setRow_other w (σ p) b arr' (fun e2=>by subst e2;rw [b3,hf] at e;exact hq e.symm)
 have mro:∀ b,T b=.ro→movedP T m p j b=.ro:=fun b e=>by simp [movedP,e]
 have mcell:∀ b q k,T b=.row (.cell q k)→movedP T m p j b=.row (.cell q k):=fun b q k e=>by simp [movedP,e]
 have hgo:=k1.setBox (T':=movedP T m p j) (cs':=bx.cs.take j++cs++bx.cs.drop (j+n)) (arr':=arr') (AV.killCell p) h3 hf b1 (by simp [cl,h5];omega) hsz (fun k bv u hk hu=>?_) (fun x=>?_) mro (fun _ _ e=>by simp [movedP,e]) (fun _ e=>by simp [movedP,e])
  (fun b t s l ht e=>by simp [movedP,e]) (fun b t i l ht e=>?_) (fun b q k hq e=>mcell b q k e)
 ·obtain ⟨s1,s2⟩:=hgo
  exact ⟨_,undef,_,σ,_,run_store ho hp2 rfl hrun,.inr ⟨rfl,rfl⟩,by rw [hd];exact s1,s2.trans (Still.chg ⟨mro,fun b e=>by simp [movedP,e]⟩ _),fun _ _=>rfl,fun e=>by cases e⟩
 ·have hml:cs.length=n:=by omega
  have hk2:=splice_get (cs:=bx.cs) (new:=cs) (off:=j) (by rw [hml];exact h6) k
  rw [hml] at hk2
  rw [hk2] at hk
  rw [hget] at hu
  split at hk
  ·rename_i hin
   rw [if_pos hin,g1] at hu
   have hu:arr2[k - j]?=some u:=hu
   refine ⟨hone _ u hu,?_⟩
   rcases cg (k - j) bv hk with ⟨v,rfl,e2,e3⟩|⟨sz,es,rfl,e2⟩
   ·exact PRep.frame (fun b e _=>⟨mro b e,hother _ (by simp) b e⟩) (g3 _ _ u e2 hu)
   ·have hjk:j+(k - j)=k:=by omega
    exact RowRep.frame (fun b e _=>⟨by simp [movedP,e,hjk],hother _ (by simp) b e⟩) (fun b e _=>⟨mro b e,hother _ (by simp) b e⟩) (g3 _ _ u e2 hu)
  ·rename_i hin
   rw [if_neg hin] at hu
   obtain ⟨q1,q2⟩:=b5 k bv u hk hu
   exact ⟨q1,q2.frame (fun b e _=>⟨mcell b _ _ e,hother _ (by simp) b e⟩) (fun b e _=>⟨mro b e,hother _ (by simp) b e⟩)⟩
 ·rcases killCell_cases p x with e|⟨e,hne⟩
  ·exact .inl e
  ·exact .inr ⟨e,fun k hr=>absurd hr (hne k)⟩
 ·have htm:t≠m:=fun e=>by
   subst e
   simp only [St.put,List.getElem?_set,if_true] at ht
   split at ht<;>cases ht
  simp [movedP,e,htm]
theorem does_stn {T0:TypeId} {p j m:Nat} (h:Sim L σ T st a w) (hd:o.dst=none) (ho:o.op=.store T0 y y2) (hm:mOpd y x=true) (hm2:mOpd y2 (.t m)=true) (hs:szOf P T0=some n) {zs:List PV} (h1:st.slots.getD m .any=.pv (.agg zs)) (h2:st.get x=.pbox p j)
  {bx:Box} (h3:st.boxes[p]?=some bx) (hf:bx.fz=false) (h5:zs.length=n) (h6:j+n≤bx.cs.length) :
  Does P L σ T st.boxes.length { st with slots:=st.slots.map (AV.killCell p),boxes:=st.boxes.set p { bx with cs:=bx.cs.take j++zs.map sBV++bx.cs.drop (j+n) } } a w o false:=by
 have h0:st.consume (.t m)=some (.agg zs,false,st):=by simp only [St.consume];rw [h1]
 obtain ⟨T1,k1,k2,k3,k4,k5⟩:=h.consume hm2 h0
 obtain ⟨_,hp2⟩:=k1.pbox hm h2
 obtain ⟨arr,E,b1,b2,b3,b4,b5⟩:=k1.boxes p bx h3
 have hc:=(k4 rfl).cells
 have c1:∀ u∈(a.eval y2).cells.toList,u.oneCell'=true:=hc.mem1.1
 have c2:(a.eval y2).cells.size=n:=by rw [hc.size];exact h5
 have hfit:j+(a.eval y2).cells.size≤arr.size:=by rw [c2,b2];exact h6
 have hrun:=run_storeVar (P:=P) (T0:=T0) (w:=w) (b:=σ p) (off:=j) (tb:=E) (v:=a.eval y2) (arr:=arr) (by rw [hs,c2]) b1 hfit c1
 obtain ⟨arr',harr⟩:∃ arr',arr'=(arr.toList.take j++(a.eval y2).cells.toList++arr.toList.drop (j+(a.eval y2).cells.toList.length)).toArray:=⟨_,rfl⟩
 rw [← harr] at hrun
 have hlen:(a.eval y2).cells.toList.length=n:=by rw [Array.length_toList,c2]
 have hget:∀ k,arr'[k]?=if j≤k∧k<j+n then (a.eval y2).cells[k - j]? else arr[k]?:=fun k=>by
  rw [harr,List.getElem?_toArray,splice_get (by rw [hlen];simpa [b2] using h6),hlen]
  simp
 have hsz:arr'.size=arr.size:=by rw [harr];simp only [List.size_toArray,List.length_append,List.length_take,List.length_drop,Array.length_toList,hlen];rw [Array.length_toList] at hlen;omega
 have hother:∀ q,q≠.box p→∀ b,T1 b=q→(w.setRow (σ p) arr').heap[b]?=w.heap[b]?:=fun q hq b e=>setRow_other w (σ p) b arr' (fun e2=>by subst e2;rw [b3,hf] at e;exact hq e.symm)
 have hgo:=k1.setBox (T':=T1) (cs':=bx.cs.take j++zs.map sBV++bx.cs.drop (j+n)) (arr':=arr') (AV.killCell p) h3 hf b1 (by simp [h5];omega) hsz (fun k bv u hk hu=>?_) (fun x=>?_) (fun _ e=>e) (fun _ _ e=>e) (fun _ e=>e) (fun _ _ _ _ _ e=>e) (fun _ _ _ _ _ e=>e) (fun _ _ _ _ e=>e)
 ·obtain ⟨s1,s2⟩:=hgo
  exact ⟨_,undef,_,σ,T1,run_store ho hp2 rfl hrun,.inr ⟨rfl,rfl⟩,by rw [hd];exact s1,(k2.chg w).trans s2,fun _ _=>rfl,fun e=>by cases e⟩
 ·have hml:(zs.map sBV).length=n:=by simp [h5]
  have hk2:=splice_get (cs:=bx.cs) (new:=zs.map sBV) (off:=j) (by rw [hml];exact h6) k
  rw [hml] at hk2
  rw [hk2] at hk
  rw [hget] at hu
  split at hk
  ·rename_i hin
   rw [if_pos hin] at hu
   rw [List.getElem?_map] at hk
   cases e:zs[k - j]? with
   |none=>rw [e] at hk;cases hk
   |some z =>
    rw [e] at hk
    have hr:PRep _ w z u:=hc.rep _ z u e hu
    cases hk
    by_cases hnl:∃ sz,z=.nils sz
    ·obtain ⟨sz,rfl⟩:=hnl
     cases hr with
     |nils _ xa=>exact ⟨rfl,.inl ⟨rfl,xa,rfl⟩⟩
    ·have ez:sBV z=.pv z:=by cases z<;>first|rfl|exact absurd ⟨_,rfl⟩ hnl
     rw [ez]
     exact ⟨hc.one _ u hu,hr.frame fun b e _=>⟨e,hother _ (by simp) b e⟩⟩
  ·rename_i hin
   rw [if_neg hin] at hu
   obtain ⟨g1,g2⟩:=b5 k bv u hk hu
   exact ⟨g1,g2.frame (fun b e _=>⟨e,hother _ (by simp) b e⟩) (fun b e _=>⟨e,hother _ (by simp) b e⟩)⟩
 ·rcases killCell_cases p x with e|⟨e,hne⟩
  ·exact .inl e
  ·exact .inr ⟨e,fun k hr=>absurd hr (hne k)⟩
end
end Go.Proofs.YtpcncggjmabnaaaGreatDoor

namespace Go.Proofs.YtpcncggjmabnaaaGreatDoor
open Go.RowKit
section
variable {P:Program} {L:Nat} {σ σ':Nat→Nat} {T T':Tags} {st st' st1:St} {a:Act} {w w1:World} {o:Oper} {d n:Nat} {x x2:Opd} {y y2:Operand}
theorem Sim.putTup (h:Sim L σ T st a w) {d:Nat} {k:Bool} {l:List AV} {v:Value} (hrep:∃ arr:Array Value,v=tupV k arr∧arr.size=l.length∧∀ (i:Nat) x u,l[i]?=some x→arr[i]?=some u→PartRep T' w d i x u)
  (hro:∀ b,T b=.ro→T' b=.ro) (hbox:∀ b o,T b=.box o→T' b=.box o) (hoth:∀ b,w.heap.size≤b→T' b=.other)
  (hrows:∀ (t:Nat) s l,t≠d→st.slots[t]?=some (.row s l)→∀ b,T b=.row (.slot t)→T' b=.row (.slot t))
  (hparts:∀ {k:Bool} (t i:Nat) l,t≠d→st.slots[t]?=some (.tup k l)→(∃ s es,l[i]?=some (.row s es))→∀ b,T b=.row (.part t i)→T' b=.row (.part t i))
  (hcells:∀ (o j:Nat) b,T b=.row (.cell o j)→T' b=.row (.cell o j)) :
  Sim L σ T' (st.put d (.tup k l)) (a.put (some d) v) w:=by
 have hw:∀ b,T b=.ro→b<w.heap.size→T' b=.ro∧w.heap[b]?=w.heap[b]?:=fun b e _=>⟨hro b e,rfl⟩
 refine ⟨by simp [Act.put,St.put,h.size],fun t x u hx hu=>?_,fun o bx ho=>?_,hoth⟩
 ·rcases getElem_set_slots hx with ⟨rfl,rfl,h1⟩|⟨h1,h2⟩
  ·rcases getElem_set_tmps hu with ⟨_,rfl,_⟩|⟨h3,_⟩
   ·exact hrep
   ·exact absurd rfl h3
  ·rcases getElem_set_tmps hu with ⟨h3,_⟩|⟨_,h4⟩
   ·exact absurd h3 h1
   ·refine (h.slots t x u h2 h4).keep hw (fun s l e b hb _=>⟨hrows t s l h1 (by rw [h2,e]) b hb,rfl⟩) (fun l e i he b hb _=>⟨hparts t i l h1 (by rw [h2,e]) he b hb,rfl⟩) (fun r hr _ sz es e=>?_) (Nat.le_refl _) (fun _ _=>rfl)
    by_cases hrd:r=.slot d
    ·subst hrd;rw [row_put_nil (fun _ _ e=>by cases e)] at e;cases e
    ·rw [row_put_ne hrd] at e
     exact ⟨⟨es,e⟩,hdr_put_ne hrd⟩
 ·have hb:=h.boxes o bx ho
  have hT:T' (σ o)=T (σ o):=by
   obtain ⟨_,_,_,_,h3,_⟩:=hb
   rw [h3];split
   ·rename_i hf;exact hro _ (by rw [h3,if_pos hf])
   ·rename_i hf;exact hbox _ _ (by rw [h3,if_neg hf])
  exact hb.frame ⟨hT,rfl⟩ (fun j b e _=>⟨hcells o j b e,rfl⟩) (fun b e _=>⟨hro b e,rfl⟩)
theorem mParts_eq {T0:TypeId}:∀ {l:List (Nat × Operand)} {m:List (Nat × Nat × Opd)},mParts P T0 l m=true→l.length=m.length∧∀ (k:Nat) p q,l[k]?=some p→m[k]?=some q→placeOf P T0 p.1=some (q.1,q.2.1)∧mOpd p.2 q.2.2=true:=by
 intro l
 induction l with
 |nil=>intro m hm;cases m<;>simp [mParts] at hm ⊢
 |cons p l ih =>
  intro m hm
  cases m with
  |nil=>simp [mParts] at hm
  |cons q m =>
   simp only [mParts,Bool.and_eq_true,beq_iff_eq] at hm
   obtain ⟨⟨hm1,hm2⟩,hm3⟩:=hm
   obtain ⟨i1,i2⟩:=ih hm3
   refine ⟨by simp [i1],fun k p' q' hp hq=>?_⟩
   cases k with
   |zero=>simp at hp hq;subst hp;subst hq;exact ⟨hm1,hm2⟩
   |succ k=>exact i2 k p' q' (by simpa using hp) (by simpa using hq)
theorem fill_append (place:Nat→Option (Nat × Nat)):∀ (l m:List (Nat × Value)) (arr:Array Value),Instr.fill place arr (l++m)=(Instr.fill place arr l).bind fun arr=>Instr.fill place arr m
 |[],m,arr=>rfl
 |(i,v) :: l,m,arr=>by
  simp only [List.cons_append,Instr.fill]
  split
  ·rfl
  ·split
   ·rfl
   ·exact fill_append place l m _
theorem mute_bldo {T0:TypeId} {l:List (Nat × Operand)} {parts:List (Nat × Nat × Opd)} {z cs:List PV} {i off m sz:Nat} {es:List PV} (h:Sim L σ T st a w) (hd:o.dst=some d) (ho:o.op=.build T0 (l++[(i,y)]).toArray)
  (hm:mParts P T0 l parts=true) (hi:placeOf P T0 i=some (off,1)) (hy:mOpd y (.t m)=true) (hz:zeroOk P T0 z=true) (hu:(∃ n e,arrE P T0=some (n,e)∧(szOf P e).isSome=true)∨∃ fs pl,P.underlying T0=some (.struct fs)∧(fs.toList.mapM fun f=>(P.info? f.type).map fun i=>(f.offset,i.size))=some pl)
  (h1:buildParts z st parts=some (cs,st1)) (h2:st1.slots.getD m .any=.row sz es) (hoff:off<cs.length) :
  MuteS P L σ T ((st1.put m .any).put d (.tup true ((cs.map AV.pv).set off (.row sz es)))) a w o:=by
 unfold zeroOk at hz
 split at hz
 case h_2=>cases hz
 rename_i it hit
 split at hz
 case h_2=>cases hz
 rename_i zv hzv
 obtain ⟨hl,hpl⟩:=mParts_eq hm
 obtain ⟨T1,arr,k1,k2,k3,k4⟩:=Sim.build (placeOf P T0) h hpl hl (isLits_cells hz _ _) h1
 have e0:st1.get (.t m)=.row sz es:=h2
 obtain ⟨q1,q2,q3⟩:=k1.rowR hy e0
 obtain ⟨xa,c,e1,_⟩:=q3.slice
 have hsz:arr.size=cs.length:=k4.size
 obtain ⟨arr',harr⟩:∃ arr',arr'=arr.setIfInBounds off (a.eval y):=⟨_,rfl⟩
 have hfill:Instr.fill (placeOf P T0) zv.cells ((l++[(i,y)]).map fun p=>(p.1,a.eval p.2))=some arr':=by
  rw [List.map_append,fill_append,k3,harr]
  simp only [List.map_cons,List.map_nil,Option.bind_some,Instr.fill,hi]
  rw [e1]
  rw [if_neg (by simp [Value.cells];omega)]
  simp [Value.cells]
 have hbuilt:P.built T0 ((l++[(i,y)]).map fun p=>(p.1,a.eval p.2))=some arr':=by
  unfold Program.built
  rcases hu with ⟨n,e,he,hs⟩|⟨fs,pl,hfs,hpls⟩
  ·have hue:=arrE_eq he
   cases hie:P.info? e with
   |none=>simp [szOf,hie] at hs
   |some ie =>
    simp only [hit,hue,hzv,hie]
    rw [← hfill]
    congr 1
    funext i
    simp [placeOf,hue,szOf,hie]
  ·simp only [hit,hfs,hzv,hpls]
   rw [← hfill]
   congr 1
   funext i
   simp [placeOf,hfs,hpls]
 refine ⟨.agg arr',moved T1 (.slot m) (.part d off),fun w'=>?_,?_,k2.trans (Still.moved T1 _ _)⟩
 ·have hb:=run_build (P:=P) w' T0 ((l++[(i,y)]).map fun p=>(p.1,a.eval p.2)).toArray arr' (by simpa using hbuilt)
  simp only [List.map_append,List.map_cons,List.map_nil] at hb
  simp only [execOp,ho,List.map_toArray]
  simp [hb]
 ·rw [hd]
  refine (k1.forget m).putTup (T':=moved T1 (.slot m) (.part d off)) ⟨arr',rfl,by rw [harr];simp [hsz],fun k' x u hk hu=>?_⟩ (fun _ e=>moved_ro e) (fun _ _ e=>moved_box e) (fun b hb=>moved_other (k1.fresh b hb)) (fun t s l' ht hs b e=>?_) (fun t i' l' ht _ _ b e=>moved_row (by simp) (by simp;intro e2;exact absurd e2 ht) e) (fun _ _ _ e=>moved_row (by simp) (by simp) e)
  ·rw [List.getElem?_set] at hk
   rw [harr,Array.getElem?_setIfInBounds] at hu
   by_cases hko:off=k'
   ·subst hko
    rw [if_pos rfl] at hk hu
    split at hk
    ·cases hk
     split at hu
     ·cases hu
      exact RowRep.frame (fun b e _=>⟨moved_src e,rfl⟩) (fun b e _=>⟨moved_ro e,rfl⟩) q3
     ·cases hu
    ·cases hk
   ·rw [if_neg hko] at hk hu
    rw [List.getElem?_map] at hk
    cases e:cs[k']? with
    |none=>rw [e] at hk;cases hk
    |some v =>
     rw [e] at hk;cases hk
     exact (k4.rep k' v u e hu).frame fun b e _=>⟨moved_ro e,rfl⟩
  ·have htm:t≠m:=fun e=>by
    subst e
    simp only [St.put,List.getElem?_set,if_true] at hs
    split at hs<;>cases hs
   exact moved_row (by simpa using htm) (by simp) e
end
end Go.Proofs.YtpcncggjmabnaaaGreatDoor

namespace Go.Proofs.YtpcncggjmabnaaaGreatDoor
open Go.RowKit
section
variable {P:Program} {L:Nat} {σ σ':Nat→Nat} {T T':Tags} {st st' st1:St} {a:Act} {w w1:World} {o:Oper} {d n:Nat} {x x2:Opd} {y y2:Operand} {ok:Nat→Prop} {sz:Nat} {es es' ys:List PV} {xs zs:List Value}
 {rec:VCode→St→Option (Ex × St)} {env:Env}
theorem Sim.consumeAll:∀ {ys:List Operand} {xs:List Opd} {T:Tags} {st st1:St} {vs:List PV},Sim L σ T st a w→mAll ys xs=true→consumeAll st xs=some (vs,st1)→∃ T',Sim L σ T' st1 a w∧Still T T'∧st1.boxes.length=st.boxes.length∧vs.length=ys.length ∧
  ∀ (k:Nat) v y,vs[k]?=some v→ys[k]?=some y→PRep (fun b=>T' b=.ro) w v (a.eval y)
 |[],[],T,st,st1,vs,h,_,hc=>by
  simp only [Go.Proofs.YtpcncggjmabnaaaGreatDoor.consumeAll,Option.some.injEq,Prod.mk.injEq] at hc
  obtain ⟨rfl,rfl⟩:=hc
  exact ⟨T,h,Still.refl T,rfl,rfl,fun k v y hv=>by simp at hv⟩
 |[],_ :: _,_,_,_,_,_,hm,_=>by simp [mAll] at hm
 |_ :: _,[],_,_,_,_,_,hm,_=>by simp [mAll] at hm
 |y :: ys,x :: xs,T,st,st1,vs,h,hm,hc=>by
  simp only [mAll,Bool.and_eq_true] at hm
  simp only [Go.Proofs.YtpcncggjmabnaaaGreatDoor.consumeAll] at hc
  obtain ⟨⟨v,own,st2⟩,h1,hc1⟩:=bind_some hc
  obtain ⟨⟨vs',st3⟩,h2,hc2⟩:=bind_some hc1
  simp only [Option.some.injEq,Prod.mk.injEq] at hc2
  obtain ⟨rfl,rfl⟩:=hc2
  obtain ⟨T1,k1,k2,k3,k4⟩:=h.consumeF hm.1 h1
  obtain ⟨T2,q1,q2,q3,q4,q5⟩:=Sim.consumeAll k1 hm.2 h2
  refine ⟨T2,q1,k2.trans q2,q3.trans k3,by simp [q4],fun k v' y' hv hy=>?_⟩
  cases k with
  |zero =>
   simp only [List.getElem?_cons_zero,Option.some.injEq] at hv hy
   subst hv;subst hy
   exact k4.frame fun b hb _=>⟨q2.ro b hb,rfl⟩
  |succ k=>exact q5 k v' y' (by simpa using hv) (by simpa using hy)
theorem fill_row {place:Nat→Option (Nat × Nat)} (hpl:∀ i,place i=some (i * sz,sz)):∀ (us:List Value) (vs:List PV) (k:Nat) (arr:Array Value),us.length=vs.length→(∀ (i:Nat) u v,us[i]?=some u→vs[i]?=some v→PRep ok w v u∧v.cells.length=sz)→(k+us.length) * sz≤arr.size →
  ∃ arr',Instr.fill place arr ((us.zipIdx k).map fun p=>(p.2,p.1))=some arr'∧arr'.size=arr.size∧(∀ p,p<k * sz→arr'[p]?=arr[p]?)∧∀ i e j x,vs[i]?=some e→e.cells[j]?=some x→∃ u,arr'[(k+i) * sz+j]?=some u∧u.oneCell'=true∧PRep ok w x u
 |[],vs,k,arr,hl,_,_=>⟨arr,rfl,rfl,fun _ _=>rfl,fun i e j x hi=>by cases vs<;>simp at hl hi⟩
 |u :: us,[],k,arr,hl,_,_=>by simp at hl
 |u :: us,v :: vs,k,arr,hl,hp,hs=>by
  obtain ⟨h1,h2⟩:=hp 0 u v rfl rfl
  have hc:=h1.cells
  have hcs:u.cells.size=sz:=by rw [hc.size,h2]
  have hks:k * sz+sz≤arr.size:=by
   have:(k+1) * sz≤(k+(us.length+1)) * sz:=Nat.mul_le_mul_right _ (by omega)
   rw [Nat.add_mul,Nat.one_mul] at this
   simp at hs;omega
  have e0:(u.cells.zipIdx).foldl (fun cs (p:Value × Nat)=>cs.setIfInBounds (k * sz+p.2) p.1) arr=(u.cells.toList.zipIdx 0).foldl (fun cs (p:Value × Nat)=>cs.setIfInBounds (k * sz+p.2) p.1) arr:=by
   rw [← Array.foldl_toList,Array.toList_zipIdx]
  have hget:=foldl_set arr (k * sz) u.cells.toList 0 arr (by simp [hcs];omega)
  obtain ⟨arr',g1,g2,g3,g4⟩:=fill_row hpl us vs (k+1) ((u.cells.toList.zipIdx 0).foldl (fun cs (p:Value × Nat)=>cs.setIfInBounds (k * sz+p.2) p.1) arr) (by simpa using hl) (fun i u' v' hu hv=>hp (i+1) u' v' (by simpa using hu) (by simpa using hv)) (by rw [foldl_size];simp at hs;rw [show k+1+us.length=k+(us.length+1) by omega];exact hs)
  refine ⟨arr',?_,by rw [g2,foldl_size],fun p hp'=>?_,fun i e j x hi hj=>?_⟩
  ·simp only [List.zipIdx_cons,List.map_cons,Instr.fill,hpl]
   rw [if_neg (by simp [hcs];omega)]
   exact (congrArg (fun c=>Instr.fill place c _) e0).trans g1
  ·rw [g3 p (by rw [Nat.add_mul];omega),hget,if_neg (by omega)]
  ·cases i with
   |zero =>
    simp only [List.getElem?_cons_zero,Option.some.injEq] at hi
    subst hi
    have hj':j<sz:=by rw [← h2];exact (List.getElem?_eq_some_iff.1 hj).1
    have e2:u.cells[j]?=some u.cells[j]:=Array.getElem?_eq_getElem (by omega)
    refine ⟨u.cells[j],?_,hc.one j _ e2,hc.rep j x _ hj e2⟩
    rw [Nat.add_zero,g3 _ (by rw [Nat.add_mul];omega),hget,if_pos ⟨by omega,by simp [hcs];omega⟩,show k * sz+j - (k * sz+0)=j by omega]
    simpa using e2
   |succ i =>
    obtain ⟨u',q1,q2,q3⟩:=g4 i e j x (by simpa using hi) hj
    exact ⟨u',by rw [show k+(i+1)=k+1+i by omega];exact q1,q2,q3⟩
def numbered:Nat→List (Nat × Operand)→Bool
 |_,[]=>true
 |k,(i,_) :: l=>i==k&&numbered (k+1) l
theorem numbered_eq:∀ {k:Nat} {l:List (Nat × Operand)},numbered k l=true→(l.map fun p=>(p.1,a.eval p.2))=((l.map fun p=>a.eval p.2).zipIdx k).map fun p=>(p.2,p.1)
 |_,[],_=>rfl
 |k,(i,y) :: l,h=>by
  simp only [numbered,Bool.and_eq_true,beq_iff_eq] at h
  simp only [List.map_cons,List.zipIdx_cons,numbered_eq h.2,h.1]
theorem does_mksl {T0 len:Nat} {l:List (Nat × Operand)} {xs:List Opd} (h:Sim L σ T st a w) (hd:o.dst=some d) (ho:o.op=.buildSlice T0 len l.toArray) (hm:mAll (l.map (·.2)) xs=true) (hn:numbered 0 l=true) (hlen:len=l.length) (he:elemOk P T0 sz=true) (hlim:len * sz≤16777216)
  (hp:act rec env (.mksl d sz xs) st=some st'):Does P L σ T st.boxes.length st' a w o true:=by
 simp only [act] at hp
 obtain ⟨⟨vs,st1⟩,h1,hp1⟩:=bind_some hp
 clear hp
 simp only at hp1
 split at hp1
 case isFalse=>cases hp1
 rename_i hall
 have hp:=Option.some.inj hp1
 clear hp1
 subst hp
 obtain ⟨e,i,z,g1,g2,g3,g4,g5,g6,g7⟩:=elemOk_eq he
 obtain ⟨T1,k1,k2,k3,k4,k5⟩:=h.consumeAll hm h1
 have hwid:∀ v∈vs,v.cells.length=sz:=fun v hv=>by have:=List.all_eq_true.1 hall v hv;exact beq_iff_eq.1 this
 obtain ⟨zarr,hzarr⟩:∃ zarr:Array Value,zarr=(if len * sz=0 then #[] else z.cells):=⟨_,rfl⟩
 obtain ⟨arr0,harr0⟩:∃ arr0,arr0=(Array.range (len * sz)).map (zarr[· % zarr.size]!):=⟨_,rfl⟩
 have hvl:vs.length=l.length:=by simpa using k4
 obtain ⟨arr,q1,q2,q3,q4⟩:=fill_row (ok:=fun b=>T1 b=.ro) (w:=w) (sz:=sz) (place:=fun i=>some (i * sz,sz)) (fun _=>rfl) (l.map fun p=>a.eval p.2) vs 0 arr0 (by simp [hvl]) (fun i u v hu hv=>by
  rw [List.getElem?_map] at hu
  cases e:l[i]? with
  |none=>rw [e] at hu;cases hu
  |some p =>
   rw [e] at hu;cases hu
   exact ⟨k5 i v p.2 hv (by rw [List.getElem?_map,e];rfl),hwid v (List.mem_of_getElem? hv)⟩) (by rw [harr0];simp [hlen])
 rw [← numbered_eq hn] at q1
 have hrun:(Instr.buildSlice T0 len (l.map fun p=>(p.1,a.eval p.2)).toArray).run P w=.ok (.slice (some ⟨w.heap.size,0,none⟩) len len) (w.alloc (.cells arr e)):=by
  have hl2:¬ (len * sz > 2 ^ 24):=by omega
  unfold Instr.buildSlice
  simp only [Sem.run_bind,run_underlying g1,Result.andThen_ok,run_szOf (P:=P) (T:=e) (n:=sz) (by simp [szOf,g2,g3]),if_neg hl2,Sem.run_pure]
  by_cases h0:len * sz=0
  ·rw [if_pos h0] at hzarr
   rw [if_pos h0]
   simp only [Sem.run_bind,Sem.run_pure,Result.andThen_ok]
   rw [hzarr] at harr0
   rw [← harr0,q1]
   simp [newRow,newObj,Sem.run]
   try rfl
  ·rw [if_neg h0] at hzarr
   rw [if_neg h0]
   simp only [Sem.run_bind,Sem.run_pure,Result.andThen_ok,zeroValue,typeInfo,program,Sem.run,g2,g5]
   rw [hzarr] at harr0
   rw [← harr0,q1]
   simp [newRow,newObj,Sem.run]
   try rfl
 refine ⟨_,.slice (some ⟨w.heap.size,0,none⟩) len len,w.alloc (.cells arr e),σ,upd T1 w.heap.size (.row (.slot d)),?_,.inl rfl,?_,(k2.chg w).trans (chg_alloc (k1.fresh _ (Nat.le_refl _)) _ _),fun _ _=>rfl,fun _=>whole_alloc _ _⟩
 ·simp only [execOp,ho,List.map_toArray]
  simp [hrun]
 ·rw [hd]
  have hsz:arr.size=len * sz:=by rw [q2,harr0];simp
  have key:=k1.allocRow (d:=d) (sz:=sz) (c:=len) (E:=e) (es:=vs) (arr:=arr) hsz (by omega) (Nat.le_trans (Nat.le_mul_of_pos_right _ g4) (by unfold maxLen;omega)) hwid (fun i e j x hi hj=>by have:=q4 i e j x hi hj;rwa [Nat.zero_add] at this)
  rw [hvl,← hlen] at key
  exact key
end
end Go.Proofs.YtpcncggjmabnaaaGreatDoor

namespace Go.Proofs.YtpcncggjmabnaaaGreatDoor
open Go.RowKit
def Mono (st st':St):Prop:=st.boxes.length≤st'.boxes.length∧st'.ys=st.ys∧st'.stop=st.stop
theorem Mono.refl (st:St):Mono st st:=⟨Nat.le_refl _,rfl,rfl⟩
theorem Mono.trans {a b c:St} (h:Mono a b) (k:Mono b c):Mono a c:=⟨Nat.le_trans h.1 k.1,k.2.1.trans h.2.1,k.2.2.trans h.2.2⟩
theorem Mono.put {st st':St} (h:Mono st st') (d:Nat) (v:AV):Mono st (st'.put d v):=h
theorem Mono.putRow {st st':St} (h:Mono st st') (d sz:Nat) (es:List PV):Mono st (st'.putRow d sz es):=h
theorem Mono.setCell {st st':St} (h:Mono st st') (o j:Nat) (v:BV):Mono st (st'.setCell o j v):=by
 unfold St.setCell;split
 ·unfold Mono at *;simpa using h
 ·exact h
theorem Mono.setCellRow {st st':St} (h:Mono st st') (o j sz:Nat) (es:List PV):Mono st (st'.setCellRow o j sz es):=h.setCell o j _
theorem Mono.freeze {st st':St} (h:Mono st st') (r:Root):Mono st (st'.freeze r):=by
 refine ⟨by rw [freeze_boxes];exact h.1,?_,?_⟩
 ·unfold St.freeze;split
  ·split<;>first|exact h.2.1|(unfold St.setCell;split<;>exact h.2.1)
  ·exact h.2.1
 ·unfold St.freeze;split
  ·split<;>first|exact h.2.2|(unfold St.setCell;split<;>exact h.2.2)
  ·exact h.2.2
theorem Mono.freezeRows {st st':St} (h:Mono st st') (o:Nat):Mono st (st'.freezeRows o):=by
 unfold St.freezeRows;split
 ·unfold Mono at *;simpa using h
 ·exact h
theorem Mono.freezeBox {st st':St} (h:Mono st st') (o:Nat):Mono st (st'.freezeBox o):=by
 unfold St.freezeBox;split
 ·unfold Mono at *;simpa using h
 ·exact h
theorem Mono.freezeAts:∀ (fz:List Opd) {st st':St},Mono st st'→Mono st (fz.foldl St.freezeAt st')
 |[],_,_,h=>h
 |x :: fz,st,st',h=>by
  refine Mono.freezeAts fz ?_
  unfold St.freezeAt
  split
  ·exact h.freezeBox _
  ·exact h
theorem Mono.takeRow {st st':St} (h:Mono st st') (r:Root):Mono st (st'.takeRow r):=by
 cases r
 ·exact h
 ·exact h
 ·exact h.setCell _ _ _
theorem Mono.setRow {st st':St} (h:Mono st st') (r:Root) (sz:Nat) (es:List PV):Mono st (st'.setRow r sz es):=by
 cases r
 ·exact h
 ·exact h
 ·exact h.setCell _ _ _
theorem Mono.lay {st st':St} (h:Mono st st') (d:Nat) (v:PV) (own:Bool):Mono st (st'.lay d v own):=by
 unfold St.lay;split
 ·split<;>exact h
 ·exact h
theorem Mono.layAll {st st':St} (h:Mono st st') (d:Nat) (l:List Res):Mono st (st'.layAll d l):=by
 unfold St.layAll;split
 ·exact h.lay _ _ _
 ·exact h
theorem Mono.freezeArg1 {st st':St} (h:Mono st st') (x:Opd) (v:AV):Mono st (st'.freezeArg1 x v):=by
 unfold St.freezeArg1
 split
 ·split
  ·exact h.freeze _
  ·exact h
 ·exact h.freeze _
 ·exact h.freeze _
 ·exact h.freezeBox _
 ·exact h
theorem Mono.foldl {β:Type} {st:St} {f:St→β→St} (hf:∀ s x,Mono st s→Mono st (f s x)):∀ (l:List β) (s:St),Mono st s→Mono st (l.foldl f s)
 |[],_,h=>h
 |x :: l,s,h=>Mono.foldl hf l _ (hf s x h)
theorem Mono.freezeArg {st st':St} (h:Mono st st') (x:Opd):Mono st (st'.freezeArg x):=by
 unfold St.freezeArg
 split
 ·exact Mono.foldl (fun s v hs=>hs.freezeArg1 _ _) _ _ h
 ·exact h.freezeArg1 _ _
theorem Mono.freezeCaps:∀ (caps:List AV) {st st':St},Mono st st'→Mono st (caps.foldl St.freezeCap st')
 |[],_,_,h=>h
 |v :: caps,st,st',h=>by
  refine Mono.freezeCaps caps ?_
  unfold St.freezeCap
  split
  ·exact h.freezeBox _
  ·exact h
theorem consume_mono {st st':St} {x:Opd} {v:PV} {own:Bool} (h:st.consume x=some (v,own,st')):Mono st st':=by
 cases x with
 |c v'=>simp only [St.consume,Option.some.injEq,Prod.mk.injEq] at h;rw [← h.2.2];exact Mono.refl _
 |nil sz=>simp only [St.consume,Option.some.injEq,Prod.mk.injEq] at h;rw [← h.2.2];exact Mono.refl _
 |t n =>
  simp only [St.consume] at h
  split at h
  ·simp only [Option.some.injEq,Prod.mk.injEq] at h;rw [← h.2.2];exact Mono.refl _
  ·simp only [Option.some.injEq,Prod.mk.injEq] at h;rw [← h.2.2];exact Mono.refl _
  ·split at h
   ·split at h
    ·simp only [Option.some.injEq,Prod.mk.injEq] at h;rw [← h.2.2];exact (Mono.refl _).freeze _
    ·cases h
   ·cases h
  ·split at h
   ·simp only [Option.some.injEq,Prod.mk.injEq] at h;rw [← h.2.2];exact Mono.freezeCaps _ (Mono.refl _)
   ·cases h
  ·cases h
theorem consumeAll_mono:∀ {xs:List Opd} {st st':St} {vs:List PV},consumeAll st xs=some (vs,st')→Mono st st'
 |[],st,st',vs,h=>by simp only [consumeAll,Option.some.injEq,Prod.mk.injEq] at h;rw [← h.2];exact Mono.refl _
 |x :: xs,st,st',vs,h=>by
  simp only [consumeAll] at h
  obtain ⟨⟨v,own,st2⟩,h1,h2⟩:=bind_some h
  obtain ⟨⟨vs',st3⟩,h3,h4⟩:=bind_some h2
  simp only [Option.some.injEq,Prod.mk.injEq] at h4
  rw [← h4.2]
  exact (consume_mono h1).trans (consumeAll_mono h3)
theorem buildParts_mono:∀ {l:List (Nat × Nat × Opd)} {cs cs':List PV} {st st':St},buildParts cs st l=some (cs',st')→Mono st st'
 |[],cs,cs',st,st',h=>by simp only [buildParts,Option.some.injEq,Prod.mk.injEq] at h;rw [← h.2];exact Mono.refl _
 |(off,n,x) :: l,cs,cs',st,st',h=>by
  simp only [buildParts] at h
  obtain ⟨⟨v,own,st2⟩,h1,h2⟩:=bind_some h
  obtain ⟨cs2,h3,h4⟩:=bind_some h2
  simp only at h4
  split at h4
  ·exact (consume_mono h1).trans (buildParts_mono h4)
  ·cases h4
theorem grab_mono {st st':St} {x:Opd} {sz:Nat} {es:List PV} (h:st.grab x=some (sz,es,st')):Mono st st':=by
 cases x with
 |c v'=>simp [St.grab] at h
 |nil s=>simp only [St.grab,Option.some.injEq,Prod.mk.injEq] at h;rw [← h.2.2];exact Mono.refl _
 |t n =>
  simp only [St.grab] at h
  split at h
  case h_1=>simp only [Option.some.injEq,Prod.mk.injEq] at h;rw [← h.2.2];exact Mono.refl _
  case h_2 =>
   split at h
   ·split at h
    ·simp only [Option.some.injEq,Prod.mk.injEq] at h;rw [← h.2.2];exact (Mono.refl _).takeRow _
    ·cases h
   ·cases h
  case h_3=>simp only [Option.some.injEq,Prod.mk.injEq] at h;rw [← h.2.2];exact Mono.refl _
  case h_4=>cases h
theorem plain_mono {o:VOp} {st st':St} (h:plain o st=some st'):Mono st st':=by
 cases o<;>simp only [plain] at h
 case load d n p =>
  split at h
  ·obtain ⟨v,_,h⟩:=bind_some h;rw [← Option.some.inj h];exact Mono.refl _
  ·obtain ⟨v,_,h⟩:=bind_some h
   obtain ⟨v,_,h⟩:=bind_some h
   obtain ⟨v,_,h⟩:=bind_some h
   rw [← Option.some.inj h];exact Mono.refl _
  ·obtain ⟨bx,_,h1⟩:=bind_some h
   clear h
   split at h1
   ·split at h1
    ·rw [← Option.some.inj h1];exact Mono.refl _
    ·split at h1
     ·cases h1
     ·rw [← Option.some.inj h1];exact Mono.refl _
    ·cases h1
   ·obtain ⟨v,_,h⟩:=bind_some h1;rw [← Option.some.inj h];exact ((Mono.refl _).freezeRows _)
  ·cases h
 case bldo d z parts off m =>
  replace h:=bind_some h
  obtain ⟨⟨cs,st1⟩,h1,h⟩:=h
  simp only at h
  split at h
  ·split at h
   ·rw [← Option.some.inj h];exact ((buildParts_mono h1).put _ _).put _ _
   ·cases h
  ·cases h
 case build d z parts =>
  obtain ⟨⟨cs,st1⟩,h1,h2⟩:=bind_some h
  rw [← Option.some.inj h2];exact (buildParts_mono h1).put _ _
 case mvz d x =>
  split at h
  ·split at h
   ·rw [← Option.some.inj h];exact (Mono.refl _).put _ _
   ·rw [← Option.some.inj h];exact ((Mono.refl _).freeze _).put _ _
   ·cases h
  ·cases h
 case asl d n x =>
  split at h
  ·split at h
   ·split at h
    ·rw [← Option.some.inj h];exact ((Mono.refl _).freezeBox _).put _ _
    ·cases h
   ·cases h
  ·cases h
 case asz d n sz x =>
  split at h
  ·split at h
   ·split at h
    ·rw [← Option.some.inj h];exact ((Mono.refl _).freezeBox _).put _ _
    ·cases h
   ·cases h
  ·cases h
 case sl3 d sz x hi mx =>
  obtain ⟨_,_,h2⟩:=bind_some h
  clear h
  obtain ⟨_,_,h⟩:=bind_some h2
  clear h2
  split at h
  ·obtain ⟨_,_,h2⟩:=bind_some h
   clear h
   obtain ⟨_,_,h⟩:=bind_some h2
   clear h2
   split at h
   ·rw [← Option.some.inj h];exact (Mono.refl _).put _ _
   ·cases h
  ·obtain ⟨_,_,h2⟩:=bind_some h
   clear h
   obtain ⟨_,_,h⟩:=bind_some h2
   clear h2
   obtain ⟨_,_,h2⟩:=bind_some h
   clear h
   split at h2
   ·rw [← Option.some.inj h2];exact ((Mono.refl _).freeze _).put _ _
   ·cases h2
  ·cases h
 case ldm d n p =>
  split at h
  ·obtain ⟨b,_,h1⟩:=bind_some h
   clear h
   split at h1
   ·cases h1
   ·rw [← Option.some.inj h1];unfold Mono;simp [St.put]
  ·cases h
 case ldz d n x =>
  split at h
  ·split at h
   ·split at h
    ·obtain ⟨v,_,h⟩:=Option.map_eq_some_iff.1 h
     subst h;exact (Mono.refl _).put _ _
    ·cases h
   ·cases h
  ·obtain ⟨v,_,h⟩:=Option.map_eq_some_iff.1 h
   subst h;exact (Mono.refl _).put _ _
  ·cases h
 all_goals
  repeat' (first
   |(have h2:=Option.some.inj h;subst h2;first|exact Mono.refl _|exact (Mono.refl _).put _ _|exact (Mono.refl _).putRow _ _ _)
   |(cases h;done)
   |(replace h:=bind_some h;obtain ⟨_,_,h⟩:=h)
   |split at h)
theorem callOn_mono {rec:VCode→St→Option (Ex × St)} {env:Env} {d f:Nat} {args:List Opd} {caps:List AV} {st st':St} (h:callOn rec env d f args caps st=some st'):Mono st st':=by
 unfold callOn at h
 replace h:=bind_some h
 obtain ⟨l,_,h⟩:=h
 replace h:=bind_some h
 obtain ⟨k,_,h⟩:=h
 replace h:=bind_some h
 obtain ⟨rs,_,h⟩:=h
 have h:=Option.some.inj h
 subst h
 refine Mono.layAll ?_ _ _
 split
 ·exact Mono.foldl (fun s v hs=>hs.freezeArg1 _ _) _ _ (Mono.foldl (fun s v hs=>hs.freezeArg _) _ _ (Mono.refl _))
 ·exact Mono.refl _
theorem takeLin_mono {st st':St} {x:Opd} {la:LArg} {bo:Option Nat} (h:takeLin st x=some (la,bo,st')):Mono st st':=by
 unfold takeLin at h
 split at h
 ·split at h
  ·cases h;exact (Mono.refl _).put _ _
  ·cases h
 ·split at h
  ·split at h
   ·cases h
   ·cases h;exact (Mono.refl _).freezeRows _
  ·cases h
 ·cases hg:st.grab x with
  |none=>rw [hg] at h;cases h
  |some q =>
   obtain ⟨sz,es,s⟩:=q
   rw [hg] at h;cases h
   exact grab_mono hg
theorem backLin_mono {st st':St} {bo:Option Nat} {out:Option (List PV)} (h:backLin st bo out=some st'):Mono st st':=by
 unfold backLin at h
 split at h
 ·cases h;exact Mono.refl _
 ·split at h
  ·cases h;unfold Mono;simp
  ·cases h
 ·cases h
theorem callOnL_mono {rec:VCode→St→Option (Ex × St)} {env:Env} {d f:Nat} {x:Opd} {args:List Opd} {caps:List AV} {st st':St} (h:callOnL rec env d f x args caps st=some st'):Mono st st':=by
 unfold callOnL callOnL0 at h
 replace h:=bind_some h
 obtain ⟨l,_,h⟩:=h
 replace h:=bind_some h
 obtain ⟨k,_,h⟩:=h
 replace h:=bind_some h
 obtain ⟨⟨la,bo,s1⟩,h1,h⟩:=h
 replace h:=bind_some h
 obtain ⟨r,_,h⟩:=h
 replace h:=bind_some h
 obtain ⟨s2,h2,h⟩:=h
 have h:=Option.some.inj h
 subst h
 split at h1
 ·cases h1
 ·exact ((Mono.foldl (fun s x hs=>hs.freezeArg x) _ _ (Mono.refl _)).trans ((takeLin_mono h1).trans (backLin_mono h2))).layAll _ _
theorem act_mono {rec:VCode→St→Option (Ex × St)} {env:Env} {o:VOp} {st st':St} (hv:∀ d x xs,o≠.yield d x xs) (h:act rec env o st=some st'):Mono st st':=by
 cases o<;>simp only [act] at h
 case alloc d z=>rw [← Option.some.inj h];unfold Mono;simp [St.put]
 case box d x =>
  replace h:=bind_some h
  obtain ⟨⟨v,own,st1⟩,h1,h⟩:=h
  rw [← Option.some.inj h]
  refine (consume_mono h1).trans ?_
  unfold Mono;simp [St.put]
 case store d n p x =>
  replace h:=bind_some h
  obtain ⟨⟨v,own,st1⟩,h1,h⟩:=h
  refine (consume_mono h1).trans ?_
  simp only at h
  split at h
  ·replace h:=bind_some h
   obtain ⟨b,_,h⟩:=h
   split at h
   ·cases h
   ·split at h
    ·rw [← Option.some.inj h];exact (Mono.refl _).setCellRow _ _ _ _
    ·rw [← Option.some.inj h];unfold Mono;simp
  ·replace h:=bind_some h
   obtain ⟨⟨s,l⟩,_,h⟩:=h
   replace h:=bind_some h
   obtain ⟨e,_,h⟩:=h
   split at h
   ·replace h:=bind_some h
    obtain ⟨cs,_,h⟩:=h
    replace h:=bind_some h
    obtain ⟨e',_,h⟩:=h
    rw [← Option.some.inj h];exact (Mono.refl _).setRow _ _ _
   ·cases h
  ·cases h
 case mksl d sz parts =>
  replace h:=bind_some h
  obtain ⟨⟨vs,st1⟩,h1,h⟩:=h
  simp only at h
  split at h
  ·rw [← Option.some.inj h];exact (consumeAll_mono h1).putRow _ _ _
  ·cases h
 case make d z n c =>
  repeat' (first
   |(have h2:=Option.some.inj h;subst h2;first|exact Mono.refl _|exact (Mono.refl _).put _ _|exact (Mono.refl _).putRow _ _ _)
   |(cases h;done)
   |(replace h:=bind_some h;obtain ⟨_,_,h⟩:=h)
   |split at h)
 case app d sz x y =>
  replace h:=bind_some h
  obtain ⟨⟨sy,ys⟩,_,h⟩:=h
  replace h:=bind_some h
  obtain ⟨⟨sx,es,st1⟩,h1,h⟩:=h
  simp only at h
  split at h
  ·rw [← Option.some.inj h];exact (grab_mono h1).putRow _ _ _
  ·cases h
 case apb d x y =>
  replace h:=bind_some h
  obtain ⟨⟨sy,ys⟩,_,h⟩:=h
  replace h:=bind_some h
  obtain ⟨⟨sx,es,st1⟩,h1,h⟩:=h
  simp only at h
  split at h
  ·rw [← Option.some.inj h];exact (grab_mono h1).putRow _ _ _
  ·cases h
 case apf d sz x y =>
  replace h:=bind_some h
  obtain ⟨⟨sy,ys⟩,_,h⟩:=h
  simp only at h
  split at h
  ·split at h
   ·rw [← Option.some.inj h];exact ((Mono.refl _).putRow _ _ _).put _ _
   ·cases h
  ·cases h
 case cpy d sz x y =>
  replace h:=bind_some h
  obtain ⟨⟨sy,ys⟩,_,h⟩:=h
  replace h:=bind_some h
  obtain ⟨⟨r,off,len⟩,_,h⟩:=h
  replace h:=bind_some h
  obtain ⟨⟨sx,es⟩,h1,h⟩:=h
  simp only at h
  split at h
  ·rw [← Option.some.inj h];exact ((Mono.refl _).setRow _ _ _).put _ _
  ·cases h
 case bxw d x =>
  split at h
  ·split at h
   ·replace h:=bind_some h
    obtain ⟨cs,_,h⟩:=h
    rw [← Option.some.inj h];unfold Mono;simp [St.put]
   ·cases h
  ·cases h
 case stw n p x =>
  split at h
  ·split at h
   ·split at h
    ·replace h:=bind_some h
     obtain ⟨b,_,h⟩:=h
     replace h:=bind_some h
     obtain ⟨cs,_,h⟩:=h
     split at h
     ·cases h
     ·rw [← Option.some.inj h];unfold Mono;simp [St.put]
    ·cases h
   ·split at h
    ·replace h:=bind_some h
     obtain ⟨b,_,h⟩:=h
     split at h
     ·cases h
     ·rw [← Option.some.inj h];unfold Mono;simp
    ·cases h
   ·cases h
  ·cases h
 case srt d f x g =>
  split at h
  ·replace h:=bind_some h
   obtain ⟨⟨r,off,len⟩,_,h⟩:=h
   replace h:=bind_some h
   obtain ⟨⟨sx,es⟩,h1,h⟩:=h
   replace h:=bind_some h
   obtain ⟨c,_,h⟩:=h
   replace h:=bind_some h
   obtain ⟨es',_,h⟩:=h
   simp only at h
   split at h
   ·rw [← Option.some.inj h];exact ((Mono.refl _).setRow _ _ _).put _ _
   ·cases h
  ·cases h
 case call d f args=>exact callOn_mono h
 case lin d f x args=>exact callOnL_mono h
 case linv d g x args =>
  split at h
  ·exact callOnL_mono h
  ·exact callOnL_mono h
  ·cases h
 case callv d x args =>
  split at h
  ·exact callOn_mono h
  ·exact callOn_mono h
  ·cases h
 case yield d x args=>exact absurd rfl (hv _ _ _)
 all_goals cases h
end Go.Proofs.YtpcncggjmabnaaaGreatDoor

namespace Go.Proofs.YtpcncggjmabnaaaGreatDoor
open Go.RowKit
section
variable {P:Program} {L:Nat} {σ σ':Nat→Nat} {T T':Tags} {st st' st1:St} {a:Act} {w w1:World} {o:Oper} {d n:Nat} {x x2 x3:Opd} {y y2 y3:Operand} {ok:Nat→Prop} {sz:Nat} {es ys:List PV} {xs zs:List Value}
 {rec:VCode→St→Option (Ex × St)} {env:Env}
theorem run_sl3At {T0 e sz n c k:Nat} {xa:Option Addr} {q q':IntKind} (ht:sliceE P T0=some e) (hs:szOf P e=some sz) (hnc:n≤c) (hk:k≤n) (w:World) :
  (Instr.sliceAt T0 (.slice xa n c) none (some (.int q (k:Int))) (some (.int q' (k:Int)))).run P w=.ok (.slice xa k k) w:=by
 have h1:(Instr.sliceBounds true n c none (some (.int q (k:Int))) (some (.int q' (k:Int)))).run P w=.ok (0,k,k) w:=by
  unfold Instr.sliceBounds
  simp [run_sliceBound _ (show k≤c by omega),run_sliceBound _ (Nat.le_refl k)]
 have h2:(xa.map fun a=>a.add 0)=xa:=by cases xa<;>simp [Addr.add]
 simp [Instr.sliceAt,run_underlying (sliceE_eq ht),Instr.slice,h1,run_szOf hs,h2]
theorem PRep.takeL {xa:Option Addr} {c:Nat} (h:PRep ok w (.list sz es) (.slice xa es.length c)) {k:Nat} (hk:k≤es.length):PRep ok w (.list sz (es.take k)) (.slice xa (es.take k).length (es.take k).length):=by
 obtain ⟨xa',c',e1,k1,k2,k3⟩:=h.list_inv
 injection e1 with e1 _ e3
 subst e1;subst e3
 have hl:(es.take k).length=k:=by simp;omega
 refine PRep.list_mk (Nat.le_refl _) (by rw [hl];omega) (fun e=>.inl (by rw [e];rfl)) (fun hpos=>?_)
 obtain ⟨b,off,hx,m1,m2,m3,m4⟩:=k3 (by omega)
 refine ⟨b,off,hx,m1,m2,fun el he=>m3 el (List.mem_of_mem_take he),fun i el hi=>?_⟩
 rw [List.getElem?_take] at hi
 split at hi
 ·exact m4 i el hi
 ·cases hi
theorem looks_sl3 {T0 e sz:Nat} (h:Sim L σ T st a w) (hd:o.dst=some d) (ho:o.op=.slice T0 y none (some y2) (some y3)) (hm:mOpd y x=true) (hm2:mOpd y2 x2=true) (hm3:mOpd y3 x3=true) (ht:sliceE P T0=some e) (hs:szOf P e=some sz)
  (hp:plain (.sl3 d sz x x2 x3) st=some st'):Looks P L σ T st' a w o:=by
 simp only [plain] at hp
 obtain ⟨hv,h1,hp1⟩:=bind_some hp
 clear hp
 obtain ⟨mv,h2,hp⟩:=bind_some hp1
 clear hp1
 have hb:∀ {n k k':Nat},bound (some mv) n n=some k→bound (some hv) k k=some k'→k'=k→k≤n∧(∃ q,a.eval y2=.int q (k:Int))∧∃ q,a.eval y3=.int q (k:Int):=fun {n k k'} g1 g2 g3=>by
  subst g3
  rcases bound_eq g1 with ⟨e,_⟩|⟨q,e,l⟩
  ·cases e
  rcases bound_eq g2 with ⟨e',_⟩|⟨q',e',l'⟩
  ·cases e'
  cases e;cases e'
  exact ⟨l,⟨q',(h.pv hm2 h1).int_inv⟩,⟨q,(h.pv hm3 h2).int_inv⟩⟩
 split at hp
 case h_1 s es ex =>
  obtain ⟨k,g1,hp⟩:=bind_some hp
  obtain ⟨k',g2,hp⟩:=bind_some hp
  split at hp
  case isFalse=>cases hp
  rename_i hc
  obtain ⟨rfl,hkk⟩:=hc
  have hp:=Option.some.inj hp
  subst hp
  obtain ⟨hle,⟨q,e2⟩,⟨q',e3⟩⟩:=hb g1 g2 hkk
  have r:=h.pv hm (show st.pvOf x=some (.list s es) by simp [St.pvOf,ex])
  obtain ⟨xa,c,e1,k1,k2,k3⟩:=r.list_inv
  rw [e1] at r
  have hr:=r.takeL hle
  have hl:(es.take k).length=k:=by simp;omega
  refine ⟨.slice xa k k,T,fun w' _=>?_,?_,Still.refl T⟩
  ·have:=run_sl3At (P:=P) (xa:=xa) (q:=q) (q':=q') ht hs k1 hle w'
   simp [execOp,ho,e1,e2,e3,this]
  ·rw [hd]
   refine h.put (fun _ _ e=>by cases e) ?_
   rw [hl] at hr
   exact ⟨hr,xa,by rw [hl]⟩
 case h_2 r len ex =>
  obtain ⟨⟨s,es⟩,hrow,hp⟩:=bind_some hp
  simp only at hp
  obtain ⟨k,g1,hp⟩:=bind_some hp
  obtain ⟨k',g2,hp⟩:=bind_some hp
  split at hp
  case isFalse=>cases hp
  rename_i hc
  obtain ⟨hle0,rfl,hkk⟩:=hc
  have hp:=Option.some.inj hp
  subst hp
  obtain ⟨hle,⟨q,e2⟩,⟨q',e3⟩⟩:=hb g1 g2 hkk
  obtain ⟨T1,f1,f2,f3,f4,_⟩:=h.freeze r
  have hrr:=h.refR hm ex s es hrow
  have r0:=h.refList (off:=0) hrow hrr (by omega) (f4 s es hrow) f2.ro
  rw [List.drop_zero] at r0
  obtain ⟨xa,c,e1,k1,k2,k3⟩:=r0.list_inv
  rw [e1] at r0
  have hlen:(es.take len).length=len:=by simp;omega
  have hr:=r0.takeL (k:=k) (by omega)
  have htt:(es.take len).take k=es.take k:=by rw [List.take_take,Nat.min_eq_left hle]
  rw [htt] at hr
  have hl:(es.take k).length=k:=by simp;omega
  refine ⟨.slice xa k k,T1,fun w' _=>?_,?_,f2⟩
  ·have:=run_sl3At (P:=P) (xa:=xa) (q:=q) (q':=q') ht hs k1 (by omega:k≤(es.take len).length) w'
   generalize (es.take len).length=nn at *
   simp [execOp,ho,e1,e2,e3,this]
  ·rw [hd]
   refine f1.put (fun _ _ e=>by cases e) ?_
   rw [hl] at hr
   exact ⟨hr,xa,by rw [hl]⟩
 case h_3=>cases hp
theorem Sim.getFul (h:Sim L σ T st a w) (hm:mOpd y x=true) (hg:st.get x=.ful sz es):PRep (fun b=>T b=.ro) w (.list sz es) (a.eval y)∧∃ xa,a.eval y=.slice xa es.length es.length:=by
 rcases h.get hm with ⟨t,e,(⟨_,g⟩|g)⟩|⟨v',e,_⟩|⟨s,e,_⟩
 ·rw [hg] at g;exact g
 ·rw [hg] at g;cases g
 ·subst e;simp [St.get] at hg
 ·subst e;simp [St.get] at hg
theorem putRow_put (st:St) (d sz:Nat) (es:List PV) (v:AV):(st.putRow d sz es).put d v=(st.putRow d sz []).put d v:=by
 simp [St.putRow,St.put,List.set_set]
theorem putRow_freeze (st:St) (d sz:Nat) (es:List PV):(st.putRow d sz es).freeze (.slot d)=(st.putRow d sz []).put d (.pv (.list sz es)):=by
 by_cases hd:d<st.slots.length
 ·have:(st.putRow d sz es).row (.slot d)=some (sz,es):=by simp [St.row,St.putRow,hd]
  rw [show (st.putRow d sz es).freeze (.slot d)=(st.putRow d sz es).put d (.pv (.list sz es)) by simp [St.freeze,this],putRow_put]
 ·have h1:st.putRow d sz es=st.putRow d sz []:=by
   simp only [St.putRow]
   rw [List.set_eq_of_length_le (by simp;omega),List.set_eq_of_length_le (by simp;omega)]
  have h2:(st.putRow d sz []).row (.slot d)=none:=by
   have:(st.putRow d sz []).slots[d]?=none:=List.getElem?_eq_none (by simp [St.putRow];omega)
   simp [St.row,this]
  rw [h1]
  simp only [St.freeze,h2,St.put]
  rw [List.set_eq_of_length_le (by simp [St.putRow];omega)]
theorem does_apf {T0:TypeId} (h:Sim L σ T st a w) (hd:o.dst=some d) (ho:o.op=.call { callee:=.builtin .append,args:=#[y,y2],argTypes:=#[T0,T0] }) (hm:mOpd y x=true) (hm2:mOpd y2 x2=true) (he:elemOk P T0 sz=true)
  (hp:act rec env (.apf d sz x x2) st=some st'):Does P L σ T st.boxes.length st' a w o false:=by
 simp only [act] at hp
 obtain ⟨⟨sy,ys⟩,h1,hp1⟩:=bind_some hp
 clear hp
 simp only at hp1
 split at hp1
 case h_2=>cases hp1
 rename_i sx es hx
 split at hp1
 case isFalse=>cases hp1
 rename_i hc
 obtain ⟨rfl,rfl,hlim⟩:=hc
 have hp:=Option.some.inj hp1
 clear hp1
 subst hp
 unfold lim at hlim
 obtain ⟨e,i,z,g1,g2,g3,g4,g5,g6,g7⟩:=elemOk_eq he
 obtain ⟨ya,yc,e1,e2⟩:=h.elems hm2 h1
 obtain ⟨hrep,xa,hxe⟩:=h.getFul hm hx
 by_cases hm0:ys.length=0
 ·have hy0:ys=[]:=List.eq_nil_of_length_eq_zero hm0
  subst hy0
  refine ⟨_,_,w,σ,T,run_append ho hxe e1 (run_append_none w T0 _ e i g1 g2 xa ya es.length es.length yc (Nat.le_refl _)),.inl rfl,?_,Chg.refl T w,fun _ _=>rfl,fun e=>by cases e⟩
  rw [hd,List.append_nil]
  have hS:Sim L σ T (st.putRow d sy []) (a.put (some d) (.slice none 0 0)) w:=h.newRow
  have:=hS.putPv (d:=d) (x:=.list sy es) (v:=.slice xa es.length es.length) (by rw [← hxe];exact hrep)
  rw [show (a.put (some d) (.slice none 0 0)).put (some d) (.slice xa es.length es.length)=a.put (some d) (.slice xa es.length es.length) by simp [Act.put]] at this
  exact this
 ·obtain ⟨ad,zs,rfl,e3,e4⟩:=e2 (by omega)
  have hzl:zs.length=ys.length * i.size:=by rw [g3];exact e3.len
  have hbytes:(es.length+ys.length) * i.bytes≤140737488355328:=Nat.le_trans (Nat.mul_le_mul hlim g7) (by omega)
  have hsm:es.length+ys.length≤maxLen:=by unfold maxLen;omega
  obtain ⟨xa',c',q1,q2,q3,q4⟩:=hrep.list_inv
  rw [hxe] at q1
  injection q1 with q1 _ _
  subst q1
  have hold:∃ olds,CellsL (fun b=>T b=.ro) w sy es olds∧∀ (ad:Addr),xa=some ad→∀ j u,olds[j]?=some u→w.cell? (ad.add j)=some u:=by
   rcases Nat.eq_zero_or_pos es.length with h0|h0
   ·have h0':es=[]:=List.eq_nil_of_length_eq_zero h0
    rw [h0'];exact ⟨[],CellsL.nil _ _ _,fun ad _ j u hj=>by simp at hj⟩
   ·obtain ⟨b,off,rfl,m1,m2,m3,m4⟩:=q4 h0
    obtain ⟨zs,g1,g2⟩:=CellsL.ofMem m3 m4
    exact ⟨zs,g1,fun ad ha k u hk=>by cases ha;rw [Addr.add_lit];exact g2 k u hk⟩
  obtain ⟨olds,o1,o2⟩:=hold
  have hdr:Sim L σ T st a w.drew:=h.sees ⟨Nat.le_refl _,fun _ _ _=>rfl⟩
  have hcap:=grownCap_ge w (es.length+ys.length) es.length e
  have hcm:grownCap w (es.length+ys.length) es.length e≤maxLen:=grownCap_le_maxLen w (es.length+ys.length) es.length e hsm
  obtain ⟨G,hG⟩:∃ G,G=grownCap w (es.length+ys.length) es.length e:=⟨_,rfl⟩
  have hr:(Builtin.append_ #[T0,T0] o.type #[.slice xa es.length es.length,.slice (some ad) ys.length yc]).run P w=.ok (.slice (some ⟨w.heap.size,0,none⟩) (es.length+ys.length) G) (w.drew.alloc (.cells (olds.toArray++zs.toArray++Builtin.zeroCells z.cells (G - (es.length+ys.length))) e)):=by
   rw [hG]
   cases xa with
   |none =>
    have h0:es.length=0:=by
     rcases Nat.eq_zero_or_pos es.length with h0|h0
     ·exact h0
     ·obtain ⟨b,off,hx,_⟩:=q4 h0;cases hx
    have hol:olds=[]:=List.eq_nil_of_length_eq_zero (by rw [o1.len,h0,Nat.zero_mul])
    subst hol
    have:=run_append_nil (P:=P) w T0 o.type e i z g1 g2 g5 ad ys.length yc zs hzl e4 (by omega) (by omega) (by rw [h0,Nat.zero_add] at hbytes;omega)
    rw [h0,Nat.zero_add]
    simpa using this
   |some ab=>exact run_append_grow (P:=P) w T0 o.type e i z g1 g2 g5 ab es.length es.length olds (by rw [g3];exact o1.len) (o2 ab rfl) ad ys.length yc zs hzl e4 (by omega) (by omega) (growslice_fits (by omega) hbytes)
  have hxs:=o1.append e3
  have key:=hdr.newRowL (d:=d) (E:=e) (c:=G) (arr:=olds.toArray++zs.toArray++Builtin.zeroCells z.cells (G - (es.length+ys.length))) (by
   simp only [Array.size_append,List.size_toArray,size_zeroCells,g6,o1.len,e3.len,← Nat.add_mul]
   congr 1;omega) (by rw [List.length_append];omega) (by omega) (hxs.frame fun b e _=>⟨e,rfl⟩) ⟨_,by simp only [Array.toList_append];rfl⟩
  rw [List.length_append] at key
  obtain ⟨T2,k1,k2,_⟩:=key.freeze (.slot d)
  rw [putRow_freeze] at k1
  refine ⟨_,_,_,σ,T2,run_append ho hxe e1 hr,.inl rfl,by rw [hd];exact k1,?_,fun _ _=>rfl,fun e=>by cases e⟩
  have hch:=chg_alloc (w:=w.drew) (T:=T) (hdr.fresh _ (Nat.le_refl _)) (.cells (olds.toArray++zs.toArray++Builtin.zeroCells z.cells (G - (es.length+ys.length))) e) (.row (.slot d))
  exact ((show Chg T T w w.drew from ⟨Nat.le_refl _,rfl,rfl,rfl,fun _ _ _=>rfl,fun _ e=>e,fun _ _ e=>e⟩).trans hch).trans (k2.chg _)
end
end Go.Proofs.YtpcncggjmabnaaaGreatDoor

namespace Go.Proofs.YtpcncggjmabnaaaGreatDoor
open Go.RowKit
section
variable {P:Program} {L:Nat} {σ σ':Nat→Nat} {T T' T1 T2:Tags} {st st' st1:St} {a:Act} {w w1:World} {o:Oper} {d n:Nat} {x x2:Opd} {y y2:Operand} {rec:VCode→St→Option (Ex × St)} {env:Env}
theorem Sim.rebox (h:Sim L σ T st a w) {q:Nat} {bx:Box} {cs:List PV} (hb:st.boxes[q]?=some bx) (hf:bx.fz=false) (hfr:∀ b,w1.heap.size≤b→T b=.other)
  (hw:∀ b,b<w.heap.size→b≠σ q→T b≠.other→w1.heap[b]?=w.heap[b]?)
  (harr:∃ arr E,w1.heap[σ q]?=some (.cells arr E (0,0))∧arr.size=cs.length∧∀ (j:Nat) x u,cs[j]?=some x→arr[j]?=some u→u.oneCell'=true∧PRep (fun b=>T b=.ro) w1 x u) :
  Sim L σ T { st with boxes:=st.boxes.set q { bx with cs:=cs.map .pv } } a w1:=by
 have hTo:T (σ q)=.box q:=by
  obtain ⟨_,_,_,_,h3,_⟩:=h.boxes q bx hb
  rw [h3,if_neg (by simp [hf])]
 have ol:q<st.boxes.length:=(List.getElem?_eq_some_iff.1 hb).1
 have hro:∀ b,T b=.ro→b<w.heap.size→T b=.ro∧w1.heap[b]?=w.heap[b]?:=fun b e hl=>⟨e,hw b hl (fun e2=>by rw [e2,hTo] at e;cases e) (by rw [e];simp)⟩
 have hrw:∀ r b,T b=.row r→b<w.heap.size→T b=.row r∧w1.heap[b]?=w.heap[b]?:=fun r b e hl=>⟨e,hw b hl (fun e2=>by rw [e2,hTo] at e;cases e) (by rw [e];simp)⟩
 have hbox:∀ p bx',st.boxes[p]?=some bx'→p≠q→w1.heap[σ p]?=w.heap[σ p]?:=fun p bx' hp hne=>by
  have hB:=h.boxes p bx' hp
  obtain ⟨_,_,g1,_,h3,_⟩:=hB
  refine hw _ (Array.getElem?_eq_some_iff.1 g1).1 (fun e=>?_) (by rw [h3];split<;>simp)
  rw [e,hTo] at h3
  split at h3
  ·cases h3
  ·injection h3 with h3;exact hne h3.symm
 have hrow:∀ r sz es,({ st with boxes:=st.boxes.set q { bx with cs:=cs.map .pv } }:St).row r=some (sz,es)→st.row r=some (sz,es)∧hdr σ a w1 r=hdr σ a w r:=fun r sz es e=>by
  cases r with
  |slot t=>exact ⟨e,rfl⟩
  |part t i=>simp [St.row] at e
  |cell p j =>
   by_cases hpq:p=q
   ·subst hpq
    simp only [St.row,List.getElem?_set,if_true,if_pos ol,hf,Bool.false_eq_true,if_false,List.getElem?_map] at e
    cases hc:cs[j]? with
    |none=>rw [hc] at e;simp at e
    |some v=>rw [hc] at e;simp at e
   ·have e':st.row (.cell p j)=some (sz,es):=by
     simp only [St.row,List.getElem?_set,if_neg (Ne.symm hpq)] at e ⊢
     exact e
    refine ⟨e',?_⟩
    obtain ⟨bx',g1,_,_⟩:=cell_of_row' e'
    exact World.cell?_of_block (w:=w) (a:=⟨σ p,j,none⟩) (hbox p bx' g1 hpq)
 refine ⟨h.size,fun t x u hx hu=>?_,fun p bx' hp=>?_,hfr⟩
 ·exact (h.slots t x u hx hu).keep hro (fun _ _ _ b e hl=>hrw _ b e hl) (fun _ _ _ _ b e hl=>hrw _ b e hl) (fun r _ _ sz es e=>⟨⟨es,(hrow r sz es e).1⟩,(hrow r sz es e).2⟩) (by simp) (fun _ _=>rfl)
 ·rw [List.getElem?_set] at hp
  by_cases hpq:q=p
  ·subst hpq
   simp only [if_true,if_pos ol,Option.some.injEq] at hp
   subst hp
   obtain ⟨arr,E,g1,g2,g3⟩:=harr
   refine ⟨arr,E,g1,by simpa using g2,by simp [hf,hTo],fun e=>(by simp [hf] at e),fun j bv u hj hu=>?_⟩
   simp only [List.getElem?_map] at hj
   cases hc:cs[j]? with
   |none=>rw [hc] at hj;cases hj
   |some v =>
    rw [hc] at hj;cases hj
    exact g3 j v u hc hu
  ·rw [if_neg hpq] at hp
   exact (h.boxes p bx' hp).frame ⟨rfl,hbox p bx' hp (Ne.symm hpq)⟩ (fun j b e hl=>hrw _ b e hl) hro
theorem Sim.retagP (h:Sim L σ T st a w) (hn:∀ k l,st.slots[n]?≠some (.tup k l)) {p:Nat} (hp:st.boxes.length≤p):Sim L σ (movedP T n p 0) st a w:=by
 have hro:∀ b,T b=.ro→movedP T n p 0 b=.ro:=fun b e=>by simp [movedP,e]
 have hw:∀ b,T b=.ro→b<w.heap.size→movedP T n p 0 b=.ro∧w.heap[b]?=w.heap[b]?:=fun b e _=>⟨hro b e,rfl⟩
 refine ⟨h.size,fun t x u hx hu=>?_,fun q bx ho=>?_,fun b hb=>by simp [movedP,h.fresh b hb]⟩
 ·refine (h.slots t x u hx hu).keep hw (fun s l e b hb _=>⟨by simp [movedP,hb],rfl⟩) (fun {k} l e i _ b hb _=>⟨?_,rfl⟩) (fun q hq _ s l e=>⟨⟨l,e⟩,rfl⟩) (Nat.le_refl _) (fun _ _=>rfl)
  have htn:t≠n:=fun e2=>by subst e2;exact hn k l (by rw [hx,e])
  simp [movedP,hb,htn]
 ·have hb:=h.boxes q bx ho
  have hT:movedP T n p 0 (σ q)=T (σ q):=by
   obtain ⟨_,_,_,_,h3,_⟩:=hb
   rw [h3];split
   ·rename_i hf;exact hro _ (by rw [h3,if_pos hf])
   ·rename_i hf;rw [if_neg hf] at h3;simp [movedP,h3]
  exact hb.frame ⟨hT,rfl⟩ (fun k b e _=>⟨by simp [movedP,e],rfl⟩) hw
theorem does_bxw {T0:TypeId} {m:Nat} (h:Sim L σ T st a w) (hd:o.dst=some d) (ho:o.op=.box T0 y) (hm:mOpd y (.t m)=true) {l:List AV} (h1:st.slots.getD m .any=.tup true l) {cs:List BV} (hcs:allBV l=some cs) :
  Does P L σ T st.boxes.length (({ (st.put m .any) with boxes:=st.boxes++[(⟨false,cs⟩:Box)] }:St).put d (.pbox st.boxes.length 0)) a w o true:=by
 have e0:st.get (.t m)=.tup true l:=h1
 obtain ⟨t,e1,hA,hB,arr2,g1,g2,g3⟩:=h.at hm e0 (by simp) (by simp) (by simp)
 cases e1
 replace g1:a.eval y=Value.agg arr2:=g1
 have hrun:(execOp a.eval o).run P w=.ok (.value (.pointer (some ⟨w.heap.size,0,none⟩))) (w.alloc (.cells (a.eval y).cells T0)):=by
  simp [execOp,ho,Instr.box,newVar,newRow,newObj,Sem.run]
  try rfl
 have k1:=h.forget m
 have k6:=k1.retagP (n:=m) (p:=st.boxes.length) (fun k l e=>by
  simp only [St.put,List.getElem?_set,if_true] at e
  split at e<;>cases e) (Nat.le_refl _)
 obtain ⟨cl,cg⟩:=allBV_get hcs
 have mro:∀ b,T b=.ro→movedP T m st.boxes.length 0 b=.ro:=fun b e=>by simp [movedP,e]
 refine ⟨_,_,_,fun k=>if k=st.boxes.length then w.heap.size else σ k,_,hrun,.inl rfl,?_,((Still.chg ⟨mro,fun b e=>by simp [movedP,e]⟩ w).trans (chg_alloc (k6.fresh _ (Nat.le_refl _)) _ (.box st.boxes.length))),fun k hk=>if_neg (by omega),fun _=>whole_alloc _ _⟩
 rw [hd]
 refine k6.addBox (by rw [g1];show arr2.size=_;omega) (fun j bv u hj hu=>?_)
 rw [g1] at hu
 have hu:arr2[j]?=some u:=hu
 rcases cg j bv hj with ⟨v,rfl,e2,e3⟩|⟨sz,es,rfl,e2⟩
 ·have:=g3 j _ u e2 hu
  exact ⟨prep_single this e3,PRep.frame (fun b e _=>⟨mro b e,rfl⟩) this⟩
 ·have hr:RowRep T w (.part m j) sz es u:=g3 j _ u e2 hu
  obtain ⟨xa,c,e,_⟩:=hr.slice
  refine ⟨by rw [e];rfl,RowRep.frame (fun b e _=>⟨?_,rfl⟩) (fun b e _=>⟨mro b e,rfl⟩) hr⟩
  simp only [movedP,e,if_true,Nat.zero_add]
  rfl
def movedC (T:Tags) (p d:Nat):Tags:=fun b=>match T b with
 |.row (.cell q j)=>if q=p then .row (.part d j) else .row (.cell q j)
 |q=>q
theorem looks_ldm {T0:TypeId} (h:Sim L σ T st a w) (hd:o.dst=some d) (ho:o.op=.load T0 y) (hm:mOpd y x=true) (hc:cellN P T0=some (some n)) {p:Nat} (hx:st.get x=.pbox p 0) {bx:Box} (hb:st.boxes[p]?=some bx) (hf:bx.fz=false) (hl:bx.cs.length=n) :
  Looks P L σ T (({ st with boxes:=st.boxes.set p { bx with cs:=List.replicate n (.pv .void) } }:St).put d (.tup true (bx.cs.map BV.av))) a w o:=by
 have hgp:a.eval y=.pointer (some ⟨σ p,0,none⟩):=(h.pbox hm hx).2
 have hbox:=h.boxes p bx hb
 have hlt:=hbox.lt
 have htag:T (σ p)≠.other:=by
  obtain ⟨_,_,_,_,h3,_⟩:=hbox
  rw [h3];split<;>simp
 obtain ⟨arr,E,g1,g2,g3,g4,g5⟩:=hbox
 have hs:=(run_isAgg_yes (w:=w) hc).2
 have hsz:arr.size=n:=by omega
 have hrunw:∀ w':World,w'.heap[σ p]?=w.heap[σ p]?→(loadVar T0 ⟨σ p,0,none⟩).run P w'=.ok (.agg arr) w':=fun w' hw=>by
  unfold cellN at hc
  cases hu:P.underlying T0 with
  |none=>rw [hu] at hc;cases hc
  |some td =>
   rw [hu] at hc
   have:=run_loadAgg (P:=P) (w:=w') (T:=T0) (d:=td) (ad:=⟨σ p,0,none⟩) (cs:=arr.toList) hu (by
    cases td<;>first|rfl|(simp at hc)) (by
    unfold szOf at hs
    rw [hs];simp [hsz]) (fun j hj=>by
    rw [Addr.add_lit,Nat.zero_add,cell_of_row w' (σ p) j arr E (0,0) (hw.trans g1)]
    simp)
   simpa using this
 have hv:=h.rebox (w1:=w) (cs:=List.replicate n .void) hb hf h.fresh (fun _ _ _ _=>rfl) ⟨arr,E,g1,by simp [hsz],fun j x u hx hu=>by
  have hj:=(Array.getElem?_eq_some_iff.1 hu).1
  have hxv:x=.void:=(List.mem_replicate.1 (List.mem_of_getElem? hx)).2
  subst hxv
  have hk:=(g5 j bx.cs[j] u (List.getElem?_eq_getElem (by omega)) hu).1
  exact ⟨hk,.void u hk⟩⟩
 rw [List.map_replicate] at hv
 obtain ⟨B,hB⟩:∃ B:List Box,B=st.boxes.set p { bx with cs:=List.replicate n (.pv .void) }:=⟨_,rfl⟩
 rw [← hB] at hv ⊢
 have hBp:B[p]?=some { bx with cs:=List.replicate n (.pv .void) }:=by
  rw [hB,List.getElem?_set_self (List.getElem?_eq_some_iff.1 hb).1]
 have mro:∀ b,T b=.ro→movedC T p d b=.ro:=fun b e=>by simp [movedC,e]
 have moth:∀ b,T b=.other→movedC T p d b=.other:=fun b e=>by simp [movedC,e]
 -- first the cells' names,in a slot that is not there
 have mro0:∀ b,T b=.ro→movedC T p st.slots.length b=.ro:=fun b e=>by simp [movedC,e]
 have hA:Sim L σ (movedC T p st.slots.length) ({ st with boxes:=B }:St) a w:=by
  have hw:∀ b,T b=.ro→b<w.heap.size→movedC T p st.slots.length b=.ro∧w.heap[b]?=w.heap[b]?:=fun b e _=>⟨mro0 b e,rfl⟩
  refine ⟨hv.size,fun t av v ht hu=>?_,fun q bq hq=>?_,fun b hb=>by simp [movedC,hv.fresh b hb]⟩
  ·exact (hv.slots t av v ht hu).keep hw (fun s l e b hb _=>⟨by simp [movedC,hb],rfl⟩) (fun l e i _ b hb _=>⟨by simp [movedC,hb],rfl⟩) (fun q hq _ s l e=>⟨⟨l,e⟩,rfl⟩) (Nat.le_refl _) (fun _ _=>rfl)
  ·have hbq:=hv.boxes q bq hq
   have hT:movedC T p st.slots.length (σ q)=T (σ q):=by
    obtain ⟨_,_,_,_,h3,_⟩:=hbq
    rw [h3];split
    ·rename_i hf';exact mro0 _ (by rw [h3,if_pos hf'])
    ·rename_i hf';rw [if_neg hf'] at h3;simp [movedC,h3]
   by_cases hqp:q=p
   ·subst hqp
    have hq':B[q]?=some bq:=hq
    rw [hBp] at hq';cases hq'
    obtain ⟨arr',E',q1,q2,q3,q4,q5⟩:=hbq
    refine ⟨arr',E',q1,q2,by rw [hT];exact q3,q4,fun j bv u hj hu=>?_⟩
    obtain ⟨r1,r2⟩:=q5 j bv u hj hu
    refine ⟨r1,?_⟩
    have:bv=.pv .void:=(List.mem_replicate.1 (List.mem_of_getElem? hj)).2
    subst this
    exact PRep.void u r1
   ·exact hbq.frame ⟨hT,rfl⟩ (fun k b e _=>⟨by simp [movedC,e,hqp],rfl⟩) hw
 obtain ⟨T3,hT3⟩:∃ T3:Tags,T3=fun b=>match movedC T p st.slots.length b with
  |.row (.part t i)=>if t=st.slots.length then .row (.part d i) else .row (.part t i)
  |q=>q:=⟨_,rfl⟩
 have c1:∀ b q,(∀ i,q≠.row (.part st.slots.length i))→movedC T p st.slots.length b=q→T3 b=q:=fun b q hq e=>by
  rw [hT3]
  simp only [e]
  cases q with
  |row r =>
   cases r with
   |part t i =>
    simp only
    rw [if_neg (fun e2=>by subst e2;exact hq i rfl)]
   |slot t=>rfl
   |cell q j=>rfl
  |_=>rfl
 have c2:∀ b j,T b=.row (.cell p j)→T3 b=.row (.part d j):=fun b j e=>by
  rw [hT3];simp [movedC,e]
 refine ⟨.agg arr,T3,fun w' hw'=>run_load ho hgp (hrunw w' (hw'.blk htag hlt)),?_,⟨fun b e=>c1 b _ (by simp) (mro0 b e),fun b e=>c1 b _ (by simp) (by simp [movedC,e])⟩⟩
 rw [hd]
 refine hA.putTup ⟨arr,rfl,by simp [hsz,hl],fun k x u hk hu=>?_⟩ (fun b e=>c1 b _ (by simp) e) (fun b q e=>c1 b _ (by simp) e) (fun b hb=>c1 b _ (by simp) (hA.fresh b hb)) (fun t s l _ _ b e=>c1 b _ (by simp) e) (fun {kk} t i l _ hs _ b e=>c1 b _ (fun i' e2=>?_) e) (fun q j b e=>c1 b _ (by simp) e)
 ·rw [List.getElem?_map] at hk
  cases hcs:bx.cs[k]? with
  |none=>rw [hcs] at hk;cases hk
  |some bv =>
   rw [hcs] at hk;cases hk
   obtain ⟨_,r2⟩:=g5 k bv u hcs hu
   cases bv with
   |pv v=>exact PRep.frame (fun b e _=>⟨c1 b _ (by simp) (mro0 b e),rfl⟩) r2
   |row sz es=>exact RowRep.frame (fun b e _=>⟨c2 b k e,rfl⟩) (fun b e _=>⟨c1 b _ (by simp) (mro0 b e),rfl⟩) r2
 ·simp only [Owner.row.injEq,Root.part.injEq] at e2
  have:=(List.getElem?_eq_some_iff.1 hs).1
  simp at this
  omega
theorem freezeBox_len (st:St) (p:Nat):(st.freezeBox p).boxes.length=st.boxes.length:=by
 unfold St.freezeBox;split<;>simp
theorem Sim.freezeArg1' (h:Sim L σ T st a w) (x:Opd) (v:AV):∃ T1,Sim L σ T1 (st.freezeArg1 x v) a w∧Still T T1∧(st.freezeArg1 x v).boxes.length=st.boxes.length:=by
 have hr:∀ r,∃ T1,Sim L σ T1 (st.freeze r) a w∧Still T T1∧(st.freeze r).boxes.length=st.boxes.length:=fun r=>by
  obtain ⟨T1,k1,k2,_⟩:=h.freeze r
  exact ⟨T1,k1,k2,freeze_boxes _ _⟩
 unfold St.freezeArg1
 split
 ·split
  ·exact hr _
  ·exact ⟨T,h,Still.refl T,rfl⟩
 ·exact hr _
 ·exact hr _
 ·rename_i p _
  refine ⟨_,h.freezeBox p,?_,freezeBox_len _ _⟩
  split
  ·exact Still.frozB T p
  ·exact Still.refl T
 ·exact ⟨T,h,Still.refl T,rfl⟩
theorem Sim.freezeCapsV:∀ (l:List AV) {T:Tags} {st:St},Sim L σ T st a w→∃ T1,Sim L σ T1 (l.foldl (fun s v=>s.freezeArg1 (.c .void) v) st) a w∧Still T T1∧(l.foldl (fun s v=>s.freezeArg1 (.c .void) v) st).boxes.length=st.boxes.length
 |[],T,st,h=>⟨T,h,Still.refl T,rfl⟩
 |v :: l,T,st,h=>by
  obtain ⟨T1,k1,k2,k3⟩:=h.freezeArg1' (.c .void) v
  obtain ⟨T2,q1,q2,q3⟩:=Sim.freezeCapsV l k1
  exact ⟨T2,q1,k2.trans q2,q3.trans k3⟩
theorem Sim.freezeArg' (h:Sim L σ T st a w) (x:Opd):∃ T1,Sim L σ T1 (st.freezeArg x) a w∧Still T T1∧(st.freezeArg x).boxes.length=st.boxes.length:=by
 unfold St.freezeArg
 split
 ·exact Sim.freezeCapsV _ h
 ·exact h.freezeArg1' _ _
theorem Sim.freezeArgsL:∀ (l:List Opd) {T:Tags} {st:St},Sim L σ T st a w→∃ T1,Sim L σ T1 (l.foldl St.freezeArg st) a w∧Still T T1∧(l.foldl St.freezeArg st).boxes.length=st.boxes.length
 |[],T,st,h=>⟨T,h,Still.refl T,rfl⟩
 |x :: l,T,st,h=>by
  obtain ⟨T1,k1,k2,k3⟩:=h.freezeArg' x
  obtain ⟨T2,q1,q2,q3⟩:=Sim.freezeArgsL l k1
  exact ⟨T2,q1,k2.trans q2,q3.trans k3⟩
end
end Go.Proofs.YtpcncggjmabnaaaGreatDoor

namespace Go.Proofs.YtpcncggjmabnaaaGreatDoor
open Go.RowKit
def isInt (P:Program) (T:TypeId):Bool:=match P.underlying T with|some (.int _)=>true|_=>false
def isIntK (P:Program) (T:TypeId) (k:IntKind):Bool:=match P.underlying T with|some (.int q)=>q==k|_=>false
def isBoolT (P:Program) (T:TypeId):Bool:=match P.underlying T with|some .bool=>true|_=>false
def isStrT (P:Program) (T:TypeId):Bool:=match P.underlying T with|some .string=>true|_=>false
def placesOk (P:Program) (T:TypeId):Bool :=
 match P.underlying T with
 |some (.array _ e)=>(szOf P e).isSome
 |some (.struct fs)=>(fs.toList.mapM fun f=>(P.info? f.type).map fun i=>(f.offset,i.size)).isSome
 |_=>false
theorem isInt_eq {P:Program} {T:TypeId} (h:isInt P T=true):∃ q,P.underlying T=some (.int q):=by
 unfold isInt at h;split at h
 ·exact ⟨_,by assumption⟩
 ·cases h
theorem isIntK_eq {P:Program} {T:TypeId} {k:IntKind} (h:isIntK P T k=true):P.underlying T=some (.int k):=by
 unfold isIntK at h;split at h
 ·rename_i q hq;rw [hq,beq_iff_eq.1 h]
 ·cases h
theorem isBoolT_eq {P:Program} {T:TypeId} (h:isBoolT P T=true):P.underlying T=some .bool:=by
 unfold isBoolT at h;split at h
 ·assumption
 ·cases h
theorem isStrT_eq {P:Program} {T:TypeId} (h:isStrT P T=true):P.underlying T=some .string:=by
 unfold isStrT at h;split at h
 ·assumption
 ·cases h
theorem placesOk_eq {P:Program} {T:TypeId} (h:placesOk P T=true):(∃ n e,arrE P T=some (n,e)∧(szOf P e).isSome=true)∨∃ fs pl,P.underlying T=some (.struct fs)∧(fs.toList.mapM fun f=>(P.info? f.type).map fun i=>(f.offset,i.size))=some pl:=by
 unfold placesOk at h;split at h
 ·rename_i n e hu;exact .inl ⟨n,e,by simp [arrE,hu],h⟩
 ·rename_i fs hu
  obtain ⟨pl,hpl⟩:=Option.isSome_iff_exists.1 h
  exact .inr ⟨fs,pl,hu,hpl⟩
 ·cases h
def call1 (o:Op):Option (Builtin × Operand × TypeId) :=
 match o with
 |.call c=>match c.callee with
  |.builtin b=>match c.args.toList with
   |[y]=>match c.argTypes.toList with
    |[T]=>some (b,y,T)
    |_=>none
   |_=>none
  |_=>none
 |_=>none
def call2 (o:Op):Option (Builtin × Operand × Operand × TypeId × TypeId) :=
 match o with
 |.call c=>match c.callee with
  |.builtin b=>match c.args.toList with
   |[y,y2]=>match c.argTypes.toList with
    |[T,T1]=>some (b,y,y2,T,T1)
    |_=>none
   |_=>none
  |_=>none
 |_=>none
def callV (o:Op):Option (Operand × List Operand) :=
 match o with
 |.call c=>match c.callee with
  |.value y=>some (y,c.args.toList)
  |_=>none
 |_=>none
def callF (o:Op):Option (Nat × List Operand) :=
 match o with
 |.call c=>match c.callee with
  |.value (.func f)=>some (f,c.args.toList)
  |_=>none
 |_=>none
theorem call1_eq {o:Op} {b:Builtin} {y:Operand} {T:TypeId} (h:call1 o=some (b,y,T)):o=.call { callee:=.builtin b,args:=#[y],argTypes:=#[T] }:=by
 unfold call1 at h
 split at h
 case h_2=>cases h
 rename_i c
 split at h
 case h_2=>cases h
 rename_i b' hb
 split at h
 case h_2=>cases h
 rename_i y' hy
 split at h
 case h_2=>cases h
 rename_i T' hT
 cases h
 obtain ⟨callee,⟨args⟩,⟨ats⟩⟩:=c
 simp only at hb hy hT
 rw [hb,hy,hT]
theorem call2_eq {o:Op} {b:Builtin} {y y2:Operand} {T T1:TypeId} (h:call2 o=some (b,y,y2,T,T1)):o=.call { callee:=.builtin b,args:=#[y,y2],argTypes:=#[T,T1] }:=by
 unfold call2 at h
 split at h
 case h_2=>cases h
 rename_i c
 split at h
 case h_2=>cases h
 rename_i b' hb
 split at h
 case h_2=>cases h
 rename_i y' y2' hy
 split at h
 case h_2=>cases h
 rename_i T' T1' hT
 cases h
 obtain ⟨callee,⟨args⟩,⟨ats⟩⟩:=c
 simp only at hb hy hT
 rw [hb,hy,hT]
theorem callV_eq {o:Op} {y:Operand} {ys:List Operand} (h:callV o=some (y,ys)):∃ ats,o=.call { callee:=.value y,args:=ys.toArray,argTypes:=ats }:=by
 unfold callV at h
 split at h
 case h_2=>cases h
 rename_i c
 split at h
 case h_2=>cases h
 rename_i y' hy
 cases h
 obtain ⟨callee,args,ats⟩:=c
 simp only at hy
 exact ⟨ats,by rw [hy]⟩
theorem callF_eq {o:Op} {f:Nat} {ys:List Operand} (h:callF o=some (f,ys)):∃ ats,o=.call { callee:=.value (.func f),args:=ys.toArray,argTypes:=ats }:=by
 unfold callF at h
 split at h
 case h_2=>cases h
 rename_i c
 split at h
 case h_2=>cases h
 rename_i f' hy
 cases h
 obtain ⟨callee,args,ats⟩:=c
 simp only at hy
 exact ⟨ats,by rw [hy]⟩
def mv (P:Program) (op:Op):VOp→Bool
 |.mov _ x=>match op with
  |.move y=>mOpd y x
  |_=>false
 |.asg _ x=>match op with
  |.assign y=>mOpd y x
  |.move y=>mOpd y x
  |_=>false
 |.pick _ c x x2=>match op with
  |.pick yc y y2=>mOpd yc c&&mOpd y x&&mOpd y2 x2
  |_=>false
 |.bin _ b x x2=>match op with
  |.binOp b' _ y y2 _=>b==b'&&mOpd y x&&mOpd y2 x2
  |_=>false
 |.eqa _ neg n x x2=>match op with
  |.binOp b' T0 y y2 _=>b'==(if neg then .neq else .eql)&&mOpd y x&&mOpd y2 x2&&eqOk P T0&&szOf P T0==some n
  |_=>false
 |.eqm _ neg ks x x2=>match op with
  |.binOp b' T0 y y2 _=>b'==(if neg then .neq else .eql)&&mOpd y x&&mOpd y2 x2&&eqmOk P ks T0
  |_=>false
 |.eqb _ neg x x2=>match op with
  |.binOp b' T0 y y2 _=>b'==(if neg then .neq else .eql)&&mOpd y x&&mOpd y2 x2&&isBoolT P T0
  |_=>false
 |.un _ b x=>match op with
  |.unOp b' _ y=>b==b'&&mOpd y x
  |_=>false
 |.conv _ k x=>match op with
  |.convert src dst y=>mOpd y x&&isInt P src&&isIntK P dst k
  |_=>false
 |.load _ n x=>match op with
  |.load T0 y=>mOpd y x&&cellN P T0==some n
  |_=>false
 |.fadr _ x off=>match op with
  |.fieldAddr S y f=>mOpd y x&&(match fieldOf P S f with|some fd=>fd.offset==off&&(match szOf P fd.type with|some (_+1)=>true|_=>false)|none=>false)
  |.nilCheck y=>mOpd y x&&off==0
  |_=>false
 |.iadr _ sz x x2=>match op with
  |.indexAddr T0 y y2=>mOpd y x&&mOpd y2 x2&&(match sliceE P T0 with|some e=>szOf P e==some sz|none=>false)
  |_=>false
 |.aadr _ x x2 len sz=>match op with
  |.indexAddr T0 y y2=>mOpd y x&&mOpd y2 x2&&(match arrE P T0 with|some (l,e)=>l==len&&szOf P e==some sz|none=>false)
  |_=>false
 |.fld _ x off n=>match op with
  |.field S y f=>mOpd y x&&(match fieldOf P S f with|some fd=>fd.offset==off&&cellN P fd.type==some n|none=>false)
  |_=>false
 |.idx _ x x2 len sz n=>match op with
  |.index T0 y y2=>mOpd y x&&mOpd y2 x2&&(match arrE P T0 with|some (l,e)=>l==len&&szOf P e==some sz&&cellN P e==some n|none=>false)
  |_=>false
 |.sli _ sz x lo hi=>match op with
  |.slice T0 y lo' hi' none=>mOpd y x&&mOpt lo' lo&&mOpt hi' hi&&(match sliceE P T0 with|some e=>szOf P e==some sz|none=>false)
  |_=>false
 |.ext _ x i=>match op with
  |.extract y j=>mOpd y x&&i==j
  |_=>false
 |.build _ z m=>match op with
  |.build T0 l=>mParts P T0 l.toList m&&zeroOk P T0 z&&placesOk P T0
  |_=>false
 |.len _ x=>match call1 op with
  |some (b,y,T0)=>b==.len&&mOpd y x&&(sliceE P T0).isSome
  |none=>false
 |.isn _ neg x=>match op with
  |.binOp b T0 y (.const (.slice none 0 0)) _=>b==(if neg then .neq else .eql)&&mOpd y x&&(sliceE P T0).isSome
  |_=>false
 |.sl3 _ sz x x2 x3=>match op with
  |.slice T0 y none (some hi) (some mx)=>mOpd y x&&mOpd hi x2&&mOpd mx x3&&(match sliceE P T0 with
   |some e=>szOf P e==some sz
   |none=>false)
  |_=>false
 |.cut _ sz x=>match op with
  |.slice T0 y none (some hi) (some mx)=>mOpd y x&&isZero hi&&isZero mx&&(match sliceE P T0 with
   |some e=>szOf P e==some sz
   |none=>false)
  |_=>false
 |.mvz _ x=>match op with
  |.move y=>mOpd y x
  |_=>false
 |.asl _ n x=>match op with
  |.slice T0 y none none none=>mOpd y x&&(match arrE P T0 with
   |some (l,e)=>l==n&&szOf P e==some 1
   |none=>false)
  |_=>false
 |.asz _ n sz x=>match op with
  |.slice T0 y none none none=>mOpd y x&&(match arrE P T0 with
   |some (l,e)=>l==n&&szOf P e==some sz
   |none=>false)
  |_=>false
 |.ldm _ n x=>match op with
  |.load T0 y=>mOpd y x&&cellN P T0==some (some n)
  |_=>false
 |.ldz _ n x=>match op with
  |.load T0 y=>mOpd y x&&cellN P T0==some n
  |_=>false
 |.lens _ x=>match call1 op with
  |some (b,y,T0)=>b==.len&&mOpd y x&&isStrT P T0
  |none=>false
 |.mn _ mx x x2=>match call2 op with
  |some (b,y,y2,_,_)=>b==(if mx then .max else .min)&&mOpd y x&&mOpd y2 x2
  |none=>false
 |.mkf _ f xs=>match op with
  |.makeFunc fn first ys=>isFn f fn&&first.isEmpty&&mAll ys.toList xs
  |_=>false
 |.alloc _ z=>match op with
  |.alloc T0=>zeroOk P T0 z
  |_=>false
 |.box _ x=>match op with
  |.box _ y=>mOpd y x
  |_=>false
 |.store dd n x x2=>match op with
  |.store T0 y y2=>dd.isNone&&mOpd y x&&mOpd y2 x2&&szOf P T0==some n
  |_=>false
 |.mksl _ sz xs=>match op with
  |.buildSlice T0 len l=>mAll (l.toList.map (·.2)) xs&&numbered 0 l.toList&&len==l.size&&elemOk P T0 sz&&decide (len * sz≤16777216)
  |_=>false
 |.make _ z x x2=>match op with
  |.makeSlice T0 y y2=>mOpd y x&&mOpd y2 x2&&elemOk P T0 z.cells.length&&(match sliceE P T0 with|some e=>zeroOk P e z.cells|none=>false)
  |_=>false
 |.app _ sz x x2=>match call2 op with
  |some (b,y,y2,T0,T1)=>b==.append&&T0==T1&&mOpd y x&&mOpd y2 x2&&elemOk P T0 sz
  |none=>false
 |.apf _ sz x x2=>match call2 op with
  |some (b,y,y2,T0,T1)=>b==.append&&T0==T1&&mOpd y x&&mOpd y2 x2&&elemOk P T0 sz
  |none=>false
 |.apb _ x x2=>match call2 op with
  |some (b,y,y2,T0,T1)=>b==.append&&T0==T1&&mOpd y x&&mOpd y2 x2&&elemOkB P T0
  |none=>false
 |.cpy _ sz x x2=>match call2 op with
  |some (b,y,y2,T0,_)=>b==.copy&&mOpd y x&&mOpd y2 x2&&elemOk P T0 sz
  |none=>false
 |.call _ f xs=>match callF op with
  |some (g,ys)=>f==g&&mAll ys xs
  |none=>false
 |.callv _ x xs=>match callV op with
  |some (y,ys)=>mOpd y x&&mAll ys xs
  |none=>false
 |.lin _ f x xs=>match callF op with
  |some (g,y :: ys)=>f==g&&mOpd y x&&mAll ys xs
  |_=>false
 |.linv _ g x xs=>match callV op with
  |some (z,y :: ys)=>mOpd z g&&mOpd y x&&mAll ys xs
  |_=>false
 |.bldo _ z parts off t=>match op with
  |.build T0 l=>(match l.toList.getLast? with
   |some p=>mParts P T0 l.toList.dropLast parts&&placeOf P T0 p.1==some (off,1)&&mOpd p.2 (.t t)
   |none=>false)&&zeroOk P T0 z&&placesOk P T0
  |_=>false
 |.bxw _ x=>match op with
  |.box T0 y=>mOpd y x
  |_=>false
 |.stw n x x2=>match op with
  |.store T0 y y2=>mOpd y x&&mOpd y2 x2&&szOf P T0==some n
  |_=>false
 |.srt _ f x g=>match callF op with
  |some (f',[y1,y2])=>f'==f&&mOpd y1 x&&mOpd y2 g
  |_=>false
 |.yield _ x xs=>match callV op with
  |some (y,ys)=>mOpd y x&&mAll ys xs
  |none=>false
 |.grd _ _ _=>false
def m1 (P:Program) (o:Oper) (v:VOp):Bool:=o.dst==dstOf v&&mv P o.op v
section
variable {P:Program} {L:Nat} {σ σ':Nat→Nat} {T T':Tags} {st st' st1:St} {a:Act} {w w1:World} {o:Oper} {vo:VOp}
 {rec:VCode→St→Option (Ex × St)} {env:Env}
theorem plain_sound (h:Sim L σ T st a w) (hm:m1 P o vo=true) (hp:plain vo st=some st'):Looks P L σ T st' a w o:=by
 simp only [m1,Bool.and_eq_true,beq_iff_eq] at hm
 obtain ⟨hd,hm⟩:=hm
 cases vo<;>simp only [mv] at hm
 case mov d x =>
  split at hm<;>try (cases hm;done)
  rename_i ho;exact looks_mov h hd (.inl ho) hm false hp
 case asg d x =>
  split at hm<;>try (cases hm;done)
  ·rename_i ho;exact looks_mov h hd (.inr ho) hm true hp
  ·rename_i ho;exact looks_mov h hd (.inl ho) hm true hp
 case pick d c x x2 =>
  split at hm<;>try (cases hm;done)
  rename_i ho
  simp only [Bool.and_eq_true] at hm;exact looks_pick h hd ho hm.1.1 hm.1.2 hm.2 hp
 case bin d b x x2 =>
  split at hm<;>try (cases hm;done)
  rename_i ho
  simp only [Bool.and_eq_true,beq_iff_eq] at hm
  obtain ⟨⟨rfl,hm1⟩,hm2⟩:=hm
  exact looks_bin h hd ho hm1 hm2 hp
 case eqa d neg n x x2 =>
  split at hm<;>try (cases hm;done)
  rename_i ho
  simp only [Bool.and_eq_true,beq_iff_eq] at hm
  obtain ⟨⟨⟨⟨h1,h2⟩,h3⟩,h4⟩,h5⟩:=hm
  exact looks_eqa h hd ho h1 h2 h3 h4 h5 hp
 case eqb d neg x x2 =>
  split at hm<;>try (cases hm;done)
  rename_i ho
  simp only [Bool.and_eq_true,beq_iff_eq] at hm
  obtain ⟨⟨⟨h1,h2⟩,h3⟩,h4⟩:=hm
  exact looks_eqb h hd ho h1 h2 h3 (isBoolT_eq h4) hp
 case eqm d neg ks x x2 =>
  split at hm<;>try (cases hm;done)
  rename_i ho
  simp only [Bool.and_eq_true,beq_iff_eq] at hm
  obtain ⟨⟨⟨h1,h2⟩,h3⟩,h4⟩:=hm
  exact looks_eqm h hd ho h1 h2 h3 h4 hp
 case un d b x =>
  split at hm<;>try (cases hm;done)
  rename_i ho
  simp only [Bool.and_eq_true,beq_iff_eq] at hm
  obtain ⟨rfl,h2⟩:=hm
  exact looks_un h hd ho h2 hp
 case conv d k x =>
  split at hm<;>try (cases hm;done)
  rename_i ho
  simp only [Bool.and_eq_true] at hm
  exact looks_conv h hd ho hm.1.1 (isInt_eq hm.1.2) (isIntK_eq hm.2) hp
 case load d n x =>
  split at hm<;>try (cases hm;done)
  rename_i ho
  simp only [Bool.and_eq_true,beq_iff_eq] at hm
  exact looks_load h hd ho hm.1 hm.2 hp
 case fadr d x off =>
  split at hm
  case h_3=>cases hm
  case h_2 =>
   rename_i ho
   simp only [Bool.and_eq_true,beq_iff_eq] at hm
   obtain ⟨h1,rfl⟩:=hm
   exact (mute_nck h hd ho h1 hp).looks
  rename_i ho
  simp only [Bool.and_eq_true] at hm
  obtain ⟨h1,h2⟩:=hm
  split at h2<;>try (cases h2;done)
  rename_i fd hf
  simp only [Bool.and_eq_true,beq_iff_eq] at h2
  obtain ⟨rfl,h3⟩:=h2
  split at h3<;>try (cases h3;done)
  rename_i k hk
  exact looks_fadr h hd ho h1 hf hk hp
 case iadr d sz x x2 =>
  split at hm<;>try (cases hm;done)
  rename_i ho
  simp only [Bool.and_eq_true] at hm
  obtain ⟨⟨h1,h2⟩,h3⟩:=hm
  split at h3<;>try (cases h3;done)
  rename_i e he
  exact looks_iadr h hd ho h1 h2 he (beq_iff_eq.1 h3) hp
 case aadr d x x2 len sz =>
  split at hm<;>try (cases hm;done)
  rename_i ho
  simp only [Bool.and_eq_true] at hm
  obtain ⟨⟨h1,h2⟩,h3⟩:=hm
  split at h3<;>try (cases h3;done)
  rename_i l e he
  simp only [Bool.and_eq_true,beq_iff_eq] at h3
  obtain ⟨rfl,h4⟩:=h3
  exact looks_aadr h hd ho h1 h2 he h4 hp
 case fld d x off n =>
  split at hm<;>try (cases hm;done)
  rename_i ho
  simp only [Bool.and_eq_true] at hm
  obtain ⟨h1,h2⟩:=hm
  split at h2<;>try (cases h2;done)
  rename_i fd hf
  simp only [Bool.and_eq_true,beq_iff_eq] at h2
  obtain ⟨rfl,h3⟩:=h2
  exact looks_fld h hd ho h1 hf h3 hp
 case idx d x x2 len sz n =>
  split at hm<;>try (cases hm;done)
  rename_i ho
  simp only [Bool.and_eq_true] at hm
  obtain ⟨⟨h1,h2⟩,h3⟩:=hm
  split at h3<;>try (cases h3;done)
  rename_i l e he
  simp only [Bool.and_eq_true,beq_iff_eq] at h3
  obtain ⟨⟨rfl,h4⟩,h5⟩:=h3
  exact looks_idx h hd ho h1 h2 he h4 h5 hp
 case sli d sz x lo hi =>
  split at hm<;>try (cases hm;done)
  rename_i ho
  simp only [Bool.and_eq_true] at hm
  obtain ⟨⟨⟨h1,h2⟩,h3⟩,h4⟩:=hm
  split at h4<;>try (cases h4;done)
  rename_i e he
  exact looks_sli h hd ho h1 h2 h3 he (beq_iff_eq.1 h4) hp
 case ext d x i =>
  split at hm<;>try (cases hm;done)
  rename_i ho
  simp only [Bool.and_eq_true,beq_iff_eq] at hm
  obtain ⟨h1,rfl⟩:=hm
  exact looks_ext h hd ho h1 hp
 case build d z m =>
  split at hm<;>try (cases hm;done)
  rename_i T0 l ho
  simp only [Bool.and_eq_true] at hm
  obtain ⟨⟨h1,h2⟩,h3⟩:=hm
  exact looks_build h hd (l:=l.toList) (by simpa using ho) h1 h2 (placesOk_eq h3) hp
 case bldo d z parts off t =>
  split at hm<;>try (cases hm;done)
  rename_i T0 l ho
  simp only [Bool.and_eq_true] at hm
  obtain ⟨⟨hm1,hm2⟩,hm3⟩:=hm
  split at hm1
  case h_2=>cases hm1
  rename_i p hp0
  simp only [Bool.and_eq_true,beq_iff_eq] at hm1
  obtain ⟨⟨g1,g2⟩,g3⟩:=hm1
  simp only [plain] at hp
  replace hp:=bind_some hp
  obtain ⟨⟨cs,st1⟩,h1,hp⟩:=hp
  simp only at hp
  split at hp
  case h_2=>cases hp
  rename_i sz es e0
  split at hp
  case isFalse=>cases hp
  rename_i hoff
  rw [← Option.some.inj hp]
  have hl:l.toList.dropLast++[(p.1,p.2)]=l.toList:=by
   obtain ⟨ys,hys⟩:=List.getLast?_eq_some_iff.1 hp0
   rw [hys,List.dropLast_concat]
  exact (mute_bldo h hd (l:=l.toList.dropLast) (by rw [hl];simpa using ho) g1 g2 g3 hm2 (placesOk_eq hm3) h1 e0 hoff).looks
 case len d x =>
  split at hm<;>try (cases hm;done)
  rename_i b y T0 ho
  simp only [Bool.and_eq_true,beq_iff_eq] at hm
  obtain ⟨⟨rfl,h1⟩,h2⟩:=hm
  obtain ⟨e,he⟩:=Option.isSome_iff_exists.1 h2
  exact looks_len h hd (call1_eq ho) h1 he hp
 case isn d neg x =>
  split at hm<;>try (cases hm;done)
  rename_i ho
  simp only [Bool.and_eq_true,beq_iff_eq] at hm
  obtain ⟨⟨h1,h2⟩,h3⟩:=hm
  obtain ⟨e,he⟩:=Option.isSome_iff_exists.1 h3
  exact looks_isn h hd ho h1 h2 he hp
 case sl3 d sz x x2 x3 =>
  split at hm<;>try (cases hm;done)
  rename_i ho
  simp only [Bool.and_eq_true] at hm
  obtain ⟨⟨⟨h1,h2⟩,h3⟩,h4⟩:=hm
  split at h4<;>try (cases h4;done)
  rename_i e he
  exact looks_sl3 h hd ho h1 h2 h3 he (beq_iff_eq.1 h4) hp
 case cut d sz x =>
  split at hm<;>try (cases hm;done)
  rename_i ho
  simp only [Bool.and_eq_true] at hm
  obtain ⟨⟨⟨h1,h2⟩,h3⟩,h4⟩:=hm
  split at h4<;>try (cases h4;done)
  rename_i e he
  exact looks_cut h hd ho h1 h2 h3 he (by simpa using h4) hp
 case lens d x =>
  split at hm<;>try (cases hm;done)
  rename_i b y T0 ho
  simp only [Bool.and_eq_true,beq_iff_eq] at hm
  obtain ⟨⟨rfl,h1⟩,h2⟩:=hm
  exact looks_lens h hd (call1_eq ho) h1 (isStrT_eq h2) hp
 case asl d n x =>
  split at hm<;>try (cases hm;done)
  rename_i ho
  simp only [Bool.and_eq_true] at hm
  obtain ⟨h1,h2⟩:=hm
  split at h2<;>try (cases h2;done)
  rename_i l e he
  simp only [Bool.and_eq_true,beq_iff_eq] at h2
  obtain ⟨rfl,h3⟩:=h2
  exact looks_asl h hd ho h1 he h3 hp
 case asz d n sz x =>
  split at hm<;>try (cases hm;done)
  rename_i ho
  simp only [Bool.and_eq_true] at hm
  obtain ⟨h1,h2⟩:=hm
  split at h2<;>try (cases h2;done)
  rename_i l e he
  simp only [Bool.and_eq_true,beq_iff_eq] at h2
  obtain ⟨rfl,h3⟩:=h2
  exact looks_asz h hd ho h1 he h3 hp
 case ldm d n x =>
  split at hm<;>try (cases hm;done)
  rename_i ho
  simp only [Bool.and_eq_true,beq_iff_eq] at hm
  simp only [plain] at hp
  split at hp
  case h_2=>cases hp
  rename_i p e
  obtain ⟨b,hb,hp1⟩:=bind_some hp
  clear hp
  split at hp1
  ·cases hp1
  rename_i hc
  simp only [Bool.or_eq_true,Bool.not_eq_true',decide_eq_false_iff_not,not_or,Bool.not_eq_true,Classical.not_not] at hc
  have hp:=Option.some.inj hp1
  subst hp
  exact looks_ldm h hd ho hm.1 hm.2 e hb hc.1 hc.2
 case ldz d n x =>
  split at hm<;>try (cases hm;done)
  rename_i ho
  simp only [Bool.and_eq_true,beq_iff_eq] at hm
  exact looks_ldz h hd ho hm.1 hm.2 hp
 case mvz d x =>
  split at hm<;>try (cases hm;done)
  rename_i ho;exact looks_mvz h hd ho hm hp
 case mn d mx x x2 =>
  split at hm<;>try (cases hm;done)
  rename_i b y y2 T0 T1 ho
  simp only [Bool.and_eq_true,beq_iff_eq] at hm
  obtain ⟨⟨rfl,h1⟩,h2⟩:=hm
  exact looks_mn h hd (call2_eq ho) h1 h2 hp
 case mkf d f xs =>
  split at hm<;>try (cases hm;done)
  rename_i fn first ys ho
  simp only [Bool.and_eq_true] at hm
  obtain ⟨⟨h1,h2⟩,h3⟩:=hm
  have hfn:=isFn_eq h1
  subst hfn
  have hf0:first=#[]:=by simpa using h2
  subst hf0
  exact looks_mkf h hd (ys:=ys.toList) (by simpa using ho) h3 hp
 all_goals simp [plain] at hp
def gentle:VOp→Bool
 |.alloc ..|.box ..|.mksl ..|.make ..=>true
 |_=>false
theorem act_sound (h:Sim L σ T st a w) (hm:m1 P o vo=true) (hc:∀ d f xs,vo≠.call d f xs) (hv:∀ d x xs,vo≠.callv d x xs) (hy:∀ d x xs,vo≠.yield d x xs) (hsr:∀ d f x g,vo≠.srt d f x g) (hli:∀ d f x xs,vo≠.lin d f x xs) (hlv:∀ d g x xs,vo≠.linv d g x xs) (hp:act rec env vo st=some st'):Does P L σ T st.boxes.length st' a w o (gentle vo):=by
 simp only [m1,Bool.and_eq_true,beq_iff_eq] at hm
 obtain ⟨hd,hm⟩:=hm
 cases vo<;>simp only [mv] at hm
 case alloc d z =>
  split at hm<;>try (cases hm;done)
  rename_i ho;exact does_alloc h hd ho hm hp
 case box d x =>
  split at hm<;>try (cases hm;done)
  rename_i ho;exact does_box h hd ho hm hp
 case mksl d sz xs =>
  split at hm<;>try (cases hm;done)
  rename_i T0 len l ho
  simp only [Bool.and_eq_true,beq_iff_eq,decide_eq_true_eq] at hm
  obtain ⟨⟨⟨⟨h1,h2⟩,h3⟩,h4⟩,h5⟩:=hm
  exact does_mksl h hd (l:=l.toList) (by simpa using ho) h1 h2 (by simpa using h3) h4 h5 hp
 case make d z x x2 =>
  split at hm<;>try (cases hm;done)
  rename_i T0 y y2 ho
  simp only [Bool.and_eq_true] at hm
  obtain ⟨⟨⟨h1,h2⟩,h3⟩,h4⟩:=hm
  split at h4<;>try (cases h4;done)
  rename_i e he
  exact does_make h hd ho h1 h2 h3 he h4 hp
 case app d sz x x2 =>
  split at hm<;>try (cases hm;done)
  rename_i b y y2 T0 T1 ho
  simp only [Bool.and_eq_true,beq_iff_eq] at hm
  obtain ⟨⟨⟨⟨rfl,rfl⟩,h1⟩,h2⟩,h3⟩:=hm
  exact does_app h hd (call2_eq ho) h1 h2 h3 hp
 case apf d sz x x2 =>
  split at hm<;>try (cases hm;done)
  rename_i b y y2 T0 T1 ho
  simp only [Bool.and_eq_true,beq_iff_eq] at hm
  obtain ⟨⟨⟨⟨rfl,rfl⟩,h1⟩,h2⟩,h3⟩:=hm
  exact does_apf h hd (call2_eq ho) h1 h2 h3 hp
 case apb d x x2 =>
  split at hm<;>try (cases hm;done)
  rename_i b y y2 T0 T1 ho
  simp only [Bool.and_eq_true,beq_iff_eq] at hm
  obtain ⟨⟨⟨⟨rfl,rfl⟩,h1⟩,h2⟩,h3⟩:=hm
  exact does_apb h hd (call2_eq ho) h1 h2 h3 hp
 case cpy d sz x x2 =>
  split at hm<;>try (cases hm;done)
  rename_i b y y2 T0 T1 ho
  simp only [Bool.and_eq_true,beq_iff_eq] at hm
  obtain ⟨⟨⟨rfl,h1⟩,h2⟩,h3⟩:=hm
  exact does_cpy h hd (call2_eq ho) h1 h2 h3 hp
 case store dd n x x2 =>
  split at hm<;>try (cases hm;done)
  rename_i T0 y y2 ho
  simp only [Bool.and_eq_true,beq_iff_eq] at hm
  obtain ⟨⟨⟨h0,h1⟩,h2⟩,h3⟩:=hm
  have hdn:=Option.isNone_iff_eq_none.1 h0
  subst hdn
  simp only [act] at hp
  replace hp:=bind_some hp
  obtain ⟨⟨v,own,st1⟩,g1,hp⟩:=hp
  simp only at hp
  split at hp
  case h_3=>cases hp
  case h_1 p j e =>
   replace hp:=bind_some hp
   obtain ⟨bx,g2,hp⟩:=hp
   split at hp
   ·cases hp
   ·rename_i hc
    simp only [Bool.or_eq_true,Bool.not_eq_true',decide_eq_false_iff_not,not_or,Bool.not_eq_true,Decidable.not_not] at hc
    obtain ⟨⟨c1,c2⟩,c3⟩:=hc
    obtain ⟨s1,s2⟩:=does_storeBox (P:=P) h hd ho h1 h2 h3 g1 e g2 c1 c2 c3
    cases own with
    |false =>
     have e2:some st'=some { st1 with boxes:=st1.boxes.set p { bx with cs:=bx.cs.take j++v.cells.map .pv++bx.cs.drop (j+n) } }:=by rw [← hp];cases v<;>rfl
     rw [Option.some.inj e2];exact s1 rfl
    |true =>
     obtain ⟨_,_,_,_,_,k5⟩:=h.consume h2 g1
     obtain ⟨sz,es,m,rfl,_⟩:=k5 rfl
     have hp2:=Option.some.inj hp
     rw [← hp2];exact s2 sz es rfl rfl
  case h_2 r i j e =>
   replace hp:=bind_some hp
   obtain ⟨⟨sz,es⟩,g2,hp⟩:=hp
   replace hp:=bind_some hp
   obtain ⟨el,g3,hp⟩:=hp
   simp only at hp g3
   split at hp
   case isFalse=>cases hp
   rename_i g4
   replace hp:=bind_some hp
   obtain ⟨cs,g5,hp⟩:=hp
   replace hp:=bind_some hp
   obtain ⟨e',g6,hp⟩:=hp
   rw [← Option.some.inj hp]
   exact does_storeEl h hd ho h1 h2 h3 g1 e g2 g3 g4 g5 g6
 case call d f xs=>exact absurd rfl (hc d f xs)
 case callv d x xs=>exact absurd rfl (hv d x xs)
 case yield d x xs=>exact absurd rfl (hy d x xs)
 case srt d f x g=>exact absurd rfl (hsr d f x g)
 case lin d f x xs=>exact absurd rfl (hli d f x xs)
 case linv d g x xs=>exact absurd rfl (hlv d g x xs)
 case bxw d x =>
  split at hm<;>try (cases hm;done)
  rename_i ho
  simp only [act] at hp
  split at hp
  case h_2=>cases hp
  rename_i m
  split at hp
  case h_2=>cases hp
  rename_i l e
  obtain ⟨cs,hcs,hp1⟩:=bind_some hp
  clear hp
  have hp:=Option.some.inj hp1
  subst hp
  obtain ⟨nx,v,w1,σ1,T1,q1,q2,q3,q4,q5,_⟩:=does_bxw h hd ho hm e hcs
  exact ⟨nx,v,w1,σ1,T1,q1,q2,q3,q4,q5,fun e=>by cases e⟩
 case stw n x x2 =>
  split at hm<;>try (cases hm;done)
  rename_i T0 y y2 ho
  simp only [Bool.and_eq_true,beq_iff_eq] at hm
  obtain ⟨⟨h1,h2⟩,h3⟩:=hm
  simp only [act] at hp
  split at hp
  case h_2=>cases hp
  rename_i m
  split at hp
  case h_3=>cases hp
  case h_1 =>
   rename_i l e0
   split at hp
   case h_2=>cases hp
   rename_i p j e1
   replace hp:=bind_some hp
   obtain ⟨bx,g2,hp⟩:=hp
   replace hp:=bind_some hp
   obtain ⟨cs,g3,hp⟩:=hp
   split at hp
   ·cases hp
   ·rename_i hc
    simp only [Bool.or_eq_true,Bool.not_eq_true',decide_eq_false_iff_not,not_or,Bool.not_eq_true,Decidable.not_not] at hc
    rw [← Option.some.inj hp]
    exact does_stw h hd (by simpa using ho) h1 h2 h3 e0 e1 g2 hc.1.1 g3 hc.1.2 hc.2
  case h_2 =>
   rename_i zs e0
   split at hp
   case h_2=>cases hp
   rename_i p j e1
   replace hp:=bind_some hp
   obtain ⟨bx,g2,hp⟩:=hp
   split at hp
   ·cases hp
   ·rename_i hc
    simp only [Bool.or_eq_true,Bool.not_eq_true',decide_eq_false_iff_not,not_or,Bool.not_eq_true,Decidable.not_not] at hc
    rw [← Option.some.inj hp]
    exact does_stn h hd (by simpa using ho) h1 h2 h3 e0 e1 g2 hc.1.1 hc.1.2 hc.2
 all_goals simp [act] at hp
end
end Go.Proofs.YtpcncggjmabnaaaGreatDoor

namespace Go.Proofs.YtpcncggjmabnaaaGreatDoor
open Go.RowKit
section
variable {P:Program} {L:Nat} {σ σ':Nat→Nat} {T T' T1:Tags} {st st' st1:St} {a:Act} {w w1:World} {o:Oper} {vo:VOp} {y:Operand} {x:Opd}
 {rec:VCode→St→Option (Ex × St)} {env:Env}
structure Froz (T T':Tags) (st st':St):Prop where
 keep:∀ b,T' b=T b∨(T b≠.other∧T' b=.ro)
 rows:∀ r sz es,st.row r=some (sz,es)→st'.row r=some (sz,es)∨∀ b,T b=.row r→T' b=.ro
 boxes:∀ (p:Nat) bx,st.boxes[p]?=some bx→(∃ bx',st'.boxes[p]?=some bx'∧bx'.fz=bx.fz)∨((∀ b,T b=.box p→T' b=.ro)∧∀ b j,T b=.row (.cell p j)→T' b=.ro)
 slots:∀ x,st'.get x=st.get x∨∃ sz es,st.get x=.row sz es∧st'.get x=.pv (.list sz es)
 gone:∀ n sz es,st.get (.t n)=.row sz es→st'.get (.t n)=.pv (.list sz es)→∀ b,T b=.row (.slot n)→T' b=.ro
theorem Froz.refl (T:Tags) (st:St):Froz T T st st:=⟨fun _=>.inl rfl,fun _ _ _ h=>.inl h,fun _ bx h=>.inl ⟨bx,h,rfl⟩,fun _=>.inl rfl,fun n sz es h1 h2=>by rw [h1] at h2;cases h2⟩
theorem Froz.still (h:Froz T T' st st'):Still T T':=⟨fun b e=>by rcases h.keep b with k|k;rw [k];exact e;exact k.2,fun b e=>by rcases h.keep b with k|k;rw [k];exact e;exact absurd e k.1⟩
theorem Froz.row_ro (h:Froz T T' st st') {r:Root} {b:Nat} (hb:T b=.row r):T' b=.row r∨T' b=.ro:=by
 rcases h.keep b with k|k
 ·rw [k];exact .inl hb
 ·exact .inr k.2
def argRoot (x:Opd):AV→Option Root
 |.row _ _=>match x with
  |.t n=>some (.slot n)
  |_=>none
 |.ref r _ _=>some r
 |.pel r _ _=>some r
 |_=>none
def argBox:AV→Option Nat
 |.pbox p _=>some p
 |_=>none
structure Needs (T T':Tags) (x:Opd) (v:AV):Prop where
 root:∀ r,argRoot x v=some r→∀ b,T b=.row r→T' b=.ro
 box:∀ p,argBox v=some p→(∀ b,T b=.box p→T' b=.ro)∧∀ b j,T b=.row (.cell p j)→T' b=.ro
theorem Needs.still {v:AV} (h:Needs T T' x v) (k:Still T' T1):Needs T T1 x v :=
 ⟨fun r e b hb=>k.ro b (h.root r e b hb),fun p e=>⟨fun b hb=>k.ro b ((h.box p e).1 b hb),fun b j hb=>k.ro b ((h.box p e).2 b j hb)⟩⟩
theorem row_freeze_ne {r q:Root} (h:q≠r) {sz:Nat} {es:List PV} (hq:st.row q=some (sz,es)):(st.freeze r).row q=some (sz,es):=by
 unfold St.freeze
 cases hr:st.row r with
 |none=>exact hq
 |some p =>
  obtain ⟨s,l⟩:=p
  cases r with
  |slot t=>exact (row_put_ne h).trans hq
  |part t i=>exact hq
  |cell o j =>
   cases q with
   |slot t=>simp only [St.setCell];split<;>exact hq
   |part t i=>simp [St.row] at hq
   |cell o' j' =>
    obtain ⟨bx,h1,h2,h3⟩:=cell_of_row' hq
    obtain ⟨bx2,g1,g2,g3⟩:=cell_of_row' hr
    simp only [St.setCell,g1,St.row,List.getElem?_set]
    by_cases ho:o=o'
    ·subst ho
     rw [g1] at h1;cases h1
     have hj:j≠j':=fun e=>h (by rw [e])
     simp only [if_true,if_pos (List.getElem?_eq_some_iff.1 g1).1,h2,Bool.false_eq_true,if_false,List.getElem?_set,if_neg hj,h3]
    ·simp only [if_neg ho,h1,h2,Bool.false_eq_true,if_false,h3]
theorem get_freeze (r:Root) (x:Opd):(st.freeze r).get x=st.get x∨∃ n sz es,x=.t n∧r=.slot n∧st.get x=.row sz es∧(st.freeze r).get x=.pv (.list sz es):=by
 cases x with
 |c v=>exact .inl rfl
 |nil s=>exact .inl rfl
 |t n =>
  unfold St.freeze
  cases hr:st.row r with
  |none=>exact .inl rfl
  |some p =>
   obtain ⟨s,l⟩:=p
   cases r with
   |part t i=>exact .inl rfl
   |cell o j=>left;simp only [St.setCell];split<;>rfl
   |slot t =>
    have hs:=slot_of_row hr
    by_cases ht:t=n
    ·subst ht
     refine .inr ⟨t,s,l,rfl,rfl,by simp [St.get,List.getD,hs],?_⟩
     simp [St.get,St.put,List.getD,List.getElem?_set,(List.getElem?_eq_some_iff.1 hs).1]
    ·left
     simp [St.get,St.put,List.getD,List.getElem?_set,ht]
theorem boxes_freeze (r:Root) {p:Nat} {bx:Box} (hp:st.boxes[p]?=some bx):∃ bx',(st.freeze r).boxes[p]?=some bx'∧bx'.fz=bx.fz:=by
 unfold St.freeze
 cases hr:st.row r with
 |none=>exact ⟨bx,hp,rfl⟩
 |some q =>
  obtain ⟨s,l⟩:=q
  cases r with
  |slot t=>exact ⟨bx,hp,rfl⟩
  |part t i=>exact ⟨bx,hp,rfl⟩
  |cell o j =>
   obtain ⟨bx2,g1,g2,g3⟩:=cell_of_row' hr
   simp only [St.setCell,g1,List.getElem?_set]
   by_cases ho:o=p
   ·subst ho
    rw [g1] at hp;cases hp
    exact ⟨{ bx with cs:=bx.cs.set j (.pv (.list s l)) },by rw [if_pos rfl,if_pos (List.getElem?_eq_some_iff.1 g1).1],rfl⟩
   ·exact ⟨bx,by rw [if_neg ho];exact hp,rfl⟩
theorem Froz.freeze (h:Froz T T' st st') (hs:Sim L σ T' st' a w) (r:Root):∃ T1,Froz T T1 st (st'.freeze r)∧Sim L σ T1 (st'.freeze r) a w∧Still T' T1∧∀ sz es,st.row r=some (sz,es)→∀ b,T b=.row r→T1 b=.ro:=by
 cases hr:st'.row r with
 |none =>
  have e:st'.freeze r=st':=by unfold St.freeze;rw [hr]
  rw [e]
  refine ⟨T',h,hs,Still.refl _,fun sz es e b hb=>?_⟩
  rcases h.rows r sz es e with k|k
  ·rw [hr] at k;cases k
  ·exact k b hb
 |some p =>
  obtain ⟨s,l⟩:=p
  obtain ⟨T1,k1,k2,k3,k4,k5⟩:=hs.freeze r
  have hro:=k4 s l hr
  refine ⟨T1,⟨fun b=>?_,fun q sz es e=>?_,fun p bx e=>?_,fun x=>?_,fun n sz es e1 e2 b hb=>?_⟩,k1,k2,fun sz es e b hb=>?_⟩
  ·-- tags turn to 'ro' alone
   rcases h.keep b with g|g
   ·cases hT:T b with
    |ro=>left;exact k2.ro b (by rw [g,hT])
    |other=>left;exact k2.other b (by rw [g,hT])
    |row q =>
     by_cases hq:q=r
     ·subst hq;right;exact ⟨by simp,hro b (by rw [g,hT])⟩
     ·left;exact k3 b q hq (by rw [g,hT])
    |box o=>left;exact k5 b o (by rw [g,hT])
   ·right;exact ⟨g.1,k2.ro b g.2⟩
  ·by_cases hq:q=r
   ·subst hq
    right;intro b hb
    rcases h.row_ro hb with g|g
    ·exact hro b g
    ·exact k2.ro b g
   ·rcases h.rows q sz es e with g|g
    ·left;exact row_freeze_ne hq g
    ·right;exact fun b hb=>k2.ro b (g b hb)
  ·rcases h.boxes p bx e with ⟨bx',g1,g2⟩|⟨g1,g2⟩
   ·obtain ⟨bx'',q1,q2⟩:=boxes_freeze r g1
    exact .inl ⟨bx'',q1,q2.trans g2⟩
   ·exact .inr ⟨fun b hb=>k2.ro b (g1 b hb),fun b j hb=>k2.ro b (g2 b j hb)⟩
  ·rcases get_freeze (st:=st') r x with g|⟨n,sz,es,rfl,rfl,g1,g2⟩
   ·rw [g];exact h.slots x
   ·rcases h.slots (.t n) with q|⟨s2,l2,q1,q2⟩
    ·exact .inr ⟨sz,es,q ▸ g1,g2⟩
    ·rw [q2] at g1;cases g1
  ·rcases get_freeze (st:=st') r (.t n) with g|⟨n',sz',es',e3,rfl,g1,g2⟩
   ·rw [g] at e2;exact k2.ro b (h.gone n sz es e1 e2 b hb)
   ·cases e3
    rcases h.row_ro hb with g|g
    ·exact hro b g
    ·exact k2.ro b g
  ·rcases h.row_ro hb with g|g
   ·exact hro b g
   ·exact k2.ro b g
theorem Froz.freezeBox (h:Froz T T' st st') (hs:Sim L σ T' st' a w) (p:Nat):∃ T1,Froz T T1 st (st'.freezeBox p)∧Sim L σ T1 (st'.freezeBox p) a w∧Still T' T1∧((st.boxes[p]?).isSome=true→(∀ b,T b=.box p→T1 b=.ro)∧∀ b j,T b=.row (.cell p j)→T1 b=.ro):=by
 have hS:=hs.freezeBox p
 cases hp:st'.boxes[p]? with
 |none =>
  have e:st'.freezeBox p=st':=by unfold St.freezeBox;rw [hp]
  rw [e]
  refine ⟨T',h,hs,Still.refl _,fun hx=>?_⟩
  obtain ⟨bx,hb⟩:=Option.isSome_iff_exists.1 hx
  rcases h.boxes p bx hb with ⟨bx',g1,_⟩|g
  ·rw [hp] at g1;cases g1
  ·exact g
 |some bx0 =>
  rw [hp] at hS
  simp only [Option.isSome_some,if_true] at hS
  have e:st'.freezeBox p={ st' with boxes:=st'.boxes.set p ⟨true,bx0.cs.map BV.frozen⟩ }:=by unfold St.freezeBox;rw [hp]
  have hpl:p<st'.boxes.length:=(List.getElem?_eq_some_iff.1 hp).1
  have hbox:∀ b,T b=.box p→frozB T' p b=.ro:=fun b hb=>by
   rcases h.keep b with k|k
   ·exact frozB_src (by rw [k,hb])
   ·exact frozB_ro k.2
  have hcell:∀ b j,T b=.row (.cell p j)→frozB T' p b=.ro:=fun b j hb=>by
   rcases h.keep b with k|k
   ·exact frozB_cell (by rw [k,hb])
   ·exact frozB_ro k.2
  refine ⟨frozB T' p,⟨fun b=>?_,fun q sz es e1=>?_,fun q bx e1=>?_,fun x=>?_,fun n sz es e1 e2 b hb=>?_⟩,hS,Still.frozB T' p,fun _=>⟨hbox,hcell⟩⟩
  ·rcases h.keep b with g|g
   ·cases hT:T b with
    |ro=>left;exact frozB_ro (by rw [g,hT])
    |other=>left;exact frozB_other (by rw [g,hT])
    |box o =>
     by_cases ho:o=p
     ·subst ho;right;exact ⟨by simp,hbox b hT⟩
     ·left;exact frozB_box ho (by rw [g,hT])
    |row q =>
     by_cases hq:∃ j,q=.cell p j
     ·obtain ⟨j,rfl⟩:=hq;right;exact ⟨by simp,hcell b j hT⟩
     ·left;exact frozB_row (fun j e=>hq ⟨j,e⟩) (by rw [g,hT])
   ·right;exact ⟨g.1,frozB_ro g.2⟩
  ·by_cases hq:∃ j,q=.cell p j
   ·obtain ⟨j,rfl⟩:=hq;right;exact fun b hb=>hcell b j hb
   ·rcases h.rows q sz es e1 with g|g
    ·left
     rw [e]
     cases q with
     |slot t=>exact g
     |part t i=>exact g
     |cell o j =>
      have ho:p≠o:=fun e=>hq ⟨j,by rw [e]⟩
      simp only [St.row,List.getElem?_set,if_neg ho] at g ⊢
      exact g
    ·right;exact fun b hb=>frozB_ro (g b hb)
  ·by_cases hq:q=p
   ·subst hq;exact .inr ⟨hbox,hcell⟩
   ·rcases h.boxes q bx e1 with ⟨bx',g1,g2⟩|⟨g1,g2⟩
    ·exact .inl ⟨bx',by rw [e];simp only [List.getElem?_set,if_neg (Ne.symm hq)];exact g1,g2⟩
    ·exact .inr ⟨fun b hb=>frozB_ro (g1 b hb),fun b j hb=>frozB_ro (g2 b j hb)⟩
  ·have:(st'.freezeBox p).get x=st'.get x:=by rw [e];cases x<;>rfl
   rw [this];exact h.slots x
  ·have:(st'.freezeBox p).get (.t n)=st'.get (.t n):=by rw [e];rfl
   rw [this] at e2
   exact frozB_ro (h.gone n sz es e1 e2 b hb)
def Held (st:St) (x:Opd) (v:AV):Prop:=(∀ r,argRoot x v=some r→(st.row r).isSome=true)∧∀ p,argBox v=some p→(st.boxes[p]?).isSome=true
theorem Froz.arg1 (h:Froz T T' st st') (hs:Sim L σ T' st' a w) (x:Opd) {v:AV} (hv:Held st x v):∃ T1,Froz T T1 st (st'.freezeArg1 x v)∧Sim L σ T1 (st'.freezeArg1 x v) a w∧Still T' T1∧Needs T T1 x v:=by
 have none':argRoot x v=none→argBox v=none→Needs T T' x v:=fun h1 h2=>Needs.mk (fun r e=>(by rw [h1] at e;cases e)) (fun p e=>(by rw [h2] at e;cases e))
 have root:∀ r,argRoot x v=some r→argBox v=none→∃ T1,Froz T T1 st (st'.freeze r)∧Sim L σ T1 (st'.freeze r) a w∧Still T' T1∧Needs T T1 x v:=fun r e1 e2=>by
  obtain ⟨T1,k1,k2,k4,k3⟩:=h.freeze hs r
  obtain ⟨⟨sz,es⟩,hr⟩:=Option.isSome_iff_exists.1 (hv.1 r e1)
  exact ⟨T1,k1,k2,k4,Needs.mk (fun q e b hb=>(by rw [e1] at e;cases e;exact k3 sz es hr b hb)) (fun p e=>(by rw [e2] at e;cases e))⟩
 unfold St.freezeArg1
 cases v with
 |row sz es =>
  cases x with
  |t n=>exact root (.slot n) rfl rfl
  |c v=>exact ⟨T',h,hs,Still.refl _,none' rfl rfl⟩
  |nil s=>exact ⟨T',h,hs,Still.refl _,none' rfl rfl⟩
 |ref r off len=>exact root r rfl rfl
 |pel r i j=>exact root r rfl rfl
 |pbox p j =>
  obtain ⟨T1,k1,k2,k4,k3⟩:=h.freezeBox hs p
  exact ⟨T1,k1,k2,k4,Needs.mk (fun r e=>(by cases e)) (fun q e=>(by cases e;exact k3 (hv.2 p rfl)))⟩
 |pv v=>exact ⟨T',h,hs,Still.refl _,none' rfl rfl⟩
 |fn f l=>exact ⟨T',h,hs,Still.refl _,none' rfl rfl⟩
 |tup k l=>exact ⟨T',h,hs,Still.refl _,none' rfl rfl⟩
 |ful s l=>exact ⟨T',h,hs,Still.refl _,none' rfl rfl⟩
 |yld=>exact ⟨T',h,hs,Still.refl _,none' rfl rfl⟩
 |any=>exact ⟨T',h,hs,Still.refl _,none' rfl rfl⟩
theorem Froz.capsF:∀ (l:List AV) {T':Tags} {st':St},Froz T T' st st'→Sim L σ T' st' a w→(∀ v∈l,Held st (.c .void) v)→∃ T1,Froz T T1 st (l.foldl (fun s v=>s.freezeArg1 (.c .void) v) st')∧Sim L σ T1 (l.foldl (fun s v=>s.freezeArg1 (.c .void) v) st') a w∧Still T' T1∧∀ v∈l,Needs T T1 (.c .void) v
 |[],T',st',h,hs,_=>⟨T',h,hs,Still.refl _,fun v hv=>by cases hv⟩
 |v :: l,T',st',h,hs,hv=>by
  obtain ⟨T1,k1,k2,k4,k3⟩:=h.arg1 hs (.c .void) (hv v List.mem_cons_self)
  obtain ⟨T2,q1,q2,q3,q4⟩:=Froz.capsF l k1 k2 (fun v hv'=>hv v (List.mem_cons_of_mem _ hv'))
  refine ⟨T2,q1,q2,k4.trans q3,fun u hu=>?_⟩
  rcases List.mem_cons.1 hu with rfl|hu
  ·exact k3.still q3
  ·exact q4 u hu
def NeedsF (T T':Tags) (x:Opd):AV→Prop
 |.fn _ caps=>∀ v∈caps,Needs T T' (.c .void) v
 |v=>Needs T T' x v
def HeldF (st:St) (x:Opd):AV→Prop
 |.fn _ caps=>∀ v∈caps,Held st (.c .void) v
 |v=>Held st x v
theorem NeedsF.still {v:AV} (h:NeedsF T T' x v) (k:Still T' T1):NeedsF T T1 x v:=by
 cases v<;>first|exact Needs.still h k|exact fun v hv=>(h v hv).still k
theorem Froz.arg (h:Froz T T' st st') (hs:Sim L σ T' st' a w) (x:Opd) (hv:HeldF st x (st.get x)):∃ T1,Froz T T1 st (st'.freezeArg x)∧Sim L σ T1 (st'.freezeArg x) a w∧Still T' T1∧NeedsF T T1 x (st.get x):=by
 rcases h.slots x with e|⟨sz,es,e1,e2⟩
 ·unfold St.freezeArg
  rw [e]
  cases hg:st.get x with
  |fn f caps =>
   rw [hg] at hv
   exact h.capsF caps hs hv
  |_ =>
   rw [hg] at hv
   exact h.arg1 hs x hv
 ·unfold St.freezeArg
  rw [e1,e2]
  cases x with
  |t n=>exact ⟨T',h,hs,Still.refl _,Needs.mk (fun r e b hb=>(by cases e;exact h.gone n sz es e1 e2 b hb)) (fun p e=>(by cases e))⟩
  |c v=>cases e1
  |nil s=>cases e2
theorem Froz.args:∀ (xs:List Opd) {T':Tags} {st':St},Froz T T' st st'→Sim L σ T' st' a w→(∀ x∈xs,HeldF st x (st.get x))→∃ T1,Froz T T1 st (xs.foldl St.freezeArg st')∧Sim L σ T1 (xs.foldl St.freezeArg st') a w∧Still T' T1∧∀ x∈xs,NeedsF T T1 x (st.get x)
 |[],T',st',h,hs,_=>⟨T',h,hs,Still.refl _,fun v hv=>by cases hv⟩
 |x :: xs,T',st',h,hs,hv=>by
  obtain ⟨T1,k1,k2,k4,k3⟩:=h.arg hs x (hv x List.mem_cons_self)
  obtain ⟨T2,q1,q2,q3,q4⟩:=Froz.args xs k1 k2 (fun v hv'=>hv v (List.mem_cons_of_mem _ hv'))
  refine ⟨T2,q1,q2,k4.trans q3,fun u hu=>?_⟩
  rcases List.mem_cons.1 hu with rfl|hu
  ·exact k3.still q3
  ·exact q4 u hu
theorem snap_held {v:AV} {p:PV} {fl:Bool} (h:st.snap v=some (p,fl)) (hx:∀ sz es,v=.row sz es→∃ n,x=.t n∧st.get x=v∨x=.c .void∨∃ s,x=.nil s):Held st x v:=by
 unfold St.snap at h
 split at h
 ·exact ⟨fun r e=>(by cases e),fun p e=>(by cases e)⟩
 ·rename_i sz es
  refine ⟨fun r e=>?_,fun p e=>(by cases e)⟩
  obtain ⟨n,⟨rfl,hg⟩|rfl|⟨s,rfl⟩⟩:=hx sz es rfl
  ·cases e
   have:=slots_get hg (by simp)
   simp [St.row,this]
  ·cases e
  ·cases e
 ·rename_i r off len
  refine ⟨fun q e=>?_,fun p e=>(by cases e)⟩
  cases e
  split at h
  ·rename_i hr;rw [hr];rfl
  ·cases h
 ·rename_i o j
  refine ⟨fun q e=>(by cases e),fun p e=>?_⟩
  cases e
  split at h
  ·rename_i hb;rw [hb];rfl
  ·cases h
 ·rename_i r i j
  refine ⟨fun q e=>?_,fun p e=>(by cases e)⟩
  cases e
  split at h
  ·rename_i hr;rw [hr];rfl
  ·cases h
 ·cases h
theorem Sim.snap (h:Sim L σ T st a w) {t:Nat} {v:AV} {u:Value} (hv:ARep L σ T st a w t v u) (ht:∀ sz es,v=.row sz es→x=.t t) {p:PV} {fl:Bool} (hs:st.snap v=some (p,fl)) (hst:Still T T1) (hn:Needs T T1 x v):PRep (fun b=>T1 b=.ro) w p u:=by
 have hro:∀ b,T b=.ro→b<w.heap.size→T1 b=.ro∧w.heap[b]?=w.heap[b]?:=fun b e _=>⟨hst.ro b e,rfl⟩
 unfold St.snap at hs
 split at hs
 ·cases hs;exact PRep.frame hro hv
 ·rename_i sz es
  cases hs
  have hx:=ht sz es rfl
  subst hx
  exact RowRep.list (hn.root _ rfl) hst.ro hv
 ·rename_i r off len
  split at hs
  ·rename_i sz es hr
   split at hs
   ·rename_i hl
    cases hs
    exact h.refList hr (hv.2 sz es hr) hl (hn.root _ rfl) hst.ro
   ·cases hs
  ·cases hs
 ·rename_i o j
  split at hs
  ·rename_i bx hb
   cases hs
   obtain ⟨_,rfl⟩:=hv
   have hbx:=h.boxes o bx hb
   have hmem:=hbx.mem (T':=T1) (fun j b e=>(hn.box _ rfl).2 b j e) hst.ro
   have htag:T1 (σ o)=.ro:=by
    obtain ⟨_,_,_,_,h3,_⟩:=hbx
    split at h3
    ·exact hst.ro _ h3
    ·exact (hn.box _ rfl).1 _ h3
   have:=PRep.iptr_mk (off:=0) j htag hbx.cellish hmem
   rwa [Nat.zero_add] at this
  ·cases hs
 ·rename_i r i j
  split at hs
  ·rename_i q es hr
   split at hs
   ·rename_i e he
    cases hs
    obtain ⟨b,rfl,h1,h2,h3⟩:=h.ptrMem hr he (hv.2 _ es hr)
    exact PRep.iptr_mk j (hn.root _ rfl b h1) h2 (h3.mono hst.ro)
   ·cases hs
  ·cases hs
 ·cases hs
end
end Go.Proofs.YtpcncggjmabnaaaGreatDoor

namespace Go.Proofs.YtpcncggjmabnaaaGreatDoor
open Go.RowKit
def globs:List (Nat × List PV):=[(0,Lib.deBruijn64tab.map fun (n:Nat)=>PV.int .u8 (n:Int))]
def GlobOk (T:Tags) (w:World):Prop:=∀ p∈globs,PRep (fun b=>T b=.ro) w (.iptr p.2 0) (.pointer (some ⟨p.1,0,none⟩))
theorem GlobOk.frame {T T':Tags} {w w':World} (h:GlobOk T w) (hf:∀ b,T b=.ro→b<w.heap.size→T' b=.ro∧w'.heap[b]?=w.heap[b]?):GlobOk T' w':=fun p hp=>(h p hp).frame hf
theorem GlobOk.chg {T T':Tags} {w w':World} (h:GlobOk T w) (hr:∀ b,T b=.ro→T' b=.ro) (hs:∀ b,b<w.heap.size→T b=.ro→w'.heap[b]?=w.heap[b]?):GlobOk T' w':=h.frame fun b e hb=>⟨hr b e,hs b hb e⟩
end Go.Proofs.YtpcncggjmabnaaaGreatDoor

namespace Go.Proofs.YtpcncggjmabnaaaGreatDoor
open Go.RowKit
def R1 (T:Tags) (w:World) (i:Nat):Res→Value→Prop
 |(.list sz es,true),u=>RowRep T w (.part 0 i) sz es u
 |(.agg cs,true),u=>∃ arr:Array Value,u=.agg arr∧arr.size=cs.length∧∀ (k:Nat) x v,cs[k]?=some x→arr[k]?=some v→PartRep T w 0 k (ownP x) v
 |(x,_),u=>PRep (fun b=>T b=.ro) w x u
def ResRep (T:Tags) (w:World) (rs:List Res) (v:Value):Prop :=
 ∃ arr:Array Value,arr.size=rs.length∧v=(if arr.size=1 then arr.getD 0 undef else .tuple arr)∧∀ (i:Nat) r u,rs[i]?=some r→arr[i]?=some u→R1 T w i r u
def CallOk (P:Program) (f:Nat) (args:List PV) (rs:List Res):Prop :=
 ∀ (T0:Tags) (w:World) (vs:List Value),(∀ b,T0 b=.ro∨T0 b=.other)→(∀ b,w.heap.size≤b→T0 b=.other)→vs.length=args.length→(∀ (i:Nat) x v,args[i]?=some x→vs[i]?=some v→PRep (fun b=>T0 b=.ro) w x v)→GlobOk T0 w →
  Calls P f vs.toArray w (fun e w'=>∃ v T',e=.returned v∧Below w.heap.size w w'∧(∀ b,b<w.heap.size→T' b=T0 b)∧(∀ b,w'.heap.size≤b→T' b=.other)∧ResRep T' w' rs v)
def ThrOk (P:Program) (f:Nat) (args:List PV) (t:Nat) (n:Int):Prop :=
 ∀ (T0:Tags) (w:World) (vs:List Value),(∀ b,T0 b=.ro∨T0 b=.other)→(∀ b,w.heap.size≤b→T0 b=.other)→vs.length=args.length→(∀ (i:Nat) x v,args[i]?=some x→vs[i]?=some v→PRep (fun b=>T0 b=.ro) w x v)→GlobOk T0 w →
  Calls P f vs.toArray w (fun e w'=>e=.panicked [{ v:=.iface t (.int .i64 n),recovered:=false }]∧Below w.heap.size w w')
def LRep (T:Tags) (w:World) (v:Value):LArg→Prop
 |.row sz es=>RowRep T w (.slot 0) sz es v
 |.own l=>∃ arr:Array Value,v=.agg arr∧arr.size=l.length∧∀ (k:Nat) x u,l[k]?=some x→arr[k]?=some u→PartRep T w 0 k x u
 |.box cs=>∃ b,v=.pointer (some ⟨b,0,none⟩)∧BoxRep T w b 0 ⟨false,cs.map .pv⟩
def LOut (T:Tags) (w:World) (v:Value):Option (List PV)→Prop
 |none=>True
 |some cs=>∀ b,v=.pointer (some ⟨b,0,none⟩)→T b=.other∧∃ arr E,w.heap[b]?=some (.cells arr E (0,0))∧arr.size=cs.length∧∀ (j:Nat) x u,cs[j]?=some x→arr[j]?=some u→u.oneCell'=true∧PRep (fun b=>T b=.ro) w x u
def CallOkL (P:Program) (f:Nat) (x:LArg) (args:List PV) (rs:List Res) (out:Option (List PV)):Prop :=
 ∀ (T0:Tags) (w:World) (v:Value) (vs:List Value),(∀ b,w.heap.size≤b→T0 b=.other)→LRep T0 w v x→vs.length=args.length→(∀ (i:Nat) x v,args[i]?=some x→vs[i]?=some v→PRep (fun b=>T0 b=.ro) w x v)→GlobOk T0 w →
  Calls P f (v :: vs).toArray w (fun e w'=>∃ u T',e=.returned u∧w.heap.size≤w'.heap.size∧w'.os=w.os∧w'.tape=w.tape∧w'.output=w.output∧(∀ b,b<w.heap.size→(T0 b=.ro∨T0 b=.other)→w'.heap[b]?=w.heap[b]?∧T' b=T0 b)∧(∀ b,w'.heap.size≤b→T' b=.other)∧ResRep T' w' rs u∧LOut T' w' v out)
def SortOk (P:Program) (f:Nat) (h:PV→List PV→Option (List PV)):Prop :=
 ∀ (c:PV) (sz:Nat) (es es':List PV),h c es=some es'→∀ (T:Tags) (w:World) (r:Root) (v cv:Value),(∀ b,w.heap.size≤b→T b=.other)→RowRep T w r sz es v→PRep (fun b=>T b=.ro) w c cv →
  Calls P f #[v,cv] w (fun e w'=>∃ u,e=.returned u∧w.heap.size≤w'.heap.size∧w'.os=w.os∧w'.tape=w.tape∧w'.output=w.output∧(∀ b,b<w.heap.size→T b≠.row r→w'.heap[b]?=w.heap[b]?)∧RowRep T w' r sz es' v)
section
variable {P:Program} {L:Nat} {σ σ':Nat→Nat} {T T' T1 T2:Tags} {st st' st1:St} {a:Act} {w w1:World} {o:Oper} {vo:VOp} {y:Operand} {x:Opd} {d:Nat}
 {rec:VCode→St→Option (Ex × St)} {env:Env}
theorem Sim.more (h:Sim L σ T st a w) (hT:∀ b,T b≠.other→T2 b=T b) (hf:∀ b,w.heap.size≤b→T2 b=.other):Sim L σ T2 st a w:=by
 have hq:∀ b q,q≠.other→T b=q→T2 b=q:=fun b q hq e=>by rw [hT b (by rw [e];exact hq),e]
 have hw:∀ b,T b=.ro→b<w.heap.size→T2 b=.ro∧w.heap[b]?=w.heap[b]?:=fun b e _=>⟨hq b _ (by simp) e,rfl⟩
 refine ⟨h.size,fun t av v ht hv=>?_,fun p bx ho=>?_,hf⟩
 ·exact (h.slots t av v ht hv).keep hw (fun _ _ _ b e _=>⟨hq b _ (by simp) e,rfl⟩) (fun _ _ _ _ b e _=>⟨hq b _ (by simp) e,rfl⟩) (fun _ _ _ s l e=>⟨⟨l,e⟩,rfl⟩) (Nat.le_refl _) (fun _ _=>rfl)
 ·have hb:=h.boxes p bx ho
  have hT':T2 (σ p)=T (σ p):=by
   obtain ⟨_,_,_,_,h3,_⟩:=hb
   exact hT _ (by rw [h3];split<;>simp)
  exact hb.frame ⟨hT',rfl⟩ (fun j b e _=>⟨hq b _ (by simp) e,rfl⟩) hw
theorem scalar_rep {ok ok':Nat→Prop} {x:PV} {u:Value} (hx:x.scalar=true) (h:PRep ok w x u):PRep ok' w1 x u:=by
 cases x<;>simp only [PV.scalar,reduceCtorEq] at hx
 case int k n=>rw [h.int_inv];exact .int _ _
 case bool b=>rw [h.bool_inv];exact .bool _
 case str s=>rw [h.str_inv];exact .str _
 case agg cs =>
  obtain ⟨arr,rfl,h1,h2,h3⟩:=h.agg_inv
  refine .agg cs arr h1 h2 (fun j x v hx' hv=>?_)
  have hs:=List.all_eq_true.1 hx x (List.mem_of_getElem? hx')
  have hp:=h3 j x v hx' hv
  cases x<;>simp only [reduceCtorEq] at hs
  ·rw [hp.int_inv];exact .int _ _
  ·rw [hp.bool_inv];exact .bool _
  ·rw [hp.str_inv];exact .str _
open Classical in
noncomputable def laid (T T':Tags) (old:Nat→Prop) (d:Nat) (one:Bool):Tags:=fun b=>if old b then T b else match T' b with
 |.ro=>.ro
 |.row (.part 0 i)=>if one then (if i=0 then .row (.slot d) else .other) else .row (.part d i)
 |_=>.other
def oneRow:List Res→Bool
 |[(.agg _,true)]=>false
 |l=>l.length==1
theorem Sim.results (h:Sim L σ T st a w) {rs:List Res} {v:Value} {T':Tags} {old:Nat→Prop} (hn:∀ b,old b→b<w.heap.size) (hTn:∀ b,¬ old b→T b=.other) (hfr:∀ b,w.heap.size≤b→T' b=.other) (hr:ResRep T' w rs v)
  (hro:(∀ b,old b→T' b=.ro→T b=.ro)∨rs.all (·.1.scalar)=true) (hrow:∀ b i,old b→T' b≠.row (.part 0 i)) :
  Sim L σ (laid T T' old d (oneRow rs)) (st.layAll d rs) (a.put (some d) v) w:=by
 obtain ⟨arr,h1,h2,h3⟩:=hr
 obtain ⟨TT,hTT⟩:∃ TT,TT=laid T T' old d (oneRow rs):=⟨_,rfl⟩
 rw [← hTT]
 have hmore:Sim L σ TT st a w:=h.more (fun b hb=>by
  have hl:old b:=Classical.byContradiction fun g=>hb (hTn b g)
  rw [hTT];simp [laid,hl]) (fun b hb=>by rw [hTT];simp [laid,show ¬ old b from fun g=>by have:=hn b g;omega,hfr b hb])
 have hrep:∀ (x:PV) u,PRep (fun b=>T' b=.ro) w x u→(rs.all (·.1.scalar)=true→x.scalar=true)→PRep (fun b=>TT b=.ro) w x u:=fun x u hx hs=>by
  rcases hro with g|g
  ·refine hx.frame fun b hb _=>⟨?_,rfl⟩
   rw [hTT]
   by_cases hl:old b
   ·simp [laid,hl,g b hl hb]
   ·simp [laid,hl,hb]
  ·exact scalar_rep (hs g) hx
 have hrowrep:∀ (i sz:Nat) (es:List PV) u r',(∀ b,¬ old b→T' b=.row (.part 0 i)→TT b=.row r')→(∀ b,old b→T' b=.ro→T b=.ro)→RowRep T' w (.part 0 i) sz es u→RowRep TT w r' sz es u:=fun i sz es u r' hr' g hx=>by
  refine hx.frame (fun b hb _=>⟨hr' b ?_ hb,rfl⟩) (fun b hb _=>⟨?_,rfl⟩)
  ·exact fun g=>hrow b i g hb
  ·rw [hTT]
   by_cases hl:old b
   ·simp [laid,hl,g b hl hb]
   ·simp [laid,hl,hb]
 by_cases hone:rs.length=1
 ·obtain ⟨⟨x,own⟩,rfl⟩:∃ r,rs=[r]:=by
   match rs,hone with
   |[r],_=>exact ⟨r,rfl⟩
  have ha:arr.size=1:=h1
  have e0:arr[0]?=some arr[0]:=Array.getElem?_eq_getElem (by omega)
  have hv:v=arr[0]:=by rw [h2,if_pos ha,Array.getD_eq_getD_getElem?,e0];rfl
  have hr:=h3 0 (x,own) arr[0] rfl e0
  rw [← hv] at hr
  have hpv:PRep (fun b=>T' b=.ro) w x v→Sim L σ TT (st.put d (.pv x)) (a.put (some d) v) w:=fun hx=>hmore.putPv (hrep x v hx (fun e=>by simpa using e))
  simp only [St.layAll,St.lay]
  cases own with
  |false =>
   have hx:PRep (fun b=>T' b=.ro) w x v:=by cases x<;>exact hr
   simpa using hpv hx
  |true =>
   simp only [if_true]
   cases x with
   |list sz es =>
    have hr':RowRep T' w (.part 0 0) sz es v:=hr
    rcases hro with g|g
    ·have hT1:∀ b,¬ old b→T' b=.row (.part 0 0)→TT b=.row (.slot d):=fun b hb e=>by rw [hTT];simp [laid,oneRow,hb,e]
     exact hmore.putRow (hrowrep 0 sz es v _ hT1 g hr') (fun _ e=>e) (fun _ _ e=>e) hmore.fresh (fun _ _ _ _ _ _ e=>e) (fun _ _ _ _ _ _ _ e=>e) (fun _ _ _ e=>e)
    ·simp [PV.scalar] at g
   |agg cs =>
    obtain ⟨arr2,g1,g2,g3⟩:=hr
    refine hmore.put (by simp) ⟨arr2,g1,by simp [g2],fun k av u hk hu=>?_⟩
    rw [List.getElem?_map] at hk
    cases e:cs[k]? with
    |none=>rw [e] at hk;cases hk
    |some y =>
     rw [e] at hk
     have hk:=Option.some.inj hk
     subst hk
     have hp:=g3 k y u e hu
     have hpv2:PRep (fun b=>T' b=.ro) w y u→(∀ sz es,y≠.list sz es)→PRep (fun b=>TT b=.ro) w y u:=fun hx hy=>by
      rcases hro with g|g
      ·refine hx.frame fun b hb _=>⟨?_,rfl⟩
       rw [hTT]
       by_cases hl:old b
       ·simp [laid,hl,g b hl hb]
       ·simp [laid,hl,hb]
      ·refine scalar_rep ?_ hx
       have g':(PV.agg cs).scalar=true:=by simpa using g
       have hs:=List.all_eq_true.1 g' y (List.mem_of_getElem? e)
       cases y<;>simp only [reduceCtorEq] at hs<;>rfl
     cases y with
     |list sz es =>
      rcases hro with g|g
      ·exact hrowrep k sz es u _ (fun b hb e=>by rw [hTT];simp [laid,oneRow,hb,e]) g hp
      ·have g':(PV.agg cs).scalar=true:=by simpa using g
       have hs:=List.all_eq_true.1 g' _ (List.mem_of_getElem? e)
       simp at hs
     |_=>exact hpv2 hp (fun _ _ e=>by cases e)
   |_=>exact hpv hr
 ·-- several results
  have hne:¬ arr.size=1:=by omega
  have hv:v=.tuple arr:=by rw [h2,if_neg hne]
  have h1r:oneRow rs=false:=by
   match rs,hone with
   |[],_=>rfl
   |_ :: _ :: _,_=>simp [oneRow]
  have hl:st.layAll d rs=st.put d (.tup false (rs.map fun r=>match r with
    |(.list sz es,true)=>.row sz es
    |(.agg _,true)=>.any
    |(v,_)=>.pv v)):=by
   match rs,hone with
   |[],_=>rfl
   |_ :: _ :: _,_=>rfl
  rw [hl]
  refine hmore.put (by simp) ⟨arr,hv,by simp [h1],fun k av u hk hu=>?_⟩
  rw [List.getElem?_map] at hk
  cases e:rs[k]? with
  |none=>rw [e] at hk;cases hk
  |some r =>
   rw [e] at hk
   have hk:=Option.some.inj hk
   subst hk
   obtain ⟨x,own⟩:=r
   have hr:=h3 k (x,own) u e hu
   have hsc:rs.all (·.1.scalar)=true→x.scalar=true:=fun g=>List.all_eq_true.1 g (x,own) (List.mem_of_getElem? e)
   have hpv:PRep (fun b=>T' b=.ro) w x u→PartRep TT w d k (.pv x) u:=fun hx=>hrep x u hx hsc
   cases own with
   |false =>
    have hx:PRep (fun b=>T' b=.ro) w x u:=by cases x<;>exact hr
    have:=hpv hx
    cases x<;>exact this
   |true =>
    cases x with
    |list sz es =>
     rcases hro with g|g
     ·exact hrowrep k sz es u _ (fun b hb e=>by rw [hTT];simp [laid,hb,e,h1r]) g hr
     ·have:=hsc g;simp [PV.scalar] at this
    |agg cs=>trivial
    |_=>exact hpv hr
end
end Go.Proofs.YtpcncggjmabnaaaGreatDoor

namespace Go.Proofs.YtpcncggjmabnaaaGreatDoor
open Go.RowKit
section
variable {P:Program} {L:Nat} {σ σ':Nat→Nat} {T T' T1 T2:Tags} {st st' st1:St} {a:Act} {w w1:World} {o:Oper} {vo:VOp} {y:Operand} {x:Opd} {d:Nat}
 {rec:VCode→St→Option (Ex × St)} {env:Env}
theorem Sim.snapF (h:Sim L σ T st a w) (hm:mOpd y x=true) {p:PV} {fl:Bool} (hs:st.snapFn (st.get x)=some (p,fl)) :
  HeldF st x (st.get x)∧(fl=false→PRep (fun b=>T b=.ro) w p (a.eval y))∧∀ T1,Still T T1→NeedsF T T1 x (st.get x)→PRep (fun b=>T1 b=.ro) w p (a.eval y):=by
 have hrep:∃ t,ARep L σ T st a w t (st.get x) (a.eval y)∧∀ sz es,st.get x=.row sz es→x=.t t∨(es=[]∧∃ s,x=.nil s∧a.eval y=.slice none 0 0):=by
  rcases h.get hm with ⟨t,rfl,(⟨_,g⟩|g)⟩|⟨v',rfl,g⟩|⟨s,rfl,g⟩
  ·exact ⟨t,g,fun _ _ _=>.inl rfl⟩
  ·rw [g] at hs;simp [St.snapFn,St.snap] at hs
  ·exact ⟨0,g,fun sz es e=>by simp [St.get] at e⟩
  ·refine ⟨0,?_,fun sz es e=>.inr ?_⟩
   ·rw [g];exact RowRep.nil _ _ _ _ _
   ·simp only [St.get,AV.row.injEq] at e;exact ⟨e.2.symm,s,rfl,g⟩
 obtain ⟨t,hv,hrow⟩:=hrep
 have hgen:∀ v,st.get x=v→(∀ f caps,v≠.fn f caps)→st.snap v=some (p,fl)→HeldF st x v∧(fl=false→PRep (fun b=>T b=.ro) w p (a.eval y))∧∀ T1,Still T T1→NeedsF T T1 x v→PRep (fun b=>T1 b=.ro) w p (a.eval y):=fun v e hf hsn=>by
  have hheld:Held st x v:=snap_held hsn (fun sz es e2=>by
   rcases hrow sz es (by rw [e,e2]) with g|⟨_,s,g,_⟩
   ·exact ⟨t,.inl ⟨g,e⟩⟩
   ·exact ⟨0,.inr (.inr ⟨s,g⟩)⟩)
  have hHF:HeldF st x v:=by cases v<;>first|exact hheld|exact absurd rfl (hf _ _)
  refine ⟨hHF,fun e2=>?_,fun T1 hst hn=>?_⟩
  ·subst e2;exact h.snap0 (e ▸ hv) hsn
  ·have hn':Needs T T1 x v:=by cases v<;>first|exact hn|exact absurd rfl (hf _ _)
   by_cases hr:∃ sz es,v=.row sz es
   ·obtain ⟨sz,es,rfl⟩:=hr
    rcases hrow sz es e with g|⟨rfl,s,_,g⟩
    ·exact h.snap (e ▸ hv) (fun _ _ _=>g) hsn hst hn'
    ·simp only [St.snap,Option.some.injEq,Prod.mk.injEq] at hsn
     rw [← hsn.1,g];exact .nil _ _
   ·exact h.snap (e ▸ hv) (fun sz es e2=>absurd ⟨sz,es,e2⟩ hr) hsn hst hn'
 cases hg:st.get x with
 |fn f caps =>
  rw [hg] at hs hv
  simp only [St.snapFn] at hs
  obtain ⟨l,h1,h2⟩:=bind_some hs
  have h2:=Option.some.inj h2
  simp only [Prod.mk.injEq] at h2
  obtain ⟨rfl,rfl⟩:=h2
  obtain ⟨m1,m2⟩:=mapM_some h1
  obtain ⟨arr,e1,e2,e3⟩:=hv
  have hcap:∀ (k:Nat) c u,caps[k]?=some c→arr[k]?=some u→∃ q,st.snap c=some q∧l[k]?=some q∧CapRep st.boxes.length σ T w c u:=fun k c u hc hu=>by
   obtain ⟨q,g1,g2⟩:=m2 k c hc
   exact ⟨q,g1,g2,e3 k c u hc hu⟩
  have hnr:∀ (k:Nat) c,caps[k]?=some c→∀ sz es,c≠.row sz es:=fun k c hc sz es e=>by
   have hk:k<arr.size:=by rw [e2];exact (List.getElem?_eq_some_iff.1 hc).1
   have:=e3 k c arr[k] hc (Array.getElem?_eq_getElem hk)
   rw [e] at this;exact this
  refine ⟨fun v hv=>?_,fun hfl=>?_,fun T1 hst hn=>?_⟩
  ·obtain ⟨k,hk⟩:=List.mem_iff_getElem?.1 hv
   obtain ⟨q,g1,_⟩:=m2 k v hk
   exact snap_held g1 (fun sz es e=>absurd e (hnr k v hk sz es))
  ·rw [e1]
   refine .func f _ arr (by simp [m1,e2]) (fun j p u hp hu=>?_)
   rw [List.getElem?_map] at hp
   cases hl:l[j]? with
   |none=>rw [hl] at hp;cases hp
   |some q =>
    rw [hl] at hp;cases hp
    have hj:j<caps.length:=by rw [← m1];exact (List.getElem?_eq_some_iff.1 hl).1
    obtain ⟨q',g1,g2,g3⟩:=hcap j caps[j] u (List.getElem?_eq_getElem hj) hu
    rw [hl] at g2;cases g2
    have hq:q.2=false:=by
     have:=List.any_eq_false.1 hfl q (List.mem_of_getElem? hl)
     simpa using this
    obtain ⟨q1,q2⟩:=q
    simp only at hq;subst hq
    exact h.snap0 (g3.aRep rfl 0) g1
  ·rw [e1]
   refine .func f _ arr (by simp [m1,e2]) (fun j p u hp hu=>?_)
   rw [List.getElem?_map] at hp
   cases hl:l[j]? with
   |none=>rw [hl] at hp;cases hp
   |some q =>
    rw [hl] at hp;cases hp
    have hj:j<caps.length:=by rw [← m1];exact (List.getElem?_eq_some_iff.1 hl).1
    have hcj:caps[j]?=some caps[j]:=List.getElem?_eq_getElem hj
    obtain ⟨q',g1,g2,g3⟩:=hcap j caps[j] u hcj hu
    rw [hl] at g2;cases g2
    exact h.snap (x:=.c .void) (g3.aRep rfl 0) (fun sz es e=>absurd e (hnr j _ hcj sz es)) g1 hst (hn _ (List.getElem_mem hj))
 |_ =>
  rw [hg] at hs
  exact hgen _ hg (by simp) hs
def callable (P:Program) (f:Nat):Bool :=
 match P.funcs[f]? with
 |some fn=>fn.name != "runtime.NumGoroutine"&&fn.body.isSome
 |none=>false
theorem run_callFunc {f:Nat} (h:callable P f=true) (args:Array Value) (w:World):(callFunc f args).run P w=.ok (.enter f args) w:=by
 unfold callable at h
 split at h
 ·rename_i fn hf
  simp only [Bool.and_eq_true,bne_iff_ne,ne_eq] at h
  obtain ⟨h1,h2⟩:=h
  obtain ⟨b,hb⟩:=Option.isSome_iff_exists.1 h2
  simp [callFunc,program,Sem.run,hf,h1,hb]
 ·cases h
theorem mAll_get:∀ {ys:List Operand} {xs:List Opd},mAll ys xs=true→ys.length=xs.length∧∀ (i:Nat) y x,ys[i]?=some y→xs[i]?=some x→mOpd y x=true
 |[],[],_=>⟨rfl,fun i y x hy=>by simp at hy⟩
 |[],_ :: _,h=>by simp [mAll] at h
 |_ :: _,[],h=>by simp [mAll] at h
 |y :: ys,x :: xs,h=>by
  simp only [mAll,Bool.and_eq_true] at h
  obtain ⟨g1,g2⟩:=mAll_get h.2
  refine ⟨by simp [g1],fun i y' x' hy hx=>?_⟩
  cases i with
  |zero=>simp at hy hx;subst hy;subst hx;exact h.1
  |succ i=>exact g2 i y' x' (by simpa using hy) (by simpa using hx)
def CallsOk (P:Program) (rec:VCode→St→Option (Ex × St)) (env:Env):Prop :=
 (∀ f args rs,callRes rec env f args=some rs→callable P f=true∧CallOk P f args rs)∧(∀ f h,env f=some (.srt h)→callable P f=true∧SortOk P f h)∧(∀ f x args rs out,callLin rec env f x args=some (rs,out)→callable P f=true∧CallOkL P f x args rs out)∧∀ f args t n,calT rec env f args=some (some (t,n))→callable P f=true∧ThrOk P f args t n
theorem callOn_sound (hcalls:CallsOk P rec env) (h:Sim L σ T st a w) (hG:GlobOk T w) {ys:List Operand} {xs:List Opd} (hm:mAll ys xs=true) {caps:List AV} {cvs:List Value} (hc:cvs.length=caps.length) (hcr:∀ (k:Nat) c u,caps[k]?=some c→cvs[k]?=some u→CapRep st.boxes.length σ T w c u) {f:Nat}
  (hp:callOn rec env d f xs caps st=some st'):callable P f=true∧Calls P f (ys.map a.eval++cvs).toArray w (fun e w'=>∃ v T2,e=.returned v∧Sim L σ T2 st' (a.put (some d) v) w'∧Chg T T2 w w'∧Whole w w'):=by
 unfold callOn at hp
 obtain ⟨l,h1,hp1⟩:=bind_some hp
 clear hp
 obtain ⟨k,h2,hp2⟩:=bind_some hp1
 clear hp1
 obtain ⟨rs,h3,hp3⟩:=bind_some hp2
 clear hp2
 have hp:=Option.some.inj hp3
 clear hp3
 obtain ⟨hcall,hok⟩:=hcalls.1 f _ rs h3
 obtain ⟨l1,l2⟩:=mapM_some h1
 obtain ⟨k1,k2⟩:=mapM_some h2
 obtain ⟨m1,m2⟩:=mAll_get hm
 refine ⟨hcall,?_⟩
 have hop:∀ (i:Nat) x,xs[i]?=some x→∃ y q,ys[i]?=some y∧mOpd y x=true∧st.snapFn (st.get x)=some q∧l[i]?=some q:=fun i x hx=>by
  obtain ⟨q,g1,g2⟩:=l2 i x hx
  have hi:i<ys.length:=by rw [m1];exact (List.getElem?_eq_some_iff.1 hx).1
  exact ⟨ys[i],q,List.getElem?_eq_getElem hi,m2 i _ x (List.getElem?_eq_getElem hi) hx,g1,g2⟩
 have hcap:∀ (i:Nat) c,caps[i]?=some c→∃ u q,cvs[i]?=some u∧CapRep st.boxes.length σ T w c u∧st.snap c=some q∧k[i]?=some q:=fun i c hx=>by
  obtain ⟨q,g1,g2⟩:=k2 i c hx
  have hi:i<cvs.length:=by rw [hc];exact (List.getElem?_eq_some_iff.1 hx).1
  exact ⟨cvs[i],q,List.getElem?_eq_getElem hi,hcr i c _ hx (List.getElem?_eq_getElem hi),g1,g2⟩
 have hnr:∀ (i:Nat) c,caps[i]?=some c→∀ sz es,c≠.row sz es:=fun i c hx sz es e=>by
  obtain ⟨u,q,_,g,_⟩:=hcap i c hx
  rw [e] at g;exact g
 have hheldX:∀ x∈xs,HeldF st x (st.get x):=fun x hx=>by
  obtain ⟨i,hi⟩:=List.mem_iff_getElem?.1 hx
  obtain ⟨y,⟨p,fl⟩,_,g2,g3,_⟩:=hop i x hi
  exact (h.snapF g2 g3).1
 have hheldC:∀ v∈caps,Held st (.c .void) v:=fun v hv=>by
  obtain ⟨i,hi⟩:=List.mem_iff_getElem?.1 hv
  obtain ⟨u,⟨p,fl⟩,_,_,g,_⟩:=hcap i v hi
  exact snap_held g (fun sz es e=>absurd e (hnr i v hi sz es))
 -- the tags under which the arguments are read only
 have hfroz:∃ T1,Froz T T1 st (caps.foldl (fun s v=>s.freezeArg1 (.c .void) v) (xs.foldl St.freezeArg st))∧Sim L σ T1 (caps.foldl (fun s v=>s.freezeArg1 (.c .void) v) (xs.foldl St.freezeArg st)) a w∧(∀ x∈xs,NeedsF T T1 x (st.get x))∧∀ v∈caps,Needs T T1 (.c .void) v:=by
  obtain ⟨T1,f1,f2,f3,f4⟩:=Froz.args xs (Froz.refl T st) h hheldX
  obtain ⟨T2,g1,g2,g3,g4⟩:=Froz.capsF caps f1 f2 hheldC
  exact ⟨T2,g1,g2,fun x hx=>(f4 x hx).still g3,g4⟩
 -- from such tags to what the call leaves
 have hgo:∀ T1,Still T T1→(∀ (i:Nat) p v,(l.map (·.1)++k.map (·.1))[i]?=some p→(ys.map a.eval++cvs)[i]?=some v→PRep (fun b=>T1 b=.ro) w p v)→∀ Tc st1,Sim L σ Tc st1 a w→Still T Tc→((∀ b,T1 b=.ro→Tc b=.ro)∨rs.all (·.1.scalar)=true)→st1.layAll d rs=st' →
   Calls P f (ys.map a.eval++cvs).toArray w (fun e w'=>∃ v T2,e=.returned v∧Sim L σ T2 st' (a.put (some d) v) w'∧Chg T T2 w w'∧Whole w w'):=fun T1 hst hargs Tc st1 hS hstc hro hst'=>by
  obtain ⟨T0,hT0⟩:∃ T0:Tags,T0=fun b=>if T1 b=.ro then .ro else .other:=⟨_,rfl⟩
  have hT0ro:∀ b,T0 b=.ro ↔ T1 b=.ro:=fun b=>by rw [hT0];simp only;split<;>simp [*]
  have h0:=hok T0 w (ys.map a.eval++cvs) (fun b=>by rw [hT0];simp only;split<;>simp) (fun b hb=>by rw [hT0];simp only;rw [if_neg];rw [hst.other b (h.fresh b hb)];simp) (by simp [l1,k1,m1,hc]) (fun i p v hp hv=>(hargs i p v hp hv).frame fun b hb _=>⟨(hT0ro b).2 hb,rfl⟩) (hG.frame fun b hb _=>⟨(hT0ro b).2 (hst.ro b hb),rfl⟩)
  refine h0.mono ?_
  rintro e w' ⟨v,T',rfl,hB,hTb,hTf,hres⟩
  have hwh:Whole w w':=⟨hB.size,fun b hl=>hB.block b hl⟩
  have hsees:∀ {TT:Tags},Sees TT w w':=fun {TT}=>hwh.sees
  have hS':=hS.sees (hsees (TT:=Tc))
  have hfin:=hS'.results (old:=fun b=>b<w.heap.size) (fun b hb=>Nat.lt_of_lt_of_le hb hB.size) (fun b hb=>hstc.other b (h.fresh b (Nat.le_of_not_lt hb))) hTf hres (hro.imp (fun g b hl hb=>g b ((hT0ro b).1 (by rw [← hTb b hl];exact hb))) id) (fun b i hl e=>by
   rw [hTb b hl,hT0] at e;simp only at e;split at e<;>cases e) (d:=d)
  rw [hst'] at hfin
  refine ⟨v,_,rfl,hfin,⟨hB.size,hB.os,hB.tape,hB.output,fun b hl _=>hB.block b hl,fun b e=>?_,fun b hl e=>?_⟩,hwh⟩
  ·have hl:b<w.heap.size:=by
    rcases Nat.lt_or_ge b w.heap.size with g|g
    ·exact g
    ·rw [h.fresh b g] at e;cases e
   simp [laid,hl,hstc.ro b e]
  ·simp [laid,hl,hstc.other b e]
 have hlen:(l.map (·.1)).length=(ys.map a.eval).length:=by simp [l1,m1]
 have hargs:∀ T1:Tags,(∀ (i:Nat) x y q,xs[i]?=some x→ys[i]?=some y→mOpd y x=true→st.snapFn (st.get x)=some q→l[i]?=some q→PRep (fun b=>T1 b=.ro) w q.1 (a.eval y))→(∀ (i:Nat) c u q,caps[i]?=some c→CapRep st.boxes.length σ T w c u→st.snap c=some q→k[i]?=some q→PRep (fun b=>T1 b=.ro) w q.1 u) →
   ∀ (i:Nat) p v,(l.map (·.1)++k.map (·.1))[i]?=some p→(ys.map a.eval++cvs)[i]?=some v→PRep (fun b=>T1 b=.ro) w p v:=fun T1 g1 g2 i p v hp hv=>by
  rcases Nat.lt_or_ge i xs.length with hi|hi
  ·rw [List.getElem?_append_left (by simp [l1,hi]),List.getElem?_map] at hp
   rw [List.getElem?_append_left (by simp [m1,hi]),List.getElem?_map] at hv
   obtain ⟨y,q,q1,q2,q3,q4⟩:=hop i xs[i] (List.getElem?_eq_getElem hi)
   rw [q4] at hp;rw [q1] at hv
   cases hp;cases hv
   exact g1 i _ y q (List.getElem?_eq_getElem hi) q1 q2 q3 q4
  ·rw [List.getElem?_append_right (by simp [l1,hi]),List.getElem?_map] at hp
   rw [List.getElem?_append_right (by simp [m1,hi])] at hv
   simp only [List.length_map,l1] at hp
   simp only [List.length_map,m1] at hv
   cases hk:k[i - xs.length]? with
   |none=>rw [hk] at hp;cases hp
   |some q =>
    rw [hk] at hp;cases hp
    have hj:i - xs.length<caps.length:=by rw [← k1];exact (List.getElem?_eq_some_iff.1 hk).1
    obtain ⟨u,q',q1,q2,q3,q4⟩:=hcap _ caps[i - xs.length] (List.getElem?_eq_getElem hj)
    rw [hk] at q4;cases q4
    rw [q1] at hv;cases hv
    exact g2 _ _ _ q (List.getElem?_eq_getElem hj) q2 q3 hk
 cases hfl:(l.any (·.2) || k.any (·.2)) with
 |false =>
  -- nothing of this call's own is handed over
  rw [hfl] at hp
  simp only [Bool.or_eq_false_iff] at hfl
  refine hgo T (Still.refl T) (hargs T (fun i x y q hx hy hmo hs hl=>?_) (fun i c u q hx hcr hs hk=>?_)) T st h (Still.refl T) (.inl fun _ e=>e) (by simpa using hp)
  ·have hq:q.2=false:=by have:=List.any_eq_false.1 hfl.1 q (List.mem_of_getElem? hl);simpa using this
   obtain ⟨q1,q2⟩:=q
   simp only at hq;subst hq
   exact (h.snapF hmo hs).2.1 rfl
  ·have hq:q.2=false:=by have:=List.any_eq_false.1 hfl.2 q (List.mem_of_getElem? hk);simpa using this
   obtain ⟨q1,q2⟩:=q
   simp only at hq;subst hq
   exact h.snap0 (hcr.aRep rfl 0) hs
 |true =>
  obtain ⟨T1,z1,z2,z3,z4⟩:=hfroz
  have hargs1:=hargs T1 (fun i x y q hx hy hmo hs hl=>by obtain ⟨q1,q2⟩:=q;exact (h.snapF hmo hs).2.2 T1 z1.still (z3 x (List.mem_of_getElem? hx))) (fun i c u q hx hcr hs hk=>by obtain ⟨q1,q2⟩:=q;exact h.snap (x:=.c .void) (hcr.aRep rfl 0) (fun sz es e=>absurd e (hnr i c hx sz es)) hs z1.still (z4 c (List.mem_of_getElem? hx)))
  cases hsc:rs.all (·.1.scalar) with
  |true =>
   rw [hfl,hsc] at hp
   exact hgo T1 z1.still hargs1 T st h (Still.refl T) (.inr hsc) (by simpa using hp)
  |false =>
   rw [hfl,hsc] at hp
   exact hgo T1 z1.still hargs1 T1 _ z2 z1.still (.inl fun _ e=>e) (by simpa using hp)
end
end Go.Proofs.YtpcncggjmabnaaaGreatDoor

namespace Go.Proofs.YtpcncggjmabnaaaGreatDoor
open Go.RowKit
section
variable {P:Program} {L:Nat} {σ σ':Nat→Nat} {T T' T1 T2:Tags} {st st' st1:St} {a:Act} {w w1:World} {o:Oper} {vo:VOp} {y:Operand} {x:Opd} {d:Nat}
 {rec:VCode→St→Option (Ex × St)} {env:Env}
def goneP (T:Tags) (n:Nat):Tags:=fun b=>match T b with
 |.row (.part t i)=>if t=n then .other else .row (.part t i)
 |q=>q
theorem goneP_ne {n b:Nat} {q:Owner} (h:T b=q) (hq:∀ i,q≠.row (.part n i)):goneP T n b=q:=by
 unfold goneP
 rw [h]
 cases q with
 |row r =>
  cases r with
  |part t i =>
   by_cases e:t=n
   ·subst e;exact absurd rfl (hq i)
   ·simp [e]
  |slot t=>rfl
  |cell p j=>rfl
 |_=>rfl
theorem goneP_eq {n i b:Nat} (h:T b=.row (.part n i)):goneP T n b=.other:=by simp [goneP,h]
theorem Sim.forgetP (h:Sim L σ T st a w) (n:Nat):Sim L σ (goneP T n) (st.put n .any) a w:=by
 have h':=h.forget n
 have hw:∀ b,T b=.ro→b<w.heap.size→goneP T n b=.ro∧w.heap[b]?=w.heap[b]?:=fun b e _=>⟨goneP_ne e (by simp),rfl⟩
 refine ⟨h'.size,fun t x u hx hu=>?_,fun p bx ho=>?_,fun b hb=>goneP_ne (h'.fresh b hb) (by simp)⟩
 ·refine (h'.slots t x u hx hu).keep hw (fun s l e b hb _=>⟨goneP_ne hb (by simp),rfl⟩) (fun l e i he b hb _=>⟨goneP_ne hb (fun j e2=>?_),rfl⟩) (fun q hq _ s l e=>⟨⟨l,e⟩,rfl⟩) (Nat.le_refl _) (fun _ _=>rfl)
  injection e2 with e2
  injection e2 with e2 _
  subst e2
  rw [e] at hx
  simp only [St.put,List.getElem?_set,if_true] at hx
  split at hx<;>cases hx
 ·have hb:=h'.boxes p bx ho
  have hT:goneP T n (σ p)=T (σ p):=by
   obtain ⟨_,_,_,_,h3,_⟩:=hb
   refine goneP_ne rfl fun i e=>?_
   rw [h3] at e
   split at e<;>cases e
  exact hb.frame ⟨hT,rfl⟩ (fun j b e _=>⟨goneP_ne e (by simp),rfl⟩) hw
theorem lay_boxes (st:St) (B:List Box) (d:Nat) (v:PV) (own:Bool):({ st with boxes:=B }:St).lay d v own={ st.lay d v own with boxes:=B }∧(st.lay d v own).boxes=st.boxes:=by
 unfold St.lay
 cases own with
 |false=>exact ⟨rfl,rfl⟩
 |true=>cases v<;>exact ⟨rfl,rfl⟩
theorem layAll_boxes (st:St) (B:List Box) (d:Nat) (rs:List Res):({ st with boxes:=B }:St).layAll d rs={ st.layAll d rs with boxes:=B }∧(st.layAll d rs).boxes=st.boxes:=by
 match rs with
 |[]=>exact ⟨rfl,rfl⟩
 |[(v,own)]=>exact lay_boxes st B d v own
 |_ :: _ :: _=>exact ⟨rfl,rfl⟩
theorem callOnL0_sound (hcalls:CallsOk P rec env) (h:Sim L σ T st a w) (hG:GlobOk T w) (hmx:mOpd y x=true) {ys:List Operand} {xs:List Opd} (hm:mAll ys xs=true) {caps:List AV} {cvs:List Value} (hc:cvs.length=caps.length)
  (hcr:∀ (k:Nat) c u,caps[k]?=some c→cvs[k]?=some u→CapRep st.boxes.length σ T w c u) {f:Nat} (hp:callOnL0 rec env d f x xs caps st=some st') :
  callable P f=true∧Calls P f (a.eval y :: (ys.map a.eval++cvs)).toArray w (fun e w'=>∃ v T2,e=.returned v∧Sim L σ T2 st' (a.put (some d) v) w'∧Chg T T2 w w'):=by
 unfold callOnL0 at hp
 obtain ⟨l,h1,hp1⟩:=bind_some hp
 clear hp
 obtain ⟨k,h2,hp2⟩:=bind_some hp1
 clear hp1
 obtain ⟨⟨la,bo,s1⟩,h3,hp3⟩:=bind_some hp2
 clear hp2
 obtain ⟨⟨rs,out⟩,h4,hp4⟩:=bind_some hp3
 clear hp3
 obtain ⟨s2,h5,hp5⟩:=bind_some hp4
 clear hp4
 have hp:=Option.some.inj hp5
 clear hp5
 simp only at h4 h5 hp
 split at h3
 ·cases h3
 rename_i hfl
 simp only [Bool.or_eq_true,not_or,Bool.not_eq_true] at hfl
 obtain ⟨hcall,hok⟩:=hcalls.2.2.1 f la _ rs out h4
 refine ⟨hcall,?_⟩
 obtain ⟨l1,l2⟩:=mapM_some h1
 obtain ⟨k1,k2⟩:=mapM_some h2
 obtain ⟨m1,m2⟩:=mAll_get hm
 have hlen:(ys.map a.eval++cvs).length=(l.map (·.1)++k.map (·.1)).length:=by simp [l1,k1,m1,hc]
 have hargs:∀ (i:Nat) p v,(l.map (·.1)++k.map (·.1))[i]?=some p→(ys.map a.eval++cvs)[i]?=some v→PRep (fun b=>T b=.ro) w p v:=fun i p v hpi hv=>by
  rcases Nat.lt_or_ge i xs.length with hi|hi
  ·rw [List.getElem?_append_left (by simp [l1,hi]),List.getElem?_map] at hpi
   rw [List.getElem?_append_left (by simp [m1,hi]),List.getElem?_map] at hv
   obtain ⟨q,g1,g2⟩:=l2 i xs[i] (List.getElem?_eq_getElem hi)
   have hi2:i<ys.length:=by rw [m1];exact hi
   rw [g2] at hpi
   rw [List.getElem?_eq_getElem hi2] at hv
   cases hpi;cases hv
   have hq:q.2=false:=by have:=List.any_eq_false.1 hfl.1 q (List.mem_of_getElem? g2);simpa using this
   obtain ⟨q1,q2⟩:=q
   simp only at hq;subst hq
   exact (h.snapF (m2 i _ _ (List.getElem?_eq_getElem hi2) (List.getElem?_eq_getElem hi)) g1).2.1 rfl
  ·rw [List.getElem?_append_right (by simp [l1,hi]),List.getElem?_map] at hpi
   rw [List.getElem?_append_right (by simp [m1,hi])] at hv
   simp only [List.length_map,l1] at hpi
   simp only [List.length_map,m1] at hv
   cases hk:k[i - xs.length]? with
   |none=>rw [hk] at hpi;cases hpi
   |some q =>
    rw [hk] at hpi;cases hpi
    have hj:i - xs.length<caps.length:=by rw [← k1];exact (List.getElem?_eq_some_iff.1 hk).1
    obtain ⟨q',g1,g2⟩:=k2 _ caps[i - xs.length] (List.getElem?_eq_getElem hj)
    rw [hk] at g2;cases g2
    have hq:q.2=false:=by have:=List.any_eq_false.1 hfl.2 q (List.mem_of_getElem? hk);simpa using this
    obtain ⟨q1,q2⟩:=q
    simp only at hq;subst hq
    exact h.snap0 ((hcr _ _ v (List.getElem?_eq_getElem hj) hv).aRep rfl 0) g1
 -- what goes over for good
 have go:∀ (T1 T0:Tags) (old:Nat→Prop),Sim L σ T1 s1 a w→(∀ b,T b=.ro→T0 b=.ro∧T1 b=.ro)→(∀ b,T b=.other→T0 b=.other∧T1 b=.other)→(∀ b,T0 b=.ro→T1 b=.ro)→(∀ b,old b→T0 b=.ro∨T0 b=.other)→(∀ b,old b→b<w.heap.size)→(∀ b,¬ old b→T1 b=.other)→(∀ b,b<w.heap.size→(T b=.ro∨T b=.other)→old b) →
   LRep T0 w (a.eval y) la→bo=none→Calls P f (a.eval y :: (ys.map a.eval++cvs)).toArray w (fun e w'=>∃ v T2,e=.returned v∧Sim L σ T2 st' (a.put (some d) v) w'∧Chg T T2 w w'):=fun T1 T0 old hS c1 c2 c3 c4 c5 c6 c7 hL hbo=>by
  have hs2:s2=s1:=by
   rw [hbo] at h5
   unfold backLin at h5
   split at h5
   ·exact (Option.some.inj h5).symm
   ·rename_i e;cases e
   ·cases h5
  subst hs2
  have h0:=hok T0 w (a.eval y) (ys.map a.eval++cvs) (fun b hb=>(c2 b (h.fresh b hb)).1) hL hlen (fun i p v hpi hv=>(hargs i p v hpi hv).frame fun b hb _=>⟨(c1 b hb).1,rfl⟩) (hG.frame fun b hb _=>⟨(c1 b hb).1,rfl⟩)
  refine h0.mono ?_
  rintro e w' ⟨u,T',rfl,z1,z2,z3,z4,z5,z6,z7,_⟩
  have hS':=hS.sees ⟨z1,fun b hb hl=>(z5 b hl (c4 b (Classical.byContradiction fun g=>hb (c6 b g)))).1⟩
  have hfin:=hS'.results (old:=old) (d:=d) (fun b hb=>Nat.lt_of_lt_of_le (c5 b hb) z1) c6 z6 z7 (.inl fun b hb e=>c3 b (by rw [← (z5 b (c5 b hb) (c4 b hb)).2];exact e)) (fun b i hb e=>by
   rw [(z5 b (c5 b hb) (c4 b hb)).2] at e
   rcases c4 b hb with g|g<;>rw [g] at e<;>cases e)
  rw [hp] at hfin
  refine ⟨u,_,rfl,hfin,⟨z1,z2,z3,z4,fun b hl e=>(z5 b hl (c4 b (c7 b hl e))).1,fun b e=>?_,fun b hl e=>?_⟩⟩
  ·have hl:b<w.heap.size:=by
    rcases Nat.lt_or_ge b w.heap.size with g|g
    ·exact g
    ·rw [h.fresh b g] at e;cases e
   simp [laid,c7 b hl (.inl e),(c1 b e).2]
  ·simp [laid,c7 b hl (.inr e),(c2 b e).2]
 unfold takeLin at h3
 split at h3
 ·-- a struct with slices of its own
  rename_i lo hg
  split at h3
  case h_2=>cases h3
  rename_i n
  cases h3
  obtain ⟨arr,e1,e2,e3⟩:ARep L σ T st a w n (.tup true lo) (a.eval y):=by
   rcases h.get hmx with ⟨t,et,(⟨_,g⟩|g)⟩|⟨v',et,_⟩|⟨s,et,_⟩
   ·cases et;rw [hg] at g;exact g
   ·cases et;rw [hg] at g;cases g
   ·cases et
   ·cases et
  obtain ⟨T0,hT0⟩:∃ T0:Tags,T0=fun b=>match T b with
   |.ro=>.ro
   |.row (.part t i)=>if t=n then .row (.part 0 i) else .other
   |_=>.other:=⟨_,rfl⟩
  have t1:∀ b,T b=.ro→T0 b=.ro:=fun b e=>by rw [hT0];simp [e]
  have t2:∀ b i,T b=.row (.part n i)→T0 b=.row (.part 0 i):=fun b i e=>by rw [hT0];simp [e]
  have t3:∀ b,T0 b=.ro→T b=.ro:=fun b e=>by
   rw [hT0] at e
   simp only at e
   split at e
   ·assumption
   ·split at e<;>cases e
   ·cases e
  have t4:∀ b,(∀ i,T b≠.row (.part n i))→T0 b=.ro∨T0 b=.other:=fun b e=>by
   rw [hT0]
   simp only
   split
   ·exact .inl rfl
   ·rename_i t i et
    split
    ·rename_i etn;subst etn;exact absurd et (e i)
    ·exact .inr rfl
   ·exact .inr rfl
  refine go (goneP T n) T0 (fun b=>b<w.heap.size∧∀ i,T b≠.row (.part n i)) (h.forgetP n) (fun b e=>⟨t1 b e,goneP_ne e (by simp)⟩) (fun b e=>⟨by rw [hT0];simp [e],goneP_ne e (by simp)⟩) (fun b e=>goneP_ne (t3 b e) (by simp)) (fun b hb=>t4 b hb.2) (fun b hb=>hb.1) (fun b hb=>?_) (fun b hl e=>⟨hl,fun i e2=>by rw [e2] at e;rcases e with e|e<;>cases e⟩) ⟨arr,e1,e2,fun k x u hx hu=>?_⟩ rfl
  ·by_cases hl:b<w.heap.size
   ·obtain ⟨i,hi⟩:=Classical.not_forall.1 fun g=>hb ⟨hl,g⟩
    exact goneP_eq (Classical.not_not.1 hi)
   ·exact goneP_ne (h.fresh b (Nat.le_of_not_lt hl)) (by simp)
  ·have hk:=e3 k x u hx hu
   cases x with
   |pv v=>exact PRep.frame (fun b hb _=>⟨t1 b hb,rfl⟩) hk
   |row s l'=>exact RowRep.frame (fun b hb _=>⟨t2 b k hb,rfl⟩) (fun b hb _=>⟨t1 b hb,rfl⟩) hk
   |any=>trivial
   |_=>exact hk
 ·-- a variable
  rename_i q hg
  split at h3
  case h_2=>cases h3
  rename_i bx hbx
  split at h3
  ·cases h3
  rename_i hfz
  have hfz:bx.fz=false:=by simpa using hfz
  cases h3
  have hy:a.eval y=.pointer (some ⟨σ q,0,none⟩):=by
   rcases h.get hmx with ⟨t,et,(⟨_,g⟩|g)⟩|⟨v',et,g⟩|⟨s,et,g⟩
   ·rw [hg] at g;exact g.2
   ·rw [hg] at g;cases g
   ·rw [et] at hg;simp [St.get] at hg
   ·rw [et] at hg;simp [St.get] at hg
  obtain ⟨T1,hS,hst,_,_,hbt⟩:=h.freezeRowsB q
  have ol:q<st.boxes.length:=(List.getElem?_eq_some_iff.1 hbx).1
  have hb1:(st.freezeRows q).boxes[q]?=some { bx with cs:=bx.cs.map BV.frozen }:=by
   unfold St.freezeRows
   rw [hbx]
   simp [List.getElem?_set,ol]
  obtain ⟨arr,E,g1,g2,g3,g4,g5⟩:=hS.boxes q _ hb1
  have hTo:T1 (σ q)=.box q:=by rw [g3];simp [hfz]
  obtain ⟨T0,hT0⟩:∃ T0:Tags,T0=fun b=>if b=σ q then .box 0 else if T1 b=.ro then .ro else .other:=⟨_,rfl⟩
  have t1:∀ b,T1 b=.ro→T0 b=.ro:=fun b e=>by
   rw [hT0]
   simp only
   rw [if_neg (fun e2=>by rw [e2,hTo] at e;cases e),if_pos e]
  have t3:∀ b,T0 b=.ro→T1 b=.ro:=fun b e=>by
   rw [hT0] at e
   simp only at e
   split at e
   ·cases e
   ·split at e
    ·assumption
    ·cases e
  have t4:∀ b,b≠σ q→T0 b=.ro∨T0 b=.other:=fun b e=>by
   rw [hT0]
   simp only
   rw [if_neg e]
   split
   ·exact .inl rfl
   ·exact .inr rfl
  have t5:∀ b,T1 b=.other→T0 b=.other:=fun b e=>by
   rw [hT0]
   simp only
   rw [if_neg (fun e2=>by rw [e2,hTo] at e;cases e),if_neg (by rw [e];simp)]
  have t6:T0 (σ q)=.box 0:=by rw [hT0];simp
  have hσl:σ q<w.heap.size:=(Array.getElem?_eq_some_iff.1 g1).1
  have hL:LRep T0 w (a.eval y) (.box (bx.cs.map BV.val)):=by
   refine ⟨σ q,hy,arr,E,g1,by simpa using g2,by simp [t6],fun e=>(by simp at e),fun j bv u hj hu=>?_⟩
   simp only [List.map_map,List.getElem?_map] at hj
   cases hcj:bx.cs[j]? with
   |none=>rw [hcj] at hj;cases hj
   |some bv0 =>
    rw [hcj] at hj
    have hj:=Option.some.inj hj
    subst hj
    obtain ⟨r1,r2⟩:=g5 j (.pv bv0.val) u (by simp only [List.getElem?_map,hcj];cases bv0<;>rfl) hu
    exact ⟨r1,PRep.frame (fun b hb _=>⟨t1 b hb,rfl⟩) r2⟩
  have h0:=hok T0 w (a.eval y) (ys.map a.eval++cvs) (fun b hb=>t5 b (hS.fresh b hb)) hL hlen (fun i p v hpi hv=>(hargs i p v hpi hv).frame fun b hb _=>⟨t1 b (hst.ro b hb),rfl⟩) (hG.frame fun b hb _=>⟨t1 b (hst.ro b hb),rfl⟩)
  refine h0.mono ?_
  rintro e w' ⟨u,T',rfl,z1,z2,z3,z4,z5,z6,z7,z8⟩
  obtain ⟨cs,hcs,hs2⟩:∃ cs,out=some cs∧s2={ st.freezeRows q with boxes:=(st.freezeRows q).boxes.set q { bx with cs:=cs.map .pv } }:=by
   unfold backLin at h5
   split at h5
   ·rename_i e;cases e
   ·rename_i o' cs e
    cases e
    rw [hb1] at h5
    exact ⟨cs,rfl,(Option.some.inj h5).symm⟩
   ·cases h5
  subst hcs
  obtain ⟨y1,arr',E',y2,y3,y4⟩:=z8 (σ q) hy
  -- first with nothing known of the variable's contents
  have hv1:=hS.rebox (w1:=w') (cs:=List.replicate arr'.size .void) hb1 hfz (fun b hb=>hS.fresh b (Nat.le_trans z1 hb)) (fun b hl hne hot=>(z5 b hl (t4 b hne)).1) ⟨arr',E',y2,by simp,fun j x u hx hu=>by
   have hj:=(Array.getElem?_eq_some_iff.1 hu).1
   have hxv:x=.void:=(List.mem_replicate.1 (List.mem_of_getElem? hx)).2
   subst hxv
   have hj2:j<cs.length:=by omega
   have hk:=(y4 j cs[j] u (List.getElem?_eq_getElem hj2) hu).1
   exact ⟨hk,.void u hk⟩⟩
  have hfin:=hv1.results (old:=fun b=>b<w.heap.size) (d:=d) (fun b hb=>Nat.lt_of_lt_of_le hb z1) (fun b hb=>hS.fresh b (Nat.le_of_not_lt hb)) z6 z7 (.inl fun b hb e=>by
   by_cases hq:b=σ q
   ·subst hq;rw [y1] at e;cases e
   ·exact t3 b (by rw [← (z5 b hb (t4 b hq)).2];exact e)) (fun b i hb e=>by
   by_cases hq:b=σ q
   ·subst hq;rw [y1] at e;cases e
   ·rw [(z5 b hb (t4 b hq)).2] at e
    rcases t4 b hq with g|g<;>rw [g] at e<;>cases e)
  obtain ⟨TT,hTT⟩:∃ TT,TT=laid T1 T' (fun b=>b<w.heap.size) d (oneRow rs):=⟨_,rfl⟩
  rw [← hTT] at hfin
  have hold:∀ b,b<w.heap.size→TT b=T1 b:=fun b hb=>by rw [hTT];simp [laid,hb]
  obtain ⟨B,hB⟩:∃ B:List Box,B=(st.freezeRows q).boxes.set q { bx with cs:=(List.replicate arr'.size PV.void).map .pv }:=⟨_,rfl⟩
  have hBx:B[q]?=some { bx with cs:=(List.replicate arr'.size PV.void).map .pv }:=by
   rw [hB,List.getElem?_set_self]
   exact (List.getElem?_eq_some_iff.1 hb1).1
  rw [← hB] at hfin
  have hlay:=layAll_boxes (st.freezeRows q) B d rs
  rw [hlay.1] at hfin
  have hv2:=hfin.rebox (w1:=w') (cs:=cs) (q:=q) (bx:={ bx with cs:=(List.replicate arr'.size PV.void).map .pv }) hBx hfz hfin.fresh (fun _ _ _ _=>rfl) ⟨arr',E',y2,y3,fun j x u hx hu=>⟨(y4 j x u hx hu).1,(y4 j x u hx hu).2.frame fun b hb _=>⟨?_,rfl⟩⟩⟩
  ·refine ⟨u,TT,rfl,?_,⟨z1,z2,z3,z4,fun b hl e=>?_,fun b e=>?_,fun b hl e=>?_⟩⟩
   ·rw [← hp,hs2,(layAll_boxes (st.freezeRows q) _ d rs).1]
    have e2:B.set q { bx with cs:=cs.map .pv }=(st.freezeRows q).boxes.set q { bx with cs:=cs.map .pv }:=by rw [hB,List.set_set]
    rw [← e2]
    exact hv2
   ·have hq:b≠σ q:=fun e2=>by
     subst e2
     rcases e with e|e
     ·rw [hst.ro _ e] at hTo;cases hTo
     ·rw [hst.other _ e] at hTo;cases hTo
    exact (z5 b hl (t4 b hq)).1
   ·have hl:b<w.heap.size:=by
     rcases Nat.lt_or_ge b w.heap.size with g|g
     ·exact g
     ·rw [h.fresh b g] at e;cases e
    rw [hold b hl];exact hst.ro b e
   ·rw [hold b hl];exact hst.other b e
  ·by_cases hl:b<w.heap.size
   ·by_cases hq:b=σ q
    ·subst hq;rw [y1] at hb;cases hb
    ·rw [hold b hl];exact t3 b (by rw [← (z5 b hl (t4 b hq)).2];exact hb)
   ·rw [hTT];simp [laid,hl,hb]
 ·-- a slice
  cases hgr:st.grab x with
  |none=>rw [hgr] at h3;cases h3
  |some q =>
   obtain ⟨sz,es,s⟩:=q
   rw [hgr] at h3
   cases h3
   obtain ⟨b1,b2,r,v,es0,c,xa,b3,b4,b5,b6,b7,b8,b9⟩:=h.grab hmx hgr
   have hun:Unheld s r:=⟨b7,b8,b9⟩
   subst b5
   have hrow:=b3.take es.length
   rw [← b4] at hrow
   rw [← b6] at hrow
   obtain ⟨T0,hT0⟩:∃ T0:Tags,T0=fun b=>if T b=.row r then .row (.slot 0) else if T b=.ro then .ro else .other:=⟨_,rfl⟩
   have t1:∀ b,T b=.ro→T0 b=.ro:=fun b e=>by rw [hT0];simp [e]
   have t3:∀ b,T0 b=.ro→T b=.ro:=fun b e=>by
    rw [hT0] at e
    simp only at e
    split at e
    ·cases e
    ·split at e
     ·assumption
     ·cases e
   refine go (gone T r) T0 (fun b=>b<w.heap.size∧T b≠.row r) (b1.unhold hun) (fun b e=>⟨t1 b e,gone_ne (by simp) e⟩) (fun b e=>⟨by rw [hT0];simp [e],gone_ne (by simp) e⟩) (fun b e=>gone_ne (by simp) (t3 b e)) (fun b hb=>?_) (fun b hb=>hb.1) (fun b hb=>?_) (fun b hl e=>⟨hl,fun e2=>by rw [e2] at e;rcases e with e|e<;>cases e⟩) ?_ rfl
   ·rw [hT0]
    simp only
    rw [if_neg hb.2]
    split
    ·exact .inl rfl
    ·exact .inr rfl
   ·by_cases hl:b<w.heap.size
    ·exact gone_eq (Classical.not_not.1 fun g=>hb ⟨hl,g⟩)
    ·exact gone_ne (by simp) (h.fresh b (Nat.le_of_not_lt hl))
   ·exact RowRep.frame (fun b e _=>⟨by rw [hT0];simp [e],rfl⟩) (fun b e _=>⟨t1 b e,rfl⟩) hrow
theorem callOnL_sound (hcalls:CallsOk P rec env) (h:Sim L σ T st a w) (hG:GlobOk T w) (hmx:mOpd y x=true) {ys:List Operand} {xs:List Opd} (hm:mAll ys xs=true) {caps:List AV} {cvs:List Value} (hc:cvs.length=caps.length)
  (hcr:∀ (k:Nat) c u,caps[k]?=some c→cvs[k]?=some u→CapRep st.boxes.length σ T w c u) {f:Nat} (hp:callOnL rec env d f x xs caps st=some st') :
  callable P f=true∧Calls P f (a.eval y :: (ys.map a.eval++cvs)).toArray w (fun e w'=>∃ v T2,e=.returned v∧Sim L σ T2 st' (a.put (some d) v) w'∧Chg T T2 w w'):=by
 obtain ⟨T1,k1,k2,k3⟩:=Sim.freezeArgsL xs h
 obtain ⟨q1,q2⟩:=callOnL0_sound (cvs:=cvs) hcalls k1 (hG.frame fun b hb _=>⟨k2.ro b hb,rfl⟩) hmx hm hc (fun k c u h1 h2=>by
  rw [k3]
  have:=hcr k c u h1 h2
  cases c<;>simp only [CapRep] at this ⊢
  case pv x=>exact this.frame fun b hb _=>⟨k2.ro b hb,rfl⟩
  case pbox o j=>exact this) hp
 exact ⟨q1,q2.mono fun e w' ⟨v,T2,h1,h2,h3⟩=>⟨v,T2,h1,h2,(k2.chg w).trans h3⟩⟩
end
end Go.Proofs.YtpcncggjmabnaaaGreatDoor
