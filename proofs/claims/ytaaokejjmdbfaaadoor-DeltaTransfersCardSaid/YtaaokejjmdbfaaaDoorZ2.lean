/-
  Part 2 of the texts that the statement stands on.
-/
import Derived.Test.YtaaokejjmdbfaaaDoorZ1
import Derived.Laws.Tables
import Derived.Maps.AppendAt
import Derived.Laws.CopyRow
import Derived.Laws.MakeOwn
import Derived.Lib.TrailingZeros
import Derived.TacticsIn
import Derived.RangeFuncLeaves
set_option linter.all false
namespace Go.Proofs.YtaaokejjmdbfaaaDoor
open Go.RowKit
theorem mapM_some {α β:Type} {f:α→Option β}:∀ {l:List α} {m:List β},l.mapM f=some m→m.length=l.length∧∀ (i:Nat) x,l[i]?=some x→∃ y,f x=some y∧m[i]?=some y
 |[],m,h=>by simp at h;subst h;exact ⟨rfl,fun i x hx=>by simp at hx⟩
 |x :: l,m,h=>by
  rw [List.mapM_cons] at h
  obtain ⟨y,h1,h2⟩:=bind_some h
  obtain ⟨ys,h3,h4⟩:=bind_some h2
  cases h4
  obtain ⟨g1,g2⟩:=mapM_some h3
  refine ⟨by simp [g1],fun i z hz=>?_⟩
  cases i with
  |zero=>simp at hz;subst hz;exact ⟨y,h1,rfl⟩
  |succ i=>exact g2 i z (by simpa using hz)
section
variable {P:Program} {L:Nat} {σ:Nat→Nat} {T T':Tags} {st st' st1:St} {a:Act} {w:World} {o:Oper} {d n:Nat} {x x2:bP} {y y2:Operand} {ok:Nat→Prop}
theorem aI.Gt (h:aI L σ T st a w) {r:Root} {sz off len:Nat} {es:List PV} {v:Value} (hr:st.row r=some (sz,es)) (hv:Gp (hdr σ a w r) off len sz v) (hl:off+len≤es.length) (h1:∀ b,T b=.row r→T' b=.ro) (h2:∀ b,T b=.ro→T' b=.ro) :
  ay (fun b=>T' b=.ro) w (.list sz ((es.drop off).take len)) v:=by
 obtain ⟨xa,n,c,x',m1,m2,m3,m4,m0⟩:=hv
 obtain ⟨u,m5,m6⟩:=h.sQ hr
 rw [m5] at m1;cases m1
 obtain ⟨xb,c',e3,m7,m8,m9⟩:=m6.slice
 cases e3
 have hlen:((es.drop off).take len).length=len:=by simp;omega
 suffices g:ay (fun b=>T' b=.ro) w (.list sz ((es.drop off).take len)) (.slice x' ((es.drop off).take len).length (c - off)) by
  rw [hlen] at g;rw [m2];exact g
 by_cases hpos:0<len
 ·obtain ⟨b,hb,k1,k2,k3,k4⟩:=m9 (by omega)
  have hx':x'=some ⟨b,off * sz,none⟩:=by rw [m4 hpos,hb];simp [Addr.add_lit]
  refine ay.aap (by rw [hlen];omega) (Nat.le_trans (Nat.sub_le _ _) m8) (fun _=>.inr ⟨b,_,hx',h1 b k1,k2⟩) (fun _=>⟨b,off * sz,hx',h1 b k1,k2,fun el he=>k3 el (List.mem_of_mem_drop (List.mem_of_mem_take he)),fun i el hi=>?_⟩)
  rw [List.getElem?_take] at hi
  split at hi
  ·rw [List.getElem?_drop] at hi
   have:=(k4 _ _ hi).mono (fun b e=>h2 b e)
   rwa [show off * sz+i * sz=(off+i) * sz by rw [Nat.add_mul]]
  ·cases hi
 ·obtain rfl:len=0:=by omega
  have hnil:(es.drop off).take 0=[]:=by simp
  rw [hnil]
  by_cases hc:c=0
  ·subst hc
   rw [Nat.zero_sub]
   exact .nil _ _
  ·-- there is room,so it lies somewhere
   have hroom:∃ b,xa=some ⟨b,0,none⟩∧T b=.row r∧dD w b:=by
    rcases m6 with ⟨_,a0,e⟩|⟨b,c0,arr,E,e,g2,g3,_⟩
    ·exact absurd (by injection e) hc
    ·injection e with e1 e2 e3
     exact ⟨b,e1,g2,⟨_,_,_,g3⟩⟩
   obtain ⟨b,hb,k1,k2⟩:=hroom
   obtain ⟨o',e'⟩:=m0 b 0 hb
   rw [e']
   exact .list sz [] b o' (c - off) (fun _ _=>undef) (h1 b k1) k2 (Nat.zero_le _) (Nat.le_trans (Nat.sub_le _ _) m8) (fun e he=>by cases he) (fun i e j x hi=>by simp at hi) (fun i e j x hi=>by simp at hi)
def Free (st:St) (n:Nat):Prop:=∀ s l,st.slots[n]?≠some (.row s l)
theorem aI.VO (h:aI L σ T st a w) (hn:Free st n):aI L σ (oV T (.slot n)) st a w:=by
 have hw:∀ b,T b=.ro→b<w.heap.size→oV T (.slot n) b=.ro∧w.heap[b]?=w.heap[b]?:=fun b e _=>⟨nP e,rfl⟩
 refine ⟨h.size,fun t x u hx hu=>?_,fun o bx ho=>?_,fun b hb=>qM (h.fresh b hb)⟩
 ·refine (h.slots t x u hx hu).keep hw (fun s l e b hb _=>⟨jH (fun e2=>?_) hb,rfl⟩) (fun l e i _ b hb _=>⟨jH (by simp) hb,rfl⟩) (fun q hq _ s l e=>⟨⟨l,e⟩,rfl⟩) (Nat.le_refl _) (fun _ _=>rfl)
  cases e2
  exact hn s l (by rw [hx,e])
 ·have hb:=h.boxes o bx ho
  have hT:oV T (.slot n) (σ o)=T (σ o):=by
   obtain ⟨_,_,_,_,h3,_⟩:=hb
   rw [h3];split
   ·rename_i hf;exact nP (by rw [h3,if_pos hf])
   ·rename_i hf;exact sN (by rw [h3,if_neg hf])
  exact hb.frame ⟨hT,rfl⟩ (fun j b e _=>⟨jH (by simp) e,rfl⟩) hw
theorem qO (st:St) (r:Root):(st.freeze r).boxes.length=st.boxes.length:=by
 unfold St.freeze
 split
 ·cases r<;>simp only [St.put]
  unfold St.setCell;split<;>simp
 ·rfl
theorem iK.aiq {b p:Nat} {bx:Box} (h:iK T w b p bx) (hf:bx.fz=true):Mem (fun b=>T b=.ro) w b 0 (bx.cs.map BV.val)∧T b=.ro:=by
 obtain ⟨arr,E,h1,h2,h3,h4,h5⟩:=h
 rw [if_pos hf] at h3
 refine ⟨fun k x hx=>?_,h3⟩
 rw [List.getElem?_map] at hx
 cases e:bx.cs[k]? with
 |none=>rw [e] at hx;cases hx
 |some bv =>
  rw [e] at hx;cases hx
  have hk:k<arr.size:=by rw [h2];exact (List.getElem?_eq_some_iff.1 e).1
  have g:arr[k]?=some arr[k]:=Array.getElem?_eq_getElem hk
  obtain ⟨g1,g2⟩:=h5 k bv _ e g
  refine ⟨arr[k],by rw [cell_of_row w b _ arr E (0,0) h1,Nat.zero_add,g],g1,?_⟩
  cases bv with
  |pv v=>exact g2
  |row sz es=>exact absurd e (h4 hf k sz es)
theorem aI.JY (h:aI L σ T st a w) {t:Nat} {v:AV} {u:Value} (hv:jF L σ T st a w t v u) {p:PV} (hs:st.snap v=some (p,false)):ay (fun b=>T b=.ro) w p u:=by
 unfold St.snap at hs
 split at hs
 ·cases hs;exact hv
 ·cases hs
 ·split at hs
  ·split at hs<;>cases hs
  ·cases hs
 ·rename_i o j
  split at hs
  ·rename_i bx hb
   have hs:=Option.some.inj hs
   simp only [Prod.mk.injEq,Bool.not_eq_false'] at hs
   obtain ⟨rfl,hf⟩:=hs
   obtain ⟨_,rfl⟩:=hv
   obtain ⟨g1,g2⟩:=(h.boxes o bx hb).aiq hf
   have:=ay.uN (off:=0) j g2 (h.boxes o bx hb).Gs g1
   rwa [Nat.zero_add] at this
  ·cases hs
 ·split at hs
  ·split at hs<;>cases hs
  ·cases hs
 ·cases hs
theorem gU.SB {nb:Nat} (hnb:nb=st.boxes.length) {v:AV} {u:Value} (h:gU nb σ T w v u) (t:Nat):jF L σ T st a w t v u:=by
 subst hnb
 cases v<;>simp only [gU] at h
 ·exact h
 ·exact h
theorem aI.oH:∀ (caps:List AV) {T:Tags} {st:St},aI L σ T st a w→∃ T',aI L σ T' (caps.foldl St.fH st) a w∧Still T T'∧(caps.foldl St.fH st).boxes.length=st.boxes.length∧(caps.foldl St.fH st).slots=st.slots
 |[],T,st,h=>⟨T,h,Still.refl T,rfl,rfl⟩
 |v :: caps,T,st,h=>by
  have h1:∃ T',aI L σ T' (st.fH v) a w∧Still T T'∧(st.fH v).boxes.length=st.boxes.length∧(st.fH v).slots=st.slots:=by
   unfold St.fH
   split
   ·rename_i o j
    refine ⟨_,h.aZ o,?_,?_,?_⟩
    ·split
     ·exact Still.gZ _ _
     ·exact Still.refl T
    ·unfold St.aZ;split<;>simp
    ·unfold St.aZ;split<;>rfl
   ·exact ⟨T,h,Still.refl T,rfl,rfl⟩
  obtain ⟨T1,k1,k2,k3,k4⟩:=h1
  obtain ⟨T2,q1,q2,q3,q4⟩:=aI.oH caps k1
  exact ⟨T2,q1,k2.trans q2,q3.trans k3,q4.trans k4⟩
theorem aI.aaq (h:aI L σ T st a w) {f t:Nat} {caps:List AV} {u:Value} (hv:jF L σ T st a w t (.fn f caps) u) {p:PV} (hs:st.jw (.fn f caps)=some (p,false)):ay (fun b=>T b=.ro) w p u:=by
 simp only [St.jw] at hs
 obtain ⟨l,h1,h2⟩:=bind_some hs
 have h2:=Option.some.inj h2
 simp only [Prod.mk.injEq] at h2
 obtain ⟨rfl,hfl⟩:=h2
 obtain ⟨m1,m2⟩:=mapM_some h1
 obtain ⟨arr,e1,e2,e3⟩:=hv
 rw [e1]
 refine .func f _ arr (by simp [m1,e2]) (fun j p u hp hu=>?_)
 rw [List.getElem?_map] at hp
 cases hl:l[j]? with
 |none=>rw [hl] at hp;cases hp
 |some q =>
  rw [hl] at hp;cases hp
  have hj:j<caps.length:=by rw [← m1];exact (List.getElem?_eq_some_iff.1 hl).1
  have hcj:caps[j]?=some caps[j]:=List.getElem?_eq_getElem hj
  obtain ⟨q',g1,g2⟩:=m2 j caps[j] hcj
  rw [hl] at g2;cases g2
  have hq:q.2=false:=by
   have:=List.any_eq_false.1 hfl q (List.mem_of_getElem? hl)
   simpa using this
  obtain ⟨q1,q2⟩:=q
  simp only at hq;subst hq
  exact h.JY ((e3 j caps[j] u hcj hu).SB rfl 0) g1
theorem aI.consume (h:aI L σ T st a w) (hm:aY y x=true) {v:PV} {own:Bool} (hc:st.consume x=some (v,own,st1)):∃ T',aI L σ T' st1 a w∧Still T T'∧st1.boxes.length=st.boxes.length ∧
  (own=false→ay (fun b=>T' b=.ro) w v (a.eval y))∧(own=true→∃ sz es n,v=.list sz es∧Free st1 n∧aH T' w (.slot n) sz es (a.eval y)):=by
 cases x with
 |c v' =>
  simp only [St.consume,Option.some.injEq,Prod.mk.injEq] at hc
  obtain ⟨rfl,rfl,rfl⟩:=hc
  exact ⟨T,h,Still.refl T,rfl,fun _=>h.pv hm rfl,fun e=>by cases e⟩
 |nil sz =>
  simp only [St.consume,Option.some.injEq,Prod.mk.injEq] at hc
  obtain ⟨rfl,rfl,rfl⟩:=hc
  have hfree:Free st st.slots.length:=by
   intro s l e
   rw [List.getElem?_eq_none (Nat.le_refl _)] at e;cases e
  refine ⟨T,h,Still.refl T,rfl,(fun e=>by cases e),fun _=>⟨sz,[],st.slots.length,rfl,hfree,?_⟩⟩
  rcases h.get hm with ⟨t,e,_⟩|⟨v',e,_⟩|⟨s,_,g⟩
  ·cases e
  ·cases e
  ·rw [g];exact aH.nil _ _ _ _ _
 |t n =>
  simp only [St.consume] at hc
  split at hc
  case h_1 v' e =>
   simp only [Option.some.injEq,Prod.mk.injEq] at hc
   obtain ⟨rfl,rfl,rfl⟩:=hc
   have e2:st.dH (.t n)=some v':=by unfold St.dH;rw [show st.get (.t n)=.pv v' from e]
   exact ⟨T,h,Still.refl T,rfl,fun _=>h.pv hm e2,fun e=>by cases e⟩
  case h_2 sz es e =>
   simp only [Option.some.injEq,Prod.mk.injEq] at hc
   obtain ⟨rfl,rfl,rfl⟩:=hc
   obtain ⟨g1,g2,g3⟩:=h.Sr hm e
   refine ⟨T,h.forget n,Still.refl T,rfl,(fun e=>by cases e),fun _=>⟨sz,es,n,rfl,fun s l e=>?_,g3⟩⟩
   simp only [St.put,List.getElem?_set,if_true] at e
   split at e<;>cases e
  case h_3 r off len e =>
   split at hc
   case h_2=>cases hc
   rename_i sz es hr
   split at hc
   case isFalse=>cases hc
   rename_i hl
   simp only [Option.some.injEq,Prod.mk.injEq] at hc
   obtain ⟨rfl,rfl,rfl⟩:=hc
   obtain ⟨T1,k1,k2,k3,k4,_⟩:=h.freeze r
   exact ⟨T1,k1,k2,qO _ _,fun _=>h.Gt hr (h.N7 hm e sz es hr) hl (k4 sz es hr) k2.ro,fun e=>by cases e⟩
  case h_4 f caps e =>
   split at hc
   case h_2=>cases hc
   rename_i p hp
   simp only [Option.some.injEq,Prod.mk.injEq] at hc
   obtain ⟨rfl,rfl,rfl⟩:=hc
   obtain ⟨T1,k1,k2,k3,k4⟩:=h.oH caps
   refine ⟨T1,k1,k2,k3,fun _=>?_,fun e=>by cases e⟩
   have e2:(caps.foldl St.fH st).get (.t n)=.fn f caps:=by
    show (caps.foldl St.fH st).slots.getD n .any=_
    rw [k4];exact e
   rcases k1.get hm with ⟨t,e3,(⟨_,g⟩|g)⟩|⟨v',e3,g⟩|⟨s,e3,g⟩
   ·rw [e2] at g;exact k1.aaq g hp
   ·rw [e2] at g;cases g
   ·cases e3
   ·cases e3
  case h_5=>cases hc
theorem aI.Bd (h:aI L σ T st a w) (hm:aY y x=true) {v:PV} {own:Bool} (hc:st.consume x=some (v,own,st1)):∃ T',aI L σ T' st1 a w∧Still T T'∧st1.boxes.length=st.boxes.length∧ay (fun b=>T' b=.ro) w v (a.eval y):=by
 obtain ⟨T1,h1,h2,h3,h4,h5⟩:=h.consume hm hc
 cases own with
 |false=>exact ⟨T1,h1,h2,h3,h4 rfl⟩
 |true =>
  obtain ⟨sz,es,n,rfl,h6,h7⟩:=h5 rfl
  exact ⟨_,h1.VO h6,h2.trans (Still.oV _ _),h3,aH.list (fun b e=>wW e) (fun b e=>nP e) h7⟩
theorem QC {T0 T1:TypeId} {mx:Bool} (h:aI L σ T st a w) (hd:o.dst=some d) (ho:o.op=.call { callee:=.builtin (if mx then .max else .min),args:=#[y,y2],argTypes:=#[T0,T1] }) (hm:aY y x=true) (hm2:aY y2 x2=true) (hp:plain (.mn d mx x x2) st=some st'):rU P L σ T st' a w o:=by
 simp only [plain] at hp
 obtain ⟨v1,h1,hp⟩:=bind_some hp
 cases v1<;>simp only [reduceCtorEq] at hp
 rename_i k m
 obtain ⟨v2,h2,hp⟩:=bind_some hp
 cases v2<;>simp only [reduceCtorEq] at hp
 rename_i l q
 split at hp
 case isFalse=>cases hp
 rename_i hkl
 have hp:=Option.some.inj hp
 subst hp
 subst hkl
 have e1:=(h.pv hm h1).bV
 have e2:=(h.pv hm2 h2).bV
 refine iQ h hd (fun w'=>?_) (.int _ _)
 cases mx<;>simp [execOp,ho,resolve,invoke,builtin,e1,e2,Builtin.max_,Builtin.min_,Builtin.max2,Builtin.min2]
theorem VP {T0 T1:TypeId} {mx:Bool} (h:aI L σ T st a w) (hd:o.dst=some d) (ho:o.op=.call { callee:=.builtin (if mx then .max else .min),args:=#[y,y2],argTypes:=#[T0,T1] }) (hm:aY y x=true) (hm2:aY y2 x2=true) (hp:plain (.mn d mx x x2) st=some st'):Looks P L σ T st' a w o:=(QC h hd ho hm hm2 hp).looks
def lW:List Operand→List bP→Bool
 |[],[]=>true
 |y :: ys,x :: xs=>aY y x&&lW ys xs
 |_,_=>false
theorem aI.caps (h:aI L σ T st a w):∀ {ys:List Operand} {xs:List bP} {l:List AV},lW ys xs=true→vV st xs=some l→l.length=ys.length∧∀ (k:Nat) x u,l[k]?=some x→(ys.map a.eval)[k]?=some u→gU st.boxes.length σ T w x u
 |[],[],l,_,hc=>by simp only [vV,Option.some.injEq] at hc;subst hc;exact ⟨rfl,fun k x u hx=>by simp at hx⟩
 |[],_ :: _,_,hm,_=>by simp [lW] at hm
 |_ :: _,[],_,hm,_=>by simp [lW] at hm
 |y :: ys,x :: xs,l,hm,hc=>by
  simp only [lW,Bool.and_eq_true] at hm
  simp only [vV] at hc
  obtain ⟨v,h1,hc⟩:=bind_some hc
  obtain ⟨vs,h2,hc⟩:=bind_some hc
  have hc:=Option.some.inj hc
  subst hc
  obtain ⟨g1,g2⟩:=aI.caps h hm.2 h2
  refine ⟨by simp [g1],fun k x' u hx hu=>?_⟩
  cases k with
  |succ k=>exact g2 k x' u (by simpa using hx) (by simpa using hu)
  |zero =>
   simp only [List.getElem?_cons_zero,Option.some.injEq,List.map_cons] at hx hu
   subst hx;subst hu
   unfold capOf at h1
   split at h1
   ·rename_i v' e
    have h1:=Option.some.inj h1
    subst h1
    exact h.pv hm.1 (by unfold St.dH;rw [e])
   ·rename_i p j e
    have h1:=Option.some.inj h1
    subst h1
    exact h.aQ hm.1 e
   ·cases h1
theorem SC {f:Nat} {ys:List Operand} {xs:List bP} (h:aI L σ T st a w) (hd:o.dst=some d) (ho:o.op=.makeFunc (.func f) #[] ys.toArray) (hm:lW ys xs=true) (hp:plain (.RH d f xs) st=some st'):Looks P L σ T st' a w o:=by
 simp only [plain] at hp
 obtain ⟨l,h1,hp⟩:=bind_some hp
 have hp:=Option.some.inj hp
 subst hp
 obtain ⟨g1,g2⟩:=h.caps hm h1
 refine ⟨.func (.func f) #[] (ys.map a.eval).toArray,T,fun w' _=>?_,?_,Still.refl _⟩
 ·simp [execOp,ho,Instr.makeFunc]
 ·rw [hd]
  exact h.put (by simp) ⟨_,rfl,by simp [g1],fun k x u hx hu=>g2 k x u hx (by simpa using hu)⟩
theorem foldl_set (arr:Array Value) (off:Nat):∀ (vs:List Value) (k:Nat) (cs:Array Value),off+k+vs.length≤cs.size→∀ i,((vs.zipIdx k).foldl (fun cs (p:Value × Nat)=>cs.setIfInBounds (off+p.2) p.1) cs)[i]?=if off+k≤i∧i<off+k+vs.length then vs[i - (off+k)]? else cs[i]?
 |[],k,cs,_,i=>by simp;intro h1 h2;omega
 |v :: vs,k,cs,hl,i=>by
  simp only [List.zipIdx_cons,List.foldl_cons]
  rw [foldl_set arr off vs (k+1) _ (by simp at hl ⊢;omega) i]
  simp only [List.length_cons] at hl ⊢
  by_cases h1:off+(k+1)≤i∧i<off+(k+1)+vs.length
  ·rw [if_pos h1,if_pos (by omega),show i - (off+k)=(i - (off+(k+1)))+1 by omega,List.getElem?_cons_succ]
  ·rw [if_neg h1,Array.getElem?_setIfInBounds]
   by_cases h2:off+k=i
   ·subst h2
    rw [if_pos rfl,if_pos (by omega),if_pos (by omega),Nat.sub_self,List.getElem?_cons_zero]
   ·rw [if_neg h2,if_neg (by omega)]
theorem qP (off:Nat):∀ (vs:List Value) (k:Nat) (cs:Array Value),((vs.zipIdx k).foldl (fun cs (p:Value × Nat)=>cs.setIfInBounds (off+p.2) p.1) cs).size=cs.size
 |[],k,cs=>rfl
 |v :: vs,k,cs=>by simp only [List.zipIdx_cons,List.foldl_cons];rw [qP off vs];simp
theorem Cells.frame {w:World} {ok ok':Nat→Prop} {cs:List PV} {arr:Array Value} (hk:∀ b,ok b→ok' b) (h:Cells ok w cs arr):Cells ok' w cs arr:=⟨h.size,h.one,fun j x v hx hv=>(h.rep j x v hx hv).frame fun b hb _=>⟨hk b hb,rfl⟩⟩
theorem Cells.splice {cs vs cs':List PV} {arr SE:Array Value} {off:Nat} (h:Cells ok w cs arr) (hv:Cells ok w vs SE) (hs:splice cs off vs=some cs') :
  off+SE.size≤arr.size∧Cells ok w cs' ((SE.zipIdx).foldl (fun cs (p:Value × Nat)=>cs.setIfInBounds (off+p.2) p.1) arr):=by
 unfold Go.Proofs.YtaaokejjmdbfaaaDoor.splice at hs
 split at hs
 case isFalse=>cases hs
 rename_i hl
 have hs:=Option.some.inj hs
 subst hs
 have h1:=h.size
 have h2:=hv.size
 have e:(SE.zipIdx).foldl (fun cs (p:Value × Nat)=>cs.setIfInBounds (off+p.2) p.1) arr=(SE.toList.zipIdx 0).foldl (fun cs (p:Value × Nat)=>cs.setIfInBounds (off+p.2) p.1) arr:=by
  rw [← Array.foldl_toList,Array.toList_zipIdx]
 rw [e]
 have hget:=foldl_set arr off SE.toList 0 arr (by simp;omega)
 have hlist:∀ i,(cs.take off++vs++cs.drop (off+vs.length))[i]?=if off≤i∧i<off+vs.length then vs[i - off]? else cs[i]?:=fun i=>by
  rw [List.append_assoc,List.getElem?_append]
  simp only [List.length_take,show min off cs.length=off by omega]
  split
  ·rename_i hi;rw [if_neg (by omega),List.getElem?_take,if_pos hi]
  ·rename_i hi
   rw [List.getElem?_append]
   split
   ·rename_i hj;rw [if_pos (by omega)]
   ·rename_i hj;rw [if_neg (by omega),List.getElem?_drop];congr 1;omega
 refine ⟨by omega,⟨?_,fun j v hj=>?_,fun j x v hx hj=>?_⟩⟩
 ·rw [qP];simp;omega
 ·rw [hget] at hj
  split at hj
  ·exact hv.one _ _ (by simpa using hj)
  ·exact h.one _ _ hj
 ·rw [hget] at hj
  rw [hlist] at hx
  simp only [Nat.add_zero,Array.length_toList,h2] at hj
  split at hj
  ·rename_i hi
   rw [if_pos hi] at hx
   exact hv.rep _ _ _ hx (by simpa using hj)
  ·rename_i hi
   rw [if_neg hi] at hx
   exact h.rep _ _ _ hx hj
def placeOf (P:Program) (T:TypeId) (i:Nat):Option (Nat × Nat) :=
 match P.underlying T with
 |some (.array _ e)=>(jr P e).map fun s=>(i * s,s)
 |some (.struct fs)=>(fs.toList.mapM fun f=>(P.info? f.type).map fun i=>(f.offset,i.size)).bind fun l=>l[i]?
 |_=>none
def sV (P:Program) (T:TypeId):List (Nat × Operand)→List (Nat × Nat × bP)→Bool
 |[],[]=>true
 |(i,y) :: l,(off,n,x) :: m=>placeOf P T i==some (off,n)&&aY y x&&sV P T l m
 |_,_=>false
def pX (P:Program) (T:TypeId) (z:List PV):Bool :=
 match P.info? T with
 |some i=>match i.zero with
  |some v=>sO z v.cells.toList
  |none=>false
 |none=>false
theorem nS {z:List PV} {arr:Array Value} (h:sO z arr.toList=true) (ok:Nat→Prop) (w:World):Cells ok w z arr:=by
 obtain ⟨h1,h2⟩:=vY (ok:=ok) (w:=w) h
 exact ⟨by simpa using h1.symm,fun j v hv=>(h2 j v (by simpa using hv)).1,fun j x v hx hv=>(h2 j v (by simpa using hv)).2 x hx⟩
theorem aI.build (place:Nat→Option (Nat × Nat)):∀ {l:List (Nat × Operand)} {m:List (Nat × Nat × bP)} {T:Tags} {st st1:St} {cs cs':List PV} {arr:Array Value},aI L σ T st a w→(∀ (k:Nat) p q,l[k]?=some p→m[k]?=some q→place p.1=some (q.1,q.2.1)∧aY p.2 q.2.2=true)→l.length=m.length →
  Cells (fun b=>T b=.ro) w cs arr→gW cs st m=some (cs',st1)→∃ T' arr',aI L σ T' st1 a w∧Still T T'∧Instr.fill place arr (l.map fun p=>(p.1,a.eval p.2))=some arr'∧Cells (fun b=>T' b=.ro) w cs' arr'
 |[],[],T,st,st1,cs,cs',arr,h,_,_,hc,hb=>by
  simp only [gW,Option.some.injEq,Prod.mk.injEq] at hb
  obtain ⟨rfl,rfl⟩:=hb
  exact ⟨T,arr,h,Still.refl T,rfl,hc⟩
 |[],_ :: _,_,_,_,_,_,_,_,_,hl,_,_=>by simp at hl
 |_ :: _,[],_,_,_,_,_,_,_,_,hl,_,_=>by simp at hl
 |(i,y) :: l,(off,n,x) :: m,T,st,st1,cs,cs',arr,h,hm,hl,hc,hb=>by
  simp only [gW] at hb
  obtain ⟨⟨v,own,st2⟩,h1,hb⟩:=bind_some hb
  obtain ⟨cs2,h2,hb⟩:=bind_some hb
  simp only at hb h2
  split at hb
  case isFalse=>cases hb
  rename_i hn
  obtain ⟨hp,hy⟩:=hm 0 _ _ rfl rfl
  obtain ⟨T1,k1,k2,k3,k4⟩:=h.Bd hy h1
  have hcv:=k4.cells
  obtain ⟨g1,g2⟩:=(hc.frame k2.ro).splice hcv h2
  obtain ⟨T2,arr',q1,q2,q3,q4⟩:=aI.build place k1 (fun k p q hp hq=>hm (k+1) p q hp hq) (by simpa using hl) g2 hb
  refine ⟨T2,arr',q1,k2.trans q2,?_,q4⟩
  simp only [List.map_cons,Instr.fill,hp]
  have hsz:(a.eval y).cells.size=n:=by rw [hcv.size,hn]
  rw [hsz] at g1
  rw [if_neg (by simp [hsz];omega)]
  exact q3
theorem Bf {T0:TypeId} {l:List (Nat × Operand)} {m:List (Nat × Nat × bP)} {z:List PV} (h:aI L σ T st a w) (hd:o.dst=some d) (ho:o.op=.build T0 l.toArray) (hm:sV P T0 l m=true) (hz:pX P T0 z=true) (hu:(∃ n e,JK P T0=some (n,e)∧(jr P e).isSome=true)∨∃ fs pl,P.underlying T0=some (.struct fs)∧(fs.toList.mapM fun f=>(P.info? f.type).map fun i=>(f.offset,i.size))=some pl)
  (hp:plain (.build d z m) st=some st'):Qz P L σ T st' a w o:=by
 simp only [plain] at hp
 obtain ⟨⟨cs,st1⟩,h1,hp⟩:=bind_some hp
 have hp:=Option.some.inj hp
 subst hp
 unfold pX at hz
 split at hz
 case h_2=>cases hz
 rename_i it hit
 split at hz
 case h_2=>cases hz
 rename_i zv hzv
 have hparts:∀ {l:List (Nat × Operand)} {m:List (Nat × Nat × bP)},sV P T0 l m=true→l.length=m.length∧∀ (k:Nat) p q,l[k]?=some p→m[k]?=some q→placeOf P T0 p.1=some (q.1,q.2.1)∧aY p.2 q.2.2=true:=by
  intro l
  induction l with
  |nil=>intro m hm;cases m<;>simp [sV] at hm ⊢
  |cons p l ih =>
   intro m hm
   cases m with
   |nil=>simp [sV] at hm
   |cons q m =>
    simp only [sV,Bool.and_eq_true,beq_iff_eq] at hm
    obtain ⟨⟨hm1,hm2⟩,hm3⟩:=hm
    obtain ⟨i1,i2⟩:=ih hm3
    refine ⟨by simp [i1],fun k p' q' hp hq=>?_⟩
    cases k with
    |zero=>simp at hp hq;subst hp;subst hq;exact ⟨hm1,hm2⟩
    |succ k=>exact i2 k p' q' (by simpa using hp) (by simpa using hq)
 obtain ⟨hl,hpl⟩:=hparts hm
 obtain ⟨T1,arr,k1,k2,k3,k4⟩:=aI.build (placeOf P T0) h hpl hl (nS hz _ _) h1
 have adp:P.built T0 (l.map fun p=>(p.1,a.eval p.2))=some arr:=by
  unfold Program.built
  rcases hu with ⟨n,e,he,hs⟩|⟨fs,pl,hfs,afP⟩
  ·have hue:=Qy he
   cases hie:P.info? e with
   |none=>simp [jr,hie] at hs
   |some ie =>
    simp only [hit,hue,hzv,hie]
    rw [← k3]
    congr 1
    funext i
    simp [placeOf,hue,jr,hie]
  ·simp only [hit,hfs,hzv,afP]
   rw [← k3]
   congr 1
   funext i
   simp [placeOf,hfs,afP]
 refine ⟨.agg arr,T1,fun w'=>?_,by rw [hd];exact k1.vJ k4.agg,k2⟩
 have hb:=run_build (P:=P) w' T0 (l.map fun p=>(p.1,a.eval p.2)).toArray arr (by simpa using adp)
 simp only [execOp,ho,List.map_toArray]
 simp [hb]
theorem JZ {T0:TypeId} {l:List (Nat × Operand)} {m:List (Nat × Nat × bP)} {z:List PV} (h:aI L σ T st a w) (hd:o.dst=some d) (ho:o.op=.build T0 l.toArray) (hm:sV P T0 l m=true) (hz:pX P T0 z=true) (hu:(∃ n e,JK P T0=some (n,e)∧(jr P e).isSome=true)∨∃ fs pl,P.underlying T0=some (.struct fs)∧(fs.toList.mapM fun f=>(P.info? f.type).map fun i=>(f.offset,i.size))=some pl)
  (hp:plain (.build d z m) st=some st'):Looks P L σ T st' a w o:=(Bf h hd ho hm hz hu hp).looks
end
end Go.Proofs.YtaaokejjmdbfaaaDoor

namespace Go.Proofs.YtaaokejjmdbfaaaDoor
open Go.RowKit
section
variable {P:Program} {L:Nat} {σ σ':Nat→Nat} {T T':Tags} {st st' st1:St} {a:Act} {w w1:World} {o:Oper} {d n:Nat} {x x2:bP} {y y2:Operand} {ok:Nat→Prop}
def Whole (w w':World):Prop:=w.heap.size≤w'.heap.size∧∀ b,b<w.heap.size→w'.heap[b]?=w.heap[b]?
theorem Whole.refl (w:World):Whole w w:=⟨Nat.le_refl _,fun _ _=>rfl⟩
theorem Whole.sees {T:Tags} {w w':World} (h:Whole w w'):oU T w w':=⟨h.1,fun b _ hl=>h.2 b hl⟩
theorem jI (w:World) (ob:Obj):Whole w (w.alloc ob):=⟨by simp,fun b hl=>Below.heap_alloc _ _ _ hl⟩
def Does (P:Program) (L:Nat) (σ:Nat→Nat) (T:Tags) (nb:Nat) (st':St) (a:Act) (w:World) (o:Oper) (qQ:Bool):Prop :=
 ∃ nx v w1 σ' T',(execOp a.eval o).run P w=.ok nx w1∧(nx=.value v∨nx=.skip∧v=undef)∧aI L σ' T' st' (a.put o.dst v) w1∧uG T T' w w1∧(∀ k,k<nb→σ' k=σ k)∧(qQ=true→Whole w w1)
def upd (T:Tags) (b:Nat) (q:vI):Tags:=fun x=>if x=b then q else T x
theorem upd_ne {b c:Nat} {q:vI} (h:c≠b):upd T b q c=T c:=by simp [upd,h]
theorem Gu {b:Nat} {q:vI}:upd T b q b=q:=by simp [upd]
theorem Bg (T:Tags) (w:World) (ob:Obj):oU T w (w.alloc ob):=⟨by simp,fun b _ hl=>Below.heap_alloc _ _ _ hl⟩
theorem kQ (hT:T w.heap.size=.other) (ob:Obj) (q:vI):uG T (upd T w.heap.size q) w (w.alloc ob) :=
 ⟨by simp,rfl,rfl,rfl,fun b hl _=>Below.heap_alloc _ _ _ hl,fun b e=>by rw [upd_ne (fun e2=>by rw [e2,hT] at e;cases e)];exact e,fun b hl e=>by rw [upd_ne (by omega)];exact e⟩
theorem oU.trans {w2:World} (h:oU T w w1) (k:oU T w1 w2):oU T w w2:=⟨Nat.le_trans h.1 k.1,fun b hb hl=>(k.2 b hb (Nat.lt_of_lt_of_le hl h.1)).trans (h.2 b hb hl)⟩
theorem aI.J3 (h:aI L σ T st a w) {sz c E:Nat} {es:List PV} {arr:Array Value} (h1:arr.size=c * sz) (h2:es.length≤c) (h3:c≤maxLen) (h4:∀ e∈es,e.cells.length=sz)
  (h5:∀ i e j x,es[i]?=some e→e.cells[j]?=some x→∃ u,arr[i * sz+j]?=some u∧u.oneCell'=true∧ay (fun b=>T b=.ro) w x u) :
  aI L σ (upd T w.heap.size (.row (.slot d))) (st.putRow d sz es) (a.put (some d) (.slice (some ⟨w.heap.size,0,none⟩) es.length c)) (w.alloc (.cells arr E)):=by
 have hT:=h.fresh w.heap.size (Nat.le_refl _)
 have hS:=h.sees (Bg T w (.cells arr E))
 have hne:∀ c p,p≠.other→T c=p→upd T w.heap.size (.row (.slot d)) c=p:=fun c p hp e=>by rw [upd_ne (fun e2=>by subst e2;rw [hT] at e;exact hp e.symm)];exact e
 refine hS.putRow (.inr ⟨w.heap.size,c,arr,E,rfl,Gu,heap_alloc_new w _,h1,h2,h3,h4,fun i e j x hi hj=>?_⟩) (fun b e=>hne b _ (by simp) e) (fun b o e=>hne b _ (by simp) e) (fun b hb=>?_) (fun t s l _ _ b e=>hne b _ (by simp) e) (fun t i l _ _ _ b e=>hne b _ (by simp) e) (fun o j b e=>hne b _ (by simp) e)
 ·obtain ⟨u,k1,k2,k3⟩:=h5 i e j x hi hj
  exact ⟨u,k1,k2,k3.frame fun b e hl=>⟨hne b _ (by simp) e,Below.heap_alloc _ _ _ hl⟩⟩
 ·rw [World.size_alloc] at hb
  rw [upd_ne (by omega)];exact h.fresh b (by omega)
theorem aI.retag (h:aI L σ T st a w) (hn:Free st n) {p j:Nat} (hp:st.boxes.length≤p):aI L σ (moved T (.slot n) (.cell p j)) st a w:=by
 have hw:∀ b,T b=.ro→b<w.heap.size→moved T (.slot n) (.cell p j) b=.ro∧w.heap[b]?=w.heap[b]?:=fun b e _=>⟨gI e,rfl⟩
 refine ⟨h.size,fun t x u hx hu=>?_,fun q bx ho=>?_,fun b hb=>jG (h.fresh b hb)⟩
 ·refine (h.slots t x u hx hu).keep hw (fun s l e b hb _=>⟨dM (fun e2=>?_) (by simp) hb,rfl⟩) (fun l e i _ b hb _=>⟨dM (by simp) (by simp) hb,rfl⟩) (fun q hq _ s l e=>⟨⟨l,e⟩,rfl⟩) (Nat.le_refl _) (fun _ _=>rfl)
  cases e2
  exact hn s l (by rw [hx,e])
 ·have hq:q<st.boxes.length:=(List.getElem?_eq_some_iff.1 ho).1
  have hb:=h.boxes q bx ho
  have hT:moved T (.slot n) (.cell p j) (σ q)=T (σ q):=by
   obtain ⟨_,_,_,_,h3,_⟩:=hb
   rw [h3];split
   ·rename_i hf;exact gI (by rw [h3,if_pos hf])
   ·rename_i hf;exact lT (by rw [h3,if_neg hf])
  exact hb.frame ⟨hT,rfl⟩ (fun k b e _=>⟨dM (by simp) (by intro e2;cases e2;omega) e,rfl⟩) hw
theorem aI.Bh (h:aI L σ T st a w) {cs:List BV} {arr:Array Value} {E:Nat} (h1:arr.size=cs.length) (h2:∀ (j:Nat) bv u,cs[j]?=some bv→arr[j]?=some u→u.oneCell'=true∧DT T w st.boxes.length j bv u) :
  aI L (fun k=>if k=st.boxes.length then w.heap.size else σ k) (upd T w.heap.size (.box st.boxes.length)) (({ st with boxes:=st.boxes++[(⟨false,cs⟩:Box)] }:St).put d (.aQ st.boxes.length 0)) (a.put (some d) (.pointer (some ⟨w.heap.size,0,none⟩))) (w.alloc (.cells arr E)):=by
 have hT:=h.fresh w.heap.size (Nat.le_refl _)
 have hS:=h.sees (Bg T w (.cells arr E))
 have hne:∀ c p,p≠.other→T c=p→upd T w.heap.size (.box st.boxes.length) c=p:=fun c p hp e=>by rw [upd_ne (fun e2=>by subst e2;rw [hT] at e;exact hp e.symm)];exact e
 have hw:∀ c,T c=.ro→c<w.heap.size→upd T w.heap.size (.box st.boxes.length) c=.ro∧(w.alloc (.cells arr E)).heap[c]?=w.heap[c]?:=fun c e hl=>⟨hne c _ (by simp) e,Below.heap_alloc _ _ _ hl⟩
 have hσ:∀ k,k<st.boxes.length→(if k=st.boxes.length then w.heap.size else σ k)=σ k:=fun k hk=>if_neg (by omega)
 have hbb:∀ k bx,st.boxes[k]?=some bx→(st.boxes++[(⟨false,cs⟩:Box)])[k]?=some bx:=fun k bx e=>by
  rw [List.getElem?_append_left (List.getElem?_eq_some_iff.1 e).1];exact e
 -- first the variable
 have hA:aI L (fun k=>if k=st.boxes.length then w.heap.size else σ k) (upd T w.heap.size (.box st.boxes.length)) ({ st with boxes:=st.boxes++[(⟨false,cs⟩:Box)] }:St) a (w.alloc (.cells arr E)):=by
  refine ⟨h.size,fun t av v ht hv=>?_,fun p bx ho=>?_,fun c hc=>?_⟩
  ·refine (h.slots t av v ht hv).keep hw (fun _ _ _ c e hl=>⟨hne c _ (by simp) e,Below.heap_alloc _ _ _ hl⟩) (fun _ _ _ _ c e hl=>⟨hne c _ (by simp) e,Below.heap_alloc _ _ _ hl⟩) (fun r hr hlow s l e=>?_) (by simp) hσ
   cases r with
   |slot t'=>exact ⟨⟨l,e⟩,rfl⟩
   |part t' i=>exact ⟨⟨l,e⟩,rfl⟩
   |cell p q =>
    by_cases hp:p<st.boxes.length
    ·have e2:st.row (.cell p q)=some (s,l):=by
      simp only [St.row] at e ⊢
      rw [List.getElem?_append_left hp] at e
      exact e
     refine ⟨⟨l,e2⟩,?_⟩
     obtain ⟨bx,hb,_⟩:=dO e2
     have hl:=(h.boxes p bx hb).lt
     show (w.alloc (.cells arr E)).cell? ⟨if p=st.boxes.length then w.heap.size else σ p,q,none⟩=w.cell? ⟨σ p,q,none⟩
     rw [hσ p hp]
     exact World.cell?_of_block (w:=w) (a:=⟨σ p,q,none⟩) (Below.heap_alloc _ _ _ hl)
    ·exact absurd hlow hp
  ·by_cases hp:p<st.boxes.length
   ·rw [List.getElem?_append_left hp] at ho
    have hb:=h.boxes p bx ho
    have hlt:=hb.lt
    show iK _ _ (if p=st.boxes.length then w.heap.size else σ p) p bx
    rw [hσ p hp]
    refine hb.frame ⟨upd_ne (by omega),Below.heap_alloc _ _ _ hlt⟩ (fun j c e hl=>⟨hne c _ (by simp) e,Below.heap_alloc _ _ _ hl⟩) hw
   ·have hpe:p=st.boxes.length:=by
     have:=(List.getElem?_eq_some_iff.1 ho).1
     simp at this;omega
    subst hpe
    rw [List.getElem?_append_right (Nat.le_refl _),Nat.sub_self] at ho
    have ho:=Option.some.inj ho
    subst ho
    show iK _ _ (if st.boxes.length=st.boxes.length then w.heap.size else σ st.boxes.length) _ _
    rw [if_pos rfl]
    refine ⟨arr,E,heap_alloc_new w _,h1,by simp [Gu],(fun e=>by cases e),fun j bv u hj hu=>?_⟩
    obtain ⟨g1,g2⟩:=h2 j bv u hj hu
    exact ⟨g1,g2.frame (fun c e hl=>⟨hne c _ (by simp) e,Below.heap_alloc _ _ _ hl⟩) hw⟩
  ·rw [World.size_alloc] at hc
   rw [upd_ne (by omega)];exact h.fresh c (by omega)
 refine hA.put (by simp) ⟨?_,?_⟩
 ·show st.boxes.length<(st.boxes++[(⟨false,cs⟩:Box)]).length
  simp
 ·show Value.pointer _=Value.pointer (some ⟨if st.boxes.length=st.boxes.length then w.heap.size else σ st.boxes.length,0,none⟩)
  rw [if_pos rfl]
theorem Oa {T0:TypeId} {z:List PV} (h:aI L σ T st a w) (hd:o.dst=some d) (ho:o.op=.alloc T0) (hz:pX P T0 z=true) {rec env} (hp:act rec env (.alloc d z) st=some st'):Does P L σ T st.boxes.length st' a w o true:=by
 simp only [act,Option.some.injEq] at hp
 subst hp
 unfold pX at hz
 split at hz
 case h_2=>cases hz
 rename_i it hit
 split at hz
 case h_2=>cases hz
 rename_i zv hzv
 have hc:=nS hz (fun b=>T b=.ro) w
 refine ⟨_,.pointer (some ⟨w.heap.size,0,none⟩),w.alloc (.cells zv.cells T0),fun k=>if k=st.boxes.length then w.heap.size else σ k,_,?_,.inl rfl,?_,kQ (h.fresh _ (Nat.le_refl _)) _ (.box st.boxes.length),fun k hk=>if_neg (by omega),fun _=>jI _ _⟩
 ·simp [execOp,ho,Instr.alloc,zeroValue,typeInfo,hit,hzv,newVar,newRow,newObj,Sem.run]
  try rfl
 ·rw [hd]
  refine h.Bh (by simpa using hc.size) (fun j bv u hj hu=>?_)
  rw [List.getElem?_map] at hj
  cases e:z[j]? with
  |none=>rw [e] at hj;cases hj
  |some x =>
   rw [e] at hj;cases hj
   refine ⟨hc.one j u hu,?_⟩
   unfold zBV
   split
   ·have hc':=nS hz (fun _=>False) w
    have g:=hc'.rep j _ u e hu
    cases g with
    |nil sz a=>exact .inl ⟨rfl,a,rfl⟩
    |list _ _ _ _ _ _ h1=>exact h1.elim
   ·exact hc.rep j _ u e hu
theorem VQ {T0:TypeId} (h:aI L σ T st a w) (hd:o.dst=some d) (ho:o.op=.box T0 y) (hm:aY y x=true) {rec env} (hp:act rec env (.box d x) st=some st'):Does P L σ T st.boxes.length st' a w o true:=by
 simp only [act] at hp
 obtain ⟨⟨v,own,st1⟩,h1,hp1⟩:=bind_some hp
 clear hp
 obtain ⟨T1,k1,k2,k3,k4,k5⟩:=h.consume hm h1
 have hp:=Option.some.inj hp1
 clear hp1
 have hrun:(execOp a.eval o).run P w=.ok (.value (.pointer (some ⟨w.heap.size,0,none⟩))) (w.alloc (.cells (a.eval y).cells T0)):=by
  simp [execOp,ho,Instr.box,newVar,newRow,newObj,Sem.run]
  try rfl
 have hpv:own=false∨(∀ sz es,v≠.list sz es)→Does P L σ T st.boxes.length (({ st1 with boxes:=st1.boxes++[(⟨false,v.cells.map .pv⟩:Box)] }:St).put d (.aQ st1.boxes.length 0)) a w o true:=fun hown=>by
  have hv:own=false:=by
   rcases hown with e|e
   ·exact e
   ·cases own
    ·rfl
    ·obtain ⟨sz,es,_,e2,_⟩:=k5 rfl;exact absurd e2 (e sz es)
  have hc:=(k4 hv).cells
  refine ⟨_,_,_,fun k=>if k=st1.boxes.length then w.heap.size else σ k,_,hrun,.inl rfl,?_,((k2.nC w).trans (kQ (k1.fresh _ (Nat.le_refl _)) _ (.box st1.boxes.length))),fun k hk=>if_neg (by omega),fun _=>jI _ _⟩
  rw [hd]
  refine k1.Bh (by simpa using hc.size) (fun j bv u hj hu=>?_)
  rw [List.getElem?_map] at hj
  cases e:v.cells[j]? with
  |none=>rw [e] at hj;cases hj
  |some x=>rw [e] at hj;cases hj;exact ⟨hc.one j u hu,hc.rep j x u e hu⟩
 cases own with
 |false =>
  by_cases hnl:∃ sz,v=.kU sz
  ·obtain ⟨sz,rfl⟩:=hnl
   subst hp
   obtain ⟨xa,he⟩:∃ xa,a.eval y=.slice xa 0 0:=by
    have:=k4 rfl
    generalize a.eval y=u at this
    cases this;exact ⟨_,rfl⟩
   refine ⟨_,_,_,fun k=>if k=st1.boxes.length then w.heap.size else σ k,_,hrun,.inl rfl,?_,((k2.nC w).trans (kQ (k1.fresh _ (Nat.le_refl _)) _ (.box st1.boxes.length))),fun k hk=>if_neg (by omega),fun _=>jI _ _⟩
   rw [hd]
   refine k1.Bh (by rw [he];rfl) (fun j bv u hj hu=>?_)
   rw [he] at hu
   cases j with
   |zero =>
    simp [Value.cells] at hj hu
    subst hj;subst hu
    exact ⟨rfl,.inl ⟨rfl,xa,rfl⟩⟩
   |succ j=>simp at hj
  have e:st'=(({ st1 with boxes:=st1.boxes++[(⟨false,v.cells.map .pv⟩:Box)] }:St).put d (.aQ st1.boxes.length 0)):=by
   rw [← hp];cases v<;>first|rfl|exact absurd ⟨_,rfl⟩ hnl
  rw [e]
  exact hpv (.inl rfl)
 |true =>
  obtain ⟨sz,es,n,rfl,hf,hr⟩:=k5 rfl
  subst hp
  have hone:(a.eval y).cells=#[a.eval y]∧(a.eval y).oneCell'=true:=by
   obtain ⟨xa,c,e,_⟩:=hr.slice
   rw [e];exact ⟨rfl,rfl⟩
  have k6:=k1.retag hf (p:=st1.boxes.length) (j:=0) (Nat.le_refl _)
  refine ⟨_,_,_,fun k=>if k=st1.boxes.length then w.heap.size else σ k,_,hrun,.inl rfl,?_,((k2.nC w).trans (((Still.moved T1 (.slot n) (.cell st1.boxes.length 0)).nC w).trans (kQ (k6.fresh _ (Nat.le_refl _)) _ (.box st1.boxes.length)))),fun k hk=>if_neg (by omega),fun _=>jI _ _⟩
  rw [hd]
  refine k6.Bh (by rw [hone.1];rfl) (fun j bv u hj hu=>?_)
  rw [hone.1] at hu
  cases j with
  |zero =>
   simp at hj hu
   subst hj;subst hu
   exact ⟨hone.2,aH.frame (fun b e _=>⟨nY e,rfl⟩) (fun b e _=>⟨gI e,rfl⟩) hr⟩
  |succ j=>simp at hj
end
end Go.Proofs.YtaaokejjmdbfaaaDoor

namespace Go.Proofs.YtaaokejjmdbfaaaDoor
open Go.RowKit
structure dP (ok:Nat→Prop) (w:World) (sz:Nat) (es:List PV) (xs:List Value):Prop where
 len:xs.length=es.length * sz
 wid:∀ e∈es,e.cells.length=sz
 rep:∀ (i:Nat) (e:PV) (j:Nat) (x:PV),es[i]?=some e→e.cells[j]?=some x→∃ u,xs[i * sz+j]?=some u∧u.oneCell'=true∧ay ok w x u
theorem yE {i n j sz:Nat} (hi:i<n) (hj:j<sz):i * sz+j<n * sz:=by
 calc i * sz+j<i * sz+sz:=by omega
  _=(i+1) * sz:=by rw [Nat.add_mul];omega
  _≤n * sz:=Nat.mul_le_mul_right _ hi
section
variable {P:Program} {L:Nat} {σ σ':Nat→Nat} {T T':Tags} {st st' st1:St} {a:Act} {w w1:World} {o:Oper} {d n:Nat} {x x2:bP} {y y2:Operand} {ok:Nat→Prop} {sz:Nat} {es ys:List PV} {xs zs:List Value}
theorem dP.nil (ok:Nat→Prop) (w:World) (sz:Nat):dP ok w sz [] []:=⟨by simp,(fun e he=>by cases he),fun i e j x hi=>by simp at hi⟩
theorem dP.lt (h:dP ok w sz es xs) {i j:Nat} {e x:PV} (hi:es[i]?=some e) (hj:e.cells[j]?=some x):i<es.length∧j<sz:=by
 have h1:=(List.getElem?_eq_some_iff.1 hi).1
 have h2:=(List.getElem?_eq_some_iff.1 hj).1
 exact ⟨h1,by rw [h.wid e (List.mem_of_getElem? hi)] at h2;exact h2⟩
theorem dP.append (h:dP ok w sz es xs) (k:dP ok w sz ys zs):dP ok w sz (es++ys) (xs++zs):=by
 refine ⟨by simp [h.len,k.len,Nat.add_mul],fun e he=>(List.mem_append.1 he).elim (h.wid e) (k.wid e),fun i e j x hi hj=>?_⟩
 by_cases hl:i<es.length
 ·rw [List.getElem?_append_left hl] at hi
  obtain ⟨u,h1,h2,h3⟩:=h.rep i e j x hi hj
  exact ⟨u,by rw [List.getElem?_append_left (List.getElem?_eq_some_iff.1 h1).1];exact h1,h2,h3⟩
 ·rw [List.getElem?_append_right (by omega)] at hi
  obtain ⟨u,h1,h2,h3⟩:=k.rep _ e j x hi hj
  refine ⟨u,?_,h2,h3⟩
  have hm:es.length * sz≤i * sz:=Nat.mul_le_mul_right _ (by omega)
  rw [List.getElem?_append_right (by rw [h.len];omega),h.len,← h1]
  congr 1
  rw [Nat.sub_mul];omega
theorem dP.take (h:dP ok w sz es xs) (n:Nat):dP ok w sz (es.take n) (xs.take (n * sz)):=by
 refine ⟨?_,fun e he=>h.wid e (List.mem_of_mem_take he),fun i e j x hi hj=>?_⟩
 ·simp only [List.length_take,h.len]
  by_cases hn:n≤es.length
  ·rw [Nat.min_eq_left hn,Nat.min_eq_left (Nat.mul_le_mul_right _ hn)]
  ·have hn':es.length≤n:=by omega
   rw [Nat.min_eq_right hn',Nat.min_eq_right (Nat.mul_le_mul_right sz hn')]
 ·rw [List.getElem?_take] at hi
  split at hi
  case isFalse=>cases hi
  rename_i hin
  obtain ⟨u,h1,h2,h3⟩:=h.rep i e j x hi hj
  exact ⟨u,by rw [List.getElem?_take,if_pos (yE hin (h.lt hi hj).2)];exact h1,h2,h3⟩
theorem dP.drop (h:dP ok w sz es xs) (n:Nat):dP ok w sz (es.drop n) (xs.drop (n * sz)):=by
 refine ⟨by simp [h.len,Nat.sub_mul],fun e he=>h.wid e (List.mem_of_mem_drop he),fun i e j x hi hj=>?_⟩
 rw [List.getElem?_drop] at hi
 obtain ⟨u,h1,h2,h3⟩:=h.rep _ e j x hi hj
 exact ⟨u,by rw [List.getElem?_drop,← h1];congr 1;rw [Nat.add_mul];omega,h2,h3⟩
theorem dP.frame (h:dP ok w sz es xs) {ok':Nat→Prop} (hf:∀ b,ok b→b<w.heap.size→ok' b∧w1.heap[b]?=w.heap[b]?):dP ok' w1 sz es xs :=
 ⟨h.len,h.wid,fun i e j x hi hj=>by obtain ⟨u,h1,h2,h3⟩:=h.rep i e j x hi hj;exact ⟨u,h1,h2,h3.frame hf⟩⟩
theorem dP.one (h:dP ok w sz es xs):∀ u∈xs,u.oneCell'=true:=by
 intro u hu
 obtain ⟨k,hk⟩:=List.mem_iff_getElem?.1 hu
 have hlt:=(List.getElem?_eq_some_iff.1 hk).1
 rw [h.len] at hlt
 have hpos:0<sz:=by rcases Nat.eq_zero_or_pos sz with h0|h0;(rw [h0] at hlt;simp at hlt);exact h0
 have hi:k / sz<es.length:=Nat.div_lt_of_lt_mul (by rw [Nat.mul_comm];exact hlt)
 have hm:=Nat.mod_lt k hpos
 have e1:es[k / sz]?=some es[k / sz]:=List.getElem?_eq_getElem hi
 have e2:(es[k / sz]).cells[k % sz]?=some _:=List.getElem?_eq_getElem (by rw [h.wid _ (List.getElem_mem hi)];exact hm)
 obtain ⟨v,h1,h2,h3⟩:=h.rep _ _ _ _ e1 e2
 rw [show k / sz * sz+k % sz=k by rw [Nat.mul_comm];exact Nat.div_add_mod k sz,hk] at h1
 cases h1;exact h2
theorem dP.VR {b off:Nat} (h1:∀ e∈es,e.cells.length=sz) (h2:∀ i e,es[i]?=some e→Mem ok w b (off+i * sz) e.cells) :
  ∃ xs,dP ok w sz es xs∧∀ k u,xs[k]?=some u→w.cell? ⟨b,off+k,none⟩=some u:=by
 let xs:List Value:=(List.range (es.length * sz)).map fun k=>(w.cell? ⟨b,off+k,none⟩).getD undef
 have hx:∀ i e j x,es[i]?=some e→e.cells[j]?=some x→∃ u,w.cell? ⟨b,off+(i * sz+j),none⟩=some u∧u.oneCell'=true∧ay ok w x u:=fun i e j x hi hj=>by
  obtain ⟨u,g1,g2,g3⟩:=h2 i e hi j x hj
  exact ⟨u,by rw [← Nat.add_assoc];exact g1,g2,g3⟩
 have hget:∀ k,k<es.length * sz→xs[k]?=some ((w.cell? ⟨b,off+k,none⟩).getD undef):=fun k hk=>by simp [xs,hk]
 refine ⟨xs,⟨by simp [xs],h1,fun i e j x hi hj=>?_⟩,fun k u hk=>?_⟩
 ·obtain ⟨u,g1,g2,g3⟩:=hx i e j x hi hj
  have hl:i<es.length:=(List.getElem?_eq_some_iff.1 hi).1
  have hj':j<sz:=by have:=(List.getElem?_eq_some_iff.1 hj).1;rw [h1 e (List.mem_of_getElem? hi)] at this;exact this
  exact ⟨u,by rw [hget _ (yE hl hj'),g1];rfl,g2,g3⟩
 ·have hlt:k<es.length * sz:=by have:=(List.getElem?_eq_some_iff.1 hk).1;simpa [xs] using this
  have hpos:0<sz:=by rcases Nat.eq_zero_or_pos sz with h0|h0;(rw [h0] at hlt;simp at hlt);exact h0
  have hi:k / sz<es.length:=Nat.div_lt_of_lt_mul (by rw [Nat.mul_comm];exact hlt)
  have e1:es[k / sz]?=some es[k / sz]:=List.getElem?_eq_getElem hi
  have e2:(es[k / sz]).cells[k % sz]?=some _:=List.getElem?_eq_getElem (by rw [h1 _ (List.getElem_mem hi)];exact Nat.mod_lt k hpos)
  obtain ⟨v,g1,_,_⟩:=hx _ _ _ _ e1 e2
  rw [show k / sz * sz+k % sz=k by rw [Nat.mul_comm];exact Nat.div_add_mod k sz] at g1
  rw [hget k hlt,g1] at hk
  rw [g1];exact hk
theorem aH.Bj {r:Root} {v:Value} (h:aH T w r sz es v):(es=[]∧∃ xa,v=.slice xa 0 0)∨∃ b c arr E,v=.slice (some ⟨b,0,none⟩) es.length c∧T b=.row r∧w.heap[b]?=some (.cells arr E (0,0))∧arr.size=c * sz∧es.length≤c∧c≤maxLen∧dP (fun b=>T b=.ro) w sz es (arr.toList.take (es.length * sz)):=by
 rcases h with h|⟨b,c,arr,E,h1,h2,h3,h4,h5,h6,h7,h8⟩
 ·exact .inl h
 ·have hm:=Nat.mul_le_mul_right sz h5
  refine .inr ⟨b,c,arr,E,h1,h2,h3,h4,h5,h6,⟨by simp only [List.length_take,Array.length_toList];omega,h7,fun i e j x hi hj=>?_⟩⟩
  obtain ⟨u,g1,g2,g3⟩:=h8 i e j x hi hj
  refine ⟨u,?_,g2,g3⟩
  have hl:i<es.length:=(List.getElem?_eq_some_iff.1 hi).1
  have hj':j<sz:=by have:=(List.getElem?_eq_some_iff.1 hj).1;rw [h7 e (List.mem_of_getElem? hi)] at this;exact this
  rw [List.getElem?_take,if_pos (yE hl hj'),Array.getElem?_toList];exact g1
theorem aH.mk {r:Root} {b c E:Nat} {arr:Array Value} (h2:T b=.row r) (h3:w.heap[b]?=some (.cells arr E (0,0))) (h4:arr.size=c * sz) (h5:es.length≤c) (h6:c≤maxLen) (hx:dP (fun b=>T b=.ro) w sz es xs) (hp:xs <+: arr.toList):aH T w r sz es (.slice (some ⟨b,0,none⟩) es.length c) :=
 .inr ⟨b,c,arr,E,rfl,h2,h3,h4,h5,h6,hx.wid,fun i e j x hi hj=>by
  obtain ⟨u,g1,g2,g3⟩:=hx.rep i e j x hi hj
  obtain ⟨t,ht⟩:=hp
  exact ⟨u,by rw [← Array.getElem?_toList,← ht,List.getElem?_append_left (List.getElem?_eq_some_iff.1 g1).1];exact g1,g2,g3⟩⟩
theorem aI.elems (h:aI L σ T st a w) (hm:aY y x=true) (he:st.elems x=some (sz,ys)):∃ xa c,a.eval y=.slice xa ys.length c∧(0<ys.length→∃ ad zs,xa=some ad∧dP (fun b=>T b=.ro) w sz ys zs∧∀ k u,zs[k]?=some u→w.cell? (ad.add k)=some u):=by
 unfold St.elems at he
 split at he
 case h_1 s l e =>
  simp only [Option.some.injEq,Prod.mk.injEq] at he
  obtain ⟨rfl,rfl⟩:=he
  obtain ⟨xa,c,e1,_,_,k3⟩:=(h.pv hm (show st.dH x=some (.list s l) by simp [St.dH,e])).qy
  refine ⟨xa,c,e1,fun hpos=>?_⟩
  obtain ⟨b,off,rfl,m1,m2,m3,m4⟩:=k3 hpos
  obtain ⟨zs,g1,g2⟩:=dP.VR m3 m4
  exact ⟨_,zs,rfl,g1,fun k u hk=>by rw [Addr.add_lit];exact g2 k u hk⟩
 case h_2 s l e =>
  simp only [Option.some.injEq,Prod.mk.injEq] at he
  obtain ⟨rfl,rfl⟩:=he
  cases x with
  |c v=>simp [St.get] at e
  |nil s' =>
   simp only [St.get,AV.row.injEq] at e
   obtain ⟨rfl,rfl⟩:=e
   rcases h.get hm with ⟨t,e1,_⟩|⟨v',e1,g⟩|⟨s,e1,g⟩
   ·cases e1
   ·cases e1
   ·exact ⟨none,0,g,fun h=>by simp at h⟩
  |t n =>
   obtain ⟨q1,q2,q3⟩:=h.Sr hm e
   obtain ⟨xa,c,e1,k1,k2,k3⟩:=q3.slice
   refine ⟨xa,c,e1,fun hpos=>?_⟩
   obtain ⟨b,rfl,m1,m2,m3,m4⟩:=k3 hpos
   obtain ⟨zs,g1,g2⟩:=dP.VR (off:=0) m3 (fun i e hi=>by rw [Nat.zero_add];exact m4 i e hi)
   exact ⟨_,zs,rfl,g1,fun k u hk=>by rw [Addr.add_lit];exact g2 k u hk⟩
 case h_3 r off len e =>
  split at he
  case h_2=>cases he
  rename_i s l hr
  split at he
  case isFalse=>cases he
  rename_i hl
  simp only [Option.some.injEq,Prod.mk.injEq] at he
  obtain ⟨rfl,rfl⟩:=he
  obtain ⟨xa,n,c,x',m1,m2,m3,m4,m0⟩:=h.N7 hm e s l hr
  obtain ⟨u,m5,m6⟩:=h.sQ hr
  rw [m5] at m1;cases m1
  obtain ⟨xb,c',e3,m7,m8,m9⟩:=m6.slice
  cases e3
  have hlen:((l.drop off).take len).length=len:=by simp;omega
  refine ⟨x',c - off,by rw [hlen];exact m2,fun hpos=>?_⟩
  rw [hlen] at hpos
  obtain ⟨b,hb,q1,q2,q3,q4⟩:=m9 (by omega)
  have hx':x'=some ⟨b,off * s,none⟩:=by rw [m4 hpos,hb];simp [Addr.add_lit]
  obtain ⟨zs,g1,g2⟩:=dP.VR (w:=w) (ok:=fun b=>T b=.ro) (b:=b) (off:=off * s) (es:=(l.drop off).take len) (sz:=s) (fun el he=>q3 el (List.mem_of_mem_drop (List.mem_of_mem_take he))) (fun i el hi=>by
   rw [List.getElem?_take] at hi
   split at hi
   ·rw [List.getElem?_drop] at hi
    have:=q4 _ _ hi
    rwa [show off * s+i * s=(off+i) * s by rw [Nat.add_mul]]
   ·cases hi)
  exact ⟨_,zs,hx',g1,fun k u hk=>by rw [Addr.add_lit];exact g2 k u hk⟩
 case h_4=>cases he
end
end Go.Proofs.YtaaokejjmdbfaaaDoor

namespace Go.Proofs.YtaaokejjmdbfaaaDoor
open Go.RowKit
section
variable {P:Program} {L:Nat} {σ σ':Nat→Nat} {T T':Tags} {st st' st1:St} {a:Act} {w w1:World} {o:Oper} {d n:Nat} {x x2:bP} {y y2:Operand} {ok:Nat→Prop} {sz:Nat} {es ys:List PV} {xs zs:List Value}
 {rec:ak→St→Option (Ex × St)} {env:Env}
def qR (P:Program) (T0 sz:Nat):Bool :=
 match lU P T0 with
 |some e=>match P.info? e with
  |some i=>i.size==sz&&decide (0<sz)&&(match i.zero with|some z=>z.cells.size==sz|none=>false)&&decide (i.bytes≤131072)
  |none=>false
 |none=>false
theorem uQ {T0:Nat} (h:qR P T0 sz=true):∃ e i z,P.underlying T0=some (.slice e)∧P.info? e=some i∧i.size=sz∧0<sz∧i.zero=some z∧z.cells.size=sz∧i.bytes≤131072:=by
 unfold qR at h
 split at h
 case h_2=>cases h
 rename_i e he
 split at h
 case h_2=>cases h
 rename_i i hi
 simp only [Bool.and_eq_true,beq_iff_eq,decide_eq_true_eq] at h
 obtain ⟨⟨⟨h1,h2⟩,h3⟩,h4⟩:=h
 split at h3
 case h_2=>cases h3
 rename_i z hz
 exact ⟨e,i,z,uI he,hi,h1,h2,hz,beq_iff_eq.1 h3,h4⟩
theorem aI.QD (h:aI L σ T st a w) {c E:Nat} {arr:Array Value} (h1:arr.size=c * sz) (h2:es.length≤c) (h3:c≤maxLen) (hx:dP (fun b=>T b=.ro) w sz es xs) (hp:xs <+: arr.toList) :
  aI L σ (upd T w.heap.size (.row (.slot d))) (st.putRow d sz es) (a.put (some d) (.slice (some ⟨w.heap.size,0,none⟩) es.length c)) (w.alloc (.cells arr E)) :=
 h.J3 h1 h2 h3 hx.wid (fun i e j x hi hj=>by
  obtain ⟨u,g1,g2,g3⟩:=hx.rep i e j x hi hj
  obtain ⟨t,ht⟩:=hp
  exact ⟨u,by rw [← Array.getElem?_toList,← ht,List.getElem?_append_left (List.getElem?_eq_some_iff.1 g1).1];exact g1,g2,g3⟩)
theorem DV {z:PV} {zv:Value} (hz:Cells ok w z.cells zv.cells) (hpos:0<z.cells.length) (n m:Nat) (hn:n≤m):dP ok w z.cells.length (List.replicate n z) ((madeCells zv.cells (m * z.cells.length)).toList.take (n * z.cells.length)):=by
 have hsz:=hz.size
 refine ⟨?_,fun e he=>by rw [List.eq_of_mem_replicate he],fun i e j x hi hj=>?_⟩
 ·simp only [List.length_take,Array.length_toList,size_madeCells,List.length_replicate]
  exact Nat.min_eq_left (Nat.mul_le_mul_right _ hn)
 ·rw [List.getElem?_replicate] at hi
  split at hi
  case isFalse=>cases hi
  rename_i hin
  cases hi
  have hj':j<z.cells.length:=(List.getElem?_eq_some_iff.1 hj).1
  have hlt:=yE hin hj'
  have hlt2:i * z.cells.length+j<m * z.cells.length:=yE (by omega) hj'
  have e2:zv.cells[j]?=some zv.cells[j]:=Array.getElem?_eq_getElem (by omega)
  refine ⟨zv.cells[j],?_,hz.one j _ e2,hz.rep j x _ hj e2⟩
  rw [List.getElem?_take,if_pos hlt,Array.getElem?_toList]
  simp only [madeCells,Array.getElem?_map,Array.getElem?_range,hlt2,if_true,Option.map_some]
  have hmod:(i * z.cells.length+j) % zv.cells.size=j:=by rw [hsz,Nat.mul_comm,Nat.mul_add_mod,Nat.mod_eq_of_lt hj']
  rw [hmod,getElem!_pos zv.cells j (by omega)]
theorem SG {T0 e:Nat} {z:PV} (h:aI L σ T st a w) (hd:o.dst=some d) (ho:o.op=.makeSlice T0 y y2) (hm:aY y x=true) (hm2:aY y2 x2=true) (he:qR P T0 z.cells.length=true) (hse:lU P T0=some e) (hz:pX P e z.cells=true)
  (hp:act rec env (.make d z x x2) st=some st'):Does P L σ T st.boxes.length st' a w o true:=by
 simp only [act] at hp
 obtain ⟨v1,h1,hp⟩:=bind_some hp
 cases v1<;>simp only [reduceCtorEq] at hp
 rename_i k m
 obtain ⟨v2,h2,hp⟩:=bind_some hp
 cases v2<;>simp only [reduceCtorEq] at hp
 rename_i l c
 split at hp
 case isFalse=>cases hp
 rename_i hc
 obtain ⟨c1,c2,c3⟩:=hc
 have hp:=Option.some.inj hp
 subst hp
 obtain ⟨e',i,zv,g1,g2,g3,g4,g5,g6,g7⟩:=uQ he
 have hee:e'=e:=by
  have:=uI hse
  rw [g1] at this
  injection this with this
  injection this
 subst hee
 have hzc:Cells (fun b=>T b=.ro) w z.cells zv.cells:=by
  unfold pX at hz
  rw [g2] at hz
  simp only [g5] at hz
  exact nS hz _ _
 have e1:=(h.pv hm h1).bV
 have e2:=(h.pv hm2 h2).bV
 unfold lim at c3
 obtain ⟨m,rfl⟩:=Int.eq_ofNat_of_zero_le c1
 obtain ⟨c,rfl⟩:=Int.eq_ofNat_of_zero_le (Int.le_trans c1 c2)
 have hb:(i.bytes:Int) * (c:Int)≤281474976710656:=by
  have h1:i.bytes * c≤131072 * 1073741824:=Nat.mul_le_mul g7 (by omega)
  have h2:((i.bytes * c:Nat):Int)≤281474976710656:=by omega
  rwa [Int.natCast_mul] at h2
 have hr:=run_make (P:=P) w T0 _ i zv g1 g2 g5 k l m c c1 c2 hb (by omega)
 simp only [Int.toNat_natCast] at hr
 refine ⟨_,.slice (some ⟨w.heap.size,0,none⟩) m c,w.alloc (.cells (madeCells zv.cells (c * i.size)) e'),σ,upd T w.heap.size (.row (.slot d)),?_,.inl rfl,?_,kQ (h.fresh _ (Nat.le_refl _)) _ _,fun k _=>rfl,fun _=>jI _ _⟩
 ·simp [execOp,ho,e1,e2,hr]
 ·rw [hd,Int.toNat_natCast]
  have:=h.QD (d:=d) (E:=e') (arr:=madeCells zv.cells (c * i.size)) (sz:=z.cells.length) (es:=List.replicate m z) (c:=c) (by rw [size_madeCells,g3]) (by simp;omega) (by unfold maxLen;omega)
   (DV hzc g4 m c (by omega)) (by rw [g3];exact List.take_prefix _ _)
  rwa [List.length_replicate] at this
theorem run_append_room' (w:World) (t ty e tb:TypeId) (i:TypeInfo) (ht:P.underlying t=some (.slice e)) (hi:P.info? e=some i)
  (g sLen sCap:Nat) (cur:Array Value) (hg:w.heap[g]?=some (.cells cur tb (0,0)))
  (a:Addr) (m c:Nat) (news:List Value) (hl:news.length=m * i.size) (hnews:∀ j u,news[j]?=some u→w.cell? (a.add j)=some u) (h1:∀ u∈news,u.oneCell'=true)
  (hroom:sLen+m≤sCap) (hfit:sLen * i.size+news.length≤cur.size) :
  (Builtin.append_ #[t,t] ty #[.slice (some ⟨g,0,none⟩) sLen sCap,.slice (some a) m c]).run P w =
   .ok (.slice (some ⟨g,0,none⟩) (sLen+m) sCap) (w.setRow g (cur.toList.take (sLen * i.size)++news++cur.toList.drop (sLen * i.size+news.length)).toArray):=by
 have hf:=run_firstCells_some (P:=P) w i.size m a m c news hl hnews
 have hst:=run_storeCells_at P g (sLen * i.size) tb news 0 cur w hg (by simpa using hfit) h1
 simp only [Nat.add_zero] at hst
 simp [Builtin.append_,run_underlying ht,sizeOf,typeInfo,hi,Builtin.lenOf,hroom,hf,Addr.add_lit,hst]
theorem zO (w:World) (t ty e:TypeId) (i:TypeInfo) (ht:P.underlying t=some (.slice e)) (hi:P.info? e=some i) (xb ya:Option Addr) (sLen sCap c:Nat) (h:sLen≤sCap) :
  (Builtin.append_ #[t,t] ty #[.slice xb sLen sCap,.slice ya 0 c]).run P w=.ok (.slice xb sLen sCap) w:=by
 have h0:(Builtin.firstCells i.size 0 (.slice ya 0 c)).run P w=.ok #[] w:=by
  cases ya with
  |none=>exact run_firstCells_none w _ _ _ _
  |some ad=>exact run_firstCells_some w i.size 0 ad 0 c [] (by simp) (fun j v hj=>by simp at hj)
 cases xb<;>simp [Builtin.append_,run_underlying ht,sizeOf,typeInfo,hi,Builtin.lenOf,h,h0,storeCells]
theorem wu {ρ:Operand→Value} {T0:TypeId} {v u:Value} {r:Value} (ho:o.op=.call { callee:=.builtin .append,args:=#[y,y2],argTypes:=#[T0,T0] }) (h1:ρ y=v) (h2:ρ y2=u) (hr:(Builtin.append_ #[T0,T0] o.type #[v,u]).run P w=.ok r w1):(execOp ρ o).run P w=.ok (.value r) w1:=by
 simp [execOp,ho,resolve,invoke,builtin,h1,h2,hr]
theorem aI.grab (h:aI L σ T st a w) (hm:aY y x=true) (hc:st.grab x=some (sz,es,st1)):aI L σ T st1 a w∧st1.boxes.length=st.boxes.length∧∃ r v es0 c xa,aH T w r sz es0 v∧es=es0.take es.length∧v=.slice xa es0.length c∧a.eval y=.slice xa es.length c ∧
  (∀ t s l,st1.slots[t]?=some (.row s l)→r≠.slot t)∧(∀ (t i:Nat),r≠.part t i)∧(∀ p q bx s l,st1.boxes[p]?=some bx→bx.cs[q]?=some (.row s l)→r≠.cell p q):=by
 cases x with
 |c v=>simp [St.grab] at hc
 |nil s =>
  simp only [St.grab,Option.some.injEq,Prod.mk.injEq] at hc
  obtain ⟨rfl,rfl,rfl⟩:=hc
  have e1:a.eval y=.slice none 0 0:=by
   rcases h.get hm with ⟨t,e,_⟩|⟨v',e,_⟩|⟨s,_,g⟩
   ·cases e
   ·cases e
   ·exact g
  refine ⟨h,rfl,.slot st.slots.length,.slice none 0 0,[],0,none,aH.nil _ _ _ _ _,rfl,rfl,e1,fun t s l ht e=>?_,by simp,by simp⟩
  cases e
  rw [List.getElem?_eq_none (Nat.le_refl _)] at ht;cases ht
 |t n =>
  simp only [St.grab] at hc
  split at hc
  case h_1 s l e =>
   simp only [Option.some.injEq,Prod.mk.injEq] at hc
   obtain ⟨rfl,rfl,rfl⟩:=hc
   obtain ⟨q1,q2,q3⟩:=h.Sr hm e
   obtain ⟨xa,c,e1,_⟩:=q3.slice
   refine ⟨h.forget n,rfl,.slot n,_,_,c,xa,q3,by simp,e1,e1,fun t s' l' ht e=>?_,by simp,by simp⟩
   cases e
   simp only [St.put,List.getElem?_set,if_true] at ht
   split at ht<;>cases ht
  case h_3 s e =>
   simp only [Option.some.injEq,Prod.mk.injEq] at hc
   obtain ⟨rfl,rfl,rfl⟩:=hc
   have e2:st.dH (.t n)=some (.kU s):=by unfold St.dH;rw [show st.get (.t n)=.pv (.kU s) from e]
   have hr:=h.pv hm e2
   obtain ⟨xa,hx⟩:∃ xa,a.eval y=.slice xa 0 0:=by
    generalize a.eval y=u at hr
    cases hr with
    |kU _ xa=>exact ⟨xa,rfl⟩
   refine ⟨h,rfl,.slot st.slots.length,.slice xa 0 0,[],0,xa,.inl ⟨rfl,xa,rfl⟩,rfl,rfl,hx,fun t s l ht e=>?_,by simp,by simp⟩
   cases e
   rw [List.getElem?_eq_none (Nat.le_refl _)] at ht;cases ht
  case h_2 r len e =>
   split at hc
   case h_2=>cases hc
   rename_i s l hr
   split at hc
   case isFalse=>cases hc
   rename_i hl
   simp only [Option.some.injEq,Prod.mk.injEq] at hc
   obtain ⟨rfl,rfl,rfl⟩:=hc
   have e0:st.get (.t n)=.ref r 0 len:=e
   obtain ⟨xa,m,c,x',m1,m2,m3,_⟩:=h.N7 hm e0 s l hr
   obtain ⟨u,m5,m6⟩:=h.sQ hr
   rw [m5] at m1;cases m1
   obtain ⟨xb,c',e3,_⟩:=m6.slice
   cases e3
   have hlen:(l.take len).length=len:=by simp;omega
   have h2:a.eval y=.slice xa (l.take len).length c:=by rw [hlen,m2,m3 rfl,Nat.sub_zero]
   have key:aI L σ T (st.takeRow r) a w∧(st.takeRow r).boxes.length=st.boxes.length∧(∀ t s l,(st.takeRow r).slots[t]?=some (.row s l)→r≠.slot t)∧(∀ (t i:Nat),r≠.part t i)∧(∀ p q bx s l,(st.takeRow r).boxes[p]?=some bx→bx.cs[q]?=some (.row s l)→r≠.cell p q):=by
    cases r with
    |part t i=>simp [St.row] at hr
    |slot t =>
     refine ⟨h.forget t,rfl,fun t' s' l' ht e=>?_,by simp,by simp⟩
     cases e
     simp only [St.takeRow,St.put,List.getElem?_set,if_true] at ht
     split at ht<;>cases ht
    |cell p q =>
     obtain ⟨bx,hb,hf,hq⟩:=dO hr
     have hst:st.takeRow (.cell p q)={ st with boxes:=st.boxes.set p { bx with cs:=bx.cs.set q (.pv .void) } }:=by simp [St.takeRow,St.setCell,hb]
     have hpl:p<st.boxes.length:=(List.getElem?_eq_some_iff.1 hb).1
     rw [hst]
     refine ⟨⟨h.size,fun t x u hx hu=>?_,fun p' bx' ho=>?_,h.fresh⟩,by simp,by simp,by simp,fun p' q' bx' s' l' ho hj e=>?_⟩
     ·refine (h.slots t x u hx hu).keep (fun b e _=>⟨e,rfl⟩) (fun _ _ _ b e _=>⟨e,rfl⟩) (fun _ _ _ _ b e _=>⟨e,rfl⟩) (fun r' hr' _ s l e=>⟨?_,rfl⟩) (by simp) (fun _ _=>rfl)
      cases r' with
      |slot t'=>exact ⟨l,e⟩
      |part t' i=>exact ⟨l,e⟩
      |cell o j =>
       simp only [St.row,List.getElem?_set] at e ⊢
       by_cases hop:p=o
       ·subst hop
        simp only [if_true,if_pos hpl,hf,Bool.false_eq_true,if_false,List.getElem?_set] at e
        simp only [hb,hf,Bool.false_eq_true,if_false]
        by_cases hqj:q=j
        ·subst hqj
         simp only [if_true] at e
         split at e
         ·rename_i hh;split at hh<;>cases hh
         ·cases e
        ·simp only [if_neg hqj] at e;exact ⟨l,e⟩
       ·simp only [if_neg hop] at e;exact ⟨l,e⟩
     ·rw [List.getElem?_set] at ho
      by_cases hop:p=p'
      ·subst hop
       simp only [if_true,if_pos hpl,Option.some.injEq] at ho
       subst ho
       obtain ⟨arr,E,h1,h2,h3,h4,h5⟩:=h.boxes p bx hb
       refine ⟨arr,E,h1,by simpa using h2,h3,by simp [hf],?_⟩
       intro j bv u hj hu
       have hj:(bx.cs.set q (.pv .void))[j]?=some bv:=hj
       rw [List.getElem?_set] at hj
       by_cases hqj:q=j
       ·subst hqj
        simp only [if_true] at hj
        split at hj
        ·cases hj
         obtain ⟨g1,_⟩:=h5 q _ u hq hu
         exact ⟨g1,.void _ g1⟩
        ·cases hj
       ·rw [if_neg hqj] at hj
        exact h5 j bv u hj hu
      ·rw [if_neg hop] at ho
       exact h.boxes p' bx' ho
     ·cases e
      rw [List.getElem?_set,if_pos rfl,if_pos hpl] at ho
      cases ho
      have hj:(bx.cs.set q (.pv .void))[q]?=some _:=hj
      rw [List.getElem?_set,if_pos rfl] at hj
      split at hj<;>cases hj
   obtain ⟨k1,k2,k3,k4,k5⟩:=key
   exact ⟨k1,k2,r,_,l,c,xa,m6,by rw [hlen],rfl,h2,k3,k4,k5⟩
  case h_4=>cases hc
end
end Go.Proofs.YtaaokejjmdbfaaaDoor

namespace Go.Proofs.YtaaokejjmdbfaaaDoor
open Go.RowKit
section
variable {P:Program} {L:Nat} {σ σ':Nat→Nat} {T T':Tags} {st st' st1:St} {a:Act} {w w1:World} {o:Oper} {d n:Nat} {x x2:bP} {y y2:Operand} {ok:Nat→Prop} {sz:Nat} {es ys:List PV} {xs zs:List Value}
 {rec:ak→St→Option (Ex × St)} {env:Env}
structure Ob (st:St) (r:Root):Prop where
 slot:∀ (t:Nat) s l,st.slots[t]?=some (.row s l)→r≠.slot t
 part:∀ (t i:Nat),r≠.part t i
 cell:∀ (p q:Nat) bx s l,st.boxes[p]?=some bx→bx.cs[q]?=some (.row s l)→r≠.cell p q
def gone (T:Tags) (r:Root):Tags:=fun b=>if T b=.row r then .other else T b
theorem jl {r:Root} {b:Nat} {q:vI} (hq:q≠.row r) (h:T b=q):gone T r b=q:=by
 unfold gone;rw [if_neg (by rw [h];exact hq)];exact h
theorem Gv {r:Root} {b:Nat} (h:T b=.row r):gone T r b=.other:=by unfold gone;rw [if_pos h]
theorem aI.VT (h:aI L σ T st a w) {r:Root} (hr:Ob st r):aI L σ (gone T r) st a w:=by
 have hw:∀ b,T b=.ro→b<w.heap.size→gone T r b=.ro∧w.heap[b]?=w.heap[b]?:=fun b e _=>⟨jl (by simp) e,rfl⟩
 refine ⟨h.size,fun t x u hx hu=>?_,fun p bx ho=>?_,fun b hb=>jl (by simp) (h.fresh b hb)⟩
 ·refine (h.slots t x u hx hu).keep hw (fun s l e b hb _=>⟨jl (fun e2=>hr.slot t s l (by rw [hx,e]) (by injection e2 with e2;exact e2.symm)) hb,rfl⟩) (fun l e i _ b hb _=>⟨jl (fun e2=>hr.part t i (by injection e2 with e2;exact e2.symm)) hb,rfl⟩) (fun q hq _ s l e=>⟨⟨l,e⟩,rfl⟩) (Nat.le_refl _) (fun _ _=>rfl)
 ·obtain ⟨arr,E,h1,h2,h3,h4,h5⟩:=h.boxes p bx ho
  refine ⟨arr,E,h1,h2,?_,h4,fun j bv u hj hu=>?_⟩
  ·split
   ·rename_i hf;exact jl (by simp) (by rw [h3,if_pos hf])
   ·rename_i hf;exact jl (by simp) (by rw [h3,if_neg hf])
  ·obtain ⟨g1,g2⟩:=h5 j bv u hj hu
   refine ⟨g1,?_⟩
   cases bv with
   |pv v=>exact ay.frame hw g2
   |row s l=>exact aH.frame (fun b e _=>⟨jl (fun e2=>hr.cell p j bx s l ho hj (by injection e2 with e2;exact e2.symm)) e,rfl⟩) hw g2
theorem aH.take {r:Root} {xa:Option Addr} {c:Nat} (h:aH T w r sz es (.slice xa es.length c)) (k:Nat):aH T w r sz (es.take k) (.slice xa (es.take k).length c):=by
 rcases h.Bj with ⟨rfl,x,e⟩|⟨b,c',arr,E,e,h2,h3,h4,h5,h6,h7⟩
 ·injection e with e1 e2 e3
  subst e1;subst e3
  rw [List.take_nil]
  exact aH.nil _ _ _ _ _
 ·injection e with e1 e2 e3
  subst e1;subst e3
  exact aH.mk h2 h3 h4 (Nat.le_trans (List.length_take_le' _ _) h5) h6 (h7.take k) (by rw [List.take_take];exact List.take_prefix _ _)
theorem J4 {r:Root} {b:Nat} (hT:T b=.row r) (cs:Array Value):oU (gone T r) w (w.setRow b cs) :=
 ⟨by simp [World.setRow],fun c hc _=>setRow_other w b c cs (fun e=>by subst e;exact hc (Gv hT))⟩
theorem SH {T0:TypeId} (h:aI L σ T st a w) (hd:o.dst=some d) (ho:o.op=.call { callee:=.builtin .append,args:=#[y,y2],argTypes:=#[T0,T0] }) (hm:aY y x=true) (hm2:aY y2 x2=true) {sy:Nat} (he:qR P T0 sy=true)
  {es ys:List PV} {st1:St} (h1:st.elems x2=some (sy,ys)) (h2:st.grab x=some (sy,es,st1)) (hlim:es.length+ys.length≤5864062014805) (hB:∀ e i,P.underlying T0=some (.slice e)→P.info? e=some i→(es.length+ys.length) * i.bytes≤140737488355328) :
  Does P L σ T st.boxes.length (st1.putRow d sy (es++ys)) a w o false:=by
 obtain ⟨e,i,z,g1,g2,g3,g4,g5,g6,g7⟩:=uQ he
 obtain ⟨ya,yc,e1,e2⟩:=h.elems hm2 h1
 obtain ⟨k1,k2,r,v,es0,c,xa,k3,k4,k5,k6,k7,k8,k9⟩:=h.grab hm h2
 have hun:Ob st1 r:=⟨k7,k8,k9⟩
 have hlen:es.length≤es0.length:=by rw [k4];exact List.length_take_le' _ _
 subst k5
 have hrow:=k3.take es.length
 rw [← k4] at hrow
 have hcc:es.length≤c∧c≤maxLen:=by obtain ⟨_,_,e3,q1,q2,_⟩:=hrow.slice;injection e3 with _ _ e3;omega
 have hS:=k1.VT hun
 by_cases hm0:ys.length=0
 ·-- nothing is appended
  have hy0:ys=[]:=List.eq_nil_of_length_eq_zero hm0
  subst hy0
  refine ⟨_,_,w,σ,moved T r (.slot d),wu ho k6 e1 (zO w T0 _ e i g1 g2 xa ya es.length c yc hcc.1),.inl rfl,?_,(Still.moved T r (.slot d)).nC w,fun _ _=>rfl,fun e=>by cases e⟩
  rw [hd,List.append_nil]
  refine hS.putRow (aH.frame (fun b e _=>⟨nY e,rfl⟩) (fun b e _=>⟨gI e,rfl⟩) hrow) (fun b e=>?_) (fun b o e=>?_) (fun b hb=>jG (h.fresh b hb)) (fun t s l ht hs b e=>?_) (fun t j l ht hs hj b e=>?_) (fun o j b e=>?_)
  ·unfold gone at e;split at e;cases e;exact gI e
  ·unfold gone at e;split at e;cases e;exact lT e
  ·unfold gone at e;split at e;cases e;exact dM (Ne.symm (hun.slot t s l hs)) (by simpa using ht) e
  ·unfold gone at e;split at e;cases e;exact dM (Ne.symm (hun.part t j)) (by simp) e
  ·unfold gone at e;split at e;cases e
   rename_i hne
   exact dM (fun e2=>hne (by rw [e,e2])) (by simp) e
 ·obtain ⟨ad,zs,rfl,e3,e4⟩:=e2 (by omega)
  have hzl:zs.length=ys.length * i.size:=by rw [g3];exact e3.len
  by_cases hroom:es.length+ys.length≤c
  ·-- there is room
   rcases hrow.Bj with ⟨_,x0,ex⟩|⟨b,c',arr,E,ex,q2,q3,q4,q5,q6,q7⟩
   ·injection ex with _ _ ex;omega
   ·injection ex with VU _ ex3
    subst VU;subst ex3
    have hfit:es.length * i.size+zs.length≤arr.size:=by rw [hzl,q4,g3,← Nat.add_mul];exact Nat.mul_le_mul_right _ hroom
    have hr:=run_append_room' (P:=P) w T0 o.type e E i g1 g2 b es.length c arr q3 ad ys.length yc zs hzl e4 e3.one hroom hfit
    obtain ⟨arr',harr⟩:∃ arr',arr'=(arr.toList.take (es.length * i.size)++zs++arr.toList.drop (es.length * i.size+zs.length)).toArray:=⟨_,rfl⟩
    rw [← harr] at hr
    have hT1:∀ b',upd (gone T r) b (.row (.slot d)) b'=.row (.slot d)∨upd (gone T r) b (.row (.slot d)) b'=gone T r b':=fun b'=>by
     by_cases e:b'=b
     ·subst e;exact .inl Gu
     ·exact .inr (upd_ne e)
    have hgb:gone T r b=.other:=Gv q2
    have hne:∀ c p,p≠.other→gone T r c=p→upd (gone T r) b (.row (.slot d)) c=p:=fun c p hp e=>by rw [upd_ne (fun e2=>by subst e2;rw [hgb] at e;exact hp e.symm)];exact e
    have hbl:b<w.heap.size:=(Array.getElem?_eq_some_iff.1 q3).1
    refine ⟨_,_,w.setRow b arr',σ,upd (gone T r) b (.row (.slot d)),wu ho k6 e1 hr,.inl rfl,?_,?_,fun _ _=>rfl,fun e=>by cases e⟩
    ·rw [hd]
     have hS1:=hS.sees (J4 q2 arr')
     have hsame:∀ b',T b'=.ro→b'<w.heap.size→upd (gone T r) b (.row (.slot d)) b'=.ro∧(w.setRow b arr').heap[b']?=w.heap[b']?:=fun b' e _=>⟨hne b' _ (by simp) (jl (by simp) e),setRow_other w b b' arr' (fun e2=>by subst e2;rw [q2] at e;cases e)⟩
     have hnew:=(q7.frame hsame).append (e3.frame hsame)
     rw [← List.length_append]
     refine hS1.putRow (aH.mk (c:=c) (E:=E) (arr:=arr') Gu (setRow_heap w b arr arr' E (0,0) q3) ?_ (by simpa using hroom) q6 hnew ?_) (fun b' e=>hne b' _ (by simp) e) (fun b' o e=>hne b' _ (by simp) e) (fun b' hb'=>?_) (fun t s l ht hs b' e=>hne b' _ (by simp) e) (fun t j l ht hs hj b' e=>hne b' _ (by simp) e) (fun o j b' e=>hne b' _ (by simp) e)
     ·rw [harr];simp only [List.size_toArray,List.length_append,List.length_take,List.length_drop,Array.length_toList];omega
     ·rw [harr,g3];exact ⟨_,rfl⟩
     ·rw [show (w.setRow b arr').heap.size=w.heap.size by simp [World.setRow]] at hb'
      rw [upd_ne (by omega)];exact jl (by simp) (h.fresh b' hb')
    ·refine ⟨by simp [World.setRow],rfl,rfl,rfl,fun b' _ e=>setRow_other w b b' arr' (fun e2=>by subst e2;rw [q2] at e;rcases e with e|e<;>cases e),fun b' e=>hne b' _ (by simp) (jl (by simp) e),fun b' _ e=>?_⟩
     rw [upd_ne (fun e2=>by subst e2;rw [q2] at e;cases e)];exact jl (by simp) e
  ·-- a new row
   have hbytes:(es.length+ys.length) * i.bytes≤140737488355328:=hB e i g1 g2
   have hsm:es.length+ys.length≤maxLen:=by unfold maxLen;omega
   have hold:∃ olds,dP (fun b=>T b=.ro) w sy es olds∧∀ (ad:Addr),xa=some ad→∀ j u,olds[j]?=some u→w.cell? (ad.add j)=some u:=by
    rcases hrow.Bj with ⟨e0,x0,ex⟩|⟨b,c',arr,E,ex,q2,q3,q4,q5,q6,q7⟩
    ·rw [e0];exact ⟨[],dP.nil _ _ _,fun ad _ j u hj=>by simp at hj⟩
    ·injection ex with VU _ _
     refine ⟨_,q7,fun ad' hx j u hj=>?_⟩
     rw [VU] at hx;cases hx
     rw [Addr.add_lit,Nat.zero_add,cell_of_row w b j arr E (0,0) q3]
     rw [List.getElem?_take] at hj
     split at hj
     ·simpa using hj
     ·cases hj
   obtain ⟨olds,o1,o2⟩:=hold
   have hdr:aI L σ T st1 a w.drew:=k1.sees ⟨Nat.le_refl _,fun _ _ _=>rfl⟩
   have hcap:=grownCap_ge w (es.length+ys.length) c e
   have hcm:grownCap w (es.length+ys.length) c e≤maxLen:=grownCap_le_maxLen w (es.length+ys.length) c e hsm
   obtain ⟨G,hG⟩:∃ G,G=grownCap w (es.length+ys.length) c e:=⟨_,rfl⟩
   have hr:(Builtin.append_ #[T0,T0] o.type #[.slice xa es.length c,.slice (some ad) ys.length yc]).run P w=.ok (.slice (some ⟨w.heap.size,0,none⟩) (es.length+ys.length) G) (w.drew.alloc (.cells (olds.toArray++zs.toArray++Builtin.zeroCells z.cells (G - (es.length+ys.length))) e)):=by
    rw [hG]
    cases xa with
    |none =>
     have he0:es.length=0∧c=0:=by
      rcases hrow.Bj with ⟨e0,x0,ex⟩|⟨b,c',arr,E,ex,_⟩
      ·injection ex with _ ex2 ex3;exact ⟨ex2,ex3⟩
      ·injection ex with VU _ _;cases VU
     obtain ⟨e01,e02⟩:=he0
     have hol:olds=[]:=List.eq_nil_of_length_eq_zero (by rw [o1.len,e01,Nat.zero_mul])
     subst hol
     subst e02
     have:=run_append_nil (P:=P) w T0 o.type e i z g1 g2 g5 ad ys.length yc zs hzl e4 (by omega) (by omega) (by rw [e01,Nat.zero_add] at hbytes;omega)
     rw [e01,Nat.zero_add]
     simpa using this
    |some ab=>exact run_append_grow (P:=P) w T0 o.type e i z g1 g2 g5 ab es.length c olds (by rw [g3];exact o1.len) (o2 ab rfl) ad ys.length yc zs hzl e4 (by omega) (by omega) (growslice_fits (by omega) hbytes)
   refine ⟨_,_,_,σ,upd T w.heap.size (.row (.slot d)),wu ho k6 e1 hr,.inl rfl,?_,?_,fun _ _=>rfl,fun e=>by cases e⟩
   ·rw [hd]
    have hxs:=o1.append e3
    have key:=hdr.QD (d:=d) (E:=e) (c:=G) (arr:=olds.toArray++zs.toArray++Builtin.zeroCells z.cells (G - (es.length+ys.length))) (by
     simp only [Array.size_append,List.size_toArray,size_zeroCells,g6,o1.len,e3.len,← Nat.add_mul]
     congr 1;omega) (by rw [List.length_append];omega) (by omega) (hxs.frame fun b e _=>⟨e,rfl⟩) ⟨_,by simp only [Array.toList_append];rfl⟩
    rw [List.length_append] at key
    exact key
   ·have:=kQ (w:=w.drew) (T:=T) (hdr.fresh _ (Nat.le_refl _)) (.cells (olds.toArray++zs.toArray++Builtin.zeroCells z.cells (G - (es.length+ys.length))) e) (.row (.slot d))
    exact (show uG T T w w.drew from ⟨Nat.le_refl _,rfl,rfl,rfl,fun _ _ _=>rfl,fun _ e=>e,fun _ _ e=>e⟩).trans this
theorem VW {T0:TypeId} (h:aI L σ T st a w) (hd:o.dst=some d) (ho:o.op=.call { callee:=.builtin .append,args:=#[y,y2],argTypes:=#[T0,T0] }) (hm:aY y x=true) (hm2:aY y2 x2=true) (he:qR P T0 sz=true)
  (hp:act rec env (.app d sz x x2) st=some st'):Does P L σ T st.boxes.length st' a w o false:=by
 simp only [act] at hp
 obtain ⟨⟨sy,ys⟩,h1,hp1⟩:=bind_some hp
 clear hp
 obtain ⟨⟨sx,es,st1⟩,h2,hp2⟩:=bind_some hp1
 clear hp1
 simp only at hp2
 split at hp2
 case isFalse=>cases hp2
 rename_i hc
 obtain ⟨rfl,rfl,hlim⟩:=hc
 have hp:=Option.some.inj hp2
 clear hp2
 subst hp
 unfold lim at hlim
 obtain ⟨e,i,z,g1,g2,g3,g4,g5,g6,g7⟩:=uQ he
 refine SH h hd ho hm hm2 he h1 h2 (by omega) fun e' i' q1 q2=>?_
 rw [g1] at q1;cases q1
 rw [g2] at q2;cases q2
 exact Nat.le_trans (Nat.mul_le_mul hlim g7) (by omega)
end
end Go.Proofs.YtaaokejjmdbfaaaDoor

namespace Go.Proofs.YtaaokejjmdbfaaaDoor
open Go.RowKit
section
variable {P:Program} {L:Nat} {σ σ':Nat→Nat} {T T':Tags} {st st' st1:St} {a:Act} {w w1:World} {o:Oper} {d n:Nat} {x x2:bP} {y y2:Operand} {ok:Nat→Prop} {sz:Nat} {es es' ys:List PV} {xs zs:List Value}
 {rec:ak→St→Option (Ex × St)} {env:Env}
theorem aI.VX (h:aI L σ T st a w) {r:Root} (hr:st.row r=some (sz,es)) {b c E:Nat} {arr arr':Array Value} (hv:hdr σ a w r=some (.slice (some ⟨b,0,none⟩) es.length c)) (hT:T b=.row r) (hb:w.heap[b]?=some (.cells arr E (0,0)))
  (hs:arr'.size=arr.size) (hl:es'.length=es.length) (hrep:aH T (w.setRow b arr') r sz es' (.slice (some ⟨b,0,none⟩) es'.length c)):aI L σ T (st.setRow r sz es') a (w.setRow b arr')∧uG T T w (w.setRow b arr'):=by
 have hoth:∀ q,q≠.row r→∀ b',T b'=q→(w.setRow b arr').heap[b']?=w.heap[b']?:=fun q hq b' e=>setRow_other w b b' arr' (fun e2=>by subst e2;rw [hT] at e;exact hq e.symm)
 have hw:∀ b',T b'=.ro→b'<w.heap.size→T b'=.ro∧(w.setRow b arr').heap[b']?=w.heap[b']?:=fun b' e _=>⟨e,hoth _ (by simp) b' e⟩
 have hsz:(w.setRow b arr').heap.size=w.heap.size:=by simp [World.setRow]
 have hbox:∀ p bx,st.boxes[p]?=some bx→(w.setRow b arr').heap[σ p]?=w.heap[σ p]?:=fun p bx hp=>by
  obtain ⟨_,_,_,_,h3,_⟩:=h.boxes p bx hp
  refine hoth _ ?_ _ h3
  split<;>simp
 have J5:∀ q s l,st.row q=some (s,l)→hdr σ a (w.setRow b arr') q=hdr σ a w q:=fun q s l e=>by
  cases q with
  |slot t=>rfl
  |part t i=>rfl
  |cell p j =>
   obtain ⟨bx,h1,_⟩:=dO e
   exact World.cell?_of_block (w:=w) (a:=⟨σ p,j,none⟩) (hbox p bx h1)
 refine ⟨?_,⟨by omega,rfl,rfl,rfl,fun b' _ e=>?_,fun _ e=>e,fun _ _ e=>e⟩⟩
 ·cases r with
  |part t i=>simp [St.row] at hr
  |slot t =>
   have hst:=fO hr
   have htl:=(List.getElem?_eq_some_iff.1 hst).1
   have hrow:∀ q s l,(st.put t (.row sz es')).row q=some (s,l)→∃ l0,st.row q=some (s,l0):=fun q s l e=>by
    by_cases hq:q=.slot t
    ·subst hq
     have e2:=fO e
     simp only [St.put,List.getElem?_set,if_true,if_pos htl,Option.some.injEq,AV.row.injEq] at e2
     obtain ⟨rfl,rfl⟩:=e2
     exact ⟨es,hr⟩
    ·rw [gu hq] at e;exact ⟨l,e⟩
   refine ⟨by simp [St.setRow,St.put,h.size],fun t' x u hx hu=>?_,fun p bx ho=>?_,fun b' hb'=>h.fresh b' (by omega)⟩
   ·rcases dI hx with ⟨rfl,rfl,_⟩|⟨h1,h2⟩
    ·have:u=.slice (some ⟨b,0,none⟩) es'.length c:=by
      rw [hl];exact Option.some.inj (hu.symm.trans hv)
     rw [this];exact hrep
    ·refine (h.slots t' x u h2 hu).keep hw (fun s l e b' e2 _=>⟨e2,hoth _ (by simpa using h1) b' e2⟩) (fun l e i _ b' e2 _=>⟨e2,hoth _ (by simp) b' e2⟩) (fun q hq _ s l e=>?_) (Nat.le_refl _) (fun _ _=>rfl)
     obtain ⟨l0,e0⟩:=hrow q s l e
     exact ⟨⟨l0,e0⟩,J5 q s l0 e0⟩
   ·exact (h.boxes p bx ho).frame ⟨rfl,hbox p bx ho⟩ (fun j b' e _=>⟨e,hoth _ (by simp) b' e⟩) hw
  |cell p q =>
   obtain ⟨bx0,hbx0,hfz,hq⟩:=dO hr
   have hst:st.setRow (.cell p q) sz es'={ st with boxes:=st.boxes.set p { bx0 with cs:=bx0.cs.set q (.row sz es') } }:=by simp [St.setRow,St.setCell,hbx0]
   have hpl:p<st.boxes.length:=(List.getElem?_eq_some_iff.1 hbx0).1
   have hql:q<bx0.cs.length:=(List.getElem?_eq_some_iff.1 hq).1
   rw [hst]
   refine ⟨h.size,fun t x u hx hu=>?_,fun p' bx ho=>?_,fun b' hb'=>h.fresh b' (by omega)⟩
   ·refine (h.slots t x u hx hu).keep hw (fun s l e b' e2 _=>⟨e2,hoth _ (by simp) b' e2⟩) (fun l e i _ b' e2 _=>⟨e2,hoth _ (by simp) b' e2⟩) (fun r' hr' _ s l e=>?_) (by simp) (fun _ _=>rfl)
    have e0:∃ l0,st.row r'=some (s,l0):=by
     cases r' with
     |slot t'=>exact ⟨l,e⟩
     |part t' i=>exact ⟨l,e⟩
     |cell o j =>
      simp only [St.row,List.getElem?_set] at e ⊢
      by_cases hop:p=o
      ·subst hop
       simp only [if_true,if_pos hpl,hfz,Bool.false_eq_true,if_false,List.getElem?_set] at e
       simp only [hbx0,hfz,Bool.false_eq_true,if_false]
       by_cases hqj:q=j
       ·subst hqj
        simp only [if_true,if_pos hql,Option.some.injEq,Prod.mk.injEq] at e
        rw [hq]
        exact ⟨es,by rw [e.1]⟩
       ·simp only [if_neg hqj] at e;exact ⟨l,e⟩
      ·simp only [if_neg hop] at e;exact ⟨l,e⟩
    obtain ⟨l0,e0⟩:=e0
    exact ⟨⟨l0,e0⟩,J5 r' s l0 e0⟩
   ·rw [List.getElem?_set] at ho
    by_cases hop:p=p'
    ·subst hop
     simp only [if_true,if_pos hpl,Option.some.injEq] at ho
     subst ho
     have hbb:=hbox p bx0 hbx0
     obtain ⟨DW,E0,h1,h2,h3,h4,h5⟩:=h.boxes p bx0 hbx0
     refine ⟨DW,E0,hbb.trans h1,by simpa using h2,h3,by simp [hfz],?_⟩
     intro j bv u hj hu
     have hj:(bx0.cs.set q (.row sz es'))[j]?=some bv:=hj
     rw [List.getElem?_set] at hj
     by_cases hqj:q=j
     ·subst hqj
      simp only [if_true,if_pos hql,Option.some.injEq] at hj
      subst hj
      have:u=.slice (some ⟨b,0,none⟩) es'.length c:=by
       have e2:hdr σ a w (.cell p q)=some u:=by simp only [hdr];rw [cell_of_row w _ _ DW E0 (0,0) h1];exact hu
       rw [hl];exact Option.some.inj (e2.symm.trans hv)
      rw [this];exact ⟨rfl,hrep⟩
     ·rw [if_neg hqj] at hj
      obtain ⟨g1,g2⟩:=h5 j bv u hj hu
      exact ⟨g1,g2.frame (fun b' e _=>⟨e,hoth _ (by simpa using Ne.symm hqj) b' e⟩) hw⟩
    ·rw [if_neg hop] at ho
     exact (h.boxes p' bx ho).frame ⟨rfl,hbox p' bx ho⟩ (fun j b' e _=>⟨e,hoth _ (by intro e2;cases e2;exact hop rfl) b' e⟩) hw
 ·rcases e with e|e
  ·exact hoth .ro (by simp) b' e
  ·exact hoth .other (by simp) b' e
theorem aI.aar (h:aI L σ T st a w) {r:Root} (hr:st.row r=some (sz,es)) {v:Value} {w':World} (hv:hdr σ a w r=some v) (hsz:w.heap.size≤w'.heap.size) (hos:w'.os=w.os) (htp:w'.tape=w.tape) (hou:w'.output=w.output)
  (hblk:∀ b,b<w.heap.size→T b≠.row r→w'.heap[b]?=w.heap[b]?) (hrep:aH T w' r sz es' v):aI L σ T (st.setRow r sz es') a w'∧uG T T w w':=by
 have hoth:∀ q,q≠.row r→∀ b',T b'=q→b'<w.heap.size→w'.heap[b']?=w.heap[b']?:=fun q hq b' e hb=>hblk b' hb (by rw [e];exact hq)
 have hw:∀ b',T b'=.ro→b'<w.heap.size→T b'=.ro∧w'.heap[b']?=w.heap[b']?:=fun b' e hb=>⟨e,hoth _ (by simp) b' e hb⟩
 have hbox:∀ p bx,st.boxes[p]?=some bx→w'.heap[σ p]?=w.heap[σ p]?:=fun p bx hp=>by
  obtain ⟨_,_,h1,_,h3,_⟩:=h.boxes p bx hp
  refine hoth _ ?_ _ h3 (Array.getElem?_eq_some_iff.1 h1).1
  split<;>simp
 have J5:∀ q s l,st.row q=some (s,l)→hdr σ a w' q=hdr σ a w q:=fun q s l e=>by
  cases q with
  |slot t=>rfl
  |part t i=>rfl
  |cell p j =>
   obtain ⟨bx,h1,_⟩:=dO e
   exact World.cell?_of_block (w:=w) (a:=⟨σ p,j,none⟩) (hbox p bx h1)
 refine ⟨?_,⟨hsz,hos,htp,hou,fun b' hb e=>?_,fun _ e=>e,fun _ _ e=>e⟩⟩
 ·cases r with
  |part t i=>simp [St.row] at hr
  |slot t =>
   have hst:=fO hr
   have htl:=(List.getElem?_eq_some_iff.1 hst).1
   have hrow:∀ q s l,(st.put t (.row sz es')).row q=some (s,l)→∃ l0,st.row q=some (s,l0):=fun q s l e=>by
    by_cases hq:q=.slot t
    ·subst hq
     have e2:=fO e
     simp only [St.put,List.getElem?_set,if_true,if_pos htl,Option.some.injEq,AV.row.injEq] at e2
     obtain ⟨rfl,rfl⟩:=e2
     exact ⟨es,hr⟩
    ·rw [gu hq] at e;exact ⟨l,e⟩
   refine ⟨by simp [St.setRow,St.put,h.size],fun t' x u hx hu=>?_,fun p bx ho=>?_,fun b' hb'=>h.fresh b' (by omega)⟩
   ·rcases dI hx with ⟨rfl,rfl,_⟩|⟨h1,h2⟩
    ·have:u=v:=Option.some.inj (hu.symm.trans hv)
     rw [this];exact hrep
    ·refine (h.slots t' x u h2 hu).keep hw (fun s l e b' e2 hb=>⟨e2,hoth _ (by simpa using h1) b' e2 hb⟩) (fun l e i _ b' e2 hb=>⟨e2,hoth _ (by simp) b' e2 hb⟩) (fun q hq _ s l e=>?_) (Nat.le_refl _) (fun _ _=>rfl)
     obtain ⟨l0,e0⟩:=hrow q s l e
     exact ⟨⟨l0,e0⟩,J5 q s l0 e0⟩
   ·exact (h.boxes p bx ho).frame ⟨rfl,hbox p bx ho⟩ (fun j b' e hb=>⟨e,hoth _ (by simp) b' e hb⟩) hw
  |cell p q =>
   obtain ⟨bx0,hbx0,hfz,hq⟩:=dO hr
   have hst:st.setRow (.cell p q) sz es'={ st with boxes:=st.boxes.set p { bx0 with cs:=bx0.cs.set q (.row sz es') } }:=by simp [St.setRow,St.setCell,hbx0]
   have hpl:p<st.boxes.length:=(List.getElem?_eq_some_iff.1 hbx0).1
   have hql:q<bx0.cs.length:=(List.getElem?_eq_some_iff.1 hq).1
   rw [hst]
   refine ⟨h.size,fun t x u hx hu=>?_,fun p' bx ho=>?_,fun b' hb'=>h.fresh b' (by omega)⟩
   ·refine (h.slots t x u hx hu).keep hw (fun s l e b' e2 hb=>⟨e2,hoth _ (by simp) b' e2 hb⟩) (fun l e i _ b' e2 hb=>⟨e2,hoth _ (by simp) b' e2 hb⟩) (fun r' hr' _ s l e=>?_) (by simp) (fun _ _=>rfl)
    have e0:∃ l0,st.row r'=some (s,l0):=by
     cases r' with
     |slot t'=>exact ⟨l,e⟩
     |part t' i=>exact ⟨l,e⟩
     |cell o j =>
      simp only [St.row,List.getElem?_set] at e ⊢
      by_cases hop:p=o
      ·subst hop
       simp only [if_true,if_pos hpl,hfz,Bool.false_eq_true,if_false,List.getElem?_set] at e
       simp only [hbx0,hfz,Bool.false_eq_true,if_false]
       by_cases hqj:q=j
       ·subst hqj
        simp only [if_true,if_pos hql,Option.some.injEq,Prod.mk.injEq] at e
        rw [hq]
        exact ⟨es,by rw [e.1]⟩
       ·simp only [if_neg hqj] at e;exact ⟨l,e⟩
      ·simp only [if_neg hop] at e;exact ⟨l,e⟩
    obtain ⟨l0,e0⟩:=e0
    exact ⟨⟨l0,e0⟩,J5 r' s l0 e0⟩
   ·rw [List.getElem?_set] at ho
    by_cases hop:p=p'
    ·subst hop
     simp only [if_true,if_pos hpl,Option.some.injEq] at ho
     subst ho
     have hbb:=hbox p bx0 hbx0
     obtain ⟨DW,E0,h1,h2,h3,h4,h5⟩:=h.boxes p bx0 hbx0
     refine ⟨DW,E0,hbb.trans h1,by simpa using h2,h3,by simp [hfz],?_⟩
     intro j bv u hj hu
     have hj:(bx0.cs.set q (.row sz es'))[j]?=some bv:=hj
     rw [List.getElem?_set] at hj
     by_cases hqj:q=j
     ·subst hqj
      simp only [if_true,if_pos hql,Option.some.injEq] at hj
      subst hj
      have:u=v:=by
       have e2:hdr σ a w (.cell p q)=some u:=by simp only [hdr];rw [cell_of_row w _ _ DW E0 (0,0) h1];exact hu
       exact Option.some.inj (e2.symm.trans hv)
      rw [this];exact ⟨by rcases hrep with ⟨_,_,rfl⟩|⟨_,_,_,_,rfl,_⟩<;>rfl,hrep⟩
     ·rw [if_neg hqj] at hj
      obtain ⟨g1,g2⟩:=h5 j bv u hj hu
      exact ⟨g1,g2.frame (fun b' e hb=>⟨e,hoth _ (by simpa using Ne.symm hqj) b' e hb⟩) hw⟩
    ·rw [if_neg hop] at ho
     exact (h.boxes p' bx ho).frame ⟨rfl,hbox p' bx ho⟩ (fun j b' e hb=>⟨e,hoth _ (by intro e2;cases e2;exact hop rfl) b' e hb⟩) hw
 ·rcases e with e|e
  ·exact hoth .ro (by simp) b' e hb
  ·exact hoth .other (by simp) b' e hb
theorem Ey {cs new cs':List PV} {off:Nat} (h:splice cs off new=some cs'):off+new.length≤cs.length∧cs'=cs.take off++new++cs.drop (off+new.length):=by
 unfold splice at h
 split at h
 ·exact ⟨by assumption,(Option.some.inj h).symm⟩
 ·cases h
theorem jm {α:Type} {cs new:List α} {off:Nat} (hl:off+new.length≤cs.length) (i:Nat):(cs.take off++new++cs.drop (off+new.length))[i]?=if off≤i∧i<off+new.length then new[i - off]? else cs[i]?:=by
 rw [List.append_assoc,List.getElem?_append]
 simp only [List.length_take,show min off cs.length=off by omega]
 split
 ·rename_i hi;rw [if_neg (by omega),List.getElem?_take,if_pos hi]
 ·rename_i hi
  rw [List.getElem?_append]
  split
  ·rename_i hj;rw [if_pos (by omega)]
  ·rename_i hj;rw [if_neg (by omega),List.getElem?_drop];congr 1;omega
theorem Gw {e e':PV} {cs:List PV} (h:e.sD cs=some e'):e'.cells=cs:=by
 unfold PV.sD at h
 split at h
 ·cases h;rfl
 ·split at h
  ·cases h
  ·rename_i c hc
   have h:=Option.some.inj h
   subst h
   cases c<;>first|rfl|exact absurd rfl (hc _)
  ·cases h
theorem dP.set (h:dP ok w sz es xs) {i j:Nat} {e e':PV} {cs':List PV} {vs:List PV} {us:List Value} (hi:es[i]?=some e) (hs:splice e.cells j vs=some cs') (he:e'.cells=cs') (hv:us.length=vs.length) (hu:∀ (k:Nat) x,vs[k]?=some x→∃ u,us[k]?=some u∧u.oneCell'=true∧ay ok w x u) :
  dP ok w sz (es.set i e') (xs.take (i * sz+j)++us++xs.drop (i * sz+j+us.length)):=by
 obtain ⟨h1,rfl⟩:=Ey hs
 have hil:=(List.getElem?_eq_some_iff.1 hi).1
 have hw:=h.wid e (List.mem_of_getElem? hi)
 have hbound:i * sz+j+us.length≤xs.length:=by
  rw [h.len,hv]
  have:(i+1) * sz≤es.length * sz:=Nat.mul_le_mul_right _ hil
  rw [Nat.add_mul] at this;omega
 refine ⟨?_,fun e0 he0=>?_,fun i' e0 j' x hi' hj'=>?_⟩
 ·simp only [List.length_append,List.length_take,List.length_drop,List.length_set]
  rw [← h.len];omega
 ·rcases List.mem_or_eq_of_mem_set he0 with h2|rfl
  ·exact h.wid e0 h2
  ·rw [he];simp;omega
 ·rw [List.getElem?_set] at hi'
  rw [jm hbound]
  by_cases hii:i=i'
  ·subst hii
   rw [if_pos rfl,if_pos hil] at hi'
   cases hi'
   rw [he,jm h1] at hj'
   by_cases hjj:j≤j'∧j'<j+vs.length
   ·rw [if_pos hjj] at hj'
    obtain ⟨u,g1,g2,g3⟩:=hu _ _ hj'
    exact ⟨u,by rw [if_pos (by omega),show i * sz+j' - (i * sz+j)=j' - j by omega];exact g1,g2,g3⟩
   ·rw [if_neg hjj] at hj'
    obtain ⟨u,g1,g2,g3⟩:=h.rep i e j' x hi hj'
    exact ⟨u,by rw [if_neg (by omega)];exact g1,g2,g3⟩
  ·rw [if_neg hii] at hi'
   obtain ⟨u,g1,g2,g3⟩:=h.rep i' e0 j' x hi' hj'
   have hj3:=(h.lt hi' hj').2
   refine ⟨u,?_,g2,g3⟩
   rw [if_neg ?_]
   ·exact g1
   ·intro hh
    rcases Nat.lt_or_ge i' i with hlt|hge
    ·have:=yE hlt hj3;omega
    ·have h3:i+1≤i':=by omega
     have:(i+1) * sz≤i' * sz:=Nat.mul_le_mul_right _ h3
     rw [Nat.add_mul] at this;omega
theorem kY {T0:TypeId} {b off tb:Nat} {v:Value} {arr:Array Value} (hs:jr P T0=some v.cells.size) (hb:w.heap[b]?=some (.cells arr tb (0,0))) (hl:off+v.cells.size≤arr.size) (h1:∀ u∈v.cells.toList,u.oneCell'=true) :
  (storeVar T0 ⟨b,off,none⟩ v).run P w=.ok () (w.setRow b (arr.toList.take off++v.cells.toList++arr.toList.drop (off+v.cells.toList.length)).toArray):=by
 have hst:=run_storeCells_at P b off tb v.cells.toList 0 arr w hb (by simpa using hl) h1
 simp only [Nat.add_zero] at hst
 unfold storeVar
 simp only [Sem.run_bind,oD hs,Result.andThen_ok,ne_eq,not_true_eq_false,if_false,hst]
theorem run_store {ρ:Operand→Value} {T0:TypeId} {ad:Addr} {v:Value} (ho:o.op=.store T0 y y2) (h1:ρ y=.pointer (some ad)) (h2:ρ y2=v) (hr:(storeVar T0 ad v).run P w=.ok () w1):(execOp ρ o).run P w=.ok .skip w1:=by
 simp [execOp,ho,Instr.storeAt,Instr.sureAddr,h1,h2,hr]
theorem Cells.mem1 {cs:List PV} {arr:Array Value} (h:Cells ok w cs arr):(∀ u∈arr.toList,u.oneCell'=true)∧∀ (k:Nat) x,cs[k]?=some x→∃ u,arr.toList[k]?=some u∧u.oneCell'=true∧ay ok w x u:=by
 refine ⟨fun u hu=>?_,fun k x hk=>?_⟩
 ·obtain ⟨k,hk⟩:=List.mem_iff_getElem?.1 hu
  exact h.one k u (by simpa using hk)
 ·have hl:k<arr.size:=by rw [h.size];exact (List.getElem?_eq_some_iff.1 hk).1
  have e:arr[k]?=some arr[k]:=Array.getElem?_eq_getElem hl
  exact ⟨arr[k],by simpa using e,h.one k _ e,h.rep k x _ hk e⟩
theorem Gx {T0:TypeId} {r:Root} {i j:Nat} (h:aI L σ T st a w) (hd:o.dst=none) (ho:o.op=.store T0 y y2) (hm:aY y x=true) (hm2:aY y2 x2=true) (hs:jr P T0=some n) {v:PV} {own:Bool} (h1:st.consume x2=some (v,own,st1)) (h2:st1.get x=.ny r i j)
  (h3:st1.row r=some (sz,es)) {e e':PV} (h4:es[i]?=some e) (h5:v.cells.length=n) {cs:List PV} (h6:splice e.cells j v.cells=some cs) (h7:e.sD cs=some e'):Does P L σ T st.boxes.length (st1.setRow r sz (es.set i e')) a w o false:=by
 obtain ⟨T1,k1,k2,k3,k4⟩:=h.Bd hm2 h1
 have hp:=k1.adk hm h2 sz es h3
 obtain ⟨b,m,c,m1,m2⟩:=hp
 obtain ⟨u,m3,m4⟩:=k1.sQ h3
 rw [m3] at m1;cases m1
 have hil:=(List.getElem?_eq_some_iff.1 h4).1
 rcases m4.Bj with ⟨e0,_,_⟩|⟨b',c',arr,E,ex,q2,q3,q4,q5,q6,q7⟩
 ·rw [e0] at hil;simp at hil
 ·injection ex with VU ex2 ex3
  injection VU with VU
  injection VU with VU
  subst VU;subst ex2;subst ex3
  have hc:=k4.cells
  obtain ⟨c1,c2⟩:=hc.mem1
  obtain ⟨hsp,_⟩:=Ey h6
  have hw:=q7.wid e (List.mem_of_getElem? h4)
  have hb1:i * sz+j+(a.eval y2).cells.size≤es.length * sz:=by
   rw [hc.size]
   have:(i+1) * sz≤es.length * sz:=Nat.mul_le_mul_right _ hil
   rw [Nat.add_mul] at this;omega
  have hb2:es.length * sz≤c * sz:=Nat.mul_le_mul_right _ q5
  have hset:=q7.set h4 h6 (Gw h7) (us:=(a.eval y2).cells.toList) (by simp [hc.size]) c2
  have hrun:=kY (P:=P) (T0:=T0) (w:=w) (b:=b) (off:=i * sz+j) (tb:=E) (v:=a.eval y2) (arr:=arr) (by rw [hs,hc.size,h5]) q3 (by rw [q4];omega) c1
  obtain ⟨arr',harr⟩:∃ arr',arr'=(arr.toList.take (i * sz+j)++(a.eval y2).cells.toList++arr.toList.drop (i * sz+j+(a.eval y2).cells.toList.length)).toArray:=⟨_,rfl⟩
  rw [← harr] at hrun
  have hnew:aH T1 (w.setRow b arr') r sz (es.set i e') (.slice (some ⟨b,0,none⟩) (es.set i e').length c):=by
   refine aH.mk (E:=E) (arr:=arr') (xs:=(arr.toList.take (es.length * sz)).take (i * sz+j)++(a.eval y2).cells.toList++(arr.toList.take (es.length * sz)).drop (i * sz+j+(a.eval y2).cells.toList.length)) q2 (setRow_heap w b arr arr' E (0,0) q3) ?_ (by simpa using q5) q6 (hset.frame fun b' e _=>⟨e,setRow_other w b b' arr' (fun e2=>by subst e2;rw [q2] at e;cases e)⟩) ?_
   ·rw [harr,← q4];simp only [List.size_toArray,List.length_append,List.length_take,List.length_drop,Array.length_toList];omega
   ·rw [harr]
    refine ⟨arr.toList.drop (es.length * sz),?_⟩
    simp only [List.take_take,List.append_assoc]
    rw [Nat.min_eq_left (by omega)]
    congr 2
    rw [List.drop_take]
    conv=>rhs;rw [← List.take_append_drop (es.length * sz - (i * sz+j+(a.eval y2).cells.toList.length)) (arr.toList.drop (i * sz+j+(a.eval y2).cells.toList.length))]
    congr 1
    rw [List.drop_drop]
    congr 1
    simp only [Array.length_toList]
    omega
  obtain ⟨s1,s2⟩:=k1.VX h3 m3 q2 q3 (by rw [harr];simp only [List.size_toArray,List.length_append,List.length_take,List.length_drop,Array.length_toList];omega) (by simp) hnew
  refine ⟨_,undef,_,σ,T1,run_store ho m2 rfl hrun,.inr ⟨rfl,rfl⟩,by rw [hd];exact s1,(k2.nC w).trans s2,fun _ _=>rfl,fun e=>by cases e⟩
theorem aI.place (h:aI L σ T st a w) (hm:aY y x=true) {r:Root} {off len:Nat} (hp:st.place x=some (r,off,len)) (hr:st.row r=some (sz,es)):Gp (hdr σ a w r) off len sz (a.eval y):=by
 cases x with
 |c v=>simp [St.place] at hp
 |nil s=>simp [St.place] at hp
 |t n =>
  simp only [St.place] at hp
  split at hp
  ·rename_i r' off' len' e
   simp only [Option.some.injEq,Prod.mk.injEq] at hp
   obtain ⟨rfl,rfl,rfl⟩:=hp
   exact h.N7 hm e sz es hr
  ·rename_i s l e
   simp only [Option.some.injEq,Prod.mk.injEq] at hp
   obtain ⟨rfl,rfl,rfl⟩:=hp
   have e0:st.get (.t n)=.row s l:=e
   obtain ⟨q1,q2,q3⟩:=h.Sr hm e0
   have:=fO hr
   rw [q1] at this;cases this
   obtain ⟨xa,c,e1,_⟩:=q3.slice
   exact ⟨xa,_,c,xa,by rw [← e1];exact q2,by rw [e1];simp,fun _=>rfl,fun _=>by cases xa<;>simp [Addr.add],fun b o e=>⟨o,e⟩⟩
  ·cases hp
end
end Go.Proofs.YtaaokejjmdbfaaaDoor

namespace Go.Proofs.YtaaokejjmdbfaaaDoor
open Go.RowKit
section
variable {P:Program} {L:Nat} {σ σ':Nat→Nat} {T T':Tags} {st st' st1:St} {a:Act} {w w1:World} {o:Oper} {d n:Nat} {x x2:bP} {y y2:Operand} {ok:Nat→Prop} {sz:Nat} {es es' ys:List PV} {xs zs:List Value}
 {rec:ak→St→Option (Ex × St)} {env:Env}
theorem aI.Bl (h:aI L σ T st a w) {p E:Nat} {bx:Box} {cs':List BV} {arr arr':Array Value} (g:AV→AV) (hb:st.boxes[p]?=some bx) (hf:bx.fz=false) (ha:w.heap[σ p]?=some (.cells arr E (0,0)))
  (hl:cs'.length=bx.cs.length) (hs:arr'.size=arr.size) (hrep:∀ (k:Nat) bv u,cs'[k]?=some bv→arr'[k]?=some u→u.oneCell'=true∧DT T' (w.setRow (σ p) arr') p k bv u)
  (hg:∀ x,g x=.any∨(g x=x∧∀ k,x.root?=some (.cell p k)→∀ s l,cs'[k]?=some (.row s l)→(∃ l0,bx.cs[k]?=some (.row s l0))∧arr'[k]?=arr[k]?))
  (hro:∀ b,T b=.ro→T' b=.ro) (hbox:∀ b q,T b=.box q→T' b=.box q) (hoth:∀ b,T b=.other→T' b=.other) (VI:∀ b t s l,st.slots[t]?=some (.row s l)→T b=.row (.slot t)→T' b=.row (.slot t)) (hpart:∀ {k:Bool} (b t i:Nat) l,st.slots[t]?=some (.jY k l)→T b=.row (.part t i)→T' b=.row (.part t i))
  (hcell:∀ b q k,q≠p→T b=.row (.cell q k)→T' b=.row (.cell q k)) :
  aI L σ T' { st with slots:=st.slots.map g,boxes:=st.boxes.set p { bx with cs:=cs' } } a (w.setRow (σ p) arr')∧uG T T w (w.setRow (σ p) arr'):=by
 have hT:T (σ p)=.box p:=by obtain ⟨_,_,_,_,h3,_⟩:=h.boxes p bx hb;rw [h3,hf];rfl
 have hne:∀ b q,q≠.box p→T b=q→(w.setRow (σ p) arr').heap[b]?=w.heap[b]?:=fun b q hq e=>setRow_other w (σ p) b arr' (fun e2=>by subst e2;rw [hT] at e;exact hq e.symm)
 have hw:∀ b,T b=.ro→b<w.heap.size→T' b=.ro∧(w.setRow (σ p) arr').heap[b]?=w.heap[b]?:=fun b e _=>⟨hro b e,hne b _ (by simp) e⟩
 have hsz:(w.setRow (σ p) arr').heap.size=w.heap.size:=by simp [World.setRow]
 have hpl:p<st.boxes.length:=(List.getElem?_eq_some_iff.1 hb).1
 have hoq:∀ q bq,q≠p→st.boxes[q]?=some bq→(w.setRow (σ p) arr').heap[σ q]?=w.heap[σ q]?:=fun q bq Z5 hq=>by
  obtain ⟨_,_,_,_,h3,_⟩:=h.boxes q bq hq
  refine hne _ _ ?_ h3
  split
  ·simp
  ·intro e;cases e;exact Z5 rfl
 refine ⟨⟨by simp [h.size],fun t x u hx hu=>?_,fun q bq hq=>?_,fun b hb'=>hoth b (h.fresh b (by omega))⟩,⟨by omega,rfl,rfl,rfl,fun b _ e=>?_,fun _ e=>e,fun _ _ e=>e⟩⟩
 ·obtain ⟨z,hz,rfl⟩:=nO hx
  rcases hg z with e|⟨e,hroot⟩
  ·rw [e];trivial
  ·rw [e]
   refine (h.slots t z u hz hu).keep hw (fun s l e b e2 _=>⟨VI b t s l (by rw [hz,e]) e2,hne b _ (by simp) e2⟩) (fun l e i _ b e2 _=>⟨hpart b t i l (by rw [hz,e]) e2,hne b _ (by simp) e2⟩) (fun r hr _ s l e=>?_) (by simp) (fun _ _=>rfl)
   cases r with
   |slot t' =>
    have e2:=fO e
    obtain ⟨z',hz',hg'⟩:=nO (show (st.slots.map g)[t']?=_ from e2)
    rcases hg z' with e3|⟨e3,_⟩
    ·rw [e3] at hg';cases hg'
    ·rw [e3] at hg';subst hg'
     exact ⟨⟨l,by simp [St.row,hz']⟩,rfl⟩
   |part t' i=>simp [St.row] at e
   |cell q k =>
    obtain ⟨bq,h1,h2,h3⟩:=dO e
    simp only [List.getElem?_set] at h1
    by_cases Z5:p=q
    ·subst Z5
     simp only [if_true,if_pos hpl,Option.some.injEq] at h1
     subst h1
     obtain ⟨⟨l0,g1⟩,g2⟩:=hroot k hr s l h3
     refine ⟨⟨l0,by simp [St.row,hb,hf,g1]⟩,?_⟩
     simp only [hdr]
     rw [cell_of_row _ (σ p) k arr' E (0,0) (setRow_heap w (σ p) arr arr' E (0,0) ha),cell_of_row w (σ p) k arr E (0,0) ha,g2]
    ·rw [if_neg Z5] at h1
     refine ⟨⟨l,by simp [St.row,h1,h2,h3]⟩,?_⟩
     exact World.cell?_of_block (w:=w) (a:=⟨σ q,k,none⟩) (hoq q bq (Ne.symm Z5) h1)
 ·simp only [List.getElem?_set] at hq
  by_cases Z5:p=q
  ·subst Z5
   simp only [if_true,if_pos hpl,Option.some.injEq] at hq
   subst hq
   obtain ⟨DW,E0,h1,h2,h3,_⟩:=h.boxes p bx hb
   rw [ha] at h1;cases h1
   refine ⟨arr',E,setRow_heap w (σ p) arr arr' E (0,0) ha,by simp [hs,h2,hl],?_,by simp [hf],fun k bv u hk hu=>hrep k bv u hk hu⟩
   simp only [hf,Bool.false_eq_true,if_false]
   exact hbox _ _ hT
  ·rw [if_neg Z5] at hq
   have hbq:=h.boxes q bq hq
   have hT':T' (σ q)=T (σ q):=by
    obtain ⟨_,_,_,_,h3,_⟩:=hbq
    rw [h3];split
    ·rename_i hf;exact hro _ (by rw [h3,if_pos hf])
    ·rename_i hf;exact hbox _ _ (by rw [h3,if_neg hf])
   exact hbq.frame ⟨hT',hoq q bq (Ne.symm Z5) hq⟩ (fun j b e _=>⟨hcell b q j (Ne.symm Z5) e,hne b _ (by simp) e⟩) hw
 ·rcases e with e|e
  ·exact hne b .ro (by simp) e
  ·exact hne b .other (by simp) e
theorem DX {T0:TypeId} {p j:Nat} (h:aI L σ T st a w) (hd:o.dst=none) (ho:o.op=.store T0 y y2) (hm:aY y x=true) (hm2:aY y2 x2=true) (hs:jr P T0=some n) {v:PV} {own:Bool} (h1:st.consume x2=some (v,own,st1)) (h2:st1.get x=.aQ p j)
  {bx:Box} (h3:st1.boxes[p]?=some bx) (hf:bx.fz=false) (h5:v.cells.length=n) (h6:j+n≤bx.cs.length) :
  (own=false→Does P L σ T st.boxes.length { st1 with boxes:=st1.boxes.set p { bx with cs:=bx.cs.take j++v.cells.map .pv++bx.cs.drop (j+n) } } a w o false) ∧
  (∀ sz es,own=true→v=.list sz es→Does P L σ T st.boxes.length (st1.jC p j sz es) a w o false):=by
 obtain ⟨T1,k1,k2,k3,k4,k5⟩:=h.consume hm2 h1
 obtain ⟨_,hp2⟩:=k1.aQ hm h2
 obtain ⟨arr,E,b1,b2,b3,b4,b5⟩:=k1.boxes p bx h3
 -- the values' cells,whatever they are
 have afR:(∀ u∈(a.eval y2).cells.toList,u.oneCell'=true)∧(a.eval y2).cells.size=v.cells.length:=by
  cases own with
  |false=>have hc:=(k4 rfl).cells;exact ⟨hc.mem1.1,hc.size⟩
  |true =>
   obtain ⟨sz,es,m,rfl,_,q⟩:=k5 rfl
   obtain ⟨xa,c,e,_⟩:=q.slice
   rw [e];exact ⟨fun u hu=>by simp [Value.cells] at hu;subst hu;rfl,rfl⟩
 obtain ⟨c1,c2⟩:=afR
 have hfit:j+(a.eval y2).cells.size≤arr.size:=by rw [c2,h5,b2];exact h6
 have hrun:=kY (P:=P) (T0:=T0) (w:=w) (b:=σ p) (off:=j) (tb:=E) (v:=a.eval y2) (arr:=arr) (by rw [hs,c2,h5]) b1 hfit c1
 obtain ⟨arr',harr⟩:∃ arr',arr'=(arr.toList.take j++(a.eval y2).cells.toList++arr.toList.drop (j+(a.eval y2).cells.toList.length)).toArray:=⟨_,rfl⟩
 rw [← harr] at hrun
 have hlen:(a.eval y2).cells.toList.length=n:=by rw [Array.length_toList,c2,h5]
 have hget:∀ k,arr'[k]?=if j≤k∧k<j+n then (a.eval y2).cells[k - j]? else arr[k]?:=fun k=>by
  rw [harr,List.getElem?_toArray,jm (by rw [hlen];simpa [b2] using h6),hlen]
  simp
 have hsz:arr'.size=arr.size:=by rw [harr];simp only [List.size_toArray,List.length_append,List.length_take,List.length_drop,Array.length_toList,hlen];rw [Array.length_toList] at hlen;omega
 have hold:∀ k,σ k≠σ k→False:=fun k h=>h rfl
 have hother:∀ q,q≠.box p→∀ b,T1 b=q→(w.setRow (σ p) arr').heap[b]?=w.heap[b]?:=fun q hq b e=>setRow_other w (σ p) b arr' (fun e2=>by subst e2;rw [b3,hf] at e;exact hq e.symm)
 refine ⟨fun hown=>?_,fun sz es hown hv=>?_⟩
 ·have hc:=(k4 hown).cells
  have hgo:=k1.Bl (T':=T1) (cs':=bx.cs.take j++v.cells.map .pv++bx.cs.drop (j+n)) (arr':=arr') id h3 hf b1 (by simp [h5];omega) hsz (fun k bv u hk hu=>?_) (fun x=>.inr ⟨rfl,fun k _ s l hk=>?_⟩) (fun _ e=>e) (fun _ _ e=>e) (fun _ e=>e) (fun _ _ _ _ _ e=>e) (fun _ _ _ _ _ e=>e) (fun _ _ _ _ e=>e)
  ·obtain ⟨s1,s2⟩:=hgo
   rw [List.map_id] at s1
   exact ⟨_,undef,_,σ,T1,run_store ho hp2 rfl hrun,.inr ⟨rfl,rfl⟩,by rw [hd];exact s1,(k2.nC w).trans s2,fun _ _=>rfl,fun e=>by cases e⟩
  ·have hml:(v.cells.map BV.pv).length=n:=by simp [h5]
   have hk2:=jm (cs:=bx.cs) (new:=v.cells.map BV.pv) (off:=j) (by rw [hml];exact h6) k
   rw [hml] at hk2
   rw [hk2] at hk
   rw [hget] at hu
   split at hk
   ·rename_i hin
    rw [if_pos hin] at hu
    rw [List.getElem?_map] at hk
    cases e:v.cells[k - j]? with
    |none=>rw [e] at hk;cases hk
    |some x=>rw [e] at hk;cases hk;exact ⟨hc.one _ u hu,(hc.rep _ x u e hu).frame fun b e _=>⟨e,hother _ (by simp) b e⟩⟩
   ·rename_i hin
    rw [if_neg hin] at hu
    obtain ⟨g1,g2⟩:=b5 k bv u hk hu
    exact ⟨g1,g2.frame (fun b e _=>⟨e,hother _ (by simp) b e⟩) (fun b e _=>⟨e,hother _ (by simp) b e⟩)⟩
  ·have hml:(v.cells.map BV.pv).length=n:=by simp [h5]
   have hk2:=jm (cs:=bx.cs) (new:=v.cells.map BV.pv) (off:=j) (by rw [hml];exact h6) k
   rw [hml] at hk2
   rw [hk2] at hk
   split at hk
   ·rw [List.getElem?_map] at hk
    cases e:v.cells[k - j]? with
    |none=>rw [e] at hk;cases hk
    |some x=>rw [e] at hk;cases hk
   ·rename_i hin
    exact ⟨⟨l,hk⟩,by rw [hget,if_neg hin]⟩
 ·subst hv
  obtain ⟨sz',es',m,e1,hfree,hrow⟩:=k5 hown
  cases e1
  have hn1:n=1:=by rw [← h5];rfl
  obtain ⟨xa,c,e1,_⟩:=hrow.slice
  have hst:st1.jC p j sz es={ st1 with slots:=st1.slots.map (AV.iE p j),boxes:=st1.boxes.set p { bx with cs:=bx.cs.set j (.row sz es) } }:=by simp [St.jC,St.setCell,h3]
  rw [hst]
  have hgo:=k1.Bl (T':=moved T1 (.slot m) (.cell p j)) (cs':=bx.cs.set j (.row sz es)) (arr':=arr') (AV.iE p j) h3 hf b1 (by simp) hsz (fun k bv u hk hu=>?_) (fun x=>?_) (fun _ e=>gI e) (fun _ _ e=>lT e) (fun _ e=>jG e)
   (fun b t s l ht e=>dM (fun e2=>by cases e2;exact hfree s l ht) (by simp) e) (fun _ _ _ _ _ e=>dM (by simp) (by simp) e) (fun b q k hq e=>dM (by simp) (fun e2=>by cases e2;exact hq rfl) e)
  ·obtain ⟨s1,s2⟩:=hgo
   exact ⟨_,undef,_,σ,_,run_store ho hp2 rfl hrun,.inr ⟨rfl,rfl⟩,by rw [hd];exact s1,(k2.nC w).trans (s2.trans ((Still.moved T1 _ _).nC _)),fun _ _=>rfl,fun e=>by cases e⟩
  ·rw [List.getElem?_set] at hk
   rw [hget] at hu
   split at hk
   ·rename_i hkj
    subst hkj
    split at hk
    ·cases hk
     rw [if_pos (by omega),Nat.sub_self,e1] at hu
     have hu:(Value.slice xa es.length c)=u:=by simpa [Value.cells] using hu
     subst hu
     rw [e1] at hrow
     exact ⟨rfl,aH.frame (fun b e _=>⟨nY e,hother _ (by simp) b e⟩) (fun b e _=>⟨gI e,hother _ (by simp) b e⟩) hrow⟩
    ·cases hk
   ·rename_i hkj
    rw [if_neg (by omega)] at hu
    obtain ⟨g1,g2⟩:=b5 k bv u hk hu
    refine ⟨g1,g2.frame (fun b e _=>⟨dM (by simp) (by simpa using Ne.symm hkj) e,hother _ (by simp) b e⟩) (fun b e _=>⟨gI e,hother _ (by simp) b e⟩)⟩
  ·rcases Gq p j x with e|⟨e,hne⟩
   ·exact .inl e
   ·refine .inr ⟨e,fun k hr s l hk=>?_⟩
    have hkj:j≠k:=fun e2=>hne (by rw [hr,e2])
    rw [List.getElem?_set,if_neg hkj] at hk
    exact ⟨⟨l,hk⟩,by rw [hget,if_neg (by omega)]⟩
def gB (T:Tags) (m p j:Nat):Tags:=fun b=>match T b with
 |.row (.part t i)=>if t=m then .row (.cell p (j+i)) else .row (.part t i)
 |q=>q
theorem zn {ok:Nat→Prop} {v:PV} {u:Value} (h:ay ok w v u) (hs:v.single=true):u.oneCell'=true:=by
 cases h<;>first|rfl|assumption|(simp [PV.single] at hs)
theorem uS:∀ {l:List AV} {cs:List BV},oZ l=some cs→cs.length=l.length∧∀ (k:Nat) bv,cs[k]?=some bv→(∃ v,bv=.pv v∧l[k]?=some (.pv v)∧v.single=true)∨∃ sz es,bv=.row sz es∧l[k]?=some (.row sz es)
 |[],cs,h=>by cases h;exact ⟨rfl,fun k bv hk=>by simp at hk⟩
 |.pv v :: l,cs,h=>by
  simp only [oZ] at h
  split at h
  case isFalse=>cases h
  rename_i hs
  obtain ⟨cs',h1,rfl⟩:=Option.map_eq_some_iff.1 h
  obtain ⟨k1,k2⟩:=uS h1
  refine ⟨by simp [k1],fun k bv hk=>?_⟩
  cases k with
  |zero=>cases hk;exact .inl ⟨v,rfl,rfl,hs⟩
  |succ k=>exact k2 k bv hk
 |.row sz es :: l,cs,h=>by
  simp only [oZ] at h
  obtain ⟨cs',h1,rfl⟩:=Option.map_eq_some_iff.1 h
  obtain ⟨k1,k2⟩:=uS h1
  refine ⟨by simp [k1],fun k bv hk=>?_⟩
  cases k with
  |zero=>cases hk;exact .inr ⟨sz,es,rfl,rfl⟩
  |succ k=>exact k2 k bv hk
 |.ref .. :: _,_,h|.aQ .. :: _,_,h|.ny .. :: _,_,h|.fn .. :: _,_,h|.jY .. :: _,_,h|.oQ :: _,_,h|.any :: _,_,h=>by simp [oZ] at h
theorem VY {T0:TypeId} {p j m:Nat} (h:aI L σ T st a w) (hd:o.dst=none) (ho:o.op=.store T0 y y2) (hm:aY y x=true) (hm2:aY y2 (.t m)=true) (hs:jr P T0=some n) {l:List AV} (h1:st.slots.getD m .any=.jY true l) (h2:(st.put m .any).get x=.aQ p j)
  {bx:Box} (h3:st.boxes[p]?=some bx) (hf:bx.fz=false) {cs:List BV} (hcs:oZ l=some cs) (h5:l.length=n) (h6:j+n≤bx.cs.length) :
  Does P L σ T st.boxes.length { (st.put m .any) with slots:=(st.put m .any).slots.map (AV.dG p),boxes:=st.boxes.set p { bx with cs:=bx.cs.take j++cs++bx.cs.drop (j+n) } } a w o false:=by
 have e0:st.get (.t m)=.jY true l:=h1
 obtain ⟨t,e1,hA,hB,yF,g1,g2,g3⟩:=h.at hm2 e0 (by simp) (by simp) (by simp)
 cases e1
 replace g1:a.eval y2=Value.agg yF:=g1
 have k1:=h.forget m
 obtain ⟨_,hp2⟩:=k1.aQ hm h2
 obtain ⟨arr,E,b1,b2,b3,b4,b5⟩:=k1.boxes p bx h3
 obtain ⟨cl,cg⟩:=uS hcs
 have hsz2:yF.size=n:=by omega
 have hone:∀ (k:Nat) u,yF[k]?=some u→u.oneCell'=true:=fun k u hu=>by
  have hk:k<cs.length:=by have:=(Array.getElem?_eq_some_iff.1 hu).1;omega
  rcases cg k cs[k] (List.getElem?_eq_getElem hk) with ⟨v,_,e2,e3⟩|⟨sz,es,_,e2⟩
  ·exact zn (g3 k _ u e2 hu) e3
  ·obtain ⟨xa,c,e,_⟩:=aH.slice (g3 k _ u e2 hu)
   rw [e];rfl
 have c2:(a.eval y2).cells.size=n:=by rw [g1];exact hsz2
 have c1:∀ u∈(a.eval y2).cells.toList,u.oneCell'=true:=fun u hu=>by
  rw [g1] at hu
  obtain ⟨k,hk⟩:=List.mem_iff_getElem?.1 hu
  exact hone k u (by simpa [Value.cells] using hk)
 have hfit:j+(a.eval y2).cells.size≤arr.size:=by rw [c2,b2];exact h6
 have hrun:=kY (P:=P) (T0:=T0) (w:=w) (b:=σ p) (off:=j) (tb:=E) (v:=a.eval y2) (arr:=arr) (by rw [hs,c2]) b1 hfit c1
 obtain ⟨arr',harr⟩:∃ arr',arr'=(arr.toList.take j++(a.eval y2).cells.toList++arr.toList.drop (j+(a.eval y2).cells.toList.length)).toArray:=⟨_,rfl⟩
 rw [← harr] at hrun
 have hlen:(a.eval y2).cells.toList.length=n:=by rw [Array.length_toList,c2]
 have hget:∀ k,arr'[k]?=if j≤k∧k<j+n then (a.eval y2).cells[k - j]? else arr[k]?:=fun k=>by
  rw [harr,List.getElem?_toArray,jm (by rw [hlen];simpa [b2] using h6),hlen]
  simp
 have hsz:arr'.size=arr.size:=by rw [harr];simp only [List.size_toArray,List.length_append,List.length_take,List.length_drop,Array.length_toList,hlen];rw [Array.length_toList] at hlen;omega
 have hother:∀ q,q≠.box p→∀ b,T b=q→(w.setRow (σ p) arr').heap[b]?=w.heap[b]?:=fun q hq b e=>setRow_other w (σ p) b arr' (fun e2=>by subst e2;rw [b3,hf] at e;exact hq e.symm)
 have mro:∀ b,T b=.ro→gB T m p j b=.ro:=fun b e=>by simp [gB,e]
 have acH:∀ b q k,T b=.row (.cell q k)→gB T m p j b=.row (.cell q k):=fun b q k e=>by simp [gB,e]
 have hgo:=k1.Bl (T':=gB T m p j) (cs':=bx.cs.take j++cs++bx.cs.drop (j+n)) (arr':=arr') (AV.dG p) h3 hf b1 (by simp [cl,h5];omega) hsz (fun k bv u hk hu=>?_) (fun x=>?_) mro (fun _ _ e=>by simp [gB,e]) (fun _ e=>by simp [gB,e])
  (fun b t s l ht e=>by simp [gB,e]) (fun b t i l ht e=>?_) (fun b q k hq e=>acH b q k e)
 ·obtain ⟨s1,s2⟩:=hgo
  exact ⟨_,undef,_,σ,_,run_store ho hp2 rfl hrun,.inr ⟨rfl,rfl⟩,by rw [hd];exact s1,s2.trans (Still.nC ⟨mro,fun b e=>by simp [gB,e]⟩ _),fun _ _=>rfl,fun e=>by cases e⟩
 ·have hml:cs.length=n:=by omega
  have hk2:=jm (cs:=bx.cs) (new:=cs) (off:=j) (by rw [hml];exact h6) k
  rw [hml] at hk2
  rw [hk2] at hk
  rw [hget] at hu
  split at hk
  ·rename_i hin
   rw [if_pos hin,g1] at hu
   have hu:yF[k - j]?=some u:=hu
   refine ⟨hone _ u hu,?_⟩
   rcases cg (k - j) bv hk with ⟨v,rfl,e2,e3⟩|⟨sz,es,rfl,e2⟩
   ·exact ay.frame (fun b e _=>⟨mro b e,hother _ (by simp) b e⟩) (g3 _ _ u e2 hu)
   ·have hjk:j+(k - j)=k:=by omega
    exact aH.frame (fun b e _=>⟨by simp [gB,e,hjk],hother _ (by simp) b e⟩) (fun b e _=>⟨mro b e,hother _ (by simp) b e⟩) (g3 _ _ u e2 hu)
  ·rename_i hin
   rw [if_neg hin] at hu
   obtain ⟨q1,q2⟩:=b5 k bv u hk hu
   exact ⟨q1,q2.frame (fun b e _=>⟨acH b _ _ e,hother _ (by simp) b e⟩) (fun b e _=>⟨mro b e,hother _ (by simp) b e⟩)⟩
 ·rcases sK p x with e|⟨e,hne⟩
  ·exact .inl e
  ·exact .inr ⟨e,fun k hr=>absurd hr (hne k)⟩
 ·have htm:t≠m:=fun e=>by
   subst e
   simp only [St.put,List.getElem?_set,if_true] at ht
   split at ht<;>cases ht
  simp [gB,e,htm]
theorem VZ {T0:TypeId} {p j m:Nat} (h:aI L σ T st a w) (hd:o.dst=none) (ho:o.op=.store T0 y y2) (hm:aY y x=true) (hm2:aY y2 (.t m)=true) (hs:jr P T0=some n) {zs:List PV} (h1:st.slots.getD m .any=.pv (.agg zs)) (h2:st.get x=.aQ p j)
  {bx:Box} (h3:st.boxes[p]?=some bx) (hf:bx.fz=false) (h5:zs.length=n) (h6:j+n≤bx.cs.length) :
  Does P L σ T st.boxes.length { st with slots:=st.slots.map (AV.dG p),boxes:=st.boxes.set p { bx with cs:=bx.cs.take j++zs.map sBV++bx.cs.drop (j+n) } } a w o false:=by
 have h0:st.consume (.t m)=some (.agg zs,false,st):=by simp only [St.consume];rw [h1]
 obtain ⟨T1,k1,k2,k3,k4,k5⟩:=h.consume hm2 h0
 obtain ⟨_,hp2⟩:=k1.aQ hm h2
 obtain ⟨arr,E,b1,b2,b3,b4,b5⟩:=k1.boxes p bx h3
 have hc:=(k4 rfl).cells
 have c1:∀ u∈(a.eval y2).cells.toList,u.oneCell'=true:=hc.mem1.1
 have c2:(a.eval y2).cells.size=n:=by rw [hc.size];exact h5
 have hfit:j+(a.eval y2).cells.size≤arr.size:=by rw [c2,b2];exact h6
 have hrun:=kY (P:=P) (T0:=T0) (w:=w) (b:=σ p) (off:=j) (tb:=E) (v:=a.eval y2) (arr:=arr) (by rw [hs,c2]) b1 hfit c1
 obtain ⟨arr',harr⟩:∃ arr',arr'=(arr.toList.take j++(a.eval y2).cells.toList++arr.toList.drop (j+(a.eval y2).cells.toList.length)).toArray:=⟨_,rfl⟩
 rw [← harr] at hrun
 have hlen:(a.eval y2).cells.toList.length=n:=by rw [Array.length_toList,c2]
 have hget:∀ k,arr'[k]?=if j≤k∧k<j+n then (a.eval y2).cells[k - j]? else arr[k]?:=fun k=>by
  rw [harr,List.getElem?_toArray,jm (by rw [hlen];simpa [b2] using h6),hlen]
  simp
 have hsz:arr'.size=arr.size:=by rw [harr];simp only [List.size_toArray,List.length_append,List.length_take,List.length_drop,Array.length_toList,hlen];rw [Array.length_toList] at hlen;omega
 have hother:∀ q,q≠.box p→∀ b,T1 b=q→(w.setRow (σ p) arr').heap[b]?=w.heap[b]?:=fun q hq b e=>setRow_other w (σ p) b arr' (fun e2=>by subst e2;rw [b3,hf] at e;exact hq e.symm)
 have hgo:=k1.Bl (T':=T1) (cs':=bx.cs.take j++zs.map sBV++bx.cs.drop (j+n)) (arr':=arr') (AV.dG p) h3 hf b1 (by simp [h5];omega) hsz (fun k bv u hk hu=>?_) (fun x=>?_) (fun _ e=>e) (fun _ _ e=>e) (fun _ e=>e) (fun _ _ _ _ _ e=>e) (fun _ _ _ _ _ e=>e) (fun _ _ _ _ e=>e)
 ·obtain ⟨s1,s2⟩:=hgo
  exact ⟨_,undef,_,σ,T1,run_store ho hp2 rfl hrun,.inr ⟨rfl,rfl⟩,by rw [hd];exact s1,(k2.nC w).trans s2,fun _ _=>rfl,fun e=>by cases e⟩
 ·have hml:(zs.map sBV).length=n:=by simp [h5]
  have hk2:=jm (cs:=bx.cs) (new:=zs.map sBV) (off:=j) (by rw [hml];exact h6) k
  rw [hml] at hk2
  rw [hk2] at hk
  rw [hget] at hu
  split at hk
  ·rename_i hin
   rw [if_pos hin] at hu
   rw [List.getElem?_map] at hk
   cases e:zs[k - j]? with
   |none=>rw [e] at hk;cases hk
   |some z =>
    rw [e] at hk
    have hr:ay _ w z u:=hc.rep _ z u e hu
    cases hk
    by_cases hnl:∃ sz,z=.kU sz
    ·obtain ⟨sz,rfl⟩:=hnl
     cases hr with
     |kU _ xa=>exact ⟨rfl,.inl ⟨rfl,xa,rfl⟩⟩
    ·have ez:sBV z=.pv z:=by cases z<;>first|rfl|exact absurd ⟨_,rfl⟩ hnl
     rw [ez]
     exact ⟨hc.one _ u hu,hr.frame fun b e _=>⟨e,hother _ (by simp) b e⟩⟩
  ·rename_i hin
   rw [if_neg hin] at hu
   obtain ⟨g1,g2⟩:=b5 k bv u hk hu
   exact ⟨g1,g2.frame (fun b e _=>⟨e,hother _ (by simp) b e⟩) (fun b e _=>⟨e,hother _ (by simp) b e⟩)⟩
 ·rcases sK p x with e|⟨e,hne⟩
  ·exact .inl e
  ·exact .inr ⟨e,fun k hr=>absurd hr (hne k)⟩
end
end Go.Proofs.YtaaokejjmdbfaaaDoor

namespace Go.Proofs.YtaaokejjmdbfaaaDoor
open Go.RowKit
section
variable {P:Program} {L:Nat} {σ σ':Nat→Nat} {T T':Tags} {st st' st1:St} {a:Act} {w w1:World} {o:Oper} {d n:Nat} {x x2:bP} {y y2:Operand}
end
end Go.Proofs.YtaaokejjmdbfaaaDoor

namespace Go.Proofs.YtaaokejjmdbfaaaDoor
open Go.RowKit
section
variable {P:Program} {L:Nat} {σ σ':Nat→Nat} {T T':Tags} {st st' st1:St} {a:Act} {w w1:World} {o:Oper} {d n:Nat} {x x2:bP} {y y2:Operand} {ok:Nat→Prop} {sz:Nat} {es es' ys:List PV} {xs zs:List Value}
 {rec:ak→St→Option (Ex × St)} {env:Env}
theorem aI.eF:∀ {ys:List Operand} {xs:List bP} {T:Tags} {st st1:St} {vs:List PV},aI L σ T st a w→lW ys xs=true→eF st xs=some (vs,st1)→∃ T',aI L σ T' st1 a w∧Still T T'∧st1.boxes.length=st.boxes.length∧vs.length=ys.length ∧
  ∀ (k:Nat) v y,vs[k]?=some v→ys[k]?=some y→ay (fun b=>T' b=.ro) w v (a.eval y)
 |[],[],T,st,st1,vs,h,_,hc=>by
  simp only [Go.Proofs.YtaaokejjmdbfaaaDoor.eF,Option.some.injEq,Prod.mk.injEq] at hc
  obtain ⟨rfl,rfl⟩:=hc
  exact ⟨T,h,Still.refl T,rfl,rfl,fun k v y hv=>by simp at hv⟩
 |[],_ :: _,_,_,_,_,_,hm,_=>by simp [lW] at hm
 |_ :: _,[],_,_,_,_,_,hm,_=>by simp [lW] at hm
 |y :: ys,x :: xs,T,st,st1,vs,h,hm,hc=>by
  simp only [lW,Bool.and_eq_true] at hm
  simp only [Go.Proofs.YtaaokejjmdbfaaaDoor.eF] at hc
  obtain ⟨⟨v,own,st2⟩,h1,hc1⟩:=bind_some hc
  obtain ⟨⟨vs',st3⟩,h2,hc2⟩:=bind_some hc1
  simp only [Option.some.injEq,Prod.mk.injEq] at hc2
  obtain ⟨rfl,rfl⟩:=hc2
  obtain ⟨T1,k1,k2,k3,k4⟩:=h.Bd hm.1 h1
  obtain ⟨T2,q1,q2,q3,q4,q5⟩:=aI.eF k1 hm.2 h2
  refine ⟨T2,q1,k2.trans q2,q3.trans k3,by simp [q4],fun k v' y' hv hy=>?_⟩
  cases k with
  |zero =>
   simp only [List.getElem?_cons_zero,Option.some.injEq] at hv hy
   subst hv;subst hy
   exact k4.frame fun b hb _=>⟨q2.ro b hb,rfl⟩
  |succ k=>exact q5 k v' y' (by simpa using hv) (by simpa using hy)
theorem J6 {place:Nat→Option (Nat × Nat)} (hpl:∀ i,place i=some (i * sz,sz)):∀ (us:List Value) (vs:List PV) (k:Nat) (arr:Array Value),us.length=vs.length→(∀ (i:Nat) u v,us[i]?=some u→vs[i]?=some v→ay ok w v u∧v.cells.length=sz)→(k+us.length) * sz≤arr.size →
  ∃ arr',Instr.fill place arr ((us.zipIdx k).map fun p=>(p.2,p.1))=some arr'∧arr'.size=arr.size∧(∀ p,p<k * sz→arr'[p]?=arr[p]?)∧∀ i e j x,vs[i]?=some e→e.cells[j]?=some x→∃ u,arr'[(k+i) * sz+j]?=some u∧u.oneCell'=true∧ay ok w x u
 |[],vs,k,arr,hl,_,_=>⟨arr,rfl,rfl,fun _ _=>rfl,fun i e j x hi=>by cases vs<;>simp at hl hi⟩
 |u :: us,[],k,arr,hl,_,_=>by simp at hl
 |u :: us,v :: vs,k,arr,hl,hp,hs=>by
  obtain ⟨h1,h2⟩:=hp 0 u v rfl rfl
  have hc:=h1.cells
  have hcs:u.cells.size=sz:=by rw [hc.size,h2]
  have hks:k * sz+sz≤arr.size:=by
   have:(k+1) * sz≤(k+(us.length+1)) * sz:=Nat.mul_le_mul_right _ (by omega)
   rw [Nat.add_mul,Nat.one_mul] at this
   simp at hs;omega
  have e0:(u.cells.zipIdx).foldl (fun cs (p:Value × Nat)=>cs.setIfInBounds (k * sz+p.2) p.1) arr=(u.cells.toList.zipIdx 0).foldl (fun cs (p:Value × Nat)=>cs.setIfInBounds (k * sz+p.2) p.1) arr:=by
   rw [← Array.foldl_toList,Array.toList_zipIdx]
  have hget:=foldl_set arr (k * sz) u.cells.toList 0 arr (by simp [hcs];omega)
  obtain ⟨arr',g1,g2,g3,g4⟩:=J6 hpl us vs (k+1) ((u.cells.toList.zipIdx 0).foldl (fun cs (p:Value × Nat)=>cs.setIfInBounds (k * sz+p.2) p.1) arr) (by simpa using hl) (fun i u' v' hu hv=>hp (i+1) u' v' (by simpa using hu) (by simpa using hv)) (by rw [qP];simp at hs;rw [show k+1+us.length=k+(us.length+1) by omega];exact hs)
  refine ⟨arr',?_,by rw [g2,qP],fun p hp'=>?_,fun i e j x hi hj=>?_⟩
  ·simp only [List.zipIdx_cons,List.map_cons,Instr.fill,hpl]
   rw [if_neg (by simp [hcs];omega)]
   exact (congrArg (fun c=>Instr.fill place c _) e0).trans g1
  ·rw [g3 p (by rw [Nat.add_mul];omega),hget,if_neg (by omega)]
  ·cases i with
   |zero =>
    simp only [List.getElem?_cons_zero,Option.some.injEq] at hi
    subst hi
    have hj':j<sz:=by rw [← h2];exact (List.getElem?_eq_some_iff.1 hj).1
    have e2:u.cells[j]?=some u.cells[j]:=Array.getElem?_eq_getElem (by omega)
    refine ⟨u.cells[j],?_,hc.one j _ e2,hc.rep j x _ hj e2⟩
    rw [Nat.add_zero,g3 _ (by rw [Nat.add_mul];omega),hget,if_pos ⟨by omega,by simp [hcs];omega⟩,show k * sz+j - (k * sz+0)=j by omega]
    simpa using e2
   |succ i =>
    obtain ⟨u',q1,q2,q3⟩:=g4 i e j x (by simpa using hi) hj
    exact ⟨u',by rw [show k+(i+1)=k+1+i by omega];exact q1,q2,q3⟩
def numbered:Nat→List (Nat × Operand)→Bool
 |_,[]=>true
 |k,(i,_) :: l=>i==k&&numbered (k+1) l
theorem zo:∀ {k:Nat} {l:List (Nat × Operand)},numbered k l=true→(l.map fun p=>(p.1,a.eval p.2))=((l.map fun p=>a.eval p.2).zipIdx k).map fun p=>(p.2,p.1)
 |_,[],_=>rfl
 |k,(i,y) :: l,h=>by
  simp only [numbered,Bool.and_eq_true,beq_iff_eq] at h
  simp only [List.map_cons,List.zipIdx_cons,zo h.2,h.1]
theorem SI {T0 len:Nat} {l:List (Nat × Operand)} {xs:List bP} (h:aI L σ T st a w) (hd:o.dst=some d) (ho:o.op=.buildSlice T0 len l.toArray) (hm:lW (l.map (·.2)) xs=true) (hn:numbered 0 l=true) (hlen:len=l.length) (he:qR P T0 sz=true) (hlim:len * sz≤16777216)
  (hp:act rec env (.jZ d sz xs) st=some st'):Does P L σ T st.boxes.length st' a w o true:=by
 simp only [act] at hp
 obtain ⟨⟨vs,st1⟩,h1,hp1⟩:=bind_some hp
 clear hp
 simp only at hp1
 split at hp1
 case isFalse=>cases hp1
 rename_i hall
 have hp:=Option.some.inj hp1
 clear hp1
 subst hp
 obtain ⟨e,i,z,g1,g2,g3,g4,g5,g6,g7⟩:=uQ he
 obtain ⟨T1,k1,k2,k3,k4,k5⟩:=h.eF hm h1
 have afS:∀ v∈vs,v.cells.length=sz:=fun v hv=>by have:=List.all_eq_true.1 hall v hv;exact beq_iff_eq.1 this
 obtain ⟨aas,QF⟩:∃ aas:Array Value,aas=(if len * sz=0 then #[] else z.cells):=⟨_,rfl⟩
 obtain ⟨DW,Ez⟩:∃ DW,DW=(Array.range (len * sz)).map (aas[· % aas.size]!):=⟨_,rfl⟩
 have hvl:vs.length=l.length:=by simpa using k4
 obtain ⟨arr,q1,q2,q3,q4⟩:=J6 (ok:=fun b=>T1 b=.ro) (w:=w) (sz:=sz) (place:=fun i=>some (i * sz,sz)) (fun _=>rfl) (l.map fun p=>a.eval p.2) vs 0 DW (by simp [hvl]) (fun i u v hu hv=>by
  rw [List.getElem?_map] at hu
  cases e:l[i]? with
  |none=>rw [e] at hu;cases hu
  |some p =>
   rw [e] at hu;cases hu
   exact ⟨k5 i v p.2 hv (by rw [List.getElem?_map,e];rfl),afS v (List.mem_of_getElem? hv)⟩) (by rw [Ez];simp [hlen])
 rw [← zo hn] at q1
 have hrun:(Instr.buildSlice T0 len (l.map fun p=>(p.1,a.eval p.2)).toArray).run P w=.ok (.slice (some ⟨w.heap.size,0,none⟩) len len) (w.alloc (.cells arr e)):=by
  have hl2:¬ (len * sz > 2 ^ 24):=by omega
  unfold Instr.buildSlice
  simp only [Sem.run_bind,run_underlying g1,Result.andThen_ok,oD (P:=P) (T:=e) (n:=sz) (by simp [jr,g2,g3]),if_neg hl2,Sem.run_pure]
  by_cases h0:len * sz=0
  ·rw [if_pos h0] at QF
   rw [if_pos h0]
   simp only [Sem.run_bind,Sem.run_pure,Result.andThen_ok]
   rw [QF] at Ez
   rw [← Ez,q1]
   simp [newRow,newObj,Sem.run]
   try rfl
  ·rw [if_neg h0] at QF
   rw [if_neg h0]
   simp only [Sem.run_bind,Sem.run_pure,Result.andThen_ok,zeroValue,typeInfo,program,Sem.run,g2,g5]
   rw [QF] at Ez
   rw [← Ez,q1]
   simp [newRow,newObj,Sem.run]
   try rfl
 refine ⟨_,.slice (some ⟨w.heap.size,0,none⟩) len len,w.alloc (.cells arr e),σ,upd T1 w.heap.size (.row (.slot d)),?_,.inl rfl,?_,(k2.nC w).trans (kQ (k1.fresh _ (Nat.le_refl _)) _ _),fun _ _=>rfl,fun _=>jI _ _⟩
 ·simp only [execOp,ho,List.map_toArray]
  simp [hrun]
 ·rw [hd]
  have hsz:arr.size=len * sz:=by rw [q2,Ez];simp
  have key:=k1.J3 (d:=d) (sz:=sz) (c:=len) (E:=e) (es:=vs) (arr:=arr) hsz (by omega) (Nat.le_trans (Nat.le_mul_of_pos_right _ g4) (by unfold maxLen;omega)) afS (fun i e j x hi hj=>by have:=q4 i e j x hi hj;rwa [Nat.zero_add] at this)
  rw [hvl,← hlen] at key
  exact key
end
end Go.Proofs.YtaaokejjmdbfaaaDoor

namespace Go.Proofs.YtaaokejjmdbfaaaDoor
open Go.RowKit
def aP (st st':St):Prop:=st.boxes.length≤st'.boxes.length∧st'.ys=st.ys∧st'.stop=st.stop
theorem aP.refl (st:St):aP st st:=⟨Nat.le_refl _,rfl,rfl⟩
theorem aP.trans {a b c:St} (h:aP a b) (k:aP b c):aP a c:=⟨Nat.le_trans h.1 k.1,k.2.1.trans h.2.1,k.2.2.trans h.2.2⟩
theorem aP.put {st st':St} (h:aP st st') (d:Nat) (v:AV):aP st (st'.put d v):=h
theorem aP.putRow {st st':St} (h:aP st st') (d sz:Nat) (es:List PV):aP st (st'.putRow d sz es):=h
theorem aP.setCell {st st':St} (h:aP st st') (o j:Nat) (v:BV):aP st (st'.setCell o j v):=by
 unfold St.setCell;split
 ·unfold aP at *;simpa using h
 ·exact h
theorem aP.jC {st st':St} (h:aP st st') (o j sz:Nat) (es:List PV):aP st (st'.jC o j sz es):=h.setCell o j _
theorem aP.freeze {st st':St} (h:aP st st') (r:Root):aP st (st'.freeze r):=by
 refine ⟨by rw [qO];exact h.1,?_,?_⟩
 ·unfold St.freeze;split
  ·split<;>first|exact h.2.1|(unfold St.setCell;split<;>exact h.2.1)
  ·exact h.2.1
 ·unfold St.freeze;split
  ·split<;>first|exact h.2.2|(unfold St.setCell;split<;>exact h.2.2)
  ·exact h.2.2
theorem aP.bf {st st':St} (h:aP st st') (o:Nat):aP st (st'.bf o):=by
 unfold St.bf;split
 ·unfold aP at *;simpa using h
 ·exact h
theorem aP.aZ {st st':St} (h:aP st st') (o:Nat):aP st (st'.aZ o):=by
 unfold St.aZ;split
 ·unfold aP at *;simpa using h
 ·exact h
theorem aP.jQ:∀ (fz:List bP) {st st':St},aP st st'→aP st (fz.foldl St.gG st')
 |[],_,_,h=>h
 |x :: fz,st,st',h=>by
  refine aP.jQ fz ?_
  unfold St.gG
  split
  ·exact h.aZ _
  ·exact h
theorem aP.takeRow {st st':St} (h:aP st st') (r:Root):aP st (st'.takeRow r):=by
 cases r
 ·exact h
 ·exact h
 ·exact h.setCell _ _ _
theorem aP.setRow {st st':St} (h:aP st st') (r:Root) (sz:Nat) (es:List PV):aP st (st'.setRow r sz es):=by
 cases r
 ·exact h
 ·exact h
 ·exact h.setCell _ _ _
theorem aP.lay {st st':St} (h:aP st st') (d:Nat) (v:PV) (own:Bool):aP st (st'.lay d v own):=by
 unfold St.lay;split
 ·split<;>exact h
 ·exact h
theorem aP.layAll {st st':St} (h:aP st st') (d:Nat) (l:List l9):aP st (st'.layAll d l):=by
 unfold St.layAll;split
 ·exact h.lay _ _ _
 ·exact h
theorem aP.bg {st st':St} (h:aP st st') (x:bP) (v:AV):aP st (st'.bg x v):=by
 unfold St.bg
 split
 ·split
  ·exact h.freeze _
  ·exact h
 ·exact h.freeze _
 ·exact h.freeze _
 ·exact h.aZ _
 ·exact h
theorem aP.foldl {β:Type} {st:St} {f:St→β→St} (hf:∀ s x,aP st s→aP st (f s x)):∀ (l:List β) (s:St),aP st s→aP st (l.foldl f s)
 |[],_,h=>h
 |x :: l,s,h=>aP.foldl hf l _ (hf s x h)
theorem aP.bZ {st st':St} (h:aP st st') (x:bP):aP st (st'.bZ x):=by
 unfold St.bZ
 split
 ·exact aP.foldl (fun s v hs=>hs.bg _ _) _ _ h
 ·exact h.bg _ _
theorem aP.oH:∀ (caps:List AV) {st st':St},aP st st'→aP st (caps.foldl St.fH st')
 |[],_,_,h=>h
 |v :: caps,st,st',h=>by
  refine aP.oH caps ?_
  unfold St.fH
  split
  ·exact h.aZ _
  ·exact h
theorem nT {st st':St} {x:bP} {v:PV} {own:Bool} (h:st.consume x=some (v,own,st')):aP st st':=by
 cases x with
 |c v'=>simp only [St.consume,Option.some.injEq,Prod.mk.injEq] at h;rw [← h.2.2];exact aP.refl _
 |nil sz=>simp only [St.consume,Option.some.injEq,Prod.mk.injEq] at h;rw [← h.2.2];exact aP.refl _
 |t n =>
  simp only [St.consume] at h
  split at h
  ·simp only [Option.some.injEq,Prod.mk.injEq] at h;rw [← h.2.2];exact aP.refl _
  ·simp only [Option.some.injEq,Prod.mk.injEq] at h;rw [← h.2.2];exact aP.refl _
  ·split at h
   ·split at h
    ·simp only [Option.some.injEq,Prod.mk.injEq] at h;rw [← h.2.2];exact (aP.refl _).freeze _
    ·cases h
   ·cases h
  ·split at h
   ·simp only [Option.some.injEq,Prod.mk.injEq] at h;rw [← h.2.2];exact aP.oH _ (aP.refl _)
   ·cases h
  ·cases h
theorem kH:∀ {xs:List bP} {st st':St} {vs:List PV},eF st xs=some (vs,st')→aP st st'
 |[],st,st',vs,h=>by simp only [eF,Option.some.injEq,Prod.mk.injEq] at h;rw [← h.2];exact aP.refl _
 |x :: xs,st,st',vs,h=>by
  simp only [eF] at h
  obtain ⟨⟨v,own,st2⟩,h1,h2⟩:=bind_some h
  obtain ⟨⟨vs',st3⟩,h3,h4⟩:=bind_some h2
  simp only [Option.some.injEq,Prod.mk.injEq] at h4
  rw [← h4.2]
  exact (nT h1).trans (kH h3)
theorem nD:∀ {l:List (Nat × Nat × bP)} {cs cs':List PV} {st st':St},gW cs st l=some (cs',st')→aP st st'
 |[],cs,cs',st,st',h=>by simp only [gW,Option.some.injEq,Prod.mk.injEq] at h;rw [← h.2];exact aP.refl _
 |(off,n,x) :: l,cs,cs',st,st',h=>by
  simp only [gW] at h
  obtain ⟨⟨v,own,st2⟩,h1,h2⟩:=bind_some h
  obtain ⟨cs2,h3,h4⟩:=bind_some h2
  simp only at h4
  split at h4
  ·exact (nT h1).trans (nD h4)
  ·cases h4
theorem yG {st st':St} {x:bP} {sz:Nat} {es:List PV} (h:st.grab x=some (sz,es,st')):aP st st':=by
 cases x with
 |c v'=>simp [St.grab] at h
 |nil s=>simp only [St.grab,Option.some.injEq,Prod.mk.injEq] at h;rw [← h.2.2];exact aP.refl _
 |t n =>
  simp only [St.grab] at h
  split at h
  case h_1=>simp only [Option.some.injEq,Prod.mk.injEq] at h;rw [← h.2.2];exact aP.refl _
  case h_2 =>
   split at h
   ·split at h
    ·simp only [Option.some.injEq,Prod.mk.injEq] at h;rw [← h.2.2];exact (aP.refl _).takeRow _
    ·cases h
   ·cases h
  case h_3=>simp only [Option.some.injEq,Prod.mk.injEq] at h;rw [← h.2.2];exact aP.refl _
  case h_4=>cases h
theorem qU {o:fM} {st st':St} (h:plain o st=some st'):aP st st':=by
 cases o<;>simp only [plain] at h
 case load d n p =>
  split at h
  ·obtain ⟨v,_,h⟩:=bind_some h;rw [← Option.some.inj h];exact aP.refl _
  ·obtain ⟨v,_,h⟩:=bind_some h
   obtain ⟨v,_,h⟩:=bind_some h
   obtain ⟨v,_,h⟩:=bind_some h
   rw [← Option.some.inj h];exact aP.refl _
  ·obtain ⟨bx,_,h1⟩:=bind_some h
   clear h
   split at h1
   ·split at h1
    ·rw [← Option.some.inj h1];exact aP.refl _
    ·split at h1
     ·cases h1
     ·rw [← Option.some.inj h1];exact aP.refl _
    ·cases h1
   ·obtain ⟨v,_,h⟩:=bind_some h1;rw [← Option.some.inj h];exact ((aP.refl _).bf _)
  ·cases h
 case NJ d z parts off m =>
  replace h:=bind_some h
  obtain ⟨⟨cs,st1⟩,h1,h⟩:=h
  simp only at h
  split at h
  ·split at h
   ·rw [← Option.some.inj h];exact ((nD h1).put _ _).put _ _
   ·cases h
  ·cases h
 case build d z parts =>
  obtain ⟨⟨cs,st1⟩,h1,h2⟩:=bind_some h
  rw [← Option.some.inj h2];exact (nD h1).put _ _
 case mvz d x =>
  split at h
  ·split at h
   ·rw [← Option.some.inj h];exact (aP.refl _).put _ _
   ·rw [← Option.some.inj h];exact ((aP.refl _).freeze _).put _ _
   ·cases h
  ·cases h
 case Vk d n x =>
  split at h
  ·split at h
   ·split at h
    ·rw [← Option.some.inj h];exact ((aP.refl _).aZ _).put _ _
    ·cases h
   ·cases h
  ·cases h
 case asz d n sz x =>
  split at h
  ·split at h
   ·split at h
    ·rw [← Option.some.inj h];exact ((aP.refl _).aZ _).put _ _
    ·cases h
   ·cases h
  ·cases h
 case sl3 d sz x hi mx =>
  obtain ⟨_,_,h2⟩:=bind_some h
  clear h
  obtain ⟨_,_,h⟩:=bind_some h2
  clear h2
  split at h
  ·obtain ⟨_,_,h2⟩:=bind_some h
   clear h
   obtain ⟨_,_,h⟩:=bind_some h2
   clear h2
   split at h
   ·rw [← Option.some.inj h];exact (aP.refl _).put _ _
   ·cases h
  ·obtain ⟨_,_,h2⟩:=bind_some h
   clear h
   obtain ⟨_,_,h⟩:=bind_some h2
   clear h2
   obtain ⟨_,_,h2⟩:=bind_some h
   clear h
   split at h2
   ·rw [← Option.some.inj h2];exact ((aP.refl _).freeze _).put _ _
   ·cases h2
  ·cases h
 case ldm d n p =>
  split at h
  ·obtain ⟨b,_,h1⟩:=bind_some h
   clear h
   split at h1
   ·cases h1
   ·rw [← Option.some.inj h1];unfold aP;simp [St.put]
  ·cases h
 case Qu d n x =>
  split at h
  ·split at h
   ·split at h
    ·obtain ⟨v,_,h⟩:=Option.map_eq_some_iff.1 h
     subst h;exact (aP.refl _).put _ _
    ·cases h
   ·cases h
  ·obtain ⟨v,_,h⟩:=Option.map_eq_some_iff.1 h
   subst h;exact (aP.refl _).put _ _
  ·cases h
 all_goals
  repeat' (first
   |(have h2:=Option.some.inj h;subst h2;first|exact aP.refl _|exact (aP.refl _).put _ _|exact (aP.refl _).putRow _ _ _)
   |(cases h;done)
   |(replace h:=bind_some h;obtain ⟨_,_,h⟩:=h)
   |split at h)
theorem pq {rec:ak→St→Option (Ex × St)} {env:Env} {d f:Nat} {args:List bP} {caps:List AV} {st st':St} (h:gQ rec env d f args caps st=some st'):aP st st':=by
 unfold gQ at h
 replace h:=bind_some h
 obtain ⟨l,_,h⟩:=h
 replace h:=bind_some h
 obtain ⟨k,_,h⟩:=h
 replace h:=bind_some h
 obtain ⟨rs,_,h⟩:=h
 have h:=Option.some.inj h
 subst h
 refine aP.layAll ?_ _ _
 split
 ·exact aP.foldl (fun s v hs=>hs.bg _ _) _ _ (aP.foldl (fun s v hs=>hs.bZ _) _ _ (aP.refl _))
 ·exact aP.refl _
theorem Gy {st st':St} {x:bP} {la:kC} {bo:Option Nat} (h:qJ st x=some (la,bo,st')):aP st st':=by
 unfold qJ at h
 split at h
 ·split at h
  ·cases h;exact (aP.refl _).put _ _
  ·cases h
 ·split at h
  ·split at h
   ·cases h
   ·cases h;exact (aP.refl _).bf _
  ·cases h
 ·cases hg:st.grab x with
  |none=>rw [hg] at h;cases h
  |some q =>
   obtain ⟨sz,es,s⟩:=q
   rw [hg] at h;cases h
   exact yG hg
theorem Gz {st st':St} {bo:Option Nat} {out:Option (List PV)} (h:mg st bo out=some st'):aP st st':=by
 unfold mg at h
 split at h
 ·cases h;exact aP.refl _
 ·split at h
  ·cases h;unfold aP;simp
  ·cases h
 ·cases h
theorem nU {rec:ak→St→Option (Ex × St)} {env:Env} {d f:Nat} {x:bP} {args:List bP} {caps:List AV} {st st':St} (h:fD rec env d f x args caps st=some st'):aP st st':=by
 unfold fD mP at h
 replace h:=bind_some h
 obtain ⟨l,_,h⟩:=h
 replace h:=bind_some h
 obtain ⟨k,_,h⟩:=h
 replace h:=bind_some h
 obtain ⟨⟨la,bo,s1⟩,h1,h⟩:=h
 replace h:=bind_some h
 obtain ⟨r,_,h⟩:=h
 replace h:=bind_some h
 obtain ⟨s2,h2,h⟩:=h
 have h:=Option.some.inj h
 subst h
 split at h1
 ·cases h1
 ·exact ((aP.foldl (fun s x hs=>hs.bZ x) _ _ (aP.refl _)).trans ((Gy h1).trans (Gz h2))).layAll _ _
theorem J7 {rec:ak→St→Option (Ex × St)} {env:Env} {o:fM} {st st':St} (hv:∀ d x xs,o≠.yield d x xs) (h:act rec env o st=some st'):aP st st':=by
 cases o<;>simp only [act] at h
 case alloc d z=>rw [← Option.some.inj h];unfold aP;simp [St.put]
 case box d x =>
  replace h:=bind_some h
  obtain ⟨⟨v,own,st1⟩,h1,h⟩:=h
  rw [← Option.some.inj h]
  refine (nT h1).trans ?_
  unfold aP;simp [St.put]
 case store d n p x =>
  replace h:=bind_some h
  obtain ⟨⟨v,own,st1⟩,h1,h⟩:=h
  refine (nT h1).trans ?_
  simp only at h
  split at h
  ·replace h:=bind_some h
   obtain ⟨b,_,h⟩:=h
   split at h
   ·cases h
   ·split at h
    ·rw [← Option.some.inj h];exact (aP.refl _).jC _ _ _ _
    ·rw [← Option.some.inj h];unfold aP;simp
  ·replace h:=bind_some h
   obtain ⟨⟨s,l⟩,_,h⟩:=h
   replace h:=bind_some h
   obtain ⟨e,_,h⟩:=h
   split at h
   ·replace h:=bind_some h
    obtain ⟨cs,_,h⟩:=h
    replace h:=bind_some h
    obtain ⟨e',_,h⟩:=h
    rw [← Option.some.inj h];exact (aP.refl _).setRow _ _ _
   ·cases h
  ·cases h
 case jZ d sz parts =>
  replace h:=bind_some h
  obtain ⟨⟨vs,st1⟩,h1,h⟩:=h
  simp only at h
  split at h
  ·rw [← Option.some.inj h];exact (kH h1).putRow _ _ _
  ·cases h
 case make d z n c =>
  repeat' (first
   |(have h2:=Option.some.inj h;subst h2;first|exact aP.refl _|exact (aP.refl _).put _ _|exact (aP.refl _).putRow _ _ _)
   |(cases h;done)
   |(replace h:=bind_some h;obtain ⟨_,_,h⟩:=h)
   |split at h)
 case app d sz x y =>
  replace h:=bind_some h
  obtain ⟨⟨sy,ys⟩,_,h⟩:=h
  replace h:=bind_some h
  obtain ⟨⟨sx,es,st1⟩,h1,h⟩:=h
  simp only at h
  split at h
  ·rw [← Option.some.inj h];exact (yG h1).putRow _ _ _
  ·cases h
 case apb d x y =>
  replace h:=bind_some h
  obtain ⟨⟨sy,ys⟩,_,h⟩:=h
  replace h:=bind_some h
  obtain ⟨⟨sx,es,st1⟩,h1,h⟩:=h
  simp only at h
  split at h
  ·rw [← Option.some.inj h];exact (yG h1).putRow _ _ _
  ·cases h
 case apf d sz x y =>
  replace h:=bind_some h
  obtain ⟨⟨sy,ys⟩,_,h⟩:=h
  simp only at h
  split at h
  ·split at h
   ·rw [← Option.some.inj h];exact ((aP.refl _).putRow _ _ _).put _ _
   ·cases h
  ·cases h
 case cpy d sz x y =>
  replace h:=bind_some h
  obtain ⟨⟨sy,ys⟩,_,h⟩:=h
  replace h:=bind_some h
  obtain ⟨⟨r,off,len⟩,_,h⟩:=h
  replace h:=bind_some h
  obtain ⟨⟨sx,es⟩,h1,h⟩:=h
  simp only at h
  split at h
  ·rw [← Option.some.inj h];exact ((aP.refl _).setRow _ _ _).put _ _
  ·cases h
 case ZY d x =>
  split at h
  ·split at h
   ·replace h:=bind_some h
    obtain ⟨cs,_,h⟩:=h
    rw [← Option.some.inj h];unfold aP;simp [St.put]
   ·cases h
  ·cases h
 case ZX n p x =>
  split at h
  ·split at h
   ·split at h
    ·replace h:=bind_some h
     obtain ⟨b,_,h⟩:=h
     replace h:=bind_some h
     obtain ⟨cs,_,h⟩:=h
     split at h
     ·cases h
     ·rw [← Option.some.inj h];unfold aP;simp [St.put]
    ·cases h
   ·split at h
    ·replace h:=bind_some h
     obtain ⟨b,_,h⟩:=h
     split at h
     ·cases h
     ·rw [← Option.some.inj h];unfold aP;simp
    ·cases h
   ·cases h
  ·cases h
 case Gg d f x g =>
  split at h
  ·replace h:=bind_some h
   obtain ⟨⟨r,off,len⟩,_,h⟩:=h
   replace h:=bind_some h
   obtain ⟨⟨sx,es⟩,h1,h⟩:=h
   replace h:=bind_some h
   obtain ⟨c,_,h⟩:=h
   replace h:=bind_some h
   obtain ⟨es',_,h⟩:=h
   simp only at h
   split at h
   ·rw [← Option.some.inj h];exact ((aP.refl _).setRow _ _ _).put _ _
   ·cases h
  ·cases h
 case call d f args=>exact pq h
 case lin d f x args=>exact nU h
 case linv d g x args =>
  split at h
  ·exact nU h
  ·exact nU h
  ·cases h
 case ku d x args =>
  split at h
  ·exact pq h
  ·exact pq h
  ·cases h
 case yield d x args=>exact absurd rfl (hv _ _ _)
 all_goals cases h
end Go.Proofs.YtaaokejjmdbfaaaDoor

namespace Go.Proofs.YtaaokejjmdbfaaaDoor
open Go.RowKit
section
variable {P:Program} {L:Nat} {σ σ':Nat→Nat} {T T':Tags} {st st' st1:St} {a:Act} {w w1:World} {o:Oper} {d n:Nat} {x x2 x3:bP} {y y2 y3:Operand} {ok:Nat→Prop} {sz:Nat} {es ys:List PV} {xs zs:List Value}
 {rec:ak→St→Option (Ex × St)} {env:Env}
end
end Go.Proofs.YtaaokejjmdbfaaaDoor

namespace Go.Proofs.YtaaokejjmdbfaaaDoor
open Go.RowKit
section
variable {P:Program} {L:Nat} {σ σ':Nat→Nat} {T T' T1 T2:Tags} {st st' st1:St} {a:Act} {w w1:World} {o:Oper} {d n:Nat} {x x2:bP} {y y2:Operand} {rec:ak→St→Option (Ex × St)} {env:Env}
theorem aI.acI (h:aI L σ T st a w) {q:Nat} {bx:Box} {cs:List PV} (hb:st.boxes[q]?=some bx) (hf:bx.fz=false) (hfr:∀ b,w1.heap.size≤b→T b=.other)
  (hw:∀ b,b<w.heap.size→b≠σ q→T b≠.other→w1.heap[b]?=w.heap[b]?)
  (harr:∃ arr E,w1.heap[σ q]?=some (.cells arr E (0,0))∧arr.size=cs.length∧∀ (j:Nat) x u,cs[j]?=some x→arr[j]?=some u→u.oneCell'=true∧ay (fun b=>T b=.ro) w1 x u) :
  aI L σ T { st with boxes:=st.boxes.set q { bx with cs:=cs.map .pv } } a w1:=by
 have V3:T (σ q)=.box q:=by
  obtain ⟨_,_,_,_,h3,_⟩:=h.boxes q bx hb
  rw [h3,if_neg (by simp [hf])]
 have ol:q<st.boxes.length:=(List.getElem?_eq_some_iff.1 hb).1
 have hro:∀ b,T b=.ro→b<w.heap.size→T b=.ro∧w1.heap[b]?=w.heap[b]?:=fun b e hl=>⟨e,hw b hl (fun e2=>by rw [e2,V3] at e;cases e) (by rw [e];simp)⟩
 have hrw:∀ r b,T b=.row r→b<w.heap.size→T b=.row r∧w1.heap[b]?=w.heap[b]?:=fun r b e hl=>⟨e,hw b hl (fun e2=>by rw [e2,V3] at e;cases e) (by rw [e];simp)⟩
 have hbox:∀ p bx',st.boxes[p]?=some bx'→p≠q→w1.heap[σ p]?=w.heap[σ p]?:=fun p bx' hp hne=>by
  have hB:=h.boxes p bx' hp
  obtain ⟨_,_,g1,_,h3,_⟩:=hB
  refine hw _ (Array.getElem?_eq_some_iff.1 g1).1 (fun e=>?_) (by rw [h3];split<;>simp)
  rw [e,V3] at h3
  split at h3
  ·cases h3
  ·injection h3 with h3;exact hne h3.symm
 have hrow:∀ r sz es,({ st with boxes:=st.boxes.set q { bx with cs:=cs.map .pv } }:St).row r=some (sz,es)→st.row r=some (sz,es)∧hdr σ a w1 r=hdr σ a w r:=fun r sz es e=>by
  cases r with
  |slot t=>exact ⟨e,rfl⟩
  |part t i=>simp [St.row] at e
  |cell p j =>
   by_cases hpq:p=q
   ·subst hpq
    simp only [St.row,List.getElem?_set,if_true,if_pos ol,hf,Bool.false_eq_true,if_false,List.getElem?_map] at e
    cases hc:cs[j]? with
    |none=>rw [hc] at e;simp at e
    |some v=>rw [hc] at e;simp at e
   ·have e':st.row (.cell p j)=some (sz,es):=by
     simp only [St.row,List.getElem?_set,if_neg (Ne.symm hpq)] at e ⊢
     exact e
    refine ⟨e',?_⟩
    obtain ⟨bx',g1,_,_⟩:=dO e'
    exact World.cell?_of_block (w:=w) (a:=⟨σ p,j,none⟩) (hbox p bx' g1 hpq)
 refine ⟨h.size,fun t x u hx hu=>?_,fun p bx' hp=>?_,hfr⟩
 ·exact (h.slots t x u hx hu).keep hro (fun _ _ _ b e hl=>hrw _ b e hl) (fun _ _ _ _ b e hl=>hrw _ b e hl) (fun r _ _ sz es e=>⟨⟨es,(hrow r sz es e).1⟩,(hrow r sz es e).2⟩) (by simp) (fun _ _=>rfl)
 ·rw [List.getElem?_set] at hp
  by_cases hpq:q=p
  ·subst hpq
   simp only [if_true,if_pos ol,Option.some.injEq] at hp
   subst hp
   obtain ⟨arr,E,g1,g2,g3⟩:=harr
   refine ⟨arr,E,g1,by simpa using g2,by simp [hf,V3],fun e=>(by simp [hf] at e),fun j bv u hj hu=>?_⟩
   simp only [List.getElem?_map] at hj
   cases hc:cs[j]? with
   |none=>rw [hc] at hj;cases hj
   |some v =>
    rw [hc] at hj;cases hj
    exact g3 j v u hc hu
  ·rw [if_neg hpq] at hp
   exact (h.boxes p bx' hp).frame ⟨rfl,hbox p bx' hp (Ne.symm hpq)⟩ (fun j b e hl=>hrw _ b e hl) hro
theorem aI.adr (h:aI L σ T st a w) (hn:∀ k l,st.slots[n]?≠some (.jY k l)) {p:Nat} (hp:st.boxes.length≤p):aI L σ (gB T n p 0) st a w:=by
 have hro:∀ b,T b=.ro→gB T n p 0 b=.ro:=fun b e=>by simp [gB,e]
 have hw:∀ b,T b=.ro→b<w.heap.size→gB T n p 0 b=.ro∧w.heap[b]?=w.heap[b]?:=fun b e _=>⟨hro b e,rfl⟩
 refine ⟨h.size,fun t x u hx hu=>?_,fun q bx ho=>?_,fun b hb=>by simp [gB,h.fresh b hb]⟩
 ·refine (h.slots t x u hx hu).keep hw (fun s l e b hb _=>⟨by simp [gB,hb],rfl⟩) (fun {k} l e i _ b hb _=>⟨?_,rfl⟩) (fun q hq _ s l e=>⟨⟨l,e⟩,rfl⟩) (Nat.le_refl _) (fun _ _=>rfl)
  have htn:t≠n:=fun e2=>by subst e2;exact hn k l (by rw [hx,e])
  simp [gB,hb,htn]
 ·have hb:=h.boxes q bx ho
  have hT:gB T n p 0 (σ q)=T (σ q):=by
   obtain ⟨_,_,_,_,h3,_⟩:=hb
   rw [h3];split
   ·rename_i hf;exact hro _ (by rw [h3,if_pos hf])
   ·rename_i hf;rw [if_neg hf] at h3;simp [gB,h3]
  exact hb.frame ⟨hT,rfl⟩ (fun k b e _=>⟨by simp [gB,e],rfl⟩) hw
theorem V4 {T0:TypeId} {m:Nat} (h:aI L σ T st a w) (hd:o.dst=some d) (ho:o.op=.box T0 y) (hm:aY y (.t m)=true) {l:List AV} (h1:st.slots.getD m .any=.jY true l) {cs:List BV} (hcs:oZ l=some cs) :
  Does P L σ T st.boxes.length (({ (st.put m .any) with boxes:=st.boxes++[(⟨false,cs⟩:Box)] }:St).put d (.aQ st.boxes.length 0)) a w o true:=by
 have e0:st.get (.t m)=.jY true l:=h1
 obtain ⟨t,e1,hA,hB,yF,g1,g2,g3⟩:=h.at hm e0 (by simp) (by simp) (by simp)
 cases e1
 replace g1:a.eval y=Value.agg yF:=g1
 have hrun:(execOp a.eval o).run P w=.ok (.value (.pointer (some ⟨w.heap.size,0,none⟩))) (w.alloc (.cells (a.eval y).cells T0)):=by
  simp [execOp,ho,Instr.box,newVar,newRow,newObj,Sem.run]
  try rfl
 have k1:=h.forget m
 have k6:=k1.adr (n:=m) (p:=st.boxes.length) (fun k l e=>by
  simp only [St.put,List.getElem?_set,if_true] at e
  split at e<;>cases e) (Nat.le_refl _)
 obtain ⟨cl,cg⟩:=uS hcs
 have mro:∀ b,T b=.ro→gB T m st.boxes.length 0 b=.ro:=fun b e=>by simp [gB,e]
 refine ⟨_,_,_,fun k=>if k=st.boxes.length then w.heap.size else σ k,_,hrun,.inl rfl,?_,((Still.nC ⟨mro,fun b e=>by simp [gB,e]⟩ w).trans (kQ (k6.fresh _ (Nat.le_refl _)) _ (.box st.boxes.length))),fun k hk=>if_neg (by omega),fun _=>jI _ _⟩
 rw [hd]
 refine k6.Bh (by rw [g1];show yF.size=_;omega) (fun j bv u hj hu=>?_)
 rw [g1] at hu
 have hu:yF[j]?=some u:=hu
 rcases cg j bv hj with ⟨v,rfl,e2,e3⟩|⟨sz,es,rfl,e2⟩
 ·have:=g3 j _ u e2 hu
  exact ⟨zn this e3,ay.frame (fun b e _=>⟨mro b e,rfl⟩) this⟩
 ·have hr:aH T w (.part m j) sz es u:=g3 j _ u e2 hu
  obtain ⟨xa,c,e,_⟩:=hr.slice
  refine ⟨by rw [e];rfl,aH.frame (fun b e _=>⟨?_,rfl⟩) (fun b e _=>⟨mro b e,rfl⟩) hr⟩
  simp only [gB,e,if_true,Nat.zero_add]
  rfl
theorem DY (st:St) (p:Nat):(st.aZ p).boxes.length=st.boxes.length:=by
 unfold St.aZ;split<;>simp
theorem aI.zq (h:aI L σ T st a w) (x:bP) (v:AV):∃ T1,aI L σ T1 (st.bg x v) a w∧Still T T1∧(st.bg x v).boxes.length=st.boxes.length:=by
 have hr:∀ r,∃ T1,aI L σ T1 (st.freeze r) a w∧Still T T1∧(st.freeze r).boxes.length=st.boxes.length:=fun r=>by
  obtain ⟨T1,k1,k2,_⟩:=h.freeze r
  exact ⟨T1,k1,k2,qO _ _⟩
 unfold St.bg
 split
 ·split
  ·exact hr _
  ·exact ⟨T,h,Still.refl T,rfl⟩
 ·exact hr _
 ·exact hr _
 ·rename_i p _
  refine ⟨_,h.aZ p,?_,DY _ _⟩
  split
  ·exact Still.gZ T p
  ·exact Still.refl T
 ·exact ⟨T,h,Still.refl T,rfl⟩
theorem aI.zu:∀ (l:List AV) {T:Tags} {st:St},aI L σ T st a w→∃ T1,aI L σ T1 (l.foldl (fun s v=>s.bg (.c .void) v) st) a w∧Still T T1∧(l.foldl (fun s v=>s.bg (.c .void) v) st).boxes.length=st.boxes.length
 |[],T,st,h=>⟨T,h,Still.refl T,rfl⟩
 |v :: l,T,st,h=>by
  obtain ⟨T1,k1,k2,k3⟩:=h.zq (.c .void) v
  obtain ⟨T2,q1,q2,q3⟩:=aI.zu l k1
  exact ⟨T2,q1,k2.trans q2,q3.trans k3⟩
theorem aI.Oc (h:aI L σ T st a w) (x:bP):∃ T1,aI L σ T1 (st.bZ x) a w∧Still T T1∧(st.bZ x).boxes.length=st.boxes.length:=by
 unfold St.bZ
 split
 ·exact aI.zu _ h
 ·exact h.zq _ _
theorem aI.zx:∀ (l:List bP) {T:Tags} {st:St},aI L σ T st a w→∃ T1,aI L σ T1 (l.foldl St.bZ st) a w∧Still T T1∧(l.foldl St.bZ st).boxes.length=st.boxes.length
 |[],T,st,h=>⟨T,h,Still.refl T,rfl⟩
 |x :: l,T,st,h=>by
  obtain ⟨T1,k1,k2,k3⟩:=h.Oc x
  obtain ⟨T2,q1,q2,q3⟩:=aI.zx l k1
  exact ⟨T2,q1,k2.trans q2,q3.trans k3⟩
end
end Go.Proofs.YtaaokejjmdbfaaaDoor

namespace Go.Proofs.YtaaokejjmdbfaaaDoor
open Go.RowKit
def isInt (P:Program) (T:TypeId):Bool:=match P.underlying T with|some (.int _)=>true|_=>false
def Oe (P:Program) (T:TypeId) (k:IntKind):Bool:=match P.underlying T with|some (.int q)=>q==k|_=>false
def Bo (P:Program) (T:TypeId):Bool :=
 match P.underlying T with
 |some (.array _ e)=>(jr P e).isSome
 |some (.struct fs)=>(fs.toList.mapM fun f=>(P.info? f.type).map fun i=>(f.offset,i.size)).isSome
 |_=>false
theorem J8 {P:Program} {T:TypeId} (h:isInt P T=true):∃ q,P.underlying T=some (.int q):=by
 unfold isInt at h;split at h
 ·exact ⟨_,by assumption⟩
 ·cases h
theorem EC {P:Program} {T:TypeId} {k:IntKind} (h:Oe P T k=true):P.underlying T=some (.int k):=by
 unfold Oe at h;split at h
 ·rename_i q hq;rw [hq,beq_iff_eq.1 h]
 ·cases h
theorem zy {P:Program} {T:TypeId} (h:Bo P T=true):(∃ n e,JK P T=some (n,e)∧(jr P e).isSome=true)∨∃ fs pl,P.underlying T=some (.struct fs)∧(fs.toList.mapM fun f=>(P.info? f.type).map fun i=>(f.offset,i.size))=some pl:=by
 unfold Bo at h;split at h
 ·rename_i n e hu;exact .inl ⟨n,e,by simp [JK,hu],h⟩
 ·rename_i fs hu
  obtain ⟨pl,hpl⟩:=Option.isSome_iff_exists.1 h
  exact .inr ⟨fs,pl,hu,hpl⟩
 ·cases h
def QG (o:Op):Option (Builtin × Operand × TypeId) :=
 match o with
 |.call c=>match c.callee with
  |.builtin b=>match c.args.toList with
   |[y]=>match c.argTypes.toList with
    |[T]=>some (b,y,T)
    |_=>none
   |_=>none
  |_=>none
 |_=>none
def J9 (o:Op):Option (Builtin × Operand × Operand × TypeId × TypeId) :=
 match o with
 |.call c=>match c.callee with
  |.builtin b=>match c.args.toList with
   |[y,y2]=>match c.argTypes.toList with
    |[T,T1]=>some (b,y,y2,T,T1)
    |_=>none
   |_=>none
  |_=>none
 |_=>none
def ED (o:Op):Option (Operand × List Operand) :=
 match o with
 |.call c=>match c.callee with
  |.value y=>some (y,c.args.toList)
  |_=>none
 |_=>none
def EF (o:Op):Option (Nat × List Operand) :=
 match o with
 |.call c=>match c.callee with
  |.value (.func f)=>some (f,c.args.toList)
  |_=>none
 |_=>none
theorem Ko {o:Op} {b:Builtin} {y:Operand} {T:TypeId} (h:QG o=some (b,y,T)):o=.call { callee:=.builtin b,args:=#[y],argTypes:=#[T] }:=by
 unfold QG at h
 split at h
 case h_2=>cases h
 rename_i c
 split at h
 case h_2=>cases h
 rename_i b' hb
 split at h
 case h_2=>cases h
 rename_i y' hy
 split at h
 case h_2=>cases h
 rename_i T' hT
 cases h
 obtain ⟨callee,⟨args⟩,⟨ats⟩⟩:=c
 simp only at hb hy hT
 rw [hb,hy,hT]
theorem Bq {o:Op} {b:Builtin} {y y2:Operand} {T T1:TypeId} (h:J9 o=some (b,y,y2,T,T1)):o=.call { callee:=.builtin b,args:=#[y,y2],argTypes:=#[T,T1] }:=by
 unfold J9 at h
 split at h
 case h_2=>cases h
 rename_i c
 split at h
 case h_2=>cases h
 rename_i b' hb
 split at h
 case h_2=>cases h
 rename_i y' y2' hy
 split at h
 case h_2=>cases h
 rename_i T' T1' hT
 cases h
 obtain ⟨callee,⟨args⟩,⟨ats⟩⟩:=c
 simp only at hb hy hT
 rw [hb,hy,hT]
theorem Bv {o:Op} {y:Operand} {ys:List Operand} (h:ED o=some (y,ys)):∃ ats,o=.call { callee:=.value y,args:=ys.toArray,argTypes:=ats }:=by
 unfold ED at h
 split at h
 case h_2=>cases h
 rename_i c
 split at h
 case h_2=>cases h
 rename_i y' hy
 cases h
 obtain ⟨callee,args,ats⟩:=c
 simp only at hy
 exact ⟨ats,by rw [hy]⟩
theorem xq {o:Op} {f:Nat} {ys:List Operand} (h:EF o=some (f,ys)):∃ ats,o=.call { callee:=.value (.func f),args:=ys.toArray,argTypes:=ats }:=by
 unfold EF at h
 split at h
 case h_2=>cases h
 rename_i c
 split at h
 case h_2=>cases h
 rename_i f' hy
 cases h
 obtain ⟨callee,args,ats⟩:=c
 simp only at hy
 exact ⟨ats,by rw [hy]⟩
def mv (P:Program) (op:Op):fM→Bool
 |.aj _ x=>match op with
  |.move y=>aY y x
  |_=>false
 |.aB _ x=>match op with
  |.assign y=>aY y x
  |.move y=>aY y x
  |_=>false
 |.pick _ c x x2=>match op with
  |.pick yc y y2=>aY yc c&&aY y x&&aY y2 x2
  |_=>false
 |.bin _ b x x2=>match op with
  |.binOp b' _ y y2 _=>b==b'&&aY y x&&aY y2 x2
  |_=>false
 |.Qs _ neg n x x2=>match op with
  |.binOp b' T0 y y2 _=>b'==(if neg then .neq else .eql)&&aY y x&&aY y2 x2&&VJ P T0&&jr P T0==some n
  |_=>false
 |.eqm _ _ _ _ _=>false
 |.eqb _ _ _ _=>false
 |.un _ b x=>match op with
  |.unOp b' _ y=>b==b'&&aY y x
  |_=>false
 |.conv _ k x=>match op with
  |.convert src dst y=>aY y x&&isInt P src&&Oe P dst k
  |_=>false
 |.load _ n x=>match op with
  |.load T0 y=>aY y x&&oC P T0==some n
  |_=>false
 |.aX _ x off=>match op with
  |.fieldAddr S y f=>aY y x&&(match uH P S f with|some fd=>fd.offset==off&&(match jr P fd.type with|some (_+1)=>true|_=>false)|none=>false)
  |.nilCheck y=>aY y x&&off==0
  |_=>false
 |.bC _ sz x x2=>match op with
  |.indexAddr T0 y y2=>aY y x&&aY y2 x2&&(match lU P T0 with|some e=>jr P e==some sz|none=>false)
  |_=>false
 |.RG _ _ _ _ _=>false
 |.fld _ _ _ _=>false
 |.idx _ _ _ _ _ _=>false
 |.sli _ _ _ _ _=>false
 |.ext _ x i=>match op with
  |.extract y j=>aY y x&&i==j
  |_=>false
 |.build _ z m=>match op with
  |.build T0 l=>sV P T0 l.toList m&&pX P T0 z&&Bo P T0
  |_=>false
 |.len _ x=>match QG op with
  |some (b,y,T0)=>b==.len&&aY y x&&(lU P T0).isSome
  |none=>false
 |.isn _ _ _=>false
 |.sl3 _ _ _ _ _=>false
 |.cut _ _ _=>false
 |.mvz _ _=>false
 |.Vk _ n x=>match op with
  |.slice T0 y none none none=>aY y x&&(match JK P T0 with
   |some (l,e)=>l==n&&jr P e==some 1
   |none=>false)
  |_=>false
 |.asz _ _ _ _=>false
 |.ldm _ _ _=>false
 |.Qu _ n x=>match op with
  |.load T0 y=>aY y x&&oC P T0==some n
  |_=>false
 |.lens _ _=>false
 |.mn _ mx x x2=>match J9 op with
  |some (b,y,y2,_,_)=>b==(if mx then .max else .min)&&aY y x&&aY y2 x2
  |none=>false
 |.RH _ f xs=>match op with
  |.makeFunc fn first ys=>isFn f fn&&first.isEmpty&&lW ys.toList xs
  |_=>false
 |.alloc _ z=>match op with
  |.alloc T0=>pX P T0 z
  |_=>false
 |.box _ x=>match op with
  |.box _ y=>aY y x
  |_=>false
 |.store dd n x x2=>match op with
  |.store T0 y y2=>dd.isNone&&aY y x&&aY y2 x2&&jr P T0==some n
  |_=>false
 |.jZ _ sz xs=>match op with
  |.buildSlice T0 len l=>lW (l.toList.map (·.2)) xs&&numbered 0 l.toList&&len==l.size&&qR P T0 sz&&decide (len * sz≤16777216)
  |_=>false
 |.make _ z x x2=>match op with
  |.makeSlice T0 y y2=>aY y x&&aY y2 x2&&qR P T0 z.cells.length&&(match lU P T0 with|some e=>pX P e z.cells|none=>false)
  |_=>false
 |.app _ sz x x2=>match J9 op with
  |some (b,y,y2,T0,T1)=>b==.append&&T0==T1&&aY y x&&aY y2 x2&&qR P T0 sz
  |none=>false
 |.apf _ _ _ _=>false
 |.apb _ _ _=>false
 |.cpy _ _ _ _=>false
 |.call _ f xs=>match EF op with
  |some (g,ys)=>f==g&&lW ys xs
  |none=>false
 |.ku _ x xs=>match ED op with
  |some (y,ys)=>aY y x&&lW ys xs
  |none=>false
 |.lin _ f x xs=>match EF op with
  |some (g,y :: ys)=>f==g&&aY y x&&lW ys xs
  |_=>false
 |.linv _ g x xs=>match ED op with
  |some (z,y :: ys)=>aY z g&&aY y x&&lW ys xs
  |_=>false
 |.NJ _ _ _ _ _=>false
 |.ZY _ x=>match op with
  |.box T0 y=>aY y x
  |_=>false
 |.ZX n x x2=>match op with
  |.store T0 y y2=>aY y x&&aY y2 x2&&jr P T0==some n
  |_=>false
 |.Gg _ f x g=>match EF op with
  |some (f',[y1,y2])=>f'==f&&aY y1 x&&aY y2 g
  |_=>false
 |.yield _ x xs=>match ED op with
  |some (y,ys)=>aY y x&&lW ys xs
  |none=>false
 |.grd _ _ _=>false
def m1 (P:Program) (o:Oper) (v:fM):Bool:=o.dst==dw v&&mv P o.op v
section
variable {P:Program} {L:Nat} {σ σ':Nat→Nat} {T T':Tags} {st st' st1:St} {a:Act} {w w1:World} {o:Oper} {vo:fM}
 {rec:ak→St→Option (Ex × St)} {env:Env}
theorem zA (h:aI L σ T st a w) (hm:m1 P o vo=true) (hp:plain vo st=some st'):Looks P L σ T st' a w o:=by
 simp only [m1,Bool.and_eq_true,beq_iff_eq] at hm
 obtain ⟨hd,hm⟩:=hm
 cases vo<;>simp only [mv] at hm
 case aj d x =>
  split at hm<;>try (cases hm;done)
  rename_i ho;exact yB h hd (.inl ho) hm false hp
 case aB d x =>
  split at hm<;>try (cases hm;done)
  ·rename_i ho;exact yB h hd (.inr ho) hm true hp
  ·rename_i ho;exact yB h hd (.inl ho) hm true hp
 case pick d c x x2 =>
  split at hm<;>try (cases hm;done)
  rename_i ho
  simp only [Bool.and_eq_true] at hm;exact NV h hd ho hm.1.1 hm.1.2 hm.2 hp
 case bin d b x x2 =>
  split at hm<;>try (cases hm;done)
  rename_i ho
  simp only [Bool.and_eq_true,beq_iff_eq] at hm
  obtain ⟨⟨rfl,hm1⟩,hm2⟩:=hm
  exact Sj h hd ho hm1 hm2 hp
 case Qs d neg n x x2 =>
  split at hm<;>try (cases hm;done)
  rename_i ho
  simp only [Bool.and_eq_true,beq_iff_eq] at hm
  obtain ⟨⟨⟨⟨h1,h2⟩,h3⟩,h4⟩,h5⟩:=hm
  exact Si h hd ho h1 h2 h3 h4 h5 hp
 case eqb d neg x x2=>cases hm
 case eqm d neg ks x x2=>cases hm
 case un d b x =>
  split at hm<;>try (cases hm;done)
  rename_i ho
  simp only [Bool.and_eq_true,beq_iff_eq] at hm
  obtain ⟨rfl,h2⟩:=hm
  exact VK h hd ho h2 hp
 case conv d k x =>
  split at hm<;>try (cases hm;done)
  rename_i ho
  simp only [Bool.and_eq_true] at hm
  exact NY h hd ho hm.1.1 (J8 hm.1.2) (EC hm.2) hp
 case load d n x =>
  split at hm<;>try (cases hm;done)
  rename_i ho
  simp only [Bool.and_eq_true,beq_iff_eq] at hm
  exact NZ h hd ho hm.1 hm.2 hp
 case aX d x off =>
  split at hm
  case h_3=>cases hm
  case h_2 =>
   rename_i ho
   simp only [Bool.and_eq_true,beq_iff_eq] at hm
   obtain ⟨h1,rfl⟩:=hm
   exact (JU h hd ho h1 hp).looks
  rename_i ho
  simp only [Bool.and_eq_true] at hm
  obtain ⟨h1,h2⟩:=hm
  split at h2<;>try (cases h2;done)
  rename_i fd hf
  simp only [Bool.and_eq_true,beq_iff_eq] at h2
  obtain ⟨rfl,h3⟩:=h2
  split at h3<;>try (cases h3;done)
  rename_i k hk
  exact N8 h hd ho h1 hf hk hp
 case bC d sz x x2 =>
  split at hm<;>try (cases hm;done)
  rename_i ho
  simp only [Bool.and_eq_true] at hm
  obtain ⟨⟨h1,h2⟩,h3⟩:=hm
  split at h3<;>try (cases h3;done)
  rename_i e he
  exact N9 h hd ho h1 h2 he (beq_iff_eq.1 h3) hp
 case RG d x x2 len sz=>cases hm
 case fld d x off n=>cases hm
 case idx d x x2 len sz n=>cases hm
 case sli d sz x lo hi=>cases hm
 case ext d x i =>
  split at hm<;>try (cases hm;done)
  rename_i ho
  simp only [Bool.and_eq_true,beq_iff_eq] at hm
  obtain ⟨h1,rfl⟩:=hm
  exact SA h hd ho h1 hp
 case build d z m =>
  split at hm<;>try (cases hm;done)
  rename_i T0 l ho
  simp only [Bool.and_eq_true] at hm
  obtain ⟨⟨h1,h2⟩,h3⟩:=hm
  exact JZ h hd (l:=l.toList) (by simpa using ho) h1 h2 (zy h3) hp
 case NJ d z parts off t=>cases hm
 case len d x =>
  split at hm<;>try (cases hm;done)
  rename_i b y T0 ho
  simp only [Bool.and_eq_true,beq_iff_eq] at hm
  obtain ⟨⟨rfl,h1⟩,h2⟩:=hm
  obtain ⟨e,he⟩:=Option.isSome_iff_exists.1 h2
  exact Sz h hd (Ko ho) h1 he hp
 case isn d neg x=>cases hm
 case sl3 d sz x x2 x3=>cases hm
 case cut d sz x=>cases hm
 case lens d x=>cases hm
 case Vk d n x =>
  split at hm<;>try (cases hm;done)
  rename_i ho
  simp only [Bool.and_eq_true] at hm
  obtain ⟨h1,h2⟩:=hm
  split at h2<;>try (cases h2;done)
  rename_i l e he
  simp only [Bool.and_eq_true,beq_iff_eq] at h2
  obtain ⟨rfl,h3⟩:=h2
  exact Sv h hd ho h1 he h3 hp
 case asz d n sz x=>cases hm
 case ldm d n x=>cases hm
 case Qu d n x =>
  split at hm<;>try (cases hm;done)
  rename_i ho
  simp only [Bool.and_eq_true,beq_iff_eq] at hm
  exact Sm h hd ho hm.1 hm.2 hp
 case mvz d x=>cases hm
 case mn d mx x x2 =>
  split at hm<;>try (cases hm;done)
  rename_i b y y2 T0 T1 ho
  simp only [Bool.and_eq_true,beq_iff_eq] at hm
  obtain ⟨⟨rfl,h1⟩,h2⟩:=hm
  exact VP h hd (Bq ho) h1 h2 hp
 case RH d f xs =>
  split at hm<;>try (cases hm;done)
  rename_i fn first ys ho
  simp only [Bool.and_eq_true] at hm
  obtain ⟨⟨h1,h2⟩,h3⟩:=hm
  have hfn:=Qx h1
  subst hfn
  have hf0:first=#[]:=by simpa using h2
  subst hf0
  exact SC h hd (ys:=ys.toList) (by simpa using ho) h3 hp
 all_goals simp [plain] at hp
def qQ:fM→Bool
 |.alloc ..|.box ..|.jZ ..|.make ..=>true
 |_=>false
theorem SK (h:aI L σ T st a w) (hm:m1 P o vo=true) (hc:∀ d f xs,vo≠.call d f xs) (hv:∀ d x xs,vo≠.ku d x xs) (hy:∀ d x xs,vo≠.yield d x xs) (hsr:∀ d f x g,vo≠.Gg d f x g) (hli:∀ d f x xs,vo≠.lin d f x xs) (hlv:∀ d g x xs,vo≠.linv d g x xs) (hp:act rec env vo st=some st'):Does P L σ T st.boxes.length st' a w o (qQ vo):=by
 simp only [m1,Bool.and_eq_true,beq_iff_eq] at hm
 obtain ⟨hd,hm⟩:=hm
 cases vo<;>simp only [mv] at hm
 case alloc d z =>
  split at hm<;>try (cases hm;done)
  rename_i ho;exact Oa h hd ho hm hp
 case box d x =>
  split at hm<;>try (cases hm;done)
  rename_i ho;exact VQ h hd ho hm hp
 case jZ d sz xs =>
  split at hm<;>try (cases hm;done)
  rename_i T0 len l ho
  simp only [Bool.and_eq_true,beq_iff_eq,decide_eq_true_eq] at hm
  obtain ⟨⟨⟨⟨h1,h2⟩,h3⟩,h4⟩,h5⟩:=hm
  exact SI h hd (l:=l.toList) (by simpa using ho) h1 h2 (by simpa using h3) h4 h5 hp
 case make d z x x2 =>
  split at hm<;>try (cases hm;done)
  rename_i T0 y y2 ho
  simp only [Bool.and_eq_true] at hm
  obtain ⟨⟨⟨h1,h2⟩,h3⟩,h4⟩:=hm
  split at h4<;>try (cases h4;done)
  rename_i e he
  exact SG h hd ho h1 h2 h3 he h4 hp
 case app d sz x x2 =>
  split at hm<;>try (cases hm;done)
  rename_i b y y2 T0 T1 ho
  simp only [Bool.and_eq_true,beq_iff_eq] at hm
  obtain ⟨⟨⟨⟨rfl,rfl⟩,h1⟩,h2⟩,h3⟩:=hm
  exact VW h hd (Bq ho) h1 h2 h3 hp
 case apf d sz x x2=>cases hm
 case apb d x x2=>cases hm
 case cpy d sz x x2=>cases hm
 case store dd n x x2 =>
  split at hm<;>try (cases hm;done)
  rename_i T0 y y2 ho
  simp only [Bool.and_eq_true,beq_iff_eq] at hm
  obtain ⟨⟨⟨h0,h1⟩,h2⟩,h3⟩:=hm
  have hdn:=Option.isNone_iff_eq_none.1 h0
  subst hdn
  simp only [act] at hp
  replace hp:=bind_some hp
  obtain ⟨⟨v,own,st1⟩,g1,hp⟩:=hp
  simp only at hp
  split at hp
  case h_3=>cases hp
  case h_1 p j e =>
   replace hp:=bind_some hp
   obtain ⟨bx,g2,hp⟩:=hp
   split at hp
   ·cases hp
   ·rename_i hc
    simp only [Bool.or_eq_true,Bool.not_eq_true',decide_eq_false_iff_not,not_or,Bool.not_eq_true,Decidable.not_not] at hc
    obtain ⟨⟨c1,c2⟩,c3⟩:=hc
    obtain ⟨s1,s2⟩:=DX (P:=P) h hd ho h1 h2 h3 g1 e g2 c1 c2 c3
    cases own with
    |false =>
     have e2:some st'=some { st1 with boxes:=st1.boxes.set p { bx with cs:=bx.cs.take j++v.cells.map .pv++bx.cs.drop (j+n) } }:=by rw [← hp];cases v<;>rfl
     rw [Option.some.inj e2];exact s1 rfl
    |true =>
     obtain ⟨_,_,_,_,_,k5⟩:=h.consume h2 g1
     obtain ⟨sz,es,m,rfl,_⟩:=k5 rfl
     have hp2:=Option.some.inj hp
     rw [← hp2];exact s2 sz es rfl rfl
  case h_2 r i j e =>
   replace hp:=bind_some hp
   obtain ⟨⟨sz,es⟩,g2,hp⟩:=hp
   replace hp:=bind_some hp
   obtain ⟨el,g3,hp⟩:=hp
   simp only at hp g3
   split at hp
   case isFalse=>cases hp
   rename_i g4
   replace hp:=bind_some hp
   obtain ⟨cs,g5,hp⟩:=hp
   replace hp:=bind_some hp
   obtain ⟨e',g6,hp⟩:=hp
   rw [← Option.some.inj hp]
   exact Gx h hd ho h1 h2 h3 g1 e g2 g3 g4 g5 g6
 case call d f xs=>exact absurd rfl (hc d f xs)
 case ku d x xs=>exact absurd rfl (hv d x xs)
 case yield d x xs=>exact absurd rfl (hy d x xs)
 case Gg d f x g=>exact absurd rfl (hsr d f x g)
 case lin d f x xs=>exact absurd rfl (hli d f x xs)
 case linv d g x xs=>exact absurd rfl (hlv d g x xs)
 case ZY d x =>
  split at hm<;>try (cases hm;done)
  rename_i ho
  simp only [act] at hp
  split at hp
  case h_2=>cases hp
  rename_i m
  split at hp
  case h_2=>cases hp
  rename_i l e
  obtain ⟨cs,hcs,hp1⟩:=bind_some hp
  clear hp
  have hp:=Option.some.inj hp1
  subst hp
  obtain ⟨nx,v,w1,σ1,T1,q1,q2,q3,q4,q5,_⟩:=V4 h hd ho hm e hcs
  exact ⟨nx,v,w1,σ1,T1,q1,q2,q3,q4,q5,fun e=>by cases e⟩
 case ZX n x x2 =>
  split at hm<;>try (cases hm;done)
  rename_i T0 y y2 ho
  simp only [Bool.and_eq_true,beq_iff_eq] at hm
  obtain ⟨⟨h1,h2⟩,h3⟩:=hm
  simp only [act] at hp
  split at hp
  case h_2=>cases hp
  rename_i m
  split at hp
  case h_3=>cases hp
  case h_1 =>
   rename_i l e0
   split at hp
   case h_2=>cases hp
   rename_i p j e1
   replace hp:=bind_some hp
   obtain ⟨bx,g2,hp⟩:=hp
   replace hp:=bind_some hp
   obtain ⟨cs,g3,hp⟩:=hp
   split at hp
   ·cases hp
   ·rename_i hc
    simp only [Bool.or_eq_true,Bool.not_eq_true',decide_eq_false_iff_not,not_or,Bool.not_eq_true,Decidable.not_not] at hc
    rw [← Option.some.inj hp]
    exact VY h hd (by simpa using ho) h1 h2 h3 e0 e1 g2 hc.1.1 g3 hc.1.2 hc.2
  case h_2 =>
   rename_i zs e0
   split at hp
   case h_2=>cases hp
   rename_i p j e1
   replace hp:=bind_some hp
   obtain ⟨bx,g2,hp⟩:=hp
   split at hp
   ·cases hp
   ·rename_i hc
    simp only [Bool.or_eq_true,Bool.not_eq_true',decide_eq_false_iff_not,not_or,Bool.not_eq_true,Decidable.not_not] at hc
    rw [← Option.some.inj hp]
    exact VZ h hd (by simpa using ho) h1 h2 h3 e0 e1 g2 hc.1.1 hc.1.2 hc.2
 all_goals simp [act] at hp
end
end Go.Proofs.YtaaokejjmdbfaaaDoor

namespace Go.Proofs.YtaaokejjmdbfaaaDoor
open Go.RowKit
section
variable {P:Program} {L:Nat} {σ σ':Nat→Nat} {T T' T1:Tags} {st st' st1:St} {a:Act} {w w1:World} {o:Oper} {vo:fM} {y:Operand} {x:bP}
 {rec:ak→St→Option (Ex × St)} {env:Env}
structure jV (T T':Tags) (st st':St):Prop where
 keep:∀ b,T' b=T b∨(T b≠.other∧T' b=.ro)
 rows:∀ r sz es,st.row r=some (sz,es)→st'.row r=some (sz,es)∨∀ b,T b=.row r→T' b=.ro
 boxes:∀ (p:Nat) bx,st.boxes[p]?=some bx→(∃ bx',st'.boxes[p]?=some bx'∧bx'.fz=bx.fz)∨((∀ b,T b=.box p→T' b=.ro)∧∀ b j,T b=.row (.cell p j)→T' b=.ro)
 slots:∀ x,st'.get x=st.get x∨∃ sz es,st.get x=.row sz es∧st'.get x=.pv (.list sz es)
 gone:∀ n sz es,st.get (.t n)=.row sz es→st'.get (.t n)=.pv (.list sz es)→∀ b,T b=.row (.slot n)→T' b=.ro
theorem jV.refl (T:Tags) (st:St):jV T T st st:=⟨fun _=>.inl rfl,fun _ _ _ h=>.inl h,fun _ bx h=>.inl ⟨bx,h,rfl⟩,fun _=>.inl rfl,fun n sz es h1 h2=>by rw [h1] at h2;cases h2⟩
theorem jV.still (h:jV T T' st st'):Still T T':=⟨fun b e=>by rcases h.keep b with k|k;rw [k];exact e;exact k.2,fun b e=>by rcases h.keep b with k|k;rw [k];exact e;exact absurd e k.1⟩
theorem jV.Og (h:jV T T' st st') {r:Root} {b:Nat} (hb:T b=.row r):T' b=.row r∨T' b=.ro:=by
 rcases h.keep b with k|k
 ·rw [k];exact .inl hb
 ·exact .inr k.2
def Ac (x:bP):AV→Option Root
 |.row _ _=>match x with
  |.t n=>some (.slot n)
  |_=>none
 |.ref r _ _=>some r
 |.ny r _ _=>some r
 |_=>none
def GH:AV→Option Nat
 |.aQ p _=>some p
 |_=>none
structure Needs (T T':Tags) (x:bP) (v:AV):Prop where
 root:∀ r,Ac x v=some r→∀ b,T b=.row r→T' b=.ro
 box:∀ p,GH v=some p→(∀ b,T b=.box p→T' b=.ro)∧∀ b j,T b=.row (.cell p j)→T' b=.ro
theorem Needs.still {v:AV} (h:Needs T T' x v) (k:Still T' T1):Needs T T1 x v :=
 ⟨fun r e b hb=>k.ro b (h.root r e b hb),fun p e=>⟨fun b hb=>k.ro b ((h.box p e).1 b hb),fun b j hb=>k.ro b ((h.box p e).2 b j hb)⟩⟩
theorem DZ {r q:Root} (h:q≠r) {sz:Nat} {es:List PV} (hq:st.row q=some (sz,es)):(st.freeze r).row q=some (sz,es):=by
 unfold St.freeze
 cases hr:st.row r with
 |none=>exact hq
 |some p =>
  obtain ⟨s,l⟩:=p
  cases r with
  |slot t=>exact (gu h).trans hq
  |part t i=>exact hq
  |cell o j =>
   cases q with
   |slot t=>simp only [St.setCell];split<;>exact hq
   |part t i=>simp [St.row] at hq
   |cell o' j' =>
    obtain ⟨bx,h1,h2,h3⟩:=dO hq
    obtain ⟨bx2,g1,g2,g3⟩:=dO hr
    simp only [St.setCell,g1,St.row,List.getElem?_set]
    by_cases ho:o=o'
    ·subst ho
     rw [g1] at h1;cases h1
     have hj:j≠j':=fun e=>h (by rw [e])
     simp only [if_true,if_pos (List.getElem?_eq_some_iff.1 g1).1,h2,Bool.false_eq_true,if_false,List.getElem?_set,if_neg hj,h3]
    ·simp only [if_neg ho,h1,h2,Bool.false_eq_true,if_false,h3]
theorem Bz (r:Root) (x:bP):(st.freeze r).get x=st.get x∨∃ n sz es,x=.t n∧r=.slot n∧st.get x=.row sz es∧(st.freeze r).get x=.pv (.list sz es):=by
 cases x with
 |c v=>exact .inl rfl
 |nil s=>exact .inl rfl
 |t n =>
  unfold St.freeze
  cases hr:st.row r with
  |none=>exact .inl rfl
  |some p =>
   obtain ⟨s,l⟩:=p
   cases r with
   |part t i=>exact .inl rfl
   |cell o j=>left;simp only [St.setCell];split<;>rfl
   |slot t =>
    have hs:=fO hr
    by_cases ht:t=n
    ·subst ht
     refine .inr ⟨t,s,l,rfl,rfl,by simp [St.get,List.getD,hs],?_⟩
     simp [St.get,St.put,List.getD,List.getElem?_set,(List.getElem?_eq_some_iff.1 hs).1]
    ·left
     simp [St.get,St.put,List.getD,List.getElem?_set,ht]
theorem GI (r:Root) {p:Nat} {bx:Box} (hp:st.boxes[p]?=some bx):∃ bx',(st.freeze r).boxes[p]?=some bx'∧bx'.fz=bx.fz:=by
 unfold St.freeze
 cases hr:st.row r with
 |none=>exact ⟨bx,hp,rfl⟩
 |some q =>
  obtain ⟨s,l⟩:=q
  cases r with
  |slot t=>exact ⟨bx,hp,rfl⟩
  |part t i=>exact ⟨bx,hp,rfl⟩
  |cell o j =>
   obtain ⟨bx2,g1,g2,g3⟩:=dO hr
   simp only [St.setCell,g1,List.getElem?_set]
   by_cases ho:o=p
   ·subst ho
    rw [g1] at hp;cases hp
    exact ⟨{ bx with cs:=bx.cs.set j (.pv (.list s l)) },by rw [if_pos rfl,if_pos (List.getElem?_eq_some_iff.1 g1).1],rfl⟩
   ·exact ⟨bx,by rw [if_neg ho];exact hp,rfl⟩
theorem jV.freeze (h:jV T T' st st') (hs:aI L σ T' st' a w) (r:Root):∃ T1,jV T T1 st (st'.freeze r)∧aI L σ T1 (st'.freeze r) a w∧Still T' T1∧∀ sz es,st.row r=some (sz,es)→∀ b,T b=.row r→T1 b=.ro:=by
 cases hr:st'.row r with
 |none =>
  have e:st'.freeze r=st':=by unfold St.freeze;rw [hr]
  rw [e]
  refine ⟨T',h,hs,Still.refl _,fun sz es e b hb=>?_⟩
  rcases h.rows r sz es e with k|k
  ·rw [hr] at k;cases k
  ·exact k b hb
 |some p =>
  obtain ⟨s,l⟩:=p
  obtain ⟨T1,k1,k2,k3,k4,k5⟩:=hs.freeze r
  have hro:=k4 s l hr
  refine ⟨T1,⟨fun b=>?_,fun q sz es e=>?_,fun p bx e=>?_,fun x=>?_,fun n sz es e1 e2 b hb=>?_⟩,k1,k2,fun sz es e b hb=>?_⟩
  ·-- tags turn to 'ro' alone
   rcases h.keep b with g|g
   ·cases hT:T b with
    |ro=>left;exact k2.ro b (by rw [g,hT])
    |other=>left;exact k2.other b (by rw [g,hT])
    |row q =>
     by_cases hq:q=r
     ·subst hq;right;exact ⟨by simp,hro b (by rw [g,hT])⟩
     ·left;exact k3 b q hq (by rw [g,hT])
    |box o=>left;exact k5 b o (by rw [g,hT])
   ·right;exact ⟨g.1,k2.ro b g.2⟩
  ·by_cases hq:q=r
   ·subst hq
    right;intro b hb
    rcases h.Og hb with g|g
    ·exact hro b g
    ·exact k2.ro b g
   ·rcases h.rows q sz es e with g|g
    ·left;exact DZ hq g
    ·right;exact fun b hb=>k2.ro b (g b hb)
  ·rcases h.boxes p bx e with ⟨bx',g1,g2⟩|⟨g1,g2⟩
   ·obtain ⟨ais,q1,q2⟩:=GI r g1
    exact .inl ⟨ais,q1,q2.trans g2⟩
   ·exact .inr ⟨fun b hb=>k2.ro b (g1 b hb),fun b j hb=>k2.ro b (g2 b j hb)⟩
  ·rcases Bz (st:=st') r x with g|⟨n,sz,es,rfl,rfl,g1,g2⟩
   ·rw [g];exact h.slots x
   ·rcases h.slots (.t n) with q|⟨s2,l2,q1,q2⟩
    ·exact .inr ⟨sz,es,q ▸ g1,g2⟩
    ·rw [q2] at g1;cases g1
  ·rcases Bz (st:=st') r (.t n) with g|⟨n',sz',es',e3,rfl,g1,g2⟩
   ·rw [g] at e2;exact k2.ro b (h.gone n sz es e1 e2 b hb)
   ·cases e3
    rcases h.Og hb with g|g
    ·exact hro b g
    ·exact k2.ro b g
  ·rcases h.Og hb with g|g
   ·exact hro b g
   ·exact k2.ro b g
theorem jV.aZ (h:jV T T' st st') (hs:aI L σ T' st' a w) (p:Nat):∃ T1,jV T T1 st (st'.aZ p)∧aI L σ T1 (st'.aZ p) a w∧Still T' T1∧((st.boxes[p]?).isSome=true→(∀ b,T b=.box p→T1 b=.ro)∧∀ b j,T b=.row (.cell p j)→T1 b=.ro):=by
 have hS:=hs.aZ p
 cases hp:st'.boxes[p]? with
 |none =>
  have e:st'.aZ p=st':=by unfold St.aZ;rw [hp]
  rw [e]
  refine ⟨T',h,hs,Still.refl _,fun hx=>?_⟩
  obtain ⟨bx,hb⟩:=Option.isSome_iff_exists.1 hx
  rcases h.boxes p bx hb with ⟨bx',g1,_⟩|g
  ·rw [hp] at g1;cases g1
  ·exact g
 |some bx0 =>
  rw [hp] at hS
  simp only [Option.isSome_some,if_true] at hS
  have e:st'.aZ p={ st' with boxes:=st'.boxes.set p ⟨true,bx0.cs.map BV.frozen⟩ }:=by unfold St.aZ;rw [hp]
  have hpl:p<st'.boxes.length:=(List.getElem?_eq_some_iff.1 hp).1
  have hbox:∀ b,T b=.box p→gZ T' p b=.ro:=fun b hb=>by
   rcases h.keep b with k|k
   ·exact yD (by rw [k,hb])
   ·exact ig k.2
  have hcell:∀ b j,T b=.row (.cell p j)→gZ T' p b=.ro:=fun b j hb=>by
   rcases h.keep b with k|k
   ·exact wo (by rw [k,hb])
   ·exact ig k.2
  refine ⟨gZ T' p,⟨fun b=>?_,fun q sz es e1=>?_,fun q bx e1=>?_,fun x=>?_,fun n sz es e1 e2 b hb=>?_⟩,hS,Still.gZ T' p,fun _=>⟨hbox,hcell⟩⟩
  ·rcases h.keep b with g|g
   ·cases hT:T b with
    |ro=>left;exact ig (by rw [g,hT])
    |other=>left;exact sU (by rw [g,hT])
    |box o =>
     by_cases ho:o=p
     ·subst ho;right;exact ⟨by simp,hbox b hT⟩
     ·left;exact Es ho (by rw [g,hT])
    |row q =>
     by_cases hq:∃ j,q=.cell p j
     ·obtain ⟨j,rfl⟩:=hq;right;exact ⟨by simp,hcell b j hT⟩
     ·left;exact uO (fun j e=>hq ⟨j,e⟩) (by rw [g,hT])
   ·right;exact ⟨g.1,ig g.2⟩
  ·by_cases hq:∃ j,q=.cell p j
   ·obtain ⟨j,rfl⟩:=hq;right;exact fun b hb=>hcell b j hb
   ·rcases h.rows q sz es e1 with g|g
    ·left
     rw [e]
     cases q with
     |slot t=>exact g
     |part t i=>exact g
     |cell o j =>
      have ho:p≠o:=fun e=>hq ⟨j,by rw [e]⟩
      simp only [St.row,List.getElem?_set,if_neg ho] at g ⊢
      exact g
    ·right;exact fun b hb=>ig (g b hb)
  ·by_cases hq:q=p
   ·subst hq;exact .inr ⟨hbox,hcell⟩
   ·rcases h.boxes q bx e1 with ⟨bx',g1,g2⟩|⟨g1,g2⟩
    ·exact .inl ⟨bx',by rw [e];simp only [List.getElem?_set,if_neg (Ne.symm hq)];exact g1,g2⟩
    ·exact .inr ⟨fun b hb=>ig (g1 b hb),fun b j hb=>ig (g2 b j hb)⟩
  ·have:(st'.aZ p).get x=st'.get x:=by rw [e];cases x<;>rfl
   rw [this];exact h.slots x
  ·have:(st'.aZ p).get (.t n)=st'.get (.t n):=by rw [e];rfl
   rw [this] at e2
   exact ig (h.gone n sz es e1 e2 b hb)
def Held (st:St) (x:bP) (v:AV):Prop:=(∀ r,Ac x v=some r→(st.row r).isSome=true)∧∀ p,GH v=some p→(st.boxes[p]?).isSome=true
theorem jV.arg1 (h:jV T T' st st') (hs:aI L σ T' st' a w) (x:bP) {v:AV} (hv:Held st x v):∃ T1,jV T T1 st (st'.bg x v)∧aI L σ T1 (st'.bg x v) a w∧Still T' T1∧Needs T T1 x v:=by
 have none':Ac x v=none→GH v=none→Needs T T' x v:=fun h1 h2=>Needs.mk (fun r e=>(by rw [h1] at e;cases e)) (fun p e=>(by rw [h2] at e;cases e))
 have root:∀ r,Ac x v=some r→GH v=none→∃ T1,jV T T1 st (st'.freeze r)∧aI L σ T1 (st'.freeze r) a w∧Still T' T1∧Needs T T1 x v:=fun r e1 e2=>by
  obtain ⟨T1,k1,k2,k4,k3⟩:=h.freeze hs r
  obtain ⟨⟨sz,es⟩,hr⟩:=Option.isSome_iff_exists.1 (hv.1 r e1)
  exact ⟨T1,k1,k2,k4,Needs.mk (fun q e b hb=>(by rw [e1] at e;cases e;exact k3 sz es hr b hb)) (fun p e=>(by rw [e2] at e;cases e))⟩
 unfold St.bg
 cases v with
 |row sz es =>
  cases x with
  |t n=>exact root (.slot n) rfl rfl
  |c v=>exact ⟨T',h,hs,Still.refl _,none' rfl rfl⟩
  |nil s=>exact ⟨T',h,hs,Still.refl _,none' rfl rfl⟩
 |ref r off len=>exact root r rfl rfl
 |ny r i j=>exact root r rfl rfl
 |aQ p j =>
  obtain ⟨T1,k1,k2,k4,k3⟩:=h.aZ hs p
  exact ⟨T1,k1,k2,k4,Needs.mk (fun r e=>(by cases e)) (fun q e=>(by cases e;exact k3 (hv.2 p rfl)))⟩
 |pv v=>exact ⟨T',h,hs,Still.refl _,none' rfl rfl⟩
 |fn f l=>exact ⟨T',h,hs,Still.refl _,none' rfl rfl⟩
 |jY k l=>exact ⟨T',h,hs,Still.refl _,none' rfl rfl⟩
 |DN s l=>exact ⟨T',h,hs,Still.refl _,none' rfl rfl⟩
 |oQ=>exact ⟨T',h,hs,Still.refl _,none' rfl rfl⟩
 |any=>exact ⟨T',h,hs,Still.refl _,none' rfl rfl⟩
theorem jV.V5:∀ (l:List AV) {T':Tags} {st':St},jV T T' st st'→aI L σ T' st' a w→(∀ v∈l,Held st (.c .void) v)→∃ T1,jV T T1 st (l.foldl (fun s v=>s.bg (.c .void) v) st')∧aI L σ T1 (l.foldl (fun s v=>s.bg (.c .void) v) st') a w∧Still T' T1∧∀ v∈l,Needs T T1 (.c .void) v
 |[],T',st',h,hs,_=>⟨T',h,hs,Still.refl _,fun v hv=>by cases hv⟩
 |v :: l,T',st',h,hs,hv=>by
  obtain ⟨T1,k1,k2,k4,k3⟩:=h.arg1 hs (.c .void) (hv v List.mem_cons_self)
  obtain ⟨T2,q1,q2,q3,q4⟩:=jV.V5 l k1 k2 (fun v hv'=>hv v (List.mem_cons_of_mem _ hv'))
  refine ⟨T2,q1,q2,k4.trans q3,fun u hu=>?_⟩
  rcases List.mem_cons.1 hu with rfl|hu
  ·exact k3.still q3
  ·exact q4 u hu
def sW (T T':Tags) (x:bP):AV→Prop
 |.fn _ caps=>∀ v∈caps,Needs T T' (.c .void) v
 |v=>Needs T T' x v
def EG (st:St) (x:bP):AV→Prop
 |.fn _ caps=>∀ v∈caps,Held st (.c .void) v
 |v=>Held st x v
theorem sW.still {v:AV} (h:sW T T' x v) (k:Still T' T1):sW T T1 x v:=by
 cases v<;>first|exact Needs.still h k|exact fun v hv=>(h v hv).still k
theorem jV.arg (h:jV T T' st st') (hs:aI L σ T' st' a w) (x:bP) (hv:EG st x (st.get x)):∃ T1,jV T T1 st (st'.bZ x)∧aI L σ T1 (st'.bZ x) a w∧Still T' T1∧sW T T1 x (st.get x):=by
 rcases h.slots x with e|⟨sz,es,e1,e2⟩
 ·unfold St.bZ
  rw [e]
  cases hg:st.get x with
  |fn f caps =>
   rw [hg] at hv
   exact h.V5 caps hs hv
  |_ =>
   rw [hg] at hv
   exact h.arg1 hs x hv
 ·unfold St.bZ
  rw [e1,e2]
  cases x with
  |t n=>exact ⟨T',h,hs,Still.refl _,Needs.mk (fun r e b hb=>(by cases e;exact h.gone n sz es e1 e2 b hb)) (fun p e=>(by cases e))⟩
  |c v=>cases e1
  |nil s=>cases e2
theorem jV.args:∀ (xs:List bP) {T':Tags} {st':St},jV T T' st st'→aI L σ T' st' a w→(∀ x∈xs,EG st x (st.get x))→∃ T1,jV T T1 st (xs.foldl St.bZ st')∧aI L σ T1 (xs.foldl St.bZ st') a w∧Still T' T1∧∀ x∈xs,sW T T1 x (st.get x)
 |[],T',st',h,hs,_=>⟨T',h,hs,Still.refl _,fun v hv=>by cases hv⟩
 |x :: xs,T',st',h,hs,hv=>by
  obtain ⟨T1,k1,k2,k4,k3⟩:=h.arg hs x (hv x List.mem_cons_self)
  obtain ⟨T2,q1,q2,q3,q4⟩:=jV.args xs k1 k2 (fun v hv'=>hv v (List.mem_cons_of_mem _ hv'))
  refine ⟨T2,q1,q2,k4.trans q3,fun u hu=>?_⟩
  rcases List.mem_cons.1 hu with rfl|hu
  ·exact k3.still q3
  ·exact q4 u hu
theorem yH {v:AV} {p:PV} {fl:Bool} (h:st.snap v=some (p,fl)) (hx:∀ sz es,v=.row sz es→∃ n,x=.t n∧st.get x=v∨x=.c .void∨∃ s,x=.nil s):Held st x v:=by
 unfold St.snap at h
 split at h
 ·exact ⟨fun r e=>(by cases e),fun p e=>(by cases e)⟩
 ·rename_i sz es
  refine ⟨fun r e=>?_,fun p e=>(by cases e)⟩
  obtain ⟨n,⟨rfl,hg⟩|rfl|⟨s,rfl⟩⟩:=hx sz es rfl
  ·cases e
   have:=kP hg (by simp)
   simp [St.row,this]
  ·cases e
  ·cases e
 ·rename_i r off len
  refine ⟨fun q e=>?_,fun p e=>(by cases e)⟩
  cases e
  split at h
  ·rename_i hr;rw [hr];rfl
  ·cases h
 ·rename_i o j
  refine ⟨fun q e=>(by cases e),fun p e=>?_⟩
  cases e
  split at h
  ·rename_i hb;rw [hb];rfl
  ·cases h
 ·rename_i r i j
  refine ⟨fun q e=>?_,fun p e=>(by cases e)⟩
  cases e
  split at h
  ·rename_i hr;rw [hr];rfl
  ·cases h
 ·cases h
theorem aI.snap (h:aI L σ T st a w) {t:Nat} {v:AV} {u:Value} (hv:jF L σ T st a w t v u) (ht:∀ sz es,v=.row sz es→x=.t t) {p:PV} {fl:Bool} (hs:st.snap v=some (p,fl)) (hst:Still T T1) (hn:Needs T T1 x v):ay (fun b=>T1 b=.ro) w p u:=by
 have hro:∀ b,T b=.ro→b<w.heap.size→T1 b=.ro∧w.heap[b]?=w.heap[b]?:=fun b e _=>⟨hst.ro b e,rfl⟩
 unfold St.snap at hs
 split at hs
 ·cases hs;exact ay.frame hro hv
 ·rename_i sz es
  cases hs
  have hx:=ht sz es rfl
  subst hx
  exact aH.list (hn.root _ rfl) hst.ro hv
 ·rename_i r off len
  split at hs
  ·rename_i sz es hr
   split at hs
   ·rename_i hl
    cases hs
    exact h.Gt hr (hv.2 sz es hr) hl (hn.root _ rfl) hst.ro
   ·cases hs
  ·cases hs
 ·rename_i o j
  split at hs
  ·rename_i bx hb
   cases hs
   obtain ⟨_,rfl⟩:=hv
   have hbx:=h.boxes o bx hb
   have hmem:=hbx.mem (T':=T1) (fun j b e=>(hn.box _ rfl).2 b j e) hst.ro
   have htag:T1 (σ o)=.ro:=by
    obtain ⟨_,_,_,_,h3,_⟩:=hbx
    split at h3
    ·exact hst.ro _ h3
    ·exact (hn.box _ rfl).1 _ h3
   have:=ay.uN (off:=0) j htag hbx.Gs hmem
   rwa [Nat.zero_add] at this
  ·cases hs
 ·rename_i r i j
  split at hs
  ·rename_i q es hr
   split at hs
   ·rename_i e he
    cases hs
    obtain ⟨b,rfl,h1,h2,h3⟩:=h.VL hr he (hv.2 _ es hr)
    exact ay.uN j (hn.root _ rfl b h1) h2 (h3.mono hst.ro)
   ·cases hs
  ·cases hs
 ·cases hs
end
end Go.Proofs.YtaaokejjmdbfaaaDoor

namespace Go.Proofs.YtaaokejjmdbfaaaDoor
open Go.RowKit
def globs:List (Nat × List PV):=[(0,Lib.deBruijn64tab.map fun (n:Nat)=>PV.int .u8 (n:Int))]
def jJ (T:Tags) (w:World):Prop:=∀ p∈globs,ay (fun b=>T b=.ro) w (.dS p.2 0) (.pointer (some ⟨p.1,0,none⟩))
theorem jJ.frame {T T':Tags} {w w':World} (h:jJ T w) (hf:∀ b,T b=.ro→b<w.heap.size→T' b=.ro∧w'.heap[b]?=w.heap[b]?):jJ T' w':=fun p hp=>(h p hp).frame hf
theorem jJ.nC {T T':Tags} {w w':World} (h:jJ T w) (hr:∀ b,T b=.ro→T' b=.ro) (hs:∀ b,b<w.heap.size→T b=.ro→w'.heap[b]?=w.heap[b]?):jJ T' w':=h.frame fun b e hb=>⟨hr b e,hs b hb e⟩
end Go.Proofs.YtaaokejjmdbfaaaDoor

namespace Go.Proofs.YtaaokejjmdbfaaaDoor
open Go.RowKit
def R1 (T:Tags) (w:World) (i:Nat):l9→Value→Prop
 |(.list sz es,true),u=>aH T w (.part 0 i) sz es u
 |(.agg cs,true),u=>∃ arr:Array Value,u=.agg arr∧arr.size=cs.length∧∀ (k:Nat) x v,cs[k]?=some x→arr[k]?=some v→iP T w 0 k (RJ x) v
 |(x,_),u=>ay (fun b=>T b=.ro) w x u
def qV (T:Tags) (w:World) (rs:List l9) (v:Value):Prop :=
 ∃ arr:Array Value,arr.size=rs.length∧v=(if arr.size=1 then arr.getD 0 undef else .tuple arr)∧∀ (i:Nat) r u,rs[i]?=some r→arr[i]?=some u→R1 T w i r u
def oI (P:Program) (f:Nat) (args:List PV) (rs:List l9):Prop :=
 ∀ (T0:Tags) (w:World) (vs:List Value),(∀ b,T0 b=.ro∨T0 b=.other)→(∀ b,w.heap.size≤b→T0 b=.other)→vs.length=args.length→(∀ (i:Nat) x v,args[i]?=some x→vs[i]?=some v→ay (fun b=>T0 b=.ro) w x v)→jJ T0 w →
  Calls P f vs.toArray w (fun e w'=>∃ v T',e=.returned v∧Below w.heap.size w w'∧(∀ b,b<w.heap.size→T' b=T0 b)∧(∀ b,w'.heap.size≤b→T' b=.other)∧qV T' w' rs v)
def QH (P:Program) (f:Nat) (args:List PV) (t:Nat) (n:Int):Prop :=
 ∀ (T0:Tags) (w:World) (vs:List Value),(∀ b,T0 b=.ro∨T0 b=.other)→(∀ b,w.heap.size≤b→T0 b=.other)→vs.length=args.length→(∀ (i:Nat) x v,args[i]?=some x→vs[i]?=some v→ay (fun b=>T0 b=.ro) w x v)→jJ T0 w →
  Calls P f vs.toArray w (fun e w'=>e=.panicked [{ v:=.iface t (.int .i64 n),recovered:=false }]∧Below w.heap.size w w')
def aat (T:Tags) (w:World) (v:Value):kC→Prop
 |.row sz es=>aH T w (.slot 0) sz es v
 |.own l=>∃ arr:Array Value,v=.agg arr∧arr.size=l.length∧∀ (k:Nat) x u,l[k]?=some x→arr[k]?=some u→iP T w 0 k x u
 |.box cs=>∃ b,v=.pointer (some ⟨b,0,none⟩)∧iK T w b 0 ⟨false,cs.map .pv⟩
def V6 (T:Tags) (w:World) (v:Value):Option (List PV)→Prop
 |none=>True
 |some cs=>∀ b,v=.pointer (some ⟨b,0,none⟩)→T b=.other∧∃ arr E,w.heap[b]?=some (.cells arr E (0,0))∧arr.size=cs.length∧∀ (j:Nat) x u,cs[j]?=some x→arr[j]?=some u→u.oneCell'=true∧ay (fun b=>T b=.ro) w x u
def QI (P:Program) (f:Nat) (x:kC) (args:List PV) (rs:List l9) (out:Option (List PV)):Prop :=
 ∀ (T0:Tags) (w:World) (v:Value) (vs:List Value),(∀ b,w.heap.size≤b→T0 b=.other)→aat T0 w v x→vs.length=args.length→(∀ (i:Nat) x v,args[i]?=some x→vs[i]?=some v→ay (fun b=>T0 b=.ro) w x v)→jJ T0 w →
  Calls P f (v :: vs).toArray w (fun e w'=>∃ u T',e=.returned u∧w.heap.size≤w'.heap.size∧w'.os=w.os∧w'.tape=w.tape∧w'.output=w.output∧(∀ b,b<w.heap.size→(T0 b=.ro∨T0 b=.other)→w'.heap[b]?=w.heap[b]?∧T' b=T0 b)∧(∀ b,w'.heap.size≤b→T' b=.other)∧qV T' w' rs u∧V6 T' w' v out)
def Oh (P:Program) (f:Nat) (h:PV→List PV→Option (List PV)):Prop :=
 ∀ (c:PV) (sz:Nat) (es es':List PV),h c es=some es'→∀ (T:Tags) (w:World) (r:Root) (v cv:Value),(∀ b,w.heap.size≤b→T b=.other)→aH T w r sz es v→ay (fun b=>T b=.ro) w c cv →
  Calls P f #[v,cv] w (fun e w'=>∃ u,e=.returned u∧w.heap.size≤w'.heap.size∧w'.os=w.os∧w'.tape=w.tape∧w'.output=w.output∧(∀ b,b<w.heap.size→T b≠.row r→w'.heap[b]?=w.heap[b]?)∧aH T w' r sz es' v)
section
variable {P:Program} {L:Nat} {σ σ':Nat→Nat} {T T' T1 T2:Tags} {st st' st1:St} {a:Act} {w w1:World} {o:Oper} {vo:fM} {y:Operand} {x:bP} {d:Nat}
 {rec:ak→St→Option (Ex × St)} {env:Env}
theorem aI.more (h:aI L σ T st a w) (hT:∀ b,T b≠.other→T2 b=T b) (hf:∀ b,w.heap.size≤b→T2 b=.other):aI L σ T2 st a w:=by
 have hq:∀ b q,q≠.other→T b=q→T2 b=q:=fun b q hq e=>by rw [hT b (by rw [e];exact hq),e]
 have hw:∀ b,T b=.ro→b<w.heap.size→T2 b=.ro∧w.heap[b]?=w.heap[b]?:=fun b e _=>⟨hq b _ (by simp) e,rfl⟩
 refine ⟨h.size,fun t av v ht hv=>?_,fun p bx ho=>?_,hf⟩
 ·exact (h.slots t av v ht hv).keep hw (fun _ _ _ b e _=>⟨hq b _ (by simp) e,rfl⟩) (fun _ _ _ _ b e _=>⟨hq b _ (by simp) e,rfl⟩) (fun _ _ _ s l e=>⟨⟨l,e⟩,rfl⟩) (Nat.le_refl _) (fun _ _=>rfl)
 ·have hb:=h.boxes p bx ho
  have hT':T2 (σ p)=T (σ p):=by
   obtain ⟨_,_,_,_,h3,_⟩:=hb
   exact hT _ (by rw [h3];split<;>simp)
  exact hb.frame ⟨hT',rfl⟩ (fun j b e _=>⟨hq b _ (by simp) e,rfl⟩) hw
theorem BA {ok ok':Nat→Prop} {x:PV} {u:Value} (hx:x.scalar=true) (h:ay ok w x u):ay ok' w1 x u:=by
 cases x<;>simp only [PV.scalar,reduceCtorEq] at hx
 case int k n=>rw [h.bV];exact .int _ _
 case bool b=>rw [h.mV];exact .bool _
 case str s=>rw [h.QA];exact .str _
 case agg cs =>
  obtain ⟨arr,rfl,h1,h2,h3⟩:=h.qN
  refine .agg cs arr h1 h2 (fun j x v hx' hv=>?_)
  have hs:=List.all_eq_true.1 hx x (List.mem_of_getElem? hx')
  have hp:=h3 j x v hx' hv
  cases x<;>simp only [reduceCtorEq] at hs
  ·rw [hp.bV];exact .int _ _
  ·rw [hp.mV];exact .bool _
  ·rw [hp.QA];exact .str _
open Classical in
noncomputable def laid (T T':Tags) (old:Nat→Prop) (d:Nat) (one:Bool):Tags:=fun b=>if old b then T b else match T' b with
 |.ro=>.ro
 |.row (.part 0 i)=>if one then (if i=0 then .row (.slot d) else .other) else .row (.part d i)
 |_=>.other
def oneRow:List l9→Bool
 |[(.agg _,true)]=>false
 |l=>l.length==1
theorem aI.results (h:aI L σ T st a w) {rs:List l9} {v:Value} {T':Tags} {old:Nat→Prop} (hn:∀ b,old b→b<w.heap.size) (Kq:∀ b,¬ old b→T b=.other) (hfr:∀ b,w.heap.size≤b→T' b=.other) (hr:qV T' w rs v)
  (hro:(∀ b,old b→T' b=.ro→T b=.ro)∨rs.all (·.1.scalar)=true) (hrow:∀ b i,old b→T' b≠.row (.part 0 i)) :
  aI L σ (laid T T' old d (oneRow rs)) (st.layAll d rs) (a.put (some d) v) w:=by
 obtain ⟨arr,h1,h2,h3⟩:=hr
 obtain ⟨TT,SL⟩:∃ TT,TT=laid T T' old d (oneRow rs):=⟨_,rfl⟩
 rw [← SL]
 have hmore:aI L σ TT st a w:=h.more (fun b hb=>by
  have hl:old b:=Classical.byContradiction fun g=>hb (Kq b g)
  rw [SL];simp [laid,hl]) (fun b hb=>by rw [SL];simp [laid,show ¬ old b from fun g=>by have:=hn b g;omega,hfr b hb])
 have hrep:∀ (x:PV) u,ay (fun b=>T' b=.ro) w x u→(rs.all (·.1.scalar)=true→x.scalar=true)→ay (fun b=>TT b=.ro) w x u:=fun x u hx hs=>by
  rcases hro with g|g
  ·refine hx.frame fun b hb _=>⟨?_,rfl⟩
   rw [SL]
   by_cases hl:old b
   ·simp [laid,hl,g b hl hb]
   ·simp [laid,hl,hb]
  ·exact BA (hs g) hx
 have GK:∀ (i sz:Nat) (es:List PV) u r',(∀ b,¬ old b→T' b=.row (.part 0 i)→TT b=.row r')→(∀ b,old b→T' b=.ro→T b=.ro)→aH T' w (.part 0 i) sz es u→aH TT w r' sz es u:=fun i sz es u r' hr' g hx=>by
  refine hx.frame (fun b hb _=>⟨hr' b ?_ hb,rfl⟩) (fun b hb _=>⟨?_,rfl⟩)
  ·exact fun g=>hrow b i g hb
  ·rw [SL]
   by_cases hl:old b
   ·simp [laid,hl,g b hl hb]
   ·simp [laid,hl,hb]
 by_cases hone:rs.length=1
 ·obtain ⟨⟨x,own⟩,rfl⟩:∃ r,rs=[r]:=by
   match rs,hone with
   |[r],_=>exact ⟨r,rfl⟩
  have ha:arr.size=1:=h1
  have e0:arr[0]?=some arr[0]:=Array.getElem?_eq_getElem (by omega)
  have hv:v=arr[0]:=by rw [h2,if_pos ha,Array.getD_eq_getD_getElem?,e0];rfl
  have hr:=h3 0 (x,own) arr[0] rfl e0
  rw [← hv] at hr
  have hpv:ay (fun b=>T' b=.ro) w x v→aI L σ TT (st.put d (.pv x)) (a.put (some d) v) w:=fun hx=>hmore.vJ (hrep x v hx (fun e=>by simpa using e))
  simp only [St.layAll,St.lay]
  cases own with
  |false =>
   have hx:ay (fun b=>T' b=.ro) w x v:=by cases x<;>exact hr
   simpa using hpv hx
  |true =>
   simp only [if_true]
   cases x with
   |list sz es =>
    have hr':aH T' w (.part 0 0) sz es v:=hr
    rcases hro with g|g
    ·have hT1:∀ b,¬ old b→T' b=.row (.part 0 0)→TT b=.row (.slot d):=fun b hb e=>by rw [SL];simp [laid,oneRow,hb,e]
     exact hmore.putRow (GK 0 sz es v _ hT1 g hr') (fun _ e=>e) (fun _ _ e=>e) hmore.fresh (fun _ _ _ _ _ _ e=>e) (fun _ _ _ _ _ _ _ e=>e) (fun _ _ _ e=>e)
    ·simp [PV.scalar] at g
   |agg cs =>
    obtain ⟨yF,g1,g2,g3⟩:=hr
    refine hmore.put (by simp) ⟨yF,g1,by simp [g2],fun k av u hk hu=>?_⟩
    rw [List.getElem?_map] at hk
    cases e:cs[k]? with
    |none=>rw [e] at hk;cases hk
    |some y =>
     rw [e] at hk
     have hk:=Option.some.inj hk
     subst hk
     have hp:=g3 k y u e hu
     have hpv2:ay (fun b=>T' b=.ro) w y u→(∀ sz es,y≠.list sz es)→ay (fun b=>TT b=.ro) w y u:=fun hx hy=>by
      rcases hro with g|g
      ·refine hx.frame fun b hb _=>⟨?_,rfl⟩
       rw [SL]
       by_cases hl:old b
       ·simp [laid,hl,g b hl hb]
       ·simp [laid,hl,hb]
      ·refine BA ?_ hx
       have g':(PV.agg cs).scalar=true:=by simpa using g
       have hs:=List.all_eq_true.1 g' y (List.mem_of_getElem? e)
       cases y<;>simp only [reduceCtorEq] at hs<;>rfl
     cases y with
     |list sz es =>
      rcases hro with g|g
      ·exact GK k sz es u _ (fun b hb e=>by rw [SL];simp [laid,oneRow,hb,e]) g hp
      ·have g':(PV.agg cs).scalar=true:=by simpa using g
       have hs:=List.all_eq_true.1 g' _ (List.mem_of_getElem? e)
       simp at hs
     |_=>exact hpv2 hp (fun _ _ e=>by cases e)
   |_=>exact hpv hr
 ·-- several results
  have hne:¬ arr.size=1:=by omega
  have hv:v=.tuple arr:=by rw [h2,if_neg hne]
  have h1r:oneRow rs=false:=by
   match rs,hone with
   |[],_=>rfl
   |_ :: _ :: _,_=>simp [oneRow]
  have hl:st.layAll d rs=st.put d (.jY false (rs.map fun r=>match r with
    |(.list sz es,true)=>.row sz es
    |(.agg _,true)=>.any
    |(v,_)=>.pv v)):=by
   match rs,hone with
   |[],_=>rfl
   |_ :: _ :: _,_=>rfl
  rw [hl]
  refine hmore.put (by simp) ⟨arr,hv,by simp [h1],fun k av u hk hu=>?_⟩
  rw [List.getElem?_map] at hk
  cases e:rs[k]? with
  |none=>rw [e] at hk;cases hk
  |some r =>
   rw [e] at hk
   have hk:=Option.some.inj hk
   subst hk
   obtain ⟨x,own⟩:=r
   have hr:=h3 k (x,own) u e hu
   have hsc:rs.all (·.1.scalar)=true→x.scalar=true:=fun g=>List.all_eq_true.1 g (x,own) (List.mem_of_getElem? e)
   have hpv:ay (fun b=>T' b=.ro) w x u→iP TT w d k (.pv x) u:=fun hx=>hrep x u hx hsc
   cases own with
   |false =>
    have hx:ay (fun b=>T' b=.ro) w x u:=by cases x<;>exact hr
    have:=hpv hx
    cases x<;>exact this
   |true =>
    cases x with
    |list sz es =>
     rcases hro with g|g
     ·exact GK k sz es u _ (fun b hb e=>by rw [SL];simp [laid,hb,e,h1r]) g hr
     ·have:=hsc g;simp [PV.scalar] at this
    |agg cs=>trivial
    |_=>exact hpv hr
end
end Go.Proofs.YtaaokejjmdbfaaaDoor

namespace Go.Proofs.YtaaokejjmdbfaaaDoor
open Go.RowKit
section
variable {P:Program} {L:Nat} {σ σ':Nat→Nat} {T T' T1 T2:Tags} {st st' st1:St} {a:Act} {w w1:World} {o:Oper} {vo:fM} {y:Operand} {x:bP} {d:Nat}
 {rec:ak→St→Option (Ex × St)} {env:Env}
theorem aI.Kr (h:aI L σ T st a w) (hm:aY y x=true) {p:PV} {fl:Bool} (hs:st.jw (st.get x)=some (p,fl)) :
  EG st x (st.get x)∧(fl=false→ay (fun b=>T b=.ro) w p (a.eval y))∧∀ T1,Still T T1→sW T T1 x (st.get x)→ay (fun b=>T1 b=.ro) w p (a.eval y):=by
 have hrep:∃ t,jF L σ T st a w t (st.get x) (a.eval y)∧∀ sz es,st.get x=.row sz es→x=.t t∨(es=[]∧∃ s,x=.nil s∧a.eval y=.slice none 0 0):=by
  rcases h.get hm with ⟨t,rfl,(⟨_,g⟩|g)⟩|⟨v',rfl,g⟩|⟨s,rfl,g⟩
  ·exact ⟨t,g,fun _ _ _=>.inl rfl⟩
  ·rw [g] at hs;simp [St.jw,St.snap] at hs
  ·exact ⟨0,g,fun sz es e=>by simp [St.get] at e⟩
  ·refine ⟨0,?_,fun sz es e=>.inr ?_⟩
   ·rw [g];exact aH.nil _ _ _ _ _
   ·simp only [St.get,AV.row.injEq] at e;exact ⟨e.2.symm,s,rfl,g⟩
 obtain ⟨t,hv,hrow⟩:=hrep
 have hgen:∀ v,st.get x=v→(∀ f caps,v≠.fn f caps)→st.snap v=some (p,fl)→EG st x v∧(fl=false→ay (fun b=>T b=.ro) w p (a.eval y))∧∀ T1,Still T T1→sW T T1 x v→ay (fun b=>T1 b=.ro) w p (a.eval y):=fun v e hf hsn=>by
  have afU:Held st x v:=yH hsn (fun sz es e2=>by
   rcases hrow sz es (by rw [e,e2]) with g|⟨_,s,g,_⟩
   ·exact ⟨t,.inl ⟨g,e⟩⟩
   ·exact ⟨0,.inr (.inr ⟨s,g⟩)⟩)
  have hHF:EG st x v:=by cases v<;>first|exact afU|exact absurd rfl (hf _ _)
  refine ⟨hHF,fun e2=>?_,fun T1 hst hn=>?_⟩
  ·subst e2;exact h.JY (e ▸ hv) hsn
  ·have hn':Needs T T1 x v:=by cases v<;>first|exact hn|exact absurd rfl (hf _ _)
   by_cases hr:∃ sz es,v=.row sz es
   ·obtain ⟨sz,es,rfl⟩:=hr
    rcases hrow sz es e with g|⟨rfl,s,_,g⟩
    ·exact h.snap (e ▸ hv) (fun _ _ _=>g) hsn hst hn'
    ·simp only [St.snap,Option.some.injEq,Prod.mk.injEq] at hsn
     rw [← hsn.1,g];exact .nil _ _
   ·exact h.snap (e ▸ hv) (fun sz es e2=>absurd ⟨sz,es,e2⟩ hr) hsn hst hn'
 cases hg:st.get x with
 |fn f caps =>
  rw [hg] at hs hv
  simp only [St.jw] at hs
  obtain ⟨l,h1,h2⟩:=bind_some hs
  have h2:=Option.some.inj h2
  simp only [Prod.mk.injEq] at h2
  obtain ⟨rfl,rfl⟩:=h2
  obtain ⟨m1,m2⟩:=mapM_some h1
  obtain ⟨arr,e1,e2,e3⟩:=hv
  have hcap:∀ (k:Nat) c u,caps[k]?=some c→arr[k]?=some u→∃ q,st.snap c=some q∧l[k]?=some q∧gU st.boxes.length σ T w c u:=fun k c u hc hu=>by
   obtain ⟨q,g1,g2⟩:=m2 k c hc
   exact ⟨q,g1,g2,e3 k c u hc hu⟩
  have hnr:∀ (k:Nat) c,caps[k]?=some c→∀ sz es,c≠.row sz es:=fun k c hc sz es e=>by
   have hk:k<arr.size:=by rw [e2];exact (List.getElem?_eq_some_iff.1 hc).1
   have:=e3 k c arr[k] hc (Array.getElem?_eq_getElem hk)
   rw [e] at this;exact this
  refine ⟨fun v hv=>?_,fun hfl=>?_,fun T1 hst hn=>?_⟩
  ·obtain ⟨k,hk⟩:=List.mem_iff_getElem?.1 hv
   obtain ⟨q,g1,_⟩:=m2 k v hk
   exact yH g1 (fun sz es e=>absurd e (hnr k v hk sz es))
  ·rw [e1]
   refine .func f _ arr (by simp [m1,e2]) (fun j p u hp hu=>?_)
   rw [List.getElem?_map] at hp
   cases hl:l[j]? with
   |none=>rw [hl] at hp;cases hp
   |some q =>
    rw [hl] at hp;cases hp
    have hj:j<caps.length:=by rw [← m1];exact (List.getElem?_eq_some_iff.1 hl).1
    obtain ⟨q',g1,g2,g3⟩:=hcap j caps[j] u (List.getElem?_eq_getElem hj) hu
    rw [hl] at g2;cases g2
    have hq:q.2=false:=by
     have:=List.any_eq_false.1 hfl q (List.mem_of_getElem? hl)
     simpa using this
    obtain ⟨q1,q2⟩:=q
    simp only at hq;subst hq
    exact h.JY (g3.SB rfl 0) g1
  ·rw [e1]
   refine .func f _ arr (by simp [m1,e2]) (fun j p u hp hu=>?_)
   rw [List.getElem?_map] at hp
   cases hl:l[j]? with
   |none=>rw [hl] at hp;cases hp
   |some q =>
    rw [hl] at hp;cases hp
    have hj:j<caps.length:=by rw [← m1];exact (List.getElem?_eq_some_iff.1 hl).1
    have hcj:caps[j]?=some caps[j]:=List.getElem?_eq_getElem hj
    obtain ⟨q',g1,g2,g3⟩:=hcap j caps[j] u hcj hu
    rw [hl] at g2;cases g2
    exact h.snap (x:=.c .void) (g3.SB rfl 0) (fun sz es e=>absurd e (hnr j _ hcj sz es)) g1 hst (hn _ (List.getElem_mem hj))
 |_ =>
  rw [hg] at hs
  exact hgen _ hg (by simp) hs
def callable (P:Program) (f:Nat):Bool :=
 match P.funcs[f]? with
 |some fn=>fn.name != "runtime.NumGoroutine"&&fn.body.isSome
 |none=>false
theorem qW {f:Nat} (h:callable P f=true) (args:Array Value) (w:World):(callFunc f args).run P w=.ok (.enter f args) w:=by
 unfold callable at h
 split at h
 ·rename_i fn hf
  simp only [Bool.and_eq_true,bne_iff_ne,ne_eq] at h
  obtain ⟨h1,h2⟩:=h
  obtain ⟨b,hb⟩:=Option.isSome_iff_exists.1 h2
  simp [callFunc,program,Sem.run,hf,h1,hb]
 ·cases h
theorem xu:∀ {ys:List Operand} {xs:List bP},lW ys xs=true→ys.length=xs.length∧∀ (i:Nat) y x,ys[i]?=some y→xs[i]?=some x→aY y x=true
 |[],[],_=>⟨rfl,fun i y x hy=>by simp at hy⟩
 |[],_ :: _,h=>by simp [lW] at h
 |_ :: _,[],h=>by simp [lW] at h
 |y :: ys,x :: xs,h=>by
  simp only [lW,Bool.and_eq_true] at h
  obtain ⟨g1,g2⟩:=xu h.2
  refine ⟨by simp [g1],fun i y' x' hy hx=>?_⟩
  cases i with
  |zero=>simp at hy hx;subst hy;subst hx;exact h.1
  |succ i=>exact g2 i y' x' (by simpa using hy) (by simpa using hx)
def fE (P:Program) (rec:ak→St→Option (Ex × St)) (env:Env):Prop :=
 (∀ f args rs,gJ rec env f args=some rs→callable P f=true∧oI P f args rs)∧(∀ f h,env f=some (.Gg h)→callable P f=true∧Oh P f h)∧(∀ f x args rs out,kG rec env f x args=some (rs,out)→callable P f=true∧QI P f x args rs out)∧∀ f args t n,wV rec env f args=some (some (t,n))→callable P f=true∧QH P f args t n
theorem GL (aW:fE P rec env) (h:aI L σ T st a w) (hG:jJ T w) {ys:List Operand} {xs:List bP} (hm:lW ys xs=true) {caps:List AV} {oJ:List Value} (hc:oJ.length=caps.length) (hcr:∀ (k:Nat) c u,caps[k]?=some c→oJ[k]?=some u→gU st.boxes.length σ T w c u) {f:Nat}
  (hp:gQ rec env d f xs caps st=some st'):callable P f=true∧Calls P f (ys.map a.eval++oJ).toArray w (fun e w'=>∃ v T2,e=.returned v∧aI L σ T2 st' (a.put (some d) v) w'∧uG T T2 w w'∧Whole w w'):=by
 unfold gQ at hp
 obtain ⟨l,h1,hp1⟩:=bind_some hp
 clear hp
 obtain ⟨k,h2,hp2⟩:=bind_some hp1
 clear hp1
 obtain ⟨rs,h3,hp3⟩:=bind_some hp2
 clear hp2
 have hp:=Option.some.inj hp3
 clear hp3
 obtain ⟨hcall,hok⟩:=aW.1 f _ rs h3
 obtain ⟨l1,l2⟩:=mapM_some h1
 obtain ⟨k1,k2⟩:=mapM_some h2
 obtain ⟨m1,m2⟩:=xu hm
 refine ⟨hcall,?_⟩
 have hop:∀ (i:Nat) x,xs[i]?=some x→∃ y q,ys[i]?=some y∧aY y x=true∧st.jw (st.get x)=some q∧l[i]?=some q:=fun i x hx=>by
  obtain ⟨q,g1,g2⟩:=l2 i x hx
  have hi:i<ys.length:=by rw [m1];exact (List.getElem?_eq_some_iff.1 hx).1
  exact ⟨ys[i],q,List.getElem?_eq_getElem hi,m2 i _ x (List.getElem?_eq_getElem hi) hx,g1,g2⟩
 have hcap:∀ (i:Nat) c,caps[i]?=some c→∃ u q,oJ[i]?=some u∧gU st.boxes.length σ T w c u∧st.snap c=some q∧k[i]?=some q:=fun i c hx=>by
  obtain ⟨q,g1,g2⟩:=k2 i c hx
  have hi:i<oJ.length:=by rw [hc];exact (List.getElem?_eq_some_iff.1 hx).1
  exact ⟨oJ[i],q,List.getElem?_eq_getElem hi,hcr i c _ hx (List.getElem?_eq_getElem hi),g1,g2⟩
 have hnr:∀ (i:Nat) c,caps[i]?=some c→∀ sz es,c≠.row sz es:=fun i c hx sz es e=>by
  obtain ⟨u,q,_,g,_⟩:=hcap i c hx
  rw [e] at g;exact g
 have ads:∀ x∈xs,EG st x (st.get x):=fun x hx=>by
  obtain ⟨i,hi⟩:=List.mem_iff_getElem?.1 hx
  obtain ⟨y,⟨p,fl⟩,_,g2,g3,_⟩:=hop i x hi
  exact (h.Kr g2 g3).1
 have adt:∀ v∈caps,Held st (.c .void) v:=fun v hv=>by
  obtain ⟨i,hi⟩:=List.mem_iff_getElem?.1 hv
  obtain ⟨u,⟨p,fl⟩,_,_,g,_⟩:=hcap i v hi
  exact yH g (fun sz es e=>absurd e (hnr i v hi sz es))
 -- the tags under which the arguments are read only
 have afV:∃ T1,jV T T1 st (caps.foldl (fun s v=>s.bg (.c .void) v) (xs.foldl St.bZ st))∧aI L σ T1 (caps.foldl (fun s v=>s.bg (.c .void) v) (xs.foldl St.bZ st)) a w∧(∀ x∈xs,sW T T1 x (st.get x))∧∀ v∈caps,Needs T T1 (.c .void) v:=by
  obtain ⟨T1,f1,f2,f3,f4⟩:=jV.args xs (jV.refl T st) h ads
  obtain ⟨T2,g1,g2,g3,g4⟩:=jV.V5 caps f1 f2 adt
  exact ⟨T2,g1,g2,fun x hx=>(f4 x hx).still g3,g4⟩
 -- from such tags to what the call leaves
 have hgo:∀ T1,Still T T1→(∀ (i:Nat) p v,(l.map (·.1)++k.map (·.1))[i]?=some p→(ys.map a.eval++oJ)[i]?=some v→ay (fun b=>T1 b=.ro) w p v)→∀ Tc st1,aI L σ Tc st1 a w→Still T Tc→((∀ b,T1 b=.ro→Tc b=.ro)∨rs.all (·.1.scalar)=true)→st1.layAll d rs=st' →
   Calls P f (ys.map a.eval++oJ).toArray w (fun e w'=>∃ v T2,e=.returned v∧aI L σ T2 st' (a.put (some d) v) w'∧uG T T2 w w'∧Whole w w'):=fun T1 hst hargs Tc st1 hS adu hro hst'=>by
  obtain ⟨T0,hT0⟩:∃ T0:Tags,T0=fun b=>if T1 b=.ro then .ro else .other:=⟨_,rfl⟩
  have EH:∀ b,T0 b=.ro ↔ T1 b=.ro:=fun b=>by rw [hT0];simp only;split<;>simp [*]
  have h0:=hok T0 w (ys.map a.eval++oJ) (fun b=>by rw [hT0];simp only;split<;>simp) (fun b hb=>by rw [hT0];simp only;rw [if_neg];rw [hst.other b (h.fresh b hb)];simp) (by simp [l1,k1,m1,hc]) (fun i p v hp hv=>(hargs i p v hp hv).frame fun b hb _=>⟨(EH b).2 hb,rfl⟩) (hG.frame fun b hb _=>⟨(EH b).2 (hst.ro b hb),rfl⟩)
  refine h0.mono ?_
  rintro e w' ⟨v,T',rfl,hB,hTb,hTf,hres⟩
  have hwh:Whole w w':=⟨hB.size,fun b hl=>hB.block b hl⟩
  have EI:∀ {TT:Tags},oU TT w w':=fun {TT}=>hwh.sees
  have hS':=hS.sees (EI (TT:=Tc))
  have hfin:=hS'.results (old:=fun b=>b<w.heap.size) (fun b hb=>Nat.lt_of_lt_of_le hb hB.size) (fun b hb=>adu.other b (h.fresh b (Nat.le_of_not_lt hb))) hTf hres (hro.imp (fun g b hl hb=>g b ((EH b).1 (by rw [← hTb b hl];exact hb))) id) (fun b i hl e=>by
   rw [hTb b hl,hT0] at e;simp only at e;split at e<;>cases e) (d:=d)
  rw [hst'] at hfin
  refine ⟨v,_,rfl,hfin,⟨hB.size,hB.os,hB.tape,hB.output,fun b hl _=>hB.block b hl,fun b e=>?_,fun b hl e=>?_⟩,hwh⟩
  ·have hl:b<w.heap.size:=by
    rcases Nat.lt_or_ge b w.heap.size with g|g
    ·exact g
    ·rw [h.fresh b g] at e;cases e
   simp [laid,hl,adu.ro b e]
  ·simp [laid,hl,adu.other b e]
 have hlen:(l.map (·.1)).length=(ys.map a.eval).length:=by simp [l1,m1]
 have hargs:∀ T1:Tags,(∀ (i:Nat) x y q,xs[i]?=some x→ys[i]?=some y→aY y x=true→st.jw (st.get x)=some q→l[i]?=some q→ay (fun b=>T1 b=.ro) w q.1 (a.eval y))→(∀ (i:Nat) c u q,caps[i]?=some c→gU st.boxes.length σ T w c u→st.snap c=some q→k[i]?=some q→ay (fun b=>T1 b=.ro) w q.1 u) →
   ∀ (i:Nat) p v,(l.map (·.1)++k.map (·.1))[i]?=some p→(ys.map a.eval++oJ)[i]?=some v→ay (fun b=>T1 b=.ro) w p v:=fun T1 g1 g2 i p v hp hv=>by
  rcases Nat.lt_or_ge i xs.length with hi|hi
  ·rw [List.getElem?_append_left (by simp [l1,hi]),List.getElem?_map] at hp
   rw [List.getElem?_append_left (by simp [m1,hi]),List.getElem?_map] at hv
   obtain ⟨y,q,q1,q2,q3,q4⟩:=hop i xs[i] (List.getElem?_eq_getElem hi)
   rw [q4] at hp;rw [q1] at hv
   cases hp;cases hv
   exact g1 i _ y q (List.getElem?_eq_getElem hi) q1 q2 q3 q4
  ·rw [List.getElem?_append_right (by simp [l1,hi]),List.getElem?_map] at hp
   rw [List.getElem?_append_right (by simp [m1,hi])] at hv
   simp only [List.length_map,l1] at hp
   simp only [List.length_map,m1] at hv
   cases hk:k[i - xs.length]? with
   |none=>rw [hk] at hp;cases hp
   |some q =>
    rw [hk] at hp;cases hp
    have hj:i - xs.length<caps.length:=by rw [← k1];exact (List.getElem?_eq_some_iff.1 hk).1
    obtain ⟨u,q',q1,q2,q3,q4⟩:=hcap _ caps[i - xs.length] (List.getElem?_eq_getElem hj)
    rw [hk] at q4;cases q4
    rw [q1] at hv;cases hv
    exact g2 _ _ _ q (List.getElem?_eq_getElem hj) q2 q3 hk
 cases hfl:(l.any (·.2) || k.any (·.2)) with
 |false =>
  -- nothing of this call's own is handed over
  rw [hfl] at hp
  simp only [Bool.or_eq_false_iff] at hfl
  refine hgo T (Still.refl T) (hargs T (fun i x y q hx hy hmo hs hl=>?_) (fun i c u q hx hcr hs hk=>?_)) T st h (Still.refl T) (.inl fun _ e=>e) (by simpa using hp)
  ·have hq:q.2=false:=by have:=List.any_eq_false.1 hfl.1 q (List.mem_of_getElem? hl);simpa using this
   obtain ⟨q1,q2⟩:=q
   simp only at hq;subst hq
   exact (h.Kr hmo hs).2.1 rfl
  ·have hq:q.2=false:=by have:=List.any_eq_false.1 hfl.2 q (List.mem_of_getElem? hk);simpa using this
   obtain ⟨q1,q2⟩:=q
   simp only at hq;subst hq
   exact h.JY (hcr.SB rfl 0) hs
 |true =>
  obtain ⟨T1,z1,z2,z3,z4⟩:=afV
  have hargs1:=hargs T1 (fun i x y q hx hy hmo hs hl=>by obtain ⟨q1,q2⟩:=q;exact (h.Kr hmo hs).2.2 T1 z1.still (z3 x (List.mem_of_getElem? hx))) (fun i c u q hx hcr hs hk=>by obtain ⟨q1,q2⟩:=q;exact h.snap (x:=.c .void) (hcr.SB rfl 0) (fun sz es e=>absurd e (hnr i c hx sz es)) hs z1.still (z4 c (List.mem_of_getElem? hx)))
  cases hsc:rs.all (·.1.scalar) with
  |true =>
   rw [hfl,hsc] at hp
   exact hgo T1 z1.still hargs1 T st h (Still.refl T) (.inr hsc) (by simpa using hp)
  |false =>
   rw [hfl,hsc] at hp
   exact hgo T1 z1.still hargs1 T1 _ z2 z1.still (.inl fun _ e=>e) (by simpa using hp)
end
end Go.Proofs.YtaaokejjmdbfaaaDoor

namespace Go.Proofs.YtaaokejjmdbfaaaDoor
open Go.RowKit
section
variable {P:Program} {L:Nat} {σ σ':Nat→Nat} {T T' T1 T2:Tags} {st st' st1:St} {a:Act} {w w1:World} {o:Oper} {vo:fM} {y:Operand} {x:bP} {d:Nat}
 {rec:ak→St→Option (Ex × St)} {env:Env}
def zB (T:Tags) (n:Nat):Tags:=fun b=>match T b with
 |.row (.part t i)=>if t=n then .other else .row (.part t i)
 |q=>q
theorem kE {n b:Nat} {q:vI} (h:T b=q) (hq:∀ i,q≠.row (.part n i)):zB T n b=q:=by
 unfold zB
 rw [h]
 cases q with
 |row r =>
  cases r with
  |part t i =>
   by_cases e:t=n
   ·subst e;exact absurd rfl (hq i)
   ·simp [e]
  |slot t=>rfl
  |cell p j=>rfl
 |_=>rfl
theorem V7 {n i b:Nat} (h:T b=.row (.part n i)):zB T n b=.other:=by simp [zB,h]
theorem aI.aau (h:aI L σ T st a w) (n:Nat):aI L σ (zB T n) (st.put n .any) a w:=by
 have h':=h.forget n
 have hw:∀ b,T b=.ro→b<w.heap.size→zB T n b=.ro∧w.heap[b]?=w.heap[b]?:=fun b e _=>⟨kE e (by simp),rfl⟩
 refine ⟨h'.size,fun t x u hx hu=>?_,fun p bx ho=>?_,fun b hb=>kE (h'.fresh b hb) (by simp)⟩
 ·refine (h'.slots t x u hx hu).keep hw (fun s l e b hb _=>⟨kE hb (by simp),rfl⟩) (fun l e i he b hb _=>⟨kE hb (fun j e2=>?_),rfl⟩) (fun q hq _ s l e=>⟨⟨l,e⟩,rfl⟩) (Nat.le_refl _) (fun _ _=>rfl)
  injection e2 with e2
  injection e2 with e2 _
  subst e2
  rw [e] at hx
  simp only [St.put,List.getElem?_set,if_true] at hx
  split at hx<;>cases hx
 ·have hb:=h'.boxes p bx ho
  have hT:zB T n (σ p)=T (σ p):=by
   obtain ⟨_,_,_,_,h3,_⟩:=hb
   refine kE rfl fun i e=>?_
   rw [h3] at e
   split at e<;>cases e
  exact hb.frame ⟨hT,rfl⟩ (fun j b e _=>⟨kE e (by simp),rfl⟩) hw
theorem SN (st:St) (B:List Box) (d:Nat) (v:PV) (own:Bool):({ st with boxes:=B }:St).lay d v own={ st.lay d v own with boxes:=B }∧(st.lay d v own).boxes=st.boxes:=by
 unfold St.lay
 cases own with
 |false=>exact ⟨rfl,rfl⟩
 |true=>cases v<;>exact ⟨rfl,rfl⟩
theorem xw (st:St) (B:List Box) (d:Nat) (rs:List l9):({ st with boxes:=B }:St).layAll d rs={ st.layAll d rs with boxes:=B }∧(st.layAll d rs).boxes=st.boxes:=by
 match rs with
 |[]=>exact ⟨rfl,rfl⟩
 |[(v,own)]=>exact SN st B d v own
 |_ :: _ :: _=>exact ⟨rfl,rfl⟩
theorem BD (aW:fE P rec env) (h:aI L σ T st a w) (hG:jJ T w) (hmx:aY y x=true) {ys:List Operand} {xs:List bP} (hm:lW ys xs=true) {caps:List AV} {oJ:List Value} (hc:oJ.length=caps.length)
  (hcr:∀ (k:Nat) c u,caps[k]?=some c→oJ[k]?=some u→gU st.boxes.length σ T w c u) {f:Nat} (hp:mP rec env d f x xs caps st=some st') :
  callable P f=true∧Calls P f (a.eval y :: (ys.map a.eval++oJ)).toArray w (fun e w'=>∃ v T2,e=.returned v∧aI L σ T2 st' (a.put (some d) v) w'∧uG T T2 w w'):=by
 unfold mP at hp
 obtain ⟨l,h1,hp1⟩:=bind_some hp
 clear hp
 obtain ⟨k,h2,hp2⟩:=bind_some hp1
 clear hp1
 obtain ⟨⟨la,bo,s1⟩,h3,hp3⟩:=bind_some hp2
 clear hp2
 obtain ⟨⟨rs,out⟩,h4,hp4⟩:=bind_some hp3
 clear hp3
 obtain ⟨s2,h5,hp5⟩:=bind_some hp4
 clear hp4
 have hp:=Option.some.inj hp5
 clear hp5
 simp only at h4 h5 hp
 split at h3
 ·cases h3
 rename_i hfl
 simp only [Bool.or_eq_true,not_or,Bool.not_eq_true] at hfl
 obtain ⟨hcall,hok⟩:=aW.2.2.1 f la _ rs out h4
 refine ⟨hcall,?_⟩
 obtain ⟨l1,l2⟩:=mapM_some h1
 obtain ⟨k1,k2⟩:=mapM_some h2
 obtain ⟨m1,m2⟩:=xu hm
 have hlen:(ys.map a.eval++oJ).length=(l.map (·.1)++k.map (·.1)).length:=by simp [l1,k1,m1,hc]
 have hargs:∀ (i:Nat) p v,(l.map (·.1)++k.map (·.1))[i]?=some p→(ys.map a.eval++oJ)[i]?=some v→ay (fun b=>T b=.ro) w p v:=fun i p v hpi hv=>by
  rcases Nat.lt_or_ge i xs.length with hi|hi
  ·rw [List.getElem?_append_left (by simp [l1,hi]),List.getElem?_map] at hpi
   rw [List.getElem?_append_left (by simp [m1,hi]),List.getElem?_map] at hv
   obtain ⟨q,g1,g2⟩:=l2 i xs[i] (List.getElem?_eq_getElem hi)
   have hi2:i<ys.length:=by rw [m1];exact hi
   rw [g2] at hpi
   rw [List.getElem?_eq_getElem hi2] at hv
   cases hpi;cases hv
   have hq:q.2=false:=by have:=List.any_eq_false.1 hfl.1 q (List.mem_of_getElem? g2);simpa using this
   obtain ⟨q1,q2⟩:=q
   simp only at hq;subst hq
   exact (h.Kr (m2 i _ _ (List.getElem?_eq_getElem hi2) (List.getElem?_eq_getElem hi)) g1).2.1 rfl
  ·rw [List.getElem?_append_right (by simp [l1,hi]),List.getElem?_map] at hpi
   rw [List.getElem?_append_right (by simp [m1,hi])] at hv
   simp only [List.length_map,l1] at hpi
   simp only [List.length_map,m1] at hv
   cases hk:k[i - xs.length]? with
   |none=>rw [hk] at hpi;cases hpi
   |some q =>
    rw [hk] at hpi;cases hpi
    have hj:i - xs.length<caps.length:=by rw [← k1];exact (List.getElem?_eq_some_iff.1 hk).1
    obtain ⟨q',g1,g2⟩:=k2 _ caps[i - xs.length] (List.getElem?_eq_getElem hj)
    rw [hk] at g2;cases g2
    have hq:q.2=false:=by have:=List.any_eq_false.1 hfl.2 q (List.mem_of_getElem? hk);simpa using this
    obtain ⟨q1,q2⟩:=q
    simp only at hq;subst hq
    exact h.JY ((hcr _ _ v (List.getElem?_eq_getElem hj) hv).SB rfl 0) g1
 -- what goes over for good
 have go:∀ (T1 T0:Tags) (old:Nat→Prop),aI L σ T1 s1 a w→(∀ b,T b=.ro→T0 b=.ro∧T1 b=.ro)→(∀ b,T b=.other→T0 b=.other∧T1 b=.other)→(∀ b,T0 b=.ro→T1 b=.ro)→(∀ b,old b→T0 b=.ro∨T0 b=.other)→(∀ b,old b→b<w.heap.size)→(∀ b,¬ old b→T1 b=.other)→(∀ b,b<w.heap.size→(T b=.ro∨T b=.other)→old b) →
   aat T0 w (a.eval y) la→bo=none→Calls P f (a.eval y :: (ys.map a.eval++oJ)).toArray w (fun e w'=>∃ v T2,e=.returned v∧aI L σ T2 st' (a.put (some d) v) w'∧uG T T2 w w'):=fun T1 T0 old hS c1 c2 c3 c4 c5 c6 c7 hL hbo=>by
  have hs2:s2=s1:=by
   rw [hbo] at h5
   unfold mg at h5
   split at h5
   ·exact (Option.some.inj h5).symm
   ·rename_i e;cases e
   ·cases h5
  subst hs2
  have h0:=hok T0 w (a.eval y) (ys.map a.eval++oJ) (fun b hb=>(c2 b (h.fresh b hb)).1) hL hlen (fun i p v hpi hv=>(hargs i p v hpi hv).frame fun b hb _=>⟨(c1 b hb).1,rfl⟩) (hG.frame fun b hb _=>⟨(c1 b hb).1,rfl⟩)
  refine h0.mono ?_
  rintro e w' ⟨u,T',rfl,z1,z2,z3,z4,z5,z6,z7,_⟩
  have hS':=hS.sees ⟨z1,fun b hb hl=>(z5 b hl (c4 b (Classical.byContradiction fun g=>hb (c6 b g)))).1⟩
  have hfin:=hS'.results (old:=old) (d:=d) (fun b hb=>Nat.lt_of_lt_of_le (c5 b hb) z1) c6 z6 z7 (.inl fun b hb e=>c3 b (by rw [← (z5 b (c5 b hb) (c4 b hb)).2];exact e)) (fun b i hb e=>by
   rw [(z5 b (c5 b hb) (c4 b hb)).2] at e
   rcases c4 b hb with g|g<;>rw [g] at e<;>cases e)
  rw [hp] at hfin
  refine ⟨u,_,rfl,hfin,⟨z1,z2,z3,z4,fun b hl e=>(z5 b hl (c4 b (c7 b hl e))).1,fun b e=>?_,fun b hl e=>?_⟩⟩
  ·have hl:b<w.heap.size:=by
    rcases Nat.lt_or_ge b w.heap.size with g|g
    ·exact g
    ·rw [h.fresh b g] at e;cases e
   simp [laid,c7 b hl (.inl e),(c1 b e).2]
  ·simp [laid,c7 b hl (.inr e),(c2 b e).2]
 unfold qJ at h3
 split at h3
 ·-- a struct with slices of its own
  rename_i lo hg
  split at h3
  case h_2=>cases h3
  rename_i n
  cases h3
  obtain ⟨arr,e1,e2,e3⟩:jF L σ T st a w n (.jY true lo) (a.eval y):=by
   rcases h.get hmx with ⟨t,et,(⟨_,g⟩|g)⟩|⟨v',et,_⟩|⟨s,et,_⟩
   ·cases et;rw [hg] at g;exact g
   ·cases et;rw [hg] at g;cases g
   ·cases et
   ·cases et
  obtain ⟨T0,hT0⟩:∃ T0:Tags,T0=fun b=>match T b with
   |.ro=>.ro
   |.row (.part t i)=>if t=n then .row (.part 0 i) else .other
   |_=>.other:=⟨_,rfl⟩
  have t1:∀ b,T b=.ro→T0 b=.ro:=fun b e=>by rw [hT0];simp [e]
  have t2:∀ b i,T b=.row (.part n i)→T0 b=.row (.part 0 i):=fun b i e=>by rw [hT0];simp [e]
  have t3:∀ b,T0 b=.ro→T b=.ro:=fun b e=>by
   rw [hT0] at e
   simp only at e
   split at e
   ·assumption
   ·split at e<;>cases e
   ·cases e
  have t4:∀ b,(∀ i,T b≠.row (.part n i))→T0 b=.ro∨T0 b=.other:=fun b e=>by
   rw [hT0]
   simp only
   split
   ·exact .inl rfl
   ·rename_i t i et
    split
    ·rename_i etn;subst etn;exact absurd et (e i)
    ·exact .inr rfl
   ·exact .inr rfl
  refine go (zB T n) T0 (fun b=>b<w.heap.size∧∀ i,T b≠.row (.part n i)) (h.aau n) (fun b e=>⟨t1 b e,kE e (by simp)⟩) (fun b e=>⟨by rw [hT0];simp [e],kE e (by simp)⟩) (fun b e=>kE (t3 b e) (by simp)) (fun b hb=>t4 b hb.2) (fun b hb=>hb.1) (fun b hb=>?_) (fun b hl e=>⟨hl,fun i e2=>by rw [e2] at e;rcases e with e|e<;>cases e⟩) ⟨arr,e1,e2,fun k x u hx hu=>?_⟩ rfl
  ·by_cases hl:b<w.heap.size
   ·obtain ⟨i,hi⟩:=Classical.not_forall.1 fun g=>hb ⟨hl,g⟩
    exact V7 (Classical.not_not.1 hi)
   ·exact kE (h.fresh b (Nat.le_of_not_lt hl)) (by simp)
  ·have hk:=e3 k x u hx hu
   cases x with
   |pv v=>exact ay.frame (fun b hb _=>⟨t1 b hb,rfl⟩) hk
   |row s l'=>exact aH.frame (fun b hb _=>⟨t2 b k hb,rfl⟩) (fun b hb _=>⟨t1 b hb,rfl⟩) hk
   |any=>trivial
   |_=>exact hk
 ·-- a variable
  rename_i q hg
  split at h3
  case h_2=>cases h3
  rename_i bx hbx
  split at h3
  ·cases h3
  rename_i hfz
  have hfz:bx.fz=false:=by simpa using hfz
  cases h3
  have hy:a.eval y=.pointer (some ⟨σ q,0,none⟩):=by
   rcases h.get hmx with ⟨t,et,(⟨_,g⟩|g)⟩|⟨v',et,g⟩|⟨s,et,g⟩
   ·rw [hg] at g;exact g.2
   ·rw [hg] at g;cases g
   ·rw [et] at hg;simp [St.get] at hg
   ·rw [et] at hg;simp [St.get] at hg
  obtain ⟨T1,hS,hst,_,_,hbt⟩:=h.o9 q
  have ol:q<st.boxes.length:=(List.getElem?_eq_some_iff.1 hbx).1
  have hb1:(st.bf q).boxes[q]?=some { bx with cs:=bx.cs.map BV.frozen }:=by
   unfold St.bf
   rw [hbx]
   simp [List.getElem?_set,ol]
  obtain ⟨arr,E,g1,g2,g3,g4,g5⟩:=hS.boxes q _ hb1
  have V3:T1 (σ q)=.box q:=by rw [g3];simp [hfz]
  obtain ⟨T0,hT0⟩:∃ T0:Tags,T0=fun b=>if b=σ q then .box 0 else if T1 b=.ro then .ro else .other:=⟨_,rfl⟩
  have t1:∀ b,T1 b=.ro→T0 b=.ro:=fun b e=>by
   rw [hT0]
   simp only
   rw [if_neg (fun e2=>by rw [e2,V3] at e;cases e),if_pos e]
  have t3:∀ b,T0 b=.ro→T1 b=.ro:=fun b e=>by
   rw [hT0] at e
   simp only at e
   split at e
   ·cases e
   ·split at e
    ·assumption
    ·cases e
  have t4:∀ b,b≠σ q→T0 b=.ro∨T0 b=.other:=fun b e=>by
   rw [hT0]
   simp only
   rw [if_neg e]
   split
   ·exact .inl rfl
   ·exact .inr rfl
  have t5:∀ b,T1 b=.other→T0 b=.other:=fun b e=>by
   rw [hT0]
   simp only
   rw [if_neg (fun e2=>by rw [e2,V3] at e;cases e),if_neg (by rw [e];simp)]
  have t6:T0 (σ q)=.box 0:=by rw [hT0];simp
  have hσl:σ q<w.heap.size:=(Array.getElem?_eq_some_iff.1 g1).1
  have hL:aat T0 w (a.eval y) (.box (bx.cs.map BV.val)):=by
   refine ⟨σ q,hy,arr,E,g1,by simpa using g2,by simp [t6],fun e=>(by simp at e),fun j bv u hj hu=>?_⟩
   simp only [List.map_map,List.getElem?_map] at hj
   cases hcj:bx.cs[j]? with
   |none=>rw [hcj] at hj;cases hj
   |some bv0 =>
    rw [hcj] at hj
    have hj:=Option.some.inj hj
    subst hj
    obtain ⟨r1,r2⟩:=g5 j (.pv bv0.val) u (by simp only [List.getElem?_map,hcj];cases bv0<;>rfl) hu
    exact ⟨r1,ay.frame (fun b hb _=>⟨t1 b hb,rfl⟩) r2⟩
  have h0:=hok T0 w (a.eval y) (ys.map a.eval++oJ) (fun b hb=>t5 b (hS.fresh b hb)) hL hlen (fun i p v hpi hv=>(hargs i p v hpi hv).frame fun b hb _=>⟨t1 b (hst.ro b hb),rfl⟩) (hG.frame fun b hb _=>⟨t1 b (hst.ro b hb),rfl⟩)
  refine h0.mono ?_
  rintro e w' ⟨u,T',rfl,z1,z2,z3,z4,z5,z6,z7,z8⟩
  obtain ⟨cs,hcs,hs2⟩:∃ cs,out=some cs∧s2={ st.bf q with boxes:=(st.bf q).boxes.set q { bx with cs:=cs.map .pv } }:=by
   unfold mg at h5
   split at h5
   ·rename_i e;cases e
   ·rename_i o' cs e
    cases e
    rw [hb1] at h5
    exact ⟨cs,rfl,(Option.some.inj h5).symm⟩
   ·cases h5
  subst hcs
  obtain ⟨y1,arr',E',y2,y3,y4⟩:=z8 (σ q) hy
  -- first with nothing known of the variable's contents
  have hv1:=hS.acI (w1:=w') (cs:=List.replicate arr'.size .void) hb1 hfz (fun b hb=>hS.fresh b (Nat.le_trans z1 hb)) (fun b hl hne hot=>(z5 b hl (t4 b hne)).1) ⟨arr',E',y2,by simp,fun j x u hx hu=>by
   have hj:=(Array.getElem?_eq_some_iff.1 hu).1
   have hxv:x=.void:=(List.mem_replicate.1 (List.mem_of_getElem? hx)).2
   subst hxv
   have hj2:j<cs.length:=by omega
   have hk:=(y4 j cs[j] u (List.getElem?_eq_getElem hj2) hu).1
   exact ⟨hk,.void u hk⟩⟩
  have hfin:=hv1.results (old:=fun b=>b<w.heap.size) (d:=d) (fun b hb=>Nat.lt_of_lt_of_le hb z1) (fun b hb=>hS.fresh b (Nat.le_of_not_lt hb)) z6 z7 (.inl fun b hb e=>by
   by_cases hq:b=σ q
   ·subst hq;rw [y1] at e;cases e
   ·exact t3 b (by rw [← (z5 b hb (t4 b hq)).2];exact e)) (fun b i hb e=>by
   by_cases hq:b=σ q
   ·subst hq;rw [y1] at e;cases e
   ·rw [(z5 b hb (t4 b hq)).2] at e
    rcases t4 b hq with g|g<;>rw [g] at e<;>cases e)
  obtain ⟨TT,SL⟩:∃ TT,TT=laid T1 T' (fun b=>b<w.heap.size) d (oneRow rs):=⟨_,rfl⟩
  rw [← SL] at hfin
  have hold:∀ b,b<w.heap.size→TT b=T1 b:=fun b hb=>by rw [SL];simp [laid,hb]
  obtain ⟨B,hB⟩:∃ B:List Box,B=(st.bf q).boxes.set q { bx with cs:=(List.replicate arr'.size PV.void).map .pv }:=⟨_,rfl⟩
  have hBx:B[q]?=some { bx with cs:=(List.replicate arr'.size PV.void).map .pv }:=by
   rw [hB,List.getElem?_set_self]
   exact (List.getElem?_eq_some_iff.1 hb1).1
  rw [← hB] at hfin
  have ait:=xw (st.bf q) B d rs
  rw [ait.1] at hfin
  have hv2:=hfin.acI (w1:=w') (cs:=cs) (q:=q) (bx:={ bx with cs:=(List.replicate arr'.size PV.void).map .pv }) hBx hfz hfin.fresh (fun _ _ _ _=>rfl) ⟨arr',E',y2,y3,fun j x u hx hu=>⟨(y4 j x u hx hu).1,(y4 j x u hx hu).2.frame fun b hb _=>⟨?_,rfl⟩⟩⟩
  ·refine ⟨u,TT,rfl,?_,⟨z1,z2,z3,z4,fun b hl e=>?_,fun b e=>?_,fun b hl e=>?_⟩⟩
   ·rw [← hp,hs2,(xw (st.bf q) _ d rs).1]
    have e2:B.set q { bx with cs:=cs.map .pv }=(st.bf q).boxes.set q { bx with cs:=cs.map .pv }:=by rw [hB,List.set_set]
    rw [← e2]
    exact hv2
   ·have hq:b≠σ q:=fun e2=>by
     subst e2
     rcases e with e|e
     ·rw [hst.ro _ e] at V3;cases V3
     ·rw [hst.other _ e] at V3;cases V3
    exact (z5 b hl (t4 b hq)).1
   ·have hl:b<w.heap.size:=by
     rcases Nat.lt_or_ge b w.heap.size with g|g
     ·exact g
     ·rw [h.fresh b g] at e;cases e
    rw [hold b hl];exact hst.ro b e
   ·rw [hold b hl];exact hst.other b e
  ·by_cases hl:b<w.heap.size
   ·by_cases hq:b=σ q
    ·subst hq;rw [y1] at hb;cases hb
    ·rw [hold b hl];exact t3 b (by rw [← (z5 b hl (t4 b hq)).2];exact hb)
   ·rw [SL];simp [laid,hl,hb]
 ·-- a slice
  cases hgr:st.grab x with
  |none=>rw [hgr] at h3;cases h3
  |some q =>
   obtain ⟨sz,es,s⟩:=q
   rw [hgr] at h3
   cases h3
   obtain ⟨b1,b2,r,v,es0,c,xa,b3,b4,b5,b6,b7,b8,b9⟩:=h.grab hmx hgr
   have hun:Ob s r:=⟨b7,b8,b9⟩
   subst b5
   have hrow:=b3.take es.length
   rw [← b4] at hrow
   rw [← b6] at hrow
   obtain ⟨T0,hT0⟩:∃ T0:Tags,T0=fun b=>if T b=.row r then .row (.slot 0) else if T b=.ro then .ro else .other:=⟨_,rfl⟩
   have t1:∀ b,T b=.ro→T0 b=.ro:=fun b e=>by rw [hT0];simp [e]
   have t3:∀ b,T0 b=.ro→T b=.ro:=fun b e=>by
    rw [hT0] at e
    simp only at e
    split at e
    ·cases e
    ·split at e
     ·assumption
     ·cases e
   refine go (gone T r) T0 (fun b=>b<w.heap.size∧T b≠.row r) (b1.VT hun) (fun b e=>⟨t1 b e,jl (by simp) e⟩) (fun b e=>⟨by rw [hT0];simp [e],jl (by simp) e⟩) (fun b e=>jl (by simp) (t3 b e)) (fun b hb=>?_) (fun b hb=>hb.1) (fun b hb=>?_) (fun b hl e=>⟨hl,fun e2=>by rw [e2] at e;rcases e with e|e<;>cases e⟩) ?_ rfl
   ·rw [hT0]
    simp only
    rw [if_neg hb.2]
    split
    ·exact .inl rfl
    ·exact .inr rfl
   ·by_cases hl:b<w.heap.size
    ·exact Gv (Classical.not_not.1 fun g=>hb ⟨hl,g⟩)
    ·exact jl (by simp) (h.fresh b (Nat.le_of_not_lt hl))
   ·exact aH.frame (fun b e _=>⟨by rw [hT0];simp [e],rfl⟩) (fun b e _=>⟨t1 b e,rfl⟩) hrow
theorem D5 (aW:fE P rec env) (h:aI L σ T st a w) (hG:jJ T w) (hmx:aY y x=true) {ys:List Operand} {xs:List bP} (hm:lW ys xs=true) {caps:List AV} {oJ:List Value} (hc:oJ.length=caps.length)
  (hcr:∀ (k:Nat) c u,caps[k]?=some c→oJ[k]?=some u→gU st.boxes.length σ T w c u) {f:Nat} (hp:fD rec env d f x xs caps st=some st') :
  callable P f=true∧Calls P f (a.eval y :: (ys.map a.eval++oJ)).toArray w (fun e w'=>∃ v T2,e=.returned v∧aI L σ T2 st' (a.put (some d) v) w'∧uG T T2 w w'):=by
 obtain ⟨T1,k1,k2,k3⟩:=aI.zx xs h
 obtain ⟨q1,q2⟩:=BD (oJ:=oJ) aW k1 (hG.frame fun b hb _=>⟨k2.ro b hb,rfl⟩) hmx hm hc (fun k c u h1 h2=>by
  rw [k3]
  have:=hcr k c u h1 h2
  cases c<;>simp only [gU] at this ⊢
  case pv x=>exact this.frame fun b hb _=>⟨k2.ro b hb,rfl⟩
  case aQ o j=>exact this) hp
 exact ⟨q1,q2.mono fun e w' ⟨v,T2,h1,h2,h3⟩=>⟨v,T2,h1,h2,(k2.nC w).trans h3⟩⟩
end
end Go.Proofs.YtaaokejjmdbfaaaDoor

namespace Go.Proofs.YtaaokejjmdbfaaaDoor
open Go.RowKit
structure Ctx where
 X:List (List PV)
 stop:Option (Option Nat)
 J:Nat→Tags→World→Prop
def sZ (s:Option Nat) (k:Nat):Bool :=
 match s with
 |none=>true
 |some m=>!(k+1==m)
structure Ctx.Ok (C:Ctx) (P:Program) (L:Nat):Prop where
 keep:∀ k T T' w w',uG T T' w w'→C.J k T w→C.J k T' w'
 glob:∀ k T w,C.J k T w→jJ T w
 oQ:∀ s k T w ps (vs:List Value),C.stop=some s→C.X[k]?=some ps→(∀ b,w.heap.size≤b→T b=.other)→C.J k T w→vs.length=ps.length→(∀ (i:Nat) p v,ps[i]?=some p→vs[i]?=some v→ay (fun b=>T b=.ro) w p v) →
  ∃ f tmps assign body,(Instr.yield L vs.toArray).run P w=.ok (.round L f tmps assign body) w∧∀ n,RoundIn Fence.wide n P L f tmps assign body w fun e w'=>e=.returned (.bool (sZ s k))∧C.J (k+1) T w'∧oU T w w'
structure dn (T T':Tags) (w w':World):Prop where
 size:w.heap.size≤w'.heap.size
 ro:∀ b,T b=.ro→T' b=.ro
 same:∀ b,b<w.heap.size→T b=.ro→w'.heap[b]?=w.heap[b]?
theorem dn.refl (T:Tags) (w:World):dn T T w w:=⟨Nat.le_refl _,fun _ h=>h,fun _ _ _=>rfl⟩
theorem dn.trans {T T' T'':Tags} {a b c:World} (h:dn T T' a b) (k:dn T' T'' b c):dn T T'' a c :=
 ⟨Nat.le_trans h.size k.size,fun x e=>k.ro x (h.ro x e),fun x hx e=>(k.same x (Nat.lt_of_lt_of_le hx h.size) (h.ro x e)).trans (h.same x hx e)⟩
theorem uG.stays {T T':Tags} {w w':World} (h:uG T T' w w'):dn T T' w w':=⟨h.size,h.ro,fun b hb e=>h.same b hb (.inl e)⟩
def jK (r:Nat):Deferred:={ target:=.collected r,args:=#[] }
def Marks (T':Tags) (w w':World) (ms:List Nat):Prop:=(∀ r∈ms,w.heap.size≤r∧T' r=.ro∧w'.heap[r]?=some (.deferred (some [])))∧ms.Nodup
theorem Marks.nil {T':Tags} {w w':World}:Marks T' w w' []:=⟨by simp,List.nodup_nil⟩
def After (C:Ctx) (L nb:Nat) (σ:Nat→Nat) (T:Tags) (w:World) (st':St) (ds:List Deferred) (a':Act) (w':World):Prop :=
 ∃ (σ':Nat→Nat) (T':Tags) (ms:List Nat),aI L σ' T' st' a' w'∧C.J st'.ys.length T' w'∧(∀ k,k<nb→σ' k=σ k)∧dn T T' w w'∧a'.defers=ms.map jK++ds∧Marks T' w w' ms
def jW (F:Fence):Prop:=F=Fence.wide∨∃ l,F=Fence.wide.inRound l
theorem jW.fn {F:Fence} (h:jW F) (f:FuncId):F.fn f:=by rcases h with rfl|⟨l,rfl⟩<;>exact trivial
theorem jW.depth {F:Fence} (h:jW F):F.depth=none:=by rcases h with rfl|⟨l,rfl⟩<;>rfl
theorem jW.room {F:Fence} (h:jW F) (n:Nat):F.room n:=by rcases h with rfl|⟨l,rfl⟩<;>exact room_wide n
theorem jW.calls {F:Fence} (h:jW F) {n:Nat} {P:Program} {f:FuncId} {args:Array Value} {w:World} {R:Ending→World→Prop} (hc:Calls P f args w R):CallsIn F n P f args w R:=by
 have:=(callsIn_wide (n:=n)).2 hc
 rcases h with rfl|⟨l,rfl⟩
 ·exact this
 ·exact this
theorem jW.aav {F:Fence} (h:jW F) {n:Nat} {P:Program} {l:Nat} {f:FuncId} {tmps:Array Value} {assign body:Code} {w:World} {R:Ending→World→Prop} (hc:RoundIn Fence.wide n P l f tmps assign body w R):RoundIn F n P l f tmps assign body w R:=by
 rcases h with rfl|⟨l,rfl⟩
 ·exact hc
 ·exact hc
theorem semAt_eq {o:Oper} (h:∀ c,o.op≠.defer c) (r:Option Nat) (ρ:Operand→Value):o.semAt r ρ=execOp ρ o:=by
 cases r with
 |none=>exact Oper.semAt_none ρ o
 |some l=>exact Oper.semAt_some l ρ o h
section
variable {P:Program} {F:Fence} {C:Ctx} {n L nb:Nat} {σ σ':Nat→Nat} {T T' T1 T2:Tags} {st st' st1:St} {a:Act} {w w1:World} {o:Oper} {vo:fM} {y:Operand} {x:bP} {d:Nat}
 {rec:ak→St→Option (Ex × St)} {env:Env} {next:Act→World→Prop} {Q:Exit→Act→World→Prop}
theorem qA (hm:m1 P o vo=true) (c:Call):o.op≠.defer c:=by
 intro e
 simp only [m1,Bool.and_eq_true] at hm
 cases vo<;>simp [mv,e,QG,J9,ED,EF] at hm
theorem After.qX (hC:C.Ok P L) (hs:aI L σ' T' st' a w1) (hJ:C.J st'.ys.length T w) (hch:uG T T' w w1) (hσ:∀ k,k<nb→σ' k=σ k):After C L nb σ T w st' a.defers a w1 :=
 ⟨σ',T',[],hs,hC.keep _ _ _ _ _ hch hJ,hσ,hch.stays,rfl,Marks.nil⟩
theorem put_defers {d:Option Nat} {v:Value}:(a.put d v).defers=a.defers:=by
 cases d<;>rfl
theorem BF (hF:jW F) (hm:m1 P o vo=true) {v:Value} {nx:Next} (hr:(execOp a.eval o).run P w=.ok nx w1) (hnx:nx=.value v∨nx=.skip∧v=undef) (h:next (a.put o.dst v) w1):o.wpIn F n P a w next Q:=by
 refine ⟨fun f _=>hF.fn f,?_⟩
 rw [semAt_eq (qA hm),hr]
 rcases hnx with rfl|⟨rfl,rfl⟩
 ·exact h
 ·exact h
theorem qY {ρ:Operand→Value} {y:Operand} {ys:List Operand} {ats:Array TypeId} {f:Nat} {cap:Array Value} (ho:o.op=.call { callee:=.value y,args:=ys.toArray,argTypes:=ats }) (hy:ρ y=.func (.func f) #[] cap) (hf:callable P f=true) (w:World) :
  (execOp ρ o).run P w=.ok (.enter f ((ys.map ρ).toArray++cap)) w:=by
 have:=qW hf ((ys.map ρ).toArray++cap) w
 simp [execOp,ho,resolve,Deferred.ofValue,hy,invoke,this]
theorem BG {ok:Nat→Prop} {f:Nat} {caps:List PV} {v:Value} (h:ay ok w (.func f caps) v):∃ arr:Array Value,v=.func (.func f) #[] arr∧arr.size=caps.length∧∀ (k:Nat) p u,caps[k]?=some p→arr[k]?=some u→ay ok w p u:=by
 cases h;exact ⟨_,rfl,by assumption,by assumption⟩
def Grow (nb:Nat) (st st':St):Prop:=nb≤st'.boxes.length∧st.ys <+: st'.ys∧st'.stop=st.stop
theorem aP.grow (h:aP st st'):Grow st.boxes.length st st':=⟨h.1,by rw [h.2.1];exact List.prefix_refl _,h.2.2⟩
theorem Grow.trans {n1 n2:Nat} (h:Grow n1 st st1) (k:Grow n2 st1 st'):Grow n2 st st':=⟨k.1,h.2.1.trans k.2.1,k.2.2.trans h.2.2⟩
theorem Grow.mono {n1 n2:Nat} (h:Grow n1 st st1) (k:n2≤n1):Grow n2 st st1:=⟨Nat.le_trans k h.1,h.2.1,h.2.2⟩
theorem BH (h:act rec env vo st=some st'):Grow st.boxes.length st st':=by
 by_cases hv:∃ d x xs,vo=.yield d x xs
 ·obtain ⟨d,x,xs,rfl⟩:=hv
  simp only [act] at h
  split at h
  ·replace h:=bind_some h
   obtain ⟨stop,_,h⟩:=h
   replace h:=bind_some h
   obtain ⟨⟨vs,st1⟩,h1,h⟩:=h
   obtain ⟨m1,m2,m3⟩:=kH h1
   simp only at h
   split at h
   ·rw [← Option.some.inj h];exact ⟨m1,by rw [← m2];exact List.prefix_append _ _,m3⟩
   ·split at h
    ·rw [← Option.some.inj h];exact ⟨m1,by rw [← m2];exact List.prefix_append _ _,m3⟩
    ·cases h
  ·cases h
 ·exact (J7 (fun d x xs e=>hv ⟨d,x,xs,e⟩) h).grow
theorem Kt (h:op1 rec env vo st=some st'):Grow st.boxes.length st st':=by
 unfold op1 at h
 split at h
 ·exact BH h
 ·exact (qU h).grow
theorem iD (h:op rec env vo st=some st'):Grow st.boxes.length st st':=by
 unfold op at h
 split at h
 ·split at h
  ·split at h
   ·exact Kt h
   ·split at h
    ·rw [← Option.some.inj h];exact ((aP.refl _).put _ _).grow
    ·rw [← Option.some.inj h];exact (aP.refl _).grow
  ·split at h
   ·split at h
    ·rw [← Option.some.inj h];exact ((aP.refl _).put _ _).grow
    ·rw [← Option.some.inj h];exact (aP.refl _).grow
   ·cases h
  ·cases h
 ·exact Kt h
theorem aI.ys (h:aI L σ T st a w) (l:List (List PV)):aI L σ T { st with ys:=l } a w:=⟨h.size,h.slots,h.boxes,h.fresh⟩
def calm (o:fM):Bool:=match o with
 |.call ..|.ku ..=>true
 |o=>!kW o || qQ o
theorem yJ (hW:jW F) (hC:C.Ok P L) (aW:fE P rec env) (h:aI L σ T st a w) (hJ:C.J st.ys.length T w) (hd:o.dst=some d) (hm1:m1 P o vo=true) {ys:List Operand} {ats:Array TypeId} (ho:o.op=.call { callee:=.value y,args:=ys.toArray,argTypes:=ats }) {xs:List bP} (hm:lW ys xs=true) {caps:List AV} {oJ:Array Value} {f:Nat} (hy:a.eval y=.func (.func f) #[] oJ)
  (hc:oJ.size=caps.length) (hcr:∀ (k:Nat) c u,caps[k]?=some c→oJ[k]?=some u→gU st.boxes.length σ T w c u)
  (hp:gQ rec env d f xs caps st=some st') (hn:∀ a' w',After C L st.boxes.length σ T w st' a.defers a' w'→(calm vo=true→Whole w w')→next a' w'):o.wpIn F n P a w next Q:=by
 obtain ⟨hcall,hok⟩:=GL (oJ:=oJ.toList) aW h (hC.glob _ _ _ hJ) hm (by simpa using hc) (fun k c u h1 h2=>hcr k c u h1 (by simpa using h2)) hp
 refine ⟨fun f _=>hW.fn f,?_⟩
 rw [semAt_eq (qA hm1),qY ho hy hcall]
 refine ⟨fun e=>absurd e (by rw [hW.depth];simp),hW.calls ?_⟩
 have hargs:(ys.map a.eval++oJ.toList).toArray=(ys.map a.eval).toArray++oJ:=by simp
 rw [← hargs]
 refine hok.mono ?_
 rintro e w' ⟨v,T2,rfl,g1,g2,g3⟩
 refine hn _ _ ?_ fun _=>g3
 rw [hd,← put_defers (a:=a) (d:=some d) (v:=v)]
 exact After.qX hC g1 (by rw [(pq hp).2.1];exact hJ) g2 (fun _ _=>rfl)
theorem wz (hW:jW F) (hC:C.Ok P L) (aW:fE P rec env) (h:aI L σ T st a w) (hJ:C.J st.ys.length T w) (hd:o.dst=some d) (hm1:m1 P o vo=true) {z:Operand} {ys:List Operand} {ats:Array TypeId} (ho:o.op=.call { callee:=.value z,args:=(y :: ys).toArray,argTypes:=ats }) (hmx:aY y x=true) {xs:List bP} (hm:lW ys xs=true) {caps:List AV} {oJ:Array Value} {f:Nat} (hy:a.eval z=.func (.func f) #[] oJ)
  (hc:oJ.size=caps.length) (hcr:∀ (k:Nat) c u,caps[k]?=some c→oJ[k]?=some u→gU st.boxes.length σ T w c u)
  (hp:fD rec env d f x xs caps st=some st') (hn:∀ a' w',After C L st.boxes.length σ T w st' a.defers a' w'→next a' w'):o.wpIn F n P a w next Q:=by
 obtain ⟨hcall,hok⟩:=D5 (oJ:=oJ.toList) aW h (hC.glob _ _ _ hJ) hmx hm (by simpa using hc) (fun k c u h1 h2=>hcr k c u h1 (by simpa using h2)) hp
 refine ⟨fun f _=>hW.fn f,?_⟩
 rw [semAt_eq (qA hm1),qY ho hy hcall]
 refine ⟨fun e=>absurd e (by rw [hW.depth];simp),hW.calls ?_⟩
 have hargs:(a.eval y :: (ys.map a.eval++oJ.toList)).toArray=((y :: ys).map a.eval).toArray++oJ:=by simp
 rw [← hargs]
 refine hok.mono ?_
 rintro e w' ⟨v,T2,rfl,g1,g2⟩
 refine hn _ _ ?_
 rw [hd,← put_defers (a:=a) (d:=some d) (v:=v)]
 exact After.qX hC g1 (by rw [(nU hp).2.1];exact hJ) g2 (fun _ _=>rfl)
theorem V8 (hW:jW F) (hC:C.Ok P L) (aW:fE P rec env) (h:aI L σ T st a w) (hJ:C.J st.ys.length T w) (hst:st.stop=C.stop) (hm:m1 P o vo=true) (hp:op1 rec env vo st=some st') (hX:st'.ys <+: C.X)
  (hn:∀ a' w',After C L st.boxes.length σ T w st' a.defers a' w'→(calm vo=true→Whole w w')→next a' w'):o.wpIn F n P a w next Q:=by
 unfold op1 at hp
 split at hp
 case isFalse =>
  obtain ⟨v,T',h1,h2,h3⟩:=zA h hm hp
  refine BF hW hm (h1 w (oU.refl T w)) (.inl rfl) (hn _ _ ?_ fun _=>Whole.refl w)
  rw [← put_defers (a:=a) (d:=o.dst) (v:=v)]
  exact After.qX hC h2 (by rw [(qU hp).2.1];exact hJ) (h3.nC w) (fun _ _=>rfl)
 case isTrue =>
  by_cases hc:∃ d f xs,vo=.call d f xs
  ·obtain ⟨d,f,xs,rfl⟩:=hc
   have hm':=hm
   simp only [m1,Bool.and_eq_true,beq_iff_eq,mv] at hm'
   obtain ⟨hd,hm'⟩:=hm'
   split at hm'<;>try (cases hm';done)
   rename_i g ys ho
   simp only [Bool.and_eq_true,beq_iff_eq] at hm'
   obtain ⟨rfl,hm'⟩:=hm'
   obtain ⟨ats,ho⟩:=xq ho
   exact yJ hW hC aW h hJ hd hm ho hm' (caps:=[]) (oJ:=#[]) rfl rfl (fun k c u e=>by simp at e) hp hn
  ·by_cases hv:∃ d x xs,vo=.ku d x xs
   ·obtain ⟨d,x,xs,rfl⟩:=hv
    have hm':=hm
    simp only [m1,Bool.and_eq_true,beq_iff_eq,mv] at hm'
    obtain ⟨hd,hm'⟩:=hm'
    split at hm'<;>try (cases hm';done)
    rename_i y ys ho
    simp only [Bool.and_eq_true] at hm'
    obtain ⟨hx,hm'⟩:=hm'
    obtain ⟨ats,ho⟩:=Bv ho
    simp only [act] at hp
    split at hp
    ·rename_i f caps hg
     obtain ⟨t,hrep⟩:∃ t,jF L σ T st a w t (.pv (.func f caps)) (a.eval y):=by
      rcases h.get hx with ⟨t,rfl,(⟨_,g⟩|g)⟩|⟨v',rfl,g⟩|⟨s,rfl,g⟩
      ·rw [hg] at g;exact ⟨t,g⟩
      ·rw [g] at hg;cases hg
      ·simp only [St.get,AV.pv.injEq] at hg;subst hg;exact ⟨0,g⟩
      ·simp [St.get] at hg
     obtain ⟨arr,e1,e2,e3⟩:=BG hrep
     exact yJ hW hC aW h hJ hd hm ho hm' (caps:=caps.map .pv) (oJ:=arr) e1 (by simpa using e2) (fun k c u h1 h2=>by
      rw [List.getElem?_map] at h1
      cases hk:caps[k]? with
      |none=>rw [hk] at h1;cases h1
      |some p=>rw [hk] at h1;cases h1;exact e3 k p u hk h2) hp hn
    ·rename_i f caps hg
     obtain ⟨t,hrep⟩:∃ t,jF L σ T st a w t (.fn f caps) (a.eval y):=by
      rcases h.get hx with ⟨t,rfl,(⟨_,g⟩|g)⟩|⟨v',rfl,g⟩|⟨s,rfl,g⟩
      ·rw [hg] at g;exact ⟨t,g⟩
      ·rw [g] at hg;cases hg
      ·simp [St.get] at hg
      ·simp [St.get] at hg
     obtain ⟨arr,e1,e2,e3⟩:=hrep
     exact yJ hW hC aW h hJ hd hm ho hm' (caps:=caps) (oJ:=arr) e1 e2 e3 hp hn
    ·cases hp
   ·by_cases hli:∃ d f x xs,vo=.lin d f x xs
    ·obtain ⟨d,f,x,xs,rfl⟩:=hli
     have hm':=hm
     simp only [m1,Bool.and_eq_true,beq_iff_eq,mv] at hm'
     obtain ⟨hd,hm'⟩:=hm'
     split at hm'<;>try (cases hm';done)
     rename_i g y ys ho
     simp only [Bool.and_eq_true,beq_iff_eq] at hm'
     obtain ⟨⟨rfl,hmx⟩,hm'⟩:=hm'
     obtain ⟨ats,ho⟩:=xq ho
     exact wz hW hC aW h hJ hd hm ho hmx hm' (caps:=[]) (oJ:=#[]) rfl rfl (fun k c u e=>by simp at e) hp fun a' w' hA=>hn a' w' hA fun e=>by simp [calm,kW,qQ] at e
    by_cases hlv:∃ d g x xs,vo=.linv d g x xs
    ·obtain ⟨d,z,x,xs,rfl⟩:=hlv
     have hm':=hm
     simp only [m1,Bool.and_eq_true,beq_iff_eq,mv] at hm'
     obtain ⟨hd,hm'⟩:=hm'
     split at hm'<;>try (cases hm';done)
     rename_i yz y ys ho
     simp only [Bool.and_eq_true] at hm'
     obtain ⟨⟨hx,hmx⟩,hm'⟩:=hm'
     obtain ⟨ats,ho⟩:=Bv ho
     simp only [act] at hp
     split at hp
     ·rename_i f caps hg
      obtain ⟨t,hrep⟩:∃ t,jF L σ T st a w t (.pv (.func f caps)) (a.eval yz):=by
       rcases h.get hx with ⟨t,rfl,(⟨_,g⟩|g)⟩|⟨v',rfl,g⟩|⟨s,rfl,g⟩
       ·rw [hg] at g;exact ⟨t,g⟩
       ·rw [g] at hg;cases hg
       ·simp only [St.get,AV.pv.injEq] at hg;subst hg;exact ⟨0,g⟩
       ·simp [St.get] at hg
      obtain ⟨arr,e1,e2,e3⟩:=BG hrep
      exact wz hW hC aW h hJ hd hm ho hmx hm' (caps:=caps.map .pv) (oJ:=arr) e1 (by simpa using e2) (fun k c u h1 h2=>by
       rw [List.getElem?_map] at h1
       cases hk:caps[k]? with
       |none=>rw [hk] at h1;cases h1
       |some p=>rw [hk] at h1;cases h1;exact e3 k p u hk h2) hp fun a' w' hA=>hn a' w' hA fun e=>by simp [calm,kW,qQ] at e
     ·rename_i f caps hg
      obtain ⟨t,hrep⟩:∃ t,jF L σ T st a w t (.fn f caps) (a.eval yz):=by
       rcases h.get hx with ⟨t,rfl,(⟨_,g⟩|g)⟩|⟨v',rfl,g⟩|⟨s,rfl,g⟩
       ·rw [hg] at g;exact ⟨t,g⟩
       ·rw [g] at hg;cases hg
       ·simp [St.get] at hg
       ·simp [St.get] at hg
      obtain ⟨arr,e1,e2,e3⟩:=hrep
      exact wz hW hC aW h hJ hd hm ho hmx hm' (caps:=caps) (oJ:=arr) e1 e2 e3 hp fun a' w' hA=>hn a' w' hA fun e=>by simp [calm,kW,qQ] at e
     ·cases hp
    by_cases hsr:∃ d f x g,vo=.Gg d f x g
    ·obtain ⟨d,f,x,g,rfl⟩:=hsr
     have hm':=hm
     simp only [m1,Bool.and_eq_true,beq_iff_eq,mv] at hm'
     obtain ⟨hd,hm'⟩:=hm'
     split at hm'<;>try (cases hm';done)
     rename_i f' y1 y2 ho
     simp only [Bool.and_eq_true,beq_iff_eq] at hm'
     obtain ⟨⟨rfl,hm1⟩,hm2⟩:=hm'
     obtain ⟨ats,ho⟩:=xq ho
     simp only [act] at hp
     split at hp
     case h_2=>cases hp
     rename_i hh henv
     replace hp:=bind_some hp
     obtain ⟨⟨r,off,len⟩,h2,hp⟩:=hp
     replace hp:=bind_some hp
     obtain ⟨⟨sz,es⟩,h3,hp⟩:=hp
     replace hp:=bind_some hp
     obtain ⟨c,h4,hp⟩:=hp
     replace hp:=bind_some hp
     obtain ⟨es',h5,hp⟩:=hp
     simp only at hp
     split at hp
     case isFalse=>cases hp
     rename_i hc3
     obtain ⟨rfl,rfl,hc3⟩:=hc3
     have hp:=Option.some.inj hp
     subst hp
     obtain ⟨hcall,hok⟩:=aW.2.1 f' hh henv
     obtain ⟨xa,m,cp,x',p1,p2,p3,-,-⟩:=h.place hm1 h2 h3
     obtain ⟨u,p5,p6⟩:=h.sQ h3
     have hu:a.eval y1=u:=by
      rw [p5] at p1;cases p1
      have hm:m=es.length:=by
       rcases p6 with ⟨e1,_,e2⟩|⟨_,_,_,_,e2,_⟩
       ·cases e2;rw [e1];rfl
       ·cases e2;rfl
      rw [p2,p3 rfl,hm,Nat.sub_zero]
     have hk:=hok c sz es es' h5 T w r u (a.eval y2) h.fresh p6 (h.pv hm2 h4)
     refine ⟨fun f _=>hW.fn f,?_⟩
     rw [semAt_eq (qA hm),qY (cap:=#[]) ho rfl hcall]
     refine ⟨fun e=>absurd e (by rw [hW.depth];simp),hW.calls ?_⟩
     have hargs:([y1,y2].map a.eval).toArray++#[]=#[u,a.eval y2]:=by simp [hu]
     rw [hargs]
     refine hk.mono ?_
     rintro e w' ⟨v,rfl,k1,k2,k3,k4,k5,k6⟩
     obtain ⟨g1,g2⟩:=h.aar h3 p5 k1 k2 k3 k4 k5 k6
     refine hn _ _ ?_ fun e=>by simp [calm,kW,qQ] at e
     have hd':o.dst=some d:=hd
     rw [hd',← put_defers (a:=a) (d:=some d) (v:=v)]
     refine After.qX hC g1.VG ?_ g2 (fun _ _=>rfl)
     have:((st.setRow r sz es').put d .any).ys=st.ys:=by cases r<;>simp [St.setRow,St.put,St.setCell]<;>split<;>rfl
     rw [this];exact hJ
    by_cases hyl:∃ d x xs,vo=.yield d x xs
    ·obtain ⟨d,x,xs,rfl⟩:=hyl
     have hm':=hm
     simp only [m1,Bool.and_eq_true,beq_iff_eq,mv] at hm'
     obtain ⟨hd,hm'⟩:=hm'
     split at hm'<;>try (cases hm';done)
     rename_i y ys ho
     simp only [Bool.and_eq_true] at hm'
     obtain ⟨hx,hm'⟩:=hm'
     obtain ⟨ats,ho⟩:=Bv ho
     simp only [act] at hp
     split at hp
     ·rename_i hg
      have hev:a.eval y=.func (.yield L) #[] #[]:=by
       rcases h.get hx with ⟨t,rfl,(⟨_,g⟩|g)⟩|⟨v',rfl,g⟩|⟨s,rfl,g⟩
       ·rw [hg] at g;exact g
       ·rw [g] at hg;cases hg
       ·simp [St.get] at hg
       ·simp [St.get] at hg
      replace hp:=bind_some hp
      obtain ⟨s,hs,hp⟩:=hp
      replace hp:=bind_some hp
      obtain ⟨⟨vs,st1⟩,h1,hp⟩:=hp
      obtain ⟨m1',m2,m3⟩:=kH h1
      obtain ⟨T1,k1,k2,k3,k4,k5⟩:=h.eF hm' h1
      have hp':st'=({ st1 with ys:=st1.ys++[vs] }:St).put d (.pv (.bool (sZ s st.ys.length))):=by
       simp only at hp
       rw [← m2]
       split at hp
       ·exact (Option.some.inj hp).symm
       ·split at hp
        ·exact (Option.some.inj hp).symm
        ·cases hp
      subst hp'
      have hys:C.X[st.ys.length]?=some vs:=by
       obtain ⟨t,ht⟩:=hX
       simp only [St.put] at ht
       rw [← ht,m2];simp
      have hJ1:C.J st.ys.length T1 w:=hC.keep _ _ _ _ _ (k2.nC w) hJ
      obtain ⟨f,tmps,assign,body,r1,r2⟩:=hC.oQ s _ T1 w vs (ys.map a.eval) (hst ▸ hs) hys k1.fresh hJ1 (by simp [k4]) (fun i p v hp' hv=>by
       rw [List.getElem?_map] at hv
       cases hk:ys[i]? with
       |none=>rw [hk] at hv;cases hv
       |some y=>rw [hk] at hv;cases hv;exact k5 i p y hp' hk)
      refine ⟨fun f _=>hW.fn f,?_⟩
      have hrun:(execOp a.eval o).run P w=.ok (.round L f tmps assign body) w:=by
       simp [execOp,ho,resolve,Deferred.ofValue,hev,invoke,r1]
      rw [semAt_eq (qA hm),hrun]
      refine ⟨fun e=>absurd e (by rw [hW.depth];simp),hW.aav ((r2 _).mono ?_)⟩
      rintro e w' ⟨rfl,q1,q2⟩
      refine hn _ _ ?_ (fun e=>by simp [calm,kW,qQ] at e)
      rw [hd,← put_defers (a:=a) (d:=some d) (v:=.bool (sZ s st.ys.length))]
      exact ⟨σ,T1,[],((k1.sees q2).ys _).vJ (.bool _),by
       have:(({ st1 with ys:=st1.ys++[vs] }:St).put d (.pv (.bool (sZ s st.ys.length)))).ys.length=st.ys.length+1:=by simp [St.put,m2]
       rw [this];exact q1,fun _ _=>rfl,⟨q2.1,k2.ro,fun b hb e=>q2.2 b (by rw [k2.ro b e];simp) hb⟩,rfl,Marks.nil⟩
     ·cases hp
    ·obtain ⟨nx,v,w1,σ',T',g1,g2,g3,g4,g5,g6⟩:=SK h hm (fun d f xs e=>hc ⟨d,f,xs,e⟩) (fun d f xs e=>hv ⟨d,f,xs,e⟩) (fun d f xs e=>hyl ⟨d,f,xs,e⟩) (fun d f x g e=>hsr ⟨d,f,x,g,e⟩) (fun d f x xs e=>hli ⟨d,f,x,xs,e⟩) (fun d g x xs e=>hlv ⟨d,g,x,xs,e⟩) hp
     refine BF hW hm g1 g2 (hn _ _ ?_ fun hcm=>g6 ?_)
     ·rw [← put_defers (a:=a) (d:=o.dst) (v:=v)]
      exact After.qX hC g3 (by rw [(J7 (fun d f xs e=>hyl ⟨d,f,xs,e⟩) hp).2.1];exact hJ) g4 g5
     ·have hact:kW vo=true:=by assumption
      cases vo<;>first|exact absurd ⟨_,_,_,rfl⟩ hc|exact absurd ⟨_,_,_,rfl⟩ hv|(simpa [calm,hact] using hcm)
end
end Go.Proofs.YtaaokejjmdbfaaaDoor

namespace Go.Proofs.YtaaokejjmdbfaaaDoor
open Go.RowKit
def wB (F:Fence) (n:Nat) (P:Program) (c:Code) (Q:Exit→Act→World→Prop) (a:Act) (w:World):Prop :=
 ∀ (b:Frame) (k:List Item) (cs:List Frame),b.roundOf=F.round→F.fn b.fn→F.room (cs.length+1+n) →
  ∃ e a' w',Q e a' w'∧ArrivesIn (Machine.fenced P F) P (lone (b.atR a (.code c :: .inLoop c :: k)) cs w) b k cs e a' w'
section
variable {F:Fence} {n:Nat} {P:Program} {c:Code} {Q:Exit→Act→World→Prop} {a:Act} {w:World}
theorem GN (h:wB F n P c Q a w):(Code.loop c).wpIn F n P Q a w:=fun b k cs hro hb hr =>
 let ⟨e,a',w',hq,harr⟩:=h b k cs hro hb hr
 ⟨e,a',w',hq,.of_steps (.one (fenced_calm hb hr rfl) stepR_loop) harr⟩
theorem Ku (h:c.wpIn F n P (Exit.then (wB F n P c Q) Q) a w):wB F n P c Q a w:=by
 intro b k cs hro hb hr
 obtain ⟨e,a₁,w₁,hq,harr⟩:=h b (.inLoop c :: k) cs hro hb hr
 cases e with
 |normal =>
  obtain ⟨e₂,a₂,w₂,hq₂,harr₂⟩:=hq b k cs hro hb hr
  exact ⟨e₂,a₂,w₂,hq₂,.of_steps (StepsIn.trans harr (.one (fenced_calm hb hr rfl) stepR_inLoop)) harr₂⟩
 |exit id=>exact ⟨_,a₁,w₁,hq,.pass (x:=.inLoop c) rfl (fun _ _=>.inl (by simp)) harr⟩
 |goto l=>exact ⟨_,a₁,w₁,hq,.pass (x:=.inLoop c) rfl (fun _ _=>.inl (by simp)) harr⟩
 |ret=>exact ⟨_,a₁,w₁,hq,.pass (x:=.inLoop c) rfl (fun _ _=>.inl (by simp)) harr⟩
 |panic ch=>exact ⟨_,a₁,w₁,hq,.pass (x:=.inLoop c) rfl (fun _ _=>.inl (by simp)) harr⟩
 |outgrown=>exact ⟨_,a₁,w₁,hq,.pass (x:=.inLoop c) rfl (fun _ _=>.inl (by simp)) harr⟩
theorem Kv {Q':Exit→Act→World→Prop} (h:wB F n P c Q a w) (hq:∀ e a w,Q e a w→Q' e a w):wB F n P c Q' a w :=
 fun b k cs hro hb hr=>let ⟨e,a',w',q,r⟩:=h b k cs hro hb hr;⟨e,a',w',hq _ _ _ q,r⟩
end
def mG (P:Program) (ops:Array Oper) (o:Oper):fM→Bool
 |.grd g want v=>(match o.guard with
  |some (j,b)=>b==want&&(ops[j]?).bind (·.dst)==some g
  |none=>false)&&m1 P o v
 |v=>o.guard.isNone&&m1 P o v
def mL (P:Program) (ops:Array Oper):List Oper→List fM→Bool
 |[],[]=>true
 |o :: os,v :: vs=>mG P ops o v&&mL P ops os vs
 |_,_=>false
section
variable {P:Program} {F:Fence} {C:Ctx} {n L nb:Nat} {σ σ':Nat→Nat} {T T' T1 T2:Tags} {st st' st1:St} {a a1:Act} {w w1:World} {o:Oper} {vo:fM} {y:Operand} {x:bP} {d:Nat}
 {rec:ak→St→Option (Ex × St)} {env:Env} {next:Act→World→Prop} {Q:Exit→Act→World→Prop} {bU:Array Oper} {ds:List Deferred} {e:Ex}
theorem After.refl (h:aI L σ T st a w) (hJ:C.J st.ys.length T w):After C L nb σ T w st a.defers a w :=
 ⟨σ,T,[],h,hJ,fun _ _=>rfl,dn.refl T w,rfl,Marks.nil⟩
theorem After.trans {nb1:Nat} {σ1:Nat→Nat} {ms:List Nat} (hs:dn T T1 w w1) (hσ:∀ k,k<nb→σ1 k=σ k) (hd:a1.defers=ms.map jK++ds) (hms:Marks T1 w w1 ms) (hnb:nb≤nb1)
  {a':Act} {w':World} (h:After C L nb1 σ1 T1 w1 st' a1.defers a' w'):After C L nb σ T w st' ds a' w':=by
 obtain ⟨σ',T',ms',g1,g2,g3,g4,g5,g6⟩:=h
 refine ⟨σ',T',ms'++ms,g1,g2,fun k hk=>(g3 k (Nat.lt_of_lt_of_le hk hnb)).trans (hσ k hk),hs.trans g4,by rw [g5,hd];simp,fun r hr=>?_,List.nodup_append.2 ⟨g6.2,hms.2,fun x hx y hy e=>?_⟩⟩
 ·rcases List.mem_append.1 hr with hr|hr
  ·obtain ⟨k1,k2,k3⟩:=g6.1 r hr
   exact ⟨Nat.le_trans hs.size k1,k2,k3⟩
  ·obtain ⟨k1,k2,k3⟩:=hms.1 r hr
   have hl:r<w1.heap.size:=(Array.getElem?_eq_some_iff.1 k3).1
   exact ⟨k1,g4.ro r k2,(g4.same r hl k2).trans k3⟩
 ·have k1:=(g6.1 x hx).1
  have hl:y<w1.heap.size:=(Array.getElem?_eq_some_iff.1 (hms.1 y hy).2.2).1
  omega
def Kw:fM→Bool
 |.grd _ _ v=>calm v
 |v=>calm v
theorem aI.afX (h:aI L σ T st a w) {d:Nat}:aI L σ T (st.put d (.jY false [])) (a.put (some d) undef) w :=
 h.put (fun _ _ e=>by cases e) ⟨#[],rfl,rfl,fun k x u e=>by simp at e⟩
theorem EJ {g:Nat} {want:Bool} {v:fM} (h:aI L σ T st a w) (hm:mG P bU o (.grd g want v)=true) (hp:op rec env (.grd g want v) st=some st') :
  (Region.wanted o (yielded bU a.tmps)=true∧m1 P o v=true∧op1 rec env v st=some st')∨(Region.wanted o (yielded bU a.tmps)=false∧aI L σ T st' (a.put o.dst undef) w∧st'.ys=st.ys):=by
 simp only [mG,Bool.and_eq_true] at hm
 obtain ⟨hm1,hm⟩:=hm
 split at hm1
 case h_2=>cases hm1
 rename_i j b hgd
 simp only [Bool.and_eq_true,beq_iff_eq] at hm1
 obtain ⟨rfl,hj⟩:=hm1
 have hd:o.dst=dw v:=by
  have hm':=hm
  simp only [m1,Bool.and_eq_true,beq_iff_eq] at hm'
  exact hm'.1
 have acJ:∀ {s:St},(match dw v with
   |some d=>some (st.put d (.jY false []))
   |none=>some st)=some s→aI L σ T s (a.put o.dst undef) w∧s.ys=st.ys:=by
  intro s hp
  rw [hd]
  split at hp
  ·rename_i d hd2
   rw [hd2]
   have hp:=Option.some.inj hp;subst hp
   exact ⟨h.afX,rfl⟩
  ·rename_i hd2
   rw [hd2]
   have hp:=Option.some.inj hp;subst hp
   exact ⟨h,rfl⟩
 have slot:∀ {x:AV},st.slots.getD g .any=x→x≠.any→st.slots[g]?=some x∧∃ u,a.tmps[g]?=some u∧jF L σ T st a w g x u:=by
  intro x hs hx
  simp only [List.getD_eq_getElem?_getD] at hs
  cases e:st.slots[g]? with
  |none=>rw [e] at hs;exact absurd hs.symm hx
  |some y =>
   rw [e] at hs
   have hs:y=x:=hs
   subst hs
   have hlt:g<a.tmps.size:=by rw [h.size];exact (List.getElem?_eq_some_iff.1 e).1
   exact ⟨rfl,_,Array.getElem?_eq_getElem hlt,h.slots g _ _ e (Array.getElem?_eq_getElem hlt)⟩
 simp only [op] at hp
 split at hp
 ·rename_i t hs
  obtain ⟨_,u,hu,hr⟩:=slot hs (by simp)
  have hu:a.tmps[g]?=some (.bool t):=by rw [hu,ay.mV hr]
  have hy:yielded bU a.tmps j=some t:=by simp [yielded,hj,hu]
  have hw:Region.wanted o (yielded bU a.tmps)=(t==b):=by
   simp only [Region.wanted,hgd,hy]
   cases t<;>cases b<;>rfl
  by_cases htb:t=b
  ·subst htb
   simp only [↓reduceIte] at hp
   exact .inl ⟨by simp [hw],hm,hp⟩
  ·rw [if_neg htb] at hp
   exact .inr ⟨by simpa [hw] using htb,acJ hp⟩
 ·rename_i kk l hs
  obtain ⟨_,u,hu,arr,rfl,_⟩:=slot hs (by simp)
  have hy:yielded bU a.tmps j=none:=by
   cases kk<;>simp [yielded,hj,hu,afN]
  split at hp
  ·exact .inr ⟨by simp [Region.wanted,hgd,hy],acJ hp⟩
  ·cases hp
 ·cases hp
theorem V9 (hW:jW F) (hC:C.Ok P L) (aW:fE P rec env) (h:aI L σ T st a w) (hJ:C.J st.ys.length T w) (hst:st.stop=C.stop) (hm:mG P bU o vo=true) (hp:op rec env vo st=some st') (hX:st'.ys <+: C.X)
  (hn:∀ a' w',After C L st.boxes.length σ T w st' a.defers a' w'→(Kw vo=true→Whole w w')→next a' w') :
  if Region.wanted o (yielded bU a.tmps) then o.wpIn F n P a w next Q else (∀ f,o.about P w a.eval=some f→F.fn f)∧next (a.put o.dst undef) w:=by
 by_cases hg:∃ g want v,vo=.grd g want v
 ·obtain ⟨g,want,v,rfl⟩:=hg
  rcases EJ h hm hp with ⟨g1,g2,g3⟩|⟨g1,g2,g3⟩
  ·rw [g1]
   simp only [↓reduceIte]
   exact V8 hW hC aW h hJ hst g2 g3 hX hn
  ·rw [g1]
   simp only [Bool.false_eq_true,↓reduceIte]
   refine ⟨fun f _=>hW.fn f,hn _ _ ?_ fun _=>Whole.refl w⟩
   rw [← put_defers (a:=a) (d:=o.dst) (v:=undef)]
   exact After.qX hC g2 (by rw [g3];exact hJ) (uG.refl T w) (fun _ _=>rfl)
 ·have hm':o.guard.isNone=true∧m1 P o vo=true:=by
   cases vo<;>first|exact Bool.and_eq_true_iff.1 hm|exact absurd ⟨_,_,_,rfl⟩ hg
  have hp':op1 rec env vo st=some st':=by
   cases vo<;>first|exact hp|exact absurd ⟨_,_,_,rfl⟩ hg
  have hw:Region.wanted o (yielded bU a.tmps)=true:=by
   simp only [Region.wanted,Option.isNone_iff_eq_none.1 hm'.1]
  rw [hw]
  refine V8 hW hC aW h hJ hst hm'.2 hp' hX fun a' w' g1 g2=>hn _ _ g1 fun e=>g2 ?_
  cases vo<;>first|exact e|exact absurd ⟨_,_,_,rfl⟩ hg
theorem fG:∀ {l:List fM} {st st':St},ops rec env l st=some st'→Grow st.boxes.length st st'
 |[],st,st',h=>by simp only [ops,Option.some.injEq] at h;subst h;exact (aP.refl _).grow
 |v :: l,st,st',h=>by
  simp only [ops] at h
  obtain ⟨st1,h1,h2⟩:=bind_some h
  exact ((iD h1).trans (fG h2)).mono (iD h1).1
theorem GR (hW:jW F) (hC:C.Ok P L) (aW:fE P rec env) (hX:st'.ys <+: C.X):∀ {l:List Oper} {vs:List fM} {st:St} {σ:Nat→Nat} {T:Tags} {a:Act} {w:World},aI L σ T st a w→C.J st.ys.length T w→st.stop=C.stop→mL P bU l vs=true→ops rec env vs st=some st' →
  (∀ a' w',After C L st.boxes.length σ T w st' a.defers a' w'→Q .normal a' w')→wpListIn F n P bU Q l a w
 |[],[],st,σ,T,a,w,h,hJ,_,_,hp,hn=>by
  simp only [ops,Option.some.injEq] at hp;subst hp
  exact hn _ _ (After.refl h hJ)
 |[],_ :: _,_,_,_,_,_,_,_,_,hm,_,_=>by simp [mL] at hm
 |_ :: _,[],_,_,_,_,_,_,_,_,hm,_,_=>by simp [mL] at hm
 |o :: l,v :: vs,st,σ,T,a,w,h,hJ,hst,hm,hp,hn=>by
  simp only [mL,Bool.and_eq_true] at hm
  simp only [ops] at hp
  obtain ⟨st1,h1,h2⟩:=bind_some hp
  have g1:=iD h1
  have g2:=fG h2
  simp only [wpListIn]
  refine V9 hW hC aW h hJ hst hm.1 h1 (g2.2.1.trans hX) ?_
  rintro a1 w1 ⟨σ1,T1,ms,k1,k2,k3,k4,k5,k6⟩ _
  exact GR hW hC aW hX k1 k2 (g1.2.2.trans hst) hm.2 h2 fun a' w' hA=>hn _ _ (After.trans k4 k3 k5 k6 g1.1 hA)
theorem GU (hW:jW F) (hC:C.Ok P L) (aW:fE P rec env) {l2:List Oper} (hX:st'.ys <+: C.X):∀ {l:List Oper} {vs:List fM} {st:St} {σ:Nat→Nat} {T:Tags} {a:Act} {w:World},aI L σ T st a w→C.J st.ys.length T w→st.stop=C.stop→mL P bU l vs=true→ops rec env vs st=some st' →
  (∀ a' w',After C L st.boxes.length σ T w st' a.defers a' w'→wpListIn F n P bU Q l2 a' w')→wpListIn F n P bU Q (l++l2) a w
 |[],[],st,σ,T,a,w,h,hJ,_,_,hp,hn=>by
  simp only [ops,Option.some.injEq] at hp;subst hp
  exact hn _ _ (After.refl h hJ)
 |[],_ :: _,_,_,_,_,_,_,_,_,hm,_,_=>by simp [mL] at hm
 |_ :: _,[],_,_,_,_,_,_,_,_,hm,_,_=>by simp [mL] at hm
 |o :: l,v :: vs,st,σ,T,a,w,h,hJ,hst,hm,hp,hn=>by
  simp only [mL,Bool.and_eq_true] at hm
  simp only [ops] at hp
  obtain ⟨st1,h1,h2⟩:=bind_some hp
  have g1:=iD h1
  have g2:=fG h2
  simp only [List.cons_append,wpListIn]
  refine V9 hW hC aW h hJ hst hm.1 h1 (g2.2.1.trans hX) ?_
  rintro a1 w1 ⟨σ1,T1,ms,k1,k2,k3,k4,k5,k6⟩ _
  exact GU hW hC aW hX k1 k2 (g1.2.2.trans hst) hm.2 h2 fun a' w' hA=>hn _ _ (After.trans k4 k3 k5 k6 g1.1 hA)
theorem aaw {vs:List fM} {v:fM}:∀ {l:List Oper},mL P bU l (vs++[v])=true→∃ l1 o,l=l1++[o]∧mL P bU l1 vs=true∧mG P bU o v=true:=by
 induction vs with
 |nil =>
  intro l h
  match l,h with
  |[o],h=>simp only [List.nil_append,mL,Bool.and_true] at h;exact ⟨[],o,rfl,rfl,h⟩
  |[],h=>simp [mL] at h
  |_ :: _ :: _,h=>simp [mL] at h
 |cons x vs ih =>
  intro l h
  cases l with
  |nil=>simp [mL] at h
  |cons o l =>
   simp only [List.cons_append,mL,Bool.and_eq_true] at h
   obtain ⟨l1,o1,rfl,g1,g2⟩:=ih h.2
   exact ⟨o :: l1,o1,rfl,by simp only [mL,h.1,g1,Bool.and_self],g2⟩
theorem adv (hW:jW F) (hC:C.Ok P L) (aW:fE P rec env) (h:aI L σ T st a w) (hJ:C.J st.ys.length T w) {f:Nat} {xs:List bP} (hm:mG P bU o (.call d f xs)=true) {vs:List PV} (h2:xs.mapM st.dH=some vs) {t:Nat} {m:Int} (h3:wV rec env f vs=some (some (t,m)))
  (hn:∀ w',After C L st.boxes.length σ T w st a.defers a w'→Q (.panic [{ v:=.iface t (.int .i64 m),recovered:=false }]) a w'):wpListIn F n P bU Q [o] a w:=by
 have hm':o.guard.isNone=true∧m1 P o (.call d f xs)=true:=Bool.and_eq_true_iff.1 hm
 have hw:Region.wanted o (yielded bU a.tmps)=true:=by simp only [Region.wanted,Option.isNone_iff_eq_none.1 hm'.1]
 simp only [wpListIn,hw,↓reduceIte]
 have hm1:=hm'.2
 have hm2:=hm1
 simp only [m1,Bool.and_eq_true,beq_iff_eq,mv] at hm2
 obtain ⟨hd,hm2⟩:=hm2
 split at hm2<;>try (cases hm2;done)
 rename_i g ys ho
 simp only [Bool.and_eq_true,beq_iff_eq] at hm2
 obtain ⟨rfl,hm2⟩:=hm2
 obtain ⟨ats,ho⟩:=xq ho
 obtain ⟨hcall,hok⟩:=aW.2.2.2 _ vs t m h3
 refine ⟨fun f _=>hW.fn f,?_⟩
 rw [semAt_eq (qA hm1),qY ho rfl hcall]
 refine ⟨fun e=>absurd e (by rw [hW.depth];simp),hW.calls ?_⟩
 obtain ⟨l1,l2⟩:=mapM_some h2
 obtain ⟨m1,m2⟩:=xu hm2
 have hargs:(ys.map a.eval).toArray++#[]=(ys.map a.eval).toArray:=by simp
 rw [hargs]
 obtain ⟨T0,hT0⟩:∃ T0:Tags,T0=fun b=>if T b=.ro then .ro else .other:=⟨_,rfl⟩
 have EH:∀ b,T b=.ro→T0 b=.ro:=fun b hb=>by rw [hT0];simp [hb]
 have h0:=hok T0 w (ys.map a.eval) (fun b=>by rw [hT0];simp only;split<;>simp) (fun b hb=>by rw [hT0];simp only;rw [if_neg];rw [h.fresh b hb];simp) (by simp [l1,m1]) (fun i p v hp hv=>by
  have hi:i<xs.length:=by rw [← l1];exact (List.getElem?_eq_some_iff.1 hp).1
  have hi2:i<ys.length:=by rw [m1];exact hi
  obtain ⟨q,g1,g2⟩:=l2 i _ (List.getElem?_eq_getElem hi)
  rw [g2] at hp
  cases hp
  rw [List.getElem?_map,List.getElem?_eq_getElem hi2] at hv
  cases hv
  exact (h.pv (m2 i _ _ (List.getElem?_eq_getElem hi2) (List.getElem?_eq_getElem hi)) g1).frame fun b hb _=>⟨EH b hb,rfl⟩) ((hC.glob _ _ _ hJ).frame fun b hb _=>⟨EH b hb,rfl⟩)
 refine h0.mono ?_
 rintro e w' ⟨rfl,hB⟩
 have hwh:Whole w w':=⟨hB.size,fun b hl=>hB.block b hl⟩
 exact hn w' (After.qX hC (h.sees hwh.sees) hJ ⟨hB.size,hB.os,hB.tape,hB.output,fun b hl _=>hB.block b hl,fun _ e=>e,fun _ _ e=>e⟩ (fun _ _=>rfl))
end
end Go.Proofs.YtaaokejjmdbfaaaDoor
