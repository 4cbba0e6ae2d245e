/-
  Part 2 of the texts that the statement stands on.
-/
import Derived.Test.YtioijcfcehhmdaaGreatDoorZ1
import Derived.Lib.TrailingZeros
import Derived.TacticsIn
import Derived.RangeFuncLeaves
set_option linter.all false
open Option renaming some → ZD, map_some → Zah, map_eq_some_iff → Zat, isSome_iff_exists → Zbk, isNone_iff_eq_none → Zbn
open List renaming getElem?_eq_getElem → ZS, length_map → Z2, getElem?_eq_some_iff → Z6, getElem?_map → zb, getElem?_set → zp, all_eq_true → zE, getElem?_append_right → zP, length_append → Zaa, mem_of_getElem? → Zab, length_take → Zac, getElem?_append_left → Zad, mem_cons → Zaf, map_cons → Zaj, getElem?_cons_zero → Zak, replicate → Zal, getElem?_take → Zaq, append_assoc → Zay, eq_nil_of_length_eq_zero → Zaz, getElem?_toArray → ZaL, getElem?_eq_none → ZaV, size_toArray → ZaX, mem_iff_getElem? → ZaZ, cons_append → Za3, length_drop → Zbe, takeWhile_append_dropWhile → Zbu, length_replicate → Zby, any_eq_false → ZbA, mem_cons_of_mem → ZbF, getElem?_append → Zcf, getD → Zcn, zipIdx_cons → ZcD, mem_cons_self → Zc4, takeWhile_prefix → Zdx, dropWhile_suffix → Zdy, length_take_le' → ZdB, prefix_append → ZdG, all_takeWhile → ZdH, take_prefix → ZdY
open Bool renaming and_eq_true → ZZ, false_eq_true → zg, not_eq_true' → ZaR, or_eq_true → Za7, not_eq_true → Zbr, and_eq_true_iff → ZcQ
open Nat renaming le_refl → ze, le_trans → zr, lt_of_lt_of_le → Zae, mul_le_mul_right → Zam, zero_add → Zan, add_mul → ZaC, add_zero → Za1, lt_or_ge → Zbf, min_eq_left → Zbv, le_of_not_lt → ZbK, mul_le_mul → Zdw
open Array renaming getElem?_eq_getElem → zj, getElem?_eq_some_iff → zz, length_toList → ZaA, getD_eq_getD_getElem? → ZaN, getElem?_toList → Zbd, replicate → Zbj, getElem?_eq_none → Zb8
open Prod renaming mk → ZaD
open Int renaming toNat_natCast → ZaG, eq_ofNat_of_zero_le → ZbI
open Classical renaming not_not → Zb0, byContradiction → Zcl
namespace Go.Proofs.YtioijcfcehhmdaaGreatDoor
open Go.RowKit
section
variable {P:Program}{L:Nat}{σ σ':Nat→Nat}{T T':Tags}{st st' st1:St}{a:Act}{w w1:World}{o:Oper}{d n:Nat}{x x2:bU}{y y2:Operand}{ok:Nat→Prop}{sz:Nat}{es ys:List PV}{xs zs:List Value}
 {rec:ay→St→Option (Ex×St)} {env:Env}
def uz (P:Program)(T0 sz:Nat):Bool :=
 match iW P T0 with
 |some e=>match P.info? e with
  |some i=>i.size==sz&&decide (0<sz)&&(match i.zero with|some z=>z.cells.size==sz|none=>false)&&decide (i.bytes≤131072)
  |none=>false
 |none=>false
theorem yV {T0:Nat}(h:uz P T0 sz=true):∃ e i z,P.underlying T0=some (.slice e)∧P.info? e=some i∧i.size=sz∧0<sz∧i.zero=some z∧z.cells.size=sz∧i.bytes≤131072:=by
 unfold uz at h
 split at h
 case h_2=>cases h
 rename_i e he
 split at h
 case h_2=>cases h
 rename_i i hi
 simp only [ZZ,beq_iff_eq,decide_eq_true_eq] at h
 obtain ⟨⟨⟨h1,h2⟩,h3⟩,h4⟩:=h
 split at h3
 case h_2=>cases h3
 rename_i z hz
 exact ⟨e,i,z,oM he,hi,h1,h2,hz,beq_iff_eq.1 h3,h4⟩
theorem aV.Yw (h:aV L σ T st a w){c E:Nat}{arr:Array Value}(h1:arr.size=c*sz)(h2:es.length≤c)(h3:c≤maxLen)(hx:eF (fun b=>T b=.ro) w sz es xs)(hp:xs <+: arr.toList) :
  aV L σ (upd T w.heap.size (.row (.slot d))) (st.putRow d sz es) (a.put (some d) (.slice (some ⟨w.heap.size,0,none⟩) es.length c)) (w.alloc (.cells arr E)) :=
 h.Rt h1 h2 h3 hx.wid (fun i e j x hi hj=>by
  obtain ⟨u,g1,g2,g3⟩:=hx.rep i e j x hi hj
  obtain ⟨t,ht⟩:=hp
  exact ⟨u,by rw [← Zbd,← ht,Zad (Z6.1 g1).1];exact g1,g2,g3⟩)
theorem Kz {z:PV}{zv:Value}(hz:Cells ok w z.cells zv.cells)(hpos:0<z.cells.length)(n m:Nat)(hn:n≤m):eF ok w z.cells.length (Zal n z) ((madeCells zv.cells (m*z.cells.length)).toList.take (n*z.cells.length)):=by
 have hsz:=hz.size
 refine ⟨?_,fun e he=>by rw [List.eq_of_mem_replicate he],fun i e j x hi hj=>?_⟩
 ·simp only [Zac,ZaA,size_madeCells,Zby]
  exact Zbv (Zam _ hn)
 ·rw [List.getElem?_replicate] at hi
  split at hi
  case isFalse=>cases hi
  rename_i hin
  cases hi
  have hj':j<z.cells.length:=(Z6.1 hj).1
  have hlt:=Dv hin hj'
  have hlt2:i*z.cells.length+j<m*z.cells.length:=Dv (by omega) hj'
  have e2:zv.cells[j]?=some zv.cells[j]:=zj (by omega)
  refine ⟨zv.cells[j],?_,hz.one j _ e2,hz.rep j x _ hj e2⟩
  rw [Zaq,if_pos hlt,Zbd]
  simp only [madeCells,Array.getElem?_map,Array.getElem?_range,hlt2,if_true,Zah]
  have hmod:(i*z.cells.length+j) % zv.cells.size=j:=by rw [hsz,Nat.mul_comm,Nat.mul_add_mod,Nat.mod_eq_of_lt hj']
  rw [hmod,getElem!_pos zv.cells j (by omega)]
theorem ZO {T0 e:Nat}{z:PV}(h:aV L σ T st a w)(hd:o.dst=some d)(ho:o.op=.makeSlice T0 y y2)(hm:bf y x=true)(hm2:bf y2 x2=true)(he:uz P T0 z.cells.length=true)(hse:iW P T0=some e)(hz:uy P e z.cells=true)
  (hp:act rec env (.make d z x x2) st=some st'):Does P L σ T st.boxes.length st' a w o true:=by
 simp only [act] at hp
 obtain ⟨v1,h1,hp⟩:=bind_some hp
 cases v1<;>simp only [reduceCtorEq] at hp
 rename_i k m
 obtain ⟨v2,h2,hp⟩:=bind_some hp
 cases v2<;>simp only [reduceCtorEq] at hp
 rename_i l c
 split at hp
 case isFalse=>cases hp
 rename_i hc
 obtain ⟨c1,c2,c3⟩:=hc
 have hp:=ZD.inj hp
 subst hp
 obtain ⟨e',i,zv,g1,g2,g3,g4,g5,g6,g7⟩:=yV he
 have hee:e'=e:=by
  have:=oM hse
  rw [g1] at this
  injection this with this
  injection this
 subst hee
 have hzc:Cells (fun b=>T b=.ro) w z.cells zv.cells:=by
  unfold uy at hz
  rw [g2] at hz
  simp only [g5] at hz
  exact qO hz _ _
 have e1:=(h.pv hm h1).bP
 have e2:=(h.pv hm2 h2).bP
 unfold lim at c3
 obtain ⟨m,rfl⟩:=ZbI c1
 obtain ⟨c,rfl⟩:=ZbI (Int.le_trans c1 c2)
 have hb:(i.bytes:Int)*(c:Int)≤281474976710656:=by
  have h1:i.bytes*c≤131072*1073741824:=Zdw g7 (by omega)
  have h2:((i.bytes*c:Nat):Int)≤281474976710656:=by omega
  rwa [Int.natCast_mul] at h2
 have hr:=run_make (P:=P) w T0 _ i zv g1 g2 g5 k l m c c1 c2 hb (by omega)
 simp only [ZaG] at hr
 refine ⟨_,.slice (some ⟨w.heap.size,0,none⟩) m c,w.alloc (.cells (madeCells zv.cells (c*i.size)) e'),σ,upd T w.heap.size (.row (.slot d)),?_,.inl rfl,?_,mW (h.fresh _ (ze _)) _ _,fun k _=>rfl,fun _=>kW _ _⟩
 ·simp [execOp,ho,e1,e2,hr]
 ·rw [hd,ZaG]
  have:=h.Yw (d:=d) (E:=e') (arr:=madeCells zv.cells (c*i.size)) (sz:=z.cells.length) (es:=Zal m z) (c:=c) (by rw [size_madeCells,g3]) (by simp;omega) (by unfold maxLen;omega)
   (Kz hzc g4 m c (by omega)) (by rw [g3];exact ZdY _ _)
  rwa [Zby] at this
theorem run_append_room' (w:World)(t ty e tb:TypeId)(i:TypeInfo)(ht:P.underlying t=some (.slice e))(hi:P.info? e=some i)
  (g sLen sCap:Nat) (cur:Array Value) (hg:w.heap[g]?=some (.cells cur tb (0,0)))
  (a:Addr) (m c:Nat) (news:List Value) (hl:news.length=m*i.size) (hnews:∀ j u,news[j]?=some u→w.cell? (a.add j)=some u) (h1:∀ u∈news,u.oneCell'=true)
  (hroom:sLen+m≤sCap) (hfit:sLen*i.size+news.length≤cur.size) :
  (Builtin.append_ #[t,t] ty #[.slice (some ⟨g,0,none⟩) sLen sCap,.slice (some a) m c]).run P w =
   .ok (.slice (some ⟨g,0,none⟩) (sLen+m) sCap) (w.setRow g (cur.toList.take (sLen*i.size)++news++cur.toList.drop (sLen*i.size+news.length)).toArray):=by
 have hf:=run_firstCells_some (P:=P) w i.size m a m c news hl hnews
 have hst:=run_storeCells_at P g (sLen*i.size) tb news 0 cur w hg (by simpa using hfit) h1
 simp only [Za1] at hst
 simp [Builtin.append_,run_underlying ht,sizeOf,typeInfo,hi,Builtin.lenOf,hroom,hf,Addr.add_lit,hst]
theorem Fj (w:World)(t ty e:TypeId)(i:TypeInfo)(ht:P.underlying t=some (.slice e))(hi:P.info? e=some i)(xb ya:Option Addr)(sLen sCap c:Nat)(h:sLen≤sCap) :
  (Builtin.append_ #[t,t] ty #[.slice xb sLen sCap,.slice ya 0 c]).run P w=.ok (.slice xb sLen sCap) w:=by
 have h0:(Builtin.firstCells i.size 0 (.slice ya 0 c)).run P w=.ok #[] w:=by
  cases ya with
  |none=>exact run_firstCells_none w _ _ _ _
  |some ad=>exact run_firstCells_some w i.size 0 ad 0 c [] (by simp) (fun j v hj=>by simp at hj)
 cases xb<;>simp [Builtin.append_,run_underlying ht,sizeOf,typeInfo,hi,Builtin.lenOf,h,h0,storeCells]
theorem zV {ρ:Operand→Value}{T0:TypeId}{v u:Value}{r:Value}(ho:o.op=.call { callee:=.builtin .append,args:=#[y,y2],argTypes:=#[T0,T0] })(h1:ρ y=v)(h2:ρ y2=u)(hr:(Builtin.append_ #[T0,T0] o.type #[v,u]).run P w=.ok r w1):(execOp ρ o).run P w=.ok (.value r) w1:=by
 simp [execOp,ho,resolve,invoke,builtin,h1,h2,hr]
theorem aV.grab (h:aV L σ T st a w)(hm:bf y x=true)(hc:st.grab x=some (sz,es,st1)):aV L σ T st1 a w∧st1.boxes.length=st.boxes.length∧∃ r v es0 c xa,aW T w r sz es0 v∧es=es0.take es.length∧v=.slice xa es0.length c∧a.eval y=.slice xa es.length c ∧
  (∀ t s l,st1.slots[t]?=some (.row s l)→r≠.slot t)∧(∀ (t i:Nat),r≠.part t i)∧(∀ p q bx s l,st1.boxes[p]?=some bx→bx.cs[q]?=some (.row s l)→r≠.cell p q):=by
 cases x with
 |c v=>simp [St.grab] at hc
 |nil s =>
  simp only [St.grab,ZD.injEq,ZaD.injEq] at hc
  obtain ⟨rfl,rfl,rfl⟩:=hc
  have e1:a.eval y=.slice none 0 0:=by
   rcases h.get hm with ⟨t,e,_⟩|⟨v',e,_⟩|⟨s,_,g⟩
   ·cases e
   ·cases e
   ·exact g
  refine ⟨h,rfl,.slot st.slots.length,.slice none 0 0,[],0,none,aW.nil _ _ _ _ _,rfl,rfl,e1,fun t s l ht e=>?_,by simp,by simp⟩
  cases e
  rw [ZaV (ze _)] at ht;cases ht
 |t n =>
  simp only [St.grab] at hc
  split at hc
  case h_1 s l e =>
   simp only [ZD.injEq,ZaD.injEq] at hc
   obtain ⟨rfl,rfl,rfl⟩:=hc
   obtain ⟨q1,q2,q3⟩:=h.VN hm e
   obtain ⟨xa,c,e1,_⟩:=q3.slice
   refine ⟨h.forget n,rfl,.slot n,_,_,c,xa,q3,by simp,e1,e1,fun t s' l' ht e=>?_,by simp,by simp⟩
   cases e
   simp only [St.put,zp,if_true] at ht
   split at ht<;>cases ht
  case h_3 s e =>
   simp only [ZD.injEq,ZaD.injEq] at hc
   obtain ⟨rfl,rfl,rfl⟩:=hc
   have e2:st.dG (.t n)=some (.l9 s):=by unfold St.dG;rw [show st.get (.t n)=.pv (.l9 s) from e]
   have hr:=h.pv hm e2
   obtain ⟨xa,hx⟩:∃ xa,a.eval y=.slice xa 0 0:=by
    generalize a.eval y=u at hr
    cases hr with
    |l9 _ xa=>exact ⟨xa,rfl⟩
   refine ⟨h,rfl,.slot st.slots.length,.slice xa 0 0,[],0,xa,.inl ⟨rfl,xa,rfl⟩,rfl,rfl,hx,fun t s l ht e=>?_,by simp,by simp⟩
   cases e
   rw [ZaV (ze _)] at ht;cases ht
  case h_2 r len e =>
   split at hc
   case h_2=>cases hc
   rename_i s l hr
   split at hc
   case isFalse=>cases hc
   rename_i hl
   simp only [ZD.injEq,ZaD.injEq] at hc
   obtain ⟨rfl,rfl,rfl⟩:=hc
   have e0:st.get (.t n)=.ref r 0 len:=e
   obtain ⟨xa,m,c,x',m1,m2,m3,_⟩:=h.Q9 hm e0 s l hr
   obtain ⟨u,m5,m6⟩:=h.vS hr
   rw [m5] at m1;cases m1
   obtain ⟨xb,c',e3,_⟩:=m6.slice
   cases e3
   have hlen:(l.take len).length=len:=by simp;omega
   have h2:a.eval y=.slice xa (l.take len).length c:=by rw [hlen,m2,m3 rfl,Nat.sub_zero]
   have key:aV L σ T (st.takeRow r) a w∧(st.takeRow r).boxes.length=st.boxes.length∧(∀ t s l,(st.takeRow r).slots[t]?=some (.row s l)→r≠.slot t)∧(∀ (t i:Nat),r≠.part t i)∧(∀ p q bx s l,(st.takeRow r).boxes[p]?=some bx→bx.cs[q]?=some (.row s l)→r≠.cell p q):=by
    cases r with
    |part t i=>simp [St.row] at hr
    |slot t =>
     refine ⟨h.forget t,rfl,fun t' s' l' ht e=>?_,by simp,by simp⟩
     cases e
     simp only [St.takeRow,St.put,zp,if_true] at ht
     split at ht<;>cases ht
    |cell p q =>
     obtain ⟨bx,hb,hf,hq⟩:=dZ hr
     have hst:st.takeRow (.cell p q)={ st with boxes:=st.boxes.set p { bx with cs:=bx.cs.set q (.pv .void) } }:=by simp [St.takeRow,St.setCell,hb]
     have hpl:p<st.boxes.length:=(Z6.1 hb).1
     rw [hst]
     refine ⟨⟨h.size,fun t x u hx hu=>?_,fun p' bx' ho=>?_,h.fresh⟩,by simp,by simp,by simp,fun p' q' bx' s' l' ho hj e=>?_⟩
     ·refine (h.slots t x u hx hu).keep (fun b e _=>⟨e,rfl⟩) (fun _ _ _ b e _=>⟨e,rfl⟩) (fun _ _ _ _ b e _=>⟨e,rfl⟩) (fun r' hr' _ s l e=>⟨?_,rfl⟩) (by simp) (fun _ _=>rfl)
      cases r' with
      |slot t'=>exact ⟨l,e⟩
      |part t' i=>exact ⟨l,e⟩
      |cell o j =>
       simp only [St.row,zp] at e ⊢
       by_cases hop:p=o
       ·subst hop
        simp only [if_true,if_pos hpl,hf,zg,if_false,zp] at e
        simp only [hb,hf,zg,if_false]
        by_cases hqj:q=j
        ·subst hqj
         simp only [if_true] at e
         split at e
         ·rename_i hh;split at hh<;>cases hh
         ·cases e
        ·simp only [if_neg hqj] at e;exact ⟨l,e⟩
       ·simp only [if_neg hop] at e;exact ⟨l,e⟩
     ·rw [zp] at ho
      by_cases hop:p=p'
      ·subst hop
       simp only [if_true,if_pos hpl,ZD.injEq] at ho
       subst ho
       obtain ⟨arr,E,h1,h2,h3,h4,h5⟩:=h.boxes p bx hb
       refine ⟨arr,E,h1,by simpa using h2,h3,by simp [hf],?_⟩
       intro j bv u hj hu
       have hj:(bx.cs.set q (.pv .void))[j]?=some bv:=hj
       rw [zp] at hj
       by_cases hqj:q=j
       ·subst hqj
        simp only [if_true] at hj
        split at hj
        ·cases hj
         obtain ⟨g1,_⟩:=h5 q _ u hq hu
         exact ⟨g1,.void _ g1⟩
        ·cases hj
       ·rw [if_neg hqj] at hj
        exact h5 j bv u hj hu
      ·rw [if_neg hop] at ho
       exact h.boxes p' bx' ho
     ·cases e
      rw [zp,if_pos rfl,if_pos hpl] at ho
      cases ho
      have hj:(bx.cs.set q (.pv .void))[q]?=some _:=hj
      rw [zp,if_pos rfl] at hj
      split at hj<;>cases hj
   obtain ⟨k1,k2,k3,k4,k5⟩:=key
   exact ⟨k1,k2,r,_,l,c,xa,m6,by rw [hlen],rfl,h2,k3,k4,k5⟩
  case h_4=>cases hc
end
section
variable {P:Program}{L:Nat}{σ σ':Nat→Nat}{T T':Tags}{st st' st1:St}{a:Act}{w w1:World}{o:Oper}{d n:Nat}{x x2:bU}{y y2:Operand}{ok:Nat→Prop}{sz:Nat}{es ys:List PV}{xs zs:List Value}
 {rec:ay→St→Option (Ex×St)} {env:Env}
structure VU (st:St)(r:Root):Prop where
 slot:∀ (t:Nat) s l,st.slots[t]?=some (.row s l)→r≠.slot t
 part:∀ (t i:Nat),r≠.part t i
 cell:∀ (p q:Nat) bx s l,st.boxes[p]?=some bx→bx.cs[q]?=some (.row s l)→r≠.cell p q
def gone (T:Tags)(r:Root):Tags:=fun b=>if T b=.row r then .other else T b
theorem jR {r:Root}{b:Nat}{q:qG}(hq:q≠.row r)(h:T b=q):gone T r b=q:=by
 unfold gone;rw [if_neg (by rw [h];exact hq)];exact h
theorem NQ {r:Root}{b:Nat}(h:T b=.row r):gone T r b=.other:=by unfold gone;rw [if_pos h]
theorem aV.acy (h:aV L σ T st a w){r:Root}(hr:VU st r):aV L σ (gone T r) st a w:=by
 have hw:∀ b,T b=.ro→b<w.heap.size→gone T r b=.ro∧w.heap[b]?=w.heap[b]?:=fun b e _=>⟨jR (by simp) e,rfl⟩
 refine ⟨h.size,fun t x u hx hu=>?_,fun p bx ho=>?_,fun b hb=>jR (by simp) (h.fresh b hb)⟩
 ·refine (h.slots t x u hx hu).keep hw (fun s l e b hb _=>⟨jR (fun e2=>hr.slot t s l (by rw [hx,e]) (by injection e2 with e2;exact e2.symm)) hb,rfl⟩) (fun l e i _ b hb _=>⟨jR (fun e2=>hr.part t i (by injection e2 with e2;exact e2.symm)) hb,rfl⟩) (fun q hq _ s l e=>⟨⟨l,e⟩,rfl⟩) (ze _) (fun _ _=>rfl)
 ·obtain ⟨arr,E,h1,h2,h3,h4,h5⟩:=h.boxes p bx ho
  refine ⟨arr,E,h1,h2,?_,h4,fun j bv u hj hu=>?_⟩
  ·split
   ·rename_i hf;exact jR (by simp) (by rw [h3,if_pos hf])
   ·rename_i hf;exact jR (by simp) (by rw [h3,if_neg hf])
  ·obtain ⟨g1,g2⟩:=h5 j bv u hj hu
   refine ⟨g1,?_⟩
   cases bv with
   |pv v=>exact aA.frame hw g2
   |row s l=>exact aW.frame (fun b e _=>⟨jR (fun e2=>hr.cell p j bx s l ho hj (by injection e2 with e2;exact e2.symm)) e,rfl⟩) hw g2
theorem aW.take {r:Root}{xa:Option Addr}{c:Nat}(h:aW T w r sz es (.slice xa es.length c))(k:Nat):aW T w r sz (es.take k) (.slice xa (es.take k).length c):=by
 rcases h.Hf with ⟨rfl,x,e⟩|⟨b,c',arr,E,e,h2,h3,h4,h5,h6,h7⟩
 ·injection e with e1 e2 e3
  subst e1;subst e3
  rw [List.take_nil]
  exact aW.nil _ _ _ _ _
 ·injection e with e1 e2 e3
  subst e1;subst e3
  exact aW.mk h2 h3 h4 (zr (ZdB _ _) h5) h6 (h7.take k) (by rw [List.take_take];exact ZdY _ _)
theorem Ru {r:Root}{b:Nat}(hT:T b=.row r)(cs:Array Value):rQ (gone T r) w (w.setRow b cs) :=
 ⟨by simp [World.setRow],fun c hc _=>setRow_other w b c cs (fun e=>by subst e;exact hc (NQ hT))⟩
theorem LD {T0:TypeId}(h:aV L σ T st a w)(hd:o.dst=some d)(ho:o.op=.call { callee:=.builtin .append,args:=#[y,y2],argTypes:=#[T0,T0] })(hm:bf y x=true)(hm2:bf y2 x2=true){sy:Nat}(he:uz P T0 sy=true)
  {es ys:List PV} {st1:St} (h1:st.elems x2=some (sy,ys)) (h2:st.grab x=some (sy,es,st1)) (hlim:es.length+ys.length≤5864062014805) (hB:∀ e i,P.underlying T0=some (.slice e)→P.info? e=some i→(es.length+ys.length)*i.bytes≤140737488355328) :
  Does P L σ T st.boxes.length (st1.putRow d sy (es++ys)) a w o false:=by
 obtain ⟨e,i,z,g1,g2,g3,g4,g5,g6,g7⟩:=yV he
 obtain ⟨ya,yc,e1,e2⟩:=h.elems hm2 h1
 obtain ⟨k1,k2,r,v,es0,c,xa,k3,k4,k5,k6,k7,k8,k9⟩:=h.grab hm h2
 have hun:VU st1 r:=⟨k7,k8,k9⟩
 have hlen:es.length≤es0.length:=by rw [k4];exact ZdB _ _
 subst k5
 have hrow:=k3.take es.length
 rw [← k4] at hrow
 have hcc:es.length≤c∧c≤maxLen:=by obtain ⟨_,_,e3,q1,q2,_⟩:=hrow.slice;injection e3 with _ _ e3;omega
 have hS:=k1.acy hun
 by_cases hm0:ys.length=0
 ·-- nothing is appended
  have hy0:ys=[]:=Zaz hm0
  subst hy0
  refine ⟨_,_,w,σ,moved T r (.slot d),zV ho k6 e1 (Fj w T0 _ e i g1 g2 xa ya es.length c yc hcc.1),.inl rfl,?_,(Still.moved T r (.slot d)).pV w,fun _ _=>rfl,fun e=>by cases e⟩
  rw [hd,List.append_nil]
  refine hS.putRow (aW.frame (fun b e _=>⟨rD e,rfl⟩) (fun b e _=>⟨iI e,rfl⟩) hrow) (fun b e=>?_) (fun b o e=>?_) (fun b hb=>kU (h.fresh b hb)) (fun t s l ht hs b e=>?_) (fun t j l ht hs hj b e=>?_) (fun o j b e=>?_)
  ·unfold gone at e;split at e;cases e;exact iI e
  ·unfold gone at e;split at e;cases e;exact oL e
  ·unfold gone at e;split at e;cases e;exact dQ (Ne.symm (hun.slot t s l hs)) (by simpa using ht) e
  ·unfold gone at e;split at e;cases e;exact dQ (Ne.symm (hun.part t j)) (by simp) e
  ·unfold gone at e;split at e;cases e
   rename_i hne
   exact dQ (fun e2=>hne (by rw [e,e2])) (by simp) e
 ·obtain ⟨ad,zs,rfl,e3,e4⟩:=e2 (by omega)
  have hzl:zs.length=ys.length*i.size:=by rw [g3];exact e3.len
  by_cases hroom:es.length+ys.length≤c
  ·-- there is room
   rcases hrow.Hf with ⟨_,x0,ex⟩|⟨b,c',arr,E,ex,q2,q3,q4,q5,q6,q7⟩
   ·injection ex with _ _ ex;omega
   ·injection ex with ex1 _ ex3
    subst ex1;subst ex3
    have hfit:es.length*i.size+zs.length≤arr.size:=by rw [hzl,q4,g3,← ZaC];exact Zam _ hroom
    have hr:=run_append_room' (P:=P) w T0 o.type e E i g1 g2 b es.length c arr q3 ad ys.length yc zs hzl e4 e3.one hroom hfit
    obtain ⟨arr',harr⟩:∃ arr',arr'=(arr.toList.take (es.length*i.size)++zs++arr.toList.drop (es.length*i.size+zs.length)).toArray:=⟨_,rfl⟩
    rw [← harr] at hr
    have hT1:∀ b',upd (gone T r) b (.row (.slot d)) b'=.row (.slot d)∨upd (gone T r) b (.row (.slot d)) b'=gone T r b':=fun b'=>by
     by_cases e:b'=b
     ·subst e;exact .inl NP
     ·exact .inr (upd_ne e)
    have hgb:gone T r b=.other:=NQ q2
    have hne:∀ c p,p≠.other→gone T r c=p→upd (gone T r) b (.row (.slot d)) c=p:=fun c p hp e=>by rw [upd_ne (fun e2=>by subst e2;rw [hgb] at e;exact hp e.symm)];exact e
    have hbl:b<w.heap.size:=(zz.1 q3).1
    refine ⟨_,_,w.setRow b arr',σ,upd (gone T r) b (.row (.slot d)),zV ho k6 e1 hr,.inl rfl,?_,?_,fun _ _=>rfl,fun e=>by cases e⟩
    ·rw [hd]
     have hS1:=hS.sees (Ru q2 arr')
     have hsame:∀ b',T b'=.ro→b'<w.heap.size→upd (gone T r) b (.row (.slot d)) b'=.ro∧(w.setRow b arr').heap[b']?=w.heap[b']?:=fun b' e _=>⟨hne b' _ (by simp) (jR (by simp) e),setRow_other w b b' arr' (fun e2=>by subst e2;rw [q2] at e;cases e)⟩
     have hnew:=(q7.frame hsame).append (e3.frame hsame)
     rw [← Zaa]
     refine hS1.putRow (aW.mk (c:=c) (E:=E) (arr:=arr') NP (setRow_heap w b arr arr' E (0,0) q3) ?_ (by simpa using hroom) q6 hnew ?_) (fun b' e=>hne b' _ (by simp) e) (fun b' o e=>hne b' _ (by simp) e) (fun b' hb'=>?_) (fun t s l ht hs b' e=>hne b' _ (by simp) e) (fun t j l ht hs hj b' e=>hne b' _ (by simp) e) (fun o j b' e=>hne b' _ (by simp) e)
     ·rw [harr];simp only [ZaX,Zaa,Zac,Zbe,ZaA];omega
     ·rw [harr,g3];exact ⟨_,rfl⟩
     ·rw [show (w.setRow b arr').heap.size=w.heap.size by simp [World.setRow]] at hb'
      rw [upd_ne (by omega)];exact jR (by simp) (h.fresh b' hb')
    ·refine ⟨by simp [World.setRow],rfl,rfl,rfl,fun b' _ e=>setRow_other w b b' arr' (fun e2=>by subst e2;rw [q2] at e;rcases e with e|e<;>cases e),fun b' e=>hne b' _ (by simp) (jR (by simp) e),fun b' _ e=>?_⟩
     rw [upd_ne (fun e2=>by subst e2;rw [q2] at e;cases e)];exact jR (by simp) e
  ·-- a new row
   have hbytes:(es.length+ys.length)*i.bytes≤140737488355328:=hB e i g1 g2
   have hsm:es.length+ys.length≤maxLen:=by unfold maxLen;omega
   have hold:∃ olds,eF (fun b=>T b=.ro) w sy es olds∧∀ (ad:Addr),xa=some ad→∀ j u,olds[j]?=some u→w.cell? (ad.add j)=some u:=by
    rcases hrow.Hf with ⟨e0,x0,ex⟩|⟨b,c',arr,E,ex,q2,q3,q4,q5,q6,q7⟩
    ·rw [e0];exact ⟨[],eF.nil _ _ _,fun ad _ j u hj=>by simp at hj⟩
    ·injection ex with ex1 _ _
     refine ⟨_,q7,fun ad' hx j u hj=>?_⟩
     rw [ex1] at hx;cases hx
     rw [Addr.add_lit,Zan,cell_of_row w b j arr E (0,0) q3]
     rw [Zaq] at hj
     split at hj
     ·simpa using hj
     ·cases hj
   obtain ⟨olds,o1,o2⟩:=hold
   have hdr:aV L σ T st1 a w.drew:=k1.sees ⟨ze _,fun _ _ _=>rfl⟩
   have hcap:=grownCap_ge w (es.length+ys.length) c e
   have hcm:grownCap w (es.length+ys.length) c e≤maxLen:=grownCap_le_maxLen w (es.length+ys.length) c e hsm
   obtain ⟨G,hG⟩:∃ G,G=grownCap w (es.length+ys.length) c e:=⟨_,rfl⟩
   have hr:(Builtin.append_ #[T0,T0] o.type #[.slice xa es.length c,.slice (some ad) ys.length yc]).run P w=.ok (.slice (some ⟨w.heap.size,0,none⟩) (es.length+ys.length) G) (w.drew.alloc (.cells (olds.toArray++zs.toArray++Builtin.zeroCells z.cells (G - (es.length+ys.length))) e)):=by
    rw [hG]
    cases xa with
    |none =>
     have he0:es.length=0∧c=0:=by
      rcases hrow.Hf with ⟨e0,x0,ex⟩|⟨b,c',arr,E,ex,_⟩
      ·injection ex with _ ex2 ex3;exact ⟨ex2,ex3⟩
      ·injection ex with ex1 _ _;cases ex1
     obtain ⟨e01,e02⟩:=he0
     have hol:olds=[]:=Zaz (by rw [o1.len,e01,Nat.zero_mul])
     subst hol
     subst e02
     have:=run_append_nil (P:=P) w T0 o.type e i z g1 g2 g5 ad ys.length yc zs hzl e4 (by omega) (by omega) (by rw [e01,Zan] at hbytes;omega)
     rw [e01,Zan]
     simpa using this
    |some ab=>exact run_append_grow (P:=P) w T0 o.type e i z g1 g2 g5 ab es.length c olds (by rw [g3];exact o1.len) (o2 ab rfl) ad ys.length yc zs hzl e4 (by omega) (by omega) (growslice_fits (by omega) hbytes)
   refine ⟨_,_,_,σ,upd T w.heap.size (.row (.slot d)),zV ho k6 e1 hr,.inl rfl,?_,?_,fun _ _=>rfl,fun e=>by cases e⟩
   ·rw [hd]
    have hxs:=o1.append e3
    have key:=hdr.Yw (d:=d) (E:=e) (c:=G) (arr:=olds.toArray++zs.toArray++Builtin.zeroCells z.cells (G - (es.length+ys.length))) (by
     simp only [Array.size_append,ZaX,size_zeroCells,g6,o1.len,e3.len,← ZaC]
     congr 1;omega) (by rw [Zaa];omega) (by omega) (hxs.frame fun b e _=>⟨e,rfl⟩) ⟨_,by simp only [Array.toList_append];rfl⟩
    rw [Zaa] at key
    exact key
   ·have:=mW (w:=w.drew) (T:=T) (hdr.fresh _ (ze _)) (.cells (olds.toArray++zs.toArray++Builtin.zeroCells z.cells (G - (es.length+ys.length))) e) (.row (.slot d))
    exact (show zQ T T w w.drew from ⟨ze _,rfl,rfl,rfl,fun _ _ _=>rfl,fun _ e=>e,fun _ _ e=>e⟩).trans this
theorem acA {T0:TypeId}(h:aV L σ T st a w)(hd:o.dst=some d)(ho:o.op=.call { callee:=.builtin .append,args:=#[y,y2],argTypes:=#[T0,T0] })(hm:bf y x=true)(hm2:bf y2 x2=true)(he:uz P T0 sz=true)
  (hp:act rec env (.app d sz x x2) st=some st'):Does P L σ T st.boxes.length st' a w o false:=by
 simp only [act] at hp
 obtain ⟨⟨sy,ys⟩,h1,hp1⟩:=bind_some hp
 clear hp
 obtain ⟨⟨sx,es,st1⟩,h2,hp2⟩:=bind_some hp1
 clear hp1
 simp only at hp2
 split at hp2
 case isFalse=>cases hp2
 rename_i hc
 obtain ⟨rfl,rfl,hlim⟩:=hc
 have hp:=ZD.inj hp2
 clear hp2
 subst hp
 unfold lim at hlim
 obtain ⟨e,i,z,g1,g2,g3,g4,g5,g6,g7⟩:=yV he
 refine LD h hd ho hm hm2 he h1 h2 (by omega) fun e' i' q1 q2=>?_
 rw [g1] at q1;cases q1
 rw [g2] at q2;cases q2
 exact zr (Zdw hlim g7) (by omega)
def NR (P:Program)(T0:Nat):Bool:=uz P T0 1&&match iW P T0 with
 |some e=>match P.info? e with
  |some i=>decide (i.bytes≤24)
  |none=>false
 |none=>false
theorem acB {T0:TypeId}(h:aV L σ T st a w)(hd:o.dst=some d)(ho:o.op=.call { callee:=.builtin .append,args:=#[y,y2],argTypes:=#[T0,T0] })(hm:bf y x=true)(hm2:bf y2 x2=true)(he:NR P T0=true)
  (hp:act rec env (.apb d x x2) st=some st'):Does P L σ T st.boxes.length st' a w o false:=by
 simp only [act] at hp
 obtain ⟨⟨sy,ys⟩,h1,hp1⟩:=bind_some hp
 clear hp
 obtain ⟨⟨sx,es,st1⟩,h2,hp2⟩:=bind_some hp1
 clear hp1
 simp only at hp2
 split at hp2
 case isFalse=>cases hp2
 rename_i hc
 obtain ⟨rfl,rfl,hlim⟩:=hc
 have hp:=ZD.inj hp2
 clear hp2
 subst hp
 unfold VD at hlim
 unfold NR at he
 rw [ZZ] at he
 obtain ⟨he,hb⟩:=he
 refine LD h hd ho hm hm2 he h1 h2 hlim fun e' i' q1 q2=>?_
 have q0:iW P T0=some e':=by unfold iW;rw [q1]
 rw [q0] at hb
 simp only [q2,decide_eq_true_eq] at hb
 exact zr (Zdw hlim hb) (by omega)
end
section
variable {P:Program}{L:Nat}{σ σ':Nat→Nat}{T T':Tags}{st st' st1:St}{a:Act}{w w1:World}{o:Oper}{d n:Nat}{x x2:bU}{y y2:Operand}{ok:Nat→Prop}{sz:Nat}{es es' ys:List PV}{xs zs:List Value}
 {rec:ay→St→Option (Ex×St)} {env:Env}
theorem aV.acC (h:aV L σ T st a w){r:Root}(hr:st.row r=some (sz,es)){b c E:Nat}{arr arr':Array Value}(hv:hdr σ a w r=some (.slice (some ⟨b,0,none⟩) es.length c))(hT:T b=.row r)(hb:w.heap[b]?=some (.cells arr E (0,0)))
  (hs:arr'.size=arr.size) (hl:es'.length=es.length) (hrep:aW T (w.setRow b arr') r sz es' (.slice (some ⟨b,0,none⟩) es'.length c)):aV L σ T (st.setRow r sz es') a (w.setRow b arr')∧zQ T T w (w.setRow b arr'):=by
 have hoth:∀ q,q≠.row r→∀ b',T b'=q→(w.setRow b arr').heap[b']?=w.heap[b']?:=fun q hq b' e=>setRow_other w b b' arr' (fun e2=>by subst e2;rw [hT] at e;exact hq e.symm)
 have hw:∀ b',T b'=.ro→b'<w.heap.size→T b'=.ro∧(w.setRow b arr').heap[b']?=w.heap[b']?:=fun b' e _=>⟨e,hoth _ (by simp) b' e⟩
 have hsz:(w.setRow b arr').heap.size=w.heap.size:=by simp [World.setRow]
 have hbox:∀ p bx,st.boxes[p]?=some bx→(w.setRow b arr').heap[σ p]?=w.heap[σ p]?:=fun p bx hp=>by
  obtain ⟨_,_,_,_,h3,_⟩:=h.boxes p bx hp
  refine hoth _ ?_ _ h3
  split<;>simp
 have Rw:∀ q s l,st.row q=some (s,l)→hdr σ a (w.setRow b arr') q=hdr σ a w q:=fun q s l e=>by
  cases q with
  |slot t=>rfl
  |part t i=>rfl
  |cell p j =>
   obtain ⟨bx,h1,_⟩:=dZ e
   exact World.cell?_of_block (w:=w) (a:=⟨σ p,j,none⟩) (hbox p bx h1)
 refine ⟨?_,⟨by omega,rfl,rfl,rfl,fun b' _ e=>?_,fun _ e=>e,fun _ _ e=>e⟩⟩
 ·cases r with
  |part t i=>simp [St.row] at hr
  |slot t =>
   have hst:=fZ hr
   have htl:=(Z6.1 hst).1
   have hrow:∀ q s l,(st.put t (.row sz es')).row q=some (s,l)→∃ l0,st.row q=some (s,l0):=fun q s l e=>by
    by_cases hq:q=.slot t
    ·subst hq
     have e2:=fZ e
     simp only [St.put,zp,if_true,if_pos htl,ZD.injEq,AV.row.injEq] at e2
     obtain ⟨rfl,rfl⟩:=e2
     exact ⟨es,hr⟩
    ·rw [iy hq] at e;exact ⟨l,e⟩
   refine ⟨by simp [St.setRow,St.put,h.size],fun t' x u hx hu=>?_,fun p bx ho=>?_,fun b' hb'=>h.fresh b' (by omega)⟩
   ·rcases dO hx with ⟨rfl,rfl,_⟩|⟨h1,h2⟩
    ·have:u=.slice (some ⟨b,0,none⟩) es'.length c:=by
      rw [hl];exact ZD.inj (hu.symm.trans hv)
     rw [this];exact hrep
    ·refine (h.slots t' x u h2 hu).keep hw (fun s l e b' e2 _=>⟨e2,hoth _ (by simpa using h1) b' e2⟩) (fun l e i _ b' e2 _=>⟨e2,hoth _ (by simp) b' e2⟩) (fun q hq _ s l e=>?_) (ze _) (fun _ _=>rfl)
     obtain ⟨l0,e0⟩:=hrow q s l e
     exact ⟨⟨l0,e0⟩,Rw q s l0 e0⟩
   ·exact (h.boxes p bx ho).frame ⟨rfl,hbox p bx ho⟩ (fun j b' e _=>⟨e,hoth _ (by simp) b' e⟩) hw
  |cell p q =>
   obtain ⟨bx0,hbx0,hfz,hq⟩:=dZ hr
   have hst:st.setRow (.cell p q) sz es'={ st with boxes:=st.boxes.set p { bx0 with cs:=bx0.cs.set q (.row sz es') } }:=by simp [St.setRow,St.setCell,hbx0]
   have hpl:p<st.boxes.length:=(Z6.1 hbx0).1
   have hql:q<bx0.cs.length:=(Z6.1 hq).1
   rw [hst]
   refine ⟨h.size,fun t x u hx hu=>?_,fun p' bx ho=>?_,fun b' hb'=>h.fresh b' (by omega)⟩
   ·refine (h.slots t x u hx hu).keep hw (fun s l e b' e2 _=>⟨e2,hoth _ (by simp) b' e2⟩) (fun l e i _ b' e2 _=>⟨e2,hoth _ (by simp) b' e2⟩) (fun r' hr' _ s l e=>?_) (by simp) (fun _ _=>rfl)
    have e0:∃ l0,st.row r'=some (s,l0):=by
     cases r' with
     |slot t'=>exact ⟨l,e⟩
     |part t' i=>exact ⟨l,e⟩
     |cell o j =>
      simp only [St.row,zp] at e ⊢
      by_cases hop:p=o
      ·subst hop
       simp only [if_true,if_pos hpl,hfz,zg,if_false,zp] at e
       simp only [hbx0,hfz,zg,if_false]
       by_cases hqj:q=j
       ·subst hqj
        simp only [if_true,if_pos hql,ZD.injEq,ZaD.injEq] at e
        rw [hq]
        exact ⟨es,by rw [e.1]⟩
       ·simp only [if_neg hqj] at e;exact ⟨l,e⟩
      ·simp only [if_neg hop] at e;exact ⟨l,e⟩
    obtain ⟨l0,e0⟩:=e0
    exact ⟨⟨l0,e0⟩,Rw r' s l0 e0⟩
   ·rw [zp] at ho
    by_cases hop:p=p'
    ·subst hop
     simp only [if_true,if_pos hpl,ZD.injEq] at ho
     subst ho
     have hbb:=hbox p bx0 hbx0
     obtain ⟨xP,E0,h1,h2,h3,h4,h5⟩:=h.boxes p bx0 hbx0
     refine ⟨xP,E0,hbb.trans h1,by simpa using h2,h3,by simp [hfz],?_⟩
     intro j bv u hj hu
     have hj:(bx0.cs.set q (.row sz es'))[j]?=some bv:=hj
     rw [zp] at hj
     by_cases hqj:q=j
     ·subst hqj
      simp only [if_true,if_pos hql,ZD.injEq] at hj
      subst hj
      have:u=.slice (some ⟨b,0,none⟩) es'.length c:=by
       have e2:hdr σ a w (.cell p q)=some u:=by simp only [hdr];rw [cell_of_row w _ _ xP E0 (0,0) h1];exact hu
       rw [hl];exact ZD.inj (e2.symm.trans hv)
      rw [this];exact ⟨rfl,hrep⟩
     ·rw [if_neg hqj] at hj
      obtain ⟨g1,g2⟩:=h5 j bv u hj hu
      exact ⟨g1,g2.frame (fun b' e _=>⟨e,hoth _ (by simpa using Ne.symm hqj) b' e⟩) hw⟩
    ·rw [if_neg hop] at ho
     exact (h.boxes p' bx ho).frame ⟨rfl,hbox p' bx ho⟩ (fun j b' e _=>⟨e,hoth _ (by intro e2;cases e2;exact hop rfl) b' e⟩) hw
 ·rcases e with e|e
  ·exact hoth .ro (by simp) b' e
  ·exact hoth .other (by simp) b' e
theorem aV.ahj (h:aV L σ T st a w){r:Root}(hr:st.row r=some (sz,es)){v:Value}{w':World}(hv:hdr σ a w r=some v)(hsz:w.heap.size≤w'.heap.size)(hos:w'.os=w.os)(htp:w'.tape=w.tape)(hou:w'.output=w.output)
  (hblk:∀ b,b<w.heap.size→T b≠.row r→w'.heap[b]?=w.heap[b]?) (hrep:aW T w' r sz es' v):aV L σ T (st.setRow r sz es') a w'∧zQ T T w w':=by
 have hoth:∀ q,q≠.row r→∀ b',T b'=q→b'<w.heap.size→w'.heap[b']?=w.heap[b']?:=fun q hq b' e hb=>hblk b' hb (by rw [e];exact hq)
 have hw:∀ b',T b'=.ro→b'<w.heap.size→T b'=.ro∧w'.heap[b']?=w.heap[b']?:=fun b' e hb=>⟨e,hoth _ (by simp) b' e hb⟩
 have hbox:∀ p bx,st.boxes[p]?=some bx→w'.heap[σ p]?=w.heap[σ p]?:=fun p bx hp=>by
  obtain ⟨_,_,h1,_,h3,_⟩:=h.boxes p bx hp
  refine hoth _ ?_ _ h3 (zz.1 h1).1
  split<;>simp
 have Rw:∀ q s l,st.row q=some (s,l)→hdr σ a w' q=hdr σ a w q:=fun q s l e=>by
  cases q with
  |slot t=>rfl
  |part t i=>rfl
  |cell p j =>
   obtain ⟨bx,h1,_⟩:=dZ e
   exact World.cell?_of_block (w:=w) (a:=⟨σ p,j,none⟩) (hbox p bx h1)
 refine ⟨?_,⟨hsz,hos,htp,hou,fun b' hb e=>?_,fun _ e=>e,fun _ _ e=>e⟩⟩
 ·cases r with
  |part t i=>simp [St.row] at hr
  |slot t =>
   have hst:=fZ hr
   have htl:=(Z6.1 hst).1
   have hrow:∀ q s l,(st.put t (.row sz es')).row q=some (s,l)→∃ l0,st.row q=some (s,l0):=fun q s l e=>by
    by_cases hq:q=.slot t
    ·subst hq
     have e2:=fZ e
     simp only [St.put,zp,if_true,if_pos htl,ZD.injEq,AV.row.injEq] at e2
     obtain ⟨rfl,rfl⟩:=e2
     exact ⟨es,hr⟩
    ·rw [iy hq] at e;exact ⟨l,e⟩
   refine ⟨by simp [St.setRow,St.put,h.size],fun t' x u hx hu=>?_,fun p bx ho=>?_,fun b' hb'=>h.fresh b' (by omega)⟩
   ·rcases dO hx with ⟨rfl,rfl,_⟩|⟨h1,h2⟩
    ·have:u=v:=ZD.inj (hu.symm.trans hv)
     rw [this];exact hrep
    ·refine (h.slots t' x u h2 hu).keep hw (fun s l e b' e2 hb=>⟨e2,hoth _ (by simpa using h1) b' e2 hb⟩) (fun l e i _ b' e2 hb=>⟨e2,hoth _ (by simp) b' e2 hb⟩) (fun q hq _ s l e=>?_) (ze _) (fun _ _=>rfl)
     obtain ⟨l0,e0⟩:=hrow q s l e
     exact ⟨⟨l0,e0⟩,Rw q s l0 e0⟩
   ·exact (h.boxes p bx ho).frame ⟨rfl,hbox p bx ho⟩ (fun j b' e hb=>⟨e,hoth _ (by simp) b' e hb⟩) hw
  |cell p q =>
   obtain ⟨bx0,hbx0,hfz,hq⟩:=dZ hr
   have hst:st.setRow (.cell p q) sz es'={ st with boxes:=st.boxes.set p { bx0 with cs:=bx0.cs.set q (.row sz es') } }:=by simp [St.setRow,St.setCell,hbx0]
   have hpl:p<st.boxes.length:=(Z6.1 hbx0).1
   have hql:q<bx0.cs.length:=(Z6.1 hq).1
   rw [hst]
   refine ⟨h.size,fun t x u hx hu=>?_,fun p' bx ho=>?_,fun b' hb'=>h.fresh b' (by omega)⟩
   ·refine (h.slots t x u hx hu).keep hw (fun s l e b' e2 hb=>⟨e2,hoth _ (by simp) b' e2 hb⟩) (fun l e i _ b' e2 hb=>⟨e2,hoth _ (by simp) b' e2 hb⟩) (fun r' hr' _ s l e=>?_) (by simp) (fun _ _=>rfl)
    have e0:∃ l0,st.row r'=some (s,l0):=by
     cases r' with
     |slot t'=>exact ⟨l,e⟩
     |part t' i=>exact ⟨l,e⟩
     |cell o j =>
      simp only [St.row,zp] at e ⊢
      by_cases hop:p=o
      ·subst hop
       simp only [if_true,if_pos hpl,hfz,zg,if_false,zp] at e
       simp only [hbx0,hfz,zg,if_false]
       by_cases hqj:q=j
       ·subst hqj
        simp only [if_true,if_pos hql,ZD.injEq,ZaD.injEq] at e
        rw [hq]
        exact ⟨es,by rw [e.1]⟩
       ·simp only [if_neg hqj] at e;exact ⟨l,e⟩
      ·simp only [if_neg hop] at e;exact ⟨l,e⟩
    obtain ⟨l0,e0⟩:=e0
    exact ⟨⟨l0,e0⟩,Rw r' s l0 e0⟩
   ·rw [zp] at ho
    by_cases hop:p=p'
    ·subst hop
     simp only [if_true,if_pos hpl,ZD.injEq] at ho
     subst ho
     have hbb:=hbox p bx0 hbx0
     obtain ⟨xP,E0,h1,h2,h3,h4,h5⟩:=h.boxes p bx0 hbx0
     refine ⟨xP,E0,hbb.trans h1,by simpa using h2,h3,by simp [hfz],?_⟩
     intro j bv u hj hu
     have hj:(bx0.cs.set q (.row sz es'))[j]?=some bv:=hj
     rw [zp] at hj
     by_cases hqj:q=j
     ·subst hqj
      simp only [if_true,if_pos hql,ZD.injEq] at hj
      subst hj
      have:u=v:=by
       have e2:hdr σ a w (.cell p q)=some u:=by simp only [hdr];rw [cell_of_row w _ _ xP E0 (0,0) h1];exact hu
       exact ZD.inj (e2.symm.trans hv)
      rw [this];exact ⟨by rcases hrep with ⟨_,_,rfl⟩|⟨_,_,_,_,rfl,_⟩<;>rfl,hrep⟩
     ·rw [if_neg hqj] at hj
      obtain ⟨g1,g2⟩:=h5 j bv u hj hu
      exact ⟨g1,g2.frame (fun b' e hb=>⟨e,hoth _ (by simpa using Ne.symm hqj) b' e hb⟩) hw⟩
    ·rw [if_neg hop] at ho
     exact (h.boxes p' bx ho).frame ⟨rfl,hbox p' bx ho⟩ (fun j b' e hb=>⟨e,hoth _ (by intro e2;cases e2;exact hop rfl) b' e hb⟩) hw
 ·rcases e with e|e
  ·exact hoth .ro (by simp) b' e hb
  ·exact hoth .other (by simp) b' e hb
theorem LG {cs new cs':List PV}{off:Nat}(h:splice cs off new=some cs'):off+new.length≤cs.length∧cs'=cs.take off++new++cs.drop (off+new.length):=by
 unfold splice at h
 split at h
 ·exact ⟨by assumption,(ZD.inj h).symm⟩
 ·cases h
theorem jS {α:Type}{cs new:List α}{off:Nat}(hl:off+new.length≤cs.length)(i:Nat):(cs.take off++new++cs.drop (off+new.length))[i]?=if off≤i∧i<off+new.length then new[i - off]? else cs[i]?:=by
 rw [Zay,Zcf]
 simp only [Zac,show min off cs.length=off by omega]
 split
 ·rename_i hi;rw [if_neg (by omega),Zaq,if_pos hi]
 ·rename_i hi
  rw [Zcf]
  split
  ·rename_i hj;rw [if_pos (by omega)]
  ·rename_i hj;rw [if_neg (by omega),List.getElem?_drop];congr 1;omega
theorem NS {e e':PV}{cs:List PV}(h:e.xG cs=some e'):e'.cells=cs:=by
 unfold PV.xG at h
 split at h
 ·cases h;rfl
 ·split at h
  ·cases h
  ·rename_i c hc
   have h:=ZD.inj h
   subst h
   cases c<;>first|rfl|exact absurd rfl (hc _)
  ·cases h
theorem eF.set (h:eF ok w sz es xs){i j:Nat}{e e':PV}{cs':List PV}{vs:List PV}{us:List Value}(hi:es[i]?=some e)(hs:splice e.cells j vs=some cs')(he:e'.cells=cs')(hv:us.length=vs.length)(hu:∀ (k:Nat) x,vs[k]?=some x→∃ u,us[k]?=some u∧u.oneCell'=true∧aA ok w x u) :
  eF ok w sz (es.set i e') (xs.take (i*sz+j)++us++xs.drop (i*sz+j+us.length)):=by
 obtain ⟨h1,rfl⟩:=LG hs
 have hil:=(Z6.1 hi).1
 have hw:=h.wid e (Zab hi)
 have hbound:i*sz+j+us.length≤xs.length:=by
  rw [h.len,hv]
  have:(i+1)*sz≤es.length*sz:=Zam _ hil
  rw [ZaC] at this;omega
 refine ⟨?_,fun e0 he0=>?_,fun i' e0 j' x hi' hj'=>?_⟩
 ·simp only [Zaa,Zac,Zbe,List.length_set]
  rw [← h.len];omega
 ·rcases List.mem_or_eq_of_mem_set he0 with h2|rfl
  ·exact h.wid e0 h2
  ·rw [he];simp;omega
 ·rw [zp] at hi'
  rw [jS hbound]
  by_cases hii:i=i'
  ·subst hii
   rw [if_pos rfl,if_pos hil] at hi'
   cases hi'
   rw [he,jS h1] at hj'
   by_cases hjj:j≤j'∧j'<j+vs.length
   ·rw [if_pos hjj] at hj'
    obtain ⟨u,g1,g2,g3⟩:=hu _ _ hj'
    exact ⟨u,by rw [if_pos (by omega),show i*sz+j' - (i*sz+j)=j' - j by omega];exact g1,g2,g3⟩
   ·rw [if_neg hjj] at hj'
    obtain ⟨u,g1,g2,g3⟩:=h.rep i e j' x hi hj'
    exact ⟨u,by rw [if_neg (by omega)];exact g1,g2,g3⟩
  ·rw [if_neg hii] at hi'
   obtain ⟨u,g1,g2,g3⟩:=h.rep i' e0 j' x hi' hj'
   have hj3:=(h.lt hi' hj').2
   refine ⟨u,?_,g2,g3⟩
   rw [if_neg ?_]
   ·exact g1
   ·intro hh
    rcases Zbf i' i with hlt|hge
    ·have:=Dv hlt hj3;omega
    ·have h3:i+1≤i':=by omega
     have:(i+1)*sz≤i' * sz:=Zam _ h3
     rw [ZaC] at this;omega
theorem jT {T0:TypeId}{b off tb:Nat}{v:Value}{arr:Array Value}(hs:iZ P T0=some v.cells.size)(hb:w.heap[b]?=some (.cells arr tb (0,0)))(hl:off+v.cells.size≤arr.size)(h1:∀ u∈v.cells.toList,u.oneCell'=true) :
  (storeVar T0 ⟨b,off,none⟩ v).run P w=.ok () (w.setRow b (arr.toList.take off++v.cells.toList++arr.toList.drop (off+v.cells.toList.length)).toArray):=by
 have hst:=run_storeCells_at P b off tb v.cells.toList 0 arr w hb (by simpa using hl) h1
 simp only [Za1] at hst
 unfold storeVar
 simp only [Sem.run_bind,pW hs,Result.andThen_ok,ne_eq,not_true_eq_false,if_false,hst]
theorem run_store {ρ:Operand→Value}{T0:TypeId}{ad:Addr}{v:Value}(ho:o.op=.store T0 y y2)(h1:ρ y=.pointer (some ad))(h2:ρ y2=v)(hr:(storeVar T0 ad v).run P w=.ok () w1):(execOp ρ o).run P w=.ok .skip w1:=by
 simp [execOp,ho,Instr.storeAt,Instr.sureAddr,h1,h2,hr]
theorem Cells.mem1 {cs:List PV}{arr:Array Value}(h:Cells ok w cs arr):(∀ u∈arr.toList,u.oneCell'=true)∧∀ (k:Nat) x,cs[k]?=some x→∃ u,arr.toList[k]?=some u∧u.oneCell'=true∧aA ok w x u:=by
 refine ⟨fun u hu=>?_,fun k x hk=>?_⟩
 ·obtain ⟨k,hk⟩:=ZaZ.1 hu
  exact h.one k u (by simpa using hk)
 ·have hl:k<arr.size:=by rw [h.size];exact (Z6.1 hk).1
  have e:arr[k]?=some arr[k]:=zj hl
  exact ⟨arr[k],by simpa using e,h.one k _ e,h.rep k x _ hk e⟩
theorem NT {T0:TypeId}{r:Root}{i j:Nat}(h:aV L σ T st a w)(hd:o.dst=none)(ho:o.op=.store T0 y y2)(hm:bf y x=true)(hm2:bf y2 x2=true)(hs:iZ P T0=some n){v:PV}{own:Bool}(h1:st.consume x2=some (v,own,st1))(h2:st1.get x=.qx r i j)
  (h3:st1.row r=some (sz,es)) {e e':PV} (h4:es[i]?=some e) (h5:v.cells.length=n) {cs:List PV} (h6:splice e.cells j v.cells=some cs) (h7:e.xG cs=some e'):Does P L σ T st.boxes.length (st1.setRow r sz (es.set i e')) a w o false:=by
 obtain ⟨T1,k1,k2,k3,k4⟩:=h.G7 hm2 h1
 have hp:=k1.ahg hm h2 sz es h3
 obtain ⟨b,m,c,m1,m2⟩:=hp
 obtain ⟨u,m3,m4⟩:=k1.vS h3
 rw [m3] at m1;cases m1
 have hil:=(Z6.1 h4).1
 rcases m4.Hf with ⟨e0,_,_⟩|⟨b',c',arr,E,ex,q2,q3,q4,q5,q6,q7⟩
 ·rw [e0] at hil;simp at hil
 ·injection ex with ex1 ex2 ex3
  injection ex1 with ex1
  injection ex1 with ex1
  subst ex1;subst ex2;subst ex3
  have hc:=k4.cells
  obtain ⟨c1,c2⟩:=hc.mem1
  obtain ⟨hsp,_⟩:=LG h6
  have hw:=q7.wid e (Zab h4)
  have hb1:i*sz+j+(a.eval y2).cells.size≤es.length*sz:=by
   rw [hc.size]
   have:(i+1)*sz≤es.length*sz:=Zam _ hil
   rw [ZaC] at this;omega
  have hb2:es.length*sz≤c*sz:=Zam _ q5
  have hset:=q7.set h4 h6 (NS h7) (us:=(a.eval y2).cells.toList) (by simp [hc.size]) c2
  have hrun:=jT (P:=P) (T0:=T0) (w:=w) (b:=b) (off:=i*sz+j) (tb:=E) (v:=a.eval y2) (arr:=arr) (by rw [hs,hc.size,h5]) q3 (by rw [q4];omega) c1
  obtain ⟨arr',harr⟩:∃ arr',arr'=(arr.toList.take (i*sz+j)++(a.eval y2).cells.toList++arr.toList.drop (i*sz+j+(a.eval y2).cells.toList.length)).toArray:=⟨_,rfl⟩
  rw [← harr] at hrun
  have hnew:aW T1 (w.setRow b arr') r sz (es.set i e') (.slice (some ⟨b,0,none⟩) (es.set i e').length c):=by
   refine aW.mk (E:=E) (arr:=arr') (xs:=(arr.toList.take (es.length*sz)).take (i*sz+j)++(a.eval y2).cells.toList++(arr.toList.take (es.length*sz)).drop (i*sz+j+(a.eval y2).cells.toList.length)) q2 (setRow_heap w b arr arr' E (0,0) q3) ?_ (by simpa using q5) q6 (hset.frame fun b' e _=>⟨e,setRow_other w b b' arr' (fun e2=>by subst e2;rw [q2] at e;cases e)⟩) ?_
   ·rw [harr,← q4];simp only [ZaX,Zaa,Zac,Zbe,ZaA];omega
   ·rw [harr]
    refine ⟨arr.toList.drop (es.length*sz),?_⟩
    simp only [List.take_take,Zay]
    rw [Zbv (by omega)]
    congr 2
    rw [List.drop_take]
    conv=>rhs;rw [← List.take_append_drop (es.length*sz - (i*sz+j+(a.eval y2).cells.toList.length)) (arr.toList.drop (i*sz+j+(a.eval y2).cells.toList.length))]
    congr 1
    rw [List.drop_drop]
    congr 1
    simp only [ZaA]
    omega
  obtain ⟨s1,s2⟩:=k1.acC h3 m3 q2 q3 (by rw [harr];simp only [ZaX,Zaa,Zac,Zbe,ZaA];omega) (by simp) hnew
  refine ⟨_,undef,_,σ,T1,run_store ho m2 rfl hrun,.inr ⟨rfl,rfl⟩,by rw [hd];exact s1,(k2.pV w).trans s2,fun _ _=>rfl,fun e=>by cases e⟩
theorem aV.place (h:aV L σ T st a w)(hm:bf y x=true){r:Root}{off len:Nat}(hp:st.place x=some (r,off,len))(hr:st.row r=some (sz,es)):NI (hdr σ a w r) off len sz (a.eval y):=by
 cases x with
 |c v=>simp [St.place] at hp
 |nil s=>simp [St.place] at hp
 |t n =>
  simp only [St.place] at hp
  split at hp
  ·rename_i r' off' len' e
   simp only [ZD.injEq,ZaD.injEq] at hp
   obtain ⟨rfl,rfl,rfl⟩:=hp
   exact h.Q9 hm e sz es hr
  ·rename_i s l e
   simp only [ZD.injEq,ZaD.injEq] at hp
   obtain ⟨rfl,rfl,rfl⟩:=hp
   have e0:st.get (.t n)=.row s l:=e
   obtain ⟨q1,q2,q3⟩:=h.VN hm e0
   have:=fZ hr
   rw [q1] at this;cases this
   obtain ⟨xa,c,e1,_⟩:=q3.slice
   exact ⟨xa,_,c,xa,by rw [← e1];exact q2,by rw [e1];simp,fun _=>rfl,fun _=>by cases xa<;>simp [Addr.add],fun b o e=>⟨o,e⟩⟩
  ·cases hp
end
section
variable {P:Program}{L:Nat}{σ σ':Nat→Nat}{T T':Tags}{st st' st1:St}{a:Act}{w w1:World}{o:Oper}{d n:Nat}{x x2:bU}{y y2:Operand}{ok:Nat→Prop}{sz:Nat}{es es' ys:List PV}{xs zs:List Value}
 {rec:ay→St→Option (Ex×St)} {env:Env}
theorem aV.Hg (h:aV L σ T st a w){p E:Nat}{bx:Box}{cs':List BV}{arr arr':Array Value}(g:AV→AV)(hb:st.boxes[p]?=some bx)(hf:bx.fz=false)(ha:w.heap[σ p]?=some (.cells arr E (0,0)))
  (hl:cs'.length=bx.cs.length) (hs:arr'.size=arr.size) (hrep:∀ (k:Nat) bv u,cs'[k]?=some bv→arr'[k]?=some u→u.oneCell'=true∧GX T' (w.setRow (σ p) arr') p k bv u)
  (hg:∀ x,g x=.any∨(g x=x∧∀ k,x.root?=some (.cell p k)→∀ s l,cs'[k]?=some (.row s l)→(∃ l0,bx.cs[k]?=some (.row s l0))∧arr'[k]?=arr[k]?))
  (hro:∀ b,T b=.ro→T' b=.ro) (hbox:∀ b q,T b=.box q→T' b=.box q) (hoth:∀ b,T b=.other→T' b=.other) (acj:∀ b t s l,st.slots[t]?=some (.row s l)→T b=.row (.slot t)→T' b=.row (.slot t)) (hpart:∀ {k:Bool} (b t i:Nat) l,st.slots[t]?=some (.lU k l)→T b=.row (.part t i)→T' b=.row (.part t i))
  (hcell:∀ b q k,q≠p→T b=.row (.cell q k)→T' b=.row (.cell q k)) :
  aV L σ T' { st with slots:=st.slots.map g,boxes:=st.boxes.set p { bx with cs:=cs' } } a (w.setRow (σ p) arr')∧zQ T T w (w.setRow (σ p) arr'):=by
 have hT:T (σ p)=.box p:=by obtain ⟨_,_,_,_,h3,_⟩:=h.boxes p bx hb;rw [h3,hf];rfl
 have hne:∀ b q,q≠.box p→T b=q→(w.setRow (σ p) arr').heap[b]?=w.heap[b]?:=fun b q hq e=>setRow_other w (σ p) b arr' (fun e2=>by subst e2;rw [hT] at e;exact hq e.symm)
 have hw:∀ b,T b=.ro→b<w.heap.size→T' b=.ro∧(w.setRow (σ p) arr').heap[b]?=w.heap[b]?:=fun b e _=>⟨hro b e,hne b _ (by simp) e⟩
 have hsz:(w.setRow (σ p) arr').heap.size=w.heap.size:=by simp [World.setRow]
 have hpl:p<st.boxes.length:=(Z6.1 hb).1
 have hoq:∀ q bq,q≠p→st.boxes[q]?=some bq→(w.setRow (σ p) arr').heap[σ q]?=w.heap[σ q]?:=fun q bq hqp hq=>by
  obtain ⟨_,_,_,_,h3,_⟩:=h.boxes q bq hq
  refine hne _ _ ?_ h3
  split
  ·simp
  ·intro e;cases e;exact hqp rfl
 refine ⟨⟨by simp [h.size],fun t x u hx hu=>?_,fun q bq hq=>?_,fun b hb'=>hoth b (h.fresh b (by omega))⟩,⟨by omega,rfl,rfl,rfl,fun b _ e=>?_,fun _ e=>e,fun _ _ e=>e⟩⟩
 ·obtain ⟨z,hz,rfl⟩:=qL hx
  rcases hg z with e|⟨e,hroot⟩
  ·rw [e];trivial
  ·rw [e]
   refine (h.slots t z u hz hu).keep hw (fun s l e b e2 _=>⟨acj b t s l (by rw [hz,e]) e2,hne b _ (by simp) e2⟩) (fun l e i _ b e2 _=>⟨hpart b t i l (by rw [hz,e]) e2,hne b _ (by simp) e2⟩) (fun r hr _ s l e=>?_) (by simp) (fun _ _=>rfl)
   cases r with
   |slot t' =>
    have e2:=fZ e
    obtain ⟨z',hz',hg'⟩:=qL (show (st.slots.map g)[t']?=_ from e2)
    rcases hg z' with e3|⟨e3,_⟩
    ·rw [e3] at hg';cases hg'
    ·rw [e3] at hg';subst hg'
     exact ⟨⟨l,by simp [St.row,hz']⟩,rfl⟩
   |part t' i=>simp [St.row] at e
   |cell q k =>
    obtain ⟨bq,h1,h2,h3⟩:=dZ e
    simp only [zp] at h1
    by_cases hqp:p=q
    ·subst hqp
     simp only [if_true,if_pos hpl,ZD.injEq] at h1
     subst h1
     obtain ⟨⟨l0,g1⟩,g2⟩:=hroot k hr s l h3
     refine ⟨⟨l0,by simp [St.row,hb,hf,g1]⟩,?_⟩
     simp only [hdr]
     rw [cell_of_row _ (σ p) k arr' E (0,0) (setRow_heap w (σ p) arr arr' E (0,0) ha),cell_of_row w (σ p) k arr E (0,0) ha,g2]
    ·rw [if_neg hqp] at h1
     refine ⟨⟨l,by simp [St.row,h1,h2,h3]⟩,?_⟩
     exact World.cell?_of_block (w:=w) (a:=⟨σ q,k,none⟩) (hoq q bq (Ne.symm hqp) h1)
 ·simp only [zp] at hq
  by_cases hqp:p=q
  ·subst hqp
   simp only [if_true,if_pos hpl,ZD.injEq] at hq
   subst hq
   obtain ⟨xP,E0,h1,h2,h3,_⟩:=h.boxes p bx hb
   rw [ha] at h1;cases h1
   refine ⟨arr',E,setRow_heap w (σ p) arr arr' E (0,0) ha,by simp [hs,h2,hl],?_,by simp [hf],fun k bv u hk hu=>hrep k bv u hk hu⟩
   simp only [hf,zg,if_false]
   exact hbox _ _ hT
  ·rw [if_neg hqp] at hq
   have hbq:=h.boxes q bq hq
   have hT':T' (σ q)=T (σ q):=by
    obtain ⟨_,_,_,_,h3,_⟩:=hbq
    rw [h3];split
    ·rename_i hf;exact hro _ (by rw [h3,if_pos hf])
    ·rename_i hf;exact hbox _ _ (by rw [h3,if_neg hf])
   exact hbq.frame ⟨hT',hoq q bq (Ne.symm hqp) hq⟩ (fun j b e _=>⟨hcell b q j (Ne.symm hqp) e,hne b _ (by simp) e⟩) hw
 ·rcases e with e|e
  ·exact hne b .ro (by simp) e
  ·exact hne b .other (by simp) e
theorem KA {T0:TypeId}{p j:Nat}(h:aV L σ T st a w)(hd:o.dst=none)(ho:o.op=.store T0 y y2)(hm:bf y x=true)(hm2:bf y2 x2=true)(hs:iZ P T0=some n){v:PV}{own:Bool}(h1:st.consume x2=some (v,own,st1))(h2:st1.get x=.aO p j)
  {bx:Box} (h3:st1.boxes[p]?=some bx) (hf:bx.fz=false) (h5:v.cells.length=n) (h6:j+n≤bx.cs.length) :
  (own=false→Does P L σ T st.boxes.length { st1 with boxes:=st1.boxes.set p { bx with cs:=bx.cs.take j++v.cells.map .pv++bx.cs.drop (j+n) } } a w o false) ∧
  (∀ sz es,own=true→v=.list sz es→Does P L σ T st.boxes.length (st1.kR p j sz es) a w o false):=by
 obtain ⟨T1,k1,k2,k3,k4,k5⟩:=h.consume hm2 h1
 obtain ⟨_,hp2⟩:=k1.aO hm h2
 obtain ⟨arr,E,b1,b2,b3,b4,b5⟩:=k1.boxes p bx h3
 -- the values' cells,whatever they are
 have an6:(∀ u∈(a.eval y2).cells.toList,u.oneCell'=true)∧(a.eval y2).cells.size=v.cells.length:=by
  cases own with
  |false=>have hc:=(k4 rfl).cells;exact ⟨hc.mem1.1,hc.size⟩
  |true =>
   obtain ⟨sz,es,m,rfl,_,q⟩:=k5 rfl
   obtain ⟨xa,c,e,_⟩:=q.slice
   rw [e];exact ⟨fun u hu=>by simp [Value.cells] at hu;subst hu;rfl,rfl⟩
 obtain ⟨c1,c2⟩:=an6
 have hfit:j+(a.eval y2).cells.size≤arr.size:=by rw [c2,h5,b2];exact h6
 have hrun:=jT (P:=P) (T0:=T0) (w:=w) (b:=σ p) (off:=j) (tb:=E) (v:=a.eval y2) (arr:=arr) (by rw [hs,c2,h5]) b1 hfit c1
 obtain ⟨arr',harr⟩:∃ arr',arr'=(arr.toList.take j++(a.eval y2).cells.toList++arr.toList.drop (j+(a.eval y2).cells.toList.length)).toArray:=⟨_,rfl⟩
 rw [← harr] at hrun
 have hlen:(a.eval y2).cells.toList.length=n:=by rw [ZaA,c2,h5]
 have hget:∀ k,arr'[k]?=if j≤k∧k<j+n then (a.eval y2).cells[k - j]? else arr[k]?:=fun k=>by
  rw [harr,ZaL,jS (by rw [hlen];simpa [b2] using h6),hlen]
  simp
 have hsz:arr'.size=arr.size:=by rw [harr];simp only [ZaX,Zaa,Zac,Zbe,ZaA,hlen];rw [ZaA] at hlen;omega
 have hold:∀ k,σ k≠σ k→False:=fun k h=>h rfl
 have hother:∀ q,q≠.box p→∀ b,T1 b=q→(w.setRow (σ p) arr').heap[b]?=w.heap[b]?:=fun q hq b e=>setRow_other w (σ p) b arr' (fun e2=>by subst e2;rw [b3,hf] at e;exact hq e.symm)
 refine ⟨fun hown=>?_,fun sz es hown hv=>?_⟩
 ·have hc:=(k4 hown).cells
  have hgo:=k1.Hg (T':=T1) (cs':=bx.cs.take j++v.cells.map .pv++bx.cs.drop (j+n)) (arr':=arr') id h3 hf b1 (by simp [h5];omega) hsz (fun k bv u hk hu=>?_) (fun x=>.inr ⟨rfl,fun k _ s l hk=>?_⟩) (fun _ e=>e) (fun _ _ e=>e) (fun _ e=>e) (fun _ _ _ _ _ e=>e) (fun _ _ _ _ _ e=>e) (fun _ _ _ _ e=>e)
  ·obtain ⟨s1,s2⟩:=hgo
   rw [List.map_id] at s1
   exact ⟨_,undef,_,σ,T1,run_store ho hp2 rfl hrun,.inr ⟨rfl,rfl⟩,by rw [hd];exact s1,(k2.pV w).trans s2,fun _ _=>rfl,fun e=>by cases e⟩
  ·have hml:(v.cells.map BV.pv).length=n:=by simp [h5]
   have hk2:=jS (cs:=bx.cs) (new:=v.cells.map BV.pv) (off:=j) (by rw [hml];exact h6) k
   rw [hml] at hk2
   rw [hk2] at hk
   rw [hget] at hu
   split at hk
   ·rename_i hin
    rw [if_pos hin] at hu
    rw [zb] at hk
    cases e:v.cells[k - j]? with
    |none=>rw [e] at hk;cases hk
    |some x=>rw [e] at hk;cases hk;exact ⟨hc.one _ u hu,(hc.rep _ x u e hu).frame fun b e _=>⟨e,hother _ (by simp) b e⟩⟩
   ·rename_i hin
    rw [if_neg hin] at hu
    obtain ⟨g1,g2⟩:=b5 k bv u hk hu
    exact ⟨g1,g2.frame (fun b e _=>⟨e,hother _ (by simp) b e⟩) (fun b e _=>⟨e,hother _ (by simp) b e⟩)⟩
  ·have hml:(v.cells.map BV.pv).length=n:=by simp [h5]
   have hk2:=jS (cs:=bx.cs) (new:=v.cells.map BV.pv) (off:=j) (by rw [hml];exact h6) k
   rw [hml] at hk2
   rw [hk2] at hk
   split at hk
   ·rw [zb] at hk
    cases e:v.cells[k - j]? with
    |none=>rw [e] at hk;cases hk
    |some x=>rw [e] at hk;cases hk
   ·rename_i hin
    exact ⟨⟨l,hk⟩,by rw [hget,if_neg hin]⟩
 ·subst hv
  obtain ⟨sz',es',m,e1,hfree,hrow⟩:=k5 hown
  cases e1
  have hn1:n=1:=by rw [← h5];rfl
  obtain ⟨xa,c,e1,_⟩:=hrow.slice
  have hst:st1.kR p j sz es={ st1 with slots:=st1.slots.map (AV.iU p j),boxes:=st1.boxes.set p { bx with cs:=bx.cs.set j (.row sz es) } }:=by simp [St.kR,St.setCell,h3]
  rw [hst]
  have hgo:=k1.Hg (T':=moved T1 (.slot m) (.cell p j)) (cs':=bx.cs.set j (.row sz es)) (arr':=arr') (AV.iU p j) h3 hf b1 (by simp) hsz (fun k bv u hk hu=>?_) (fun x=>?_) (fun _ e=>iI e) (fun _ _ e=>oL e) (fun _ e=>kU e)
   (fun b t s l ht e=>dQ (fun e2=>by cases e2;exact hfree s l ht) (by simp) e) (fun _ _ _ _ _ e=>dQ (by simp) (by simp) e) (fun b q k hq e=>dQ (by simp) (fun e2=>by cases e2;exact hq rfl) e)
  ·obtain ⟨s1,s2⟩:=hgo
   exact ⟨_,undef,_,σ,_,run_store ho hp2 rfl hrun,.inr ⟨rfl,rfl⟩,by rw [hd];exact s1,(k2.pV w).trans (s2.trans ((Still.moved T1 _ _).pV _)),fun _ _=>rfl,fun e=>by cases e⟩
  ·rw [zp] at hk
   rw [hget] at hu
   split at hk
   ·rename_i hkj
    subst hkj
    split at hk
    ·cases hk
     rw [if_pos (by omega),Nat.sub_self,e1] at hu
     have hu:(Value.slice xa es.length c)=u:=by simpa [Value.cells] using hu
     subst hu
     rw [e1] at hrow
     exact ⟨rfl,aW.frame (fun b e _=>⟨rD e,hother _ (by simp) b e⟩) (fun b e _=>⟨iI e,hother _ (by simp) b e⟩) hrow⟩
    ·cases hk
   ·rename_i hkj
    rw [if_neg (by omega)] at hu
    obtain ⟨g1,g2⟩:=b5 k bv u hk hu
    refine ⟨g1,g2.frame (fun b e _=>⟨dQ (by simp) (by simpa using Ne.symm hkj) e,hother _ (by simp) b e⟩) (fun b e _=>⟨iI e,hother _ (by simp) b e⟩)⟩
  ·rcases NJ p j x with e|⟨e,hne⟩
   ·exact .inl e
   ·refine .inr ⟨e,fun k hr s l hk=>?_⟩
    have hkj:j≠k:=fun e2=>hne (by rw [hr,e2])
    rw [zp,if_neg hkj] at hk
    exact ⟨⟨l,hk⟩,by rw [hget,if_neg (by omega)]⟩
def iD (T:Tags)(m p j:Nat):Tags:=fun b=>match T b with
 |.row (.part t i)=>if t=m then .row (.cell p (j+i)) else .row (.part t i)
 |q=>q
theorem EH {ok:Nat→Prop}{v:PV}{u:Value}(h:aA ok w v u)(hs:v.single=true):u.oneCell'=true:=by
 cases h<;>first|rfl|assumption|(simp [PV.single] at hs)
theorem yX:∀ {l:List AV} {cs:List BV},tC l=some cs→cs.length=l.length∧∀ (k:Nat) bv,cs[k]?=some bv→(∃ v,bv=.pv v∧l[k]?=some (.pv v)∧v.single=true)∨∃ sz es,bv=.row sz es∧l[k]?=some (.row sz es)
 |[],cs,h=>by cases h;exact ⟨rfl,fun k bv hk=>by simp at hk⟩
 |.pv v::l,cs,h=>by
  simp only [tC] at h
  split at h
  case isFalse=>cases h
  rename_i hs
  obtain ⟨cs',h1,rfl⟩:=Zat.1 h
  obtain ⟨k1,k2⟩:=yX h1
  refine ⟨by simp [k1],fun k bv hk=>?_⟩
  cases k with
  |zero=>cases hk;exact .inl ⟨v,rfl,rfl,hs⟩
  |succ k=>exact k2 k bv hk
 |.row sz es::l,cs,h=>by
  simp only [tC] at h
  obtain ⟨cs',h1,rfl⟩:=Zat.1 h
  obtain ⟨k1,k2⟩:=yX h1
  refine ⟨by simp [k1],fun k bv hk=>?_⟩
  cases k with
  |zero=>cases hk;exact .inr ⟨sz,es,rfl,rfl⟩
  |succ k=>exact k2 k bv hk
 |.ref ..::_,_,h|.aO ..::_,_,h|.qx ..::_,_,h|.fn ..::_,_,h|.lU ..::_,_,h|.tq::_,_,h|.any::_,_,h=>by simp [tC] at h
theorem acD {T0:TypeId}{p j m:Nat}(h:aV L σ T st a w)(hd:o.dst=none)(ho:o.op=.store T0 y y2)(hm:bf y x=true)(hm2:bf y2 (.t m)=true)(hs:iZ P T0=some n){l:List AV}(h1:st.slots.getD m .any=.lU true l)(h2:(st.put m .any).get x=.aO p j)
  {bx:Box} (h3:st.boxes[p]?=some bx) (hf:bx.fz=false) {cs:List BV} (hcs:tC l=some cs) (h5:l.length=n) (h6:j+n≤bx.cs.length) :
  Does P L σ T st.boxes.length { (st.put m .any) with slots:=(st.put m .any).slots.map (AV.dH p),boxes:=st.boxes.set p { bx with cs:=bx.cs.take j++cs++bx.cs.drop (j+n) } } a w o false:=by
 have e0:st.get (.t m)=.lU true l:=h1
 obtain ⟨t,e1,hA,hB,Bh,g1,g2,g3⟩:=h.at hm2 e0 (by simp) (by simp) (by simp)
 cases e1
 replace g1:a.eval y2=Value.agg Bh:=g1
 have k1:=h.forget m
 obtain ⟨_,hp2⟩:=k1.aO hm h2
 obtain ⟨arr,E,b1,b2,b3,b4,b5⟩:=k1.boxes p bx h3
 obtain ⟨cl,cg⟩:=yX hcs
 have hsz2:Bh.size=n:=by omega
 have hone:∀ (k:Nat) u,Bh[k]?=some u→u.oneCell'=true:=fun k u hu=>by
  have hk:k<cs.length:=by have:=(zz.1 hu).1;omega
  rcases cg k cs[k] (ZS hk) with ⟨v,_,e2,e3⟩|⟨sz,es,_,e2⟩
  ·exact EH (g3 k _ u e2 hu) e3
  ·obtain ⟨xa,c,e,_⟩:=aW.slice (g3 k _ u e2 hu)
   rw [e];rfl
 have c2:(a.eval y2).cells.size=n:=by rw [g1];exact hsz2
 have c1:∀ u∈(a.eval y2).cells.toList,u.oneCell'=true:=fun u hu=>by
  rw [g1] at hu
  obtain ⟨k,hk⟩:=ZaZ.1 hu
  exact hone k u (by simpa [Value.cells] using hk)
 have hfit:j+(a.eval y2).cells.size≤arr.size:=by rw [c2,b2];exact h6
 have hrun:=jT (P:=P) (T0:=T0) (w:=w) (b:=σ p) (off:=j) (tb:=E) (v:=a.eval y2) (arr:=arr) (by rw [hs,c2]) b1 hfit c1
 obtain ⟨arr',harr⟩:∃ arr',arr'=(arr.toList.take j++(a.eval y2).cells.toList++arr.toList.drop (j+(a.eval y2).cells.toList.length)).toArray:=⟨_,rfl⟩
 rw [← harr] at hrun
 have hlen:(a.eval y2).cells.toList.length=n:=by rw [ZaA,c2]
 have hget:∀ k,arr'[k]?=if j≤k∧k<j+n then (a.eval y2).cells[k - j]? else arr[k]?:=fun k=>by
  rw [harr,ZaL,jS (by rw [hlen];simpa [b2] using h6),hlen]
  simp
 have hsz:arr'.size=arr.size:=by rw [harr];simp only [ZaX,Zaa,Zac,Zbe,ZaA,hlen];rw [ZaA] at hlen;omega
 have hother:∀ q,q≠.box p→∀ b,T b=q→(w.setRow (σ p) arr').heap[b]?=w.heap[b]?:=fun q hq b e=>setRow_other w (σ p) b arr' (fun e2=>by subst e2;rw [b3,hf] at e;exact hq e.symm)
 have mro:∀ b,T b=.ro→iD T m p j b=.ro:=fun b e=>by simp [iD,e]
 have ajV:∀ b q k,T b=.row (.cell q k)→iD T m p j b=.row (.cell q k):=fun b q k e=>by simp [iD,e]
 have hgo:=k1.Hg (T':=iD T m p j) (cs':=bx.cs.take j++cs++bx.cs.drop (j+n)) (arr':=arr') (AV.dH p) h3 hf b1 (by simp [cl,h5];omega) hsz (fun k bv u hk hu=>?_) (fun x=>?_) mro (fun _ _ e=>by simp [iD,e]) (fun _ e=>by simp [iD,e])
  (fun b t s l ht e=>by simp [iD,e]) (fun b t i l ht e=>?_) (fun b q k hq e=>ajV b q k e)
 ·obtain ⟨s1,s2⟩:=hgo
  exact ⟨_,undef,_,σ,_,run_store ho hp2 rfl hrun,.inr ⟨rfl,rfl⟩,by rw [hd];exact s1,s2.trans (Still.pV ⟨mro,fun b e=>by simp [iD,e]⟩ _),fun _ _=>rfl,fun e=>by cases e⟩
 ·have hml:cs.length=n:=by omega
  have hk2:=jS (cs:=bx.cs) (new:=cs) (off:=j) (by rw [hml];exact h6) k
  rw [hml] at hk2
  rw [hk2] at hk
  rw [hget] at hu
  split at hk
  ·rename_i hin
   rw [if_pos hin,g1] at hu
   have hu:Bh[k - j]?=some u:=hu
   refine ⟨hone _ u hu,?_⟩
   rcases cg (k - j) bv hk with ⟨v,rfl,e2,e3⟩|⟨sz,es,rfl,e2⟩
   ·exact aA.frame (fun b e _=>⟨mro b e,hother _ (by simp) b e⟩) (g3 _ _ u e2 hu)
   ·have hjk:j+(k - j)=k:=by omega
    exact aW.frame (fun b e _=>⟨by simp [iD,e,hjk],hother _ (by simp) b e⟩) (fun b e _=>⟨mro b e,hother _ (by simp) b e⟩) (g3 _ _ u e2 hu)
  ·rename_i hin
   rw [if_neg hin] at hu
   obtain ⟨q1,q2⟩:=b5 k bv u hk hu
   exact ⟨q1,q2.frame (fun b e _=>⟨ajV b _ _ e,hother _ (by simp) b e⟩) (fun b e _=>⟨mro b e,hother _ (by simp) b e⟩)⟩
 ·rcases xI p x with e|⟨e,hne⟩
  ·exact .inl e
  ·exact .inr ⟨e,fun k hr=>absurd hr (hne k)⟩
 ·have htm:t≠m:=fun e=>by
   subst e
   simp only [St.put,zp,if_true] at ht
   split at ht<;>cases ht
  simp [iD,e,htm]
theorem acE {T0:TypeId}{p j m:Nat}(h:aV L σ T st a w)(hd:o.dst=none)(ho:o.op=.store T0 y y2)(hm:bf y x=true)(hm2:bf y2 (.t m)=true)(hs:iZ P T0=some n){zs:List PV}(h1:st.slots.getD m .any=.pv (.agg zs))(h2:st.get x=.aO p j)
  {bx:Box} (h3:st.boxes[p]?=some bx) (hf:bx.fz=false) (h5:zs.length=n) (h6:j+n≤bx.cs.length) :
  Does P L σ T st.boxes.length { st with slots:=st.slots.map (AV.dH p),boxes:=st.boxes.set p { bx with cs:=bx.cs.take j++zs.map sBV++bx.cs.drop (j+n) } } a w o false:=by
 have h0:st.consume (.t m)=some (.agg zs,false,st):=by simp only [St.consume];rw [h1]
 obtain ⟨T1,k1,k2,k3,k4,k5⟩:=h.consume hm2 h0
 obtain ⟨_,hp2⟩:=k1.aO hm h2
 obtain ⟨arr,E,b1,b2,b3,b4,b5⟩:=k1.boxes p bx h3
 have hc:=(k4 rfl).cells
 have c1:∀ u∈(a.eval y2).cells.toList,u.oneCell'=true:=hc.mem1.1
 have c2:(a.eval y2).cells.size=n:=by rw [hc.size];exact h5
 have hfit:j+(a.eval y2).cells.size≤arr.size:=by rw [c2,b2];exact h6
 have hrun:=jT (P:=P) (T0:=T0) (w:=w) (b:=σ p) (off:=j) (tb:=E) (v:=a.eval y2) (arr:=arr) (by rw [hs,c2]) b1 hfit c1
 obtain ⟨arr',harr⟩:∃ arr',arr'=(arr.toList.take j++(a.eval y2).cells.toList++arr.toList.drop (j+(a.eval y2).cells.toList.length)).toArray:=⟨_,rfl⟩
 rw [← harr] at hrun
 have hlen:(a.eval y2).cells.toList.length=n:=by rw [ZaA,c2]
 have hget:∀ k,arr'[k]?=if j≤k∧k<j+n then (a.eval y2).cells[k - j]? else arr[k]?:=fun k=>by
  rw [harr,ZaL,jS (by rw [hlen];simpa [b2] using h6),hlen]
  simp
 have hsz:arr'.size=arr.size:=by rw [harr];simp only [ZaX,Zaa,Zac,Zbe,ZaA,hlen];rw [ZaA] at hlen;omega
 have hother:∀ q,q≠.box p→∀ b,T1 b=q→(w.setRow (σ p) arr').heap[b]?=w.heap[b]?:=fun q hq b e=>setRow_other w (σ p) b arr' (fun e2=>by subst e2;rw [b3,hf] at e;exact hq e.symm)
 have hgo:=k1.Hg (T':=T1) (cs':=bx.cs.take j++zs.map sBV++bx.cs.drop (j+n)) (arr':=arr') (AV.dH p) h3 hf b1 (by simp [h5];omega) hsz (fun k bv u hk hu=>?_) (fun x=>?_) (fun _ e=>e) (fun _ _ e=>e) (fun _ e=>e) (fun _ _ _ _ _ e=>e) (fun _ _ _ _ _ e=>e) (fun _ _ _ _ e=>e)
 ·obtain ⟨s1,s2⟩:=hgo
  exact ⟨_,undef,_,σ,T1,run_store ho hp2 rfl hrun,.inr ⟨rfl,rfl⟩,by rw [hd];exact s1,(k2.pV w).trans s2,fun _ _=>rfl,fun e=>by cases e⟩
 ·have hml:(zs.map sBV).length=n:=by simp [h5]
  have hk2:=jS (cs:=bx.cs) (new:=zs.map sBV) (off:=j) (by rw [hml];exact h6) k
  rw [hml] at hk2
  rw [hk2] at hk
  rw [hget] at hu
  split at hk
  ·rename_i hin
   rw [if_pos hin] at hu
   rw [zb] at hk
   cases e:zs[k - j]? with
   |none=>rw [e] at hk;cases hk
   |some z =>
    rw [e] at hk
    have hr:aA _ w z u:=hc.rep _ z u e hu
    cases hk
    by_cases hnl:∃ sz,z=.l9 sz
    ·obtain ⟨sz,rfl⟩:=hnl
     cases hr with
     |l9 _ xa=>exact ⟨rfl,.inl ⟨rfl,xa,rfl⟩⟩
    ·have ez:sBV z=.pv z:=by cases z<;>first|rfl|exact absurd ⟨_,rfl⟩ hnl
     rw [ez]
     exact ⟨hc.one _ u hu,hr.frame fun b e _=>⟨e,hother _ (by simp) b e⟩⟩
  ·rename_i hin
   rw [if_neg hin] at hu
   obtain ⟨g1,g2⟩:=b5 k bv u hk hu
   exact ⟨g1,g2.frame (fun b e _=>⟨e,hother _ (by simp) b e⟩) (fun b e _=>⟨e,hother _ (by simp) b e⟩)⟩
 ·rcases xI p x with e|⟨e,hne⟩
  ·exact .inl e
  ·exact .inr ⟨e,fun k hr=>absurd hr (hne k)⟩
end
section
variable {P:Program}{L:Nat}{σ σ':Nat→Nat}{T T':Tags}{st st' st1:St}{a:Act}{w w1:World}{o:Oper}{d n:Nat}{x x2:bU}{y y2:Operand}
end
section
variable {P:Program}{L:Nat}{σ σ':Nat→Nat}{T T':Tags}{st st' st1:St}{a:Act}{w w1:World}{o:Oper}{d n:Nat}{x x2:bU}{y y2:Operand}{ok:Nat→Prop}{sz:Nat}{es es' ys:List PV}{xs zs:List Value}
 {rec:ay→St→Option (Ex×St)} {env:Env}
theorem aV.fC:∀ {ys:List Operand} {xs:List bU} {T:Tags} {st st1:St} {vs:List PV},aV L σ T st a w→oP ys xs=true→fC st xs=some (vs,st1)→∃ T',aV L σ T' st1 a w∧Still T T'∧st1.boxes.length=st.boxes.length∧vs.length=ys.length ∧
  ∀ (k:Nat) v y,vs[k]?=some v→ys[k]?=some y→aA (fun b=>T' b=.ro) w v (a.eval y)
 |[],[],T,st,st1,vs,h,_,hc=>by
  simp only [Go.Proofs.YtioijcfcehhmdaaGreatDoor.fC,ZD.injEq,ZaD.injEq] at hc
  obtain ⟨rfl,rfl⟩:=hc
  exact ⟨T,h,Still.refl T,rfl,rfl,fun k v y hv=>by simp at hv⟩
 |[],_::_,_,_,_,_,_,hm,_=>by simp [oP] at hm
 |_::_,[],_,_,_,_,_,hm,_=>by simp [oP] at hm
 |y::ys,x::xs,T,st,st1,vs,h,hm,hc=>by
  simp only [oP,ZZ] at hm
  simp only [Go.Proofs.YtioijcfcehhmdaaGreatDoor.fC] at hc
  obtain ⟨⟨v,own,st2⟩,h1,hc1⟩:=bind_some hc
  obtain ⟨⟨vs',st3⟩,h2,hc2⟩:=bind_some hc1
  simp only [ZD.injEq,ZaD.injEq] at hc2
  obtain ⟨rfl,rfl⟩:=hc2
  obtain ⟨T1,k1,k2,k3,k4⟩:=h.G7 hm.1 h1
  obtain ⟨T2,q1,q2,q3,q4,q5⟩:=aV.fC k1 hm.2 h2
  refine ⟨T2,q1,k2.trans q2,q3.trans k3,by simp [q4],fun k v' y' hv hy=>?_⟩
  cases k with
  |zero =>
   simp only [Zak,ZD.injEq] at hv hy
   subst hv;subst hy
   exact k4.frame fun b hb _=>⟨q2.ro b hb,rfl⟩
  |succ k=>exact q5 k v' y' (by simpa using hv) (by simpa using hy)
theorem Rx {place:Nat→Option (Nat×Nat)}(hpl:∀ i,place i=some (i*sz,sz)):∀ (us:List Value) (vs:List PV) (k:Nat) (arr:Array Value),us.length=vs.length→(∀ (i:Nat) u v,us[i]?=some u→vs[i]?=some v→aA ok w v u∧v.cells.length=sz)→(k+us.length)*sz≤arr.size →
  ∃ arr',Instr.fill place arr ((us.zipIdx k).map fun p=>(p.2,p.1))=some arr'∧arr'.size=arr.size∧(∀ p,p<k*sz→arr'[p]?=arr[p]?)∧∀ i e j x,vs[i]?=some e→e.cells[j]?=some x→∃ u,arr'[(k+i)*sz+j]?=some u∧u.oneCell'=true∧aA ok w x u
 |[],vs,k,arr,hl,_,_=>⟨arr,rfl,rfl,fun _ _=>rfl,fun i e j x hi=>by cases vs<;>simp at hl hi⟩
 |u::us,[],k,arr,hl,_,_=>by simp at hl
 |u::us,v::vs,k,arr,hl,hp,hs=>by
  obtain ⟨h1,h2⟩:=hp 0 u v rfl rfl
  have hc:=h1.cells
  have hcs:u.cells.size=sz:=by rw [hc.size,h2]
  have hks:k*sz+sz≤arr.size:=by
   have:(k+1)*sz≤(k+(us.length+1))*sz:=Zam _ (by omega)
   rw [ZaC,Nat.one_mul] at this
   simp at hs;omega
  have e0:(u.cells.zipIdx).foldl (fun cs (p:Value×Nat)=>cs.setIfInBounds (k*sz+p.2) p.1) arr=(u.cells.toList.zipIdx 0).foldl (fun cs (p:Value×Nat)=>cs.setIfInBounds (k*sz+p.2) p.1) arr:=by
   rw [← Array.foldl_toList,Array.toList_zipIdx]
  have hget:=foldl_set arr (k*sz) u.cells.toList 0 arr (by simp [hcs];omega)
  obtain ⟨arr',g1,g2,g3,g4⟩:=Rx hpl us vs (k+1) ((u.cells.toList.zipIdx 0).foldl (fun cs (p:Value×Nat)=>cs.setIfInBounds (k*sz+p.2) p.1) arr) (by simpa using hl) (fun i u' v' hu hv=>hp (i+1) u' v' (by simpa using hu) (by simpa using hv)) (by rw [vV];simp at hs;rw [show k+1+us.length=k+(us.length+1) by omega];exact hs)
  refine ⟨arr',?_,by rw [g2,vV],fun p hp'=>?_,fun i e j x hi hj=>?_⟩
  ·simp only [ZcD,Zaj,Instr.fill,hpl]
   rw [if_neg (by simp [hcs];omega)]
   exact (congrArg (fun c=>Instr.fill place c _) e0).trans g1
  ·rw [g3 p (by rw [ZaC];omega),hget,if_neg (by omega)]
  ·cases i with
   |zero =>
    simp only [Zak,ZD.injEq] at hi
    subst hi
    have hj':j<sz:=by rw [← h2];exact (Z6.1 hj).1
    have e2:u.cells[j]?=some u.cells[j]:=zj (by omega)
    refine ⟨u.cells[j],?_,hc.one j _ e2,hc.rep j x _ hj e2⟩
    rw [Za1,g3 _ (by rw [ZaC];omega),hget,if_pos ⟨by omega,by simp [hcs];omega⟩,show k*sz+j - (k*sz+0)=j by omega]
    simpa using e2
   |succ i =>
    obtain ⟨u',q1,q2,q3⟩:=g4 i e j x (by simpa using hi) hj
    exact ⟨u',by rw [show k+(i+1)=k+1+i by omega];exact q1,q2,q3⟩
def numbered:Nat→List (Nat×Operand)→Bool
 |_,[]=>true
 |k,(i,_)::l=>i==k&&numbered (k+1) l
theorem EI:∀ {k:Nat} {l:List (Nat×Operand)},numbered k l=true→(l.map fun p=>(p.1,a.eval p.2))=((l.map fun p=>a.eval p.2).zipIdx k).map fun p=>(p.2,p.1)
 |_,[],_=>rfl
 |k,(i,y)::l,h=>by
  simp only [numbered,ZZ,beq_iff_eq] at h
  simp only [Zaj,ZcD,EI h.2,h.1]
theorem ZP {T0 len:Nat}{l:List (Nat×Operand)}{xs:List bU}(h:aV L σ T st a w)(hd:o.dst=some d)(ho:o.op=.buildSlice T0 len l.toArray)(hm:oP (l.map (·.2)) xs=true)(hn:numbered 0 l=true)(hlen:len=l.length)(he:uz P T0 sz=true)(hlim:len*sz≤16777216)
  (hp:act rec env (.iH d sz xs) st=some st'):Does P L σ T st.boxes.length st' a w o true:=by
 simp only [act] at hp
 obtain ⟨⟨vs,st1⟩,h1,hp1⟩:=bind_some hp
 clear hp
 simp only at hp1
 split at hp1
 case isFalse=>cases hp1
 rename_i hall
 have hp:=ZD.inj hp1
 clear hp1
 subst hp
 obtain ⟨e,i,z,g1,g2,g3,g4,g5,g6,g7⟩:=yV he
 obtain ⟨T1,k1,k2,k3,k4,k5⟩:=h.fC hm h1
 have an7:∀ v∈vs,v.cells.length=sz:=fun v hv=>by have:=zE.1 hall v hv;exact beq_iff_eq.1 this
 obtain ⟨ahk,Yx⟩:∃ ahk:Array Value,ahk=(if len*sz=0 then #[] else z.cells):=⟨_,rfl⟩
 obtain ⟨xP,LH⟩:∃ xP,xP=(Array.range (len*sz)).map (ahk[· % ahk.size]!):=⟨_,rfl⟩
 have hvl:vs.length=l.length:=by simpa using k4
 obtain ⟨arr,q1,q2,q3,q4⟩:=Rx (ok:=fun b=>T1 b=.ro) (w:=w) (sz:=sz) (place:=fun i=>some (i*sz,sz)) (fun _=>rfl) (l.map fun p=>a.eval p.2) vs 0 xP (by simp [hvl]) (fun i u v hu hv=>by
  rw [zb] at hu
  cases e:l[i]? with
  |none=>rw [e] at hu;cases hu
  |some p =>
   rw [e] at hu;cases hu
   exact ⟨k5 i v p.2 hv (by rw [zb,e];rfl),an7 v (Zab hv)⟩) (by rw [LH];simp [hlen])
 rw [← EI hn] at q1
 have hrun:(Instr.buildSlice T0 len (l.map fun p=>(p.1,a.eval p.2)).toArray).run P w=.ok (.slice (some ⟨w.heap.size,0,none⟩) len len) (w.alloc (.cells arr e)):=by
  have hl2:¬ (len*sz > 2 ^ 24):=by omega
  unfold Instr.buildSlice
  simp only [Sem.run_bind,run_underlying g1,Result.andThen_ok,pW (P:=P) (T:=e) (n:=sz) (by simp [iZ,g2,g3]),if_neg hl2,Sem.run_pure]
  by_cases h0:len*sz=0
  ·rw [if_pos h0] at Yx
   rw [if_pos h0]
   simp only [Sem.run_bind,Sem.run_pure,Result.andThen_ok]
   rw [Yx] at LH
   rw [← LH,q1]
   simp [newRow,newObj,Sem.run]
   try rfl
  ·rw [if_neg h0] at Yx
   rw [if_neg h0]
   simp only [Sem.run_bind,Sem.run_pure,Result.andThen_ok,zeroValue,typeInfo,program,Sem.run,g2,g5]
   rw [Yx] at LH
   rw [← LH,q1]
   simp [newRow,newObj,Sem.run]
   try rfl
 refine ⟨_,.slice (some ⟨w.heap.size,0,none⟩) len len,w.alloc (.cells arr e),σ,upd T1 w.heap.size (.row (.slot d)),?_,.inl rfl,?_,(k2.pV w).trans (mW (k1.fresh _ (ze _)) _ _),fun _ _=>rfl,fun _=>kW _ _⟩
 ·simp only [execOp,ho,List.map_toArray]
  simp [hrun]
 ·rw [hd]
  have hsz:arr.size=len*sz:=by rw [q2,LH];simp
  have key:=k1.Rt (d:=d) (sz:=sz) (c:=len) (E:=e) (es:=vs) (arr:=arr) hsz (by omega) (zr (Nat.le_mul_of_pos_right _ g4) (by unfold maxLen;omega)) an7 (fun i e j x hi hj=>by have:=q4 i e j x hi hj;rwa [Zan] at this)
  rw [hvl,← hlen] at key
  exact key
end
def aY (st st':St):Prop:=st.boxes.length≤st'.boxes.length∧st'.ys=st.ys∧st'.stop=st.stop
theorem aY.refl (st:St):aY st st:=⟨ze _,rfl,rfl⟩
theorem aY.trans {a b c:St}(h:aY a b)(k:aY b c):aY a c:=⟨zr h.1 k.1,k.2.1.trans h.2.1,k.2.2.trans h.2.2⟩
theorem aY.put {st st':St}(h:aY st st')(d:Nat)(v:AV):aY st (st'.put d v):=h
theorem aY.putRow {st st':St}(h:aY st st')(d sz:Nat)(es:List PV):aY st (st'.putRow d sz es):=h
theorem aY.setCell {st st':St}(h:aY st st')(o j:Nat)(v:BV):aY st (st'.setCell o j v):=by
 unfold St.setCell;split
 ·unfold aY at *;simpa using h
 ·exact h
theorem aY.kR {st st':St}(h:aY st st')(o j sz:Nat)(es:List PV):aY st (st'.kR o j sz es):=h.setCell o j _
theorem aY.freeze {st st':St}(h:aY st st')(r:Root):aY st (st'.freeze r):=by
 refine ⟨by rw [vU];exact h.1,?_,?_⟩
 ·unfold St.freeze;split
  ·split<;>first|exact h.2.1|(unfold St.setCell;split<;>exact h.2.1)
  ·exact h.2.1
 ·unfold St.freeze;split
  ·split<;>first|exact h.2.2|(unfold St.setCell;split<;>exact h.2.2)
  ·exact h.2.2
theorem aY.bH {st st':St}(h:aY st st')(o:Nat):aY st (st'.bH o):=by
 unfold St.bH;split
 ·unfold aY at *;simpa using h
 ·exact h
theorem aY.bD {st st':St}(h:aY st st')(o:Nat):aY st (st'.bD o):=by
 unfold St.bD;split
 ·unfold aY at *;simpa using h
 ·exact h
theorem aY.kZ:∀ (fz:List bU) {st st':St},aY st st'→aY st (fz.foldl St.jh st')
 |[],_,_,h=>h
 |x::fz,st,st',h=>by
  refine aY.kZ fz ?_
  unfold St.jh
  split
  ·exact h.bD _
  ·exact h
theorem aY.takeRow {st st':St}(h:aY st st')(r:Root):aY st (st'.takeRow r):=by
 cases r
 ·exact h
 ·exact h
 ·exact h.setCell _ _ _
theorem aY.setRow {st st':St}(h:aY st st')(r:Root)(sz:Nat)(es:List PV):aY st (st'.setRow r sz es):=by
 cases r
 ·exact h
 ·exact h
 ·exact h.setCell _ _ _
theorem aY.lay {st st':St}(h:aY st st')(d:Nat)(v:PV)(own:Bool):aY st (st'.lay d v own):=by
 unfold St.lay;split
 ·split<;>exact h
 ·exact h
theorem aY.layAll {st st':St}(h:aY st st')(d:Nat)(l:List nC):aY st (st'.layAll d l):=by
 unfold St.layAll;split
 ·exact h.lay _ _ _
 ·exact h
theorem aY.bI {st st':St}(h:aY st st')(x:bU)(v:AV):aY st (st'.bI x v):=by
 unfold St.bI
 split
 ·split
  ·exact h.freeze _
  ·exact h
 ·exact h.freeze _
 ·exact h.freeze _
 ·exact h.bD _
 ·exact h
theorem aY.foldl {β:Type}{st:St}{f:St→β→St}(hf:∀ s x,aY st s→aY st (f s x)):∀ (l:List β) (s:St),aY st s→aY st (l.foldl f s)
 |[],_,h=>h
 |x::l,s,h=>aY.foldl hf l _ (hf s x h)
theorem aY.dh {st st':St}(h:aY st st')(x:bU):aY st (st'.dh x):=by
 unfold St.dh
 split
 ·exact aY.foldl (fun s v hs=>hs.bI _ _) _ _ h
 ·exact h.bI _ _
theorem aY.rV:∀ (caps:List AV) {st st':St},aY st st'→aY st (caps.foldl St.gB st')
 |[],_,_,h=>h
 |v::caps,st,st',h=>by
  refine aY.rV caps ?_
  unfold St.gB
  split
  ·exact h.bD _
  ·exact h
theorem qP {st st':St}{x:bU}{v:PV}{own:Bool}(h:st.consume x=some (v,own,st')):aY st st':=by
 cases x with
 |c v'=>simp only [St.consume,ZD.injEq,ZaD.injEq] at h;rw [← h.2.2];exact aY.refl _
 |nil sz=>simp only [St.consume,ZD.injEq,ZaD.injEq] at h;rw [← h.2.2];exact aY.refl _
 |t n =>
  simp only [St.consume] at h
  split at h
  ·simp only [ZD.injEq,ZaD.injEq] at h;rw [← h.2.2];exact aY.refl _
  ·simp only [ZD.injEq,ZaD.injEq] at h;rw [← h.2.2];exact aY.refl _
  ·split at h
   ·split at h
    ·simp only [ZD.injEq,ZaD.injEq] at h;rw [← h.2.2];exact (aY.refl _).freeze _
    ·cases h
   ·cases h
  ·split at h
   ·simp only [ZD.injEq,ZaD.injEq] at h;rw [← h.2.2];exact aY.rV _ (aY.refl _)
   ·cases h
  ·cases h
theorem lX:∀ {xs:List bU} {st st':St} {vs:List PV},fC st xs=some (vs,st')→aY st st'
 |[],st,st',vs,h=>by simp only [fC,ZD.injEq,ZaD.injEq] at h;rw [← h.2];exact aY.refl _
 |x::xs,st,st',vs,h=>by
  simp only [fC] at h
  obtain ⟨⟨v,own,st2⟩,h1,h2⟩:=bind_some h
  obtain ⟨⟨vs',st3⟩,h3,h4⟩:=bind_some h2
  simp only [ZD.injEq,ZaD.injEq] at h4
  rw [← h4.2]
  exact (qP h1).trans (lX h3)
theorem qy:∀ {l:List (Nat×Nat×bU)} {cs cs':List PV} {st st':St},iV cs st l=some (cs',st')→aY st st'
 |[],cs,cs',st,st',h=>by simp only [iV,ZD.injEq,ZaD.injEq] at h;rw [← h.2];exact aY.refl _
 |(off,n,x)::l,cs,cs',st,st',h=>by
  simp only [iV] at h
  obtain ⟨⟨v,own,st2⟩,h1,h2⟩:=bind_some h
  obtain ⟨cs2,h3,h4⟩:=bind_some h2
  simp only at h4
  split at h4
  ·exact (qP h1).trans (qy h4)
  ·cases h4
theorem Dw {st st':St}{x:bU}{sz:Nat}{es:List PV}(h:st.grab x=some (sz,es,st')):aY st st':=by
 cases x with
 |c v'=>simp [St.grab] at h
 |nil s=>simp only [St.grab,ZD.injEq,ZaD.injEq] at h;rw [← h.2.2];exact aY.refl _
 |t n =>
  simp only [St.grab] at h
  split at h
  case h_1=>simp only [ZD.injEq,ZaD.injEq] at h;rw [← h.2.2];exact aY.refl _
  case h_2 =>
   split at h
   ·split at h
    ·simp only [ZD.injEq,ZaD.injEq] at h;rw [← h.2.2];exact (aY.refl _).takeRow _
    ·cases h
   ·cases h
  case h_3=>simp only [ZD.injEq,ZaD.injEq] at h;rw [← h.2.2];exact aY.refl _
  case h_4=>cases h
theorem rW {o:iG}{st st':St}(h:plain o st=some st'):aY st st':=by
 cases o<;>simp only [plain] at h
 case load d n p =>
  split at h
  ·obtain ⟨v,_,h⟩:=bind_some h;rw [← ZD.inj h];exact aY.refl _
  ·obtain ⟨v,_,h⟩:=bind_some h
   obtain ⟨v,_,h⟩:=bind_some h
   obtain ⟨v,_,h⟩:=bind_some h
   rw [← ZD.inj h];exact aY.refl _
  ·obtain ⟨bx,_,h1⟩:=bind_some h
   clear h
   split at h1
   ·split at h1
    ·rw [← ZD.inj h1];exact aY.refl _
    ·split at h1
     ·cases h1
     ·rw [← ZD.inj h1];exact aY.refl _
    ·cases h1
   ·obtain ⟨v,_,h⟩:=bind_some h1;rw [← ZD.inj h];exact ((aY.refl _).bH _)
  ·cases h
 case VB d z parts off m =>
  replace h:=bind_some h
  obtain ⟨⟨cs,st1⟩,h1,h⟩:=h
  simp only at h
  split at h
  ·split at h
   ·rw [← ZD.inj h];exact ((qy h1).put _ _).put _ _
   ·cases h
  ·cases h
 case build d z parts =>
  obtain ⟨⟨cs,st1⟩,h1,h2⟩:=bind_some h
  rw [← ZD.inj h2];exact (qy h1).put _ _
 case mvz d x =>
  split at h
  ·split at h
   ·rw [← ZD.inj h];exact (aY.refl _).put _ _
   ·rw [← ZD.inj h];exact ((aY.refl _).freeze _).put _ _
   ·cases h
  ·cases h
 case asl d n x =>
  split at h
  ·split at h
   ·split at h
    ·rw [← ZD.inj h];exact ((aY.refl _).bD _).put _ _
    ·cases h
   ·cases h
  ·cases h
 case asz d n sz x =>
  split at h
  ·split at h
   ·split at h
    ·rw [← ZD.inj h];exact ((aY.refl _).bD _).put _ _
    ·cases h
   ·cases h
  ·cases h
 case ldp d x =>
  split at h
  ·rw [← ZD.inj h];exact (aY.refl _).put _ _
  ·cases h
 case sl4 d sz x lo hi mx =>
  obtain ⟨_,_,h2⟩:=bind_some h
  clear h
  obtain ⟨_,_,h⟩:=bind_some h2
  clear h2
  obtain ⟨_,_,h2⟩:=bind_some h
  clear h
  split at h2
  ·obtain ⟨_,_,h⟩:=bind_some h2
   clear h2
   obtain ⟨_,_,h2⟩:=bind_some h
   clear h
   obtain ⟨_,_,h⟩:=bind_some h2
   clear h2
   split at h
   ·rw [← ZD.inj h];exact (aY.refl _).put _ _
   ·cases h
  ·cases h2
 case sl3 d sz x hi mx =>
  obtain ⟨_,_,h2⟩:=bind_some h
  clear h
  obtain ⟨_,_,h⟩:=bind_some h2
  clear h2
  split at h
  ·obtain ⟨_,_,h2⟩:=bind_some h
   clear h
   obtain ⟨_,_,h⟩:=bind_some h2
   clear h2
   split at h
   ·rw [← ZD.inj h];exact (aY.refl _).put _ _
   ·cases h
  ·obtain ⟨_,_,h2⟩:=bind_some h
   clear h
   obtain ⟨_,_,h⟩:=bind_some h2
   clear h2
   obtain ⟨_,_,h2⟩:=bind_some h
   clear h
   split at h2
   ·rw [← ZD.inj h2];exact ((aY.refl _).freeze _).put _ _
   ·cases h2
  ·cases h
 case ldm d n p =>
  split at h
  ·obtain ⟨b,_,h1⟩:=bind_some h
   clear h
   split at h1
   ·cases h1
   ·rw [← ZD.inj h1];unfold aY;simp [St.put]
  ·cases h
 case Zv d n x =>
  split at h
  ·split at h
   ·split at h
    ·obtain ⟨v,_,h⟩:=Zat.1 h
     subst h;exact (aY.refl _).put _ _
    ·cases h
   ·cases h
  ·obtain ⟨v,_,h⟩:=Zat.1 h
   subst h;exact (aY.refl _).put _ _
  ·cases h
 all_goals
  repeat' (first
   |(have h2:=ZD.inj h;subst h2;first|exact aY.refl _|exact (aY.refl _).put _ _|exact (aY.refl _).putRow _ _ _)
   |(cases h;done)
   |(replace h:=bind_some h;obtain ⟨_,_,h⟩:=h)
   |split at h)
theorem tJ {rec:ay→St→Option (Ex×St)}{env:Env}{d f:Nat}{args:List bU}{caps:List AV}{st st':St}(h:kE rec env d f args caps st=some st'):aY st st':=by
 unfold kE at h
 replace h:=bind_some h
 obtain ⟨l,_,h⟩:=h
 replace h:=bind_some h
 obtain ⟨k,_,h⟩:=h
 replace h:=bind_some h
 obtain ⟨rs,_,h⟩:=h
 have h:=ZD.inj h
 subst h
 refine aY.layAll ?_ _ _
 split
 ·exact aY.foldl (fun s v hs=>hs.bI _ _) _ _ (aY.foldl (fun s v hs=>hs.dh _) _ _ (aY.refl _))
 ·exact aY.refl _
theorem NU {st st':St}{x:bU}{la:mg}{bo:Option Nat}(h:vO st x=some (la,bo,st')):aY st st':=by
 unfold vO at h
 split at h
 ·split at h
  ·cases h;exact (aY.refl _).put _ _
  ·cases h
 ·split at h
  ·split at h
   ·cases h
   ·cases h;exact (aY.refl _).bH _
  ·cases h
 ·cases hg:st.grab x with
  |none=>rw [hg] at h;cases h
  |some q =>
   obtain ⟨sz,es,s⟩:=q
   rw [hg] at h;cases h
   exact Dw hg
theorem NV {st st':St}{bo:Option Nat}{out:Option (List PV)}(h:pq st bo out=some st'):aY st st':=by
 unfold pq at h
 split at h
 ·cases h;exact aY.refl _
 ·split at h
  ·cases h;unfold aY;simp
  ·cases h
 ·cases h
theorem qQ {rec:ay→St→Option (Ex×St)}{env:Env}{d f:Nat}{x:bU}{args:List bU}{caps:List AV}{st st':St}(h:jC rec env d f x args caps st=some st'):aY st st':=by
 unfold jC rP at h
 replace h:=bind_some h
 obtain ⟨l,_,h⟩:=h
 replace h:=bind_some h
 obtain ⟨k,_,h⟩:=h
 replace h:=bind_some h
 obtain ⟨⟨la,bo,s1⟩,h1,h⟩:=h
 replace h:=bind_some h
 obtain ⟨r,_,h⟩:=h
 replace h:=bind_some h
 obtain ⟨s2,h2,h⟩:=h
 have h:=ZD.inj h
 subst h
 split at h1
 ·cases h1
 ·exact ((aY.foldl (fun s x hs=>hs.dh x) _ _ (aY.refl _)).trans ((NU h1).trans (NV h2))).layAll _ _
theorem Ry {rec:ay→St→Option (Ex×St)}{env:Env}{o:iG}{st st':St}(hv:∀ d x xs,o≠.yield d x xs)(h:act rec env o st=some st'):aY st st':=by
 cases o<;>simp only [act] at h
 case alloc d z=>rw [← ZD.inj h];unfold aY;simp [St.put]
 case box d x =>
  replace h:=bind_some h
  obtain ⟨⟨v,own,st1⟩,h1,h⟩:=h
  rw [← ZD.inj h]
  refine (qP h1).trans ?_
  unfold aY;simp [St.put]
 case store d n p x =>
  replace h:=bind_some h
  obtain ⟨⟨v,own,st1⟩,h1,h⟩:=h
  refine (qP h1).trans ?_
  simp only at h
  split at h
  ·replace h:=bind_some h
   obtain ⟨b,_,h⟩:=h
   split at h
   ·cases h
   ·split at h
    ·rw [← ZD.inj h];exact (aY.refl _).kR _ _ _ _
    ·rw [← ZD.inj h];unfold aY;simp
  ·replace h:=bind_some h
   obtain ⟨⟨s,l⟩,_,h⟩:=h
   replace h:=bind_some h
   obtain ⟨e,_,h⟩:=h
   split at h
   ·replace h:=bind_some h
    obtain ⟨cs,_,h⟩:=h
    replace h:=bind_some h
    obtain ⟨e',_,h⟩:=h
    rw [← ZD.inj h];exact (aY.refl _).setRow _ _ _
   ·cases h
  ·cases h
 case iH d sz parts =>
  replace h:=bind_some h
  obtain ⟨⟨vs,st1⟩,h1,h⟩:=h
  simp only at h
  split at h
  ·rw [← ZD.inj h];exact (lX h1).putRow _ _ _
  ·cases h
 case make d z n c =>
  repeat' (first
   |(have h2:=ZD.inj h;subst h2;first|exact aY.refl _|exact (aY.refl _).put _ _|exact (aY.refl _).putRow _ _ _)
   |(cases h;done)
   |(replace h:=bind_some h;obtain ⟨_,_,h⟩:=h)
   |split at h)
 case app d sz x y =>
  replace h:=bind_some h
  obtain ⟨⟨sy,ys⟩,_,h⟩:=h
  replace h:=bind_some h
  obtain ⟨⟨sx,es,st1⟩,h1,h⟩:=h
  simp only at h
  split at h
  ·rw [← ZD.inj h];exact (Dw h1).putRow _ _ _
  ·cases h
 case apb d x y =>
  replace h:=bind_some h
  obtain ⟨⟨sy,ys⟩,_,h⟩:=h
  replace h:=bind_some h
  obtain ⟨⟨sx,es,st1⟩,h1,h⟩:=h
  simp only at h
  split at h
  ·rw [← ZD.inj h];exact (Dw h1).putRow _ _ _
  ·cases h
 case apf d sz x y =>
  replace h:=bind_some h
  obtain ⟨⟨sy,ys⟩,_,h⟩:=h
  simp only at h
  split at h
  ·split at h
   ·rw [← ZD.inj h];exact ((aY.refl _).putRow _ _ _).put _ _
   ·cases h
  ·cases h
 case bxp d x =>
  split at h
  ·rw [← ZD.inj h];exact (aY.refl _).put _ _
  ·cases h
 case pk d f x =>
  split at h
  ·replace h:=bind_some h
   obtain ⟨b,_,h⟩:=h
   replace h:=bind_some h
   obtain ⟨rs,_,h⟩:=h
   split at h
   ·split at h
    ·rw [← ZD.inj h];exact (aY.refl _).put _ _
    ·cases h
   ·cases h
  ·cases h
 case mkz d sz=>rw [← ZD.inj h];exact (aY.refl _).put _ _
 case apg d sz x y =>
  replace h:=bind_some h
  obtain ⟨⟨sy,ys⟩,_,h⟩:=h
  simp only at h
  split at h
  ·split at h
   ·rw [← ZD.inj h];exact (aY.refl _).putRow _ _ _
   ·cases h
  ·cases h
 case cpy d sz x y =>
  replace h:=bind_some h
  obtain ⟨⟨sy,ys⟩,_,h⟩:=h
  replace h:=bind_some h
  obtain ⟨⟨r,off,len⟩,_,h⟩:=h
  replace h:=bind_some h
  obtain ⟨⟨sx,es⟩,h1,h⟩:=h
  simp only at h
  split at h
  ·rw [← ZD.inj h];exact ((aY.refl _).setRow _ _ _).put _ _
  ·cases h
 case bxw d x =>
  split at h
  ·split at h
   ·replace h:=bind_some h
    obtain ⟨cs,_,h⟩:=h
    rw [← ZD.inj h];unfold aY;simp [St.put]
   ·cases h
  ·cases h
 case stw n p x =>
  split at h
  ·split at h
   ·split at h
    ·replace h:=bind_some h
     obtain ⟨b,_,h⟩:=h
     replace h:=bind_some h
     obtain ⟨cs,_,h⟩:=h
     split at h
     ·cases h
     ·rw [← ZD.inj h];unfold aY;simp [St.put]
    ·cases h
   ·split at h
    ·replace h:=bind_some h
     obtain ⟨b,_,h⟩:=h
     split at h
     ·cases h
     ·rw [← ZD.inj h];unfold aY;simp
    ·cases h
   ·cases h
  ·cases h
 case Kv d f x g =>
  split at h
  ·replace h:=bind_some h
   obtain ⟨⟨r,off,len⟩,_,h⟩:=h
   replace h:=bind_some h
   obtain ⟨⟨sx,es⟩,h1,h⟩:=h
   replace h:=bind_some h
   obtain ⟨c,_,h⟩:=h
   replace h:=bind_some h
   obtain ⟨es',_,h⟩:=h
   simp only at h
   split at h
   ·rw [← ZD.inj h];exact ((aY.refl _).setRow _ _ _).put _ _
   ·cases h
  ·cases h
 case call d f args=>exact tJ h
 case lin d f x args=>exact qQ h
 case linv d g x args =>
  split at h
  ·exact qQ h
  ·exact qQ h
  ·cases h
 case lG d x args =>
  split at h
  ·exact tJ h
  ·exact tJ h
  ·cases h
 case yield d x args=>exact absurd rfl (hv _ _ _)
 all_goals cases h
section
variable {P:Program}{L:Nat}{σ σ':Nat→Nat}{T T':Tags}{st st' st1:St}{a:Act}{w w1:World}{o:Oper}{d n:Nat}{x x2 x3:bU}{y y2 y3:Operand}{ok:Nat→Prop}{sz:Nat}{es ys:List PV}{xs zs:List Value}
 {rec:ay→St→Option (Ex×St)} {env:Env}
theorem aV.more {T2:Tags}(h:aV L σ T st a w)(hT:∀ b,T b≠.other→T2 b=T b)(hf:∀ b,w.heap.size≤b→T2 b=.other):aV L σ T2 st a w:=by
 have hq:∀ b q,q≠.other→T b=q→T2 b=q:=fun b q hq e=>by rw [hT b (by rw [e];exact hq),e]
 have hw:∀ b,T b=.ro→b<w.heap.size→T2 b=.ro∧w.heap[b]?=w.heap[b]?:=fun b e _=>⟨hq b _ (by simp) e,rfl⟩
 refine ⟨h.size,fun t av v ht hv=>?_,fun p bx ho=>?_,hf⟩
 ·exact (h.slots t av v ht hv).keep hw (fun _ _ _ b e _=>⟨hq b _ (by simp) e,rfl⟩) (fun _ _ _ _ b e _=>⟨hq b _ (by simp) e,rfl⟩) (fun _ _ _ s l e=>⟨⟨l,e⟩,rfl⟩) (ze _) (fun _ _=>rfl)
 ·have hb:=h.boxes p bx ho
  have hT':T2 (σ p)=T (σ p):=by
   obtain ⟨_,_,_,_,h3,_⟩:=hb
   exact hT _ (by rw [h3];split<;>simp)
  exact hb.frame ⟨hT',rfl⟩ (fun j b e _=>⟨hq b _ (by simp) e,rfl⟩) hw
end
section
variable {P:Program}{L:Nat}{σ σ':Nat→Nat}{T T' T1 T2:Tags}{st st' st1:St}{a:Act}{w w1:World}{o:Oper}{d n:Nat}{x x2:bU}{y y2:Operand}{rec:ay→St→Option (Ex×St)}{env:Env}
theorem aV.ajW (h:aV L σ T st a w){q:Nat}{bx:Box}{cs:List PV}(hb:st.boxes[q]?=some bx)(hf:bx.fz=false)(hfr:∀ b,w1.heap.size≤b→T b=.other)
  (hw:∀ b,b<w.heap.size→b≠σ q→T b≠.other→w1.heap[b]?=w.heap[b]?)
  (harr:∃ arr E,w1.heap[σ q]?=some (.cells arr E (0,0))∧arr.size=cs.length∧∀ (j:Nat) x u,cs[j]?=some x→arr[j]?=some u→u.oneCell'=true∧aA (fun b=>T b=.ro) w1 x u) :
  aV L σ T { st with boxes:=st.boxes.set q { bx with cs:=cs.map .pv } } a w1:=by
 have hTo:T (σ q)=.box q:=by
  obtain ⟨_,_,_,_,h3,_⟩:=h.boxes q bx hb
  rw [h3,if_neg (by simp [hf])]
 have ol:q<st.boxes.length:=(Z6.1 hb).1
 have hro:∀ b,T b=.ro→b<w.heap.size→T b=.ro∧w1.heap[b]?=w.heap[b]?:=fun b e hl=>⟨e,hw b hl (fun e2=>by rw [e2,hTo] at e;cases e) (by rw [e];simp)⟩
 have hrw:∀ r b,T b=.row r→b<w.heap.size→T b=.row r∧w1.heap[b]?=w.heap[b]?:=fun r b e hl=>⟨e,hw b hl (fun e2=>by rw [e2,hTo] at e;cases e) (by rw [e];simp)⟩
 have hbox:∀ p bx',st.boxes[p]?=some bx'→p≠q→w1.heap[σ p]?=w.heap[σ p]?:=fun p bx' hp hne=>by
  have hB:=h.boxes p bx' hp
  obtain ⟨_,_,g1,_,h3,_⟩:=hB
  refine hw _ (zz.1 g1).1 (fun e=>?_) (by rw [h3];split<;>simp)
  rw [e,hTo] at h3
  split at h3
  ·cases h3
  ·injection h3 with h3;exact hne h3.symm
 have hrow:∀ r sz es,({ st with boxes:=st.boxes.set q { bx with cs:=cs.map .pv } }:St).row r=some (sz,es)→st.row r=some (sz,es)∧hdr σ a w1 r=hdr σ a w r:=fun r sz es e=>by
  cases r with
  |slot t=>exact ⟨e,rfl⟩
  |part t i=>simp [St.row] at e
  |cell p j =>
   by_cases hpq:p=q
   ·subst hpq
    simp only [St.row,zp,if_true,if_pos ol,hf,zg,if_false,zb] at e
    cases hc:cs[j]? with
    |none=>rw [hc] at e;simp at e
    |some v=>rw [hc] at e;simp at e
   ·have e':st.row (.cell p j)=some (sz,es):=by
     simp only [St.row,zp,if_neg (Ne.symm hpq)] at e ⊢
     exact e
    refine ⟨e',?_⟩
    obtain ⟨bx',g1,_,_⟩:=dZ e'
    exact World.cell?_of_block (w:=w) (a:=⟨σ p,j,none⟩) (hbox p bx' g1 hpq)
 refine ⟨h.size,fun t x u hx hu=>?_,fun p bx' hp=>?_,hfr⟩
 ·exact (h.slots t x u hx hu).keep hro (fun _ _ _ b e hl=>hrw _ b e hl) (fun _ _ _ _ b e hl=>hrw _ b e hl) (fun r _ _ sz es e=>⟨⟨es,(hrow r sz es e).1⟩,(hrow r sz es e).2⟩) (by simp) (fun _ _=>rfl)
 ·rw [zp] at hp
  by_cases hpq:q=p
  ·subst hpq
   simp only [if_true,if_pos ol,ZD.injEq] at hp
   subst hp
   obtain ⟨arr,E,g1,g2,g3⟩:=harr
   refine ⟨arr,E,g1,by simpa using g2,by simp [hf,hTo],fun e=>(by simp [hf] at e),fun j bv u hj hu=>?_⟩
   simp only [zb] at hj
   cases hc:cs[j]? with
   |none=>rw [hc] at hj;cases hj
   |some v =>
    rw [hc] at hj;cases hj
    exact g3 j v u hc hu
  ·rw [if_neg hpq] at hp
   exact (h.boxes p bx' hp).frame ⟨rfl,hbox p bx' hp (Ne.symm hpq)⟩ (fun j b e hl=>hrw _ b e hl) hro
theorem aV.akU (h:aV L σ T st a w)(hn:∀ k l,st.slots[n]?≠some (.lU k l)){p:Nat}(hp:st.boxes.length≤p):aV L σ (iD T n p 0) st a w:=by
 have hro:∀ b,T b=.ro→iD T n p 0 b=.ro:=fun b e=>by simp [iD,e]
 have hw:∀ b,T b=.ro→b<w.heap.size→iD T n p 0 b=.ro∧w.heap[b]?=w.heap[b]?:=fun b e _=>⟨hro b e,rfl⟩
 refine ⟨h.size,fun t x u hx hu=>?_,fun q bx ho=>?_,fun b hb=>by simp [iD,h.fresh b hb]⟩
 ·refine (h.slots t x u hx hu).keep hw (fun s l e b hb _=>⟨by simp [iD,hb],rfl⟩) (fun {k} l e i _ b hb _=>⟨?_,rfl⟩) (fun q hq _ s l e=>⟨⟨l,e⟩,rfl⟩) (ze _) (fun _ _=>rfl)
  have htn:t≠n:=fun e2=>by subst e2;exact hn k l (by rw [hx,e])
  simp [iD,hb,htn]
 ·have hb:=h.boxes q bx ho
  have hT:iD T n p 0 (σ q)=T (σ q):=by
   obtain ⟨_,_,_,_,h3,_⟩:=hb
   rw [h3];split
   ·rename_i hf;exact hro _ (by rw [h3,if_pos hf])
   ·rename_i hf;rw [if_neg hf] at h3;simp [iD,h3]
  exact hb.frame ⟨hT,rfl⟩ (fun k b e _=>⟨by simp [iD,e],rfl⟩) hw
theorem acG {T0:TypeId}{m:Nat}(h:aV L σ T st a w)(hd:o.dst=some d)(ho:o.op=.box T0 y)(hm:bf y (.t m)=true){l:List AV}(h1:st.slots.getD m .any=.lU true l){cs:List BV}(hcs:tC l=some cs) :
  Does P L σ T st.boxes.length (({ (st.put m .any) with boxes:=st.boxes++[(⟨false,cs⟩:Box)] }:St).put d (.aO st.boxes.length 0)) a w o true:=by
 have e0:st.get (.t m)=.lU true l:=h1
 obtain ⟨t,e1,hA,hB,Bh,g1,g2,g3⟩:=h.at hm e0 (by simp) (by simp) (by simp)
 cases e1
 replace g1:a.eval y=Value.agg Bh:=g1
 have hrun:(execOp a.eval o).run P w=.ok (.value (.pointer (some ⟨w.heap.size,0,none⟩))) (w.alloc (.cells (a.eval y).cells T0)):=by
  simp [execOp,ho,Instr.box,newVar,newRow,newObj,Sem.run]
  try rfl
 have k1:=h.forget m
 have k6:=k1.akU (n:=m) (p:=st.boxes.length) (fun k l e=>by
  simp only [St.put,zp,if_true] at e
  split at e<;>cases e) (ze _)
 obtain ⟨cl,cg⟩:=yX hcs
 have mro:∀ b,T b=.ro→iD T m st.boxes.length 0 b=.ro:=fun b e=>by simp [iD,e]
 refine ⟨_,_,_,fun k=>if k=st.boxes.length then w.heap.size else σ k,_,hrun,.inl rfl,?_,((Still.pV ⟨mro,fun b e=>by simp [iD,e]⟩ w).trans (mW (k6.fresh _ (ze _)) _ (.box st.boxes.length))),fun k hk=>if_neg (by omega),fun _=>kW _ _⟩
 rw [hd]
 refine k6.He (by rw [g1];show Bh.size=_;omega) (fun j bv u hj hu=>?_)
 rw [g1] at hu
 have hu:Bh[j]?=some u:=hu
 rcases cg j bv hj with ⟨v,rfl,e2,e3⟩|⟨sz,es,rfl,e2⟩
 ·have:=g3 j _ u e2 hu
  exact ⟨EH this e3,aA.frame (fun b e _=>⟨mro b e,rfl⟩) this⟩
 ·have hr:aW T w (.part m j) sz es u:=g3 j _ u e2 hu
  obtain ⟨xa,c,e,_⟩:=hr.slice
  refine ⟨by rw [e];rfl,aW.frame (fun b e _=>⟨?_,rfl⟩) (fun b e _=>⟨mro b e,rfl⟩) hr⟩
  simp only [iD,e,if_true,Zan]
  rfl
theorem KC (st:St)(p:Nat):(st.bD p).boxes.length=st.boxes.length:=by
 unfold St.bD;split<;>simp
theorem aV.EJ (h:aV L σ T st a w)(x:bU)(v:AV):∃ T1,aV L σ T1 (st.bI x v) a w∧Still T T1∧(st.bI x v).boxes.length=st.boxes.length:=by
 have hr:∀ r,∃ T1,aV L σ T1 (st.freeze r) a w∧Still T T1∧(st.freeze r).boxes.length=st.boxes.length:=fun r=>by
  obtain ⟨T1,k1,k2,_⟩:=h.freeze r
  exact ⟨T1,k1,k2,vU _ _⟩
 unfold St.bI
 split
 ·split
  ·exact hr _
  ·exact ⟨T,h,Still.refl T,rfl⟩
 ·exact hr _
 ·exact hr _
 ·rename_i p _
  refine ⟨_,h.bD p,?_,KC _ _⟩
  split
  ·exact Still.jW T p
  ·exact Still.refl T
 ·exact ⟨T,h,Still.refl T,rfl⟩
theorem aV.EK:∀ (l:List AV) {T:Tags} {st:St},aV L σ T st a w→∃ T1,aV L σ T1 (l.foldl (fun s v=>s.bI (.c .void) v) st) a w∧Still T T1∧(l.foldl (fun s v=>s.bI (.c .void) v) st).boxes.length=st.boxes.length
 |[],T,st,h=>⟨T,h,Still.refl T,rfl⟩
 |v::l,T,st,h=>by
  obtain ⟨T1,k1,k2,k3⟩:=h.EJ (.c .void) v
  obtain ⟨T2,q1,q2,q3⟩:=aV.EK l k1
  exact ⟨T2,q1,k2.trans q2,q3.trans k3⟩
theorem aV.VW (h:aV L σ T st a w)(x:bU):∃ T1,aV L σ T1 (st.dh x) a w∧Still T T1∧(st.dh x).boxes.length=st.boxes.length:=by
 unfold St.dh
 split
 ·exact aV.EK _ h
 ·exact h.EJ _ _
theorem aV.EL:∀ (l:List bU) {T:Tags} {st:St},aV L σ T st a w→∃ T1,aV L σ T1 (l.foldl St.dh st) a w∧Still T T1∧(l.foldl St.dh st).boxes.length=st.boxes.length
 |[],T,st,h=>⟨T,h,Still.refl T,rfl⟩
 |x::l,T,st,h=>by
  obtain ⟨T1,k1,k2,k3⟩:=h.VW x
  obtain ⟨T2,q1,q2,q3⟩:=aV.EL l k1
  exact ⟨T2,q1,k2.trans q2,q3.trans k3⟩
end
def isInt (P:Program)(T:TypeId):Bool:=match P.underlying T with|some (.int _)=>true|_=>false
def VX (P:Program)(T:TypeId)(k:IntKind):Bool:=match P.underlying T with|some (.int q)=>q==k|_=>false
def NW (P:Program)(T:TypeId):Bool:=match P.underlying T with|some .bool=>true|_=>false
def Hl (P:Program)(T:TypeId):Bool :=
 match P.underlying T with
 |some (.array _ e)=>(iZ P e).isSome
 |some (.struct fs)=>(fs.toList.mapM fun f=>(P.info? f.type).map fun i=>(f.offset,i.size)).isSome
 |_=>false
theorem Rz {P:Program}{T:TypeId}(h:isInt P T=true):∃ q,P.underlying T=some (.int q):=by
 unfold isInt at h;split at h
 ·exact ⟨_,by assumption⟩
 ·cases h
theorem LJ {P:Program}{T:TypeId}{k:IntKind}(h:VX P T k=true):P.underlying T=some (.int k):=by
 unfold VX at h;split at h
 ·rename_i q hq;rw [hq,beq_iff_eq.1 h]
 ·cases h
theorem Ho {P:Program}{T:TypeId}(h:NW P T=true):P.underlying T=some .bool:=by
 unfold NW at h;split at h
 ·assumption
 ·cases h
theorem EM {P:Program}{T:TypeId}(h:Hl P T=true):(∃ n e,Ky P T=some (n,e)∧(iZ P e).isSome=true)∨∃ fs pl,P.underlying T=some (.struct fs)∧(fs.toList.mapM fun f=>(P.info? f.type).map fun i=>(f.offset,i.size))=some pl:=by
 unfold Hl at h;split at h
 ·rename_i n e hu;exact .inl ⟨n,e,by simp [Ky,hu],h⟩
 ·rename_i fs hu
  obtain ⟨pl,hpl⟩:=Zbk.1 h
  exact .inr ⟨fs,pl,hu,hpl⟩
 ·cases h
def Yy (o:Op):Option (Builtin×Operand×TypeId) :=
 match o with
 |.call c=>match c.callee with
  |.builtin b=>match c.args.toList with
   |[y]=>match c.argTypes.toList with
    |[T]=>some (b,y,T)
    |_=>none
   |_=>none
  |_=>none
 |_=>none
def LK (o:Op):Option (Builtin×Operand×Operand×TypeId×TypeId) :=
 match o with
 |.call c=>match c.callee with
  |.builtin b=>match c.args.toList with
   |[y,y2]=>match c.argTypes.toList with
    |[T,T1]=>some (b,y,y2,T,T1)
    |_=>none
   |_=>none
  |_=>none
 |_=>none
def LM (o:Op):Option (Operand×List Operand) :=
 match o with
 |.call c=>match c.callee with
  |.value y=>some (y,c.args.toList)
  |_=>none
 |_=>none
def LP (o:Op):Option (Nat×List Operand) :=
 match o with
 |.call c=>match c.callee with
  |.value (.func f)=>some (f,c.args.toList)
  |_=>none
 |_=>none
theorem RD {o:Op}{b:Builtin}{y:Operand}{T:TypeId}(h:Yy o=some (b,y,T)):o=.call { callee:=.builtin b,args:=#[y],argTypes:=#[T] }:=by
 unfold Yy at h
 split at h
 case h_2=>cases h
 rename_i c
 split at h
 case h_2=>cases h
 rename_i b' hb
 split at h
 case h_2=>cases h
 rename_i y' hy
 split at h
 case h_2=>cases h
 rename_i T' hT
 cases h
 obtain ⟨callee,⟨args⟩,⟨ats⟩⟩:=c
 simp only at hb hy hT
 rw [hb,hy,hT]
theorem Bj {o:Op}{b:Builtin}{y y2:Operand}{T T1:TypeId}(h:LK o=some (b,y,y2,T,T1)):o=.call { callee:=.builtin b,args:=#[y,y2],argTypes:=#[T,T1] }:=by
 unfold LK at h
 split at h
 case h_2=>cases h
 rename_i c
 split at h
 case h_2=>cases h
 rename_i b' hb
 split at h
 case h_2=>cases h
 rename_i y' y2' hy
 split at h
 case h_2=>cases h
 rename_i T' T1' hT
 cases h
 obtain ⟨callee,⟨args⟩,⟨ats⟩⟩:=c
 simp only at hb hy hT
 rw [hb,hy,hT]
theorem Hq {o:Op}{y:Operand}{ys:List Operand}(h:LM o=some (y,ys)):∃ ats,o=.call { callee:=.value y,args:=ys.toArray,argTypes:=ats }:=by
 unfold LM at h
 split at h
 case h_2=>cases h
 rename_i c
 split at h
 case h_2=>cases h
 rename_i y' hy
 cases h
 obtain ⟨callee,args,ats⟩:=c
 simp only at hy
 exact ⟨ats,by rw [hy]⟩
theorem Bl {o:Op}{f:Nat}{ys:List Operand}(h:LP o=some (f,ys)):∃ ats,o=.call { callee:=.value (.func f),args:=ys.toArray,argTypes:=ats }:=by
 unfold LP at h
 split at h
 case h_2=>cases h
 rename_i c
 split at h
 case h_2=>cases h
 rename_i f' hy
 cases h
 obtain ⟨callee,args,ats⟩:=c
 simp only at hy
 exact ⟨ats,by rw [hy]⟩
def mv (P:Program)(op:Op):iG→Bool
 |.ak _ x=>match op with
  |.move y=>bf y x
  |_=>false
 |.aN _ x=>match op with
  |.assign y=>bf y x
  |.move y=>bf y x
  |_=>false
 |.pick _ c x x2=>match op with
  |.pick yc y y2=>bf yc c&&bf y x&&bf y2 x2
  |_=>false
 |.bin _ b x x2=>match op with
  |.binOp b' _ y y2 _=>b==b'&&bf y x&&bf y2 x2
  |_=>false
 |.Vz _ neg n x x2=>match op with
  |.binOp b' T0 y y2 _=>b'==(if neg then .neq else .eql)&&bf y x&&bf y2 x2&&acn P T0&&iZ P T0==some n
  |_=>false
 |.eqm _ _ _ _ _=>false
 |.Zu _ neg x x2=>match op with
  |.binOp b' T0 y y2 _=>b'==(if neg then .neq else .eql)&&bf y x&&bf y2 x2&&NW P T0
  |_=>false
 |.un _ b x=>match op with
  |.unOp b' _ y=>b==b'&&bf y x
  |_=>false
 |.conv _ k x=>match op with
  |.convert src dst y=>bf y x&&isInt P src&&VX P dst k
  |_=>false
 |.load _ n x=>match op with
  |.load T0 y=>bf y x&&rU P T0==some n
  |_=>false
 |.aP _ x off=>match op with
  |.fieldAddr S y f=>bf y x&&(match yN P S f with|some fd=>fd.offset==off&&(match iZ P fd.type with|some (_+1)=>true|_=>false)|none=>false)
  |.nilCheck y=>bf y x&&off==0
  |_=>false
 |.dA _ sz x x2=>match op with
  |.indexAddr T0 y y2=>bf y x&&bf y2 x2&&(match iW P T0 with|some e=>iZ P e==some sz|none=>false)
  |_=>false
 |.zx _ x x2 len sz=>match op with
  |.indexAddr T0 y y2=>bf y x&&bf y2 x2&&(match Ky P T0 with|some (l,e)=>l==len&&iZ P e==some sz|none=>false)
  |_=>false
 |.fld _ _ _ _=>false
 |.idx _ _ _ _ _ _=>false
 |.Zw _ sz x lo hi=>match op with
  |.slice T0 y lo' hi' none=>bf y x&&NK lo' lo&&NK hi' hi&&(match iW P T0 with|some e=>iZ P e==some sz|none=>false)
  |_=>false
 |.ext _ x i=>match op with
  |.extract y j=>bf y x&&i==j
  |_=>false
 |.build _ z m=>match op with
  |.build T0 l=>xO P T0 l.toList m&&uy P T0 z&&Hl P T0
  |_=>false
 |.len _ x=>match Yy op with
  |some (b,y,T0)=>b==.len&&bf y x&&(iW P T0).isSome
  |none=>false
 |.Yn _ neg x=>match op with
  |.binOp b T0 y (.const (.slice none 0 0)) _=>b==(if neg then .neq else .eql)&&bf y x&&(iW P T0).isSome
  |_=>false
 |.sl4 _ _ _ _ _ _=>false
 |.sl3 _ _ _ _ _=>false
 |.cut _ _ _=>false
 |.mvz _ _=>false
 |.asl _ _ _=>false
 |.asz _ _ _ _=>false
 |.ldm _ _ _=>false
 |.Zv _ n x=>match op with
  |.load T0 y=>bf y x&&rU P T0==some n
  |_=>false
 |.lens _ _=>false
 |.mn _ mx x x2=>match LK op with
  |some (b,y,y2,_,_)=>b==(if mx then .max else .min)&&bf y x&&bf y2 x2
  |none=>false
 |.VA _ f xs=>match op with
  |.makeFunc fn first ys=>isFn f fn&&first.isEmpty&&oP ys.toList xs
  |_=>false
 |.alloc _ z=>match op with
  |.alloc T0=>uy P T0 z
  |_=>false
 |.box _ x=>match op with
  |.box _ y=>bf y x
  |_=>false
 |.store dd n x x2=>match op with
  |.store T0 y y2=>dd.isNone&&bf y x&&bf y2 x2&&iZ P T0==some n
  |_=>false
 |.iH _ sz xs=>match op with
  |.buildSlice T0 len l=>oP (l.toList.map (·.2)) xs&&numbered 0 l.toList&&len==l.size&&uz P T0 sz&&decide (len*sz≤16777216)
  |_=>false
 |.make _ z x x2=>match op with
  |.makeSlice T0 y y2=>bf y x&&bf y2 x2&&uz P T0 z.cells.length&&(match iW P T0 with|some e=>uy P e z.cells|none=>false)
  |_=>false
 |.app _ sz x x2=>match LK op with
  |some (b,y,y2,T0,T1)=>b==.append&&T0==T1&&bf y x&&bf y2 x2&&uz P T0 sz
  |none=>false
 |.apf _ _ _ _=>false
 |.bxp _ _=>false
 |.ldp _ _=>false
 |.pk _ _ _=>false
 |.mkz _ _=>false
 |.apg _ _ _ _=>false
 |.apb _ x x2=>match LK op with
  |some (b,y,y2,T0,T1)=>b==.append&&T0==T1&&bf y x&&bf y2 x2&&NR P T0
  |none=>false
 |.cpy _ _ _ _=>false
 |.call _ f xs=>match LP op with
  |some (g,ys)=>f==g&&oP ys xs
  |none=>false
 |.lG _ x xs=>match LM op with
  |some (y,ys)=>bf y x&&oP ys xs
  |none=>false
 |.lin _ f x xs=>match LP op with
  |some (g,y::ys)=>f==g&&bf y x&&oP ys xs
  |_=>false
 |.linv _ g x xs=>match LM op with
  |some (z,y::ys)=>bf z g&&bf y x&&oP ys xs
  |_=>false
 |.VB _ _ _ _ _=>false
 |.bxw _ x=>match op with
  |.box T0 y=>bf y x
  |_=>false
 |.stw n x x2=>match op with
  |.store T0 y y2=>bf y x&&bf y2 x2&&iZ P T0==some n
  |_=>false
 |.Kv _ f x g=>match LP op with
  |some (f',[y1,y2])=>f'==f&&bf y1 x&&bf y2 g
  |_=>false
 |.yield _ x xs=>match LM op with
  |some (y,ys)=>bf y x&&oP ys xs
  |none=>false
 |.grd _ _ _=>false
def m1 (P:Program)(o:Oper)(v:iG):Bool:=o.dst==bZ v&&mv P o.op v
section
variable {P:Program}{L:Nat}{σ σ':Nat→Nat}{T T':Tags}{st st' st1:St}{a:Act}{w w1:World}{o:Oper}{vo:iG}
 {rec:ay→St→Option (Ex×St)} {env:Env}
theorem xQ (h:aV L σ T st a w)(hm:m1 P o vo=true)(hp:plain vo st=some st'):Looks P L σ T st' a w o:=by
 simp only [m1,ZZ,beq_iff_eq] at hm
 obtain ⟨hd,hm⟩:=hm
 cases vo<;>simp only [mv] at hm
 case ak d x =>
  split at hm<;>try (cases hm;done)
  rename_i ho;exact Dq h hd (.inl ho) hm false hp
 case aN d x =>
  split at hm<;>try (cases hm;done)
  ·rename_i ho;exact Dq h hd (.inr ho) hm true hp
  ·rename_i ho;exact Dq h hd (.inl ho) hm true hp
 case pick d c x x2 =>
  split at hm<;>try (cases hm;done)
  rename_i ho
  simp only [ZZ] at hm;exact VH h hd ho hm.1.1 hm.1.2 hm.2 hp
 case bin d b x x2 =>
  split at hm<;>try (cases hm;done)
  rename_i ho
  simp only [ZZ,beq_iff_eq] at hm
  obtain ⟨⟨rfl,hm1⟩,hm2⟩:=hm
  exact ZE h hd ho hm1 hm2 hp
 case Vz d neg n x x2 =>
  split at hm<;>try (cases hm;done)
  rename_i ho
  simp only [ZZ,beq_iff_eq] at hm
  obtain ⟨⟨⟨⟨h1,h2⟩,h3⟩,h4⟩,h5⟩:=hm
  exact ZB h hd ho h1 h2 h3 h4 h5 hp
 case Zu d neg x x2 =>
  split at hm<;>try (cases hm;done)
  rename_i ho
  simp only [ZZ,beq_iff_eq] at hm
  obtain ⟨⟨⟨h1,h2⟩,h3⟩,h4⟩:=hm
  exact ZC h hd ho h1 h2 h3 (Ho h4) hp
 case eqm d neg ks x x2=>cases hm
 case un d b x =>
  split at hm<;>try (cases hm;done)
  rename_i ho
  simp only [ZZ,beq_iff_eq] at hm
  obtain ⟨rfl,h2⟩:=hm
  exact aco h hd ho h2 hp
 case conv d k x =>
  split at hm<;>try (cases hm;done)
  rename_i ho
  simp only [ZZ] at hm
  exact VJ h hd ho hm.1.1 (Rz hm.1.2) (LJ hm.2) hp
 case load d n x =>
  split at hm<;>try (cases hm;done)
  rename_i ho
  simp only [ZZ,beq_iff_eq] at hm
  exact VK h hd ho hm.1 hm.2 hp
 case aP d x off =>
  split at hm
  case h_3=>cases hm
  case h_2 =>
   rename_i ho
   simp only [ZZ,beq_iff_eq] at hm
   obtain ⟨h1,rfl⟩:=hm
   exact (Rh h hd ho h1 hp).looks
  rename_i ho
  simp only [ZZ] at hm
  obtain ⟨h1,h2⟩:=hm
  split at h2<;>try (cases h2;done)
  rename_i fd hf
  simp only [ZZ,beq_iff_eq] at h2
  obtain ⟨rfl,h3⟩:=h2
  split at h3<;>try (cases h3;done)
  rename_i k hk
  exact VO h hd ho h1 hf hk hp
 case dA d sz x x2 =>
  split at hm<;>try (cases hm;done)
  rename_i ho
  simp only [ZZ] at hm
  obtain ⟨⟨h1,h2⟩,h3⟩:=hm
  split at h3<;>try (cases h3;done)
  rename_i e he
  exact VQ h hd ho h1 h2 he (beq_iff_eq.1 h3) hp
 case zx d x x2 len sz =>
  split at hm<;>try (cases hm;done)
  rename_i ho
  simp only [ZZ] at hm
  obtain ⟨⟨h1,h2⟩,h3⟩:=hm
  split at h3<;>try (cases h3;done)
  rename_i l e he
  simp only [ZZ,beq_iff_eq] at h3
  obtain ⟨rfl,h4⟩:=h3
  exact VP h hd ho h1 h2 he h4 hp
 case fld d x off n=>cases hm
 case idx d x x2 len sz n=>cases hm
 case Zw d sz x lo hi =>
  split at hm<;>try (cases hm;done)
  rename_i ho
  simp only [ZZ] at hm
  obtain ⟨⟨⟨h1,h2⟩,h3⟩,h4⟩:=hm
  split at h4<;>try (cases h4;done)
  rename_i e he
  exact ZK h hd ho h1 h2 h3 he (beq_iff_eq.1 h4) hp
 case ext d x i =>
  split at hm<;>try (cases hm;done)
  rename_i ho
  simp only [ZZ,beq_iff_eq] at hm
  obtain ⟨h1,rfl⟩:=hm
  exact ZJ h hd ho h1 hp
 case build d z m =>
  split at hm<;>try (cases hm;done)
  rename_i T0 l ho
  simp only [ZZ] at hm
  obtain ⟨⟨h1,h2⟩,h3⟩:=hm
  exact Rq h hd (l:=l.toList) (by simpa using ho) h1 h2 (EM h3) hp
 case VB d z parts off t=>cases hm
 case len d x =>
  split at hm<;>try (cases hm;done)
  rename_i b y T0 ho
  simp only [ZZ,beq_iff_eq] at hm
  obtain ⟨⟨rfl,h1⟩,h2⟩:=hm
  obtain ⟨e,he⟩:=Zbk.1 h2
  exact ZH h hd (RD ho) h1 he hp
 case Yn d neg x =>
  split at hm<;>try (cases hm;done)
  rename_i ho
  simp only [ZZ,beq_iff_eq] at hm
  obtain ⟨⟨h1,h2⟩,h3⟩:=hm
  obtain ⟨e,he⟩:=Zbk.1 h3
  exact ZI h hd ho h1 h2 he hp
 case ldp d x=>cases hm
 case sl4 d sz x x1 x2 x3=>cases hm
 case sl3 d sz x x2 x3=>cases hm
 case cut d sz x=>cases hm
 case lens d x=>cases hm
 case asl d n x=>cases hm
 case asz d n sz x=>cases hm
 case ldm d n x=>cases hm
 case Zv d n x =>
  split at hm<;>try (cases hm;done)
  rename_i ho
  simp only [ZZ,beq_iff_eq] at hm
  exact ZF h hd ho hm.1 hm.2 hp
 case mvz d x=>cases hm
 case mn d mx x x2 =>
  split at hm<;>try (cases hm;done)
  rename_i b y y2 T0 T1 ho
  simp only [ZZ,beq_iff_eq] at hm
  obtain ⟨⟨rfl,h1⟩,h2⟩:=hm
  exact acu h hd (Bj ho) h1 h2 hp
 case VA d f xs =>
  split at hm<;>try (cases hm;done)
  rename_i fn first ys ho
  simp only [ZZ] at hm
  obtain ⟨⟨h1,h2⟩,h3⟩:=hm
  have hfn:=Yo h1
  subst hfn
  have hf0:first=#[]:=by simpa using h2
  subst hf0
  exact ZM h hd (ys:=ys.toList) (by simpa using ho) h3 hp
 all_goals simp [plain] at hp
def vW:iG→Bool
 |.alloc ..|.box ..|.iH ..|.make ..|.mkz ..|.bxp ..|.apg ..=>true
 |_=>false
theorem ZQ (h:aV L σ T st a w)(hm:m1 P o vo=true)(hc:∀ d f xs,vo≠.call d f xs)(hv:∀ d x xs,vo≠.lG d x xs)(hy:∀ d x xs,vo≠.yield d x xs)(hsr:∀ d f x g,vo≠.Kv d f x g)(hli:∀ d f x xs,vo≠.lin d f x xs)(hlv:∀ d g x xs,vo≠.linv d g x xs)(hpk:∀ d f x,vo≠.pk d f x)(hp:act rec env vo st=some st'):Does P L σ T st.boxes.length st' a w o (vW vo):=by
 simp only [m1,ZZ,beq_iff_eq] at hm
 obtain ⟨hd,hm⟩:=hm
 cases vo<;>simp only [mv] at hm
 case alloc d z =>
  split at hm<;>try (cases hm;done)
  rename_i ho;exact VT h hd ho hm hp
 case box d x =>
  split at hm<;>try (cases hm;done)
  rename_i ho;exact acv h hd ho hm hp
 case iH d sz xs =>
  split at hm<;>try (cases hm;done)
  rename_i T0 len l ho
  simp only [ZZ,beq_iff_eq,decide_eq_true_eq] at hm
  obtain ⟨⟨⟨⟨h1,h2⟩,h3⟩,h4⟩,h5⟩:=hm
  exact ZP h hd (l:=l.toList) (by simpa using ho) h1 h2 (by simpa using h3) h4 h5 hp
 case make d z x x2 =>
  split at hm<;>try (cases hm;done)
  rename_i T0 y y2 ho
  simp only [ZZ] at hm
  obtain ⟨⟨⟨h1,h2⟩,h3⟩,h4⟩:=hm
  split at h4<;>try (cases h4;done)
  rename_i e he
  exact ZO h hd ho h1 h2 h3 he h4 hp
 case app d sz x x2 =>
  split at hm<;>try (cases hm;done)
  rename_i b y y2 T0 T1 ho
  simp only [ZZ,beq_iff_eq] at hm
  obtain ⟨⟨⟨⟨rfl,rfl⟩,h1⟩,h2⟩,h3⟩:=hm
  exact acA h hd (Bj ho) h1 h2 h3 hp
 case apf d sz x x2=>cases hm
 case apb d x x2 =>
  split at hm<;>try (cases hm;done)
  rename_i b y y2 T0 T1 ho
  simp only [ZZ,beq_iff_eq] at hm
  obtain ⟨⟨⟨⟨rfl,rfl⟩,h1⟩,h2⟩,h3⟩:=hm
  exact acB h hd (Bj ho) h1 h2 h3 hp
 case bxp d x=>cases hm
 case pk d f x=>cases hm
 case mkz d sz=>cases hm
 case apg d sz x x2=>cases hm
 case cpy d sz x x2=>cases hm
 case store dd n x x2 =>
  split at hm<;>try (cases hm;done)
  rename_i T0 y y2 ho
  simp only [ZZ,beq_iff_eq] at hm
  obtain ⟨⟨⟨h0,h1⟩,h2⟩,h3⟩:=hm
  have hdn:=Zbn.1 h0
  subst hdn
  simp only [act] at hp
  replace hp:=bind_some hp
  obtain ⟨⟨v,own,st1⟩,g1,hp⟩:=hp
  simp only at hp
  split at hp
  case h_3=>cases hp
  case h_1 p j e =>
   replace hp:=bind_some hp
   obtain ⟨bx,g2,hp⟩:=hp
   split at hp
   ·cases hp
   ·rename_i hc
    simp only [Za7,ZaR,decide_eq_false_iff_not,not_or,Zbr,Decidable.not_not] at hc
    obtain ⟨⟨c1,c2⟩,c3⟩:=hc
    obtain ⟨s1,s2⟩:=KA (P:=P) h hd ho h1 h2 h3 g1 e g2 c1 c2 c3
    cases own with
    |false =>
     have e2:some st'=some { st1 with boxes:=st1.boxes.set p { bx with cs:=bx.cs.take j++v.cells.map .pv++bx.cs.drop (j+n) } }:=by rw [← hp];cases v<;>rfl
     rw [ZD.inj e2];exact s1 rfl
    |true =>
     obtain ⟨_,_,_,_,_,k5⟩:=h.consume h2 g1
     obtain ⟨sz,es,m,rfl,_⟩:=k5 rfl
     have hp2:=ZD.inj hp
     rw [← hp2];exact s2 sz es rfl rfl
  case h_2 r i j e =>
   replace hp:=bind_some hp
   obtain ⟨⟨sz,es⟩,g2,hp⟩:=hp
   replace hp:=bind_some hp
   obtain ⟨el,g3,hp⟩:=hp
   simp only at hp g3
   split at hp
   case isFalse=>cases hp
   rename_i g4
   replace hp:=bind_some hp
   obtain ⟨cs,g5,hp⟩:=hp
   replace hp:=bind_some hp
   obtain ⟨e',g6,hp⟩:=hp
   rw [← ZD.inj hp]
   exact NT h hd ho h1 h2 h3 g1 e g2 g3 g4 g5 g6
 case call d f xs=>exact absurd rfl (hc d f xs)
 case lG d x xs=>exact absurd rfl (hv d x xs)
 case yield d x xs=>exact absurd rfl (hy d x xs)
 case Kv d f x g=>exact absurd rfl (hsr d f x g)
 case lin d f x xs=>exact absurd rfl (hli d f x xs)
 case linv d g x xs=>exact absurd rfl (hlv d g x xs)
 case bxw d x =>
  split at hm<;>try (cases hm;done)
  rename_i ho
  simp only [act] at hp
  split at hp
  case h_2=>cases hp
  rename_i m
  split at hp
  case h_2=>cases hp
  rename_i l e
  obtain ⟨cs,hcs,hp1⟩:=bind_some hp
  clear hp
  have hp:=ZD.inj hp1
  subst hp
  obtain ⟨nx,v,w1,σ1,T1,q1,q2,q3,q4,q5,_⟩:=acG h hd ho hm e hcs
  exact ⟨nx,v,w1,σ1,T1,q1,q2,q3,q4,q5,fun e=>by cases e⟩
 case stw n x x2 =>
  split at hm<;>try (cases hm;done)
  rename_i T0 y y2 ho
  simp only [ZZ,beq_iff_eq] at hm
  obtain ⟨⟨h1,h2⟩,h3⟩:=hm
  simp only [act] at hp
  split at hp
  case h_2=>cases hp
  rename_i m
  split at hp
  case h_3=>cases hp
  case h_1 =>
   rename_i l e0
   split at hp
   case h_2=>cases hp
   rename_i p j e1
   replace hp:=bind_some hp
   obtain ⟨bx,g2,hp⟩:=hp
   replace hp:=bind_some hp
   obtain ⟨cs,g3,hp⟩:=hp
   split at hp
   ·cases hp
   ·rename_i hc
    simp only [Za7,ZaR,decide_eq_false_iff_not,not_or,Zbr,Decidable.not_not] at hc
    rw [← ZD.inj hp]
    exact acD h hd (by simpa using ho) h1 h2 h3 e0 e1 g2 hc.1.1 g3 hc.1.2 hc.2
  case h_2 =>
   rename_i zs e0
   split at hp
   case h_2=>cases hp
   rename_i p j e1
   replace hp:=bind_some hp
   obtain ⟨bx,g2,hp⟩:=hp
   split at hp
   ·cases hp
   ·rename_i hc
    simp only [Za7,ZaR,decide_eq_false_iff_not,not_or,Zbr,Decidable.not_not] at hc
    rw [← ZD.inj hp]
    exact acE h hd (by simpa using ho) h1 h2 h3 e0 e1 g2 hc.1.1 hc.1.2 hc.2
 all_goals simp [act] at hp
end
section
variable {P:Program}{L:Nat}{σ σ':Nat→Nat}{T T' T1:Tags}{st st' st1:St}{a:Act}{w w1:World}{o:Oper}{vo:iG}{y:Operand}{x:bU}
 {rec:ay→St→Option (Ex×St)} {env:Env}
structure lu (T T':Tags)(st st':St):Prop where
 keep:∀ b,T' b=T b∨(T b≠.other∧T' b=.ro)
 rows:∀ r sz es,st.row r=some (sz,es)→st'.row r=some (sz,es)∨∀ b,T b=.row r→T' b=.ro
 boxes:∀ (p:Nat) bx,st.boxes[p]?=some bx→(∃ bx',st'.boxes[p]?=some bx'∧bx'.fz=bx.fz)∨((∀ b,T b=.box p→T' b=.ro)∧∀ b j,T b=.row (.cell p j)→T' b=.ro)
 slots:∀ x,st'.get x=st.get x∨∃ sz es,st.get x=.row sz es∧st'.get x=.pv (.list sz es)
 gone:∀ n sz es,st.get (.t n)=.row sz es→st'.get (.t n)=.pv (.list sz es)→∀ b,T b=.row (.slot n)→T' b=.ro
theorem lu.refl (T:Tags)(st:St):lu T T st st:=⟨fun _=>.inl rfl,fun _ _ _ h=>.inl h,fun _ bx h=>.inl ⟨bx,h,rfl⟩,fun _=>.inl rfl,fun n sz es h1 h2=>by rw [h1] at h2;cases h2⟩
theorem lu.still (h:lu T T' st st'):Still T T':=⟨fun b e=>by rcases h.keep b with k|k;rw [k];exact e;exact k.2,fun b e=>by rcases h.keep b with k|k;rw [k];exact e;exact absurd e k.1⟩
theorem lu.VY (h:lu T T' st st'){r:Root}{b:Nat}(hb:T b=.row r):T' b=.row r∨T' b=.ro:=by
 rcases h.keep b with k|k
 ·rw [k];exact .inl hb
 ·exact .inr k.2
def F9 (x:bU):AV→Option Root
 |.row _ _=>match x with
  |.t n=>some (.slot n)
  |_=>none
 |.ref r _ _=>some r
 |.qx r _ _=>some r
 |_=>none
def NY:AV→Option Nat
 |.aO p _=>some p
 |_=>none
structure Needs (T T':Tags)(x:bU)(v:AV):Prop where
 root:∀ r,F9 x v=some r→∀ b,T b=.row r→T' b=.ro
 box:∀ p,NY v=some p→(∀ b,T b=.box p→T' b=.ro)∧∀ b j,T b=.row (.cell p j)→T' b=.ro
theorem Needs.still {v:AV}(h:Needs T T' x v)(k:Still T' T1):Needs T T1 x v :=
 ⟨fun r e b hb=>k.ro b (h.root r e b hb),fun p e=>⟨fun b hb=>k.ro b ((h.box p e).1 b hb),fun b j hb=>k.ro b ((h.box p e).2 b j hb)⟩⟩
theorem KD {r q:Root}(h:q≠r){sz:Nat}{es:List PV}(hq:st.row q=some (sz,es)):(st.freeze r).row q=some (sz,es):=by
 unfold St.freeze
 cases hr:st.row r with
 |none=>exact hq
 |some p =>
  obtain ⟨s,l⟩:=p
  cases r with
  |slot t=>exact (iy h).trans hq
  |part t i=>exact hq
  |cell o j =>
   cases q with
   |slot t=>simp only [St.setCell];split<;>exact hq
   |part t i=>simp [St.row] at hq
   |cell o' j' =>
    obtain ⟨bx,h1,h2,h3⟩:=dZ hq
    obtain ⟨bx2,g1,g2,g3⟩:=dZ hr
    simp only [St.setCell,g1,St.row,zp]
    by_cases ho:o=o'
    ·subst ho
     rw [g1] at h1;cases h1
     have hj:j≠j':=fun e=>h (by rw [e])
     simp only [if_true,if_pos (Z6.1 g1).1,h2,zg,if_false,zp,if_neg hj,h3]
    ·simp only [if_neg ho,h1,h2,zg,if_false,h3]
theorem Hr (r:Root)(x:bU):(st.freeze r).get x=st.get x∨∃ n sz es,x=.t n∧r=.slot n∧st.get x=.row sz es∧(st.freeze r).get x=.pv (.list sz es):=by
 cases x with
 |c v=>exact .inl rfl
 |nil s=>exact .inl rfl
 |t n =>
  unfold St.freeze
  cases hr:st.row r with
  |none=>exact .inl rfl
  |some p =>
   obtain ⟨s,l⟩:=p
   cases r with
   |part t i=>exact .inl rfl
   |cell o j=>left;simp only [St.setCell];split<;>rfl
   |slot t =>
    have hs:=fZ hr
    by_cases ht:t=n
    ·subst ht
     refine .inr ⟨t,s,l,rfl,rfl,by simp [St.get,Zcn,hs],?_⟩
     simp [St.get,St.put,Zcn,zp,(Z6.1 hs).1]
    ·left
     simp [St.get,St.put,Zcn,zp,ht]
theorem NZ (r:Root){p:Nat}{bx:Box}(hp:st.boxes[p]?=some bx):∃ bx',(st.freeze r).boxes[p]?=some bx'∧bx'.fz=bx.fz:=by
 unfold St.freeze
 cases hr:st.row r with
 |none=>exact ⟨bx,hp,rfl⟩
 |some q =>
  obtain ⟨s,l⟩:=q
  cases r with
  |slot t=>exact ⟨bx,hp,rfl⟩
  |part t i=>exact ⟨bx,hp,rfl⟩
  |cell o j =>
   obtain ⟨bx2,g1,g2,g3⟩:=dZ hr
   simp only [St.setCell,g1,zp]
   by_cases ho:o=p
   ·subst ho
    rw [g1] at hp;cases hp
    exact ⟨{ bx with cs:=bx.cs.set j (.pv (.list s l)) },by rw [if_pos rfl,if_pos (Z6.1 g1).1],rfl⟩
   ·exact ⟨bx,by rw [if_neg ho];exact hp,rfl⟩
theorem lu.freeze (h:lu T T' st st')(hs:aV L σ T' st' a w)(r:Root):∃ T1,lu T T1 st (st'.freeze r)∧aV L σ T1 (st'.freeze r) a w∧Still T' T1∧∀ sz es,st.row r=some (sz,es)→∀ b,T b=.row r→T1 b=.ro:=by
 cases hr:st'.row r with
 |none =>
  have e:st'.freeze r=st':=by unfold St.freeze;rw [hr]
  rw [e]
  refine ⟨T',h,hs,Still.refl _,fun sz es e b hb=>?_⟩
  rcases h.rows r sz es e with k|k
  ·rw [hr] at k;cases k
  ·exact k b hb
 |some p =>
  obtain ⟨s,l⟩:=p
  obtain ⟨T1,k1,k2,k3,k4,k5⟩:=hs.freeze r
  have hro:=k4 s l hr
  refine ⟨T1,⟨fun b=>?_,fun q sz es e=>?_,fun p bx e=>?_,fun x=>?_,fun n sz es e1 e2 b hb=>?_⟩,k1,k2,fun sz es e b hb=>?_⟩
  ·-- tags turn to 'ro' alone
   rcases h.keep b with g|g
   ·cases hT:T b with
    |ro=>left;exact k2.ro b (by rw [g,hT])
    |other=>left;exact k2.other b (by rw [g,hT])
    |row q =>
     by_cases hq:q=r
     ·subst hq;right;exact ⟨by simp,hro b (by rw [g,hT])⟩
     ·left;exact k3 b q hq (by rw [g,hT])
    |box o=>left;exact k5 b o (by rw [g,hT])
   ·right;exact ⟨g.1,k2.ro b g.2⟩
  ·by_cases hq:q=r
   ·subst hq
    right;intro b hb
    rcases h.VY hb with g|g
    ·exact hro b g
    ·exact k2.ro b g
   ·rcases h.rows q sz es e with g|g
    ·left;exact KD hq g
    ·right;exact fun b hb=>k2.ro b (g b hb)
  ·rcases h.boxes p bx e with ⟨bx',g1,g2⟩|⟨g1,g2⟩
   ·obtain ⟨arC,q1,q2⟩:=NZ r g1
    exact .inl ⟨arC,q1,q2.trans g2⟩
   ·exact .inr ⟨fun b hb=>k2.ro b (g1 b hb),fun b j hb=>k2.ro b (g2 b j hb)⟩
  ·rcases Hr (st:=st') r x with g|⟨n,sz,es,rfl,rfl,g1,g2⟩
   ·rw [g];exact h.slots x
   ·rcases h.slots (.t n) with q|⟨s2,l2,q1,q2⟩
    ·exact .inr ⟨sz,es,q ▸ g1,g2⟩
    ·rw [q2] at g1;cases g1
  ·rcases Hr (st:=st') r (.t n) with g|⟨n',sz',es',e3,rfl,g1,g2⟩
   ·rw [g] at e2;exact k2.ro b (h.gone n sz es e1 e2 b hb)
   ·cases e3
    rcases h.VY hb with g|g
    ·exact hro b g
    ·exact k2.ro b g
  ·rcases h.VY hb with g|g
   ·exact hro b g
   ·exact k2.ro b g
theorem lu.bD (h:lu T T' st st')(hs:aV L σ T' st' a w)(p:Nat):∃ T1,lu T T1 st (st'.bD p)∧aV L σ T1 (st'.bD p) a w∧Still T' T1∧((st.boxes[p]?).isSome=true→(∀ b,T b=.box p→T1 b=.ro)∧∀ b j,T b=.row (.cell p j)→T1 b=.ro):=by
 have hS:=hs.bD p
 cases hp:st'.boxes[p]? with
 |none =>
  have e:st'.bD p=st':=by unfold St.bD;rw [hp]
  rw [e]
  refine ⟨T',h,hs,Still.refl _,fun hx=>?_⟩
  obtain ⟨bx,hb⟩:=Zbk.1 hx
  rcases h.boxes p bx hb with ⟨bx',g1,_⟩|g
  ·rw [hp] at g1;cases g1
  ·exact g
 |some bx0 =>
  rw [hp] at hS
  simp only [Option.isSome_some,if_true] at hS
  have e:st'.bD p={ st' with boxes:=st'.boxes.set p ⟨true,bx0.cs.map BV.frozen⟩ }:=by unfold St.bD;rw [hp]
  have hpl:p<st'.boxes.length:=(Z6.1 hp).1
  have hbox:∀ b,T b=.box p→jW T' p b=.ro:=fun b hb=>by
   rcases h.keep b with k|k
   ·exact Lr (by rw [k,hb])
   ·exact jI k.2
  have hcell:∀ b j,T b=.row (.cell p j)→jW T' p b=.ro:=fun b j hb=>by
   rcases h.keep b with k|k
   ·exact GZ (by rw [k,hb])
   ·exact jI k.2
  refine ⟨jW T' p,⟨fun b=>?_,fun q sz es e1=>?_,fun q bx e1=>?_,fun x=>?_,fun n sz es e1 e2 b hb=>?_⟩,hS,Still.jW T' p,fun _=>⟨hbox,hcell⟩⟩
  ·rcases h.keep b with g|g
   ·cases hT:T b with
    |ro=>left;exact jI (by rw [g,hT])
    |other=>left;exact xM (by rw [g,hT])
    |box o =>
     by_cases ho:o=p
     ·subst ho;right;exact ⟨by simp,hbox b hT⟩
     ·left;exact Lp ho (by rw [g,hT])
    |row q =>
     by_cases hq:∃ j,q=.cell p j
     ·obtain ⟨j,rfl⟩:=hq;right;exact ⟨by simp,hcell b j hT⟩
     ·left;exact yT (fun j e=>hq ⟨j,e⟩) (by rw [g,hT])
   ·right;exact ⟨g.1,jI g.2⟩
  ·by_cases hq:∃ j,q=.cell p j
   ·obtain ⟨j,rfl⟩:=hq;right;exact fun b hb=>hcell b j hb
   ·rcases h.rows q sz es e1 with g|g
    ·left
     rw [e]
     cases q with
     |slot t=>exact g
     |part t i=>exact g
     |cell o j =>
      have ho:p≠o:=fun e=>hq ⟨j,by rw [e]⟩
      simp only [St.row,zp,if_neg ho] at g ⊢
      exact g
    ·right;exact fun b hb=>jI (g b hb)
  ·by_cases hq:q=p
   ·subst hq;exact .inr ⟨hbox,hcell⟩
   ·rcases h.boxes q bx e1 with ⟨bx',g1,g2⟩|⟨g1,g2⟩
    ·exact .inl ⟨bx',by rw [e];simp only [zp,if_neg (Ne.symm hq)];exact g1,g2⟩
    ·exact .inr ⟨fun b hb=>jI (g1 b hb),fun b j hb=>jI (g2 b j hb)⟩
  ·have:(st'.bD p).get x=st'.get x:=by rw [e];cases x<;>rfl
   rw [this];exact h.slots x
  ·have:(st'.bD p).get (.t n)=st'.get (.t n):=by rw [e];rfl
   rw [this] at e2
   exact jI (h.gone n sz es e1 e2 b hb)
def Held (st:St)(x:bU)(v:AV):Prop:=(∀ r,F9 x v=some r→(st.row r).isSome=true)∧∀ p,NY v=some p→(st.boxes[p]?).isSome=true
theorem lu.arg1 (h:lu T T' st st')(hs:aV L σ T' st' a w)(x:bU){v:AV}(hv:Held st x v):∃ T1,lu T T1 st (st'.bI x v)∧aV L σ T1 (st'.bI x v) a w∧Still T' T1∧Needs T T1 x v:=by
 have none':F9 x v=none→NY v=none→Needs T T' x v:=fun h1 h2=>Needs.mk (fun r e=>(by rw [h1] at e;cases e)) (fun p e=>(by rw [h2] at e;cases e))
 have root:∀ r,F9 x v=some r→NY v=none→∃ T1,lu T T1 st (st'.freeze r)∧aV L σ T1 (st'.freeze r) a w∧Still T' T1∧Needs T T1 x v:=fun r e1 e2=>by
  obtain ⟨T1,k1,k2,k4,k3⟩:=h.freeze hs r
  obtain ⟨⟨sz,es⟩,hr⟩:=Zbk.1 (hv.1 r e1)
  exact ⟨T1,k1,k2,k4,Needs.mk (fun q e b hb=>(by rw [e1] at e;cases e;exact k3 sz es hr b hb)) (fun p e=>(by rw [e2] at e;cases e))⟩
 unfold St.bI
 cases v with
 |row sz es =>
  cases x with
  |t n=>exact root (.slot n) rfl rfl
  |c v=>exact ⟨T',h,hs,Still.refl _,none' rfl rfl⟩
  |nil s=>exact ⟨T',h,hs,Still.refl _,none' rfl rfl⟩
 |ref r off len=>exact root r rfl rfl
 |qx r i j=>exact root r rfl rfl
 |aO p j =>
  obtain ⟨T1,k1,k2,k4,k3⟩:=h.bD hs p
  exact ⟨T1,k1,k2,k4,Needs.mk (fun r e=>(by cases e)) (fun q e=>(by cases e;exact k3 (hv.2 p rfl)))⟩
 |pv v=>exact ⟨T',h,hs,Still.refl _,none' rfl rfl⟩
 |fn f l=>exact ⟨T',h,hs,Still.refl _,none' rfl rfl⟩
 |lU k l=>exact ⟨T',h,hs,Still.refl _,none' rfl rfl⟩
 |FX s l=>exact ⟨T',h,hs,Still.refl _,none' rfl rfl⟩
 |pp o j=>exact ⟨T',h,hs,Still.refl _,none' rfl rfl⟩
 |tq=>exact ⟨T',h,hs,Still.refl _,none' rfl rfl⟩
 |any=>exact ⟨T',h,hs,Still.refl _,none' rfl rfl⟩
theorem lu.acH:∀ (l:List AV) {T':Tags} {st':St},lu T T' st st'→aV L σ T' st' a w→(∀ v∈l,Held st (.c .void) v)→∃ T1,lu T T1 st (l.foldl (fun s v=>s.bI (.c .void) v) st')∧aV L σ T1 (l.foldl (fun s v=>s.bI (.c .void) v) st') a w∧Still T' T1∧∀ v∈l,Needs T T1 (.c .void) v
 |[],T',st',h,hs,_=>⟨T',h,hs,Still.refl _,fun v hv=>by cases hv⟩
 |v::l,T',st',h,hs,hv=>by
  obtain ⟨T1,k1,k2,k4,k3⟩:=h.arg1 hs (.c .void) (hv v Zc4)
  obtain ⟨T2,q1,q2,q3,q4⟩:=lu.acH l k1 k2 (fun v hv'=>hv v (ZbF _ hv'))
  refine ⟨T2,q1,q2,k4.trans q3,fun u hu=>?_⟩
  rcases Zaf.1 hu with rfl|hu
  ·exact k3.still q3
  ·exact q4 u hu
def xR (T T':Tags)(x:bU):AV→Prop
 |.fn _ caps=>∀ v∈caps,Needs T T' (.c .void) v
 |v=>Needs T T' x v
def LQ (st:St)(x:bU):AV→Prop
 |.fn _ caps=>∀ v∈caps,Held st (.c .void) v
 |v=>Held st x v
theorem xR.still {v:AV}(h:xR T T' x v)(k:Still T' T1):xR T T1 x v:=by
 cases v<;>first|exact Needs.still h k|exact fun v hv=>(h v hv).still k
theorem lu.arg (h:lu T T' st st')(hs:aV L σ T' st' a w)(x:bU)(hv:LQ st x (st.get x)):∃ T1,lu T T1 st (st'.dh x)∧aV L σ T1 (st'.dh x) a w∧Still T' T1∧xR T T1 x (st.get x):=by
 rcases h.slots x with e|⟨sz,es,e1,e2⟩
 ·unfold St.dh
  rw [e]
  cases hg:st.get x with
  |fn f caps =>
   rw [hg] at hv
   exact h.acH caps hs hv
  |_ =>
   rw [hg] at hv
   exact h.arg1 hs x hv
 ·unfold St.dh
  rw [e1,e2]
  cases x with
  |t n=>exact ⟨T',h,hs,Still.refl _,Needs.mk (fun r e b hb=>(by cases e;exact h.gone n sz es e1 e2 b hb)) (fun p e=>(by cases e))⟩
  |c v=>cases e1
  |nil s=>cases e2
theorem lu.args:∀ (xs:List bU) {T':Tags} {st':St},lu T T' st st'→aV L σ T' st' a w→(∀ x∈xs,LQ st x (st.get x))→∃ T1,lu T T1 st (xs.foldl St.dh st')∧aV L σ T1 (xs.foldl St.dh st') a w∧Still T' T1∧∀ x∈xs,xR T T1 x (st.get x)
 |[],T',st',h,hs,_=>⟨T',h,hs,Still.refl _,fun v hv=>by cases hv⟩
 |x::xs,T',st',h,hs,hv=>by
  obtain ⟨T1,k1,k2,k4,k3⟩:=h.arg hs x (hv x Zc4)
  obtain ⟨T2,q1,q2,q3,q4⟩:=lu.args xs k1 k2 (fun v hv'=>hv v (ZbF _ hv'))
  refine ⟨T2,q1,q2,k4.trans q3,fun u hu=>?_⟩
  rcases Zaf.1 hu with rfl|hu
  ·exact k3.still q3
  ·exact q4 u hu
theorem Dx {v:AV}{p:PV}{fl:Bool}(h:st.snap v=some (p,fl))(hx:∀ sz es,v=.row sz es→∃ n,x=.t n∧st.get x=v∨x=.c .void∨∃ s,x=.nil s):Held st x v:=by
 unfold St.snap at h
 split at h
 ·exact ⟨fun r e=>(by cases e),fun p e=>(by cases e)⟩
 ·rename_i sz es
  refine ⟨fun r e=>?_,fun p e=>(by cases e)⟩
  obtain ⟨n,⟨rfl,hg⟩|rfl|⟨s,rfl⟩⟩:=hx sz es rfl
  ·cases e
   have:=mV hg (by simp)
   simp [St.row,this]
  ·cases e
  ·cases e
 ·rename_i r off len
  refine ⟨fun q e=>?_,fun p e=>(by cases e)⟩
  cases e
  split at h
  ·rename_i hr;rw [hr];rfl
  ·cases h
 ·rename_i o j
  refine ⟨fun q e=>(by cases e),fun p e=>?_⟩
  cases e
  split at h
  ·rename_i hb;rw [hb];rfl
  ·cases h
 ·rename_i r i j
  refine ⟨fun q e=>?_,fun p e=>(by cases e)⟩
  cases e
  split at h
  ·rename_i hr;rw [hr];rfl
  ·cases h
 ·cases h
theorem aV.snap (h:aV L σ T st a w){t:Nat}{v:AV}{u:Value}(hv:lq L σ T st a w t v u)(ht:∀ sz es,v=.row sz es→x=.t t){p:PV}{fl:Bool}(hs:st.snap v=some (p,fl))(hst:Still T T1)(hn:Needs T T1 x v):aA (fun b=>T1 b=.ro) w p u:=by
 have hro:∀ b,T b=.ro→b<w.heap.size→T1 b=.ro∧w.heap[b]?=w.heap[b]?:=fun b e _=>⟨hst.ro b e,rfl⟩
 unfold St.snap at hs
 split at hs
 ·cases hs;exact aA.frame hro hv
 ·rename_i sz es
  cases hs
  have hx:=ht sz es rfl
  subst hx
  exact aW.list (hn.root _ rfl) hst.ro hv
 ·rename_i r off len
  split at hs
  ·rename_i sz es hr
   split at hs
   ·rename_i hl
    cases hs
    exact h.NM hr (hv.2 sz es hr) hl (hn.root _ rfl) hst.ro
   ·cases hs
  ·cases hs
 ·rename_i o j
  split at hs
  ·rename_i bx hb
   cases hs
   obtain ⟨_,rfl⟩:=hv
   have hbx:=h.boxes o bx hb
   have hmem:=hbx.mem (T':=T1) (fun j b e=>(hn.box _ rfl).2 b j e) hst.ro
   have htag:T1 (σ o)=.ro:=by
    obtain ⟨_,_,_,_,h3,_⟩:=hbx
    split at h3
    ·exact hst.ro _ h3
    ·exact (hn.box _ rfl).1 _ h3
   have:=aA.vT (off:=0) j htag hbx.yS hmem
   rwa [Zan] at this
  ·cases hs
 ·rename_i r i j
  split at hs
  ·rename_i q es hr
   split at hs
   ·rename_i e he
    cases hs
    obtain ⟨b,rfl,h1,h2,h3⟩:=h.acp hr he (hv.2 _ es hr)
    exact aA.vT j (hn.root _ rfl b h1) h2 (h3.mono hst.ro)
   ·cases hs
  ·cases hs
 ·cases hs
end
def globs:List (Nat×List PV):=[(0,Lib.deBruijn64tab.map fun (n:Nat)=>PV.int .u8 (n:Int))]
def kF (T:Tags)(w:World):Prop:=∀ p∈globs,aA (fun b=>T b=.ro) w (.dM p.2 0) (.pointer (some ⟨p.1,0,none⟩))
theorem kF.frame {T T':Tags}{w w':World}(h:kF T w)(hf:∀ b,T b=.ro→b<w.heap.size→T' b=.ro∧w'.heap[b]?=w.heap[b]?):kF T' w':=fun p hp=>(h p hp).frame hf
theorem kF.pV {T T':Tags}{w w':World}(h:kF T w)(hr:∀ b,T b=.ro→T' b=.ro)(hs:∀ b,b<w.heap.size→T b=.ro→w'.heap[b]?=w.heap[b]?):kF T' w':=h.frame fun b e hb=>⟨hr b e,hs b hb e⟩
def R1 (T:Tags)(w:World)(i:Nat):nC→Value→Prop
 |(.list sz es,true),u=>aW T w (.part 0 i) sz es u
 |(.agg cs,true),u=>∃ arr:Array Value,u=.agg arr∧arr.size=cs.length∧∀ (k:Nat) x v,cs[k]?=some x→arr[k]?=some v→jD T w 0 k (Zy x) v
 |(x,_),u=>aA (fun b=>T b=.ro) w x u
def kG (T:Tags)(w:World)(rs:List nC)(v:Value):Prop :=
 ∃ arr:Array Value,arr.size=rs.length∧v=(if arr.size=1 then arr.getD 0 undef else .tuple arr)∧∀ (i:Nat) r u,rs[i]?=some r→arr[i]?=some u→R1 T w i r u
def nP (P:Program)(f:Nat)(args:List PV)(rs:List nC):Prop :=
 ∀ (T0:Tags) (w:World) (vs:List Value),(∀ b,T0 b=.ro∨T0 b=.other)→(∀ b,w.heap.size≤b→T0 b=.other)→vs.length=args.length→(∀ (i:Nat) x v,args[i]?=some x→vs[i]?=some v→aA (fun b=>T0 b=.ro) w x v)→kF T0 w →
  Calls P f vs.toArray w (fun e w'=>∃ v T',e=.returned v∧Below w.heap.size w w'∧(∀ b,b<w.heap.size→T' b=T0 b)∧(∀ b,w'.heap.size≤b→T' b=.other)∧kG T' w' rs v)
def RF (P:Program)(f:Nat)(args:List PV)(t:Nat)(n:Int):Prop :=
 ∀ (T0:Tags) (w:World) (vs:List Value),(∀ b,T0 b=.ro∨T0 b=.other)→(∀ b,w.heap.size≤b→T0 b=.other)→vs.length=args.length→(∀ (i:Nat) x v,args[i]?=some x→vs[i]?=some v→aA (fun b=>T0 b=.ro) w x v)→kF T0 w →
  Calls P f vs.toArray w (fun e w'=>e=.panicked [{ v:=.iface t (.int .i64 n),recovered:=false }]∧Below w.heap.size w w')
def ahl (T:Tags)(w:World)(v:Value):mg→Prop
 |.row sz es=>aW T w (.slot 0) sz es v
 |.own l=>∃ arr:Array Value,v=.agg arr∧arr.size=l.length∧∀ (k:Nat) x u,l[k]?=some x→arr[k]?=some u→jD T w 0 k x u
 |.box cs=>∃ b,v=.pointer (some ⟨b,0,none⟩)∧eU T w b 0 ⟨false,cs.map .pv⟩
def acI (T:Tags)(w:World)(v:Value):Option (List PV)→Prop
 |none=>True
 |some cs=>∀ b,v=.pointer (some ⟨b,0,none⟩)→T b=.other∧∃ arr E,w.heap[b]?=some (.cells arr E (0,0))∧arr.size=cs.length∧∀ (j:Nat) x u,cs[j]?=some x→arr[j]?=some u→u.oneCell'=true∧aA (fun b=>T b=.ro) w x u
def Yz (P:Program)(f:Nat)(x:mg)(args:List PV)(rs:List nC)(out:Option (List PV)):Prop :=
 ∀ (T0:Tags) (w:World) (v:Value) (vs:List Value),(∀ b,w.heap.size≤b→T0 b=.other)→ahl T0 w v x→vs.length=args.length→(∀ (i:Nat) x v,args[i]?=some x→vs[i]?=some v→aA (fun b=>T0 b=.ro) w x v)→kF T0 w →
  Calls P f (v::vs).toArray w (fun e w'=>∃ u T',e=.returned u∧w.heap.size≤w'.heap.size∧w'.os=w.os∧w'.tape=w.tape∧w'.output=w.output∧(∀ b,b<w.heap.size→(T0 b=.ro∨T0 b=.other)→w'.heap[b]?=w.heap[b]?∧T' b=T0 b)∧(∀ b,w'.heap.size≤b→T' b=.other)∧kG T' w' rs u∧acI T' w' v out)
def N7 (P:Program)(f:Nat)(h:PV→List PV→Option (List PV)):Prop :=
 ∀ (c:PV) (sz:Nat) (es es':List PV),h c es=some es'→∀ (T:Tags) (w:World) (r:Root) (v cv:Value),(∀ b,w.heap.size≤b→T b=.other)→aW T w r sz es v→aA (fun b=>T b=.ro) w c cv →
  Calls P f #[v,cv] w (fun e w'=>∃ u,e=.returned u∧w.heap.size≤w'.heap.size∧w'.os=w.os∧w'.tape=w.tape∧w'.output=w.output∧(∀ b,b<w.heap.size→T b≠.row r→w'.heap[b]?=w.heap[b]?)∧aW T w' r sz es' v)
section
variable {P:Program}{L:Nat}{σ σ':Nat→Nat}{T T' T1 T2:Tags}{st st' st1:St}{a:Act}{w w1:World}{o:Oper}{vo:iG}{y:Operand}{x:bU}{d:Nat}
 {rec:ay→St→Option (Ex×St)} {env:Env}
theorem Ht {ok ok':Nat→Prop}{x:PV}{u:Value}(hx:x.scalar=true)(h:aA ok w x u):aA ok' w1 x u:=by
 cases x<;>simp only [PV.scalar,reduceCtorEq] at hx
 case int k n=>rw [h.bP];exact .int _ _
 case bool b=>rw [h.iJ];exact .bool _
 case str s=>rw [h.Yr];exact .str _
 case agg cs =>
  obtain ⟨arr,rfl,h1,h2,h3⟩:=h.lW
  refine .agg cs arr h1 h2 (fun j x v hx' hv=>?_)
  have hs:=zE.1 hx x (Zab hx')
  have hp:=h3 j x v hx' hv
  cases x<;>simp only [reduceCtorEq] at hs
  ·rw [hp.bP];exact .int _ _
  ·rw [hp.iJ];exact .bool _
  ·rw [hp.Yr];exact .str _
open Classical in
noncomputable def laid (T T':Tags)(old:Nat→Prop)(d:Nat)(one:Bool):Tags:=fun b=>if old b then T b else match T' b with
 |.ro=>.ro
 |.row (.part 0 i)=>if one then (if i=0 then .row (.slot d) else .other) else .row (.part d i)
 |_=>.other
def oneRow:List nC→Bool
 |[(.agg _,true)]=>false
 |l=>l.length==1
theorem aV.results (h:aV L σ T st a w){rs:List nC}{v:Value}{T':Tags}{old:Nat→Prop}(hn:∀ b,old b→b<w.heap.size)(RG:∀ b,¬ old b→T b=.other)(hfr:∀ b,w.heap.size≤b→T' b=.other)(hr:kG T' w rs v)
  (hro:(∀ b,old b→T' b=.ro→T b=.ro)∨rs.all (·.1.scalar)=true) (hrow:∀ b i,old b→T' b≠.row (.part 0 i)) :
  aV L σ (laid T T' old d (oneRow rs)) (st.layAll d rs) (a.put (some d) v) w:=by
 obtain ⟨arr,h1,h2,h3⟩:=hr
 obtain ⟨TT,ZR⟩:∃ TT,TT=laid T T' old d (oneRow rs):=⟨_,rfl⟩
 rw [← ZR]
 have hmore:aV L σ TT st a w:=h.more (fun b hb=>by
  have hl:old b:=Zcl fun g=>hb (RG b g)
  rw [ZR];simp [laid,hl]) (fun b hb=>by rw [ZR];simp [laid,show ¬ old b from fun g=>by have:=hn b g;omega,hfr b hb])
 have hrep:∀ (x:PV) u,aA (fun b=>T' b=.ro) w x u→(rs.all (·.1.scalar)=true→x.scalar=true)→aA (fun b=>TT b=.ro) w x u:=fun x u hx hs=>by
  rcases hro with g|g
  ·refine hx.frame fun b hb _=>⟨?_,rfl⟩
   rw [ZR]
   by_cases hl:old b
   ·simp [laid,hl,g b hl hb]
   ·simp [laid,hl,hb]
  ·exact Ht (hs g) hx
 have N9:∀ (i sz:Nat) (es:List PV) u r',(∀ b,¬ old b→T' b=.row (.part 0 i)→TT b=.row r')→(∀ b,old b→T' b=.ro→T b=.ro)→aW T' w (.part 0 i) sz es u→aW TT w r' sz es u:=fun i sz es u r' hr' g hx=>by
  refine hx.frame (fun b hb _=>⟨hr' b ?_ hb,rfl⟩) (fun b hb _=>⟨?_,rfl⟩)
  ·exact fun g=>hrow b i g hb
  ·rw [ZR]
   by_cases hl:old b
   ·simp [laid,hl,g b hl hb]
   ·simp [laid,hl,hb]
 by_cases hone:rs.length=1
 ·obtain ⟨⟨x,own⟩,rfl⟩:∃ r,rs=[r]:=by
   match rs,hone with
   |[r],_=>exact ⟨r,rfl⟩
  have ha:arr.size=1:=h1
  have e0:arr[0]?=some arr[0]:=zj (by omega)
  have hv:v=arr[0]:=by rw [h2,if_pos ha,ZaN,e0];rfl
  have hr:=h3 0 (x,own) arr[0] rfl e0
  rw [← hv] at hr
  have hpv:aA (fun b=>T' b=.ro) w x v→aV L σ TT (st.put d (.pv x)) (a.put (some d) v) w:=fun hx=>hmore.AX (hrep x v hx (fun e=>by simpa using e))
  simp only [St.layAll,St.lay]
  cases own with
  |false =>
   have hx:aA (fun b=>T' b=.ro) w x v:=by cases x<;>exact hr
   simpa using hpv hx
  |true =>
   simp only [if_true]
   cases x with
   |list sz es =>
    have hr':aW T' w (.part 0 0) sz es v:=hr
    rcases hro with g|g
    ·have hT1:∀ b,¬ old b→T' b=.row (.part 0 0)→TT b=.row (.slot d):=fun b hb e=>by rw [ZR];simp [laid,oneRow,hb,e]
     exact hmore.putRow (N9 0 sz es v _ hT1 g hr') (fun _ e=>e) (fun _ _ e=>e) hmore.fresh (fun _ _ _ _ _ _ e=>e) (fun _ _ _ _ _ _ _ e=>e) (fun _ _ _ e=>e)
    ·simp [PV.scalar] at g
   |agg cs =>
    obtain ⟨Bh,g1,g2,g3⟩:=hr
    refine hmore.put (by simp) ⟨Bh,g1,by simp [g2],fun k av u hk hu=>?_⟩
    rw [zb] at hk
    cases e:cs[k]? with
    |none=>rw [e] at hk;cases hk
    |some y =>
     rw [e] at hk
     have hk:=ZD.inj hk
     subst hk
     have hp:=g3 k y u e hu
     have hpv2:aA (fun b=>T' b=.ro) w y u→(∀ sz es,y≠.list sz es)→aA (fun b=>TT b=.ro) w y u:=fun hx hy=>by
      rcases hro with g|g
      ·refine hx.frame fun b hb _=>⟨?_,rfl⟩
       rw [ZR]
       by_cases hl:old b
       ·simp [laid,hl,g b hl hb]
       ·simp [laid,hl,hb]
      ·refine Ht ?_ hx
       have g':(PV.agg cs).scalar=true:=by simpa using g
       have hs:=zE.1 g' y (Zab e)
       cases y<;>simp only [reduceCtorEq] at hs<;>rfl
     cases y with
     |list sz es =>
      rcases hro with g|g
      ·exact N9 k sz es u _ (fun b hb e=>by rw [ZR];simp [laid,oneRow,hb,e]) g hp
      ·have g':(PV.agg cs).scalar=true:=by simpa using g
       have hs:=zE.1 g' _ (Zab e)
       simp at hs
     |_=>exact hpv2 hp (fun _ _ e=>by cases e)
   |_=>exact hpv hr
 ·-- several results
  have hne:¬ arr.size=1:=by omega
  have hv:v=.tuple arr:=by rw [h2,if_neg hne]
  have h1r:oneRow rs=false:=by
   match rs,hone with
   |[],_=>rfl
   |_::_::_,_=>simp [oneRow]
  have hl:st.layAll d rs=st.put d (.lU false (rs.map fun r=>match r with
    |(.list sz es,true)=>.row sz es
    |(.agg _,true)=>.any
    |(v,_)=>.pv v)):=by
   match rs,hone with
   |[],_=>rfl
   |_::_::_,_=>rfl
  rw [hl]
  refine hmore.put (by simp) ⟨arr,hv,by simp [h1],fun k av u hk hu=>?_⟩
  rw [zb] at hk
  cases e:rs[k]? with
  |none=>rw [e] at hk;cases hk
  |some r =>
   rw [e] at hk
   have hk:=ZD.inj hk
   subst hk
   obtain ⟨x,own⟩:=r
   have hr:=h3 k (x,own) u e hu
   have hsc:rs.all (·.1.scalar)=true→x.scalar=true:=fun g=>zE.1 g (x,own) (Zab e)
   have hpv:aA (fun b=>T' b=.ro) w x u→jD TT w d k (.pv x) u:=fun hx=>hrep x u hx hsc
   cases own with
   |false =>
    have hx:aA (fun b=>T' b=.ro) w x u:=by cases x<;>exact hr
    have:=hpv hx
    cases x<;>exact this
   |true =>
    cases x with
    |list sz es =>
     rcases hro with g|g
     ·exact N9 k sz es u _ (fun b hb e=>by rw [ZR];simp [laid,hb,e,h1r]) g hr
     ·have:=hsc g;simp [PV.scalar] at this
    |agg cs=>trivial
    |_=>exact hpv hr
end
section
variable {P:Program}{L:Nat}{σ σ':Nat→Nat}{T T' T1 T2:Tags}{st st' st1:St}{a:Act}{w w1:World}{o:Oper}{vo:iG}{y:Operand}{x:bU}{d:Nat}
 {rec:ay→St→Option (Ex×St)} {env:Env}
theorem aV.RH (h:aV L σ T st a w)(hm:bf y x=true){p:PV}{fl:Bool}(hs:st.kD (st.get x)=some (p,fl)) :
  LQ st x (st.get x)∧(fl=false→aA (fun b=>T b=.ro) w p (a.eval y))∧∀ T1,Still T T1→xR T T1 x (st.get x)→aA (fun b=>T1 b=.ro) w p (a.eval y):=by
 have hrep:∃ t,lq L σ T st a w t (st.get x) (a.eval y)∧∀ sz es,st.get x=.row sz es→x=.t t∨(es=[]∧∃ s,x=.nil s∧a.eval y=.slice none 0 0):=by
  rcases h.get hm with ⟨t,rfl,(⟨_,g⟩|g)⟩|⟨v',rfl,g⟩|⟨s,rfl,g⟩
  ·exact ⟨t,g,fun _ _ _=>.inl rfl⟩
  ·rw [g] at hs;simp [St.kD,St.snap] at hs
  ·exact ⟨0,g,fun sz es e=>by simp [St.get] at e⟩
  ·refine ⟨0,?_,fun sz es e=>.inr ?_⟩
   ·rw [g];exact aW.nil _ _ _ _ _
   ·simp only [St.get,AV.row.injEq] at e;exact ⟨e.2.symm,s,rfl,g⟩
 obtain ⟨t,hv,hrow⟩:=hrep
 have hgen:∀ v,st.get x=v→(∀ f caps,v≠.fn f caps)→st.snap v=some (p,fl)→LQ st x v∧(fl=false→aA (fun b=>T b=.ro) w p (a.eval y))∧∀ T1,Still T T1→xR T T1 x v→aA (fun b=>T1 b=.ro) w p (a.eval y):=fun v e hf hsn=>by
  have an8:Held st x v:=Dx hsn (fun sz es e2=>by
   rcases hrow sz es (by rw [e,e2]) with g|⟨_,s,g,_⟩
   ·exact ⟨t,.inl ⟨g,e⟩⟩
   ·exact ⟨0,.inr (.inr ⟨s,g⟩)⟩)
  have hHF:LQ st x v:=by cases v<;>first|exact an8|exact absurd rfl (hf _ _)
  refine ⟨hHF,fun e2=>?_,fun T1 hst hn=>?_⟩
  ·subst e2;exact h.Ro (e ▸ hv) hsn
  ·have hn':Needs T T1 x v:=by cases v<;>first|exact hn|exact absurd rfl (hf _ _)
   by_cases hr:∃ sz es,v=.row sz es
   ·obtain ⟨sz,es,rfl⟩:=hr
    rcases hrow sz es e with g|⟨rfl,s,_,g⟩
    ·exact h.snap (e ▸ hv) (fun _ _ _=>g) hsn hst hn'
    ·simp only [St.snap,ZD.injEq,ZaD.injEq] at hsn
     rw [← hsn.1,g];exact .nil _ _
   ·exact h.snap (e ▸ hv) (fun sz es e2=>absurd ⟨sz,es,e2⟩ hr) hsn hst hn'
 cases hg:st.get x with
 |fn f caps =>
  rw [hg] at hs hv
  simp only [St.kD] at hs
  obtain ⟨l,h1,h2⟩:=bind_some hs
  have h2:=ZD.inj h2
  simp only [ZaD.injEq] at h2
  obtain ⟨rfl,rfl⟩:=h2
  obtain ⟨m1,m2⟩:=mapM_some h1
  obtain ⟨arr,e1,e2,e3⟩:=hv
  have hcap:∀ (k:Nat) c u,caps[k]?=some c→arr[k]?=some u→∃ q,st.snap c=some q∧l[k]?=some q∧iO st.boxes.length σ T w c u:=fun k c u hc hu=>by
   obtain ⟨q,g1,g2⟩:=m2 k c hc
   exact ⟨q,g1,g2,e3 k c u hc hu⟩
  have hnr:∀ (k:Nat) c,caps[k]?=some c→∀ sz es,c≠.row sz es:=fun k c hc sz es e=>by
   have hk:k<arr.size:=by rw [e2];exact (Z6.1 hc).1
   have:=e3 k c arr[k] hc (zj hk)
   rw [e] at this;exact this
  refine ⟨fun v hv=>?_,fun hfl=>?_,fun T1 hst hn=>?_⟩
  ·obtain ⟨k,hk⟩:=ZaZ.1 hv
   obtain ⟨q,g1,_⟩:=m2 k v hk
   exact Dx g1 (fun sz es e=>absurd e (hnr k v hk sz es))
  ·rw [e1]
   refine .func f _ arr (by simp [m1,e2]) (fun j p u hp hu=>?_)
   rw [zb] at hp
   cases hl:l[j]? with
   |none=>rw [hl] at hp;cases hp
   |some q =>
    rw [hl] at hp;cases hp
    have hj:j<caps.length:=by rw [← m1];exact (Z6.1 hl).1
    obtain ⟨q',g1,g2,g3⟩:=hcap j caps[j] u (ZS hj) hu
    rw [hl] at g2;cases g2
    have hq:q.2=false:=by
     have:=ZbA.1 hfl q (Zab hl)
     simpa using this
    obtain ⟨q1,q2⟩:=q
    simp only at hq;subst hq
    exact h.Ro (g3.ZL rfl 0) g1
  ·rw [e1]
   refine .func f _ arr (by simp [m1,e2]) (fun j p u hp hu=>?_)
   rw [zb] at hp
   cases hl:l[j]? with
   |none=>rw [hl] at hp;cases hp
   |some q =>
    rw [hl] at hp;cases hp
    have hj:j<caps.length:=by rw [← m1];exact (Z6.1 hl).1
    have hcj:caps[j]?=some caps[j]:=ZS hj
    obtain ⟨q',g1,g2,g3⟩:=hcap j caps[j] u hcj hu
    rw [hl] at g2;cases g2
    exact h.snap (x:=.c .void) (g3.ZL rfl 0) (fun sz es e=>absurd e (hnr j _ hcj sz es)) g1 hst (hn _ (List.getElem_mem hj))
 |_ =>
  rw [hg] at hs
  exact hgen _ hg (by simp) hs
def callable (P:Program)(f:Nat):Bool :=
 match P.funcs[f]? with
 |some fn=>fn.name != "runtime.NumGoroutine"&&fn.body.isSome
 |none=>false
theorem nR {f:Nat}(h:callable P f=true)(args:Array Value)(w:World):(callFunc f args).run P w=.ok (.enter f args) w:=by
 unfold callable at h
 split at h
 ·rename_i fn hf
  simp only [ZZ,bne_iff_ne,ne_eq] at h
  obtain ⟨h1,h2⟩:=h
  obtain ⟨b,hb⟩:=Zbk.1 h2
  simp [callFunc,program,Sem.run,hf,h1,hb]
 ·cases h
theorem Bo:∀ {ys:List Operand} {xs:List bU},oP ys xs=true→ys.length=xs.length∧∀ (i:Nat) y x,ys[i]?=some y→xs[i]?=some x→bf y x=true
 |[],[],_=>⟨rfl,fun i y x hy=>by simp at hy⟩
 |[],_::_,h=>by simp [oP] at h
 |_::_,[],h=>by simp [oP] at h
 |y::ys,x::xs,h=>by
  simp only [oP,ZZ] at h
  obtain ⟨g1,g2⟩:=Bo h.2
  refine ⟨by simp [g1],fun i y' x' hy hx=>?_⟩
  cases i with
  |zero=>simp at hy hx;subst hy;subst hx;exact h.1
  |succ i=>exact g2 i y' x' (by simpa using hy) (by simpa using hx)
def gQ (P:Program)(rec:ay→St→Option (Ex×St))(env:Env):Prop :=
 (∀ f args rs,jk rec env f args=some rs→callable P f=true∧nP P f args rs)∧(∀ f h,env f=some (.Kv h)→callable P f=true∧N7 P f h)∧(∀ f x args rs out,tu rec env f x args=some (rs,out)→callable P f=true∧Yz P f x args rs out)∧∀ f args t n,Fg rec env f args=some (some (t,n))→callable P f=true∧RF P f args t n
theorem Oa (bC:gQ P rec env)(h:aV L σ T st a w)(hG:kF T w){ys:List Operand}{xs:List bU}(hm:oP ys xs=true){caps:List AV}{rX:List Value}(hc:rX.length=caps.length)(hcr:∀ (k:Nat) c u,caps[k]?=some c→rX[k]?=some u→iO st.boxes.length σ T w c u){f:Nat}
  (hp:kE rec env d f xs caps st=some st'):callable P f=true∧Calls P f (ys.map a.eval++rX).toArray w (fun e w'=>∃ v T2,e=.returned v∧aV L σ T2 st' (a.put (some d) v) w'∧zQ T T2 w w'∧Whole w w'):=by
 unfold kE at hp
 obtain ⟨l,h1,hp1⟩:=bind_some hp
 clear hp
 obtain ⟨k,h2,hp2⟩:=bind_some hp1
 clear hp1
 obtain ⟨rs,h3,hp3⟩:=bind_some hp2
 clear hp2
 have hp:=ZD.inj hp3
 clear hp3
 obtain ⟨hcall,hok⟩:=bC.1 f _ rs h3
 obtain ⟨l1,l2⟩:=mapM_some h1
 obtain ⟨k1,k2⟩:=mapM_some h2
 obtain ⟨m1,m2⟩:=Bo hm
 refine ⟨hcall,?_⟩
 have hop:∀ (i:Nat) x,xs[i]?=some x→∃ y q,ys[i]?=some y∧bf y x=true∧st.kD (st.get x)=some q∧l[i]?=some q:=fun i x hx=>by
  obtain ⟨q,g1,g2⟩:=l2 i x hx
  have hi:i<ys.length:=by rw [m1];exact (Z6.1 hx).1
  exact ⟨ys[i],q,ZS hi,m2 i _ x (ZS hi) hx,g1,g2⟩
 have hcap:∀ (i:Nat) c,caps[i]?=some c→∃ u q,rX[i]?=some u∧iO st.boxes.length σ T w c u∧st.snap c=some q∧k[i]?=some q:=fun i c hx=>by
  obtain ⟨q,g1,g2⟩:=k2 i c hx
  have hi:i<rX.length:=by rw [hc];exact (Z6.1 hx).1
  exact ⟨rX[i],q,ZS hi,hcr i c _ hx (ZS hi),g1,g2⟩
 have hnr:∀ (i:Nat) c,caps[i]?=some c→∀ sz es,c≠.row sz es:=fun i c hx sz es e=>by
  obtain ⟨u,q,_,g,_⟩:=hcap i c hx
  rw [e] at g;exact g
 have akW:∀ x∈xs,LQ st x (st.get x):=fun x hx=>by
  obtain ⟨i,hi⟩:=ZaZ.1 hx
  obtain ⟨y,⟨p,fl⟩,_,g2,g3,_⟩:=hop i x hi
  exact (h.RH g2 g3).1
 have akX:∀ v∈caps,Held st (.c .void) v:=fun v hv=>by
  obtain ⟨i,hi⟩:=ZaZ.1 hv
  obtain ⟨u,⟨p,fl⟩,_,_,g,_⟩:=hcap i v hi
  exact Dx g (fun sz es e=>absurd e (hnr i v hi sz es))
 -- the tags under which the arguments are read only
 have an9:∃ T1,lu T T1 st (caps.foldl (fun s v=>s.bI (.c .void) v) (xs.foldl St.dh st))∧aV L σ T1 (caps.foldl (fun s v=>s.bI (.c .void) v) (xs.foldl St.dh st)) a w∧(∀ x∈xs,xR T T1 x (st.get x))∧∀ v∈caps,Needs T T1 (.c .void) v:=by
  obtain ⟨T1,f1,f2,f3,f4⟩:=lu.args xs (lu.refl T st) h akW
  obtain ⟨T2,g1,g2,g3,g4⟩:=lu.acH caps f1 f2 akX
  exact ⟨T2,g1,g2,fun x hx=>(f4 x hx).still g3,g4⟩
 -- from such tags to what the call leaves
 have hgo:∀ T1,Still T T1→(∀ (i:Nat) p v,(l.map (·.1)++k.map (·.1))[i]?=some p→(ys.map a.eval++rX)[i]?=some v→aA (fun b=>T1 b=.ro) w p v)→∀ Tc st1,aV L σ Tc st1 a w→Still T Tc→((∀ b,T1 b=.ro→Tc b=.ro)∨rs.all (·.1.scalar)=true)→st1.layAll d rs=st' →
   Calls P f (ys.map a.eval++rX).toArray w (fun e w'=>∃ v T2,e=.returned v∧aV L σ T2 st' (a.put (some d) v) w'∧zQ T T2 w w'∧Whole w w'):=fun T1 hst hargs Tc st1 hS akY hro hst'=>by
  obtain ⟨T0,hT0⟩:∃ T0:Tags,T0=fun b=>if T1 b=.ro then .ro else .other:=⟨_,rfl⟩
  have LU:∀ b,T0 b=.ro ↔ T1 b=.ro:=fun b=>by rw [hT0];simp only;split<;>simp [*]
  have h0:=hok T0 w (ys.map a.eval++rX) (fun b=>by rw [hT0];simp only;split<;>simp) (fun b hb=>by rw [hT0];simp only;rw [if_neg];rw [hst.other b (h.fresh b hb)];simp) (by simp [l1,k1,m1,hc]) (fun i p v hp hv=>(hargs i p v hp hv).frame fun b hb _=>⟨(LU b).2 hb,rfl⟩) (hG.frame fun b hb _=>⟨(LU b).2 (hst.ro b hb),rfl⟩)
  refine h0.mono ?_
  rintro e w' ⟨v,T',rfl,hB,hTb,hTf,hres⟩
  have hwh:Whole w w':=⟨hB.size,fun b hl=>hB.block b hl⟩
  have LV:∀ {TT:Tags},rQ TT w w':=fun {TT}=>hwh.sees
  have hS':=hS.sees (LV (TT:=Tc))
  have hfin:=hS'.results (old:=fun b=>b<w.heap.size) (fun b hb=>Zae hb hB.size) (fun b hb=>akY.other b (h.fresh b (ZbK hb))) hTf hres (hro.imp (fun g b hl hb=>g b ((LU b).1 (by rw [← hTb b hl];exact hb))) id) (fun b i hl e=>by
   rw [hTb b hl,hT0] at e;simp only at e;split at e<;>cases e) (d:=d)
  rw [hst'] at hfin
  refine ⟨v,_,rfl,hfin,⟨hB.size,hB.os,hB.tape,hB.output,fun b hl _=>hB.block b hl,fun b e=>?_,fun b hl e=>?_⟩,hwh⟩
  ·have hl:b<w.heap.size:=by
    rcases Zbf b w.heap.size with g|g
    ·exact g
    ·rw [h.fresh b g] at e;cases e
   simp [laid,hl,akY.ro b e]
  ·simp [laid,hl,akY.other b e]
 have hlen:(l.map (·.1)).length=(ys.map a.eval).length:=by simp [l1,m1]
 have hargs:∀ T1:Tags,(∀ (i:Nat) x y q,xs[i]?=some x→ys[i]?=some y→bf y x=true→st.kD (st.get x)=some q→l[i]?=some q→aA (fun b=>T1 b=.ro) w q.1 (a.eval y))→(∀ (i:Nat) c u q,caps[i]?=some c→iO st.boxes.length σ T w c u→st.snap c=some q→k[i]?=some q→aA (fun b=>T1 b=.ro) w q.1 u) →
   ∀ (i:Nat) p v,(l.map (·.1)++k.map (·.1))[i]?=some p→(ys.map a.eval++rX)[i]?=some v→aA (fun b=>T1 b=.ro) w p v:=fun T1 g1 g2 i p v hp hv=>by
  rcases Zbf i xs.length with hi|hi
  ·rw [Zad (by simp [l1,hi]),zb] at hp
   rw [Zad (by simp [m1,hi]),zb] at hv
   obtain ⟨y,q,q1,q2,q3,q4⟩:=hop i xs[i] (ZS hi)
   rw [q4] at hp;rw [q1] at hv
   cases hp;cases hv
   exact g1 i _ y q (ZS hi) q1 q2 q3 q4
  ·rw [zP (by simp [l1,hi]),zb] at hp
   rw [zP (by simp [m1,hi])] at hv
   simp only [Z2,l1] at hp
   simp only [Z2,m1] at hv
   cases hk:k[i - xs.length]? with
   |none=>rw [hk] at hp;cases hp
   |some q =>
    rw [hk] at hp;cases hp
    have hj:i - xs.length<caps.length:=by rw [← k1];exact (Z6.1 hk).1
    obtain ⟨u,q',q1,q2,q3,q4⟩:=hcap _ caps[i - xs.length] (ZS hj)
    rw [hk] at q4;cases q4
    rw [q1] at hv;cases hv
    exact g2 _ _ _ q (ZS hj) q2 q3 hk
 cases hfl:(l.any (·.2) || k.any (·.2)) with
 |false =>
  -- nothing of this call's own is handed over
  rw [hfl] at hp
  simp only [Bool.or_eq_false_iff] at hfl
  refine hgo T (Still.refl T) (hargs T (fun i x y q hx hy hmo hs hl=>?_) (fun i c u q hx hcr hs hk=>?_)) T st h (Still.refl T) (.inl fun _ e=>e) (by simpa using hp)
  ·have hq:q.2=false:=by have:=ZbA.1 hfl.1 q (Zab hl);simpa using this
   obtain ⟨q1,q2⟩:=q
   simp only at hq;subst hq
   exact (h.RH hmo hs).2.1 rfl
  ·have hq:q.2=false:=by have:=ZbA.1 hfl.2 q (Zab hk);simpa using this
   obtain ⟨q1,q2⟩:=q
   simp only at hq;subst hq
   exact h.Ro (hcr.ZL rfl 0) hs
 |true =>
  obtain ⟨T1,z1,z2,z3,z4⟩:=an9
  have hargs1:=hargs T1 (fun i x y q hx hy hmo hs hl=>by obtain ⟨q1,q2⟩:=q;exact (h.RH hmo hs).2.2 T1 z1.still (z3 x (Zab hx))) (fun i c u q hx hcr hs hk=>by obtain ⟨q1,q2⟩:=q;exact h.snap (x:=.c .void) (hcr.ZL rfl 0) (fun sz es e=>absurd e (hnr i c hx sz es)) hs z1.still (z4 c (Zab hx)))
  cases hsc:rs.all (·.1.scalar) with
  |true =>
   rw [hfl,hsc] at hp
   exact hgo T1 z1.still hargs1 T st h (Still.refl T) (.inr hsc) (by simpa using hp)
  |false =>
   rw [hfl,hsc] at hp
   exact hgo T1 z1.still hargs1 T1 _ z2 z1.still (.inl fun _ e=>e) (by simpa using hp)
end
section
variable {P:Program}{L:Nat}{σ σ':Nat→Nat}{T T' T1 T2:Tags}{st st' st1:St}{a:Act}{w w1:World}{o:Oper}{vo:iG}{y:Operand}{x:bU}{d:Nat}
 {rec:ay→St→Option (Ex×St)} {env:Env}
def EN (T:Tags)(n:Nat):Tags:=fun b=>match T b with
 |.row (.part t i)=>if t=n then .other else .row (.part t i)
 |q=>q
theorem lI {n b:Nat}{q:qG}(h:T b=q)(hq:∀ i,q≠.row (.part n i)):EN T n b=q:=by
 unfold EN
 rw [h]
 cases q with
 |row r =>
  cases r with
  |part t i =>
   by_cases e:t=n
   ·subst e;exact absurd rfl (hq i)
   ·simp [e]
  |slot t=>rfl
  |cell p j=>rfl
 |_=>rfl
theorem acJ {n i b:Nat}(h:T b=.row (.part n i)):EN T n b=.other:=by simp [EN,h]
theorem aV.ahm (h:aV L σ T st a w)(n:Nat):aV L σ (EN T n) (st.put n .any) a w:=by
 have h':=h.forget n
 have hw:∀ b,T b=.ro→b<w.heap.size→EN T n b=.ro∧w.heap[b]?=w.heap[b]?:=fun b e _=>⟨lI e (by simp),rfl⟩
 refine ⟨h'.size,fun t x u hx hu=>?_,fun p bx ho=>?_,fun b hb=>lI (h'.fresh b hb) (by simp)⟩
 ·refine (h'.slots t x u hx hu).keep hw (fun s l e b hb _=>⟨lI hb (by simp),rfl⟩) (fun l e i he b hb _=>⟨lI hb (fun j e2=>?_),rfl⟩) (fun q hq _ s l e=>⟨⟨l,e⟩,rfl⟩) (ze _) (fun _ _=>rfl)
  injection e2 with e2
  injection e2 with e2 _
  subst e2
  rw [e] at hx
  simp only [St.put,zp,if_true] at hx
  split at hx<;>cases hx
 ·have hb:=h'.boxes p bx ho
  have hT:EN T n (σ p)=T (σ p):=by
   obtain ⟨_,_,_,_,h3,_⟩:=hb
   refine lI rfl fun i e=>?_
   rw [h3] at e
   split at e<;>cases e
  exact hb.frame ⟨hT,rfl⟩ (fun j b e _=>⟨lI e (by simp),rfl⟩) hw
theorem ZT (st:St)(B:List Box)(d:Nat)(v:PV)(own:Bool):({ st with boxes:=B }:St).lay d v own={ st.lay d v own with boxes:=B }∧(st.lay d v own).boxes=st.boxes:=by
 unfold St.lay
 cases own with
 |false=>exact ⟨rfl,rfl⟩
 |true=>cases v<;>exact ⟨rfl,rfl⟩
theorem Bq (st:St)(B:List Box)(d:Nat)(rs:List nC):({ st with boxes:=B }:St).layAll d rs={ st.layAll d rs with boxes:=B }∧(st.layAll d rs).boxes=st.boxes:=by
 match rs with
 |[]=>exact ⟨rfl,rfl⟩
 |[(v,own)]=>exact ZT st B d v own
 |_::_::_=>exact ⟨rfl,rfl⟩
theorem Hu (bC:gQ P rec env)(h:aV L σ T st a w)(hG:kF T w)(hmx:bf y x=true){ys:List Operand}{xs:List bU}(hm:oP ys xs=true){caps:List AV}{rX:List Value}(hc:rX.length=caps.length)
  (hcr:∀ (k:Nat) c u,caps[k]?=some c→rX[k]?=some u→iO st.boxes.length σ T w c u) {f:Nat} (hp:rP rec env d f x xs caps st=some st') :
  callable P f=true∧Calls P f (a.eval y::(ys.map a.eval++rX)).toArray w (fun e w'=>∃ v T2,e=.returned v∧aV L σ T2 st' (a.put (some d) v) w'∧zQ T T2 w w'):=by
 unfold rP at hp
 obtain ⟨l,h1,hp1⟩:=bind_some hp
 clear hp
 obtain ⟨k,h2,hp2⟩:=bind_some hp1
 clear hp1
 obtain ⟨⟨la,bo,s1⟩,h3,hp3⟩:=bind_some hp2
 clear hp2
 obtain ⟨⟨rs,out⟩,h4,hp4⟩:=bind_some hp3
 clear hp3
 obtain ⟨s2,h5,hp5⟩:=bind_some hp4
 clear hp4
 have hp:=ZD.inj hp5
 clear hp5
 simp only at h4 h5 hp
 split at h3
 ·cases h3
 rename_i hfl
 simp only [Za7,not_or,Zbr] at hfl
 obtain ⟨hcall,hok⟩:=bC.2.2.1 f la _ rs out h4
 refine ⟨hcall,?_⟩
 obtain ⟨l1,l2⟩:=mapM_some h1
 obtain ⟨k1,k2⟩:=mapM_some h2
 obtain ⟨m1,m2⟩:=Bo hm
 have hlen:(ys.map a.eval++rX).length=(l.map (·.1)++k.map (·.1)).length:=by simp [l1,k1,m1,hc]
 have hargs:∀ (i:Nat) p v,(l.map (·.1)++k.map (·.1))[i]?=some p→(ys.map a.eval++rX)[i]?=some v→aA (fun b=>T b=.ro) w p v:=fun i p v hpi hv=>by
  rcases Zbf i xs.length with hi|hi
  ·rw [Zad (by simp [l1,hi]),zb] at hpi
   rw [Zad (by simp [m1,hi]),zb] at hv
   obtain ⟨q,g1,g2⟩:=l2 i xs[i] (ZS hi)
   have hi2:i<ys.length:=by rw [m1];exact hi
   rw [g2] at hpi
   rw [ZS hi2] at hv
   cases hpi;cases hv
   have hq:q.2=false:=by have:=ZbA.1 hfl.1 q (Zab g2);simpa using this
   obtain ⟨q1,q2⟩:=q
   simp only at hq;subst hq
   exact (h.RH (m2 i _ _ (ZS hi2) (ZS hi)) g1).2.1 rfl
  ·rw [zP (by simp [l1,hi]),zb] at hpi
   rw [zP (by simp [m1,hi])] at hv
   simp only [Z2,l1] at hpi
   simp only [Z2,m1] at hv
   cases hk:k[i - xs.length]? with
   |none=>rw [hk] at hpi;cases hpi
   |some q =>
    rw [hk] at hpi;cases hpi
    have hj:i - xs.length<caps.length:=by rw [← k1];exact (Z6.1 hk).1
    obtain ⟨q',g1,g2⟩:=k2 _ caps[i - xs.length] (ZS hj)
    rw [hk] at g2;cases g2
    have hq:q.2=false:=by have:=ZbA.1 hfl.2 q (Zab hk);simpa using this
    obtain ⟨q1,q2⟩:=q
    simp only at hq;subst hq
    exact h.Ro ((hcr _ _ v (ZS hj) hv).ZL rfl 0) g1
 -- what goes over for good
 have go:∀ (T1 T0:Tags) (old:Nat→Prop),aV L σ T1 s1 a w→(∀ b,T b=.ro→T0 b=.ro∧T1 b=.ro)→(∀ b,T b=.other→T0 b=.other∧T1 b=.other)→(∀ b,T0 b=.ro→T1 b=.ro)→(∀ b,old b→T0 b=.ro∨T0 b=.other)→(∀ b,old b→b<w.heap.size)→(∀ b,¬ old b→T1 b=.other)→(∀ b,b<w.heap.size→(T b=.ro∨T b=.other)→old b) →
   ahl T0 w (a.eval y) la→bo=none→Calls P f (a.eval y::(ys.map a.eval++rX)).toArray w (fun e w'=>∃ v T2,e=.returned v∧aV L σ T2 st' (a.put (some d) v) w'∧zQ T T2 w w'):=fun T1 T0 old hS c1 c2 c3 c4 c5 c6 c7 hL hbo=>by
  have hs2:s2=s1:=by
   rw [hbo] at h5
   unfold pq at h5
   split at h5
   ·exact (ZD.inj h5).symm
   ·rename_i e;cases e
   ·cases h5
  subst hs2
  have h0:=hok T0 w (a.eval y) (ys.map a.eval++rX) (fun b hb=>(c2 b (h.fresh b hb)).1) hL hlen (fun i p v hpi hv=>(hargs i p v hpi hv).frame fun b hb _=>⟨(c1 b hb).1,rfl⟩) (hG.frame fun b hb _=>⟨(c1 b hb).1,rfl⟩)
  refine h0.mono ?_
  rintro e w' ⟨u,T',rfl,z1,z2,z3,z4,z5,z6,z7,_⟩
  have hS':=hS.sees ⟨z1,fun b hb hl=>(z5 b hl (c4 b (Zcl fun g=>hb (c6 b g)))).1⟩
  have hfin:=hS'.results (old:=old) (d:=d) (fun b hb=>Zae (c5 b hb) z1) c6 z6 z7 (.inl fun b hb e=>c3 b (by rw [← (z5 b (c5 b hb) (c4 b hb)).2];exact e)) (fun b i hb e=>by
   rw [(z5 b (c5 b hb) (c4 b hb)).2] at e
   rcases c4 b hb with g|g<;>rw [g] at e<;>cases e)
  rw [hp] at hfin
  refine ⟨u,_,rfl,hfin,⟨z1,z2,z3,z4,fun b hl e=>(z5 b hl (c4 b (c7 b hl e))).1,fun b e=>?_,fun b hl e=>?_⟩⟩
  ·have hl:b<w.heap.size:=by
    rcases Zbf b w.heap.size with g|g
    ·exact g
    ·rw [h.fresh b g] at e;cases e
   simp [laid,c7 b hl (.inl e),(c1 b e).2]
  ·simp [laid,c7 b hl (.inr e),(c2 b e).2]
 unfold vO at h3
 split at h3
 ·-- a struct with slices of its own
  rename_i lo hg
  split at h3
  case h_2=>cases h3
  rename_i n
  cases h3
  obtain ⟨arr,e1,e2,e3⟩:lq L σ T st a w n (.lU true lo) (a.eval y):=by
   rcases h.get hmx with ⟨t,et,(⟨_,g⟩|g)⟩|⟨v',et,_⟩|⟨s,et,_⟩
   ·cases et;rw [hg] at g;exact g
   ·cases et;rw [hg] at g;cases g
   ·cases et
   ·cases et
  obtain ⟨T0,hT0⟩:∃ T0:Tags,T0=fun b=>match T b with
   |.ro=>.ro
   |.row (.part t i)=>if t=n then .row (.part 0 i) else .other
   |_=>.other:=⟨_,rfl⟩
  have t1:∀ b,T b=.ro→T0 b=.ro:=fun b e=>by rw [hT0];simp [e]
  have t2:∀ b i,T b=.row (.part n i)→T0 b=.row (.part 0 i):=fun b i e=>by rw [hT0];simp [e]
  have t3:∀ b,T0 b=.ro→T b=.ro:=fun b e=>by
   rw [hT0] at e
   simp only at e
   split at e
   ·assumption
   ·split at e<;>cases e
   ·cases e
  have t4:∀ b,(∀ i,T b≠.row (.part n i))→T0 b=.ro∨T0 b=.other:=fun b e=>by
   rw [hT0]
   simp only
   split
   ·exact .inl rfl
   ·rename_i t i et
    split
    ·rename_i etn;subst etn;exact absurd et (e i)
    ·exact .inr rfl
   ·exact .inr rfl
  refine go (EN T n) T0 (fun b=>b<w.heap.size∧∀ i,T b≠.row (.part n i)) (h.ahm n) (fun b e=>⟨t1 b e,lI e (by simp)⟩) (fun b e=>⟨by rw [hT0];simp [e],lI e (by simp)⟩) (fun b e=>lI (t3 b e) (by simp)) (fun b hb=>t4 b hb.2) (fun b hb=>hb.1) (fun b hb=>?_) (fun b hl e=>⟨hl,fun i e2=>by rw [e2] at e;rcases e with e|e<;>cases e⟩) ⟨arr,e1,e2,fun k x u hx hu=>?_⟩ rfl
  ·by_cases hl:b<w.heap.size
   ·obtain ⟨i,hi⟩:=Classical.not_forall.1 fun g=>hb ⟨hl,g⟩
    exact acJ (Zb0.1 hi)
   ·exact lI (h.fresh b (ZbK hl)) (by simp)
  ·have hk:=e3 k x u hx hu
   cases x with
   |pv v=>exact aA.frame (fun b hb _=>⟨t1 b hb,rfl⟩) hk
   |row s l'=>exact aW.frame (fun b hb _=>⟨t2 b k hb,rfl⟩) (fun b hb _=>⟨t1 b hb,rfl⟩) hk
   |any=>trivial
   |_=>exact hk
 ·-- a variable
  rename_i q hg
  split at h3
  case h_2=>cases h3
  rename_i bx hbx
  split at h3
  ·cases h3
  rename_i hfz
  have hfz:bx.fz=false:=by simpa using hfz
  cases h3
  have hy:a.eval y=.pointer (some ⟨σ q,0,none⟩):=by
   rcases h.get hmx with ⟨t,et,(⟨_,g⟩|g)⟩|⟨v',et,g⟩|⟨s,et,g⟩
   ·rw [hg] at g;exact g.2
   ·rw [hg] at g;cases g
   ·rw [et] at hg;simp [St.get] at hg
   ·rw [et] at hg;simp [St.get] at hg
  obtain ⟨T1,hS,hst,_,_,hbt⟩:=h.tH q
  have ol:q<st.boxes.length:=(Z6.1 hbx).1
  have hb1:(st.bH q).boxes[q]?=some { bx with cs:=bx.cs.map BV.frozen }:=by
   unfold St.bH
   rw [hbx]
   simp [zp,ol]
  obtain ⟨arr,E,g1,g2,g3,g4,g5⟩:=hS.boxes q _ hb1
  have hTo:T1 (σ q)=.box q:=by rw [g3];simp [hfz]
  obtain ⟨T0,hT0⟩:∃ T0:Tags,T0=fun b=>if b=σ q then .box 0 else if T1 b=.ro then .ro else .other:=⟨_,rfl⟩
  have t1:∀ b,T1 b=.ro→T0 b=.ro:=fun b e=>by
   rw [hT0]
   simp only
   rw [if_neg (fun e2=>by rw [e2,hTo] at e;cases e),if_pos e]
  have t3:∀ b,T0 b=.ro→T1 b=.ro:=fun b e=>by
   rw [hT0] at e
   simp only at e
   split at e
   ·cases e
   ·split at e
    ·assumption
    ·cases e
  have t4:∀ b,b≠σ q→T0 b=.ro∨T0 b=.other:=fun b e=>by
   rw [hT0]
   simp only
   rw [if_neg e]
   split
   ·exact .inl rfl
   ·exact .inr rfl
  have t5:∀ b,T1 b=.other→T0 b=.other:=fun b e=>by
   rw [hT0]
   simp only
   rw [if_neg (fun e2=>by rw [e2,hTo] at e;cases e),if_neg (by rw [e];simp)]
  have t6:T0 (σ q)=.box 0:=by rw [hT0];simp
  have hσl:σ q<w.heap.size:=(zz.1 g1).1
  have hL:ahl T0 w (a.eval y) (.box (bx.cs.map BV.val)):=by
   refine ⟨σ q,hy,arr,E,g1,by simpa using g2,by simp [t6],fun e=>(by simp at e),fun j bv u hj hu=>?_⟩
   simp only [List.map_map,zb] at hj
   cases hcj:bx.cs[j]? with
   |none=>rw [hcj] at hj;cases hj
   |some bv0 =>
    rw [hcj] at hj
    have hj:=ZD.inj hj
    subst hj
    obtain ⟨r1,r2⟩:=g5 j (.pv bv0.val) u (by simp only [zb,hcj];cases bv0<;>rfl) hu
    exact ⟨r1,aA.frame (fun b hb _=>⟨t1 b hb,rfl⟩) r2⟩
  have h0:=hok T0 w (a.eval y) (ys.map a.eval++rX) (fun b hb=>t5 b (hS.fresh b hb)) hL hlen (fun i p v hpi hv=>(hargs i p v hpi hv).frame fun b hb _=>⟨t1 b (hst.ro b hb),rfl⟩) (hG.frame fun b hb _=>⟨t1 b (hst.ro b hb),rfl⟩)
  refine h0.mono ?_
  rintro e w' ⟨u,T',rfl,z1,z2,z3,z4,z5,z6,z7,z8⟩
  obtain ⟨cs,hcs,hs2⟩:∃ cs,out=some cs∧s2={ st.bH q with boxes:=(st.bH q).boxes.set q { bx with cs:=cs.map .pv } }:=by
   unfold pq at h5
   split at h5
   ·rename_i e;cases e
   ·rename_i o' cs e
    cases e
    rw [hb1] at h5
    exact ⟨cs,rfl,(ZD.inj h5).symm⟩
   ·cases h5
  subst hcs
  obtain ⟨y1,arr',E',y2,y3,y4⟩:=z8 (σ q) hy
  -- first with nothing known of the variable's contents
  have hv1:=hS.ajW (w1:=w') (cs:=Zal arr'.size .void) hb1 hfz (fun b hb=>hS.fresh b (zr z1 hb)) (fun b hl hne hot=>(z5 b hl (t4 b hne)).1) ⟨arr',E',y2,by simp,fun j x u hx hu=>by
   have hj:=(zz.1 hu).1
   have hxv:x=.void:=(List.mem_replicate.1 (Zab hx)).2
   subst hxv
   have hj2:j<cs.length:=by omega
   have hk:=(y4 j cs[j] u (ZS hj2) hu).1
   exact ⟨hk,.void u hk⟩⟩
  have hfin:=hv1.results (old:=fun b=>b<w.heap.size) (d:=d) (fun b hb=>Zae hb z1) (fun b hb=>hS.fresh b (ZbK hb)) z6 z7 (.inl fun b hb e=>by
   by_cases hq:b=σ q
   ·subst hq;rw [y1] at e;cases e
   ·exact t3 b (by rw [← (z5 b hb (t4 b hq)).2];exact e)) (fun b i hb e=>by
   by_cases hq:b=σ q
   ·subst hq;rw [y1] at e;cases e
   ·rw [(z5 b hb (t4 b hq)).2] at e
    rcases t4 b hq with g|g<;>rw [g] at e<;>cases e)
  obtain ⟨TT,ZR⟩:∃ TT,TT=laid T1 T' (fun b=>b<w.heap.size) d (oneRow rs):=⟨_,rfl⟩
  rw [← ZR] at hfin
  have hold:∀ b,b<w.heap.size→TT b=T1 b:=fun b hb=>by rw [ZR];simp [laid,hb]
  obtain ⟨B,hB⟩:∃ B:List Box,B=(st.bH q).boxes.set q { bx with cs:=(Zal arr'.size PV.void).map .pv }:=⟨_,rfl⟩
  have hBx:B[q]?=some { bx with cs:=(Zal arr'.size PV.void).map .pv }:=by
   rw [hB,List.getElem?_set_self]
   exact (Z6.1 hb1).1
  rw [← hB] at hfin
  have arD:=Bq (st.bH q) B d rs
  rw [arD.1] at hfin
  have hv2:=hfin.ajW (w1:=w') (cs:=cs) (q:=q) (bx:={ bx with cs:=(Zal arr'.size PV.void).map .pv }) hBx hfz hfin.fresh (fun _ _ _ _=>rfl) ⟨arr',E',y2,y3,fun j x u hx hu=>⟨(y4 j x u hx hu).1,(y4 j x u hx hu).2.frame fun b hb _=>⟨?_,rfl⟩⟩⟩
  ·refine ⟨u,TT,rfl,?_,⟨z1,z2,z3,z4,fun b hl e=>?_,fun b e=>?_,fun b hl e=>?_⟩⟩
   ·rw [← hp,hs2,(Bq (st.bH q) _ d rs).1]
    have e2:B.set q { bx with cs:=cs.map .pv }=(st.bH q).boxes.set q { bx with cs:=cs.map .pv }:=by rw [hB,List.set_set]
    rw [← e2]
    exact hv2
   ·have hq:b≠σ q:=fun e2=>by
     subst e2
     rcases e with e|e
     ·rw [hst.ro _ e] at hTo;cases hTo
     ·rw [hst.other _ e] at hTo;cases hTo
    exact (z5 b hl (t4 b hq)).1
   ·have hl:b<w.heap.size:=by
     rcases Zbf b w.heap.size with g|g
     ·exact g
     ·rw [h.fresh b g] at e;cases e
    rw [hold b hl];exact hst.ro b e
   ·rw [hold b hl];exact hst.other b e
  ·by_cases hl:b<w.heap.size
   ·by_cases hq:b=σ q
    ·subst hq;rw [y1] at hb;cases hb
    ·rw [hold b hl];exact t3 b (by rw [← (z5 b hl (t4 b hq)).2];exact hb)
   ·rw [ZR];simp [laid,hl,hb]
 ·-- a slice
  cases hgr:st.grab x with
  |none=>rw [hgr] at h3;cases h3
  |some q =>
   obtain ⟨sz,es,s⟩:=q
   rw [hgr] at h3
   cases h3
   obtain ⟨b1,b2,r,v,es0,c,xa,b3,b4,b5,b6,b7,b8,b9⟩:=h.grab hmx hgr
   have hun:VU s r:=⟨b7,b8,b9⟩
   subst b5
   have hrow:=b3.take es.length
   rw [← b4] at hrow
   rw [← b6] at hrow
   obtain ⟨T0,hT0⟩:∃ T0:Tags,T0=fun b=>if T b=.row r then .row (.slot 0) else if T b=.ro then .ro else .other:=⟨_,rfl⟩
   have t1:∀ b,T b=.ro→T0 b=.ro:=fun b e=>by rw [hT0];simp [e]
   have t3:∀ b,T0 b=.ro→T b=.ro:=fun b e=>by
    rw [hT0] at e
    simp only at e
    split at e
    ·cases e
    ·split at e
     ·assumption
     ·cases e
   refine go (gone T r) T0 (fun b=>b<w.heap.size∧T b≠.row r) (b1.acy hun) (fun b e=>⟨t1 b e,jR (by simp) e⟩) (fun b e=>⟨by rw [hT0];simp [e],jR (by simp) e⟩) (fun b e=>jR (by simp) (t3 b e)) (fun b hb=>?_) (fun b hb=>hb.1) (fun b hb=>?_) (fun b hl e=>⟨hl,fun e2=>by rw [e2] at e;rcases e with e|e<;>cases e⟩) ?_ rfl
   ·rw [hT0]
    simp only
    rw [if_neg hb.2]
    split
    ·exact .inl rfl
    ·exact .inr rfl
   ·by_cases hl:b<w.heap.size
    ·exact NQ (Zb0.1 fun g=>hb ⟨hl,g⟩)
    ·exact jR (by simp) (h.fresh b (ZbK hl))
   ·exact aW.frame (fun b e _=>⟨by rw [hT0];simp [e],rfl⟩) (fun b e _=>⟨t1 b e,rfl⟩) hrow
theorem KE (bC:gQ P rec env)(h:aV L σ T st a w)(hG:kF T w)(hmx:bf y x=true){ys:List Operand}{xs:List bU}(hm:oP ys xs=true){caps:List AV}{rX:List Value}(hc:rX.length=caps.length)
  (hcr:∀ (k:Nat) c u,caps[k]?=some c→rX[k]?=some u→iO st.boxes.length σ T w c u) {f:Nat} (hp:jC rec env d f x xs caps st=some st') :
  callable P f=true∧Calls P f (a.eval y::(ys.map a.eval++rX)).toArray w (fun e w'=>∃ v T2,e=.returned v∧aV L σ T2 st' (a.put (some d) v) w'∧zQ T T2 w w'):=by
 obtain ⟨T1,k1,k2,k3⟩:=aV.EL xs h
 obtain ⟨q1,q2⟩:=Hu (rX:=rX) bC k1 (hG.frame fun b hb _=>⟨k2.ro b hb,rfl⟩) hmx hm hc (fun k c u h1 h2=>by
  rw [k3]
  have:=hcr k c u h1 h2
  cases c<;>simp only [iO] at this ⊢
  case pv x=>exact this.frame fun b hb _=>⟨k2.ro b hb,rfl⟩
  case aO o j=>exact this) hp
 exact ⟨q1,q2.mono fun e w' ⟨v,T2,h1,h2,h3⟩=>⟨v,T2,h1,h2,(k2.pV w).trans h3⟩⟩
end
structure Ctx where
 X:List (List PV)
 stop:Option (Option Nat)
 J:Nat→Tags→World→Prop
def xU (s:Option Nat)(k:Nat):Bool :=
 match s with
 |none=>true
 |some m=>!(k+1==m)
structure Ctx.Ok (C:Ctx)(P:Program)(L:Nat):Prop where
 keep:∀ k T T' w w',zQ T T' w w'→C.J k T w→C.J k T' w'
 glob:∀ k T w,C.J k T w→kF T w
 tq:∀ s k T w ps (vs:List Value),C.stop=some s→C.X[k]?=some ps→(∀ b,w.heap.size≤b→T b=.other)→C.J k T w→vs.length=ps.length→(∀ (i:Nat) p v,ps[i]?=some p→vs[i]?=some v→aA (fun b=>T b=.ro) w p v) →
  ∃ f tmps assign body,(Instr.yield L vs.toArray).run P w=.ok (.round L f tmps assign body) w∧∀ n,RoundIn Fence.wide n P L f tmps assign body w fun e w'=>e=.returned (.bool (xU s k))∧C.J (k+1) T w'∧rQ T w w'
structure dB (T T':Tags)(w w':World):Prop where
 size:w.heap.size≤w'.heap.size
 ro:∀ b,T b=.ro→T' b=.ro
 same:∀ b,b<w.heap.size→T b=.ro→w'.heap[b]?=w.heap[b]?
theorem dB.refl (T:Tags)(w:World):dB T T w w:=⟨ze _,fun _ h=>h,fun _ _ _=>rfl⟩
theorem dB.trans {T T' T'':Tags}{a b c:World}(h:dB T T' a b)(k:dB T' T'' b c):dB T T'' a c :=
 ⟨zr h.size k.size,fun x e=>k.ro x (h.ro x e),fun x hx e=>(k.same x (Zae hx h.size) (h.ro x e)).trans (h.same x hx e)⟩
theorem zQ.stays {T T':Tags}{w w':World}(h:zQ T T' w w'):dB T T' w w':=⟨h.size,h.ro,fun b hb e=>h.same b hb (.inl e)⟩
def jd (r:Nat):Deferred:={ target:=.collected r,args:=#[] }
def Marks (T':Tags)(w w':World)(ms:List Nat):Prop:=(∀ r∈ms,w.heap.size≤r∧T' r=.ro∧w'.heap[r]?=some (.deferred (some [])))∧ms.Nodup
theorem Marks.nil {T':Tags}{w w':World}:Marks T' w w' []:=⟨by simp,List.nodup_nil⟩
def After (C:Ctx)(L nb:Nat)(σ:Nat→Nat)(T:Tags)(w:World)(st':St)(ds:List Deferred)(a':Act)(w':World):Prop :=
 ∃ (σ':Nat→Nat) (T':Tags) (ms:List Nat),aV L σ' T' st' a' w'∧C.J st'.ys.length T' w'∧(∀ k,k<nb→σ' k=σ k)∧dB T T' w w'∧a'.defers=ms.map jd++ds∧Marks T' w w' ms
def lJ (F:Fence):Prop:=F=Fence.wide∨∃ l,F=Fence.wide.inRound l
theorem lJ.fn {F:Fence}(h:lJ F)(f:FuncId):F.fn f:=by rcases h with rfl|⟨l,rfl⟩<;>exact trivial
theorem lJ.depth {F:Fence}(h:lJ F):F.depth=none:=by rcases h with rfl|⟨l,rfl⟩<;>rfl
theorem lJ.room {F:Fence}(h:lJ F)(n:Nat):F.room n:=by rcases h with rfl|⟨l,rfl⟩<;>exact room_wide n
theorem lJ.calls {F:Fence}(h:lJ F){n:Nat}{P:Program}{f:FuncId}{args:Array Value}{w:World}{R:Ending→World→Prop}(hc:Calls P f args w R):CallsIn F n P f args w R:=by
 have:=(callsIn_wide (n:=n)).2 hc
 rcases h with rfl|⟨l,rfl⟩
 ·exact this
 ·exact this
theorem lJ.ahn {F:Fence}(h:lJ F){n:Nat}{P:Program}{l:Nat}{f:FuncId}{tmps:Array Value}{assign body:Code}{w:World}{R:Ending→World→Prop}(hc:RoundIn Fence.wide n P l f tmps assign body w R):RoundIn F n P l f tmps assign body w R:=by
 rcases h with rfl|⟨l,rfl⟩
 ·exact hc
 ·exact hc
theorem semAt_eq {o:Oper}(h:∀ c,o.op≠.defer c)(r:Option Nat)(ρ:Operand→Value):o.semAt r ρ=execOp ρ o:=by
 cases r with
 |none=>exact Oper.semAt_none ρ o
 |some l=>exact Oper.semAt_some l ρ o h
section
variable {P:Program}{F:Fence}{C:Ctx}{n L nb:Nat}{σ σ':Nat→Nat}{T T' T1 T2:Tags}{st st' st1:St}{a:Act}{w w1:World}{o:Oper}{vo:iG}{y:Operand}{x:bU}{d:Nat}
 {rec:ay→St→Option (Ex×St)} {env:Env} {next:Act→World→Prop} {Q:Exit→Act→World→Prop}
theorem uX (hm:m1 P o vo=true)(c:Call):o.op≠.defer c:=by
 intro e
 simp only [m1,ZZ] at hm
 cases vo<;>simp [mv,e,Yy,LK,LM,LP] at hm
theorem After.vX (hC:C.Ok P L)(hs:aV L σ' T' st' a w1)(hJ:C.J st'.ys.length T w)(hch:zQ T T' w w1)(hσ:∀ k,k<nb→σ' k=σ k):After C L nb σ T w st' a.defers a w1 :=
 ⟨σ',T',[],hs,hC.keep _ _ _ _ _ hch hJ,hσ,hch.stays,rfl,Marks.nil⟩
theorem put_defers {d:Option Nat}{v:Value}:(a.put d v).defers=a.defers:=by
 cases d<;>rfl
theorem zW (hF:lJ F)(hm:m1 P o vo=true){v:Value}{nx:Next}(hr:(execOp a.eval o).run P w=.ok nx w1)(hnx:nx=.value v∨nx=.skip∧v=undef)(h:next (a.put o.dst v) w1):o.wpIn F n P a w next Q:=by
 refine ⟨fun f _=>hF.fn f,?_⟩
 rw [semAt_eq (uX hm),hr]
 rcases hnx with rfl|⟨rfl,rfl⟩
 ·exact h
 ·exact h
theorem vY {ρ:Operand→Value}{y:Operand}{ys:List Operand}{ats:Array TypeId}{f:Nat}{cap:Array Value}(ho:o.op=.call { callee:=.value y,args:=ys.toArray,argTypes:=ats })(hy:ρ y=.func (.func f) #[] cap)(hf:callable P f=true)(w:World) :
  (execOp ρ o).run P w=.ok (.enter f ((ys.map ρ).toArray++cap)) w:=by
 have:=nR hf ((ys.map ρ).toArray++cap) w
 simp [execOp,ho,resolve,Deferred.ofValue,hy,invoke,this]
theorem Bv {ok:Nat→Prop}{f:Nat}{caps:List PV}{v:Value}(h:aA ok w (.func f caps) v):∃ arr:Array Value,v=.func (.func f) #[] arr∧arr.size=caps.length∧∀ (k:Nat) p u,caps[k]?=some p→arr[k]?=some u→aA ok w p u:=by
 cases h;exact ⟨_,rfl,by assumption,by assumption⟩
def Grow (nb:Nat)(st st':St):Prop:=nb≤st'.boxes.length∧st.ys <+: st'.ys∧st'.stop=st.stop
theorem aY.grow (h:aY st st'):Grow st.boxes.length st st':=⟨h.1,by rw [h.2.1];exact List.prefix_refl _,h.2.2⟩
theorem Grow.trans {n1 n2:Nat}(h:Grow n1 st st1)(k:Grow n2 st1 st'):Grow n2 st st':=⟨k.1,h.2.1.trans k.2.1,k.2.2.trans h.2.2⟩
theorem Grow.mono {n1 n2:Nat}(h:Grow n1 st st1)(k:n2≤n1):Grow n2 st st1:=⟨zr k h.1,h.2.1,h.2.2⟩
theorem Hw (h:act rec env vo st=some st'):Grow st.boxes.length st st':=by
 by_cases hv:∃ d x xs,vo=.yield d x xs
 ·obtain ⟨d,x,xs,rfl⟩:=hv
  simp only [act] at h
  split at h
  ·replace h:=bind_some h
   obtain ⟨stop,_,h⟩:=h
   replace h:=bind_some h
   obtain ⟨⟨vs,st1⟩,h1,h⟩:=h
   obtain ⟨m1,m2,m3⟩:=lX h1
   simp only at h
   split at h
   ·rw [← ZD.inj h];exact ⟨m1,by rw [← m2];exact ZdG _ _,m3⟩
   ·split at h
    ·rw [← ZD.inj h];exact ⟨m1,by rw [← m2];exact ZdG _ _,m3⟩
    ·cases h
  ·cases h
 ·exact (Ry (fun d x xs e=>hv ⟨d,x,xs,e⟩) h).grow
theorem RI (h:op1 rec env vo st=some st'):Grow st.boxes.length st st':=by
 unfold op1 at h
 split at h
 ·exact Hw h
 ·exact (rW h).grow
theorem iY (h:op rec env vo st=some st'):Grow st.boxes.length st st':=by
 unfold op at h
 split at h
 ·split at h
  ·split at h
   ·exact RI h
   ·split at h
    ·rw [← ZD.inj h];exact ((aY.refl _).put _ _).grow
    ·rw [← ZD.inj h];exact (aY.refl _).grow
  ·split at h
   ·split at h
    ·rw [← ZD.inj h];exact ((aY.refl _).put _ _).grow
    ·rw [← ZD.inj h];exact (aY.refl _).grow
   ·cases h
  ·cases h
 ·exact RI h
theorem aV.ys (h:aV L σ T st a w)(l:List (List PV)):aV L σ T { st with ys:=l } a w:=⟨h.size,h.slots,h.boxes,h.fresh⟩
def calm (o:iG):Bool:=match o with
 |.call ..|.lG ..|.pk ..=>true
 |o=>!nM o || vW o
theorem Dy (hW:lJ F)(hC:C.Ok P L)(bC:gQ P rec env)(h:aV L σ T st a w)(hJ:C.J st.ys.length T w)(hd:o.dst=some d)(hm1:m1 P o vo=true){ys:List Operand}{ats:Array TypeId}(ho:o.op=.call { callee:=.value y,args:=ys.toArray,argTypes:=ats }){xs:List bU}(hm:oP ys xs=true){caps:List AV}{rX:Array Value}{f:Nat}(hy:a.eval y=.func (.func f) #[] rX)
  (hc:rX.size=caps.length) (hcr:∀ (k:Nat) c u,caps[k]?=some c→rX[k]?=some u→iO st.boxes.length σ T w c u)
  (hp:kE rec env d f xs caps st=some st') (hn:∀ a' w',After C L st.boxes.length σ T w st' a.defers a' w'→(calm vo=true→Whole w w')→next a' w'):o.wpIn F n P a w next Q:=by
 obtain ⟨hcall,hok⟩:=Oa (rX:=rX.toList) bC h (hC.glob _ _ _ hJ) hm (by simpa using hc) (fun k c u h1 h2=>hcr k c u h1 (by simpa using h2)) hp
 refine ⟨fun f _=>hW.fn f,?_⟩
 rw [semAt_eq (uX hm1),vY ho hy hcall]
 refine ⟨fun e=>absurd e (by rw [hW.depth];simp),hW.calls ?_⟩
 have hargs:(ys.map a.eval++rX.toList).toArray=(ys.map a.eval).toArray++rX:=by simp
 rw [← hargs]
 refine hok.mono ?_
 rintro e w' ⟨v,T2,rfl,g1,g2,g3⟩
 refine hn _ _ ?_ fun _=>g3
 rw [hd,← put_defers (a:=a) (d:=some d) (v:=v)]
 exact After.vX hC g1 (by rw [(tJ hp).2.1];exact hJ) g2 (fun _ _=>rfl)
theorem zX (hW:lJ F)(hC:C.Ok P L)(bC:gQ P rec env)(h:aV L σ T st a w)(hJ:C.J st.ys.length T w)(hd:o.dst=some d)(hm1:m1 P o vo=true){z:Operand}{ys:List Operand}{ats:Array TypeId}(ho:o.op=.call { callee:=.value z,args:=(y::ys).toArray,argTypes:=ats })(hmx:bf y x=true){xs:List bU}(hm:oP ys xs=true){caps:List AV}{rX:Array Value}{f:Nat}(hy:a.eval z=.func (.func f) #[] rX)
  (hc:rX.size=caps.length) (hcr:∀ (k:Nat) c u,caps[k]?=some c→rX[k]?=some u→iO st.boxes.length σ T w c u)
  (hp:jC rec env d f x xs caps st=some st') (hn:∀ a' w',After C L st.boxes.length σ T w st' a.defers a' w'→next a' w'):o.wpIn F n P a w next Q:=by
 obtain ⟨hcall,hok⟩:=KE (rX:=rX.toList) bC h (hC.glob _ _ _ hJ) hmx hm (by simpa using hc) (fun k c u h1 h2=>hcr k c u h1 (by simpa using h2)) hp
 refine ⟨fun f _=>hW.fn f,?_⟩
 rw [semAt_eq (uX hm1),vY ho hy hcall]
 refine ⟨fun e=>absurd e (by rw [hW.depth];simp),hW.calls ?_⟩
 have hargs:(a.eval y::(ys.map a.eval++rX.toList)).toArray=((y::ys).map a.eval).toArray++rX:=by simp
 rw [← hargs]
 refine hok.mono ?_
 rintro e w' ⟨v,T2,rfl,g1,g2⟩
 refine hn _ _ ?_
 rw [hd,← put_defers (a:=a) (d:=some d) (v:=v)]
 exact After.vX hC g1 (by rw [(qQ hp).2.1];exact hJ) g2 (fun _ _=>rfl)
theorem acK (hW:lJ F)(hC:C.Ok P L)(bC:gQ P rec env)(h:aV L σ T st a w)(hJ:C.J st.ys.length T w)(hst:st.stop=C.stop)(hm:m1 P o vo=true)(hp:op1 rec env vo st=some st')(hX:st'.ys <+: C.X)
  (hn:∀ a' w',After C L st.boxes.length σ T w st' a.defers a' w'→(calm vo=true→Whole w w')→next a' w'):o.wpIn F n P a w next Q:=by
 unfold op1 at hp
 split at hp
 case isFalse =>
  obtain ⟨v,T',h1,h2,h3⟩:=xQ h hm hp
  refine zW hW hm (h1 w (rQ.refl T w)) (.inl rfl) (hn _ _ ?_ fun _=>Whole.refl w)
  rw [← put_defers (a:=a) (d:=o.dst) (v:=v)]
  exact After.vX hC h2 (by rw [(rW hp).2.1];exact hJ) (h3.pV w) (fun _ _=>rfl)
 case isTrue =>
  by_cases hc:∃ d f xs,vo=.call d f xs
  ·obtain ⟨d,f,xs,rfl⟩:=hc
   have hm':=hm
   simp only [m1,ZZ,beq_iff_eq,mv] at hm'
   obtain ⟨hd,hm'⟩:=hm'
   split at hm'<;>try (cases hm';done)
   rename_i g ys ho
   simp only [ZZ,beq_iff_eq] at hm'
   obtain ⟨rfl,hm'⟩:=hm'
   obtain ⟨ats,ho⟩:=Bl ho
   exact Dy hW hC bC h hJ hd hm ho hm' (caps:=[]) (rX:=#[]) rfl rfl (fun k c u e=>by simp at e) hp hn
  ·by_cases hv:∃ d x xs,vo=.lG d x xs
   ·obtain ⟨d,x,xs,rfl⟩:=hv
    have hm':=hm
    simp only [m1,ZZ,beq_iff_eq,mv] at hm'
    obtain ⟨hd,hm'⟩:=hm'
    split at hm'<;>try (cases hm';done)
    rename_i y ys ho
    simp only [ZZ] at hm'
    obtain ⟨hx,hm'⟩:=hm'
    obtain ⟨ats,ho⟩:=Hq ho
    simp only [act] at hp
    split at hp
    ·rename_i f caps hg
     obtain ⟨t,hrep⟩:∃ t,lq L σ T st a w t (.pv (.func f caps)) (a.eval y):=by
      rcases h.get hx with ⟨t,rfl,(⟨_,g⟩|g)⟩|⟨v',rfl,g⟩|⟨s,rfl,g⟩
      ·rw [hg] at g;exact ⟨t,g⟩
      ·rw [g] at hg;cases hg
      ·simp only [St.get,AV.pv.injEq] at hg;subst hg;exact ⟨0,g⟩
      ·simp [St.get] at hg
     obtain ⟨arr,e1,e2,e3⟩:=Bv hrep
     exact Dy hW hC bC h hJ hd hm ho hm' (caps:=caps.map .pv) (rX:=arr) e1 (by simpa using e2) (fun k c u h1 h2=>by
      rw [zb] at h1
      cases hk:caps[k]? with
      |none=>rw [hk] at h1;cases h1
      |some p=>rw [hk] at h1;cases h1;exact e3 k p u hk h2) hp hn
    ·rename_i f caps hg
     obtain ⟨t,hrep⟩:∃ t,lq L σ T st a w t (.fn f caps) (a.eval y):=by
      rcases h.get hx with ⟨t,rfl,(⟨_,g⟩|g)⟩|⟨v',rfl,g⟩|⟨s,rfl,g⟩
      ·rw [hg] at g;exact ⟨t,g⟩
      ·rw [g] at hg;cases hg
      ·simp [St.get] at hg
      ·simp [St.get] at hg
     obtain ⟨arr,e1,e2,e3⟩:=hrep
     exact Dy hW hC bC h hJ hd hm ho hm' (caps:=caps) (rX:=arr) e1 e2 e3 hp hn
    ·cases hp
   ·by_cases hli:∃ d f x xs,vo=.lin d f x xs
    ·obtain ⟨d,f,x,xs,rfl⟩:=hli
     have hm':=hm
     simp only [m1,ZZ,beq_iff_eq,mv] at hm'
     obtain ⟨hd,hm'⟩:=hm'
     split at hm'<;>try (cases hm';done)
     rename_i g y ys ho
     simp only [ZZ,beq_iff_eq] at hm'
     obtain ⟨⟨rfl,hmx⟩,hm'⟩:=hm'
     obtain ⟨ats,ho⟩:=Bl ho
     exact zX hW hC bC h hJ hd hm ho hmx hm' (caps:=[]) (rX:=#[]) rfl rfl (fun k c u e=>by simp at e) hp fun a' w' hA=>hn a' w' hA fun e=>by simp [calm,nM,vW] at e
    by_cases hlv:∃ d g x xs,vo=.linv d g x xs
    ·obtain ⟨d,z,x,xs,rfl⟩:=hlv
     have hm':=hm
     simp only [m1,ZZ,beq_iff_eq,mv] at hm'
     obtain ⟨hd,hm'⟩:=hm'
     split at hm'<;>try (cases hm';done)
     rename_i yz y ys ho
     simp only [ZZ] at hm'
     obtain ⟨⟨hx,hmx⟩,hm'⟩:=hm'
     obtain ⟨ats,ho⟩:=Hq ho
     simp only [act] at hp
     split at hp
     ·rename_i f caps hg
      obtain ⟨t,hrep⟩:∃ t,lq L σ T st a w t (.pv (.func f caps)) (a.eval yz):=by
       rcases h.get hx with ⟨t,rfl,(⟨_,g⟩|g)⟩|⟨v',rfl,g⟩|⟨s,rfl,g⟩
       ·rw [hg] at g;exact ⟨t,g⟩
       ·rw [g] at hg;cases hg
       ·simp only [St.get,AV.pv.injEq] at hg;subst hg;exact ⟨0,g⟩
       ·simp [St.get] at hg
      obtain ⟨arr,e1,e2,e3⟩:=Bv hrep
      exact zX hW hC bC h hJ hd hm ho hmx hm' (caps:=caps.map .pv) (rX:=arr) e1 (by simpa using e2) (fun k c u h1 h2=>by
       rw [zb] at h1
       cases hk:caps[k]? with
       |none=>rw [hk] at h1;cases h1
       |some p=>rw [hk] at h1;cases h1;exact e3 k p u hk h2) hp fun a' w' hA=>hn a' w' hA fun e=>by simp [calm,nM,vW] at e
     ·rename_i f caps hg
      obtain ⟨t,hrep⟩:∃ t,lq L σ T st a w t (.fn f caps) (a.eval yz):=by
       rcases h.get hx with ⟨t,rfl,(⟨_,g⟩|g)⟩|⟨v',rfl,g⟩|⟨s,rfl,g⟩
       ·rw [hg] at g;exact ⟨t,g⟩
       ·rw [g] at hg;cases hg
       ·simp [St.get] at hg
       ·simp [St.get] at hg
      obtain ⟨arr,e1,e2,e3⟩:=hrep
      exact zX hW hC bC h hJ hd hm ho hmx hm' (caps:=caps) (rX:=arr) e1 e2 e3 hp fun a' w' hA=>hn a' w' hA fun e=>by simp [calm,nM,vW] at e
     ·cases hp
    by_cases hpk:∃ d f x,vo=.pk d f x
    ·obtain ⟨d,f,x,rfl⟩:=hpk
     have hm':=hm
     simp only [m1,ZZ,beq_iff_eq,mv] at hm'
     obtain ⟨hd,hm'⟩:=hm'
     cases hm'
    by_cases hsr:∃ d f x g,vo=.Kv d f x g
    ·obtain ⟨d,f,x,g,rfl⟩:=hsr
     have hm':=hm
     simp only [m1,ZZ,beq_iff_eq,mv] at hm'
     obtain ⟨hd,hm'⟩:=hm'
     split at hm'<;>try (cases hm';done)
     rename_i f' y1 y2 ho
     simp only [ZZ,beq_iff_eq] at hm'
     obtain ⟨⟨rfl,hm1⟩,hm2⟩:=hm'
     obtain ⟨ats,ho⟩:=Bl ho
     simp only [act] at hp
     split at hp
     case h_2=>cases hp
     rename_i hh henv
     replace hp:=bind_some hp
     obtain ⟨⟨r,off,len⟩,h2,hp⟩:=hp
     replace hp:=bind_some hp
     obtain ⟨⟨sz,es⟩,h3,hp⟩:=hp
     replace hp:=bind_some hp
     obtain ⟨c,h4,hp⟩:=hp
     replace hp:=bind_some hp
     obtain ⟨es',h5,hp⟩:=hp
     simp only at hp
     split at hp
     case isFalse=>cases hp
     rename_i hc3
     obtain ⟨rfl,rfl,hc3⟩:=hc3
     have hp:=ZD.inj hp
     subst hp
     obtain ⟨hcall,hok⟩:=bC.2.1 f' hh henv
     obtain ⟨xa,m,cp,x',p1,p2,p3,-,-⟩:=h.place hm1 h2 h3
     obtain ⟨u,p5,p6⟩:=h.vS h3
     have hu:a.eval y1=u:=by
      rw [p5] at p1;cases p1
      have hm:m=es.length:=by
       rcases p6 with ⟨e1,_,e2⟩|⟨_,_,_,_,e2,_⟩
       ·cases e2;rw [e1];rfl
       ·cases e2;rfl
      rw [p2,p3 rfl,hm,Nat.sub_zero]
     have hk:=hok c sz es es' h5 T w r u (a.eval y2) h.fresh p6 (h.pv hm2 h4)
     refine ⟨fun f _=>hW.fn f,?_⟩
     rw [semAt_eq (uX hm),vY (cap:=#[]) ho rfl hcall]
     refine ⟨fun e=>absurd e (by rw [hW.depth];simp),hW.calls ?_⟩
     have hargs:([y1,y2].map a.eval).toArray++#[]=#[u,a.eval y2]:=by simp [hu]
     rw [hargs]
     refine hk.mono ?_
     rintro e w' ⟨v,rfl,k1,k2,k3,k4,k5,k6⟩
     obtain ⟨g1,g2⟩:=h.ahj h3 p5 k1 k2 k3 k4 k5 k6
     refine hn _ _ ?_ fun e=>by simp [calm,nM,vW] at e
     have hd':o.dst=some d:=hd
     rw [hd',← put_defers (a:=a) (d:=some d) (v:=v)]
     refine After.vX hC g1.ach ?_ g2 (fun _ _=>rfl)
     have:((st.setRow r sz es').put d .any).ys=st.ys:=by cases r<;>simp [St.setRow,St.put,St.setCell]<;>split<;>rfl
     rw [this];exact hJ
    by_cases hyl:∃ d x xs,vo=.yield d x xs
    ·obtain ⟨d,x,xs,rfl⟩:=hyl
     have hm':=hm
     simp only [m1,ZZ,beq_iff_eq,mv] at hm'
     obtain ⟨hd,hm'⟩:=hm'
     split at hm'<;>try (cases hm';done)
     rename_i y ys ho
     simp only [ZZ] at hm'
     obtain ⟨hx,hm'⟩:=hm'
     obtain ⟨ats,ho⟩:=Hq ho
     simp only [act] at hp
     split at hp
     ·rename_i hg
      have hev:a.eval y=.func (.yield L) #[] #[]:=by
       rcases h.get hx with ⟨t,rfl,(⟨_,g⟩|g)⟩|⟨v',rfl,g⟩|⟨s,rfl,g⟩
       ·rw [hg] at g;exact g
       ·rw [g] at hg;cases hg
       ·simp [St.get] at hg
       ·simp [St.get] at hg
      replace hp:=bind_some hp
      obtain ⟨s,hs,hp⟩:=hp
      replace hp:=bind_some hp
      obtain ⟨⟨vs,st1⟩,h1,hp⟩:=hp
      obtain ⟨m1',m2,m3⟩:=lX h1
      obtain ⟨T1,k1,k2,k3,k4,k5⟩:=h.fC hm' h1
      have hp':st'=({ st1 with ys:=st1.ys++[vs] }:St).put d (.pv (.bool (xU s st.ys.length))):=by
       simp only at hp
       rw [← m2]
       split at hp
       ·exact (ZD.inj hp).symm
       ·split at hp
        ·exact (ZD.inj hp).symm
        ·cases hp
      subst hp'
      have hys:C.X[st.ys.length]?=some vs:=by
       obtain ⟨t,ht⟩:=hX
       simp only [St.put] at ht
       rw [← ht,m2];simp
      have hJ1:C.J st.ys.length T1 w:=hC.keep _ _ _ _ _ (k2.pV w) hJ
      obtain ⟨f,tmps,assign,body,r1,r2⟩:=hC.tq s _ T1 w vs (ys.map a.eval) (hst ▸ hs) hys k1.fresh hJ1 (by simp [k4]) (fun i p v hp' hv=>by
       rw [zb] at hv
       cases hk:ys[i]? with
       |none=>rw [hk] at hv;cases hv
       |some y=>rw [hk] at hv;cases hv;exact k5 i p y hp' hk)
      refine ⟨fun f _=>hW.fn f,?_⟩
      have hrun:(execOp a.eval o).run P w=.ok (.round L f tmps assign body) w:=by
       simp [execOp,ho,resolve,Deferred.ofValue,hev,invoke,r1]
      rw [semAt_eq (uX hm),hrun]
      refine ⟨fun e=>absurd e (by rw [hW.depth];simp),hW.ahn ((r2 _).mono ?_)⟩
      rintro e w' ⟨rfl,q1,q2⟩
      refine hn _ _ ?_ (fun e=>by simp [calm,nM,vW] at e)
      rw [hd,← put_defers (a:=a) (d:=some d) (v:=.bool (xU s st.ys.length))]
      exact ⟨σ,T1,[],((k1.sees q2).ys _).AX (.bool _),by
       have:(({ st1 with ys:=st1.ys++[vs] }:St).put d (.pv (.bool (xU s st.ys.length)))).ys.length=st.ys.length+1:=by simp [St.put,m2]
       rw [this];exact q1,fun _ _=>rfl,⟨q2.1,k2.ro,fun b hb e=>q2.2 b (by rw [k2.ro b e];simp) hb⟩,rfl,Marks.nil⟩
     ·cases hp
    ·obtain ⟨nx,v,w1,σ',T',g1,g2,g3,g4,g5,g6⟩:=ZQ h hm (fun d f xs e=>hc ⟨d,f,xs,e⟩) (fun d f xs e=>hv ⟨d,f,xs,e⟩) (fun d f xs e=>hyl ⟨d,f,xs,e⟩) (fun d f x g e=>hsr ⟨d,f,x,g,e⟩) (fun d f x xs e=>hli ⟨d,f,x,xs,e⟩) (fun d g x xs e=>hlv ⟨d,g,x,xs,e⟩) (fun d f x e=>hpk ⟨d,f,x,e⟩) hp
     refine zW hW hm g1 g2 (hn _ _ ?_ fun hcm=>g6 ?_)
     ·rw [← put_defers (a:=a) (d:=o.dst) (v:=v)]
      exact After.vX hC g3 (by rw [(Ry (fun d f xs e=>hyl ⟨d,f,xs,e⟩) hp).2.1];exact hJ) g4 g5
     ·have hact:nM vo=true:=by assumption
      cases vo<;>first|exact absurd ⟨_,_,_,rfl⟩ hc|exact absurd ⟨_,_,_,rfl⟩ hv|exact absurd ⟨_,_,_,rfl⟩ hpk|(simpa [calm,hact] using hcm)
end
def zY (F:Fence)(n:Nat)(P:Program)(c:Code)(Q:Exit→Act→World→Prop)(a:Act)(w:World):Prop :=
 ∀ (b:Frame) (k:List Item) (cs:List Frame),b.roundOf=F.round→F.fn b.fn→F.room (cs.length+1+n) →
  ∃ e a' w',Q e a' w'∧ArrivesIn (Machine.fenced P F) P (lone (b.atR a (.code c::.inLoop c::k)) cs w) b k cs e a' w'
section
variable {F:Fence}{n:Nat}{P:Program}{c:Code}{Q:Exit→Act→World→Prop}{a:Act}{w:World}
theorem Ob (h:zY F n P c Q a w):(Code.loop c).wpIn F n P Q a w:=fun b k cs hro hb hr =>
 let ⟨e,a',w',hq,harr⟩:=h b k cs hro hb hr
 ⟨e,a',w',hq,.of_steps (.one (fenced_calm hb hr rfl) stepR_loop) harr⟩
theorem RJ (h:c.wpIn F n P (Exit.then (zY F n P c Q) Q) a w):zY F n P c Q a w:=by
 intro b k cs hro hb hr
 obtain ⟨e,a₁,w₁,hq,harr⟩:=h b (.inLoop c::k) cs hro hb hr
 cases e with
 |normal =>
  obtain ⟨e₂,a₂,w₂,hq₂,harr₂⟩:=hq b k cs hro hb hr
  exact ⟨e₂,a₂,w₂,hq₂,.of_steps (StepsIn.trans harr (.one (fenced_calm hb hr rfl) stepR_inLoop)) harr₂⟩
 |exit id=>exact ⟨_,a₁,w₁,hq,.pass (x:=.inLoop c) rfl (fun _ _=>.inl (by simp)) harr⟩
 |goto l=>exact ⟨_,a₁,w₁,hq,.pass (x:=.inLoop c) rfl (fun _ _=>.inl (by simp)) harr⟩
 |ret=>exact ⟨_,a₁,w₁,hq,.pass (x:=.inLoop c) rfl (fun _ _=>.inl (by simp)) harr⟩
 |panic ch=>exact ⟨_,a₁,w₁,hq,.pass (x:=.inLoop c) rfl (fun _ _=>.inl (by simp)) harr⟩
 |outgrown=>exact ⟨_,a₁,w₁,hq,.pass (x:=.inLoop c) rfl (fun _ _=>.inl (by simp)) harr⟩
theorem RN {Q':Exit→Act→World→Prop}(h:zY F n P c Q a w)(hq:∀ e a w,Q e a w→Q' e a w):zY F n P c Q' a w :=
 fun b k cs hro hb hr=>let ⟨e,a',w',q,r⟩:=h b k cs hro hb hr;⟨e,a',w',hq _ _ _ q,r⟩
end
def mG (P:Program)(ops:Array Oper)(o:Oper):iG→Bool
 |.grd g want v=>(match o.guard with
  |some (j,b)=>b==want&&(ops[j]?).bind (·.dst)==some g
  |none=>false)&&m1 P o v
 |v=>o.guard.isNone&&m1 P o v
def mL (P:Program)(ops:Array Oper):List Oper→List iG→Bool
 |[],[]=>true
 |o::os,v::vs=>mG P ops o v&&mL P ops os vs
 |_,_=>false
section
variable {P:Program}{F:Fence}{C:Ctx}{n L nb:Nat}{σ σ':Nat→Nat}{T T' T1 T2:Tags}{st st' st1:St}{a a1:Act}{w w1:World}{o:Oper}{vo:iG}{y:Operand}{x:bU}{d:Nat}
 {rec:ay→St→Option (Ex×St)} {env:Env} {next:Act→World→Prop} {Q:Exit→Act→World→Prop} {cu:Array Oper} {ds:List Deferred} {e:Ex}
theorem After.refl (h:aV L σ T st a w)(hJ:C.J st.ys.length T w):After C L nb σ T w st a.defers a w :=
 ⟨σ,T,[],h,hJ,fun _ _=>rfl,dB.refl T w,rfl,Marks.nil⟩
theorem After.trans {nb1:Nat}{σ1:Nat→Nat}{ms:List Nat}(hs:dB T T1 w w1)(hσ:∀ k,k<nb→σ1 k=σ k)(hd:a1.defers=ms.map jd++ds)(hms:Marks T1 w w1 ms)(hnb:nb≤nb1)
  {a':Act} {w':World} (h:After C L nb1 σ1 T1 w1 st' a1.defers a' w'):After C L nb σ T w st' ds a' w':=by
 obtain ⟨σ',T',ms',g1,g2,g3,g4,g5,g6⟩:=h
 refine ⟨σ',T',ms'++ms,g1,g2,fun k hk=>(g3 k (Zae hk hnb)).trans (hσ k hk),hs.trans g4,by rw [g5,hd];simp,fun r hr=>?_,List.nodup_append.2 ⟨g6.2,hms.2,fun x hx y hy e=>?_⟩⟩
 ·rcases List.mem_append.1 hr with hr|hr
  ·obtain ⟨k1,k2,k3⟩:=g6.1 r hr
   exact ⟨zr hs.size k1,k2,k3⟩
  ·obtain ⟨k1,k2,k3⟩:=hms.1 r hr
   have hl:r<w1.heap.size:=(zz.1 k3).1
   exact ⟨k1,g4.ro r k2,(g4.same r hl k2).trans k3⟩
 ·have k1:=(g6.1 x hx).1
  have hl:y<w1.heap.size:=(zz.1 (hms.1 y hy).2.2).1
  omega
def RP:iG→Bool
 |.grd _ _ v=>calm v
 |v=>calm v
theorem aV.aob (h:aV L σ T st a w){d:Nat}:aV L σ T (st.put d (.lU false [])) (a.put (some d) undef) w :=
 h.put (fun _ _ e=>by cases e) ⟨#[],rfl,rfl,fun k x u e=>by simp at e⟩
theorem LW {g:Nat}{want:Bool}{v:iG}(h:aV L σ T st a w)(hm:mG P cu o (.grd g want v)=true)(hp:op rec env (.grd g want v) st=some st') :
  (Region.wanted o (yielded cu a.tmps)=true∧m1 P o v=true∧op1 rec env v st=some st')∨(Region.wanted o (yielded cu a.tmps)=false∧aV L σ T st' (a.put o.dst undef) w∧st'.ys=st.ys):=by
 simp only [mG,ZZ] at hm
 obtain ⟨hm1,hm⟩:=hm
 split at hm1
 case h_2=>cases hm1
 rename_i j b hgd
 simp only [ZZ,beq_iff_eq] at hm1
 obtain ⟨rfl,hj⟩:=hm1
 have hd:o.dst=bZ v:=by
  have hm':=hm
  simp only [m1,ZZ,beq_iff_eq] at hm'
  exact hm'.1
 have ajX:∀ {s:St},(match bZ v with
   |some d=>some (st.put d (.lU false []))
   |none=>some st)=some s→aV L σ T s (a.put o.dst undef) w∧s.ys=st.ys:=by
  intro s hp
  rw [hd]
  split at hp
  ·rename_i d hd2
   rw [hd2]
   have hp:=ZD.inj hp;subst hp
   exact ⟨h.aob,rfl⟩
  ·rename_i hd2
   rw [hd2]
   have hp:=ZD.inj hp;subst hp
   exact ⟨h,rfl⟩
 have slot:∀ {x:AV},st.slots.getD g .any=x→x≠.any→st.slots[g]?=some x∧∃ u,a.tmps[g]?=some u∧lq L σ T st a w g x u:=by
  intro x hs hx
  simp only [List.getD_eq_getElem?_getD] at hs
  cases e:st.slots[g]? with
  |none=>rw [e] at hs;exact absurd hs.symm hx
  |some y =>
   rw [e] at hs
   have hs:y=x:=hs
   subst hs
   have hlt:g<a.tmps.size:=by rw [h.size];exact (Z6.1 e).1
   exact ⟨rfl,_,zj hlt,h.slots g _ _ e (zj hlt)⟩
 simp only [op] at hp
 split at hp
 ·rename_i t hs
  obtain ⟨_,u,hu,hr⟩:=slot hs (by simp)
  have hu:a.tmps[g]?=some (.bool t):=by rw [hu,aA.iJ hr]
  have hy:yielded cu a.tmps j=some t:=by simp [yielded,hj,hu]
  have hw:Region.wanted o (yielded cu a.tmps)=(t==b):=by
   simp only [Region.wanted,hgd,hy]
   cases t<;>cases b<;>rfl
  by_cases htb:t=b
  ·subst htb
   simp only [↓reduceIte] at hp
   exact .inl ⟨by simp [hw],hm,hp⟩
  ·rw [if_neg htb] at hp
   exact .inr ⟨by simpa [hw] using htb,ajX hp⟩
 ·rename_i kk l hs
  obtain ⟨_,u,hu,arr,rfl,_⟩:=slot hs (by simp)
  have hy:yielded cu a.tmps j=none:=by
   cases kk<;>simp [yielded,hj,hu,an3]
  split at hp
  ·exact .inr ⟨by simp [Region.wanted,hgd,hy],ajX hp⟩
  ·cases hp
 ·cases hp
theorem acL (hW:lJ F)(hC:C.Ok P L)(bC:gQ P rec env)(h:aV L σ T st a w)(hJ:C.J st.ys.length T w)(hst:st.stop=C.stop)(hm:mG P cu o vo=true)(hp:op rec env vo st=some st')(hX:st'.ys <+: C.X)
  (hn:∀ a' w',After C L st.boxes.length σ T w st' a.defers a' w'→(RP vo=true→Whole w w')→next a' w') :
  if Region.wanted o (yielded cu a.tmps) then o.wpIn F n P a w next Q else (∀ f,o.about P w a.eval=some f→F.fn f)∧next (a.put o.dst undef) w:=by
 by_cases hg:∃ g want v,vo=.grd g want v
 ·obtain ⟨g,want,v,rfl⟩:=hg
  rcases LW h hm hp with ⟨g1,g2,g3⟩|⟨g1,g2,g3⟩
  ·rw [g1]
   simp only [↓reduceIte]
   exact acK hW hC bC h hJ hst g2 g3 hX hn
  ·rw [g1]
   simp only [zg,↓reduceIte]
   refine ⟨fun f _=>hW.fn f,hn _ _ ?_ fun _=>Whole.refl w⟩
   rw [← put_defers (a:=a) (d:=o.dst) (v:=undef)]
   exact After.vX hC g2 (by rw [g3];exact hJ) (zQ.refl T w) (fun _ _=>rfl)
 ·have hm':o.guard.isNone=true∧m1 P o vo=true:=by
   cases vo<;>first|exact ZcQ.1 hm|exact absurd ⟨_,_,_,rfl⟩ hg
  have hp':op1 rec env vo st=some st':=by
   cases vo<;>first|exact hp|exact absurd ⟨_,_,_,rfl⟩ hg
  have hw:Region.wanted o (yielded cu a.tmps)=true:=by
   simp only [Region.wanted,Zbn.1 hm'.1]
  rw [hw]
  refine acK hW hC bC h hJ hst hm'.2 hp' hX fun a' w' g1 g2=>hn _ _ g1 fun e=>g2 ?_
  cases vo<;>first|exact e|exact absurd ⟨_,_,_,rfl⟩ hg
theorem gu:∀ {l:List iG} {st st':St},ops rec env l st=some st'→Grow st.boxes.length st st'
 |[],st,st',h=>by simp only [ops,ZD.injEq] at h;subst h;exact (aY.refl _).grow
 |v::l,st,st',h=>by
  simp only [ops] at h
  obtain ⟨st1,h1,h2⟩:=bind_some h
  exact ((iY h1).trans (gu h2)).mono (iY h1).1
theorem VZ (hW:lJ F)(hC:C.Ok P L)(bC:gQ P rec env)(hX:st'.ys <+: C.X):∀ {l:List Oper} {vs:List iG} {st:St} {σ:Nat→Nat} {T:Tags} {a:Act} {w:World},aV L σ T st a w→C.J st.ys.length T w→st.stop=C.stop→mL P cu l vs=true→ops rec env vs st=some st' →
  (∀ a' w',After C L st.boxes.length σ T w st' a.defers a' w'→Q .normal a' w')→wpListIn F n P cu Q l a w
 |[],[],st,σ,T,a,w,h,hJ,_,_,hp,hn=>by
  simp only [ops,ZD.injEq] at hp;subst hp
  exact hn _ _ (After.refl h hJ)
 |[],_::_,_,_,_,_,_,_,_,_,hm,_,_=>by simp [mL] at hm
 |_::_,[],_,_,_,_,_,_,_,_,hm,_,_=>by simp [mL] at hm
 |o::l,v::vs,st,σ,T,a,w,h,hJ,hst,hm,hp,hn=>by
  simp only [mL,ZZ] at hm
  simp only [ops] at hp
  obtain ⟨st1,h1,h2⟩:=bind_some hp
  have g1:=iY h1
  have g2:=gu h2
  simp only [wpListIn]
  refine acL hW hC bC h hJ hst hm.1 h1 (g2.2.1.trans hX) ?_
  rintro a1 w1 ⟨σ1,T1,ms,k1,k2,k3,k4,k5,k6⟩ _
  exact VZ hW hC bC hX k1 k2 (g1.2.2.trans hst) hm.2 h2 fun a' w' hA=>hn _ _ (After.trans k4 k3 k5 k6 g1.1 hA)
theorem Oc (hW:lJ F)(hC:C.Ok P L)(bC:gQ P rec env){l2:List Oper}(hX:st'.ys <+: C.X):∀ {l:List Oper} {vs:List iG} {st:St} {σ:Nat→Nat} {T:Tags} {a:Act} {w:World},aV L σ T st a w→C.J st.ys.length T w→st.stop=C.stop→mL P cu l vs=true→ops rec env vs st=some st' →
  (∀ a' w',After C L st.boxes.length σ T w st' a.defers a' w'→wpListIn F n P cu Q l2 a' w')→wpListIn F n P cu Q (l++l2) a w
 |[],[],st,σ,T,a,w,h,hJ,_,_,hp,hn=>by
  simp only [ops,ZD.injEq] at hp;subst hp
  exact hn _ _ (After.refl h hJ)
 |[],_::_,_,_,_,_,_,_,_,_,hm,_,_=>by simp [mL] at hm
 |_::_,[],_,_,_,_,_,_,_,_,hm,_,_=>by simp [mL] at hm
 |o::l,v::vs,st,σ,T,a,w,h,hJ,hst,hm,hp,hn=>by
  simp only [mL,ZZ] at hm
  simp only [ops] at hp
  obtain ⟨st1,h1,h2⟩:=bind_some hp
  have g1:=iY h1
  have g2:=gu h2
  simp only [Za3,wpListIn]
  refine acL hW hC bC h hJ hst hm.1 h1 (g2.2.1.trans hX) ?_
  rintro a1 w1 ⟨σ1,T1,ms,k1,k2,k3,k4,k5,k6⟩ _
  exact Oc hW hC bC hX k1 k2 (g1.2.2.trans hst) hm.2 h2 fun a' w' hA=>hn _ _ (After.trans k4 k3 k5 k6 g1.1 hA)
theorem aho {vs:List iG}{v:iG}:∀ {l:List Oper},mL P cu l (vs++[v])=true→∃ l1 o,l=l1++[o]∧mL P cu l1 vs=true∧mG P cu o v=true:=by
 induction vs with
 |nil =>
  intro l h
  match l,h with
  |[o],h=>simp only [List.nil_append,mL,Bool.and_true] at h;exact ⟨[],o,rfl,rfl,h⟩
  |[],h=>simp [mL] at h
  |_::_::_,h=>simp [mL] at h
 |cons x vs ih =>
  intro l h
  cases l with
  |nil=>simp [mL] at h
  |cons o l =>
   simp only [Za3,mL,ZZ] at h
   obtain ⟨l1,o1,rfl,g1,g2⟩:=ih h.2
   exact ⟨o::l1,o1,rfl,by simp only [mL,h.1,g1,Bool.and_self],g2⟩
theorem akZ (hW:lJ F)(hC:C.Ok P L)(bC:gQ P rec env)(h:aV L σ T st a w)(hJ:C.J st.ys.length T w){f:Nat}{xs:List bU}(hm:mG P cu o (.call d f xs)=true){vs:List PV}(h2:xs.mapM st.dG=some vs){t:Nat}{m:Int}(h3:Fg rec env f vs=some (some (t,m)))
  (hn:∀ w',After C L st.boxes.length σ T w st a.defers a w'→Q (.panic [{ v:=.iface t (.int .i64 m),recovered:=false }]) a w'):wpListIn F n P cu Q [o] a w:=by
 have hm':o.guard.isNone=true∧m1 P o (.call d f xs)=true:=ZcQ.1 hm
 have hw:Region.wanted o (yielded cu a.tmps)=true:=by simp only [Region.wanted,Zbn.1 hm'.1]
 simp only [wpListIn,hw,↓reduceIte]
 have hm1:=hm'.2
 have hm2:=hm1
 simp only [m1,ZZ,beq_iff_eq,mv] at hm2
 obtain ⟨hd,hm2⟩:=hm2
 split at hm2<;>try (cases hm2;done)
 rename_i g ys ho
 simp only [ZZ,beq_iff_eq] at hm2
 obtain ⟨rfl,hm2⟩:=hm2
 obtain ⟨ats,ho⟩:=Bl ho
 obtain ⟨hcall,hok⟩:=bC.2.2.2 _ vs t m h3
 refine ⟨fun f _=>hW.fn f,?_⟩
 rw [semAt_eq (uX hm1),vY ho rfl hcall]
 refine ⟨fun e=>absurd e (by rw [hW.depth];simp),hW.calls ?_⟩
 obtain ⟨l1,l2⟩:=mapM_some h2
 obtain ⟨m1,m2⟩:=Bo hm2
 have hargs:(ys.map a.eval).toArray++#[]=(ys.map a.eval).toArray:=by simp
 rw [hargs]
 obtain ⟨T0,hT0⟩:∃ T0:Tags,T0=fun b=>if T b=.ro then .ro else .other:=⟨_,rfl⟩
 have LU:∀ b,T b=.ro→T0 b=.ro:=fun b hb=>by rw [hT0];simp [hb]
 have h0:=hok T0 w (ys.map a.eval) (fun b=>by rw [hT0];simp only;split<;>simp) (fun b hb=>by rw [hT0];simp only;rw [if_neg];rw [h.fresh b hb];simp) (by simp [l1,m1]) (fun i p v hp hv=>by
  have hi:i<xs.length:=by rw [← l1];exact (Z6.1 hp).1
  have hi2:i<ys.length:=by rw [m1];exact hi
  obtain ⟨q,g1,g2⟩:=l2 i _ (ZS hi)
  rw [g2] at hp
  cases hp
  rw [zb,ZS hi2] at hv
  cases hv
  exact (h.pv (m2 i _ _ (ZS hi2) (ZS hi)) g1).frame fun b hb _=>⟨LU b hb,rfl⟩) ((hC.glob _ _ _ hJ).frame fun b hb _=>⟨LU b hb,rfl⟩)
 refine h0.mono ?_
 rintro e w' ⟨rfl,hB⟩
 have hwh:Whole w w':=⟨hB.size,fun b hl=>hB.block b hl⟩
 exact hn w' (After.vX hC (h.sees hwh.sees) hJ ⟨hB.size,hB.os,hB.tape,hB.output,fun b hl _=>hB.block b hl,fun _ e=>e,fun _ _ e=>e⟩ (fun _ _=>rfl))
end
section
variable {F:Fence}{n:Nat}{P:Program}{ops:Array Oper}{S S2:World→Prop}{Q:Act→World→Prop}{f:Nat}
def jm (F:Fence)(n:Nat)(P:Program)(ops:Array Oper)(S S2:World→Prop)(f:Nat)(Q:Act→World→Prop):Nat→Array Bool→Act→World→Prop
 |0,l,a,w=>Region.ready .any ops l=[]∧Q a w
 |fuel+1,l,a,w=>(Region.ready .any ops l=[]→Q a w)∧∀ i∈Region.ready .any ops l,wpOpIn F n P ops (dS Q) i (fun a' w'=>(((l.setIfInBounds i true).getD f false=true∨S w')∧S2 w')∧jm F n P ops S S2 f Q fuel (l.setIfInBounds i true) a' w') a w
theorem zZ:∀ (fuel:Nat) (l:Array Bool) (a:Act) (w:World),jm F n P ops S S2 f Q fuel l a w→wpAnyIn F n P .any ops (dS Q) fuel l a w
 |0,_,_,_,h=>⟨h.1,rfl,h.2⟩
 |fuel+1,_,_,_,h=>⟨fun h0=>⟨rfl,h.1 h0⟩,fun i hi=>wpOpIn_mono (fun a' w' h'=>zZ fuel _ a' w' h'.2) (h.2 i hi)⟩
theorem KF (hF:∀ f,F.fn f)(hnd:kK ops=true)(hsel:Region.noSelect ops=true){T:World→Prop}{i:Nat}{oi:Oper}{v:Value}(hi:ops[i]?=some oi)(hfi:f≠i)
  (hT:∀ l:Array Bool,l.size=ops.size→Closed ops l→l.getD i false=false→∀ w,((l.getD f false=true∨S w)∧S2 w)→T w) :
  ∀ (fuel:Nat) (l:Array Bool) (a:Act) (w:World),l.size=ops.size→Closed ops l→((l.getD f false=true∨S w)∧S2 w) →
   (∀ j oj,ops[j]?=some oj→j≠i→l.getD j true=false→(∀ e∈oj.after,Region.binds .any e=true→e.on≠i)→oi.apart ops oj=true) →
   i∈Region.ready .any ops l→YieldsIf P ops T oi v a →
   jm F n P ops S S2 f Q fuel (l.setIfInBounds i true) (a.put oi.dst v) w→jm F n P ops S S2 f Q (fuel+1) l a w:=by
 have self:∀ {a:Act} {w:World} {K:Act→World→Prop},YieldsIf P ops T oi v a→T w→K (a.put oi.dst v) w→wpOpIn F n P ops (dS Q) i K a w:=by
  intro a w K hy hS hk
  unfold wpOpIn
  simp only [hi]
  rcases hy with ⟨hw,hv⟩|⟨hw,rfl⟩
  ·rw [if_pos hw]
   refine ⟨fun f _=>hF f,?_⟩
   rw [Oper.semAt_eq _ _ _ (AP hnd hi),hv w hS]
   exact hk
  ·rw [if_neg (by rw [hw];decide)]
   exact ⟨fun f _=>hF f,hk⟩
 have listed:∀ {l:Array Bool} {w:World},l.size=ops.size→i∈Region.ready .any ops l→((l.getD f false=true∨S w)∧S2 w)→(((l.setIfInBounds i true).getD f false=true∨S w)∧S2 w):=fun hs hr h=>⟨h.1.imp (fun h=>by rw [jH _ _ _ (jg hs hr),if_neg (Ne.symm hfi)];exact h) id,h.2⟩
 have Hy:∀ {l:Array Bool},i∈Region.ready .any ops l→l.size=ops.size→l.getD i false=false:=fun h hs=>by
  have h1:=(mem_ready.1 h).1
  have h2:=jg hs h
  simpa [h2] using h1
 intro fuel
 induction fuel with
 |zero =>
  intro l a w hs hc hS _ hr hy H
  refine ⟨fun h=>(by rw [h] at hr;cases hr),fun j hj=>?_⟩
  by_cases hji:j=i
  ·subst hji;exact self hy (hT l hs hc (Hy hr hs) w hS) ⟨listed hs hr hS,H⟩
  ·have:=ready_mono hj hji
   rw [H.1] at this
   cases this
 |succ fuel ih =>
  intro l a w hs hc hS hfree hr hy H
  refine ⟨fun h=>(by rw [h] at hr;cases hr),fun j hj=>?_⟩
  by_cases hji:j=i
  ·subst hji;exact self hy (hT l hs hc (Hy hr hs) w hS) ⟨listed hs hr hS,H⟩
  ·have h1:=H.2 j (ready_mono hj hji)
   obtain ⟨hjun,oj,hoj,hall⟩:=mem_ready.1 hj
   have hnot:∀ e∈oj.after,Region.binds .any e=true→e.on≠i:=fun e he hb heq=>by
    have h1:=hall e he hb
    rw [heq,Hy hr hs] at h1
    cases h1
   have h2:=ace hF hnd hsel hi hoj (hfree j oj hoj hji hjun hnot) hy h1
   have hs':(l.setIfInBounds j true).size=ops.size:=by simpa using hs
   refine wpOpIn_mono (fun a' w' h3=>?_) h2
   have hSS:(((l.setIfInBounds j true).getD f false=true∨S w')∧S2 w'):=⟨h3.2.1.1.imp (fun h=>by
    rw [jH _ _ _ (by simpa using jg hs hj),jH _ _ _ (jg hs hr),if_neg (Ne.symm hfi)] at h
    rw [jH _ _ _ (jg hs hj)];exact h) id,h3.2.1.2⟩
   refine ⟨hSS,ih (l.setIfInBounds j true) a' w' hs' (hc.set hs hj) hSS (fun k ok hk hki hun hno=>hfree k ok hk hki ?_ hno) (ready_mono hr (Ne.symm hji)) h3.1 ?_⟩
   ·by_cases hjk:j=k
    ·subst hjk;exact hjun
    ·rw [getD_set_ne true hjk] at hun;exact hun
   ·rw [Array.setIfInBounds_comm _ _ hji]
    exact h3.2.2
theorem fO (hF:∀ f,F.fn f)(hnd:kK ops=true)(hsel:Region.noSelect ops=true){T:World→Prop}{w:World}:∀ (seg:List Nat) (m:Nat) (l l':Array Bool) (a:Act),l.size=ops.size→Closed ops l→((l.getD f false=true∨S w)∧S2 w) →
  (∀ i∈seg,f≠i∧∀ l:Array Bool,l.size=ops.size→Closed ops l→l.getD i false=false→(∀ j,l.getD j false=true∨True)→∀ w,((l.getD f false=true∨S w)∧S2 w)→T w) →
  dK ops seg l=some l'→(l'.size=ops.size→Closed ops l'→((l'.getD f false=true∨S w)∧S2 w)→True) →
  wpQuiet P ops T (fun a'=>∀ (_:l'.size=ops.size) (_:Closed ops l') (_:(l'.getD f false=true∨S w)∧S2 w),jm F n P ops S S2 f Q m l' a' w) (pick ops seg) a→jm F n P ops S S2 f Q (m+seg.length) l a w
 |[],m,l,l',a,hs,hc,hS,_,hq,_,h=>by
  simp only [dK,ZD.injEq] at hq
  subst hq
  exact h hs hc hS
 |i::is,m,l,l',a,hs,hc,hS,hT,hq,ht,h=>by
  unfold dK at hq
  split at hq
  case isFalse=>cases hq
  rename_i hcnd
  simp only [ZZ] at hcnd
  obtain ⟨⟨hp,hf⟩,hr⟩:=hcnd
  have hr':i∈Region.ready .any ops l:=by simpa using hr
  cases ho:ops[i]? with
  |none=>rw [ho] at hp;simp at hp
  |some o =>
   rw [ho] at hp
   simp only [Zah,Option.getD_some] at hp
   simp only [pick,List.filterMap_cons,ho] at h
   unfold wpQuiet at h
   have key:∃ v,YieldsIf P ops T o v a∧wpQuiet P ops T (fun a'=>∀ (_:l'.size=ops.size) (_:Closed ops l') (_:(l'.getD f false=true∨S w)∧S2 w),jm F n P ops S S2 f Q m l' a' w) (pick ops is) (a.put o.dst v):=by
    split at h
    ·rename_i hw
     obtain ⟨v,h1,h2⟩:=h
     refine ⟨v,.inl ⟨hw,fun w1 hw1=>?_⟩,h2⟩
     have h3:=h1 w1 hw1
     unfold Oper.quietAt at h3
     cases hrun:(execOp a.eval o).run P w1 with
     |halt x w2=>rw [hrun] at h3;exact h3.elim
     |ok x w2 =>
      obtain ⟨y,rfl⟩:=ED hp hrun
      rw [hrun] at h3
      obtain ⟨e1,e2⟩:=h3
      rw [e1,e2]
    ·rename_i hw
     exact ⟨undef,.inr ⟨by simpa using hw,rfl⟩,h⟩
   obtain ⟨v,hy,hk⟩:=key
   have hTi:=hT i (by simp)
   refine KF hF hnd hsel ho hTi.1 (fun l hs hc hu w hS=>hTi.2 l hs hc hu (fun _=>.inr trivial) w hS) (m+is.length) l a w hs hc hS (Region.free_spec ho hf) hr' hy ?_
   refine fO hF hnd hsel is m (l.setIfInBounds i true) l' _ (by simpa using hs) (hc.set hs hr') ⟨hS.1.imp (fun h=>?_) id,hS.2⟩ (fun j hj=>hT j (by simp [hj])) hq ht hk
   rw [jH _ _ _ (jg hs hr'),if_neg (Ne.symm hTi.1)];exact h
end
section
variable {F:Fence}{n:Nat}{P:Program}{ops:Array Oper}{Q:Act→World→Prop}{f:Nat}
theorem fP {S S' S2 S2':World→Prop}(hS:∀ w,S' w→S w)(hS2:∀ w,S2' w→S2 w):∀ (m:Nat) (l:Array Bool) (a:Act) (w:World),jm F n P ops S' S2' f Q m l a w→jm F n P ops S S2 f Q m l a w
 |0,_,_,_,h=>h
 |m+1,_,_,_,h=>⟨h.1,fun i hi=>wpOpIn_mono (fun a' w' h'=>⟨⟨h'.1.1.imp id (hS w'),hS2 w' h'.1.2⟩,fP hS hS2 m _ a' w' h'.2⟩) (h.2 i hi)⟩
abbrev Fin1:=Option (List Nat×List Nat×Nat×List (List Nat×Nat))
def kX (ops:Array Oper):Fin1→Nat
 |none=>ops.size
 |some (_,_,f,_)=>f
def RQ (ops:Array Oper)(i:Nat)(seg:List Nat):List Nat:=seg.takeWhile (Dp ops ops.size i)
def Vt (ops:Array Oper)(i:Nat)(seg:List Nat):List Nat:=seg.dropWhile (Dp ops ops.size i)
def EO (ops:Array Oper)(f:Nat)(last:List Nat):List (List Nat×Nat)→Array Bool→Bool
 |[],l=>last.all (fun i=>f != i)&&match dK ops last l with
  |some l2=>(Region.ready .any ops l2).isEmpty
  |none=>false
 |(seg,i)::more,l=>seg.all (fun j=>f != j&&i != j)&&f != i&&match dK ops (RQ ops i seg) l with
  |some l0=>match dK ops (Vt ops i seg) l0 with
   |some l1=>(Region.ready .any ops l1==[i])&&EO ops f last more (l1.setIfInBounds i true)
   |none=>false
  |none=>false
def gZ (last:List Nat):List (List Nat×Nat)→Nat
 |[]=>last.length
 |(seg,_)::more=>gZ last more+1+seg.length
def rY (ops:Array Oper)(fin:Fin1)(i:Nat):Bool:=match fin with
 |none=>true
 |some (_,_,f,_)=>Dp ops ops.size f i
def nD (ops:Array Oper)(fin:Fin1)(seg:List Nat):List Nat:=seg.takeWhile (rY ops fin)
def mF (ops:Array Oper)(fin:Fin1)(seg:List Nat):List Nat:=seg.dropWhile (rY ops fin)
def RS (ops:Array Oper)(fin:Fin1)(seg:List Nat):Bool:=(match fin with
 |none=>seg.all (fun i=>i<ops.size)
 |some (_,_,f,_)=>seg.all (fun i=>f != i))
def Oe (ops:Array Oper):List (List Nat×Nat)→Fin1→List Nat→Array Bool→Bool
 |[],none,last,l=>last.all (fun i=>i<ops.size)&&match dK ops last l with
  |some l1=>(Region.ready .any ops l1).isEmpty
  |none=>false
 |[],some (fA,fB,f,tl),last,l=>fA.all (fun i=>f != i&&Dp ops ops.size f i)&&fB.all (fun i=>f != i)&&match dK ops fA l with
  |some l0=>match dK ops fB l0 with
   |some l1=>(Region.ready .any ops l1==[f])&&EO ops f last tl (l1.setIfInBounds f true)
   |none=>false
  |none=>false
 |(seg,i)::more,fin,last,l=>RS ops fin seg&&match dK ops (nD ops fin seg) l with
  |some l0=>match dK ops (mF ops fin seg) l0 with
   |some l1=>(Region.ready .any ops l1==[i])&&Oe ops more fin last (l1.setIfInBounds i true)
   |none=>false
  |none=>false
def jJ:List (List Nat×Nat)→Fin1→List Nat→Nat
 |[],none,last=>last.length
 |[],some (fA,fB,_,tl),last=>gZ last tl+1+fB.length+fA.length
 |(seg,_)::more,fin,last=>jJ more fin last+1+seg.length
def YA (ops:Array Oper)(acts:List (List Nat×Nat))(fin:Fin1)(last:List Nat):Bool :=
 Region.noSelect ops&&(jJ acts fin last==ops.size)&&Oe ops acts fin last (Zbj ops.size false)
def qA (F:Fence)(n:Nat)(P:Program)(ops:Array Oper)(Q:Act→World→Prop)(last:List Nat):(World→Prop)→List (List Nat×Nat)→Act→World→Prop
 |S2,[],a,w=>∃ S3:World→Prop,(∀ w,S3 w→S2 w)∧S3 w∧wpQuiet P ops S3 (fun a3=>Q a3 w) (pick ops last) a
 |S2,(seg,i)::more,a,w=>wpQuiet P ops (Whole w) (fun a0=>∃ S3:World→Prop,(∀ w,S3 w→S2 w)∧S3 w∧wpQuiet P ops S3 (fun a'=>wpListIn F n P ops (fun e a'' w''=>e=.normal∧S3 w''∧qA F n P ops Q last S3 more a'' w'') (pick ops [i]) a' w) (pick ops (Vt ops i seg)) a0) (pick ops (RQ ops i seg)) a
def tK (F:Fence)(n:Nat)(P:Program)(ops:Array Oper)(Q:Act→World→Prop):(World→Prop)→(World→Prop)→List (List Nat×Nat)→Fin1→List Nat→Act→World→Prop
 |S,_,[],none,last,a,w=>wpQuiet P ops S (fun a'=>Q a' w) (pick ops last) a
 |S,S2,[],some (fA,fB,f,tl),last,a,w=>wpQuiet P ops S (fun a0=>∃ S3:World→Prop,(∀ w,S3 w→S2 w)∧S3 w∧wpQuiet P ops S3 (fun a'=>wpListIn F n P ops (fun e a'' w''=>e=.normal∧S3 w''∧qA F n P ops Q last S3 tl a'' w'') (pick ops [f]) a' w) (pick ops fB) a0) (pick ops fA) a
 |S,S2,(seg,i)::more,fin,last,a,w=>wpQuiet P ops S (fun a0=>∃ S3:World→Prop,(∀ w,S3 w→S2 w)∧S3 w∧wpQuiet P ops S3 (fun a'=>wpListIn F n P ops (fun e a'' w''=>e=.normal∧∃ S':World→Prop,(∀ w,S' w→S w)∧S' w''∧S3 w''∧tK F n P ops Q S' S3 more fin last a'' w'') (pick ops [i]) a' w) (pick ops (mF ops fin seg)) a0) (pick ops (nD ops fin seg)) a
theorem nS:∀ (seg:List Nat) (l l':Array Bool),l.size=ops.size→dK ops seg l=some l'→l.getD f false=true→l'.getD f false=true
 |[],l,l',_,h,hf=>by simp only [dK,ZD.injEq] at h;subst h;exact hf
 |i::is,l,l',hs,h,hf=>by
  unfold dK at h
  split at h
  case isFalse=>cases h
  rename_i hc
  simp only [ZZ] at hc
  have hr:i∈Region.ready .any ops l:=by simpa using hc.2
  refine nS is _ l' (by simpa using hs) h ?_
  rw [jH _ _ _ (jg hs hr)]
  split
  ·rfl
  ·exact hf
theorem uD {S S' S2:World→Prop}{g:Nat}:∀ (m:Nat) (l:Array Bool) (a:Act) (w:World),l.size=ops.size→l.getD g false=true→jm F n P ops S' S2 f Q m l a w→jm F n P ops S S2 g Q m l a w
 |0,_,_,_,_,_,h=>h
 |m+1,l,a,w,hs,hg,h=>⟨h.1,fun i hi=>wpOpIn_mono (fun a' w' h'=>by
   have hg':(l.setIfInBounds i true).getD g false=true:=by
    rw [jH _ _ _ (jg hs hi)]
    split
    ·rfl
    ·exact hg
   exact ⟨⟨.inl hg',h'.1.2⟩,uD m _ _ _ (by simpa using hs) hg' h'.2⟩) (h.2 i hi)⟩
theorem arE (i:Nat)(seg:List Nat):(Vt ops i seg).length+(RQ ops i seg).length=seg.length:=by
 have:=congrArg List.length (Zbu (p:=Dp ops ops.size i) (l:=seg))
 rw [Zaa] at this
 unfold RQ Vt;omega
theorem Aa {S:World→Prop}(hF:∀ f,F.fn f)(hnd:kK ops=true)(hsel:Region.noSelect ops=true){last:List Nat}:∀ (tl:List (List Nat×Nat)) (S2:World→Prop) (l:Array Bool) (a:Act) (w:World),l.size=ops.size→Closed ops l→l.getD f false=true→S2 w→EO ops f last tl l=true →
  qA F n P ops Q last S2 tl a w→jm F n P ops S S2 f Q (gZ last tl) l a w
 |[],S2,l,a,w,hs,hc,hf,h2,hB,h=>by
  unfold EO at hB
  simp only [ZZ] at hB
  obtain ⟨hl,hB⟩:=hB
  split at hB
  case h_2=>cases hB
  rename_i l2 hq2
  unfold qA at h
  obtain ⟨S3,hS3,hw3,h⟩:=h
  refine fP (S':=S) (S2':=S3) (fun _ h=>h) hS3 _ _ _ _ ?_
  have h3:=fO (F:=F) (n:=n) (P:=P) (S:=S) (Q:=Q) (f:=f) hF hnd hsel (S2:=S3) (T:=S3) (w:=w) last 0 l l2 a hs hc ⟨.inl hf,hw3⟩
   (fun i hi=>⟨by have:=zE.1 hl i hi;simpa using this,fun _ _ _ _ _ _ h=>h.2⟩) hq2 (fun _ _ _=>trivial) (dU (fun a3 h3 _ _ _=>⟨by simpa using hB,h3⟩) _ _ h)
  simpa [gZ] using h3
 |(seg,i)::more,S2,l,a,w,hs,hc,hf,h2,hB,h=>by
  unfold EO at hB
  simp only [ZZ,bne_iff_ne] at hB
  obtain ⟨⟨hl,hfi⟩,hB⟩:=hB
  have hlA:∀ j∈RQ ops i seg,j∈seg:=fun j hj=>(Zdx (Dp ops ops.size i)).subset hj
  have hlB:∀ j∈Vt ops i seg,j∈seg:=fun j hj=>(Zdy (Dp ops ops.size i)).subset hj
  have hne:∀ j∈seg,f≠j∧i≠j:=fun j hj=>by have:=zE.1 hl j hj;simpa using this
  split at hB
  case h_2=>cases hB
  rename_i l0 hq0
  split at hB
  case h_2=>cases hB
  rename_i l1 hq1
  simp only [ZZ,beq_iff_eq] at hB
  obtain ⟨hr,hB⟩:=hB
  unfold qA at h
  have h3:=fO (F:=F) (n:=n) (P:=P) (S:=Whole w) (Q:=Q) (f:=i) (S2:=S2) hF hnd hsel (T:=Whole w) (w:=w) (RQ ops i seg) (gZ last more+1+(Vt ops i seg).length) l l0 a hs hc ⟨.inr (Whole.refl w),h2⟩ (fun j hj=>by
   have hd:Dp ops ops.size i j=true:=zE.1 (ZdH (p:=Dp ops ops.size i) (l:=seg)) j hj
   refine ⟨(hne j (hlA j hj)).2,fun l _ hc hu _ w hS=>hS.1.resolve_left fun hf=>?_⟩
   rw [hc.dep _ _ _ hf hd] at hu;cases hu) hq0 (fun _ _ _=>trivial) (dU (fun a0 h0 hs0 hc0 hS0=>by
    obtain ⟨S3,hS3,hw3,h0⟩:=h0
    refine fP (S':=Whole w) (S2':=S3) (fun _ h=>h) hS3 _ _ _ _ ?_
    refine fO (F:=F) (n:=n) (P:=P) (S:=Whole w) (Q:=Q) (f:=i) (S2:=S3) hF hnd hsel (T:=S3) (w:=w) (Vt ops i seg) (gZ last more+1) l0 l1 a0 hs0 hc0 ⟨hS0.1,hw3⟩ (fun j hj=>⟨(hne j (hlB j hj)).2,fun _ _ _ _ _ _ h=>h.2⟩) hq1 (fun _ _ _=>trivial) (dU (fun a' h' hs1 hc1 _=>by
     refine ⟨fun h0=>(by rw [hr] at h0;cases h0),fun j hj=>?_⟩
     have hj':=hj
     rw [hr] at hj
     obtain rfl:j=i:=by simpa using hj
     have hf0:=nS _ l l0 hs hq0 hf
     have hf1:=nS _ l0 l1 hs0 hq1 hf0
     have hg1:(l1.setIfInBounds j true).getD j false=true:=by rw [jH _ _ _ (jg hs1 hj'),if_pos rfl]
     have hf2:(l1.setIfInBounds j true).getD f false=true:=by
      rw [jH _ _ _ (jg hs1 hj')]
      split
      ·rfl
      ·exact hf1
     exact zN hF (fun a2 w2 h3=>⟨⟨.inl hg1,h3.1⟩,uD (S':=S) _ _ _ _ (by simpa using hs1) hg1 (Aa hF hnd hsel more S3 _ _ _ (by simpa using hs1) (hc1.set hs1 hj') hf2 h3.1 hB h3.2)⟩) h') _ _ h0)) _ _ h)
  have e:=arE (ops:=ops) i seg
  simp only [gZ]
  rw [show gZ last more+1+seg.length=gZ last more+1+(Vt ops i seg).length+(RQ ops i seg).length by omega]
  exact uD _ _ _ _ hs hf h3
theorem V3 {S S2:World→Prop}{fin:Fin1}{seg:List Nat}(h:RS ops fin seg=true):∀ i∈nD ops fin seg,kX ops fin≠i∧∀ l:Array Bool,l.size=ops.size→Closed ops l→l.getD i false=false→(∀ j,l.getD j false=true∨True)→∀ w,((l.getD (kX ops fin) false=true∨S w)∧S2 w)→S w:=fun i hi=>by
 have hd:rY ops fin i=true:=zE.1 (ZdH (p:=rY ops fin) (l:=seg)) i hi
 have hm:i∈seg:=(Zdx (rY ops fin)).subset hi
 cases fin with
 |none =>
  have:=zE.1 h i hm
  simp only [decide_eq_true_eq] at this
  refine ⟨by simp only [kX];omega,fun l hs hc hu _ w hS=>hS.1.resolve_left fun hf=>?_⟩
  simp only [kX] at hf
  rw [ZaN,Zb8 (by omega)] at hf;cases hf
 |some p =>
  have:=zE.1 h i hm
  simp only [bne_iff_ne] at this
  refine ⟨this,fun l _ hc hu _ w hS=>hS.1.resolve_left fun hf=>?_⟩
  rw [hc.dep _ _ _ hf hd] at hu;cases hu
theorem V4 {S S2:World→Prop}{fin:Fin1}{seg:List Nat}(h:RS ops fin seg=true):∀ i∈mF ops fin seg,kX ops fin≠i∧∀ l:Array Bool,l.size=ops.size→Closed ops l→l.getD i false=false→(∀ j,l.getD j false=true∨True)→∀ w,((l.getD (kX ops fin) false=true∨S w)∧S2 w)→S2 w:=fun i hi=>by
 have hm:i∈seg:=(Zdy (rY ops fin)).subset hi
 refine ⟨?_,fun l _ _ _ _ w hS=>hS.2⟩
 cases fin with
 |none =>
  have:=zE.1 h i hm
  simp only [decide_eq_true_eq] at this
  simp only [kX];omega
 |some p =>
  have:=zE.1 h i hm
  simp only [bne_iff_ne] at this
  exact this
theorem ajY (fin:Fin1)(seg:List Nat):(mF ops fin seg).length+(nD ops fin seg).length=seg.length:=by
 have:=congrArg List.length (Zbu (p:=rY ops fin) (l:=seg))
 rw [Zaa] at this
 unfold nD mF;omega
theorem Dz (hF:∀ f,F.fn f)(hnd:kK ops=true)(hsel:Region.noSelect ops=true){fin:Fin1}{last:List Nat}:∀ (acts:List (List Nat×Nat)) (S S2:World→Prop) (l:Array Bool) (a:Act) (w:World),l.size=ops.size→Closed ops l→Oe ops acts fin last l=true→S w→S2 w →
  tK F n P ops Q S S2 acts fin last a w→jm F n P ops S S2 (kX ops fin) Q (jJ acts fin last) l a w
 |[],S,S2,l,a,w,hs,hc,hB,hS,hS2,h=>by
  cases fin with
  |none =>
   unfold Oe at hB
   simp only [ZZ] at hB
   obtain ⟨hl,hB⟩:=hB
   split at hB
   case h_2=>cases hB
   rename_i l1 hq1
   unfold tK at h
   have:=fO (F:=F) (n:=n) (P:=P) (S:=S) (Q:=Q) (f:=ops.size) (S2:=S2) hF hnd hsel (T:=S) (w:=w) last 0 l l1 a hs hc ⟨.inr hS,hS2⟩ (fun i hi=>by
    have:=zE.1 hl i hi
    simp only [decide_eq_true_eq] at this
    refine ⟨by omega,fun l hs hc hu _ w hS=>hS.1.resolve_left fun hf=>?_⟩
    rw [ZaN,Zb8 (by omega)] at hf;cases hf) hq1 (fun _ _ _=>trivial) (dU (fun a' h' _ _ _=>⟨by simpa using hB,h'⟩) _ _ h)
   simpa [jJ,kX] using this
  |some p =>
   obtain ⟨fA,fB,f,tl⟩:=p
   unfold Oe at hB
   simp only [ZZ] at hB
   obtain ⟨⟨hsg,hsu⟩,hB⟩:=hB
   split at hB
   case h_2=>cases hB
   rename_i l0 hq0
   split at hB
   case h_2=>cases hB
   rename_i l1 hq1
   simp only [ZZ,beq_iff_eq] at hB
   obtain ⟨hr,hB⟩:=hB
   unfold tK at h
   have:=fO (F:=F) (n:=n) (P:=P) (S:=S) (Q:=Q) (f:=f) (S2:=S2) hF hnd hsel (T:=S) (w:=w) fA (gZ last tl+1+fB.length) l l0 a hs hc ⟨.inr hS,hS2⟩ (fun i hi=>by
    have:=zE.1 hsg i hi
    simp only [ZZ,bne_iff_ne] at this
    refine ⟨this.1,fun l _ hc hu _ w hS=>hS.1.resolve_left fun hf=>?_⟩
    rw [hc.dep _ _ _ hf this.2] at hu;cases hu) hq0 (fun _ _ _=>trivial) (dU (fun a0 h0 hs0 hc0 hS0=>by
     obtain ⟨S3,hS3,hw3,h0⟩:=h0
     refine fP (S':=S) (S2':=S3) (fun _ h=>h) hS3 _ _ _ _ ?_
     refine fO (F:=F) (n:=n) (P:=P) (S:=S) (Q:=Q) (f:=f) (S2:=S3) hF hnd hsel (T:=S3) (w:=w) fB (gZ last tl+1) l0 l1 a0 hs0 hc0 ⟨hS0.1,hw3⟩ (fun i hi=>by
      have:=zE.1 hsu i hi
      simp only [bne_iff_ne] at this
      exact ⟨this,fun _ _ _ _ _ _ h=>h.2⟩) hq1 (fun _ _ _=>trivial) (dU (fun a' h' hs1 hc1 _=>by
       refine ⟨fun h0=>(by rw [hr] at h0;cases h0),fun j hj=>?_⟩
       have hj':=hj
       rw [hr] at hj
       obtain rfl:j=f:=by simpa using hj
       have hf1:(l1.setIfInBounds j true).getD j false=true:=by rw [jH _ _ _ (jg hs1 hj'),if_pos rfl]
       exact zN hF (fun a2 w2 h3=>⟨⟨.inl hf1,h3.1⟩,Aa hF hnd hsel tl S3 _ _ _ (by simpa using hs1) (hc1.set hs1 hj') hf1 h3.1 hB h3.2⟩) h') _ _ h0)) _ _ h)
   simpa [jJ,kX] using this
 |(seg,i)::more,S,S2,l,a,w,hs,hc,hB,hS,hS2,h=>by
  unfold Oe at hB
  simp only [ZZ] at hB
  obtain ⟨hsg,hB⟩:=hB
  split at hB
  case h_2=>cases hB
  rename_i l0 hq0
  split at hB
  case h_2=>cases hB
  rename_i l1 hq1
  simp only [ZZ,beq_iff_eq] at hB
  obtain ⟨hr,hB⟩:=hB
  unfold tK at h
  have:=fO (F:=F) (n:=n) (P:=P) (S:=S) (Q:=Q) (f:=kX ops fin) (S2:=S2) hF hnd hsel (T:=S) (w:=w) (nD ops fin seg) (jJ more fin last+1+(mF ops fin seg).length) l l0 a hs hc ⟨.inr hS,hS2⟩ (V3 hsg) hq0 (fun _ _ _=>trivial) (dU (fun a0 h0 hs0 hc0 hS0=>by
    obtain ⟨S3,hS3,hw3,h0⟩:=h0
    refine fP (S':=S) (S2':=S3) (fun _ h=>h) hS3 _ _ _ _ ?_
    refine fO (F:=F) (n:=n) (P:=P) (S:=S) (Q:=Q) (f:=kX ops fin) (S2:=S3) hF hnd hsel (T:=S3) (w:=w) (mF ops fin seg) (jJ more fin last+1) l0 l1 a0 hs0 hc0 ⟨hS0.1,hw3⟩ (V4 hsg) hq1 (fun _ _ _=>trivial) (dU (fun a' h' hs1 hc1 _=>by
     refine ⟨fun h0=>(by rw [hr] at h0;cases h0),fun j hj=>?_⟩
     have hj':=hj
     rw [hr] at hj
     obtain rfl:j=i:=by simpa using hj
     refine zN hF (fun a2 w2 h2=>?_) h'
     obtain ⟨S',k1,k2,k3,k4⟩:=h2
     exact ⟨⟨.inr (k1 _ k2),k3⟩,fP k1 (fun _ h=>h) _ _ _ _ (Dz hF hnd hsel more S' S3 _ _ _ (by simpa using hs1) (hc1.set hs1 hj') hB k2 k3 k4)⟩) _ _ h0)) _ _ h)
  have e:=ajY (ops:=ops) fin seg
  simp only [jJ]
  rw [show jJ more fin last+1+seg.length=jJ more fin last+1+(mF ops fin seg).length+(nD ops fin seg).length by omega]
  exact this
theorem Fp {id:Nat}{l:Array Oper}{a:Act}{w:World}{Q:Exit→Act→World→Prop}(S:World→Prop){acts:List (List Nat×Nat)}{fin:Fin1}{last:List Nat}(hF:∀ f,F.fn f)(hm:P.follows .mixedOrders=true)
  (hnd:kK l=true) (hB:YA l acts fin last=true) (hS:S w.drew) (h:tK F n P l (Q .normal) S (fun _=>True) acts fin last a w.drew):(Code.region id l true).wpIn F n P Q a w:=by
 simp only [YA,ZZ,beq_iff_eq] at hB
 obtain ⟨⟨hsel,hn⟩,hB⟩:=hB
 refine Code.wpIn_mono (Q:=dS (Q .normal)) (fun e a w h=>by obtain ⟨rfl,h⟩:=h;exact h) (wpIn_region_any hm ?_)
 have:=zZ _ _ _ _ (Dz hF hnd hsel acts S (fun _=>True) (Zbj l.size false) a _ (by simp) (fun m o hm=>absurd hm (by rw [ZaN,Array.getElem?_replicate];split<;>simp)) hB hS trivial h)
 rw [hn] at this
 exact this
end
def core:iG→iG
 |.grd _ _ v=>v
 |v=>v
def Hz:iG→Bool
 |.ak ..|.aN ..|.un ..|.pick ..|.bin ..|.conv ..|.mn ..|.aP ..|.zx ..|.dA ..|.fld ..|.idx ..|.len ..|.lens ..|.Yn ..|.ext ..|.Zw ..|.Vz ..|.Zu ..|.eqm ..=>true
 |_=>false
def Bz (v:iG):Bool:=Hz v || match v with
 |.Zv ..=>true
 |_=>false
def BA:iG→Bool
 |.build ..|.VB ..=>true
 |_=>false
def mJ:Bool→List iG→Bool
 |_,[]=>true
 |ok,v::vs=>(Hz (core v)&&mJ ok vs) || (BA (core v)&&mJ false vs) || (ok&&Bz (core v)&&mJ ok vs)
def vZ (P:Program)(cu:Array Oper)(seg:List Nat)(vs:List iG):Bool:=mL P cu (pick cu seg) vs&&vs.all fun v=>!nM (core v)
def BD (P:Program)(cu:Array Oper)(last:List Nat):List (List Nat×Nat)→List iG→Bool
 |[],vs=>mL P cu (pick cu last) vs&&mJ true vs
 |(seg,i)::more,vs=>vZ P cu (RQ cu i seg) (vs.take (RQ cu i seg).length)&&mL P cu (pick cu (Vt cu i seg)) ((vs.drop (RQ cu i seg).length).take (Vt cu i seg).length)&&mJ true ((vs.drop (RQ cu i seg).length).take (Vt cu i seg).length)&&match (vs.drop (RQ cu i seg).length).drop (Vt cu i seg).length with
  |v::vs=>mL P cu (pick cu [i]) [v]&&BD P cu last more vs
  |[]=>false
def Ac (P:Program)(cu:Array Oper)(fin:Fin1)(last:List Nat):List (List Nat×Nat)→List iG→Bool
 |[],vs=>match fin with
  |none=>vZ P cu last vs
  |some (fA,fB,f,tl)=>vZ P cu fA (vs.take fA.length)&&mL P cu (pick cu fB) ((vs.drop fA.length).take fB.length)&&mJ true ((vs.drop fA.length).take fB.length)&&match (vs.drop fA.length).drop fB.length with
   |v::vs=>mL P cu (pick cu [f]) [v]&&BD P cu last tl vs
   |[]=>false
 |(seg,i)::more,vs=>vZ P cu (nD cu fin seg) (vs.take (nD cu fin seg).length)&&mL P cu (pick cu (mF cu fin seg)) ((vs.drop (nD cu fin seg).length).take (mF cu fin seg).length)&&mJ true ((vs.drop (nD cu fin seg).length).take (mF cu fin seg).length)&&match (vs.drop (nD cu fin seg).length).drop (mF cu fin seg).length with
  |v::vs=>mL P cu (pick cu [i]) [v]&&RP v&&Ac P cu fin last more vs
  |[]=>false
section
variable {P:Program}{F:Fence}{C:Ctx}{n L nb:Nat}{σ σ':Nat→Nat}{T T' T1 T2:Tags}{st st' st1:St}{a a1:Act}{w w1:World}{o:Oper}{vo:iG}{y:Operand}{x:bU}{d:Nat}
 {rec:ay→St→Option (Ex×St)} {env:Env} {next:Act→World→Prop} {Q:Exit→Act→World→Prop} {cu:Array Oper} {ds:List Deferred} {e:Ex}
theorem EP (h:aV L σ T st a w)(hm:mG P cu o vo=true)(hp:op rec env vo st=some st') :
  (Region.wanted o (yielded cu a.tmps)=true∧m1 P o (core vo)=true∧op1 rec env (core vo) st=some st')∨(Region.wanted o (yielded cu a.tmps)=false∧aV L σ T st' (a.put o.dst undef) w):=by
 by_cases hg:∃ g want v,vo=.grd g want v
 ·obtain ⟨g,want,v,rfl⟩:=hg
  rcases LW h hm hp with g|⟨g1,g2,_⟩
  ·exact .inl g
  ·exact .inr ⟨g1,g2⟩
 ·have hm':o.guard.isNone=true∧m1 P o vo=true:=by
   cases vo<;>first|exact ZcQ.1 hm|exact absurd ⟨_,_,_,rfl⟩ hg
  have hp':op1 rec env vo st=some st':=by
   cases vo<;>first|exact hp|exact absurd ⟨_,_,_,rfl⟩ hg
  have hw:Region.wanted o (yielded cu a.tmps)=true:=by
   simp only [Region.wanted,Zbn.1 hm'.1]
  have hc:core vo=vo:=by
   cases vo<;>first|rfl|exact absurd ⟨_,_,_,rfl⟩ hg
  rw [hc]
  exact .inl ⟨hw,hm'.2,hp'⟩
theorem HY (h:aV L σ T st a w)(hm:m1 P o vo=true)(hq:Hz vo=true)(hp:plain vo st=some st'):sW P L σ T st' a w o:=by
 simp only [m1,ZZ,beq_iff_eq] at hm
 obtain ⟨hd,hm⟩:=hm
 cases vo<;>simp only [Hz,zg] at hq<;>simp only [mv] at hm
 case ak d x =>
  split at hm<;>try (cases hm;done)
  rename_i ho;exact A8 h hd (.inl ho) hm false hp
 case aN d x =>
  split at hm<;>try (cases hm;done)
  ·rename_i ho;exact A8 h hd (.inr ho) hm true hp
  ·rename_i ho;exact A8 h hd (.inl ho) hm true hp
 case pick d c x x2 =>
  split at hm<;>try (cases hm;done)
  rename_i ho
  simp only [ZZ] at hm
  exact Lj h hd ho hm.1.1 hm.1.2 hm.2 hp
 case bin d b x x2 =>
  split at hm<;>try (cases hm;done)
  rename_i ho
  simp only [ZZ,beq_iff_eq] at hm
  obtain ⟨⟨rfl,h1⟩,h2⟩:=hm
  exact Q7 h hd ho h1 h2 hp
 case un d b x =>
  split at hm<;>try (cases hm;done)
  rename_i ho
  simp only [ZZ,beq_iff_eq] at hm
  obtain ⟨rfl,h1⟩:=hm
  exact Yt h hd ho h1 hp
 case conv d k x =>
  split at hm<;>try (cases hm;done)
  rename_i ho
  simp only [ZZ] at hm
  exact Ll h hd ho hm.1.1 (Rz hm.1.2) (LJ hm.2) hp
 case mn d mx x x2 =>
  split at hm<;>try (cases hm;done)
  rename_i b y y2 T0 T1 ho
  simp only [ZZ,beq_iff_eq] at hm
  obtain ⟨⟨rfl,h1⟩,h2⟩:=hm
  exact Yv h hd (Bj ho) h1 h2 hp
 case aP d x off =>
  split at hm
  case h_3=>cases hm
  case h_2 =>
   rename_i ho
   simp only [ZZ,beq_iff_eq] at hm
   obtain ⟨h1,rfl⟩:=hm
   exact Rh h hd ho h1 hp
  rename_i ho
  simp only [ZZ] at hm
  obtain ⟨h1,h2⟩:=hm
  split at h2<;>try (cases h2;done)
  rename_i fd hf
  simp only [ZZ,beq_iff_eq] at h2
  obtain ⟨rfl,h3⟩:=h2
  split at h3<;>try (cases h3;done)
  rename_i k hk
  exact Ls h hd ho h1 hf hk hp
 case zx d x x2 len sz =>
  split at hm<;>try (cases hm;done)
  rename_i ho
  simp only [ZZ] at hm
  obtain ⟨⟨h1,h2⟩,h3⟩:=hm
  split at h3<;>try (cases h3;done)
  rename_i l e he
  simp only [ZZ,beq_iff_eq] at h3
  obtain ⟨rfl,h4⟩:=h3
  exact Lu h hd ho h1 h2 he h4 hp
 case dA d sz x x2 =>
  split at hm<;>try (cases hm;done)
  rename_i ho
  simp only [ZZ] at hm
  obtain ⟨⟨h1,h2⟩,h3⟩:=hm
  split at h3<;>try (cases h3;done)
  rename_i e he
  exact LC h hd ho h1 h2 he (beq_iff_eq.1 h3) hp
 case fld d x off n=>cases hm
 case idx d x x2 len sz n=>cases hm
 case len d x =>
  split at hm<;>try (cases hm;done)
  rename_i b y T0 ho
  simp only [ZZ,beq_iff_eq] at hm
  obtain ⟨⟨rfl,h1⟩,h2⟩:=hm
  obtain ⟨e,he⟩:=Zbk.1 h2
  exact Ri h hd (RD ho) h1 he hp
 case lens d x=>cases hm
 case Yn d neg x =>
  split at hm<;>try (cases hm;done)
  rename_i ho
  simp only [ZZ,beq_iff_eq] at hm
  obtain ⟨⟨h1,h2⟩,h3⟩:=hm
  obtain ⟨e,he⟩:=Zbk.1 h3
  exact Rj h hd ho h1 h2 he hp
 case ext d x i =>
  split at hm<;>try (cases hm;done)
  rename_i ho
  simp only [ZZ,beq_iff_eq] at hm
  obtain ⟨h1,rfl⟩:=hm
  exact Rk h hd ho h1 hp
 case Zw d sz x lo hi =>
  split at hm<;>try (cases hm;done)
  rename_i ho
  simp only [ZZ] at hm
  obtain ⟨⟨⟨h1,h2⟩,h3⟩,h4⟩:=hm
  split at h4<;>try (cases h4;done)
  rename_i e he
  exact Rn h hd ho h1 h2 h3 he (beq_iff_eq.1 h4) hp
 case Vz d neg n x x2 =>
  split at hm<;>try (cases hm;done)
  rename_i ho
  simp only [ZZ,beq_iff_eq] at hm
  obtain ⟨⟨⟨⟨h1,h2⟩,h3⟩,h4⟩,h5⟩:=hm
  exact QZ h hd ho h1 h2 h3 h4 h5 hp
 case Zu d neg x x2 =>
  split at hm<;>try (cases hm;done)
  rename_i ho
  simp only [ZZ,beq_iff_eq] at hm
  obtain ⟨⟨⟨h1,h2⟩,h3⟩,h4⟩:=hm
  exact Q5 h hd ho h1 h2 h3 (Ho h4) hp
 case eqm d neg ks x x2=>cases hm
theorem RU (h:aV L σ T st a w)(hm:m1 P o vo=true)(hq:BA vo=true)(hp:plain vo st=some st'):Yq P L σ T st' a w o:=by
 simp only [m1,ZZ,beq_iff_eq] at hm
 obtain ⟨hd,hm⟩:=hm
 cases vo<;>simp only [BA,zg] at hq<;>simp only [mv] at hm
 case build d z m =>
  split at hm<;>try (cases hm;done)
  rename_i T0 l ho
  simp only [ZZ] at hm
  obtain ⟨⟨h1,h2⟩,h3⟩:=hm
  exact G8 h hd (l:=l.toList) (by simpa using ho) h1 h2 (EM h3) hp
 case VB d z parts off t=>cases hm
def V5 (S:World→Prop)(P:Program)(L:Nat)(σ:Nat→Nat)(T:Tags)(st':St)(a:Act)(w:World)(o:Oper):Prop :=
 ∃ v T',(∀ w',S w'→(execOp a.eval o).run P w'=.ok (.value v) w')∧aV L σ T' st' (a.put o.dst v) w∧Still T T'
theorem H6:∀ {l:List iG} {st st':St},(∀ v∈l,nM (core v)=false)→ops rec env l st=some st'→aY st st'
 |[],st,st',_,h=>by simp only [ops,ZD.injEq] at h;subst h;exact aY.refl _
 |v::l,st,st',hl,h=>by
  simp only [ops] at h
  obtain ⟨st1,h1,h2⟩:=bind_some h
  refine aY.trans ?_ (H6 (fun u hu=>hl u (by simp [hu])) h2)
  have hv:=hl v (by simp)
  unfold op at h1
  split at h1
  ·simp only [core] at hv
   split at h1
   ·split at h1
    ·simp only [op1,hv] at h1;exact rW h1
    ·split at h1
     ·rw [← ZD.inj h1];exact (aY.refl _).put _ _
     ·rw [← ZD.inj h1];exact aY.refl _
   ·split at h1
    ·split at h1
     ·rw [← ZD.inj h1];exact (aY.refl _).put _ _
     ·rw [← ZD.inj h1];exact aY.refl _
    ·cases h1
   ·cases h1
  ·rename_i v' hne
   have hc:core v=v:=by
    unfold core;split
    ·exact (hne _ _ _ rfl).elim
    ·rfl
   rw [hc] at hv
   simp only [op1,hv] at h1;exact rW h1
theorem DC {S:World→Prop}{vs0:List iG}{K:Act→Prop}{I:St→Prop}(hI:∀ v∈vs0,∀ s1 s2,op rec env v s1=some s2→I s1→I s2)(hlook:∀ T1 st1 st2 a1 o v,I st1→Still T T1→nM (core v)=false→aV L σ T1 st1 a1 w→m1 P o (core v)=true→v∈vs0→plain (core v) st1=some st2→V5 S P L σ T1 st2 a1 w o) :
  ∀ {l:List Oper} {vs:List iG} {st:St} {T1:Tags} {a:Act},(∀ v∈vs,v∈vs0∧nM (core v)=false)→I st→Still T T1→aV L σ T1 st a w→mL P cu l vs=true→ops rec env vs st=some st' →
  (∀ a' T',aV L σ T' st' a' w→Still T T'→a'.defers=a.defers→K a')→wpQuiet P cu S K l a
 |[],[],st,T1,a,_,_,ht,h,_,hp,hK=>by
  simp only [ops,ZD.injEq] at hp;subst hp
  exact hK _ _ h ht rfl
 |[],_::_,_,_,_,_,_,_,_,hm,_,_=>by simp [mL] at hm
 |_::_,[],_,_,_,_,_,_,_,hm,_,_=>by simp [mL] at hm
 |o::l,v::vs,st,T1,a,hvs,hi,ht,h,hm,hp,hK=>by
  simp only [mL,ZZ] at hm
  simp only [ops] at hp
  obtain ⟨st1,h1,h2⟩:=bind_some hp
  obtain ⟨hin,hact⟩:=hvs v (by simp)
  unfold wpQuiet
  rcases EP h hm.1 h1 with ⟨g1,g2,g3⟩|⟨g1,g2⟩
  ·rw [if_pos g1]
   simp only [op1,hact] at g3
   obtain ⟨u,T2,k1,k2,k3⟩:=hlook T1 st st1 a o v hi ht hact h g2 hin g3
   refine ⟨u,fun w' hw'=>?_,DC hI hlook (fun v hv=>hvs v (by simp [hv])) (hI v hin _ _ h1 hi) (ht.trans k3) k2 hm.2 h2 fun a' T' q1 q2 q3=>hK a' T' q1 q2 (q3.trans put_defers)⟩
   unfold Oper.quietAt
   rw [k1 w' hw']
   exact ⟨rfl,rfl⟩
  ·rw [if_neg (by rw [g1];simp)]
   exact DC hI hlook (fun v hv=>hvs v (by simp [hv])) (hI v hin _ _ h1 hi) ht g2 hm.2 h2 fun a' T' q1 q2 q3=>hK a' T' q1 q2 (q3.trans put_defers)
theorem acM {S:World→Prop}{vs0:List iG}{K:Act→Prop}(hlook:∀ T1 st1 st2 a1 o v,Still T T1→nM (core v)=false→aV L σ T1 st1 a1 w→m1 P o (core v)=true→v∈vs0→plain (core v) st1=some st2→V5 S P L σ T1 st2 a1 w o) :
  ∀ {l:List Oper} {vs:List iG} {st:St} {T1:Tags} {a:Act},(∀ v∈vs,v∈vs0∧nM (core v)=false)→Still T T1→aV L σ T1 st a w→mL P cu l vs=true→ops rec env vs st=some st' →
  (∀ a' T',aV L σ T' st' a' w→Still T T'→a'.defers=a.defers→K a')→wpQuiet P cu S K l a:=fun hvs ht h hm hp hK =>
 DC (I:=fun _=>True) (fun _ _ _ _ _ _=>trivial) (fun T1 st1 st2 a1 o v _=>hlook T1 st1 st2 a1 o v) hvs trivial ht h hm hp hK
theorem RX (h:aV L σ T st a w)(hm:m1 P o vo=true)(hp:plain vo st=some st'):V5 (Whole w) P L σ T st' a w o:=by
 obtain ⟨v,T',h1,h2,h3⟩:=xQ h hm hp
 exact ⟨v,T',fun w' hw=>h1 w' hw.sees,h2,h3⟩
theorem fD {l1 l2:List iG}{st st':St}(h:ops rec env (l1++l2) st=some st'):∃ st1,ops rec env l1 st=some st1∧ops rec env l2 st1=some st':=by
 induction l1 generalizing st with
 |nil=>exact ⟨st,rfl,h⟩
 |cons v l ih =>
  simp only [Za3,ops] at h ⊢
  obtain ⟨st1,h1,h2⟩:=bind_some h
  obtain ⟨st2,h3,h4⟩:=ih h2
  exact ⟨st2,by rw [h1];exact h3,h4⟩
end
end Go.Proofs.YtioijcfcehhmdaaGreatDoor
