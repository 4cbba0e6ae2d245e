/-
  Part 2 of the texts that the statement stands on.
-/
import Derived.Test.YtaaokejjmdbfaaaDoorZ1
import Derived.Lib.TrailingZeros
import Derived.TacticsIn
import Derived.RangeFuncLeaves
set_option linter.all false
namespace Go.Proofs.YtaaokejjmdbfaaaDoor
open Go.RowKit
section
variable {P:Program} {L:Nat} {σ σ':Nat→Nat} {T T':Tags} {st st' st1:St} {a:Act} {w w1:World} {o:Oper} {d n:Nat} {x x2:bI} {y y2:Operand} {ok:Nat→Prop} {sz:Nat} {es ys:List PV} {xs zs:List Value}
 {rec:ak→St→Option (Ex × St)} {env:Env}
structure O5 (st:St) (r:Root):Prop where
 slot:∀ (t:Nat) s l,st.slots[t]?=some (.row s l)→r≠.slot t
 part:∀ (t i:Nat),r≠.part t i
 cell:∀ (p q:Nat) bx s l,st.boxes[p]?=some bx→bx.cs[q]?=some (.row s l)→r≠.cell p q
def gone (T:Tags) (r:Root):Tags:=fun b=>if T b=.row r then .other else T b
theorem iZ {r:Root} {b:Nat} {q:wo} (hq:q≠.row r) (h:T b=q):gone T r b=q:=by
 unfold gone;rw [if_neg (by rw [h];exact hq)];exact h
theorem H8 {r:Root} {b:Nat} (h:T b=.row r):gone T r b=.other:=by unfold gone;rw [if_pos h]
theorem aF.XQ (h:aF L σ T st a w) {r:Root} (hr:O5 st r):aF L σ (gone T r) st a w:=by
 have hw:∀ b,T b=.ro→b<w.heap.size→gone T r b=.ro∧w.heap[b]?=w.heap[b]?:=fun b e _=>⟨iZ (by simp) e,rfl⟩
 refine ⟨h.size,fun t x u hx hu=>?_,fun p bx ho=>?_,fun b hb=>iZ (by simp) (h.fresh b hb)⟩
 ·refine (h.slots t x u hx hu).keep hw (fun s l e b hb _=>⟨iZ (fun e2=>hr.slot t s l (by rw [hx,e]) (by injection e2 with e2;exact e2.symm)) hb,rfl⟩) (fun l e i _ b hb _=>⟨iZ (fun e2=>hr.part t i (by injection e2 with e2;exact e2.symm)) hb,rfl⟩) (fun q hq _ s l e=>⟨⟨l,e⟩,rfl⟩) (Nat.le_refl _) (fun _ _=>rfl)
 ·obtain ⟨arr,E,h1,h2,h3,h4,h5⟩:=h.boxes p bx ho
  refine ⟨arr,E,h1,h2,?_,h4,fun j bv u hj hu=>?_⟩
  ·split
   ·rename_i hf;exact iZ (by simp) (by rw [h3,if_pos hf])
   ·rename_i hf;exact iZ (by simp) (by rw [h3,if_neg hf])
  ·obtain ⟨g1,g2⟩:=h5 j bv u hj hu
   refine ⟨g1,?_⟩
   cases bv with
   |pv v=>exact ay.frame hw g2
   |row s l=>exact aH.frame (fun b e _=>⟨iZ (fun e2=>hr.cell p j bx s l ho hj (by injection e2 with e2;exact e2.symm)) e,rfl⟩) hw g2
theorem aH.take {r:Root} {xa:Option Addr} {c:Nat} (h:aH T w r sz es (.slice xa es.length c)) (k:Nat):aH T w r sz (es.take k) (.slice xa (es.take k).length c):=by
 rcases h.BX with ⟨rfl,x,e⟩|⟨b,c',arr,E,e,h2,h3,h4,h5,h6,h7⟩
 ·injection e with e1 e2 e3
  subst e1;subst e3
  rw [List.take_nil]
  exact aH.nil _ _ _ _ _
 ·injection e with e1 e2 e3
  subst e1;subst e3
  exact aH.mk h2 h3 h4 (Nat.le_trans (List.length_take_le' _ _) h5) h6 (h7.take k) (by rw [List.take_take];exact List.take_prefix _ _)
theorem KU {r:Root} {b:Nat} (hT:T b=.row r) (cs:Array Value):pO (gone T r) w (w.setRow b cs) :=
 ⟨by simp [World.setRow],fun c hc _=>setRow_other w b c cs (fun e=>by subst e;exact hc (H8 hT))⟩
theorem UJ {T0:TypeId} (h:aF L σ T st a w) (hd:o.dst=some d) (ho:o.op=.call { callee:=.builtin .append,args:=#[y,y2],argTypes:=#[T0,T0] }) (hm:aQ y x=true) (hm2:aQ y2 x2=true) {sy:Nat} (he:rU P T0 sy=true)
  {es ys:List PV} {st1:St} (h1:st.elems x2=some (sy,ys)) (h2:st.grab x=some (sy,es,st1)) (hlim:es.length+ys.length≤5864062014805) (hB:∀ e i,P.underlying T0=some (.slice e)→P.info? e=some i→(es.length+ys.length) * i.bytes≤140737488355328) :
  Does P L σ T st.boxes.length (st1.putRow d sy (es++ys)) a w o false:=by
 obtain ⟨e,i,z,g1,g2,g3,g4,g5,g6,g7⟩:=vC he
 obtain ⟨ya,yc,e1,e2⟩:=h.elems hm2 h1
 obtain ⟨k1,k2,r,v,es0,c,xa,k3,k4,k5,k6,k7,k8,k9⟩:=h.grab hm h2
 have hun:O5 st1 r:=⟨k7,k8,k9⟩
 have hlen:es.length≤es0.length:=by rw [k4];exact List.length_take_le' _ _
 subst k5
 have hrow:=k3.take es.length
 rw [← k4] at hrow
 have hcc:es.length≤c∧c≤maxLen:=by obtain ⟨_,_,e3,q1,q2,_⟩:=hrow.slice;injection e3 with _ _ e3;omega
 have hS:=k1.XQ hun
 by_cases hm0:ys.length=0
 ·-- nothing is appended
  have hy0:ys=[]:=List.eq_nil_of_length_eq_zero hm0
  subst hy0
  refine ⟨_,_,w,σ,moved T r (.slot d),wP ho k6 e1 (AL w T0 _ e i g1 g2 xa ya es.length c yc hcc.1),.inl rfl,?_,(Still.moved T r (.slot d)).nM w,fun _ _=>rfl,fun e=>by cases e⟩
  rw [hd,List.append_nil]
  refine hS.putRow (aH.frame (fun b e _=>⟨lV e,rfl⟩) (fun b e _=>⟨dZ e,rfl⟩) hrow) (fun b e=>?_) (fun b o e=>?_) (fun b hb=>iT (h.fresh b hb)) (fun t s l ht hs b e=>?_) (fun t j l ht hs hj b e=>?_) (fun o j b e=>?_)
  ·unfold gone at e;split at e;cases e;exact dZ e
  ·unfold gone at e;split at e;cases e;exact kM e
  ·unfold gone at e;split at e;cases e;exact cZ (Ne.symm (hun.slot t s l hs)) (by simpa using ht) e
  ·unfold gone at e;split at e;cases e;exact cZ (Ne.symm (hun.part t j)) (by simp) e
  ·unfold gone at e;split at e;cases e
   rename_i hne
   exact cZ (fun e2=>hne (by rw [e,e2])) (by simp) e
 ·obtain ⟨ad,zs,rfl,e3,e4⟩:=e2 (by omega)
  have hzl:zs.length=ys.length * i.size:=by rw [g3];exact e3.len
  by_cases hroom:es.length+ys.length≤c
  ·-- there is room
   rcases hrow.BX with ⟨_,x0,ex⟩|⟨b,c',arr,E,ex,q2,q3,q4,q5,q6,q7⟩
   ·injection ex with _ _ ex;omega
   ·injection ex with XR _ ex3
    subst XR;subst ex3
    have hfit:es.length * i.size+zs.length≤arr.size:=by rw [hzl,q4,g3,← Nat.add_mul];exact Nat.mul_le_mul_right _ hroom
    have hr:=run_append_room' (P:=P) w T0 o.type e E i g1 g2 b es.length c arr q3 ad ys.length yc zs hzl e4 e3.one hroom hfit
    obtain ⟨arr',harr⟩:∃ arr',arr'=(arr.toList.take (es.length * i.size)++zs++arr.toList.drop (es.length * i.size+zs.length)).toArray:=⟨_,rfl⟩
    rw [← harr] at hr
    have hT1:∀ b',upd (gone T r) b (.row (.slot d)) b'=.row (.slot d)∨upd (gone T r) b (.row (.slot d)) b'=gone T r b':=fun b'=>by
     by_cases e:b'=b
     ·subst e;exact .inl H7
     ·exact .inr (upd_ne e)
    have hgb:gone T r b=.other:=H8 q2
    have hne:∀ c p,p≠.other→gone T r c=p→upd (gone T r) b (.row (.slot d)) c=p:=fun c p hp e=>by rw [upd_ne (fun e2=>by subst e2;rw [hgb] at e;exact hp e.symm)];exact e
    have hbl:b<w.heap.size:=(Array.getElem?_eq_some_iff.1 q3).1
    refine ⟨_,_,w.setRow b arr',σ,upd (gone T r) b (.row (.slot d)),wP ho k6 e1 hr,.inl rfl,?_,?_,fun _ _=>rfl,fun e=>by cases e⟩
    ·rw [hd]
     have hS1:=hS.sees (KU q2 arr')
     have hsame:∀ b',T b'=.ro→b'<w.heap.size→upd (gone T r) b (.row (.slot d)) b'=.ro∧(w.setRow b arr').heap[b']?=w.heap[b']?:=fun b' e _=>⟨hne b' _ (by simp) (iZ (by simp) e),setRow_other w b b' arr' (fun e2=>by subst e2;rw [q2] at e;cases e)⟩
     have hnew:=(q7.frame hsame).append (e3.frame hsame)
     rw [← List.length_append]
     refine hS1.putRow (aH.mk (c:=c) (E:=E) (arr:=arr') H7 (setRow_heap w b arr arr' E (0,0) q3) ?_ (by simpa using hroom) q6 hnew ?_) (fun b' e=>hne b' _ (by simp) e) (fun b' o e=>hne b' _ (by simp) e) (fun b' hb'=>?_) (fun t s l ht hs b' e=>hne b' _ (by simp) e) (fun t j l ht hs hj b' e=>hne b' _ (by simp) e) (fun o j b' e=>hne b' _ (by simp) e)
     ·rw [harr];simp only [List.size_toArray,List.length_append,List.length_take,List.length_drop,Array.length_toList];omega
     ·rw [harr,g3];exact ⟨_,rfl⟩
     ·rw [show (w.setRow b arr').heap.size=w.heap.size by simp [World.setRow]] at hb'
      rw [upd_ne (by omega)];exact iZ (by simp) (h.fresh b' hb')
    ·refine ⟨by simp [World.setRow],rfl,rfl,rfl,fun b' _ e=>setRow_other w b b' arr' (fun e2=>by subst e2;rw [q2] at e;rcases e with e|e<;>cases e),fun b' e=>hne b' _ (by simp) (iZ (by simp) e),fun b' _ e=>?_⟩
     rw [upd_ne (fun e2=>by subst e2;rw [q2] at e;cases e)];exact iZ (by simp) e
  ·-- a new row
   have hbytes:(es.length+ys.length) * i.bytes≤140737488355328:=hB e i g1 g2
   have hsm:es.length+ys.length≤maxLen:=by unfold maxLen;omega
   have hold:∃ olds,dM (fun b=>T b=.ro) w sy es olds∧∀ (ad:Addr),xa=some ad→∀ j u,olds[j]?=some u→w.cell? (ad.add j)=some u:=by
    rcases hrow.BX with ⟨e0,x0,ex⟩|⟨b,c',arr,E,ex,q2,q3,q4,q5,q6,q7⟩
    ·rw [e0];exact ⟨[],dM.nil _ _ _,fun ad _ j u hj=>by simp at hj⟩
    ·injection ex with XR _ _
     refine ⟨_,q7,fun ad' hx j u hj=>?_⟩
     rw [XR] at hx;cases hx
     rw [Addr.add_lit,Nat.zero_add,cell_of_row w b j arr E (0,0) q3]
     rw [List.getElem?_take] at hj
     split at hj
     ·simpa using hj
     ·cases hj
   obtain ⟨olds,o1,o2⟩:=hold
   have hdr:aF L σ T st1 a w.drew:=k1.sees ⟨Nat.le_refl _,fun _ _ _=>rfl⟩
   have hcap:=grownCap_ge w (es.length+ys.length) c e
   have hcm:grownCap w (es.length+ys.length) c e≤maxLen:=grownCap_le_maxLen w (es.length+ys.length) c e hsm
   obtain ⟨G,hG⟩:∃ G,G=grownCap w (es.length+ys.length) c e:=⟨_,rfl⟩
   have hr:(Builtin.append_ #[T0,T0] o.type #[.slice xa es.length c,.slice (some ad) ys.length yc]).run P w=.ok (.slice (some ⟨w.heap.size,0,none⟩) (es.length+ys.length) G) (w.drew.alloc (.cells (olds.toArray++zs.toArray++Builtin.zeroCells z.cells (G - (es.length+ys.length))) e)):=by
    rw [hG]
    cases xa with
    |none =>
     have he0:es.length=0∧c=0:=by
      rcases hrow.BX with ⟨e0,x0,ex⟩|⟨b,c',arr,E,ex,_⟩
      ·injection ex with _ ex2 ex3;exact ⟨ex2,ex3⟩
      ·injection ex with XR _ _;cases XR
     obtain ⟨e01,e02⟩:=he0
     have hol:olds=[]:=List.eq_nil_of_length_eq_zero (by rw [o1.len,e01,Nat.zero_mul])
     subst hol
     subst e02
     have:=run_append_nil (P:=P) w T0 o.type e i z g1 g2 g5 ad ys.length yc zs hzl e4 (by omega) (by omega) (by rw [e01,Nat.zero_add] at hbytes;omega)
     rw [e01,Nat.zero_add]
     simpa using this
    |some ab=>exact run_append_grow (P:=P) w T0 o.type e i z g1 g2 g5 ab es.length c olds (by rw [g3];exact o1.len) (o2 ab rfl) ad ys.length yc zs hzl e4 (by omega) (by omega) (growslice_fits (by omega) hbytes)
   refine ⟨_,_,_,σ,upd T w.heap.size (.row (.slot d)),wP ho k6 e1 hr,.inl rfl,?_,?_,fun _ _=>rfl,fun e=>by cases e⟩
   ·rw [hd]
    have hxs:=o1.append e3
    have key:=hdr.Sv (d:=d) (E:=e) (c:=G) (arr:=olds.toArray++zs.toArray++Builtin.zeroCells z.cells (G - (es.length+ys.length))) (by
     simp only [Array.size_append,List.size_toArray,size_zeroCells,g6,o1.len,e3.len,← Nat.add_mul]
     congr 1;omega) (by rw [List.length_append];omega) (by omega) (hxs.frame fun b e _=>⟨e,rfl⟩) ⟨_,by simp only [Array.toList_append];rfl⟩
    rw [List.length_append] at key
    exact key
   ·have:=kP (w:=w.drew) (T:=T) (hdr.fresh _ (Nat.le_refl _)) (.cells (olds.toArray++zs.toArray++Builtin.zeroCells z.cells (G - (es.length+ys.length))) e) (.row (.slot d))
    exact (show uV T T w w.drew from ⟨Nat.le_refl _,rfl,rfl,rfl,fun _ _ _=>rfl,fun _ e=>e,fun _ _ e=>e⟩).trans this
theorem XT {T0:TypeId} (h:aF L σ T st a w) (hd:o.dst=some d) (ho:o.op=.call { callee:=.builtin .append,args:=#[y,y2],argTypes:=#[T0,T0] }) (hm:aQ y x=true) (hm2:aQ y2 x2=true) (he:rU P T0 sz=true)
  (hp:act rec env (.app d sz x x2) st=some st'):Does P L σ T st.boxes.length st' a w o false:=by
 simp only [act] at hp
 obtain ⟨⟨sy,ys⟩,h1,hp1⟩:=bind_some hp
 clear hp
 obtain ⟨⟨sx,es,st1⟩,h2,hp2⟩:=bind_some hp1
 clear hp1
 simp only at hp2
 split at hp2
 case isFalse=>cases hp2
 rename_i hc
 obtain ⟨rfl,rfl,hlim⟩:=hc
 have hp:=Option.some.inj hp2
 clear hp2
 subst hp
 unfold lim at hlim
 obtain ⟨e,i,z,g1,g2,g3,g4,g5,g6,g7⟩:=vC he
 refine UJ h hd ho hm hm2 he h1 h2 (by omega) fun e' i' q1 q2=>?_
 rw [g1] at q1;cases q1
 rw [g2] at q2;cases q2
 exact Nat.le_trans (Nat.mul_le_mul hlim g7) (by omega)
end
end Go.Proofs.YtaaokejjmdbfaaaDoor

namespace Go.Proofs.YtaaokejjmdbfaaaDoor
open Go.RowKit
section
variable {P:Program} {L:Nat} {σ σ':Nat→Nat} {T T':Tags} {st st' st1:St} {a:Act} {w w1:World} {o:Oper} {d n:Nat} {x x2:bI} {y y2:Operand} {ok:Nat→Prop} {sz:Nat} {es es' ys:List PV} {xs zs:List Value}
 {rec:ak→St→Option (Ex × St)} {env:Env}
theorem aF.XU (h:aF L σ T st a w) {r:Root} (hr:st.row r=some (sz,es)) {b c E:Nat} {arr arr':Array Value} (hv:hdr σ a w r=some (.slice (some ⟨b,0,none⟩) es.length c)) (hT:T b=.row r) (hb:w.heap[b]?=some (.cells arr E (0,0)))
  (hs:arr'.size=arr.size) (hl:es'.length=es.length) (hrep:aH T (w.setRow b arr') r sz es' (.slice (some ⟨b,0,none⟩) es'.length c)):aF L σ T (st.setRow r sz es') a (w.setRow b arr')∧uV T T w (w.setRow b arr'):=by
 have hoth:∀ q,q≠.row r→∀ b',T b'=q→(w.setRow b arr').heap[b']?=w.heap[b']?:=fun q hq b' e=>setRow_other w b b' arr' (fun e2=>by subst e2;rw [hT] at e;exact hq e.symm)
 have hw:∀ b',T b'=.ro→b'<w.heap.size→T b'=.ro∧(w.setRow b arr').heap[b']?=w.heap[b']?:=fun b' e _=>⟨e,hoth _ (by simp) b' e⟩
 have hsz:(w.setRow b arr').heap.size=w.heap.size:=by simp [World.setRow]
 have hbox:∀ p bx,st.boxes[p]?=some bx→(w.setRow b arr').heap[σ p]?=w.heap[σ p]?:=fun p bx hp=>by
  obtain ⟨_,_,_,_,h3,_⟩:=h.boxes p bx hp
  refine hoth _ ?_ _ h3
  split<;>simp
 have KW:∀ q s l,st.row q=some (s,l)→hdr σ a (w.setRow b arr') q=hdr σ a w q:=fun q s l e=>by
  cases q with
  |slot t=>rfl
  |part t i=>rfl
  |cell p j =>
   obtain ⟨bx,h1,_⟩:=dL e
   exact World.cell?_of_block (w:=w) (a:=⟨σ p,j,none⟩) (hbox p bx h1)
 refine ⟨?_,⟨by omega,rfl,rfl,rfl,fun b' _ e=>?_,fun _ e=>e,fun _ _ e=>e⟩⟩
 ·cases r with
  |part t i=>simp [St.row] at hr
  |slot t =>
   have hst:=fK hr
   have htl:=(List.getElem?_eq_some_iff.1 hst).1
   have hrow:∀ q s l,(st.put t (.row sz es')).row q=some (s,l)→∃ l0,st.row q=some (s,l0):=fun q s l e=>by
    by_cases hq:q=.slot t
    ·subst hq
     have e2:=fK e
     simp only [St.put,List.getElem?_set,if_true,if_pos htl,Option.some.injEq,AV.row.injEq] at e2
     obtain ⟨rfl,rfl⟩:=e2
     exact ⟨es,hr⟩
    ·rw [fG hq] at e;exact ⟨l,e⟩
   refine ⟨by simp [St.setRow,St.put,h.size],fun t' x u hx hu=>?_,fun p bx ho=>?_,fun b' hb'=>h.fresh b' (by omega)⟩
   ·rcases dh hx with ⟨rfl,rfl,_⟩|⟨h1,h2⟩
    ·have:u=.slice (some ⟨b,0,none⟩) es'.length c:=by
      rw [hl];exact Option.some.inj (hu.symm.trans hv)
     rw [this];exact hrep
    ·refine (h.slots t' x u h2 hu).keep hw (fun s l e b' e2 _=>⟨e2,hoth _ (by simpa using h1) b' e2⟩) (fun l e i _ b' e2 _=>⟨e2,hoth _ (by simp) b' e2⟩) (fun q hq _ s l e=>?_) (Nat.le_refl _) (fun _ _=>rfl)
     obtain ⟨l0,e0⟩:=hrow q s l e
     exact ⟨⟨l0,e0⟩,KW q s l0 e0⟩
   ·exact (h.boxes p bx ho).frame ⟨rfl,hbox p bx ho⟩ (fun j b' e _=>⟨e,hoth _ (by simp) b' e⟩) hw
  |cell p q =>
   obtain ⟨bx0,hbx0,hfz,hq⟩:=dL hr
   have hst:st.setRow (.cell p q) sz es'={ st with boxes:=st.boxes.set p { bx0 with cs:=bx0.cs.set q (.row sz es') } }:=by simp [St.setRow,St.setCell,hbx0]
   have hpl:p<st.boxes.length:=(List.getElem?_eq_some_iff.1 hbx0).1
   have hql:q<bx0.cs.length:=(List.getElem?_eq_some_iff.1 hq).1
   rw [hst]
   refine ⟨h.size,fun t x u hx hu=>?_,fun p' bx ho=>?_,fun b' hb'=>h.fresh b' (by omega)⟩
   ·refine (h.slots t x u hx hu).keep hw (fun s l e b' e2 _=>⟨e2,hoth _ (by simp) b' e2⟩) (fun l e i _ b' e2 _=>⟨e2,hoth _ (by simp) b' e2⟩) (fun r' hr' _ s l e=>?_) (by simp) (fun _ _=>rfl)
    have e0:∃ l0,st.row r'=some (s,l0):=by
     cases r' with
     |slot t'=>exact ⟨l,e⟩
     |part t' i=>exact ⟨l,e⟩
     |cell o j =>
      simp only [St.row,List.getElem?_set] at e ⊢
      by_cases hop:p=o
      ·subst hop
       simp only [if_true,if_pos hpl,hfz,Bool.false_eq_true,if_false,List.getElem?_set] at e
       simp only [hbx0,hfz,Bool.false_eq_true,if_false]
       by_cases hqj:q=j
       ·subst hqj
        simp only [if_true,if_pos hql,Option.some.injEq,Prod.mk.injEq] at e
        rw [hq]
        exact ⟨es,by rw [e.1]⟩
       ·simp only [if_neg hqj] at e;exact ⟨l,e⟩
      ·simp only [if_neg hop] at e;exact ⟨l,e⟩
    obtain ⟨l0,e0⟩:=e0
    exact ⟨⟨l0,e0⟩,KW r' s l0 e0⟩
   ·rw [List.getElem?_set] at ho
    by_cases hop:p=p'
    ·subst hop
     simp only [if_true,if_pos hpl,Option.some.injEq] at ho
     subst ho
     have hbb:=hbox p bx0 hbx0
     obtain ⟨EL,E0,h1,h2,h3,h4,h5⟩:=h.boxes p bx0 hbx0
     refine ⟨EL,E0,hbb.trans h1,by simpa using h2,h3,by simp [hfz],?_⟩
     intro j bv u hj hu
     have hj:(bx0.cs.set q (.row sz es'))[j]?=some bv:=hj
     rw [List.getElem?_set] at hj
     by_cases hqj:q=j
     ·subst hqj
      simp only [if_true,if_pos hql,Option.some.injEq] at hj
      subst hj
      have:u=.slice (some ⟨b,0,none⟩) es'.length c:=by
       have e2:hdr σ a w (.cell p q)=some u:=by simp only [hdr];rw [cell_of_row w _ _ EL E0 (0,0) h1];exact hu
       rw [hl];exact Option.some.inj (e2.symm.trans hv)
      rw [this];exact ⟨rfl,hrep⟩
     ·rw [if_neg hqj] at hj
      obtain ⟨g1,g2⟩:=h5 j bv u hj hu
      exact ⟨g1,g2.frame (fun b' e _=>⟨e,hoth _ (by simpa using Ne.symm hqj) b' e⟩) hw⟩
    ·rw [if_neg hop] at ho
     exact (h.boxes p' bx ho).frame ⟨rfl,hbox p' bx ho⟩ (fun j b' e _=>⟨e,hoth _ (by intro e2;cases e2;exact hop rfl) b' e⟩) hw
 ·rcases e with e|e
  ·exact hoth .ro (by simp) b' e
  ·exact hoth .other (by simp) b' e
theorem aF.abS (h:aF L σ T st a w) {r:Root} (hr:st.row r=some (sz,es)) {v:Value} {w':World} (hv:hdr σ a w r=some v) (hsz:w.heap.size≤w'.heap.size) (hos:w'.os=w.os) (htp:w'.tape=w.tape) (hou:w'.output=w.output)
  (hblk:∀ b,b<w.heap.size→T b≠.row r→w'.heap[b]?=w.heap[b]?) (hrep:aH T w' r sz es' v):aF L σ T (st.setRow r sz es') a w'∧uV T T w w':=by
 have hoth:∀ q,q≠.row r→∀ b',T b'=q→b'<w.heap.size→w'.heap[b']?=w.heap[b']?:=fun q hq b' e hb=>hblk b' hb (by rw [e];exact hq)
 have hw:∀ b',T b'=.ro→b'<w.heap.size→T b'=.ro∧w'.heap[b']?=w.heap[b']?:=fun b' e hb=>⟨e,hoth _ (by simp) b' e hb⟩
 have hbox:∀ p bx,st.boxes[p]?=some bx→w'.heap[σ p]?=w.heap[σ p]?:=fun p bx hp=>by
  obtain ⟨_,_,h1,_,h3,_⟩:=h.boxes p bx hp
  refine hoth _ ?_ _ h3 (Array.getElem?_eq_some_iff.1 h1).1
  split<;>simp
 have KW:∀ q s l,st.row q=some (s,l)→hdr σ a w' q=hdr σ a w q:=fun q s l e=>by
  cases q with
  |slot t=>rfl
  |part t i=>rfl
  |cell p j =>
   obtain ⟨bx,h1,_⟩:=dL e
   exact World.cell?_of_block (w:=w) (a:=⟨σ p,j,none⟩) (hbox p bx h1)
 refine ⟨?_,⟨hsz,hos,htp,hou,fun b' hb e=>?_,fun _ e=>e,fun _ _ e=>e⟩⟩
 ·cases r with
  |part t i=>simp [St.row] at hr
  |slot t =>
   have hst:=fK hr
   have htl:=(List.getElem?_eq_some_iff.1 hst).1
   have hrow:∀ q s l,(st.put t (.row sz es')).row q=some (s,l)→∃ l0,st.row q=some (s,l0):=fun q s l e=>by
    by_cases hq:q=.slot t
    ·subst hq
     have e2:=fK e
     simp only [St.put,List.getElem?_set,if_true,if_pos htl,Option.some.injEq,AV.row.injEq] at e2
     obtain ⟨rfl,rfl⟩:=e2
     exact ⟨es,hr⟩
    ·rw [fG hq] at e;exact ⟨l,e⟩
   refine ⟨by simp [St.setRow,St.put,h.size],fun t' x u hx hu=>?_,fun p bx ho=>?_,fun b' hb'=>h.fresh b' (by omega)⟩
   ·rcases dh hx with ⟨rfl,rfl,_⟩|⟨h1,h2⟩
    ·have:u=v:=Option.some.inj (hu.symm.trans hv)
     rw [this];exact hrep
    ·refine (h.slots t' x u h2 hu).keep hw (fun s l e b' e2 hb=>⟨e2,hoth _ (by simpa using h1) b' e2 hb⟩) (fun l e i _ b' e2 hb=>⟨e2,hoth _ (by simp) b' e2 hb⟩) (fun q hq _ s l e=>?_) (Nat.le_refl _) (fun _ _=>rfl)
     obtain ⟨l0,e0⟩:=hrow q s l e
     exact ⟨⟨l0,e0⟩,KW q s l0 e0⟩
   ·exact (h.boxes p bx ho).frame ⟨rfl,hbox p bx ho⟩ (fun j b' e hb=>⟨e,hoth _ (by simp) b' e hb⟩) hw
  |cell p q =>
   obtain ⟨bx0,hbx0,hfz,hq⟩:=dL hr
   have hst:st.setRow (.cell p q) sz es'={ st with boxes:=st.boxes.set p { bx0 with cs:=bx0.cs.set q (.row sz es') } }:=by simp [St.setRow,St.setCell,hbx0]
   have hpl:p<st.boxes.length:=(List.getElem?_eq_some_iff.1 hbx0).1
   have hql:q<bx0.cs.length:=(List.getElem?_eq_some_iff.1 hq).1
   rw [hst]
   refine ⟨h.size,fun t x u hx hu=>?_,fun p' bx ho=>?_,fun b' hb'=>h.fresh b' (by omega)⟩
   ·refine (h.slots t x u hx hu).keep hw (fun s l e b' e2 hb=>⟨e2,hoth _ (by simp) b' e2 hb⟩) (fun l e i _ b' e2 hb=>⟨e2,hoth _ (by simp) b' e2 hb⟩) (fun r' hr' _ s l e=>?_) (by simp) (fun _ _=>rfl)
    have e0:∃ l0,st.row r'=some (s,l0):=by
     cases r' with
     |slot t'=>exact ⟨l,e⟩
     |part t' i=>exact ⟨l,e⟩
     |cell o j =>
      simp only [St.row,List.getElem?_set] at e ⊢
      by_cases hop:p=o
      ·subst hop
       simp only [if_true,if_pos hpl,hfz,Bool.false_eq_true,if_false,List.getElem?_set] at e
       simp only [hbx0,hfz,Bool.false_eq_true,if_false]
       by_cases hqj:q=j
       ·subst hqj
        simp only [if_true,if_pos hql,Option.some.injEq,Prod.mk.injEq] at e
        rw [hq]
        exact ⟨es,by rw [e.1]⟩
       ·simp only [if_neg hqj] at e;exact ⟨l,e⟩
      ·simp only [if_neg hop] at e;exact ⟨l,e⟩
    obtain ⟨l0,e0⟩:=e0
    exact ⟨⟨l0,e0⟩,KW r' s l0 e0⟩
   ·rw [List.getElem?_set] at ho
    by_cases hop:p=p'
    ·subst hop
     simp only [if_true,if_pos hpl,Option.some.injEq] at ho
     subst ho
     have hbb:=hbox p bx0 hbx0
     obtain ⟨EL,E0,h1,h2,h3,h4,h5⟩:=h.boxes p bx0 hbx0
     refine ⟨EL,E0,hbb.trans h1,by simpa using h2,h3,by simp [hfz],?_⟩
     intro j bv u hj hu
     have hj:(bx0.cs.set q (.row sz es'))[j]?=some bv:=hj
     rw [List.getElem?_set] at hj
     by_cases hqj:q=j
     ·subst hqj
      simp only [if_true,if_pos hql,Option.some.injEq] at hj
      subst hj
      have:u=v:=by
       have e2:hdr σ a w (.cell p q)=some u:=by simp only [hdr];rw [cell_of_row w _ _ EL E0 (0,0) h1];exact hu
       exact Option.some.inj (e2.symm.trans hv)
      rw [this];exact ⟨by rcases hrep with ⟨_,_,rfl⟩|⟨_,_,_,_,rfl,_⟩<;>rfl,hrep⟩
     ·rw [if_neg hqj] at hj
      obtain ⟨g1,g2⟩:=h5 j bv u hj hu
      exact ⟨g1,g2.frame (fun b' e hb=>⟨e,hoth _ (by simpa using Ne.symm hqj) b' e hb⟩) hw⟩
    ·rw [if_neg hop] at ho
     exact (h.boxes p' bx ho).frame ⟨rfl,hbox p' bx ho⟩ (fun j b' e hb=>⟨e,hoth _ (by intro e2;cases e2;exact hop rfl) b' e hb⟩) hw
 ·rcases e with e|e
  ·exact hoth .ro (by simp) b' e hb
  ·exact hoth .other (by simp) b' e hb
theorem FH {cs new cs':List PV} {off:Nat} (h:splice cs off new=some cs'):off+new.length≤cs.length∧cs'=cs.take off++new++cs.drop (off+new.length):=by
 unfold splice at h
 split at h
 ·exact ⟨by assumption,(Option.some.inj h).symm⟩
 ·cases h
theorem jc {α:Type} {cs new:List α} {off:Nat} (hl:off+new.length≤cs.length) (i:Nat):(cs.take off++new++cs.drop (off+new.length))[i]?=if off≤i∧i<off+new.length then new[i - off]? else cs[i]?:=by
 rw [List.append_assoc,List.getElem?_append]
 simp only [List.length_take,show min off cs.length=off by omega]
 split
 ·rename_i hi;rw [if_neg (by omega),List.getElem?_take,if_pos hi]
 ·rename_i hi
  rw [List.getElem?_append]
  split
  ·rename_i hj;rw [if_pos (by omega)]
  ·rename_i hj;rw [if_neg (by omega),List.getElem?_drop];congr 1;omega
theorem H9 {e e':PV} {cs:List PV} (h:e.tX cs=some e'):e'.cells=cs:=by
 unfold PV.tX at h
 split at h
 ·cases h;rfl
 ·split at h
  ·cases h
  ·rename_i c hc
   have h:=Option.some.inj h
   subst h
   cases c<;>first|rfl|exact absurd rfl (hc _)
  ·cases h
theorem dM.set (h:dM ok w sz es xs) {i j:Nat} {e e':PV} {cs':List PV} {vs:List PV} {us:List Value} (hi:es[i]?=some e) (hs:splice e.cells j vs=some cs') (he:e'.cells=cs') (hv:us.length=vs.length) (hu:∀ (k:Nat) x,vs[k]?=some x→∃ u,us[k]?=some u∧u.oneCell'=true∧ay ok w x u) :
  dM ok w sz (es.set i e') (xs.take (i * sz+j)++us++xs.drop (i * sz+j+us.length)):=by
 obtain ⟨h1,rfl⟩:=FH hs
 have hil:=(List.getElem?_eq_some_iff.1 hi).1
 have hw:=h.wid e (List.mem_of_getElem? hi)
 have hbound:i * sz+j+us.length≤xs.length:=by
  rw [h.len,hv]
  have:(i+1) * sz≤es.length * sz:=Nat.mul_le_mul_right _ hil
  rw [Nat.add_mul] at this;omega
 refine ⟨?_,fun e0 he0=>?_,fun i' e0 j' x hi' hj'=>?_⟩
 ·simp only [List.length_append,List.length_take,List.length_drop,List.length_set]
  rw [← h.len];omega
 ·rcases List.mem_or_eq_of_mem_set he0 with h2|rfl
  ·exact h.wid e0 h2
  ·rw [he];simp;omega
 ·rw [List.getElem?_set] at hi'
  rw [jc hbound]
  by_cases hii:i=i'
  ·subst hii
   rw [if_pos rfl,if_pos hil] at hi'
   cases hi'
   rw [he,jc h1] at hj'
   by_cases hjj:j≤j'∧j'<j+vs.length
   ·rw [if_pos hjj] at hj'
    obtain ⟨u,g1,g2,g3⟩:=hu _ _ hj'
    exact ⟨u,by rw [if_pos (by omega),show i * sz+j' - (i * sz+j)=j' - j by omega];exact g1,g2,g3⟩
   ·rw [if_neg hjj] at hj'
    obtain ⟨u,g1,g2,g3⟩:=h.rep i e j' x hi hj'
    exact ⟨u,by rw [if_neg (by omega)];exact g1,g2,g3⟩
  ·rw [if_neg hii] at hi'
   obtain ⟨u,g1,g2,g3⟩:=h.rep i' e0 j' x hi' hj'
   have hj3:=(h.lt hi' hj').2
   refine ⟨u,?_,g2,g3⟩
   rw [if_neg ?_]
   ·exact g1
   ·intro hh
    rcases Nat.lt_or_ge i' i with hlt|hge
    ·have:=zn hlt hj3;omega
    ·have h3:i+1≤i':=by omega
     have:(i+1) * sz≤i' * sz:=Nat.mul_le_mul_right _ h3
     rw [Nat.add_mul] at this;omega
theorem nY {T0:TypeId} {b off tb:Nat} {v:Value} {arr:Array Value} (hs:iC P T0=some v.cells.size) (hb:w.heap[b]?=some (.cells arr tb (0,0))) (hl:off+v.cells.size≤arr.size) (h1:∀ u∈v.cells.toList,u.oneCell'=true) :
  (storeVar T0 ⟨b,off,none⟩ v).run P w=.ok () (w.setRow b (arr.toList.take off++v.cells.toList++arr.toList.drop (off+v.cells.toList.length)).toArray):=by
 have hst:=run_storeCells_at P b off tb v.cells.toList 0 arr w hb (by simpa using hl) h1
 simp only [Nat.add_zero] at hst
 unfold storeVar
 simp only [Sem.run_bind,ni hs,Result.andThen_ok,ne_eq,not_true_eq_false,if_false,hst]
theorem run_store {ρ:Operand→Value} {T0:TypeId} {ad:Addr} {v:Value} (ho:o.op=.store T0 y y2) (h1:ρ y=.pointer (some ad)) (h2:ρ y2=v) (hr:(storeVar T0 ad v).run P w=.ok () w1):(execOp ρ o).run P w=.ok .skip w1:=by
 simp [execOp,ho,Instr.storeAt,Instr.sureAddr,h1,h2,hr]
theorem Cells.mem1 {cs:List PV} {arr:Array Value} (h:Cells ok w cs arr):(∀ u∈arr.toList,u.oneCell'=true)∧∀ (k:Nat) x,cs[k]?=some x→∃ u,arr.toList[k]?=some u∧u.oneCell'=true∧ay ok w x u:=by
 refine ⟨fun u hu=>?_,fun k x hk=>?_⟩
 ·obtain ⟨k,hk⟩:=List.mem_iff_getElem?.1 hu
  exact h.one k u (by simpa using hk)
 ·have hl:k<arr.size:=by rw [h.size];exact (List.getElem?_eq_some_iff.1 hk).1
  have e:arr[k]?=some arr[k]:=Array.getElem?_eq_getElem hl
  exact ⟨arr[k],by simpa using e,h.one k _ e,h.rep k x _ hk e⟩
theorem Ia {T0:TypeId} {r:Root} {i j:Nat} (h:aF L σ T st a w) (hd:o.dst=none) (ho:o.op=.store T0 y y2) (hm:aQ y x=true) (hm2:aQ y2 x2=true) (hs:iC P T0=some n) {v:PV} {own:Bool} (h1:st.consume x2=some (v,own,st1)) (h2:st1.get x=.nI r i j)
  (h3:st1.row r=some (sz,es)) {e e':PV} (h4:es[i]?=some e) (h5:v.cells.length=n) {cs:List PV} (h6:splice e.cells j v.cells=some cs) (h7:e.tX cs=some e'):Does P L σ T st.boxes.length (st1.setRow r sz (es.set i e')) a w o false:=by
 obtain ⟨T1,k1,k2,k3,k4⟩:=h.BP hm2 h1
 have hp:=k1.abO hm h2 sz es h3
 obtain ⟨b,m,c,m1,m2⟩:=hp
 obtain ⟨u,m3,m4⟩:=k1.ug h3
 rw [m3] at m1;cases m1
 have hil:=(List.getElem?_eq_some_iff.1 h4).1
 rcases m4.BX with ⟨e0,_,_⟩|⟨b',c',arr,E,ex,q2,q3,q4,q5,q6,q7⟩
 ·rw [e0] at hil;simp at hil
 ·injection ex with XR ex2 ex3
  injection XR with XR
  injection XR with XR
  subst XR;subst ex2;subst ex3
  have hc:=k4.cells
  obtain ⟨c1,c2⟩:=hc.mem1
  obtain ⟨hsp,_⟩:=FH h6
  have hw:=q7.wid e (List.mem_of_getElem? h4)
  have hb1:i * sz+j+(a.eval y2).cells.size≤es.length * sz:=by
   rw [hc.size]
   have:(i+1) * sz≤es.length * sz:=Nat.mul_le_mul_right _ hil
   rw [Nat.add_mul] at this;omega
  have hb2:es.length * sz≤c * sz:=Nat.mul_le_mul_right _ q5
  have hset:=q7.set h4 h6 (H9 h7) (us:=(a.eval y2).cells.toList) (by simp [hc.size]) c2
  have hrun:=nY (P:=P) (T0:=T0) (w:=w) (b:=b) (off:=i * sz+j) (tb:=E) (v:=a.eval y2) (arr:=arr) (by rw [hs,hc.size,h5]) q3 (by rw [q4];omega) c1
  obtain ⟨arr',harr⟩:∃ arr',arr'=(arr.toList.take (i * sz+j)++(a.eval y2).cells.toList++arr.toList.drop (i * sz+j+(a.eval y2).cells.toList.length)).toArray:=⟨_,rfl⟩
  rw [← harr] at hrun
  have hnew:aH T1 (w.setRow b arr') r sz (es.set i e') (.slice (some ⟨b,0,none⟩) (es.set i e').length c):=by
   refine aH.mk (E:=E) (arr:=arr') (xs:=(arr.toList.take (es.length * sz)).take (i * sz+j)++(a.eval y2).cells.toList++(arr.toList.take (es.length * sz)).drop (i * sz+j+(a.eval y2).cells.toList.length)) q2 (setRow_heap w b arr arr' E (0,0) q3) ?_ (by simpa using q5) q6 (hset.frame fun b' e _=>⟨e,setRow_other w b b' arr' (fun e2=>by subst e2;rw [q2] at e;cases e)⟩) ?_
   ·rw [harr,← q4];simp only [List.size_toArray,List.length_append,List.length_take,List.length_drop,Array.length_toList];omega
   ·rw [harr]
    refine ⟨arr.toList.drop (es.length * sz),?_⟩
    simp only [List.take_take,List.append_assoc]
    rw [Nat.min_eq_left (by omega)]
    congr 2
    rw [List.drop_take]
    conv=>rhs;rw [← List.take_append_drop (es.length * sz - (i * sz+j+(a.eval y2).cells.toList.length)) (arr.toList.drop (i * sz+j+(a.eval y2).cells.toList.length))]
    congr 1
    rw [List.drop_drop]
    congr 1
    simp only [Array.length_toList]
    omega
  obtain ⟨s1,s2⟩:=k1.XU h3 m3 q2 q3 (by rw [harr];simp only [List.size_toArray,List.length_append,List.length_take,List.length_drop,Array.length_toList];omega) (by simp) hnew
  refine ⟨_,undef,_,σ,T1,run_store ho m2 rfl hrun,.inr ⟨rfl,rfl⟩,by rw [hd];exact s1,(k2.nM w).trans s2,fun _ _=>rfl,fun e=>by cases e⟩
theorem aF.place (h:aF L σ T st a w) (hm:aQ y x=true) {r:Root} {off len:Nat} (hp:st.place x=some (r,off,len)) (hr:st.row r=some (sz,es)):Hw (hdr σ a w r) off len sz (a.eval y):=by
 cases x with
 |c v=>simp [St.place] at hp
 |nil s=>simp [St.place] at hp
 |t n =>
  simp only [St.place] at hp
  split at hp
  ·rename_i r' off' len' e
   simp only [Option.some.injEq,Prod.mk.injEq] at hp
   obtain ⟨rfl,rfl,rfl⟩:=hp
   exact h.OU hm e sz es hr
  ·rename_i s l e
   simp only [Option.some.injEq,Prod.mk.injEq] at hp
   obtain ⟨rfl,rfl,rfl⟩:=hp
   have e0:st.get (.t n)=.row s l:=e
   obtain ⟨q1,q2,q3⟩:=h.OV hm e0
   have:=fK hr
   rw [q1] at this;cases this
   obtain ⟨xa,c,e1,_⟩:=q3.slice
   exact ⟨xa,_,c,xa,by rw [← e1];exact q2,by rw [e1];simp,fun _=>rfl,fun _=>by cases xa<;>simp [Addr.add],fun b o e=>⟨o,e⟩⟩
  ·cases hp
end
end Go.Proofs.YtaaokejjmdbfaaaDoor

namespace Go.Proofs.YtaaokejjmdbfaaaDoor
open Go.RowKit
section
variable {P:Program} {L:Nat} {σ σ':Nat→Nat} {T T':Tags} {st st' st1:St} {a:Act} {w w1:World} {o:Oper} {d n:Nat} {x x2:bI} {y y2:Operand} {ok:Nat→Prop} {sz:Nat} {es es' ys:List PV} {xs zs:List Value}
 {rec:ak→St→Option (Ex × St)} {env:Env}
theorem aF.BZ (h:aF L σ T st a w) {p E:Nat} {bx:Box} {cs':List BV} {arr arr':Array Value} (g:AV→AV) (hb:st.boxes[p]?=some bx) (hf:bx.fz=false) (ha:w.heap[σ p]?=some (.cells arr E (0,0)))
  (hl:cs'.length=bx.cs.length) (hs:arr'.size=arr.size) (hrep:∀ (k:Nat) bv u,cs'[k]?=some bv→arr'[k]?=some u→u.oneCell'=true∧EI T' (w.setRow (σ p) arr') p k bv u)
  (hg:∀ x,g x=.any∨(g x=x∧∀ k,x.root?=some (.cell p k)→∀ s l,cs'[k]?=some (.row s l)→(∃ l0,bx.cs[k]?=some (.row s l0))∧arr'[k]?=arr[k]?))
  (hro:∀ b,T b=.ro→T' b=.ro) (hbox:∀ b q,T b=.box q→T' b=.box q) (hoth:∀ b,T b=.other→T' b=.other) (XG:∀ b t s l,st.slots[t]?=some (.row s l)→T b=.row (.slot t)→T' b=.row (.slot t)) (hpart:∀ {k:Bool} (b t i:Nat) l,st.slots[t]?=some (.jO k l)→T b=.row (.part t i)→T' b=.row (.part t i))
  (hcell:∀ b q k,q≠p→T b=.row (.cell q k)→T' b=.row (.cell q k)) :
  aF L σ T' { st with slots:=st.slots.map g,boxes:=st.boxes.set p { bx with cs:=cs' } } a (w.setRow (σ p) arr')∧uV T T w (w.setRow (σ p) arr'):=by
 have hT:T (σ p)=.box p:=by obtain ⟨_,_,_,_,h3,_⟩:=h.boxes p bx hb;rw [h3,hf];rfl
 have hne:∀ b q,q≠.box p→T b=q→(w.setRow (σ p) arr').heap[b]?=w.heap[b]?:=fun b q hq e=>setRow_other w (σ p) b arr' (fun e2=>by subst e2;rw [hT] at e;exact hq e.symm)
 have hw:∀ b,T b=.ro→b<w.heap.size→T' b=.ro∧(w.setRow (σ p) arr').heap[b]?=w.heap[b]?:=fun b e _=>⟨hro b e,hne b _ (by simp) e⟩
 have hsz:(w.setRow (σ p) arr').heap.size=w.heap.size:=by simp [World.setRow]
 have hpl:p<st.boxes.length:=(List.getElem?_eq_some_iff.1 hb).1
 have hoq:∀ q bq,q≠p→st.boxes[q]?=some bq→(w.setRow (σ p) arr').heap[σ q]?=w.heap[σ q]?:=fun q bq hqp hq=>by
  obtain ⟨_,_,_,_,h3,_⟩:=h.boxes q bq hq
  refine hne _ _ ?_ h3
  split
  ·simp
  ·intro e;cases e;exact hqp rfl
 refine ⟨⟨by simp [h.size],fun t x u hx hu=>?_,fun q bq hq=>?_,fun b hb'=>hoth b (h.fresh b (by omega))⟩,⟨by omega,rfl,rfl,rfl,fun b _ e=>?_,fun _ e=>e,fun _ _ e=>e⟩⟩
 ·obtain ⟨z,hz,rfl⟩:=nU hx
  rcases hg z with e|⟨e,hroot⟩
  ·rw [e];trivial
  ·rw [e]
   refine (h.slots t z u hz hu).keep hw (fun s l e b e2 _=>⟨XG b t s l (by rw [hz,e]) e2,hne b _ (by simp) e2⟩) (fun l e i _ b e2 _=>⟨hpart b t i l (by rw [hz,e]) e2,hne b _ (by simp) e2⟩) (fun r hr _ s l e=>?_) (by simp) (fun _ _=>rfl)
   cases r with
   |slot t' =>
    have e2:=fK e
    obtain ⟨z',hz',hg'⟩:=nU (show (st.slots.map g)[t']?=_ from e2)
    rcases hg z' with e3|⟨e3,_⟩
    ·rw [e3] at hg';cases hg'
    ·rw [e3] at hg';subst hg'
     exact ⟨⟨l,by simp [St.row,hz']⟩,rfl⟩
   |part t' i=>simp [St.row] at e
   |cell q k =>
    obtain ⟨bq,h1,h2,h3⟩:=dL e
    simp only [List.getElem?_set] at h1
    by_cases hqp:p=q
    ·subst hqp
     simp only [if_true,if_pos hpl,Option.some.injEq] at h1
     subst h1
     obtain ⟨⟨l0,g1⟩,g2⟩:=hroot k hr s l h3
     refine ⟨⟨l0,by simp [St.row,hb,hf,g1]⟩,?_⟩
     simp only [hdr]
     rw [cell_of_row _ (σ p) k arr' E (0,0) (setRow_heap w (σ p) arr arr' E (0,0) ha),cell_of_row w (σ p) k arr E (0,0) ha,g2]
    ·rw [if_neg hqp] at h1
     refine ⟨⟨l,by simp [St.row,h1,h2,h3]⟩,?_⟩
     exact World.cell?_of_block (w:=w) (a:=⟨σ q,k,none⟩) (hoq q bq (Ne.symm hqp) h1)
 ·simp only [List.getElem?_set] at hq
  by_cases hqp:p=q
  ·subst hqp
   simp only [if_true,if_pos hpl,Option.some.injEq] at hq
   subst hq
   obtain ⟨EL,E0,h1,h2,h3,_⟩:=h.boxes p bx hb
   rw [ha] at h1;cases h1
   refine ⟨arr',E,setRow_heap w (σ p) arr arr' E (0,0) ha,by simp [hs,h2,hl],?_,by simp [hf],fun k bv u hk hu=>hrep k bv u hk hu⟩
   simp only [hf,Bool.false_eq_true,if_false]
   exact hbox _ _ hT
  ·rw [if_neg hqp] at hq
   have hbq:=h.boxes q bq hq
   have hT':T' (σ q)=T (σ q):=by
    obtain ⟨_,_,_,_,h3,_⟩:=hbq
    rw [h3];split
    ·rename_i hf;exact hro _ (by rw [h3,if_pos hf])
    ·rename_i hf;exact hbox _ _ (by rw [h3,if_neg hf])
   exact hbq.frame ⟨hT',hoq q bq (Ne.symm hqp) hq⟩ (fun j b e _=>⟨hcell b q j (Ne.symm hqp) e,hne b _ (by simp) e⟩) hw
 ·rcases e with e|e
  ·exact hne b .ro (by simp) e
  ·exact hne b .other (by simp) e
theorem EM {T0:TypeId} {p j:Nat} (h:aF L σ T st a w) (hd:o.dst=none) (ho:o.op=.store T0 y y2) (hm:aQ y x=true) (hm2:aQ y2 x2=true) (hs:iC P T0=some n) {v:PV} {own:Bool} (h1:st.consume x2=some (v,own,st1)) (h2:st1.get x=.aA p j)
  {bx:Box} (h3:st1.boxes[p]?=some bx) (hf:bx.fz=false) (h5:v.cells.length=n) (h6:j+n≤bx.cs.length) :
  (own=false→Does P L σ T st.boxes.length { st1 with boxes:=st1.boxes.set p { bx with cs:=bx.cs.take j++v.cells.map .pv++bx.cs.drop (j+n) } } a w o false) ∧
  (∀ sz es,own=true→v=.list sz es→Does P L σ T st.boxes.length (st1.jr p j sz es) a w o false):=by
 obtain ⟨T1,k1,k2,k3,k4,k5⟩:=h.consume hm2 h1
 obtain ⟨_,hp2⟩:=k1.aA hm h2
 obtain ⟨arr,E,b1,b2,b3,b4,b5⟩:=k1.boxes p bx h3
 -- the values' cells,whatever they are
 have ahy:(∀ u∈(a.eval y2).cells.toList,u.oneCell'=true)∧(a.eval y2).cells.size=v.cells.length:=by
  cases own with
  |false=>have hc:=(k4 rfl).cells;exact ⟨hc.mem1.1,hc.size⟩
  |true =>
   obtain ⟨sz,es,m,rfl,_,q⟩:=k5 rfl
   obtain ⟨xa,c,e,_⟩:=q.slice
   rw [e];exact ⟨fun u hu=>by simp [Value.cells] at hu;subst hu;rfl,rfl⟩
 obtain ⟨c1,c2⟩:=ahy
 have hfit:j+(a.eval y2).cells.size≤arr.size:=by rw [c2,h5,b2];exact h6
 have hrun:=nY (P:=P) (T0:=T0) (w:=w) (b:=σ p) (off:=j) (tb:=E) (v:=a.eval y2) (arr:=arr) (by rw [hs,c2,h5]) b1 hfit c1
 obtain ⟨arr',harr⟩:∃ arr',arr'=(arr.toList.take j++(a.eval y2).cells.toList++arr.toList.drop (j+(a.eval y2).cells.toList.length)).toArray:=⟨_,rfl⟩
 rw [← harr] at hrun
 have hlen:(a.eval y2).cells.toList.length=n:=by rw [Array.length_toList,c2,h5]
 have hget:∀ k,arr'[k]?=if j≤k∧k<j+n then (a.eval y2).cells[k - j]? else arr[k]?:=fun k=>by
  rw [harr,List.getElem?_toArray,jc (by rw [hlen];simpa [b2] using h6),hlen]
  simp
 have hsz:arr'.size=arr.size:=by rw [harr];simp only [List.size_toArray,List.length_append,List.length_take,List.length_drop,Array.length_toList,hlen];rw [Array.length_toList] at hlen;omega
 have hold:∀ k,σ k≠σ k→False:=fun k h=>h rfl
 have hother:∀ q,q≠.box p→∀ b,T1 b=q→(w.setRow (σ p) arr').heap[b]?=w.heap[b]?:=fun q hq b e=>setRow_other w (σ p) b arr' (fun e2=>by subst e2;rw [b3,hf] at e;exact hq e.symm)
 refine ⟨fun hown=>?_,fun sz es hown hv=>?_⟩
 ·have hc:=(k4 hown).cells
  have hgo:=k1.BZ (T':=T1) (cs':=bx.cs.take j++v.cells.map .pv++bx.cs.drop (j+n)) (arr':=arr') id h3 hf b1 (by simp [h5];omega) hsz (fun k bv u hk hu=>?_) (fun x=>.inr ⟨rfl,fun k _ s l hk=>?_⟩) (fun _ e=>e) (fun _ _ e=>e) (fun _ e=>e) (fun _ _ _ _ _ e=>e) (fun _ _ _ _ _ e=>e) (fun _ _ _ _ e=>e)
  ·obtain ⟨s1,s2⟩:=hgo
   rw [List.map_id] at s1
   exact ⟨_,undef,_,σ,T1,run_store ho hp2 rfl hrun,.inr ⟨rfl,rfl⟩,by rw [hd];exact s1,(k2.nM w).trans s2,fun _ _=>rfl,fun e=>by cases e⟩
  ·have hml:(v.cells.map BV.pv).length=n:=by simp [h5]
   have hk2:=jc (cs:=bx.cs) (new:=v.cells.map BV.pv) (off:=j) (by rw [hml];exact h6) k
   rw [hml] at hk2
   rw [hk2] at hk
   rw [hget] at hu
   split at hk
   ·rename_i hin
    rw [if_pos hin] at hu
    rw [List.getElem?_map] at hk
    cases e:v.cells[k - j]? with
    |none=>rw [e] at hk;cases hk
    |some x=>rw [e] at hk;cases hk;exact ⟨hc.one _ u hu,(hc.rep _ x u e hu).frame fun b e _=>⟨e,hother _ (by simp) b e⟩⟩
   ·rename_i hin
    rw [if_neg hin] at hu
    obtain ⟨g1,g2⟩:=b5 k bv u hk hu
    exact ⟨g1,g2.frame (fun b e _=>⟨e,hother _ (by simp) b e⟩) (fun b e _=>⟨e,hother _ (by simp) b e⟩)⟩
  ·have hml:(v.cells.map BV.pv).length=n:=by simp [h5]
   have hk2:=jc (cs:=bx.cs) (new:=v.cells.map BV.pv) (off:=j) (by rw [hml];exact h6) k
   rw [hml] at hk2
   rw [hk2] at hk
   split at hk
   ·rw [List.getElem?_map] at hk
    cases e:v.cells[k - j]? with
    |none=>rw [e] at hk;cases hk
    |some x=>rw [e] at hk;cases hk
   ·rename_i hin
    exact ⟨⟨l,hk⟩,by rw [hget,if_neg hin]⟩
 ·subst hv
  obtain ⟨sz',es',m,e1,hfree,hrow⟩:=k5 hown
  cases e1
  have hn1:n=1:=by rw [← h5];rfl
  obtain ⟨xa,c,e1,_⟩:=hrow.slice
  have hst:st1.jr p j sz es={ st1 with slots:=st1.slots.map (AV.ig p j),boxes:=st1.boxes.set p { bx with cs:=bx.cs.set j (.row sz es) } }:=by simp [St.jr,St.setCell,h3]
  rw [hst]
  have hgo:=k1.BZ (T':=moved T1 (.slot m) (.cell p j)) (cs':=bx.cs.set j (.row sz es)) (arr':=arr') (AV.ig p j) h3 hf b1 (by simp) hsz (fun k bv u hk hu=>?_) (fun x=>?_) (fun _ e=>dZ e) (fun _ _ e=>kM e) (fun _ e=>iT e)
   (fun b t s l ht e=>cZ (fun e2=>by cases e2;exact hfree s l ht) (by simp) e) (fun _ _ _ _ _ e=>cZ (by simp) (by simp) e) (fun b q k hq e=>cZ (by simp) (fun e2=>by cases e2;exact hq rfl) e)
  ·obtain ⟨s1,s2⟩:=hgo
   exact ⟨_,undef,_,σ,_,run_store ho hp2 rfl hrun,.inr ⟨rfl,rfl⟩,by rw [hd];exact s1,(k2.nM w).trans (s2.trans ((Still.moved T1 _ _).nM _)),fun _ _=>rfl,fun e=>by cases e⟩
  ·rw [List.getElem?_set] at hk
   rw [hget] at hu
   split at hk
   ·rename_i hkj
    subst hkj
    split at hk
    ·cases hk
     rw [if_pos (by omega),Nat.sub_self,e1] at hu
     have hu:(Value.slice xa es.length c)=u:=by simpa [Value.cells] using hu
     subst hu
     rw [e1] at hrow
     exact ⟨rfl,aH.frame (fun b e _=>⟨lV e,hother _ (by simp) b e⟩) (fun b e _=>⟨dZ e,hother _ (by simp) b e⟩) hrow⟩
    ·cases hk
   ·rename_i hkj
    rw [if_neg (by omega)] at hu
    obtain ⟨g1,g2⟩:=b5 k bv u hk hu
    refine ⟨g1,g2.frame (fun b e _=>⟨cZ (by simp) (by simpa using Ne.symm hkj) e,hother _ (by simp) b e⟩) (fun b e _=>⟨dZ e,hother _ (by simp) b e⟩)⟩
  ·rcases Hy p j x with e|⟨e,hne⟩
   ·exact .inl e
   ·refine .inr ⟨e,fun k hr s l hk=>?_⟩
    have hkj:j≠k:=fun e2=>hne (by rw [hr,e2])
    rw [List.getElem?_set,if_neg hkj] at hk
    exact ⟨⟨l,hk⟩,by rw [hget,if_neg (by omega)]⟩
def fV (T:Tags) (m p j:Nat):Tags:=fun b=>match T b with
 |.row (.part t i)=>if t=m then .row (.cell p (j+i)) else .row (.part t i)
 |q=>q
theorem zT {ok:Nat→Prop} {v:PV} {u:Value} (h:ay ok w v u) (hs:v.single=true):u.oneCell'=true:=by
 cases h<;>first|rfl|assumption|(simp [PV.single] at hs)
theorem vF:∀ {l:List AV} {cs:List BV},pW l=some cs→cs.length=l.length∧∀ (k:Nat) bv,cs[k]?=some bv→(∃ v,bv=.pv v∧l[k]?=some (.pv v)∧v.single=true)∨∃ sz es,bv=.row sz es∧l[k]?=some (.row sz es)
 |[],cs,h=>by cases h;exact ⟨rfl,fun k bv hk=>by simp at hk⟩
 |.pv v :: l,cs,h=>by
  simp only [pW] at h
  split at h
  case isFalse=>cases h
  rename_i hs
  obtain ⟨cs',h1,rfl⟩:=Option.map_eq_some_iff.1 h
  obtain ⟨k1,k2⟩:=vF h1
  refine ⟨by simp [k1],fun k bv hk=>?_⟩
  cases k with
  |zero=>cases hk;exact .inl ⟨v,rfl,rfl,hs⟩
  |succ k=>exact k2 k bv hk
 |.row sz es :: l,cs,h=>by
  simp only [pW] at h
  obtain ⟨cs',h1,rfl⟩:=Option.map_eq_some_iff.1 h
  obtain ⟨k1,k2⟩:=vF h1
  refine ⟨by simp [k1],fun k bv hk=>?_⟩
  cases k with
  |zero=>cases hk;exact .inr ⟨sz,es,rfl,rfl⟩
  |succ k=>exact k2 k bv hk
 |.ref .. :: _,_,h|.aA .. :: _,_,h|.nI .. :: _,_,h|.fn .. :: _,_,h|.jO .. :: _,_,h|.pK :: _,_,h|.any :: _,_,h=>by simp [pW] at h
theorem XV {T0:TypeId} {p j m:Nat} (h:aF L σ T st a w) (hd:o.dst=none) (ho:o.op=.store T0 y y2) (hm:aQ y x=true) (hm2:aQ y2 (.t m)=true) (hs:iC P T0=some n) {l:List AV} (h1:st.slots.getD m .any=.jO true l) (h2:(st.put m .any).get x=.aA p j)
  {bx:Box} (h3:st.boxes[p]?=some bx) (hf:bx.fz=false) {cs:List BV} (hcs:pW l=some cs) (h5:l.length=n) (h6:j+n≤bx.cs.length) :
  Does P L σ T st.boxes.length { (st.put m .any) with slots:=(st.put m .any).slots.map (AV.dH p),boxes:=st.boxes.set p { bx with cs:=bx.cs.take j++cs++bx.cs.drop (j+n) } } a w o false:=by
 have e0:st.get (.t m)=.jO true l:=h1
 obtain ⟨t,e1,hA,hB,AO,g1,g2,g3⟩:=h.at hm2 e0 (by simp) (by simp) (by simp)
 cases e1
 replace g1:a.eval y2=Value.agg AO:=g1
 have k1:=h.forget m
 obtain ⟨_,hp2⟩:=k1.aA hm h2
 obtain ⟨arr,E,b1,b2,b3,b4,b5⟩:=k1.boxes p bx h3
 obtain ⟨cl,cg⟩:=vF hcs
 have hsz2:AO.size=n:=by omega
 have hone:∀ (k:Nat) u,AO[k]?=some u→u.oneCell'=true:=fun k u hu=>by
  have hk:k<cs.length:=by have:=(Array.getElem?_eq_some_iff.1 hu).1;omega
  rcases cg k cs[k] (List.getElem?_eq_getElem hk) with ⟨v,_,e2,e3⟩|⟨sz,es,_,e2⟩
  ·exact zT (g3 k _ u e2 hu) e3
  ·obtain ⟨xa,c,e,_⟩:=aH.slice (g3 k _ u e2 hu)
   rw [e];rfl
 have c2:(a.eval y2).cells.size=n:=by rw [g1];exact hsz2
 have c1:∀ u∈(a.eval y2).cells.toList,u.oneCell'=true:=fun u hu=>by
  rw [g1] at hu
  obtain ⟨k,hk⟩:=List.mem_iff_getElem?.1 hu
  exact hone k u (by simpa [Value.cells] using hk)
 have hfit:j+(a.eval y2).cells.size≤arr.size:=by rw [c2,b2];exact h6
 have hrun:=nY (P:=P) (T0:=T0) (w:=w) (b:=σ p) (off:=j) (tb:=E) (v:=a.eval y2) (arr:=arr) (by rw [hs,c2]) b1 hfit c1
 obtain ⟨arr',harr⟩:∃ arr',arr'=(arr.toList.take j++(a.eval y2).cells.toList++arr.toList.drop (j+(a.eval y2).cells.toList.length)).toArray:=⟨_,rfl⟩
 rw [← harr] at hrun
 have hlen:(a.eval y2).cells.toList.length=n:=by rw [Array.length_toList,c2]
 have hget:∀ k,arr'[k]?=if j≤k∧k<j+n then (a.eval y2).cells[k - j]? else arr[k]?:=fun k=>by
  rw [harr,List.getElem?_toArray,jc (by rw [hlen];simpa [b2] using h6),hlen]
  simp
 have hsz:arr'.size=arr.size:=by rw [harr];simp only [List.size_toArray,List.length_append,List.length_take,List.length_drop,Array.length_toList,hlen];rw [Array.length_toList] at hlen;omega
 have hother:∀ q,q≠.box p→∀ b,T b=q→(w.setRow (σ p) arr').heap[b]?=w.heap[b]?:=fun q hq b e=>setRow_other w (σ p) b arr' (fun e2=>by subst e2;rw [b3,hf] at e;exact hq e.symm)
 have mro:∀ b,T b=.ro→fV T m p j b=.ro:=fun b e=>by simp [fV,e]
 have aev:∀ b q k,T b=.row (.cell q k)→fV T m p j b=.row (.cell q k):=fun b q k e=>by simp [fV,e]
 have hgo:=k1.BZ (T':=fV T m p j) (cs':=bx.cs.take j++cs++bx.cs.drop (j+n)) (arr':=arr') (AV.dH p) h3 hf b1 (by simp [cl,h5];omega) hsz (fun k bv u hk hu=>?_) (fun x=>?_) mro (fun _ _ e=>by simp [fV,e]) (fun _ e=>by simp [fV,e])
  (fun b t s l ht e=>by simp [fV,e]) (fun b t i l ht e=>?_) (fun b q k hq e=>aev b q k e)
 ·obtain ⟨s1,s2⟩:=hgo
  exact ⟨_,undef,_,σ,_,run_store ho hp2 rfl hrun,.inr ⟨rfl,rfl⟩,by rw [hd];exact s1,s2.trans (Still.nM ⟨mro,fun b e=>by simp [fV,e]⟩ _),fun _ _=>rfl,fun e=>by cases e⟩
 ·have hml:cs.length=n:=by omega
  have hk2:=jc (cs:=bx.cs) (new:=cs) (off:=j) (by rw [hml];exact h6) k
  rw [hml] at hk2
  rw [hk2] at hk
  rw [hget] at hu
  split at hk
  ·rename_i hin
   rw [if_pos hin,g1] at hu
   have hu:AO[k - j]?=some u:=hu
   refine ⟨hone _ u hu,?_⟩
   rcases cg (k - j) bv hk with ⟨v,rfl,e2,e3⟩|⟨sz,es,rfl,e2⟩
   ·exact ay.frame (fun b e _=>⟨mro b e,hother _ (by simp) b e⟩) (g3 _ _ u e2 hu)
   ·have hjk:j+(k - j)=k:=by omega
    exact aH.frame (fun b e _=>⟨by simp [fV,e,hjk],hother _ (by simp) b e⟩) (fun b e _=>⟨mro b e,hother _ (by simp) b e⟩) (g3 _ _ u e2 hu)
  ·rename_i hin
   rw [if_neg hin] at hu
   obtain ⟨q1,q2⟩:=b5 k bv u hk hu
   exact ⟨q1,q2.frame (fun b e _=>⟨aev b _ _ e,hother _ (by simp) b e⟩) (fun b e _=>⟨mro b e,hother _ (by simp) b e⟩)⟩
 ·rcases tY p x with e|⟨e,hne⟩
  ·exact .inl e
  ·exact .inr ⟨e,fun k hr=>absurd hr (hne k)⟩
 ·have htm:t≠m:=fun e=>by
   subst e
   simp only [St.put,List.getElem?_set,if_true] at ht
   split at ht<;>cases ht
  simp [fV,e,htm]
theorem XW {T0:TypeId} {p j m:Nat} (h:aF L σ T st a w) (hd:o.dst=none) (ho:o.op=.store T0 y y2) (hm:aQ y x=true) (hm2:aQ y2 (.t m)=true) (hs:iC P T0=some n) {zs:List PV} (h1:st.slots.getD m .any=.pv (.agg zs)) (h2:st.get x=.aA p j)
  {bx:Box} (h3:st.boxes[p]?=some bx) (hf:bx.fz=false) (h5:zs.length=n) (h6:j+n≤bx.cs.length) :
  Does P L σ T st.boxes.length { st with slots:=st.slots.map (AV.dH p),boxes:=st.boxes.set p { bx with cs:=bx.cs.take j++zs.map sBV++bx.cs.drop (j+n) } } a w o false:=by
 have h0:st.consume (.t m)=some (.agg zs,false,st):=by simp only [St.consume];rw [h1]
 obtain ⟨T1,k1,k2,k3,k4,k5⟩:=h.consume hm2 h0
 obtain ⟨_,hp2⟩:=k1.aA hm h2
 obtain ⟨arr,E,b1,b2,b3,b4,b5⟩:=k1.boxes p bx h3
 have hc:=(k4 rfl).cells
 have c1:∀ u∈(a.eval y2).cells.toList,u.oneCell'=true:=hc.mem1.1
 have c2:(a.eval y2).cells.size=n:=by rw [hc.size];exact h5
 have hfit:j+(a.eval y2).cells.size≤arr.size:=by rw [c2,b2];exact h6
 have hrun:=nY (P:=P) (T0:=T0) (w:=w) (b:=σ p) (off:=j) (tb:=E) (v:=a.eval y2) (arr:=arr) (by rw [hs,c2]) b1 hfit c1
 obtain ⟨arr',harr⟩:∃ arr',arr'=(arr.toList.take j++(a.eval y2).cells.toList++arr.toList.drop (j+(a.eval y2).cells.toList.length)).toArray:=⟨_,rfl⟩
 rw [← harr] at hrun
 have hlen:(a.eval y2).cells.toList.length=n:=by rw [Array.length_toList,c2]
 have hget:∀ k,arr'[k]?=if j≤k∧k<j+n then (a.eval y2).cells[k - j]? else arr[k]?:=fun k=>by
  rw [harr,List.getElem?_toArray,jc (by rw [hlen];simpa [b2] using h6),hlen]
  simp
 have hsz:arr'.size=arr.size:=by rw [harr];simp only [List.size_toArray,List.length_append,List.length_take,List.length_drop,Array.length_toList,hlen];rw [Array.length_toList] at hlen;omega
 have hother:∀ q,q≠.box p→∀ b,T1 b=q→(w.setRow (σ p) arr').heap[b]?=w.heap[b]?:=fun q hq b e=>setRow_other w (σ p) b arr' (fun e2=>by subst e2;rw [b3,hf] at e;exact hq e.symm)
 have hgo:=k1.BZ (T':=T1) (cs':=bx.cs.take j++zs.map sBV++bx.cs.drop (j+n)) (arr':=arr') (AV.dH p) h3 hf b1 (by simp [h5];omega) hsz (fun k bv u hk hu=>?_) (fun x=>?_) (fun _ e=>e) (fun _ _ e=>e) (fun _ e=>e) (fun _ _ _ _ _ e=>e) (fun _ _ _ _ _ e=>e) (fun _ _ _ _ e=>e)
 ·obtain ⟨s1,s2⟩:=hgo
  exact ⟨_,undef,_,σ,T1,run_store ho hp2 rfl hrun,.inr ⟨rfl,rfl⟩,by rw [hd];exact s1,(k2.nM w).trans s2,fun _ _=>rfl,fun e=>by cases e⟩
 ·have hml:(zs.map sBV).length=n:=by simp [h5]
  have hk2:=jc (cs:=bx.cs) (new:=zs.map sBV) (off:=j) (by rw [hml];exact h6) k
  rw [hml] at hk2
  rw [hk2] at hk
  rw [hget] at hu
  split at hk
  ·rename_i hin
   rw [if_pos hin] at hu
   rw [List.getElem?_map] at hk
   cases e:zs[k - j]? with
   |none=>rw [e] at hk;cases hk
   |some z =>
    rw [e] at hk
    have hr:ay _ w z u:=hc.rep _ z u e hu
    cases hk
    by_cases hnl:∃ sz,z=.jV sz
    ·obtain ⟨sz,rfl⟩:=hnl
     cases hr with
     |jV _ xa=>exact ⟨rfl,.inl ⟨rfl,xa,rfl⟩⟩
    ·have ez:sBV z=.pv z:=by cases z<;>first|rfl|exact absurd ⟨_,rfl⟩ hnl
     rw [ez]
     exact ⟨hc.one _ u hu,hr.frame fun b e _=>⟨e,hother _ (by simp) b e⟩⟩
  ·rename_i hin
   rw [if_neg hin] at hu
   obtain ⟨g1,g2⟩:=b5 k bv u hk hu
   exact ⟨g1,g2.frame (fun b e _=>⟨e,hother _ (by simp) b e⟩) (fun b e _=>⟨e,hother _ (by simp) b e⟩)⟩
 ·rcases tY p x with e|⟨e,hne⟩
  ·exact .inl e
  ·exact .inr ⟨e,fun k hr=>absurd hr (hne k)⟩
end
end Go.Proofs.YtaaokejjmdbfaaaDoor

namespace Go.Proofs.YtaaokejjmdbfaaaDoor
open Go.RowKit
section
variable {P:Program} {L:Nat} {σ σ':Nat→Nat} {T T':Tags} {st st' st1:St} {a:Act} {w w1:World} {o:Oper} {d n:Nat} {x x2:bI} {y y2:Operand}
theorem aF.ae9 (h:aF L σ T st a w) {d:Nat} {k:Bool} {l:List AV} {v:Value} (hrep:∃ arr:Array Value,v=ae4 k arr∧arr.size=l.length∧∀ (i:Nat) x u,l[i]?=some x→arr[i]?=some u→iy T' w d i x u)
  (hro:∀ b,T b=.ro→T' b=.ro) (hbox:∀ b o,T b=.box o→T' b=.box o) (hoth:∀ b,w.heap.size≤b→T' b=.other)
  (hrows:∀ (t:Nat) s l,t≠d→st.slots[t]?=some (.row s l)→∀ b,T b=.row (.slot t)→T' b=.row (.slot t))
  (hparts:∀ {k:Bool} (t i:Nat) l,t≠d→st.slots[t]?=some (.jO k l)→(∃ s es,l[i]?=some (.row s es))→∀ b,T b=.row (.part t i)→T' b=.row (.part t i))
  (hcells:∀ (o j:Nat) b,T b=.row (.cell o j)→T' b=.row (.cell o j)) :
  aF L σ T' (st.put d (.jO k l)) (a.put (some d) v) w:=by
 have hw:∀ b,T b=.ro→b<w.heap.size→T' b=.ro∧w.heap[b]?=w.heap[b]?:=fun b e _=>⟨hro b e,rfl⟩
 refine ⟨by simp [Act.put,St.put,h.size],fun t x u hx hu=>?_,fun o bx ho=>?_,hoth⟩
 ·rcases dh hx with ⟨rfl,rfl,h1⟩|⟨h1,h2⟩
  ·rcases dX hu with ⟨_,rfl,_⟩|⟨h3,_⟩
   ·exact hrep
   ·exact absurd rfl h3
  ·rcases dX hu with ⟨h3,_⟩|⟨_,h4⟩
   ·exact absurd h3 h1
   ·refine (h.slots t x u h2 h4).keep hw (fun s l e b hb _=>⟨hrows t s l h1 (by rw [h2,e]) b hb,rfl⟩) (fun l e i he b hb _=>⟨hparts t i l h1 (by rw [h2,e]) he b hb,rfl⟩) (fun r hr _ sz es e=>?_) (Nat.le_refl _) (fun _ _=>rfl)
    by_cases hrd:r=.slot d
    ·subst hrd;rw [gB (fun _ _ e=>by cases e)] at e;cases e
    ·rw [fG hrd] at e
     exact ⟨⟨es,e⟩,kD hrd⟩
 ·have hb:=h.boxes o bx ho
  have hT:T' (σ o)=T (σ o):=by
   obtain ⟨_,_,_,_,h3,_⟩:=hb
   rw [h3];split
   ·rename_i hf;exact hro _ (by rw [h3,if_pos hf])
   ·rename_i hf;exact hbox _ _ (by rw [h3,if_neg hf])
  exact hb.frame ⟨hT,rfl⟩ (fun j b e _=>⟨hcells o j b e,rfl⟩) (fun b e _=>⟨hro b e,rfl⟩)
theorem UK {T0:TypeId}:∀ {l:List (Nat × Operand)} {m:List (Nat × Nat × bI)},lu P T0 l m=true→l.length=m.length∧∀ (k:Nat) p q,l[k]?=some p→m[k]?=some q→placeOf P T0 p.1=some (q.1,q.2.1)∧aQ p.2 q.2.2=true:=by
 intro l
 induction l with
 |nil=>intro m hm;cases m<;>simp [lu] at hm ⊢
 |cons p l ih =>
  intro m hm
  cases m with
  |nil=>simp [lu] at hm
  |cons q m =>
   simp only [lu,Bool.and_eq_true,beq_iff_eq] at hm
   obtain ⟨⟨hm1,hm2⟩,UG⟩:=hm
   obtain ⟨i1,i2⟩:=ih UG
   refine ⟨by simp [i1],fun k p' q' hp hq=>?_⟩
   cases k with
   |zero=>simp at hp hq;subst hp;subst hq;exact ⟨hm1,hm2⟩
   |succ k=>exact i2 k p' q' (by simpa using hp) (by simpa using hq)
theorem zU (place:Nat→Option (Nat × Nat)):∀ (l m:List (Nat × Value)) (arr:Array Value),Instr.fill place arr (l++m)=(Instr.fill place arr l).bind fun arr=>Instr.fill place arr m
 |[],m,arr=>rfl
 |(i,v) :: l,m,arr=>by
  simp only [List.cons_append,Instr.fill]
  split
  ·rfl
  ·split
   ·rfl
   ·exact zU place l m _
theorem FI {T0:TypeId} {l:List (Nat × Operand)} {parts:List (Nat × Nat × bI)} {z cs:List PV} {i off m sz:Nat} {es:List PV} (h:aF L σ T st a w) (hd:o.dst=some d) (ho:o.op=.build T0 (l++[(i,y)]).toArray)
  (hm:lu P T0 l parts=true) (hi:placeOf P T0 i=some (off,1)) (hy:aQ y (.t m)=true) (hz:lY P T0 z=true) (hu:(∃ n e,y8 P T0=some (n,e)∧(iC P e).isSome=true)∨∃ fs pl,P.underlying T0=some (.struct fs)∧(fs.toList.mapM fun f=>(P.info? f.type).map fun i=>(f.offset,i.size))=some pl)
  (h1:fQ z st parts=some (cs,st1)) (h2:st1.slots.getD m .any=.row sz es) (hoff:off<cs.length) :
  KD P L σ T ((st1.put m .any).put d (.jO true ((cs.map AV.pv).set off (.row sz es)))) a w o:=by
 unfold lY at hz
 split at hz
 case h_2=>cases hz
 rename_i it hit
 split at hz
 case h_2=>cases hz
 rename_i zv hzv
 obtain ⟨hl,hpl⟩:=UK hm
 obtain ⟨T1,arr,k1,k2,k3,k4⟩:=aF.build (placeOf P T0) h hpl hl (lC hz _ _) h1
 have e0:st1.get (.t m)=.row sz es:=h2
 obtain ⟨q1,q2,q3⟩:=k1.OV hy e0
 obtain ⟨xa,c,e1,_⟩:=q3.slice
 have hsz:arr.size=cs.length:=k4.size
 obtain ⟨arr',harr⟩:∃ arr',arr'=arr.setIfInBounds off (a.eval y):=⟨_,rfl⟩
 have aew:Instr.fill (placeOf P T0) zv.cells ((l++[(i,y)]).map fun p=>(p.1,a.eval p.2))=some arr':=by
  rw [List.map_append,zU,k3,harr]
  simp only [List.map_cons,List.map_nil,Option.bind_some,Instr.fill,hi]
  rw [e1]
  rw [if_neg (by simp [Value.cells];omega)]
  simp [Value.cells]
 have O1:P.built T0 ((l++[(i,y)]).map fun p=>(p.1,a.eval p.2))=some arr':=by
  unfold Program.built
  rcases hu with ⟨n,e,he,hs⟩|⟨fs,pl,hfs,XM⟩
  ·have hue:=Bc he
   cases hie:P.info? e with
   |none=>simp [iC,hie] at hs
   |some ie =>
    simp only [hit,hue,hzv,hie]
    rw [← aew]
    congr 1
    funext i
    simp [placeOf,hue,iC,hie]
  ·simp only [hit,hfs,hzv,XM]
   rw [← aew]
   congr 1
   funext i
   simp [placeOf,hfs,XM]
 refine ⟨.agg arr',moved T1 (.slot m) (.part d off),fun w'=>?_,?_,k2.trans (Still.moved T1 _ _)⟩
 ·have hb:=run_build (P:=P) w' T0 ((l++[(i,y)]).map fun p=>(p.1,a.eval p.2)).toArray arr' (by simpa using O1)
  simp only [List.map_append,List.map_cons,List.map_nil] at hb
  simp only [execOp,ho,List.map_toArray]
  simp [hb]
 ·rw [hd]
  refine (k1.forget m).ae9 (T':=moved T1 (.slot m) (.part d off)) ⟨arr',rfl,by rw [harr];simp [hsz],fun k' x u hk hu=>?_⟩ (fun _ e=>dZ e) (fun _ _ e=>kM e) (fun b hb=>iT (k1.fresh b hb)) (fun t s l' ht hs b e=>?_) (fun t i' l' ht _ _ b e=>cZ (by simp) (by simp;intro e2;exact absurd e2 ht) e) (fun _ _ _ e=>cZ (by simp) (by simp) e)
  ·rw [List.getElem?_set] at hk
   rw [harr,Array.getElem?_setIfInBounds] at hu
   by_cases hko:off=k'
   ·subst hko
    rw [if_pos rfl] at hk hu
    split at hk
    ·cases hk
     split at hu
     ·cases hu
      exact aH.frame (fun b e _=>⟨lV e,rfl⟩) (fun b e _=>⟨dZ e,rfl⟩) q3
     ·cases hu
    ·cases hk
   ·rw [if_neg hko] at hk hu
    rw [List.getElem?_map] at hk
    cases e:cs[k']? with
    |none=>rw [e] at hk;cases hk
    |some v =>
     rw [e] at hk;cases hk
     exact (k4.rep k' v u e hu).frame fun b e _=>⟨dZ e,rfl⟩
  ·have htm:t≠m:=fun e=>by
    subst e
    simp only [St.put,List.getElem?_set,if_true] at hs
    split at hs<;>cases hs
   exact cZ (by simpa using htm) (by simp) e
end
end Go.Proofs.YtaaokejjmdbfaaaDoor

namespace Go.Proofs.YtaaokejjmdbfaaaDoor
open Go.RowKit
section
variable {P:Program} {L:Nat} {σ σ':Nat→Nat} {T T':Tags} {st st' st1:St} {a:Act} {w w1:World} {o:Oper} {d n:Nat} {x x2:bI} {y y2:Operand} {ok:Nat→Prop} {sz:Nat} {es es' ys:List PV} {xs zs:List Value}
 {rec:ak→St→Option (Ex × St)} {env:Env}
theorem aF.dU:∀ {ys:List Operand} {xs:List bI} {T:Tags} {st st1:St} {vs:List PV},aF L σ T st a w→lX ys xs=true→dU st xs=some (vs,st1)→∃ T',aF L σ T' st1 a w∧Still T T'∧st1.boxes.length=st.boxes.length∧vs.length=ys.length ∧
  ∀ (k:Nat) v y,vs[k]?=some v→ys[k]?=some y→ay (fun b=>T' b=.ro) w v (a.eval y)
 |[],[],T,st,st1,vs,h,_,hc=>by
  simp only [Go.Proofs.YtaaokejjmdbfaaaDoor.dU,Option.some.injEq,Prod.mk.injEq] at hc
  obtain ⟨rfl,rfl⟩:=hc
  exact ⟨T,h,Still.refl T,rfl,rfl,fun k v y hv=>by simp at hv⟩
 |[],_ :: _,_,_,_,_,_,hm,_=>by simp [lX] at hm
 |_ :: _,[],_,_,_,_,_,hm,_=>by simp [lX] at hm
 |y :: ys,x :: xs,T,st,st1,vs,h,hm,hc=>by
  simp only [lX,Bool.and_eq_true] at hm
  simp only [Go.Proofs.YtaaokejjmdbfaaaDoor.dU] at hc
  obtain ⟨⟨v,own,st2⟩,h1,hc1⟩:=bind_some hc
  obtain ⟨⟨vs',st3⟩,h2,hc2⟩:=bind_some hc1
  simp only [Option.some.injEq,Prod.mk.injEq] at hc2
  obtain ⟨rfl,rfl⟩:=hc2
  obtain ⟨T1,k1,k2,k3,k4⟩:=h.BP hm.1 h1
  obtain ⟨T2,q1,q2,q3,q4,q5⟩:=aF.dU k1 hm.2 h2
  refine ⟨T2,q1,k2.trans q2,q3.trans k3,by simp [q4],fun k v' y' hv hy=>?_⟩
  cases k with
  |zero =>
   simp only [List.getElem?_cons_zero,Option.some.injEq] at hv hy
   subst hv;subst hy
   exact k4.frame fun b hb _=>⟨q2.ro b hb,rfl⟩
  |succ k=>exact q5 k v' y' (by simpa using hv) (by simpa using hy)
theorem KX {place:Nat→Option (Nat × Nat)} (hpl:∀ i,place i=some (i * sz,sz)):∀ (us:List Value) (vs:List PV) (k:Nat) (arr:Array Value),us.length=vs.length→(∀ (i:Nat) u v,us[i]?=some u→vs[i]?=some v→ay ok w v u∧v.cells.length=sz)→(k+us.length) * sz≤arr.size →
  ∃ arr',Instr.fill place arr ((us.zipIdx k).map fun p=>(p.2,p.1))=some arr'∧arr'.size=arr.size∧(∀ p,p<k * sz→arr'[p]?=arr[p]?)∧∀ i e j x,vs[i]?=some e→e.cells[j]?=some x→∃ u,arr'[(k+i) * sz+j]?=some u∧u.oneCell'=true∧ay ok w x u
 |[],vs,k,arr,hl,_,_=>⟨arr,rfl,rfl,fun _ _=>rfl,fun i e j x hi=>by cases vs<;>simp at hl hi⟩
 |u :: us,[],k,arr,hl,_,_=>by simp at hl
 |u :: us,v :: vs,k,arr,hl,hp,hs=>by
  obtain ⟨h1,h2⟩:=hp 0 u v rfl rfl
  have hc:=h1.cells
  have hcs:u.cells.size=sz:=by rw [hc.size,h2]
  have hks:k * sz+sz≤arr.size:=by
   have:(k+1) * sz≤(k+(us.length+1)) * sz:=Nat.mul_le_mul_right _ (by omega)
   rw [Nat.add_mul,Nat.one_mul] at this
   simp at hs;omega
  have e0:(u.cells.zipIdx).foldl (fun cs (p:Value × Nat)=>cs.setIfInBounds (k * sz+p.2) p.1) arr=(u.cells.toList.zipIdx 0).foldl (fun cs (p:Value × Nat)=>cs.setIfInBounds (k * sz+p.2) p.1) arr:=by
   rw [← Array.foldl_toList,Array.toList_zipIdx]
  have hget:=foldl_set arr (k * sz) u.cells.toList 0 arr (by simp [hcs];omega)
  obtain ⟨arr',g1,g2,g3,g4⟩:=KX hpl us vs (k+1) ((u.cells.toList.zipIdx 0).foldl (fun cs (p:Value × Nat)=>cs.setIfInBounds (k * sz+p.2) p.1) arr) (by simpa using hl) (fun i u' v' hu hv=>hp (i+1) u' v' (by simpa using hu) (by simpa using hv)) (by rw [rP];simp at hs;rw [show k+1+us.length=k+(us.length+1) by omega];exact hs)
  refine ⟨arr',?_,by rw [g2,rP],fun p hp'=>?_,fun i e j x hi hj=>?_⟩
  ·simp only [List.zipIdx_cons,List.map_cons,Instr.fill,hpl]
   rw [if_neg (by simp [hcs];omega)]
   exact (congrArg (fun c=>Instr.fill place c _) e0).trans g1
  ·rw [g3 p (by rw [Nat.add_mul];omega),hget,if_neg (by omega)]
  ·cases i with
   |zero =>
    simp only [List.getElem?_cons_zero,Option.some.injEq] at hi
    subst hi
    have hj':j<sz:=by rw [← h2];exact (List.getElem?_eq_some_iff.1 hj).1
    have e2:u.cells[j]?=some u.cells[j]:=Array.getElem?_eq_getElem (by omega)
    refine ⟨u.cells[j],?_,hc.one j _ e2,hc.rep j x _ hj e2⟩
    rw [Nat.add_zero,g3 _ (by rw [Nat.add_mul];omega),hget,if_pos ⟨by omega,by simp [hcs];omega⟩,show k * sz+j - (k * sz+0)=j by omega]
    simpa using e2
   |succ i =>
    obtain ⟨u',q1,q2,q3⟩:=g4 i e j x (by simpa using hi) hj
    exact ⟨u',by rw [show k+(i+1)=k+1+i by omega];exact q1,q2,q3⟩
def numbered:Nat→List (Nat × Operand)→Bool
 |_,[]=>true
 |k,(i,_) :: l=>i==k&&numbered (k+1) l
theorem zV:∀ {k:Nat} {l:List (Nat × Operand)},numbered k l=true→(l.map fun p=>(p.1,a.eval p.2))=((l.map fun p=>a.eval p.2).zipIdx k).map fun p=>(p.2,p.1)
 |_,[],_=>rfl
 |k,(i,y) :: l,h=>by
  simp only [numbered,Bool.and_eq_true,beq_iff_eq] at h
  simp only [List.map_cons,List.zipIdx_cons,zV h.2,h.1]
theorem UL {T0 len:Nat} {l:List (Nat × Operand)} {xs:List bI} (h:aF L σ T st a w) (hd:o.dst=some d) (ho:o.op=.buildSlice T0 len l.toArray) (hm:lX (l.map (·.2)) xs=true) (hn:numbered 0 l=true) (hlen:len=l.length) (he:rU P T0 sz=true) (hlim:len * sz≤16777216)
  (hp:act rec env (.jo d sz xs) st=some st'):Does P L σ T st.boxes.length st' a w o true:=by
 simp only [act] at hp
 obtain ⟨⟨vs,st1⟩,h1,hp1⟩:=bind_some hp
 clear hp
 simp only at hp1
 split at hp1
 case isFalse=>cases hp1
 rename_i hall
 have hp:=Option.some.inj hp1
 clear hp1
 subst hp
 obtain ⟨e,i,z,g1,g2,g3,g4,g5,g6,g7⟩:=vC he
 obtain ⟨T1,k1,k2,k3,k4,k5⟩:=h.dU hm h1
 have ahz:∀ v∈vs,v.cells.length=sz:=fun v hv=>by have:=List.all_eq_true.1 hall v hv;exact beq_iff_eq.1 this
 obtain ⟨abT,Sz⟩:∃ abT:Array Value,abT=(if len * sz=0 then #[] else z.cells):=⟨_,rfl⟩
 obtain ⟨EL,FK⟩:∃ EL,EL=(Array.range (len * sz)).map (abT[· % abT.size]!):=⟨_,rfl⟩
 have hvl:vs.length=l.length:=by simpa using k4
 obtain ⟨arr,q1,q2,q3,q4⟩:=KX (ok:=fun b=>T1 b=.ro) (w:=w) (sz:=sz) (place:=fun i=>some (i * sz,sz)) (fun _=>rfl) (l.map fun p=>a.eval p.2) vs 0 EL (by simp [hvl]) (fun i u v hu hv=>by
  rw [List.getElem?_map] at hu
  cases e:l[i]? with
  |none=>rw [e] at hu;cases hu
  |some p =>
   rw [e] at hu;cases hu
   exact ⟨k5 i v p.2 hv (by rw [List.getElem?_map,e];rfl),ahz v (List.mem_of_getElem? hv)⟩) (by rw [FK];simp [hlen])
 rw [← zV hn] at q1
 have hrun:(Instr.buildSlice T0 len (l.map fun p=>(p.1,a.eval p.2)).toArray).run P w=.ok (.slice (some ⟨w.heap.size,0,none⟩) len len) (w.alloc (.cells arr e)):=by
  have hl2:¬ (len * sz > 2 ^ 24):=by omega
  unfold Instr.buildSlice
  simp only [Sem.run_bind,run_underlying g1,Result.andThen_ok,ni (P:=P) (T:=e) (n:=sz) (by simp [iC,g2,g3]),if_neg hl2,Sem.run_pure]
  by_cases h0:len * sz=0
  ·rw [if_pos h0] at Sz
   rw [if_pos h0]
   simp only [Sem.run_bind,Sem.run_pure,Result.andThen_ok]
   rw [Sz] at FK
   rw [← FK,q1]
   simp [newRow,newObj,Sem.run]
   try rfl
  ·rw [if_neg h0] at Sz
   rw [if_neg h0]
   simp only [Sem.run_bind,Sem.run_pure,Result.andThen_ok,zeroValue,typeInfo,program,Sem.run,g2,g5]
   rw [Sz] at FK
   rw [← FK,q1]
   simp [newRow,newObj,Sem.run]
   try rfl
 refine ⟨_,.slice (some ⟨w.heap.size,0,none⟩) len len,w.alloc (.cells arr e),σ,upd T1 w.heap.size (.row (.slot d)),?_,.inl rfl,?_,(k2.nM w).trans (kP (k1.fresh _ (Nat.le_refl _)) _ _),fun _ _=>rfl,fun _=>jB _ _⟩
 ·simp only [execOp,ho,List.map_toArray]
  simp [hrun]
 ·rw [hd]
  have hsz:arr.size=len * sz:=by rw [q2,FK];simp
  have key:=k1.KT (d:=d) (sz:=sz) (c:=len) (E:=e) (es:=vs) (arr:=arr) hsz (by omega) (Nat.le_trans (Nat.le_mul_of_pos_right _ g4) (by unfold maxLen;omega)) ahz (fun i e j x hi hj=>by have:=q4 i e j x hi hj;rwa [Nat.zero_add] at this)
  rw [hvl,← hlen] at key
  exact key
end
end Go.Proofs.YtaaokejjmdbfaaaDoor

namespace Go.Proofs.YtaaokejjmdbfaaaDoor
open Go.RowKit
def aK (st st':St):Prop:=st.boxes.length≤st'.boxes.length∧st'.ys=st.ys∧st'.stop=st.stop
theorem aK.refl (st:St):aK st st:=⟨Nat.le_refl _,rfl,rfl⟩
theorem aK.trans {a b c:St} (h:aK a b) (k:aK b c):aK a c:=⟨Nat.le_trans h.1 k.1,k.2.1.trans h.2.1,k.2.2.trans h.2.2⟩
theorem aK.put {st st':St} (h:aK st st') (d:Nat) (v:AV):aK st (st'.put d v):=h
theorem aK.putRow {st st':St} (h:aK st st') (d sz:Nat) (es:List PV):aK st (st'.putRow d sz es):=h
theorem aK.setCell {st st':St} (h:aK st st') (o j:Nat) (v:BV):aK st (st'.setCell o j v):=by
 unfold St.setCell;split
 ·unfold aK at *;simpa using h
 ·exact h
theorem aK.jr {st st':St} (h:aK st st') (o j sz:Nat) (es:List PV):aK st (st'.jr o j sz es):=h.setCell o j _
theorem aK.freeze {st st':St} (h:aK st st') (r:Root):aK st (st'.freeze r):=by
 refine ⟨by rw [rO];exact h.1,?_,?_⟩
 ·unfold St.freeze;split
  ·split<;>first|exact h.2.1|(unfold St.setCell;split<;>exact h.2.1)
  ·exact h.2.1
 ·unfold St.freeze;split
  ·split<;>first|exact h.2.2|(unfold St.setCell;split<;>exact h.2.2)
  ·exact h.2.2
theorem aK.bf {st st':St} (h:aK st st') (o:Nat):aK st (st'.bf o):=by
 unfold St.bf;split
 ·unfold aK at *;simpa using h
 ·exact h
theorem aK.aV {st st':St} (h:aK st st') (o:Nat):aK st (st'.aV o):=by
 unfold St.aV;split
 ·unfold aK at *;simpa using h
 ·exact h
theorem aK.jK:∀ (fz:List bI) {st st':St},aK st st'→aK st (fz.foldl St.iw st')
 |[],_,_,h=>h
 |x :: fz,st,st',h=>by
  refine aK.jK fz ?_
  unfold St.iw
  split
  ·exact h.aV _
  ·exact h
theorem aK.takeRow {st st':St} (h:aK st st') (r:Root):aK st (st'.takeRow r):=by
 cases r
 ·exact h
 ·exact h
 ·exact h.setCell _ _ _
theorem aK.setRow {st st':St} (h:aK st st') (r:Root) (sz:Nat) (es:List PV):aK st (st'.setRow r sz es):=by
 cases r
 ·exact h
 ·exact h
 ·exact h.setCell _ _ _
theorem aK.lay {st st':St} (h:aK st st') (d:Nat) (v:PV) (own:Bool):aK st (st'.lay d v own):=by
 unfold St.lay;split
 ·split<;>exact h
 ·exact h
theorem aK.layAll {st st':St} (h:aK st st') (d:Nat) (l:List oJ):aK st (st'.layAll d l):=by
 unfold St.layAll;split
 ·exact h.lay _ _ _
 ·exact h
theorem aK.bg {st st':St} (h:aK st st') (x:bI) (v:AV):aK st (st'.bg x v):=by
 unfold St.bg
 split
 ·split
  ·exact h.freeze _
  ·exact h
 ·exact h.freeze _
 ·exact h.freeze _
 ·exact h.aV _
 ·exact h
theorem aK.foldl {β:Type} {st:St} {f:St→β→St} (hf:∀ s x,aK st s→aK st (f s x)):∀ (l:List β) (s:St),aK st s→aK st (l.foldl f s)
 |[],_,h=>h
 |x :: l,s,h=>aK.foldl hf l _ (hf s x h)
theorem aK.bT {st st':St} (h:aK st st') (x:bI):aK st (st'.bT x):=by
 unfold St.bT
 split
 ·exact aK.foldl (fun s v hs=>hs.bg _ _) _ _ h
 ·exact h.bg _ _
theorem aK.oN:∀ (caps:List AV) {st st':St},aK st st'→aK st (caps.foldl St.fD st')
 |[],_,_,h=>h
 |v :: caps,st,st',h=>by
  refine aK.oN caps ?_
  unfold St.fD
  split
  ·exact h.aV _
  ·exact h
theorem nZ {st st':St} {x:bI} {v:PV} {own:Bool} (h:st.consume x=some (v,own,st')):aK st st':=by
 cases x with
 |c v'=>simp only [St.consume,Option.some.injEq,Prod.mk.injEq] at h;rw [← h.2.2];exact aK.refl _
 |nil sz=>simp only [St.consume,Option.some.injEq,Prod.mk.injEq] at h;rw [← h.2.2];exact aK.refl _
 |t n =>
  simp only [St.consume] at h
  split at h
  ·simp only [Option.some.injEq,Prod.mk.injEq] at h;rw [← h.2.2];exact aK.refl _
  ·simp only [Option.some.injEq,Prod.mk.injEq] at h;rw [← h.2.2];exact aK.refl _
  ·split at h
   ·split at h
    ·simp only [Option.some.injEq,Prod.mk.injEq] at h;rw [← h.2.2];exact (aK.refl _).freeze _
    ·cases h
   ·cases h
  ·split at h
   ·simp only [Option.some.injEq,Prod.mk.injEq] at h;rw [← h.2.2];exact aK.oN _ (aK.refl _)
   ·cases h
  ·cases h
theorem jZ:∀ {xs:List bI} {st st':St} {vs:List PV},dU st xs=some (vs,st')→aK st st'
 |[],st,st',vs,h=>by simp only [dU,Option.some.injEq,Prod.mk.injEq] at h;rw [← h.2];exact aK.refl _
 |x :: xs,st,st',vs,h=>by
  simp only [dU] at h
  obtain ⟨⟨v,own,st2⟩,h1,h2⟩:=bind_some h
  obtain ⟨⟨vs',st3⟩,h3,h4⟩:=bind_some h2
  simp only [Option.some.injEq,Prod.mk.injEq] at h4
  rw [← h4.2]
  exact (nZ h1).trans (jZ h3)
theorem nN:∀ {l:List (Nat × Nat × bI)} {cs cs':List PV} {st st':St},fQ cs st l=some (cs',st')→aK st st'
 |[],cs,cs',st,st',h=>by simp only [fQ,Option.some.injEq,Prod.mk.injEq] at h;rw [← h.2];exact aK.refl _
 |(off,n,x) :: l,cs,cs',st,st',h=>by
  simp only [fQ] at h
  obtain ⟨⟨v,own,st2⟩,h1,h2⟩:=bind_some h
  obtain ⟨cs2,h3,h4⟩:=bind_some h2
  simp only at h4
  split at h4
  ·exact (nZ h1).trans (nN h4)
  ·cases h4
theorem zo {st st':St} {x:bI} {sz:Nat} {es:List PV} (h:st.grab x=some (sz,es,st')):aK st st':=by
 cases x with
 |c v'=>simp [St.grab] at h
 |nil s=>simp only [St.grab,Option.some.injEq,Prod.mk.injEq] at h;rw [← h.2.2];exact aK.refl _
 |t n =>
  simp only [St.grab] at h
  split at h
  case h_1=>simp only [Option.some.injEq,Prod.mk.injEq] at h;rw [← h.2.2];exact aK.refl _
  case h_2 =>
   split at h
   ·split at h
    ·simp only [Option.some.injEq,Prod.mk.injEq] at h;rw [← h.2.2];exact (aK.refl _).takeRow _
    ·cases h
   ·cases h
  case h_3=>simp only [Option.some.injEq,Prod.mk.injEq] at h;rw [← h.2.2];exact aK.refl _
  case h_4=>cases h
theorem rV {o:gq} {st st':St} (h:plain o st=some st'):aK st st':=by
 cases o<;>simp only [plain] at h
 case load d n p =>
  split at h
  ·obtain ⟨v,_,h⟩:=bind_some h;rw [← Option.some.inj h];exact aK.refl _
  ·obtain ⟨v,_,h⟩:=bind_some h
   obtain ⟨v,_,h⟩:=bind_some h
   obtain ⟨v,_,h⟩:=bind_some h
   rw [← Option.some.inj h];exact aK.refl _
  ·obtain ⟨bx,_,h1⟩:=bind_some h
   clear h
   split at h1
   ·split at h1
    ·rw [← Option.some.inj h1];exact aK.refl _
    ·split at h1
     ·cases h1
     ·rw [← Option.some.inj h1];exact aK.refl _
    ·cases h1
   ·obtain ⟨v,_,h⟩:=bind_some h1;rw [← Option.some.inj h];exact ((aK.refl _).bf _)
  ·cases h
 case AA d z parts off m =>
  replace h:=bind_some h
  obtain ⟨⟨cs,st1⟩,h1,h⟩:=h
  simp only at h
  split at h
  ·split at h
   ·rw [← Option.some.inj h];exact ((nN h1).put _ _).put _ _
   ·cases h
  ·cases h
 case build d z parts =>
  obtain ⟨⟨cs,st1⟩,h1,h2⟩:=bind_some h
  rw [← Option.some.inj h2];exact (nN h1).put _ _
 case mvz d x =>
  split at h
  ·split at h
   ·rw [← Option.some.inj h];exact (aK.refl _).put _ _
   ·rw [← Option.some.inj h];exact ((aK.refl _).freeze _).put _ _
   ·cases h
  ·cases h
 case Xp d n x =>
  split at h
  ·split at h
   ·split at h
    ·rw [← Option.some.inj h];exact ((aK.refl _).aV _).put _ _
    ·cases h
   ·cases h
  ·cases h
 case asz d n sz x =>
  split at h
  ·split at h
   ·split at h
    ·rw [← Option.some.inj h];exact ((aK.refl _).aV _).put _ _
    ·cases h
   ·cases h
  ·cases h
 case sl3 d sz x hi mx =>
  obtain ⟨_,_,h2⟩:=bind_some h
  clear h
  obtain ⟨_,_,h⟩:=bind_some h2
  clear h2
  split at h
  ·obtain ⟨_,_,h2⟩:=bind_some h
   clear h
   obtain ⟨_,_,h⟩:=bind_some h2
   clear h2
   split at h
   ·rw [← Option.some.inj h];exact (aK.refl _).put _ _
   ·cases h
  ·obtain ⟨_,_,h2⟩:=bind_some h
   clear h
   obtain ⟨_,_,h⟩:=bind_some h2
   clear h2
   obtain ⟨_,_,h2⟩:=bind_some h
   clear h
   split at h2
   ·rw [← Option.some.inj h2];exact ((aK.refl _).freeze _).put _ _
   ·cases h2
  ·cases h
 case ldm d n p =>
  split at h
  ·obtain ⟨b,_,h1⟩:=bind_some h
   clear h
   split at h1
   ·cases h1
   ·rw [← Option.some.inj h1];unfold aK;simp [St.put]
  ·cases h
 case OB d n x =>
  split at h
  ·split at h
   ·split at h
    ·obtain ⟨v,_,h⟩:=Option.map_eq_some_iff.1 h
     subst h;exact (aK.refl _).put _ _
    ·cases h
   ·cases h
  ·obtain ⟨v,_,h⟩:=Option.map_eq_some_iff.1 h
   subst h;exact (aK.refl _).put _ _
  ·cases h
 all_goals
  repeat' (first
   |(have h2:=Option.some.inj h;subst h2;first|exact aK.refl _|exact (aK.refl _).put _ _|exact (aK.refl _).putRow _ _ _)
   |(cases h;done)
   |(replace h:=bind_some h;obtain ⟨_,_,h⟩:=h)
   |split at h)
theorem pY {rec:ak→St→Option (Ex × St)} {env:Env} {d f:Nat} {args:List bI} {caps:List AV} {st st':St} (h:ji rec env d f args caps st=some st'):aK st st':=by
 unfold ji at h
 replace h:=bind_some h
 obtain ⟨l,_,h⟩:=h
 replace h:=bind_some h
 obtain ⟨k,_,h⟩:=h
 replace h:=bind_some h
 obtain ⟨rs,_,h⟩:=h
 have h:=Option.some.inj h
 subst h
 refine aK.layAll ?_ _ _
 split
 ·exact aK.foldl (fun s v hs=>hs.bg _ _) _ _ (aK.foldl (fun s v hs=>hs.bT _) _ _ (aK.refl _))
 ·exact aK.refl _
theorem Ib {st st':St} {x:bI} {la:ku} {bo:Option Nat} (h:rH st x=some (la,bo,st')):aK st st':=by
 unfold rH at h
 split at h
 ·split at h
  ·cases h;exact (aK.refl _).put _ _
  ·cases h
 ·split at h
  ·split at h
   ·cases h
   ·cases h;exact (aK.refl _).bf _
  ·cases h
 ·cases hg:st.grab x with
  |none=>rw [hg] at h;cases h
  |some q =>
   obtain ⟨sz,es,s⟩:=q
   rw [hg] at h;cases h
   exact zo hg
theorem Ic {st st':St} {bo:Option Nat} {out:Option (List PV)} (h:mQ st bo out=some st'):aK st st':=by
 unfold mQ at h
 split at h
 ·cases h;exact aK.refl _
 ·split at h
  ·cases h;unfold aK;simp
  ·cases h
 ·cases h
theorem og {rec:ak→St→Option (Ex × St)} {env:Env} {d f:Nat} {x:bI} {args:List bI} {caps:List AV} {st st':St} (h:iI rec env d f x args caps st=some st'):aK st st':=by
 unfold iI oK at h
 replace h:=bind_some h
 obtain ⟨l,_,h⟩:=h
 replace h:=bind_some h
 obtain ⟨k,_,h⟩:=h
 replace h:=bind_some h
 obtain ⟨⟨la,bo,s1⟩,h1,h⟩:=h
 replace h:=bind_some h
 obtain ⟨r,_,h⟩:=h
 replace h:=bind_some h
 obtain ⟨s2,h2,h⟩:=h
 have h:=Option.some.inj h
 subst h
 split at h1
 ·cases h1
 ·exact ((aK.foldl (fun s x hs=>hs.bT x) _ _ (aK.refl _)).trans ((Ib h1).trans (Ic h2))).layAll _ _
theorem KY {rec:ak→St→Option (Ex × St)} {env:Env} {o:gq} {st st':St} (hv:∀ d x xs,o≠.yield d x xs) (h:act rec env o st=some st'):aK st st':=by
 cases o<;>simp only [act] at h
 case alloc d z=>rw [← Option.some.inj h];unfold aK;simp [St.put]
 case box d x =>
  replace h:=bind_some h
  obtain ⟨⟨v,own,st1⟩,h1,h⟩:=h
  rw [← Option.some.inj h]
  refine (nZ h1).trans ?_
  unfold aK;simp [St.put]
 case store d n p x =>
  replace h:=bind_some h
  obtain ⟨⟨v,own,st1⟩,h1,h⟩:=h
  refine (nZ h1).trans ?_
  simp only at h
  split at h
  ·replace h:=bind_some h
   obtain ⟨b,_,h⟩:=h
   split at h
   ·cases h
   ·split at h
    ·rw [← Option.some.inj h];exact (aK.refl _).jr _ _ _ _
    ·rw [← Option.some.inj h];unfold aK;simp
  ·replace h:=bind_some h
   obtain ⟨⟨s,l⟩,_,h⟩:=h
   replace h:=bind_some h
   obtain ⟨e,_,h⟩:=h
   split at h
   ·replace h:=bind_some h
    obtain ⟨cs,_,h⟩:=h
    replace h:=bind_some h
    obtain ⟨e',_,h⟩:=h
    rw [← Option.some.inj h];exact (aK.refl _).setRow _ _ _
   ·cases h
  ·cases h
 case jo d sz parts =>
  replace h:=bind_some h
  obtain ⟨⟨vs,st1⟩,h1,h⟩:=h
  simp only at h
  split at h
  ·rw [← Option.some.inj h];exact (jZ h1).putRow _ _ _
  ·cases h
 case make d z n c =>
  repeat' (first
   |(have h2:=Option.some.inj h;subst h2;first|exact aK.refl _|exact (aK.refl _).put _ _|exact (aK.refl _).putRow _ _ _)
   |(cases h;done)
   |(replace h:=bind_some h;obtain ⟨_,_,h⟩:=h)
   |split at h)
 case app d sz x y =>
  replace h:=bind_some h
  obtain ⟨⟨sy,ys⟩,_,h⟩:=h
  replace h:=bind_some h
  obtain ⟨⟨sx,es,st1⟩,h1,h⟩:=h
  simp only at h
  split at h
  ·rw [← Option.some.inj h];exact (zo h1).putRow _ _ _
  ·cases h
 case apb d x y =>
  replace h:=bind_some h
  obtain ⟨⟨sy,ys⟩,_,h⟩:=h
  replace h:=bind_some h
  obtain ⟨⟨sx,es,st1⟩,h1,h⟩:=h
  simp only at h
  split at h
  ·rw [← Option.some.inj h];exact (zo h1).putRow _ _ _
  ·cases h
 case apf d sz x y =>
  replace h:=bind_some h
  obtain ⟨⟨sy,ys⟩,_,h⟩:=h
  simp only at h
  split at h
  ·split at h
   ·rw [← Option.some.inj h];exact ((aK.refl _).putRow _ _ _).put _ _
   ·cases h
  ·cases h
 case cpy d sz x y =>
  replace h:=bind_some h
  obtain ⟨⟨sy,ys⟩,_,h⟩:=h
  replace h:=bind_some h
  obtain ⟨⟨r,off,len⟩,_,h⟩:=h
  replace h:=bind_some h
  obtain ⟨⟨sx,es⟩,h1,h⟩:=h
  simp only at h
  split at h
  ·rw [← Option.some.inj h];exact ((aK.refl _).setRow _ _ _).put _ _
  ·cases h
 case bxw d x =>
  split at h
  ·split at h
   ·replace h:=bind_some h
    obtain ⟨cs,_,h⟩:=h
    rw [← Option.some.inj h];unfold aK;simp [St.put]
   ·cases h
  ·cases h
 case Xq n p x =>
  split at h
  ·split at h
   ·split at h
    ·replace h:=bind_some h
     obtain ⟨b,_,h⟩:=h
     replace h:=bind_some h
     obtain ⟨cs,_,h⟩:=h
     split at h
     ·cases h
     ·rw [← Option.some.inj h];unfold aK;simp [St.put]
    ·cases h
   ·split at h
    ·replace h:=bind_some h
     obtain ⟨b,_,h⟩:=h
     split at h
     ·cases h
     ·rw [← Option.some.inj h];unfold aK;simp
    ·cases h
   ·cases h
  ·cases h
 case Kv d f x g =>
  split at h
  ·replace h:=bind_some h
   obtain ⟨⟨r,off,len⟩,_,h⟩:=h
   replace h:=bind_some h
   obtain ⟨⟨sx,es⟩,h1,h⟩:=h
   replace h:=bind_some h
   obtain ⟨c,_,h⟩:=h
   replace h:=bind_some h
   obtain ⟨es',_,h⟩:=h
   simp only at h
   split at h
   ·rw [← Option.some.inj h];exact ((aK.refl _).setRow _ _ _).put _ _
   ·cases h
  ·cases h
 case call d f args=>exact pY h
 case lin d f x args=>exact og h
 case linv d g x args =>
  split at h
  ·exact og h
  ·exact og h
  ·cases h
 case jP d x args =>
  split at h
  ·exact pY h
  ·exact pY h
  ·cases h
 case yield d x args=>exact absurd rfl (hv _ _ _)
 all_goals cases h
end Go.Proofs.YtaaokejjmdbfaaaDoor

namespace Go.Proofs.YtaaokejjmdbfaaaDoor
open Go.RowKit
section
variable {P:Program} {L:Nat} {σ σ':Nat→Nat} {T T':Tags} {st st' st1:St} {a:Act} {w w1:World} {o:Oper} {d n:Nat} {x x2 x3:bI} {y y2 y3:Operand} {ok:Nat→Prop} {sz:Nat} {es ys:List PV} {xs zs:List Value}
 {rec:ak→St→Option (Ex × St)} {env:Env}
end
end Go.Proofs.YtaaokejjmdbfaaaDoor

namespace Go.Proofs.YtaaokejjmdbfaaaDoor
open Go.RowKit
section
variable {P:Program} {L:Nat} {σ σ':Nat→Nat} {T T' T1 T2:Tags} {st st' st1:St} {a:Act} {w w1:World} {o:Oper} {d n:Nat} {x x2:bI} {y y2:Operand} {rec:ak→St→Option (Ex × St)} {env:Env}
theorem aF.aex (h:aF L σ T st a w) {q:Nat} {bx:Box} {cs:List PV} (hb:st.boxes[q]?=some bx) (hf:bx.fz=false) (hfr:∀ b,w1.heap.size≤b→T b=.other)
  (hw:∀ b,b<w.heap.size→b≠σ q→T b≠.other→w1.heap[b]?=w.heap[b]?)
  (harr:∃ arr E,w1.heap[σ q]?=some (.cells arr E (0,0))∧arr.size=cs.length∧∀ (j:Nat) x u,cs[j]?=some x→arr[j]?=some u→u.oneCell'=true∧ay (fun b=>T b=.ro) w1 x u) :
  aF L σ T { st with boxes:=st.boxes.set q { bx with cs:=cs.map .pv } } a w1:=by
 have XY:T (σ q)=.box q:=by
  obtain ⟨_,_,_,_,h3,_⟩:=h.boxes q bx hb
  rw [h3,if_neg (by simp [hf])]
 have ol:q<st.boxes.length:=(List.getElem?_eq_some_iff.1 hb).1
 have hro:∀ b,T b=.ro→b<w.heap.size→T b=.ro∧w1.heap[b]?=w.heap[b]?:=fun b e hl=>⟨e,hw b hl (fun e2=>by rw [e2,XY] at e;cases e) (by rw [e];simp)⟩
 have hrw:∀ r b,T b=.row r→b<w.heap.size→T b=.row r∧w1.heap[b]?=w.heap[b]?:=fun r b e hl=>⟨e,hw b hl (fun e2=>by rw [e2,XY] at e;cases e) (by rw [e];simp)⟩
 have hbox:∀ p bx',st.boxes[p]?=some bx'→p≠q→w1.heap[σ p]?=w.heap[σ p]?:=fun p bx' hp hne=>by
  have hB:=h.boxes p bx' hp
  obtain ⟨_,_,g1,_,h3,_⟩:=hB
  refine hw _ (Array.getElem?_eq_some_iff.1 g1).1 (fun e=>?_) (by rw [h3];split<;>simp)
  rw [e,XY] at h3
  split at h3
  ·cases h3
  ·injection h3 with h3;exact hne h3.symm
 have hrow:∀ r sz es,({ st with boxes:=st.boxes.set q { bx with cs:=cs.map .pv } }:St).row r=some (sz,es)→st.row r=some (sz,es)∧hdr σ a w1 r=hdr σ a w r:=fun r sz es e=>by
  cases r with
  |slot t=>exact ⟨e,rfl⟩
  |part t i=>simp [St.row] at e
  |cell p j =>
   by_cases hpq:p=q
   ·subst hpq
    simp only [St.row,List.getElem?_set,if_true,if_pos ol,hf,Bool.false_eq_true,if_false,List.getElem?_map] at e
    cases hc:cs[j]? with
    |none=>rw [hc] at e;simp at e
    |some v=>rw [hc] at e;simp at e
   ·have e':st.row (.cell p j)=some (sz,es):=by
     simp only [St.row,List.getElem?_set,if_neg (Ne.symm hpq)] at e ⊢
     exact e
    refine ⟨e',?_⟩
    obtain ⟨bx',g1,_,_⟩:=dL e'
    exact World.cell?_of_block (w:=w) (a:=⟨σ p,j,none⟩) (hbox p bx' g1 hpq)
 refine ⟨h.size,fun t x u hx hu=>?_,fun p bx' hp=>?_,hfr⟩
 ·exact (h.slots t x u hx hu).keep hro (fun _ _ _ b e hl=>hrw _ b e hl) (fun _ _ _ _ b e hl=>hrw _ b e hl) (fun r _ _ sz es e=>⟨⟨es,(hrow r sz es e).1⟩,(hrow r sz es e).2⟩) (by simp) (fun _ _=>rfl)
 ·rw [List.getElem?_set] at hp
  by_cases hpq:q=p
  ·subst hpq
   simp only [if_true,if_pos ol,Option.some.injEq] at hp
   subst hp
   obtain ⟨arr,E,g1,g2,g3⟩:=harr
   refine ⟨arr,E,g1,by simpa using g2,by simp [hf,XY],fun e=>(by simp [hf] at e),fun j bv u hj hu=>?_⟩
   simp only [List.getElem?_map] at hj
   cases hc:cs[j]? with
   |none=>rw [hc] at hj;cases hj
   |some v =>
    rw [hc] at hj;cases hj
    exact g3 j v u hc hu
  ·rw [if_neg hpq] at hp
   exact (h.boxes p bx' hp).frame ⟨rfl,hbox p bx' hp (Ne.symm hpq)⟩ (fun j b e hl=>hrw _ b e hl) hro
theorem aF.afa (h:aF L σ T st a w) (hn:∀ k l,st.slots[n]?≠some (.jO k l)) {p:Nat} (hp:st.boxes.length≤p):aF L σ (fV T n p 0) st a w:=by
 have hro:∀ b,T b=.ro→fV T n p 0 b=.ro:=fun b e=>by simp [fV,e]
 have hw:∀ b,T b=.ro→b<w.heap.size→fV T n p 0 b=.ro∧w.heap[b]?=w.heap[b]?:=fun b e _=>⟨hro b e,rfl⟩
 refine ⟨h.size,fun t x u hx hu=>?_,fun q bx ho=>?_,fun b hb=>by simp [fV,h.fresh b hb]⟩
 ·refine (h.slots t x u hx hu).keep hw (fun s l e b hb _=>⟨by simp [fV,hb],rfl⟩) (fun {k} l e i _ b hb _=>⟨?_,rfl⟩) (fun q hq _ s l e=>⟨⟨l,e⟩,rfl⟩) (Nat.le_refl _) (fun _ _=>rfl)
  have htn:t≠n:=fun e2=>by subst e2;exact hn k l (by rw [hx,e])
  simp [fV,hb,htn]
 ·have hb:=h.boxes q bx ho
  have hT:fV T n p 0 (σ q)=T (σ q):=by
   obtain ⟨_,_,_,_,h3,_⟩:=hb
   rw [h3];split
   ·rename_i hf;exact hro _ (by rw [h3,if_pos hf])
   ·rename_i hf;rw [if_neg hf] at h3;simp [fV,h3]
  exact hb.frame ⟨hT,rfl⟩ (fun k b e _=>⟨by simp [fV,e],rfl⟩) hw
theorem XZ {T0:TypeId} {m:Nat} (h:aF L σ T st a w) (hd:o.dst=some d) (ho:o.op=.box T0 y) (hm:aQ y (.t m)=true) {l:List AV} (h1:st.slots.getD m .any=.jO true l) {cs:List BV} (hcs:pW l=some cs) :
  Does P L σ T st.boxes.length (({ (st.put m .any) with boxes:=st.boxes++[(⟨false,cs⟩:Box)] }:St).put d (.aA st.boxes.length 0)) a w o true:=by
 have e0:st.get (.t m)=.jO true l:=h1
 obtain ⟨t,e1,hA,hB,AO,g1,g2,g3⟩:=h.at hm e0 (by simp) (by simp) (by simp)
 cases e1
 replace g1:a.eval y=Value.agg AO:=g1
 have hrun:(execOp a.eval o).run P w=.ok (.value (.pointer (some ⟨w.heap.size,0,none⟩))) (w.alloc (.cells (a.eval y).cells T0)):=by
  simp [execOp,ho,Instr.box,newVar,newRow,newObj,Sem.run]
  try rfl
 have k1:=h.forget m
 have k6:=k1.afa (n:=m) (p:=st.boxes.length) (fun k l e=>by
  simp only [St.put,List.getElem?_set,if_true] at e
  split at e<;>cases e) (Nat.le_refl _)
 obtain ⟨cl,cg⟩:=vF hcs
 have mro:∀ b,T b=.ro→fV T m st.boxes.length 0 b=.ro:=fun b e=>by simp [fV,e]
 refine ⟨_,_,_,fun k=>if k=st.boxes.length then w.heap.size else σ k,_,hrun,.inl rfl,?_,((Still.nM ⟨mro,fun b e=>by simp [fV,e]⟩ w).trans (kP (k6.fresh _ (Nat.le_refl _)) _ (.box st.boxes.length))),fun k hk=>if_neg (by omega),fun _=>jB _ _⟩
 rw [hd]
 refine k6.BU (by rw [g1];show AO.size=_;omega) (fun j bv u hj hu=>?_)
 rw [g1] at hu
 have hu:AO[j]?=some u:=hu
 rcases cg j bv hj with ⟨v,rfl,e2,e3⟩|⟨sz,es,rfl,e2⟩
 ·have:=g3 j _ u e2 hu
  exact ⟨zT this e3,ay.frame (fun b e _=>⟨mro b e,rfl⟩) this⟩
 ·have hr:aH T w (.part m j) sz es u:=g3 j _ u e2 hu
  obtain ⟨xa,c,e,_⟩:=hr.slice
  refine ⟨by rw [e];rfl,aH.frame (fun b e _=>⟨?_,rfl⟩) (fun b e _=>⟨mro b e,rfl⟩) hr⟩
  simp only [fV,e,if_true,Nat.zero_add]
  rfl
theorem EN (st:St) (p:Nat):(st.aV p).boxes.length=st.boxes.length:=by
 unfold St.aV;split<;>simp
theorem aF.zW (h:aF L σ T st a w) (x:bI) (v:AV):∃ T1,aF L σ T1 (st.bg x v) a w∧Still T T1∧(st.bg x v).boxes.length=st.boxes.length:=by
 have hr:∀ r,∃ T1,aF L σ T1 (st.freeze r) a w∧Still T T1∧(st.freeze r).boxes.length=st.boxes.length:=fun r=>by
  obtain ⟨T1,k1,k2,_⟩:=h.freeze r
  exact ⟨T1,k1,k2,rO _ _⟩
 unfold St.bg
 split
 ·split
  ·exact hr _
  ·exact ⟨T,h,Still.refl T,rfl⟩
 ·exact hr _
 ·exact hr _
 ·rename_i p _
  refine ⟨_,h.aV p,?_,EN _ _⟩
  split
  ·exact Still.gI T p
  ·exact Still.refl T
 ·exact ⟨T,h,Still.refl T,rfl⟩
theorem aF.zX:∀ (l:List AV) {T:Tags} {st:St},aF L σ T st a w→∃ T1,aF L σ T1 (l.foldl (fun s v=>s.bg (.c .void) v) st) a w∧Still T T1∧(l.foldl (fun s v=>s.bg (.c .void) v) st).boxes.length=st.boxes.length
 |[],T,st,h=>⟨T,h,Still.refl T,rfl⟩
 |v :: l,T,st,h=>by
  obtain ⟨T1,k1,k2,k3⟩:=h.zW (.c .void) v
  obtain ⟨T2,q1,q2,q3⟩:=aF.zX l k1
  exact ⟨T2,q1,k2.trans q2,q3.trans k3⟩
theorem aF.O6 (h:aF L σ T st a w) (x:bI):∃ T1,aF L σ T1 (st.bT x) a w∧Still T T1∧(st.bT x).boxes.length=st.boxes.length:=by
 unfold St.bT
 split
 ·exact aF.zX _ h
 ·exact h.zW _ _
theorem aF.zY:∀ (l:List bI) {T:Tags} {st:St},aF L σ T st a w→∃ T1,aF L σ T1 (l.foldl St.bT st) a w∧Still T T1∧(l.foldl St.bT st).boxes.length=st.boxes.length
 |[],T,st,h=>⟨T,h,Still.refl T,rfl⟩
 |x :: l,T,st,h=>by
  obtain ⟨T1,k1,k2,k3⟩:=h.O6 x
  obtain ⟨T2,q1,q2,q3⟩:=aF.zY l k1
  exact ⟨T2,q1,k2.trans q2,q3.trans k3⟩
end
end Go.Proofs.YtaaokejjmdbfaaaDoor

namespace Go.Proofs.YtaaokejjmdbfaaaDoor
open Go.RowKit
def isInt (P:Program) (T:TypeId):Bool:=match P.underlying T with|some (.int _)=>true|_=>false
def O7 (P:Program) (T:TypeId) (k:IntKind):Bool:=match P.underlying T with|some (.int q)=>q==k|_=>false
def xO (P:Program) (T:TypeId):Bool :=
 match P.underlying T with
 |some (.array _ e)=>(iC P e).isSome
 |some (.struct fs)=>(fs.toList.mapM fun f=>(P.info? f.type).map fun i=>(f.offset,i.size)).isSome
 |_=>false
theorem KZ {P:Program} {T:TypeId} (h:isInt P T=true):∃ q,P.underlying T=some (.int q):=by
 unfold isInt at h;split at h
 ·exact ⟨_,by assumption⟩
 ·cases h
theorem FM {P:Program} {T:TypeId} {k:IntKind} (h:O7 P T k=true):P.underlying T=some (.int k):=by
 unfold O7 at h;split at h
 ·rename_i q hq;rw [hq,beq_iff_eq.1 h]
 ·cases h
theorem qc {P:Program} {T:TypeId} (h:xO P T=true):(∃ n e,y8 P T=some (n,e)∧(iC P e).isSome=true)∨∃ fs pl,P.underlying T=some (.struct fs)∧(fs.toList.mapM fun f=>(P.info? f.type).map fun i=>(f.offset,i.size))=some pl:=by
 unfold xO at h;split at h
 ·rename_i n e hu;exact .inl ⟨n,e,by simp [y8,hu],h⟩
 ·rename_i fs hu
  obtain ⟨pl,hpl⟩:=Option.isSome_iff_exists.1 h
  exact .inr ⟨fs,pl,hu,hpl⟩
 ·cases h
def SA (o:Op):Option (Builtin × Operand × TypeId) :=
 match o with
 |.call c=>match c.callee with
  |.builtin b=>match c.args.toList with
   |[y]=>match c.argTypes.toList with
    |[T]=>some (b,y,T)
    |_=>none
   |_=>none
  |_=>none
 |_=>none
def La (o:Op):Option (Builtin × Operand × Operand × TypeId × TypeId) :=
 match o with
 |.call c=>match c.callee with
  |.builtin b=>match c.args.toList with
   |[y,y2]=>match c.argTypes.toList with
    |[T,T1]=>some (b,y,y2,T,T1)
    |_=>none
   |_=>none
  |_=>none
 |_=>none
def FN (o:Op):Option (Operand × List Operand) :=
 match o with
 |.call c=>match c.callee with
  |.value y=>some (y,c.args.toList)
  |_=>none
 |_=>none
def FP (o:Op):Option (Nat × List Operand) :=
 match o with
 |.call c=>match c.callee with
  |.value (.func f)=>some (f,c.args.toList)
  |_=>none
 |_=>none
theorem Lc {o:Op} {b:Builtin} {y:Operand} {T:TypeId} (h:SA o=some (b,y,T)):o=.call { callee:=.builtin b,args:=#[y],argTypes:=#[T] }:=by
 unfold SA at h
 split at h
 case h_2=>cases h
 rename_i c
 split at h
 case h_2=>cases h
 rename_i b' hb
 split at h
 case h_2=>cases h
 rename_i y' hy
 split at h
 case h_2=>cases h
 rename_i T' hT
 cases h
 obtain ⟨callee,⟨args⟩,⟨ats⟩⟩:=c
 simp only at hb hy hT
 rw [hb,hy,hT]
theorem Cb {o:Op} {b:Builtin} {y y2:Operand} {T T1:TypeId} (h:La o=some (b,y,y2,T,T1)):o=.call { callee:=.builtin b,args:=#[y,y2],argTypes:=#[T,T1] }:=by
 unfold La at h
 split at h
 case h_2=>cases h
 rename_i c
 split at h
 case h_2=>cases h
 rename_i b' hb
 split at h
 case h_2=>cases h
 rename_i y' y2' hy
 split at h
 case h_2=>cases h
 rename_i T' T1' hT
 cases h
 obtain ⟨callee,⟨args⟩,⟨ats⟩⟩:=c
 simp only at hb hy hT
 rw [hb,hy,hT]
theorem Cc {o:Op} {y:Operand} {ys:List Operand} (h:FN o=some (y,ys)):∃ ats,o=.call { callee:=.value y,args:=ys.toArray,argTypes:=ats }:=by
 unfold FN at h
 split at h
 case h_2=>cases h
 rename_i c
 split at h
 case h_2=>cases h
 rename_i y' hy
 cases h
 obtain ⟨callee,args,ats⟩:=c
 simp only at hy
 exact ⟨ats,by rw [hy]⟩
theorem xP {o:Op} {f:Nat} {ys:List Operand} (h:FP o=some (f,ys)):∃ ats,o=.call { callee:=.value (.func f),args:=ys.toArray,argTypes:=ats }:=by
 unfold FP at h
 split at h
 case h_2=>cases h
 rename_i c
 split at h
 case h_2=>cases h
 rename_i f' hy
 cases h
 obtain ⟨callee,args,ats⟩:=c
 simp only at hy
 exact ⟨ats,by rw [hy]⟩
def mv (P:Program) (op:Op):gq→Bool
 |.aj _ x=>match op with
  |.move y=>aQ y x
  |_=>false
 |.aC _ x=>match op with
  |.assign y=>aQ y x
  |.move y=>aQ y x
  |_=>false
 |.pick _ c x x2=>match op with
  |.pick yc y y2=>aQ yc c&&aQ y x&&aQ y2 x2
  |_=>false
 |.bin _ b x x2=>match op with
  |.binOp b' _ y y2 _=>b==b'&&aQ y x&&aQ y2 x2
  |_=>false
 |.Ou _ neg n x x2=>match op with
  |.binOp b' T0 y y2 _=>b'==(if neg then .neq else .eql)&&aQ y x&&aQ y2 x2&&XH P T0&&iC P T0==some n
  |_=>false
 |.eqm _ _ _ _ _=>false
 |.eqb _ _ _ _=>false
 |.un _ b x=>match op with
  |.unOp b' _ y=>b==b'&&aQ y x
  |_=>false
 |.conv _ k x=>match op with
  |.convert src dst y=>aQ y x&&isInt P src&&O7 P dst k
  |_=>false
 |.load _ n x=>match op with
  |.load T0 y=>aQ y x&&oL P T0==some n
  |_=>false
 |.aU _ x off=>match op with
  |.fieldAddr S y f=>aQ y x&&(match uX P S f with|some fd=>fd.offset==off&&(match iC P fd.type with|some (_+1)=>true|_=>false)|none=>false)
  |.nilCheck y=>aQ y x&&off==0
  |_=>false
 |.bC _ sz x x2=>match op with
  |.indexAddr T0 y y2=>aQ y x&&aQ y2 x2&&(match jQ P T0 with|some e=>iC P e==some sz|none=>false)
  |_=>false
 |.xC _ x x2 len sz=>match op with
  |.indexAddr T0 y y2=>aQ y x&&aQ y2 x2&&(match y8 P T0 with|some (l,e)=>l==len&&iC P e==some sz|none=>false)
  |_=>false
 |.fld _ _ _ _=>false
 |.idx _ _ _ _ _ _=>false
 |.sli _ _ _ _ _=>false
 |.ext _ x i=>match op with
  |.extract y j=>aQ y x&&i==j
  |_=>false
 |.build _ z m=>match op with
  |.build T0 l=>lu P T0 l.toList m&&lY P T0 z&&xO P T0
  |_=>false
 |.len _ x=>match SA op with
  |some (b,y,T0)=>b==.len&&aQ y x&&(jQ P T0).isSome
  |none=>false
 |.Ul _ neg x=>match op with
  |.binOp b T0 y (.const (.slice none 0 0)) _=>b==(if neg then .neq else .eql)&&aQ y x&&(jQ P T0).isSome
  |_=>false
 |.sl3 _ _ _ _ _=>false
 |.cut _ _ _=>false
 |.mvz _ _=>false
 |.Xp _ n x=>match op with
  |.slice T0 y none none none=>aQ y x&&(match y8 P T0 with
   |some (l,e)=>l==n&&iC P e==some 1
   |none=>false)
  |_=>false
 |.asz _ _ _ _=>false
 |.ldm _ _ _=>false
 |.OB _ n x=>match op with
  |.load T0 y=>aQ y x&&oL P T0==some n
  |_=>false
 |.lens _ _=>false
 |.mn _ mx x x2=>match La op with
  |some (b,y,y2,_,_)=>b==(if mx then .max else .min)&&aQ y x&&aQ y2 x2
  |none=>false
 |.RZ _ f xs=>match op with
  |.makeFunc fn first ys=>isFn f fn&&first.isEmpty&&lX ys.toList xs
  |_=>false
 |.alloc _ z=>match op with
  |.alloc T0=>lY P T0 z
  |_=>false
 |.box _ x=>match op with
  |.box _ y=>aQ y x
  |_=>false
 |.store dd n x x2=>match op with
  |.store T0 y y2=>dd.isNone&&aQ y x&&aQ y2 x2&&iC P T0==some n
  |_=>false
 |.jo _ sz xs=>match op with
  |.buildSlice T0 len l=>lX (l.toList.map (·.2)) xs&&numbered 0 l.toList&&len==l.size&&rU P T0 sz&&decide (len * sz≤16777216)
  |_=>false
 |.make _ z x x2=>match op with
  |.makeSlice T0 y y2=>aQ y x&&aQ y2 x2&&rU P T0 z.cells.length&&(match jQ P T0 with|some e=>lY P e z.cells|none=>false)
  |_=>false
 |.app _ sz x x2=>match La op with
  |some (b,y,y2,T0,T1)=>b==.append&&T0==T1&&aQ y x&&aQ y2 x2&&rU P T0 sz
  |none=>false
 |.apf _ _ _ _=>false
 |.apb _ _ _=>false
 |.cpy _ _ _ _=>false
 |.call _ f xs=>match FP op with
  |some (g,ys)=>f==g&&lX ys xs
  |none=>false
 |.jP _ x xs=>match FN op with
  |some (y,ys)=>aQ y x&&lX ys xs
  |none=>false
 |.lin _ f x xs=>match FP op with
  |some (g,y :: ys)=>f==g&&aQ y x&&lX ys xs
  |_=>false
 |.linv _ g x xs=>match FN op with
  |some (z,y :: ys)=>aQ z g&&aQ y x&&lX ys xs
  |_=>false
 |.AA _ z parts off t=>match op with
  |.build T0 l=>(match l.toList.getLast? with
   |some p=>lu P T0 l.toList.dropLast parts&&placeOf P T0 p.1==some (off,1)&&aQ p.2 (.t t)
   |none=>false)&&lY P T0 z&&xO P T0
  |_=>false
 |.bxw _ x=>match op with
  |.box T0 y=>aQ y x
  |_=>false
 |.Xq n x x2=>match op with
  |.store T0 y y2=>aQ y x&&aQ y2 x2&&iC P T0==some n
  |_=>false
 |.Kv _ f x g=>match FP op with
  |some (f',[y1,y2])=>f'==f&&aQ y1 x&&aQ y2 g
  |_=>false
 |.yield _ x xs=>match FN op with
  |some (y,ys)=>aQ y x&&lX ys xs
  |none=>false
 |.grd _ _ _=>false
def m1 (P:Program) (o:Oper) (v:gq):Bool:=o.dst==cO v&&mv P o.op v
section
variable {P:Program} {L:Nat} {σ σ':Nat→Nat} {T T':Tags} {st st' st1:St} {a:Act} {w w1:World} {o:Oper} {vo:gq}
 {rec:ak→St→Option (Ex × St)} {env:Env}
theorem zZ (h:aF L σ T st a w) (hm:m1 P o vo=true) (hp:plain vo st=some st'):Looks P L σ T st' a w o:=by
 simp only [m1,Bool.and_eq_true,beq_iff_eq] at hm
 obtain ⟨hd,hm⟩:=hm
 cases vo<;>simp only [mv] at hm
 case aj d x =>
  split at hm<;>try (cases hm;done)
  rename_i ho;exact y9 h hd (.inl ho) hm false hp
 case aC d x =>
  split at hm<;>try (cases hm;done)
  ·rename_i ho;exact y9 h hd (.inr ho) hm true hp
  ·rename_i ho;exact y9 h hd (.inl ho) hm true hp
 case pick d c x x2 =>
  split at hm<;>try (cases hm;done)
  rename_i ho
  simp only [Bool.and_eq_true] at hm;exact OJ h hd ho hm.1.1 hm.1.2 hm.2 hp
 case bin d b x x2 =>
  split at hm<;>try (cases hm;done)
  rename_i ho
  simp only [Bool.and_eq_true,beq_iff_eq] at hm
  obtain ⟨⟨rfl,hm1⟩,hm2⟩:=hm
  exact Uw h hd ho hm1 hm2 hp
 case Ou d neg n x x2 =>
  split at hm<;>try (cases hm;done)
  rename_i ho
  simp only [Bool.and_eq_true,beq_iff_eq] at hm
  obtain ⟨⟨⟨⟨h1,h2⟩,h3⟩,h4⟩,h5⟩:=hm
  exact Uu h hd ho h1 h2 h3 h4 h5 hp
 case eqb d neg x x2=>cases hm
 case eqm d neg ks x x2=>cases hm
 case un d b x =>
  split at hm<;>try (cases hm;done)
  rename_i ho
  simp only [Bool.and_eq_true,beq_iff_eq] at hm
  obtain ⟨rfl,h2⟩:=hm
  exact XI h hd ho h2 hp
 case conv d k x =>
  split at hm<;>try (cases hm;done)
  rename_i ho
  simp only [Bool.and_eq_true] at hm
  exact OO h hd ho hm.1.1 (KZ hm.1.2) (FM hm.2) hp
 case load d n x =>
  split at hm<;>try (cases hm;done)
  rename_i ho
  simp only [Bool.and_eq_true,beq_iff_eq] at hm
  exact OQ h hd ho hm.1 hm.2 hp
 case aU d x off =>
  split at hm
  case h_3=>cases hm
  case h_2 =>
   rename_i ho
   simp only [Bool.and_eq_true,beq_iff_eq] at hm
   obtain ⟨h1,rfl⟩:=hm
   exact (KJ h hd ho h1 hp).looks
  rename_i ho
  simp only [Bool.and_eq_true] at hm
  obtain ⟨h1,h2⟩:=hm
  split at h2<;>try (cases h2;done)
  rename_i fd hf
  simp only [Bool.and_eq_true,beq_iff_eq] at h2
  obtain ⟨rfl,h3⟩:=h2
  split at h3<;>try (cases h3;done)
  rename_i k hk
  exact OW h hd ho h1 hf hk hp
 case bC d sz x x2 =>
  split at hm<;>try (cases hm;done)
  rename_i ho
  simp only [Bool.and_eq_true] at hm
  obtain ⟨⟨h1,h2⟩,h3⟩:=hm
  split at h3<;>try (cases h3;done)
  rename_i e he
  exact OY h hd ho h1 h2 he (beq_iff_eq.1 h3) hp
 case xC d x x2 len sz =>
  split at hm<;>try (cases hm;done)
  rename_i ho
  simp only [Bool.and_eq_true] at hm
  obtain ⟨⟨h1,h2⟩,h3⟩:=hm
  split at h3<;>try (cases h3;done)
  rename_i l e he
  simp only [Bool.and_eq_true,beq_iff_eq] at h3
  obtain ⟨rfl,h4⟩:=h3
  exact OX h hd ho h1 h2 he h4 hp
 case fld d x off n=>cases hm
 case idx d x x2 len sz n=>cases hm
 case sli d sz x lo hi=>cases hm
 case ext d x i =>
  split at hm<;>try (cases hm;done)
  rename_i ho
  simp only [Bool.and_eq_true,beq_iff_eq] at hm
  obtain ⟨h1,rfl⟩:=hm
  exact UC h hd ho h1 hp
 case build d z m =>
  split at hm<;>try (cases hm;done)
  rename_i T0 l ho
  simp only [Bool.and_eq_true] at hm
  obtain ⟨⟨h1,h2⟩,h3⟩:=hm
  exact KR h hd (l:=l.toList) (by simpa using ho) h1 h2 (qc h3) hp
 case AA d z parts off t =>
  split at hm<;>try (cases hm;done)
  rename_i T0 l ho
  simp only [Bool.and_eq_true] at hm
  obtain ⟨⟨hm1,hm2⟩,UG⟩:=hm
  split at hm1
  case h_2=>cases hm1
  rename_i p hp0
  simp only [Bool.and_eq_true,beq_iff_eq] at hm1
  obtain ⟨⟨g1,g2⟩,g3⟩:=hm1
  simp only [plain] at hp
  replace hp:=bind_some hp
  obtain ⟨⟨cs,st1⟩,h1,hp⟩:=hp
  simp only at hp
  split at hp
  case h_2=>cases hp
  rename_i sz es e0
  split at hp
  case isFalse=>cases hp
  rename_i hoff
  rw [← Option.some.inj hp]
  have hl:l.toList.dropLast++[(p.1,p.2)]=l.toList:=by
   obtain ⟨ys,hys⟩:=List.getLast?_eq_some_iff.1 hp0
   rw [hys,List.dropLast_concat]
  exact (FI h hd (l:=l.toList.dropLast) (by rw [hl];simpa using ho) g1 g2 g3 hm2 (qc UG) h1 e0 hoff).looks
 case len d x =>
  split at hm<;>try (cases hm;done)
  rename_i b y T0 ho
  simp only [Bool.and_eq_true,beq_iff_eq] at hm
  obtain ⟨⟨rfl,h1⟩,h2⟩:=hm
  obtain ⟨e,he⟩:=Option.isSome_iff_exists.1 h2
  exact Uz h hd (Lc ho) h1 he hp
 case Ul d neg x =>
  split at hm<;>try (cases hm;done)
  rename_i ho
  simp only [Bool.and_eq_true,beq_iff_eq] at hm
  obtain ⟨⟨h1,h2⟩,h3⟩:=hm
  obtain ⟨e,he⟩:=Option.isSome_iff_exists.1 h3
  exact UA h hd ho h1 h2 he hp
 case sl3 d sz x x2 x3=>cases hm
 case cut d sz x=>cases hm
 case lens d x=>cases hm
 case Xp d n x =>
  split at hm<;>try (cases hm;done)
  rename_i ho
  simp only [Bool.and_eq_true] at hm
  obtain ⟨h1,h2⟩:=hm
  split at h2<;>try (cases h2;done)
  rename_i l e he
  simp only [Bool.and_eq_true,beq_iff_eq] at h2
  obtain ⟨rfl,h3⟩:=h2
  exact Uy h hd ho h1 he h3 hp
 case asz d n sz x=>cases hm
 case ldm d n x=>cases hm
 case OB d n x =>
  split at hm<;>try (cases hm;done)
  rename_i ho
  simp only [Bool.and_eq_true,beq_iff_eq] at hm
  exact Ux h hd ho hm.1 hm.2 hp
 case mvz d x=>cases hm
 case mn d mx x x2 =>
  split at hm<;>try (cases hm;done)
  rename_i b y y2 T0 T1 ho
  simp only [Bool.and_eq_true,beq_iff_eq] at hm
  obtain ⟨⟨rfl,h1⟩,h2⟩:=hm
  exact XL h hd (Cb ho) h1 h2 hp
 case RZ d f xs =>
  split at hm<;>try (cases hm;done)
  rename_i fn first ys ho
  simp only [Bool.and_eq_true] at hm
  obtain ⟨⟨h1,h2⟩,h3⟩:=hm
  have hfn:=Si h1
  subst hfn
  have hf0:first=#[]:=by simpa using h2
  subst hf0
  exact UE h hd (ys:=ys.toList) (by simpa using ho) h3 hp
 all_goals simp [plain] at hp
def rQ:gq→Bool
 |.alloc ..|.box ..|.jo ..|.make ..=>true
 |_=>false
theorem UM (h:aF L σ T st a w) (hm:m1 P o vo=true) (hc:∀ d f xs,vo≠.call d f xs) (hv:∀ d x xs,vo≠.jP d x xs) (hy:∀ d x xs,vo≠.yield d x xs) (hsr:∀ d f x g,vo≠.Kv d f x g) (hli:∀ d f x xs,vo≠.lin d f x xs) (hlv:∀ d g x xs,vo≠.linv d g x xs) (hp:act rec env vo st=some st'):Does P L σ T st.boxes.length st' a w o (rQ vo):=by
 simp only [m1,Bool.and_eq_true,beq_iff_eq] at hm
 obtain ⟨hd,hm⟩:=hm
 cases vo<;>simp only [mv] at hm
 case alloc d z =>
  split at hm<;>try (cases hm;done)
  rename_i ho;exact O4 h hd ho hm hp
 case box d x =>
  split at hm<;>try (cases hm;done)
  rename_i ho;exact XO h hd ho hm hp
 case jo d sz xs =>
  split at hm<;>try (cases hm;done)
  rename_i T0 len l ho
  simp only [Bool.and_eq_true,beq_iff_eq,decide_eq_true_eq] at hm
  obtain ⟨⟨⟨⟨h1,h2⟩,h3⟩,h4⟩,h5⟩:=hm
  exact UL h hd (l:=l.toList) (by simpa using ho) h1 h2 (by simpa using h3) h4 h5 hp
 case make d z x x2 =>
  split at hm<;>try (cases hm;done)
  rename_i T0 y y2 ho
  simp only [Bool.and_eq_true] at hm
  obtain ⟨⟨⟨h1,h2⟩,h3⟩,h4⟩:=hm
  split at h4<;>try (cases h4;done)
  rename_i e he
  exact UH h hd ho h1 h2 h3 he h4 hp
 case app d sz x x2 =>
  split at hm<;>try (cases hm;done)
  rename_i b y y2 T0 T1 ho
  simp only [Bool.and_eq_true,beq_iff_eq] at hm
  obtain ⟨⟨⟨⟨rfl,rfl⟩,h1⟩,h2⟩,h3⟩:=hm
  exact XT h hd (Cb ho) h1 h2 h3 hp
 case apf d sz x x2=>cases hm
 case apb d x x2=>cases hm
 case cpy d sz x x2=>cases hm
 case store dd n x x2 =>
  split at hm<;>try (cases hm;done)
  rename_i T0 y y2 ho
  simp only [Bool.and_eq_true,beq_iff_eq] at hm
  obtain ⟨⟨⟨h0,h1⟩,h2⟩,h3⟩:=hm
  have hdn:=Option.isNone_iff_eq_none.1 h0
  subst hdn
  simp only [act] at hp
  replace hp:=bind_some hp
  obtain ⟨⟨v,own,st1⟩,g1,hp⟩:=hp
  simp only at hp
  split at hp
  case h_3=>cases hp
  case h_1 p j e =>
   replace hp:=bind_some hp
   obtain ⟨bx,g2,hp⟩:=hp
   split at hp
   ·cases hp
   ·rename_i hc
    simp only [Bool.or_eq_true,Bool.not_eq_true',decide_eq_false_iff_not,not_or,Bool.not_eq_true,Decidable.not_not] at hc
    obtain ⟨⟨c1,c2⟩,c3⟩:=hc
    obtain ⟨s1,s2⟩:=EM (P:=P) h hd ho h1 h2 h3 g1 e g2 c1 c2 c3
    cases own with
    |false =>
     have e2:some st'=some { st1 with boxes:=st1.boxes.set p { bx with cs:=bx.cs.take j++v.cells.map .pv++bx.cs.drop (j+n) } }:=by rw [← hp];cases v<;>rfl
     rw [Option.some.inj e2];exact s1 rfl
    |true =>
     obtain ⟨_,_,_,_,_,k5⟩:=h.consume h2 g1
     obtain ⟨sz,es,m,rfl,_⟩:=k5 rfl
     have hp2:=Option.some.inj hp
     rw [← hp2];exact s2 sz es rfl rfl
  case h_2 r i j e =>
   replace hp:=bind_some hp
   obtain ⟨⟨sz,es⟩,g2,hp⟩:=hp
   replace hp:=bind_some hp
   obtain ⟨el,g3,hp⟩:=hp
   simp only at hp g3
   split at hp
   case isFalse=>cases hp
   rename_i g4
   replace hp:=bind_some hp
   obtain ⟨cs,g5,hp⟩:=hp
   replace hp:=bind_some hp
   obtain ⟨e',g6,hp⟩:=hp
   rw [← Option.some.inj hp]
   exact Ia h hd ho h1 h2 h3 g1 e g2 g3 g4 g5 g6
 case call d f xs=>exact absurd rfl (hc d f xs)
 case jP d x xs=>exact absurd rfl (hv d x xs)
 case yield d x xs=>exact absurd rfl (hy d x xs)
 case Kv d f x g=>exact absurd rfl (hsr d f x g)
 case lin d f x xs=>exact absurd rfl (hli d f x xs)
 case linv d g x xs=>exact absurd rfl (hlv d g x xs)
 case bxw d x =>
  split at hm<;>try (cases hm;done)
  rename_i ho
  simp only [act] at hp
  split at hp
  case h_2=>cases hp
  rename_i m
  split at hp
  case h_2=>cases hp
  rename_i l e
  obtain ⟨cs,hcs,hp1⟩:=bind_some hp
  clear hp
  have hp:=Option.some.inj hp1
  subst hp
  obtain ⟨nx,v,w1,σ1,T1,q1,q2,q3,q4,q5,_⟩:=XZ h hd ho hm e hcs
  exact ⟨nx,v,w1,σ1,T1,q1,q2,q3,q4,q5,fun e=>by cases e⟩
 case Xq n x x2 =>
  split at hm<;>try (cases hm;done)
  rename_i T0 y y2 ho
  simp only [Bool.and_eq_true,beq_iff_eq] at hm
  obtain ⟨⟨h1,h2⟩,h3⟩:=hm
  simp only [act] at hp
  split at hp
  case h_2=>cases hp
  rename_i m
  split at hp
  case h_3=>cases hp
  case h_1 =>
   rename_i l e0
   split at hp
   case h_2=>cases hp
   rename_i p j e1
   replace hp:=bind_some hp
   obtain ⟨bx,g2,hp⟩:=hp
   replace hp:=bind_some hp
   obtain ⟨cs,g3,hp⟩:=hp
   split at hp
   ·cases hp
   ·rename_i hc
    simp only [Bool.or_eq_true,Bool.not_eq_true',decide_eq_false_iff_not,not_or,Bool.not_eq_true,Decidable.not_not] at hc
    rw [← Option.some.inj hp]
    exact XV h hd (by simpa using ho) h1 h2 h3 e0 e1 g2 hc.1.1 g3 hc.1.2 hc.2
  case h_2 =>
   rename_i zs e0
   split at hp
   case h_2=>cases hp
   rename_i p j e1
   replace hp:=bind_some hp
   obtain ⟨bx,g2,hp⟩:=hp
   split at hp
   ·cases hp
   ·rename_i hc
    simp only [Bool.or_eq_true,Bool.not_eq_true',decide_eq_false_iff_not,not_or,Bool.not_eq_true,Decidable.not_not] at hc
    rw [← Option.some.inj hp]
    exact XW h hd (by simpa using ho) h1 h2 h3 e0 e1 g2 hc.1.1 hc.1.2 hc.2
 all_goals simp [act] at hp
end
end Go.Proofs.YtaaokejjmdbfaaaDoor

namespace Go.Proofs.YtaaokejjmdbfaaaDoor
open Go.RowKit
section
variable {P:Program} {L:Nat} {σ σ':Nat→Nat} {T T' T1:Tags} {st st' st1:St} {a:Act} {w w1:World} {o:Oper} {vo:gq} {y:Operand} {x:bI}
 {rec:ak→St→Option (Ex × St)} {env:Env}
structure jR (T T':Tags) (st st':St):Prop where
 keep:∀ b,T' b=T b∨(T b≠.other∧T' b=.ro)
 rows:∀ r sz es,st.row r=some (sz,es)→st'.row r=some (sz,es)∨∀ b,T b=.row r→T' b=.ro
 boxes:∀ (p:Nat) bx,st.boxes[p]?=some bx→(∃ bx',st'.boxes[p]?=some bx'∧bx'.fz=bx.fz)∨((∀ b,T b=.box p→T' b=.ro)∧∀ b j,T b=.row (.cell p j)→T' b=.ro)
 slots:∀ x,st'.get x=st.get x∨∃ sz es,st.get x=.row sz es∧st'.get x=.pv (.list sz es)
 gone:∀ n sz es,st.get (.t n)=.row sz es→st'.get (.t n)=.pv (.list sz es)→∀ b,T b=.row (.slot n)→T' b=.ro
theorem jR.refl (T:Tags) (st:St):jR T T st st:=⟨fun _=>.inl rfl,fun _ _ _ h=>.inl h,fun _ bx h=>.inl ⟨bx,h,rfl⟩,fun _=>.inl rfl,fun n sz es h1 h2=>by rw [h1] at h2;cases h2⟩
theorem jR.still (h:jR T T' st st'):Still T T':=⟨fun b e=>by rcases h.keep b with k|k;rw [k];exact e;exact k.2,fun b e=>by rcases h.keep b with k|k;rw [k];exact e;exact absurd e k.1⟩
theorem jR.O8 (h:jR T T' st st') {r:Root} {b:Nat} (hb:T b=.row r):T' b=.row r∨T' b=.ro:=by
 rcases h.keep b with k|k
 ·rw [k];exact .inl hb
 ·exact .inr k.2
def Bf (x:bI):AV→Option Root
 |.row _ _=>match x with
  |.t n=>some (.slot n)
  |_=>none
 |.ref r _ _=>some r
 |.nI r _ _=>some r
 |_=>none
def Ie:AV→Option Nat
 |.aA p _=>some p
 |_=>none
structure Needs (T T':Tags) (x:bI) (v:AV):Prop where
 root:∀ r,Bf x v=some r→∀ b,T b=.row r→T' b=.ro
 box:∀ p,Ie v=some p→(∀ b,T b=.box p→T' b=.ro)∧∀ b j,T b=.row (.cell p j)→T' b=.ro
theorem Needs.still {v:AV} (h:Needs T T' x v) (k:Still T' T1):Needs T T1 x v :=
 ⟨fun r e b hb=>k.ro b (h.root r e b hb),fun p e=>⟨fun b hb=>k.ro b ((h.box p e).1 b hb),fun b j hb=>k.ro b ((h.box p e).2 b j hb)⟩⟩
theorem EO {r q:Root} (h:q≠r) {sz:Nat} {es:List PV} (hq:st.row q=some (sz,es)):(st.freeze r).row q=some (sz,es):=by
 unfold St.freeze
 cases hr:st.row r with
 |none=>exact hq
 |some p =>
  obtain ⟨s,l⟩:=p
  cases r with
  |slot t=>exact (fG h).trans hq
  |part t i=>exact hq
  |cell o j =>
   cases q with
   |slot t=>simp only [St.setCell];split<;>exact hq
   |part t i=>simp [St.row] at hq
   |cell o' j' =>
    obtain ⟨bx,h1,h2,h3⟩:=dL hq
    obtain ⟨bx2,g1,g2,g3⟩:=dL hr
    simp only [St.setCell,g1,St.row,List.getElem?_set]
    by_cases ho:o=o'
    ·subst ho
     rw [g1] at h1;cases h1
     have hj:j≠j':=fun e=>h (by rw [e])
     simp only [if_true,if_pos (List.getElem?_eq_some_iff.1 g1).1,h2,Bool.false_eq_true,if_false,List.getElem?_set,if_neg hj,h3]
    ·simp only [if_neg ho,h1,h2,Bool.false_eq_true,if_false,h3]
theorem Ce (r:Root) (x:bI):(st.freeze r).get x=st.get x∨∃ n sz es,x=.t n∧r=.slot n∧st.get x=.row sz es∧(st.freeze r).get x=.pv (.list sz es):=by
 cases x with
 |c v=>exact .inl rfl
 |nil s=>exact .inl rfl
 |t n =>
  unfold St.freeze
  cases hr:st.row r with
  |none=>exact .inl rfl
  |some p =>
   obtain ⟨s,l⟩:=p
   cases r with
   |part t i=>exact .inl rfl
   |cell o j=>left;simp only [St.setCell];split<;>rfl
   |slot t =>
    have hs:=fK hr
    by_cases ht:t=n
    ·subst ht
     refine .inr ⟨t,s,l,rfl,rfl,by simp [St.get,List.getD,hs],?_⟩
     simp [St.get,St.put,List.getD,List.getElem?_set,(List.getElem?_eq_some_iff.1 hs).1]
    ·left
     simp [St.get,St.put,List.getD,List.getElem?_set,ht]
theorem Ig (r:Root) {p:Nat} {bx:Box} (hp:st.boxes[p]?=some bx):∃ bx',(st.freeze r).boxes[p]?=some bx'∧bx'.fz=bx.fz:=by
 unfold St.freeze
 cases hr:st.row r with
 |none=>exact ⟨bx,hp,rfl⟩
 |some q =>
  obtain ⟨s,l⟩:=q
  cases r with
  |slot t=>exact ⟨bx,hp,rfl⟩
  |part t i=>exact ⟨bx,hp,rfl⟩
  |cell o j =>
   obtain ⟨bx2,g1,g2,g3⟩:=dL hr
   simp only [St.setCell,g1,List.getElem?_set]
   by_cases ho:o=p
   ·subst ho
    rw [g1] at hp;cases hp
    exact ⟨{ bx with cs:=bx.cs.set j (.pv (.list s l)) },by rw [if_pos rfl,if_pos (List.getElem?_eq_some_iff.1 g1).1],rfl⟩
   ·exact ⟨bx,by rw [if_neg ho];exact hp,rfl⟩
theorem jR.freeze (h:jR T T' st st') (hs:aF L σ T' st' a w) (r:Root):∃ T1,jR T T1 st (st'.freeze r)∧aF L σ T1 (st'.freeze r) a w∧Still T' T1∧∀ sz es,st.row r=some (sz,es)→∀ b,T b=.row r→T1 b=.ro:=by
 cases hr:st'.row r with
 |none =>
  have e:st'.freeze r=st':=by unfold St.freeze;rw [hr]
  rw [e]
  refine ⟨T',h,hs,Still.refl _,fun sz es e b hb=>?_⟩
  rcases h.rows r sz es e with k|k
  ·rw [hr] at k;cases k
  ·exact k b hb
 |some p =>
  obtain ⟨s,l⟩:=p
  obtain ⟨T1,k1,k2,k3,k4,k5⟩:=hs.freeze r
  have hro:=k4 s l hr
  refine ⟨T1,⟨fun b=>?_,fun q sz es e=>?_,fun p bx e=>?_,fun x=>?_,fun n sz es e1 e2 b hb=>?_⟩,k1,k2,fun sz es e b hb=>?_⟩
  ·-- tags turn to 'ro' alone
   rcases h.keep b with g|g
   ·cases hT:T b with
    |ro=>left;exact k2.ro b (by rw [g,hT])
    |other=>left;exact k2.other b (by rw [g,hT])
    |row q =>
     by_cases hq:q=r
     ·subst hq;right;exact ⟨by simp,hro b (by rw [g,hT])⟩
     ·left;exact k3 b q hq (by rw [g,hT])
    |box o=>left;exact k5 b o (by rw [g,hT])
   ·right;exact ⟨g.1,k2.ro b g.2⟩
  ·by_cases hq:q=r
   ·subst hq
    right;intro b hb
    rcases h.O8 hb with g|g
    ·exact hro b g
    ·exact k2.ro b g
   ·rcases h.rows q sz es e with g|g
    ·left;exact EO hq g
    ·right;exact fun b hb=>k2.ro b (g b hb)
  ·rcases h.boxes p bx e with ⟨bx',g1,g2⟩|⟨g1,g2⟩
   ·obtain ⟨aj2,q1,q2⟩:=Ig r g1
    exact .inl ⟨aj2,q1,q2.trans g2⟩
   ·exact .inr ⟨fun b hb=>k2.ro b (g1 b hb),fun b j hb=>k2.ro b (g2 b j hb)⟩
  ·rcases Ce (st:=st') r x with g|⟨n,sz,es,rfl,rfl,g1,g2⟩
   ·rw [g];exact h.slots x
   ·rcases h.slots (.t n) with q|⟨s2,l2,q1,q2⟩
    ·exact .inr ⟨sz,es,q ▸ g1,g2⟩
    ·rw [q2] at g1;cases g1
  ·rcases Ce (st:=st') r (.t n) with g|⟨n',sz',es',e3,rfl,g1,g2⟩
   ·rw [g] at e2;exact k2.ro b (h.gone n sz es e1 e2 b hb)
   ·cases e3
    rcases h.O8 hb with g|g
    ·exact hro b g
    ·exact k2.ro b g
  ·rcases h.O8 hb with g|g
   ·exact hro b g
   ·exact k2.ro b g
theorem jR.aV (h:jR T T' st st') (hs:aF L σ T' st' a w) (p:Nat):∃ T1,jR T T1 st (st'.aV p)∧aF L σ T1 (st'.aV p) a w∧Still T' T1∧((st.boxes[p]?).isSome=true→(∀ b,T b=.box p→T1 b=.ro)∧∀ b j,T b=.row (.cell p j)→T1 b=.ro):=by
 have hS:=hs.aV p
 cases hp:st'.boxes[p]? with
 |none =>
  have e:st'.aV p=st':=by unfold St.aV;rw [hp]
  rw [e]
  refine ⟨T',h,hs,Still.refl _,fun hx=>?_⟩
  obtain ⟨bx,hb⟩:=Option.isSome_iff_exists.1 hx
  rcases h.boxes p bx hb with ⟨bx',g1,_⟩|g
  ·rw [hp] at g1;cases g1
  ·exact g
 |some bx0 =>
  rw [hp] at hS
  simp only [Option.isSome_some,if_true] at hS
  have e:st'.aV p={ st' with boxes:=st'.boxes.set p ⟨true,bx0.cs.map BV.frozen⟩ }:=by unfold St.aV;rw [hp]
  have hpl:p<st'.boxes.length:=(List.getElem?_eq_some_iff.1 hp).1
  have hbox:∀ b,T b=.box p→gI T' p b=.ro:=fun b hb=>by
   rcases h.keep b with k|k
   ·exact zi (by rw [k,hb])
   ·exact gJ k.2
  have hcell:∀ b j,T b=.row (.cell p j)→gI T' p b=.ro:=fun b j hb=>by
   rcases h.keep b with k|k
   ·exact wO (by rw [k,hb])
   ·exact gJ k.2
  refine ⟨gI T' p,⟨fun b=>?_,fun q sz es e1=>?_,fun q bx e1=>?_,fun x=>?_,fun n sz es e1 e2 b hb=>?_⟩,hS,Still.gI T' p,fun _=>⟨hbox,hcell⟩⟩
  ·rcases h.keep b with g|g
   ·cases hT:T b with
    |ro=>left;exact gJ (by rw [g,hT])
    |other=>left;exact uh (by rw [g,hT])
    |box o =>
     by_cases ho:o=p
     ·subst ho;right;exact ⟨by simp,hbox b hT⟩
     ·left;exact Fz ho (by rw [g,hT])
    |row q =>
     by_cases hq:∃ j,q=.cell p j
     ·obtain ⟨j,rfl⟩:=hq;right;exact ⟨by simp,hcell b j hT⟩
     ·left;exact vw (fun j e=>hq ⟨j,e⟩) (by rw [g,hT])
   ·right;exact ⟨g.1,gJ g.2⟩
  ·by_cases hq:∃ j,q=.cell p j
   ·obtain ⟨j,rfl⟩:=hq;right;exact fun b hb=>hcell b j hb
   ·rcases h.rows q sz es e1 with g|g
    ·left
     rw [e]
     cases q with
     |slot t=>exact g
     |part t i=>exact g
     |cell o j =>
      have ho:p≠o:=fun e=>hq ⟨j,by rw [e]⟩
      simp only [St.row,List.getElem?_set,if_neg ho] at g ⊢
      exact g
    ·right;exact fun b hb=>gJ (g b hb)
  ·by_cases hq:q=p
   ·subst hq;exact .inr ⟨hbox,hcell⟩
   ·rcases h.boxes q bx e1 with ⟨bx',g1,g2⟩|⟨g1,g2⟩
    ·exact .inl ⟨bx',by rw [e];simp only [List.getElem?_set,if_neg (Ne.symm hq)];exact g1,g2⟩
    ·exact .inr ⟨fun b hb=>gJ (g1 b hb),fun b j hb=>gJ (g2 b j hb)⟩
  ·have:(st'.aV p).get x=st'.get x:=by rw [e];cases x<;>rfl
   rw [this];exact h.slots x
  ·have:(st'.aV p).get (.t n)=st'.get (.t n):=by rw [e];rfl
   rw [this] at e2
   exact gJ (h.gone n sz es e1 e2 b hb)
def Held (st:St) (x:bI) (v:AV):Prop:=(∀ r,Bf x v=some r→(st.row r).isSome=true)∧∀ p,Ie v=some p→(st.boxes[p]?).isSome=true
theorem jR.arg1 (h:jR T T' st st') (hs:aF L σ T' st' a w) (x:bI) {v:AV} (hv:Held st x v):∃ T1,jR T T1 st (st'.bg x v)∧aF L σ T1 (st'.bg x v) a w∧Still T' T1∧Needs T T1 x v:=by
 have none':Bf x v=none→Ie v=none→Needs T T' x v:=fun h1 h2=>Needs.mk (fun r e=>(by rw [h1] at e;cases e)) (fun p e=>(by rw [h2] at e;cases e))
 have root:∀ r,Bf x v=some r→Ie v=none→∃ T1,jR T T1 st (st'.freeze r)∧aF L σ T1 (st'.freeze r) a w∧Still T' T1∧Needs T T1 x v:=fun r e1 e2=>by
  obtain ⟨T1,k1,k2,k4,k3⟩:=h.freeze hs r
  obtain ⟨⟨sz,es⟩,hr⟩:=Option.isSome_iff_exists.1 (hv.1 r e1)
  exact ⟨T1,k1,k2,k4,Needs.mk (fun q e b hb=>(by rw [e1] at e;cases e;exact k3 sz es hr b hb)) (fun p e=>(by rw [e2] at e;cases e))⟩
 unfold St.bg
 cases v with
 |row sz es =>
  cases x with
  |t n=>exact root (.slot n) rfl rfl
  |c v=>exact ⟨T',h,hs,Still.refl _,none' rfl rfl⟩
  |nil s=>exact ⟨T',h,hs,Still.refl _,none' rfl rfl⟩
 |ref r off len=>exact root r rfl rfl
 |nI r i j=>exact root r rfl rfl
 |aA p j =>
  obtain ⟨T1,k1,k2,k4,k3⟩:=h.aV hs p
  exact ⟨T1,k1,k2,k4,Needs.mk (fun r e=>(by cases e)) (fun q e=>(by cases e;exact k3 (hv.2 p rfl)))⟩
 |pv v=>exact ⟨T',h,hs,Still.refl _,none' rfl rfl⟩
 |fn f l=>exact ⟨T',h,hs,Still.refl _,none' rfl rfl⟩
 |jO k l=>exact ⟨T',h,hs,Still.refl _,none' rfl rfl⟩
 |EG s l=>exact ⟨T',h,hs,Still.refl _,none' rfl rfl⟩
 |pK=>exact ⟨T',h,hs,Still.refl _,none' rfl rfl⟩
 |any=>exact ⟨T',h,hs,Still.refl _,none' rfl rfl⟩
theorem jR.X0:∀ (l:List AV) {T':Tags} {st':St},jR T T' st st'→aF L σ T' st' a w→(∀ v∈l,Held st (.c .void) v)→∃ T1,jR T T1 st (l.foldl (fun s v=>s.bg (.c .void) v) st')∧aF L σ T1 (l.foldl (fun s v=>s.bg (.c .void) v) st') a w∧Still T' T1∧∀ v∈l,Needs T T1 (.c .void) v
 |[],T',st',h,hs,_=>⟨T',h,hs,Still.refl _,fun v hv=>by cases hv⟩
 |v :: l,T',st',h,hs,hv=>by
  obtain ⟨T1,k1,k2,k4,k3⟩:=h.arg1 hs (.c .void) (hv v List.mem_cons_self)
  obtain ⟨T2,q1,q2,q3,q4⟩:=jR.X0 l k1 k2 (fun v hv'=>hv v (List.mem_cons_of_mem _ hv'))
  refine ⟨T2,q1,q2,k4.trans q3,fun u hu=>?_⟩
  rcases List.mem_cons.1 hu with rfl|hu
  ·exact k3.still q3
  ·exact q4 u hu
def uj (T T':Tags) (x:bI):AV→Prop
 |.fn _ caps=>∀ v∈caps,Needs T T' (.c .void) v
 |v=>Needs T T' x v
def FQ (st:St) (x:bI):AV→Prop
 |.fn _ caps=>∀ v∈caps,Held st (.c .void) v
 |v=>Held st x v
theorem uj.still {v:AV} (h:uj T T' x v) (k:Still T' T1):uj T T1 x v:=by
 cases v<;>first|exact Needs.still h k|exact fun v hv=>(h v hv).still k
theorem jR.arg (h:jR T T' st st') (hs:aF L σ T' st' a w) (x:bI) (hv:FQ st x (st.get x)):∃ T1,jR T T1 st (st'.bT x)∧aF L σ T1 (st'.bT x) a w∧Still T' T1∧uj T T1 x (st.get x):=by
 rcases h.slots x with e|⟨sz,es,e1,e2⟩
 ·unfold St.bT
  rw [e]
  cases hg:st.get x with
  |fn f caps =>
   rw [hg] at hv
   exact h.X0 caps hs hv
  |_ =>
   rw [hg] at hv
   exact h.arg1 hs x hv
 ·unfold St.bT
  rw [e1,e2]
  cases x with
  |t n=>exact ⟨T',h,hs,Still.refl _,Needs.mk (fun r e b hb=>(by cases e;exact h.gone n sz es e1 e2 b hb)) (fun p e=>(by cases e))⟩
  |c v=>cases e1
  |nil s=>cases e2
theorem jR.args:∀ (xs:List bI) {T':Tags} {st':St},jR T T' st st'→aF L σ T' st' a w→(∀ x∈xs,FQ st x (st.get x))→∃ T1,jR T T1 st (xs.foldl St.bT st')∧aF L σ T1 (xs.foldl St.bT st') a w∧Still T' T1∧∀ x∈xs,uj T T1 x (st.get x)
 |[],T',st',h,hs,_=>⟨T',h,hs,Still.refl _,fun v hv=>by cases hv⟩
 |x :: xs,T',st',h,hs,hv=>by
  obtain ⟨T1,k1,k2,k4,k3⟩:=h.arg hs x (hv x List.mem_cons_self)
  obtain ⟨T2,q1,q2,q3,q4⟩:=jR.args xs k1 k2 (fun v hv'=>hv v (List.mem_cons_of_mem _ hv'))
  refine ⟨T2,q1,q2,k4.trans q3,fun u hu=>?_⟩
  rcases List.mem_cons.1 hu with rfl|hu
  ·exact k3.still q3
  ·exact q4 u hu
theorem zq {v:AV} {p:PV} {fl:Bool} (h:st.snap v=some (p,fl)) (hx:∀ sz es,v=.row sz es→∃ n,x=.t n∧st.get x=v∨x=.c .void∨∃ s,x=.nil s):Held st x v:=by
 unfold St.snap at h
 split at h
 ·exact ⟨fun r e=>(by cases e),fun p e=>(by cases e)⟩
 ·rename_i sz es
  refine ⟨fun r e=>?_,fun p e=>(by cases e)⟩
  obtain ⟨n,⟨rfl,hg⟩|rfl|⟨s,rfl⟩⟩:=hx sz es rfl
  ·cases e
   have:=kN hg (by simp)
   simp [St.row,this]
  ·cases e
  ·cases e
 ·rename_i r off len
  refine ⟨fun q e=>?_,fun p e=>(by cases e)⟩
  cases e
  split at h
  ·rename_i hr;rw [hr];rfl
  ·cases h
 ·rename_i o j
  refine ⟨fun q e=>(by cases e),fun p e=>?_⟩
  cases e
  split at h
  ·rename_i hb;rw [hb];rfl
  ·cases h
 ·rename_i r i j
  refine ⟨fun q e=>?_,fun p e=>(by cases e)⟩
  cases e
  split at h
  ·rename_i hr;rw [hr];rfl
  ·cases h
 ·cases h
theorem aF.snap (h:aF L σ T st a w) {t:Nat} {v:AV} {u:Value} (hv:jy L σ T st a w t v u) (ht:∀ sz es,v=.row sz es→x=.t t) {p:PV} {fl:Bool} (hs:st.snap v=some (p,fl)) (hst:Still T T1) (hn:Needs T T1 x v):ay (fun b=>T1 b=.ro) w p u:=by
 have hro:∀ b,T b=.ro→b<w.heap.size→T1 b=.ro∧w.heap[b]?=w.heap[b]?:=fun b e _=>⟨hst.ro b e,rfl⟩
 unfold St.snap at hs
 split at hs
 ·cases hs;exact ay.frame hro hv
 ·rename_i sz es
  cases hs
  have hx:=ht sz es rfl
  subst hx
  exact aH.list (hn.root _ rfl) hst.ro hv
 ·rename_i r off len
  split at hs
  ·rename_i sz es hr
   split at hs
   ·rename_i hl
    cases hs
    exact h.H6 hr (hv.2 sz es hr) hl (hn.root _ rfl) hst.ro
   ·cases hs
  ·cases hs
 ·rename_i o j
  split at hs
  ·rename_i bx hb
   cases hs
   obtain ⟨_,rfl⟩:=hv
   have hbx:=h.boxes o bx hb
   have hmem:=hbx.mem (T':=T1) (fun j b e=>(hn.box _ rfl).2 b j e) hst.ro
   have htag:T1 (σ o)=.ro:=by
    obtain ⟨_,_,_,_,h3,_⟩:=hbx
    split at h3
    ·exact hst.ro _ h3
    ·exact (hn.box _ rfl).1 _ h3
   have:=ay.rM (off:=0) j htag hbx.Hz hmem
   rwa [Nat.zero_add] at this
  ·cases hs
 ·rename_i r i j
  split at hs
  ·rename_i q es hr
   split at hs
   ·rename_i e he
    cases hs
    obtain ⟨b,rfl,h1,h2,h3⟩:=h.XJ hr he (hv.2 _ es hr)
    exact ay.rM j (hn.root _ rfl b h1) h2 (h3.mono hst.ro)
   ·cases hs
  ·cases hs
 ·cases hs
end
end Go.Proofs.YtaaokejjmdbfaaaDoor

namespace Go.Proofs.YtaaokejjmdbfaaaDoor
open Go.RowKit
def globs:List (Nat × List PV):=[(0,Lib.deBruijn64tab.map fun (n:Nat)=>PV.int .u8 (n:Int))]
def jS (T:Tags) (w:World):Prop:=∀ p∈globs,ay (fun b=>T b=.ro) w (.bQ p.2 0) (.pointer (some ⟨p.1,0,none⟩))
theorem jS.frame {T T':Tags} {w w':World} (h:jS T w) (hf:∀ b,T b=.ro→b<w.heap.size→T' b=.ro∧w'.heap[b]?=w.heap[b]?):jS T' w':=fun p hp=>(h p hp).frame hf
theorem jS.nM {T T':Tags} {w w':World} (h:jS T w) (hr:∀ b,T b=.ro→T' b=.ro) (hs:∀ b,b<w.heap.size→T b=.ro→w'.heap[b]?=w.heap[b]?):jS T' w':=h.frame fun b e hb=>⟨hr b e,hs b hb e⟩
end Go.Proofs.YtaaokejjmdbfaaaDoor

namespace Go.Proofs.YtaaokejjmdbfaaaDoor
open Go.RowKit
def R1 (T:Tags) (w:World) (i:Nat):oJ→Value→Prop
 |(.list sz es,true),u=>aH T w (.part 0 i) sz es u
 |(.agg cs,true),u=>∃ arr:Array Value,u=.agg arr∧arr.size=cs.length∧∀ (k:Nat) x v,cs[k]?=some x→arr[k]?=some v→iy T w 0 k (Un x) v
 |(x,_),u=>ay (fun b=>T b=.ro) w x u
def rW (T:Tags) (w:World) (rs:List oJ) (v:Value):Prop :=
 ∃ arr:Array Value,arr.size=rs.length∧v=(if arr.size=1 then arr.getD 0 undef else .tuple arr)∧∀ (i:Nat) r u,rs[i]?=some r→arr[i]?=some u→R1 T w i r u
def lZ (P:Program) (f:Nat) (args:List PV) (rs:List oJ):Prop :=
 ∀ (T0:Tags) (w:World) (vs:List Value),(∀ b,T0 b=.ro∨T0 b=.other)→(∀ b,w.heap.size≤b→T0 b=.other)→vs.length=args.length→(∀ (i:Nat) x v,args[i]?=some x→vs[i]?=some v→ay (fun b=>T0 b=.ro) w x v)→jS T0 w →
  Calls P f vs.toArray w (fun e w'=>∃ v T',e=.returned v∧Below w.heap.size w w'∧(∀ b,b<w.heap.size→T' b=T0 b)∧(∀ b,w'.heap.size≤b→T' b=.other)∧rW T' w' rs v)
def SB (P:Program) (f:Nat) (args:List PV) (t:Nat) (n:Int):Prop :=
 ∀ (T0:Tags) (w:World) (vs:List Value),(∀ b,T0 b=.ro∨T0 b=.other)→(∀ b,w.heap.size≤b→T0 b=.other)→vs.length=args.length→(∀ (i:Nat) x v,args[i]?=some x→vs[i]?=some v→ay (fun b=>T0 b=.ro) w x v)→jS T0 w →
  Calls P f vs.toArray w (fun e w'=>e=.panicked [{ v:=.iface t (.int .i64 n),recovered:=false }]∧Below w.heap.size w w')
def abU (T:Tags) (w:World) (v:Value):ku→Prop
 |.row sz es=>aH T w (.slot 0) sz es v
 |.own l=>∃ arr:Array Value,v=.agg arr∧arr.size=l.length∧∀ (k:Nat) x u,l[k]?=some x→arr[k]?=some u→iy T w 0 k x u
 |.box cs=>∃ b,v=.pointer (some ⟨b,0,none⟩)∧iG T w b 0 ⟨false,cs.map .pv⟩
def X5 (T:Tags) (w:World) (v:Value):Option (List PV)→Prop
 |none=>True
 |some cs=>∀ b,v=.pointer (some ⟨b,0,none⟩)→T b=.other∧∃ arr E,w.heap[b]?=some (.cells arr E (0,0))∧arr.size=cs.length∧∀ (j:Nat) x u,cs[j]?=some x→arr[j]?=some u→u.oneCell'=true∧ay (fun b=>T b=.ro) w x u
def SC (P:Program) (f:Nat) (x:ku) (args:List PV) (rs:List oJ) (out:Option (List PV)):Prop :=
 ∀ (T0:Tags) (w:World) (v:Value) (vs:List Value),(∀ b,w.heap.size≤b→T0 b=.other)→abU T0 w v x→vs.length=args.length→(∀ (i:Nat) x v,args[i]?=some x→vs[i]?=some v→ay (fun b=>T0 b=.ro) w x v)→jS T0 w →
  Calls P f (v :: vs).toArray w (fun e w'=>∃ u T',e=.returned u∧w.heap.size≤w'.heap.size∧w'.os=w.os∧w'.tape=w.tape∧w'.output=w.output∧(∀ b,b<w.heap.size→(T0 b=.ro∨T0 b=.other)→w'.heap[b]?=w.heap[b]?∧T' b=T0 b)∧(∀ b,w'.heap.size≤b→T' b=.other)∧rW T' w' rs u∧X5 T' w' v out)
def O9 (P:Program) (f:Nat) (h:PV→List PV→Option (List PV)):Prop :=
 ∀ (c:PV) (sz:Nat) (es es':List PV),h c es=some es'→∀ (T:Tags) (w:World) (r:Root) (v cv:Value),(∀ b,w.heap.size≤b→T b=.other)→aH T w r sz es v→ay (fun b=>T b=.ro) w c cv →
  Calls P f #[v,cv] w (fun e w'=>∃ u,e=.returned u∧w.heap.size≤w'.heap.size∧w'.os=w.os∧w'.tape=w.tape∧w'.output=w.output∧(∀ b,b<w.heap.size→T b≠.row r→w'.heap[b]?=w.heap[b]?)∧aH T w' r sz es' v)
section
variable {P:Program} {L:Nat} {σ σ':Nat→Nat} {T T' T1 T2:Tags} {st st' st1:St} {a:Act} {w w1:World} {o:Oper} {vo:gq} {y:Operand} {x:bI} {d:Nat}
 {rec:ak→St→Option (Ex × St)} {env:Env}
theorem aF.more (h:aF L σ T st a w) (hT:∀ b,T b≠.other→T2 b=T b) (hf:∀ b,w.heap.size≤b→T2 b=.other):aF L σ T2 st a w:=by
 have hq:∀ b q,q≠.other→T b=q→T2 b=q:=fun b q hq e=>by rw [hT b (by rw [e];exact hq),e]
 have hw:∀ b,T b=.ro→b<w.heap.size→T2 b=.ro∧w.heap[b]?=w.heap[b]?:=fun b e _=>⟨hq b _ (by simp) e,rfl⟩
 refine ⟨h.size,fun t av v ht hv=>?_,fun p bx ho=>?_,hf⟩
 ·exact (h.slots t av v ht hv).keep hw (fun _ _ _ b e _=>⟨hq b _ (by simp) e,rfl⟩) (fun _ _ _ _ b e _=>⟨hq b _ (by simp) e,rfl⟩) (fun _ _ _ s l e=>⟨⟨l,e⟩,rfl⟩) (Nat.le_refl _) (fun _ _=>rfl)
 ·have hb:=h.boxes p bx ho
  have hT':T2 (σ p)=T (σ p):=by
   obtain ⟨_,_,_,_,h3,_⟩:=hb
   exact hT _ (by rw [h3];split<;>simp)
  exact hb.frame ⟨hT',rfl⟩ (fun j b e _=>⟨hq b _ (by simp) e,rfl⟩) hw
theorem Ci {ok ok':Nat→Prop} {x:PV} {u:Value} (hx:x.scalar=true) (h:ay ok w x u):ay ok' w1 x u:=by
 cases x<;>simp only [PV.scalar,reduceCtorEq] at hx
 case int k n=>rw [h.bU];exact .int _ _
 case bool b=>rw [h.oM];exact .bool _
 case str s=>rw [h.Sj];exact .str _
 case agg cs =>
  obtain ⟨arr,rfl,h1,h2,h3⟩:=h.uY
  refine .agg cs arr h1 h2 (fun j x v hx' hv=>?_)
  have hs:=List.all_eq_true.1 hx x (List.mem_of_getElem? hx')
  have hp:=h3 j x v hx' hv
  cases x<;>simp only [reduceCtorEq] at hs
  ·rw [hp.bU];exact .int _ _
  ·rw [hp.oM];exact .bool _
  ·rw [hp.Sj];exact .str _
open Classical in
noncomputable def laid (T T':Tags) (old:Nat→Prop) (d:Nat) (one:Bool):Tags:=fun b=>if old b then T b else match T' b with
 |.ro=>.ro
 |.row (.part 0 i)=>if one then (if i=0 then .row (.slot d) else .other) else .row (.part d i)
 |_=>.other
def oneRow:List oJ→Bool
 |[(.agg _,true)]=>false
 |l=>l.length==1
theorem aF.results (h:aF L σ T st a w) {rs:List oJ} {v:Value} {T':Tags} {old:Nat→Prop} (hn:∀ b,old b→b<w.heap.size) (Le:∀ b,¬ old b→T b=.other) (hfr:∀ b,w.heap.size≤b→T' b=.other) (hr:rW T' w rs v)
  (hro:(∀ b,old b→T' b=.ro→T b=.ro)∨rs.all (·.1.scalar)=true) (hrow:∀ b i,old b→T' b≠.row (.part 0 i)) :
  aF L σ (laid T T' old d (oneRow rs)) (st.layAll d rs) (a.put (some d) v) w:=by
 obtain ⟨arr,h1,h2,h3⟩:=hr
 obtain ⟨TT,UN⟩:∃ TT,TT=laid T T' old d (oneRow rs):=⟨_,rfl⟩
 rw [← UN]
 have hmore:aF L σ TT st a w:=h.more (fun b hb=>by
  have hl:old b:=Classical.byContradiction fun g=>hb (Le b g)
  rw [UN];simp [laid,hl]) (fun b hb=>by rw [UN];simp [laid,show ¬ old b from fun g=>by have:=hn b g;omega,hfr b hb])
 have hrep:∀ (x:PV) u,ay (fun b=>T' b=.ro) w x u→(rs.all (·.1.scalar)=true→x.scalar=true)→ay (fun b=>TT b=.ro) w x u:=fun x u hx hs=>by
  rcases hro with g|g
  ·refine hx.frame fun b hb _=>⟨?_,rfl⟩
   rw [UN]
   by_cases hl:old b
   ·simp [laid,hl,g b hl hb]
   ·simp [laid,hl,hb]
  ·exact Ci (hs g) hx
 have Ih:∀ (i sz:Nat) (es:List PV) u r',(∀ b,¬ old b→T' b=.row (.part 0 i)→TT b=.row r')→(∀ b,old b→T' b=.ro→T b=.ro)→aH T' w (.part 0 i) sz es u→aH TT w r' sz es u:=fun i sz es u r' hr' g hx=>by
  refine hx.frame (fun b hb _=>⟨hr' b ?_ hb,rfl⟩) (fun b hb _=>⟨?_,rfl⟩)
  ·exact fun g=>hrow b i g hb
  ·rw [UN]
   by_cases hl:old b
   ·simp [laid,hl,g b hl hb]
   ·simp [laid,hl,hb]
 by_cases hone:rs.length=1
 ·obtain ⟨⟨x,own⟩,rfl⟩:∃ r,rs=[r]:=by
   match rs,hone with
   |[r],_=>exact ⟨r,rfl⟩
  have ha:arr.size=1:=h1
  have e0:arr[0]?=some arr[0]:=Array.getElem?_eq_getElem (by omega)
  have hv:v=arr[0]:=by rw [h2,if_pos ha,Array.getD_eq_getD_getElem?,e0];rfl
  have hr:=h3 0 (x,own) arr[0] rfl e0
  rw [← hv] at hr
  have hpv:ay (fun b=>T' b=.ro) w x v→aF L σ TT (st.put d (.pv x)) (a.put (some d) v) w:=fun hx=>hmore.wu (hrep x v hx (fun e=>by simpa using e))
  simp only [St.layAll,St.lay]
  cases own with
  |false =>
   have hx:ay (fun b=>T' b=.ro) w x v:=by cases x<;>exact hr
   simpa using hpv hx
  |true =>
   simp only [if_true]
   cases x with
   |list sz es =>
    have hr':aH T' w (.part 0 0) sz es v:=hr
    rcases hro with g|g
    ·have hT1:∀ b,¬ old b→T' b=.row (.part 0 0)→TT b=.row (.slot d):=fun b hb e=>by rw [UN];simp [laid,oneRow,hb,e]
     exact hmore.putRow (Ih 0 sz es v _ hT1 g hr') (fun _ e=>e) (fun _ _ e=>e) hmore.fresh (fun _ _ _ _ _ _ e=>e) (fun _ _ _ _ _ _ _ e=>e) (fun _ _ _ e=>e)
    ·simp [PV.scalar] at g
   |agg cs =>
    obtain ⟨AO,g1,g2,g3⟩:=hr
    refine hmore.put (by simp) ⟨AO,g1,by simp [g2],fun k av u hk hu=>?_⟩
    rw [List.getElem?_map] at hk
    cases e:cs[k]? with
    |none=>rw [e] at hk;cases hk
    |some y =>
     rw [e] at hk
     have hk:=Option.some.inj hk
     subst hk
     have hp:=g3 k y u e hu
     have hpv2:ay (fun b=>T' b=.ro) w y u→(∀ sz es,y≠.list sz es)→ay (fun b=>TT b=.ro) w y u:=fun hx hy=>by
      rcases hro with g|g
      ·refine hx.frame fun b hb _=>⟨?_,rfl⟩
       rw [UN]
       by_cases hl:old b
       ·simp [laid,hl,g b hl hb]
       ·simp [laid,hl,hb]
      ·refine Ci ?_ hx
       have g':(PV.agg cs).scalar=true:=by simpa using g
       have hs:=List.all_eq_true.1 g' y (List.mem_of_getElem? e)
       cases y<;>simp only [reduceCtorEq] at hs<;>rfl
     cases y with
     |list sz es =>
      rcases hro with g|g
      ·exact Ih k sz es u _ (fun b hb e=>by rw [UN];simp [laid,oneRow,hb,e]) g hp
      ·have g':(PV.agg cs).scalar=true:=by simpa using g
       have hs:=List.all_eq_true.1 g' _ (List.mem_of_getElem? e)
       simp at hs
     |_=>exact hpv2 hp (fun _ _ e=>by cases e)
   |_=>exact hpv hr
 ·-- several results
  have hne:¬ arr.size=1:=by omega
  have hv:v=.tuple arr:=by rw [h2,if_neg hne]
  have h1r:oneRow rs=false:=by
   match rs,hone with
   |[],_=>rfl
   |_ :: _ :: _,_=>simp [oneRow]
  have hl:st.layAll d rs=st.put d (.jO false (rs.map fun r=>match r with
    |(.list sz es,true)=>.row sz es
    |(.agg _,true)=>.any
    |(v,_)=>.pv v)):=by
   match rs,hone with
   |[],_=>rfl
   |_ :: _ :: _,_=>rfl
  rw [hl]
  refine hmore.put (by simp) ⟨arr,hv,by simp [h1],fun k av u hk hu=>?_⟩
  rw [List.getElem?_map] at hk
  cases e:rs[k]? with
  |none=>rw [e] at hk;cases hk
  |some r =>
   rw [e] at hk
   have hk:=Option.some.inj hk
   subst hk
   obtain ⟨x,own⟩:=r
   have hr:=h3 k (x,own) u e hu
   have hsc:rs.all (·.1.scalar)=true→x.scalar=true:=fun g=>List.all_eq_true.1 g (x,own) (List.mem_of_getElem? e)
   have hpv:ay (fun b=>T' b=.ro) w x u→iy TT w d k (.pv x) u:=fun hx=>hrep x u hx hsc
   cases own with
   |false =>
    have hx:ay (fun b=>T' b=.ro) w x u:=by cases x<;>exact hr
    have:=hpv hx
    cases x<;>exact this
   |true =>
    cases x with
    |list sz es =>
     rcases hro with g|g
     ·exact Ih k sz es u _ (fun b hb e=>by rw [UN];simp [laid,hb,e,h1r]) g hr
     ·have:=hsc g;simp [PV.scalar] at this
    |agg cs=>trivial
    |_=>exact hpv hr
end
end Go.Proofs.YtaaokejjmdbfaaaDoor

namespace Go.Proofs.YtaaokejjmdbfaaaDoor
open Go.RowKit
section
variable {P:Program} {L:Nat} {σ σ':Nat→Nat} {T T' T1 T2:Tags} {st st' st1:St} {a:Act} {w w1:World} {o:Oper} {vo:gq} {y:Operand} {x:bI} {d:Nat}
 {rec:ak→St→Option (Ex × St)} {env:Env}
theorem aF.Lh (h:aF L σ T st a w) (hm:aQ y x=true) {p:PV} {fl:Bool} (hs:st.jh (st.get x)=some (p,fl)) :
  FQ st x (st.get x)∧(fl=false→ay (fun b=>T b=.ro) w p (a.eval y))∧∀ T1,Still T T1→uj T T1 x (st.get x)→ay (fun b=>T1 b=.ro) w p (a.eval y):=by
 have hrep:∃ t,jy L σ T st a w t (st.get x) (a.eval y)∧∀ sz es,st.get x=.row sz es→x=.t t∨(es=[]∧∃ s,x=.nil s∧a.eval y=.slice none 0 0):=by
  rcases h.get hm with ⟨t,rfl,(⟨_,g⟩|g)⟩|⟨v',rfl,g⟩|⟨s,rfl,g⟩
  ·exact ⟨t,g,fun _ _ _=>.inl rfl⟩
  ·rw [g] at hs;simp [St.jh,St.snap] at hs
  ·exact ⟨0,g,fun sz es e=>by simp [St.get] at e⟩
  ·refine ⟨0,?_,fun sz es e=>.inr ?_⟩
   ·rw [g];exact aH.nil _ _ _ _ _
   ·simp only [St.get,AV.row.injEq] at e;exact ⟨e.2.symm,s,rfl,g⟩
 obtain ⟨t,hv,hrow⟩:=hrep
 have hgen:∀ v,st.get x=v→(∀ f caps,v≠.fn f caps)→st.snap v=some (p,fl)→FQ st x v∧(fl=false→ay (fun b=>T b=.ro) w p (a.eval y))∧∀ T1,Still T T1→uj T T1 x v→ay (fun b=>T1 b=.ro) w p (a.eval y):=fun v e hf hsn=>by
  have ahB:Held st x v:=zq hsn (fun sz es e2=>by
   rcases hrow sz es (by rw [e,e2]) with g|⟨_,s,g,_⟩
   ·exact ⟨t,.inl ⟨g,e⟩⟩
   ·exact ⟨0,.inr (.inr ⟨s,g⟩)⟩)
  have hHF:FQ st x v:=by cases v<;>first|exact ahB|exact absurd rfl (hf _ _)
  refine ⟨hHF,fun e2=>?_,fun T1 hst hn=>?_⟩
  ·subst e2;exact h.KQ (e ▸ hv) hsn
  ·have hn':Needs T T1 x v:=by cases v<;>first|exact hn|exact absurd rfl (hf _ _)
   by_cases hr:∃ sz es,v=.row sz es
   ·obtain ⟨sz,es,rfl⟩:=hr
    rcases hrow sz es e with g|⟨rfl,s,_,g⟩
    ·exact h.snap (e ▸ hv) (fun _ _ _=>g) hsn hst hn'
    ·simp only [St.snap,Option.some.injEq,Prod.mk.injEq] at hsn
     rw [← hsn.1,g];exact .nil _ _
   ·exact h.snap (e ▸ hv) (fun sz es e2=>absurd ⟨sz,es,e2⟩ hr) hsn hst hn'
 cases hg:st.get x with
 |fn f caps =>
  rw [hg] at hs hv
  simp only [St.jh] at hs
  obtain ⟨l,h1,h2⟩:=bind_some hs
  have h2:=Option.some.inj h2
  simp only [Prod.mk.injEq] at h2
  obtain ⟨rfl,rfl⟩:=h2
  obtain ⟨m1,m2⟩:=mapM_some h1
  obtain ⟨arr,e1,e2,e3⟩:=hv
  have hcap:∀ (k:Nat) c u,caps[k]?=some c→arr[k]?=some u→∃ q,st.snap c=some q∧l[k]?=some q∧gy st.boxes.length σ T w c u:=fun k c u hc hu=>by
   obtain ⟨q,g1,g2⟩:=m2 k c hc
   exact ⟨q,g1,g2,e3 k c u hc hu⟩
  have hnr:∀ (k:Nat) c,caps[k]?=some c→∀ sz es,c≠.row sz es:=fun k c hc sz es e=>by
   have hk:k<arr.size:=by rw [e2];exact (List.getElem?_eq_some_iff.1 hc).1
   have:=e3 k c arr[k] hc (Array.getElem?_eq_getElem hk)
   rw [e] at this;exact this
  refine ⟨fun v hv=>?_,fun hfl=>?_,fun T1 hst hn=>?_⟩
  ·obtain ⟨k,hk⟩:=List.mem_iff_getElem?.1 hv
   obtain ⟨q,g1,_⟩:=m2 k v hk
   exact zq g1 (fun sz es e=>absurd e (hnr k v hk sz es))
  ·rw [e1]
   refine .func f _ arr (by simp [m1,e2]) (fun j p u hp hu=>?_)
   rw [List.getElem?_map] at hp
   cases hl:l[j]? with
   |none=>rw [hl] at hp;cases hp
   |some q =>
    rw [hl] at hp;cases hp
    have hj:j<caps.length:=by rw [← m1];exact (List.getElem?_eq_some_iff.1 hl).1
    obtain ⟨q',g1,g2,g3⟩:=hcap j caps[j] u (List.getElem?_eq_getElem hj) hu
    rw [hl] at g2;cases g2
    have hq:q.2=false:=by
     have:=List.any_eq_false.1 hfl q (List.mem_of_getElem? hl)
     simpa using this
    obtain ⟨q1,q2⟩:=q
    simp only at hq;subst hq
    exact h.KQ (g3.UD rfl 0) g1
  ·rw [e1]
   refine .func f _ arr (by simp [m1,e2]) (fun j p u hp hu=>?_)
   rw [List.getElem?_map] at hp
   cases hl:l[j]? with
   |none=>rw [hl] at hp;cases hp
   |some q =>
    rw [hl] at hp;cases hp
    have hj:j<caps.length:=by rw [← m1];exact (List.getElem?_eq_some_iff.1 hl).1
    have hcj:caps[j]?=some caps[j]:=List.getElem?_eq_getElem hj
    obtain ⟨q',g1,g2,g3⟩:=hcap j caps[j] u hcj hu
    rw [hl] at g2;cases g2
    exact h.snap (x:=.c .void) (g3.UD rfl 0) (fun sz es e=>absurd e (hnr j _ hcj sz es)) g1 hst (hn _ (List.getElem_mem hj))
 |_ =>
  rw [hg] at hs
  exact hgen _ hg (by simp) hs
def callable (P:Program) (f:Nat):Bool :=
 match P.funcs[f]? with
 |some fn=>fn.name != "runtime.NumGoroutine"&&fn.body.isSome
 |none=>false
theorem rX {f:Nat} (h:callable P f=true) (args:Array Value) (w:World):(callFunc f args).run P w=.ok (.enter f args) w:=by
 unfold callable at h
 split at h
 ·rename_i fn hf
  simp only [Bool.and_eq_true,bne_iff_ne,ne_eq] at h
  obtain ⟨h1,h2⟩:=h
  obtain ⟨b,hb⟩:=Option.isSome_iff_exists.1 h2
  simp [callFunc,program,Sem.run,hf,h1,hb]
 ·cases h
theorem xQ:∀ {ys:List Operand} {xs:List bI},lX ys xs=true→ys.length=xs.length∧∀ (i:Nat) y x,ys[i]?=some y→xs[i]?=some x→aQ y x=true
 |[],[],_=>⟨rfl,fun i y x hy=>by simp at hy⟩
 |[],_ :: _,h=>by simp [lX] at h
 |_ :: _,[],h=>by simp [lX] at h
 |y :: ys,x :: xs,h=>by
  simp only [lX,Bool.and_eq_true] at h
  obtain ⟨g1,g2⟩:=xQ h.2
  refine ⟨by simp [g1],fun i y' x' hy hx=>?_⟩
  cases i with
  |zero=>simp at hy hx;subst hy;subst hx;exact h.1
  |succ i=>exact g2 i y' x' (by simpa using hy) (by simpa using hx)
def fA (P:Program) (rec:ak→St→Option (Ex × St)) (env:Env):Prop :=
 (∀ f args rs,jJ rec env f args=some rs→callable P f=true∧lZ P f args rs)∧(∀ f h,env f=some (.Kv h)→callable P f=true∧O9 P f h)∧(∀ f x args rs out,pV rec env f x args=some (rs,out)→callable P f=true∧SC P f x args rs out)∧∀ f args t n,EH rec env f args=some (some (t,n))→callable P f=true∧SB P f args t n
theorem Ii (aS:fA P rec env) (h:aF L σ T st a w) (hG:jS T w) {ys:List Operand} {xs:List bI} (hm:lX ys xs=true) {caps:List AV} {oO:List Value} (hc:oO.length=caps.length) (hcr:∀ (k:Nat) c u,caps[k]?=some c→oO[k]?=some u→gy st.boxes.length σ T w c u) {f:Nat}
  (hp:ji rec env d f xs caps st=some st'):callable P f=true∧Calls P f (ys.map a.eval++oO).toArray w (fun e w'=>∃ v T2,e=.returned v∧aF L σ T2 st' (a.put (some d) v) w'∧uV T T2 w w'∧Whole w w'):=by
 unfold ji at hp
 obtain ⟨l,h1,hp1⟩:=bind_some hp
 clear hp
 obtain ⟨k,h2,hp2⟩:=bind_some hp1
 clear hp1
 obtain ⟨rs,h3,hp3⟩:=bind_some hp2
 clear hp2
 have hp:=Option.some.inj hp3
 clear hp3
 obtain ⟨hcall,hok⟩:=aS.1 f _ rs h3
 obtain ⟨l1,l2⟩:=mapM_some h1
 obtain ⟨k1,k2⟩:=mapM_some h2
 obtain ⟨m1,m2⟩:=xQ hm
 refine ⟨hcall,?_⟩
 have hop:∀ (i:Nat) x,xs[i]?=some x→∃ y q,ys[i]?=some y∧aQ y x=true∧st.jh (st.get x)=some q∧l[i]?=some q:=fun i x hx=>by
  obtain ⟨q,g1,g2⟩:=l2 i x hx
  have hi:i<ys.length:=by rw [m1];exact (List.getElem?_eq_some_iff.1 hx).1
  exact ⟨ys[i],q,List.getElem?_eq_getElem hi,m2 i _ x (List.getElem?_eq_getElem hi) hx,g1,g2⟩
 have hcap:∀ (i:Nat) c,caps[i]?=some c→∃ u q,oO[i]?=some u∧gy st.boxes.length σ T w c u∧st.snap c=some q∧k[i]?=some q:=fun i c hx=>by
  obtain ⟨q,g1,g2⟩:=k2 i c hx
  have hi:i<oO.length:=by rw [hc];exact (List.getElem?_eq_some_iff.1 hx).1
  exact ⟨oO[i],q,List.getElem?_eq_getElem hi,hcr i c _ hx (List.getElem?_eq_getElem hi),g1,g2⟩
 have hnr:∀ (i:Nat) c,caps[i]?=some c→∀ sz es,c≠.row sz es:=fun i c hx sz es e=>by
  obtain ⟨u,q,_,g,_⟩:=hcap i c hx
  rw [e] at g;exact g
 have afb:∀ x∈xs,FQ st x (st.get x):=fun x hx=>by
  obtain ⟨i,hi⟩:=List.mem_iff_getElem?.1 hx
  obtain ⟨y,⟨p,fl⟩,_,g2,g3,_⟩:=hop i x hi
  exact (h.Lh g2 g3).1
 have afc:∀ v∈caps,Held st (.c .void) v:=fun v hv=>by
  obtain ⟨i,hi⟩:=List.mem_iff_getElem?.1 hv
  obtain ⟨u,⟨p,fl⟩,_,_,g,_⟩:=hcap i v hi
  exact zq g (fun sz es e=>absurd e (hnr i v hi sz es))
 -- the tags under which the arguments are read only
 have ahC:∃ T1,jR T T1 st (caps.foldl (fun s v=>s.bg (.c .void) v) (xs.foldl St.bT st))∧aF L σ T1 (caps.foldl (fun s v=>s.bg (.c .void) v) (xs.foldl St.bT st)) a w∧(∀ x∈xs,uj T T1 x (st.get x))∧∀ v∈caps,Needs T T1 (.c .void) v:=by
  obtain ⟨T1,f1,f2,f3,f4⟩:=jR.args xs (jR.refl T st) h afb
  obtain ⟨T2,g1,g2,g3,g4⟩:=jR.X0 caps f1 f2 afc
  exact ⟨T2,g1,g2,fun x hx=>(f4 x hx).still g3,g4⟩
 -- from such tags to what the call leaves
 have hgo:∀ T1,Still T T1→(∀ (i:Nat) p v,(l.map (·.1)++k.map (·.1))[i]?=some p→(ys.map a.eval++oO)[i]?=some v→ay (fun b=>T1 b=.ro) w p v)→∀ Tc st1,aF L σ Tc st1 a w→Still T Tc→((∀ b,T1 b=.ro→Tc b=.ro)∨rs.all (·.1.scalar)=true)→st1.layAll d rs=st' →
   Calls P f (ys.map a.eval++oO).toArray w (fun e w'=>∃ v T2,e=.returned v∧aF L σ T2 st' (a.put (some d) v) w'∧uV T T2 w w'∧Whole w w'):=fun T1 hst hargs Tc st1 hS afd hro hst'=>by
  obtain ⟨T0,hT0⟩:∃ T0:Tags,T0=fun b=>if T1 b=.ro then .ro else .other:=⟨_,rfl⟩
  have FT:∀ b,T0 b=.ro ↔ T1 b=.ro:=fun b=>by rw [hT0];simp only;split<;>simp [*]
  have h0:=hok T0 w (ys.map a.eval++oO) (fun b=>by rw [hT0];simp only;split<;>simp) (fun b hb=>by rw [hT0];simp only;rw [if_neg];rw [hst.other b (h.fresh b hb)];simp) (by simp [l1,k1,m1,hc]) (fun i p v hp hv=>(hargs i p v hp hv).frame fun b hb _=>⟨(FT b).2 hb,rfl⟩) (hG.frame fun b hb _=>⟨(FT b).2 (hst.ro b hb),rfl⟩)
  refine h0.mono ?_
  rintro e w' ⟨v,T',rfl,hB,hTb,hTf,hres⟩
  have hwh:Whole w w':=⟨hB.size,fun b hl=>hB.block b hl⟩
  have FU:∀ {TT:Tags},pO TT w w':=fun {TT}=>hwh.sees
  have hS':=hS.sees (FU (TT:=Tc))
  have hfin:=hS'.results (old:=fun b=>b<w.heap.size) (fun b hb=>Nat.lt_of_lt_of_le hb hB.size) (fun b hb=>afd.other b (h.fresh b (Nat.le_of_not_lt hb))) hTf hres (hro.imp (fun g b hl hb=>g b ((FT b).1 (by rw [← hTb b hl];exact hb))) id) (fun b i hl e=>by
   rw [hTb b hl,hT0] at e;simp only at e;split at e<;>cases e) (d:=d)
  rw [hst'] at hfin
  refine ⟨v,_,rfl,hfin,⟨hB.size,hB.os,hB.tape,hB.output,fun b hl _=>hB.block b hl,fun b e=>?_,fun b hl e=>?_⟩,hwh⟩
  ·have hl:b<w.heap.size:=by
    rcases Nat.lt_or_ge b w.heap.size with g|g
    ·exact g
    ·rw [h.fresh b g] at e;cases e
   simp [laid,hl,afd.ro b e]
  ·simp [laid,hl,afd.other b e]
 have hlen:(l.map (·.1)).length=(ys.map a.eval).length:=by simp [l1,m1]
 have hargs:∀ T1:Tags,(∀ (i:Nat) x y q,xs[i]?=some x→ys[i]?=some y→aQ y x=true→st.jh (st.get x)=some q→l[i]?=some q→ay (fun b=>T1 b=.ro) w q.1 (a.eval y))→(∀ (i:Nat) c u q,caps[i]?=some c→gy st.boxes.length σ T w c u→st.snap c=some q→k[i]?=some q→ay (fun b=>T1 b=.ro) w q.1 u) →
   ∀ (i:Nat) p v,(l.map (·.1)++k.map (·.1))[i]?=some p→(ys.map a.eval++oO)[i]?=some v→ay (fun b=>T1 b=.ro) w p v:=fun T1 g1 g2 i p v hp hv=>by
  rcases Nat.lt_or_ge i xs.length with hi|hi
  ·rw [List.getElem?_append_left (by simp [l1,hi]),List.getElem?_map] at hp
   rw [List.getElem?_append_left (by simp [m1,hi]),List.getElem?_map] at hv
   obtain ⟨y,q,q1,q2,q3,q4⟩:=hop i xs[i] (List.getElem?_eq_getElem hi)
   rw [q4] at hp;rw [q1] at hv
   cases hp;cases hv
   exact g1 i _ y q (List.getElem?_eq_getElem hi) q1 q2 q3 q4
  ·rw [List.getElem?_append_right (by simp [l1,hi]),List.getElem?_map] at hp
   rw [List.getElem?_append_right (by simp [m1,hi])] at hv
   simp only [List.length_map,l1] at hp
   simp only [List.length_map,m1] at hv
   cases hk:k[i - xs.length]? with
   |none=>rw [hk] at hp;cases hp
   |some q =>
    rw [hk] at hp;cases hp
    have hj:i - xs.length<caps.length:=by rw [← k1];exact (List.getElem?_eq_some_iff.1 hk).1
    obtain ⟨u,q',q1,q2,q3,q4⟩:=hcap _ caps[i - xs.length] (List.getElem?_eq_getElem hj)
    rw [hk] at q4;cases q4
    rw [q1] at hv;cases hv
    exact g2 _ _ _ q (List.getElem?_eq_getElem hj) q2 q3 hk
 cases hfl:(l.any (·.2) || k.any (·.2)) with
 |false =>
  -- nothing of this call's own is handed over
  rw [hfl] at hp
  simp only [Bool.or_eq_false_iff] at hfl
  refine hgo T (Still.refl T) (hargs T (fun i x y q hx hy hmo hs hl=>?_) (fun i c u q hx hcr hs hk=>?_)) T st h (Still.refl T) (.inl fun _ e=>e) (by simpa using hp)
  ·have hq:q.2=false:=by have:=List.any_eq_false.1 hfl.1 q (List.mem_of_getElem? hl);simpa using this
   obtain ⟨q1,q2⟩:=q
   simp only at hq;subst hq
   exact (h.Lh hmo hs).2.1 rfl
  ·have hq:q.2=false:=by have:=List.any_eq_false.1 hfl.2 q (List.mem_of_getElem? hk);simpa using this
   obtain ⟨q1,q2⟩:=q
   simp only at hq;subst hq
   exact h.KQ (hcr.UD rfl 0) hs
 |true =>
  obtain ⟨T1,z1,z2,z3,z4⟩:=ahC
  have hargs1:=hargs T1 (fun i x y q hx hy hmo hs hl=>by obtain ⟨q1,q2⟩:=q;exact (h.Lh hmo hs).2.2 T1 z1.still (z3 x (List.mem_of_getElem? hx))) (fun i c u q hx hcr hs hk=>by obtain ⟨q1,q2⟩:=q;exact h.snap (x:=.c .void) (hcr.UD rfl 0) (fun sz es e=>absurd e (hnr i c hx sz es)) hs z1.still (z4 c (List.mem_of_getElem? hx)))
  cases hsc:rs.all (·.1.scalar) with
  |true =>
   rw [hfl,hsc] at hp
   exact hgo T1 z1.still hargs1 T st h (Still.refl T) (.inr hsc) (by simpa using hp)
  |false =>
   rw [hfl,hsc] at hp
   exact hgo T1 z1.still hargs1 T1 _ z2 z1.still (.inl fun _ e=>e) (by simpa using hp)
end
end Go.Proofs.YtaaokejjmdbfaaaDoor

namespace Go.Proofs.YtaaokejjmdbfaaaDoor
open Go.RowKit
section
variable {P:Program} {L:Nat} {σ σ':Nat→Nat} {T T' T1 T2:Tags} {st st' st1:St} {a:Act} {w w1:World} {o:Oper} {vo:gq} {y:Operand} {x:bI} {d:Nat}
 {rec:ak→St→Option (Ex × St)} {env:Env}
def Aa (T:Tags) (n:Nat):Tags:=fun b=>match T b with
 |.row (.part t i)=>if t=n then .other else .row (.part t i)
 |q=>q
theorem jX {n b:Nat} {q:wo} (h:T b=q) (hq:∀ i,q≠.row (.part n i)):Aa T n b=q:=by
 unfold Aa
 rw [h]
 cases q with
 |row r =>
  cases r with
  |part t i =>
   by_cases e:t=n
   ·subst e;exact absurd rfl (hq i)
   ·simp [e]
  |slot t=>rfl
  |cell p j=>rfl
 |_=>rfl
theorem X6 {n i b:Nat} (h:T b=.row (.part n i)):Aa T n b=.other:=by simp [Aa,h]
theorem aF.abV (h:aF L σ T st a w) (n:Nat):aF L σ (Aa T n) (st.put n .any) a w:=by
 have h':=h.forget n
 have hw:∀ b,T b=.ro→b<w.heap.size→Aa T n b=.ro∧w.heap[b]?=w.heap[b]?:=fun b e _=>⟨jX e (by simp),rfl⟩
 refine ⟨h'.size,fun t x u hx hu=>?_,fun p bx ho=>?_,fun b hb=>jX (h'.fresh b hb) (by simp)⟩
 ·refine (h'.slots t x u hx hu).keep hw (fun s l e b hb _=>⟨jX hb (by simp),rfl⟩) (fun l e i he b hb _=>⟨jX hb (fun j e2=>?_),rfl⟩) (fun q hq _ s l e=>⟨⟨l,e⟩,rfl⟩) (Nat.le_refl _) (fun _ _=>rfl)
  injection e2 with e2
  injection e2 with e2 _
  subst e2
  rw [e] at hx
  simp only [St.put,List.getElem?_set,if_true] at hx
  split at hx<;>cases hx
 ·have hb:=h'.boxes p bx ho
  have hT:Aa T n (σ p)=T (σ p):=by
   obtain ⟨_,_,_,_,h3,_⟩:=hb
   refine jX rfl fun i e=>?_
   rw [h3] at e
   split at e<;>cases e
  exact hb.frame ⟨hT,rfl⟩ (fun j b e _=>⟨jX e (by simp),rfl⟩) hw
theorem UO (st:St) (B:List Box) (d:Nat) (v:PV) (own:Bool):({ st with boxes:=B }:St).lay d v own={ st.lay d v own with boxes:=B }∧(st.lay d v own).boxes=st.boxes:=by
 unfold St.lay
 cases own with
 |false=>exact ⟨rfl,rfl⟩
 |true=>cases v<;>exact ⟨rfl,rfl⟩
theorem xR (st:St) (B:List Box) (d:Nat) (rs:List oJ):({ st with boxes:=B }:St).layAll d rs={ st.layAll d rs with boxes:=B }∧(st.layAll d rs).boxes=st.boxes:=by
 match rs with
 |[]=>exact ⟨rfl,rfl⟩
 |[(v,own)]=>exact UO st B d v own
 |_ :: _ :: _=>exact ⟨rfl,rfl⟩
theorem Cj (aS:fA P rec env) (h:aF L σ T st a w) (hG:jS T w) (hmx:aQ y x=true) {ys:List Operand} {xs:List bI} (hm:lX ys xs=true) {caps:List AV} {oO:List Value} (hc:oO.length=caps.length)
  (hcr:∀ (k:Nat) c u,caps[k]?=some c→oO[k]?=some u→gy st.boxes.length σ T w c u) {f:Nat} (hp:oK rec env d f x xs caps st=some st') :
  callable P f=true∧Calls P f (a.eval y :: (ys.map a.eval++oO)).toArray w (fun e w'=>∃ v T2,e=.returned v∧aF L σ T2 st' (a.put (some d) v) w'∧uV T T2 w w'):=by
 unfold oK at hp
 obtain ⟨l,h1,hp1⟩:=bind_some hp
 clear hp
 obtain ⟨k,h2,hp2⟩:=bind_some hp1
 clear hp1
 obtain ⟨⟨la,bo,s1⟩,h3,hp3⟩:=bind_some hp2
 clear hp2
 obtain ⟨⟨rs,out⟩,h4,hp4⟩:=bind_some hp3
 clear hp3
 obtain ⟨s2,h5,hp5⟩:=bind_some hp4
 clear hp4
 have hp:=Option.some.inj hp5
 clear hp5
 simp only at h4 h5 hp
 split at h3
 ·cases h3
 rename_i hfl
 simp only [Bool.or_eq_true,not_or,Bool.not_eq_true] at hfl
 obtain ⟨hcall,hok⟩:=aS.2.2.1 f la _ rs out h4
 refine ⟨hcall,?_⟩
 obtain ⟨l1,l2⟩:=mapM_some h1
 obtain ⟨k1,k2⟩:=mapM_some h2
 obtain ⟨m1,m2⟩:=xQ hm
 have hlen:(ys.map a.eval++oO).length=(l.map (·.1)++k.map (·.1)).length:=by simp [l1,k1,m1,hc]
 have hargs:∀ (i:Nat) p v,(l.map (·.1)++k.map (·.1))[i]?=some p→(ys.map a.eval++oO)[i]?=some v→ay (fun b=>T b=.ro) w p v:=fun i p v hpi hv=>by
  rcases Nat.lt_or_ge i xs.length with hi|hi
  ·rw [List.getElem?_append_left (by simp [l1,hi]),List.getElem?_map] at hpi
   rw [List.getElem?_append_left (by simp [m1,hi]),List.getElem?_map] at hv
   obtain ⟨q,g1,g2⟩:=l2 i xs[i] (List.getElem?_eq_getElem hi)
   have hi2:i<ys.length:=by rw [m1];exact hi
   rw [g2] at hpi
   rw [List.getElem?_eq_getElem hi2] at hv
   cases hpi;cases hv
   have hq:q.2=false:=by have:=List.any_eq_false.1 hfl.1 q (List.mem_of_getElem? g2);simpa using this
   obtain ⟨q1,q2⟩:=q
   simp only at hq;subst hq
   exact (h.Lh (m2 i _ _ (List.getElem?_eq_getElem hi2) (List.getElem?_eq_getElem hi)) g1).2.1 rfl
  ·rw [List.getElem?_append_right (by simp [l1,hi]),List.getElem?_map] at hpi
   rw [List.getElem?_append_right (by simp [m1,hi])] at hv
   simp only [List.length_map,l1] at hpi
   simp only [List.length_map,m1] at hv
   cases hk:k[i - xs.length]? with
   |none=>rw [hk] at hpi;cases hpi
   |some q =>
    rw [hk] at hpi;cases hpi
    have hj:i - xs.length<caps.length:=by rw [← k1];exact (List.getElem?_eq_some_iff.1 hk).1
    obtain ⟨q',g1,g2⟩:=k2 _ caps[i - xs.length] (List.getElem?_eq_getElem hj)
    rw [hk] at g2;cases g2
    have hq:q.2=false:=by have:=List.any_eq_false.1 hfl.2 q (List.mem_of_getElem? hk);simpa using this
    obtain ⟨q1,q2⟩:=q
    simp only at hq;subst hq
    exact h.KQ ((hcr _ _ v (List.getElem?_eq_getElem hj) hv).UD rfl 0) g1
 -- what goes over for good
 have go:∀ (T1 T0:Tags) (old:Nat→Prop),aF L σ T1 s1 a w→(∀ b,T b=.ro→T0 b=.ro∧T1 b=.ro)→(∀ b,T b=.other→T0 b=.other∧T1 b=.other)→(∀ b,T0 b=.ro→T1 b=.ro)→(∀ b,old b→T0 b=.ro∨T0 b=.other)→(∀ b,old b→b<w.heap.size)→(∀ b,¬ old b→T1 b=.other)→(∀ b,b<w.heap.size→(T b=.ro∨T b=.other)→old b) →
   abU T0 w (a.eval y) la→bo=none→Calls P f (a.eval y :: (ys.map a.eval++oO)).toArray w (fun e w'=>∃ v T2,e=.returned v∧aF L σ T2 st' (a.put (some d) v) w'∧uV T T2 w w'):=fun T1 T0 old hS c1 c2 c3 c4 c5 c6 c7 hL hbo=>by
  have hs2:s2=s1:=by
   rw [hbo] at h5
   unfold mQ at h5
   split at h5
   ·exact (Option.some.inj h5).symm
   ·rename_i e;cases e
   ·cases h5
  subst hs2
  have h0:=hok T0 w (a.eval y) (ys.map a.eval++oO) (fun b hb=>(c2 b (h.fresh b hb)).1) hL hlen (fun i p v hpi hv=>(hargs i p v hpi hv).frame fun b hb _=>⟨(c1 b hb).1,rfl⟩) (hG.frame fun b hb _=>⟨(c1 b hb).1,rfl⟩)
  refine h0.mono ?_
  rintro e w' ⟨u,T',rfl,z1,z2,z3,z4,z5,z6,z7,_⟩
  have hS':=hS.sees ⟨z1,fun b hb hl=>(z5 b hl (c4 b (Classical.byContradiction fun g=>hb (c6 b g)))).1⟩
  have hfin:=hS'.results (old:=old) (d:=d) (fun b hb=>Nat.lt_of_lt_of_le (c5 b hb) z1) c6 z6 z7 (.inl fun b hb e=>c3 b (by rw [← (z5 b (c5 b hb) (c4 b hb)).2];exact e)) (fun b i hb e=>by
   rw [(z5 b (c5 b hb) (c4 b hb)).2] at e
   rcases c4 b hb with g|g<;>rw [g] at e<;>cases e)
  rw [hp] at hfin
  refine ⟨u,_,rfl,hfin,⟨z1,z2,z3,z4,fun b hl e=>(z5 b hl (c4 b (c7 b hl e))).1,fun b e=>?_,fun b hl e=>?_⟩⟩
  ·have hl:b<w.heap.size:=by
    rcases Nat.lt_or_ge b w.heap.size with g|g
    ·exact g
    ·rw [h.fresh b g] at e;cases e
   simp [laid,c7 b hl (.inl e),(c1 b e).2]
  ·simp [laid,c7 b hl (.inr e),(c2 b e).2]
 unfold rH at h3
 split at h3
 ·-- a struct with slices of its own
  rename_i lo hg
  split at h3
  case h_2=>cases h3
  rename_i n
  cases h3
  obtain ⟨arr,e1,e2,e3⟩:jy L σ T st a w n (.jO true lo) (a.eval y):=by
   rcases h.get hmx with ⟨t,et,(⟨_,g⟩|g)⟩|⟨v',et,_⟩|⟨s,et,_⟩
   ·cases et;rw [hg] at g;exact g
   ·cases et;rw [hg] at g;cases g
   ·cases et
   ·cases et
  obtain ⟨T0,hT0⟩:∃ T0:Tags,T0=fun b=>match T b with
   |.ro=>.ro
   |.row (.part t i)=>if t=n then .row (.part 0 i) else .other
   |_=>.other:=⟨_,rfl⟩
  have t1:∀ b,T b=.ro→T0 b=.ro:=fun b e=>by rw [hT0];simp [e]
  have t2:∀ b i,T b=.row (.part n i)→T0 b=.row (.part 0 i):=fun b i e=>by rw [hT0];simp [e]
  have t3:∀ b,T0 b=.ro→T b=.ro:=fun b e=>by
   rw [hT0] at e
   simp only at e
   split at e
   ·assumption
   ·split at e<;>cases e
   ·cases e
  have t4:∀ b,(∀ i,T b≠.row (.part n i))→T0 b=.ro∨T0 b=.other:=fun b e=>by
   rw [hT0]
   simp only
   split
   ·exact .inl rfl
   ·rename_i t i et
    split
    ·rename_i etn;subst etn;exact absurd et (e i)
    ·exact .inr rfl
   ·exact .inr rfl
  refine go (Aa T n) T0 (fun b=>b<w.heap.size∧∀ i,T b≠.row (.part n i)) (h.abV n) (fun b e=>⟨t1 b e,jX e (by simp)⟩) (fun b e=>⟨by rw [hT0];simp [e],jX e (by simp)⟩) (fun b e=>jX (t3 b e) (by simp)) (fun b hb=>t4 b hb.2) (fun b hb=>hb.1) (fun b hb=>?_) (fun b hl e=>⟨hl,fun i e2=>by rw [e2] at e;rcases e with e|e<;>cases e⟩) ⟨arr,e1,e2,fun k x u hx hu=>?_⟩ rfl
  ·by_cases hl:b<w.heap.size
   ·obtain ⟨i,hi⟩:=Classical.not_forall.1 fun g=>hb ⟨hl,g⟩
    exact X6 (Classical.not_not.1 hi)
   ·exact jX (h.fresh b (Nat.le_of_not_lt hl)) (by simp)
  ·have hk:=e3 k x u hx hu
   cases x with
   |pv v=>exact ay.frame (fun b hb _=>⟨t1 b hb,rfl⟩) hk
   |row s l'=>exact aH.frame (fun b hb _=>⟨t2 b k hb,rfl⟩) (fun b hb _=>⟨t1 b hb,rfl⟩) hk
   |any=>trivial
   |_=>exact hk
 ·-- a variable
  rename_i q hg
  split at h3
  case h_2=>cases h3
  rename_i bx hbx
  split at h3
  ·cases h3
  rename_i hfz
  have hfz:bx.fz=false:=by simpa using hfz
  cases h3
  have hy:a.eval y=.pointer (some ⟨σ q,0,none⟩):=by
   rcases h.get hmx with ⟨t,et,(⟨_,g⟩|g)⟩|⟨v',et,g⟩|⟨s,et,g⟩
   ·rw [hg] at g;exact g.2
   ·rw [hg] at g;cases g
   ·rw [et] at hg;simp [St.get] at hg
   ·rw [et] at hg;simp [St.get] at hg
  obtain ⟨T1,hS,hst,_,_,hbt⟩:=h.pX q
  have ol:q<st.boxes.length:=(List.getElem?_eq_some_iff.1 hbx).1
  have hb1:(st.bf q).boxes[q]?=some { bx with cs:=bx.cs.map BV.frozen }:=by
   unfold St.bf
   rw [hbx]
   simp [List.getElem?_set,ol]
  obtain ⟨arr,E,g1,g2,g3,g4,g5⟩:=hS.boxes q _ hb1
  have XY:T1 (σ q)=.box q:=by rw [g3];simp [hfz]
  obtain ⟨T0,hT0⟩:∃ T0:Tags,T0=fun b=>if b=σ q then .box 0 else if T1 b=.ro then .ro else .other:=⟨_,rfl⟩
  have t1:∀ b,T1 b=.ro→T0 b=.ro:=fun b e=>by
   rw [hT0]
   simp only
   rw [if_neg (fun e2=>by rw [e2,XY] at e;cases e),if_pos e]
  have t3:∀ b,T0 b=.ro→T1 b=.ro:=fun b e=>by
   rw [hT0] at e
   simp only at e
   split at e
   ·cases e
   ·split at e
    ·assumption
    ·cases e
  have t4:∀ b,b≠σ q→T0 b=.ro∨T0 b=.other:=fun b e=>by
   rw [hT0]
   simp only
   rw [if_neg e]
   split
   ·exact .inl rfl
   ·exact .inr rfl
  have t5:∀ b,T1 b=.other→T0 b=.other:=fun b e=>by
   rw [hT0]
   simp only
   rw [if_neg (fun e2=>by rw [e2,XY] at e;cases e),if_neg (by rw [e];simp)]
  have t6:T0 (σ q)=.box 0:=by rw [hT0];simp
  have hσl:σ q<w.heap.size:=(Array.getElem?_eq_some_iff.1 g1).1
  have hL:abU T0 w (a.eval y) (.box (bx.cs.map BV.val)):=by
   refine ⟨σ q,hy,arr,E,g1,by simpa using g2,by simp [t6],fun e=>(by simp at e),fun j bv u hj hu=>?_⟩
   simp only [List.map_map,List.getElem?_map] at hj
   cases hcj:bx.cs[j]? with
   |none=>rw [hcj] at hj;cases hj
   |some bv0 =>
    rw [hcj] at hj
    have hj:=Option.some.inj hj
    subst hj
    obtain ⟨r1,r2⟩:=g5 j (.pv bv0.val) u (by simp only [List.getElem?_map,hcj];cases bv0<;>rfl) hu
    exact ⟨r1,ay.frame (fun b hb _=>⟨t1 b hb,rfl⟩) r2⟩
  have h0:=hok T0 w (a.eval y) (ys.map a.eval++oO) (fun b hb=>t5 b (hS.fresh b hb)) hL hlen (fun i p v hpi hv=>(hargs i p v hpi hv).frame fun b hb _=>⟨t1 b (hst.ro b hb),rfl⟩) (hG.frame fun b hb _=>⟨t1 b (hst.ro b hb),rfl⟩)
  refine h0.mono ?_
  rintro e w' ⟨u,T',rfl,z1,z2,z3,z4,z5,z6,z7,z8⟩
  obtain ⟨cs,hcs,hs2⟩:∃ cs,out=some cs∧s2={ st.bf q with boxes:=(st.bf q).boxes.set q { bx with cs:=cs.map .pv } }:=by
   unfold mQ at h5
   split at h5
   ·rename_i e;cases e
   ·rename_i o' cs e
    cases e
    rw [hb1] at h5
    exact ⟨cs,rfl,(Option.some.inj h5).symm⟩
   ·cases h5
  subst hcs
  obtain ⟨y1,arr',E',y2,y3,y4⟩:=z8 (σ q) hy
  -- first with nothing known of the variable's contents
  have hv1:=hS.aex (w1:=w') (cs:=List.replicate arr'.size .void) hb1 hfz (fun b hb=>hS.fresh b (Nat.le_trans z1 hb)) (fun b hl hne hot=>(z5 b hl (t4 b hne)).1) ⟨arr',E',y2,by simp,fun j x u hx hu=>by
   have hj:=(Array.getElem?_eq_some_iff.1 hu).1
   have hxv:x=.void:=(List.mem_replicate.1 (List.mem_of_getElem? hx)).2
   subst hxv
   have hj2:j<cs.length:=by omega
   have hk:=(y4 j cs[j] u (List.getElem?_eq_getElem hj2) hu).1
   exact ⟨hk,.void u hk⟩⟩
  have hfin:=hv1.results (old:=fun b=>b<w.heap.size) (d:=d) (fun b hb=>Nat.lt_of_lt_of_le hb z1) (fun b hb=>hS.fresh b (Nat.le_of_not_lt hb)) z6 z7 (.inl fun b hb e=>by
   by_cases hq:b=σ q
   ·subst hq;rw [y1] at e;cases e
   ·exact t3 b (by rw [← (z5 b hb (t4 b hq)).2];exact e)) (fun b i hb e=>by
   by_cases hq:b=σ q
   ·subst hq;rw [y1] at e;cases e
   ·rw [(z5 b hb (t4 b hq)).2] at e
    rcases t4 b hq with g|g<;>rw [g] at e<;>cases e)
  obtain ⟨TT,UN⟩:∃ TT,TT=laid T1 T' (fun b=>b<w.heap.size) d (oneRow rs):=⟨_,rfl⟩
  rw [← UN] at hfin
  have hold:∀ b,b<w.heap.size→TT b=T1 b:=fun b hb=>by rw [UN];simp [laid,hb]
  obtain ⟨B,hB⟩:∃ B:List Box,B=(st.bf q).boxes.set q { bx with cs:=(List.replicate arr'.size PV.void).map .pv }:=⟨_,rfl⟩
  have hBx:B[q]?=some { bx with cs:=(List.replicate arr'.size PV.void).map .pv }:=by
   rw [hB,List.getElem?_set_self]
   exact (List.getElem?_eq_some_iff.1 hb1).1
  rw [← hB] at hfin
  have aj3:=xR (st.bf q) B d rs
  rw [aj3.1] at hfin
  have hv2:=hfin.aex (w1:=w') (cs:=cs) (q:=q) (bx:={ bx with cs:=(List.replicate arr'.size PV.void).map .pv }) hBx hfz hfin.fresh (fun _ _ _ _=>rfl) ⟨arr',E',y2,y3,fun j x u hx hu=>⟨(y4 j x u hx hu).1,(y4 j x u hx hu).2.frame fun b hb _=>⟨?_,rfl⟩⟩⟩
  ·refine ⟨u,TT,rfl,?_,⟨z1,z2,z3,z4,fun b hl e=>?_,fun b e=>?_,fun b hl e=>?_⟩⟩
   ·rw [← hp,hs2,(xR (st.bf q) _ d rs).1]
    have e2:B.set q { bx with cs:=cs.map .pv }=(st.bf q).boxes.set q { bx with cs:=cs.map .pv }:=by rw [hB,List.set_set]
    rw [← e2]
    exact hv2
   ·have hq:b≠σ q:=fun e2=>by
     subst e2
     rcases e with e|e
     ·rw [hst.ro _ e] at XY;cases XY
     ·rw [hst.other _ e] at XY;cases XY
    exact (z5 b hl (t4 b hq)).1
   ·have hl:b<w.heap.size:=by
     rcases Nat.lt_or_ge b w.heap.size with g|g
     ·exact g
     ·rw [h.fresh b g] at e;cases e
    rw [hold b hl];exact hst.ro b e
   ·rw [hold b hl];exact hst.other b e
  ·by_cases hl:b<w.heap.size
   ·by_cases hq:b=σ q
    ·subst hq;rw [y1] at hb;cases hb
    ·rw [hold b hl];exact t3 b (by rw [← (z5 b hl (t4 b hq)).2];exact hb)
   ·rw [UN];simp [laid,hl,hb]
 ·-- a slice
  cases hgr:st.grab x with
  |none=>rw [hgr] at h3;cases h3
  |some q =>
   obtain ⟨sz,es,s⟩:=q
   rw [hgr] at h3
   cases h3
   obtain ⟨b1,b2,r,v,es0,c,xa,b3,b4,b5,b6,b7,b8,b9⟩:=h.grab hmx hgr
   have hun:O5 s r:=⟨b7,b8,b9⟩
   subst b5
   have hrow:=b3.take es.length
   rw [← b4] at hrow
   rw [← b6] at hrow
   obtain ⟨T0,hT0⟩:∃ T0:Tags,T0=fun b=>if T b=.row r then .row (.slot 0) else if T b=.ro then .ro else .other:=⟨_,rfl⟩
   have t1:∀ b,T b=.ro→T0 b=.ro:=fun b e=>by rw [hT0];simp [e]
   have t3:∀ b,T0 b=.ro→T b=.ro:=fun b e=>by
    rw [hT0] at e
    simp only at e
    split at e
    ·cases e
    ·split at e
     ·assumption
     ·cases e
   refine go (gone T r) T0 (fun b=>b<w.heap.size∧T b≠.row r) (b1.XQ hun) (fun b e=>⟨t1 b e,iZ (by simp) e⟩) (fun b e=>⟨by rw [hT0];simp [e],iZ (by simp) e⟩) (fun b e=>iZ (by simp) (t3 b e)) (fun b hb=>?_) (fun b hb=>hb.1) (fun b hb=>?_) (fun b hl e=>⟨hl,fun e2=>by rw [e2] at e;rcases e with e|e<;>cases e⟩) ?_ rfl
   ·rw [hT0]
    simp only
    rw [if_neg hb.2]
    split
    ·exact .inl rfl
    ·exact .inr rfl
   ·by_cases hl:b<w.heap.size
    ·exact H8 (Classical.not_not.1 fun g=>hb ⟨hl,g⟩)
    ·exact iZ (by simp) (h.fresh b (Nat.le_of_not_lt hl))
   ·exact aH.frame (fun b e _=>⟨by rw [hT0];simp [e],rfl⟩) (fun b e _=>⟨t1 b e,rfl⟩) hrow
theorem EP (aS:fA P rec env) (h:aF L σ T st a w) (hG:jS T w) (hmx:aQ y x=true) {ys:List Operand} {xs:List bI} (hm:lX ys xs=true) {caps:List AV} {oO:List Value} (hc:oO.length=caps.length)
  (hcr:∀ (k:Nat) c u,caps[k]?=some c→oO[k]?=some u→gy st.boxes.length σ T w c u) {f:Nat} (hp:iI rec env d f x xs caps st=some st') :
  callable P f=true∧Calls P f (a.eval y :: (ys.map a.eval++oO)).toArray w (fun e w'=>∃ v T2,e=.returned v∧aF L σ T2 st' (a.put (some d) v) w'∧uV T T2 w w'):=by
 obtain ⟨T1,k1,k2,k3⟩:=aF.zY xs h
 obtain ⟨q1,q2⟩:=Cj (oO:=oO) aS k1 (hG.frame fun b hb _=>⟨k2.ro b hb,rfl⟩) hmx hm hc (fun k c u h1 h2=>by
  rw [k3]
  have:=hcr k c u h1 h2
  cases c<;>simp only [gy] at this ⊢
  case pv x=>exact this.frame fun b hb _=>⟨k2.ro b hb,rfl⟩
  case aA o j=>exact this) hp
 exact ⟨q1,q2.mono fun e w' ⟨v,T2,h1,h2,h3⟩=>⟨v,T2,h1,h2,(k2.nM w).trans h3⟩⟩
end
end Go.Proofs.YtaaokejjmdbfaaaDoor

namespace Go.Proofs.YtaaokejjmdbfaaaDoor
open Go.RowKit
structure Ctx where
 X:List (List PV)
 stop:Option (Option Nat)
 J:Nat→Tags→World→Prop
def um (s:Option Nat) (k:Nat):Bool :=
 match s with
 |none=>true
 |some m=>!(k+1==m)
structure Ctx.Ok (C:Ctx) (P:Program) (L:Nat):Prop where
 keep:∀ k T T' w w',uV T T' w w'→C.J k T w→C.J k T' w'
 glob:∀ k T w,C.J k T w→jS T w
 pK:∀ s k T w ps (vs:List Value),C.stop=some s→C.X[k]?=some ps→(∀ b,w.heap.size≤b→T b=.other)→C.J k T w→vs.length=ps.length→(∀ (i:Nat) p v,ps[i]?=some p→vs[i]?=some v→ay (fun b=>T b=.ro) w p v) →
  ∃ f tmps assign body,(Instr.yield L vs.toArray).run P w=.ok (.round L f tmps assign body) w∧∀ n,RoundIn Fence.wide n P L f tmps assign body w fun e w'=>e=.returned (.bool (um s k))∧C.J (k+1) T w'∧pO T w w'
structure cu (T T':Tags) (w w':World):Prop where
 size:w.heap.size≤w'.heap.size
 ro:∀ b,T b=.ro→T' b=.ro
 same:∀ b,b<w.heap.size→T b=.ro→w'.heap[b]?=w.heap[b]?
theorem cu.refl (T:Tags) (w:World):cu T T w w:=⟨Nat.le_refl _,fun _ h=>h,fun _ _ _=>rfl⟩
theorem cu.trans {T T' T'':Tags} {a b c:World} (h:cu T T' a b) (k:cu T' T'' b c):cu T T'' a c :=
 ⟨Nat.le_trans h.size k.size,fun x e=>k.ro x (h.ro x e),fun x hx e=>(k.same x (Nat.lt_of_lt_of_le hx h.size) (h.ro x e)).trans (h.same x hx e)⟩
theorem uV.stays {T T':Tags} {w w':World} (h:uV T T' w w'):cu T T' w w':=⟨h.size,h.ro,fun b hb e=>h.same b hb (.inl e)⟩
def jC (r:Nat):Deferred:={ target:=.collected r,args:=#[] }
def Marks (T':Tags) (w w':World) (ms:List Nat):Prop:=(∀ r∈ms,w.heap.size≤r∧T' r=.ro∧w'.heap[r]?=some (.deferred (some [])))∧ms.Nodup
theorem Marks.nil {T':Tags} {w w':World}:Marks T' w w' []:=⟨by simp,List.nodup_nil⟩
def After (C:Ctx) (L nb:Nat) (σ:Nat→Nat) (T:Tags) (w:World) (st':St) (ds:List Deferred) (a':Act) (w':World):Prop :=
 ∃ (σ':Nat→Nat) (T':Tags) (ms:List Nat),aF L σ' T' st' a' w'∧C.J st'.ys.length T' w'∧(∀ k,k<nb→σ' k=σ k)∧cu T T' w w'∧a'.defers=ms.map jC++ds∧Marks T' w w' ms
def jT (F:Fence):Prop:=F=Fence.wide∨∃ l,F=Fence.wide.inRound l
theorem jT.fn {F:Fence} (h:jT F) (f:FuncId):F.fn f:=by rcases h with rfl|⟨l,rfl⟩<;>exact trivial
theorem jT.depth {F:Fence} (h:jT F):F.depth=none:=by rcases h with rfl|⟨l,rfl⟩<;>rfl
theorem jT.room {F:Fence} (h:jT F) (n:Nat):F.room n:=by rcases h with rfl|⟨l,rfl⟩<;>exact room_wide n
theorem jT.calls {F:Fence} (h:jT F) {n:Nat} {P:Program} {f:FuncId} {args:Array Value} {w:World} {R:Ending→World→Prop} (hc:Calls P f args w R):CallsIn F n P f args w R:=by
 have:=(callsIn_wide (n:=n)).2 hc
 rcases h with rfl|⟨l,rfl⟩
 ·exact this
 ·exact this
theorem jT.abW {F:Fence} (h:jT F) {n:Nat} {P:Program} {l:Nat} {f:FuncId} {tmps:Array Value} {assign body:Code} {w:World} {R:Ending→World→Prop} (hc:RoundIn Fence.wide n P l f tmps assign body w R):RoundIn F n P l f tmps assign body w R:=by
 rcases h with rfl|⟨l,rfl⟩
 ·exact hc
 ·exact hc
theorem semAt_eq {o:Oper} (h:∀ c,o.op≠.defer c) (r:Option Nat) (ρ:Operand→Value):o.semAt r ρ=execOp ρ o:=by
 cases r with
 |none=>exact Oper.semAt_none ρ o
 |some l=>exact Oper.semAt_some l ρ o h
section
variable {P:Program} {F:Fence} {C:Ctx} {n L nb:Nat} {σ σ':Nat→Nat} {T T' T1 T2:Tags} {st st' st1:St} {a:Act} {w w1:World} {o:Oper} {vo:gq} {y:Operand} {x:bI} {d:Nat}
 {rec:ak→St→Option (Ex × St)} {env:Env} {next:Act→World→Prop} {Q:Exit→Act→World→Prop}
theorem qX (hm:m1 P o vo=true) (c:Call):o.op≠.defer c:=by
 intro e
 simp only [m1,Bool.and_eq_true] at hm
 cases vo<;>simp [mv,e,SA,La,FN,FP] at hm
theorem After.rY (hC:C.Ok P L) (hs:aF L σ' T' st' a w1) (hJ:C.J st'.ys.length T w) (hch:uV T T' w w1) (hσ:∀ k,k<nb→σ' k=σ k):After C L nb σ T w st' a.defers a w1 :=
 ⟨σ',T',[],hs,hC.keep _ _ _ _ _ hch hJ,hσ,hch.stays,rfl,Marks.nil⟩
theorem put_defers {d:Option Nat} {v:Value}:(a.put d v).defers=a.defers:=by
 cases d<;>rfl
theorem Cm (hF:jT F) (hm:m1 P o vo=true) {v:Value} {nx:Next} (hr:(execOp a.eval o).run P w=.ok nx w1) (hnx:nx=.value v∨nx=.skip∧v=undef) (h:next (a.put o.dst v) w1):o.wpIn F n P a w next Q:=by
 refine ⟨fun f _=>hF.fn f,?_⟩
 rw [semAt_eq (qX hm),hr]
 rcases hnx with rfl|⟨rfl,rfl⟩
 ·exact h
 ·exact h
theorem rZ {ρ:Operand→Value} {y:Operand} {ys:List Operand} {ats:Array TypeId} {f:Nat} {cap:Array Value} (ho:o.op=.call { callee:=.value y,args:=ys.toArray,argTypes:=ats }) (hy:ρ y=.func (.func f) #[] cap) (hf:callable P f=true) (w:World) :
  (execOp ρ o).run P w=.ok (.enter f ((ys.map ρ).toArray++cap)) w:=by
 have:=rX hf ((ys.map ρ).toArray++cap) w
 simp [execOp,ho,resolve,Deferred.ofValue,hy,invoke,this]
theorem CB {ok:Nat→Prop} {f:Nat} {caps:List PV} {v:Value} (h:ay ok w (.func f caps) v):∃ arr:Array Value,v=.func (.func f) #[] arr∧arr.size=caps.length∧∀ (k:Nat) p u,caps[k]?=some p→arr[k]?=some u→ay ok w p u:=by
 cases h;exact ⟨_,rfl,by assumption,by assumption⟩
def Grow (nb:Nat) (st st':St):Prop:=nb≤st'.boxes.length∧st.ys <+: st'.ys∧st'.stop=st.stop
theorem aK.grow (h:aK st st'):Grow st.boxes.length st st':=⟨h.1,by rw [h.2.1];exact List.prefix_refl _,h.2.2⟩
theorem Grow.trans {n1 n2:Nat} (h:Grow n1 st st1) (k:Grow n2 st1 st'):Grow n2 st st':=⟨k.1,h.2.1.trans k.2.1,k.2.2.trans h.2.2⟩
theorem Grow.mono {n1 n2:Nat} (h:Grow n1 st st1) (k:n2≤n1):Grow n2 st st1:=⟨Nat.le_trans k h.1,h.2.1,h.2.2⟩
theorem CG (h:act rec env vo st=some st'):Grow st.boxes.length st st':=by
 by_cases hv:∃ d x xs,vo=.yield d x xs
 ·obtain ⟨d,x,xs,rfl⟩:=hv
  simp only [act] at h
  split at h
  ·replace h:=bind_some h
   obtain ⟨stop,_,h⟩:=h
   replace h:=bind_some h
   obtain ⟨⟨vs,st1⟩,h1,h⟩:=h
   obtain ⟨m1,m2,m3⟩:=jZ h1
   simp only at h
   split at h
   ·rw [← Option.some.inj h];exact ⟨m1,by rw [← m2];exact List.prefix_append _ _,m3⟩
   ·split at h
    ·rw [← Option.some.inj h];exact ⟨m1,by rw [← m2];exact List.prefix_append _ _,m3⟩
    ·cases h
  ·cases h
 ·exact (KY (fun d x xs e=>hv ⟨d,x,xs,e⟩) h).grow
theorem Lj (h:op1 rec env vo st=some st'):Grow st.boxes.length st st':=by
 unfold op1 at h
 split at h
 ·exact CG h
 ·exact (rV h).grow
theorem gV (h:op rec env vo st=some st'):Grow st.boxes.length st st':=by
 unfold op at h
 split at h
 ·split at h
  ·split at h
   ·exact Lj h
   ·split at h
    ·rw [← Option.some.inj h];exact ((aK.refl _).put _ _).grow
    ·rw [← Option.some.inj h];exact (aK.refl _).grow
  ·split at h
   ·split at h
    ·rw [← Option.some.inj h];exact ((aK.refl _).put _ _).grow
    ·rw [← Option.some.inj h];exact (aK.refl _).grow
   ·cases h
  ·cases h
 ·exact Lj h
theorem aF.ys (h:aF L σ T st a w) (l:List (List PV)):aF L σ T { st with ys:=l } a w:=⟨h.size,h.slots,h.boxes,h.fresh⟩
def calm (o:gq):Bool:=match o with
 |.call ..|.jP ..=>true
 |o=>!kY o || rQ o
theorem zu (hW:jT F) (hC:C.Ok P L) (aS:fA P rec env) (h:aF L σ T st a w) (hJ:C.J st.ys.length T w) (hd:o.dst=some d) (hm1:m1 P o vo=true) {ys:List Operand} {ats:Array TypeId} (ho:o.op=.call { callee:=.value y,args:=ys.toArray,argTypes:=ats }) {xs:List bI} (hm:lX ys xs=true) {caps:List AV} {oO:Array Value} {f:Nat} (hy:a.eval y=.func (.func f) #[] oO)
  (hc:oO.size=caps.length) (hcr:∀ (k:Nat) c u,caps[k]?=some c→oO[k]?=some u→gy st.boxes.length σ T w c u)
  (hp:ji rec env d f xs caps st=some st') (hn:∀ a' w',After C L st.boxes.length σ T w st' a.defers a' w'→(calm vo=true→Whole w w')→next a' w'):o.wpIn F n P a w next Q:=by
 obtain ⟨hcall,hok⟩:=Ii (oO:=oO.toList) aS h (hC.glob _ _ _ hJ) hm (by simpa using hc) (fun k c u h1 h2=>hcr k c u h1 (by simpa using h2)) hp
 refine ⟨fun f _=>hW.fn f,?_⟩
 rw [semAt_eq (qX hm1),rZ ho hy hcall]
 refine ⟨fun e=>absurd e (by rw [hW.depth];simp),hW.calls ?_⟩
 have hargs:(ys.map a.eval++oO.toList).toArray=(ys.map a.eval).toArray++oO:=by simp
 rw [← hargs]
 refine hok.mono ?_
 rintro e w' ⟨v,T2,rfl,g1,g2,g3⟩
 refine hn _ _ ?_ fun _=>g3
 rw [hd,← put_defers (a:=a) (d:=some d) (v:=v)]
 exact After.rY hC g1 (by rw [(pY hp).2.1];exact hJ) g2 (fun _ _=>rfl)
theorem wQ (hW:jT F) (hC:C.Ok P L) (aS:fA P rec env) (h:aF L σ T st a w) (hJ:C.J st.ys.length T w) (hd:o.dst=some d) (hm1:m1 P o vo=true) {z:Operand} {ys:List Operand} {ats:Array TypeId} (ho:o.op=.call { callee:=.value z,args:=(y :: ys).toArray,argTypes:=ats }) (hmx:aQ y x=true) {xs:List bI} (hm:lX ys xs=true) {caps:List AV} {oO:Array Value} {f:Nat} (hy:a.eval z=.func (.func f) #[] oO)
  (hc:oO.size=caps.length) (hcr:∀ (k:Nat) c u,caps[k]?=some c→oO[k]?=some u→gy st.boxes.length σ T w c u)
  (hp:iI rec env d f x xs caps st=some st') (hn:∀ a' w',After C L st.boxes.length σ T w st' a.defers a' w'→next a' w'):o.wpIn F n P a w next Q:=by
 obtain ⟨hcall,hok⟩:=EP (oO:=oO.toList) aS h (hC.glob _ _ _ hJ) hmx hm (by simpa using hc) (fun k c u h1 h2=>hcr k c u h1 (by simpa using h2)) hp
 refine ⟨fun f _=>hW.fn f,?_⟩
 rw [semAt_eq (qX hm1),rZ ho hy hcall]
 refine ⟨fun e=>absurd e (by rw [hW.depth];simp),hW.calls ?_⟩
 have hargs:(a.eval y :: (ys.map a.eval++oO.toList)).toArray=((y :: ys).map a.eval).toArray++oO:=by simp
 rw [← hargs]
 refine hok.mono ?_
 rintro e w' ⟨v,T2,rfl,g1,g2⟩
 refine hn _ _ ?_
 rw [hd,← put_defers (a:=a) (d:=some d) (v:=v)]
 exact After.rY hC g1 (by rw [(og hp).2.1];exact hJ) g2 (fun _ _=>rfl)
theorem X7 (hW:jT F) (hC:C.Ok P L) (aS:fA P rec env) (h:aF L σ T st a w) (hJ:C.J st.ys.length T w) (hst:st.stop=C.stop) (hm:m1 P o vo=true) (hp:op1 rec env vo st=some st') (hX:st'.ys <+: C.X)
  (hn:∀ a' w',After C L st.boxes.length σ T w st' a.defers a' w'→(calm vo=true→Whole w w')→next a' w'):o.wpIn F n P a w next Q:=by
 unfold op1 at hp
 split at hp
 case isFalse =>
  obtain ⟨v,T',h1,h2,h3⟩:=zZ h hm hp
  refine Cm hW hm (h1 w (pO.refl T w)) (.inl rfl) (hn _ _ ?_ fun _=>Whole.refl w)
  rw [← put_defers (a:=a) (d:=o.dst) (v:=v)]
  exact After.rY hC h2 (by rw [(rV hp).2.1];exact hJ) (h3.nM w) (fun _ _=>rfl)
 case isTrue =>
  by_cases hc:∃ d f xs,vo=.call d f xs
  ·obtain ⟨d,f,xs,rfl⟩:=hc
   have hm':=hm
   simp only [m1,Bool.and_eq_true,beq_iff_eq,mv] at hm'
   obtain ⟨hd,hm'⟩:=hm'
   split at hm'<;>try (cases hm';done)
   rename_i g ys ho
   simp only [Bool.and_eq_true,beq_iff_eq] at hm'
   obtain ⟨rfl,hm'⟩:=hm'
   obtain ⟨ats,ho⟩:=xP ho
   exact zu hW hC aS h hJ hd hm ho hm' (caps:=[]) (oO:=#[]) rfl rfl (fun k c u e=>by simp at e) hp hn
  ·by_cases hv:∃ d x xs,vo=.jP d x xs
   ·obtain ⟨d,x,xs,rfl⟩:=hv
    have hm':=hm
    simp only [m1,Bool.and_eq_true,beq_iff_eq,mv] at hm'
    obtain ⟨hd,hm'⟩:=hm'
    split at hm'<;>try (cases hm';done)
    rename_i y ys ho
    simp only [Bool.and_eq_true] at hm'
    obtain ⟨hx,hm'⟩:=hm'
    obtain ⟨ats,ho⟩:=Cc ho
    simp only [act] at hp
    split at hp
    ·rename_i f caps hg
     obtain ⟨t,hrep⟩:∃ t,jy L σ T st a w t (.pv (.func f caps)) (a.eval y):=by
      rcases h.get hx with ⟨t,rfl,(⟨_,g⟩|g)⟩|⟨v',rfl,g⟩|⟨s,rfl,g⟩
      ·rw [hg] at g;exact ⟨t,g⟩
      ·rw [g] at hg;cases hg
      ·simp only [St.get,AV.pv.injEq] at hg;subst hg;exact ⟨0,g⟩
      ·simp [St.get] at hg
     obtain ⟨arr,e1,e2,e3⟩:=CB hrep
     exact zu hW hC aS h hJ hd hm ho hm' (caps:=caps.map .pv) (oO:=arr) e1 (by simpa using e2) (fun k c u h1 h2=>by
      rw [List.getElem?_map] at h1
      cases hk:caps[k]? with
      |none=>rw [hk] at h1;cases h1
      |some p=>rw [hk] at h1;cases h1;exact e3 k p u hk h2) hp hn
    ·rename_i f caps hg
     obtain ⟨t,hrep⟩:∃ t,jy L σ T st a w t (.fn f caps) (a.eval y):=by
      rcases h.get hx with ⟨t,rfl,(⟨_,g⟩|g)⟩|⟨v',rfl,g⟩|⟨s,rfl,g⟩
      ·rw [hg] at g;exact ⟨t,g⟩
      ·rw [g] at hg;cases hg
      ·simp [St.get] at hg
      ·simp [St.get] at hg
     obtain ⟨arr,e1,e2,e3⟩:=hrep
     exact zu hW hC aS h hJ hd hm ho hm' (caps:=caps) (oO:=arr) e1 e2 e3 hp hn
    ·cases hp
   ·by_cases hli:∃ d f x xs,vo=.lin d f x xs
    ·obtain ⟨d,f,x,xs,rfl⟩:=hli
     have hm':=hm
     simp only [m1,Bool.and_eq_true,beq_iff_eq,mv] at hm'
     obtain ⟨hd,hm'⟩:=hm'
     split at hm'<;>try (cases hm';done)
     rename_i g y ys ho
     simp only [Bool.and_eq_true,beq_iff_eq] at hm'
     obtain ⟨⟨rfl,hmx⟩,hm'⟩:=hm'
     obtain ⟨ats,ho⟩:=xP ho
     exact wQ hW hC aS h hJ hd hm ho hmx hm' (caps:=[]) (oO:=#[]) rfl rfl (fun k c u e=>by simp at e) hp fun a' w' hA=>hn a' w' hA fun e=>by simp [calm,kY,rQ] at e
    by_cases hlv:∃ d g x xs,vo=.linv d g x xs
    ·obtain ⟨d,z,x,xs,rfl⟩:=hlv
     have hm':=hm
     simp only [m1,Bool.and_eq_true,beq_iff_eq,mv] at hm'
     obtain ⟨hd,hm'⟩:=hm'
     split at hm'<;>try (cases hm';done)
     rename_i yz y ys ho
     simp only [Bool.and_eq_true] at hm'
     obtain ⟨⟨hx,hmx⟩,hm'⟩:=hm'
     obtain ⟨ats,ho⟩:=Cc ho
     simp only [act] at hp
     split at hp
     ·rename_i f caps hg
      obtain ⟨t,hrep⟩:∃ t,jy L σ T st a w t (.pv (.func f caps)) (a.eval yz):=by
       rcases h.get hx with ⟨t,rfl,(⟨_,g⟩|g)⟩|⟨v',rfl,g⟩|⟨s,rfl,g⟩
       ·rw [hg] at g;exact ⟨t,g⟩
       ·rw [g] at hg;cases hg
       ·simp only [St.get,AV.pv.injEq] at hg;subst hg;exact ⟨0,g⟩
       ·simp [St.get] at hg
      obtain ⟨arr,e1,e2,e3⟩:=CB hrep
      exact wQ hW hC aS h hJ hd hm ho hmx hm' (caps:=caps.map .pv) (oO:=arr) e1 (by simpa using e2) (fun k c u h1 h2=>by
       rw [List.getElem?_map] at h1
       cases hk:caps[k]? with
       |none=>rw [hk] at h1;cases h1
       |some p=>rw [hk] at h1;cases h1;exact e3 k p u hk h2) hp fun a' w' hA=>hn a' w' hA fun e=>by simp [calm,kY,rQ] at e
     ·rename_i f caps hg
      obtain ⟨t,hrep⟩:∃ t,jy L σ T st a w t (.fn f caps) (a.eval yz):=by
       rcases h.get hx with ⟨t,rfl,(⟨_,g⟩|g)⟩|⟨v',rfl,g⟩|⟨s,rfl,g⟩
       ·rw [hg] at g;exact ⟨t,g⟩
       ·rw [g] at hg;cases hg
       ·simp [St.get] at hg
       ·simp [St.get] at hg
      obtain ⟨arr,e1,e2,e3⟩:=hrep
      exact wQ hW hC aS h hJ hd hm ho hmx hm' (caps:=caps) (oO:=arr) e1 e2 e3 hp fun a' w' hA=>hn a' w' hA fun e=>by simp [calm,kY,rQ] at e
     ·cases hp
    by_cases hsr:∃ d f x g,vo=.Kv d f x g
    ·obtain ⟨d,f,x,g,rfl⟩:=hsr
     have hm':=hm
     simp only [m1,Bool.and_eq_true,beq_iff_eq,mv] at hm'
     obtain ⟨hd,hm'⟩:=hm'
     split at hm'<;>try (cases hm';done)
     rename_i f' y1 y2 ho
     simp only [Bool.and_eq_true,beq_iff_eq] at hm'
     obtain ⟨⟨rfl,hm1⟩,hm2⟩:=hm'
     obtain ⟨ats,ho⟩:=xP ho
     simp only [act] at hp
     split at hp
     case h_2=>cases hp
     rename_i hh henv
     replace hp:=bind_some hp
     obtain ⟨⟨r,off,len⟩,h2,hp⟩:=hp
     replace hp:=bind_some hp
     obtain ⟨⟨sz,es⟩,h3,hp⟩:=hp
     replace hp:=bind_some hp
     obtain ⟨c,h4,hp⟩:=hp
     replace hp:=bind_some hp
     obtain ⟨es',h5,hp⟩:=hp
     simp only at hp
     split at hp
     case isFalse=>cases hp
     rename_i hc3
     obtain ⟨rfl,rfl,hc3⟩:=hc3
     have hp:=Option.some.inj hp
     subst hp
     obtain ⟨hcall,hok⟩:=aS.2.1 f' hh henv
     obtain ⟨xa,m,cp,x',p1,p2,p3,-,-⟩:=h.place hm1 h2 h3
     obtain ⟨u,p5,p6⟩:=h.ug h3
     have hu:a.eval y1=u:=by
      rw [p5] at p1;cases p1
      have hm:m=es.length:=by
       rcases p6 with ⟨e1,_,e2⟩|⟨_,_,_,_,e2,_⟩
       ·cases e2;rw [e1];rfl
       ·cases e2;rfl
      rw [p2,p3 rfl,hm,Nat.sub_zero]
     have hk:=hok c sz es es' h5 T w r u (a.eval y2) h.fresh p6 (h.pv hm2 h4)
     refine ⟨fun f _=>hW.fn f,?_⟩
     rw [semAt_eq (qX hm),rZ (cap:=#[]) ho rfl hcall]
     refine ⟨fun e=>absurd e (by rw [hW.depth];simp),hW.calls ?_⟩
     have hargs:([y1,y2].map a.eval).toArray++#[]=#[u,a.eval y2]:=by simp [hu]
     rw [hargs]
     refine hk.mono ?_
     rintro e w' ⟨v,rfl,k1,k2,k3,k4,k5,k6⟩
     obtain ⟨g1,g2⟩:=h.abS h3 p5 k1 k2 k3 k4 k5 k6
     refine hn _ _ ?_ fun e=>by simp [calm,kY,rQ] at e
     have hd':o.dst=some d:=hd
     rw [hd',← put_defers (a:=a) (d:=some d) (v:=v)]
     refine After.rY hC g1.XE ?_ g2 (fun _ _=>rfl)
     have:((st.setRow r sz es').put d .any).ys=st.ys:=by cases r<;>simp [St.setRow,St.put,St.setCell]<;>split<;>rfl
     rw [this];exact hJ
    by_cases hyl:∃ d x xs,vo=.yield d x xs
    ·obtain ⟨d,x,xs,rfl⟩:=hyl
     have hm':=hm
     simp only [m1,Bool.and_eq_true,beq_iff_eq,mv] at hm'
     obtain ⟨hd,hm'⟩:=hm'
     split at hm'<;>try (cases hm';done)
     rename_i y ys ho
     simp only [Bool.and_eq_true] at hm'
     obtain ⟨hx,hm'⟩:=hm'
     obtain ⟨ats,ho⟩:=Cc ho
     simp only [act] at hp
     split at hp
     ·rename_i hg
      have hev:a.eval y=.func (.yield L) #[] #[]:=by
       rcases h.get hx with ⟨t,rfl,(⟨_,g⟩|g)⟩|⟨v',rfl,g⟩|⟨s,rfl,g⟩
       ·rw [hg] at g;exact g
       ·rw [g] at hg;cases hg
       ·simp [St.get] at hg
       ·simp [St.get] at hg
      replace hp:=bind_some hp
      obtain ⟨s,hs,hp⟩:=hp
      replace hp:=bind_some hp
      obtain ⟨⟨vs,st1⟩,h1,hp⟩:=hp
      obtain ⟨m1',m2,m3⟩:=jZ h1
      obtain ⟨T1,k1,k2,k3,k4,k5⟩:=h.dU hm' h1
      have hp':st'=({ st1 with ys:=st1.ys++[vs] }:St).put d (.pv (.bool (um s st.ys.length))):=by
       simp only at hp
       rw [← m2]
       split at hp
       ·exact (Option.some.inj hp).symm
       ·split at hp
        ·exact (Option.some.inj hp).symm
        ·cases hp
      subst hp'
      have hys:C.X[st.ys.length]?=some vs:=by
       obtain ⟨t,ht⟩:=hX
       simp only [St.put] at ht
       rw [← ht,m2];simp
      have hJ1:C.J st.ys.length T1 w:=hC.keep _ _ _ _ _ (k2.nM w) hJ
      obtain ⟨f,tmps,assign,body,r1,r2⟩:=hC.pK s _ T1 w vs (ys.map a.eval) (hst ▸ hs) hys k1.fresh hJ1 (by simp [k4]) (fun i p v hp' hv=>by
       rw [List.getElem?_map] at hv
       cases hk:ys[i]? with
       |none=>rw [hk] at hv;cases hv
       |some y=>rw [hk] at hv;cases hv;exact k5 i p y hp' hk)
      refine ⟨fun f _=>hW.fn f,?_⟩
      have hrun:(execOp a.eval o).run P w=.ok (.round L f tmps assign body) w:=by
       simp [execOp,ho,resolve,Deferred.ofValue,hev,invoke,r1]
      rw [semAt_eq (qX hm),hrun]
      refine ⟨fun e=>absurd e (by rw [hW.depth];simp),hW.abW ((r2 _).mono ?_)⟩
      rintro e w' ⟨rfl,q1,q2⟩
      refine hn _ _ ?_ (fun e=>by simp [calm,kY,rQ] at e)
      rw [hd,← put_defers (a:=a) (d:=some d) (v:=.bool (um s st.ys.length))]
      exact ⟨σ,T1,[],((k1.sees q2).ys _).wu (.bool _),by
       have:(({ st1 with ys:=st1.ys++[vs] }:St).put d (.pv (.bool (um s st.ys.length)))).ys.length=st.ys.length+1:=by simp [St.put,m2]
       rw [this];exact q1,fun _ _=>rfl,⟨q2.1,k2.ro,fun b hb e=>q2.2 b (by rw [k2.ro b e];simp) hb⟩,rfl,Marks.nil⟩
     ·cases hp
    ·obtain ⟨nx,v,w1,σ',T',g1,g2,g3,g4,g5,g6⟩:=UM h hm (fun d f xs e=>hc ⟨d,f,xs,e⟩) (fun d f xs e=>hv ⟨d,f,xs,e⟩) (fun d f xs e=>hyl ⟨d,f,xs,e⟩) (fun d f x g e=>hsr ⟨d,f,x,g,e⟩) (fun d f x xs e=>hli ⟨d,f,x,xs,e⟩) (fun d g x xs e=>hlv ⟨d,g,x,xs,e⟩) hp
     refine Cm hW hm g1 g2 (hn _ _ ?_ fun hcm=>g6 ?_)
     ·rw [← put_defers (a:=a) (d:=o.dst) (v:=v)]
      exact After.rY hC g3 (by rw [(KY (fun d f xs e=>hyl ⟨d,f,xs,e⟩) hp).2.1];exact hJ) g4 g5
     ·have hact:kY vo=true:=by assumption
      cases vo<;>first|exact absurd ⟨_,_,_,rfl⟩ hc|exact absurd ⟨_,_,_,rfl⟩ hv|(simpa [calm,hact] using hcm)
end
end Go.Proofs.YtaaokejjmdbfaaaDoor

namespace Go.Proofs.YtaaokejjmdbfaaaDoor
open Go.RowKit
def wR (F:Fence) (n:Nat) (P:Program) (c:Code) (Q:Exit→Act→World→Prop) (a:Act) (w:World):Prop :=
 ∀ (b:Frame) (k:List Item) (cs:List Frame),b.roundOf=F.round→F.fn b.fn→F.room (cs.length+1+n) →
  ∃ e a' w',Q e a' w'∧ArrivesIn (Machine.fenced P F) P (lone (b.atR a (.code c :: .inLoop c :: k)) cs w) b k cs e a' w'
section
variable {F:Fence} {n:Nat} {P:Program} {c:Code} {Q:Exit→Act→World→Prop} {a:Act} {w:World}
theorem Ij (h:wR F n P c Q a w):(Code.loop c).wpIn F n P Q a w:=fun b k cs hro hb hr =>
 let ⟨e,a',w',hq,harr⟩:=h b k cs hro hb hr
 ⟨e,a',w',hq,.of_steps (.one (fenced_calm hb hr rfl) stepR_loop) harr⟩
theorem Ll (h:c.wpIn F n P (Exit.then (wR F n P c Q) Q) a w):wR F n P c Q a w:=by
 intro b k cs hro hb hr
 obtain ⟨e,a₁,w₁,hq,harr⟩:=h b (.inLoop c :: k) cs hro hb hr
 cases e with
 |normal =>
  obtain ⟨e₂,a₂,w₂,hq₂,harr₂⟩:=hq b k cs hro hb hr
  exact ⟨e₂,a₂,w₂,hq₂,.of_steps (StepsIn.trans harr (.one (fenced_calm hb hr rfl) stepR_inLoop)) harr₂⟩
 |exit id=>exact ⟨_,a₁,w₁,hq,.pass (x:=.inLoop c) rfl (fun _ _=>.inl (by simp)) harr⟩
 |goto l=>exact ⟨_,a₁,w₁,hq,.pass (x:=.inLoop c) rfl (fun _ _=>.inl (by simp)) harr⟩
 |ret=>exact ⟨_,a₁,w₁,hq,.pass (x:=.inLoop c) rfl (fun _ _=>.inl (by simp)) harr⟩
 |panic ch=>exact ⟨_,a₁,w₁,hq,.pass (x:=.inLoop c) rfl (fun _ _=>.inl (by simp)) harr⟩
 |outgrown=>exact ⟨_,a₁,w₁,hq,.pass (x:=.inLoop c) rfl (fun _ _=>.inl (by simp)) harr⟩
theorem Lm {Q':Exit→Act→World→Prop} (h:wR F n P c Q a w) (hq:∀ e a w,Q e a w→Q' e a w):wR F n P c Q' a w :=
 fun b k cs hro hb hr=>let ⟨e,a',w',q,r⟩:=h b k cs hro hb hr;⟨e,a',w',hq _ _ _ q,r⟩
end
def mG (P:Program) (ops:Array Oper) (o:Oper):gq→Bool
 |.grd g want v=>(match o.guard with
  |some (j,b)=>b==want&&(ops[j]?).bind (·.dst)==some g
  |none=>false)&&m1 P o v
 |v=>o.guard.isNone&&m1 P o v
def mL (P:Program) (ops:Array Oper):List Oper→List gq→Bool
 |[],[]=>true
 |o :: os,v :: vs=>mG P ops o v&&mL P ops os vs
 |_,_=>false
section
variable {P:Program} {F:Fence} {C:Ctx} {n L nb:Nat} {σ σ':Nat→Nat} {T T' T1 T2:Tags} {st st' st1:St} {a a1:Act} {w w1:World} {o:Oper} {vo:gq} {y:Operand} {x:bI} {d:Nat}
 {rec:ak→St→Option (Ex × St)} {env:Env} {next:Act→World→Prop} {Q:Exit→Act→World→Prop} {bM:Array Oper} {ds:List Deferred} {e:Ex}
theorem After.refl (h:aF L σ T st a w) (hJ:C.J st.ys.length T w):After C L nb σ T w st a.defers a w :=
 ⟨σ,T,[],h,hJ,fun _ _=>rfl,cu.refl T w,rfl,Marks.nil⟩
theorem After.trans {nb1:Nat} {σ1:Nat→Nat} {ms:List Nat} (hs:cu T T1 w w1) (hσ:∀ k,k<nb→σ1 k=σ k) (hd:a1.defers=ms.map jC++ds) (hms:Marks T1 w w1 ms) (hnb:nb≤nb1)
  {a':Act} {w':World} (h:After C L nb1 σ1 T1 w1 st' a1.defers a' w'):After C L nb σ T w st' ds a' w':=by
 obtain ⟨σ',T',ms',g1,g2,g3,g4,g5,g6⟩:=h
 refine ⟨σ',T',ms'++ms,g1,g2,fun k hk=>(g3 k (Nat.lt_of_lt_of_le hk hnb)).trans (hσ k hk),hs.trans g4,by rw [g5,hd];simp,fun r hr=>?_,List.nodup_append.2 ⟨g6.2,hms.2,fun x hx y hy e=>?_⟩⟩
 ·rcases List.mem_append.1 hr with hr|hr
  ·obtain ⟨k1,k2,k3⟩:=g6.1 r hr
   exact ⟨Nat.le_trans hs.size k1,k2,k3⟩
  ·obtain ⟨k1,k2,k3⟩:=hms.1 r hr
   have hl:r<w1.heap.size:=(Array.getElem?_eq_some_iff.1 k3).1
   exact ⟨k1,g4.ro r k2,(g4.same r hl k2).trans k3⟩
 ·have k1:=(g6.1 x hx).1
  have hl:y<w1.heap.size:=(Array.getElem?_eq_some_iff.1 (hms.1 y hy).2.2).1
  omega
def Lp:gq→Bool
 |.grd _ _ v=>calm v
 |v=>calm v
theorem aF.ahE (h:aF L σ T st a w) {d:Nat}:aF L σ T (st.put d (.jO false [])) (a.put (some d) undef) w :=
 h.put (fun _ _ e=>by cases e) ⟨#[],rfl,rfl,fun k x u e=>by simp at e⟩
theorem FV {g:Nat} {want:Bool} {v:gq} (h:aF L σ T st a w) (hm:mG P bM o (.grd g want v)=true) (hp:op rec env (.grd g want v) st=some st') :
  (Region.wanted o (yielded bM a.tmps)=true∧m1 P o v=true∧op1 rec env v st=some st')∨(Region.wanted o (yielded bM a.tmps)=false∧aF L σ T st' (a.put o.dst undef) w∧st'.ys=st.ys):=by
 simp only [mG,Bool.and_eq_true] at hm
 obtain ⟨hm1,hm⟩:=hm
 split at hm1
 case h_2=>cases hm1
 rename_i j b hgd
 simp only [Bool.and_eq_true,beq_iff_eq] at hm1
 obtain ⟨rfl,hj⟩:=hm1
 have hd:o.dst=cO v:=by
  have hm':=hm
  simp only [m1,Bool.and_eq_true,beq_iff_eq] at hm'
  exact hm'.1
 have aey:∀ {s:St},(match cO v with
   |some d=>some (st.put d (.jO false []))
   |none=>some st)=some s→aF L σ T s (a.put o.dst undef) w∧s.ys=st.ys:=by
  intro s hp
  rw [hd]
  split at hp
  ·rename_i d hd2
   rw [hd2]
   have hp:=Option.some.inj hp;subst hp
   exact ⟨h.ahE,rfl⟩
  ·rename_i hd2
   rw [hd2]
   have hp:=Option.some.inj hp;subst hp
   exact ⟨h,rfl⟩
 have slot:∀ {x:AV},st.slots.getD g .any=x→x≠.any→st.slots[g]?=some x∧∃ u,a.tmps[g]?=some u∧jy L σ T st a w g x u:=by
  intro x hs hx
  simp only [List.getD_eq_getElem?_getD] at hs
  cases e:st.slots[g]? with
  |none=>rw [e] at hs;exact absurd hs.symm hx
  |some y =>
   rw [e] at hs
   have hs:y=x:=hs
   subst hs
   have hlt:g<a.tmps.size:=by rw [h.size];exact (List.getElem?_eq_some_iff.1 e).1
   exact ⟨rfl,_,Array.getElem?_eq_getElem hlt,h.slots g _ _ e (Array.getElem?_eq_getElem hlt)⟩
 simp only [op] at hp
 split at hp
 ·rename_i t hs
  obtain ⟨_,u,hu,hr⟩:=slot hs (by simp)
  have hu:a.tmps[g]?=some (.bool t):=by rw [hu,ay.oM hr]
  have hy:yielded bM a.tmps j=some t:=by simp [yielded,hj,hu]
  have hw:Region.wanted o (yielded bM a.tmps)=(t==b):=by
   simp only [Region.wanted,hgd,hy]
   cases t<;>cases b<;>rfl
  by_cases htb:t=b
  ·subst htb
   simp only [↓reduceIte] at hp
   exact .inl ⟨by simp [hw],hm,hp⟩
  ·rw [if_neg htb] at hp
   exact .inr ⟨by simpa [hw] using htb,aey hp⟩
 ·rename_i kk l hs
  obtain ⟨_,u,hu,arr,rfl,_⟩:=slot hs (by simp)
  have hy:yielded bM a.tmps j=none:=by
   cases kk<;>simp [yielded,hj,hu,ae4]
  split at hp
  ·exact .inr ⟨by simp [Region.wanted,hgd,hy],aey hp⟩
  ·cases hp
 ·cases hp
theorem X8 (hW:jT F) (hC:C.Ok P L) (aS:fA P rec env) (h:aF L σ T st a w) (hJ:C.J st.ys.length T w) (hst:st.stop=C.stop) (hm:mG P bM o vo=true) (hp:op rec env vo st=some st') (hX:st'.ys <+: C.X)
  (hn:∀ a' w',After C L st.boxes.length σ T w st' a.defers a' w'→(Lp vo=true→Whole w w')→next a' w') :
  if Region.wanted o (yielded bM a.tmps) then o.wpIn F n P a w next Q else (∀ f,o.about P w a.eval=some f→F.fn f)∧next (a.put o.dst undef) w:=by
 by_cases hg:∃ g want v,vo=.grd g want v
 ·obtain ⟨g,want,v,rfl⟩:=hg
  rcases FV h hm hp with ⟨g1,g2,g3⟩|⟨g1,g2,g3⟩
  ·rw [g1]
   simp only [↓reduceIte]
   exact X7 hW hC aS h hJ hst g2 g3 hX hn
  ·rw [g1]
   simp only [Bool.false_eq_true,↓reduceIte]
   refine ⟨fun f _=>hW.fn f,hn _ _ ?_ fun _=>Whole.refl w⟩
   rw [← put_defers (a:=a) (d:=o.dst) (v:=undef)]
   exact After.rY hC g2 (by rw [g3];exact hJ) (uV.refl T w) (fun _ _=>rfl)
 ·have hm':o.guard.isNone=true∧m1 P o vo=true:=by
   cases vo<;>first|exact Bool.and_eq_true_iff.1 hm|exact absurd ⟨_,_,_,rfl⟩ hg
  have hp':op1 rec env vo st=some st':=by
   cases vo<;>first|exact hp|exact absurd ⟨_,_,_,rfl⟩ hg
  have hw:Region.wanted o (yielded bM a.tmps)=true:=by
   simp only [Region.wanted,Option.isNone_iff_eq_none.1 hm'.1]
  rw [hw]
  refine X7 hW hC aS h hJ hst hm'.2 hp' hX fun a' w' g1 g2=>hn _ _ g1 fun e=>g2 ?_
  cases vo<;>first|exact e|exact absurd ⟨_,_,_,rfl⟩ hg
theorem fC:∀ {l:List gq} {st st':St},ops rec env l st=some st'→Grow st.boxes.length st st'
 |[],st,st',h=>by simp only [ops,Option.some.injEq] at h;subst h;exact (aK.refl _).grow
 |v :: l,st,st',h=>by
  simp only [ops] at h
  obtain ⟨st1,h1,h2⟩:=bind_some h
  exact ((gV h1).trans (fC h2)).mono (gV h1).1
theorem Ik (hW:jT F) (hC:C.Ok P L) (aS:fA P rec env) (hX:st'.ys <+: C.X):∀ {l:List Oper} {vs:List gq} {st:St} {σ:Nat→Nat} {T:Tags} {a:Act} {w:World},aF L σ T st a w→C.J st.ys.length T w→st.stop=C.stop→mL P bM l vs=true→ops rec env vs st=some st' →
  (∀ a' w',After C L st.boxes.length σ T w st' a.defers a' w'→Q .normal a' w')→wpListIn F n P bM Q l a w
 |[],[],st,σ,T,a,w,h,hJ,_,_,hp,hn=>by
  simp only [ops,Option.some.injEq] at hp;subst hp
  exact hn _ _ (After.refl h hJ)
 |[],_ :: _,_,_,_,_,_,_,_,_,hm,_,_=>by simp [mL] at hm
 |_ :: _,[],_,_,_,_,_,_,_,_,hm,_,_=>by simp [mL] at hm
 |o :: l,v :: vs,st,σ,T,a,w,h,hJ,hst,hm,hp,hn=>by
  simp only [mL,Bool.and_eq_true] at hm
  simp only [ops] at hp
  obtain ⟨st1,h1,h2⟩:=bind_some hp
  have g1:=gV h1
  have g2:=fC h2
  simp only [wpListIn]
  refine X8 hW hC aS h hJ hst hm.1 h1 (g2.2.1.trans hX) ?_
  rintro a1 w1 ⟨σ1,T1,ms,k1,k2,k3,k4,k5,k6⟩ _
  exact Ik hW hC aS hX k1 k2 (g1.2.2.trans hst) hm.2 h2 fun a' w' hA=>hn _ _ (After.trans k4 k3 k5 k6 g1.1 hA)
theorem Il (hW:jT F) (hC:C.Ok P L) (aS:fA P rec env) {l2:List Oper} (hX:st'.ys <+: C.X):∀ {l:List Oper} {vs:List gq} {st:St} {σ:Nat→Nat} {T:Tags} {a:Act} {w:World},aF L σ T st a w→C.J st.ys.length T w→st.stop=C.stop→mL P bM l vs=true→ops rec env vs st=some st' →
  (∀ a' w',After C L st.boxes.length σ T w st' a.defers a' w'→wpListIn F n P bM Q l2 a' w')→wpListIn F n P bM Q (l++l2) a w
 |[],[],st,σ,T,a,w,h,hJ,_,_,hp,hn=>by
  simp only [ops,Option.some.injEq] at hp;subst hp
  exact hn _ _ (After.refl h hJ)
 |[],_ :: _,_,_,_,_,_,_,_,_,hm,_,_=>by simp [mL] at hm
 |_ :: _,[],_,_,_,_,_,_,_,_,hm,_,_=>by simp [mL] at hm
 |o :: l,v :: vs,st,σ,T,a,w,h,hJ,hst,hm,hp,hn=>by
  simp only [mL,Bool.and_eq_true] at hm
  simp only [ops] at hp
  obtain ⟨st1,h1,h2⟩:=bind_some hp
  have g1:=gV h1
  have g2:=fC h2
  simp only [List.cons_append,wpListIn]
  refine X8 hW hC aS h hJ hst hm.1 h1 (g2.2.1.trans hX) ?_
  rintro a1 w1 ⟨σ1,T1,ms,k1,k2,k3,k4,k5,k6⟩ _
  exact Il hW hC aS hX k1 k2 (g1.2.2.trans hst) hm.2 h2 fun a' w' hA=>hn _ _ (After.trans k4 k3 k5 k6 g1.1 hA)
theorem abX {vs:List gq} {v:gq}:∀ {l:List Oper},mL P bM l (vs++[v])=true→∃ l1 o,l=l1++[o]∧mL P bM l1 vs=true∧mG P bM o v=true:=by
 induction vs with
 |nil =>
  intro l h
  match l,h with
  |[o],h=>simp only [List.nil_append,mL,Bool.and_true] at h;exact ⟨[],o,rfl,rfl,h⟩
  |[],h=>simp [mL] at h
  |_ :: _ :: _,h=>simp [mL] at h
 |cons x vs ih =>
  intro l h
  cases l with
  |nil=>simp [mL] at h
  |cons o l =>
   simp only [List.cons_append,mL,Bool.and_eq_true] at h
   obtain ⟨l1,o1,rfl,g1,g2⟩:=ih h.2
   exact ⟨o :: l1,o1,rfl,by simp only [mL,h.1,g1,Bool.and_self],g2⟩
theorem afe (hW:jT F) (hC:C.Ok P L) (aS:fA P rec env) (h:aF L σ T st a w) (hJ:C.J st.ys.length T w) {f:Nat} {xs:List bI} (hm:mG P bM o (.call d f xs)=true) {vs:List PV} (h2:xs.mapM st.dG=some vs) {t:Nat} {m:Int} (h3:EH rec env f vs=some (some (t,m)))
  (hn:∀ w',After C L st.boxes.length σ T w st a.defers a w'→Q (.panic [{ v:=.iface t (.int .i64 m),recovered:=false }]) a w'):wpListIn F n P bM Q [o] a w:=by
 have hm':o.guard.isNone=true∧m1 P o (.call d f xs)=true:=Bool.and_eq_true_iff.1 hm
 have hw:Region.wanted o (yielded bM a.tmps)=true:=by simp only [Region.wanted,Option.isNone_iff_eq_none.1 hm'.1]
 simp only [wpListIn,hw,↓reduceIte]
 have hm1:=hm'.2
 have hm2:=hm1
 simp only [m1,Bool.and_eq_true,beq_iff_eq,mv] at hm2
 obtain ⟨hd,hm2⟩:=hm2
 split at hm2<;>try (cases hm2;done)
 rename_i g ys ho
 simp only [Bool.and_eq_true,beq_iff_eq] at hm2
 obtain ⟨rfl,hm2⟩:=hm2
 obtain ⟨ats,ho⟩:=xP ho
 obtain ⟨hcall,hok⟩:=aS.2.2.2 _ vs t m h3
 refine ⟨fun f _=>hW.fn f,?_⟩
 rw [semAt_eq (qX hm1),rZ ho rfl hcall]
 refine ⟨fun e=>absurd e (by rw [hW.depth];simp),hW.calls ?_⟩
 obtain ⟨l1,l2⟩:=mapM_some h2
 obtain ⟨m1,m2⟩:=xQ hm2
 have hargs:(ys.map a.eval).toArray++#[]=(ys.map a.eval).toArray:=by simp
 rw [hargs]
 obtain ⟨T0,hT0⟩:∃ T0:Tags,T0=fun b=>if T b=.ro then .ro else .other:=⟨_,rfl⟩
 have FT:∀ b,T b=.ro→T0 b=.ro:=fun b hb=>by rw [hT0];simp [hb]
 have h0:=hok T0 w (ys.map a.eval) (fun b=>by rw [hT0];simp only;split<;>simp) (fun b hb=>by rw [hT0];simp only;rw [if_neg];rw [h.fresh b hb];simp) (by simp [l1,m1]) (fun i p v hp hv=>by
  have hi:i<xs.length:=by rw [← l1];exact (List.getElem?_eq_some_iff.1 hp).1
  have hi2:i<ys.length:=by rw [m1];exact hi
  obtain ⟨q,g1,g2⟩:=l2 i _ (List.getElem?_eq_getElem hi)
  rw [g2] at hp
  cases hp
  rw [List.getElem?_map,List.getElem?_eq_getElem hi2] at hv
  cases hv
  exact (h.pv (m2 i _ _ (List.getElem?_eq_getElem hi2) (List.getElem?_eq_getElem hi)) g1).frame fun b hb _=>⟨FT b hb,rfl⟩) ((hC.glob _ _ _ hJ).frame fun b hb _=>⟨FT b hb,rfl⟩)
 refine h0.mono ?_
 rintro e w' ⟨rfl,hB⟩
 have hwh:Whole w w':=⟨hB.size,fun b hl=>hB.block b hl⟩
 exact hn w' (After.rY hC (h.sees hwh.sees) hJ ⟨hB.size,hB.os,hB.tape,hB.output,fun b hl _=>hB.block b hl,fun _ e=>e,fun _ _ e=>e⟩ (fun _ _=>rfl))
end
end Go.Proofs.YtaaokejjmdbfaaaDoor

namespace Go.Proofs.YtaaokejjmdbfaaaDoor
open Go.RowKit
section
variable {F:Fence} {n:Nat} {P:Program} {ops:Array Oper} {S S2:World→Prop} {Q:Act→World→Prop} {f:Nat}
def iD (F:Fence) (n:Nat) (P:Program) (ops:Array Oper) (S S2:World→Prop) (f:Nat) (Q:Act→World→Prop):Nat→Array Bool→Act→World→Prop
 |0,l,a,w=>Region.ready .any ops l=[]∧Q a w
 |fuel+1,l,a,w=>(Region.ready .any ops l=[]→Q a w)∧∀ i∈Region.ready .any ops l,wpOpIn F n P ops (bZ Q) i (fun a' w'=>(((l.setIfInBounds i true).getD f false=true∨S w')∧S2 w')∧iD F n P ops S S2 f Q fuel (l.setIfInBounds i true) a' w') a w
theorem wS:∀ (fuel:Nat) (l:Array Bool) (a:Act) (w:World),iD F n P ops S S2 f Q fuel l a w→wpAnyIn F n P .any ops (bZ Q) fuel l a w
 |0,_,_,_,h=>⟨h.1,rfl,h.2⟩
 |fuel+1,_,_,_,h=>⟨fun h0=>⟨rfl,h.1 h0⟩,fun i hi=>wpOpIn_mono (fun a' w' h'=>wS fuel _ a' w' h'.2) (h.2 i hi)⟩
theorem ER (hF:∀ f,F.fn f) (hnd:jk ops=true) (hsel:Region.noSelect ops=true) {T:World→Prop} {i:Nat} {oi:Oper} {v:Value} (hi:ops[i]?=some oi) (hfi:f≠i)
  (hT:∀ l:Array Bool,l.size=ops.size→Closed ops l→l.getD i false=false→∀ w,((l.getD f false=true∨S w)∧S2 w)→T w) :
  ∀ (fuel:Nat) (l:Array Bool) (a:Act) (w:World),l.size=ops.size→Closed ops l→((l.getD f false=true∨S w)∧S2 w) →
   (∀ j oj,ops[j]?=some oj→j≠i→l.getD j true=false→(∀ e∈oj.after,Region.binds .any e=true→e.on≠i)→oi.apart ops oj=true) →
   i∈Region.ready .any ops l→YieldsIf P ops T oi v a →
   iD F n P ops S S2 f Q fuel (l.setIfInBounds i true) (a.put oi.dst v) w→iD F n P ops S S2 f Q (fuel+1) l a w:=by
 have self:∀ {a:Act} {w:World} {K:Act→World→Prop},YieldsIf P ops T oi v a→T w→K (a.put oi.dst v) w→wpOpIn F n P ops (bZ Q) i K a w:=by
  intro a w K hy hS hk
  unfold wpOpIn
  simp only [hi]
  rcases hy with ⟨hw,hv⟩|⟨hw,rfl⟩
  ·rw [if_pos hw]
   refine ⟨fun f _=>hF f,?_⟩
   rw [Oper.semAt_eq _ _ _ (xB hnd hi),hv w hS]
   exact hk
  ·rw [if_neg (by rw [hw];decide)]
   exact ⟨fun f _=>hF f,hk⟩
 have listed:∀ {l:Array Bool} {w:World},l.size=ops.size→i∈Region.ready .any ops l→((l.getD f false=true∨S w)∧S2 w)→(((l.setIfInBounds i true).getD f false=true∨S w)∧S2 w):=fun hs hr h=>⟨h.1.imp (fun h=>by rw [fB _ _ _ (dW hs hr),if_neg (Ne.symm hfi)];exact h) id,h.2⟩
 have oP:∀ {l:Array Bool},i∈Region.ready .any ops l→l.size=ops.size→l.getD i false=false:=fun h hs=>by
  have h1:=(mem_ready.1 h).1
  have h2:=dW hs h
  simpa [h2] using h1
 intro fuel
 induction fuel with
 |zero =>
  intro l a w hs hc hS _ hr hy H
  refine ⟨fun h=>(by rw [h] at hr;cases hr),fun j hj=>?_⟩
  by_cases hji:j=i
  ·subst hji;exact self hy (hT l hs hc (oP hr hs) w hS) ⟨listed hs hr hS,H⟩
  ·have:=ready_mono hj hji
   rw [H.1] at this
   cases this
 |succ fuel ih =>
  intro l a w hs hc hS hfree hr hy H
  refine ⟨fun h=>(by rw [h] at hr;cases hr),fun j hj=>?_⟩
  by_cases hji:j=i
  ·subst hji;exact self hy (hT l hs hc (oP hr hs) w hS) ⟨listed hs hr hS,H⟩
  ·have h1:=H.2 j (ready_mono hj hji)
   obtain ⟨hjun,oj,hoj,hall⟩:=mem_ready.1 hj
   have hnot:∀ e∈oj.after,Region.binds .any e=true→e.on≠i:=fun e he hb heq=>by
    have h1:=hall e he hb
    rw [heq,oP hr hs] at h1
    cases h1
   have h2:=XA hF hnd hsel hi hoj (hfree j oj hoj hji hjun hnot) hy h1
   have hs':(l.setIfInBounds j true).size=ops.size:=by simpa using hs
   refine wpOpIn_mono (fun a' w' h3=>?_) h2
   have hSS:(((l.setIfInBounds j true).getD f false=true∨S w')∧S2 w'):=⟨h3.2.1.1.imp (fun h=>by
    rw [fB _ _ _ (by simpa using dW hs hj),fB _ _ _ (dW hs hr),if_neg (Ne.symm hfi)] at h
    rw [fB _ _ _ (dW hs hj)];exact h) id,h3.2.1.2⟩
   refine ⟨hSS,ih (l.setIfInBounds j true) a' w' hs' (hc.set hs hj) hSS (fun k ok hk hki hun hno=>hfree k ok hk hki ?_ hno) (ready_mono hr (Ne.symm hji)) h3.1 ?_⟩
   ·by_cases hjk:j=k
    ·subst hjk;exact hjun
    ·rw [getD_set_ne true hjk] at hun;exact hun
   ·rw [Array.setIfInBounds_comm _ _ hji]
    exact h3.2.2
theorem eF (hF:∀ f,F.fn f) (hnd:jk ops=true) (hsel:Region.noSelect ops=true) {T:World→Prop} {w:World}:∀ (seg:List Nat) (m:Nat) (l l':Array Bool) (a:Act),l.size=ops.size→Closed ops l→((l.getD f false=true∨S w)∧S2 w) →
  (∀ i∈seg,f≠i∧∀ l:Array Bool,l.size=ops.size→Closed ops l→l.getD i false=false→(∀ j,l.getD j false=true∨True)→∀ w,((l.getD f false=true∨S w)∧S2 w)→T w) →
  bK ops seg l=some l'→(l'.size=ops.size→Closed ops l'→((l'.getD f false=true∨S w)∧S2 w)→True) →
  wpQuiet P ops T (fun a'=>∀ (_:l'.size=ops.size) (_:Closed ops l') (_:(l'.getD f false=true∨S w)∧S2 w),iD F n P ops S S2 f Q m l' a' w) (pick ops seg) a→iD F n P ops S S2 f Q (m+seg.length) l a w
 |[],m,l,l',a,hs,hc,hS,_,hq,_,h=>by
  simp only [bK,Option.some.injEq] at hq
  subst hq
  exact h hs hc hS
 |i :: is,m,l,l',a,hs,hc,hS,hT,hq,ht,h=>by
  unfold bK at hq
  split at hq
  case isFalse=>cases hq
  rename_i hcnd
  simp only [Bool.and_eq_true] at hcnd
  obtain ⟨⟨hp,hf⟩,hr⟩:=hcnd
  have hr':i∈Region.ready .any ops l:=by simpa using hr
  cases ho:ops[i]? with
  |none=>rw [ho] at hp;simp at hp
  |some o =>
   rw [ho] at hp
   simp only [Option.map_some,Option.getD_some] at hp
   simp only [pick,List.filterMap_cons,ho] at h
   unfold wpQuiet at h
   have key:∃ v,YieldsIf P ops T o v a∧wpQuiet P ops T (fun a'=>∀ (_:l'.size=ops.size) (_:Closed ops l') (_:(l'.getD f false=true∨S w)∧S2 w),iD F n P ops S S2 f Q m l' a' w) (pick ops is) (a.put o.dst v):=by
    split at h
    ·rename_i hw
     obtain ⟨v,h1,h2⟩:=h
     refine ⟨v,.inl ⟨hw,fun w1 hw1=>?_⟩,h2⟩
     have h3:=h1 w1 hw1
     unfold Oper.quietAt at h3
     cases hrun:(execOp a.eval o).run P w1 with
     |halt x w2=>rw [hrun] at h3;exact h3.elim
     |ok x w2 =>
      obtain ⟨y,rfl⟩:=tN hp hrun
      rw [hrun] at h3
      obtain ⟨e1,e2⟩:=h3
      rw [e1,e2]
    ·rename_i hw
     exact ⟨undef,.inr ⟨by simpa using hw,rfl⟩,h⟩
   obtain ⟨v,hy,hk⟩:=key
   have hTi:=hT i (by simp)
   refine ER hF hnd hsel ho hTi.1 (fun l hs hc hu w hS=>hTi.2 l hs hc hu (fun _=>.inr trivial) w hS) (m+is.length) l a w hs hc hS (Region.free_spec ho hf) hr' hy ?_
   refine eF hF hnd hsel is m (l.setIfInBounds i true) l' _ (by simpa using hs) (hc.set hs hr') ⟨hS.1.imp (fun h=>?_) id,hS.2⟩ (fun j hj=>hT j (by simp [hj])) hq ht hk
   rw [fB _ _ _ (dW hs hr'),if_neg (Ne.symm hTi.1)];exact h
end
end Go.Proofs.YtaaokejjmdbfaaaDoor

namespace Go.Proofs.YtaaokejjmdbfaaaDoor
open Go.RowKit
section
variable {F:Fence} {n:Nat} {P:Program} {ops:Array Oper} {Q:Act→World→Prop} {f:Nat}
theorem eG {S S' S2 S2':World→Prop} (hS:∀ w,S' w→S w) (hS2:∀ w,S2' w→S2 w):∀ (m:Nat) (l:Array Bool) (a:Act) (w:World),iD F n P ops S' S2' f Q m l a w→iD F n P ops S S2 f Q m l a w
 |0,_,_,_,h=>h
 |m+1,_,_,_,h=>⟨h.1,fun i hi=>wpOpIn_mono (fun a' w' h'=>⟨⟨h'.1.1.imp id (hS w'),hS2 w' h'.1.2⟩,eG hS hS2 m _ a' w' h'.2⟩) (h.2 i hi)⟩
abbrev Fin1:=Option (List Nat × List Nat × Nat × List (List Nat × Nat))
def jD (ops:Array Oper):Fin1→Nat
 |none=>ops.size
 |some (_,_,f,_)=>f
def Lr (ops:Array Oper) (i:Nat) (seg:List Nat):List Nat:=seg.takeWhile (vT ops ops.size i)
def Ov (ops:Array Oper) (i:Nat) (seg:List Nat):List Nat:=seg.dropWhile (vT ops ops.size i)
def Ac (ops:Array Oper) (f:Nat) (last:List Nat):List (List Nat × Nat)→Array Bool→Bool
 |[],l=>last.all (fun i=>f != i)&&match bK ops last l with
  |some l2=>(Region.ready .any ops l2).isEmpty
  |none=>false
 |(seg,i) :: more,l=>seg.all (fun j=>f != j&&i != j)&&f != i&&match bK ops (Lr ops i seg) l with
  |some l0=>match bK ops (Ov ops i seg) l0 with
   |some l1=>(Region.ready .any ops l1==[i])&&Ac ops f last more (l1.setIfInBounds i true)
   |none=>false
  |none=>false
def fM (last:List Nat):List (List Nat × Nat)→Nat
 |[]=>last.length
 |(seg,_) :: more=>fM last more+1+seg.length
def oQ (ops:Array Oper) (fin:Fin1) (i:Nat):Bool:=match fin with
 |none=>true
 |some (_,_,f,_)=>vT ops ops.size f i
def kS (ops:Array Oper) (fin:Fin1) (seg:List Nat):List Nat:=seg.takeWhile (oQ ops fin)
def kE (ops:Array Oper) (fin:Fin1) (seg:List Nat):List Nat:=seg.dropWhile (oQ ops fin)
def Lu (ops:Array Oper) (fin:Fin1) (seg:List Nat):Bool:=(match fin with
 |none=>seg.all (fun i=>i<ops.size)
 |some (_,_,f,_)=>seg.all (fun i=>f != i))
def Io (ops:Array Oper):List (List Nat × Nat)→Fin1→List Nat→Array Bool→Bool
 |[],none,last,l=>last.all (fun i=>i<ops.size)&&match bK ops last l with
  |some l1=>(Region.ready .any ops l1).isEmpty
  |none=>false
 |[],some (bG,dS,f,tl),last,l=>bG.all (fun i=>f != i&&vT ops ops.size f i)&&dS.all (fun i=>f != i)&&match bK ops bG l with
  |some l0=>match bK ops dS l0 with
   |some l1=>(Region.ready .any ops l1==[f])&&Ac ops f last tl (l1.setIfInBounds f true)
   |none=>false
  |none=>false
 |(seg,i) :: more,fin,last,l=>Lu ops fin seg&&match bK ops (kS ops fin seg) l with
  |some l0=>match bK ops (kE ops fin seg) l0 with
   |some l1=>(Region.ready .any ops l1==[i])&&Io ops more fin last (l1.setIfInBounds i true)
   |none=>false
  |none=>false
def iM:List (List Nat × Nat)→Fin1→List Nat→Nat
 |[],none,last=>last.length
 |[],some (bG,dS,_,tl),last=>fM last tl+1+dS.length+bG.length
 |(seg,_) :: more,fin,last=>iM more fin last+1+seg.length
def SE (ops:Array Oper) (acts:List (List Nat × Nat)) (fin:Fin1) (last:List Nat):Bool :=
 Region.noSelect ops&&(iM acts fin last==ops.size)&&Io ops acts fin last (Array.replicate ops.size false)
def nO (F:Fence) (n:Nat) (P:Program) (ops:Array Oper) (Q:Act→World→Prop) (last:List Nat):(World→Prop)→List (List Nat × Nat)→Act→World→Prop
 |S2,[],a,w=>∃ S3:World→Prop,(∀ w,S3 w→S2 w)∧S3 w∧wpQuiet P ops S3 (fun a3=>Q a3 w) (pick ops last) a
 |S2,(seg,i) :: more,a,w=>wpQuiet P ops (Whole w) (fun a0=>∃ S3:World→Prop,(∀ w,S3 w→S2 w)∧S3 w∧wpQuiet P ops S3 (fun a'=>wpListIn F n P ops (fun e a'' w''=>e=.normal∧S3 w''∧nO F n P ops Q last S3 more a'' w'') (pick ops [i]) a' w) (pick ops (Ov ops i seg)) a0) (pick ops (Lr ops i seg)) a
def qg (F:Fence) (n:Nat) (P:Program) (ops:Array Oper) (Q:Act→World→Prop):(World→Prop)→(World→Prop)→List (List Nat × Nat)→Fin1→List Nat→Act→World→Prop
 |S,_,[],none,last,a,w=>wpQuiet P ops S (fun a'=>Q a' w) (pick ops last) a
 |S,S2,[],some (bG,dS,f,tl),last,a,w=>wpQuiet P ops S (fun a0=>∃ S3:World→Prop,(∀ w,S3 w→S2 w)∧S3 w∧wpQuiet P ops S3 (fun a'=>wpListIn F n P ops (fun e a'' w''=>e=.normal∧S3 w''∧nO F n P ops Q last S3 tl a'' w'') (pick ops [f]) a' w) (pick ops dS) a0) (pick ops bG) a
 |S,S2,(seg,i) :: more,fin,last,a,w=>wpQuiet P ops S (fun a0=>∃ S3:World→Prop,(∀ w,S3 w→S2 w)∧S3 w∧wpQuiet P ops S3 (fun a'=>wpListIn F n P ops (fun e a'' w''=>e=.normal∧∃ S':World→Prop,(∀ w,S' w→S w)∧S' w''∧S3 w''∧qg F n P ops Q S' S3 more fin last a'' w'') (pick ops [i]) a' w) (pick ops (kE ops fin seg)) a0) (pick ops (kS ops fin seg)) a
theorem lD:∀ (seg:List Nat) (l l':Array Bool),l.size=ops.size→bK ops seg l=some l'→l.getD f false=true→l'.getD f false=true
 |[],l,l',_,h,hf=>by simp only [bK,Option.some.injEq] at h;subst h;exact hf
 |i :: is,l,l',hs,h,hf=>by
  unfold bK at h
  split at h
  case isFalse=>cases h
  rename_i hc
  simp only [Bool.and_eq_true] at hc
  have hr:i∈Region.ready .any ops l:=by simpa using hc.2
  refine lD is _ l' (by simpa using hs) h ?_
  rw [fB _ _ _ (dW hs hr)]
  split
  ·rfl
  ·exact hf
theorem qE {S S' S2:World→Prop} {g:Nat}:∀ (m:Nat) (l:Array Bool) (a:Act) (w:World),l.size=ops.size→l.getD g false=true→iD F n P ops S' S2 f Q m l a w→iD F n P ops S S2 g Q m l a w
 |0,_,_,_,_,_,h=>h
 |m+1,l,a,w,hs,hg,h=>⟨h.1,fun i hi=>wpOpIn_mono (fun a' w' h'=>by
   have hg':(l.setIfInBounds i true).getD g false=true:=by
    rw [fB _ _ _ (dW hs hi)]
    split
    ·rfl
    ·exact hg
   exact ⟨⟨.inl hg',h'.1.2⟩,qE m _ _ _ (by simpa using hs) hg' h'.2⟩) (h.2 i hi)⟩
theorem aj6 (i:Nat) (seg:List Nat):(Ov ops i seg).length+(Lr ops i seg).length=seg.length:=by
 have:=congrArg List.length (List.takeWhile_append_dropWhile (p:=vT ops ops.size i) (l:=seg))
 rw [List.length_append] at this
 unfold Lr Ov;omega
theorem wU {S:World→Prop} (hF:∀ f,F.fn f) (hnd:jk ops=true) (hsel:Region.noSelect ops=true) {last:List Nat}:∀ (tl:List (List Nat × Nat)) (S2:World→Prop) (l:Array Bool) (a:Act) (w:World),l.size=ops.size→Closed ops l→l.getD f false=true→S2 w→Ac ops f last tl l=true →
  nO F n P ops Q last S2 tl a w→iD F n P ops S S2 f Q (fM last tl) l a w
 |[],S2,l,a,w,hs,hc,hf,h2,hB,h=>by
  unfold Ac at hB
  simp only [Bool.and_eq_true] at hB
  obtain ⟨hl,hB⟩:=hB
  split at hB
  case h_2=>cases hB
  rename_i l2 hq2
  unfold nO at h
  obtain ⟨S3,hS3,hw3,h⟩:=h
  refine eG (S':=S) (S2':=S3) (fun _ h=>h) hS3 _ _ _ _ ?_
  have h3:=eF (F:=F) (n:=n) (P:=P) (S:=S) (Q:=Q) (f:=f) hF hnd hsel (S2:=S3) (T:=S3) (w:=w) last 0 l l2 a hs hc ⟨.inl hf,hw3⟩
   (fun i hi=>⟨by have:=List.all_eq_true.1 hl i hi;simpa using this,fun _ _ _ _ _ _ h=>h.2⟩) hq2 (fun _ _ _=>trivial) (dA (fun a3 h3 _ _ _=>⟨by simpa using hB,h3⟩) _ _ h)
  simpa [fM] using h3
 |(seg,i) :: more,S2,l,a,w,hs,hc,hf,h2,hB,h=>by
  unfold Ac at hB
  simp only [Bool.and_eq_true,bne_iff_ne] at hB
  obtain ⟨⟨hl,hfi⟩,hB⟩:=hB
  have hlA:∀ j∈Lr ops i seg,j∈seg:=fun j hj=>(List.takeWhile_prefix (vT ops ops.size i)).subset hj
  have hlB:∀ j∈Ov ops i seg,j∈seg:=fun j hj=>(List.dropWhile_suffix (vT ops ops.size i)).subset hj
  have hne:∀ j∈seg,f≠j∧i≠j:=fun j hj=>by have:=List.all_eq_true.1 hl j hj;simpa using this
  split at hB
  case h_2=>cases hB
  rename_i l0 hq0
  split at hB
  case h_2=>cases hB
  rename_i l1 hq1
  simp only [Bool.and_eq_true,beq_iff_eq] at hB
  obtain ⟨hr,hB⟩:=hB
  unfold nO at h
  have h3:=eF (F:=F) (n:=n) (P:=P) (S:=Whole w) (Q:=Q) (f:=i) (S2:=S2) hF hnd hsel (T:=Whole w) (w:=w) (Lr ops i seg) (fM last more+1+(Ov ops i seg).length) l l0 a hs hc ⟨.inr (Whole.refl w),h2⟩ (fun j hj=>by
   have hd:vT ops ops.size i j=true:=List.all_eq_true.1 (List.all_takeWhile (p:=vT ops ops.size i) (l:=seg)) j hj
   refine ⟨(hne j (hlA j hj)).2,fun l _ hc hu _ w hS=>hS.1.resolve_left fun hf=>?_⟩
   rw [hc.dep _ _ _ hf hd] at hu;cases hu) hq0 (fun _ _ _=>trivial) (dA (fun a0 h0 hs0 hc0 hS0=>by
    obtain ⟨S3,hS3,hw3,h0⟩:=h0
    refine eG (S':=Whole w) (S2':=S3) (fun _ h=>h) hS3 _ _ _ _ ?_
    refine eF (F:=F) (n:=n) (P:=P) (S:=Whole w) (Q:=Q) (f:=i) (S2:=S3) hF hnd hsel (T:=S3) (w:=w) (Ov ops i seg) (fM last more+1) l0 l1 a0 hs0 hc0 ⟨hS0.1,hw3⟩ (fun j hj=>⟨(hne j (hlB j hj)).2,fun _ _ _ _ _ _ h=>h.2⟩) hq1 (fun _ _ _=>trivial) (dA (fun a' h' hs1 hc1 _=>by
     refine ⟨fun h0=>(by rw [hr] at h0;cases h0),fun j hj=>?_⟩
     have hj':=hj
     rw [hr] at hj
     obtain rfl:j=i:=by simpa using hj
     have hf0:=lD _ l l0 hs hq0 hf
     have hf1:=lD _ l0 l1 hs0 hq1 hf0
     have hg1:(l1.setIfInBounds j true).getD j false=true:=by rw [fB _ _ _ (dW hs1 hj'),if_pos rfl]
     have hf2:(l1.setIfInBounds j true).getD f false=true:=by
      rw [fB _ _ _ (dW hs1 hj')]
      split
      ·rfl
      ·exact hf1
     exact wJ hF (fun a2 w2 h3=>⟨⟨.inl hg1,h3.1⟩,qE (S':=S) _ _ _ _ (by simpa using hs1) hg1 (wU hF hnd hsel more S3 _ _ _ (by simpa using hs1) (hc1.set hs1 hj') hf2 h3.1 hB h3.2)⟩) h') _ _ h0)) _ _ h)
  have e:=aj6 (ops:=ops) i seg
  simp only [fM]
  rw [show fM last more+1+seg.length=fM last more+1+(Ov ops i seg).length+(Lr ops i seg).length by omega]
  exact qE _ _ _ _ hs hf h3
theorem Pg {S S2:World→Prop} {fin:Fin1} {seg:List Nat} (h:Lu ops fin seg=true):∀ i∈kS ops fin seg,jD ops fin≠i∧∀ l:Array Bool,l.size=ops.size→Closed ops l→l.getD i false=false→(∀ j,l.getD j false=true∨True)→∀ w,((l.getD (jD ops fin) false=true∨S w)∧S2 w)→S w:=fun i hi=>by
 have hd:oQ ops fin i=true:=List.all_eq_true.1 (List.all_takeWhile (p:=oQ ops fin) (l:=seg)) i hi
 have hm:i∈seg:=(List.takeWhile_prefix (oQ ops fin)).subset hi
 cases fin with
 |none =>
  have:=List.all_eq_true.1 h i hm
  simp only [decide_eq_true_eq] at this
  refine ⟨by simp only [jD];omega,fun l hs hc hu _ w hS=>hS.1.resolve_left fun hf=>?_⟩
  simp only [jD] at hf
  rw [Array.getD_eq_getD_getElem?,Array.getElem?_eq_none (by omega)] at hf;cases hf
 |some p =>
  have:=List.all_eq_true.1 h i hm
  simp only [bne_iff_ne] at this
  refine ⟨this,fun l _ hc hu _ w hS=>hS.1.resolve_left fun hf=>?_⟩
  rw [hc.dep _ _ _ hf hd] at hu;cases hu
theorem Ph {S S2:World→Prop} {fin:Fin1} {seg:List Nat} (h:Lu ops fin seg=true):∀ i∈kE ops fin seg,jD ops fin≠i∧∀ l:Array Bool,l.size=ops.size→Closed ops l→l.getD i false=false→(∀ j,l.getD j false=true∨True)→∀ w,((l.getD (jD ops fin) false=true∨S w)∧S2 w)→S2 w:=fun i hi=>by
 have hm:i∈seg:=(List.dropWhile_suffix (oQ ops fin)).subset hi
 refine ⟨?_,fun l _ _ _ _ w hS=>hS.2⟩
 cases fin with
 |none =>
  have:=List.all_eq_true.1 h i hm
  simp only [decide_eq_true_eq] at this
  simp only [jD];omega
 |some p =>
  have:=List.all_eq_true.1 h i hm
  simp only [bne_iff_ne] at this
  exact this
theorem aez (fin:Fin1) (seg:List Nat):(kE ops fin seg).length+(kS ops fin seg).length=seg.length:=by
 have:=congrArg List.length (List.takeWhile_append_dropWhile (p:=oQ ops fin) (l:=seg))
 rw [List.length_append] at this
 unfold kS kE;omega
theorem zx (hF:∀ f,F.fn f) (hnd:jk ops=true) (hsel:Region.noSelect ops=true) {fin:Fin1} {last:List Nat}:∀ (acts:List (List Nat × Nat)) (S S2:World→Prop) (l:Array Bool) (a:Act) (w:World),l.size=ops.size→Closed ops l→Io ops acts fin last l=true→S w→S2 w →
  qg F n P ops Q S S2 acts fin last a w→iD F n P ops S S2 (jD ops fin) Q (iM acts fin last) l a w
 |[],S,S2,l,a,w,hs,hc,hB,hS,hS2,h=>by
  cases fin with
  |none =>
   unfold Io at hB
   simp only [Bool.and_eq_true] at hB
   obtain ⟨hl,hB⟩:=hB
   split at hB
   case h_2=>cases hB
   rename_i l1 hq1
   unfold qg at h
   have:=eF (F:=F) (n:=n) (P:=P) (S:=S) (Q:=Q) (f:=ops.size) (S2:=S2) hF hnd hsel (T:=S) (w:=w) last 0 l l1 a hs hc ⟨.inr hS,hS2⟩ (fun i hi=>by
    have:=List.all_eq_true.1 hl i hi
    simp only [decide_eq_true_eq] at this
    refine ⟨by omega,fun l hs hc hu _ w hS=>hS.1.resolve_left fun hf=>?_⟩
    rw [Array.getD_eq_getD_getElem?,Array.getElem?_eq_none (by omega)] at hf;cases hf) hq1 (fun _ _ _=>trivial) (dA (fun a' h' _ _ _=>⟨by simpa using hB,h'⟩) _ _ h)
   simpa [iM,jD] using this
  |some p =>
   obtain ⟨bG,dS,f,tl⟩:=p
   unfold Io at hB
   simp only [Bool.and_eq_true] at hB
   obtain ⟨⟨hsg,hsu⟩,hB⟩:=hB
   split at hB
   case h_2=>cases hB
   rename_i l0 hq0
   split at hB
   case h_2=>cases hB
   rename_i l1 hq1
   simp only [Bool.and_eq_true,beq_iff_eq] at hB
   obtain ⟨hr,hB⟩:=hB
   unfold qg at h
   have:=eF (F:=F) (n:=n) (P:=P) (S:=S) (Q:=Q) (f:=f) (S2:=S2) hF hnd hsel (T:=S) (w:=w) bG (fM last tl+1+dS.length) l l0 a hs hc ⟨.inr hS,hS2⟩ (fun i hi=>by
    have:=List.all_eq_true.1 hsg i hi
    simp only [Bool.and_eq_true,bne_iff_ne] at this
    refine ⟨this.1,fun l _ hc hu _ w hS=>hS.1.resolve_left fun hf=>?_⟩
    rw [hc.dep _ _ _ hf this.2] at hu;cases hu) hq0 (fun _ _ _=>trivial) (dA (fun a0 h0 hs0 hc0 hS0=>by
     obtain ⟨S3,hS3,hw3,h0⟩:=h0
     refine eG (S':=S) (S2':=S3) (fun _ h=>h) hS3 _ _ _ _ ?_
     refine eF (F:=F) (n:=n) (P:=P) (S:=S) (Q:=Q) (f:=f) (S2:=S3) hF hnd hsel (T:=S3) (w:=w) dS (fM last tl+1) l0 l1 a0 hs0 hc0 ⟨hS0.1,hw3⟩ (fun i hi=>by
      have:=List.all_eq_true.1 hsu i hi
      simp only [bne_iff_ne] at this
      exact ⟨this,fun _ _ _ _ _ _ h=>h.2⟩) hq1 (fun _ _ _=>trivial) (dA (fun a' h' hs1 hc1 _=>by
       refine ⟨fun h0=>(by rw [hr] at h0;cases h0),fun j hj=>?_⟩
       have hj':=hj
       rw [hr] at hj
       obtain rfl:j=f:=by simpa using hj
       have hf1:(l1.setIfInBounds j true).getD j false=true:=by rw [fB _ _ _ (dW hs1 hj'),if_pos rfl]
       exact wJ hF (fun a2 w2 h3=>⟨⟨.inl hf1,h3.1⟩,wU hF hnd hsel tl S3 _ _ _ (by simpa using hs1) (hc1.set hs1 hj') hf1 h3.1 hB h3.2⟩) h') _ _ h0)) _ _ h)
   simpa [iM,jD] using this
 |(seg,i) :: more,S,S2,l,a,w,hs,hc,hB,hS,hS2,h=>by
  unfold Io at hB
  simp only [Bool.and_eq_true] at hB
  obtain ⟨hsg,hB⟩:=hB
  split at hB
  case h_2=>cases hB
  rename_i l0 hq0
  split at hB
  case h_2=>cases hB
  rename_i l1 hq1
  simp only [Bool.and_eq_true,beq_iff_eq] at hB
  obtain ⟨hr,hB⟩:=hB
  unfold qg at h
  have:=eF (F:=F) (n:=n) (P:=P) (S:=S) (Q:=Q) (f:=jD ops fin) (S2:=S2) hF hnd hsel (T:=S) (w:=w) (kS ops fin seg) (iM more fin last+1+(kE ops fin seg).length) l l0 a hs hc ⟨.inr hS,hS2⟩ (Pg hsg) hq0 (fun _ _ _=>trivial) (dA (fun a0 h0 hs0 hc0 hS0=>by
    obtain ⟨S3,hS3,hw3,h0⟩:=h0
    refine eG (S':=S) (S2':=S3) (fun _ h=>h) hS3 _ _ _ _ ?_
    refine eF (F:=F) (n:=n) (P:=P) (S:=S) (Q:=Q) (f:=jD ops fin) (S2:=S3) hF hnd hsel (T:=S3) (w:=w) (kE ops fin seg) (iM more fin last+1) l0 l1 a0 hs0 hc0 ⟨hS0.1,hw3⟩ (Ph hsg) hq1 (fun _ _ _=>trivial) (dA (fun a' h' hs1 hc1 _=>by
     refine ⟨fun h0=>(by rw [hr] at h0;cases h0),fun j hj=>?_⟩
     have hj':=hj
     rw [hr] at hj
     obtain rfl:j=i:=by simpa using hj
     refine wJ hF (fun a2 w2 h2=>?_) h'
     obtain ⟨S',k1,k2,k3,k4⟩:=h2
     exact ⟨⟨.inr (k1 _ k2),k3⟩,eG k1 (fun _ h=>h) _ _ _ _ (zx hF hnd hsel more S' S3 _ _ _ (by simpa using hs1) (hc1.set hs1 hj') hB k2 k3 k4)⟩) _ _ h0)) _ _ h)
  have e:=aez (ops:=ops) fin seg
  simp only [iM]
  rw [show iM more fin last+1+seg.length=iM more fin last+1+(kE ops fin seg).length+(kS ops fin seg).length by omega]
  exact this
theorem AP {id:Nat} {l:Array Oper} {a:Act} {w:World} {Q:Exit→Act→World→Prop} (S:World→Prop) {acts:List (List Nat × Nat)} {fin:Fin1} {last:List Nat} (hF:∀ f,F.fn f) (hm:P.follows .mixedOrders=true)
  (hnd:jk l=true) (hB:SE l acts fin last=true) (hS:S w.drew) (h:qg F n P l (Q .normal) S (fun _=>True) acts fin last a w.drew):(Code.region id l true).wpIn F n P Q a w:=by
 simp only [SE,Bool.and_eq_true,beq_iff_eq] at hB
 obtain ⟨⟨hsel,hn⟩,hB⟩:=hB
 refine Code.wpIn_mono (Q:=bZ (Q .normal)) (fun e a w h=>by obtain ⟨rfl,h⟩:=h;exact h) (wpIn_region_any hm ?_)
 have:=wS _ _ _ _ (zx hF hnd hsel acts S (fun _=>True) (Array.replicate l.size false) a _ (by simp) (fun m o hm=>absurd hm (by rw [Array.getD_eq_getD_getElem?,Array.getElem?_replicate];split<;>simp)) hB hS trivial h)
 rw [hn] at this
 exact this
end
end Go.Proofs.YtaaokejjmdbfaaaDoor

namespace Go.Proofs.YtaaokejjmdbfaaaDoor
open Go.RowKit
def core:gq→gq
 |.grd _ _ v=>v
 |v=>v
def CJ:gq→Bool
 |.aj ..|.aC ..|.un ..|.pick ..|.bin ..|.conv ..|.mn ..|.aU ..|.xC ..|.bC ..|.fld ..|.idx ..|.len ..|.lens ..|.Ul ..|.ext ..|.sli ..|.Ou ..|.eqb ..|.eqm ..=>true
 |_=>false
def xU (v:gq):Bool:=CJ v || match v with
 |.OB ..=>true
 |_=>false
def xW:gq→Bool
 |.build ..|.AA ..=>true
 |_=>false
def kF:Bool→List gq→Bool
 |_,[]=>true
 |ok,v :: vs=>(CJ (core v)&&kF ok vs) || (xW (core v)&&kF false vs) || (ok&&xU (core v)&&kF ok vs)
def su (P:Program) (bM:Array Oper) (seg:List Nat) (vs:List gq):Bool:=mL P bM (pick bM seg) vs&&vs.all fun v=>!kY (core v)
def xX (P:Program) (bM:Array Oper) (last:List Nat):List (List Nat × Nat)→List gq→Bool
 |[],vs=>mL P bM (pick bM last) vs&&kF true vs
 |(seg,i) :: more,vs=>su P bM (Lr bM i seg) (vs.take (Lr bM i seg).length)&&mL P bM (pick bM (Ov bM i seg)) ((vs.drop (Lr bM i seg).length).take (Ov bM i seg).length)&&kF true ((vs.drop (Lr bM i seg).length).take (Ov bM i seg).length)&&match (vs.drop (Lr bM i seg).length).drop (Ov bM i seg).length with
  |v :: vs=>mL P bM (pick bM [i]) [v]&&xX P bM last more vs
  |[]=>false
def wV (P:Program) (bM:Array Oper) (fin:Fin1) (last:List Nat):List (List Nat × Nat)→List gq→Bool
 |[],vs=>match fin with
  |none=>su P bM last vs
  |some (bG,dS,f,tl)=>su P bM bG (vs.take bG.length)&&mL P bM (pick bM dS) ((vs.drop bG.length).take dS.length)&&kF true ((vs.drop bG.length).take dS.length)&&match (vs.drop bG.length).drop dS.length with
   |v :: vs=>mL P bM (pick bM [f]) [v]&&xX P bM last tl vs
   |[]=>false
 |(seg,i) :: more,vs=>su P bM (kS bM fin seg) (vs.take (kS bM fin seg).length)&&mL P bM (pick bM (kE bM fin seg)) ((vs.drop (kS bM fin seg).length).take (kE bM fin seg).length)&&kF true ((vs.drop (kS bM fin seg).length).take (kE bM fin seg).length)&&match (vs.drop (kS bM fin seg).length).drop (kE bM fin seg).length with
  |v :: vs=>mL P bM (pick bM [i]) [v]&&Lp v&&wV P bM fin last more vs
  |[]=>false
section
variable {P:Program} {F:Fence} {C:Ctx} {n L nb:Nat} {σ σ':Nat→Nat} {T T' T1 T2:Tags} {st st' st1:St} {a a1:Act} {w w1:World} {o:Oper} {vo:gq} {y:Operand} {x:bI} {d:Nat}
 {rec:ak→St→Option (Ex × St)} {env:Env} {next:Act→World→Prop} {Q:Exit→Act→World→Prop} {bM:Array Oper} {ds:List Deferred} {e:Ex}
theorem Ad (h:aF L σ T st a w) (hm:mG P bM o vo=true) (hp:op rec env vo st=some st') :
  (Region.wanted o (yielded bM a.tmps)=true∧m1 P o (core vo)=true∧op1 rec env (core vo) st=some st')∨(Region.wanted o (yielded bM a.tmps)=false∧aF L σ T st' (a.put o.dst undef) w):=by
 by_cases hg:∃ g want v,vo=.grd g want v
 ·obtain ⟨g,want,v,rfl⟩:=hg
  rcases FV h hm hp with g|⟨g1,g2,_⟩
  ·exact .inl g
  ·exact .inr ⟨g1,g2⟩
 ·have hm':o.guard.isNone=true∧m1 P o vo=true:=by
   cases vo<;>first|exact Bool.and_eq_true_iff.1 hm|exact absurd ⟨_,_,_,rfl⟩ hg
  have hp':op1 rec env vo st=some st':=by
   cases vo<;>first|exact hp|exact absurd ⟨_,_,_,rfl⟩ hg
  have hw:Region.wanted o (yielded bM a.tmps)=true:=by
   simp only [Region.wanted,Option.isNone_iff_eq_none.1 hm'.1]
  have hc:core vo=vo:=by
   cases vo<;>first|rfl|exact absurd ⟨_,_,_,rfl⟩ hg
  rw [hc]
  exact .inl ⟨hw,hm'.2,hp'⟩
theorem CO (h:aF L σ T st a w) (hm:m1 P o vo=true) (hq:CJ vo=true) (hp:plain vo st=some st'):qU P L σ T st' a w o:=by
 simp only [m1,Bool.and_eq_true,beq_iff_eq] at hm
 obtain ⟨hd,hm⟩:=hm
 cases vo<;>simp only [CJ,Bool.false_eq_true] at hq<;>simp only [mv] at hm
 case aj d x =>
  split at hm<;>try (cases hm;done)
  rename_i ho;exact xH h hd (.inl ho) hm false hp
 case aC d x =>
  split at hm<;>try (cases hm;done)
  ·rename_i ho;exact xH h hd (.inr ho) hm true hp
  ·rename_i ho;exact xH h hd (.inl ho) hm true hp
 case pick d c x x2 =>
  split at hm<;>try (cases hm;done)
  rename_i ho
  simp only [Bool.and_eq_true] at hm
  exact Fp h hd ho hm.1.1 hm.1.2 hm.2 hp
 case bin d b x x2 =>
  split at hm<;>try (cases hm;done)
  rename_i ho
  simp only [Bool.and_eq_true,beq_iff_eq] at hm
  obtain ⟨⟨rfl,h1⟩,h2⟩:=hm
  exact KG h hd ho h1 h2 hp
 case un d b x =>
  split at hm<;>try (cases hm;done)
  rename_i ho
  simp only [Bool.and_eq_true,beq_iff_eq] at hm
  obtain ⟨rfl,h1⟩:=hm
  exact Sm h hd ho h1 hp
 case conv d k x =>
  split at hm<;>try (cases hm;done)
  rename_i ho
  simp only [Bool.and_eq_true] at hm
  exact Fq h hd ho hm.1.1 (KZ hm.1.2) (FM hm.2) hp
 case mn d mx x x2 =>
  split at hm<;>try (cases hm;done)
  rename_i b y y2 T0 T1 ho
  simp only [Bool.and_eq_true,beq_iff_eq] at hm
  obtain ⟨⟨rfl,h1⟩,h2⟩:=hm
  exact Sr h hd (Cb ho) h1 h2 hp
 case aU d x off =>
  split at hm
  case h_3=>cases hm
  case h_2 =>
   rename_i ho
   simp only [Bool.and_eq_true,beq_iff_eq] at hm
   obtain ⟨h1,rfl⟩:=hm
   exact KJ h hd ho h1 hp
  rename_i ho
  simp only [Bool.and_eq_true] at hm
  obtain ⟨h1,h2⟩:=hm
  split at h2<;>try (cases h2;done)
  rename_i fd hf
  simp only [Bool.and_eq_true,beq_iff_eq] at h2
  obtain ⟨rfl,h3⟩:=h2
  split at h3<;>try (cases h3;done)
  rename_i k hk
  exact FB h hd ho h1 hf hk hp
 case xC d x x2 len sz =>
  split at hm<;>try (cases hm;done)
  rename_i ho
  simp only [Bool.and_eq_true] at hm
  obtain ⟨⟨h1,h2⟩,h3⟩:=hm
  split at h3<;>try (cases h3;done)
  rename_i l e he
  simp only [Bool.and_eq_true,beq_iff_eq] at h3
  obtain ⟨rfl,h4⟩:=h3
  exact FC h hd ho h1 h2 he h4 hp
 case bC d sz x x2 =>
  split at hm<;>try (cases hm;done)
  rename_i ho
  simp only [Bool.and_eq_true] at hm
  obtain ⟨⟨h1,h2⟩,h3⟩:=hm
  split at h3<;>try (cases h3;done)
  rename_i e he
  exact FD h hd ho h1 h2 he (beq_iff_eq.1 h3) hp
 case fld d x off n=>cases hm
 case idx d x x2 len sz n=>cases hm
 case len d x =>
  split at hm<;>try (cases hm;done)
  rename_i b y T0 ho
  simp only [Bool.and_eq_true,beq_iff_eq] at hm
  obtain ⟨⟨rfl,h1⟩,h2⟩:=hm
  obtain ⟨e,he⟩:=Option.isSome_iff_exists.1 h2
  exact KL h hd (Lc ho) h1 he hp
 case lens d x=>cases hm
 case Ul d neg x =>
  split at hm<;>try (cases hm;done)
  rename_i ho
  simp only [Bool.and_eq_true,beq_iff_eq] at hm
  obtain ⟨⟨h1,h2⟩,h3⟩:=hm
  obtain ⟨e,he⟩:=Option.isSome_iff_exists.1 h3
  exact KN h hd ho h1 h2 he hp
 case ext d x i =>
  split at hm<;>try (cases hm;done)
  rename_i ho
  simp only [Bool.and_eq_true,beq_iff_eq] at hm
  obtain ⟨h1,rfl⟩:=hm
  exact KO h hd ho h1 hp
 case sli d sz x lo hi=>cases hm
 case Ou d neg n x x2 =>
  split at hm<;>try (cases hm;done)
  rename_i ho
  simp only [Bool.and_eq_true,beq_iff_eq] at hm
  obtain ⟨⟨⟨⟨h1,h2⟩,h3⟩,h4⟩,h5⟩:=hm
  exact KF h hd ho h1 h2 h3 h4 h5 hp
 case eqb d neg x x2=>cases hm
 case eqm d neg ks x x2=>cases hm
theorem LC (h:aF L σ T st a w) (hm:m1 P o vo=true) (hq:xW vo=true) (hp:plain vo st=some st'):KD P L σ T st' a w o:=by
 simp only [m1,Bool.and_eq_true,beq_iff_eq] at hm
 obtain ⟨hd,hm⟩:=hm
 cases vo<;>simp only [xW,Bool.false_eq_true] at hq<;>simp only [mv] at hm
 case build d z m =>
  split at hm<;>try (cases hm;done)
  rename_i T0 l ho
  simp only [Bool.and_eq_true] at hm
  obtain ⟨⟨h1,h2⟩,h3⟩:=hm
  exact BQ h hd (l:=l.toList) (by simpa using ho) h1 h2 (qc h3) hp
 case AA d z parts off t =>
  split at hm<;>try (cases hm;done)
  rename_i T0 l ho
  simp only [Bool.and_eq_true] at hm
  obtain ⟨⟨hm1,hm2⟩,UG⟩:=hm
  split at hm1
  case h_2=>cases hm1
  rename_i p hp0
  simp only [Bool.and_eq_true,beq_iff_eq] at hm1
  obtain ⟨⟨g1,g2⟩,g3⟩:=hm1
  simp only [plain] at hp
  replace hp:=bind_some hp
  obtain ⟨⟨cs,st1⟩,h1,hp⟩:=hp
  simp only at hp
  split at hp
  case h_2=>cases hp
  rename_i sz es e0
  split at hp
  case isFalse=>cases hp
  rename_i hoff
  rw [← Option.some.inj hp]
  have hl:l.toList.dropLast++[(p.1,p.2)]=l.toList:=by
   obtain ⟨ys,hys⟩:=List.getLast?_eq_some_iff.1 hp0
   rw [hys,List.dropLast_concat]
  exact FI h hd (l:=l.toList.dropLast) (by rw [hl];simpa using ho) g1 g2 g3 hm2 (qc UG) h1 e0 hoff
def Pj (S:World→Prop) (P:Program) (L:Nat) (σ:Nat→Nat) (T:Tags) (st':St) (a:Act) (w:World) (o:Oper):Prop :=
 ∃ v T',(∀ w',S w'→(execOp a.eval o).run P w'=.ok (.value v) w')∧aF L σ T' st' (a.put o.dst v) w∧Still T T'
theorem CP:∀ {l:List gq} {st st':St},(∀ v∈l,kY (core v)=false)→ops rec env l st=some st'→aK st st'
 |[],st,st',_,h=>by simp only [ops,Option.some.injEq] at h;subst h;exact aK.refl _
 |v :: l,st,st',hl,h=>by
  simp only [ops] at h
  obtain ⟨st1,h1,h2⟩:=bind_some h
  refine aK.trans ?_ (CP (fun u hu=>hl u (by simp [hu])) h2)
  have hv:=hl v (by simp)
  unfold op at h1
  split at h1
  ·simp only [core] at hv
   split at h1
   ·split at h1
    ·simp only [op1,hv] at h1;exact rV h1
    ·split at h1
     ·rw [← Option.some.inj h1];exact (aK.refl _).put _ _
     ·rw [← Option.some.inj h1];exact aK.refl _
   ·split at h1
    ·split at h1
     ·rw [← Option.some.inj h1];exact (aK.refl _).put _ _
     ·rw [← Option.some.inj h1];exact aK.refl _
    ·cases h1
   ·cases h1
  ·rename_i v' hne
   have hc:core v=v:=by
    unfold core;split
    ·exact (hne _ _ _ rfl).elim
    ·rfl
   rw [hc] at hv
   simp only [op1,hv] at h1;exact rV h1
theorem zy {S:World→Prop} {vs0:List gq} {K:Act→Prop} {I:St→Prop} (hI:∀ v∈vs0,∀ s1 s2,op rec env v s1=some s2→I s1→I s2) (hlook:∀ T1 st1 st2 a1 o v,I st1→Still T T1→kY (core v)=false→aF L σ T1 st1 a1 w→m1 P o (core v)=true→v∈vs0→plain (core v) st1=some st2→Pj S P L σ T1 st2 a1 w o) :
  ∀ {l:List Oper} {vs:List gq} {st:St} {T1:Tags} {a:Act},(∀ v∈vs,v∈vs0∧kY (core v)=false)→I st→Still T T1→aF L σ T1 st a w→mL P bM l vs=true→ops rec env vs st=some st' →
  (∀ a' T',aF L σ T' st' a' w→Still T T'→a'.defers=a.defers→K a')→wpQuiet P bM S K l a
 |[],[],st,T1,a,_,_,ht,h,_,hp,hK=>by
  simp only [ops,Option.some.injEq] at hp;subst hp
  exact hK _ _ h ht rfl
 |[],_ :: _,_,_,_,_,_,_,_,hm,_,_=>by simp [mL] at hm
 |_ :: _,[],_,_,_,_,_,_,_,hm,_,_=>by simp [mL] at hm
 |o :: l,v :: vs,st,T1,a,hvs,hi,ht,h,hm,hp,hK=>by
  simp only [mL,Bool.and_eq_true] at hm
  simp only [ops] at hp
  obtain ⟨st1,h1,h2⟩:=bind_some hp
  obtain ⟨hin,hact⟩:=hvs v (by simp)
  unfold wpQuiet
  rcases Ad h hm.1 h1 with ⟨g1,g2,g3⟩|⟨g1,g2⟩
  ·rw [if_pos g1]
   simp only [op1,hact] at g3
   obtain ⟨u,T2,k1,k2,k3⟩:=hlook T1 st st1 a o v hi ht hact h g2 hin g3
   refine ⟨u,fun w' hw'=>?_,zy hI hlook (fun v hv=>hvs v (by simp [hv])) (hI v hin _ _ h1 hi) (ht.trans k3) k2 hm.2 h2 fun a' T' q1 q2 q3=>hK a' T' q1 q2 (q3.trans put_defers)⟩
   unfold Oper.quietAt
   rw [k1 w' hw']
   exact ⟨rfl,rfl⟩
  ·rw [if_neg (by rw [g1];simp)]
   exact zy hI hlook (fun v hv=>hvs v (by simp [hv])) (hI v hin _ _ h1 hi) ht g2 hm.2 h2 fun a' T' q1 q2 q3=>hK a' T' q1 q2 (q3.trans put_defers)
theorem X9 {S:World→Prop} {vs0:List gq} {K:Act→Prop} (hlook:∀ T1 st1 st2 a1 o v,Still T T1→kY (core v)=false→aF L σ T1 st1 a1 w→m1 P o (core v)=true→v∈vs0→plain (core v) st1=some st2→Pj S P L σ T1 st2 a1 w o) :
  ∀ {l:List Oper} {vs:List gq} {st:St} {T1:Tags} {a:Act},(∀ v∈vs,v∈vs0∧kY (core v)=false)→Still T T1→aF L σ T1 st a w→mL P bM l vs=true→ops rec env vs st=some st' →
  (∀ a' T',aF L σ T' st' a' w→Still T T'→a'.defers=a.defers→K a')→wpQuiet P bM S K l a:=fun hvs ht h hm hp hK =>
 zy (I:=fun _=>True) (fun _ _ _ _ _ _=>trivial) (fun T1 st1 st2 a1 o v _=>hlook T1 st1 st2 a1 o v) hvs trivial ht h hm hp hK
theorem LD (h:aF L σ T st a w) (hm:m1 P o vo=true) (hp:plain vo st=some st'):Pj (Whole w) P L σ T st' a w o:=by
 obtain ⟨v,T',h1,h2,h3⟩:=zZ h hm hp
 exact ⟨v,T',fun w' hw=>h1 w' hw.sees,h2,h3⟩
theorem dV {l1 l2:List gq} {st st':St} (h:ops rec env (l1++l2) st=some st'):∃ st1,ops rec env l1 st=some st1∧ops rec env l2 st1=some st':=by
 induction l1 generalizing st with
 |nil=>exact ⟨st,rfl,h⟩
 |cons v l ih =>
  simp only [List.cons_append,ops] at h ⊢
  obtain ⟨st1,h1,h2⟩:=bind_some h
  obtain ⟨st2,h3,h4⟩:=ih h2
  exact ⟨st2,by rw [h1];exact h3,h4⟩
end
end Go.Proofs.YtaaokejjmdbfaaaDoor
