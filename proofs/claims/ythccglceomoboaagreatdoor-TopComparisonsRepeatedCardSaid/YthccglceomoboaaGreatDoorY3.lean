/-
  Part 3 of the texts that the statement stands on.
-/
import Derived.Test.YthccglceomoboaaGreatDoorY2
import Derived.RangeFuncNested
import Derived.RangeFuncRecord
import Derived.RangeFuncIn
import Derived.RangeFuncLeaves
import Derived.Scope
set_option linter.all false
open Option renaming some → ZD, map_some → Zae, map_eq_some_iff → Zaj, bind_eq_some_iff → Zaz, isSome_iff_exists → ZaP, getD_some → ZbF, map_eq_bind → ZbO
open Bool renaming and_eq_true → ZS, false_eq_true → zj, not_eq_true' → ZaJ, or_eq_true → Za0, not_eq_true → Zbr
open List renaming getElem?_eq_getElem → ZZ, getElem?_eq_some_iff → Z3, getElem?_map → zc, length_nil → zm, all_eq_true → zt, drop_eq_getElem_cons → zw, mem_of_getElem? → zP, getElem?_append_left → Zab, getElem?_append_right → Zac, map_cons → Zai, mem_singleton → Zal, getElem?_take → Zan, replicate → Zao, map_nil → Zaw, getElem?_cons_zero → Zax, append_nil → ZaB, append_assoc → ZaD, take_append_drop → ZaI, size_toArray → ZaK, mem_cons → ZaL, take_left' → ZaR, drop_left' → ZaU, takeWhile_append_dropWhile → ZaZ, isEmpty_eq_false_iff → Za1, drop_of_length_le → Za9, getElem?_eq_none → Zbb, mem_filterMap → Zbc, mem_cons_of_mem → Zbd, getElem?_cons_succ → Zbf, cons_append → Zbh, prefix_refl → Zbs, getElem?_replicate → Zbt, exists_mem_of_ne_nil → ZbK, mapM_cons → ZbR, nodup_cons → Zb5, nodup_nil → ZcB
open Nat renaming le_refl → ze, le_trans → zR, lt_of_lt_of_le → Zag, lt_or_ge → ZaE, le_max_right → Zc3
open Array renaming getElem?_eq_getElem → zg, getElem?_eq_some_iff → zr, getD_eq_getD_getElem? → Zap, getElem?_setIfInBounds → ZaN, replicate → ZaT, getElem?_append_left → ZaY, append_assoc → ZcX
open Prod renaming mk → Zar
open Classical renaming choose_spec → Zbm, not_not → ZbS, choose → Zcl
open Function renaming comp_def → Zbx
namespace Go.Proofs.YthccglceomoboaaGreatDoor
open Go.RowKit
def core:fG→fG
 |.grd _ _ v=>v
 |v=>v
def AL:fG→Bool
 |.ah ..|.ak ..|.un ..|.pick ..|.bin ..|.conv ..|.mn ..|.au ..|.rV ..|.bG ..|.fld ..|.idx ..|.len ..|.lens ..|.LY ..|.ext ..|.FC ..|.QE ..|.QF ..|.eqm ..=>true
 |_=>false
def wO (v:fG):Bool:=AL v || match v with
 |.Ie ..=>true
 |_=>false
def wQ:fG→Bool
 |.build ..|.Md ..=>true
 |_=>false
def kG:Bool→List fG→Bool
 |_,[]=>true
 |ok,v::vs=>(AL (core v)&&kG ok vs) || (wQ (core v)&&kG false vs) || (ok&&wO (core v)&&kG ok vs)
def rD (P:Program)(bI:Array Oper)(seg:List Nat)(vs:List fG):Bool:=mL P bI (pick bI seg) vs&&vs.all fun v=>!kV (core v)
def wR (P:Program)(bI:Array Oper)(last:List Nat):List (List Nat×Nat)→List fG→Bool
 |[],vs=>mL P bI (pick bI last) vs&&kG true vs
 |(seg,i)::more,vs=>rD P bI (I8 bI i seg) (vs.take (I8 bI i seg).length)&&mL P bI (pick bI (LZ bI i seg)) ((vs.drop (I8 bI i seg).length).take (LZ bI i seg).length)&&kG true ((vs.drop (I8 bI i seg).length).take (LZ bI i seg).length)&&match (vs.drop (I8 bI i seg).length).drop (LZ bI i seg).length with
  |v::vs=>mL P bI (pick bI [i]) [v]&&wR P bI last more vs
  |[]=>false
def vI (P:Program)(bI:Array Oper)(fin:Fin1)(last:List Nat):List (List Nat×Nat)→List fG→Bool
 |[],vs=>match fin with
  |none=>rD P bI last vs
  |some (dF,dG,f,tl)=>rD P bI dF (vs.take dF.length)&&mL P bI (pick bI dG) ((vs.drop dF.length).take dG.length)&&kG true ((vs.drop dF.length).take dG.length)&&match (vs.drop dF.length).drop dG.length with
   |v::vs=>mL P bI (pick bI [f]) [v]&&wR P bI last tl vs
   |[]=>false
 |(seg,i)::more,vs=>rD P bI (kS bI fin seg) (vs.take (kS bI fin seg).length)&&mL P bI (pick bI (kF bI fin seg)) ((vs.drop (kS bI fin seg).length).take (kF bI fin seg).length)&&kG true ((vs.drop (kS bI fin seg).length).take (kF bI fin seg).length)&&match (vs.drop (kS bI fin seg).length).drop (kF bI fin seg).length with
  |v::vs=>mL P bI (pick bI [i]) [v]&&I7 v&&vI P bI fin last more vs
  |[]=>false
section
variable {P:Program}{F:Fence}{C:Ctx}{n L nb:Nat}{σ σ':Nat→Nat}{T T' T1 T2:Tags}{st st' st1:St}{a a1:Act}{w w1:World}{o:Oper}{vo:fG}{y:Operand}{x:bf}{d:Nat}
 {rec:aj→St→Option (Ex×St)} {env:Env} {next:Act→World→Prop} {Q:Exit→Act→World→Prop} {bI:Array Oper} {ds:List Deferred} {e:Ex}
theorem zh (h:aF L σ T st a w)(hm:mG P bI o vo=true)(hp:op rec env vo st=some st') :
  (Region.wanted o (yielded bI a.tmps)=true∧m1 P o (core vo)=true∧op1 rec env (core vo) st=some st')∨(Region.wanted o (yielded bI a.tmps)=false∧aF L σ T st' (a.put o.dst undef) w):=by
 by_cases hg:∃ g want v,vo=.grd g want v
 ·obtain ⟨g,want,v,rfl⟩:=hg
  rcases EG h hm hp with g|⟨g1,g2,_⟩
  ·exact .inl g
  ·exact .inr ⟨g1,g2⟩
 ·have hm':o.guard.isNone=true∧m1 P o vo=true:=by
   cases vo<;>first|exact Bool.and_eq_true_iff.1 hm|exact absurd ⟨_,_,_,rfl⟩ hg
  have hp':op1 rec env vo st=some st':=by
   cases vo<;>first|exact hp|exact absurd ⟨_,_,_,rfl⟩ hg
  have hw:Region.wanted o (yielded bI a.tmps)=true:=by
   simp only [Region.wanted,Option.isNone_iff_eq_none.1 hm'.1]
  have hc:core vo=vo:=by
   cases vo<;>first|rfl|exact absurd ⟨_,_,_,rfl⟩ hg
  rw [hc]
  exact .inl ⟨hw,hm'.2,hp'⟩
theorem AO (h:aF L σ T st a w)(hm:m1 P o vo=true)(hq:AL vo=true)(hp:plain vo st=some st'):og P L σ T st' a w o:=by
 simp only [m1,ZS,beq_iff_eq] at hm
 obtain ⟨hd,hm⟩:=hm
 cases vo<;>simp only [AL,zj] at hq<;>simp only [mv] at hm
 case ah d x =>
  split at hm<;>try (cases hm;done)
  rename_i ho;exact wG h hd (.inl ho) hm false hp
 case ak d x =>
  split at hm<;>try (cases hm;done)
  ·rename_i ho;exact wG h hd (.inr ho) hm true hp
  ·rename_i ho;exact wG h hd (.inl ho) hm true hp
 case pick d c x x2 =>
  split at hm<;>try (cases hm;done)
  rename_i ho
  simp only [ZS] at hm
  exact Ej h hd ho hm.1.1 hm.1.2 hm.2 hp
 case bin d b x x2 =>
  split at hm<;>try (cases hm;done)
  rename_i ho
  simp only [ZS,beq_iff_eq] at hm
  obtain ⟨⟨rfl,h1⟩,h2⟩:=hm
  exact Il h hd ho h1 h2 hp
 case un d b x =>
  split at hm<;>try (cases hm;done)
  rename_i ho
  simp only [ZS,beq_iff_eq] at hm
  obtain ⟨rfl,h1⟩:=hm
  exact Pm h hd ho h1 hp
 case conv d k x =>
  split at hm<;>try (cases hm;done)
  rename_i ho
  simp only [ZS] at hm
  exact Em h hd ho hm.1.1 (IU hm.1.2) (Ey hm.2) hp
 case mn d mx x x2 =>
  split at hm<;>try (cases hm;done)
  rename_i b y y2 T0 T1 ho
  simp only [ZS,beq_iff_eq] at hm
  obtain ⟨⟨rfl,h1⟩,h2⟩:=hm
  exact Pn h hd (Ap ho) h1 h2 hp
 case au d x off =>
  split at hm
  case h_3=>cases hm
  case h_2 =>
   rename_i ho
   simp only [ZS,beq_iff_eq] at hm
   obtain ⟨h1,rfl⟩:=hm
   exact Ir h hd ho h1 hp
  rename_i ho
  simp only [ZS] at hm
  obtain ⟨h1,h2⟩:=hm
  split at h2<;>try (cases h2;done)
  rename_i fd hf
  simp only [ZS,beq_iff_eq] at h2
  obtain ⟨rfl,h3⟩:=h2
  split at h3<;>try (cases h3;done)
  rename_i k hk
  exact Ep h hd ho h1 hf hk hp
 case rV d x x2 len sz =>
  split at hm<;>try (cases hm;done)
  rename_i ho
  simp only [ZS] at hm
  obtain ⟨⟨h1,h2⟩,h3⟩:=hm
  split at h3<;>try (cases h3;done)
  rename_i l e he
  simp only [ZS,beq_iff_eq] at h3
  obtain ⟨rfl,h4⟩:=h3
  exact Es h hd ho h1 h2 he h4 hp
 case bG d sz x x2 =>
  split at hm<;>try (cases hm;done)
  rename_i ho
  simp only [ZS] at hm
  obtain ⟨⟨h1,h2⟩,h3⟩:=hm
  split at h3<;>try (cases h3;done)
  rename_i e he
  exact Et h hd ho h1 h2 he (beq_iff_eq.1 h3) hp
 case fld d x off n=>cases hm
 case idx d x x2 len sz n =>
  split at hm<;>try (cases hm;done)
  rename_i ho
  simp only [ZS] at hm
  obtain ⟨⟨h1,h2⟩,h3⟩:=hm
  split at h3<;>try (cases h3;done)
  rename_i l e he
  simp only [ZS,beq_iff_eq] at h3
  obtain ⟨⟨rfl,h4⟩,h5⟩:=h3
  exact Iu h hd ho h1 h2 he h4 h5 hp
 case len d x =>
  split at hm<;>try (cases hm;done)
  rename_i b y T0 ho
  simp only [ZS,beq_iff_eq] at hm
  obtain ⟨⟨rfl,h1⟩,h2⟩:=hm
  obtain ⟨e,he⟩:=ZaP.1 h2
  exact Iw h hd (IW ho) h1 he hp
 case lens d x=>cases hm
 case LY d neg x =>
  split at hm<;>try (cases hm;done)
  rename_i ho
  simp only [ZS,beq_iff_eq] at hm
  obtain ⟨⟨h1,h2⟩,h3⟩:=hm
  obtain ⟨e,he⟩:=ZaP.1 h3
  exact Iy h hd ho h1 h2 he hp
 case ext d x i =>
  split at hm<;>try (cases hm;done)
  rename_i ho
  simp only [ZS,beq_iff_eq] at hm
  obtain ⟨h1,rfl⟩:=hm
  exact Iz h hd ho h1 hp
 case FC d sz x lo hi =>
  split at hm<;>try (cases hm;done)
  rename_i ho
  simp only [ZS] at hm
  obtain ⟨⟨⟨h1,h2⟩,h3⟩,h4⟩:=hm
  split at h4<;>try (cases h4;done)
  rename_i e he
  exact IC h hd ho h1 h2 h3 he (beq_iff_eq.1 h4) hp
 case QE d neg n x x2 =>
  split at hm<;>try (cases hm;done)
  rename_i ho
  simp only [ZS,beq_iff_eq] at hm
  obtain ⟨⟨⟨⟨h1,h2⟩,h3⟩,h4⟩,h5⟩:=hm
  exact Ij h hd ho h1 h2 h3 h4 h5 hp
 case QF d neg x x2 =>
  split at hm<;>try (cases hm;done)
  rename_i ho
  simp only [ZS,beq_iff_eq] at hm
  obtain ⟨⟨⟨h1,h2⟩,h3⟩,h4⟩:=hm
  exact Ik h hd ho h1 h2 h3 (Ak h4) hp
 case eqm d neg ks x x2=>cases hm
theorem Ja (h:aF L σ T st a w)(hm:m1 P o vo=true)(hq:wQ vo=true)(hp:plain vo st=some st'):Ph P L σ T st' a w o:=by
 simp only [m1,ZS,beq_iff_eq] at hm
 obtain ⟨hd,hm⟩:=hm
 cases vo<;>simp only [wQ,zj] at hq<;>simp only [mv] at hm
 case build d z m =>
  split at hm<;>try (cases hm;done)
  rename_i T0 l ho
  simp only [ZS] at hm
  obtain ⟨⟨h1,h2⟩,h3⟩:=hm
  exact Ae h hd (l:=l.toList) (by simpa using ho) h1 h2 (y7 h3) hp
 case Md d z parts off t=>cases hm
def Nj (S:World→Prop)(P:Program)(L:Nat)(σ:Nat→Nat)(T:Tags)(st':St)(a:Act)(w:World)(o:Oper):Prop :=
 ∃ v T',(∀ w',S w'→(execOp a.eval o).run P w'=.ok (.value v) w')∧aF L σ T' st' (a.put o.dst v) w∧Still T T'
theorem AP:∀ {l:List fG} {st st':St},(∀ v∈l,kV (core v)=false)→ops rec env l st=some st'→aK st st'
 |[],st,st',_,h=>by simp only [ops,ZD.injEq] at h;subst h;exact aK.refl _
 |v::l,st,st',hl,h=>by
  simp only [ops] at h
  obtain ⟨st1,h1,h2⟩:=bind_some h
  refine aK.trans ?_ (AP (fun u hu=>hl u (by simp [hu])) h2)
  have hv:=hl v (by simp)
  unfold op at h1
  split at h1
  ·simp only [core] at hv
   split at h1
   ·split at h1
    ·simp only [op1,hv] at h1;exact ru h1
    ·split at h1
     ·rw [← ZD.inj h1];exact (aK.refl _).put _ _
     ·rw [← ZD.inj h1];exact aK.refl _
   ·split at h1
    ·split at h1
     ·rw [← ZD.inj h1];exact (aK.refl _).put _ _
     ·rw [← ZD.inj h1];exact aK.refl _
    ·cases h1
   ·cases h1
  ·rename_i v' hne
   have hc:core v=v:=by
    unfold core;split
    ·exact (hne _ _ _ rfl).elim
    ·rfl
   rw [hc] at hv
   simp only [op1,hv] at h1;exact ru h1
theorem yt {S:World→Prop}{vs0:List fG}{K:Act→Prop}{I:St→Prop}(hI:∀ v∈vs0,∀ s1 s2,op rec env v s1=some s2→I s1→I s2)(hlook:∀ T1 st1 st2 a1 o v,I st1→Still T T1→kV (core v)=false→aF L σ T1 st1 a1 w→m1 P o (core v)=true→v∈vs0→plain (core v) st1=some st2→Nj S P L σ T1 st2 a1 w o) :
  ∀ {l:List Oper} {vs:List fG} {st:St} {T1:Tags} {a:Act},(∀ v∈vs,v∈vs0∧kV (core v)=false)→I st→Still T T1→aF L σ T1 st a w→mL P bI l vs=true→ops rec env vs st=some st' →
  (∀ a' T',aF L σ T' st' a' w→Still T T'→a'.defers=a.defers→K a')→wpQuiet P bI S K l a
 |[],[],st,T1,a,_,_,ht,h,_,hp,hK=>by
  simp only [ops,ZD.injEq] at hp;subst hp
  exact hK _ _ h ht rfl
 |[],_::_,_,_,_,_,_,_,_,hm,_,_=>by simp [mL] at hm
 |_::_,[],_,_,_,_,_,_,_,hm,_,_=>by simp [mL] at hm
 |o::l,v::vs,st,T1,a,hvs,hi,ht,h,hm,hp,hK=>by
  simp only [mL,ZS] at hm
  simp only [ops] at hp
  obtain ⟨st1,h1,h2⟩:=bind_some hp
  obtain ⟨hin,hact⟩:=hvs v (by simp)
  unfold wpQuiet
  rcases zh h hm.1 h1 with ⟨g1,g2,g3⟩|⟨g1,g2⟩
  ·rw [if_pos g1]
   simp only [op1,hact] at g3
   obtain ⟨u,T2,k1,k2,k3⟩:=hlook T1 st st1 a o v hi ht hact h g2 hin g3
   refine ⟨u,fun w' hw'=>?_,yt hI hlook (fun v hv=>hvs v (by simp [hv])) (hI v hin _ _ h1 hi) (ht.trans k3) k2 hm.2 h2 fun a' T' q1 q2 q3=>hK a' T' q1 q2 (q3.trans put_defers)⟩
   unfold Oper.quietAt
   rw [k1 w' hw']
   exact ⟨rfl,rfl⟩
  ·rw [if_neg (by rw [g1];simp)]
   exact yt hI hlook (fun v hv=>hvs v (by simp [hv])) (hI v hin _ _ h1 hi) ht g2 hm.2 h2 fun a' T' q1 q2 q3=>hK a' T' q1 q2 (q3.trans put_defers)
theorem Vr {S:World→Prop}{vs0:List fG}{K:Act→Prop}(hlook:∀ T1 st1 st2 a1 o v,Still T T1→kV (core v)=false→aF L σ T1 st1 a1 w→m1 P o (core v)=true→v∈vs0→plain (core v) st1=some st2→Nj S P L σ T1 st2 a1 w o) :
  ∀ {l:List Oper} {vs:List fG} {st:St} {T1:Tags} {a:Act},(∀ v∈vs,v∈vs0∧kV (core v)=false)→Still T T1→aF L σ T1 st a w→mL P bI l vs=true→ops rec env vs st=some st' →
  (∀ a' T',aF L σ T' st' a' w→Still T T'→a'.defers=a.defers→K a')→wpQuiet P bI S K l a:=fun hvs ht h hm hp hK =>
 yt (I:=fun _=>True) (fun _ _ _ _ _ _=>trivial) (fun T1 st1 st2 a1 o v _=>hlook T1 st1 st2 a1 o v) hvs trivial ht h hm hp hK
theorem Jb (h:aF L σ T st a w)(hm:m1 P o vo=true)(hp:plain vo st=some st'):Nj (Whole w) P L σ T st' a w o:=by
 obtain ⟨v,T',h1,h2,h3⟩:=y8 h hm hp
 exact ⟨v,T',fun w' hw=>h1 w' hw.sees,h2,h3⟩
theorem dI {l1 l2:List fG}{st st':St}(h:ops rec env (l1++l2) st=some st'):∃ st1,ops rec env l1 st=some st1∧ops rec env l2 st1=some st':=by
 induction l1 generalizing st with
 |nil=>exact ⟨st,rfl,h⟩
 |cons v l ih =>
  simp only [Zbh,ops] at h ⊢
  obtain ⟨st1,h1,h2⟩:=bind_some h
  obtain ⟨st2,h3,h4⟩:=ih h2
  exact ⟨st2,by rw [h1];exact h3,h4⟩
end
section
variable {P:Program}{F:Fence}{C:Ctx}{n L nb:Nat}{σ σ':Nat→Nat}{T T' T1 T2:Tags}{st st' st1:St}{a a1:Act}{w w1:World}{o:Oper}{vo:fG}{y:Operand}{x:bf}{d:Nat}
 {rec:aj→St→Option (Ex×St)} {env:Env} {next:Act→World→Prop} {Q:Act→World→Prop} {bI:Array Oper} {ds:List Deferred} {e:Ex}
theorem aF.jH:∀ (fz:List bf) {st:St} {T:Tags},aF L σ T st a w→∃ T1,aF L σ T1 (fz.foldl St.gJ st) a w∧Still T T1
 |[],st,T,h=>⟨T,h,Still.refl T⟩
 |x::fz,st,T,h=>by
  have:∃ T1,aF L σ T1 (st.gJ x) a w∧Still T T1:=by
   unfold St.gJ
   split
   ·rename_i p _ _
    refine ⟨_,h.aP p,?_⟩
    split
    ·exact Still.gq T p
    ·exact Still.refl T
   ·exact ⟨T,h,Still.refl T⟩
  obtain ⟨T1,h1,h2⟩:=this
  obtain ⟨T2,h3,h4⟩:=aF.jH fz h1
  exact ⟨T2,h3,h2.trans h4⟩
theorem yu {K:Act→Prop}{seg:List Nat}{vs:List fG}(h:aF L σ T st a w)(hm:rD P bI seg vs=true)(hp:ops rec env vs st=some st')(hK:∀ a' T',aF L σ T' st' a' w→Still T T'→a'.defers=a.defers→aK st st'→K a'):wpQuiet P bI (Whole w) K (pick bI seg) a:=by
 simp only [rD,ZS] at hm
 have hv:∀ v∈vs,v∈vs∧kV (core v)=false:=fun v hv=>⟨hv,by simpa using zt.1 hm.2 v hv⟩
 have hmono:=AP (rec:=rec) (env:=env) (fun v h=>(hv v h).2) hp
 exact Vr (vs0:=vs) (fun T1 st1 st2 a1 o v _ _ hs hm _ hp=>Jb hs hm hp) hv (Still.refl T) h hm.1 hp fun a' T' g1 g2 g3=>hK a' T' g1 g2 g3 hmono
theorem EH {v:fG}(hv:wO v=true):kV v=false:=by
 cases v<;>first|rfl|(simp [wO,AL] at hv)
def Gj (T:Tags)(w w':World):Prop:=w.heap.size≤w'.heap.size∧∀ b,b<w.heap.size→T b=.ro→w'.heap[b]?=w.heap[b]?
theorem bP.adP (h:bP T T' w w1):Gj T w w1:=⟨h.size,h.same⟩
theorem Even.trans {T T' T'':Tags}(h:Even T T')(k:Even T' T''):Even T T'':=⟨h.still.trans k.still,fun b e=>h.back b (k.back b e)⟩
theorem Jc {v:fG}(hv:wQ v=true):kV v=false:=by
 cases v<;>first|rfl|(simp [wQ] at hv)
theorem mF:∀ {ok:Bool} {vs:List fG},kG ok vs=true→∀ v∈vs,kV (core v)=false
 |ok,[],_,v,hv=>by cases hv
 |ok,u::vs,h,v,hv=>by
  simp only [kG,Za0,ZS] at h
  rcases ZaL.1 hv with rfl|hv
  ·rcases h with (h|h)|h
   ·exact EH (by simp only [wO,h.1,Bool.true_or])
   ·exact Jc h.1
   ·exact EH h.1.2
  ·rcases h with (h|h)|h
   ·exact mF h.2 v hv
   ·exact mF h.2 v hv
   ·exact mF h.2 v hv
theorem pF {S:World→Prop}(hS:∀ w',S w'→Gj T w w'){K:Act→Prop}:∀ {ok:Bool} {l:List Oper} {vs:List fG} {st:St} {T1:Tags} {a:Act},kG ok vs=true→(ok=true→Even T T1)→Still T T1→aF L σ T1 st a w→mL P bI l vs=true→ops rec env vs st=some st' →
  (∀ a' T',aF L σ T' st' a' w→Still T T'→a'.defers=a.defers→K a')→wpQuiet P bI S K l a
 |_,[],[],st,T1,a,_,_,ht,h,_,hp,hK=>by
  simp only [ops,ZD.injEq] at hp;subst hp
  exact hK _ _ h ht rfl
 |_,[],_::_,_,_,_,_,_,_,_,hm,_,_=>by simp [mL] at hm
 |_,_::_,[],_,_,_,_,_,_,_,hm,_,_=>by simp [mL] at hm
 |ok,o::l,v::vs,st,T1,a,hq,he,ht,h,hm,hp,hK=>by
  have hact:=mF hq v (by simp)
  simp only [kG,Za0,ZS] at hq
  simp only [mL,ZS] at hm
  simp only [ops] at hp
  obtain ⟨st1,h1,h2⟩:=bind_some hp
  unfold wpQuiet
  rcases zh h hm.1 h1 with ⟨g1,g2,g3⟩|⟨g1,g2⟩
  ·rw [if_pos g1]
   simp only [op1,hact] at g3
   rcases hq with (hq|hq)|hq
   ·obtain ⟨u,T2,k1,k2,k3⟩:=AO h g2 hq.1 g3
    exact ⟨u,fun w' _=>by unfold Oper.quietAt;rw [k1 w'];exact ⟨rfl,rfl⟩,pF hS hq.2 (fun e=>(he e).trans k3) (ht.trans k3.still) k2 hm.2 h2 fun a' T' q1 q2 q3=>hK a' T' q1 q2 (q3.trans put_defers)⟩
   ·obtain ⟨u,T2,k1,k2,k3⟩:=Ja h g2 hq.1 g3
    exact ⟨u,fun w' _=>by unfold Oper.quietAt;rw [k1 w'];exact ⟨rfl,rfl⟩,pF hS hq.2 (fun e=>by cases e) (ht.trans k3) k2 hm.2 h2 fun a' T' q1 q2 q3=>hK a' T' q1 q2 (q3.trans put_defers)⟩
   ·obtain ⟨⟨q1,q2⟩,q3⟩:=hq
    have he:=he q1
    simp only [wO,Za0] at q2
    rcases q2 with q2|q2
    ·obtain ⟨u,T2,k1,k2,k3⟩:=AO h g2 q2 g3
     exact ⟨u,fun w' _=>by unfold Oper.quietAt;rw [k1 w'];exact ⟨rfl,rfl⟩,pF hS q3 (fun _=>he.trans k3) (ht.trans k3.still) k2 hm.2 h2 fun a' T' q1 q2 q3=>hK a' T' q1 q2 (q3.trans put_defers)⟩
    ·generalize core v=u at g2 g3 q2
     cases u<;>simp only [zj] at q2
     rename_i d n x
     simp only [m1,ZS,beq_iff_eq,mv] at g2
     obtain ⟨hd,hm'⟩:=g2
     split at hm'<;>try (cases hm';done)
     rename_i ho
     simp only [ZS,beq_iff_eq] at hm'
     obtain ⟨b,u,k3,k4,k5,k6⟩:=Io h hd ho hm'.1 hm'.2 g3
     exact ⟨u,fun w' hw'=>by unfold Oper.quietAt;rw [k3 w' ((hS w' hw').2 _ k5 (he.back _ k6))];exact ⟨rfl,rfl⟩,pF hS q3 (fun _=>he) ht k4 hm.2 h2 fun a' T' q1 q2 q3=>hK a' T' q1 q2 (q3.trans put_defers)⟩
  ·rw [if_neg (by rw [g1];simp)]
   rcases hq with (hq|hq)|hq
   ·exact pF hS hq.2 he ht g2 hm.2 h2 fun a' T' q1 q2 q3=>hK a' T' q1 q2 (q3.trans put_defers)
   ·exact pF hS hq.2 (fun e=>by cases e) ht g2 hm.2 h2 fun a' T' q1 q2 q3=>hK a' T' q1 q2 (q3.trans put_defers)
   ·exact pF hS hq.2 he ht g2 hm.2 h2 fun a' T' q1 q2 q3=>hK a' T' q1 q2 (q3.trans put_defers)
theorem aaC {S:World→Prop}(hS:∀ w',S w'→Gj T w w'){K:Act→Prop}{l:List Oper}{vs:List fG}(h:aF L σ T st a w)(hm:mL P bI l vs=true)(hq:kG true vs=true)(hp:ops rec env vs st=some st')(hK:∀ a' T',aF L σ T' st' a' w→Still T T'→a'.defers=a.defers→aK st st'→K a'):wpQuiet P bI S K l a:=by
 have hmono:=AP (rec:=rec) (env:=env) (mF hq) hp
 exact pF hS hq (fun _=>Even.refl T) (Still.refl T) h hm hp fun a' T' g1 g2 g3=>hK a' T' g1 g2 g3 hmono
theorem vJ (hW:jV F)(hC:C.Ok P L)(aO:eG P rec env)(h:aF L σ T st a w)(hJ:C.J st.ys.length T w)(hst:st.stop=C.stop){i:Nat}(hm:mL P bI (pick bI [i]) [vo]=true)(hp:op rec env vo st=some st')(hX:st'.ys <+: C.X){R:Act→World→Prop}
  (hn:∀ a' w',After C L st.boxes.length σ T w st' a.defers a' w'→(I7 vo=true→Whole w w')→R a' w'):wpListIn F n P bI (fun e a'' w''=>e=.normal∧R a'' w'') (pick bI [i]) a w:=by
 cases ho:bI[i]? with
 |none=>simp [pick,ho,mL] at hm
 |some o =>
  simp only [pick,List.filterMap_cons,ho,List.filterMap_nil,mL,ZS] at hm ⊢
  simp only [wpListIn]
  exact Vq hW hC aO h hJ hst hm.1 hp hX fun a' w' g1 g2=>⟨trivial,hn a' w' g1 g2⟩
theorem pG {v:fG}{vs:List fG}(h:ops rec env (v::vs) st=some st'):∃ st1,op rec env v st=some st1∧ops rec env vs st1=some st':=bind_some h
def L6 (S2:World→Prop)(T:Tags)(w:World):World→Prop:=fun w'=>S2 w'∧Gj T w w'
theorem fA {S2:World→Prop}(zC:∀ T' w',bP T T' w w'→S2 w'):∀ T' w',bP T T' w w'→L6 S2 T w w':=fun T' w' h=>⟨zC T' w' h,h.adP⟩
theorem rE {S2:World→Prop}{K:Act→Prop}{l:List Oper}{vs:List fG}(h:aF L σ T st a w)(hm:mL P bI l vs=true)(hq:kG true vs=true)(hp:ops rec env vs st=some st')(hK:∀ a' T',aF L σ T' st' a' w→Still T T'→a'.defers=a.defers→aK st st'→K a'):wpQuiet P bI (L6 S2 T w) K l a:=by
 exact aaC (fun _ h=>h.2) h hm hq hp hK
theorem Gl (hW:jV F)(hC:C.Ok P L)(aO:eG P rec env)(hX:st'.ys <+: C.X){last:List Nat}:∀ {tl:List (List Nat×Nat)} {S2:World→Prop} {vs:List fG} {st:St} {σ:Nat→Nat} {T:Tags} {a:Act} {w:World},aF L σ T st a w→(∀ T' w',bP T T' w w'→S2 w')→C.J st.ys.length T w→st.stop=C.stop→wR P bI last tl vs=true→ops rec env vs st=some st' →
  (∀ a' w',After C L st.boxes.length σ T w st' a.defers a' w'→Q a' w')→mZ F n P bI Q last S2 tl a w
 |[],S2,vs,st,σ,T,a,w,h,zC,hJ,hst,hm,hp,hn=>by
  unfold mZ
  simp only [wR,ZS] at hm
  refine ⟨L6 S2 T w,fun _ h=>h.1,fA zC T w (bP.refl T w),?_⟩
  refine rE h hm.1 hm.2 hp fun a3 T3 q1 q2 q3 q4=>hn _ _ ?_
  rw [← q3]
  exact After.qg hC q1 (by rw [q4.2.1];exact hJ) (q2.mX w) fun _ _=>rfl
 |(seg,i)::more,S2,vs,st,σ,T,a,w,h,zC,hJ,hst,hm,hp,hn=>by
  unfold mZ
  simp only [wR,ZS] at hm
  obtain ⟨⟨⟨hm1,hmu⟩,hmq⟩,hm2⟩:=hm
  split at hm2
  case h_2=>cases hm2
  rename_i v vs' hvs
  simp only [ZS] at hm2
  obtain ⟨hm2,hm3⟩:=hm2
  rw [← ZaI (I8 bI i seg).length vs,← ZaI (LZ bI i seg).length (vs.drop (I8 bI i seg).length),hvs] at hp
  obtain ⟨st1,p1,p2⟩:=dI hp
  obtain ⟨st1',pu,p2⟩:=dI p2
  obtain ⟨st2,p2,p3⟩:=pG p2
  have gl:=dU (rec:=rec) (env:=env) p3
  refine yu h hm1 p1 fun a0 T0 f1 f2 f3 f4=>?_
  have vK:∀ T' w',bP T0 T' w w'→S2 w':=fun T' w' hw=>zC T' w' ((f2.mX w).stays.trans hw)
  refine ⟨L6 S2 T0 w,fun _ h=>h.1,fA vK T0 w (bP.refl T0 w),?_⟩
  refine rE f1 hmu hmq pu fun a1 T1 g1 g2e g3 g4'=>?_
  have g2':=g2e
  have g2:=f2.trans g2'
  have g4:=f4.trans g4'
  have hJ1:C.J st1'.ys.length T1 w:=by rw [g4.2.1];exact hC.keep _ _ _ _ _ (g2.mX w) hJ
  refine vJ hW hC aO g1 hJ1 (g4.2.2.trans hst) hm2 p2 (gl.2.1.trans hX) ?_
  rintro a2 w2 ⟨σ2,T2,ms,k1,k2,k3,k4,k5,k6⟩ _
  have hs4:=((g2'.mX w).stays).trans k4
  have hn3:∀ T' w',bP T2 T' w2 w'→L6 S2 T0 w w':=fun T' w' hw'=>fA vK T' w' (hs4.trans hw')
  refine ⟨hn3 _ _ (bP.refl _ _),Gl hW hC aO hX k1 hn3 k2 (((gG p2).2.2.trans g4.2.2).trans hst) hm3 p3 fun a' w' hA=>hn _ _ ?_⟩
  exact After.trans (((g2.mX w).stays).trans k4) (fun k hk=>k3 k (Zag hk g4.1)) (by rw [k5,g3,f3]) k6 (zR g4.1 (gG p2).1) hA
theorem Nk (hW:jV F)(hC:C.Ok P L)(aO:eG P rec env)(hX:st'.ys <+: C.X){fin:Fin1}{last:List Nat}:∀ {acts:List (List Nat×Nat)} {S2:World→Prop} {vs:List fG} {st:St} {σ:Nat→Nat} {T:Tags} {a:Act} {w:World},aF L σ T st a w→(∀ T' w',bP T T' w w'→S2 w')→C.J st.ys.length T w→st.stop=C.stop→vI P bI fin last acts vs=true→ops rec env vs st=some st' →
  (∀ a' w',After C L st.boxes.length σ T w st' a.defers a' w'→Q a' w')→pz F n P bI Q (Whole w) S2 acts fin last a w
 |[],S2,vs,st,σ,T,a,w,h,zC,hJ,hst,hm,hp,hn=>by
  cases fin with
  |none =>
   unfold pz
   simp only [vI] at hm
   refine yu h hm hp fun a' T' g1 g2 g3 g4=>hn _ _ ?_
   rw [← g3]
   exact After.qg hC g1 (by rw [g4.2.1];exact hJ) (g2.mX w) fun _ _=>rfl
  |some p =>
   obtain ⟨dF,dG,f,tl⟩:=p
   unfold pz
   simp only [vI,ZS] at hm
   obtain ⟨⟨⟨hm1,hmu⟩,hmq⟩,hm2⟩:=hm
   split at hm2
   case h_2=>cases hm2
   rename_i v vs' hvs
   simp only [ZS] at hm2
   obtain ⟨hm2,hm3⟩:=hm2
   rw [← ZaI dF.length vs,← ZaI dG.length (vs.drop dF.length),hvs] at hp
   obtain ⟨st1,p1,p2⟩:=dI hp
   obtain ⟨st1',pu,p2⟩:=dI p2
   obtain ⟨st2,p2,p3⟩:=pG p2
   have gl:=dU (rec:=rec) (env:=env) p3
   refine yu h hm1 p1 fun a0 T0 f1 f2 f3 f4=>?_
   have vK:∀ T' w',bP T0 T' w w'→S2 w':=fun T' w' hw=>zC T' w' ((f2.mX w).stays.trans hw)
   refine ⟨L6 S2 T0 w,fun _ h=>h.1,fA vK T0 w (bP.refl T0 w),?_⟩
   refine rE f1 hmu hmq pu fun a1 T1 g1 g2e g3 g4'=>?_
   have g2':=g2e
   have g2:=f2.trans g2'
   have g4:=f4.trans g4'
   have hJ1:C.J st1'.ys.length T1 w:=by rw [g4.2.1];exact hC.keep _ _ _ _ _ (g2.mX w) hJ
   refine vJ hW hC aO g1 hJ1 (g4.2.2.trans hst) hm2 p2 (gl.2.1.trans hX) ?_
   rintro a2 w2 ⟨σ2,T2,ms,k1,k2,k3,k4,k5,k6⟩ _
   have hs4:=((g2'.mX w).stays).trans k4
   have hn3:∀ T' w',bP T2 T' w2 w'→L6 S2 T0 w w':=fun T' w' hw'=>fA vK T' w' (hs4.trans hw')
   refine ⟨hn3 _ _ (bP.refl _ _),Gl hW hC aO hX k1 hn3 k2 (((gG p2).2.2.trans g4.2.2).trans hst) hm3 p3 fun a' w' hA=>hn _ _ ?_⟩
   exact After.trans (((g2.mX w).stays).trans k4) (fun k hk=>k3 k (Zag hk g4.1)) (by rw [k5,g3,f3]) k6 (zR g4.1 (gG p2).1) hA
 |(seg,i)::more,S2,vs,st,σ,T,a,w,h,zC,hJ,hst,hm,hp,hn=>by
  unfold pz
  simp only [vI,ZS] at hm
  obtain ⟨⟨⟨hm1,hmu⟩,hmq⟩,hm2⟩:=hm
  split at hm2
  case h_2=>cases hm2
  rename_i v vs' hvs
  simp only [ZS] at hm2
  obtain ⟨⟨hm2,hm3⟩,hm4⟩:=hm2
  rw [← ZaI (kS bI fin seg).length vs,← ZaI (kF bI fin seg).length (vs.drop (kS bI fin seg).length),hvs] at hp
  obtain ⟨st1,p1,p2⟩:=dI hp
  obtain ⟨st1',pu,p2⟩:=dI p2
  obtain ⟨st2,p2,p3⟩:=pG p2
  have gl:=dU (rec:=rec) (env:=env) p3
  refine yu h hm1 p1 fun a0 T0 f1 f2 f3 f4=>?_
  have vK:∀ T' w',bP T0 T' w w'→S2 w':=fun T' w' hw=>zC T' w' ((f2.mX w).stays.trans hw)
  refine ⟨L6 S2 T0 w,fun _ h=>h.1,fA vK T0 w (bP.refl T0 w),?_⟩
  refine rE f1 hmu hmq pu fun a1 T1 g1 g2e g3 g4'=>?_
  have g2':=g2e
  have g2:=f2.trans g2'
  have g4:=f4.trans g4'
  have hJ1:C.J st1'.ys.length T1 w:=by rw [g4.2.1];exact hC.keep _ _ _ _ _ (g2.mX w) hJ
  refine vJ hW hC aO g1 hJ1 (g4.2.2.trans hst) hm2 p2 (gl.2.1.trans hX) ?_
  rintro a2 w2 ⟨σ2,T2,ms,k1,k2,k3,k4,k5,k6⟩ hwh
  have hwh:=hwh hm3
  have hs4:=((g2'.mX w).stays).trans k4
  have hn3:∀ T' w',bP T2 T' w2 w'→L6 S2 T0 w w':=fun T' w' hw'=>fA vK T' w' (hs4.trans hw')
  refine ⟨Whole w2,fun w' hw'=>⟨zR hwh.1 hw'.1,fun b hb=>(hw'.2 b (Zag hb hwh.1)).trans (hwh.2 b hb)⟩,Whole.refl w2,hn3 _ _ (bP.refl _ _),?_⟩
  refine Nk hW hC aO hX k1 hn3 k2 (((gG p2).2.2.trans g4.2.2).trans hst) hm4 p3 fun a' w' hA=>hn _ _ ?_
  exact After.trans (((g2.mX w).stays).trans k4) (fun k hk=>k3 k (Zag hk g4.1)) (by rw [k5,g3,f3]) k6 (zR g4.1 (gG p2).1) hA
theorem EI (T:Tags)(w:World):oL T w w.drew:=⟨ze _,fun _ _ _=>rfl⟩
theorem wS (T:Tags)(w:World):uV T T w w.drew:=⟨ze _,rfl,rfl,rfl,fun _ _ _=>rfl,fun _ h=>h,fun _ _ h=>h⟩
theorem DV {id:Nat}{Q:Exit→Act→World→Prop}(hW:jV F)(hC:C.Ok P L)(aO:eG P rec env)(h:aF L σ T st a w)(hJ:C.J st.ys.length T w)(hst:st.stop=C.stop)(hX:st'.ys <+: C.X){acts:List (List Nat×Nat)}{fin:Fin1}{last:List Nat}{vs:List fG}
  (hmo:P.follows .mixedOrders=true) (hnd:jk bI=true) (hok:Pz bI acts fin last=true) (hm:vI P bI fin last acts vs=true) (hp:ops rec env vs st=some st')
  (hn:∀ a' w',After C L st.boxes.length σ T w st' a.defers a' w'→Q .normal a' w'):(Code.region id bI true).wpIn F n P Q a w:=by
 refine zB (Whole w.drew) hW.fn hmo hnd hok (Whole.refl _) ?_
 refine Nk hW hC aO hX (h.sees (EI T w)) (fun _ _ _=>trivial) (hC.keep _ _ _ _ _ (wS T w) hJ) hst hm hp fun a' w' hA=>hn _ _ ?_
 exact After.trans (ms:=[]) (wS T w).stays (fun _ _=>rfl) rfl Marks.nil (ze _) hA
end
theorem AQ (a:ByteArray):qA a a=true:=by unfold qA;exact beq_self_eq_true _
theorem Gm {a b:ByteArray}(h:qA a b=true):a=b:=by
 unfold qA at h
 have h:=eq_of_beq h
 obtain ⟨a⟩:=a;obtain ⟨b⟩:=b
 simp only at h
 congr
 exact Array.toList_inj.1 h
mutual
theorem PV.iK:∀ x:PV,PV.same x x=true
 |.int k n=>by simp [PV.same]
 |.bool b=>by simp [PV.same]
 |.str s=>by simp [PV.same,AQ]
 |.list sz es=>by simp [PV.same,PV.dO es]
 |.agg cs=>by simp [PV.same,PV.dO cs]
 |.func f cs=>by simp [PV.same,PV.dO cs]
 |.nY=>by simp [PV.same]
 |.bW cs j=>by simp [PV.same,PV.dO cs]
 |.void=>by simp [PV.same]
 |.kE s=>by simp [PV.same]
theorem PV.dO:∀ l:List PV,PV.iM l l=true
 |[]=>by simp [PV.iM]
 |x::xs=>by simp [PV.iM,PV.iK x,PV.dO xs]
end
mutual
theorem PV.same_eq:∀ x y:PV,PV.same x y=true→x=y
 |.int k n,y,h=>by cases y<;>simp_all [PV.same]
 |.bool b,y,h=>by cases y<;>simp_all [PV.same]
 |.str s,y,h=>by
  cases y<;>simp only [PV.same,zj] at h
  rw [Gm h]
 |.list sz es,y,h=>by
  cases y<;>simp only [PV.same,zj,ZS,beq_iff_eq] at h
  rw [h.1,PV.gW _ _ h.2]
 |.agg cs,y,h=>by
  cases y<;>simp only [PV.same,zj] at h
  rw [PV.gW _ _ h]
 |.func f cs,y,h=>by
  cases y<;>simp only [PV.same,zj,ZS,beq_iff_eq] at h
  rw [h.1,PV.gW _ _ h.2]
 |.nY,y,h=>by cases y<;>simp_all [PV.same]
 |.bW cs j,y,h=>by
  cases y<;>simp only [PV.same,zj,ZS,beq_iff_eq] at h
  rw [h.1,PV.gW _ _ h.2]
 |.void,y,h=>by cases y<;>simp_all [PV.same]
 |.kE s,y,h=>by cases y<;>simp_all [PV.same]
theorem PV.gW:∀ l m:List PV,PV.iM l m=true→l=m
 |[],m,h=>by cases m<;>simp_all [PV.iM]
 |x::xs,m,h=>by
  cases m<;>simp only [PV.iM,zj,ZS] at h
  rw [PV.same_eq _ _ h.1,PV.gW _ _ h.2]
end
mutual
theorem AV.iK:∀ x:AV,AV.same x x=true
 |.pv x=>by simp [AV.same,PV.iK]
 |.row sz es=>by simp [AV.same,PV.dO]
 |.ref r a b=>by simp [AV.same]
 |.aJ o j=>by simp [AV.same]
 |.mW r i j=>by simp [AV.same]
 |.fn f cs=>by simp [AV.same,AV.dO cs]
 |.ku k l=>by simp [AV.same,AV.dO l]
 |.zH sz es=>by simp [AV.same,PV.dO]
 |.pp o j=>by simp [AV.same]
 |.lY=>by simp [AV.same]
 |.any=>by simp [AV.same]
theorem AV.dO:∀ l:List AV,AV.iM l l=true
 |[]=>by simp [AV.iM]
 |x::xs=>by simp [AV.iM,AV.iK x,AV.dO xs]
end
mutual
theorem AV.same_eq:∀ x y:AV,AV.same x y=true→x=y
 |.pv x,y,h=>by
  cases y<;>simp only [AV.same,zj] at h
  rw [PV.same_eq _ _ h]
 |.row sz es,y,h=>by
  cases y<;>simp only [AV.same,zj,ZS,beq_iff_eq] at h
  rw [h.1,PV.gW _ _ h.2]
 |.ref r a b,y,h=>by cases y<;>simp_all [AV.same]
 |.aJ o j,y,h=>by cases y<;>simp_all [AV.same]
 |.mW r i j,y,h=>by cases y<;>simp_all [AV.same]
 |.fn f cs,y,h=>by
  cases y<;>simp only [AV.same,zj,ZS,beq_iff_eq] at h
  rw [h.1,AV.gW _ _ h.2]
 |.ku k l,y,h=>by
  cases y<;>simp only [AV.same,zj,ZS,beq_iff_eq] at h
  rw [h.1,AV.gW _ _ h.2]
 |.zH sz es,y,h=>by
  cases y<;>simp only [AV.same,zj,ZS,beq_iff_eq] at h
  rw [h.1,PV.gW _ _ h.2]
 |.pp o j,y,h=>by cases y<;>simp_all [AV.same]
 |.lY,y,h=>by cases y<;>simp_all [AV.same]
 |.any,y,h=>by cases y<;>simp_all [AV.same]
theorem AV.gW:∀ l m:List AV,AV.iM l m=true→l=m
 |[],m,h=>by cases m<;>simp_all [AV.iM]
 |x::xs,m,h=>by
  cases m<;>simp only [AV.iM,zj,ZS] at h
  rw [AV.same_eq _ _ h.1,AV.gW _ _ h.2]
end
theorem BV.iK (x:BV):BV.same x x=true:=by cases x<;>simp [BV.same,PV.iK,PV.dO]
theorem BV.same_eq {x y:BV}(h:BV.same x y=true):x=y:=by
 cases x<;>cases y<;>simp only [BV.same,zj,ZS,beq_iff_eq] at h
 ·rw [PV.same_eq _ _ h]
 ·rw [h.1,PV.gW _ _ h.2]
theorem l7 {α:Type}{f:α→α→Bool}(hf:∀ x,f x x=true):∀ l,kU f l l=true
 |[]=>rfl
 |x::xs=>by simp [kU,hf x,l7 hf xs]
theorem pI {α:Type}{f:α→α→Bool}(hf:∀ x y,f x y=true→x=y):∀ l m,kU f l m=true→l=m
 |[],m,h=>by cases m<;>simp_all [kU]
 |x::xs,m,h=>by
  cases m<;>simp only [kU,zj,ZS] at h
  rw [hf _ _ h.1,pI hf _ _ h.2]
theorem Box.iK (x:Box):Box.same x x=true:=by simp [Box.same,l7 BV.iK]
theorem Box.same_eq {x y:Box}(h:Box.same x y=true):x=y:=by
 obtain ⟨a,b⟩:=x;obtain ⟨c,d⟩:=y
 simp only [Box.same,ZS,beq_iff_eq] at h
 rw [h.1,pI (fun _ _=>BV.same_eq) _ _ h.2]
theorem St.iK (s:St):s.same s=true:=by
 simp [St.same,AV.dO,l7 Box.iK,l7 PV.dO]
theorem St.same_eq {a b:St}(h:a.same b=true):a=b:=by
 obtain ⟨a1,a2,a3,a4⟩:=a;obtain ⟨b1,b2,b3,b4⟩:=b
 simp only [St.same,ZS,decide_eq_true_eq] at h
 rw [AV.gW _ _ h.1,pI (fun _ _=>Box.same_eq) _ _ h.2.1,pI PV.gW _ _ h.2.2.1,h.2.2.2]
theorem Jd {s:St}:∀ {l:List (Option St)} {r:St},agree s l=some r→r=s∧∀ o∈l,o=some s
 |[],r,h=>by simp only [agree,ZD.injEq] at h;exact ⟨h.symm,by simp⟩
 |o::l,r,h=>by
  unfold agree at h
  obtain ⟨s',h1,h2⟩:=Zaz.1 h
  split at h2
  case isFalse=>cases h2
  rename_i hs
  have:=St.same_eq hs
  subst this
  obtain ⟨g1,g2⟩:=Jd h2
  exact ⟨g1,fun o' ho=>by rcases ZaL.1 ho with rfl|ho;exact h1;exact g2 o' ho⟩
def ng (p:Nat→Nat)(T:Tags):Tags:=fun b=>match T b with
 |.box o=>.box (p o)
 |.row r=>.row (r.ren p)
 |q=>q
section
variable {L:Nat}{σ:Nat→Nat}{T:Tags}{st st':St}{a:Act}{w:World}{p:Nat→Nat}
theorem yw {b:Nat}(h:T b=.ro):ng p T b=.ro:=by simp [ng,h]
theorem wU {b:Nat}(h:T b=.other):ng p T b=.other:=by simp [ng,h]
theorem Nl {b o:Nat}(h:T b=.box o):ng p T b=.box (p o):=by simp [ng,h]
theorem Np {b:Nat}{r:Root}(h:T b=.row r):ng p T b=.row (r.ren p):=by simp [ng,h]
theorem Still.ren (p:Nat→Nat)(T:Tags):Still T (ng p T):=⟨fun _=>yw,fun _=>wU⟩
theorem aF.ren (h:aF L σ T st a w)(hp:∀ o,p (p o)=o)(h1:st'.slots=st.slots.map (AV.ren p))(h2:∀ o:Nat,st'.boxes[p o]?=st.boxes[o]?)(h3:∀ o,o<st.boxes.length→p o<st'.boxes.length) :
  aF L (fun o=>σ (p o)) (ng p T) st' a w:=by
 have hw:∀ b,T b=.ro→b<w.heap.size→ng p T b=.ro∧w.heap[b]?=w.heap[b]?:=fun b e _=>⟨yw e,rfl⟩
 have hrow:∀ r sz es v,aI T w r sz es v→aI (ng p T) w (r.ren p) sz es v:=fun r sz es v hr=>hr.frame (fun b e _=>⟨Np e,rfl⟩) hw
 have hget:∀ (t:Nat),st'.slots[t]?=(st.slots[t]?).map (AV.ren p):=fun t=>by rw [h1,zc]
 have ajk:∀ (x:AV) sz es,x.ren p=.row sz es→x=.row sz es:=fun x sz es e=>by cases x<;>simp [AV.ren] at e ⊢<;>exact e
 have hr:∀ r sz es,st'.row (r.ren p)=some (sz,es)→st.row r=some (sz,es):=fun r sz es e=>by
  cases r with
  |slot t =>
   simp only [Root.ren,St.row,hget] at e ⊢
   cases hs:st.slots[t]? with
   |none=>rw [hs] at e;simp at e
   |some x =>
    rw [hs] at e
    simp only [Zae] at e
    split at e
    ·rename_i q;rw [ajk x _ _ (ZD.inj q)];exact e
    ·cases e
  |part t i=>simp [Root.ren,St.row] at e
  |cell o j=>simp only [Root.ren,St.row,h2] at e ⊢;exact e
 have hh:∀ r,hdr (fun o=>σ (p o)) a w (r.ren p)=hdr σ a w r:=fun r=>by cases r<;>simp [hdr,Root.ren,hp]
 have hlow:∀ r:Root,r.low st.boxes.length→(r.ren p).low st'.boxes.length:=fun r hl=>by cases r<;>simp only [Root.low,Root.ren] at hl ⊢;exact h3 _ hl
 refine ⟨by simp [h1,h.size],fun t av v ht hv=>?_,fun o bx ho=>?_,fun b hb=>wU (h.fresh b hb)⟩
 ·rw [hget] at ht
  obtain ⟨x,hx,rfl⟩:=Zaj.1 ht
  have g:=h.slots t x v hx hv
  cases x with
  |pv y=>exact aA.frame hw g
  |row sz es=>exact hrow _ _ _ _ g
  |ref r off len=>exact ⟨hlow r g.1,fun sz es e=>by rw [hh];exact g.2 sz es (hr r sz es e)⟩
  |aJ o j=>exact ⟨h3 o g.1,by rw [g.2];simp [hp]⟩
  |mW r i j=>exact ⟨hlow r g.1,fun sz es e=>by rw [hh];exact g.2 sz es (hr r sz es e)⟩
  |fn f caps =>
   obtain ⟨arr,e1,e2,e3⟩:=g
   refine ⟨arr,e1,by simpa using e2,fun k y u hy hu=>?_⟩
   rw [zc] at hy
   obtain ⟨z,hz,rfl⟩:=Zaj.1 hy
   have g:=e3 k z u hz hu
   cases z<;>simp only [fJ,UQ] at g ⊢
   case pv=>exact aA.frame hw g
   case aJ o j=>exact ⟨h3 o g.1,by rw [g.2];simp [hp]⟩
  |ku k l =>
   obtain ⟨arr,e1,e2,e3⟩:=g
   refine ⟨arr,e1,e2,fun k y u hy hu=>?_⟩
   have g:=e3 k y u hy hu
   cases y<;>simp only [iD] at g ⊢
   case pv=>exact aA.frame hw g
   case row sz es=>exact hrow _ _ _ _ g
  |zH sz es=>exact ⟨aA.frame hw g.1,g.2⟩
  |pp o j =>
   obtain ⟨g0,b,E,e1,e2,e3⟩:=g
   have:=hw b e2 (zr.1 e3).1
   exact ⟨h3 o g0,b,E,e1,this.1,by simpa [hp] using e3⟩
  |lY=>exact g
  |any=>trivial
 ·have ho':st.boxes[p o]?=some bx:=by rw [← h2,hp];exact ho
  obtain ⟨arr,E,g1,g2,g3,g4,g5⟩:=h.boxes (p o) bx ho'
  refine ⟨arr,E,g1,g2,?_,g4,fun j bv u hj hu=>?_⟩
  ·split at g3
   ·rename_i e;rw [if_pos e];exact yw g3
   ·rename_i e;rw [if_neg e,Nl g3,hp]
  ·obtain ⟨k1,k2⟩:=g5 j bv u hj hu
   refine ⟨k1,?_⟩
   cases bv with
   |pv x=>exact aA.frame hw k2
   |row sz es =>
    have:=hrow _ _ _ _ k2
    have e:(Root.cell (p o) j).ren p=.cell o j:=by simp [Root.ren,hp]
    rw [e] at this
    exact this
theorem Nq (m o:Nat):swapAt m (swapAt m o)=o:=by
 unfold swapAt
 split<;>split<;>simp_all<;>omega
theorem aF.swap2 (h:aF L σ T st a w){nb:Nat}(hs:st.swap2 nb=some st'):∃ σ' T',aF L σ' T' st' a w∧Still T T'∧(∀ k,k<nb→σ' k=σ k)∧st'.ys=st.ys∧st'.stop=st.stop∧st'.boxes.length=st.boxes.length:=by
 unfold St.swap2 at hs
 split at hs
 case isFalse=>cases hs
 rename_i hn
 have hs:=ZD.inj hs
 have hlen:st'.boxes.length=st.boxes.length:=by rw [← hs];simp;omega
 refine ⟨_,_,h.ren (p:=swapAt (st.boxes.length - 2)) (Nq _) (by rw [← hs]) (fun o=>?_) (fun o ho=>?_),Still.ren _ _,fun k hk=>?_,by rw [← hs],by rw [← hs],hlen⟩
 ·have hb:st'.boxes=st.boxes.take (st.boxes.length - 2)++(st.boxes.drop (st.boxes.length - 1)++(st.boxes.drop (st.boxes.length - 2)).take 1):=by rw [← hs]
  rw [hb]
  generalize hm:st.boxes.length - 2=m
  have hl:st.boxes.length=m+2:=by omega
  rw [show st.boxes.length - 1=m+1 by omega]
  have hd:st.boxes.drop m=[st.boxes[m],st.boxes[m+1]]:=by
   rw [zw (by omega),zw (by omega),Za9 (by omega)]
  have hd1:st.boxes.drop (m+1)=[st.boxes[m+1]]:=by
   rw [zw (by omega),Za9 (by omega)]
  rw [hd,hd1]
  have htl:(st.boxes.take m).length=m:=by simp;omega
  by_cases h1:o=m
  ·subst h1
   rw [show swapAt o o=o+1 by simp [swapAt],Zac (by omega),htl]
   simp [ZZ (show o<st.boxes.length by omega)]
  ·by_cases h2:o=m+1
   ·subst h2
    rw [show swapAt m (m+1)=m by simp [swapAt],Zac (by omega),htl]
    simp [ZZ (show m+1<st.boxes.length by omega)]
   ·rw [show swapAt m o=o by simp [swapAt,h1,h2]]
    rcases ZaE o m with h|h
    ·rw [Zab (by omega),Zan,if_pos h]
    ·rw [Zac (by omega),htl,Zbb (by simp;omega),Zbb (by omega)]
 ·rw [hlen]
  unfold swapAt
  split
  ·omega
  ·split<;>omega
 ·have:swapAt (st.boxes.length - 2) k=k:=by
   unfold swapAt
   rw [if_neg (by omega),if_neg (by omega)]
  rw [this]
end
def fP.tail (j:Nat)(z:fP):Option fP:=match z.acts with
 |(_,i)::more=>if i=j then some { z with acts:=more } else none
 |[]=>none
def tails (j:Nat)(alts:List fP):List fP:=alts.filterMap (fP.tail j)
def zN (seg:List Nat)(z:fP):Bool:=match z.acts with
 |(s,_)::_=>s==seg
 |[]=>false
def Gn (r:List Nat)(z:fP):Bool:=match z.acts with
 |(_,i)::_=>r.contains i
 |[]=>false
def Vs (z:fP):Option fP:=match z.acts,z.fin with
 |[],some (_,_,_,tl)=>some { z with acts:=tl,fin:=none }
 |_,_=>none
def sN (ops:Array Oper)(f:Nat):Nat→Nat→List fP→Array Bool→Bool
 |0,k,alts,l=>match alts with
  |[x]=>zf ops f x.last x.acts l&&eY x.last x.acts==k
  |_=>false
 |m+1,k,alts,l=>match alts with
  |[]=>false
  |[x]=>zf ops f x.last x.acts l&&eY x.last x.acts==k
  |x::y::zs=>match x.acts with
   |[]=>false
   |(seg,i)::_=>(x::y::zs).all (zN seg)&&(seg.all (fun j=>f != j)&&I8 ops i seg==[])&&decide (seg.length+1≤k)&&match dK ops seg l with
    |some l1=>!(Region.ready .any ops l1).isEmpty&&(x::y::zs).all (Gn (Region.ready .any ops l1))&&(Region.ready .any ops l1).all fun j=>f != j&&sN ops f m (k - 1 - seg.length) (tails j (x::y::zs)) (l1.setIfInBounds j true)
    |none=>false
def AU (dF dG:List Nat)(g:Nat)(z:fP):Bool:=match z.acts with
 |[]=>match z.fin with
  |some (a,b,c,_)=>a==dF&&b==dG&&c==g
  |none=>false
 |(s,_)::_=>s==dF++dG
def PD (r:List Nat)(z:fP):Bool:=match z.acts with
 |(_,i)::_=>r.contains i
 |[]=>true
def rW (ops:Array Oper)(f:Nat):Nat→Nat→List fP→Array Bool→Bool
 |0,k,alts,l=>match alts with
  |[x]=>jC ops x.fin==f&&iJ x.acts x.fin x.last==k&&Gi ops x.acts x.fin x.last l
  |_=>false
 |m+1,k,alts,l=>match alts with
  |[]=>false
  |[x]=>jC ops x.fin==f&&iJ x.acts x.fin x.last==k&&Gi ops x.acts x.fin x.last l
  |x::y::zs=>match x.acts with
   |[]=>match x.fin with
    |none=>false
    |some (dF,dG,g,tl)=>(y::zs).all (AU dF dG g)&&(x::y::zs).all (fun z=>jC ops z.fin==f&&z.fin.isSome==x.fin.isSome)&&I9 ops x.fin (dF++dG)&&(kS ops x.fin (dF++dG)==dF&&kF ops x.fin (dF++dG)==dG)&&decide (dF.length+dG.length+1≤k)&&match (dK ops dF l).bind (dK ops dG) with
     |some l1=>!(Region.ready .any ops l1).isEmpty&&(y::zs).all (PD (Region.ready .any ops l1))&&(Region.ready .any ops l1).contains g&&(Region.ready .any ops l1).all fun j=>if j=g then sN ops f m (k - 1 - (dF.length+dG.length)) ((x::y::zs).filterMap Vs) (l1.setIfInBounds j true) else rW ops f m (k - 1 - (dF.length+dG.length)) (tails j (y::zs)) (l1.setIfInBounds j true)
     |none=>false
   |(seg,_)::_=>(x::y::zs).all (zN seg)&&(x::y::zs).all (fun z=>jC ops z.fin==f&&z.fin.isSome==x.fin.isSome)&&I9 ops x.fin seg&&decide (seg.length+1≤k)&&match (dK ops (kS ops x.fin seg) l).bind (dK ops (kF ops x.fin seg)) with
    |some l1=>!(Region.ready .any ops l1).isEmpty&&(x::y::zs).all (Gn (Region.ready .any ops l1))&&(Region.ready .any ops l1).all fun j=>rW ops f m (k - 1 - seg.length) (tails j (x::y::zs)) (l1.setIfInBounds j true)
    |none=>false
def iE (last:List Nat):List (List Nat×Nat)→List Nat
 |[]=>last
 |(seg,i)::more=>seg++(i::iE last more)
def adQ (last:List Nat):Fin1→List Nat
 |none=>last
 |some (dF,dG,f,tl)=>dF++(dG++(f::iE last tl))
def iF (fin:Fin1)(last:List Nat):List (List Nat×Nat)→List Nat
 |[]=>adQ last fin
 |(seg,i)::more=>seg++(i::iF fin last more)
def Nr (P:Program)(ops:Array Oper)(vo:List fG)(alts:List fP):Bool :=
 Region.noSelect ops&&(alts.all fun x=>x.ord==iF x.fin x.last x.acts&&vI P ops x.fin x.last x.acts (bD vo x.ord))&&match alts with
  |[]=>false
  |x::_=>rW ops (jC ops x.fin) ops.size ops.size alts (ZaT ops.size false)
section
variable {F:Fence}{n:Nat}{P:Program}{ops:Array Oper}{Q:Act→World→Prop}{f:Nat}
def qj (F:Fence)(n:Nat)(P:Program)(ops:Array Oper)(Q:Act→World→Prop):Nat→(World→Prop)→List fP→Act→World→Prop
 |0,S2,alts,a,w=>match alts with
  |[x]=>mZ F n P ops Q x.last S2 x.acts a w
  |_=>False
 |m+1,S2,alts,a,w=>match alts with
  |[]=>False
  |[x]=>mZ F n P ops Q x.last S2 x.acts a w
  |x::y::zs=>match x.acts with
   |[]=>False
   |(seg,_)::_=>∃ S3:World→Prop,(∀ w,S3 w→S2 w)∧S3 w∧wpQuiet P ops S3 (fun a'=>∀ j,(tails j (x::y::zs))≠[]→wpListIn F n P ops (fun e a'' w''=>e=.normal∧S3 w''∧qj F n P ops Q m S3 (tails j (x::y::zs)) a'' w'') (pick ops [j]) a' w) (pick ops seg) a
def sO (F:Fence)(n:Nat)(P:Program)(ops:Array Oper)(Q:Act→World→Prop):Nat→(World→Prop)→(World→Prop)→List fP→Act→World→Prop
 |0,S,S2,alts,a,w=>match alts with
  |[x]=>pz F n P ops Q S S2 x.acts x.fin x.last a w
  |_=>False
 |m+1,S,S2,alts,a,w=>match alts with
  |[]=>False
  |[x]=>pz F n P ops Q S S2 x.acts x.fin x.last a w
  |x::y::zs=>match x.acts with
   |[]=>match x.fin with
    |none=>False
    |some (dF,dG,g,tl)=>wpQuiet P ops S (fun a0=>∃ S3:World→Prop,(∀ w,S3 w→S2 w)∧S3 w∧wpQuiet P ops S3 (fun a'=>wpListIn F n P ops (fun e a'' w''=>e=.normal∧S3 w''∧qj F n P ops Q m S3 ((x::y::zs).filterMap Vs) a'' w'') (pick ops [g]) a' w∧∀ j,j≠g→(tails j (y::zs))≠[]→wpListIn F n P ops (fun e a'' w''=>e=.normal∧∃ S':World→Prop,(∀ w,S' w→S w)∧S' w''∧S3 w''∧sO F n P ops Q m S' S3 (tails j (y::zs)) a'' w'') (pick ops [j]) a' w) (pick ops dG) a0) (pick ops dF) a
   |(seg,_)::_=>wpQuiet P ops S (fun a0=>∃ S3:World→Prop,(∀ w,S3 w→S2 w)∧S3 w∧wpQuiet P ops S3 (fun a'=>∀ j,(tails j (x::y::zs))≠[]→wpListIn F n P ops (fun e a'' w''=>e=.normal∧∃ S':World→Prop,(∀ w,S' w→S w)∧S' w''∧S3 w''∧sO F n P ops Q m S' S3 (tails j (x::y::zs)) a'' w'') (pick ops [j]) a' w) (pick ops (kF ops x.fin seg)) a0) (pick ops (kS ops x.fin seg)) a
theorem PE {m k:Nat}{l:Array Bool}{alts:List fP}(h:rW ops f m k alts l=true):alts≠[]:=by
 rintro rfl
 cases m<;>simp [rW] at h
theorem EJ {x y:Fin1}(h1:jC ops x=jC ops y)(h2:x.isSome=y.isSome):oG ops x=oG ops y:=by
 cases x<;>cases y<;>simp only [Option.isSome_none,Option.isSome_some,zj,Bool.true_eq_false] at h2
 ·rfl
 ·simp only [jC] at h1
  funext i
  simp only [oG,h1]
theorem aaE {m k:Nat}{l:Array Bool}{alts:List fP}(h:sN ops f m k alts l=true):alts≠[]:=by
 rintro rfl
 cases m<;>simp [sN] at h
theorem Ns {S:World→Prop}(hF:∀ f,F.fn f)(hnd:jk ops=true)(hsel:Region.noSelect ops=true):∀ (m:Nat) (alts:List fP) (k:Nat) (S2:World→Prop) (l:Array Bool) (a:Act) (w:World),l.size=ops.size→Closed ops l→l.getD f false=true→S2 w→sN ops f m k alts l=true →
  qj F n P ops Q m S2 alts a w→gV F n P ops S S2 f Q k l a w:=by
 have one:∀ (x:fP) (k:Nat) (S2:World→Prop) (l:Array Bool) (a:Act) (w:World),l.size=ops.size→Closed ops l→l.getD f false=true→S2 w→(zf ops f x.last x.acts l&&eY x.last x.acts==k)=true→mZ F n P ops Q x.last S2 x.acts a w→gV F n P ops S S2 f Q k l a w:=fun x k S2 l a w hs hc hf hS2 hB h=>by
  simp only [ZS,beq_iff_eq] at hB
  obtain ⟨h1,h2⟩:=hB
  subst h2
  exact vH hF hnd hsel _ S2 _ _ _ hs hc hf hS2 h1 h
 intro m
 induction m with
 |zero =>
  intro alts k S2 l a w hs hc hf hS2 hB h
  match alts,hB,h with
  |[x],hB,h=>exact one x k S2 l a w hs hc hf hS2 (by simpa only [sN] using hB) (by simpa only [qj] using h)
  |[],hB,_=>simp [sN] at hB
  |_::_::_,hB,_=>simp [sN] at hB
 |succ m ih =>
  intro alts k S2 l a w hs hc hf hS2 hB h
  match alts,hB,h with
  |[],hB,_=>simp [sN] at hB
  |[x],hB,h=>exact one x k S2 l a w hs hc hf hS2 (by simpa only [sN] using hB) (by simpa only [qj] using h)
  |x::y::zs,hB,h =>
   simp only [sN] at hB
   simp only [qj] at h
   generalize ha:x.acts=acts at hB h
   match acts,hB,h with
   |[],hB,_=>cases hB
   |(seg,i)::more,hB,h =>
    simp only [ZS,decide_eq_true_eq,beq_iff_eq] at hB h
    obtain ⟨⟨⟨_,hseg,_⟩,hk⟩,hB⟩:=hB
    obtain ⟨S3,hS3,hw3,h⟩:=h
    split at hB
    case h_2=>cases hB
    rename_i l1 hq
    simp only [ZS,ZaJ,Za1] at hB
    obtain ⟨⟨hne,_⟩,hall⟩:=hB
    refine dN (S':=S) (S2':=S3) (fun _ h=>h) hS3 _ _ _ _ ?_
    have hf1:=kY (f:=f) _ l l1 hs hq hf
    have:=dM (F:=F) (n:=n) (P:=P) (S:=S) (Q:=Q) (f:=f) hF hnd hsel (S2:=S3) (T:=S3) (w:=w) seg (k - 1 - seg.length+1) l l1 a hs hc ⟨.inl hf,hw3⟩
     (fun i hi=>⟨by have:=zt.1 hseg i hi;simpa using this,fun _ _ _ _ _ _ h=>h.2⟩) hq (fun _ _ _=>trivial) (dn (fun a' h' hs1 hc1 _=>by
      refine ⟨fun h0=>absurd h0 hne,fun j hj=>?_⟩
      have hcov:=zt.1 hall j hj
      simp only [ZS] at hcov
      have hf2:(l1.setIfInBounds j true).getD f false=true:=by
       rw [iI _ _ _ (gI hs1 hj)]
       split
       ·rfl
       ·exact hf1
      exact uT hF (fun a2 w2 h2=>⟨⟨.inl hf2,h2.1⟩,ih _ _ S3 _ _ _ (by simpa using hs1) (hc1.set hs1 hj) hf2 h2.1 hcov.2 h2.2⟩) (h' j (aaE hcov.2))) _ _ h)
    rw [show k - 1 - seg.length+1+seg.length=k by omega] at this
    exact this
theorem Ry (hF:∀ f,F.fn f)(hnd:jk ops=true)(hsel:Region.noSelect ops=true):∀ (m:Nat) (alts:List fP) (k:Nat) (S S2:World→Prop) (l:Array Bool) (a:Act) (w:World),l.size=ops.size→Closed ops l→rW ops f m k alts l=true→S w→S2 w →
  sO F n P ops Q m S S2 alts a w→gV F n P ops S S2 f Q k l a w:=by
 have one:∀ (x:fP) (k:Nat) (S S2:World→Prop) (l:Array Bool) (a:Act) (w:World),l.size=ops.size→Closed ops l→(jC ops x.fin==f&&iJ x.acts x.fin x.last==k&&Gi ops x.acts x.fin x.last l)=true→S w→S2 w→pz F n P ops Q S S2 x.acts x.fin x.last a w→gV F n P ops S S2 f Q k l a w:=fun x k S S2 l a w hs hc hB hS hS2 h=>by
  simp only [ZS,beq_iff_eq] at hB
  obtain ⟨⟨h1,h2⟩,h3⟩:=hB
  subst h1;subst h2
  exact yj hF hnd hsel x.acts S S2 l a w hs hc h3 hS hS2 h
 intro m
 induction m with
 |zero =>
  intro alts k S S2 l a w hs hc hB hS hS2 h
  match alts,hB,h with
  |[x],hB,h=>exact one x k S S2 l a w hs hc (by simpa only [rW] using hB) hS hS2 (by simpa only [sO] using h)
  |[],hB,_=>simp [rW] at hB
  |_::_::_,hB,_=>simp [rW] at hB
 |succ m ih =>
  intro alts k S S2 l a w hs hc hB hS hS2 h
  match alts,hB,h with
  |[],hB,_=>simp [rW] at hB
  |[x],hB,h=>exact one x k S S2 l a w hs hc (by simpa only [rW] using hB) hS hS2 (by simpa only [sO] using h)
  |x::y::zs,hB,h =>
   simp only [rW] at hB
   simp only [sO] at h
   generalize ha:x.acts=acts at hB h
   match acts,hB,h with
   |[],hB,h =>
    generalize hxf:x.fin=fin at hB h
    match fin,hxf,hB,h with
    |none,_,hB,_=>cases hB
    |some (dF,dG,g,tl),hxf,hB,h =>
     simp only [ZS,decide_eq_true_eq,beq_iff_eq] at hB h
     obtain ⟨⟨⟨⟨⟨_,hfs⟩,hsg⟩,hsA,hsB⟩,hk⟩,hB⟩:=hB
     have hfx:jC ops (some (dF,dG,g,tl))=f:=by
      have:=zt.1 hfs x (by simp)
      simp only [ZS,beq_iff_eq] at this
      rw [← hxf];exact this.1
     have hg:g=f:=hfx
     split at hB
     case h_2=>cases hB
     rename_i l1 hq
     obtain ⟨l0,hq0,hq1⟩:=Zaz.1 hq
     simp only [ZS,ZaJ,Za1] at hB
     obtain ⟨⟨⟨hne,_⟩,_⟩,hall⟩:=hB
     have hA:=Nc (S:=S) (S2:=S2) hsg
     rw [hfx,hsA] at hA
     have:=dM (F:=F) (n:=n) (P:=P) (S:=S) (Q:=Q) (f:=f) (S2:=S2) hF hnd hsel (T:=S) (w:=w) dF (k - 1 - (dF.length+dG.length)+1+dG.length) l l0 a hs hc ⟨.inr hS,hS2⟩ hA hq0 (fun _ _ _=>trivial) (dn (fun a0 h0 hs0 hc0 hS0=>by
       obtain ⟨S3,hS3,hw3,h0⟩:=h0
       refine dN (S':=S) (S2':=S3) (fun _ h=>h) hS3 _ _ _ _ ?_
       have hBt:=Nh (S:=S) (S2:=S3) hsg
       rw [hfx,hsB] at hBt
       refine dM (F:=F) (n:=n) (P:=P) (S:=S) (Q:=Q) (f:=f) (S2:=S3) hF hnd hsel (T:=S3) (w:=w) dG (k - 1 - (dF.length+dG.length)+1) l0 l1 a0 hs0 hc0 ⟨hS0.1,hw3⟩ hBt hq1 (fun _ _ _=>trivial) (dn (fun a' h' hs1 hc1 _=>by
        refine ⟨fun h0=>absurd h0 hne,fun j hj=>?_⟩
        have hcov:=zt.1 hall j hj
        by_cases hjg:j=g
        ·rw [if_pos hjg] at hcov
         have hjf:j=f:=hjg.trans hg
         have hf1:(l1.setIfInBounds j true).getD f false=true:=by rw [iI _ _ _ (gI hs1 hj),if_pos hjf]
         have h1:=h'.1
         rw [← hjg] at h1
         exact uT hF (fun a2 w2 h3=>⟨⟨.inl hf1,h3.1⟩,Ns hF hnd hsel _ _ _ S3 _ _ _ (by simpa using hs1) (hc1.set hs1 hj) hf1 h3.1 hcov h3.2⟩) h1
        ·rw [if_neg hjg] at hcov
         refine uT hF (fun a2 w2 h2=>?_) (h'.2 j hjg (PE hcov))
         obtain ⟨S',k1,k2,k3,k4⟩:=h2
         exact ⟨⟨.inr (k1 _ k2),k3⟩,dN k1 (fun _ h=>h) _ _ _ _ (ih _ _ S' S3 _ _ _ (by simpa using hs1) (hc1.set hs1 hj) hcov k2 k3 k4)⟩) _ _ h0)) _ _ h)
     rw [show k - 1 - (dF.length+dG.length)+1+dG.length+dF.length=k by omega] at this
     exact this
   |(seg,i0)::more,hB,h =>
    simp only [ZS,decide_eq_true_eq] at hB h
    obtain ⟨⟨⟨⟨_,hfs⟩,hsg⟩,hk⟩,hB⟩:=hB
    have hfx:jC ops x.fin=f:=by
     have:=zt.1 hfs x (by simp)
     simp only [ZS,beq_iff_eq] at this
     exact this.1
    split at hB
    case h_2=>cases hB
    rename_i l1 hq
    obtain ⟨l0,hq0,hq1⟩:=Zaz.1 hq
    simp only [ZS,ZaJ,Za1] at hB
    obtain ⟨⟨hne,_⟩,hall⟩:=hB
    have hA:=Nc (S:=S) (S2:=S2) hsg
    rw [hfx] at hA
    have:=dM (F:=F) (n:=n) (P:=P) (S:=S) (Q:=Q) (f:=f) (S2:=S2) hF hnd hsel (T:=S) (w:=w) (kS ops x.fin seg) (k - 1 - seg.length+1+(kF ops x.fin seg).length) l l0 a hs hc ⟨.inr hS,hS2⟩ hA hq0 (fun _ _ _=>trivial) (dn (fun a0 h0 hs0 hc0 hS0=>by
      obtain ⟨S3,hS3,hw3,h0⟩:=h0
      refine dN (S':=S) (S2':=S3) (fun _ h=>h) hS3 _ _ _ _ ?_
      have hBt:=Nh (S:=S) (S2:=S3) hsg
      rw [hfx] at hBt
      refine dM (F:=F) (n:=n) (P:=P) (S:=S) (Q:=Q) (f:=f) (S2:=S3) hF hnd hsel (T:=S3) (w:=w) (kF ops x.fin seg) (k - 1 - seg.length+1) l0 l1 a0 hs0 hc0 ⟨hS0.1,hw3⟩ hBt hq1 (fun _ _ _=>trivial) (dn (fun a' h' hs1 hc1 _=>by
       refine ⟨fun h0=>absurd h0 hne,fun j hj=>?_⟩
       have hcov:=zt.1 hall j hj
       refine uT hF (fun a2 w2 h2=>?_) (h' j (PE hcov))
       obtain ⟨S',k1,k2,k3,k4⟩:=h2
       exact ⟨⟨.inr (k1 _ k2),k3⟩,dN k1 (fun _ h=>h) _ _ _ _ (ih _ _ S' S3 _ _ _ (by simpa using hs1) (hc1.set hs1 hj) hcov k2 k3 k4)⟩) _ _ h0)) _ _ h)
    have e:=ac0 (ops:=ops) x.fin seg
    have e:k - 1 - seg.length+1+(kF ops x.fin seg).length+(kS ops x.fin seg).length=k:=by omega
    rw [e] at this
    exact this
theorem zD {id:Nat}{l:Array Oper}{a:Act}{w:World}{Q:Exit→Act→World→Prop}(S:World→Prop){alts:List fP}{f m:Nat}(hF:∀ f,F.fn f)(hm:P.follows .mixedOrders=true)
  (hnd:jk l=true) (hsel:Region.noSelect l=true) (hB:rW l f m l.size alts (ZaT l.size false)=true) (hS:S w.drew) (h:sO F n P l (Q .normal) m S (fun _=>True) alts a w.drew):(Code.region id l true).wpIn F n P Q a w:=by
 refine Code.wpIn_mono (Q:=gZ (Q .normal)) (fun e a w h=>by obtain ⟨rfl,h⟩:=h;exact h) (wpIn_region_any hm ?_)
 exact vG _ _ _ _ (Ry hF hnd hsel m alts l.size S (fun _=>True) (ZaT l.size false) a _ (by simp) (fun m o hm=>absurd hm (by rw [Zap,Array.getElem?_replicate];split<;>simp)) hB hS trivial h)
end
section
variable {P:Program}{F:Fence}{C:Ctx}{n L nb:Nat}{σ σ':Nat→Nat}{T T' T1 T2:Tags}{st st' st1:St}{a a1:Act}{w w1:World}{vo:List fG}{keep:List Nat}
 {rec:aj→St→Option (Ex×St)} {env:Env} {Q:Act→World→Prop} {bI:Array Oper} {ds:List Deferred}
theorem aF.head (h:aF L σ T st a w){keep:List Nat}(hh:st.head keep nb=some st'):aF L σ T st' a w∧st'.boxes.length=nb∧st'.ys=st.ys∧st'.stop=st.stop∧nb≤st.boxes.length:=by
 unfold St.head at hh
 simp only at hh
 split at hh
 case isFalse=>cases hh
 rename_i hc
 have hh:=ZD.inj hh
 simp only [ZS,decide_eq_true_eq] at hc
 obtain ⟨hlow,hnb⟩:=hc
 subst hh
 have hget:∀ (t:Nat) av,((st.slots.zipIdx.map fun (v,i)=>if keep.contains i then v else .any))[t]?=some av→av=.any∨(st.slots[t]?=some av∧av.low nb=true):=fun t av hav=>by
  have hm:=zt.1 hlow av (zP hav)
  simp only [zc,List.getElem?_zipIdx] at hav
  cases e:st.slots[t]? with
  |none=>rw [e] at hav;cases hav
  |some v =>
   rw [e] at hav
   simp only [Zae,ZD.injEq] at hav
   split at hav
   ·subst hav;exact .inr ⟨rfl,hm⟩
   ·exact .inl hav.symm
 have hlen:({ st with slots:=st.slots.zipIdx.map fun (v,i)=>if keep.contains i then v else .any,boxes:=st.boxes.take nb }:St).boxes.length=nb:=by simp;omega
 have hrow:∀ r sz es,({ st with slots:=st.slots.zipIdx.map fun (v,i)=>if keep.contains i then v else .any,boxes:=st.boxes.take nb }:St).row r=some (sz,es)→st.row r=some (sz,es):=fun r sz es hr=>by
  cases r with
  |slot t =>
   have h1:=dQ hr
   rcases hget t _ h1 with e|⟨e,_⟩
   ·cases e
   ·simp [St.row,e]
  |cell o j =>
   obtain ⟨bx,h1,h2,h3⟩:=dw hr
   simp only [Zan] at h1
   split at h1
   ·simp [St.row,h1,h2,h3]
   ·cases h1
  |part t i=>simp [St.row] at hr
 refine ⟨⟨by simpa using h.size,fun t av v ht hv=>?_,fun o bx ho=>?_,h.fresh⟩,hlen,rfl,rfl,hnb⟩
 ·rcases hget t av ht with e|⟨e,hl⟩
  ·subst e;trivial
  ·have hA:=h.slots t av v e hv
   cases av with
   |pv x=>exact hA
   |row sz es=>exact hA
   |ref r off len =>
    refine ⟨?_,fun sz es hr=>hA.2 sz es (hrow r sz es hr)⟩
    cases r<;>simp only [Root.low]<;>simpa [AV.low,hlen,hnb] using hl
   |aJ o j=>exact ⟨by rw [hlen];simpa [AV.low] using hl,hA.2⟩
   |mW r i j =>
    refine ⟨?_,fun sz es hr=>hA.2 sz es (hrow r sz es hr)⟩
    cases r<;>simp only [Root.low]<;>simpa [AV.low,hlen,hnb] using hl
   |fn f caps =>
    obtain ⟨arr,e1,e2,e3⟩:=hA
    refine ⟨arr,e1,e2,fun k x u hx hu=>?_⟩
    have hcx:=e3 k x u hx hu
    have hlx:_:=zt.1 (by simpa [AV.low] using hl) x (zP hx)
    cases x with
    |pv p=>exact hcx
    |aJ o j=>exact ⟨by rw [hlen];simpa using hlx,hcx.2⟩
    |_=>exact hcx
   |ku k l=>simp [AV.low] at hl
   |zH s l=>exact hA
   |pp o j=>exact ⟨by rw [hlen];simpa [AV.low] using hl,hA.2⟩
   |lY=>exact hA
   |any=>trivial
 ·simp only [Zan] at ho
  split at ho
  ·exact h.boxes o bx ho
  ·cases ho
theorem Nu {s s1:St}{nb:Nat}(h:s.head keep nb=some s1):s1.boxes.length=nb∧s1.ys=s.ys∧s1.stop=s.stop∧nb≤s.boxes.length:=by
 unfold St.head at h
 simp only at h
 split at h
 case isFalse=>cases h
 rename_i hc
 simp only [ZS,decide_eq_true_eq] at hc
 have h:=ZD.inj h
 rw [← h]
 exact ⟨by simp;omega,rfl,rfl,hc.2⟩
theorem wV {s:St}{sw:Bool}(h:kW keep nb sw s=some st'):st'.ys=s.ys∧st'.stop=s.stop∧st'.boxes.length=s.boxes.length:=by
 unfold kW at h
 obtain ⟨s1,h1,h2⟩:=bind_some h
 obtain ⟨e1,e2,e3,_⟩:=Nu h1
 split at h2
 ·unfold St.swap2 at h2
  split at h2
  ·have h2:=ZD.inj h2
   rw [← h2]
   exact ⟨e2,e3,by rw [← e1];simp;omega⟩
  ·cases h2
 ·have h2:=ZD.inj h2
  rw [← h2];exact ⟨e2,e3,e1⟩
theorem After.ends (hC:C.Ok P L){s:St}{sw:Bool}{nb0:Nat}(hnb:nb≤nb0)(h:After C L nb σ T w s ds a1 w1)(he:kW keep nb0 sw s=some st'):After C L nb σ T w st' ds a1 w1:=by
 obtain ⟨σ',T',ms,g1,g2,g3,g4,g5,g6⟩:=h
 unfold kW at he
 obtain ⟨s1,h1,h2⟩:=bind_some he
 obtain ⟨q1,q2,q3,q4,_⟩:=g1.head h1
 split at h2
 ·obtain ⟨σ2,T2,k1,k2,k3,k4,k5,k6⟩:=q1.swap2 h2
  refine ⟨σ2,T2,ms,k1,?_,fun k hk=>(k3 k (by omega)).trans (g3 k hk),g4.trans (k2.mX w1).stays,g5,fun r hr=>⟨(g6.1 r hr).1,k2.ro r (g6.1 r hr).2.1,(g6.1 r hr).2.2⟩,g6.2⟩
  rw [k4,q3]
  exact hC.keep _ _ _ _ _ (k2.mX w1) g2
 ·have h2:=ZD.inj h2
  subst h2
  exact ⟨σ',T',ms,q1,by rw [q3];exact g2,g3,g4,g5,g6⟩
theorem Marks.app {T2:Tags}{w2:World}{ms ms2:List Nat}(h1:Marks T1 w w1 ms)(hsz:w.heap.size≤w1.heap.size)(hs:bP T1 T2 w1 w2)(h2:Marks T2 w1 w2 ms2):Marks T2 w w2 (ms2++ms):=by
 refine ⟨fun r hr=>?_,List.nodup_append.2 ⟨h2.2,h1.2,fun x hx y hy e=>?_⟩⟩
 ·rcases List.mem_append.1 hr with hr|hr
  ·obtain ⟨k1,k2,k3⟩:=h2.1 r hr
   exact ⟨zR hsz k1,k2,k3⟩
  ·obtain ⟨k1,k2,k3⟩:=h1.1 r hr
   have hl:r<w1.heap.size:=(zr.1 k3).1
   exact ⟨k1,hs.ro r k2,(hs.same r hl k2).trans k3⟩
 ·have k1:=(h2.1 x hx).1
  have hl:y<w1.heap.size:=(zr.1 (h1.1 y hy).2.2).1
  omega
theorem iL (vo:List fG)(a b:List Nat):bD vo (a++b)=bD vo a++bD vo b:=by simp [bD]
theorem lQ (vo:List fG)(i:Nat)(b:List Nat):bD vo (i::b)=vo.getD i default::bD vo b:=rfl
theorem jI (vo:List fG)(a:List Nat):(bD vo a).length=a.length:=by simp [bD]
def EK (P:Program)(rec:aj→St→Option (Ex×St))(env:Env)(bI:Array Oper)(vo:List fG)(keep:List Nat)(nb:Nat)(X:List (List PV))(st st':St)(z:fP):Prop :=
 vI P bI z.fin z.last z.acts (bD vo (iF z.fin z.last z.acts))=true∧∃ s,ops rec env (bD vo (iF z.fin z.last z.acts)) st=some s∧s.ys <+: X∧kW keep nb z.sw s=some st'
theorem nU {j:Nat}{z z':fP}(h:z.tail j=some z'):∃ seg,z.acts=(seg,j)::z'.acts∧z'.fin=z.fin∧z'.last=z.last∧z'.sw=z.sw:=by
 unfold fP.tail at h
 split at h
 ·rename_i seg i more hz
  split at h
  ·rename_i e
   have h:=ZD.inj h
   subst h;subst e
   exact ⟨seg,hz,rfl,rfl,rfl⟩
  ·cases h
 ·cases h
def Nv (P:Program)(rec:aj→St→Option (Ex×St))(env:Env)(bI:Array Oper)(vo:List fG)(keep:List Nat)(nb:Nat)(X:List (List PV))(st st':St)(z:fP):Prop :=
 wR P bI z.last z.acts (bD vo (iE z.last z.acts))=true∧∃ s,ops rec env (bD vo (iE z.last z.acts)) st=some s∧s.ys <+: X∧kW keep nb z.sw s=some st'
theorem aaF (hW:jV F)(hC:C.Ok P L)(aO:eG P rec env){f:Nat}{nb0:Nat}(hnb:nb≤nb0){w0:World}{σ0:Nat→Nat}{T0:Tags}:∀ (m:Nat) (k:Nat) (alts:List fP) (l:Array Bool) {S2:World→Prop} {st:St} {σ:Nat→Nat} {T:Tags} {a:Act} {w:World},sN bI f m k alts l=true →
  aF L σ T st a w→(∀ T' w',bP T T' w w'→S2 w')→C.J st.ys.length T w→st.stop=C.stop→nb≤st.boxes.length→(∀ z∈alts,Nv P rec env bI vo keep nb0 C.X st st' z) →
  bP T0 T w0 w→(∀ k,k<nb→σ k=σ0 k)→(∃ ms,a.defers=ms.map jB++ds∧Marks T w0 w ms) →
  (∀ a' w',After C L nb σ0 T0 w0 st' ds a' w'→Q a' w')→qj F n P bI Q m S2 alts a w:=by
 have one:∀ (x:fP) {S2:World→Prop} {st:St} {σ:Nat→Nat} {T:Tags} {a:Act} {w:World},aF L σ T st a w→(∀ T' w',bP T T' w w'→S2 w')→C.J st.ys.length T w→st.stop=C.stop→nb≤st.boxes.length→Nv P rec env bI vo keep nb0 C.X st st' x →
  bP T0 T w0 w→(∀ k,k<nb→σ k=σ0 k)→(∃ ms,a.defers=ms.map jB++ds∧Marks T w0 w ms)→(∀ a' w',After C L nb σ0 T0 w0 st' ds a' w'→Q a' w')→mZ F n P bI Q x.last S2 x.acts a w:=fun x S2 st σ T a w h zC hJ hst hb hx kZ hσ hms hn=>by
  obtain ⟨hm,s,hrun,hX,hend⟩:=hx
  obtain ⟨ms,hd,hM⟩:=hms
  refine Gl hW hC aO hX h zC hJ hst hm hrun fun a' w' hA=>hn _ _ ?_
  exact (After.trans kZ hσ hd hM hb hA).ends hC hnb hend
 intro m
 induction m with
 |zero =>
  intro k alts l S2 st σ T a w hB h zC hJ hst hb hz kZ hσ hms hn
  match alts,hB,hz with
  |[x],_,hz=>simpa only [qj] using one x h zC hJ hst hb (hz x (by simp)) kZ hσ hms hn
  |[],hB,_=>simp [sN] at hB
  |_::_::_,hB,_=>simp [sN] at hB
 |succ m ih =>
  intro k alts l S2 st σ T a w hB h zC hJ hst hb hz kZ hσ hms hn
  match alts,hB,hz with
  |[],hB,_=>simp [sN] at hB
  |[x],_,hz=>simpa only [qj] using one x h zC hJ hst hb (hz x (by simp)) kZ hσ hms hn
  |x::y::zs,hB,hz =>
   simp only [sN] at hB
   simp only [qj]
   generalize ha:x.acts=acts at hB
   match acts,ha,hB with
   |[],_,hB=>cases hB
   |(seg,i0)::more,ha,hB =>
    simp only [ZS,decide_eq_true_eq,beq_iff_eq] at hB
    obtain ⟨⟨⟨yx,hseg,htA⟩,hk⟩,hB⟩:=hB
    split at hB
    case h_2=>cases hB
    rename_i l1 hq1
    simp only [ZS,ZaJ,Za1] at hB
    obtain ⟨⟨hne,hin⟩,hall⟩:=hB
    have shape:∀ z∈x::y::zs,∃ i more,z.acts=(seg,i)::more:=fun z hzz=>by
     have:=zt.1 yx z hzz
     unfold zN at this
     split at this
     ·rename_i s i more e
      exact ⟨i,more,by rw [e,eq_of_beq this]⟩
     ·cases this
    have ql:∀ z∈x::y::zs,∀ i more,z.acts=(seg,i)::more→∃ st1 st2 s,mL P bI (pick bI [i]) [vo.getD i default]=true∧wR P bI z.last more (bD vo (iE z.last more))=true ∧
      ops rec env (bD vo seg) st=some st1∧op rec env (vo.getD i default) st1=some st2∧ops rec env (bD vo (iE z.last more)) st2=some s∧s.ys <+: C.X∧kW keep nb0 z.sw s=some st':=fun z hzz i more e=>by
     obtain ⟨hm,s,hrun,hX,hend⟩:=hz z hzz
     rw [e] at hm hrun
     have e2:bD vo (iE z.last ((seg,i)::more))=bD vo seg++(vo.getD i default::bD vo (iE z.last more)):=by
      show bD vo (seg++(i::iE z.last more))=_
      rw [iL,lQ]
     have e3:bD vo seg=bD vo (I8 bI i seg)++bD vo (LZ bI i seg):=by
      rw [← iL];congr 1
      exact (ZaZ (p:=xU bI bI.size i) (l:=seg)).symm
     have hm2:=hm
     rw [e2,e3,ZaD] at hm2
     rw [e2] at hrun
     have hlenA:=jI vo (I8 bI i seg)
     have qF:=jI vo (LZ bI i seg)
     simp only [wR,ZS] at hm2
     rw [ZaR hlenA,ZaU hlenA,ZaR qF,ZaU qF] at hm2
     obtain ⟨st1,p1,p2⟩:=dI hrun
     obtain ⟨st2,p2,p3⟩:=pG p2
     simp only [ZS] at hm2
     exact ⟨st1,st2,s,hm2.2.1,hm2.2.2,p1,p2,p3,hX,hend⟩
    obtain ⟨hmx,sx,PG,_⟩:=hz x (by simp)
    have hB1:LZ bI i0 seg=seg:=by
     have:=ZaZ (p:=xU bI bI.size i0) (l:=seg)
     have e:seg.takeWhile (xU bI bI.size i0)=[]:=htA
     rw [e,List.nil_append] at this
     exact this
    have Vt:mL P bI (pick bI seg) (bD vo seg)=true∧kG true (bD vo seg)=true:=by
     rw [ha] at hmx
     have e2:bD vo (iE x.last ((seg,i0)::more))=bD vo seg++(vo.getD i0 default::bD vo (iE x.last more)):=by
      show bD vo (seg++(i0::iE x.last more))=_
      rw [iL,lQ]
     rw [e2] at hmx
     simp only [wR,ZS,htA,hB1,zm,List.drop_zero] at hmx
     rw [ZaR (jI vo seg)] at hmx
     exact ⟨hmx.1.1.2,hmx.1.2⟩
    obtain ⟨st1,ajl,sx',_,_,p1,_⟩:=ql x (by simp) i0 more ha
    refine ⟨L6 S2 T w,fun _ h=>h.1,fA zC T w (bP.refl T w),?_⟩
    refine rE h Vt.1 Vt.2 p1 fun a1 T1 g1 g2 g3 g4=>?_
    intro j hj
    obtain ⟨ms,hd,hM⟩:=hms
    have hJ1:C.J st1.ys.length T1 w:=by rw [g4.2.1];exact hC.keep _ _ _ _ _ (g2.mX w) hJ
    obtain ⟨z',hz'⟩:=ZbK _ hj
    have hz':=hz'
    unfold tails at hz'
    obtain ⟨z,hzz,UF⟩:=Zbc.1 hz'
    obtain ⟨Nw,hza,hf1,hf2,hf3⟩:=nU UF
    have hseg':Nw=seg:=by
     obtain ⟨i,more',e⟩:=shape z hzz
     rw [hza] at e;cases e;rfl
    subst hseg'
    obtain ⟨t1,st2,s,hmj,hmz,q1,q2,q3,hXs,hend⟩:=ql z hzz j z'.acts hza
    have:t1=st1:=by rw [p1] at q1;exact (ZD.inj q1).symm
    subst this
    have gl:=dU (rec:=rec) (env:=env) q3
    refine vJ hW hC aO g1 hJ1 (g4.2.2.trans hst) hmj q2 (gl.2.1.trans hXs) ?_
    rintro a2 w2 ⟨σ2,T2,ms2,k1,k2,k3,k4,k5,k6⟩ _
    have hs4:=((g2.mX w).stays).trans k4
    have hn3:∀ T' w',bP T2 T' w2 w'→L6 S2 T w w':=fun T' w' hw'=>fA zC T' w' (hs4.trans hw')
    refine ⟨hn3 _ _ (bP.refl _ _),?_⟩
    have hjr:j∈Region.ready .any bI l1:=by
     have:=zt.1 hin z hzz
     unfold Gn at this
     rw [hza] at this
     simpa using this
    have hcov:=zt.1 hall j hjr
    simp only [ZS] at hcov
    have hs2:bP T0 T1 w0 w:=kZ.trans (g2.mX w).stays
    have hM1:Marks T1 w0 w ms:=⟨fun r hr=>⟨(hM.1 r hr).1,g2.ro r (hM.1 r hr).2.1,(hM.1 r hr).2.2⟩,hM.2⟩
    refine ih _ _ _ hcov.2 k1 hn3 k2 (((gG q2).2.2.trans g4.2.2).trans hst) (zR hb (zR g4.1 (gG q2).1)) (fun u hu=>?_) (hs2.trans k4) (fun k hk=>(k3 k (Zag hk (zR hb g4.1))).trans (hσ k hk)) ?_ hn
    ·unfold tails at hu
     obtain ⟨z2,hz2,Vu⟩:=Zbc.1 hu
     obtain ⟨Vw,Je,e1,e2,e3⟩:=nU Vu
     have Jf:Vw=Nw:=by
      obtain ⟨i,more',e⟩:=shape z2 hz2
      rw [Je] at e;cases e;rfl
     subst Jf
     obtain ⟨t1',st2',s',_,Vx,q1',q2',q3',Vy,hend'⟩:=ql z2 hz2 j u.acts Je
     have e4:t1'=t1:=by rw [q1] at q1';exact (ZD.inj q1').symm
     subst e4
     have e5:st2'=st2:=by rw [q2] at q2';exact (ZD.inj q2').symm
     subst e5
     unfold Nv
     rw [e2,e3]
     exact ⟨Vx,s',q3',Vy,hend'⟩
    ·refine ⟨ms2++ms,by rw [k5,g3,hd];simp,?_⟩
     exact Marks.app hM1 hs2.size k4 k6
theorem adR (hW:jV F)(hC:C.Ok P L)(aO:eG P rec env){f:Nat}{nb0:Nat}(hnb:nb≤nb0){w0:World}{σ0:Nat→Nat}{T0:Tags}:∀ (m:Nat) (k:Nat) (alts:List fP) (l:Array Bool) {S2:World→Prop} {st:St} {σ:Nat→Nat} {T:Tags} {a:Act} {w:World},rW bI f m k alts l=true →
  aF L σ T st a w→(∀ T' w',bP T T' w w'→S2 w')→C.J st.ys.length T w→st.stop=C.stop→nb≤st.boxes.length→(∀ z∈alts,EK P rec env bI vo keep nb0 C.X st st' z) →
  bP T0 T w0 w→(∀ k,k<nb→σ k=σ0 k)→(∃ ms,a.defers=ms.map jB++ds∧Marks T w0 w ms) →
  (∀ a' w',After C L nb σ0 T0 w0 st' ds a' w'→Q a' w')→sO F n P bI Q m (Whole w) S2 alts a w:=by
 have one:∀ (x:fP) {S2:World→Prop} {st:St} {σ:Nat→Nat} {T:Tags} {a:Act} {w:World},aF L σ T st a w→(∀ T' w',bP T T' w w'→S2 w')→C.J st.ys.length T w→st.stop=C.stop→nb≤st.boxes.length→EK P rec env bI vo keep nb0 C.X st st' x →
  bP T0 T w0 w→(∀ k,k<nb→σ k=σ0 k)→(∃ ms,a.defers=ms.map jB++ds∧Marks T w0 w ms)→(∀ a' w',After C L nb σ0 T0 w0 st' ds a' w'→Q a' w')→pz F n P bI Q (Whole w) S2 x.acts x.fin x.last a w:=fun x S2 st σ T a w h zC hJ hst hb hx kZ hσ hms hn=>by
  obtain ⟨hm,s,hrun,hX,hend⟩:=hx
  obtain ⟨ms,hd,hM⟩:=hms
  refine Nk hW hC aO hX h zC hJ hst hm hrun fun a' w' hA=>hn _ _ ?_
  exact (After.trans kZ hσ hd hM hb hA).ends hC hnb hend
 intro m
 induction m with
 |zero =>
  intro k alts l S2 st σ T a w hB h zC hJ hst hb hz kZ hσ hms hn
  match alts,hB,hz with
  |[x],_,hz=>simpa only [sO] using one x h zC hJ hst hb (hz x (by simp)) kZ hσ hms hn
  |[],hB,_=>simp [rW] at hB
  |_::_::_,hB,_=>simp [rW] at hB
 |succ m ih =>
  intro k alts l S2 st σ T a w hB h zC hJ hst hb hz kZ hσ hms hn
  match alts,hB,hz with
  |[],hB,_=>simp [rW] at hB
  |[x],_,hz=>simpa only [sO] using one x h zC hJ hst hb (hz x (by simp)) kZ hσ hms hn
  |x::y::zs,hB,hz =>
   simp only [rW] at hB
   simp only [sO]
   generalize ha:x.acts=acts at hB
   match acts,ha,hB with
   |[],ha,hB =>
    generalize hxf:x.fin=fin at hB
    match fin,hxf,hB with
    |none,_,hB=>cases hB
    |some (dF,dG,g,tl),hxf,hB =>
     simp only [ZS,decide_eq_true_eq,beq_iff_eq] at hB
     obtain ⟨⟨⟨⟨⟨yx,hfs⟩,hsg⟩,hsA,hsB⟩,hk⟩,hB⟩:=hB
     split at hB
     case h_2=>cases hB
     rename_i l1 hq1
     simp only [ZS,ZaJ,Za1] at hB
     obtain ⟨⟨⟨hne,hin⟩,ajm⟩,hall⟩:=hB
     have hgr:g∈Region.ready .any bI l1:=by simpa using ajm
     simp only [hxf]
     have hfin:∀ z∈y::zs,kS bI z.fin (dF++dG)=dF∧kF bI z.fin (dF++dG)=dG:=fun z hzz=>by
      have hx:=zt.1 hfs x (by simp)
      have hz:=zt.1 hfs z (Zbd _ hzz)
      simp only [ZS,beq_iff_eq] at hx hz
      rw [hxf] at hx
      have e:=EJ (ops:=bI) (x:=z.fin) (y:=some (dF,dG,g,tl)) (hz.1.trans hx.1.symm) (hz.2.trans hx.2.symm)
      unfold kS at hsA
      unfold kF at hsB
      unfold kS kF
      rw [e]
      exact ⟨hsA,hsB⟩
     have shape:∀ z∈y::zs,∀ s i more,z.acts=(s,i)::more→s=dF++dG:=fun z hzz s i more e=>by
      have:=zt.1 yx z hzz
      unfold AU at this
      rw [e] at this
      exact eq_of_beq this
     have adS:∀ z∈x::y::zs,z.acts=[]→∃ tl',z.fin=some (dF,dG,g,tl'):=fun z hzz e=>by
      rcases ZaL.1 hzz with e1|hzz
      ·rw [e1];exact ⟨tl,hxf⟩
      have:=zt.1 yx z hzz
      unfold AU at this
      rw [e] at this
      simp only at this
      split at this
      ·rename_i a' b' c' tl' e2
       simp only [ZS,beq_iff_eq] at this
       obtain ⟨⟨e3,e4⟩,e5⟩:=this
       exact ⟨tl',by rw [e2,e3,e4,e5]⟩
      ·cases this
     have ql:∀ z∈y::zs,∀ i more,z.acts=(dF++dG,i)::more→∃ st0 st1 st2 s,mL P bI (pick bI [i]) [vo.getD i default]=true∧I7 (vo.getD i default)=true∧vI P bI z.fin z.last more (bD vo (iF z.fin z.last more))=true ∧
       ops rec env (bD vo dF) st=some st0∧ops rec env (bD vo dG) st0=some st1∧op rec env (vo.getD i default) st1=some st2∧ops rec env (bD vo (iF z.fin z.last more)) st2=some s∧s.ys <+: C.X∧kW keep nb0 z.sw s=some st':=fun z hzz i more e=>by
      obtain ⟨hm,s,hrun,hX,hend⟩:=hz z (Zbd _ hzz)
      rw [e] at hm hrun
      have e2:bD vo (iF z.fin z.last ((dF++dG,i)::more))=bD vo dF++(bD vo dG++(vo.getD i default::bD vo (iF z.fin z.last more))):=by
       show bD vo ((dF++dG)++(i::iF z.fin z.last more))=_
       rw [iL,iL,lQ,ZaD]
      rw [e2] at hm hrun
      have hlenA:=jI vo dF
      have qF:=jI vo dG
      simp only [vI,ZS,(hfin z hzz).1,(hfin z hzz).2] at hm
      rw [ZaR hlenA,ZaU hlenA,ZaR qF,ZaU qF] at hm
      obtain ⟨st0,p0,p1⟩:=dI hrun
      obtain ⟨st1,p1,p2⟩:=dI p1
      obtain ⟨st2,p2,p3⟩:=pG p2
      simp only [ZS] at hm
      exact ⟨st0,st1,st2,s,hm.2.1.1,hm.2.1.2,hm.2.2,p0,p1,p2,p3,hX,hend⟩
     obtain ⟨hmx,sx,PG,hXx,aj8⟩:=hz x (by simp)
     rw [ha,hxf] at hmx PG
     have e2:bD vo (iF (some (dF,dG,g,tl)) x.last [])=bD vo dF++(bD vo dG++(vo.getD g default::bD vo (iE x.last tl))):=by
      show bD vo (dF++(dG++(g::iE x.last tl)))=_
      rw [iL,iL,lQ]
     rw [e2] at hmx PG
     have hlenA:=jI vo dF
     have qF:=jI vo dG
     simp only [vI,ZS] at hmx
     rw [ZaR hlenA,ZaU hlenA,ZaR qF,ZaU qF] at hmx
     simp only [ZS] at hmx
     obtain ⟨⟨⟨hqx,hqu⟩,hql⟩,hmg,hmt⟩:=hmx
     obtain ⟨st0,p0,p1⟩:=dI PG
     obtain ⟨st1,p1,p2⟩:=dI p1
     obtain ⟨stg,p2,p3⟩:=pG p2
     have glx:=dU (rec:=rec) (env:=env) p3
     refine yu h hqx p0 fun a0 UG f1 f2 f3 f4=>?_
     have vK:∀ T' w',bP UG T' w w'→S2 w':=fun T' w' hw=>zC T' w' ((f2.mX w).stays.trans hw)
     refine ⟨L6 S2 UG w,fun _ h=>h.1,fA vK UG w (bP.refl UG w),?_⟩
     refine rE f1 hqu hql p1 fun a1 T1 g1 g2e g3' g4'=>?_
     have g2':=g2e
     have g2:=f2.trans g2'
     have g4:=f4.trans g4'
     have g3:=g3'.trans f3
     have hJ1:C.J st1.ys.length T1 w:=by rw [g4.2.1];exact hC.keep _ _ _ _ _ (g2.mX w) hJ
     obtain ⟨ms,hd,hM⟩:=hms
     have hs2:bP T0 T1 w0 w:=kZ.trans (g2.mX w).stays
     have hM1:Marks T1 w0 w ms:=⟨fun r hr=>⟨(hM.1 r hr).1,g2.ro r (hM.1 r hr).2.1,(hM.1 r hr).2.2⟩,hM.2⟩
     have agv:sN bI f m (k - 1 - (dF.length+dG.length)) ((x::y::zs).filterMap Vs) (l1.setIfInBounds g true)=true:=by
      have:=zt.1 hall g hgr
      rw [if_pos rfl] at this
      exact this
     refine ⟨?_,fun j hjg hj=>?_⟩
     ·refine vJ hW hC aO g1 hJ1 (g4.2.2.trans hst) hmg p2 (glx.2.1.trans hXx) ?_
      rintro a2 w2 ⟨σ2,T2,ms2,k1,k2,k3,k4,k5,k6⟩ _
      have hs4:=((g2'.mX w).stays).trans k4
      have hn3:∀ T' w',bP T2 T' w2 w'→L6 S2 UG w w':=fun T' w' hw'=>fA vK T' w' (hs4.trans hw')
      refine ⟨hn3 _ _ (bP.refl _ _),?_⟩
      refine aaF (keep:=keep) (vo:=vo) hW hC aO hnb _ _ _ _ agv k1 hn3 k2 (((gG p2).2.2.trans g4.2.2).trans hst) (zR hb (zR g4.1 (gG p2).1)) (fun u hu=>?_) (hs2.trans k4) (fun k hk=>(k3 k (Zag hk (zR hb g4.1))).trans (hσ k hk)) ?_ hn
      ·obtain ⟨z,hzz,UF⟩:=Zbc.1 hu
       have hza:z.acts=[]:=by
        unfold Vs at UF
        split at UF
        ·assumption
        ·cases UF
       obtain ⟨tl',hzf⟩:=adS z hzz hza
       have eu:u={ z with acts:=tl',fin:=none }:=by
        unfold Vs at UF
        rw [hza,hzf] at UF
        exact (ZD.inj UF).symm
       obtain ⟨hmz,sz,Vz,hXz,agw⟩:=hz z hzz
       rw [hza,hzf] at hmz Vz
       have e2:bD vo (iF (some (dF,dG,g,tl')) z.last [])=bD vo dF++(bD vo dG++(vo.getD g default::bD vo (iE z.last tl'))):=by
        show bD vo (dF++(dG++(g::iE z.last tl')))=_
        rw [iL,iL,lQ]
       rw [e2] at hmz Vz
       simp only [vI,ZS] at hmz
       rw [ZaR hlenA,ZaU hlenA,ZaR qF,ZaU qF] at hmz
       simp only [ZS] at hmz
       obtain ⟨ajp,z0,z1⟩:=dI Vz
       obtain ⟨st1',z1,z2⟩:=dI z1
       obtain ⟨ajq,z2,z3⟩:=pG z2
       have e0:ajp=st0:=by rw [p0] at z0;exact (ZD.inj z0).symm
       subst e0
       have e1:st1'=st1:=by rw [p1] at z1;exact (ZD.inj z1).symm
       subst e1
       have e3:ajq=stg:=by rw [p2] at z2;exact (ZD.inj z2).symm
       subst e3
       rw [eu]
       exact ⟨hmz.2.2,sz,z3,hXz,agw⟩
      ·refine ⟨ms2++ms,by rw [k5,g3,hd];simp,?_⟩
       exact Marks.app hM1 hs2.size k4 k6
     obtain ⟨z',hz'⟩:=ZbK _ hj
     have hz':=hz'
     unfold tails at hz'
     obtain ⟨z,hzz,UF⟩:=Zbc.1 hz'
     obtain ⟨Nw,hza,hf1,hf2,hf3⟩:=nU UF
     have hzx:z∈y::zs:=hzz
     have hseg:Nw=dF++dG:=shape z hzz _ _ _ hza
     subst hseg
     obtain ⟨t0,t1,st2,s,hmj,hcalm,hmz,q0,q1,q2,q3,hXs,hend⟩:=ql z hzz j z'.acts hza
     have:t0=st0:=by rw [p0] at q0;exact (ZD.inj q0).symm
     subst this
     have:t1=st1:=by rw [p1] at q1;exact (ZD.inj q1).symm
     subst this
     have gl:=dU (rec:=rec) (env:=env) q3
     refine vJ hW hC aO g1 hJ1 (g4.2.2.trans hst) hmj q2 (gl.2.1.trans hXs) ?_
     rintro a2 w2 ⟨σ2,T2,ms2,k1,k2,k3,k4,k5,k6⟩ hwh
     have hwh:=hwh hcalm
     have hs4:=((g2'.mX w).stays).trans k4
     have hn3:∀ T' w',bP T2 T' w2 w'→L6 S2 UG w w':=fun T' w' hw'=>fA vK T' w' (hs4.trans hw')
     refine ⟨Whole w2,fun w' hw'=>⟨zR hwh.1 hw'.1,fun b hb=>(hw'.2 b (Zag hb hwh.1)).trans (hwh.2 b hb)⟩,Whole.refl w2,hn3 _ _ (bP.refl _ _),?_⟩
     have hjr:j∈Region.ready .any bI l1:=by
      have:=zt.1 hin z hzz
      unfold PD at this
      rw [hza] at this
      simpa using this
     have hcov:=zt.1 hall j hjr
     rw [if_neg hjg] at hcov
     refine ih _ _ _ hcov k1 hn3 k2 (((gG q2).2.2.trans g4.2.2).trans hst) (zR hb (zR g4.1 (gG q2).1)) (fun u hu=>?_) (hs2.trans k4) (fun k hk=>(k3 k (Zag hk (zR hb g4.1))).trans (hσ k hk)) ?_ hn
     ·unfold tails at hu
      obtain ⟨z2,hz2,Vu⟩:=Zbc.1 hu
      obtain ⟨Vw,Je,e1,e2,e3⟩:=nU Vu
      have Jf:Vw=dF++dG:=shape z2 hz2 _ _ _ Je
      subst Jf
      obtain ⟨t0',t1',st2',s',_,_,Vx,q0',q1',q2',q3',Vy,hend'⟩:=ql z2 hz2 j u.acts Je
      have e0:t0'=t0:=by rw [q0] at q0';exact (ZD.inj q0').symm
      subst e0
      have e4:t1'=t1:=by rw [q1] at q1';exact (ZD.inj q1').symm
      subst e4
      have e5:st2'=st2:=by rw [q2] at q2';exact (ZD.inj q2').symm
      subst e5
      unfold EK
      rw [e1,e2,e3]
      exact ⟨Vx,s',q3',Vy,hend'⟩
     ·refine ⟨ms2++ms,by rw [k5,g3,hd];simp,?_⟩
      exact Marks.app hM1 hs2.size k4 k6
   |(seg,i0)::more,ha,hB =>
    simp only [ZS,decide_eq_true_eq] at hB
    obtain ⟨⟨⟨⟨yx,hfs⟩,hsg⟩,hk⟩,hB⟩:=hB
    split at hB
    case h_2=>cases hB
    rename_i l1 hq1
    simp only [ZS,ZaJ,Za1] at hB
    obtain ⟨⟨hne,hin⟩,hall⟩:=hB
    have hfin:∀ z∈x::y::zs,kS bI z.fin seg=kS bI x.fin seg∧kF bI z.fin seg=kF bI x.fin seg:=fun z hzz=>by
     have hx:=zt.1 hfs x (by simp)
     have hz:=zt.1 hfs z hzz
     simp only [ZS,beq_iff_eq] at hx hz
     have e:=EJ (ops:=bI) (x:=z.fin) (y:=x.fin) (hz.1.trans hx.1.symm) hz.2
     unfold kS kF
     rw [e]
     exact ⟨rfl,rfl⟩
    have shape:∀ z∈x::y::zs,∃ i more,z.acts=(seg,i)::more:=fun z hzz=>by
     have:=zt.1 yx z hzz
     unfold zN at this
     split at this
     ·rename_i s i more e
      exact ⟨i,more,by rw [e,eq_of_beq this]⟩
     ·cases this
    have ql:∀ z∈x::y::zs,∀ i more,z.acts=(seg,i)::more→∃ st0 st1 st2 s,rD P bI (kS bI x.fin seg) (bD vo (kS bI x.fin seg))=true∧(mL P bI (pick bI (kF bI x.fin seg)) (bD vo (kF bI x.fin seg))=true∧kG true (bD vo (kF bI x.fin seg))=true)∧mL P bI (pick bI [i]) [vo.getD i default]=true∧I7 (vo.getD i default)=true∧vI P bI z.fin z.last more (bD vo (iF z.fin z.last more))=true ∧
      ops rec env (bD vo (kS bI x.fin seg)) st=some st0∧ops rec env (bD vo (kF bI x.fin seg)) st0=some st1∧op rec env (vo.getD i default) st1=some st2∧ops rec env (bD vo (iF z.fin z.last more)) st2=some s∧s.ys <+: C.X∧kW keep nb0 z.sw s=some st':=fun z hzz i more e=>by
     obtain ⟨hm,s,hrun,hX,hend⟩:=hz z hzz
     rw [e] at hm hrun
     have e2:bD vo (iF z.fin z.last ((seg,i)::more))=bD vo (kS bI x.fin seg)++(bD vo (kF bI x.fin seg)++(vo.getD i default::bD vo (iF z.fin z.last more))):=by
      show bD vo (seg++(i::iF z.fin z.last more))=_
      rw [iL,lQ,← ZaD,← iL]
      congr 2
      exact (ZaZ (p:=oG bI x.fin) (l:=seg)).symm
     rw [e2] at hm hrun
     have hlenA:=jI vo (kS bI x.fin seg)
     have qF:=jI vo (kF bI x.fin seg)
     simp only [vI,ZS,(hfin z hzz).1,(hfin z hzz).2] at hm
     rw [ZaR hlenA,ZaU hlenA,ZaR qF,ZaU qF] at hm
     obtain ⟨st0,p0,p1⟩:=dI hrun
     obtain ⟨st1,p1,p2⟩:=dI p1
     obtain ⟨st2,p2,p3⟩:=pG p2
     simp only [ZS] at hm
     exact ⟨st0,st1,st2,s,hm.1.1.1,⟨hm.1.1.2,hm.1.2⟩,hm.2.1.1,hm.2.1.2,hm.2.2,p0,p1,p2,p3,hX,hend⟩
    obtain ⟨st0,st1,ajl,sx,hqx,hqb,_,_,_,p0,p1,_⟩:=ql x (by simp) i0 more ha
    refine yu h hqx p0 fun a0 UG f1 f2 f3 f4=>?_
    have vK:∀ T' w',bP UG T' w w'→S2 w':=fun T' w' hw=>zC T' w' ((f2.mX w).stays.trans hw)
    refine ⟨L6 S2 UG w,fun _ h=>h.1,fA vK UG w (bP.refl UG w),?_⟩
    refine rE f1 hqb.1 hqb.2 p1 fun a1 T1 g1 g2e g3' g4'=>?_
    have g2':=g2e
    have g2:=f2.trans g2'
    have g4:=f4.trans g4'
    have g3:=g3'.trans f3
    intro j hj
    obtain ⟨ms,hd,hM⟩:=hms
    have hJ1:C.J st1.ys.length T1 w:=by rw [g4.2.1];exact hC.keep _ _ _ _ _ (g2.mX w) hJ
    obtain ⟨z',hz'⟩:=ZbK _ hj
    have hz':=hz'
    unfold tails at hz'
    obtain ⟨z,hzz,UF⟩:=Zbc.1 hz'
    obtain ⟨Nw,hza,hf1,hf2,hf3⟩:=nU UF
    have hseg:Nw=seg:=by
     obtain ⟨i,more',e⟩:=shape z hzz
     rw [hza] at e;cases e;rfl
    subst hseg
    obtain ⟨t0,t1,st2,s,_,_,hmj,hcalm,hmz,q0,q1,q2,q3,hXs,hend⟩:=ql z hzz j z'.acts hza
    have:t0=st0:=by rw [p0] at q0;exact (ZD.inj q0).symm
    subst this
    have:t1=st1:=by rw [p1] at q1;exact (ZD.inj q1).symm
    subst this
    have gl:=dU (rec:=rec) (env:=env) q3
    refine vJ hW hC aO g1 hJ1 (g4.2.2.trans hst) hmj q2 (gl.2.1.trans hXs) ?_
    rintro a2 w2 ⟨σ2,T2,ms2,k1,k2,k3,k4,k5,k6⟩ hwh
    have hwh:=hwh hcalm
    have hs4:=((g2'.mX w).stays).trans k4
    have hn3:∀ T' w',bP T2 T' w2 w'→L6 S2 UG w w':=fun T' w' hw'=>fA vK T' w' (hs4.trans hw')
    refine ⟨Whole w2,fun w' hw'=>⟨zR hwh.1 hw'.1,fun b hb=>(hw'.2 b (Zag hb hwh.1)).trans (hwh.2 b hb)⟩,Whole.refl w2,hn3 _ _ (bP.refl _ _),?_⟩
    have hjr:j∈Region.ready .any bI l1:=by
     have:=zt.1 hin z hzz
     unfold Gn at this
     rw [hza] at this
     simpa using this
    have hcov:=zt.1 hall j hjr
    have hs2:bP T0 T1 w0 w:=kZ.trans (g2.mX w).stays
    have hM1:Marks T1 w0 w ms:=⟨fun r hr=>⟨(hM.1 r hr).1,g2.ro r (hM.1 r hr).2.1,(hM.1 r hr).2.2⟩,hM.2⟩
    refine ih _ _ _ hcov k1 hn3 k2 (((gG q2).2.2.trans g4.2.2).trans hst) (zR hb (zR g4.1 (gG q2).1)) (fun u hu=>?_) (hs2.trans k4) (fun k hk=>(k3 k (Zag hk (zR hb g4.1))).trans (hσ k hk)) ?_ hn
    ·unfold tails at hu
     obtain ⟨z2,hz2,Vu⟩:=Zbc.1 hu
     obtain ⟨Vw,Je,e1,e2,e3⟩:=nU Vu
     have Jf:Vw=Nw:=by
      obtain ⟨i,more',e⟩:=shape z2 hz2
      rw [Je] at e;cases e;rfl
     subst Jf
     obtain ⟨t0',t1',st2',s',_,_,_,_,Vx,q0',q1',q2',q3',Vy,hend'⟩:=ql z2 hz2 j u.acts Je
     have e0:t0'=t0:=by rw [q0] at q0';exact (ZD.inj q0').symm
     subst e0
     have e4:t1'=t1:=by rw [q1] at q1';exact (ZD.inj q1').symm
     subst e4
     have e5:st2'=st2:=by rw [q2] at q2';exact (ZD.inj q2').symm
     subst e5
     unfold EK
     rw [e1,e2,e3]
     exact ⟨Vx,s',q3',Vy,hend'⟩
    ·refine ⟨ms2++ms,by rw [k5,g3,hd];simp,?_⟩
     exact Marks.app hM1 hs2.size k4 k6
theorem zi {alts:List fP}(h:kC rec env keep vo st alts=some st'):∀ z∈alts,kX rec env keep vo st z=some st':=by
 cases alts with
 |nil=>simp [kC] at h
 |cons x xs =>
  simp only [kC] at h
  obtain ⟨s,h1,h2⟩:=bind_some h
  obtain ⟨e,g⟩:=Jd h2
  subst e
  intro z hz
  rcases ZaL.1 hz with rfl|hz
  ·exact h1
  ·exact g _ (List.mem_map_of_mem hz)
theorem DW {alts:List fP}(h:kC rec env keep vo st alts=some st'):st.boxes.length≤st'.boxes.length∧st.ys <+: st'.ys∧st'.stop=st.stop:=by
 cases alts with
 |nil=>simp [kC] at h
 |cons x xs =>
  have h1:=zi h x (by simp)
  unfold kX at h1
  obtain ⟨s,h2,h3⟩:=bind_some h1
  obtain ⟨e1,e2,e3⟩:=wV h3
  have g:=dU h2
  exact ⟨by rw [e3];exact g.1,by rw [e1];exact g.2.1,by rw [e2];exact g.2.2⟩
theorem DX {id:Nat}{Q:Exit→Act→World→Prop}{alts:List fP}(hW:jV F)(hC:C.Ok P L)(aO:eG P rec env)(h:aF L σ T st a w)(hJ:C.J st.ys.length T w)(hst:st.stop=C.stop)(hX:st'.ys <+: C.X)
  (hmo:P.follows .mixedOrders=true) (hnd:jk bI=true) (hok:Nr P bI vo alts=true) (hp:kC rec env keep vo st alts=some st')
  (hn:∀ a' w',After C L st.boxes.length σ T w st' a.defers a' w'→Q .normal a' w'):(Code.region id bI true).wpIn F n P Q a w:=by
 simp only [Nr,ZS] at hok
 obtain ⟨⟨hsel,hall⟩,hB⟩:=hok
 have hz:∀ z∈alts,EK P rec env bI vo keep st.boxes.length C.X st st' z:=fun z hz=>by
  have h1:=zt.1 hall z hz
  simp only [ZS] at h1
  have h2:=zi hp z hz
  unfold kX at h2
  obtain ⟨s,h3,h4⟩:=bind_some h2
  have he:=eq_of_beq h1.1
  unfold EK
  rw [← he]
  exact ⟨h1.2,s,h3,by rw [← (wV h4).1];exact hX,h4⟩
 split at hB
 ·cases hB
 rename_i x xs
 refine zD (Whole w.drew) hW.fn hmo hnd hsel hB (Whole.refl _) ?_
 refine adR hW hC aO (nb:=st.boxes.length) (ze _) (w0:=w.drew) (σ0:=σ) (T0:=T) (ds:=a.defers) _ _ _ _ hB (h.sees (EI T w)) (fun _ _ _=>trivial) (hC.keep _ _ _ _ _ (wS T w) hJ) hst (ze _) hz (bP.refl _ _) (fun _ _=>rfl) ⟨[],rfl,Marks.nil⟩ fun a' w' hA=>hn _ _ ?_
 exact After.trans (ms:=[]) (wS T w).stays (fun _ _=>rfl) rfl Marks.nil (ze _) hA
end
section
variable {P:Program}{F:Fence}{C:Ctx}{n L nb:Nat}{σ σ':Nat→Nat}{T T' T1 T2:Tags}{st st' st1 st2:St}{a a1:Act}{w w1 w2:World}{d:Nat}{ks:List Nat}{l:List fG}{sz:Nat}{es:List PV}
 {rec:aj→St→Option (Ex×St)} {env:Env} {bI:Array Oper}
theorem Grow.rX {st0:St}(h:Grow nb st1 st2)(hb:st0.rX d ks sz es st2=some st'):Grow nb st1 st':=by
 unfold St.rX at hb
 split at hb
 ·have hb:=ZD.inj hb
  subst hb;exact h
 ·cases hb
end
def mC (P:Program):Code→aj→Bool
 |c,.clean _ _ v=>mC P c v
 |_,.drs _ _ _ []=>true
 |.skip,.skip=>true
 |.label _,.skip=>true
 |.region _ ops false,.ops l=>mL P ops ops.toList l
 |.region _ ops true,.qp _ acts fin last l=>P.follows .mixedOrders&&jk ops&&Pz ops acts fin last&&vI P ops fin last acts l
 |.region _ ops true,.drs _ _ vo alts=>P.follows .mixedOrders&&jk ops&&Nr P ops vo alts
 |.seq a b,.seq c d=>mC P a c&&mC P b d
 |.cond x a b,.cond y c d=>aH x y&&mC P a c&&mC P b d
 |.block i a,.block j c=>i==j&&mC P a c
 |.loop a,.loop _ c=>mC P a c
 |.rangeFunc g ps qL bd,.rng g' ps' Jg bd'=>aH g g'&&ps.toList==ps'&&mC P qL Jg&&mC P bd bd'
 |.exit i,.exit j=>i==j
 |.scope a,.scp c=>mC P a c
 |.ret,.ret=>true
 |.region _ ops false,.dem l d f args=>mL P ops ops.toList (l++[.call d f args])
 |_,_=>false
def toX:Ex→Exit
 |.normal=>.normal
 |.exit i=>.exit i
 |.ret=>.ret
 |.nC t n=>.panic [{ v:=.iface t (.int .i64 n),recovered:=false }]
def Post (C:Ctx)(L nb:Nat)(σ:Nat→Nat)(T:Tags)(w:World)(e:Ex)(st':St)(ds:List Deferred):Exit→Act→World→Prop:=fun x a' w'=>x=toX e∧After C L nb σ T w st' ds a' w'
def Ctx.Rec (C:Ctx)(F:Fence):Prop:=∀ l,F=Fence.wide.inRound l→∀ k T w,C.J k T w→∃ r,w.heap[l]?=some (.loop r)
theorem Ctx.wW (C:Ctx):C.Rec Fence.wide:=fun l e=>by
 have:Fence.wide.round=(Fence.wide.inRound l).round:=by rw [← e]
 cases this
structure oH (P:Program)(rec:aj→St→Option (Ex×St)):Prop where
 grow:∀ c vc st e st',mC P c vc=true→rec vc st=some (e,st')→Grow st.boxes.length st st'
 VA:∀ c keep nb vc st e st',mC P c vc=true→rec (.round keep nb vc) st=some (e,st')→Grow nb st st'
 wp:∀ {F:Fence} {L:Nat} {C:Ctx} {n:Nat},jV F→C.Rec F→C.Ok P L→∀ c vc st e st',mC P c vc=true→rec vc st=some (e,st')→st.stop=C.stop→st'.ys <+: C.X→∀ σ T a w,aF L σ T st a w→C.J st.ys.length T w→c.wpIn F n P (Post C L st.boxes.length σ T w e st' a.defers) a w
 wpR:∀ {F:Fence} {L:Nat} {C:Ctx} {n:Nat},jV F→C.Rec F→C.Ok P L→∀ c keep nb vc st e st',mC P c vc=true→rec (.round keep nb vc) st=some (e,st')→st.stop=C.stop→st'.ys <+: C.X→∀ σ T a w,aF L σ T st a w→C.J st.ys.length T w→vF F n P c (Post C L nb σ T w e st' a.defers) a w
section
variable {P:Program}{F:Fence}{C:Ctx}{n L nb:Nat}{σ σ':Nat→Nat}{T T' T1 T2:Tags}{st st' st1:St}{a a1:Act}{w w1:World}{o:Oper}{vo:fG}{y:Operand}{x:bf}{d:Nat}
 {rec:aj→St→Option (Ex×St)} {env:Env} {next:Act→World→Prop} {Q:Exit→Act→World→Prop} {bI:Array Oper} {ds:List Deferred} {e:Ex}
end
def l9 (K:Nat):uQ:=.row (.part (K+1) 0)
section
variable {P:Program}{F:Fence}{C:Ctx}{n L nb:Nat}{σ σ':Nat→Nat}{T T' T1 T2:Tags}{st st' st1:St}{a a1:Act}{w w' w1:World}{o:Oper}{vo:fG}{y:Operand}{x:bf}{d:Nat}
 {rec:aj→St→Option (Ex×St)} {env:Env} {next:Act→World→Prop} {Q:Exit→Act→World→Prop} {bI:Array Oper} {ds:List Deferred} {e:Ex}
def VB (T:Tags)(K:Nat):Tags:=fun b=>if T b=l9 K then .other else T b
theorem Rz {K b:Nat}(h:T b=l9 K):VB T K b=.other:=if_pos h
theorem RD {K b:Nat}(h:T b≠l9 K):VB T K b=T b:=if_neg h
def Gp (L nb:Nat)(σ:Nat→Nat)(T:Tags)(w:World):AV→Value→Prop
 |.pv x,v=>aA (fun b=>T b=.ro) w x v
 |.aJ o j,v=>o<nb∧v=.pointer (some ⟨σ o,j,none⟩)
 |.pp o j,v=>o<nb∧∃ b E,v=.pointer (some ⟨b,0,none⟩)∧T b=.ro∧w.heap[b]?=some (.cells #[.pointer (some ⟨σ o,j,none⟩)] E (0,0))
 |.fn f caps,v=>∃ arr:Array Value,v=.func (.func f) #[] arr∧arr.size=caps.length∧∀ (k:Nat) x u,caps[k]?=some x→arr[k]?=some u→fJ nb σ T w x u
 |.lY,v=>v=.func (.yield L) #[] #[]
 |.any,_=>True
 |_,_=>False
def lg (L nb:Nat)(σ:Nat→Nat)(T:Tags)(w:World)(slots:List AV)(tmps:Array Value):Prop :=
 tmps.size=slots.length∧∀ (t:Nat) av v,slots[t]?=some av→tmps[t]?=some v→Gp L nb σ T w av v
theorem Gp.keep {av:AV}{v:Value}(h:Gp L nb σ T w av v)(hw:∀ b,T b=.ro→b<w.heap.size→T' b=.ro∧w'.heap[b]?=w.heap[b]?)(hσ:∀ o,o<nb→σ' o=σ o):Gp L nb σ' T' w' av v:=by
 cases av<;>simp only [Gp] at h ⊢
 case pv x=>exact aA.frame hw h
 case aJ o j=>exact ⟨h.1,by rw [hσ o h.1];exact h.2⟩
 case pp o j =>
  obtain ⟨g0,b,E,e1,e2,e3⟩:=h
  have:=hw b e2 (zr.1 e3).1
  exact ⟨g0,b,E,e1,this.1,by rw [hσ o g0];exact this.2.trans e3⟩
 case fn f caps =>
  obtain ⟨arr,e1,e2,e3⟩:=h
  refine ⟨arr,e1,e2,fun k x u hx hu=>?_⟩
  have:=e3 k x u hx hu
  cases x<;>simp only [fJ] at this ⊢
  case pv p=>exact aA.frame hw this
  case aJ o j=>exact ⟨this.1,by rw [hσ o this.1];exact this.2⟩
 case lY=>exact h
theorem lg.keep {slots:List AV}{tmps:Array Value}(h:lg L nb σ T w slots tmps)(hw:∀ b,T b=.ro→b<w.heap.size→T' b=.ro∧w'.heap[b]?=w.heap[b]?)(hσ:∀ o,o<nb→σ' o=σ o):lg L nb σ' T' w' slots tmps :=
 ⟨h.1,fun t av v ht hv=>(h.2 t av v ht hv).keep hw hσ⟩
theorem Gp.ajr {av:AV}{v:Value}{t:Nat}(h:Gp L nb σ T w av v)(hnb:nb≤st.boxes.length):jJ L σ T st a w t av v:=by
 cases av<;>simp only [Gp] at h<;>simp only [jJ]
 case pv x=>exact h
 case aJ o j=>exact ⟨by omega,h.2⟩
 case pp o j=>exact ⟨by omega,h.2⟩
 case fn f caps =>
  obtain ⟨arr,e1,e2,e3⟩:=h
  refine ⟨arr,e1,e2,fun k x u hx hu=>?_⟩
  have:=e3 k x u hx hu
  cases x<;>simp only [fJ] at this ⊢
  case pv p=>exact this
  case aJ o j=>exact ⟨by omega,this.2⟩
 case lY=>exact h
theorem lg.sim {slots:List AV}{boxes:List Box}{ys:List (List PV)}{stop:Option (Option Nat)}{tmps:Array Value}{dfs:List Deferred}(h:lg L nb σ T w slots tmps)(hnb:nb≤boxes.length)(hb:∀ (o:Nat) bx,boxes[o]?=some bx→ig T w (σ o) o bx)
  (hf:∀ b,w.heap.size≤b→T b=.other):aF L σ T ⟨slots,boxes,ys,stop⟩ { tmps:=tmps,defers:=dfs } w :=
 ⟨h.1,fun t av v ht hv=>(h.2 t av v ht hv).ajr hnb,hb,hf⟩
theorem aF.froze (h:aF L σ T st a w):∃ T',lg L st.boxes.length σ T' w (st.slots.map AV.froze) a.tmps∧(∀ (o:Nat) bx,st.boxes[o]?=some bx→ig T' w (σ o) o bx)∧Still T T':=by
 refine ⟨fun b=>match T b with|.row (.slot _)=>.ro|q=>q,⟨by simp [h.size],fun t av v ht hv=>?_⟩,fun o bx ho=>?_,⟨fun b e=>by simp [e],fun b e=>by simp [e]⟩⟩
 ·rw [zc] at ht
  cases e:st.slots[t]? with
  |none=>rw [e] at ht;cases ht
  |some av0 =>
   rw [e] at ht
   simp only [Zae,ZD.injEq] at ht
   subst ht
   have hA:=h.slots t av0 v e hv
   have hro:∀ b,T b=.ro→(match T b with|.row (.slot _)=>uQ.ro|q=>q)=.ro:=fun b e=>by simp [e]
   cases av0<;>simp only [AV.froze,Gp]<;>simp only [jJ] at hA
   case pv x=>exact aA.frame (fun b e _=>⟨hro b e,rfl⟩) hA
   case row sz es=>exact aI.list (fun b e=>by simp [e]) (fun b e=>hro b e) hA
   case aJ o j=>exact hA
   case pp o j =>
    obtain ⟨g0,b,E,e1,e2,e3⟩:=hA
    exact ⟨g0,b,E,e1,hro b e2,e3⟩
   case fn f caps =>
    obtain ⟨arr,e1,e2,e3⟩:=hA
    refine ⟨arr,e1,e2,fun k x u hx hu=>?_⟩
    have:=e3 k x u hx hu
    cases x<;>simp only [fJ] at this ⊢
    case pv p=>exact aA.frame (fun b e _=>⟨hro b e,rfl⟩) this
    case aJ o j=>exact this
   case lY=>exact hA
 ·have hb:=h.boxes o bx ho
  have hT:(match T (σ o) with|.row (.slot _)=>uQ.ro|q=>q)=T (σ o):=by
   obtain ⟨_,_,_,_,h3,_⟩:=hb
   rw [h3];cases hfz:bx.fz<;>simp
  exact hb.frame ⟨hT,rfl⟩ (fun j b e _=>⟨by simp [e],rfl⟩) (fun b e _=>⟨by simp [e],rfl⟩)
theorem lg.params:∀ {ps:List Nat} {x:List PV} {vs:List Value} {slots sl:List AV} {tmps:Array Value},dZ slots ps x=some sl→lg L nb σ T w slots tmps→vs.length=x.length→(∀ (i:Nat) p v,x[i]?=some p→vs[i]?=some v→aA (fun b=>T b=.ro) w p v) →
  ps.length=vs.length∧lg L nb σ T w sl ((ps.zip vs).foldl (fun t (p,v)=>t.setIfInBounds p v) tmps)
 |[],[],vs,slots,sl,tmps,hs,h,hl,hr=>by
  simp only [dZ,ZD.injEq] at hs
  subst hs
  have:vs=[]:=List.eq_nil_of_length_eq_zero (by simpa using hl)
  subst this
  exact ⟨rfl,h⟩
 |p::ps,q::x,v::vs,slots,sl,tmps,hs,h,hl,hr=>by
  simp only [dZ] at hs
  have h1:lg L nb σ T w (slots.set p (.pv q)) (tmps.setIfInBounds p v):=by
   refine ⟨by simp [h.1],fun t av u ht hu=>?_⟩
   rw [List.getElem?_set] at ht
   rw [ZaN] at hu
   by_cases e:p=t
   ·subst e
    simp only [if_true] at ht hu
    split at ht
    ·split at hu
     ·cases ht;cases hu
      exact hr 0 q v rfl rfl
     ·cases hu
    ·cases ht
   ·simp only [if_neg e] at ht hu
    exact h.2 t av u ht hu
  obtain ⟨k1,k2⟩:=lg.params (vs:=vs) hs h1 (by simpa using hl) (fun i p v hp hv=>hr (i+1) p v hp hv)
  exact ⟨by simp [k1],k2⟩
 |[],_::_,_,_,_,_,hs,_,_,_=>by simp [dZ] at hs
 |_::_,[],_,_,_,_,hs,_,_,_=>by simp [dZ] at hs
 |_::_,_::_,[],_,_,_,_,_,hl,_=>by simp at hl
theorem sS (hg:∀ c vc st e st',mC P c vc=true→rec vc st=some (e,st')→Grow st.boxes.length st st'){ca cb:Code}{slots:List AV}{ps:List Nat}{qL bd:aj}(ha:mC P ca qL=true)(hb:mC P cb bd=true) :
  ∀ (xs:List (List PV)) (k:Nat) (s:St) r s',rounds rec slots ps qL bd nb k xs s=some (r,s')→nb≤s.boxes.length→Grow nb s s'
 |[],k,s,r,s',h,hn=>by
  simp only [rounds,ZD.injEq,Zar.injEq] at h
  rw [← h.2];exact ⟨hn,Zbs _,rfl⟩
 |x::xs,k,s,r,s',h,hn=>by
  unfold rounds at h
  replace h:=bind_some h
  obtain ⟨sl,h1,h⟩:=h
  replace h:=bind_some h
  obtain ⟨⟨e1,s1⟩,h2,h⟩:=h
  have g1:=hg _ _ _ _ _ ha h2
  simp only at h
  split at h
  case h_2=>cases h
  replace h:=bind_some h
  obtain ⟨⟨e2,s2⟩,h3,h⟩:=h
  have g2:=hg _ _ _ _ _ hb h3
  have g1':Grow nb s s1:=⟨zR hn g1.1,g1.2.1,g1.2.2⟩
  have g2':Grow nb s1 s2:=g2.mono g1'.1
  simp only at h
  split at h
  ·split at h
   case isFalse=>cases h
   rename_i hle
   have g3:=sS hg ha hb xs (k+1) _ r s' h (by simp;omega)
   exact (g1'.trans g2').trans ⟨g3.1,g3.2.1,g3.2.2⟩
  ·cases h
  ·simp only [ZD.injEq,Zar.injEq] at h
   rw [← h.2];exact g1'.trans g2'
end
theorem Jh {ok good:Nat→Prop}{w:World}(hg:∀ b,bY w b→good b){x:PV}{v:Value}(h:aA ok w x v):aA (fun b=>ok b∧good b) w x v:=by
 induction h with
 |int k n=>exact .int k n
 |bool b=>exact .bool b
 |str s=>exact .str s
 |nY=>exact .nY
 |void v h=>exact .void v h
 |nil sz a=>exact .nil sz a
 |kE sz a=>exact .kE sz a
 |list sz es b off c cv h1 h2 h3 h4 h6 h7 h8 ih=>exact .list sz es b off c cv ⟨h1,hg b h2⟩ h2 h3 h4 h6 h7 ih
 |agg cs arr h1 h2 h3 ih=>exact .agg cs arr h1 h2 ih
 |func f caps arr h1 h2 ih=>exact .func f caps arr h1 ih
 |bW cs j b off cv h1 h2 h3 h4 ih=>exact .bW cs j b off cv ⟨h1,hg b h2⟩ h2 h3 ih
def Compat (T Tc:Tags)(K B0:Nat)(w:World):Prop:=∀ b,b<w.heap.size→T b≠.other→Tc b=l9 K∨(T b=.ro∧Tc b=.ro∧(b<B0∨bY w b))
theorem qm (K:Nat):l9 K≠.ro:=by simp [l9]
theorem uq (K:Nat):l9 K≠.other:=by simp [l9]
structure Rg where
 L:Nat
 nb:Nat
 K:Nat
 σ0:Nat→Nat
 T1:Tags
 w0:World
 slots:List AV
 tmps:Array Value
 l:Nat
 D:List Nat
 B0:Nat
structure CSx (C:Ctx)(R:Rg)(lp:Loop)(s:St)(T:Tags)(w:World)(σ:Nat→Nat)(Tc:Tags):Prop where
 fs:lg R.L R.nb σ Tc w R.slots R.tmps
 bx:∀ (o:Nat) b,s.boxes[o]?=some b→ig Tc w (σ o) o b
 fr:∀ b,w.heap.size≤b→Tc b=.other
 j:C.J s.ys.length Tc w
 nbx:R.nb≤s.boxes.length
 stp:s.stop=C.stop
 sg:∀ o,o<R.nb→σ o=R.σ0 o
 sy:bP R.T1 Tc R.w0 w
 cp:Compat T Tc R.K R.B0 w
 rl:w.heap[R.l]?=some (.loop lp)
 rt:Tc R.l=l9 R.K
 ro:T R.l=.other
 dd:∀ d∈R.D,w.heap[d]?=some (.deferred (some []))∧Tc d=.ro∧T d=.other
def CS (C:Ctx)(R:Rg)(lp:Loop)(s:St)(T:Tags)(w:World):Prop:=∃ σ Tc,CSx C R lp s T w σ Tc
section
variable {P:Program}{F:Fence}{C:Ctx}{n L nb:Nat}{σ σ':Nat→Nat}{T T' Tc T1 T2:Tags}{st st' st1 s:St}{a a1:Act}{w w' w1:World}{R:Rg}{lp:Loop}
 {rec:aj→St→Option (Ex×St)} {env:Env}
theorem lt_of_heap {o:Obj}{b:Nat}(h:w.heap[b]?=some o):b<w.heap.size:=(zr.1 h).1
theorem CS.take (h:CS C R lp s T w):CS C R lp { s with boxes:=s.boxes.take R.nb } T w:=by
 obtain ⟨σ,Tc,h⟩:=h
 refine ⟨σ,Tc,{ h with bx:=fun o b ho=>?_,nbx:=?_ }⟩
 ·simp only [Zan] at ho
  split at ho
  ·exact h.bx o b ho
  ·cases ho
 ·have:=h.nbx;simp;omega
theorem CS.keep (hC:C.Ok P L)(h:CS C R lp s T w)(hc:uV T T' w w'):CS C R lp s T' w':=by
 classical
 obtain ⟨σ,Tc,h⟩:=h
 have hsame:∀ b,b<w.heap.size→Tc b≠l9 R.K→w'.heap[b]?=w.heap[b]?:=fun b hb hd=>by
  by_cases e:T b=.other
  ·exact hc.same b hb (.inr e)
  ·rcases h.cp b hb e with g|⟨g,_⟩
   ·exact absurd g hd
   ·exact hc.same b hb (.inl g)
 obtain ⟨Tn,IX⟩:∃ Tn:Tags,Tn=fun b=>if b<w.heap.size then Tc b else if b<w'.heap.size∧T' b≠.other then l9 R.K else .other:=⟨_,rfl⟩
 have hlt:∀ b,b<w.heap.size→Tn b=Tc b:=fun b hb=>by rw [IX];exact if_pos hb
 have hl:=lt_of_heap h.rl
 have hro:∀ b,Tc b=.ro→b<w.heap.size:=fun b e=>by
  rcases ZaE b w.heap.size with g|g
  ·exact g
  ·rw [h.fr b g] at e;cases e
 have hw:∀ b,Tc b=.ro→b<w.heap.size→Tn b=.ro∧w'.heap[b]?=w.heap[b]?:=fun b e hb=>⟨by rw [hlt b hb,e],hsame b hb (by rw [e];exact (qm _).symm)⟩
 refine ⟨σ,Tn,⟨h.fs.keep hw fun _ _=>rfl,fun o b ho=>?_,fun b hb=>?_,?_,h.nbx,h.stp,h.sg,h.sy.trans ⟨hc.size,fun b e=>(hw b e (hro b e)).1,fun b hb e=>hsame b hb (by rw [e];exact (qm _).symm)⟩,fun b hb ht=>?_,?_,?_,?_,fun d hd=>?_⟩⟩
 ·have hb:=h.bx o b ho
  have hbl:=hb.lt
  have hT:Tc (σ o)≠l9 R.K:=by
   obtain ⟨_,_,_,_,h3,_⟩:=hb
   rw [h3];split<;>simp [l9]
  exact hb.frame ⟨hlt _ hbl,hsame _ hbl hT⟩ (fun j b e hb=>⟨by rw [hlt b hb,e],hsame b hb (by rw [e];simp [l9])⟩) hw
 ·have:¬ b<w.heap.size:=by have:=hc.size;omega
  rw [IX]
  simp only [if_neg this,if_neg (show ¬ (b<w'.heap.size∧T' b≠.other) by omega)]
 ·refine hC.keep _ _ _ _ _ ⟨hc.size,hc.os,hc.tape,hc.output,fun b hb ht=>?_,fun b e=>(hw b e (hro b e)).1,fun b hb e=>by rw [hlt b hb,e]⟩ h.j
  refine hsame b hb ?_
  rcases ht with e|e<;>rw [e]<;>simp [l9]
 ·by_cases hbl:b<w.heap.size
  ·have ht0:T b≠.other:=fun e=>ht (hc.other b hbl e)
   rw [hlt b hbl]
   rcases h.cp b hbl ht0 with g|⟨g1,g2,g3⟩
   ·exact .inl g
   ·refine .inr ⟨hc.ro b g1,g2,g3.imp id fun hcl=>hcl.same (hc.same b hbl (.inl g1))⟩
  ·left
   rw [IX]
   simp only [if_neg hbl,if_pos (show b<w'.heap.size∧T' b≠.other from ⟨hb,ht⟩)]
 ·rw [hc.same _ hl (.inr h.ro)];exact h.rl
 ·rw [hlt _ hl];exact h.rt
 ·exact hc.other _ hl h.ro
 ·obtain ⟨g1,g2,g3⟩:=h.dd d hd
  have hdl:=lt_of_heap g1
  exact ⟨by rw [hc.same _ hdl (.inr g3)];exact g1,by rw [hlt _ hdl];exact g2,hc.other _ hdl g3⟩
def uS (C:Ctx)(K l:Nat)(S:Nat→Prop)(w:World)(lp:Loop)[DecidablePred S]:Ctx where
 X:=C.X
 stop:=C.stop
 J k T u:=(∀ b,S b→T b=.other)∧(∀ b,S b→b≠l→u.heap[b]?=w.heap[b]?)∧u.heap[l]?=some (.loop lp)∧w.heap.size≤u.heap.size∧C.J k (fun b=>if S b then l9 K else T b) u
theorem adT (hC:C.Ok P L){K l:Nat}{S:Nat→Prop}[DecidablePred S](hS:∀ b,S b→b<w.heap.size)(hl:S l):(uS C K l S w lp).Ok P L:=by
 refine ⟨fun k T T' u u' hc ⟨h1,h2,h3,h4,h5⟩=>⟨fun b hb=>?_,fun b hb hbl=>?_,?_,zR h4 hc.size,?_⟩,fun k T u ⟨h1,h2,h3,h4,h5⟩=>(hC.glob _ _ _ h5).frame fun b e _=>⟨?_,rfl⟩,fun s k T u ps vs hs hx hf ⟨h1,h2,h3,h4,h5⟩ hlen hr=>?_⟩
 ·exact hc.other b (by have:=hS b hb;omega) (h1 b hb)
 ·exact (hc.same b (by have:=hS b hb;omega) (.inr (h1 b hb))).trans (h2 b hb hbl)
 ·exact (hc.same l (by have:=hS l hl;omega) (.inr (h1 l hl))).trans h3
 ·refine hC.keep _ _ _ _ _ ⟨hc.size,hc.os,hc.tape,hc.output,fun b hb ht=>?_,fun b e=>?_,fun b hb e=>?_⟩ h5
  ·by_cases hs:S b
   ·simp only [if_pos hs] at ht;rcases ht with e|e<;>simp [l9] at e
   ·simp only [if_neg hs] at ht;exact hc.same b hb ht
  ·by_cases hs:S b
   ·simp only [if_pos hs] at e;simp [l9] at e
   ·simp only [if_neg hs] at e ⊢;exact hc.ro b e
  ·by_cases hs:S b
   ·simp only [if_pos hs] at e;simp [l9] at e
   ·simp only [if_neg hs] at e ⊢;exact hc.other b hb e
 ·by_cases hs:S b
  ·simp only [if_pos hs] at e;simp [l9] at e
  ·simp only [if_neg hs] at e;exact e
 ·have hns:∀ b,T b≠.other→¬ S b:=fun b hb hs=>hb (h1 b hs)
  obtain ⟨f,tm,qL,bd,k1,k2⟩:=hC.lY s k (fun b=>if S b then l9 K else T b) u ps vs hs hx (fun b hb=>by
   have:¬ S b:=fun hs=>by have:=hS b hs;omega
   simp only [if_neg this];exact hf b hb) h5 hlen (fun i p v hp hv=>(hr i p v hp hv).frame fun b hb _=>⟨by simp only [if_neg (hns b (by rw [hb];simp))];exact hb,rfl⟩)
  refine ⟨f,tm,qL,bd,k1,fun n=>?_⟩
  refine (k2 n).mono fun e w3 hq=>?_
  obtain ⟨g1,g2,g3⟩:=hq
  have hse:∀ b,(if S b then l9 K else T b)≠.other→b<u.heap.size→w3.heap[b]?=u.heap[b]?:=g3.2
  refine ⟨g1,⟨h1,fun b hb hbl=>?_,?_,zR h4 g3.1,g2⟩,g3.1,fun b hb hbl=>hse b (by rw [if_neg (hns b hb)];exact hb) hbl⟩
  ·exact (hse b (by rw [if_pos hb];simp [l9]) (by have:=hS b hb;omega)).trans (h2 b hb hbl)
  ·exact (hse l (by rw [if_pos hl];simp [l9]) (by have:=hS l hl;omega)).trans h3
end
section
variable {P:Program}{F:Fence}{C:Ctx}{n L nb:Nat}{σ σ':Nat→Nat}{T T' Tc T1 T2:Tags}{st st' st1 s:St}{a a1:Act}{w w' w1:World}{R:Rg}{lp:Loop}
 {rec:aj→St→Option (Ex×St)} {env:Env}
def rF:Ex→Option Code
 |.normal=>none
 |.ret=>some .ret
 |.exit i=>some (.exit i)
 |.nC _ _=>none
theorem PI (C:Ctx)(K l:Nat)(S:Nat→Prop)(w:World)(lp:Loop)[DecidablePred S]:(uS C K l S w lp).Rec (Fence.wide.inRound l):=fun l' e k T u h=>by
 have:(Fence.wide.inRound l).round=(Fence.wide.inRound l').round:=by rw [← e]
 have:l=l':=ZD.inj this
 subst this
 exact ⟨lp,h.2.2.1⟩
set_option maxHeartbeats 1000000 in
theorem Ji (hR:oH P rec)(hC:C.Ok P R.L){ca cb:Code}{qL bd:aj}(ha:mC P ca qL=true)(hb:mC P cb bd=true){fn:FuncId}{ps:Array Tmp}{dd:Nat}{rc:LoopState→Option Code→Loop}
  (hrc:rc=fun st pe=>{ state:=st,pending:=pe,fn:=fn,tmps:=R.tmps,params:=ps,assign:=ca,body:=cb,defers:=dd })
  (hcs:CS C R (rc .ready none) s T w) (hT:∀ b,w.heap.size≤b→T b=.other) (hD:R.l ∉ R.D) {x:List PV} {vs:List Value} (hvs:vs.length=x.length) (hrep:∀ (i:Nat) p v,x[i]?=some p→vs[i]?=some v→aA (fun b=>T b=.ro) w p v)
  {sl:List AV} {sa sb:St} {e:Ex} (h1:dZ R.slots ps.toList x=some sl) (h2:rec qL { s with slots:=sl }=some (.normal,sa)) (h3:rec bd sa=some (e,sb)) (hX:sb.ys <+: C.X) (he:∀ t n,e≠.nC t n) :
  ∃ f ac3 Jg bd',(Instr.yield R.l vs.toArray).run P w=.ok (.round R.l f ac3 Jg bd') w∧∀ n,RoundIn Fence.wide n P R.l f ac3 Jg bd' w fun en w'=>en=.returned (.bool (rF e).isNone) ∧
   CS C R (rc (if (rF e).isNone then .ready else .done) (rF e)) sb T w'∧oL T w w':=by
 classical
 obtain ⟨σ1,Tc,h⟩:=hcs
 have hll:=lt_of_heap h.rl
 obtain ⟨Ty,hTy⟩:∃ Ty:Tags,Ty=fun b=>if Tc b=l9 R.K∧T b=.ro∧bY w b then .ro else Tc b:=⟨_,rfl⟩
 have ty1:∀ b,Tc b=l9 R.K∧T b=.ro∧bY w b→Ty b=.ro:=fun b hb=>by rw [hTy];exact if_pos hb
 have ty2:∀ b,¬ (Tc b=l9 R.K∧T b=.ro∧bY w b)→Ty b=Tc b:=fun b hb=>by rw [hTy];exact if_neg hb
 have ty3:∀ b,Tc b≠l9 R.K→Ty b=Tc b:=fun b hb=>ty2 b fun g=>hb g.1
 obtain ⟨Sx,hSx⟩:∃ Sx:Nat→Prop,Sx=fun b=>b<w.heap.size∧Ty b=l9 R.K:=⟨_,rfl⟩
 have hSl:∀ b,Sx b→b<w.heap.size:=fun b hb=>by rw [hSx] at hb;exact hb.1
 have hSd:∀ b,Sx b→Ty b=l9 R.K:=fun b hb=>by rw [hSx] at hb;exact hb.2
 have ajs:Ty R.l=l9 R.K:=by rw [ty2 _ fun g=>(by have:=g.2.1;rw [h.ro] at this;cases this)];exact h.rt
 have hlS:Sx R.l:=by rw [hSx];exact ⟨hll,ajs⟩
 have VD:∀ b,w.heap.size≤b→Ty b=.other:=fun b hb=>by rw [ty3 b (by rw [h.fr b hb];exact (uq _).symm),h.fr b hb]
 obtain ⟨Tz,hTz⟩:∃ Tz:Tags,Tz=VB Ty R.K:=⟨_,rfl⟩
 have tz1:∀ b,Sx b→Tz b=.other:=fun b hb=>by rw [hTz];exact Rz (hSd b hb)
 have tz2:∀ b,Ty b≠l9 R.K→Tz b=Ty b:=fun b hb=>by rw [hTz];exact RD hb
 have hre:(fun b=>if Sx b then l9 R.K else Tz b)=Ty:=by
  funext b
  by_cases hb:Sx b
  ·simp only [if_pos hb];exact (hSd b hb).symm
  ·simp only [if_neg hb]
   refine tz2 b fun e=>hb ?_
   rw [hSx]
   refine ⟨?_,e⟩
   rcases ZaE b w.heap.size with g|g
   ·exact g
   ·rw [VD b g] at e;exact absurd e.symm (uq _)
 have VE:∀ b,Tc b≠l9 R.K→Tz b=Tc b:=fun b hb=>by rw [tz2 b (by rw [ty3 b hb];exact hb),ty3 b hb]
 have hro:∀ b,Tc b=.ro→b<w.heap.size→Tz b=.ro∧w.heap[b]?=w.heap[b]?:=fun b e _=>⟨by rw [VE b (by rw [e];exact (qm _).symm),e],rfl⟩
 -- the round's own state
 have hJy:C.J s.ys.length Ty w:=hC.keep _ _ _ _ _ ⟨ze _,rfl,rfl,rfl,fun _ _ _=>rfl,fun b e=>by rw [ty3 b (by rw [e];exact (qm _).symm),e],fun b _ e=>by rw [ty3 b (by rw [e];exact (uq _).symm),e]⟩ h.j
 have hbz:∀ (o:Nat) b,s.boxes[o]?=some b→ig Tz w (σ1 o) o b:=fun o b ho=>by
  have hb:=h.bx o b ho
  have hT0:Tc (σ1 o)≠l9 R.K:=by
   obtain ⟨_,_,_,_,h3,_⟩:=hb
   rw [h3];split<;>simp [l9]
  exact hb.frame ⟨VE _ hT0,rfl⟩ (fun j b e _=>⟨by rw [VE b (by rw [e];simp [l9]),e],rfl⟩) hro
 have hfz:∀ b,w.heap.size≤b→Tz b=.other:=fun b hb=>by rw [tz2 b (by rw [VD b hb];exact (uq _).symm),VD b hb]
 obtain ⟨hpl,hfs⟩:=lg.params (T:=Tz) (w:=w) h1 (h.fs.keep hro fun _ _=>rfl) hvs (fun i p v hp hv=>(Jh (fun b hcl=>hcl) (hrep i p v hp hv)).frame fun b ⟨hb,hcl⟩ hbl=>⟨by
  rcases h.cp b hbl (by rw [hb];simp) with g|⟨_,g,_⟩
  ·rw [tz2 b (by rw [ty1 b ⟨g,hb,hcl⟩];exact (qm _).symm),ty1 b ⟨g,hb,hcl⟩]
  ·exact (hro b g hbl).1,rfl⟩)
 have Gq:aF R.L σ1 Tz { s with slots:=sl } { tmps:=(ps.toList.zip vs).foldl (fun t (p,v)=>t.setIfInBounds p v) R.tmps,defers:=[] } w:=hfs.sim h.nbx hbz hfz
 have hOk:∀ lp,(uS C R.K R.l Sx w lp).Ok P R.L:=fun lp=>adT hC hSl hlS
 have hJ0:(uS C R.K R.l Sx w (rc .ready none)).J s.ys.length Tz w:=⟨tz1,fun _ _ _=>rfl,h.rl,ze _,by rw [hre];exact hJy⟩
 have ga:=hR.grow _ _ _ _ _ ha h2
 have gb:=hR.grow _ _ _ _ _ hb h3
 have hy:=run_yield (P:=P) (args:=vs.toArray) h.rl (by rw [hrc];simp only [ZaK];rw [← hpl];simp)
 refine ⟨fn,_,ca,cb,by rw [hrc] at hy;exact hy,fun n=>roundIn_of_wpIn (show Fence.wide.fn fn from trivial) ?_⟩
 have hfold:(ps.zip vs.toArray).foldl (fun t (p,v)=>t.setIfInBounds p v) R.tmps=(ps.toList.zip vs).foldl (fun t (p,v)=>t.setIfInBounds p v) R.tmps:=by
  rw [← Array.foldl_toList];simp
 have adV:((ps.zip vs.toArray).foldl (fun tmps (x:Tmp×Value)=>match x with|(t,a)=>tmps.setIfInBounds t a) R.tmps)=(ps.toList.zip vs).foldl (fun t (p,v)=>t.setIfInBounds p v) R.tmps:=hfold
 rw [adV]
 refine wpIn_mono (hR.wp (.inr ⟨R.l,rfl⟩) (PI C R.K R.l Sx w (rc .ready none)) (hOk _) ca qL _ .normal sa ha h2 h.stp (gb.2.1.trans hX) σ1 Tz _ w Gq hJ0) ?_
 rintro xx aa wa ⟨rfl,σa,Ta,msa,p1,p2,p3,p4,_,_⟩
 obtain ⟨q1,q2,q3,q4,q5⟩:=p2
 have hla:=lt_of_heap q3
 refine ⟨wa.putObj R.l (.loop (rc .busy none)),by have:=run_beginRound (P:=P) q3 (by rw [hrc]);rw [hrc] at this ⊢;exact this,?_⟩
 have hpo:∀ b,b≠R.l→(wa.putObj R.l (.loop (rc .busy none))).heap[b]?=wa.heap[b]?:=fun b hb=>World.putObj_heap_other hb
 have hps:(wa.putObj R.l (.loop (rc .busy none))).heap.size=wa.heap.size:=by simp [World.putObj]
 have hsa:aF R.L σa Ta sa aa (wa.putObj R.l (.loop (rc .busy none))):=p1.sees ⟨by rw [hps];exact ze _,fun b hb _=>hpo b fun e=>hb (by rw [e];exact q1 _ hlS)⟩
 have hJa:(uS C R.K R.l Sx w (rc .busy none)).J sa.ys.length Ta (wa.putObj R.l (.loop (rc .busy none))):=by
  refine ⟨q1,fun b hb hbl=>(hpo b hbl).trans (q2 b hb hbl),World.putObj_heap_same hla,by rw [hps];exact q4,?_⟩
  refine hC.keep _ _ _ wa _ ⟨by rw [hps];exact ze _,rfl,rfl,rfl,fun b hb ht=>hpo b fun e=>?_,fun _ e=>e,fun _ _ e=>e⟩ q5
  subst e
  simp only [if_pos hlS] at ht
  rcases ht with e|e<;>simp [l9] at e
 refine wpIn_mono (hR.wp (.inr ⟨R.l,rfl⟩) (PI C R.K R.l Sx w (rc .busy none)) (hOk _) cb bd _ e sb hb h3 (ga.2.2.trans h.stp) hX σa Ta _ _ hsa hJa) ?_
 rintro xx ab wb ⟨rfl,σb,Tb,msb,r1,r2,r3,r4,_,_⟩
 obtain ⟨t1,t2,t3,t4,t5⟩:=r2
 have hlb:=lt_of_heap t3
 have hend:∀ j:Option Code,(Instr.endRound R.l j).run P wb=.ok (.bool j.isNone) (wb.putObj R.l (.loop (rc (if j.isNone then .ready else .done) j))):=fun j=>by
  have:=run_endRound (P:=P) j t3
  rw [hrc] at this ⊢
  exact this
 obtain ⟨w3,hw3⟩:∃ w3,w3=wb.putObj R.l (.loop (rc (if (rF e).isNone then .ready else .done) (rF e))):=⟨_,rfl⟩
 have hpb:∀ b,b≠R.l→w3.heap[b]?=wb.heap[b]?:=fun b hb=>by rw [hw3];exact World.putObj_heap_other hb
 have agz:w3.heap.size=wb.heap.size:=by rw [hw3];simp [World.putObj]
 have hsz:w.heap.size≤w3.heap.size:=by rw [agz];exact t4
 -- what is read only stays
 have stay:∀ b,Tz b=.ro→b<w.heap.size→Tb b=.ro∧w3.heap[b]?=w.heap[b]?:=fun b hz hbl=>by
  have hbS:¬ Sx b:=fun hs=>by rw [tz1 b hs] at hz;cases hz
  have VF:b≠R.l:=fun e=>hbS (by rw [e];exact hlS)
  have e1:=p4.ro b hz
  have e2:=r4.ro b e1
  refine ⟨e2,?_⟩
  rw [hpb b VF,r4.same b (by rw [hps];exact Zag hbl p4.size) e1,hpo b VF,p4.same b hbl hz]
 have hnS:∀ b,Tb b≠.other→¬ Sx b:=fun b hb hs=>hb (t1 b hs)
 have IX:∀ b,¬ Sx b→(if Sx b then l9 R.K else Tb b)=Tb b:=fun b hb=>if_neg hb
 have Gs:∀ b,Tc b=.ro→b<w.heap.size→(fun b=>if Sx b then l9 R.K else Tb b) b=.ro∧w3.heap[b]?=w.heap[b]?:=fun b hb hbl=>by
  obtain ⟨e1,e2⟩:=stay b (hro b hb hbl).1 hbl
  exact ⟨by show (if Sx b then l9 R.K else Tb b)=.ro;rw [IX b (hnS b (by rw [e1];simp)),e1],e2⟩
 have agA:∀ b,Tc b=.ro→b<w.heap.size:=fun b hb=>by
  rcases ZaE b w.heap.size with g|g
  ·exact g
  ·rw [h.fr b g] at hb;cases hb
 have hσ:∀ o,o<R.nb→σb o=σ1 o:=fun o ho=>by
  have k1:R.nb≤s.boxes.length:=h.nbx
  have k2:s.boxes.length≤sa.boxes.length:=ga.1
  rw [r3 o (by omega),p3 o (by show o<s.boxes.length;omega)]
 have adW:Tb R.l=.other:=t1 _ hlS
 have hfin:CS C R (rc (if (rF e).isNone then .ready else .done) (rF e)) sb T w3:=by
  refine ⟨σb,fun b=>if Sx b then l9 R.K else Tb b,⟨h.fs.keep Gs hσ,fun o b ho=>?_,fun b hb=>?_,?_,?_,?_,fun o ho=>(hσ o ho).trans (h.sg o ho),?_,fun b hb ht=>?_,?_,if_pos hlS,h.ro,fun d hd=>?_⟩⟩
  ·have hbx:=r1.boxes o b ho
   have hne:Tb (σb o)≠.other:=by
    obtain ⟨_,_,_,_,h3,_⟩:=hbx
    rw [h3];split<;>simp
   refine hbx.frame ⟨IX _ (hnS _ hne),hpb _ fun e=>hne (by rw [e];exact adW)⟩ (fun j b e _=>⟨by rw [IX b (hnS b (by rw [e];simp)),e],hpb b fun e2=>by rw [e2,adW] at e;cases e⟩) (fun b e _=>⟨by rw [IX b (hnS b (by rw [e];simp)),e],hpb b fun e2=>by rw [e2,adW] at e;cases e⟩)
  ·have:¬ Sx b:=fun hs=>by have:=hSl b hs;omega
   rw [IX b this]
   exact r1.fresh b (by omega)
  ·refine hC.keep _ _ _ wb _ ⟨by rw [agz];exact ze _,by rw [hw3];rfl,by rw [hw3];rfl,by rw [hw3];rfl,fun b hb ht=>hpb b fun e=>?_,fun _ e=>e,fun _ _ e=>e⟩ t5
   subst e
   simp only [if_pos hlS] at ht
   rcases ht with e|e<;>simp [l9] at e
  ·have:=ga.1;have:=gb.1;have:=h.nbx
   have e1:s.boxes.length≤sa.boxes.length:=ga.1
   omega
  ·exact gb.2.2.trans (ga.2.2.trans h.stp)
  ·exact h.sy.trans ⟨hsz,fun b hb=>(Gs b hb (agA b hb)).1,fun b hbl hb=>(Gs b hb hbl).2⟩
  ·have hbl:b<w.heap.size:=by
    rcases ZaE b w.heap.size with g|g
    ·exact g
    ·exact absurd (hT b g) ht
   have conv:Tz b=.ro→(fun b=>if Sx b then l9 R.K else Tb b) b=.ro∧w3.heap[b]?=w.heap[b]?:=fun hz=>by
    obtain ⟨e1,e2⟩:=stay b hz hbl
    exact ⟨by show (if Sx b then l9 R.K else Tb b)=.ro;rw [IX b (hnS b (by rw [e1];simp)),e1],e2⟩
   rcases h.cp b hbl ht with g|⟨g1,g2,g3⟩
   ·by_cases hc:T b=.ro∧bY w b
    ·have ey:=ty1 b ⟨g,hc.1,hc.2⟩
     obtain ⟨e1,e2⟩:=conv (by rw [tz2 b (by rw [ey];exact (qm _).symm),ey])
     exact .inr ⟨hc.1,e1,.inr (hc.2.same e2)⟩
    ·have ey:Ty b=l9 R.K:=by rw [ty2 b fun q=>hc q.2];exact g
     exact .inl (if_pos (by rw [hSx];exact ⟨hbl,ey⟩))
   ·obtain ⟨e1,e2⟩:=conv (hro b g2 hbl).1
    exact .inr ⟨g1,e1,g3.imp id fun q=>q.same e2⟩
  ·rw [hw3];exact World.putObj_heap_same hlb
  ·obtain ⟨k1,k2,k3⟩:=h.dd d hd
   obtain ⟨e1,e2⟩:=Gs d k2 (lt_of_heap k1)
   exact ⟨by rw [e2];exact k1,e1,k3⟩
 have EF:oL T w w3:=by
  refine ⟨hsz,fun b hb hbl=>?_⟩
  have VF:b≠R.l:=fun e=>hb (by rw [e];exact h.ro)
  by_cases hs:Sx b
  ·rw [hpb b VF];exact t2 b hs VF
  ·refine (stay b ?_ hbl).2
   rcases h.cp b hbl hb with g|⟨g1,g2,g3⟩
   ·by_cases hc:T b=.ro∧bY w b
    ·have ey:=ty1 b ⟨g,hc.1,hc.2⟩
     rw [tz2 b (by rw [ey];exact (qm _).symm),ey]
    ·exact absurd (by rw [hSx];exact ⟨hbl,by rw [ty2 b fun q=>hc q.2];exact g⟩) hs
   ·exact (hro b g2 hbl).1
 rw [hw3] at hfin EF
 cases e with
 |normal=>exact ⟨_,_,hend none,rfl,hfin,EF⟩
 |ret=>exact ⟨_,_,hend (some .ret),rfl,hfin,EF⟩
 |exit i=>exact ⟨_,_,hend (some (.exit i)),rfl,hfin,EF⟩
 |nC t n=>exact absurd rfl (he t n)
end
section
variable {P:Program}{F:Fence}{C:Ctx}{n L nb:Nat}{σ σ':Nat→Nat}{T T' Tc T1 T2:Tags}{st st' st1 s:St}{a a1:Act}{w w' w1:World}{R:Rg}{lp:Loop}
 {rec:aj→St→Option (Ex×St)} {env:Env} {e:Ex}
def wY (P:Program)(env:Env):Prop:=∀ f fn,env f=some (.code fn)→callable P f=true∧∃ g c,P.funcs[f]?=some g∧g.body=some c∧mC P c fn.body=true∧g.ntmps=fn.ntmps∧fn.nargs≤fn.ntmps∧(fn.results.isEmpty=true→g.results=#[])
theorem sU {fn:Func}{R:Ending→World→Prop}{B:Nat}:∀ {ms:List Nat} {w:World},ms.Nodup→(∀ r∈ms,B≤r∧w.heap[r]?=some (.deferred (some []))) →
  (∀ w',w'.os=w.os→w'.tape=w.tape→w'.output=w.output→w'.heap.size=w.heap.size→(∀ b,b ∉ ms→w'.heap[b]?=w.heap[b]?)→∃ v,(results fn a.tmps).run P w'=.ok v w'∧R (.returned v) w') →
  LeavesInM Fence.wide 0 P fn a.tmps R (ms.map jB) .returning w
 |[],w,_,_,h=>by
  simp only [Zaw,LeavesInM,LeavesIn]
  exact h w rfl rfl rfl rfl fun _ _=>rfl
 |r::ms,w,hnd,hms,h=>by
  simp only [Zai,LeavesInM]
  obtain ⟨hn1,hn2⟩:=Zb5.1 hnd
  obtain ⟨k1,k2⟩:=hms r (by simp)
  have hr:r<w.heap.size:=(zr.1 k2).1
  have hput:∀ b,b≠r→(w.putObj r (.deferred none)).heap[b]?=w.heap[b]?:=fun b hb=>by simp [World.putObj,ZaN,Ne.symm hb]
  refine ⟨by simp,.inl ⟨r,_,rfl,run_takeDeferred k2,sU (B:=B) hn2 (fun r' hr'=>?_) fun w' e1 e2 e3 e4 e5=>h w' e1 e2 e3 (by rw [e4];simp [World.putObj]) fun b hb=>?_⟩⟩
  ·obtain ⟨q1,q2⟩:=hms r' (by simp [hr'])
   exact ⟨q1,by rw [hput r' (fun e=>hn1 (e ▸ hr'))];exact q2⟩
  ·simp only [ZaL,not_or] at hb
   rw [e5 b hb.2,hput b hb.1]
theorem EL {slots:List AV}{ps:List Nat}{qL bd:aj}:∀ (xs:List (List PV)) (k:Nat) (s:St) e m s',rounds rec slots ps qL bd nb k xs s=some (some (e,m),s')→e≠.normal∧∀ t n,e≠.nC t n
 |[],k,s,e,m,s',h=>by simp [rounds] at h
 |x::xs,k,s,e,m,s',h=>by
  unfold rounds at h
  replace h:=bind_some h
  obtain ⟨sl,h1,h⟩:=h
  replace h:=bind_some h
  obtain ⟨⟨e1,s1⟩,h2,h⟩:=h
  simp only at h
  split at h
  case h_2=>cases h
  replace h:=bind_some h
  obtain ⟨⟨e2,s2⟩,h3,h⟩:=h
  simp only at h
  split at h
  ·split at h
   ·exact EL xs (k+1) _ e m s' h
   ·cases h
  ·cases h
  ·rename_i hne hne2
   simp only [ZD.injEq,Zar.injEq] at h
   rw [← h.1.1]
   exact ⟨fun e=>hne e,fun t n e=>hne2 t n e⟩
def VG:Option (Ex×Nat)→Ex
 |none=>.normal
 |some (e,_)=>e
def itC (C:Ctx)(R:Rg)(rec:aj→St→Option (Ex×St))(rc:LoopState→Option Code→Loop)(ps:List Nat)(qL bd:aj)(xs:List (List PV))(stop:Option Nat)(r:Option (Ex×Nat))(s1:St):Ctx where
 X:=xs
 stop:=some stop
 J k T w:=jA T w∧((∃ s,rounds rec R.slots ps qL bd R.nb k (xs.drop k) s=some (r,s1)∧CS C R (rc .ready none) s T w) ∨
  (∃ e,r=some (e,k)∧xs.length=k∧CS C R (rc .done (rF e)) s1 T w))
theorem adX (hR:oH P rec)(hC:C.Ok P R.L){ca cb:Code}{qL bd:aj}(ha:mC P ca qL=true)(hb:mC P cb bd=true){fn:FuncId}{ps:Array Tmp}{dd:Nat}{rc:LoopState→Option Code→Loop}
  (hrc:rc=fun st pe=>{ state:=st,pending:=pe,fn:=fn,tmps:=R.tmps,params:=ps,assign:=ca,body:=cb,defers:=dd }) (hD:R.l ∉ R.D) {xs:List (List PV)} {stop:Option Nat} {r:Option (Ex×Nat)} {s1:St}
  (hcons:(stop=none∧r=none)∨∃ e m,stop=some m∧r=some (e,m)∧xs.length=m) (hX:s1.ys <+: C.X):(itC C R rec rc ps.toList qL bd xs stop r s1).Ok P R.l:=by
 refine ⟨fun k T T' w w' hc ⟨hG,h⟩=>⟨hG.frame fun b e hb=>⟨hc.ro b e,hc.same b hb (.inl e)⟩,?_⟩,fun k T w h=>h.1,fun q k T w x vs hs hx hf h hlen hrep=>?_⟩
 ·rcases h with ⟨s,h1,h2⟩|⟨e,h1,h2,h3⟩
  ·exact .inl ⟨s,h1,h2.keep hC hc⟩
  ·exact .inr ⟨e,h1,h2,h3.keep hC hc⟩
 ·have hq:q=stop:=(ZD.inj hs).symm
  subst hq
  have hx':xs[k]?=some x:=hx
  have hk:k<xs.length:=(Z3.1 hx').1
  obtain ⟨hG,h⟩:=h
  rcases h with ⟨s,h1,h2⟩|⟨e,h1,h2,h3⟩
  case inr=>omega
  have hdrop:xs.drop k=x::xs.drop (k+1):=by
   rw [zw hk]
   congr 1
   rw [ZZ hk] at hx'
   exact ZD.inj hx'
  rw [hdrop] at h1
  unfold rounds at h1
  replace h1:=bind_some h1
  obtain ⟨sl,g1,h1⟩:=h1
  replace h1:=bind_some h1
  obtain ⟨⟨e1,sa⟩,g2,h1⟩:=h1
  simp only at h1
  split at h1
  case h_2=>cases h1
  replace h1:=bind_some h1
  obtain ⟨⟨e2,sb⟩,g3,h1⟩:=h1
  simp only at h1
  obtain ⟨σ0,Tc0,hcs0⟩:=h2
  have hnb:=hcs0.nbx
  have h2:CS C R (rc .ready none) s T w:=⟨σ0,Tc0,hcs0⟩
  have ga:=hR.grow _ _ _ _ _ ha g2
  have gb:=hR.grow _ _ _ _ _ hb g3
  split at h1
  ·-- it goes on
   split at h1
   case isFalse=>cases h1
   rename_i hle
   have hgr:=sS hR.grow ha hb (xs.drop (k+1)) (k+1) _ r s1 h1 (by simp;omega)
   obtain ⟨f,tm,Jg,bd',q1,q2⟩:=Ji hR hC ha hb hrc h2 hf hD hlen hrep g1 g2 g3 (hgr.2.1.trans hX) (fun _ _ e=>by cases e)
   refine ⟨f,tm,Jg,bd',q1,fun n=>(q2 n).mono fun en w3 hq=>?_⟩
   obtain ⟨t1,t2,t3⟩:=hq
   have hgo:sK q k=true:=by
    rcases hcons with ⟨e1,_⟩|⟨e,m,e1,e2,e3⟩
    ·rw [e1];rfl
    ·rw [e1]
     have:k+1≠m:=fun he=>by
      have:xs.drop (k+1)=[]:=Za9 (by omega)
      rw [this] at h1
      simp only [rounds,ZD.injEq,Zar.injEq] at h1
      rw [e2] at h1
      cases h1.1
     simp [sK,this]
   refine ⟨by rw [t1,hgo];rfl,⟨hG.frame fun b e hb=>⟨e,t3.2 b (by rw [e];simp) hb⟩,.inl ⟨_,h1,t2.take⟩⟩,t3⟩
  ·cases h1
  ·rename_i hne hne2
   simp only [ZD.injEq,Zar.injEq] at h1
   obtain ⟨hr1,hr2⟩:=h1
   subst hr2
   obtain ⟨f,tm,Jg,bd',q1,q2⟩:=Ji hR hC ha hb hrc h2 hf hD hlen hrep g1 g2 g3 hX (fun t n e=>hne2 t n e)
   refine ⟨f,tm,Jg,bd',q1,fun n=>(q2 n).mono fun en w3 hq=>?_⟩
   obtain ⟨t1,t2,t3⟩:=hq
   have hj:(rF e2).isNone=false:=by cases e2<;>first|rfl|exact absurd rfl hne|exact absurd rfl (hne2 _ _)
   rcases hcons with ⟨_,e1⟩|⟨e,m,e1,e2',e3⟩
   ·rw [e1] at hr1;cases hr1
   ·have hm:m=k+1:=by rw [e2'] at hr1;cases hr1;rfl
    have hgo:sK q k=false:=by rw [e1,hm];simp [sK]
    rw [hj] at t1 t2
    refine ⟨by rw [t1,hgo],⟨hG.frame fun b e hb=>⟨e,t3.2 b (by rw [e];simp) hb⟩,.inr ⟨e2,hr1.symm,by omega,t2⟩⟩,t3⟩
theorem adY (hC:C.Ok P R.L)(h:CS C R lp s T w){ms:List Nat}(hms:∀ r∈ms,R.B0≤r∧T r=.ro∧w.heap[r]?=some (.deferred (some [])))(hw:∀ b,b ∉ ms→w'.heap[b]?=w.heap[b]?)(hsz:w'.heap.size=w.heap.size)(hos:w'.os=w.os)(htp:w'.tape=w.tape)(hou:w'.output=w.output)
  (hlp:lp.state≠.busy) {T0:Tags} (hst:Still T0 R.T1) {ds:List Deferred} (hDl:∀ d∈R.D,R.w0.heap.size≤d) (hDn:R.D.Nodup) (hlD:R.l ∉ R.D) :
  ∃ w4,(Instr.endLoop R.l).run P w'=.ok lp.pending w4∧After C R.L R.nb R.σ0 T0 R.w0 { s with slots:=R.slots } ds { tmps:=R.tmps,defers:=R.D.map jB++ds } w4:=by
 obtain ⟨σ,Tc,h⟩:=h
 have ajt:∀ r∈ms,Tc r=l9 R.K:=fun r hr=>by
  obtain ⟨g1,g2,g3⟩:=hms r hr
  rcases h.cp r (lt_of_heap g3) (by rw [g2];simp) with g|⟨_,_,g⟩
  ·exact g
  ·rcases g with g|⟨arr,E,q,g⟩
   ·omega
   ·rw [g3] at g;cases g
 have hl:w'.heap[R.l]?=some (.loop lp):=by
  rw [hw R.l fun hr=>by have:=(hms _ hr).2.1;rw [h.ro] at this;cases this];exact h.rl
 refine ⟨_,run_endLoop (P:=P) hl hlp,?_⟩
 obtain ⟨w4,hw4⟩:∃ w4,w4=w'.putObj R.l (.loop { lp with state:=.exhausted }):=⟨_,rfl⟩
 rw [← hw4]
 have hsame:∀ b,Tc b≠l9 R.K→w4.heap[b]?=w.heap[b]?:=fun b hb=>by
  rw [hw4,World.putObj_heap_other (fun e=>hb (by rw [e];exact h.rt)),hw b fun hr=>hb (ajt b hr)]
 have akG:w4.heap.size=w.heap.size:=by rw [hw4];simp [World.putObj,hsz]
 have hw1:∀ b,Tc b=.ro→b<w.heap.size→Tc b=.ro∧w4.heap[b]?=w.heap[b]?:=fun b e _=>⟨e,hsame b (by rw [e];exact (qm _).symm)⟩
 refine ⟨σ,Tc,R.D,(h.fs.keep hw1 fun _ _=>rfl).sim h.nbx (fun o b ho=>?_) (fun b hb=>h.fr b (by omega)),?_,h.sg,?_,rfl,fun d hd=>⟨hDl d hd,(h.dd d hd).2.1,?_⟩,hDn⟩
 ·have hb:=h.bx o b ho
  have hT:Tc (σ o)≠l9 R.K:=by
   obtain ⟨_,_,_,_,h3,_⟩:=hb
   rw [h3];split<;>simp [l9]
  exact hb.frame ⟨rfl,hsame _ hT⟩ (fun j b e _=>⟨e,hsame b (by rw [e];simp [l9])⟩) hw1
 ·refine hC.keep _ _ _ w _ ⟨by omega,by rw [hw4];exact hos,by rw [hw4];exact htp,by rw [hw4];exact hou,fun b _ ht=>hsame b ?_,fun _ e=>e,fun _ _ e=>e⟩ h.j
  rcases ht with e|e<;>rw [e]<;>simp [l9]
 ·refine ((hst.mX R.w0).stays.trans h.sy).trans ⟨by omega,fun b e=>e,fun b _ e=>hsame b (by rw [e];exact (qm _).symm)⟩
 ·rw [hsame d (by rw [(h.dd d hd).2.1];exact (qm _).symm)];exact (h.dd d hd).1
set_option maxHeartbeats 1000000 in
theorem Jj (hR:oH P rec)(hI:wY P env)(hC:C.Ok P R.L){ca cb:Code}{qL bd:aj}(ha:mC P ca qL=true)(hb:mC P cb bd=true){fnr:FuncId}{ps:Array Tmp}{dd:Nat}{rc:LoopState→Option Code→Loop}
  (hrc:rc=fun st pe=>{ state:=st,pending:=pe,fn:=fnr,tmps:=R.tmps,params:=ps,assign:=ca,body:=cb,defers:=dd }) {xs:List (List PV)} {stop:Option Nat} {r:Option (Ex×Nat)} {s1:St}
  (hcons:(stop=none∧r=none)∨∃ e m,stop=some m∧r=some (e,m)∧xs.length=m) (hX:s1.ys <+: C.X)
  {f:Nat} {caps:List PV} {arr:Array Value} (hit:jl rec env f caps stop=some xs) (hrd:rounds rec R.slots ps.toList qL bd R.nb 0 xs s=some (r,s1))
  (hsl:R.slots.length=R.K) (hfs:lg R.L R.nb R.σ0 R.T1 R.w0 R.slots R.tmps) (hbx:∀ (o:Nat) b,s.boxes[o]?=some b→ig R.T1 R.w0 (R.σ0 o) o b) (hnb:R.nb=s.boxes.length) (hfr:∀ b,R.w0.heap.size≤b→R.T1 b=.other) (hJ:C.J s.ys.length R.T1 R.w0) (hst:s.stop=C.stop)
  (ha1:arr.size=caps.length) (ha2:∀ (i:Nat) p v,caps[i]?=some p→arr[i]?=some v→aA (fun b=>R.T1 b=.ro) R.w0 p v)
  {W:World} (hB:R.B0=W.heap.size) (hW1:R.w0.heap.size≤W.heap.size) (hW2:∀ b,b<R.w0.heap.size→W.heap[b]?=R.w0.heap[b]?) (hW3:W.os=R.w0.os∧W.tape=R.w0.tape∧W.output=R.w0.output) (hl:W.heap[R.l]?=some (.loop (rc .ready none))) (hl0:R.w0.heap.size≤R.l)
  (hD1:∀ d∈R.D,R.w0.heap.size≤d∧W.heap[d]?=some (.deferred (some []))) (hDn:R.D.Nodup) (hlD:R.l ∉ R.D)
  {T0:Tags} (hstill:Still T0 R.T1) {ds:List Deferred} {m:Nat} {Q:Exit→Act→World→Prop} (hF:jV F)
  (hQ:∀ w4,After C R.L R.nb R.σ0 T0 R.w0 { s1 with slots:=R.slots } ds { tmps:=R.tmps,defers:=R.D.map jB++ds } w4→Q (toX (VG r)) { tmps:=R.tmps,defers:=R.D.map jB++ds } w4) :
  CallsIn F m P f (#[.func (.yield R.l) #[] #[]]++arr) W (rangePost F n P R.l Q { tmps:=R.tmps,defers:=R.D.map jB++ds }):=by
 refine hF.calls ?_
 -- the text of the iterator
 unfold jl at hit
 split at hit
 case h_2=>cases hit
 rename_i fn hfn
 split at hit
 case isFalse=>cases hit
 rename_i hna
 replace hit:=bind_some hit
 obtain ⟨⟨e2,st2⟩,hrun,hit⟩:=hit
 have hne:∀ i,e2≠.exit i:=fun i e=>by subst e;cases hit
 have hys:st2.ys=xs:=by cases e2<;>first|exact ZD.inj hit|cases hit
 obtain ⟨_,g,c,k1,k2,k3,k4,k5,k6⟩:=hI f fn hfn
 refine (callsIn_wide (n:=0)).1 (callsIn_of_wp_marks k1 k2 trivial ?_)
 rw [k4]
 have hll:=lt_of_heap hl
 -- what each side stands on
 obtain ⟨Ti,hTi⟩:∃ Ti:Tags,Ti=fun b=>if b<R.w0.heap.size∧R.T1 b=.ro then .ro else .other:=⟨_,rfl⟩
 have ti1:∀ b,R.T1 b=.ro→b<R.w0.heap.size→Ti b=.ro:=fun b e hb=>by rw [hTi];exact if_pos ⟨hb,e⟩
 have ti2:∀ b,R.w0.heap.size≤b→Ti b=.other:=fun b hb=>by rw [hTi];exact if_neg (by omega)
 have ti3:∀ b,Ti b≠.other→b<R.w0.heap.size∧R.T1 b=.ro:=fun b hb=>by
  rw [hTi] at hb
  by_cases e:b<R.w0.heap.size∧R.T1 b=.ro
  ·exact e
  ·exact absurd (if_neg e) hb
 obtain ⟨Tn,IX⟩:∃ Tn:Tags,Tn=fun b=>if b=R.l then l9 R.K else if b∈R.D then .ro else R.T1 b:=⟨_,rfl⟩
 have tn1:∀ b,b<R.w0.heap.size→Tn b=R.T1 b:=fun b hb=>by
  rw [IX]
  have h1:b≠R.l:=by omega
  have h2:b ∉ R.D:=fun hd=>by have:=(hD1 b hd).1;omega
  simp only [if_neg h1,if_neg h2]
 have tnl:Tn R.l=l9 R.K:=by rw [IX];exact if_pos rfl
 have tnD:∀ d∈R.D,Tn d=.ro:=fun d hd=>by
  rw [IX]
  have:d≠R.l:=fun e=>hlD (by rw [← e];exact hd)
  simp only [if_neg this,if_pos hd]
 have hro:∀ b,R.T1 b=.ro→b<R.w0.heap.size→Tn b=.ro∧W.heap[b]?=R.w0.heap[b]?:=fun b e hb=>⟨by rw [tn1 b hb,e],hW2 b hb⟩
 have agC:∀ b,R.T1 b=.ro→b<R.w0.heap.size:=fun b e=>by
  rcases ZaE b R.w0.heap.size with q|q
  ·exact q
  ·rw [hfr b q] at e;cases e
 have hCS:CS C R (rc .ready none) s Ti W:=by
  refine ⟨R.σ0,Tn,⟨hfs.keep hro fun _ _=>rfl,fun o b ho=>?_,fun b hb=>?_,?_,by omega,hst,fun _ _=>rfl,⟨hW1,fun b e=>(hro b e (agC b e)).1,fun b hb e=>hW2 b hb⟩,fun b _ ht=>?_,hl,tnl,ti2 _ hl0,fun d hd=>⟨(hD1 d hd).2,tnD d hd,ti2 _ (hD1 d hd).1⟩⟩⟩
  ·have hb:=hbx o b ho
   exact hb.frame ⟨tn1 _ hb.lt,hW2 _ hb.lt⟩ (fun j b e hb=>⟨by rw [tn1 b hb,e],hW2 b hb⟩) hro
  ·have h1:b≠R.l:=by omega
   have h2:b ∉ R.D:=fun hd=>by have:=lt_of_heap (hD1 b hd).2;omega
   rw [IX]
   simp only [if_neg h1,if_neg h2]
   exact hfr b (by omega)
  ·exact hC.keep _ _ _ R.w0 _ ⟨hW1,hW3.1,hW3.2.1,hW3.2.2,fun b hb _=>hW2 b hb,fun b e=>(hro b e (agC b e)).1,fun b hb e=>by rw [tn1 b hb,e]⟩ hJ
  ·obtain ⟨q1,q2⟩:=ti3 b ht
   exact .inr ⟨ti1 b q2 q1,by rw [tn1 b q1,q2],.inl (by omega)⟩
 have hOk:=adX hR hC ha hb hrc hlD hcons hX
 have hargs:(#[Value.func (.yield R.l) #[] #[]]++arr).size=caps.length+1:=by simp;omega
 have Gq:aF R.l (fun _=>0) Ti ⟨.lY::(caps.map .pv++Zao (fn.ntmps - (caps.length+1)) .any),[],[],some stop⟩
   { tmps:=(#[Value.func (.yield R.l) #[] #[]]++arr)++ZaT (fn.ntmps - (#[Value.func (.yield R.l) #[] #[]]++arr).size) undef,defers:=[] } W:=by
  refine ⟨by simp;omega,fun t av v ht hv=>?_,fun o bx ho=>by simp at ho,fun b hb=>ti2 b (by omega)⟩
  simp only at ht hv
  cases t with
  |zero =>
   simp only [Zax,ZD.injEq] at ht
   subst ht
   have:v=.func (.yield R.l) #[] #[]:=by
    rw [ZcX,ZaY (by simp)] at hv
    simpa using hv.symm
   exact this
  |succ t =>
   rw [Zbf] at ht
   rw [ZcX,Array.getElem?_append_right (by simp)] at hv
   simp only [ZaK,List.length_cons,zm,Nat.zero_add,Nat.add_sub_cancel] at hv
   rcases ZaE t caps.length with q|q
   ·rw [Zab (by simpa using q),zc,ZZ q] at ht
    rw [ZaY (by omega)] at hv
    cases ht
    exact (ha2 t _ v (ZZ q) hv).frame fun b e hb=>⟨ti1 b e hb,hW2 b hb⟩
   ·rw [Zac (by simpa using q),Zbt] at ht
    split at ht
    ·cases ht;trivial
    ·cases ht
 refine wpIn_mono (hR.wp (F:=Fence.wide) (L:=R.l) (C:=itC C R rec rc ps.toList qL bd xs stop r s1) (n:=0) (.inl rfl) (Ctx.wW _) hOk c fn.body _ e2 st2 k3 hrun rfl (by rw [hys];exact Zbs _) _ Ti _ W Gq ⟨(hC.glob _ _ _ hJ).frame fun b e hb=>⟨ti1 b e hb,hW2 b hb⟩,.inl ⟨s,hrd,hCS⟩⟩) ?_
 rintro x a' w2 ⟨rfl,σ2,T2,ms,q1,q2,q3,q4,q5,q6⟩
 have key:LeavesInM Fence.wide 0 P g a'.tmps (rangePost F n P R.l Q { tmps:=R.tmps,defers:=R.D.map jB++ds }) a'.defers .returning w2:=by
  rw [q5,ZaB]
  refine sU (B:=W.heap.size) q6.2 (fun d hd=>⟨(q6.1 d hd).1,(q6.1 d hd).2.2⟩) fun w3 e1 e3 e4 e5 e6=>?_
  have hgr:g.results=#[]:=k6 hna.2
  refine ⟨.tuple #[],?_,?_⟩
  ·unfold results
   rw [hgr]
   simp
  ·have fin:∀ lp,CS C R lp s1 T2 w2→lp.state≠.busy→∃ w4,(Instr.endLoop R.l).run P w3=.ok lp.pending w4∧After C R.L R.nb R.σ0 T0 R.w0 { s1 with slots:=R.slots } ds { tmps:=R.tmps,defers:=R.D.map jB++ds } w4:=fun lp hcs hlp =>
    adY hC hcs (fun d hd=>⟨by rw [hB];exact (q6.1 d hd).1,(q6.1 d hd).2.1,(q6.1 d hd).2.2⟩) e6 e5 e1 e3 e4 hlp hstill (fun d hd=>(hD1 d hd).1) hDn hlD
   rw [hys] at q2
   rcases q2.2 with ⟨s',h1,h2⟩|⟨e,h1,h2,h3⟩
   ·rw [List.drop_length] at h1
    simp only [rounds,ZD.injEq,Zar.injEq] at h1
    obtain ⟨hr,hs⟩:=h1
    subst hs
    obtain ⟨w4,t1,t2⟩:=fin _ h2 (by rw [hrc];simp)
    refine ⟨none,w4,by rw [hrc] at t1;exact t1,?_⟩
    have:=hQ w4 t2
    rw [← hr] at this
    exact this
   ·obtain ⟨w4,t1,t2⟩:=fin _ h3 (by rw [hrc];simp)
    have:=hQ w4 t2
    rw [h1] at this
    obtain ⟨hen,aju⟩:=EL _ _ _ _ _ _ (by rw [h1] at hrd;exact hrd)
    cases e with
    |normal=>exact absurd rfl hen
    |ret=>exact ⟨some .ret,w4,by rw [hrc] at t1;exact t1,wpIn_ret this⟩
    |exit i=>exact ⟨some (.exit i),w4,by rw [hrc] at t1;exact t1,wpIn_exit this⟩
    |nC t n=>exact absurd rfl (aju t n)
 cases e2 with
 |normal=>exact key
 |ret=>exact key
 |exit i=>exact absurd rfl (hne i)
 |nC t n=>cases hit
end
section
variable {P:Program}{F:Fence}{C:Ctx}{n L nb:Nat}{σ σ':Nat→Nat}{T T' Tc T1 T2:Tags}{st st' st1 s:St}{a a1:Act}{w w' w1:World}{R:Rg}{lp:Loop}
 {rec:aj→St→Option (Ex×St)} {env:Env} {e:Ex}
theorem VH (hR:oH P rec)(hI:wY P env)(hW:jV F)(hN:C.Rec F)(hC:C.Ok P L){ca cb:Code}{qL bd:aj}(ha:mC P ca qL=true)(hb:mC P cb bd=true){g:Operand}{gx:bf}(hmg:aH g gx=true){ps:Array Tmp}{f:Nat}{caps:List PV}
  (hg:st.bQ gx=some (.func f caps)) {xs:List (List PV)} {stop:Option Nat} {r:Option (Ex×Nat)} {s1:St} (hit:jl rec env f caps stop=some xs) (hrd:rounds rec (st.slots.map AV.froze) ps.toList qL bd st.boxes.length 0 xs { st with slots:=st.slots.map AV.froze }=some (r,s1))
  (hcons:(stop=none∧r=none)∨∃ e m,stop=some m∧r=some (e,m)∧xs.length=m) (hX:s1.ys <+: C.X) (hst:st.stop=C.stop) (hs:aF L σ T st a w) (hJ:C.J st.ys.length T w) :
  (Code.rangeFunc g ps ca cb).wpIn F n P (Post C L st.boxes.length σ T w (VG r) { s1 with slots:=st.slots.map AV.froze } a.defers) a w:=by
 obtain ⟨arr,e1,e2,e3⟩:=wM (hs.pv hmg hg)
 obtain ⟨T1,f1,f2,f3⟩:=hs.froze
 have hfr:∀ b,w.heap.size≤b→T1 b=.other:=fun b hb=>f3.other b (hs.fresh b hb)
 have hJ1:C.J st.ys.length T1 w:=hC.keep _ _ _ w _ (f3.mX w) hJ
 have hcap:∀ (i:Nat) p v,caps[i]?=some p→arr[i]?=some v→aA (fun b=>T1 b=.ro) w p v:=fun i p v hp hv=>(e3 i p v hp hv).frame fun b hb _=>⟨f3.ro b hb,rfl⟩
 have agD:callable P f=true:=by
  unfold jl at hit
  split at hit
  case h_2=>cases hit
  rename_i fn hfn
  exact (hI f fn hfn).1
 refine wpIn_rangeFunc fun fn hfn=>?_
 rcases hW with rfl|⟨l0,rfl⟩
 ·obtain ⟨rc,hrc⟩:∃ rc:LoopState→Option Code→Loop,rc=fun st pe=>{ state:=st,pending:=pe,fn:=fn,tmps:=a.tmps,params:=ps,assign:=ca,body:=cb,defers:=w.heap.size }:=⟨_,rfl⟩
  obtain ⟨W1,hW1⟩:∃ W1,(w.alloc (.deferred (some []))).alloc (.loop (rc .ready none))=W1:=⟨_,rfl⟩
  have hL1:W1.heap[w.heap.size+1]?=some (.loop (rc .ready none)):=by
   rw [← hW1];have:=World.alloc_heap_new (w.alloc (.deferred (some []))) (.loop (rc .ready none));rwa [World.size_alloc] at this
  have hK1:W1.heap[w.heap.size]?=some (.deferred (some [])):=by
   rw [← hW1];exact (Below.heap_alloc _ _ _ (by simp)).trans (World.alloc_heap_new w _)
  have hsz:W1.heap.size=w.heap.size+2:=by rw [← hW1];simp
  refine ⟨w.heap.size+1,[jB w.heap.size],W1,{ target:=.fn (.func f) arr,args:=#[.func (.yield (w.heap.size+1)) #[] #[]] },W1,f,#[.func (.yield (w.heap.size+1)) #[] #[]]++arr,W1,?_,?_,fun _ _=>trivial,?_,(fun h=>by cases h),?_⟩
  ·rw [← hW1,hrc];exact run_enterLoop_outer _ _ _ _ _
  ·simp only [resolve,e1]
   simp [go_sem]
  ·simp [invoke,go_sem,nO agD]
  ·refine Jj (R:=⟨L,st.boxes.length,st.slots.length,σ,T1,w,st.slots.map AV.froze,a.tmps,w.heap.size+1,[w.heap.size],W1.heap.size⟩) (s:={ st with slots:=st.slots.map AV.froze }) (T0:=T) hR hI hC ha hb hrc hcons hX hit hrd (by simp) f1 f2 rfl hfr hJ1 hst e2 hcap rfl ?_ ?_ ?_ hL1 ?_ ?_ ?_ ?_ f3 (.inl rfl) ?_
   ·show w.heap.size≤W1.heap.size;omega
   ·intro b hb
    rw [← hW1]
    exact (Below.heap_alloc _ _ _ (by simp only [World.size_alloc];exact Nat.lt_succ_of_lt hb)).trans (Below.heap_alloc _ _ _ hb)
   ·rw [← hW1];exact ⟨rfl,rfl,rfl⟩
   ·show w.heap.size≤w.heap.size+1;omega
   ·intro d hd
    have hd:d∈[w.heap.size]:=hd
    rw [Zal.1 hd]
    exact ⟨ze _,hK1⟩
   ·exact Zb5.2 ⟨by simp,ZcB⟩
   ·intro hd
    have hd:w.heap.size+1∈[w.heap.size]:=hd
    have:=Zal.1 hd
    omega
   ·intro w4 hA
    exact ⟨rfl,hA⟩
 ·obtain ⟨r0,hr0⟩:=hN l0 rfl _ _ _ hJ
  obtain ⟨rc,hrc⟩:∃ rc:LoopState→Option Code→Loop,rc=fun st pe=>{ state:=st,pending:=pe,fn:=fn,tmps:=a.tmps,params:=ps,assign:=ca,body:=cb,defers:=r0.defers }:=⟨_,rfl⟩
  obtain ⟨W1,hW1⟩:∃ W1,w.alloc (.loop (rc .ready none))=W1:=⟨_,rfl⟩
  have hL1:W1.heap[w.heap.size]?=some (.loop (rc .ready none)):=by
   rw [← hW1];exact World.alloc_heap_new w _
  have hsz:W1.heap.size=w.heap.size+1:=by rw [← hW1];simp
  refine ⟨w.heap.size,[],W1,{ target:=.fn (.func f) arr,args:=#[.func (.yield w.heap.size) #[] #[]] },W1,f,#[.func (.yield w.heap.size) #[] #[]]++arr,W1,?_,?_,fun _ _=>trivial,?_,(fun h=>by cases h),?_⟩
  ·rw [← hW1,hrc];exact run_enterLoop_inner hr0 _ _ _ _ _
  ·simp only [resolve,e1]
   simp [go_sem]
  ·simp [invoke,go_sem,nO agD]
  ·refine Jj (R:=⟨L,st.boxes.length,st.slots.length,σ,T1,w,st.slots.map AV.froze,a.tmps,w.heap.size,[],W1.heap.size⟩) (s:={ st with slots:=st.slots.map AV.froze }) (T0:=T) hR hI hC ha hb hrc hcons hX hit hrd (by simp) f1 f2 rfl hfr hJ1 hst e2 hcap rfl ?_ ?_ ?_ hL1 ?_ ?_ ?_ ?_ f3 (.inr ⟨l0,rfl⟩) ?_
   ·show w.heap.size≤W1.heap.size;omega
   ·intro b hb
    rw [← hW1]
    exact Below.heap_alloc _ _ _ hb
   ·rw [← hW1];exact ⟨rfl,rfl,rfl⟩
   ·exact ze _
   ·intro d hd;cases hd
   ·exact ZcB
   ·intro hd;cases hd
   ·intro w4 hA
    exact ⟨rfl,hA⟩
theorem EM {gx:bf}{ps:List Nat}{qL bd:aj}(h:ranged rec env gx ps qL bd st=some (e,st')):∃ f caps xs stop r s1,st.bQ gx=some (.func f caps)∧jl rec env f caps stop=some xs∧rounds rec (st.slots.map AV.froze) ps qL bd st.boxes.length 0 xs { st with slots:=st.slots.map AV.froze }=some (r,s1) ∧
  ((stop=none∧r=none)∨∃ e m,stop=some m∧r=some (e,m)∧xs.length=m)∧e=VG r∧st'={ s1 with slots:=st.slots.map AV.froze }:=by
 unfold ranged at h
 replace h:=bind_some h
 obtain ⟨v,h1,h⟩:=h
 cases v<;>simp only [reduceCtorEq] at h
 rename_i f caps
 replace h:=bind_some h
 obtain ⟨xs,h2,h⟩:=h
 replace h:=bind_some h
 obtain ⟨⟨r,s1⟩,h3,h⟩:=h
 simp only at h
 cases r with
 |none =>
  simp only [ZD.injEq,Zar.injEq] at h
  exact ⟨f,caps,xs,none,none,s1,h1,h2,h3,.inl ⟨rfl,rfl⟩,h.1.symm,h.2.symm⟩
 |some q =>
  obtain ⟨e0,k⟩:=q
  simp only at h
  replace h:=bind_some h
  obtain ⟨ys,h4,h⟩:=h
  replace h:=bind_some h
  obtain ⟨⟨r2,s2⟩,h5,h⟩:=h
  simp only at h
  cases r2 with
  |none=>cases h
  |some q2 =>
   obtain ⟨e2,m⟩:=q2
   simp only at h
   split at h
   case isFalse=>cases h
   rename_i hk
   obtain ⟨rfl,hk⟩:=hk
   simp only [ZD.injEq,Zar.injEq] at h
   exact ⟨f,caps,ys,some m,some (e2,m),s2,h1,h4,h5,.inr ⟨e2,m,rfl,rfl,hk⟩,h.1.symm,h.2.symm⟩
end
section
variable {P:Program}{F:Fence}{C:Ctx}{n L nb:Nat}{σ σ':Nat→Nat}{T T' T1 T2:Tags}{st st' st1:St}{a a1:Act}{w w1:World}{o:Oper}{vo:fG}{y:Operand}{x:bf}{d:Nat}
 {rec:aj→St→Option (Ex×St)} {env:Env} {next:Act→World→Prop} {Q:Exit→Act→World→Prop} {bI:Array Oper} {ds:List Deferred} {e:Ex}
theorem dD {α β:Type}{x:Option α}{f:α→β}{y:β}(h:x.map f=some y):∃ z,x=some z∧f z=y:=by
 cases x with
 |none=>cases h
 |some z=>exact ⟨z,rfl,ZD.inj h⟩
theorem uw {keep:List Nat}(h0:st.head keep nb=some st1):st1.boxes.length=nb∧st1.ys=st.ys∧st1.stop=st.stop:=by
 unfold St.head at h0
 simp only at h0
 split at h0
 ·rename_i hc
  simp only [ZS,decide_eq_true_eq] at hc
  have h0:=ZD.inj h0
  subst h0
  exact ⟨by simp;omega,rfl,rfl⟩
 ·cases h0
theorem kP {P:Program}{b:Frame}{a:Act}{k:List Item}{cs:List Frame}{w:World}{c:Code}:Go.step P (lone (b.atR a (.code (.scope c)::k)) cs w)=.next (lone (b.atR a (.code c::.inScope c::k)) cs w) :=
 step_lone_go (by simp [stepG,stepG.exec,Frame.atR])
theorem DY {P:Program}{b:Frame}{a:Act}{k:List Item}{cs:List Frame}{w:World}{c:Code}:Go.step P (lone (b.atR a (.inScope c::k)) cs w)=.next (lone (b.atR a k) cs w) :=
 step_lone_go (by simp [stepG,stepG.exec,Frame.atR])
theorem Ny {Q:Exit→Act→World→Prop}{c:Code}(h:c.wpIn F n P (Exit.noGoto Q) a w):(Code.scope c).wpIn F n P Q a w:=by
 intro b k cs hro hb hr
 have h0:(lone (b.atR a (.code (.scope c)::k)) cs w).fenced P F:=fenced_calm hb hr rfl
 obtain ⟨e,a₁,w₁,hq,harr⟩:=h b (.inScope c::k) cs hro hb hr
 cases e with
 |normal=>exact ⟨.normal,a₁,w₁,hq,.head h0 kP (StepsIn.trans harr (.one (fenced_calm hb hr rfl) DY))⟩
 |exit id =>
  have hx:exitTo id (.inScope c::k)=exitTo id k:=by simp [exitTo]
  exact ⟨.exit id,a₁,w₁,hq,fun k' hk=>.head h0 kP (harr.1 k' (by rw [hx];exact hk)),
   fun hr' hk=>let ⟨k₁,h1,h2⟩:=harr.2 hr' (by rw [hx];exact hk);⟨k₁,h1,.head h0 kP h2⟩⟩
 |goto l=>exact hq.elim
 |ret=>exact ⟨_,a₁,w₁,hq,.of_steps (.one h0 kP) harr⟩
 |panic ch=>exact ⟨_,a₁,w₁,hq,.of_steps (.one h0 kP) harr⟩
 |outgrown=>exact ⟨_,a₁,w₁,hq,.of_steps (.one h0 kP) harr⟩
theorem Nz (hR:oH P rec){c:Code}{keep:List Nat}{vc:aj}(hm:mC P c vc=true)(h:step rec env (.round keep nb vc) st=some (e,st')):Grow nb st st':=by
 simp only [step] at h
 replace h:=bind_some h
 obtain ⟨st0,h0,h⟩:=h
 replace h:=bind_some h
 obtain ⟨⟨e1,st1⟩,h1,h⟩:=h
 have hh:st0.boxes.length=nb∧st0.ys=st.ys∧st0.stop=st.stop:=by
  unfold St.head at h0
  simp only at h0
  split at h0
  ·rename_i hc
   simp only [ZS,decide_eq_true_eq] at hc
   have h0:=ZD.inj h0
   subst h0
   exact ⟨by simp;omega,rfl,rfl⟩
  ·cases h0
 have g1:=hR.grow _ _ _ _ _ hm h1
 have g1':Grow nb st st1:=by
  refine ⟨by rw [← hh.1];exact g1.1,by rw [← hh.2.1];exact g1.2.1,g1.2.2.trans hh.2.2⟩
 simp only at h
 split at h
 ·exact g1'.trans (hR.VA _ _ _ _ _ _ _ hm h)
 ·cases ZD.inj h;exact g1'
theorem RF (hR:oH P rec){c:Code}{vc:aj}(hm:mC P c vc=true)(h:step rec env vc st=some (e,st')):Grow st.boxes.length st st':=by
 cases vc with
 |skip=>simp only [step,ZD.injEq,Zar.injEq] at h;rw [← h.2];exact (aK.refl _).grow
 |ops l =>
  simp only [step] at h
  obtain ⟨st1,h1,h2⟩:=dD h
  cases h2;exact dU h1
 |qp fz acts fin last l =>
  simp only [step] at h
  obtain ⟨st1,h1,h2⟩:=dD h
  cases h2
  have gz:=aK.jH fz (aK.refl st)
  exact ((aK.grow gz).trans (dU h1)).mono gz.1
 |drs fz keep vo alts =>
  simp only [step] at h
  obtain ⟨st1,h1,h2⟩:=dD h
  cases h2
  have gz:=aK.jH fz (aK.refl st)
  have g:=DW h1
  exact ((aK.grow gz).trans ⟨g.1,g.2.1,g.2.2⟩).mono gz.1
 |lend d ks l =>
  simp only [step] at h
  split at h
  case h_2=>cases h
  split at h
  case isFalse=>cases h
  obtain ⟨st3,h1,h2⟩:=dD h
  cases h2
  obtain ⟨st2,h3,h4⟩:=bind_some h1
  have gz:=(aK.refl st).freeze (.slot d)
  exact ((gz.grow.trans (dU h3)).mono gz.1).rX h4
 |seq a b =>
  cases c<;>first|(simp [mC] at hm;done)|skip
  rename_i c1 c2
  simp only [mC,ZS] at hm
  simp only [step] at h
  replace h:=bind_some h
  obtain ⟨⟨e1,st1⟩,h1,h⟩:=h
  have g1:=hR.grow _ _ _ _ _ hm.1 h1
  simp only at h
  split at h
  ·exact (g1.trans (hR.grow _ _ _ _ _ hm.2 h)).mono g1.1
  ·cases ZD.inj h;exact g1
 |cond y a b =>
  cases c<;>first|(simp [mC] at hm;done)|skip
  simp only [mC,ZS] at hm
  simp only [step] at h
  replace h:=bind_some h
  obtain ⟨v,h1,h⟩:=h
  split at h
  ·split at h
   ·exact hR.grow _ _ _ _ _ hm.1.2 h
   ·exact hR.grow _ _ _ _ _ hm.2 h
  ·cases h
 |block i a =>
  cases c<;>first|(simp [mC] at hm;done)|skip
  simp only [mC,ZS] at hm
  simp only [step] at h
  replace h:=bind_some h
  obtain ⟨⟨e1,st1⟩,h1,h⟩:=h
  have h:=ZD.inj h
  cases h
  exact hR.grow _ _ _ _ _ hm.2 h1
 |loop keep a =>
  cases c<;>first|(simp [mC] at hm;done)|skip
  simp only [mC] at hm
  simp only [step] at h
  exact hR.VA _ _ _ _ _ _ _ hm h
 |round keep nb a =>
  cases c<;>first|(simp [mC] at hm;done)|skip
 |rng g ps qL b =>
  cases c<;>first|(simp [mC] at hm;done)|skip
  rename_i g1 ps1 c1 c2
  simp only [mC,ZS,beq_iff_eq] at hm
  obtain ⟨⟨⟨m1,m2⟩,m3⟩,m4⟩:=hm
  simp only [step] at h
  obtain ⟨f,caps,xs,stop,r,s1,q1,q2,q3,q4,rfl,rfl⟩:=EM h
  have:=sS hR.grow m3 m4 xs 0 _ r s1 q3 (ze _)
  exact ⟨this.1,this.2.1,this.2.2⟩
 |scp a =>
  cases c<;>first|(simp [mC] at hm;done)|skip
  simp only [mC] at hm
  simp only [step] at h
  exact hR.grow _ _ _ _ _ hm h
 |clean pre post a =>
  replace hm:mC P c a=true:=by cases c<;>simpa only [mC] using hm
  simp only [step] at h
  replace h:=bind_some h
  obtain ⟨st1,h0,h⟩:=h
  replace h:=bind_some h
  obtain ⟨⟨e1,st2⟩,h1,h⟩:=h
  replace h:=bind_some h
  obtain ⟨st3,h2,h⟩:=h
  cases ZD.inj h
  obtain ⟨k1,k2,k3⟩:=uw h0
  obtain ⟨l1,l2,l3⟩:=uw h2
  have g1:=hR.grow _ _ _ _ _ hm h1
  exact ⟨by omega,by rw [l2,← k2];exact g1.2.1,by rw [l3,g1.2.2,k3]⟩
 |exit i=>simp only [step,ZD.injEq,Zar.injEq] at h;rw [← h.2];exact (aK.refl _).grow
 |ret=>simp only [step,ZD.injEq,Zar.injEq] at h;rw [← h.2];exact (aK.refl _).grow
 |dem l d f args =>
  simp only [step] at h
  obtain ⟨st1,h1,h⟩:=bind_some h
  obtain ⟨vs,h2,h⟩:=bind_some h
  obtain ⟨r,h3,h⟩:=bind_some h
  cases r with
  |some p=>cases ZD.inj h;exact dU h1
  |none =>
   obtain ⟨st2,h4,h5⟩:=dD h
   cases h5
   exact ((dU h1).trans (AA h4)).mono (dU h1).1
theorem Post.trans {nb1:Nat}{σ1:Nat→Nat}{ms:List Nat}(hs:bP T T1 w w1)(hσ:∀ k,k<nb→σ1 k=σ k)(hd:a1.defers=ms.map jB++ds)(hms:Marks T1 w w1 ms)(hnb:nb≤nb1)
  {x:Exit} {a':Act} {w':World} (h:Post C L nb1 σ1 T1 w1 e st' a1.defers x a' w'):Post C L nb σ T w e st' ds x a' w':=⟨h.1,After.trans hs hσ hd hms hnb h.2⟩
theorem VI (hR:oH P rec)(hW:jV F)(hN:C.Rec F)(hC:C.Ok P L){c:Code}{keep:List Nat}{vc:aj}(hm:mC P c vc=true)(h:step rec env (.round keep nb vc) st=some (e,st'))(hst:st.stop=C.stop)(hX:st'.ys <+: C.X)
  (hs:aF L σ T st a w) (hJ:C.J st.ys.length T w):vF F n P c (Post C L nb σ T w e st' a.defers) a w:=by
 simp only [step] at h
 replace h:=bind_some h
 obtain ⟨st0,h0,h⟩:=h
 replace h:=bind_some h
 obtain ⟨⟨e1,st1⟩,h1,h⟩:=h
 obtain ⟨q1,q2,q3,q4,q5⟩:=hs.head h0
 have g1:=hR.grow _ _ _ _ _ hm h1
 refine I4 ?_
 have hX1:st1.ys <+: C.X:=by
  simp only at h
  split at h
  ·exact (hR.VA _ _ _ _ _ _ _ hm h).2.1.trans hX
  ·cases ZD.inj h;exact hX
 refine wpIn_mono (hR.wp hW hN hC c vc st0 e1 st1 hm h1 (q4.trans hst) hX1 σ T a w q1 (by rw [q3];exact hJ)) ?_
 rintro x a1 w1 ⟨hx,hA⟩
 rw [q2] at hA
 simp only at h
 split at h
 ·subst hx
  obtain ⟨σ1,T1,ms,k1,k2,k3,k4,k5,k6⟩:=hA
  exact I5 (hR.wpR hW hN hC c keep nb vc st1 e st' hm h (g1.2.2.trans (q4.trans hst)) hX σ1 T1 a1 w1 k1 k2) fun x a' w' hP=>Post.trans k4 k3 k5 k6 (ze _) hP
 ·rename_i hne
  cases ZD.inj h
  cases e with
  |normal=>exact absurd rfl hne
  |exit i=>subst hx;exact ⟨rfl,hA⟩
  |ret=>subst hx;exact ⟨rfl,hA⟩
  |nC t m=>subst hx;exact ⟨rfl,hA⟩
theorem adZ (hW:jV F)(hC:C.Ok P L)(aO:eG P rec env)(hX:st'.ys <+: C.X)(hs:aF L σ T st a w)(hJ:C.J st.ys.length T w)(hst:st.stop=C.stop){l:List fG}{f:Nat}{args:List bf}(hm:mL P bI bI.toList (l++[.call d f args])=true)(h1:ops rec env l st=some st1)
  {vs:List PV} (h2:args.mapM st1.bQ=some vs) {r:Option (Nat×Int)} (h3:DC rec env f vs=some r) (h:(match r with
   |some (t,n)=>some (.nC t n,st1)
   |none=>(act rec env (.call d f args) st1).map fun st2=>(.normal,st2))=some (e,st')):wpListIn F n P bI (Post C L st.boxes.length σ T w e st' a.defers) bI.toList a w:=by
 obtain ⟨l1,o,hl,m1,m2⟩:=aaB hm
 have g1:=dU h1
 rw [hl]
 cases r with
 |some p =>
  cases ZD.inj h
  refine Gh hW hC aO hX hs hJ hst m1 h1 ?_
  rintro a1 w1 ⟨σ1,T1,ms,k1,k2,k3,k4,k5,k6⟩
  exact adL hW hC aO k1 k2 m2 h2 h3 fun w' hA=>⟨rfl,After.trans k4 k3 k5 k6 g1.1 hA⟩
 |none =>
  obtain ⟨st2,h4,h5⟩:=dD h
  cases h5
  have g2:Grow st1.boxes.length st1 st':=AA h4
  refine Gh hW hC aO (g2.2.1.trans hX) hs hJ hst m1 h1 ?_
  rintro a1 w1 ⟨σ1,T1,ms,k1,k2,k3,k4,k5,k6⟩
  have h6:ops rec env [.call d f args] st1=some st':=by
   simp only [ops,op,op1,kV,↓reduceIte,h4]
   rfl
  have m3:mL P bI [o] [.call d f args]=true:=by simp only [mL,m2,Bool.and_self]
  exact Nb hW hC aO hX k1 k2 (g1.2.2.trans hst) m3 h6 fun a' w' hA=>⟨rfl,After.trans k4 k3 k5 k6 g1.1 hA⟩
theorem aaG (hR:oH P rec)(hI:wY P env)(aO:eG P rec env)(hW:jV F)(hN:C.Rec F)(hC:C.Ok P L){c:Code}{vc:aj}(hm:mC P c vc=true)(h:step rec env vc st=some (e,st'))(hst:st.stop=C.stop)(hX:st'.ys <+: C.X)
  (hs:aF L σ T st a w) (hJ:C.J st.ys.length T w):c.wpIn F n P (Post C L st.boxes.length σ T w e st' a.defers) a w:=by
 cases vc with
 |skip =>
  simp only [step,ZD.injEq,Zar.injEq] at h
  obtain ⟨rfl,rfl⟩:=h
  cases c<;>first|(simp [mC] at hm;done)|skip
  case skip=>exact wpIn_skip ⟨rfl,After.refl hs hJ⟩
  case label l=>exact wpIn_label ⟨rfl,After.refl hs hJ⟩
 |ops l =>
  simp only [step] at h
  obtain ⟨st1,h1,h2⟩:=dD h
  cases h2
  cases c<;>first|(simp [mC] at hm;done)|skip
  case region id ops dr =>
   cases dr<;>simp [mC] at hm
   exact wpIn_region_list (Nb hW hC aO hX hs hJ hst hm h1 fun a' w' hA=>⟨rfl,hA⟩)
 |qp fz acts fin last l =>
  simp only [step] at h
  obtain ⟨st1,h1,h2⟩:=dD h
  cases h2
  cases c<;>first|(simp [mC] at hm;done)|skip
  case region id ops dr =>
   cases dr<;>simp only [mC,ZS,zj] at hm
   obtain ⟨⟨⟨m1,m2⟩,m3⟩,m4⟩:=hm
   obtain ⟨T1,q1,q2⟩:=hs.jH fz
   have gz:=aK.jH fz (aK.refl st)
   have hJ1:C.J (fz.foldl St.gJ st).ys.length T1 w:=by rw [gz.2.1];exact hC.keep _ _ _ _ _ (q2.mX w) hJ
   exact DV hW hC aO q1 hJ1 (gz.2.2.trans hst) hX m1 m2 m3 m4 h1 fun a' w' hA=>⟨rfl,After.trans (ms:=[]) ((q2.mX w).stays) (fun _ _=>rfl) rfl Marks.nil gz.1 hA⟩
 |drs fz keep vo alts =>
  simp only [step] at h
  obtain ⟨st1,h1,h2⟩:=dD h
  cases h2
  cases alts with
  |nil=>cases h1
  |cons alt alts =>
  cases c<;>first|(simp [mC] at hm;done)|skip
  case region id ops dr =>
   cases dr<;>simp only [mC,ZS,zj] at hm
   obtain ⟨⟨m1,m2⟩,m3⟩:=hm
   obtain ⟨T1,q1,q2⟩:=hs.jH fz
   have gz:=aK.jH fz (aK.refl st)
   have hJ1:C.J (fz.foldl St.gJ st).ys.length T1 w:=by rw [gz.2.1];exact hC.keep _ _ _ _ _ (q2.mX w) hJ
   exact DX hW hC aO q1 hJ1 (gz.2.2.trans hst) hX m1 m2 m3 h1 fun a' w' hA=>⟨rfl,After.trans (ms:=[]) ((q2.mX w).stays) (fun _ _=>rfl) rfl Marks.nil gz.1 hA⟩
 |lend d ks l =>
  simp only [step] at h
  split at h
  case h_2=>cases h
  rename_i hd
  split at h
  case isFalse=>cases h
  rename_i hstop
  obtain ⟨st3,h1,h2⟩:=dD h
  cases h2
  obtain ⟨st2,h3,h4⟩:=bind_some h1
  cases c<;>first|(simp [mC] at hm;done)|skip
 |seq a b =>
  cases c<;>first|(simp [mC] at hm;done)|skip
  rename_i c1 c2
  simp only [mC,ZS] at hm
  simp only [step] at h
  replace h:=bind_some h
  obtain ⟨⟨e1,st1⟩,h1,h⟩:=h
  have g1:=hR.grow _ _ _ _ _ hm.1 h1
  refine wpIn_seq ?_
  have hX1:st1.ys <+: C.X:=by
   simp only at h
   split at h
   ·exact (hR.grow _ _ _ _ _ hm.2 h).2.1.trans hX
   ·cases ZD.inj h;exact hX
  refine wpIn_mono (hR.wp hW hN hC c1 _ st e1 st1 hm.1 h1 hst hX1 σ T _ w hs hJ) ?_
  rintro x a1 w1 ⟨hx,hA⟩
  simp only at h
  split at h
  ·subst hx
   obtain ⟨σ1,T1,ms,k1,k2,k3,k4,k5,k6⟩:=hA
   exact wpIn_mono (hR.wp hW hN hC c2 _ st1 e st' hm.2 h (g1.2.2.trans hst) hX σ1 T1 a1 w1 k1 k2) fun x a' w' hP=>Post.trans k4 k3 k5 k6 g1.1 hP
  ·rename_i hne
   cases ZD.inj h
   cases e with
   |normal=>exact absurd rfl hne
   |exit i=>subst hx;exact ⟨rfl,hA⟩
   |ret=>subst hx;exact ⟨rfl,hA⟩
   |nC t m=>subst hx;exact ⟨rfl,hA⟩
 |cond y a b =>
  cases c<;>first|(simp [mC] at hm;done)|skip
  rename_i x c1 c2
  simp only [mC,ZS] at hm
  simp only [step] at h
  replace h:=bind_some h
  obtain ⟨v,h1,h⟩:=h
  split at h
  case h_2=>cases h
  rename_i t
  refine wpIn_cond (t:=t) (hs.pv hm.1.1 h1).jS ?_
  cases t with
  |true=>exact hR.wp hW hN hC c1 _ st e st' hm.1.2 (by simpa using h) hst hX σ T _ w hs hJ
  |false=>exact hR.wp hW hN hC c2 _ st e st' hm.2 (by simpa using h) hst hX σ T _ w hs hJ
 |block i a =>
  cases c<;>first|(simp [mC] at hm;done)|skip
  rename_i j c1
  simp only [mC,ZS,beq_iff_eq] at hm
  obtain ⟨rfl,hm⟩:=hm
  simp only [step] at h
  replace h:=bind_some h
  obtain ⟨⟨e1,st1⟩,h1,h⟩:=h
  have h:=ZD.inj h
  cases h
  refine wpIn_block (wpIn_mono (hR.wp hW hN hC c1 _ st e1 st1 hm h1 hst hX σ T _ w hs hJ) ?_)
  rintro x a1 w1 ⟨rfl,hA⟩
  cases e1 with
  |normal=>exact ⟨rfl,hA⟩
  |exit i =>
   by_cases hij:i=j
   ·subst hij;simp only [toX,Exit.inBlock,↓reduceIte];exact ⟨rfl,hA⟩
   ·have hne:(Ex.exit i=Ex.exit j)=False:=by simpa using hij
    simp only [toX,Exit.inBlock,if_neg hij,hne,↓reduceIte];exact ⟨rfl,hA⟩
  |ret=>exact ⟨rfl,hA⟩
  |nC t m=>exact ⟨rfl,hA⟩
 |loop keep a =>
  cases c<;>first|(simp [mC] at hm;done)|skip
  simp only [mC] at hm
  simp only [step] at h
  exact Gg (hR.wpR hW hN hC _ keep _ _ st e st' hm h hst hX σ T _ w hs hJ)
 |round keep nb a =>
  cases c<;>first|(simp [mC] at hm;done)|skip
 |rng g ps qL b =>
  cases c<;>first|(simp [mC] at hm;done)|skip
  rename_i g1 ps1 c1 c2
  simp only [mC,ZS,beq_iff_eq] at hm
  obtain ⟨⟨⟨m1,m2⟩,m3⟩,m4⟩:=hm
  subst m2
  simp only [step] at h
  obtain ⟨f,caps,xs,stop,r,s1,q1,q2,q3,q4,rfl,rfl⟩:=EM h
  exact VH hR hI hW hN hC m3 m4 m1 q1 q2 q3 q4 hX hst hs hJ
 |scp a =>
  cases c<;>first|(simp [mC] at hm;done)|skip
  rename_i c1
  simp only [mC] at hm
  simp only [step] at h
  refine Ny (wpIn_mono (hR.wp hW hN hC c1 _ st e st' hm h hst hX σ T _ w hs hJ) ?_)
  rintro x a1 w1 ⟨rfl,hA⟩
  cases e<;>exact ⟨rfl,hA⟩
 |clean pre post a =>
  replace hm:mC P c a=true:=by cases c<;>simpa only [mC] using hm
  simp only [step] at h
  replace h:=bind_some h
  obtain ⟨st1,h0,h⟩:=h
  replace h:=bind_some h
  obtain ⟨⟨e1,st2⟩,h1,h⟩:=h
  replace h:=bind_some h
  obtain ⟨st3,h2,h⟩:=h
  cases ZD.inj h
  obtain ⟨q1,q2,q3,q4,q5⟩:=hs.head h0
  obtain ⟨l1,l2,l3⟩:=uw h2
  refine wpIn_mono (hR.wp hW hN hC c a st1 _ st2 hm h1 (q4.trans hst) (by rw [← l2];exact hX) σ T _ w q1 (by rw [q3];exact hJ)) ?_
  rintro x a1 w1 ⟨hx,σ1,T1,ms,k1,k2,k3,k4,k5,k6⟩
  obtain ⟨r1,r2,r3,r4,r5⟩:=k1.head h2
  exact ⟨hx,σ1,T1,ms,r1,by rw [r3];exact k2,by rw [← q2];exact k3,k4,k5,k6⟩
 |exit i =>
  simp only [step,ZD.injEq,Zar.injEq] at h
  obtain ⟨rfl,rfl⟩:=h
  cases c<;>first|(simp [mC] at hm;done)|skip
  simp only [mC,beq_iff_eq] at hm
  subst hm
  exact wpIn_exit ⟨rfl,After.refl hs hJ⟩
 |ret =>
  simp only [step,ZD.injEq,Zar.injEq] at h
  obtain ⟨rfl,rfl⟩:=h
  cases c<;>first|(simp [mC] at hm;done)|skip
  exact wpIn_ret ⟨rfl,After.refl hs hJ⟩
 |dem l d f args =>
  simp only [step] at h
  obtain ⟨st1,h1,h⟩:=bind_some h
  obtain ⟨vs,h2,h⟩:=bind_some h
  obtain ⟨r,h3,h⟩:=bind_some h
  cases c<;>first|(simp [mC] at hm;done)|skip
  case region id ops dr =>
   cases dr<;>simp [mC] at hm
   exact wpIn_region_list (adZ hW hC aO hX hs hJ hst hm h1 h2 h3 (by cases r<;>exact h))
theorem step_ok (hR:oH P rec)(hI:wY P env)(aO:eG P rec env):oH P (step rec env) :=
 ⟨fun _ _ _ _ _ hm h=>RF hR hm h,fun _ _ _ _ _ _ _ hm h=>Nz hR hm h,
  fun hW hN hC _ _ _ _ _ hm h hst hX _ _ _ _ hs hJ=>aaG hR hI aO hW hN hC hm h hst hX hs hJ,
  fun hW hN hC _ _ _ _ _ _ _ hm h hst hX _ _ _ _ hs hJ=>VI hR hW hN hC hm h hst hX hs hJ⟩
end
section
variable {P:Program}{L K:Nat}{σ σ':Nat→Nat}{T T' T1 T2:Tags}{st st' st1:St}{a a1:Act}{w w1:World}{r:Root}
theorem aF.aaH (h:aF L σ T st a w){i:Nat}(h1:∀ t s l,st.slots[t]?=some (.row s l)→r≠.slot t)(h2:∀ (t i:Nat),r≠.part t i)(h3:∀ p q bx s l,st.boxes[p]?=some bx→bx.cs[q]?=some (.row s l)→r≠.cell p q)(hK:st.slots.length≤K) :
  aF L σ (moved T r (.part K i)) st a w:=by
 have hw:∀ b,T b=.ro→b<w.heap.size→moved T r (.part K i) b=.ro∧w.heap[b]?=w.heap[b]?:=fun b e _=>⟨fH e,rfl⟩
 refine ⟨h.size,fun t x u hx hu=>?_,fun p bx ho=>?_,fun b hb=>jw (h.fresh b hb)⟩
 ·have ht:t<st.slots.length:=(Z3.1 hx).1
  refine (h.slots t x u hx hu).keep hw (fun s l e b hb _=>⟨cO (fun e2=>h1 t s l (by rw [hx,e]) e2.symm) (by simp) hb,rfl⟩) (fun l e i' _ b hb _=>⟨cO (fun e2=>h2 _ _ e2.symm) (fun e2=>?_) hb,rfl⟩) (fun q hq _ s l e=>⟨⟨l,e⟩,rfl⟩) (ze _) (fun _ _=>rfl)
  cases e2;omega
 ·obtain ⟨arr,E,g1,g2,g3,g4,g5⟩:=h.boxes p bx ho
  refine ⟨arr,E,g1,g2,?_,g4,fun j bv u hj hu=>?_⟩
  ·cases hf:bx.fz with
   |true=>rw [hf] at g3;simpa using fH g3
   |false=>rw [hf] at g3;simpa using lI g3
  ·obtain ⟨k1,k2⟩:=g5 j bv u hj hu
   refine ⟨k1,?_⟩
   cases bv with
   |pv x=>exact aA.frame hw k2
   |row sz es=>exact aI.frame (fun b e _=>⟨cO (fun e2=>h3 p j bx sz es ho hj e2.symm) (by simp) e,rfl⟩) hw k2
theorem aI.ad1 {sz:Nat}{es:List PV}{xa:Option Addr}{c:Nat}(h:aI T w r sz es (.slice xa es.length c))(k:Nat):aI T w r sz (es.take k) (.slice xa (es.take k).length c):=by
 rcases h with ⟨rfl,a,e⟩|⟨b,c',arr,E,e,h2,h3,h4,h5,h6,h7,h8⟩
 ·simp only [zm,Value.slice.injEq] at e
  obtain ⟨_,_,rfl⟩:=e
  exact .inl ⟨by simp,xa,by simp⟩
 ·simp only [Value.slice.injEq] at e
  obtain ⟨rfl,_,rfl⟩:=e
  refine .inr ⟨b,c,arr,E,rfl,h2,h3,h4,?_,h6,fun e he=>h7 e (List.mem_of_mem_take he),fun i e j x hi hj=>?_⟩
  ·simp;omega
  ·rw [Zan] at hi
   split at hi
   ·exact h8 i e j x hi hj
   ·cases hi
def RK (T:Tags)(w:World)(K i:Nat):qw→Value→Prop
 |(.list sz es,true),u=>aI T w (.part K i) sz es u
 |(.agg _,true),_=>False
 |(x,_),u=>aA (fun b=>T b=.ro) w x u
theorem RK.pv {i:Nat}{x:PV}{u:Value}(h:aA (fun b=>T b=.ro) w x u):RK T w K i (x,false) u:=by
 cases x<;>exact h
def lq (tmps:Array Value):ResultVar→Sem Value
 |.tmp t=>pure (tmps.getD t undef)
 |.cell a t=>do loadVar t (← asAddr (tmps.getD a undef))
def NC (P:Program):ResultVar→qy→Bool
 |.tmp t,.tmp s=>t==s
 |.cell t T0,.cell s n=>t==s&&jR P T0==some n
 |.cell t T0,.own s n=>t==s&&jR P T0==some (some n)
 |_,_=>false
theorem ND (h:aF L σ T st a w){g:ResultVar}{v:qy}(hm:NC P g v=true){x:qw}(hp:mD st v=some (x,st1))(hK:st.slots.length≤K)(i:Nat) :
  ∃ u T',(lq a.tmps g).run P w=.ok u w∧aF L σ T' st1 a w∧Still T T'∧RK T' w K i x u∧(∀ b k,k≠i→T b=.row (.part K k)→T' b=.row (.part K k))∧st1.slots.length=st.slots.length∧(∀ b o,T b=.box o→T' b=.box o):=by
 cases g<;>cases v<;>simp only [NC,zj] at hm
 case tmp.tmp t s =>
  simp only [beq_iff_eq] at hm
  subst hm
  have hev:a.tmps.getD t undef=a.eval (.tmp t):=rfl
  have hmo:aH (.tmp t) (.t t)=true:=by simp [aH]
  simp only [mD] at hp
  split at hp
  ·rename_i sz es st2 hg
   have hp:=ZD.inj hp
   cases hp
   obtain ⟨k1,k2,q,v,es0,c,xa,k3,k4,k5,k6,k7,k8,k9⟩:=h.grab hmo hg
   have hlen:st1.slots.length=st.slots.length:=by rw [← k1.size,← h.size]
   refine ⟨a.eval (.tmp t),moved T q (.part K i),by rw [lq,hev];rfl,k1.aaH k7 k8 k9 (by omega),Still.moved _ _ _,?_,fun b k hk e=>cO (fun e2=>k8 _ _ e2.symm) (by simp [hk]) e,hlen,fun b o e=>lI e⟩
   rw [k6]
   subst k5
   have:=aI.ad1 k3 es.length
   rw [← k4] at this
   exact aI.frame (fun b e _=>⟨nT e,rfl⟩) (fun b e _=>⟨fH e,rfl⟩) this
  ·split at hp
   ·rename_i v hv
    have hp:=ZD.inj hp
    cases hp
    have e2:st.bQ (.t t)=some v:=by unfold St.bQ;rw [show st.get (.t t)=.pv v from hv]
    exact ⟨a.eval (.tmp t),T,by rw [lq,hev];rfl,h,Still.refl T,RK.pv (h.pv hmo e2),fun _ _ _ e=>e,rfl,fun _ _ e=>e⟩
   ·rename_i r off len hv
    split at hp
    case h_2=>cases hp
    rename_i sz es hr
    split at hp
    case isFalse=>cases hp
    rename_i hl
    have hp:=ZD.inj hp
    cases hp
    obtain ⟨T1,k1,k2,k3,k4,k5⟩:=h.freeze r
    refine ⟨a.eval (.tmp t),T1,by rw [lq,hev];rfl,k1,k2,RK.pv (h.FM hr (h.Ip hmo hv sz es hr) hl (k4 sz es hr) k2.ro),fun b k _ e=>k3 b _ (fun e2=>by subst e2;simp [St.row] at hr) e,by rw [← k1.size,← h.size],k5⟩
   ·cases hp
 case cell.cell t T0 s n =>
  simp only [ZS,beq_iff_eq] at hm
  obtain ⟨rfl,hc⟩:=hm
  simp only [mD] at hp
  split at hp
  case h_2=>cases hp
  rename_i p j hv
  split at hp
  case h_2=>cases hp
  rename_i bx h1
  have hs:st.slots[t]?=some (.aJ p j):=kM (st:=st) hv (by simp)
  have hlt:t<a.tmps.size:=by rw [h.size];exact (Z3.1 hs).1
  have hgp:a.tmps.getD t undef=.pointer (some ⟨σ p,j,none⟩):=by
   have:=(h.slots t _ _ hs (zg hlt)).2
   rw [Zap,zg hlt,ZbF,this]
  have hread:∀ {u:Value},(loadVar T0 ⟨σ p,j,none⟩).run P w=.ok u w→(lq a.tmps (.cell t T0)).run P w=.ok u w:=fun hu=>by
   simp only [lq,hgp,asAddr,Sem.run_bind,Sem.run_pure,Result.andThen_ok]
   exact hu
  have hbox:=h.boxes p bx h1
  cases n with
  |none =>
   obtain ⟨arr,E,g1,g2,g3,g4,g5⟩:=hbox
   have hld:∀ (bv:BV),bx.cs[j]?=some bv→∃ u,(loadVar T0 ⟨σ p,j,none⟩).run P w=.ok u w∧DF T w p j bv u:=fun bv hbv=>by
    have hj:j<arr.size:=by rw [g2];exact (Z3.1 hbv).1
    obtain ⟨k1,k2⟩:=g5 j _ arr[j] hbv (zg hj)
    refine ⟨arr[j],?_,k2⟩
    unfold loadVar
    simp only [Sem.run_bind,jG hc,Result.andThen_ok,zj,if_false]
    unfold load
    simp only [Sem.run,cell_of_row w _ _ arr E (0,0) g1,zg hj]
   simp only at hp
   split at hp
   ·rename_i sz es hbv
    split at hp
    ·cases hp
    ·rename_i hfz
     have hp:=ZD.inj hp
     cases hp
     obtain ⟨u,q1,q2⟩:=hld _ hbv
     have hr:st.row (.cell p j)=some (sz,es):=by simp [St.row,h1,hfz,hbv]
     obtain ⟨T1,k1,k2,k3,k4,k5⟩:=h.freeze (.cell p j)
     exact ⟨u,T1,hread q1,k1,k2,RK.pv (aI.list (k4 sz es hr) k2.ro q2),fun b k _ e=>k3 b _ (by simp) e,by rw [← k1.size,← h.size],k5⟩
   ·rename_i v hbv
    have hp:=ZD.inj hp
    cases hp
    obtain ⟨u,q1,q2⟩:=hld _ hbv
    exact ⟨u,T,hread q1,h,Still.refl T,RK.pv q2,fun _ _ _ e=>e,rfl,fun _ _ e=>e⟩
   ·cases hp
  |some n =>
   simp only at hp
   obtain ⟨v,h2,hp⟩:=dD hp
   cases hp
   obtain ⟨T1,k1,k2,k3,k4,k5⟩:=h.o8 p
   have hmem:=hbox.mem (T':=T1) (fun j b e=>k4 (by rw [h1];rfl) b j e) k2.ro
   obtain ⟨u,h7,h8,_⟩:=qB (P:=P) hmem hc h2
   rw [Nat.zero_add] at h7
   exact ⟨u,T1,hread (h7 w rfl),k1,k2,RK.pv h8,fun b k _ e=>k3 b _ (by simp) e,by rw [← k1.size,← h.size],k5⟩
 case cell.own t T0 s n=>simp only [mD] at hp;cases hp
def RKo (T:Tags)(w:World)(K i:Nat)(x:qw)(u:Value):Prop :=
 RK T w K i x u∨(i=0∧∃ cs,x=(.agg cs,true)∧∃ arr:Array Value,u=.agg arr∧arr.size=cs.length∧∀ (k:Nat) x v,cs[k]?=some x→arr[k]?=some v→iD T w K k (QJ x) v)
def RG (T:Tags)(p j K:Nat):Tags:=fun b=>match T b with
 |.ro=>.ro
 |.row (.cell o q)=>if o=p∧j≤q then .row (.part K (q - j)) else .other
 |_=>.other
theorem rG:∀ {l:List BV} {cs:List PV},jr l=some cs→l.length=cs.length∧∀ (k:Nat) x,cs[k]?=some x→(∃ sz es,l[k]?=some (.row sz es)∧x=.list sz es)∨(l[k]?=some (.pv x)∧∀ s es,x≠.list s es)
 |[],cs,h=>by cases h;exact ⟨rfl,fun k x hk=>by simp at hk⟩
 |.row sz es::l,cs,h=>by
  obtain ⟨c,h1,rfl⟩:=dD h
  obtain ⟨q1,q2⟩:=rG h1
  refine ⟨by simp [q1],fun k x hk=>?_⟩
  cases k with
  |zero=>cases hk;exact .inl ⟨sz,es,rfl,rfl⟩
  |succ k=>exact q2 k x hk
 |.pv v::l,cs,h=>by
  have hv:(∀ s es,v≠.list s es)∧∃ c,jr l=some c∧cs=v::c:=by
   cases v<;>first|(simp [jr] at h;done)|(obtain ⟨c,h1,rfl⟩:=dD h;exact ⟨(fun _ _ e=>by cases e),c,h1,rfl⟩)
  obtain ⟨hv,c,h1,rfl⟩:=hv
  obtain ⟨q1,q2⟩:=rG h1
  refine ⟨by simp [q1],fun k x hk=>?_⟩
  cases k with
  |zero=>cases hk;exact .inr ⟨rfl,hv⟩
  |succ k=>exact q2 k x hk
theorem NG {b j n T0:Nat}{arr:Array Value}{E q}(hc:jR P T0=some (some n))(hb:w.heap[b]?=some (.cells arr E (0,q)))(hn:j+n≤arr.size) :
  ∃ us:Array Value,(loadVar T0 ⟨b,j,none⟩).run P w=.ok (.agg us) w∧us.size=n∧∀ k v,us[k]?=some v→arr[j+k]?=some v:=by
 have hs:=(jd (w:=w) hc).2
 let us:List Value:=(List.range n).map fun k=>arr.getD (j+k) undef
 have hus:∀ k v,us[k]?=some v→arr[j+k]?=some v:=fun k v hv=>by
  have hk:k<n:=by have:=(Z3.1 hv).1;simpa [us] using this
  simp only [us,zc,List.getElem?_range hk,Zae,ZD.injEq] at hv
  rw [zg (by omega:j+k<arr.size)]
  rw [Zap,zg (by omega:j+k<arr.size)] at hv
  rw [← hv];rfl
 have hlen:us.length=n:=by simp [us]
 refine ⟨us.toArray,?_,by simpa using hlen,fun k v hv=>hus k v (by simpa using hv)⟩
 have hl2:=run_loadCells_list (P:=P) (w:=w) ⟨b,j,none⟩ us (fun k v hv=>by
  rw [Addr.add_lit,cell_of_row w b _ arr E (0,q) hb];exact hus k v hv)
 rw [hlen] at hl2
 unfold loadVar
 simp only [Sem.run_bind,(jd (w:=w) hc).1,Result.andThen_ok,if_true,iY hs,hl2]
 rfl
theorem NH (h:aF L σ T st a w){t T0 n p j:Nat}{bx:Box}{cs:List PV}(hc:jR P T0=some (some n))(hv:st.slots.getD t .any=.aJ p j)(h1:st.boxes[p]?=some bx)(hf:bx.fz=false)(hn:j+n≤bx.cs.length)(ho:jr ((bx.cs.drop j).take n)=some cs) :
  ∃ u T',(lq a.tmps (.cell t T0)).run P w=.ok u w∧Still T T'∧(∀ b,w.heap.size≤b→T' b=.other)∧RKo T' w K 0 (.agg cs,true) u:=by
 have hs:st.slots[t]?=some (.aJ p j):=kM (st:=st) hv (by simp)
 have hlt:t<a.tmps.size:=by rw [h.size];exact (Z3.1 hs).1
 have hgp:a.tmps.getD t undef=.pointer (some ⟨σ p,j,none⟩):=by
  have:=(h.slots t _ _ hs (zg hlt)).2
  rw [Zap,zg hlt,ZbF,this]
 obtain ⟨arr,E,g1,g2,g3,g4,g5⟩:=h.boxes p bx h1
 obtain ⟨us,r1,r2,r3⟩:=NG (P:=P) hc g1 (by omega:j+n≤arr.size)
 obtain ⟨q1,q2⟩:=rG ho
 have hro:∀ b,T b=.ro→RG T p j K b=.ro:=fun b e=>by simp [RG,e]
 refine ⟨.agg us,RG T p j K,?_,⟨hro,fun b e=>by simp [RG,e]⟩,fun b hb=>by simp [RG,h.fresh b hb],.inr ⟨rfl,cs,rfl,us,rfl,?_,fun k x v hx hu=>?_⟩⟩
 ·simp only [lq,hgp,asAddr,Sem.run_bind,Sem.run_pure,Result.andThen_ok]
  exact r1
 ·rw [r2,← q1];simp;omega
 ·have hk:k<n:=by rw [← r2];exact (zr.1 hu).1
  have hget:∀ bv,((bx.cs.drop j).take n)[k]?=some bv→bx.cs[j+k]?=some bv:=fun bv e=>by
   rw [List.getElem?_take_of_lt hk,List.getElem?_drop] at e;exact e
  rcases q2 k x hx with ⟨sz,es,e1,rfl⟩|⟨e1,e2⟩
  ·obtain ⟨_,k2⟩:=g5 (j+k) _ v (hget _ e1) (r3 k v hu)
   exact aI.frame (fun b e _=>⟨by simp [RG,e],rfl⟩) (fun b e _=>⟨hro b e,rfl⟩) k2
  ·obtain ⟨_,k2⟩:=g5 (j+k) _ v (hget _ e1) (r3 k v hu)
   have:QJ x=.pv x:=by cases x<;>first|rfl|exact absurd rfl (e2 _ _)
   rw [this]
   exact aA.frame (fun b e _=>⟨hro b e,rfl⟩) k2
end
def mJ (P:Program):List ResultVar→List qy→Bool
 |[],[]=>true
 |g::gs,v::vs=>NC P g v&&mJ P gs vs
 |_,_=>false
section
variable {P:Program}{L K:Nat}{σ σ':Nat→Nat}{T T' T1 T2:Tags}{st st' st1:St}{a a1:Act}{w w1:World}{r:Root}
theorem RK.frame {i:Nat}{x:qw}{u:Value}(hr:∀ b,T b=.row (.part K i)→T' b=.row (.part K i))(hw:∀ b,T b=.ro→T' b=.ro)(h:RK T w K i x u):RK T' w K i x u:=by
 obtain ⟨v,own⟩:=x
 cases v<;>cases own<;>first|exact aA.frame (fun b e _=>⟨hw b e,rfl⟩) h|exact aI.frame (fun b e _=>⟨hr b e,rfl⟩) (fun b e _=>⟨hw b e,rfl⟩) h|exact False.elim h
theorem sV:∀ {gs:List ResultVar} {vs:List qy} {st:St} {T:Tags} {xs:List qw} (i:Nat),aF L σ T st a w→mJ P gs vs=true→resultList st vs=some xs→st.slots.length≤K →
  ∃ (us:List Value) (T':Tags),(gs.mapM (lq a.tmps)).run P w=.ok us w∧us.length=xs.length∧Still T T'∧(∀ b,w.heap.size≤b→T' b=.other)∧(∀ (j:Nat) x u,xs[j]?=some x→us[j]?=some u→RK T' w K (i+j) x u)∧(∀ b k,k<i→T b=.row (.part K k)→T' b=.row (.part K k))∧∀ b o,T b=.box o→T' b=.box o
 |[],[],st,T,xs,i,h,_,hp,hK=>by
  simp only [resultList,ZD.injEq] at hp
  subst hp
  exact ⟨[],T,by simp,rfl,Still.refl T,h.fresh,fun j x u hx=>by simp at hx,(fun _ _ _ e=>e),fun _ _ e=>e⟩
 |[],_::_,_,_,_,_,_,hm,_,_=>by simp [mJ] at hm
 |_::_,[],_,_,_,_,_,hm,_,_=>by simp [mJ] at hm
 |g::gs,v::vs,st,T,xs,i,h,hm,hp,hK=>by
  simp only [mJ,ZS] at hm
  simp only [resultList] at hp
  replace hp:=bind_some hp
  obtain ⟨⟨x,st1⟩,h1,hp⟩:=hp
  replace hp:=bind_some hp
  obtain ⟨l,h2,hp⟩:=hp
  have hp:=ZD.inj hp
  subst hp
  obtain ⟨u,T1,k1,k2,k3,k4,k5,k6,k7⟩:=ND h hm.1 h1 hK i
  obtain ⟨us,T2,q1,q2,q3,q4,q5,q6,q7⟩:=sV (i+1) k2 hm.2 h2 (by omega)
  refine ⟨u::us,T2,?_,by simp [q2],k3.trans q3,q4,fun j x' u' hx hu=>?_,fun b k hk e=>q6 b k (by omega) (k5 b k (by omega) e),fun b o e=>q7 b o (k7 b o e)⟩
  ·rw [ZbR]
   simp only [Sem.run_bind,k1,Result.andThen_ok,q1,Sem.run_pure]
  ·cases j with
   |zero =>
    simp only [Zax,ZD.injEq] at hx hu
    subst hx;subst hu
    exact RK.frame (fun b e=>q6 b i (by omega) e) q3.ro k4
   |succ j =>
    have:=q5 j x' u' (by simpa using hx) (by simpa using hu)
    rwa [show i+1+j=i+(j+1) by omega] at this
theorem sW {fn:Func}{us:List Value}(h:(fn.results.toList.mapM (lq a.tmps)).run P w=.ok us w):(results fn a.tmps).run P w=.ok (if us.toArray.size=1 then us.toArray.getD 0 undef else .tuple us.toArray) w:=by
 have e:results fn a.tmps=(do let vs ← fn.results.mapM (lq a.tmps);pure (if h:vs.size=1 then vs[0] else .tuple vs)):=by
  unfold results
  congr 1
 rw [e,Array.mapM_eq_mapM_toList]
 simp only [Sem.run_bind,Sem.run_map,h,Result.andThen_ok,Sem.run_pure]
 by_cases hs:us.toArray.size=1
 ·rw [dif_pos hs,if_pos hs,Zap,zg (by omega),ZbF]
 ·rw [dif_neg hs,if_neg hs]
theorem qo {fn:Func}{R:Ending→World→Prop}{B:Nat}:∀ {ms:List Nat} {w:World},ms.Nodup→(∀ r∈ms,B≤r∧w.heap[r]?=some (.deferred (some []))) →
  (∀ w',w'.os=w.os→w'.tape=w.tape→w'.output=w.output→w'.heap.size=w.heap.size→(∀ b,b ∉ ms→w'.heap[b]?=w.heap[b]?)→∃ v,(results fn a.tmps).run P w'=.ok v w'∧R (.returned v) w') →
  LeavesInM Fence.wide 0 P fn a.tmps R (ms.map jB) .returning w
 |[],w,_,_,h=>by
  simp only [Zaw,LeavesInM,LeavesIn]
  exact h w rfl rfl rfl rfl fun _ _=>rfl
 |r::ms,w,hnd,hms,h=>by
  simp only [Zai,LeavesInM]
  obtain ⟨hn1,hn2⟩:=Zb5.1 hnd
  obtain ⟨k1,k2⟩:=hms r (by simp)
  have hr:r<w.heap.size:=(zr.1 k2).1
  have hput:∀ b,b≠r→(w.putObj r (.deferred none)).heap[b]?=w.heap[b]?:=fun b hb=>by simp [World.putObj,ZaN,Ne.symm hb]
  refine ⟨by simp,.inl ⟨r,_,rfl,run_takeDeferred k2,qo (B:=B) hn2 (fun r' hr'=>?_) fun w' e1 e2 e3 e4 e5=>h w' e1 e2 e3 (by rw [e4];simp [World.putObj]) fun b hb=>?_⟩⟩
  ·obtain ⟨q1,q2⟩:=hms r' (by simp [hr'])
   exact ⟨q1,by rw [hput r' (fun e=>hn1 (e ▸ hr'))];exact q2⟩
  ·simp only [ZaL,not_or] at hb
   rw [e5 b hb.2,hput b hb.1]
end
section
variable {P:Program}{L K:Nat}{σ σ':Nat→Nat}{T T' T1 T2:Tags}{st st' st1:St}{a a1:Act}{w w1:World}{r:Root}
 {rec:aj→St→Option (Ex×St)} {env:Env}
theorem AX {gs:List ResultVar}{vs:List qy}{xs:List qw}(h:aF L σ T st a w)(hm:mJ P gs vs=true)(hp:dY st vs=some xs) :
  ∃ (us:List Value) (T':Tags),(gs.mapM (lq a.tmps)).run P w=.ok us w∧us.length=xs.length∧Still T T'∧(∀ b,w.heap.size≤b→T' b=.other)∧∀ (j:Nat) x u,xs[j]?=some x→us[j]?=some u→RKo T' w st.slots.length j x u:=by
 have gen:resultList st vs=some xs→∃ (us:List Value) (T':Tags),(gs.mapM (lq a.tmps)).run P w=.ok us w∧us.length=xs.length∧Still T T'∧(∀ b,w.heap.size≤b→T' b=.other)∧∀ (j:Nat) x u,xs[j]?=some x→us[j]?=some u→RKo T' w st.slots.length j x u:=fun hl=>by
  obtain ⟨us,T',k1,k2,k3,k4,k5,_⟩:=sV 0 h hm hl (ze _)
  exact ⟨us,T',k1,k2,k3,k4,fun j x u hx hu=>.inl (by simpa using k5 j x u hx hu)⟩
 unfold dY at hp
 split at hp
 case h_3=>exact gen hp
 case h_2 =>
  rename_i t n
  split at hp
  case h_2=>cases hp
  rename_i p j hs
  split at hp
  case h_2=>cases hp
  rename_i bx h1
  split at hp
  ·cases hp
  ·rename_i hf
   simp only [Za0,ZaJ,decide_eq_false_iff_not,not_or,Zbr,ZbS] at hf
   obtain ⟨cs,h2,rfl⟩:=dD hp
   obtain ⟨T0,hgs,hc⟩:∃ T0,gs=[.cell t T0]∧jR P T0=some (some n):=by
    match gs,hm with
    |[.tmp s],hm=>simp [mJ,NC] at hm
    |[.cell s T0],hm=>simp [mJ,NC] at hm;exact ⟨T0,by rw [hm.1],hm.2⟩
    |[],hm=>simp [mJ] at hm
    |_::_::_,hm=>simp [mJ] at hm
   subst hgs
   obtain ⟨u,T',r1,r2,r3,r4⟩:=NH (P:=P) (K:=st.slots.length) h hc hs h1 hf.1 hf.2 h2
   refine ⟨[u],T',?_,rfl,r2,r3,fun j x u' hx hu=>?_⟩
   ·simp only [ZbR,List.mapM_nil,Sem.run_bind,r1,Result.andThen_ok,Sem.run_pure]
   ·cases j with
    |zero =>
     simp only [Zax,ZD.injEq] at hx hu
     subst hx;subst hu;exact r4
    |succ j=>simp at hx
 rename_i t
 split at hp
 case h_2=>exact gen hp
 rename_i f caps hs
 obtain ⟨⟨p,fl⟩,h1,h2⟩:=dD hp
 subst h2
 have hmo:aH (.tmp t) (.t t)=true:=by simp [aH]
 have hg:st.get (.t t)=.fn f caps:=hs
 have hsn:st.jf (st.get (.t t))=some (p,fl):=by rw [hg];exact h1
 obtain ⟨k1,_,k3⟩:=h.IY hmo hsn
 obtain ⟨T1,q1,q2,q3,q4⟩:=jK.args [.t t] (jK.refl T st) h (fun x hx=>by simp only [Zal] at hx;subst hx;exact k1)
 have hgs:gs=[.tmp t]:=by
  match gs,hm with
  |[.tmp s],hm=>simp [mJ,NC] at hm;rw [hm]
  |[.cell s T0],hm=>simp [mJ,NC] at hm
  |[],hm=>simp [mJ] at hm
  |_::_::_,hm=>simp [mJ] at hm
 subst hgs
 refine ⟨[a.eval (.tmp t)],T1,by simp [lq,Act.eval],rfl,q3,q2.fresh,fun j x u hx hu=>?_⟩
 cases j with
 |zero =>
  simp only [Zax,ZD.injEq] at hx hu
  subst hx;subst hu
  exact .inl (RK.pv (k3 T1 q3 (q4 _ (by simp))))
 |succ j=>simp at hx
theorem NI {ok good:Nat→Prop}(hg:∀ b,bY w b→good b){x:PV}{v:Value}(h:aA ok w x v):aA (fun b=>ok b∧good b) w x v:=by
 induction h with
 |int k n=>exact .int k n
 |bool b=>exact .bool b
 |str s=>exact .str s
 |nY=>exact .nY
 |void v h=>exact .void v h
 |nil sz a=>exact .nil sz a
 |kE sz a=>exact .kE sz a
 |list sz es b off c cv h1 h2 h3 h4 h6 h7 h8 ih=>exact .list sz es b off c cv ⟨h1,hg b h2⟩ h2 h3 h4 h6 h7 ih
 |agg cs arr h1 h2 h3 ih=>exact .agg cs arr h1 h2 ih
 |func f caps arr h1 h2 ih=>exact .func f caps arr h1 ih
 |bW cs j b off cv h1 h2 h3 h4 ih=>exact .bW cs j b off cv ⟨h1,hg b h2⟩ h2 h3 ih
def drop (T:Tags)(ms:List Nat):Tags:=fun b=>if b∈ms then .other else T b
theorem aF.drop (h:aF L σ T st a w){ms:List Nat}(hms:∀ r∈ms,¬ bY w r)(hw:∀ b,b ∉ ms→w1.heap[b]?=w.heap[b]?)(hsz:w1.heap.size=w.heap.size):aF L σ (drop T ms) st a w1:=by
 have hg:∀ b,bY w b→b ∉ ms:=fun b hc hb=>hms b hb hc
 have hp:∀ {x v},aA (fun b=>T b=.ro) w x v→aA (fun b=>Go.Proofs.YthccglceomoboaaGreatDoor.drop T ms b=.ro) w1 x v:=fun h =>
  (NI hg h).frame fun b hb _=>⟨by simp [Go.Proofs.YthccglceomoboaaGreatDoor.drop,hb.1,hb.2],hw b hb.2⟩
 have hrow:∀ {r sz es v},aI T w r sz es v→aI (Go.Proofs.YthccglceomoboaaGreatDoor.drop T ms) w1 r sz es v:=fun {r sz es v} h=>by
  rcases h with h|⟨b,c,arr,E,h1,h2,h3,h4,h5,h6,h7,h8⟩
  ·exact .inl h
  ·have hb:b ∉ ms:=hg b ⟨_,_,_,h3⟩
   refine .inr ⟨b,c,arr,E,h1,by simp [Go.Proofs.YthccglceomoboaaGreatDoor.drop,hb,h2],(hw b hb).trans h3,h4,h5,h6,h7,fun i e j x hi hj=>?_⟩
   obtain ⟨u,k1,k2,k3⟩:=h8 i e j x hi hj
   exact ⟨u,k1,k2,hp k3⟩
 have hbox:∀ o,o<st.boxes.length→σ o ∉ ms:=fun o ho=>hg _ (h.boxes o _ (ZZ ho)).FI
 have IK:∀ r:Root,r.low st.boxes.length→hdr σ a w1 r=hdr σ a w r:=fun r hr=>by
  cases r with
  |slot t=>rfl
  |part t i=>rfl
  |cell o j=>exact World.cell?_of_block (w:=w) (a:=⟨σ o,j,none⟩) (hw _ (hbox o hr))
 refine ⟨h.size,fun t av v ht hv=>?_,fun o bx ho=>?_,fun b hb=>?_⟩
 ·have hA:=h.slots t av v ht hv
  cases av with
  |pv x=>exact hp hA
  |row sz es=>exact hrow hA
  |ref r off len=>exact ⟨hA.1,fun sz es hr=>by rw [IK r hA.1];exact hA.2 sz es hr⟩
  |aJ o j=>exact hA
  |mW r i j=>exact ⟨hA.1,fun sz es hr=>by rw [IK r hA.1];exact hA.2 sz es hr⟩
  |fn f caps =>
   obtain ⟨arr,e1,e2,e3⟩:=hA
   refine ⟨arr,e1,e2,fun k x u hx hu=>?_⟩
   have:=e3 k x u hx hu
   cases x with
   |pv p=>exact hp this
   |_=>exact this
  |ku k l =>
   obtain ⟨arr,e1,e2,e3⟩:=hA
   refine ⟨arr,e1,e2,fun k x u hx hu=>?_⟩
   have:=e3 k x u hx hu
   cases x with
   |pv p=>exact hp this
   |row sz es=>exact hrow this
   |_=>exact this
  |zH s l=>exact ⟨hp hA.1,hA.2⟩
  |pp o j =>
   obtain ⟨q0,b,E,q1,q2,q3⟩:=hA
   have hb:b ∉ ms:=hg b ⟨_,_,_,q3⟩
   exact ⟨q0,b,E,q1,by simp [Go.Proofs.YthccglceomoboaaGreatDoor.drop,hb,q2],(hw b hb).trans q3⟩
  |lY=>exact hA
  |any=>trivial
 ·have hb:=hbox o (Z3.1 ho).1
  obtain ⟨arr,E,g1,g2,g3,g4,g5⟩:=h.boxes o bx ho
  refine ⟨arr,E,(hw _ hb).trans g1,g2,by simp only [Go.Proofs.YthccglceomoboaaGreatDoor.drop,if_neg hb];exact g3,g4,fun j bv u hj hu=>?_⟩
  obtain ⟨k1,k2⟩:=g5 j bv u hj hu
  refine ⟨k1,?_⟩
  cases bv with
  |pv x=>exact hp k2
  |row sz es=>exact hrow k2
 ·unfold Go.Proofs.YthccglceomoboaaGreatDoor.drop
  split
  ·rfl
  ·exact h.fresh b (by omega)
def outT (T:Tags)(K:Nat):Tags:=fun b=>match T b with
 |.ro=>.ro
 |.row (.part k i)=>if k=K then .row (.part 0 i) else .other
 |_=>.other
theorem iD.aaI {k:Nat}{x:AV}{v:Value}(h:iD T w K k x v):iD (outT T K) w 0 k x v:=by
 cases x with
 |pv p=>exact aA.frame (fun b e _=>⟨by simp [outT,e],rfl⟩) h
 |row sz es=>exact aI.frame (fun b e _=>⟨by simp [outT,e],rfl⟩) (fun b e _=>⟨by simp [outT,e],rfl⟩) h
 |any=>trivial
 |_=>exact h
theorem RK.ajv {i:Nat}{x:qw}{u:Value}(h:RK T w K i x u):R1 (outT T K) w i x u:=by
 have hp:∀ {x v},aA (fun b=>T b=.ro) w x v→aA (fun b=>outT T K b=.ro) w x v:=fun h=>h.frame fun b hb _=>⟨by simp [outT,hb],rfl⟩
 have hrow:∀ {sz es},aI T w (.part K i) sz es u→aI (outT T K) w (.part 0 i) sz es u:=fun h=>aI.frame (fun b e _=>⟨by simp [outT,e],rfl⟩) (fun b e _=>⟨by simp [outT,e],rfl⟩) h
 obtain ⟨v,own⟩:=x
 cases v<;>cases own<;>first|exact hrow h|exact hp h|exact False.elim h
theorem RK.out {i:Nat}{x:qw}{u:Value}(h:RKo T w K i x u):R1 (outT T K) w i x u:=by
 rcases h with h|⟨_,cs,rfl,arr,rfl,h1,h2⟩
 ·exact RK.ajv h
 ·exact ⟨arr,rfl,h1,fun k x v hx hv=>iD.aaI (h2 k x v hx hv)⟩
def aS (P:Program)(f:Nat)(fn:dL):Bool :=
 match P.funcs[f]? with
 |some g=>(match g.body with
  |some c=>mC P c fn.body
  |none=>false)&&g.name != "runtime.NumGoroutine"&&g.ntmps==fn.ntmps&&decide (fn.nargs≤fn.ntmps)&&mJ P g.results.toList fn.results
 |none=>false
theorem rH {f:Nat}{fn:dL}(h:aS P f fn=true):callable P f=true∧∃ g c,P.funcs[f]?=some g∧g.body=some c∧mC P c fn.body=true∧g.ntmps=fn.ntmps∧fn.nargs≤fn.ntmps∧mJ P g.results.toList fn.results=true:=by
 unfold aS at h
 split at h
 case h_2=>cases h
 rename_i g hf
 simp only [ZS,beq_iff_eq,bne_iff_ne,decide_eq_true_eq] at h
 obtain ⟨⟨⟨⟨h1,h2⟩,h3⟩,h4⟩,h5⟩:=h
 split at h1
 case h_2=>cases h1
 rename_i c hb
 exact ⟨by simp [callable,hf,h2,hb],g,c,hf,hb,h1,h3,h4,h5⟩
def sZ (T0:Tags)(w:World):Nat→Tags→World→Prop:=fun _ T w'=>Below w.heap.size w w'∧∀ b,b<w.heap.size→T b=T0 b
theorem zk {T0:Tags}(h0:∀ b,T0 b=.ro∨T0 b=.other){k:Nat}{w w1 w2:World}(hc:uV T T' w1 w2)(h:sZ T0 w k T w1):sZ T0 w k T' w2:=by
 obtain ⟨h1,h2⟩:=h
 refine ⟨h1.trans ⟨hc.os,hc.tape,hc.output,hc.size,fun b hb=>hc.same b (Zag hb h1.size) ?_⟩,fun b hb=>?_⟩
 ·rw [h2 b hb];exact h0 b
 ·rcases h0 b with e|e
  ·rw [e];exact hc.ro b (by rw [h2 b hb,e])
  ·rw [e];exact hc.other b (Zag hb h1.size) (by rw [h2 b hb,e])
theorem Jk {T0:Tags}{args:List PV}{vs:List Value}{n:Nat}(hf:∀ b,w.heap.size≤b→T0 b=.other)(hl:vs.length=args.length)(hr:∀ (i:Nat) x v,args[i]?=some x→vs[i]?=some v→aA (fun b=>T0 b=.ro) w x v)(ys:List (List PV))(stop:Option (Option Nat)) :
  aF L σ T0 ⟨args.map .pv++Zao (n - args.length) .any,[],ys,stop⟩ { tmps:=vs.toArray++ZaT (n - vs.toArray.size) undef,defers:=[] } w:=by
 refine ⟨by simp [hl],fun t av v ht hv=>?_,fun o bx ho=>by simp at ho,hf⟩
 simp only at ht hv
 rcases ZaE t args.length with h|h
 ·rw [Zab (by simpa using h),zc,ZZ h] at ht
  rw [ZaY (by simpa [hl] using h)] at hv
  cases ht
  exact hr t _ v (ZZ h) (by simpa using hv)
 ·rw [Zac (by simpa using h),Zbt] at ht
  split at ht
  ·cases ht;trivial
  ·cases ht
theorem RH (hR:oH P rec){f:Nat}{fn:dL}{args:List PV}{rs:List qw}(hfn:aS P f fn=true)(hl:args.length=fn.nargs){e:Ex}(he:∀ i,e≠.exit i)(he2:∀ t n,e≠.nC t n)
  (hb:rec fn.body ⟨args.map .pv++Zao (fn.ntmps - args.length) .any,[],[],none⟩=some (e,st)) (hrs:dY st fn.results=some rs):lN P f args rs:=by
 intro T0 w vs h0 hf hlen hr hG
 obtain ⟨_,g,c,k1,k2,k3,k4,k5,k6⟩:=rH hfn
 refine (callsIn_wide (n:=0)).1 (callsIn_of_wp_marks k1 k2 trivial ?_)
 rw [k4]
 have Gq:aF 0 (fun _=>0) T0 ⟨args.map .pv++Zao (fn.ntmps - args.length) .any,[],[],none⟩ { tmps:=vs.toArray++ZaT (fn.ntmps - vs.toArray.size) undef,defers:=[] } w:=Jk hf hlen hr [] none
 have hC:Ctx.Ok ⟨st.ys,none,sZ T0 w⟩ P 0:=⟨fun k T T' w1 w2 hc h=>zk (k:=k) h0 hc h,fun k T w1 h=>hG.frame fun b e hb=>⟨(h.2 b hb).trans e,h.1.block b hb⟩,fun s k T w ps vs hs=>by cases hs⟩
 have hJ:sZ T0 w 0 T0 w:=⟨Below.refl _ _,fun _ _=>rfl⟩
 refine wpIn_mono (hR.wp (F:=Fence.wide) (L:=0) (C:=⟨st.ys,none,sZ T0 w⟩) (n:=0) (.inl rfl) (Ctx.wW _) hC c fn.body _ e st k3 hb rfl (Zbs _) _ T0 _ w Gq hJ) ?_
 rintro x a' w' ⟨rfl,σ',T',ms,q1,q2,q3,q4,q5,q6⟩
 obtain ⟨p1,p2⟩:=q2
 have key:LeavesInM Fence.wide 0 P g a'.tmps (fun e w'=>∃ v T',e=.returned v∧Below w.heap.size w w'∧(∀ b,b<w.heap.size→T' b=T0 b)∧(∀ b,w'.heap.size≤b→T' b=.other)∧rC T' w' rs v) a'.defers .returning w':=by
  rw [q5,ZaB]
  refine qo (B:=w.heap.size) q6.2 (fun r hr=>⟨(q6.1 r hr).1,(q6.1 r hr).2.2⟩) fun w2 e1 e2 e3 e4 e5=>?_
  have q1':=q1.drop (fun r hr ⟨arr,E,q,e⟩=>by rw [(q6.1 r hr).2.2] at e;cases e) e5 e4
  obtain ⟨us,T2,r1,r2,r3,r4,r5⟩:=AX q1' k6 hrs
  have hms:∀ b,b<w.heap.size→b ∉ ms:=fun b hb hm=>by have:=(q6.1 b hm).1;omega
  have hT2:∀ b,b<w.heap.size→T2 b=T0 b:=fun b hb=>by
   have e:drop T' ms b=T0 b:=by simp only [drop,if_neg (hms b hb)];exact p2 b hb
   rcases h0 b with e0|e0
   ·rw [e0];exact r3.ro b (by rw [e,e0])
   ·rw [e0];exact r3.other b (by rw [e,e0])
  refine ⟨_,sW r1,_,outT T2 st.slots.length,rfl,p1.trans ⟨e1,e2,e3,by omega,fun b hb=>e5 b (hms b hb)⟩,fun b hb=>?_,fun b hb=>?_,us.toArray,by simpa using r2,rfl,fun i x u hx hu=>RK.out (r5 i x u hx (by simpa using hu))⟩
  ·simp only [outT,hT2 b hb]
   rcases h0 b with e0|e0<;>rw [e0]
  ·simp only [outT,r4 b hb]
 cases e with
 |normal=>exact key
 |ret=>exact key
 |exit i=>exact absurd rfl (he i)
 |nC t n=>exact absurd rfl (he2 t n)
theorem RI {T0:Tags}{x:jQ}{v:Value}{args:List PV}{vs:List Value}{n:Nat}(hf:∀ b,w.heap.size≤b→T0 b=.other)(hx:aax T0 w v x)(hl:vs.length=args.length)(hr:∀ (i:Nat) x v,args[i]?=some x→vs[i]?=some v→aA (fun b=>T0 b=.ro) w x v) :
  ∃ σ:Nat→Nat,aF 0 σ T0 ⟨x.av::(args.map .pv++Zao (n - (args.length+1)) .any),x.boxes,[],none⟩ { tmps:=(v::vs).toArray++ZaT (n - (v::vs).toArray.size) undef,defers:=[] } w∧∀ b,v=.pointer (some ⟨b,0,none⟩)→(∃ cs,x=.box cs)→σ 0=b:=by
 obtain ⟨b0,hb0⟩:∃ b0,∀ cs,x=.box cs→v=.pointer (some ⟨b0,0,none⟩)∧ig T0 w b0 0 ⟨false,cs.map .pv⟩:=by
  cases x with
  |box cs=>obtain ⟨b,h1,h2⟩:=hx;exact ⟨b,fun cs' e=>by cases e;exact ⟨h1,h2⟩⟩
  |row sz es=>exact ⟨0,fun _ e=>by cases e⟩
  |own l=>exact ⟨0,fun _ e=>by cases e⟩
 refine ⟨fun _=>b0,⟨by simp [hl];omega,fun t av u ht hu=>?_,fun o bx ho=>?_,hf⟩,fun b hb ⟨cs,hcs⟩=>?_⟩
 ·cases t with
  |zero =>
   simp only [Zax,ZD.injEq] at ht
   have hu':u=v:=by
    have:((v::vs).toArray++ZaT (n - (v::vs).toArray.size) undef)[0]?=some v:=by rw [ZaY (by simp)];rfl
    rw [this] at hu;exact (ZD.inj hu).symm
   subst hu'
   subst ht
   cases x with
   |row sz es=>exact hx
   |own l=>obtain ⟨arr,h1,h2,h3⟩:=hx;exact ⟨arr,h1,h2,h3⟩
   |box cs=>exact ⟨by simp [jQ.boxes],(hb0 cs rfl).1⟩
  |succ t =>
   rw [Zbf] at ht
   rcases ZaE t args.length with h|h
   ·rw [Zab (by simpa using h),zc,ZZ h] at ht
    simp only at hu
    rw [ZaY (by simp [hl];omega)] at hu
    cases ht
    exact hr t _ u (ZZ h) (by simpa using hu)
   ·rw [Zac (by simpa using h),Zbt] at ht
    split at ht
    ·cases ht;trivial
    ·cases ht
 ·cases x with
  |box cs =>
   cases o with
   |zero =>
    simp only [jQ.boxes,Zax,ZD.injEq] at ho
    subst ho
    exact (hb0 cs rfl).2
   |succ o=>simp [jQ.boxes] at ho
  |row sz es=>simp [jQ.boxes] at ho
  |own l=>simp [jQ.boxes] at ho
 ·have:=(hb0 cs hcs).1
  rw [this] at hb
  injection hb with hb
  injection hb with hb
  injection hb with hb
def VJ (T0:Tags)(w:World):Nat→Tags→World→Prop:=fun _ T w'=>w.heap.size≤w'.heap.size∧w'.os=w.os∧w'.tape=w.tape∧w'.output=w.output∧∀ b,b<w.heap.size→(T0 b=.ro∨T0 b=.other)→w'.heap[b]?=w.heap[b]?∧T b=T0 b
theorem RJ {T0:Tags}{k:Nat}{w w1 w2:World}(hc:uV T T' w1 w2)(h:VJ T0 w k T w1):VJ T0 w k T' w2:=by
 obtain ⟨h1,h2,h3,h4,h5⟩:=h
 refine ⟨zR h1 hc.size,hc.os.trans h2,hc.tape.trans h3,hc.output.trans h4,fun b hb e=>?_⟩
 obtain ⟨k1,k2⟩:=h5 b hb e
 have hl:=Zag hb h1
 refine ⟨(hc.same b hl (by rw [k2];exact e)).trans k1,?_⟩
 rcases e with e|e
 ·rw [e];exact hc.ro b (by rw [k2,e])
 ·rw [e];exact hc.other b hl (by rw [k2,e])
theorem NJ (hR:oH P rec){f:Nat}{fn:dL}{x:jQ}{args:List PV}{rs:List qw}{out:Option (List PV)}(hfn:aS P f fn=true){e:Ex}(he:∀ i,e≠.exit i)(he2:∀ t n,e≠.nC t n)
  (hb:rec fn.body ⟨x.av::(args.map .pv++Zao (fn.ntmps - (args.length+1)) .any),x.boxes,[],none⟩=some (e,st)) (hrs:qP x st fn.results=some (rs,out)):Py P f x args rs out:=by
 intro T0 w v vs hf hx hlen hr hG
 obtain ⟨_,g,c,k1,k2,k3,k4,k5,k6⟩:=rH hfn
 refine (callsIn_wide (n:=0)).1 (callsIn_of_wp_marks k1 k2 trivial ?_)
 rw [k4]
 obtain ⟨σ0,Gq,hσ0⟩:=RI (n:=fn.ntmps) hf hx hlen hr
 have hC:Ctx.Ok ⟨st.ys,none,VJ T0 w⟩ P 0:=⟨fun k T T' w1 w2 hc h=>RJ (k:=k) hc h,fun k T w1 h=>hG.frame fun b e hb=>⟨by rw [(h.2.2.2.2 b hb (.inl e)).2,e],(h.2.2.2.2 b hb (.inl e)).1⟩,fun s k T w ps vs hs=>by cases hs⟩
 have hJ:VJ T0 w 0 T0 w:=⟨ze _,rfl,rfl,rfl,fun _ _ _=>⟨rfl,rfl⟩⟩
 refine wpIn_mono (hR.wp (F:=Fence.wide) (L:=0) (C:=⟨st.ys,none,VJ T0 w⟩) (n:=0) (.inl rfl) (Ctx.wW _) hC c fn.body _ e st k3 hb rfl (Zbs _) _ T0 _ w Gq hJ) ?_
 rintro x' a' w' ⟨rfl,σ',T',ms,q1,q2,q3,q4,q5,q6⟩
 obtain ⟨p1,p2,p3,p4,p5⟩:=q2
 have key:LeavesInM Fence.wide 0 P g a'.tmps (fun e w'=>∃ u T',e=.returned u∧w.heap.size≤w'.heap.size∧w'.os=w.os∧w'.tape=w.tape∧w'.output=w.output∧(∀ b,b<w.heap.size→(T0 b=.ro∨T0 b=.other)→w'.heap[b]?=w.heap[b]?∧T' b=T0 b)∧(∀ b,w'.heap.size≤b→T' b=.other)∧rC T' w' rs u∧Vl T' w' v out) a'.defers .returning w':=by
  rw [q5,ZaB]
  refine qo (B:=w.heap.size) q6.2 (fun r hr=>⟨(q6.1 r hr).1,(q6.1 r hr).2.2⟩) fun w2 e1 e2 e3 e4 e5=>?_
  have q1':=q1.drop (fun r hr ⟨arr,E,q,e⟩=>by rw [(q6.1 r hr).2.2] at e;cases e) e5 e4
  have hms:∀ b,b<w.heap.size→b ∉ ms:=fun b hb hm=>by have:=(q6.1 b hm).1;omega
  -- what the results leave of the tags
  have fin:∀ (T1 T2:Tags) (K:Nat),Still (Go.Proofs.YthccglceomoboaaGreatDoor.drop T' ms) T1→Still T1 T2→∀ b,b<w.heap.size→(T0 b=.ro∨T0 b=.other)→w2.heap[b]?=w.heap[b]?∧outT T2 K b=T0 b:=fun T1 T2 K s1 s2 b hb e=>by
   obtain ⟨y1,y2⟩:=p5 b hb e
   refine ⟨(e5 b (hms b hb)).trans y1,?_⟩
   have ed:Go.Proofs.YthccglceomoboaaGreatDoor.drop T' ms b=T0 b:=by simp only [Go.Proofs.YthccglceomoboaaGreatDoor.drop,if_neg (hms b hb)];exact y2
   rcases e with e|e
   ·simp only [outT,s2.ro b (s1.ro b (by rw [ed,e])),e]
   ·simp only [outT,s2.other b (s1.other b (by rw [ed,e])),e]
  have plain:(∀ cs,x≠.box cs)→dY st fn.results=some rs→out=none→∃ u T',(results g a'.tmps).run P w2=.ok u w2∧(∀ b,b<w.heap.size→(T0 b=.ro∨T0 b=.other)→w2.heap[b]?=w.heap[b]?∧T' b=T0 b)∧(∀ b,w2.heap.size≤b→T' b=.other)∧rC T' w2 rs u∧Vl T' w2 v out:=fun _ h1 h2=>by
   obtain ⟨us,T2,r1,r2,r3,r4,r5⟩:=AX q1' k6 h1
   refine ⟨_,outT T2 st.slots.length,sW r1,fin _ T2 _ (Still.refl _) r3,fun b hb=>by simp only [outT,r4 b hb],⟨us.toArray,by simpa using r2,rfl,fun i x u hx hu=>RK.out (r5 i x u hx (by simpa using hu))⟩,by rw [h2];trivial⟩
  have pack:∀ (u:Value) (T2:Tags),(∀ b,b<w.heap.size→(T0 b=.ro∨T0 b=.other)→w2.heap[b]?=w.heap[b]?∧T2 b=T0 b)→(∀ b,w2.heap.size≤b→T2 b=.other)→rC T2 w2 rs u→Vl T2 w2 v out→∃ u' T',Ending.returned u=.returned u'∧w.heap.size≤w2.heap.size∧w2.os=w.os∧w2.tape=w.tape∧w2.output=w.output∧(∀ b,b<w.heap.size→(T0 b=.ro∨T0 b=.other)→w2.heap[b]?=w.heap[b]?∧T' b=T0 b)∧(∀ b,w2.heap.size≤b→T' b=.other)∧rC T' w2 rs u'∧Vl T' w2 v out:=fun u T2 s1 s2 s3 s4 =>
   ⟨u,T2,rfl,by omega,e1.trans p2,e2.trans p3,e3.trans p4,s1,s2,s3,s4⟩
  unfold qP at hrs
  cases x with
  |row sz es =>
   obtain ⟨l,h1,h2⟩:=dD hrs
   cases h2
   obtain ⟨u,T2,s0,s1,s2,s3,s4⟩:=plain (fun _ e=>by cases e) h1 rfl
   exact ⟨u,s0,pack u T2 s1 s2 s3 s4⟩
  |own lo =>
   obtain ⟨l,h1,h2⟩:=dD hrs
   cases h2
   obtain ⟨u,T2,s0,s1,s2,s3,s4⟩:=plain (fun _ e=>by cases e) h1 rfl
   exact ⟨u,s0,pack u T2 s1 s2 s3 s4⟩
  |box cs =>
   simp only at hrs
   split at hrs
   case h_2=>cases hrs
   rename_i bx hbx
   split at hrs
   ·cases hrs
   rename_i hfz
   have hfz:bx.fz=false:=by simpa using hfz
   obtain ⟨l,h1,h2⟩:=dD hrs
   cases h2
   obtain ⟨T1,t1,t2,_,_,_⟩:=q1'.o8 0
   obtain ⟨us,T2,r1,r2,r3,r4,r5,_,r7⟩:=sV 0 t1 k6 h1 (ze _)
   have hσ:σ' 0=σ0 0:=q3 0 (by simp [jQ.boxes])
   obtain ⟨arr,E,g1,g2,g3,g4,g5⟩:=t1.boxes 0 bx hbx
   have hT1:T1 (σ' 0)=.box 0:=by rw [g3];simp [hfz]
   have hrow:∀ (j s:Nat) (l:List PV),bx.cs[j]?≠some (BV.row s l):=fun j s l e=>by
    unfold St.aT at hbx
    cases h0:st.boxes[0]? with
    |none=>rw [h0] at hbx;simp only at hbx;rw [h0] at hbx;cases hbx
    |some b0 =>
     rw [h0] at hbx
     have hl0:0<st.boxes.length:=(Z3.1 h0).1
     simp only [List.getElem?_set_self hl0,ZD.injEq] at hbx
     rw [← hbx] at e
     obtain ⟨x,_,hx⟩:=lJ e
     cases hx
   refine ⟨_,sW r1,pack _ (outT T2 (st.aT 0).slots.length) (fin T1 T2 _ t2 r3) (fun b hb=>by simp only [outT,r4 b hb]) ⟨us.toArray,by simpa using r2,rfl,fun i x u hx hu=>RK.out (.inl (by simpa using r5 i x u hx (by simpa using hu)))⟩ fun b hv=>?_⟩
   have hb0:σ' 0=b:=hσ.trans (hσ0 b hv ⟨cs,rfl⟩)
   rw [hb0] at g1 hT1
   refine ⟨by simp only [outT,r7 b 0 hT1],arr,E,g1,by simpa using g2,fun j x u hx hu=>?_⟩
   rw [zc] at hx
   cases hc:bx.cs[j]? with
   |none=>rw [hc] at hx;cases hx
   |some bv =>
    rw [hc] at hx
    have hx:=ZD.inj hx
    subst hx
    obtain ⟨y1,y2⟩:=g5 j bv u hc hu
    refine ⟨y1,?_⟩
    cases bv with
    |pv p=>exact aA.frame (fun b hb _=>⟨by simp only [outT,r3.ro b hb],rfl⟩) y2
    |row s l=>exact absurd hc (hrow j s l)
 cases e with
 |normal=>exact key
 |ret=>exact key
 |exit i=>exact absurd rfl (he i)
 |nC t n=>exact absurd rfl (he2 t n)
end
def zval:PV→Value
 |.int k n=>.int k n
 |.bool b=>.bool b
 |_=>.slice none 0 0
def Gt:List Nat→List (List PV)→World→World
 |b::bs,z::zs,w=>Gt bs zs (w.setRow b (z.map zval).toArray)
 |_,_,w=>w
section
variable {P:Program}{L K nb n:Nat}{F:Fence}{σ σ':Nat→Nat}{T T' T1 T2:Tags}{st st' st1:St}{a a1:Act}{w w1:World}{r:Root}{o:Oper}{bI:Array Oper}{Q:Exit→Act→World→Prop}
 {rec:aj→St→Option (Ex×St)} {env:Env}
theorem tq {fn:Func}{tmps:Array Value}{R:Ending→World→Prop}{B:Nat}{ds:List Deferred}{u:FrameMode}(hu:u≠.run):∀ {ms:List Nat} {w:World},ms.Nodup→(∀ r∈ms,B≤r∧w.heap[r]?=some (.deferred (some []))) →
  (∀ w',w'.os=w.os→w'.tape=w.tape→w'.output=w.output→w'.heap.size=w.heap.size→(∀ b,b ∉ ms→w'.heap[b]?=w.heap[b]?)→LeavesInM Fence.wide 0 P fn tmps R ds u w') →
  LeavesInM Fence.wide 0 P fn tmps R (ms.map jB++ds) u w
 |[],w,_,_,h=>h w rfl rfl rfl rfl fun _ _=>rfl
 |r::ms,w,hnd,hms,h=>by
  simp only [Zai,Zbh,LeavesInM]
  obtain ⟨hn1,hn2⟩:=Zb5.1 hnd
  obtain ⟨k1,k2⟩:=hms r (by simp)
  have hput:∀ b,b≠r→(w.putObj r (.deferred none)).heap[b]?=w.heap[b]?:=fun b hb=>by simp [World.putObj,ZaN,Ne.symm hb]
  refine ⟨hu,.inl ⟨r,_,rfl,run_takeDeferred k2,tq hu (B:=B) hn2 (fun r' hr'=>?_) fun w' e1 e2 e3 e4 e5=>h w' e1 e2 e3 (by rw [e4];simp [World.putObj]) fun b hb=>?_⟩⟩
  ·obtain ⟨q1,q2⟩:=hms r' (by simp [hr'])
   exact ⟨q1,by rw [hput r' (fun e=>hn1 (e ▸ hr'))];exact q2⟩
  ·simp only [ZaL,not_or] at hb
   rw [e5 b hb.2,hput b hb.1]
theorem NK {ok:Nat→Prop}{x:PV}(h:x.UR=true):aA ok w x (zval x)∧(zval x).oneCell'=true:=by
 cases x with
 |int k n=>exact ⟨.int _ _,rfl⟩
 |bool b=>exact ⟨.bool _,rfl⟩
 |list sz l=>cases l with
  |nil=>exact ⟨.nil _ _,rfl⟩
  |cons _ _=>cases h
 |kE sz=>exact ⟨.kE _ _,rfl⟩
 |_=>cases h
theorem aF.setVar (h:aF L σ T st a w){p:Nat}{vals:List PV}(hp:st.setVar p vals=some st'):(∃ arr E,w.heap[σ p]?=some (.cells arr E (0,0))∧arr.size=vals.length)∧aF L σ T st' a (w.setRow (σ p) (vals.map zval).toArray) ∧
  uV T T w (w.setRow (σ p) (vals.map zval).toArray)∧T (σ p)=.box p:=by
 unfold St.setVar at hp
 split at hp
 case h_2=>cases hp
 rename_i bx hb
 split at hp
 ·cases hp
 rename_i hc
 simp only [Za0,ZaJ,decide_eq_false_iff_not,not_or,Zbr,ZbS,Bool.not_eq_false] at hc
 obtain ⟨⟨c1,c2⟩,c3⟩:=hc
 cases ZD.inj hp
 obtain ⟨arr,E,g1,g2,g3,g4,g5⟩:=h.boxes p bx hb
 have:=h.Ai (T':=T) (cs':=vals.map .pv) (arr':=(vals.map zval).toArray) id hb c1 g1 (by simp [c2]) (by simp [g2,c2]) (fun k bv u hk hu=>by
  rw [zc] at hk
  cases hx:vals[k]? with
  |none=>rw [hx] at hk;cases hk
  |some x =>
   rw [hx] at hk
   cases hk
   rw [List.getElem?_toArray,zc,hx] at hu
   cases hu
   obtain ⟨q1,q2⟩:=NK (w:=w.setRow (σ p) (vals.map zval).toArray) (ok:=fun b=>T b=.ro) (zt.1 c3 x (zP hx))
   exact ⟨q2,q1⟩) (fun x=>.inr ⟨rfl,fun k _ s l hk=>by
  rw [zc] at hk
  cases hx:vals[k]? with
  |none=>rw [hx] at hk;cases hk
  |some x=>rw [hx] at hk;cases hk⟩) (fun _ e=>e) (fun _ _ e=>e) (fun _ e=>e) (fun _ _ _ _ _ e=>e) (fun _ _ _ _ _ e=>e) (fun _ _ _ _ e=>e)
 rw [List.map_id] at this
 exact ⟨⟨arr,E,g1,by omega⟩,this.1,this.2,by rw [g3,c1];rfl⟩
theorem aF.nD:∀ {os:List Nat} {zs:List (List PV)} {st:St} {w:World},aF L σ T st a w→St.nD os zs st=some st'→aF L σ T st' a (Gt (os.map σ) zs w)∧uV T T w (Gt (os.map σ) zs w)
 |[],[],st,w,h,hp=>by
  simp only [St.nD,ZD.injEq] at hp
  subst hp
  exact ⟨h,uV.refl T w⟩
 |[],_::_,st,w,_,h=>by simp [St.nD] at h
 |_::_,[],st,w,_,h=>by simp [St.nD] at h
 |o::os,z::zs,st,w,hs,h=>by
  simp only [St.nD] at h
  obtain ⟨s1,h1,h2⟩:=bind_some h
  obtain ⟨_,g1,g2,_⟩:=hs.setVar h1
  obtain ⟨k1,k2⟩:=aF.nD g1 h2
  exact ⟨k1,g2.trans k2⟩
theorem aF.zY (h:aF L σ T st a w){p:Nat}{m:Int}(hp:st.zY p=some m):(∃ E,w.heap[σ p]?=some (.cells #[.int .i64 m] E (0,0)))∧T (σ p)=.box p:=by
 unfold St.zY at hp
 split at hp
 case h_2=>cases hp
 rename_i m' hb
 cases ZD.inj hp
 obtain ⟨arr,E,g1,g2,g3,g4,g5⟩:=h.boxes p _ hb
 refine ⟨⟨E,?_⟩,g3⟩
 match arr,g2 with
 |⟨[u]⟩,_ =>
  have:=(g5 0 _ u rfl rfl).2
  rw [aA.dh this] at g1
  exact g1
theorem VK (hR:oH P rec){f:Nat}{fn:dL}{args:List PV}{t:Nat}{m:Int}(hfn:aS P f fn=true)(hl:args.length=fn.nargs)
  (hb:rec fn.body ⟨args.map .pv++Zao (fn.ntmps - args.length) .any,[],[],none⟩=some (.nC t m,st)):Px P f args t m:=by
 intro T0 w vs h0 hf hlen hr hG
 obtain ⟨_,g,c,k1,k2,k3,k4,k5,k6⟩:=rH hfn
 refine (callsIn_wide (n:=0)).1 (callsIn_of_wp_marks k1 k2 trivial ?_)
 rw [k4]
 have Gq:aF 0 (fun _=>0) T0 ⟨args.map .pv++Zao (fn.ntmps - args.length) .any,[],[],none⟩ { tmps:=vs.toArray++ZaT (fn.ntmps - vs.toArray.size) undef,defers:=[] } w:=Jk hf hlen hr [] none
 have hC:Ctx.Ok ⟨st.ys,none,sZ T0 w⟩ P 0:=⟨fun k T T' w1 w2 hc h=>zk (k:=k) h0 hc h,fun k T w1 h=>hG.frame fun b e hb=>⟨(h.2 b hb).trans e,h.1.block b hb⟩,fun s k T w ps vs hs=>by cases hs⟩
 have hJ:sZ T0 w 0 T0 w:=⟨Below.refl _ _,fun _ _=>rfl⟩
 refine wpIn_mono (hR.wp (F:=Fence.wide) (L:=0) (C:=⟨st.ys,none,sZ T0 w⟩) (n:=0) (.inl rfl) (Ctx.wW _) hC c fn.body _ _ st k3 hb rfl (Zbs _) _ T0 _ w Gq hJ) ?_
 rintro x a' w' ⟨rfl,σ',T',ms,q1,q2,q3,q4,q5,q6⟩
 obtain ⟨p1,p2⟩:=q2
 simp only [toX,bodyPostM]
 rw [q5]
 refine tq (B:=w.heap.size) (by simp) q6.2 (fun r hr=>⟨(q6.1 r hr).1,(q6.1 r hr).2.2⟩) fun w2 e1 e2 e3 e4 e5=>?_
 have hms:∀ b,b<w.heap.size→b ∉ ms:=fun b hb hm=>by have:=(q6.1 b hm).1;omega
 exact ⟨rfl,p1.trans ⟨e1,e2,e3,by omega,fun b hb=>e5 b (hms b hb)⟩⟩
end
def zl (P:Program)(env:Env):Prop:=∀ f d,env f=some d→match d with
 |.code fn=>aS P f fn=true
 |.ext g=>∀ args rs,g args=some rs→callable P f=true∧lN P f args rs
 |.Dz h=>callable P f=true∧FY P f h
 |.nC h=>(∀ args,h args=some none→callable P f=true∧lN P f args [])∧∀ args t n,h args=some (some (t,n))→callable P f=true∧Px P f args t n
 |.dfn _=>False
section
variable {P:Program}{L K:Nat}{σ σ':Nat→Nat}{T T' T1 T2:Tags}{st st' st1:St}{a a1:Act}{w w1:World}{r:Root}
 {rec:aj→St→Option (Ex×St)} {env:Env}
theorem Jl (hR:oH P rec)(hE:zl P env):eG P rec env:=by
 refine ⟨?_,(fun f h e=>hE f _ e),?_,?_⟩
 rotate_left
 ·intro f x args rs out h
  unfold nG at h
  split at h
  ·rename_i fn hfn
   have hok:aS P f fn=true:=hE f _ hfn
   split at h
   case isFalse=>cases h
   replace h:=bind_some h
   obtain ⟨⟨e,st⟩,h1,h⟩:=h
   simp only at h
   refine ⟨(rH hok).1,?_⟩
   split at h
   ·cases h
   ·cases h
   ·rename_i hne hne2
    exact NJ hR hok (fun i e=>hne i e) (fun t n e=>hne2 t n e) h1 h
  ·cases h
 ·intro f args t n h
  unfold DC at h
  split at h
  ·rename_i g hg
   exact (hE f _ hg).2 args t n h
  ·rename_i fn hfn
   have hok:aS P f fn=true:=hE f _ hfn
   split at h
   case isFalse=>cases h
   rename_i hl
   obtain ⟨⟨e,st⟩,h1,h⟩:=bind_some h
   refine ⟨(rH hok).1,?_⟩
   cases e with
   |nC t' n' =>
    simp only [ZD.injEq,Zar.injEq] at h
    obtain ⟨rfl,rfl⟩:=h
    exact VK hR hok hl.1 h1
   |_=>cases h
  ·cases h
 intro f args rs h
 unfold gQ at h
 split at h
 ·rename_i g hg
  exact hE f _ hg args rs h
 ·rename_i fn hfn
  have hok:aS P f fn=true:=hE f _ hfn
  split at h
  case isFalse=>cases h
  rename_i hl
  replace h:=bind_some h
  obtain ⟨⟨e,st⟩,h1,h⟩:=h
  simp only at h
  refine ⟨(rH hok).1,?_⟩
  split at h
  ·cases h
  ·cases h
  ·rename_i hne hne2
   exact RH hR hok hl (fun i e=>hne i e) (fun t n e=>hne2 t n e) h1 h
 ·cases h
 ·rename_i g hg
  obtain ⟨r,h1,h⟩:=bind_some h
  cases r with
  |some p=>cases h
  |none=>cases ZD.inj h;exact (hE f _ hg).1 args h1
 ·rename_i fn hfn
  exact (show False from hE f _ hfn).elim
 ·cases h
theorem VL (hE:zl P env):wY P env:=fun f fn hfn=>by
 have hok:aS P f fn=true:=hE f _ hfn
 obtain ⟨k0,g,c,k1,k2,k3,k4,k5,k6⟩:=rH hok
 refine ⟨k0,g,c,k1,k2,k3,k4,k5,fun he=>?_⟩
 have:fn.results=[]:=by simpa using he
 rw [this] at k6
 have:g.results.toList=[]:=by
  match h:g.results.toList,k6 with
  |[],_=>rfl
  |_::_,k6=>simp [mJ] at k6
 exact Array.toList_eq_nil_iff.1 this
theorem VN (hE:zl P env):∀ n,oH P (vm env n)
 |0=>⟨(fun _ _ _ _ _ _ h=>by simp [vm] at h),(fun _ _ _ _ _ _ _ _ h=>by simp [vm] at h),(fun _ _ _ _ _ _ _ _ _ h=>by simp [vm] at h),(fun _ _ _ _ _ _ _ _ _ _ _ h=>by simp [vm] at h)⟩
 |n+1=>step_ok (VN hE n) (VL hE) (Jl (VN hE n) hE)
theorem qG (hE:zl P env){n f:Nat}{args:List PV}{rs:List qw}(h:Me env n f args=some rs):callable P f=true∧lN P f args rs:=(Jl (VN hE n) hE).1 f args rs h
end
end Go.Proofs.YthccglceomoboaaGreatDoor
namespace Go.Proofs.YthccglceomoboaaGreatDoor
abbrev Rec:=aj→St→Option (Ex×St)
def RLe (f g:Rec):Prop:=∀ c st r,f c st=some r→g c st=some r
open Classical in
noncomputable def den (env:Env)(c:aj)(st:St):Option (Ex×St) :=
 if h:∃ n r,vm env n c st=some r then some (Zcl (Zbm h)) else none
structure Good {α:Type}(env:Env)(F:Rec→Option α):Prop where
 mono:∀ f g,RLe f g→∀ r,F f=some r→F g=some r
 cont:(∀ m n,m≤n→RLe (vm env m) (vm env n))→∀ r,F (den env)=some r→∃ n,F (vm env n)=some r
section
variable {α β:Type}{env:Env}
theorem Good.const (x:Option α):Good env (fun _=>x):=⟨fun _ _ _ _ h=>h,fun _ _ h=>⟨0,h⟩⟩
theorem Good.app (c:aj)(st:St):Good env (fun rec=>rec c st):=⟨fun _ _ h r=>h c st r,fun _ r h=>by
 unfold den at h
 split at h
 case isFalse=>cases h
 rename_i hx
 cases h
 exact ⟨_,Zbm (Zbm hx)⟩⟩
theorem Good.bind {F:Rec→Option α}{G:α→Rec→Option β}(hF:Good env F)(hG:∀ a,Good env (G a)):Good env (fun rec=>(F rec).bind fun a=>G a rec):=⟨fun f g h r e=>by
 obtain ⟨a,h1,h2⟩:=Zaz.1 e
 exact Zaz.2 ⟨a,hF.mono f g h a h1,(hG a).mono f g h r h2⟩,fun hm r e=>by
 obtain ⟨a,h1,h2⟩:=Zaz.1 e
 obtain ⟨m,h3⟩:=hF.cont hm a h1
 obtain ⟨n,h4⟩:=(hG a).cont hm r h2
 exact ⟨max m n,Zaz.2 ⟨a,hF.mono _ _ (hm m _ (Nat.le_max_left m n)) a h3,(hG a).mono _ _ (hm n _ (Zc3 m n)) r h4⟩⟩⟩
theorem Good.map {F:Rec→Option α}{g:α→β}(hF:Good env F):Good env (fun rec=>(F rec).map g):=by
 have:=hF.bind (G:=fun a _=>some (g a)) fun a=>Good.const _
 refine ⟨fun f g' h r e=>?_,fun hm r e=>?_⟩
 ·have:=this.mono f g' h r (by simpa [ZbO,Zbx] using e)
  simpa [ZbO,Zbx] using this
 ·obtain ⟨n,hn⟩:=this.cont hm r (by simpa [ZbO,Zbx] using e)
  exact ⟨n,by simpa [ZbO,Zbx] using hn⟩
theorem Good.gQ (f:Nat)(args:List PV):Good env (fun rec=>gQ rec env f args):=by
 unfold Go.Proofs.YthccglceomoboaaGreatDoor.gQ
 split
 ·exact Good.const _
 ·split
  ·refine (Good.app _ _).bind fun a=>?_
   obtain ⟨e,st⟩:=a
   cases e<;>exact Good.const _
  ·exact Good.const _
 ·exact Good.const _
 ·exact Good.const _
 ·split
  ·refine (Good.app _ _).bind fun a=>?_
   split
   ·exact (Good.const _).bind fun st0=>(Good.app _ _).bind fun r=>Good.const _
   ·exact Good.const _
  ·exact Good.const _
 ·exact Good.const _
theorem Good.DC (f:Nat)(args:List PV):Good env (fun rec=>DC rec env f args):=by
 unfold Go.Proofs.YthccglceomoboaaGreatDoor.DC
 split
 ·exact Good.const _
 ·split
  ·exact (Good.app _ _).bind fun a=>Good.const _
  ·exact Good.const _
 ·exact Good.const _
theorem Good.jl (f:Nat)(args:List PV)(s:Option Nat):Good env (fun rec=>jl rec env f args s):=by
 unfold Go.Proofs.YthccglceomoboaaGreatDoor.jl
 split
 ·split
  ·refine (Good.app _ _).bind fun a=>?_
   obtain ⟨e,st⟩:=a
   cases e<;>exact Good.const _
  ·exact Good.const _
 ·exact Good.const _
theorem Good.jg (d f:Nat)(args:List bf)(caps:List AV)(st:St):Good env (fun rec=>jg rec env d f args caps st):=by
 unfold Go.Proofs.YthccglceomoboaaGreatDoor.jg
 exact (Good.const _).bind fun l=>(Good.const _).bind fun k=>(Good.gQ f _).bind fun rs=>Good.const _
theorem Good.nG (f:Nat)(x:jQ)(args:List PV):Good env (fun rec=>nG rec env f x args):=by
 unfold Go.Proofs.YthccglceomoboaaGreatDoor.nG
 split
 ·split
  ·refine (Good.app _ _).bind fun a=>?_
   obtain ⟨e,st⟩:=a
   cases e<;>exact Good.const _
  ·exact Good.const _
 ·exact Good.const _
theorem Good.iC (d f:Nat)(x:bf)(args:List bf)(caps:List AV)(st:St):Good env (fun rec=>iC rec env d f x args caps st):=by
 unfold Go.Proofs.YthccglceomoboaaGreatDoor.iC nZ
 exact (Good.const _).bind fun l=>(Good.const _).bind fun k=>(Good.const _).bind fun q=>(Good.nG f _ _).bind fun r=>Good.const _
theorem Good.act (o:fG)(st:St):Good env (fun rec=>act rec env o st):=by
 cases o
 case call d f args=>exact Good.jg d f args [] st
 case jP d x args =>
  unfold Go.Proofs.YthccglceomoboaaGreatDoor.act
  simp only
  split
  ·exact Good.jg _ _ _ _ _
  ·exact Good.jg _ _ _ _ _
  ·exact Good.const _
 case pk d f x =>
  unfold Go.Proofs.YthccglceomoboaaGreatDoor.act
  simp only
  split
  ·exact (Good.const _).bind fun b=>(Good.gQ f _).bind fun rs=>Good.const _
  ·exact Good.const _
 case lin d f x args=>exact Good.iC d f x args [] st
 case linv d g x args =>
  unfold Go.Proofs.YthccglceomoboaaGreatDoor.act
  simp only
  split
  ·exact Good.iC _ _ _ _ _ _
  ·exact Good.iC _ _ _ _ _ _
  ·exact Good.const _
 all_goals exact Good.const _
theorem Good.op1 (o:fG)(st:St):Good env (fun rec=>op1 rec env o st):=by
 unfold Go.Proofs.YthccglceomoboaaGreatDoor.op1
 split
 ·exact Good.act o st
 ·exact Good.const _
theorem Good.op (o:fG)(st:St):Good env (fun rec=>op rec env o st):=by
 unfold Go.Proofs.YthccglceomoboaaGreatDoor.op
 split
 ·split
  ·split
   ·exact Good.op1 _ _
   ·exact Good.const _
  ·exact Good.const _
  ·exact Good.const _
 ·exact Good.op1 _ _
theorem Good.ops:∀ (l:List fG) (st:St),Good env (fun rec=>ops rec env l st)
 |[],st=>Good.const _
 |o::l,st=>(Good.op o st).bind fun st=>Good.ops l st
theorem Good.rounds (slots:List AV)(ps:List Nat)(assign body:aj)(nb:Nat):∀ (xs:List (List PV)) (k:Nat) (st:St),Good env (fun rec=>rounds rec slots ps assign body nb k xs st)
 |[],k,st=>by unfold Go.Proofs.YthccglceomoboaaGreatDoor.rounds;exact Good.const _
 |x::xs,k,st=>by
  unfold Go.Proofs.YthccglceomoboaaGreatDoor.rounds
  refine (Good.const _).bind fun sl=>(Good.app _ _).bind fun a=>?_
  obtain ⟨e,st⟩:=a
  cases e
  case normal =>
   refine (Good.app _ _).bind fun a=>?_
   obtain ⟨e,st⟩:=a
   cases e
   case normal =>
    simp only
    split
    ·exact Good.rounds slots ps assign body nb xs (k+1) _
    ·exact Good.const _
   all_goals exact Good.const _
  all_goals exact Good.const _
theorem Good.ranged (g:bf)(ps:List Nat)(assign body:aj)(st:St):Good env (fun rec=>ranged rec env g ps assign body st):=by
 unfold Go.Proofs.YthccglceomoboaaGreatDoor.ranged
 refine (Good.const _).bind fun v=>?_
 cases v<;>try exact Good.const _
 simp only
 refine (Good.jl _ _ _).bind fun xs=>(Good.rounds _ _ _ _ _ _ _ _).bind fun r=>?_
 obtain ⟨r,st1⟩:=r
 cases r with
 |none=>exact Good.const _
 |some p =>
  obtain ⟨e,k⟩:=p
  refine (Good.jl _ _ _).bind fun xs=>(Good.rounds _ _ _ _ _ _ _ _).bind fun r=>?_
  obtain ⟨r,st1⟩:=r
  cases r<;>exact Good.const _
theorem Good.kX (keep:List Nat)(vo:List fG)(st:St)(x:fP):Good env (fun rec=>kX rec env keep vo st x):=by
 unfold Go.Proofs.YthccglceomoboaaGreatDoor.kX
 exact (Good.ops _ _).bind fun s=>Good.const _
theorem Good.agree (keep:List Nat)(vo:List fG)(st s:St):∀ l:List fP,Good env (fun rec=>agree s (l.map (Go.Proofs.YthccglceomoboaaGreatDoor.kX rec env keep vo st)))
 |[]=>Good.const _
 |x::xs=>by
  simp only [Zai,Go.Proofs.YthccglceomoboaaGreatDoor.agree]
  refine (Good.kX keep vo st x).bind fun s'=>?_
  split
  ·exact Good.agree keep vo st s xs
  ·exact Good.const _
theorem Good.kC (keep:List Nat)(vo:List fG)(st:St)(l:List fP):Good env (fun rec=>kC rec env keep vo st l):=by
 cases l with
 |nil=>exact Good.const _
 |cons x xs =>
  simp only [Go.Proofs.YthccglceomoboaaGreatDoor.kC]
  exact (Good.kX keep vo st x).bind fun s=>Good.agree keep vo st s xs
theorem Good.step (c:aj)(st:St):Good env (fun rec=>step rec env c st):=by
 cases c
 case ops l=>exact (Good.ops l st).map
 case qp fz _ _ _ l=>exact (Good.ops l (fz.foldl St.gJ st)).map
 case drs fz keep vo alts=>exact (Good.kC keep vo (fz.foldl St.gJ st) alts).map
 case lend d ks l =>
  simp only [Go.Proofs.YthccglceomoboaaGreatDoor.step]
  split
  ·split
   ·exact ((Good.ops l _).bind fun s=>Good.const _).map
   ·exact Good.const _
  ·exact Good.const _
 case seq a b =>
  refine (Good.app _ _).bind fun x=>?_
  obtain ⟨e,st⟩:=x
  cases e
  case normal=>exact Good.app _ _
  all_goals exact Good.const _
 case cond c a b =>
  refine (Good.const _).bind fun v=>?_
  cases v<;>try exact Good.const _
  simp only
  split
  ·exact Good.app _ _
  ·exact Good.app _ _
 case block i a =>
  refine (Good.app _ _).bind fun x=>?_
  obtain ⟨e,st⟩:=x
  exact Good.const _
 case loop=>exact Good.app _ _
 case scp=>exact Good.app _ _
 case round keep nb a =>
  refine (Good.const _).bind fun s=>(Good.app _ _).bind fun x=>?_
  obtain ⟨e,st⟩:=x
  cases e
  case normal=>exact Good.app _ _
  all_goals exact Good.const _
 case rng g ps assign body=>exact Good.ranged g ps assign body st
 case clean pre post a =>
  refine (Good.const _).bind fun s=>(Good.app _ _).bind fun x=>?_
  obtain ⟨e,st⟩:=x
  exact Good.const _
 case dem l d f args =>
  refine (Good.ops l st).bind fun st1=>(Good.const _).bind fun vs=>(Good.DC f vs).bind fun r=>?_
  cases r with
  |some p=>exact Good.const _
  |none=>exact (Good.act _ _).map
 all_goals exact Good.const _
theorem PK (env:Env):∀ n,RLe (vm env n) (vm env (n+1))
 |0,c,st,r,h=>by simp [vm] at h
 |n+1,c,st,r,h=>(Good.step (env:=env) c st).mono _ _ (PK env n) r h
theorem Jm (env:Env)(m n:Nat)(h:m≤n):RLe (vm env m) (vm env n):=by
 induction h with
 |refl=>exact fun _ _ _ h=>h
 |step _ ih=>exact fun c st r h=>PK env _ c st r (ih c st r h)
theorem EN {n:Nat}{c:aj}{st:St}{r:Ex×St}(h:vm env n c st=some r):den env c st=some r:=by
 have hx:∃ n r,vm env n c st=some r:=⟨n,r,h⟩
 unfold den
 rw [dif_pos hx]
 have h2:=Zbm (Zbm hx)
 have h3:=Jm env _ _ (Nat.le_max_left n (Zcl hx)) c st r h
 have h4:=Jm env _ _ (Zc3 n (Zcl hx)) c st _ h2
 rw [h3] at h4
 exact h4.symm
theorem RN {c:aj}{st:St}{r:Ex×St}(h:den env c st=some r):∃ n,vm env n c st=some r :=
 (Good.app c st).cont (Jm env) r h
theorem VO (env:Env)(n:Nat):RLe (vm env n) (den env):=fun _ _ _ h=>EN h
theorem kH (env:Env)(c:aj)(st:St):den env c st=step (den env) env c st:=by
 apply Option.ext
 intro r
 constructor
 ·intro h
  obtain ⟨n,hn⟩:=RN h
  cases n with
  |zero=>simp [vm] at hn
  |succ n=>exact (Good.step c st).mono _ _ (VO env n) r hn
 ·intro h
  obtain ⟨n,hn⟩:=(Good.step c st).cont (Jm env) r h
  exact EN (n:=n+1) hn
noncomputable def cal (env:Env)(f:Nat)(args:List PV):Option (List qw):=gQ (den env) env f args
noncomputable def AY (env:Env)(f:Nat)(x:jQ)(args:List PV):Option (List qw×Option (List PV)):=nG (den env) env f x args
theorem jW {f:Nat}{args:List PV}{rs:List qw}(h:cal env f args=some rs):∃ n,Me env n f args=some rs :=
 (Good.gQ (env:=env) f args).cont (Jm env) rs h
theorem eH {n f:Nat}{args:List PV}{rs:List qw}(h:Me env n f args=some rs):cal env f args=some rs :=
 (Good.gQ (env:=env) f args).mono _ _ (VO env n) rs h
end
end Go.Proofs.YthccglceomoboaaGreatDoor
