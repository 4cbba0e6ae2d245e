/-
  Part 3 of the texts that the statement stands on.
-/
import Derived.Test.YtioijcfcehhmdaaGreatDoorZ2
import Derived.RangeFuncNested
import Derived.RangeFuncRecord
import Derived.RangeFuncIn
import Derived.RangeFuncLeaves
import Derived.Scope
set_option linter.all false
open Option renaming some → ZD, map_some → Zah, map_eq_some_iff → Zat, bind_eq_some_iff → Za6, isNone_iff_eq_none → Zbn, getD_some → ZbJ, map_eq_bind → Zcp
open List renaming getElem?_eq_getElem → ZS, length_map → Z2, getElem?_eq_some_iff → Z6, getElem?_map → zb, length_nil → zd, getElem?_set → zp, drop_eq_getElem_cons → zw, all_eq_true → zE, getElem?_append_right → zP, mem_of_getElem? → Zab, getElem?_append_left → Zad, mem_cons → Zaf, map_nil → Zai, map_cons → Zaj, getElem?_cons_zero → Zak, replicate → Zal, getElem?_take → Zaq, mem_singleton → Zav, nodup_cons → Zax, append_assoc → Zay, nodup_nil → ZaB, append_nil → ZaE, getElem?_cons_succ → ZaH, getElem?_toArray → ZaL, getElem?_eq_none → ZaV, size_toArray → ZaX, mem_iff_getElem? → ZaZ, cons_append → Za3, nil_append → Za4, take_append_drop → Zbc, take_left' → Zbp, getElem?_replicate → Zbq, takeWhile_append_dropWhile → Zbu, isEmpty_eq_false_iff → Zbw, drop_left' → Zbx, prefix_refl → ZbC, mem_filterMap → ZbE, mem_cons_of_mem → ZbF, drop_of_length_le → ZbO, exists_mem_of_ne_nil → Zcm, mapM_cons → Zcs, getElem?_eq_none_iff → Zdc
open Bool renaming and_eq_true → ZZ, false_eq_true → zg, not_eq_true' → ZaR, or_eq_true → Za7, not_eq_true → Zbr, not_eq_false → ZdU
open Nat renaming le_refl → ze, le_trans → zr, lt_of_lt_of_le → Zae, lt_or_ge → Zbf, le_max_right → ZdZ
open Array renaming getElem?_eq_getElem → zj, getElem?_eq_some_iff → zz, getD_eq_getD_getElem? → ZaN, getElem?_setIfInBounds → Zbh, replicate → Zbj, getElem?_append_left → Zbt, append_assoc → ZdJ, empty_append → ZdK
open Prod renaming mk → ZaD
open Classical renaming choose_spec → ZbV, not_not → Zb0, choose → Zdi
open Function renaming comp_def → Zcu
namespace Go.Proofs.YtioijcfcehhmdaaGreatDoor
open Go.RowKit
section
variable {P:Program}{F:Fence}{C:Ctx}{n L nb:Nat}{σ σ':Nat→Nat}{T T' T1 T2:Tags}{st st' st1:St}{a a1:Act}{w w1:World}{o:Oper}{vo:iG}{y:Operand}{x:bU}{d:Nat}
 {rec:ay→St→Option (Ex×St)} {env:Env} {next:Act→World→Prop} {Q:Act→World→Prop} {cu:Array Oper} {ds:List Deferred} {e:Ex}
theorem aV.kZ:∀ (fz:List bU) {st:St} {T:Tags},aV L σ T st a w→∃ T1,aV L σ T1 (fz.foldl St.jh st) a w∧Still T T1
 |[],st,T,h=>⟨T,h,Still.refl T⟩
 |x::fz,st,T,h=>by
  have:∃ T1,aV L σ T1 (st.jh x) a w∧Still T T1:=by
   unfold St.jh
   split
   ·rename_i p _ _
    refine ⟨_,h.bD p,?_⟩
    split
    ·exact Still.jW T p
    ·exact Still.refl T
   ·exact ⟨T,h,Still.refl T⟩
  obtain ⟨T1,h1,h2⟩:=this
  obtain ⟨T2,h3,h4⟩:=aV.kZ fz h1
  exact ⟨T2,h3,h2.trans h4⟩
theorem DF {K:Act→Prop}{seg:List Nat}{vs:List iG}(h:aV L σ T st a w)(hm:vZ P cu seg vs=true)(hp:ops rec env vs st=some st')(hK:∀ a' T',aV L σ T' st' a' w→Still T T'→a'.defers=a.defers→aY st st'→K a'):wpQuiet P cu (Whole w) K (pick cu seg) a:=by
 simp only [vZ,ZZ] at hm
 have hv:∀ v∈vs,v∈vs∧nM (core v)=false:=fun v hv=>⟨hv,by simpa using zE.1 hm.2 v hv⟩
 have hmono:=H6 (rec:=rec) (env:=env) (fun v h=>(hv v h).2) hp
 exact acM (vs0:=vs) (fun T1 st1 st2 a1 o v _ _ hs hm _ hp=>RX hs hm hp) hv (Still.refl T) h hm.1 hp fun a' T' g1 g2 g3=>hK a' T' g1 g2 g3 hmono
theorem LX {v:iG}(hv:Bz v=true):nM v=false:=by
 cases v<;>first|rfl|(simp [Bz,Hz] at hv)
def Og (T:Tags)(w w':World):Prop:=w.heap.size≤w'.heap.size∧∀ b,b<w.heap.size→T b=.ro→w'.heap[b]?=w.heap[b]?
theorem dB.ak2 (h:dB T T' w w1):Og T w w1:=⟨h.size,h.same⟩
theorem Even.trans {T T' T'':Tags}(h:Even T T')(k:Even T' T''):Even T T'':=⟨h.still.trans k.still,fun b e=>h.back b (k.back b e)⟩
theorem RY {v:iG}(hv:BA v=true):nM v=false:=by
 cases v<;>first|rfl|(simp [BA] at hv)
theorem pX:∀ {ok:Bool} {vs:List iG},mJ ok vs=true→∀ v∈vs,nM (core v)=false
 |ok,[],_,v,hv=>by cases hv
 |ok,u::vs,h,v,hv=>by
  simp only [mJ,Za7,ZZ] at h
  rcases Zaf.1 hv with rfl|hv
  ·rcases h with (h|h)|h
   ·exact LX (by simp only [Bz,h.1,Bool.true_or])
   ·exact RY h.1
   ·exact LX h.1.2
  ·rcases h with (h|h)|h
   ·exact pX h.2 v hv
   ·exact pX h.2 v hv
   ·exact pX h.2 v hv
theorem tN {S:World→Prop}(hS:∀ w',S w'→Og T w w'){K:Act→Prop}:∀ {ok:Bool} {l:List Oper} {vs:List iG} {st:St} {T1:Tags} {a:Act},mJ ok vs=true→(ok=true→Even T T1)→Still T T1→aV L σ T1 st a w→mL P cu l vs=true→ops rec env vs st=some st' →
  (∀ a' T',aV L σ T' st' a' w→Still T T'→a'.defers=a.defers→K a')→wpQuiet P cu S K l a
 |_,[],[],st,T1,a,_,_,ht,h,_,hp,hK=>by
  simp only [ops,ZD.injEq] at hp;subst hp
  exact hK _ _ h ht rfl
 |_,[],_::_,_,_,_,_,_,_,_,hm,_,_=>by simp [mL] at hm
 |_,_::_,[],_,_,_,_,_,_,_,hm,_,_=>by simp [mL] at hm
 |ok,o::l,v::vs,st,T1,a,hq,he,ht,h,hm,hp,hK=>by
  have hact:=pX hq v (by simp)
  simp only [mJ,Za7,ZZ] at hq
  simp only [mL,ZZ] at hm
  simp only [ops] at hp
  obtain ⟨st1,h1,h2⟩:=bind_some hp
  unfold wpQuiet
  rcases EP h hm.1 h1 with ⟨g1,g2,g3⟩|⟨g1,g2⟩
  ·rw [if_pos g1]
   simp only [op1,hact] at g3
   rcases hq with (hq|hq)|hq
   ·obtain ⟨u,T2,k1,k2,k3⟩:=HY h g2 hq.1 g3
    exact ⟨u,fun w' _=>by unfold Oper.quietAt;rw [k1 w'];exact ⟨rfl,rfl⟩,tN hS hq.2 (fun e=>(he e).trans k3) (ht.trans k3.still) k2 hm.2 h2 fun a' T' q1 q2 q3=>hK a' T' q1 q2 (q3.trans put_defers)⟩
   ·obtain ⟨u,T2,k1,k2,k3⟩:=RU h g2 hq.1 g3
    exact ⟨u,fun w' _=>by unfold Oper.quietAt;rw [k1 w'];exact ⟨rfl,rfl⟩,tN hS hq.2 (fun e=>by cases e) (ht.trans k3) k2 hm.2 h2 fun a' T' q1 q2 q3=>hK a' T' q1 q2 (q3.trans put_defers)⟩
   ·obtain ⟨⟨q1,q2⟩,q3⟩:=hq
    have he:=he q1
    simp only [Bz,Za7] at q2
    rcases q2 with q2|q2
    ·obtain ⟨u,T2,k1,k2,k3⟩:=HY h g2 q2 g3
     exact ⟨u,fun w' _=>by unfold Oper.quietAt;rw [k1 w'];exact ⟨rfl,rfl⟩,tN hS q3 (fun _=>he.trans k3) (ht.trans k3.still) k2 hm.2 h2 fun a' T' q1 q2 q3=>hK a' T' q1 q2 (q3.trans put_defers)⟩
    ·generalize core v=u at g2 g3 q2
     cases u<;>simp only [zg] at q2
     rename_i d n x
     simp only [m1,ZZ,beq_iff_eq,mv] at g2
     obtain ⟨hd,hm'⟩:=g2
     split at hm'<;>try (cases hm';done)
     rename_i ho
     simp only [ZZ,beq_iff_eq] at hm'
     obtain ⟨b,u,k3,k4,k5,k6⟩:=Q8 h hd ho hm'.1 hm'.2 g3
     exact ⟨u,fun w' hw'=>by unfold Oper.quietAt;rw [k3 w' ((hS w' hw').2 _ k5 (he.back _ k6))];exact ⟨rfl,rfl⟩,tN hS q3 (fun _=>he) ht k4 hm.2 h2 fun a' T' q1 q2 q3=>hK a' T' q1 q2 (q3.trans put_defers)⟩
  ·rw [if_neg (by rw [g1];simp)]
   rcases hq with (hq|hq)|hq
   ·exact tN hS hq.2 he ht g2 hm.2 h2 fun a' T' q1 q2 q3=>hK a' T' q1 q2 (q3.trans put_defers)
   ·exact tN hS hq.2 (fun e=>by cases e) ht g2 hm.2 h2 fun a' T' q1 q2 q3=>hK a' T' q1 q2 (q3.trans put_defers)
   ·exact tN hS hq.2 he ht g2 hm.2 h2 fun a' T' q1 q2 q3=>hK a' T' q1 q2 (q3.trans put_defers)
theorem ahp {S:World→Prop}(hS:∀ w',S w'→Og T w w'){K:Act→Prop}{l:List Oper}{vs:List iG}(h:aV L σ T st a w)(hm:mL P cu l vs=true)(hq:mJ true vs=true)(hp:ops rec env vs st=some st')(hK:∀ a' T',aV L σ T' st' a' w→Still T T'→a'.defers=a.defers→aY st st'→K a'):wpQuiet P cu S K l a:=by
 have hmono:=H6 (rec:=rec) (env:=env) (pX hq) hp
 exact tN hS hq (fun _=>Even.refl T) (Still.refl T) h hm hp fun a' T' g1 g2 g3=>hK a' T' g1 g2 g3 hmono
theorem Ad (hW:lJ F)(hC:C.Ok P L)(bC:gQ P rec env)(h:aV L σ T st a w)(hJ:C.J st.ys.length T w)(hst:st.stop=C.stop){i:Nat}(hm:mL P cu (pick cu [i]) [vo]=true)(hp:op rec env vo st=some st')(hX:st'.ys <+: C.X){R:Act→World→Prop}
  (hn:∀ a' w',After C L st.boxes.length σ T w st' a.defers a' w'→(RP vo=true→Whole w w')→R a' w'):wpListIn F n P cu (fun e a'' w''=>e=.normal∧R a'' w'') (pick cu [i]) a w:=by
 cases ho:cu[i]? with
 |none=>simp [pick,ho,mL] at hm
 |some o =>
  simp only [pick,List.filterMap_cons,ho,List.filterMap_nil,mL,ZZ] at hm ⊢
  simp only [wpListIn]
  exact acL hW hC bC h hJ hst hm.1 hp hX fun a' w' g1 g2=>⟨trivial,hn a' w' g1 g2⟩
theorem tV {v:iG}{vs:List iG}(h:ops rec env (v::vs) st=some st'):∃ st1,op rec env v st=some st1∧ops rec env vs st1=some st':=bind_some h
def Vu (S2:World→Prop)(T:Tags)(w:World):World→Prop:=fun w'=>S2 w'∧Og T w w'
theorem ig {S2:World→Prop}(Fq:∀ T' w',dB T T' w w'→S2 w'):∀ T' w',dB T T' w w'→Vu S2 T w w':=fun T' w' h=>⟨Fq T' w' h,h.ak2⟩
theorem wo {S2:World→Prop}{K:Act→Prop}{l:List Oper}{vs:List iG}(h:aV L σ T st a w)(hm:mL P cu l vs=true)(hq:mJ true vs=true)(hp:ops rec env vs st=some st')(hK:∀ a' T',aV L σ T' st' a' w→Still T T'→a'.defers=a.defers→aY st st'→K a'):wpQuiet P cu (Vu S2 T w) K l a:=by
 exact ahp (fun _ h=>h.2) h hm hq hp hK
theorem Oh (hW:lJ F)(hC:C.Ok P L)(bC:gQ P rec env)(hX:st'.ys <+: C.X){last:List Nat}:∀ {tl:List (List Nat×Nat)} {S2:World→Prop} {vs:List iG} {st:St} {σ:Nat→Nat} {T:Tags} {a:Act} {w:World},aV L σ T st a w→(∀ T' w',dB T T' w w'→S2 w')→C.J st.ys.length T w→st.stop=C.stop→BD P cu last tl vs=true→ops rec env vs st=some st' →
  (∀ a' w',After C L st.boxes.length σ T w st' a.defers a' w'→Q a' w')→qA F n P cu Q last S2 tl a w
 |[],S2,vs,st,σ,T,a,w,h,Fq,hJ,hst,hm,hp,hn=>by
  unfold qA
  simp only [BD,ZZ] at hm
  refine ⟨Vu S2 T w,fun _ h=>h.1,ig Fq T w (dB.refl T w),?_⟩
  refine wo h hm.1 hm.2 hp fun a3 T3 q1 q2 q3 q4=>hn _ _ ?_
  rw [← q3]
  exact After.vX hC q1 (by rw [q4.2.1];exact hJ) (q2.pV w) fun _ _=>rfl
 |(seg,i)::more,S2,vs,st,σ,T,a,w,h,Fq,hJ,hst,hm,hp,hn=>by
  unfold qA
  simp only [BD,ZZ] at hm
  obtain ⟨⟨⟨hm1,hmu⟩,hmq⟩,hm2⟩:=hm
  split at hm2
  case h_2=>cases hm2
  rename_i v vs' hvs
  simp only [ZZ] at hm2
  obtain ⟨hm2,hm3⟩:=hm2
  rw [← Zbc (RQ cu i seg).length vs,← Zbc (Vt cu i seg).length (vs.drop (RQ cu i seg).length),hvs] at hp
  obtain ⟨st1,p1,p2⟩:=fD hp
  obtain ⟨st1',pu,p2⟩:=fD p2
  obtain ⟨st2,p2,p3⟩:=tV p2
  have gl:=gu (rec:=rec) (env:=env) p3
  refine DF h hm1 p1 fun a0 T0 f1 f2 f3 f4=>?_
  have Ae:∀ T' w',dB T0 T' w w'→S2 w':=fun T' w' hw=>Fq T' w' ((f2.pV w).stays.trans hw)
  refine ⟨Vu S2 T0 w,fun _ h=>h.1,ig Ae T0 w (dB.refl T0 w),?_⟩
  refine wo f1 hmu hmq pu fun a1 T1 g1 g2e g3 g4'=>?_
  have g2':=g2e
  have g2:=f2.trans g2'
  have g4:=f4.trans g4'
  have hJ1:C.J st1'.ys.length T1 w:=by rw [g4.2.1];exact hC.keep _ _ _ _ _ (g2.pV w) hJ
  refine Ad hW hC bC g1 hJ1 (g4.2.2.trans hst) hm2 p2 (gl.2.1.trans hX) ?_
  rintro a2 w2 ⟨σ2,T2,ms,k1,k2,k3,k4,k5,k6⟩ _
  have hs4:=((g2'.pV w).stays).trans k4
  have hn3:∀ T' w',dB T2 T' w2 w'→Vu S2 T0 w w':=fun T' w' hw'=>ig Ae T' w' (hs4.trans hw')
  refine ⟨hn3 _ _ (dB.refl _ _),Oh hW hC bC hX k1 hn3 k2 (((iY p2).2.2.trans g4.2.2).trans hst) hm3 p3 fun a' w' hA=>hn _ _ ?_⟩
  exact After.trans (((g2.pV w).stays).trans k4) (fun k hk=>k3 k (Zae hk g4.1)) (by rw [k5,g3,f3]) k6 (zr g4.1 (iY p2).1) hA
theorem V6 (hW:lJ F)(hC:C.Ok P L)(bC:gQ P rec env)(hX:st'.ys <+: C.X){fin:Fin1}{last:List Nat}:∀ {acts:List (List Nat×Nat)} {S2:World→Prop} {vs:List iG} {st:St} {σ:Nat→Nat} {T:Tags} {a:Act} {w:World},aV L σ T st a w→(∀ T' w',dB T T' w w'→S2 w')→C.J st.ys.length T w→st.stop=C.stop→Ac P cu fin last acts vs=true→ops rec env vs st=some st' →
  (∀ a' w',After C L st.boxes.length σ T w st' a.defers a' w'→Q a' w')→tK F n P cu Q (Whole w) S2 acts fin last a w
 |[],S2,vs,st,σ,T,a,w,h,Fq,hJ,hst,hm,hp,hn=>by
  cases fin with
  |none =>
   unfold tK
   simp only [Ac] at hm
   refine DF h hm hp fun a' T' g1 g2 g3 g4=>hn _ _ ?_
   rw [← g3]
   exact After.vX hC g1 (by rw [g4.2.1];exact hJ) (g2.pV w) fun _ _=>rfl
  |some p =>
   obtain ⟨fA,fB,f,tl⟩:=p
   unfold tK
   simp only [Ac,ZZ] at hm
   obtain ⟨⟨⟨hm1,hmu⟩,hmq⟩,hm2⟩:=hm
   split at hm2
   case h_2=>cases hm2
   rename_i v vs' hvs
   simp only [ZZ] at hm2
   obtain ⟨hm2,hm3⟩:=hm2
   rw [← Zbc fA.length vs,← Zbc fB.length (vs.drop fA.length),hvs] at hp
   obtain ⟨st1,p1,p2⟩:=fD hp
   obtain ⟨st1',pu,p2⟩:=fD p2
   obtain ⟨st2,p2,p3⟩:=tV p2
   have gl:=gu (rec:=rec) (env:=env) p3
   refine DF h hm1 p1 fun a0 T0 f1 f2 f3 f4=>?_
   have Ae:∀ T' w',dB T0 T' w w'→S2 w':=fun T' w' hw=>Fq T' w' ((f2.pV w).stays.trans hw)
   refine ⟨Vu S2 T0 w,fun _ h=>h.1,ig Ae T0 w (dB.refl T0 w),?_⟩
   refine wo f1 hmu hmq pu fun a1 T1 g1 g2e g3 g4'=>?_
   have g2':=g2e
   have g2:=f2.trans g2'
   have g4:=f4.trans g4'
   have hJ1:C.J st1'.ys.length T1 w:=by rw [g4.2.1];exact hC.keep _ _ _ _ _ (g2.pV w) hJ
   refine Ad hW hC bC g1 hJ1 (g4.2.2.trans hst) hm2 p2 (gl.2.1.trans hX) ?_
   rintro a2 w2 ⟨σ2,T2,ms,k1,k2,k3,k4,k5,k6⟩ _
   have hs4:=((g2'.pV w).stays).trans k4
   have hn3:∀ T' w',dB T2 T' w2 w'→Vu S2 T0 w w':=fun T' w' hw'=>ig Ae T' w' (hs4.trans hw')
   refine ⟨hn3 _ _ (dB.refl _ _),Oh hW hC bC hX k1 hn3 k2 (((iY p2).2.2.trans g4.2.2).trans hst) hm3 p3 fun a' w' hA=>hn _ _ ?_⟩
   exact After.trans (((g2.pV w).stays).trans k4) (fun k hk=>k3 k (Zae hk g4.1)) (by rw [k5,g3,f3]) k6 (zr g4.1 (iY p2).1) hA
 |(seg,i)::more,S2,vs,st,σ,T,a,w,h,Fq,hJ,hst,hm,hp,hn=>by
  unfold tK
  simp only [Ac,ZZ] at hm
  obtain ⟨⟨⟨hm1,hmu⟩,hmq⟩,hm2⟩:=hm
  split at hm2
  case h_2=>cases hm2
  rename_i v vs' hvs
  simp only [ZZ] at hm2
  obtain ⟨⟨hm2,hm3⟩,hm4⟩:=hm2
  rw [← Zbc (nD cu fin seg).length vs,← Zbc (mF cu fin seg).length (vs.drop (nD cu fin seg).length),hvs] at hp
  obtain ⟨st1,p1,p2⟩:=fD hp
  obtain ⟨st1',pu,p2⟩:=fD p2
  obtain ⟨st2,p2,p3⟩:=tV p2
  have gl:=gu (rec:=rec) (env:=env) p3
  refine DF h hm1 p1 fun a0 T0 f1 f2 f3 f4=>?_
  have Ae:∀ T' w',dB T0 T' w w'→S2 w':=fun T' w' hw=>Fq T' w' ((f2.pV w).stays.trans hw)
  refine ⟨Vu S2 T0 w,fun _ h=>h.1,ig Ae T0 w (dB.refl T0 w),?_⟩
  refine wo f1 hmu hmq pu fun a1 T1 g1 g2e g3 g4'=>?_
  have g2':=g2e
  have g2:=f2.trans g2'
  have g4:=f4.trans g4'
  have hJ1:C.J st1'.ys.length T1 w:=by rw [g4.2.1];exact hC.keep _ _ _ _ _ (g2.pV w) hJ
  refine Ad hW hC bC g1 hJ1 (g4.2.2.trans hst) hm2 p2 (gl.2.1.trans hX) ?_
  rintro a2 w2 ⟨σ2,T2,ms,k1,k2,k3,k4,k5,k6⟩ hwh
  have hwh:=hwh hm3
  have hs4:=((g2'.pV w).stays).trans k4
  have hn3:∀ T' w',dB T2 T' w2 w'→Vu S2 T0 w w':=fun T' w' hw'=>ig Ae T' w' (hs4.trans hw')
  refine ⟨Whole w2,fun w' hw'=>⟨zr hwh.1 hw'.1,fun b hb=>(hw'.2 b (Zae hb hwh.1)).trans (hwh.2 b hb)⟩,Whole.refl w2,hn3 _ _ (dB.refl _ _),?_⟩
  refine V6 hW hC bC hX k1 hn3 k2 (((iY p2).2.2.trans g4.2.2).trans hst) hm4 p3 fun a' w' hA=>hn _ _ ?_
  exact After.trans (((g2.pV w).stays).trans k4) (fun k hk=>k3 k (Zae hk g4.1)) (by rw [k5,g3,f3]) k6 (zr g4.1 (iY p2).1) hA
theorem LY (T:Tags)(w:World):rQ T w w.drew:=⟨ze _,fun _ _ _=>rfl⟩
theorem BF (T:Tags)(w:World):zQ T T w w.drew:=⟨ze _,rfl,rfl,rfl,fun _ _ _=>rfl,fun _ h=>h,fun _ _ h=>h⟩
theorem KG {id:Nat}{Q:Exit→Act→World→Prop}(hW:lJ F)(hC:C.Ok P L)(bC:gQ P rec env)(h:aV L σ T st a w)(hJ:C.J st.ys.length T w)(hst:st.stop=C.stop)(hX:st'.ys <+: C.X){acts:List (List Nat×Nat)}{fin:Fin1}{last:List Nat}{vs:List iG}
  (hmo:P.follows .mixedOrders=true) (hnd:kK cu=true) (hok:YA cu acts fin last=true) (hm:Ac P cu fin last acts vs=true) (hp:ops rec env vs st=some st')
  (hn:∀ a' w',After C L st.boxes.length σ T w st' a.defers a' w'→Q .normal a' w'):(Code.region id cu true).wpIn F n P Q a w:=by
 refine Fp (Whole w.drew) hW.fn hmo hnd hok (Whole.refl _) ?_
 refine V6 hW hC bC hX (h.sees (LY T w)) (fun _ _ _=>trivial) (hC.keep _ _ _ _ _ (BF T w) hJ) hst hm hp fun a' w' hA=>hn _ _ ?_
 exact After.trans (ms:=[]) (BF T w).stays (fun _ _=>rfl) rfl Marks.nil (ze _) hA
end
theorem H7 (a:ByteArray):uT a a=true:=by unfold uT;exact beq_self_eq_true _
theorem Oi {a b:ByteArray}(h:uT a b=true):a=b:=by
 unfold uT at h
 have h:=eq_of_beq h
 obtain ⟨a⟩:=a;obtain ⟨b⟩:=b
 simp only at h
 congr
 exact Array.toList_inj.1 h
mutual
theorem PV.jK:∀ x:PV,PV.same x x=true
 |.int k n=>by simp [PV.same]
 |.bool b=>by simp [PV.same]
 |.str s=>by simp [PV.same,H7]
 |.list sz es=>by simp [PV.same,PV.fQ es]
 |.agg cs=>by simp [PV.same,PV.fQ cs]
 |.func f cs=>by simp [PV.same,PV.fQ cs]
 |.uw=>by simp [PV.same]
 |.dM cs j=>by simp [PV.same,PV.fQ cs]
 |.void=>by simp [PV.same]
 |.l9 s=>by simp [PV.same]
theorem PV.fQ:∀ l:List PV,PV.jQ l l=true
 |[]=>by simp [PV.jQ]
 |x::xs=>by simp [PV.jQ,PV.jK x,PV.fQ xs]
end
mutual
theorem PV.same_eq:∀ x y:PV,PV.same x y=true→x=y
 |.int k n,y,h=>by cases y<;>simp_all [PV.same]
 |.bool b,y,h=>by cases y<;>simp_all [PV.same]
 |.str s,y,h=>by
  cases y<;>simp only [PV.same,zg] at h
  rw [Oi h]
 |.list sz es,y,h=>by
  cases y<;>simp only [PV.same,zg,ZZ,beq_iff_eq] at h
  rw [h.1,PV.jo _ _ h.2]
 |.agg cs,y,h=>by
  cases y<;>simp only [PV.same,zg] at h
  rw [PV.jo _ _ h]
 |.func f cs,y,h=>by
  cases y<;>simp only [PV.same,zg,ZZ,beq_iff_eq] at h
  rw [h.1,PV.jo _ _ h.2]
 |.uw,y,h=>by cases y<;>simp_all [PV.same]
 |.dM cs j,y,h=>by
  cases y<;>simp only [PV.same,zg,ZZ,beq_iff_eq] at h
  rw [h.1,PV.jo _ _ h.2]
 |.void,y,h=>by cases y<;>simp_all [PV.same]
 |.l9 s,y,h=>by cases y<;>simp_all [PV.same]
theorem PV.jo:∀ l m:List PV,PV.jQ l m=true→l=m
 |[],m,h=>by cases m<;>simp_all [PV.jQ]
 |x::xs,m,h=>by
  cases m<;>simp only [PV.jQ,zg,ZZ] at h
  rw [PV.same_eq _ _ h.1,PV.jo _ _ h.2]
end
mutual
theorem AV.jK:∀ x:AV,AV.same x x=true
 |.pv x=>by simp [AV.same,PV.jK]
 |.row sz es=>by simp [AV.same,PV.fQ]
 |.ref r a b=>by simp [AV.same]
 |.aO o j=>by simp [AV.same]
 |.qx r i j=>by simp [AV.same]
 |.fn f cs=>by simp [AV.same,AV.fQ cs]
 |.lU k l=>by simp [AV.same,AV.fQ l]
 |.FX sz es=>by simp [AV.same,PV.fQ]
 |.pp o j=>by simp [AV.same]
 |.tq=>by simp [AV.same]
 |.any=>by simp [AV.same]
theorem AV.fQ:∀ l:List AV,AV.jQ l l=true
 |[]=>by simp [AV.jQ]
 |x::xs=>by simp [AV.jQ,AV.jK x,AV.fQ xs]
end
mutual
theorem AV.same_eq:∀ x y:AV,AV.same x y=true→x=y
 |.pv x,y,h=>by
  cases y<;>simp only [AV.same,zg] at h
  rw [PV.same_eq _ _ h]
 |.row sz es,y,h=>by
  cases y<;>simp only [AV.same,zg,ZZ,beq_iff_eq] at h
  rw [h.1,PV.jo _ _ h.2]
 |.ref r a b,y,h=>by cases y<;>simp_all [AV.same]
 |.aO o j,y,h=>by cases y<;>simp_all [AV.same]
 |.qx r i j,y,h=>by cases y<;>simp_all [AV.same]
 |.fn f cs,y,h=>by
  cases y<;>simp only [AV.same,zg,ZZ,beq_iff_eq] at h
  rw [h.1,AV.jo _ _ h.2]
 |.lU k l,y,h=>by
  cases y<;>simp only [AV.same,zg,ZZ,beq_iff_eq] at h
  rw [h.1,AV.jo _ _ h.2]
 |.FX sz es,y,h=>by
  cases y<;>simp only [AV.same,zg,ZZ,beq_iff_eq] at h
  rw [h.1,PV.jo _ _ h.2]
 |.pp o j,y,h=>by cases y<;>simp_all [AV.same]
 |.tq,y,h=>by cases y<;>simp_all [AV.same]
 |.any,y,h=>by cases y<;>simp_all [AV.same]
theorem AV.jo:∀ l m:List AV,AV.jQ l m=true→l=m
 |[],m,h=>by cases m<;>simp_all [AV.jQ]
 |x::xs,m,h=>by
  cases m<;>simp only [AV.jQ,zg,ZZ] at h
  rw [AV.same_eq _ _ h.1,AV.jo _ _ h.2]
end
theorem BV.jK (x:BV):BV.same x x=true:=by cases x<;>simp [BV.same,PV.jK,PV.fQ]
theorem BV.same_eq {x y:BV}(h:BV.same x y=true):x=y:=by
 cases x<;>cases y<;>simp only [BV.same,zg,ZZ,beq_iff_eq] at h
 ·rw [PV.same_eq _ _ h]
 ·rw [h.1,PV.jo _ _ h.2]
theorem pF {α:Type}{f:α→α→Bool}(hf:∀ x,f x x=true):∀ l,nK f l l=true
 |[]=>rfl
 |x::xs=>by simp [nK,hf x,pF hf xs]
theorem tX {α:Type}{f:α→α→Bool}(hf:∀ x y,f x y=true→x=y):∀ l m,nK f l m=true→l=m
 |[],m,h=>by cases m<;>simp_all [nK]
 |x::xs,m,h=>by
  cases m<;>simp only [nK,zg,ZZ] at h
  rw [hf _ _ h.1,tX hf _ _ h.2]
theorem Box.jK (x:Box):Box.same x x=true:=by simp [Box.same,pF BV.jK]
theorem Box.same_eq {x y:Box}(h:Box.same x y=true):x=y:=by
 obtain ⟨a,b⟩:=x;obtain ⟨c,d⟩:=y
 simp only [Box.same,ZZ,beq_iff_eq] at h
 rw [h.1,tX (fun _ _=>BV.same_eq) _ _ h.2]
theorem St.jK (s:St):s.same s=true:=by
 simp [St.same,AV.fQ,pF Box.jK,pF PV.fQ]
theorem St.same_eq {a b:St}(h:a.same b=true):a=b:=by
 obtain ⟨a1,a2,a3,a4⟩:=a;obtain ⟨b1,b2,b3,b4⟩:=b
 simp only [St.same,ZZ,decide_eq_true_eq] at h
 rw [AV.jo _ _ h.1,tX (fun _ _=>Box.same_eq) _ _ h.2.1,tX PV.jo _ _ h.2.2.1,h.2.2.2]
theorem RZ {s:St}:∀ {l:List (Option St)} {r:St},agree s l=some r→r=s∧∀ o∈l,o=some s
 |[],r,h=>by simp only [agree,ZD.injEq] at h;exact ⟨h.symm,by simp⟩
 |o::l,r,h=>by
  unfold agree at h
  obtain ⟨s',h1,h2⟩:=Za6.1 h
  split at h2
  case isFalse=>cases h2
  rename_i hs
  have:=St.same_eq hs
  subst this
  obtain ⟨g1,g2⟩:=RZ h2
  exact ⟨g1,fun o' ho=>by rcases Zaf.1 ho with rfl|ho;exact h1;exact g2 o' ho⟩
def qB (p:Nat→Nat)(T:Tags):Tags:=fun b=>match T b with
 |.box o=>.box (p o)
 |.row r=>.row (r.ren p)
 |q=>q
section
variable {L:Nat}{σ:Nat→Nat}{T:Tags}{st st':St}{a:Act}{w:World}{p:Nat→Nat}
theorem DI {b:Nat}(h:T b=.ro):qB p T b=.ro:=by simp [qB,h]
theorem BG {b:Nat}(h:T b=.other):qB p T b=.other:=by simp [qB,h]
theorem V7 {b o:Nat}(h:T b=.box o):qB p T b=.box (p o):=by simp [qB,h]
theorem V8 {b:Nat}{r:Root}(h:T b=.row r):qB p T b=.row (r.ren p):=by simp [qB,h]
theorem Still.ren (p:Nat→Nat)(T:Tags):Still T (qB p T):=⟨fun _=>DI,fun _=>BG⟩
theorem aV.ren (h:aV L σ T st a w)(hp:∀ o,p (p o)=o)(h1:st'.slots=st.slots.map (AV.ren p))(h2:∀ o:Nat,st'.boxes[p o]?=st.boxes[o]?)(h3:∀ o,o<st.boxes.length→p o<st'.boxes.length) :
  aV L (fun o=>σ (p o)) (qB p T) st' a w:=by
 have hw:∀ b,T b=.ro→b<w.heap.size→qB p T b=.ro∧w.heap[b]?=w.heap[b]?:=fun b e _=>⟨DI e,rfl⟩
 have hrow:∀ r sz es v,aW T w r sz es v→aW (qB p T) w (r.ren p) sz es v:=fun r sz es v hr=>hr.frame (fun b e _=>⟨V8 e,rfl⟩) hw
 have hget:∀ (t:Nat),st'.slots[t]?=(st.slots[t]?).map (AV.ren p):=fun t=>by rw [h1,zb]
 have arF:∀ (x:AV) sz es,x.ren p=.row sz es→x=.row sz es:=fun x sz es e=>by cases x<;>simp [AV.ren] at e ⊢<;>exact e
 have hr:∀ r sz es,st'.row (r.ren p)=some (sz,es)→st.row r=some (sz,es):=fun r sz es e=>by
  cases r with
  |slot t =>
   simp only [Root.ren,St.row,hget] at e ⊢
   cases hs:st.slots[t]? with
   |none=>rw [hs] at e;simp at e
   |some x =>
    rw [hs] at e
    simp only [Zah] at e
    split at e
    ·rename_i q;rw [arF x _ _ (ZD.inj q)];exact e
    ·cases e
  |part t i=>simp [Root.ren,St.row] at e
  |cell o j=>simp only [Root.ren,St.row,h2] at e ⊢;exact e
 have hh:∀ r,hdr (fun o=>σ (p o)) a w (r.ren p)=hdr σ a w r:=fun r=>by cases r<;>simp [hdr,Root.ren,hp]
 have hlow:∀ r:Root,r.low st.boxes.length→(r.ren p).low st'.boxes.length:=fun r hl=>by cases r<;>simp only [Root.low,Root.ren] at hl ⊢;exact h3 _ hl
 refine ⟨by simp [h1,h.size],fun t av v ht hv=>?_,fun o bx ho=>?_,fun b hb=>BG (h.fresh b hb)⟩
 ·rw [hget] at ht
  obtain ⟨x,hx,rfl⟩:=Zat.1 ht
  have g:=h.slots t x v hx hv
  cases x with
  |pv y=>exact aA.frame hw g
  |row sz es=>exact hrow _ _ _ _ g
  |ref r off len=>exact ⟨hlow r g.1,fun sz es e=>by rw [hh];exact g.2 sz es (hr r sz es e)⟩
  |aO o j=>exact ⟨h3 o g.1,by rw [g.2];simp [hp]⟩
  |qx r i j=>exact ⟨hlow r g.1,fun sz es e=>by rw [hh];exact g.2 sz es (hr r sz es e)⟩
  |fn f caps =>
   obtain ⟨arr,e1,e2,e3⟩:=g
   refine ⟨arr,e1,by simpa using e2,fun k y u hy hu=>?_⟩
   rw [zb] at hy
   obtain ⟨z,hz,rfl⟩:=Zat.1 hy
   have g:=e3 k z u hz hu
   cases z<;>simp only [iO,acg] at g ⊢
   case pv=>exact aA.frame hw g
   case aO o j=>exact ⟨h3 o g.1,by rw [g.2];simp [hp]⟩
  |lU k l =>
   obtain ⟨arr,e1,e2,e3⟩:=g
   refine ⟨arr,e1,e2,fun k y u hy hu=>?_⟩
   have g:=e3 k y u hy hu
   cases y<;>simp only [jD] at g ⊢
   case pv=>exact aA.frame hw g
   case row sz es=>exact hrow _ _ _ _ g
  |FX sz es=>exact ⟨aA.frame hw g.1,g.2⟩
  |pp o j =>
   obtain ⟨g0,b,E,e1,e2,e3⟩:=g
   have:=hw b e2 (zz.1 e3).1
   exact ⟨h3 o g0,b,E,e1,this.1,by simpa [hp] using e3⟩
  |tq=>exact g
  |any=>trivial
 ·have ho':st.boxes[p o]?=some bx:=by rw [← h2,hp];exact ho
  obtain ⟨arr,E,g1,g2,g3,g4,g5⟩:=h.boxes (p o) bx ho'
  refine ⟨arr,E,g1,g2,?_,g4,fun j bv u hj hu=>?_⟩
  ·split at g3
   ·rename_i e;rw [if_pos e];exact DI g3
   ·rename_i e;rw [if_neg e,V7 g3,hp]
  ·obtain ⟨k1,k2⟩:=g5 j bv u hj hu
   refine ⟨k1,?_⟩
   cases bv with
   |pv x=>exact aA.frame hw k2
   |row sz es =>
    have:=hrow _ _ _ _ k2
    have e:(Root.cell (p o) j).ren p=.cell o j:=by simp [Root.ren,hp]
    rw [e] at this
    exact this
theorem V9 (m o:Nat):swapAt m (swapAt m o)=o:=by
 unfold swapAt
 split<;>split<;>simp_all<;>omega
theorem aV.swap2 (h:aV L σ T st a w){nb:Nat}(hs:st.swap2 nb=some st'):∃ σ' T',aV L σ' T' st' a w∧Still T T'∧(∀ k,k<nb→σ' k=σ k)∧st'.ys=st.ys∧st'.stop=st.stop∧st'.boxes.length=st.boxes.length:=by
 unfold St.swap2 at hs
 split at hs
 case isFalse=>cases hs
 rename_i hn
 have hs:=ZD.inj hs
 have hlen:st'.boxes.length=st.boxes.length:=by rw [← hs];simp;omega
 refine ⟨_,_,h.ren (p:=swapAt (st.boxes.length - 2)) (V9 _) (by rw [← hs]) (fun o=>?_) (fun o ho=>?_),Still.ren _ _,fun k hk=>?_,by rw [← hs],by rw [← hs],hlen⟩
 ·have hb:st'.boxes=st.boxes.take (st.boxes.length - 2)++(st.boxes.drop (st.boxes.length - 1)++(st.boxes.drop (st.boxes.length - 2)).take 1):=by rw [← hs]
  rw [hb]
  generalize hm:st.boxes.length - 2=m
  have hl:st.boxes.length=m+2:=by omega
  rw [show st.boxes.length - 1=m+1 by omega]
  have hd:st.boxes.drop m=[st.boxes[m],st.boxes[m+1]]:=by
   rw [zw (by omega),zw (by omega),ZbO (by omega)]
  have hd1:st.boxes.drop (m+1)=[st.boxes[m+1]]:=by
   rw [zw (by omega),ZbO (by omega)]
  rw [hd,hd1]
  have htl:(st.boxes.take m).length=m:=by simp;omega
  by_cases h1:o=m
  ·subst h1
   rw [show swapAt o o=o+1 by simp [swapAt],zP (by omega),htl]
   simp [ZS (show o<st.boxes.length by omega)]
  ·by_cases h2:o=m+1
   ·subst h2
    rw [show swapAt m (m+1)=m by simp [swapAt],zP (by omega),htl]
    simp [ZS (show m+1<st.boxes.length by omega)]
   ·rw [show swapAt m o=o by simp [swapAt,h1,h2]]
    rcases Zbf o m with h|h
    ·rw [Zad (by omega),Zaq,if_pos h]
    ·rw [zP (by omega),htl,ZaV (by simp;omega),ZaV (by omega)]
 ·rw [hlen]
  unfold swapAt
  split
  ·omega
  ·split<;>omega
 ·have:swapAt (st.boxes.length - 2) k=k:=by
   unfold swapAt
   rw [if_neg (by omega),if_neg (by omega)]
  rw [this]
end
def iQ.tail (j:Nat)(z:iQ):Option iQ:=match z.acts with
 |(_,i)::more=>if i=j then some { z with acts:=more } else none
 |[]=>none
def tails (j:Nat)(alts:List iQ):List iQ:=alts.filterMap (iQ.tail j)
def Gf (seg:List Nat)(z:iQ):Bool:=match z.acts with
 |(s,_)::_=>s==seg
 |[]=>false
def Oj (r:List Nat)(z:iQ):Bool:=match z.acts with
 |(_,i)::_=>r.contains i
 |[]=>false
def acN (z:iQ):Option iQ:=match z.acts,z.fin with
 |[],some (_,_,_,tl)=>some { z with acts:=tl,fin:=none }
 |_,_=>none
def xW (ops:Array Oper)(f:Nat):Nat→Nat→List iQ→Array Bool→Bool
 |0,k,alts,l=>match alts with
  |[x]=>EO ops f x.last x.acts l&&gZ x.last x.acts==k
  |_=>false
 |m+1,k,alts,l=>match alts with
  |[]=>false
  |[x]=>EO ops f x.last x.acts l&&gZ x.last x.acts==k
  |x::y::zs=>match x.acts with
   |[]=>false
   |(seg,i)::_=>(x::y::zs).all (Gf seg)&&(seg.all (fun j=>f != j)&&RQ ops i seg==[])&&decide (seg.length+1≤k)&&match dK ops seg l with
    |some l1=>!(Region.ready .any ops l1).isEmpty&&(x::y::zs).all (Oj (Region.ready .any ops l1))&&(Region.ready .any ops l1).all fun j=>f != j&&xW ops f m (k - 1 - seg.length) (tails j (x::y::zs)) (l1.setIfInBounds j true)
    |none=>false
def H8 (fA fB:List Nat)(g:Nat)(z:iQ):Bool:=match z.acts with
 |[]=>match z.fin with
  |some (a,b,c,_)=>a==fA&&b==fB&&c==g
  |none=>false
 |(s,_)::_=>s==fA++fB
def YB (r:List Nat)(z:iQ):Bool:=match z.acts with
 |(_,i)::_=>r.contains i
 |[]=>true
def xq (ops:Array Oper)(f:Nat):Nat→Nat→List iQ→Array Bool→Bool
 |0,k,alts,l=>match alts with
  |[x]=>kX ops x.fin==f&&jJ x.acts x.fin x.last==k&&Oe ops x.acts x.fin x.last l
  |_=>false
 |m+1,k,alts,l=>match alts with
  |[]=>false
  |[x]=>kX ops x.fin==f&&jJ x.acts x.fin x.last==k&&Oe ops x.acts x.fin x.last l
  |x::y::zs=>match x.acts with
   |[]=>match x.fin with
    |none=>false
    |some (fA,fB,g,tl)=>(y::zs).all (H8 fA fB g)&&(x::y::zs).all (fun z=>kX ops z.fin==f&&z.fin.isSome==x.fin.isSome)&&RS ops x.fin (fA++fB)&&(nD ops x.fin (fA++fB)==fA&&mF ops x.fin (fA++fB)==fB)&&decide (fA.length+fB.length+1≤k)&&match (dK ops fA l).bind (dK ops fB) with
     |some l1=>!(Region.ready .any ops l1).isEmpty&&(y::zs).all (YB (Region.ready .any ops l1))&&(Region.ready .any ops l1).contains g&&(Region.ready .any ops l1).all fun j=>if j=g then xW ops f m (k - 1 - (fA.length+fB.length)) ((x::y::zs).filterMap acN) (l1.setIfInBounds j true) else xq ops f m (k - 1 - (fA.length+fB.length)) (tails j (y::zs)) (l1.setIfInBounds j true)
     |none=>false
   |(seg,_)::_=>(x::y::zs).all (Gf seg)&&(x::y::zs).all (fun z=>kX ops z.fin==f&&z.fin.isSome==x.fin.isSome)&&RS ops x.fin seg&&decide (seg.length+1≤k)&&match (dK ops (nD ops x.fin seg) l).bind (dK ops (mF ops x.fin seg)) with
    |some l1=>!(Region.ready .any ops l1).isEmpty&&(x::y::zs).all (Oj (Region.ready .any ops l1))&&(Region.ready .any ops l1).all fun j=>xq ops f m (k - 1 - seg.length) (tails j (x::y::zs)) (l1.setIfInBounds j true)
    |none=>false
def jE (last:List Nat):List (List Nat×Nat)→List Nat
 |[]=>last
 |(seg,i)::more=>seg++(i::jE last more)
def ak3 (last:List Nat):Fin1→List Nat
 |none=>last
 |some (fA,fB,f,tl)=>fA++(fB++(f::jE last tl))
def jF (fin:Fin1)(last:List Nat):List (List Nat×Nat)→List Nat
 |[]=>ak3 last fin
 |(seg,i)::more=>seg++(i::jF fin last more)
def Wh (P:Program)(ops:Array Oper)(vo:List iG)(alts:List iQ):Bool :=
 Region.noSelect ops&&(alts.all fun x=>x.ord==jF x.fin x.last x.acts&&Ac P ops x.fin x.last x.acts (bW vo x.ord))&&match alts with
  |[]=>false
  |x::_=>xq ops (kX ops x.fin) ops.size ops.size alts (Zbj ops.size false)
section
variable {F:Fence}{n:Nat}{P:Program}{ops:Array Oper}{Q:Act→World→Prop}{f:Nat}
def uF (F:Fence)(n:Nat)(P:Program)(ops:Array Oper)(Q:Act→World→Prop):Nat→(World→Prop)→List iQ→Act→World→Prop
 |0,S2,alts,a,w=>match alts with
  |[x]=>qA F n P ops Q x.last S2 x.acts a w
  |_=>False
 |m+1,S2,alts,a,w=>match alts with
  |[]=>False
  |[x]=>qA F n P ops Q x.last S2 x.acts a w
  |x::y::zs=>match x.acts with
   |[]=>False
   |(seg,_)::_=>∃ S3:World→Prop,(∀ w,S3 w→S2 w)∧S3 w∧wpQuiet P ops S3 (fun a'=>∀ j,(tails j (x::y::zs))≠[]→wpListIn F n P ops (fun e a'' w''=>e=.normal∧S3 w''∧uF F n P ops Q m S3 (tails j (x::y::zs)) a'' w'') (pick ops [j]) a' w) (pick ops seg) a
def xX (F:Fence)(n:Nat)(P:Program)(ops:Array Oper)(Q:Act→World→Prop):Nat→(World→Prop)→(World→Prop)→List iQ→Act→World→Prop
 |0,S,S2,alts,a,w=>match alts with
  |[x]=>tK F n P ops Q S S2 x.acts x.fin x.last a w
  |_=>False
 |m+1,S,S2,alts,a,w=>match alts with
  |[]=>False
  |[x]=>tK F n P ops Q S S2 x.acts x.fin x.last a w
  |x::y::zs=>match x.acts with
   |[]=>match x.fin with
    |none=>False
    |some (fA,fB,g,tl)=>wpQuiet P ops S (fun a0=>∃ S3:World→Prop,(∀ w,S3 w→S2 w)∧S3 w∧wpQuiet P ops S3 (fun a'=>wpListIn F n P ops (fun e a'' w''=>e=.normal∧S3 w''∧uF F n P ops Q m S3 ((x::y::zs).filterMap acN) a'' w'') (pick ops [g]) a' w∧∀ j,j≠g→(tails j (y::zs))≠[]→wpListIn F n P ops (fun e a'' w''=>e=.normal∧∃ S':World→Prop,(∀ w,S' w→S w)∧S' w''∧S3 w''∧xX F n P ops Q m S' S3 (tails j (y::zs)) a'' w'') (pick ops [j]) a' w) (pick ops fB) a0) (pick ops fA) a
   |(seg,_)::_=>wpQuiet P ops S (fun a0=>∃ S3:World→Prop,(∀ w,S3 w→S2 w)∧S3 w∧wpQuiet P ops S3 (fun a'=>∀ j,(tails j (x::y::zs))≠[]→wpListIn F n P ops (fun e a'' w''=>e=.normal∧∃ S':World→Prop,(∀ w,S' w→S w)∧S' w''∧S3 w''∧xX F n P ops Q m S' S3 (tails j (x::y::zs)) a'' w'') (pick ops [j]) a' w) (pick ops (mF ops x.fin seg)) a0) (pick ops (nD ops x.fin seg)) a
theorem YC {m k:Nat}{l:Array Bool}{alts:List iQ}(h:xq ops f m k alts l=true):alts≠[]:=by
 rintro rfl
 cases m<;>simp [xq] at h
theorem LZ {x y:Fin1}(h1:kX ops x=kX ops y)(h2:x.isSome=y.isSome):rY ops x=rY ops y:=by
 cases x<;>cases y<;>simp only [Option.isSome_none,Option.isSome_some,zg,Bool.true_eq_false] at h2
 ·rfl
 ·simp only [kX] at h1
  funext i
  simp only [rY,h1]
theorem ahr {m k:Nat}{l:Array Bool}{alts:List iQ}(h:xW ops f m k alts l=true):alts≠[]:=by
 rintro rfl
 cases m<;>simp [xW] at h
theorem Wi {S:World→Prop}(hF:∀ f,F.fn f)(hnd:kK ops=true)(hsel:Region.noSelect ops=true):∀ (m:Nat) (alts:List iQ) (k:Nat) (S2:World→Prop) (l:Array Bool) (a:Act) (w:World),l.size=ops.size→Closed ops l→l.getD f false=true→S2 w→xW ops f m k alts l=true →
  uF F n P ops Q m S2 alts a w→jm F n P ops S S2 f Q k l a w:=by
 have one:∀ (x:iQ) (k:Nat) (S2:World→Prop) (l:Array Bool) (a:Act) (w:World),l.size=ops.size→Closed ops l→l.getD f false=true→S2 w→(EO ops f x.last x.acts l&&gZ x.last x.acts==k)=true→qA F n P ops Q x.last S2 x.acts a w→jm F n P ops S S2 f Q k l a w:=fun x k S2 l a w hs hc hf hS2 hB h=>by
  simp only [ZZ,beq_iff_eq] at hB
  obtain ⟨h1,h2⟩:=hB
  subst h2
  exact Aa hF hnd hsel _ S2 _ _ _ hs hc hf hS2 h1 h
 intro m
 induction m with
 |zero =>
  intro alts k S2 l a w hs hc hf hS2 hB h
  match alts,hB,h with
  |[x],hB,h=>exact one x k S2 l a w hs hc hf hS2 (by simpa only [xW] using hB) (by simpa only [uF] using h)
  |[],hB,_=>simp [xW] at hB
  |_::_::_,hB,_=>simp [xW] at hB
 |succ m ih =>
  intro alts k S2 l a w hs hc hf hS2 hB h
  match alts,hB,h with
  |[],hB,_=>simp [xW] at hB
  |[x],hB,h=>exact one x k S2 l a w hs hc hf hS2 (by simpa only [xW] using hB) (by simpa only [uF] using h)
  |x::y::zs,hB,h =>
   simp only [xW] at hB
   simp only [uF] at h
   generalize ha:x.acts=acts at hB h
   match acts,hB,h with
   |[],hB,_=>cases hB
   |(seg,i)::more,hB,h =>
    simp only [ZZ,decide_eq_true_eq,beq_iff_eq] at hB h
    obtain ⟨⟨⟨_,hseg,_⟩,hk⟩,hB⟩:=hB
    obtain ⟨S3,hS3,hw3,h⟩:=h
    split at hB
    case h_2=>cases hB
    rename_i l1 hq
    simp only [ZZ,ZaR,Zbw] at hB
    obtain ⟨⟨hne,_⟩,hall⟩:=hB
    refine fP (S':=S) (S2':=S3) (fun _ h=>h) hS3 _ _ _ _ ?_
    have hf1:=nS (f:=f) _ l l1 hs hq hf
    have:=fO (F:=F) (n:=n) (P:=P) (S:=S) (Q:=Q) (f:=f) hF hnd hsel (S2:=S3) (T:=S3) (w:=w) seg (k - 1 - seg.length+1) l l1 a hs hc ⟨.inl hf,hw3⟩
     (fun i hi=>⟨by have:=zE.1 hseg i hi;simpa using this,fun _ _ _ _ _ _ h=>h.2⟩) hq (fun _ _ _=>trivial) (dU (fun a' h' hs1 hc1 _=>by
      refine ⟨fun h0=>absurd h0 hne,fun j hj=>?_⟩
      have hcov:=zE.1 hall j hj
      simp only [ZZ] at hcov
      have hf2:(l1.setIfInBounds j true).getD f false=true:=by
       rw [jH _ _ _ (jg hs1 hj)]
       split
       ·rfl
       ·exact hf1
      exact zN hF (fun a2 w2 h2=>⟨⟨.inl hf2,h2.1⟩,ih _ _ S3 _ _ _ (by simpa using hs1) (hc1.set hs1 hj) hf2 h2.1 hcov.2 h2.2⟩) (h' j (ahr hcov.2))) _ _ h)
    rw [show k - 1 - seg.length+1+seg.length=k by omega] at this
    exact this
theorem ZU (hF:∀ f,F.fn f)(hnd:kK ops=true)(hsel:Region.noSelect ops=true):∀ (m:Nat) (alts:List iQ) (k:Nat) (S S2:World→Prop) (l:Array Bool) (a:Act) (w:World),l.size=ops.size→Closed ops l→xq ops f m k alts l=true→S w→S2 w →
  xX F n P ops Q m S S2 alts a w→jm F n P ops S S2 f Q k l a w:=by
 have one:∀ (x:iQ) (k:Nat) (S S2:World→Prop) (l:Array Bool) (a:Act) (w:World),l.size=ops.size→Closed ops l→(kX ops x.fin==f&&jJ x.acts x.fin x.last==k&&Oe ops x.acts x.fin x.last l)=true→S w→S2 w→tK F n P ops Q S S2 x.acts x.fin x.last a w→jm F n P ops S S2 f Q k l a w:=fun x k S S2 l a w hs hc hB hS hS2 h=>by
  simp only [ZZ,beq_iff_eq] at hB
  obtain ⟨⟨h1,h2⟩,h3⟩:=hB
  subst h1;subst h2
  exact Dz hF hnd hsel x.acts S S2 l a w hs hc h3 hS hS2 h
 intro m
 induction m with
 |zero =>
  intro alts k S S2 l a w hs hc hB hS hS2 h
  match alts,hB,h with
  |[x],hB,h=>exact one x k S S2 l a w hs hc (by simpa only [xq] using hB) hS hS2 (by simpa only [xX] using h)
  |[],hB,_=>simp [xq] at hB
  |_::_::_,hB,_=>simp [xq] at hB
 |succ m ih =>
  intro alts k S S2 l a w hs hc hB hS hS2 h
  match alts,hB,h with
  |[],hB,_=>simp [xq] at hB
  |[x],hB,h=>exact one x k S S2 l a w hs hc (by simpa only [xq] using hB) hS hS2 (by simpa only [xX] using h)
  |x::y::zs,hB,h =>
   simp only [xq] at hB
   simp only [xX] at h
   generalize ha:x.acts=acts at hB h
   match acts,hB,h with
   |[],hB,h =>
    generalize hxf:x.fin=fin at hB h
    match fin,hxf,hB,h with
    |none,_,hB,_=>cases hB
    |some (fA,fB,g,tl),hxf,hB,h =>
     simp only [ZZ,decide_eq_true_eq,beq_iff_eq] at hB h
     obtain ⟨⟨⟨⟨⟨_,hfs⟩,hsg⟩,hsA,hsB⟩,hk⟩,hB⟩:=hB
     have hfx:kX ops (some (fA,fB,g,tl))=f:=by
      have:=zE.1 hfs x (by simp)
      simp only [ZZ,beq_iff_eq] at this
      rw [← hxf];exact this.1
     have hg:g=f:=hfx
     split at hB
     case h_2=>cases hB
     rename_i l1 hq
     obtain ⟨l0,hq0,hq1⟩:=Za6.1 hq
     simp only [ZZ,ZaR,Zbw] at hB
     obtain ⟨⟨⟨hne,_⟩,_⟩,hall⟩:=hB
     have hA:=V3 (S:=S) (S2:=S2) hsg
     rw [hfx,hsA] at hA
     have:=fO (F:=F) (n:=n) (P:=P) (S:=S) (Q:=Q) (f:=f) (S2:=S2) hF hnd hsel (T:=S) (w:=w) fA (k - 1 - (fA.length+fB.length)+1+fB.length) l l0 a hs hc ⟨.inr hS,hS2⟩ hA hq0 (fun _ _ _=>trivial) (dU (fun a0 h0 hs0 hc0 hS0=>by
       obtain ⟨S3,hS3,hw3,h0⟩:=h0
       refine fP (S':=S) (S2':=S3) (fun _ h=>h) hS3 _ _ _ _ ?_
       have hBt:=V4 (S:=S) (S2:=S3) hsg
       rw [hfx,hsB] at hBt
       refine fO (F:=F) (n:=n) (P:=P) (S:=S) (Q:=Q) (f:=f) (S2:=S3) hF hnd hsel (T:=S3) (w:=w) fB (k - 1 - (fA.length+fB.length)+1) l0 l1 a0 hs0 hc0 ⟨hS0.1,hw3⟩ hBt hq1 (fun _ _ _=>trivial) (dU (fun a' h' hs1 hc1 _=>by
        refine ⟨fun h0=>absurd h0 hne,fun j hj=>?_⟩
        have hcov:=zE.1 hall j hj
        by_cases hjg:j=g
        ·rw [if_pos hjg] at hcov
         have hjf:j=f:=hjg.trans hg
         have hf1:(l1.setIfInBounds j true).getD f false=true:=by rw [jH _ _ _ (jg hs1 hj),if_pos hjf]
         have h1:=h'.1
         rw [← hjg] at h1
         exact zN hF (fun a2 w2 h3=>⟨⟨.inl hf1,h3.1⟩,Wi hF hnd hsel _ _ _ S3 _ _ _ (by simpa using hs1) (hc1.set hs1 hj) hf1 h3.1 hcov h3.2⟩) h1
        ·rw [if_neg hjg] at hcov
         refine zN hF (fun a2 w2 h2=>?_) (h'.2 j hjg (YC hcov))
         obtain ⟨S',k1,k2,k3,k4⟩:=h2
         exact ⟨⟨.inr (k1 _ k2),k3⟩,fP k1 (fun _ h=>h) _ _ _ _ (ih _ _ S' S3 _ _ _ (by simpa using hs1) (hc1.set hs1 hj) hcov k2 k3 k4)⟩) _ _ h0)) _ _ h)
     rw [show k - 1 - (fA.length+fB.length)+1+fB.length+fA.length=k by omega] at this
     exact this
   |(seg,i0)::more,hB,h =>
    simp only [ZZ,decide_eq_true_eq] at hB h
    obtain ⟨⟨⟨⟨_,hfs⟩,hsg⟩,hk⟩,hB⟩:=hB
    have hfx:kX ops x.fin=f:=by
     have:=zE.1 hfs x (by simp)
     simp only [ZZ,beq_iff_eq] at this
     exact this.1
    split at hB
    case h_2=>cases hB
    rename_i l1 hq
    obtain ⟨l0,hq0,hq1⟩:=Za6.1 hq
    simp only [ZZ,ZaR,Zbw] at hB
    obtain ⟨⟨hne,_⟩,hall⟩:=hB
    have hA:=V3 (S:=S) (S2:=S2) hsg
    rw [hfx] at hA
    have:=fO (F:=F) (n:=n) (P:=P) (S:=S) (Q:=Q) (f:=f) (S2:=S2) hF hnd hsel (T:=S) (w:=w) (nD ops x.fin seg) (k - 1 - seg.length+1+(mF ops x.fin seg).length) l l0 a hs hc ⟨.inr hS,hS2⟩ hA hq0 (fun _ _ _=>trivial) (dU (fun a0 h0 hs0 hc0 hS0=>by
      obtain ⟨S3,hS3,hw3,h0⟩:=h0
      refine fP (S':=S) (S2':=S3) (fun _ h=>h) hS3 _ _ _ _ ?_
      have hBt:=V4 (S:=S) (S2:=S3) hsg
      rw [hfx] at hBt
      refine fO (F:=F) (n:=n) (P:=P) (S:=S) (Q:=Q) (f:=f) (S2:=S3) hF hnd hsel (T:=S3) (w:=w) (mF ops x.fin seg) (k - 1 - seg.length+1) l0 l1 a0 hs0 hc0 ⟨hS0.1,hw3⟩ hBt hq1 (fun _ _ _=>trivial) (dU (fun a' h' hs1 hc1 _=>by
       refine ⟨fun h0=>absurd h0 hne,fun j hj=>?_⟩
       have hcov:=zE.1 hall j hj
       refine zN hF (fun a2 w2 h2=>?_) (h' j (YC hcov))
       obtain ⟨S',k1,k2,k3,k4⟩:=h2
       exact ⟨⟨.inr (k1 _ k2),k3⟩,fP k1 (fun _ h=>h) _ _ _ _ (ih _ _ S' S3 _ _ _ (by simpa using hs1) (hc1.set hs1 hj) hcov k2 k3 k4)⟩) _ _ h0)) _ _ h)
    have e:=ajY (ops:=ops) x.fin seg
    have e:k - 1 - seg.length+1+(mF ops x.fin seg).length+(nD ops x.fin seg).length=k:=by omega
    rw [e] at this
    exact this
theorem Fv {id:Nat}{l:Array Oper}{a:Act}{w:World}{Q:Exit→Act→World→Prop}(S:World→Prop){alts:List iQ}{f m:Nat}(hF:∀ f,F.fn f)(hm:P.follows .mixedOrders=true)
  (hnd:kK l=true) (hsel:Region.noSelect l=true) (hB:xq l f m l.size alts (Zbj l.size false)=true) (hS:S w.drew) (h:xX F n P l (Q .normal) m S (fun _=>True) alts a w.drew):(Code.region id l true).wpIn F n P Q a w:=by
 refine Code.wpIn_mono (Q:=dS (Q .normal)) (fun e a w h=>by obtain ⟨rfl,h⟩:=h;exact h) (wpIn_region_any hm ?_)
 exact zZ _ _ _ _ (ZU hF hnd hsel m alts l.size S (fun _=>True) (Zbj l.size false) a _ (by simp) (fun m o hm=>absurd hm (by rw [ZaN,Array.getElem?_replicate];split<;>simp)) hB hS trivial h)
end
section
variable {P:Program}{F:Fence}{C:Ctx}{n L nb:Nat}{σ σ':Nat→Nat}{T T' T1 T2:Tags}{st st' st1:St}{a a1:Act}{w w1:World}{vo:List iG}{keep:List Nat}
 {rec:ay→St→Option (Ex×St)} {env:Env} {Q:Act→World→Prop} {cu:Array Oper} {ds:List Deferred}
theorem aV.head (h:aV L σ T st a w){keep:List Nat}(hh:st.head keep nb=some st'):aV L σ T st' a w∧st'.boxes.length=nb∧st'.ys=st.ys∧st'.stop=st.stop∧nb≤st.boxes.length:=by
 unfold St.head at hh
 simp only at hh
 split at hh
 case isFalse=>cases hh
 rename_i hc
 have hh:=ZD.inj hh
 simp only [ZZ,decide_eq_true_eq] at hc
 obtain ⟨hlow,hnb⟩:=hc
 subst hh
 have hget:∀ (t:Nat) av,((st.slots.zipIdx.map fun (v,i)=>if keep.contains i then v else .any))[t]?=some av→av=.any∨(st.slots[t]?=some av∧av.low nb=true):=fun t av hav=>by
  have hm:=zE.1 hlow av (Zab hav)
  simp only [zb,List.getElem?_zipIdx] at hav
  cases e:st.slots[t]? with
  |none=>rw [e] at hav;cases hav
  |some v =>
   rw [e] at hav
   simp only [Zah,ZD.injEq] at hav
   split at hav
   ·subst hav;exact .inr ⟨rfl,hm⟩
   ·exact .inl hav.symm
 have hlen:({ st with slots:=st.slots.zipIdx.map fun (v,i)=>if keep.contains i then v else .any,boxes:=st.boxes.take nb }:St).boxes.length=nb:=by simp;omega
 have hrow:∀ r sz es,({ st with slots:=st.slots.zipIdx.map fun (v,i)=>if keep.contains i then v else .any,boxes:=st.boxes.take nb }:St).row r=some (sz,es)→st.row r=some (sz,es):=fun r sz es hr=>by
  cases r with
  |slot t =>
   have h1:=fZ hr
   rcases hget t _ h1 with e|⟨e,_⟩
   ·cases e
   ·simp [St.row,e]
  |cell o j =>
   obtain ⟨bx,h1,h2,h3⟩:=dZ hr
   simp only [Zaq] at h1
   split at h1
   ·simp [St.row,h1,h2,h3]
   ·cases h1
  |part t i=>simp [St.row] at hr
 refine ⟨⟨by simpa using h.size,fun t av v ht hv=>?_,fun o bx ho=>?_,h.fresh⟩,hlen,rfl,rfl,hnb⟩
 ·rcases hget t av ht with e|⟨e,hl⟩
  ·subst e;trivial
  ·have hA:=h.slots t av v e hv
   cases av with
   |pv x=>exact hA
   |row sz es=>exact hA
   |ref r off len =>
    refine ⟨?_,fun sz es hr=>hA.2 sz es (hrow r sz es hr)⟩
    cases r<;>simp only [Root.low]<;>simpa [AV.low,hlen,hnb] using hl
   |aO o j=>exact ⟨by rw [hlen];simpa [AV.low] using hl,hA.2⟩
   |qx r i j =>
    refine ⟨?_,fun sz es hr=>hA.2 sz es (hrow r sz es hr)⟩
    cases r<;>simp only [Root.low]<;>simpa [AV.low,hlen,hnb] using hl
   |fn f caps =>
    obtain ⟨arr,e1,e2,e3⟩:=hA
    refine ⟨arr,e1,e2,fun k x u hx hu=>?_⟩
    have hcx:=e3 k x u hx hu
    have hlx:_:=zE.1 (by simpa [AV.low] using hl) x (Zab hx)
    cases x with
    |pv p=>exact hcx
    |aO o j=>exact ⟨by rw [hlen];simpa using hlx,hcx.2⟩
    |_=>exact hcx
   |lU k l=>simp [AV.low] at hl
   |FX s l=>exact hA
   |pp o j=>exact ⟨by rw [hlen];simpa [AV.low] using hl,hA.2⟩
   |tq=>exact hA
   |any=>trivial
 ·simp only [Zaq] at ho
  split at ho
  ·exact h.boxes o bx ho
  ·cases ho
theorem Wj {s s1:St}{nb:Nat}(h:s.head keep nb=some s1):s1.boxes.length=nb∧s1.ys=s.ys∧s1.stop=s.stop∧nb≤s.boxes.length:=by
 unfold St.head at h
 simp only at h
 split at h
 case isFalse=>cases h
 rename_i hc
 simp only [ZZ,decide_eq_true_eq] at hc
 have h:=ZD.inj h
 rw [← h]
 exact ⟨by simp;omega,rfl,rfl,hc.2⟩
theorem BH {s:St}{sw:Bool}(h:nN keep nb sw s=some st'):st'.ys=s.ys∧st'.stop=s.stop∧st'.boxes.length=s.boxes.length:=by
 unfold nN at h
 obtain ⟨s1,h1,h2⟩:=bind_some h
 obtain ⟨e1,e2,e3,_⟩:=Wj h1
 split at h2
 ·unfold St.swap2 at h2
  split at h2
  ·have h2:=ZD.inj h2
   rw [← h2]
   exact ⟨e2,e3,by rw [← e1];simp;omega⟩
  ·cases h2
 ·have h2:=ZD.inj h2
  rw [← h2];exact ⟨e2,e3,e1⟩
theorem After.ends (hC:C.Ok P L){s:St}{sw:Bool}{nb0:Nat}(hnb:nb≤nb0)(h:After C L nb σ T w s ds a1 w1)(he:nN keep nb0 sw s=some st'):After C L nb σ T w st' ds a1 w1:=by
 obtain ⟨σ',T',ms,g1,g2,g3,g4,g5,g6⟩:=h
 unfold nN at he
 obtain ⟨s1,h1,h2⟩:=bind_some he
 obtain ⟨q1,q2,q3,q4,_⟩:=g1.head h1
 split at h2
 ·obtain ⟨σ2,T2,k1,k2,k3,k4,k5,k6⟩:=q1.swap2 h2
  refine ⟨σ2,T2,ms,k1,?_,fun k hk=>(k3 k (by omega)).trans (g3 k hk),g4.trans (k2.pV w1).stays,g5,fun r hr=>⟨(g6.1 r hr).1,k2.ro r (g6.1 r hr).2.1,(g6.1 r hr).2.2⟩,g6.2⟩
  rw [k4,q3]
  exact hC.keep _ _ _ _ _ (k2.pV w1) g2
 ·have h2:=ZD.inj h2
  subst h2
  exact ⟨σ',T',ms,q1,by rw [q3];exact g2,g3,g4,g5,g6⟩
theorem Marks.app {T2:Tags}{w2:World}{ms ms2:List Nat}(h1:Marks T1 w w1 ms)(hsz:w.heap.size≤w1.heap.size)(hs:dB T1 T2 w1 w2)(h2:Marks T2 w1 w2 ms2):Marks T2 w w2 (ms2++ms):=by
 refine ⟨fun r hr=>?_,List.nodup_append.2 ⟨h2.2,h1.2,fun x hx y hy e=>?_⟩⟩
 ·rcases List.mem_append.1 hr with hr|hr
  ·obtain ⟨k1,k2,k3⟩:=h2.1 r hr
   exact ⟨zr hsz k1,k2,k3⟩
  ·obtain ⟨k1,k2,k3⟩:=h1.1 r hr
   have hl:r<w1.heap.size:=(zz.1 k3).1
   exact ⟨k1,hs.ro r k2,(hs.same r hl k2).trans k3⟩
 ·have k1:=(h2.1 x hx).1
  have hl:y<w1.heap.size:=(zz.1 (h1.1 y hy).2.2).1
  omega
theorem jL (vo:List iG)(a b:List Nat):bW vo (a++b)=bW vo a++bW vo b:=by simp [bW]
theorem oQ (vo:List iG)(i:Nat)(b:List Nat):bW vo (i::b)=vo.getD i default::bW vo b:=rfl
theorem lg (vo:List iG)(a:List Nat):(bW vo a).length=a.length:=by simp [bW]
def L6 (P:Program)(rec:ay→St→Option (Ex×St))(env:Env)(cu:Array Oper)(vo:List iG)(keep:List Nat)(nb:Nat)(X:List (List PV))(st st':St)(z:iQ):Prop :=
 Ac P cu z.fin z.last z.acts (bW vo (jF z.fin z.last z.acts))=true∧∃ s,ops rec env (bW vo (jF z.fin z.last z.acts)) st=some s∧s.ys <+: X∧nN keep nb z.sw s=some st'
theorem rE {j:Nat}{z z':iQ}(h:z.tail j=some z'):∃ seg,z.acts=(seg,j)::z'.acts∧z'.fin=z.fin∧z'.last=z.last∧z'.sw=z.sw:=by
 unfold iQ.tail at h
 split at h
 ·rename_i seg i more hz
  split at h
  ·rename_i e
   have h:=ZD.inj h
   subst h;subst e
   exact ⟨seg,hz,rfl,rfl,rfl⟩
  ·cases h
 ·cases h
def Wn (P:Program)(rec:ay→St→Option (Ex×St))(env:Env)(cu:Array Oper)(vo:List iG)(keep:List Nat)(nb:Nat)(X:List (List PV))(st st':St)(z:iQ):Prop :=
 BD P cu z.last z.acts (bW vo (jE z.last z.acts))=true∧∃ s,ops rec env (bW vo (jE z.last z.acts)) st=some s∧s.ys <+: X∧nN keep nb z.sw s=some st'
theorem ahs (hW:lJ F)(hC:C.Ok P L)(bC:gQ P rec env){f:Nat}{nb0:Nat}(hnb:nb≤nb0){w0:World}{σ0:Nat→Nat}{T0:Tags}:∀ (m:Nat) (k:Nat) (alts:List iQ) (l:Array Bool) {S2:World→Prop} {st:St} {σ:Nat→Nat} {T:Tags} {a:Act} {w:World},xW cu f m k alts l=true →
  aV L σ T st a w→(∀ T' w',dB T T' w w'→S2 w')→C.J st.ys.length T w→st.stop=C.stop→nb≤st.boxes.length→(∀ z∈alts,Wn P rec env cu vo keep nb0 C.X st st' z) →
  dB T0 T w0 w→(∀ k,k<nb→σ k=σ0 k)→(∃ ms,a.defers=ms.map jd++ds∧Marks T w0 w ms) →
  (∀ a' w',After C L nb σ0 T0 w0 st' ds a' w'→Q a' w')→uF F n P cu Q m S2 alts a w:=by
 have one:∀ (x:iQ) {S2:World→Prop} {st:St} {σ:Nat→Nat} {T:Tags} {a:Act} {w:World},aV L σ T st a w→(∀ T' w',dB T T' w w'→S2 w')→C.J st.ys.length T w→st.stop=C.stop→nb≤st.boxes.length→Wn P rec env cu vo keep nb0 C.X st st' x →
  dB T0 T w0 w→(∀ k,k<nb→σ k=σ0 k)→(∃ ms,a.defers=ms.map jd++ds∧Marks T w0 w ms)→(∀ a' w',After C L nb σ0 T0 w0 st' ds a' w'→Q a' w')→qA F n P cu Q x.last S2 x.acts a w:=fun x S2 st σ T a w h Fq hJ hst hb hx nT hσ hms hn=>by
  obtain ⟨hm,s,hrun,hX,hend⟩:=hx
  obtain ⟨ms,hd,hM⟩:=hms
  refine Oh hW hC bC hX h Fq hJ hst hm hrun fun a' w' hA=>hn _ _ ?_
  exact (After.trans nT hσ hd hM hb hA).ends hC hnb hend
 intro m
 induction m with
 |zero =>
  intro k alts l S2 st σ T a w hB h Fq hJ hst hb hz nT hσ hms hn
  match alts,hB,hz with
  |[x],_,hz=>simpa only [uF] using one x h Fq hJ hst hb (hz x (by simp)) nT hσ hms hn
  |[],hB,_=>simp [xW] at hB
  |_::_::_,hB,_=>simp [xW] at hB
 |succ m ih =>
  intro k alts l S2 st σ T a w hB h Fq hJ hst hb hz nT hσ hms hn
  match alts,hB,hz with
  |[],hB,_=>simp [xW] at hB
  |[x],_,hz=>simpa only [uF] using one x h Fq hJ hst hb (hz x (by simp)) nT hσ hms hn
  |x::y::zs,hB,hz =>
   simp only [xW] at hB
   simp only [uF]
   generalize ha:x.acts=acts at hB
   match acts,ha,hB with
   |[],_,hB=>cases hB
   |(seg,i0)::more,ha,hB =>
    simp only [ZZ,decide_eq_true_eq,beq_iff_eq] at hB
    obtain ⟨⟨⟨DJ,hseg,htA⟩,hk⟩,hB⟩:=hB
    split at hB
    case h_2=>cases hB
    rename_i l1 hq1
    simp only [ZZ,ZaR,Zbw] at hB
    obtain ⟨⟨hne,hin⟩,hall⟩:=hB
    have shape:∀ z∈x::y::zs,∃ i more,z.acts=(seg,i)::more:=fun z hzz=>by
     have:=zE.1 DJ z hzz
     unfold Gf at this
     split at this
     ·rename_i s i more e
      exact ⟨i,more,by rw [e,eq_of_beq this]⟩
     ·cases this
    have uG:∀ z∈x::y::zs,∀ i more,z.acts=(seg,i)::more→∃ st1 st2 s,mL P cu (pick cu [i]) [vo.getD i default]=true∧BD P cu z.last more (bW vo (jE z.last more))=true ∧
      ops rec env (bW vo seg) st=some st1∧op rec env (vo.getD i default) st1=some st2∧ops rec env (bW vo (jE z.last more)) st2=some s∧s.ys <+: C.X∧nN keep nb0 z.sw s=some st':=fun z hzz i more e=>by
     obtain ⟨hm,s,hrun,hX,hend⟩:=hz z hzz
     rw [e] at hm hrun
     have e2:bW vo (jE z.last ((seg,i)::more))=bW vo seg++(vo.getD i default::bW vo (jE z.last more)):=by
      show bW vo (seg++(i::jE z.last more))=_
      rw [jL,oQ]
     have e3:bW vo seg=bW vo (RQ cu i seg)++bW vo (Vt cu i seg):=by
      rw [← jL];congr 1
      exact (Zbu (p:=Dp cu cu.size i) (l:=seg)).symm
     have hm2:=hm
     rw [e2,e3,Zay] at hm2
     rw [e2] at hrun
     have hlenA:=lg vo (RQ cu i seg)
     have uY:=lg vo (Vt cu i seg)
     simp only [BD,ZZ] at hm2
     rw [Zbp hlenA,Zbx hlenA,Zbp uY,Zbx uY] at hm2
     obtain ⟨st1,p1,p2⟩:=fD hrun
     obtain ⟨st2,p2,p3⟩:=tV p2
     simp only [ZZ] at hm2
     exact ⟨st1,st2,s,hm2.2.1,hm2.2.2,p1,p2,p3,hX,hend⟩
    obtain ⟨hmx,sx,YD,_⟩:=hz x (by simp)
    have hB1:Vt cu i0 seg=seg:=by
     have:=Zbu (p:=Dp cu cu.size i0) (l:=seg)
     have e:seg.takeWhile (Dp cu cu.size i0)=[]:=htA
     rw [e,Za4] at this
     exact this
    have acO:mL P cu (pick cu seg) (bW vo seg)=true∧mJ true (bW vo seg)=true:=by
     rw [ha] at hmx
     have e2:bW vo (jE x.last ((seg,i0)::more))=bW vo seg++(vo.getD i0 default::bW vo (jE x.last more)):=by
      show bW vo (seg++(i0::jE x.last more))=_
      rw [jL,oQ]
     rw [e2] at hmx
     simp only [BD,ZZ,htA,hB1,zd,List.drop_zero] at hmx
     rw [Zbp (lg vo seg)] at hmx
     exact ⟨hmx.1.1.2,hmx.1.2⟩
    obtain ⟨st1,arG,sx',_,_,p1,_⟩:=uG x (by simp) i0 more ha
    refine ⟨Vu S2 T w,fun _ h=>h.1,ig Fq T w (dB.refl T w),?_⟩
    refine wo h acO.1 acO.2 p1 fun a1 T1 g1 g2 g3 g4=>?_
    intro j hj
    obtain ⟨ms,hd,hM⟩:=hms
    have hJ1:C.J st1.ys.length T1 w:=by rw [g4.2.1];exact hC.keep _ _ _ _ _ (g2.pV w) hJ
    obtain ⟨z',hz'⟩:=Zcm _ hj
    have hz':=hz'
    unfold tails at hz'
    obtain ⟨z,hzz,hzt⟩:=ZbE.1 hz'
    obtain ⟨Wp,hza,hf1,hf2,hf3⟩:=rE hzt
    have hseg':Wp=seg:=by
     obtain ⟨i,more',e⟩:=shape z hzz
     rw [hza] at e;cases e;rfl
    subst hseg'
    obtain ⟨t1,st2,s,hmj,hmz,q1,q2,q3,hXs,hend⟩:=uG z hzz j z'.acts hza
    have:t1=st1:=by rw [p1] at q1;exact (ZD.inj q1).symm
    subst this
    have gl:=gu (rec:=rec) (env:=env) q3
    refine Ad hW hC bC g1 hJ1 (g4.2.2.trans hst) hmj q2 (gl.2.1.trans hXs) ?_
    rintro a2 w2 ⟨σ2,T2,ms2,k1,k2,k3,k4,k5,k6⟩ _
    have hs4:=((g2.pV w).stays).trans k4
    have hn3:∀ T' w',dB T2 T' w2 w'→Vu S2 T w w':=fun T' w' hw'=>ig Fq T' w' (hs4.trans hw')
    refine ⟨hn3 _ _ (dB.refl _ _),?_⟩
    have hjr:j∈Region.ready .any cu l1:=by
     have:=zE.1 hin z hzz
     unfold Oj at this
     rw [hza] at this
     simpa using this
    have hcov:=zE.1 hall j hjr
    simp only [ZZ] at hcov
    have hs2:dB T0 T1 w0 w:=nT.trans (g2.pV w).stays
    have hM1:Marks T1 w0 w ms:=⟨fun r hr=>⟨(hM.1 r hr).1,g2.ro r (hM.1 r hr).2.1,(hM.1 r hr).2.2⟩,hM.2⟩
    refine ih _ _ _ hcov.2 k1 hn3 k2 (((iY q2).2.2.trans g4.2.2).trans hst) (zr hb (zr g4.1 (iY q2).1)) (fun u hu=>?_) (hs2.trans k4) (fun k hk=>(k3 k (Zae hk (zr hb g4.1))).trans (hσ k hk)) ?_ hn
    ·unfold tails at hu
     obtain ⟨z2,hz2,acP⟩:=ZbE.1 hu
     obtain ⟨acQ,Si,e1,e2,e3⟩:=rE acP
     have Sj:acQ=Wp:=by
      obtain ⟨i,more',e⟩:=shape z2 hz2
      rw [Si] at e;cases e;rfl
     subst Sj
     obtain ⟨t1',st2',s',_,acR,q1',q2',q3',acS,hend'⟩:=uG z2 hz2 j u.acts Si
     have e4:t1'=t1:=by rw [q1] at q1';exact (ZD.inj q1').symm
     subst e4
     have e5:st2'=st2:=by rw [q2] at q2';exact (ZD.inj q2').symm
     subst e5
     unfold Wn
     rw [e2,e3]
     exact ⟨acR,s',q3',acS,hend'⟩
    ·refine ⟨ms2++ms,by rw [k5,g3,hd];simp,?_⟩
     exact Marks.app hM1 hs2.size k4 k6
theorem ak4 (hW:lJ F)(hC:C.Ok P L)(bC:gQ P rec env){f:Nat}{nb0:Nat}(hnb:nb≤nb0){w0:World}{σ0:Nat→Nat}{T0:Tags}:∀ (m:Nat) (k:Nat) (alts:List iQ) (l:Array Bool) {S2:World→Prop} {st:St} {σ:Nat→Nat} {T:Tags} {a:Act} {w:World},xq cu f m k alts l=true →
  aV L σ T st a w→(∀ T' w',dB T T' w w'→S2 w')→C.J st.ys.length T w→st.stop=C.stop→nb≤st.boxes.length→(∀ z∈alts,L6 P rec env cu vo keep nb0 C.X st st' z) →
  dB T0 T w0 w→(∀ k,k<nb→σ k=σ0 k)→(∃ ms,a.defers=ms.map jd++ds∧Marks T w0 w ms) →
  (∀ a' w',After C L nb σ0 T0 w0 st' ds a' w'→Q a' w')→xX F n P cu Q m (Whole w) S2 alts a w:=by
 have one:∀ (x:iQ) {S2:World→Prop} {st:St} {σ:Nat→Nat} {T:Tags} {a:Act} {w:World},aV L σ T st a w→(∀ T' w',dB T T' w w'→S2 w')→C.J st.ys.length T w→st.stop=C.stop→nb≤st.boxes.length→L6 P rec env cu vo keep nb0 C.X st st' x →
  dB T0 T w0 w→(∀ k,k<nb→σ k=σ0 k)→(∃ ms,a.defers=ms.map jd++ds∧Marks T w0 w ms)→(∀ a' w',After C L nb σ0 T0 w0 st' ds a' w'→Q a' w')→tK F n P cu Q (Whole w) S2 x.acts x.fin x.last a w:=fun x S2 st σ T a w h Fq hJ hst hb hx nT hσ hms hn=>by
  obtain ⟨hm,s,hrun,hX,hend⟩:=hx
  obtain ⟨ms,hd,hM⟩:=hms
  refine V6 hW hC bC hX h Fq hJ hst hm hrun fun a' w' hA=>hn _ _ ?_
  exact (After.trans nT hσ hd hM hb hA).ends hC hnb hend
 intro m
 induction m with
 |zero =>
  intro k alts l S2 st σ T a w hB h Fq hJ hst hb hz nT hσ hms hn
  match alts,hB,hz with
  |[x],_,hz=>simpa only [xX] using one x h Fq hJ hst hb (hz x (by simp)) nT hσ hms hn
  |[],hB,_=>simp [xq] at hB
  |_::_::_,hB,_=>simp [xq] at hB
 |succ m ih =>
  intro k alts l S2 st σ T a w hB h Fq hJ hst hb hz nT hσ hms hn
  match alts,hB,hz with
  |[],hB,_=>simp [xq] at hB
  |[x],_,hz=>simpa only [xX] using one x h Fq hJ hst hb (hz x (by simp)) nT hσ hms hn
  |x::y::zs,hB,hz =>
   simp only [xq] at hB
   simp only [xX]
   generalize ha:x.acts=acts at hB
   match acts,ha,hB with
   |[],ha,hB =>
    generalize hxf:x.fin=fin at hB
    match fin,hxf,hB with
    |none,_,hB=>cases hB
    |some (fA,fB,g,tl),hxf,hB =>
     simp only [ZZ,decide_eq_true_eq,beq_iff_eq] at hB
     obtain ⟨⟨⟨⟨⟨DJ,hfs⟩,hsg⟩,hsA,hsB⟩,hk⟩,hB⟩:=hB
     split at hB
     case h_2=>cases hB
     rename_i l1 hq1
     simp only [ZZ,ZaR,Zbw] at hB
     obtain ⟨⟨⟨hne,hin⟩,arH⟩,hall⟩:=hB
     have hgr:g∈Region.ready .any cu l1:=by simpa using arH
     simp only [hxf]
     have hfin:∀ z∈y::zs,nD cu z.fin (fA++fB)=fA∧mF cu z.fin (fA++fB)=fB:=fun z hzz=>by
      have hx:=zE.1 hfs x (by simp)
      have hz:=zE.1 hfs z (ZbF _ hzz)
      simp only [ZZ,beq_iff_eq] at hx hz
      rw [hxf] at hx
      have e:=LZ (ops:=cu) (x:=z.fin) (y:=some (fA,fB,g,tl)) (hz.1.trans hx.1.symm) (hz.2.trans hx.2.symm)
      unfold nD at hsA
      unfold mF at hsB
      unfold nD mF
      rw [e]
      exact ⟨hsA,hsB⟩
     have shape:∀ z∈y::zs,∀ s i more,z.acts=(s,i)::more→s=fA++fB:=fun z hzz s i more e=>by
      have:=zE.1 DJ z hzz
      unfold H8 at this
      rw [e] at this
      exact eq_of_beq this
     have ak5:∀ z∈x::y::zs,z.acts=[]→∃ tl',z.fin=some (fA,fB,g,tl'):=fun z hzz e=>by
      rcases Zaf.1 hzz with e1|hzz
      ·rw [e1];exact ⟨tl,hxf⟩
      have:=zE.1 DJ z hzz
      unfold H8 at this
      rw [e] at this
      simp only at this
      split at this
      ·rename_i a' b' c' tl' e2
       simp only [ZZ,beq_iff_eq] at this
       obtain ⟨⟨e3,e4⟩,e5⟩:=this
       exact ⟨tl',by rw [e2,e3,e4,e5]⟩
      ·cases this
     have uG:∀ z∈y::zs,∀ i more,z.acts=(fA++fB,i)::more→∃ st0 st1 st2 s,mL P cu (pick cu [i]) [vo.getD i default]=true∧RP (vo.getD i default)=true∧Ac P cu z.fin z.last more (bW vo (jF z.fin z.last more))=true ∧
       ops rec env (bW vo fA) st=some st0∧ops rec env (bW vo fB) st0=some st1∧op rec env (vo.getD i default) st1=some st2∧ops rec env (bW vo (jF z.fin z.last more)) st2=some s∧s.ys <+: C.X∧nN keep nb0 z.sw s=some st':=fun z hzz i more e=>by
      obtain ⟨hm,s,hrun,hX,hend⟩:=hz z (ZbF _ hzz)
      rw [e] at hm hrun
      have e2:bW vo (jF z.fin z.last ((fA++fB,i)::more))=bW vo fA++(bW vo fB++(vo.getD i default::bW vo (jF z.fin z.last more))):=by
       show bW vo ((fA++fB)++(i::jF z.fin z.last more))=_
       rw [jL,jL,oQ,Zay]
      rw [e2] at hm hrun
      have hlenA:=lg vo fA
      have uY:=lg vo fB
      simp only [Ac,ZZ,(hfin z hzz).1,(hfin z hzz).2] at hm
      rw [Zbp hlenA,Zbx hlenA,Zbp uY,Zbx uY] at hm
      obtain ⟨st0,p0,p1⟩:=fD hrun
      obtain ⟨st1,p1,p2⟩:=fD p1
      obtain ⟨st2,p2,p3⟩:=tV p2
      simp only [ZZ] at hm
      exact ⟨st0,st1,st2,s,hm.2.1.1,hm.2.1.2,hm.2.2,p0,p1,p2,p3,hX,hend⟩
     obtain ⟨hmx,sx,YD,hXx,atV⟩:=hz x (by simp)
     rw [ha,hxf] at hmx YD
     have e2:bW vo (jF (some (fA,fB,g,tl)) x.last [])=bW vo fA++(bW vo fB++(vo.getD g default::bW vo (jE x.last tl))):=by
      show bW vo (fA++(fB++(g::jE x.last tl)))=_
      rw [jL,jL,oQ]
     rw [e2] at hmx YD
     have hlenA:=lg vo fA
     have uY:=lg vo fB
     simp only [Ac,ZZ] at hmx
     rw [Zbp hlenA,Zbx hlenA,Zbp uY,Zbx uY] at hmx
     simp only [ZZ] at hmx
     obtain ⟨⟨⟨hqx,hqu⟩,hql⟩,hmg,hmt⟩:=hmx
     obtain ⟨st0,p0,p1⟩:=fD YD
     obtain ⟨st1,p1,p2⟩:=fD p1
     obtain ⟨stg,p2,p3⟩:=tV p2
     have glx:=gu (rec:=rec) (env:=env) p3
     refine DF h hqx p0 fun a0 T0' f1 f2 f3 f4=>?_
     have Ae:∀ T' w',dB T0' T' w w'→S2 w':=fun T' w' hw=>Fq T' w' ((f2.pV w).stays.trans hw)
     refine ⟨Vu S2 T0' w,fun _ h=>h.1,ig Ae T0' w (dB.refl T0' w),?_⟩
     refine wo f1 hqu hql p1 fun a1 T1 g1 g2e g3' g4'=>?_
     have g2':=g2e
     have g2:=f2.trans g2'
     have g4:=f4.trans g4'
     have g3:=g3'.trans f3
     have hJ1:C.J st1.ys.length T1 w:=by rw [g4.2.1];exact hC.keep _ _ _ _ _ (g2.pV w) hJ
     obtain ⟨ms,hd,hM⟩:=hms
     have hs2:dB T0 T1 w0 w:=nT.trans (g2.pV w).stays
     have hM1:Marks T1 w0 w ms:=⟨fun r hr=>⟨(hM.1 r hr).1,g2.ro r (hM.1 r hr).2.1,(hM.1 r hr).2.2⟩,hM.2⟩
     have aoe:xW cu f m (k - 1 - (fA.length+fB.length)) ((x::y::zs).filterMap acN) (l1.setIfInBounds g true)=true:=by
      have:=zE.1 hall g hgr
      rw [if_pos rfl] at this
      exact this
     refine ⟨?_,fun j hjg hj=>?_⟩
     ·refine Ad hW hC bC g1 hJ1 (g4.2.2.trans hst) hmg p2 (glx.2.1.trans hXx) ?_
      rintro a2 w2 ⟨σ2,T2,ms2,k1,k2,k3,k4,k5,k6⟩ _
      have hs4:=((g2'.pV w).stays).trans k4
      have hn3:∀ T' w',dB T2 T' w2 w'→Vu S2 T0' w w':=fun T' w' hw'=>ig Ae T' w' (hs4.trans hw')
      refine ⟨hn3 _ _ (dB.refl _ _),?_⟩
      refine ahs (keep:=keep) (vo:=vo) hW hC bC hnb _ _ _ _ aoe k1 hn3 k2 (((iY p2).2.2.trans g4.2.2).trans hst) (zr hb (zr g4.1 (iY p2).1)) (fun u hu=>?_) (hs2.trans k4) (fun k hk=>(k3 k (Zae hk (zr hb g4.1))).trans (hσ k hk)) ?_ hn
      ·obtain ⟨z,hzz,hzt⟩:=ZbE.1 hu
       have hza:z.acts=[]:=by
        unfold acN at hzt
        split at hzt
        ·assumption
        ·cases hzt
       obtain ⟨tl',hzf⟩:=ak5 z hzz hza
       have eu:u={ z with acts:=tl',fin:=none }:=by
        unfold acN at hzt
        rw [hza,hzf] at hzt
        exact (ZD.inj hzt).symm
       obtain ⟨hmz,sz,acT,hXz,aof⟩:=hz z hzz
       rw [hza,hzf] at hmz acT
       have e2:bW vo (jF (some (fA,fB,g,tl')) z.last [])=bW vo fA++(bW vo fB++(vo.getD g default::bW vo (jE z.last tl'))):=by
        show bW vo (fA++(fB++(g::jE z.last tl')))=_
        rw [jL,jL,oQ]
       rw [e2] at hmz acT
       simp only [Ac,ZZ] at hmz
       rw [Zbp hlenA,Zbx hlenA,Zbp uY,Zbx uY] at hmz
       simp only [ZZ] at hmz
       obtain ⟨arK,z0,z1⟩:=fD acT
       obtain ⟨st1',z1,z2⟩:=fD z1
       obtain ⟨arL,z2,z3⟩:=tV z2
       have e0:arK=st0:=by rw [p0] at z0;exact (ZD.inj z0).symm
       subst e0
       have e1:st1'=st1:=by rw [p1] at z1;exact (ZD.inj z1).symm
       subst e1
       have e3:arL=stg:=by rw [p2] at z2;exact (ZD.inj z2).symm
       subst e3
       rw [eu]
       exact ⟨hmz.2.2,sz,z3,hXz,aof⟩
      ·refine ⟨ms2++ms,by rw [k5,g3,hd];simp,?_⟩
       exact Marks.app hM1 hs2.size k4 k6
     obtain ⟨z',hz'⟩:=Zcm _ hj
     have hz':=hz'
     unfold tails at hz'
     obtain ⟨z,hzz,hzt⟩:=ZbE.1 hz'
     obtain ⟨Wp,hza,hf1,hf2,hf3⟩:=rE hzt
     have hzx:z∈y::zs:=hzz
     have hseg:Wp=fA++fB:=shape z hzz _ _ _ hza
     subst hseg
     obtain ⟨t0,t1,st2,s,hmj,hcalm,hmz,q0,q1,q2,q3,hXs,hend⟩:=uG z hzz j z'.acts hza
     have:t0=st0:=by rw [p0] at q0;exact (ZD.inj q0).symm
     subst this
     have:t1=st1:=by rw [p1] at q1;exact (ZD.inj q1).symm
     subst this
     have gl:=gu (rec:=rec) (env:=env) q3
     refine Ad hW hC bC g1 hJ1 (g4.2.2.trans hst) hmj q2 (gl.2.1.trans hXs) ?_
     rintro a2 w2 ⟨σ2,T2,ms2,k1,k2,k3,k4,k5,k6⟩ hwh
     have hwh:=hwh hcalm
     have hs4:=((g2'.pV w).stays).trans k4
     have hn3:∀ T' w',dB T2 T' w2 w'→Vu S2 T0' w w':=fun T' w' hw'=>ig Ae T' w' (hs4.trans hw')
     refine ⟨Whole w2,fun w' hw'=>⟨zr hwh.1 hw'.1,fun b hb=>(hw'.2 b (Zae hb hwh.1)).trans (hwh.2 b hb)⟩,Whole.refl w2,hn3 _ _ (dB.refl _ _),?_⟩
     have hjr:j∈Region.ready .any cu l1:=by
      have:=zE.1 hin z hzz
      unfold YB at this
      rw [hza] at this
      simpa using this
     have hcov:=zE.1 hall j hjr
     rw [if_neg hjg] at hcov
     refine ih _ _ _ hcov k1 hn3 k2 (((iY q2).2.2.trans g4.2.2).trans hst) (zr hb (zr g4.1 (iY q2).1)) (fun u hu=>?_) (hs2.trans k4) (fun k hk=>(k3 k (Zae hk (zr hb g4.1))).trans (hσ k hk)) ?_ hn
     ·unfold tails at hu
      obtain ⟨z2,hz2,acP⟩:=ZbE.1 hu
      obtain ⟨acQ,Si,e1,e2,e3⟩:=rE acP
      have Sj:acQ=fA++fB:=shape z2 hz2 _ _ _ Si
      subst Sj
      obtain ⟨t0',t1',st2',s',_,_,acR,q0',q1',q2',q3',acS,hend'⟩:=uG z2 hz2 j u.acts Si
      have e0:t0'=t0:=by rw [q0] at q0';exact (ZD.inj q0').symm
      subst e0
      have e4:t1'=t1:=by rw [q1] at q1';exact (ZD.inj q1').symm
      subst e4
      have e5:st2'=st2:=by rw [q2] at q2';exact (ZD.inj q2').symm
      subst e5
      unfold L6
      rw [e1,e2,e3]
      exact ⟨acR,s',q3',acS,hend'⟩
     ·refine ⟨ms2++ms,by rw [k5,g3,hd];simp,?_⟩
      exact Marks.app hM1 hs2.size k4 k6
   |(seg,i0)::more,ha,hB =>
    simp only [ZZ,decide_eq_true_eq] at hB
    obtain ⟨⟨⟨⟨DJ,hfs⟩,hsg⟩,hk⟩,hB⟩:=hB
    split at hB
    case h_2=>cases hB
    rename_i l1 hq1
    simp only [ZZ,ZaR,Zbw] at hB
    obtain ⟨⟨hne,hin⟩,hall⟩:=hB
    have hfin:∀ z∈x::y::zs,nD cu z.fin seg=nD cu x.fin seg∧mF cu z.fin seg=mF cu x.fin seg:=fun z hzz=>by
     have hx:=zE.1 hfs x (by simp)
     have hz:=zE.1 hfs z hzz
     simp only [ZZ,beq_iff_eq] at hx hz
     have e:=LZ (ops:=cu) (x:=z.fin) (y:=x.fin) (hz.1.trans hx.1.symm) hz.2
     unfold nD mF
     rw [e]
     exact ⟨rfl,rfl⟩
    have shape:∀ z∈x::y::zs,∃ i more,z.acts=(seg,i)::more:=fun z hzz=>by
     have:=zE.1 DJ z hzz
     unfold Gf at this
     split at this
     ·rename_i s i more e
      exact ⟨i,more,by rw [e,eq_of_beq this]⟩
     ·cases this
    have uG:∀ z∈x::y::zs,∀ i more,z.acts=(seg,i)::more→∃ st0 st1 st2 s,vZ P cu (nD cu x.fin seg) (bW vo (nD cu x.fin seg))=true∧(mL P cu (pick cu (mF cu x.fin seg)) (bW vo (mF cu x.fin seg))=true∧mJ true (bW vo (mF cu x.fin seg))=true)∧mL P cu (pick cu [i]) [vo.getD i default]=true∧RP (vo.getD i default)=true∧Ac P cu z.fin z.last more (bW vo (jF z.fin z.last more))=true ∧
      ops rec env (bW vo (nD cu x.fin seg)) st=some st0∧ops rec env (bW vo (mF cu x.fin seg)) st0=some st1∧op rec env (vo.getD i default) st1=some st2∧ops rec env (bW vo (jF z.fin z.last more)) st2=some s∧s.ys <+: C.X∧nN keep nb0 z.sw s=some st':=fun z hzz i more e=>by
     obtain ⟨hm,s,hrun,hX,hend⟩:=hz z hzz
     rw [e] at hm hrun
     have e2:bW vo (jF z.fin z.last ((seg,i)::more))=bW vo (nD cu x.fin seg)++(bW vo (mF cu x.fin seg)++(vo.getD i default::bW vo (jF z.fin z.last more))):=by
      show bW vo (seg++(i::jF z.fin z.last more))=_
      rw [jL,oQ,← Zay,← jL]
      congr 2
      exact (Zbu (p:=rY cu x.fin) (l:=seg)).symm
     rw [e2] at hm hrun
     have hlenA:=lg vo (nD cu x.fin seg)
     have uY:=lg vo (mF cu x.fin seg)
     simp only [Ac,ZZ,(hfin z hzz).1,(hfin z hzz).2] at hm
     rw [Zbp hlenA,Zbx hlenA,Zbp uY,Zbx uY] at hm
     obtain ⟨st0,p0,p1⟩:=fD hrun
     obtain ⟨st1,p1,p2⟩:=fD p1
     obtain ⟨st2,p2,p3⟩:=tV p2
     simp only [ZZ] at hm
     exact ⟨st0,st1,st2,s,hm.1.1.1,⟨hm.1.1.2,hm.1.2⟩,hm.2.1.1,hm.2.1.2,hm.2.2,p0,p1,p2,p3,hX,hend⟩
    obtain ⟨st0,st1,arG,sx,hqx,hqb,_,_,_,p0,p1,_⟩:=uG x (by simp) i0 more ha
    refine DF h hqx p0 fun a0 T0' f1 f2 f3 f4=>?_
    have Ae:∀ T' w',dB T0' T' w w'→S2 w':=fun T' w' hw=>Fq T' w' ((f2.pV w).stays.trans hw)
    refine ⟨Vu S2 T0' w,fun _ h=>h.1,ig Ae T0' w (dB.refl T0' w),?_⟩
    refine wo f1 hqb.1 hqb.2 p1 fun a1 T1 g1 g2e g3' g4'=>?_
    have g2':=g2e
    have g2:=f2.trans g2'
    have g4:=f4.trans g4'
    have g3:=g3'.trans f3
    intro j hj
    obtain ⟨ms,hd,hM⟩:=hms
    have hJ1:C.J st1.ys.length T1 w:=by rw [g4.2.1];exact hC.keep _ _ _ _ _ (g2.pV w) hJ
    obtain ⟨z',hz'⟩:=Zcm _ hj
    have hz':=hz'
    unfold tails at hz'
    obtain ⟨z,hzz,hzt⟩:=ZbE.1 hz'
    obtain ⟨Wp,hza,hf1,hf2,hf3⟩:=rE hzt
    have hseg:Wp=seg:=by
     obtain ⟨i,more',e⟩:=shape z hzz
     rw [hza] at e;cases e;rfl
    subst hseg
    obtain ⟨t0,t1,st2,s,_,_,hmj,hcalm,hmz,q0,q1,q2,q3,hXs,hend⟩:=uG z hzz j z'.acts hza
    have:t0=st0:=by rw [p0] at q0;exact (ZD.inj q0).symm
    subst this
    have:t1=st1:=by rw [p1] at q1;exact (ZD.inj q1).symm
    subst this
    have gl:=gu (rec:=rec) (env:=env) q3
    refine Ad hW hC bC g1 hJ1 (g4.2.2.trans hst) hmj q2 (gl.2.1.trans hXs) ?_
    rintro a2 w2 ⟨σ2,T2,ms2,k1,k2,k3,k4,k5,k6⟩ hwh
    have hwh:=hwh hcalm
    have hs4:=((g2'.pV w).stays).trans k4
    have hn3:∀ T' w',dB T2 T' w2 w'→Vu S2 T0' w w':=fun T' w' hw'=>ig Ae T' w' (hs4.trans hw')
    refine ⟨Whole w2,fun w' hw'=>⟨zr hwh.1 hw'.1,fun b hb=>(hw'.2 b (Zae hb hwh.1)).trans (hwh.2 b hb)⟩,Whole.refl w2,hn3 _ _ (dB.refl _ _),?_⟩
    have hjr:j∈Region.ready .any cu l1:=by
     have:=zE.1 hin z hzz
     unfold Oj at this
     rw [hza] at this
     simpa using this
    have hcov:=zE.1 hall j hjr
    have hs2:dB T0 T1 w0 w:=nT.trans (g2.pV w).stays
    have hM1:Marks T1 w0 w ms:=⟨fun r hr=>⟨(hM.1 r hr).1,g2.ro r (hM.1 r hr).2.1,(hM.1 r hr).2.2⟩,hM.2⟩
    refine ih _ _ _ hcov k1 hn3 k2 (((iY q2).2.2.trans g4.2.2).trans hst) (zr hb (zr g4.1 (iY q2).1)) (fun u hu=>?_) (hs2.trans k4) (fun k hk=>(k3 k (Zae hk (zr hb g4.1))).trans (hσ k hk)) ?_ hn
    ·unfold tails at hu
     obtain ⟨z2,hz2,acP⟩:=ZbE.1 hu
     obtain ⟨acQ,Si,e1,e2,e3⟩:=rE acP
     have Sj:acQ=Wp:=by
      obtain ⟨i,more',e⟩:=shape z2 hz2
      rw [Si] at e;cases e;rfl
     subst Sj
     obtain ⟨t0',t1',st2',s',_,_,_,_,acR,q0',q1',q2',q3',acS,hend'⟩:=uG z2 hz2 j u.acts Si
     have e0:t0'=t0:=by rw [q0] at q0';exact (ZD.inj q0').symm
     subst e0
     have e4:t1'=t1:=by rw [q1] at q1';exact (ZD.inj q1').symm
     subst e4
     have e5:st2'=st2:=by rw [q2] at q2';exact (ZD.inj q2').symm
     subst e5
     unfold L6
     rw [e1,e2,e3]
     exact ⟨acR,s',q3',acS,hend'⟩
    ·refine ⟨ms2++ms,by rw [k5,g3,hd];simp,?_⟩
     exact Marks.app hM1 hs2.size k4 k6
theorem ER {alts:List iQ}(h:lV rec env keep vo st alts=some st'):∀ z∈alts,nO rec env keep vo st z=some st':=by
 cases alts with
 |nil=>simp [lV] at h
 |cons x xs =>
  simp only [lV] at h
  obtain ⟨s,h1,h2⟩:=bind_some h
  obtain ⟨e,g⟩:=RZ h2
  subst e
  intro z hz
  rcases Zaf.1 hz with rfl|hz
  ·exact h1
  ·exact g _ (List.mem_map_of_mem hz)
theorem KH {alts:List iQ}(h:lV rec env keep vo st alts=some st'):st.boxes.length≤st'.boxes.length∧st.ys <+: st'.ys∧st'.stop=st.stop:=by
 cases alts with
 |nil=>simp [lV] at h
 |cons x xs =>
  have h1:=ER h x (by simp)
  unfold nO at h1
  obtain ⟨s,h2,h3⟩:=bind_some h1
  obtain ⟨e1,e2,e3⟩:=BH h3
  have g:=gu h2
  exact ⟨by rw [e3];exact g.1,by rw [e1];exact g.2.1,by rw [e2];exact g.2.2⟩
theorem KI {id:Nat}{Q:Exit→Act→World→Prop}{alts:List iQ}(hW:lJ F)(hC:C.Ok P L)(bC:gQ P rec env)(h:aV L σ T st a w)(hJ:C.J st.ys.length T w)(hst:st.stop=C.stop)(hX:st'.ys <+: C.X)
  (hmo:P.follows .mixedOrders=true) (hnd:kK cu=true) (hok:Wh P cu vo alts=true) (hp:lV rec env keep vo st alts=some st')
  (hn:∀ a' w',After C L st.boxes.length σ T w st' a.defers a' w'→Q .normal a' w'):(Code.region id cu true).wpIn F n P Q a w:=by
 simp only [Wh,ZZ] at hok
 obtain ⟨⟨hsel,hall⟩,hB⟩:=hok
 have hz:∀ z∈alts,L6 P rec env cu vo keep st.boxes.length C.X st st' z:=fun z hz=>by
  have h1:=zE.1 hall z hz
  simp only [ZZ] at h1
  have h2:=ER hp z hz
  unfold nO at h2
  obtain ⟨s,h3,h4⟩:=bind_some h2
  have he:=eq_of_beq h1.1
  unfold L6
  rw [← he]
  exact ⟨h1.2,s,h3,by rw [← (BH h4).1];exact hX,h4⟩
 split at hB
 ·cases hB
 rename_i x xs
 refine Fv (Whole w.drew) hW.fn hmo hnd hsel hB (Whole.refl _) ?_
 refine ak4 hW hC bC (nb:=st.boxes.length) (ze _) (w0:=w.drew) (σ0:=σ) (T0:=T) (ds:=a.defers) _ _ _ _ hB (h.sees (LY T w)) (fun _ _ _=>trivial) (hC.keep _ _ _ _ _ (BF T w) hJ) hst (ze _) hz (dB.refl _ _) (fun _ _=>rfl) ⟨[],rfl,Marks.nil⟩ fun a' w' hA=>hn _ _ ?_
 exact After.trans (ms:=[]) (BF T w).stays (fun _ _=>rfl) rfl Marks.nil (ze _) hA
end
section
variable {P:Program}{F:Fence}{C:Ctx}{n L nb:Nat}{σ σ':Nat→Nat}{T T' T1 T2:Tags}{st st' st1 st2:St}{a a1:Act}{w w1 w2:World}{d:Nat}{ks:List Nat}{l:List iG}{sz:Nat}{es:List PV}
 {rec:ay→St→Option (Ex×St)} {env:Env} {cu:Array Oper}
theorem Grow.xH {st0:St}(h:Grow nb st1 st2)(hb:st0.xH d ks sz es st2=some st'):Grow nb st1 st':=by
 unfold St.xH at hb
 split at hb
 ·have hb:=ZD.inj hb
  subst hb;exact h
 ·cases hb
end
def mC (P:Program):Code→ay→Bool
 |c,.clean _ _ v=>mC P c v
 |_,.drs _ _ _ []=>true
 |.skip,.skip=>true
 |.label _,.skip=>true
 |.region _ ops false,.ops l=>mL P ops ops.toList l
 |.region _ ops true,.AQ _ acts fin last l=>P.follows .mixedOrders&&kK ops&&YA ops acts fin last&&Ac P ops fin last acts l
 |.region _ ops true,.drs _ _ vo alts=>P.follows .mixedOrders&&kK ops&&Wh P ops vo alts
 |.seq a b,.seq c d=>mC P a c&&mC P b d
 |.cond x a b,.cond y c d=>bf x y&&mC P a c&&mC P b d
 |.block i a,.block j c=>i==j&&mC P a c
 |.loop a,.loop _ c=>mC P a c
 |.rangeFunc g ps vM bd,.rng g' ps' Sm bd'=>bf g g'&&ps.toList==ps'&&mC P vM Sm&&mC P bd bd'
 |.exit i,.exit j=>i==j
 |.scope a,.scp c=>mC P a c
 |.ret,.ret=>true
 |.region _ ops false,.Dk l d f args=>mL P ops ops.toList (l++[.call d f args])
 |_,_=>false
def toX:Ex→Exit
 |.normal=>.normal
 |.exit i=>.exit i
 |.ret=>.ret
 |.nJ t n=>.panic [{ v:=.iface t (.int .i64 n),recovered:=false }]
def Post (C:Ctx)(L nb:Nat)(σ:Nat→Nat)(T:Tags)(w:World)(e:Ex)(st':St)(ds:List Deferred):Exit→Act→World→Prop:=fun x a' w'=>x=toX e∧After C L nb σ T w st' ds a' w'
def Ctx.Rec (C:Ctx)(F:Fence):Prop:=∀ l,F=Fence.wide.inRound l→∀ k T w,C.J k T w→∃ r,w.heap[l]?=some (.loop r)
theorem Ctx.pY (C:Ctx):C.Rec Fence.wide:=fun l e=>by
 have:Fence.wide.round=(Fence.wide.inRound l).round:=by rw [← e]
 cases this
structure qH (P:Program)(rec:ay→St→Option (Ex×St)):Prop where
 grow:∀ c vc st e st',mC P c vc=true→rec vc st=some (e,st')→Grow st.boxes.length st st'
 acU:∀ c keep nb vc st e st',mC P c vc=true→rec (.round keep nb vc) st=some (e,st')→Grow nb st st'
 wp:∀ {F:Fence} {L:Nat} {C:Ctx} {n:Nat},lJ F→C.Rec F→C.Ok P L→∀ c vc st e st',mC P c vc=true→rec vc st=some (e,st')→st.stop=C.stop→st'.ys <+: C.X→∀ σ T a w,aV L σ T st a w→C.J st.ys.length T w→c.wpIn F n P (Post C L st.boxes.length σ T w e st' a.defers) a w
 wpR:∀ {F:Fence} {L:Nat} {C:Ctx} {n:Nat},lJ F→C.Rec F→C.Ok P L→∀ c keep nb vc st e st',mC P c vc=true→rec (.round keep nb vc) st=some (e,st')→st.stop=C.stop→st'.ys <+: C.X→∀ σ T a w,aV L σ T st a w→C.J st.ys.length T w→zY F n P c (Post C L nb σ T w e st' a.defers) a w
section
variable {P:Program}{F:Fence}{C:Ctx}{n L nb:Nat}{σ σ':Nat→Nat}{T T' T1 T2:Tags}{st st' st1:St}{a a1:Act}{w w1:World}{o:Oper}{vo:iG}{y:Operand}{x:bU}{d:Nat}
 {rec:ay→St→Option (Ex×St)} {env:Env} {next:Act→World→Prop} {Q:Exit→Act→World→Prop} {cu:Array Oper} {ds:List Deferred} {e:Ex}
end
def pG (K:Nat):qG:=.row (.part (K+1) 0)
section
variable {P:Program}{F:Fence}{C:Ctx}{n L nb:Nat}{σ σ':Nat→Nat}{T T' T1 T2:Tags}{st st' st1:St}{a a1:Act}{w w' w1:World}{o:Oper}{vo:iG}{y:Operand}{x:bU}{d:Nat}
 {rec:ay→St→Option (Ex×St)} {env:Env} {next:Act→World→Prop} {Q:Exit→Act→World→Prop} {cu:Array Oper} {ds:List Deferred} {e:Ex}
def acV (T:Tags)(K:Nat):Tags:=fun b=>if T b=pG K then .other else T b
theorem ZV {K b:Nat}(h:T b=pG K):acV T K b=.other:=if_pos h
theorem ZW {K b:Nat}(h:T b≠pG K):acV T K b=T b:=if_neg h
def Ol (L nb:Nat)(σ:Nat→Nat)(T:Tags)(w:World):AV→Value→Prop
 |.pv x,v=>aA (fun b=>T b=.ro) w x v
 |.aO o j,v=>o<nb∧v=.pointer (some ⟨σ o,j,none⟩)
 |.pp o j,v=>o<nb∧∃ b E,v=.pointer (some ⟨b,0,none⟩)∧T b=.ro∧w.heap[b]?=some (.cells #[.pointer (some ⟨σ o,j,none⟩)] E (0,0))
 |.fn f caps,v=>∃ arr:Array Value,v=.func (.func f) #[] arr∧arr.size=caps.length∧∀ (k:Nat) x u,caps[k]?=some x→arr[k]?=some u→iO nb σ T w x u
 |.tq,v=>v=.func (.yield L) #[] #[]
 |.any,_=>True
 |_,_=>False
def nU (L nb:Nat)(σ:Nat→Nat)(T:Tags)(w:World)(slots:List AV)(tmps:Array Value):Prop :=
 tmps.size=slots.length∧∀ (t:Nat) av v,slots[t]?=some av→tmps[t]?=some v→Ol L nb σ T w av v
theorem Ol.keep {av:AV}{v:Value}(h:Ol L nb σ T w av v)(hw:∀ b,T b=.ro→b<w.heap.size→T' b=.ro∧w'.heap[b]?=w.heap[b]?)(hσ:∀ o,o<nb→σ' o=σ o):Ol L nb σ' T' w' av v:=by
 cases av<;>simp only [Ol] at h ⊢
 case pv x=>exact aA.frame hw h
 case aO o j=>exact ⟨h.1,by rw [hσ o h.1];exact h.2⟩
 case pp o j =>
  obtain ⟨g0,b,E,e1,e2,e3⟩:=h
  have:=hw b e2 (zz.1 e3).1
  exact ⟨g0,b,E,e1,this.1,by rw [hσ o g0];exact this.2.trans e3⟩
 case fn f caps =>
  obtain ⟨arr,e1,e2,e3⟩:=h
  refine ⟨arr,e1,e2,fun k x u hx hu=>?_⟩
  have:=e3 k x u hx hu
  cases x<;>simp only [iO] at this ⊢
  case pv p=>exact aA.frame hw this
  case aO o j=>exact ⟨this.1,by rw [hσ o this.1];exact this.2⟩
 case tq=>exact h
theorem nU.keep {slots:List AV}{tmps:Array Value}(h:nU L nb σ T w slots tmps)(hw:∀ b,T b=.ro→b<w.heap.size→T' b=.ro∧w'.heap[b]?=w.heap[b]?)(hσ:∀ o,o<nb→σ' o=σ o):nU L nb σ' T' w' slots tmps :=
 ⟨h.1,fun t av v ht hv=>(h.2 t av v ht hv).keep hw hσ⟩
theorem Ol.arM {av:AV}{v:Value}{t:Nat}(h:Ol L nb σ T w av v)(hnb:nb≤st.boxes.length):lq L σ T st a w t av v:=by
 cases av<;>simp only [Ol] at h<;>simp only [lq]
 case pv x=>exact h
 case aO o j=>exact ⟨by omega,h.2⟩
 case pp o j=>exact ⟨by omega,h.2⟩
 case fn f caps =>
  obtain ⟨arr,e1,e2,e3⟩:=h
  refine ⟨arr,e1,e2,fun k x u hx hu=>?_⟩
  have:=e3 k x u hx hu
  cases x<;>simp only [iO] at this ⊢
  case pv p=>exact this
  case aO o j=>exact ⟨by omega,this.2⟩
 case tq=>exact h
theorem nU.sim {slots:List AV}{boxes:List Box}{ys:List (List PV)}{stop:Option (Option Nat)}{tmps:Array Value}{dfs:List Deferred}(h:nU L nb σ T w slots tmps)(hnb:nb≤boxes.length)(hb:∀ (o:Nat) bx,boxes[o]?=some bx→eU T w (σ o) o bx)
  (hf:∀ b,w.heap.size≤b→T b=.other):aV L σ T ⟨slots,boxes,ys,stop⟩ { tmps:=tmps,defers:=dfs } w :=
 ⟨h.1,fun t av v ht hv=>(h.2 t av v ht hv).arM hnb,hb,hf⟩
theorem aV.froze (h:aV L σ T st a w):∃ T',nU L st.boxes.length σ T' w (st.slots.map AV.froze) a.tmps∧(∀ (o:Nat) bx,st.boxes[o]?=some bx→eU T' w (σ o) o bx)∧Still T T':=by
 refine ⟨fun b=>match T b with|.row (.slot _)=>.ro|q=>q,⟨by simp [h.size],fun t av v ht hv=>?_⟩,fun o bx ho=>?_,⟨fun b e=>by simp [e],fun b e=>by simp [e]⟩⟩
 ·rw [zb] at ht
  cases e:st.slots[t]? with
  |none=>rw [e] at ht;cases ht
  |some av0 =>
   rw [e] at ht
   simp only [Zah,ZD.injEq] at ht
   subst ht
   have hA:=h.slots t av0 v e hv
   have hro:∀ b,T b=.ro→(match T b with|.row (.slot _)=>qG.ro|q=>q)=.ro:=fun b e=>by simp [e]
   cases av0<;>simp only [AV.froze,Ol]<;>simp only [lq] at hA
   case pv x=>exact aA.frame (fun b e _=>⟨hro b e,rfl⟩) hA
   case row sz es=>exact aW.list (fun b e=>by simp [e]) (fun b e=>hro b e) hA
   case aO o j=>exact hA
   case pp o j =>
    obtain ⟨g0,b,E,e1,e2,e3⟩:=hA
    exact ⟨g0,b,E,e1,hro b e2,e3⟩
   case fn f caps =>
    obtain ⟨arr,e1,e2,e3⟩:=hA
    refine ⟨arr,e1,e2,fun k x u hx hu=>?_⟩
    have:=e3 k x u hx hu
    cases x<;>simp only [iO] at this ⊢
    case pv p=>exact aA.frame (fun b e _=>⟨hro b e,rfl⟩) this
    case aO o j=>exact this
   case tq=>exact hA
 ·have hb:=h.boxes o bx ho
  have hT:(match T (σ o) with|.row (.slot _)=>qG.ro|q=>q)=T (σ o):=by
   obtain ⟨_,_,_,_,h3,_⟩:=hb
   rw [h3];cases hfz:bx.fz<;>simp
  exact hb.frame ⟨hT,rfl⟩ (fun j b e _=>⟨by simp [e],rfl⟩) (fun b e _=>⟨by simp [e],rfl⟩)
theorem nU.params:∀ {ps:List Nat} {x:List PV} {vs:List Value} {slots sl:List AV} {tmps:Array Value},gI slots ps x=some sl→nU L nb σ T w slots tmps→vs.length=x.length→(∀ (i:Nat) p v,x[i]?=some p→vs[i]?=some v→aA (fun b=>T b=.ro) w p v) →
  ps.length=vs.length∧nU L nb σ T w sl ((ps.zip vs).foldl (fun t (p,v)=>t.setIfInBounds p v) tmps)
 |[],[],vs,slots,sl,tmps,hs,h,hl,hr=>by
  simp only [gI,ZD.injEq] at hs
  subst hs
  have:vs=[]:=List.eq_nil_of_length_eq_zero (by simpa using hl)
  subst this
  exact ⟨rfl,h⟩
 |p::ps,q::x,v::vs,slots,sl,tmps,hs,h,hl,hr=>by
  simp only [gI] at hs
  have h1:nU L nb σ T w (slots.set p (.pv q)) (tmps.setIfInBounds p v):=by
   refine ⟨by simp [h.1],fun t av u ht hu=>?_⟩
   rw [zp] at ht
   rw [Zbh] at hu
   by_cases e:p=t
   ·subst e
    simp only [if_true] at ht hu
    split at ht
    ·split at hu
     ·cases ht;cases hu
      exact hr 0 q v rfl rfl
     ·cases hu
    ·cases ht
   ·simp only [if_neg e] at ht hu
    exact h.2 t av u ht hu
  obtain ⟨k1,k2⟩:=nU.params (vs:=vs) hs h1 (by simpa using hl) (fun i p v hp hv=>hr (i+1) p v hp hv)
  exact ⟨by simp [k1],k2⟩
 |[],_::_,_,_,_,_,hs,_,_,_=>by simp [gI] at hs
 |_::_,[],_,_,_,_,hs,_,_,_=>by simp [gI] at hs
 |_::_,_::_,[],_,_,_,_,_,hl,_=>by simp at hl
theorem xY (hg:∀ c vc st e st',mC P c vc=true→rec vc st=some (e,st')→Grow st.boxes.length st st'){ca cb:Code}{slots:List AV}{ps:List Nat}{vM bd:ay}(ha:mC P ca vM=true)(hb:mC P cb bd=true) :
  ∀ (xs:List (List PV)) (k:Nat) (s:St) r s',rounds rec slots ps vM bd nb k xs s=some (r,s')→nb≤s.boxes.length→Grow nb s s'
 |[],k,s,r,s',h,hn=>by
  simp only [rounds,ZD.injEq,ZaD.injEq] at h
  rw [← h.2];exact ⟨hn,ZbC _,rfl⟩
 |x::xs,k,s,r,s',h,hn=>by
  unfold rounds at h
  replace h:=bind_some h
  obtain ⟨sl,h1,h⟩:=h
  replace h:=bind_some h
  obtain ⟨⟨e1,s1⟩,h2,h⟩:=h
  have g1:=hg _ _ _ _ _ ha h2
  simp only at h
  split at h
  case h_2=>cases h
  replace h:=bind_some h
  obtain ⟨⟨e2,s2⟩,h3,h⟩:=h
  have g2:=hg _ _ _ _ _ hb h3
  have g1':Grow nb s s1:=⟨zr hn g1.1,g1.2.1,g1.2.2⟩
  have g2':Grow nb s1 s2:=g2.mono g1'.1
  simp only at h
  split at h
  ·split at h
   case isFalse=>cases h
   rename_i hle
   have g3:=xY hg ha hb xs (k+1) _ r s' h (by simp;omega)
   exact (g1'.trans g2').trans ⟨g3.1,g3.2.1,g3.2.2⟩
  ·cases h
  ·simp only [ZD.injEq,ZaD.injEq] at h
   rw [← h.2];exact g1'.trans g2'
end
theorem Sr {ok good:Nat→Prop}{w:World}(hg:∀ b,dD w b→good b){x:PV}{v:Value}(h:aA ok w x v):aA (fun b=>ok b∧good b) w x v:=by
 induction h with
 |int k n=>exact .int k n
 |bool b=>exact .bool b
 |str s=>exact .str s
 |uw=>exact .uw
 |void v h=>exact .void v h
 |nil sz a=>exact .nil sz a
 |l9 sz a=>exact .l9 sz a
 |list sz es b off c cv h1 h2 h3 h4 h6 h7 h8 ih=>exact .list sz es b off c cv ⟨h1,hg b h2⟩ h2 h3 h4 h6 h7 ih
 |agg cs arr h1 h2 h3 ih=>exact .agg cs arr h1 h2 ih
 |func f caps arr h1 h2 ih=>exact .func f caps arr h1 ih
 |dM cs j b off cv h1 h2 h3 h4 ih=>exact .dM cs j b off cv ⟨h1,hg b h2⟩ h2 h3 ih
def Compat (T Tc:Tags)(K B0:Nat)(w:World):Prop:=∀ b,b<w.heap.size→T b≠.other→Tc b=pG K∨(T b=.ro∧Tc b=.ro∧(b<B0∨dD w b))
theorem uH (K:Nat):pG K≠.ro:=by simp [pG]
theorem yY (K:Nat):pG K≠.other:=by simp [pG]
structure Rg where
 L:Nat
 nb:Nat
 K:Nat
 σ0:Nat→Nat
 T1:Tags
 w0:World
 slots:List AV
 tmps:Array Value
 l:Nat
 D:List Nat
 B0:Nat
structure CSx (C:Ctx)(R:Rg)(lp:Loop)(s:St)(T:Tags)(w:World)(σ:Nat→Nat)(Tc:Tags):Prop where
 fs:nU R.L R.nb σ Tc w R.slots R.tmps
 bx:∀ (o:Nat) b,s.boxes[o]?=some b→eU Tc w (σ o) o b
 fr:∀ b,w.heap.size≤b→Tc b=.other
 j:C.J s.ys.length Tc w
 nbx:R.nb≤s.boxes.length
 stp:s.stop=C.stop
 sg:∀ o,o<R.nb→σ o=R.σ0 o
 sy:dB R.T1 Tc R.w0 w
 cp:Compat T Tc R.K R.B0 w
 rl:w.heap[R.l]?=some (.loop lp)
 rt:Tc R.l=pG R.K
 ro:T R.l=.other
 dd:∀ d∈R.D,w.heap[d]?=some (.deferred (some []))∧Tc d=.ro∧T d=.other
def CS (C:Ctx)(R:Rg)(lp:Loop)(s:St)(T:Tags)(w:World):Prop:=∃ σ Tc,CSx C R lp s T w σ Tc
section
variable {P:Program}{F:Fence}{C:Ctx}{n L nb:Nat}{σ σ':Nat→Nat}{T T' Tc T1 T2:Tags}{st st' st1 s:St}{a a1:Act}{w w' w1:World}{R:Rg}{lp:Loop}
 {rec:ay→St→Option (Ex×St)} {env:Env}
theorem lt_of_heap {o:Obj}{b:Nat}(h:w.heap[b]?=some o):b<w.heap.size:=(zz.1 h).1
theorem CS.take (h:CS C R lp s T w):CS C R lp { s with boxes:=s.boxes.take R.nb } T w:=by
 obtain ⟨σ,Tc,h⟩:=h
 refine ⟨σ,Tc,{ h with bx:=fun o b ho=>?_,nbx:=?_ }⟩
 ·simp only [Zaq] at ho
  split at ho
  ·exact h.bx o b ho
  ·cases ho
 ·have:=h.nbx;simp;omega
theorem CS.keep (hC:C.Ok P L)(h:CS C R lp s T w)(hc:zQ T T' w w'):CS C R lp s T' w':=by
 classical
 obtain ⟨σ,Tc,h⟩:=h
 have hsame:∀ b,b<w.heap.size→Tc b≠pG R.K→w'.heap[b]?=w.heap[b]?:=fun b hb hd=>by
  by_cases e:T b=.other
  ·exact hc.same b hb (.inr e)
  ·rcases h.cp b hb e with g|⟨g,_⟩
   ·exact absurd g hd
   ·exact hc.same b hb (.inl g)
 obtain ⟨Tn,RG⟩:∃ Tn:Tags,Tn=fun b=>if b<w.heap.size then Tc b else if b<w'.heap.size∧T' b≠.other then pG R.K else .other:=⟨_,rfl⟩
 have hlt:∀ b,b<w.heap.size→Tn b=Tc b:=fun b hb=>by rw [RG];exact if_pos hb
 have hl:=lt_of_heap h.rl
 have hro:∀ b,Tc b=.ro→b<w.heap.size:=fun b e=>by
  rcases Zbf b w.heap.size with g|g
  ·exact g
  ·rw [h.fr b g] at e;cases e
 have hw:∀ b,Tc b=.ro→b<w.heap.size→Tn b=.ro∧w'.heap[b]?=w.heap[b]?:=fun b e hb=>⟨by rw [hlt b hb,e],hsame b hb (by rw [e];exact (uH _).symm)⟩
 refine ⟨σ,Tn,⟨h.fs.keep hw fun _ _=>rfl,fun o b ho=>?_,fun b hb=>?_,?_,h.nbx,h.stp,h.sg,h.sy.trans ⟨hc.size,fun b e=>(hw b e (hro b e)).1,fun b hb e=>hsame b hb (by rw [e];exact (uH _).symm)⟩,fun b hb ht=>?_,?_,?_,?_,fun d hd=>?_⟩⟩
 ·have hb:=h.bx o b ho
  have hbl:=hb.lt
  have hT:Tc (σ o)≠pG R.K:=by
   obtain ⟨_,_,_,_,h3,_⟩:=hb
   rw [h3];split<;>simp [pG]
  exact hb.frame ⟨hlt _ hbl,hsame _ hbl hT⟩ (fun j b e hb=>⟨by rw [hlt b hb,e],hsame b hb (by rw [e];simp [pG])⟩) hw
 ·have:¬ b<w.heap.size:=by have:=hc.size;omega
  rw [RG]
  simp only [if_neg this,if_neg (show ¬ (b<w'.heap.size∧T' b≠.other) by omega)]
 ·refine hC.keep _ _ _ _ _ ⟨hc.size,hc.os,hc.tape,hc.output,fun b hb ht=>?_,fun b e=>(hw b e (hro b e)).1,fun b hb e=>by rw [hlt b hb,e]⟩ h.j
  refine hsame b hb ?_
  rcases ht with e|e<;>rw [e]<;>simp [pG]
 ·by_cases hbl:b<w.heap.size
  ·have ht0:T b≠.other:=fun e=>ht (hc.other b hbl e)
   rw [hlt b hbl]
   rcases h.cp b hbl ht0 with g|⟨g1,g2,g3⟩
   ·exact .inl g
   ·refine .inr ⟨hc.ro b g1,g2,g3.imp id fun hcl=>hcl.same (hc.same b hbl (.inl g1))⟩
  ·left
   rw [RG]
   simp only [if_neg hbl,if_pos (show b<w'.heap.size∧T' b≠.other from ⟨hb,ht⟩)]
 ·rw [hc.same _ hl (.inr h.ro)];exact h.rl
 ·rw [hlt _ hl];exact h.rt
 ·exact hc.other _ hl h.ro
 ·obtain ⟨g1,g2,g3⟩:=h.dd d hd
  have hdl:=lt_of_heap g1
  exact ⟨by rw [hc.same _ hdl (.inr g3)];exact g1,by rw [hlt _ hdl];exact g2,hc.other _ hdl g3⟩
def mM (C:Ctx)(K l:Nat)(S:Nat→Prop)(w:World)(lp:Loop)[DecidablePred S]:Ctx where
 X:=C.X
 stop:=C.stop
 J k T u:=(∀ b,S b→T b=.other)∧(∀ b,S b→b≠l→u.heap[b]?=w.heap[b]?)∧u.heap[l]?=some (.loop lp)∧w.heap.size≤u.heap.size∧C.J k (fun b=>if S b then pG K else T b) u
theorem ak6 (hC:C.Ok P L){K l:Nat}{S:Nat→Prop}[DecidablePred S](hS:∀ b,S b→b<w.heap.size)(hl:S l):(mM C K l S w lp).Ok P L:=by
 refine ⟨fun k T T' u u' hc ⟨h1,h2,h3,h4,h5⟩=>⟨fun b hb=>?_,fun b hb hbl=>?_,?_,zr h4 hc.size,?_⟩,fun k T u ⟨h1,h2,h3,h4,h5⟩=>(hC.glob _ _ _ h5).frame fun b e _=>⟨?_,rfl⟩,fun s k T u ps vs hs hx hf ⟨h1,h2,h3,h4,h5⟩ hlen hr=>?_⟩
 ·exact hc.other b (by have:=hS b hb;omega) (h1 b hb)
 ·exact (hc.same b (by have:=hS b hb;omega) (.inr (h1 b hb))).trans (h2 b hb hbl)
 ·exact (hc.same l (by have:=hS l hl;omega) (.inr (h1 l hl))).trans h3
 ·refine hC.keep _ _ _ _ _ ⟨hc.size,hc.os,hc.tape,hc.output,fun b hb ht=>?_,fun b e=>?_,fun b hb e=>?_⟩ h5
  ·by_cases hs:S b
   ·simp only [if_pos hs] at ht;rcases ht with e|e<;>simp [pG] at e
   ·simp only [if_neg hs] at ht;exact hc.same b hb ht
  ·by_cases hs:S b
   ·simp only [if_pos hs] at e;simp [pG] at e
   ·simp only [if_neg hs] at e ⊢;exact hc.ro b e
  ·by_cases hs:S b
   ·simp only [if_pos hs] at e;simp [pG] at e
   ·simp only [if_neg hs] at e ⊢;exact hc.other b hb e
 ·by_cases hs:S b
  ·simp only [if_pos hs] at e;simp [pG] at e
  ·simp only [if_neg hs] at e;exact e
 ·have hns:∀ b,T b≠.other→¬ S b:=fun b hb hs=>hb (h1 b hs)
  obtain ⟨f,tm,vM,bd,k1,k2⟩:=hC.tq s k (fun b=>if S b then pG K else T b) u ps vs hs hx (fun b hb=>by
   have:¬ S b:=fun hs=>by have:=hS b hs;omega
   simp only [if_neg this];exact hf b hb) h5 hlen (fun i p v hp hv=>(hr i p v hp hv).frame fun b hb _=>⟨by simp only [if_neg (hns b (by rw [hb];simp))];exact hb,rfl⟩)
  refine ⟨f,tm,vM,bd,k1,fun n=>?_⟩
  refine (k2 n).mono fun e w3 hq=>?_
  obtain ⟨g1,g2,g3⟩:=hq
  have hse:∀ b,(if S b then pG K else T b)≠.other→b<u.heap.size→w3.heap[b]?=u.heap[b]?:=g3.2
  refine ⟨g1,⟨h1,fun b hb hbl=>?_,?_,zr h4 g3.1,g2⟩,g3.1,fun b hb hbl=>hse b (by rw [if_neg (hns b hb)];exact hb) hbl⟩
  ·exact (hse b (by rw [if_pos hb];simp [pG]) (by have:=hS b hb;omega)).trans (h2 b hb hbl)
  ·exact (hse l (by rw [if_pos hl];simp [pG]) (by have:=hS l hl;omega)).trans h3
end
section
variable {P:Program}{F:Fence}{C:Ctx}{n L nb:Nat}{σ σ':Nat→Nat}{T T' Tc T1 T2:Tags}{st st' st1 s:St}{a a1:Act}{w w' w1:World}{R:Rg}{lp:Loop}
 {rec:ay→St→Option (Ex×St)} {env:Env}
def wu:Ex→Option Code
 |.normal=>none
 |.ret=>some .ret
 |.exit i=>some (.exit i)
 |.nJ _ _=>none
theorem YE (C:Ctx)(K l:Nat)(S:Nat→Prop)(w:World)(lp:Loop)[DecidablePred S]:(mM C K l S w lp).Rec (Fence.wide.inRound l):=fun l' e k T u h=>by
 have:(Fence.wide.inRound l).round=(Fence.wide.inRound l').round:=by rw [← e]
 have:l=l':=ZD.inj this
 subst this
 exact ⟨lp,h.2.2.1⟩
set_option maxHeartbeats 1000000 in
theorem Sv (hR:qH P rec)(hC:C.Ok P R.L){ca cb:Code}{vM bd:ay}(ha:mC P ca vM=true)(hb:mC P cb bd=true){fn:FuncId}{ps:Array Tmp}{dd:Nat}{rc:LoopState→Option Code→Loop}
  (hrc:rc=fun st pe=>{ state:=st,pending:=pe,fn:=fn,tmps:=R.tmps,params:=ps,assign:=ca,body:=cb,defers:=dd })
  (hcs:CS C R (rc .ready none) s T w) (hT:∀ b,w.heap.size≤b→T b=.other) (hD:R.l ∉ R.D) {x:List PV} {vs:List Value} (hvs:vs.length=x.length) (hrep:∀ (i:Nat) p v,x[i]?=some p→vs[i]?=some v→aA (fun b=>T b=.ro) w p v)
  {sl:List AV} {sa sb:St} {e:Ex} (h1:gI R.slots ps.toList x=some sl) (h2:rec vM { s with slots:=sl }=some (.normal,sa)) (h3:rec bd sa=some (e,sb)) (hX:sb.ys <+: C.X) (he:∀ t n,e≠.nJ t n) :
  ∃ f aj1 Sm bd',(Instr.yield R.l vs.toArray).run P w=.ok (.round R.l f aj1 Sm bd') w∧∀ n,RoundIn Fence.wide n P R.l f aj1 Sm bd' w fun en w'=>en=.returned (.bool (wu e).isNone) ∧
   CS C R (rc (if (wu e).isNone then .ready else .done) (wu e)) sb T w'∧rQ T w w':=by
 classical
 obtain ⟨σ1,Tc,h⟩:=hcs
 have hll:=lt_of_heap h.rl
 obtain ⟨Ty,hTy⟩:∃ Ty:Tags,Ty=fun b=>if Tc b=pG R.K∧T b=.ro∧dD w b then .ro else Tc b:=⟨_,rfl⟩
 have ty1:∀ b,Tc b=pG R.K∧T b=.ro∧dD w b→Ty b=.ro:=fun b hb=>by rw [hTy];exact if_pos hb
 have ty2:∀ b,¬ (Tc b=pG R.K∧T b=.ro∧dD w b)→Ty b=Tc b:=fun b hb=>by rw [hTy];exact if_neg hb
 have ty3:∀ b,Tc b≠pG R.K→Ty b=Tc b:=fun b hb=>ty2 b fun g=>hb g.1
 obtain ⟨Sx,hSx⟩:∃ Sx:Nat→Prop,Sx=fun b=>b<w.heap.size∧Ty b=pG R.K:=⟨_,rfl⟩
 have hSl:∀ b,Sx b→b<w.heap.size:=fun b hb=>by rw [hSx] at hb;exact hb.1
 have hSd:∀ b,Sx b→Ty b=pG R.K:=fun b hb=>by rw [hSx] at hb;exact hb.2
 have arN:Ty R.l=pG R.K:=by rw [ty2 _ fun g=>(by have:=g.2.1;rw [h.ro] at this;cases this)];exact h.rt
 have hlS:Sx R.l:=by rw [hSx];exact ⟨hll,arN⟩
 have acW:∀ b,w.heap.size≤b→Ty b=.other:=fun b hb=>by rw [ty3 b (by rw [h.fr b hb];exact (yY _).symm),h.fr b hb]
 obtain ⟨Tz,hTz⟩:∃ Tz:Tags,Tz=acV Ty R.K:=⟨_,rfl⟩
 have tz1:∀ b,Sx b→Tz b=.other:=fun b hb=>by rw [hTz];exact ZV (hSd b hb)
 have tz2:∀ b,Ty b≠pG R.K→Tz b=Ty b:=fun b hb=>by rw [hTz];exact ZW hb
 have hre:(fun b=>if Sx b then pG R.K else Tz b)=Ty:=by
  funext b
  by_cases hb:Sx b
  ·simp only [if_pos hb];exact (hSd b hb).symm
  ·simp only [if_neg hb]
   refine tz2 b fun e=>hb ?_
   rw [hSx]
   refine ⟨?_,e⟩
   rcases Zbf b w.heap.size with g|g
   ·exact g
   ·rw [acW b g] at e;exact absurd e.symm (yY _)
 have acX:∀ b,Tc b≠pG R.K→Tz b=Tc b:=fun b hb=>by rw [tz2 b (by rw [ty3 b hb];exact hb),ty3 b hb]
 have hro:∀ b,Tc b=.ro→b<w.heap.size→Tz b=.ro∧w.heap[b]?=w.heap[b]?:=fun b e _=>⟨by rw [acX b (by rw [e];exact (uH _).symm),e],rfl⟩
 -- the round's own state
 have hJy:C.J s.ys.length Ty w:=hC.keep _ _ _ _ _ ⟨ze _,rfl,rfl,rfl,fun _ _ _=>rfl,fun b e=>by rw [ty3 b (by rw [e];exact (uH _).symm),e],fun b _ e=>by rw [ty3 b (by rw [e];exact (yY _).symm),e]⟩ h.j
 have hbz:∀ (o:Nat) b,s.boxes[o]?=some b→eU Tz w (σ1 o) o b:=fun o b ho=>by
  have hb:=h.bx o b ho
  have hT0:Tc (σ1 o)≠pG R.K:=by
   obtain ⟨_,_,_,_,h3,_⟩:=hb
   rw [h3];split<;>simp [pG]
  exact hb.frame ⟨acX _ hT0,rfl⟩ (fun j b e _=>⟨by rw [acX b (by rw [e];simp [pG]),e],rfl⟩) hro
 have hfz:∀ b,w.heap.size≤b→Tz b=.other:=fun b hb=>by rw [tz2 b (by rw [acW b hb];exact (yY _).symm),acW b hb]
 obtain ⟨hpl,hfs⟩:=nU.params (T:=Tz) (w:=w) h1 (h.fs.keep hro fun _ _=>rfl) hvs (fun i p v hp hv=>(Sr (fun b hcl=>hcl) (hrep i p v hp hv)).frame fun b ⟨hb,hcl⟩ hbl=>⟨by
  rcases h.cp b hbl (by rw [hb];simp) with g|⟨_,g,_⟩
  ·rw [tz2 b (by rw [ty1 b ⟨g,hb,hcl⟩];exact (uH _).symm),ty1 b ⟨g,hb,hcl⟩]
  ·exact (hro b g hbl).1,rfl⟩)
 have Fz:aV R.L σ1 Tz { s with slots:=sl } { tmps:=(ps.toList.zip vs).foldl (fun t (p,v)=>t.setIfInBounds p v) R.tmps,defers:=[] } w:=hfs.sim h.nbx hbz hfz
 have hOk:∀ lp,(mM C R.K R.l Sx w lp).Ok P R.L:=fun lp=>ak6 hC hSl hlS
 have hJ0:(mM C R.K R.l Sx w (rc .ready none)).J s.ys.length Tz w:=⟨tz1,fun _ _ _=>rfl,h.rl,ze _,by rw [hre];exact hJy⟩
 have ga:=hR.grow _ _ _ _ _ ha h2
 have gb:=hR.grow _ _ _ _ _ hb h3
 have hy:=run_yield (P:=P) (args:=vs.toArray) h.rl (by rw [hrc];simp only [ZaX];rw [← hpl];simp)
 refine ⟨fn,_,ca,cb,by rw [hrc] at hy;exact hy,fun n=>roundIn_of_wpIn (show Fence.wide.fn fn from trivial) ?_⟩
 have hfold:(ps.zip vs.toArray).foldl (fun t (p,v)=>t.setIfInBounds p v) R.tmps=(ps.toList.zip vs).foldl (fun t (p,v)=>t.setIfInBounds p v) R.tmps:=by
  rw [← Array.foldl_toList];simp
 have ak8:((ps.zip vs.toArray).foldl (fun tmps (x:Tmp×Value)=>match x with|(t,a)=>tmps.setIfInBounds t a) R.tmps)=(ps.toList.zip vs).foldl (fun t (p,v)=>t.setIfInBounds p v) R.tmps:=hfold
 rw [ak8]
 refine wpIn_mono (hR.wp (.inr ⟨R.l,rfl⟩) (YE C R.K R.l Sx w (rc .ready none)) (hOk _) ca vM _ .normal sa ha h2 h.stp (gb.2.1.trans hX) σ1 Tz _ w Fz hJ0) ?_
 rintro xx aa wa ⟨rfl,σa,Ta,msa,p1,p2,p3,p4,_,_⟩
 obtain ⟨q1,q2,q3,q4,q5⟩:=p2
 have hla:=lt_of_heap q3
 refine ⟨wa.putObj R.l (.loop (rc .busy none)),by have:=run_beginRound (P:=P) q3 (by rw [hrc]);rw [hrc] at this ⊢;exact this,?_⟩
 have hpo:∀ b,b≠R.l→(wa.putObj R.l (.loop (rc .busy none))).heap[b]?=wa.heap[b]?:=fun b hb=>World.putObj_heap_other hb
 have hps:(wa.putObj R.l (.loop (rc .busy none))).heap.size=wa.heap.size:=by simp [World.putObj]
 have hsa:aV R.L σa Ta sa aa (wa.putObj R.l (.loop (rc .busy none))):=p1.sees ⟨by rw [hps];exact ze _,fun b hb _=>hpo b fun e=>hb (by rw [e];exact q1 _ hlS)⟩
 have hJa:(mM C R.K R.l Sx w (rc .busy none)).J sa.ys.length Ta (wa.putObj R.l (.loop (rc .busy none))):=by
  refine ⟨q1,fun b hb hbl=>(hpo b hbl).trans (q2 b hb hbl),World.putObj_heap_same hla,by rw [hps];exact q4,?_⟩
  refine hC.keep _ _ _ wa _ ⟨by rw [hps];exact ze _,rfl,rfl,rfl,fun b hb ht=>hpo b fun e=>?_,fun _ e=>e,fun _ _ e=>e⟩ q5
  subst e
  simp only [if_pos hlS] at ht
  rcases ht with e|e<;>simp [pG] at e
 refine wpIn_mono (hR.wp (.inr ⟨R.l,rfl⟩) (YE C R.K R.l Sx w (rc .busy none)) (hOk _) cb bd _ e sb hb h3 (ga.2.2.trans h.stp) hX σa Ta _ _ hsa hJa) ?_
 rintro xx ab wb ⟨rfl,σb,Tb,msb,r1,r2,r3,r4,_,_⟩
 obtain ⟨t1,t2,t3,t4,t5⟩:=r2
 have hlb:=lt_of_heap t3
 have hend:∀ j:Option Code,(Instr.endRound R.l j).run P wb=.ok (.bool j.isNone) (wb.putObj R.l (.loop (rc (if j.isNone then .ready else .done) j))):=fun j=>by
  have:=run_endRound (P:=P) j t3
  rw [hrc] at this ⊢
  exact this
 obtain ⟨w3,hw3⟩:∃ w3,w3=wb.putObj R.l (.loop (rc (if (wu e).isNone then .ready else .done) (wu e))):=⟨_,rfl⟩
 have hpb:∀ b,b≠R.l→w3.heap[b]?=wb.heap[b]?:=fun b hb=>by rw [hw3];exact World.putObj_heap_other hb
 have aoi:w3.heap.size=wb.heap.size:=by rw [hw3];simp [World.putObj]
 have hsz:w.heap.size≤w3.heap.size:=by rw [aoi];exact t4
 -- what is read only stays
 have stay:∀ b,Tz b=.ro→b<w.heap.size→Tb b=.ro∧w3.heap[b]?=w.heap[b]?:=fun b hz hbl=>by
  have hbS:¬ Sx b:=fun hs=>by rw [tz1 b hs] at hz;cases hz
  have acY:b≠R.l:=fun e=>hbS (by rw [e];exact hlS)
  have e1:=p4.ro b hz
  have e2:=r4.ro b e1
  refine ⟨e2,?_⟩
  rw [hpb b acY,r4.same b (by rw [hps];exact Zae hbl p4.size) e1,hpo b acY,p4.same b hbl hz]
 have hnS:∀ b,Tb b≠.other→¬ Sx b:=fun b hb hs=>hb (t1 b hs)
 have RG:∀ b,¬ Sx b→(if Sx b then pG R.K else Tb b)=Tb b:=fun b hb=>if_neg hb
 have Om:∀ b,Tc b=.ro→b<w.heap.size→(fun b=>if Sx b then pG R.K else Tb b) b=.ro∧w3.heap[b]?=w.heap[b]?:=fun b hb hbl=>by
  obtain ⟨e1,e2⟩:=stay b (hro b hb hbl).1 hbl
  exact ⟨by show (if Sx b then pG R.K else Tb b)=.ro;rw [RG b (hnS b (by rw [e1];simp)),e1],e2⟩
 have aoj:∀ b,Tc b=.ro→b<w.heap.size:=fun b hb=>by
  rcases Zbf b w.heap.size with g|g
  ·exact g
  ·rw [h.fr b g] at hb;cases hb
 have hσ:∀ o,o<R.nb→σb o=σ1 o:=fun o ho=>by
  have k1:R.nb≤s.boxes.length:=h.nbx
  have k2:s.boxes.length≤sa.boxes.length:=ga.1
  rw [r3 o (by omega),p3 o (by show o<s.boxes.length;omega)]
 have ak9:Tb R.l=.other:=t1 _ hlS
 have hfin:CS C R (rc (if (wu e).isNone then .ready else .done) (wu e)) sb T w3:=by
  refine ⟨σb,fun b=>if Sx b then pG R.K else Tb b,⟨h.fs.keep Om hσ,fun o b ho=>?_,fun b hb=>?_,?_,?_,?_,fun o ho=>(hσ o ho).trans (h.sg o ho),?_,fun b hb ht=>?_,?_,if_pos hlS,h.ro,fun d hd=>?_⟩⟩
  ·have hbx:=r1.boxes o b ho
   have hne:Tb (σb o)≠.other:=by
    obtain ⟨_,_,_,_,h3,_⟩:=hbx
    rw [h3];split<;>simp
   refine hbx.frame ⟨RG _ (hnS _ hne),hpb _ fun e=>hne (by rw [e];exact ak9)⟩ (fun j b e _=>⟨by rw [RG b (hnS b (by rw [e];simp)),e],hpb b fun e2=>by rw [e2,ak9] at e;cases e⟩) (fun b e _=>⟨by rw [RG b (hnS b (by rw [e];simp)),e],hpb b fun e2=>by rw [e2,ak9] at e;cases e⟩)
  ·have:¬ Sx b:=fun hs=>by have:=hSl b hs;omega
   rw [RG b this]
   exact r1.fresh b (by omega)
  ·refine hC.keep _ _ _ wb _ ⟨by rw [aoi];exact ze _,by rw [hw3];rfl,by rw [hw3];rfl,by rw [hw3];rfl,fun b hb ht=>hpb b fun e=>?_,fun _ e=>e,fun _ _ e=>e⟩ t5
   subst e
   simp only [if_pos hlS] at ht
   rcases ht with e|e<;>simp [pG] at e
  ·have:=ga.1;have:=gb.1;have:=h.nbx
   have e1:s.boxes.length≤sa.boxes.length:=ga.1
   omega
  ·exact gb.2.2.trans (ga.2.2.trans h.stp)
  ·exact h.sy.trans ⟨hsz,fun b hb=>(Om b hb (aoj b hb)).1,fun b hbl hb=>(Om b hb hbl).2⟩
  ·have hbl:b<w.heap.size:=by
    rcases Zbf b w.heap.size with g|g
    ·exact g
    ·exact absurd (hT b g) ht
   have conv:Tz b=.ro→(fun b=>if Sx b then pG R.K else Tb b) b=.ro∧w3.heap[b]?=w.heap[b]?:=fun hz=>by
    obtain ⟨e1,e2⟩:=stay b hz hbl
    exact ⟨by show (if Sx b then pG R.K else Tb b)=.ro;rw [RG b (hnS b (by rw [e1];simp)),e1],e2⟩
   rcases h.cp b hbl ht with g|⟨g1,g2,g3⟩
   ·by_cases hc:T b=.ro∧dD w b
    ·have ey:=ty1 b ⟨g,hc.1,hc.2⟩
     obtain ⟨e1,e2⟩:=conv (by rw [tz2 b (by rw [ey];exact (uH _).symm),ey])
     exact .inr ⟨hc.1,e1,.inr (hc.2.same e2)⟩
    ·have ey:Ty b=pG R.K:=by rw [ty2 b fun q=>hc q.2];exact g
     exact .inl (if_pos (by rw [hSx];exact ⟨hbl,ey⟩))
   ·obtain ⟨e1,e2⟩:=conv (hro b g2 hbl).1
    exact .inr ⟨g1,e1,g3.imp id fun q=>q.same e2⟩
  ·rw [hw3];exact World.putObj_heap_same hlb
  ·obtain ⟨k1,k2,k3⟩:=h.dd d hd
   obtain ⟨e1,e2⟩:=Om d k2 (lt_of_heap k1)
   exact ⟨by rw [e2];exact k1,e1,k3⟩
 have LV:rQ T w w3:=by
  refine ⟨hsz,fun b hb hbl=>?_⟩
  have acY:b≠R.l:=fun e=>hb (by rw [e];exact h.ro)
  by_cases hs:Sx b
  ·rw [hpb b acY];exact t2 b hs acY
  ·refine (stay b ?_ hbl).2
   rcases h.cp b hbl hb with g|⟨g1,g2,g3⟩
   ·by_cases hc:T b=.ro∧dD w b
    ·have ey:=ty1 b ⟨g,hc.1,hc.2⟩
     rw [tz2 b (by rw [ey];exact (uH _).symm),ey]
    ·exact absurd (by rw [hSx];exact ⟨hbl,by rw [ty2 b fun q=>hc q.2];exact g⟩) hs
   ·exact (hro b g2 hbl).1
 rw [hw3] at hfin LV
 cases e with
 |normal=>exact ⟨_,_,hend none,rfl,hfin,LV⟩
 |ret=>exact ⟨_,_,hend (some .ret),rfl,hfin,LV⟩
 |exit i=>exact ⟨_,_,hend (some (.exit i)),rfl,hfin,LV⟩
 |nJ t n=>exact absurd rfl (he t n)
end
section
variable {P:Program}{F:Fence}{C:Ctx}{n L nb:Nat}{σ σ':Nat→Nat}{T T' Tc T1 T2:Tags}{st st' st1 s:St}{a a1:Act}{w w' w1:World}{R:Rg}{lp:Loop}
 {rec:ay→St→Option (Ex×St)} {env:Env} {e:Ex}
def BI (P:Program)(env:Env):Prop:=∀ f fn,env f=some (.code fn)→callable P f=true∧∃ g c,P.funcs[f]?=some g∧g.body=some c∧mC P c fn.body=true∧g.ntmps=fn.ntmps∧fn.nargs≤fn.ntmps∧(fn.results.isEmpty=true→g.results=#[])
theorem xZ {fn:Func}{R:Ending→World→Prop}{B:Nat}:∀ {ms:List Nat} {w:World},ms.Nodup→(∀ r∈ms,B≤r∧w.heap[r]?=some (.deferred (some []))) →
  (∀ w',w'.os=w.os→w'.tape=w.tape→w'.output=w.output→w'.heap.size=w.heap.size→(∀ b,b ∉ ms→w'.heap[b]?=w.heap[b]?)→∃ v,(results fn a.tmps).run P w'=.ok v w'∧R (.returned v) w') →
  LeavesInM Fence.wide 0 P fn a.tmps R (ms.map jd) .returning w
 |[],w,_,_,h=>by
  simp only [Zai,LeavesInM,LeavesIn]
  exact h w rfl rfl rfl rfl fun _ _=>rfl
 |r::ms,w,hnd,hms,h=>by
  simp only [Zaj,LeavesInM]
  obtain ⟨hn1,hn2⟩:=Zax.1 hnd
  obtain ⟨k1,k2⟩:=hms r (by simp)
  have hr:r<w.heap.size:=(zz.1 k2).1
  have hput:∀ b,b≠r→(w.putObj r (.deferred none)).heap[b]?=w.heap[b]?:=fun b hb=>by simp [World.putObj,Zbh,Ne.symm hb]
  refine ⟨by simp,.inl ⟨r,_,rfl,run_takeDeferred k2,xZ (B:=B) hn2 (fun r' hr'=>?_) fun w' e1 e2 e3 e4 e5=>h w' e1 e2 e3 (by rw [e4];simp [World.putObj]) fun b hb=>?_⟩⟩
  ·obtain ⟨q1,q2⟩:=hms r' (by simp [hr'])
   exact ⟨q1,by rw [hput r' (fun e=>hn1 (e ▸ hr'))];exact q2⟩
  ·simp only [Zaf,not_or] at hb
   rw [e5 b hb.2,hput b hb.1]
theorem L8 {slots:List AV}{ps:List Nat}{vM bd:ay}:∀ (xs:List (List PV)) (k:Nat) (s:St) e m s',rounds rec slots ps vM bd nb k xs s=some (some (e,m),s')→e≠.normal∧∀ t n,e≠.nJ t n
 |[],k,s,e,m,s',h=>by simp [rounds] at h
 |x::xs,k,s,e,m,s',h=>by
  unfold rounds at h
  replace h:=bind_some h
  obtain ⟨sl,h1,h⟩:=h
  replace h:=bind_some h
  obtain ⟨⟨e1,s1⟩,h2,h⟩:=h
  simp only at h
  split at h
  case h_2=>cases h
  replace h:=bind_some h
  obtain ⟨⟨e2,s2⟩,h3,h⟩:=h
  simp only at h
  split at h
  ·split at h
   ·exact L8 xs (k+1) _ e m s' h
   ·cases h
  ·cases h
  ·rename_i hne hne2
   simp only [ZD.injEq,ZaD.injEq] at h
   rw [← h.1.1]
   exact ⟨fun e=>hne e,fun t n e=>hne2 t n e⟩
def acZ:Option (Ex×Nat)→Ex
 |none=>.normal
 |some (e,_)=>e
def itC (C:Ctx)(R:Rg)(rec:ay→St→Option (Ex×St))(rc:LoopState→Option Code→Loop)(ps:List Nat)(vM bd:ay)(xs:List (List PV))(stop:Option Nat)(r:Option (Ex×Nat))(s1:St):Ctx where
 X:=xs
 stop:=some stop
 J k T w:=kF T w∧((∃ s,rounds rec R.slots ps vM bd R.nb k (xs.drop k) s=some (r,s1)∧CS C R (rc .ready none) s T w) ∨
  (∃ e,r=some (e,k)∧xs.length=k∧CS C R (rc .done (wu e)) s1 T w))
theorem ala (hR:qH P rec)(hC:C.Ok P R.L){ca cb:Code}{vM bd:ay}(ha:mC P ca vM=true)(hb:mC P cb bd=true){fn:FuncId}{ps:Array Tmp}{dd:Nat}{rc:LoopState→Option Code→Loop}
  (hrc:rc=fun st pe=>{ state:=st,pending:=pe,fn:=fn,tmps:=R.tmps,params:=ps,assign:=ca,body:=cb,defers:=dd }) (hD:R.l ∉ R.D) {xs:List (List PV)} {stop:Option Nat} {r:Option (Ex×Nat)} {s1:St}
  (hcons:(stop=none∧r=none)∨∃ e m,stop=some m∧r=some (e,m)∧xs.length=m) (hX:s1.ys <+: C.X):(itC C R rec rc ps.toList vM bd xs stop r s1).Ok P R.l:=by
 refine ⟨fun k T T' w w' hc ⟨hG,h⟩=>⟨hG.frame fun b e hb=>⟨hc.ro b e,hc.same b hb (.inl e)⟩,?_⟩,fun k T w h=>h.1,fun q k T w x vs hs hx hf h hlen hrep=>?_⟩
 ·rcases h with ⟨s,h1,h2⟩|⟨e,h1,h2,h3⟩
  ·exact .inl ⟨s,h1,h2.keep hC hc⟩
  ·exact .inr ⟨e,h1,h2,h3.keep hC hc⟩
 ·have hq:q=stop:=(ZD.inj hs).symm
  subst hq
  have hx':xs[k]?=some x:=hx
  have hk:k<xs.length:=(Z6.1 hx').1
  obtain ⟨hG,h⟩:=h
  rcases h with ⟨s,h1,h2⟩|⟨e,h1,h2,h3⟩
  case inr=>omega
  have hdrop:xs.drop k=x::xs.drop (k+1):=by
   rw [zw hk]
   congr 1
   rw [ZS hk] at hx'
   exact ZD.inj hx'
  rw [hdrop] at h1
  unfold rounds at h1
  replace h1:=bind_some h1
  obtain ⟨sl,g1,h1⟩:=h1
  replace h1:=bind_some h1
  obtain ⟨⟨e1,sa⟩,g2,h1⟩:=h1
  simp only at h1
  split at h1
  case h_2=>cases h1
  replace h1:=bind_some h1
  obtain ⟨⟨e2,sb⟩,g3,h1⟩:=h1
  simp only at h1
  obtain ⟨σ0,Tc0,hcs0⟩:=h2
  have hnb:=hcs0.nbx
  have h2:CS C R (rc .ready none) s T w:=⟨σ0,Tc0,hcs0⟩
  have ga:=hR.grow _ _ _ _ _ ha g2
  have gb:=hR.grow _ _ _ _ _ hb g3
  split at h1
  ·-- it goes on
   split at h1
   case isFalse=>cases h1
   rename_i hle
   have hgr:=xY hR.grow ha hb (xs.drop (k+1)) (k+1) _ r s1 h1 (by simp;omega)
   obtain ⟨f,tm,Sm,bd',q1,q2⟩:=Sv hR hC ha hb hrc h2 hf hD hlen hrep g1 g2 g3 (hgr.2.1.trans hX) (fun _ _ e=>by cases e)
   refine ⟨f,tm,Sm,bd',q1,fun n=>(q2 n).mono fun en w3 hq=>?_⟩
   obtain ⟨t1,t2,t3⟩:=hq
   have hgo:xU q k=true:=by
    rcases hcons with ⟨e1,_⟩|⟨e,m,e1,e2,e3⟩
    ·rw [e1];rfl
    ·rw [e1]
     have:k+1≠m:=fun he=>by
      have:xs.drop (k+1)=[]:=ZbO (by omega)
      rw [this] at h1
      simp only [rounds,ZD.injEq,ZaD.injEq] at h1
      rw [e2] at h1
      cases h1.1
     simp [xU,this]
   refine ⟨by rw [t1,hgo];rfl,⟨hG.frame fun b e hb=>⟨e,t3.2 b (by rw [e];simp) hb⟩,.inl ⟨_,h1,t2.take⟩⟩,t3⟩
  ·cases h1
  ·rename_i hne hne2
   simp only [ZD.injEq,ZaD.injEq] at h1
   obtain ⟨hr1,hr2⟩:=h1
   subst hr2
   obtain ⟨f,tm,Sm,bd',q1,q2⟩:=Sv hR hC ha hb hrc h2 hf hD hlen hrep g1 g2 g3 hX (fun t n e=>hne2 t n e)
   refine ⟨f,tm,Sm,bd',q1,fun n=>(q2 n).mono fun en w3 hq=>?_⟩
   obtain ⟨t1,t2,t3⟩:=hq
   have hj:(wu e2).isNone=false:=by cases e2<;>first|rfl|exact absurd rfl hne|exact absurd rfl (hne2 _ _)
   rcases hcons with ⟨_,e1⟩|⟨e,m,e1,e2',e3⟩
   ·rw [e1] at hr1;cases hr1
   ·have hm:m=k+1:=by rw [e2'] at hr1;cases hr1;rfl
    have hgo:xU q k=false:=by rw [e1,hm];simp [xU]
    rw [hj] at t1 t2
    refine ⟨by rw [t1,hgo],⟨hG.frame fun b e hb=>⟨e,t3.2 b (by rw [e];simp) hb⟩,.inr ⟨e2,hr1.symm,by omega,t2⟩⟩,t3⟩
theorem alb (hC:C.Ok P R.L)(h:CS C R lp s T w){ms:List Nat}(hms:∀ r∈ms,R.B0≤r∧T r=.ro∧w.heap[r]?=some (.deferred (some [])))(hw:∀ b,b ∉ ms→w'.heap[b]?=w.heap[b]?)(hsz:w'.heap.size=w.heap.size)(hos:w'.os=w.os)(htp:w'.tape=w.tape)(hou:w'.output=w.output)
  (hlp:lp.state≠.busy) {T0:Tags} (hst:Still T0 R.T1) {ds:List Deferred} (hDl:∀ d∈R.D,R.w0.heap.size≤d) (hDn:R.D.Nodup) (hlD:R.l ∉ R.D) :
  ∃ w4,(Instr.endLoop R.l).run P w'=.ok lp.pending w4∧After C R.L R.nb R.σ0 T0 R.w0 { s with slots:=R.slots } ds { tmps:=R.tmps,defers:=R.D.map jd++ds } w4:=by
 obtain ⟨σ,Tc,h⟩:=h
 have arO:∀ r∈ms,Tc r=pG R.K:=fun r hr=>by
  obtain ⟨g1,g2,g3⟩:=hms r hr
  rcases h.cp r (lt_of_heap g3) (by rw [g2];simp) with g|⟨_,_,g⟩
  ·exact g
  ·rcases g with g|⟨arr,E,q,g⟩
   ·omega
   ·rw [g3] at g;cases g
 have hl:w'.heap[R.l]?=some (.loop lp):=by
  rw [hw R.l fun hr=>by have:=(hms _ hr).2.1;rw [h.ro] at this;cases this];exact h.rl
 refine ⟨_,run_endLoop (P:=P) hl hlp,?_⟩
 obtain ⟨w4,hw4⟩:∃ w4,w4=w'.putObj R.l (.loop { lp with state:=.exhausted }):=⟨_,rfl⟩
 rw [← hw4]
 have hsame:∀ b,Tc b≠pG R.K→w4.heap[b]?=w.heap[b]?:=fun b hb=>by
  rw [hw4,World.putObj_heap_other (fun e=>hb (by rw [e];exact h.rt)),hw b fun hr=>hb (arO b hr)]
 have arP:w4.heap.size=w.heap.size:=by rw [hw4];simp [World.putObj,hsz]
 have hw1:∀ b,Tc b=.ro→b<w.heap.size→Tc b=.ro∧w4.heap[b]?=w.heap[b]?:=fun b e _=>⟨e,hsame b (by rw [e];exact (uH _).symm)⟩
 refine ⟨σ,Tc,R.D,(h.fs.keep hw1 fun _ _=>rfl).sim h.nbx (fun o b ho=>?_) (fun b hb=>h.fr b (by omega)),?_,h.sg,?_,rfl,fun d hd=>⟨hDl d hd,(h.dd d hd).2.1,?_⟩,hDn⟩
 ·have hb:=h.bx o b ho
  have hT:Tc (σ o)≠pG R.K:=by
   obtain ⟨_,_,_,_,h3,_⟩:=hb
   rw [h3];split<;>simp [pG]
  exact hb.frame ⟨rfl,hsame _ hT⟩ (fun j b e _=>⟨e,hsame b (by rw [e];simp [pG])⟩) hw1
 ·refine hC.keep _ _ _ w _ ⟨by omega,by rw [hw4];exact hos,by rw [hw4];exact htp,by rw [hw4];exact hou,fun b _ ht=>hsame b ?_,fun _ e=>e,fun _ _ e=>e⟩ h.j
  rcases ht with e|e<;>rw [e]<;>simp [pG]
 ·refine ((hst.pV R.w0).stays.trans h.sy).trans ⟨by omega,fun b e=>e,fun b _ e=>hsame b (by rw [e];exact (uH _).symm)⟩
 ·rw [hsame d (by rw [(h.dd d hd).2.1];exact (uH _).symm)];exact (h.dd d hd).1
set_option maxHeartbeats 1000000 in
theorem Sz (hR:qH P rec)(hI:BI P env)(hC:C.Ok P R.L){ca cb:Code}{vM bd:ay}(ha:mC P ca vM=true)(hb:mC P cb bd=true){fnr:FuncId}{ps:Array Tmp}{dd:Nat}{rc:LoopState→Option Code→Loop}
  (hrc:rc=fun st pe=>{ state:=st,pending:=pe,fn:=fnr,tmps:=R.tmps,params:=ps,assign:=ca,body:=cb,defers:=dd }) {xs:List (List PV)} {stop:Option Nat} {r:Option (Ex×Nat)} {s1:St}
  (hcons:(stop=none∧r=none)∨∃ e m,stop=some m∧r=some (e,m)∧xs.length=m) (hX:s1.ys <+: C.X)
  {f:Nat} {caps:List PV} {arr:Array Value} (hit:kM rec env f caps stop=some xs) (hrd:rounds rec R.slots ps.toList vM bd R.nb 0 xs s=some (r,s1))
  (hsl:R.slots.length=R.K) (hfs:nU R.L R.nb R.σ0 R.T1 R.w0 R.slots R.tmps) (hbx:∀ (o:Nat) b,s.boxes[o]?=some b→eU R.T1 R.w0 (R.σ0 o) o b) (hnb:R.nb=s.boxes.length) (hfr:∀ b,R.w0.heap.size≤b→R.T1 b=.other) (hJ:C.J s.ys.length R.T1 R.w0) (hst:s.stop=C.stop)
  (ha1:arr.size=caps.length) (ha2:∀ (i:Nat) p v,caps[i]?=some p→arr[i]?=some v→aA (fun b=>R.T1 b=.ro) R.w0 p v)
  {W:World} (hB:R.B0=W.heap.size) (hW1:R.w0.heap.size≤W.heap.size) (hW2:∀ b,b<R.w0.heap.size→W.heap[b]?=R.w0.heap[b]?) (hW3:W.os=R.w0.os∧W.tape=R.w0.tape∧W.output=R.w0.output) (hl:W.heap[R.l]?=some (.loop (rc .ready none))) (hl0:R.w0.heap.size≤R.l)
  (hD1:∀ d∈R.D,R.w0.heap.size≤d∧W.heap[d]?=some (.deferred (some []))) (hDn:R.D.Nodup) (hlD:R.l ∉ R.D)
  {T0:Tags} (hstill:Still T0 R.T1) {ds:List Deferred} {m:Nat} {Q:Exit→Act→World→Prop} (hF:lJ F)
  (hQ:∀ w4,After C R.L R.nb R.σ0 T0 R.w0 { s1 with slots:=R.slots } ds { tmps:=R.tmps,defers:=R.D.map jd++ds } w4→Q (toX (acZ r)) { tmps:=R.tmps,defers:=R.D.map jd++ds } w4) :
  CallsIn F m P f (#[.func (.yield R.l) #[] #[]]++arr) W (rangePost F n P R.l Q { tmps:=R.tmps,defers:=R.D.map jd++ds }):=by
 refine hF.calls ?_
 -- the text of the iterator
 unfold kM at hit
 split at hit
 case h_2=>cases hit
 rename_i fn hfn
 split at hit
 case isFalse=>cases hit
 rename_i hna
 replace hit:=bind_some hit
 obtain ⟨⟨e2,st2⟩,hrun,hit⟩:=hit
 have hne:∀ i,e2≠.exit i:=fun i e=>by subst e;cases hit
 have hys:st2.ys=xs:=by cases e2<;>first|exact ZD.inj hit|cases hit
 obtain ⟨_,g,c,k1,k2,k3,k4,k5,k6⟩:=hI f fn hfn
 refine (callsIn_wide (n:=0)).1 (callsIn_of_wp_marks k1 k2 trivial ?_)
 rw [k4]
 have hll:=lt_of_heap hl
 -- what each side stands on
 obtain ⟨Ti,hTi⟩:∃ Ti:Tags,Ti=fun b=>if b<R.w0.heap.size∧R.T1 b=.ro then .ro else .other:=⟨_,rfl⟩
 have ti1:∀ b,R.T1 b=.ro→b<R.w0.heap.size→Ti b=.ro:=fun b e hb=>by rw [hTi];exact if_pos ⟨hb,e⟩
 have ti2:∀ b,R.w0.heap.size≤b→Ti b=.other:=fun b hb=>by rw [hTi];exact if_neg (by omega)
 have ti3:∀ b,Ti b≠.other→b<R.w0.heap.size∧R.T1 b=.ro:=fun b hb=>by
  rw [hTi] at hb
  by_cases e:b<R.w0.heap.size∧R.T1 b=.ro
  ·exact e
  ·exact absurd (if_neg e) hb
 obtain ⟨Tn,RG⟩:∃ Tn:Tags,Tn=fun b=>if b=R.l then pG R.K else if b∈R.D then .ro else R.T1 b:=⟨_,rfl⟩
 have tn1:∀ b,b<R.w0.heap.size→Tn b=R.T1 b:=fun b hb=>by
  rw [RG]
  have h1:b≠R.l:=by omega
  have h2:b ∉ R.D:=fun hd=>by have:=(hD1 b hd).1;omega
  simp only [if_neg h1,if_neg h2]
 have tnl:Tn R.l=pG R.K:=by rw [RG];exact if_pos rfl
 have tnD:∀ d∈R.D,Tn d=.ro:=fun d hd=>by
  rw [RG]
  have:d≠R.l:=fun e=>hlD (by rw [← e];exact hd)
  simp only [if_neg this,if_pos hd]
 have hro:∀ b,R.T1 b=.ro→b<R.w0.heap.size→Tn b=.ro∧W.heap[b]?=R.w0.heap[b]?:=fun b e hb=>⟨by rw [tn1 b hb,e],hW2 b hb⟩
 have aol:∀ b,R.T1 b=.ro→b<R.w0.heap.size:=fun b e=>by
  rcases Zbf b R.w0.heap.size with q|q
  ·exact q
  ·rw [hfr b q] at e;cases e
 have hCS:CS C R (rc .ready none) s Ti W:=by
  refine ⟨R.σ0,Tn,⟨hfs.keep hro fun _ _=>rfl,fun o b ho=>?_,fun b hb=>?_,?_,by omega,hst,fun _ _=>rfl,⟨hW1,fun b e=>(hro b e (aol b e)).1,fun b hb e=>hW2 b hb⟩,fun b _ ht=>?_,hl,tnl,ti2 _ hl0,fun d hd=>⟨(hD1 d hd).2,tnD d hd,ti2 _ (hD1 d hd).1⟩⟩⟩
  ·have hb:=hbx o b ho
   exact hb.frame ⟨tn1 _ hb.lt,hW2 _ hb.lt⟩ (fun j b e hb=>⟨by rw [tn1 b hb,e],hW2 b hb⟩) hro
  ·have h1:b≠R.l:=by omega
   have h2:b ∉ R.D:=fun hd=>by have:=lt_of_heap (hD1 b hd).2;omega
   rw [RG]
   simp only [if_neg h1,if_neg h2]
   exact hfr b (by omega)
  ·exact hC.keep _ _ _ R.w0 _ ⟨hW1,hW3.1,hW3.2.1,hW3.2.2,fun b hb _=>hW2 b hb,fun b e=>(hro b e (aol b e)).1,fun b hb e=>by rw [tn1 b hb,e]⟩ hJ
  ·obtain ⟨q1,q2⟩:=ti3 b ht
   exact .inr ⟨ti1 b q2 q1,by rw [tn1 b q1,q2],.inl (by omega)⟩
 have hOk:=ala hR hC ha hb hrc hlD hcons hX
 have hargs:(#[Value.func (.yield R.l) #[] #[]]++arr).size=caps.length+1:=by simp;omega
 have Fz:aV R.l (fun _=>0) Ti ⟨.tq::(caps.map .pv++Zal (fn.ntmps - (caps.length+1)) .any),[],[],some stop⟩
   { tmps:=(#[Value.func (.yield R.l) #[] #[]]++arr)++Zbj (fn.ntmps - (#[Value.func (.yield R.l) #[] #[]]++arr).size) undef,defers:=[] } W:=by
  refine ⟨by simp;omega,fun t av v ht hv=>?_,fun o bx ho=>by simp at ho,fun b hb=>ti2 b (by omega)⟩
  simp only at ht hv
  cases t with
  |zero =>
   simp only [Zak,ZD.injEq] at ht
   subst ht
   have:v=.func (.yield R.l) #[] #[]:=by
    rw [ZdJ,Zbt (by simp)] at hv
    simpa using hv.symm
   exact this
  |succ t =>
   rw [ZaH] at ht
   rw [ZdJ,Array.getElem?_append_right (by simp)] at hv
   simp only [ZaX,List.length_cons,zd,Nat.zero_add,Nat.add_sub_cancel] at hv
   rcases Zbf t caps.length with q|q
   ·rw [Zad (by simpa using q),zb,ZS q] at ht
    rw [Zbt (by omega)] at hv
    cases ht
    exact (ha2 t _ v (ZS q) hv).frame fun b e hb=>⟨ti1 b e hb,hW2 b hb⟩
   ·rw [zP (by simpa using q),Zbq] at ht
    split at ht
    ·cases ht;trivial
    ·cases ht
 refine wpIn_mono (hR.wp (F:=Fence.wide) (L:=R.l) (C:=itC C R rec rc ps.toList vM bd xs stop r s1) (n:=0) (.inl rfl) (Ctx.pY _) hOk c fn.body _ e2 st2 k3 hrun rfl (by rw [hys];exact ZbC _) _ Ti _ W Fz ⟨(hC.glob _ _ _ hJ).frame fun b e hb=>⟨ti1 b e hb,hW2 b hb⟩,.inl ⟨s,hrd,hCS⟩⟩) ?_
 rintro x a' w2 ⟨rfl,σ2,T2,ms,q1,q2,q3,q4,q5,q6⟩
 have key:LeavesInM Fence.wide 0 P g a'.tmps (rangePost F n P R.l Q { tmps:=R.tmps,defers:=R.D.map jd++ds }) a'.defers .returning w2:=by
  rw [q5,ZaE]
  refine xZ (B:=W.heap.size) q6.2 (fun d hd=>⟨(q6.1 d hd).1,(q6.1 d hd).2.2⟩) fun w3 e1 e3 e4 e5 e6=>?_
  have hgr:g.results=#[]:=k6 hna.2
  refine ⟨.tuple #[],?_,?_⟩
  ·unfold results
   rw [hgr]
   simp
  ·have fin:∀ lp,CS C R lp s1 T2 w2→lp.state≠.busy→∃ w4,(Instr.endLoop R.l).run P w3=.ok lp.pending w4∧After C R.L R.nb R.σ0 T0 R.w0 { s1 with slots:=R.slots } ds { tmps:=R.tmps,defers:=R.D.map jd++ds } w4:=fun lp hcs hlp =>
    alb hC hcs (fun d hd=>⟨by rw [hB];exact (q6.1 d hd).1,(q6.1 d hd).2.1,(q6.1 d hd).2.2⟩) e6 e5 e1 e3 e4 hlp hstill (fun d hd=>(hD1 d hd).1) hDn hlD
   rw [hys] at q2
   rcases q2.2 with ⟨s',h1,h2⟩|⟨e,h1,h2,h3⟩
   ·rw [List.drop_length] at h1
    simp only [rounds,ZD.injEq,ZaD.injEq] at h1
    obtain ⟨hr,hs⟩:=h1
    subst hs
    obtain ⟨w4,t1,t2⟩:=fin _ h2 (by rw [hrc];simp)
    refine ⟨none,w4,by rw [hrc] at t1;exact t1,?_⟩
    have:=hQ w4 t2
    rw [← hr] at this
    exact this
   ·obtain ⟨w4,t1,t2⟩:=fin _ h3 (by rw [hrc];simp)
    have:=hQ w4 t2
    rw [h1] at this
    obtain ⟨hen,arQ⟩:=L8 _ _ _ _ _ _ (by rw [h1] at hrd;exact hrd)
    cases e with
    |normal=>exact absurd rfl hen
    |ret=>exact ⟨some .ret,w4,by rw [hrc] at t1;exact t1,wpIn_ret this⟩
    |exit i=>exact ⟨some (.exit i),w4,by rw [hrc] at t1;exact t1,wpIn_exit this⟩
    |nJ t n=>exact absurd rfl (arQ t n)
 cases e2 with
 |normal=>exact key
 |ret=>exact key
 |exit i=>exact absurd rfl (hne i)
 |nJ t n=>cases hit
end
section
variable {P:Program}{F:Fence}{C:Ctx}{n L nb:Nat}{σ σ':Nat→Nat}{T T' Tc T1 T2:Tags}{st st' st1 s:St}{a a1:Act}{w w' w1:World}{R:Rg}{lp:Loop}
 {rec:ay→St→Option (Ex×St)} {env:Env} {e:Ex}
theorem ac0 (hR:qH P rec)(hI:BI P env)(hW:lJ F)(hN:C.Rec F)(hC:C.Ok P L){ca cb:Code}{vM bd:ay}(ha:mC P ca vM=true)(hb:mC P cb bd=true){g:Operand}{gx:bU}(hmg:bf g gx=true){ps:Array Tmp}{f:Nat}{caps:List PV}
  (hg:st.dG gx=some (.func f caps)) {xs:List (List PV)} {stop:Option Nat} {r:Option (Ex×Nat)} {s1:St} (hit:kM rec env f caps stop=some xs) (hrd:rounds rec (st.slots.map AV.froze) ps.toList vM bd st.boxes.length 0 xs { st with slots:=st.slots.map AV.froze }=some (r,s1))
  (hcons:(stop=none∧r=none)∨∃ e m,stop=some m∧r=some (e,m)∧xs.length=m) (hX:s1.ys <+: C.X) (hst:st.stop=C.stop) (hs:aV L σ T st a w) (hJ:C.J st.ys.length T w) :
  (Code.rangeFunc g ps ca cb).wpIn F n P (Post C L st.boxes.length σ T w (acZ r) { s1 with slots:=st.slots.map AV.froze } a.defers) a w:=by
 obtain ⟨arr,e1,e2,e3⟩:=Bv (hs.pv hmg hg)
 obtain ⟨T1,f1,f2,f3⟩:=hs.froze
 have hfr:∀ b,w.heap.size≤b→T1 b=.other:=fun b hb=>f3.other b (hs.fresh b hb)
 have hJ1:C.J st.ys.length T1 w:=hC.keep _ _ _ w _ (f3.pV w) hJ
 have hcap:∀ (i:Nat) p v,caps[i]?=some p→arr[i]?=some v→aA (fun b=>T1 b=.ro) w p v:=fun i p v hp hv=>(e3 i p v hp hv).frame fun b hb _=>⟨f3.ro b hb,rfl⟩
 have aom:callable P f=true:=by
  unfold kM at hit
  split at hit
  case h_2=>cases hit
  rename_i fn hfn
  exact (hI f fn hfn).1
 refine wpIn_rangeFunc fun fn hfn=>?_
 rcases hW with rfl|⟨l0,rfl⟩
 ·obtain ⟨rc,hrc⟩:∃ rc:LoopState→Option Code→Loop,rc=fun st pe=>{ state:=st,pending:=pe,fn:=fn,tmps:=a.tmps,params:=ps,assign:=ca,body:=cb,defers:=w.heap.size }:=⟨_,rfl⟩
  obtain ⟨W1,hW1⟩:∃ W1,(w.alloc (.deferred (some []))).alloc (.loop (rc .ready none))=W1:=⟨_,rfl⟩
  have hL1:W1.heap[w.heap.size+1]?=some (.loop (rc .ready none)):=by
   rw [← hW1];have:=World.alloc_heap_new (w.alloc (.deferred (some []))) (.loop (rc .ready none));rwa [World.size_alloc] at this
  have hK1:W1.heap[w.heap.size]?=some (.deferred (some [])):=by
   rw [← hW1];exact (Below.heap_alloc _ _ _ (by simp)).trans (World.alloc_heap_new w _)
  have hsz:W1.heap.size=w.heap.size+2:=by rw [← hW1];simp
  refine ⟨w.heap.size+1,[jd w.heap.size],W1,{ target:=.fn (.func f) arr,args:=#[.func (.yield (w.heap.size+1)) #[] #[]] },W1,f,#[.func (.yield (w.heap.size+1)) #[] #[]]++arr,W1,?_,?_,fun _ _=>trivial,?_,(fun h=>by cases h),?_⟩
  ·rw [← hW1,hrc];exact run_enterLoop_outer _ _ _ _ _
  ·simp only [resolve,e1]
   simp [go_sem]
  ·simp [invoke,go_sem,nR aom]
  ·refine Sz (R:=⟨L,st.boxes.length,st.slots.length,σ,T1,w,st.slots.map AV.froze,a.tmps,w.heap.size+1,[w.heap.size],W1.heap.size⟩) (s:={ st with slots:=st.slots.map AV.froze }) (T0:=T) hR hI hC ha hb hrc hcons hX hit hrd (by simp) f1 f2 rfl hfr hJ1 hst e2 hcap rfl ?_ ?_ ?_ hL1 ?_ ?_ ?_ ?_ f3 (.inl rfl) ?_
   ·show w.heap.size≤W1.heap.size;omega
   ·intro b hb
    rw [← hW1]
    exact (Below.heap_alloc _ _ _ (by simp only [World.size_alloc];exact Nat.lt_succ_of_lt hb)).trans (Below.heap_alloc _ _ _ hb)
   ·rw [← hW1];exact ⟨rfl,rfl,rfl⟩
   ·show w.heap.size≤w.heap.size+1;omega
   ·intro d hd
    have hd:d∈[w.heap.size]:=hd
    rw [Zav.1 hd]
    exact ⟨ze _,hK1⟩
   ·exact Zax.2 ⟨by simp,ZaB⟩
   ·intro hd
    have hd:w.heap.size+1∈[w.heap.size]:=hd
    have:=Zav.1 hd
    omega
   ·intro w4 hA
    exact ⟨rfl,hA⟩
 ·obtain ⟨r0,hr0⟩:=hN l0 rfl _ _ _ hJ
  obtain ⟨rc,hrc⟩:∃ rc:LoopState→Option Code→Loop,rc=fun st pe=>{ state:=st,pending:=pe,fn:=fn,tmps:=a.tmps,params:=ps,assign:=ca,body:=cb,defers:=r0.defers }:=⟨_,rfl⟩
  obtain ⟨W1,hW1⟩:∃ W1,w.alloc (.loop (rc .ready none))=W1:=⟨_,rfl⟩
  have hL1:W1.heap[w.heap.size]?=some (.loop (rc .ready none)):=by
   rw [← hW1];exact World.alloc_heap_new w _
  have hsz:W1.heap.size=w.heap.size+1:=by rw [← hW1];simp
  refine ⟨w.heap.size,[],W1,{ target:=.fn (.func f) arr,args:=#[.func (.yield w.heap.size) #[] #[]] },W1,f,#[.func (.yield w.heap.size) #[] #[]]++arr,W1,?_,?_,fun _ _=>trivial,?_,(fun h=>by cases h),?_⟩
  ·rw [← hW1,hrc];exact run_enterLoop_inner hr0 _ _ _ _ _
  ·simp only [resolve,e1]
   simp [go_sem]
  ·simp [invoke,go_sem,nR aom]
  ·refine Sz (R:=⟨L,st.boxes.length,st.slots.length,σ,T1,w,st.slots.map AV.froze,a.tmps,w.heap.size,[],W1.heap.size⟩) (s:={ st with slots:=st.slots.map AV.froze }) (T0:=T) hR hI hC ha hb hrc hcons hX hit hrd (by simp) f1 f2 rfl hfr hJ1 hst e2 hcap rfl ?_ ?_ ?_ hL1 ?_ ?_ ?_ ?_ f3 (.inr ⟨l0,rfl⟩) ?_
   ·show w.heap.size≤W1.heap.size;omega
   ·intro b hb
    rw [← hW1]
    exact Below.heap_alloc _ _ _ hb
   ·rw [← hW1];exact ⟨rfl,rfl,rfl⟩
   ·exact ze _
   ·intro d hd;cases hd
   ·exact ZaB
   ·intro hd;cases hd
   ·intro w4 hA
    exact ⟨rfl,hA⟩
theorem L9 {gx:bU}{ps:List Nat}{vM bd:ay}(h:ranged rec env gx ps vM bd st=some (e,st')):∃ f caps xs stop r s1,st.dG gx=some (.func f caps)∧kM rec env f caps stop=some xs∧rounds rec (st.slots.map AV.froze) ps vM bd st.boxes.length 0 xs { st with slots:=st.slots.map AV.froze }=some (r,s1) ∧
  ((stop=none∧r=none)∨∃ e m,stop=some m∧r=some (e,m)∧xs.length=m)∧e=acZ r∧st'={ s1 with slots:=st.slots.map AV.froze }:=by
 unfold ranged at h
 replace h:=bind_some h
 obtain ⟨v,h1,h⟩:=h
 cases v<;>simp only [reduceCtorEq] at h
 rename_i f caps
 replace h:=bind_some h
 obtain ⟨xs,h2,h⟩:=h
 replace h:=bind_some h
 obtain ⟨⟨r,s1⟩,h3,h⟩:=h
 simp only at h
 cases r with
 |none =>
  simp only [ZD.injEq,ZaD.injEq] at h
  exact ⟨f,caps,xs,none,none,s1,h1,h2,h3,.inl ⟨rfl,rfl⟩,h.1.symm,h.2.symm⟩
 |some q =>
  obtain ⟨e0,k⟩:=q
  simp only at h
  replace h:=bind_some h
  obtain ⟨ys,h4,h⟩:=h
  replace h:=bind_some h
  obtain ⟨⟨r2,s2⟩,h5,h⟩:=h
  simp only at h
  cases r2 with
  |none=>cases h
  |some q2 =>
   obtain ⟨e2,m⟩:=q2
   simp only at h
   split at h
   case isFalse=>cases h
   rename_i hk
   obtain ⟨rfl,hk⟩:=hk
   simp only [ZD.injEq,ZaD.injEq] at h
   exact ⟨f,caps,ys,some m,some (e2,m),s2,h1,h4,h5,.inr ⟨e2,m,rfl,rfl,hk⟩,h.1.symm,h.2.symm⟩
end
section
variable {P:Program}{F:Fence}{C:Ctx}{n L nb:Nat}{σ σ':Nat→Nat}{T T' T1 T2:Tags}{st st' st1:St}{a a1:Act}{w w1:World}{o:Oper}{vo:iG}{y:Operand}{x:bU}{d:Nat}
 {rec:ay→St→Option (Ex×St)} {env:Env} {next:Act→World→Prop} {Q:Exit→Act→World→Prop} {cu:Array Oper} {ds:List Deferred} {e:Ex}
theorem eH {α β:Type}{x:Option α}{f:α→β}{y:β}(h:x.map f=some y):∃ z,x=some z∧f z=y:=by
 cases x with
 |none=>cases h
 |some z=>exact ⟨z,rfl,ZD.inj h⟩
theorem yZ {keep:List Nat}(h0:st.head keep nb=some st1):st1.boxes.length=nb∧st1.ys=st.ys∧st1.stop=st.stop:=by
 unfold St.head at h0
 simp only at h0
 split at h0
 ·rename_i hc
  simp only [ZZ,decide_eq_true_eq] at hc
  have h0:=ZD.inj h0
  subst h0
  exact ⟨by simp;omega,rfl,rfl⟩
 ·cases h0
theorem mX {P:Program}{b:Frame}{a:Act}{k:List Item}{cs:List Frame}{w:World}{c:Code}:Go.step P (lone (b.atR a (.code (.scope c)::k)) cs w)=.next (lone (b.atR a (.code c::.inScope c::k)) cs w) :=
 step_lone_go (by simp [stepG,stepG.exec,Frame.atR])
theorem KJ {P:Program}{b:Frame}{a:Act}{k:List Item}{cs:List Frame}{w:World}{c:Code}:Go.step P (lone (b.atR a (.inScope c::k)) cs w)=.next (lone (b.atR a k) cs w) :=
 step_lone_go (by simp [stepG,stepG.exec,Frame.atR])
theorem Wq {Q:Exit→Act→World→Prop}{c:Code}(h:c.wpIn F n P (Exit.noGoto Q) a w):(Code.scope c).wpIn F n P Q a w:=by
 intro b k cs hro hb hr
 have h0:(lone (b.atR a (.code (.scope c)::k)) cs w).fenced P F:=fenced_calm hb hr rfl
 obtain ⟨e,a₁,w₁,hq,harr⟩:=h b (.inScope c::k) cs hro hb hr
 cases e with
 |normal=>exact ⟨.normal,a₁,w₁,hq,.head h0 mX (StepsIn.trans harr (.one (fenced_calm hb hr rfl) KJ))⟩
 |exit id =>
  have hx:exitTo id (.inScope c::k)=exitTo id k:=by simp [exitTo]
  exact ⟨.exit id,a₁,w₁,hq,fun k' hk=>.head h0 mX (harr.1 k' (by rw [hx];exact hk)),
   fun hr' hk=>let ⟨k₁,h1,h2⟩:=harr.2 hr' (by rw [hx];exact hk);⟨k₁,h1,.head h0 mX h2⟩⟩
 |goto l=>exact hq.elim
 |ret=>exact ⟨_,a₁,w₁,hq,.of_steps (.one h0 mX) harr⟩
 |panic ch=>exact ⟨_,a₁,w₁,hq,.of_steps (.one h0 mX) harr⟩
 |outgrown=>exact ⟨_,a₁,w₁,hq,.of_steps (.one h0 mX) harr⟩
theorem Ws (hR:qH P rec){c:Code}{keep:List Nat}{vc:ay}(hm:mC P c vc=true)(h:step rec env (.round keep nb vc) st=some (e,st')):Grow nb st st':=by
 simp only [step] at h
 replace h:=bind_some h
 obtain ⟨st0,h0,h⟩:=h
 replace h:=bind_some h
 obtain ⟨⟨e1,st1⟩,h1,h⟩:=h
 have hh:st0.boxes.length=nb∧st0.ys=st.ys∧st0.stop=st.stop:=by
  unfold St.head at h0
  simp only at h0
  split at h0
  ·rename_i hc
   simp only [ZZ,decide_eq_true_eq] at hc
   have h0:=ZD.inj h0
   subst h0
   exact ⟨by simp;omega,rfl,rfl⟩
  ·cases h0
 have g1:=hR.grow _ _ _ _ _ hm h1
 have g1':Grow nb st st1:=by
  refine ⟨by rw [← hh.1];exact g1.1,by rw [← hh.2.1];exact g1.2.1,g1.2.2.trans hh.2.2⟩
 simp only at h
 split at h
 ·exact g1'.trans (hR.acU _ _ _ _ _ _ _ hm h)
 ·cases ZD.inj h;exact g1'
theorem ZX (hR:qH P rec){c:Code}{vc:ay}(hm:mC P c vc=true)(h:step rec env vc st=some (e,st')):Grow st.boxes.length st st':=by
 cases vc with
 |skip=>simp only [step,ZD.injEq,ZaD.injEq] at h;rw [← h.2];exact (aY.refl _).grow
 |ops l =>
  simp only [step] at h
  obtain ⟨st1,h1,h2⟩:=eH h
  cases h2;exact gu h1
 |AQ fz acts fin last l =>
  simp only [step] at h
  obtain ⟨st1,h1,h2⟩:=eH h
  cases h2
  have gz:=aY.kZ fz (aY.refl st)
  exact ((aY.grow gz).trans (gu h1)).mono gz.1
 |drs fz keep vo alts =>
  simp only [step] at h
  obtain ⟨st1,h1,h2⟩:=eH h
  cases h2
  have gz:=aY.kZ fz (aY.refl st)
  have g:=KH h1
  exact ((aY.grow gz).trans ⟨g.1,g.2.1,g.2.2⟩).mono gz.1
 |lend d ks l =>
  simp only [step] at h
  split at h
  case h_2=>cases h
  split at h
  case isFalse=>cases h
  obtain ⟨st3,h1,h2⟩:=eH h
  cases h2
  obtain ⟨st2,h3,h4⟩:=bind_some h1
  have gz:=(aY.refl st).freeze (.slot d)
  exact ((gz.grow.trans (gu h3)).mono gz.1).xH h4
 |seq a b =>
  cases c<;>first|(simp [mC] at hm;done)|skip
  rename_i c1 c2
  simp only [mC,ZZ] at hm
  simp only [step] at h
  replace h:=bind_some h
  obtain ⟨⟨e1,st1⟩,h1,h⟩:=h
  have g1:=hR.grow _ _ _ _ _ hm.1 h1
  simp only at h
  split at h
  ·exact (g1.trans (hR.grow _ _ _ _ _ hm.2 h)).mono g1.1
  ·cases ZD.inj h;exact g1
 |cond y a b =>
  cases c<;>first|(simp [mC] at hm;done)|skip
  simp only [mC,ZZ] at hm
  simp only [step] at h
  replace h:=bind_some h
  obtain ⟨v,h1,h⟩:=h
  split at h
  ·split at h
   ·exact hR.grow _ _ _ _ _ hm.1.2 h
   ·exact hR.grow _ _ _ _ _ hm.2 h
  ·cases h
 |block i a =>
  cases c<;>first|(simp [mC] at hm;done)|skip
  simp only [mC,ZZ] at hm
  simp only [step] at h
  replace h:=bind_some h
  obtain ⟨⟨e1,st1⟩,h1,h⟩:=h
  have h:=ZD.inj h
  cases h
  exact hR.grow _ _ _ _ _ hm.2 h1
 |loop keep a =>
  cases c<;>first|(simp [mC] at hm;done)|skip
  simp only [mC] at hm
  simp only [step] at h
  exact hR.acU _ _ _ _ _ _ _ hm h
 |round keep nb a =>
  cases c<;>first|(simp [mC] at hm;done)|skip
 |rng g ps vM b =>
  cases c<;>first|(simp [mC] at hm;done)|skip
  rename_i g1 ps1 c1 c2
  simp only [mC,ZZ,beq_iff_eq] at hm
  obtain ⟨⟨⟨m1,m2⟩,m3⟩,m4⟩:=hm
  simp only [step] at h
  obtain ⟨f,caps,xs,stop,r,s1,q1,q2,q3,q4,rfl,rfl⟩:=L9 h
  have:=xY hR.grow m3 m4 xs 0 _ r s1 q3 (ze _)
  exact ⟨this.1,this.2.1,this.2.2⟩
 |scp a =>
  cases c<;>first|(simp [mC] at hm;done)|skip
  simp only [mC] at hm
  simp only [step] at h
  exact hR.grow _ _ _ _ _ hm h
 |clean pre post a =>
  replace hm:mC P c a=true:=by cases c<;>simpa only [mC] using hm
  simp only [step] at h
  replace h:=bind_some h
  obtain ⟨st1,h0,h⟩:=h
  replace h:=bind_some h
  obtain ⟨⟨e1,st2⟩,h1,h⟩:=h
  replace h:=bind_some h
  obtain ⟨st3,h2,h⟩:=h
  cases ZD.inj h
  obtain ⟨k1,k2,k3⟩:=yZ h0
  obtain ⟨l1,l2,l3⟩:=yZ h2
  have g1:=hR.grow _ _ _ _ _ hm h1
  exact ⟨by omega,by rw [l2,← k2];exact g1.2.1,by rw [l3,g1.2.2,k3]⟩
 |exit i=>simp only [step,ZD.injEq,ZaD.injEq] at h;rw [← h.2];exact (aY.refl _).grow
 |ret=>simp only [step,ZD.injEq,ZaD.injEq] at h;rw [← h.2];exact (aY.refl _).grow
 |Dk l d f args =>
  simp only [step] at h
  obtain ⟨st1,h1,h⟩:=bind_some h
  obtain ⟨vs,h2,h⟩:=bind_some h
  obtain ⟨r,h3,h⟩:=bind_some h
  cases r with
  |some p=>cases ZD.inj h;exact gu h1
  |none =>
   obtain ⟨st2,h4,h5⟩:=eH h
   cases h5
   exact ((gu h1).trans (Hw h4)).mono (gu h1).1
theorem Post.trans {nb1:Nat}{σ1:Nat→Nat}{ms:List Nat}(hs:dB T T1 w w1)(hσ:∀ k,k<nb→σ1 k=σ k)(hd:a1.defers=ms.map jd++ds)(hms:Marks T1 w w1 ms)(hnb:nb≤nb1)
  {x:Exit} {a':Act} {w':World} (h:Post C L nb1 σ1 T1 w1 e st' a1.defers x a' w'):Post C L nb σ T w e st' ds x a' w':=⟨h.1,After.trans hs hσ hd hms hnb h.2⟩
theorem ac1 (hR:qH P rec)(hW:lJ F)(hN:C.Rec F)(hC:C.Ok P L){c:Code}{keep:List Nat}{vc:ay}(hm:mC P c vc=true)(h:step rec env (.round keep nb vc) st=some (e,st'))(hst:st.stop=C.stop)(hX:st'.ys <+: C.X)
  (hs:aV L σ T st a w) (hJ:C.J st.ys.length T w):zY F n P c (Post C L nb σ T w e st' a.defers) a w:=by
 simp only [step] at h
 replace h:=bind_some h
 obtain ⟨st0,h0,h⟩:=h
 replace h:=bind_some h
 obtain ⟨⟨e1,st1⟩,h1,h⟩:=h
 obtain ⟨q1,q2,q3,q4,q5⟩:=hs.head h0
 have g1:=hR.grow _ _ _ _ _ hm h1
 refine RJ ?_
 have hX1:st1.ys <+: C.X:=by
  simp only at h
  split at h
  ·exact (hR.acU _ _ _ _ _ _ _ hm h).2.1.trans hX
  ·cases ZD.inj h;exact hX
 refine wpIn_mono (hR.wp hW hN hC c vc st0 e1 st1 hm h1 (q4.trans hst) hX1 σ T a w q1 (by rw [q3];exact hJ)) ?_
 rintro x a1 w1 ⟨hx,hA⟩
 rw [q2] at hA
 simp only at h
 split at h
 ·subst hx
  obtain ⟨σ1,T1,ms,k1,k2,k3,k4,k5,k6⟩:=hA
  exact RN (hR.wpR hW hN hC c keep nb vc st1 e st' hm h (g1.2.2.trans (q4.trans hst)) hX σ1 T1 a1 w1 k1 k2) fun x a' w' hP=>Post.trans k4 k3 k5 k6 (ze _) hP
 ·rename_i hne
  cases ZD.inj h
  cases e with
  |normal=>exact absurd rfl hne
  |exit i=>subst hx;exact ⟨rfl,hA⟩
  |ret=>subst hx;exact ⟨rfl,hA⟩
  |nJ t m=>subst hx;exact ⟨rfl,hA⟩
theorem alc (hW:lJ F)(hC:C.Ok P L)(bC:gQ P rec env)(hX:st'.ys <+: C.X)(hs:aV L σ T st a w)(hJ:C.J st.ys.length T w)(hst:st.stop=C.stop){l:List iG}{f:Nat}{args:List bU}(hm:mL P cu cu.toList (l++[.call d f args])=true)(h1:ops rec env l st=some st1)
  {vs:List PV} (h2:args.mapM st1.dG=some vs) {r:Option (Nat×Int)} (h3:Fg rec env f vs=some r) (h:(match r with
   |some (t,n)=>some (.nJ t n,st1)
   |none=>(act rec env (.call d f args) st1).map fun st2=>(.normal,st2))=some (e,st')):wpListIn F n P cu (Post C L st.boxes.length σ T w e st' a.defers) cu.toList a w:=by
 obtain ⟨l1,o,hl,m1,m2⟩:=aho hm
 have g1:=gu h1
 rw [hl]
 cases r with
 |some p =>
  cases ZD.inj h
  refine Oc hW hC bC hX hs hJ hst m1 h1 ?_
  rintro a1 w1 ⟨σ1,T1,ms,k1,k2,k3,k4,k5,k6⟩
  exact akZ hW hC bC k1 k2 m2 h2 h3 fun w' hA=>⟨rfl,After.trans k4 k3 k5 k6 g1.1 hA⟩
 |none =>
  obtain ⟨st2,h4,h5⟩:=eH h
  cases h5
  have g2:Grow st1.boxes.length st1 st':=Hw h4
  refine Oc hW hC bC (g2.2.1.trans hX) hs hJ hst m1 h1 ?_
  rintro a1 w1 ⟨σ1,T1,ms,k1,k2,k3,k4,k5,k6⟩
  have h6:ops rec env [.call d f args] st1=some st':=by
   simp only [ops,op,op1,nM,↓reduceIte,h4]
   rfl
  have m3:mL P cu [o] [.call d f args]=true:=by simp only [mL,m2,Bool.and_self]
  exact VZ hW hC bC hX k1 k2 (g1.2.2.trans hst) m3 h6 fun a' w' hA=>⟨rfl,After.trans k4 k3 k5 k6 g1.1 hA⟩
theorem aht (hR:qH P rec)(hI:BI P env)(bC:gQ P rec env)(hW:lJ F)(hN:C.Rec F)(hC:C.Ok P L){c:Code}{vc:ay}(hm:mC P c vc=true)(h:step rec env vc st=some (e,st'))(hst:st.stop=C.stop)(hX:st'.ys <+: C.X)
  (hs:aV L σ T st a w) (hJ:C.J st.ys.length T w):c.wpIn F n P (Post C L st.boxes.length σ T w e st' a.defers) a w:=by
 cases vc with
 |skip =>
  simp only [step,ZD.injEq,ZaD.injEq] at h
  obtain ⟨rfl,rfl⟩:=h
  cases c<;>first|(simp [mC] at hm;done)|skip
  case skip=>exact wpIn_skip ⟨rfl,After.refl hs hJ⟩
  case label l=>exact wpIn_label ⟨rfl,After.refl hs hJ⟩
 |ops l =>
  simp only [step] at h
  obtain ⟨st1,h1,h2⟩:=eH h
  cases h2
  cases c<;>first|(simp [mC] at hm;done)|skip
  case region id ops dr =>
   cases dr<;>simp [mC] at hm
   exact wpIn_region_list (VZ hW hC bC hX hs hJ hst hm h1 fun a' w' hA=>⟨rfl,hA⟩)
 |AQ fz acts fin last l =>
  simp only [step] at h
  obtain ⟨st1,h1,h2⟩:=eH h
  cases h2
  cases c<;>first|(simp [mC] at hm;done)|skip
  case region id ops dr =>
   cases dr<;>simp only [mC,ZZ,zg] at hm
   obtain ⟨⟨⟨m1,m2⟩,m3⟩,m4⟩:=hm
   obtain ⟨T1,q1,q2⟩:=hs.kZ fz
   have gz:=aY.kZ fz (aY.refl st)
   have hJ1:C.J (fz.foldl St.jh st).ys.length T1 w:=by rw [gz.2.1];exact hC.keep _ _ _ _ _ (q2.pV w) hJ
   exact KG hW hC bC q1 hJ1 (gz.2.2.trans hst) hX m1 m2 m3 m4 h1 fun a' w' hA=>⟨rfl,After.trans (ms:=[]) ((q2.pV w).stays) (fun _ _=>rfl) rfl Marks.nil gz.1 hA⟩
 |drs fz keep vo alts =>
  simp only [step] at h
  obtain ⟨st1,h1,h2⟩:=eH h
  cases h2
  cases alts with
  |nil=>cases h1
  |cons alt alts =>
  cases c<;>first|(simp [mC] at hm;done)|skip
  case region id ops dr =>
   cases dr<;>simp only [mC,ZZ,zg] at hm
   obtain ⟨⟨m1,m2⟩,m3⟩:=hm
   obtain ⟨T1,q1,q2⟩:=hs.kZ fz
   have gz:=aY.kZ fz (aY.refl st)
   have hJ1:C.J (fz.foldl St.jh st).ys.length T1 w:=by rw [gz.2.1];exact hC.keep _ _ _ _ _ (q2.pV w) hJ
   exact KI hW hC bC q1 hJ1 (gz.2.2.trans hst) hX m1 m2 m3 h1 fun a' w' hA=>⟨rfl,After.trans (ms:=[]) ((q2.pV w).stays) (fun _ _=>rfl) rfl Marks.nil gz.1 hA⟩
 |lend d ks l =>
  simp only [step] at h
  split at h
  case h_2=>cases h
  rename_i hd
  split at h
  case isFalse=>cases h
  rename_i hstop
  obtain ⟨st3,h1,h2⟩:=eH h
  cases h2
  obtain ⟨st2,h3,h4⟩:=bind_some h1
  cases c<;>first|(simp [mC] at hm;done)|skip
 |seq a b =>
  cases c<;>first|(simp [mC] at hm;done)|skip
  rename_i c1 c2
  simp only [mC,ZZ] at hm
  simp only [step] at h
  replace h:=bind_some h
  obtain ⟨⟨e1,st1⟩,h1,h⟩:=h
  have g1:=hR.grow _ _ _ _ _ hm.1 h1
  refine wpIn_seq ?_
  have hX1:st1.ys <+: C.X:=by
   simp only at h
   split at h
   ·exact (hR.grow _ _ _ _ _ hm.2 h).2.1.trans hX
   ·cases ZD.inj h;exact hX
  refine wpIn_mono (hR.wp hW hN hC c1 _ st e1 st1 hm.1 h1 hst hX1 σ T _ w hs hJ) ?_
  rintro x a1 w1 ⟨hx,hA⟩
  simp only at h
  split at h
  ·subst hx
   obtain ⟨σ1,T1,ms,k1,k2,k3,k4,k5,k6⟩:=hA
   exact wpIn_mono (hR.wp hW hN hC c2 _ st1 e st' hm.2 h (g1.2.2.trans hst) hX σ1 T1 a1 w1 k1 k2) fun x a' w' hP=>Post.trans k4 k3 k5 k6 g1.1 hP
  ·rename_i hne
   cases ZD.inj h
   cases e with
   |normal=>exact absurd rfl hne
   |exit i=>subst hx;exact ⟨rfl,hA⟩
   |ret=>subst hx;exact ⟨rfl,hA⟩
   |nJ t m=>subst hx;exact ⟨rfl,hA⟩
 |cond y a b =>
  cases c<;>first|(simp [mC] at hm;done)|skip
  rename_i x c1 c2
  simp only [mC,ZZ] at hm
  simp only [step] at h
  replace h:=bind_some h
  obtain ⟨v,h1,h⟩:=h
  split at h
  case h_2=>cases h
  rename_i t
  refine wpIn_cond (t:=t) (hs.pv hm.1.1 h1).iJ ?_
  cases t with
  |true=>exact hR.wp hW hN hC c1 _ st e st' hm.1.2 (by simpa using h) hst hX σ T _ w hs hJ
  |false=>exact hR.wp hW hN hC c2 _ st e st' hm.2 (by simpa using h) hst hX σ T _ w hs hJ
 |block i a =>
  cases c<;>first|(simp [mC] at hm;done)|skip
  rename_i j c1
  simp only [mC,ZZ,beq_iff_eq] at hm
  obtain ⟨rfl,hm⟩:=hm
  simp only [step] at h
  replace h:=bind_some h
  obtain ⟨⟨e1,st1⟩,h1,h⟩:=h
  have h:=ZD.inj h
  cases h
  refine wpIn_block (wpIn_mono (hR.wp hW hN hC c1 _ st e1 st1 hm h1 hst hX σ T _ w hs hJ) ?_)
  rintro x a1 w1 ⟨rfl,hA⟩
  cases e1 with
  |normal=>exact ⟨rfl,hA⟩
  |exit i =>
   by_cases hij:i=j
   ·subst hij;simp only [toX,Exit.inBlock,↓reduceIte];exact ⟨rfl,hA⟩
   ·have hne:(Ex.exit i=Ex.exit j)=False:=by simpa using hij
    simp only [toX,Exit.inBlock,if_neg hij,hne,↓reduceIte];exact ⟨rfl,hA⟩
  |ret=>exact ⟨rfl,hA⟩
  |nJ t m=>exact ⟨rfl,hA⟩
 |loop keep a =>
  cases c<;>first|(simp [mC] at hm;done)|skip
  simp only [mC] at hm
  simp only [step] at h
  exact Ob (hR.wpR hW hN hC _ keep _ _ st e st' hm h hst hX σ T _ w hs hJ)
 |round keep nb a =>
  cases c<;>first|(simp [mC] at hm;done)|skip
 |rng g ps vM b =>
  cases c<;>first|(simp [mC] at hm;done)|skip
  rename_i g1 ps1 c1 c2
  simp only [mC,ZZ,beq_iff_eq] at hm
  obtain ⟨⟨⟨m1,m2⟩,m3⟩,m4⟩:=hm
  subst m2
  simp only [step] at h
  obtain ⟨f,caps,xs,stop,r,s1,q1,q2,q3,q4,rfl,rfl⟩:=L9 h
  exact ac0 hR hI hW hN hC m3 m4 m1 q1 q2 q3 q4 hX hst hs hJ
 |scp a =>
  cases c<;>first|(simp [mC] at hm;done)|skip
  rename_i c1
  simp only [mC] at hm
  simp only [step] at h
  refine Wq (wpIn_mono (hR.wp hW hN hC c1 _ st e st' hm h hst hX σ T _ w hs hJ) ?_)
  rintro x a1 w1 ⟨rfl,hA⟩
  cases e<;>exact ⟨rfl,hA⟩
 |clean pre post a =>
  replace hm:mC P c a=true:=by cases c<;>simpa only [mC] using hm
  simp only [step] at h
  replace h:=bind_some h
  obtain ⟨st1,h0,h⟩:=h
  replace h:=bind_some h
  obtain ⟨⟨e1,st2⟩,h1,h⟩:=h
  replace h:=bind_some h
  obtain ⟨st3,h2,h⟩:=h
  cases ZD.inj h
  obtain ⟨q1,q2,q3,q4,q5⟩:=hs.head h0
  obtain ⟨l1,l2,l3⟩:=yZ h2
  refine wpIn_mono (hR.wp hW hN hC c a st1 _ st2 hm h1 (q4.trans hst) (by rw [← l2];exact hX) σ T _ w q1 (by rw [q3];exact hJ)) ?_
  rintro x a1 w1 ⟨hx,σ1,T1,ms,k1,k2,k3,k4,k5,k6⟩
  obtain ⟨r1,r2,r3,r4,r5⟩:=k1.head h2
  exact ⟨hx,σ1,T1,ms,r1,by rw [r3];exact k2,by rw [← q2];exact k3,k4,k5,k6⟩
 |exit i =>
  simp only [step,ZD.injEq,ZaD.injEq] at h
  obtain ⟨rfl,rfl⟩:=h
  cases c<;>first|(simp [mC] at hm;done)|skip
  simp only [mC,beq_iff_eq] at hm
  subst hm
  exact wpIn_exit ⟨rfl,After.refl hs hJ⟩
 |ret =>
  simp only [step,ZD.injEq,ZaD.injEq] at h
  obtain ⟨rfl,rfl⟩:=h
  cases c<;>first|(simp [mC] at hm;done)|skip
  exact wpIn_ret ⟨rfl,After.refl hs hJ⟩
 |Dk l d f args =>
  simp only [step] at h
  obtain ⟨st1,h1,h⟩:=bind_some h
  obtain ⟨vs,h2,h⟩:=bind_some h
  obtain ⟨r,h3,h⟩:=bind_some h
  cases c<;>first|(simp [mC] at hm;done)|skip
  case region id ops dr =>
   cases dr<;>simp [mC] at hm
   exact wpIn_region_list (alc hW hC bC hX hs hJ hst hm h1 h2 h3 (by cases r<;>exact h))
theorem step_ok (hR:qH P rec)(hI:BI P env)(bC:gQ P rec env):qH P (step rec env) :=
 ⟨fun _ _ _ _ _ hm h=>ZX hR hm h,fun _ _ _ _ _ _ _ hm h=>Ws hR hm h,
  fun hW hN hC _ _ _ _ _ hm h hst hX _ _ _ _ hs hJ=>aht hR hI bC hW hN hC hm h hst hX hs hJ,
  fun hW hN hC _ _ _ _ _ _ _ hm h hst hX _ _ _ _ hs hJ=>ac1 hR hW hN hC hm h hst hX hs hJ⟩
end
section
variable {P:Program}{L K:Nat}{σ σ':Nat→Nat}{T T' T1 T2:Tags}{st st' st1:St}{a a1:Act}{w w1:World}{r:Root}
theorem aV.ahu (h:aV L σ T st a w){i:Nat}(h1:∀ t s l,st.slots[t]?=some (.row s l)→r≠.slot t)(h2:∀ (t i:Nat),r≠.part t i)(h3:∀ p q bx s l,st.boxes[p]?=some bx→bx.cs[q]?=some (.row s l)→r≠.cell p q)(hK:st.slots.length≤K) :
  aV L σ (moved T r (.part K i)) st a w:=by
 have hw:∀ b,T b=.ro→b<w.heap.size→moved T r (.part K i) b=.ro∧w.heap[b]?=w.heap[b]?:=fun b e _=>⟨iI e,rfl⟩
 refine ⟨h.size,fun t x u hx hu=>?_,fun p bx ho=>?_,fun b hb=>kU (h.fresh b hb)⟩
 ·have ht:t<st.slots.length:=(Z6.1 hx).1
  refine (h.slots t x u hx hu).keep hw (fun s l e b hb _=>⟨dQ (fun e2=>h1 t s l (by rw [hx,e]) e2.symm) (by simp) hb,rfl⟩) (fun l e i' _ b hb _=>⟨dQ (fun e2=>h2 _ _ e2.symm) (fun e2=>?_) hb,rfl⟩) (fun q hq _ s l e=>⟨⟨l,e⟩,rfl⟩) (ze _) (fun _ _=>rfl)
  cases e2;omega
 ·obtain ⟨arr,E,g1,g2,g3,g4,g5⟩:=h.boxes p bx ho
  refine ⟨arr,E,g1,g2,?_,g4,fun j bv u hj hu=>?_⟩
  ·cases hf:bx.fz with
   |true=>rw [hf] at g3;simpa using iI g3
   |false=>rw [hf] at g3;simpa using oL g3
  ·obtain ⟨k1,k2⟩:=g5 j bv u hj hu
   refine ⟨k1,?_⟩
   cases bv with
   |pv x=>exact aA.frame hw k2
   |row sz es=>exact aW.frame (fun b e _=>⟨dQ (fun e2=>h3 p j bx sz es ho hj e2.symm) (by simp) e,rfl⟩) hw k2
theorem aW.ald {sz:Nat}{es:List PV}{xa:Option Addr}{c:Nat}(h:aW T w r sz es (.slice xa es.length c))(k:Nat):aW T w r sz (es.take k) (.slice xa (es.take k).length c):=by
 rcases h with ⟨rfl,a,e⟩|⟨b,c',arr,E,e,h2,h3,h4,h5,h6,h7,h8⟩
 ·simp only [zd,Value.slice.injEq] at e
  obtain ⟨_,_,rfl⟩:=e
  exact .inl ⟨by simp,xa,by simp⟩
 ·simp only [Value.slice.injEq] at e
  obtain ⟨rfl,_,rfl⟩:=e
  refine .inr ⟨b,c,arr,E,rfl,h2,h3,h4,?_,h6,fun e he=>h7 e (List.mem_of_mem_take he),fun i e j x hi hj=>?_⟩
  ·simp;omega
  ·rw [Zaq] at hi
   split at hi
   ·exact h8 i e j x hi hj
   ·cases hi
def RK (T:Tags)(w:World)(K i:Nat):nC→Value→Prop
 |(.list sz es,true),u=>aW T w (.part K i) sz es u
 |(.agg _,true),_=>False
 |(x,_),u=>aA (fun b=>T b=.ro) w x u
theorem RK.pv {i:Nat}{x:PV}{u:Value}(h:aA (fun b=>T b=.ro) w x u):RK T w K i (x,false) u:=by
 cases x<;>exact h
def nV (tmps:Array Value):ResultVar→Sem Value
 |.tmp t=>pure (tmps.getD t undef)
 |.cell a t=>do loadVar t (← asAddr (tmps.getD a undef))
def Wu (P:Program):ResultVar→sU→Bool
 |.tmp t,.tmp s=>t==s
 |.cell t T0,.cell s n=>t==s&&rU P T0==some n
 |.cell t T0,.own s n=>t==s&&rU P T0==some (some n)
 |_,_=>false
theorem Wv (h:aV L σ T st a w){g:ResultVar}{v:sU}(hm:Wu P g v=true){x:nC}(hp:pU st v=some (x,st1))(hK:st.slots.length≤K)(i:Nat) :
  ∃ u T',(nV a.tmps g).run P w=.ok u w∧aV L σ T' st1 a w∧Still T T'∧RK T' w K i x u∧(∀ b k,k≠i→T b=.row (.part K k)→T' b=.row (.part K k))∧st1.slots.length=st.slots.length∧(∀ b o,T b=.box o→T' b=.box o):=by
 cases g<;>cases v<;>simp only [Wu,zg] at hm
 case tmp.tmp t s =>
  simp only [beq_iff_eq] at hm
  subst hm
  have hev:a.tmps.getD t undef=a.eval (.tmp t):=rfl
  have hmo:bf (.tmp t) (.t t)=true:=by simp [bf]
  simp only [pU] at hp
  split at hp
  ·rename_i sz es st2 hg
   have hp:=ZD.inj hp
   cases hp
   obtain ⟨k1,k2,q,v,es0,c,xa,k3,k4,k5,k6,k7,k8,k9⟩:=h.grab hmo hg
   have hlen:st1.slots.length=st.slots.length:=by rw [← k1.size,← h.size]
   refine ⟨a.eval (.tmp t),moved T q (.part K i),by rw [nV,hev];rfl,k1.ahu k7 k8 k9 (by omega),Still.moved _ _ _,?_,fun b k hk e=>dQ (fun e2=>k8 _ _ e2.symm) (by simp [hk]) e,hlen,fun b o e=>oL e⟩
   rw [k6]
   subst k5
   have:=aW.ald k3 es.length
   rw [← k4] at this
   exact aW.frame (fun b e _=>⟨rD e,rfl⟩) (fun b e _=>⟨iI e,rfl⟩) this
  ·split at hp
   ·rename_i v hv
    have hp:=ZD.inj hp
    cases hp
    have e2:st.dG (.t t)=some v:=by unfold St.dG;rw [show st.get (.t t)=.pv v from hv]
    exact ⟨a.eval (.tmp t),T,by rw [nV,hev];rfl,h,Still.refl T,RK.pv (h.pv hmo e2),fun _ _ _ e=>e,rfl,fun _ _ e=>e⟩
   ·rename_i r off len hv
    split at hp
    case h_2=>cases hp
    rename_i sz es hr
    split at hp
    case isFalse=>cases hp
    rename_i hl
    have hp:=ZD.inj hp
    cases hp
    obtain ⟨T1,k1,k2,k3,k4,k5⟩:=h.freeze r
    refine ⟨a.eval (.tmp t),T1,by rw [nV,hev];rfl,k1,k2,RK.pv (h.NM hr (h.Q9 hmo hv sz es hr) hl (k4 sz es hr) k2.ro),fun b k _ e=>k3 b _ (fun e2=>by subst e2;simp [St.row] at hr) e,by rw [← k1.size,← h.size],k5⟩
   ·cases hp
 case cell.cell t T0 s n =>
  simp only [ZZ,beq_iff_eq] at hm
  obtain ⟨rfl,hc⟩:=hm
  simp only [pU] at hp
  split at hp
  case h_2=>cases hp
  rename_i p j hv
  split at hp
  case h_2=>cases hp
  rename_i bx h1
  have hs:st.slots[t]?=some (.aO p j):=mV (st:=st) hv (by simp)
  have hlt:t<a.tmps.size:=by rw [h.size];exact (Z6.1 hs).1
  have hgp:a.tmps.getD t undef=.pointer (some ⟨σ p,j,none⟩):=by
   have:=(h.slots t _ _ hs (zj hlt)).2
   rw [ZaN,zj hlt,ZbJ,this]
  have hread:∀ {u:Value},(loadVar T0 ⟨σ p,j,none⟩).run P w=.ok u w→(nV a.tmps (.cell t T0)).run P w=.ok u w:=fun hu=>by
   simp only [nV,hgp,asAddr,Sem.run_bind,Sem.run_pure,Result.andThen_ok]
   exact hu
  have hbox:=h.boxes p bx h1
  cases n with
  |none =>
   obtain ⟨arr,E,g1,g2,g3,g4,g5⟩:=hbox
   have hld:∀ (bv:BV),bx.cs[j]?=some bv→∃ u,(loadVar T0 ⟨σ p,j,none⟩).run P w=.ok u w∧GX T w p j bv u:=fun bv hbv=>by
    have hj:j<arr.size:=by rw [g2];exact (Z6.1 hbv).1
    obtain ⟨k1,k2⟩:=g5 j _ arr[j] hbv (zj hj)
    refine ⟨arr[j],?_,k2⟩
    unfold loadVar
    simp only [Sem.run_bind,qN hc,Result.andThen_ok,zg,if_false]
    unfold load
    simp only [Sem.run,cell_of_row w _ _ arr E (0,0) g1,zj hj]
   simp only at hp
   split at hp
   ·rename_i sz es hbv
    split at hp
    ·cases hp
    ·rename_i hfz
     have hp:=ZD.inj hp
     cases hp
     obtain ⟨u,q1,q2⟩:=hld _ hbv
     have hr:st.row (.cell p j)=some (sz,es):=by simp [St.row,h1,hfz,hbv]
     obtain ⟨T1,k1,k2,k3,k4,k5⟩:=h.freeze (.cell p j)
     exact ⟨u,T1,hread q1,k1,k2,RK.pv (aW.list (k4 sz es hr) k2.ro q2),fun b k _ e=>k3 b _ (by simp) e,by rw [← k1.size,← h.size],k5⟩
   ·rename_i v hbv
    have hp:=ZD.inj hp
    cases hp
    obtain ⟨u,q1,q2⟩:=hld _ hbv
    exact ⟨u,T,hread q1,h,Still.refl T,RK.pv q2,fun _ _ _ e=>e,rfl,fun _ _ e=>e⟩
   ·cases hp
  |some n =>
   simp only at hp
   obtain ⟨v,h2,hp⟩:=eH hp
   cases hp
   obtain ⟨T1,k1,k2,k3,k4,k5⟩:=h.tH p
   have hmem:=hbox.mem (T':=T1) (fun j b e=>k4 (by rw [h1];rfl) b j e) k2.ro
   obtain ⟨u,h7,h8,_⟩:=uU (P:=P) hmem hc h2
   rw [Nat.zero_add] at h7
   exact ⟨u,T1,hread (h7 w rfl),k1,k2,RK.pv h8,fun b k _ e=>k3 b _ (by simp) e,by rw [← k1.size,← h.size],k5⟩
 case cell.own t T0 s n=>simp only [pU] at hp;cases hp
def RKo (T:Tags)(w:World)(K i:Nat)(x:nC)(u:Value):Prop :=
 RK T w K i x u∨(i=0∧∃ cs,x=(.agg cs,true)∧∃ arr:Array Value,u=.agg arr∧arr.size=cs.length∧∀ (k:Nat) x v,cs[k]?=some x→arr[k]?=some v→jD T w K k (Zy x) v)
def ZY (T:Tags)(p j K:Nat):Tags:=fun b=>match T b with
 |.ro=>.ro
 |.row (.cell o q)=>if o=p∧j≤q then .row (.part K (q - j)) else .other
 |_=>.other
theorem wz:∀ {l:List BV} {cs:List PV},kS l=some cs→l.length=cs.length∧∀ (k:Nat) x,cs[k]?=some x→(∃ sz es,l[k]?=some (.row sz es)∧x=.list sz es)∨(l[k]?=some (.pv x)∧∀ s es,x≠.list s es)
 |[],cs,h=>by cases h;exact ⟨rfl,fun k x hk=>by simp at hk⟩
 |.row sz es::l,cs,h=>by
  obtain ⟨c,h1,rfl⟩:=eH h
  obtain ⟨q1,q2⟩:=wz h1
  refine ⟨by simp [q1],fun k x hk=>?_⟩
  cases k with
  |zero=>cases hk;exact .inl ⟨sz,es,rfl,rfl⟩
  |succ k=>exact q2 k x hk
 |.pv v::l,cs,h=>by
  have hv:(∀ s es,v≠.list s es)∧∃ c,kS l=some c∧cs=v::c:=by
   cases v<;>first|(simp [kS] at h;done)|(obtain ⟨c,h1,rfl⟩:=eH h;exact ⟨(fun _ _ e=>by cases e),c,h1,rfl⟩)
  obtain ⟨hv,c,h1,rfl⟩:=hv
  obtain ⟨q1,q2⟩:=wz h1
  refine ⟨by simp [q1],fun k x hk=>?_⟩
  cases k with
  |zero=>cases hk;exact .inr ⟨rfl,hv⟩
  |succ k=>exact q2 k x hk
theorem Wx {b j n T0:Nat}{arr:Array Value}{E q}(hc:rU P T0=some (some n))(hb:w.heap[b]?=some (.cells arr E (0,q)))(hn:j+n≤arr.size) :
  ∃ us:Array Value,(loadVar T0 ⟨b,j,none⟩).run P w=.ok (.agg us) w∧us.size=n∧∀ k v,us[k]?=some v→arr[j+k]?=some v:=by
 have hs:=(pz (w:=w) hc).2
 let us:List Value:=(List.range n).map fun k=>arr.getD (j+k) undef
 have hus:∀ k v,us[k]?=some v→arr[j+k]?=some v:=fun k v hv=>by
  have hk:k<n:=by have:=(Z6.1 hv).1;simpa [us] using this
  simp only [us,zb,List.getElem?_range hk,Zah,ZD.injEq] at hv
  rw [zj (by omega:j+k<arr.size)]
  rw [ZaN,zj (by omega:j+k<arr.size)] at hv
  rw [← hv];rfl
 have hlen:us.length=n:=by simp [us]
 refine ⟨us.toArray,?_,by simpa using hlen,fun k v hv=>hus k v (by simpa using hv)⟩
 have hl2:=run_loadCells_list (P:=P) (w:=w) ⟨b,j,none⟩ us (fun k v hv=>by
  rw [Addr.add_lit,cell_of_row w b _ arr E (0,q) hb];exact hus k v hv)
 rw [hlen] at hl2
 unfold loadVar
 simp only [Sem.run_bind,(pz (w:=w) hc).1,Result.andThen_ok,if_true,pW hs,hl2]
 rfl
theorem Wy (h:aV L σ T st a w){t T0 n p j:Nat}{bx:Box}{cs:List PV}(hc:rU P T0=some (some n))(hv:st.slots.getD t .any=.aO p j)(h1:st.boxes[p]?=some bx)(hf:bx.fz=false)(hn:j+n≤bx.cs.length)(ho:kS ((bx.cs.drop j).take n)=some cs) :
  ∃ u T',(nV a.tmps (.cell t T0)).run P w=.ok u w∧Still T T'∧(∀ b,w.heap.size≤b→T' b=.other)∧RKo T' w K 0 (.agg cs,true) u:=by
 have hs:st.slots[t]?=some (.aO p j):=mV (st:=st) hv (by simp)
 have hlt:t<a.tmps.size:=by rw [h.size];exact (Z6.1 hs).1
 have hgp:a.tmps.getD t undef=.pointer (some ⟨σ p,j,none⟩):=by
  have:=(h.slots t _ _ hs (zj hlt)).2
  rw [ZaN,zj hlt,ZbJ,this]
 obtain ⟨arr,E,g1,g2,g3,g4,g5⟩:=h.boxes p bx h1
 obtain ⟨us,r1,r2,r3⟩:=Wx (P:=P) hc g1 (by omega:j+n≤arr.size)
 obtain ⟨q1,q2⟩:=wz ho
 have hro:∀ b,T b=.ro→ZY T p j K b=.ro:=fun b e=>by simp [ZY,e]
 refine ⟨.agg us,ZY T p j K,?_,⟨hro,fun b e=>by simp [ZY,e]⟩,fun b hb=>by simp [ZY,h.fresh b hb],.inr ⟨rfl,cs,rfl,us,rfl,?_,fun k x v hx hu=>?_⟩⟩
 ·simp only [nV,hgp,asAddr,Sem.run_bind,Sem.run_pure,Result.andThen_ok]
  exact r1
 ·rw [r2,← q1];simp;omega
 ·have hk:k<n:=by rw [← r2];exact (zz.1 hu).1
  have hget:∀ bv,((bx.cs.drop j).take n)[k]?=some bv→bx.cs[j+k]?=some bv:=fun bv e=>by
   rw [List.getElem?_take_of_lt hk,List.getElem?_drop] at e;exact e
  rcases q2 k x hx with ⟨sz,es,e1,rfl⟩|⟨e1,e2⟩
  ·obtain ⟨_,k2⟩:=g5 (j+k) _ v (hget _ e1) (r3 k v hu)
   exact aW.frame (fun b e _=>⟨by simp [ZY,e],rfl⟩) (fun b e _=>⟨hro b e,rfl⟩) k2
  ·obtain ⟨_,k2⟩:=g5 (j+k) _ v (hget _ e1) (r3 k v hu)
   have:Zy x=.pv x:=by cases x<;>first|rfl|exact absurd rfl (e2 _ _)
   rw [this]
   exact aA.frame (fun b e _=>⟨hro b e,rfl⟩) k2
end
def lK (P:Program):List ResultVar→List sU→Bool
 |[],[]=>true
 |g::gs,v::vs=>Wu P g v&&lK P gs vs
 |_,_=>false
section
variable {P:Program}{L K:Nat}{σ σ':Nat→Nat}{T T' T1 T2:Tags}{st st' st1:St}{a a1:Act}{w w1:World}{r:Root}
theorem RK.frame {i:Nat}{x:nC}{u:Value}(hr:∀ b,T b=.row (.part K i)→T' b=.row (.part K i))(hw:∀ b,T b=.ro→T' b=.ro)(h:RK T w K i x u):RK T' w K i x u:=by
 obtain ⟨v,own⟩:=x
 cases v<;>cases own<;>first|exact aA.frame (fun b e _=>⟨hw b e,rfl⟩) h|exact aW.frame (fun b e _=>⟨hr b e,rfl⟩) (fun b e _=>⟨hw b e,rfl⟩) h|exact False.elim h
theorem x9:∀ {gs:List ResultVar} {vs:List sU} {st:St} {T:Tags} {xs:List nC} (i:Nat),aV L σ T st a w→lK P gs vs=true→resultList st vs=some xs→st.slots.length≤K →
  ∃ (us:List Value) (T':Tags),(gs.mapM (nV a.tmps)).run P w=.ok us w∧us.length=xs.length∧Still T T'∧(∀ b,w.heap.size≤b→T' b=.other)∧(∀ (j:Nat) x u,xs[j]?=some x→us[j]?=some u→RK T' w K (i+j) x u)∧(∀ b k,k<i→T b=.row (.part K k)→T' b=.row (.part K k))∧∀ b o,T b=.box o→T' b=.box o
 |[],[],st,T,xs,i,h,_,hp,hK=>by
  simp only [resultList,ZD.injEq] at hp
  subst hp
  exact ⟨[],T,by simp,rfl,Still.refl T,h.fresh,fun j x u hx=>by simp at hx,(fun _ _ _ e=>e),fun _ _ e=>e⟩
 |[],_::_,_,_,_,_,_,hm,_,_=>by simp [lK] at hm
 |_::_,[],_,_,_,_,_,hm,_,_=>by simp [lK] at hm
 |g::gs,v::vs,st,T,xs,i,h,hm,hp,hK=>by
  simp only [lK,ZZ] at hm
  simp only [resultList] at hp
  replace hp:=bind_some hp
  obtain ⟨⟨x,st1⟩,h1,hp⟩:=hp
  replace hp:=bind_some hp
  obtain ⟨l,h2,hp⟩:=hp
  have hp:=ZD.inj hp
  subst hp
  obtain ⟨u,T1,k1,k2,k3,k4,k5,k6,k7⟩:=Wv h hm.1 h1 hK i
  obtain ⟨us,T2,q1,q2,q3,q4,q5,q6,q7⟩:=x9 (i+1) k2 hm.2 h2 (by omega)
  refine ⟨u::us,T2,?_,by simp [q2],k3.trans q3,q4,fun j x' u' hx hu=>?_,fun b k hk e=>q6 b k (by omega) (k5 b k (by omega) e),fun b o e=>q7 b o (k7 b o e)⟩
  ·rw [Zcs]
   simp only [Sem.run_bind,k1,Result.andThen_ok,q1,Sem.run_pure]
  ·cases j with
   |zero =>
    simp only [Zak,ZD.injEq] at hx hu
    subst hx;subst hu
    exact RK.frame (fun b e=>q6 b i (by omega) e) q3.ro k4
   |succ j =>
    have:=q5 j x' u' (by simpa using hx) (by simpa using hu)
    rwa [show i+1+j=i+(j+1) by omega] at this
theorem qc {fn:Func}{us:List Value}(h:(fn.results.toList.mapM (nV a.tmps)).run P w=.ok us w):(results fn a.tmps).run P w=.ok (if us.toArray.size=1 then us.toArray.getD 0 undef else .tuple us.toArray) w:=by
 have e:results fn a.tmps=(do let vs ← fn.results.mapM (nV a.tmps);pure (if h:vs.size=1 then vs[0] else .tuple vs)):=by
  unfold results
  congr 1
 rw [e,Array.mapM_eq_mapM_toList]
 simp only [Sem.run_bind,Sem.run_map,h,Result.andThen_ok,Sem.run_pure]
 by_cases hs:us.toArray.size=1
 ·rw [dif_pos hs,if_pos hs,ZaN,zj (by omega),ZbJ]
 ·rw [dif_neg hs,if_neg hs]
theorem lM {fn:Func}{R:Ending→World→Prop}{B:Nat}:∀ {ms:List Nat} {w:World},ms.Nodup→(∀ r∈ms,B≤r∧w.heap[r]?=some (.deferred (some []))) →
  (∀ w',w'.os=w.os→w'.tape=w.tape→w'.output=w.output→w'.heap.size=w.heap.size→(∀ b,b ∉ ms→w'.heap[b]?=w.heap[b]?)→∃ v,(results fn a.tmps).run P w'=.ok v w'∧R (.returned v) w') →
  LeavesInM Fence.wide 0 P fn a.tmps R (ms.map jd) .returning w
 |[],w,_,_,h=>by
  simp only [Zai,LeavesInM,LeavesIn]
  exact h w rfl rfl rfl rfl fun _ _=>rfl
 |r::ms,w,hnd,hms,h=>by
  simp only [Zaj,LeavesInM]
  obtain ⟨hn1,hn2⟩:=Zax.1 hnd
  obtain ⟨k1,k2⟩:=hms r (by simp)
  have hr:r<w.heap.size:=(zz.1 k2).1
  have hput:∀ b,b≠r→(w.putObj r (.deferred none)).heap[b]?=w.heap[b]?:=fun b hb=>by simp [World.putObj,Zbh,Ne.symm hb]
  refine ⟨by simp,.inl ⟨r,_,rfl,run_takeDeferred k2,lM (B:=B) hn2 (fun r' hr'=>?_) fun w' e1 e2 e3 e4 e5=>h w' e1 e2 e3 (by rw [e4];simp [World.putObj]) fun b hb=>?_⟩⟩
  ·obtain ⟨q1,q2⟩:=hms r' (by simp [hr'])
   exact ⟨q1,by rw [hput r' (fun e=>hn1 (e ▸ hr'))];exact q2⟩
  ·simp only [Zaf,not_or] at hb
   rw [e5 b hb.2,hput b hb.1]
end
section
variable {P:Program}{L K:Nat}{σ σ':Nat→Nat}{T T' T1 T2:Tags}{st st' st1:St}{a a1:Act}{w w1:World}{r:Root}
 {rec:ay→St→Option (Ex×St)} {env:Env}
theorem wB {gs:List ResultVar}{vs:List sU}{xs:List nC}(h:aV L σ T st a w)(hm:lK P gs vs=true)(hp:fV st vs=some xs) :
  ∃ (us:List Value) (T':Tags),(gs.mapM (nV a.tmps)).run P w=.ok us w∧us.length=xs.length∧Still T T'∧(∀ b,w.heap.size≤b→T' b=.other)∧∀ (j:Nat) x u,xs[j]?=some x→us[j]?=some u→RKo T' w st.slots.length j x u:=by
 have gen:resultList st vs=some xs→∃ (us:List Value) (T':Tags),(gs.mapM (nV a.tmps)).run P w=.ok us w∧us.length=xs.length∧Still T T'∧(∀ b,w.heap.size≤b→T' b=.other)∧∀ (j:Nat) x u,xs[j]?=some x→us[j]?=some u→RKo T' w st.slots.length j x u:=fun hl=>by
  obtain ⟨us,T',k1,k2,k3,k4,k5,_⟩:=x9 0 h hm hl (ze _)
  exact ⟨us,T',k1,k2,k3,k4,fun j x u hx hu=>.inl (by simpa using k5 j x u hx hu)⟩
 unfold fV at hp
 split at hp
 case h_3=>exact gen hp
 case h_2 =>
  rename_i t n
  split at hp
  case h_2=>cases hp
  rename_i p j hs
  split at hp
  case h_2=>cases hp
  rename_i bx h1
  split at hp
  ·cases hp
  ·rename_i hf
   simp only [Za7,ZaR,decide_eq_false_iff_not,not_or,Zbr,Zb0] at hf
   obtain ⟨cs,h2,rfl⟩:=eH hp
   obtain ⟨T0,hgs,hc⟩:∃ T0,gs=[.cell t T0]∧rU P T0=some (some n):=by
    match gs,hm with
    |[.tmp s],hm=>simp [lK,Wu] at hm
    |[.cell s T0],hm=>simp [lK,Wu] at hm;exact ⟨T0,by rw [hm.1],hm.2⟩
    |[],hm=>simp [lK] at hm
    |_::_::_,hm=>simp [lK] at hm
   subst hgs
   obtain ⟨u,T',r1,r2,r3,r4⟩:=Wy (P:=P) (K:=st.slots.length) h hc hs h1 hf.1 hf.2 h2
   refine ⟨[u],T',?_,rfl,r2,r3,fun j x u' hx hu=>?_⟩
   ·simp only [Zcs,List.mapM_nil,Sem.run_bind,r1,Result.andThen_ok,Sem.run_pure]
   ·cases j with
    |zero =>
     simp only [Zak,ZD.injEq] at hx hu
     subst hx;subst hu;exact r4
    |succ j=>simp at hx
 rename_i t
 split at hp
 case h_2=>exact gen hp
 rename_i f caps hs
 obtain ⟨⟨p,fl⟩,h1,h2⟩:=eH hp
 subst h2
 have hmo:bf (.tmp t) (.t t)=true:=by simp [bf]
 have hg:st.get (.t t)=.fn f caps:=hs
 have hsn:st.kD (st.get (.t t))=some (p,fl):=by rw [hg];exact h1
 obtain ⟨k1,_,k3⟩:=h.RH hmo hsn
 obtain ⟨T1,q1,q2,q3,q4⟩:=lu.args [.t t] (lu.refl T st) h (fun x hx=>by simp only [Zav] at hx;subst hx;exact k1)
 have hgs:gs=[.tmp t]:=by
  match gs,hm with
  |[.tmp s],hm=>simp [lK,Wu] at hm;rw [hm]
  |[.cell s T0],hm=>simp [lK,Wu] at hm
  |[],hm=>simp [lK] at hm
  |_::_::_,hm=>simp [lK] at hm
 subst hgs
 refine ⟨[a.eval (.tmp t)],T1,by simp [nV,Act.eval],rfl,q3,q2.fresh,fun j x u hx hu=>?_⟩
 cases j with
 |zero =>
  simp only [Zak,ZD.injEq] at hx hu
  subst hx;subst hu
  exact .inl (RK.pv (k3 T1 q3 (q4 _ (by simp))))
 |succ j=>simp at hx
theorem WA {ok good:Nat→Prop}(hg:∀ b,dD w b→good b){x:PV}{v:Value}(h:aA ok w x v):aA (fun b=>ok b∧good b) w x v:=by
 induction h with
 |int k n=>exact .int k n
 |bool b=>exact .bool b
 |str s=>exact .str s
 |uw=>exact .uw
 |void v h=>exact .void v h
 |nil sz a=>exact .nil sz a
 |l9 sz a=>exact .l9 sz a
 |list sz es b off c cv h1 h2 h3 h4 h6 h7 h8 ih=>exact .list sz es b off c cv ⟨h1,hg b h2⟩ h2 h3 h4 h6 h7 ih
 |agg cs arr h1 h2 h3 ih=>exact .agg cs arr h1 h2 ih
 |func f caps arr h1 h2 ih=>exact .func f caps arr h1 ih
 |dM cs j b off cv h1 h2 h3 h4 ih=>exact .dM cs j b off cv ⟨h1,hg b h2⟩ h2 h3 ih
def drop (T:Tags)(ms:List Nat):Tags:=fun b=>if b∈ms then .other else T b
theorem aV.drop (h:aV L σ T st a w){ms:List Nat}(hms:∀ r∈ms,¬ dD w r)(hw:∀ b,b ∉ ms→w1.heap[b]?=w.heap[b]?)(hsz:w1.heap.size=w.heap.size):aV L σ (drop T ms) st a w1:=by
 have hg:∀ b,dD w b→b ∉ ms:=fun b hc hb=>hms b hb hc
 have hp:∀ {x v},aA (fun b=>T b=.ro) w x v→aA (fun b=>Go.Proofs.YtioijcfcehhmdaaGreatDoor.drop T ms b=.ro) w1 x v:=fun h =>
  (WA hg h).frame fun b hb _=>⟨by simp [Go.Proofs.YtioijcfcehhmdaaGreatDoor.drop,hb.1,hb.2],hw b hb.2⟩
 have hrow:∀ {r sz es v},aW T w r sz es v→aW (Go.Proofs.YtioijcfcehhmdaaGreatDoor.drop T ms) w1 r sz es v:=fun {r sz es v} h=>by
  rcases h with h|⟨b,c,arr,E,h1,h2,h3,h4,h5,h6,h7,h8⟩
  ·exact .inl h
  ·have hb:b ∉ ms:=hg b ⟨_,_,_,h3⟩
   refine .inr ⟨b,c,arr,E,h1,by simp [Go.Proofs.YtioijcfcehhmdaaGreatDoor.drop,hb,h2],(hw b hb).trans h3,h4,h5,h6,h7,fun i e j x hi hj=>?_⟩
   obtain ⟨u,k1,k2,k3⟩:=h8 i e j x hi hj
   exact ⟨u,k1,k2,hp k3⟩
 have hbox:∀ o,o<st.boxes.length→σ o ∉ ms:=fun o ho=>hg _ (h.boxes o _ (ZS ho)).yS
 have Rw:∀ r:Root,r.low st.boxes.length→hdr σ a w1 r=hdr σ a w r:=fun r hr=>by
  cases r with
  |slot t=>rfl
  |part t i=>rfl
  |cell o j=>exact World.cell?_of_block (w:=w) (a:=⟨σ o,j,none⟩) (hw _ (hbox o hr))
 refine ⟨h.size,fun t av v ht hv=>?_,fun o bx ho=>?_,fun b hb=>?_⟩
 ·have hA:=h.slots t av v ht hv
  cases av with
  |pv x=>exact hp hA
  |row sz es=>exact hrow hA
  |ref r off len=>exact ⟨hA.1,fun sz es hr=>by rw [Rw r hA.1];exact hA.2 sz es hr⟩
  |aO o j=>exact hA
  |qx r i j=>exact ⟨hA.1,fun sz es hr=>by rw [Rw r hA.1];exact hA.2 sz es hr⟩
  |fn f caps =>
   obtain ⟨arr,e1,e2,e3⟩:=hA
   refine ⟨arr,e1,e2,fun k x u hx hu=>?_⟩
   have:=e3 k x u hx hu
   cases x with
   |pv p=>exact hp this
   |_=>exact this
  |lU k l =>
   obtain ⟨arr,e1,e2,e3⟩:=hA
   refine ⟨arr,e1,e2,fun k x u hx hu=>?_⟩
   have:=e3 k x u hx hu
   cases x with
   |pv p=>exact hp this
   |row sz es=>exact hrow this
   |_=>exact this
  |FX s l=>exact ⟨hp hA.1,hA.2⟩
  |pp o j =>
   obtain ⟨q0,b,E,q1,q2,q3⟩:=hA
   have hb:b ∉ ms:=hg b ⟨_,_,_,q3⟩
   exact ⟨q0,b,E,q1,by simp [Go.Proofs.YtioijcfcehhmdaaGreatDoor.drop,hb,q2],(hw b hb).trans q3⟩
  |tq=>exact hA
  |any=>trivial
 ·have hb:=hbox o (Z6.1 ho).1
  obtain ⟨arr,E,g1,g2,g3,g4,g5⟩:=h.boxes o bx ho
  refine ⟨arr,E,(hw _ hb).trans g1,g2,by simp only [Go.Proofs.YtioijcfcehhmdaaGreatDoor.drop,if_neg hb];exact g3,g4,fun j bv u hj hu=>?_⟩
  obtain ⟨k1,k2⟩:=g5 j bv u hj hu
  refine ⟨k1,?_⟩
  cases bv with
  |pv x=>exact hp k2
  |row sz es=>exact hrow k2
 ·unfold Go.Proofs.YtioijcfcehhmdaaGreatDoor.drop
  split
  ·rfl
  ·exact h.fresh b (by omega)
def outT (T:Tags)(K:Nat):Tags:=fun b=>match T b with
 |.ro=>.ro
 |.row (.part k i)=>if k=K then .row (.part 0 i) else .other
 |_=>.other
theorem jD.ahv {k:Nat}{x:AV}{v:Value}(h:jD T w K k x v):jD (outT T K) w 0 k x v:=by
 cases x with
 |pv p=>exact aA.frame (fun b e _=>⟨by simp [outT,e],rfl⟩) h
 |row sz es=>exact aW.frame (fun b e _=>⟨by simp [outT,e],rfl⟩) (fun b e _=>⟨by simp [outT,e],rfl⟩) h
 |any=>trivial
 |_=>exact h
theorem RK.arR {i:Nat}{x:nC}{u:Value}(h:RK T w K i x u):R1 (outT T K) w i x u:=by
 have hp:∀ {x v},aA (fun b=>T b=.ro) w x v→aA (fun b=>outT T K b=.ro) w x v:=fun h=>h.frame fun b hb _=>⟨by simp [outT,hb],rfl⟩
 have hrow:∀ {sz es},aW T w (.part K i) sz es u→aW (outT T K) w (.part 0 i) sz es u:=fun h=>aW.frame (fun b e _=>⟨by simp [outT,e],rfl⟩) (fun b e _=>⟨by simp [outT,e],rfl⟩) h
 obtain ⟨v,own⟩:=x
 cases v<;>cases own<;>first|exact hrow h|exact hp h|exact False.elim h
theorem RK.out {i:Nat}{x:nC}{u:Value}(h:RKo T w K i x u):R1 (outT T K) w i x u:=by
 rcases h with h|⟨_,cs,rfl,arr,rfl,h1,h2⟩
 ·exact RK.arR h
 ·exact ⟨arr,rfl,h1,fun k x v hx hv=>jD.ahv (h2 k x v hx hv)⟩
def bT (P:Program)(f:Nat)(fn:iq):Bool :=
 match P.funcs[f]? with
 |some g=>(match g.body with
  |some c=>mC P c fn.body
  |none=>false)&&g.name != "runtime.NumGoroutine"&&g.ntmps==fn.ntmps&&decide (fn.nargs≤fn.ntmps)&&lK P g.results.toList fn.results
 |none=>false
theorem wC {f:Nat}{fn:iq}(h:bT P f fn=true):callable P f=true∧∃ g c,P.funcs[f]?=some g∧g.body=some c∧mC P c fn.body=true∧g.ntmps=fn.ntmps∧fn.nargs≤fn.ntmps∧lK P g.results.toList fn.results=true:=by
 unfold bT at h
 split at h
 case h_2=>cases h
 rename_i g hf
 simp only [ZZ,beq_iff_eq,bne_iff_ne,decide_eq_true_eq] at h
 obtain ⟨⟨⟨⟨h1,h2⟩,h3⟩,h4⟩,h5⟩:=h
 split at h1
 case h_2=>cases h1
 rename_i c hb
 exact ⟨by simp [callable,hf,h2,hb],g,c,hf,hb,h1,h3,h4,h5⟩
def jU (T0:Tags)(w:World):Nat→Tags→World→Prop:=fun _ T w'=>Below w.heap.size w w'∧∀ b,b<w.heap.size→T b=T0 b
theorem qg {T0:Tags}(h0:∀ b,T0 b=.ro∨T0 b=.other){k:Nat}{w w1 w2:World}(hc:zQ T T' w1 w2)(h:jU T0 w k T w1):jU T0 w k T' w2:=by
 obtain ⟨h1,h2⟩:=h
 refine ⟨h1.trans ⟨hc.os,hc.tape,hc.output,hc.size,fun b hb=>hc.same b (Zae hb h1.size) ?_⟩,fun b hb=>?_⟩
 ·rw [h2 b hb];exact h0 b
 ·rcases h0 b with e|e
  ·rw [e];exact hc.ro b (by rw [h2 b hb,e])
  ·rw [e];exact hc.other b (Zae hb h1.size) (by rw [h2 b hb,e])
theorem H9 {T0:Tags}{args:List PV}{vs:List Value}{n:Nat}(hf:∀ b,w.heap.size≤b→T0 b=.other)(hl:vs.length=args.length)(hr:∀ (i:Nat) x v,args[i]?=some x→vs[i]?=some v→aA (fun b=>T0 b=.ro) w x v)(ys:List (List PV))(stop:Option (Option Nat)) :
  aV L σ T0 ⟨args.map .pv++Zal (n - args.length) .any,[],ys,stop⟩ { tmps:=vs.toArray++Zbj (n - vs.toArray.size) undef,defers:=[] } w:=by
 refine ⟨by simp [hl],fun t av v ht hv=>?_,fun o bx ho=>by simp at ho,hf⟩
 simp only at ht hv
 rcases Zbf t args.length with h|h
 ·rw [Zad (by simpa using h),zb,ZS h] at ht
  rw [Zbt (by simpa [hl] using h)] at hv
  cases ht
  exact hr t _ v (ZS h) (by simpa using hv)
 ·rw [zP (by simpa using h),Zbq] at ht
  split at ht
  ·cases ht;trivial
  ·cases ht
theorem Z4 (hR:qH P rec){f:Nat}{fn:iq}{args:List PV}{rs:List nC}(hfn:bT P f fn=true)(hl:args.length=fn.nargs){e:Ex}(he:∀ i,e≠.exit i)(he2:∀ t n,e≠.nJ t n)
  (hb:rec fn.body ⟨args.map .pv++Zal (fn.ntmps - args.length) .any,[],[],none⟩=some (e,st)) (hrs:fV st fn.results=some rs):nP P f args rs:=by
 intro T0 w vs h0 hf hlen hr hG
 obtain ⟨_,g,c,k1,k2,k3,k4,k5,k6⟩:=wC hfn
 refine (callsIn_wide (n:=0)).1 (callsIn_of_wp_marks k1 k2 trivial ?_)
 rw [k4]
 have Fz:aV 0 (fun _=>0) T0 ⟨args.map .pv++Zal (fn.ntmps - args.length) .any,[],[],none⟩ { tmps:=vs.toArray++Zbj (fn.ntmps - vs.toArray.size) undef,defers:=[] } w:=H9 hf hlen hr [] none
 have hC:Ctx.Ok ⟨st.ys,none,jU T0 w⟩ P 0:=⟨fun k T T' w1 w2 hc h=>qg (k:=k) h0 hc h,fun k T w1 h=>hG.frame fun b e hb=>⟨(h.2 b hb).trans e,h.1.block b hb⟩,fun s k T w ps vs hs=>by cases hs⟩
 have hJ:jU T0 w 0 T0 w:=⟨Below.refl _ _,fun _ _=>rfl⟩
 refine wpIn_mono (hR.wp (F:=Fence.wide) (L:=0) (C:=⟨st.ys,none,jU T0 w⟩) (n:=0) (.inl rfl) (Ctx.pY _) hC c fn.body _ e st k3 hb rfl (ZbC _) _ T0 _ w Fz hJ) ?_
 rintro x a' w' ⟨rfl,σ',T',ms,q1,q2,q3,q4,q5,q6⟩
 obtain ⟨p1,p2⟩:=q2
 have key:LeavesInM Fence.wide 0 P g a'.tmps (fun e w'=>∃ v T',e=.returned v∧Below w.heap.size w w'∧(∀ b,b<w.heap.size→T' b=T0 b)∧(∀ b,w'.heap.size≤b→T' b=.other)∧kG T' w' rs v) a'.defers .returning w':=by
  rw [q5,ZaE]
  refine lM (B:=w.heap.size) q6.2 (fun r hr=>⟨(q6.1 r hr).1,(q6.1 r hr).2.2⟩) fun w2 e1 e2 e3 e4 e5=>?_
  have q1':=q1.drop (fun r hr ⟨arr,E,q,e⟩=>by rw [(q6.1 r hr).2.2] at e;cases e) e5 e4
  obtain ⟨us,T2,r1,r2,r3,r4,r5⟩:=wB q1' k6 hrs
  have hms:∀ b,b<w.heap.size→b ∉ ms:=fun b hb hm=>by have:=(q6.1 b hm).1;omega
  have hT2:∀ b,b<w.heap.size→T2 b=T0 b:=fun b hb=>by
   have e:drop T' ms b=T0 b:=by simp only [drop,if_neg (hms b hb)];exact p2 b hb
   rcases h0 b with e0|e0
   ·rw [e0];exact r3.ro b (by rw [e,e0])
   ·rw [e0];exact r3.other b (by rw [e,e0])
  refine ⟨_,qc r1,_,outT T2 st.slots.length,rfl,p1.trans ⟨e1,e2,e3,by omega,fun b hb=>e5 b (hms b hb)⟩,fun b hb=>?_,fun b hb=>?_,us.toArray,by simpa using r2,rfl,fun i x u hx hu=>RK.out (r5 i x u hx (by simpa using hu))⟩
  ·simp only [outT,hT2 b hb]
   rcases h0 b with e0|e0<;>rw [e0]
  ·simp only [outT,r4 b hb]
 cases e with
 |normal=>exact key
 |ret=>exact key
 |exit i=>exact absurd rfl (he i)
 |nJ t n=>exact absurd rfl (he2 t n)
theorem Z5 {T0:Tags}{x:mg}{v:Value}{args:List PV}{vs:List Value}{n:Nat}(hf:∀ b,w.heap.size≤b→T0 b=.other)(hx:ahl T0 w v x)(hl:vs.length=args.length)(hr:∀ (i:Nat) x v,args[i]?=some x→vs[i]?=some v→aA (fun b=>T0 b=.ro) w x v) :
  ∃ σ:Nat→Nat,aV 0 σ T0 ⟨x.av::(args.map .pv++Zal (n - (args.length+1)) .any),x.boxes,[],none⟩ { tmps:=(v::vs).toArray++Zbj (n - (v::vs).toArray.size) undef,defers:=[] } w∧∀ b,v=.pointer (some ⟨b,0,none⟩)→(∃ cs,x=.box cs)→σ 0=b:=by
 obtain ⟨b0,hb0⟩:∃ b0,∀ cs,x=.box cs→v=.pointer (some ⟨b0,0,none⟩)∧eU T0 w b0 0 ⟨false,cs.map .pv⟩:=by
  cases x with
  |box cs=>obtain ⟨b,h1,h2⟩:=hx;exact ⟨b,fun cs' e=>by cases e;exact ⟨h1,h2⟩⟩
  |row sz es=>exact ⟨0,fun _ e=>by cases e⟩
  |own l=>exact ⟨0,fun _ e=>by cases e⟩
 refine ⟨fun _=>b0,⟨by simp [hl];omega,fun t av u ht hu=>?_,fun o bx ho=>?_,hf⟩,fun b hb ⟨cs,hcs⟩=>?_⟩
 ·cases t with
  |zero =>
   simp only [Zak,ZD.injEq] at ht
   have hu':u=v:=by
    have:((v::vs).toArray++Zbj (n - (v::vs).toArray.size) undef)[0]?=some v:=by rw [Zbt (by simp)];rfl
    rw [this] at hu;exact (ZD.inj hu).symm
   subst hu'
   subst ht
   cases x with
   |row sz es=>exact hx
   |own l=>obtain ⟨arr,h1,h2,h3⟩:=hx;exact ⟨arr,h1,h2,h3⟩
   |box cs=>exact ⟨by simp [mg.boxes],(hb0 cs rfl).1⟩
  |succ t =>
   rw [ZaH] at ht
   rcases Zbf t args.length with h|h
   ·rw [Zad (by simpa using h),zb,ZS h] at ht
    simp only at hu
    rw [Zbt (by simp [hl];omega)] at hu
    cases ht
    exact hr t _ u (ZS h) (by simpa using hu)
   ·rw [zP (by simpa using h),Zbq] at ht
    split at ht
    ·cases ht;trivial
    ·cases ht
 ·cases x with
  |box cs =>
   cases o with
   |zero =>
    simp only [mg.boxes,Zak,ZD.injEq] at ho
    subst ho
    exact (hb0 cs rfl).2
   |succ o=>simp [mg.boxes] at ho
  |row sz es=>simp [mg.boxes] at ho
  |own l=>simp [mg.boxes] at ho
 ·have:=(hb0 cs hcs).1
  rw [this] at hb
  injection hb with hb
  injection hb with hb
  injection hb with hb
def ac2 (T0:Tags)(w:World):Nat→Tags→World→Prop:=fun _ T w'=>w.heap.size≤w'.heap.size∧w'.os=w.os∧w'.tape=w.tape∧w'.output=w.output∧∀ b,b<w.heap.size→(T0 b=.ro∨T0 b=.other)→w'.heap[b]?=w.heap[b]?∧T b=T0 b
theorem Z7 {T0:Tags}{k:Nat}{w w1 w2:World}(hc:zQ T T' w1 w2)(h:ac2 T0 w k T w1):ac2 T0 w k T' w2:=by
 obtain ⟨h1,h2,h3,h4,h5⟩:=h
 refine ⟨zr h1 hc.size,hc.os.trans h2,hc.tape.trans h3,hc.output.trans h4,fun b hb e=>?_⟩
 obtain ⟨k1,k2⟩:=h5 b hb e
 have hl:=Zae hb h1
 refine ⟨(hc.same b hl (by rw [k2];exact e)).trans k1,?_⟩
 rcases e with e|e
 ·rw [e];exact hc.ro b (by rw [k2,e])
 ·rw [e];exact hc.other b hl (by rw [k2,e])
theorem WB (hR:qH P rec){f:Nat}{fn:iq}{x:mg}{args:List PV}{rs:List nC}{out:Option (List PV)}(hfn:bT P f fn=true){e:Ex}(he:∀ i,e≠.exit i)(he2:∀ t n,e≠.nJ t n)
  (hb:rec fn.body ⟨x.av::(args.map .pv++Zal (fn.ntmps - (args.length+1)) .any),x.boxes,[],none⟩=some (e,st)) (hrs:kT x st fn.results=some (rs,out)):Yz P f x args rs out:=by
 intro T0 w v vs hf hx hlen hr hG
 obtain ⟨_,g,c,k1,k2,k3,k4,k5,k6⟩:=wC hfn
 refine (callsIn_wide (n:=0)).1 (callsIn_of_wp_marks k1 k2 trivial ?_)
 rw [k4]
 obtain ⟨σ0,Fz,hσ0⟩:=Z5 (n:=fn.ntmps) hf hx hlen hr
 have hC:Ctx.Ok ⟨st.ys,none,ac2 T0 w⟩ P 0:=⟨fun k T T' w1 w2 hc h=>Z7 (k:=k) hc h,fun k T w1 h=>hG.frame fun b e hb=>⟨by rw [(h.2.2.2.2 b hb (.inl e)).2,e],(h.2.2.2.2 b hb (.inl e)).1⟩,fun s k T w ps vs hs=>by cases hs⟩
 have hJ:ac2 T0 w 0 T0 w:=⟨ze _,rfl,rfl,rfl,fun _ _ _=>⟨rfl,rfl⟩⟩
 refine wpIn_mono (hR.wp (F:=Fence.wide) (L:=0) (C:=⟨st.ys,none,ac2 T0 w⟩) (n:=0) (.inl rfl) (Ctx.pY _) hC c fn.body _ e st k3 hb rfl (ZbC _) _ T0 _ w Fz hJ) ?_
 rintro x' a' w' ⟨rfl,σ',T',ms,q1,q2,q3,q4,q5,q6⟩
 obtain ⟨p1,p2,p3,p4,p5⟩:=q2
 have key:LeavesInM Fence.wide 0 P g a'.tmps (fun e w'=>∃ u T',e=.returned u∧w.heap.size≤w'.heap.size∧w'.os=w.os∧w'.tape=w.tape∧w'.output=w.output∧(∀ b,b<w.heap.size→(T0 b=.ro∨T0 b=.other)→w'.heap[b]?=w.heap[b]?∧T' b=T0 b)∧(∀ b,w'.heap.size≤b→T' b=.other)∧kG T' w' rs u∧acI T' w' v out) a'.defers .returning w':=by
  rw [q5,ZaE]
  refine lM (B:=w.heap.size) q6.2 (fun r hr=>⟨(q6.1 r hr).1,(q6.1 r hr).2.2⟩) fun w2 e1 e2 e3 e4 e5=>?_
  have q1':=q1.drop (fun r hr ⟨arr,E,q,e⟩=>by rw [(q6.1 r hr).2.2] at e;cases e) e5 e4
  have hms:∀ b,b<w.heap.size→b ∉ ms:=fun b hb hm=>by have:=(q6.1 b hm).1;omega
  -- what the results leave of the tags
  have fin:∀ (T1 T2:Tags) (K:Nat),Still (Go.Proofs.YtioijcfcehhmdaaGreatDoor.drop T' ms) T1→Still T1 T2→∀ b,b<w.heap.size→(T0 b=.ro∨T0 b=.other)→w2.heap[b]?=w.heap[b]?∧outT T2 K b=T0 b:=fun T1 T2 K s1 s2 b hb e=>by
   obtain ⟨y1,y2⟩:=p5 b hb e
   refine ⟨(e5 b (hms b hb)).trans y1,?_⟩
   have ed:Go.Proofs.YtioijcfcehhmdaaGreatDoor.drop T' ms b=T0 b:=by simp only [Go.Proofs.YtioijcfcehhmdaaGreatDoor.drop,if_neg (hms b hb)];exact y2
   rcases e with e|e
   ·simp only [outT,s2.ro b (s1.ro b (by rw [ed,e])),e]
   ·simp only [outT,s2.other b (s1.other b (by rw [ed,e])),e]
  have plain:(∀ cs,x≠.box cs)→fV st fn.results=some rs→out=none→∃ u T',(results g a'.tmps).run P w2=.ok u w2∧(∀ b,b<w.heap.size→(T0 b=.ro∨T0 b=.other)→w2.heap[b]?=w.heap[b]?∧T' b=T0 b)∧(∀ b,w2.heap.size≤b→T' b=.other)∧kG T' w2 rs u∧acI T' w2 v out:=fun _ h1 h2=>by
   obtain ⟨us,T2,r1,r2,r3,r4,r5⟩:=wB q1' k6 h1
   refine ⟨_,outT T2 st.slots.length,qc r1,fin _ T2 _ (Still.refl _) r3,fun b hb=>by simp only [outT,r4 b hb],⟨us.toArray,by simpa using r2,rfl,fun i x u hx hu=>RK.out (r5 i x u hx (by simpa using hu))⟩,by rw [h2];trivial⟩
  have pack:∀ (u:Value) (T2:Tags),(∀ b,b<w.heap.size→(T0 b=.ro∨T0 b=.other)→w2.heap[b]?=w.heap[b]?∧T2 b=T0 b)→(∀ b,w2.heap.size≤b→T2 b=.other)→kG T2 w2 rs u→acI T2 w2 v out→∃ u' T',Ending.returned u=.returned u'∧w.heap.size≤w2.heap.size∧w2.os=w.os∧w2.tape=w.tape∧w2.output=w.output∧(∀ b,b<w.heap.size→(T0 b=.ro∨T0 b=.other)→w2.heap[b]?=w.heap[b]?∧T' b=T0 b)∧(∀ b,w2.heap.size≤b→T' b=.other)∧kG T' w2 rs u'∧acI T' w2 v out:=fun u T2 s1 s2 s3 s4 =>
   ⟨u,T2,rfl,by omega,e1.trans p2,e2.trans p3,e3.trans p4,s1,s2,s3,s4⟩
  unfold kT at hrs
  cases x with
  |row sz es =>
   obtain ⟨l,h1,h2⟩:=eH hrs
   cases h2
   obtain ⟨u,T2,s0,s1,s2,s3,s4⟩:=plain (fun _ e=>by cases e) h1 rfl
   exact ⟨u,s0,pack u T2 s1 s2 s3 s4⟩
  |own lo =>
   obtain ⟨l,h1,h2⟩:=eH hrs
   cases h2
   obtain ⟨u,T2,s0,s1,s2,s3,s4⟩:=plain (fun _ e=>by cases e) h1 rfl
   exact ⟨u,s0,pack u T2 s1 s2 s3 s4⟩
  |box cs =>
   simp only at hrs
   split at hrs
   case h_2=>cases hrs
   rename_i bx hbx
   split at hrs
   ·cases hrs
   rename_i hfz
   have hfz:bx.fz=false:=by simpa using hfz
   obtain ⟨l,h1,h2⟩:=eH hrs
   cases h2
   obtain ⟨T1,t1,t2,_,_,_⟩:=q1'.tH 0
   obtain ⟨us,T2,r1,r2,r3,r4,r5,_,r7⟩:=x9 0 t1 k6 h1 (ze _)
   have hσ:σ' 0=σ0 0:=q3 0 (by simp [mg.boxes])
   obtain ⟨arr,E,g1,g2,g3,g4,g5⟩:=t1.boxes 0 bx hbx
   have hT1:T1 (σ' 0)=.box 0:=by rw [g3];simp [hfz]
   have hrow:∀ (j s:Nat) (l:List PV),bx.cs[j]?≠some (BV.row s l):=fun j s l e=>by
    unfold St.bH at hbx
    cases h0:st.boxes[0]? with
    |none=>rw [h0] at hbx;simp only at hbx;rw [h0] at hbx;cases hbx
    |some b0 =>
     rw [h0] at hbx
     have hl0:0<st.boxes.length:=(Z6.1 h0).1
     simp only [List.getElem?_set_self hl0,ZD.injEq] at hbx
     rw [← hbx] at e
     obtain ⟨x,_,hx⟩:=oN e
     cases hx
   refine ⟨_,qc r1,pack _ (outT T2 (st.bH 0).slots.length) (fin T1 T2 _ t2 r3) (fun b hb=>by simp only [outT,r4 b hb]) ⟨us.toArray,by simpa using r2,rfl,fun i x u hx hu=>RK.out (.inl (by simpa using r5 i x u hx (by simpa using hu)))⟩ fun b hv=>?_⟩
   have hb0:σ' 0=b:=hσ.trans (hσ0 b hv ⟨cs,rfl⟩)
   rw [hb0] at g1 hT1
   refine ⟨by simp only [outT,r7 b 0 hT1],arr,E,g1,by simpa using g2,fun j x u hx hu=>?_⟩
   rw [zb] at hx
   cases hc:bx.cs[j]? with
   |none=>rw [hc] at hx;cases hx
   |some bv =>
    rw [hc] at hx
    have hx:=ZD.inj hx
    subst hx
    obtain ⟨y1,y2⟩:=g5 j bv u hc hu
    refine ⟨y1,?_⟩
    cases bv with
    |pv p=>exact aA.frame (fun b hb _=>⟨by simp only [outT,r3.ro b hb],rfl⟩) y2
    |row s l=>exact absurd hc (hrow j s l)
 cases e with
 |normal=>exact key
 |ret=>exact key
 |exit i=>exact absurd rfl (he i)
 |nJ t n=>exact absurd rfl (he2 t n)
end
def zval:PV→Value
 |.int k n=>.int k n
 |.bool b=>.bool b
 |_=>.slice none 0 0
def nX:List Nat→List (List PV)→World→World
 |b::bs,z::zs,w=>nX bs zs (w.setRow b (z.map zval).toArray)
 |_,_,w=>w
def Ia (P:Program)(r t:Nat):Prop:=callable P r=true ∧
 (∀ (b:Nat) (m n:Int) (E:TypeId) (w:World),w.heap[b]?=some (.cells #[.int .i64 m] E (0,0))→CallsDIn Fence.wide 0 P r #[.pointer (some ⟨b,0,none⟩)] (.panicking [{ v:=.iface t (.int .i64 n),recovered:=false }]) w fun e u' w'=>e=.returned (.tuple #[])∧settle u'=.returning∧w'=w.setRow b #[.int .i64 n]) ∧
 (∀ (b:Nat) (w:World),CallsDIn Fence.wide 0 P r #[.pointer (some ⟨b,0,none⟩)] .returning w fun e u' w'=>e=.returned (.tuple #[])∧settle u'=.returning∧w'=w)
def ptrs (bs:List Nat):Array Value:=(bs.map fun b=>Value.pointer (some ⟨b,0,none⟩)).toArray
def Af (P:Program)(g:Nat)(zs:List (List PV)):Prop:=callable P g=true ∧
 (∀ (be:Nat) (bs:List Nat) (E:TypeId) (w:World),bs.length=zs.length→w.heap[be]?=some (.cells #[.int .i64 0] E (0,0))→CallsDIn Fence.wide 0 P g (ptrs (be::bs)) .returning w fun e u' w'=>e=.returned (.tuple #[])∧settle u'=.returning∧w'=w) ∧
 (∀ (be:Nat) (bs:List Nat) (m:Int) (E:TypeId) (w:World),m≠0→bs.length=zs.length→w.heap[be]?=some (.cells #[.int .i64 m] E (0,0)) →
  (∀ (i:Nat) b z,bs[i]?=some b→zs[i]?=some z→∃ arr E,w.heap[b]?=some (.cells arr E (0,0))∧arr.size=z.length)→(be::bs).Nodup →
  CallsDIn Fence.wide 0 P g (ptrs (be::bs)) .returning w fun e u' w'=>e=.returned (.tuple #[])∧settle u'=.returning∧w'=nX bs zs w)
def Gg:Op→Option (Operand×List Operand)
 |.defer c=>match c.callee with
  |.value y=>some (y,c.args.toList)
  |_=>none
 |_=>none
def Oo (fn:oJ):List Oper→Bool
 |[o]=>o.guard.isNone&&o.dst.isNone&&(match Gg o.op with
  |some (.func f,[.tmp s])=>f==fn.AU&&s==fn.e
  |_=>false)
 |_=>false
def WC (P:Program)(fn:oJ):List Oper→Bool
 |[o,o2]=>match fn.zy with
  |some (d,g,zs)=>o.guard.isNone&&m1 P o (.VA d g (.t fn.e::zs.map fun z=>.t z.1))&&o2.guard.isNone&&o2.dst.isNone&&(match Gg o2.op with
   |some (.tmp s,[])=>s==d
   |_=>false)
  |none=>false
 |_=>false
def mD (P:Program)(fn:oJ):Code→Bool
 |.seq r0 (.seq (.region _ o1 false) c)=>mC P r0 fn.pre&&(match fn.zy with
  |none=>Oo fn o1.toList&&mC P c fn.body
  |some _=>(match c with
   |.seq (.region _ o2 false) rest=>WC P fn o1.toList&&Oo fn o2.toList&&mC P rest fn.body
   |_=>false))
 |_=>false
def BJ (P:Program)(f:Nat)(fn:oJ):Bool :=
 match P.funcs[f]? with
 |some g=>(match g.body with
  |some c=>mD P fn c
  |none=>false)&&g.name != "runtime.NumGoroutine"&&g.ntmps==fn.ntmps&&decide (fn.nargs≤fn.ntmps)&&lK P g.results.toList fn.results
 |none=>false
section
variable {P:Program}{L K nb n:Nat}{F:Fence}{σ σ':Nat→Nat}{T T' T1 T2:Tags}{st st' st1:St}{a a1:Act}{w w1:World}{r:Root}{o:Oper}{cu:Array Oper}{Q:Exit→Act→World→Prop}
 {rec:ay→St→Option (Ex×St)} {env:Env}
theorem SA {f:Nat}{fn:oJ}(h:BJ P f fn=true):callable P f=true∧∃ g c,P.funcs[f]?=some g∧g.body=some c∧mD P fn c=true∧g.ntmps=fn.ntmps∧fn.nargs≤fn.ntmps∧lK P g.results.toList fn.results=true:=by
 unfold BJ at h
 split at h
 case h_2=>cases h
 rename_i g hf
 simp only [ZZ,beq_iff_eq,bne_iff_ne,decide_eq_true_eq] at h
 obtain ⟨⟨⟨⟨h1,h2⟩,h3⟩,h4⟩,h5⟩:=h
 split at h1
 case h_2=>cases h1
 rename_i c hb
 exact ⟨by simp [callable,hf,h2,hb],g,c,hf,hb,h1,h3,h4,h5⟩
theorem aV.Ag (h:aV L σ T st a w)(ds:List Deferred):aV L σ T st { a with defers:=ds } w:=⟨h.size,h.slots,h.boxes,h.fresh⟩
theorem rZ {fn:Func}{tmps:Array Value}{R:Ending→World→Prop}{B:Nat}{ds:List Deferred}{u:FrameMode}(hu:u≠.run):∀ {ms:List Nat} {w:World},ms.Nodup→(∀ r∈ms,B≤r∧w.heap[r]?=some (.deferred (some []))) →
  (∀ w',w'.os=w.os→w'.tape=w.tape→w'.output=w.output→w'.heap.size=w.heap.size→(∀ b,b ∉ ms→w'.heap[b]?=w.heap[b]?)→LeavesInM Fence.wide 0 P fn tmps R ds u w') →
  LeavesInM Fence.wide 0 P fn tmps R (ms.map jd++ds) u w
 |[],w,_,_,h=>h w rfl rfl rfl rfl fun _ _=>rfl
 |r::ms,w,hnd,hms,h=>by
  simp only [Zaj,Za3,LeavesInM]
  obtain ⟨hn1,hn2⟩:=Zax.1 hnd
  obtain ⟨k1,k2⟩:=hms r (by simp)
  have hput:∀ b,b≠r→(w.putObj r (.deferred none)).heap[b]?=w.heap[b]?:=fun b hb=>by simp [World.putObj,Zbh,Ne.symm hb]
  refine ⟨hu,.inl ⟨r,_,rfl,run_takeDeferred k2,rZ hu (B:=B) hn2 (fun r' hr'=>?_) fun w' e1 e2 e3 e4 e5=>h w' e1 e2 e3 (by rw [e4];simp [World.putObj]) fun b hb=>?_⟩⟩
  ·obtain ⟨q1,q2⟩:=hms r' (by simp [hr'])
   exact ⟨q1,by rw [hput r' (fun e=>hn1 (e ▸ hr'))];exact q2⟩
  ·simp only [Zaf,not_or] at hb
   rw [e5 b hb.2,hput b hb.1]
theorem nY {fn:Func}{tmps:Array Value}{R:Ending→World→Prop}{ds:List Deferred}{u:FrameMode}{g:Nat}{arr args:Array Value}(hu:u≠.run)(hc:callable P g=true)
  {w':World} (h:CallsDIn Fence.wide 0 P g (args++arr) u w fun e u' w2=>e=.returned (.tuple #[])∧settle u'=.returning∧w2=w') (hn:LeavesInM Fence.wide 0 P fn tmps R ds .returning w') :
  LeavesInM Fence.wide 0 P fn tmps R ({ target:=.fn (.func g) arr,args:=args }::ds) u w:=by
 simp only [LeavesInM]
 refine ⟨hu,.inr ⟨(fun e=>by cases e),_,_,g,_,rfl,nR hc _ _,(fun _ _=>trivial),h.mono ?_⟩⟩
 rintro e u' w2 ⟨rfl,h2,rfl⟩
 simp only [h2]
 exact hn
theorem WE {ok:Nat→Prop}{x:PV}(h:x.gG=true):aA ok w x (zval x)∧(zval x).oneCell'=true:=by
 cases x with
 |int k n=>exact ⟨.int _ _,rfl⟩
 |bool b=>exact ⟨.bool _,rfl⟩
 |list sz l=>cases l with
  |nil=>exact ⟨.nil _ _,rfl⟩
  |cons _ _=>cases h
 |l9 sz=>exact ⟨.l9 _ _,rfl⟩
 |_=>cases h
theorem aV.setVar (h:aV L σ T st a w){p:Nat}{vals:List PV}(hp:st.setVar p vals=some st'):(∃ arr E,w.heap[σ p]?=some (.cells arr E (0,0))∧arr.size=vals.length)∧aV L σ T st' a (w.setRow (σ p) (vals.map zval).toArray) ∧
  zQ T T w (w.setRow (σ p) (vals.map zval).toArray)∧T (σ p)=.box p:=by
 unfold St.setVar at hp
 split at hp
 case h_2=>cases hp
 rename_i bx hb
 split at hp
 ·cases hp
 rename_i hc
 simp only [Za7,ZaR,decide_eq_false_iff_not,not_or,Zbr,Zb0,ZdU] at hc
 obtain ⟨⟨c1,c2⟩,c3⟩:=hc
 cases ZD.inj hp
 obtain ⟨arr,E,g1,g2,g3,g4,g5⟩:=h.boxes p bx hb
 have:=h.Hg (T':=T) (cs':=vals.map .pv) (arr':=(vals.map zval).toArray) id hb c1 g1 (by simp [c2]) (by simp [g2,c2]) (fun k bv u hk hu=>by
  rw [zb] at hk
  cases hx:vals[k]? with
  |none=>rw [hx] at hk;cases hk
  |some x =>
   rw [hx] at hk
   cases hk
   rw [ZaL,zb,hx] at hu
   cases hu
   obtain ⟨q1,q2⟩:=WE (w:=w.setRow (σ p) (vals.map zval).toArray) (ok:=fun b=>T b=.ro) (zE.1 c3 x (Zab hx))
   exact ⟨q2,q1⟩) (fun x=>.inr ⟨rfl,fun k _ s l hk=>by
  rw [zb] at hk
  cases hx:vals[k]? with
  |none=>rw [hx] at hk;cases hk
  |some x=>rw [hx] at hk;cases hk⟩) (fun _ e=>e) (fun _ _ e=>e) (fun _ e=>e) (fun _ _ _ _ _ e=>e) (fun _ _ _ _ _ e=>e) (fun _ _ _ _ e=>e)
 rw [List.map_id] at this
 exact ⟨⟨arr,E,g1,by omega⟩,this.1,this.2,by rw [g3,c1];rfl⟩
theorem Oq {p:Nat}{vals:List PV}(hp:st.setVar p vals=some st'):(∃ bx:Box,st.boxes[p]?=some bx∧bx.fz=false∧bx.cs.length=vals.length)∧∀ (q:Nat) (bx':Box),st'.boxes[q]?=some bx'→∃ bx:Box,st.boxes[q]?=some bx∧bx.fz=bx'.fz∧bx.cs.length=bx'.cs.length:=by
 unfold St.setVar at hp
 split at hp
 case h_2=>cases hp
 rename_i bx hb
 split at hp
 ·cases hp
 rename_i hc
 simp only [Za7,ZaR,decide_eq_false_iff_not,not_or,Zbr,Zb0,ZdU] at hc
 obtain ⟨⟨c1,c2⟩,c3⟩:=hc
 cases ZD.inj hp
 refine ⟨⟨bx,hb,c1,c2⟩,fun q bx' hq=>?_⟩
 simp only [zp] at hq
 split at hq
 ·rename_i e
  subst e
  split at hq
  ·cases hq;exact ⟨bx,hb,rfl,by simp [c2]⟩
  ·cases hq
 ·exact ⟨bx',hq,rfl,rfl⟩
theorem zI:∀ {os:List Nat} {zs:List (List PV)} {st:St},St.bV os zs st=some st'→os.length=zs.length∧∀ (i:Nat) p z,os[i]?=some p→zs[i]?=some z→∃ bx:Box,st.boxes[p]?=some bx∧bx.fz=false∧bx.cs.length=z.length
 |[],[],st,_=>⟨rfl,fun i p z h=>by simp at h⟩
 |[],_::_,st,h=>by simp [St.bV] at h
 |_::_,[],st,h=>by simp [St.bV] at h
 |o::os,z::zs,st,h=>by
  simp only [St.bV] at h
  obtain ⟨s1,h1,h2⟩:=bind_some h
  obtain ⟨g1,g2⟩:=Oq h1
  obtain ⟨k1,k2⟩:=zI h2
  refine ⟨by simp [k1],fun i p z' hp hz=>?_⟩
  cases i with
  |zero=>simp only [Zak,ZD.injEq] at hp hz;subst hp;subst hz;exact g1
  |succ i =>
   obtain ⟨bx',q1,q2,q3⟩:=k2 i p z' (by simpa using hp) (by simpa using hz)
   obtain ⟨bx,r1,r2,r3⟩:=g2 p bx' q1
   exact ⟨bx,r1,r2.trans q2,r3.trans q3⟩
theorem aV.bV:∀ {os:List Nat} {zs:List (List PV)} {st:St} {w:World},aV L σ T st a w→St.bV os zs st=some st'→aV L σ T st' a (nX (os.map σ) zs w)∧zQ T T w (nX (os.map σ) zs w)
 |[],[],st,w,h,hp=>by
  simp only [St.bV,ZD.injEq] at hp
  subst hp
  exact ⟨h,zQ.refl T w⟩
 |[],_::_,st,w,_,h=>by simp [St.bV] at h
 |_::_,[],st,w,_,h=>by simp [St.bV] at h
 |o::os,z::zs,st,w,hs,h=>by
  simp only [St.bV] at h
  obtain ⟨s1,h1,h2⟩:=bind_some h
  obtain ⟨_,g1,g2,_⟩:=hs.setVar h1
  obtain ⟨k1,k2⟩:=aV.bV g1 h2
  exact ⟨k1,g2.trans k2⟩
theorem aV.eP (h:aV L σ T st a w){p:Nat}{m:Int}(hp:st.eP p=some m):(∃ E,w.heap[σ p]?=some (.cells #[.int .i64 m] E (0,0)))∧T (σ p)=.box p:=by
 unfold St.eP at hp
 split at hp
 case h_2=>cases hp
 rename_i m' hb
 cases ZD.inj hp
 obtain ⟨arr,E,g1,g2,g3,g4,g5⟩:=h.boxes p _ hb
 refine ⟨⟨E,?_⟩,g3⟩
 match arr,g2 with
 |⟨[u]⟩,_ =>
  have:=(g5 0 _ u rfl rfl).2
  rw [aA.bP this] at g1
  exact g1
theorem ac3 (hR:qH P rec){f:Nat}{fn:iq}{args:List PV}{t:Nat}{m:Int}(hfn:bT P f fn=true)(hl:args.length=fn.nargs)
  (hb:rec fn.body ⟨args.map .pv++Zal (fn.ntmps - args.length) .any,[],[],none⟩=some (.nJ t m,st)):RF P f args t m:=by
 intro T0 w vs h0 hf hlen hr hG
 obtain ⟨_,g,c,k1,k2,k3,k4,k5,k6⟩:=wC hfn
 refine (callsIn_wide (n:=0)).1 (callsIn_of_wp_marks k1 k2 trivial ?_)
 rw [k4]
 have Fz:aV 0 (fun _=>0) T0 ⟨args.map .pv++Zal (fn.ntmps - args.length) .any,[],[],none⟩ { tmps:=vs.toArray++Zbj (fn.ntmps - vs.toArray.size) undef,defers:=[] } w:=H9 hf hlen hr [] none
 have hC:Ctx.Ok ⟨st.ys,none,jU T0 w⟩ P 0:=⟨fun k T T' w1 w2 hc h=>qg (k:=k) h0 hc h,fun k T w1 h=>hG.frame fun b e hb=>⟨(h.2 b hb).trans e,h.1.block b hb⟩,fun s k T w ps vs hs=>by cases hs⟩
 have hJ:jU T0 w 0 T0 w:=⟨Below.refl _ _,fun _ _=>rfl⟩
 refine wpIn_mono (hR.wp (F:=Fence.wide) (L:=0) (C:=⟨st.ys,none,jU T0 w⟩) (n:=0) (.inl rfl) (Ctx.pY _) hC c fn.body _ _ st k3 hb rfl (ZbC _) _ T0 _ w Fz hJ) ?_
 rintro x a' w' ⟨rfl,σ',T',ms,q1,q2,q3,q4,q5,q6⟩
 obtain ⟨p1,p2⟩:=q2
 simp only [toX,bodyPostM]
 rw [q5]
 refine rZ (B:=w.heap.size) (by simp) q6.2 (fun r hr=>⟨(q6.1 r hr).1,(q6.1 r hr).2.2⟩) fun w2 e1 e2 e3 e4 e5=>?_
 have hms:∀ b,b<w.heap.size→b ∉ ms:=fun b hb hm=>by have:=(q6.1 b hm).1;omega
 exact ⟨rfl,p1.trans ⟨e1,e2,e3,by omega,fun b hb=>e5 b (hms b hb)⟩⟩
theorem ac4 {caps:List AV}{os:List Nat}(h:caps.mapM jy=some os):caps=os.map (.aO · 0):=by
 obtain ⟨l1,l2⟩:=mapM_some h
 refine List.ext_getElem? fun i=>?_
 rw [zb]
 cases hc:caps[i]? with
 |none =>
  have:=Zdc.1 hc
  rw [ZaV (by omega)]
  rfl
 |some c =>
  obtain ⟨q,g1,g2⟩:=l2 i c hc
  rw [g2]
  unfold jy at g1
  split at g1
  ·cases g1;rfl
  ·cases g1
set_option maxHeartbeats 1000000 in
theorem ac5 (hR:qH P rec){f:Nat}{fn:oJ}{args:List PV}{rs:List nC}(hfn:BJ P f fn=true)(Mc:Ia P fn.AU fn.t)(aon:∀ d g zs,fn.zy=some (d,g,zs)→Af P g (zs.map (·.2)))(hl:args.length=fn.nargs){s0 s1 s4:St}{e:Ex}
  (hp:rec fn.pre ⟨args.map .pv++Zal (fn.ntmps - args.length) .any,[],[],none⟩=some (.normal,s0)) (hm:fn.begun s0=some s1) (hb:rec fn.body s1=some (e,s4)) (he:fJ fn s1 e s4=some rs):nP P f args rs:=by
 intro T0 w vs h0 hf hlen hr hG
 obtain ⟨_,g,c,k1,k2,k3,k4,k5,k6⟩:=SA hfn
 refine (callsIn_wide (n:=0)).1 (callsIn_of_wp_marks k1 k2 trivial ?_)
 rw [k4]
 have Fz:aV 0 (fun _=>0) T0 ⟨args.map .pv++Zal (fn.ntmps - args.length) .any,[],[],none⟩ { tmps:=vs.toArray++Zbj (fn.ntmps - vs.toArray.size) undef,defers:=[] } w:=H9 hf hlen hr [] none
 have hC:Ctx.Ok ⟨s4.ys,none,jU T0 w⟩ P 0:=⟨fun k T T' w1 w2 hc h=>qg (k:=k) h0 hc h,fun k T w1 h=>hG.frame fun b e hb=>⟨(h.2 b hb).trans e,h.1.block b hb⟩,fun s k T w ps vs hs=>by cases hs⟩
 have hJ:jU T0 w 0 T0 w:=⟨Below.refl _ _,fun _ _=>rfl⟩
 -- the deferred calls
 unfold fJ at he
 obtain ⟨oe,ho,he⟩:=bind_some he
 obtain ⟨s5,h5,he⟩:=bind_some he
 obtain ⟨s6,h6,hrs⟩:=bind_some he
 -- the body,its ahw laid
 have body:∀ (rest:Code) (σ2:Nat→Nat) (T2:Tags) (a2:Act) (w2:World) (ms1:List Nat) (dl:List Deferred),mC P rest fn.body=true→aV 0 σ2 T2 s1 a2 w2→jU T0 w 0 T2 w2→dB T0 T2 w w2→s1.stop=none→s1.ys <+: s4.ys→Marks T2 w w2 ms1 →
   a2.defers={ target:=.fn (.func fn.AU) #[],args:=#[.pointer (some ⟨σ2 oe,0,none⟩)] }::(dl++ms1.map jd) →
   ((fn.zy=none∧dl=[])∨∃ d gf zs os,fn.zy=some (d,gf,zs)∧fH s1 d gf=some os∧(∀ o∈os,o<s1.boxes.length)∧dl=[{ target:=.fn (.func gf) (ptrs (os.map σ2)),args:=#[] }])→oe<s1.boxes.length →
   rest.wpIn Fence.wide 0 P (bodyPostM Fence.wide 0 P g (fun e w'=>∃ v T',e=.returned v∧Below w.heap.size w w'∧(∀ b,b<w.heap.size→T' b=T0 b)∧(∀ b,w'.heap.size≤b→T' b=.other)∧kG T' w' rs v)) a2 w2:=by
  intro rest σ2 T2 a2 w2 ms1 dl hmc hs2 hJ2 hst2 hstop hys ac6 hdef hdl hoe
  refine wpIn_mono (hR.wp (F:=Fence.wide) (L:=0) (C:=⟨s4.ys,none,jU T0 w⟩) (n:=0) (.inl rfl) (Ctx.pY _) hC rest fn.body _ e s4 hmc hb hstop (ZbC _) σ2 T2 a2 w2 hs2 hJ2) ?_
  rintro x a4 w4 ⟨rfl,σ4,T4,ms4,q1,q2,q3,q4,q5,q6⟩
  obtain ⟨p1,p2⟩:=q2
  have ale:∀ b,b<w2.heap.size→b ∉ ms4:=fun b hb hm=>by have:=(q6.1 b hm).1;omega
  have hsz2:w.heap.size≤w2.heap.size:=hst2.size
  have hm1:∀ r∈ms1,r<w2.heap.size:=fun r hr=>(zz.1 (ac6.1 r hr).2.2).1
  -- behind all that is deferred
  have last:∀ (T6:Tags) (w6:World),aV 0 σ4 T6 s6 a4 w6→Below w.heap.size w w6→(∀ b,b<w.heap.size→T6 b=T0 b)→(∀ r∈ms1,w6.heap[r]?=some (.deferred (some []))) →
    LeavesInM Fence.wide 0 P g a4.tmps (fun e w'=>∃ v T',e=.returned v∧Below w.heap.size w w'∧(∀ b,b<w.heap.size→T' b=T0 b)∧(∀ b,w'.heap.size≤b→T' b=.other)∧kG T' w' rs v) (ms1.map jd) .returning w6:=by
   intro T6 w6 g1 g2 g3 g4
   refine lM (B:=w.heap.size) ac6.2 (fun r hr=>⟨(ac6.1 r hr).1,g4 r hr⟩) fun w7 e1 e2 e3 e4 e5=>?_
   have q1':=g1.drop (fun r hr ⟨arr,E,q,e⟩=>by rw [g4 r hr] at e;cases e) e5 e4
   obtain ⟨us,T8,r1,r2,r3,r4,r5⟩:=wB q1' k6 hrs
   have hms:∀ b,b<w.heap.size→b ∉ ms1:=fun b hb hm=>by have:=(ac6.1 b hm).1;omega
   have hT2:∀ b,b<w.heap.size→T8 b=T0 b:=fun b hb=>by
    have e:drop T6 ms1 b=T0 b:=by simp only [drop,if_neg (hms b hb)];exact g3 b hb
    rcases h0 b with e0|e0
    ·rw [e0];exact r3.ro b (by rw [e,e0])
    ·rw [e0];exact r3.other b (by rw [e,e0])
   refine ⟨_,qc r1,_,outT T8 s6.slots.length,rfl,g2.trans ⟨e1,e2,e3,by omega,fun b hb=>e5 b (hms b hb)⟩,fun b hb=>?_,fun b hb=>?_,us.toArray,by simpa using r2,rfl,fun i x u hx hu=>RK.out (r5 i x u hx (by simpa using hu))⟩
   ·simp only [outT,hT2 b hb]
    rcases h0 b with e0|e0<;>rw [e0]
   ·simp only [outT,r4 b hb]
  -- a block of the call's own is none of what was there
  have own:∀ {T6:Tags} {p b:Nat},(∀ b,b<w.heap.size→T6 b=T0 b)→T6 b=.box p→w.heap.size≤b:=fun {T6 p b} g3 e=>by
   rcases Zbf b w.heap.size with h|h
   ·have:=g3 b h
    rw [e] at this
    rcases h0 b with e0|e0<;>rw [e0] at this<;>cases this
   ·exact h
  have step:∀ {T6:Tags} {w6 w7:World},zQ T6 T6 w6 w7→Below w.heap.size w w6→(∀ b,b<w.heap.size→T6 b=T0 b)→(∀ r∈ms1,T6 r=.ro∧w6.heap[r]?=some (.deferred (some [])))→Below w.heap.size w w7∧∀ r∈ms1,T6 r=.ro∧w7.heap[r]?=some (.deferred (some [])):=fun {T6 w6 w7} hc hB hT hm=>by
   have hsz:w.heap.size≤w6.heap.size:=hB.size
   refine ⟨hB.trans ⟨hc.os,hc.tape,hc.output,hc.size,fun b hb=>hc.same b (Zae hb hsz) ?_⟩,fun r hr=>?_⟩
   ·rw [hT b hb];exact h0 b
   ·obtain ⟨m1,m2⟩:=hm r hr
    exact ⟨m1,(hc.same r (zz.1 m2).1 (.inl m1)).trans m2⟩
  -- the closure
  have zy:∀ (T5:Tags) (w5:World),aV 0 σ4 T5 s5 a4 w5→Below w.heap.size w w5→(∀ b,b<w.heap.size→T5 b=T0 b)→(∀ r∈ms1,T5 r=.ro∧w5.heap[r]?=some (.deferred (some []))) →
    LeavesInM Fence.wide 0 P g a4.tmps (fun e w'=>∃ v T',e=.returned v∧Below w.heap.size w w'∧(∀ b,b<w.heap.size→T' b=T0 b)∧(∀ b,w'.heap.size≤b→T' b=.other)∧kG T' w' rs v) (dl++ms1.map jd) .returning w5:=by
   intro T5 w5 g1 g2 g3 g4
   unfold dR at h6
   rcases hdl with ⟨hn,rfl⟩|⟨d,gf,zs,os,hc,hos,hlt,rfl⟩
   ·rw [hn] at h6
    cases ZD.inj h6
    exact last T5 w5 g1 g2 g3 fun r hr=>(g4 r hr).2
   ·rw [hc] at h6
    simp only [hos,Option.bind_some] at h6
    split at h6
    case isFalse=>cases h6
    rename_i hcond
    obtain ⟨c1,c2,c3⟩:=hcond
    obtain ⟨m,hm',h6⟩:=bind_some h6
    obtain ⟨os',rfl⟩:∃ os',os=oe::os':=by
     cases os with
     |nil=>cases c1
     |cons x l=>cases c1;exact ⟨l,rfl⟩
    obtain ⟨d1,d2,d3⟩:=aon d gf zs hc
    obtain ⟨⟨E,v1⟩,v2⟩:=g1.eP hm'
    have hσ:∀ o∈oe::os',σ4 o=σ2 o:=fun o ho=>q3 o (hlt o ho)
    have hmap:(oe::os').map σ2=(oe::os').map σ4:=List.map_congr_left fun o ho=>(hσ o ho).symm
    have hlen':(os'.map σ4).length=(zs.map (·.2)).length:=by simp at c3 ⊢;exact c3
    rw [hmap]
    show LeavesInM Fence.wide 0 P g a4.tmps _ ({ target:=.fn (.func gf) (ptrs (σ4 oe::os'.map σ4)),args:=#[] }::ms1.map jd) .returning w5
    split at h6
    ·rename_i hm0
     subst hm0
     cases ZD.inj h6
     refine nY (by simp) d1 (w':=w5) ?_ (last T5 w5 g1 g2 g3 fun r hr=>(g4 r hr).2)
     rw [ZdK]
     exact d2 _ _ E w5 hlen' v1
    ·rename_i hm0
     simp only [List.tail_cons] at h6
     obtain ⟨_,b2⟩:=zI h6
     obtain ⟨x1,x2⟩:=g1.bV h6
     have hbox:∀ o∈oe::os',T5 (σ4 o)=.box o:=fun o ho=>by
      rcases Zaf.1 ho with rfl|ho
      ·exact v2
      ·obtain ⟨i,hi⟩:=ZaZ.1 ho
       have hi2:i<(zs.map (·.2)).length:=by rw [← hlen',Z2];exact (Z6.1 hi).1
       obtain ⟨bx,y1,y2,y3⟩:=b2 i o _ hi (ZS hi2)
       obtain ⟨_,_,_,_,y4,_⟩:=g1.boxes o bx y1
       rw [y4,y2];rfl
     refine nY (by simp) d1 (w':=nX (os'.map σ4) (zs.map (·.2)) w5) ?_ ?_
     ·rw [ZdK]
      refine d3 _ _ m E w5 hm0 hlen' v1 (fun i b z hi hz=>?_) ?_
      ·rw [zb] at hi
       cases ho:os'[i]? with
       |none=>rw [ho] at hi;cases hi
       |some o =>
        rw [ho] at hi
        cases hi
        obtain ⟨bx,y1,y2,y3⟩:=b2 i o z ho hz
        obtain ⟨arr,E',z1,z2,_⟩:=g1.boxes o bx y1
        exact ⟨arr,E',z1,by omega⟩
      ·show ((oe::os').map σ4).Nodup
       refine List.pairwise_map.2 (List.Pairwise.imp_of_mem (fun {x y} hx hy hxy hs=>hxy ?_) c2)
       have:=hbox x hx
       rw [hs,hbox y hy] at this
       cases this
       rfl
     ·obtain ⟨y1,y2⟩:=step x2 g2 g3 g4
      exact last T5 _ x1 y1 g3 fun r hr=>(y2 r hr).2
  -- the marks of the body,then what puts the failure into the variable
  have AU:∀ (u:FrameMode),u≠.run→(∀ (w5:World),aV 0 σ4 (drop T4 ms4) s4 a4 w5→Below w.heap.size w w5→(∀ r∈ms1,drop T4 ms4 r=.ro∧w5.heap[r]?=some (.deferred (some [])))→(∀ b,b<w.heap.size→drop T4 ms4 b=T0 b) →
    LeavesInM Fence.wide 0 P g a4.tmps (fun e w'=>∃ v T',e=.returned v∧Below w.heap.size w w'∧(∀ b,b<w.heap.size→T' b=T0 b)∧(∀ b,w'.heap.size≤b→T' b=.other)∧kG T' w' rs v) ({ target:=.fn (.func fn.AU) #[],args:=#[.pointer (some ⟨σ4 oe,0,none⟩)] }::(dl++ms1.map jd)) u w5) →
    LeavesInM Fence.wide 0 P g a4.tmps (fun e w'=>∃ v T',e=.returned v∧Below w.heap.size w w'∧(∀ b,b<w.heap.size→T' b=T0 b)∧(∀ b,w'.heap.size≤b→T' b=.other)∧kG T' w' rs v) a4.defers u w4:=by
   intro u hu hk
   rw [q5,hdef,← q3 oe hoe]
   refine rZ (B:=w2.heap.size) hu q6.2 (fun r hr=>⟨(q6.1 r hr).1,(q6.1 r hr).2.2⟩) fun w5 e1 e2 e3 e4 e5=>?_
   have g1:=q1.drop (fun r hr ⟨arr,E,q,e⟩=>by rw [(q6.1 r hr).2.2] at e;cases e) e5 e4
   refine hk w5 g1 (p1.trans ⟨e1,e2,e3,by omega,fun b hb=>e5 b (ale b (by omega))⟩) (fun r hr=>?_) fun b hb=>?_
   ·have hn:=ale r (hm1 r hr)
    obtain ⟨_,m2,m3⟩:=ac6.1 r hr
    refine ⟨by simp only [drop,if_neg hn];exact q4.ro r m2,?_⟩
    rw [e5 r hn,q4.same r (hm1 r hr) m2];exact m3
   ·simp only [drop,if_neg (ale b (by omega))];exact p2 b hb
  cases e with
  |exit i=>cases h5
  |normal =>
   cases ZD.inj h5
   refine AU .returning (by simp) fun w5 g1 g2 g4 g3=>?_
   exact nY (by simp) Mc.1 (w':=w5) (Mc.2.2 _ w5) (zy _ w5 g1 g2 g3 g4)
  |ret =>
   cases ZD.inj h5
   refine AU .returning (by simp) fun w5 g1 g2 g4 g3=>?_
   exact nY (by simp) Mc.1 (w':=w5) (Mc.2.2 _ w5) (zy _ w5 g1 g2 g3 g4)
  |nJ t m =>
   simp only [dY] at h5
   split at h5
   case isFalse=>cases h5
   rename_i ht
   subst ht
   obtain ⟨m0,hv,h5⟩:=bind_some h5
   refine AU (.panicking [{ v:=.iface fn.t (.int .i64 m),recovered:=false }]) (by simp) fun w5 g1 g2 g4 g3=>?_
   obtain ⟨⟨E,v1⟩,v2⟩:=g1.eP hv
   obtain ⟨_,x1,x2,_⟩:=g1.setVar h5
   obtain ⟨y1,y2⟩:=step x2 g2 g3 g4
   exact nY (by simp) Mc.1 (Mc.2.1 _ m0 m E w5 v1) (zy _ _ x1 y1 g3 y2)
 -- the defer statements
 have heval:∀ (b:Act) (f:Nat),b.eval (.func f)=.func (.func f) #[] #[]:=fun _ _=>rfl
 have alf:∀ {σ:Nat→Nat} {T:Tags} {st:St} {b:Act} {w:World} {s p:Nat},aV 0 σ T st b w→varOf st s=some p→p<st.boxes.length∧b.eval (.tmp s)=.pointer (some ⟨σ p,0,none⟩):=by
  intro σ T st b w s p hs hv
  unfold varOf at hv
  split at hv
  case h_2=>cases hv
  rename_i o' ho'
  cases ZD.inj hv
  have hlt:s<b.tmps.size:=by rw [hs.size];exact (Z6.1 ho').1
  have:=hs.slots s _ _ ho' (zj hlt)
  refine ⟨this.1,?_⟩
  have e:b.eval (.tmp s)=b.tmps[s]:=by simp [Act.eval,hlt]
  rw [e]
  exact this.2
 -- the statement that defers what turns a failure into an error
 have SB:∀ {ops:List Oper} {cu:Array Oper} {Q:Exit→Act→World→Prop} {σ2:Nat→Nat} {T2:Tags} {a2:Act} {w2:World},Oo fn ops=true→aV 0 σ2 T2 s1 a2 w2 →
   Q .normal { a2 with defers:={ target:=.fn (.func fn.AU) #[],args:=#[.pointer (some ⟨σ2 oe,0,none⟩)] }::a2.defers } w2→wpListIn Fence.wide 0 P cu Q ops a2 w2:=by
  intro ops cu Q σ2 T2 a2 w2 hr hs hq
  unfold Oo at hr
  split at hr
  case h_2=>cases hr
  rename_i o
  simp only [ZZ] at hr
  obtain ⟨⟨hg,hd⟩,hr⟩:=hr
  split at hr
  case h_2=>cases hr
  rename_i f' s hop
  simp only [ZZ,beq_iff_eq] at hr
  obtain ⟨rfl,rfl⟩:=hr
  obtain ⟨c',ats,hop⟩:∃ c':Call,∃ _:Unit,o.op=.defer c'∧c'.callee=.value (.func fn.AU)∧c'.args=#[.tmp fn.e]:=by
   unfold Gg at hop
   split at hop
   case h_2=>cases hop
   rename_i c' hc'
   split at hop
   case h_2=>cases hop
   rename_i y hy
   simp only [ZD.injEq,ZaD.injEq] at hop
   obtain ⟨rfl,h2⟩:=hop
   exact ⟨c',(),hc',hy,by rw [← h2]⟩
  obtain ⟨o1,o2,o3⟩:=hop
  have hw:Region.wanted o (yielded cu a2.tmps)=true:=by simp only [Region.wanted,Zbn.1 hg]
  simp only [wpListIn,hw,↓reduceIte]
  refine ⟨fun f _=>trivial,?_⟩
  have hrun:(o.semAt Fence.wide.round a2.eval).run P w2=.ok (.defer { target:=.fn (.func fn.AU) #[],args:=#[.pointer (some ⟨σ2 oe,0,none⟩)] }) w2:=by
   show (execOp a2.eval o).run P w2=_
   simp [execOp,o1,resolve,o2,o3,heval,Deferred.ofValue,(alf hs ho).2]
  rw [hrun,Oper.uponIn_defer]
  have hd':o.dst=none:=by simpa using hd
  rw [hd']
  exact hq
 have ac7:∀ {ops:List Oper} {cu:Array Oper} {Q:Exit→Act→World→Prop} {σ2:Nat→Nat} {T2:Tags} {a2:Act} {w2:World} {d gf:Nat} {zs:List (Nat×List PV)} {os:List Nat},fn.zy=some (d,gf,zs)→WC P fn ops=true→aV 0 σ2 T2 s0 a2 w2→fH s1 d gf=some os →
   (∀ T3 a3,aV 0 σ2 T3 s1 a3 w2→Still T2 T3→(∀ o∈os,o<s1.boxes.length)→a3.defers={ target:=.fn (.func gf) (ptrs (os.map σ2)),args:=#[] }::a2.defers→Q .normal a3 w2)→wpListIn Fence.wide 0 P cu Q ops a2 w2:=by
  intro ops cu Q σ2 T2 a2 w2 d gf zs os hc hr hs hos hq
  unfold WC at hr
  split at hr
  case h_2=>cases hr
  rename_i oa ob
  rw [hc] at hr
  simp only [ZZ] at hr
  obtain ⟨⟨⟨⟨hg1,hm1⟩,hg2⟩,hd2⟩,hr⟩:=hr
  split at hr
  case h_2=>cases hr
  rename_i s hop
  simp only [beq_iff_eq] at hr
  subst hr
  unfold oJ.begun at hm
  rw [hc] at hm
  simp only at hm
  obtain ⟨v,T3,h1,h2,h3⟩:=xQ hs hm1 hm
  have hw1:∀ f,Region.wanted oa f=true:=fun f=>by simp only [Region.wanted,Zbn.1 hg1]
  have hw2:∀ f,Region.wanted ob f=true:=fun f=>by simp only [Region.wanted,Zbn.1 hg2]
  simp only [wpListIn,hw1,hw2,↓reduceIte]
  refine zW (.inl rfl) hm1 (h1 w2 (rQ.refl T2 w2)) (.inl rfl) ?_
  obtain ⟨c',o1,o2,o3⟩:∃ c':Call,ob.op=.defer c'∧c'.callee=.value (.tmp s)∧c'.args=#[]:=by
   unfold Gg at hop
   split at hop
   case h_2=>cases hop
   rename_i c' hc'
   split at hop
   case h_2=>cases hop
   rename_i y hy
   simp only [ZD.injEq,ZaD.injEq] at hop
   obtain ⟨rfl,h2⟩:=hop
   exact ⟨c',hc',hy,by simpa using h2⟩
  -- what the closure holds
  unfold fH at hos
  split at hos
  case h_2=>cases hos
  rename_i g' caps hsl
  split at hos
  case isFalse=>cases hos
  rename_i hgg
  subst hgg
  have aoo:=ac4 hos
  subst aoo
  have hlt:s<(a2.put oa.dst v).tmps.size:=by rw [h2.size];exact (Z6.1 hsl).1
  obtain ⟨arr,e1,e2,e3⟩:=h2.slots s _ _ hsl (zj hlt)
  have hcr:∀ (k:Nat) o,os[k]?=some o→o<s1.boxes.length∧arr[k]?=some (.pointer (some ⟨σ2 o,0,none⟩)):=fun k o hk=>by
   have hk':k<arr.size:=by rw [e2,Z2];exact (Z6.1 hk).1
   have:=e3 k (.aO o 0) _ (by rw [zb,hk];rfl) (zj hk')
   exact ⟨this.1,by rw [zj hk',this.2]⟩
  have harr:arr=ptrs (os.map σ2):=by
   refine Array.ext_getElem? fun k=>?_
   unfold ptrs
   refine Eq.trans ?_ ZaL.symm
   rw [List.map_map,zb]
   cases hk:os[k]? with
   |some o=>rw [(hcr k o hk).2];rfl
   |none =>
    have:=Zdc.1 hk
    rw [Z2] at e2
    rw [Array.getElem?_eq_none (by omega)]
    rfl
  have hev:(a2.put oa.dst v).eval (.tmp s)=.func (.func g') #[] arr:=by
   have e:(a2.put oa.dst v).eval (.tmp s)=(a2.put oa.dst v).tmps[s]:=by simp [Act.eval,hlt]
   rw [e,e1]
  refine ⟨fun f _=>trivial,?_⟩
  have hrun:(ob.semAt Fence.wide.round (a2.put oa.dst v).eval).run P w2=.ok (.defer { target:=.fn (.func g') arr,args:=#[] }) w2:=by
   show (execOp (a2.put oa.dst v).eval ob).run P w2=_
   simp [execOp,o1,resolve,o2,o3,hev,Deferred.ofValue]
  rw [hrun,Oper.uponIn_defer]
  have hd':ob.dst=none:=by simpa using hd2
  rw [hd']
  refine hq T3 _ (h2.Ag _) h3 (fun o ho=>?_) (by rw [← harr,← put_defers (a:=a2) (d:=oa.dst) (v:=v)];rfl)
  obtain ⟨k,hk⟩:=ZaZ.1 ho
  exact (hcr k o hk).1
 -- the whole
 unfold mD at k3
 split at k3
 case h_2=>cases k3
 rename_i r0 id1 o1 c1
 simp only [ZZ] at k3
 obtain ⟨m0,k3⟩:=k3
 have aop:=hR.grow _ _ _ _ _ m0 hp
 cases hc:fn.zy with
 |none =>
  rw [hc] at k3
  simp only [ZZ] at k3
  obtain ⟨m1,m2⟩:=k3
  have e1:s1=s0:=by unfold oJ.begun at hm;rw [hc] at hm;exact (ZD.inj hm).symm
  subst e1
  have gb:=hR.grow _ _ _ _ _ m2 hb
  refine wpIn_seq ?_
  refine wpIn_mono (hR.wp (F:=Fence.wide) (L:=0) (C:=⟨s4.ys,none,jU T0 w⟩) (n:=0) (.inl rfl) (Ctx.pY _) hC r0 fn.pre _ _ s1 m0 hp rfl gb.2.1 _ T0 _ w Fz hJ) ?_
  rintro x a1 w1 ⟨rfl,σ1,T1,ms1,q1,q2,q3,q4,q5,q6⟩
  refine wpIn_seq (wpIn_region_list (SB m1 q1 ?_))
  have hoe:=(alf q1 ho).1
  exact body c1 σ1 T1 _ w1 ms1 [] m2 (q1.Ag _) q2 q4 aop.2.2 gb.2.1 q6 (by simp only [q5,ZaE,Za4]) (.inl ⟨hc,rfl⟩) hoe
 |some cl =>
  obtain ⟨d,gf,zs⟩:=cl
  rw [hc] at k3
  simp only at k3
  split at k3
  case h_2=>cases k3
  rename_i id2 o2 rest
  simp only [ZZ] at k3
  obtain ⟨⟨m1,m1'⟩,m2⟩:=k3
  have hmo:s1.ys=s0.ys∧s1.stop=s0.stop:=by
   have hm:=hm
   unfold oJ.begun at hm
   rw [hc] at hm
   have:=rW hm
   exact ⟨this.2.1,this.2.2⟩
  have gb:=hR.grow _ _ _ _ _ m2 hb
  obtain ⟨os,hos⟩:∃ os,fH s1 d gf=some os:=by
   have h6:=h6
   unfold dR at h6
   rw [hc] at h6
   obtain ⟨os,h,_⟩:=bind_some h6
   exact ⟨os,h⟩
  refine wpIn_seq ?_
  refine wpIn_mono (hR.wp (F:=Fence.wide) (L:=0) (C:=⟨s4.ys,none,jU T0 w⟩) (n:=0) (.inl rfl) (Ctx.pY _) hC r0 fn.pre _ _ s0 m0 hp rfl (by rw [← hmo.1];exact gb.2.1) _ T0 _ w Fz hJ) ?_
  rintro x a1 w1 ⟨rfl,σ1,T1,ms1,q1,q2,q3,q4,q5,q6⟩
  refine wpIn_seq (wpIn_region_list (ac7 hc m1 q1 hos ?_))
  intro T3 a3 g1 g2 g3 g4
  refine wpIn_seq (wpIn_region_list (SB m1' g1 ?_))
  have hoe:=(alf g1 ho).1
  refine body rest σ1 T3 _ w1 ms1 [{ target:=.fn (.func gf) (ptrs (os.map σ1)),args:=#[] }] m2 (g1.Ag _) (qg (k:=0) h0 (g2.pV w1) q2) (q4.trans (g2.pV w1).stays) (hmo.2.trans aop.2.2) gb.2.1 ⟨fun r hr=>?_,q6.2⟩ ?_ (.inr ⟨d,gf,zs,os,hc,hos,g3,rfl⟩) hoe
  ·obtain ⟨x1,x2,x3⟩:=q6.1 r hr
   exact ⟨x1,g2.ro r x2,x3⟩
  ·simp only [g4,q5,ZaE,Za3,Za4]
end
def tY (P:Program)(env:Env):Prop:=∀ f d,env f=some d→match d with
 |.code fn=>bT P f fn=true
 |.ext g=>∀ args rs,g args=some rs→callable P f=true∧nP P f args rs
 |.Kv h=>callable P f=true∧N7 P f h
 |.nJ h=>(∀ args,h args=some none→callable P f=true∧nP P f args [])∧∀ args t n,h args=some (some (t,n))→callable P f=true∧RF P f args t n
 |.dfn fn=>BJ P f fn=true∧Ia P fn.AU fn.t∧∀ d g zs,fn.zy=some (d,g,zs)→Af P g (zs.map (·.2))
section
variable {P:Program}{L K:Nat}{σ σ':Nat→Nat}{T T' T1 T2:Tags}{st st' st1:St}{a a1:Act}{w w1:World}{r:Root}
 {rec:ay→St→Option (Ex×St)} {env:Env}
theorem SC (hR:qH P rec)(hE:tY P env):gQ P rec env:=by
 refine ⟨?_,(fun f h e=>hE f _ e),?_,?_⟩
 rotate_left
 ·intro f x args rs out h
  unfold tu at h
  split at h
  ·rename_i fn hfn
   have hok:bT P f fn=true:=hE f _ hfn
   split at h
   case isFalse=>cases h
   replace h:=bind_some h
   obtain ⟨⟨e,st⟩,h1,h⟩:=h
   simp only at h
   refine ⟨(wC hok).1,?_⟩
   split at h
   ·cases h
   ·cases h
   ·rename_i hne hne2
    exact WB hR hok (fun i e=>hne i e) (fun t n e=>hne2 t n e) h1 h
  ·cases h
 ·intro f args t n h
  unfold Fg at h
  split at h
  ·rename_i g hg
   exact (hE f _ hg).2 args t n h
  ·rename_i fn hfn
   have hok:bT P f fn=true:=hE f _ hfn
   split at h
   case isFalse=>cases h
   rename_i hl
   obtain ⟨⟨e,st⟩,h1,h⟩:=bind_some h
   refine ⟨(wC hok).1,?_⟩
   cases e with
   |nJ t' n' =>
    simp only [ZD.injEq,ZaD.injEq] at h
    obtain ⟨rfl,rfl⟩:=h
    exact ac3 hR hok hl.1 h1
   |_=>cases h
  ·cases h
 intro f args rs h
 unfold jk at h
 split at h
 ·rename_i g hg
  exact hE f _ hg args rs h
 ·rename_i fn hfn
  have hok:bT P f fn=true:=hE f _ hfn
  split at h
  case isFalse=>cases h
  rename_i hl
  replace h:=bind_some h
  obtain ⟨⟨e,st⟩,h1,h⟩:=h
  simp only at h
  refine ⟨(wC hok).1,?_⟩
  split at h
  ·cases h
  ·cases h
  ·rename_i hne hne2
   exact Z4 hR hok hl (fun i e=>hne i e) (fun t n e=>hne2 t n e) h1 h
 ·cases h
 ·rename_i g hg
  obtain ⟨r,h1,h⟩:=bind_some h
  cases r with
  |some p=>cases h
  |none=>cases ZD.inj h;exact (hE f _ hg).1 args h1
 ·rename_i fn hfn
  obtain ⟨q1,q2,q3⟩:BJ P f fn=true∧Ia P fn.AU fn.t∧∀ d g zs,fn.zy=some (d,g,zs)→Af P g (zs.map (·.2)):=hE f _ hfn
  refine ⟨(SA q1).1,?_⟩
  split at h
  case isFalse=>cases h
  rename_i hl
  obtain ⟨⟨e0,s0⟩,h1,h⟩:=bind_some h
  simp only at h
  split at h
  case isFalse=>cases h
  rename_i he0
  subst he0
  obtain ⟨s1,h2,h⟩:=bind_some h
  obtain ⟨⟨e,s4⟩,h3,h⟩:=bind_some h
  exact ac5 hR q1 q2 q3 hl h1 h2 h3 h
 ·cases h
theorem ac8 (hE:tY P env):BI P env:=fun f fn hfn=>by
 have hok:bT P f fn=true:=hE f _ hfn
 obtain ⟨k0,g,c,k1,k2,k3,k4,k5,k6⟩:=wC hok
 refine ⟨k0,g,c,k1,k2,k3,k4,k5,fun he=>?_⟩
 have:fn.results=[]:=by simpa using he
 rw [this] at k6
 have:g.results.toList=[]:=by
  match h:g.results.toList,k6 with
  |[],_=>rfl
  |_::_,k6=>simp [lK] at k6
 exact Array.toList_eq_nil_iff.1 this
theorem YF (hE:tY P env):∀ n,qH P (vm env n)
 |0=>⟨(fun _ _ _ _ _ _ h=>by simp [vm] at h),(fun _ _ _ _ _ _ _ _ h=>by simp [vm] at h),(fun _ _ _ _ _ _ _ _ _ h=>by simp [vm] at h),(fun _ _ _ _ _ _ _ _ _ _ _ h=>by simp [vm] at h)⟩
 |n+1=>step_ok (YF hE n) (ac8 hE) (SC (YF hE n) hE)
theorem uZ (hE:tY P env){n f:Nat}{args:List PV}{rs:List nC}(h:NH env n f args=some rs):callable P f=true∧nP P f args rs:=(SC (YF hE n) hE).1 f args rs h
end
end Go.Proofs.YtioijcfcehhmdaaGreatDoor
namespace Go.Proofs.YtioijcfcehhmdaaGreatDoor
abbrev Rec:=ay→St→Option (Ex×St)
def RLe (f g:Rec):Prop:=∀ c st r,f c st=some r→g c st=some r
open Classical in
noncomputable def den (env:Env)(c:ay)(st:St):Option (Ex×St) :=
 if h:∃ n r,vm env n c st=some r then some (Zdi (ZbV h)) else none
structure Good {α:Type}(env:Env)(F:Rec→Option α):Prop where
 mono:∀ f g,RLe f g→∀ r,F f=some r→F g=some r
 cont:(∀ m n,m≤n→RLe (vm env m) (vm env n))→∀ r,F (den env)=some r→∃ n,F (vm env n)=some r
section
variable {α β:Type}{env:Env}
theorem Good.const (x:Option α):Good env (fun _=>x):=⟨fun _ _ _ _ h=>h,fun _ _ h=>⟨0,h⟩⟩
theorem Good.app (c:ay)(st:St):Good env (fun rec=>rec c st):=⟨fun _ _ h r=>h c st r,fun _ r h=>by
 unfold den at h
 split at h
 case isFalse=>cases h
 rename_i hx
 cases h
 exact ⟨_,ZbV (ZbV hx)⟩⟩
theorem Good.bind {F:Rec→Option α}{G:α→Rec→Option β}(hF:Good env F)(hG:∀ a,Good env (G a)):Good env (fun rec=>(F rec).bind fun a=>G a rec):=⟨fun f g h r e=>by
 obtain ⟨a,h1,h2⟩:=Za6.1 e
 exact Za6.2 ⟨a,hF.mono f g h a h1,(hG a).mono f g h r h2⟩,fun hm r e=>by
 obtain ⟨a,h1,h2⟩:=Za6.1 e
 obtain ⟨m,h3⟩:=hF.cont hm a h1
 obtain ⟨n,h4⟩:=(hG a).cont hm r h2
 exact ⟨max m n,Za6.2 ⟨a,hF.mono _ _ (hm m _ (Nat.le_max_left m n)) a h3,(hG a).mono _ _ (hm n _ (ZdZ m n)) r h4⟩⟩⟩
theorem Good.map {F:Rec→Option α}{g:α→β}(hF:Good env F):Good env (fun rec=>(F rec).map g):=by
 have:=hF.bind (G:=fun a _=>some (g a)) fun a=>Good.const _
 refine ⟨fun f g' h r e=>?_,fun hm r e=>?_⟩
 ·have:=this.mono f g' h r (by simpa [Zcp,Zcu] using e)
  simpa [Zcp,Zcu] using this
 ·obtain ⟨n,hn⟩:=this.cont hm r (by simpa [Zcp,Zcu] using e)
  exact ⟨n,by simpa [Zcp,Zcu] using hn⟩
theorem Good.jk (f:Nat)(args:List PV):Good env (fun rec=>jk rec env f args):=by
 unfold Go.Proofs.YtioijcfcehhmdaaGreatDoor.jk
 split
 ·exact Good.const _
 ·split
  ·refine (Good.app _ _).bind fun a=>?_
   obtain ⟨e,st⟩:=a
   cases e<;>exact Good.const _
  ·exact Good.const _
 ·exact Good.const _
 ·exact Good.const _
 ·split
  ·refine (Good.app _ _).bind fun a=>?_
   split
   ·exact (Good.const _).bind fun st0=>(Good.app _ _).bind fun r=>Good.const _
   ·exact Good.const _
  ·exact Good.const _
 ·exact Good.const _
theorem Good.Fg (f:Nat)(args:List PV):Good env (fun rec=>Fg rec env f args):=by
 unfold Go.Proofs.YtioijcfcehhmdaaGreatDoor.Fg
 split
 ·exact Good.const _
 ·split
  ·exact (Good.app _ _).bind fun a=>Good.const _
  ·exact Good.const _
 ·exact Good.const _
theorem Good.kM (f:Nat)(args:List PV)(s:Option Nat):Good env (fun rec=>kM rec env f args s):=by
 unfold Go.Proofs.YtioijcfcehhmdaaGreatDoor.kM
 split
 ·split
  ·refine (Good.app _ _).bind fun a=>?_
   obtain ⟨e,st⟩:=a
   cases e<;>exact Good.const _
  ·exact Good.const _
 ·exact Good.const _
theorem Good.kE (d f:Nat)(args:List bU)(caps:List AV)(st:St):Good env (fun rec=>kE rec env d f args caps st):=by
 unfold Go.Proofs.YtioijcfcehhmdaaGreatDoor.kE
 exact (Good.const _).bind fun l=>(Good.const _).bind fun k=>(Good.jk f _).bind fun rs=>Good.const _
theorem Good.tu (f:Nat)(x:mg)(args:List PV):Good env (fun rec=>tu rec env f x args):=by
 unfold Go.Proofs.YtioijcfcehhmdaaGreatDoor.tu
 split
 ·split
  ·refine (Good.app _ _).bind fun a=>?_
   obtain ⟨e,st⟩:=a
   cases e<;>exact Good.const _
  ·exact Good.const _
 ·exact Good.const _
theorem Good.jC (d f:Nat)(x:bU)(args:List bU)(caps:List AV)(st:St):Good env (fun rec=>jC rec env d f x args caps st):=by
 unfold Go.Proofs.YtioijcfcehhmdaaGreatDoor.jC rP
 exact (Good.const _).bind fun l=>(Good.const _).bind fun k=>(Good.const _).bind fun q=>(Good.tu f _ _).bind fun r=>Good.const _
theorem Good.act (o:iG)(st:St):Good env (fun rec=>act rec env o st):=by
 cases o
 case call d f args=>exact Good.kE d f args [] st
 case lG d x args =>
  unfold Go.Proofs.YtioijcfcehhmdaaGreatDoor.act
  simp only
  split
  ·exact Good.kE _ _ _ _ _
  ·exact Good.kE _ _ _ _ _
  ·exact Good.const _
 case pk d f x =>
  unfold Go.Proofs.YtioijcfcehhmdaaGreatDoor.act
  simp only
  split
  ·exact (Good.const _).bind fun b=>(Good.jk f _).bind fun rs=>Good.const _
  ·exact Good.const _
 case lin d f x args=>exact Good.jC d f x args [] st
 case linv d g x args =>
  unfold Go.Proofs.YtioijcfcehhmdaaGreatDoor.act
  simp only
  split
  ·exact Good.jC _ _ _ _ _ _
  ·exact Good.jC _ _ _ _ _ _
  ·exact Good.const _
 all_goals exact Good.const _
theorem Good.op1 (o:iG)(st:St):Good env (fun rec=>op1 rec env o st):=by
 unfold Go.Proofs.YtioijcfcehhmdaaGreatDoor.op1
 split
 ·exact Good.act o st
 ·exact Good.const _
theorem Good.op (o:iG)(st:St):Good env (fun rec=>op rec env o st):=by
 unfold Go.Proofs.YtioijcfcehhmdaaGreatDoor.op
 split
 ·split
  ·split
   ·exact Good.op1 _ _
   ·exact Good.const _
  ·exact Good.const _
  ·exact Good.const _
 ·exact Good.op1 _ _
theorem Good.ops:∀ (l:List iG) (st:St),Good env (fun rec=>ops rec env l st)
 |[],st=>Good.const _
 |o::l,st=>(Good.op o st).bind fun st=>Good.ops l st
theorem Good.rounds (slots:List AV)(ps:List Nat)(assign body:ay)(nb:Nat):∀ (xs:List (List PV)) (k:Nat) (st:St),Good env (fun rec=>rounds rec slots ps assign body nb k xs st)
 |[],k,st=>by unfold Go.Proofs.YtioijcfcehhmdaaGreatDoor.rounds;exact Good.const _
 |x::xs,k,st=>by
  unfold Go.Proofs.YtioijcfcehhmdaaGreatDoor.rounds
  refine (Good.const _).bind fun sl=>(Good.app _ _).bind fun a=>?_
  obtain ⟨e,st⟩:=a
  cases e
  case normal =>
   refine (Good.app _ _).bind fun a=>?_
   obtain ⟨e,st⟩:=a
   cases e
   case normal =>
    simp only
    split
    ·exact Good.rounds slots ps assign body nb xs (k+1) _
    ·exact Good.const _
   all_goals exact Good.const _
  all_goals exact Good.const _
theorem Good.ranged (g:bU)(ps:List Nat)(assign body:ay)(st:St):Good env (fun rec=>ranged rec env g ps assign body st):=by
 unfold Go.Proofs.YtioijcfcehhmdaaGreatDoor.ranged
 refine (Good.const _).bind fun v=>?_
 cases v<;>try exact Good.const _
 simp only
 refine (Good.kM _ _ _).bind fun xs=>(Good.rounds _ _ _ _ _ _ _ _).bind fun r=>?_
 obtain ⟨r,st1⟩:=r
 cases r with
 |none=>exact Good.const _
 |some p =>
  obtain ⟨e,k⟩:=p
  refine (Good.kM _ _ _).bind fun xs=>(Good.rounds _ _ _ _ _ _ _ _).bind fun r=>?_
  obtain ⟨r,st1⟩:=r
  cases r<;>exact Good.const _
theorem Good.nO (keep:List Nat)(vo:List iG)(st:St)(x:iQ):Good env (fun rec=>nO rec env keep vo st x):=by
 unfold Go.Proofs.YtioijcfcehhmdaaGreatDoor.nO
 exact (Good.ops _ _).bind fun s=>Good.const _
theorem Good.agree (keep:List Nat)(vo:List iG)(st s:St):∀ l:List iQ,Good env (fun rec=>agree s (l.map (Go.Proofs.YtioijcfcehhmdaaGreatDoor.nO rec env keep vo st)))
 |[]=>Good.const _
 |x::xs=>by
  simp only [Zaj,Go.Proofs.YtioijcfcehhmdaaGreatDoor.agree]
  refine (Good.nO keep vo st x).bind fun s'=>?_
  split
  ·exact Good.agree keep vo st s xs
  ·exact Good.const _
theorem Good.lV (keep:List Nat)(vo:List iG)(st:St)(l:List iQ):Good env (fun rec=>lV rec env keep vo st l):=by
 cases l with
 |nil=>exact Good.const _
 |cons x xs =>
  simp only [Go.Proofs.YtioijcfcehhmdaaGreatDoor.lV]
  exact (Good.nO keep vo st x).bind fun s=>Good.agree keep vo st s xs
theorem Good.step (c:ay)(st:St):Good env (fun rec=>step rec env c st):=by
 cases c
 case ops l=>exact (Good.ops l st).map
 case AQ fz _ _ _ l=>exact (Good.ops l (fz.foldl St.jh st)).map
 case drs fz keep vo alts=>exact (Good.lV keep vo (fz.foldl St.jh st) alts).map
 case lend d ks l =>
  simp only [Go.Proofs.YtioijcfcehhmdaaGreatDoor.step]
  split
  ·split
   ·exact ((Good.ops l _).bind fun s=>Good.const _).map
   ·exact Good.const _
  ·exact Good.const _
 case seq a b =>
  refine (Good.app _ _).bind fun x=>?_
  obtain ⟨e,st⟩:=x
  cases e
  case normal=>exact Good.app _ _
  all_goals exact Good.const _
 case cond c a b =>
  refine (Good.const _).bind fun v=>?_
  cases v<;>try exact Good.const _
  simp only
  split
  ·exact Good.app _ _
  ·exact Good.app _ _
 case block i a =>
  refine (Good.app _ _).bind fun x=>?_
  obtain ⟨e,st⟩:=x
  exact Good.const _
 case loop=>exact Good.app _ _
 case scp=>exact Good.app _ _
 case round keep nb a =>
  refine (Good.const _).bind fun s=>(Good.app _ _).bind fun x=>?_
  obtain ⟨e,st⟩:=x
  cases e
  case normal=>exact Good.app _ _
  all_goals exact Good.const _
 case rng g ps assign body=>exact Good.ranged g ps assign body st
 case clean pre post a =>
  refine (Good.const _).bind fun s=>(Good.app _ _).bind fun x=>?_
  obtain ⟨e,st⟩:=x
  exact Good.const _
 case Dk l d f args =>
  refine (Good.ops l st).bind fun st1=>(Good.const _).bind fun vs=>(Good.Fg f vs).bind fun r=>?_
  cases r with
  |some p=>exact Good.const _
  |none=>exact (Good.act _ _).map
 all_goals exact Good.const _
theorem YG (env:Env):∀ n,RLe (vm env n) (vm env (n+1))
 |0,c,st,r,h=>by simp [vm] at h
 |n+1,c,st,r,h=>(Good.step (env:=env) c st).mono _ _ (YG env n) r h
theorem SE (env:Env)(m n:Nat)(h:m≤n):RLe (vm env m) (vm env n):=by
 induction h with
 |refl=>exact fun _ _ _ h=>h
 |step _ ih=>exact fun c st r h=>YG env _ c st r (ih c st r h)
theorem Md {n:Nat}{c:ay}{st:St}{r:Ex×St}(h:vm env n c st=some r):den env c st=some r:=by
 have hx:∃ n r,vm env n c st=some r:=⟨n,r,h⟩
 unfold den
 rw [dif_pos hx]
 have h2:=ZbV (ZbV hx)
 have h3:=SE env _ _ (Nat.le_max_left n (Zdi hx)) c st r h
 have h4:=SE env _ _ (ZdZ n (Zdi hx)) c st _ h2
 rw [h3] at h4
 exact h4.symm
theorem Me {c:ay}{st:St}{r:Ex×St}(h:den env c st=some r):∃ n,vm env n c st=some r :=
 (Good.app c st).cont (SE env) r h
theorem ac9 (env:Env)(n:Nat):RLe (vm env n) (den env):=fun _ _ _ h=>Md h
theorem mO (env:Env)(c:ay)(st:St):den env c st=step (den env) env c st:=by
 apply Option.ext
 intro r
 constructor
 ·intro h
  obtain ⟨n,hn⟩:=Me h
  cases n with
  |zero=>simp [vm] at hn
  |succ n=>exact (Good.step c st).mono _ _ (ac9 env n) r hn
 ·intro h
  obtain ⟨n,hn⟩:=(Good.step c st).cont (SE env) r h
  exact Md (n:=n+1) hn
noncomputable def cal (env:Env)(f:Nat)(args:List PV):Option (List nC):=jk (den env) env f args
noncomputable def aor (env:Env)(f:Nat)(x:mg)(args:List PV):Option (List nC×Option (List PV)):=tu (den env) env f x args
theorem lN {f:Nat}{args:List PV}{rs:List nC}(h:cal env f args=some rs):∃ n,NH env n f args=some rs :=
 (Good.jk (env:=env) f args).cont (SE env) rs h
theorem KL {n f:Nat}{args:List PV}{rs:List nC}(h:NH env n f args=some rs):cal env f args=some rs :=
 (Good.jk (env:=env) f args).mono _ _ (ac9 env n) rs h
end
end Go.Proofs.YtioijcfcehhmdaaGreatDoor
