/-
  Part 4 of the texts that the statement stands on.
-/
import Derived.Test.YtioijcfcehhmdaaGreatDoorZ3
import Derived.RangeFuncRecord
import Derived.IntWalk
import Derived.Sort.Defs
import Derived.Lib.BitFns
import Derived.Shelf.Lays7
import Derived.Ground.Names7Prog
import Derived.Test.YtioijcfcehhmdaaGreatDoorProg
import Derived.Shelf.Spec.TrailingZeros
import Derived.ProofKit
import Derived.SizedLaws
import Derived.OpenShut
import Derived.Deep.Strs
set_option linter.all false
namespace Go.Proofs.YtioijcfcehhmdaaGreatDoor
open Go.RowKit
section
variable {P:Program} {F:Fence} {C:Ctx} {n L nb:Nat} {σ σ':Nat→Nat} {T T' T1 T2:Tags} {st st' st1:St} {a a1:Act} {w w1:World} {o:Oper} {vo:VOp} {y:Operand} {x:Opd} {d:Nat}
 {rec:VCode→St→Option (Ex × St)} {env:Env} {next:Act→World→Prop} {Q:Exit→Act→World→Prop} {opl:Array Oper} {ds:List Deferred} {e:Ex}
theorem map_some' {α β:Type} {x:Option α} {f:α→β} {y:β} (h:x.map f=some y):∃ z,x=some z∧f z=y:=by
 cases x with
 |none=>cases h
 |some z=>exact ⟨z,rfl,Option.some.inj h⟩
theorem head_same {keep:List Nat} (h0:st.head keep nb=some st1):st1.boxes.length=nb∧st1.ys=st.ys∧st1.stop=st.stop:=by
 unfold St.head at h0
 simp only at h0
 split at h0
 ·rename_i hc
  simp only [Bool.and_eq_true,decide_eq_true_eq] at hc
  have h0:=Option.some.inj h0
  subst h0
  exact ⟨by simp;omega,rfl,rfl⟩
 ·cases h0
theorem step_growR (hR:RecOk P rec) {c:Code} {keep:List Nat} {vc:VCode} (hm:mC P c vc=true) (h:step rec env (.round keep nb vc) st=some (e,st')):Grow nb st st':=by
 simp only [step] at h
 replace h:=bind_some h
 obtain ⟨st0,h0,h⟩:=h
 replace h:=bind_some h
 obtain ⟨⟨e1,st1⟩,h1,h⟩:=h
 have hh:st0.boxes.length=nb∧st0.ys=st.ys∧st0.stop=st.stop:=by
  unfold St.head at h0
  simp only at h0
  split at h0
  ·rename_i hc
   simp only [Bool.and_eq_true,decide_eq_true_eq] at hc
   have h0:=Option.some.inj h0
   subst h0
   exact ⟨by simp;omega,rfl,rfl⟩
  ·cases h0
 have g1:=hR.grow _ _ _ _ _ hm h1
 have g1':Grow nb st st1:=by
  refine ⟨by rw [← hh.1];exact g1.1,by rw [← hh.2.1];exact g1.2.1,g1.2.2.trans hh.2.2⟩
 simp only at h
 split at h
 ·exact g1'.trans (hR.growR _ _ _ _ _ _ _ hm h)
 ·cases Option.some.inj h;exact g1'
theorem step_grow (hR:RecOk P rec) {c:Code} {vc:VCode} (hm:mC P c vc=true) (h:step rec env vc st=some (e,st')):Grow st.boxes.length st st':=by
 cases vc with
 |skip=>simp only [step,Option.some.injEq,Prod.mk.injEq] at h;rw [← h.2];exact (Mono.refl _).grow
 |ops l =>
  simp only [step] at h
  obtain ⟨st1,h1,h2⟩:=map_some' h
  cases h2;exact ops_grow h1
 |drw fz acts fin last l =>
  simp only [step] at h
  obtain ⟨st1,h1,h2⟩:=map_some' h
  cases h2
  have gz:=Mono.freezeAts fz (Mono.refl st)
  exact ((Mono.grow gz).trans (ops_grow h1)).mono gz.1
 |drs fz keep vo alts =>
  simp only [step] at h
  obtain ⟨st1,h1,h2⟩:=map_some' h
  cases h2
  have gz:=Mono.freezeAts fz (Mono.refl st)
  have g:=runAlts_facts h1
  exact ((Mono.grow gz).trans ⟨g.1,g.2.1,g.2.2⟩).mono gz.1
 |lend d ks l =>
  simp only [step] at h
  split at h
  case h_2=>cases h
  split at h
  case isFalse=>cases h
  obtain ⟨st3,h1,h2⟩:=map_some' h
  cases h2
  obtain ⟨st2,h3,h4⟩:=bind_some h1
  have gz:=(Mono.refl st).freeze (.slot d)
  exact ((gz.grow.trans (ops_grow h3)).mono gz.1).lendBack h4
 |seq a b =>
  cases c<;>first|(simp [mC] at hm;done)|skip
  rename_i c1 c2
  simp only [mC,Bool.and_eq_true] at hm
  simp only [step] at h
  replace h:=bind_some h
  obtain ⟨⟨e1,st1⟩,h1,h⟩:=h
  have g1:=hR.grow _ _ _ _ _ hm.1 h1
  simp only at h
  split at h
  ·exact (g1.trans (hR.grow _ _ _ _ _ hm.2 h)).mono g1.1
  ·cases Option.some.inj h;exact g1
 |cond y a b =>
  cases c<;>first|(simp [mC] at hm;done)|skip
  simp only [mC,Bool.and_eq_true] at hm
  simp only [step] at h
  replace h:=bind_some h
  obtain ⟨v,h1,h⟩:=h
  split at h
  ·split at h
   ·exact hR.grow _ _ _ _ _ hm.1.2 h
   ·exact hR.grow _ _ _ _ _ hm.2 h
  ·cases h
 |block i a =>
  cases c<;>first|(simp [mC] at hm;done)|skip
  simp only [mC,Bool.and_eq_true] at hm
  simp only [step] at h
  replace h:=bind_some h
  obtain ⟨⟨e1,st1⟩,h1,h⟩:=h
  have h:=Option.some.inj h
  cases h
  exact hR.grow _ _ _ _ _ hm.2 h1
 |loop keep a =>
  cases c<;>first|(simp [mC] at hm;done)|skip
  simp only [mC] at hm
  simp only [step] at h
  exact hR.growR _ _ _ _ _ _ _ hm h
 |round keep nb a =>
  cases c<;>first|(simp [mC] at hm;done)|skip
 |rng g ps asn b =>
  cases c<;>first|(simp [mC] at hm;done)|skip
  rename_i g1 ps1 c1 c2
  simp only [mC,Bool.and_eq_true,beq_iff_eq] at hm
  obtain ⟨⟨⟨m1,m2⟩,m3⟩,m4⟩:=hm
  simp only [step] at h
  obtain ⟨f,caps,xs,stop,r,s1,q1,q2,q3,q4,rfl,rfl⟩:=ranged_eq h
  have:=rounds_grow hR.grow m3 m4 xs 0 _ r s1 q3 (Nat.le_refl _)
  exact ⟨this.1,this.2.1,this.2.2⟩
 |clean pre post a =>
  replace hm:mC P c a=true:=by cases c<;>simpa only [mC] using hm
  simp only [step] at h
  replace h:=bind_some h
  obtain ⟨st1,h0,h⟩:=h
  replace h:=bind_some h
  obtain ⟨⟨e1,st2⟩,h1,h⟩:=h
  replace h:=bind_some h
  obtain ⟨st3,h2,h⟩:=h
  cases Option.some.inj h
  obtain ⟨k1,k2,k3⟩:=head_same h0
  obtain ⟨l1,l2,l3⟩:=head_same h2
  have g1:=hR.grow _ _ _ _ _ hm h1
  exact ⟨by omega,by rw [l2,← k2];exact g1.2.1,by rw [l3,g1.2.2,k3]⟩
 |exit i=>simp only [step,Option.some.injEq,Prod.mk.injEq] at h;rw [← h.2];exact (Mono.refl _).grow
 |ret=>simp only [step,Option.some.injEq,Prod.mk.injEq] at h;rw [← h.2];exact (Mono.refl _).grow
 |dem l d f args =>
  simp only [step] at h
  obtain ⟨st1,h1,h⟩:=bind_some h
  obtain ⟨vs,h2,h⟩:=bind_some h
  obtain ⟨r,h3,h⟩:=bind_some h
  cases r with
  |some p=>cases Option.some.inj h;exact ops_grow h1
  |none =>
   obtain ⟨st2,h4,h5⟩:=map_some' h
   cases h5
   exact ((ops_grow h1).trans (act_grow h4)).mono (ops_grow h1).1
theorem Post.trans {nb1:Nat} {σ1:Nat→Nat} {ms:List Nat} (hs:Stays T T1 w w1) (hσ:∀ k,k<nb→σ1 k=σ k) (hd:a1.defers=ms.map markOf++ds) (hms:Marks T1 w w1 ms) (hnb:nb≤nb1)
  {x:Exit} {a':Act} {w':World} (h:Post C L nb1 σ1 T1 w1 e st' a1.defers x a' w'):Post C L nb σ T w e st' ds x a' w':=⟨h.1,After.trans hs hσ hd hms hnb h.2⟩
theorem step_wpR (hR:RecOk P rec) (hW:Wide F) (hN:C.Rec F) (hC:C.Ok P L) {c:Code} {keep:List Nat} {vc:VCode} (hm:mC P c vc=true) (h:step rec env (.round keep nb vc) st=some (e,st')) (hst:st.stop=C.stop) (hX:st'.ys <+: C.X)
  (hs:Sim L σ T st a w) (hJ:C.J st.ys.length T w):wpLoop F n P c (Post C L nb σ T w e st' a.defers) a w:=by
 simp only [step] at h
 replace h:=bind_some h
 obtain ⟨st0,h0,h⟩:=h
 replace h:=bind_some h
 obtain ⟨⟨e1,st1⟩,h1,h⟩:=h
 obtain ⟨q1,q2,q3,q4,q5⟩:=hs.head h0
 have g1:=hR.grow _ _ _ _ _ hm h1
 refine wpLoop_once ?_
 have hX1:st1.ys <+: C.X:=by
  simp only at h
  split at h
  ·exact (hR.growR _ _ _ _ _ _ _ hm h).2.1.trans hX
  ·cases Option.some.inj h;exact hX
 refine wpIn_mono (hR.wp hW hN hC c vc st0 e1 st1 hm h1 (q4.trans hst) hX1 σ T a w q1 (by rw [q3];exact hJ)) ?_
 rintro x a1 w1 ⟨hx,hA⟩
 rw [q2] at hA
 simp only at h
 split at h
 ·subst hx
  obtain ⟨σ1,T1,ms,k1,k2,k3,k4,k5,k6⟩:=hA
  exact wpLoop_mono (hR.wpR hW hN hC c keep nb vc st1 e st' hm h (g1.2.2.trans (q4.trans hst)) hX σ1 T1 a1 w1 k1 k2) fun x a' w' hP=>Post.trans k4 k3 k5 k6 (Nat.le_refl _) hP
 ·rename_i hne
  cases Option.some.inj h
  cases e with
  |normal=>exact absurd rfl hne
  |exit i=>subst hx;exact ⟨rfl,hA⟩
  |ret=>subst hx;exact ⟨rfl,hA⟩
  |thr t m=>subst hx;exact ⟨rfl,hA⟩
theorem dem_wp (hW:Wide F) (hC:C.Ok P L) (hcalls:CallsOk P rec env) (hX:st'.ys <+: C.X) (hs:Sim L σ T st a w) (hJ:C.J st.ys.length T w) (hst:st.stop=C.stop) {l:List VOp} {f:Nat} {args:List Opd} (hm:mL P opl opl.toList (l++[.call d f args])=true) (h1:ops rec env l st=some st1)
  {vs:List PV} (h2:args.mapM st1.pvOf=some vs) {r:Option (Nat × Int)} (h3:calT rec env f vs=some r) (h:(match r with
   |some (t,n)=>some (.thr t n,st1)
   |none=>(act rec env (.call d f args) st1).map fun st2=>(.normal,st2))=some (e,st')):wpListIn F n P opl (Post C L st.boxes.length σ T w e st' a.defers) opl.toList a w:=by
 obtain ⟨l1,o,hl,m1,m2⟩:=mL_snoc hm
 have g1:=ops_grow h1
 rw [hl]
 cases r with
 |some p =>
  cases Option.some.inj h
  refine ops_wp2 hW hC hcalls hX hs hJ hst m1 h1 ?_
  rintro a1 w1 ⟨σ1,T1,ms,k1,k2,k3,k4,k5,k6⟩
  exact thr_wp hW hC hcalls k1 k2 m2 h2 h3 fun w' hA=>⟨rfl,After.trans k4 k3 k5 k6 g1.1 hA⟩
 |none =>
  obtain ⟨st2,h4,h5⟩:=map_some' h
  cases h5
  have g2:Grow st1.boxes.length st1 st':=act_grow h4
  refine ops_wp2 hW hC hcalls (g2.2.1.trans hX) hs hJ hst m1 h1 ?_
  rintro a1 w1 ⟨σ1,T1,ms,k1,k2,k3,k4,k5,k6⟩
  have h6:ops rec env [.call d f args] st1=some st':=by
   simp only [ops,op,op1,isAct,↓reduceIte,h4]
   rfl
  have m3:mL P opl [o] [.call d f args]=true:=by simp only [mL,m2,Bool.and_self]
  exact ops_wp hW hC hcalls hX k1 k2 (g1.2.2.trans hst) m3 h6 fun a' w' hA=>⟨rfl,After.trans k4 k3 k5 k6 g1.1 hA⟩
theorem step_wp (hR:RecOk P rec) (hI:ItersOk P env) (hcalls:CallsOk P rec env) (hW:Wide F) (hN:C.Rec F) (hC:C.Ok P L) {c:Code} {vc:VCode} (hm:mC P c vc=true) (h:step rec env vc st=some (e,st')) (hst:st.stop=C.stop) (hX:st'.ys <+: C.X)
  (hs:Sim L σ T st a w) (hJ:C.J st.ys.length T w):c.wpIn F n P (Post C L st.boxes.length σ T w e st' a.defers) a w:=by
 cases vc with
 |skip =>
  simp only [step,Option.some.injEq,Prod.mk.injEq] at h
  obtain ⟨rfl,rfl⟩:=h
  cases c<;>first|(simp [mC] at hm;done)|skip
  case skip=>exact wpIn_skip ⟨rfl,After.refl hs hJ⟩
  case label l=>exact wpIn_label ⟨rfl,After.refl hs hJ⟩
 |ops l =>
  simp only [step] at h
  obtain ⟨st1,h1,h2⟩:=map_some' h
  cases h2
  cases c<;>first|(simp [mC] at hm;done)|skip
  case region id ops dr =>
   cases dr<;>simp [mC] at hm
   exact wpIn_region_list (ops_wp hW hC hcalls hX hs hJ hst hm h1 fun a' w' hA=>⟨rfl,hA⟩)
 |drw fz acts fin last l =>
  simp only [step] at h
  obtain ⟨st1,h1,h2⟩:=map_some' h
  cases h2
  cases c<;>first|(simp [mC] at hm;done)|skip
  case region id ops dr =>
   cases dr<;>simp only [mC,Bool.and_eq_true,Bool.false_eq_true] at hm
   obtain ⟨⟨⟨m1,m2⟩,m3⟩,m4⟩:=hm
   obtain ⟨T1,q1,q2⟩:=hs.freezeAts fz
   have gz:=Mono.freezeAts fz (Mono.refl st)
   have hJ1:C.J (fz.foldl St.freezeAt st).ys.length T1 w:=by rw [gz.2.1];exact hC.keep _ _ _ _ _ (q2.chg w) hJ
   exact region_drw_wp hW hC hcalls q1 hJ1 (gz.2.2.trans hst) hX m1 m2 m3 m4 h1 fun a' w' hA=>⟨rfl,After.trans (ms:=[]) ((q2.chg w).stays) (fun _ _=>rfl) rfl Marks.nil gz.1 hA⟩
 |drs fz keep vo alts =>
  simp only [step] at h
  obtain ⟨st1,h1,h2⟩:=map_some' h
  cases h2
  cases alts with
  |nil=>cases h1
  |cons alt alts =>
  cases c<;>first|(simp [mC] at hm;done)|skip
  case region id ops dr =>
   cases dr<;>simp only [mC,Bool.and_eq_true,Bool.false_eq_true] at hm
   obtain ⟨⟨m1,m2⟩,m3⟩:=hm
   obtain ⟨T1,q1,q2⟩:=hs.freezeAts fz
   have gz:=Mono.freezeAts fz (Mono.refl st)
   have hJ1:C.J (fz.foldl St.freezeAt st).ys.length T1 w:=by rw [gz.2.1];exact hC.keep _ _ _ _ _ (q2.chg w) hJ
   exact region_drs_wp hW hC hcalls q1 hJ1 (gz.2.2.trans hst) hX m1 m2 m3 h1 fun a' w' hA=>⟨rfl,After.trans (ms:=[]) ((q2.chg w).stays) (fun _ _=>rfl) rfl Marks.nil gz.1 hA⟩
 |lend d ks l =>
  simp only [step] at h
  split at h
  case h_2=>cases h
  rename_i hd
  split at h
  case isFalse=>cases h
  rename_i hstop
  obtain ⟨st3,h1,h2⟩:=map_some' h
  cases h2
  obtain ⟨st2,h3,h4⟩:=bind_some h1
  cases c<;>first|(simp [mC] at hm;done)|skip
  case region id ops dr =>
   cases dr<;>simp [mC] at hm
   exact lend_wp hW hC hcalls hs hJ hd hstop hm.1 (by simpa using hm.2) h3 h4
 |seq a b =>
  cases c<;>first|(simp [mC] at hm;done)|skip
  rename_i c1 c2
  simp only [mC,Bool.and_eq_true] at hm
  simp only [step] at h
  replace h:=bind_some h
  obtain ⟨⟨e1,st1⟩,h1,h⟩:=h
  have g1:=hR.grow _ _ _ _ _ hm.1 h1
  refine wpIn_seq ?_
  have hX1:st1.ys <+: C.X:=by
   simp only at h
   split at h
   ·exact (hR.grow _ _ _ _ _ hm.2 h).2.1.trans hX
   ·cases Option.some.inj h;exact hX
  refine wpIn_mono (hR.wp hW hN hC c1 _ st e1 st1 hm.1 h1 hst hX1 σ T _ w hs hJ) ?_
  rintro x a1 w1 ⟨hx,hA⟩
  simp only at h
  split at h
  ·subst hx
   obtain ⟨σ1,T1,ms,k1,k2,k3,k4,k5,k6⟩:=hA
   exact wpIn_mono (hR.wp hW hN hC c2 _ st1 e st' hm.2 h (g1.2.2.trans hst) hX σ1 T1 a1 w1 k1 k2) fun x a' w' hP=>Post.trans k4 k3 k5 k6 g1.1 hP
  ·rename_i hne
   cases Option.some.inj h
   cases e with
   |normal=>exact absurd rfl hne
   |exit i=>subst hx;exact ⟨rfl,hA⟩
   |ret=>subst hx;exact ⟨rfl,hA⟩
   |thr t m=>subst hx;exact ⟨rfl,hA⟩
 |cond y a b =>
  cases c<;>first|(simp [mC] at hm;done)|skip
  rename_i x c1 c2
  simp only [mC,Bool.and_eq_true] at hm
  simp only [step] at h
  replace h:=bind_some h
  obtain ⟨v,h1,h⟩:=h
  split at h
  case h_2=>cases h
  rename_i t
  refine wpIn_cond (t:=t) (hs.pv hm.1.1 h1).bool_inv ?_
  cases t with
  |true=>exact hR.wp hW hN hC c1 _ st e st' hm.1.2 (by simpa using h) hst hX σ T _ w hs hJ
  |false=>exact hR.wp hW hN hC c2 _ st e st' hm.2 (by simpa using h) hst hX σ T _ w hs hJ
 |block i a =>
  cases c<;>first|(simp [mC] at hm;done)|skip
  rename_i j c1
  simp only [mC,Bool.and_eq_true,beq_iff_eq] at hm
  obtain ⟨rfl,hm⟩:=hm
  simp only [step] at h
  replace h:=bind_some h
  obtain ⟨⟨e1,st1⟩,h1,h⟩:=h
  have h:=Option.some.inj h
  cases h
  refine wpIn_block (wpIn_mono (hR.wp hW hN hC c1 _ st e1 st1 hm h1 hst hX σ T _ w hs hJ) ?_)
  rintro x a1 w1 ⟨rfl,hA⟩
  cases e1 with
  |normal=>exact ⟨rfl,hA⟩
  |exit i =>
   by_cases hij:i=j
   ·subst hij;simp only [toX,Exit.inBlock,↓reduceIte];exact ⟨rfl,hA⟩
   ·have hne:(Ex.exit i=Ex.exit j)=False:=by simpa using hij
    simp only [toX,Exit.inBlock,if_neg hij,hne,↓reduceIte];exact ⟨rfl,hA⟩
  |ret=>exact ⟨rfl,hA⟩
  |thr t m=>exact ⟨rfl,hA⟩
 |loop keep a =>
  cases c<;>first|(simp [mC] at hm;done)|skip
  simp only [mC] at hm
  simp only [step] at h
  exact wpIn_of_loop (hR.wpR hW hN hC _ keep _ _ st e st' hm h hst hX σ T _ w hs hJ)
 |round keep nb a =>
  cases c<;>first|(simp [mC] at hm;done)|skip
 |rng g ps asn b =>
  cases c<;>first|(simp [mC] at hm;done)|skip
  rename_i g1 ps1 c1 c2
  simp only [mC,Bool.and_eq_true,beq_iff_eq] at hm
  obtain ⟨⟨⟨m1,m2⟩,m3⟩,m4⟩:=hm
  subst m2
  simp only [step] at h
  obtain ⟨f,caps,xs,stop,r,s1,q1,q2,q3,q4,rfl,rfl⟩:=ranged_eq h
  exact rng_core hR hI hW hN hC m3 m4 m1 q1 q2 q3 q4 hX hst hs hJ
 |clean pre post a =>
  replace hm:mC P c a=true:=by cases c<;>simpa only [mC] using hm
  simp only [step] at h
  replace h:=bind_some h
  obtain ⟨st1,h0,h⟩:=h
  replace h:=bind_some h
  obtain ⟨⟨e1,st2⟩,h1,h⟩:=h
  replace h:=bind_some h
  obtain ⟨st3,h2,h⟩:=h
  cases Option.some.inj h
  obtain ⟨q1,q2,q3,q4,q5⟩:=hs.head h0
  obtain ⟨l1,l2,l3⟩:=head_same h2
  refine wpIn_mono (hR.wp hW hN hC c a st1 _ st2 hm h1 (q4.trans hst) (by rw [← l2];exact hX) σ T _ w q1 (by rw [q3];exact hJ)) ?_
  rintro x a1 w1 ⟨hx,σ1,T1,ms,k1,k2,k3,k4,k5,k6⟩
  obtain ⟨r1,r2,r3,r4,r5⟩:=k1.head h2
  exact ⟨hx,σ1,T1,ms,r1,by rw [r3];exact k2,by rw [← q2];exact k3,k4,k5,k6⟩
 |exit i =>
  simp only [step,Option.some.injEq,Prod.mk.injEq] at h
  obtain ⟨rfl,rfl⟩:=h
  cases c<;>first|(simp [mC] at hm;done)|skip
  simp only [mC,beq_iff_eq] at hm
  subst hm
  exact wpIn_exit ⟨rfl,After.refl hs hJ⟩
 |ret =>
  simp only [step,Option.some.injEq,Prod.mk.injEq] at h
  obtain ⟨rfl,rfl⟩:=h
  cases c<;>first|(simp [mC] at hm;done)|skip
  exact wpIn_ret ⟨rfl,After.refl hs hJ⟩
 |dem l d f args =>
  simp only [step] at h
  obtain ⟨st1,h1,h⟩:=bind_some h
  obtain ⟨vs,h2,h⟩:=bind_some h
  obtain ⟨r,h3,h⟩:=bind_some h
  cases c<;>first|(simp [mC] at hm;done)|skip
  case region id ops dr =>
   cases dr<;>simp [mC] at hm
   exact wpIn_region_list (dem_wp hW hC hcalls hX hs hJ hst hm h1 h2 h3 (by cases r<;>exact h))
theorem step_ok (hR:RecOk P rec) (hI:ItersOk P env) (hcalls:CallsOk P rec env):RecOk P (step rec env) :=
 ⟨fun _ _ _ _ _ hm h=>step_grow hR hm h,fun _ _ _ _ _ _ _ hm h=>step_growR hR hm h,
  fun hW hN hC _ _ _ _ _ hm h hst hX _ _ _ _ hs hJ=>step_wp hR hI hcalls hW hN hC hm h hst hX hs hJ,
  fun hW hN hC _ _ _ _ _ _ _ hm h hst hX _ _ _ _ hs hJ=>step_wpR hR hW hN hC hm h hst hX hs hJ⟩
end
end Go.Proofs.YtioijcfcehhmdaaGreatDoor

namespace Go.Proofs.YtioijcfcehhmdaaGreatDoor
open Go.RowKit
section
variable {P:Program} {L K:Nat} {σ σ':Nat→Nat} {T T' T1 T2:Tags} {st st' st1:St} {a a1:Act} {w w1:World} {r:Root}
theorem Sim.retagTo (h:Sim L σ T st a w) {i:Nat} (h1:∀ t s l,st.slots[t]?=some (.row s l)→r≠.slot t) (h2:∀ (t i:Nat),r≠.part t i) (h3:∀ p q bx s l,st.boxes[p]?=some bx→bx.cs[q]?=some (.row s l)→r≠.cell p q) (hK:st.slots.length≤K) :
  Sim L σ (moved T r (.part K i)) st a w:=by
 have hw:∀ b,T b=.ro→b<w.heap.size→moved T r (.part K i) b=.ro∧w.heap[b]?=w.heap[b]?:=fun b e _=>⟨moved_ro e,rfl⟩
 refine ⟨h.size,fun t x u hx hu=>?_,fun p bx ho=>?_,fun b hb=>moved_other (h.fresh b hb)⟩
 ·have ht:t<st.slots.length:=(List.getElem?_eq_some_iff.1 hx).1
  refine (h.slots t x u hx hu).keep hw (fun s l e b hb _=>⟨moved_row (fun e2=>h1 t s l (by rw [hx,e]) e2.symm) (by simp) hb,rfl⟩) (fun l e i' _ b hb _=>⟨moved_row (fun e2=>h2 _ _ e2.symm) (fun e2=>?_) hb,rfl⟩) (fun q hq _ s l e=>⟨⟨l,e⟩,rfl⟩) (Nat.le_refl _) (fun _ _=>rfl)
  cases e2;omega
 ·obtain ⟨arr,E,g1,g2,g3,g4,g5⟩:=h.boxes p bx ho
  refine ⟨arr,E,g1,g2,?_,g4,fun j bv u hj hu=>?_⟩
  ·cases hf:bx.fz with
   |true=>rw [hf] at g3;simpa using moved_ro g3
   |false=>rw [hf] at g3;simpa using moved_box g3
  ·obtain ⟨k1,k2⟩:=g5 j bv u hj hu
   refine ⟨k1,?_⟩
   cases bv with
   |pv x=>exact PRep.frame hw k2
   |row sz es=>exact RowRep.frame (fun b e _=>⟨moved_row (fun e2=>h3 p j bx sz es ho hj e2.symm) (by simp) e,rfl⟩) hw k2
theorem RowRep.takeTo {sz:Nat} {es:List PV} {xa:Option Addr} {c:Nat} (h:RowRep T w r sz es (.slice xa es.length c)) (k:Nat):RowRep T w r sz (es.take k) (.slice xa (es.take k).length c):=by
 rcases h with ⟨rfl,a,e⟩|⟨b,c',arr,E,e,h2,h3,h4,h5,h6,h7,h8⟩
 ·simp only [List.length_nil,Value.slice.injEq] at e
  obtain ⟨_,_,rfl⟩:=e
  exact .inl ⟨by simp,xa,by simp⟩
 ·simp only [Value.slice.injEq] at e
  obtain ⟨rfl,_,rfl⟩:=e
  refine .inr ⟨b,c,arr,E,rfl,h2,h3,h4,?_,h6,fun e he=>h7 e (List.mem_of_mem_take he),fun i e j x hi hj=>?_⟩
  ·simp;omega
  ·rw [List.getElem?_take] at hi
   split at hi
   ·exact h8 i e j x hi hj
   ·cases hi
def RK (T:Tags) (w:World) (K i:Nat):Res→Value→Prop
 |(.list sz es,true),u=>RowRep T w (.part K i) sz es u
 |(.agg _,true),_=>False
 |(x,_),u=>PRep (fun b=>T b=.ro) w x u
theorem RK.pv {i:Nat} {x:PV} {u:Value} (h:PRep (fun b=>T b=.ro) w x u):RK T w K i (x,false) u:=by
 cases x<;>exact h
def readOf (tmps:Array Value):ResultVar→Sem Value
 |.tmp t=>pure (tmps.getD t undef)
 |.cell a t=>do loadVar t (← asAddr (tmps.getD a undef))
def mRes (P:Program):ResultVar→VRes→Bool
 |.tmp t,.tmp s=>t==s
 |.cell t T0,.cell s n=>t==s&&cellN P T0==some n
 |.cell t T0,.own s n=>t==s&&cellN P T0==some (some n)
 |_,_=>false
theorem result_one (h:Sim L σ T st a w) {g:ResultVar} {v:VRes} (hm:mRes P g v=true) {x:Res} (hp:resultOf st v=some (x,st1)) (hK:st.slots.length≤K) (i:Nat) :
  ∃ u T',(readOf a.tmps g).run P w=.ok u w∧Sim L σ T' st1 a w∧Still T T'∧RK T' w K i x u∧(∀ b k,k≠i→T b=.row (.part K k)→T' b=.row (.part K k))∧st1.slots.length=st.slots.length∧(∀ b o,T b=.box o→T' b=.box o):=by
 cases g<;>cases v<;>simp only [mRes,Bool.false_eq_true] at hm
 case tmp.tmp t s =>
  simp only [beq_iff_eq] at hm
  subst hm
  have hev:a.tmps.getD t undef=a.eval (.tmp t):=rfl
  have hmo:mOpd (.tmp t) (.t t)=true:=by simp [mOpd]
  simp only [resultOf] at hp
  split at hp
  ·rename_i sz es st2 hg
   have hp:=Option.some.inj hp
   cases hp
   obtain ⟨k1,k2,q,v,es0,c,xa,k3,k4,k5,k6,k7,k8,k9⟩:=h.grab hmo hg
   have hlen:st1.slots.length=st.slots.length:=by rw [← k1.size,← h.size]
   refine ⟨a.eval (.tmp t),moved T q (.part K i),by rw [readOf,hev];rfl,k1.retagTo k7 k8 k9 (by omega),Still.moved _ _ _,?_,fun b k hk e=>moved_row (fun e2=>k8 _ _ e2.symm) (by simp [hk]) e,hlen,fun b o e=>moved_box e⟩
   rw [k6]
   subst k5
   have:=RowRep.takeTo k3 es.length
   rw [← k4] at this
   exact RowRep.frame (fun b e _=>⟨moved_src e,rfl⟩) (fun b e _=>⟨moved_ro e,rfl⟩) this
  ·split at hp
   ·rename_i v hv
    have hp:=Option.some.inj hp
    cases hp
    have e2:st.pvOf (.t t)=some v:=by unfold St.pvOf;rw [show st.get (.t t)=.pv v from hv]
    exact ⟨a.eval (.tmp t),T,by rw [readOf,hev];rfl,h,Still.refl T,RK.pv (h.pv hmo e2),fun _ _ _ e=>e,rfl,fun _ _ e=>e⟩
   ·rename_i r off len hv
    split at hp
    case h_2=>cases hp
    rename_i sz es hr
    split at hp
    case isFalse=>cases hp
    rename_i hl
    have hp:=Option.some.inj hp
    cases hp
    obtain ⟨T1,k1,k2,k3,k4,k5⟩:=h.freeze r
    refine ⟨a.eval (.tmp t),T1,by rw [readOf,hev];rfl,k1,k2,RK.pv (h.refList hr (h.refR hmo hv sz es hr) hl (k4 sz es hr) k2.ro),fun b k _ e=>k3 b _ (fun e2=>by subst e2;simp [St.row] at hr) e,by rw [← k1.size,← h.size],k5⟩
   ·cases hp
 case cell.cell t T0 s n =>
  simp only [Bool.and_eq_true,beq_iff_eq] at hm
  obtain ⟨rfl,hc⟩:=hm
  simp only [resultOf] at hp
  split at hp
  case h_2=>cases hp
  rename_i p j hv
  split at hp
  case h_2=>cases hp
  rename_i bx h1
  have hs:st.slots[t]?=some (.pbox p j):=slots_get (st:=st) hv (by simp)
  have hlt:t<a.tmps.size:=by rw [h.size];exact (List.getElem?_eq_some_iff.1 hs).1
  have hgp:a.tmps.getD t undef=.pointer (some ⟨σ p,j,none⟩):=by
   have:=(h.slots t _ _ hs (Array.getElem?_eq_getElem hlt)).2
   rw [Array.getD_eq_getD_getElem?,Array.getElem?_eq_getElem hlt,Option.getD_some,this]
  have hread:∀ {u:Value},(loadVar T0 ⟨σ p,j,none⟩).run P w=.ok u w→(readOf a.tmps (.cell t T0)).run P w=.ok u w:=fun hu=>by
   simp only [readOf,hgp,asAddr,Sem.run_bind,Sem.run_pure,Result.andThen_ok]
   exact hu
  have hbox:=h.boxes p bx h1
  cases n with
  |none =>
   obtain ⟨arr,E,g1,g2,g3,g4,g5⟩:=hbox
   have hld:∀ (bv:BV),bx.cs[j]?=some bv→∃ u,(loadVar T0 ⟨σ p,j,none⟩).run P w=.ok u w∧BRep T w p j bv u:=fun bv hbv=>by
    have hj:j<arr.size:=by rw [g2];exact (List.getElem?_eq_some_iff.1 hbv).1
    obtain ⟨k1,k2⟩:=g5 j _ arr[j] hbv (Array.getElem?_eq_getElem hj)
    refine ⟨arr[j],?_,k2⟩
    unfold loadVar
    simp only [Sem.run_bind,run_isAgg_no hc,Result.andThen_ok,Bool.false_eq_true,if_false]
    unfold load
    simp only [Sem.run,cell_of_row w _ _ arr E (0,0) g1,Array.getElem?_eq_getElem hj]
   simp only at hp
   split at hp
   ·rename_i sz es hbv
    split at hp
    ·cases hp
    ·rename_i hfz
     have hp:=Option.some.inj hp
     cases hp
     obtain ⟨u,q1,q2⟩:=hld _ hbv
     have hr:st.row (.cell p j)=some (sz,es):=by simp [St.row,h1,hfz,hbv]
     obtain ⟨T1,k1,k2,k3,k4,k5⟩:=h.freeze (.cell p j)
     exact ⟨u,T1,hread q1,k1,k2,RK.pv (RowRep.list (k4 sz es hr) k2.ro q2),fun b k _ e=>k3 b _ (by simp) e,by rw [← k1.size,← h.size],k5⟩
   ·rename_i v hbv
    have hp:=Option.some.inj hp
    cases hp
    obtain ⟨u,q1,q2⟩:=hld _ hbv
    exact ⟨u,T,hread q1,h,Still.refl T,RK.pv q2,fun _ _ _ e=>e,rfl,fun _ _ e=>e⟩
   ·cases hp
  |some n =>
   simp only at hp
   obtain ⟨v,h2,hp⟩:=map_some' hp
   cases hp
   obtain ⟨T1,k1,k2,k3,k4,k5⟩:=h.freezeRowsB p
   have hmem:=hbox.mem (T':=T1) (fun j b e=>k4 (by rw [h1];rfl) b j e) k2.ro
   obtain ⟨u,h7,h8,_⟩:=part_mem (P:=P) hmem hc h2
   rw [Nat.zero_add] at h7
   exact ⟨u,T1,hread (h7 w rfl),k1,k2,RK.pv h8,fun b k _ e=>k3 b _ (by simp) e,by rw [← k1.size,← h.size],k5⟩
 case cell.own t T0 s n=>simp only [resultOf] at hp;cases hp
def RKo (T:Tags) (w:World) (K i:Nat) (x:Res) (u:Value):Prop :=
 RK T w K i x u∨(i=0∧∃ cs,x=(.agg cs,true)∧∃ arr:Array Value,u=.agg arr∧arr.size=cs.length∧∀ (k:Nat) x v,cs[k]?=some x→arr[k]?=some v→PartRep T w K k (ownP x) v)
def outO (T:Tags) (p j K:Nat):Tags:=fun b=>match T b with
 |.ro=>.ro
 |.row (.cell o q)=>if o=p∧j≤q then .row (.part K (q - j)) else .other
 |_=>.other
theorem ownCells_get:∀ {l:List BV} {cs:List PV},ownCells l=some cs→l.length=cs.length∧∀ (k:Nat) x,cs[k]?=some x→(∃ sz es,l[k]?=some (.row sz es)∧x=.list sz es)∨(l[k]?=some (.pv x)∧∀ s es,x≠.list s es)
 |[],cs,h=>by cases h;exact ⟨rfl,fun k x hk=>by simp at hk⟩
 |.row sz es :: l,cs,h=>by
  obtain ⟨c,h1,rfl⟩:=map_some' h
  obtain ⟨q1,q2⟩:=ownCells_get h1
  refine ⟨by simp [q1],fun k x hk=>?_⟩
  cases k with
  |zero=>cases hk;exact .inl ⟨sz,es,rfl,rfl⟩
  |succ k=>exact q2 k x hk
 |.pv v :: l,cs,h=>by
  have hv:(∀ s es,v≠.list s es)∧∃ c,ownCells l=some c∧cs=v :: c:=by
   cases v<;>first|(simp [ownCells] at h;done)|(obtain ⟨c,h1,rfl⟩:=map_some' h;exact ⟨(fun _ _ e=>by cases e),c,h1,rfl⟩)
  obtain ⟨hv,c,h1,rfl⟩:=hv
  obtain ⟨q1,q2⟩:=ownCells_get h1
  refine ⟨by simp [q1],fun k x hk=>?_⟩
  cases k with
  |zero=>cases hk;exact .inr ⟨rfl,hv⟩
  |succ k=>exact q2 k x hk
theorem load_cells {b j n T0:Nat} {arr:Array Value} {E q} (hc:cellN P T0=some (some n)) (hb:w.heap[b]?=some (.cells arr E (0,q))) (hn:j+n≤arr.size) :
  ∃ us:Array Value,(loadVar T0 ⟨b,j,none⟩).run P w=.ok (.agg us) w∧us.size=n∧∀ k v,us[k]?=some v→arr[j+k]?=some v:=by
 have hs:=(run_isAgg_yes (w:=w) hc).2
 let us:List Value:=(List.range n).map fun k=>arr.getD (j+k) undef
 have hus:∀ k v,us[k]?=some v→arr[j+k]?=some v:=fun k v hv=>by
  have hk:k<n:=by have:=(List.getElem?_eq_some_iff.1 hv).1;simpa [us] using this
  simp only [us,List.getElem?_map,List.getElem?_range hk,Option.map_some,Option.some.injEq] at hv
  rw [Array.getElem?_eq_getElem (by omega:j+k<arr.size)]
  rw [Array.getD_eq_getD_getElem?,Array.getElem?_eq_getElem (by omega:j+k<arr.size)] at hv
  rw [← hv];rfl
 have hlen:us.length=n:=by simp [us]
 refine ⟨us.toArray,?_,by simpa using hlen,fun k v hv=>hus k v (by simpa using hv)⟩
 have hl2:=run_loadCells_list (P:=P) (w:=w) ⟨b,j,none⟩ us (fun k v hv=>by
  rw [Addr.add_lit,cell_of_row w b _ arr E (0,q) hb];exact hus k v hv)
 rw [hlen] at hl2
 unfold loadVar
 simp only [Sem.run_bind,(run_isAgg_yes (w:=w) hc).1,Result.andThen_ok,if_true,run_szOf hs,hl2]
 rfl
theorem result_own (h:Sim L σ T st a w) {t T0 n p j:Nat} {bx:Box} {cs:List PV} (hc:cellN P T0=some (some n)) (hv:st.slots.getD t .any=.pbox p j) (h1:st.boxes[p]?=some bx) (hf:bx.fz=false) (hn:j+n≤bx.cs.length) (ho:ownCells ((bx.cs.drop j).take n)=some cs) :
  ∃ u T',(readOf a.tmps (.cell t T0)).run P w=.ok u w∧Still T T'∧(∀ b,w.heap.size≤b→T' b=.other)∧RKo T' w K 0 (.agg cs,true) u:=by
 have hs:st.slots[t]?=some (.pbox p j):=slots_get (st:=st) hv (by simp)
 have hlt:t<a.tmps.size:=by rw [h.size];exact (List.getElem?_eq_some_iff.1 hs).1
 have hgp:a.tmps.getD t undef=.pointer (some ⟨σ p,j,none⟩):=by
  have:=(h.slots t _ _ hs (Array.getElem?_eq_getElem hlt)).2
  rw [Array.getD_eq_getD_getElem?,Array.getElem?_eq_getElem hlt,Option.getD_some,this]
 obtain ⟨arr,E,g1,g2,g3,g4,g5⟩:=h.boxes p bx h1
 obtain ⟨us,r1,r2,r3⟩:=load_cells (P:=P) hc g1 (by omega:j+n≤arr.size)
 obtain ⟨q1,q2⟩:=ownCells_get ho
 have hro:∀ b,T b=.ro→outO T p j K b=.ro:=fun b e=>by simp [outO,e]
 refine ⟨.agg us,outO T p j K,?_,⟨hro,fun b e=>by simp [outO,e]⟩,fun b hb=>by simp [outO,h.fresh b hb],.inr ⟨rfl,cs,rfl,us,rfl,?_,fun k x v hx hu=>?_⟩⟩
 ·simp only [readOf,hgp,asAddr,Sem.run_bind,Sem.run_pure,Result.andThen_ok]
  exact r1
 ·rw [r2,← q1];simp;omega
 ·have hk:k<n:=by rw [← r2];exact (Array.getElem?_eq_some_iff.1 hu).1
  have hget:∀ bv,((bx.cs.drop j).take n)[k]?=some bv→bx.cs[j+k]?=some bv:=fun bv e=>by
   rw [List.getElem?_take_of_lt hk,List.getElem?_drop] at e;exact e
  rcases q2 k x hx with ⟨sz,es,e1,rfl⟩|⟨e1,e2⟩
  ·obtain ⟨_,k2⟩:=g5 (j+k) _ v (hget _ e1) (r3 k v hu)
   exact RowRep.frame (fun b e _=>⟨by simp [outO,e],rfl⟩) (fun b e _=>⟨hro b e,rfl⟩) k2
  ·obtain ⟨_,k2⟩:=g5 (j+k) _ v (hget _ e1) (r3 k v hu)
   have:ownP x=.pv x:=by cases x<;>first|rfl|exact absurd rfl (e2 _ _)
   rw [this]
   exact PRep.frame (fun b e _=>⟨hro b e,rfl⟩) k2
end
end Go.Proofs.YtioijcfcehhmdaaGreatDoor

namespace Go.Proofs.YtioijcfcehhmdaaGreatDoor
open Go.RowKit
def mResL (P:Program):List ResultVar→List VRes→Bool
 |[],[]=>true
 |g :: gs,v :: vs=>mRes P g v&&mResL P gs vs
 |_,_=>false
section
variable {P:Program} {L K:Nat} {σ σ':Nat→Nat} {T T' T1 T2:Tags} {st st' st1:St} {a a1:Act} {w w1:World} {r:Root}
theorem RK.frame {i:Nat} {x:Res} {u:Value} (hr:∀ b,T b=.row (.part K i)→T' b=.row (.part K i)) (hw:∀ b,T b=.ro→T' b=.ro) (h:RK T w K i x u):RK T' w K i x u:=by
 obtain ⟨v,own⟩:=x
 cases v<;>cases own<;>first|exact PRep.frame (fun b e _=>⟨hw b e,rfl⟩) h|exact RowRep.frame (fun b e _=>⟨hr b e,rfl⟩) (fun b e _=>⟨hw b e,rfl⟩) h|exact False.elim h
theorem result_list:∀ {gs:List ResultVar} {vs:List VRes} {st:St} {T:Tags} {xs:List Res} (i:Nat),Sim L σ T st a w→mResL P gs vs=true→resultList st vs=some xs→st.slots.length≤K →
  ∃ (us:List Value) (T':Tags),(gs.mapM (readOf a.tmps)).run P w=.ok us w∧us.length=xs.length∧Still T T'∧(∀ b,w.heap.size≤b→T' b=.other)∧(∀ (j:Nat) x u,xs[j]?=some x→us[j]?=some u→RK T' w K (i+j) x u)∧(∀ b k,k<i→T b=.row (.part K k)→T' b=.row (.part K k))∧∀ b o,T b=.box o→T' b=.box o
 |[],[],st,T,xs,i,h,_,hp,hK=>by
  simp only [resultList,Option.some.injEq] at hp
  subst hp
  exact ⟨[],T,by simp,rfl,Still.refl T,h.fresh,fun j x u hx=>by simp at hx,(fun _ _ _ e=>e),fun _ _ e=>e⟩
 |[],_ :: _,_,_,_,_,_,hm,_,_=>by simp [mResL] at hm
 |_ :: _,[],_,_,_,_,_,hm,_,_=>by simp [mResL] at hm
 |g :: gs,v :: vs,st,T,xs,i,h,hm,hp,hK=>by
  simp only [mResL,Bool.and_eq_true] at hm
  simp only [resultList] at hp
  replace hp:=bind_some hp
  obtain ⟨⟨x,st1⟩,h1,hp⟩:=hp
  replace hp:=bind_some hp
  obtain ⟨l,h2,hp⟩:=hp
  have hp:=Option.some.inj hp
  subst hp
  obtain ⟨u,T1,k1,k2,k3,k4,k5,k6,k7⟩:=result_one h hm.1 h1 hK i
  obtain ⟨us,T2,q1,q2,q3,q4,q5,q6,q7⟩:=result_list (i+1) k2 hm.2 h2 (by omega)
  refine ⟨u :: us,T2,?_,by simp [q2],k3.trans q3,q4,fun j x' u' hx hu=>?_,fun b k hk e=>q6 b k (by omega) (k5 b k (by omega) e),fun b o e=>q7 b o (k7 b o e)⟩
  ·rw [List.mapM_cons]
   simp only [Sem.run_bind,k1,Result.andThen_ok,q1,Sem.run_pure]
  ·cases j with
   |zero =>
    simp only [List.getElem?_cons_zero,Option.some.injEq] at hx hu
    subst hx;subst hu
    exact RK.frame (fun b e=>q6 b i (by omega) e) q3.ro k4
   |succ j =>
    have:=q5 j x' u' (by simpa using hx) (by simpa using hu)
    rwa [show i+1+j=i+(j+1) by omega] at this
theorem results_run {fn:Func} {us:List Value} (h:(fn.results.toList.mapM (readOf a.tmps)).run P w=.ok us w):(results fn a.tmps).run P w=.ok (if us.toArray.size=1 then us.toArray.getD 0 undef else .tuple us.toArray) w:=by
 have e:results fn a.tmps=(do let vs ← fn.results.mapM (readOf a.tmps);pure (if h:vs.size=1 then vs[0] else .tuple vs)):=by
  unfold results
  congr 1
 rw [e,Array.mapM_eq_mapM_toList]
 simp only [Sem.run_bind,Sem.run_map,h,Result.andThen_ok,Sem.run_pure]
 by_cases hs:us.toArray.size=1
 ·rw [dif_pos hs,if_pos hs,Array.getD_eq_getD_getElem?,Array.getElem?_eq_getElem (by omega),Option.getD_some]
 ·rw [dif_neg hs,if_neg hs]
theorem leavesM_marks {fn:Func} {R:Ending→World→Prop} {B:Nat}:∀ {ms:List Nat} {w:World},ms.Nodup→(∀ r∈ms,B≤r∧w.heap[r]?=some (.deferred (some []))) →
  (∀ w',w'.os=w.os→w'.tape=w.tape→w'.output=w.output→w'.heap.size=w.heap.size→(∀ b,b ∉ ms→w'.heap[b]?=w.heap[b]?)→∃ v,(results fn a.tmps).run P w'=.ok v w'∧R (.returned v) w') →
  LeavesInM Fence.wide 0 P fn a.tmps R (ms.map markOf) .returning w
 |[],w,_,_,h=>by
  simp only [List.map_nil,LeavesInM,LeavesIn]
  exact h w rfl rfl rfl rfl fun _ _=>rfl
 |r :: ms,w,hnd,hms,h=>by
  simp only [List.map_cons,LeavesInM]
  obtain ⟨hn1,hn2⟩:=List.nodup_cons.1 hnd
  obtain ⟨k1,k2⟩:=hms r (by simp)
  have hr:r<w.heap.size:=(Array.getElem?_eq_some_iff.1 k2).1
  have hput:∀ b,b≠r→(w.putObj r (.deferred none)).heap[b]?=w.heap[b]?:=fun b hb=>by simp [World.putObj,Array.getElem?_setIfInBounds,Ne.symm hb]
  refine ⟨by simp,.inl ⟨r,_,rfl,run_takeDeferred k2,leavesM_marks (B:=B) hn2 (fun r' hr'=>?_) fun w' e1 e2 e3 e4 e5=>h w' e1 e2 e3 (by rw [e4];simp [World.putObj]) fun b hb=>?_⟩⟩
  ·obtain ⟨q1,q2⟩:=hms r' (by simp [hr'])
   exact ⟨q1,by rw [hput r' (fun e=>hn1 (e ▸ hr'))];exact q2⟩
  ·simp only [List.mem_cons,not_or] at hb
   rw [e5 b hb.2,hput b hb.1]
end
end Go.Proofs.YtioijcfcehhmdaaGreatDoor

namespace Go.Proofs.YtioijcfcehhmdaaGreatDoor
open Go.RowKit
section
variable {P:Program} {L K:Nat} {σ σ':Nat→Nat} {T T' T1 T2:Tags} {st st' st1:St} {a a1:Act} {w w1:World} {r:Root}
 {rec:VCode→St→Option (Ex × St)} {env:Env}
theorem results_ok {gs:List ResultVar} {vs:List VRes} {xs:List Res} (h:Sim L σ T st a w) (hm:mResL P gs vs=true) (hp:resultsOf st vs=some xs) :
  ∃ (us:List Value) (T':Tags),(gs.mapM (readOf a.tmps)).run P w=.ok us w∧us.length=xs.length∧Still T T'∧(∀ b,w.heap.size≤b→T' b=.other)∧∀ (j:Nat) x u,xs[j]?=some x→us[j]?=some u→RKo T' w st.slots.length j x u:=by
 have gen:resultList st vs=some xs→∃ (us:List Value) (T':Tags),(gs.mapM (readOf a.tmps)).run P w=.ok us w∧us.length=xs.length∧Still T T'∧(∀ b,w.heap.size≤b→T' b=.other)∧∀ (j:Nat) x u,xs[j]?=some x→us[j]?=some u→RKo T' w st.slots.length j x u:=fun hl=>by
  obtain ⟨us,T',k1,k2,k3,k4,k5,_⟩:=result_list 0 h hm hl (Nat.le_refl _)
  exact ⟨us,T',k1,k2,k3,k4,fun j x u hx hu=>.inl (by simpa using k5 j x u hx hu)⟩
 unfold resultsOf at hp
 split at hp
 case h_3=>exact gen hp
 case h_2 =>
  rename_i t n
  split at hp
  case h_2=>cases hp
  rename_i p j hs
  split at hp
  case h_2=>cases hp
  rename_i bx h1
  split at hp
  ·cases hp
  ·rename_i hf
   simp only [Bool.or_eq_true,Bool.not_eq_true',decide_eq_false_iff_not,not_or,Bool.not_eq_true,Classical.not_not] at hf
   obtain ⟨cs,h2,rfl⟩:=map_some' hp
   obtain ⟨T0,hgs,hc⟩:∃ T0,gs=[.cell t T0]∧cellN P T0=some (some n):=by
    match gs,hm with
    |[.tmp s],hm=>simp [mResL,mRes] at hm
    |[.cell s T0],hm=>simp [mResL,mRes] at hm;exact ⟨T0,by rw [hm.1],hm.2⟩
    |[],hm=>simp [mResL] at hm
    |_ :: _ :: _,hm=>simp [mResL] at hm
   subst hgs
   obtain ⟨u,T',r1,r2,r3,r4⟩:=result_own (P:=P) (K:=st.slots.length) h hc hs h1 hf.1 hf.2 h2
   refine ⟨[u],T',?_,rfl,r2,r3,fun j x u' hx hu=>?_⟩
   ·simp only [List.mapM_cons,List.mapM_nil,Sem.run_bind,r1,Result.andThen_ok,Sem.run_pure]
   ·cases j with
    |zero =>
     simp only [List.getElem?_cons_zero,Option.some.injEq] at hx hu
     subst hx;subst hu;exact r4
    |succ j=>simp at hx
 rename_i t
 split at hp
 case h_2=>exact gen hp
 rename_i f caps hs
 obtain ⟨⟨p,fl⟩,h1,h2⟩:=map_some' hp
 subst h2
 have hmo:mOpd (.tmp t) (.t t)=true:=by simp [mOpd]
 have hg:st.get (.t t)=.fn f caps:=hs
 have hsn:st.snapFn (st.get (.t t))=some (p,fl):=by rw [hg];exact h1
 obtain ⟨k1,_,k3⟩:=h.snapF hmo hsn
 obtain ⟨T1,q1,q2,q3,q4⟩:=Froz.args [.t t] (Froz.refl T st) h (fun x hx=>by simp only [List.mem_singleton] at hx;subst hx;exact k1)
 have hgs:gs=[.tmp t]:=by
  match gs,hm with
  |[.tmp s],hm=>simp [mResL,mRes] at hm;rw [hm]
  |[.cell s T0],hm=>simp [mResL,mRes] at hm
  |[],hm=>simp [mResL] at hm
  |_ :: _ :: _,hm=>simp [mResL] at hm
 subst hgs
 refine ⟨[a.eval (.tmp t)],T1,by simp [readOf,Act.eval],rfl,q3,q2.fresh,fun j x u hx hu=>?_⟩
 cases j with
 |zero =>
  simp only [List.getElem?_cons_zero,Option.some.injEq] at hx hu
  subst hx;subst hu
  exact .inl (RK.pv (k3 T1 q3 (q4 _ (by simp))))
 |succ j=>simp at hx
theorem prep_avoid {ok good:Nat→Prop} (hg:∀ b,Cellish w b→good b) {x:PV} {v:Value} (h:PRep ok w x v):PRep (fun b=>ok b∧good b) w x v:=by
 induction h with
 |int k n=>exact .int k n
 |bool b=>exact .bool b
 |str s=>exact .str s
 |nilf=>exact .nilf
 |void v h=>exact .void v h
 |nil sz a=>exact .nil sz a
 |nils sz a=>exact .nils sz a
 |list sz es b off c cv h1 h2 h3 h4 h6 h7 h8 ih=>exact .list sz es b off c cv ⟨h1,hg b h2⟩ h2 h3 h4 h6 h7 ih
 |agg cs arr h1 h2 h3 ih=>exact .agg cs arr h1 h2 ih
 |func f caps arr h1 h2 ih=>exact .func f caps arr h1 ih
 |iptr cs j b off cv h1 h2 h3 h4 ih=>exact .iptr cs j b off cv ⟨h1,hg b h2⟩ h2 h3 ih
def drop (T:Tags) (ms:List Nat):Tags:=fun b=>if b∈ms then .other else T b
theorem Sim.drop (h:Sim L σ T st a w) {ms:List Nat} (hms:∀ r∈ms,¬ Cellish w r) (hw:∀ b,b ∉ ms→w1.heap[b]?=w.heap[b]?) (hsz:w1.heap.size=w.heap.size):Sim L σ (drop T ms) st a w1:=by
 have hg:∀ b,Cellish w b→b ∉ ms:=fun b hc hb=>hms b hb hc
 have hp:∀ {x v},PRep (fun b=>T b=.ro) w x v→PRep (fun b=>Go.Proofs.YtioijcfcehhmdaaGreatDoor.drop T ms b=.ro) w1 x v:=fun h =>
  (prep_avoid hg h).frame fun b hb _=>⟨by simp [Go.Proofs.YtioijcfcehhmdaaGreatDoor.drop,hb.1,hb.2],hw b hb.2⟩
 have hrow:∀ {r sz es v},RowRep T w r sz es v→RowRep (Go.Proofs.YtioijcfcehhmdaaGreatDoor.drop T ms) w1 r sz es v:=fun {r sz es v} h=>by
  rcases h with h|⟨b,c,arr,E,h1,h2,h3,h4,h5,h6,h7,h8⟩
  ·exact .inl h
  ·have hb:b ∉ ms:=hg b ⟨_,_,_,h3⟩
   refine .inr ⟨b,c,arr,E,h1,by simp [Go.Proofs.YtioijcfcehhmdaaGreatDoor.drop,hb,h2],(hw b hb).trans h3,h4,h5,h6,h7,fun i e j x hi hj=>?_⟩
   obtain ⟨u,k1,k2,k3⟩:=h8 i e j x hi hj
   exact ⟨u,k1,k2,hp k3⟩
 have hbox:∀ o,o<st.boxes.length→σ o ∉ ms:=fun o ho=>hg _ (h.boxes o _ (List.getElem?_eq_getElem ho)).cellish
 have hhdr:∀ r:Root,r.low st.boxes.length→hdr σ a w1 r=hdr σ a w r:=fun r hr=>by
  cases r with
  |slot t=>rfl
  |part t i=>rfl
  |cell o j=>exact World.cell?_of_block (w:=w) (a:=⟨σ o,j,none⟩) (hw _ (hbox o hr))
 refine ⟨h.size,fun t av v ht hv=>?_,fun o bx ho=>?_,fun b hb=>?_⟩
 ·have hA:=h.slots t av v ht hv
  cases av with
  |pv x=>exact hp hA
  |row sz es=>exact hrow hA
  |ref r off len=>exact ⟨hA.1,fun sz es hr=>by rw [hhdr r hA.1];exact hA.2 sz es hr⟩
  |pbox o j=>exact hA
  |pel r i j=>exact ⟨hA.1,fun sz es hr=>by rw [hhdr r hA.1];exact hA.2 sz es hr⟩
  |fn f caps =>
   obtain ⟨arr,e1,e2,e3⟩:=hA
   refine ⟨arr,e1,e2,fun k x u hx hu=>?_⟩
   have:=e3 k x u hx hu
   cases x with
   |pv p=>exact hp this
   |_=>exact this
  |tup k l =>
   obtain ⟨arr,e1,e2,e3⟩:=hA
   refine ⟨arr,e1,e2,fun k x u hx hu=>?_⟩
   have:=e3 k x u hx hu
   cases x with
   |pv p=>exact hp this
   |row sz es=>exact hrow this
   |_=>exact this
  |yld=>exact hA
  |any=>trivial
 ·have hb:=hbox o (List.getElem?_eq_some_iff.1 ho).1
  obtain ⟨arr,E,g1,g2,g3,g4,g5⟩:=h.boxes o bx ho
  refine ⟨arr,E,(hw _ hb).trans g1,g2,by simp only [Go.Proofs.YtioijcfcehhmdaaGreatDoor.drop,if_neg hb];exact g3,g4,fun j bv u hj hu=>?_⟩
  obtain ⟨k1,k2⟩:=g5 j bv u hj hu
  refine ⟨k1,?_⟩
  cases bv with
  |pv x=>exact hp k2
  |row sz es=>exact hrow k2
 ·unfold Go.Proofs.YtioijcfcehhmdaaGreatDoor.drop
  split
  ·rfl
  ·exact h.fresh b (by omega)
def outT (T:Tags) (K:Nat):Tags:=fun b=>match T b with
 |.ro=>.ro
 |.row (.part k i)=>if k=K then .row (.part 0 i) else .other
 |_=>.other
theorem PartRep.frameTo {k:Nat} {x:AV} {v:Value} (h:PartRep T w K k x v):PartRep (outT T K) w 0 k x v:=by
 cases x with
 |pv p=>exact PRep.frame (fun b e _=>⟨by simp [outT,e],rfl⟩) h
 |row sz es=>exact RowRep.frame (fun b e _=>⟨by simp [outT,e],rfl⟩) (fun b e _=>⟨by simp [outT,e],rfl⟩) h
 |any=>trivial
 |_=>exact h
theorem RK.out0 {i:Nat} {x:Res} {u:Value} (h:RK T w K i x u):R1 (outT T K) w i x u:=by
 have hp:∀ {x v},PRep (fun b=>T b=.ro) w x v→PRep (fun b=>outT T K b=.ro) w x v:=fun h=>h.frame fun b hb _=>⟨by simp [outT,hb],rfl⟩
 have hrow:∀ {sz es},RowRep T w (.part K i) sz es u→RowRep (outT T K) w (.part 0 i) sz es u:=fun h=>RowRep.frame (fun b e _=>⟨by simp [outT,e],rfl⟩) (fun b e _=>⟨by simp [outT,e],rfl⟩) h
 obtain ⟨v,own⟩:=x
 cases v<;>cases own<;>first|exact hrow h|exact hp h|exact False.elim h
theorem RK.out {i:Nat} {x:Res} {u:Value} (h:RKo T w K i x u):R1 (outT T K) w i x u:=by
 rcases h with h|⟨_,cs,rfl,arr,rfl,h1,h2⟩
 ·exact RK.out0 h
 ·exact ⟨arr,rfl,h1,fun k x v hx hv=>PartRep.frameTo (h2 k x v hx hv)⟩
def fnOk (P:Program) (f:Nat) (fn:VFn):Bool :=
 match P.funcs[f]? with
 |some g=>(match g.body with
  |some c=>mC P c fn.body
  |none=>false)&&g.name != "runtime.NumGoroutine"&&g.ntmps==fn.ntmps&&decide (fn.nargs≤fn.ntmps)&&mResL P g.results.toList fn.results
 |none=>false
theorem fnOk_eq {f:Nat} {fn:VFn} (h:fnOk P f fn=true):callable P f=true∧∃ g c,P.funcs[f]?=some g∧g.body=some c∧mC P c fn.body=true∧g.ntmps=fn.ntmps∧fn.nargs≤fn.ntmps∧mResL P g.results.toList fn.results=true:=by
 unfold fnOk at h
 split at h
 case h_2=>cases h
 rename_i g hf
 simp only [Bool.and_eq_true,beq_iff_eq,bne_iff_ne,decide_eq_true_eq] at h
 obtain ⟨⟨⟨⟨h1,h2⟩,h3⟩,h4⟩,h5⟩:=h
 split at h1
 case h_2=>cases h1
 rename_i c hb
 exact ⟨by simp [callable,hf,h2,hb],g,c,hf,hb,h1,h3,h4,h5⟩
def plainJ (T0:Tags) (w:World):Nat→Tags→World→Prop:=fun _ T w'=>Below w.heap.size w w'∧∀ b,b<w.heap.size→T b=T0 b
theorem plainJ_keep {T0:Tags} (h0:∀ b,T0 b=.ro∨T0 b=.other) {k:Nat} {w w1 w2:World} (hc:Chg T T' w1 w2) (h:plainJ T0 w k T w1):plainJ T0 w k T' w2:=by
 obtain ⟨h1,h2⟩:=h
 refine ⟨h1.trans ⟨hc.os,hc.tape,hc.output,hc.size,fun b hb=>hc.same b (Nat.lt_of_lt_of_le hb h1.size) ?_⟩,fun b hb=>?_⟩
 ·rw [h2 b hb];exact h0 b
 ·rcases h0 b with e|e
  ·rw [e];exact hc.ro b (by rw [h2 b hb,e])
  ·rw [e];exact hc.other b (Nat.lt_of_lt_of_le hb h1.size) (by rw [h2 b hb,e])
theorem init_sim {T0:Tags} {args:List PV} {vs:List Value} {n:Nat} (hf:∀ b,w.heap.size≤b→T0 b=.other) (hl:vs.length=args.length) (hr:∀ (i:Nat) x v,args[i]?=some x→vs[i]?=some v→PRep (fun b=>T0 b=.ro) w x v) (ys:List (List PV)) (stop:Option (Option Nat)) :
  Sim L σ T0 ⟨args.map .pv++List.replicate (n - args.length) .any,[],ys,stop⟩ { tmps:=vs.toArray++Array.replicate (n - vs.toArray.size) undef,defers:=[] } w:=by
 refine ⟨by simp [hl],fun t av v ht hv=>?_,fun o bx ho=>by simp at ho,hf⟩
 simp only at ht hv
 rcases Nat.lt_or_ge t args.length with h|h
 ·rw [List.getElem?_append_left (by simpa using h),List.getElem?_map,List.getElem?_eq_getElem h] at ht
  rw [Array.getElem?_append_left (by simpa [hl] using h)] at hv
  cases ht
  exact hr t _ v (List.getElem?_eq_getElem h) (by simpa using hv)
 ·rw [List.getElem?_append_right (by simpa using h),List.getElem?_replicate] at ht
  split at ht
  ·cases ht;trivial
  ·cases ht
theorem code_call (hR:RecOk P rec) {f:Nat} {fn:VFn} {args:List PV} {rs:List Res} (hfn:fnOk P f fn=true) (hl:args.length=fn.nargs) {e:Ex} (he:∀ i,e≠.exit i) (he2:∀ t n,e≠.thr t n)
  (hb:rec fn.body ⟨args.map .pv++List.replicate (fn.ntmps - args.length) .any,[],[],none⟩=some (e,st)) (hrs:resultsOf st fn.results=some rs):CallOk P f args rs:=by
 intro T0 w vs h0 hf hlen hr hG
 obtain ⟨_,g,c,k1,k2,k3,k4,k5,k6⟩:=fnOk_eq hfn
 refine (callsIn_wide (n:=0)).1 (callsIn_of_wp_marks k1 k2 trivial ?_)
 rw [k4]
 have hsim:Sim 0 (fun _=>0) T0 ⟨args.map .pv++List.replicate (fn.ntmps - args.length) .any,[],[],none⟩ { tmps:=vs.toArray++Array.replicate (fn.ntmps - vs.toArray.size) undef,defers:=[] } w:=init_sim hf hlen hr [] none
 have hC:Ctx.Ok ⟨st.ys,none,plainJ T0 w⟩ P 0:=⟨fun k T T' w1 w2 hc h=>plainJ_keep (k:=k) h0 hc h,fun k T w1 h=>hG.frame fun b e hb=>⟨(h.2 b hb).trans e,h.1.block b hb⟩,fun s k T w ps vs hs=>by cases hs⟩
 have hJ:plainJ T0 w 0 T0 w:=⟨Below.refl _ _,fun _ _=>rfl⟩
 refine wpIn_mono (hR.wp (F:=Fence.wide) (L:=0) (C:=⟨st.ys,none,plainJ T0 w⟩) (n:=0) (.inl rfl) (Ctx.rec_wide _) hC c fn.body _ e st k3 hb rfl (List.prefix_refl _) _ T0 _ w hsim hJ) ?_
 rintro x a' w' ⟨rfl,σ',T',ms,q1,q2,q3,q4,q5,q6⟩
 obtain ⟨p1,p2⟩:=q2
 have key:LeavesInM Fence.wide 0 P g a'.tmps (fun e w'=>∃ v T',e=.returned v∧Below w.heap.size w w'∧(∀ b,b<w.heap.size→T' b=T0 b)∧(∀ b,w'.heap.size≤b→T' b=.other)∧ResRep T' w' rs v) a'.defers .returning w':=by
  rw [q5,List.append_nil]
  refine leavesM_marks (B:=w.heap.size) q6.2 (fun r hr=>⟨(q6.1 r hr).1,(q6.1 r hr).2.2⟩) fun w2 e1 e2 e3 e4 e5=>?_
  have q1':=q1.drop (fun r hr ⟨arr,E,q,e⟩=>by rw [(q6.1 r hr).2.2] at e;cases e) e5 e4
  obtain ⟨us,T2,r1,r2,r3,r4,r5⟩:=results_ok q1' k6 hrs
  have hms:∀ b,b<w.heap.size→b ∉ ms:=fun b hb hm=>by have:=(q6.1 b hm).1;omega
  have hT2:∀ b,b<w.heap.size→T2 b=T0 b:=fun b hb=>by
   have e:drop T' ms b=T0 b:=by simp only [drop,if_neg (hms b hb)];exact p2 b hb
   rcases h0 b with e0|e0
   ·rw [e0];exact r3.ro b (by rw [e,e0])
   ·rw [e0];exact r3.other b (by rw [e,e0])
  refine ⟨_,results_run r1,_,outT T2 st.slots.length,rfl,p1.trans ⟨e1,e2,e3,by omega,fun b hb=>e5 b (hms b hb)⟩,fun b hb=>?_,fun b hb=>?_,us.toArray,by simpa using r2,rfl,fun i x u hx hu=>RK.out (r5 i x u hx (by simpa using hu))⟩
  ·simp only [outT,hT2 b hb]
   rcases h0 b with e0|e0<;>rw [e0]
  ·simp only [outT,r4 b hb]
 cases e with
 |normal=>exact key
 |ret=>exact key
 |exit i=>exact absurd rfl (he i)
 |thr t n=>exact absurd rfl (he2 t n)
theorem init_simL {T0:Tags} {x:LArg} {v:Value} {args:List PV} {vs:List Value} {n:Nat} (hf:∀ b,w.heap.size≤b→T0 b=.other) (hx:LRep T0 w v x) (hl:vs.length=args.length) (hr:∀ (i:Nat) x v,args[i]?=some x→vs[i]?=some v→PRep (fun b=>T0 b=.ro) w x v) :
  ∃ σ:Nat→Nat,Sim 0 σ T0 ⟨x.av :: (args.map .pv++List.replicate (n - (args.length+1)) .any),x.boxes,[],none⟩ { tmps:=(v :: vs).toArray++Array.replicate (n - (v :: vs).toArray.size) undef,defers:=[] } w∧∀ b,v=.pointer (some ⟨b,0,none⟩)→(∃ cs,x=.box cs)→σ 0=b:=by
 obtain ⟨b0,hb0⟩:∃ b0,∀ cs,x=.box cs→v=.pointer (some ⟨b0,0,none⟩)∧BoxRep T0 w b0 0 ⟨false,cs.map .pv⟩:=by
  cases x with
  |box cs=>obtain ⟨b,h1,h2⟩:=hx;exact ⟨b,fun cs' e=>by cases e;exact ⟨h1,h2⟩⟩
  |row sz es=>exact ⟨0,fun _ e=>by cases e⟩
  |own l=>exact ⟨0,fun _ e=>by cases e⟩
 refine ⟨fun _=>b0,⟨by simp [hl];omega,fun t av u ht hu=>?_,fun o bx ho=>?_,hf⟩,fun b hb ⟨cs,hcs⟩=>?_⟩
 ·cases t with
  |zero =>
   simp only [List.getElem?_cons_zero,Option.some.injEq] at ht
   have hu':u=v:=by
    have:((v :: vs).toArray++Array.replicate (n - (v :: vs).toArray.size) undef)[0]?=some v:=by rw [Array.getElem?_append_left (by simp)];rfl
    rw [this] at hu;exact (Option.some.inj hu).symm
   subst hu'
   subst ht
   cases x with
   |row sz es=>exact hx
   |own l=>obtain ⟨arr,h1,h2,h3⟩:=hx;exact ⟨arr,h1,h2,h3⟩
   |box cs=>exact ⟨by simp [LArg.boxes],(hb0 cs rfl).1⟩
  |succ t =>
   rw [List.getElem?_cons_succ] at ht
   rcases Nat.lt_or_ge t args.length with h|h
   ·rw [List.getElem?_append_left (by simpa using h),List.getElem?_map,List.getElem?_eq_getElem h] at ht
    simp only at hu
    rw [Array.getElem?_append_left (by simp [hl];omega)] at hu
    cases ht
    exact hr t _ u (List.getElem?_eq_getElem h) (by simpa using hu)
   ·rw [List.getElem?_append_right (by simpa using h),List.getElem?_replicate] at ht
    split at ht
    ·cases ht;trivial
    ·cases ht
 ·cases x with
  |box cs =>
   cases o with
   |zero =>
    simp only [LArg.boxes,List.getElem?_cons_zero,Option.some.injEq] at ho
    subst ho
    exact (hb0 cs rfl).2
   |succ o=>simp [LArg.boxes] at ho
  |row sz es=>simp [LArg.boxes] at ho
  |own l=>simp [LArg.boxes] at ho
 ·have:=(hb0 cs hcs).1
  rw [this] at hb
  injection hb with hb
  injection hb with hb
  injection hb with hb
def linJ (T0:Tags) (w:World):Nat→Tags→World→Prop:=fun _ T w'=>w.heap.size≤w'.heap.size∧w'.os=w.os∧w'.tape=w.tape∧w'.output=w.output∧∀ b,b<w.heap.size→(T0 b=.ro∨T0 b=.other)→w'.heap[b]?=w.heap[b]?∧T b=T0 b
theorem linJ_keep {T0:Tags} {k:Nat} {w w1 w2:World} (hc:Chg T T' w1 w2) (h:linJ T0 w k T w1):linJ T0 w k T' w2:=by
 obtain ⟨h1,h2,h3,h4,h5⟩:=h
 refine ⟨Nat.le_trans h1 hc.size,hc.os.trans h2,hc.tape.trans h3,hc.output.trans h4,fun b hb e=>?_⟩
 obtain ⟨k1,k2⟩:=h5 b hb e
 have hl:=Nat.lt_of_lt_of_le hb h1
 refine ⟨(hc.same b hl (by rw [k2];exact e)).trans k1,?_⟩
 rcases e with e|e
 ·rw [e];exact hc.ro b (by rw [k2,e])
 ·rw [e];exact hc.other b hl (by rw [k2,e])
theorem code_callL (hR:RecOk P rec) {f:Nat} {fn:VFn} {x:LArg} {args:List PV} {rs:List Res} {out:Option (List PV)} (hfn:fnOk P f fn=true) {e:Ex} (he:∀ i,e≠.exit i) (he2:∀ t n,e≠.thr t n)
  (hb:rec fn.body ⟨x.av :: (args.map .pv++List.replicate (fn.ntmps - (args.length+1)) .any),x.boxes,[],none⟩=some (e,st)) (hrs:linRes x st fn.results=some (rs,out)):CallOkL P f x args rs out:=by
 intro T0 w v vs hf hx hlen hr hG
 obtain ⟨_,g,c,k1,k2,k3,k4,k5,k6⟩:=fnOk_eq hfn
 refine (callsIn_wide (n:=0)).1 (callsIn_of_wp_marks k1 k2 trivial ?_)
 rw [k4]
 obtain ⟨σ0,hsim,hσ0⟩:=init_simL (n:=fn.ntmps) hf hx hlen hr
 have hC:Ctx.Ok ⟨st.ys,none,linJ T0 w⟩ P 0:=⟨fun k T T' w1 w2 hc h=>linJ_keep (k:=k) hc h,fun k T w1 h=>hG.frame fun b e hb=>⟨by rw [(h.2.2.2.2 b hb (.inl e)).2,e],(h.2.2.2.2 b hb (.inl e)).1⟩,fun s k T w ps vs hs=>by cases hs⟩
 have hJ:linJ T0 w 0 T0 w:=⟨Nat.le_refl _,rfl,rfl,rfl,fun _ _ _=>⟨rfl,rfl⟩⟩
 refine wpIn_mono (hR.wp (F:=Fence.wide) (L:=0) (C:=⟨st.ys,none,linJ T0 w⟩) (n:=0) (.inl rfl) (Ctx.rec_wide _) hC c fn.body _ e st k3 hb rfl (List.prefix_refl _) _ T0 _ w hsim hJ) ?_
 rintro x' a' w' ⟨rfl,σ',T',ms,q1,q2,q3,q4,q5,q6⟩
 obtain ⟨p1,p2,p3,p4,p5⟩:=q2
 have key:LeavesInM Fence.wide 0 P g a'.tmps (fun e w'=>∃ u T',e=.returned u∧w.heap.size≤w'.heap.size∧w'.os=w.os∧w'.tape=w.tape∧w'.output=w.output∧(∀ b,b<w.heap.size→(T0 b=.ro∨T0 b=.other)→w'.heap[b]?=w.heap[b]?∧T' b=T0 b)∧(∀ b,w'.heap.size≤b→T' b=.other)∧ResRep T' w' rs u∧LOut T' w' v out) a'.defers .returning w':=by
  rw [q5,List.append_nil]
  refine leavesM_marks (B:=w.heap.size) q6.2 (fun r hr=>⟨(q6.1 r hr).1,(q6.1 r hr).2.2⟩) fun w2 e1 e2 e3 e4 e5=>?_
  have q1':=q1.drop (fun r hr ⟨arr,E,q,e⟩=>by rw [(q6.1 r hr).2.2] at e;cases e) e5 e4
  have hms:∀ b,b<w.heap.size→b ∉ ms:=fun b hb hm=>by have:=(q6.1 b hm).1;omega
  -- what the results leave of the tags
  have fin:∀ (T1 T2:Tags) (K:Nat),Still (Go.Proofs.YtioijcfcehhmdaaGreatDoor.drop T' ms) T1→Still T1 T2→∀ b,b<w.heap.size→(T0 b=.ro∨T0 b=.other)→w2.heap[b]?=w.heap[b]?∧outT T2 K b=T0 b:=fun T1 T2 K s1 s2 b hb e=>by
   obtain ⟨y1,y2⟩:=p5 b hb e
   refine ⟨(e5 b (hms b hb)).trans y1,?_⟩
   have ed:Go.Proofs.YtioijcfcehhmdaaGreatDoor.drop T' ms b=T0 b:=by simp only [Go.Proofs.YtioijcfcehhmdaaGreatDoor.drop,if_neg (hms b hb)];exact y2
   rcases e with e|e
   ·simp only [outT,s2.ro b (s1.ro b (by rw [ed,e])),e]
   ·simp only [outT,s2.other b (s1.other b (by rw [ed,e])),e]
  have plain:(∀ cs,x≠.box cs)→resultsOf st fn.results=some rs→out=none→∃ u T',(results g a'.tmps).run P w2=.ok u w2∧(∀ b,b<w.heap.size→(T0 b=.ro∨T0 b=.other)→w2.heap[b]?=w.heap[b]?∧T' b=T0 b)∧(∀ b,w2.heap.size≤b→T' b=.other)∧ResRep T' w2 rs u∧LOut T' w2 v out:=fun _ h1 h2=>by
   obtain ⟨us,T2,r1,r2,r3,r4,r5⟩:=results_ok q1' k6 h1
   refine ⟨_,outT T2 st.slots.length,results_run r1,fin _ T2 _ (Still.refl _) r3,fun b hb=>by simp only [outT,r4 b hb],⟨us.toArray,by simpa using r2,rfl,fun i x u hx hu=>RK.out (r5 i x u hx (by simpa using hu))⟩,by rw [h2];trivial⟩
  have pack:∀ (u:Value) (T2:Tags),(∀ b,b<w.heap.size→(T0 b=.ro∨T0 b=.other)→w2.heap[b]?=w.heap[b]?∧T2 b=T0 b)→(∀ b,w2.heap.size≤b→T2 b=.other)→ResRep T2 w2 rs u→LOut T2 w2 v out→∃ u' T',Ending.returned u=.returned u'∧w.heap.size≤w2.heap.size∧w2.os=w.os∧w2.tape=w.tape∧w2.output=w.output∧(∀ b,b<w.heap.size→(T0 b=.ro∨T0 b=.other)→w2.heap[b]?=w.heap[b]?∧T' b=T0 b)∧(∀ b,w2.heap.size≤b→T' b=.other)∧ResRep T' w2 rs u'∧LOut T' w2 v out:=fun u T2 s1 s2 s3 s4 =>
   ⟨u,T2,rfl,by omega,e1.trans p2,e2.trans p3,e3.trans p4,s1,s2,s3,s4⟩
  unfold linRes at hrs
  cases x with
  |row sz es =>
   obtain ⟨l,h1,h2⟩:=map_some' hrs
   cases h2
   obtain ⟨u,T2,s0,s1,s2,s3,s4⟩:=plain (fun _ e=>by cases e) h1 rfl
   exact ⟨u,s0,pack u T2 s1 s2 s3 s4⟩
  |own lo =>
   obtain ⟨l,h1,h2⟩:=map_some' hrs
   cases h2
   obtain ⟨u,T2,s0,s1,s2,s3,s4⟩:=plain (fun _ e=>by cases e) h1 rfl
   exact ⟨u,s0,pack u T2 s1 s2 s3 s4⟩
  |box cs =>
   simp only at hrs
   split at hrs
   case h_2=>cases hrs
   rename_i bx hbx
   split at hrs
   ·cases hrs
   rename_i hfz
   have hfz:bx.fz=false:=by simpa using hfz
   obtain ⟨l,h1,h2⟩:=map_some' hrs
   cases h2
   obtain ⟨T1,t1,t2,_,_,_⟩:=q1'.freezeRowsB 0
   obtain ⟨us,T2,r1,r2,r3,r4,r5,_,r7⟩:=result_list 0 t1 k6 h1 (Nat.le_refl _)
   have hσ:σ' 0=σ0 0:=q3 0 (by simp [LArg.boxes])
   obtain ⟨arr,E,g1,g2,g3,g4,g5⟩:=t1.boxes 0 bx hbx
   have hT1:T1 (σ' 0)=.box 0:=by rw [g3];simp [hfz]
   have hrow:∀ (j s:Nat) (l:List PV),bx.cs[j]?≠some (BV.row s l):=fun j s l e=>by
    unfold St.freezeRows at hbx
    cases h0:st.boxes[0]? with
    |none=>rw [h0] at hbx;simp only at hbx;rw [h0] at hbx;cases hbx
    |some b0 =>
     rw [h0] at hbx
     have hl0:0<st.boxes.length:=(List.getElem?_eq_some_iff.1 h0).1
     simp only [List.getElem?_set_self hl0,Option.some.injEq] at hbx
     rw [← hbx] at e
     obtain ⟨x,_,hx⟩:=frozen_get e
     cases hx
   refine ⟨_,results_run r1,pack _ (outT T2 (st.freezeRows 0).slots.length) (fin T1 T2 _ t2 r3) (fun b hb=>by simp only [outT,r4 b hb]) ⟨us.toArray,by simpa using r2,rfl,fun i x u hx hu=>RK.out (.inl (by simpa using r5 i x u hx (by simpa using hu)))⟩ fun b hv=>?_⟩
   have hb0:σ' 0=b:=hσ.trans (hσ0 b hv ⟨cs,rfl⟩)
   rw [hb0] at g1 hT1
   refine ⟨by simp only [outT,r7 b 0 hT1],arr,E,g1,by simpa using g2,fun j x u hx hu=>?_⟩
   rw [List.getElem?_map] at hx
   cases hc:bx.cs[j]? with
   |none=>rw [hc] at hx;cases hx
   |some bv =>
    rw [hc] at hx
    have hx:=Option.some.inj hx
    subst hx
    obtain ⟨y1,y2⟩:=g5 j bv u hc hu
    refine ⟨y1,?_⟩
    cases bv with
    |pv p=>exact PRep.frame (fun b hb _=>⟨by simp only [outT,r3.ro b hb],rfl⟩) y2
    |row s l=>exact absurd hc (hrow j s l)
 cases e with
 |normal=>exact key
 |ret=>exact key
 |exit i=>exact absurd rfl (he i)
 |thr t n=>exact absurd rfl (he2 t n)
end
end Go.Proofs.YtioijcfcehhmdaaGreatDoor

namespace Go.Proofs.YtioijcfcehhmdaaGreatDoor
open Go.RowKit
def zval:PV→Value
 |.int k n=>.int k n
 |.bool b=>.bool b
 |_=>.slice none 0 0
def zeroAll:List Nat→List (List PV)→World→World
 |b :: bs,z :: zs,w=>zeroAll bs zs (w.setRow b (z.map zval).toArray)
 |_,_,w=>w
def RescOk (P:Program) (r t:Nat):Prop:=callable P r=true ∧
 (∀ (b:Nat) (m n:Int) (E:TypeId) (w:World),w.heap[b]?=some (.cells #[.int .i64 m] E (0,0))→CallsDIn Fence.wide 0 P r #[.pointer (some ⟨b,0,none⟩)] (.panicking [{ v:=.iface t (.int .i64 n),recovered:=false }]) w fun e u' w'=>e=.returned (.tuple #[])∧settle u'=.returning∧w'=w.setRow b #[.int .i64 n]) ∧
 (∀ (b:Nat) (w:World),CallsDIn Fence.wide 0 P r #[.pointer (some ⟨b,0,none⟩)] .returning w fun e u' w'=>e=.returned (.tuple #[])∧settle u'=.returning∧w'=w)
def ptrs (bs:List Nat):Array Value:=(bs.map fun b=>Value.pointer (some ⟨b,0,none⟩)).toArray
def ClosOk (P:Program) (g:Nat) (zs:List (List PV)):Prop:=callable P g=true ∧
 (∀ (be:Nat) (bs:List Nat) (E:TypeId) (w:World),bs.length=zs.length→w.heap[be]?=some (.cells #[.int .i64 0] E (0,0))→CallsDIn Fence.wide 0 P g (ptrs (be :: bs)) .returning w fun e u' w'=>e=.returned (.tuple #[])∧settle u'=.returning∧w'=w) ∧
 (∀ (be:Nat) (bs:List Nat) (m:Int) (E:TypeId) (w:World),m≠0→bs.length=zs.length→w.heap[be]?=some (.cells #[.int .i64 m] E (0,0)) →
  (∀ (i:Nat) b z,bs[i]?=some b→zs[i]?=some z→∃ arr E,w.heap[b]?=some (.cells arr E (0,0))∧arr.size=z.length)→(be :: bs).Nodup →
  CallsDIn Fence.wide 0 P g (ptrs (be :: bs)) .returning w fun e u' w'=>e=.returned (.tuple #[])∧settle u'=.returning∧w'=zeroAll bs zs w)
def deferOf:Op→Option (Operand × List Operand)
 |.defer c=>match c.callee with
  |.value y=>some (y,c.args.toList)
  |_=>none
 |_=>none
def isResc (fn:DFn):List Oper→Bool
 |[o]=>o.guard.isNone&&o.dst.isNone&&(match deferOf o.op with
  |some (.func f,[.tmp s])=>f==fn.resc&&s==fn.e
  |_=>false)
 |_=>false
def isClos (P:Program) (fn:DFn):List Oper→Bool
 |[o,o2]=>match fn.clos with
  |some (d,g,zs)=>o.guard.isNone&&m1 P o (.mkf d g (.t fn.e :: zs.map fun z=>.t z.1))&&o2.guard.isNone&&o2.dst.isNone&&(match deferOf o2.op with
   |some (.tmp s,[])=>s==d
   |_=>false)
  |none=>false
 |_=>false
def mD (P:Program) (fn:DFn):Code→Bool
 |.seq r0 (.seq (.region _ o1 false) c)=>mC P r0 fn.pre&&(match fn.clos with
  |none=>isResc fn o1.toList&&mC P c fn.body
  |some _=>(match c with
   |.seq (.region _ o2 false) rest=>isClos P fn o1.toList&&isResc fn o2.toList&&mC P rest fn.body
   |_=>false))
 |_=>false
def dfnOk (P:Program) (f:Nat) (fn:DFn):Bool :=
 match P.funcs[f]? with
 |some g=>(match g.body with
  |some c=>mD P fn c
  |none=>false)&&g.name != "runtime.NumGoroutine"&&g.ntmps==fn.ntmps&&decide (fn.nargs≤fn.ntmps)&&mResL P g.results.toList fn.results
 |none=>false
section
variable {P:Program} {L K nb n:Nat} {F:Fence} {σ σ':Nat→Nat} {T T' T1 T2:Tags} {st st' st1:St} {a a1:Act} {w w1:World} {r:Root} {o:Oper} {opl:Array Oper} {Q:Exit→Act→World→Prop}
 {rec:VCode→St→Option (Ex × St)} {env:Env}
theorem dfnOk_eq {f:Nat} {fn:DFn} (h:dfnOk P f fn=true):callable P f=true∧∃ g c,P.funcs[f]?=some g∧g.body=some c∧mD P fn c=true∧g.ntmps=fn.ntmps∧fn.nargs≤fn.ntmps∧mResL P g.results.toList fn.results=true:=by
 unfold dfnOk at h
 split at h
 case h_2=>cases h
 rename_i g hf
 simp only [Bool.and_eq_true,beq_iff_eq,bne_iff_ne,decide_eq_true_eq] at h
 obtain ⟨⟨⟨⟨h1,h2⟩,h3⟩,h4⟩,h5⟩:=h
 split at h1
 case h_2=>cases h1
 rename_i c hb
 exact ⟨by simp [callable,hf,h2,hb],g,c,hf,hb,h1,h3,h4,h5⟩
theorem Sim.withDefers (h:Sim L σ T st a w) (ds:List Deferred):Sim L σ T st { a with defers:=ds } w:=⟨h.size,h.slots,h.boxes,h.fresh⟩
theorem leavesM_marks2 {fn:Func} {tmps:Array Value} {R:Ending→World→Prop} {B:Nat} {ds:List Deferred} {u:FrameMode} (hu:u≠.run):∀ {ms:List Nat} {w:World},ms.Nodup→(∀ r∈ms,B≤r∧w.heap[r]?=some (.deferred (some []))) →
  (∀ w',w'.os=w.os→w'.tape=w.tape→w'.output=w.output→w'.heap.size=w.heap.size→(∀ b,b ∉ ms→w'.heap[b]?=w.heap[b]?)→LeavesInM Fence.wide 0 P fn tmps R ds u w') →
  LeavesInM Fence.wide 0 P fn tmps R (ms.map markOf++ds) u w
 |[],w,_,_,h=>h w rfl rfl rfl rfl fun _ _=>rfl
 |r :: ms,w,hnd,hms,h=>by
  simp only [List.map_cons,List.cons_append,LeavesInM]
  obtain ⟨hn1,hn2⟩:=List.nodup_cons.1 hnd
  obtain ⟨k1,k2⟩:=hms r (by simp)
  have hput:∀ b,b≠r→(w.putObj r (.deferred none)).heap[b]?=w.heap[b]?:=fun b hb=>by simp [World.putObj,Array.getElem?_setIfInBounds,Ne.symm hb]
  refine ⟨hu,.inl ⟨r,_,rfl,run_takeDeferred k2,leavesM_marks2 hu (B:=B) hn2 (fun r' hr'=>?_) fun w' e1 e2 e3 e4 e5=>h w' e1 e2 e3 (by rw [e4];simp [World.putObj]) fun b hb=>?_⟩⟩
  ·obtain ⟨q1,q2⟩:=hms r' (by simp [hr'])
   exact ⟨q1,by rw [hput r' (fun e=>hn1 (e ▸ hr'))];exact q2⟩
  ·simp only [List.mem_cons,not_or] at hb
   rw [e5 b hb.2,hput b hb.1]
theorem leavesM_call {fn:Func} {tmps:Array Value} {R:Ending→World→Prop} {ds:List Deferred} {u:FrameMode} {g:Nat} {arr args:Array Value} (hu:u≠.run) (hc:callable P g=true)
  {w':World} (h:CallsDIn Fence.wide 0 P g (args++arr) u w fun e u' w2=>e=.returned (.tuple #[])∧settle u'=.returning∧w2=w') (hn:LeavesInM Fence.wide 0 P fn tmps R ds .returning w') :
  LeavesInM Fence.wide 0 P fn tmps R ({ target:=.fn (.func g) arr,args:=args } :: ds) u w:=by
 simp only [LeavesInM]
 refine ⟨hu,.inr ⟨(fun e=>by cases e),_,_,g,_,rfl,run_callFunc hc _ _,(fun _ _=>trivial),h.mono ?_⟩⟩
 rintro e u' w2 ⟨rfl,h2,rfl⟩
 simp only [h2]
 exact hn
theorem naught_rep {ok:Nat→Prop} {x:PV} (h:x.naught=true):PRep ok w x (zval x)∧(zval x).oneCell'=true:=by
 cases x with
 |int k n=>exact ⟨.int _ _,rfl⟩
 |bool b=>exact ⟨.bool _,rfl⟩
 |list sz l=>cases l with
  |nil=>exact ⟨.nil _ _,rfl⟩
  |cons _ _=>cases h
 |nils sz=>exact ⟨.nils _ _,rfl⟩
 |_=>cases h
theorem Sim.setVar (h:Sim L σ T st a w) {p:Nat} {vals:List PV} (hp:st.setVar p vals=some st'):(∃ arr E,w.heap[σ p]?=some (.cells arr E (0,0))∧arr.size=vals.length)∧Sim L σ T st' a (w.setRow (σ p) (vals.map zval).toArray) ∧
  Chg T T w (w.setRow (σ p) (vals.map zval).toArray)∧T (σ p)=.box p:=by
 unfold St.setVar at hp
 split at hp
 case h_2=>cases hp
 rename_i bx hb
 split at hp
 ·cases hp
 rename_i hc
 simp only [Bool.or_eq_true,Bool.not_eq_true',decide_eq_false_iff_not,not_or,Bool.not_eq_true,Classical.not_not,Bool.not_eq_false] at hc
 obtain ⟨⟨c1,c2⟩,c3⟩:=hc
 cases Option.some.inj hp
 obtain ⟨arr,E,g1,g2,g3,g4,g5⟩:=h.boxes p bx hb
 have:=h.setBox (T':=T) (cs':=vals.map .pv) (arr':=(vals.map zval).toArray) id hb c1 g1 (by simp [c2]) (by simp [g2,c2]) (fun k bv u hk hu=>by
  rw [List.getElem?_map] at hk
  cases hx:vals[k]? with
  |none=>rw [hx] at hk;cases hk
  |some x =>
   rw [hx] at hk
   cases hk
   rw [List.getElem?_toArray,List.getElem?_map,hx] at hu
   cases hu
   obtain ⟨q1,q2⟩:=naught_rep (w:=w.setRow (σ p) (vals.map zval).toArray) (ok:=fun b=>T b=.ro) (List.all_eq_true.1 c3 x (List.mem_of_getElem? hx))
   exact ⟨q2,q1⟩) (fun x=>.inr ⟨rfl,fun k _ s l hk=>by
  rw [List.getElem?_map] at hk
  cases hx:vals[k]? with
  |none=>rw [hx] at hk;cases hk
  |some x=>rw [hx] at hk;cases hk⟩) (fun _ e=>e) (fun _ _ e=>e) (fun _ e=>e) (fun _ _ _ _ _ e=>e) (fun _ _ _ _ _ e=>e) (fun _ _ _ _ e=>e)
 rw [List.map_id] at this
 exact ⟨⟨arr,E,g1,by omega⟩,this.1,this.2,by rw [g3,c1];rfl⟩
theorem setVar_boxes {p:Nat} {vals:List PV} (hp:st.setVar p vals=some st'):(∃ bx:Box,st.boxes[p]?=some bx∧bx.fz=false∧bx.cs.length=vals.length)∧∀ (q:Nat) (bx':Box),st'.boxes[q]?=some bx'→∃ bx:Box,st.boxes[q]?=some bx∧bx.fz=bx'.fz∧bx.cs.length=bx'.cs.length:=by
 unfold St.setVar at hp
 split at hp
 case h_2=>cases hp
 rename_i bx hb
 split at hp
 ·cases hp
 rename_i hc
 simp only [Bool.or_eq_true,Bool.not_eq_true',decide_eq_false_iff_not,not_or,Bool.not_eq_true,Classical.not_not,Bool.not_eq_false] at hc
 obtain ⟨⟨c1,c2⟩,c3⟩:=hc
 cases Option.some.inj hp
 refine ⟨⟨bx,hb,c1,c2⟩,fun q bx' hq=>?_⟩
 simp only [List.getElem?_set] at hq
 split at hq
 ·rename_i e
  subst e
  split at hq
  ·cases hq;exact ⟨bx,hb,rfl,by simp [c2]⟩
  ·cases hq
 ·exact ⟨bx',hq,rfl,rfl⟩
theorem setVars_boxes:∀ {os:List Nat} {zs:List (List PV)} {st:St},St.setVars os zs st=some st'→os.length=zs.length∧∀ (i:Nat) p z,os[i]?=some p→zs[i]?=some z→∃ bx:Box,st.boxes[p]?=some bx∧bx.fz=false∧bx.cs.length=z.length
 |[],[],st,_=>⟨rfl,fun i p z h=>by simp at h⟩
 |[],_ :: _,st,h=>by simp [St.setVars] at h
 |_ :: _,[],st,h=>by simp [St.setVars] at h
 |o :: os,z :: zs,st,h=>by
  simp only [St.setVars] at h
  obtain ⟨s1,h1,h2⟩:=bind_some h
  obtain ⟨g1,g2⟩:=setVar_boxes h1
  obtain ⟨k1,k2⟩:=setVars_boxes h2
  refine ⟨by simp [k1],fun i p z' hp hz=>?_⟩
  cases i with
  |zero=>simp only [List.getElem?_cons_zero,Option.some.injEq] at hp hz;subst hp;subst hz;exact g1
  |succ i =>
   obtain ⟨bx',q1,q2,q3⟩:=k2 i p z' (by simpa using hp) (by simpa using hz)
   obtain ⟨bx,r1,r2,r3⟩:=g2 p bx' q1
   exact ⟨bx,r1,r2.trans q2,r3.trans q3⟩
theorem Sim.setVars:∀ {os:List Nat} {zs:List (List PV)} {st:St} {w:World},Sim L σ T st a w→St.setVars os zs st=some st'→Sim L σ T st' a (zeroAll (os.map σ) zs w)∧Chg T T w (zeroAll (os.map σ) zs w)
 |[],[],st,w,h,hp=>by
  simp only [St.setVars,Option.some.injEq] at hp
  subst hp
  exact ⟨h,Chg.refl T w⟩
 |[],_ :: _,st,w,_,h=>by simp [St.setVars] at h
 |_ :: _,[],st,w,_,h=>by simp [St.setVars] at h
 |o :: os,z :: zs,st,w,hs,h=>by
  simp only [St.setVars] at h
  obtain ⟨s1,h1,h2⟩:=bind_some h
  obtain ⟨_,g1,g2,_⟩:=hs.setVar h1
  obtain ⟨k1,k2⟩:=Sim.setVars g1 h2
  exact ⟨k1,g2.trans k2⟩
theorem Sim.varInt (h:Sim L σ T st a w) {p:Nat} {m:Int} (hp:st.varInt p=some m):(∃ E,w.heap[σ p]?=some (.cells #[.int .i64 m] E (0,0)))∧T (σ p)=.box p:=by
 unfold St.varInt at hp
 split at hp
 case h_2=>cases hp
 rename_i m' hb
 cases Option.some.inj hp
 obtain ⟨arr,E,g1,g2,g3,g4,g5⟩:=h.boxes p _ hb
 refine ⟨⟨E,?_⟩,g3⟩
 match arr,g2 with
 |⟨[u]⟩,_ =>
  have:=(g5 0 _ u rfl rfl).2
  rw [PRep.int_inv this] at g1
  exact g1
theorem code_thr (hR:RecOk P rec) {f:Nat} {fn:VFn} {args:List PV} {t:Nat} {m:Int} (hfn:fnOk P f fn=true) (hl:args.length=fn.nargs)
  (hb:rec fn.body ⟨args.map .pv++List.replicate (fn.ntmps - args.length) .any,[],[],none⟩=some (.thr t m,st)):ThrOk P f args t m:=by
 intro T0 w vs h0 hf hlen hr hG
 obtain ⟨_,g,c,k1,k2,k3,k4,k5,k6⟩:=fnOk_eq hfn
 refine (callsIn_wide (n:=0)).1 (callsIn_of_wp_marks k1 k2 trivial ?_)
 rw [k4]
 have hsim:Sim 0 (fun _=>0) T0 ⟨args.map .pv++List.replicate (fn.ntmps - args.length) .any,[],[],none⟩ { tmps:=vs.toArray++Array.replicate (fn.ntmps - vs.toArray.size) undef,defers:=[] } w:=init_sim hf hlen hr [] none
 have hC:Ctx.Ok ⟨st.ys,none,plainJ T0 w⟩ P 0:=⟨fun k T T' w1 w2 hc h=>plainJ_keep (k:=k) h0 hc h,fun k T w1 h=>hG.frame fun b e hb=>⟨(h.2 b hb).trans e,h.1.block b hb⟩,fun s k T w ps vs hs=>by cases hs⟩
 have hJ:plainJ T0 w 0 T0 w:=⟨Below.refl _ _,fun _ _=>rfl⟩
 refine wpIn_mono (hR.wp (F:=Fence.wide) (L:=0) (C:=⟨st.ys,none,plainJ T0 w⟩) (n:=0) (.inl rfl) (Ctx.rec_wide _) hC c fn.body _ _ st k3 hb rfl (List.prefix_refl _) _ T0 _ w hsim hJ) ?_
 rintro x a' w' ⟨rfl,σ',T',ms,q1,q2,q3,q4,q5,q6⟩
 obtain ⟨p1,p2⟩:=q2
 simp only [toX,bodyPostM]
 rw [q5]
 refine leavesM_marks2 (B:=w.heap.size) (by simp) q6.2 (fun r hr=>⟨(q6.1 r hr).1,(q6.1 r hr).2.2⟩) fun w2 e1 e2 e3 e4 e5=>?_
 have hms:∀ b,b<w.heap.size→b ∉ ms:=fun b hb hm=>by have:=(q6.1 b hm).1;omega
 exact ⟨rfl,p1.trans ⟨e1,e2,e3,by omega,fun b hb=>e5 b (hms b hb)⟩⟩
theorem mapM_box {caps:List AV} {os:List Nat} (h:caps.mapM boxOf=some os):caps=os.map (.pbox · 0):=by
 obtain ⟨l1,l2⟩:=mapM_some h
 refine List.ext_getElem? fun i=>?_
 rw [List.getElem?_map]
 cases hc:caps[i]? with
 |none =>
  have:=List.getElem?_eq_none_iff.1 hc
  rw [List.getElem?_eq_none (by omega)]
  rfl
 |some c =>
  obtain ⟨q,g1,g2⟩:=l2 i c hc
  rw [g2]
  unfold boxOf at g1
  split at g1
  ·cases g1;rfl
  ·cases g1
set_option maxHeartbeats 1000000 in
theorem code_dfn (hR:RecOk P rec) {f:Nat} {fn:DFn} {args:List PV} {rs:List Res} (hfn:dfnOk P f fn=true) (hresc:RescOk P fn.resc fn.t) (hclos:∀ d g zs,fn.clos=some (d,g,zs)→ClosOk P g (zs.map (·.2))) (hl:args.length=fn.nargs) {s0 s1 s4:St} {e:Ex}
  (hp:rec fn.pre ⟨args.map .pv++List.replicate (fn.ntmps - args.length) .any,[],[],none⟩=some (.normal,s0)) (hm:fn.begun s0=some s1) (hb:rec fn.body s1=some (e,s4)) (he:dfnEnd fn s1 e s4=some rs):CallOk P f args rs:=by
 intro T0 w vs h0 hf hlen hr hG
 obtain ⟨_,g,c,k1,k2,k3,k4,k5,k6⟩:=dfnOk_eq hfn
 refine (callsIn_wide (n:=0)).1 (callsIn_of_wp_marks k1 k2 trivial ?_)
 rw [k4]
 have hsim:Sim 0 (fun _=>0) T0 ⟨args.map .pv++List.replicate (fn.ntmps - args.length) .any,[],[],none⟩ { tmps:=vs.toArray++Array.replicate (fn.ntmps - vs.toArray.size) undef,defers:=[] } w:=init_sim hf hlen hr [] none
 have hC:Ctx.Ok ⟨s4.ys,none,plainJ T0 w⟩ P 0:=⟨fun k T T' w1 w2 hc h=>plainJ_keep (k:=k) h0 hc h,fun k T w1 h=>hG.frame fun b e hb=>⟨(h.2 b hb).trans e,h.1.block b hb⟩,fun s k T w ps vs hs=>by cases hs⟩
 have hJ:plainJ T0 w 0 T0 w:=⟨Below.refl _ _,fun _ _=>rfl⟩
 -- the deferred calls
 unfold dfnEnd at he
 obtain ⟨oe,ho,he⟩:=bind_some he
 obtain ⟨s5,h5,he⟩:=bind_some he
 obtain ⟨s6,h6,hrs⟩:=bind_some he
 -- the body,its surroundings laid
 have body:∀ (rest:Code) (σ2:Nat→Nat) (T2:Tags) (a2:Act) (w2:World) (ms1:List Nat) (dl:List Deferred),mC P rest fn.body=true→Sim 0 σ2 T2 s1 a2 w2→plainJ T0 w 0 T2 w2→Stays T0 T2 w w2→s1.stop=none→s1.ys <+: s4.ys→Marks T2 w w2 ms1 →
   a2.defers={ target:=.fn (.func fn.resc) #[],args:=#[.pointer (some ⟨σ2 oe,0,none⟩)] } :: (dl++ms1.map markOf) →
   ((fn.clos=none∧dl=[])∨∃ d gf zs os,fn.clos=some (d,gf,zs)∧heldOf s1 d gf=some os∧(∀ o∈os,o<s1.boxes.length)∧dl=[{ target:=.fn (.func gf) (ptrs (os.map σ2)),args:=#[] }])→oe<s1.boxes.length →
   rest.wpIn Fence.wide 0 P (bodyPostM Fence.wide 0 P g (fun e w'=>∃ v T',e=.returned v∧Below w.heap.size w w'∧(∀ b,b<w.heap.size→T' b=T0 b)∧(∀ b,w'.heap.size≤b→T' b=.other)∧ResRep T' w' rs v)) a2 w2:=by
  intro rest σ2 T2 a2 w2 ms1 dl hmc hs2 hJ2 hst2 hstop hys hms1 hdef hdl hoe
  refine wpIn_mono (hR.wp (F:=Fence.wide) (L:=0) (C:=⟨s4.ys,none,plainJ T0 w⟩) (n:=0) (.inl rfl) (Ctx.rec_wide _) hC rest fn.body _ e s4 hmc hb hstop (List.prefix_refl _) σ2 T2 a2 w2 hs2 hJ2) ?_
  rintro x a4 w4 ⟨rfl,σ4,T4,ms4,q1,q2,q3,q4,q5,q6⟩
  obtain ⟨p1,p2⟩:=q2
  have hms4:∀ b,b<w2.heap.size→b ∉ ms4:=fun b hb hm=>by have:=(q6.1 b hm).1;omega
  have hsz2:w.heap.size≤w2.heap.size:=hst2.size
  have hm1:∀ r∈ms1,r<w2.heap.size:=fun r hr=>(Array.getElem?_eq_some_iff.1 (hms1.1 r hr).2.2).1
  -- behind all that is deferred
  have last:∀ (T6:Tags) (w6:World),Sim 0 σ4 T6 s6 a4 w6→Below w.heap.size w w6→(∀ b,b<w.heap.size→T6 b=T0 b)→(∀ r∈ms1,w6.heap[r]?=some (.deferred (some []))) →
    LeavesInM Fence.wide 0 P g a4.tmps (fun e w'=>∃ v T',e=.returned v∧Below w.heap.size w w'∧(∀ b,b<w.heap.size→T' b=T0 b)∧(∀ b,w'.heap.size≤b→T' b=.other)∧ResRep T' w' rs v) (ms1.map markOf) .returning w6:=by
   intro T6 w6 g1 g2 g3 g4
   refine leavesM_marks (B:=w.heap.size) hms1.2 (fun r hr=>⟨(hms1.1 r hr).1,g4 r hr⟩) fun w7 e1 e2 e3 e4 e5=>?_
   have q1':=g1.drop (fun r hr ⟨arr,E,q,e⟩=>by rw [g4 r hr] at e;cases e) e5 e4
   obtain ⟨us,T8,r1,r2,r3,r4,r5⟩:=results_ok q1' k6 hrs
   have hms:∀ b,b<w.heap.size→b ∉ ms1:=fun b hb hm=>by have:=(hms1.1 b hm).1;omega
   have hT2:∀ b,b<w.heap.size→T8 b=T0 b:=fun b hb=>by
    have e:drop T6 ms1 b=T0 b:=by simp only [drop,if_neg (hms b hb)];exact g3 b hb
    rcases h0 b with e0|e0
    ·rw [e0];exact r3.ro b (by rw [e,e0])
    ·rw [e0];exact r3.other b (by rw [e,e0])
   refine ⟨_,results_run r1,_,outT T8 s6.slots.length,rfl,g2.trans ⟨e1,e2,e3,by omega,fun b hb=>e5 b (hms b hb)⟩,fun b hb=>?_,fun b hb=>?_,us.toArray,by simpa using r2,rfl,fun i x u hx hu=>RK.out (r5 i x u hx (by simpa using hu))⟩
   ·simp only [outT,hT2 b hb]
    rcases h0 b with e0|e0<;>rw [e0]
   ·simp only [outT,r4 b hb]
  -- a block of the call's own is none of what was there
  have own:∀ {T6:Tags} {p b:Nat},(∀ b,b<w.heap.size→T6 b=T0 b)→T6 b=.box p→w.heap.size≤b:=fun {T6 p b} g3 e=>by
   rcases Nat.lt_or_ge b w.heap.size with h|h
   ·have:=g3 b h
    rw [e] at this
    rcases h0 b with e0|e0<;>rw [e0] at this<;>cases this
   ·exact h
  have step:∀ {T6:Tags} {w6 w7:World},Chg T6 T6 w6 w7→Below w.heap.size w w6→(∀ b,b<w.heap.size→T6 b=T0 b)→(∀ r∈ms1,T6 r=.ro∧w6.heap[r]?=some (.deferred (some [])))→Below w.heap.size w w7∧∀ r∈ms1,T6 r=.ro∧w7.heap[r]?=some (.deferred (some [])):=fun {T6 w6 w7} hc hB hT hm=>by
   have hsz:w.heap.size≤w6.heap.size:=hB.size
   refine ⟨hB.trans ⟨hc.os,hc.tape,hc.output,hc.size,fun b hb=>hc.same b (Nat.lt_of_lt_of_le hb hsz) ?_⟩,fun r hr=>?_⟩
   ·rw [hT b hb];exact h0 b
   ·obtain ⟨m1,m2⟩:=hm r hr
    exact ⟨m1,(hc.same r (Array.getElem?_eq_some_iff.1 m2).1 (.inl m1)).trans m2⟩
  -- the closure
  have clos:∀ (T5:Tags) (w5:World),Sim 0 σ4 T5 s5 a4 w5→Below w.heap.size w w5→(∀ b,b<w.heap.size→T5 b=T0 b)→(∀ r∈ms1,T5 r=.ro∧w5.heap[r]?=some (.deferred (some []))) →
    LeavesInM Fence.wide 0 P g a4.tmps (fun e w'=>∃ v T',e=.returned v∧Below w.heap.size w w'∧(∀ b,b<w.heap.size→T' b=T0 b)∧(∀ b,w'.heap.size≤b→T' b=.other)∧ResRep T' w' rs v) (dl++ms1.map markOf) .returning w5:=by
   intro T5 w5 g1 g2 g3 g4
   unfold dfnClos at h6
   rcases hdl with ⟨hn,rfl⟩|⟨d,gf,zs,os,hc,hos,hlt,rfl⟩
   ·rw [hn] at h6
    cases Option.some.inj h6
    exact last T5 w5 g1 g2 g3 fun r hr=>(g4 r hr).2
   ·rw [hc] at h6
    simp only [hos,Option.bind_some] at h6
    split at h6
    case isFalse=>cases h6
    rename_i hcond
    obtain ⟨c1,c2,c3⟩:=hcond
    obtain ⟨m,hm',h6⟩:=bind_some h6
    obtain ⟨os',rfl⟩:∃ os',os=oe :: os':=by
     cases os with
     |nil=>cases c1
     |cons x l=>cases c1;exact ⟨l,rfl⟩
    obtain ⟨d1,d2,d3⟩:=hclos d gf zs hc
    obtain ⟨⟨E,v1⟩,v2⟩:=g1.varInt hm'
    have hσ:∀ o∈oe :: os',σ4 o=σ2 o:=fun o ho=>q3 o (hlt o ho)
    have hmap:(oe :: os').map σ2=(oe :: os').map σ4:=List.map_congr_left fun o ho=>(hσ o ho).symm
    have hlen':(os'.map σ4).length=(zs.map (·.2)).length:=by simp at c3 ⊢;exact c3
    rw [hmap]
    show LeavesInM Fence.wide 0 P g a4.tmps _ ({ target:=.fn (.func gf) (ptrs (σ4 oe :: os'.map σ4)),args:=#[] } :: ms1.map markOf) .returning w5
    split at h6
    ·rename_i hm0
     subst hm0
     cases Option.some.inj h6
     refine leavesM_call (by simp) d1 (w':=w5) ?_ (last T5 w5 g1 g2 g3 fun r hr=>(g4 r hr).2)
     rw [Array.empty_append]
     exact d2 _ _ E w5 hlen' v1
    ·rename_i hm0
     simp only [List.tail_cons] at h6
     obtain ⟨_,b2⟩:=setVars_boxes h6
     obtain ⟨x1,x2⟩:=g1.setVars h6
     have hbox:∀ o∈oe :: os',T5 (σ4 o)=.box o:=fun o ho=>by
      rcases List.mem_cons.1 ho with rfl|ho
      ·exact v2
      ·obtain ⟨i,hi⟩:=List.mem_iff_getElem?.1 ho
       have hi2:i<(zs.map (·.2)).length:=by rw [← hlen',List.length_map];exact (List.getElem?_eq_some_iff.1 hi).1
       obtain ⟨bx,y1,y2,y3⟩:=b2 i o _ hi (List.getElem?_eq_getElem hi2)
       obtain ⟨_,_,_,_,y4,_⟩:=g1.boxes o bx y1
       rw [y4,y2];rfl
     refine leavesM_call (by simp) d1 (w':=zeroAll (os'.map σ4) (zs.map (·.2)) w5) ?_ ?_
     ·rw [Array.empty_append]
      refine d3 _ _ m E w5 hm0 hlen' v1 (fun i b z hi hz=>?_) ?_
      ·rw [List.getElem?_map] at hi
       cases ho:os'[i]? with
       |none=>rw [ho] at hi;cases hi
       |some o =>
        rw [ho] at hi
        cases hi
        obtain ⟨bx,y1,y2,y3⟩:=b2 i o z ho hz
        obtain ⟨arr,E',z1,z2,_⟩:=g1.boxes o bx y1
        exact ⟨arr,E',z1,by omega⟩
      ·show ((oe :: os').map σ4).Nodup
       refine List.pairwise_map.2 (List.Pairwise.imp_of_mem (fun {x y} hx hy hxy hs=>hxy ?_) c2)
       have:=hbox x hx
       rw [hs,hbox y hy] at this
       cases this
       rfl
     ·obtain ⟨y1,y2⟩:=step x2 g2 g3 g4
      exact last T5 _ x1 y1 g3 fun r hr=>(y2 r hr).2
  -- the marks of the body,then what puts the failure into the variable
  have resc:∀ (u:FrameMode),u≠.run→(∀ (w5:World),Sim 0 σ4 (drop T4 ms4) s4 a4 w5→Below w.heap.size w w5→(∀ r∈ms1,drop T4 ms4 r=.ro∧w5.heap[r]?=some (.deferred (some [])))→(∀ b,b<w.heap.size→drop T4 ms4 b=T0 b) →
    LeavesInM Fence.wide 0 P g a4.tmps (fun e w'=>∃ v T',e=.returned v∧Below w.heap.size w w'∧(∀ b,b<w.heap.size→T' b=T0 b)∧(∀ b,w'.heap.size≤b→T' b=.other)∧ResRep T' w' rs v) ({ target:=.fn (.func fn.resc) #[],args:=#[.pointer (some ⟨σ4 oe,0,none⟩)] } :: (dl++ms1.map markOf)) u w5) →
    LeavesInM Fence.wide 0 P g a4.tmps (fun e w'=>∃ v T',e=.returned v∧Below w.heap.size w w'∧(∀ b,b<w.heap.size→T' b=T0 b)∧(∀ b,w'.heap.size≤b→T' b=.other)∧ResRep T' w' rs v) a4.defers u w4:=by
   intro u hu hk
   rw [q5,hdef,← q3 oe hoe]
   refine leavesM_marks2 (B:=w2.heap.size) hu q6.2 (fun r hr=>⟨(q6.1 r hr).1,(q6.1 r hr).2.2⟩) fun w5 e1 e2 e3 e4 e5=>?_
   have g1:=q1.drop (fun r hr ⟨arr,E,q,e⟩=>by rw [(q6.1 r hr).2.2] at e;cases e) e5 e4
   refine hk w5 g1 (p1.trans ⟨e1,e2,e3,by omega,fun b hb=>e5 b (hms4 b (by omega))⟩) (fun r hr=>?_) fun b hb=>?_
   ·have hn:=hms4 r (hm1 r hr)
    obtain ⟨_,m2,m3⟩:=hms1.1 r hr
    refine ⟨by simp only [drop,if_neg hn];exact q4.ro r m2,?_⟩
    rw [e5 r hn,q4.same r (hm1 r hr) m2];exact m3
   ·simp only [drop,if_neg (hms4 b (by omega))];exact p2 b hb
  cases e with
  |exit i=>cases h5
  |normal =>
   cases Option.some.inj h5
   refine resc .returning (by simp) fun w5 g1 g2 g4 g3=>?_
   exact leavesM_call (by simp) hresc.1 (w':=w5) (hresc.2.2 _ w5) (clos _ w5 g1 g2 g3 g4)
  |ret =>
   cases Option.some.inj h5
   refine resc .returning (by simp) fun w5 g1 g2 g4 g3=>?_
   exact leavesM_call (by simp) hresc.1 (w':=w5) (hresc.2.2 _ w5) (clos _ w5 g1 g2 g3 g4)
  |thr t m =>
   simp only [dfnResc] at h5
   split at h5
   case isFalse=>cases h5
   rename_i ht
   subst ht
   obtain ⟨m0,hv,h5⟩:=bind_some h5
   refine resc (.panicking [{ v:=.iface fn.t (.int .i64 m),recovered:=false }]) (by simp) fun w5 g1 g2 g4 g3=>?_
   obtain ⟨⟨E,v1⟩,v2⟩:=g1.varInt hv
   obtain ⟨_,x1,x2,_⟩:=g1.setVar h5
   obtain ⟨y1,y2⟩:=step x2 g2 g3 g4
   exact leavesM_call (by simp) hresc.1 (hresc.2.1 _ m0 m E w5 v1) (clos _ _ x1 y1 g3 y2)
 -- the defer statements
 have heval:∀ (b:Act) (f:Nat),b.eval (.func f)=.func (.func f) #[] #[]:=fun _ _=>rfl
 have hptr:∀ {σ:Nat→Nat} {T:Tags} {st:St} {b:Act} {w:World} {s p:Nat},Sim 0 σ T st b w→varOf st s=some p→p<st.boxes.length∧b.eval (.tmp s)=.pointer (some ⟨σ p,0,none⟩):=by
  intro σ T st b w s p hs hv
  unfold varOf at hv
  split at hv
  case h_2=>cases hv
  rename_i o' ho'
  cases Option.some.inj hv
  have hlt:s<b.tmps.size:=by rw [hs.size];exact (List.getElem?_eq_some_iff.1 ho').1
  have:=hs.slots s _ _ ho' (Array.getElem?_eq_getElem hlt)
  refine ⟨this.1,?_⟩
  have e:b.eval (.tmp s)=b.tmps[s]:=by simp [Act.eval,hlt]
  rw [e]
  exact this.2
 -- the statement that defers what turns a failure into an error
 have rescStep:∀ {ops:List Oper} {opl:Array Oper} {Q:Exit→Act→World→Prop} {σ2:Nat→Nat} {T2:Tags} {a2:Act} {w2:World},isResc fn ops=true→Sim 0 σ2 T2 s1 a2 w2 →
   Q .normal { a2 with defers:={ target:=.fn (.func fn.resc) #[],args:=#[.pointer (some ⟨σ2 oe,0,none⟩)] } :: a2.defers } w2→wpListIn Fence.wide 0 P opl Q ops a2 w2:=by
  intro ops opl Q σ2 T2 a2 w2 hr hs hq
  unfold isResc at hr
  split at hr
  case h_2=>cases hr
  rename_i o
  simp only [Bool.and_eq_true] at hr
  obtain ⟨⟨hg,hd⟩,hr⟩:=hr
  split at hr
  case h_2=>cases hr
  rename_i f' s hop
  simp only [Bool.and_eq_true,beq_iff_eq] at hr
  obtain ⟨rfl,rfl⟩:=hr
  obtain ⟨c',ats,hop⟩:∃ c':Call,∃ _:Unit,o.op=.defer c'∧c'.callee=.value (.func fn.resc)∧c'.args=#[.tmp fn.e]:=by
   unfold deferOf at hop
   split at hop
   case h_2=>cases hop
   rename_i c' hc'
   split at hop
   case h_2=>cases hop
   rename_i y hy
   simp only [Option.some.injEq,Prod.mk.injEq] at hop
   obtain ⟨rfl,h2⟩:=hop
   exact ⟨c',(),hc',hy,by rw [← h2]⟩
  obtain ⟨o1,o2,o3⟩:=hop
  have hw:Region.wanted o (yielded opl a2.tmps)=true:=by simp only [Region.wanted,Option.isNone_iff_eq_none.1 hg]
  simp only [wpListIn,hw,↓reduceIte]
  refine ⟨fun f _=>trivial,?_⟩
  have hrun:(o.semAt Fence.wide.round a2.eval).run P w2=.ok (.defer { target:=.fn (.func fn.resc) #[],args:=#[.pointer (some ⟨σ2 oe,0,none⟩)] }) w2:=by
   show (execOp a2.eval o).run P w2=_
   simp [execOp,o1,resolve,o2,o3,heval,Deferred.ofValue,(hptr hs ho).2]
  rw [hrun,Oper.uponIn_defer]
  have hd':o.dst=none:=by simpa using hd
  rw [hd']
  exact hq
 have closStep:∀ {ops:List Oper} {opl:Array Oper} {Q:Exit→Act→World→Prop} {σ2:Nat→Nat} {T2:Tags} {a2:Act} {w2:World} {d gf:Nat} {zs:List (Nat × List PV)} {os:List Nat},fn.clos=some (d,gf,zs)→isClos P fn ops=true→Sim 0 σ2 T2 s0 a2 w2→heldOf s1 d gf=some os →
   (∀ T3 a3,Sim 0 σ2 T3 s1 a3 w2→Still T2 T3→(∀ o∈os,o<s1.boxes.length)→a3.defers={ target:=.fn (.func gf) (ptrs (os.map σ2)),args:=#[] } :: a2.defers→Q .normal a3 w2)→wpListIn Fence.wide 0 P opl Q ops a2 w2:=by
  intro ops opl Q σ2 T2 a2 w2 d gf zs os hc hr hs hos hq
  unfold isClos at hr
  split at hr
  case h_2=>cases hr
  rename_i oa ob
  rw [hc] at hr
  simp only [Bool.and_eq_true] at hr
  obtain ⟨⟨⟨⟨hg1,hm1⟩,hg2⟩,hd2⟩,hr⟩:=hr
  split at hr
  case h_2=>cases hr
  rename_i s hop
  simp only [beq_iff_eq] at hr
  subst hr
  unfold DFn.begun at hm
  rw [hc] at hm
  simp only at hm
  obtain ⟨v,T3,h1,h2,h3⟩:=plain_sound hs hm1 hm
  have hw1:∀ f,Region.wanted oa f=true:=fun f=>by simp only [Region.wanted,Option.isNone_iff_eq_none.1 hg1]
  have hw2:∀ f,Region.wanted ob f=true:=fun f=>by simp only [Region.wanted,Option.isNone_iff_eq_none.1 hg2]
  simp only [wpListIn,hw1,hw2,↓reduceIte]
  refine wpIn_value (.inl rfl) hm1 (h1 w2 (Sees.refl T2 w2)) (.inl rfl) ?_
  obtain ⟨c',o1,o2,o3⟩:∃ c':Call,ob.op=.defer c'∧c'.callee=.value (.tmp s)∧c'.args=#[]:=by
   unfold deferOf at hop
   split at hop
   case h_2=>cases hop
   rename_i c' hc'
   split at hop
   case h_2=>cases hop
   rename_i y hy
   simp only [Option.some.injEq,Prod.mk.injEq] at hop
   obtain ⟨rfl,h2⟩:=hop
   exact ⟨c',hc',hy,by simpa using h2⟩
  -- what the closure holds
  unfold heldOf at hos
  split at hos
  case h_2=>cases hos
  rename_i g' caps hsl
  split at hos
  case isFalse=>cases hos
  rename_i hgg
  subst hgg
  have hcaps:=mapM_box hos
  subst hcaps
  have hlt:s<(a2.put oa.dst v).tmps.size:=by rw [h2.size];exact (List.getElem?_eq_some_iff.1 hsl).1
  obtain ⟨arr,e1,e2,e3⟩:=h2.slots s _ _ hsl (Array.getElem?_eq_getElem hlt)
  have hcr:∀ (k:Nat) o,os[k]?=some o→o<s1.boxes.length∧arr[k]?=some (.pointer (some ⟨σ2 o,0,none⟩)):=fun k o hk=>by
   have hk':k<arr.size:=by rw [e2,List.length_map];exact (List.getElem?_eq_some_iff.1 hk).1
   have:=e3 k (.pbox o 0) _ (by rw [List.getElem?_map,hk];rfl) (Array.getElem?_eq_getElem hk')
   exact ⟨this.1,by rw [Array.getElem?_eq_getElem hk',this.2]⟩
  have harr:arr=ptrs (os.map σ2):=by
   refine Array.ext_getElem? fun k=>?_
   unfold ptrs
   refine Eq.trans ?_ List.getElem?_toArray.symm
   rw [List.map_map,List.getElem?_map]
   cases hk:os[k]? with
   |some o=>rw [(hcr k o hk).2];rfl
   |none =>
    have:=List.getElem?_eq_none_iff.1 hk
    rw [List.length_map] at e2
    rw [Array.getElem?_eq_none (by omega)]
    rfl
  have hev:(a2.put oa.dst v).eval (.tmp s)=.func (.func g') #[] arr:=by
   have e:(a2.put oa.dst v).eval (.tmp s)=(a2.put oa.dst v).tmps[s]:=by simp [Act.eval,hlt]
   rw [e,e1]
  refine ⟨fun f _=>trivial,?_⟩
  have hrun:(ob.semAt Fence.wide.round (a2.put oa.dst v).eval).run P w2=.ok (.defer { target:=.fn (.func g') arr,args:=#[] }) w2:=by
   show (execOp (a2.put oa.dst v).eval ob).run P w2=_
   simp [execOp,o1,resolve,o2,o3,hev,Deferred.ofValue]
  rw [hrun,Oper.uponIn_defer]
  have hd':ob.dst=none:=by simpa using hd2
  rw [hd']
  refine hq T3 _ (h2.withDefers _) h3 (fun o ho=>?_) (by rw [← harr,← put_defers (a:=a2) (d:=oa.dst) (v:=v)];rfl)
  obtain ⟨k,hk⟩:=List.mem_iff_getElem?.1 ho
  exact (hcr k o hk).1
 -- the whole
 unfold mD at k3
 split at k3
 case h_2=>cases k3
 rename_i r0 id1 o1 c1
 simp only [Bool.and_eq_true] at k3
 obtain ⟨m0,k3⟩:=k3
 have gpre:=hR.grow _ _ _ _ _ m0 hp
 cases hc:fn.clos with
 |none =>
  rw [hc] at k3
  simp only [Bool.and_eq_true] at k3
  obtain ⟨m1,m2⟩:=k3
  have e1:s1=s0:=by unfold DFn.begun at hm;rw [hc] at hm;exact (Option.some.inj hm).symm
  subst e1
  have gb:=hR.grow _ _ _ _ _ m2 hb
  refine wpIn_seq ?_
  refine wpIn_mono (hR.wp (F:=Fence.wide) (L:=0) (C:=⟨s4.ys,none,plainJ T0 w⟩) (n:=0) (.inl rfl) (Ctx.rec_wide _) hC r0 fn.pre _ _ s1 m0 hp rfl gb.2.1 _ T0 _ w hsim hJ) ?_
  rintro x a1 w1 ⟨rfl,σ1,T1,ms1,q1,q2,q3,q4,q5,q6⟩
  refine wpIn_seq (wpIn_region_list (rescStep m1 q1 ?_))
  have hoe:=(hptr q1 ho).1
  exact body c1 σ1 T1 _ w1 ms1 [] m2 (q1.withDefers _) q2 q4 gpre.2.2 gb.2.1 q6 (by simp only [q5,List.append_nil,List.nil_append]) (.inl ⟨hc,rfl⟩) hoe
 |some cl =>
  obtain ⟨d,gf,zs⟩:=cl
  rw [hc] at k3
  simp only at k3
  split at k3
  case h_2=>cases k3
  rename_i id2 o2 rest
  simp only [Bool.and_eq_true] at k3
  obtain ⟨⟨m1,m1'⟩,m2⟩:=k3
  have hmo:s1.ys=s0.ys∧s1.stop=s0.stop:=by
   have hm:=hm
   unfold DFn.begun at hm
   rw [hc] at hm
   have:=plain_mono hm
   exact ⟨this.2.1,this.2.2⟩
  have gb:=hR.grow _ _ _ _ _ m2 hb
  obtain ⟨os,hos⟩:∃ os,heldOf s1 d gf=some os:=by
   have h6:=h6
   unfold dfnClos at h6
   rw [hc] at h6
   obtain ⟨os,h,_⟩:=bind_some h6
   exact ⟨os,h⟩
  refine wpIn_seq ?_
  refine wpIn_mono (hR.wp (F:=Fence.wide) (L:=0) (C:=⟨s4.ys,none,plainJ T0 w⟩) (n:=0) (.inl rfl) (Ctx.rec_wide _) hC r0 fn.pre _ _ s0 m0 hp rfl (by rw [← hmo.1];exact gb.2.1) _ T0 _ w hsim hJ) ?_
  rintro x a1 w1 ⟨rfl,σ1,T1,ms1,q1,q2,q3,q4,q5,q6⟩
  refine wpIn_seq (wpIn_region_list (closStep hc m1 q1 hos ?_))
  intro T3 a3 g1 g2 g3 g4
  refine wpIn_seq (wpIn_region_list (rescStep m1' g1 ?_))
  have hoe:=(hptr g1 ho).1
  refine body rest σ1 T3 _ w1 ms1 [{ target:=.fn (.func gf) (ptrs (os.map σ1)),args:=#[] }] m2 (g1.withDefers _) (plainJ_keep (k:=0) h0 (g2.chg w1) q2) (q4.trans (g2.chg w1).stays) (hmo.2.trans gpre.2.2) gb.2.1 ⟨fun r hr=>?_,q6.2⟩ ?_ (.inr ⟨d,gf,zs,os,hc,hos,g3,rfl⟩) hoe
  ·obtain ⟨x1,x2,x3⟩:=q6.1 r hr
   exact ⟨x1,g2.ro r x2,x3⟩
  ·simp only [g4,q5,List.append_nil,List.cons_append,List.nil_append]
end
end Go.Proofs.YtioijcfcehhmdaaGreatDoor

namespace Go.Proofs.YtioijcfcehhmdaaGreatDoor
open Go.RowKit
def EnvOk (P:Program) (env:Env):Prop:=∀ f d,env f=some d→match d with
 |.code fn=>fnOk P f fn=true
 |.ext g=>∀ args rs,g args=some rs→callable P f=true∧CallOk P f args rs
 |.srt h=>callable P f=true∧SortOk P f h
 |.thr h=>(∀ args,h args=some none→callable P f=true∧CallOk P f args [])∧∀ args t n,h args=some (some (t,n))→callable P f=true∧ThrOk P f args t n
 |.dfn fn=>dfnOk P f fn=true∧RescOk P fn.resc fn.t∧∀ d g zs,fn.clos=some (d,g,zs)→ClosOk P g (zs.map (·.2))
section
variable {P:Program} {L K:Nat} {σ σ':Nat→Nat} {T T' T1 T2:Tags} {st st' st1:St} {a a1:Act} {w w1:World} {r:Root}
 {rec:VCode→St→Option (Ex × St)} {env:Env}
theorem calls_ok (hR:RecOk P rec) (hE:EnvOk P env):CallsOk P rec env:=by
 refine ⟨?_,(fun f h e=>hE f _ e),?_,?_⟩
 rotate_left
 ·intro f x args rs out h
  unfold callLin at h
  split at h
  ·rename_i fn hfn
   have hok:fnOk P f fn=true:=hE f _ hfn
   split at h
   case isFalse=>cases h
   replace h:=bind_some h
   obtain ⟨⟨e,st⟩,h1,h⟩:=h
   simp only at h
   refine ⟨(fnOk_eq hok).1,?_⟩
   split at h
   ·cases h
   ·cases h
   ·rename_i hne hne2
    exact code_callL hR hok (fun i e=>hne i e) (fun t n e=>hne2 t n e) h1 h
  ·cases h
 ·intro f args t n h
  unfold calT at h
  split at h
  ·rename_i g hg
   exact (hE f _ hg).2 args t n h
  ·rename_i fn hfn
   have hok:fnOk P f fn=true:=hE f _ hfn
   split at h
   case isFalse=>cases h
   rename_i hl
   obtain ⟨⟨e,st⟩,h1,h⟩:=bind_some h
   refine ⟨(fnOk_eq hok).1,?_⟩
   cases e with
   |thr t' n' =>
    simp only [Option.some.injEq,Prod.mk.injEq] at h
    obtain ⟨rfl,rfl⟩:=h
    exact code_thr hR hok hl.1 h1
   |_=>cases h
  ·cases h
 intro f args rs h
 unfold callRes at h
 split at h
 ·rename_i g hg
  exact hE f _ hg args rs h
 ·rename_i fn hfn
  have hok:fnOk P f fn=true:=hE f _ hfn
  split at h
  case isFalse=>cases h
  rename_i hl
  replace h:=bind_some h
  obtain ⟨⟨e,st⟩,h1,h⟩:=h
  simp only at h
  refine ⟨(fnOk_eq hok).1,?_⟩
  split at h
  ·cases h
  ·cases h
  ·rename_i hne hne2
   exact code_call hR hok hl (fun i e=>hne i e) (fun t n e=>hne2 t n e) h1 h
 ·cases h
 ·rename_i g hg
  obtain ⟨r,h1,h⟩:=bind_some h
  cases r with
  |some p=>cases h
  |none=>cases Option.some.inj h;exact (hE f _ hg).1 args h1
 ·rename_i fn hfn
  obtain ⟨q1,q2,q3⟩:dfnOk P f fn=true∧RescOk P fn.resc fn.t∧∀ d g zs,fn.clos=some (d,g,zs)→ClosOk P g (zs.map (·.2)):=hE f _ hfn
  refine ⟨(dfnOk_eq q1).1,?_⟩
  split at h
  case isFalse=>cases h
  rename_i hl
  obtain ⟨⟨e0,s0⟩,h1,h⟩:=bind_some h
  simp only at h
  split at h
  case isFalse=>cases h
  rename_i he0
  subst he0
  obtain ⟨s1,h2,h⟩:=bind_some h
  obtain ⟨⟨e,s4⟩,h3,h⟩:=bind_some h
  exact code_dfn hR q1 q2 q3 hl h1 h2 h3 h
 ·cases h
theorem iters_ok (hE:EnvOk P env):ItersOk P env:=fun f fn hfn=>by
 have hok:fnOk P f fn=true:=hE f _ hfn
 obtain ⟨k0,g,c,k1,k2,k3,k4,k5,k6⟩:=fnOk_eq hok
 refine ⟨k0,g,c,k1,k2,k3,k4,k5,fun he=>?_⟩
 have:fn.results=[]:=by simpa using he
 rw [this] at k6
 have:g.results.toList=[]:=by
  match h:g.results.toList,k6 with
  |[],_=>rfl
  |_ :: _,k6=>simp [mResL] at k6
 exact Array.toList_eq_nil_iff.1 this
theorem vm_ok (hE:EnvOk P env):∀ n,RecOk P (vm env n)
 |0=>⟨(fun _ _ _ _ _ _ h=>by simp [vm] at h),(fun _ _ _ _ _ _ _ _ h=>by simp [vm] at h),(fun _ _ _ _ _ _ _ _ _ h=>by simp [vm] at h),(fun _ _ _ _ _ _ _ _ _ _ _ h=>by simp [vm] at h)⟩
 |n+1=>step_ok (vm_ok hE n) (iters_ok hE) (calls_ok (vm_ok hE n) hE)
theorem vmCall_ok (hE:EnvOk P env) {n f:Nat} {args:List PV} {rs:List Res} (h:vmCall env n f args=some rs):callable P f=true∧CallOk P f args rs:=(calls_ok (vm_ok hE n) hE).1 f args rs h
end
end Go.Proofs.YtioijcfcehhmdaaGreatDoor

namespace Go.Proofs.YtioijcfcehhmdaaGreatDoor
abbrev Rec:=VCode→St→Option (Ex × St)
def RLe (f g:Rec):Prop:=∀ c st r,f c st=some r→g c st=some r
open Classical in
noncomputable def den (env:Env) (c:VCode) (st:St):Option (Ex × St) :=
 if h:∃ n r,vm env n c st=some r then some (Classical.choose (Classical.choose_spec h)) else none
structure Good {α:Type} (env:Env) (F:Rec→Option α):Prop where
 mono:∀ f g,RLe f g→∀ r,F f=some r→F g=some r
 cont:(∀ m n,m≤n→RLe (vm env m) (vm env n))→∀ r,F (den env)=some r→∃ n,F (vm env n)=some r
section
variable {α β:Type} {env:Env}
theorem Good.const (x:Option α):Good env (fun _=>x):=⟨fun _ _ _ _ h=>h,fun _ _ h=>⟨0,h⟩⟩
theorem Good.app (c:VCode) (st:St):Good env (fun rec=>rec c st):=⟨fun _ _ h r=>h c st r,fun _ r h=>by
 unfold den at h
 split at h
 case isFalse=>cases h
 rename_i hx
 cases h
 exact ⟨_,Classical.choose_spec (Classical.choose_spec hx)⟩⟩
theorem Good.bind {F:Rec→Option α} {G:α→Rec→Option β} (hF:Good env F) (hG:∀ a,Good env (G a)):Good env (fun rec=>(F rec).bind fun a=>G a rec):=⟨fun f g h r e=>by
 obtain ⟨a,h1,h2⟩:=Option.bind_eq_some_iff.1 e
 exact Option.bind_eq_some_iff.2 ⟨a,hF.mono f g h a h1,(hG a).mono f g h r h2⟩,fun hm r e=>by
 obtain ⟨a,h1,h2⟩:=Option.bind_eq_some_iff.1 e
 obtain ⟨m,h3⟩:=hF.cont hm a h1
 obtain ⟨n,h4⟩:=(hG a).cont hm r h2
 exact ⟨max m n,Option.bind_eq_some_iff.2 ⟨a,hF.mono _ _ (hm m _ (Nat.le_max_left m n)) a h3,(hG a).mono _ _ (hm n _ (Nat.le_max_right m n)) r h4⟩⟩⟩
theorem Good.map {F:Rec→Option α} {g:α→β} (hF:Good env F):Good env (fun rec=>(F rec).map g):=by
 have:=hF.bind (G:=fun a _=>some (g a)) fun a=>Good.const _
 refine ⟨fun f g' h r e=>?_,fun hm r e=>?_⟩
 ·have:=this.mono f g' h r (by simpa [Option.map_eq_bind,Function.comp_def] using e)
  simpa [Option.map_eq_bind,Function.comp_def] using this
 ·obtain ⟨n,hn⟩:=this.cont hm r (by simpa [Option.map_eq_bind,Function.comp_def] using e)
  exact ⟨n,by simpa [Option.map_eq_bind,Function.comp_def] using hn⟩
theorem Good.callRes (f:Nat) (args:List PV):Good env (fun rec=>callRes rec env f args):=by
 unfold Go.Proofs.YtioijcfcehhmdaaGreatDoor.callRes
 split
 ·exact Good.const _
 ·split
  ·refine (Good.app _ _).bind fun a=>?_
   obtain ⟨e,st⟩:=a
   cases e<;>exact Good.const _
  ·exact Good.const _
 ·exact Good.const _
 ·exact Good.const _
 ·split
  ·refine (Good.app _ _).bind fun a=>?_
   split
   ·exact (Good.const _).bind fun st0=>(Good.app _ _).bind fun r=>Good.const _
   ·exact Good.const _
  ·exact Good.const _
 ·exact Good.const _
theorem Good.calT (f:Nat) (args:List PV):Good env (fun rec=>calT rec env f args):=by
 unfold Go.Proofs.YtioijcfcehhmdaaGreatDoor.calT
 split
 ·exact Good.const _
 ·split
  ·exact (Good.app _ _).bind fun a=>Good.const _
  ·exact Good.const _
 ·exact Good.const _
theorem Good.iterRes (f:Nat) (args:List PV) (s:Option Nat):Good env (fun rec=>iterRes rec env f args s):=by
 unfold Go.Proofs.YtioijcfcehhmdaaGreatDoor.iterRes
 split
 ·split
  ·refine (Good.app _ _).bind fun a=>?_
   obtain ⟨e,st⟩:=a
   cases e<;>exact Good.const _
  ·exact Good.const _
 ·exact Good.const _
theorem Good.callOn (d f:Nat) (args:List Opd) (caps:List AV) (st:St):Good env (fun rec=>callOn rec env d f args caps st):=by
 unfold Go.Proofs.YtioijcfcehhmdaaGreatDoor.callOn
 exact (Good.const _).bind fun l=>(Good.const _).bind fun k=>(Good.callRes f _).bind fun rs=>Good.const _
theorem Good.callLin (f:Nat) (x:LArg) (args:List PV):Good env (fun rec=>callLin rec env f x args):=by
 unfold Go.Proofs.YtioijcfcehhmdaaGreatDoor.callLin
 split
 ·split
  ·refine (Good.app _ _).bind fun a=>?_
   obtain ⟨e,st⟩:=a
   cases e<;>exact Good.const _
  ·exact Good.const _
 ·exact Good.const _
theorem Good.callOnL (d f:Nat) (x:Opd) (args:List Opd) (caps:List AV) (st:St):Good env (fun rec=>callOnL rec env d f x args caps st):=by
 unfold Go.Proofs.YtioijcfcehhmdaaGreatDoor.callOnL
 exact (Good.const _).bind fun l=>(Good.const _).bind fun k=>(Good.const _).bind fun q=>(Good.callLin f _ _).bind fun r=>Good.const _
theorem Good.act (o:VOp) (st:St):Good env (fun rec=>act rec env o st):=by
 cases o
 case call d f args=>exact Good.callOn d f args [] st
 case callv d x args =>
  unfold Go.Proofs.YtioijcfcehhmdaaGreatDoor.act
  simp only
  split
  ·exact Good.callOn _ _ _ _ _
  ·exact Good.callOn _ _ _ _ _
  ·exact Good.const _
 case lin d f x args=>exact Good.callOnL d f x args [] st
 case linv d g x args =>
  unfold Go.Proofs.YtioijcfcehhmdaaGreatDoor.act
  simp only
  split
  ·exact Good.callOnL _ _ _ _ _ _
  ·exact Good.callOnL _ _ _ _ _ _
  ·exact Good.const _
 all_goals exact Good.const _
theorem Good.op1 (o:VOp) (st:St):Good env (fun rec=>op1 rec env o st):=by
 unfold Go.Proofs.YtioijcfcehhmdaaGreatDoor.op1
 split
 ·exact Good.act o st
 ·exact Good.const _
theorem Good.op (o:VOp) (st:St):Good env (fun rec=>op rec env o st):=by
 unfold Go.Proofs.YtioijcfcehhmdaaGreatDoor.op
 split
 ·split
  ·split
   ·exact Good.op1 _ _
   ·exact Good.const _
  ·exact Good.const _
  ·exact Good.const _
 ·exact Good.op1 _ _
theorem Good.ops:∀ (l:List VOp) (st:St),Good env (fun rec=>ops rec env l st)
 |[],st=>Good.const _
 |o :: l,st=>(Good.op o st).bind fun st=>Good.ops l st
theorem Good.rounds (slots:List AV) (ps:List Nat) (assign body:VCode) (nb:Nat):∀ (xs:List (List PV)) (k:Nat) (st:St),Good env (fun rec=>rounds rec slots ps assign body nb k xs st)
 |[],k,st=>by unfold Go.Proofs.YtioijcfcehhmdaaGreatDoor.rounds;exact Good.const _
 |x :: xs,k,st=>by
  unfold Go.Proofs.YtioijcfcehhmdaaGreatDoor.rounds
  refine (Good.const _).bind fun sl=>(Good.app _ _).bind fun a=>?_
  obtain ⟨e,st⟩:=a
  cases e
  case normal =>
   refine (Good.app _ _).bind fun a=>?_
   obtain ⟨e,st⟩:=a
   cases e
   case normal =>
    simp only
    split
    ·exact Good.rounds slots ps assign body nb xs (k+1) _
    ·exact Good.const _
   all_goals exact Good.const _
  all_goals exact Good.const _
theorem Good.ranged (g:Opd) (ps:List Nat) (assign body:VCode) (st:St):Good env (fun rec=>ranged rec env g ps assign body st):=by
 unfold Go.Proofs.YtioijcfcehhmdaaGreatDoor.ranged
 refine (Good.const _).bind fun v=>?_
 cases v<;>try exact Good.const _
 simp only
 refine (Good.iterRes _ _ _).bind fun xs=>(Good.rounds _ _ _ _ _ _ _ _).bind fun r=>?_
 obtain ⟨r,st1⟩:=r
 cases r with
 |none=>exact Good.const _
 |some p =>
  obtain ⟨e,k⟩:=p
  refine (Good.iterRes _ _ _).bind fun xs=>(Good.rounds _ _ _ _ _ _ _ _).bind fun r=>?_
  obtain ⟨r,st1⟩:=r
  cases r<;>exact Good.const _
theorem Good.altRun (keep:List Nat) (vo:List VOp) (st:St) (x:DAlt):Good env (fun rec=>altRun rec env keep vo st x):=by
 unfold Go.Proofs.YtioijcfcehhmdaaGreatDoor.altRun
 exact (Good.ops _ _).bind fun s=>Good.const _
theorem Good.agree (keep:List Nat) (vo:List VOp) (st s:St):∀ l:List DAlt,Good env (fun rec=>agree s (l.map (Go.Proofs.YtioijcfcehhmdaaGreatDoor.altRun rec env keep vo st)))
 |[]=>Good.const _
 |x :: xs=>by
  simp only [List.map_cons,Go.Proofs.YtioijcfcehhmdaaGreatDoor.agree]
  refine (Good.altRun keep vo st x).bind fun s'=>?_
  split
  ·exact Good.agree keep vo st s xs
  ·exact Good.const _
theorem Good.runAlts (keep:List Nat) (vo:List VOp) (st:St) (l:List DAlt):Good env (fun rec=>runAlts rec env keep vo st l):=by
 cases l with
 |nil=>exact Good.const _
 |cons x xs =>
  simp only [Go.Proofs.YtioijcfcehhmdaaGreatDoor.runAlts]
  exact (Good.altRun keep vo st x).bind fun s=>Good.agree keep vo st s xs
theorem Good.step (c:VCode) (st:St):Good env (fun rec=>step rec env c st):=by
 cases c
 case ops l=>exact (Good.ops l st).map
 case drw fz _ _ _ l=>exact (Good.ops l (fz.foldl St.freezeAt st)).map
 case drs fz keep vo alts=>exact (Good.runAlts keep vo (fz.foldl St.freezeAt st) alts).map
 case lend d ks l =>
  simp only [Go.Proofs.YtioijcfcehhmdaaGreatDoor.step]
  split
  ·split
   ·exact ((Good.ops l _).bind fun s=>Good.const _).map
   ·exact Good.const _
  ·exact Good.const _
 case seq a b =>
  refine (Good.app _ _).bind fun x=>?_
  obtain ⟨e,st⟩:=x
  cases e
  case normal=>exact Good.app _ _
  all_goals exact Good.const _
 case cond c a b =>
  refine (Good.const _).bind fun v=>?_
  cases v<;>try exact Good.const _
  simp only
  split
  ·exact Good.app _ _
  ·exact Good.app _ _
 case block i a =>
  refine (Good.app _ _).bind fun x=>?_
  obtain ⟨e,st⟩:=x
  exact Good.const _
 case loop=>exact Good.app _ _
 case round keep nb a =>
  refine (Good.const _).bind fun s=>(Good.app _ _).bind fun x=>?_
  obtain ⟨e,st⟩:=x
  cases e
  case normal=>exact Good.app _ _
  all_goals exact Good.const _
 case rng g ps assign body=>exact Good.ranged g ps assign body st
 case clean pre post a =>
  refine (Good.const _).bind fun s=>(Good.app _ _).bind fun x=>?_
  obtain ⟨e,st⟩:=x
  exact Good.const _
 case dem l d f args =>
  refine (Good.ops l st).bind fun st1=>(Good.const _).bind fun vs=>(Good.calT f vs).bind fun r=>?_
  cases r with
  |some p=>exact Good.const _
  |none=>exact (Good.act _ _).map
 all_goals exact Good.const _
theorem vm_succ (env:Env):∀ n,RLe (vm env n) (vm env (n+1))
 |0,c,st,r,h=>by simp [vm] at h
 |n+1,c,st,r,h=>(Good.step (env:=env) c st).mono _ _ (vm_succ env n) r h
theorem vm_le (env:Env) (m n:Nat) (h:m≤n):RLe (vm env m) (vm env n):=by
 induction h with
 |refl=>exact fun _ _ _ h=>h
 |step _ ih=>exact fun c st r h=>vm_succ env _ c st r (ih c st r h)
theorem den_of_vm {n:Nat} {c:VCode} {st:St} {r:Ex × St} (h:vm env n c st=some r):den env c st=some r:=by
 have hx:∃ n r,vm env n c st=some r:=⟨n,r,h⟩
 unfold den
 rw [dif_pos hx]
 have h2:=Classical.choose_spec (Classical.choose_spec hx)
 have h3:=vm_le env _ _ (Nat.le_max_left n (Classical.choose hx)) c st r h
 have h4:=vm_le env _ _ (Nat.le_max_right n (Classical.choose hx)) c st _ h2
 rw [h3] at h4
 exact h4.symm
theorem vm_of_den {c:VCode} {st:St} {r:Ex × St} (h:den env c st=some r):∃ n,vm env n c st=some r :=
 (Good.app c st).cont (vm_le env) r h
theorem vm_den (env:Env) (n:Nat):RLe (vm env n) (den env):=fun _ _ _ h=>den_of_vm h
theorem den_eq (env:Env) (c:VCode) (st:St):den env c st=step (den env) env c st:=by
 apply Option.ext
 intro r
 constructor
 ·intro h
  obtain ⟨n,hn⟩:=vm_of_den h
  cases n with
  |zero=>simp [vm] at hn
  |succ n=>exact (Good.step c st).mono _ _ (vm_den env n) r hn
 ·intro h
  obtain ⟨n,hn⟩:=(Good.step c st).cont (vm_le env) r h
  exact den_of_vm (n:=n+1) hn
noncomputable def cal (env:Env) (f:Nat) (args:List PV):Option (List Res):=callRes (den env) env f args
noncomputable def calL (env:Env) (f:Nat) (x:LArg) (args:List PV):Option (List Res × Option (List PV)):=callLin (den env) env f x args
theorem vmCall_of_cal {f:Nat} {args:List PV} {rs:List Res} (h:cal env f args=some rs):∃ n,vmCall env n f args=some rs :=
 (Good.callRes (env:=env) f args).cont (vm_le env) rs h
theorem cal_of_vmCall {n f:Nat} {args:List PV} {rs:List Res} (h:vmCall env n f args=some rs):cal env f args=some rs :=
 (Good.callRes (env:=env) f args).mono _ _ (vm_den env n) rs h
end
end Go.Proofs.YtioijcfcehhmdaaGreatDoor

namespace Go.Proofs.YtioijcfcehhmdaaGreatDoor
def bcase {α:Type} (b:Bool) (x y:α):α:=match b with
 |true=>x
 |false=>y
section
variable {env:Env} {α β:Type}
theorem bcase_true (x y:α):bcase true x y=x:=(rfl)
theorem bcase_false (x y:α):bcase false x y=y:=(rfl)
theorem bcase_bind (b:Bool) (x y:Option α) (f:α→Option β):(bcase b x y).bind f=bcase b (x.bind f) (y.bind f):=by cases b<;>rfl
theorem bcase_map (b:Bool) (x y:Option α) (f:α→β):(bcase b x y).map f=bcase b (x.map f) (y.map f):=by cases b<;>rfl
theorem bcase_not (b:Bool) (x y:α):bcase (!b) x y=bcase b y x:=by cases b<;>rfl
theorem bcase_bne {γ:Type} [BEq γ] (a b:γ) (x y:α):bcase (a != b) x y=bcase (a==b) y x:=by unfold bne;rw [bcase_not]
theorem beq_t (b:Bool):(b==true)=b:=by cases b<;>rfl
theorem beq_f (b:Bool):(b==false)=!b:=by cases b<;>rfl
theorem bcase_split {b:Bool} {x y r:α} (h1:b=true→x=r) (h0:b=false→y=r):bcase b x y=r:=by
 cases b
 ·exact h0 rfl
 ·exact h1 rfl
noncomputable def dops (env:Env) (l:List VOp) (st:St):Option St:=ops (den env) env l st
noncomputable def dop (env:Env) (o:VOp) (st:St):Option St:=op (den env) env o st
noncomputable def next (env:Env) (b:VCode):Ex × St→Option (Ex × St)
 |(.normal,st)=>den env b st
 |r=>some r
def endBlock (id:Nat):Ex × St→Ex × St
 |(.normal,st)=>(.normal,st)
 |(.exit j,st)=>(bcase (Nat.beq j id) .normal (.exit j),st)
 |(.ret,st)=>(.ret,st)
 |(.thr t n,st)=>(.thr t n,st)
def cleanEnd (post:List Nat) (nb:Nat) (p:Ex × St):Option (Ex × St):=(p.2.head post nb).map fun st=>(p.1,st)
def fin (rs:List VRes):Ex × St→Option (List Res)
 |(.exit _,_)=>none
 |(.thr _ _,_)=>none
 |(_,st)=>resultsOf st rs
def start (n:Nat) (args:List PV):St:=⟨args.map .pv++List.replicate (n - args.length) .any,[],[],none⟩
theorem den_skip (st:St):den env .skip st=some (.normal,st):=by rw [den_eq];rfl
theorem den_ops (l:List VOp) (st:St):den env (.ops l) st=(dops env l st).map fun st=>(.normal,st):=by rw [den_eq];rfl
theorem den_drw (z a f q) (l:List VOp) (st:St):den env (.drw z a f q l) st=(dops env l (z.foldl St.freezeAt st)).map fun st=>(.normal,st):=by rw [den_eq];rfl
noncomputable def dalts (env:Env) (keep:List Nat) (vo:List VOp) (st:St) (l:List DAlt):Option St:=runAlts (den env) env keep vo st l
noncomputable def dalt (env:Env) (keep:List Nat) (vo:List VOp) (st:St) (x:DAlt):Option St:=altRun (den env) env keep vo st x
noncomputable def dagree (env:Env) (keep:List Nat) (vo:List VOp) (st s:St) (l:List DAlt):Option St:=agree s (l.map (altRun (den env) env keep vo st))
def sameAs (s s':St) (r:Option St):Option St:=if s'.same s then r else none
theorem den_drs (z k vo l) (st:St):den env (.drs z k vo l) st=(dalts env k vo (z.foldl St.freezeAt st) l).map fun st=>(.normal,st):=by rw [den_eq];rfl
theorem dalts_cons (k vo) (st:St) (x:DAlt) (l:List DAlt):dalts env k vo st (x :: l)=(dalt env k vo st x).bind fun s=>dagree env k vo st s l:=(rfl)
theorem dagree_nil (k vo) (st s:St):dagree env k vo st s []=some s:=(rfl)
theorem dagree_cons (k vo) (st s:St) (x:DAlt) (l:List DAlt):dagree env k vo st s (x :: l)=(dalt env k vo st x).bind fun s'=>sameAs s s' (dagree env k vo st s l):=by
 show (altRun (den env) env k vo st x).bind _=_
 unfold dalt dagree sameAs
 congr 1
theorem sameAs_same (s:St) (r:Option St):sameAs s s r=r:=by
 show (if s.same s then r else none)=r
 rw [St.same_refl];rfl
theorem dalt_eq (k vo) (st:St) (a f q o w):dalt env k vo st ⟨a,f,q,o,w⟩=(dops env (pickV vo o) st).bind (altEnd k st.boxes.length w):=(rfl)
theorem altEnd_false (k:List Nat) (nb:Nat) (s:St):altEnd k nb false s=s.head k s.boxes.length:=by
 unfold altEnd
 cases s.head k s.boxes.length<;>rfl
theorem altEnd_true (k:List Nat) (nb:Nat) (s:St):altEnd k nb true s=(s.head k s.boxes.length).bind fun s=>s.swap2 nb:=(rfl)
theorem pickV_nil (vo:List VOp):pickV vo []=[]:=(rfl)
theorem pickV_one (vo:List VOp) (i:Nat) (l:List Nat):pickV vo (i :: l)=vo.getD i default :: pickV vo l:=(rfl)
theorem den_seq (a b:VCode) (st:St):den env (.seq a b) st=(den env a st).bind (next env b):=by
 rw [den_eq]
 show (den env a st).bind _=_
 congr 1
 funext ⟨e,st⟩
 cases e<;>rfl
theorem den_cond (c:Opd) (a b:VCode) (st:St):den env (.cond c a b) st=(match st.pvOf c with
  |some (.bool t)=>bcase t (den env a st) (den env b st)
  |_=>none):=by
 rw [den_eq]
 show (st.pvOf c).bind _=_
 cases st.pvOf c with
 |none=>rfl
 |some v =>
  cases v<;>try rfl
  rename_i t
  cases t<;>rfl
theorem den_block (i:Nat) (a:VCode) (st:St):den env (.block i a) st=(den env a st).map (endBlock i):=by
 rw [den_eq]
 show (den env a st).bind _=_
 cases den env a st with
 |none=>rfl
 |some r =>
  obtain ⟨e,st⟩:=r
  cases e with
  |normal=>rfl
  |ret=>rfl
  |thr t n=>rfl
  |exit j =>
   show some (_,_)=some (_,_)
   by_cases h:j=i
   ·subst h;simp [bcase]
   ·have:Nat.beq j i=false:=by cases e:Nat.beq j i with
    |false=>rfl
    |true=>exact absurd (Nat.eq_of_beq_eq_true e) h
    simp [bcase,h,this]
theorem den_loop (keep:List Nat) (a:VCode) (st:St):den env (.loop keep a) st=den env (.round keep st.boxes.length a) st:=by rw [den_eq];rfl
theorem den_round (keep:List Nat) (nb:Nat) (a:VCode) (st:St):den env (.round keep nb a) st=(st.head keep nb).bind fun st=>(den env a st).bind (next env (.round keep nb a)):=by
 rw [den_eq]
 show (st.head keep nb).bind _=_
 congr 1
 funext st
 show (den env a st).bind _=_
 congr 1
 funext ⟨e,st⟩
 cases e<;>rfl
theorem den_clean (pre post:List Nat) (a:VCode) (st:St):den env (.clean pre post a) st=(st.head pre st.boxes.length).bind fun s=>(den env a s).bind (cleanEnd post st.boxes.length):=by
 rw [den_eq]
 show (st.head pre _).bind _=_
 congr 1
 funext s
 show (den env a s).bind _=_
 congr 1
 funext ⟨e,s⟩
 show (s.head post _).bind _=(s.head post _).map _
 cases s.head post st.boxes.length<;>rfl
theorem den_exit (i:Nat) (st:St):den env (.exit i) st=some (.exit i,st):=by rw [den_eq];rfl
theorem den_ret (st:St):den env .ret st=some (.ret,st):=by rw [den_eq];rfl
theorem next_normal (b:VCode) (st:St):next env b (.normal,st)=den env b st:=(rfl)
theorem next_exit (b:VCode) (i:Nat) (st:St):next env b (.exit i,st)=some (.exit i,st):=(rfl)
theorem next_ret (b:VCode) (st:St):next env b (.ret,st)=some (.ret,st):=(rfl)
theorem next_thr (b:VCode) (t:Nat) (n:Int) (st:St):next env b (.thr t n,st)=some (.thr t n,st):=(rfl)
theorem endBlock_thr (i t:Nat) (n:Int) (st:St):endBlock i (.thr t n,st)=(.thr t n,st):=(rfl)
noncomputable def thrown (env:Env) (f:Nat) (args:List PV):Option (Option (Nat × Int)):=calT (den env) env f args
theorem thrown_thr {f:Nat} {g:List PV→Option (Option (Nat × Int))} {args:List PV} (h:env f=some (.thr g)):thrown env f args=g args:=by
 unfold thrown calT
 rw [h]
def tfin:Ex × St→Option (Option (Nat × Int))
 |(.exit _,_)=>none
 |(.thr t n,_)=>some (some (t,n))
 |_=>some none
theorem tfin_normal (st:St):tfin (.normal,st)=some none:=(rfl)
theorem tfin_ret (st:St):tfin (.ret,st)=some none:=(rfl)
theorem tfin_thr (t:Nat) (n:Int) (st:St):tfin (.thr t n,st)=some (some (t,n)):=(rfl)
theorem thrown_code {f:Nat} {fn:VFn} {args:List PV} (h:env f=some (.code fn)) (hl:args.length=fn.nargs) (hr:fn.results.isEmpty=true):thrown env f args=(den env fn.body (start fn.ntmps args)).bind tfin:=by
 unfold thrown calT
 rw [h]
 simp only [if_pos (And.intro hl hr)]
 show (den env fn.body _).bind _=_
 congr 1
 funext ⟨e,st⟩
 cases e<;>rfl
noncomputable def demEnd (env:Env) (d f:Nat) (args:List Opd) (st:St):Option (Nat × Int)→Option (Ex × St)
 |some (t,n)=>some (.thr t n,st)
 |none=>(dops env [.call d f args] st).map fun st=>(.normal,st)
theorem demEnd_some (d f:Nat) (args:List Opd) (st:St) (t:Nat) (n:Int):demEnd env d f args st (some (t,n))=some (.thr t n,st):=(rfl)
theorem demEnd_none (d f:Nat) (args:List Opd) (st:St):demEnd env d f args st none=(dops env [.call d f args] st).map fun st=>(.normal,st):=(rfl)
theorem den_dem (l:List VOp) (d f:Nat) (args:List Opd) (st:St):den env (.dem l d f args) st=(dops env l st).bind fun st1=>(args.mapM st1.pvOf).bind fun vs=>(thrown env f vs).bind (demEnd env d f args st1):=by
 rw [den_eq]
 show (dops env l st).bind _=_
 congr 1
 funext st1
 show (args.mapM st1.pvOf).bind _=_
 congr 1
 funext vs
 show (thrown env f vs).bind _=_
 congr 1
 funext r
 cases r with
 |some p=>rfl
 |none =>
  show (act (den env) env (.call d f args) st1).map _=((act (den env) env (.call d f args) st1).bind (ops (den env) env [])).map _
  cases act (den env) env (.call d f args) st1<;>rfl
theorem endBlock_normal (i:Nat) (st:St):endBlock i (.normal,st)=(.normal,st):=(rfl)
theorem endBlock_ret (i:Nat) (st:St):endBlock i (.ret,st)=(.ret,st):=(rfl)
theorem endBlock_exit (i j:Nat) (st:St):endBlock i (.exit j,st)=(bcase (Nat.beq j i) .normal (.exit j),st):=(rfl)
theorem fin_normal (rs:List VRes) (st:St):fin rs (.normal,st)=resultsOf st rs:=(rfl)
theorem fin_ret (rs:List VRes) (st:St):fin rs (.ret,st)=resultsOf st rs:=(rfl)
theorem cal_code {f:Nat} {fn:VFn} {args:List PV} (h:env f=some (.code fn)) (hl:args.length=fn.nargs):cal env f args=(den env fn.body (start fn.ntmps args)).bind (Go.Proofs.YtioijcfcehhmdaaGreatDoor.fin fn.results):=by
 unfold cal callRes
 rw [h]
 simp only [if_pos hl]
 show (den env fn.body _).bind _=_
 congr 1
 funext ⟨e,st⟩
 cases e<;>rfl
theorem cal_thr {f:Nat} {g:List PV→Option (Option (Nat × Int))} {args:List PV} (h:env f=some (.thr g)) (hg:g args=some none):cal env f args=some []:=by
 unfold cal callRes
 rw [h]
 simp only [hg,Option.bind_some]
noncomputable def dfnRun (env:Env) (fn:DFn):Ex × St→Option (List Res)
 |(.normal,st)=>(fn.begun st).bind fun st0=>(den env fn.body st0).bind fun r=>dfnEnd fn st0 r.1 r.2
 |_=>none
theorem dfnRun_normal (fn:DFn) (st:St):dfnRun env fn (.normal,st)=(fn.begun st).bind fun st0=>(den env fn.body st0).bind fun r=>dfnEnd fn st0 r.1 r.2:=(rfl)
theorem cal_dfn {f:Nat} {fn:DFn} {args:List PV} (h:env f=some (.dfn fn)) (hl:args.length=fn.nargs):cal env f args=(den env fn.pre (start fn.ntmps args)).bind (dfnRun env fn):=by
 unfold cal callRes
 rw [h]
 simp only [if_pos hl]
 show (den env fn.pre _).bind _=_
 congr 1
 funext ⟨e,st⟩
 cases e<;>rfl
def startL (n:Nat) (x:LArg) (args:List PV):St:=⟨x.av :: (args.map .pv++List.replicate (n - (args.length+1)) .any),x.boxes,[],none⟩
def finL (x:LArg) (rs:List VRes):Ex × St→Option (List Res × Option (List PV))
 |(.exit _,_)=>none
 |(.thr _ _,_)=>none
 |(_,st)=>linRes x st rs
theorem finL_normal (x:LArg) (rs:List VRes) (st:St):finL x rs (.normal,st)=linRes x st rs:=(rfl)
theorem finL_ret (x:LArg) (rs:List VRes) (st:St):finL x rs (.ret,st)=linRes x st rs:=(rfl)
theorem linRes_row (sz:Nat) (es:List PV) (st:St) (rs:List VRes):linRes (.row sz es) st rs=(resultsOf st rs).map fun l=>(l,none):=(rfl)
theorem linRes_own (l:List AV) (st:St) (rs:List VRes):linRes (.own l) st rs=(resultsOf st rs).map fun l=>(l,none):=(rfl)
theorem linRes_box (cs:List PV) (st:St) (rs:List VRes):linRes (.box cs) st rs=(match (st.freezeRows 0).boxes[0]? with
  |some b=>bcase b.fz none ((resultList (st.freezeRows 0) rs).map fun l=>(l,some (b.cs.map BV.val)))
  |none=>none):=by
 show (match (st.freezeRows 0).boxes[0]? with
  |some b=>if b.fz then none else (resultList (st.freezeRows 0) rs).map fun l=>(l,some (b.cs.map BV.val))
  |none=>none)=_
 split
 ·rename_i b _
  cases b.fz<;>rfl
 ·rfl
theorem lav_row (sz:Nat) (es:List PV):(LArg.row sz es).av=.row sz es:=(rfl)
theorem lav_own (l:List AV):(LArg.own l).av=.tup true l:=(rfl)
theorem lav_box (cs:List PV):(LArg.box cs).av=.pbox 0 0:=(rfl)
theorem lbx_row (sz:Nat) (es:List PV):(LArg.row sz es).boxes=[]:=(rfl)
theorem lbx_own (l:List AV):(LArg.own l).boxes=[]:=(rfl)
theorem lbx_box (cs:List PV):(LArg.box cs).boxes=[⟨false,cs.map .pv⟩]:=(rfl)
theorem cal_ext {f:Nat} {g:List PV→Option (List Res)} {args:List PV} (h:env f=some (.ext g)):cal env f args=g args:=by
 unfold cal callRes
 rw [h]
theorem clean_loop' {keep post:List Nat} {id:Nat} {b:VCode} {st S0:St} {R:Option (Ex × St)} (h:st.head keep st.boxes.length=some S0) (h2:S0.head keep S0.boxes.length=some S0)
  (key:∀ rb,rb=VCode.round keep S0.boxes.length b→(((den env b S0).bind (next env rb)).map (endBlock id)).bind (cleanEnd post st.boxes.length)=R):den env (.clean keep post (.block id (.loop keep b))) st=R:=by
 rw [den_clean,h,Option.bind_some,den_block,den_loop,den_round,h2,Option.bind_some]
 exact key _ rfl
theorem round_on {keep:List Nat} {nb:Nat} {b rb:VCode} {st S1:St} (hrb:rb=.round keep nb b) (h:st.head keep nb=some S1):den env rb st=(den env b S1).bind (next env rb):=by
 rw [hrb,den_round,h,Option.bind_some]
noncomputable def tailOf (env:Env) (id:Nat) (post:List Nat) (nb:Nat) (x:Option (Ex × St)):Option (Ex × St):=(x.map (endBlock id)).bind (cleanEnd post nb)
theorem clean_rec {β:Type} {keep post:List Nat} {id nb:Nat} {b:VCode} (S:β→St) (R:β→Option (Ex × St)) (P:β→Prop) (μ:β→Nat) (x0:β) {st:St} (h:st.head keep st.boxes.length=some (S x0)) (hP:P x0)
  (hS:∀ x,(S x).boxes.length=nb) (hh:∀ x,(S x).head keep nb=some (S x))
  (step:∀ x rb,P x→(∀ y,μ y<μ x→P y→∀ s,s.head keep nb=some (S y)→tailOf env id post nb (den env rb s)=R y)→tailOf env id post nb ((den env b (S x)).bind (next env rb))=R x) :
  den env (.clean keep post (.block id (.loop keep b))) st=R x0:=by
 have hb:st.boxes.length=nb:=by rw [← (head_same h).1];exact hS x0
 refine clean_loop' h (by rw [hS];exact hh x0) ?_
 intro rb hrb
 rw [hS] at hrb
 rw [hb]
 have key:∀ (k:Nat) (x:β),μ x<k→P x→tailOf env id post nb ((den env b (S x)).bind (next env rb))=R x:=by
  intro k
  induction k with
  |zero=>intro x hx;omega
  |succ k ih =>
   intro x hx hPx
   refine step x rb hPx fun y hy hPy s hs=>?_
   rw [round_on hrb hs]
   exact ih y (by omega) hPy
 exact key (μ x0+1) x0 (by omega) hP
theorem clean_up {keep post:List Nat} {id nb:Nat} {b:VCode} (n:Nat) (S:Nat→St) (R:Nat→Option (Ex × St)) {st:St} (h:st.head keep st.boxes.length=some (S 0)) (hS:∀ i,(S i).boxes.length=nb) (hh:∀ i,(S i).head keep nb=some (S i))
  (step:∀ i rb,i<n→(∀ s,s.head keep nb=some (S (i+1))→tailOf env id post nb (den env rb s)=R (i+1))→tailOf env id post nb ((den env b (S i)).bind (next env rb))=R i)
  (last:∀ rb,tailOf env id post nb ((den env b (S n)).bind (next env rb))=R n) :
  den env (.clean keep post (.block id (.loop keep b))) st=R 0:=by
 refine clean_rec S R (fun i=>i≤n) (fun i=>n - i) 0 h (Nat.zero_le _) hS hh fun i rb hi ih=>?_
 by_cases hn:i=n
 ·subst hn;exact last rb
 ·exact step i rb (by omega) fun s hs=>ih (i+1) (by omega) (by omega) s hs
theorem tail_normal {id nb:Nat} {post:List Nat} (st:St):tailOf env id post nb (some (.normal,st))=cleanEnd post nb (.normal,st):=(rfl)
theorem tail_thr {id nb:Nat} {post:List Nat} (t:Nat) (n:Int) (st:St):tailOf env id post nb (some (.thr t n,st))=cleanEnd post nb (.thr t n,st):=(rfl)
theorem tail_ret {id nb:Nat} {post:List Nat} (st:St):tailOf env id post nb (some (.ret,st))=cleanEnd post nb (.ret,st):=(rfl)
theorem tail_exit {id j nb:Nat} {post:List Nat} (st:St):tailOf env id post nb (some (.exit j,st))=cleanEnd post nb (bcase (Nat.beq j id) .normal (.exit j),st):=(rfl)
theorem tail_bcase {id nb:Nat} {post:List Nat} (b:Bool) (x y:Option (Ex × St)):tailOf env id post nb (bcase b x y)=bcase b (tailOf env id post nb x) (tailOf env id post nb y):=by cases b<;>rfl
theorem z_bind_some (a:α) (f:α→Option β):(some a).bind f=f a:=(rfl)
theorem z_bind_none (f:α→Option β):(none:Option α).bind f=none:=(rfl)
theorem z_map_some (a:α) (f:α→β):(some a).map f=some (f a):=(rfl)
theorem z_map_none (f:α→β):(none:Option α).map f=none:=(rfl)
theorem z_ite_true (x y:α):(if True then x else y)=x:=(rfl)
theorem z_ite_false (x y:α):(if False then x else y)=y:=(rfl)
theorem z_bind_eq {γ δ:Type} (x:Option γ) (f:γ→Option δ):(x >>= f)=x.bind f:=(rfl)
theorem z_pure {γ:Type} (x:γ):(pure x:Option γ)=some x:=(rfl)
theorem z_len_cons {γ:Type} (a:γ) (l:List γ):(a :: l).length=l.length+1:=(rfl)
theorem z_len_nil {γ:Type}:([]:List γ).length=0:=(rfl)
theorem z_nil_app {γ:Type} (l:List γ):[]++l=l:=(rfl)
theorem z_cons_app {γ:Type} (a:γ) (l m:List γ):(a :: l)++m=a :: (l++m):=(rfl)
theorem z_take_succ {γ:Type} (a:γ) (l:List γ) (n:Nat):(a :: l).take (n+1)=a :: l.take n:=(rfl)
theorem z_take_zero {γ:Type} (l:List γ):l.take 0=[]:=(rfl)
theorem z_drop_succ {γ:Type} (a:γ) (l:List γ) (n:Nat):(a :: l).drop (n+1)=l.drop n:=(rfl)
theorem z_drop_zero {γ:Type} (l:List γ):l.drop 0=l:=(rfl)
theorem z_get_zero {γ:Type} (a:γ) (l:List γ):(a :: l)[0]?=some a:=(rfl)
theorem z_get_succ {γ:Type} (a:γ) (l:List γ) (n:Nat):(a :: l)[n+1]?=l[n]?:=(rfl)
theorem z_get_8 {γ:Type} (a0 a1 a2 a3 a4 a5 a6 a7:γ) (l:List γ) (n:Nat):(a0 :: a1 :: a2 :: a3 :: a4 :: a5 :: a6 :: a7 :: l)[n+8]?=l[n]?:=(rfl)
theorem z_getD_zero {γ:Type} (a:γ) (l:List γ) (d:γ):(a :: l).getD 0 d=a:=(rfl)
theorem z_getD_succ {γ:Type} (a:γ) (l:List γ) (n:Nat) (d:γ):(a :: l).getD (n+1) d=l.getD n d:=(rfl)
theorem z_getD_8 {γ:Type} (a0 a1 a2 a3 a4 a5 a6 a7:γ) (l:List γ) (n:Nat) (d:γ):(a0 :: a1 :: a2 :: a3 :: a4 :: a5 :: a6 :: a7 :: l).getD (n+8) d=l.getD n d:=(rfl)
theorem z_set_zero {γ:Type} (a x:γ) (l:List γ):(a :: l).set 0 x=x :: l:=(rfl)
theorem z_set_succ {γ:Type} (a x:γ) (l:List γ) (n:Nat):(a :: l).set (n+1) x=a :: l.set n x:=(rfl)
theorem z_set_8 {γ:Type} (a0 a1 a2 a3 a4 a5 a6 a7 x:γ) (l:List γ) (n:Nat):(a0 :: a1 :: a2 :: a3 :: a4 :: a5 :: a6 :: a7 :: l).set (n+8) x=a0 :: a1 :: a2 :: a3 :: a4 :: a5 :: a6 :: a7 :: l.set n x:=(rfl)
theorem z_mapM_nil {γ δ:Type} (f:γ→Option δ):([]:List γ).mapM f=some []:=(rfl)
theorem z_any_cons {γ:Type} (a:γ) (l:List γ) (p:γ→Bool):(a :: l).any p=(p a || l.any p):=(rfl)
theorem z_any_nil {γ:Type} (p:γ→Bool):([]:List γ).any p=false:=(rfl)
theorem z_all_cons {γ:Type} (a:γ) (l:List γ) (p:γ→Bool):(a :: l).all p=(p a&&l.all p):=(rfl)
theorem z_all_nil {γ:Type} (p:γ→Bool):([]:List γ).all p=true:=(rfl)
theorem z_foldl_cons {γ δ:Type} (f:δ→γ→δ) (b:δ) (a:γ) (l:List γ):(a :: l).foldl f b=l.foldl f (f b a):=(rfl)
theorem z_foldl_nil {γ δ:Type} (f:δ→γ→δ) (b:δ):([]:List γ).foldl f b=b:=(rfl)
theorem z_map_cons {γ δ:Type} (f:γ→δ) (a:γ) (l:List γ):(a :: l).map f=f a :: l.map f:=(rfl)
theorem z_map_nil {γ δ:Type} (f:γ→δ):([]:List γ).map f=[]:=(rfl)
theorem z_repl_zero {γ:Type} (a:γ):List.replicate 0 a=[]:=(rfl)
theorem z_repl_succ {γ:Type} (a:γ) (n:Nat):List.replicate (n+1) a=a :: List.replicate n a:=(rfl)
theorem dops_nil (st:St):dops env [] st=some st:=(rfl)
theorem dops_cons (o:VOp) (l:List VOp) (st:St):dops env (o :: l) st=(dop env o st).bind (dops env l):=(rfl)
theorem dop_grd {g:Nat} {w:Bool} {o:VOp} (st:St):dop env (.grd g w o) st=(match st.slots.getD g .any with
  |.pv (.bool b)=>bcase (b==w) (op1 (den env) env o st) (match dstOf o with
   |some d=>some (st.put d (.tup false []))
   |none=>some st)
  |.tup _ l=>bcase l.isEmpty (match dstOf o with
   |some d=>some (st.put d (.tup false []))
   |none=>some st) none
  |_=>none):=by
 unfold dop op
 simp only
 generalize st.slots.getD g .any=v
 cases v with
 |pv p =>
  cases p with
  |bool b=>cases b<;>cases w<;>rfl
  |_=>rfl
 |tup k l=>cases l<;>rfl
 |_=>rfl
theorem dop_pick {d c x y} (st:St):dop env (.pick d c x y) st=(match st.pvOf c with
  |some (.bool b)=>bcase b ((st.pvOf x).map fun v=>st.put d (.pv v)) ((st.pvOf y).map fun v=>st.put d (.pv v))
  |_=>none):=by
 show (st.pvOf c).bind _=_
 cases st.pvOf c with
 |none=>rfl
 |some v =>
  cases v<;>try rfl
  rename_i t
  cases t
  ·show (st.pvOf y).bind _=Option.map _ (st.pvOf y)
   cases st.pvOf y<;>rfl
  ·show (st.pvOf x).bind _=Option.map _ (st.pvOf x)
   cases st.pvOf x<;>rfl
def afterCall (d:Nat) (args:List Opd) (caps:List AV) (st:St) (fl:Bool) (rs:List Res):Option St :=
 some ((bcase (fl&&!(rs.all (·.1.scalar))) (caps.foldl (fun s v=>s.freezeArg1 (.c .void) v) (args.foldl St.freezeArg st)) st).layAll d rs)
theorem afterCall_false (d:Nat) (args:List Opd) (caps:List AV) (st:St) (rs:List Res):afterCall d args caps st false rs=some (st.layAll d rs):=by
 simp only [afterCall,Bool.false_and,bcase_false]
theorem afterCall_true (d:Nat) (args:List Opd) (caps:List AV) (st:St) (r:Res) (rs:List Res):afterCall d args caps st true (r :: rs)=bcase ((r :: rs).all (·.1.scalar)) (some (st.layAll d (r :: rs))) (some ((caps.foldl (fun s v=>s.freezeArg1 (.c .void) v) (args.foldl St.freezeArg st)).layAll d (r :: rs))):=by
 unfold afterCall
 rw [Bool.true_and]
 cases h:(r :: rs).all (·.1.scalar)<;>rfl
noncomputable def dcall (env:Env) (d f:Nat) (args:List Opd) (caps:List AV) (st:St):Option St :=
 (args.mapM fun x=>st.snapFn (st.get x)).bind fun l=>(caps.mapM st.snap).bind fun k=>(cal env f (l.map (·.1)++k.map (·.1))).bind (afterCall d args caps st (l.any (·.2) || k.any (·.2)))
noncomputable def dcallP (env:Env) (d f:Nat) (args:List Opd) (caps:List PV) (st:St):Option St :=
 (args.mapM fun x=>st.snapFn (st.get x)).bind fun l=>(cal env f (l.map (·.1)++caps)).bind (afterCall d args [] st (l.any (·.2)))
theorem snaps_pv (st:St):∀ caps:List PV,(caps.map AV.pv).mapM st.snap=some (caps.map fun v=>(v,false))
 |[]=>rfl
 |c :: l=>by
  rw [List.map_cons,List.mapM_cons,snaps_pv st l]
  rfl
theorem freeze_pv (st:St):∀ caps:List PV,(caps.map AV.pv).foldl (fun s v=>s.freezeArg1 (.c .void) v) st=st
 |[]=>rfl
 |c :: l=>freeze_pv st l
theorem dcall_eq (d f:Nat) (args:List Opd) (caps:List AV) (st:St):callOn (den env) env d f args caps st=dcall env d f args caps st:=by
 unfold callOn dcall
 show Option.bind _ _=Option.bind _ _
 congr 1;funext l
 show Option.bind _ _=Option.bind _ _
 congr 1;funext k
 show Option.bind _ _=Option.bind _ _
 congr 1;funext rs
 show some _=some _
 congr 2
 cases h:(l.any (·.2) || k.any (·.2))&&!(rs.all (·.1.scalar))<;>rfl
theorem dcallP_eq (d f:Nat) (args:List Opd) (caps:List PV) (st:St):dcall env d f args (caps.map .pv) st=dcallP env d f args caps st:=by
 unfold dcallP dcall
 congr 1;funext l
 rw [snaps_pv,Option.bind_some,List.map_map,List.any_map]
 have h1:(Prod.fst ∘ fun v:PV=>(v,false))=id:=rfl
 have h2:caps.any (Prod.snd ∘ fun v:PV=>(v,false))=false:=by
  induction caps with
  |nil=>rfl
  |cons c cs ih=>simp [List.any_cons,ih]
 rw [h1,List.map_id,h2,Bool.or_false]
 congr 1;funext rs
 unfold afterCall
 rw [freeze_pv]
 rfl
theorem dop_call {d f args} (st:St):dop env (.call d f args) st=dcallP env d f args [] st:=(dcall_eq ..).trans (dcallP_eq (caps:=[]) ..)
theorem op1_call {d f args} (st:St):op1 (den env) env (.call d f args) st=dcallP env d f args [] st:=(dcall_eq ..).trans (dcallP_eq (caps:=[]) ..)
noncomputable def dlin (env:Env) (d f:Nat) (x:Opd) (args:List Opd) (caps:List AV) (st:St):Option St :=
 (args.mapM fun x=>st.snapFn (st.get x)).bind fun l=>(caps.mapM st.snap).bind fun k=>(bcase (l.any (·.2) || k.any (·.2)) none (takeLin st x)).bind fun q=>(calL env f q.1 (l.map (·.1)++k.map (·.1))).bind fun r=>(backLin q.2.2 q.2.1 r.2).bind fun st2=>some (st2.layAll d r.1)
noncomputable def dlinP (env:Env) (d f:Nat) (x:Opd) (args:List Opd) (caps:List PV) (st:St):Option St :=
 (args.mapM fun x=>st.snapFn (st.get x)).bind fun l=>(bcase (l.any (·.2)) none (takeLin st x)).bind fun q=>(calL env f q.1 (l.map (·.1)++caps)).bind fun r=>(backLin q.2.2 q.2.1 r.2).bind fun st2=>some (st2.layAll d r.1)
theorem dlin_eq (d f:Nat) (x:Opd) (args:List Opd) (caps:List AV) (st:St):callOnL (den env) env d f x args caps st=dlin env d f x args caps st:=by
 unfold callOnL dlin
 congr 1;funext l
 congr 1;funext k
 congr 1
 cases h:(l.any (·.2) || k.any (·.2))<;>rfl
theorem dlinP_eq (d f:Nat) (x:Opd) (args:List Opd) (caps:List PV) (st:St):dlin env d f x args (caps.map .pv) st=dlinP env d f x args caps st:=by
 unfold dlinP dlin
 congr 1;funext l
 rw [snaps_pv,Option.bind_some,List.map_map,List.any_map]
 have h1:(Prod.fst ∘ fun v:PV=>(v,false))=id:=rfl
 have h2:caps.any (Prod.snd ∘ fun v:PV=>(v,false))=false:=by
  induction caps with
  |nil=>rfl
  |cons c cs ih=>simp [List.any_cons,ih]
 rw [h1,List.map_id,h2,Bool.or_false]
theorem dop_lin {d f x args} (st:St):dop env (.lin d f x args) st=dlinP env d f x args [] st:=(dlin_eq ..).trans (dlinP_eq (caps:=[]) ..)
theorem op1_lin {d f x args} (st:St):op1 (den env) env (.lin d f x args) st=dlinP env d f x args [] st:=(dlin_eq ..).trans (dlinP_eq (caps:=[]) ..)
theorem dop_linv {d g x args} (st:St):dop env (.linv d g x args) st=(match st.get g with
  |.pv (.func f caps)=>dlinP env d f x args caps st
  |.fn f caps=>dlin env d f x args caps st
  |_=>none):=by
 show (match st.get g with
  |.pv (.func f caps)=>callOnL (den env) env d f x args (caps.map .pv) st
  |.fn f caps=>callOnL (den env) env d f x args caps st
  |_=>none)=_
 split<;>simp only [dlin_eq,dlinP_eq]
theorem op1_linv {d g x args} (st:St):op1 (den env) env (.linv d g x args) st=dop env (.linv d g x args) st:=(rfl)
theorem dop_callv {d x args} (st:St):dop env (.callv d x args) st=(match st.get x with
  |.pv (.func f caps)=>dcallP env d f args caps st
  |.fn f caps=>dcall env d f args caps st
  |_=>none):=by
 show (match st.get x with
  |.pv (.func f caps)=>callOn (den env) env d f args (caps.map .pv) st
  |.fn f caps=>callOn (den env) env d f args caps st
  |_=>none)=_
 split<;>simp only [dcall_eq,dcallP_eq]
theorem op1_callv {d x args} (st:St):op1 (den env) env (.callv d x args) st=dop env (.callv d x args) st:=(rfl)
theorem op1_pick {d c x y} (st:St):op1 (den env) env (.pick d c x y) st=dop env (.pick d c x y) st:=(rfl)
theorem dop_mov {d x} (st:St):dop env (.mov d x) st=plain (.mov d x) st:=(rfl)
theorem dop_asg {d x} (st:St):dop env (.asg d x) st=plain (.asg d x) st:=(rfl)
theorem dop_bin {d o x y} (st:St):dop env (.bin d o x y) st=plain (.bin d o x y) st:=(rfl)
theorem dop_eqa {d neg n x y} (st:St):dop env (.eqa d neg n x y) st=plain (.eqa d neg n x y) st:=(rfl)
theorem dop_eqm {d neg ks x y} (st:St):dop env (.eqm d neg ks x y) st=plain (.eqm d neg ks x y) st:=(rfl)
theorem dop_eqb {d neg x y} (st:St):dop env (.eqb d neg x y) st=plain (.eqb d neg x y) st:=(rfl)
theorem dop_isn {d neg x} (st:St):dop env (.isn d neg x) st=plain (.isn d neg x) st:=(rfl)
theorem dop_cut {d sz x} (st:St):dop env (.cut d sz x) st=plain (.cut d sz x) st:=(rfl)
theorem dop_asl {d n x} (st:St):dop env (.asl d n x) st=plain (.asl d n x) st:=(rfl)
theorem dop_asz {d n sz x} (st:St):dop env (.asz d n sz x) st=plain (.asz d n sz x) st:=(rfl)
theorem dop_bldo {d z l q m} (st:St):dop env (.bldo d z l q m) st=plain (.bldo d z l q m) st:=(rfl)
theorem op1_bldo {d z l q m} (st:St):op1 (den env) env (.bldo d z l q m) st=plain (.bldo d z l q m) st:=(rfl)
theorem dop_stw {n p x} (st:St):dop env (.stw n p x) st=act (den env) env (.stw n p x) st:=(rfl)
theorem op1_stw {n p x} (st:St):op1 (den env) env (.stw n p x) st=act (den env) env (.stw n p x) st:=(rfl)
theorem dop_srt {d f x g} (st:St):dop env (.srt d f x g) st=act (den env) env (.srt d f x g) st:=(rfl)
theorem op1_srt {d f x g} (st:St):op1 (den env) env (.srt d f x g) st=act (den env) env (.srt d f x g) st:=(rfl)
theorem dop_mvz {d x} (st:St):dop env (.mvz d x) st=plain (.mvz d x) st:=(rfl)
theorem op1_mvz {d x} (st:St):op1 (den env) env (.mvz d x) st=plain (.mvz d x) st:=(rfl)
theorem dop_ldz {d n x} (st:St):dop env (.ldz d n x) st=plain (.ldz d n x) st:=(rfl)
theorem op1_asl {d n x} (st:St):op1 (den env) env (.asl d n x) st=plain (.asl d n x) st:=(rfl)
theorem op1_asz {d n sz x} (st:St):op1 (den env) env (.asz d n sz x) st=plain (.asz d n sz x) st:=(rfl)
theorem op1_ldz {d n x} (st:St):op1 (den env) env (.ldz d n x) st=plain (.ldz d n x) st:=(rfl)
theorem op1_isn {d neg x} (st:St):op1 (den env) env (.isn d neg x) st=plain (.isn d neg x) st:=(rfl)
theorem op1_cut {d sz x} (st:St):op1 (den env) env (.cut d sz x) st=plain (.cut d sz x) st:=(rfl)
theorem dop_un {d o x} (st:St):dop env (.un d o x) st=plain (.un d o x) st:=(rfl)
theorem dop_conv {d k x} (st:St):dop env (.conv d k x) st=plain (.conv d k x) st:=(rfl)
theorem dop_load {d n p} (st:St):dop env (.load d n p) st=plain (.load d n p) st:=(rfl)
theorem dop_fadr {d p off} (st:St):dop env (.fadr d p off) st=plain (.fadr d p off) st:=(rfl)
theorem dop_aadr {d p i len sz} (st:St):dop env (.aadr d p i len sz) st=plain (.aadr d p i len sz) st:=(rfl)
theorem dop_iadr {d sz x i} (st:St):dop env (.iadr d sz x i) st=plain (.iadr d sz x i) st:=(rfl)
theorem dop_fld {d x off n} (st:St):dop env (.fld d x off n) st=plain (.fld d x off n) st:=(rfl)
theorem dop_idx {d x i len sz n} (st:St):dop env (.idx d x i len sz n) st=plain (.idx d x i len sz n) st:=(rfl)
theorem dop_sli {d sz x lo hi} (st:St):dop env (.sli d sz x lo hi) st=plain (.sli d sz x lo hi) st:=(rfl)
theorem dop_len {d x} (st:St):dop env (.len d x) st=plain (.len d x) st:=(rfl)
theorem dop_lens {d x} (st:St):dop env (.lens d x) st=plain (.lens d x) st:=(rfl)
theorem dop_ext {d x i} (st:St):dop env (.ext d x i) st=plain (.ext d x i) st:=(rfl)
theorem dop_build {d z parts} (st:St):dop env (.build d z parts) st=plain (.build d z parts) st:=(rfl)
theorem dop_mn {d mx x y} (st:St):dop env (.mn d mx x y) st=plain (.mn d mx x y) st:=(rfl)
theorem dop_mkf {d f caps} (st:St):dop env (.mkf d f caps) st=plain (.mkf d f caps) st:=(rfl)
theorem dop_alloc {d z} (st:St):dop env (.alloc d z) st=act (den env) env (.alloc d z) st:=(rfl)
theorem dop_box {d x} (st:St):dop env (.box d x) st=act (den env) env (.box d x) st:=(rfl)
theorem dop_store {d n p x} (st:St):dop env (.store d n p x) st=act (den env) env (.store d n p x) st:=(rfl)
theorem dop_mksl {d sz parts} (st:St):dop env (.mksl d sz parts) st=act (den env) env (.mksl d sz parts) st:=(rfl)
theorem dop_make {d z n c} (st:St):dop env (.make d z n c) st=act (den env) env (.make d z n c) st:=(rfl)
theorem dop_app {d sz x y} (st:St):dop env (.app d sz x y) st=act (den env) env (.app d sz x y) st:=(rfl)
theorem dop_cpy {d sz x y} (st:St):dop env (.cpy d sz x y) st=act (den env) env (.cpy d sz x y) st:=(rfl)
theorem dop_yield {d x args} (st:St):dop env (.yield d x args) st=act (den env) env (.yield d x args) st:=(rfl)
theorem op1_mov {d x} (st:St):op1 (den env) env (.mov d x) st=plain (.mov d x) st:=(rfl)
theorem op1_asg {d x} (st:St):op1 (den env) env (.asg d x) st=plain (.asg d x) st:=(rfl)
theorem op1_bin {d o x y} (st:St):op1 (den env) env (.bin d o x y) st=plain (.bin d o x y) st:=(rfl)
theorem op1_eqa {d neg n x y} (st:St):op1 (den env) env (.eqa d neg n x y) st=plain (.eqa d neg n x y) st:=(rfl)
theorem op1_eqm {d neg ks x y} (st:St):op1 (den env) env (.eqm d neg ks x y) st=plain (.eqm d neg ks x y) st:=(rfl)
theorem op1_eqb {d neg x y} (st:St):op1 (den env) env (.eqb d neg x y) st=plain (.eqb d neg x y) st:=(rfl)
theorem op1_un {d o x} (st:St):op1 (den env) env (.un d o x) st=plain (.un d o x) st:=(rfl)
theorem op1_conv {d k x} (st:St):op1 (den env) env (.conv d k x) st=plain (.conv d k x) st:=(rfl)
theorem op1_load {d n p} (st:St):op1 (den env) env (.load d n p) st=plain (.load d n p) st:=(rfl)
theorem op1_fadr {d p off} (st:St):op1 (den env) env (.fadr d p off) st=plain (.fadr d p off) st:=(rfl)
theorem op1_aadr {d p i len sz} (st:St):op1 (den env) env (.aadr d p i len sz) st=plain (.aadr d p i len sz) st:=(rfl)
theorem op1_iadr {d sz x i} (st:St):op1 (den env) env (.iadr d sz x i) st=plain (.iadr d sz x i) st:=(rfl)
theorem op1_fld {d x off n} (st:St):op1 (den env) env (.fld d x off n) st=plain (.fld d x off n) st:=(rfl)
theorem op1_idx {d x i len sz n} (st:St):op1 (den env) env (.idx d x i len sz n) st=plain (.idx d x i len sz n) st:=(rfl)
theorem op1_sli {d sz x lo hi} (st:St):op1 (den env) env (.sli d sz x lo hi) st=plain (.sli d sz x lo hi) st:=(rfl)
theorem op1_len {d x} (st:St):op1 (den env) env (.len d x) st=plain (.len d x) st:=(rfl)
theorem op1_lens {d x} (st:St):op1 (den env) env (.lens d x) st=plain (.lens d x) st:=(rfl)
theorem op1_ext {d x i} (st:St):op1 (den env) env (.ext d x i) st=plain (.ext d x i) st:=(rfl)
theorem op1_build {d z parts} (st:St):op1 (den env) env (.build d z parts) st=plain (.build d z parts) st:=(rfl)
theorem op1_mn {d mx x y} (st:St):op1 (den env) env (.mn d mx x y) st=plain (.mn d mx x y) st:=(rfl)
theorem op1_mkf {d f caps} (st:St):op1 (den env) env (.mkf d f caps) st=plain (.mkf d f caps) st:=(rfl)
theorem op1_alloc {d z} (st:St):op1 (den env) env (.alloc d z) st=act (den env) env (.alloc d z) st:=(rfl)
theorem op1_box {d x} (st:St):op1 (den env) env (.box d x) st=act (den env) env (.box d x) st:=(rfl)
theorem op1_store {d n p x} (st:St):op1 (den env) env (.store d n p x) st=act (den env) env (.store d n p x) st:=(rfl)
theorem op1_mksl {d sz parts} (st:St):op1 (den env) env (.mksl d sz parts) st=act (den env) env (.mksl d sz parts) st:=(rfl)
theorem op1_make {d z n c} (st:St):op1 (den env) env (.make d z n c) st=act (den env) env (.make d z n c) st:=(rfl)
theorem op1_app {d sz x y} (st:St):op1 (den env) env (.app d sz x y) st=act (den env) env (.app d sz x y) st:=(rfl)
theorem op1_cpy {d sz x y} (st:St):op1 (den env) env (.cpy d sz x y) st=act (den env) env (.cpy d sz x y) st:=(rfl)
theorem op1_yield {d x args} (st:St):op1 (den env) env (.yield d x args) st=act (den env) env (.yield d x args) st:=(rfl)
theorem killS_pv (d:Nat) (v:PV):AV.kill d (.pv v)=.pv v:=(rfl)
theorem killS_any (d:Nat):AV.kill d .any=.any:=(rfl)
theorem killS_row (d sz:Nat) (es:List PV):AV.kill d (.row sz es)=.row sz es:=(rfl)
theorem killS_pbox (d o j:Nat):AV.kill d (.pbox o j)=.pbox o j:=(rfl)
theorem killS_fn (d f:Nat) (l:List AV):AV.kill d (.fn f l)=.fn f l:=(rfl)
theorem killS_tup (d:Nat) (k:Bool) (l:List AV):AV.kill d (.tup k l)=.tup k l:=(rfl)
theorem killS_yld (d:Nat):AV.kill d .yld=.yld:=(rfl)
theorem killS_refs (d t off len:Nat):AV.kill d (.ref (.slot t) off len)=bcase (decide (t=d)) .any (.ref (.slot t) off len):=by
 by_cases h:t=d<;>simp [AV.kill,AV.roots,h,bcase]
theorem killS_refc (d o j off len:Nat):AV.kill d (.ref (.cell o j) off len)=.ref (.cell o j) off len:=(rfl)
theorem killS_pels (d t i j:Nat):AV.kill d (.pel (.slot t) i j)=bcase (decide (t=d)) .any (.pel (.slot t) i j):=by
 by_cases h:t=d<;>simp [AV.kill,AV.roots,h,bcase]
theorem killS_pelc (d o q i j:Nat):AV.kill d (.pel (.cell o q) i j)=.pel (.cell o q) i j:=(rfl)
theorem killc_pv (d:Nat) (v:PV):AV.killCell d (.pv v)=.pv v:=(rfl)
theorem killc_any (d:Nat):AV.killCell d .any=.any:=(rfl)
theorem killc_row (d sz:Nat) (es:List PV):AV.killCell d (.row sz es)=.row sz es:=(rfl)
theorem killc_pbox (d o j:Nat):AV.killCell d (.pbox o j)=.pbox o j:=(rfl)
theorem killc_fn (d f:Nat) (l:List AV):AV.killCell d (.fn f l)=.fn f l:=(rfl)
theorem killc_tup (d:Nat) (k:Bool) (l:List AV):AV.killCell d (.tup k l)=.tup k l:=(rfl)
theorem killc_yld (d:Nat):AV.killCell d .yld=.yld:=(rfl)
theorem killc_refc (d t j off len:Nat):AV.killCell d (.ref (.cell t j) off len)=bcase (decide (t=d)) .any (.ref (.cell t j) off len):=by
 by_cases h:t=d<;>simp [AV.killCell,AV.rootsCell,h,bcase]
theorem killc_refs (d t off len:Nat):AV.killCell d (.ref (.slot t) off len)=.ref (.slot t) off len:=(rfl)
theorem killc_pelc (d t q i j:Nat):AV.killCell d (.pel (.cell t q) i j)=bcase (decide (t=d)) .any (.pel (.cell t q) i j):=by
 by_cases h:t=d<;>simp [AV.killCell,AV.rootsCell,h,bcase]
theorem killc_pels (d t i j:Nat):AV.killCell d (.pel (.slot t) i j)=.pel (.slot t) i j:=(rfl)
theorem take_map_all {γ δ:Type} (f:γ→δ) (l:List γ):(l.map f).take l.length=l.map f:=List.take_of_length_le (by simp)
theorem scal_int (k:IntKind) (n:Int):(PV.int k n).scalar=true:=(rfl)
theorem scal_bool (b:Bool):(PV.bool b).scalar=true:=(rfl)
theorem scal_str (b:ByteArray):(PV.str b).scalar=true:=(rfl)
theorem scal_list (sz:Nat) (es:List PV):(PV.list sz es).scalar=false:=(rfl)
theorem scal_func (f:Nat) (es:List PV):(PV.func f es).scalar=false:=(rfl)
theorem cells_int (k:IntKind) (n:Int):(PV.int k n).cells=[.int k n]:=(rfl)
theorem cells_bool (b:Bool):(PV.bool b).cells=[.bool b]:=(rfl)
theorem cells_str (b:ByteArray):(PV.str b).cells=[.str b]:=(rfl)
theorem cells_list (sz:Nat) (es:List PV):(PV.list sz es).cells=[.list sz es]:=(rfl)
theorem cells_func (f:Nat) (es:List PV):(PV.func f es).cells=[.func f es]:=(rfl)
theorem cells_agg (cs:List PV):(PV.agg cs).cells=cs:=(rfl)
theorem part_one (c:PV) (cs:List PV):part (c :: cs) 0 none=some c:=(rfl)
theorem part_succ (c:PV) (cs:List PV) (n:Nat) (m:Option Nat):part (c :: cs) (n+1) m=part cs n m:=by
 cases m with
 |none=>rfl
 |some m =>
  simp only [part,List.length_cons,List.drop_succ_cons]
  by_cases h:n+m≤cs.length
  ·rw [if_pos h,if_pos (by omega)]
  ·rw [if_neg h,if_neg (by omega)]
theorem part_more (c:PV) (cs:List PV) (m:Nat):part (c :: cs) 0 (some m)=if m≤(c :: cs).length then some (.agg ((c :: cs).take m)) else none:=by
 simp only [part,Nat.zero_add,List.drop_zero]
theorem i64_fits {n:Int} (h:-9223372036854775808≤n∧n≤9223372036854775807):IntKind.i64.wrap n=n:=Go.IntWalk.i64_in n h
theorem i64_next {i n:Nat} (h:i<n) (hn:n≤lim):IntKind.i64.wrap ((i:Int)+1)=((i+1:Nat):Int):=by
 unfold lim at hn
 rw [Go.IntWalk.i64_in _ (by omega)]
 omega
theorem index_nat {k:IntKind} {i n:Nat} (h:i<n):index (.int k (i:Int)) n=some i:=by
 simp only [index]
 rw [if_pos (by omega)]
 simp
theorem index_b (k:IntKind) (i:Int) (n:Nat):index (.int k i) n=bcase (decide (0≤i∧i<n)) (some i.toNat) none:=by
 simp only [index]
 by_cases h:0≤i∧i<n
 ·rw [if_pos h,decide_eq_true h];rfl
 ·rw [if_neg h,decide_eq_false h];rfl
theorem index_int {k:IntKind} {i:Int} {n:Nat} (h0:0≤i) (h:i<n):index (.int k i) n=some i.toNat:=by
 simp only [index]
 rw [if_pos ⟨h0,h⟩]
end
end Go.Proofs.YtioijcfcehhmdaaGreatDoor

namespace Go.Proofs.YtioijcfcehhmdaaGreatDoor.V
def eI (n:Int):PV:=.int .i64 n
def secPV (x:Sec):List PV:=x.toList.map fun b=>.int .u8 (b.toNat:Int)
def eSec (x:Sec):PV:=.agg (secPV x)
def zSec:Sec:=Vector.replicate 8 0
structure Exn where
 start:Int
 count:Int
 deriving DecidableEq
def eExt (x:Exn):PV:=.agg [.int .i64 x.start,.int .i64 x.count]
structure Wrt where
 volume:Int
 start:Int
 data:List Sec
 deriving DecidableEq
def eWr (x:Wrt):PV:=.agg [.int .i64 x.volume,.int .i64 x.start,.list 8 (x.data.map eSec)]
def eSecs (l:List Sec):PV:=.list 8 (l.map eSec)
abbrev Img:=List (List Sec)
theorem secPV_length (x:Sec):(secPV x).length=8:=by simp [secPV]
theorem msnoc_len {α β:Type} (f:α→β) (l:List α) (x:β):(l.map f++[x]).length=l.length+1:=by simp
theorem msnoc_get {α β:Type} (f:α→β) (l:List α) (x:β):(l.map f++[x])[l.length]?=some x:=by
 have:(l.map f).length=l.length:=by simp
 rw [← this];simp
theorem msnoc_set {α β:Type} (f:α→β) (l:List α) (x y:β):(l.map f++[x]).set l.length y=l.map f++[y]:=by
 have:(l.map f).length=l.length:=by simp
 rw [← this];simp
theorem msnoc_take {α β:Type} (f:α→β) (l:List α) (x:β):(l.map f++[x]).take (l.length+1)=l.map f++[x]:=by
 rw [← msnoc_len f l x,List.take_length]
theorem val_pvs (l:List PV):(l.map BV.pv).map BV.val=l:=by
 rw [List.map_map];exact List.map_id' l
theorem frozen_pvs (l:List PV):(l.map BV.pv).map BV.frozen=l.map BV.pv:=by
 rw [List.map_map];rfl
end Go.Proofs.YtioijcfcehhmdaaGreatDoor.V

namespace Go.Proofs.YtioijcfcehhmdaaGreatDoor
open V
def cloneX (n:Nat):List PV→Option (List Res)
 |[.list sz es]=>if sz=n∧es.length≤lim then some [(.list sz es,true)] else none
 |_=>none
def decU8:PV→Option UInt8
 |.int .u8 n=>if 0≤n∧n<256 then some (UInt8.ofNat n.toNat) else none
 |_=>none
def decAll {α:Type} (f:PV→Option α):List PV→Option (List α)
 |[]=>some []
 |p :: l=>match f p with
  |some x=>match decAll f l with
   |some xs=>some (x :: xs)
   |none=>none
  |none=>none
def decSec:PV→Option Sec
 |.agg cs=>match decAll decU8 cs with
  |some l=>if h:l.length=8 then some ⟨l.toArray,by simpa using h⟩ else none
  |none=>none
 |_=>none
def decSecs:PV→Option (List Sec)
 |.list 8 es=>decAll decSec es
 |_=>none
def i64b (n:Int):Bool:=decide (-9223372036854775808≤n)&&decide (n≤9223372036854775807)
def decWr:PV→Option Wrt
 |.agg [.int .i64 v,.int .i64 s,d]=>match decSecs d with
  |some d=>if i64b v&&i64b s then some ⟨v,s,d⟩ else none
  |none=>none
 |_=>none
theorem decU8_eq {p:PV} {x:UInt8} (h:decU8 p=some x):p=.int .u8 (x.toNat:Int):=by
 unfold decU8 at h
 split at h
 case h_2=>cases h
 rename_i n
 split at h
 case isFalse=>cases h
 cases h
 rw [UInt8.toNat_ofNat_of_lt' (show n.toNat<2 ^ 8 by omega)]
 congr 1;omega
theorem decAll_eq {α:Type} {f:PV→Option α} {enc:α→PV} (hf:∀ p x,f p=some x→p=enc x):∀ {l:List PV} {xs:List α},decAll f l=some xs→l=xs.map enc
 |[],_,h=>by cases h;rfl
 |p :: l,xs,h=>by
  unfold decAll at h
  split at h
  case h_2=>cases h
  rename_i x hx
  split at h
  case h_2=>cases h
  rename_i ys hy
  cases h
  rw [List.map_cons,← hf p x hx,← decAll_eq hf hy]
theorem decSec_eq {p:PV} {x:Sec} (h:decSec p=some x):p=eSec x:=by
 unfold decSec at h
 split at h
 case h_2=>cases h
 rename_i cs
 split at h
 case h_2=>cases h
 rename_i l hl
 split at h
 case isFalse=>cases h
 rename_i h8
 cases h
 rw [decAll_eq (fun p x=>decU8_eq) hl]
 simp [eSec,secPV,Vector.toList]
theorem decSecs_eq {p:PV} {x:List Sec} (h:decSecs p=some x):p=eSecs x:=by
 unfold decSecs at h
 split at h
 case h_2=>cases h
 rw [decAll_eq (fun p x=>decSec_eq) h];rfl
theorem decWr_eq {p:PV} {x:Wrt} (h:decWr p=some x):p=eWr x:=by
 unfold decWr at h
 split at h
 case h_2=>cases h
 split at h
 case h_2=>cases h
 rename_i d hd
 split at h
 case isFalse=>cases h
 cases h
 have:=decSecs_eq hd
 rw [this];rfl
theorem decWr_ok {p:PV} {x:Wrt} (h:decWr p=some x):i64b x.volume=true∧i64b x.start=true:=by
 unfold decWr at h
 split at h
 case h_2=>cases h
 split at h
 case h_2=>cases h
 split at h
 case isFalse=>cases h
 rename_i hc
 cases h
 simpa using hc
def szErr (l:List Int):Int:=if l.length<1∨8<l.length then 6 else if l.any (fun n=>decide (n<1) || decide (n > 4096)) then 2 else 0
def szsOf (im:List (List Sec)):List Int:=im.map fun v=>(v.length:Int)
def wrErr (sz:List Int) (w:Wrt):Int :=
 if w.volume<0∨(sz.length:Int)≤w.volume then 7 else if w.data.length=0 then 1
 else if w.start<0∨(sz.getD w.volume.toNat 0) - w.data.length<w.start then 2 else 0
def putAt (l:List Sec) (s:Nat) (d:List Sec):List Sec:=l.take s++d++l.drop (s+d.length)
def put1 (im:List (List Sec)) (w:Wrt):List (List Sec):=im.set w.volume.toNat (putAt (im.getD w.volume.toNat []) w.start.toNat w.data)
def wrErrs (sz:List Int):List Wrt→Nat→Int × Int
 |[],_=>(0,0)
 |w :: l,i=>if wrErr sz w≠0 then (i,wrErr sz w) else wrErrs sz l (i+1)
def apE (im:List (List Sec)) (l:List Wrt):Int:=if szErr (szsOf im)≠0 then szErr (szsOf im) else (wrErrs (szsOf im) l 0).2
def apI (im:List (List Sec)) (l:List Wrt):Int:=if szErr (szsOf im)≠0 then 0 else (wrErrs (szsOf im) l 0).1
def apO (im:List (List Sec)) (l:List Wrt):List (List Sec):=if apE im l=0 then l.foldl put1 im else []
def applyX:List PV→Option (List Res)
 |[.list 1 im,.list 3 l]=>match decAll decSecs im with
  |some im=>match decAll decWr l with
   |some l=>if im.length≤1000000∧im.all (fun v=>decide (v.length≤1000000))=true then some [(.list 1 ((apO im l).map eSecs),false),(.int .i64 (apI im l),false),(.int .i64 (apE im l),false)] else none
   |none=>none
  |none=>none
 |_=>none
theorem applyX_eq {args:List PV} {rs:List Res} (h:applyX args=some rs):∃ (im:List (List Sec)) (l:List Wrt),args=[.list 1 (im.map eSecs),.list 3 (l.map eWr)]∧(∀ w∈l,i64b w.volume=true∧i64b w.start=true)∧im.length≤1000000∧(∀ v∈im,v.length≤1000000) ∧
  rs=[(.list 1 ((apO im l).map eSecs),false),(.int .i64 (apI im l),false),(.int .i64 (apE im l),false)]:=by
 unfold applyX at h
 split at h
 case h_2=>cases h
 split at h
 case h_2=>cases h
 rename_i im hi
 split at h
 case h_2=>cases h
 rename_i l hl
 split at h
 case isFalse=>cases h
 rename_i hc
 cases h
 refine ⟨im,l,by rw [decAll_eq (fun p x=>decSecs_eq) hi,decAll_eq (fun p x=>decWr_eq) hl],?_,hc.1,fun v hv=>by simpa using List.all_eq_true.1 hc.2 v hv,rfl⟩
 have:∀ {q:List PV} {xs:List Wrt},decAll decWr q=some xs→∀ w∈xs,i64b w.volume=true∧i64b w.start=true:=by
  intro q
  induction q with
  |nil=>intro xs h;cases h;simp
  |cons p q ih =>
   intro xs h
   unfold decAll at h
   split at h
   case h_2=>cases h
   rename_i x hx
   split at h
   case h_2=>cases h
   rename_i ys hy
   cases h
   simp only [List.mem_cons,forall_eq_or_imp]
   exact ⟨decWr_ok hx,ih hy⟩
 exact this hl
end Go.Proofs.YtioijcfcehhmdaaGreatDoor

namespace Go.Proofs.YtioijcfcehhmdaaGreatDoor
structure End where
 pos:Nat
 list:Nat
 step:Int
 deriving DecidableEq,Inhabited
def eEnd (e:End):PV:=.agg [.int .i64 (e.pos:Int),.int .i64 (e.list:Int),.int .i64 e.step]
def decEnd:PV→Option End
 |.agg [.int .i64 a,.int .i64 b,.int .i64 c]=>if 0≤a∧0≤b then some ⟨a.toNat,b.toNat,c⟩ else none
 |_=>none
theorem decEnd_eq {p:PV} {e:End} (h:decEnd p=some e):p=eEnd e:=by
 unfold decEnd at h
 split at h
 ·split at h
  ·rename_i hc
   cases h
   simp only [eEnd,Int.toNat_of_nonneg hc.1,Int.toNat_of_nonneg hc.2]
  ·cases h
 ·cases h
def ltEnd (x y:End):Bool:=decide (x.pos<y.pos)
def sortE (l:List End):List End:=(Sort.pdq ltEnd l.toArray 0 l.length (Lib.bitLen l.length) true true).toList
def sortEndsX (g:Nat):PV→List PV→Option (List PV)
 |.func f [],es=>if f=g then if es.length≤1000000 then (decAll decEnd es).map fun l=>(sortE l).map eEnd else none else none
 |_,_=>none
theorem sortEndsX_eq {g:Nat} {c:PV} {es es':List PV} (h:sortEndsX g c es=some es'):∃ l:List End,c=.func g []∧es=l.map eEnd∧l.length≤1000000∧es'=(sortE l).map eEnd:=by
 unfold sortEndsX at h
 split at h
 ·split at h
  ·rename_i hg
   split at h
   ·rename_i hl
    obtain ⟨l,h1,h2⟩:=Option.map_eq_some_iff.1 h
    have:=decAll_eq (fun p x h=>decEnd_eq h) h1
    subst this
    exact ⟨l,by rw [hg],rfl,by simpa using hl,h2.symm⟩
   ·cases h
  ·cases h
 ·cases h
end Go.Proofs.YtioijcfcehhmdaaGreatDoor

namespace Go.Proofs
open Go.Shelf
def Tryz.tz_ren:Go.Shelf.Ren:=⟨fun|29=>150|n=>n,fun|22=>144|3=>3|4=>4|25=>180|54=>204|0=>0|5=>5|n=>n,fun|1=>0|n=>n⟩
theorem Tryz.tz:Go.Proofs.Lays7.n29 Tryz.prog Tryz.tz_ren:={
 mixed:=by kernel_rfl
 f29:=Tryz.func150.trans (congrArg some (by kernel_rfl))
 t0:=Tryz.underlying0
 a0:=Tryz.isAgg0
 z0:=Tryz.sizeOf0
 v0:=Tryz.zeroValue0
 i0:=by kernel_rfl
 t3:=Tryz.underlying3
 a3:=Tryz.isAgg3
 z3:=Tryz.sizeOf3
 v3:=Tryz.zeroValue3
 i3:=by kernel_rfl
 t4:=Tryz.underlying4
 a4:=Tryz.isAgg4
 z4:=Tryz.sizeOf4
 v4:=Tryz.zeroValue4
 i4:=by kernel_rfl
 t5:=Tryz.underlying5
 a5:=Tryz.isAgg5
 z5:=Tryz.sizeOf5
 v5:=Tryz.zeroValue5
 i5:=by kernel_rfl
 t22:=Tryz.underlying144
 a22:=Tryz.isAgg144
 z22:=Tryz.sizeOf144
 v22:=Tryz.zeroValue144
 i22:=by kernel_rfl
 t25:=Tryz.underlying180
 a25:=Tryz.isAgg180
 z25:=Tryz.sizeOf180
 v25:=Tryz.zeroValue180
 i25:=by kernel_rfl
 t54:=Tryz.underlying204
 a54:=Tryz.isAgg204
 z54:=Tryz.sizeOf204
 g1:=by kernel_rfl }
end Go.Proofs

namespace Go.Proofs.YtioijcfcehhmdaaGreatDoor
open Go.RowKit Go.Shelf
def tzX:List PV→Option (List Res)
 |[.int .u64 n]=>if 0≤n∧n<18446744073709551616 then some [(.int .i64 (Lib.ctz 64 n.toNat:Nat),false)] else none
 |_=>none
theorem tab_at {T:Tags} {w:World} (h:GlobOk T w):TabAt 0 Lib.deBruijn64tab w:=fun j hj=>by
 have hp:=h _ (List.mem_singleton.2 rfl)
 obtain ⟨b,off,e1,_,_,h3⟩:=hp.iptr_inv
 obtain ⟨eb,eo⟩:0=b∧0=off+0:=by
  injection e1 with e1
  injection e1 with e1
  injection e1 with e2 e3
  exact ⟨e2,e3⟩
 have eo:off=0:=by omega
 subst eb;subst eo
 obtain ⟨u,c1,_,c2⟩:=h3 j (PV.int .u8 ((Lib.deBruijn64tab[j]:Nat):Int)) (by simp [List.getElem?_eq_getElem hj])
 rw [c2.int_inv] at c1
 rw [show Lib.deBruijn64tab.getD j 0=Lib.deBruijn64tab[j] by simp [List.getD_eq_getElem?_getD,List.getElem?_eq_getElem hj]]
 simpa using c1
theorem tz_ok:∀ args rs,tzX args=some rs→callable Tryz.prog 150=true∧CallOk Tryz.prog 150 args rs:=fun args rs h=>by
 unfold tzX at h
 split at h
 case h_2=>cases h
 rename_i n
 split at h
 case isFalse=>cases h
 rename_i hn
 cases h
 refine ⟨by kernel_rfl,fun T0 w vs h1 h2 h3 h4 hG=>?_⟩
 match vs,h3 with
 |[v],_ =>
  have hv:=(h4 0 _ v rfl rfl).int_inv
  subst hv
  have hc:=Any7.bits_TrailingZeros64 Tryz.tz n.toNat (by omega) w (fun _=>tab_at hG)
  rw [Int.toNat_of_nonneg hn.1] at hc
  refine Calls.mono hc ?_
  rintro e w' ⟨rfl,rfl⟩
  refine ⟨_,T0,rfl,Below.refl _ _,fun _ _=>rfl,h2,#[_],rfl,rfl,fun i r u hr hu=>?_⟩
  match i with
  |0=>cases hr;cases hu;exact .int _ _
  |i+1=>simp at hr
end Go.Proofs.YtioijcfcehhmdaaGreatDoor

namespace Go.Proofs.YtioijcfcehhmdaaGreatDoor
open Go.RowKit Go.ChangeShapes Go.WideShapes Go.ChangeAt
theorem resrep_true {T:Tags} {w:World} {b:Bool} {v:Value} (h:ResRep T w [(.bool b,false)] v):v=.bool b:=by
 obtain ⟨arr,h1,h2,h3⟩:=h
 have ha:arr.size=1:=h1
 have e0:arr[0]?=some arr[0]:=Array.getElem?_eq_getElem (by omega)
 have hv:v=arr[0]:=by rw [h2,if_pos ha,Array.getD_eq_getD_getElem?,e0];rfl
 have hr:PRep (fun b=>T b=.ro) w (.bool b) arr[0]:=h3 0 (.bool b,false) arr[0] rfl e0
 rw [hv]
 exact hr.bool_inv
def GlobIn (w:World):Prop:=GlobOk (fun b=>if b<w.heap.size then .ro else .other) w
theorem calls_true {P:Program} {env:Env} {f:Nat} {args:List PV} {vs:List Value} {w:World} (hE:EnvOk P env) (h:cal env f args=some [(.bool true,false)]) (hl:vs.length=args.length)
  (hr:∀ (i:Nat) x v,args[i]?=some x→vs[i]?=some v→PRep (fun b=>b<w.heap.size) w x v) (hG:GlobIn w):Calls P f vs.toArray w (fun e w'=>e=.returned (.bool true)∧Below w.heap.size w w'):=by
 obtain ⟨n,hn⟩:=vmCall_of_cal h
 have hC:=(vmCall_ok hE hn).2 (fun b=>if b<w.heap.size then .ro else .other) w vs (fun b=>by
  by_cases hb:b<w.heap.size
  ·exact .inl (if_pos hb)
  ·exact .inr (if_neg hb)) (fun b hb=>if_neg (by omega)) hl (fun i x v hx hv=>(hr i x v hx hv).frame fun b hb _=>⟨if_pos hb,rfl⟩) hG
 refine hC.mono ?_
 rintro e w' ⟨v,T',rfl,h1,_,_,h2⟩
 exact ⟨by rw [resrep_true h2],h1⟩
def RepAll (w:World):List PV→List Value→Prop
 |[],[]=>True
 |x :: xs,v :: vs=>PRep (fun b=>b<w.heap.size) w x v∧RepAll w xs vs
 |_,_=>False
theorem RepAll.get {w:World}:∀ {xs:List PV} {vs:List Value},RepAll w xs vs→vs.length=xs.length∧∀ (i:Nat) x v,xs[i]?=some x→vs[i]?=some v→PRep (fun b=>b<w.heap.size) w x v
 |[],[],_=>⟨rfl,fun i x v hx=>by simp at hx⟩
 |x :: xs,v :: vs,h=>by
  obtain ⟨h1,h2⟩:=h
  obtain ⟨k1,k2⟩:=h2.get
  refine ⟨by simp [k1],fun i y u hy hu=>?_⟩
  cases i with
  |zero=>cases hy;cases hu;exact h1
  |succ i=>exact k2 i y u hy hu
 |[],_ :: _,h=>h.elim
 |_ :: _,[],h=>h.elim
theorem calls_all {P:Program} {env:Env} {f:Nat} {args:List PV} {vs:List Value} {w:World} (hE:EnvOk P env) (h:cal env f args=some [(.bool true,false)]) (hr:RepAll w args vs) (hG:GlobIn w:=by exact GlobIn.none):Calls P f vs.toArray w (fun e w'=>e=.returned (.bool true)∧Below w.heap.size w w') :=
 calls_true hE h hr.get.1 hr.get.2 hG
def CRep (w:World) (cs:List Value) (ps:List PV):Prop :=
 cs.length=ps.length∧(∀ c∈cs,c.oneCell'=true)∧∀ (j:Nat) x v,ps[j]?=some x→cs[j]?=some v→PRep (fun b=>b<w.heap.size) w x v
def RdsC (P:Program) (t:TypeId) (n:Nat) (S:List PV→Prop):Prop :=
 P.cellsOf t=n∧∀ {H:Type} {enc:TypeId × Value→H} {w:World} {fuel:Nat} {cs:List Value} {x:DataW H × List MemPlace},DataW.trod enc P w 0 (fun _=>true) true fuel t cs=some x→∃ ps,S ps∧ps.length=n∧CRep w cs ps
def SInt (k:IntKind) (ps:List PV):Prop:=∃ n,(Lit.int k n).wf=true∧ps=[.int k n]
def SBool (ps:List PV):Prop:=∃ b,ps=[.bool b]
def SArr (n:Nat) (S:List PV→Prop) (ps:List PV):Prop:=ps.length=n∧∀ p∈ps,S [p]
def wrS (ps:List PV):PV:=ps.headD .void
def SList (n:Nat) (S:List PV→Prop) (wr:List PV→PV) (ps:List PV):Prop:=∃ es,ps=[.list n es]∧∀ x∈es,∃ q,S q∧x=wr q
def SCat:List (List PV→Prop)→List PV→Prop
 |[],ps=>ps=[]
 |S :: Ss,ps=>∃ p q,ps=p++q∧S p∧SCat Ss q
section
variable {P:Program} {t e:TypeId} {n m:Nat} {S:List PV→Prop} {k:IntKind}
theorem crep_one {w:World} {c:Value} {p:PV} (hc:c.oneCell'=true) (h:PRep (fun b=>b<w.heap.size) w p c):CRep w [c] [p] :=
 ⟨rfl,fun x hx=>by rw [List.mem_singleton.1 hx];exact hc,fun j x v hx hv=>by
  cases j with
  |zero=>cases hx;cases hv;exact h
  |succ j=>simp at hx⟩
theorem RdsC.int (ht:P.underlying t=some (.int k)) (hc:P.cellsOf t=1):RdsC P t 1 (SInt k):=⟨hc,fun h=>by
 obtain ⟨n,rfl,_,hw⟩:=DataW.trod_int ht h
 exact ⟨[.int k n],⟨n,hw,rfl⟩,rfl,crep_one rfl (.int k n)⟩⟩
theorem RdsC.bool (ht:P.underlying t=some .bool) (hc:P.cellsOf t=1):RdsC P t 1 SBool:=⟨hc,fun h=>by
 obtain ⟨b,rfl,_⟩:=DataW.trod_bool ht h
 exact ⟨[.bool b],⟨b,rfl⟩,rfl,crep_one rfl (.bool b)⟩⟩
theorem each_pick {α:Type} {p:Nat→α→Prop}:∀ n:Nat,(∀ i,i<n→∃ y,p i y)→∃ l:List α,l.length=n∧∀ i x,l[i]?=some x→p i x
 |0,_=>⟨[],rfl,fun i x h=>by simp at h⟩
 |n+1,h=>by
  obtain ⟨l,h1,h2⟩:=each_pick n fun i hi=>h i (by omega)
  obtain ⟨y,hy⟩:=h n (by omega)
  refine ⟨l++[y],by simp [h1],fun i x hx=>?_⟩
  by_cases hi:i<n
  ·rw [List.getElem?_append_left (by omega)] at hx;exact h2 i x hx
  ·have:=(List.getElem?_eq_some_iff.1 hx).1
   obtain rfl:i=n:=by simp at this;omega
   rw [List.getElem?_append_right (by omega),h1,Nat.sub_self] at hx
   cases hx
   exact hy
theorem RdsC.arr (ht:P.underlying t=some (.array n e)) (he:RdsC P e 1 S) (hc:P.cellsOf t=n):RdsC P t n (SArr n S):=⟨hc,fun {H enc w fuel cs x} h=>by
 obtain ⟨xs,m,_,_,hl,hx,hE⟩:=DataW.trod_array ht h
 rw [hc] at hl
 obtain ⟨l,h1,h2⟩:=each_pick (p:=fun i (b:PV)=>S [b]∧∃ c,cs[i]?=some c∧c.oneCell'=true∧PRep (fun b=>b<w.heap.size) w b c) n fun i hi=>by
  have:=hE i hi
  rw [List.getElem?_eq_getElem (by omega),he.1] at this
  obtain ⟨ps,g1,g2,g3,g4,g5⟩:=he.2 this
  match ps,g2 with
  |[p],_ =>
   have hci:cs[i]?=some cs[i]:=List.getElem?_eq_getElem (by omega)
   have h0:((cs.drop (i * 1)).take 1)[0]?=some cs[i]:=by
    rw [List.getElem?_take,if_pos (by decide),List.getElem?_drop]
    simpa using hci
   exact ⟨p,g1,cs[i],hci,g4 _ (List.mem_of_getElem? h0),g5 0 p _ rfl h0⟩
 refine ⟨l,⟨h1,fun p hp=>?_⟩,h1,by omega,fun c hc=>?_,fun j x v hx hv=>?_⟩
 ·obtain ⟨i,hi⟩:=List.mem_iff_getElem?.1 hp
  exact (h2 i p hi).1
 ·obtain ⟨i,hi⟩:=List.mem_iff_getElem?.1 hc
  have hil:i<l.length:=by
   have:=(List.getElem?_eq_some_iff.1 hi).1
   omega
  obtain ⟨_,c',e1,e2,_⟩:=h2 i l[i] (List.getElem?_eq_getElem hil)
  rw [hi] at e1;cases e1;exact e2
 ·obtain ⟨_,c',e1,_,e3⟩:=h2 j x hx
  rw [hv] at e1;cases e1;exact e3⟩
theorem cellish_of {w:World} {b off:Nat} {v:Value} (h:w.cell? ⟨b,off,none⟩=some v):Cellish w b:=by
 unfold World.cell? at h
 split at h
 ·rename_i arr E q hb
  exact ⟨arr,E,q,hb⟩
 ·cases h
theorem RdsC.list {wr:List PV→PV} (ht:P.underlying t=some (.slice e)) (hc:P.cellsOf t=1) (hr:RdsC P e n S) (hpos:0<n) (hw:∀ ps,S ps→ps.length=n→(wr ps).cells=ps):RdsC P t 1 (SList n S wr):=⟨hc,fun {H enc w fuel cs x} h=>by
 rcases DataW.trod_slice ht h with ⟨rfl,_⟩|⟨a,len,cap,elems,rest,m,_,rfl,_,_,hl,hm,hel,hE,hR,_⟩
 ·exact ⟨[.list n []],⟨[],rfl,fun x hx=>by cases hx⟩,rfl,crep_one rfl (.nil n none)⟩
 ·obtain ⟨l,h1,h2⟩:=each_pick (p:=fun i (y:List Value × List PV)=>w.cells? 0 (a.add (i * n)) n=some y.1∧S y.2∧y.2.length=n∧CRep w y.1 y.2) len fun i hi=>by
   have:=hE i hi
   rw [List.getElem?_eq_getElem (by omega),hr.1,Option.bind_eq_some_iff] at this
   obtain ⟨c,h3,h4⟩:=this
   obtain ⟨ps,g1,g2,g3⟩:=hr.2 h4
   exact ⟨(c,ps),h3,g1,g2,g3⟩
  refine ⟨[.list n (l.map fun y=>wr y.2)],⟨_,rfl,fun x hx=>?_⟩,rfl,crep_one rfl ?_⟩
  ·obtain ⟨y,hy,rfl⟩:=List.mem_map.1 hx
   obtain ⟨i,hi⟩:=List.mem_iff_getElem?.1 hy
   exact ⟨y.2,(h2 i y hi).2.1,rfl⟩
  ·by_cases hcap:cap=0
   ·have:len=0:=by omega
    subst hcap;subst this
    have:l=[]:=List.eq_nil_of_length_eq_zero h1
    subst this
    exact .nil n (some a)
   ·-- there are cells
    have hcell:∃ off v,w.cell? ⟨a.block,off,none⟩=some v∧a.spot=none:=by
     have fromc:∀ (i:Nat) (c:List Value),w.cells? 0 (a.add (i * n)) n=some c→∃ off v,w.cell? ⟨a.block,off,none⟩=some v∧a.spot=none:=fun i c h3=>by
      obtain ⟨_,hc0,h4⟩:=World.cells?_some h3
      have h5:=h4 0 hpos
      rw [List.getElem?_eq_getElem (by omega)] at h5
      have hs:(a.add (i * n)).spot=none:=by simpa [Addr.add] using World.cell?_spot h5
      have hs0:a.spot=none:=by
       unfold Addr.add at hs
       split at hs
       ·exact hs
       ·rename_i hne
        by_cases h0:i * n=0
        ·rename_i q;exact absurd h0 (by simpa using hne)
        ·rcases Nat.eq_zero_or_pos i with hi0|hi0
         ·subst hi0;simp at h0
         ·-- the row begins at a: its first cell
          have:0<len∨len=0:=by omega
          rcases this with hlen|hlen
          ·obtain ⟨y,hy⟩:∃ y,l[0]?=some y:=⟨l[0],List.getElem?_eq_getElem (by omega)⟩
           obtain ⟨_,hc1,h6⟩:=World.cells?_some (h2 0 y hy).1
           have h7:=h6 0 hpos
           rw [List.getElem?_eq_getElem (by omega)] at h7
           simpa [Addr.add] using World.cell?_spot h7
          ·have hrl:0<rest.length:=by have:=(hR rfl).1;omega
           have:=(hR rfl).2 0 (by omega)
           have h8:rest[0]?=some rest[0]:=List.getElem?_eq_getElem hrl
           rw [h8,hr.1,hlen,Option.bind_eq_some_iff] at this
           obtain ⟨c1,h9,_⟩:=this
           obtain ⟨_,hc1,h6⟩:=World.cells?_some h9
           have h7:=h6 0 hpos
           rw [List.getElem?_eq_getElem (by omega)] at h7
           simpa [Addr.add] using World.cell?_spot h7
      obtain ⟨b,off,spot⟩:=a
      simp only at hs0
      subst hs0
      rw [Addr.add_lit,Addr.add_lit] at h5
      exact ⟨_,_,h5,rfl⟩
     rcases Nat.eq_zero_or_pos len with hlen|hlen
     ·have hrl:0<rest.length:=by have:=(hR rfl).1;omega
      have:=(hR rfl).2 0 (by omega)
      have h8:rest[0]?=some rest[0]:=List.getElem?_eq_getElem hrl
      rw [h8,hr.1,Option.bind_eq_some_iff] at this
      obtain ⟨c1,h9,_⟩:=this
      exact fromc _ c1 h9
     ·obtain ⟨y,hy⟩:∃ y,l[0]?=some y:=⟨l[0],List.getElem?_eq_getElem (by omega)⟩
      exact fromc 0 _ (h2 0 y hy).1
    obtain ⟨off0,v0,hv0,hspot⟩:=hcell
    obtain ⟨b,off,spot⟩:=a
    simp only at hspot hv0
    subst hspot
    have hC:Cellish w b:=cellish_of hv0
    have hget:∀ (i:Nat) x,(l.map fun y=>wr y.2)[i]?=some x→∃ y,l[i]?=some y∧x=wr y.2:=fun i x hx=>by
     rw [List.getElem?_map] at hx
     cases e:l[i]? with
     |none=>rw [e] at hx;cases hx
     |some y=>rw [e] at hx;exact ⟨y,rfl,(Option.some.inj hx).symm⟩
    have hlen:(l.map fun y=>wr y.2).length=len:=by simp [h1]
    have:=PRep.list (ok:=fun b=>b<w.heap.size) (w:=w) n (l.map fun y=>wr y.2) b off cap (fun i j=>(((l[i]?).map (·.1)).getD []).getD j default) hC.lt hC (by rw [hlen];exact hl) hm
     (fun x hx=>by
      obtain ⟨i,hi⟩:=List.mem_iff_getElem?.1 hx
      obtain ⟨y,hy,rfl⟩:=hget i x hi
      obtain ⟨_,g1,g2,_⟩:=h2 i y hy
      rw [hw _ g1 g2,g2])
     (fun i x j p hi hj=>by
      obtain ⟨y,hy,rfl⟩:=hget i x hi
      obtain ⟨g0,g1,g2,g3,g4,g5⟩:=h2 i y hy
      rw [hw _ g1 g2] at hj
      have hjn:j<n:=by have:=(List.getElem?_eq_some_iff.1 hj).1;omega
      obtain ⟨_,hc1,h6⟩:=World.cells?_some g0
      have h7:=h6 j hjn
      have hcj:y.1[j]?=some y.1[j]:=List.getElem?_eq_getElem (by omega)
      have hd:(((l[i]?).map (·.1)).getD []).getD j default=y.1[j]:=by
       rw [hy];simp [List.getD_eq_getElem?_getD,hcj]
      rw [hd]
      rw [hcj,Addr.add_lit,Addr.add_lit] at h7
      exact ⟨h7,g4 _ (List.mem_of_getElem? hcj)⟩)
     (fun i x j p hi hj=>by
      obtain ⟨y,hy,rfl⟩:=hget i x hi
      obtain ⟨g0,g1,g2,g3,g4,g5⟩:=h2 i y hy
      rw [hw _ g1 g2] at hj
      have hjn:j<n:=by have:=(List.getElem?_eq_some_iff.1 hj).1;omega
      have hcj:y.1[j]?=some y.1[j]:=List.getElem?_eq_getElem (by omega)
      have hd:(((l[i]?).map (·.1)).getD []).getD j default=y.1[j]:=by
       rw [hy];simp [List.getD_eq_getElem?_getD,hcj]
      rw [hd]
      exact g5 j p _ hj hcj)
    rw [hlen] at this
    exact this⟩
theorem CRep.append {w:World} {c1 c2:List Value} {p1 p2:List PV} (h1:CRep w c1 p1) (h2:CRep w c2 p2):CRep w (c1++c2) (p1++p2):=by
 obtain ⟨a1,a2,a3⟩:=h1
 obtain ⟨b1,b2,b3⟩:=h2
 refine ⟨by simp [a1,b1],fun c hc=>?_,fun j x v hx hv=>?_⟩
 ·rcases List.mem_append.1 hc with h|h
  ·exact a2 c h
  ·exact b2 c h
 ·by_cases hj:j<p1.length
  ·rw [List.getElem?_append_left hj] at hx
   rw [List.getElem?_append_left (by omega)] at hv
   exact a3 j x v hx hv
  ·rw [List.getElem?_append_right (by omega)] at hx
   rw [List.getElem?_append_right (by omega),a1] at hv
   exact b3 _ x v hx hv
inductive Flds (P:Program):Nat→List Field→List (List PV→Prop)→Nat→Prop
 |nil (o:Nat):Flds P o [] [] 0
 |cons {o n m:Nat} {f:Field} {fs:List Field} {S:List PV→Prop} {Ss:List (List PV→Prop)}:f.offset=o→RdsC P f.type n S→Flds P (o+n) fs Ss m→Flds P o (f :: fs) (S :: Ss) (n+m)
theorem Flds.read {o:Nat} {fs:List Field} {Ss:List (List PV→Prop)} (h:Flds P o fs Ss m) {H:Type} {enc:TypeId × Value→H} {w:World} {fuel:Nat} {cs:List Value} {xs:List (DataW H × List MemPlace)} (hl:cs.length=o+m)
  (hx:∀ (i:Nat) (f:Field),fs[i]?=some f→∃ x,DataW.trod enc P w 0 (fun _=>true) true fuel f.type ((cs.drop f.offset).take (P.cellsOf f.type))=some x):∃ ps,SCat Ss ps∧ps.length=m∧CRep w (cs.drop o) ps:=by
 induction h with
 |nil o=>exact ⟨[],rfl,rfl,by rw [List.drop_of_length_le (by omega)];exact (⟨rfl,fun c hc=>(by cases hc),fun j x v hx=>(by simp at hx)⟩:CRep w [] [])⟩
 |@cons o n m f fs S Ss h1 h2 h3 ih =>
  obtain ⟨x,h4⟩:=hx 0 f rfl
  rw [h2.1,h1] at h4
  obtain ⟨p,g1,g2,g3⟩:=h2.2 h4
  obtain ⟨q,k1,k2,k3⟩:=ih (by omega) (fun i f hf=>hx (i+1) f hf)
  refine ⟨p++q,⟨p,q,rfl,g1,k1⟩,by simp [g2,k2],?_⟩
  have:cs.drop o=(cs.drop o).take n++cs.drop (o+n):=by rw [← List.drop_drop,List.take_append_drop]
  rw [this]
  exact g3.append k3
theorem RdsC.struct {fs:Array Field} {Ss:List (List PV→Prop)} (ht:P.underlying t=some (.struct fs)) (hf:Flds P 0 fs.toList Ss n) (hc:P.cellsOf t=n):RdsC P t n (SCat Ss):=⟨hc,fun {H enc w fuel cs x} h=>by
 obtain ⟨xs,m,_,_,hl,hx,hE⟩:=DataW.trod_struct ht h
 obtain ⟨ps,h1,h2,h3⟩:=hf.read (xs:=xs) (enc:=enc) (w:=w) (fuel:=m) (cs:=cs) (by omega) (fun i f hi=>by
  have hi':fs[i]?=some f:=by simpa using hi
  have:=hE i f hi'
  have hil:i<xs.length:=by rw [hx];exact (Array.getElem?_eq_some_iff.1 hi').1
  exact ⟨xs[i],by rw [this,List.getElem?_eq_getElem hil]⟩)
 exact ⟨ps,h1,h2,by simpa using h3⟩⟩
theorem RdsC.struct2 {f0 f1:Field} {n0 n1:Nat} {S0 S1:List PV→Prop} (ht:P.underlying t=some (.struct #[f0,f1])) (h0:RdsC P f0.type n0 S0) (h1:RdsC P f1.type n1 S1) (o0:f0.offset=0) (o1:f1.offset=0+n0) (hc:P.cellsOf t=n0+(n1+0)):RdsC P t (n0+(n1+0)) (SCat [S0,S1]) :=
 RdsC.struct ht (show Flds P 0 [f0,f1] [S0,S1] (n0+(n1+0)) from .cons o0 h0 (.cons o1 h1 (.nil _))) hc
theorem RdsC.struct3 {f0 f1 f2:Field} {n0 n1 n2:Nat} {S0 S1 S2:List PV→Prop} (ht:P.underlying t=some (.struct #[f0,f1,f2])) (h0:RdsC P f0.type n0 S0) (h1:RdsC P f1.type n1 S1) (h2:RdsC P f2.type n2 S2) (o0:f0.offset=0) (o1:f1.offset=0+n0) (o2:f2.offset=0+n0+n1) (hc:P.cellsOf t=n0+(n1+(n2+0))):RdsC P t (n0+(n1+(n2+0))) (SCat [S0,S1,S2]) :=
 RdsC.struct ht (show Flds P 0 [f0,f1,f2] [S0,S1,S2] (n0+(n1+(n2+0))) from .cons o0 h0 (.cons o1 h1 (.cons o2 h2 (.nil _)))) hc
theorem RdsC.struct4 {f0 f1 f2 f3:Field} {n0 n1 n2 n3:Nat} {S0 S1 S2 S3:List PV→Prop} (ht:P.underlying t=some (.struct #[f0,f1,f2,f3])) (h0:RdsC P f0.type n0 S0) (h1:RdsC P f1.type n1 S1) (h2:RdsC P f2.type n2 S2) (h3:RdsC P f3.type n3 S3) (o0:f0.offset=0) (o1:f1.offset=0+n0) (o2:f2.offset=0+n0+n1) (o3:f3.offset=0+n0+n1+n2) (hc:P.cellsOf t=n0+(n1+(n2+(n3+0)))):RdsC P t (n0+(n1+(n2+(n3+0)))) (SCat [S0,S1,S2,S3]) :=
 RdsC.struct ht (show Flds P 0 [f0,f1,f2,f3] [S0,S1,S2,S3] (n0+(n1+(n2+(n3+0)))) from .cons o0 h0 (.cons o1 h1 (.cons o2 h2 (.cons o3 h3 (.nil _))))) hc
theorem RdsC.struct8 {f0 f1 f2 f3 f4 f5 f6 f7:Field} {n0 n1 n2 n3 n4 n5 n6 n7:Nat} {S0 S1 S2 S3 S4 S5 S6 S7:List PV→Prop} (ht:P.underlying t=some (.struct #[f0,f1,f2,f3,f4,f5,f6,f7])) (h0:RdsC P f0.type n0 S0) (h1:RdsC P f1.type n1 S1) (h2:RdsC P f2.type n2 S2) (h3:RdsC P f3.type n3 S3) (h4:RdsC P f4.type n4 S4) (h5:RdsC P f5.type n5 S5) (h6:RdsC P f6.type n6 S6) (h7:RdsC P f7.type n7 S7) (o0:f0.offset=0) (o1:f1.offset=0+n0) (o2:f2.offset=0+n0+n1) (o3:f3.offset=0+n0+n1+n2) (o4:f4.offset=0+n0+n1+n2+n3) (o5:f5.offset=0+n0+n1+n2+n3+n4) (o6:f6.offset=0+n0+n1+n2+n3+n4+n5) (o7:f7.offset=0+n0+n1+n2+n3+n4+n5+n6) (hc:P.cellsOf t=n0+(n1+(n2+(n3+(n4+(n5+(n6+(n7+0)))))))):RdsC P t (n0+(n1+(n2+(n3+(n4+(n5+(n6+(n7+0)))))))) (SCat [S0,S1,S2,S3,S4,S5,S6,S7]) :=
 RdsC.struct ht (show Flds P 0 [f0,f1,f2,f3,f4,f5,f6,f7] [S0,S1,S2,S3,S4,S5,S6,S7] (n0+(n1+(n2+(n3+(n4+(n5+(n6+(n7+0)))))))) from .cons o0 h0 (.cons o1 h1 (.cons o2 h2 (.cons o3 h3 (.cons o4 h4 (.cons o5 h5 (.cons o6 h6 (.cons o7 h7 (.nil _))))))))) hc
theorem arg_agg {H:Type} {enc:TypeId × Value→H} {w:World} {arr:Array Value} {d:DataW H} {p:List MemPlace} (hr:RdsC P t n S) (h:DataW.Trod enc P w 0 (fun _=>true) true t (.agg arr) d p) :
  ∃ ps,S ps∧PRep (fun b=>b<w.heap.size) w (.agg ps) (.agg arr):=by
 obtain ⟨fuel,hf⟩:=h
 obtain ⟨ps,h1,h2,h3,h4,h5⟩:=hr.2 hf
 have hc:(Value.agg arr).cells=arr:=rfl
 rw [hc] at h3 h4 h5
 refine ⟨ps,h1,.agg ps arr (by simpa using h3) (fun j v hv=>h4 v (List.mem_of_getElem? (i:=j) (by simpa using hv))) (fun j x v hx hv=>h5 j x v hx (by simpa using hv))⟩
theorem arg_struct {H:Type} {enc:TypeId × Value→H} {w:World} {v:Value} {d:DataW H} {p:List MemPlace} {m:Reach} {base:Nat} {fs:Array Field} (ht:P.underlying t=some (.struct fs)) (hr:RdsC P t n S) (hv:Value.okWide P w m base t v) (h:DataW.Trod enc P w 0 (fun _=>true) true t v d p) :
  ∃ ps,S ps∧PRep (fun b=>b<w.heap.size) w (.agg ps) v:=by
 simp only [Value.okWide,ht] at hv
 obtain ⟨cs,rfl,_,_⟩:=hv
 exact arg_agg hr h
theorem arg_arr {H:Type} {enc:TypeId × Value→H} {w:World} {v:Value} {d:DataW H} {p:List MemPlace} {m:Reach} {base:Nat} {c:Nat} (ht:P.underlying t=some (.array c e)) (hr:RdsC P t n S) (hv:Value.okWide P w m base t v) (h:DataW.Trod enc P w 0 (fun _=>true) true t v d p) :
  ∃ ps,S ps∧PRep (fun b=>b<w.heap.size) w (.agg ps) v:=by
 simp only [Value.okWide,ht] at hv
 obtain ⟨cs,rfl,_,_⟩:=hv
 exact arg_agg hr h
end
end Go.Proofs.YtioijcfcehhmdaaGreatDoor

namespace Go.Proofs.YtioijcfcehhmdaaGreatDoor
def demandX:List PV→Option (Option (Nat × Int))
 |[.bool true,.int .i64 _]=>some none
 |[.bool false,.int .i64 n]=>some (some (148,n))
 |_=>none
end Go.Proofs.YtioijcfcehhmdaaGreatDoor
