/-
  Part 4 of the texts that the statement stands on.
-/
import Derived.Test.YtpcncggjmabnaaaGreatDoorZ3
import Derived.IntWalk
import Derived.Sort.Defs
import Derived.Lib.BitFns
import Derived.Shelf.Lays7
import Derived.Ground.Names7Prog
import Derived.Test.YtpcncggjmabnaaaGreatDoorProg
import Derived.Shelf.Spec.TrailingZeros
set_option linter.all false
namespace Go.Proofs.YtpcncggjmabnaaaGreatDoor
open Go.RowKit
section
variable {P:Program} {L K:Nat} {σ σ':Nat→Nat} {T T' T1 T2:Tags} {st st' st1:St} {a a1:Act} {w w1:World} {r:Root}
 {rec:VCode→St→Option (Ex × St)} {env:Env}
theorem results_ok {gs:List ResultVar} {vs:List VRes} {xs:List Res} (h:Sim L σ T st a w) (hm:mResL P gs vs=true) (hp:resultsOf st vs=some xs) :
  ∃ (us:List Value) (T':Tags),(gs.mapM (readOf a.tmps)).run P w=.ok us w∧us.length=xs.length∧Still T T'∧(∀ b,w.heap.size≤b→T' b=.other)∧∀ (j:Nat) x u,xs[j]?=some x→us[j]?=some u→RKo T' w st.slots.length j x u:=by
 have gen:resultList st vs=some xs→∃ (us:List Value) (T':Tags),(gs.mapM (readOf a.tmps)).run P w=.ok us w∧us.length=xs.length∧Still T T'∧(∀ b,w.heap.size≤b→T' b=.other)∧∀ (j:Nat) x u,xs[j]?=some x→us[j]?=some u→RKo T' w st.slots.length j x u:=fun hl=>by
  obtain ⟨us,T',k1,k2,k3,k4,k5,_⟩:=result_list 0 h hm hl (Nat.le_refl _)
  exact ⟨us,T',k1,k2,k3,k4,fun j x u hx hu=>.inl (by simpa using k5 j x u hx hu)⟩
 unfold resultsOf at hp
 split at hp
 case h_3=>exact gen hp
 case h_2 =>
  rename_i t n
  split at hp
  case h_2=>cases hp
  rename_i p j hs
  split at hp
  case h_2=>cases hp
  rename_i bx h1
  split at hp
  ·cases hp
  ·rename_i hf
   simp only [Bool.or_eq_true,Bool.not_eq_true',decide_eq_false_iff_not,not_or,Bool.not_eq_true,Classical.not_not] at hf
   obtain ⟨cs,h2,rfl⟩:=map_some' hp
   obtain ⟨T0,hgs,hc⟩:∃ T0,gs=[.cell t T0]∧cellN P T0=some (some n):=by
    match gs,hm with
    |[.tmp s],hm=>simp [mResL,mRes] at hm
    |[.cell s T0],hm=>simp [mResL,mRes] at hm;exact ⟨T0,by rw [hm.1],hm.2⟩
    |[],hm=>simp [mResL] at hm
    |_ :: _ :: _,hm=>simp [mResL] at hm
   subst hgs
   obtain ⟨u,T',r1,r2,r3,r4⟩:=result_own (P:=P) (K:=st.slots.length) h hc hs h1 hf.1 hf.2 h2
   refine ⟨[u],T',?_,rfl,r2,r3,fun j x u' hx hu=>?_⟩
   ·simp only [List.mapM_cons,List.mapM_nil,Sem.run_bind,r1,Result.andThen_ok,Sem.run_pure]
   ·cases j with
    |zero =>
     simp only [List.getElem?_cons_zero,Option.some.injEq] at hx hu
     subst hx;subst hu;exact r4
    |succ j=>simp at hx
 rename_i t
 split at hp
 case h_2=>exact gen hp
 rename_i f caps hs
 obtain ⟨⟨p,fl⟩,h1,h2⟩:=map_some' hp
 subst h2
 have hmo:mOpd (.tmp t) (.t t)=true:=by simp [mOpd]
 have hg:st.get (.t t)=.fn f caps:=hs
 have hsn:st.snapFn (st.get (.t t))=some (p,fl):=by rw [hg];exact h1
 obtain ⟨k1,_,k3⟩:=h.snapF hmo hsn
 obtain ⟨T1,q1,q2,q3,q4⟩:=Froz.args [.t t] (Froz.refl T st) h (fun x hx=>by simp only [List.mem_singleton] at hx;subst hx;exact k1)
 have hgs:gs=[.tmp t]:=by
  match gs,hm with
  |[.tmp s],hm=>simp [mResL,mRes] at hm;rw [hm]
  |[.cell s T0],hm=>simp [mResL,mRes] at hm
  |[],hm=>simp [mResL] at hm
  |_ :: _ :: _,hm=>simp [mResL] at hm
 subst hgs
 refine ⟨[a.eval (.tmp t)],T1,by simp [readOf,Act.eval],rfl,q3,q2.fresh,fun j x u hx hu=>?_⟩
 cases j with
 |zero =>
  simp only [List.getElem?_cons_zero,Option.some.injEq] at hx hu
  subst hx;subst hu
  exact .inl (RK.pv (k3 T1 q3 (q4 _ (by simp))))
 |succ j=>simp at hx
theorem prep_avoid {ok good:Nat→Prop} (hg:∀ b,Cellish w b→good b) {x:PV} {v:Value} (h:PRep ok w x v):PRep (fun b=>ok b∧good b) w x v:=by
 induction h with
 |int k n=>exact .int k n
 |bool b=>exact .bool b
 |str s=>exact .str s
 |nilf=>exact .nilf
 |void v h=>exact .void v h
 |nil sz a=>exact .nil sz a
 |nils sz a=>exact .nils sz a
 |list sz es b off c cv h1 h2 h3 h4 h6 h7 h8 ih=>exact .list sz es b off c cv ⟨h1,hg b h2⟩ h2 h3 h4 h6 h7 ih
 |agg cs arr h1 h2 h3 ih=>exact .agg cs arr h1 h2 ih
 |func f caps arr h1 h2 ih=>exact .func f caps arr h1 ih
 |iptr cs j b off cv h1 h2 h3 h4 ih=>exact .iptr cs j b off cv ⟨h1,hg b h2⟩ h2 h3 ih
def drop (T:Tags) (ms:List Nat):Tags:=fun b=>if b∈ms then .other else T b
theorem Sim.drop (h:Sim L σ T st a w) {ms:List Nat} (hms:∀ r∈ms,¬ Cellish w r) (hw:∀ b,b ∉ ms→w1.heap[b]?=w.heap[b]?) (hsz:w1.heap.size=w.heap.size):Sim L σ (drop T ms) st a w1:=by
 have hg:∀ b,Cellish w b→b ∉ ms:=fun b hc hb=>hms b hb hc
 have hp:∀ {x v},PRep (fun b=>T b=.ro) w x v→PRep (fun b=>Go.Proofs.YtpcncggjmabnaaaGreatDoor.drop T ms b=.ro) w1 x v:=fun h =>
  (prep_avoid hg h).frame fun b hb _=>⟨by simp [Go.Proofs.YtpcncggjmabnaaaGreatDoor.drop,hb.1,hb.2],hw b hb.2⟩
 have hrow:∀ {r sz es v},RowRep T w r sz es v→RowRep (Go.Proofs.YtpcncggjmabnaaaGreatDoor.drop T ms) w1 r sz es v:=fun {r sz es v} h=>by
  rcases h with h|⟨b,c,arr,E,h1,h2,h3,h4,h5,h6,h7,h8⟩
  ·exact .inl h
  ·have hb:b ∉ ms:=hg b ⟨_,_,_,h3⟩
   refine .inr ⟨b,c,arr,E,h1,by simp [Go.Proofs.YtpcncggjmabnaaaGreatDoor.drop,hb,h2],(hw b hb).trans h3,h4,h5,h6,h7,fun i e j x hi hj=>?_⟩
   obtain ⟨u,k1,k2,k3⟩:=h8 i e j x hi hj
   exact ⟨u,k1,k2,hp k3⟩
 have hbox:∀ o,o<st.boxes.length→σ o ∉ ms:=fun o ho=>hg _ (h.boxes o _ (List.getElem?_eq_getElem ho)).cellish
 have hhdr:∀ r:Root,r.low st.boxes.length→hdr σ a w1 r=hdr σ a w r:=fun r hr=>by
  cases r with
  |slot t=>rfl
  |part t i=>rfl
  |cell o j=>exact World.cell?_of_block (w:=w) (a:=⟨σ o,j,none⟩) (hw _ (hbox o hr))
 refine ⟨h.size,fun t av v ht hv=>?_,fun o bx ho=>?_,fun b hb=>?_⟩
 ·have hA:=h.slots t av v ht hv
  cases av with
  |pv x=>exact hp hA
  |row sz es=>exact hrow hA
  |ref r off len=>exact ⟨hA.1,fun sz es hr=>by rw [hhdr r hA.1];exact hA.2 sz es hr⟩
  |pbox o j=>exact hA
  |pel r i j=>exact ⟨hA.1,fun sz es hr=>by rw [hhdr r hA.1];exact hA.2 sz es hr⟩
  |fn f caps =>
   obtain ⟨arr,e1,e2,e3⟩:=hA
   refine ⟨arr,e1,e2,fun k x u hx hu=>?_⟩
   have:=e3 k x u hx hu
   cases x with
   |pv p=>exact hp this
   |_=>exact this
  |tup k l =>
   obtain ⟨arr,e1,e2,e3⟩:=hA
   refine ⟨arr,e1,e2,fun k x u hx hu=>?_⟩
   have:=e3 k x u hx hu
   cases x with
   |pv p=>exact hp this
   |row sz es=>exact hrow this
   |_=>exact this
  |ful s l=>exact ⟨hp hA.1,hA.2⟩
  |yld=>exact hA
  |any=>trivial
 ·have hb:=hbox o (List.getElem?_eq_some_iff.1 ho).1
  obtain ⟨arr,E,g1,g2,g3,g4,g5⟩:=h.boxes o bx ho
  refine ⟨arr,E,(hw _ hb).trans g1,g2,by simp only [Go.Proofs.YtpcncggjmabnaaaGreatDoor.drop,if_neg hb];exact g3,g4,fun j bv u hj hu=>?_⟩
  obtain ⟨k1,k2⟩:=g5 j bv u hj hu
  refine ⟨k1,?_⟩
  cases bv with
  |pv x=>exact hp k2
  |row sz es=>exact hrow k2
 ·unfold Go.Proofs.YtpcncggjmabnaaaGreatDoor.drop
  split
  ·rfl
  ·exact h.fresh b (by omega)
def outT (T:Tags) (K:Nat):Tags:=fun b=>match T b with
 |.ro=>.ro
 |.row (.part k i)=>if k=K then .row (.part 0 i) else .other
 |_=>.other
theorem PartRep.frameTo {k:Nat} {x:AV} {v:Value} (h:PartRep T w K k x v):PartRep (outT T K) w 0 k x v:=by
 cases x with
 |pv p=>exact PRep.frame (fun b e _=>⟨by simp [outT,e],rfl⟩) h
 |row sz es=>exact RowRep.frame (fun b e _=>⟨by simp [outT,e],rfl⟩) (fun b e _=>⟨by simp [outT,e],rfl⟩) h
 |any=>trivial
 |_=>exact h
theorem RK.out0 {i:Nat} {x:Res} {u:Value} (h:RK T w K i x u):R1 (outT T K) w i x u:=by
 have hp:∀ {x v},PRep (fun b=>T b=.ro) w x v→PRep (fun b=>outT T K b=.ro) w x v:=fun h=>h.frame fun b hb _=>⟨by simp [outT,hb],rfl⟩
 have hrow:∀ {sz es},RowRep T w (.part K i) sz es u→RowRep (outT T K) w (.part 0 i) sz es u:=fun h=>RowRep.frame (fun b e _=>⟨by simp [outT,e],rfl⟩) (fun b e _=>⟨by simp [outT,e],rfl⟩) h
 obtain ⟨v,own⟩:=x
 cases v<;>cases own<;>first|exact hrow h|exact hp h|exact False.elim h
theorem RK.out {i:Nat} {x:Res} {u:Value} (h:RKo T w K i x u):R1 (outT T K) w i x u:=by
 rcases h with h|⟨_,cs,rfl,arr,rfl,h1,h2⟩
 ·exact RK.out0 h
 ·exact ⟨arr,rfl,h1,fun k x v hx hv=>PartRep.frameTo (h2 k x v hx hv)⟩
def fnOk (P:Program) (f:Nat) (fn:VFn):Bool :=
 match P.funcs[f]? with
 |some g=>(match g.body with
  |some c=>mC P c fn.body
  |none=>false)&&g.name != "runtime.NumGoroutine"&&g.ntmps==fn.ntmps&&decide (fn.nargs≤fn.ntmps)&&mResL P g.results.toList fn.results
 |none=>false
theorem fnOk_eq {f:Nat} {fn:VFn} (h:fnOk P f fn=true):callable P f=true∧∃ g c,P.funcs[f]?=some g∧g.body=some c∧mC P c fn.body=true∧g.ntmps=fn.ntmps∧fn.nargs≤fn.ntmps∧mResL P g.results.toList fn.results=true:=by
 unfold fnOk at h
 split at h
 case h_2=>cases h
 rename_i g hf
 simp only [Bool.and_eq_true,beq_iff_eq,bne_iff_ne,decide_eq_true_eq] at h
 obtain ⟨⟨⟨⟨h1,h2⟩,h3⟩,h4⟩,h5⟩:=h
 split at h1
 case h_2=>cases h1
 rename_i c hb
 exact ⟨by simp [callable,hf,h2,hb],g,c,hf,hb,h1,h3,h4,h5⟩
def plainJ (T0:Tags) (w:World):Nat→Tags→World→Prop:=fun _ T w'=>Below w.heap.size w w'∧∀ b,b<w.heap.size→T b=T0 b
theorem plainJ_keep {T0:Tags} (h0:∀ b,T0 b=.ro∨T0 b=.other) {k:Nat} {w w1 w2:World} (hc:Chg T T' w1 w2) (h:plainJ T0 w k T w1):plainJ T0 w k T' w2:=by
 obtain ⟨h1,h2⟩:=h
 refine ⟨h1.trans ⟨hc.os,hc.tape,hc.output,hc.size,fun b hb=>hc.same b (Nat.lt_of_lt_of_le hb h1.size) ?_⟩,fun b hb=>?_⟩
 ·rw [h2 b hb];exact h0 b
 ·rcases h0 b with e|e
  ·rw [e];exact hc.ro b (by rw [h2 b hb,e])
  ·rw [e];exact hc.other b (Nat.lt_of_lt_of_le hb h1.size) (by rw [h2 b hb,e])
theorem init_sim {T0:Tags} {args:List PV} {vs:List Value} {n:Nat} (hf:∀ b,w.heap.size≤b→T0 b=.other) (hl:vs.length=args.length) (hr:∀ (i:Nat) x v,args[i]?=some x→vs[i]?=some v→PRep (fun b=>T0 b=.ro) w x v) (ys:List (List PV)) (stop:Option (Option Nat)) :
  Sim L σ T0 ⟨args.map .pv++List.replicate (n - args.length) .any,[],ys,stop⟩ { tmps:=vs.toArray++Array.replicate (n - vs.toArray.size) undef,defers:=[] } w:=by
 refine ⟨by simp [hl],fun t av v ht hv=>?_,fun o bx ho=>by simp at ho,hf⟩
 simp only at ht hv
 rcases Nat.lt_or_ge t args.length with h|h
 ·rw [List.getElem?_append_left (by simpa using h),List.getElem?_map,List.getElem?_eq_getElem h] at ht
  rw [Array.getElem?_append_left (by simpa [hl] using h)] at hv
  cases ht
  exact hr t _ v (List.getElem?_eq_getElem h) (by simpa using hv)
 ·rw [List.getElem?_append_right (by simpa using h),List.getElem?_replicate] at ht
  split at ht
  ·cases ht;trivial
  ·cases ht
theorem code_call (hR:RecOk P rec) {f:Nat} {fn:VFn} {args:List PV} {rs:List Res} (hfn:fnOk P f fn=true) (hl:args.length=fn.nargs) {e:Ex} (he:∀ i,e≠.exit i) (he2:∀ t n,e≠.thr t n)
  (hb:rec fn.body ⟨args.map .pv++List.replicate (fn.ntmps - args.length) .any,[],[],none⟩=some (e,st)) (hrs:resultsOf st fn.results=some rs):CallOk P f args rs:=by
 intro T0 w vs h0 hf hlen hr hG
 obtain ⟨_,g,c,k1,k2,k3,k4,k5,k6⟩:=fnOk_eq hfn
 refine (callsIn_wide (n:=0)).1 (callsIn_of_wp_marks k1 k2 trivial ?_)
 rw [k4]
 have hsim:Sim 0 (fun _=>0) T0 ⟨args.map .pv++List.replicate (fn.ntmps - args.length) .any,[],[],none⟩ { tmps:=vs.toArray++Array.replicate (fn.ntmps - vs.toArray.size) undef,defers:=[] } w:=init_sim hf hlen hr [] none
 have hC:Ctx.Ok ⟨st.ys,none,plainJ T0 w⟩ P 0:=⟨fun k T T' w1 w2 hc h=>plainJ_keep (k:=k) h0 hc h,fun k T w1 h=>hG.frame fun b e hb=>⟨(h.2 b hb).trans e,h.1.block b hb⟩,fun s k T w ps vs hs=>by cases hs⟩
 have hJ:plainJ T0 w 0 T0 w:=⟨Below.refl _ _,fun _ _=>rfl⟩
 refine wpIn_mono (hR.wp (F:=Fence.wide) (L:=0) (C:=⟨st.ys,none,plainJ T0 w⟩) (n:=0) (.inl rfl) (Ctx.rec_wide _) hC c fn.body _ e st k3 hb rfl (List.prefix_refl _) _ T0 _ w hsim hJ) ?_
 rintro x a' w' ⟨rfl,σ',T',ms,q1,q2,q3,q4,q5,q6⟩
 obtain ⟨p1,p2⟩:=q2
 have key:LeavesInM Fence.wide 0 P g a'.tmps (fun e w'=>∃ v T',e=.returned v∧Below w.heap.size w w'∧(∀ b,b<w.heap.size→T' b=T0 b)∧(∀ b,w'.heap.size≤b→T' b=.other)∧ResRep T' w' rs v) a'.defers .returning w':=by
  rw [q5,List.append_nil]
  refine leavesM_marks (B:=w.heap.size) q6.2 (fun r hr=>⟨(q6.1 r hr).1,(q6.1 r hr).2.2⟩) fun w2 e1 e2 e3 e4 e5=>?_
  have q1':=q1.drop (fun r hr ⟨arr,E,q,e⟩=>by rw [(q6.1 r hr).2.2] at e;cases e) e5 e4
  obtain ⟨us,T2,r1,r2,r3,r4,r5⟩:=results_ok q1' k6 hrs
  have hms:∀ b,b<w.heap.size→b ∉ ms:=fun b hb hm=>by have:=(q6.1 b hm).1;omega
  have hT2:∀ b,b<w.heap.size→T2 b=T0 b:=fun b hb=>by
   have e:drop T' ms b=T0 b:=by simp only [drop,if_neg (hms b hb)];exact p2 b hb
   rcases h0 b with e0|e0
   ·rw [e0];exact r3.ro b (by rw [e,e0])
   ·rw [e0];exact r3.other b (by rw [e,e0])
  refine ⟨_,results_run r1,_,outT T2 st.slots.length,rfl,p1.trans ⟨e1,e2,e3,by omega,fun b hb=>e5 b (hms b hb)⟩,fun b hb=>?_,fun b hb=>?_,us.toArray,by simpa using r2,rfl,fun i x u hx hu=>RK.out (r5 i x u hx (by simpa using hu))⟩
  ·simp only [outT,hT2 b hb]
   rcases h0 b with e0|e0<;>rw [e0]
  ·simp only [outT,r4 b hb]
 cases e with
 |normal=>exact key
 |ret=>exact key
 |exit i=>exact absurd rfl (he i)
 |thr t n=>exact absurd rfl (he2 t n)
theorem init_simL {T0:Tags} {x:LArg} {v:Value} {args:List PV} {vs:List Value} {n:Nat} (hf:∀ b,w.heap.size≤b→T0 b=.other) (hx:LRep T0 w v x) (hl:vs.length=args.length) (hr:∀ (i:Nat) x v,args[i]?=some x→vs[i]?=some v→PRep (fun b=>T0 b=.ro) w x v) :
  ∃ σ:Nat→Nat,Sim 0 σ T0 ⟨x.av :: (args.map .pv++List.replicate (n - (args.length+1)) .any),x.boxes,[],none⟩ { tmps:=(v :: vs).toArray++Array.replicate (n - (v :: vs).toArray.size) undef,defers:=[] } w∧∀ b,v=.pointer (some ⟨b,0,none⟩)→(∃ cs,x=.box cs)→σ 0=b:=by
 obtain ⟨b0,hb0⟩:∃ b0,∀ cs,x=.box cs→v=.pointer (some ⟨b0,0,none⟩)∧BoxRep T0 w b0 0 ⟨false,cs.map .pv⟩:=by
  cases x with
  |box cs=>obtain ⟨b,h1,h2⟩:=hx;exact ⟨b,fun cs' e=>by cases e;exact ⟨h1,h2⟩⟩
  |row sz es=>exact ⟨0,fun _ e=>by cases e⟩
  |own l=>exact ⟨0,fun _ e=>by cases e⟩
 refine ⟨fun _=>b0,⟨by simp [hl];omega,fun t av u ht hu=>?_,fun o bx ho=>?_,hf⟩,fun b hb ⟨cs,hcs⟩=>?_⟩
 ·cases t with
  |zero =>
   simp only [List.getElem?_cons_zero,Option.some.injEq] at ht
   have hu':u=v:=by
    have:((v :: vs).toArray++Array.replicate (n - (v :: vs).toArray.size) undef)[0]?=some v:=by rw [Array.getElem?_append_left (by simp)];rfl
    rw [this] at hu;exact (Option.some.inj hu).symm
   subst hu'
   subst ht
   cases x with
   |row sz es=>exact hx
   |own l=>obtain ⟨arr,h1,h2,h3⟩:=hx;exact ⟨arr,h1,h2,h3⟩
   |box cs=>exact ⟨by simp [LArg.boxes],(hb0 cs rfl).1⟩
  |succ t =>
   rw [List.getElem?_cons_succ] at ht
   rcases Nat.lt_or_ge t args.length with h|h
   ·rw [List.getElem?_append_left (by simpa using h),List.getElem?_map,List.getElem?_eq_getElem h] at ht
    simp only at hu
    rw [Array.getElem?_append_left (by simp [hl];omega)] at hu
    cases ht
    exact hr t _ u (List.getElem?_eq_getElem h) (by simpa using hu)
   ·rw [List.getElem?_append_right (by simpa using h),List.getElem?_replicate] at ht
    split at ht
    ·cases ht;trivial
    ·cases ht
 ·cases x with
  |box cs =>
   cases o with
   |zero =>
    simp only [LArg.boxes,List.getElem?_cons_zero,Option.some.injEq] at ho
    subst ho
    exact (hb0 cs rfl).2
   |succ o=>simp [LArg.boxes] at ho
  |row sz es=>simp [LArg.boxes] at ho
  |own l=>simp [LArg.boxes] at ho
 ·have:=(hb0 cs hcs).1
  rw [this] at hb
  injection hb with hb
  injection hb with hb
  injection hb with hb
def linJ (T0:Tags) (w:World):Nat→Tags→World→Prop:=fun _ T w'=>w.heap.size≤w'.heap.size∧w'.os=w.os∧w'.tape=w.tape∧w'.output=w.output∧∀ b,b<w.heap.size→(T0 b=.ro∨T0 b=.other)→w'.heap[b]?=w.heap[b]?∧T b=T0 b
theorem linJ_keep {T0:Tags} {k:Nat} {w w1 w2:World} (hc:Chg T T' w1 w2) (h:linJ T0 w k T w1):linJ T0 w k T' w2:=by
 obtain ⟨h1,h2,h3,h4,h5⟩:=h
 refine ⟨Nat.le_trans h1 hc.size,hc.os.trans h2,hc.tape.trans h3,hc.output.trans h4,fun b hb e=>?_⟩
 obtain ⟨k1,k2⟩:=h5 b hb e
 have hl:=Nat.lt_of_lt_of_le hb h1
 refine ⟨(hc.same b hl (by rw [k2];exact e)).trans k1,?_⟩
 rcases e with e|e
 ·rw [e];exact hc.ro b (by rw [k2,e])
 ·rw [e];exact hc.other b hl (by rw [k2,e])
theorem code_callL (hR:RecOk P rec) {f:Nat} {fn:VFn} {x:LArg} {args:List PV} {rs:List Res} {out:Option (List PV)} (hfn:fnOk P f fn=true) {e:Ex} (he:∀ i,e≠.exit i) (he2:∀ t n,e≠.thr t n)
  (hb:rec fn.body ⟨x.av :: (args.map .pv++List.replicate (fn.ntmps - (args.length+1)) .any),x.boxes,[],none⟩=some (e,st)) (hrs:linRes x st fn.results=some (rs,out)):CallOkL P f x args rs out:=by
 intro T0 w v vs hf hx hlen hr hG
 obtain ⟨_,g,c,k1,k2,k3,k4,k5,k6⟩:=fnOk_eq hfn
 refine (callsIn_wide (n:=0)).1 (callsIn_of_wp_marks k1 k2 trivial ?_)
 rw [k4]
 obtain ⟨σ0,hsim,hσ0⟩:=init_simL (n:=fn.ntmps) hf hx hlen hr
 have hC:Ctx.Ok ⟨st.ys,none,linJ T0 w⟩ P 0:=⟨fun k T T' w1 w2 hc h=>linJ_keep (k:=k) hc h,fun k T w1 h=>hG.frame fun b e hb=>⟨by rw [(h.2.2.2.2 b hb (.inl e)).2,e],(h.2.2.2.2 b hb (.inl e)).1⟩,fun s k T w ps vs hs=>by cases hs⟩
 have hJ:linJ T0 w 0 T0 w:=⟨Nat.le_refl _,rfl,rfl,rfl,fun _ _ _=>⟨rfl,rfl⟩⟩
 refine wpIn_mono (hR.wp (F:=Fence.wide) (L:=0) (C:=⟨st.ys,none,linJ T0 w⟩) (n:=0) (.inl rfl) (Ctx.rec_wide _) hC c fn.body _ e st k3 hb rfl (List.prefix_refl _) _ T0 _ w hsim hJ) ?_
 rintro x' a' w' ⟨rfl,σ',T',ms,q1,q2,q3,q4,q5,q6⟩
 obtain ⟨p1,p2,p3,p4,p5⟩:=q2
 have key:LeavesInM Fence.wide 0 P g a'.tmps (fun e w'=>∃ u T',e=.returned u∧w.heap.size≤w'.heap.size∧w'.os=w.os∧w'.tape=w.tape∧w'.output=w.output∧(∀ b,b<w.heap.size→(T0 b=.ro∨T0 b=.other)→w'.heap[b]?=w.heap[b]?∧T' b=T0 b)∧(∀ b,w'.heap.size≤b→T' b=.other)∧ResRep T' w' rs u∧LOut T' w' v out) a'.defers .returning w':=by
  rw [q5,List.append_nil]
  refine leavesM_marks (B:=w.heap.size) q6.2 (fun r hr=>⟨(q6.1 r hr).1,(q6.1 r hr).2.2⟩) fun w2 e1 e2 e3 e4 e5=>?_
  have q1':=q1.drop (fun r hr ⟨arr,E,q,e⟩=>by rw [(q6.1 r hr).2.2] at e;cases e) e5 e4
  have hms:∀ b,b<w.heap.size→b ∉ ms:=fun b hb hm=>by have:=(q6.1 b hm).1;omega
  -- what the results leave of the tags
  have fin:∀ (T1 T2:Tags) (K:Nat),Still (Go.Proofs.YtpcncggjmabnaaaGreatDoor.drop T' ms) T1→Still T1 T2→∀ b,b<w.heap.size→(T0 b=.ro∨T0 b=.other)→w2.heap[b]?=w.heap[b]?∧outT T2 K b=T0 b:=fun T1 T2 K s1 s2 b hb e=>by
   obtain ⟨y1,y2⟩:=p5 b hb e
   refine ⟨(e5 b (hms b hb)).trans y1,?_⟩
   have ed:Go.Proofs.YtpcncggjmabnaaaGreatDoor.drop T' ms b=T0 b:=by simp only [Go.Proofs.YtpcncggjmabnaaaGreatDoor.drop,if_neg (hms b hb)];exact y2
   rcases e with e|e
   ·simp only [outT,s2.ro b (s1.ro b (by rw [ed,e])),e]
   ·simp only [outT,s2.other b (s1.other b (by rw [ed,e])),e]
  have plain:(∀ cs,x≠.box cs)→resultsOf st fn.results=some rs→out=none→∃ u T',(results g a'.tmps).run P w2=.ok u w2∧(∀ b,b<w.heap.size→(T0 b=.ro∨T0 b=.other)→w2.heap[b]?=w.heap[b]?∧T' b=T0 b)∧(∀ b,w2.heap.size≤b→T' b=.other)∧ResRep T' w2 rs u∧LOut T' w2 v out:=fun _ h1 h2=>by
   obtain ⟨us,T2,r1,r2,r3,r4,r5⟩:=results_ok q1' k6 h1
   refine ⟨_,outT T2 st.slots.length,results_run r1,fin _ T2 _ (Still.refl _) r3,fun b hb=>by simp only [outT,r4 b hb],⟨us.toArray,by simpa using r2,rfl,fun i x u hx hu=>RK.out (r5 i x u hx (by simpa using hu))⟩,by rw [h2];trivial⟩
  have pack:∀ (u:Value) (T2:Tags),(∀ b,b<w.heap.size→(T0 b=.ro∨T0 b=.other)→w2.heap[b]?=w.heap[b]?∧T2 b=T0 b)→(∀ b,w2.heap.size≤b→T2 b=.other)→ResRep T2 w2 rs u→LOut T2 w2 v out→∃ u' T',Ending.returned u=.returned u'∧w.heap.size≤w2.heap.size∧w2.os=w.os∧w2.tape=w.tape∧w2.output=w.output∧(∀ b,b<w.heap.size→(T0 b=.ro∨T0 b=.other)→w2.heap[b]?=w.heap[b]?∧T' b=T0 b)∧(∀ b,w2.heap.size≤b→T' b=.other)∧ResRep T' w2 rs u'∧LOut T' w2 v out:=fun u T2 s1 s2 s3 s4 =>
   ⟨u,T2,rfl,by omega,e1.trans p2,e2.trans p3,e3.trans p4,s1,s2,s3,s4⟩
  unfold linRes at hrs
  cases x with
  |row sz es =>
   obtain ⟨l,h1,h2⟩:=map_some' hrs
   cases h2
   obtain ⟨u,T2,s0,s1,s2,s3,s4⟩:=plain (fun _ e=>by cases e) h1 rfl
   exact ⟨u,s0,pack u T2 s1 s2 s3 s4⟩
  |own lo =>
   obtain ⟨l,h1,h2⟩:=map_some' hrs
   cases h2
   obtain ⟨u,T2,s0,s1,s2,s3,s4⟩:=plain (fun _ e=>by cases e) h1 rfl
   exact ⟨u,s0,pack u T2 s1 s2 s3 s4⟩
  |box cs =>
   simp only at hrs
   split at hrs
   case h_2=>cases hrs
   rename_i bx hbx
   split at hrs
   ·cases hrs
   rename_i hfz
   have hfz:bx.fz=false:=by simpa using hfz
   obtain ⟨l,h1,h2⟩:=map_some' hrs
   cases h2
   obtain ⟨T1,t1,t2,_,_,_⟩:=q1'.freezeRowsB 0
   obtain ⟨us,T2,r1,r2,r3,r4,r5,_,r7⟩:=result_list 0 t1 k6 h1 (Nat.le_refl _)
   have hσ:σ' 0=σ0 0:=q3 0 (by simp [LArg.boxes])
   obtain ⟨arr,E,g1,g2,g3,g4,g5⟩:=t1.boxes 0 bx hbx
   have hT1:T1 (σ' 0)=.box 0:=by rw [g3];simp [hfz]
   have hrow:∀ (j s:Nat) (l:List PV),bx.cs[j]?≠some (BV.row s l):=fun j s l e=>by
    unfold St.freezeRows at hbx
    cases h0:st.boxes[0]? with
    |none=>rw [h0] at hbx;simp only at hbx;rw [h0] at hbx;cases hbx
    |some b0 =>
     rw [h0] at hbx
     have hl0:0<st.boxes.length:=(List.getElem?_eq_some_iff.1 h0).1
     simp only [List.getElem?_set_self hl0,Option.some.injEq] at hbx
     rw [← hbx] at e
     obtain ⟨x,_,hx⟩:=frozen_get e
     cases hx
   refine ⟨_,results_run r1,pack _ (outT T2 (st.freezeRows 0).slots.length) (fin T1 T2 _ t2 r3) (fun b hb=>by simp only [outT,r4 b hb]) ⟨us.toArray,by simpa using r2,rfl,fun i x u hx hu=>RK.out (.inl (by simpa using r5 i x u hx (by simpa using hu)))⟩ fun b hv=>?_⟩
   have hb0:σ' 0=b:=hσ.trans (hσ0 b hv ⟨cs,rfl⟩)
   rw [hb0] at g1 hT1
   refine ⟨by simp only [outT,r7 b 0 hT1],arr,E,g1,by simpa using g2,fun j x u hx hu=>?_⟩
   rw [List.getElem?_map] at hx
   cases hc:bx.cs[j]? with
   |none=>rw [hc] at hx;cases hx
   |some bv =>
    rw [hc] at hx
    have hx:=Option.some.inj hx
    subst hx
    obtain ⟨y1,y2⟩:=g5 j bv u hc hu
    refine ⟨y1,?_⟩
    cases bv with
    |pv p=>exact PRep.frame (fun b hb _=>⟨by simp only [outT,r3.ro b hb],rfl⟩) y2
    |row s l=>exact absurd hc (hrow j s l)
 cases e with
 |normal=>exact key
 |ret=>exact key
 |exit i=>exact absurd rfl (he i)
 |thr t n=>exact absurd rfl (he2 t n)
end
end Go.Proofs.YtpcncggjmabnaaaGreatDoor

namespace Go.Proofs.YtpcncggjmabnaaaGreatDoor
open Go.RowKit
def zval:PV→Value
 |.int k n=>.int k n
 |.bool b=>.bool b
 |_=>.slice none 0 0
def zeroAll:List Nat→List (List PV)→World→World
 |b :: bs,z :: zs,w=>zeroAll bs zs (w.setRow b (z.map zval).toArray)
 |_,_,w=>w
def RescOk (P:Program) (r t:Nat):Prop:=callable P r=true ∧
 (∀ (b:Nat) (m n:Int) (E:TypeId) (w:World),w.heap[b]?=some (.cells #[.int .i64 m] E (0,0))→CallsDIn Fence.wide 0 P r #[.pointer (some ⟨b,0,none⟩)] (.panicking [{ v:=.iface t (.int .i64 n),recovered:=false }]) w fun e u' w'=>e=.returned (.tuple #[])∧settle u'=.returning∧w'=w.setRow b #[.int .i64 n]) ∧
 (∀ (b:Nat) (w:World),CallsDIn Fence.wide 0 P r #[.pointer (some ⟨b,0,none⟩)] .returning w fun e u' w'=>e=.returned (.tuple #[])∧settle u'=.returning∧w'=w)
def ptrs (bs:List Nat):Array Value:=(bs.map fun b=>Value.pointer (some ⟨b,0,none⟩)).toArray
def ClosOk (P:Program) (g:Nat) (zs:List (List PV)):Prop:=callable P g=true ∧
 (∀ (be:Nat) (bs:List Nat) (E:TypeId) (w:World),bs.length=zs.length→w.heap[be]?=some (.cells #[.int .i64 0] E (0,0))→CallsDIn Fence.wide 0 P g (ptrs (be :: bs)) .returning w fun e u' w'=>e=.returned (.tuple #[])∧settle u'=.returning∧w'=w) ∧
 (∀ (be:Nat) (bs:List Nat) (m:Int) (E:TypeId) (w:World),m≠0→bs.length=zs.length→w.heap[be]?=some (.cells #[.int .i64 m] E (0,0)) →
  (∀ (i:Nat) b z,bs[i]?=some b→zs[i]?=some z→∃ arr E,w.heap[b]?=some (.cells arr E (0,0))∧arr.size=z.length)→(be :: bs).Nodup →
  CallsDIn Fence.wide 0 P g (ptrs (be :: bs)) .returning w fun e u' w'=>e=.returned (.tuple #[])∧settle u'=.returning∧w'=zeroAll bs zs w)
def deferOf:Op→Option (Operand × List Operand)
 |.defer c=>match c.callee with
  |.value y=>some (y,c.args.toList)
  |_=>none
 |_=>none
def isResc (fn:DFn):List Oper→Bool
 |[o]=>o.guard.isNone&&o.dst.isNone&&(match deferOf o.op with
  |some (.func f,[.tmp s])=>f==fn.resc&&s==fn.e
  |_=>false)
 |_=>false
def isClos (P:Program) (fn:DFn):List Oper→Bool
 |[o,o2]=>match fn.clos with
  |some (d,g,zs)=>o.guard.isNone&&m1 P o (.mkf d g (.t fn.e :: zs.map fun z=>.t z.1))&&o2.guard.isNone&&o2.dst.isNone&&(match deferOf o2.op with
   |some (.tmp s,[])=>s==d
   |_=>false)
  |none=>false
 |_=>false
def mD (P:Program) (fn:DFn):Code→Bool
 |.seq r0 (.seq (.region _ o1 false) c)=>mC P r0 fn.pre&&(match fn.clos with
  |none=>isResc fn o1.toList&&mC P c fn.body
  |some _=>(match c with
   |.seq (.region _ o2 false) rest=>isClos P fn o1.toList&&isResc fn o2.toList&&mC P rest fn.body
   |_=>false))
 |_=>false
def dfnOk (P:Program) (f:Nat) (fn:DFn):Bool :=
 match P.funcs[f]? with
 |some g=>(match g.body with
  |some c=>mD P fn c
  |none=>false)&&g.name != "runtime.NumGoroutine"&&g.ntmps==fn.ntmps&&decide (fn.nargs≤fn.ntmps)&&mResL P g.results.toList fn.results
 |none=>false
section
variable {P:Program} {L K nb n:Nat} {F:Fence} {σ σ':Nat→Nat} {T T' T1 T2:Tags} {st st' st1:St} {a a1:Act} {w w1:World} {r:Root} {o:Oper} {opl:Array Oper} {Q:Exit→Act→World→Prop}
 {rec:VCode→St→Option (Ex × St)} {env:Env}
theorem dfnOk_eq {f:Nat} {fn:DFn} (h:dfnOk P f fn=true):callable P f=true∧∃ g c,P.funcs[f]?=some g∧g.body=some c∧mD P fn c=true∧g.ntmps=fn.ntmps∧fn.nargs≤fn.ntmps∧mResL P g.results.toList fn.results=true:=by
 unfold dfnOk at h
 split at h
 case h_2=>cases h
 rename_i g hf
 simp only [Bool.and_eq_true,beq_iff_eq,bne_iff_ne,decide_eq_true_eq] at h
 obtain ⟨⟨⟨⟨h1,h2⟩,h3⟩,h4⟩,h5⟩:=h
 split at h1
 case h_2=>cases h1
 rename_i c hb
 exact ⟨by simp [callable,hf,h2,hb],g,c,hf,hb,h1,h3,h4,h5⟩
theorem Sim.withDefers (h:Sim L σ T st a w) (ds:List Deferred):Sim L σ T st { a with defers:=ds } w:=⟨h.size,h.slots,h.boxes,h.fresh⟩
theorem leavesM_marks2 {fn:Func} {tmps:Array Value} {R:Ending→World→Prop} {B:Nat} {ds:List Deferred} {u:FrameMode} (hu:u≠.run):∀ {ms:List Nat} {w:World},ms.Nodup→(∀ r∈ms,B≤r∧w.heap[r]?=some (.deferred (some []))) →
  (∀ w',w'.os=w.os→w'.tape=w.tape→w'.output=w.output→w'.heap.size=w.heap.size→(∀ b,b ∉ ms→w'.heap[b]?=w.heap[b]?)→LeavesInM Fence.wide 0 P fn tmps R ds u w') →
  LeavesInM Fence.wide 0 P fn tmps R (ms.map markOf++ds) u w
 |[],w,_,_,h=>h w rfl rfl rfl rfl fun _ _=>rfl
 |r :: ms,w,hnd,hms,h=>by
  simp only [List.map_cons,List.cons_append,LeavesInM]
  obtain ⟨hn1,hn2⟩:=List.nodup_cons.1 hnd
  obtain ⟨k1,k2⟩:=hms r (by simp)
  have hput:∀ b,b≠r→(w.putObj r (.deferred none)).heap[b]?=w.heap[b]?:=fun b hb=>by simp [World.putObj,Array.getElem?_setIfInBounds,Ne.symm hb]
  refine ⟨hu,.inl ⟨r,_,rfl,run_takeDeferred k2,leavesM_marks2 hu (B:=B) hn2 (fun r' hr'=>?_) fun w' e1 e2 e3 e4 e5=>h w' e1 e2 e3 (by rw [e4];simp [World.putObj]) fun b hb=>?_⟩⟩
  ·obtain ⟨q1,q2⟩:=hms r' (by simp [hr'])
   exact ⟨q1,by rw [hput r' (fun e=>hn1 (e ▸ hr'))];exact q2⟩
  ·simp only [List.mem_cons,not_or] at hb
   rw [e5 b hb.2,hput b hb.1]
theorem leavesM_call {fn:Func} {tmps:Array Value} {R:Ending→World→Prop} {ds:List Deferred} {u:FrameMode} {g:Nat} {arr args:Array Value} (hu:u≠.run) (hc:callable P g=true)
  {w':World} (h:CallsDIn Fence.wide 0 P g (args++arr) u w fun e u' w2=>e=.returned (.tuple #[])∧settle u'=.returning∧w2=w') (hn:LeavesInM Fence.wide 0 P fn tmps R ds .returning w') :
  LeavesInM Fence.wide 0 P fn tmps R ({ target:=.fn (.func g) arr,args:=args } :: ds) u w:=by
 simp only [LeavesInM]
 refine ⟨hu,.inr ⟨(fun e=>by cases e),_,_,g,_,rfl,run_callFunc hc _ _,(fun _ _=>trivial),h.mono ?_⟩⟩
 rintro e u' w2 ⟨rfl,h2,rfl⟩
 simp only [h2]
 exact hn
theorem naught_rep {ok:Nat→Prop} {x:PV} (h:x.naught=true):PRep ok w x (zval x)∧(zval x).oneCell'=true:=by
 cases x with
 |int k n=>exact ⟨.int _ _,rfl⟩
 |bool b=>exact ⟨.bool _,rfl⟩
 |list sz l=>cases l with
  |nil=>exact ⟨.nil _ _,rfl⟩
  |cons _ _=>cases h
 |nils sz=>exact ⟨.nils _ _,rfl⟩
 |_=>cases h
theorem Sim.setVar (h:Sim L σ T st a w) {p:Nat} {vals:List PV} (hp:st.setVar p vals=some st'):(∃ arr E,w.heap[σ p]?=some (.cells arr E (0,0))∧arr.size=vals.length)∧Sim L σ T st' a (w.setRow (σ p) (vals.map zval).toArray) ∧
  Chg T T w (w.setRow (σ p) (vals.map zval).toArray)∧T (σ p)=.box p:=by
 unfold St.setVar at hp
 split at hp
 case h_2=>cases hp
 rename_i bx hb
 split at hp
 ·cases hp
 rename_i hc
 simp only [Bool.or_eq_true,Bool.not_eq_true',decide_eq_false_iff_not,not_or,Bool.not_eq_true,Classical.not_not,Bool.not_eq_false] at hc
 obtain ⟨⟨c1,c2⟩,c3⟩:=hc
 cases Option.some.inj hp
 obtain ⟨arr,E,g1,g2,g3,g4,g5⟩:=h.boxes p bx hb
 have:=h.setBox (T':=T) (cs':=vals.map .pv) (arr':=(vals.map zval).toArray) id hb c1 g1 (by simp [c2]) (by simp [g2,c2]) (fun k bv u hk hu=>by
  rw [List.getElem?_map] at hk
  cases hx:vals[k]? with
  |none=>rw [hx] at hk;cases hk
  |some x =>
   rw [hx] at hk
   cases hk
   rw [List.getElem?_toArray,List.getElem?_map,hx] at hu
   cases hu
   obtain ⟨q1,q2⟩:=naught_rep (w:=w.setRow (σ p) (vals.map zval).toArray) (ok:=fun b=>T b=.ro) (List.all_eq_true.1 c3 x (List.mem_of_getElem? hx))
   exact ⟨q2,q1⟩) (fun x=>.inr ⟨rfl,fun k _ s l hk=>by
  rw [List.getElem?_map] at hk
  cases hx:vals[k]? with
  |none=>rw [hx] at hk;cases hk
  |some x=>rw [hx] at hk;cases hk⟩) (fun _ e=>e) (fun _ _ e=>e) (fun _ e=>e) (fun _ _ _ _ _ e=>e) (fun _ _ _ _ _ e=>e) (fun _ _ _ _ e=>e)
 rw [List.map_id] at this
 exact ⟨⟨arr,E,g1,by omega⟩,this.1,this.2,by rw [g3,c1];rfl⟩
theorem setVar_boxes {p:Nat} {vals:List PV} (hp:st.setVar p vals=some st'):(∃ bx:Box,st.boxes[p]?=some bx∧bx.fz=false∧bx.cs.length=vals.length)∧∀ (q:Nat) (bx':Box),st'.boxes[q]?=some bx'→∃ bx:Box,st.boxes[q]?=some bx∧bx.fz=bx'.fz∧bx.cs.length=bx'.cs.length:=by
 unfold St.setVar at hp
 split at hp
 case h_2=>cases hp
 rename_i bx hb
 split at hp
 ·cases hp
 rename_i hc
 simp only [Bool.or_eq_true,Bool.not_eq_true',decide_eq_false_iff_not,not_or,Bool.not_eq_true,Classical.not_not,Bool.not_eq_false] at hc
 obtain ⟨⟨c1,c2⟩,c3⟩:=hc
 cases Option.some.inj hp
 refine ⟨⟨bx,hb,c1,c2⟩,fun q bx' hq=>?_⟩
 simp only [List.getElem?_set] at hq
 split at hq
 ·rename_i e
  subst e
  split at hq
  ·cases hq;exact ⟨bx,hb,rfl,by simp [c2]⟩
  ·cases hq
 ·exact ⟨bx',hq,rfl,rfl⟩
theorem setVars_boxes:∀ {os:List Nat} {zs:List (List PV)} {st:St},St.setVars os zs st=some st'→os.length=zs.length∧∀ (i:Nat) p z,os[i]?=some p→zs[i]?=some z→∃ bx:Box,st.boxes[p]?=some bx∧bx.fz=false∧bx.cs.length=z.length
 |[],[],st,_=>⟨rfl,fun i p z h=>by simp at h⟩
 |[],_ :: _,st,h=>by simp [St.setVars] at h
 |_ :: _,[],st,h=>by simp [St.setVars] at h
 |o :: os,z :: zs,st,h=>by
  simp only [St.setVars] at h
  obtain ⟨s1,h1,h2⟩:=bind_some h
  obtain ⟨g1,g2⟩:=setVar_boxes h1
  obtain ⟨k1,k2⟩:=setVars_boxes h2
  refine ⟨by simp [k1],fun i p z' hp hz=>?_⟩
  cases i with
  |zero=>simp only [List.getElem?_cons_zero,Option.some.injEq] at hp hz;subst hp;subst hz;exact g1
  |succ i =>
   obtain ⟨bx',q1,q2,q3⟩:=k2 i p z' (by simpa using hp) (by simpa using hz)
   obtain ⟨bx,r1,r2,r3⟩:=g2 p bx' q1
   exact ⟨bx,r1,r2.trans q2,r3.trans q3⟩
theorem Sim.setVars:∀ {os:List Nat} {zs:List (List PV)} {st:St} {w:World},Sim L σ T st a w→St.setVars os zs st=some st'→Sim L σ T st' a (zeroAll (os.map σ) zs w)∧Chg T T w (zeroAll (os.map σ) zs w)
 |[],[],st,w,h,hp=>by
  simp only [St.setVars,Option.some.injEq] at hp
  subst hp
  exact ⟨h,Chg.refl T w⟩
 |[],_ :: _,st,w,_,h=>by simp [St.setVars] at h
 |_ :: _,[],st,w,_,h=>by simp [St.setVars] at h
 |o :: os,z :: zs,st,w,hs,h=>by
  simp only [St.setVars] at h
  obtain ⟨s1,h1,h2⟩:=bind_some h
  obtain ⟨_,g1,g2,_⟩:=hs.setVar h1
  obtain ⟨k1,k2⟩:=Sim.setVars g1 h2
  exact ⟨k1,g2.trans k2⟩
theorem Sim.varInt (h:Sim L σ T st a w) {p:Nat} {m:Int} (hp:st.varInt p=some m):(∃ E,w.heap[σ p]?=some (.cells #[.int .i64 m] E (0,0)))∧T (σ p)=.box p:=by
 unfold St.varInt at hp
 split at hp
 case h_2=>cases hp
 rename_i m' hb
 cases Option.some.inj hp
 obtain ⟨arr,E,g1,g2,g3,g4,g5⟩:=h.boxes p _ hb
 refine ⟨⟨E,?_⟩,g3⟩
 match arr,g2 with
 |⟨[u]⟩,_ =>
  have:=(g5 0 _ u rfl rfl).2
  rw [PRep.int_inv this] at g1
  exact g1
theorem code_thr (hR:RecOk P rec) {f:Nat} {fn:VFn} {args:List PV} {t:Nat} {m:Int} (hfn:fnOk P f fn=true) (hl:args.length=fn.nargs)
  (hb:rec fn.body ⟨args.map .pv++List.replicate (fn.ntmps - args.length) .any,[],[],none⟩=some (.thr t m,st)):ThrOk P f args t m:=by
 intro T0 w vs h0 hf hlen hr hG
 obtain ⟨_,g,c,k1,k2,k3,k4,k5,k6⟩:=fnOk_eq hfn
 refine (callsIn_wide (n:=0)).1 (callsIn_of_wp_marks k1 k2 trivial ?_)
 rw [k4]
 have hsim:Sim 0 (fun _=>0) T0 ⟨args.map .pv++List.replicate (fn.ntmps - args.length) .any,[],[],none⟩ { tmps:=vs.toArray++Array.replicate (fn.ntmps - vs.toArray.size) undef,defers:=[] } w:=init_sim hf hlen hr [] none
 have hC:Ctx.Ok ⟨st.ys,none,plainJ T0 w⟩ P 0:=⟨fun k T T' w1 w2 hc h=>plainJ_keep (k:=k) h0 hc h,fun k T w1 h=>hG.frame fun b e hb=>⟨(h.2 b hb).trans e,h.1.block b hb⟩,fun s k T w ps vs hs=>by cases hs⟩
 have hJ:plainJ T0 w 0 T0 w:=⟨Below.refl _ _,fun _ _=>rfl⟩
 refine wpIn_mono (hR.wp (F:=Fence.wide) (L:=0) (C:=⟨st.ys,none,plainJ T0 w⟩) (n:=0) (.inl rfl) (Ctx.rec_wide _) hC c fn.body _ _ st k3 hb rfl (List.prefix_refl _) _ T0 _ w hsim hJ) ?_
 rintro x a' w' ⟨rfl,σ',T',ms,q1,q2,q3,q4,q5,q6⟩
 obtain ⟨p1,p2⟩:=q2
 simp only [toX,bodyPostM]
 rw [q5]
 refine leavesM_marks2 (B:=w.heap.size) (by simp) q6.2 (fun r hr=>⟨(q6.1 r hr).1,(q6.1 r hr).2.2⟩) fun w2 e1 e2 e3 e4 e5=>?_
 have hms:∀ b,b<w.heap.size→b ∉ ms:=fun b hb hm=>by have:=(q6.1 b hm).1;omega
 exact ⟨rfl,p1.trans ⟨e1,e2,e3,by omega,fun b hb=>e5 b (hms b hb)⟩⟩
theorem mapM_box {caps:List AV} {os:List Nat} (h:caps.mapM boxOf=some os):caps=os.map (.pbox · 0):=by
 obtain ⟨l1,l2⟩:=mapM_some h
 refine List.ext_getElem? fun i=>?_
 rw [List.getElem?_map]
 cases hc:caps[i]? with
 |none =>
  have:=List.getElem?_eq_none_iff.1 hc
  rw [List.getElem?_eq_none (by omega)]
  rfl
 |some c =>
  obtain ⟨q,g1,g2⟩:=l2 i c hc
  rw [g2]
  unfold boxOf at g1
  split at g1
  ·cases g1;rfl
  ·cases g1
set_option maxHeartbeats 1000000 in
theorem code_dfn (hR:RecOk P rec) {f:Nat} {fn:DFn} {args:List PV} {rs:List Res} (hfn:dfnOk P f fn=true) (hresc:RescOk P fn.resc fn.t) (hclos:∀ d g zs,fn.clos=some (d,g,zs)→ClosOk P g (zs.map (·.2))) (hl:args.length=fn.nargs) {s0 s1 s4:St} {e:Ex}
  (hp:rec fn.pre ⟨args.map .pv++List.replicate (fn.ntmps - args.length) .any,[],[],none⟩=some (.normal,s0)) (hm:fn.begun s0=some s1) (hb:rec fn.body s1=some (e,s4)) (he:dfnEnd fn s1 e s4=some rs):CallOk P f args rs:=by
 intro T0 w vs h0 hf hlen hr hG
 obtain ⟨_,g,c,k1,k2,k3,k4,k5,k6⟩:=dfnOk_eq hfn
 refine (callsIn_wide (n:=0)).1 (callsIn_of_wp_marks k1 k2 trivial ?_)
 rw [k4]
 have hsim:Sim 0 (fun _=>0) T0 ⟨args.map .pv++List.replicate (fn.ntmps - args.length) .any,[],[],none⟩ { tmps:=vs.toArray++Array.replicate (fn.ntmps - vs.toArray.size) undef,defers:=[] } w:=init_sim hf hlen hr [] none
 have hC:Ctx.Ok ⟨s4.ys,none,plainJ T0 w⟩ P 0:=⟨fun k T T' w1 w2 hc h=>plainJ_keep (k:=k) h0 hc h,fun k T w1 h=>hG.frame fun b e hb=>⟨(h.2 b hb).trans e,h.1.block b hb⟩,fun s k T w ps vs hs=>by cases hs⟩
 have hJ:plainJ T0 w 0 T0 w:=⟨Below.refl _ _,fun _ _=>rfl⟩
 -- the deferred calls
 unfold dfnEnd at he
 obtain ⟨oe,ho,he⟩:=bind_some he
 obtain ⟨s5,h5,he⟩:=bind_some he
 obtain ⟨s6,h6,hrs⟩:=bind_some he
 -- the body,its surroundings laid
 have body:∀ (rest:Code) (σ2:Nat→Nat) (T2:Tags) (a2:Act) (w2:World) (ms1:List Nat) (dl:List Deferred),mC P rest fn.body=true→Sim 0 σ2 T2 s1 a2 w2→plainJ T0 w 0 T2 w2→Stays T0 T2 w w2→s1.stop=none→s1.ys <+: s4.ys→Marks T2 w w2 ms1 →
   a2.defers={ target:=.fn (.func fn.resc) #[],args:=#[.pointer (some ⟨σ2 oe,0,none⟩)] } :: (dl++ms1.map markOf) →
   ((fn.clos=none∧dl=[])∨∃ d gf zs os,fn.clos=some (d,gf,zs)∧heldOf s1 d gf=some os∧(∀ o∈os,o<s1.boxes.length)∧dl=[{ target:=.fn (.func gf) (ptrs (os.map σ2)),args:=#[] }])→oe<s1.boxes.length →
   rest.wpIn Fence.wide 0 P (bodyPostM Fence.wide 0 P g (fun e w'=>∃ v T',e=.returned v∧Below w.heap.size w w'∧(∀ b,b<w.heap.size→T' b=T0 b)∧(∀ b,w'.heap.size≤b→T' b=.other)∧ResRep T' w' rs v)) a2 w2:=by
  intro rest σ2 T2 a2 w2 ms1 dl hmc hs2 hJ2 hst2 hstop hys hms1 hdef hdl hoe
  refine wpIn_mono (hR.wp (F:=Fence.wide) (L:=0) (C:=⟨s4.ys,none,plainJ T0 w⟩) (n:=0) (.inl rfl) (Ctx.rec_wide _) hC rest fn.body _ e s4 hmc hb hstop (List.prefix_refl _) σ2 T2 a2 w2 hs2 hJ2) ?_
  rintro x a4 w4 ⟨rfl,σ4,T4,ms4,q1,q2,q3,q4,q5,q6⟩
  obtain ⟨p1,p2⟩:=q2
  have hms4:∀ b,b<w2.heap.size→b ∉ ms4:=fun b hb hm=>by have:=(q6.1 b hm).1;omega
  have hsz2:w.heap.size≤w2.heap.size:=hst2.size
  have hm1:∀ r∈ms1,r<w2.heap.size:=fun r hr=>(Array.getElem?_eq_some_iff.1 (hms1.1 r hr).2.2).1
  -- behind all that is deferred
  have last:∀ (T6:Tags) (w6:World),Sim 0 σ4 T6 s6 a4 w6→Below w.heap.size w w6→(∀ b,b<w.heap.size→T6 b=T0 b)→(∀ r∈ms1,w6.heap[r]?=some (.deferred (some []))) →
    LeavesInM Fence.wide 0 P g a4.tmps (fun e w'=>∃ v T',e=.returned v∧Below w.heap.size w w'∧(∀ b,b<w.heap.size→T' b=T0 b)∧(∀ b,w'.heap.size≤b→T' b=.other)∧ResRep T' w' rs v) (ms1.map markOf) .returning w6:=by
   intro T6 w6 g1 g2 g3 g4
   refine leavesM_marks (B:=w.heap.size) hms1.2 (fun r hr=>⟨(hms1.1 r hr).1,g4 r hr⟩) fun w7 e1 e2 e3 e4 e5=>?_
   have q1':=g1.drop (fun r hr ⟨arr,E,q,e⟩=>by rw [g4 r hr] at e;cases e) e5 e4
   obtain ⟨us,T8,r1,r2,r3,r4,r5⟩:=results_ok q1' k6 hrs
   have hms:∀ b,b<w.heap.size→b ∉ ms1:=fun b hb hm=>by have:=(hms1.1 b hm).1;omega
   have hT2:∀ b,b<w.heap.size→T8 b=T0 b:=fun b hb=>by
    have e:drop T6 ms1 b=T0 b:=by simp only [drop,if_neg (hms b hb)];exact g3 b hb
    rcases h0 b with e0|e0
    ·rw [e0];exact r3.ro b (by rw [e,e0])
    ·rw [e0];exact r3.other b (by rw [e,e0])
   refine ⟨_,results_run r1,_,outT T8 s6.slots.length,rfl,g2.trans ⟨e1,e2,e3,by omega,fun b hb=>e5 b (hms b hb)⟩,fun b hb=>?_,fun b hb=>?_,us.toArray,by simpa using r2,rfl,fun i x u hx hu=>RK.out (r5 i x u hx (by simpa using hu))⟩
   ·simp only [outT,hT2 b hb]
    rcases h0 b with e0|e0<;>rw [e0]
   ·simp only [outT,r4 b hb]
  -- a block of the call's own is none of what was there
  have own:∀ {T6:Tags} {p b:Nat},(∀ b,b<w.heap.size→T6 b=T0 b)→T6 b=.box p→w.heap.size≤b:=fun {T6 p b} g3 e=>by
   rcases Nat.lt_or_ge b w.heap.size with h|h
   ·have:=g3 b h
    rw [e] at this
    rcases h0 b with e0|e0<;>rw [e0] at this<;>cases this
   ·exact h
  have step:∀ {T6:Tags} {w6 w7:World},Chg T6 T6 w6 w7→Below w.heap.size w w6→(∀ b,b<w.heap.size→T6 b=T0 b)→(∀ r∈ms1,T6 r=.ro∧w6.heap[r]?=some (.deferred (some [])))→Below w.heap.size w w7∧∀ r∈ms1,T6 r=.ro∧w7.heap[r]?=some (.deferred (some [])):=fun {T6 w6 w7} hc hB hT hm=>by
   have hsz:w.heap.size≤w6.heap.size:=hB.size
   refine ⟨hB.trans ⟨hc.os,hc.tape,hc.output,hc.size,fun b hb=>hc.same b (Nat.lt_of_lt_of_le hb hsz) ?_⟩,fun r hr=>?_⟩
   ·rw [hT b hb];exact h0 b
   ·obtain ⟨m1,m2⟩:=hm r hr
    exact ⟨m1,(hc.same r (Array.getElem?_eq_some_iff.1 m2).1 (.inl m1)).trans m2⟩
  -- the closure
  have clos:∀ (T5:Tags) (w5:World),Sim 0 σ4 T5 s5 a4 w5→Below w.heap.size w w5→(∀ b,b<w.heap.size→T5 b=T0 b)→(∀ r∈ms1,T5 r=.ro∧w5.heap[r]?=some (.deferred (some []))) →
    LeavesInM Fence.wide 0 P g a4.tmps (fun e w'=>∃ v T',e=.returned v∧Below w.heap.size w w'∧(∀ b,b<w.heap.size→T' b=T0 b)∧(∀ b,w'.heap.size≤b→T' b=.other)∧ResRep T' w' rs v) (dl++ms1.map markOf) .returning w5:=by
   intro T5 w5 g1 g2 g3 g4
   unfold dfnClos at h6
   rcases hdl with ⟨hn,rfl⟩|⟨d,gf,zs,os,hc,hos,hlt,rfl⟩
   ·rw [hn] at h6
    cases Option.some.inj h6
    exact last T5 w5 g1 g2 g3 fun r hr=>(g4 r hr).2
   ·rw [hc] at h6
    simp only [hos,Option.bind_some] at h6
    split at h6
    case isFalse=>cases h6
    rename_i hcond
    obtain ⟨c1,c2,c3⟩:=hcond
    obtain ⟨m,hm',h6⟩:=bind_some h6
    obtain ⟨os',rfl⟩:∃ os',os=oe :: os':=by
     cases os with
     |nil=>cases c1
     |cons x l=>cases c1;exact ⟨l,rfl⟩
    obtain ⟨d1,d2,d3⟩:=hclos d gf zs hc
    obtain ⟨⟨E,v1⟩,v2⟩:=g1.varInt hm'
    have hσ:∀ o∈oe :: os',σ4 o=σ2 o:=fun o ho=>q3 o (hlt o ho)
    have hmap:(oe :: os').map σ2=(oe :: os').map σ4:=List.map_congr_left fun o ho=>(hσ o ho).symm
    have hlen':(os'.map σ4).length=(zs.map (·.2)).length:=by simp at c3 ⊢;exact c3
    rw [hmap]
    show LeavesInM Fence.wide 0 P g a4.tmps _ ({ target:=.fn (.func gf) (ptrs (σ4 oe :: os'.map σ4)),args:=#[] } :: ms1.map markOf) .returning w5
    split at h6
    ·rename_i hm0
     subst hm0
     cases Option.some.inj h6
     refine leavesM_call (by simp) d1 (w':=w5) ?_ (last T5 w5 g1 g2 g3 fun r hr=>(g4 r hr).2)
     rw [Array.empty_append]
     exact d2 _ _ E w5 hlen' v1
    ·rename_i hm0
     simp only [List.tail_cons] at h6
     obtain ⟨_,b2⟩:=setVars_boxes h6
     obtain ⟨x1,x2⟩:=g1.setVars h6
     have hbox:∀ o∈oe :: os',T5 (σ4 o)=.box o:=fun o ho=>by
      rcases List.mem_cons.1 ho with rfl|ho
      ·exact v2
      ·obtain ⟨i,hi⟩:=List.mem_iff_getElem?.1 ho
       have hi2:i<(zs.map (·.2)).length:=by rw [← hlen',List.length_map];exact (List.getElem?_eq_some_iff.1 hi).1
       obtain ⟨bx,y1,y2,y3⟩:=b2 i o _ hi (List.getElem?_eq_getElem hi2)
       obtain ⟨_,_,_,_,y4,_⟩:=g1.boxes o bx y1
       rw [y4,y2];rfl
     refine leavesM_call (by simp) d1 (w':=zeroAll (os'.map σ4) (zs.map (·.2)) w5) ?_ ?_
     ·rw [Array.empty_append]
      refine d3 _ _ m E w5 hm0 hlen' v1 (fun i b z hi hz=>?_) ?_
      ·rw [List.getElem?_map] at hi
       cases ho:os'[i]? with
       |none=>rw [ho] at hi;cases hi
       |some o =>
        rw [ho] at hi
        cases hi
        obtain ⟨bx,y1,y2,y3⟩:=b2 i o z ho hz
        obtain ⟨arr,E',z1,z2,_⟩:=g1.boxes o bx y1
        exact ⟨arr,E',z1,by omega⟩
      ·show ((oe :: os').map σ4).Nodup
       refine List.pairwise_map.2 (List.Pairwise.imp_of_mem (fun {x y} hx hy hxy hs=>hxy ?_) c2)
       have:=hbox x hx
       rw [hs,hbox y hy] at this
       cases this
       rfl
     ·obtain ⟨y1,y2⟩:=step x2 g2 g3 g4
      exact last T5 _ x1 y1 g3 fun r hr=>(y2 r hr).2
  -- the marks of the body,then what puts the failure into the variable
  have resc:∀ (u:FrameMode),u≠.run→(∀ (w5:World),Sim 0 σ4 (drop T4 ms4) s4 a4 w5→Below w.heap.size w w5→(∀ r∈ms1,drop T4 ms4 r=.ro∧w5.heap[r]?=some (.deferred (some [])))→(∀ b,b<w.heap.size→drop T4 ms4 b=T0 b) →
    LeavesInM Fence.wide 0 P g a4.tmps (fun e w'=>∃ v T',e=.returned v∧Below w.heap.size w w'∧(∀ b,b<w.heap.size→T' b=T0 b)∧(∀ b,w'.heap.size≤b→T' b=.other)∧ResRep T' w' rs v) ({ target:=.fn (.func fn.resc) #[],args:=#[.pointer (some ⟨σ4 oe,0,none⟩)] } :: (dl++ms1.map markOf)) u w5) →
    LeavesInM Fence.wide 0 P g a4.tmps (fun e w'=>∃ v T',e=.returned v∧Below w.heap.size w w'∧(∀ b,b<w.heap.size→T' b=T0 b)∧(∀ b,w'.heap.size≤b→T' b=.other)∧ResRep T' w' rs v) a4.defers u w4:=by
   intro u hu hk
   rw [q5,hdef,← q3 oe hoe]
   refine leavesM_marks2 (B:=w2.heap.size) hu q6.2 (fun r hr=>⟨(q6.1 r hr).1,(q6.1 r hr).2.2⟩) fun w5 e1 e2 e3 e4 e5=>?_
   have g1:=q1.drop (fun r hr ⟨arr,E,q,e⟩=>by rw [(q6.1 r hr).2.2] at e;cases e) e5 e4
   refine hk w5 g1 (p1.trans ⟨e1,e2,e3,by omega,fun b hb=>e5 b (hms4 b (by omega))⟩) (fun r hr=>?_) fun b hb=>?_
   ·have hn:=hms4 r (hm1 r hr)
    obtain ⟨_,m2,m3⟩:=hms1.1 r hr
    refine ⟨by simp only [drop,if_neg hn];exact q4.ro r m2,?_⟩
    rw [e5 r hn,q4.same r (hm1 r hr) m2];exact m3
   ·simp only [drop,if_neg (hms4 b (by omega))];exact p2 b hb
  cases e with
  |exit i=>cases h5
  |normal =>
   cases Option.some.inj h5
   refine resc .returning (by simp) fun w5 g1 g2 g4 g3=>?_
   exact leavesM_call (by simp) hresc.1 (w':=w5) (hresc.2.2 _ w5) (clos _ w5 g1 g2 g3 g4)
  |ret =>
   cases Option.some.inj h5
   refine resc .returning (by simp) fun w5 g1 g2 g4 g3=>?_
   exact leavesM_call (by simp) hresc.1 (w':=w5) (hresc.2.2 _ w5) (clos _ w5 g1 g2 g3 g4)
  |thr t m =>
   simp only [dfnResc] at h5
   split at h5
   case isFalse=>cases h5
   rename_i ht
   subst ht
   obtain ⟨m0,hv,h5⟩:=bind_some h5
   refine resc (.panicking [{ v:=.iface fn.t (.int .i64 m),recovered:=false }]) (by simp) fun w5 g1 g2 g4 g3=>?_
   obtain ⟨⟨E,v1⟩,v2⟩:=g1.varInt hv
   obtain ⟨_,x1,x2,_⟩:=g1.setVar h5
   obtain ⟨y1,y2⟩:=step x2 g2 g3 g4
   exact leavesM_call (by simp) hresc.1 (hresc.2.1 _ m0 m E w5 v1) (clos _ _ x1 y1 g3 y2)
 -- the defer statements
 have heval:∀ (b:Act) (f:Nat),b.eval (.func f)=.func (.func f) #[] #[]:=fun _ _=>rfl
 have hptr:∀ {σ:Nat→Nat} {T:Tags} {st:St} {b:Act} {w:World} {s p:Nat},Sim 0 σ T st b w→varOf st s=some p→p<st.boxes.length∧b.eval (.tmp s)=.pointer (some ⟨σ p,0,none⟩):=by
  intro σ T st b w s p hs hv
  unfold varOf at hv
  split at hv
  case h_2=>cases hv
  rename_i o' ho'
  cases Option.some.inj hv
  have hlt:s<b.tmps.size:=by rw [hs.size];exact (List.getElem?_eq_some_iff.1 ho').1
  have:=hs.slots s _ _ ho' (Array.getElem?_eq_getElem hlt)
  refine ⟨this.1,?_⟩
  have e:b.eval (.tmp s)=b.tmps[s]:=by simp [Act.eval,hlt]
  rw [e]
  exact this.2
 -- the statement that defers what turns a failure into an error
 have rescStep:∀ {ops:List Oper} {opl:Array Oper} {Q:Exit→Act→World→Prop} {σ2:Nat→Nat} {T2:Tags} {a2:Act} {w2:World},isResc fn ops=true→Sim 0 σ2 T2 s1 a2 w2 →
   Q .normal { a2 with defers:={ target:=.fn (.func fn.resc) #[],args:=#[.pointer (some ⟨σ2 oe,0,none⟩)] } :: a2.defers } w2→wpListIn Fence.wide 0 P opl Q ops a2 w2:=by
  intro ops opl Q σ2 T2 a2 w2 hr hs hq
  unfold isResc at hr
  split at hr
  case h_2=>cases hr
  rename_i o
  simp only [Bool.and_eq_true] at hr
  obtain ⟨⟨hg,hd⟩,hr⟩:=hr
  split at hr
  case h_2=>cases hr
  rename_i f' s hop
  simp only [Bool.and_eq_true,beq_iff_eq] at hr
  obtain ⟨rfl,rfl⟩:=hr
  obtain ⟨c',ats,hop⟩:∃ c':Call,∃ _:Unit,o.op=.defer c'∧c'.callee=.value (.func fn.resc)∧c'.args=#[.tmp fn.e]:=by
   unfold deferOf at hop
   split at hop
   case h_2=>cases hop
   rename_i c' hc'
   split at hop
   case h_2=>cases hop
   rename_i y hy
   simp only [Option.some.injEq,Prod.mk.injEq] at hop
   obtain ⟨rfl,h2⟩:=hop
   exact ⟨c',(),hc',hy,by rw [← h2]⟩
  obtain ⟨o1,o2,o3⟩:=hop
  have hw:Region.wanted o (yielded opl a2.tmps)=true:=by simp only [Region.wanted,Option.isNone_iff_eq_none.1 hg]
  simp only [wpListIn,hw,↓reduceIte]
  refine ⟨fun f _=>trivial,?_⟩
  have hrun:(o.semAt Fence.wide.round a2.eval).run P w2=.ok (.defer { target:=.fn (.func fn.resc) #[],args:=#[.pointer (some ⟨σ2 oe,0,none⟩)] }) w2:=by
   show (execOp a2.eval o).run P w2=_
   simp [execOp,o1,resolve,o2,o3,heval,Deferred.ofValue,(hptr hs ho).2]
  rw [hrun,Oper.uponIn_defer]
  have hd':o.dst=none:=by simpa using hd
  rw [hd']
  exact hq
 have closStep:∀ {ops:List Oper} {opl:Array Oper} {Q:Exit→Act→World→Prop} {σ2:Nat→Nat} {T2:Tags} {a2:Act} {w2:World} {d gf:Nat} {zs:List (Nat × List PV)} {os:List Nat},fn.clos=some (d,gf,zs)→isClos P fn ops=true→Sim 0 σ2 T2 s0 a2 w2→heldOf s1 d gf=some os →
   (∀ T3 a3,Sim 0 σ2 T3 s1 a3 w2→Still T2 T3→(∀ o∈os,o<s1.boxes.length)→a3.defers={ target:=.fn (.func gf) (ptrs (os.map σ2)),args:=#[] } :: a2.defers→Q .normal a3 w2)→wpListIn Fence.wide 0 P opl Q ops a2 w2:=by
  intro ops opl Q σ2 T2 a2 w2 d gf zs os hc hr hs hos hq
  unfold isClos at hr
  split at hr
  case h_2=>cases hr
  rename_i oa ob
  rw [hc] at hr
  simp only [Bool.and_eq_true] at hr
  obtain ⟨⟨⟨⟨hg1,hm1⟩,hg2⟩,hd2⟩,hr⟩:=hr
  split at hr
  case h_2=>cases hr
  rename_i s hop
  simp only [beq_iff_eq] at hr
  subst hr
  unfold DFn.begun at hm
  rw [hc] at hm
  simp only at hm
  obtain ⟨v,T3,h1,h2,h3⟩:=plain_sound hs hm1 hm
  have hw1:∀ f,Region.wanted oa f=true:=fun f=>by simp only [Region.wanted,Option.isNone_iff_eq_none.1 hg1]
  have hw2:∀ f,Region.wanted ob f=true:=fun f=>by simp only [Region.wanted,Option.isNone_iff_eq_none.1 hg2]
  simp only [wpListIn,hw1,hw2,↓reduceIte]
  refine wpIn_value (.inl rfl) hm1 (h1 w2 (Sees.refl T2 w2)) (.inl rfl) ?_
  obtain ⟨c',o1,o2,o3⟩:∃ c':Call,ob.op=.defer c'∧c'.callee=.value (.tmp s)∧c'.args=#[]:=by
   unfold deferOf at hop
   split at hop
   case h_2=>cases hop
   rename_i c' hc'
   split at hop
   case h_2=>cases hop
   rename_i y hy
   simp only [Option.some.injEq,Prod.mk.injEq] at hop
   obtain ⟨rfl,h2⟩:=hop
   exact ⟨c',hc',hy,by simpa using h2⟩
  -- what the closure holds
  unfold heldOf at hos
  split at hos
  case h_2=>cases hos
  rename_i g' caps hsl
  split at hos
  case isFalse=>cases hos
  rename_i hgg
  subst hgg
  have hcaps:=mapM_box hos
  subst hcaps
  have hlt:s<(a2.put oa.dst v).tmps.size:=by rw [h2.size];exact (List.getElem?_eq_some_iff.1 hsl).1
  obtain ⟨arr,e1,e2,e3⟩:=h2.slots s _ _ hsl (Array.getElem?_eq_getElem hlt)
  have hcr:∀ (k:Nat) o,os[k]?=some o→o<s1.boxes.length∧arr[k]?=some (.pointer (some ⟨σ2 o,0,none⟩)):=fun k o hk=>by
   have hk':k<arr.size:=by rw [e2,List.length_map];exact (List.getElem?_eq_some_iff.1 hk).1
   have:=e3 k (.pbox o 0) _ (by rw [List.getElem?_map,hk];rfl) (Array.getElem?_eq_getElem hk')
   exact ⟨this.1,by rw [Array.getElem?_eq_getElem hk',this.2]⟩
  have harr:arr=ptrs (os.map σ2):=by
   refine Array.ext_getElem? fun k=>?_
   unfold ptrs
   refine Eq.trans ?_ List.getElem?_toArray.symm
   rw [List.map_map,List.getElem?_map]
   cases hk:os[k]? with
   |some o=>rw [(hcr k o hk).2];rfl
   |none =>
    have:=List.getElem?_eq_none_iff.1 hk
    rw [List.length_map] at e2
    rw [Array.getElem?_eq_none (by omega)]
    rfl
  have hev:(a2.put oa.dst v).eval (.tmp s)=.func (.func g') #[] arr:=by
   have e:(a2.put oa.dst v).eval (.tmp s)=(a2.put oa.dst v).tmps[s]:=by simp [Act.eval,hlt]
   rw [e,e1]
  refine ⟨fun f _=>trivial,?_⟩
  have hrun:(ob.semAt Fence.wide.round (a2.put oa.dst v).eval).run P w2=.ok (.defer { target:=.fn (.func g') arr,args:=#[] }) w2:=by
   show (execOp (a2.put oa.dst v).eval ob).run P w2=_
   simp [execOp,o1,resolve,o2,o3,hev,Deferred.ofValue]
  rw [hrun,Oper.uponIn_defer]
  have hd':ob.dst=none:=by simpa using hd2
  rw [hd']
  refine hq T3 _ (h2.withDefers _) h3 (fun o ho=>?_) (by rw [← harr,← put_defers (a:=a2) (d:=oa.dst) (v:=v)];rfl)
  obtain ⟨k,hk⟩:=List.mem_iff_getElem?.1 ho
  exact (hcr k o hk).1
 -- the whole
 unfold mD at k3
 split at k3
 case h_2=>cases k3
 rename_i r0 id1 o1 c1
 simp only [Bool.and_eq_true] at k3
 obtain ⟨m0,k3⟩:=k3
 have gpre:=hR.grow _ _ _ _ _ m0 hp
 cases hc:fn.clos with
 |none =>
  rw [hc] at k3
  simp only [Bool.and_eq_true] at k3
  obtain ⟨m1,m2⟩:=k3
  have e1:s1=s0:=by unfold DFn.begun at hm;rw [hc] at hm;exact (Option.some.inj hm).symm
  subst e1
  have gb:=hR.grow _ _ _ _ _ m2 hb
  refine wpIn_seq ?_
  refine wpIn_mono (hR.wp (F:=Fence.wide) (L:=0) (C:=⟨s4.ys,none,plainJ T0 w⟩) (n:=0) (.inl rfl) (Ctx.rec_wide _) hC r0 fn.pre _ _ s1 m0 hp rfl gb.2.1 _ T0 _ w hsim hJ) ?_
  rintro x a1 w1 ⟨rfl,σ1,T1,ms1,q1,q2,q3,q4,q5,q6⟩
  refine wpIn_seq (wpIn_region_list (rescStep m1 q1 ?_))
  have hoe:=(hptr q1 ho).1
  exact body c1 σ1 T1 _ w1 ms1 [] m2 (q1.withDefers _) q2 q4 gpre.2.2 gb.2.1 q6 (by simp only [q5,List.append_nil,List.nil_append]) (.inl ⟨hc,rfl⟩) hoe
 |some cl =>
  obtain ⟨d,gf,zs⟩:=cl
  rw [hc] at k3
  simp only at k3
  split at k3
  case h_2=>cases k3
  rename_i id2 o2 rest
  simp only [Bool.and_eq_true] at k3
  obtain ⟨⟨m1,m1'⟩,m2⟩:=k3
  have hmo:s1.ys=s0.ys∧s1.stop=s0.stop:=by
   have hm:=hm
   unfold DFn.begun at hm
   rw [hc] at hm
   have:=plain_mono hm
   exact ⟨this.2.1,this.2.2⟩
  have gb:=hR.grow _ _ _ _ _ m2 hb
  obtain ⟨os,hos⟩:∃ os,heldOf s1 d gf=some os:=by
   have h6:=h6
   unfold dfnClos at h6
   rw [hc] at h6
   obtain ⟨os,h,_⟩:=bind_some h6
   exact ⟨os,h⟩
  refine wpIn_seq ?_
  refine wpIn_mono (hR.wp (F:=Fence.wide) (L:=0) (C:=⟨s4.ys,none,plainJ T0 w⟩) (n:=0) (.inl rfl) (Ctx.rec_wide _) hC r0 fn.pre _ _ s0 m0 hp rfl (by rw [← hmo.1];exact gb.2.1) _ T0 _ w hsim hJ) ?_
  rintro x a1 w1 ⟨rfl,σ1,T1,ms1,q1,q2,q3,q4,q5,q6⟩
  refine wpIn_seq (wpIn_region_list (closStep hc m1 q1 hos ?_))
  intro T3 a3 g1 g2 g3 g4
  refine wpIn_seq (wpIn_region_list (rescStep m1' g1 ?_))
  have hoe:=(hptr g1 ho).1
  refine body rest σ1 T3 _ w1 ms1 [{ target:=.fn (.func gf) (ptrs (os.map σ1)),args:=#[] }] m2 (g1.withDefers _) (plainJ_keep (k:=0) h0 (g2.chg w1) q2) (q4.trans (g2.chg w1).stays) (hmo.2.trans gpre.2.2) gb.2.1 ⟨fun r hr=>?_,q6.2⟩ ?_ (.inr ⟨d,gf,zs,os,hc,hos,g3,rfl⟩) hoe
  ·obtain ⟨x1,x2,x3⟩:=q6.1 r hr
   exact ⟨x1,g2.ro r x2,x3⟩
  ·simp only [g4,q5,List.append_nil,List.cons_append,List.nil_append]
end
end Go.Proofs.YtpcncggjmabnaaaGreatDoor

namespace Go.Proofs.YtpcncggjmabnaaaGreatDoor
open Go.RowKit
def EnvOk (P:Program) (env:Env):Prop:=∀ f d,env f=some d→match d with
 |.code fn=>fnOk P f fn=true
 |.ext g=>∀ args rs,g args=some rs→callable P f=true∧CallOk P f args rs
 |.srt h=>callable P f=true∧SortOk P f h
 |.thr h=>(∀ args,h args=some none→callable P f=true∧CallOk P f args [])∧∀ args t n,h args=some (some (t,n))→callable P f=true∧ThrOk P f args t n
 |.dfn fn=>dfnOk P f fn=true∧RescOk P fn.resc fn.t∧∀ d g zs,fn.clos=some (d,g,zs)→ClosOk P g (zs.map (·.2))
section
variable {P:Program} {L K:Nat} {σ σ':Nat→Nat} {T T' T1 T2:Tags} {st st' st1:St} {a a1:Act} {w w1:World} {r:Root}
 {rec:VCode→St→Option (Ex × St)} {env:Env}
theorem calls_ok (hR:RecOk P rec) (hE:EnvOk P env):CallsOk P rec env:=by
 refine ⟨?_,(fun f h e=>hE f _ e),?_,?_⟩
 rotate_left
 ·intro f x args rs out h
  unfold callLin at h
  split at h
  ·rename_i fn hfn
   have hok:fnOk P f fn=true:=hE f _ hfn
   split at h
   case isFalse=>cases h
   replace h:=bind_some h
   obtain ⟨⟨e,st⟩,h1,h⟩:=h
   simp only at h
   refine ⟨(fnOk_eq hok).1,?_⟩
   split at h
   ·cases h
   ·cases h
   ·rename_i hne hne2
    exact code_callL hR hok (fun i e=>hne i e) (fun t n e=>hne2 t n e) h1 h
  ·cases h
 ·intro f args t n h
  unfold calT at h
  split at h
  ·rename_i g hg
   exact (hE f _ hg).2 args t n h
  ·rename_i fn hfn
   have hok:fnOk P f fn=true:=hE f _ hfn
   split at h
   case isFalse=>cases h
   rename_i hl
   obtain ⟨⟨e,st⟩,h1,h⟩:=bind_some h
   refine ⟨(fnOk_eq hok).1,?_⟩
   cases e with
   |thr t' n' =>
    simp only [Option.some.injEq,Prod.mk.injEq] at h
    obtain ⟨rfl,rfl⟩:=h
    exact code_thr hR hok hl.1 h1
   |_=>cases h
  ·cases h
 intro f args rs h
 unfold callRes at h
 split at h
 ·rename_i g hg
  exact hE f _ hg args rs h
 ·rename_i fn hfn
  have hok:fnOk P f fn=true:=hE f _ hfn
  split at h
  case isFalse=>cases h
  rename_i hl
  replace h:=bind_some h
  obtain ⟨⟨e,st⟩,h1,h⟩:=h
  simp only at h
  refine ⟨(fnOk_eq hok).1,?_⟩
  split at h
  ·cases h
  ·cases h
  ·rename_i hne hne2
   exact code_call hR hok hl (fun i e=>hne i e) (fun t n e=>hne2 t n e) h1 h
 ·cases h
 ·rename_i g hg
  obtain ⟨r,h1,h⟩:=bind_some h
  cases r with
  |some p=>cases h
  |none=>cases Option.some.inj h;exact (hE f _ hg).1 args h1
 ·rename_i fn hfn
  obtain ⟨q1,q2,q3⟩:dfnOk P f fn=true∧RescOk P fn.resc fn.t∧∀ d g zs,fn.clos=some (d,g,zs)→ClosOk P g (zs.map (·.2)):=hE f _ hfn
  refine ⟨(dfnOk_eq q1).1,?_⟩
  split at h
  case isFalse=>cases h
  rename_i hl
  obtain ⟨⟨e0,s0⟩,h1,h⟩:=bind_some h
  simp only at h
  split at h
  case isFalse=>cases h
  rename_i he0
  subst he0
  obtain ⟨s1,h2,h⟩:=bind_some h
  obtain ⟨⟨e,s4⟩,h3,h⟩:=bind_some h
  exact code_dfn hR q1 q2 q3 hl h1 h2 h3 h
 ·cases h
theorem iters_ok (hE:EnvOk P env):ItersOk P env:=fun f fn hfn=>by
 have hok:fnOk P f fn=true:=hE f _ hfn
 obtain ⟨k0,g,c,k1,k2,k3,k4,k5,k6⟩:=fnOk_eq hok
 refine ⟨k0,g,c,k1,k2,k3,k4,k5,fun he=>?_⟩
 have:fn.results=[]:=by simpa using he
 rw [this] at k6
 have:g.results.toList=[]:=by
  match h:g.results.toList,k6 with
  |[],_=>rfl
  |_ :: _,k6=>simp [mResL] at k6
 exact Array.toList_eq_nil_iff.1 this
theorem vm_ok (hE:EnvOk P env):∀ n,RecOk P (vm env n)
 |0=>⟨(fun _ _ _ _ _ _ h=>by simp [vm] at h),(fun _ _ _ _ _ _ _ _ h=>by simp [vm] at h),(fun _ _ _ _ _ _ _ _ _ h=>by simp [vm] at h),(fun _ _ _ _ _ _ _ _ _ _ _ h=>by simp [vm] at h)⟩
 |n+1=>step_ok (vm_ok hE n) (iters_ok hE) (calls_ok (vm_ok hE n) hE)
theorem vmCall_ok (hE:EnvOk P env) {n f:Nat} {args:List PV} {rs:List Res} (h:vmCall env n f args=some rs):callable P f=true∧CallOk P f args rs:=(calls_ok (vm_ok hE n) hE).1 f args rs h
end
end Go.Proofs.YtpcncggjmabnaaaGreatDoor

namespace Go.Proofs.YtpcncggjmabnaaaGreatDoor
abbrev Rec:=VCode→St→Option (Ex × St)
def RLe (f g:Rec):Prop:=∀ c st r,f c st=some r→g c st=some r
open Classical in
noncomputable def den (env:Env) (c:VCode) (st:St):Option (Ex × St) :=
 if h:∃ n r,vm env n c st=some r then some (Classical.choose (Classical.choose_spec h)) else none
structure Good {α:Type} (env:Env) (F:Rec→Option α):Prop where
 mono:∀ f g,RLe f g→∀ r,F f=some r→F g=some r
 cont:(∀ m n,m≤n→RLe (vm env m) (vm env n))→∀ r,F (den env)=some r→∃ n,F (vm env n)=some r
section
variable {α β:Type} {env:Env}
theorem Good.const (x:Option α):Good env (fun _=>x):=⟨fun _ _ _ _ h=>h,fun _ _ h=>⟨0,h⟩⟩
theorem Good.app (c:VCode) (st:St):Good env (fun rec=>rec c st):=⟨fun _ _ h r=>h c st r,fun _ r h=>by
 unfold den at h
 split at h
 case isFalse=>cases h
 rename_i hx
 cases h
 exact ⟨_,Classical.choose_spec (Classical.choose_spec hx)⟩⟩
theorem Good.bind {F:Rec→Option α} {G:α→Rec→Option β} (hF:Good env F) (hG:∀ a,Good env (G a)):Good env (fun rec=>(F rec).bind fun a=>G a rec):=⟨fun f g h r e=>by
 obtain ⟨a,h1,h2⟩:=Option.bind_eq_some_iff.1 e
 exact Option.bind_eq_some_iff.2 ⟨a,hF.mono f g h a h1,(hG a).mono f g h r h2⟩,fun hm r e=>by
 obtain ⟨a,h1,h2⟩:=Option.bind_eq_some_iff.1 e
 obtain ⟨m,h3⟩:=hF.cont hm a h1
 obtain ⟨n,h4⟩:=(hG a).cont hm r h2
 exact ⟨max m n,Option.bind_eq_some_iff.2 ⟨a,hF.mono _ _ (hm m _ (Nat.le_max_left m n)) a h3,(hG a).mono _ _ (hm n _ (Nat.le_max_right m n)) r h4⟩⟩⟩
theorem Good.map {F:Rec→Option α} {g:α→β} (hF:Good env F):Good env (fun rec=>(F rec).map g):=by
 have:=hF.bind (G:=fun a _=>some (g a)) fun a=>Good.const _
 refine ⟨fun f g' h r e=>?_,fun hm r e=>?_⟩
 ·have:=this.mono f g' h r (by simpa [Option.map_eq_bind,Function.comp_def] using e)
  simpa [Option.map_eq_bind,Function.comp_def] using this
 ·obtain ⟨n,hn⟩:=this.cont hm r (by simpa [Option.map_eq_bind,Function.comp_def] using e)
  exact ⟨n,by simpa [Option.map_eq_bind,Function.comp_def] using hn⟩
theorem Good.callRes (f:Nat) (args:List PV):Good env (fun rec=>callRes rec env f args):=by
 unfold Go.Proofs.YtpcncggjmabnaaaGreatDoor.callRes
 split
 ·exact Good.const _
 ·split
  ·refine (Good.app _ _).bind fun a=>?_
   obtain ⟨e,st⟩:=a
   cases e<;>exact Good.const _
  ·exact Good.const _
 ·exact Good.const _
 ·exact Good.const _
 ·split
  ·refine (Good.app _ _).bind fun a=>?_
   split
   ·exact (Good.const _).bind fun st0=>(Good.app _ _).bind fun r=>Good.const _
   ·exact Good.const _
  ·exact Good.const _
 ·exact Good.const _
theorem Good.calT (f:Nat) (args:List PV):Good env (fun rec=>calT rec env f args):=by
 unfold Go.Proofs.YtpcncggjmabnaaaGreatDoor.calT
 split
 ·exact Good.const _
 ·split
  ·exact (Good.app _ _).bind fun a=>Good.const _
  ·exact Good.const _
 ·exact Good.const _
theorem Good.iterRes (f:Nat) (args:List PV) (s:Option Nat):Good env (fun rec=>iterRes rec env f args s):=by
 unfold Go.Proofs.YtpcncggjmabnaaaGreatDoor.iterRes
 split
 ·split
  ·refine (Good.app _ _).bind fun a=>?_
   obtain ⟨e,st⟩:=a
   cases e<;>exact Good.const _
  ·exact Good.const _
 ·exact Good.const _
theorem Good.callOn (d f:Nat) (args:List Opd) (caps:List AV) (st:St):Good env (fun rec=>callOn rec env d f args caps st):=by
 unfold Go.Proofs.YtpcncggjmabnaaaGreatDoor.callOn
 exact (Good.const _).bind fun l=>(Good.const _).bind fun k=>(Good.callRes f _).bind fun rs=>Good.const _
theorem Good.callLin (f:Nat) (x:LArg) (args:List PV):Good env (fun rec=>callLin rec env f x args):=by
 unfold Go.Proofs.YtpcncggjmabnaaaGreatDoor.callLin
 split
 ·split
  ·refine (Good.app _ _).bind fun a=>?_
   obtain ⟨e,st⟩:=a
   cases e<;>exact Good.const _
  ·exact Good.const _
 ·exact Good.const _
theorem Good.callOnL (d f:Nat) (x:Opd) (args:List Opd) (caps:List AV) (st:St):Good env (fun rec=>callOnL rec env d f x args caps st):=by
 unfold Go.Proofs.YtpcncggjmabnaaaGreatDoor.callOnL callOnL0
 exact (Good.const _).bind fun l=>(Good.const _).bind fun k=>(Good.const _).bind fun q=>(Good.callLin f _ _).bind fun r=>Good.const _
theorem Good.act (o:VOp) (st:St):Good env (fun rec=>act rec env o st):=by
 cases o
 case call d f args=>exact Good.callOn d f args [] st
 case callv d x args =>
  unfold Go.Proofs.YtpcncggjmabnaaaGreatDoor.act
  simp only
  split
  ·exact Good.callOn _ _ _ _ _
  ·exact Good.callOn _ _ _ _ _
  ·exact Good.const _
 case lin d f x args=>exact Good.callOnL d f x args [] st
 case linv d g x args =>
  unfold Go.Proofs.YtpcncggjmabnaaaGreatDoor.act
  simp only
  split
  ·exact Good.callOnL _ _ _ _ _ _
  ·exact Good.callOnL _ _ _ _ _ _
  ·exact Good.const _
 all_goals exact Good.const _
theorem Good.op1 (o:VOp) (st:St):Good env (fun rec=>op1 rec env o st):=by
 unfold Go.Proofs.YtpcncggjmabnaaaGreatDoor.op1
 split
 ·exact Good.act o st
 ·exact Good.const _
theorem Good.op (o:VOp) (st:St):Good env (fun rec=>op rec env o st):=by
 unfold Go.Proofs.YtpcncggjmabnaaaGreatDoor.op
 split
 ·split
  ·split
   ·exact Good.op1 _ _
   ·exact Good.const _
  ·exact Good.const _
  ·exact Good.const _
 ·exact Good.op1 _ _
theorem Good.ops:∀ (l:List VOp) (st:St),Good env (fun rec=>ops rec env l st)
 |[],st=>Good.const _
 |o :: l,st=>(Good.op o st).bind fun st=>Good.ops l st
theorem Good.rounds (slots:List AV) (ps:List Nat) (assign body:VCode) (nb:Nat):∀ (xs:List (List PV)) (k:Nat) (st:St),Good env (fun rec=>rounds rec slots ps assign body nb k xs st)
 |[],k,st=>by unfold Go.Proofs.YtpcncggjmabnaaaGreatDoor.rounds;exact Good.const _
 |x :: xs,k,st=>by
  unfold Go.Proofs.YtpcncggjmabnaaaGreatDoor.rounds
  refine (Good.const _).bind fun sl=>(Good.app _ _).bind fun a=>?_
  obtain ⟨e,st⟩:=a
  cases e
  case normal =>
   refine (Good.app _ _).bind fun a=>?_
   obtain ⟨e,st⟩:=a
   cases e
   case normal =>
    simp only
    split
    ·exact Good.rounds slots ps assign body nb xs (k+1) _
    ·exact Good.const _
   all_goals exact Good.const _
  all_goals exact Good.const _
theorem Good.ranged (g:Opd) (ps:List Nat) (assign body:VCode) (st:St):Good env (fun rec=>ranged rec env g ps assign body st):=by
 unfold Go.Proofs.YtpcncggjmabnaaaGreatDoor.ranged
 refine (Good.const _).bind fun v=>?_
 cases v<;>try exact Good.const _
 simp only
 refine (Good.iterRes _ _ _).bind fun xs=>(Good.rounds _ _ _ _ _ _ _ _).bind fun r=>?_
 obtain ⟨r,st1⟩:=r
 cases r with
 |none=>exact Good.const _
 |some p =>
  obtain ⟨e,k⟩:=p
  refine (Good.iterRes _ _ _).bind fun xs=>(Good.rounds _ _ _ _ _ _ _ _).bind fun r=>?_
  obtain ⟨r,st1⟩:=r
  cases r<;>exact Good.const _
theorem Good.altRun (keep:List Nat) (vo:List VOp) (st:St) (x:DAlt):Good env (fun rec=>altRun rec env keep vo st x):=by
 unfold Go.Proofs.YtpcncggjmabnaaaGreatDoor.altRun
 exact (Good.ops _ _).bind fun s=>Good.const _
theorem Good.agree (keep:List Nat) (vo:List VOp) (st s:St):∀ l:List DAlt,Good env (fun rec=>agree s (l.map (Go.Proofs.YtpcncggjmabnaaaGreatDoor.altRun rec env keep vo st)))
 |[]=>Good.const _
 |x :: xs=>by
  simp only [List.map_cons,Go.Proofs.YtpcncggjmabnaaaGreatDoor.agree]
  refine (Good.altRun keep vo st x).bind fun s'=>?_
  split
  ·exact Good.agree keep vo st s xs
  ·exact Good.const _
theorem Good.runAlts (keep:List Nat) (vo:List VOp) (st:St) (l:List DAlt):Good env (fun rec=>runAlts rec env keep vo st l):=by
 cases l with
 |nil=>exact Good.const _
 |cons x xs =>
  simp only [Go.Proofs.YtpcncggjmabnaaaGreatDoor.runAlts]
  exact (Good.altRun keep vo st x).bind fun s=>Good.agree keep vo st s xs
theorem Good.step (c:VCode) (st:St):Good env (fun rec=>step rec env c st):=by
 cases c
 case ops l=>exact (Good.ops l st).map
 case drw fz _ _ _ l=>exact (Good.ops l (fz.foldl St.freezeAt st)).map
 case drs fz keep vo alts=>exact (Good.runAlts keep vo (fz.foldl St.freezeAt st) alts).map
 case lend d ks l =>
  simp only [Go.Proofs.YtpcncggjmabnaaaGreatDoor.step]
  split
  ·split
   ·exact ((Good.ops l _).bind fun s=>Good.const _).map
   ·exact Good.const _
  ·exact Good.const _
 case seq a b =>
  refine (Good.app _ _).bind fun x=>?_
  obtain ⟨e,st⟩:=x
  cases e
  case normal=>exact Good.app _ _
  all_goals exact Good.const _
 case cond c a b =>
  refine (Good.const _).bind fun v=>?_
  cases v<;>try exact Good.const _
  simp only
  split
  ·exact Good.app _ _
  ·exact Good.app _ _
 case block i a =>
  refine (Good.app _ _).bind fun x=>?_
  obtain ⟨e,st⟩:=x
  exact Good.const _
 case loop=>exact Good.app _ _
 case round keep nb a =>
  refine (Good.const _).bind fun s=>(Good.app _ _).bind fun x=>?_
  obtain ⟨e,st⟩:=x
  cases e
  case normal=>exact Good.app _ _
  all_goals exact Good.const _
 case rng g ps assign body=>exact Good.ranged g ps assign body st
 case clean pre post a =>
  refine (Good.const _).bind fun s=>(Good.app _ _).bind fun x=>?_
  obtain ⟨e,st⟩:=x
  exact Good.const _
 case dem l d f args =>
  refine (Good.ops l st).bind fun st1=>(Good.const _).bind fun vs=>(Good.calT f vs).bind fun r=>?_
  cases r with
  |some p=>exact Good.const _
  |none=>exact (Good.act _ _).map
 all_goals exact Good.const _
theorem vm_succ (env:Env):∀ n,RLe (vm env n) (vm env (n+1))
 |0,c,st,r,h=>by simp [vm] at h
 |n+1,c,st,r,h=>(Good.step (env:=env) c st).mono _ _ (vm_succ env n) r h
theorem vm_le (env:Env) (m n:Nat) (h:m≤n):RLe (vm env m) (vm env n):=by
 induction h with
 |refl=>exact fun _ _ _ h=>h
 |step _ ih=>exact fun c st r h=>vm_succ env _ c st r (ih c st r h)
theorem den_of_vm {n:Nat} {c:VCode} {st:St} {r:Ex × St} (h:vm env n c st=some r):den env c st=some r:=by
 have hx:∃ n r,vm env n c st=some r:=⟨n,r,h⟩
 unfold den
 rw [dif_pos hx]
 have h2:=Classical.choose_spec (Classical.choose_spec hx)
 have h3:=vm_le env _ _ (Nat.le_max_left n (Classical.choose hx)) c st r h
 have h4:=vm_le env _ _ (Nat.le_max_right n (Classical.choose hx)) c st _ h2
 rw [h3] at h4
 exact h4.symm
theorem vm_of_den {c:VCode} {st:St} {r:Ex × St} (h:den env c st=some r):∃ n,vm env n c st=some r :=
 (Good.app c st).cont (vm_le env) r h
theorem vm_den (env:Env) (n:Nat):RLe (vm env n) (den env):=fun _ _ _ h=>den_of_vm h
theorem den_eq (env:Env) (c:VCode) (st:St):den env c st=step (den env) env c st:=by
 apply Option.ext
 intro r
 constructor
 ·intro h
  obtain ⟨n,hn⟩:=vm_of_den h
  cases n with
  |zero=>simp [vm] at hn
  |succ n=>exact (Good.step c st).mono _ _ (vm_den env n) r hn
 ·intro h
  obtain ⟨n,hn⟩:=(Good.step c st).cont (vm_le env) r h
  exact den_of_vm (n:=n+1) hn
noncomputable def cal (env:Env) (f:Nat) (args:List PV):Option (List Res):=callRes (den env) env f args
noncomputable def calL (env:Env) (f:Nat) (x:LArg) (args:List PV):Option (List Res × Option (List PV)):=callLin (den env) env f x args
theorem vmCall_of_cal {f:Nat} {args:List PV} {rs:List Res} (h:cal env f args=some rs):∃ n,vmCall env n f args=some rs :=
 (Good.callRes (env:=env) f args).cont (vm_le env) rs h
theorem cal_of_vmCall {n f:Nat} {args:List PV} {rs:List Res} (h:vmCall env n f args=some rs):cal env f args=some rs :=
 (Good.callRes (env:=env) f args).mono _ _ (vm_den env n) rs h
end
end Go.Proofs.YtpcncggjmabnaaaGreatDoor

namespace Go.Proofs.YtpcncggjmabnaaaGreatDoor
def bcase {α:Type} (b:Bool) (x y:α):α:=match b with
 |true=>x
 |false=>y
section
variable {env:Env} {α β:Type}
theorem bcase_true (x y:α):bcase true x y=x:=(rfl)
theorem bcase_false (x y:α):bcase false x y=y:=(rfl)
theorem bcase_bind (b:Bool) (x y:Option α) (f:α→Option β):(bcase b x y).bind f=bcase b (x.bind f) (y.bind f):=by cases b<;>rfl
theorem bcase_map (b:Bool) (x y:Option α) (f:α→β):(bcase b x y).map f=bcase b (x.map f) (y.map f):=by cases b<;>rfl
theorem bcase_not (b:Bool) (x y:α):bcase (!b) x y=bcase b y x:=by cases b<;>rfl
theorem bcase_bne {γ:Type} [BEq γ] (a b:γ) (x y:α):bcase (a != b) x y=bcase (a==b) y x:=by unfold bne;rw [bcase_not]
theorem beq_t (b:Bool):(b==true)=b:=by cases b<;>rfl
theorem beq_f (b:Bool):(b==false)=!b:=by cases b<;>rfl
theorem bcase_split {b:Bool} {x y r:α} (h1:b=true→x=r) (h0:b=false→y=r):bcase b x y=r:=by
 cases b
 ·exact h0 rfl
 ·exact h1 rfl
noncomputable def dops (env:Env) (l:List VOp) (st:St):Option St:=ops (den env) env l st
noncomputable def dop (env:Env) (o:VOp) (st:St):Option St:=op (den env) env o st
noncomputable def next (env:Env) (b:VCode):Ex × St→Option (Ex × St)
 |(.normal,st)=>den env b st
 |r=>some r
def endBlock (id:Nat):Ex × St→Ex × St
 |(.normal,st)=>(.normal,st)
 |(.exit j,st)=>(bcase (Nat.beq j id) .normal (.exit j),st)
 |(.ret,st)=>(.ret,st)
 |(.thr t n,st)=>(.thr t n,st)
def cleanEnd (post:List Nat) (nb:Nat) (p:Ex × St):Option (Ex × St):=(p.2.head post nb).map fun st=>(p.1,st)
def fin (rs:List VRes):Ex × St→Option (List Res)
 |(.exit _,_)=>none
 |(.thr _ _,_)=>none
 |(_,st)=>resultsOf st rs
def start (n:Nat) (args:List PV):St:=⟨args.map .pv++List.replicate (n - args.length) .any,[],[],none⟩
theorem den_skip (st:St):den env .skip st=some (.normal,st):=by rw [den_eq];rfl
theorem den_ops (l:List VOp) (st:St):den env (.ops l) st=(dops env l st).map fun st=>(.normal,st):=by rw [den_eq];rfl
theorem den_drw (z a f q) (l:List VOp) (st:St):den env (.drw z a f q l) st=(dops env l (z.foldl St.freezeAt st)).map fun st=>(.normal,st):=by rw [den_eq];rfl
noncomputable def dalts (env:Env) (keep:List Nat) (vo:List VOp) (st:St) (l:List DAlt):Option St:=runAlts (den env) env keep vo st l
noncomputable def dalt (env:Env) (keep:List Nat) (vo:List VOp) (st:St) (x:DAlt):Option St:=altRun (den env) env keep vo st x
noncomputable def dagree (env:Env) (keep:List Nat) (vo:List VOp) (st s:St) (l:List DAlt):Option St:=agree s (l.map (altRun (den env) env keep vo st))
def sameAs (s s':St) (r:Option St):Option St:=if s'.same s then r else none
theorem den_drs (z k vo l) (st:St):den env (.drs z k vo l) st=(dalts env k vo (z.foldl St.freezeAt st) l).map fun st=>(.normal,st):=by rw [den_eq];rfl
theorem dalts_cons (k vo) (st:St) (x:DAlt) (l:List DAlt):dalts env k vo st (x :: l)=(dalt env k vo st x).bind fun s=>dagree env k vo st s l:=(rfl)
theorem dagree_nil (k vo) (st s:St):dagree env k vo st s []=some s:=(rfl)
theorem dagree_cons (k vo) (st s:St) (x:DAlt) (l:List DAlt):dagree env k vo st s (x :: l)=(dalt env k vo st x).bind fun s'=>sameAs s s' (dagree env k vo st s l):=by
 show (altRun (den env) env k vo st x).bind _=_
 unfold dalt dagree sameAs
 congr 1
theorem sameAs_same (s:St) (r:Option St):sameAs s s r=r:=by
 show (if s.same s then r else none)=r
 rw [St.same_refl];rfl
theorem dalt_eq (k vo) (st:St) (a f q o w):dalt env k vo st ⟨a,f,q,o,w⟩=(dops env (pickV vo o) st).bind (altEnd k st.boxes.length w):=(rfl)
theorem altEnd_false (k:List Nat) (nb:Nat) (s:St):altEnd k nb false s=s.head k s.boxes.length:=by
 unfold altEnd
 cases s.head k s.boxes.length<;>rfl
theorem altEnd_true (k:List Nat) (nb:Nat) (s:St):altEnd k nb true s=(s.head k s.boxes.length).bind fun s=>s.swap2 nb:=(rfl)
theorem pickV_nil (vo:List VOp):pickV vo []=[]:=(rfl)
theorem pickV_one (vo:List VOp) (i:Nat) (l:List Nat):pickV vo (i :: l)=vo.getD i default :: pickV vo l:=(rfl)
theorem den_seq (a b:VCode) (st:St):den env (.seq a b) st=(den env a st).bind (next env b):=by
 rw [den_eq]
 show (den env a st).bind _=_
 congr 1
 funext ⟨e,st⟩
 cases e<;>rfl
theorem den_cond (c:Opd) (a b:VCode) (st:St):den env (.cond c a b) st=(match st.pvOf c with
  |some (.bool t)=>bcase t (den env a st) (den env b st)
  |_=>none):=by
 rw [den_eq]
 show (st.pvOf c).bind _=_
 cases st.pvOf c with
 |none=>rfl
 |some v =>
  cases v<;>try rfl
  rename_i t
  cases t<;>rfl
theorem den_block (i:Nat) (a:VCode) (st:St):den env (.block i a) st=(den env a st).map (endBlock i):=by
 rw [den_eq]
 show (den env a st).bind _=_
 cases den env a st with
 |none=>rfl
 |some r =>
  obtain ⟨e,st⟩:=r
  cases e with
  |normal=>rfl
  |ret=>rfl
  |thr t n=>rfl
  |exit j =>
   show some (_,_)=some (_,_)
   by_cases h:j=i
   ·subst h;simp [bcase]
   ·have:Nat.beq j i=false:=by cases e:Nat.beq j i with
    |false=>rfl
    |true=>exact absurd (Nat.eq_of_beq_eq_true e) h
    simp [bcase,h,this]
theorem den_loop (keep:List Nat) (a:VCode) (st:St):den env (.loop keep a) st=den env (.round keep st.boxes.length a) st:=by rw [den_eq];rfl
theorem den_round (keep:List Nat) (nb:Nat) (a:VCode) (st:St):den env (.round keep nb a) st=(st.head keep nb).bind fun st=>(den env a st).bind (next env (.round keep nb a)):=by
 rw [den_eq]
 show (st.head keep nb).bind _=_
 congr 1
 funext st
 show (den env a st).bind _=_
 congr 1
 funext ⟨e,st⟩
 cases e<;>rfl
theorem den_clean (pre post:List Nat) (a:VCode) (st:St):den env (.clean pre post a) st=(st.head pre st.boxes.length).bind fun s=>(den env a s).bind (cleanEnd post st.boxes.length):=by
 rw [den_eq]
 show (st.head pre _).bind _=_
 congr 1
 funext s
 show (den env a s).bind _=_
 congr 1
 funext ⟨e,s⟩
 show (s.head post _).bind _=(s.head post _).map _
 cases s.head post st.boxes.length<;>rfl
theorem den_exit (i:Nat) (st:St):den env (.exit i) st=some (.exit i,st):=by rw [den_eq];rfl
theorem den_ret (st:St):den env .ret st=some (.ret,st):=by rw [den_eq];rfl
theorem next_normal (b:VCode) (st:St):next env b (.normal,st)=den env b st:=(rfl)
theorem next_exit (b:VCode) (i:Nat) (st:St):next env b (.exit i,st)=some (.exit i,st):=(rfl)
theorem next_ret (b:VCode) (st:St):next env b (.ret,st)=some (.ret,st):=(rfl)
theorem next_thr (b:VCode) (t:Nat) (n:Int) (st:St):next env b (.thr t n,st)=some (.thr t n,st):=(rfl)
theorem endBlock_thr (i t:Nat) (n:Int) (st:St):endBlock i (.thr t n,st)=(.thr t n,st):=(rfl)
noncomputable def thrown (env:Env) (f:Nat) (args:List PV):Option (Option (Nat × Int)):=calT (den env) env f args
def tfin:Ex × St→Option (Option (Nat × Int))
 |(.exit _,_)=>none
 |(.thr t n,_)=>some (some (t,n))
 |_=>some none
theorem tfin_normal (st:St):tfin (.normal,st)=some none:=(rfl)
theorem tfin_ret (st:St):tfin (.ret,st)=some none:=(rfl)
theorem tfin_thr (t:Nat) (n:Int) (st:St):tfin (.thr t n,st)=some (some (t,n)):=(rfl)
noncomputable def demEnd (env:Env) (d f:Nat) (args:List Opd) (st:St):Option (Nat × Int)→Option (Ex × St)
 |some (t,n)=>some (.thr t n,st)
 |none=>(dops env [.call d f args] st).map fun st=>(.normal,st)
theorem demEnd_some (d f:Nat) (args:List Opd) (st:St) (t:Nat) (n:Int):demEnd env d f args st (some (t,n))=some (.thr t n,st):=(rfl)
theorem demEnd_none (d f:Nat) (args:List Opd) (st:St):demEnd env d f args st none=(dops env [.call d f args] st).map fun st=>(.normal,st):=(rfl)
theorem den_dem (l:List VOp) (d f:Nat) (args:List Opd) (st:St):den env (.dem l d f args) st=(dops env l st).bind fun st1=>(args.mapM st1.pvOf).bind fun vs=>(thrown env f vs).bind (demEnd env d f args st1):=by
 rw [den_eq]
 show (dops env l st).bind _=_
 congr 1
 funext st1
 show (args.mapM st1.pvOf).bind _=_
 congr 1
 funext vs
 show (thrown env f vs).bind _=_
 congr 1
 funext r
 cases r with
 |some p=>rfl
 |none =>
  show (act (den env) env (.call d f args) st1).map _=((act (den env) env (.call d f args) st1).bind (ops (den env) env [])).map _
  cases act (den env) env (.call d f args) st1<;>rfl
theorem endBlock_normal (i:Nat) (st:St):endBlock i (.normal,st)=(.normal,st):=(rfl)
theorem endBlock_ret (i:Nat) (st:St):endBlock i (.ret,st)=(.ret,st):=(rfl)
theorem endBlock_exit (i j:Nat) (st:St):endBlock i (.exit j,st)=(bcase (Nat.beq j i) .normal (.exit j),st):=(rfl)
theorem fin_normal (rs:List VRes) (st:St):fin rs (.normal,st)=resultsOf st rs:=(rfl)
theorem fin_ret (rs:List VRes) (st:St):fin rs (.ret,st)=resultsOf st rs:=(rfl)
theorem cal_code {f:Nat} {fn:VFn} {args:List PV} (h:env f=some (.code fn)) (hl:args.length=fn.nargs):cal env f args=(den env fn.body (start fn.ntmps args)).bind (Go.Proofs.YtpcncggjmabnaaaGreatDoor.fin fn.results):=by
 unfold cal callRes
 rw [h]
 simp only [if_pos hl]
 show (den env fn.body _).bind _=_
 congr 1
 funext ⟨e,st⟩
 cases e<;>rfl
def startL (n:Nat) (x:LArg) (args:List PV):St:=⟨x.av :: (args.map .pv++List.replicate (n - (args.length+1)) .any),x.boxes,[],none⟩
def finL (x:LArg) (rs:List VRes):Ex × St→Option (List Res × Option (List PV))
 |(.exit _,_)=>none
 |(.thr _ _,_)=>none
 |(_,st)=>linRes x st rs
theorem finL_normal (x:LArg) (rs:List VRes) (st:St):finL x rs (.normal,st)=linRes x st rs:=(rfl)
theorem finL_ret (x:LArg) (rs:List VRes) (st:St):finL x rs (.ret,st)=linRes x st rs:=(rfl)
theorem linRes_row (sz:Nat) (es:List PV) (st:St) (rs:List VRes):linRes (.row sz es) st rs=(resultsOf st rs).map fun l=>(l,none):=(rfl)
theorem linRes_own (l:List AV) (st:St) (rs:List VRes):linRes (.own l) st rs=(resultsOf st rs).map fun l=>(l,none):=(rfl)
theorem linRes_box (cs:List PV) (st:St) (rs:List VRes):linRes (.box cs) st rs=(match (st.freezeRows 0).boxes[0]? with
  |some b=>bcase b.fz none ((resultList (st.freezeRows 0) rs).map fun l=>(l,some (b.cs.map BV.val)))
  |none=>none):=by
 show (match (st.freezeRows 0).boxes[0]? with
  |some b=>if b.fz then none else (resultList (st.freezeRows 0) rs).map fun l=>(l,some (b.cs.map BV.val))
  |none=>none)=_
 split
 ·rename_i b _
  cases b.fz<;>rfl
 ·rfl
theorem lav_row (sz:Nat) (es:List PV):(LArg.row sz es).av=.row sz es:=(rfl)
theorem lav_own (l:List AV):(LArg.own l).av=.tup true l:=(rfl)
theorem lav_box (cs:List PV):(LArg.box cs).av=.pbox 0 0:=(rfl)
theorem lbx_row (sz:Nat) (es:List PV):(LArg.row sz es).boxes=[]:=(rfl)
theorem lbx_own (l:List AV):(LArg.own l).boxes=[]:=(rfl)
theorem lbx_box (cs:List PV):(LArg.box cs).boxes=[⟨false,cs.map .pv⟩]:=(rfl)
theorem calL_code {f:Nat} {fn:VFn} {x:LArg} {args:List PV} (h:env f=some (.code fn)) (hl:args.length+1=fn.nargs):calL env f x args=(den env fn.body (startL fn.ntmps x args)).bind (finL x fn.results):=by
 unfold calL callLin
 rw [h]
 simp only [if_pos hl]
 show (den env fn.body _).bind _=_
 congr 1
 funext ⟨e,st⟩
 cases e<;>rfl
theorem cal_ext {f:Nat} {g:List PV→Option (List Res)} {args:List PV} (h:env f=some (.ext g)):cal env f args=g args:=by
 unfold cal callRes
 rw [h]
theorem clean_loop' {keep post:List Nat} {id:Nat} {b:VCode} {st S0:St} {R:Option (Ex × St)} (h:st.head keep st.boxes.length=some S0) (h2:S0.head keep S0.boxes.length=some S0)
  (key:∀ rb,rb=VCode.round keep S0.boxes.length b→(((den env b S0).bind (next env rb)).map (endBlock id)).bind (cleanEnd post st.boxes.length)=R):den env (.clean keep post (.block id (.loop keep b))) st=R:=by
 rw [den_clean,h,Option.bind_some,den_block,den_loop,den_round,h2,Option.bind_some]
 exact key _ rfl
theorem round_on {keep:List Nat} {nb:Nat} {b rb:VCode} {st S1:St} (hrb:rb=.round keep nb b) (h:st.head keep nb=some S1):den env rb st=(den env b S1).bind (next env rb):=by
 rw [hrb,den_round,h,Option.bind_some]
noncomputable def tailOf (env:Env) (id:Nat) (post:List Nat) (nb:Nat) (x:Option (Ex × St)):Option (Ex × St):=(x.map (endBlock id)).bind (cleanEnd post nb)
theorem clean_rec {β:Type} {keep post:List Nat} {id nb:Nat} {b:VCode} (S:β→St) (R:β→Option (Ex × St)) (P:β→Prop) (μ:β→Nat) (x0:β) {st:St} (h:st.head keep st.boxes.length=some (S x0)) (hP:P x0)
  (hS:∀ x,(S x).boxes.length=nb) (hh:∀ x,(S x).head keep nb=some (S x))
  (step:∀ x rb,P x→(∀ y,μ y<μ x→P y→∀ s,s.head keep nb=some (S y)→tailOf env id post nb (den env rb s)=R y)→tailOf env id post nb ((den env b (S x)).bind (next env rb))=R x) :
  den env (.clean keep post (.block id (.loop keep b))) st=R x0:=by
 have hb:st.boxes.length=nb:=by rw [← (head_same h).1];exact hS x0
 refine clean_loop' h (by rw [hS];exact hh x0) ?_
 intro rb hrb
 rw [hS] at hrb
 rw [hb]
 have key:∀ (k:Nat) (x:β),μ x<k→P x→tailOf env id post nb ((den env b (S x)).bind (next env rb))=R x:=by
  intro k
  induction k with
  |zero=>intro x hx;omega
  |succ k ih =>
   intro x hx hPx
   refine step x rb hPx fun y hy hPy s hs=>?_
   rw [round_on hrb hs]
   exact ih y (by omega) hPy
 exact key (μ x0+1) x0 (by omega) hP
theorem clean_up {keep post:List Nat} {id nb:Nat} {b:VCode} (n:Nat) (S:Nat→St) (R:Nat→Option (Ex × St)) {st:St} (h:st.head keep st.boxes.length=some (S 0)) (hS:∀ i,(S i).boxes.length=nb) (hh:∀ i,(S i).head keep nb=some (S i))
  (step:∀ i rb,i<n→(∀ s,s.head keep nb=some (S (i+1))→tailOf env id post nb (den env rb s)=R (i+1))→tailOf env id post nb ((den env b (S i)).bind (next env rb))=R i)
  (last:∀ rb,tailOf env id post nb ((den env b (S n)).bind (next env rb))=R n) :
  den env (.clean keep post (.block id (.loop keep b))) st=R 0:=by
 refine clean_rec S R (fun i=>i≤n) (fun i=>n - i) 0 h (Nat.zero_le _) hS hh fun i rb hi ih=>?_
 by_cases hn:i=n
 ·subst hn;exact last rb
 ·exact step i rb (by omega) fun s hs=>ih (i+1) (by omega) (by omega) s hs
theorem tail_normal {id nb:Nat} {post:List Nat} (st:St):tailOf env id post nb (some (.normal,st))=cleanEnd post nb (.normal,st):=(rfl)
theorem tail_thr {id nb:Nat} {post:List Nat} (t:Nat) (n:Int) (st:St):tailOf env id post nb (some (.thr t n,st))=cleanEnd post nb (.thr t n,st):=(rfl)
theorem tail_ret {id nb:Nat} {post:List Nat} (st:St):tailOf env id post nb (some (.ret,st))=cleanEnd post nb (.ret,st):=(rfl)
theorem tail_exit {id j nb:Nat} {post:List Nat} (st:St):tailOf env id post nb (some (.exit j,st))=cleanEnd post nb (bcase (Nat.beq j id) .normal (.exit j),st):=(rfl)
theorem tail_bcase {id nb:Nat} {post:List Nat} (b:Bool) (x y:Option (Ex × St)):tailOf env id post nb (bcase b x y)=bcase b (tailOf env id post nb x) (tailOf env id post nb y):=by cases b<;>rfl
theorem z_bind_some (a:α) (f:α→Option β):(some a).bind f=f a:=(rfl)
theorem z_bind_none (f:α→Option β):(none:Option α).bind f=none:=(rfl)
theorem z_map_some (a:α) (f:α→β):(some a).map f=some (f a):=(rfl)
theorem z_map_none (f:α→β):(none:Option α).map f=none:=(rfl)
theorem z_ite_true (x y:α):(if True then x else y)=x:=(rfl)
theorem z_ite_false (x y:α):(if False then x else y)=y:=(rfl)
theorem z_bind_eq {γ δ:Type} (x:Option γ) (f:γ→Option δ):(x >>= f)=x.bind f:=(rfl)
theorem z_pure {γ:Type} (x:γ):(pure x:Option γ)=some x:=(rfl)
theorem z_len_cons {γ:Type} (a:γ) (l:List γ):(a :: l).length=l.length+1:=(rfl)
theorem z_len_nil {γ:Type}:([]:List γ).length=0:=(rfl)
theorem z_nil_app {γ:Type} (l:List γ):[]++l=l:=(rfl)
theorem z_cons_app {γ:Type} (a:γ) (l m:List γ):(a :: l)++m=a :: (l++m):=(rfl)
theorem z_take_succ {γ:Type} (a:γ) (l:List γ) (n:Nat):(a :: l).take (n+1)=a :: l.take n:=(rfl)
theorem z_take_zero {γ:Type} (l:List γ):l.take 0=[]:=(rfl)
theorem z_drop_succ {γ:Type} (a:γ) (l:List γ) (n:Nat):(a :: l).drop (n+1)=l.drop n:=(rfl)
theorem z_drop_zero {γ:Type} (l:List γ):l.drop 0=l:=(rfl)
theorem z_get_zero {γ:Type} (a:γ) (l:List γ):(a :: l)[0]?=some a:=(rfl)
theorem z_get_succ {γ:Type} (a:γ) (l:List γ) (n:Nat):(a :: l)[n+1]?=l[n]?:=(rfl)
theorem z_get_8 {γ:Type} (a0 a1 a2 a3 a4 a5 a6 a7:γ) (l:List γ) (n:Nat):(a0 :: a1 :: a2 :: a3 :: a4 :: a5 :: a6 :: a7 :: l)[n+8]?=l[n]?:=(rfl)
theorem z_getD_zero {γ:Type} (a:γ) (l:List γ) (d:γ):(a :: l).getD 0 d=a:=(rfl)
theorem z_getD_succ {γ:Type} (a:γ) (l:List γ) (n:Nat) (d:γ):(a :: l).getD (n+1) d=l.getD n d:=(rfl)
theorem z_getD_8 {γ:Type} (a0 a1 a2 a3 a4 a5 a6 a7:γ) (l:List γ) (n:Nat) (d:γ):(a0 :: a1 :: a2 :: a3 :: a4 :: a5 :: a6 :: a7 :: l).getD (n+8) d=l.getD n d:=(rfl)
theorem z_set_zero {γ:Type} (a x:γ) (l:List γ):(a :: l).set 0 x=x :: l:=(rfl)
theorem z_set_succ {γ:Type} (a x:γ) (l:List γ) (n:Nat):(a :: l).set (n+1) x=a :: l.set n x:=(rfl)
theorem z_set_8 {γ:Type} (a0 a1 a2 a3 a4 a5 a6 a7 x:γ) (l:List γ) (n:Nat):(a0 :: a1 :: a2 :: a3 :: a4 :: a5 :: a6 :: a7 :: l).set (n+8) x=a0 :: a1 :: a2 :: a3 :: a4 :: a5 :: a6 :: a7 :: l.set n x:=(rfl)
theorem z_mapM_nil {γ δ:Type} (f:γ→Option δ):([]:List γ).mapM f=some []:=(rfl)
theorem z_any_cons {γ:Type} (a:γ) (l:List γ) (p:γ→Bool):(a :: l).any p=(p a || l.any p):=(rfl)
theorem z_any_nil {γ:Type} (p:γ→Bool):([]:List γ).any p=false:=(rfl)
theorem z_all_cons {γ:Type} (a:γ) (l:List γ) (p:γ→Bool):(a :: l).all p=(p a&&l.all p):=(rfl)
theorem z_all_nil {γ:Type} (p:γ→Bool):([]:List γ).all p=true:=(rfl)
theorem z_foldl_cons {γ δ:Type} (f:δ→γ→δ) (b:δ) (a:γ) (l:List γ):(a :: l).foldl f b=l.foldl f (f b a):=(rfl)
theorem z_foldl_nil {γ δ:Type} (f:δ→γ→δ) (b:δ):([]:List γ).foldl f b=b:=(rfl)
theorem z_map_cons {γ δ:Type} (f:γ→δ) (a:γ) (l:List γ):(a :: l).map f=f a :: l.map f:=(rfl)
theorem z_map_nil {γ δ:Type} (f:γ→δ):([]:List γ).map f=[]:=(rfl)
theorem z_repl_zero {γ:Type} (a:γ):List.replicate 0 a=[]:=(rfl)
theorem z_repl_succ {γ:Type} (a:γ) (n:Nat):List.replicate (n+1) a=a :: List.replicate n a:=(rfl)
theorem dops_nil (st:St):dops env [] st=some st:=(rfl)
theorem dops_cons (o:VOp) (l:List VOp) (st:St):dops env (o :: l) st=(dop env o st).bind (dops env l):=(rfl)
theorem dop_grd {g:Nat} {w:Bool} {o:VOp} (st:St):dop env (.grd g w o) st=(match st.slots.getD g .any with
  |.pv (.bool b)=>bcase (b==w) (op1 (den env) env o st) (match dstOf o with
   |some d=>some (st.put d (.tup false []))
   |none=>some st)
  |.tup _ l=>bcase l.isEmpty (match dstOf o with
   |some d=>some (st.put d (.tup false []))
   |none=>some st) none
  |_=>none):=by
 unfold dop op
 simp only
 generalize st.slots.getD g .any=v
 cases v with
 |pv p =>
  cases p with
  |bool b=>cases b<;>cases w<;>rfl
  |_=>rfl
 |tup k l=>cases l<;>rfl
 |_=>rfl
theorem dop_pick {d c x y} (st:St):dop env (.pick d c x y) st=(match st.pvOf c with
  |some (.bool b)=>bcase b ((st.pvOf x).map fun v=>st.put d (.pv v)) ((st.pvOf y).map fun v=>st.put d (.pv v))
  |_=>none):=by
 show (st.pvOf c).bind _=_
 cases st.pvOf c with
 |none=>rfl
 |some v =>
  cases v<;>try rfl
  rename_i t
  cases t
  ·show (st.pvOf y).bind _=Option.map _ (st.pvOf y)
   cases st.pvOf y<;>rfl
  ·show (st.pvOf x).bind _=Option.map _ (st.pvOf x)
   cases st.pvOf x<;>rfl
def afterCall (d:Nat) (args:List Opd) (caps:List AV) (st:St) (fl:Bool) (rs:List Res):Option St :=
 some ((bcase (fl&&!(rs.all (·.1.scalar))) (caps.foldl (fun s v=>s.freezeArg1 (.c .void) v) (args.foldl St.freezeArg st)) st).layAll d rs)
theorem afterCall_false (d:Nat) (args:List Opd) (caps:List AV) (st:St) (rs:List Res):afterCall d args caps st false rs=some (st.layAll d rs):=by
 simp only [afterCall,Bool.false_and,bcase_false]
theorem afterCall_true (d:Nat) (args:List Opd) (caps:List AV) (st:St) (r:Res) (rs:List Res):afterCall d args caps st true (r :: rs)=bcase ((r :: rs).all (·.1.scalar)) (some (st.layAll d (r :: rs))) (some ((caps.foldl (fun s v=>s.freezeArg1 (.c .void) v) (args.foldl St.freezeArg st)).layAll d (r :: rs))):=by
 unfold afterCall
 rw [Bool.true_and]
 cases h:(r :: rs).all (·.1.scalar)<;>rfl
noncomputable def dcall (env:Env) (d f:Nat) (args:List Opd) (caps:List AV) (st:St):Option St :=
 (args.mapM fun x=>st.snapFn (st.get x)).bind fun l=>(caps.mapM st.snap).bind fun k=>(cal env f (l.map (·.1)++k.map (·.1))).bind (afterCall d args caps st (l.any (·.2) || k.any (·.2)))
noncomputable def dcallP (env:Env) (d f:Nat) (args:List Opd) (caps:List PV) (st:St):Option St :=
 (args.mapM fun x=>st.snapFn (st.get x)).bind fun l=>(cal env f (l.map (·.1)++caps)).bind (afterCall d args [] st (l.any (·.2)))
theorem snaps_pv (st:St):∀ caps:List PV,(caps.map AV.pv).mapM st.snap=some (caps.map fun v=>(v,false))
 |[]=>rfl
 |c :: l=>by
  rw [List.map_cons,List.mapM_cons,snaps_pv st l]
  rfl
theorem freeze_pv (st:St):∀ caps:List PV,(caps.map AV.pv).foldl (fun s v=>s.freezeArg1 (.c .void) v) st=st
 |[]=>rfl
 |c :: l=>freeze_pv st l
theorem dcall_eq (d f:Nat) (args:List Opd) (caps:List AV) (st:St):callOn (den env) env d f args caps st=dcall env d f args caps st:=by
 unfold callOn dcall
 show Option.bind _ _=Option.bind _ _
 congr 1;funext l
 show Option.bind _ _=Option.bind _ _
 congr 1;funext k
 show Option.bind _ _=Option.bind _ _
 congr 1;funext rs
 show some _=some _
 congr 2
 cases h:(l.any (·.2) || k.any (·.2))&&!(rs.all (·.1.scalar))<;>rfl
theorem dcallP_eq (d f:Nat) (args:List Opd) (caps:List PV) (st:St):dcall env d f args (caps.map .pv) st=dcallP env d f args caps st:=by
 unfold dcallP dcall
 congr 1;funext l
 rw [snaps_pv,Option.bind_some,List.map_map,List.any_map]
 have h1:(Prod.fst ∘ fun v:PV=>(v,false))=id:=rfl
 have h2:caps.any (Prod.snd ∘ fun v:PV=>(v,false))=false:=by
  induction caps with
  |nil=>rfl
  |cons c cs ih=>simp [List.any_cons,ih]
 rw [h1,List.map_id,h2,Bool.or_false]
 congr 1;funext rs
 unfold afterCall
 rw [freeze_pv]
 rfl
theorem dop_call {d f args} (st:St):dop env (.call d f args) st=dcallP env d f args [] st:=(dcall_eq ..).trans (dcallP_eq (caps:=[]) ..)
theorem op1_call {d f args} (st:St):op1 (den env) env (.call d f args) st=dcallP env d f args [] st:=(dcall_eq ..).trans (dcallP_eq (caps:=[]) ..)
noncomputable def dlin0 (env:Env) (d f:Nat) (x:Opd) (args:List Opd) (caps:List AV) (st:St):Option St :=
 (args.mapM fun x=>st.snapFn (st.get x)).bind fun l=>(caps.mapM st.snap).bind fun k=>(bcase (l.any (·.2) || k.any (·.2)) none (takeLin st x)).bind fun q=>(calL env f q.1 (l.map (·.1)++k.map (·.1))).bind fun r=>(backLin q.2.2 q.2.1 r.2).bind fun st2=>some (st2.layAll d r.1)
noncomputable def dlinP0 (env:Env) (d f:Nat) (x:Opd) (args:List Opd) (caps:List PV) (st:St):Option St :=
 (args.mapM fun x=>st.snapFn (st.get x)).bind fun l=>(bcase (l.any (·.2)) none (takeLin st x)).bind fun q=>(calL env f q.1 (l.map (·.1)++caps)).bind fun r=>(backLin q.2.2 q.2.1 r.2).bind fun st2=>some (st2.layAll d r.1)
theorem dlin0_eq (d f:Nat) (x:Opd) (args:List Opd) (caps:List AV) (st:St):callOnL0 (den env) env d f x args caps st=dlin0 env d f x args caps st:=by
 unfold callOnL0 dlin0
 congr 1;funext l
 congr 1;funext k
 congr 1
 cases h:(l.any (·.2) || k.any (·.2))<;>rfl
theorem dlinP0_eq (d f:Nat) (x:Opd) (args:List Opd) (caps:List PV) (st:St):dlin0 env d f x args (caps.map .pv) st=dlinP0 env d f x args caps st:=by
 unfold dlinP0 dlin0
 congr 1;funext l
 rw [snaps_pv,Option.bind_some,List.map_map,List.any_map]
 have h1:(Prod.fst ∘ fun v:PV=>(v,false))=id:=rfl
 have h2:caps.any (Prod.snd ∘ fun v:PV=>(v,false))=false:=by
  induction caps with
  |nil=>rfl
  |cons c cs ih=>simp [List.any_cons,ih]
 rw [h1,List.map_id,h2,Bool.or_false]
noncomputable def dlin (env:Env) (d f:Nat) (x:Opd) (args:List Opd) (caps:List AV) (st:St):Option St:=dlin0 env d f x args caps (args.foldl St.freezeArg st)
noncomputable def dlinP (env:Env) (d f:Nat) (x:Opd) (args:List Opd) (caps:List PV) (st:St):Option St:=dlinP0 env d f x args caps (args.foldl St.freezeArg st)
theorem dlin_eq (d f:Nat) (x:Opd) (args:List Opd) (caps:List AV) (st:St):callOnL (den env) env d f x args caps st=dlin env d f x args caps st:=dlin0_eq ..
theorem dlinP_eq (d f:Nat) (x:Opd) (args:List Opd) (caps:List PV) (st:St):dlin env d f x args (caps.map .pv) st=dlinP env d f x args caps st:=dlinP0_eq ..
theorem dop_lin {d f x args} (st:St):dop env (.lin d f x args) st=dlinP env d f x args [] st:=(dlin_eq ..).trans (dlinP_eq (caps:=[]) ..)
theorem op1_lin {d f x args} (st:St):op1 (den env) env (.lin d f x args) st=dlinP env d f x args [] st:=(dlin_eq ..).trans (dlinP_eq (caps:=[]) ..)
theorem dop_linv {d g x args} (st:St):dop env (.linv d g x args) st=(match st.get g with
  |.pv (.func f caps)=>dlinP env d f x args caps st
  |.fn f caps=>dlin env d f x args caps st
  |_=>none):=by
 show (match st.get g with
  |.pv (.func f caps)=>callOnL (den env) env d f x args (caps.map .pv) st
  |.fn f caps=>callOnL (den env) env d f x args caps st
  |_=>none)=_
 split<;>simp only [dlin_eq,dlinP_eq]
theorem op1_linv {d g x args} (st:St):op1 (den env) env (.linv d g x args) st=dop env (.linv d g x args) st:=(rfl)
theorem dop_callv {d x args} (st:St):dop env (.callv d x args) st=(match st.get x with
  |.pv (.func f caps)=>dcallP env d f args caps st
  |.fn f caps=>dcall env d f args caps st
  |_=>none):=by
 show (match st.get x with
  |.pv (.func f caps)=>callOn (den env) env d f args (caps.map .pv) st
  |.fn f caps=>callOn (den env) env d f args caps st
  |_=>none)=_
 split<;>simp only [dcall_eq,dcallP_eq]
theorem op1_callv {d x args} (st:St):op1 (den env) env (.callv d x args) st=dop env (.callv d x args) st:=(rfl)
theorem op1_pick {d c x y} (st:St):op1 (den env) env (.pick d c x y) st=dop env (.pick d c x y) st:=(rfl)
theorem dop_mov {d x} (st:St):dop env (.mov d x) st=plain (.mov d x) st:=(rfl)
theorem dop_asg {d x} (st:St):dop env (.asg d x) st=plain (.asg d x) st:=(rfl)
theorem dop_bin {d o x y} (st:St):dop env (.bin d o x y) st=plain (.bin d o x y) st:=(rfl)
theorem dop_eqa {d neg n x y} (st:St):dop env (.eqa d neg n x y) st=plain (.eqa d neg n x y) st:=(rfl)
theorem dop_eqm {d neg ks x y} (st:St):dop env (.eqm d neg ks x y) st=plain (.eqm d neg ks x y) st:=(rfl)
theorem dop_eqb {d neg x y} (st:St):dop env (.eqb d neg x y) st=plain (.eqb d neg x y) st:=(rfl)
theorem dop_isn {d neg x} (st:St):dop env (.isn d neg x) st=plain (.isn d neg x) st:=(rfl)
theorem dop_sl3 {d sz x h m} (st:St):dop env (.sl3 d sz x h m) st=plain (.sl3 d sz x h m) st:=(rfl)
theorem dop_cut {d sz x} (st:St):dop env (.cut d sz x) st=plain (.cut d sz x) st:=(rfl)
theorem dop_asl {d n x} (st:St):dop env (.asl d n x) st=plain (.asl d n x) st:=(rfl)
theorem dop_asz {d n sz x} (st:St):dop env (.asz d n sz x) st=plain (.asz d n sz x) st:=(rfl)
theorem dop_bldo {d z l q m} (st:St):dop env (.bldo d z l q m) st=plain (.bldo d z l q m) st:=(rfl)
theorem op1_bldo {d z l q m} (st:St):op1 (den env) env (.bldo d z l q m) st=plain (.bldo d z l q m) st:=(rfl)
theorem dop_bxw {d x} (st:St):dop env (.bxw d x) st=act (den env) env (.bxw d x) st:=(rfl)
theorem op1_bxw {d x} (st:St):op1 (den env) env (.bxw d x) st=act (den env) env (.bxw d x) st:=(rfl)
theorem dop_ldm {d n p} (st:St):dop env (.ldm d n p) st=plain (.ldm d n p) st:=(rfl)
theorem op1_ldm {d n p} (st:St):op1 (den env) env (.ldm d n p) st=plain (.ldm d n p) st:=(rfl)
theorem dop_stw {n p x} (st:St):dop env (.stw n p x) st=act (den env) env (.stw n p x) st:=(rfl)
theorem op1_stw {n p x} (st:St):op1 (den env) env (.stw n p x) st=act (den env) env (.stw n p x) st:=(rfl)
theorem dop_srt {d f x g} (st:St):dop env (.srt d f x g) st=act (den env) env (.srt d f x g) st:=(rfl)
theorem op1_srt {d f x g} (st:St):op1 (den env) env (.srt d f x g) st=act (den env) env (.srt d f x g) st:=(rfl)
theorem dop_mvz {d x} (st:St):dop env (.mvz d x) st=plain (.mvz d x) st:=(rfl)
theorem op1_mvz {d x} (st:St):op1 (den env) env (.mvz d x) st=plain (.mvz d x) st:=(rfl)
theorem dop_ldz {d n x} (st:St):dop env (.ldz d n x) st=plain (.ldz d n x) st:=(rfl)
theorem op1_asl {d n x} (st:St):op1 (den env) env (.asl d n x) st=plain (.asl d n x) st:=(rfl)
theorem op1_asz {d n sz x} (st:St):op1 (den env) env (.asz d n sz x) st=plain (.asz d n sz x) st:=(rfl)
theorem op1_ldz {d n x} (st:St):op1 (den env) env (.ldz d n x) st=plain (.ldz d n x) st:=(rfl)
theorem op1_isn {d neg x} (st:St):op1 (den env) env (.isn d neg x) st=plain (.isn d neg x) st:=(rfl)
theorem op1_sl3 {d sz x h m} (st:St):op1 (den env) env (.sl3 d sz x h m) st=plain (.sl3 d sz x h m) st:=(rfl)
theorem op1_cut {d sz x} (st:St):op1 (den env) env (.cut d sz x) st=plain (.cut d sz x) st:=(rfl)
theorem dop_un {d o x} (st:St):dop env (.un d o x) st=plain (.un d o x) st:=(rfl)
theorem dop_conv {d k x} (st:St):dop env (.conv d k x) st=plain (.conv d k x) st:=(rfl)
theorem dop_load {d n p} (st:St):dop env (.load d n p) st=plain (.load d n p) st:=(rfl)
theorem dop_fadr {d p off} (st:St):dop env (.fadr d p off) st=plain (.fadr d p off) st:=(rfl)
theorem dop_aadr {d p i len sz} (st:St):dop env (.aadr d p i len sz) st=plain (.aadr d p i len sz) st:=(rfl)
theorem dop_iadr {d sz x i} (st:St):dop env (.iadr d sz x i) st=plain (.iadr d sz x i) st:=(rfl)
theorem dop_fld {d x off n} (st:St):dop env (.fld d x off n) st=plain (.fld d x off n) st:=(rfl)
theorem dop_idx {d x i len sz n} (st:St):dop env (.idx d x i len sz n) st=plain (.idx d x i len sz n) st:=(rfl)
theorem dop_sli {d sz x lo hi} (st:St):dop env (.sli d sz x lo hi) st=plain (.sli d sz x lo hi) st:=(rfl)
theorem dop_len {d x} (st:St):dop env (.len d x) st=plain (.len d x) st:=(rfl)
theorem dop_lens {d x} (st:St):dop env (.lens d x) st=plain (.lens d x) st:=(rfl)
theorem dop_ext {d x i} (st:St):dop env (.ext d x i) st=plain (.ext d x i) st:=(rfl)
theorem dop_build {d z parts} (st:St):dop env (.build d z parts) st=plain (.build d z parts) st:=(rfl)
theorem dop_mn {d mx x y} (st:St):dop env (.mn d mx x y) st=plain (.mn d mx x y) st:=(rfl)
theorem dop_mkf {d f caps} (st:St):dop env (.mkf d f caps) st=plain (.mkf d f caps) st:=(rfl)
theorem dop_alloc {d z} (st:St):dop env (.alloc d z) st=act (den env) env (.alloc d z) st:=(rfl)
theorem dop_box {d x} (st:St):dop env (.box d x) st=act (den env) env (.box d x) st:=(rfl)
theorem dop_store {d n p x} (st:St):dop env (.store d n p x) st=act (den env) env (.store d n p x) st:=(rfl)
theorem dop_mksl {d sz parts} (st:St):dop env (.mksl d sz parts) st=act (den env) env (.mksl d sz parts) st:=(rfl)
theorem dop_make {d z n c} (st:St):dop env (.make d z n c) st=act (den env) env (.make d z n c) st:=(rfl)
theorem dop_app {d sz x y} (st:St):dop env (.app d sz x y) st=act (den env) env (.app d sz x y) st:=(rfl)
theorem dop_apf {d sz x y} (st:St):dop env (.apf d sz x y) st=act (den env) env (.apf d sz x y) st:=(rfl)
theorem dop_apb {d x y} (st:St):dop env (.apb d x y) st=act (den env) env (.apb d x y) st:=(rfl)
theorem dop_cpy {d sz x y} (st:St):dop env (.cpy d sz x y) st=act (den env) env (.cpy d sz x y) st:=(rfl)
theorem dop_yield {d x args} (st:St):dop env (.yield d x args) st=act (den env) env (.yield d x args) st:=(rfl)
theorem op1_mov {d x} (st:St):op1 (den env) env (.mov d x) st=plain (.mov d x) st:=(rfl)
theorem op1_asg {d x} (st:St):op1 (den env) env (.asg d x) st=plain (.asg d x) st:=(rfl)
theorem op1_bin {d o x y} (st:St):op1 (den env) env (.bin d o x y) st=plain (.bin d o x y) st:=(rfl)
theorem op1_eqa {d neg n x y} (st:St):op1 (den env) env (.eqa d neg n x y) st=plain (.eqa d neg n x y) st:=(rfl)
theorem op1_eqm {d neg ks x y} (st:St):op1 (den env) env (.eqm d neg ks x y) st=plain (.eqm d neg ks x y) st:=(rfl)
theorem op1_eqb {d neg x y} (st:St):op1 (den env) env (.eqb d neg x y) st=plain (.eqb d neg x y) st:=(rfl)
theorem op1_un {d o x} (st:St):op1 (den env) env (.un d o x) st=plain (.un d o x) st:=(rfl)
theorem op1_conv {d k x} (st:St):op1 (den env) env (.conv d k x) st=plain (.conv d k x) st:=(rfl)
theorem op1_load {d n p} (st:St):op1 (den env) env (.load d n p) st=plain (.load d n p) st:=(rfl)
theorem op1_fadr {d p off} (st:St):op1 (den env) env (.fadr d p off) st=plain (.fadr d p off) st:=(rfl)
theorem op1_aadr {d p i len sz} (st:St):op1 (den env) env (.aadr d p i len sz) st=plain (.aadr d p i len sz) st:=(rfl)
theorem op1_iadr {d sz x i} (st:St):op1 (den env) env (.iadr d sz x i) st=plain (.iadr d sz x i) st:=(rfl)
theorem op1_fld {d x off n} (st:St):op1 (den env) env (.fld d x off n) st=plain (.fld d x off n) st:=(rfl)
theorem op1_idx {d x i len sz n} (st:St):op1 (den env) env (.idx d x i len sz n) st=plain (.idx d x i len sz n) st:=(rfl)
theorem op1_sli {d sz x lo hi} (st:St):op1 (den env) env (.sli d sz x lo hi) st=plain (.sli d sz x lo hi) st:=(rfl)
theorem op1_len {d x} (st:St):op1 (den env) env (.len d x) st=plain (.len d x) st:=(rfl)
theorem op1_lens {d x} (st:St):op1 (den env) env (.lens d x) st=plain (.lens d x) st:=(rfl)
theorem op1_ext {d x i} (st:St):op1 (den env) env (.ext d x i) st=plain (.ext d x i) st:=(rfl)
theorem op1_build {d z parts} (st:St):op1 (den env) env (.build d z parts) st=plain (.build d z parts) st:=(rfl)
theorem op1_mn {d mx x y} (st:St):op1 (den env) env (.mn d mx x y) st=plain (.mn d mx x y) st:=(rfl)
theorem op1_mkf {d f caps} (st:St):op1 (den env) env (.mkf d f caps) st=plain (.mkf d f caps) st:=(rfl)
theorem op1_alloc {d z} (st:St):op1 (den env) env (.alloc d z) st=act (den env) env (.alloc d z) st:=(rfl)
theorem op1_box {d x} (st:St):op1 (den env) env (.box d x) st=act (den env) env (.box d x) st:=(rfl)
theorem op1_store {d n p x} (st:St):op1 (den env) env (.store d n p x) st=act (den env) env (.store d n p x) st:=(rfl)
theorem op1_mksl {d sz parts} (st:St):op1 (den env) env (.mksl d sz parts) st=act (den env) env (.mksl d sz parts) st:=(rfl)
theorem op1_make {d z n c} (st:St):op1 (den env) env (.make d z n c) st=act (den env) env (.make d z n c) st:=(rfl)
theorem op1_app {d sz x y} (st:St):op1 (den env) env (.app d sz x y) st=act (den env) env (.app d sz x y) st:=(rfl)
theorem op1_apf {d sz x y} (st:St):op1 (den env) env (.apf d sz x y) st=act (den env) env (.apf d sz x y) st:=(rfl)
theorem op1_apb {d x y} (st:St):op1 (den env) env (.apb d x y) st=act (den env) env (.apb d x y) st:=(rfl)
theorem op1_cpy {d sz x y} (st:St):op1 (den env) env (.cpy d sz x y) st=act (den env) env (.cpy d sz x y) st:=(rfl)
theorem op1_yield {d x args} (st:St):op1 (den env) env (.yield d x args) st=act (den env) env (.yield d x args) st:=(rfl)
theorem killS_pv (d:Nat) (v:PV):AV.kill d (.pv v)=.pv v:=(rfl)
theorem killS_any (d:Nat):AV.kill d .any=.any:=(rfl)
theorem killS_row (d sz:Nat) (es:List PV):AV.kill d (.row sz es)=.row sz es:=(rfl)
theorem killS_pbox (d o j:Nat):AV.kill d (.pbox o j)=.pbox o j:=(rfl)
theorem killS_fn (d f:Nat) (l:List AV):AV.kill d (.fn f l)=.fn f l:=(rfl)
theorem killS_ful (d s:Nat) (l:List PV):AV.kill d (.ful s l)=.ful s l:=(rfl)
theorem killS_tup (d:Nat) (k:Bool) (l:List AV):AV.kill d (.tup k l)=.tup k l:=(rfl)
theorem killS_yld (d:Nat):AV.kill d .yld=.yld:=(rfl)
theorem killS_refs (d t off len:Nat):AV.kill d (.ref (.slot t) off len)=bcase (decide (t=d)) .any (.ref (.slot t) off len):=by
 by_cases h:t=d<;>simp [AV.kill,AV.roots,h,bcase]
theorem killS_refc (d o j off len:Nat):AV.kill d (.ref (.cell o j) off len)=.ref (.cell o j) off len:=(rfl)
theorem killS_pels (d t i j:Nat):AV.kill d (.pel (.slot t) i j)=bcase (decide (t=d)) .any (.pel (.slot t) i j):=by
 by_cases h:t=d<;>simp [AV.kill,AV.roots,h,bcase]
theorem killS_pelc (d o q i j:Nat):AV.kill d (.pel (.cell o q) i j)=.pel (.cell o q) i j:=(rfl)
theorem killc_pv (d:Nat) (v:PV):AV.killCell d (.pv v)=.pv v:=(rfl)
theorem killc_any (d:Nat):AV.killCell d .any=.any:=(rfl)
theorem killc_row (d sz:Nat) (es:List PV):AV.killCell d (.row sz es)=.row sz es:=(rfl)
theorem killc_pbox (d o j:Nat):AV.killCell d (.pbox o j)=.pbox o j:=(rfl)
theorem killc_fn (d f:Nat) (l:List AV):AV.killCell d (.fn f l)=.fn f l:=(rfl)
theorem killc_ful (d s:Nat) (l:List PV):AV.killCell d (.ful s l)=.ful s l:=(rfl)
theorem killc_tup (d:Nat) (k:Bool) (l:List AV):AV.killCell d (.tup k l)=.tup k l:=(rfl)
theorem killc_yld (d:Nat):AV.killCell d .yld=.yld:=(rfl)
theorem killc_refc (d t j off len:Nat):AV.killCell d (.ref (.cell t j) off len)=bcase (decide (t=d)) .any (.ref (.cell t j) off len):=by
 by_cases h:t=d<;>simp [AV.killCell,AV.rootsCell,h,bcase]
theorem killc_refs (d t off len:Nat):AV.killCell d (.ref (.slot t) off len)=.ref (.slot t) off len:=(rfl)
theorem killc_pelc (d t q i j:Nat):AV.killCell d (.pel (.cell t q) i j)=bcase (decide (t=d)) .any (.pel (.cell t q) i j):=by
 by_cases h:t=d<;>simp [AV.killCell,AV.rootsCell,h,bcase]
theorem killc_pels (d t i j:Nat):AV.killCell d (.pel (.slot t) i j)=.pel (.slot t) i j:=(rfl)
theorem killa_pv (d y:Nat) (v:PV):AV.killAt d y (.pv v)=.pv v:=(rfl)
theorem killa_any (d y:Nat):AV.killAt d y .any=.any:=(rfl)
theorem killa_row (d y sz:Nat) (es:List PV):AV.killAt d y (.row sz es)=.row sz es:=(rfl)
theorem killa_pbox (d y o j:Nat):AV.killAt d y (.pbox o j)=.pbox o j:=(rfl)
theorem killa_fn (d y f:Nat) (l:List AV):AV.killAt d y (.fn f l)=.fn f l:=(rfl)
theorem killa_ful (d y s:Nat) (l:List PV):AV.killAt d y (.ful s l)=.ful s l:=(rfl)
theorem killa_tup (d y:Nat) (k:Bool) (l:List AV):AV.killAt d y (.tup k l)=.tup k l:=(rfl)
theorem killa_yld (d y:Nat):AV.killAt d y .yld=.yld:=(rfl)
theorem killa_refc (d y t j off len:Nat):AV.killAt d y (.ref (.cell t j) off len)=bcase (decide (t=d)) (bcase (decide (j=y)) .any (.ref (.cell t j) off len)) (.ref (.cell t j) off len):=by
 by_cases h:t=d<;>by_cases h2:j=y<;>simp [AV.killAt,AV.rootsAt,h,h2,bcase]
theorem killa_refs (d y t off len:Nat):AV.killAt d y (.ref (.slot t) off len)=.ref (.slot t) off len:=(rfl)
theorem killa_pelc (d y t q i j:Nat):AV.killAt d y (.pel (.cell t q) i j)=bcase (decide (t=d)) (bcase (decide (q=y)) .any (.pel (.cell t q) i j)) (.pel (.cell t q) i j):=by
 by_cases h:t=d<;>by_cases h2:q=y<;>simp [AV.killAt,AV.rootsAt,h,h2,bcase]
theorem killa_pels (d y t i j:Nat):AV.killAt d y (.pel (.slot t) i j)=.pel (.slot t) i j:=(rfl)
theorem take_map_all {γ δ:Type} (f:γ→δ) (l:List γ):(l.map f).take l.length=l.map f:=List.take_of_length_le (by simp)
theorem scal_int (k:IntKind) (n:Int):(PV.int k n).scalar=true:=(rfl)
theorem scal_bool (b:Bool):(PV.bool b).scalar=true:=(rfl)
theorem scal_str (b:ByteArray):(PV.str b).scalar=true:=(rfl)
theorem scal_list (sz:Nat) (es:List PV):(PV.list sz es).scalar=false:=(rfl)
theorem scal_func (f:Nat) (es:List PV):(PV.func f es).scalar=false:=(rfl)
theorem cells_int (k:IntKind) (n:Int):(PV.int k n).cells=[.int k n]:=(rfl)
theorem cells_bool (b:Bool):(PV.bool b).cells=[.bool b]:=(rfl)
theorem cells_str (b:ByteArray):(PV.str b).cells=[.str b]:=(rfl)
theorem cells_list (sz:Nat) (es:List PV):(PV.list sz es).cells=[.list sz es]:=(rfl)
theorem cells_func (f:Nat) (es:List PV):(PV.func f es).cells=[.func f es]:=(rfl)
theorem cells_agg (cs:List PV):(PV.agg cs).cells=cs:=(rfl)
theorem part_one (c:PV) (cs:List PV):part (c :: cs) 0 none=some c:=(rfl)
theorem part_succ (c:PV) (cs:List PV) (n:Nat) (m:Option Nat):part (c :: cs) (n+1) m=part cs n m:=by
 cases m with
 |none=>rfl
 |some m =>
  simp only [part,List.length_cons,List.drop_succ_cons]
  by_cases h:n+m≤cs.length
  ·rw [if_pos h,if_pos (by omega)]
  ·rw [if_neg h,if_neg (by omega)]
theorem part_more (c:PV) (cs:List PV) (m:Nat):part (c :: cs) 0 (some m)=if m≤(c :: cs).length then some (.agg ((c :: cs).take m)) else none:=by
 simp only [part,Nat.zero_add,List.drop_zero]
theorem i64_fits {n:Int} (h:-9223372036854775808≤n∧n≤9223372036854775807):IntKind.i64.wrap n=n:=Go.IntWalk.i64_in n h
theorem i64_next {i n:Nat} (h:i<n) (hn:n≤lim):IntKind.i64.wrap ((i:Int)+1)=((i+1:Nat):Int):=by
 unfold lim at hn
 rw [Go.IntWalk.i64_in _ (by omega)]
 omega
theorem index_nat {k:IntKind} {i n:Nat} (h:i<n):index (.int k (i:Int)) n=some i:=by
 simp only [index]
 rw [if_pos (by omega)]
 simp
theorem index_b (k:IntKind) (i:Int) (n:Nat):index (.int k i) n=bcase (decide (0≤i∧i<n)) (some i.toNat) none:=by
 simp only [index]
 by_cases h:0≤i∧i<n
 ·rw [if_pos h,decide_eq_true h];rfl
 ·rw [if_neg h,decide_eq_false h];rfl
theorem index_int {k:IntKind} {i:Int} {n:Nat} (h0:0≤i) (h:i<n):index (.int k i) n=some i.toNat:=by
 simp only [index]
 rw [if_pos ⟨h0,h⟩]
end
end Go.Proofs.YtpcncggjmabnaaaGreatDoor

namespace Go.Proofs.YtpcncggjmabnaaaGreatDoor
open V
def cloneX (n:Nat):List PV→Option (List Res)
 |[.list sz es]=>if sz=n∧es.length≤lim then some [(.list sz es,true)] else none
 |_=>none
def decU8:PV→Option UInt8
 |.int .u8 n=>if 0≤n∧n<256 then some (UInt8.ofNat n.toNat) else none
 |_=>none
def decAll {α:Type} (f:PV→Option α):List PV→Option (List α)
 |[]=>some []
 |p :: l=>match f p with
  |some x=>match decAll f l with
   |some xs=>some (x :: xs)
   |none=>none
  |none=>none
def decSec:PV→Option Sec
 |.agg cs=>match decAll decU8 cs with
  |some l=>if h:l.length=8 then some ⟨l.toArray,by simpa using h⟩ else none
  |none=>none
 |_=>none
def decSecs:PV→Option (List Sec)
 |.list 8 es=>decAll decSec es
 |_=>none
def i64b (n:Int):Bool:=decide (-9223372036854775808≤n)&&decide (n≤9223372036854775807)
def decWr:PV→Option Wrt
 |.agg [.int .i64 v,.int .i64 s,d]=>match decSecs d with
  |some d=>if i64b v&&i64b s then some ⟨v,s,d⟩ else none
  |none=>none
 |_=>none
theorem decU8_eq {p:PV} {x:UInt8} (h:decU8 p=some x):p=.int .u8 (x.toNat:Int):=by
 unfold decU8 at h
 split at h
 case h_2=>cases h
 rename_i n
 split at h
 case isFalse=>cases h
 cases h
 rw [UInt8.toNat_ofNat_of_lt' (show n.toNat<2 ^ 8 by omega)]
 congr 1;omega
theorem decU8_enc (x:UInt8):decU8 (.int .u8 (x.toNat:Int))=some x:=by
 have:=x.toNat_lt
 unfold decU8
 simp only
 rw [if_pos (by omega)]
 simp
theorem decAll_eq {α:Type} {f:PV→Option α} {enc:α→PV} (hf:∀ p x,f p=some x→p=enc x):∀ {l:List PV} {xs:List α},decAll f l=some xs→l=xs.map enc
 |[],_,h=>by cases h;rfl
 |p :: l,xs,h=>by
  unfold decAll at h
  split at h
  case h_2=>cases h
  rename_i x hx
  split at h
  case h_2=>cases h
  rename_i ys hy
  cases h
  rw [List.map_cons,← hf p x hx,← decAll_eq hf hy]
theorem decAll_enc {α:Type} {f:PV→Option α} {enc:α→PV}:∀ {l:List α},(∀ x∈l,f (enc x)=some x)→decAll f (l.map enc)=some l
 |[],_=>rfl
 |x :: l,h=>by
  simp only [List.map_cons,decAll,h x (by simp),decAll_enc (l:=l) fun y hy=>h y (by simp [hy])]
theorem decSec_eq {p:PV} {x:Sec} (h:decSec p=some x):p=eSec x:=by
 unfold decSec at h
 split at h
 case h_2=>cases h
 rename_i cs
 split at h
 case h_2=>cases h
 rename_i l hl
 split at h
 case isFalse=>cases h
 rename_i h8
 cases h
 rw [decAll_eq (fun p x=>decU8_eq) hl]
 simp [eSec,secPV,Vector.toList]
theorem decSec_enc (x:Sec):decSec (eSec x)=some x:=by
 unfold decSec eSec secPV
 simp only
 rw [decAll_enc (f:=decU8) (enc:=fun b:UInt8=>.int .u8 (b.toNat:Int)) fun b _=>decU8_enc b]
 simp
 rfl
theorem decSecs_eq {p:PV} {x:List Sec} (h:decSecs p=some x):p=eSecs x:=by
 unfold decSecs at h
 split at h
 case h_2=>cases h
 rw [decAll_eq (fun p x=>decSec_eq) h];rfl
theorem decSecs_enc (x:List Sec):decSecs (eSecs x)=some x:=by
 unfold decSecs eSecs
 simp only
 exact decAll_enc fun x _=>decSec_enc x
theorem decWr_eq {p:PV} {x:Wrt} (h:decWr p=some x):p=eWr x:=by
 unfold decWr at h
 split at h
 case h_2=>cases h
 split at h
 case h_2=>cases h
 rename_i d hd
 split at h
 case isFalse=>cases h
 cases h
 have:=decSecs_eq hd
 rw [this];rfl
theorem decWr_ok {p:PV} {x:Wrt} (h:decWr p=some x):i64b x.volume=true∧i64b x.start=true:=by
 unfold decWr at h
 split at h
 case h_2=>cases h
 split at h
 case h_2=>cases h
 split at h
 case isFalse=>cases h
 rename_i hc
 cases h
 simpa using hc
theorem decWr_enc (x:Wrt) (h1:i64b x.volume=true) (h2:i64b x.start=true):decWr (eWr x)=some x:=by
 have:=decSecs_enc x.data
 unfold eSecs at this
 simp only [decWr,eWr,this,h1,h2,Bool.and_self,if_true]
def szErr (l:List Int):Int:=if l.length<1∨8<l.length then 6 else if l.any (fun n=>decide (n<1) || decide (n > 4096)) then 2 else 0
def szsOf (im:List (List Sec)):List Int:=im.map fun v=>(v.length:Int)
def wrErr (sz:List Int) (w:Wrt):Int :=
 if w.volume<0∨(sz.length:Int)≤w.volume then 7 else if w.data.length=0 then 1
 else if w.start<0∨(sz.getD w.volume.toNat 0) - w.data.length<w.start then 2 else 0
def putAt (l:List Sec) (s:Nat) (d:List Sec):List Sec:=l.take s++d++l.drop (s+d.length)
def put1 (im:List (List Sec)) (w:Wrt):List (List Sec):=im.set w.volume.toNat (putAt (im.getD w.volume.toNat []) w.start.toNat w.data)
def wrErrs (sz:List Int):List Wrt→Nat→Int × Int
 |[],_=>(0,0)
 |w :: l,i=>if wrErr sz w≠0 then (i,wrErr sz w) else wrErrs sz l (i+1)
def apE (im:List (List Sec)) (l:List Wrt):Int:=if szErr (szsOf im)≠0 then szErr (szsOf im) else (wrErrs (szsOf im) l 0).2
def apI (im:List (List Sec)) (l:List Wrt):Int:=if szErr (szsOf im)≠0 then 0 else (wrErrs (szsOf im) l 0).1
def apO (im:List (List Sec)) (l:List Wrt):List (List Sec):=if apE im l=0 then l.foldl put1 im else []
def applyX:List PV→Option (List Res)
 |[.list 1 im,.list 3 l]=>match decAll decSecs im with
  |some im=>match decAll decWr l with
   |some l=>if im.length≤1000000∧im.all (fun v=>decide (v.length≤1000000))=true then some [(.list 1 ((apO im l).map eSecs),false),(.int .i64 (apI im l),false),(.int .i64 (apE im l),false)] else none
   |none=>none
  |none=>none
 |_=>none
theorem applyX_eq {args:List PV} {rs:List Res} (h:applyX args=some rs):∃ (im:List (List Sec)) (l:List Wrt),args=[.list 1 (im.map eSecs),.list 3 (l.map eWr)]∧(∀ w∈l,i64b w.volume=true∧i64b w.start=true)∧im.length≤1000000∧(∀ v∈im,v.length≤1000000) ∧
  rs=[(.list 1 ((apO im l).map eSecs),false),(.int .i64 (apI im l),false),(.int .i64 (apE im l),false)]:=by
 unfold applyX at h
 split at h
 case h_2=>cases h
 split at h
 case h_2=>cases h
 rename_i im hi
 split at h
 case h_2=>cases h
 rename_i l hl
 split at h
 case isFalse=>cases h
 rename_i hc
 cases h
 refine ⟨im,l,by rw [decAll_eq (fun p x=>decSecs_eq) hi,decAll_eq (fun p x=>decWr_eq) hl],?_,hc.1,fun v hv=>by simpa using List.all_eq_true.1 hc.2 v hv,rfl⟩
 have:∀ {q:List PV} {xs:List Wrt},decAll decWr q=some xs→∀ w∈xs,i64b w.volume=true∧i64b w.start=true:=by
  intro q
  induction q with
  |nil=>intro xs h;cases h;simp
  |cons p q ih =>
   intro xs h
   unfold decAll at h
   split at h
   case h_2=>cases h
   rename_i x hx
   split at h
   case h_2=>cases h
   rename_i ys hy
   cases h
   simp only [List.mem_cons,forall_eq_or_imp]
   exact ⟨decWr_ok hx,ih hy⟩
 exact this hl
theorem applyX_enc {im:List (List Sec)} {l:List Wrt} (h1:∀ w∈l,i64b w.volume=true∧i64b w.start=true) (h2:im.length≤1000000) (h3:∀ v∈im,v.length≤1000000) :
  applyX [.list 1 (im.map eSecs),.list 3 (l.map eWr)]=some [(.list 1 ((apO im l).map eSecs),false),(.int .i64 (apI im l),false),(.int .i64 (apE im l),false)]:=by
 simp only [applyX]
 rw [decAll_enc fun x _=>decSecs_enc x,decAll_enc fun x hx=>decWr_enc x (h1 x hx).1 (h1 x hx).2]
 simp only
 rw [if_pos ⟨h2,List.all_eq_true.2 fun v hv=>by simpa using h3 v hv⟩]
end Go.Proofs.YtpcncggjmabnaaaGreatDoor

namespace Go.Proofs.YtpcncggjmabnaaaGreatDoor
structure End where
 pos:Nat
 list:Nat
 step:Int
 deriving DecidableEq,Inhabited
def eEnd (e:End):PV:=.agg [.int .i64 (e.pos:Int),.int .i64 (e.list:Int),.int .i64 e.step]
def decEnd:PV→Option End
 |.agg [.int .i64 a,.int .i64 b,.int .i64 c]=>if 0≤a∧0≤b then some ⟨a.toNat,b.toNat,c⟩ else none
 |_=>none
theorem decEnd_enc (e:End):decEnd (eEnd e)=some e:=by
 simp [decEnd,eEnd]
theorem decEnd_eq {p:PV} {e:End} (h:decEnd p=some e):p=eEnd e:=by
 unfold decEnd at h
 split at h
 ·split at h
  ·rename_i hc
   cases h
   simp only [eEnd,Int.toNat_of_nonneg hc.1,Int.toNat_of_nonneg hc.2]
  ·cases h
 ·cases h
def ltEnd (x y:End):Bool:=decide (x.pos<y.pos)
def sortE (l:List End):List End:=(Sort.pdq ltEnd l.toArray 0 l.length (Lib.bitLen l.length) true true).toList
def sortEndsX (g:Nat):PV→List PV→Option (List PV)
 |.func f [],es=>if f=g then if es.length≤1000000 then (decAll decEnd es).map fun l=>(sortE l).map eEnd else none else none
 |_,_=>none
theorem sortEndsX_enc {g:Nat} {l:List End} (h:l.length≤1000000):sortEndsX g (.func g []) (l.map eEnd)=some ((sortE l).map eEnd):=by
 unfold sortEndsX
 simp only [if_true,List.length_map,h]
 rw [decAll_enc fun x _=>decEnd_enc x]
 rfl
theorem sortEndsX_eq {g:Nat} {c:PV} {es es':List PV} (h:sortEndsX g c es=some es'):∃ l:List End,c=.func g []∧es=l.map eEnd∧l.length≤1000000∧es'=(sortE l).map eEnd:=by
 unfold sortEndsX at h
 split at h
 ·split at h
  ·rename_i hg
   split at h
   ·rename_i hl
    obtain ⟨l,h1,h2⟩:=Option.map_eq_some_iff.1 h
    have:=decAll_eq (fun p x h=>decEnd_eq h) h1
    subst this
    exact ⟨l,by rw [hg],rfl,by simpa using hl,h2.symm⟩
   ·cases h
  ·cases h
 ·cases h
end Go.Proofs.YtpcncggjmabnaaaGreatDoor

namespace Go.Proofs
open Go.Shelf
def Tryz.tz_ren:Go.Shelf.Ren:=⟨fun|29=>126|n=>n,fun|22=>134|3=>3|4=>4|25=>176|54=>185|0=>0|5=>5|n=>n,fun|1=>0|n=>n⟩
theorem Tryz.tz:Go.Proofs.Lays7.n29 Tryz.prog Tryz.tz_ren:={
 mixed:=by kernel_rfl
 f29:=Tryz.func126.trans (congrArg some (by kernel_rfl))
 t0:=Tryz.underlying0
 a0:=Tryz.isAgg0
 z0:=Tryz.sizeOf0
 v0:=Tryz.zeroValue0
 i0:=by kernel_rfl
 t3:=Tryz.underlying3
 a3:=Tryz.isAgg3
 z3:=Tryz.sizeOf3
 v3:=Tryz.zeroValue3
 i3:=by kernel_rfl
 t4:=Tryz.underlying4
 a4:=Tryz.isAgg4
 z4:=Tryz.sizeOf4
 v4:=Tryz.zeroValue4
 i4:=by kernel_rfl
 t5:=Tryz.underlying5
 a5:=Tryz.isAgg5
 z5:=Tryz.sizeOf5
 v5:=Tryz.zeroValue5
 i5:=by kernel_rfl
 t22:=Tryz.underlying134
 a22:=Tryz.isAgg134
 z22:=Tryz.sizeOf134
 v22:=Tryz.zeroValue134
 i22:=by kernel_rfl
 t25:=Tryz.underlying176
 a25:=Tryz.isAgg176
 z25:=Tryz.sizeOf176
 v25:=Tryz.zeroValue176
 i25:=by kernel_rfl
 t54:=Tryz.underlying185
 a54:=Tryz.isAgg185
 z54:=Tryz.sizeOf185
 g1:=by kernel_rfl }
end Go.Proofs

namespace Go.Proofs.YtpcncggjmabnaaaGreatDoor
open Go.RowKit Go.Shelf
def tzX:List PV→Option (List Res)
 |[.int .u64 n]=>if 0≤n∧n<18446744073709551616 then some [(.int .i64 (Lib.ctz 64 n.toNat:Nat),false)] else none
 |_=>none
theorem tab_at {T:Tags} {w:World} (h:GlobOk T w):TabAt 0 Lib.deBruijn64tab w:=fun j hj=>by
 have hp:=h _ (List.mem_singleton.2 rfl)
 obtain ⟨b,off,e1,_,_,h3⟩:=hp.iptr_inv
 obtain ⟨eb,eo⟩:0=b∧0=off+0:=by
  injection e1 with e1
  injection e1 with e1
  injection e1 with e2 e3
  exact ⟨e2,e3⟩
 have eo:off=0:=by omega
 subst eb;subst eo
 obtain ⟨u,c1,_,c2⟩:=h3 j (PV.int .u8 ((Lib.deBruijn64tab[j]:Nat):Int)) (by simp [List.getElem?_eq_getElem hj])
 rw [c2.int_inv] at c1
 rw [show Lib.deBruijn64tab.getD j 0=Lib.deBruijn64tab[j] by simp [List.getD_eq_getElem?_getD,List.getElem?_eq_getElem hj]]
 simpa using c1
theorem tz_ok:∀ args rs,tzX args=some rs→callable Tryz.prog 126=true∧CallOk Tryz.prog 126 args rs:=fun args rs h=>by
 unfold tzX at h
 split at h
 case h_2=>cases h
 rename_i n
 split at h
 case isFalse=>cases h
 rename_i hn
 cases h
 refine ⟨by kernel_rfl,fun T0 w vs h1 h2 h3 h4 hG=>?_⟩
 match vs,h3 with
 |[v],_ =>
  have hv:=(h4 0 _ v rfl rfl).int_inv
  subst hv
  have hc:=Any7.bits_TrailingZeros64 Tryz.tz n.toNat (by omega) w (fun _=>tab_at hG)
  rw [Int.toNat_of_nonneg hn.1] at hc
  refine Calls.mono hc ?_
  rintro e w' ⟨rfl,rfl⟩
  refine ⟨_,T0,rfl,Below.refl _ _,fun _ _=>rfl,h2,#[_],rfl,rfl,fun i r u hr hu=>?_⟩
  match i with
  |0=>cases hr;cases hu;exact .int _ _
  |i+1=>simp at hr
end Go.Proofs.YtpcncggjmabnaaaGreatDoor

namespace Go.Proofs.YtpcncggjmabnaaaGreatDoor
def inX (s c:Int) (t:Nat):Bool:=decide (0<c)&&(decide (s≤(t:Int))&&decide ((t:Int)<s+c))
def decB:PV→Option Bool
 |.bool b=>some b
 |_=>none
theorem decB_eq {p:PV} {x:Bool} (h:decB p=some x):p=V.eB x:=by
 unfold decB at h
 split at h
 ·cases h;rfl
 ·cases h
def markX (s c:Int) (m:List Bool):List Bool:=m.mapIdx fun t u=>u || inX s c t
def addX:PV→List PV→Option (List PV)
 |.agg [.int .i64 s,.int .i64 c],es=>if (i64b s&&i64b c)=true∧es≠[]∧es.length≤4096 then (decAll decB es).map fun m=>(markX s c m).map V.eB else none
 |_,_=>none
theorem addX_enc {s c:Int} {m:List Bool} (h1:i64b s=true) (h2:i64b c=true) (h3:m≠[]) (h4:m.length≤4096):addX (.agg [.int .i64 s,.int .i64 c]) (m.map V.eB)=some ((markX s c m).map V.eB):=by
 unfold addX
 simp only
 rw [if_pos ⟨by rw [h1,h2];rfl,by simpa using h3,by simpa using h4⟩,decAll_enc (f:=decB) (enc:=V.eB) fun x _=>rfl]
 rfl
theorem addX_eq {p:PV} {es es':List PV} (h:addX p es=some es'):∃ (s c:Int) (m:List Bool),p=.agg [.int .i64 s,.int .i64 c]∧es=m.map V.eB∧i64b s=true∧i64b c=true∧m≠[]∧m.length≤4096∧es'=(markX s c m).map V.eB:=by
 unfold addX at h
 split at h
 ·rename_i s c
  split at h
  ·rename_i hc
   obtain ⟨m,h1,h2⟩:=Option.map_eq_some_iff.1 h
   have:=decAll_eq (fun p x h=>decB_eq h) h1
   subst this
   simp only [Bool.and_eq_true] at hc
   exact ⟨s,c,m,rfl,rfl,hc.1.1,hc.1.2,fun e=>hc.2.1 (by rw [e];rfl),by simpa using hc.2.2,h2.symm⟩
  ·cases h
 ·cases h
end Go.Proofs.YtpcncggjmabnaaaGreatDoor

namespace Go.Proofs.YtpcncggjmabnaaaGreatDoor
def fn8_b0:VCode:=(.seq (.seq (.ops [.mov 44 (.t 14),.mov 45 (.t 8),.bin 46 .lss (.t 44) (.t 45),.mov 47 (.t 46),.grd 47 true (.fadr 48 (.t 13) 11),.grd 47 true (.load 49 none (.t 48)),.pick 50 (.t 47) (.t 49) (.c (.bool false))]) (.cond (.t 50) .skip (.exit 0))) (.seq (.block 1 (.seq (.ops [.build 53 [(.int .u8 0),(.int .u8 0),(.list 3 [])] [],.alloc 15 [(.int .u8 0),(.int .u8 0),(.list 3 [])],.store none 3 (.t 15) (.t 53)]) (.seq (.seq (.ops [.mov 54 (.t 14),.mov 55 (.t 2),.len 56 (.t 55),.bin 57 .lss (.t 54) (.t 56)]) (.cond (.t 57) (.ops [.mov 58 (.t 2),.mov 59 (.t 14),.iadr 60 3 (.t 58) (.t 59),.load 61 (some 3) (.t 60),.store none 3 (.t 15) (.t 61)]) .skip)) (.seq (.ops [.load 62 (some 12) (.t 13),.load 63 (some 3) (.t 15),.call 64 32 [(.t 62),(.t 63)],.store none 12 (.t 13) (.t 64)]) (.seq (.ops [.fadr 65 (.t 13) 2,.fadr 66 (.t 65) 3,.load 67 none (.t 66),.mov 68 (.t 14),.mov 69 (.t 7),.bin 70 .geq (.t 68) (.t 69),.eqb 71 true (.t 67) (.t 70),.mov 72 (.t 71),.grd 72 false (.fadr 73 (.t 13) 2),.grd 72 false (.fadr 74 (.t 73) 3),.grd 72 false (.load 75 none (.t 74)),.grd 72 false (.un 76 .not (.t 75)),.grd 72 false (.mov 77 (.t 76)),.grd 77 true (.fadr 78 (.t 13) 2),.grd 77 true (.fadr 79 (.t 78) 2),.grd 77 true (.load 80 none (.t 79)),.grd 77 true (.len 81 (.t 80)),.grd 77 true (.mov 82 (.t 14)),.grd 77 true (.bin 83 .add (.t 82) (.c (.int .i64 1))),.grd 77 true (.bin 84 .neq (.t 81) (.t 83)),.grd 72 false (.pick 85 (.t 77) (.t 84) (.c (.bool false))),.pick 86 (.t 72) (.c (.bool true)) (.t 85)]) (.cond (.t 86) (.seq (.ops [.asg 6 (.c (.bool false))]) .ret) .skip)))))) (.ops [.mov 51 (.t 14),.bin 52 .add (.t 51) (.c (.int .i64 1)),.asg 14 (.t 52)])))
def fn8_l1:VCode :=
(.clean [2,7,8,13,14] [6,13] (.block 0 (.loop [2,7,8,13,14] fn8_b0)))
def fn8:VFn:=⟨3,98,[.tmp 6],(.seq (.ops [.asg 6 (.c (.bool false))]) (.seq (.seq (.ops [.mov 16 (.t 2),.call 17 28 [(.t 16)],.un 18 .not (.t 17)]) (.cond (.t 18) (.seq (.ops [.call 19 10 [],.asg 6 (.t 19)]) .ret) .skip)) (.seq (.ops [.mov 20 (.t 0),.conv 21 .i64 (.t 20),.bin 22 .rem (.t 21) (.c (.int .i64 6)),.bin 23 .add (.c (.int .i64 1)) (.t 22),.mov 24 (.t 1),.conv 25 .i64 (.t 24),.bin 26 .rem (.t 25) (.c (.int .i64 10)),.asg 7 (.t 23),.asg 8 (.t 26)]) (.seq (.ops [.mksl 28 1 [(.c (.int .i64 9)),(.c (.int .i64 3))],.call 29 31 [(.t 28)],.mov 27 (.t 29),.ext 30 (.t 27) 0,.ext 31 (.t 27) 1,.asg 9 (.t 30),.asg 10 (.t 31)]) (.seq (.ops [.mksl 33 1 [(.c (.int .i64 9)),(.c (.int .i64 3))],.mov 34 (.t 7),.call 35 11 [(.t 33),(.t 34)],.mov 32 (.t 35),.ext 36 (.t 32) 0,.ext 37 (.t 32) 1,.alloc 11 [(.int .i64 0),(.list 1 []),(.list 5 []),(.bool false),(.int .i64 0),(.int .i64 0),(.list 2 [])],.store none 7 (.t 11) (.t 36),.asg 12 (.t 37)]) (.seq (.ops [.mvz 38 (.t 9),.mvz 39 (.t 9),.load 40 (some 7) (.t 11),.mov 41 (.t 12),.bin 42 .eql (.t 41) (.c (.int .i64 0)),.build 43 [(.list 1 []),(.list 1 []),(.int .i64 0),(.list 1 []),(.list 5 []),(.bool false),(.int .i64 0),(.int .i64 0),(.list 2 []),(.int .i64 0),(.int .i64 0),(.bool false)] [(0,1,(.t 38)),(1,1,(.t 39)),(2,7,(.t 40)),(11,1,(.t 42))],.alloc 13 [(.list 1 []),(.list 1 []),(.int .i64 0),(.list 1 []),(.list 5 []),(.bool false),(.int .i64 0),(.int .i64 0),(.list 2 []),(.int .i64 0),(.int .i64 0),(.bool false)],.store none 12 (.t 13) (.t 43)]) (.seq (.seq (.ops [.asg 14 (.c (.int .i64 0))])
     fn8_l1) (.seq (.ops [.call 87 10 [],.mov 88 (.t 87),.grd 88 true (.fadr 89 (.t 13) 11),.grd 88 true (.load 90 none (.t 89)),.pick 91 (.t 88) (.t 90) (.c (.bool false)),.mov 92 (.t 91),.grd 92 true (.fadr 93 (.t 13) 2),.grd 92 true (.load 94 (some 7) (.t 93)),.grd 92 true (.call 95 20 [(.t 94)]),.grd 92 true (.bin 96 .eql (.t 95) (.c (.int .i64 0))),.pick 97 (.t 92) (.t 96) (.c (.bool false)),.asg 6 (.t 97)]) .ret))))))))⟩
def fn10_b0:VCode:=(.seq (.seq (.ops [.mov 22 (.t 3),.bin 23 .lss (.t 22) (.c (.int .i64 2))]) (.cond (.t 23) .skip (.exit 0))) (.seq (.block 1 (.seq (.drs [] [1,2,3,4,5] [.load 27 (some 7) (.t 1),.mov 28 (.t 3),.mov 29 (.t 3),.bin 30 .add (.t 29) (.c (.int .i64 1)),.mov 31 (.t 3),.mov 32 (.t 3),.bin 33 .add (.t 32) (.c (.int .i64 1)),.conv 34 .u8 (.t 33),.call 35 36 [(.t 28),(.t 30),(.t 31),(.t 34)],.call 36 16 [(.t 27),(.t 35)],.mov 26 (.t 36),.ext 37 (.t 26) 0,.ext 38 (.t 26) 1,.alloc 4 [(.int .i64 0),(.list 1 []),(.list 5 []),(.bool false),(.int .i64 0),(.int .i64 0),(.list 2 [])],.store none 7 (.t 4) (.t 37),.asg 5 (.t 38)]
   [⟨[([0,1,2,3,4,5,6,7],8),([],9),([10,11,12],13)],(some ([],[],14,[])),[15],[0,1,2,3,4,5,6,7,8,9,10,11,12,13,14,15],false⟩,⟨[([0,1,2,3,4,5,6,7],8),([],13),([],9)],(some ([10,11],[12],14,[])),[15],[0,1,2,3,4,5,6,7,8,13,9,10,11,12,14,15],false⟩,⟨[([0,1,2,3,4,5,6,7],13),([],8),([],9)],(some ([10,11],[12],14,[])),[15],[0,1,2,3,4,5,6,7,13,8,9,10,11,12,14,15],false⟩]) (.ops [.load 39 (some 7) (.t 4),.mov 40 (.t 2),.mov 41 (.t 5),.bin 42 .add (.t 40) (.t 41),.store none 7 (.t 1) (.t 39),.asg 2 (.t 42)]))) (.ops [.mov 24 (.t 3),.bin 25 .add (.t 24) (.c (.int .i64 1)),.asg 3 (.t 25)])))
def fn10_l1:VCode :=
(.clean [1,2,3] [0,1,2] (.block 0 (.loop [1,2,3] fn10_b0)))
def fn10:VFn:=⟨0,146,[.tmp 0],(.seq (.ops [.asg 0 (.c (.bool false))]) (.seq (.ops [.mksl 18 1 [(.c (.int .i64 4))],.call 19 11 [(.t 18),(.c (.int .i64 2))],.mov 17 (.t 19),.ext 20 (.t 17) 0,.ext 21 (.t 17) 1,.alloc 1 [(.int .i64 0),(.list 1 []),(.list 5 []),(.bool false),(.int .i64 0),(.int .i64 0),(.list 2 [])],.store none 7 (.t 1) (.t 20),.asg 2 (.t 21)]) (.seq (.seq (.ops [.asg 3 (.c (.int .i64 0))])
   fn10_l1) (.seq (.drs [] [1,2,6,7] [.load 44 (some 7) (.t 1),.call 45 36 [(.c (.int .i64 2)),(.c (.int .i64 3)),(.c (.int .i64 3)),(.c (.int .u8 9))],.call 46 16 [(.t 44),(.t 45)],.mov 43 (.t 46),.ext 47 (.t 43) 0,.ext 48 (.t 43) 1,.alloc 6 [(.int .i64 0),(.list 1 []),(.list 5 []),(.bool false),(.int .i64 0),(.int .i64 0),(.list 2 [])],.store none 7 (.t 6) (.t 47),.asg 7 (.t 48)]
   [⟨[([0],1),([],2),([3,4,5],6)],(some ([],[],7,[])),[8],[0,1,2,3,4,5,6,7,8],false⟩,⟨[([0],1),([],6),([],2)],(some ([3,4],[5],7,[])),[8],[0,1,6,2,3,4,5,7,8],false⟩,⟨[([0],6),([],1),([],2)],(some ([3,4],[5],7,[])),[8],[0,6,1,2,3,4,5,7,8],false⟩]) (.seq (.ops [.load 50 (some 7) (.t 6),.build 51 [(.int .u8 0),(.int .u8 0),(.int .u8 0),(.int .u8 0),(.int .u8 0),(.int .u8 0),(.int .u8 0),(.int .u8 0)] [(0,1,(.c (.int .u8 1)))],.build 52 [(.int .u8 0),(.int .u8 0),(.int .u8 0),(.int .u8 0),(.int .u8 0),(.int .u8 0),(.int .u8 0),(.int .u8 0)] [(0,1,(.c (.int .u8 2)))],.build 53 [(.int .u8 0),(.int .u8 0),(.int .u8 0),(.int .u8 0),(.int .u8 0),(.int .u8 0),(.int .u8 0),(.int .u8 0)] [],.build 54 [(.int .u8 0),(.int .u8 0),(.int .u8 0),(.int .u8 0),(.int .u8 0),(.int .u8 0),(.int .u8 0),(.int .u8 0)] [(0,1,(.c (.int .u8 9)))],.mksl 55 8 [(.t 51),(.t 52),(.t 53),(.t 54)],.mksl 56 1 [(.t 55)],.call 57 26 [(.t 50),(.t 56),(.c (.int .i64 5))],.mov 49 (.t 57),.ext 58 (.t 49) 0,.ext 59 (.t 49) 1,.ext 60 (.t 49) 2,.alloc 8 [(.int .i64 0),(.list 1 []),(.list 5 []),(.bool false),(.int .i64 0),(.int .i64 0),(.list 2 [])],.alloc 9 [(.int .i64 0),(.int .i64 0),(.int .i64 0),(.list 1 []),(.list 3 [])],.store none 7 (.t 8) (.t 58),.store none 5 (.t 9) (.t 59),.asg 10 (.t 60)]) (.seq (.ops [.load 62 (some 7) (.t 1),.call 63 23 [(.t 62),(.c (.int .i64 1))],.mov 61 (.t 63),.ext 64 (.t 61) 0,.ext 65 (.t 61) 1,.alloc 11 [(.int .i64 0),(.list 1 []),(.list 5 []),(.bool false),(.int .i64 0),(.int .i64 0),(.list 2 [])],.store none 7 (.t 11) (.t 64),.asg 12 (.t 65)]) (.seq (.drw [] [([0],1),([],2)] (some ([3,4],[5],6,[])) [7] [.load 67 (some 7) (.t 11),.call 68 36 [(.c (.int .i64 2)),(.c (.int .i64 3)),(.c (.int .i64 3)),(.c (.int .u8 9))],.call 69 16 [(.t 67),(.t 68)],.mov 66 (.t 69),.ext 70 (.t 66) 0,.ext 71 (.t 66) 1,.store none 7 (.t 11) (.t 70),.asg 13 (.t 71)]) (.seq (.ops [.load 73 (some 7) (.t 11),.call 74 18 [(.t 73)],.mov 72 (.t 74),.ext 75 (.t 72) 0,.ext 76 (.t 72) 1,.alloc 14 [(.int .i64 0),(.int .i64 0),(.int .i64 0),(.list 1 []),(.list 3 [])],.store none 5 (.t 14) (.t 75),.asg 15 (.t 76)]) (.seq (.ops [.build 77 [(.int .u8 0),(.int .u8 0),(.int .u8 0),(.int .u8 0),(.int .u8 0),(.int .u8 0),(.int .u8 0),(.int .u8 0)] [(0,1,(.c (.int .u8 1)))],.build 78 [(.int .u8 0),(.int .u8 0),(.int .u8 0),(.int .u8 0),(.int .u8 0),(.int .u8 0),(.int .u8 0),(.int .u8 0)] [(0,1,(.c (.int .u8 2)))],.mksl 79 8 [(.t 77),(.t 78)],.build 80 [(.int .i64 0),(.int .i64 0),(.list 0 [])] [(2,1,(.t 79))],.build 81 [(.int .u8 0),(.int .u8 0),(.int .u8 0),(.int .u8 0),(.int .u8 0),(.int .u8 0),(.int .u8 0),(.int .u8 0)] [(0,1,(.c (.int .u8 9)))],.mksl 82 8 [(.t 81)],.build 83 [(.int .i64 0),(.int .i64 0),(.list 0 [])] [(1,1,(.c (.int .i64 3))),(2,1,(.t 82))],.mksl 84 3 [(.t 80),(.t 83)],.asg 16 (.t 84)]) (.seq (.ops [.mov 85 (.t 2),.bin 86 .eql (.t 85) (.c (.int .i64 0)),.mov 87 (.t 86),.grd 87 true (.mov 88 (.t 7)),.grd 87 true (.bin 89 .eql (.t 88) (.c (.int .i64 0))),.pick 90 (.t 87) (.t 89) (.c (.bool false)),.mov 91 (.t 90),.grd 91 true (.mov 92 (.t 10)),.grd 91 true (.bin 93 .eql (.t 92) (.c (.int .i64 0))),.pick 94 (.t 91) (.t 93) (.c (.bool false)),.mov 95 (.t 94),.grd 95 true (.mov 96 (.t 12)),.grd 95 true (.bin 97 .eql (.t 96) (.c (.int .i64 0))),.pick 98 (.t 95) (.t 97) (.c (.bool false)),.mov 99 (.t 98),.grd 99 true (.mov 100 (.t 13)),.grd 99 true (.bin 101 .eql (.t 100) (.c (.int .i64 0))),.pick 102 (.t 99) (.t 101) (.c (.bool false)),.mov 103 (.t 102),.grd 103 true (.fadr 104 (.t 6) 3),.grd 103 true (.load 105 none (.t 104)),.pick 106 (.t 103) (.t 105) (.c (.bool false)),.mov 107 (.t 106),.grd 107 true (.fadr 108 (.t 6) 4),.grd 107 true (.load 109 none (.t 108)),.grd 107 true (.bin 110 .eql (.t 109) (.c (.int .i64 0))),.pick 111 (.t 107) (.t 110) (.c (.bool false)),.mov 112 (.t 111),.grd 112 true (.fadr 113 (.t 6) 5),.grd 112 true (.load 114 none (.t 113)),.grd 112 true (.bin 115 .eql (.t 114) (.c (.int .i64 3))),.pick 116 (.t 112) (.t 115) (.c (.bool false)),.mov 117 (.t 116),.grd 117 true (.fadr 118 (.t 9) 0),.grd 117 true (.load 119 none (.t 118)),.grd 117 true (.bin 120 .eql (.t 119) (.c (.int .i64 0))),.pick 121 (.t 117) (.t 120) (.c (.bool false)),.mov 122 (.t 121),.grd 122 true (.fadr 123 (.t 9) 1),.grd 122 true (.load 124 none (.t 123)),.grd 122 true (.bin 125 .eql (.t 124) (.c (.int .i64 3))),.pick 126 (.t 122) (.t 125) (.c (.bool false)),.mov 127 (.t 126),.grd 127 true (.fadr 128 (.t 9) 4),.grd 127 true (.load 129 none (.t 128)),.grd 127 true (.mov 130 (.t 16)),.grd 127 true (.call 131 37 [(.t 129),(.t 130)]),.pick 132 (.t 127) (.t 131) (.c (.bool false)),.mov 133 (.t 132),.grd 133 true (.mov 134 (.t 15)),.pick 135 (.t 133) (.t 134) (.c (.bool false)),.mov 136 (.t 135),.grd 136 true (.fadr 137 (.t 14) 1),.grd 136 true (.load 138 none (.t 137)),.grd 136 true (.bin 139 .eql (.t 138) (.c (.int .i64 2))),.pick 140 (.t 136) (.t 139) (.c (.bool false)),.mov 141 (.t 140),.grd 141 true (.fadr 142 (.t 11) 3),.grd 141 true (.load 143 none (.t 142)),.grd 141 true (.un 144 .not (.t 143)),.pick 145 (.t 141) (.t 144) (.c (.bool false)),.asg 0 (.t 145)]) .ret))))))))))⟩
def fn11:VFn:=⟨2,28,[.cell 4 (some 7),.tmp 5],(.seq (.ops [.alloc 4 [(.int .i64 0),(.list 1 []),(.list 5 []),(.bool false),(.int .i64 0),(.int .i64 0),(.list 2 [])],.asg 5 (.c (.int .i64 0))]) (.seq (.seq (.ops [.mov 9 (.t 0),.call 10 38 [(.t 9)],.mov 8 (.t 10),.ext 11 (.t 8) 0,.ext 12 (.t 8) 1,.asg 6 (.t 11),.asg 7 (.t 12)]) (.seq (.ops [.mov 13 (.t 7),.bin 14 .neq (.t 13) (.c (.int .i64 0))]) (.cond (.t 14) (.seq (.ops [.build 15 [(.int .i64 0),(.list 1 []),(.list 5 []),(.bool false),(.int .i64 0),(.int .i64 0),(.list 2 [])] [],.mov 16 (.t 7),.store none 7 (.t 4) (.t 15),.asg 5 (.t 16)]) .ret) .skip))) (.seq (.seq (.ops [.mov 17 (.t 1),.bin 18 .lss (.t 17) (.c (.int .i64 1)),.mov 19 (.t 18),.grd 19 false (.mov 20 (.t 1)),.grd 19 false (.bin 21 .gtr (.t 20) (.c (.int .i64 1024))),.pick 22 (.t 19) (.c (.bool true)) (.t 21)]) (.cond (.t 22) (.seq (.ops [.build 23 [(.int .i64 0),(.list 1 []),(.list 5 []),(.bool false),(.int .i64 0),(.int .i64 0),(.list 2 [])] [],.store none 7 (.t 4) (.t 23),.asg 5 (.c (.int .i64 2))]) .ret) .skip)) (.seq (.ops [.mov 24 (.t 1),.mov 25 (.t 0),.call 26 39 [(.t 25)],.build 27 [(.int .i64 0),(.list 1 []),(.list 5 []),(.bool false),(.int .i64 0),(.int .i64 0),(.list 2 [])] [(0,1,(.t 24)),(1,1,(.t 26))],.store none 7 (.t 4) (.t 27),.asg 5 (.c (.int .i64 0))]) .ret))))⟩
def fn15:VFn:=⟨1,11,[.tmp 2],(.seq (.ops [.asg 2 (.c (.bool false))]) (.seq (.ops [.mov 3 (.t 0),.len 4 (.t 3),.bin 5 .leq (.t 4) (.c (.int .i64 40)),.mov 6 (.t 5),.grd 6 true (.mov 7 (.t 0)),.grd 6 true (.call 8 35 [(.t 7)]),.grd 6 true (.bin 9 .leq (.t 8) (.c (.int .i64 400))),.pick 10 (.t 6) (.t 9) (.c (.bool false)),.asg 2 (.t 10)]) .ret))⟩
def fn16:VFn:=⟨2,49,[.cell 4 (some 7),.tmp 5],(.seq (.ops [.box 2 (.t 0),.box 3 (.t 1),.alloc 4 [(.int .i64 0),(.list 1 []),(.list 5 []),(.bool false),(.int .i64 0),(.int .i64 0),(.list 2 [])],.asg 5 (.c (.int .i64 0))]) (.seq (.seq (.ops [.load 10 (some 7) (.t 2),.call 11 20 [(.t 10)],.asg 6 (.t 11)]) (.seq (.ops [.mov 12 (.t 6),.bin 13 .neq (.t 12) (.c (.int .i64 0))]) (.cond (.t 13) (.seq (.ops [.build 14 [(.int .i64 0),(.list 1 []),(.list 5 []),(.bool false),(.int .i64 0),(.int .i64 0),(.list 2 [])] [],.mov 15 (.t 6),.store none 7 (.t 4) (.t 14),.asg 5 (.t 15)]) .ret) .skip))) (.seq (.seq (.ops [.load 16 (some 5) (.t 3),.fadr 17 (.t 2) 1,.load 18 none (.t 17),.call 19 42 [(.t 16),(.t 18)],.asg 7 (.t 19)]) (.seq (.ops [.mov 20 (.t 7),.bin 21 .neq (.t 20) (.c (.int .i64 0))]) (.cond (.t 21) (.seq (.ops [.build 22 [(.int .i64 0),(.list 1 []),(.list 5 []),(.bool false),(.int .i64 0),(.int .i64 0),(.list 2 [])] [],.mov 23 (.t 7),.store none 7 (.t 4) (.t 22),.asg 5 (.t 23)]) .ret) .skip))) (.seq (.seq (.ops [.fadr 24 (.t 3) 0,.load 25 none (.t 24),.fadr 26 (.t 2) 5,.load 27 none (.t 26),.bin 28 .neq (.t 25) (.t 27)]) (.cond (.t 28) (.seq (.ops [.build 29 [(.int .i64 0),(.list 1 []),(.list 5 []),(.bool false),(.int .i64 0),(.int .i64 0),(.list 2 [])] [],.store none 7 (.t 4) (.t 29),.asg 5 (.c (.int .i64 15))]) .ret) .skip)) (.seq (.drs [] [3,4,8,9] [.call 31 43 [],.load 32 (some 7) (.t 2),.call 33 44 [(.t 32)],.idx 34 (.t 31) (.t 33) 2 1 none,.load 35 (some 7) (.t 2),.call 36 45 [(.t 35)],.load 37 (some 5) (.t 3),.linv 38 (.t 34) (.t 36) [(.t 37)],.mov 30 (.t 38),.ext 39 (.t 30) 0,.ext 40 (.t 30) 1,.alloc 8 [(.int .i64 0),(.list 1 []),(.list 5 []),(.bool false),(.int .i64 0),(.int .i64 0),(.list 2 [])],.store none 7 (.t 8) (.t 39),.asg 9 (.t 40)]
    [⟨[([1,4,6],0),([],2),([3],5)],(some ([],[],7,[([8,9,10],11),([],12)])),[13],[1,4,6,0,2,3,5,7,8,9,10,11,12,13],false⟩,⟨[([1,4,6],0),([],2),([3],5),([],11)],(some ([],[],7,[([8,9,10],12)])),[13],[1,4,6,0,2,3,5,11,7,8,9,10,12,13],false⟩,⟨[([1,4,6],0),([],2),([3],11),([],5)],(some ([],[],7,[([8,9,10],12)])),[13],[1,4,6,0,2,3,11,5,7,8,9,10,12,13],false⟩,⟨[([1,4,6],0),([],11),([],2),([3],5)],(some ([],[],7,[([8,9,10],12)])),[13],[1,4,6,0,11,2,3,5,7,8,9,10,12,13],false⟩,⟨[([1,4,6],11),([],0),([],2),([3],5)],(some ([],[],7,[([8,9,10],12)])),[13],[1,4,6,11,0,2,3,5,7,8,9,10,12,13],false⟩]) (.seq (.seq (.ops [.mov 41 (.t 9),.bin 42 .neq (.t 41) (.c (.int .i64 0))]) (.cond (.t 42) (.seq (.ops [.build 43 [(.int .i64 0),(.list 1 []),(.list 5 []),(.bool false),(.int .i64 0),(.int .i64 0),(.list 2 [])] [],.mov 44 (.t 9),.store none 7 (.t 4) (.t 43),.asg 5 (.t 44)]) .ret) .skip)) (.seq (.ops [.fadr 45 (.t 3) 1,.load 46 none (.t 45),.fadr 47 (.t 8) 5,.store none 1 (.t 47) (.t 46)]) (.seq (.ops [.load 48 (some 7) (.t 8),.store none 7 (.t 4) (.t 48),.asg 5 (.c (.int .i64 0))]) .ret))))))))⟩
def fn18:VFn:=⟨1,19,[.cell 2 (some 5),.tmp 3],(.seq (.ops [.box 1 (.t 0),.alloc 2 [(.int .i64 0),(.int .i64 0),(.int .i64 0),(.list 1 []),(.list 3 [])],.asg 3 (.c (.bool false))]) (.seq (.seq (.ops [.load 4 (some 7) (.t 1),.call 5 20 [(.t 4)],.bin 6 .neq (.t 5) (.c (.int .i64 0)),.mov 7 (.t 6),.grd 7 false (.fadr 8 (.t 1) 2),.grd 7 false (.load 9 none (.t 8)),.grd 7 false (.len 10 (.t 9)),.grd 7 false (.bin 11 .eql (.t 10) (.c (.int .i64 0))),.pick 12 (.t 7) (.c (.bool true)) (.t 11)]) (.cond (.t 12) (.seq (.ops [.build 13 [(.int .i64 0),(.int .i64 0),(.int .i64 0),(.list 1 []),(.list 3 [])] [],.store none 5 (.t 2) (.t 13),.asg 3 (.c (.bool false))]) .ret) .skip)) (.seq (.ops [.fadr 14 (.t 1) 2,.load 15 none (.t 14),.iadr 16 5 (.t 15) (.c (.int .i64 0)),.load 17 (some 5) (.t 16),.call 18 48 [(.t 17)],.store none 5 (.t 2) (.t 18),.asg 3 (.c (.bool true))]) .ret)))⟩
def fn20:VFn:=⟨1,48,[.tmp 2],(.seq (.ops [.box 1 (.t 0),.asg 2 (.c (.int .i64 0))]) (.seq (.seq (.ops [.fadr 6 (.t 1) 1,.load 7 none (.t 6),.call 8 38 [(.t 7)],.mov 5 (.t 8),.ext 9 (.t 5) 0,.ext 10 (.t 5) 1,.asg 3 (.t 9),.asg 4 (.t 10)]) (.seq (.ops [.mov 11 (.t 4),.bin 12 .neq (.t 11) (.c (.int .i64 0))]) (.cond (.t 12) (.seq (.ops [.mov 13 (.t 4),.asg 2 (.t 13)]) .ret) .skip))) (.seq (.seq (.drw [] [([0,1,2,3,4,5,6,7,8,9,10,11,12,13,14,15,16,17,18,19,20,21,22,23,24,25,27,30],26),([],28),([29],31)] none [32,33] [.fadr 14 (.t 1) 0,.load 15 none (.t 14),.bin 16 .lss (.t 15) (.c (.int .i64 1)),.mov 17 (.t 16),.grd 17 false (.fadr 18 (.t 1) 0),.grd 17 false (.load 19 none (.t 18)),.grd 17 false (.bin 20 .gtr (.t 19) (.c (.int .i64 1024))),.pick 21 (.t 17) (.c (.bool true)) (.t 20),.mov 22 (.t 21),.grd 22 false (.fadr 23 (.t 1) 4),.grd 22 false (.load 24 none (.t 23)),.grd 22 false (.bin 25 .lss (.t 24) (.c (.int .i64 0))),.pick 26 (.t 22) (.c (.bool true)) (.t 25),.mov 27 (.t 26),.grd 27 false (.fadr 28 (.t 1) 4),.grd 27 false (.load 29 none (.t 28)),.grd 27 false (.fadr 30 (.t 1) 5),.grd 27 false (.load 31 none (.t 30)),.grd 27 false (.bin 32 .gtr (.t 29) (.t 31)),.pick 33 (.t 27) (.c (.bool true)) (.t 32),.mov 34 (.t 33),.grd 34 false (.fadr 35 (.t 1) 5),.grd 34 false (.load 36 none (.t 35)),.grd 34 false (.bin 37 .gtr (.t 36) (.c (.int .i64 1073741824))),.pick 38 (.t 34) (.c (.bool true)) (.t 37),.mov 39 (.t 38),.grd 39 false (.load 41 (some 7) (.t 1)),.grd 39 false (.load 44 (some 7) (.t 1)),.grd 39 false (.call 40 49 []),.grd 39 false (.call 42 44 [(.t 41)]),.grd 39 false (.idx 43 (.t 40) (.t 42) 2 1 none),.grd 39 false (.callv 45 (.t 43) [(.t 44)]),.grd 39 false (.un 46 .not (.t 45)),.pick 47 (.t 39) (.c (.bool true)) (.t 46)]) (.cond (.t 47) (.seq (.ops [.asg 2 (.c (.int .i64 3))]) .ret) .skip)) (.seq (.ops [.asg 2 (.c (.int .i64 0))]) .ret))))⟩
def fn23_b0:VCode:=(.seq (.seq (.ops [.fadr 33 (.t 7) 2,.load 34 none (.t 33),.len 35 (.t 34),.bin 36 .gtr (.t 35) (.c (.int .i64 0)),.mov 37 (.t 36),.grd 37 true (.fadr 38 (.t 7) 4),.grd 37 true (.load 39 none (.t 38)),.grd 37 true (.mov 40 (.t 1)),.grd 37 true (.bin 41 .lss (.t 39) (.t 40)),.pick 42 (.t 37) (.t 41) (.c (.bool false))]) (.cond (.t 42) .skip (.exit 1))) (.block 2 (.seq (.ops [.fadr 43 (.t 7) 2,.load 44 none (.t 43),.iadr 45 5 (.t 44) (.c (.int .i64 0)),.fadr 46 (.t 45) 1,.load 47 none (.t 46),.fadr 48 (.t 7) 4,.store none 1 (.t 48) (.t 47)]) (.ops [.fadr 49 (.t 7) 2,.load 50 none (.t 49),.sli 51 5 (.t 50) (some (.c (.int .i64 1))) none,.fadr 52 (.t 7) 2,.store none 1 (.t 52) (.t 51)]))))
def fn23_l1:VCode :=
(.clean [1,4,7] [1,4,5,7] (.block 1 (.loop [1,4,7] fn23_b0)))
def fn23:VFn:=⟨2,59,[.cell 4 (some 7),.tmp 5],(.seq (.ops [.box 2 (.t 0),.alloc 4 [(.int .i64 0),(.list 1 []),(.list 5 []),(.bool false),(.int .i64 0),(.int .i64 0),(.list 2 [])],.asg 5 (.c (.int .i64 0))]) (.seq (.seq (.ops [.load 8 (some 7) (.t 2),.call 9 20 [(.t 8)],.asg 6 (.t 9)]) (.block 0 (.seq (.ops [.mov 11 (.t 6),.bin 12 .neq (.t 11) (.c (.int .i64 0)),.asg 10 (.t 12)]) (.cond (.t 10) (.seq (.ops [.build 13 [(.int .i64 0),(.list 1 []),(.list 5 []),(.bool false),(.int .i64 0),(.int .i64 0),(.list 2 [])] [],.mov 14 (.t 6),.store none 7 (.t 4) (.t 13),.asg 5 (.t 14)]) .ret) (.seq (.ops [.fadr 16 (.t 2) 3,.load 17 none (.t 16),.asg 15 (.t 17)]) (.cond (.t 15) (.seq (.ops [.build 18 [(.int .i64 0),(.list 1 []),(.list 5 []),(.bool false),(.int .i64 0),(.int .i64 0),(.list 2 [])] [],.store none 7 (.t 4) (.t 18),.asg 5 (.c (.int .i64 12))]) .ret) (.seq (.ops [.mov 20 (.t 1),.fadr 21 (.t 2) 4,.load 22 none (.t 21),.bin 23 .lss (.t 20) (.t 22),.mov 24 (.t 23),.grd 24 false (.mov 25 (.t 1)),.grd 24 false (.fadr 26 (.t 2) 5),.grd 24 false (.load 27 none (.t 26)),.grd 24 false (.bin 28 .gtr (.t 25) (.t 27)),.pick 29 (.t 24) (.c (.bool true)) (.t 28),.asg 19 (.t 29)]) (.cond (.t 19) (.seq (.ops [.build 30 [(.int .i64 0),(.list 1 []),(.list 5 []),(.bool false),(.int .i64 0),(.int .i64 0),(.list 2 [])] [],.store none 7 (.t 4) (.t 30),.asg 5 (.c (.int .i64 2))]) .ret) .skip)))))))) (.seq (.ops [.load 31 (some 7) (.t 2),.call 32 45 [(.t 31)],.alloc 7 [(.int .i64 0),(.list 1 []),(.list 5 []),(.bool false),(.int .i64 0),(.int .i64 0),(.list 2 [])],.stw 7 (.t 7) (.t 32)]) (.seq
   fn23_l1 (.seq (.seq (.ops [.fadr 53 (.t 7) 4,.load 54 none (.t 53),.mov 55 (.t 1),.bin 56 .neq (.t 54) (.t 55)]) (.cond (.t 56) (.seq (.ops [.build 57 [(.int .i64 0),(.list 1 []),(.list 5 []),(.bool false),(.int .i64 0),(.int .i64 0),(.list 2 [])] [],.store none 7 (.t 4) (.t 57),.asg 5 (.c (.int .i64 7))]) .ret) .skip)) (.seq (.ops [.load 58 (some 7) (.t 7),.store none 7 (.t 4) (.t 58),.asg 5 (.c (.int .i64 0))]) .ret))))))⟩
def fn26:VFn:=⟨3,72,[.cell 6 (some 7),.cell 7 (some 5),.tmp 8],(.seq (.ops [.box 3 (.t 0),.alloc 6 [(.int .i64 0),(.list 1 []),(.list 5 []),(.bool false),(.int .i64 0),(.int .i64 0),(.list 2 [])],.alloc 7 [(.int .i64 0),(.int .i64 0),(.int .i64 0),(.list 1 []),(.list 3 [])],.asg 8 (.c (.int .i64 0))]) (.seq (.seq (.ops [.load 14 (some 7) (.t 3),.call 15 20 [(.t 14)],.asg 9 (.t 15)]) (.seq (.ops [.mov 16 (.t 9),.bin 17 .neq (.t 16) (.c (.int .i64 0))]) (.cond (.t 17) (.seq (.ops [.build 18 [(.int .i64 0),(.list 1 []),(.list 5 []),(.bool false),(.int .i64 0),(.int .i64 0),(.list 2 [])] [],.build 19 [(.int .i64 0),(.int .i64 0),(.int .i64 0),(.list 1 []),(.list 3 [])] [],.mov 20 (.t 9),.store none 7 (.t 6) (.t 18),.store none 5 (.t 7) (.t 19),.asg 8 (.t 20)]) .ret) .skip))) (.seq (.seq (.ops [.mov 21 (.t 1),.call 22 53 [(.t 21)],.asg 10 (.t 22)]) (.seq (.ops [.mov 23 (.t 10),.bin 24 .neq (.t 23) (.c (.int .i64 0))]) (.cond (.t 24) (.seq (.ops [.build 25 [(.int .i64 0),(.list 1 []),(.list 5 []),(.bool false),(.int .i64 0),(.int .i64 0),(.list 2 [])] [],.build 26 [(.int .i64 0),(.int .i64 0),(.int .i64 0),(.list 1 []),(.list 3 [])] [],.mov 27 (.t 10),.store none 7 (.t 6) (.t 25),.store none 5 (.t 7) (.t 26),.asg 8 (.t 27)]) .ret) .skip))) (.seq (.ops [.mov 28 (.t 1),.fadr 29 (.t 3) 1,.load 30 none (.t 29),.call 31 54 [(.t 28),(.t 30),(.c (.func 55 []))],.asg 11 (.t 31)]) (.seq (.block 0 (.seq (.ops [.fadr 33 (.t 3) 3,.load 34 none (.t 33),.un 35 .not (.t 34),.asg 32 (.t 35)]) (.cond (.t 32) (.seq (.ops [.build 36 [(.int .i64 0),(.list 1 []),(.list 5 []),(.bool false),(.int .i64 0),(.int .i64 0),(.list 2 [])] [],.build 37 [(.int .i64 0),(.int .i64 0),(.int .i64 0),(.list 1 []),(.list 3 [])] [],.store none 7 (.t 6) (.t 36),.store none 5 (.t 7) (.t 37),.asg 8 (.c (.int .i64 12))]) .ret) (.seq (.ops [.mov 39 (.t 11),.un 40 .not (.t 39),.asg 38 (.t 40)]) (.cond (.t 38) (.seq (.ops [.build 41 [(.int .i64 0),(.list 1 []),(.list 5 []),(.bool false),(.int .i64 0),(.int .i64 0),(.list 2 [])] [],.build 42 [(.int .i64 0),(.int .i64 0),(.int .i64 0),(.list 1 []),(.list 3 [])] [],.store none 7 (.t 6) (.t 41),.store none 5 (.t 7) (.t 42),.asg 8 (.c (.int .i64 22))]) .ret) (.seq (.ops [.mov 44 (.t 2),.bin 45 .lss (.t 44) (.c (.int .i64 0)),.mov 46 (.t 45),.grd 46 false (.mov 47 (.t 2)),.grd 46 false (.bin 48 .gtr (.t 47) (.c (.int .i64 1073741824))),.pick 49 (.t 46) (.c (.bool true)) (.t 48),.asg 43 (.t 49)]) (.cond (.t 43) (.seq (.ops [.build 50 [(.int .i64 0),(.list 1 []),(.list 5 []),(.bool false),(.int .i64 0),(.int .i64 0),(.list 2 [])] [],.build 51 [(.int .i64 0),(.int .i64 0),(.int .i64 0),(.list 1 []),(.list 3 [])] [],.store none 7 (.t 6) (.t 50),.store none 5 (.t 7) (.t 51),.asg 8 (.c (.int .i64 24))]) .ret) .skip))))))) (.seq (.drs [] [3,6,7,12] [.fadr 52 (.t 3) 4,.load 53 none (.t 52),.fadr 54 (.t 3) 5,.load 55 none (.t 54),.mov 56 (.t 2),.fadr 57 (.t 3) 6,.load 58 none (.t 57),.mov 59 (.t 1),.call 60 56 [(.t 58),(.t 59)],.build 61 [(.int .i64 0),(.int .i64 0),(.int .i64 0),(.list 1 []),(.list 3 [])] [(0,1,(.t 53)),(1,1,(.t 55)),(2,1,(.t 56)),(4,1,(.t 60))],.alloc 12 [(.int .i64 0),(.int .i64 0),(.int .i64 0),(.list 1 []),(.list 3 [])],.store none 5 (.t 12) (.t 61)]
    [⟨[([0,1,2,3,4,5,6,7],8),([9],10)],(some ([],[],11,[])),[],[0,1,2,3,4,5,6,7,8,9,10,11],false⟩,⟨[([0,1,2,3,4,5,6,7],10),([],8)],(some ([9],[],11,[])),[],[0,1,2,3,4,5,6,7,10,8,9,11],false⟩]) (.seq (.ops [.load 62 (some 7) (.t 3),.call 63 45 [(.t 62)],.alloc 13 [(.int .i64 0),(.list 1 []),(.list 5 []),(.bool false),(.int .i64 0),(.int .i64 0),(.list 2 [])],.stw 7 (.t 13) (.t 63)]) (.seq (.ops [.load 64 (some 5) (.t 12),.call 65 48 [(.t 64)],.mksl 66 5 [(.t 65)],.fadr 67 (.t 13) 3,.store none 1 (.t 67) (.c (.bool false)),.fadr 68 (.t 13) 6,.store none 1 (.t 68) (.nil 2),.fadr 69 (.t 13) 2,.store none 1 (.t 69) (.t 66)]) (.seq (.drw [(.t 12)] [] (some ([0],[1],2,[([],3)])) [4] [.load 70 (some 7) (.t 13),.ldz 71 (some 5) (.t 12),.store none 7 (.t 6) (.t 70),.store none 5 (.t 7) (.t 71),.asg 8 (.c (.int .i64 0))]) .ret)))))))))⟩
def fn28_b0:VCode:=(.seq (.seq (.ops [.mov 4 (.t 3),.mov 5 (.t 0),.len 6 (.t 5),.bin 7 .lss (.t 4) (.t 6)]) (.cond (.t 7) .skip (.exit 0))) (.seq (.block 1 (.seq (.ops [.mov 10 (.t 0),.mov 11 (.t 3),.iadr 12 3 (.t 10) (.t 11),.fadr 13 (.t 12) 2,.load 14 none (.t 13),.len 15 (.t 14),.bin 16 .gtr (.t 15) (.c (.int .i64 8)),.mov 17 (.t 16),.grd 17 false (.mov 18 (.t 0)),.grd 17 false (.mov 19 (.t 3)),.grd 17 false (.iadr 20 3 (.t 18) (.t 19)),.grd 17 false (.fadr 21 (.t 20) 2),.grd 17 false (.load 22 none (.t 21)),.grd 17 false (.call 23 15 [(.t 22)]),.grd 17 false (.un 24 .not (.t 23)),.pick 25 (.t 17) (.c (.bool true)) (.t 24)]) (.cond (.t 25) (.seq (.ops [.asg 2 (.c (.bool false))]) .ret) .skip))) (.ops [.mov 8 (.t 3),.bin 9 .add (.t 8) (.c (.int .i64 1)),.asg 3 (.t 9)])))
def fn28_l1:VCode :=
(.clean [0,3] [0,2] (.block 0 (.loop [0,3] fn28_b0)))
def fn28:VFn:=⟨1,29,[.tmp 2],(.seq (.ops [.asg 2 (.c (.bool false))]) (.seq (.seq (.ops [.asg 3 (.c (.int .i64 0))])
  fn28_l1) (.seq (.ops [.mov 26 (.t 0),.len 27 (.t 26),.bin 28 .leq (.t 27) (.c (.int .i64 30)),.asg 2 (.t 28)]) .ret)))⟩
def fn31_b0:VCode:=(.seq (.seq (.ops [.mov 12 (.t 6),.mov 13 (.t 0),.len 14 (.t 13),.bin 15 .lss (.t 12) (.t 14)]) (.cond (.t 15) .skip (.exit 0))) (.seq (.block 1 (.ops [.mov 18 (.t 5),.mov 19 (.t 0),.mov 20 (.t 6),.iadr 21 1 (.t 19) (.t 20),.load 22 none (.t 21),.make 23 (.agg [(.int .u8 0),(.int .u8 0),(.int .u8 0),(.int .u8 0),(.int .u8 0),(.int .u8 0),(.int .u8 0),(.int .u8 0)]) (.t 22) (.t 22),.mksl 24 1 [(.t 23)],.app 25 1 (.t 18) (.t 24),.asg 5 (.t 25)])) (.ops [.mov 16 (.t 6),.bin 17 .add (.t 16) (.c (.int .i64 1)),.asg 6 (.t 17)])))
def fn31_l1:VCode :=
(.clean [0,5,6,25] [2,3,5] (.block 0 (.loop [0,5,6,25] fn31_b0)))
def fn31:VFn:=⟨1,27,[.tmp 2,.tmp 3],(.seq (.ops [.asg 2 (.nil 1),.asg 3 (.c (.int .i64 0))]) (.seq (.seq (.ops [.mov 7 (.t 0),.call 8 62 [(.t 7)],.asg 4 (.t 8)]) (.seq (.ops [.mov 9 (.t 4),.bin 10 .neq (.t 9) (.c (.int .i64 0))]) (.cond (.t 10) (.seq (.ops [.mov 11 (.t 4),.asg 2 (.nil 1),.asg 3 (.t 11)]) .ret) .skip))) (.seq (.ops [.asg 5 (.nil 1)]) (.seq (.seq (.ops [.asg 6 (.c (.int .i64 0))])
   fn31_l1) (.seq (.ops [.mov 26 (.t 5),.asg 2 (.t 26),.asg 3 (.c (.int .i64 0))]) .ret)))))⟩
def fn32_b0:VCode:=(.seq (.seq (.ops [.mov 12 (.t 6),.fadr 13 (.t 3) 2,.load 14 none (.t 13),.len 15 (.t 14),.bin 16 .lss (.t 12) (.t 15),.mov 17 (.t 16),.grd 17 true (.mov 18 (.t 6)),.grd 17 true (.bin 19 .lss (.t 18) (.c (.int .i64 6))),.pick 20 (.t 17) (.t 19) (.c (.bool false))]) (.cond (.t 20) .skip (.exit 0))) (.seq (.block 1 (.seq (.drw [] [([0,1,2,3,4,5,6],7)] none [8] [.fadr 23 (.t 2) 0,.load 24 none (.t 23),.fadr 25 (.t 3) 2,.load 26 none (.t 25),.mov 27 (.t 6),.iadr 28 3 (.t 26) (.t 27),.load 29 (some 3) (.t 28),.call 30 33 [(.t 24),(.t 29)],.bin 31 .eql (.t 30) (.c (.int .i64 0))]) (.cond (.t 31) (.ops [.mov 32 (.t 5),.fadr 33 (.t 3) 2,.load 34 none (.t 33),.mov 35 (.t 6),.iadr 36 3 (.t 34) (.t 35),.load 37 (some 3) (.t 36),.mksl 38 3 [(.t 37)],.app 39 3 (.t 32) (.t 38),.asg 5 (.t 39)]) .skip))) (.ops [.mov 21 (.t 6),.bin 22 .add (.t 21) (.c (.int .i64 1)),.asg 6 (.t 22)])))
def fn32_l1:VCode :=
(.clean [2,3,4,5,6,39,43] [2,3,4,5] (.block 0 (.loop [2,3,4,5,6,39,43] fn32_b0)))
def fn32:VFn:=⟨2,89,[.cell 4 (some 12)],(.seq (.ops [.box 2 (.t 0),.box 3 (.t 1),.alloc 4 [(.list 1 []),(.list 1 []),(.int .i64 0),(.list 1 []),(.list 5 []),(.bool false),(.int .i64 0),(.int .i64 0),(.list 2 []),(.int .i64 0),(.int .i64 0),(.bool false)]]) (.seq (.ops [.asg 5 (.nil 3)]) (.seq (.seq (.ops [.asg 6 (.c (.int .i64 0))])
   fn32_l1) (.seq (.ops [.mov 41 (.t 5),.call 42 63 [(.t 41)],.mov 40 (.t 42),.ext 43 (.t 40) 0,.ext 44 (.t 40) 1,.asg 5 (.t 43)]) (.seq (.ops [.fadr 45 (.t 2) 2,.fadr 46 (.t 45) 5,.load 47 none (.t 46),.fadr 48 (.t 2) 2,.fadr 49 (.t 48) 5,.load 50 none (.t 49),.bin 51 .add (.t 50) (.c (.int .i64 1)),.fadr 52 (.t 3) 1,.load 53 none (.t 52),.conv 54 .i64 (.t 53),.bin 55 .rem (.t 54) (.c (.int .i64 3)),.bin 56 .add (.t 51) (.t 55),.mov 57 (.t 5),.build 58 [(.int .i64 0),(.int .i64 0),(.int .i64 0),(.list 1 []),(.list 3 [])] [(0,1,(.t 47)),(1,1,(.t 56)),(4,1,(.t 57))],.alloc 7 [(.int .i64 0),(.int .i64 0),(.int .i64 0),(.list 1 []),(.list 3 [])],.store none 5 (.t 7) (.t 58)]) (.seq (.ops [.fadr 60 (.t 2) 0,.load 61 none (.t 60),.load 62 (some 5) (.t 7),.call 63 64 [(.t 61),(.t 62)],.mov 59 (.t 63),.ext 64 (.t 59) 0,.ext 65 (.t 59) 1,.asg 8 (.t 64),.asg 9 (.t 65)]) (.seq (.ops [.fadr 67 (.t 2) 2,.load 68 (some 7) (.t 67),.load 69 (some 5) (.t 7),.call 70 16 [(.t 68),(.t 69)],.mov 66 (.t 70),.ext 71 (.t 66) 0,.ext 72 (.t 66) 1,.alloc 10 [(.int .i64 0),(.list 1 []),(.list 5 []),(.bool false),(.int .i64 0),(.int .i64 0),(.list 2 [])],.store none 7 (.t 10) (.t 71),.asg 11 (.t 72)]) (.seq (.drw [(.t 10)] [] (some ([0,2,3,4,5,6,7,8,12],[1,9,10,11],13,[([14],15),([16],17)])) [] [.mov 73 (.t 8),.fadr 75 (.t 2) 11,.load 76 none (.t 75),.mov 77 (.t 76),.grd 77 true (.mov 78 (.t 9)),.grd 77 true (.bin 79 .eql (.t 78) (.c (.int .i64 0))),.pick 80 (.t 77) (.t 79) (.c (.bool false)),.mov 81 (.t 80),.fadr 85 (.t 2) 0,.ldz 74 (some 7) (.t 10),.grd 81 true (.mov 82 (.t 11)),.grd 81 true (.bin 83 .eql (.t 82) (.c (.int .i64 0))),.pick 84 (.t 81) (.t 83) (.c (.bool false)),.store none 1 (.t 85) (.t 73),.fadr 86 (.t 2) 2,.store none 7 (.t 86) (.t 74),.fadr 87 (.t 2) 11,.store none 1 (.t 87) (.t 84)]) (.seq (.ops [.load 88 (some 12) (.t 2),.store none 12 (.t 4) (.t 88)]) .ret)))))))))⟩
def fn33:VFn:=⟨2,15,[.tmp 4],(.seq (.ops [.box 3 (.t 1),.asg 4 (.c (.int .i64 0))]) (.seq (.seq (.ops [.mov 6 (.t 0),.call 7 57 [(.t 6)],.asg 5 (.t 7)]) (.seq (.ops [.mov 8 (.t 5),.bin 9 .neq (.t 8) (.c (.int .i64 0))]) (.cond (.t 9) (.seq (.ops [.mov 10 (.t 5),.asg 4 (.t 10)]) .ret) .skip))) (.seq (.drw [] [([0,2],1),([],3)] none [4] [.mov 11 (.t 0),.load 13 (some 3) (.t 3),.call 12 66 [(.t 11)],.call 14 65 [(.t 12),(.t 13)],.asg 4 (.t 14)]) .ret)))⟩
def fn34_b0:VCode:=(.seq (.seq (.ops [.mov 14 (.t 8),.bin 15 .geq (.t 14) (.c (.int .i64 0))]) (.cond (.t 15) .skip (.exit 0))) (.seq (.block 1 (.seq (.ops [.mov 19 (.t 0),.mov 20 (.t 8),.iadr 21 3 (.t 19) (.t 20),.load 22 (some 3) (.t 21),.mov 23 (.t 1),.mov 24 (.t 2),.call 25 67 [(.t 22),(.t 23),(.t 24)],.mov 18 (.t 25),.ext 26 (.t 18) 0,.ext 27 (.t 18) 1,.asg 9 (.t 26),.asg 10 (.t 27)]) (.seq (.ops [.mov 28 (.t 10)]) (.cond (.t 28) (.seq (.ops [.mov 29 (.t 0),.mov 30 (.t 8),.iadr 31 3 (.t 29) (.t 30),.fadr 32 (.t 31) 2,.load 33 none (.t 32),.mov 34 (.t 9),.iadr 35 8 (.t 33) (.t 34),.load 36 (some 8) (.t 35),.store none 8 (.t 6) (.t 36),.asg 7 (.c (.bool true))]) .ret) .skip)))) (.ops [.mov 16 (.t 8),.bin 17 .sub (.t 16) (.c (.int .i64 1)),.asg 8 (.t 17)])))
def fn34_l1:VCode :=
(.clean [0,1,2,6,8] [6,7] (.block 0 (.loop [0,1,2,6,8] fn34_b0)))
def fn34:VFn:=⟨3,38,[.cell 6 (some 8),.tmp 7],(.seq (.ops [.alloc 6 [(.int .u8 0),(.int .u8 0),(.int .u8 0),(.int .u8 0),(.int .u8 0),(.int .u8 0),(.int .u8 0),(.int .u8 0)],.asg 7 (.c (.bool false))]) (.seq (.seq (.ops [.mov 11 (.t 0),.len 12 (.t 11),.bin 13 .sub (.t 12) (.c (.int .i64 1)),.asg 8 (.t 13)])
  fn34_l1) (.seq (.ops [.build 37 [(.int .u8 0),(.int .u8 0),(.int .u8 0),(.int .u8 0),(.int .u8 0),(.int .u8 0),(.int .u8 0),(.int .u8 0)] [],.store none 8 (.t 6) (.t 37),.asg 7 (.c (.bool false))]) .ret)))⟩
def fn35_b0:VCode:=(.seq (.seq (.ops [.mov 5 (.t 4),.mov 6 (.t 0),.len 7 (.t 6),.bin 8 .lss (.t 5) (.t 7)]) (.cond (.t 8) .skip (.exit 0))) (.seq (.block 1 (.ops [.mov 11 (.t 3),.mov 12 (.t 0),.mov 13 (.t 4),.iadr 14 3 (.t 12) (.t 13),.fadr 15 (.t 14) 2,.load 16 none (.t 15),.len 17 (.t 16),.bin 18 .add (.t 11) (.t 17),.asg 3 (.t 18)])) (.ops [.mov 9 (.t 4),.bin 10 .add (.t 9) (.c (.int .i64 1)),.asg 4 (.t 10)])))
def fn35_l1:VCode :=
(.clean [0,3,4] [2,3] (.block 0 (.loop [0,3,4] fn35_b0)))
def fn35:VFn:=⟨1,20,[.tmp 2],(.seq (.ops [.asg 2 (.c (.int .i64 0))]) (.seq (.ops [.asg 3 (.c (.int .i64 0))]) (.seq (.seq (.ops [.asg 4 (.c (.int .i64 0))])
   fn35_l1) (.seq (.ops [.mov 19 (.t 3),.asg 2 (.t 19)]) .ret))))⟩
def fn36:VFn:=⟨4,18,[.cell 8 (some 5)],(.seq (.ops [.alloc 8 [(.int .i64 0),(.int .i64 0),(.int .i64 0),(.list 1 []),(.list 3 [])]]) (.seq (.ops [.mov 9 (.t 0),.mov 10 (.t 1),.mov 11 (.t 2),.mov 12 (.t 3),.build 13 [(.int .u8 0),(.int .u8 0),(.int .u8 0),(.int .u8 0),(.int .u8 0),(.int .u8 0),(.int .u8 0),(.int .u8 0)] [(0,1,(.t 12))],.mksl 14 8 [(.t 13)],.build 15 [(.int .i64 0),(.int .i64 0),(.list 0 [])] [(1,1,(.t 11)),(2,1,(.t 14))],.mksl 16 3 [(.t 15)],.build 17 [(.int .i64 0),(.int .i64 0),(.int .i64 0),(.list 1 []),(.list 3 [])] [(0,1,(.t 9)),(1,1,(.t 10)),(4,1,(.t 16))],.store none 5 (.t 8) (.t 17)]) .ret))⟩
def fn37:VFn:=⟨2,8,[.tmp 4],(.seq (.ops [.asg 4 (.c (.bool false))]) (.seq (.ops [.mov 5 (.t 0),.mov 6 (.t 1),.call 7 52 [(.t 5),(.t 6)],.asg 4 (.t 7)]) .ret))⟩
def fn38:VFn:=⟨1,12,[.tmp 2,.tmp 3],(.seq (.ops [.asg 2 (.nil 1),.asg 3 (.c (.int .i64 0))]) (.seq (.seq (.ops [.mov 5 (.t 0),.call 6 68 [(.t 5)],.asg 4 (.t 6)]) (.seq (.ops [.mov 7 (.t 4),.bin 8 .neq (.t 7) (.c (.int .i64 0))]) (.cond (.t 8) (.seq (.ops [.mov 9 (.t 4),.asg 2 (.nil 1),.asg 3 (.t 9)]) .ret) .skip))) (.seq (.ops [.mov 10 (.t 0),.call 11 69 [(.t 10),(.c (.func 70 []))],.asg 2 (.t 11),.asg 3 (.c (.int .i64 0))]) .ret)))⟩
def fn39:VFn:=⟨1,8,[.tmp 2],(.seq (.ops [.asg 2 (.nil 1)]) (.seq (.seq (.ops [.mov 3 (.t 0),.isn 4 false (.t 3)]) (.cond (.t 4) (.seq (.ops [.asg 2 (.nil 1)]) .ret) .skip)) (.seq (.ops [.mksl 5 1 [],.mov 6 (.t 0),.app 7 1 (.t 5) (.t 6),.asg 2 (.t 7)]) .ret)))⟩
def fn42:VFn:=⟨2,47,[.tmp 4],(.seq (.ops [.box 2 (.t 0),.asg 4 (.c (.int .i64 0))]) (.seq (.seq (.ops [.mov 9 (.t 1),.call 10 38 [(.t 9)],.mov 8 (.t 10),.ext 11 (.t 8) 0,.ext 12 (.t 8) 1,.asg 5 (.t 11),.asg 6 (.t 12)]) (.seq (.ops [.mov 13 (.t 6),.bin 14 .neq (.t 13) (.c (.int .i64 0))]) (.cond (.t 14) (.seq (.ops [.mov 15 (.t 6),.asg 4 (.t 15)]) .ret) .skip))) (.seq (.block 0 (.seq (.ops [.fadr 17 (.t 2) 0,.load 18 none (.t 17),.bin 19 .lss (.t 18) (.c (.int .i64 0)),.mov 20 (.t 19),.grd 20 false (.fadr 21 (.t 2) 1),.grd 20 false (.load 22 none (.t 21)),.grd 20 false (.fadr 23 (.t 2) 0),.grd 20 false (.load 24 none (.t 23)),.grd 20 false (.bin 25 .leq (.t 22) (.t 24)),.pick 26 (.t 20) (.c (.bool true)) (.t 25),.mov 27 (.t 26),.grd 27 false (.fadr 28 (.t 2) 1),.grd 27 false (.load 29 none (.t 28)),.grd 27 false (.bin 30 .gtr (.t 29) (.c (.int .i64 1073741824))),.pick 31 (.t 27) (.c (.bool true)) (.t 30),.asg 16 (.t 31)]) (.cond (.t 16) (.seq (.ops [.asg 4 (.c (.int .i64 2))]) .ret) (.seq (.ops [.fadr 33 (.t 2) 2,.load 34 none (.t 33),.call 35 72 [(.t 34),(.c (.int .i64 0)),(.c (.int .i64 1073741824))],.un 36 .not (.t 35),.asg 32 (.t 36)]) (.cond (.t 32) (.seq (.ops [.asg 4 (.c (.int .i64 24))]) .ret) .skip))))) (.seq (.seq (.ops [.fadr 37 (.t 2) 3,.load 38 none (.t 37),.call 39 73 [(.t 38),(.c (.int .i64 0))],.asg 7 (.t 39)]) (.seq (.ops [.mov 40 (.t 7),.bin 41 .neq (.t 40) (.c (.int .i64 0))]) (.cond (.t 41) (.seq (.ops [.mov 42 (.t 7),.asg 4 (.t 42)]) .ret) .skip))) (.seq (.ops [.fadr 43 (.t 2) 4,.load 44 none (.t 43),.mov 45 (.t 1),.call 46 74 [(.t 44),(.t 45)],.asg 4 (.t 46)]) .ret)))))⟩
def fn43:VFn:=⟨0,5,[.cell 0 (some 2)],(.seq (.ops [.alloc 0 [.nilf,.nilf]]) (.seq (.ops [.alloc 1 [.nilf],.store none 1 (.t 1) (.c (.func 75 []))]) (.seq (.ops [.mkf 2 77 [(.t 1)],.mkf 3 79 [(.t 1)],.build 4 [.nilf,.nilf] [(0,1,(.t 2)),(1,1,(.t 3))],.store none 2 (.t 0) (.t 4)]) .ret)))⟩
def fn44:VFn:=⟨1,5,[.tmp 2],(.seq (.ops [.box 1 (.t 0),.asg 2 (.c (.int .i64 0))]) (.seq (.seq (.ops [.fadr 3 (.t 1) 3,.load 4 none (.t 3)]) (.cond (.t 4) (.seq (.ops [.asg 2 (.c (.int .i64 1))]) .ret) .skip)) (.seq (.ops [.asg 2 (.c (.int .i64 0))]) .ret)))⟩
def fn45_b0:VCode:=(.seq (.ops [.bin 13 .lss (.t 12) (.t 11)]) (.seq (.cond (.t 13) .skip (.exit 0)) (.seq (.block 1 (.seq (.ops [.iadr 14 5 (.t 10) (.t 12),.load 15 (some 5) (.t 14),.alloc 5 [(.int .i64 0),(.int .i64 0),(.int .i64 0),(.list 1 []),(.list 3 [])],.store none 5 (.t 5) (.t 15)]) (.ops [.mov 16 (.t 3),.load 17 (some 5) (.t 5),.call 18 48 [(.t 17)],.mksl 19 5 [(.t 18)],.app 20 5 (.t 16) (.t 19),.asg 3 (.t 20)]))) (.ops [.bin 21 .add (.t 12) (.c (.int .i64 1)),.mov 12 (.t 21)]))))
def fn45_l1:VCode :=
(.clean [1,2,3,10,11,12,20,37] [1,2,3,20,37] (.block 0 (.loop [1,2,3,10,11,12,20,37] fn45_b0)))
def fn45_b2:VCode:=(.seq (.ops [.bin 26 .lss (.t 25) (.t 24)]) (.seq (.cond (.t 26) .skip (.exit 2)) (.seq (.block 3 (.seq (.ops [.iadr 27 2 (.t 23) (.t 25),.load 28 (some 2) (.t 27),.alloc 8 [(.int .i64 0),(.list 1 [])],.store none 2 (.t 8) (.t 28)]) (.drw [] [([0,1,2,3,4],5),([6],7)] (some ([],[],8,[])) [9] [.mov 29 (.t 6),.fadr 30 (.t 8) 0,.load 31 none (.t 30),.fadr 32 (.t 8) 1,.load 33 none (.t 32),.call 34 80 [(.t 33)],.build 35 [(.int .i64 0),(.list 1 [])] [(0,1,(.t 31)),(1,1,(.t 34))],.mksl 36 2 [(.t 35)],.app 37 2 (.t 29) (.t 36),.asg 6 (.t 37)]))) (.ops [.bin 38 .add (.t 25) (.c (.int .i64 1)),.mov 25 (.t 38)]))))
def fn45_l3:VCode :=
(.clean [1,2,3,6,20,23,24,25,37] [1,2,3,6] (.block 2 (.loop [1,2,3,6,20,23,24,25,37] fn45_b2)))
def fn45:VFn:=⟨1,48,[.own 2 7],(.seq (.ops [.box 1 (.t 0),.alloc 2 [(.int .i64 0),(.list 1 []),(.list 5 []),(.bool false),(.int .i64 0),(.int .i64 0),(.list 2 [])]]) (.seq (.ops [.asg 3 (.nil 5)]) (.seq (.seq (.ops [.fadr 9 (.t 1) 2,.load 10 none (.t 9),.len 11 (.t 10),.mov 12 (.c (.int .i64 0))])
   fn45_l1) (.seq (.ops [.asg 6 (.nil 2)]) (.seq (.seq (.ops [.fadr 22 (.t 1) 6,.load 23 none (.t 22),.len 24 (.t 23),.mov 25 (.c (.int .i64 0))])
    fn45_l3) (.seq (.ops [.fadr 39 (.t 1) 1,.load 40 none (.t 39),.call 41 39 [(.t 40)],.asg 42 (.t 3),.asg 43 (.t 6),.fadr 44 (.t 1) 1,.store none 1 (.t 44) (.t 41),.fadr 45 (.t 1) 2,.store none 1 (.t 45) (.t 42),.fadr 46 (.t 1) 6,.store none 1 (.t 46) (.t 43)]) (.seq (.ops [.ldm 47 7 (.t 1),.stw 7 (.t 2) (.t 47)]) .ret)))))))⟩
def fn48_b0:VCode:=(.seq (.ops [.bin 10 .lss (.t 9) (.t 8)]) (.seq (.cond (.t 10) .skip (.exit 0)) (.seq (.block 1 (.seq (.ops [.iadr 11 3 (.t 7) (.t 9),.load 12 (some 3) (.t 11),.alloc 5 [(.int .i64 0),(.int .i64 0),(.list 0 [])],.store none 3 (.t 5) (.t 12)]) (.seq (.ops [.fadr 13 (.t 5) 2,.load 14 none (.t 13),.call 15 86 [(.t 14)],.fadr 16 (.t 5) 2,.store none 1 (.t 16) (.t 15)]) (.ops [.mov 17 (.t 3),.load 18 (some 3) (.t 5),.mksl 19 3 [(.t 18)],.app 20 3 (.t 17) (.t 19),.asg 3 (.t 20)])))) (.ops [.bin 21 .add (.t 9) (.c (.int .i64 1)),.mov 9 (.t 21)]))))
def fn48_l1:VCode :=
(.clean [1,2,3,7,8,9,20] [1,2,3] (.block 0 (.loop [1,2,3,7,8,9,20] fn48_b0)))
def fn48:VFn:=⟨1,29,[.cell 2 (some 5)],(.seq (.ops [.box 1 (.t 0),.alloc 2 [(.int .i64 0),(.int .i64 0),(.int .i64 0),(.list 1 []),(.list 3 [])]]) (.seq (.ops [.asg 3 (.nil 3)]) (.seq (.seq (.ops [.fadr 6 (.t 1) 4,.load 7 none (.t 6),.len 8 (.t 7),.mov 9 (.c (.int .i64 0))])
   fn48_l1) (.seq (.ops [.fadr 22 (.t 1) 3,.load 23 none (.t 22),.call 24 39 [(.t 23)],.mov 25 (.t 3),.fadr 26 (.t 1) 3,.store none 1 (.t 26) (.t 24),.fadr 27 (.t 1) 4,.store none 1 (.t 27) (.t 25)]) (.seq (.ops [.load 28 (some 5) (.t 1),.store none 5 (.t 2) (.t 28)]) .ret)))))⟩
def fn49:VFn:=⟨0,2,[.cell 0 (some 2)],(.seq (.ops [.alloc 0 [.nilf,.nilf]]) (.seq (.ops [.build 1 [.nilf,.nilf] [(0,1,(.c (.func 87 []))),(1,1,(.c (.func 88 [])))],.store none 2 (.t 0) (.t 1)]) .ret))⟩
def fn52_b0:VCode:=(.seq (.seq (.ops [.mov 11 (.t 5),.mov 12 (.t 0),.len 13 (.t 12),.bin 14 .lss (.t 11) (.t 13)]) (.cond (.t 14) .skip (.exit 0))) (.seq (.block 1 (.seq (.drw [] [([0,1,2,3,4,5,6,7,8,9,10,11,12,13,14,15,16,17,18,19,20,21,22,23,24,25,26,27,28,29,30,31,32,33,34],35)] none [36,37] [.mov 17 (.t 0),.mov 18 (.t 5),.iadr 19 3 (.t 17) (.t 18),.fadr 20 (.t 19) 0,.load 21 none (.t 20),.mov 22 (.t 1),.mov 23 (.t 5),.iadr 24 3 (.t 22) (.t 23),.fadr 25 (.t 24) 0,.load 26 none (.t 25),.bin 27 .neq (.t 21) (.t 26),.mov 28 (.t 27),.grd 28 false (.mov 29 (.t 0)),.grd 28 false (.mov 30 (.t 5)),.grd 28 false (.iadr 31 3 (.t 29) (.t 30)),.grd 28 false (.fadr 32 (.t 31) 1),.grd 28 false (.load 33 none (.t 32)),.grd 28 false (.mov 34 (.t 1)),.grd 28 false (.mov 35 (.t 5)),.grd 28 false (.iadr 36 3 (.t 34) (.t 35)),.grd 28 false (.fadr 37 (.t 36) 1),.grd 28 false (.load 38 none (.t 37)),.grd 28 false (.bin 39 .neq (.t 33) (.t 38)),.pick 40 (.t 28) (.c (.bool true)) (.t 39),.mov 41 (.t 40),.grd 41 false (.mov 42 (.t 0)),.grd 41 false (.mov 43 (.t 5)),.grd 41 false (.iadr 44 3 (.t 42) (.t 43)),.grd 41 false (.fadr 45 (.t 44) 2),.grd 41 false (.load 46 none (.t 45)),.grd 41 false (.mov 47 (.t 1)),.grd 41 false (.mov 48 (.t 5)),.grd 41 false (.iadr 49 3 (.t 47) (.t 48)),.grd 41 false (.fadr 50 (.t 49) 2),.grd 41 false (.load 51 none (.t 50)),.grd 41 false (.call 52 93 [(.t 46),(.t 51)]),.grd 41 false (.un 53 .not (.t 52)),.pick 54 (.t 41) (.c (.bool true)) (.t 53)]) (.cond (.t 54) (.seq (.ops [.asg 4 (.c (.bool false))]) .ret) .skip))) (.ops [.mov 15 (.t 5),.bin 16 .add (.t 15) (.c (.int .i64 1)),.asg 5 (.t 16)])))
def fn52_l1:VCode :=
(.clean [0,1,5] [4] (.block 0 (.loop [0,1,5] fn52_b0)))
def fn52:VFn:=⟨2,55,[.tmp 4],(.seq (.ops [.asg 4 (.c (.bool false))]) (.seq (.seq (.ops [.mov 6 (.t 0),.len 7 (.t 6),.mov 8 (.t 1),.len 9 (.t 8),.bin 10 .neq (.t 7) (.t 9)]) (.cond (.t 10) (.seq (.ops [.asg 4 (.c (.bool false))]) .ret) .skip)) (.seq (.seq (.ops [.asg 5 (.c (.int .i64 0))])
   fn52_l1) (.seq (.ops [.asg 4 (.c (.bool true))]) .ret))))⟩
def fn53:VFn:=⟨1,6,[.tmp 2],(.seq (.ops [.asg 2 (.c (.int .i64 0))]) (.seq (.ops [.mov 3 (.t 0),.call 4 94 [(.t 3)],.call 5 68 [(.t 4)],.asg 2 (.t 5)]) .ret))⟩
def fn54_b0:VCode:=(.seq (.ops [.bin 18 .lss (.t 17) (.t 16)]) (.seq (.cond (.t 18) .skip (.exit 0)) (.seq (.block 1 (.seq (.ops [.mov 19 (.t 17),.iadr 20 1 (.t 15) (.t 17),.load 21 none (.t 20),.asg 7 (.t 19),.asg 8 (.t 21)]) (.seq (.ops [.mov 22 (.t 1),.mov 23 (.t 7),.iadr 24 1 (.t 22) (.t 23),.load 25 none (.t 24),.asg 9 (.t 25)]) (.seq (.ops [.mov 26 (.t 2),.mov 27 (.t 8),.mov 28 (.t 9),.callv 29 (.t 26) [(.t 27),(.t 28)],.un 30 .not (.t 29)]) (.cond (.t 30) (.seq (.ops [.asg 6 (.c (.bool false))]) .ret) .skip))))) (.ops [.bin 31 .add (.t 17) (.c (.int .i64 1)),.mov 17 (.t 31)]))))
def fn54_l1:VCode :=
(.clean [0,1,2,15,16,17] [6] (.block 0 (.loop [0,1,2,15,16,17] fn54_b0)))
def fn54:VFn:=⟨3,32,[.tmp 6],(.seq (.ops [.asg 6 (.c (.bool false))]) (.seq (.seq (.ops [.mov 10 (.t 0),.len 11 (.t 10),.mov 12 (.t 1),.len 13 (.t 12),.bin 14 .neq (.t 11) (.t 13)]) (.cond (.t 14) (.seq (.ops [.asg 6 (.c (.bool false))]) .ret) .skip)) (.seq (.seq (.ops [.mov 15 (.t 0),.len 16 (.t 15),.mov 17 (.c (.int .i64 0))])
   fn54_l1) (.seq (.ops [.asg 6 (.c (.bool true))]) .ret))))⟩
def fn55:VFn:=⟨2,9,[.tmp 4],(.seq (.ops [.asg 4 (.c (.bool false))]) (.seq (.ops [.mov 5 (.t 0),.len 6 (.t 5),.mov 7 (.t 1),.bin 8 .eql (.t 6) (.t 7),.asg 4 (.t 8)]) .ret))⟩
def fn56_b0:VCode:=(.seq (.ops [.bin 21 .lss (.t 20) (.t 19)]) (.seq (.cond (.t 21) .skip (.exit 2)) (.seq (.block 3 (.seq (.ops [.iadr 22 2 (.t 18) (.t 20),.load 23 (some 2) (.t 22),.alloc 9 [(.int .i64 0),(.int .i64 0)],.store none 2 (.t 9) (.t 23)]) (.drw [] [([0,1,2,3,4,5,6,7,8,9,10,11,12,13,14,15],16),([17],18)] (some ([],[],19,[])) [20] [.mov 24 (.t 5),.mov 25 (.t 6),.fadr 26 (.t 9) 0,.load 27 none (.t 26),.mov 28 (.t 1),.mov 29 (.t 6),.iadr 30 1 (.t 28) (.t 29),.load 31 none (.t 30),.fadr 32 (.t 9) 0,.load 33 none (.t 32),.fadr 34 (.t 9) 0,.load 35 none (.t 34),.fadr 36 (.t 9) 1,.load 37 none (.t 36),.bin 38 .add (.t 35) (.t 37),.sli 39 8 (.t 31) (some (.t 33)) (some (.t 38)),.call 40 86 [(.t 39)],.build 41 [(.int .i64 0),(.int .i64 0),(.list 0 [])] [(0,1,(.t 25)),(1,1,(.t 27)),(2,1,(.t 40))],.mksl 42 3 [(.t 41)],.app 43 3 (.t 24) (.t 42),.asg 5 (.t 43)]))) (.ops [.bin 44 .add (.t 20) (.c (.int .i64 1)),.mov 20 (.t 44)]))))
def fn56_l1:VCode :=
(.clean [0,1,5,6,10,11,12,18,19,20,43] [0,1,4,5,10,11,12,43] (.block 2 (.loop [0,1,5,6,10,11,12,18,19,20,43] fn56_b0)))
def fn56_b2:VCode:=(.seq (.ops [.bin 13 .lss (.t 12) (.t 11)]) (.seq (.cond (.t 13) .skip (.exit 0)) (.seq (.block 1 (.seq (.ops [.mov 14 (.t 12),.iadr 15 2 (.t 10) (.t 12),.load 16 (some 2) (.t 15),.alloc 7 [(.int .i64 0),(.list 1 [])],.asg 6 (.t 14),.store none 2 (.t 7) (.t 16)]) (.seq (.ops [.load 17 (some 2) (.t 7),.call 18 95 [(.t 17)],.len 19 (.t 18),.mov 20 (.c (.int .i64 0))])
    fn56_l1))) (.ops [.bin 45 .add (.t 12) (.c (.int .i64 1)),.mov 12 (.t 45)]))))
def fn56_l3:VCode :=
(.clean [0,1,5,10,11,12,43] [4,5] (.block 0 (.loop [0,1,5,10,11,12,43] fn56_b2)))
def fn56:VFn:=⟨2,47,[.tmp 4],(.seq (.ops [.asg 4 (.nil 3)]) (.seq (.ops [.asg 5 (.nil 3)]) (.seq (.seq (.ops [.mov 10 (.t 0),.len 11 (.t 10),.mov 12 (.c (.int .i64 0))])
   fn56_l3) (.seq (.ops [.mov 46 (.t 5),.asg 4 (.t 46)]) .ret))))⟩
def fn57:VFn:=⟨1,6,[.tmp 2],(.seq (.ops [.asg 2 (.c (.int .i64 0))]) (.seq (.ops [.mov 3 (.t 0),.call 4 66 [(.t 3)],.call 5 62 [(.t 4)],.asg 2 (.t 5)]) .ret))⟩
def fn62_b0:VCode:=(.seq (.seq (.ops [.mov 12 (.t 3),.mov 13 (.t 0),.len 14 (.t 13),.bin 15 .lss (.t 12) (.t 14)]) (.cond (.t 15) .skip (.exit 0))) (.seq (.block 1 (.seq (.ops [.mov 18 (.t 0),.mov 19 (.t 3),.iadr 20 1 (.t 18) (.t 19),.load 21 none (.t 20),.bin 22 .lss (.t 21) (.c (.int .i64 1)),.mov 23 (.t 22),.grd 23 false (.mov 24 (.t 0)),.grd 23 false (.mov 25 (.t 3)),.grd 23 false (.iadr 26 1 (.t 24) (.t 25)),.grd 23 false (.load 27 none (.t 26)),.grd 23 false (.bin 28 .gtr (.t 27) (.c (.int .i64 4096))),.pick 29 (.t 23) (.c (.bool true)) (.t 28)]) (.cond (.t 29) (.seq (.ops [.asg 2 (.c (.int .i64 2))]) .ret) .skip))) (.ops [.mov 16 (.t 3),.bin 17 .add (.t 16) (.c (.int .i64 1)),.asg 3 (.t 17)])))
def fn62_l1:VCode :=
(.clean [0,3] [2] (.block 0 (.loop [0,3] fn62_b0)))
def fn62:VFn:=⟨1,30,[.tmp 2],(.seq (.ops [.asg 2 (.c (.int .i64 0))]) (.seq (.seq (.ops [.mov 4 (.t 0),.len 5 (.t 4),.bin 6 .lss (.t 5) (.c (.int .i64 1)),.mov 7 (.t 6),.grd 7 false (.mov 8 (.t 0)),.grd 7 false (.len 9 (.t 8)),.grd 7 false (.bin 10 .gtr (.t 9) (.c (.int .i64 8))),.pick 11 (.t 7) (.c (.bool true)) (.t 10)]) (.cond (.t 11) (.seq (.ops [.asg 2 (.c (.int .i64 6))]) .ret) .skip)) (.seq (.seq (.ops [.asg 3 (.c (.int .i64 0))])
   fn62_l1) (.seq (.ops [.asg 2 (.c (.int .i64 0))]) .ret))))⟩
def fn63_b0:VCode:=(.seq (.seq (.ops [.mov 8 (.t 4),.mov 9 (.t 0),.len 10 (.t 9),.bin 11 .lss (.t 8) (.t 10)]) (.cond (.t 11) .skip (.exit 0))) (.seq (.block 1 (.seq (.drw [] [([1,2,3,4],0),([],5)] none [6] [.mov 15 (.t 0),.mov 16 (.t 4),.iadr 17 3 (.t 15) (.t 16),.load 18 (some 3) (.t 17),.call 14 97 [],.call 19 65 [(.t 14),(.t 18)],.asg 5 (.t 19)]) (.seq (.ops [.mov 20 (.t 5),.bin 21 .neq (.t 20) (.c (.int .i64 0))]) (.cond (.t 21) (.seq (.ops [.mov 22 (.t 5),.asg 2 (.nil 3),.asg 3 (.t 22)]) .ret) .skip)))) (.ops [.mov 12 (.t 4),.bin 13 .add (.t 12) (.c (.int .i64 1)),.asg 4 (.t 13)])))
def fn63_l1:VCode :=
(.clean [0,4,34] [0,2,3,34] (.block 0 (.loop [0,4,34] fn63_b0)))
def fn63_b2:VCode:=(.seq (.seq (.ops [.mov 23 (.t 7),.bin 24 .lss (.t 23) (.c (.int .i64 8))]) (.cond (.t 24) .skip (.exit 2))) (.seq (.block 3 (.ops [.mov 27 (.t 6),.mov 28 (.t 0),.mov 29 (.t 7),.mov 30 (.t 0),.mov 31 (.t 7),.call 32 99 [(.t 30),(.t 31)],.call 33 98 [(.t 28),(.t 29),(.t 32)],.app 34 3 (.t 27) (.t 33),.asg 6 (.t 34)])) (.ops [.mov 25 (.t 7),.bin 26 .add (.t 25) (.c (.int .i64 1)),.asg 7 (.t 26)])))
def fn63_l3:VCode :=
(.clean [0,6,7,34] [2,3,6] (.block 2 (.loop [0,6,7,34] fn63_b2)))
def fn63:VFn:=⟨1,36,[.tmp 2,.tmp 3],(.seq (.ops [.asg 2 (.nil 3),.asg 3 (.c (.int .i64 0))]) (.seq (.seq (.ops [.asg 4 (.c (.int .i64 0))])
  fn63_l1) (.seq (.ops [.asg 6 (.nil 3)]) (.seq (.seq (.ops [.asg 7 (.c (.int .i64 0))])
   fn63_l3) (.seq (.ops [.mov 35 (.t 6),.asg 2 (.t 35),.asg 3 (.c (.int .i64 0))]) .ret)))))⟩
def fn64_b0:VCode:=(.seq (.ops [.bin 22 .lss (.t 21) (.t 20)]) (.seq (.cond (.t 22) .skip (.exit 0)) (.seq (.block 1 (.seq (.ops [.iadr 23 1 (.t 19) (.t 21),.load 24 none (.t 23),.asg 9 (.t 24)]) (.ops [.mov 25 (.t 7),.mov 26 (.t 9),.len 27 (.t 26),.mksl 28 1 [(.t 27)],.app 29 1 (.t 25) (.t 28),.asg 7 (.t 29)]))) (.ops [.bin 30 .add (.t 21) (.c (.int .i64 1)),.mov 21 (.t 30)]))))
def fn64_l1:VCode :=
(.clean [0,3,7,19,20,21,29] [0,3,4,5,7] (.block 0 (.loop [0,3,7,19,20,21,29] fn64_b0)))
def fn64:VFn:=⟨2,47,[.tmp 4,.tmp 5],(.seq (.ops [.box 3 (.t 1),.asg 4 (.nil 1),.asg 5 (.c (.int .i64 0))]) (.seq (.seq (.ops [.mov 14 (.t 0),.call 15 53 [(.t 14)],.asg 6 (.t 15)]) (.seq (.ops [.mov 16 (.t 6),.bin 17 .neq (.t 16) (.c (.int .i64 0))]) (.cond (.t 17) (.seq (.ops [.mov 18 (.t 6),.asg 4 (.nil 1),.asg 5 (.t 18)]) .ret) .skip))) (.seq (.ops [.asg 7 (.nil 1)]) (.seq (.seq (.ops [.mov 19 (.t 0),.len 20 (.t 19),.mov 21 (.c (.int .i64 0))])
   fn64_l1) (.seq (.seq (.ops [.load 31 (some 5) (.t 3),.mov 32 (.t 7),.call 33 42 [(.t 31),(.t 32)],.asg 10 (.t 33)]) (.seq (.ops [.mov 34 (.t 10),.bin 35 .neq (.t 34) (.c (.int .i64 0))]) (.cond (.t 35) (.seq (.ops [.mov 36 (.t 10),.asg 4 (.nil 1),.asg 5 (.t 36)]) .ret) .skip))) (.seq (.ops [.mov 38 (.t 0),.fadr 39 (.t 3) 4,.load 40 none (.t 39),.call 41 100 [(.t 38),(.t 40)],.mov 37 (.t 41),.ext 42 (.t 37) 0,.ext 43 (.t 37) 1,.ext 44 (.t 37) 2,.asg 11 (.t 42),.asg 12 (.t 43),.asg 13 (.t 44)]) (.seq (.ops [.mov 45 (.t 11),.mov 46 (.t 13),.asg 4 (.t 45),.asg 5 (.t 46)]) .ret)))))))⟩
def fn65:VFn:=⟨2,46,[.tmp 4],(.seq (.ops [.box 3 (.t 1),.asg 4 (.c (.int .i64 0))]) (.seq (.seq (.ops [.fadr 5 (.t 3) 0,.load 6 none (.t 5),.bin 7 .lss (.t 6) (.c (.int .i64 0)),.mov 8 (.t 7),.grd 8 false (.fadr 9 (.t 3) 0),.grd 8 false (.load 10 none (.t 9)),.grd 8 false (.mov 11 (.t 0)),.grd 8 false (.len 12 (.t 11)),.grd 8 false (.bin 13 .geq (.t 10) (.t 12)),.pick 14 (.t 8) (.c (.bool true)) (.t 13)]) (.cond (.t 14) (.seq (.ops [.asg 4 (.c (.int .i64 7))]) .ret) .skip)) (.seq (.seq (.ops [.fadr 15 (.t 3) 2,.load 16 none (.t 15),.len 17 (.t 16),.bin 18 .eql (.t 17) (.c (.int .i64 0))]) (.cond (.t 18) (.seq (.ops [.asg 4 (.c (.int .i64 1))]) .ret) .skip)) (.seq (.seq (.drw [] [] none [0,1,2,3,4,5,6,7,8,9,10,11,12,13,14,15,16,17,18,19,20,21,22,23,24,25,26] [.fadr 19 (.t 3) 1,.load 20 none (.t 19),.bin 21 .lss (.t 20) (.c (.int .i64 0)),.mov 22 (.t 21),.grd 22 false (.fadr 23 (.t 3) 1),.grd 22 false (.load 24 none (.t 23)),.grd 22 false (.mov 25 (.t 0)),.grd 22 false (.fadr 26 (.t 3) 0),.grd 22 false (.load 27 none (.t 26)),.grd 22 false (.iadr 28 1 (.t 25) (.t 27)),.grd 22 false (.load 29 none (.t 28)),.grd 22 false (.bin 30 .geq (.t 24) (.t 29)),.pick 31 (.t 22) (.c (.bool true)) (.t 30),.mov 32 (.t 31),.grd 32 false (.fadr 33 (.t 3) 2),.grd 32 false (.load 34 none (.t 33)),.grd 32 false (.len 35 (.t 34)),.grd 32 false (.mov 36 (.t 0)),.grd 32 false (.fadr 37 (.t 3) 0),.grd 32 false (.load 38 none (.t 37)),.grd 32 false (.iadr 39 1 (.t 36) (.t 38)),.grd 32 false (.load 40 none (.t 39)),.grd 32 false (.fadr 41 (.t 3) 1),.grd 32 false (.load 42 none (.t 41)),.grd 32 false (.bin 43 .sub (.t 40) (.t 42)),.grd 32 false (.bin 44 .gtr (.t 35) (.t 43)),.pick 45 (.t 32) (.c (.bool true)) (.t 44)]) (.cond (.t 45) (.seq (.ops [.asg 4 (.c (.int .i64 2))]) .ret) .skip)) (.seq (.ops [.asg 4 (.c (.int .i64 0))]) .ret)))))⟩
def fn66_b0:VCode:=(.seq (.seq (.ops [.mov 5 (.t 4),.mov 6 (.t 0),.len 7 (.t 6),.bin 8 .lss (.t 5) (.t 7)]) (.cond (.t 8) .skip (.exit 0))) (.seq (.block 1 (.ops [.mov 11 (.t 3),.mov 12 (.t 0),.mov 13 (.t 4),.iadr 14 1 (.t 12) (.t 13),.load 15 none (.t 14),.len 16 (.t 15),.mksl 17 1 [(.t 16)],.app 18 1 (.t 11) (.t 17),.asg 3 (.t 18)])) (.ops [.mov 9 (.t 4),.bin 10 .add (.t 9) (.c (.int .i64 1)),.asg 4 (.t 10)])))
def fn66_l1:VCode :=
(.clean [0,3,4,18] [2,3] (.block 0 (.loop [0,3,4,18] fn66_b0)))
def fn66:VFn:=⟨1,20,[.tmp 2],(.seq (.ops [.asg 2 (.nil 1)]) (.seq (.ops [.asg 3 (.nil 1)]) (.seq (.seq (.ops [.asg 4 (.c (.int .i64 0))])
   fn66_l1) (.seq (.ops [.mov 19 (.t 3),.asg 2 (.t 19)]) .ret))))⟩
def fn67:VFn:=⟨3,56,[.tmp 6,.tmp 7],(.seq (.ops [.box 3 (.t 0),.asg 6 (.c (.int .i64 0)),.asg 7 (.c (.bool false))]) (.seq (.seq (.ops [.fadr 10 (.t 3) 0,.load 11 none (.t 10),.mov 12 (.t 1),.bin 13 .neq (.t 11) (.t 12),.mov 14 (.t 13),.grd 14 false (.fadr 15 (.t 3) 2),.grd 14 false (.load 16 none (.t 15)),.grd 14 false (.len 17 (.t 16)),.grd 14 false (.bin 18 .eql (.t 17) (.c (.int .i64 0))),.pick 19 (.t 14) (.c (.bool true)) (.t 18),.mov 20 (.t 19),.grd 20 false (.fadr 21 (.t 3) 1),.grd 20 false (.load 22 none (.t 21)),.grd 20 false (.mov 23 (.t 2)),.grd 20 false (.bin 24 .gtr (.t 22) (.t 23)),.pick 25 (.t 20) (.c (.bool true)) (.t 24)]) (.cond (.t 25) (.seq (.ops [.asg 6 (.c (.int .i64 0)),.asg 7 (.c (.bool false))]) .ret) .skip)) (.seq (.seq (.ops [.fadr 26 (.t 3) 1,.load 27 none (.t 26),.bin 28 .lss (.t 27) (.c (.int .i64 0)),.mov 29 (.t 28),.grd 29 true (.mov 30 (.t 2)),.grd 29 true (.bin 31 .geq (.t 30) (.c (.int .i64 0))),.pick 32 (.t 29) (.t 31) (.c (.bool false))]) (.cond (.t 32) (.seq (.seq (.ops [.fadr 33 (.t 3) 1,.load 34 none (.t 33),.fadr 35 (.t 3) 2,.load 36 none (.t 35),.len 37 (.t 36),.bin 38 .add (.t 34) (.t 37),.asg 8 (.t 38)]) (.seq (.ops [.mov 39 (.t 2),.mov 40 (.t 8),.bin 41 .geq (.t 39) (.t 40)]) (.cond (.t 41) (.seq (.ops [.asg 6 (.c (.int .i64 0)),.asg 7 (.c (.bool false))]) .ret) .skip))) (.seq (.ops [.mov 42 (.t 2),.fadr 43 (.t 3) 1,.load 44 none (.t 43),.bin 45 .sub (.t 42) (.t 44),.asg 6 (.t 45),.asg 7 (.c (.bool true))]) .ret)) .skip)) (.seq (.ops [.mov 46 (.t 2),.fadr 47 (.t 3) 1,.load 48 none (.t 47),.bin 49 .sub (.t 46) (.t 48),.asg 9 (.t 49)]) (.seq (.drw [] [] none [0,1,2,3,4,5,6,7] [.mov 50 (.t 9),.mov 51 (.t 9),.fadr 52 (.t 3) 2,.load 53 none (.t 52),.len 54 (.t 53),.bin 55 .lss (.t 51) (.t 54),.asg 6 (.t 50),.asg 7 (.t 55)]) .ret)))))⟩
def fn68:VFn:=⟨1,13,[.tmp 2],(.seq (.ops [.asg 2 (.c (.int .i64 0))]) (.seq (.seq (.ops [.mov 3 (.t 0),.len 4 (.t 3),.bin 5 .lss (.t 4) (.c (.int .i64 1)),.mov 6 (.t 5),.grd 6 false (.mov 7 (.t 0)),.grd 6 false (.len 8 (.t 7)),.grd 6 false (.bin 9 .gtr (.t 8) (.c (.int .i64 8))),.pick 10 (.t 6) (.c (.bool true)) (.t 9)]) (.cond (.t 10) (.seq (.ops [.asg 2 (.c (.int .i64 6))]) .ret) .skip)) (.seq (.seq (.ops [.mov 11 (.t 0),.call 12 101 [(.t 11),(.c (.func 102 []))]]) (.cond (.t 12) (.seq (.ops [.asg 2 (.c (.int .i64 2))]) .ret) .skip)) (.seq (.ops [.asg 2 (.c (.int .i64 0))]) .ret))))⟩
def fn69_b0:VCode:=(.seq (.ops [.bin 14 .lss (.t 13) (.t 12)]) (.seq (.cond (.t 14) .skip (.exit 0)) (.seq (.block 1 (.seq (.ops [.iadr 15 1 (.t 11) (.t 13),.load 16 none (.t 15),.asg 7 (.t 16)]) (.ops [.mov 17 (.t 5),.mov 18 (.t 1),.mov 19 (.t 7),.callv 20 (.t 18) [(.t 19)],.mksl 21 1 [(.t 20)],.app 22 1 (.t 17) (.t 21),.asg 5 (.t 22)]))) (.ops [.bin 23 .add (.t 13) (.c (.int .i64 1)),.mov 13 (.t 23)]))))
def fn69_l1:VCode :=
(.clean [0,1,5,10,11,12,13,22] [4,5] (.block 0 (.loop [0,1,5,10,11,12,13,22] fn69_b0)))
def fn69:VFn:=⟨2,25,[.tmp 4],(.seq (.ops [.asg 4 (.nil 1)]) (.seq (.ops [.mov 8 (.t 0),.len 9 (.t 8),.make 10 (.list 0 []) (.c (.int .i64 0)) (.t 9),.asg 5 (.t 10)]) (.seq (.seq (.ops [.mov 11 (.t 0),.len 12 (.t 11),.mov 13 (.c (.int .i64 0))])
   fn69_l1) (.seq (.ops [.mov 24 (.t 5),.asg 4 (.t 24)]) .ret))))⟩
def fn70:VFn:=⟨1,5,[.tmp 2],(.seq (.ops [.asg 2 (.nil 8)]) (.seq (.ops [.mov 3 (.t 0),.make 4 (.agg [(.int .u8 0),(.int .u8 0),(.int .u8 0),(.int .u8 0),(.int .u8 0),(.int .u8 0),(.int .u8 0),(.int .u8 0)]) (.t 3) (.t 3),.asg 2 (.t 4)]) .ret))⟩
def fn72:VFn:=⟨3,15,[.tmp 6],(.seq (.ops [.asg 6 (.c (.bool false))]) (.seq (.ops [.mov 7 (.t 0),.mov 8 (.t 1),.bin 9 .geq (.t 7) (.t 8),.mov 10 (.t 9),.grd 10 true (.mov 11 (.t 0)),.grd 10 true (.mov 12 (.t 2)),.grd 10 true (.bin 13 .leq (.t 11) (.t 12)),.pick 14 (.t 10) (.t 13) (.c (.bool false)),.asg 6 (.t 14)]) .ret))⟩
def fn73:VFn:=⟨2,12,[.tmp 4],(.seq (.ops [.asg 4 (.c (.int .i64 0))]) (.seq (.seq (.ops [.mov 5 (.t 0),.len 6 (.t 5),.mov 7 (.t 1),.call 8 72 [(.t 6),(.t 7),(.c (.int .i64 8))],.un 9 .not (.t 8)]) (.cond (.t 9) (.seq (.ops [.asg 4 (.c (.int .i64 6))]) .ret) .skip)) (.seq (.seq (.ops [.mov 10 (.t 0),.call 11 101 [(.t 10),(.c (.func 103 []))]]) (.cond (.t 11) (.seq (.ops [.asg 4 (.c (.int .i64 2))]) .ret) .skip)) (.seq (.ops [.asg 4 (.c (.int .i64 0))]) .ret))))⟩
def fn74:VFn:=⟨2,18,[.tmp 4],(.seq (.ops [.asg 4 (.c (.int .i64 0))]) (.seq (.ops [.mov 8 (.t 1),.call 9 38 [(.t 8)],.mov 7 (.t 9),.ext 10 (.t 7) 0,.ext 11 (.t 7) 1,.alloc 5 [(.list 1 [])],.store none 1 (.t 5) (.t 10),.asg 6 (.t 11)]) (.seq (.seq (.ops [.mov 12 (.t 6),.bin 13 .neq (.t 12) (.c (.int .i64 0))]) (.cond (.t 13) (.seq (.ops [.mov 14 (.t 6),.asg 4 (.t 14)]) .ret) .skip)) (.seq (.ops [.mov 15 (.t 0),.mkf 16 105 [(.t 5)],.call 17 104 [(.t 15),(.t 16)],.asg 4 (.t 17)]) .ret))))⟩
def fn75_b0:VCode:=(.seq (.ops [.bin 12 .lss (.t 11) (.t 10)]) (.seq (.cond (.t 12) .skip (.exit 0)) (.seq (.block 1 (.seq (.ops [.iadr 13 5 (.t 9) (.t 11),.load 14 (some 5) (.t 13),.alloc 8 [(.int .i64 0),(.int .i64 0),(.int .i64 0),(.list 1 []),(.list 3 [])],.store none 5 (.t 8) (.t 14)]) (.seq (.ops [.fadr 16 (.t 2) 6,.load 17 none (.t 16),.load 18 (some 5) (.t 8),.lin 19 76 (.t 17) [(.t 18)],.mov 15 (.t 19),.ext 20 (.t 15) 0,.ext 21 (.t 15) 1,.fadr 22 (.t 2) 6,.store none 1 (.t 22) (.t 20),.asg 6 (.t 21)]) (.seq (.ops [.mov 23 (.t 6),.bin 24 .neq (.t 23) (.c (.int .i64 0))]) (.cond (.t 24) (.seq (.ops [.build 25 [(.int .i64 0),(.list 1 []),(.list 5 []),(.bool false),(.int .i64 0),(.int .i64 0),(.list 2 [])] [],.mov 26 (.t 6),.store none 7 (.t 4) (.t 25),.asg 5 (.t 26)]) .ret) .skip))))) (.ops [.bin 27 .add (.t 11) (.c (.int .i64 1)),.mov 11 (.t 27)]))))
def fn75_l1:VCode :=
(.clean [1,2,4,9,10,11] [2,4,5] (.block 0 (.loop [1,2,4,9,10,11] fn75_b0)))
def fn75:VFn:=⟨2,29,[.cell 4 (some 7),.tmp 5],(.seq (.ops [.bxw 2 (.t 0),.alloc 4 [(.int .i64 0),(.list 1 []),(.list 5 []),(.bool false),(.int .i64 0),(.int .i64 0),(.list 2 [])],.asg 5 (.c (.int .i64 0))]) (.seq (.ops [.asg 6 (.c (.int .i64 0))]) (.seq (.seq (.ops [.mov 9 (.t 1),.len 10 (.t 9),.mov 11 (.c (.int .i64 0))])
   fn75_l1) (.seq (.ops [.load 28 (some 7) (.t 2),.store none 7 (.t 4) (.t 28),.asg 5 (.c (.int .i64 0))]) .ret))))⟩
def fn76_b0:VCode:=(.seq (.ops [.bin 22 .lss (.t 21) (.t 20)]) (.seq (.cond (.t 22) .skip (.exit 2)) (.seq (.block 3 (.seq (.ops [.iadr 23 2 (.t 19) (.t 21),.load 24 (some 2) (.t 23),.alloc 8 [(.int .i64 0),(.int .i64 0)],.store none 2 (.t 8) (.t 24)]) (.seq (.drs [] [0,3,6,9,10,12,13,19,20,21] [.mov 26 (.t 0),.mov 27 (.t 6),.iadr 28 2 (.t 26) (.t 27),.load 29 (some 2) (.t 28),.load 30 (some 2) (.t 8),.call 31 108 [(.t 29),(.t 30)],.mov 25 (.t 31),.ext 32 (.t 25) 0,.ext 33 (.t 25) 1,.alloc 9 [(.int .i64 0),(.list 1 [])],.store none 2 (.t 9) (.t 32),.asg 10 (.t 33)]
    [⟨[([0,1,2,3,4],5),([6,7,8],9)],(some ([],[],10,[])),[11],[0,1,2,3,4,5,6,7,8,9,10,11],false⟩,⟨[([0,1,2,3,4],9),([],5)],(some ([6,7],[8],10,[])),[11],[0,1,2,3,4,9,5,6,7,8,10,11],false⟩]) (.seq (.seq (.ops [.mov 34 (.t 10),.bin 35 .neq (.t 34) (.c (.int .i64 0))]) (.cond (.t 35) (.seq (.ops [.mov 36 (.t 10),.asg 4 (.nil 2),.asg 5 (.t 36)]) .ret) .skip)) (.ops [.mov 37 (.t 0),.mov 38 (.t 6),.load 39 (some 2) (.t 9),.iadr 40 2 (.t 37) (.t 38),.store none 2 (.t 40) (.t 39)]))))) (.ops [.bin 41 .add (.t 21) (.c (.int .i64 1)),.mov 21 (.t 41)]))))
def fn76_l1:VCode :=
(.clean [0,3,6,12,13,19,20,21] [0,3,4,5,12,13] (.block 2 (.loop [0,3,6,12,13,19,20,21] fn76_b0)))
def fn76_b2:VCode:=(.seq (.ops [.bin 14 .lss (.t 13) (.t 12)]) (.seq (.cond (.t 14) .skip (.exit 0)) (.seq (.block 1 (.seq (.ops [.mov 15 (.t 13),.asg 6 (.t 15)]) (.seq (.ops [.fadr 16 (.t 3) 4,.load 17 none (.t 16),.mov 18 (.t 6),.call 19 107 [(.t 17),(.t 18)],.len 20 (.t 19),.mov 21 (.c (.int .i64 0))])
    fn76_l1))) (.ops [.bin 42 .add (.t 13) (.c (.int .i64 1)),.mov 13 (.t 42)]))))
def fn76_l3:VCode :=
(.clean [0,3,12,13] [0,4,5] (.block 0 (.loop [0,3,12,13] fn76_b2)))
def fn76:VFn:=⟨2,44,[.tmp 4,.tmp 5],(.seq (.ops [.box 3 (.t 1),.asg 4 (.nil 2),.asg 5 (.c (.int .i64 0))]) (.seq (.seq (.ops [.mov 11 (.t 0),.len 12 (.t 11),.mov 13 (.c (.int .i64 0))])
  fn76_l3) (.seq (.ops [.mov 43 (.t 0),.asg 4 (.t 43),.asg 5 (.c (.int .i64 0))]) .ret)))⟩
def fn77_b0:VCode:=(.seq (.ops [.bin 30 .lss (.t 29) (.t 28)]) (.seq (.cond (.t 30) .skip (.exit 0)) (.seq (.block 1 (.seq (.ops [.iadr 31 1 (.t 27) (.t 29),.load 32 none (.t 31),.asg 8 (.t 32)]) (.seq (.ops [.mov 34 (.t 8),.call 35 78 [(.t 34)],.mov 33 (.t 35),.ext 36 (.t 33) 0,.ext 37 (.t 33) 1,.alloc 9 [(.int .i64 0),(.list 1 [])],.store none 2 (.t 9) (.t 36),.asg 10 (.t 37)]) (.seq (.seq (.ops [.mov 38 (.t 10),.bin 39 .neq (.t 38) (.c (.int .i64 0))]) (.cond (.t 39) (.seq (.ops [.build 40 [(.int .i64 0),(.list 1 []),(.list 5 []),(.bool false),(.int .i64 0),(.int .i64 0),(.list 2 [])] [],.mov 41 (.t 10),.store none 7 (.t 5) (.t 40),.asg 6 (.t 41)]) .ret) .skip)) (.ops [.fadr 42 (.t 3) 6,.load 43 none (.t 42),.load 44 (some 2) (.t 9),.mksl 45 2 [(.t 44)],.app 46 2 (.t 43) (.t 45),.fadr 47 (.t 3) 6,.store none 1 (.t 47) (.t 46)]))))) (.ops [.bin 48 .add (.t 29) (.c (.int .i64 1)),.mov 29 (.t 48)]))))
def fn77_l1:VCode :=
(.clean [2,3,4,5,27,28,29] [2,3,4,5,6] (.block 0 (.loop [2,3,4,5,27,28,29] fn77_b0)))
def fn77:VFn:=⟨3,62,[.cell 5 (some 7),.tmp 6],(.seq (.ops [.bxw 3 (.t 0),.box 4 (.t 1),.alloc 5 [(.int .i64 0),(.list 1 []),(.list 5 []),(.bool false),(.int .i64 0),(.int .i64 0),(.list 2 [])],.asg 6 (.c (.int .i64 0))]) (.seq (.seq (.ops [.fadr 12 (.t 3) 2,.load 13 none (.t 12),.len 14 (.t 13),.fadr 15 (.t 3) 0,.load 16 none (.t 15),.bin 17 .lss (.t 14) (.t 16)]) (.cond (.t 17) (.seq (.drw [] [([0,1,2],3),([],4)] (some ([],[],5,[([6],7)])) [] [.fadr 18 (.t 3) 2,.load 19 none (.t 18),.load 20 (some 5) (.t 4),.call 21 48 [(.t 20)],.mksl 22 5 [(.t 21)],.app 23 5 (.t 19) (.t 22),.fadr 24 (.t 3) 2,.store none 1 (.t 24) (.t 23)]) (.seq (.ops [.load 25 (some 7) (.t 3),.store none 7 (.t 5) (.t 25),.asg 6 (.c (.int .i64 0))]) .ret)) .skip)) (.seq (.seq (.ops [.fadr 26 (.t 3) 1,.load 27 none (.t 26),.len 28 (.t 27),.mov 29 (.c (.int .i64 0))])
   fn77_l1) (.seq (.ops [.fadr 49 (.t 3) 2,.load 50 none (.t 49),.load 51 (some 5) (.t 4),.mksl 52 5 [(.t 51)],.app 53 5 (.t 50) (.t 52),.asg 11 (.t 53)]) (.seq (.ops [.fadr 54 (.t 3) 2,.store none 1 (.t 54) (.nil 5),.fadr 55 (.t 3) 3,.store none 1 (.t 55) (.c (.bool true))]) (.seq (.ops [.load 56 none (.t 2),.ldm 57 7 (.t 3),.mvz 58 (.t 11),.linv 59 (.t 56) (.t 57) [(.t 58)],.ext 60 (.t 59) 0,.ext 61 (.t 59) 1,.store none 7 (.t 5) (.t 60),.asg 6 (.t 61)]) .ret))))))⟩
def fn78:VFn:=⟨1,16,[.cell 2 (some 2),.tmp 3],(.seq (.ops [.alloc 2 [(.int .i64 0),(.list 1 [])],.asg 3 (.c (.int .i64 0))]) (.seq (.seq (.ops [.mov 4 (.t 0),.bin 5 .lss (.t 4) (.c (.int .i64 0)),.mov 6 (.t 5),.grd 6 false (.mov 7 (.t 0)),.grd 6 false (.bin 8 .gtr (.t 7) (.c (.int .i64 4096))),.pick 9 (.t 6) (.c (.bool true)) (.t 8)]) (.cond (.t 9) (.seq (.ops [.build 10 [(.int .i64 0),(.list 1 [])] [],.store none 2 (.t 2) (.t 10),.asg 3 (.c (.int .i64 2))]) .ret) .skip)) (.seq (.ops [.mov 11 (.t 0),.mov 12 (.t 0),.call 13 109 [(.t 12)],.make 14 (.int .u64 0) (.t 13) (.t 13),.build 15 [(.int .i64 0),(.list 1 [])] [(0,1,(.t 11)),(1,1,(.t 14))],.store none 2 (.t 2) (.t 15),.asg 3 (.c (.int .i64 0))]) .ret)))⟩
def fn79:VFn:=⟨3,14,[.cell 5 (some 7),.tmp 6],(.seq (.ops [.bxw 3 (.t 0),.box 4 (.t 1),.alloc 5 [(.int .i64 0),(.list 1 []),(.list 5 []),(.bool false),(.int .i64 0),(.int .i64 0),(.list 2 [])],.asg 6 (.c (.int .i64 0))]) (.seq (.ops [.load 7 none (.t 2),.ldm 8 7 (.t 3),.load 9 (some 5) (.t 4),.mksl 10 5 [(.t 9)],.linv 11 (.t 7) (.t 8) [(.t 10)],.ext 12 (.t 11) 0,.ext 13 (.t 11) 1,.store none 7 (.t 5) (.t 12),.asg 6 (.t 13)]) .ret))⟩
def fn80:VFn:=⟨1,8,[.tmp 2],(.seq (.ops [.asg 2 (.nil 1)]) (.seq (.seq (.ops [.mov 3 (.t 0),.isn 4 false (.t 3)]) (.cond (.t 4) (.seq (.ops [.asg 2 (.nil 1)]) .ret) .skip)) (.seq (.ops [.mksl 5 1 [],.mov 6 (.t 0),.app 7 1 (.t 5) (.t 6),.asg 2 (.t 7)]) .ret)))⟩
def fn86:VFn:=⟨1,8,[.tmp 2],(.seq (.ops [.asg 2 (.nil 8)]) (.seq (.seq (.ops [.mov 3 (.t 0),.isn 4 false (.t 3)]) (.cond (.t 4) (.seq (.ops [.asg 2 (.nil 8)]) .ret) .skip)) (.seq (.ops [.mksl 5 8 [],.mov 6 (.t 0),.app 7 8 (.t 5) (.t 6),.asg 2 (.t 7)]) .ret)))⟩
def fn87_b0:VCode:=(.seq (.ops [.bin 12 .lss (.t 11) (.t 10)]) (.seq (.cond (.t 12) .skip (.exit 0)) (.seq (.block 1 (.seq (.ops [.iadr 13 5 (.t 9) (.t 11),.load 14 (some 5) (.t 13),.alloc 5 [(.int .i64 0),(.int .i64 0),(.int .i64 0),(.list 1 []),(.list 3 [])],.store none 5 (.t 5) (.t 14)]) (.seq (.seq (.ops [.load 15 (some 5) (.t 5),.fadr 16 (.t 1) 1,.load 17 none (.t 16),.call 18 42 [(.t 15),(.t 17)],.bin 19 .neq (.t 18) (.c (.int .i64 0)),.mov 20 (.t 19),.grd 20 false (.fadr 21 (.t 5) 0),.grd 20 false (.load 22 none (.t 21)),.grd 20 false (.mov 23 (.t 3)),.grd 20 false (.bin 24 .neq (.t 22) (.t 23)),.pick 25 (.t 20) (.c (.bool true)) (.t 24)]) (.cond (.t 25) (.seq (.ops [.asg 2 (.c (.bool false))]) .ret) .skip)) (.ops [.fadr 26 (.t 5) 1,.load 27 none (.t 26),.asg 3 (.t 27)])))) (.ops [.bin 28 .add (.t 11) (.c (.int .i64 1)),.mov 11 (.t 28)]))))
def fn87_l1:VCode :=
(.clean [1,3,9,10,11] [1,2,3] (.block 0 (.loop [1,3,9,10,11] fn87_b0)))
def fn87:VFn:=⟨1,47,[.tmp 2],(.seq (.ops [.box 1 (.t 0),.asg 2 (.c (.bool false))]) (.seq (.ops [.fadr 6 (.t 1) 4,.load 7 none (.t 6),.asg 3 (.t 7)]) (.seq (.seq (.ops [.fadr 8 (.t 1) 2,.load 9 none (.t 8),.len 10 (.t 9),.mov 11 (.c (.int .i64 0))])
   fn87_l1) (.seq (.ops [.fadr 29 (.t 1) 6,.load 30 none (.t 29),.len 31 (.t 30),.bin 32 .eql (.t 31) (.c (.int .i64 0)),.mov 33 (.t 32),.grd 33 true (.fadr 34 (.t 1) 2),.grd 33 true (.load 35 none (.t 34)),.grd 33 true (.len 36 (.t 35)),.grd 33 true (.fadr 37 (.t 1) 0),.grd 33 true (.load 38 none (.t 37)),.grd 33 true (.bin 39 .leq (.t 36) (.t 38)),.pick 40 (.t 33) (.t 39) (.c (.bool false)),.mov 41 (.t 40),.grd 41 true (.mov 42 (.t 3)),.grd 41 true (.fadr 43 (.t 1) 5),.grd 41 true (.load 44 none (.t 43)),.grd 41 true (.bin 45 .eql (.t 42) (.t 44)),.pick 46 (.t 41) (.t 45) (.c (.bool false)),.asg 2 (.t 46)]) .ret))))⟩
def fn88:VFn:=⟨1,23,[.tmp 2],(.seq (.ops [.box 1 (.t 0),.asg 2 (.c (.bool false))]) (.seq (.ops [.fadr 4 (.t 1) 6,.load 5 none (.t 4),.fadr 6 (.t 1) 1,.load 7 none (.t 6),.call 8 89 [(.t 5),(.t 7),(.c (.func 90 []))],.asg 3 (.t 8)]) (.seq (.ops [.mov 9 (.t 3),.mov 10 (.t 9),.grd 10 true (.fadr 11 (.t 1) 2),.grd 10 true (.load 12 none (.t 11)),.grd 10 true (.len 13 (.t 12)),.grd 10 true (.bin 14 .eql (.t 13) (.c (.int .i64 0))),.pick 15 (.t 10) (.t 14) (.c (.bool false)),.mov 16 (.t 15),.grd 16 true (.fadr 17 (.t 1) 4),.grd 16 true (.load 18 none (.t 17)),.grd 16 true (.fadr 19 (.t 1) 5),.grd 16 true (.load 20 none (.t 19)),.grd 16 true (.bin 21 .lss (.t 18) (.t 20)),.pick 22 (.t 16) (.t 21) (.c (.bool false)),.asg 2 (.t 22)]) .ret)))⟩
def fn89_b0:VCode:=(.seq (.ops [.bin 18 .lss (.t 17) (.t 16)]) (.seq (.cond (.t 18) .skip (.exit 0)) (.seq (.block 1 (.seq (.ops [.mov 19 (.t 17),.iadr 20 2 (.t 15) (.t 17),.load 21 (some 2) (.t 20),.alloc 8 [(.int .i64 0),(.list 1 [])],.asg 7 (.t 19),.store none 2 (.t 8) (.t 21)]) (.seq (.ops [.mov 22 (.t 1),.mov 23 (.t 7),.iadr 24 1 (.t 22) (.t 23),.load 25 none (.t 24),.asg 9 (.t 25)]) (.seq (.ops [.mov 26 (.t 2),.load 27 (some 2) (.t 8),.mov 28 (.t 9),.callv 29 (.t 26) [(.t 27),(.t 28)],.un 30 .not (.t 29)]) (.cond (.t 30) (.seq (.ops [.asg 6 (.c (.bool false))]) .ret) .skip))))) (.ops [.bin 31 .add (.t 17) (.c (.int .i64 1)),.mov 17 (.t 31)]))))
def fn89_l1:VCode :=
(.clean [0,1,2,15,16,17] [6] (.block 0 (.loop [0,1,2,15,16,17] fn89_b0)))
def fn89:VFn:=⟨3,32,[.tmp 6],(.seq (.ops [.asg 6 (.c (.bool false))]) (.seq (.seq (.ops [.mov 10 (.t 0),.len 11 (.t 10),.mov 12 (.t 1),.len 13 (.t 12),.bin 14 .neq (.t 11) (.t 13)]) (.cond (.t 14) (.seq (.ops [.asg 6 (.c (.bool false))]) .ret) .skip)) (.seq (.seq (.ops [.mov 15 (.t 0),.len 16 (.t 15),.mov 17 (.c (.int .i64 0))])
   fn89_l1) (.seq (.ops [.asg 6 (.c (.bool true))]) .ret))))⟩
def fn90:VFn:=⟨2,14,[.tmp 4],(.seq (.ops [.box 2 (.t 0),.asg 4 (.c (.bool false))]) (.seq (.ops [.load 5 (some 2) (.t 2),.call 6 91 [(.t 5)],.bin 7 .eql (.t 6) (.c (.int .i64 0)),.mov 8 (.t 7),.grd 8 true (.fadr 9 (.t 2) 0),.grd 8 true (.load 10 none (.t 9)),.grd 8 true (.mov 11 (.t 1)),.grd 8 true (.bin 12 .eql (.t 10) (.t 11)),.pick 13 (.t 8) (.t 12) (.c (.bool false)),.asg 4 (.t 13)]) .ret))⟩
def fn91:VFn:=⟨1,39,[.tmp 2],(.seq (.ops [.box 1 (.t 0),.asg 2 (.c (.int .i64 0))]) (.seq (.seq (.drw [] [([0,1,2,3,4,5,6,7,8,9,10,11,12,13],14)] none [15,16] [.fadr 4 (.t 1) 0,.load 5 none (.t 4),.bin 6 .lss (.t 5) (.c (.int .i64 0)),.mov 7 (.t 6),.grd 7 false (.fadr 8 (.t 1) 0),.grd 7 false (.load 9 none (.t 8)),.grd 7 false (.bin 10 .gtr (.t 9) (.c (.int .i64 4096))),.pick 11 (.t 7) (.c (.bool true)) (.t 10),.mov 12 (.t 11),.grd 12 false (.fadr 13 (.t 1) 1),.grd 12 false (.load 14 none (.t 13)),.grd 12 false (.len 15 (.t 14)),.grd 12 false (.fadr 16 (.t 1) 0),.grd 12 false (.load 17 none (.t 16)),.grd 12 false (.call 18 109 [(.t 17)]),.grd 12 false (.bin 19 .neq (.t 15) (.t 18)),.pick 20 (.t 12) (.c (.bool true)) (.t 19)]) (.cond (.t 20) (.seq (.ops [.asg 2 (.c (.int .i64 3))]) .ret) .skip)) (.seq (.seq (.ops [.fadr 21 (.t 1) 0,.load 22 none (.t 21),.bin 23 .rem (.t 22) (.c (.int .i64 64)),.asg 3 (.t 23)]) (.seq (.ops [.mov 24 (.t 3),.bin 25 .gtr (.t 24) (.c (.int .i64 0)),.mov 26 (.t 25),.grd 26 true (.fadr 27 (.t 1) 1),.grd 26 true (.load 28 none (.t 27)),.grd 26 true (.fadr 29 (.t 1) 1),.grd 26 true (.load 30 none (.t 29)),.grd 26 true (.len 31 (.t 30)),.grd 26 true (.bin 32 .sub (.t 31) (.c (.int .i64 1))),.grd 26 true (.iadr 33 1 (.t 28) (.t 32)),.grd 26 true (.load 34 none (.t 33)),.grd 26 true (.mov 35 (.t 3)),.grd 26 true (.bin 36 .shr (.t 34) (.t 35)),.grd 26 true (.bin 37 .neq (.t 36) (.c (.int .u64 0))),.pick 38 (.t 26) (.t 37) (.c (.bool false))]) (.cond (.t 38) (.seq (.ops [.asg 2 (.c (.int .i64 3))]) .ret) .skip))) (.seq (.ops [.asg 2 (.c (.int .i64 0))]) .ret))))⟩
def fn93_b0:VCode:=(.seq (.seq (.ops [.mov 11 (.t 5),.mov 12 (.t 0),.len 13 (.t 12),.bin 14 .lss (.t 11) (.t 13)]) (.cond (.t 14) .skip (.exit 0))) (.seq (.block 1 (.seq (.drw [] [] none [0,1,2,3,4,5,6,7,8] [.mov 17 (.t 0),.mov 18 (.t 5),.iadr 19 8 (.t 17) (.t 18),.load 20 (some 8) (.t 19),.mov 21 (.t 1),.mov 22 (.t 5),.iadr 23 8 (.t 21) (.t 22),.load 24 (some 8) (.t 23),.eqa 25 true 8 (.t 20) (.t 24)]) (.cond (.t 25) (.seq (.ops [.asg 4 (.c (.bool false))]) .ret) .skip))) (.ops [.mov 15 (.t 5),.bin 16 .add (.t 15) (.c (.int .i64 1)),.asg 5 (.t 16)])))
def fn93_l1:VCode :=
(.clean [0,1,5] [4] (.block 0 (.loop [0,1,5] fn93_b0)))
def fn93:VFn:=⟨2,26,[.tmp 4],(.seq (.ops [.asg 4 (.c (.bool false))]) (.seq (.seq (.ops [.mov 6 (.t 0),.len 7 (.t 6),.mov 8 (.t 1),.len 9 (.t 8),.bin 10 .neq (.t 7) (.t 9)]) (.cond (.t 10) (.seq (.ops [.asg 4 (.c (.bool false))]) .ret) .skip)) (.seq (.seq (.ops [.asg 5 (.c (.int .i64 0))])
   fn93_l1) (.seq (.ops [.asg 4 (.c (.bool true))]) .ret))))⟩
def fn94:VFn:=⟨1,5,[.tmp 2],(.seq (.ops [.asg 2 (.nil 1)]) (.seq (.ops [.mov 3 (.t 0),.call 4 112 [(.t 3),(.c (.func 113 []))],.asg 2 (.t 4)]) .ret))⟩
def fn95_b0:VCode:=(.ops [.asg 4 (.t 8)])
def fn95_b1:VCode:=(.block 1 (.seq (.seq (.ops [.load 9 none (.t 3),.len 10 (.t 9),.asg 5 (.t 10)]) (.seq (.drw [] [] none [0,1,2,3,4,5,6,7,8,9,10,11,12,13,14,15,16,17,18] [.mov 11 (.t 5),.bin 12 .gtr (.t 11) (.c (.int .i64 0)),.mov 13 (.t 12),.grd 13 true (.load 14 none (.t 3)),.grd 13 true (.mov 15 (.t 5)),.grd 13 true (.bin 16 .sub (.t 15) (.c (.int .i64 1))),.grd 13 true (.iadr 17 2 (.t 14) (.t 16)),.grd 13 true (.fadr 18 (.t 17) 0),.grd 13 true (.load 19 none (.t 18)),.grd 13 true (.load 20 none (.t 3)),.grd 13 true (.mov 21 (.t 5)),.grd 13 true (.bin 22 .sub (.t 21) (.c (.int .i64 1))),.grd 13 true (.iadr 23 2 (.t 20) (.t 22)),.grd 13 true (.fadr 24 (.t 23) 1),.grd 13 true (.load 25 none (.t 24)),.grd 13 true (.bin 26 .add (.t 19) (.t 25)),.grd 13 true (.mov 27 (.t 4)),.grd 13 true (.bin 28 .eql (.t 26) (.t 27)),.pick 29 (.t 13) (.t 28) (.c (.bool false))]) (.cond (.t 29) (.seq (.ops [.load 30 none (.t 3),.mov 31 (.t 5),.bin 32 .sub (.t 31) (.c (.int .i64 1)),.iadr 33 2 (.t 30) (.t 32),.fadr 34 (.t 33) 1,.load 35 none (.t 34),.bin 36 .add (.t 35) (.c (.int .i64 1)),.iadr 37 2 (.t 30) (.t 32),.fadr 38 (.t 37) 1,.store none 1 (.t 38) (.t 36)]) (.exit 1)) .skip))) (.ops [.load 39 none (.t 3),.mov 40 (.t 4),.build 41 [(.int .i64 0),(.int .i64 0)] [(0,1,(.t 40)),(1,1,(.c (.int .i64 1)))],.mksl 42 2 [(.t 41)],.app 43 2 (.t 39) (.t 42),.store none 1 (.t 3) (.t 43)])))
def fn95:VFn:=⟨1,45,[.tmp 2],(.seq (.ops [.box 1 (.t 0),.asg 2 (.nil 2)]) (.seq (.ops [.alloc 3 [(.list 2 [])]]) (.seq (.seq (.ops [.load 6 (some 2) (.t 1),.call 7 114 [(.t 6),(.c (.int .i64 0))]]) (.block 0 (.rng (.t 7) [8] fn95_b0 fn95_b1))) (.seq (.ops [.load 44 none (.t 3),.asg 2 (.t 44)]) .ret))))⟩
def fn97_b0:VCode:=(.seq (.seq (.ops [.mov 3 (.t 2),.bin 4 .lss (.t 3) (.c (.int .i64 8))]) (.cond (.t 4) .skip (.exit 0))) (.seq (.block 1 (.ops [.mov 7 (.t 1),.mksl 8 1 [(.c (.int .i64 4096))],.app 9 1 (.t 7) (.t 8),.asg 1 (.t 9)])) (.ops [.mov 5 (.t 2),.bin 6 .add (.t 5) (.c (.int .i64 1)),.asg 2 (.t 6)])))
def fn97_l1:VCode :=
(.clean [1,2,9] [0,1] (.block 0 (.loop [1,2,9] fn97_b0)))
def fn97:VFn:=⟨0,11,[.tmp 0],(.seq (.ops [.asg 0 (.nil 1)]) (.seq (.ops [.asg 1 (.nil 1)]) (.seq (.seq (.ops [.asg 2 (.c (.int .i64 0))])
   fn97_l1) (.seq (.ops [.mov 10 (.t 1),.asg 0 (.t 10)]) .ret))))⟩
def fn98_b0:VCode:=(.seq (.seq (.ops [.mov 26 (.t 10),.mov 27 (.t 2),.mov 28 (.t 8),.iadr 29 2 (.t 27) (.t 28),.fadr 30 (.t 29) 1,.load 31 none (.t 30),.bin 32 .lss (.t 26) (.t 31)]) (.cond (.t 32) .skip (.exit 2))) (.seq (.block 3 (.seq (.ops [.mov 36 (.t 0),.mov 37 (.t 1),.mov 38 (.t 2),.mov 39 (.t 8),.iadr 40 2 (.t 38) (.t 39),.fadr 41 (.t 40) 0,.load 42 none (.t 41),.mov 43 (.t 10),.bin 44 .add (.t 42) (.t 43),.call 45 34 [(.t 36),(.t 37),(.t 44)],.mov 35 (.t 45),.ext 46 (.t 35) 0,.ext 47 (.t 35) 1,.alloc 11 [(.int .u8 0),(.int .u8 0),(.int .u8 0),(.int .u8 0),(.int .u8 0),(.int .u8 0),(.int .u8 0),(.int .u8 0)],.store none 8 (.t 11) (.t 46),.asg 12 (.t 47)]) (.ops [.fadr 48 (.t 9) 2,.load 49 none (.t 48),.load 50 (some 8) (.t 11),.mksl 51 8 [(.t 50)],.app 52 8 (.t 49) (.t 51),.fadr 53 (.t 9) 2,.store none 1 (.t 53) (.t 52)]))) (.ops [.mov 33 (.t 10),.bin 34 .add (.t 33) (.c (.int .i64 1)),.asg 10 (.t 34)])))
def fn98_l1:VCode :=
(.clean [0,1,2,7,8,9,10,57] [0,1,2,6,7,8,9,57] (.block 2 (.loop [0,1,2,7,8,9,10,57] fn98_b0)))
def fn98_b2:VCode:=(.seq (.seq (.ops [.mov 13 (.t 8),.mov 14 (.t 2),.len 15 (.t 14),.bin 16 .lss (.t 13) (.t 15)]) (.cond (.t 16) .skip (.exit 0))) (.seq (.block 1 (.seq (.ops [.mov 19 (.t 1),.mov 20 (.t 2),.mov 21 (.t 8),.iadr 22 2 (.t 20) (.t 21),.fadr 23 (.t 22) 0,.load 24 none (.t 23),.build 25 [(.int .i64 0),(.int .i64 0),(.nils 8)] [(0,1,(.t 19)),(1,1,(.t 24))],.alloc 9 [(.int .i64 0),(.int .i64 0),(.list 0 [])],.stw 3 (.t 9) (.t 25)]) (.seq (.seq (.ops [.asg 10 (.c (.int .i64 0))])
    fn98_l1) (.ops [.mov 54 (.t 7),.load 55 (some 3) (.t 9),.mksl 56 3 [(.t 55)],.app 57 3 (.t 54) (.t 56),.asg 7 (.t 57)])))) (.ops [.mov 17 (.t 8),.bin 18 .add (.t 17) (.c (.int .i64 1)),.asg 8 (.t 18)])))
def fn98_l3:VCode :=
(.clean [0,1,2,7,8,57] [6,7] (.block 0 (.loop [0,1,2,7,8,57] fn98_b2)))
def fn98:VFn:=⟨3,59,[.tmp 6],(.seq (.ops [.asg 6 (.nil 3)]) (.seq (.ops [.asg 7 (.nil 3)]) (.seq (.seq (.ops [.asg 8 (.c (.int .i64 0))])
   fn98_l3) (.seq (.ops [.mov 58 (.t 7),.asg 6 (.t 58)]) .ret))))⟩
def fn99_b0:VCode:=(.seq (.seq (.ops [.mov 8 (.t 6),.mov 9 (.t 0),.len 10 (.t 9),.bin 11 .lss (.t 8) (.t 10)]) (.cond (.t 11) .skip (.exit 0))) (.seq (.block 1 (.seq (.ops [.mov 14 (.t 0),.mov 15 (.t 6),.iadr 16 3 (.t 14) (.t 15),.fadr 17 (.t 16) 0,.load 18 none (.t 17),.mov 19 (.t 1),.bin 20 .eql (.t 18) (.t 19)]) (.cond (.t 20) (.drw [] [] (some ([0,1,2,3,4,5,6,7,8,9,10,11,12],[],13,[])) [] [.mov 21 (.t 5),.mov 22 (.t 0),.mov 23 (.t 6),.iadr 24 3 (.t 22) (.t 23),.fadr 25 (.t 24) 1,.load 26 none (.t 25),.mov 27 (.t 0),.mov 28 (.t 6),.iadr 29 3 (.t 27) (.t 28),.fadr 30 (.t 29) 2,.load 31 none (.t 30),.len 32 (.t 31),.build 33 [(.int .i64 0),(.int .i64 0)] [(0,1,(.t 26)),(1,1,(.t 32))],.srt 34 115 (.t 21) (.t 33)]) .skip))) (.ops [.mov 12 (.t 6),.bin 13 .add (.t 12) (.c (.int .i64 1)),.asg 6 (.t 13)])))
def fn99_l1:VCode :=
(.clean [0,1,5,6,7] [4,5] (.block 0 (.loop [0,1,5,6,7] fn99_b0)))
def fn99:VFn:=⟨2,37,[.tmp 4],(.seq (.ops [.asg 4 (.nil 2)]) (.seq (.ops [.make 7 (.bool false) (.c (.int .i64 4096)) (.c (.int .i64 4096)),.asg 5 (.t 7)]) (.seq (.seq (.ops [.asg 6 (.c (.int .i64 0))])
   fn99_l1) (.seq (.ops [.mov 35 (.t 5),.call 36 116 [(.t 35)],.asg 4 (.t 36)]) .ret))))⟩
def fn101:VFn:=⟨2,9,[.tmp 4],(.seq (.ops [.asg 4 (.c (.bool false))]) (.seq (.ops [.mov 5 (.t 0),.mov 6 (.t 1),.call 7 119 [(.t 5),(.t 6)],.bin 8 .geq (.t 7) (.c (.int .i64 0)),.asg 4 (.t 8)]) .ret))⟩
def fn102:VFn:=⟨1,9,[.tmp 2],(.seq (.ops [.asg 2 (.c (.bool false))]) (.seq (.ops [.mov 3 (.t 0),.bin 4 .lss (.t 3) (.c (.int .i64 1)),.mov 5 (.t 4),.grd 5 false (.mov 6 (.t 0)),.grd 5 false (.bin 7 .gtr (.t 6) (.c (.int .i64 4096))),.pick 8 (.t 5) (.c (.bool true)) (.t 7),.asg 2 (.t 8)]) .ret))⟩
def fn103:VFn:=⟨1,6,[.tmp 2],(.seq (.ops [.asg 2 (.c (.bool false))]) (.seq (.ops [.mov 3 (.t 0),.call 4 72 [(.t 3),(.c (.int .i64 0)),(.c (.int .i64 1073741824))],.un 5 .not (.t 4),.asg 2 (.t 5)]) .ret))⟩
def fn104_b0:VCode:=(.seq (.ops [.bin 12 .lss (.t 11) (.t 10)]) (.seq (.cond (.t 12) .skip (.exit 0)) (.seq (.block 1 (.seq (.ops [.mov 13 (.t 11),.iadr 14 3 (.t 9) (.t 11),.load 15 (some 3) (.t 14),.alloc 6 [(.int .i64 0),(.int .i64 0),(.list 0 [])],.asg 5 (.t 13),.store none 3 (.t 6) (.t 15)]) (.seq (.seq (.ops [.mov 16 (.t 1),.load 17 (some 3) (.t 6),.callv 18 (.t 16) [(.t 17)],.asg 7 (.t 18)]) (.seq (.ops [.mov 19 (.t 7),.bin 20 .neq (.t 19) (.c (.int .i64 0))]) (.cond (.t 20) (.seq (.ops [.mov 21 (.t 7),.asg 4 (.t 21)]) .ret) .skip))) (.seq (.seq (.ops [.mov 22 (.t 5),.bin 23 .eql (.t 22) (.c (.int .i64 0))]) (.cond (.t 23) (.exit 1) .skip)) (.seq (.ops [.mov 24 (.t 0),.mov 25 (.t 5),.bin 26 .sub (.t 25) (.c (.int .i64 1)),.iadr 27 3 (.t 24) (.t 26),.load 28 (some 3) (.t 27),.alloc 8 [(.int .i64 0),(.int .i64 0),(.list 0 [])],.store none 3 (.t 8) (.t 28)]) (.seq (.ops [.fadr 29 (.t 6) 0,.load 30 none (.t 29),.fadr 31 (.t 8) 0,.load 32 none (.t 31),.bin 33 .lss (.t 30) (.t 32),.mov 34 (.t 33),.grd 34 false (.fadr 35 (.t 6) 0),.grd 34 false (.load 36 none (.t 35)),.grd 34 false (.fadr 37 (.t 8) 0),.grd 34 false (.load 38 none (.t 37)),.grd 34 false (.bin 39 .eql (.t 36) (.t 38)),.grd 34 false (.mov 40 (.t 39)),.grd 40 true (.fadr 41 (.t 6) 1),.grd 40 true (.load 42 none (.t 41)),.grd 40 true (.fadr 43 (.t 8) 1),.grd 40 true (.load 44 none (.t 43)),.grd 40 true (.fadr 45 (.t 8) 2),.grd 40 true (.load 46 none (.t 45)),.grd 40 true (.len 47 (.t 46)),.grd 40 true (.bin 48 .add (.t 44) (.t 47)),.grd 40 true (.bin 49 .leq (.t 42) (.t 48)),.grd 34 false (.pick 50 (.t 40) (.t 49) (.c (.bool false))),.pick 51 (.t 34) (.c (.bool true)) (.t 50)]) (.cond (.t 51) (.seq (.ops [.asg 4 (.c (.int .i64 3))]) .ret) .skip))))))) (.ops [.bin 52 .add (.t 11) (.c (.int .i64 1)),.mov 11 (.t 52)]))))
def fn104_l1:VCode :=
(.clean [0,1,9,10,11] [4] (.block 0 (.loop [0,1,9,10,11] fn104_b0)))
def fn104:VFn:=⟨2,53,[.tmp 4],(.seq (.ops [.asg 4 (.c (.int .i64 0))]) (.seq (.seq (.ops [.mov 9 (.t 0),.len 10 (.t 9),.mov 11 (.c (.int .i64 0))])
  fn104_l1) (.seq (.ops [.asg 4 (.c (.int .i64 0))]) .ret)))⟩
def fn105:VFn:=⟨2,7,[.tmp 3],(.seq (.ops [.box 2 (.t 0),.asg 3 (.c (.int .i64 0))]) (.seq (.ops [.load 4 none (.t 1),.load 5 (some 3) (.t 2),.call 6 106 [(.t 4),(.t 5)],.asg 3 (.t 6)]) .ret))⟩
def fn106:VFn:=⟨2,14,[.tmp 4],(.seq (.ops [.box 3 (.t 1),.asg 4 (.c (.int .i64 0))]) (.seq (.seq (.ops [.mov 6 (.t 0),.call 7 53 [(.t 6)],.asg 5 (.t 7)]) (.seq (.ops [.mov 8 (.t 5),.bin 9 .neq (.t 8) (.c (.int .i64 0))]) (.cond (.t 9) (.seq (.ops [.mov 10 (.t 5),.asg 4 (.t 10)]) .ret) .skip))) (.seq (.ops [.mov 11 (.t 0),.load 12 (some 3) (.t 3),.call 13 118 [(.t 11),(.t 12)],.asg 4 (.t 13)]) .ret)))⟩
def fn107_b0:VCode:=(.seq (.ops [.bin 11 .lss (.t 10) (.t 9)]) (.seq (.cond (.t 11) .skip (.exit 0)) (.seq (.block 1 (.seq (.ops [.iadr 12 3 (.t 8) (.t 10),.load 13 (some 3) (.t 12),.alloc 7 [(.int .i64 0),(.int .i64 0),(.list 0 [])],.store none 3 (.t 7) (.t 13)]) (.seq (.ops [.fadr 14 (.t 7) 0,.load 15 none (.t 14),.mov 16 (.t 1),.bin 17 .eql (.t 15) (.t 16)]) (.cond (.t 17) (.ops [.mov 18 (.t 5),.fadr 19 (.t 7) 1,.load 20 none (.t 19),.fadr 21 (.t 7) 2,.load 22 none (.t 21),.len 23 (.t 22),.build 24 [(.int .i64 0),(.int .i64 0)] [(0,1,(.t 20)),(1,1,(.t 23))],.mksl 25 2 [(.t 24)],.app 26 2 (.t 18) (.t 25),.asg 5 (.t 26)]) .skip)))) (.ops [.bin 27 .add (.t 10) (.c (.int .i64 1)),.mov 10 (.t 27)]))))
def fn107_l1:VCode :=
(.clean [0,1,5,8,9,10,26] [4,5] (.block 0 (.loop [0,1,5,8,9,10,26] fn107_b0)))
def fn107:VFn:=⟨2,30,[.tmp 4],(.seq (.ops [.asg 4 (.nil 2)]) (.seq (.ops [.asg 5 (.nil 2)]) (.seq (.seq (.ops [.mov 8 (.t 0),.len 9 (.t 8),.mov 10 (.c (.int .i64 0))])
   fn107_l1) (.seq (.ops [.mov 28 (.t 5),.call 29 120 [(.t 28),(.nil 2)],.asg 4 (.t 29)]) .ret))))⟩
def fn108:VFn:=⟨2,12,[.cell 4 (some 2),.tmp 5],(.seq (.ops [.box 2 (.t 0),.box 3 (.t 1),.alloc 4 [(.int .i64 0),(.list 1 [])],.asg 5 (.c (.int .i64 0))]) (.seq (.ops [.build 6 [.nilf] [(0,1,(.c (.func 121 [])))],.load 7 (some 2) (.t 2),.load 8 (some 2) (.t 3),.call 9 122 [(.t 6),(.t 7),(.t 8)],.ext 10 (.t 9) 0,.ext 11 (.t 9) 1,.store none 2 (.t 4) (.t 10),.asg 5 (.t 11)]) .ret))⟩
def fn109:VFn:=⟨1,7,[.tmp 2],(.seq (.ops [.asg 2 (.c (.int .i64 0))]) (.seq (.ops [.mov 3 (.t 0),.bin 4 .add (.t 3) (.c (.int .i64 64)),.bin 5 .sub (.t 4) (.c (.int .i64 1)),.bin 6 .quo (.t 5) (.c (.int .i64 64)),.asg 2 (.t 6)]) .ret))⟩
def fn112_b0:VCode:=(.seq (.ops [.bin 14 .lss (.t 13) (.t 12)]) (.seq (.cond (.t 14) .skip (.exit 0)) (.seq (.block 1 (.seq (.ops [.iadr 15 1 (.t 11) (.t 13),.load 16 none (.t 15),.asg 7 (.t 16)]) (.ops [.mov 17 (.t 5),.mov 18 (.t 1),.mov 19 (.t 7),.callv 20 (.t 18) [(.t 19)],.mksl 21 1 [(.t 20)],.app 22 1 (.t 17) (.t 21),.asg 5 (.t 22)]))) (.ops [.bin 23 .add (.t 13) (.c (.int .i64 1)),.mov 13 (.t 23)]))))
def fn112_l1:VCode :=
(.clean [0,1,5,10,11,12,13,22] [4,5] (.block 0 (.loop [0,1,5,10,11,12,13,22] fn112_b0)))
def fn112:VFn:=⟨2,25,[.tmp 4],(.seq (.ops [.asg 4 (.nil 1)]) (.seq (.ops [.mov 8 (.t 0),.len 9 (.t 8),.make 10 (.int .i64 0) (.c (.int .i64 0)) (.t 9),.asg 5 (.t 10)]) (.seq (.seq (.ops [.mov 11 (.t 0),.len 12 (.t 11),.mov 13 (.c (.int .i64 0))])
   fn112_l1) (.seq (.ops [.mov 24 (.t 5),.asg 4 (.t 24)]) .ret))))⟩
def fn113:VFn:=⟨1,5,[.tmp 2],(.seq (.ops [.asg 2 (.c (.int .i64 0))]) (.seq (.ops [.mov 3 (.t 0),.len 4 (.t 3),.asg 2 (.t 4)]) .ret))⟩
def fn114:VFn:=⟨2,6,[.tmp 4],(.seq (.ops [.box 2 (.t 0),.box 3 (.t 1),.asg 4 (.c .nilf)]) (.seq (.ops [.mkf 5 124 [(.t 2),(.t 3)],.asg 4 (.t 5)]) .ret))⟩
def fn116_b0:VCode:=(.seq (.seq (.ops [.mov 5 (.t 4),.mov 6 (.t 0),.len 7 (.t 6),.bin 8 .lss (.t 5) (.t 7)]) (.cond (.t 8) .skip (.exit 0))) (.seq (.block 1 (.seq (.seq (.ops [.mov 11 (.t 0),.mov 12 (.t 4),.iadr 13 1 (.t 11) (.t 12),.load 14 none (.t 13),.un 15 .not (.t 14)]) (.cond (.t 15) (.exit 1) .skip)) (.seq (.ops [.mov 16 (.t 4),.bin 17 .gtr (.t 16) (.c (.int .i64 0)),.mov 18 (.t 17),.grd 18 true (.mov 19 (.t 0)),.grd 18 true (.mov 20 (.t 4)),.grd 18 true (.bin 21 .sub (.t 20) (.c (.int .i64 1))),.grd 18 true (.iadr 22 1 (.t 19) (.t 21)),.grd 18 true (.load 23 none (.t 22)),.pick 24 (.t 18) (.t 23) (.c (.bool false))]) (.cond (.t 24) (.ops [.mov 25 (.t 3),.mov 26 (.t 3),.len 27 (.t 26),.bin 28 .sub (.t 27) (.c (.int .i64 1)),.iadr 29 2 (.t 25) (.t 28),.fadr 30 (.t 29) 1,.load 31 none (.t 30),.bin 32 .add (.t 31) (.c (.int .i64 1)),.iadr 33 2 (.t 25) (.t 28),.fadr 34 (.t 33) 1,.store none 1 (.t 34) (.t 32)]) (.ops [.mov 35 (.t 3),.mov 36 (.t 4),.build 37 [(.int .i64 0),(.int .i64 0)] [(0,1,(.t 36)),(1,1,(.c (.int .i64 1)))],.mksl 38 2 [(.t 37)],.app 39 2 (.t 35) (.t 38),.asg 3 (.t 39)]))))) (.ops [.mov 9 (.t 4),.bin 10 .add (.t 9) (.c (.int .i64 1)),.asg 4 (.t 10)])))
def fn116_l1:VCode :=
(.clean [0,3,4,39] [2,3] (.block 0 (.loop [0,3,4,39] fn116_b0)))
def fn116:VFn:=⟨1,41,[.tmp 2],(.seq (.ops [.asg 2 (.nil 2)]) (.seq (.ops [.asg 3 (.nil 2)]) (.seq (.seq (.ops [.asg 4 (.c (.int .i64 0))])
   fn116_l1) (.seq (.ops [.mov 40 (.t 3),.asg 2 (.t 40)]) .ret))))⟩
def fn118:VFn:=⟨2,40,[.tmp 4],(.seq (.ops [.box 3 (.t 1),.asg 4 (.c (.int .i64 0))]) (.seq (.block 0 (.seq (.ops [.fadr 6 (.t 3) 0,.load 7 none (.t 6),.bin 8 .lss (.t 7) (.c (.int .i64 0)),.mov 9 (.t 8),.grd 9 false (.fadr 10 (.t 3) 0),.grd 9 false (.load 11 none (.t 10)),.grd 9 false (.mov 12 (.t 0)),.grd 9 false (.len 13 (.t 12)),.grd 9 false (.bin 14 .geq (.t 11) (.t 13)),.pick 15 (.t 9) (.c (.bool true)) (.t 14),.asg 5 (.t 15)]) (.cond (.t 5) (.seq (.ops [.asg 4 (.c (.int .i64 7))]) .ret) (.seq (.ops [.fadr 17 (.t 3) 2,.load 18 none (.t 17),.len 19 (.t 18),.bin 20 .eql (.t 19) (.c (.int .i64 0)),.asg 16 (.t 20)]) (.cond (.t 16) (.seq (.ops [.asg 4 (.c (.int .i64 1))]) .ret) (.seq (.drw [] [] none [0,1,2,3,4,5,6,7,8,9,10,11,12,13,14,15,16,17,18] [.fadr 22 (.t 3) 1,.load 23 none (.t 22),.bin 24 .lss (.t 23) (.c (.int .i64 0)),.mov 25 (.t 24),.grd 25 false (.fadr 26 (.t 3) 1),.grd 25 false (.load 27 none (.t 26)),.grd 25 false (.mov 28 (.t 0)),.grd 25 false (.fadr 29 (.t 3) 0),.grd 25 false (.load 30 none (.t 29)),.grd 25 false (.iadr 31 1 (.t 28) (.t 30)),.grd 25 false (.load 32 none (.t 31)),.grd 25 false (.len 33 (.t 32)),.grd 25 false (.fadr 34 (.t 3) 2),.grd 25 false (.load 35 none (.t 34)),.grd 25 false (.len 36 (.t 35)),.grd 25 false (.bin 37 .sub (.t 33) (.t 36)),.grd 25 false (.bin 38 .gtr (.t 27) (.t 37)),.pick 39 (.t 25) (.c (.bool true)) (.t 38),.asg 21 (.t 39)]) (.cond (.t 21) (.seq (.ops [.asg 4 (.c (.int .i64 2))]) .ret) .skip))))))) (.seq (.ops [.asg 4 (.c (.int .i64 0))]) .ret)))⟩
def fn119_b0:VCode:=(.seq (.ops [.bin 9 .lss (.t 8) (.t 7)]) (.seq (.cond (.t 9) .skip (.exit 0)) (.seq (.block 1 (.seq (.ops [.mov 10 (.t 8),.asg 5 (.t 10)]) (.seq (.ops [.mov 11 (.t 1),.mov 12 (.t 0),.mov 13 (.t 5),.iadr 14 1 (.t 12) (.t 13),.load 15 none (.t 14),.callv 16 (.t 11) [(.t 15)]]) (.cond (.t 16) (.seq (.ops [.mov 17 (.t 5),.asg 4 (.t 17)]) .ret) .skip)))) (.ops [.bin 18 .add (.t 8) (.c (.int .i64 1)),.mov 8 (.t 18)]))))
def fn119_l1:VCode :=
(.clean [0,1,7,8] [4] (.block 0 (.loop [0,1,7,8] fn119_b0)))
def fn119:VFn:=⟨2,19,[.tmp 4],(.seq (.ops [.asg 4 (.c (.int .i64 0))]) (.seq (.seq (.ops [.mov 6 (.t 0),.len 7 (.t 6),.mov 8 (.c (.int .i64 0))])
  fn119_l1) (.seq (.ops [.asg 4 (.c (.int .i64 (-1)))]) .ret)))⟩
def fn120:VFn:=⟨2,9,[.tmp 4],(.seq (.ops [.asg 4 (.nil 2)]) (.seq (.ops [.mov 5 (.t 0),.mov 6 (.t 1),.call 7 129 [(.t 5),(.t 6),(.c (.func 130 []))],.call 8 128 [(.t 7)],.asg 4 (.t 8)]) .ret))⟩
def fn121:VFn:=⟨2,8,[.tmp 4],(.seq (.ops [.asg 4 (.c (.int .u64 0))]) (.seq (.ops [.mov 5 (.t 0),.mov 6 (.t 1),.bin 7 .or (.t 5) (.t 6),.asg 4 (.t 7)]) .ret))⟩
def fn122_b0:VCode:=(.seq (.ops [.bin 29 .lss (.t 28) (.t 27)]) (.seq (.cond (.t 29) .skip (.exit 0)) (.seq (.block 1 (.seq (.ops [.mov 30 (.t 28),.asg 10 (.t 30)]) (.drw [] [([0,1,2,3,4,5,6,7,8,9,10,11,12,13,14,15],16),([],17)] (some ([18],[],19,[])) [] [.mov 31 (.t 9),.mov 32 (.t 10),.fadr 33 (.t 3) 0,.load 34 none (.t 33),.mov 35 (.t 9),.mov 36 (.t 10),.iadr 37 1 (.t 35) (.t 36),.load 38 none (.t 37),.mov 39 (.t 10),.fadr 40 (.t 5) 0,.load 41 none (.t 40),.fadr 42 (.t 5) 0,.load 43 none (.t 42),.fadr 44 (.t 5) 1,.load 45 none (.t 44),.bin 46 .add (.t 43) (.t 45),.call 47 125 [(.t 39),(.t 41),(.t 46)],.callv 48 (.t 34) [(.t 38),(.t 47)],.iadr 49 1 (.t 31) (.t 32),.store none 1 (.t 49) (.t 48)]))) (.ops [.bin 50 .add (.t 28) (.c (.int .i64 1)),.mov 28 (.t 50)]))))
def fn122_l1:VCode :=
(.clean [3,4,5,6,9,25,27,28] [4,6,7,9] (.block 0 (.loop [3,4,5,6,9,25,27,28] fn122_b0)))
def fn122:VFn:=⟨3,55,[.cell 6 (some 2),.tmp 7],(.seq (.ops [.box 3 (.t 0),.box 4 (.t 1),.box 5 (.t 2),.alloc 6 [(.int .i64 0),(.list 1 [])],.asg 7 (.c (.int .i64 0))]) (.seq (.seq (.ops [.load 11 (some 2) (.t 4),.call 12 91 [(.t 11)],.asg 8 (.t 12)]) (.seq (.ops [.mov 13 (.t 8),.bin 14 .neq (.t 13) (.c (.int .i64 0))]) (.cond (.t 14) (.seq (.ops [.build 15 [(.int .i64 0),(.list 1 [])] [],.mov 16 (.t 8),.store none 2 (.t 6) (.t 15),.asg 7 (.t 16)]) .ret) .skip))) (.seq (.seq (.ops [.load 17 (some 2) (.t 5),.fadr 18 (.t 4) 0,.load 19 none (.t 18),.call 20 131 [(.t 17),(.t 19)],.un 21 .not (.t 20)]) (.cond (.t 21) (.seq (.ops [.build 22 [(.int .i64 0),(.list 1 [])] [],.store none 2 (.t 6) (.t 22),.asg 7 (.c (.int .i64 2))]) .ret) .skip)) (.seq (.ops [.fadr 23 (.t 4) 1,.load 24 none (.t 23),.call 25 80 [(.t 24)],.asg 9 (.t 25)]) (.seq (.seq (.ops [.mov 26 (.t 9),.len 27 (.t 26),.mov 28 (.c (.int .i64 0))])
    fn122_l1) (.seq (.ops [.fadr 51 (.t 4) 0,.load 52 none (.t 51),.mov 53 (.t 9),.build 54 [(.int .i64 0),(.list 1 [])] [(0,1,(.t 52)),(1,1,(.t 53))],.store none 2 (.t 6) (.t 54),.asg 7 (.c (.int .i64 0))]) .ret))))))⟩
def fn124_b0:VCode:=(.seq (.seq (.ops [.mov 24 (.t 5),.bin 25 .neq (.t 24) (.c (.int .u64 0))]) (.cond (.t 25) .skip (.exit 2))) (.block 3 (.seq (.seq (.ops [.mov 26 (.t 0),.mov 27 (.t 4),.bin 28 .mul (.t 27) (.c (.int .i64 64)),.mov 29 (.t 5),.call 30 126 [(.t 29)],.bin 31 .add (.t 28) (.t 30),.yield 32 (.t 26) [(.t 31)],.un 33 .not (.t 32)]) (.cond (.t 33) .ret .skip)) (.ops [.mov 34 (.t 5),.mov 35 (.t 5),.bin 36 .sub (.t 35) (.c (.int .u64 1)),.bin 37 .and (.t 34) (.t 36),.asg 5 (.t 37)]))))
def fn124_l1:VCode :=
(.clean [0,1,2,4,5,10,11,12] [0,1,2,10,11,12] (.block 2 (.loop [0,1,2,4,5,10,11,12] fn124_b0)))
def fn124_b2:VCode:=(.seq (.ops [.bin 13 .lss (.t 12) (.t 11)]) (.seq (.cond (.t 13) .skip (.exit 0)) (.seq (.block 1 (.seq (.ops [.mov 14 (.t 12),.iadr 15 1 (.t 10) (.t 12),.load 16 none (.t 15),.asg 4 (.t 14),.asg 5 (.t 16)]) (.seq (.ops [.mov 17 (.t 5),.mov 18 (.t 4),.load 19 none (.t 2),.fadr 20 (.t 1) 0,.load 21 none (.t 20),.call 22 125 [(.t 18),(.t 19),(.t 21)],.bin 23 .and (.t 17) (.t 22),.asg 5 (.t 23)])
    fn124_l1))) (.ops [.bin 38 .add (.t 12) (.c (.int .i64 1)),.mov 12 (.t 38)]))))
def fn124_l3:VCode :=
(.clean [0,1,2,10,11,12] [] (.block 0 (.loop [0,1,2,10,11,12] fn124_b2)))
def fn124:VFn:=⟨3,39,[],(.seq (.seq (.ops [.load 6 (some 2) (.t 1),.call 7 91 [(.t 6)],.bin 8 .neq (.t 7) (.c (.int .i64 0))]) (.cond (.t 8) .ret .skip)) (.seq (.ops [.fadr 9 (.t 1) 1,.load 10 none (.t 9),.len 11 (.t 10),.mov 12 (.c (.int .i64 0))])
  fn124_l3))⟩
def fn125:VFn:=⟨3,27,[.tmp 6],(.seq (.ops [.asg 6 (.c (.int .u64 0))]) (.seq (.ops [.mov 7 (.t 1),.mov 8 (.t 0),.bin 9 .mul (.t 8) (.c (.int .i64 64)),.bin 10 .sub (.t 7) (.t 9),.mn 11 true (.t 10) (.c (.int .i64 0)),.mov 12 (.t 2),.mov 13 (.t 0),.bin 14 .mul (.t 13) (.c (.int .i64 64)),.bin 15 .sub (.t 12) (.t 14),.mn 16 false (.t 15) (.c (.int .i64 64)),.asg 1 (.t 11),.asg 2 (.t 16)]) (.seq (.seq (.ops [.mov 17 (.t 1),.mov 18 (.t 2),.bin 19 .geq (.t 17) (.t 18)]) (.cond (.t 19) (.seq (.ops [.asg 6 (.c (.int .u64 0))]) .ret) .skip)) (.seq (.ops [.mov 20 (.t 2),.mov 21 (.t 1),.bin 22 .sub (.t 20) (.t 21),.bin 23 .sub (.c (.int .i64 64)) (.t 22),.bin 24 .shr (.c (.int .u64 18446744073709551615)) (.t 23),.mov 25 (.t 1),.bin 26 .shl (.t 24) (.t 25),.asg 6 (.t 26)]) .ret))))⟩
def fn128:VFn:=⟨1,5,[.tmp 2],(.seq (.ops [.asg 2 (.nil 2)]) (.seq (.ops [.mov 3 (.t 0),.call 4 132 [(.c (.nils 2)),(.t 3)],.asg 2 (.t 4)]) .ret))⟩
def fn129:VFn:=⟨3,8,[.tmp 6],(.seq (.ops [.box 3 (.t 0),.box 4 (.t 1),.box 5 (.t 2),.asg 6 (.c .nilf)]) (.seq (.ops [.mkf 7 133 [(.t 3),(.t 4),(.t 5)],.asg 6 (.t 7)]) .ret))⟩
def fn130:VFn:=⟨2,9,[.tmp 4],(.seq (.ops [.asg 4 (.c (.bool false))]) (.seq (.ops [.mov 5 (.t 0),.mov 6 (.t 5),.grd 6 false (.mov 7 (.t 1)),.pick 8 (.t 6) (.c (.bool true)) (.t 7),.asg 4 (.t 8)]) .ret))⟩
def fn131:VFn:=⟨2,28,[.tmp 4],(.seq (.ops [.box 2 (.t 0),.asg 4 (.c (.bool false))]) (.seq (.ops [.fadr 5 (.t 2) 0,.load 6 none (.t 5),.bin 7 .geq (.t 6) (.c (.int .i64 0)),.mov 8 (.t 7),.grd 8 true (.fadr 9 (.t 2) 1),.grd 8 true (.load 10 none (.t 9)),.grd 8 true (.bin 11 .geq (.t 10) (.c (.int .i64 0))),.pick 12 (.t 8) (.t 11) (.c (.bool false)),.mov 13 (.t 12),.grd 13 true (.fadr 14 (.t 2) 0),.grd 13 true (.load 15 none (.t 14)),.grd 13 true (.mov 16 (.t 1)),.grd 13 true (.bin 17 .leq (.t 15) (.t 16)),.pick 18 (.t 13) (.t 17) (.c (.bool false)),.mov 19 (.t 18),.grd 19 true (.fadr 20 (.t 2) 1),.grd 19 true (.load 21 none (.t 20)),.grd 19 true (.mov 22 (.t 1)),.grd 19 true (.fadr 23 (.t 2) 0),.grd 19 true (.load 24 none (.t 23)),.grd 19 true (.bin 25 .sub (.t 22) (.t 24)),.grd 19 true (.bin 26 .leq (.t 21) (.t 25)),.pick 27 (.t 19) (.t 26) (.c (.bool false)),.asg 4 (.t 27)]) .ret))⟩
def fn132_b0:VCode:=(.ops [.alloc 5 [(.int .i64 0),(.int .i64 0)],.store none 2 (.t 5) (.t 7)])
def fn132_b1:VCode:=(.block 1 (.ops [.load 8 none (.t 2),.load 9 (some 2) (.t 5),.mksl 10 2 [(.t 9)],.app 11 2 (.t 8) (.t 10),.store none 1 (.t 2) (.t 11)]))
def fn132:VFn:=⟨2,13,[.tmp 4],(.seq (.ops [.box 2 (.t 0),.asg 4 (.nil 2)]) (.seq (.seq (.ops [.mov 6 (.t 1)]) (.block 0 (.rng (.t 6) [7] fn132_b0 fn132_b1))) (.seq (.ops [.load 12 none (.t 2),.asg 4 (.t 12)]) .ret)))⟩
def fn133_b0:VCode:=(.seq (.ops [.bin 19 .lss (.t 18) (.t 17)]) (.seq (.cond (.t 19) .skip (.exit 0)) (.seq (.block 1 (.seq (.ops [.mov 20 (.t 18),.iadr 21 3 (.t 16) (.t 18),.load 22 (some 3) (.t 21),.alloc 10 [(.int .i64 0),(.int .i64 0),(.int .i64 0)],.asg 9 (.t 20),.store none 3 (.t 10) (.t 22)]) (.seq (.drw [] [] (some ([0,1,2,3,4,5,6,7],[],8,[])) [] [.fadr 23 (.t 10) 1,.load 24 none (.t 23),.aadr 25 (.t 6) (.t 24) 2 1,.load 26 none (.t 25),.fadr 27 (.t 10) 2,.load 28 none (.t 27),.bin 29 .add (.t 26) (.t 28),.aadr 30 (.t 6) (.t 24) 2 1,.store none 1 (.t 30) (.t 29)]) (.seq (.seq (.drw [] [] none [0,1,2,3,4,5,6,7,8,9,10,11,12,13,14,15] [.mov 31 (.t 9),.bin 32 .add (.t 31) (.c (.int .i64 1)),.mov 33 (.t 5),.len 34 (.t 33),.bin 35 .lss (.t 32) (.t 34),.mov 36 (.t 35),.grd 36 true (.mov 37 (.t 5)),.grd 36 true (.mov 38 (.t 9)),.grd 36 true (.bin 39 .add (.t 38) (.c (.int .i64 1))),.grd 36 true (.iadr 40 3 (.t 37) (.t 39)),.grd 36 true (.fadr 41 (.t 40) 0),.grd 36 true (.load 42 none (.t 41)),.grd 36 true (.fadr 43 (.t 10) 0),.grd 36 true (.load 44 none (.t 43)),.grd 36 true (.bin 45 .eql (.t 42) (.t 44)),.pick 46 (.t 36) (.t 45) (.c (.bool false))]) (.cond (.t 46) (.exit 1) .skip)) (.seq (.ops [.load 47 none (.t 3),.aadr 48 (.t 6) (.c (.int .i64 0)) 2 1,.load 49 none (.t 48),.bin 50 .gtr (.t 49) (.c (.int .i64 0)),.aadr 51 (.t 6) (.c (.int .i64 1)) 2 1,.load 52 none (.t 51),.bin 53 .gtr (.t 52) (.c (.int .i64 0)),.callv 54 (.t 47) [(.t 50),(.t 53)],.asg 11 (.t 54)]) (.seq (.seq (.ops [.mov 55 (.t 11),.mov 56 (.t 55),.grd 56 true (.mov 57 (.t 8)),.grd 56 true (.un 58 .not (.t 57)),.pick 59 (.t 56) (.t 58) (.c (.bool false))]) (.cond (.t 59) (.ops [.fadr 60 (.t 10) 0,.load 61 none (.t 60),.asg 7 (.t 61)]) .skip)) (.seq (.seq (.ops [.mov 62 (.t 11),.un 63 .not (.t 62),.mov 64 (.t 63),.grd 64 true (.mov 65 (.t 8)),.pick 66 (.t 64) (.t 65) (.c (.bool false)),.mov 67 (.t 66),.grd 67 true (.mov 68 (.t 0)),.grd 67 true (.mov 69 (.t 7)),.grd 67 true (.fadr 70 (.t 10) 0),.grd 67 true (.load 71 none (.t 70)),.grd 67 true (.mov 72 (.t 7)),.grd 67 true (.bin 73 .sub (.t 71) (.t 72)),.grd 67 true (.build 74 [(.int .i64 0),(.int .i64 0)] [(0,1,(.t 69)),(1,1,(.t 73))]),.grd 67 true (.yield 75 (.t 68) [(.t 74)]),.grd 67 true (.un 76 .not (.t 75)),.pick 77 (.t 67) (.t 76) (.c (.bool false))]) (.cond (.t 77) .ret .skip)) (.ops [.mov 78 (.t 11),.asg 8 (.t 78)])))))))) (.ops [.bin 79 .add (.t 18) (.c (.int .i64 1)),.mov 18 (.t 79)]))))
def fn133_l1:VCode :=
(.clean [0,3,5,6,7,8,15,16,17,18] [] (.block 0 (.loop [0,3,5,6,7,8,15,16,17,18] fn133_b0)))
def fn133:VFn:=⟨4,80,[],(.seq (.ops [.load 12 none (.t 1),.load 13 none (.t 2),.mksl 14 1 [(.t 12),(.t 13)],.call 15 134 [(.t 14)],.asg 5 (.t 15)]) (.seq (.ops [.alloc 6 [(.int .i64 0),(.int .i64 0)]]) (.seq (.ops [.asg 7 (.c (.int .i64 0)),.asg 8 (.c (.bool false))]) (.seq (.ops [.mov 16 (.t 5),.len 17 (.t 16),.mov 18 (.c (.int .i64 0))])
   fn133_l1))))⟩
def fn134_b0:VCode:=(.seq (.ops [.bin 21 .lss (.t 20) (.t 19)]) (.seq (.cond (.t 21) .skip (.exit 2)) (.seq (.block 3 (.seq (.ops [.iadr 22 2 (.t 18) (.t 20),.load 23 (some 2) (.t 22),.alloc 7 [(.int .i64 0),(.int .i64 0)],.store none 2 (.t 7) (.t 23)]) (.seq (.ops [.load 25 (some 2) (.t 7),.call 26 135 [(.t 25)],.mov 24 (.t 26),.ext 27 (.t 24) 0,.ext 28 (.t 24) 1,.ext 29 (.t 24) 2,.asg 8 (.t 27),.asg 9 (.t 28),.asg 10 (.t 29)]) (.seq (.ops [.mov 30 (.t 10)]) (.cond (.t 30) (.ops [.mov 31 (.t 3),.mov 32 (.t 8),.mov 33 (.t 4),.build 34 [(.int .i64 0),(.int .i64 0),(.int .i64 0)] [(0,1,(.t 32)),(1,1,(.t 33)),(2,1,(.c (.int .i64 1)))],.mov 35 (.t 9),.mov 36 (.t 4),.build 37 [(.int .i64 0),(.int .i64 0),(.int .i64 0)] [(0,1,(.t 35)),(1,1,(.t 36)),(2,1,(.c (.int .i64 (-1))))],.mksl 38 3 [(.t 34),(.t 37)],.app 39 3 (.t 31) (.t 38),.asg 3 (.t 39)]) .skip))))) (.ops [.bin 40 .add (.t 20) (.c (.int .i64 1)),.mov 20 (.t 40)]))))
def fn134_l1:VCode :=
(.clean [0,3,4,5,11,12,13,17,18,19,20,39] [0,2,3,11,12,13,39] (.block 2 (.loop [0,3,4,5,11,12,13,17,18,19,20,39] fn134_b0)))
def fn134_b2:VCode:=(.seq (.ops [.bin 14 .lss (.t 13) (.t 12)]) (.seq (.cond (.t 14) .skip (.exit 0)) (.seq (.block 1 (.seq (.ops [.mov 15 (.t 13),.iadr 16 1 (.t 11) (.t 13),.load 17 none (.t 16),.asg 4 (.t 15),.asg 5 (.t 17)]) (.seq (.ops [.mov 18 (.t 5),.len 19 (.t 18),.mov 20 (.c (.int .i64 0))])
    fn134_l1))) (.ops [.bin 41 .add (.t 13) (.c (.int .i64 1)),.mov 13 (.t 41)]))))
def fn134_l3:VCode :=
(.clean [0,3,11,12,13,39] [2,3] (.block 0 (.loop [0,3,11,12,13,39] fn134_b2)))
def fn134:VFn:=⟨1,45,[.tmp 2],(.seq (.ops [.asg 2 (.nil 3)]) (.seq (.ops [.asg 3 (.nil 3)]) (.seq (.seq (.ops [.mov 11 (.t 0),.len 12 (.t 11),.mov 13 (.c (.int .i64 0))])
   fn134_l3) (.seq (.ops [.mov 42 (.t 3),.srt 43 136 (.t 42) (.c (.func 137 []))]) (.seq (.ops [.mov 44 (.t 3),.asg 2 (.t 44)]) .ret)))))⟩
def fn135:VFn:=⟨1,35,[.tmp 2,.tmp 3,.tmp 4],(.seq (.ops [.box 1 (.t 0),.asg 2 (.c (.int .i64 0)),.asg 3 (.c (.int .i64 0)),.asg 4 (.c (.bool false))]) (.seq (.seq (.ops [.fadr 7 (.t 1) 1,.load 8 none (.t 7),.bin 9 .leq (.t 8) (.c (.int .i64 0))]) (.cond (.t 9) (.seq (.ops [.asg 2 (.c (.int .i64 0)),.asg 3 (.c (.int .i64 0)),.asg 4 (.c (.bool false))]) .ret) .skip)) (.seq (.ops [.fadr 10 (.t 1) 0,.load 11 none (.t 10),.mn 12 true (.t 11) (.c (.int .i64 0)),.asg 5 (.t 12),.asg 6 (.c (.int .i64 4096))]) (.seq (.seq (.ops [.fadr 13 (.t 1) 0,.load 14 none (.t 13),.bin 15 .lss (.t 14) (.c (.int .i64 0)),.mov 16 (.t 15),.grd 16 false (.fadr 17 (.t 1) 1),.grd 16 false (.load 18 none (.t 17)),.grd 16 false (.fadr 19 (.t 1) 0),.grd 16 false (.load 20 none (.t 19)),.grd 16 false (.bin 21 .sub (.c (.int .i64 4096)) (.t 20)),.grd 16 false (.bin 22 .lss (.t 18) (.t 21)),.pick 23 (.t 16) (.c (.bool true)) (.t 22)]) (.cond (.t 23) (.ops [.fadr 24 (.t 1) 0,.load 25 none (.t 24),.fadr 26 (.t 1) 1,.load 27 none (.t 26),.bin 28 .add (.t 25) (.t 27),.mn 29 false (.t 28) (.c (.int .i64 4096)),.asg 6 (.t 29)]) .skip)) (.seq (.ops [.mov 30 (.t 5),.mov 31 (.t 6),.mov 32 (.t 5),.mov 33 (.t 6),.bin 34 .lss (.t 32) (.t 33),.asg 2 (.t 30),.asg 3 (.t 31),.asg 4 (.t 34)]) .ret)))))⟩
def fn137:VFn:=⟨2,10,[.tmp 4],(.seq (.ops [.box 2 (.t 0),.box 3 (.t 1),.asg 4 (.c (.int .i64 0))]) (.seq (.ops [.fadr 5 (.t 2) 0,.load 6 none (.t 5),.fadr 7 (.t 3) 0,.load 8 none (.t 7),.call 9 138 [(.t 6),(.t 8)],.asg 4 (.t 9)]) .ret))⟩
def fn138:VFn:=⟨2,20,[.tmp 4],(.seq (.ops [.asg 4 (.c (.int .i64 0))]) (.seq (.ops [.mov 7 (.t 0),.call 8 141 [(.t 7)],.asg 5 (.t 8)]) (.seq (.ops [.mov 9 (.t 1),.call 10 141 [(.t 9)],.asg 6 (.t 10)]) (.seq (.seq (.ops [.mov 11 (.t 5)]) (.cond (.t 11) (.seq (.seq (.ops [.mov 12 (.t 6)]) (.cond (.t 12) (.seq (.ops [.asg 4 (.c (.int .i64 0))]) .ret) .skip)) (.seq (.ops [.asg 4 (.c (.int .i64 (-1)))]) .ret)) .skip)) (.seq (.seq (.ops [.mov 13 (.t 6)]) (.cond (.t 13) (.seq (.ops [.asg 4 (.c (.int .i64 1))]) .ret) .skip)) (.seq (.seq (.ops [.mov 14 (.t 0),.mov 15 (.t 1),.bin 16 .lss (.t 14) (.t 15)]) (.cond (.t 16) (.seq (.ops [.asg 4 (.c (.int .i64 (-1)))]) .ret) .skip)) (.seq (.seq (.ops [.mov 17 (.t 0),.mov 18 (.t 1),.bin 19 .gtr (.t 17) (.t 18)]) (.cond (.t 19) (.seq (.ops [.asg 4 (.c (.int .i64 1))]) .ret) .skip)) (.seq (.ops [.asg 4 (.c (.int .i64 0))]) .ret))))))))⟩
def fn141:VFn:=⟨1,6,[.tmp 2],(.seq (.ops [.asg 2 (.c (.bool false))]) (.seq (.ops [.mov 3 (.t 0),.mov 4 (.t 0),.bin 5 .neq (.t 3) (.t 4),.asg 2 (.t 5)]) .ret))⟩
def tab:List (Nat × VDef):=[(8,.code fn8),(10,.code fn10),(11,.code fn11),(15,.code fn15),(16,.code fn16),(18,.code fn18),(20,.code fn20),(23,.code fn23),(26,.code fn26),(28,.code fn28),(31,.code fn31),(32,.code fn32),(33,.code fn33),(34,.code fn34),(35,.code fn35),(36,.code fn36),(37,.code fn37),(38,.code fn38),(39,.ext (cloneX 1)),(42,.code fn42),(43,.code fn43),(44,.code fn44),(45,.code fn45),(48,.code fn48),(49,.code fn49),(52,.code fn52),(53,.code fn53),(54,.code fn54),(55,.code fn55),(56,.code fn56),(57,.code fn57),(62,.code fn62),(63,.code fn63),(64,.code fn64),(65,.code fn65),(66,.code fn66),(67,.code fn67),(68,.code fn68),(69,.code fn69),(70,.code fn70),(72,.code fn72),(73,.code fn73),(74,.code fn74),(75,.code fn75),(76,.code fn76),(77,.code fn77),(78,.code fn78),(79,.code fn79),(80,.ext (cloneX 1)),(86,.ext (cloneX 8)),(87,.code fn87),(88,.code fn88),(89,.code fn89),(90,.code fn90),(91,.code fn91),(93,.code fn93),(94,.code fn94),(95,.code fn95),(97,.code fn97),(98,.code fn98),(99,.code fn99),(100,.ext applyX),(101,.code fn101),(102,.code fn102),(103,.code fn103),(104,.code fn104),(105,.code fn105),(106,.code fn106),(107,.code fn107),(108,.code fn108),(109,.code fn109),(112,.code fn112),(113,.code fn113),(114,.code fn114),(115,.srt addX),(116,.code fn116),(118,.code fn118),(119,.code fn119),(120,.code fn120),(121,.code fn121),(122,.code fn122),(124,.code fn124),(125,.code fn125),(126,.ext tzX),(128,.code fn128),(129,.code fn129),(130,.code fn130),(131,.code fn131),(132,.code fn132),(133,.code fn133),(134,.code fn134),(135,.code fn135),(136,.srt (sortEndsX 137)),(137,.code fn137),(138,.code fn138),(141,.code fn141)]
def env:Env:=fun f=>tab.lookup f
theorem env8:env 8=some (.code fn8):=rfl
theorem env10:env 10=some (.code fn10):=rfl
theorem env11:env 11=some (.code fn11):=rfl
theorem env15:env 15=some (.code fn15):=rfl
theorem env16:env 16=some (.code fn16):=rfl
theorem env20:env 20=some (.code fn20):=rfl
theorem env28:env 28=some (.code fn28):=rfl
theorem env31:env 31=some (.code fn31):=rfl
theorem env32:env 32=some (.code fn32):=rfl
theorem env33:env 33=some (.code fn33):=rfl
theorem env34:env 34=some (.code fn34):=rfl
theorem env35:env 35=some (.code fn35):=rfl
theorem env38:env 38=some (.code fn38):=rfl
theorem env39:env 39=some (.ext (cloneX 1)):=rfl
theorem env42:env 42=some (.code fn42):=rfl
theorem env43:env 43=some (.code fn43):=rfl
theorem env44:env 44=some (.code fn44):=rfl
theorem env45:env 45=some (.code fn45):=rfl
theorem env48:env 48=some (.code fn48):=rfl
theorem env49:env 49=some (.code fn49):=rfl
theorem env53:env 53=some (.code fn53):=rfl
theorem env57:env 57=some (.code fn57):=rfl
theorem env62:env 62=some (.code fn62):=rfl
theorem env63:env 63=some (.code fn63):=rfl
theorem env64:env 64=some (.code fn64):=rfl
theorem env65:env 65=some (.code fn65):=rfl
theorem env66:env 66=some (.code fn66):=rfl
theorem env67:env 67=some (.code fn67):=rfl
theorem env68:env 68=some (.code fn68):=rfl
theorem env69:env 69=some (.code fn69):=rfl
theorem env70:env 70=some (.code fn70):=rfl
theorem env72:env 72=some (.code fn72):=rfl
theorem env73:env 73=some (.code fn73):=rfl
theorem env74:env 74=some (.code fn74):=rfl
theorem env75:env 75=some (.code fn75):=rfl
theorem env76:env 76=some (.code fn76):=rfl
theorem env77:env 77=some (.code fn77):=rfl
theorem env78:env 78=some (.code fn78):=rfl
theorem env79:env 79=some (.code fn79):=rfl
theorem env80:env 80=some (.ext (cloneX 1)):=rfl
theorem env86:env 86=some (.ext (cloneX 8)):=rfl
theorem env87:env 87=some (.code fn87):=rfl
theorem env88:env 88=some (.code fn88):=rfl
theorem env89:env 89=some (.code fn89):=rfl
theorem env90:env 90=some (.code fn90):=rfl
theorem env91:env 91=some (.code fn91):=rfl
theorem env94:env 94=some (.code fn94):=rfl
theorem env97:env 97=some (.code fn97):=rfl
theorem env98:env 98=some (.code fn98):=rfl
theorem env99:env 99=some (.code fn99):=rfl
theorem env100:env 100=some (.ext applyX):=rfl
theorem env101:env 101=some (.code fn101):=rfl
theorem env102:env 102=some (.code fn102):=rfl
theorem env103:env 103=some (.code fn103):=rfl
theorem env104:env 104=some (.code fn104):=rfl
theorem env105:env 105=some (.code fn105):=rfl
theorem env106:env 106=some (.code fn106):=rfl
theorem env107:env 107=some (.code fn107):=rfl
theorem env108:env 108=some (.code fn108):=rfl
theorem env109:env 109=some (.code fn109):=rfl
theorem env112:env 112=some (.code fn112):=rfl
theorem env113:env 113=some (.code fn113):=rfl
theorem env115:env 115=some (.srt addX):=rfl
theorem env116:env 116=some (.code fn116):=rfl
theorem env118:env 118=some (.code fn118):=rfl
theorem env119:env 119=some (.code fn119):=rfl
theorem env120:env 120=some (.code fn120):=rfl
theorem env121:env 121=some (.code fn121):=rfl
theorem env122:env 122=some (.code fn122):=rfl
theorem env125:env 125=some (.code fn125):=rfl
theorem env128:env 128=some (.code fn128):=rfl
theorem env129:env 129=some (.code fn129):=rfl
theorem env130:env 130=some (.code fn130):=rfl
theorem env131:env 131=some (.code fn131):=rfl
theorem env132:env 132=some (.code fn132):=rfl
theorem env133:env 133=some (.code fn133):=rfl
theorem env134:env 134=some (.code fn134):=rfl
theorem env135:env 135=some (.code fn135):=rfl
theorem env136:env 136=some (.srt (sortEndsX 137)):=rfl
end Go.Proofs.YtpcncggjmabnaaaGreatDoor
