/-
  Part 4 of the texts that the statement stands on.
-/
import Derived.Test.YtioijcfcehhmdaaGreatDoorZ3
import Derived.IntWalk
import Derived.Sort.Defs
import Derived.Lib.BitFns
import Derived.Shelf.Lays7
import Derived.Ground.Names7Prog
import Derived.Test.YtioijcfcehhmdaaGreatDoorProg
import Derived.Shelf.Spec.TrailingZeros
import Derived.ProofKit
import Derived.SizedLaws
import Derived.OpenShut
import Derived.Deep.Strs
set_option linter.all false
namespace Go.Proofs.YtioijcfcehhmdaaGreatDoor
open Go.RowKit
def zval:PV→Value
 |.int k n=>.int k n
 |.bool b=>.bool b
 |_=>.slice none 0 0
def zeroAll:List Nat→List (List PV)→World→World
 |b :: bs,z :: zs,w=>zeroAll bs zs (w.setRow b (z.map zval).toArray)
 |_,_,w=>w
def RescOk (P:Program) (r t:Nat):Prop:=callable P r=true ∧
 (∀ (b:Nat) (m n:Int) (E:TypeId) (w:World),w.heap[b]?=some (.cells #[.int .i64 m] E (0,0))→CallsDIn Fence.wide 0 P r #[.pointer (some ⟨b,0,none⟩)] (.panicking [{ v:=.iface t (.int .i64 n),recovered:=false }]) w fun e u' w'=>e=.returned (.tuple #[])∧settle u'=.returning∧w'=w.setRow b #[.int .i64 n]) ∧
 (∀ (b:Nat) (w:World),CallsDIn Fence.wide 0 P r #[.pointer (some ⟨b,0,none⟩)] .returning w fun e u' w'=>e=.returned (.tuple #[])∧settle u'=.returning∧w'=w)
def ptrs (bs:List Nat):Array Value:=(bs.map fun b=>Value.pointer (some ⟨b,0,none⟩)).toArray
def ClosOk (P:Program) (g:Nat) (zs:List (List PV)):Prop:=callable P g=true ∧
 (∀ (be:Nat) (bs:List Nat) (E:TypeId) (w:World),bs.length=zs.length→w.heap[be]?=some (.cells #[.int .i64 0] E (0,0))→CallsDIn Fence.wide 0 P g (ptrs (be :: bs)) .returning w fun e u' w'=>e=.returned (.tuple #[])∧settle u'=.returning∧w'=w) ∧
 (∀ (be:Nat) (bs:List Nat) (m:Int) (E:TypeId) (w:World),m≠0→bs.length=zs.length→w.heap[be]?=some (.cells #[.int .i64 m] E (0,0)) →
  (∀ (i:Nat) b z,bs[i]?=some b→zs[i]?=some z→∃ arr E,w.heap[b]?=some (.cells arr E (0,0))∧arr.size=z.length)→(be :: bs).Nodup →
  CallsDIn Fence.wide 0 P g (ptrs (be :: bs)) .returning w fun e u' w'=>e=.returned (.tuple #[])∧settle u'=.returning∧w'=zeroAll bs zs w)
def deferOf:Op→Option (Operand × List Operand)
 |.defer c=>match c.callee with
  |.value y=>some (y,c.args.toList)
  |_=>none
 |_=>none
def isResc (fn:DFn):List Oper→Bool
 |[o]=>o.guard.isNone&&o.dst.isNone&&(match deferOf o.op with
  |some (.func f,[.tmp s])=>f==fn.resc&&s==fn.e
  |_=>false)
 |_=>false
def isClos (P:Program) (fn:DFn):List Oper→Bool
 |[o,o2]=>match fn.clos with
  |some (d,g,zs)=>o.guard.isNone&&m1 P o (.mkf d g (.t fn.e :: zs.map fun z=>.t z.1))&&o2.guard.isNone&&o2.dst.isNone&&(match deferOf o2.op with
   |some (.tmp s,[])=>s==d
   |_=>false)
  |none=>false
 |_=>false
def mD (P:Program) (fn:DFn):Code→Bool
 |.seq r0 (.seq (.region _ o1 false) c)=>mC P r0 fn.pre&&(match fn.clos with
  |none=>isResc fn o1.toList&&mC P c fn.body
  |some _=>(match c with
   |.seq (.region _ o2 false) rest=>isClos P fn o1.toList&&isResc fn o2.toList&&mC P rest fn.body
   |_=>false))
 |_=>false
def dfnOk (P:Program) (f:Nat) (fn:DFn):Bool :=
 match P.funcs[f]? with
 |some g=>(match g.body with
  |some c=>mD P fn c
  |none=>false)&&g.name != "runtime.NumGoroutine"&&g.ntmps==fn.ntmps&&decide (fn.nargs≤fn.ntmps)&&mResL P g.results.toList fn.results
 |none=>false
section
variable {P:Program} {L K nb n:Nat} {F:Fence} {σ σ':Nat→Nat} {T T' T1 T2:Tags} {st st' st1:St} {a a1:Act} {w w1:World} {r:Root} {o:Oper} {opl:Array Oper} {Q:Exit→Act→World→Prop}
 {rec:VCode→St→Option (Ex × St)} {env:Env}
theorem dfnOk_eq {f:Nat} {fn:DFn} (h:dfnOk P f fn=true):callable P f=true∧∃ g c,P.funcs[f]?=some g∧g.body=some c∧mD P fn c=true∧g.ntmps=fn.ntmps∧fn.nargs≤fn.ntmps∧mResL P g.results.toList fn.results=true:=by
 unfold dfnOk at h
 split at h
 case h_2=>cases h
 rename_i g hf
 simp only [Bool.and_eq_true,beq_iff_eq,bne_iff_ne,decide_eq_true_eq] at h
 obtain ⟨⟨⟨⟨h1,h2⟩,h3⟩,h4⟩,h5⟩:=h
 split at h1
 case h_2=>cases h1
 rename_i c hb
 exact ⟨by simp [callable,hf,h2,hb],g,c,hf,hb,h1,h3,h4,h5⟩
theorem Sim.withDefers (h:Sim L σ T st a w) (ds:List Deferred):Sim L σ T st { a with defers:=ds } w:=⟨h.size,h.slots,h.boxes,h.fresh⟩
theorem leavesM_marks2 {fn:Func} {tmps:Array Value} {R:Ending→World→Prop} {B:Nat} {ds:List Deferred} {u:FrameMode} (hu:u≠.run):∀ {ms:List Nat} {w:World},ms.Nodup→(∀ r∈ms,B≤r∧w.heap[r]?=some (.deferred (some []))) →
  (∀ w',w'.os=w.os→w'.tape=w.tape→w'.output=w.output→w'.heap.size=w.heap.size→(∀ b,b ∉ ms→w'.heap[b]?=w.heap[b]?)→LeavesInM Fence.wide 0 P fn tmps R ds u w') →
  LeavesInM Fence.wide 0 P fn tmps R (ms.map markOf++ds) u w
 |[],w,_,_,h=>h w rfl rfl rfl rfl fun _ _=>rfl
 |r :: ms,w,hnd,hms,h=>by
  simp only [List.map_cons,List.cons_append,LeavesInM]
  obtain ⟨hn1,hn2⟩:=List.nodup_cons.1 hnd
  obtain ⟨k1,k2⟩:=hms r (by simp)
  have hput:∀ b,b≠r→(w.putObj r (.deferred none)).heap[b]?=w.heap[b]?:=fun b hb=>by simp [World.putObj,Array.getElem?_setIfInBounds,Ne.symm hb]
  refine ⟨hu,.inl ⟨r,_,rfl,run_takeDeferred k2,leavesM_marks2 hu (B:=B) hn2 (fun r' hr'=>?_) fun w' e1 e2 e3 e4 e5=>h w' e1 e2 e3 (by rw [e4];simp [World.putObj]) fun b hb=>?_⟩⟩
  ·obtain ⟨q1,q2⟩:=hms r' (by simp [hr'])
   exact ⟨q1,by rw [hput r' (fun e=>hn1 (e ▸ hr'))];exact q2⟩
  ·simp only [List.mem_cons,not_or] at hb
   rw [e5 b hb.2,hput b hb.1]
theorem leavesM_call {fn:Func} {tmps:Array Value} {R:Ending→World→Prop} {ds:List Deferred} {u:FrameMode} {g:Nat} {arr args:Array Value} (hu:u≠.run) (hc:callable P g=true)
  {w':World} (h:CallsDIn Fence.wide 0 P g (args++arr) u w fun e u' w2=>e=.returned (.tuple #[])∧settle u'=.returning∧w2=w') (hn:LeavesInM Fence.wide 0 P fn tmps R ds .returning w') :
  LeavesInM Fence.wide 0 P fn tmps R ({ target:=.fn (.func g) arr,args:=args } :: ds) u w:=by
 simp only [LeavesInM]
 refine ⟨hu,.inr ⟨(fun e=>by cases e),_,_,g,_,rfl,run_callFunc hc _ _,(fun _ _=>trivial),h.mono ?_⟩⟩
 rintro e u' w2 ⟨rfl,h2,rfl⟩
 simp only [h2]
 exact hn
theorem naught_rep {ok:Nat→Prop} {x:PV} (h:x.naught=true):PRep ok w x (zval x)∧(zval x).oneCell'=true:=by
 cases x with
 |int k n=>exact ⟨.int _ _,rfl⟩
 |bool b=>exact ⟨.bool _,rfl⟩
 |list sz l=>cases l with
  |nil=>exact ⟨.nil _ _,rfl⟩
  |cons _ _=>cases h
 |nils sz=>exact ⟨.nils _ _,rfl⟩
 |_=>cases h
theorem Sim.setVar (h:Sim L σ T st a w) {p:Nat} {vals:List PV} (hp:st.setVar p vals=some st'):(∃ arr E,w.heap[σ p]?=some (.cells arr E (0,0))∧arr.size=vals.length)∧Sim L σ T st' a (w.setRow (σ p) (vals.map zval).toArray) ∧
  Chg T T w (w.setRow (σ p) (vals.map zval).toArray)∧T (σ p)=.box p:=by
 unfold St.setVar at hp
 split at hp
 case h_2=>cases hp
 rename_i bx hb
 split at hp
 ·cases hp
 rename_i hc
 simp only [Bool.or_eq_true,Bool.not_eq_true',decide_eq_false_iff_not,not_or,Bool.not_eq_true,Classical.not_not,Bool.not_eq_false] at hc
 obtain ⟨⟨c1,c2⟩,c3⟩:=hc
 cases Option.some.inj hp
 obtain ⟨arr,E,g1,g2,g3,g4,g5⟩:=h.boxes p bx hb
 have:=h.setBox (T':=T) (cs':=vals.map .pv) (arr':=(vals.map zval).toArray) id hb c1 g1 (by simp [c2]) (by simp [g2,c2]) (fun k bv u hk hu=>by
  rw [List.getElem?_map] at hk
  cases hx:vals[k]? with
  |none=>rw [hx] at hk;cases hk
  |some x =>
   rw [hx] at hk
   cases hk
   rw [List.getElem?_toArray,List.getElem?_map,hx] at hu
   cases hu
   obtain ⟨q1,q2⟩:=naught_rep (w:=w.setRow (σ p) (vals.map zval).toArray) (ok:=fun b=>T b=.ro) (List.all_eq_true.1 c3 x (List.mem_of_getElem? hx))
   exact ⟨q2,q1⟩) (fun x=>.inr ⟨rfl,fun k _ s l hk=>by
  rw [List.getElem?_map] at hk
  cases hx:vals[k]? with
  |none=>rw [hx] at hk;cases hk
  |some x=>rw [hx] at hk;cases hk⟩) (fun _ e=>e) (fun _ _ e=>e) (fun _ e=>e) (fun _ _ _ _ _ e=>e) (fun _ _ _ _ _ e=>e) (fun _ _ _ _ e=>e)
 rw [List.map_id] at this
 exact ⟨⟨arr,E,g1,by omega⟩,this.1,this.2,by rw [g3,c1];rfl⟩
theorem setVar_boxes {p:Nat} {vals:List PV} (hp:st.setVar p vals=some st'):(∃ bx:Box,st.boxes[p]?=some bx∧bx.fz=false∧bx.cs.length=vals.length)∧∀ (q:Nat) (bx':Box),st'.boxes[q]?=some bx'→∃ bx:Box,st.boxes[q]?=some bx∧bx.fz=bx'.fz∧bx.cs.length=bx'.cs.length:=by
 unfold St.setVar at hp
 split at hp
 case h_2=>cases hp
 rename_i bx hb
 split at hp
 ·cases hp
 rename_i hc
 simp only [Bool.or_eq_true,Bool.not_eq_true',decide_eq_false_iff_not,not_or,Bool.not_eq_true,Classical.not_not,Bool.not_eq_false] at hc
 obtain ⟨⟨c1,c2⟩,c3⟩:=hc
 cases Option.some.inj hp
 refine ⟨⟨bx,hb,c1,c2⟩,fun q bx' hq=>?_⟩
 simp only [List.getElem?_set] at hq
 split at hq
 ·rename_i e
  subst e
  split at hq
  ·cases hq;exact ⟨bx,hb,rfl,by simp [c2]⟩
  ·cases hq
 ·exact ⟨bx',hq,rfl,rfl⟩
theorem setVars_boxes:∀ {os:List Nat} {zs:List (List PV)} {st:St},St.setVars os zs st=some st'→os.length=zs.length∧∀ (i:Nat) p z,os[i]?=some p→zs[i]?=some z→∃ bx:Box,st.boxes[p]?=some bx∧bx.fz=false∧bx.cs.length=z.length
 |[],[],st,_=>⟨rfl,fun i p z h=>by simp at h⟩
 |[],_ :: _,st,h=>by simp [St.setVars] at h
 |_ :: _,[],st,h=>by simp [St.setVars] at h
 |o :: os,z :: zs,st,h=>by
  simp only [St.setVars] at h
  obtain ⟨s1,h1,h2⟩:=bind_some h
  obtain ⟨g1,g2⟩:=setVar_boxes h1
  obtain ⟨k1,k2⟩:=setVars_boxes h2
  refine ⟨by simp [k1],fun i p z' hp hz=>?_⟩
  cases i with
  |zero=>simp only [List.getElem?_cons_zero,Option.some.injEq] at hp hz;subst hp;subst hz;exact g1
  |succ i =>
   obtain ⟨bx',q1,q2,q3⟩:=k2 i p z' (by simpa using hp) (by simpa using hz)
   obtain ⟨bx,r1,r2,r3⟩:=g2 p bx' q1
   exact ⟨bx,r1,r2.trans q2,r3.trans q3⟩
theorem Sim.setVars:∀ {os:List Nat} {zs:List (List PV)} {st:St} {w:World},Sim L σ T st a w→St.setVars os zs st=some st'→Sim L σ T st' a (zeroAll (os.map σ) zs w)∧Chg T T w (zeroAll (os.map σ) zs w)
 |[],[],st,w,h,hp=>by
  simp only [St.setVars,Option.some.injEq] at hp
  subst hp
  exact ⟨h,Chg.refl T w⟩
 |[],_ :: _,st,w,_,h=>by simp [St.setVars] at h
 |_ :: _,[],st,w,_,h=>by simp [St.setVars] at h
 |o :: os,z :: zs,st,w,hs,h=>by
  simp only [St.setVars] at h
  obtain ⟨s1,h1,h2⟩:=bind_some h
  obtain ⟨_,g1,g2,_⟩:=hs.setVar h1
  obtain ⟨k1,k2⟩:=Sim.setVars g1 h2
  exact ⟨k1,g2.trans k2⟩
theorem Sim.varInt (h:Sim L σ T st a w) {p:Nat} {m:Int} (hp:st.varInt p=some m):(∃ E,w.heap[σ p]?=some (.cells #[.int .i64 m] E (0,0)))∧T (σ p)=.box p:=by
 unfold St.varInt at hp
 split at hp
 case h_2=>cases hp
 rename_i m' hb
 cases Option.some.inj hp
 obtain ⟨arr,E,g1,g2,g3,g4,g5⟩:=h.boxes p _ hb
 refine ⟨⟨E,?_⟩,g3⟩
 match arr,g2 with
 |⟨[u]⟩,_ =>
  have:=(g5 0 _ u rfl rfl).2
  rw [PRep.int_inv this] at g1
  exact g1
theorem code_thr (hR:RecOk P rec) {f:Nat} {fn:VFn} {args:List PV} {t:Nat} {m:Int} (hfn:fnOk P f fn=true) (hl:args.length=fn.nargs)
  (hb:rec fn.body ⟨args.map .pv++List.replicate (fn.ntmps - args.length) .any,[],[],none⟩=some (.thr t m,st)):ThrOk P f args t m:=by
 intro T0 w vs h0 hf hlen hr hG
 obtain ⟨_,g,c,k1,k2,k3,k4,k5,k6⟩:=fnOk_eq hfn
 refine (callsIn_wide (n:=0)).1 (callsIn_of_wp_marks k1 k2 trivial ?_)
 rw [k4]
 have hsim:Sim 0 (fun _=>0) T0 ⟨args.map .pv++List.replicate (fn.ntmps - args.length) .any,[],[],none⟩ { tmps:=vs.toArray++Array.replicate (fn.ntmps - vs.toArray.size) undef,defers:=[] } w:=init_sim hf hlen hr [] none
 have hC:Ctx.Ok ⟨st.ys,none,plainJ T0 w⟩ P 0:=⟨fun k T T' w1 w2 hc h=>plainJ_keep (k:=k) h0 hc h,fun k T w1 h=>hG.frame fun b e hb=>⟨(h.2 b hb).trans e,h.1.block b hb⟩,fun s k T w ps vs hs=>by cases hs⟩
 have hJ:plainJ T0 w 0 T0 w:=⟨Below.refl _ _,fun _ _=>rfl⟩
 refine wpIn_mono (hR.wp (F:=Fence.wide) (L:=0) (C:=⟨st.ys,none,plainJ T0 w⟩) (n:=0) (.inl rfl) (Ctx.rec_wide _) hC c fn.body _ _ st k3 hb rfl (List.prefix_refl _) _ T0 _ w hsim hJ) ?_
 rintro x a' w' ⟨rfl,σ',T',ms,q1,q2,q3,q4,q5,q6⟩
 obtain ⟨p1,p2⟩:=q2
 simp only [toX,bodyPostM]
 rw [q5]
 refine leavesM_marks2 (B:=w.heap.size) (by simp) q6.2 (fun r hr=>⟨(q6.1 r hr).1,(q6.1 r hr).2.2⟩) fun w2 e1 e2 e3 e4 e5=>?_
 have hms:∀ b,b<w.heap.size→b ∉ ms:=fun b hb hm=>by have:=(q6.1 b hm).1;omega
 exact ⟨rfl,p1.trans ⟨e1,e2,e3,by omega,fun b hb=>e5 b (hms b hb)⟩⟩
theorem mapM_box {caps:List AV} {os:List Nat} (h:caps.mapM boxOf=some os):caps=os.map (.pbox · 0):=by
 obtain ⟨l1,l2⟩:=mapM_some h
 refine List.ext_getElem? fun i=>?_
 rw [List.getElem?_map]
 cases hc:caps[i]? with
 |none =>
  have:=List.getElem?_eq_none_iff.1 hc
  rw [List.getElem?_eq_none (by omega)]
  rfl
 |some c =>
  obtain ⟨q,g1,g2⟩:=l2 i c hc
  rw [g2]
  unfold boxOf at g1
  split at g1
  ·cases g1;rfl
  ·cases g1
set_option maxHeartbeats 1000000 in
theorem code_dfn (hR:RecOk P rec) {f:Nat} {fn:DFn} {args:List PV} {rs:List Res} (hfn:dfnOk P f fn=true) (hresc:RescOk P fn.resc fn.t) (hclos:∀ d g zs,fn.clos=some (d,g,zs)→ClosOk P g (zs.map (·.2))) (hl:args.length=fn.nargs) {s0 s1 s4:St} {e:Ex}
  (hp:rec fn.pre ⟨args.map .pv++List.replicate (fn.ntmps - args.length) .any,[],[],none⟩=some (.normal,s0)) (hm:fn.begun s0=some s1) (hb:rec fn.body s1=some (e,s4)) (he:dfnEnd fn s1 e s4=some rs):CallOk P f args rs:=by
 intro T0 w vs h0 hf hlen hr hG
 obtain ⟨_,g,c,k1,k2,k3,k4,k5,k6⟩:=dfnOk_eq hfn
 refine (callsIn_wide (n:=0)).1 (callsIn_of_wp_marks k1 k2 trivial ?_)
 rw [k4]
 have hsim:Sim 0 (fun _=>0) T0 ⟨args.map .pv++List.replicate (fn.ntmps - args.length) .any,[],[],none⟩ { tmps:=vs.toArray++Array.replicate (fn.ntmps - vs.toArray.size) undef,defers:=[] } w:=init_sim hf hlen hr [] none
 have hC:Ctx.Ok ⟨s4.ys,none,plainJ T0 w⟩ P 0:=⟨fun k T T' w1 w2 hc h=>plainJ_keep (k:=k) h0 hc h,fun k T w1 h=>hG.frame fun b e hb=>⟨(h.2 b hb).trans e,h.1.block b hb⟩,fun s k T w ps vs hs=>by cases hs⟩
 have hJ:plainJ T0 w 0 T0 w:=⟨Below.refl _ _,fun _ _=>rfl⟩
 -- the deferred calls
 unfold dfnEnd at he
 obtain ⟨oe,ho,he⟩:=bind_some he
 obtain ⟨s5,h5,he⟩:=bind_some he
 obtain ⟨s6,h6,hrs⟩:=bind_some he
 -- the body,its surroundings laid
 have body:∀ (rest:Code) (σ2:Nat→Nat) (T2:Tags) (a2:Act) (w2:World) (ms1:List Nat) (dl:List Deferred),mC P rest fn.body=true→Sim 0 σ2 T2 s1 a2 w2→plainJ T0 w 0 T2 w2→Stays T0 T2 w w2→s1.stop=none→s1.ys <+: s4.ys→Marks T2 w w2 ms1 →
   a2.defers={ target:=.fn (.func fn.resc) #[],args:=#[.pointer (some ⟨σ2 oe,0,none⟩)] } :: (dl++ms1.map markOf) →
   ((fn.clos=none∧dl=[])∨∃ d gf zs os,fn.clos=some (d,gf,zs)∧heldOf s1 d gf=some os∧(∀ o∈os,o<s1.boxes.length)∧dl=[{ target:=.fn (.func gf) (ptrs (os.map σ2)),args:=#[] }])→oe<s1.boxes.length →
   rest.wpIn Fence.wide 0 P (bodyPostM Fence.wide 0 P g (fun e w'=>∃ v T',e=.returned v∧Below w.heap.size w w'∧(∀ b,b<w.heap.size→T' b=T0 b)∧(∀ b,w'.heap.size≤b→T' b=.other)∧ResRep T' w' rs v)) a2 w2:=by
  intro rest σ2 T2 a2 w2 ms1 dl hmc hs2 hJ2 hst2 hstop hys hms1 hdef hdl hoe
  refine wpIn_mono (hR.wp (F:=Fence.wide) (L:=0) (C:=⟨s4.ys,none,plainJ T0 w⟩) (n:=0) (.inl rfl) (Ctx.rec_wide _) hC rest fn.body _ e s4 hmc hb hstop (List.prefix_refl _) σ2 T2 a2 w2 hs2 hJ2) ?_
  rintro x a4 w4 ⟨rfl,σ4,T4,ms4,q1,q2,q3,q4,q5,q6⟩
  obtain ⟨p1,p2⟩:=q2
  have hms4:∀ b,b<w2.heap.size→b ∉ ms4:=fun b hb hm=>by have:=(q6.1 b hm).1;omega
  have hsz2:w.heap.size≤w2.heap.size:=hst2.size
  have hm1:∀ r∈ms1,r<w2.heap.size:=fun r hr=>(Array.getElem?_eq_some_iff.1 (hms1.1 r hr).2.2).1
  -- behind all that is deferred
  have last:∀ (T6:Tags) (w6:World),Sim 0 σ4 T6 s6 a4 w6→Below w.heap.size w w6→(∀ b,b<w.heap.size→T6 b=T0 b)→(∀ r∈ms1,w6.heap[r]?=some (.deferred (some []))) →
    LeavesInM Fence.wide 0 P g a4.tmps (fun e w'=>∃ v T',e=.returned v∧Below w.heap.size w w'∧(∀ b,b<w.heap.size→T' b=T0 b)∧(∀ b,w'.heap.size≤b→T' b=.other)∧ResRep T' w' rs v) (ms1.map markOf) .returning w6:=by
   intro T6 w6 g1 g2 g3 g4
   refine leavesM_marks (B:=w.heap.size) hms1.2 (fun r hr=>⟨(hms1.1 r hr).1,g4 r hr⟩) fun w7 e1 e2 e3 e4 e5=>?_
   have q1':=g1.drop (fun r hr ⟨arr,E,q,e⟩=>by rw [g4 r hr] at e;cases e) e5 e4
   obtain ⟨us,T8,r1,r2,r3,r4,r5⟩:=results_ok q1' k6 hrs
   have hms:∀ b,b<w.heap.size→b ∉ ms1:=fun b hb hm=>by have:=(hms1.1 b hm).1;omega
   have hT2:∀ b,b<w.heap.size→T8 b=T0 b:=fun b hb=>by
    have e:drop T6 ms1 b=T0 b:=by simp only [drop,if_neg (hms b hb)];exact g3 b hb
    rcases h0 b with e0|e0
    ·rw [e0];exact r3.ro b (by rw [e,e0])
    ·rw [e0];exact r3.other b (by rw [e,e0])
   refine ⟨_,results_run r1,_,outT T8 s6.slots.length,rfl,g2.trans ⟨e1,e2,e3,by omega,fun b hb=>e5 b (hms b hb)⟩,fun b hb=>?_,fun b hb=>?_,us.toArray,by simpa using r2,rfl,fun i x u hx hu=>RK.out (r5 i x u hx (by simpa using hu))⟩
   ·simp only [outT,hT2 b hb]
    rcases h0 b with e0|e0<;>rw [e0]
   ·simp only [outT,r4 b hb]
  -- a block of the call's own is none of what was there
  have own:∀ {T6:Tags} {p b:Nat},(∀ b,b<w.heap.size→T6 b=T0 b)→T6 b=.box p→w.heap.size≤b:=fun {T6 p b} g3 e=>by
   rcases Nat.lt_or_ge b w.heap.size with h|h
   ·have:=g3 b h
    rw [e] at this
    rcases h0 b with e0|e0<;>rw [e0] at this<;>cases this
   ·exact h
  have step:∀ {T6:Tags} {w6 w7:World},Chg T6 T6 w6 w7→Below w.heap.size w w6→(∀ b,b<w.heap.size→T6 b=T0 b)→(∀ r∈ms1,T6 r=.ro∧w6.heap[r]?=some (.deferred (some [])))→Below w.heap.size w w7∧∀ r∈ms1,T6 r=.ro∧w7.heap[r]?=some (.deferred (some [])):=fun {T6 w6 w7} hc hB hT hm=>by
   have hsz:w.heap.size≤w6.heap.size:=hB.size
   refine ⟨hB.trans ⟨hc.os,hc.tape,hc.output,hc.size,fun b hb=>hc.same b (Nat.lt_of_lt_of_le hb hsz) ?_⟩,fun r hr=>?_⟩
   ·rw [hT b hb];exact h0 b
   ·obtain ⟨m1,m2⟩:=hm r hr
    exact ⟨m1,(hc.same r (Array.getElem?_eq_some_iff.1 m2).1 (.inl m1)).trans m2⟩
  -- the closure
  have clos:∀ (T5:Tags) (w5:World),Sim 0 σ4 T5 s5 a4 w5→Below w.heap.size w w5→(∀ b,b<w.heap.size→T5 b=T0 b)→(∀ r∈ms1,T5 r=.ro∧w5.heap[r]?=some (.deferred (some []))) →
    LeavesInM Fence.wide 0 P g a4.tmps (fun e w'=>∃ v T',e=.returned v∧Below w.heap.size w w'∧(∀ b,b<w.heap.size→T' b=T0 b)∧(∀ b,w'.heap.size≤b→T' b=.other)∧ResRep T' w' rs v) (dl++ms1.map markOf) .returning w5:=by
   intro T5 w5 g1 g2 g3 g4
   unfold dfnClos at h6
   rcases hdl with ⟨hn,rfl⟩|⟨d,gf,zs,os,hc,hos,hlt,rfl⟩
   ·rw [hn] at h6
    cases Option.some.inj h6
    exact last T5 w5 g1 g2 g3 fun r hr=>(g4 r hr).2
   ·rw [hc] at h6
    simp only [hos,Option.bind_some] at h6
    split at h6
    case isFalse=>cases h6
    rename_i hcond
    obtain ⟨c1,c2,c3⟩:=hcond
    obtain ⟨m,hm',h6⟩:=bind_some h6
    obtain ⟨os',rfl⟩:∃ os',os=oe :: os':=by
     cases os with
     |nil=>cases c1
     |cons x l=>cases c1;exact ⟨l,rfl⟩
    obtain ⟨d1,d2,d3⟩:=hclos d gf zs hc
    obtain ⟨⟨E,v1⟩,v2⟩:=g1.varInt hm'
    have hσ:∀ o∈oe :: os',σ4 o=σ2 o:=fun o ho=>q3 o (hlt o ho)
    have hmap:(oe :: os').map σ2=(oe :: os').map σ4:=List.map_congr_left fun o ho=>(hσ o ho).symm
    have hlen':(os'.map σ4).length=(zs.map (·.2)).length:=by simp at c3 ⊢;exact c3
    rw [hmap]
    show LeavesInM Fence.wide 0 P g a4.tmps _ ({ target:=.fn (.func gf) (ptrs (σ4 oe :: os'.map σ4)),args:=#[] } :: ms1.map markOf) .returning w5
    split at h6
    ·rename_i hm0
     subst hm0
     cases Option.some.inj h6
     refine leavesM_call (by simp) d1 (w':=w5) ?_ (last T5 w5 g1 g2 g3 fun r hr=>(g4 r hr).2)
     rw [Array.empty_append]
     exact d2 _ _ E w5 hlen' v1
    ·rename_i hm0
     simp only [List.tail_cons] at h6
     obtain ⟨_,b2⟩:=setVars_boxes h6
     obtain ⟨x1,x2⟩:=g1.setVars h6
     have hbox:∀ o∈oe :: os',T5 (σ4 o)=.box o:=fun o ho=>by
      rcases List.mem_cons.1 ho with rfl|ho
      ·exact v2
      ·obtain ⟨i,hi⟩:=List.mem_iff_getElem?.1 ho
       have hi2:i<(zs.map (·.2)).length:=by rw [← hlen',List.length_map];exact (List.getElem?_eq_some_iff.1 hi).1
       obtain ⟨bx,y1,y2,y3⟩:=b2 i o _ hi (List.getElem?_eq_getElem hi2)
       obtain ⟨_,_,_,_,y4,_⟩:=g1.boxes o bx y1
       rw [y4,y2];rfl
     refine leavesM_call (by simp) d1 (w':=zeroAll (os'.map σ4) (zs.map (·.2)) w5) ?_ ?_
     ·rw [Array.empty_append]
      refine d3 _ _ m E w5 hm0 hlen' v1 (fun i b z hi hz=>?_) ?_
      ·rw [List.getElem?_map] at hi
       cases ho:os'[i]? with
       |none=>rw [ho] at hi;cases hi
       |some o =>
        rw [ho] at hi
        cases hi
        obtain ⟨bx,y1,y2,y3⟩:=b2 i o z ho hz
        obtain ⟨arr,E',z1,z2,_⟩:=g1.boxes o bx y1
        exact ⟨arr,E',z1,by omega⟩
      ·show ((oe :: os').map σ4).Nodup
       refine List.pairwise_map.2 (List.Pairwise.imp_of_mem (fun {x y} hx hy hxy hs=>hxy ?_) c2)
       have:=hbox x hx
       rw [hs,hbox y hy] at this
       cases this
       rfl
     ·obtain ⟨y1,y2⟩:=step x2 g2 g3 g4
      exact last T5 _ x1 y1 g3 fun r hr=>(y2 r hr).2
  -- the marks of the body,then what puts the failure into the variable
  have resc:∀ (u:FrameMode),u≠.run→(∀ (w5:World),Sim 0 σ4 (drop T4 ms4) s4 a4 w5→Below w.heap.size w w5→(∀ r∈ms1,drop T4 ms4 r=.ro∧w5.heap[r]?=some (.deferred (some [])))→(∀ b,b<w.heap.size→drop T4 ms4 b=T0 b) →
    LeavesInM Fence.wide 0 P g a4.tmps (fun e w'=>∃ v T',e=.returned v∧Below w.heap.size w w'∧(∀ b,b<w.heap.size→T' b=T0 b)∧(∀ b,w'.heap.size≤b→T' b=.other)∧ResRep T' w' rs v) ({ target:=.fn (.func fn.resc) #[],args:=#[.pointer (some ⟨σ4 oe,0,none⟩)] } :: (dl++ms1.map markOf)) u w5) →
    LeavesInM Fence.wide 0 P g a4.tmps (fun e w'=>∃ v T',e=.returned v∧Below w.heap.size w w'∧(∀ b,b<w.heap.size→T' b=T0 b)∧(∀ b,w'.heap.size≤b→T' b=.other)∧ResRep T' w' rs v) a4.defers u w4:=by
   intro u hu hk
   rw [q5,hdef,← q3 oe hoe]
   refine leavesM_marks2 (B:=w2.heap.size) hu q6.2 (fun r hr=>⟨(q6.1 r hr).1,(q6.1 r hr).2.2⟩) fun w5 e1 e2 e3 e4 e5=>?_
   have g1:=q1.drop (fun r hr ⟨arr,E,q,e⟩=>by rw [(q6.1 r hr).2.2] at e;cases e) e5 e4
   refine hk w5 g1 (p1.trans ⟨e1,e2,e3,by omega,fun b hb=>e5 b (hms4 b (by omega))⟩) (fun r hr=>?_) fun b hb=>?_
   ·have hn:=hms4 r (hm1 r hr)
    obtain ⟨_,m2,m3⟩:=hms1.1 r hr
    refine ⟨by simp only [drop,if_neg hn];exact q4.ro r m2,?_⟩
    rw [e5 r hn,q4.same r (hm1 r hr) m2];exact m3
   ·simp only [drop,if_neg (hms4 b (by omega))];exact p2 b hb
  cases e with
  |exit i=>cases h5
  |normal =>
   cases Option.some.inj h5
   refine resc .returning (by simp) fun w5 g1 g2 g4 g3=>?_
   exact leavesM_call (by simp) hresc.1 (w':=w5) (hresc.2.2 _ w5) (clos _ w5 g1 g2 g3 g4)
  |ret =>
   cases Option.some.inj h5
   refine resc .returning (by simp) fun w5 g1 g2 g4 g3=>?_
   exact leavesM_call (by simp) hresc.1 (w':=w5) (hresc.2.2 _ w5) (clos _ w5 g1 g2 g3 g4)
  |thr t m =>
   simp only [dfnResc] at h5
   split at h5
   case isFalse=>cases h5
   rename_i ht
   subst ht
   obtain ⟨m0,hv,h5⟩:=bind_some h5
   refine resc (.panicking [{ v:=.iface fn.t (.int .i64 m),recovered:=false }]) (by simp) fun w5 g1 g2 g4 g3=>?_
   obtain ⟨⟨E,v1⟩,v2⟩:=g1.varInt hv
   obtain ⟨_,x1,x2,_⟩:=g1.setVar h5
   obtain ⟨y1,y2⟩:=step x2 g2 g3 g4
   exact leavesM_call (by simp) hresc.1 (hresc.2.1 _ m0 m E w5 v1) (clos _ _ x1 y1 g3 y2)
 -- the defer statements
 have heval:∀ (b:Act) (f:Nat),b.eval (.func f)=.func (.func f) #[] #[]:=fun _ _=>rfl
 have hptr:∀ {σ:Nat→Nat} {T:Tags} {st:St} {b:Act} {w:World} {s p:Nat},Sim 0 σ T st b w→varOf st s=some p→p<st.boxes.length∧b.eval (.tmp s)=.pointer (some ⟨σ p,0,none⟩):=by
  intro σ T st b w s p hs hv
  unfold varOf at hv
  split at hv
  case h_2=>cases hv
  rename_i o' ho'
  cases Option.some.inj hv
  have hlt:s<b.tmps.size:=by rw [hs.size];exact (List.getElem?_eq_some_iff.1 ho').1
  have:=hs.slots s _ _ ho' (Array.getElem?_eq_getElem hlt)
  refine ⟨this.1,?_⟩
  have e:b.eval (.tmp s)=b.tmps[s]:=by simp [Act.eval,hlt]
  rw [e]
  exact this.2
 -- the statement that defers what turns a failure into an error
 have rescStep:∀ {ops:List Oper} {opl:Array Oper} {Q:Exit→Act→World→Prop} {σ2:Nat→Nat} {T2:Tags} {a2:Act} {w2:World},isResc fn ops=true→Sim 0 σ2 T2 s1 a2 w2 →
   Q .normal { a2 with defers:={ target:=.fn (.func fn.resc) #[],args:=#[.pointer (some ⟨σ2 oe,0,none⟩)] } :: a2.defers } w2→wpListIn Fence.wide 0 P opl Q ops a2 w2:=by
  intro ops opl Q σ2 T2 a2 w2 hr hs hq
  unfold isResc at hr
  split at hr
  case h_2=>cases hr
  rename_i o
  simp only [Bool.and_eq_true] at hr
  obtain ⟨⟨hg,hd⟩,hr⟩:=hr
  split at hr
  case h_2=>cases hr
  rename_i f' s hop
  simp only [Bool.and_eq_true,beq_iff_eq] at hr
  obtain ⟨rfl,rfl⟩:=hr
  obtain ⟨c',ats,hop⟩:∃ c':Call,∃ _:Unit,o.op=.defer c'∧c'.callee=.value (.func fn.resc)∧c'.args=#[.tmp fn.e]:=by
   unfold deferOf at hop
   split at hop
   case h_2=>cases hop
   rename_i c' hc'
   split at hop
   case h_2=>cases hop
   rename_i y hy
   simp only [Option.some.injEq,Prod.mk.injEq] at hop
   obtain ⟨rfl,h2⟩:=hop
   exact ⟨c',(),hc',hy,by rw [← h2]⟩
  obtain ⟨o1,o2,o3⟩:=hop
  have hw:Region.wanted o (yielded opl a2.tmps)=true:=by simp only [Region.wanted,Option.isNone_iff_eq_none.1 hg]
  simp only [wpListIn,hw,↓reduceIte]
  refine ⟨fun f _=>trivial,?_⟩
  have hrun:(o.semAt Fence.wide.round a2.eval).run P w2=.ok (.defer { target:=.fn (.func fn.resc) #[],args:=#[.pointer (some ⟨σ2 oe,0,none⟩)] }) w2:=by
   show (execOp a2.eval o).run P w2=_
   simp [execOp,o1,resolve,o2,o3,heval,Deferred.ofValue,(hptr hs ho).2]
  rw [hrun,Oper.uponIn_defer]
  have hd':o.dst=none:=by simpa using hd
  rw [hd']
  exact hq
 have closStep:∀ {ops:List Oper} {opl:Array Oper} {Q:Exit→Act→World→Prop} {σ2:Nat→Nat} {T2:Tags} {a2:Act} {w2:World} {d gf:Nat} {zs:List (Nat × List PV)} {os:List Nat},fn.clos=some (d,gf,zs)→isClos P fn ops=true→Sim 0 σ2 T2 s0 a2 w2→heldOf s1 d gf=some os →
   (∀ T3 a3,Sim 0 σ2 T3 s1 a3 w2→Still T2 T3→(∀ o∈os,o<s1.boxes.length)→a3.defers={ target:=.fn (.func gf) (ptrs (os.map σ2)),args:=#[] } :: a2.defers→Q .normal a3 w2)→wpListIn Fence.wide 0 P opl Q ops a2 w2:=by
  intro ops opl Q σ2 T2 a2 w2 d gf zs os hc hr hs hos hq
  unfold isClos at hr
  split at hr
  case h_2=>cases hr
  rename_i oa ob
  rw [hc] at hr
  simp only [Bool.and_eq_true] at hr
  obtain ⟨⟨⟨⟨hg1,hm1⟩,hg2⟩,hd2⟩,hr⟩:=hr
  split at hr
  case h_2=>cases hr
  rename_i s hop
  simp only [beq_iff_eq] at hr
  subst hr
  unfold DFn.begun at hm
  rw [hc] at hm
  simp only at hm
  obtain ⟨v,T3,h1,h2,h3⟩:=plain_sound hs hm1 hm
  have hw1:∀ f,Region.wanted oa f=true:=fun f=>by simp only [Region.wanted,Option.isNone_iff_eq_none.1 hg1]
  have hw2:∀ f,Region.wanted ob f=true:=fun f=>by simp only [Region.wanted,Option.isNone_iff_eq_none.1 hg2]
  simp only [wpListIn,hw1,hw2,↓reduceIte]
  refine wpIn_value (.inl rfl) hm1 (h1 w2 (Sees.refl T2 w2)) (.inl rfl) ?_
  obtain ⟨c',o1,o2,o3⟩:∃ c':Call,ob.op=.defer c'∧c'.callee=.value (.tmp s)∧c'.args=#[]:=by
   unfold deferOf at hop
   split at hop
   case h_2=>cases hop
   rename_i c' hc'
   split at hop
   case h_2=>cases hop
   rename_i y hy
   simp only [Option.some.injEq,Prod.mk.injEq] at hop
   obtain ⟨rfl,h2⟩:=hop
   exact ⟨c',hc',hy,by simpa using h2⟩
  -- what the closure holds
  unfold heldOf at hos
  split at hos
  case h_2=>cases hos
  rename_i g' caps hsl
  split at hos
  case isFalse=>cases hos
  rename_i hgg
  subst hgg
  have hcaps:=mapM_box hos
  subst hcaps
  have hlt:s<(a2.put oa.dst v).tmps.size:=by rw [h2.size];exact (List.getElem?_eq_some_iff.1 hsl).1
  obtain ⟨arr,e1,e2,e3⟩:=h2.slots s _ _ hsl (Array.getElem?_eq_getElem hlt)
  have hcr:∀ (k:Nat) o,os[k]?=some o→o<s1.boxes.length∧arr[k]?=some (.pointer (some ⟨σ2 o,0,none⟩)):=fun k o hk=>by
   have hk':k<arr.size:=by rw [e2,List.length_map];exact (List.getElem?_eq_some_iff.1 hk).1
   have:=e3 k (.pbox o 0) _ (by rw [List.getElem?_map,hk];rfl) (Array.getElem?_eq_getElem hk')
   exact ⟨this.1,by rw [Array.getElem?_eq_getElem hk',this.2]⟩
  have harr:arr=ptrs (os.map σ2):=by
   refine Array.ext_getElem? fun k=>?_
   unfold ptrs
   refine Eq.trans ?_ List.getElem?_toArray.symm
   rw [List.map_map,List.getElem?_map]
   cases hk:os[k]? with
   |some o=>rw [(hcr k o hk).2];rfl
   |none =>
    have:=List.getElem?_eq_none_iff.1 hk
    rw [List.length_map] at e2
    rw [Array.getElem?_eq_none (by omega)]
    rfl
  have hev:(a2.put oa.dst v).eval (.tmp s)=.func (.func g') #[] arr:=by
   have e:(a2.put oa.dst v).eval (.tmp s)=(a2.put oa.dst v).tmps[s]:=by simp [Act.eval,hlt]
   rw [e,e1]
  refine ⟨fun f _=>trivial,?_⟩
  have hrun:(ob.semAt Fence.wide.round (a2.put oa.dst v).eval).run P w2=.ok (.defer { target:=.fn (.func g') arr,args:=#[] }) w2:=by
   show (execOp (a2.put oa.dst v).eval ob).run P w2=_
   simp [execOp,o1,resolve,o2,o3,hev,Deferred.ofValue]
  rw [hrun,Oper.uponIn_defer]
  have hd':ob.dst=none:=by simpa using hd2
  rw [hd']
  refine hq T3 _ (h2.withDefers _) h3 (fun o ho=>?_) (by rw [← harr,← put_defers (a:=a2) (d:=oa.dst) (v:=v)];rfl)
  obtain ⟨k,hk⟩:=List.mem_iff_getElem?.1 ho
  exact (hcr k o hk).1
 -- the whole
 unfold mD at k3
 split at k3
 case h_2=>cases k3
 rename_i r0 id1 o1 c1
 simp only [Bool.and_eq_true] at k3
 obtain ⟨m0,k3⟩:=k3
 have gpre:=hR.grow _ _ _ _ _ m0 hp
 cases hc:fn.clos with
 |none =>
  rw [hc] at k3
  simp only [Bool.and_eq_true] at k3
  obtain ⟨m1,m2⟩:=k3
  have e1:s1=s0:=by unfold DFn.begun at hm;rw [hc] at hm;exact (Option.some.inj hm).symm
  subst e1
  have gb:=hR.grow _ _ _ _ _ m2 hb
  refine wpIn_seq ?_
  refine wpIn_mono (hR.wp (F:=Fence.wide) (L:=0) (C:=⟨s4.ys,none,plainJ T0 w⟩) (n:=0) (.inl rfl) (Ctx.rec_wide _) hC r0 fn.pre _ _ s1 m0 hp rfl gb.2.1 _ T0 _ w hsim hJ) ?_
  rintro x a1 w1 ⟨rfl,σ1,T1,ms1,q1,q2,q3,q4,q5,q6⟩
  refine wpIn_seq (wpIn_region_list (rescStep m1 q1 ?_))
  have hoe:=(hptr q1 ho).1
  exact body c1 σ1 T1 _ w1 ms1 [] m2 (q1.withDefers _) q2 q4 gpre.2.2 gb.2.1 q6 (by simp only [q5,List.append_nil,List.nil_append]) (.inl ⟨hc,rfl⟩) hoe
 |some cl =>
  obtain ⟨d,gf,zs⟩:=cl
  rw [hc] at k3
  simp only at k3
  split at k3
  case h_2=>cases k3
  rename_i id2 o2 rest
  simp only [Bool.and_eq_true] at k3
  obtain ⟨⟨m1,m1'⟩,m2⟩:=k3
  have hmo:s1.ys=s0.ys∧s1.stop=s0.stop:=by
   have hm:=hm
   unfold DFn.begun at hm
   rw [hc] at hm
   have:=plain_mono hm
   exact ⟨this.2.1,this.2.2⟩
  have gb:=hR.grow _ _ _ _ _ m2 hb
  obtain ⟨os,hos⟩:∃ os,heldOf s1 d gf=some os:=by
   have h6:=h6
   unfold dfnClos at h6
   rw [hc] at h6
   obtain ⟨os,h,_⟩:=bind_some h6
   exact ⟨os,h⟩
  refine wpIn_seq ?_
  refine wpIn_mono (hR.wp (F:=Fence.wide) (L:=0) (C:=⟨s4.ys,none,plainJ T0 w⟩) (n:=0) (.inl rfl) (Ctx.rec_wide _) hC r0 fn.pre _ _ s0 m0 hp rfl (by rw [← hmo.1];exact gb.2.1) _ T0 _ w hsim hJ) ?_
  rintro x a1 w1 ⟨rfl,σ1,T1,ms1,q1,q2,q3,q4,q5,q6⟩
  refine wpIn_seq (wpIn_region_list (closStep hc m1 q1 hos ?_))
  intro T3 a3 g1 g2 g3 g4
  refine wpIn_seq (wpIn_region_list (rescStep m1' g1 ?_))
  have hoe:=(hptr g1 ho).1
  refine body rest σ1 T3 _ w1 ms1 [{ target:=.fn (.func gf) (ptrs (os.map σ1)),args:=#[] }] m2 (g1.withDefers _) (plainJ_keep (k:=0) h0 (g2.chg w1) q2) (q4.trans (g2.chg w1).stays) (hmo.2.trans gpre.2.2) gb.2.1 ⟨fun r hr=>?_,q6.2⟩ ?_ (.inr ⟨d,gf,zs,os,hc,hos,g3,rfl⟩) hoe
  ·obtain ⟨x1,x2,x3⟩:=q6.1 r hr
   exact ⟨x1,g2.ro r x2,x3⟩
  ·simp only [g4,q5,List.append_nil,List.cons_append,List.nil_append]
end
end Go.Proofs.YtioijcfcehhmdaaGreatDoor

namespace Go.Proofs.YtioijcfcehhmdaaGreatDoor
open Go.RowKit
def EnvOk (P:Program) (env:Env):Prop:=∀ f d,env f=some d→match d with
 |.code fn=>fnOk P f fn=true
 |.ext g=>∀ args rs,g args=some rs→callable P f=true∧CallOk P f args rs
 |.srt h=>callable P f=true∧SortOk P f h
 |.thr h=>(∀ args,h args=some none→callable P f=true∧CallOk P f args [])∧∀ args t n,h args=some (some (t,n))→callable P f=true∧ThrOk P f args t n
 |.dfn fn=>dfnOk P f fn=true∧RescOk P fn.resc fn.t∧∀ d g zs,fn.clos=some (d,g,zs)→ClosOk P g (zs.map (·.2))
section
variable {P:Program} {L K:Nat} {σ σ':Nat→Nat} {T T' T1 T2:Tags} {st st' st1:St} {a a1:Act} {w w1:World} {r:Root}
 {rec:VCode→St→Option (Ex × St)} {env:Env}
theorem calls_ok (hR:RecOk P rec) (hE:EnvOk P env):CallsOk P rec env:=by
 refine ⟨?_,(fun f h e=>hE f _ e),?_,?_⟩
 rotate_left
 ·intro f x args rs out h
  unfold callLin at h
  split at h
  ·rename_i fn hfn
   have hok:fnOk P f fn=true:=hE f _ hfn
   split at h
   case isFalse=>cases h
   replace h:=bind_some h
   obtain ⟨⟨e,st⟩,h1,h⟩:=h
   simp only at h
   refine ⟨(fnOk_eq hok).1,?_⟩
   split at h
   ·cases h
   ·cases h
   ·rename_i hne hne2
    exact code_callL hR hok (fun i e=>hne i e) (fun t n e=>hne2 t n e) h1 h
  ·cases h
 ·intro f args t n h
  unfold calT at h
  split at h
  ·rename_i g hg
   exact (hE f _ hg).2 args t n h
  ·rename_i fn hfn
   have hok:fnOk P f fn=true:=hE f _ hfn
   split at h
   case isFalse=>cases h
   rename_i hl
   obtain ⟨⟨e,st⟩,h1,h⟩:=bind_some h
   refine ⟨(fnOk_eq hok).1,?_⟩
   cases e with
   |thr t' n' =>
    simp only [Option.some.injEq,Prod.mk.injEq] at h
    obtain ⟨rfl,rfl⟩:=h
    exact code_thr hR hok hl.1 h1
   |_=>cases h
  ·cases h
 intro f args rs h
 unfold callRes at h
 split at h
 ·rename_i g hg
  exact hE f _ hg args rs h
 ·rename_i fn hfn
  have hok:fnOk P f fn=true:=hE f _ hfn
  split at h
  case isFalse=>cases h
  rename_i hl
  replace h:=bind_some h
  obtain ⟨⟨e,st⟩,h1,h⟩:=h
  simp only at h
  refine ⟨(fnOk_eq hok).1,?_⟩
  split at h
  ·cases h
  ·cases h
  ·rename_i hne hne2
   exact code_call hR hok hl (fun i e=>hne i e) (fun t n e=>hne2 t n e) h1 h
 ·cases h
 ·rename_i g hg
  obtain ⟨r,h1,h⟩:=bind_some h
  cases r with
  |some p=>cases h
  |none=>cases Option.some.inj h;exact (hE f _ hg).1 args h1
 ·rename_i fn hfn
  obtain ⟨q1,q2,q3⟩:dfnOk P f fn=true∧RescOk P fn.resc fn.t∧∀ d g zs,fn.clos=some (d,g,zs)→ClosOk P g (zs.map (·.2)):=hE f _ hfn
  refine ⟨(dfnOk_eq q1).1,?_⟩
  split at h
  case isFalse=>cases h
  rename_i hl
  obtain ⟨⟨e0,s0⟩,h1,h⟩:=bind_some h
  simp only at h
  split at h
  case isFalse=>cases h
  rename_i he0
  subst he0
  obtain ⟨s1,h2,h⟩:=bind_some h
  obtain ⟨⟨e,s4⟩,h3,h⟩:=bind_some h
  exact code_dfn hR q1 q2 q3 hl h1 h2 h3 h
 ·cases h
theorem iters_ok (hE:EnvOk P env):ItersOk P env:=fun f fn hfn=>by
 have hok:fnOk P f fn=true:=hE f _ hfn
 obtain ⟨k0,g,c,k1,k2,k3,k4,k5,k6⟩:=fnOk_eq hok
 refine ⟨k0,g,c,k1,k2,k3,k4,k5,fun he=>?_⟩
 have:fn.results=[]:=by simpa using he
 rw [this] at k6
 have:g.results.toList=[]:=by
  match h:g.results.toList,k6 with
  |[],_=>rfl
  |_ :: _,k6=>simp [mResL] at k6
 exact Array.toList_eq_nil_iff.1 this
theorem vm_ok (hE:EnvOk P env):∀ n,RecOk P (vm env n)
 |0=>⟨(fun _ _ _ _ _ _ h=>by simp [vm] at h),(fun _ _ _ _ _ _ _ _ h=>by simp [vm] at h),(fun _ _ _ _ _ _ _ _ _ h=>by simp [vm] at h),(fun _ _ _ _ _ _ _ _ _ _ _ h=>by simp [vm] at h)⟩
 |n+1=>step_ok (vm_ok hE n) (iters_ok hE) (calls_ok (vm_ok hE n) hE)
theorem vmCall_ok (hE:EnvOk P env) {n f:Nat} {args:List PV} {rs:List Res} (h:vmCall env n f args=some rs):callable P f=true∧CallOk P f args rs:=(calls_ok (vm_ok hE n) hE).1 f args rs h
end
end Go.Proofs.YtioijcfcehhmdaaGreatDoor

namespace Go.Proofs.YtioijcfcehhmdaaGreatDoor
abbrev Rec:=VCode→St→Option (Ex × St)
def RLe (f g:Rec):Prop:=∀ c st r,f c st=some r→g c st=some r
open Classical in
noncomputable def den (env:Env) (c:VCode) (st:St):Option (Ex × St) :=
 if h:∃ n r,vm env n c st=some r then some (Classical.choose (Classical.choose_spec h)) else none
structure Good {α:Type} (env:Env) (F:Rec→Option α):Prop where
 mono:∀ f g,RLe f g→∀ r,F f=some r→F g=some r
 cont:(∀ m n,m≤n→RLe (vm env m) (vm env n))→∀ r,F (den env)=some r→∃ n,F (vm env n)=some r
section
variable {α β:Type} {env:Env}
theorem Good.const (x:Option α):Good env (fun _=>x):=⟨fun _ _ _ _ h=>h,fun _ _ h=>⟨0,h⟩⟩
theorem Good.app (c:VCode) (st:St):Good env (fun rec=>rec c st):=⟨fun _ _ h r=>h c st r,fun _ r h=>by
 unfold den at h
 split at h
 case isFalse=>cases h
 rename_i hx
 cases h
 exact ⟨_,Classical.choose_spec (Classical.choose_spec hx)⟩⟩
theorem Good.bind {F:Rec→Option α} {G:α→Rec→Option β} (hF:Good env F) (hG:∀ a,Good env (G a)):Good env (fun rec=>(F rec).bind fun a=>G a rec):=⟨fun f g h r e=>by
 obtain ⟨a,h1,h2⟩:=Option.bind_eq_some_iff.1 e
 exact Option.bind_eq_some_iff.2 ⟨a,hF.mono f g h a h1,(hG a).mono f g h r h2⟩,fun hm r e=>by
 obtain ⟨a,h1,h2⟩:=Option.bind_eq_some_iff.1 e
 obtain ⟨m,h3⟩:=hF.cont hm a h1
 obtain ⟨n,h4⟩:=(hG a).cont hm r h2
 exact ⟨max m n,Option.bind_eq_some_iff.2 ⟨a,hF.mono _ _ (hm m _ (Nat.le_max_left m n)) a h3,(hG a).mono _ _ (hm n _ (Nat.le_max_right m n)) r h4⟩⟩⟩
theorem Good.map {F:Rec→Option α} {g:α→β} (hF:Good env F):Good env (fun rec=>(F rec).map g):=by
 have:=hF.bind (G:=fun a _=>some (g a)) fun a=>Good.const _
 refine ⟨fun f g' h r e=>?_,fun hm r e=>?_⟩
 ·have:=this.mono f g' h r (by simpa [Option.map_eq_bind,Function.comp_def] using e)
  simpa [Option.map_eq_bind,Function.comp_def] using this
 ·obtain ⟨n,hn⟩:=this.cont hm r (by simpa [Option.map_eq_bind,Function.comp_def] using e)
  exact ⟨n,by simpa [Option.map_eq_bind,Function.comp_def] using hn⟩
theorem Good.callRes (f:Nat) (args:List PV):Good env (fun rec=>callRes rec env f args):=by
 unfold Go.Proofs.YtioijcfcehhmdaaGreatDoor.callRes
 split
 ·exact Good.const _
 ·split
  ·refine (Good.app _ _).bind fun a=>?_
   obtain ⟨e,st⟩:=a
   cases e<;>exact Good.const _
  ·exact Good.const _
 ·exact Good.const _
 ·exact Good.const _
 ·split
  ·refine (Good.app _ _).bind fun a=>?_
   split
   ·exact (Good.const _).bind fun st0=>(Good.app _ _).bind fun r=>Good.const _
   ·exact Good.const _
  ·exact Good.const _
 ·exact Good.const _
theorem Good.calT (f:Nat) (args:List PV):Good env (fun rec=>calT rec env f args):=by
 unfold Go.Proofs.YtioijcfcehhmdaaGreatDoor.calT
 split
 ·exact Good.const _
 ·split
  ·exact (Good.app _ _).bind fun a=>Good.const _
  ·exact Good.const _
 ·exact Good.const _
theorem Good.iterRes (f:Nat) (args:List PV) (s:Option Nat):Good env (fun rec=>iterRes rec env f args s):=by
 unfold Go.Proofs.YtioijcfcehhmdaaGreatDoor.iterRes
 split
 ·split
  ·refine (Good.app _ _).bind fun a=>?_
   obtain ⟨e,st⟩:=a
   cases e<;>exact Good.const _
  ·exact Good.const _
 ·exact Good.const _
theorem Good.callOn (d f:Nat) (args:List Opd) (caps:List AV) (st:St):Good env (fun rec=>callOn rec env d f args caps st):=by
 unfold Go.Proofs.YtioijcfcehhmdaaGreatDoor.callOn
 exact (Good.const _).bind fun l=>(Good.const _).bind fun k=>(Good.callRes f _).bind fun rs=>Good.const _
theorem Good.callLin (f:Nat) (x:LArg) (args:List PV):Good env (fun rec=>callLin rec env f x args):=by
 unfold Go.Proofs.YtioijcfcehhmdaaGreatDoor.callLin
 split
 ·split
  ·refine (Good.app _ _).bind fun a=>?_
   obtain ⟨e,st⟩:=a
   cases e<;>exact Good.const _
  ·exact Good.const _
 ·exact Good.const _
theorem Good.callOnL (d f:Nat) (x:Opd) (args:List Opd) (caps:List AV) (st:St):Good env (fun rec=>callOnL rec env d f x args caps st):=by
 unfold Go.Proofs.YtioijcfcehhmdaaGreatDoor.callOnL
 exact (Good.const _).bind fun l=>(Good.const _).bind fun k=>(Good.const _).bind fun q=>(Good.callLin f _ _).bind fun r=>Good.const _
theorem Good.act (o:VOp) (st:St):Good env (fun rec=>act rec env o st):=by
 cases o
 case call d f args=>exact Good.callOn d f args [] st
 case callv d x args =>
  unfold Go.Proofs.YtioijcfcehhmdaaGreatDoor.act
  simp only
  split
  ·exact Good.callOn _ _ _ _ _
  ·exact Good.callOn _ _ _ _ _
  ·exact Good.const _
 case lin d f x args=>exact Good.callOnL d f x args [] st
 case linv d g x args =>
  unfold Go.Proofs.YtioijcfcehhmdaaGreatDoor.act
  simp only
  split
  ·exact Good.callOnL _ _ _ _ _ _
  ·exact Good.callOnL _ _ _ _ _ _
  ·exact Good.const _
 all_goals exact Good.const _
theorem Good.op1 (o:VOp) (st:St):Good env (fun rec=>op1 rec env o st):=by
 unfold Go.Proofs.YtioijcfcehhmdaaGreatDoor.op1
 split
 ·exact Good.act o st
 ·exact Good.const _
theorem Good.op (o:VOp) (st:St):Good env (fun rec=>op rec env o st):=by
 unfold Go.Proofs.YtioijcfcehhmdaaGreatDoor.op
 split
 ·split
  ·split
   ·exact Good.op1 _ _
   ·exact Good.const _
  ·exact Good.const _
  ·exact Good.const _
 ·exact Good.op1 _ _
theorem Good.ops:∀ (l:List VOp) (st:St),Good env (fun rec=>ops rec env l st)
 |[],st=>Good.const _
 |o :: l,st=>(Good.op o st).bind fun st=>Good.ops l st
theorem Good.rounds (slots:List AV) (ps:List Nat) (assign body:VCode) (nb:Nat):∀ (xs:List (List PV)) (k:Nat) (st:St),Good env (fun rec=>rounds rec slots ps assign body nb k xs st)
 |[],k,st=>by unfold Go.Proofs.YtioijcfcehhmdaaGreatDoor.rounds;exact Good.const _
 |x :: xs,k,st=>by
  unfold Go.Proofs.YtioijcfcehhmdaaGreatDoor.rounds
  refine (Good.const _).bind fun sl=>(Good.app _ _).bind fun a=>?_
  obtain ⟨e,st⟩:=a
  cases e
  case normal =>
   refine (Good.app _ _).bind fun a=>?_
   obtain ⟨e,st⟩:=a
   cases e
   case normal =>
    simp only
    split
    ·exact Good.rounds slots ps assign body nb xs (k+1) _
    ·exact Good.const _
   all_goals exact Good.const _
  all_goals exact Good.const _
theorem Good.ranged (g:Opd) (ps:List Nat) (assign body:VCode) (st:St):Good env (fun rec=>ranged rec env g ps assign body st):=by
 unfold Go.Proofs.YtioijcfcehhmdaaGreatDoor.ranged
 refine (Good.const _).bind fun v=>?_
 cases v<;>try exact Good.const _
 simp only
 refine (Good.iterRes _ _ _).bind fun xs=>(Good.rounds _ _ _ _ _ _ _ _).bind fun r=>?_
 obtain ⟨r,st1⟩:=r
 cases r with
 |none=>exact Good.const _
 |some p =>
  obtain ⟨e,k⟩:=p
  refine (Good.iterRes _ _ _).bind fun xs=>(Good.rounds _ _ _ _ _ _ _ _).bind fun r=>?_
  obtain ⟨r,st1⟩:=r
  cases r<;>exact Good.const _
theorem Good.altRun (keep:List Nat) (vo:List VOp) (st:St) (x:DAlt):Good env (fun rec=>altRun rec env keep vo st x):=by
 unfold Go.Proofs.YtioijcfcehhmdaaGreatDoor.altRun
 exact (Good.ops _ _).bind fun s=>Good.const _
theorem Good.agree (keep:List Nat) (vo:List VOp) (st s:St):∀ l:List DAlt,Good env (fun rec=>agree s (l.map (Go.Proofs.YtioijcfcehhmdaaGreatDoor.altRun rec env keep vo st)))
 |[]=>Good.const _
 |x :: xs=>by
  simp only [List.map_cons,Go.Proofs.YtioijcfcehhmdaaGreatDoor.agree]
  refine (Good.altRun keep vo st x).bind fun s'=>?_
  split
  ·exact Good.agree keep vo st s xs
  ·exact Good.const _
theorem Good.runAlts (keep:List Nat) (vo:List VOp) (st:St) (l:List DAlt):Good env (fun rec=>runAlts rec env keep vo st l):=by
 cases l with
 |nil=>exact Good.const _
 |cons x xs =>
  simp only [Go.Proofs.YtioijcfcehhmdaaGreatDoor.runAlts]
  exact (Good.altRun keep vo st x).bind fun s=>Good.agree keep vo st s xs
theorem Good.step (c:VCode) (st:St):Good env (fun rec=>step rec env c st):=by
 cases c
 case ops l=>exact (Good.ops l st).map
 case drw fz _ _ _ l=>exact (Good.ops l (fz.foldl St.freezeAt st)).map
 case drs fz keep vo alts=>exact (Good.runAlts keep vo (fz.foldl St.freezeAt st) alts).map
 case lend d ks l =>
  simp only [Go.Proofs.YtioijcfcehhmdaaGreatDoor.step]
  split
  ·split
   ·exact ((Good.ops l _).bind fun s=>Good.const _).map
   ·exact Good.const _
  ·exact Good.const _
 case seq a b =>
  refine (Good.app _ _).bind fun x=>?_
  obtain ⟨e,st⟩:=x
  cases e
  case normal=>exact Good.app _ _
  all_goals exact Good.const _
 case cond c a b =>
  refine (Good.const _).bind fun v=>?_
  cases v<;>try exact Good.const _
  simp only
  split
  ·exact Good.app _ _
  ·exact Good.app _ _
 case block i a =>
  refine (Good.app _ _).bind fun x=>?_
  obtain ⟨e,st⟩:=x
  exact Good.const _
 case loop=>exact Good.app _ _
 case round keep nb a =>
  refine (Good.const _).bind fun s=>(Good.app _ _).bind fun x=>?_
  obtain ⟨e,st⟩:=x
  cases e
  case normal=>exact Good.app _ _
  all_goals exact Good.const _
 case rng g ps assign body=>exact Good.ranged g ps assign body st
 case clean pre post a =>
  refine (Good.const _).bind fun s=>(Good.app _ _).bind fun x=>?_
  obtain ⟨e,st⟩:=x
  exact Good.const _
 case dem l d f args =>
  refine (Good.ops l st).bind fun st1=>(Good.const _).bind fun vs=>(Good.calT f vs).bind fun r=>?_
  cases r with
  |some p=>exact Good.const _
  |none=>exact (Good.act _ _).map
 all_goals exact Good.const _
theorem vm_succ (env:Env):∀ n,RLe (vm env n) (vm env (n+1))
 |0,c,st,r,h=>by simp [vm] at h
 |n+1,c,st,r,h=>(Good.step (env:=env) c st).mono _ _ (vm_succ env n) r h
theorem vm_le (env:Env) (m n:Nat) (h:m≤n):RLe (vm env m) (vm env n):=by
 induction h with
 |refl=>exact fun _ _ _ h=>h
 |step _ ih=>exact fun c st r h=>vm_succ env _ c st r (ih c st r h)
theorem den_of_vm {n:Nat} {c:VCode} {st:St} {r:Ex × St} (h:vm env n c st=some r):den env c st=some r:=by
 have hx:∃ n r,vm env n c st=some r:=⟨n,r,h⟩
 unfold den
 rw [dif_pos hx]
 have h2:=Classical.choose_spec (Classical.choose_spec hx)
 have h3:=vm_le env _ _ (Nat.le_max_left n (Classical.choose hx)) c st r h
 have h4:=vm_le env _ _ (Nat.le_max_right n (Classical.choose hx)) c st _ h2
 rw [h3] at h4
 exact h4.symm
theorem vm_of_den {c:VCode} {st:St} {r:Ex × St} (h:den env c st=some r):∃ n,vm env n c st=some r :=
 (Good.app c st).cont (vm_le env) r h
theorem vm_den (env:Env) (n:Nat):RLe (vm env n) (den env):=fun _ _ _ h=>den_of_vm h
theorem den_eq (env:Env) (c:VCode) (st:St):den env c st=step (den env) env c st:=by
 apply Option.ext
 intro r
 constructor
 ·intro h
  obtain ⟨n,hn⟩:=vm_of_den h
  cases n with
  |zero=>simp [vm] at hn
  |succ n=>exact (Good.step c st).mono _ _ (vm_den env n) r hn
 ·intro h
  obtain ⟨n,hn⟩:=(Good.step c st).cont (vm_le env) r h
  exact den_of_vm (n:=n+1) hn
noncomputable def cal (env:Env) (f:Nat) (args:List PV):Option (List Res):=callRes (den env) env f args
noncomputable def calL (env:Env) (f:Nat) (x:LArg) (args:List PV):Option (List Res × Option (List PV)):=callLin (den env) env f x args
theorem vmCall_of_cal {f:Nat} {args:List PV} {rs:List Res} (h:cal env f args=some rs):∃ n,vmCall env n f args=some rs :=
 (Good.callRes (env:=env) f args).cont (vm_le env) rs h
theorem cal_of_vmCall {n f:Nat} {args:List PV} {rs:List Res} (h:vmCall env n f args=some rs):cal env f args=some rs :=
 (Good.callRes (env:=env) f args).mono _ _ (vm_den env n) rs h
end
end Go.Proofs.YtioijcfcehhmdaaGreatDoor

namespace Go.Proofs.YtioijcfcehhmdaaGreatDoor
def bcase {α:Type} (b:Bool) (x y:α):α:=match b with
 |true=>x
 |false=>y
section
variable {env:Env} {α β:Type}
theorem bcase_true (x y:α):bcase true x y=x:=(rfl)
theorem bcase_false (x y:α):bcase false x y=y:=(rfl)
theorem bcase_bind (b:Bool) (x y:Option α) (f:α→Option β):(bcase b x y).bind f=bcase b (x.bind f) (y.bind f):=by cases b<;>rfl
theorem bcase_map (b:Bool) (x y:Option α) (f:α→β):(bcase b x y).map f=bcase b (x.map f) (y.map f):=by cases b<;>rfl
theorem bcase_not (b:Bool) (x y:α):bcase (!b) x y=bcase b y x:=by cases b<;>rfl
theorem bcase_bne {γ:Type} [BEq γ] (a b:γ) (x y:α):bcase (a != b) x y=bcase (a==b) y x:=by unfold bne;rw [bcase_not]
theorem beq_t (b:Bool):(b==true)=b:=by cases b<;>rfl
theorem beq_f (b:Bool):(b==false)=!b:=by cases b<;>rfl
theorem bcase_split {b:Bool} {x y r:α} (h1:b=true→x=r) (h0:b=false→y=r):bcase b x y=r:=by
 cases b
 ·exact h0 rfl
 ·exact h1 rfl
noncomputable def dops (env:Env) (l:List VOp) (st:St):Option St:=ops (den env) env l st
noncomputable def dop (env:Env) (o:VOp) (st:St):Option St:=op (den env) env o st
noncomputable def next (env:Env) (b:VCode):Ex × St→Option (Ex × St)
 |(.normal,st)=>den env b st
 |r=>some r
def endBlock (id:Nat):Ex × St→Ex × St
 |(.normal,st)=>(.normal,st)
 |(.exit j,st)=>(bcase (Nat.beq j id) .normal (.exit j),st)
 |(.ret,st)=>(.ret,st)
 |(.thr t n,st)=>(.thr t n,st)
def cleanEnd (post:List Nat) (nb:Nat) (p:Ex × St):Option (Ex × St):=(p.2.head post nb).map fun st=>(p.1,st)
def fin (rs:List VRes):Ex × St→Option (List Res)
 |(.exit _,_)=>none
 |(.thr _ _,_)=>none
 |(_,st)=>resultsOf st rs
def start (n:Nat) (args:List PV):St:=⟨args.map .pv++List.replicate (n - args.length) .any,[],[],none⟩
theorem den_skip (st:St):den env .skip st=some (.normal,st):=by rw [den_eq];rfl
theorem den_ops (l:List VOp) (st:St):den env (.ops l) st=(dops env l st).map fun st=>(.normal,st):=by rw [den_eq];rfl
theorem den_drw (z a f q) (l:List VOp) (st:St):den env (.drw z a f q l) st=(dops env l (z.foldl St.freezeAt st)).map fun st=>(.normal,st):=by rw [den_eq];rfl
noncomputable def dalts (env:Env) (keep:List Nat) (vo:List VOp) (st:St) (l:List DAlt):Option St:=runAlts (den env) env keep vo st l
noncomputable def dalt (env:Env) (keep:List Nat) (vo:List VOp) (st:St) (x:DAlt):Option St:=altRun (den env) env keep vo st x
noncomputable def dagree (env:Env) (keep:List Nat) (vo:List VOp) (st s:St) (l:List DAlt):Option St:=agree s (l.map (altRun (den env) env keep vo st))
def sameAs (s s':St) (r:Option St):Option St:=if s'.same s then r else none
theorem den_drs (z k vo l) (st:St):den env (.drs z k vo l) st=(dalts env k vo (z.foldl St.freezeAt st) l).map fun st=>(.normal,st):=by rw [den_eq];rfl
theorem dalts_cons (k vo) (st:St) (x:DAlt) (l:List DAlt):dalts env k vo st (x :: l)=(dalt env k vo st x).bind fun s=>dagree env k vo st s l:=(rfl)
theorem dagree_nil (k vo) (st s:St):dagree env k vo st s []=some s:=(rfl)
theorem dagree_cons (k vo) (st s:St) (x:DAlt) (l:List DAlt):dagree env k vo st s (x :: l)=(dalt env k vo st x).bind fun s'=>sameAs s s' (dagree env k vo st s l):=by
 show (altRun (den env) env k vo st x).bind _=_
 unfold dalt dagree sameAs
 congr 1
theorem sameAs_same (s:St) (r:Option St):sameAs s s r=r:=by
 show (if s.same s then r else none)=r
 rw [St.same_refl];rfl
theorem dalt_eq (k vo) (st:St) (a f q o w):dalt env k vo st ⟨a,f,q,o,w⟩=(dops env (pickV vo o) st).bind (altEnd k st.boxes.length w):=(rfl)
theorem altEnd_false (k:List Nat) (nb:Nat) (s:St):altEnd k nb false s=s.head k s.boxes.length:=by
 unfold altEnd
 cases s.head k s.boxes.length<;>rfl
theorem altEnd_true (k:List Nat) (nb:Nat) (s:St):altEnd k nb true s=(s.head k s.boxes.length).bind fun s=>s.swap2 nb:=(rfl)
theorem pickV_nil (vo:List VOp):pickV vo []=[]:=(rfl)
theorem pickV_one (vo:List VOp) (i:Nat) (l:List Nat):pickV vo (i :: l)=vo.getD i default :: pickV vo l:=(rfl)
theorem den_seq (a b:VCode) (st:St):den env (.seq a b) st=(den env a st).bind (next env b):=by
 rw [den_eq]
 show (den env a st).bind _=_
 congr 1
 funext ⟨e,st⟩
 cases e<;>rfl
theorem den_cond (c:Opd) (a b:VCode) (st:St):den env (.cond c a b) st=(match st.pvOf c with
  |some (.bool t)=>bcase t (den env a st) (den env b st)
  |_=>none):=by
 rw [den_eq]
 show (st.pvOf c).bind _=_
 cases st.pvOf c with
 |none=>rfl
 |some v =>
  cases v<;>try rfl
  rename_i t
  cases t<;>rfl
theorem den_block (i:Nat) (a:VCode) (st:St):den env (.block i a) st=(den env a st).map (endBlock i):=by
 rw [den_eq]
 show (den env a st).bind _=_
 cases den env a st with
 |none=>rfl
 |some r =>
  obtain ⟨e,st⟩:=r
  cases e with
  |normal=>rfl
  |ret=>rfl
  |thr t n=>rfl
  |exit j =>
   show some (_,_)=some (_,_)
   by_cases h:j=i
   ·subst h;simp [bcase]
   ·have:Nat.beq j i=false:=by cases e:Nat.beq j i with
    |false=>rfl
    |true=>exact absurd (Nat.eq_of_beq_eq_true e) h
    simp [bcase,h,this]
theorem den_loop (keep:List Nat) (a:VCode) (st:St):den env (.loop keep a) st=den env (.round keep st.boxes.length a) st:=by rw [den_eq];rfl
theorem den_round (keep:List Nat) (nb:Nat) (a:VCode) (st:St):den env (.round keep nb a) st=(st.head keep nb).bind fun st=>(den env a st).bind (next env (.round keep nb a)):=by
 rw [den_eq]
 show (st.head keep nb).bind _=_
 congr 1
 funext st
 show (den env a st).bind _=_
 congr 1
 funext ⟨e,st⟩
 cases e<;>rfl
theorem den_clean (pre post:List Nat) (a:VCode) (st:St):den env (.clean pre post a) st=(st.head pre st.boxes.length).bind fun s=>(den env a s).bind (cleanEnd post st.boxes.length):=by
 rw [den_eq]
 show (st.head pre _).bind _=_
 congr 1
 funext s
 show (den env a s).bind _=_
 congr 1
 funext ⟨e,s⟩
 show (s.head post _).bind _=(s.head post _).map _
 cases s.head post st.boxes.length<;>rfl
theorem den_exit (i:Nat) (st:St):den env (.exit i) st=some (.exit i,st):=by rw [den_eq];rfl
theorem den_ret (st:St):den env .ret st=some (.ret,st):=by rw [den_eq];rfl
theorem next_normal (b:VCode) (st:St):next env b (.normal,st)=den env b st:=(rfl)
theorem next_exit (b:VCode) (i:Nat) (st:St):next env b (.exit i,st)=some (.exit i,st):=(rfl)
theorem next_ret (b:VCode) (st:St):next env b (.ret,st)=some (.ret,st):=(rfl)
theorem next_thr (b:VCode) (t:Nat) (n:Int) (st:St):next env b (.thr t n,st)=some (.thr t n,st):=(rfl)
theorem endBlock_thr (i t:Nat) (n:Int) (st:St):endBlock i (.thr t n,st)=(.thr t n,st):=(rfl)
noncomputable def thrown (env:Env) (f:Nat) (args:List PV):Option (Option (Nat × Int)):=calT (den env) env f args
theorem thrown_thr {f:Nat} {g:List PV→Option (Option (Nat × Int))} {args:List PV} (h:env f=some (.thr g)):thrown env f args=g args:=by
 unfold thrown calT
 rw [h]
def tfin:Ex × St→Option (Option (Nat × Int))
 |(.exit _,_)=>none
 |(.thr t n,_)=>some (some (t,n))
 |_=>some none
theorem tfin_normal (st:St):tfin (.normal,st)=some none:=(rfl)
theorem tfin_ret (st:St):tfin (.ret,st)=some none:=(rfl)
theorem tfin_thr (t:Nat) (n:Int) (st:St):tfin (.thr t n,st)=some (some (t,n)):=(rfl)
theorem thrown_code {f:Nat} {fn:VFn} {args:List PV} (h:env f=some (.code fn)) (hl:args.length=fn.nargs) (hr:fn.results.isEmpty=true):thrown env f args=(den env fn.body (start fn.ntmps args)).bind tfin:=by
 unfold thrown calT
 rw [h]
 simp only [if_pos (And.intro hl hr)]
 show (den env fn.body _).bind _=_
 congr 1
 funext ⟨e,st⟩
 cases e<;>rfl
noncomputable def demEnd (env:Env) (d f:Nat) (args:List Opd) (st:St):Option (Nat × Int)→Option (Ex × St)
 |some (t,n)=>some (.thr t n,st)
 |none=>(dops env [.call d f args] st).map fun st=>(.normal,st)
theorem demEnd_some (d f:Nat) (args:List Opd) (st:St) (t:Nat) (n:Int):demEnd env d f args st (some (t,n))=some (.thr t n,st):=(rfl)
theorem demEnd_none (d f:Nat) (args:List Opd) (st:St):demEnd env d f args st none=(dops env [.call d f args] st).map fun st=>(.normal,st):=(rfl)
theorem den_dem (l:List VOp) (d f:Nat) (args:List Opd) (st:St):den env (.dem l d f args) st=(dops env l st).bind fun st1=>(args.mapM st1.pvOf).bind fun vs=>(thrown env f vs).bind (demEnd env d f args st1):=by
 rw [den_eq]
 show (dops env l st).bind _=_
 congr 1
 funext st1
 show (args.mapM st1.pvOf).bind _=_
 congr 1
 funext vs
 show (thrown env f vs).bind _=_
 congr 1
 funext r
 cases r with
 |some p=>rfl
 |none =>
  show (act (den env) env (.call d f args) st1).map _=((act (den env) env (.call d f args) st1).bind (ops (den env) env [])).map _
  cases act (den env) env (.call d f args) st1<;>rfl
theorem endBlock_normal (i:Nat) (st:St):endBlock i (.normal,st)=(.normal,st):=(rfl)
theorem endBlock_ret (i:Nat) (st:St):endBlock i (.ret,st)=(.ret,st):=(rfl)
theorem endBlock_exit (i j:Nat) (st:St):endBlock i (.exit j,st)=(bcase (Nat.beq j i) .normal (.exit j),st):=(rfl)
theorem fin_normal (rs:List VRes) (st:St):fin rs (.normal,st)=resultsOf st rs:=(rfl)
theorem fin_ret (rs:List VRes) (st:St):fin rs (.ret,st)=resultsOf st rs:=(rfl)
theorem cal_code {f:Nat} {fn:VFn} {args:List PV} (h:env f=some (.code fn)) (hl:args.length=fn.nargs):cal env f args=(den env fn.body (start fn.ntmps args)).bind (Go.Proofs.YtioijcfcehhmdaaGreatDoor.fin fn.results):=by
 unfold cal callRes
 rw [h]
 simp only [if_pos hl]
 show (den env fn.body _).bind _=_
 congr 1
 funext ⟨e,st⟩
 cases e<;>rfl
theorem cal_thr {f:Nat} {g:List PV→Option (Option (Nat × Int))} {args:List PV} (h:env f=some (.thr g)) (hg:g args=some none):cal env f args=some []:=by
 unfold cal callRes
 rw [h]
 simp only [hg,Option.bind_some]
noncomputable def dfnRun (env:Env) (fn:DFn):Ex × St→Option (List Res)
 |(.normal,st)=>(fn.begun st).bind fun st0=>(den env fn.body st0).bind fun r=>dfnEnd fn st0 r.1 r.2
 |_=>none
theorem dfnRun_normal (fn:DFn) (st:St):dfnRun env fn (.normal,st)=(fn.begun st).bind fun st0=>(den env fn.body st0).bind fun r=>dfnEnd fn st0 r.1 r.2:=(rfl)
theorem cal_dfn {f:Nat} {fn:DFn} {args:List PV} (h:env f=some (.dfn fn)) (hl:args.length=fn.nargs):cal env f args=(den env fn.pre (start fn.ntmps args)).bind (dfnRun env fn):=by
 unfold cal callRes
 rw [h]
 simp only [if_pos hl]
 show (den env fn.pre _).bind _=_
 congr 1
 funext ⟨e,st⟩
 cases e<;>rfl
def startL (n:Nat) (x:LArg) (args:List PV):St:=⟨x.av :: (args.map .pv++List.replicate (n - (args.length+1)) .any),x.boxes,[],none⟩
def finL (x:LArg) (rs:List VRes):Ex × St→Option (List Res × Option (List PV))
 |(.exit _,_)=>none
 |(.thr _ _,_)=>none
 |(_,st)=>linRes x st rs
theorem finL_normal (x:LArg) (rs:List VRes) (st:St):finL x rs (.normal,st)=linRes x st rs:=(rfl)
theorem finL_ret (x:LArg) (rs:List VRes) (st:St):finL x rs (.ret,st)=linRes x st rs:=(rfl)
theorem linRes_row (sz:Nat) (es:List PV) (st:St) (rs:List VRes):linRes (.row sz es) st rs=(resultsOf st rs).map fun l=>(l,none):=(rfl)
theorem linRes_own (l:List AV) (st:St) (rs:List VRes):linRes (.own l) st rs=(resultsOf st rs).map fun l=>(l,none):=(rfl)
theorem linRes_box (cs:List PV) (st:St) (rs:List VRes):linRes (.box cs) st rs=(match (st.freezeRows 0).boxes[0]? with
  |some b=>bcase b.fz none ((resultList (st.freezeRows 0) rs).map fun l=>(l,some (b.cs.map BV.val)))
  |none=>none):=by
 show (match (st.freezeRows 0).boxes[0]? with
  |some b=>if b.fz then none else (resultList (st.freezeRows 0) rs).map fun l=>(l,some (b.cs.map BV.val))
  |none=>none)=_
 split
 ·rename_i b _
  cases b.fz<;>rfl
 ·rfl
theorem lav_row (sz:Nat) (es:List PV):(LArg.row sz es).av=.row sz es:=(rfl)
theorem lav_own (l:List AV):(LArg.own l).av=.tup true l:=(rfl)
theorem lav_box (cs:List PV):(LArg.box cs).av=.pbox 0 0:=(rfl)
theorem lbx_row (sz:Nat) (es:List PV):(LArg.row sz es).boxes=[]:=(rfl)
theorem lbx_own (l:List AV):(LArg.own l).boxes=[]:=(rfl)
theorem lbx_box (cs:List PV):(LArg.box cs).boxes=[⟨false,cs.map .pv⟩]:=(rfl)
theorem cal_ext {f:Nat} {g:List PV→Option (List Res)} {args:List PV} (h:env f=some (.ext g)):cal env f args=g args:=by
 unfold cal callRes
 rw [h]
theorem clean_loop' {keep post:List Nat} {id:Nat} {b:VCode} {st S0:St} {R:Option (Ex × St)} (h:st.head keep st.boxes.length=some S0) (h2:S0.head keep S0.boxes.length=some S0)
  (key:∀ rb,rb=VCode.round keep S0.boxes.length b→(((den env b S0).bind (next env rb)).map (endBlock id)).bind (cleanEnd post st.boxes.length)=R):den env (.clean keep post (.block id (.loop keep b))) st=R:=by
 rw [den_clean,h,Option.bind_some,den_block,den_loop,den_round,h2,Option.bind_some]
 exact key _ rfl
theorem round_on {keep:List Nat} {nb:Nat} {b rb:VCode} {st S1:St} (hrb:rb=.round keep nb b) (h:st.head keep nb=some S1):den env rb st=(den env b S1).bind (next env rb):=by
 rw [hrb,den_round,h,Option.bind_some]
noncomputable def tailOf (env:Env) (id:Nat) (post:List Nat) (nb:Nat) (x:Option (Ex × St)):Option (Ex × St):=(x.map (endBlock id)).bind (cleanEnd post nb)
theorem clean_rec {β:Type} {keep post:List Nat} {id nb:Nat} {b:VCode} (S:β→St) (R:β→Option (Ex × St)) (P:β→Prop) (μ:β→Nat) (x0:β) {st:St} (h:st.head keep st.boxes.length=some (S x0)) (hP:P x0)
  (hS:∀ x,(S x).boxes.length=nb) (hh:∀ x,(S x).head keep nb=some (S x))
  (step:∀ x rb,P x→(∀ y,μ y<μ x→P y→∀ s,s.head keep nb=some (S y)→tailOf env id post nb (den env rb s)=R y)→tailOf env id post nb ((den env b (S x)).bind (next env rb))=R x) :
  den env (.clean keep post (.block id (.loop keep b))) st=R x0:=by
 have hb:st.boxes.length=nb:=by rw [← (head_same h).1];exact hS x0
 refine clean_loop' h (by rw [hS];exact hh x0) ?_
 intro rb hrb
 rw [hS] at hrb
 rw [hb]
 have key:∀ (k:Nat) (x:β),μ x<k→P x→tailOf env id post nb ((den env b (S x)).bind (next env rb))=R x:=by
  intro k
  induction k with
  |zero=>intro x hx;omega
  |succ k ih =>
   intro x hx hPx
   refine step x rb hPx fun y hy hPy s hs=>?_
   rw [round_on hrb hs]
   exact ih y (by omega) hPy
 exact key (μ x0+1) x0 (by omega) hP
theorem clean_up {keep post:List Nat} {id nb:Nat} {b:VCode} (n:Nat) (S:Nat→St) (R:Nat→Option (Ex × St)) {st:St} (h:st.head keep st.boxes.length=some (S 0)) (hS:∀ i,(S i).boxes.length=nb) (hh:∀ i,(S i).head keep nb=some (S i))
  (step:∀ i rb,i<n→(∀ s,s.head keep nb=some (S (i+1))→tailOf env id post nb (den env rb s)=R (i+1))→tailOf env id post nb ((den env b (S i)).bind (next env rb))=R i)
  (last:∀ rb,tailOf env id post nb ((den env b (S n)).bind (next env rb))=R n) :
  den env (.clean keep post (.block id (.loop keep b))) st=R 0:=by
 refine clean_rec S R (fun i=>i≤n) (fun i=>n - i) 0 h (Nat.zero_le _) hS hh fun i rb hi ih=>?_
 by_cases hn:i=n
 ·subst hn;exact last rb
 ·exact step i rb (by omega) fun s hs=>ih (i+1) (by omega) (by omega) s hs
theorem tail_normal {id nb:Nat} {post:List Nat} (st:St):tailOf env id post nb (some (.normal,st))=cleanEnd post nb (.normal,st):=(rfl)
theorem tail_thr {id nb:Nat} {post:List Nat} (t:Nat) (n:Int) (st:St):tailOf env id post nb (some (.thr t n,st))=cleanEnd post nb (.thr t n,st):=(rfl)
theorem tail_ret {id nb:Nat} {post:List Nat} (st:St):tailOf env id post nb (some (.ret,st))=cleanEnd post nb (.ret,st):=(rfl)
theorem tail_exit {id j nb:Nat} {post:List Nat} (st:St):tailOf env id post nb (some (.exit j,st))=cleanEnd post nb (bcase (Nat.beq j id) .normal (.exit j),st):=(rfl)
theorem tail_bcase {id nb:Nat} {post:List Nat} (b:Bool) (x y:Option (Ex × St)):tailOf env id post nb (bcase b x y)=bcase b (tailOf env id post nb x) (tailOf env id post nb y):=by cases b<;>rfl
theorem z_bind_some (a:α) (f:α→Option β):(some a).bind f=f a:=(rfl)
theorem z_bind_none (f:α→Option β):(none:Option α).bind f=none:=(rfl)
theorem z_map_some (a:α) (f:α→β):(some a).map f=some (f a):=(rfl)
theorem z_map_none (f:α→β):(none:Option α).map f=none:=(rfl)
theorem z_ite_true (x y:α):(if True then x else y)=x:=(rfl)
theorem z_ite_false (x y:α):(if False then x else y)=y:=(rfl)
theorem z_bind_eq {γ δ:Type} (x:Option γ) (f:γ→Option δ):(x >>= f)=x.bind f:=(rfl)
theorem z_pure {γ:Type} (x:γ):(pure x:Option γ)=some x:=(rfl)
theorem z_len_cons {γ:Type} (a:γ) (l:List γ):(a :: l).length=l.length+1:=(rfl)
theorem z_len_nil {γ:Type}:([]:List γ).length=0:=(rfl)
theorem z_nil_app {γ:Type} (l:List γ):[]++l=l:=(rfl)
theorem z_cons_app {γ:Type} (a:γ) (l m:List γ):(a :: l)++m=a :: (l++m):=(rfl)
theorem z_take_succ {γ:Type} (a:γ) (l:List γ) (n:Nat):(a :: l).take (n+1)=a :: l.take n:=(rfl)
theorem z_take_zero {γ:Type} (l:List γ):l.take 0=[]:=(rfl)
theorem z_drop_succ {γ:Type} (a:γ) (l:List γ) (n:Nat):(a :: l).drop (n+1)=l.drop n:=(rfl)
theorem z_drop_zero {γ:Type} (l:List γ):l.drop 0=l:=(rfl)
theorem z_get_zero {γ:Type} (a:γ) (l:List γ):(a :: l)[0]?=some a:=(rfl)
theorem z_get_succ {γ:Type} (a:γ) (l:List γ) (n:Nat):(a :: l)[n+1]?=l[n]?:=(rfl)
theorem z_get_8 {γ:Type} (a0 a1 a2 a3 a4 a5 a6 a7:γ) (l:List γ) (n:Nat):(a0 :: a1 :: a2 :: a3 :: a4 :: a5 :: a6 :: a7 :: l)[n+8]?=l[n]?:=(rfl)
theorem z_getD_zero {γ:Type} (a:γ) (l:List γ) (d:γ):(a :: l).getD 0 d=a:=(rfl)
theorem z_getD_succ {γ:Type} (a:γ) (l:List γ) (n:Nat) (d:γ):(a :: l).getD (n+1) d=l.getD n d:=(rfl)
theorem z_getD_8 {γ:Type} (a0 a1 a2 a3 a4 a5 a6 a7:γ) (l:List γ) (n:Nat) (d:γ):(a0 :: a1 :: a2 :: a3 :: a4 :: a5 :: a6 :: a7 :: l).getD (n+8) d=l.getD n d:=(rfl)
theorem z_set_zero {γ:Type} (a x:γ) (l:List γ):(a :: l).set 0 x=x :: l:=(rfl)
theorem z_set_succ {γ:Type} (a x:γ) (l:List γ) (n:Nat):(a :: l).set (n+1) x=a :: l.set n x:=(rfl)
theorem z_set_8 {γ:Type} (a0 a1 a2 a3 a4 a5 a6 a7 x:γ) (l:List γ) (n:Nat):(a0 :: a1 :: a2 :: a3 :: a4 :: a5 :: a6 :: a7 :: l).set (n+8) x=a0 :: a1 :: a2 :: a3 :: a4 :: a5 :: a6 :: a7 :: l.set n x:=(rfl)
theorem z_mapM_nil {γ δ:Type} (f:γ→Option δ):([]:List γ).mapM f=some []:=(rfl)
theorem z_any_cons {γ:Type} (a:γ) (l:List γ) (p:γ→Bool):(a :: l).any p=(p a || l.any p):=(rfl)
theorem z_any_nil {γ:Type} (p:γ→Bool):([]:List γ).any p=false:=(rfl)
theorem z_all_cons {γ:Type} (a:γ) (l:List γ) (p:γ→Bool):(a :: l).all p=(p a&&l.all p):=(rfl)
theorem z_all_nil {γ:Type} (p:γ→Bool):([]:List γ).all p=true:=(rfl)
theorem z_foldl_cons {γ δ:Type} (f:δ→γ→δ) (b:δ) (a:γ) (l:List γ):(a :: l).foldl f b=l.foldl f (f b a):=(rfl)
theorem z_foldl_nil {γ δ:Type} (f:δ→γ→δ) (b:δ):([]:List γ).foldl f b=b:=(rfl)
theorem z_map_cons {γ δ:Type} (f:γ→δ) (a:γ) (l:List γ):(a :: l).map f=f a :: l.map f:=(rfl)
theorem z_map_nil {γ δ:Type} (f:γ→δ):([]:List γ).map f=[]:=(rfl)
theorem z_repl_zero {γ:Type} (a:γ):List.replicate 0 a=[]:=(rfl)
theorem z_repl_succ {γ:Type} (a:γ) (n:Nat):List.replicate (n+1) a=a :: List.replicate n a:=(rfl)
theorem dops_nil (st:St):dops env [] st=some st:=(rfl)
theorem dops_cons (o:VOp) (l:List VOp) (st:St):dops env (o :: l) st=(dop env o st).bind (dops env l):=(rfl)
theorem dop_grd {g:Nat} {w:Bool} {o:VOp} (st:St):dop env (.grd g w o) st=(match st.slots.getD g .any with
  |.pv (.bool b)=>bcase (b==w) (op1 (den env) env o st) (match dstOf o with
   |some d=>some (st.put d (.tup false []))
   |none=>some st)
  |.tup _ l=>bcase l.isEmpty (match dstOf o with
   |some d=>some (st.put d (.tup false []))
   |none=>some st) none
  |_=>none):=by
 unfold dop op
 simp only
 generalize st.slots.getD g .any=v
 cases v with
 |pv p =>
  cases p with
  |bool b=>cases b<;>cases w<;>rfl
  |_=>rfl
 |tup k l=>cases l<;>rfl
 |_=>rfl
theorem dop_pick {d c x y} (st:St):dop env (.pick d c x y) st=(match st.pvOf c with
  |some (.bool b)=>bcase b ((st.pvOf x).map fun v=>st.put d (.pv v)) ((st.pvOf y).map fun v=>st.put d (.pv v))
  |_=>none):=by
 show (st.pvOf c).bind _=_
 cases st.pvOf c with
 |none=>rfl
 |some v =>
  cases v<;>try rfl
  rename_i t
  cases t
  ·show (st.pvOf y).bind _=Option.map _ (st.pvOf y)
   cases st.pvOf y<;>rfl
  ·show (st.pvOf x).bind _=Option.map _ (st.pvOf x)
   cases st.pvOf x<;>rfl
def afterCall (d:Nat) (args:List Opd) (caps:List AV) (st:St) (fl:Bool) (rs:List Res):Option St :=
 some ((bcase (fl&&!(rs.all (·.1.scalar))) (caps.foldl (fun s v=>s.freezeArg1 (.c .void) v) (args.foldl St.freezeArg st)) st).layAll d rs)
theorem afterCall_false (d:Nat) (args:List Opd) (caps:List AV) (st:St) (rs:List Res):afterCall d args caps st false rs=some (st.layAll d rs):=by
 simp only [afterCall,Bool.false_and,bcase_false]
theorem afterCall_true (d:Nat) (args:List Opd) (caps:List AV) (st:St) (r:Res) (rs:List Res):afterCall d args caps st true (r :: rs)=bcase ((r :: rs).all (·.1.scalar)) (some (st.layAll d (r :: rs))) (some ((caps.foldl (fun s v=>s.freezeArg1 (.c .void) v) (args.foldl St.freezeArg st)).layAll d (r :: rs))):=by
 unfold afterCall
 rw [Bool.true_and]
 cases h:(r :: rs).all (·.1.scalar)<;>rfl
noncomputable def dcall (env:Env) (d f:Nat) (args:List Opd) (caps:List AV) (st:St):Option St :=
 (args.mapM fun x=>st.snapFn (st.get x)).bind fun l=>(caps.mapM st.snap).bind fun k=>(cal env f (l.map (·.1)++k.map (·.1))).bind (afterCall d args caps st (l.any (·.2) || k.any (·.2)))
noncomputable def dcallP (env:Env) (d f:Nat) (args:List Opd) (caps:List PV) (st:St):Option St :=
 (args.mapM fun x=>st.snapFn (st.get x)).bind fun l=>(cal env f (l.map (·.1)++caps)).bind (afterCall d args [] st (l.any (·.2)))
theorem snaps_pv (st:St):∀ caps:List PV,(caps.map AV.pv).mapM st.snap=some (caps.map fun v=>(v,false))
 |[]=>rfl
 |c :: l=>by
  rw [List.map_cons,List.mapM_cons,snaps_pv st l]
  rfl
theorem freeze_pv (st:St):∀ caps:List PV,(caps.map AV.pv).foldl (fun s v=>s.freezeArg1 (.c .void) v) st=st
 |[]=>rfl
 |c :: l=>freeze_pv st l
theorem dcall_eq (d f:Nat) (args:List Opd) (caps:List AV) (st:St):callOn (den env) env d f args caps st=dcall env d f args caps st:=by
 unfold callOn dcall
 show Option.bind _ _=Option.bind _ _
 congr 1;funext l
 show Option.bind _ _=Option.bind _ _
 congr 1;funext k
 show Option.bind _ _=Option.bind _ _
 congr 1;funext rs
 show some _=some _
 congr 2
 cases h:(l.any (·.2) || k.any (·.2))&&!(rs.all (·.1.scalar))<;>rfl
theorem dcallP_eq (d f:Nat) (args:List Opd) (caps:List PV) (st:St):dcall env d f args (caps.map .pv) st=dcallP env d f args caps st:=by
 unfold dcallP dcall
 congr 1;funext l
 rw [snaps_pv,Option.bind_some,List.map_map,List.any_map]
 have h1:(Prod.fst ∘ fun v:PV=>(v,false))=id:=rfl
 have h2:caps.any (Prod.snd ∘ fun v:PV=>(v,false))=false:=by
  induction caps with
  |nil=>rfl
  |cons c cs ih=>simp [List.any_cons,ih]
 rw [h1,List.map_id,h2,Bool.or_false]
 congr 1;funext rs
 unfold afterCall
 rw [freeze_pv]
 rfl
theorem dop_call {d f args} (st:St):dop env (.call d f args) st=dcallP env d f args [] st:=(dcall_eq ..).trans (dcallP_eq (caps:=[]) ..)
theorem op1_call {d f args} (st:St):op1 (den env) env (.call d f args) st=dcallP env d f args [] st:=(dcall_eq ..).trans (dcallP_eq (caps:=[]) ..)
noncomputable def dlin (env:Env) (d f:Nat) (x:Opd) (args:List Opd) (caps:List AV) (st:St):Option St :=
 (args.mapM fun x=>st.snapFn (st.get x)).bind fun l=>(caps.mapM st.snap).bind fun k=>(bcase (l.any (·.2) || k.any (·.2)) none (takeLin st x)).bind fun q=>(calL env f q.1 (l.map (·.1)++k.map (·.1))).bind fun r=>(backLin q.2.2 q.2.1 r.2).bind fun st2=>some (st2.layAll d r.1)
noncomputable def dlinP (env:Env) (d f:Nat) (x:Opd) (args:List Opd) (caps:List PV) (st:St):Option St :=
 (args.mapM fun x=>st.snapFn (st.get x)).bind fun l=>(bcase (l.any (·.2)) none (takeLin st x)).bind fun q=>(calL env f q.1 (l.map (·.1)++caps)).bind fun r=>(backLin q.2.2 q.2.1 r.2).bind fun st2=>some (st2.layAll d r.1)
theorem dlin_eq (d f:Nat) (x:Opd) (args:List Opd) (caps:List AV) (st:St):callOnL (den env) env d f x args caps st=dlin env d f x args caps st:=by
 unfold callOnL dlin
 congr 1;funext l
 congr 1;funext k
 congr 1
 cases h:(l.any (·.2) || k.any (·.2))<;>rfl
theorem dlinP_eq (d f:Nat) (x:Opd) (args:List Opd) (caps:List PV) (st:St):dlin env d f x args (caps.map .pv) st=dlinP env d f x args caps st:=by
 unfold dlinP dlin
 congr 1;funext l
 rw [snaps_pv,Option.bind_some,List.map_map,List.any_map]
 have h1:(Prod.fst ∘ fun v:PV=>(v,false))=id:=rfl
 have h2:caps.any (Prod.snd ∘ fun v:PV=>(v,false))=false:=by
  induction caps with
  |nil=>rfl
  |cons c cs ih=>simp [List.any_cons,ih]
 rw [h1,List.map_id,h2,Bool.or_false]
theorem dop_lin {d f x args} (st:St):dop env (.lin d f x args) st=dlinP env d f x args [] st:=(dlin_eq ..).trans (dlinP_eq (caps:=[]) ..)
theorem op1_lin {d f x args} (st:St):op1 (den env) env (.lin d f x args) st=dlinP env d f x args [] st:=(dlin_eq ..).trans (dlinP_eq (caps:=[]) ..)
theorem dop_linv {d g x args} (st:St):dop env (.linv d g x args) st=(match st.get g with
  |.pv (.func f caps)=>dlinP env d f x args caps st
  |.fn f caps=>dlin env d f x args caps st
  |_=>none):=by
 show (match st.get g with
  |.pv (.func f caps)=>callOnL (den env) env d f x args (caps.map .pv) st
  |.fn f caps=>callOnL (den env) env d f x args caps st
  |_=>none)=_
 split<;>simp only [dlin_eq,dlinP_eq]
theorem op1_linv {d g x args} (st:St):op1 (den env) env (.linv d g x args) st=dop env (.linv d g x args) st:=(rfl)
theorem dop_callv {d x args} (st:St):dop env (.callv d x args) st=(match st.get x with
  |.pv (.func f caps)=>dcallP env d f args caps st
  |.fn f caps=>dcall env d f args caps st
  |_=>none):=by
 show (match st.get x with
  |.pv (.func f caps)=>callOn (den env) env d f args (caps.map .pv) st
  |.fn f caps=>callOn (den env) env d f args caps st
  |_=>none)=_
 split<;>simp only [dcall_eq,dcallP_eq]
theorem op1_callv {d x args} (st:St):op1 (den env) env (.callv d x args) st=dop env (.callv d x args) st:=(rfl)
theorem op1_pick {d c x y} (st:St):op1 (den env) env (.pick d c x y) st=dop env (.pick d c x y) st:=(rfl)
theorem dop_mov {d x} (st:St):dop env (.mov d x) st=plain (.mov d x) st:=(rfl)
theorem dop_asg {d x} (st:St):dop env (.asg d x) st=plain (.asg d x) st:=(rfl)
theorem dop_bin {d o x y} (st:St):dop env (.bin d o x y) st=plain (.bin d o x y) st:=(rfl)
theorem dop_eqa {d neg n x y} (st:St):dop env (.eqa d neg n x y) st=plain (.eqa d neg n x y) st:=(rfl)
theorem dop_eqm {d neg ks x y} (st:St):dop env (.eqm d neg ks x y) st=plain (.eqm d neg ks x y) st:=(rfl)
theorem dop_eqb {d neg x y} (st:St):dop env (.eqb d neg x y) st=plain (.eqb d neg x y) st:=(rfl)
theorem dop_isn {d neg x} (st:St):dop env (.isn d neg x) st=plain (.isn d neg x) st:=(rfl)
theorem dop_cut {d sz x} (st:St):dop env (.cut d sz x) st=plain (.cut d sz x) st:=(rfl)
theorem dop_asl {d n x} (st:St):dop env (.asl d n x) st=plain (.asl d n x) st:=(rfl)
theorem dop_asz {d n sz x} (st:St):dop env (.asz d n sz x) st=plain (.asz d n sz x) st:=(rfl)
theorem dop_bldo {d z l q m} (st:St):dop env (.bldo d z l q m) st=plain (.bldo d z l q m) st:=(rfl)
theorem op1_bldo {d z l q m} (st:St):op1 (den env) env (.bldo d z l q m) st=plain (.bldo d z l q m) st:=(rfl)
theorem dop_stw {n p x} (st:St):dop env (.stw n p x) st=act (den env) env (.stw n p x) st:=(rfl)
theorem op1_stw {n p x} (st:St):op1 (den env) env (.stw n p x) st=act (den env) env (.stw n p x) st:=(rfl)
theorem dop_srt {d f x g} (st:St):dop env (.srt d f x g) st=act (den env) env (.srt d f x g) st:=(rfl)
theorem op1_srt {d f x g} (st:St):op1 (den env) env (.srt d f x g) st=act (den env) env (.srt d f x g) st:=(rfl)
theorem dop_mvz {d x} (st:St):dop env (.mvz d x) st=plain (.mvz d x) st:=(rfl)
theorem op1_mvz {d x} (st:St):op1 (den env) env (.mvz d x) st=plain (.mvz d x) st:=(rfl)
theorem dop_ldz {d n x} (st:St):dop env (.ldz d n x) st=plain (.ldz d n x) st:=(rfl)
theorem op1_asl {d n x} (st:St):op1 (den env) env (.asl d n x) st=plain (.asl d n x) st:=(rfl)
theorem op1_asz {d n sz x} (st:St):op1 (den env) env (.asz d n sz x) st=plain (.asz d n sz x) st:=(rfl)
theorem op1_ldz {d n x} (st:St):op1 (den env) env (.ldz d n x) st=plain (.ldz d n x) st:=(rfl)
theorem op1_isn {d neg x} (st:St):op1 (den env) env (.isn d neg x) st=plain (.isn d neg x) st:=(rfl)
theorem op1_cut {d sz x} (st:St):op1 (den env) env (.cut d sz x) st=plain (.cut d sz x) st:=(rfl)
theorem dop_un {d o x} (st:St):dop env (.un d o x) st=plain (.un d o x) st:=(rfl)
theorem dop_conv {d k x} (st:St):dop env (.conv d k x) st=plain (.conv d k x) st:=(rfl)
theorem dop_load {d n p} (st:St):dop env (.load d n p) st=plain (.load d n p) st:=(rfl)
theorem dop_fadr {d p off} (st:St):dop env (.fadr d p off) st=plain (.fadr d p off) st:=(rfl)
theorem dop_aadr {d p i len sz} (st:St):dop env (.aadr d p i len sz) st=plain (.aadr d p i len sz) st:=(rfl)
theorem dop_iadr {d sz x i} (st:St):dop env (.iadr d sz x i) st=plain (.iadr d sz x i) st:=(rfl)
theorem dop_fld {d x off n} (st:St):dop env (.fld d x off n) st=plain (.fld d x off n) st:=(rfl)
theorem dop_idx {d x i len sz n} (st:St):dop env (.idx d x i len sz n) st=plain (.idx d x i len sz n) st:=(rfl)
theorem dop_sli {d sz x lo hi} (st:St):dop env (.sli d sz x lo hi) st=plain (.sli d sz x lo hi) st:=(rfl)
theorem dop_len {d x} (st:St):dop env (.len d x) st=plain (.len d x) st:=(rfl)
theorem dop_lens {d x} (st:St):dop env (.lens d x) st=plain (.lens d x) st:=(rfl)
theorem dop_ext {d x i} (st:St):dop env (.ext d x i) st=plain (.ext d x i) st:=(rfl)
theorem dop_build {d z parts} (st:St):dop env (.build d z parts) st=plain (.build d z parts) st:=(rfl)
theorem dop_mn {d mx x y} (st:St):dop env (.mn d mx x y) st=plain (.mn d mx x y) st:=(rfl)
theorem dop_mkf {d f caps} (st:St):dop env (.mkf d f caps) st=plain (.mkf d f caps) st:=(rfl)
theorem dop_alloc {d z} (st:St):dop env (.alloc d z) st=act (den env) env (.alloc d z) st:=(rfl)
theorem dop_box {d x} (st:St):dop env (.box d x) st=act (den env) env (.box d x) st:=(rfl)
theorem dop_store {d n p x} (st:St):dop env (.store d n p x) st=act (den env) env (.store d n p x) st:=(rfl)
theorem dop_mksl {d sz parts} (st:St):dop env (.mksl d sz parts) st=act (den env) env (.mksl d sz parts) st:=(rfl)
theorem dop_make {d z n c} (st:St):dop env (.make d z n c) st=act (den env) env (.make d z n c) st:=(rfl)
theorem dop_app {d sz x y} (st:St):dop env (.app d sz x y) st=act (den env) env (.app d sz x y) st:=(rfl)
theorem dop_apb {d x y} (st:St):dop env (.apb d x y) st=act (den env) env (.apb d x y) st:=(rfl)
theorem dop_cpy {d sz x y} (st:St):dop env (.cpy d sz x y) st=act (den env) env (.cpy d sz x y) st:=(rfl)
theorem dop_yield {d x args} (st:St):dop env (.yield d x args) st=act (den env) env (.yield d x args) st:=(rfl)
theorem op1_mov {d x} (st:St):op1 (den env) env (.mov d x) st=plain (.mov d x) st:=(rfl)
theorem op1_asg {d x} (st:St):op1 (den env) env (.asg d x) st=plain (.asg d x) st:=(rfl)
theorem op1_bin {d o x y} (st:St):op1 (den env) env (.bin d o x y) st=plain (.bin d o x y) st:=(rfl)
theorem op1_eqa {d neg n x y} (st:St):op1 (den env) env (.eqa d neg n x y) st=plain (.eqa d neg n x y) st:=(rfl)
theorem op1_eqm {d neg ks x y} (st:St):op1 (den env) env (.eqm d neg ks x y) st=plain (.eqm d neg ks x y) st:=(rfl)
theorem op1_eqb {d neg x y} (st:St):op1 (den env) env (.eqb d neg x y) st=plain (.eqb d neg x y) st:=(rfl)
theorem op1_un {d o x} (st:St):op1 (den env) env (.un d o x) st=plain (.un d o x) st:=(rfl)
theorem op1_conv {d k x} (st:St):op1 (den env) env (.conv d k x) st=plain (.conv d k x) st:=(rfl)
theorem op1_load {d n p} (st:St):op1 (den env) env (.load d n p) st=plain (.load d n p) st:=(rfl)
theorem op1_fadr {d p off} (st:St):op1 (den env) env (.fadr d p off) st=plain (.fadr d p off) st:=(rfl)
theorem op1_aadr {d p i len sz} (st:St):op1 (den env) env (.aadr d p i len sz) st=plain (.aadr d p i len sz) st:=(rfl)
theorem op1_iadr {d sz x i} (st:St):op1 (den env) env (.iadr d sz x i) st=plain (.iadr d sz x i) st:=(rfl)
theorem op1_fld {d x off n} (st:St):op1 (den env) env (.fld d x off n) st=plain (.fld d x off n) st:=(rfl)
theorem op1_idx {d x i len sz n} (st:St):op1 (den env) env (.idx d x i len sz n) st=plain (.idx d x i len sz n) st:=(rfl)
theorem op1_sli {d sz x lo hi} (st:St):op1 (den env) env (.sli d sz x lo hi) st=plain (.sli d sz x lo hi) st:=(rfl)
theorem op1_len {d x} (st:St):op1 (den env) env (.len d x) st=plain (.len d x) st:=(rfl)
theorem op1_lens {d x} (st:St):op1 (den env) env (.lens d x) st=plain (.lens d x) st:=(rfl)
theorem op1_ext {d x i} (st:St):op1 (den env) env (.ext d x i) st=plain (.ext d x i) st:=(rfl)
theorem op1_build {d z parts} (st:St):op1 (den env) env (.build d z parts) st=plain (.build d z parts) st:=(rfl)
theorem op1_mn {d mx x y} (st:St):op1 (den env) env (.mn d mx x y) st=plain (.mn d mx x y) st:=(rfl)
theorem op1_mkf {d f caps} (st:St):op1 (den env) env (.mkf d f caps) st=plain (.mkf d f caps) st:=(rfl)
theorem op1_alloc {d z} (st:St):op1 (den env) env (.alloc d z) st=act (den env) env (.alloc d z) st:=(rfl)
theorem op1_box {d x} (st:St):op1 (den env) env (.box d x) st=act (den env) env (.box d x) st:=(rfl)
theorem op1_store {d n p x} (st:St):op1 (den env) env (.store d n p x) st=act (den env) env (.store d n p x) st:=(rfl)
theorem op1_mksl {d sz parts} (st:St):op1 (den env) env (.mksl d sz parts) st=act (den env) env (.mksl d sz parts) st:=(rfl)
theorem op1_make {d z n c} (st:St):op1 (den env) env (.make d z n c) st=act (den env) env (.make d z n c) st:=(rfl)
theorem op1_app {d sz x y} (st:St):op1 (den env) env (.app d sz x y) st=act (den env) env (.app d sz x y) st:=(rfl)
theorem op1_apb {d x y} (st:St):op1 (den env) env (.apb d x y) st=act (den env) env (.apb d x y) st:=(rfl)
theorem op1_cpy {d sz x y} (st:St):op1 (den env) env (.cpy d sz x y) st=act (den env) env (.cpy d sz x y) st:=(rfl)
theorem op1_yield {d x args} (st:St):op1 (den env) env (.yield d x args) st=act (den env) env (.yield d x args) st:=(rfl)
theorem killS_pv (d:Nat) (v:PV):AV.kill d (.pv v)=.pv v:=(rfl)
theorem killS_any (d:Nat):AV.kill d .any=.any:=(rfl)
theorem killS_row (d sz:Nat) (es:List PV):AV.kill d (.row sz es)=.row sz es:=(rfl)
theorem killS_pbox (d o j:Nat):AV.kill d (.pbox o j)=.pbox o j:=(rfl)
theorem killS_fn (d f:Nat) (l:List AV):AV.kill d (.fn f l)=.fn f l:=(rfl)
theorem killS_tup (d:Nat) (k:Bool) (l:List AV):AV.kill d (.tup k l)=.tup k l:=(rfl)
theorem killS_yld (d:Nat):AV.kill d .yld=.yld:=(rfl)
theorem killS_refs (d t off len:Nat):AV.kill d (.ref (.slot t) off len)=bcase (decide (t=d)) .any (.ref (.slot t) off len):=by
 by_cases h:t=d<;>simp [AV.kill,AV.roots,h,bcase]
theorem killS_refc (d o j off len:Nat):AV.kill d (.ref (.cell o j) off len)=.ref (.cell o j) off len:=(rfl)
theorem killS_pels (d t i j:Nat):AV.kill d (.pel (.slot t) i j)=bcase (decide (t=d)) .any (.pel (.slot t) i j):=by
 by_cases h:t=d<;>simp [AV.kill,AV.roots,h,bcase]
theorem killS_pelc (d o q i j:Nat):AV.kill d (.pel (.cell o q) i j)=.pel (.cell o q) i j:=(rfl)
theorem killc_pv (d:Nat) (v:PV):AV.killCell d (.pv v)=.pv v:=(rfl)
theorem killc_any (d:Nat):AV.killCell d .any=.any:=(rfl)
theorem killc_row (d sz:Nat) (es:List PV):AV.killCell d (.row sz es)=.row sz es:=(rfl)
theorem killc_pbox (d o j:Nat):AV.killCell d (.pbox o j)=.pbox o j:=(rfl)
theorem killc_fn (d f:Nat) (l:List AV):AV.killCell d (.fn f l)=.fn f l:=(rfl)
theorem killc_tup (d:Nat) (k:Bool) (l:List AV):AV.killCell d (.tup k l)=.tup k l:=(rfl)
theorem killc_yld (d:Nat):AV.killCell d .yld=.yld:=(rfl)
theorem killc_refc (d t j off len:Nat):AV.killCell d (.ref (.cell t j) off len)=bcase (decide (t=d)) .any (.ref (.cell t j) off len):=by
 by_cases h:t=d<;>simp [AV.killCell,AV.rootsCell,h,bcase]
theorem killc_refs (d t off len:Nat):AV.killCell d (.ref (.slot t) off len)=.ref (.slot t) off len:=(rfl)
theorem killc_pelc (d t q i j:Nat):AV.killCell d (.pel (.cell t q) i j)=bcase (decide (t=d)) .any (.pel (.cell t q) i j):=by
 by_cases h:t=d<;>simp [AV.killCell,AV.rootsCell,h,bcase]
theorem killc_pels (d t i j:Nat):AV.killCell d (.pel (.slot t) i j)=.pel (.slot t) i j:=(rfl)
theorem take_map_all {γ δ:Type} (f:γ→δ) (l:List γ):(l.map f).take l.length=l.map f:=List.take_of_length_le (by simp)
theorem scal_int (k:IntKind) (n:Int):(PV.int k n).scalar=true:=(rfl)
theorem scal_bool (b:Bool):(PV.bool b).scalar=true:=(rfl)
theorem scal_str (b:ByteArray):(PV.str b).scalar=true:=(rfl)
theorem scal_list (sz:Nat) (es:List PV):(PV.list sz es).scalar=false:=(rfl)
theorem scal_func (f:Nat) (es:List PV):(PV.func f es).scalar=false:=(rfl)
theorem cells_int (k:IntKind) (n:Int):(PV.int k n).cells=[.int k n]:=(rfl)
theorem cells_bool (b:Bool):(PV.bool b).cells=[.bool b]:=(rfl)
theorem cells_str (b:ByteArray):(PV.str b).cells=[.str b]:=(rfl)
theorem cells_list (sz:Nat) (es:List PV):(PV.list sz es).cells=[.list sz es]:=(rfl)
theorem cells_func (f:Nat) (es:List PV):(PV.func f es).cells=[.func f es]:=(rfl)
theorem cells_agg (cs:List PV):(PV.agg cs).cells=cs:=(rfl)
theorem part_one (c:PV) (cs:List PV):part (c :: cs) 0 none=some c:=(rfl)
theorem part_succ (c:PV) (cs:List PV) (n:Nat) (m:Option Nat):part (c :: cs) (n+1) m=part cs n m:=by
 cases m with
 |none=>rfl
 |some m =>
  simp only [part,List.length_cons,List.drop_succ_cons]
  by_cases h:n+m≤cs.length
  ·rw [if_pos h,if_pos (by omega)]
  ·rw [if_neg h,if_neg (by omega)]
theorem part_more (c:PV) (cs:List PV) (m:Nat):part (c :: cs) 0 (some m)=if m≤(c :: cs).length then some (.agg ((c :: cs).take m)) else none:=by
 simp only [part,Nat.zero_add,List.drop_zero]
theorem i64_fits {n:Int} (h:-9223372036854775808≤n∧n≤9223372036854775807):IntKind.i64.wrap n=n:=Go.IntWalk.i64_in n h
theorem i64_next {i n:Nat} (h:i<n) (hn:n≤lim):IntKind.i64.wrap ((i:Int)+1)=((i+1:Nat):Int):=by
 unfold lim at hn
 rw [Go.IntWalk.i64_in _ (by omega)]
 omega
theorem index_nat {k:IntKind} {i n:Nat} (h:i<n):index (.int k (i:Int)) n=some i:=by
 simp only [index]
 rw [if_pos (by omega)]
 simp
end
end Go.Proofs.YtioijcfcehhmdaaGreatDoor

namespace Go.Proofs.YtioijcfcehhmdaaGreatDoor
open V
def cloneX (n:Nat):List PV→Option (List Res)
 |[.list sz es]=>if sz=n∧es.length≤lim then some [(.list sz es,true)] else none
 |_=>none
def decU8:PV→Option UInt8
 |.int .u8 n=>if 0≤n∧n<256 then some (UInt8.ofNat n.toNat) else none
 |_=>none
def decAll {α:Type} (f:PV→Option α):List PV→Option (List α)
 |[]=>some []
 |p :: l=>match f p with
  |some x=>match decAll f l with
   |some xs=>some (x :: xs)
   |none=>none
  |none=>none
def decSec:PV→Option Sec
 |.agg cs=>match decAll decU8 cs with
  |some l=>if h:l.length=8 then some ⟨l.toArray,by simpa using h⟩ else none
  |none=>none
 |_=>none
def decSecs:PV→Option (List Sec)
 |.list 8 es=>decAll decSec es
 |_=>none
def i64b (n:Int):Bool:=decide (-9223372036854775808≤n)&&decide (n≤9223372036854775807)
def decWr:PV→Option Wrt
 |.agg [.int .i64 v,.int .i64 s,d]=>match decSecs d with
  |some d=>if i64b v&&i64b s then some ⟨v,s,d⟩ else none
  |none=>none
 |_=>none
theorem decU8_eq {p:PV} {x:UInt8} (h:decU8 p=some x):p=.int .u8 (x.toNat:Int):=by
 unfold decU8 at h
 split at h
 case h_2=>cases h
 rename_i n
 split at h
 case isFalse=>cases h
 cases h
 rw [UInt8.toNat_ofNat_of_lt' (show n.toNat<2 ^ 8 by omega)]
 congr 1;omega
theorem decU8_enc (x:UInt8):decU8 (.int .u8 (x.toNat:Int))=some x:=by
 have:=x.toNat_lt
 unfold decU8
 simp only
 rw [if_pos (by omega)]
 simp
theorem decAll_eq {α:Type} {f:PV→Option α} {enc:α→PV} (hf:∀ p x,f p=some x→p=enc x):∀ {l:List PV} {xs:List α},decAll f l=some xs→l=xs.map enc
 |[],_,h=>by cases h;rfl
 |p :: l,xs,h=>by
  unfold decAll at h
  split at h
  case h_2=>cases h
  rename_i x hx
  split at h
  case h_2=>cases h
  rename_i ys hy
  cases h
  rw [List.map_cons,← hf p x hx,← decAll_eq hf hy]
theorem decAll_enc {α:Type} {f:PV→Option α} {enc:α→PV}:∀ {l:List α},(∀ x∈l,f (enc x)=some x)→decAll f (l.map enc)=some l
 |[],_=>rfl
 |x :: l,h=>by
  simp only [List.map_cons,decAll,h x (by simp),decAll_enc (l:=l) fun y hy=>h y (by simp [hy])]
theorem decSec_eq {p:PV} {x:Sec} (h:decSec p=some x):p=eSec x:=by
 unfold decSec at h
 split at h
 case h_2=>cases h
 rename_i cs
 split at h
 case h_2=>cases h
 rename_i l hl
 split at h
 case isFalse=>cases h
 rename_i h8
 cases h
 rw [decAll_eq (fun p x=>decU8_eq) hl]
 simp [eSec,secPV,Vector.toList]
theorem decSec_enc (x:Sec):decSec (eSec x)=some x:=by
 unfold decSec eSec secPV
 simp only
 rw [decAll_enc (f:=decU8) (enc:=fun b:UInt8=>.int .u8 (b.toNat:Int)) fun b _=>decU8_enc b]
 simp
 rfl
theorem decSecs_eq {p:PV} {x:List Sec} (h:decSecs p=some x):p=eSecs x:=by
 unfold decSecs at h
 split at h
 case h_2=>cases h
 rw [decAll_eq (fun p x=>decSec_eq) h];rfl
theorem decSecs_enc (x:List Sec):decSecs (eSecs x)=some x:=by
 unfold decSecs eSecs
 simp only
 exact decAll_enc fun x _=>decSec_enc x
theorem decWr_eq {p:PV} {x:Wrt} (h:decWr p=some x):p=eWr x:=by
 unfold decWr at h
 split at h
 case h_2=>cases h
 split at h
 case h_2=>cases h
 rename_i d hd
 split at h
 case isFalse=>cases h
 cases h
 have:=decSecs_eq hd
 rw [this];rfl
theorem decWr_ok {p:PV} {x:Wrt} (h:decWr p=some x):i64b x.volume=true∧i64b x.start=true:=by
 unfold decWr at h
 split at h
 case h_2=>cases h
 split at h
 case h_2=>cases h
 split at h
 case isFalse=>cases h
 rename_i hc
 cases h
 simpa using hc
theorem decWr_enc (x:Wrt) (h1:i64b x.volume=true) (h2:i64b x.start=true):decWr (eWr x)=some x:=by
 have:=decSecs_enc x.data
 unfold eSecs at this
 simp only [decWr,eWr,this,h1,h2,Bool.and_self,if_true]
def szErr (l:List Int):Int:=if l.length<1∨8<l.length then 6 else if l.any (fun n=>decide (n<1) || decide (n > 4096)) then 2 else 0
def szsOf (im:List (List Sec)):List Int:=im.map fun v=>(v.length:Int)
def wrErr (sz:List Int) (w:Wrt):Int :=
 if w.volume<0∨(sz.length:Int)≤w.volume then 7 else if w.data.length=0 then 1
 else if w.start<0∨(sz.getD w.volume.toNat 0) - w.data.length<w.start then 2 else 0
def putAt (l:List Sec) (s:Nat) (d:List Sec):List Sec:=l.take s++d++l.drop (s+d.length)
def put1 (im:List (List Sec)) (w:Wrt):List (List Sec):=im.set w.volume.toNat (putAt (im.getD w.volume.toNat []) w.start.toNat w.data)
def wrErrs (sz:List Int):List Wrt→Nat→Int × Int
 |[],_=>(0,0)
 |w :: l,i=>if wrErr sz w≠0 then (i,wrErr sz w) else wrErrs sz l (i+1)
def apE (im:List (List Sec)) (l:List Wrt):Int:=if szErr (szsOf im)≠0 then szErr (szsOf im) else (wrErrs (szsOf im) l 0).2
def apI (im:List (List Sec)) (l:List Wrt):Int:=if szErr (szsOf im)≠0 then 0 else (wrErrs (szsOf im) l 0).1
def apO (im:List (List Sec)) (l:List Wrt):List (List Sec):=if apE im l=0 then l.foldl put1 im else []
def applyX:List PV→Option (List Res)
 |[.list 1 im,.list 3 l]=>match decAll decSecs im with
  |some im=>match decAll decWr l with
   |some l=>if im.length≤1000000∧im.all (fun v=>decide (v.length≤1000000))=true then some [(.list 1 ((apO im l).map eSecs),false),(.int .i64 (apI im l),false),(.int .i64 (apE im l),false)] else none
   |none=>none
  |none=>none
 |_=>none
theorem applyX_eq {args:List PV} {rs:List Res} (h:applyX args=some rs):∃ (im:List (List Sec)) (l:List Wrt),args=[.list 1 (im.map eSecs),.list 3 (l.map eWr)]∧(∀ w∈l,i64b w.volume=true∧i64b w.start=true)∧im.length≤1000000∧(∀ v∈im,v.length≤1000000) ∧
  rs=[(.list 1 ((apO im l).map eSecs),false),(.int .i64 (apI im l),false),(.int .i64 (apE im l),false)]:=by
 unfold applyX at h
 split at h
 case h_2=>cases h
 split at h
 case h_2=>cases h
 rename_i im hi
 split at h
 case h_2=>cases h
 rename_i l hl
 split at h
 case isFalse=>cases h
 rename_i hc
 cases h
 refine ⟨im,l,by rw [decAll_eq (fun p x=>decSecs_eq) hi,decAll_eq (fun p x=>decWr_eq) hl],?_,hc.1,fun v hv=>by simpa using List.all_eq_true.1 hc.2 v hv,rfl⟩
 have:∀ {q:List PV} {xs:List Wrt},decAll decWr q=some xs→∀ w∈xs,i64b w.volume=true∧i64b w.start=true:=by
  intro q
  induction q with
  |nil=>intro xs h;cases h;simp
  |cons p q ih =>
   intro xs h
   unfold decAll at h
   split at h
   case h_2=>cases h
   rename_i x hx
   split at h
   case h_2=>cases h
   rename_i ys hy
   cases h
   simp only [List.mem_cons,forall_eq_or_imp]
   exact ⟨decWr_ok hx,ih hy⟩
 exact this hl
theorem applyX_enc {im:List (List Sec)} {l:List Wrt} (h1:∀ w∈l,i64b w.volume=true∧i64b w.start=true) (h2:im.length≤1000000) (h3:∀ v∈im,v.length≤1000000) :
  applyX [.list 1 (im.map eSecs),.list 3 (l.map eWr)]=some [(.list 1 ((apO im l).map eSecs),false),(.int .i64 (apI im l),false),(.int .i64 (apE im l),false)]:=by
 simp only [applyX]
 rw [decAll_enc fun x _=>decSecs_enc x,decAll_enc fun x hx=>decWr_enc x (h1 x hx).1 (h1 x hx).2]
 simp only
 rw [if_pos ⟨h2,List.all_eq_true.2 fun v hv=>by simpa using h3 v hv⟩]
end Go.Proofs.YtioijcfcehhmdaaGreatDoor

namespace Go.Proofs.YtioijcfcehhmdaaGreatDoor
structure End where
 pos:Nat
 list:Nat
 step:Int
 deriving DecidableEq,Inhabited
def eEnd (e:End):PV:=.agg [.int .i64 (e.pos:Int),.int .i64 (e.list:Int),.int .i64 e.step]
def decEnd:PV→Option End
 |.agg [.int .i64 a,.int .i64 b,.int .i64 c]=>if 0≤a∧0≤b then some ⟨a.toNat,b.toNat,c⟩ else none
 |_=>none
theorem decEnd_enc (e:End):decEnd (eEnd e)=some e:=by
 simp [decEnd,eEnd]
theorem decEnd_eq {p:PV} {e:End} (h:decEnd p=some e):p=eEnd e:=by
 unfold decEnd at h
 split at h
 ·split at h
  ·rename_i hc
   cases h
   simp only [eEnd,Int.toNat_of_nonneg hc.1,Int.toNat_of_nonneg hc.2]
  ·cases h
 ·cases h
def ltEnd (x y:End):Bool:=decide (x.pos<y.pos)
def sortE (l:List End):List End:=(Sort.pdq ltEnd l.toArray 0 l.length (Lib.bitLen l.length) true true).toList
def sortEndsX (g:Nat):PV→List PV→Option (List PV)
 |.func f [],es=>if f=g then if es.length≤1000000 then (decAll decEnd es).map fun l=>(sortE l).map eEnd else none else none
 |_,_=>none
theorem sortEndsX_enc {g:Nat} {l:List End} (h:l.length≤1000000):sortEndsX g (.func g []) (l.map eEnd)=some ((sortE l).map eEnd):=by
 unfold sortEndsX
 simp only [if_true,List.length_map,h]
 rw [decAll_enc fun x _=>decEnd_enc x]
 rfl
theorem sortEndsX_eq {g:Nat} {c:PV} {es es':List PV} (h:sortEndsX g c es=some es'):∃ l:List End,c=.func g []∧es=l.map eEnd∧l.length≤1000000∧es'=(sortE l).map eEnd:=by
 unfold sortEndsX at h
 split at h
 ·split at h
  ·rename_i hg
   split at h
   ·rename_i hl
    obtain ⟨l,h1,h2⟩:=Option.map_eq_some_iff.1 h
    have:=decAll_eq (fun p x h=>decEnd_eq h) h1
    subst this
    exact ⟨l,by rw [hg],rfl,by simpa using hl,h2.symm⟩
   ·cases h
  ·cases h
 ·cases h
end Go.Proofs.YtioijcfcehhmdaaGreatDoor

namespace Go.Proofs
open Go.Shelf
def Tryz.tz_ren:Go.Shelf.Ren:=⟨fun|29=>150|n=>n,fun|22=>144|3=>3|4=>4|25=>180|54=>204|0=>0|5=>5|n=>n,fun|1=>0|n=>n⟩
theorem Tryz.tz:Go.Proofs.Lays7.n29 Tryz.prog Tryz.tz_ren:={
 mixed:=by kernel_rfl
 f29:=Tryz.func150.trans (congrArg some (by kernel_rfl))
 t0:=Tryz.underlying0
 a0:=Tryz.isAgg0
 z0:=Tryz.sizeOf0
 v0:=Tryz.zeroValue0
 i0:=by kernel_rfl
 t3:=Tryz.underlying3
 a3:=Tryz.isAgg3
 z3:=Tryz.sizeOf3
 v3:=Tryz.zeroValue3
 i3:=by kernel_rfl
 t4:=Tryz.underlying4
 a4:=Tryz.isAgg4
 z4:=Tryz.sizeOf4
 v4:=Tryz.zeroValue4
 i4:=by kernel_rfl
 t5:=Tryz.underlying5
 a5:=Tryz.isAgg5
 z5:=Tryz.sizeOf5
 v5:=Tryz.zeroValue5
 i5:=by kernel_rfl
 t22:=Tryz.underlying144
 a22:=Tryz.isAgg144
 z22:=Tryz.sizeOf144
 v22:=Tryz.zeroValue144
 i22:=by kernel_rfl
 t25:=Tryz.underlying180
 a25:=Tryz.isAgg180
 z25:=Tryz.sizeOf180
 v25:=Tryz.zeroValue180
 i25:=by kernel_rfl
 t54:=Tryz.underlying204
 a54:=Tryz.isAgg204
 z54:=Tryz.sizeOf204
 g1:=by kernel_rfl }
end Go.Proofs

namespace Go.Proofs.YtioijcfcehhmdaaGreatDoor
open Go.RowKit Go.Shelf
def tzX:List PV→Option (List Res)
 |[.int .u64 n]=>if 0≤n∧n<18446744073709551616 then some [(.int .i64 (Lib.ctz 64 n.toNat:Nat),false)] else none
 |_=>none
theorem tab_at {T:Tags} {w:World} (h:GlobOk T w):TabAt 0 Lib.deBruijn64tab w:=fun j hj=>by
 have hp:=h _ (List.mem_singleton.2 rfl)
 obtain ⟨b,off,e1,_,_,h3⟩:=hp.iptr_inv
 obtain ⟨eb,eo⟩:0=b∧0=off+0:=by
  injection e1 with e1
  injection e1 with e1
  injection e1 with e2 e3
  exact ⟨e2,e3⟩
 have eo:off=0:=by omega
 subst eb;subst eo
 obtain ⟨u,c1,_,c2⟩:=h3 j (PV.int .u8 ((Lib.deBruijn64tab[j]:Nat):Int)) (by simp [List.getElem?_eq_getElem hj])
 rw [c2.int_inv] at c1
 rw [show Lib.deBruijn64tab.getD j 0=Lib.deBruijn64tab[j] by simp [List.getD_eq_getElem?_getD,List.getElem?_eq_getElem hj]]
 simpa using c1
theorem tz_ok:∀ args rs,tzX args=some rs→callable Tryz.prog 150=true∧CallOk Tryz.prog 150 args rs:=fun args rs h=>by
 unfold tzX at h
 split at h
 case h_2=>cases h
 rename_i n
 split at h
 case isFalse=>cases h
 rename_i hn
 cases h
 refine ⟨by kernel_rfl,fun T0 w vs h1 h2 h3 h4 hG=>?_⟩
 match vs,h3 with
 |[v],_ =>
  have hv:=(h4 0 _ v rfl rfl).int_inv
  subst hv
  have hc:=Any7.bits_TrailingZeros64 Tryz.tz n.toNat (by omega) w (fun _=>tab_at hG)
  rw [Int.toNat_of_nonneg hn.1] at hc
  refine Calls.mono hc ?_
  rintro e w' ⟨rfl,rfl⟩
  refine ⟨_,T0,rfl,Below.refl _ _,fun _ _=>rfl,h2,#[_],rfl,rfl,fun i r u hr hu=>?_⟩
  match i with
  |0=>cases hr;cases hu;exact .int _ _
  |i+1=>simp at hr
end Go.Proofs.YtioijcfcehhmdaaGreatDoor

namespace Go.Proofs.YtioijcfcehhmdaaGreatDoor
open Go.RowKit Go.ChangeShapes Go.WideShapes Go.ChangeAt
theorem resrep_true {T:Tags} {w:World} {b:Bool} {v:Value} (h:ResRep T w [(.bool b,false)] v):v=.bool b:=by
 obtain ⟨arr,h1,h2,h3⟩:=h
 have ha:arr.size=1:=h1
 have e0:arr[0]?=some arr[0]:=Array.getElem?_eq_getElem (by omega)
 have hv:v=arr[0]:=by rw [h2,if_pos ha,Array.getD_eq_getD_getElem?,e0];rfl
 have hr:PRep (fun b=>T b=.ro) w (.bool b) arr[0]:=h3 0 (.bool b,false) arr[0] rfl e0
 rw [hv]
 exact hr.bool_inv
def GlobIn (w:World):Prop:=GlobOk (fun b=>if b<w.heap.size then .ro else .other) w
theorem calls_true {P:Program} {env:Env} {f:Nat} {args:List PV} {vs:List Value} {w:World} (hE:EnvOk P env) (h:cal env f args=some [(.bool true,false)]) (hl:vs.length=args.length)
  (hr:∀ (i:Nat) x v,args[i]?=some x→vs[i]?=some v→PRep (fun b=>b<w.heap.size) w x v) (hG:GlobIn w):Calls P f vs.toArray w (fun e w'=>e=.returned (.bool true)∧Below w.heap.size w w'):=by
 obtain ⟨n,hn⟩:=vmCall_of_cal h
 have hC:=(vmCall_ok hE hn).2 (fun b=>if b<w.heap.size then .ro else .other) w vs (fun b=>by
  by_cases hb:b<w.heap.size
  ·exact .inl (if_pos hb)
  ·exact .inr (if_neg hb)) (fun b hb=>if_neg (by omega)) hl (fun i x v hx hv=>(hr i x v hx hv).frame fun b hb _=>⟨if_pos hb,rfl⟩) hG
 refine hC.mono ?_
 rintro e w' ⟨v,T',rfl,h1,_,_,h2⟩
 exact ⟨by rw [resrep_true h2],h1⟩
def RepAll (w:World):List PV→List Value→Prop
 |[],[]=>True
 |x :: xs,v :: vs=>PRep (fun b=>b<w.heap.size) w x v∧RepAll w xs vs
 |_,_=>False
theorem RepAll.get {w:World}:∀ {xs:List PV} {vs:List Value},RepAll w xs vs→vs.length=xs.length∧∀ (i:Nat) x v,xs[i]?=some x→vs[i]?=some v→PRep (fun b=>b<w.heap.size) w x v
 |[],[],_=>⟨rfl,fun i x v hx=>by simp at hx⟩
 |x :: xs,v :: vs,h=>by
  obtain ⟨h1,h2⟩:=h
  obtain ⟨k1,k2⟩:=h2.get
  refine ⟨by simp [k1],fun i y u hy hu=>?_⟩
  cases i with
  |zero=>cases hy;cases hu;exact h1
  |succ i=>exact k2 i y u hy hu
 |[],_ :: _,h=>h.elim
 |_ :: _,[],h=>h.elim
theorem calls_all {P:Program} {env:Env} {f:Nat} {args:List PV} {vs:List Value} {w:World} (hE:EnvOk P env) (h:cal env f args=some [(.bool true,false)]) (hr:RepAll w args vs) (hG:GlobIn w:=by exact GlobIn.none):Calls P f vs.toArray w (fun e w'=>e=.returned (.bool true)∧Below w.heap.size w w') :=
 calls_true hE h hr.get.1 hr.get.2 hG
def CRep (w:World) (cs:List Value) (ps:List PV):Prop :=
 cs.length=ps.length∧(∀ c∈cs,c.oneCell'=true)∧∀ (j:Nat) x v,ps[j]?=some x→cs[j]?=some v→PRep (fun b=>b<w.heap.size) w x v
def RdsC (P:Program) (t:TypeId) (n:Nat) (S:List PV→Prop):Prop :=
 P.cellsOf t=n∧∀ {H:Type} {enc:TypeId × Value→H} {w:World} {fuel:Nat} {cs:List Value} {x:DataW H × List MemPlace},DataW.trod enc P w 0 (fun _=>true) true fuel t cs=some x→∃ ps,S ps∧ps.length=n∧CRep w cs ps
def SInt (k:IntKind) (ps:List PV):Prop:=∃ n,(Lit.int k n).wf=true∧ps=[.int k n]
def SBool (ps:List PV):Prop:=∃ b,ps=[.bool b]
def SArr (n:Nat) (S:List PV→Prop) (ps:List PV):Prop:=ps.length=n∧∀ p∈ps,S [p]
def wrS (ps:List PV):PV:=ps.headD .void
def SList (n:Nat) (S:List PV→Prop) (wr:List PV→PV) (ps:List PV):Prop:=∃ es,ps=[.list n es]∧∀ x∈es,∃ q,S q∧x=wr q
def SCat:List (List PV→Prop)→List PV→Prop
 |[],ps=>ps=[]
 |S :: Ss,ps=>∃ p q,ps=p++q∧S p∧SCat Ss q
section
variable {P:Program} {t e:TypeId} {n m:Nat} {S:List PV→Prop} {k:IntKind}
theorem crep_one {w:World} {c:Value} {p:PV} (hc:c.oneCell'=true) (h:PRep (fun b=>b<w.heap.size) w p c):CRep w [c] [p] :=
 ⟨rfl,fun x hx=>by rw [List.mem_singleton.1 hx];exact hc,fun j x v hx hv=>by
  cases j with
  |zero=>cases hx;cases hv;exact h
  |succ j=>simp at hx⟩
theorem RdsC.int (ht:P.underlying t=some (.int k)) (hc:P.cellsOf t=1):RdsC P t 1 (SInt k):=⟨hc,fun h=>by
 obtain ⟨n,rfl,_,hw⟩:=DataW.trod_int ht h
 exact ⟨[.int k n],⟨n,hw,rfl⟩,rfl,crep_one rfl (.int k n)⟩⟩
theorem RdsC.bool (ht:P.underlying t=some .bool) (hc:P.cellsOf t=1):RdsC P t 1 SBool:=⟨hc,fun h=>by
 obtain ⟨b,rfl,_⟩:=DataW.trod_bool ht h
 exact ⟨[.bool b],⟨b,rfl⟩,rfl,crep_one rfl (.bool b)⟩⟩
theorem each_pick {α:Type} {p:Nat→α→Prop}:∀ n:Nat,(∀ i,i<n→∃ y,p i y)→∃ l:List α,l.length=n∧∀ i x,l[i]?=some x→p i x
 |0,_=>⟨[],rfl,fun i x h=>by simp at h⟩
 |n+1,h=>by
  obtain ⟨l,h1,h2⟩:=each_pick n fun i hi=>h i (by omega)
  obtain ⟨y,hy⟩:=h n (by omega)
  refine ⟨l++[y],by simp [h1],fun i x hx=>?_⟩
  by_cases hi:i<n
  ·rw [List.getElem?_append_left (by omega)] at hx;exact h2 i x hx
  ·have:=(List.getElem?_eq_some_iff.1 hx).1
   obtain rfl:i=n:=by simp at this;omega
   rw [List.getElem?_append_right (by omega),h1,Nat.sub_self] at hx
   cases hx
   exact hy
theorem RdsC.arr (ht:P.underlying t=some (.array n e)) (he:RdsC P e 1 S) (hc:P.cellsOf t=n):RdsC P t n (SArr n S):=⟨hc,fun {H enc w fuel cs x} h=>by
 obtain ⟨xs,m,_,_,hl,hx,hE⟩:=DataW.trod_array ht h
 rw [hc] at hl
 obtain ⟨l,h1,h2⟩:=each_pick (p:=fun i (b:PV)=>S [b]∧∃ c,cs[i]?=some c∧c.oneCell'=true∧PRep (fun b=>b<w.heap.size) w b c) n fun i hi=>by
  have:=hE i hi
  rw [List.getElem?_eq_getElem (by omega),he.1] at this
  obtain ⟨ps,g1,g2,g3,g4,g5⟩:=he.2 this
  match ps,g2 with
  |[p],_ =>
   have hci:cs[i]?=some cs[i]:=List.getElem?_eq_getElem (by omega)
   have h0:((cs.drop (i * 1)).take 1)[0]?=some cs[i]:=by
    rw [List.getElem?_take,if_pos (by decide),List.getElem?_drop]
    simpa using hci
   exact ⟨p,g1,cs[i],hci,g4 _ (List.mem_of_getElem? h0),g5 0 p _ rfl h0⟩
 refine ⟨l,⟨h1,fun p hp=>?_⟩,h1,by omega,fun c hc=>?_,fun j x v hx hv=>?_⟩
 ·obtain ⟨i,hi⟩:=List.mem_iff_getElem?.1 hp
  exact (h2 i p hi).1
 ·obtain ⟨i,hi⟩:=List.mem_iff_getElem?.1 hc
  have hil:i<l.length:=by
   have:=(List.getElem?_eq_some_iff.1 hi).1
   omega
  obtain ⟨_,c',e1,e2,_⟩:=h2 i l[i] (List.getElem?_eq_getElem hil)
  rw [hi] at e1;cases e1;exact e2
 ·obtain ⟨_,c',e1,_,e3⟩:=h2 j x hx
  rw [hv] at e1;cases e1;exact e3⟩
theorem cellish_of {w:World} {b off:Nat} {v:Value} (h:w.cell? ⟨b,off,none⟩=some v):Cellish w b:=by
 unfold World.cell? at h
 split at h
 ·rename_i arr E q hb
  exact ⟨arr,E,q,hb⟩
 ·cases h
theorem RdsC.list {wr:List PV→PV} (ht:P.underlying t=some (.slice e)) (hc:P.cellsOf t=1) (hr:RdsC P e n S) (hpos:0<n) (hw:∀ ps,S ps→ps.length=n→(wr ps).cells=ps):RdsC P t 1 (SList n S wr):=⟨hc,fun {H enc w fuel cs x} h=>by
 rcases DataW.trod_slice ht h with ⟨rfl,_⟩|⟨a,len,cap,elems,rest,m,_,rfl,_,_,hl,hm,hel,hE,hR,_⟩
 ·exact ⟨[.list n []],⟨[],rfl,fun x hx=>by cases hx⟩,rfl,crep_one rfl (.nil n none)⟩
 ·obtain ⟨l,h1,h2⟩:=each_pick (p:=fun i (y:List Value × List PV)=>w.cells? 0 (a.add (i * n)) n=some y.1∧S y.2∧y.2.length=n∧CRep w y.1 y.2) len fun i hi=>by
   have:=hE i hi
   rw [List.getElem?_eq_getElem (by omega),hr.1,Option.bind_eq_some_iff] at this
   obtain ⟨c,h3,h4⟩:=this
   obtain ⟨ps,g1,g2,g3⟩:=hr.2 h4
   exact ⟨(c,ps),h3,g1,g2,g3⟩
  refine ⟨[.list n (l.map fun y=>wr y.2)],⟨_,rfl,fun x hx=>?_⟩,rfl,crep_one rfl ?_⟩
  ·obtain ⟨y,hy,rfl⟩:=List.mem_map.1 hx
   obtain ⟨i,hi⟩:=List.mem_iff_getElem?.1 hy
   exact ⟨y.2,(h2 i y hi).2.1,rfl⟩
  ·by_cases hcap:cap=0
   ·have:len=0:=by omega
    subst hcap;subst this
    have:l=[]:=List.eq_nil_of_length_eq_zero h1
    subst this
    exact .nil n (some a)
   ·-- there are cells
    have hcell:∃ off v,w.cell? ⟨a.block,off,none⟩=some v∧a.spot=none:=by
     have fromc:∀ (i:Nat) (c:List Value),w.cells? 0 (a.add (i * n)) n=some c→∃ off v,w.cell? ⟨a.block,off,none⟩=some v∧a.spot=none:=fun i c h3=>by
      obtain ⟨_,hc0,h4⟩:=World.cells?_some h3
      have h5:=h4 0 hpos
      rw [List.getElem?_eq_getElem (by omega)] at h5
      have hs:(a.add (i * n)).spot=none:=by simpa [Addr.add] using World.cell?_spot h5
      have hs0:a.spot=none:=by
       unfold Addr.add at hs
       split at hs
       ·exact hs
       ·rename_i hne
        by_cases h0:i * n=0
        ·rename_i q;exact absurd h0 (by simpa using hne)
        ·rcases Nat.eq_zero_or_pos i with hi0|hi0
         ·subst hi0;simp at h0
         ·-- the row begins at a: its first cell
          have:0<len∨len=0:=by omega
          rcases this with hlen|hlen
          ·obtain ⟨y,hy⟩:∃ y,l[0]?=some y:=⟨l[0],List.getElem?_eq_getElem (by omega)⟩
           obtain ⟨_,hc1,h6⟩:=World.cells?_some (h2 0 y hy).1
           have h7:=h6 0 hpos
           rw [List.getElem?_eq_getElem (by omega)] at h7
           simpa [Addr.add] using World.cell?_spot h7
          ·have hrl:0<rest.length:=by have:=(hR rfl).1;omega
           have:=(hR rfl).2 0 (by omega)
           have h8:rest[0]?=some rest[0]:=List.getElem?_eq_getElem hrl
           rw [h8,hr.1,hlen,Option.bind_eq_some_iff] at this
           obtain ⟨c1,h9,_⟩:=this
           obtain ⟨_,hc1,h6⟩:=World.cells?_some h9
           have h7:=h6 0 hpos
           rw [List.getElem?_eq_getElem (by omega)] at h7
           simpa [Addr.add] using World.cell?_spot h7
      obtain ⟨b,off,spot⟩:=a
      simp only at hs0
      subst hs0
      rw [Addr.add_lit,Addr.add_lit] at h5
      exact ⟨_,_,h5,rfl⟩
     rcases Nat.eq_zero_or_pos len with hlen|hlen
     ·have hrl:0<rest.length:=by have:=(hR rfl).1;omega
      have:=(hR rfl).2 0 (by omega)
      have h8:rest[0]?=some rest[0]:=List.getElem?_eq_getElem hrl
      rw [h8,hr.1,Option.bind_eq_some_iff] at this
      obtain ⟨c1,h9,_⟩:=this
      exact fromc _ c1 h9
     ·obtain ⟨y,hy⟩:∃ y,l[0]?=some y:=⟨l[0],List.getElem?_eq_getElem (by omega)⟩
      exact fromc 0 _ (h2 0 y hy).1
    obtain ⟨off0,v0,hv0,hspot⟩:=hcell
    obtain ⟨b,off,spot⟩:=a
    simp only at hspot hv0
    subst hspot
    have hC:Cellish w b:=cellish_of hv0
    have hget:∀ (i:Nat) x,(l.map fun y=>wr y.2)[i]?=some x→∃ y,l[i]?=some y∧x=wr y.2:=fun i x hx=>by
     rw [List.getElem?_map] at hx
     cases e:l[i]? with
     |none=>rw [e] at hx;cases hx
     |some y=>rw [e] at hx;exact ⟨y,rfl,(Option.some.inj hx).symm⟩
    have hlen:(l.map fun y=>wr y.2).length=len:=by simp [h1]
    have:=PRep.list (ok:=fun b=>b<w.heap.size) (w:=w) n (l.map fun y=>wr y.2) b off cap (fun i j=>(((l[i]?).map (·.1)).getD []).getD j default) hC.lt hC (by rw [hlen];exact hl) hm
     (fun x hx=>by
      obtain ⟨i,hi⟩:=List.mem_iff_getElem?.1 hx
      obtain ⟨y,hy,rfl⟩:=hget i x hi
      obtain ⟨_,g1,g2,_⟩:=h2 i y hy
      rw [hw _ g1 g2,g2])
     (fun i x j p hi hj=>by
      obtain ⟨y,hy,rfl⟩:=hget i x hi
      obtain ⟨g0,g1,g2,g3,g4,g5⟩:=h2 i y hy
      rw [hw _ g1 g2] at hj
      have hjn:j<n:=by have:=(List.getElem?_eq_some_iff.1 hj).1;omega
      obtain ⟨_,hc1,h6⟩:=World.cells?_some g0
      have h7:=h6 j hjn
      have hcj:y.1[j]?=some y.1[j]:=List.getElem?_eq_getElem (by omega)
      have hd:(((l[i]?).map (·.1)).getD []).getD j default=y.1[j]:=by
       rw [hy];simp [List.getD_eq_getElem?_getD,hcj]
      rw [hd]
      rw [hcj,Addr.add_lit,Addr.add_lit] at h7
      exact ⟨h7,g4 _ (List.mem_of_getElem? hcj)⟩)
     (fun i x j p hi hj=>by
      obtain ⟨y,hy,rfl⟩:=hget i x hi
      obtain ⟨g0,g1,g2,g3,g4,g5⟩:=h2 i y hy
      rw [hw _ g1 g2] at hj
      have hjn:j<n:=by have:=(List.getElem?_eq_some_iff.1 hj).1;omega
      have hcj:y.1[j]?=some y.1[j]:=List.getElem?_eq_getElem (by omega)
      have hd:(((l[i]?).map (·.1)).getD []).getD j default=y.1[j]:=by
       rw [hy];simp [List.getD_eq_getElem?_getD,hcj]
      rw [hd]
      exact g5 j p _ hj hcj)
    rw [hlen] at this
    exact this⟩
theorem CRep.append {w:World} {c1 c2:List Value} {p1 p2:List PV} (h1:CRep w c1 p1) (h2:CRep w c2 p2):CRep w (c1++c2) (p1++p2):=by
 obtain ⟨a1,a2,a3⟩:=h1
 obtain ⟨b1,b2,b3⟩:=h2
 refine ⟨by simp [a1,b1],fun c hc=>?_,fun j x v hx hv=>?_⟩
 ·rcases List.mem_append.1 hc with h|h
  ·exact a2 c h
  ·exact b2 c h
 ·by_cases hj:j<p1.length
  ·rw [List.getElem?_append_left hj] at hx
   rw [List.getElem?_append_left (by omega)] at hv
   exact a3 j x v hx hv
  ·rw [List.getElem?_append_right (by omega)] at hx
   rw [List.getElem?_append_right (by omega),a1] at hv
   exact b3 _ x v hx hv
inductive Flds (P:Program):Nat→List Field→List (List PV→Prop)→Nat→Prop
 |nil (o:Nat):Flds P o [] [] 0
 |cons {o n m:Nat} {f:Field} {fs:List Field} {S:List PV→Prop} {Ss:List (List PV→Prop)}:f.offset=o→RdsC P f.type n S→Flds P (o+n) fs Ss m→Flds P o (f :: fs) (S :: Ss) (n+m)
theorem Flds.read {o:Nat} {fs:List Field} {Ss:List (List PV→Prop)} (h:Flds P o fs Ss m) {H:Type} {enc:TypeId × Value→H} {w:World} {fuel:Nat} {cs:List Value} {xs:List (DataW H × List MemPlace)} (hl:cs.length=o+m)
  (hx:∀ (i:Nat) (f:Field),fs[i]?=some f→∃ x,DataW.trod enc P w 0 (fun _=>true) true fuel f.type ((cs.drop f.offset).take (P.cellsOf f.type))=some x):∃ ps,SCat Ss ps∧ps.length=m∧CRep w (cs.drop o) ps:=by
 induction h with
 |nil o=>exact ⟨[],rfl,rfl,by rw [List.drop_of_length_le (by omega)];exact (⟨rfl,fun c hc=>(by cases hc),fun j x v hx=>(by simp at hx)⟩:CRep w [] [])⟩
 |@cons o n m f fs S Ss h1 h2 h3 ih =>
  obtain ⟨x,h4⟩:=hx 0 f rfl
  rw [h2.1,h1] at h4
  obtain ⟨p,g1,g2,g3⟩:=h2.2 h4
  obtain ⟨q,k1,k2,k3⟩:=ih (by omega) (fun i f hf=>hx (i+1) f hf)
  refine ⟨p++q,⟨p,q,rfl,g1,k1⟩,by simp [g2,k2],?_⟩
  have:cs.drop o=(cs.drop o).take n++cs.drop (o+n):=by rw [← List.drop_drop,List.take_append_drop]
  rw [this]
  exact g3.append k3
theorem RdsC.struct {fs:Array Field} {Ss:List (List PV→Prop)} (ht:P.underlying t=some (.struct fs)) (hf:Flds P 0 fs.toList Ss n) (hc:P.cellsOf t=n):RdsC P t n (SCat Ss):=⟨hc,fun {H enc w fuel cs x} h=>by
 obtain ⟨xs,m,_,_,hl,hx,hE⟩:=DataW.trod_struct ht h
 obtain ⟨ps,h1,h2,h3⟩:=hf.read (xs:=xs) (enc:=enc) (w:=w) (fuel:=m) (cs:=cs) (by omega) (fun i f hi=>by
  have hi':fs[i]?=some f:=by simpa using hi
  have:=hE i f hi'
  have hil:i<xs.length:=by rw [hx];exact (Array.getElem?_eq_some_iff.1 hi').1
  exact ⟨xs[i],by rw [this,List.getElem?_eq_getElem hil]⟩)
 exact ⟨ps,h1,h2,by simpa using h3⟩⟩
theorem RdsC.struct3 {f0 f1 f2:Field} {n0 n1 n2:Nat} {S0 S1 S2:List PV→Prop} (ht:P.underlying t=some (.struct #[f0,f1,f2])) (h0:RdsC P f0.type n0 S0) (h1:RdsC P f1.type n1 S1) (h2:RdsC P f2.type n2 S2) (o0:f0.offset=0) (o1:f1.offset=0+n0) (o2:f2.offset=0+n0+n1) (hc:P.cellsOf t=n0+(n1+(n2+0))):RdsC P t (n0+(n1+(n2+0))) (SCat [S0,S1,S2]) :=
 RdsC.struct ht (show Flds P 0 [f0,f1,f2] [S0,S1,S2] (n0+(n1+(n2+0))) from .cons o0 h0 (.cons o1 h1 (.cons o2 h2 (.nil _)))) hc
theorem RdsC.struct4 {f0 f1 f2 f3:Field} {n0 n1 n2 n3:Nat} {S0 S1 S2 S3:List PV→Prop} (ht:P.underlying t=some (.struct #[f0,f1,f2,f3])) (h0:RdsC P f0.type n0 S0) (h1:RdsC P f1.type n1 S1) (h2:RdsC P f2.type n2 S2) (h3:RdsC P f3.type n3 S3) (o0:f0.offset=0) (o1:f1.offset=0+n0) (o2:f2.offset=0+n0+n1) (o3:f3.offset=0+n0+n1+n2) (hc:P.cellsOf t=n0+(n1+(n2+(n3+0)))):RdsC P t (n0+(n1+(n2+(n3+0)))) (SCat [S0,S1,S2,S3]) :=
 RdsC.struct ht (show Flds P 0 [f0,f1,f2,f3] [S0,S1,S2,S3] (n0+(n1+(n2+(n3+0)))) from .cons o0 h0 (.cons o1 h1 (.cons o2 h2 (.cons o3 h3 (.nil _))))) hc
theorem arg_agg {H:Type} {enc:TypeId × Value→H} {w:World} {arr:Array Value} {d:DataW H} {p:List MemPlace} (hr:RdsC P t n S) (h:DataW.Trod enc P w 0 (fun _=>true) true t (.agg arr) d p) :
  ∃ ps,S ps∧PRep (fun b=>b<w.heap.size) w (.agg ps) (.agg arr):=by
 obtain ⟨fuel,hf⟩:=h
 obtain ⟨ps,h1,h2,h3,h4,h5⟩:=hr.2 hf
 have hc:(Value.agg arr).cells=arr:=rfl
 rw [hc] at h3 h4 h5
 refine ⟨ps,h1,.agg ps arr (by simpa using h3) (fun j v hv=>h4 v (List.mem_of_getElem? (i:=j) (by simpa using hv))) (fun j x v hx hv=>h5 j x v hx (by simpa using hv))⟩
theorem arg_struct {H:Type} {enc:TypeId × Value→H} {w:World} {v:Value} {d:DataW H} {p:List MemPlace} {m:Reach} {base:Nat} {fs:Array Field} (ht:P.underlying t=some (.struct fs)) (hr:RdsC P t n S) (hv:Value.okWide P w m base t v) (h:DataW.Trod enc P w 0 (fun _=>true) true t v d p) :
  ∃ ps,S ps∧PRep (fun b=>b<w.heap.size) w (.agg ps) v:=by
 simp only [Value.okWide,ht] at hv
 obtain ⟨cs,rfl,_,_⟩:=hv
 exact arg_agg hr h
end
end Go.Proofs.YtioijcfcehhmdaaGreatDoor

namespace Go.Proofs.YtioijcfcehhmdaaGreatDoor
def demandX:List PV→Option (Option (Nat × Int))
 |[.bool true,.int .i64 _]=>some none
 |[.bool false,.int .i64 n]=>some (some (148,n))
 |_=>none
end Go.Proofs.YtioijcfcehhmdaaGreatDoor

namespace Go.Proofs.YtioijcfcehhmdaaGreatDoor
def fn8_b0:VCode:=(.seq (.ops [.bin 98 .lss (.t 97) (.t 96)]) (.seq (.cond (.t 98) .skip (.exit 2)) (.seq (.block 3 (.seq (.ops [.iadr 99 3 (.t 95) (.t 97),.load 100 (some 3) (.t 99),.alloc 17 [(.int .i64 0),(.int .i64 0),(.list 0 [])],.store none 3 (.t 17) (.t 100)]) (.seq (.ops [.fadr 101 (.t 17) 0,.load 102 none (.t 101),.mov 103 (.t 14),.bin 104 .eql (.t 102) (.t 103)]) (.cond (.t 104) (.ops [.mov 105 (.t 15),.fadr 106 (.t 17) 1,.load 107 none (.t 106),.fadr 108 (.t 17) 2,.load 109 none (.t 108),.len 110 (.t 109),.build 111 [(.int .i64 0),(.int .i64 0)] [(0,1,(.t 107)),(1,1,(.t 110))],.mksl 112 2 [(.t 111)],.app 113 2 (.t 105) (.t 112),.asg 15 (.t 113)]) .skip)))) (.ops [.bin 114 .add (.t 97) (.c (.int .i64 1)),.mov 97 (.t 114)]))))
def fn8_l1:VCode :=
(.clean [7,9,11,13,14,15,33,41,78,80,81,95,96,97,113] [2,7,9,11,13,14,15,33,41,78,80,81,113] (.block 2 (.loop [7,9,11,13,14,15,33,41,78,80,81,95,96,97,113] fn8_b0)))
def fn8_b2:VCode:=(.seq (.ops [.bin 82 .lss (.t 81) (.t 80)]) (.seq (.cond (.t 82) .skip (.exit 0)) (.seq (.block 1 (.seq (.ops [.mov 83 (.t 81),.asg 14 (.t 83)]) (.seq (.seq (.drw [] [([0,1,2,3,4,5,6,7],8)] none [9,10] [.mov 84 (.t 9),.mov 85 (.t 14),.iadr 86 1 (.t 84) (.t 85),.load 87 none (.t 86),.mov 88 (.t 7),.mov 89 (.t 14),.iadr 90 1 (.t 88) (.t 89),.load 91 none (.t 90),.call 92 31 [(.t 87),(.t 91)],.len 93 (.t 92),.bin 94 .gtr (.t 93) (.c (.int .i64 0))]) (.cond (.t 94) (.seq (.ops [.asg 2 (.c (.bool false))]) .ret) .skip)) (.seq (.ops [.asg 15 (.nil 2)]) (.seq (.seq (.ops [.mov 95 (.t 13),.len 96 (.t 95),.mov 97 (.c (.int .i64 0))])
     fn8_l1) (.seq (.drw [] [([0,1,2,3,4],5),([],6)] none [7] [.mov 115 (.t 7),.mov 116 (.t 14),.iadr 117 1 (.t 115) (.t 116),.load 118 none (.t 117),.mov 119 (.t 15),.call 120 33 [(.t 119),(.nil 2)],.call 121 32 [(.t 118),(.t 120)],.un 122 .not (.t 121)]) (.cond (.t 122) (.seq (.ops [.asg 2 (.c (.bool false))]) .ret) .skip))))))) (.ops [.bin 123 .add (.t 81) (.c (.int .i64 1)),.mov 81 (.t 123)]))))
def fn8_l3:VCode :=
(.clean [7,9,11,13,33,41,78,80,81,113] [2,7,9,11] (.block 0 (.loop [7,9,11,13,33,41,78,80,81,113] fn8_b2)))
def fn8:VFn:=⟨1,137,[.tmp 2],(.seq (.ops [.box 1 (.t 0),.asg 2 (.c (.bool false))]) (.seq (.seq (.ops [.load 18 (some 4) (.t 1),.call 19 22 [(.t 18)],.un 20 .not (.t 19)]) (.cond (.t 20) (.seq (.ops [.call 21 11 [],.asg 2 (.t 21)]) .ret) .skip)) (.seq (.ops [.load 23 (some 4) (.t 1),.call 24 23 [(.t 23)],.mov 22 (.t 24),.ext 25 (.t 22) 0,.ext 26 (.t 22) 1,.ext 27 (.t 22) 2,.alloc 3 [(.int .i64 0),(.list 0 []),(.list 0 []),(.list 0 [])],.alloc 4 [(.int .i64 0),(.list 0 []),(.list 0 []),(.list 0 [])],.store none 4 (.t 3) (.t 25),.store none 4 (.t 4) (.t 26),.asg 5 (.t 27)]) (.seq (.ops [.load 29 (some 4) (.t 3),.load 30 (some 4) (.t 4),.call 31 24 [(.t 29),(.t 30),(.c (.int .i64 3))],.mov 28 (.t 31),.ext 32 (.t 28) 0,.ext 33 (.t 28) 1,.ext 34 (.t 28) 2,.alloc 6 [(.int .i64 0),(.int .i64 0),(.int .i64 0),(.int .i64 0),(.int .i64 0),(.int .i64 0),(.bool false),(.bool false)],.store none 8 (.t 6) (.t 32),.asg 7 (.t 33),.asg 8 (.t 34)]) (.seq (.ops [.fadr 36 (.t 3) 3,.load 37 none (.t 36),.fadr 38 (.t 4) 3,.load 39 none (.t 38),.call 40 30 [(.t 37),(.t 39)],.mov 35 (.t 40),.ext 41 (.t 35) 0,.ext 42 (.t 35) 1,.asg 9 (.t 41),.asg 10 (.t 42)]) (.seq (.ops [.fadr 44 (.t 3) 3,.load 45 none (.t 44),.fadr 46 (.t 4) 3,.load 47 none (.t 46),.call 48 17 [(.t 45),(.t 47)],.mov 43 (.t 48),.ext 49 (.t 43) 0,.ext 50 (.t 43) 1,.asg 11 (.t 49),.asg 12 (.t 50)]) (.seq (.seq (.ops [.mov 51 (.t 5),.un 52 .not (.t 51),.mov 53 (.t 52),.grd 53 false (.mov 54 (.t 8)),.grd 53 false (.bin 55 .neq (.t 54) (.c (.int .i64 0))),.pick 56 (.t 53) (.c (.bool true)) (.t 55),.mov 57 (.t 56),.grd 57 false (.mov 58 (.t 10)),.grd 57 false (.bin 59 .neq (.t 58) (.c (.int .i64 0))),.pick 60 (.t 57) (.c (.bool true)) (.t 59),.mov 61 (.t 60),.grd 61 false (.mov 62 (.t 12)),.grd 61 false (.bin 63 .neq (.t 62) (.c (.int .i64 0))),.pick 64 (.t 61) (.c (.bool true)) (.t 63),.mov 65 (.t 64),.grd 65 false (.mov 66 (.t 7)),.grd 65 false (.len 67 (.t 66)),.grd 65 false (.mov 68 (.t 9)),.grd 65 false (.len 69 (.t 68)),.grd 65 false (.bin 70 .neq (.t 67) (.t 69)),.pick 71 (.t 65) (.c (.bool true)) (.t 70)]) (.cond (.t 71) (.seq (.ops [.asg 2 (.c (.bool false))]) .ret) .skip)) (.seq (.drw [(.t 1)] [([1,2,4,5],0)] (some ([],[],3,[([],6)])) [7] [.fadr 73 (.t 1) 1,.load 74 none (.t 73),.fadr 76 (.t 1) 2,.ldz 77 none (.t 76),.mksl 72 3 [],.app 75 3 (.t 72) (.t 74),.app 78 3 (.t 75) (.t 77),.asg 13 (.t 78)]) (.seq (.seq (.ops [.mov 79 (.t 7),.len 80 (.t 79),.mov 81 (.c (.int .i64 0))])
      fn8_l3) (.seq (.ops [.mov 124 (.t 11),.mov 125 (.t 9),.call 126 34 [(.t 125)],.bin 127 .eql (.t 124) (.t 126),.mov 128 (.t 127),.grd 128 true (.mov 129 (.t 11)),.grd 128 true (.mov 130 (.t 7)),.grd 128 true (.call 131 34 [(.t 130)]),.grd 128 true (.bin 132 .leq (.t 129) (.t 131)),.pick 133 (.t 128) (.t 132) (.c (.bool false)),.mov 134 (.t 133),.grd 134 true (.call 135 11 []),.pick 136 (.t 134) (.t 135) (.c (.bool false)),.asg 2 (.t 136)]) .ret))))))))))⟩
def fn11:VFn:=⟨0,208,[.tmp 0],(.seq (.ops [.asg 0 (.c (.bool false))]) (.seq (.ops [.mksl 29 1 [(.c (.int .i64 3))],.asg 1 (.t 29)]) (.seq (.ops [.mov 31 (.t 1),.call 32 43 [(.c (.int .i64 0)),(.c (.int .u8 1))],.mksl 33 3 [(.t 32)],.call 34 39 [(.t 31),(.t 33)],.mov 30 (.t 34),.ext 35 (.t 30) 0,.ext 36 (.t 30) 1,.asg 2 (.t 35),.asg 3 (.t 36)]) (.seq (.ops [.mov 38 (.t 1),.call 39 43 [(.c (.int .i64 2)),(.c (.int .u8 2))],.mksl 40 3 [(.t 39)],.call 41 39 [(.t 38),(.t 40)],.mov 37 (.t 41),.ext 42 (.t 37) 0,.ext 43 (.t 37) 1,.asg 4 (.t 42),.asg 5 (.t 43)]) (.seq (.ops [.mov 45 (.t 1),.call 46 43 [(.c (.int .i64 0)),(.c (.int .u8 1))],.call 47 43 [(.c (.int .i64 2)),(.c (.int .u8 2))],.mksl 48 3 [(.t 46),(.t 47)],.call 49 39 [(.t 45),(.t 48)],.mov 44 (.t 49),.ext 50 (.t 44) 0,.ext 51 (.t 44) 1,.asg 6 (.t 50),.asg 7 (.t 51)]) (.seq (.ops [.mov 53 (.t 1),.call 54 43 [(.c (.int .i64 1)),(.c (.int .u8 3))],.mksl 55 3 [(.t 54)],.call 56 39 [(.t 53),(.t 55)],.mov 52 (.t 56),.ext 57 (.t 52) 0,.ext 58 (.t 52) 1,.asg 8 (.t 57),.asg 9 (.t 58)]) (.seq (.ops [.build 59 [(.int .u8 0),(.int .u8 0),(.int .u8 0),(.int .u8 0),(.int .u8 0),(.int .u8 0),(.int .u8 0),(.int .u8 0)] [(0,1,(.c (.int .u8 1)))],.build 60 [(.int .u8 0),(.int .u8 0),(.int .u8 0),(.int .u8 0),(.int .u8 0),(.int .u8 0),(.int .u8 0),(.int .u8 0)] [],.build 61 [(.int .u8 0),(.int .u8 0),(.int .u8 0),(.int .u8 0),(.int .u8 0),(.int .u8 0),(.int .u8 0),(.int .u8 0)] [],.mksl 62 8 [(.t 59),(.t 60),(.t 61)],.mksl 63 1 [(.t 62)],.build 64 [(.int .u8 0),(.int .u8 0),(.int .u8 0),(.int .u8 0),(.int .u8 0),(.int .u8 0),(.int .u8 0),(.int .u8 0)] [],.build 65 [(.int .u8 0),(.int .u8 0),(.int .u8 0),(.int .u8 0),(.int .u8 0),(.int .u8 0),(.int .u8 0),(.int .u8 0)] [],.build 66 [(.int .u8 0),(.int .u8 0),(.int .u8 0),(.int .u8 0),(.int .u8 0),(.int .u8 0),(.int .u8 0),(.int .u8 0)] [(0,1,(.c (.int .u8 2)))],.mksl 67 8 [(.t 64),(.t 65),(.t 66)],.mksl 68 1 [(.t 67)],.build 69 [(.int .u8 0),(.int .u8 0),(.int .u8 0),(.int .u8 0),(.int .u8 0),(.int .u8 0),(.int .u8 0),(.int .u8 0)] [],.build 70 [(.int .u8 0),(.int .u8 0),(.int .u8 0),(.int .u8 0),(.int .u8 0),(.int .u8 0),(.int .u8 0),(.int .u8 0)] [(0,1,(.c (.int .u8 3)))],.build 71 [(.int .u8 0),(.int .u8 0),(.int .u8 0),(.int .u8 0),(.int .u8 0),(.int .u8 0),(.int .u8 0),(.int .u8 0)] [(0,1,(.c (.int .u8 2)))],.mksl 72 8 [(.t 69),(.t 70),(.t 71)],.mksl 73 1 [(.t 72)],.asg 10 (.t 63),.asg 11 (.t 68),.asg 12 (.t 73)]) (.seq (.ops [.mov 75 (.t 10),.mov 76 (.t 2),.call 77 44 [(.t 75),(.t 76)],.mov 78 (.t 11),.mov 79 (.t 4),.call 80 45 [(.t 78),(.t 79)],.call 81 24 [(.t 77),(.t 80),(.c (.int .i64 3))],.mov 74 (.t 81),.ext 82 (.t 74) 0,.ext 83 (.t 74) 1,.ext 84 (.t 74) 2,.alloc 13 [(.int .i64 0),(.int .i64 0),(.int .i64 0),(.int .i64 0),(.int .i64 0),(.int .i64 0),(.bool false),(.bool false)],.store none 8 (.t 13) (.t 82),.asg 14 (.t 83),.asg 15 (.t 84)]) (.seq (.seq (.ops [.mov 85 (.t 15),.bin 86 .neq (.t 85) (.c (.int .i64 0)),.mov 87 (.t 86),.grd 87 false (.fadr 88 (.t 13) 5),.grd 87 false (.load 89 none (.t 88)),.grd 87 false (.bin 90 .neq (.t 89) (.c (.int .i64 5))),.pick 91 (.t 87) (.c (.bool true)) (.t 90),.mov 92 (.t 91),.grd 92 false (.fadr 93 (.t 13) 4),.grd 92 false (.load 94 none (.t 93)),.grd 92 false (.bin 95 .neq (.t 94) (.c (.int .i64 3))),.pick 96 (.t 92) (.c (.bool true)) (.t 95),.mov 97 (.t 96),.grd 97 false (.mov 98 (.t 14)),.grd 97 false (.build 99 [(.int .i64 0),(.int .i64 0)] [(0,1,(.c (.int .i64 0))),(1,1,(.c (.int .i64 1)))]),.grd 97 false (.build 100 [(.int .i64 0),(.int .i64 0)] [(0,1,(.c (.int .i64 2))),(1,1,(.c (.int .i64 1)))]),.grd 97 false (.mksl 101 2 [(.t 99),(.t 100)]),.grd 97 false (.mksl 102 1 [(.t 101)]),.grd 97 false (.call 103 27 [(.t 98),(.t 102)]),.grd 97 false (.un 104 .not (.t 103)),.pick 105 (.t 97) (.c (.bool true)) (.t 104)]) (.cond (.t 105) (.seq (.ops [.asg 0 (.c (.bool false))]) .ret) .skip)) (.seq (.drs [] [2,8,10,11,12,13,15,16,35,57,63,68,73] [.load 107 (some 8) (.t 13),.mov 108 (.t 11),.mov 109 (.t 6),.call 110 45 [(.t 108),(.t 109)],.call 111 12 [(.t 107),(.t 110),(.c (.int .i64 10)),(.c (.int .i64 0))],.mov 106 (.t 111),.ext 112 (.t 106) 0,.ext 113 (.t 106) 1,.ext 114 (.t 106) 2,.alloc 16 [(.int .i64 0),(.int .i64 0),(.int .i64 0),(.list 1 []),(.list 3 [])],.store none 8 (.t 13) (.t 112),.store none 5 (.t 16) (.t 113),.asg 15 (.t 114)]
      [⟨[([0,1,2],3),([],4),([5,6,7,8],9)],(some ([],[],10,[([],11)])),[12],[0,1,2,3,4,5,6,7,8,9,10,11,12],false⟩,⟨[([0,1,2],3),([],9),([],4)],(some ([5,6],[7,8],10,[([],11)])),[12],[0,1,2,3,9,4,5,6,7,8,10,11,12],false⟩,⟨[([0,1,2],9),([],3),([],4)],(some ([5,6],[7,8],10,[([],11)])),[12],[0,1,2,9,3,4,5,6,7,8,10,11,12],false⟩]) (.seq (.ops [.mov 116 (.t 10),.load 117 (some 5) (.t 16),.call 118 36 [(.t 116),(.t 117)],.mov 115 (.t 118),.ext 119 (.t 115) 0,.ext 120 (.t 115) 1,.asg 17 (.t 119),.asg 18 (.t 120)]) (.seq (.drs [] [2,8,10,11,12,13,15,16,17,18,20,35,57,63,68,73,119] [.load 122 (some 8) (.t 13),.mov 123 (.t 17),.mov 124 (.t 2),.call 125 44 [(.t 123),(.t 124)],.mov 126 (.t 12),.mov 127 (.t 8),.call 128 45 [(.t 126),(.t 127)],.call 129 15 [(.t 122),(.t 125),(.t 128)],.mov 121 (.t 129),.ext 130 (.t 121) 0,.ext 131 (.t 121) 1,.alloc 19 [(.int .i64 0),(.int .i64 0),(.int .i64 0),(.int .i64 0),(.int .i64 0),(.int .i64 0),(.bool false),(.bool false)],.store none 8 (.t 19) (.t 130),.asg 20 (.t 131)]
       [⟨[([0,1,2,4,5],3),([],6),([],7),([8,9,10],11)],(some ([],[],12,[])),[13],[0,1,2,4,5,3,6,7,8,9,10,11,12,13],false⟩,⟨[([0,1,2,4,5],3),([],6),([],11),([],7)],(some ([8,9],[10],12,[])),[13],[0,1,2,4,5,3,6,11,7,8,9,10,12,13],false⟩,⟨[([0,1,2,4,5],3),([],11),([],6),([],7)],(some ([8,9],[10],12,[])),[13],[0,1,2,4,5,3,11,6,7,8,9,10,12,13],false⟩,⟨[([0,1,2,4,5],11),([],3),([],6),([],7)],(some ([8,9],[10],12,[])),[13],[0,1,2,4,5,11,3,6,7,8,9,10,12,13],false⟩]) (.seq (.drs [] [2,8,10,11,12,13,15,16,17,18,20,21,22,35,57,63,68,73,119] [.load 133 (some 8) (.t 13),.mov 134 (.t 12),.mov 135 (.t 8),.call 136 45 [(.t 134),(.t 135)],.call 137 12 [(.t 133),(.t 136),(.c (.int .i64 11)),(.c (.int .i64 0))],.mov 132 (.t 137),.ext 138 (.t 132) 0,.ext 139 (.t 132) 1,.ext 140 (.t 132) 2,.alloc 21 [(.int .i64 0),(.int .i64 0),(.int .i64 0),(.list 1 []),(.list 3 [])],.store none 8 (.t 13) (.t 138),.store none 5 (.t 21) (.t 139),.asg 22 (.t 140)]
        [⟨[([0,1,2],3),([],4),([5,6,7,8],9)],(some ([],[],10,[([],11)])),[12],[0,1,2,3,4,5,6,7,8,9,10,11,12],false⟩,⟨[([0,1,2],3),([],9),([],4)],(some ([5,6],[7,8],10,[([],11)])),[12],[0,1,2,3,9,4,5,6,7,8,10,11,12],false⟩,⟨[([0,1,2],9),([],3),([],4)],(some ([5,6],[7,8],10,[([],11)])),[12],[0,1,2,9,3,4,5,6,7,8,10,11,12],false⟩]) (.seq (.ops [.mov 142 (.t 17),.load 143 (some 5) (.t 21),.call 144 36 [(.t 142),(.t 143)],.mov 141 (.t 144),.ext 145 (.t 141) 0,.ext 146 (.t 141) 1,.asg 23 (.t 145),.asg 24 (.t 146)]) (.seq (.drs [] [10,11,12,15,16,18,20,21,22,23,24,25,26,63,68,73,145] [.load 148 (some 8) (.t 13),.mov 149 (.t 23),.mov 150 (.t 2),.call 151 44 [(.t 149),(.t 150)],.mov 152 (.t 12),.mov 153 (.t 8),.call 154 45 [(.t 152),(.t 153)],.call 155 15 [(.t 148),(.t 151),(.t 154)],.mov 147 (.t 155),.ext 156 (.t 147) 0,.ext 157 (.t 147) 1,.alloc 25 [(.int .i64 0),(.int .i64 0),(.int .i64 0),(.int .i64 0),(.int .i64 0),(.int .i64 0),(.bool false),(.bool false)],.store none 8 (.t 25) (.t 156),.asg 26 (.t 157)]
         [⟨[([0,1,2,4,5],3),([],6),([],7),([8,9,10],11)],(some ([],[],12,[])),[13],[0,1,2,4,5,3,6,7,8,9,10,11,12,13],false⟩,⟨[([0,1,2,4,5],3),([],6),([],11),([],7)],(some ([8,9],[10],12,[])),[13],[0,1,2,4,5,3,6,11,7,8,9,10,12,13],false⟩,⟨[([0,1,2,4,5],3),([],11),([],6),([],7)],(some ([8,9],[10],12,[])),[13],[0,1,2,4,5,3,11,6,7,8,9,10,12,13],false⟩,⟨[([0,1,2,4,5],11),([],3),([],6),([],7)],(some ([8,9],[10],12,[])),[13],[0,1,2,4,5,11,3,6,7,8,9,10,12,13],false⟩]) (.seq (.ops [.mov 159 (.t 10),.mov 160 (.t 11),.call 161 17 [(.t 159),(.t 160)],.mov 158 (.t 161),.ext 162 (.t 158) 0,.ext 163 (.t 158) 1,.asg 27 (.t 162),.asg 28 (.t 163)]) (.seq (.seq (.ops [.mov 164 (.t 15),.mov 165 (.t 18),.bin 166 .add (.t 164) (.t 165),.mov 167 (.t 22),.bin 168 .add (.t 166) (.t 167),.mov 169 (.t 24),.bin 170 .add (.t 168) (.t 169),.mov 171 (.t 26),.bin 172 .add (.t 170) (.t 171),.mov 173 (.t 28),.bin 174 .add (.t 172) (.t 173),.bin 175 .neq (.t 174) (.c (.int .i64 0)),.mov 176 (.t 175),.grd 176 false (.mov 177 (.t 20)),.grd 176 false (.bin 178 .neq (.t 177) (.c (.int .i64 22))),.pick 179 (.t 176) (.c (.bool true)) (.t 178),.mov 180 (.t 179),.grd 180 false (.fadr 181 (.t 16) 0),.grd 180 false (.load 182 none (.t 181)),.grd 180 false (.bin 183 .neq (.t 182) (.c (.int .i64 5))),.pick 184 (.t 180) (.c (.bool true)) (.t 183),.mov 185 (.t 184),.grd 185 false (.fadr 186 (.t 21) 0),.grd 185 false (.load 187 none (.t 186)),.grd 185 false (.bin 188 .neq (.t 187) (.c (.int .i64 10))),.pick 189 (.t 185) (.c (.bool true)) (.t 188)]) (.cond (.t 189) (.seq (.ops [.asg 0 (.c (.bool false))]) .ret) .skip)) (.seq (.ops [.fadr 190 (.t 25) 6,.load 191 none (.t 190),.mov 192 (.t 191),.grd 192 true (.mov 193 (.t 23)),.grd 192 true (.mov 194 (.t 12)),.grd 192 true (.call 195 37 [(.t 193),(.t 194)]),.pick 196 (.t 192) (.t 195) (.c (.bool false)),.mov 197 (.t 196),.grd 197 true (.load 198 (some 5) (.t 16)),.grd 197 true (.load 199 (some 5) (.t 21)),.grd 197 true (.mksl 200 5 [(.t 198),(.t 199)]),.grd 197 true (.call 201 20 [(.t 200)]),.grd 197 true (.bin 202 .eql (.t 201) (.c (.int .i64 3))),.pick 203 (.t 197) (.t 202) (.c (.bool false)),.mov 204 (.t 203),.grd 204 true (.mov 205 (.t 27)),.grd 204 true (.bin 206 .eql (.t 205) (.c (.int .i64 2))),.pick 207 (.t 204) (.t 206) (.c (.bool false)),.asg 0 (.t 207)]) .ret))))))))))))))))))⟩
def fn12_b0:VCode:=(.seq (.ops [.bin 71 .lss (.t 70) (.t 69)]) (.seq (.cond (.t 71) .skip (.exit 0)) (.seq (.block 1 (.seq (.ops [.iadr 72 1 (.t 68) (.t 70),.load 73 none (.t 72),.asg 16 (.t 73)]) (.ops [.mov 74 (.t 14),.mov 75 (.t 16),.len 76 (.t 75),.mksl 77 1 [(.t 76)],.app 78 1 (.t 74) (.t 77),.asg 14 (.t 78)]))) (.ops [.bin 79 .add (.t 70) (.c (.int .i64 1)),.mov 70 (.t 79)]))))
def fn12_l1:VCode :=
(.clean [2,8,9,10,11,14,68,69,70,78] [2,8,9,10,11,14] (.block 0 (.loop [2,8,9,10,11,14,68,69,70,78] fn12_b0)))
def fn12:DFn:=⟨4,96,[.cell 8 (some 8),.cell 9 (some 5),.cell 10 none],(.ops [.box 4 (.t 0),.box 5 (.t 1),.alloc 8 [(.int .i64 0),(.int .i64 0),(.int .i64 0),(.int .i64 0),(.int .i64 0),(.int .i64 0),(.bool false),(.bool false)],.alloc 9 [(.int .i64 0),(.int .i64 0),(.int .i64 0),(.list 1 []),(.list 3 [])],.alloc 10 [(.int .i64 0)]]),(.seq (.ops [.load 18 (some 8) (.t 4),.build 19 [(.int .i64 0),(.int .i64 0),(.int .i64 0),(.int .i64 0),(.int .i64 0),(.int .i64 0),(.bool false),(.bool false)] [(0,8,(.t 18))],.alloc 11 [(.int .i64 0),(.int .i64 0),(.int .i64 0),(.int .i64 0),(.int .i64 0),(.int .i64 0),(.bool false),(.bool false)],.store none 8 (.t 11) (.t 19)]) (.seq (.dem [.load 20 (some 8) (.t 11)] 21 48 [(.t 20)]) (.seq (.dem [.load 22 (some 4) (.t 5),.call 23 50 [(.t 22)]] 24 49 [(.t 23)]) (.seq (.dem [.fadr 25 (.t 5) 0,.load 26 none (.t 25),.fadr 27 (.t 11) 0,.fadr 28 (.t 27) 1,.load 29 none (.t 28),.bin 30 .eql (.t 26) (.t 29)] 31 51 [(.t 30),(.c (.int .i64 1))]) (.seq (.dem [.fadr 32 (.t 11) 0,.fadr 33 (.t 32) 6,.load 34 none (.t 33),.un 35 .not (.t 34)] 36 51 [(.t 35),(.c (.int .i64 12))]) (.seq (.dem [.fadr 37 (.t 11) 0,.fadr 38 (.t 37) 3,.load 39 none (.t 38),.bin 40 .lss (.t 39) (.c (.int .i64 4096))] 41 51 [(.t 40),(.c (.int .i64 11))]) (.seq (.ops [.fadr 43 (.t 5) 1,.load 44 none (.t 43),.call 45 52 [(.t 44)],.mov 42 (.t 45),.ext 46 (.t 42) 0,.ext 47 (.t 42) 1,.asg 12 (.t 46),.asg 13 (.t 47)]) (.seq (.dem [.mov 48 (.t 2),.fadr 49 (.t 11) 0,.fadr 50 (.t 49) 5,.load 51 none (.t 50),.bin 52 .gtr (.t 48) (.t 51),.mov 53 (.t 52),.grd 53 true (.mov 54 (.t 2)),.grd 53 true (.mov 55 (.t 13)),.grd 53 true (.bin 56 .geq (.t 54) (.t 55)),.pick 57 (.t 53) (.t 56) (.c (.bool false))] 58 51 [(.t 57),(.c (.int .i64 2))]) (.seq (.drw [] [([0,1,2,3,4,5],6)] (some ([7],[],8,[])) [] [.fadr 59 (.t 11) 0,.fadr 60 (.t 59) 5,.load 61 none (.t 60),.mov 62 (.t 2),.mov 63 (.t 3),.load 64 (some 4) (.t 5),.call 65 53 [(.t 64)],.build 66 [(.int .i64 0),(.int .i64 0),(.int .i64 0),(.list 1 []),(.list 3 [])] [(0,1,(.t 61)),(1,1,(.t 62)),(2,1,(.t 63)),(4,1,(.t 65))],.store none 5 (.t 9) (.t 66)]) (.seq (.ops [.asg 14 (.nil 1)]) (.seq (.seq (.ops [.fadr 67 (.t 5) 3,.load 68 none (.t 67),.len 69 (.t 68),.mov 70 (.c (.int .i64 0))])
       fn12_l1) (.seq (.dem [.load 80 (some 5) (.t 9),.mov 81 (.t 14),.call 82 54 [(.t 80),(.t 81)]] 83 49 [(.t 82)]) (.seq (.ops [.fadr 84 (.t 11) 0,.fadr 85 (.t 84) 3,.load 86 none (.t 85),.bin 87 .add (.t 86) (.c (.int .i64 1)),.fadr 88 (.t 11) 0,.fadr 89 (.t 88) 3,.store none 1 (.t 89) (.t 87)]) (.seq (.ops [.mov 90 (.t 2),.fadr 91 (.t 11) 0,.fadr 92 (.t 91) 5,.store none 1 (.t 92) (.t 90)]) (.seq (.drs [] [8,9,10] [.fadr 93 (.t 11) 0,.load 94 (some 8) (.t 93),.load 95 (some 5) (.t 9),.store none 8 (.t 8) (.t 94),.store none 5 (.t 9) (.t 95),.store none 1 (.t 10) (.c (.int .i64 0))] [⟨[],(some ([0,1],[],3,[([2],4),([],5)])),[],[0,1,3,2,4,5],false⟩,⟨[([0,1],2)],(some ([],[],3,[([],4),([],5)])),[],[0,1,2,3,4,5],false⟩]) .ret))))))))))))))),
148,10,47,(some (17,46,[(8,[(.int .i64 0),(.int .i64 0),(.int .i64 0),(.int .i64 0),(.int .i64 0),(.int .i64 0),(.bool false),(.bool false)]),(9,[(.int .i64 0),(.int .i64 0),(.int .i64 0),(.list 1 []),(.list 3 [])])]))⟩
def fn15_b0:VCode:=(.seq (.ops [.bin 21 .lss (.t 20) (.t 19)]) (.seq (.cond (.t 21) .skip (.exit 0)) (.seq (.block 1 (.seq (.ops [.iadr 22 4 (.t 18) (.t 20),.load 23 (some 4) (.t 22),.alloc 10 [(.int .i64 0),(.list 0 []),(.list 0 []),(.list 0 [])],.store none 4 (.t 10) (.t 23)]) (.dem [.load 24 (some 4) (.t 10),.call 25 50 [(.t 24)]] 26 49 [(.t 25)]))) (.ops [.bin 27 .add (.t 20) (.c (.int .i64 1)),.mov 20 (.t 27)]))))
def fn15_l1:VCode :=
(.clean [4,5,6,7,8,18,19,20] [4,5,6,7,8] (.block 0 (.loop [4,5,6,7,8,18,19,20] fn15_b0)))
def fn15:DFn:=⟨3,64,[.cell 6 (some 8),.cell 7 none],(.ops [.box 3 (.t 0),.box 4 (.t 1),.box 5 (.t 2),.alloc 6 [(.int .i64 0),(.int .i64 0),(.int .i64 0),(.int .i64 0),(.int .i64 0),(.int .i64 0),(.bool false),(.bool false)],.alloc 7 [(.int .i64 0)]]),(.seq (.ops [.load 12 (some 8) (.t 3),.build 13 [(.int .i64 0),(.int .i64 0),(.int .i64 0),(.int .i64 0),(.int .i64 0),(.int .i64 0),(.bool false),(.bool false)] [(0,8,(.t 12))],.alloc 8 [(.int .i64 0),(.int .i64 0),(.int .i64 0),(.int .i64 0),(.int .i64 0),(.int .i64 0),(.bool false),(.bool false)],.store none 8 (.t 8) (.t 13)]) (.seq (.dem [.load 14 (some 8) (.t 8)] 15 48 [(.t 14)]) (.seq (.seq (.ops [.load 16 (some 4) (.t 4),.load 17 (some 4) (.t 5),.mksl 18 4 [(.t 16),(.t 17)],.len 19 (.t 18),.mov 20 (.c (.int .i64 0))])
   fn15_l1) (.seq (.dem [.fadr 28 (.t 4) 0,.load 29 none (.t 28),.fadr 30 (.t 8) 0,.fadr 31 (.t 30) 2,.load 32 none (.t 31),.bin 33 .eql (.t 29) (.t 32),.mov 34 (.t 33),.grd 34 true (.fadr 35 (.t 5) 0),.grd 34 true (.load 36 none (.t 35)),.grd 34 true (.fadr 37 (.t 8) 0),.grd 34 true (.fadr 38 (.t 37) 1),.grd 34 true (.load 39 none (.t 38)),.grd 34 true (.bin 40 .eql (.t 36) (.t 39)),.pick 41 (.t 34) (.t 40) (.c (.bool false))] 42 51 [(.t 41),(.c (.int .i64 1))]) (.seq (.dem [.fadr 43 (.t 8) 0,.fadr 44 (.t 43) 6,.load 45 none (.t 44),.un 46 .not (.t 45),.mov 47 (.t 46),.grd 47 true (.fadr 48 (.t 8) 0),.grd 47 true (.fadr 49 (.t 48) 3),.grd 47 true (.load 50 none (.t 49)),.grd 47 true (.bin 51 .gtr (.t 50) (.c (.int .i64 0))),.pick 52 (.t 47) (.t 51) (.c (.bool false))] 53 51 [(.t 52),(.c (.int .i64 12))]) (.seq (.dem [.fadr 54 (.t 4) 3,.load 55 none (.t 54),.fadr 56 (.t 5) 3,.load 57 none (.t 56),.call 58 37 [(.t 55),(.t 57)]] 59 51 [(.t 58),(.c (.int .i64 22))]) (.seq (.ops [.fadr 60 (.t 8) 0,.fadr 61 (.t 60) 6,.store none 1 (.t 61) (.c (.bool true))]) (.seq (.ops [.fadr 62 (.t 8) 0,.load 63 (some 8) (.t 62),.store none 8 (.t 6) (.t 63),.store none 1 (.t 7) (.c (.int .i64 0))]) .ret)))))))),
148,7,47,(some (11,62,[(6,[(.int .i64 0),(.int .i64 0),(.int .i64 0),(.int .i64 0),(.int .i64 0),(.int .i64 0),(.bool false),(.bool false)])]))⟩
def fn17_b0:VCode:=(.seq (.ops [.bin 31 .lss (.t 30) (.t 29)]) (.seq (.cond (.t 31) .skip (.exit 2)) (.seq (.block 3 (.seq (.ops [.iadr 32 2 (.t 28) (.t 30),.load 33 (some 2) (.t 32),.alloc 12 [(.int .i64 0),(.int .i64 0)],.store none 2 (.t 12) (.t 33)]) (.ops [.mov 34 (.t 8),.fadr 35 (.t 12) 1,.load 36 none (.t 35),.bin 37 .add (.t 34) (.t 36),.asg 8 (.t 37)]))) (.ops [.bin 38 .add (.t 30) (.c (.int .i64 1)),.mov 30 (.t 38)]))))
def fn17_l1:VCode :=
(.clean [6,8,10,17,22,23,24,27,28,29,30] [4,5,6,8,17,22,23,24] (.block 2 (.loop [6,8,10,17,22,23,24,27,28,29,30] fn17_b0)))
def fn17_b2:VCode:=(.seq (.ops [.bin 25 .lss (.t 24) (.t 23)]) (.seq (.cond (.t 25) .skip (.exit 0)) (.seq (.block 1 (.seq (.ops [.iadr 26 1 (.t 22) (.t 24),.load 27 none (.t 26),.asg 10 (.t 27)]) (.seq (.ops [.mov 28 (.t 10),.len 29 (.t 28),.mov 30 (.c (.int .i64 0))])
    fn17_l1))) (.ops [.bin 39 .add (.t 24) (.c (.int .i64 1)),.mov 24 (.t 39)]))))
def fn17_l3:VCode :=
(.clean [6,8,17,22,23,24] [4,5,8] (.block 0 (.loop [6,8,17,22,23,24] fn17_b2)))
def fn17:VFn:=⟨2,41,[.tmp 4,.tmp 5],(.seq (.ops [.asg 4 (.c (.int .i64 0)),.asg 5 (.c (.int .i64 0))]) (.seq (.ops [.mov 14 (.t 0),.mov 15 (.t 1),.call 16 30 [(.t 14),(.t 15)],.mov 13 (.t 16),.ext 17 (.t 13) 0,.ext 18 (.t 13) 1,.asg 6 (.t 17),.asg 7 (.t 18)]) (.seq (.seq (.ops [.mov 19 (.t 7),.bin 20 .neq (.t 19) (.c (.int .i64 0))]) (.cond (.t 20) (.seq (.ops [.mov 21 (.t 7),.asg 4 (.c (.int .i64 0)),.asg 5 (.t 21)]) .ret) .skip)) (.seq (.ops [.asg 8 (.c (.int .i64 0))]) (.seq (.seq (.ops [.mov 22 (.t 6),.len 23 (.t 22),.mov 24 (.c (.int .i64 0))])
    fn17_l3) (.seq (.ops [.mov 40 (.t 8),.asg 4 (.t 40),.asg 5 (.c (.int .i64 0))]) .ret))))))⟩
def fn20_b0:VCode:=(.seq (.ops [.bin 9 .lss (.t 8) (.t 7)]) (.seq (.cond (.t 9) .skip (.exit 0)) (.seq (.block 1 (.seq (.ops [.iadr 10 5 (.t 6) (.t 8),.load 11 (some 5) (.t 10),.alloc 5 [(.int .i64 0),(.int .i64 0),(.int .i64 0),(.list 1 []),(.list 3 [])],.store none 5 (.t 5) (.t 11)]) (.ops [.mov 12 (.t 3),.fadr 13 (.t 5) 4,.load 14 none (.t 13),.call 15 66 [(.t 14)],.bin 16 .add (.t 12) (.t 15),.asg 3 (.t 16)]))) (.ops [.bin 17 .add (.t 8) (.c (.int .i64 1)),.mov 8 (.t 17)]))))
def fn20_l1:VCode :=
(.clean [0,3,6,7,8] [2,3] (.block 0 (.loop [0,3,6,7,8] fn20_b0)))
def fn20:VFn:=⟨1,19,[.tmp 2],(.seq (.ops [.asg 2 (.c (.int .i64 0))]) (.seq (.ops [.asg 3 (.c (.int .i64 0))]) (.seq (.seq (.ops [.mov 6 (.t 0),.len 7 (.t 6),.mov 8 (.c (.int .i64 0))])
   fn20_l1) (.seq (.ops [.mov 18 (.t 3),.asg 2 (.t 18)]) .ret))))⟩
def fn22_b0:VCode:=(.seq (.ops [.bin 30 .lss (.t 29) (.t 28)]) (.seq (.cond (.t 30) .skip (.exit 0)) (.seq (.block 1 (.seq (.ops [.iadr 31 1 (.t 27) (.t 29),.load 32 none (.t 31),.asg 5 (.t 32)]) (.seq (.ops [.fadr 34 (.t 1) 0,.load 35 none (.t 34),.mov 36 (.t 5),.call 37 38 [(.t 35),(.t 36)],.mov 33 (.t 37),.ext 38 (.t 33) 0,.ext 39 (.t 33) 1,.ext 40 (.t 33) 2,.asg 6 (.t 38),.asg 7 (.t 39),.asg 8 (.t 40)]) (.seq (.ops [.mov 41 (.t 8),.bin 42 .neq (.t 41) (.c (.int .i64 0)),.mov 43 (.t 42),.grd 43 false (.mov 44 (.t 5)),.grd 43 false (.call 45 65 [(.t 44)]),.grd 43 false (.un 46 .not (.t 45)),.pick 47 (.t 43) (.c (.bool true)) (.t 46)]) (.cond (.t 47) (.seq (.ops [.asg 2 (.c (.bool false))]) .ret) .skip))))) (.ops [.bin 48 .add (.t 29) (.c (.int .i64 1)),.mov 29 (.t 48)]))))
def fn22_l1:VCode :=
(.clean [1,3,16,27,28,29] [2] (.block 0 (.loop [1,3,16,27,28,29] fn22_b0)))
def fn22:VFn:=⟨1,49,[.tmp 2],(.seq (.ops [.box 1 (.t 0),.asg 2 (.c (.bool false))]) (.seq (.ops [.fadr 9 (.t 1) 1,.load 10 none (.t 9),.fadr 11 (.t 1) 2,.load 12 none (.t 11),.mksl 13 1 [(.t 10),(.t 12)],.fadr 14 (.t 1) 3,.load 15 none (.t 14),.apb 16 (.t 13) (.t 15),.asg 3 (.t 16)]) (.seq (.seq (.ops [.fadr 17 (.t 1) 0,.load 18 none (.t 17),.call 19 42 [(.t 18)],.un 20 .not (.t 19),.mov 21 (.t 20),.grd 21 false (.fadr 22 (.t 1) 3),.grd 21 false (.load 23 none (.t 22)),.grd 21 false (.len 24 (.t 23)),.grd 21 false (.bin 25 .gtr (.t 24) (.c (.int .i64 8))),.pick 26 (.t 21) (.c (.bool true)) (.t 25)]) (.cond (.t 26) (.seq (.ops [.asg 2 (.c (.bool false))]) .ret) .skip)) (.seq (.seq (.ops [.mov 27 (.t 3),.len 28 (.t 27),.mov 29 (.c (.int .i64 0))])
   fn22_l1) (.seq (.ops [.asg 2 (.c (.bool true))]) .ret)))))⟩
def fn23:VFn:=⟨1,67,[.cell 2 (some 4),.cell 3 (some 4),.tmp 4],(.seq (.ops [.box 1 (.t 0),.alloc 2 [(.int .i64 0),(.list 0 []),(.list 0 []),(.list 0 [])],.alloc 3 [(.int .i64 0),(.list 0 []),(.list 0 []),(.list 0 [])],.asg 4 (.c (.bool false))]) (.seq (.ops [.fadr 16 (.t 1) 0,.load 17 none (.t 16),.fadr 18 (.t 1) 1,.load 19 none (.t 18),.call 20 38 [(.t 17),(.t 19)],.mov 15 (.t 20),.ext 21 (.t 15) 0,.ext 22 (.t 15) 1,.ext 23 (.t 15) 2,.asg 5 (.t 21),.asg 6 (.t 22),.asg 7 (.t 23)]) (.seq (.ops [.fadr 25 (.t 1) 0,.load 26 none (.t 25),.fadr 27 (.t 1) 2,.load 28 none (.t 27),.call 29 38 [(.t 26),(.t 28)],.mov 24 (.t 29),.ext 30 (.t 24) 0,.ext 31 (.t 24) 1,.ext 32 (.t 24) 2,.asg 8 (.t 30),.asg 9 (.t 31),.asg 10 (.t 32)]) (.seq (.drw [] [([0,2,3],1),([],4)] none [5,6,7,8,9] [.load 34 (some 4) (.t 1),.fadr 36 (.t 1) 1,.load 37 none (.t 36),.call 35 40 [(.t 34)],.call 38 39 [(.t 35),(.t 37)],.mov 33 (.t 38),.ext 39 (.t 33) 0,.ext 40 (.t 33) 1,.asg 11 (.t 39),.asg 12 (.t 40)]) (.seq (.drw [] [([0,2,3],1),([],4)] none [5,6,7,8,9] [.load 42 (some 4) (.t 1),.fadr 44 (.t 1) 2,.load 45 none (.t 44),.call 43 40 [(.t 42)],.call 46 39 [(.t 43),(.t 45)],.mov 41 (.t 46),.ext 47 (.t 41) 0,.ext 48 (.t 41) 1,.asg 13 (.t 47),.asg 14 (.t 48)]) (.seq (.ops [.mov 49 (.t 5),.mov 50 (.t 11),.call 51 44 [(.t 49),(.t 50)],.mov 52 (.t 8),.mov 53 (.t 13),.call 54 45 [(.t 52),(.t 53)],.mov 55 (.t 12),.mov 56 (.t 55),.grd 56 true (.mov 57 (.t 14)),.pick 58 (.t 56) (.t 57) (.c (.bool false)),.mov 59 (.t 58),.grd 59 true (.mov 60 (.t 7)),.grd 59 true (.bin 61 .eql (.t 60) (.c (.int .i64 0))),.pick 62 (.t 59) (.t 61) (.c (.bool false)),.mov 63 (.t 62),.grd 63 true (.mov 64 (.t 10)),.grd 63 true (.bin 65 .eql (.t 64) (.c (.int .i64 0))),.pick 66 (.t 63) (.t 65) (.c (.bool false)),.store none 4 (.t 2) (.t 51),.store none 4 (.t 3) (.t 54),.asg 4 (.t 66)]) .ret))))))⟩
def fn24:DFn:=⟨3,80,[.cell 6 (some 8),.cell 7 none,.cell 8 none],(.ops [.box 3 (.t 0),.box 4 (.t 1),.alloc 6 [(.int .i64 0),(.int .i64 0),(.int .i64 0),(.int .i64 0),(.int .i64 0),(.int .i64 0),(.bool false),(.bool false)],.alloc 7 [(.list 1 [])],.alloc 8 [(.int .i64 0)]]),(.seq (.ops [.load 18 (some 4) (.t 3),.load 19 (some 4) (.t 4),.call 20 69 [(.t 18),(.t 19)],.mov 17 (.t 20),.ext 21 (.t 17) 0,.ext 22 (.t 17) 1,.store none 1 (.t 7) (.t 21),.asg 9 (.t 22)]) (.seq (.dem [.mov 23 (.t 9)] 24 49 [(.t 23)]) (.seq (.dem [.fadr 25 (.t 3) 0,.load 26 none (.t 25),.call 27 70 [(.t 26)],.mov 28 (.t 27),.grd 28 true (.fadr 29 (.t 4) 0),.grd 28 true (.load 30 none (.t 29)),.grd 28 true (.call 31 70 [(.t 30)]),.pick 32 (.t 28) (.t 31) (.c (.bool false))] 33 51 [(.t 32),(.c (.int .i64 2))]) (.seq (.dem [.fadr 34 (.t 3) 0,.load 35 none (.t 34),.fadr 36 (.t 4) 0,.load 37 none (.t 36),.bin 38 .neq (.t 35) (.t 37)] 39 51 [(.t 38),(.c (.int .i64 1))]) (.seq (.ops [.fadr 41 (.t 3) 1,.load 42 none (.t 41),.call 43 52 [(.t 42)],.mov 40 (.t 43),.ext 44 (.t 40) 0,.ext 45 (.t 40) 1,.asg 10 (.t 44),.asg 11 (.t 45)]) (.seq (.ops [.fadr 47 (.t 4) 1,.load 48 none (.t 47),.call 49 52 [(.t 48)],.mov 46 (.t 49),.ext 50 (.t 46) 0,.ext 51 (.t 46) 1,.asg 12 (.t 50),.asg 13 (.t 51)]) (.seq (.dem [.mov 52 (.t 2),.mov 53 (.t 10),.bin 54 .gtr (.t 52) (.t 53),.mov 55 (.t 54),.grd 55 true (.mov 56 (.t 2)),.grd 55 true (.mov 57 (.t 12)),.grd 55 true (.bin 58 .gtr (.t 56) (.t 57)),.pick 59 (.t 55) (.t 58) (.c (.bool false))] 60 51 [(.t 59),(.c (.int .i64 13))]) (.seq (.dem [.mov 61 (.t 2),.bin 62 .leq (.t 61) (.c (.int .i64 1073741824))] 63 51 [(.t 62),(.c (.int .i64 2))]) (.seq (.ops [.fadr 65 (.t 3) 1,.load 66 none (.t 65),.fadr 67 (.t 4) 1,.load 68 none (.t 67),.call 69 71 [(.t 66),(.t 68)],.mov 64 (.t 69),.ext 70 (.t 64) 0,.ext 71 (.t 64) 1,.asg 14 (.t 70),.asg 15 (.t 71)]) (.seq (.drs [] [6,7,8] [.fadr 72 (.t 4) 0,.load 73 none (.t 72),.fadr 74 (.t 3) 0,.load 75 none (.t 74),.mov 76 (.t 2),.mov 77 (.t 14),.build 78 [(.int .i64 0),(.int .i64 0),(.int .i64 0),(.int .i64 0),(.int .i64 0),(.int .i64 0),(.bool false),(.bool false)] [(0,1,(.c (.int .i64 3))),(1,1,(.t 73)),(2,1,(.t 75)),(4,1,(.t 76)),(5,1,(.t 77))],.load 79 none (.t 7),.store none 8 (.t 6) (.t 78),.store none 1 (.t 7) (.t 79),.store none 1 (.t 8) (.c (.int .i64 0))] [⟨[],(some ([0,1,2,3,4,5,6],[],8,[([7],9),([],10)])),[],[0,1,2,3,4,5,6,8,7,9,10],false⟩,⟨[([0,1,2,3,4,5,6],7)],(some ([],[],8,[([],9),([],10)])),[],[0,1,2,3,4,5,6,7,8,9,10],false⟩]) .ret)))))))))),
148,8,47,(some (16,68,[(6,[(.int .i64 0),(.int .i64 0),(.int .i64 0),(.int .i64 0),(.int .i64 0),(.int .i64 0),(.bool false),(.bool false)]),(7,[(.list 1 [])])]))⟩
def fn27_b0:VCode:=(.seq (.seq (.ops [.mov 11 (.t 5),.mov 12 (.t 0),.len 13 (.t 12),.bin 14 .lss (.t 11) (.t 13)]) (.cond (.t 14) .skip (.exit 0))) (.seq (.block 1 (.seq (.drw [] [([0,1,2,3,4,5,6,7],8)] none [9] [.mov 17 (.t 0),.mov 18 (.t 5),.iadr 19 1 (.t 17) (.t 18),.load 20 none (.t 19),.mov 21 (.t 1),.mov 22 (.t 5),.iadr 23 1 (.t 21) (.t 22),.load 24 none (.t 23),.call 25 75 [(.t 20),(.t 24)],.un 26 .not (.t 25)]) (.cond (.t 26) (.seq (.ops [.asg 4 (.c (.bool false))]) .ret) .skip))) (.ops [.mov 15 (.t 5),.bin 16 .add (.t 15) (.c (.int .i64 1)),.asg 5 (.t 16)])))
def fn27_l1:VCode :=
(.clean [0,1,5] [4] (.block 0 (.loop [0,1,5] fn27_b0)))
def fn27:VFn:=⟨2,27,[.tmp 4],(.seq (.ops [.asg 4 (.c (.bool false))]) (.seq (.seq (.ops [.mov 6 (.t 0),.len 7 (.t 6),.mov 8 (.t 1),.len 9 (.t 8),.bin 10 .neq (.t 7) (.t 9)]) (.cond (.t 10) (.seq (.ops [.asg 4 (.c (.bool false))]) .ret) .skip)) (.seq (.seq (.ops [.asg 5 (.c (.int .i64 0))])
   fn27_l1) (.seq (.ops [.asg 4 (.c (.bool true))]) .ret))))⟩
def fn30_b0:VCode:=(.seq (.ops [.bin 18 .lss (.t 17) (.t 16)]) (.seq (.cond (.t 18) .skip (.exit 0)) (.seq (.block 1 (.seq (.ops [.mov 19 (.t 17),.asg 8 (.t 19)]) (.drw [] [([0,1,2,3,4,5,6,7,8],9),([],10)] (some ([],[],11,[])) [12] [.mov 20 (.t 7),.mov 21 (.t 0),.mov 22 (.t 8),.iadr 23 1 (.t 21) (.t 22),.load 24 none (.t 23),.mov 25 (.t 1),.mov 26 (.t 8),.iadr 27 1 (.t 25) (.t 26),.load 28 none (.t 27),.call 29 77 [(.t 24),(.t 28)],.mksl 30 1 [(.t 29)],.app 31 1 (.t 20) (.t 30),.asg 7 (.t 31)]))) (.ops [.bin 32 .add (.t 17) (.c (.int .i64 1)),.mov 17 (.t 32)]))))
def fn30_l1:VCode :=
(.clean [0,1,7,16,17,31] [4,5,7] (.block 0 (.loop [0,1,7,16,17,31] fn30_b0)))
def fn30:VFn:=⟨2,34,[.tmp 4,.tmp 5],(.seq (.ops [.asg 4 (.nil 1),.asg 5 (.c (.int .i64 0))]) (.seq (.seq (.ops [.mov 9 (.t 0),.mov 10 (.t 1),.call 11 76 [(.t 9),(.t 10)],.asg 6 (.t 11)]) (.seq (.ops [.mov 12 (.t 6),.bin 13 .neq (.t 12) (.c (.int .i64 0))]) (.cond (.t 13) (.seq (.ops [.mov 14 (.t 6),.asg 4 (.nil 1),.asg 5 (.t 14)]) .ret) .skip))) (.seq (.ops [.asg 7 (.nil 1)]) (.seq (.seq (.ops [.mov 15 (.t 0),.len 16 (.t 15),.mov 17 (.c (.int .i64 0))])
   fn30_l1) (.seq (.ops [.mov 33 (.t 7),.asg 4 (.t 33),.asg 5 (.c (.int .i64 0))]) .ret)))))⟩
def fn31:VFn:=⟨2,9,[.tmp 4],(.seq (.ops [.asg 4 (.nil 2)]) (.seq (.ops [.mov 5 (.t 0),.mov 6 (.t 1),.call 7 79 [(.t 5),(.t 6),(.c (.func 80 []))],.call 8 78 [(.t 7)],.asg 4 (.t 8)]) .ret))⟩
def fn32:VFn:=⟨2,10,[.tmp 4],(.seq (.ops [.asg 4 (.c (.bool false))]) (.seq (.ops [.mov 5 (.t 0),.mksl 6 1 [(.t 5)],.mov 7 (.t 1),.mksl 8 1 [(.t 7)],.call 9 27 [(.t 6),(.t 8)],.asg 4 (.t 9)]) .ret))⟩
def fn33:VFn:=⟨2,9,[.tmp 4],(.seq (.ops [.asg 4 (.nil 2)]) (.seq (.ops [.mov 5 (.t 0),.mov 6 (.t 1),.call 7 79 [(.t 5),(.t 6),(.c (.func 81 []))],.call 8 78 [(.t 7)],.asg 4 (.t 8)]) .ret))⟩
def fn34_b0:VCode:=(.seq (.ops [.bin 9 .lss (.t 8) (.t 7)]) (.seq (.cond (.t 9) .skip (.exit 0)) (.seq (.block 1 (.seq (.ops [.iadr 10 1 (.t 6) (.t 8),.load 11 none (.t 10),.asg 5 (.t 11)]) (.ops [.mov 12 (.t 3),.mov 13 (.t 5),.call 14 82 [(.t 13)],.bin 15 .add (.t 12) (.t 14),.asg 3 (.t 15)]))) (.ops [.bin 16 .add (.t 8) (.c (.int .i64 1)),.mov 8 (.t 16)]))))
def fn34_l1:VCode :=
(.clean [0,3,6,7,8] [2,3] (.block 0 (.loop [0,3,6,7,8] fn34_b0)))
def fn34:VFn:=⟨1,18,[.tmp 2],(.seq (.ops [.asg 2 (.c (.int .i64 0))]) (.seq (.ops [.asg 3 (.c (.int .i64 0))]) (.seq (.seq (.ops [.mov 6 (.t 0),.len 7 (.t 6),.mov 8 (.c (.int .i64 0))])
   fn34_l1) (.seq (.ops [.mov 17 (.t 3),.asg 2 (.t 17)]) .ret))))⟩
def fn35_b0:VCode:=(.seq (.ops [.bin 22 .lss (.t 21) (.t 20)]) (.seq (.cond (.t 22) .skip (.exit 0)) (.seq (.block 1 (.seq (.ops [.iadr 23 2 (.t 19) (.t 21),.load 24 (some 2) (.t 23),.alloc 9 [(.int .i64 0),(.int .i64 0)],.store none 2 (.t 9) (.t 24)]) (.seq (.ops [.load 26 (some 2) (.t 6),.load 27 (some 2) (.t 9),.call 28 84 [(.t 26),(.t 27)],.mov 25 (.t 28),.ext 29 (.t 25) 0,.ext 30 (.t 25) 1,.store none 2 (.t 6) (.t 29),.asg 7 (.t 30)]) (.seq (.ops [.mov 31 (.t 7),.bin 32 .neq (.t 31) (.c (.int .i64 0))]) (.cond (.t 32) (.seq (.ops [.build 33 [(.int .i64 0),(.list 1 [])] [],.mov 34 (.t 7),.store none 2 (.t 4) (.t 33),.asg 5 (.t 34)]) .ret) .skip))))) (.ops [.bin 35 .add (.t 21) (.c (.int .i64 1)),.mov 21 (.t 35)]))))
def fn35_l1:VCode :=
(.clean [1,4,6,19,20,21] [4,5,6] (.block 0 (.loop [1,4,6,19,20,21] fn35_b0)))
def fn35:VFn:=⟨2,37,[.cell 4 (some 2),.tmp 5],(.seq (.ops [.alloc 4 [(.int .i64 0),(.list 1 [])],.asg 5 (.c (.int .i64 0))]) (.seq (.ops [.mov 11 (.t 0),.call 12 83 [(.t 11)],.mov 10 (.t 12),.ext 13 (.t 10) 0,.ext 14 (.t 10) 1,.alloc 6 [(.int .i64 0),(.list 1 [])],.store none 2 (.t 6) (.t 13),.asg 7 (.t 14)]) (.seq (.seq (.ops [.mov 15 (.t 7),.bin 16 .neq (.t 15) (.c (.int .i64 0))]) (.cond (.t 16) (.seq (.ops [.build 17 [(.int .i64 0),(.list 1 [])] [],.mov 18 (.t 7),.store none 2 (.t 4) (.t 17),.asg 5 (.t 18)]) .ret) .skip)) (.seq (.seq (.ops [.mov 19 (.t 1),.len 20 (.t 19),.mov 21 (.c (.int .i64 0))])
   fn35_l1) (.seq (.ops [.load 36 (some 2) (.t 6),.store none 2 (.t 4) (.t 36),.asg 5 (.c (.int .i64 0))]) .ret)))))⟩
def fn36_b0:VCode:=(.seq (.ops [.bin 22 .lss (.t 21) (.t 20)]) (.seq (.cond (.t 22) .skip (.exit 0)) (.seq (.block 1 (.seq (.ops [.iadr 23 1 (.t 19) (.t 21),.load 24 none (.t 23),.asg 9 (.t 24)]) (.ops [.mov 25 (.t 7),.mov 26 (.t 9),.len 27 (.t 26),.mksl 28 1 [(.t 27)],.app 29 1 (.t 25) (.t 28),.asg 7 (.t 29)]))) (.ops [.bin 30 .add (.t 21) (.c (.int .i64 1)),.mov 21 (.t 30)]))))
def fn36_l1:VCode :=
(.clean [0,3,7,19,20,21,29] [0,3,4,5,7] (.block 0 (.loop [0,3,7,19,20,21,29] fn36_b0)))
def fn36:VFn:=⟨2,47,[.tmp 4,.tmp 5],(.seq (.ops [.box 3 (.t 1),.asg 4 (.nil 1),.asg 5 (.c (.int .i64 0))]) (.seq (.seq (.ops [.mov 14 (.t 0),.call 15 85 [(.t 14)],.asg 6 (.t 15)]) (.seq (.ops [.mov 16 (.t 6),.bin 17 .neq (.t 16) (.c (.int .i64 0))]) (.cond (.t 17) (.seq (.ops [.mov 18 (.t 6),.asg 4 (.nil 1),.asg 5 (.t 18)]) .ret) .skip))) (.seq (.ops [.asg 7 (.nil 1)]) (.seq (.seq (.ops [.mov 19 (.t 0),.len 20 (.t 19),.mov 21 (.c (.int .i64 0))])
   fn36_l1) (.seq (.seq (.ops [.load 31 (some 5) (.t 3),.mov 32 (.t 7),.call 33 54 [(.t 31),(.t 32)],.asg 10 (.t 33)]) (.seq (.ops [.mov 34 (.t 10),.bin 35 .neq (.t 34) (.c (.int .i64 0))]) (.cond (.t 35) (.seq (.ops [.mov 36 (.t 10),.asg 4 (.nil 1),.asg 5 (.t 36)]) .ret) .skip))) (.seq (.ops [.mov 38 (.t 0),.fadr 39 (.t 3) 4,.load 40 none (.t 39),.call 41 38 [(.t 38),(.t 40)],.mov 37 (.t 41),.ext 42 (.t 37) 0,.ext 43 (.t 37) 1,.ext 44 (.t 37) 2,.asg 11 (.t 42),.asg 12 (.t 43),.asg 13 (.t 44)]) (.seq (.ops [.mov 45 (.t 11),.mov 46 (.t 13),.asg 4 (.t 45),.asg 5 (.t 46)]) .ret)))))))⟩
def fn37:VFn:=⟨2,8,[.tmp 4],(.seq (.ops [.asg 4 (.c (.bool false))]) (.seq (.ops [.mov 5 (.t 0),.mov 6 (.t 1),.call 7 86 [(.t 5),(.t 6),(.c (.func 87 []))],.asg 4 (.t 7)]) .ret))⟩
def fn39_b0:VCode:=(.seq (.ops [.bin 24 .lss (.t 23) (.t 22)]) (.seq (.cond (.t 24) .skip (.exit 2)) (.seq (.block 3 (.seq (.ops [.iadr 25 3 (.t 21) (.t 23),.load 26 (some 3) (.t 25),.alloc 11 [(.int .i64 0),(.int .i64 0),(.list 0 [])],.store none 3 (.t 11) (.t 26)]) (.seq (.ops [.fadr 27 (.t 11) 0,.load 28 none (.t 27),.mov 29 (.t 7),.bin 30 .eql (.t 28) (.t 29)]) (.cond (.t 30) (.ops [.mov 31 (.t 9),.fadr 32 (.t 11) 1,.load 33 none (.t 32),.fadr 34 (.t 11) 2,.load 35 none (.t 34),.len 36 (.t 35),.build 37 [(.int .i64 0),(.int .i64 0)] [(0,1,(.t 33)),(1,1,(.t 36))],.mksl 38 2 [(.t 37)],.app 39 2 (.t 31) (.t 38),.asg 9 (.t 39)]) .skip)))) (.ops [.bin 40 .add (.t 23) (.c (.int .i64 1)),.mov 23 (.t 40)]))))
def fn39_l1:VCode :=
(.clean [0,1,6,7,8,9,14,15,16,21,22,23,39,53] [0,1,4,5,6,8,9,14,15,16,39,53] (.block 2 (.loop [0,1,6,7,8,9,14,15,16,21,22,23,39,53] fn39_b0)))
def fn39_b2:VCode:=(.seq (.ops [.bin 17 .lss (.t 16) (.t 15)]) (.seq (.cond (.t 17) .skip (.exit 0)) (.seq (.block 1 (.seq (.ops [.mov 18 (.t 16),.iadr 19 1 (.t 14) (.t 16),.load 20 none (.t 19),.asg 7 (.t 18),.asg 8 (.t 20)]) (.seq (.ops [.asg 9 (.nil 2)]) (.seq (.seq (.ops [.mov 21 (.t 1),.len 22 (.t 21),.mov 23 (.c (.int .i64 0))])
     fn39_l1) (.seq (.ops [.mov 42 (.t 8),.mov 43 (.t 9),.call 44 33 [(.t 43),(.nil 2)],.call 45 35 [(.t 42),(.t 44)],.mov 41 (.t 45),.ext 46 (.t 41) 0,.ext 47 (.t 41) 1,.alloc 12 [(.int .i64 0),(.list 1 [])],.store none 2 (.t 12) (.t 46),.asg 13 (.t 47)]) (.seq (.seq (.ops [.mov 48 (.t 13),.bin 49 .neq (.t 48) (.c (.int .i64 0))]) (.cond (.t 49) (.seq (.ops [.asg 4 (.nil 2),.asg 5 (.c (.bool false))]) .ret) .skip)) (.ops [.mov 50 (.t 6),.load 51 (some 2) (.t 12),.mksl 52 2 [(.t 51)],.app 53 2 (.t 50) (.t 52),.asg 6 (.t 53)]))))))) (.ops [.bin 54 .add (.t 16) (.c (.int .i64 1)),.mov 16 (.t 54)]))))
def fn39_l3:VCode :=
(.clean [0,1,6,14,15,16,39,53] [4,5,6] (.block 0 (.loop [0,1,6,14,15,16,39,53] fn39_b2)))
def fn39:VFn:=⟨2,56,[.tmp 4,.tmp 5],(.seq (.ops [.asg 4 (.nil 2),.asg 5 (.c (.bool false))]) (.seq (.ops [.asg 6 (.nil 2)]) (.seq (.seq (.ops [.mov 14 (.t 0),.len 15 (.t 14),.mov 16 (.c (.int .i64 0))])
   fn39_l3) (.seq (.ops [.mov 55 (.t 6),.asg 4 (.t 55),.asg 5 (.c (.bool true))]) .ret))))⟩
def fn40_b0:VCode:=(.seq (.ops [.bin 10 .lss (.t 9) (.t 8)]) (.seq (.cond (.t 10) .skip (.exit 0)) (.seq (.block 1 (.seq (.ops [.iadr 11 1 (.t 7) (.t 9),.load 12 none (.t 11),.asg 5 (.t 12)]) (.ops [.mov 13 (.t 3),.mov 14 (.t 5),.len 15 (.t 14),.mksl 16 1 [(.t 15)],.app 17 1 (.t 13) (.t 16),.asg 3 (.t 17)]))) (.ops [.bin 18 .add (.t 9) (.c (.int .i64 1)),.mov 9 (.t 18)]))))
def fn40_l1:VCode :=
(.clean [3,7,8,9,17] [2,3] (.block 0 (.loop [3,7,8,9,17] fn40_b0)))
def fn40:VFn:=⟨1,20,[.tmp 2],(.seq (.ops [.box 1 (.t 0),.asg 2 (.nil 1)]) (.seq (.ops [.asg 3 (.nil 1)]) (.seq (.seq (.ops [.fadr 6 (.t 1) 0,.load 7 none (.t 6),.len 8 (.t 7),.mov 9 (.c (.int .i64 0))])
   fn40_l1) (.seq (.ops [.mov 19 (.t 3),.asg 2 (.t 19)]) .ret))))⟩
def fn42_b0:VCode:=(.seq (.seq (.ops [.mov 7 (.t 3),.mov 8 (.t 0),.len 9 (.t 8),.bin 10 .lss (.t 7) (.t 9)]) (.cond (.t 10) .skip (.exit 0))) (.seq (.block 1 (.seq (.ops [.mov 13 (.t 0),.mov 14 (.t 3),.iadr 15 1 (.t 13) (.t 14),.load 16 none (.t 15),.len 17 (.t 16),.bin 18 .gtr (.t 17) (.c (.int .i64 24))]) (.cond (.t 18) (.seq (.ops [.asg 2 (.c (.bool false))]) .ret) .skip))) (.ops [.mov 11 (.t 3),.bin 12 .add (.t 11) (.c (.int .i64 1)),.asg 3 (.t 12)])))
def fn42_l1:VCode :=
(.clean [0,3] [2] (.block 0 (.loop [0,3] fn42_b0)))
def fn42:VFn:=⟨1,19,[.tmp 2],(.seq (.ops [.asg 2 (.c (.bool false))]) (.seq (.seq (.ops [.mov 4 (.t 0),.len 5 (.t 4),.bin 6 .gtr (.t 5) (.c (.int .i64 9))]) (.cond (.t 6) (.seq (.ops [.asg 2 (.c (.bool false))]) .ret) .skip)) (.seq (.seq (.ops [.asg 3 (.c (.int .i64 0))])
   fn42_l1) (.seq (.ops [.asg 2 (.c (.bool true))]) .ret))))⟩
def fn43:VFn:=⟨2,10,[.cell 4 (some 3)],(.seq (.ops [.alloc 4 [(.int .i64 0),(.int .i64 0),(.list 0 [])]]) (.seq (.ops [.mov 5 (.t 0),.mov 6 (.t 1),.build 7 [(.int .u8 0),(.int .u8 0),(.int .u8 0),(.int .u8 0),(.int .u8 0),(.int .u8 0),(.int .u8 0),(.int .u8 0)] [(0,1,(.t 6))],.mksl 8 8 [(.t 7)],.build 9 [(.int .i64 0),(.int .i64 0),(.list 0 [])] [(1,1,(.t 5)),(2,1,(.t 8))],.store none 3 (.t 4) (.t 9)]) .ret))⟩
def fn44:VFn:=⟨2,10,[.cell 4 (some 4)],(.seq (.ops [.alloc 4 [(.int .i64 0),(.list 0 []),(.list 0 []),(.list 0 [])]]) (.seq (.ops [.build 5 [(.int .i64 0),(.int .i64 0),(.int .i64 0)] [(0,1,(.c (.int .i64 1))),(1,1,(.c (.int .i64 1))),(2,1,(.c (.int .i64 7)))],.mksl 6 3 [(.t 5)],.mov 7 (.t 1),.mov 8 (.t 0),.build 9 [(.int .i64 0),(.list 0 []),(.list 0 []),(.list 0 [])] [(0,1,(.c (.int .i64 0))),(1,1,(.t 6)),(2,1,(.t 7)),(3,1,(.t 8))],.store none 4 (.t 4) (.t 9)]) .ret))⟩
def fn45:VFn:=⟨2,11,[.cell 4 (some 4)],(.seq (.ops [.alloc 4 [(.int .i64 0),(.list 0 []),(.list 0 []),(.list 0 [])]]) (.seq (.ops [.build 5 [(.int .i64 0),(.int .i64 0),(.int .i64 0)] [(0,1,(.c (.int .i64 1))),(1,1,(.c (.int .i64 1))),(2,1,(.c (.int .i64 5)))],.build 6 [(.int .i64 0),(.int .i64 0),(.int .i64 0)] [(0,1,(.c (.int .i64 2))),(1,1,(.c (.int .i64 6))),(2,1,(.c (.int .i64 9)))],.mksl 7 3 [(.t 5),(.t 6)],.mov 8 (.t 1),.mov 9 (.t 0),.build 10 [(.int .i64 0),(.list 0 []),(.list 0 []),(.list 0 [])] [(0,1,(.c (.int .i64 1))),(1,1,(.t 7)),(2,1,(.t 8)),(3,1,(.t 9))],.store none 4 (.t 4) (.t 10)]) .ret))⟩
def fn46:VFn:=⟨3,7,[],(.seq (.ops [.load 3 none (.t 0),.bin 4 .neq (.t 3) (.c (.int .i64 0))]) (.cond (.t 4) (.ops [.build 5 [(.int .i64 0),(.int .i64 0),(.int .i64 0),(.int .i64 0),(.int .i64 0),(.int .i64 0),(.bool false),(.bool false)] [],.build 6 [(.int .i64 0),(.int .i64 0),(.int .i64 0),(.list 1 []),(.list 3 [])] [],.store none 8 (.t 1) (.t 5),.store none 5 (.t 2) (.t 6)]) .skip))⟩
def fn48:VFn:=⟨1,79,[],(.seq (.ops [.box 1 (.t 0)]) (.seq (.dem [.fadr 2 (.t 1) 0,.fadr 3 (.t 2) 0,.load 4 none (.t 3),.bin 5 .eql (.t 4) (.c (.int .i64 3))] 6 51 [(.t 5),(.c (.int .i64 1))]) (.seq (.dem [.fadr 7 (.t 1) 0,.fadr 8 (.t 7) 1,.load 9 none (.t 8),.call 10 70 [(.t 9)],.mov 11 (.t 10),.grd 11 true (.fadr 12 (.t 1) 0),.grd 11 true (.fadr 13 (.t 12) 2),.grd 11 true (.load 14 none (.t 13)),.grd 11 true (.call 15 70 [(.t 14)]),.pick 16 (.t 11) (.t 15) (.c (.bool false)),.mov 17 (.t 16),.grd 17 true (.fadr 18 (.t 1) 0),.grd 17 true (.fadr 19 (.t 18) 1),.grd 17 true (.load 20 none (.t 19)),.grd 17 true (.fadr 21 (.t 1) 0),.grd 17 true (.fadr 22 (.t 21) 2),.grd 17 true (.load 23 none (.t 22)),.grd 17 true (.bin 24 .neq (.t 20) (.t 23)),.pick 25 (.t 17) (.t 24) (.c (.bool false))] 26 51 [(.t 25),(.c (.int .i64 2))]) (.seq (.dem [.fadr 27 (.t 1) 0,.fadr 28 (.t 27) 3,.load 29 none (.t 28),.bin 30 .geq (.t 29) (.c (.int .i64 0)),.mov 31 (.t 30),.grd 31 true (.fadr 32 (.t 1) 0),.grd 31 true (.fadr 33 (.t 32) 3),.grd 31 true (.load 34 none (.t 33)),.grd 31 true (.bin 35 .leq (.t 34) (.c (.int .i64 4096))),.pick 36 (.t 31) (.t 35) (.c (.bool false)),.mov 37 (.t 36),.grd 37 true (.fadr 38 (.t 1) 0),.grd 37 true (.fadr 39 (.t 38) 4),.grd 37 true (.load 40 none (.t 39)),.grd 37 true (.bin 41 .geq (.t 40) (.c (.int .i64 1))),.pick 42 (.t 37) (.t 41) (.c (.bool false)),.mov 43 (.t 42),.grd 43 true (.fadr 44 (.t 1) 0),.grd 43 true (.fadr 45 (.t 44) 4),.grd 43 true (.load 46 none (.t 45)),.grd 43 true (.bin 47 .leq (.t 46) (.c (.int .i64 1073741824))),.pick 48 (.t 43) (.t 47) (.c (.bool false)),.mov 49 (.t 48),.grd 49 true (.fadr 50 (.t 1) 0),.grd 49 true (.fadr 51 (.t 50) 5),.grd 49 true (.load 52 none (.t 51)),.grd 49 true (.bin 53 .geq (.t 52) (.c (.int .i64 0))),.pick 54 (.t 49) (.t 53) (.c (.bool false)),.mov 55 (.t 54),.grd 55 true (.fadr 56 (.t 1) 0),.grd 55 true (.fadr 57 (.t 56) 5),.grd 55 true (.load 58 none (.t 57)),.grd 55 true (.bin 59 .leq (.t 58) (.c (.int .i64 1073741824))),.pick 60 (.t 55) (.t 59) (.c (.bool false))] 61 51 [(.t 60),(.c (.int .i64 2))]) (.dem [.fadr 62 (.t 1) 0,.fadr 63 (.t 62) 7,.load 64 none (.t 63),.un 65 .not (.t 64),.mov 66 (.t 65),.grd 66 true (.fadr 67 (.t 1) 0),.grd 66 true (.fadr 68 (.t 67) 6),.grd 66 true (.load 69 none (.t 68)),.grd 66 true (.un 70 .not (.t 69)),.grd 66 true (.mov 71 (.t 70)),.grd 71 false (.fadr 72 (.t 1) 0),.grd 71 false (.fadr 73 (.t 72) 3),.grd 71 false (.load 74 none (.t 73)),.grd 71 false (.bin 75 .geq (.t 74) (.c (.int .i64 1))),.grd 66 true (.pick 76 (.t 71) (.c (.bool true)) (.t 75)),.pick 77 (.t 66) (.t 76) (.c (.bool false))] 78 51 [(.t 77),(.c (.int .i64 12))])))))⟩
def fn49:VFn:=⟨1,6,[],(.dem [.mov 2 (.t 0),.bin 3 .eql (.t 2) (.c (.int .i64 0)),.mov 4 (.t 0)] 5 51 [(.t 3),(.t 4)])⟩
def fn50_b0:VCode:=(.seq (.ops [.bin 34 .lss (.t 33) (.t 32)]) (.seq (.cond (.t 34) .skip (.exit 1)) (.seq (.block 2 (.seq (.ops [.mov 35 (.t 33),.iadr 36 2 (.t 31) (.t 33),.load 37 (some 2) (.t 36),.alloc 5 [(.int .i64 0),(.list 1 [])],.asg 4 (.t 35),.store none 2 (.t 5) (.t 37)]) (.seq (.seq (.ops [.load 38 (some 2) (.t 5),.call 39 90 [(.t 38)],.asg 6 (.t 39)]) (.seq (.ops [.mov 40 (.t 6),.bin 41 .neq (.t 40) (.c (.int .i64 0))]) (.cond (.t 41) (.seq (.ops [.mov 42 (.t 6),.asg 2 (.t 42)]) .ret) .skip))) (.seq (.drw [] [] none [0,1,2,3,4,5,6,7,8] [.fadr 43 (.t 5) 0,.load 44 none (.t 43),.fadr 45 (.t 1) 3,.load 46 none (.t 45),.mov 47 (.t 4),.iadr 48 1 (.t 46) (.t 47),.load 49 none (.t 48),.len 50 (.t 49),.bin 51 .neq (.t 44) (.t 50)]) (.cond (.t 51) (.seq (.ops [.asg 2 (.c (.int .i64 22))]) .ret) .skip))))) (.ops [.bin 52 .add (.t 33) (.c (.int .i64 1)),.mov 33 (.t 52)]))))
def fn50_l1:VCode :=
(.clean [1,31,32,33] [2] (.block 1 (.loop [1,31,32,33] fn50_b0)))
def fn50:VFn:=⟨1,53,[.tmp 2],(.seq (.ops [.box 1 (.t 0),.asg 2 (.c (.int .i64 0))]) (.seq (.block 0 (.seq (.ops [.fadr 8 (.t 1) 0,.load 9 none (.t 8),.call 10 92 [(.t 9),(.c (.int .i64 0))],.un 11 .not (.t 10),.asg 7 (.t 11)]) (.cond (.t 7) (.seq (.ops [.asg 2 (.c (.int .i64 2))]) .ret) (.seq (.ops [.fadr 13 (.t 1) 1,.load 14 none (.t 13),.call 15 93 [(.t 14)],.un 16 .not (.t 15),.asg 12 (.t 16)]) (.cond (.t 12) (.seq (.ops [.asg 2 (.c (.int .i64 3))]) .ret) .skip))))) (.seq (.seq (.ops [.fadr 17 (.t 1) 3,.load 18 none (.t 17),.call 19 85 [(.t 18)],.asg 3 (.t 19)]) (.seq (.ops [.mov 20 (.t 3),.bin 21 .neq (.t 20) (.c (.int .i64 0))]) (.cond (.t 21) (.seq (.ops [.mov 22 (.t 3),.asg 2 (.t 22)]) .ret) .skip))) (.seq (.seq (.ops [.fadr 23 (.t 1) 2,.load 24 none (.t 23),.len 25 (.t 24),.fadr 26 (.t 1) 3,.load 27 none (.t 26),.len 28 (.t 27),.bin 29 .neq (.t 25) (.t 28)]) (.cond (.t 29) (.seq (.ops [.asg 2 (.c (.int .i64 6))]) .ret) .skip)) (.seq (.seq (.ops [.fadr 30 (.t 1) 2,.load 31 none (.t 30),.len 32 (.t 31),.mov 33 (.c (.int .i64 0))])
    fn50_l1) (.seq (.ops [.asg 2 (.c (.int .i64 0))]) .ret))))))⟩
def fn52:VFn:=⟨1,18,[.tmp 2,.tmp 3],(.seq (.ops [.asg 2 (.c (.int .i64 0)),.asg 3 (.c (.int .i64 0))]) (.seq (.seq (.ops [.mov 5 (.t 0),.len 6 (.t 5),.bin 7 .eql (.t 6) (.c (.int .i64 0))]) (.cond (.t 7) (.seq (.ops [.asg 2 (.c (.int .i64 0)),.asg 3 (.c (.int .i64 0))]) .ret) .skip)) (.seq (.ops [.mov 8 (.t 0),.mov 9 (.t 0),.len 10 (.t 9),.bin 11 .sub (.t 10) (.c (.int .i64 1)),.iadr 12 3 (.t 8) (.t 11),.load 13 (some 3) (.t 12),.alloc 4 [(.int .i64 0),(.int .i64 0),(.int .i64 0)],.store none 3 (.t 4) (.t 13)]) (.seq (.drw [] [] none [0,1,2,3,4,5] [.fadr 14 (.t 4) 0,.load 15 none (.t 14),.fadr 16 (.t 4) 2,.load 17 none (.t 16),.asg 2 (.t 15),.asg 3 (.t 17)]) .ret))))⟩
def fn53_b0:VCode:=(.seq (.ops [.bin 20 .lss (.t 19) (.t 18)]) (.seq (.cond (.t 20) .skip (.exit 2)) (.seq (.block 3 (.seq (.ops [.iadr 21 2 (.t 17) (.t 19),.load 22 (some 2) (.t 21),.alloc 7 [(.int .i64 0),(.int .i64 0)],.store none 2 (.t 7) (.t 22)]) (.drw [] [([0,1,2,3,4,5,6,7,8,9,10,11,12,13,14,15,16],17),([18],19)] (some ([],[],20,[])) [21] [.mov 23 (.t 3),.mov 24 (.t 4),.fadr 25 (.t 7) 0,.load 26 none (.t 25),.fadr 27 (.t 1) 3,.load 28 none (.t 27),.mov 29 (.t 4),.iadr 30 1 (.t 28) (.t 29),.load 31 none (.t 30),.fadr 32 (.t 7) 0,.load 33 none (.t 32),.fadr 34 (.t 7) 0,.load 35 none (.t 34),.fadr 36 (.t 7) 1,.load 37 none (.t 36),.bin 38 .add (.t 35) (.t 37),.sli 39 8 (.t 31) (some (.t 33)) (some (.t 38)),.call 40 95 [(.t 39)],.build 41 [(.int .i64 0),(.int .i64 0),(.list 0 [])] [(0,1,(.t 24)),(1,1,(.t 26)),(2,1,(.t 40))],.mksl 42 3 [(.t 41)],.app 43 3 (.t 23) (.t 42),.asg 3 (.t 43)]))) (.ops [.bin 44 .add (.t 19) (.c (.int .i64 1)),.mov 19 (.t 44)]))))
def fn53_l1:VCode :=
(.clean [1,3,4,9,10,11,17,18,19,43] [1,2,3,9,10,11,43] (.block 2 (.loop [1,3,4,9,10,11,17,18,19,43] fn53_b0)))
def fn53_b2:VCode:=(.seq (.ops [.bin 12 .lss (.t 11) (.t 10)]) (.seq (.cond (.t 12) .skip (.exit 0)) (.seq (.block 1 (.seq (.ops [.mov 13 (.t 11),.iadr 14 2 (.t 9) (.t 11),.load 15 (some 2) (.t 14),.alloc 5 [(.int .i64 0),(.list 1 [])],.asg 4 (.t 13),.store none 2 (.t 5) (.t 15)]) (.seq (.ops [.load 16 (some 2) (.t 5),.call 17 94 [(.t 16)],.len 18 (.t 17),.mov 19 (.c (.int .i64 0))])
    fn53_l1))) (.ops [.bin 45 .add (.t 11) (.c (.int .i64 1)),.mov 11 (.t 45)]))))
def fn53_l3:VCode :=
(.clean [1,3,9,10,11,43] [2,3] (.block 0 (.loop [1,3,9,10,11,43] fn53_b2)))
def fn53:VFn:=⟨1,47,[.tmp 2],(.seq (.ops [.box 1 (.t 0),.asg 2 (.nil 3)]) (.seq (.ops [.asg 3 (.nil 3)]) (.seq (.seq (.ops [.fadr 8 (.t 1) 2,.load 9 none (.t 8),.len 10 (.t 9),.mov 11 (.c (.int .i64 0))])
   fn53_l3) (.seq (.ops [.mov 46 (.t 3),.asg 2 (.t 46)]) .ret))))⟩
def fn54:VFn:=⟨2,47,[.tmp 4],(.seq (.ops [.box 2 (.t 0),.asg 4 (.c (.int .i64 0))]) (.seq (.seq (.ops [.mov 9 (.t 1),.call 10 96 [(.t 9)],.mov 8 (.t 10),.ext 11 (.t 8) 0,.ext 12 (.t 8) 1,.asg 5 (.t 11),.asg 6 (.t 12)]) (.seq (.ops [.mov 13 (.t 6),.bin 14 .neq (.t 13) (.c (.int .i64 0))]) (.cond (.t 14) (.seq (.ops [.mov 15 (.t 6),.asg 4 (.t 15)]) .ret) .skip))) (.seq (.block 0 (.seq (.ops [.fadr 17 (.t 2) 0,.load 18 none (.t 17),.bin 19 .lss (.t 18) (.c (.int .i64 0)),.mov 20 (.t 19),.grd 20 false (.fadr 21 (.t 2) 1),.grd 20 false (.load 22 none (.t 21)),.grd 20 false (.fadr 23 (.t 2) 0),.grd 20 false (.load 24 none (.t 23)),.grd 20 false (.bin 25 .leq (.t 22) (.t 24)),.pick 26 (.t 20) (.c (.bool true)) (.t 25),.mov 27 (.t 26),.grd 27 false (.fadr 28 (.t 2) 1),.grd 27 false (.load 29 none (.t 28)),.grd 27 false (.bin 30 .gtr (.t 29) (.c (.int .i64 1073741824))),.pick 31 (.t 27) (.c (.bool true)) (.t 30),.asg 16 (.t 31)]) (.cond (.t 16) (.seq (.ops [.asg 4 (.c (.int .i64 2))]) .ret) (.seq (.ops [.fadr 33 (.t 2) 2,.load 34 none (.t 33),.call 35 97 [(.t 34),(.c (.int .i64 0)),(.c (.int .i64 1073741824))],.un 36 .not (.t 35),.asg 32 (.t 36)]) (.cond (.t 32) (.seq (.ops [.asg 4 (.c (.int .i64 24))]) .ret) .skip))))) (.seq (.seq (.ops [.fadr 37 (.t 2) 3,.load 38 none (.t 37),.call 39 98 [(.t 38),(.c (.int .i64 0))],.asg 7 (.t 39)]) (.seq (.ops [.mov 40 (.t 7),.bin 41 .neq (.t 40) (.c (.int .i64 0))]) (.cond (.t 41) (.seq (.ops [.mov 42 (.t 7),.asg 4 (.t 42)]) .ret) .skip))) (.seq (.ops [.fadr 43 (.t 2) 4,.load 44 none (.t 43),.mov 45 (.t 1),.call 46 99 [(.t 44),(.t 45)],.asg 4 (.t 46)]) .ret)))))⟩
def fn62:VFn:=⟨2,5,[],(.seq (.ops [.load 2 none (.t 0),.bin 3 .neq (.t 2) (.c (.int .i64 0))]) (.cond (.t 3) (.ops [.build 4 [(.int .i64 0),(.int .i64 0),(.int .i64 0),(.int .i64 0),(.int .i64 0),(.int .i64 0),(.bool false),(.bool false)] [],.store none 8 (.t 1) (.t 4)]) .skip))⟩
def fn65_b0:VCode:=(.seq (.seq (.ops [.mov 4 (.t 3),.mov 5 (.t 0),.len 6 (.t 5),.bin 7 .lss (.t 4) (.t 6),.mov 8 (.t 7),.grd 8 true (.mov 9 (.t 3)),.grd 8 true (.bin 10 .lss (.t 9) (.c (.int .i64 60))),.pick 11 (.t 8) (.t 10) (.c (.bool false))]) (.cond (.t 11) .skip (.exit 0))) (.seq (.block 1 (.seq (.ops [.mov 14 (.t 0),.mov 15 (.t 3),.iadr 16 3 (.t 14) (.t 15),.fadr 17 (.t 16) 2,.load 18 none (.t 17),.len 19 (.t 18),.bin 20 .gtr (.t 19) (.c (.int .i64 24))]) (.cond (.t 20) (.seq (.ops [.asg 2 (.c (.bool false))]) .ret) .skip))) (.ops [.mov 12 (.t 3),.bin 13 .add (.t 12) (.c (.int .i64 1)),.asg 3 (.t 13)])))
def fn65_l1:VCode :=
(.clean [0,3] [0,2] (.block 0 (.loop [0,3] fn65_b0)))
def fn65:VFn:=⟨1,24,[.tmp 2],(.seq (.ops [.asg 2 (.c (.bool false))]) (.seq (.seq (.ops [.asg 3 (.c (.int .i64 0))])
  fn65_l1) (.seq (.ops [.mov 21 (.t 0),.len 22 (.t 21),.bin 23 .leq (.t 22) (.c (.int .i64 40)),.asg 2 (.t 23)]) .ret)))⟩
def fn66_b0:VCode:=(.seq (.ops [.bin 9 .lss (.t 8) (.t 7)]) (.seq (.cond (.t 9) .skip (.exit 0)) (.seq (.block 1 (.seq (.ops [.iadr 10 3 (.t 6) (.t 8),.load 11 (some 3) (.t 10),.alloc 5 [(.int .i64 0),(.int .i64 0),(.list 0 [])],.store none 3 (.t 5) (.t 11)]) (.ops [.mov 12 (.t 3),.fadr 13 (.t 5) 2,.load 14 none (.t 13),.len 15 (.t 14),.bin 16 .add (.t 12) (.t 15),.asg 3 (.t 16)]))) (.ops [.bin 17 .add (.t 8) (.c (.int .i64 1)),.mov 8 (.t 17)]))))
def fn66_l1:VCode :=
(.clean [0,3,6,7,8] [2,3] (.block 0 (.loop [0,3,6,7,8] fn66_b0)))
def fn66:VFn:=⟨1,19,[.tmp 2],(.seq (.ops [.asg 2 (.c (.int .i64 0))]) (.seq (.ops [.asg 3 (.c (.int .i64 0))]) (.seq (.seq (.ops [.mov 6 (.t 0),.len 7 (.t 6),.mov 8 (.c (.int .i64 0))])
   fn66_l1) (.seq (.ops [.mov 18 (.t 3),.asg 2 (.t 18)]) .ret))))⟩
def fn68:VFn:=⟨3,6,[],(.seq (.ops [.load 3 none (.t 0),.bin 4 .neq (.t 3) (.c (.int .i64 0))]) (.cond (.t 4) (.ops [.build 5 [(.int .i64 0),(.int .i64 0),(.int .i64 0),(.int .i64 0),(.int .i64 0),(.int .i64 0),(.bool false),(.bool false)] [],.store none 8 (.t 1) (.t 5),.store none 1 (.t 2) (.nil 1)]) .skip))⟩
def fn69_b0:VCode:=(.seq (.ops [.bin 14 .lss (.t 13) (.t 12)]) (.seq (.cond (.t 14) .skip (.exit 0)) (.seq (.block 1 (.seq (.ops [.iadr 15 4 (.t 11) (.t 13),.load 16 (some 4) (.t 15),.alloc 7 [(.int .i64 0),(.list 0 []),(.list 0 []),(.list 0 [])],.store none 4 (.t 7) (.t 16)]) (.seq (.ops [.load 17 (some 4) (.t 7),.call 18 50 [(.t 17)],.asg 8 (.t 18)]) (.seq (.ops [.mov 19 (.t 8),.bin 20 .neq (.t 19) (.c (.int .i64 0))]) (.cond (.t 20) (.seq (.ops [.mov 21 (.t 8),.asg 4 (.nil 1),.asg 5 (.t 21)]) .ret) .skip))))) (.ops [.bin 22 .add (.t 13) (.c (.int .i64 1)),.mov 13 (.t 22)]))))
def fn69_l1:VCode :=
(.clean [2,3,11,12,13] [2,3,4,5] (.block 0 (.loop [2,3,11,12,13] fn69_b0)))
def fn69:VFn:=⟨2,32,[.tmp 4,.tmp 5],(.seq (.ops [.box 2 (.t 0),.box 3 (.t 1),.asg 4 (.nil 1),.asg 5 (.c (.int .i64 0))]) (.seq (.seq (.ops [.load 9 (some 4) (.t 2),.load 10 (some 4) (.t 3),.mksl 11 4 [(.t 9),(.t 10)],.len 12 (.t 11),.mov 13 (.c (.int .i64 0))])
  fn69_l1) (.seq (.seq (.ops [.fadr 23 (.t 2) 3,.load 24 none (.t 23),.fadr 25 (.t 3) 3,.load 26 none (.t 25),.call 27 111 [(.t 24),(.t 26)],.un 28 .not (.t 27)]) (.cond (.t 28) (.seq (.ops [.asg 4 (.nil 1),.asg 5 (.c (.int .i64 22))]) .ret) .skip)) (.seq (.ops [.load 29 (some 4) (.t 2),.load 30 (some 4) (.t 3),.call 31 112 [(.t 29),(.t 30)],.asg 4 (.t 31),.asg 5 (.c (.int .i64 0))]) .ret))))⟩
def fn70:VFn:=⟨1,9,[.tmp 2],(.seq (.ops [.asg 2 (.c (.bool false))]) (.seq (.ops [.mov 3 (.t 0),.bin 4 .geq (.t 3) (.c (.int .i64 0)),.mov 5 (.t 4),.grd 5 true (.mov 6 (.t 0)),.grd 5 true (.bin 7 .lss (.t 6) (.c (.int .i64 4))),.pick 8 (.t 5) (.t 7) (.c (.bool false)),.asg 2 (.t 8)]) .ret))⟩
def fn71_b0:VCode:=(.seq (.seq (.drw [] [] none [0,1,2,3,4,5,6,7,8,9,10,11,12,13,14,15,16,17,18,19] [.mov 17 (.t 8),.mov 18 (.t 0),.len 19 (.t 18),.mov 20 (.t 1),.len 21 (.t 20),.mn 22 false (.t 19) (.t 21),.bin 23 .lss (.t 17) (.t 22),.mov 24 (.t 23),.grd 24 true (.mov 25 (.t 0)),.grd 24 true (.mov 26 (.t 8)),.grd 24 true (.iadr 27 3 (.t 25) (.t 26)),.grd 24 true (.fadr 28 (.t 27) 0),.grd 24 true (.load 29 none (.t 28)),.grd 24 true (.mov 30 (.t 1)),.grd 24 true (.mov 31 (.t 8)),.grd 24 true (.iadr 32 3 (.t 30) (.t 31)),.grd 24 true (.fadr 33 (.t 32) 0),.grd 24 true (.load 34 none (.t 33)),.grd 24 true (.bin 35 .eql (.t 29) (.t 34)),.pick 36 (.t 24) (.t 35) (.c (.bool false))]) (.cond (.t 36) .skip (.exit 0))) (.seq (.block 1 (.seq (.drw [] [] none [0,1,2,3,4,5,6,7,8,9,10,11,12,13,14,15,16,17] [.mov 39 (.t 0),.mov 40 (.t 8),.iadr 41 3 (.t 39) (.t 40),.fadr 42 (.t 41) 2,.load 43 none (.t 42),.mov 44 (.t 1),.mov 45 (.t 8),.iadr 46 3 (.t 44) (.t 45),.fadr 47 (.t 46) 2,.load 48 none (.t 47),.mn 49 false (.t 43) (.t 48),.mov 50 (.t 0),.mov 51 (.t 8),.iadr 52 3 (.t 50) (.t 51),.fadr 53 (.t 52) 0,.load 54 none (.t 53),.asg 6 (.t 49),.asg 7 (.t 54)]) (.seq (.drw [] [] none [0,1,2,3,4,5,6,7,8,9,10] [.mov 55 (.t 0),.mov 56 (.t 8),.iadr 57 3 (.t 55) (.t 56),.fadr 58 (.t 57) 2,.load 59 none (.t 58),.mov 60 (.t 1),.mov 61 (.t 8),.iadr 62 3 (.t 60) (.t 61),.fadr 63 (.t 62) 2,.load 64 none (.t 63),.bin 65 .neq (.t 59) (.t 64)]) (.cond (.t 65) (.exit 0) .skip)))) (.ops [.mov 37 (.t 8),.bin 38 .add (.t 37) (.c (.int .i64 1)),.asg 8 (.t 38)])))
def fn71_l1:VCode :=
(.clean [0,1,6,7,8] [4,5,6,7] (.block 0 (.loop [0,1,6,7,8] fn71_b0)))
def fn71:VFn:=⟨2,68,[.tmp 4,.tmp 5],(.seq (.ops [.asg 4 (.c (.int .i64 0)),.asg 5 (.c (.int .i64 0))]) (.seq (.seq (.ops [.mov 9 (.t 0),.call 10 93 [(.t 9)],.un 11 .not (.t 10),.mov 12 (.t 11),.grd 12 false (.mov 13 (.t 1)),.grd 12 false (.call 14 93 [(.t 13)]),.grd 12 false (.un 15 .not (.t 14)),.pick 16 (.t 12) (.c (.bool true)) (.t 15)]) (.cond (.t 16) (.seq (.ops [.asg 4 (.c (.int .i64 0)),.asg 5 (.c (.int .i64 0))]) .ret) .skip)) (.seq (.ops [.asg 6 (.c (.int .i64 0)),.asg 7 (.c (.int .i64 0))]) (.seq (.seq (.ops [.asg 8 (.c (.int .i64 0))])
   fn71_l1) (.seq (.ops [.mov 66 (.t 6),.mov 67 (.t 7),.asg 4 (.t 66),.asg 5 (.t 67)]) .ret)))))⟩
def fn75_b0:VCode:=(.seq (.seq (.ops [.mov 11 (.t 5),.mov 12 (.t 0),.len 13 (.t 12),.bin 14 .lss (.t 11) (.t 13)]) (.cond (.t 14) .skip (.exit 0))) (.seq (.block 1 (.seq (.drw [] [] none [0,1,2,3,4,5,6,7,8] [.mov 17 (.t 0),.mov 18 (.t 5),.iadr 19 2 (.t 17) (.t 18),.load 20 (some 2) (.t 19),.mov 21 (.t 1),.mov 22 (.t 5),.iadr 23 2 (.t 21) (.t 22),.load 24 (some 2) (.t 23),.eqa 25 true 2 (.t 20) (.t 24)]) (.cond (.t 25) (.seq (.ops [.asg 4 (.c (.bool false))]) .ret) .skip))) (.ops [.mov 15 (.t 5),.bin 16 .add (.t 15) (.c (.int .i64 1)),.asg 5 (.t 16)])))
def fn75_l1:VCode :=
(.clean [0,1,5] [4] (.block 0 (.loop [0,1,5] fn75_b0)))
def fn75:VFn:=⟨2,26,[.tmp 4],(.seq (.ops [.asg 4 (.c (.bool false))]) (.seq (.seq (.ops [.mov 6 (.t 0),.len 7 (.t 6),.mov 8 (.t 1),.len 9 (.t 8),.bin 10 .neq (.t 7) (.t 9)]) (.cond (.t 10) (.seq (.ops [.asg 4 (.c (.bool false))]) .ret) .skip)) (.seq (.seq (.ops [.asg 5 (.c (.int .i64 0))])
   fn75_l1) (.seq (.ops [.asg 4 (.c (.bool true))]) .ret))))⟩
def fn76_b0:VCode:=(.seq (.ops [.bin 13 .lss (.t 12) (.t 11)]) (.seq (.cond (.t 13) .skip (.exit 0)) (.seq (.block 1 (.seq (.ops [.iadr 14 1 (.t 10) (.t 12),.load 15 none (.t 14),.asg 6 (.t 15)]) (.seq (.ops [.mov 16 (.t 6),.call 17 85 [(.t 16)],.asg 7 (.t 17)]) (.seq (.ops [.mov 18 (.t 7),.bin 19 .neq (.t 18) (.c (.int .i64 0))]) (.cond (.t 19) (.seq (.ops [.mov 20 (.t 7),.asg 4 (.t 20)]) .ret) .skip))))) (.ops [.bin 21 .add (.t 12) (.c (.int .i64 1)),.mov 12 (.t 21)]))))
def fn76_l1:VCode :=
(.clean [0,1,10,11,12] [0,1,4] (.block 0 (.loop [0,1,10,11,12] fn76_b0)))
def fn76:VFn:=⟨2,28,[.tmp 4],(.seq (.ops [.asg 4 (.c (.int .i64 0))]) (.seq (.seq (.ops [.mov 8 (.t 0),.mov 9 (.t 1),.mksl 10 1 [(.t 8),(.t 9)],.len 11 (.t 10),.mov 12 (.c (.int .i64 0))])
  fn76_l1) (.seq (.seq (.ops [.mov 22 (.t 0),.call 23 116 [(.t 22)],.mov 24 (.t 1),.call 25 116 [(.t 24)],.call 26 115 [(.t 23),(.t 25)],.un 27 .not (.t 26)]) (.cond (.t 27) (.seq (.ops [.asg 4 (.c (.int .i64 22))]) .ret) .skip)) (.seq (.ops [.asg 4 (.c (.int .i64 0))]) .ret))))⟩
def fn77_b0:VCode:=(.ops [.asg 7 (.t 11)])
def fn77_b1:VCode:=(.block 1 (.seq (.seq (.ops [.mov 12 (.t 7),.load 13 none (.t 6),.bin 14 .eql (.t 12) (.t 13)]) (.cond (.t 14) (.ops [.load 15 none (.t 5),.load 16 none (.t 5),.len 17 (.t 16),.bin 18 .sub (.t 17) (.c (.int .i64 1)),.iadr 19 2 (.t 15) (.t 18),.fadr 20 (.t 19) 1,.load 21 none (.t 20),.bin 22 .add (.t 21) (.c (.int .i64 1)),.iadr 23 2 (.t 15) (.t 18),.fadr 24 (.t 23) 1,.store none 1 (.t 24) (.t 22)]) (.ops [.load 25 none (.t 5),.mov 26 (.t 7),.build 27 [(.int .i64 0),(.int .i64 0)] [(0,1,(.t 26)),(1,1,(.c (.int .i64 1)))],.mksl 28 2 [(.t 27)],.app 29 2 (.t 25) (.t 28),.store none 1 (.t 5) (.t 29)]))) (.ops [.mov 30 (.t 7),.bin 31 .add (.t 30) (.c (.int .i64 1)),.store none 1 (.t 6) (.t 31)])))
def fn77:VFn:=⟨2,33,[.tmp 4],(.seq (.ops [.asg 4 (.nil 2)]) (.seq (.ops [.alloc 5 [(.list 2 [])]]) (.seq (.ops [.alloc 6 [(.int .i64 0)],.store none 1 (.t 6) (.c (.int .i64 (-1)))]) (.seq (.seq (.ops [.mov 8 (.t 0),.mov 9 (.t 1),.call 10 117 [(.t 8),(.t 9)]]) (.block 0 (.rng (.t 10) [11] fn77_b0 fn77_b1))) (.seq (.ops [.load 32 none (.t 5),.asg 4 (.t 32)]) .ret)))))⟩
def fn78:VFn:=⟨1,5,[.tmp 2],(.seq (.ops [.asg 2 (.nil 2)]) (.seq (.ops [.mov 3 (.t 0),.call 4 118 [(.c (.nils 2)),(.t 3)],.asg 2 (.t 4)]) .ret))⟩
def fn79:VFn:=⟨3,8,[.tmp 6],(.seq (.ops [.box 3 (.t 0),.box 4 (.t 1),.box 5 (.t 2),.asg 6 (.c .nilf)]) (.seq (.ops [.mkf 7 119 [(.t 3),(.t 4),(.t 5)],.asg 6 (.t 7)]) .ret))⟩
def fn80:VFn:=⟨2,10,[.tmp 4],(.seq (.ops [.asg 4 (.c (.bool false))]) (.seq (.ops [.mov 5 (.t 0),.mov 6 (.t 5),.grd 6 true (.mov 7 (.t 1)),.grd 6 true (.un 8 .not (.t 7)),.pick 9 (.t 6) (.t 8) (.c (.bool false)),.asg 4 (.t 9)]) .ret))⟩
def fn81:VFn:=⟨2,9,[.tmp 4],(.seq (.ops [.asg 4 (.c (.bool false))]) (.seq (.ops [.mov 5 (.t 0),.mov 6 (.t 5),.grd 6 false (.mov 7 (.t 1)),.pick 8 (.t 6) (.c (.bool true)) (.t 7),.asg 4 (.t 8)]) .ret))⟩
def fn82_b0:VCode:=(.seq (.ops [.bin 10 .lss (.t 9) (.t 8)]) (.seq (.cond (.t 10) .skip (.exit 0)) (.seq (.block 1 (.seq (.ops [.iadr 11 2 (.t 7) (.t 9),.load 12 (some 2) (.t 11),.alloc 5 [(.int .i64 0),(.int .i64 0)],.store none 2 (.t 5) (.t 12)]) (.ops [.mov 13 (.t 3),.fadr 14 (.t 5) 1,.load 15 none (.t 14),.bin 16 .add (.t 13) (.t 15),.asg 3 (.t 16)]))) (.ops [.bin 17 .add (.t 9) (.c (.int .i64 1)),.mov 9 (.t 17)]))))
def fn82_l1:VCode :=
(.clean [3,7,8,9] [2,3] (.block 0 (.loop [3,7,8,9] fn82_b0)))
def fn82:VFn:=⟨1,19,[.tmp 2],(.seq (.ops [.asg 2 (.c (.int .i64 0))]) (.seq (.ops [.asg 3 (.c (.int .i64 0))]) (.seq (.seq (.ops [.mov 6 (.t 0),.call 7 33 [(.t 6),(.nil 2)],.len 8 (.t 7),.mov 9 (.c (.int .i64 0))])
   fn82_l1) (.seq (.ops [.mov 18 (.t 3),.asg 2 (.t 18)]) .ret))))⟩
def fn83:VFn:=⟨1,16,[.cell 2 (some 2),.tmp 3],(.seq (.ops [.alloc 2 [(.int .i64 0),(.list 1 [])],.asg 3 (.c (.int .i64 0))]) (.seq (.seq (.ops [.mov 4 (.t 0),.bin 5 .lss (.t 4) (.c (.int .i64 0)),.mov 6 (.t 5),.grd 6 false (.mov 7 (.t 0)),.grd 6 false (.bin 8 .gtr (.t 7) (.c (.int .i64 4096))),.pick 9 (.t 6) (.c (.bool true)) (.t 8)]) (.cond (.t 9) (.seq (.ops [.build 10 [(.int .i64 0),(.list 1 [])] [],.store none 2 (.t 2) (.t 10),.asg 3 (.c (.int .i64 2))]) .ret) .skip)) (.seq (.ops [.mov 11 (.t 0),.mov 12 (.t 0),.call 13 121 [(.t 12)],.make 14 (.int .u64 0) (.t 13) (.t 13),.build 15 [(.int .i64 0),(.list 1 [])] [(0,1,(.t 11)),(1,1,(.t 14))],.store none 2 (.t 2) (.t 15),.asg 3 (.c (.int .i64 0))]) .ret)))⟩
def fn84:VFn:=⟨2,12,[.cell 4 (some 2),.tmp 5],(.seq (.ops [.box 2 (.t 0),.box 3 (.t 1),.alloc 4 [(.int .i64 0),(.list 1 [])],.asg 5 (.c (.int .i64 0))]) (.seq (.ops [.build 6 [.nilf] [(0,1,(.c (.func 122 [])))],.load 7 (some 2) (.t 2),.load 8 (some 2) (.t 3),.call 9 123 [(.t 6),(.t 7),(.t 8)],.ext 10 (.t 9) 0,.ext 11 (.t 9) 1,.store none 2 (.t 4) (.t 10),.asg 5 (.t 11)]) .ret))⟩
def fn85:VFn:=⟨1,6,[.tmp 2],(.seq (.ops [.asg 2 (.c (.int .i64 0))]) (.seq (.ops [.mov 3 (.t 0),.call 4 116 [(.t 3)],.call 5 124 [(.t 4)],.asg 2 (.t 5)]) .ret))⟩
def fn86_b0:VCode:=(.seq (.ops [.bin 18 .lss (.t 17) (.t 16)]) (.seq (.cond (.t 18) .skip (.exit 0)) (.seq (.block 1 (.seq (.ops [.mov 19 (.t 17),.iadr 20 1 (.t 15) (.t 17),.load 21 none (.t 20),.asg 7 (.t 19),.asg 8 (.t 21)]) (.seq (.ops [.mov 22 (.t 1),.mov 23 (.t 7),.iadr 24 1 (.t 22) (.t 23),.load 25 none (.t 24),.asg 9 (.t 25)]) (.seq (.ops [.mov 26 (.t 2),.mov 27 (.t 8),.mov 28 (.t 9),.callv 29 (.t 26) [(.t 27),(.t 28)],.un 30 .not (.t 29)]) (.cond (.t 30) (.seq (.ops [.asg 6 (.c (.bool false))]) .ret) .skip))))) (.ops [.bin 31 .add (.t 17) (.c (.int .i64 1)),.mov 17 (.t 31)]))))
def fn86_l1:VCode :=
(.clean [0,1,2,15,16,17] [6] (.block 0 (.loop [0,1,2,15,16,17] fn86_b0)))
def fn86:VFn:=⟨3,32,[.tmp 6],(.seq (.ops [.asg 6 (.c (.bool false))]) (.seq (.seq (.ops [.mov 10 (.t 0),.len 11 (.t 10),.mov 12 (.t 1),.len 13 (.t 12),.bin 14 .neq (.t 11) (.t 13)]) (.cond (.t 14) (.seq (.ops [.asg 6 (.c (.bool false))]) .ret) .skip)) (.seq (.seq (.ops [.mov 15 (.t 0),.len 16 (.t 15),.mov 17 (.c (.int .i64 0))])
   fn86_l1) (.seq (.ops [.asg 6 (.c (.bool true))]) .ret))))⟩
def fn87_b0:VCode:=(.seq (.ops [.bin 14 .lss (.t 13) (.t 12)]) (.seq (.cond (.t 14) .skip (.exit 0)) (.seq (.block 1 (.seq (.ops [.mov 15 (.t 13),.asg 5 (.t 15)]) (.seq (.drw [] [] none [0,1,2,3,4,5,6,7,8] [.mov 16 (.t 0),.mov 17 (.t 5),.iadr 18 8 (.t 16) (.t 17),.load 19 (some 8) (.t 18),.mov 20 (.t 1),.mov 21 (.t 5),.iadr 22 8 (.t 20) (.t 21),.load 23 (some 8) (.t 22),.eqa 24 true 8 (.t 19) (.t 23)]) (.cond (.t 24) (.seq (.ops [.asg 4 (.c (.bool false))]) .ret) .skip)))) (.ops [.bin 25 .add (.t 13) (.c (.int .i64 1)),.mov 13 (.t 25)]))))
def fn87_l1:VCode :=
(.clean [0,1,12,13] [4] (.block 0 (.loop [0,1,12,13] fn87_b0)))
def fn87:VFn:=⟨2,26,[.tmp 4],(.seq (.ops [.asg 4 (.c (.bool false))]) (.seq (.seq (.ops [.mov 6 (.t 0),.len 7 (.t 6),.mov 8 (.t 1),.len 9 (.t 8),.bin 10 .neq (.t 7) (.t 9)]) (.cond (.t 10) (.seq (.ops [.asg 4 (.c (.bool false))]) .ret) .skip)) (.seq (.seq (.ops [.mov 11 (.t 0),.len 12 (.t 11),.mov 13 (.c (.int .i64 0))])
   fn87_l1) (.seq (.ops [.asg 4 (.c (.bool true))]) .ret))))⟩
def fn89:VFn:=⟨2,40,[.tmp 4],(.seq (.ops [.box 3 (.t 1),.asg 4 (.c (.int .i64 0))]) (.seq (.block 0 (.seq (.ops [.fadr 6 (.t 3) 0,.load 7 none (.t 6),.bin 8 .lss (.t 7) (.c (.int .i64 0)),.mov 9 (.t 8),.grd 9 false (.fadr 10 (.t 3) 0),.grd 9 false (.load 11 none (.t 10)),.grd 9 false (.mov 12 (.t 0)),.grd 9 false (.len 13 (.t 12)),.grd 9 false (.bin 14 .geq (.t 11) (.t 13)),.pick 15 (.t 9) (.c (.bool true)) (.t 14),.asg 5 (.t 15)]) (.cond (.t 5) (.seq (.ops [.asg 4 (.c (.int .i64 7))]) .ret) (.seq (.ops [.fadr 17 (.t 3) 2,.load 18 none (.t 17),.len 19 (.t 18),.bin 20 .eql (.t 19) (.c (.int .i64 0)),.asg 16 (.t 20)]) (.cond (.t 16) (.seq (.ops [.asg 4 (.c (.int .i64 1))]) .ret) (.seq (.drw [] [] none [0,1,2,3,4,5,6,7,8,9,10,11,12,13,14,15,16,17,18] [.fadr 22 (.t 3) 1,.load 23 none (.t 22),.bin 24 .lss (.t 23) (.c (.int .i64 0)),.mov 25 (.t 24),.grd 25 false (.fadr 26 (.t 3) 1),.grd 25 false (.load 27 none (.t 26)),.grd 25 false (.mov 28 (.t 0)),.grd 25 false (.fadr 29 (.t 3) 0),.grd 25 false (.load 30 none (.t 29)),.grd 25 false (.iadr 31 1 (.t 28) (.t 30)),.grd 25 false (.load 32 none (.t 31)),.grd 25 false (.len 33 (.t 32)),.grd 25 false (.fadr 34 (.t 3) 2),.grd 25 false (.load 35 none (.t 34)),.grd 25 false (.len 36 (.t 35)),.grd 25 false (.bin 37 .sub (.t 33) (.t 36)),.grd 25 false (.bin 38 .gtr (.t 27) (.t 37)),.pick 39 (.t 25) (.c (.bool true)) (.t 38),.asg 21 (.t 39)]) (.cond (.t 21) (.seq (.ops [.asg 4 (.c (.int .i64 2))]) .ret) .skip))))))) (.seq (.ops [.asg 4 (.c (.int .i64 0))]) .ret)))⟩
def fn90:VFn:=⟨1,39,[.tmp 2],(.seq (.ops [.box 1 (.t 0),.asg 2 (.c (.int .i64 0))]) (.seq (.seq (.drw [] [([0,1,2,3,4,5,6,7,8,9,10,11,12,13],14)] none [15,16] [.fadr 4 (.t 1) 0,.load 5 none (.t 4),.bin 6 .lss (.t 5) (.c (.int .i64 0)),.mov 7 (.t 6),.grd 7 false (.fadr 8 (.t 1) 0),.grd 7 false (.load 9 none (.t 8)),.grd 7 false (.bin 10 .gtr (.t 9) (.c (.int .i64 4096))),.pick 11 (.t 7) (.c (.bool true)) (.t 10),.mov 12 (.t 11),.grd 12 false (.fadr 13 (.t 1) 1),.grd 12 false (.load 14 none (.t 13)),.grd 12 false (.len 15 (.t 14)),.grd 12 false (.fadr 16 (.t 1) 0),.grd 12 false (.load 17 none (.t 16)),.grd 12 false (.call 18 121 [(.t 17)]),.grd 12 false (.bin 19 .neq (.t 15) (.t 18)),.pick 20 (.t 12) (.c (.bool true)) (.t 19)]) (.cond (.t 20) (.seq (.ops [.asg 2 (.c (.int .i64 3))]) .ret) .skip)) (.seq (.seq (.ops [.fadr 21 (.t 1) 0,.load 22 none (.t 21),.bin 23 .rem (.t 22) (.c (.int .i64 64)),.asg 3 (.t 23)]) (.seq (.ops [.mov 24 (.t 3),.bin 25 .gtr (.t 24) (.c (.int .i64 0)),.mov 26 (.t 25),.grd 26 true (.fadr 27 (.t 1) 1),.grd 26 true (.load 28 none (.t 27)),.grd 26 true (.fadr 29 (.t 1) 1),.grd 26 true (.load 30 none (.t 29)),.grd 26 true (.len 31 (.t 30)),.grd 26 true (.bin 32 .sub (.t 31) (.c (.int .i64 1))),.grd 26 true (.iadr 33 1 (.t 28) (.t 32)),.grd 26 true (.load 34 none (.t 33)),.grd 26 true (.mov 35 (.t 3)),.grd 26 true (.bin 36 .shr (.t 34) (.t 35)),.grd 26 true (.bin 37 .neq (.t 36) (.c (.int .u64 0))),.pick 38 (.t 26) (.t 37) (.c (.bool false))]) (.cond (.t 38) (.seq (.ops [.asg 2 (.c (.int .i64 3))]) .ret) .skip))) (.seq (.ops [.asg 2 (.c (.int .i64 0))]) .ret))))⟩
def fn92:VFn:=⟨2,12,[.tmp 4],(.seq (.ops [.asg 4 (.c (.bool false))]) (.seq (.ops [.mov 5 (.t 0),.mov 6 (.t 1),.bin 7 .geq (.t 5) (.t 6),.mov 8 (.t 7),.grd 8 true (.mov 9 (.t 0)),.grd 8 true (.bin 10 .leq (.t 9) (.c (.int .i64 1073741824))),.pick 11 (.t 8) (.t 10) (.c (.bool false)),.asg 4 (.t 11)]) .ret))⟩
def fn93_b0:VCode:=(.seq (.ops [.bin 10 .lss (.t 9) (.t 8)]) (.seq (.cond (.t 10) .skip (.exit 0)) (.seq (.block 1 (.seq (.ops [.iadr 11 3 (.t 7) (.t 9),.load 12 (some 3) (.t 11),.alloc 5 [(.int .i64 0),(.int .i64 0),(.int .i64 0)],.store none 3 (.t 5) (.t 12)]) (.seq (.seq (.ops [.fadr 13 (.t 5) 1,.load 14 none (.t 13),.fadr 15 (.t 3) 2,.load 16 none (.t 15),.bin 17 .add (.t 16) (.c (.int .i64 1)),.bin 18 .neq (.t 14) (.t 17),.mov 19 (.t 18),.grd 19 false (.fadr 20 (.t 5) 2),.grd 19 false (.load 21 none (.t 20)),.grd 19 false (.fadr 22 (.t 5) 1),.grd 19 false (.load 23 none (.t 22)),.grd 19 false (.bin 24 .lss (.t 21) (.t 23)),.pick 25 (.t 19) (.c (.bool true)) (.t 24),.mov 26 (.t 25),.grd 26 false (.fadr 27 (.t 5) 2),.grd 26 false (.load 28 none (.t 27)),.grd 26 false (.bin 29 .gtr (.t 28) (.c (.int .i64 1073741824))),.pick 30 (.t 26) (.c (.bool true)) (.t 29),.mov 31 (.t 30),.grd 31 false (.fadr 32 (.t 5) 0),.grd 31 false (.load 33 none (.t 32)),.grd 31 false (.call 34 92 [(.t 33),(.c (.int .i64 1))]),.grd 31 false (.un 35 .not (.t 34)),.pick 36 (.t 31) (.c (.bool true)) (.t 35),.mov 37 (.t 36),.grd 37 false (.fadr 38 (.t 5) 0),.grd 37 false (.load 39 none (.t 38)),.grd 37 false (.fadr 40 (.t 3) 0),.grd 37 false (.load 41 none (.t 40)),.grd 37 false (.bin 42 .leq (.t 39) (.t 41)),.pick 43 (.t 37) (.c (.bool true)) (.t 42)]) (.cond (.t 43) (.seq (.ops [.asg 2 (.c (.bool false))]) .ret) .skip)) (.ops [.load 44 (some 3) (.t 5),.store none 3 (.t 3) (.t 44)])))) (.ops [.bin 45 .add (.t 9) (.c (.int .i64 1)),.mov 9 (.t 45)]))))
def fn93_l1:VCode :=
(.clean [0,3,7,8,9] [2] (.block 0 (.loop [0,3,7,8,9] fn93_b0)))
def fn93:VFn:=⟨1,46,[.tmp 2],(.seq (.ops [.asg 2 (.c (.bool false))]) (.seq (.ops [.build 6 [(.int .i64 0),(.int .i64 0),(.int .i64 0)] [],.alloc 3 [(.int .i64 0),(.int .i64 0),(.int .i64 0)],.store none 3 (.t 3) (.t 6)]) (.seq (.seq (.ops [.mov 7 (.t 0),.len 8 (.t 7),.mov 9 (.c (.int .i64 0))])
   fn93_l1) (.seq (.ops [.asg 2 (.c (.bool true))]) .ret))))⟩
def fn94_b0:VCode:=(.ops [.asg 4 (.t 8)])
def fn94_b1:VCode:=(.block 1 (.seq (.seq (.ops [.load 9 none (.t 3),.len 10 (.t 9),.asg 5 (.t 10)]) (.seq (.drw [] [] none [0,1,2,3,4,5,6,7,8,9,10,11,12,13,14,15,16,17,18] [.mov 11 (.t 5),.bin 12 .gtr (.t 11) (.c (.int .i64 0)),.mov 13 (.t 12),.grd 13 true (.load 14 none (.t 3)),.grd 13 true (.mov 15 (.t 5)),.grd 13 true (.bin 16 .sub (.t 15) (.c (.int .i64 1))),.grd 13 true (.iadr 17 2 (.t 14) (.t 16)),.grd 13 true (.fadr 18 (.t 17) 0),.grd 13 true (.load 19 none (.t 18)),.grd 13 true (.load 20 none (.t 3)),.grd 13 true (.mov 21 (.t 5)),.grd 13 true (.bin 22 .sub (.t 21) (.c (.int .i64 1))),.grd 13 true (.iadr 23 2 (.t 20) (.t 22)),.grd 13 true (.fadr 24 (.t 23) 1),.grd 13 true (.load 25 none (.t 24)),.grd 13 true (.bin 26 .add (.t 19) (.t 25)),.grd 13 true (.mov 27 (.t 4)),.grd 13 true (.bin 28 .eql (.t 26) (.t 27)),.pick 29 (.t 13) (.t 28) (.c (.bool false))]) (.cond (.t 29) (.seq (.ops [.load 30 none (.t 3),.mov 31 (.t 5),.bin 32 .sub (.t 31) (.c (.int .i64 1)),.iadr 33 2 (.t 30) (.t 32),.fadr 34 (.t 33) 1,.load 35 none (.t 34),.bin 36 .add (.t 35) (.c (.int .i64 1)),.iadr 37 2 (.t 30) (.t 32),.fadr 38 (.t 37) 1,.store none 1 (.t 38) (.t 36)]) (.exit 1)) .skip))) (.ops [.load 39 none (.t 3),.mov 40 (.t 4),.build 41 [(.int .i64 0),(.int .i64 0)] [(0,1,(.t 40)),(1,1,(.c (.int .i64 1)))],.mksl 42 2 [(.t 41)],.app 43 2 (.t 39) (.t 42),.store none 1 (.t 3) (.t 43)])))
def fn94:VFn:=⟨1,45,[.tmp 2],(.seq (.ops [.box 1 (.t 0),.asg 2 (.nil 2)]) (.seq (.ops [.alloc 3 [(.list 2 [])]]) (.seq (.seq (.ops [.load 6 (some 2) (.t 1),.call 7 126 [(.t 6),(.c (.int .i64 0))]]) (.block 0 (.rng (.t 7) [8] fn94_b0 fn94_b1))) (.seq (.ops [.load 44 none (.t 3),.asg 2 (.t 44)]) .ret))))⟩
def fn95:VFn:=⟨1,8,[.tmp 2],(.seq (.ops [.asg 2 (.nil 8)]) (.seq (.seq (.ops [.mov 3 (.t 0),.isn 4 false (.t 3)]) (.cond (.t 4) (.seq (.ops [.asg 2 (.nil 8)]) .ret) .skip)) (.seq (.ops [.mksl 5 8 [],.mov 6 (.t 0),.app 7 8 (.t 5) (.t 6),.asg 2 (.t 7)]) .ret)))⟩
def fn96:VFn:=⟨1,12,[.tmp 2,.tmp 3],(.seq (.ops [.asg 2 (.nil 1),.asg 3 (.c (.int .i64 0))]) (.seq (.seq (.ops [.mov 5 (.t 0),.call 6 124 [(.t 5)],.asg 4 (.t 6)]) (.seq (.ops [.mov 7 (.t 4),.bin 8 .neq (.t 7) (.c (.int .i64 0))]) (.cond (.t 8) (.seq (.ops [.mov 9 (.t 4),.asg 2 (.nil 1),.asg 3 (.t 9)]) .ret) .skip))) (.seq (.ops [.mov 10 (.t 0),.call 11 127 [(.t 10),(.c (.func 128 []))],.asg 2 (.t 11),.asg 3 (.c (.int .i64 0))]) .ret)))⟩
def fn97:VFn:=⟨3,15,[.tmp 6],(.seq (.ops [.asg 6 (.c (.bool false))]) (.seq (.ops [.mov 7 (.t 0),.mov 8 (.t 1),.bin 9 .geq (.t 7) (.t 8),.mov 10 (.t 9),.grd 10 true (.mov 11 (.t 0)),.grd 10 true (.mov 12 (.t 2)),.grd 10 true (.bin 13 .leq (.t 11) (.t 12)),.pick 14 (.t 10) (.t 13) (.c (.bool false)),.asg 6 (.t 14)]) .ret))⟩
def fn98:VFn:=⟨2,12,[.tmp 4],(.seq (.ops [.asg 4 (.c (.int .i64 0))]) (.seq (.seq (.ops [.mov 5 (.t 0),.len 6 (.t 5),.mov 7 (.t 1),.call 8 97 [(.t 6),(.t 7),(.c (.int .i64 8))],.un 9 .not (.t 8)]) (.cond (.t 9) (.seq (.ops [.asg 4 (.c (.int .i64 6))]) .ret) .skip)) (.seq (.seq (.ops [.mov 10 (.t 0),.call 11 129 [(.t 10),(.c (.func 130 []))]]) (.cond (.t 11) (.seq (.ops [.asg 4 (.c (.int .i64 2))]) .ret) .skip)) (.seq (.ops [.asg 4 (.c (.int .i64 0))]) .ret))))⟩
def fn99:VFn:=⟨2,18,[.tmp 4],(.seq (.ops [.asg 4 (.c (.int .i64 0))]) (.seq (.ops [.mov 8 (.t 1),.call 9 96 [(.t 8)],.mov 7 (.t 9),.ext 10 (.t 7) 0,.ext 11 (.t 7) 1,.alloc 5 [(.list 1 [])],.store none 1 (.t 5) (.t 10),.asg 6 (.t 11)]) (.seq (.seq (.ops [.mov 12 (.t 6),.bin 13 .neq (.t 12) (.c (.int .i64 0))]) (.cond (.t 13) (.seq (.ops [.mov 14 (.t 6),.asg 4 (.t 14)]) .ret) .skip)) (.seq (.ops [.mov 15 (.t 0),.mkf 16 132 [(.t 5)],.call 17 131 [(.t 15),(.t 16)],.asg 4 (.t 17)]) .ret))))⟩
def fn111:VFn:=⟨2,8,[.tmp 4],(.seq (.ops [.asg 4 (.c (.bool false))]) (.seq (.ops [.mov 5 (.t 0),.mov 6 (.t 1),.call 7 86 [(.t 5),(.t 6),(.c (.func 135 []))],.asg 4 (.t 7)]) .ret))⟩
def fn112_b0:VCode:=(.seq (.ops [.bin 16 .lss (.t 15) (.t 14)]) (.seq (.cond (.t 16) .skip (.exit 0)) (.seq (.block 1 (.seq (.ops [.mov 17 (.t 15),.asg 6 (.t 17)]) (.seq (.drs [] [2,3,5,6,7,12,14,15] [.fadr 19 (.t 2) 2,.load 20 none (.t 19),.mov 21 (.t 6),.iadr 22 2 (.t 20) (.t 21),.load 23 (some 2) (.t 22),.fadr 24 (.t 3) 2,.load 25 none (.t 24),.mov 26 (.t 6),.iadr 27 2 (.t 25) (.t 26),.load 28 (some 2) (.t 27),.call 29 136 [(.t 23),(.t 28)],.mov 18 (.t 29),.ext 30 (.t 18) 0,.ext 31 (.t 18) 1,.alloc 7 [(.int .i64 0),(.list 1 [])],.store none 2 (.t 7) (.t 30),.asg 8 (.t 31)]
    [⟨[([0,1,2,3,4,5,6,7,8,9],10),([11,12,13],14)],(some ([],[],15,[])),[16],[0,1,2,3,4,5,6,7,8,9,10,11,12,13,14,15,16],false⟩,⟨[([0,1,2,3,4,5,6,7,8,9],14),([],10)],(some ([11,12],[13],15,[])),[16],[0,1,2,3,4,5,6,7,8,9,14,10,11,12,13,15,16],false⟩]) (.ops [.mov 32 (.t 5),.mov 33 (.t 6),.load 34 (some 2) (.t 7),.call 35 94 [(.t 34)],.iadr 36 1 (.t 32) (.t 33),.store none 1 (.t 36) (.t 35)])))) (.ops [.bin 37 .add (.t 15) (.c (.int .i64 1)),.mov 15 (.t 37)]))))
def fn112_l1:VCode :=
(.clean [2,3,5,12,14,15] [4,5] (.block 0 (.loop [2,3,5,12,14,15] fn112_b0)))
def fn112:VFn:=⟨2,39,[.tmp 4],(.seq (.ops [.box 2 (.t 0),.box 3 (.t 1),.asg 4 (.nil 1)]) (.seq (.ops [.fadr 9 (.t 2) 2,.load 10 none (.t 9),.len 11 (.t 10),.make 12 (.list 0 []) (.t 11) (.t 11),.asg 5 (.t 12)]) (.seq (.seq (.ops [.mov 13 (.t 5),.len 14 (.t 13),.mov 15 (.c (.int .i64 0))])
   fn112_l1) (.seq (.ops [.mov 38 (.t 5),.asg 4 (.t 38)]) .ret))))⟩
def fn115_b0:VCode:=(.seq (.ops [.bin 14 .lss (.t 13) (.t 12)]) (.seq (.cond (.t 14) .skip (.exit 0)) (.seq (.block 1 (.seq (.ops [.mov 15 (.t 13),.asg 5 (.t 15)]) (.seq (.drw [] [] none [0,1,2,3,4,5,6,7,8] [.mov 16 (.t 0),.mov 17 (.t 5),.iadr 18 1 (.t 16) (.t 17),.load 19 none (.t 18),.mov 20 (.t 1),.mov 21 (.t 5),.iadr 22 1 (.t 20) (.t 21),.load 23 none (.t 22),.bin 24 .neq (.t 19) (.t 23)]) (.cond (.t 24) (.seq (.ops [.asg 4 (.c (.bool false))]) .ret) .skip)))) (.ops [.bin 25 .add (.t 13) (.c (.int .i64 1)),.mov 13 (.t 25)]))))
def fn115_l1:VCode :=
(.clean [0,1,12,13] [4] (.block 0 (.loop [0,1,12,13] fn115_b0)))
def fn115:VFn:=⟨2,26,[.tmp 4],(.seq (.ops [.asg 4 (.c (.bool false))]) (.seq (.seq (.ops [.mov 6 (.t 0),.len 7 (.t 6),.mov 8 (.t 1),.len 9 (.t 8),.bin 10 .neq (.t 7) (.t 9)]) (.cond (.t 10) (.seq (.ops [.asg 4 (.c (.bool false))]) .ret) .skip)) (.seq (.seq (.ops [.mov 11 (.t 0),.len 12 (.t 11),.mov 13 (.c (.int .i64 0))])
   fn115_l1) (.seq (.ops [.asg 4 (.c (.bool true))]) .ret))))⟩
def fn116:VFn:=⟨1,5,[.tmp 2],(.seq (.ops [.asg 2 (.nil 1)]) (.seq (.ops [.mov 3 (.t 0),.call 4 138 [(.t 3),(.c (.func 139 []))],.asg 2 (.t 4)]) .ret))⟩
def fn117:VFn:=⟨2,6,[.tmp 4],(.seq (.ops [.box 2 (.t 0),.box 3 (.t 1),.asg 4 (.c .nilf)]) (.seq (.ops [.mkf 5 140 [(.t 2),(.t 3)],.asg 4 (.t 5)]) .ret))⟩
def fn118_b0:VCode:=(.ops [.alloc 5 [(.int .i64 0),(.int .i64 0)],.store none 2 (.t 5) (.t 7)])
def fn118_b1:VCode:=(.block 1 (.ops [.load 8 none (.t 2),.load 9 (some 2) (.t 5),.mksl 10 2 [(.t 9)],.app 11 2 (.t 8) (.t 10),.store none 1 (.t 2) (.t 11)]))
def fn118:VFn:=⟨2,13,[.tmp 4],(.seq (.ops [.box 2 (.t 0),.asg 4 (.nil 2)]) (.seq (.seq (.ops [.mov 6 (.t 1)]) (.block 0 (.rng (.t 6) [7] fn118_b0 fn118_b1))) (.seq (.ops [.load 12 none (.t 2),.asg 4 (.t 12)]) .ret)))⟩
def fn119_b0:VCode:=(.seq (.ops [.bin 19 .lss (.t 18) (.t 17)]) (.seq (.cond (.t 19) .skip (.exit 0)) (.seq (.block 1 (.seq (.ops [.mov 20 (.t 18),.iadr 21 3 (.t 16) (.t 18),.load 22 (some 3) (.t 21),.alloc 10 [(.int .i64 0),(.int .i64 0),(.int .i64 0)],.asg 9 (.t 20),.store none 3 (.t 10) (.t 22)]) (.seq (.drw [] [] (some ([0,1,2,3,4,5,6,7],[],8,[])) [] [.fadr 23 (.t 10) 1,.load 24 none (.t 23),.aadr 25 (.t 6) (.t 24) 2 1,.load 26 none (.t 25),.fadr 27 (.t 10) 2,.load 28 none (.t 27),.bin 29 .add (.t 26) (.t 28),.aadr 30 (.t 6) (.t 24) 2 1,.store none 1 (.t 30) (.t 29)]) (.seq (.seq (.drw [] [] none [0,1,2,3,4,5,6,7,8,9,10,11,12,13,14,15] [.mov 31 (.t 9),.bin 32 .add (.t 31) (.c (.int .i64 1)),.mov 33 (.t 5),.len 34 (.t 33),.bin 35 .lss (.t 32) (.t 34),.mov 36 (.t 35),.grd 36 true (.mov 37 (.t 5)),.grd 36 true (.mov 38 (.t 9)),.grd 36 true (.bin 39 .add (.t 38) (.c (.int .i64 1))),.grd 36 true (.iadr 40 3 (.t 37) (.t 39)),.grd 36 true (.fadr 41 (.t 40) 0),.grd 36 true (.load 42 none (.t 41)),.grd 36 true (.fadr 43 (.t 10) 0),.grd 36 true (.load 44 none (.t 43)),.grd 36 true (.bin 45 .eql (.t 42) (.t 44)),.pick 46 (.t 36) (.t 45) (.c (.bool false))]) (.cond (.t 46) (.exit 1) .skip)) (.seq (.ops [.load 47 none (.t 3),.aadr 48 (.t 6) (.c (.int .i64 0)) 2 1,.load 49 none (.t 48),.bin 50 .gtr (.t 49) (.c (.int .i64 0)),.aadr 51 (.t 6) (.c (.int .i64 1)) 2 1,.load 52 none (.t 51),.bin 53 .gtr (.t 52) (.c (.int .i64 0)),.callv 54 (.t 47) [(.t 50),(.t 53)],.asg 11 (.t 54)]) (.seq (.seq (.ops [.mov 55 (.t 11),.mov 56 (.t 55),.grd 56 true (.mov 57 (.t 8)),.grd 56 true (.un 58 .not (.t 57)),.pick 59 (.t 56) (.t 58) (.c (.bool false))]) (.cond (.t 59) (.ops [.fadr 60 (.t 10) 0,.load 61 none (.t 60),.asg 7 (.t 61)]) .skip)) (.seq (.seq (.ops [.mov 62 (.t 11),.un 63 .not (.t 62),.mov 64 (.t 63),.grd 64 true (.mov 65 (.t 8)),.pick 66 (.t 64) (.t 65) (.c (.bool false)),.mov 67 (.t 66),.grd 67 true (.mov 68 (.t 0)),.grd 67 true (.mov 69 (.t 7)),.grd 67 true (.fadr 70 (.t 10) 0),.grd 67 true (.load 71 none (.t 70)),.grd 67 true (.mov 72 (.t 7)),.grd 67 true (.bin 73 .sub (.t 71) (.t 72)),.grd 67 true (.build 74 [(.int .i64 0),(.int .i64 0)] [(0,1,(.t 69)),(1,1,(.t 73))]),.grd 67 true (.yield 75 (.t 68) [(.t 74)]),.grd 67 true (.un 76 .not (.t 75)),.pick 77 (.t 67) (.t 76) (.c (.bool false))]) (.cond (.t 77) .ret .skip)) (.ops [.mov 78 (.t 11),.asg 8 (.t 78)])))))))) (.ops [.bin 79 .add (.t 18) (.c (.int .i64 1)),.mov 18 (.t 79)]))))
def fn119_l1:VCode :=
(.clean [0,3,5,6,7,8,15,16,17,18] [] (.block 0 (.loop [0,3,5,6,7,8,15,16,17,18] fn119_b0)))
def fn119:VFn:=⟨4,80,[],(.seq (.ops [.load 12 none (.t 1),.load 13 none (.t 2),.mksl 14 1 [(.t 12),(.t 13)],.call 15 120 [(.t 14)],.asg 5 (.t 15)]) (.seq (.ops [.alloc 6 [(.int .i64 0),(.int .i64 0)]]) (.seq (.ops [.asg 7 (.c (.int .i64 0)),.asg 8 (.c (.bool false))]) (.seq (.ops [.mov 16 (.t 5),.len 17 (.t 16),.mov 18 (.c (.int .i64 0))])
   fn119_l1))))⟩
def fn120_b0:VCode:=(.seq (.ops [.bin 21 .lss (.t 20) (.t 19)]) (.seq (.cond (.t 21) .skip (.exit 2)) (.seq (.block 3 (.seq (.ops [.iadr 22 2 (.t 18) (.t 20),.load 23 (some 2) (.t 22),.alloc 7 [(.int .i64 0),(.int .i64 0)],.store none 2 (.t 7) (.t 23)]) (.seq (.ops [.load 25 (some 2) (.t 7),.call 26 141 [(.t 25)],.mov 24 (.t 26),.ext 27 (.t 24) 0,.ext 28 (.t 24) 1,.ext 29 (.t 24) 2,.asg 8 (.t 27),.asg 9 (.t 28),.asg 10 (.t 29)]) (.seq (.ops [.mov 30 (.t 10)]) (.cond (.t 30) (.ops [.mov 31 (.t 3),.mov 32 (.t 8),.mov 33 (.t 4),.build 34 [(.int .i64 0),(.int .i64 0),(.int .i64 0)] [(0,1,(.t 32)),(1,1,(.t 33)),(2,1,(.c (.int .i64 1)))],.mov 35 (.t 9),.mov 36 (.t 4),.build 37 [(.int .i64 0),(.int .i64 0),(.int .i64 0)] [(0,1,(.t 35)),(1,1,(.t 36)),(2,1,(.c (.int .i64 (-1))))],.mksl 38 3 [(.t 34),(.t 37)],.app 39 3 (.t 31) (.t 38),.asg 3 (.t 39)]) .skip))))) (.ops [.bin 40 .add (.t 20) (.c (.int .i64 1)),.mov 20 (.t 40)]))))
def fn120_l1:VCode :=
(.clean [0,3,4,5,11,12,13,17,18,19,20,39] [0,2,3,11,12,13,39] (.block 2 (.loop [0,3,4,5,11,12,13,17,18,19,20,39] fn120_b0)))
def fn120_b2:VCode:=(.seq (.ops [.bin 14 .lss (.t 13) (.t 12)]) (.seq (.cond (.t 14) .skip (.exit 0)) (.seq (.block 1 (.seq (.ops [.mov 15 (.t 13),.iadr 16 1 (.t 11) (.t 13),.load 17 none (.t 16),.asg 4 (.t 15),.asg 5 (.t 17)]) (.seq (.ops [.mov 18 (.t 5),.len 19 (.t 18),.mov 20 (.c (.int .i64 0))])
    fn120_l1))) (.ops [.bin 41 .add (.t 13) (.c (.int .i64 1)),.mov 13 (.t 41)]))))
def fn120_l3:VCode :=
(.clean [0,3,11,12,13,39] [2,3] (.block 0 (.loop [0,3,11,12,13,39] fn120_b2)))
def fn120:VFn:=⟨1,45,[.tmp 2],(.seq (.ops [.asg 2 (.nil 3)]) (.seq (.ops [.asg 3 (.nil 3)]) (.seq (.seq (.ops [.mov 11 (.t 0),.len 12 (.t 11),.mov 13 (.c (.int .i64 0))])
   fn120_l3) (.seq (.ops [.mov 42 (.t 3),.srt 43 142 (.t 42) (.c (.func 143 []))]) (.seq (.ops [.mov 44 (.t 3),.asg 2 (.t 44)]) .ret)))))⟩
def fn121:VFn:=⟨1,7,[.tmp 2],(.seq (.ops [.asg 2 (.c (.int .i64 0))]) (.seq (.ops [.mov 3 (.t 0),.bin 4 .add (.t 3) (.c (.int .i64 64)),.bin 5 .sub (.t 4) (.c (.int .i64 1)),.bin 6 .quo (.t 5) (.c (.int .i64 64)),.asg 2 (.t 6)]) .ret))⟩
def fn122:VFn:=⟨2,8,[.tmp 4],(.seq (.ops [.asg 4 (.c (.int .u64 0))]) (.seq (.ops [.mov 5 (.t 0),.mov 6 (.t 1),.bin 7 .or (.t 5) (.t 6),.asg 4 (.t 7)]) .ret))⟩
def fn123_b0:VCode:=(.seq (.ops [.bin 29 .lss (.t 28) (.t 27)]) (.seq (.cond (.t 29) .skip (.exit 0)) (.seq (.block 1 (.seq (.ops [.mov 30 (.t 28),.asg 10 (.t 30)]) (.drw [] [([0,1,2,3,4,5,6,7,8,9,10,11,12,13,14,15],16),([],17)] (some ([18],[],19,[])) [] [.mov 31 (.t 9),.mov 32 (.t 10),.fadr 33 (.t 3) 0,.load 34 none (.t 33),.mov 35 (.t 9),.mov 36 (.t 10),.iadr 37 1 (.t 35) (.t 36),.load 38 none (.t 37),.mov 39 (.t 10),.fadr 40 (.t 5) 0,.load 41 none (.t 40),.fadr 42 (.t 5) 0,.load 43 none (.t 42),.fadr 44 (.t 5) 1,.load 45 none (.t 44),.bin 46 .add (.t 43) (.t 45),.call 47 147 [(.t 39),(.t 41),(.t 46)],.callv 48 (.t 34) [(.t 38),(.t 47)],.iadr 49 1 (.t 31) (.t 32),.store none 1 (.t 49) (.t 48)]))) (.ops [.bin 50 .add (.t 28) (.c (.int .i64 1)),.mov 28 (.t 50)]))))
def fn123_l1:VCode :=
(.clean [3,4,5,6,9,25,27,28] [4,6,7,9] (.block 0 (.loop [3,4,5,6,9,25,27,28] fn123_b0)))
def fn123:VFn:=⟨3,55,[.cell 6 (some 2),.tmp 7],(.seq (.ops [.box 3 (.t 0),.box 4 (.t 1),.box 5 (.t 2),.alloc 6 [(.int .i64 0),(.list 1 [])],.asg 7 (.c (.int .i64 0))]) (.seq (.seq (.ops [.load 11 (some 2) (.t 4),.call 12 90 [(.t 11)],.asg 8 (.t 12)]) (.seq (.ops [.mov 13 (.t 8),.bin 14 .neq (.t 13) (.c (.int .i64 0))]) (.cond (.t 14) (.seq (.ops [.build 15 [(.int .i64 0),(.list 1 [])] [],.mov 16 (.t 8),.store none 2 (.t 6) (.t 15),.asg 7 (.t 16)]) .ret) .skip))) (.seq (.seq (.ops [.load 17 (some 2) (.t 5),.fadr 18 (.t 4) 0,.load 19 none (.t 18),.call 20 145 [(.t 17),(.t 19)],.un 21 .not (.t 20)]) (.cond (.t 21) (.seq (.ops [.build 22 [(.int .i64 0),(.list 1 [])] [],.store none 2 (.t 6) (.t 22),.asg 7 (.c (.int .i64 2))]) .ret) .skip)) (.seq (.ops [.fadr 23 (.t 4) 1,.load 24 none (.t 23),.call 25 146 [(.t 24)],.asg 9 (.t 25)]) (.seq (.seq (.ops [.mov 26 (.t 9),.len 27 (.t 26),.mov 28 (.c (.int .i64 0))])
    fn123_l1) (.seq (.ops [.fadr 51 (.t 4) 0,.load 52 none (.t 51),.mov 53 (.t 9),.build 54 [(.int .i64 0),(.list 1 [])] [(0,1,(.t 52)),(1,1,(.t 53))],.store none 2 (.t 6) (.t 54),.asg 7 (.c (.int .i64 0))]) .ret))))))⟩
def fn124:VFn:=⟨1,13,[.tmp 2],(.seq (.ops [.asg 2 (.c (.int .i64 0))]) (.seq (.seq (.ops [.mov 3 (.t 0),.len 4 (.t 3),.bin 5 .lss (.t 4) (.c (.int .i64 1)),.mov 6 (.t 5),.grd 6 false (.mov 7 (.t 0)),.grd 6 false (.len 8 (.t 7)),.grd 6 false (.bin 9 .gtr (.t 8) (.c (.int .i64 8))),.pick 10 (.t 6) (.c (.bool true)) (.t 9)]) (.cond (.t 10) (.seq (.ops [.asg 2 (.c (.int .i64 6))]) .ret) .skip)) (.seq (.seq (.ops [.mov 11 (.t 0),.call 12 129 [(.t 11),(.c (.func 148 []))]]) (.cond (.t 12) (.seq (.ops [.asg 2 (.c (.int .i64 2))]) .ret) .skip)) (.seq (.ops [.asg 2 (.c (.int .i64 0))]) .ret))))⟩
def fn126:VFn:=⟨2,6,[.tmp 4],(.seq (.ops [.box 2 (.t 0),.box 3 (.t 1),.asg 4 (.c .nilf)]) (.seq (.ops [.mkf 5 149 [(.t 2),(.t 3)],.asg 4 (.t 5)]) .ret))⟩
def fn127_b0:VCode:=(.seq (.ops [.bin 14 .lss (.t 13) (.t 12)]) (.seq (.cond (.t 14) .skip (.exit 0)) (.seq (.block 1 (.seq (.ops [.iadr 15 1 (.t 11) (.t 13),.load 16 none (.t 15),.asg 7 (.t 16)]) (.ops [.mov 17 (.t 5),.mov 18 (.t 1),.mov 19 (.t 7),.callv 20 (.t 18) [(.t 19)],.mksl 21 1 [(.t 20)],.app 22 1 (.t 17) (.t 21),.asg 5 (.t 22)]))) (.ops [.bin 23 .add (.t 13) (.c (.int .i64 1)),.mov 13 (.t 23)]))))
def fn127_l1:VCode :=
(.clean [0,1,5,10,11,12,13,22] [4,5] (.block 0 (.loop [0,1,5,10,11,12,13,22] fn127_b0)))
def fn127:VFn:=⟨2,25,[.tmp 4],(.seq (.ops [.asg 4 (.nil 1)]) (.seq (.ops [.mov 8 (.t 0),.len 9 (.t 8),.make 10 (.list 0 []) (.c (.int .i64 0)) (.t 9),.asg 5 (.t 10)]) (.seq (.seq (.ops [.mov 11 (.t 0),.len 12 (.t 11),.mov 13 (.c (.int .i64 0))])
   fn127_l1) (.seq (.ops [.mov 24 (.t 5),.asg 4 (.t 24)]) .ret))))⟩
def fn128:VFn:=⟨1,5,[.tmp 2],(.seq (.ops [.asg 2 (.nil 8)]) (.seq (.ops [.mov 3 (.t 0),.make 4 (.agg [(.int .u8 0),(.int .u8 0),(.int .u8 0),(.int .u8 0),(.int .u8 0),(.int .u8 0),(.int .u8 0),(.int .u8 0)]) (.t 3) (.t 3),.asg 2 (.t 4)]) .ret))⟩
def fn129:VFn:=⟨2,9,[.tmp 4],(.seq (.ops [.asg 4 (.c (.bool false))]) (.seq (.ops [.mov 5 (.t 0),.mov 6 (.t 1),.call 7 151 [(.t 5),(.t 6)],.bin 8 .geq (.t 7) (.c (.int .i64 0)),.asg 4 (.t 8)]) .ret))⟩
def fn130:VFn:=⟨1,6,[.tmp 2],(.seq (.ops [.asg 2 (.c (.bool false))]) (.seq (.ops [.mov 3 (.t 0),.call 4 97 [(.t 3),(.c (.int .i64 0)),(.c (.int .i64 1073741824))],.un 5 .not (.t 4),.asg 2 (.t 5)]) .ret))⟩
def fn131_b0:VCode:=(.seq (.ops [.bin 12 .lss (.t 11) (.t 10)]) (.seq (.cond (.t 12) .skip (.exit 0)) (.seq (.block 1 (.seq (.ops [.mov 13 (.t 11),.iadr 14 3 (.t 9) (.t 11),.load 15 (some 3) (.t 14),.alloc 6 [(.int .i64 0),(.int .i64 0),(.list 0 [])],.asg 5 (.t 13),.store none 3 (.t 6) (.t 15)]) (.seq (.seq (.ops [.mov 16 (.t 1),.load 17 (some 3) (.t 6),.callv 18 (.t 16) [(.t 17)],.asg 7 (.t 18)]) (.seq (.ops [.mov 19 (.t 7),.bin 20 .neq (.t 19) (.c (.int .i64 0))]) (.cond (.t 20) (.seq (.ops [.mov 21 (.t 7),.asg 4 (.t 21)]) .ret) .skip))) (.seq (.seq (.ops [.mov 22 (.t 5),.bin 23 .eql (.t 22) (.c (.int .i64 0))]) (.cond (.t 23) (.exit 1) .skip)) (.seq (.ops [.mov 24 (.t 0),.mov 25 (.t 5),.bin 26 .sub (.t 25) (.c (.int .i64 1)),.iadr 27 3 (.t 24) (.t 26),.load 28 (some 3) (.t 27),.alloc 8 [(.int .i64 0),(.int .i64 0),(.list 0 [])],.store none 3 (.t 8) (.t 28)]) (.seq (.ops [.fadr 29 (.t 6) 0,.load 30 none (.t 29),.fadr 31 (.t 8) 0,.load 32 none (.t 31),.bin 33 .lss (.t 30) (.t 32),.mov 34 (.t 33),.grd 34 false (.fadr 35 (.t 6) 0),.grd 34 false (.load 36 none (.t 35)),.grd 34 false (.fadr 37 (.t 8) 0),.grd 34 false (.load 38 none (.t 37)),.grd 34 false (.bin 39 .eql (.t 36) (.t 38)),.grd 34 false (.mov 40 (.t 39)),.grd 40 true (.fadr 41 (.t 6) 1),.grd 40 true (.load 42 none (.t 41)),.grd 40 true (.fadr 43 (.t 8) 1),.grd 40 true (.load 44 none (.t 43)),.grd 40 true (.fadr 45 (.t 8) 2),.grd 40 true (.load 46 none (.t 45)),.grd 40 true (.len 47 (.t 46)),.grd 40 true (.bin 48 .add (.t 44) (.t 47)),.grd 40 true (.bin 49 .leq (.t 42) (.t 48)),.grd 34 false (.pick 50 (.t 40) (.t 49) (.c (.bool false))),.pick 51 (.t 34) (.c (.bool true)) (.t 50)]) (.cond (.t 51) (.seq (.ops [.asg 4 (.c (.int .i64 3))]) .ret) .skip))))))) (.ops [.bin 52 .add (.t 11) (.c (.int .i64 1)),.mov 11 (.t 52)]))))
def fn131_l1:VCode :=
(.clean [0,1,9,10,11] [4] (.block 0 (.loop [0,1,9,10,11] fn131_b0)))
def fn131:VFn:=⟨2,53,[.tmp 4],(.seq (.ops [.asg 4 (.c (.int .i64 0))]) (.seq (.seq (.ops [.mov 9 (.t 0),.len 10 (.t 9),.mov 11 (.c (.int .i64 0))])
  fn131_l1) (.seq (.ops [.asg 4 (.c (.int .i64 0))]) .ret)))⟩
def fn132:VFn:=⟨2,7,[.tmp 3],(.seq (.ops [.box 2 (.t 0),.asg 3 (.c (.int .i64 0))]) (.seq (.ops [.load 4 none (.t 1),.load 5 (some 3) (.t 2),.call 6 133 [(.t 4),(.t 5)],.asg 3 (.t 6)]) .ret))⟩
def fn133:VFn:=⟨2,14,[.tmp 4],(.seq (.ops [.box 3 (.t 1),.asg 4 (.c (.int .i64 0))]) (.seq (.seq (.ops [.mov 6 (.t 0),.call 7 85 [(.t 6)],.asg 5 (.t 7)]) (.seq (.ops [.mov 8 (.t 5),.bin 9 .neq (.t 8) (.c (.int .i64 0))]) (.cond (.t 9) (.seq (.ops [.mov 10 (.t 5),.asg 4 (.t 10)]) .ret) .skip))) (.seq (.ops [.mov 11 (.t 0),.load 12 (some 3) (.t 3),.call 13 89 [(.t 11),(.t 12)],.asg 4 (.t 13)]) .ret)))⟩
def fn135:VFn:=⟨2,10,[.tmp 4],(.seq (.ops [.asg 4 (.c (.bool false))]) (.seq (.ops [.mov 5 (.t 0),.len 6 (.t 5),.mov 7 (.t 1),.len 8 (.t 7),.bin 9 .eql (.t 6) (.t 8),.asg 4 (.t 9)]) .ret))⟩
def fn136:VFn:=⟨2,11,[.cell 4 (some 2),.tmp 5],(.seq (.ops [.box 2 (.t 0),.box 3 (.t 1),.alloc 4 [(.int .i64 0),(.list 1 [])],.asg 5 (.c (.int .i64 0))]) (.seq (.ops [.load 6 (some 2) (.t 2),.load 7 (some 2) (.t 3),.call 8 152 [(.t 6),(.t 7),(.c (.func 153 []))],.ext 9 (.t 8) 0,.ext 10 (.t 8) 1,.store none 2 (.t 4) (.t 9),.asg 5 (.t 10)]) .ret))⟩
def fn138_b0:VCode:=(.seq (.ops [.bin 14 .lss (.t 13) (.t 12)]) (.seq (.cond (.t 14) .skip (.exit 0)) (.seq (.block 1 (.seq (.ops [.iadr 15 1 (.t 11) (.t 13),.load 16 none (.t 15),.asg 7 (.t 16)]) (.ops [.mov 17 (.t 5),.mov 18 (.t 1),.mov 19 (.t 7),.callv 20 (.t 18) [(.t 19)],.mksl 21 1 [(.t 20)],.app 22 1 (.t 17) (.t 21),.asg 5 (.t 22)]))) (.ops [.bin 23 .add (.t 13) (.c (.int .i64 1)),.mov 13 (.t 23)]))))
def fn138_l1:VCode :=
(.clean [0,1,5,10,11,12,13,22] [4,5] (.block 0 (.loop [0,1,5,10,11,12,13,22] fn138_b0)))
def fn138:VFn:=⟨2,25,[.tmp 4],(.seq (.ops [.asg 4 (.nil 1)]) (.seq (.ops [.mov 8 (.t 0),.len 9 (.t 8),.make 10 (.int .i64 0) (.c (.int .i64 0)) (.t 9),.asg 5 (.t 10)]) (.seq (.seq (.ops [.mov 11 (.t 0),.len 12 (.t 11),.mov 13 (.c (.int .i64 0))])
   fn138_l1) (.seq (.ops [.mov 24 (.t 5),.asg 4 (.t 24)]) .ret))))⟩
def fn139:VFn:=⟨1,5,[.tmp 2],(.seq (.ops [.asg 2 (.c (.int .i64 0))]) (.seq (.ops [.mov 3 (.t 0),.len 4 (.t 3),.asg 2 (.t 4)]) .ret))⟩
def fn140_b0:VCode:=(.seq (.ops [.bin 8 .lss (.t 7) (.t 6)]) (.seq (.cond (.t 8) .skip (.exit 0)) (.seq (.block 1 (.seq (.ops [.mov 9 (.t 7),.asg 4 (.t 9)]) (.seq (.drw [] [] (some ([0,1,2,3,4,5,6,7,8,9,10,11],[],12,[])) [13,14] [.load 10 none (.t 1),.mov 11 (.t 4),.iadr 12 8 (.t 10) (.t 11),.load 13 (some 8) (.t 12),.load 14 none (.t 2),.mov 15 (.t 4),.iadr 16 8 (.t 14) (.t 15),.load 17 (some 8) (.t 16),.eqa 18 true 8 (.t 13) (.t 17),.mov 19 (.t 18),.grd 19 true (.mov 20 (.t 0)),.grd 19 true (.mov 21 (.t 4)),.grd 19 true (.yield 22 (.t 20) [(.t 21)]),.grd 19 true (.un 23 .not (.t 22)),.pick 24 (.t 19) (.t 23) (.c (.bool false))]) (.cond (.t 24) .ret .skip)))) (.ops [.bin 25 .add (.t 7) (.c (.int .i64 1)),.mov 7 (.t 25)]))))
def fn140_l1:VCode :=
(.clean [0,1,2,6,7] [] (.block 0 (.loop [0,1,2,6,7] fn140_b0)))
def fn140:VFn:=⟨3,26,[],(.seq (.ops [.load 5 none (.t 1),.len 6 (.t 5),.mov 7 (.c (.int .i64 0))])
 fn140_l1)⟩
def fn141:VFn:=⟨1,35,[.tmp 2,.tmp 3,.tmp 4],(.seq (.ops [.box 1 (.t 0),.asg 2 (.c (.int .i64 0)),.asg 3 (.c (.int .i64 0)),.asg 4 (.c (.bool false))]) (.seq (.seq (.ops [.fadr 7 (.t 1) 1,.load 8 none (.t 7),.bin 9 .leq (.t 8) (.c (.int .i64 0))]) (.cond (.t 9) (.seq (.ops [.asg 2 (.c (.int .i64 0)),.asg 3 (.c (.int .i64 0)),.asg 4 (.c (.bool false))]) .ret) .skip)) (.seq (.ops [.fadr 10 (.t 1) 0,.load 11 none (.t 10),.mn 12 true (.t 11) (.c (.int .i64 0)),.asg 5 (.t 12),.asg 6 (.c (.int .i64 4096))]) (.seq (.seq (.ops [.fadr 13 (.t 1) 0,.load 14 none (.t 13),.bin 15 .lss (.t 14) (.c (.int .i64 0)),.mov 16 (.t 15),.grd 16 false (.fadr 17 (.t 1) 1),.grd 16 false (.load 18 none (.t 17)),.grd 16 false (.fadr 19 (.t 1) 0),.grd 16 false (.load 20 none (.t 19)),.grd 16 false (.bin 21 .sub (.c (.int .i64 4096)) (.t 20)),.grd 16 false (.bin 22 .lss (.t 18) (.t 21)),.pick 23 (.t 16) (.c (.bool true)) (.t 22)]) (.cond (.t 23) (.ops [.fadr 24 (.t 1) 0,.load 25 none (.t 24),.fadr 26 (.t 1) 1,.load 27 none (.t 26),.bin 28 .add (.t 25) (.t 27),.mn 29 false (.t 28) (.c (.int .i64 4096)),.asg 6 (.t 29)]) .skip)) (.seq (.ops [.mov 30 (.t 5),.mov 31 (.t 6),.mov 32 (.t 5),.mov 33 (.t 6),.bin 34 .lss (.t 32) (.t 33),.asg 2 (.t 30),.asg 3 (.t 31),.asg 4 (.t 34)]) .ret)))))⟩
def fn143:VFn:=⟨2,10,[.tmp 4],(.seq (.ops [.box 2 (.t 0),.box 3 (.t 1),.asg 4 (.c (.int .i64 0))]) (.seq (.ops [.fadr 5 (.t 2) 0,.load 6 none (.t 5),.fadr 7 (.t 3) 0,.load 8 none (.t 7),.call 9 144 [(.t 6),(.t 8)],.asg 4 (.t 9)]) .ret))⟩
def fn144:VFn:=⟨2,20,[.tmp 4],(.seq (.ops [.asg 4 (.c (.int .i64 0))]) (.seq (.ops [.mov 7 (.t 0),.call 8 157 [(.t 7)],.asg 5 (.t 8)]) (.seq (.ops [.mov 9 (.t 1),.call 10 157 [(.t 9)],.asg 6 (.t 10)]) (.seq (.seq (.ops [.mov 11 (.t 5)]) (.cond (.t 11) (.seq (.seq (.ops [.mov 12 (.t 6)]) (.cond (.t 12) (.seq (.ops [.asg 4 (.c (.int .i64 0))]) .ret) .skip)) (.seq (.ops [.asg 4 (.c (.int .i64 (-1)))]) .ret)) .skip)) (.seq (.seq (.ops [.mov 13 (.t 6)]) (.cond (.t 13) (.seq (.ops [.asg 4 (.c (.int .i64 1))]) .ret) .skip)) (.seq (.seq (.ops [.mov 14 (.t 0),.mov 15 (.t 1),.bin 16 .lss (.t 14) (.t 15)]) (.cond (.t 16) (.seq (.ops [.asg 4 (.c (.int .i64 (-1)))]) .ret) .skip)) (.seq (.seq (.ops [.mov 17 (.t 0),.mov 18 (.t 1),.bin 19 .gtr (.t 17) (.t 18)]) (.cond (.t 19) (.seq (.ops [.asg 4 (.c (.int .i64 1))]) .ret) .skip)) (.seq (.ops [.asg 4 (.c (.int .i64 0))]) .ret))))))))⟩
def fn145:VFn:=⟨2,28,[.tmp 4],(.seq (.ops [.box 2 (.t 0),.asg 4 (.c (.bool false))]) (.seq (.ops [.fadr 5 (.t 2) 0,.load 6 none (.t 5),.bin 7 .geq (.t 6) (.c (.int .i64 0)),.mov 8 (.t 7),.grd 8 true (.fadr 9 (.t 2) 1),.grd 8 true (.load 10 none (.t 9)),.grd 8 true (.bin 11 .geq (.t 10) (.c (.int .i64 0))),.pick 12 (.t 8) (.t 11) (.c (.bool false)),.mov 13 (.t 12),.grd 13 true (.fadr 14 (.t 2) 0),.grd 13 true (.load 15 none (.t 14)),.grd 13 true (.mov 16 (.t 1)),.grd 13 true (.bin 17 .leq (.t 15) (.t 16)),.pick 18 (.t 13) (.t 17) (.c (.bool false)),.mov 19 (.t 18),.grd 19 true (.fadr 20 (.t 2) 1),.grd 19 true (.load 21 none (.t 20)),.grd 19 true (.mov 22 (.t 1)),.grd 19 true (.fadr 23 (.t 2) 0),.grd 19 true (.load 24 none (.t 23)),.grd 19 true (.bin 25 .sub (.t 22) (.t 24)),.grd 19 true (.bin 26 .leq (.t 21) (.t 25)),.pick 27 (.t 19) (.t 26) (.c (.bool false)),.asg 4 (.t 27)]) .ret))⟩
def fn146:VFn:=⟨1,8,[.tmp 2],(.seq (.ops [.asg 2 (.nil 1)]) (.seq (.seq (.ops [.mov 3 (.t 0),.isn 4 false (.t 3)]) (.cond (.t 4) (.seq (.ops [.asg 2 (.nil 1)]) .ret) .skip)) (.seq (.ops [.mksl 5 1 [],.mov 6 (.t 0),.app 7 1 (.t 5) (.t 6),.asg 2 (.t 7)]) .ret)))⟩
def fn147:VFn:=⟨3,27,[.tmp 6],(.seq (.ops [.asg 6 (.c (.int .u64 0))]) (.seq (.ops [.mov 7 (.t 1),.mov 8 (.t 0),.bin 9 .mul (.t 8) (.c (.int .i64 64)),.bin 10 .sub (.t 7) (.t 9),.mn 11 true (.t 10) (.c (.int .i64 0)),.mov 12 (.t 2),.mov 13 (.t 0),.bin 14 .mul (.t 13) (.c (.int .i64 64)),.bin 15 .sub (.t 12) (.t 14),.mn 16 false (.t 15) (.c (.int .i64 64)),.asg 1 (.t 11),.asg 2 (.t 16)]) (.seq (.seq (.ops [.mov 17 (.t 1),.mov 18 (.t 2),.bin 19 .geq (.t 17) (.t 18)]) (.cond (.t 19) (.seq (.ops [.asg 6 (.c (.int .u64 0))]) .ret) .skip)) (.seq (.ops [.mov 20 (.t 2),.mov 21 (.t 1),.bin 22 .sub (.t 20) (.t 21),.bin 23 .sub (.c (.int .i64 64)) (.t 22),.bin 24 .shr (.c (.int .u64 18446744073709551615)) (.t 23),.mov 25 (.t 1),.bin 26 .shl (.t 24) (.t 25),.asg 6 (.t 26)]) .ret))))⟩
def fn148:VFn:=⟨1,9,[.tmp 2],(.seq (.ops [.asg 2 (.c (.bool false))]) (.seq (.ops [.mov 3 (.t 0),.bin 4 .lss (.t 3) (.c (.int .i64 1)),.mov 5 (.t 4),.grd 5 false (.mov 6 (.t 0)),.grd 5 false (.bin 7 .gtr (.t 6) (.c (.int .i64 4096))),.pick 8 (.t 5) (.c (.bool true)) (.t 7),.asg 2 (.t 8)]) .ret))⟩
def fn149_b0:VCode:=(.seq (.seq (.ops [.mov 24 (.t 5),.bin 25 .neq (.t 24) (.c (.int .u64 0))]) (.cond (.t 25) .skip (.exit 2))) (.block 3 (.seq (.seq (.ops [.mov 26 (.t 0),.mov 27 (.t 4),.bin 28 .mul (.t 27) (.c (.int .i64 64)),.mov 29 (.t 5),.call 30 150 [(.t 29)],.bin 31 .add (.t 28) (.t 30),.yield 32 (.t 26) [(.t 31)],.un 33 .not (.t 32)]) (.cond (.t 33) .ret .skip)) (.ops [.mov 34 (.t 5),.mov 35 (.t 5),.bin 36 .sub (.t 35) (.c (.int .u64 1)),.bin 37 .and (.t 34) (.t 36),.asg 5 (.t 37)]))))
def fn149_l1:VCode :=
(.clean [0,1,2,4,5,10,11,12] [0,1,2,10,11,12] (.block 2 (.loop [0,1,2,4,5,10,11,12] fn149_b0)))
def fn149_b2:VCode:=(.seq (.ops [.bin 13 .lss (.t 12) (.t 11)]) (.seq (.cond (.t 13) .skip (.exit 0)) (.seq (.block 1 (.seq (.ops [.mov 14 (.t 12),.iadr 15 1 (.t 10) (.t 12),.load 16 none (.t 15),.asg 4 (.t 14),.asg 5 (.t 16)]) (.seq (.ops [.mov 17 (.t 5),.mov 18 (.t 4),.load 19 none (.t 2),.fadr 20 (.t 1) 0,.load 21 none (.t 20),.call 22 147 [(.t 18),(.t 19),(.t 21)],.bin 23 .and (.t 17) (.t 22),.asg 5 (.t 23)])
    fn149_l1))) (.ops [.bin 38 .add (.t 12) (.c (.int .i64 1)),.mov 12 (.t 38)]))))
def fn149_l3:VCode :=
(.clean [0,1,2,10,11,12] [] (.block 0 (.loop [0,1,2,10,11,12] fn149_b2)))
def fn149:VFn:=⟨3,39,[],(.seq (.seq (.ops [.load 6 (some 2) (.t 1),.call 7 90 [(.t 6)],.bin 8 .neq (.t 7) (.c (.int .i64 0))]) (.cond (.t 8) .ret .skip)) (.seq (.ops [.fadr 9 (.t 1) 1,.load 10 none (.t 9),.len 11 (.t 10),.mov 12 (.c (.int .i64 0))])
  fn149_l3))⟩
def fn151_b0:VCode:=(.seq (.ops [.bin 9 .lss (.t 8) (.t 7)]) (.seq (.cond (.t 9) .skip (.exit 0)) (.seq (.block 1 (.seq (.ops [.mov 10 (.t 8),.asg 5 (.t 10)]) (.seq (.ops [.mov 11 (.t 1),.mov 12 (.t 0),.mov 13 (.t 5),.iadr 14 1 (.t 12) (.t 13),.load 15 none (.t 14),.callv 16 (.t 11) [(.t 15)]]) (.cond (.t 16) (.seq (.ops [.mov 17 (.t 5),.asg 4 (.t 17)]) .ret) .skip)))) (.ops [.bin 18 .add (.t 8) (.c (.int .i64 1)),.mov 8 (.t 18)]))))
def fn151_l1:VCode :=
(.clean [0,1,7,8] [4] (.block 0 (.loop [0,1,7,8] fn151_b0)))
def fn151:VFn:=⟨2,19,[.tmp 4],(.seq (.ops [.asg 4 (.c (.int .i64 0))]) (.seq (.seq (.ops [.mov 6 (.t 0),.len 7 (.t 6),.mov 8 (.c (.int .i64 0))])
  fn151_l1) (.seq (.ops [.asg 4 (.c (.int .i64 (-1)))]) .ret)))⟩
def fn152_b0:VCode:=(.seq (.ops [.bin 37 .lss (.t 36) (.t 35)]) (.seq (.cond (.t 37) .skip (.exit 0)) (.seq (.block 1 (.seq (.ops [.mov 38 (.t 36),.asg 11 (.t 38)]) (.drw [] [([0,1,2,3,4,5,6,7,8,9,10,11,12],13)] (some ([14],[],15,[])) [] [.mov 39 (.t 10),.mov 40 (.t 11),.mov 41 (.t 2),.fadr 42 (.t 3) 1,.load 43 none (.t 42),.mov 44 (.t 11),.iadr 45 1 (.t 43) (.t 44),.load 46 none (.t 45),.fadr 47 (.t 4) 1,.load 48 none (.t 47),.mov 49 (.t 11),.iadr 50 1 (.t 48) (.t 49),.load 51 none (.t 50),.callv 52 (.t 41) [(.t 46),(.t 51)],.iadr 53 1 (.t 39) (.t 40),.store none 1 (.t 53) (.t 52)]))) (.ops [.bin 54 .add (.t 36) (.c (.int .i64 1)),.mov 36 (.t 54)]))))
def fn152_l1:VCode :=
(.clean [2,3,4,6,10,33,35,36] [3,6,7,10] (.block 0 (.loop [2,3,4,6,10,33,35,36] fn152_b0)))
def fn152:VFn:=⟨3,59,[.cell 6 (some 2),.tmp 7],(.seq (.ops [.box 3 (.t 0),.box 4 (.t 1),.alloc 6 [(.int .i64 0),(.list 1 [])],.asg 7 (.c (.int .i64 0))]) (.seq (.seq (.ops [.load 12 (some 2) (.t 3),.call 13 90 [(.t 12)],.asg 8 (.t 13)]) (.seq (.ops [.mov 14 (.t 8),.bin 15 .neq (.t 14) (.c (.int .i64 0))]) (.cond (.t 15) (.seq (.ops [.build 16 [(.int .i64 0),(.list 1 [])] [],.mov 17 (.t 8),.store none 2 (.t 6) (.t 16),.asg 7 (.t 17)]) .ret) .skip))) (.seq (.seq (.ops [.load 18 (some 2) (.t 4),.call 19 90 [(.t 18)],.asg 9 (.t 19)]) (.seq (.ops [.mov 20 (.t 9),.bin 21 .neq (.t 20) (.c (.int .i64 0))]) (.cond (.t 21) (.seq (.ops [.build 22 [(.int .i64 0),(.list 1 [])] [],.mov 23 (.t 9),.store none 2 (.t 6) (.t 22),.asg 7 (.t 23)]) .ret) .skip))) (.seq (.seq (.ops [.fadr 24 (.t 3) 0,.load 25 none (.t 24),.fadr 26 (.t 4) 0,.load 27 none (.t 26),.bin 28 .neq (.t 25) (.t 27)]) (.cond (.t 28) (.seq (.ops [.build 29 [(.int .i64 0),(.list 1 [])] [],.store none 2 (.t 6) (.t 29),.asg 7 (.c (.int .i64 22))]) .ret) .skip)) (.seq (.ops [.fadr 30 (.t 3) 1,.load 31 none (.t 30),.len 32 (.t 31),.make 33 (.int .u64 0) (.t 32) (.t 32),.asg 10 (.t 33)]) (.seq (.seq (.ops [.mov 34 (.t 10),.len 35 (.t 34),.mov 36 (.c (.int .i64 0))])
    fn152_l1) (.seq (.ops [.fadr 55 (.t 3) 0,.load 56 none (.t 55),.mov 57 (.t 10),.build 58 [(.int .i64 0),(.list 1 [])] [(0,1,(.t 56)),(1,1,(.t 57))],.store none 2 (.t 6) (.t 58),.asg 7 (.c (.int .i64 0))]) .ret)))))))⟩
def fn153:VFn:=⟨2,8,[.tmp 4],(.seq (.ops [.asg 4 (.c (.int .u64 0))]) (.seq (.ops [.mov 5 (.t 0),.mov 6 (.t 1),.bin 7 .or (.t 5) (.t 6),.asg 4 (.t 7)]) .ret))⟩
def fn157:VFn:=⟨1,6,[.tmp 2],(.seq (.ops [.asg 2 (.c (.bool false))]) (.seq (.ops [.mov 3 (.t 0),.mov 4 (.t 0),.bin 5 .neq (.t 3) (.t 4),.asg 2 (.t 5)]) .ret))⟩
def tab:List (Nat × VDef):=[(8,.code fn8),(11,.code fn11),(12,.dfn fn12),(15,.dfn fn15),(17,.code fn17),(20,.code fn20),(22,.code fn22),(23,.code fn23),(24,.dfn fn24),(27,.code fn27),(30,.code fn30),(31,.code fn31),(32,.code fn32),(33,.code fn33),(34,.code fn34),(35,.code fn35),(36,.code fn36),(37,.code fn37),(38,.ext applyX),(39,.code fn39),(40,.code fn40),(42,.code fn42),(43,.code fn43),(44,.code fn44),(45,.code fn45),(46,.code fn46),(48,.code fn48),(49,.code fn49),(50,.code fn50),(51,.thr demandX),(52,.code fn52),(53,.code fn53),(54,.code fn54),(62,.code fn62),(65,.code fn65),(66,.code fn66),(68,.code fn68),(69,.code fn69),(70,.code fn70),(71,.code fn71),(75,.code fn75),(76,.code fn76),(77,.code fn77),(78,.code fn78),(79,.code fn79),(80,.code fn80),(81,.code fn81),(82,.code fn82),(83,.code fn83),(84,.code fn84),(85,.code fn85),(86,.code fn86),(87,.code fn87),(89,.code fn89),(90,.code fn90),(92,.code fn92),(93,.code fn93),(94,.code fn94),(95,.ext (cloneX 8)),(96,.code fn96),(97,.code fn97),(98,.code fn98),(99,.code fn99),(111,.code fn111),(112,.code fn112),(115,.code fn115),(116,.code fn116),(117,.code fn117),(118,.code fn118),(119,.code fn119),(120,.code fn120),(121,.code fn121),(122,.code fn122),(123,.code fn123),(124,.code fn124),(126,.code fn126),(127,.code fn127),(128,.code fn128),(129,.code fn129),(130,.code fn130),(131,.code fn131),(132,.code fn132),(133,.code fn133),(135,.code fn135),(136,.code fn136),(138,.code fn138),(139,.code fn139),(140,.code fn140),(141,.code fn141),(142,.srt (sortEndsX 143)),(143,.code fn143),(144,.code fn144),(145,.code fn145),(146,.ext (cloneX 1)),(147,.code fn147),(148,.code fn148),(149,.code fn149),(150,.ext tzX),(151,.code fn151),(152,.code fn152),(153,.code fn153),(157,.code fn157)]
def env:Env:=fun f=>tab.lookup f
theorem env8:env 8=some (.code fn8):=rfl
theorem env11:env 11=some (.code fn11):=rfl
theorem env17:env 17=some (.code fn17):=rfl
theorem env22:env 22=some (.code fn22):=rfl
theorem env23:env 23=some (.code fn23):=rfl
theorem env24:env 24=some (.dfn fn24):=rfl
theorem env27:env 27=some (.code fn27):=rfl
theorem env30:env 30=some (.code fn30):=rfl
theorem env31:env 31=some (.code fn31):=rfl
theorem env32:env 32=some (.code fn32):=rfl
theorem env33:env 33=some (.code fn33):=rfl
theorem env34:env 34=some (.code fn34):=rfl
theorem env35:env 35=some (.code fn35):=rfl
theorem env38:env 38=some (.ext applyX):=rfl
theorem env39:env 39=some (.code fn39):=rfl
theorem env40:env 40=some (.code fn40):=rfl
theorem env42:env 42=some (.code fn42):=rfl
theorem env44:env 44=some (.code fn44):=rfl
theorem env45:env 45=some (.code fn45):=rfl
theorem env49:env 49=some (.code fn49):=rfl
theorem env50:env 50=some (.code fn50):=rfl
theorem env51:env 51=some (.thr demandX):=rfl
theorem env52:env 52=some (.code fn52):=rfl
theorem env65:env 65=some (.code fn65):=rfl
theorem env69:env 69=some (.code fn69):=rfl
theorem env70:env 70=some (.code fn70):=rfl
theorem env71:env 71=some (.code fn71):=rfl
theorem env75:env 75=some (.code fn75):=rfl
theorem env76:env 76=some (.code fn76):=rfl
theorem env77:env 77=some (.code fn77):=rfl
theorem env78:env 78=some (.code fn78):=rfl
theorem env79:env 79=some (.code fn79):=rfl
theorem env80:env 80=some (.code fn80):=rfl
theorem env81:env 81=some (.code fn81):=rfl
theorem env82:env 82=some (.code fn82):=rfl
theorem env83:env 83=some (.code fn83):=rfl
theorem env84:env 84=some (.code fn84):=rfl
theorem env85:env 85=some (.code fn85):=rfl
theorem env86:env 86=some (.code fn86):=rfl
theorem env90:env 90=some (.code fn90):=rfl
theorem env92:env 92=some (.code fn92):=rfl
theorem env93:env 93=some (.code fn93):=rfl
theorem env94:env 94=some (.code fn94):=rfl
theorem env111:env 111=some (.code fn111):=rfl
theorem env112:env 112=some (.code fn112):=rfl
theorem env115:env 115=some (.code fn115):=rfl
theorem env116:env 116=some (.code fn116):=rfl
theorem env117:env 117=some (.code fn117):=rfl
theorem env118:env 118=some (.code fn118):=rfl
theorem env119:env 119=some (.code fn119):=rfl
theorem env120:env 120=some (.code fn120):=rfl
theorem env121:env 121=some (.code fn121):=rfl
theorem env122:env 122=some (.code fn122):=rfl
theorem env123:env 123=some (.code fn123):=rfl
theorem env124:env 124=some (.code fn124):=rfl
theorem env126:env 126=some (.code fn126):=rfl
theorem env129:env 129=some (.code fn129):=rfl
theorem env135:env 135=some (.code fn135):=rfl
theorem env136:env 136=some (.code fn136):=rfl
theorem env138:env 138=some (.code fn138):=rfl
theorem env139:env 139=some (.code fn139):=rfl
theorem env140:env 140=some (.code fn140):=rfl
theorem env141:env 141=some (.code fn141):=rfl
theorem env142:env 142=some (.srt (sortEndsX 143)):=rfl
theorem env145:env 145=some (.code fn145):=rfl
theorem env146:env 146=some (.ext (cloneX 1)):=rfl
theorem env147:env 147=some (.code fn147):=rfl
theorem env148:env 148=some (.code fn148):=rfl
theorem env149:env 149=some (.code fn149):=rfl
theorem env150:env 150=some (.ext tzX):=rfl
theorem env151:env 151=some (.code fn151):=rfl
theorem env152:env 152=some (.code fn152):=rfl
theorem env153:env 153=some (.code fn153):=rfl
end Go.Proofs.YtioijcfcehhmdaaGreatDoor

namespace Go.Proofs.YtioijcfcehhmdaaGreatDoor
open V
def vAll:=(And.intro (And.intro (And.intro (And.intro (And.intro (And.intro (And.intro (And.intro @tfin_normal (And.intro @tfin_ret @tfin_thr)) (And.intro (And.intro @den_dem @demEnd_some) (And.intro @demEnd_none @next_thr))) (And.intro (And.intro @endBlock_thr (And.intro @tail_thr @den_drs)) (And.intro (And.intro @dalts_cons @dagree_nil) (And.intro @dagree_cons @sameAs_same)))) (And.intro (And.intro (And.intro @dalt_eq (And.intro @altEnd_false @altEnd_true)) (And.intro (And.intro @pickV_nil @pickV_one) (And.intro @den_skip @List.foldl_nil.{0,0}))) (And.intro (And.intro @List.foldl_cons.{0,0} (And.intro @den_ops @den_drw)) (And.intro (And.intro @den_seq @den_cond) (And.intro @den_block @den_exit))))) (And.intro (And.intro (And.intro (And.intro @den_ret (And.intro @next_normal @next_exit)) (And.intro (And.intro @next_ret @endBlock_normal) (And.intro @endBlock_ret @endBlock_exit))) (And.intro (And.intro @tail_normal (And.intro @tail_ret @tail_exit)) (And.intro (And.intro @fin_normal @fin_ret) (And.intro @bcase_true @bcase_false)))) (And.intro (And.intro (And.intro @z_bind_some (And.intro @z_map_some @z_bind_none)) (And.intro (And.intro @z_map_none @resultsOf.eq_1) (And.intro @resultsOf.eq_2 @resultsOf.eq_3))) (And.intro (And.intro (And.intro @resultList.eq_1 @resultList.eq_2) (And.intro @resultOf.eq_1 @resultOf.eq_2)) (And.intro (And.intro @resultOf.eq_3 @zBV.eq_1) (And.intro @zBV.eq_2 @splice.eq_1)))))) (And.intro (And.intro (And.intro (And.intro (And.intro @PV.remade.eq_1 (And.intro @PV.remade.eq_2 @PV.remade.eq_3)) (And.intro (And.intro @PV.remade.eq_4 @St.freezeAt.eq_1) (And.intro @St.freezeBox.eq_1 @St.freezeCap.eq_1))) (And.intro (And.intro @St.freezeCap.eq_2 (And.intro @PV.single.eq_1 @PV.single.eq_2)) (And.intro (And.intro @dops_nil @dops_cons) (And.intro @dop_grd @dop_pick)))) (And.intro (And.intro (And.intro @dop_call (And.intro @dop_callv @op1_call)) (And.intro (And.intro @op1_callv @dop_lin) (And.intro @dop_linv @op1_lin))) (And.intro (And.intro (And.intro @op1_linv @op1_pick) (And.intro @dop_mov @dop_asg)) (And.intro (And.intro @dop_bin @dop_eqa) (And.intro @dop_eqb @dop_eqm))))) (And.intro (And.intro (And.intro (And.intro @dop_isn (And.intro @dop_cut @dop_asl)) (And.intro (And.intro @dop_asz @dop_ldz) (And.intro @dop_srt @dop_stw))) (And.intro (And.intro @dop_bldo (And.intro @dop_mvz @dop_un)) (And.intro (And.intro @dop_conv @dop_load) (And.intro @dop_fadr @dop_aadr)))) (And.intro (And.intro (And.intro @dop_iadr (And.intro @dop_fld @dop_idx)) (And.intro (And.intro @dop_sli @dop_len) (And.intro @dop_lens @dop_ext))) (And.intro (And.intro (And.intro @dop_build @dop_mn) (And.intro @dop_mkf @dop_alloc)) (And.intro (And.intro @dop_box @dop_store) (And.intro @dop_mksl @dop_make))))))) (And.intro (And.intro (And.intro (And.intro (And.intro (And.intro @dop_app (And.intro @dop_apb @dop_cpy)) (And.intro (And.intro @dop_yield @op1_mov) (And.intro @op1_asg @op1_bin))) (And.intro (And.intro @op1_eqa (And.intro @op1_eqb @op1_eqm)) (And.intro (And.intro @op1_isn @op1_cut) (And.intro @op1_asl @op1_asz)))) (And.intro (And.intro (And.intro @op1_ldz (And.intro @op1_srt @op1_stw)) (And.intro (And.intro @op1_bldo @op1_mvz) (And.intro @op1_un @op1_conv))) (And.intro (And.intro (And.intro @op1_load @op1_fadr) (And.intro @op1_aadr @op1_iadr)) (And.intro (And.intro @op1_fld @op1_idx) (And.intro @op1_sli @op1_len))))) (And.intro (And.intro (And.intro (And.intro @op1_lens (And.intro @op1_ext @op1_build)) (And.intro (And.intro @op1_mn @op1_mkf) (And.intro @op1_alloc @op1_box))) (And.intro (And.intro @op1_store (And.intro @op1_mksl @op1_make)) (And.intro (And.intro @op1_app @op1_apb) (And.intro @op1_cpy @op1_yield)))) (And.intro (And.intro (And.intro @plain.eq_1 (And.intro @plain.eq_2 @plain.eq_3)) (And.intro (And.intro @plain.eq_4 @plain.eq_5) (And.intro @plain.eq_6 @plain.eq_7))) (And.intro (And.intro (And.intro @plain.eq_8 @plain.eq_9) (And.intro @plain.eq_10 @plain.eq_11)) (And.intro (And.intro @plain.eq_12 @plain.eq_13) (And.intro @plain.eq_14 @plain.eq_15)))))) (And.intro (And.intro (And.intro (And.intro (And.intro @plain.eq_16 (And.intro @plain.eq_17 @plain.eq_18)) (And.intro (And.intro @plain.eq_19 @plain.eq_20) (And.intro @plain.eq_21 @plain.eq_22))) (And.intro (And.intro @plain.eq_23 (And.intro @plain.eq_24 @plain.eq_25)) (And.intro (And.intro @plain.eq_26 @plain.eq_27) (And.intro @plain.eq_28 @plain.eq_29)))) (And.intro (And.intro (And.intro @plain.eq_30 (And.intro @plain.eq_31 @act.eq_1)) (And.intro (And.intro @act.eq_2 @act.eq_3) (And.intro @act.eq_4 @act.eq_5))) (And.intro (And.intro (And.intro @act.eq_6 @act.eq_7) (And.intro @act.eq_8 @act.eq_9)) (And.intro (And.intro @act.eq_10 @act.eq_11) (And.intro @act.eq_12 @act.eq_13))))) (And.intro (And.intro (And.intro (And.intro @act.eq_14 (And.intro @act.eq_15 @act.eq_16)) (And.intro (And.intro @dstOf.eq_1 @dstOf.eq_2) (And.intro @dstOf.eq_3 @dstOf.eq_4))) (And.intro (And.intro @dstOf.eq_5 (And.intro @dstOf.eq_6 @dstOf.eq_7)) (And.intro (And.intro @dstOf.eq_8 @dstOf.eq_9) (And.intro @dstOf.eq_10 @dstOf.eq_11)))) (And.intro (And.intro (And.intro @dstOf.eq_12 (And.intro @dstOf.eq_13 @dstOf.eq_14)) (And.intro (And.intro @dstOf.eq_15 @dstOf.eq_16) (And.intro @dstOf.eq_17 @dstOf.eq_18))) (And.intro (And.intro (And.intro @dstOf.eq_19 @dstOf.eq_20) (And.intro @dstOf.eq_21 @dstOf.eq_22)) (And.intro (And.intro @dstOf.eq_23 @dstOf.eq_24) (And.intro @dstOf.eq_25 @dstOf.eq_26)))))))) (And.intro (And.intro (And.intro (And.intro (And.intro (And.intro (And.intro @dstOf.eq_27 (And.intro @dstOf.eq_28 @dstOf.eq_29)) (And.intro (And.intro @dstOf.eq_30 @dstOf.eq_31) (And.intro @dstOf.eq_32 @dstOf.eq_33))) (And.intro (And.intro @dstOf.eq_34 (And.intro @dstOf.eq_35 @dstOf.eq_36)) (And.intro (And.intro @dstOf.eq_37 @dstOf.eq_38) (And.intro @dstOf.eq_39 @dstOf.eq_40)))) (And.intro (And.intro (And.intro @dstOf.eq_41 (And.intro @dstOf.eq_42 @dstOf.eq_43)) (And.intro (And.intro @dstOf.eq_44 @dstOf.eq_45) (And.intro @Bool.false_eq_true @if_true.{1}))) (And.intro (And.intro (And.intro @if_false.{1} @z_ite_true) (And.intro @z_ite_false @St.get.eq_1)) (And.intro (And.intro @St.get.eq_2 @St.get.eq_3) (And.intro @St.put.eq_1 @St.pvOf.eq_1))))) (And.intro (And.intro (And.intro (And.intro @St.putRow.eq_1 (And.intro @St.consume.eq_1 @St.consume.eq_2)) (And.intro (And.intro @St.consume.eq_3 @St.freeze.eq_1) (And.intro @St.row.eq_1 @St.row.eq_2))) (And.intro (And.intro @St.row.eq_3 (And.intro @St.elems.eq_1 @St.grab.eq_1)) (And.intro (And.intro @St.grab.eq_2 @St.grab.eq_3) (And.intro @allBV.eq_1 @allBV.eq_2)))) (And.intro (And.intro (And.intro @allBV.eq_3 (And.intro @allBV.eq_4 @ownP.eq_1)) (And.intro (And.intro @ownP.eq_2 @ownCells.eq_1) (And.intro @ownCells.eq_2 @ownCells.eq_3))) (And.intro (And.intro (And.intro @ownCells.eq_4 @St.takeRow.eq_1) (And.intro @St.takeRow.eq_2 @St.takeRow.eq_3)) (And.intro (And.intro @St.setRow.eq_1 @St.setRow.eq_2) (And.intro @St.setRow.eq_3 @St.place.eq_1)))))) (And.intro (And.intro (And.intro (And.intro (And.intro @St.place.eq_2 (And.intro @St.optPv.eq_1 @St.optPv.eq_2)) (And.intro (And.intro @St.setCell.eq_1 @St.setCellRow.eq_1) (And.intro @binPV.eq_1 @binPV.eq_2))) (And.intro (And.intro @binPV.eq_3 (And.intro @binPV.eq_4 @eqMix.eq_1)) (And.intro (And.intro @eqMix.eq_2 @eqMix.eq_3) (And.intro @eqMix.eq_4 @intBin.eq_1)))) (And.intro (And.intro (And.intro @intBin.eq_2 (And.intro @intBin.eq_3 @intBin.eq_4)) (And.intro (And.intro @intBin.eq_5 @intBin.eq_6) (And.intro @intBin.eq_7 @intBin.eq_8))) (And.intro (And.intro (And.intro @intBin.eq_9 @intBin.eq_10) (And.intro @intBin.eq_11 @intBin.eq_12)) (And.intro (And.intro @intBin.eq_13 @intBin.eq_14) (And.intro @intBin.eq_15 @intBin.eq_16))))) (And.intro (And.intro (And.intro (And.intro @intBin.eq_17 (And.intro @unPV.eq_1 @unPV.eq_2)) (And.intro (And.intro @unPV.eq_3 @unPV.eq_4) (And.intro @BV.val.eq_1 @BV.val.eq_2))) (And.intro (And.intro @cells_int (And.intro @cells_bool @cells_str)) (And.intro (And.intro @cells_list @cells_func) (And.intro @cells_agg @part_one)))) (And.intro (And.intro (And.intro @part_succ (And.intro @part_more @killS_pv)) (And.intro (And.intro @killS_any @killS_row) (And.intro @killS_pbox @killS_fn))) (And.intro (And.intro (And.intro @killS_tup @killS_yld) (And.intro @killS_refs @killS_refc)) (And.intro (And.intro @killS_pels @killS_pelc) (And.intro @killc_pv @killc_any))))))) (And.intro (And.intro (And.intro (And.intro (And.intro (And.intro @killc_row (And.intro @killc_pbox @killc_fn)) (And.intro (And.intro @killc_tup @killc_yld) (And.intro @killc_refs @killc_refc))) (And.intro (And.intro @killc_pels (And.intro @killc_pelc @bound.eq_1)) (And.intro (And.intro @bound.eq_2 @bound.eq_3) (And.intro @consumeAll.eq_1 @consumeAll.eq_2)))) (And.intro (And.intro (And.intro @buildParts.eq_1 (And.intro @buildParts.eq_2 @capsOf.eq_1)) (And.intro (And.intro @capsOf.eq_2 @capOf.eq_1) (And.intro @z_bind_eq @z_pure))) (And.intro (And.intro (And.intro @z_map_cons @z_map_nil) (And.intro @z_len_cons @z_len_nil)) (And.intro (And.intro @List.append_nil.{0} @z_nil_app) (And.intro @z_cons_app @Nat.zero_add))))) (And.intro (And.intro (And.intro (And.intro @Nat.add_zero (And.intro @z_drop_zero @z_drop_succ)) (And.intro (And.intro @z_take_succ @z_take_zero) (And.intro @decide_true @decide_false))) (And.intro (And.intro @Bool.not_true (And.intro @Bool.not_false @Bool.true_eq_false)) (And.intro (And.intro @beq_self_eq_true.{0} @Bool.true_and) (And.intro @Bool.and_true @Bool.false_and)))) (And.intro (And.intro (And.intro @Bool.and_false (And.intro @Bool.true_or @Bool.false_or)) (And.intro (And.intro @Bool.or_false @Bool.or_true) (And.intro @beq_t @beq_f))) (And.intro (And.intro (And.intro @bcase_not @bcase_bne) (And.intro @List.length_map.{0,0} @z_getD_zero)) (And.intro (And.intro @z_getD_8 @z_getD_succ) (And.intro @z_get_zero @z_get_8)))))) (And.intro (And.intro (And.intro (And.intro (And.intro @z_get_succ (And.intro @z_set_zero @z_set_8)) (And.intro (And.intro @z_set_succ @dcall.eq_1) (And.intro @dcallP.eq_1 @dlin.eq_1))) (And.intro (And.intro @dlinP.eq_1 (And.intro @takeLin.eq_1 @backLin.eq_1)) (And.intro (And.intro @backLin.eq_2 @backLin.eq_3) (And.intro @linRes_row @linRes_own)))) (And.intro (And.intro (And.intro @linRes_box (And.intro @lav_row @lav_own)) (And.intro (And.intro @lav_box @lbx_row) (And.intro @lbx_own @lbx_box))) (And.intro (And.intro (And.intro @finL_normal @finL_ret) (And.intro @afterCall_false @afterCall_true)) (And.intro (And.intro @List.mapM_cons.{0,0,0} @z_mapM_nil) (And.intro @St.snapFn.eq_1 @St.snapFn.eq_2))))) (And.intro (And.intro (And.intro (And.intro @St.snap.eq_1 (And.intro @St.snap.eq_2 @St.snap.eq_3)) (And.intro (And.intro @St.snap.eq_4 @St.snap.eq_5) (And.intro @St.snap.eq_6 @z_any_cons))) (And.intro (And.intro @z_any_nil (And.intro @z_all_cons @z_all_nil)) (And.intro (And.intro @scal_int @scal_bool) (And.intro @scal_str @scal_list)))) (And.intro (And.intro (And.intro @scal_func (And.intro @St.layAll.eq_1 @St.layAll.eq_2)) (And.intro (And.intro @St.lay.eq_1 @St.lay.eq_2) (And.intro @St.lay.eq_3 @z_foldl_cons))) (And.intro (And.intro (And.intro @z_foldl_nil @St.freezeArg.eq_1) (And.intro @St.freezeArg1.eq_1 @St.freezeArg1.eq_2)) (And.intro (And.intro @St.freezeArg1.eq_3 @St.freezeArg1.eq_4) (And.intro @St.freezeArg1.eq_5 @St.freezeArg1.eq_6)))))))))
def memAll:=(And.intro (And.intro (And.intro (And.intro @List.isEmpty_nil.{0} (And.intro @val_pvs @frozen_pvs)) (And.intro @msnoc_len (And.intro @msnoc_get @msnoc_set))) (And.intro (And.intro @msnoc_take (And.intro @Int.le_refl @take_map_all)) (And.intro @Nat.le_refl (And.intro @St.freezeRows.eq_1 @BV.frozen.eq_1)))) (And.intro (And.intro (And.intro @BV.frozen.eq_2 (And.intro @List.take_length.{0} @List.take_append_drop.{0})) (And.intro @z_repl_zero (And.intro @Int.toNat_zero @true_and))) (And.intro (And.intro @and_true (And.intro @and_self @eq_self.{1})) (And.intro @z_take_zero (And.intro @List.drop_nil.{0} @List.take_nil.{0})))))
def slsAll:=(And.intro (And.intro @Nat.zero_le (And.intro @List.take_zero.{0} @List.take_nil.{0})) (And.intro (And.intro @List.take_succ_cons.{0} @List.length_cons.{0}) (And.intro @List.length_nil.{0} @Nat.le_refl)))
end Go.Proofs.YtioijcfcehhmdaaGreatDoor

namespace Go.Proofs.YtioijcfcehhmdaaGreatDoor.V
theorem part_sec (x:Sec):part (secPV x) 0 (some 8)=some (.agg (secPV x)):=by
 simp only [part,secPV_length,Nat.zero_add,List.drop_zero]
 rw [if_pos (Nat.le_refl _),List.take_of_length_le (by rw [secPV_length];exact Nat.le_refl _)]
theorem eqCells_u8:∀ a b:List UInt8,a.length=b.length→eqCells (a.map fun b=>.int .u8 (b.toNat:Int)) (b.map fun b=>.int .u8 (b.toNat:Int))=some (decide (a=b))
 |[],[],_=>rfl
 |x :: a,y :: b,h=>by
  simp only [List.length_cons,Nat.add_right_cancel_iff] at h
  simp only [List.map_cons,eqCells,if_pos,eqCells_u8 a b h,Option.map_some,List.cons.injEq]
  congr 1
  have:((x.toNat:Int)==(y.toNat:Int))=decide (x=y):=by
   by_cases e:x=y
   ·subst e;simp
   ·have:¬ x.toNat=y.toNat:=fun h=>e (UInt8.toNat_inj.1 h)
    simp [e];omega
  rw [this,Bool.decide_and]
 |[],_ :: _,h=>by simp at h
 |_ :: _,[],h=>by simp at h
theorem eqCells_sec (a b:Sec):eqCells (secPV a) (secPV b)=some (decide (a=b)):=by
 unfold secPV
 rw [eqCells_u8 _ _ (by simp)]
 congr 1
 apply decide_eq_decide.2
 exact ⟨fun h=>Vector.toList_inj.1 h,fun h=>by rw [h]⟩
end Go.Proofs.YtioijcfcehhmdaaGreatDoor.V
