/-
  Part 3 of the texts that the statement stands on.
-/
import Derived.Test.YtpcncggjmabnaaaGreatDoorZ2
import Derived.TacticsIn
import Derived.RangeFuncLeaves
import Derived.RangeFuncNested
import Derived.RangeFuncRecord
import Derived.RangeFuncIn
set_option linter.all false
namespace Go.Proofs.YtpcncggjmabnaaaGreatDoor
open Go.RowKit
structure Ctx where
 X:List (List PV)
 stop:Option (Option Nat)
 J:Nat→Tags→World→Prop
def goesOn (s:Option Nat) (k:Nat):Bool :=
 match s with
 |none=>true
 |some m=>!(k+1==m)
structure Ctx.Ok (C:Ctx) (P:Program) (L:Nat):Prop where
 keep:∀ k T T' w w',Chg T T' w w'→C.J k T w→C.J k T' w'
 glob:∀ k T w,C.J k T w→GlobOk T w
 yld:∀ s k T w ps (vs:List Value),C.stop=some s→C.X[k]?=some ps→(∀ b,w.heap.size≤b→T b=.other)→C.J k T w→vs.length=ps.length→(∀ (i:Nat) p v,ps[i]?=some p→vs[i]?=some v→PRep (fun b=>T b=.ro) w p v) →
  ∃ f tmps assign body,(Instr.yield L vs.toArray).run P w=.ok (.round L f tmps assign body) w∧∀ n,RoundIn Fence.wide n P L f tmps assign body w fun e w'=>e=.returned (.bool (goesOn s k))∧C.J (k+1) T w'∧Sees T w w'
structure Stays (T T':Tags) (w w':World):Prop where
 size:w.heap.size≤w'.heap.size
 ro:∀ b,T b=.ro→T' b=.ro
 same:∀ b,b<w.heap.size→T b=.ro→w'.heap[b]?=w.heap[b]?
theorem Stays.refl (T:Tags) (w:World):Stays T T w w:=⟨Nat.le_refl _,fun _ h=>h,fun _ _ _=>rfl⟩
theorem Stays.trans {T T' T'':Tags} {a b c:World} (h:Stays T T' a b) (k:Stays T' T'' b c):Stays T T'' a c :=
 ⟨Nat.le_trans h.size k.size,fun x e=>k.ro x (h.ro x e),fun x hx e=>(k.same x (Nat.lt_of_lt_of_le hx h.size) (h.ro x e)).trans (h.same x hx e)⟩
theorem Chg.stays {T T':Tags} {w w':World} (h:Chg T T' w w'):Stays T T' w w':=⟨h.size,h.ro,fun b hb e=>h.same b hb (.inl e)⟩
def markOf (r:Nat):Deferred:={ target:=.collected r,args:=#[] }
def Marks (T':Tags) (w w':World) (ms:List Nat):Prop:=(∀ r∈ms,w.heap.size≤r∧T' r=.ro∧w'.heap[r]?=some (.deferred (some [])))∧ms.Nodup
theorem Marks.nil {T':Tags} {w w':World}:Marks T' w w' []:=⟨by simp,List.nodup_nil⟩
def After (C:Ctx) (L nb:Nat) (σ:Nat→Nat) (T:Tags) (w:World) (st':St) (ds:List Deferred) (a':Act) (w':World):Prop :=
 ∃ (σ':Nat→Nat) (T':Tags) (ms:List Nat),Sim L σ' T' st' a' w'∧C.J st'.ys.length T' w'∧(∀ k,k<nb→σ' k=σ k)∧Stays T T' w w'∧a'.defers=ms.map markOf++ds∧Marks T' w w' ms
def Wide (F:Fence):Prop:=F=Fence.wide∨∃ l,F=Fence.wide.inRound l
theorem Wide.fn {F:Fence} (h:Wide F) (f:FuncId):F.fn f:=by rcases h with rfl|⟨l,rfl⟩<;>exact trivial
theorem Wide.depth {F:Fence} (h:Wide F):F.depth=none:=by rcases h with rfl|⟨l,rfl⟩<;>rfl
theorem Wide.room {F:Fence} (h:Wide F) (n:Nat):F.room n:=by rcases h with rfl|⟨l,rfl⟩<;>exact room_wide n
theorem Wide.calls {F:Fence} (h:Wide F) {n:Nat} {P:Program} {f:FuncId} {args:Array Value} {w:World} {R:Ending→World→Prop} (hc:Calls P f args w R):CallsIn F n P f args w R:=by
 have:=(callsIn_wide (n:=n)).2 hc
 rcases h with rfl|⟨l,rfl⟩
 ·exact this
 ·exact this
theorem Wide.roundIn {F:Fence} (h:Wide F) {n:Nat} {P:Program} {l:Nat} {f:FuncId} {tmps:Array Value} {assign body:Code} {w:World} {R:Ending→World→Prop} (hc:RoundIn Fence.wide n P l f tmps assign body w R):RoundIn F n P l f tmps assign body w R:=by
 rcases h with rfl|⟨l,rfl⟩
 ·exact hc
 ·exact hc
theorem semAt_eq {o:Oper} (h:∀ c,o.op≠.defer c) (r:Option Nat) (ρ:Operand→Value):o.semAt r ρ=execOp ρ o:=by
 cases r with
 |none=>exact Oper.semAt_none ρ o
 |some l=>exact Oper.semAt_some l ρ o h
section
variable {P:Program} {F:Fence} {C:Ctx} {n L nb:Nat} {σ σ':Nat→Nat} {T T' T1 T2:Tags} {st st' st1:St} {a:Act} {w w1:World} {o:Oper} {vo:VOp} {y:Operand} {x:Opd} {d:Nat}
 {rec:VCode→St→Option (Ex × St)} {env:Env} {next:Act→World→Prop} {Q:Exit→Act→World→Prop}
theorem m1_defer (hm:m1 P o vo=true) (c:Call):o.op≠.defer c:=by
 intro e
 simp only [m1,Bool.and_eq_true] at hm
 cases vo<;>simp [mv,e,call1,call2,callV,callF] at hm
theorem After.of_chg (hC:C.Ok P L) (hs:Sim L σ' T' st' a w1) (hJ:C.J st'.ys.length T w) (hch:Chg T T' w w1) (hσ:∀ k,k<nb→σ' k=σ k):After C L nb σ T w st' a.defers a w1 :=
 ⟨σ',T',[],hs,hC.keep _ _ _ _ _ hch hJ,hσ,hch.stays,rfl,Marks.nil⟩
theorem put_defers {d:Option Nat} {v:Value}:(a.put d v).defers=a.defers:=by
 cases d<;>rfl
theorem wpIn_value (hF:Wide F) (hm:m1 P o vo=true) {v:Value} {nx:Next} (hr:(execOp a.eval o).run P w=.ok nx w1) (hnx:nx=.value v∨nx=.skip∧v=undef) (h:next (a.put o.dst v) w1):o.wpIn F n P a w next Q:=by
 refine ⟨fun f _=>hF.fn f,?_⟩
 rw [semAt_eq (m1_defer hm),hr]
 rcases hnx with rfl|⟨rfl,rfl⟩
 ·exact h
 ·exact h
theorem run_callOp {ρ:Operand→Value} {y:Operand} {ys:List Operand} {ats:Array TypeId} {f:Nat} {cap:Array Value} (ho:o.op=.call { callee:=.value y,args:=ys.toArray,argTypes:=ats }) (hy:ρ y=.func (.func f) #[] cap) (hf:callable P f=true) (w:World) :
  (execOp ρ o).run P w=.ok (.enter f ((ys.map ρ).toArray++cap)) w:=by
 have:=run_callFunc hf ((ys.map ρ).toArray++cap) w
 simp [execOp,ho,resolve,Deferred.ofValue,hy,invoke,this]
theorem func_inv {ok:Nat→Prop} {f:Nat} {caps:List PV} {v:Value} (h:PRep ok w (.func f caps) v):∃ arr:Array Value,v=.func (.func f) #[] arr∧arr.size=caps.length∧∀ (k:Nat) p u,caps[k]?=some p→arr[k]?=some u→PRep ok w p u:=by
 cases h;exact ⟨_,rfl,by assumption,by assumption⟩
def Grow (nb:Nat) (st st':St):Prop:=nb≤st'.boxes.length∧st.ys <+: st'.ys∧st'.stop=st.stop
theorem Mono.grow (h:Mono st st'):Grow st.boxes.length st st':=⟨h.1,by rw [h.2.1];exact List.prefix_refl _,h.2.2⟩
theorem Grow.trans {n1 n2:Nat} (h:Grow n1 st st1) (k:Grow n2 st1 st'):Grow n2 st st':=⟨k.1,h.2.1.trans k.2.1,k.2.2.trans h.2.2⟩
theorem Grow.mono {n1 n2:Nat} (h:Grow n1 st st1) (k:n2≤n1):Grow n2 st st1:=⟨Nat.le_trans k h.1,h.2.1,h.2.2⟩
theorem act_grow (h:act rec env vo st=some st'):Grow st.boxes.length st st':=by
 by_cases hv:∃ d x xs,vo=.yield d x xs
 ·obtain ⟨d,x,xs,rfl⟩:=hv
  simp only [act] at h
  split at h
  ·replace h:=bind_some h
   obtain ⟨stop,_,h⟩:=h
   replace h:=bind_some h
   obtain ⟨⟨vs,st1⟩,h1,h⟩:=h
   obtain ⟨m1,m2,m3⟩:=consumeAll_mono h1
   simp only at h
   split at h
   ·rw [← Option.some.inj h];exact ⟨m1,by rw [← m2];exact List.prefix_append _ _,m3⟩
   ·split at h
    ·rw [← Option.some.inj h];exact ⟨m1,by rw [← m2];exact List.prefix_append _ _,m3⟩
    ·cases h
  ·cases h
 ·exact (act_mono (fun d x xs e=>hv ⟨d,x,xs,e⟩) h).grow
theorem op1_grow (h:op1 rec env vo st=some st'):Grow st.boxes.length st st':=by
 unfold op1 at h
 split at h
 ·exact act_grow h
 ·exact (plain_mono h).grow
theorem op_grow (h:op rec env vo st=some st'):Grow st.boxes.length st st':=by
 unfold op at h
 split at h
 ·split at h
  ·split at h
   ·exact op1_grow h
   ·split at h
    ·rw [← Option.some.inj h];exact ((Mono.refl _).put _ _).grow
    ·rw [← Option.some.inj h];exact (Mono.refl _).grow
  ·split at h
   ·split at h
    ·rw [← Option.some.inj h];exact ((Mono.refl _).put _ _).grow
    ·rw [← Option.some.inj h];exact (Mono.refl _).grow
   ·cases h
  ·cases h
 ·exact op1_grow h
theorem Sim.ys (h:Sim L σ T st a w) (l:List (List PV)):Sim L σ T { st with ys:=l } a w:=⟨h.size,h.slots,h.boxes,h.fresh⟩
def calm (o:VOp):Bool:=match o with
 |.call ..|.callv ..=>true
 |o=>!isAct o || gentle o
theorem callOn_wp (hW:Wide F) (hC:C.Ok P L) (hcalls:CallsOk P rec env) (h:Sim L σ T st a w) (hJ:C.J st.ys.length T w) (hd:o.dst=some d) (hm1:m1 P o vo=true) {ys:List Operand} {ats:Array TypeId} (ho:o.op=.call { callee:=.value y,args:=ys.toArray,argTypes:=ats }) {xs:List Opd} (hm:mAll ys xs=true) {caps:List AV} {cvs:Array Value} {f:Nat} (hy:a.eval y=.func (.func f) #[] cvs)
  (hc:cvs.size=caps.length) (hcr:∀ (k:Nat) c u,caps[k]?=some c→cvs[k]?=some u→CapRep st.boxes.length σ T w c u)
  (hp:callOn rec env d f xs caps st=some st') (hn:∀ a' w',After C L st.boxes.length σ T w st' a.defers a' w'→(calm vo=true→Whole w w')→next a' w'):o.wpIn F n P a w next Q:=by
 obtain ⟨hcall,hok⟩:=callOn_sound (cvs:=cvs.toList) hcalls h (hC.glob _ _ _ hJ) hm (by simpa using hc) (fun k c u h1 h2=>hcr k c u h1 (by simpa using h2)) hp
 refine ⟨fun f _=>hW.fn f,?_⟩
 rw [semAt_eq (m1_defer hm1),run_callOp ho hy hcall]
 refine ⟨fun e=>absurd e (by rw [hW.depth];simp),hW.calls ?_⟩
 have hargs:(ys.map a.eval++cvs.toList).toArray=(ys.map a.eval).toArray++cvs:=by simp
 rw [← hargs]
 refine hok.mono ?_
 rintro e w' ⟨v,T2,rfl,g1,g2,g3⟩
 refine hn _ _ ?_ fun _=>g3
 rw [hd,← put_defers (a:=a) (d:=some d) (v:=v)]
 exact After.of_chg hC g1 (by rw [(callOn_mono hp).2.1];exact hJ) g2 (fun _ _=>rfl)
theorem callOnL_wp (hW:Wide F) (hC:C.Ok P L) (hcalls:CallsOk P rec env) (h:Sim L σ T st a w) (hJ:C.J st.ys.length T w) (hd:o.dst=some d) (hm1:m1 P o vo=true) {z:Operand} {ys:List Operand} {ats:Array TypeId} (ho:o.op=.call { callee:=.value z,args:=(y :: ys).toArray,argTypes:=ats }) (hmx:mOpd y x=true) {xs:List Opd} (hm:mAll ys xs=true) {caps:List AV} {cvs:Array Value} {f:Nat} (hy:a.eval z=.func (.func f) #[] cvs)
  (hc:cvs.size=caps.length) (hcr:∀ (k:Nat) c u,caps[k]?=some c→cvs[k]?=some u→CapRep st.boxes.length σ T w c u)
  (hp:callOnL rec env d f x xs caps st=some st') (hn:∀ a' w',After C L st.boxes.length σ T w st' a.defers a' w'→next a' w'):o.wpIn F n P a w next Q:=by
 obtain ⟨hcall,hok⟩:=callOnL_sound (cvs:=cvs.toList) hcalls h (hC.glob _ _ _ hJ) hmx hm (by simpa using hc) (fun k c u h1 h2=>hcr k c u h1 (by simpa using h2)) hp
 refine ⟨fun f _=>hW.fn f,?_⟩
 rw [semAt_eq (m1_defer hm1),run_callOp ho hy hcall]
 refine ⟨fun e=>absurd e (by rw [hW.depth];simp),hW.calls ?_⟩
 have hargs:(a.eval y :: (ys.map a.eval++cvs.toList)).toArray=((y :: ys).map a.eval).toArray++cvs:=by simp
 rw [← hargs]
 refine hok.mono ?_
 rintro e w' ⟨v,T2,rfl,g1,g2⟩
 refine hn _ _ ?_
 rw [hd,← put_defers (a:=a) (d:=some d) (v:=v)]
 exact After.of_chg hC g1 (by rw [(callOnL_mono hp).2.1];exact hJ) g2 (fun _ _=>rfl)
theorem op1_wp (hW:Wide F) (hC:C.Ok P L) (hcalls:CallsOk P rec env) (h:Sim L σ T st a w) (hJ:C.J st.ys.length T w) (hst:st.stop=C.stop) (hm:m1 P o vo=true) (hp:op1 rec env vo st=some st') (hX:st'.ys <+: C.X)
  (hn:∀ a' w',After C L st.boxes.length σ T w st' a.defers a' w'→(calm vo=true→Whole w w')→next a' w'):o.wpIn F n P a w next Q:=by
 unfold op1 at hp
 split at hp
 case isFalse =>
  obtain ⟨v,T',h1,h2,h3⟩:=plain_sound h hm hp
  refine wpIn_value hW hm (h1 w (Sees.refl T w)) (.inl rfl) (hn _ _ ?_ fun _=>Whole.refl w)
  rw [← put_defers (a:=a) (d:=o.dst) (v:=v)]
  exact After.of_chg hC h2 (by rw [(plain_mono hp).2.1];exact hJ) (h3.chg w) (fun _ _=>rfl)
 case isTrue =>
  by_cases hc:∃ d f xs,vo=.call d f xs
  ·obtain ⟨d,f,xs,rfl⟩:=hc
   have hm':=hm
   simp only [m1,Bool.and_eq_true,beq_iff_eq,mv] at hm'
   obtain ⟨hd,hm'⟩:=hm'
   split at hm'<;>try (cases hm';done)
   rename_i g ys ho
   simp only [Bool.and_eq_true,beq_iff_eq] at hm'
   obtain ⟨rfl,hm'⟩:=hm'
   obtain ⟨ats,ho⟩:=callF_eq ho
   exact callOn_wp hW hC hcalls h hJ hd hm ho hm' (caps:=[]) (cvs:=#[]) rfl rfl (fun k c u e=>by simp at e) hp hn
  ·by_cases hv:∃ d x xs,vo=.callv d x xs
   ·obtain ⟨d,x,xs,rfl⟩:=hv
    have hm':=hm
    simp only [m1,Bool.and_eq_true,beq_iff_eq,mv] at hm'
    obtain ⟨hd,hm'⟩:=hm'
    split at hm'<;>try (cases hm';done)
    rename_i y ys ho
    simp only [Bool.and_eq_true] at hm'
    obtain ⟨hx,hm'⟩:=hm'
    obtain ⟨ats,ho⟩:=callV_eq ho
    simp only [act] at hp
    split at hp
    ·rename_i f caps hg
     obtain ⟨t,hrep⟩:∃ t,ARep L σ T st a w t (.pv (.func f caps)) (a.eval y):=by
      rcases h.get hx with ⟨t,rfl,(⟨_,g⟩|g)⟩|⟨v',rfl,g⟩|⟨s,rfl,g⟩
      ·rw [hg] at g;exact ⟨t,g⟩
      ·rw [g] at hg;cases hg
      ·simp only [St.get,AV.pv.injEq] at hg;subst hg;exact ⟨0,g⟩
      ·simp [St.get] at hg
     obtain ⟨arr,e1,e2,e3⟩:=func_inv hrep
     exact callOn_wp hW hC hcalls h hJ hd hm ho hm' (caps:=caps.map .pv) (cvs:=arr) e1 (by simpa using e2) (fun k c u h1 h2=>by
      rw [List.getElem?_map] at h1
      cases hk:caps[k]? with
      |none=>rw [hk] at h1;cases h1
      |some p=>rw [hk] at h1;cases h1;exact e3 k p u hk h2) hp hn
    ·rename_i f caps hg
     obtain ⟨t,hrep⟩:∃ t,ARep L σ T st a w t (.fn f caps) (a.eval y):=by
      rcases h.get hx with ⟨t,rfl,(⟨_,g⟩|g)⟩|⟨v',rfl,g⟩|⟨s,rfl,g⟩
      ·rw [hg] at g;exact ⟨t,g⟩
      ·rw [g] at hg;cases hg
      ·simp [St.get] at hg
      ·simp [St.get] at hg
     obtain ⟨arr,e1,e2,e3⟩:=hrep
     exact callOn_wp hW hC hcalls h hJ hd hm ho hm' (caps:=caps) (cvs:=arr) e1 e2 e3 hp hn
    ·cases hp
   ·by_cases hli:∃ d f x xs,vo=.lin d f x xs
    ·obtain ⟨d,f,x,xs,rfl⟩:=hli
     have hm':=hm
     simp only [m1,Bool.and_eq_true,beq_iff_eq,mv] at hm'
     obtain ⟨hd,hm'⟩:=hm'
     split at hm'<;>try (cases hm';done)
     rename_i g y ys ho
     simp only [Bool.and_eq_true,beq_iff_eq] at hm'
     obtain ⟨⟨rfl,hmx⟩,hm'⟩:=hm'
     obtain ⟨ats,ho⟩:=callF_eq ho
     exact callOnL_wp hW hC hcalls h hJ hd hm ho hmx hm' (caps:=[]) (cvs:=#[]) rfl rfl (fun k c u e=>by simp at e) hp fun a' w' hA=>hn a' w' hA fun e=>by simp [calm,isAct,gentle] at e
    by_cases hlv:∃ d g x xs,vo=.linv d g x xs
    ·obtain ⟨d,z,x,xs,rfl⟩:=hlv
     have hm':=hm
     simp only [m1,Bool.and_eq_true,beq_iff_eq,mv] at hm'
     obtain ⟨hd,hm'⟩:=hm'
     split at hm'<;>try (cases hm';done)
     rename_i yz y ys ho
     simp only [Bool.and_eq_true] at hm'
     obtain ⟨⟨hx,hmx⟩,hm'⟩:=hm'
     obtain ⟨ats,ho⟩:=callV_eq ho
     simp only [act] at hp
     split at hp
     ·rename_i f caps hg
      obtain ⟨t,hrep⟩:∃ t,ARep L σ T st a w t (.pv (.func f caps)) (a.eval yz):=by
       rcases h.get hx with ⟨t,rfl,(⟨_,g⟩|g)⟩|⟨v',rfl,g⟩|⟨s,rfl,g⟩
       ·rw [hg] at g;exact ⟨t,g⟩
       ·rw [g] at hg;cases hg
       ·simp only [St.get,AV.pv.injEq] at hg;subst hg;exact ⟨0,g⟩
       ·simp [St.get] at hg
      obtain ⟨arr,e1,e2,e3⟩:=func_inv hrep
      exact callOnL_wp hW hC hcalls h hJ hd hm ho hmx hm' (caps:=caps.map .pv) (cvs:=arr) e1 (by simpa using e2) (fun k c u h1 h2=>by
       rw [List.getElem?_map] at h1
       cases hk:caps[k]? with
       |none=>rw [hk] at h1;cases h1
       |some p=>rw [hk] at h1;cases h1;exact e3 k p u hk h2) hp fun a' w' hA=>hn a' w' hA fun e=>by simp [calm,isAct,gentle] at e
     ·rename_i f caps hg
      obtain ⟨t,hrep⟩:∃ t,ARep L σ T st a w t (.fn f caps) (a.eval yz):=by
       rcases h.get hx with ⟨t,rfl,(⟨_,g⟩|g)⟩|⟨v',rfl,g⟩|⟨s,rfl,g⟩
       ·rw [hg] at g;exact ⟨t,g⟩
       ·rw [g] at hg;cases hg
       ·simp [St.get] at hg
       ·simp [St.get] at hg
      obtain ⟨arr,e1,e2,e3⟩:=hrep
      exact callOnL_wp hW hC hcalls h hJ hd hm ho hmx hm' (caps:=caps) (cvs:=arr) e1 e2 e3 hp fun a' w' hA=>hn a' w' hA fun e=>by simp [calm,isAct,gentle] at e
     ·cases hp
    by_cases hsr:∃ d f x g,vo=.srt d f x g
    ·obtain ⟨d,f,x,g,rfl⟩:=hsr
     have hm':=hm
     simp only [m1,Bool.and_eq_true,beq_iff_eq,mv] at hm'
     obtain ⟨hd,hm'⟩:=hm'
     split at hm'<;>try (cases hm';done)
     rename_i f' y1 y2 ho
     simp only [Bool.and_eq_true,beq_iff_eq] at hm'
     obtain ⟨⟨rfl,hm1⟩,hm2⟩:=hm'
     obtain ⟨ats,ho⟩:=callF_eq ho
     simp only [act] at hp
     split at hp
     case h_2=>cases hp
     rename_i hh henv
     replace hp:=bind_some hp
     obtain ⟨⟨r,off,len⟩,h2,hp⟩:=hp
     replace hp:=bind_some hp
     obtain ⟨⟨sz,es⟩,h3,hp⟩:=hp
     replace hp:=bind_some hp
     obtain ⟨c,h4,hp⟩:=hp
     replace hp:=bind_some hp
     obtain ⟨es',h5,hp⟩:=hp
     simp only at hp
     split at hp
     case isFalse=>cases hp
     rename_i hc3
     obtain ⟨rfl,rfl,hc3⟩:=hc3
     have hp:=Option.some.inj hp
     subst hp
     obtain ⟨hcall,hok⟩:=hcalls.2.1 f' hh henv
     obtain ⟨xa,m,cp,x',p1,p2,p3,-,-⟩:=h.place hm1 h2 h3
     obtain ⟨u,p5,p6⟩:=h.rowHdr h3
     have hu:a.eval y1=u:=by
      rw [p5] at p1;cases p1
      have hm:m=es.length:=by
       rcases p6 with ⟨e1,_,e2⟩|⟨_,_,_,_,e2,_⟩
       ·cases e2;rw [e1];rfl
       ·cases e2;rfl
      rw [p2,p3 rfl,hm,Nat.sub_zero]
     have hk:=hok c sz es es' h5 T w r u (a.eval y2) h.fresh p6 (h.pv hm2 h4)
     refine ⟨fun f _=>hW.fn f,?_⟩
     rw [semAt_eq (m1_defer hm),run_callOp (cap:=#[]) ho rfl hcall]
     refine ⟨fun e=>absurd e (by rw [hW.depth];simp),hW.calls ?_⟩
     have hargs:([y1,y2].map a.eval).toArray++#[]=#[u,a.eval y2]:=by simp [hu]
     rw [hargs]
     refine hk.mono ?_
     rintro e w' ⟨v,rfl,k1,k2,k3,k4,k5,k6⟩
     obtain ⟨g1,g2⟩:=h.setRowW h3 p5 k1 k2 k3 k4 k5 k6
     refine hn _ _ ?_ fun e=>by simp [calm,isAct,gentle] at e
     have hd':o.dst=some d:=hd
     rw [hd',← put_defers (a:=a) (d:=some d) (v:=v)]
     refine After.of_chg hC g1.putAny ?_ g2 (fun _ _=>rfl)
     have:((st.setRow r sz es').put d .any).ys=st.ys:=by cases r<;>simp [St.setRow,St.put,St.setCell]<;>split<;>rfl
     rw [this];exact hJ
    by_cases hyl:∃ d x xs,vo=.yield d x xs
    ·obtain ⟨d,x,xs,rfl⟩:=hyl
     have hm':=hm
     simp only [m1,Bool.and_eq_true,beq_iff_eq,mv] at hm'
     obtain ⟨hd,hm'⟩:=hm'
     split at hm'<;>try (cases hm';done)
     rename_i y ys ho
     simp only [Bool.and_eq_true] at hm'
     obtain ⟨hx,hm'⟩:=hm'
     obtain ⟨ats,ho⟩:=callV_eq ho
     simp only [act] at hp
     split at hp
     ·rename_i hg
      have hev:a.eval y=.func (.yield L) #[] #[]:=by
       rcases h.get hx with ⟨t,rfl,(⟨_,g⟩|g)⟩|⟨v',rfl,g⟩|⟨s,rfl,g⟩
       ·rw [hg] at g;exact g
       ·rw [g] at hg;cases hg
       ·simp [St.get] at hg
       ·simp [St.get] at hg
      replace hp:=bind_some hp
      obtain ⟨s,hs,hp⟩:=hp
      replace hp:=bind_some hp
      obtain ⟨⟨vs,st1⟩,h1,hp⟩:=hp
      obtain ⟨m1',m2,m3⟩:=consumeAll_mono h1
      obtain ⟨T1,k1,k2,k3,k4,k5⟩:=h.consumeAll hm' h1
      have hp':st'=({ st1 with ys:=st1.ys++[vs] }:St).put d (.pv (.bool (goesOn s st.ys.length))):=by
       simp only at hp
       rw [← m2]
       split at hp
       ·exact (Option.some.inj hp).symm
       ·split at hp
        ·exact (Option.some.inj hp).symm
        ·cases hp
      subst hp'
      have hys:C.X[st.ys.length]?=some vs:=by
       obtain ⟨t,ht⟩:=hX
       simp only [St.put] at ht
       rw [← ht,m2];simp
      have hJ1:C.J st.ys.length T1 w:=hC.keep _ _ _ _ _ (k2.chg w) hJ
      obtain ⟨f,tmps,assign,body,r1,r2⟩:=hC.yld s _ T1 w vs (ys.map a.eval) (hst ▸ hs) hys k1.fresh hJ1 (by simp [k4]) (fun i p v hp' hv=>by
       rw [List.getElem?_map] at hv
       cases hk:ys[i]? with
       |none=>rw [hk] at hv;cases hv
       |some y=>rw [hk] at hv;cases hv;exact k5 i p y hp' hk)
      refine ⟨fun f _=>hW.fn f,?_⟩
      have hrun:(execOp a.eval o).run P w=.ok (.round L f tmps assign body) w:=by
       simp [execOp,ho,resolve,Deferred.ofValue,hev,invoke,r1]
      rw [semAt_eq (m1_defer hm),hrun]
      refine ⟨fun e=>absurd e (by rw [hW.depth];simp),hW.roundIn ((r2 _).mono ?_)⟩
      rintro e w' ⟨rfl,q1,q2⟩
      refine hn _ _ ?_ (fun e=>by simp [calm,isAct,gentle] at e)
      rw [hd,← put_defers (a:=a) (d:=some d) (v:=.bool (goesOn s st.ys.length))]
      exact ⟨σ,T1,[],((k1.sees q2).ys _).putPv (.bool _),by
       have:(({ st1 with ys:=st1.ys++[vs] }:St).put d (.pv (.bool (goesOn s st.ys.length)))).ys.length=st.ys.length+1:=by simp [St.put,m2]
       rw [this];exact q1,fun _ _=>rfl,⟨q2.1,k2.ro,fun b hb e=>q2.2 b (by rw [k2.ro b e];simp) hb⟩,rfl,Marks.nil⟩
     ·cases hp
    ·obtain ⟨nx,v,w1,σ',T',g1,g2,g3,g4,g5,g6⟩:=act_sound h hm (fun d f xs e=>hc ⟨d,f,xs,e⟩) (fun d f xs e=>hv ⟨d,f,xs,e⟩) (fun d f xs e=>hyl ⟨d,f,xs,e⟩) (fun d f x g e=>hsr ⟨d,f,x,g,e⟩) (fun d f x xs e=>hli ⟨d,f,x,xs,e⟩) (fun d g x xs e=>hlv ⟨d,g,x,xs,e⟩) hp
     refine wpIn_value hW hm g1 g2 (hn _ _ ?_ fun hcm=>g6 ?_)
     ·rw [← put_defers (a:=a) (d:=o.dst) (v:=v)]
      exact After.of_chg hC g3 (by rw [(act_mono (fun d f xs e=>hyl ⟨d,f,xs,e⟩) hp).2.1];exact hJ) g4 g5
     ·have hact:isAct vo=true:=by assumption
      cases vo<;>first|exact absurd ⟨_,_,_,rfl⟩ hc|exact absurd ⟨_,_,_,rfl⟩ hv|(simpa [calm,hact] using hcm)
end
end Go.Proofs.YtpcncggjmabnaaaGreatDoor

namespace Go.Proofs.YtpcncggjmabnaaaGreatDoor
open Go.RowKit
def wpLoop (F:Fence) (n:Nat) (P:Program) (c:Code) (Q:Exit→Act→World→Prop) (a:Act) (w:World):Prop :=
 ∀ (b:Frame) (k:List Item) (cs:List Frame),b.roundOf=F.round→F.fn b.fn→F.room (cs.length+1+n) →
  ∃ e a' w',Q e a' w'∧ArrivesIn (Machine.fenced P F) P (lone (b.atR a (.code c :: .inLoop c :: k)) cs w) b k cs e a' w'
section
variable {F:Fence} {n:Nat} {P:Program} {c:Code} {Q:Exit→Act→World→Prop} {a:Act} {w:World}
theorem wpIn_of_loop (h:wpLoop F n P c Q a w):(Code.loop c).wpIn F n P Q a w:=fun b k cs hro hb hr =>
 let ⟨e,a',w',hq,harr⟩:=h b k cs hro hb hr
 ⟨e,a',w',hq,.of_steps (.one (fenced_calm hb hr rfl) stepR_loop) harr⟩
theorem wpLoop_once (h:c.wpIn F n P (Exit.then (wpLoop F n P c Q) Q) a w):wpLoop F n P c Q a w:=by
 intro b k cs hro hb hr
 obtain ⟨e,a₁,w₁,hq,harr⟩:=h b (.inLoop c :: k) cs hro hb hr
 cases e with
 |normal =>
  obtain ⟨e₂,a₂,w₂,hq₂,harr₂⟩:=hq b k cs hro hb hr
  exact ⟨e₂,a₂,w₂,hq₂,.of_steps (StepsIn.trans harr (.one (fenced_calm hb hr rfl) stepR_inLoop)) harr₂⟩
 |exit id=>exact ⟨_,a₁,w₁,hq,.pass (x:=.inLoop c) rfl (fun _ _=>.inl (by simp)) harr⟩
 |goto l=>exact ⟨_,a₁,w₁,hq,.pass (x:=.inLoop c) rfl (fun _ _=>.inl (by simp)) harr⟩
 |ret=>exact ⟨_,a₁,w₁,hq,.pass (x:=.inLoop c) rfl (fun _ _=>.inl (by simp)) harr⟩
 |panic ch=>exact ⟨_,a₁,w₁,hq,.pass (x:=.inLoop c) rfl (fun _ _=>.inl (by simp)) harr⟩
 |outgrown=>exact ⟨_,a₁,w₁,hq,.pass (x:=.inLoop c) rfl (fun _ _=>.inl (by simp)) harr⟩
theorem wpLoop_mono {Q':Exit→Act→World→Prop} (h:wpLoop F n P c Q a w) (hq:∀ e a w,Q e a w→Q' e a w):wpLoop F n P c Q' a w :=
 fun b k cs hro hb hr=>let ⟨e,a',w',q,r⟩:=h b k cs hro hb hr;⟨e,a',w',hq _ _ _ q,r⟩
end
def mG (P:Program) (ops:Array Oper) (o:Oper):VOp→Bool
 |.grd g want v=>(match o.guard with
  |some (j,b)=>b==want&&(ops[j]?).bind (·.dst)==some g
  |none=>false)&&m1 P o v
 |v=>o.guard.isNone&&m1 P o v
def mL (P:Program) (ops:Array Oper):List Oper→List VOp→Bool
 |[],[]=>true
 |o :: os,v :: vs=>mG P ops o v&&mL P ops os vs
 |_,_=>false
section
variable {P:Program} {F:Fence} {C:Ctx} {n L nb:Nat} {σ σ':Nat→Nat} {T T' T1 T2:Tags} {st st' st1:St} {a a1:Act} {w w1:World} {o:Oper} {vo:VOp} {y:Operand} {x:Opd} {d:Nat}
 {rec:VCode→St→Option (Ex × St)} {env:Env} {next:Act→World→Prop} {Q:Exit→Act→World→Prop} {opl:Array Oper} {ds:List Deferred} {e:Ex}
theorem After.refl (h:Sim L σ T st a w) (hJ:C.J st.ys.length T w):After C L nb σ T w st a.defers a w :=
 ⟨σ,T,[],h,hJ,fun _ _=>rfl,Stays.refl T w,rfl,Marks.nil⟩
theorem After.trans {nb1:Nat} {σ1:Nat→Nat} {ms:List Nat} (hs:Stays T T1 w w1) (hσ:∀ k,k<nb→σ1 k=σ k) (hd:a1.defers=ms.map markOf++ds) (hms:Marks T1 w w1 ms) (hnb:nb≤nb1)
  {a':Act} {w':World} (h:After C L nb1 σ1 T1 w1 st' a1.defers a' w'):After C L nb σ T w st' ds a' w':=by
 obtain ⟨σ',T',ms',g1,g2,g3,g4,g5,g6⟩:=h
 refine ⟨σ',T',ms'++ms,g1,g2,fun k hk=>(g3 k (Nat.lt_of_lt_of_le hk hnb)).trans (hσ k hk),hs.trans g4,by rw [g5,hd];simp,fun r hr=>?_,List.nodup_append.2 ⟨g6.2,hms.2,fun x hx y hy e=>?_⟩⟩
 ·rcases List.mem_append.1 hr with hr|hr
  ·obtain ⟨k1,k2,k3⟩:=g6.1 r hr
   exact ⟨Nat.le_trans hs.size k1,k2,k3⟩
  ·obtain ⟨k1,k2,k3⟩:=hms.1 r hr
   have hl:r<w1.heap.size:=(Array.getElem?_eq_some_iff.1 k3).1
   exact ⟨k1,g4.ro r k2,(g4.same r hl k2).trans k3⟩
 ·have k1:=(g6.1 x hx).1
  have hl:y<w1.heap.size:=(Array.getElem?_eq_some_iff.1 (hms.1 y hy).2.2).1
  omega
def calmG:VOp→Bool
 |.grd _ _ v=>calm v
 |v=>calm v
theorem Sim.putUn (h:Sim L σ T st a w) {d:Nat}:Sim L σ T (st.put d (.tup false [])) (a.put (some d) undef) w :=
 h.put (fun _ _ e=>by cases e) ⟨#[],rfl,rfl,fun k x u e=>by simp at e⟩
theorem grd_cases {g:Nat} {want:Bool} {v:VOp} (h:Sim L σ T st a w) (hm:mG P opl o (.grd g want v)=true) (hp:op rec env (.grd g want v) st=some st') :
  (Region.wanted o (yielded opl a.tmps)=true∧m1 P o v=true∧op1 rec env v st=some st')∨(Region.wanted o (yielded opl a.tmps)=false∧Sim L σ T st' (a.put o.dst undef) w∧st'.ys=st.ys):=by
 simp only [mG,Bool.and_eq_true] at hm
 obtain ⟨hm1,hm⟩:=hm
 split at hm1
 case h_2=>cases hm1
 rename_i j b hgd
 simp only [Bool.and_eq_true,beq_iff_eq] at hm1
 obtain ⟨rfl,hj⟩:=hm1
 have hd:o.dst=dstOf v:=by
  have hm':=hm
  simp only [m1,Bool.and_eq_true,beq_iff_eq] at hm'
  exact hm'.1
 have hskip:∀ {s:St},(match dstOf v with
   |some d=>some (st.put d (.tup false []))
   |none=>some st)=some s→Sim L σ T s (a.put o.dst undef) w∧s.ys=st.ys:=by
  intro s hp
  rw [hd]
  split at hp
  ·rename_i d hd2
   rw [hd2]
   have hp:=Option.some.inj hp;subst hp
   exact ⟨h.putUn,rfl⟩
  ·rename_i hd2
   rw [hd2]
   have hp:=Option.some.inj hp;subst hp
   exact ⟨h,rfl⟩
 have slot:∀ {x:AV},st.slots.getD g .any=x→x≠.any→st.slots[g]?=some x∧∃ u,a.tmps[g]?=some u∧ARep L σ T st a w g x u:=by
  intro x hs hx
  simp only [List.getD_eq_getElem?_getD] at hs
  cases e:st.slots[g]? with
  |none=>rw [e] at hs;exact absurd hs.symm hx
  |some y =>
   rw [e] at hs
   have hs:y=x:=hs
   subst hs
   have hlt:g<a.tmps.size:=by rw [h.size];exact (List.getElem?_eq_some_iff.1 e).1
   exact ⟨rfl,_,Array.getElem?_eq_getElem hlt,h.slots g _ _ e (Array.getElem?_eq_getElem hlt)⟩
 simp only [op] at hp
 split at hp
 ·rename_i t hs
  obtain ⟨_,u,hu,hr⟩:=slot hs (by simp)
  have hu:a.tmps[g]?=some (.bool t):=by rw [hu,PRep.bool_inv hr]
  have hy:yielded opl a.tmps j=some t:=by simp [yielded,hj,hu]
  have hw:Region.wanted o (yielded opl a.tmps)=(t==b):=by
   simp only [Region.wanted,hgd,hy]
   cases t<;>cases b<;>rfl
  by_cases htb:t=b
  ·subst htb
   simp only [↓reduceIte] at hp
   exact .inl ⟨by simp [hw],hm,hp⟩
  ·rw [if_neg htb] at hp
   exact .inr ⟨by simpa [hw] using htb,hskip hp⟩
 ·rename_i kk l hs
  obtain ⟨_,u,hu,arr,rfl,_⟩:=slot hs (by simp)
  have hy:yielded opl a.tmps j=none:=by
   cases kk<;>simp [yielded,hj,hu,tupV]
  split at hp
  ·exact .inr ⟨by simp [Region.wanted,hgd,hy],hskip hp⟩
  ·cases hp
 ·cases hp
theorem op_wp (hW:Wide F) (hC:C.Ok P L) (hcalls:CallsOk P rec env) (h:Sim L σ T st a w) (hJ:C.J st.ys.length T w) (hst:st.stop=C.stop) (hm:mG P opl o vo=true) (hp:op rec env vo st=some st') (hX:st'.ys <+: C.X)
  (hn:∀ a' w',After C L st.boxes.length σ T w st' a.defers a' w'→(calmG vo=true→Whole w w')→next a' w') :
  if Region.wanted o (yielded opl a.tmps) then o.wpIn F n P a w next Q else (∀ f,o.about P w a.eval=some f→F.fn f)∧next (a.put o.dst undef) w:=by
 by_cases hg:∃ g want v,vo=.grd g want v
 ·obtain ⟨g,want,v,rfl⟩:=hg
  rcases grd_cases h hm hp with ⟨g1,g2,g3⟩|⟨g1,g2,g3⟩
  ·rw [g1]
   simp only [↓reduceIte]
   exact op1_wp hW hC hcalls h hJ hst g2 g3 hX hn
  ·rw [g1]
   simp only [Bool.false_eq_true,↓reduceIte]
   refine ⟨fun f _=>hW.fn f,hn _ _ ?_ fun _=>Whole.refl w⟩
   rw [← put_defers (a:=a) (d:=o.dst) (v:=undef)]
   exact After.of_chg hC g2 (by rw [g3];exact hJ) (Chg.refl T w) (fun _ _=>rfl)
 ·have hm':o.guard.isNone=true∧m1 P o vo=true:=by
   cases vo<;>first|exact Bool.and_eq_true_iff.1 hm|exact absurd ⟨_,_,_,rfl⟩ hg
  have hp':op1 rec env vo st=some st':=by
   cases vo<;>first|exact hp|exact absurd ⟨_,_,_,rfl⟩ hg
  have hw:Region.wanted o (yielded opl a.tmps)=true:=by
   simp only [Region.wanted,Option.isNone_iff_eq_none.1 hm'.1]
  rw [hw]
  refine op1_wp hW hC hcalls h hJ hst hm'.2 hp' hX fun a' w' g1 g2=>hn _ _ g1 fun e=>g2 ?_
  cases vo<;>first|exact e|exact absurd ⟨_,_,_,rfl⟩ hg
theorem ops_grow:∀ {l:List VOp} {st st':St},ops rec env l st=some st'→Grow st.boxes.length st st'
 |[],st,st',h=>by simp only [ops,Option.some.injEq] at h;subst h;exact (Mono.refl _).grow
 |v :: l,st,st',h=>by
  simp only [ops] at h
  obtain ⟨st1,h1,h2⟩:=bind_some h
  exact ((op_grow h1).trans (ops_grow h2)).mono (op_grow h1).1
theorem ops_wp (hW:Wide F) (hC:C.Ok P L) (hcalls:CallsOk P rec env) (hX:st'.ys <+: C.X):∀ {l:List Oper} {vs:List VOp} {st:St} {σ:Nat→Nat} {T:Tags} {a:Act} {w:World},Sim L σ T st a w→C.J st.ys.length T w→st.stop=C.stop→mL P opl l vs=true→ops rec env vs st=some st' →
  (∀ a' w',After C L st.boxes.length σ T w st' a.defers a' w'→Q .normal a' w')→wpListIn F n P opl Q l a w
 |[],[],st,σ,T,a,w,h,hJ,_,_,hp,hn=>by
  simp only [ops,Option.some.injEq] at hp;subst hp
  exact hn _ _ (After.refl h hJ)
 |[],_ :: _,_,_,_,_,_,_,_,_,hm,_,_=>by simp [mL] at hm
 |_ :: _,[],_,_,_,_,_,_,_,_,hm,_,_=>by simp [mL] at hm
 |o :: l,v :: vs,st,σ,T,a,w,h,hJ,hst,hm,hp,hn=>by
  simp only [mL,Bool.and_eq_true] at hm
  simp only [ops] at hp
  obtain ⟨st1,h1,h2⟩:=bind_some hp
  have g1:=op_grow h1
  have g2:=ops_grow h2
  simp only [wpListIn]
  refine op_wp hW hC hcalls h hJ hst hm.1 h1 (g2.2.1.trans hX) ?_
  rintro a1 w1 ⟨σ1,T1,ms,k1,k2,k3,k4,k5,k6⟩ _
  exact ops_wp hW hC hcalls hX k1 k2 (g1.2.2.trans hst) hm.2 h2 fun a' w' hA=>hn _ _ (After.trans k4 k3 k5 k6 g1.1 hA)
theorem ops_wp2 (hW:Wide F) (hC:C.Ok P L) (hcalls:CallsOk P rec env) {l2:List Oper} (hX:st'.ys <+: C.X):∀ {l:List Oper} {vs:List VOp} {st:St} {σ:Nat→Nat} {T:Tags} {a:Act} {w:World},Sim L σ T st a w→C.J st.ys.length T w→st.stop=C.stop→mL P opl l vs=true→ops rec env vs st=some st' →
  (∀ a' w',After C L st.boxes.length σ T w st' a.defers a' w'→wpListIn F n P opl Q l2 a' w')→wpListIn F n P opl Q (l++l2) a w
 |[],[],st,σ,T,a,w,h,hJ,_,_,hp,hn=>by
  simp only [ops,Option.some.injEq] at hp;subst hp
  exact hn _ _ (After.refl h hJ)
 |[],_ :: _,_,_,_,_,_,_,_,_,hm,_,_=>by simp [mL] at hm
 |_ :: _,[],_,_,_,_,_,_,_,_,hm,_,_=>by simp [mL] at hm
 |o :: l,v :: vs,st,σ,T,a,w,h,hJ,hst,hm,hp,hn=>by
  simp only [mL,Bool.and_eq_true] at hm
  simp only [ops] at hp
  obtain ⟨st1,h1,h2⟩:=bind_some hp
  have g1:=op_grow h1
  have g2:=ops_grow h2
  simp only [List.cons_append,wpListIn]
  refine op_wp hW hC hcalls h hJ hst hm.1 h1 (g2.2.1.trans hX) ?_
  rintro a1 w1 ⟨σ1,T1,ms,k1,k2,k3,k4,k5,k6⟩ _
  exact ops_wp2 hW hC hcalls hX k1 k2 (g1.2.2.trans hst) hm.2 h2 fun a' w' hA=>hn _ _ (After.trans k4 k3 k5 k6 g1.1 hA)
theorem mL_snoc {vs:List VOp} {v:VOp}:∀ {l:List Oper},mL P opl l (vs++[v])=true→∃ l1 o,l=l1++[o]∧mL P opl l1 vs=true∧mG P opl o v=true:=by
 induction vs with
 |nil =>
  intro l h
  match l,h with
  |[o],h=>simp only [List.nil_append,mL,Bool.and_true] at h;exact ⟨[],o,rfl,rfl,h⟩
  |[],h=>simp [mL] at h
  |_ :: _ :: _,h=>simp [mL] at h
 |cons x vs ih =>
  intro l h
  cases l with
  |nil=>simp [mL] at h
  |cons o l =>
   simp only [List.cons_append,mL,Bool.and_eq_true] at h
   obtain ⟨l1,o1,rfl,g1,g2⟩:=ih h.2
   exact ⟨o :: l1,o1,rfl,by simp only [mL,h.1,g1,Bool.and_self],g2⟩
theorem thr_wp (hW:Wide F) (hC:C.Ok P L) (hcalls:CallsOk P rec env) (h:Sim L σ T st a w) (hJ:C.J st.ys.length T w) {f:Nat} {xs:List Opd} (hm:mG P opl o (.call d f xs)=true) {vs:List PV} (h2:xs.mapM st.pvOf=some vs) {t:Nat} {m:Int} (h3:calT rec env f vs=some (some (t,m)))
  (hn:∀ w',After C L st.boxes.length σ T w st a.defers a w'→Q (.panic [{ v:=.iface t (.int .i64 m),recovered:=false }]) a w'):wpListIn F n P opl Q [o] a w:=by
 have hm':o.guard.isNone=true∧m1 P o (.call d f xs)=true:=Bool.and_eq_true_iff.1 hm
 have hw:Region.wanted o (yielded opl a.tmps)=true:=by simp only [Region.wanted,Option.isNone_iff_eq_none.1 hm'.1]
 simp only [wpListIn,hw,↓reduceIte]
 have hm1:=hm'.2
 have hm2:=hm1
 simp only [m1,Bool.and_eq_true,beq_iff_eq,mv] at hm2
 obtain ⟨hd,hm2⟩:=hm2
 split at hm2<;>try (cases hm2;done)
 rename_i g ys ho
 simp only [Bool.and_eq_true,beq_iff_eq] at hm2
 obtain ⟨rfl,hm2⟩:=hm2
 obtain ⟨ats,ho⟩:=callF_eq ho
 obtain ⟨hcall,hok⟩:=hcalls.2.2.2 _ vs t m h3
 refine ⟨fun f _=>hW.fn f,?_⟩
 rw [semAt_eq (m1_defer hm1),run_callOp ho rfl hcall]
 refine ⟨fun e=>absurd e (by rw [hW.depth];simp),hW.calls ?_⟩
 obtain ⟨l1,l2⟩:=mapM_some h2
 obtain ⟨m1,m2⟩:=mAll_get hm2
 have hargs:(ys.map a.eval).toArray++#[]=(ys.map a.eval).toArray:=by simp
 rw [hargs]
 obtain ⟨T0,hT0⟩:∃ T0:Tags,T0=fun b=>if T b=.ro then .ro else .other:=⟨_,rfl⟩
 have hT0ro:∀ b,T b=.ro→T0 b=.ro:=fun b hb=>by rw [hT0];simp [hb]
 have h0:=hok T0 w (ys.map a.eval) (fun b=>by rw [hT0];simp only;split<;>simp) (fun b hb=>by rw [hT0];simp only;rw [if_neg];rw [h.fresh b hb];simp) (by simp [l1,m1]) (fun i p v hp hv=>by
  have hi:i<xs.length:=by rw [← l1];exact (List.getElem?_eq_some_iff.1 hp).1
  have hi2:i<ys.length:=by rw [m1];exact hi
  obtain ⟨q,g1,g2⟩:=l2 i _ (List.getElem?_eq_getElem hi)
  rw [g2] at hp
  cases hp
  rw [List.getElem?_map,List.getElem?_eq_getElem hi2] at hv
  cases hv
  exact (h.pv (m2 i _ _ (List.getElem?_eq_getElem hi2) (List.getElem?_eq_getElem hi)) g1).frame fun b hb _=>⟨hT0ro b hb,rfl⟩) ((hC.glob _ _ _ hJ).frame fun b hb _=>⟨hT0ro b hb,rfl⟩)
 refine h0.mono ?_
 rintro e w' ⟨rfl,hB⟩
 have hwh:Whole w w':=⟨hB.size,fun b hl=>hB.block b hl⟩
 exact hn w' (After.of_chg hC (h.sees hwh.sees) hJ ⟨hB.size,hB.os,hB.tape,hB.output,fun b hl _=>hB.block b hl,fun _ e=>e,fun _ _ e=>e⟩ (fun _ _=>rfl))
end
end Go.Proofs.YtpcncggjmabnaaaGreatDoor

namespace Go.Proofs.YtpcncggjmabnaaaGreatDoor
open Go.RowKit
section
variable {F:Fence} {n:Nat} {P:Program} {ops:Array Oper} {S S2:World→Prop} {Q:Act→World→Prop} {f:Nat}
def anyFin2 (F:Fence) (n:Nat) (P:Program) (ops:Array Oper) (S S2:World→Prop) (f:Nat) (Q:Act→World→Prop):Nat→Array Bool→Act→World→Prop
 |0,l,a,w=>Region.ready .any ops l=[]∧Q a w
 |fuel+1,l,a,w=>(Region.ready .any ops l=[]→Q a w)∧∀ i∈Region.ready .any ops l,wpOpIn F n P ops (onlyNormal Q) i (fun a' w'=>(((l.setIfInBounds i true).getD f false=true∨S w')∧S2 w')∧anyFin2 F n P ops S S2 f Q fuel (l.setIfInBounds i true) a' w') a w
theorem anyFin2_wp:∀ (fuel:Nat) (l:Array Bool) (a:Act) (w:World),anyFin2 F n P ops S S2 f Q fuel l a w→wpAnyIn F n P .any ops (onlyNormal Q) fuel l a w
 |0,_,_,_,h=>⟨h.1,rfl,h.2⟩
 |fuel+1,_,_,_,h=>⟨fun h0=>⟨rfl,h.1 h0⟩,fun i hi=>wpOpIn_mono (fun a' w' h'=>anyFin2_wp fuel _ a' w' h'.2) (h.2 i hi)⟩
theorem anyFin2_first (hF:∀ f,F.fn f) (hnd:noDefer ops=true) (hsel:Region.noSelect ops=true) {T:World→Prop} {i:Nat} {oi:Oper} {v:Value} (hi:ops[i]?=some oi) (hfi:f≠i)
  (hT:∀ l:Array Bool,l.size=ops.size→Closed ops l→l.getD i false=false→∀ w,((l.getD f false=true∨S w)∧S2 w)→T w) :
  ∀ (fuel:Nat) (l:Array Bool) (a:Act) (w:World),l.size=ops.size→Closed ops l→((l.getD f false=true∨S w)∧S2 w) →
   (∀ j oj,ops[j]?=some oj→j≠i→l.getD j true=false→(∀ e∈oj.after,Region.binds .any e=true→e.on≠i)→oi.apart ops oj=true) →
   i∈Region.ready .any ops l→YieldsIf P ops T oi v a →
   anyFin2 F n P ops S S2 f Q fuel (l.setIfInBounds i true) (a.put oi.dst v) w→anyFin2 F n P ops S S2 f Q (fuel+1) l a w:=by
 have self:∀ {a:Act} {w:World} {K:Act→World→Prop},YieldsIf P ops T oi v a→T w→K (a.put oi.dst v) w→wpOpIn F n P ops (onlyNormal Q) i K a w:=by
  intro a w K hy hS hk
  unfold wpOpIn
  simp only [hi]
  rcases hy with ⟨hw,hv⟩|⟨hw,rfl⟩
  ·rw [if_pos hw]
   refine ⟨fun f _=>hF f,?_⟩
   rw [Oper.semAt_eq _ _ _ (noDefer_spec hnd hi),hv w hS]
   exact hk
  ·rw [if_neg (by rw [hw];decide)]
   exact ⟨fun f _=>hF f,hk⟩
 have listed:∀ {l:Array Bool} {w:World},l.size=ops.size→i∈Region.ready .any ops l→((l.getD f false=true∨S w)∧S2 w)→(((l.setIfInBounds i true).getD f false=true∨S w)∧S2 w):=fun hs hr h=>⟨h.1.imp (fun h=>by rw [getD_set _ _ _ (ready_lt hs hr),if_neg (Ne.symm hfi)];exact h) id,h.2⟩
 have unlisted:∀ {l:Array Bool},i∈Region.ready .any ops l→l.size=ops.size→l.getD i false=false:=fun h hs=>by
  have h1:=(mem_ready.1 h).1
  have h2:=ready_lt hs h
  simpa [h2] using h1
 intro fuel
 induction fuel with
 |zero =>
  intro l a w hs hc hS _ hr hy H
  refine ⟨fun h=>(by rw [h] at hr;cases hr),fun j hj=>?_⟩
  by_cases hji:j=i
  ·subst hji;exact self hy (hT l hs hc (unlisted hr hs) w hS) ⟨listed hs hr hS,H⟩
  ·have:=ready_mono hj hji
   rw [H.1] at this
   cases this
 |succ fuel ih =>
  intro l a w hs hc hS hfree hr hy H
  refine ⟨fun h=>(by rw [h] at hr;cases hr),fun j hj=>?_⟩
  by_cases hji:j=i
  ·subst hji;exact self hy (hT l hs hc (unlisted hr hs) w hS) ⟨listed hs hr hS,H⟩
  ·have h1:=H.2 j (ready_mono hj hji)
   obtain ⟨hjun,oj,hoj,hall⟩:=mem_ready.1 hj
   have hnot:∀ e∈oj.after,Region.binds .any e=true→e.on≠i:=fun e he hb heq=>by
    have h1:=hall e he hb
    rw [heq,unlisted hr hs] at h1
    cases h1
   have h2:=opIn_put hF hnd hsel hi hoj (hfree j oj hoj hji hjun hnot) hy h1
   have hs':(l.setIfInBounds j true).size=ops.size:=by simpa using hs
   refine wpOpIn_mono (fun a' w' h3=>?_) h2
   have hSS:(((l.setIfInBounds j true).getD f false=true∨S w')∧S2 w'):=⟨h3.2.1.1.imp (fun h=>by
    rw [getD_set _ _ _ (by simpa using ready_lt hs hj),getD_set _ _ _ (ready_lt hs hr),if_neg (Ne.symm hfi)] at h
    rw [getD_set _ _ _ (ready_lt hs hj)];exact h) id,h3.2.1.2⟩
   refine ⟨hSS,ih (l.setIfInBounds j true) a' w' hs' (hc.set hs hj) hSS (fun k ok hk hki hun hno=>hfree k ok hk hki ?_ hno) (ready_mono hr (Ne.symm hji)) h3.1 ?_⟩
   ·by_cases hjk:j=k
    ·subst hjk;exact hjun
    ·rw [getD_set_ne true hjk] at hun;exact hun
   ·rw [Array.setIfInBounds_comm _ _ hji]
    exact h3.2.2
theorem seg2_sound (hF:∀ f,F.fn f) (hnd:noDefer ops=true) (hsel:Region.noSelect ops=true) {T:World→Prop} {w:World}:∀ (seg:List Nat) (m:Nat) (l l':Array Bool) (a:Act),l.size=ops.size→Closed ops l→((l.getD f false=true∨S w)∧S2 w) →
  (∀ i∈seg,f≠i∧∀ l:Array Bool,l.size=ops.size→Closed ops l→l.getD i false=false→(∀ j,l.getD j false=true∨True)→∀ w,((l.getD f false=true∨S w)∧S2 w)→T w) →
  quietRun ops seg l=some l'→(l'.size=ops.size→Closed ops l'→((l'.getD f false=true∨S w)∧S2 w)→True) →
  wpQuiet P ops T (fun a'=>∀ (_:l'.size=ops.size) (_:Closed ops l') (_:(l'.getD f false=true∨S w)∧S2 w),anyFin2 F n P ops S S2 f Q m l' a' w) (pick ops seg) a→anyFin2 F n P ops S S2 f Q (m+seg.length) l a w
 |[],m,l,l',a,hs,hc,hS,_,hq,_,h=>by
  simp only [quietRun,Option.some.injEq] at hq
  subst hq
  exact h hs hc hS
 |i :: is,m,l,l',a,hs,hc,hS,hT,hq,ht,h=>by
  unfold quietRun at hq
  split at hq
  case isFalse=>cases hq
  rename_i hcnd
  simp only [Bool.and_eq_true] at hcnd
  obtain ⟨⟨hp,hf⟩,hr⟩:=hcnd
  have hr':i∈Region.ready .any ops l:=by simpa using hr
  cases ho:ops[i]? with
  |none=>rw [ho] at hp;simp at hp
  |some o =>
   rw [ho] at hp
   simp only [Option.map_some,Option.getD_some] at hp
   simp only [pick,List.filterMap_cons,ho] at h
   unfold wpQuiet at h
   have key:∃ v,YieldsIf P ops T o v a∧wpQuiet P ops T (fun a'=>∀ (_:l'.size=ops.size) (_:Closed ops l') (_:(l'.getD f false=true∨S w)∧S2 w),anyFin2 F n P ops S S2 f Q m l' a' w) (pick ops is) (a.put o.dst v):=by
    split at h
    ·rename_i hw
     obtain ⟨v,h1,h2⟩:=h
     refine ⟨v,.inl ⟨hw,fun w1 hw1=>?_⟩,h2⟩
     have h3:=h1 w1 hw1
     unfold Oper.quietAt at h3
     cases hrun:(execOp a.eval o).run P w1 with
     |halt x w2=>rw [hrun] at h3;exact h3.elim
     |ok x w2 =>
      obtain ⟨y,rfl⟩:=plain_value hp hrun
      rw [hrun] at h3
      obtain ⟨e1,e2⟩:=h3
      rw [e1,e2]
    ·rename_i hw
     exact ⟨undef,.inr ⟨by simpa using hw,rfl⟩,h⟩
   obtain ⟨v,hy,hk⟩:=key
   have hTi:=hT i (by simp)
   refine anyFin2_first hF hnd hsel ho hTi.1 (fun l hs hc hu w hS=>hTi.2 l hs hc hu (fun _=>.inr trivial) w hS) (m+is.length) l a w hs hc hS (Region.free_spec ho hf) hr' hy ?_
   refine seg2_sound hF hnd hsel is m (l.setIfInBounds i true) l' _ (by simpa using hs) (hc.set hs hr') ⟨hS.1.imp (fun h=>?_) id,hS.2⟩ (fun j hj=>hT j (by simp [hj])) hq ht hk
   rw [getD_set _ _ _ (ready_lt hs hr'),if_neg (Ne.symm hTi.1)];exact h
end
end Go.Proofs.YtpcncggjmabnaaaGreatDoor

namespace Go.Proofs.YtpcncggjmabnaaaGreatDoor
open Go.RowKit
section
variable {F:Fence} {n:Nat} {P:Program} {ops:Array Oper} {Q:Act→World→Prop} {f:Nat}
theorem anyFin2_weak {S S' S2 S2':World→Prop} (hS:∀ w,S' w→S w) (hS2:∀ w,S2' w→S2 w):∀ (m:Nat) (l:Array Bool) (a:Act) (w:World),anyFin2 F n P ops S' S2' f Q m l a w→anyFin2 F n P ops S S2 f Q m l a w
 |0,_,_,_,h=>h
 |m+1,_,_,_,h=>⟨h.1,fun i hi=>wpOpIn_mono (fun a' w' h'=>⟨⟨h'.1.1.imp id (hS w'),hS2 w' h'.1.2⟩,anyFin2_weak hS hS2 m _ a' w' h'.2⟩) (h.2 i hi)⟩
abbrev Fin1:=Option (List Nat × List Nat × Nat × List (List Nat × Nat))
def finNo (ops:Array Oper):Fin1→Nat
 |none=>ops.size
 |some (_,_,f,_)=>f
def tlA (ops:Array Oper) (i:Nat) (seg:List Nat):List Nat:=seg.takeWhile (depB ops ops.size i)
def tlB (ops:Array Oper) (i:Nat) (seg:List Nat):List Nat:=seg.dropWhile (depB ops ops.size i)
def tailB (ops:Array Oper) (f:Nat) (last:List Nat):List (List Nat × Nat)→Array Bool→Bool
 |[],l=>last.all (fun i=>f != i)&&match quietRun ops last l with
  |some l2=>(Region.ready .any ops l2).isEmpty
  |none=>false
 |(seg,i) :: more,l=>seg.all (fun j=>f != j&&i != j)&&f != i&&match quietRun ops (tlA ops i seg) l with
  |some l0=>match quietRun ops (tlB ops i seg) l0 with
   |some l1=>(Region.ready .any ops l1==[i])&&tailB ops f last more (l1.setIfInBounds i true)
   |none=>false
  |none=>false
def tailCount (last:List Nat):List (List Nat × Nat)→Nat
 |[]=>last.length
 |(seg,_) :: more=>tailCount last more+1+seg.length
def finDep (ops:Array Oper) (fin:Fin1) (i:Nat):Bool:=match fin with
 |none=>true
 |some (_,_,f,_)=>depB ops ops.size f i
def segA (ops:Array Oper) (fin:Fin1) (seg:List Nat):List Nat:=seg.takeWhile (finDep ops fin)
def segB (ops:Array Oper) (fin:Fin1) (seg:List Nat):List Nat:=seg.dropWhile (finDep ops fin)
def segOk (ops:Array Oper) (fin:Fin1) (seg:List Nat):Bool:=(match fin with
 |none=>seg.all (fun i=>i<ops.size)
 |some (_,_,f,_)=>seg.all (fun i=>f != i))
def drwB (ops:Array Oper):List (List Nat × Nat)→Fin1→List Nat→Array Bool→Bool
 |[],none,last,l=>last.all (fun i=>i<ops.size)&&match quietRun ops last l with
  |some l1=>(Region.ready .any ops l1).isEmpty
  |none=>false
 |[],some (segf,segu,f,tl),last,l=>segf.all (fun i=>f != i&&depB ops ops.size f i)&&segu.all (fun i=>f != i)&&match quietRun ops segf l with
  |some l0=>match quietRun ops segu l0 with
   |some l1=>(Region.ready .any ops l1==[f])&&tailB ops f last tl (l1.setIfInBounds f true)
   |none=>false
  |none=>false
 |(seg,i) :: more,fin,last,l=>segOk ops fin seg&&match quietRun ops (segA ops fin seg) l with
  |some l0=>match quietRun ops (segB ops fin seg) l0 with
   |some l1=>(Region.ready .any ops l1==[i])&&drwB ops more fin last (l1.setIfInBounds i true)
   |none=>false
  |none=>false
def drwCount:List (List Nat × Nat)→Fin1→List Nat→Nat
 |[],none,last=>last.length
 |[],some (segf,segu,_,tl),last=>tailCount last tl+1+segu.length+segf.length
 |(seg,_) :: more,fin,last=>drwCount more fin last+1+seg.length
def drwOk (ops:Array Oper) (acts:List (List Nat × Nat)) (fin:Fin1) (last:List Nat):Bool :=
 Region.noSelect ops&&(drwCount acts fin last==ops.size)&&drwB ops acts fin last (Array.replicate ops.size false)
def wpTail (F:Fence) (n:Nat) (P:Program) (ops:Array Oper) (Q:Act→World→Prop) (last:List Nat):(World→Prop)→List (List Nat × Nat)→Act→World→Prop
 |S2,[],a,w=>∃ S3:World→Prop,(∀ w,S3 w→S2 w)∧S3 w∧wpQuiet P ops S3 (fun a3=>Q a3 w) (pick ops last) a
 |S2,(seg,i) :: more,a,w=>wpQuiet P ops (Whole w) (fun a0=>∃ S3:World→Prop,(∀ w,S3 w→S2 w)∧S3 w∧wpQuiet P ops S3 (fun a'=>wpListIn F n P ops (fun e a'' w''=>e=.normal∧S3 w''∧wpTail F n P ops Q last S3 more a'' w'') (pick ops [i]) a' w) (pick ops (tlB ops i seg)) a0) (pick ops (tlA ops i seg)) a
def wpDrw (F:Fence) (n:Nat) (P:Program) (ops:Array Oper) (Q:Act→World→Prop):(World→Prop)→(World→Prop)→List (List Nat × Nat)→Fin1→List Nat→Act→World→Prop
 |S,_,[],none,last,a,w=>wpQuiet P ops S (fun a'=>Q a' w) (pick ops last) a
 |S,S2,[],some (segf,segu,f,tl),last,a,w=>wpQuiet P ops S (fun a0=>∃ S3:World→Prop,(∀ w,S3 w→S2 w)∧S3 w∧wpQuiet P ops S3 (fun a'=>wpListIn F n P ops (fun e a'' w''=>e=.normal∧S3 w''∧wpTail F n P ops Q last S3 tl a'' w'') (pick ops [f]) a' w) (pick ops segu) a0) (pick ops segf) a
 |S,S2,(seg,i) :: more,fin,last,a,w=>wpQuiet P ops S (fun a0=>∃ S3:World→Prop,(∀ w,S3 w→S2 w)∧S3 w∧wpQuiet P ops S3 (fun a'=>wpListIn F n P ops (fun e a'' w''=>e=.normal∧∃ S':World→Prop,(∀ w,S' w→S w)∧S' w''∧S3 w''∧wpDrw F n P ops Q S' S3 more fin last a'' w'') (pick ops [i]) a' w) (pick ops (segB ops fin seg)) a0) (pick ops (segA ops fin seg)) a
theorem quietRun_keeps:∀ (seg:List Nat) (l l':Array Bool),l.size=ops.size→quietRun ops seg l=some l'→l.getD f false=true→l'.getD f false=true
 |[],l,l',_,h,hf=>by simp only [quietRun,Option.some.injEq] at h;subst h;exact hf
 |i :: is,l,l',hs,h,hf=>by
  unfold quietRun at h
  split at h
  case isFalse=>cases h
  rename_i hc
  simp only [Bool.and_eq_true] at hc
  have hr:i∈Region.ready .any ops l:=by simpa using hc.2
  refine quietRun_keeps is _ l' (by simpa using hs) h ?_
  rw [getD_set _ _ _ (ready_lt hs hr)]
  split
  ·rfl
  ·exact hf
theorem anyFin2_other {S S' S2:World→Prop} {g:Nat}:∀ (m:Nat) (l:Array Bool) (a:Act) (w:World),l.size=ops.size→l.getD g false=true→anyFin2 F n P ops S' S2 f Q m l a w→anyFin2 F n P ops S S2 g Q m l a w
 |0,_,_,_,_,_,h=>h
 |m+1,l,a,w,hs,hg,h=>⟨h.1,fun i hi=>wpOpIn_mono (fun a' w' h'=>by
   have hg':(l.setIfInBounds i true).getD g false=true:=by
    rw [getD_set _ _ _ (ready_lt hs hi)]
    split
    ·rfl
    ·exact hg
   exact ⟨⟨.inl hg',h'.1.2⟩,anyFin2_other m _ _ _ (by simpa using hs) hg' h'.2⟩) (h.2 i hi)⟩
theorem tlAB (i:Nat) (seg:List Nat):(tlB ops i seg).length+(tlA ops i seg).length=seg.length:=by
 have:=congrArg List.length (List.takeWhile_append_dropWhile (p:=depB ops ops.size i) (l:=seg))
 rw [List.length_append] at this
 unfold tlA tlB;omega
theorem tail_sound {S:World→Prop} (hF:∀ f,F.fn f) (hnd:noDefer ops=true) (hsel:Region.noSelect ops=true) {last:List Nat}:∀ (tl:List (List Nat × Nat)) (S2:World→Prop) (l:Array Bool) (a:Act) (w:World),l.size=ops.size→Closed ops l→l.getD f false=true→S2 w→tailB ops f last tl l=true →
  wpTail F n P ops Q last S2 tl a w→anyFin2 F n P ops S S2 f Q (tailCount last tl) l a w
 |[],S2,l,a,w,hs,hc,hf,h2,hB,h=>by
  unfold tailB at hB
  simp only [Bool.and_eq_true] at hB
  obtain ⟨hl,hB⟩:=hB
  split at hB
  case h_2=>cases hB
  rename_i l2 hq2
  unfold wpTail at h
  obtain ⟨S3,hS3,hw3,h⟩:=h
  refine anyFin2_weak (S':=S) (S2':=S3) (fun _ h=>h) hS3 _ _ _ _ ?_
  have h3:=seg2_sound (F:=F) (n:=n) (P:=P) (S:=S) (Q:=Q) (f:=f) hF hnd hsel (S2:=S3) (T:=S3) (w:=w) last 0 l l2 a hs hc ⟨.inl hf,hw3⟩
   (fun i hi=>⟨by have:=List.all_eq_true.1 hl i hi;simpa using this,fun _ _ _ _ _ _ h=>h.2⟩) hq2 (fun _ _ _=>trivial) (wpQuiet_imp (fun a3 h3 _ _ _=>⟨by simpa using hB,h3⟩) _ _ h)
  simpa [tailCount] using h3
 |(seg,i) :: more,S2,l,a,w,hs,hc,hf,h2,hB,h=>by
  unfold tailB at hB
  simp only [Bool.and_eq_true,bne_iff_ne] at hB
  obtain ⟨⟨hl,hfi⟩,hB⟩:=hB
  have hlA:∀ j∈tlA ops i seg,j∈seg:=fun j hj=>(List.takeWhile_prefix (depB ops ops.size i)).subset hj
  have hlB:∀ j∈tlB ops i seg,j∈seg:=fun j hj=>(List.dropWhile_suffix (depB ops ops.size i)).subset hj
  have hne:∀ j∈seg,f≠j∧i≠j:=fun j hj=>by have:=List.all_eq_true.1 hl j hj;simpa using this
  split at hB
  case h_2=>cases hB
  rename_i l0 hq0
  split at hB
  case h_2=>cases hB
  rename_i l1 hq1
  simp only [Bool.and_eq_true,beq_iff_eq] at hB
  obtain ⟨hr,hB⟩:=hB
  unfold wpTail at h
  have h3:=seg2_sound (F:=F) (n:=n) (P:=P) (S:=Whole w) (Q:=Q) (f:=i) (S2:=S2) hF hnd hsel (T:=Whole w) (w:=w) (tlA ops i seg) (tailCount last more+1+(tlB ops i seg).length) l l0 a hs hc ⟨.inr (Whole.refl w),h2⟩ (fun j hj=>by
   have hd:depB ops ops.size i j=true:=List.all_eq_true.1 (List.all_takeWhile (p:=depB ops ops.size i) (l:=seg)) j hj
   refine ⟨(hne j (hlA j hj)).2,fun l _ hc hu _ w hS=>hS.1.resolve_left fun hf=>?_⟩
   rw [hc.dep _ _ _ hf hd] at hu;cases hu) hq0 (fun _ _ _=>trivial) (wpQuiet_imp (fun a0 h0 hs0 hc0 hS0=>by
    obtain ⟨S3,hS3,hw3,h0⟩:=h0
    refine anyFin2_weak (S':=Whole w) (S2':=S3) (fun _ h=>h) hS3 _ _ _ _ ?_
    refine seg2_sound (F:=F) (n:=n) (P:=P) (S:=Whole w) (Q:=Q) (f:=i) (S2:=S3) hF hnd hsel (T:=S3) (w:=w) (tlB ops i seg) (tailCount last more+1) l0 l1 a0 hs0 hc0 ⟨hS0.1,hw3⟩ (fun j hj=>⟨(hne j (hlB j hj)).2,fun _ _ _ _ _ _ h=>h.2⟩) hq1 (fun _ _ _=>trivial) (wpQuiet_imp (fun a' h' hs1 hc1 _=>by
     refine ⟨fun h0=>(by rw [hr] at h0;cases h0),fun j hj=>?_⟩
     have hj':=hj
     rw [hr] at hj
     obtain rfl:j=i:=by simpa using hj
     have hf0:=quietRun_keeps _ l l0 hs hq0 hf
     have hf1:=quietRun_keeps _ l0 l1 hs0 hq1 hf0
     have hg1:(l1.setIfInBounds j true).getD j false=true:=by rw [getD_set _ _ _ (ready_lt hs1 hj'),if_pos rfl]
     have hf2:(l1.setIfInBounds j true).getD f false=true:=by
      rw [getD_set _ _ _ (ready_lt hs1 hj')]
      split
      ·rfl
      ·exact hf1
     exact oneAct hF (fun a2 w2 h3=>⟨⟨.inl hg1,h3.1⟩,anyFin2_other (S':=S) _ _ _ _ (by simpa using hs1) hg1 (tail_sound hF hnd hsel more S3 _ _ _ (by simpa using hs1) (hc1.set hs1 hj') hf2 h3.1 hB h3.2)⟩) h') _ _ h0)) _ _ h)
  have e:=tlAB (ops:=ops) i seg
  simp only [tailCount]
  rw [show tailCount last more+1+seg.length=tailCount last more+1+(tlB ops i seg).length+(tlA ops i seg).length by omega]
  exact anyFin2_other _ _ _ _ hs hf h3
theorem segA_T {S S2:World→Prop} {fin:Fin1} {seg:List Nat} (h:segOk ops fin seg=true):∀ i∈segA ops fin seg,finNo ops fin≠i∧∀ l:Array Bool,l.size=ops.size→Closed ops l→l.getD i false=false→(∀ j,l.getD j false=true∨True)→∀ w,((l.getD (finNo ops fin) false=true∨S w)∧S2 w)→S w:=fun i hi=>by
 have hd:finDep ops fin i=true:=List.all_eq_true.1 (List.all_takeWhile (p:=finDep ops fin) (l:=seg)) i hi
 have hm:i∈seg:=(List.takeWhile_prefix (finDep ops fin)).subset hi
 cases fin with
 |none =>
  have:=List.all_eq_true.1 h i hm
  simp only [decide_eq_true_eq] at this
  refine ⟨by simp only [finNo];omega,fun l hs hc hu _ w hS=>hS.1.resolve_left fun hf=>?_⟩
  simp only [finNo] at hf
  rw [Array.getD_eq_getD_getElem?,Array.getElem?_eq_none (by omega)] at hf;cases hf
 |some p =>
  have:=List.all_eq_true.1 h i hm
  simp only [bne_iff_ne] at this
  refine ⟨this,fun l _ hc hu _ w hS=>hS.1.resolve_left fun hf=>?_⟩
  rw [hc.dep _ _ _ hf hd] at hu;cases hu
theorem segB_T {S S2:World→Prop} {fin:Fin1} {seg:List Nat} (h:segOk ops fin seg=true):∀ i∈segB ops fin seg,finNo ops fin≠i∧∀ l:Array Bool,l.size=ops.size→Closed ops l→l.getD i false=false→(∀ j,l.getD j false=true∨True)→∀ w,((l.getD (finNo ops fin) false=true∨S w)∧S2 w)→S2 w:=fun i hi=>by
 have hm:i∈seg:=(List.dropWhile_suffix (finDep ops fin)).subset hi
 refine ⟨?_,fun l _ _ _ _ w hS=>hS.2⟩
 cases fin with
 |none =>
  have:=List.all_eq_true.1 h i hm
  simp only [decide_eq_true_eq] at this
  simp only [finNo];omega
 |some p =>
  have:=List.all_eq_true.1 h i hm
  simp only [bne_iff_ne] at this
  exact this
theorem segAB (fin:Fin1) (seg:List Nat):(segB ops fin seg).length+(segA ops fin seg).length=seg.length:=by
 have:=congrArg List.length (List.takeWhile_append_dropWhile (p:=finDep ops fin) (l:=seg))
 rw [List.length_append] at this
 unfold segA segB;omega
theorem drw_sound (hF:∀ f,F.fn f) (hnd:noDefer ops=true) (hsel:Region.noSelect ops=true) {fin:Fin1} {last:List Nat}:∀ (acts:List (List Nat × Nat)) (S S2:World→Prop) (l:Array Bool) (a:Act) (w:World),l.size=ops.size→Closed ops l→drwB ops acts fin last l=true→S w→S2 w →
  wpDrw F n P ops Q S S2 acts fin last a w→anyFin2 F n P ops S S2 (finNo ops fin) Q (drwCount acts fin last) l a w
 |[],S,S2,l,a,w,hs,hc,hB,hS,hS2,h=>by
  cases fin with
  |none =>
   unfold drwB at hB
   simp only [Bool.and_eq_true] at hB
   obtain ⟨hl,hB⟩:=hB
   split at hB
   case h_2=>cases hB
   rename_i l1 hq1
   unfold wpDrw at h
   have:=seg2_sound (F:=F) (n:=n) (P:=P) (S:=S) (Q:=Q) (f:=ops.size) (S2:=S2) hF hnd hsel (T:=S) (w:=w) last 0 l l1 a hs hc ⟨.inr hS,hS2⟩ (fun i hi=>by
    have:=List.all_eq_true.1 hl i hi
    simp only [decide_eq_true_eq] at this
    refine ⟨by omega,fun l hs hc hu _ w hS=>hS.1.resolve_left fun hf=>?_⟩
    rw [Array.getD_eq_getD_getElem?,Array.getElem?_eq_none (by omega)] at hf;cases hf) hq1 (fun _ _ _=>trivial) (wpQuiet_imp (fun a' h' _ _ _=>⟨by simpa using hB,h'⟩) _ _ h)
   simpa [drwCount,finNo] using this
  |some p =>
   obtain ⟨segf,segu,f,tl⟩:=p
   unfold drwB at hB
   simp only [Bool.and_eq_true] at hB
   obtain ⟨⟨hsg,hsu⟩,hB⟩:=hB
   split at hB
   case h_2=>cases hB
   rename_i l0 hq0
   split at hB
   case h_2=>cases hB
   rename_i l1 hq1
   simp only [Bool.and_eq_true,beq_iff_eq] at hB
   obtain ⟨hr,hB⟩:=hB
   unfold wpDrw at h
   have:=seg2_sound (F:=F) (n:=n) (P:=P) (S:=S) (Q:=Q) (f:=f) (S2:=S2) hF hnd hsel (T:=S) (w:=w) segf (tailCount last tl+1+segu.length) l l0 a hs hc ⟨.inr hS,hS2⟩ (fun i hi=>by
    have:=List.all_eq_true.1 hsg i hi
    simp only [Bool.and_eq_true,bne_iff_ne] at this
    refine ⟨this.1,fun l _ hc hu _ w hS=>hS.1.resolve_left fun hf=>?_⟩
    rw [hc.dep _ _ _ hf this.2] at hu;cases hu) hq0 (fun _ _ _=>trivial) (wpQuiet_imp (fun a0 h0 hs0 hc0 hS0=>by
     obtain ⟨S3,hS3,hw3,h0⟩:=h0
     refine anyFin2_weak (S':=S) (S2':=S3) (fun _ h=>h) hS3 _ _ _ _ ?_
     refine seg2_sound (F:=F) (n:=n) (P:=P) (S:=S) (Q:=Q) (f:=f) (S2:=S3) hF hnd hsel (T:=S3) (w:=w) segu (tailCount last tl+1) l0 l1 a0 hs0 hc0 ⟨hS0.1,hw3⟩ (fun i hi=>by
      have:=List.all_eq_true.1 hsu i hi
      simp only [bne_iff_ne] at this
      exact ⟨this,fun _ _ _ _ _ _ h=>h.2⟩) hq1 (fun _ _ _=>trivial) (wpQuiet_imp (fun a' h' hs1 hc1 _=>by
       refine ⟨fun h0=>(by rw [hr] at h0;cases h0),fun j hj=>?_⟩
       have hj':=hj
       rw [hr] at hj
       obtain rfl:j=f:=by simpa using hj
       have hf1:(l1.setIfInBounds j true).getD j false=true:=by rw [getD_set _ _ _ (ready_lt hs1 hj'),if_pos rfl]
       exact oneAct hF (fun a2 w2 h3=>⟨⟨.inl hf1,h3.1⟩,tail_sound hF hnd hsel tl S3 _ _ _ (by simpa using hs1) (hc1.set hs1 hj') hf1 h3.1 hB h3.2⟩) h') _ _ h0)) _ _ h)
   simpa [drwCount,finNo] using this
 |(seg,i) :: more,S,S2,l,a,w,hs,hc,hB,hS,hS2,h=>by
  unfold drwB at hB
  simp only [Bool.and_eq_true] at hB
  obtain ⟨hsg,hB⟩:=hB
  split at hB
  case h_2=>cases hB
  rename_i l0 hq0
  split at hB
  case h_2=>cases hB
  rename_i l1 hq1
  simp only [Bool.and_eq_true,beq_iff_eq] at hB
  obtain ⟨hr,hB⟩:=hB
  unfold wpDrw at h
  have:=seg2_sound (F:=F) (n:=n) (P:=P) (S:=S) (Q:=Q) (f:=finNo ops fin) (S2:=S2) hF hnd hsel (T:=S) (w:=w) (segA ops fin seg) (drwCount more fin last+1+(segB ops fin seg).length) l l0 a hs hc ⟨.inr hS,hS2⟩ (segA_T hsg) hq0 (fun _ _ _=>trivial) (wpQuiet_imp (fun a0 h0 hs0 hc0 hS0=>by
    obtain ⟨S3,hS3,hw3,h0⟩:=h0
    refine anyFin2_weak (S':=S) (S2':=S3) (fun _ h=>h) hS3 _ _ _ _ ?_
    refine seg2_sound (F:=F) (n:=n) (P:=P) (S:=S) (Q:=Q) (f:=finNo ops fin) (S2:=S3) hF hnd hsel (T:=S3) (w:=w) (segB ops fin seg) (drwCount more fin last+1) l0 l1 a0 hs0 hc0 ⟨hS0.1,hw3⟩ (segB_T hsg) hq1 (fun _ _ _=>trivial) (wpQuiet_imp (fun a' h' hs1 hc1 _=>by
     refine ⟨fun h0=>(by rw [hr] at h0;cases h0),fun j hj=>?_⟩
     have hj':=hj
     rw [hr] at hj
     obtain rfl:j=i:=by simpa using hj
     refine oneAct hF (fun a2 w2 h2=>?_) h'
     obtain ⟨S',k1,k2,k3,k4⟩:=h2
     exact ⟨⟨.inr (k1 _ k2),k3⟩,anyFin2_weak k1 (fun _ h=>h) _ _ _ _ (drw_sound hF hnd hsel more S' S3 _ _ _ (by simpa using hs1) (hc1.set hs1 hj') hB k2 k3 k4)⟩) _ _ h0)) _ _ h)
  have e:=segAB (ops:=ops) fin seg
  simp only [drwCount]
  rw [show drwCount more fin last+1+seg.length=drwCount more fin last+1+(segB ops fin seg).length+(segA ops fin seg).length by omega]
  exact this
theorem wpIn_region_drw {id:Nat} {l:Array Oper} {a:Act} {w:World} {Q:Exit→Act→World→Prop} (S:World→Prop) {acts:List (List Nat × Nat)} {fin:Fin1} {last:List Nat} (hF:∀ f,F.fn f) (hm:P.follows .mixedOrders=true)
  (hnd:noDefer l=true) (hB:drwOk l acts fin last=true) (hS:S w.drew) (h:wpDrw F n P l (Q .normal) S (fun _=>True) acts fin last a w.drew):(Code.region id l true).wpIn F n P Q a w:=by
 simp only [drwOk,Bool.and_eq_true,beq_iff_eq] at hB
 obtain ⟨⟨hsel,hn⟩,hB⟩:=hB
 refine Code.wpIn_mono (Q:=onlyNormal (Q .normal)) (fun e a w h=>by obtain ⟨rfl,h⟩:=h;exact h) (wpIn_region_any hm ?_)
 have:=anyFin2_wp _ _ _ _ (drw_sound hF hnd hsel acts S (fun _=>True) (Array.replicate l.size false) a _ (by simp) (fun m o hm=>absurd hm (by rw [Array.getD_eq_getD_getElem?,Array.getElem?_replicate];split<;>simp)) hB hS trivial h)
 rw [hn] at this
 exact this
end
end Go.Proofs.YtpcncggjmabnaaaGreatDoor

namespace Go.Proofs.YtpcncggjmabnaaaGreatDoor
open Go.RowKit
def core:VOp→VOp
 |.grd _ _ v=>v
 |v=>v
def muteOp:VOp→Bool
 |.mov ..|.asg ..|.un ..|.pick ..|.bin ..|.conv ..|.mn ..|.fadr ..|.aadr ..|.iadr ..|.fld ..|.idx ..|.len ..|.lens ..|.isn ..|.ext ..|.sli ..|.eqa ..|.eqb ..|.eqm ..=>true
 |_=>false
def looseOp (v:VOp):Bool:=muteOp v || match v with
 |.ldz ..=>true
 |_=>false
def stillOp:VOp→Bool
 |.build ..|.bldo ..=>true
 |_=>false
def looseL:Bool→List VOp→Bool
 |_,[]=>true
 |ok,v :: vs=>(muteOp (core v)&&looseL ok vs) || (stillOp (core v)&&looseL false vs) || (ok&&looseOp (core v)&&looseL ok vs)
def quietOk (P:Program) (opl:Array Oper) (seg:List Nat) (vs:List VOp):Bool:=mL P opl (pick opl seg) vs&&vs.all fun v=>!isAct (core v)
def mTail (P:Program) (opl:Array Oper) (last:List Nat):List (List Nat × Nat)→List VOp→Bool
 |[],vs=>mL P opl (pick opl last) vs&&looseL true vs
 |(seg,i) :: more,vs=>quietOk P opl (tlA opl i seg) (vs.take (tlA opl i seg).length)&&mL P opl (pick opl (tlB opl i seg)) ((vs.drop (tlA opl i seg).length).take (tlB opl i seg).length)&&looseL true ((vs.drop (tlA opl i seg).length).take (tlB opl i seg).length)&&match (vs.drop (tlA opl i seg).length).drop (tlB opl i seg).length with
  |v :: vs=>mL P opl (pick opl [i]) [v]&&mTail P opl last more vs
  |[]=>false
def mDrw (P:Program) (opl:Array Oper) (fin:Fin1) (last:List Nat):List (List Nat × Nat)→List VOp→Bool
 |[],vs=>match fin with
  |none=>quietOk P opl last vs
  |some (segf,segu,f,tl)=>quietOk P opl segf (vs.take segf.length)&&mL P opl (pick opl segu) ((vs.drop segf.length).take segu.length)&&looseL true ((vs.drop segf.length).take segu.length)&&match (vs.drop segf.length).drop segu.length with
   |v :: vs=>mL P opl (pick opl [f]) [v]&&mTail P opl last tl vs
   |[]=>false
 |(seg,i) :: more,vs=>quietOk P opl (segA opl fin seg) (vs.take (segA opl fin seg).length)&&mL P opl (pick opl (segB opl fin seg)) ((vs.drop (segA opl fin seg).length).take (segB opl fin seg).length)&&looseL true ((vs.drop (segA opl fin seg).length).take (segB opl fin seg).length)&&match (vs.drop (segA opl fin seg).length).drop (segB opl fin seg).length with
  |v :: vs=>mL P opl (pick opl [i]) [v]&&calmG v&&mDrw P opl fin last more vs
  |[]=>false
section
variable {P:Program} {F:Fence} {C:Ctx} {n L nb:Nat} {σ σ':Nat→Nat} {T T' T1 T2:Tags} {st st' st1:St} {a a1:Act} {w w1:World} {o:Oper} {vo:VOp} {y:Operand} {x:Opd} {d:Nat}
 {rec:VCode→St→Option (Ex × St)} {env:Env} {next:Act→World→Prop} {Q:Exit→Act→World→Prop} {opl:Array Oper} {ds:List Deferred} {e:Ex}
theorem guard_cases (h:Sim L σ T st a w) (hm:mG P opl o vo=true) (hp:op rec env vo st=some st') :
  (Region.wanted o (yielded opl a.tmps)=true∧m1 P o (core vo)=true∧op1 rec env (core vo) st=some st')∨(Region.wanted o (yielded opl a.tmps)=false∧Sim L σ T st' (a.put o.dst undef) w):=by
 by_cases hg:∃ g want v,vo=.grd g want v
 ·obtain ⟨g,want,v,rfl⟩:=hg
  rcases grd_cases h hm hp with g|⟨g1,g2,_⟩
  ·exact .inl g
  ·exact .inr ⟨g1,g2⟩
 ·have hm':o.guard.isNone=true∧m1 P o vo=true:=by
   cases vo<;>first|exact Bool.and_eq_true_iff.1 hm|exact absurd ⟨_,_,_,rfl⟩ hg
  have hp':op1 rec env vo st=some st':=by
   cases vo<;>first|exact hp|exact absurd ⟨_,_,_,rfl⟩ hg
  have hw:Region.wanted o (yielded opl a.tmps)=true:=by
   simp only [Region.wanted,Option.isNone_iff_eq_none.1 hm'.1]
  have hc:core vo=vo:=by
   cases vo<;>first|rfl|exact absurd ⟨_,_,_,rfl⟩ hg
  rw [hc]
  exact .inl ⟨hw,hm'.2,hp'⟩
theorem mute_sound (h:Sim L σ T st a w) (hm:m1 P o vo=true) (hq:muteOp vo=true) (hp:plain vo st=some st'):Mute P L σ T st' a w o:=by
 simp only [m1,Bool.and_eq_true,beq_iff_eq] at hm
 obtain ⟨hd,hm⟩:=hm
 cases vo<;>simp only [muteOp,Bool.false_eq_true] at hq<;>simp only [mv] at hm
 case mov d x =>
  split at hm<;>try (cases hm;done)
  rename_i ho;exact mute_mov h hd (.inl ho) hm false hp
 case asg d x =>
  split at hm<;>try (cases hm;done)
  ·rename_i ho;exact mute_mov h hd (.inr ho) hm true hp
  ·rename_i ho;exact mute_mov h hd (.inl ho) hm true hp
 case pick d c x x2 =>
  split at hm<;>try (cases hm;done)
  rename_i ho
  simp only [Bool.and_eq_true] at hm
  exact mute_pick h hd ho hm.1.1 hm.1.2 hm.2 hp
 case bin d b x x2 =>
  split at hm<;>try (cases hm;done)
  rename_i ho
  simp only [Bool.and_eq_true,beq_iff_eq] at hm
  obtain ⟨⟨rfl,h1⟩,h2⟩:=hm
  exact mute_bin h hd ho h1 h2 hp
 case un d b x =>
  split at hm<;>try (cases hm;done)
  rename_i ho
  simp only [Bool.and_eq_true,beq_iff_eq] at hm
  obtain ⟨rfl,h1⟩:=hm
  exact mute_un h hd ho h1 hp
 case conv d k x =>
  split at hm<;>try (cases hm;done)
  rename_i ho
  simp only [Bool.and_eq_true] at hm
  exact mute_conv h hd ho hm.1.1 (isInt_eq hm.1.2) (isIntK_eq hm.2) hp
 case mn d mx x x2 =>
  split at hm<;>try (cases hm;done)
  rename_i b y y2 T0 T1 ho
  simp only [Bool.and_eq_true,beq_iff_eq] at hm
  obtain ⟨⟨rfl,h1⟩,h2⟩:=hm
  exact mute_mn h hd (call2_eq ho) h1 h2 hp
 case fadr d x off =>
  split at hm
  case h_3=>cases hm
  case h_2 =>
   rename_i ho
   simp only [Bool.and_eq_true,beq_iff_eq] at hm
   obtain ⟨h1,rfl⟩:=hm
   exact mute_nck h hd ho h1 hp
  rename_i ho
  simp only [Bool.and_eq_true] at hm
  obtain ⟨h1,h2⟩:=hm
  split at h2<;>try (cases h2;done)
  rename_i fd hf
  simp only [Bool.and_eq_true,beq_iff_eq] at h2
  obtain ⟨rfl,h3⟩:=h2
  split at h3<;>try (cases h3;done)
  rename_i k hk
  exact mute_fadr h hd ho h1 hf hk hp
 case aadr d x x2 len sz =>
  split at hm<;>try (cases hm;done)
  rename_i ho
  simp only [Bool.and_eq_true] at hm
  obtain ⟨⟨h1,h2⟩,h3⟩:=hm
  split at h3<;>try (cases h3;done)
  rename_i l e he
  simp only [Bool.and_eq_true,beq_iff_eq] at h3
  obtain ⟨rfl,h4⟩:=h3
  exact mute_aadr h hd ho h1 h2 he h4 hp
 case iadr d sz x x2 =>
  split at hm<;>try (cases hm;done)
  rename_i ho
  simp only [Bool.and_eq_true] at hm
  obtain ⟨⟨h1,h2⟩,h3⟩:=hm
  split at h3<;>try (cases h3;done)
  rename_i e he
  exact mute_iadr h hd ho h1 h2 he (beq_iff_eq.1 h3) hp
 case fld d x off n =>
  split at hm<;>try (cases hm;done)
  rename_i ho
  simp only [Bool.and_eq_true] at hm
  obtain ⟨h1,h2⟩:=hm
  split at h2<;>try (cases h2;done)
  rename_i fd hf
  simp only [Bool.and_eq_true,beq_iff_eq] at h2
  obtain ⟨rfl,h3⟩:=h2
  exact mute_fld h hd ho h1 hf h3 hp
 case idx d x x2 len sz n =>
  split at hm<;>try (cases hm;done)
  rename_i ho
  simp only [Bool.and_eq_true] at hm
  obtain ⟨⟨h1,h2⟩,h3⟩:=hm
  split at h3<;>try (cases h3;done)
  rename_i l e he
  simp only [Bool.and_eq_true,beq_iff_eq] at h3
  obtain ⟨⟨rfl,h4⟩,h5⟩:=h3
  exact mute_idx h hd ho h1 h2 he h4 h5 hp
 case len d x =>
  split at hm<;>try (cases hm;done)
  rename_i b y T0 ho
  simp only [Bool.and_eq_true,beq_iff_eq] at hm
  obtain ⟨⟨rfl,h1⟩,h2⟩:=hm
  obtain ⟨e,he⟩:=Option.isSome_iff_exists.1 h2
  exact mute_len h hd (call1_eq ho) h1 he hp
 case lens d x =>
  split at hm<;>try (cases hm;done)
  rename_i b y T0 ho
  simp only [Bool.and_eq_true,beq_iff_eq] at hm
  obtain ⟨⟨rfl,h1⟩,h2⟩:=hm
  exact mute_lens h hd (call1_eq ho) h1 (isStrT_eq h2) hp
 case isn d neg x =>
  split at hm<;>try (cases hm;done)
  rename_i ho
  simp only [Bool.and_eq_true,beq_iff_eq] at hm
  obtain ⟨⟨h1,h2⟩,h3⟩:=hm
  obtain ⟨e,he⟩:=Option.isSome_iff_exists.1 h3
  exact mute_isn h hd ho h1 h2 he hp
 case ext d x i =>
  split at hm<;>try (cases hm;done)
  rename_i ho
  simp only [Bool.and_eq_true,beq_iff_eq] at hm
  obtain ⟨h1,rfl⟩:=hm
  exact mute_ext h hd ho h1 hp
 case sli d sz x lo hi =>
  split at hm<;>try (cases hm;done)
  rename_i ho
  simp only [Bool.and_eq_true] at hm
  obtain ⟨⟨⟨h1,h2⟩,h3⟩,h4⟩:=hm
  split at h4<;>try (cases h4;done)
  rename_i e he
  exact mute_sli h hd ho h1 h2 h3 he (beq_iff_eq.1 h4) hp
 case eqa d neg n x x2 =>
  split at hm<;>try (cases hm;done)
  rename_i ho
  simp only [Bool.and_eq_true,beq_iff_eq] at hm
  obtain ⟨⟨⟨⟨h1,h2⟩,h3⟩,h4⟩,h5⟩:=hm
  exact mute_eqa h hd ho h1 h2 h3 h4 h5 hp
 case eqb d neg x x2 =>
  split at hm<;>try (cases hm;done)
  rename_i ho
  simp only [Bool.and_eq_true,beq_iff_eq] at hm
  obtain ⟨⟨⟨h1,h2⟩,h3⟩,h4⟩:=hm
  exact mute_eqb h hd ho h1 h2 h3 (isBoolT_eq h4) hp
 case eqm d neg ks x x2 =>
  split at hm<;>try (cases hm;done)
  rename_i ho
  simp only [Bool.and_eq_true,beq_iff_eq] at hm
  obtain ⟨⟨⟨h1,h2⟩,h3⟩,h4⟩:=hm
  exact mute_eqm h hd ho h1 h2 h3 h4 hp
theorem still_sound (h:Sim L σ T st a w) (hm:m1 P o vo=true) (hq:stillOp vo=true) (hp:plain vo st=some st'):MuteS P L σ T st' a w o:=by
 simp only [m1,Bool.and_eq_true,beq_iff_eq] at hm
 obtain ⟨hd,hm⟩:=hm
 cases vo<;>simp only [stillOp,Bool.false_eq_true] at hq<;>simp only [mv] at hm
 case build d z m =>
  split at hm<;>try (cases hm;done)
  rename_i T0 l ho
  simp only [Bool.and_eq_true] at hm
  obtain ⟨⟨h1,h2⟩,h3⟩:=hm
  exact mute_build h hd (l:=l.toList) (by simpa using ho) h1 h2 (placesOk_eq h3) hp
 case bldo d z parts off t =>
  split at hm<;>try (cases hm;done)
  rename_i T0 l ho
  simp only [Bool.and_eq_true] at hm
  obtain ⟨⟨hm1,hm2⟩,hm3⟩:=hm
  split at hm1
  case h_2=>cases hm1
  rename_i p hp0
  simp only [Bool.and_eq_true,beq_iff_eq] at hm1
  obtain ⟨⟨g1,g2⟩,g3⟩:=hm1
  simp only [plain] at hp
  replace hp:=bind_some hp
  obtain ⟨⟨cs,st1⟩,h1,hp⟩:=hp
  simp only at hp
  split at hp
  case h_2=>cases hp
  rename_i sz es e0
  split at hp
  case isFalse=>cases hp
  rename_i hoff
  rw [← Option.some.inj hp]
  have hl:l.toList.dropLast++[(p.1,p.2)]=l.toList:=by
   obtain ⟨ys,hys⟩:=List.getLast?_eq_some_iff.1 hp0
   rw [hys,List.dropLast_concat]
  exact mute_bldo h hd (l:=l.toList.dropLast) (by rw [hl];simpa using ho) g1 g2 g3 hm2 (placesOk_eq hm3) h1 e0 hoff
def LooksS (S:World→Prop) (P:Program) (L:Nat) (σ:Nat→Nat) (T:Tags) (st':St) (a:Act) (w:World) (o:Oper):Prop :=
 ∃ v T',(∀ w',S w'→(execOp a.eval o).run P w'=.ok (.value v) w')∧Sim L σ T' st' (a.put o.dst v) w∧Still T T'
theorem ops_mono:∀ {l:List VOp} {st st':St},(∀ v∈l,isAct (core v)=false)→ops rec env l st=some st'→Mono st st'
 |[],st,st',_,h=>by simp only [ops,Option.some.injEq] at h;subst h;exact Mono.refl _
 |v :: l,st,st',hl,h=>by
  simp only [ops] at h
  obtain ⟨st1,h1,h2⟩:=bind_some h
  refine Mono.trans ?_ (ops_mono (fun u hu=>hl u (by simp [hu])) h2)
  have hv:=hl v (by simp)
  unfold op at h1
  split at h1
  ·simp only [core] at hv
   split at h1
   ·split at h1
    ·simp only [op1,hv] at h1;exact plain_mono h1
    ·split at h1
     ·rw [← Option.some.inj h1];exact (Mono.refl _).put _ _
     ·rw [← Option.some.inj h1];exact Mono.refl _
   ·split at h1
    ·split at h1
     ·rw [← Option.some.inj h1];exact (Mono.refl _).put _ _
     ·rw [← Option.some.inj h1];exact Mono.refl _
    ·cases h1
   ·cases h1
  ·rename_i v' hne
   have hc:core v=v:=by
    unfold core;split
    ·exact (hne _ _ _ rfl).elim
    ·rfl
   rw [hc] at hv
   simp only [op1,hv] at h1;exact plain_mono h1
theorem quiet_wp2 {S:World→Prop} {vs0:List VOp} {K:Act→Prop} {I:St→Prop} (hI:∀ v∈vs0,∀ s1 s2,op rec env v s1=some s2→I s1→I s2) (hlook:∀ T1 st1 st2 a1 o v,I st1→Still T T1→isAct (core v)=false→Sim L σ T1 st1 a1 w→m1 P o (core v)=true→v∈vs0→plain (core v) st1=some st2→LooksS S P L σ T1 st2 a1 w o) :
  ∀ {l:List Oper} {vs:List VOp} {st:St} {T1:Tags} {a:Act},(∀ v∈vs,v∈vs0∧isAct (core v)=false)→I st→Still T T1→Sim L σ T1 st a w→mL P opl l vs=true→ops rec env vs st=some st' →
  (∀ a' T',Sim L σ T' st' a' w→Still T T'→a'.defers=a.defers→K a')→wpQuiet P opl S K l a
 |[],[],st,T1,a,_,_,ht,h,_,hp,hK=>by
  simp only [ops,Option.some.injEq] at hp;subst hp
  exact hK _ _ h ht rfl
 |[],_ :: _,_,_,_,_,_,_,_,hm,_,_=>by simp [mL] at hm
 |_ :: _,[],_,_,_,_,_,_,_,hm,_,_=>by simp [mL] at hm
 |o :: l,v :: vs,st,T1,a,hvs,hi,ht,h,hm,hp,hK=>by
  simp only [mL,Bool.and_eq_true] at hm
  simp only [ops] at hp
  obtain ⟨st1,h1,h2⟩:=bind_some hp
  obtain ⟨hin,hact⟩:=hvs v (by simp)
  unfold wpQuiet
  rcases guard_cases h hm.1 h1 with ⟨g1,g2,g3⟩|⟨g1,g2⟩
  ·rw [if_pos g1]
   simp only [op1,hact] at g3
   obtain ⟨u,T2,k1,k2,k3⟩:=hlook T1 st st1 a o v hi ht hact h g2 hin g3
   refine ⟨u,fun w' hw'=>?_,quiet_wp2 hI hlook (fun v hv=>hvs v (by simp [hv])) (hI v hin _ _ h1 hi) (ht.trans k3) k2 hm.2 h2 fun a' T' q1 q2 q3=>hK a' T' q1 q2 (q3.trans put_defers)⟩
   unfold Oper.quietAt
   rw [k1 w' hw']
   exact ⟨rfl,rfl⟩
  ·rw [if_neg (by rw [g1];simp)]
   exact quiet_wp2 hI hlook (fun v hv=>hvs v (by simp [hv])) (hI v hin _ _ h1 hi) ht g2 hm.2 h2 fun a' T' q1 q2 q3=>hK a' T' q1 q2 (q3.trans put_defers)
theorem quiet_wp {S:World→Prop} {vs0:List VOp} {K:Act→Prop} (hlook:∀ T1 st1 st2 a1 o v,Still T T1→isAct (core v)=false→Sim L σ T1 st1 a1 w→m1 P o (core v)=true→v∈vs0→plain (core v) st1=some st2→LooksS S P L σ T1 st2 a1 w o) :
  ∀ {l:List Oper} {vs:List VOp} {st:St} {T1:Tags} {a:Act},(∀ v∈vs,v∈vs0∧isAct (core v)=false)→Still T T1→Sim L σ T1 st a w→mL P opl l vs=true→ops rec env vs st=some st' →
  (∀ a' T',Sim L σ T' st' a' w→Still T T'→a'.defers=a.defers→K a')→wpQuiet P opl S K l a:=fun hvs ht h hm hp hK =>
 quiet_wp2 (I:=fun _=>True) (fun _ _ _ _ _ _=>trivial) (fun T1 st1 st2 a1 o v _=>hlook T1 st1 st2 a1 o v) hvs trivial ht h hm hp hK
theorem looks_whole (h:Sim L σ T st a w) (hm:m1 P o vo=true) (hp:plain vo st=some st'):LooksS (Whole w) P L σ T st' a w o:=by
 obtain ⟨v,T',h1,h2,h3⟩:=plain_sound h hm hp
 exact ⟨v,T',fun w' hw=>h1 w' hw.sees,h2,h3⟩
theorem ops_append {l1 l2:List VOp} {st st':St} (h:ops rec env (l1++l2) st=some st'):∃ st1,ops rec env l1 st=some st1∧ops rec env l2 st1=some st':=by
 induction l1 generalizing st with
 |nil=>exact ⟨st,rfl,h⟩
 |cons v l ih =>
  simp only [List.cons_append,ops] at h ⊢
  obtain ⟨st1,h1,h2⟩:=bind_some h
  obtain ⟨st2,h3,h4⟩:=ih h2
  exact ⟨st2,by rw [h1];exact h3,h4⟩
end
end Go.Proofs.YtpcncggjmabnaaaGreatDoor

namespace Go.Proofs.YtpcncggjmabnaaaGreatDoor
open Go.RowKit
section
variable {P:Program} {F:Fence} {C:Ctx} {n L nb:Nat} {σ σ':Nat→Nat} {T T' T1 T2:Tags} {st st' st1:St} {a a1:Act} {w w1:World} {o:Oper} {vo:VOp} {y:Operand} {x:Opd} {d:Nat}
 {rec:VCode→St→Option (Ex × St)} {env:Env} {next:Act→World→Prop} {Q:Act→World→Prop} {opl:Array Oper} {ds:List Deferred} {e:Ex}
theorem Sim.freezeAts:∀ (fz:List Opd) {st:St} {T:Tags},Sim L σ T st a w→∃ T1,Sim L σ T1 (fz.foldl St.freezeAt st) a w∧Still T T1
 |[],st,T,h=>⟨T,h,Still.refl T⟩
 |x :: fz,st,T,h=>by
  have:∃ T1,Sim L σ T1 (st.freezeAt x) a w∧Still T T1:=by
   unfold St.freezeAt
   split
   ·rename_i p _ _
    refine ⟨_,h.freezeBox p,?_⟩
    split
    ·exact Still.frozB T p
    ·exact Still.refl T
   ·exact ⟨T,h,Still.refl T⟩
  obtain ⟨T1,h1,h2⟩:=this
  obtain ⟨T2,h3,h4⟩:=Sim.freezeAts fz h1
  exact ⟨T2,h3,h2.trans h4⟩
theorem seg_wp {K:Act→Prop} {seg:List Nat} {vs:List VOp} (h:Sim L σ T st a w) (hm:quietOk P opl seg vs=true) (hp:ops rec env vs st=some st') (hK:∀ a' T',Sim L σ T' st' a' w→Still T T'→a'.defers=a.defers→Mono st st'→K a'):wpQuiet P opl (Whole w) K (pick opl seg) a:=by
 simp only [quietOk,Bool.and_eq_true] at hm
 have hv:∀ v∈vs,v∈vs∧isAct (core v)=false:=fun v hv=>⟨hv,by simpa using List.all_eq_true.1 hm.2 v hv⟩
 have hmono:=ops_mono (rec:=rec) (env:=env) (fun v h=>(hv v h).2) hp
 exact quiet_wp (vs0:=vs) (fun T1 st1 st2 a1 o v _ _ hs hm _ hp=>looks_whole hs hm hp) hv (Still.refl T) h hm.1 hp fun a' T' g1 g2 g3=>hK a' T' g1 g2 g3 hmono
theorem loose_act {v:VOp} (hv:looseOp v=true):isAct v=false:=by
 cases v<;>first|rfl|(simp [looseOp,muteOp] at hv)
def SeesRo (T:Tags) (w w':World):Prop:=w.heap.size≤w'.heap.size∧∀ b,b<w.heap.size→T b=.ro→w'.heap[b]?=w.heap[b]?
theorem Stays.seesRo (h:Stays T T' w w1):SeesRo T w w1:=⟨h.size,h.same⟩
theorem Even.trans {T T' T'':Tags} (h:Even T T') (k:Even T' T''):Even T T'':=⟨h.still.trans k.still,fun b e=>h.back b (k.back b e)⟩
theorem stillOp_act {v:VOp} (hv:stillOp v=true):isAct v=false:=by
 cases v<;>first|rfl|(simp [stillOp] at hv)
theorem looseL_acts:∀ {ok:Bool} {vs:List VOp},looseL ok vs=true→∀ v∈vs,isAct (core v)=false
 |ok,[],_,v,hv=>by cases hv
 |ok,u :: vs,h,v,hv=>by
  simp only [looseL,Bool.or_eq_true,Bool.and_eq_true] at h
  rcases List.mem_cons.1 hv with rfl|hv
  ·rcases h with (h|h)|h
   ·exact loose_act (by simp only [looseOp,h.1,Bool.true_or])
   ·exact stillOp_act h.1
   ·exact loose_act h.1.2
  ·rcases h with (h|h)|h
   ·exact looseL_acts h.2 v hv
   ·exact looseL_acts h.2 v hv
   ·exact looseL_acts h.2 v hv
theorem segu_go {S:World→Prop} (hS:∀ w',S w'→SeesRo T w w') {K:Act→Prop}:∀ {ok:Bool} {l:List Oper} {vs:List VOp} {st:St} {T1:Tags} {a:Act},looseL ok vs=true→(ok=true→Even T T1)→Still T T1→Sim L σ T1 st a w→mL P opl l vs=true→ops rec env vs st=some st' →
  (∀ a' T',Sim L σ T' st' a' w→Still T T'→a'.defers=a.defers→K a')→wpQuiet P opl S K l a
 |_,[],[],st,T1,a,_,_,ht,h,_,hp,hK=>by
  simp only [ops,Option.some.injEq] at hp;subst hp
  exact hK _ _ h ht rfl
 |_,[],_ :: _,_,_,_,_,_,_,_,hm,_,_=>by simp [mL] at hm
 |_,_ :: _,[],_,_,_,_,_,_,_,hm,_,_=>by simp [mL] at hm
 |ok,o :: l,v :: vs,st,T1,a,hq,he,ht,h,hm,hp,hK=>by
  have hact:=looseL_acts hq v (by simp)
  simp only [looseL,Bool.or_eq_true,Bool.and_eq_true] at hq
  simp only [mL,Bool.and_eq_true] at hm
  simp only [ops] at hp
  obtain ⟨st1,h1,h2⟩:=bind_some hp
  unfold wpQuiet
  rcases guard_cases h hm.1 h1 with ⟨g1,g2,g3⟩|⟨g1,g2⟩
  ·rw [if_pos g1]
   simp only [op1,hact] at g3
   rcases hq with (hq|hq)|hq
   ·obtain ⟨u,T2,k1,k2,k3⟩:=mute_sound h g2 hq.1 g3
    exact ⟨u,fun w' _=>by unfold Oper.quietAt;rw [k1 w'];exact ⟨rfl,rfl⟩,segu_go hS hq.2 (fun e=>(he e).trans k3) (ht.trans k3.still) k2 hm.2 h2 fun a' T' q1 q2 q3=>hK a' T' q1 q2 (q3.trans put_defers)⟩
   ·obtain ⟨u,T2,k1,k2,k3⟩:=still_sound h g2 hq.1 g3
    exact ⟨u,fun w' _=>by unfold Oper.quietAt;rw [k1 w'];exact ⟨rfl,rfl⟩,segu_go hS hq.2 (fun e=>by cases e) (ht.trans k3) k2 hm.2 h2 fun a' T' q1 q2 q3=>hK a' T' q1 q2 (q3.trans put_defers)⟩
   ·obtain ⟨⟨q1,q2⟩,q3⟩:=hq
    have he:=he q1
    simp only [looseOp,Bool.or_eq_true] at q2
    rcases q2 with q2|q2
    ·obtain ⟨u,T2,k1,k2,k3⟩:=mute_sound h g2 q2 g3
     exact ⟨u,fun w' _=>by unfold Oper.quietAt;rw [k1 w'];exact ⟨rfl,rfl⟩,segu_go hS q3 (fun _=>he.trans k3) (ht.trans k3.still) k2 hm.2 h2 fun a' T' q1 q2 q3=>hK a' T' q1 q2 (q3.trans put_defers)⟩
    ·generalize core v=u at g2 g3 q2
     cases u<;>simp only [Bool.false_eq_true] at q2
     rename_i d n x
     simp only [m1,Bool.and_eq_true,beq_iff_eq,mv] at g2
     obtain ⟨hd,hm'⟩:=g2
     split at hm'<;>try (cases hm';done)
     rename_i ho
     simp only [Bool.and_eq_true,beq_iff_eq] at hm'
     obtain ⟨b,u,k3,k4,k5,k6⟩:=ldz_core h hd ho hm'.1 hm'.2 g3
     exact ⟨u,fun w' hw'=>by unfold Oper.quietAt;rw [k3 w' ((hS w' hw').2 _ k5 (he.back _ k6))];exact ⟨rfl,rfl⟩,segu_go hS q3 (fun _=>he) ht k4 hm.2 h2 fun a' T' q1 q2 q3=>hK a' T' q1 q2 (q3.trans put_defers)⟩
  ·rw [if_neg (by rw [g1];simp)]
   rcases hq with (hq|hq)|hq
   ·exact segu_go hS hq.2 he ht g2 hm.2 h2 fun a' T' q1 q2 q3=>hK a' T' q1 q2 (q3.trans put_defers)
   ·exact segu_go hS hq.2 (fun e=>by cases e) ht g2 hm.2 h2 fun a' T' q1 q2 q3=>hK a' T' q1 q2 (q3.trans put_defers)
   ·exact segu_go hS hq.2 he ht g2 hm.2 h2 fun a' T' q1 q2 q3=>hK a' T' q1 q2 (q3.trans put_defers)
theorem segu_wp {S:World→Prop} (hS:∀ w',S w'→SeesRo T w w') {K:Act→Prop} {l:List Oper} {vs:List VOp} (h:Sim L σ T st a w) (hm:mL P opl l vs=true) (hq:looseL true vs=true) (hp:ops rec env vs st=some st') (hK:∀ a' T',Sim L σ T' st' a' w→Still T T'→a'.defers=a.defers→Mono st st'→K a'):wpQuiet P opl S K l a:=by
 have hmono:=ops_mono (rec:=rec) (env:=env) (looseL_acts hq) hp
 exact segu_go hS hq (fun _=>Even.refl T) (Still.refl T) h hm hp fun a' T' g1 g2 g3=>hK a' T' g1 g2 g3 hmono
theorem act_wp (hW:Wide F) (hC:C.Ok P L) (hcalls:CallsOk P rec env) (h:Sim L σ T st a w) (hJ:C.J st.ys.length T w) (hst:st.stop=C.stop) {i:Nat} (hm:mL P opl (pick opl [i]) [vo]=true) (hp:op rec env vo st=some st') (hX:st'.ys <+: C.X) {R:Act→World→Prop}
  (hn:∀ a' w',After C L st.boxes.length σ T w st' a.defers a' w'→(calmG vo=true→Whole w w')→R a' w'):wpListIn F n P opl (fun e a'' w''=>e=.normal∧R a'' w'') (pick opl [i]) a w:=by
 cases ho:opl[i]? with
 |none=>simp [pick,ho,mL] at hm
 |some o =>
  simp only [pick,List.filterMap_cons,ho,List.filterMap_nil,mL,Bool.and_eq_true] at hm ⊢
  simp only [wpListIn]
  exact op_wp hW hC hcalls h hJ hst hm.1 hp hX fun a' w' g1 g2=>⟨trivial,hn a' w' g1 g2⟩
theorem ops_one {v:VOp} {vs:List VOp} (h:ops rec env (v :: vs) st=some st'):∃ st1,op rec env v st=some st1∧ops rec env vs st1=some st':=bind_some h
def nar (S2:World→Prop) (T:Tags) (w:World):World→Prop:=fun w'=>S2 w'∧SeesRo T w w'
theorem nar_stays {S2:World→Prop} (h2S:∀ T' w',Stays T T' w w'→S2 w'):∀ T' w',Stays T T' w w'→nar S2 T w w':=fun T' w' h=>⟨h2S T' w' h,h.seesRo⟩
theorem segn_wp {S2:World→Prop} {K:Act→Prop} {l:List Oper} {vs:List VOp} (h:Sim L σ T st a w) (hm:mL P opl l vs=true) (hq:looseL true vs=true) (hp:ops rec env vs st=some st') (hK:∀ a' T',Sim L σ T' st' a' w→Still T T'→a'.defers=a.defers→Mono st st'→K a'):wpQuiet P opl (nar S2 T w) K l a:=by
 exact segu_wp (fun _ h=>h.2) h hm hq hp hK
theorem tail_wp (hW:Wide F) (hC:C.Ok P L) (hcalls:CallsOk P rec env) (hX:st'.ys <+: C.X) {last:List Nat}:∀ {tl:List (List Nat × Nat)} {S2:World→Prop} {vs:List VOp} {st:St} {σ:Nat→Nat} {T:Tags} {a:Act} {w:World},Sim L σ T st a w→(∀ T' w',Stays T T' w w'→S2 w')→C.J st.ys.length T w→st.stop=C.stop→mTail P opl last tl vs=true→ops rec env vs st=some st' →
  (∀ a' w',After C L st.boxes.length σ T w st' a.defers a' w'→Q a' w')→wpTail F n P opl Q last S2 tl a w
 |[],S2,vs,st,σ,T,a,w,h,h2S,hJ,hst,hm,hp,hn=>by
  unfold wpTail
  simp only [mTail,Bool.and_eq_true] at hm
  refine ⟨nar S2 T w,fun _ h=>h.1,nar_stays h2S T w (Stays.refl T w),?_⟩
  refine segn_wp h hm.1 hm.2 hp fun a3 T3 q1 q2 q3 q4=>hn _ _ ?_
  rw [← q3]
  exact After.of_chg hC q1 (by rw [q4.2.1];exact hJ) (q2.chg w) fun _ _=>rfl
 |(seg,i) :: more,S2,vs,st,σ,T,a,w,h,h2S,hJ,hst,hm,hp,hn=>by
  unfold wpTail
  simp only [mTail,Bool.and_eq_true] at hm
  obtain ⟨⟨⟨hm1,hmu⟩,hmq⟩,hm2⟩:=hm
  split at hm2
  case h_2=>cases hm2
  rename_i v vs' hvs
  simp only [Bool.and_eq_true] at hm2
  obtain ⟨hm2,hm3⟩:=hm2
  rw [← List.take_append_drop (tlA opl i seg).length vs,← List.take_append_drop (tlB opl i seg).length (vs.drop (tlA opl i seg).length),hvs] at hp
  obtain ⟨st1,p1,p2⟩:=ops_append hp
  obtain ⟨st1',pu,p2⟩:=ops_append p2
  obtain ⟨st2,p2,p3⟩:=ops_one p2
  have gl:=ops_grow (rec:=rec) (env:=env) p3
  refine seg_wp h hm1 p1 fun a0 T0 f1 f2 f3 f4=>?_
  have h2S0:∀ T' w',Stays T0 T' w w'→S2 w':=fun T' w' hw=>h2S T' w' ((f2.chg w).stays.trans hw)
  refine ⟨nar S2 T0 w,fun _ h=>h.1,nar_stays h2S0 T0 w (Stays.refl T0 w),?_⟩
  refine segn_wp f1 hmu hmq pu fun a1 T1 g1 g2e g3 g4'=>?_
  have g2':=g2e
  have g2:=f2.trans g2'
  have g4:=f4.trans g4'
  have hJ1:C.J st1'.ys.length T1 w:=by rw [g4.2.1];exact hC.keep _ _ _ _ _ (g2.chg w) hJ
  refine act_wp hW hC hcalls g1 hJ1 (g4.2.2.trans hst) hm2 p2 (gl.2.1.trans hX) ?_
  rintro a2 w2 ⟨σ2,T2,ms,k1,k2,k3,k4,k5,k6⟩ _
  have hs4:=((g2'.chg w).stays).trans k4
  have hn3:∀ T' w',Stays T2 T' w2 w'→nar S2 T0 w w':=fun T' w' hw'=>nar_stays h2S0 T' w' (hs4.trans hw')
  refine ⟨hn3 _ _ (Stays.refl _ _),tail_wp hW hC hcalls hX k1 hn3 k2 (((op_grow p2).2.2.trans g4.2.2).trans hst) hm3 p3 fun a' w' hA=>hn _ _ ?_⟩
  exact After.trans (((g2.chg w).stays).trans k4) (fun k hk=>k3 k (Nat.lt_of_lt_of_le hk g4.1)) (by rw [k5,g3,f3]) k6 (Nat.le_trans g4.1 (op_grow p2).1) hA
theorem drw_wp (hW:Wide F) (hC:C.Ok P L) (hcalls:CallsOk P rec env) (hX:st'.ys <+: C.X) {fin:Fin1} {last:List Nat}:∀ {acts:List (List Nat × Nat)} {S2:World→Prop} {vs:List VOp} {st:St} {σ:Nat→Nat} {T:Tags} {a:Act} {w:World},Sim L σ T st a w→(∀ T' w',Stays T T' w w'→S2 w')→C.J st.ys.length T w→st.stop=C.stop→mDrw P opl fin last acts vs=true→ops rec env vs st=some st' →
  (∀ a' w',After C L st.boxes.length σ T w st' a.defers a' w'→Q a' w')→wpDrw F n P opl Q (Whole w) S2 acts fin last a w
 |[],S2,vs,st,σ,T,a,w,h,h2S,hJ,hst,hm,hp,hn=>by
  cases fin with
  |none =>
   unfold wpDrw
   simp only [mDrw] at hm
   refine seg_wp h hm hp fun a' T' g1 g2 g3 g4=>hn _ _ ?_
   rw [← g3]
   exact After.of_chg hC g1 (by rw [g4.2.1];exact hJ) (g2.chg w) fun _ _=>rfl
  |some p =>
   obtain ⟨segf,segu,f,tl⟩:=p
   unfold wpDrw
   simp only [mDrw,Bool.and_eq_true] at hm
   obtain ⟨⟨⟨hm1,hmu⟩,hmq⟩,hm2⟩:=hm
   split at hm2
   case h_2=>cases hm2
   rename_i v vs' hvs
   simp only [Bool.and_eq_true] at hm2
   obtain ⟨hm2,hm3⟩:=hm2
   rw [← List.take_append_drop segf.length vs,← List.take_append_drop segu.length (vs.drop segf.length),hvs] at hp
   obtain ⟨st1,p1,p2⟩:=ops_append hp
   obtain ⟨st1',pu,p2⟩:=ops_append p2
   obtain ⟨st2,p2,p3⟩:=ops_one p2
   have gl:=ops_grow (rec:=rec) (env:=env) p3
   refine seg_wp h hm1 p1 fun a0 T0 f1 f2 f3 f4=>?_
   have h2S0:∀ T' w',Stays T0 T' w w'→S2 w':=fun T' w' hw=>h2S T' w' ((f2.chg w).stays.trans hw)
   refine ⟨nar S2 T0 w,fun _ h=>h.1,nar_stays h2S0 T0 w (Stays.refl T0 w),?_⟩
   refine segn_wp f1 hmu hmq pu fun a1 T1 g1 g2e g3 g4'=>?_
   have g2':=g2e
   have g2:=f2.trans g2'
   have g4:=f4.trans g4'
   have hJ1:C.J st1'.ys.length T1 w:=by rw [g4.2.1];exact hC.keep _ _ _ _ _ (g2.chg w) hJ
   refine act_wp hW hC hcalls g1 hJ1 (g4.2.2.trans hst) hm2 p2 (gl.2.1.trans hX) ?_
   rintro a2 w2 ⟨σ2,T2,ms,k1,k2,k3,k4,k5,k6⟩ _
   have hs4:=((g2'.chg w).stays).trans k4
   have hn3:∀ T' w',Stays T2 T' w2 w'→nar S2 T0 w w':=fun T' w' hw'=>nar_stays h2S0 T' w' (hs4.trans hw')
   refine ⟨hn3 _ _ (Stays.refl _ _),tail_wp hW hC hcalls hX k1 hn3 k2 (((op_grow p2).2.2.trans g4.2.2).trans hst) hm3 p3 fun a' w' hA=>hn _ _ ?_⟩
   exact After.trans (((g2.chg w).stays).trans k4) (fun k hk=>k3 k (Nat.lt_of_lt_of_le hk g4.1)) (by rw [k5,g3,f3]) k6 (Nat.le_trans g4.1 (op_grow p2).1) hA
 |(seg,i) :: more,S2,vs,st,σ,T,a,w,h,h2S,hJ,hst,hm,hp,hn=>by
  unfold wpDrw
  simp only [mDrw,Bool.and_eq_true] at hm
  obtain ⟨⟨⟨hm1,hmu⟩,hmq⟩,hm2⟩:=hm
  split at hm2
  case h_2=>cases hm2
  rename_i v vs' hvs
  simp only [Bool.and_eq_true] at hm2
  obtain ⟨⟨hm2,hm3⟩,hm4⟩:=hm2
  rw [← List.take_append_drop (segA opl fin seg).length vs,← List.take_append_drop (segB opl fin seg).length (vs.drop (segA opl fin seg).length),hvs] at hp
  obtain ⟨st1,p1,p2⟩:=ops_append hp
  obtain ⟨st1',pu,p2⟩:=ops_append p2
  obtain ⟨st2,p2,p3⟩:=ops_one p2
  have gl:=ops_grow (rec:=rec) (env:=env) p3
  refine seg_wp h hm1 p1 fun a0 T0 f1 f2 f3 f4=>?_
  have h2S0:∀ T' w',Stays T0 T' w w'→S2 w':=fun T' w' hw=>h2S T' w' ((f2.chg w).stays.trans hw)
  refine ⟨nar S2 T0 w,fun _ h=>h.1,nar_stays h2S0 T0 w (Stays.refl T0 w),?_⟩
  refine segn_wp f1 hmu hmq pu fun a1 T1 g1 g2e g3 g4'=>?_
  have g2':=g2e
  have g2:=f2.trans g2'
  have g4:=f4.trans g4'
  have hJ1:C.J st1'.ys.length T1 w:=by rw [g4.2.1];exact hC.keep _ _ _ _ _ (g2.chg w) hJ
  refine act_wp hW hC hcalls g1 hJ1 (g4.2.2.trans hst) hm2 p2 (gl.2.1.trans hX) ?_
  rintro a2 w2 ⟨σ2,T2,ms,k1,k2,k3,k4,k5,k6⟩ hwh
  have hwh:=hwh hm3
  have hs4:=((g2'.chg w).stays).trans k4
  have hn3:∀ T' w',Stays T2 T' w2 w'→nar S2 T0 w w':=fun T' w' hw'=>nar_stays h2S0 T' w' (hs4.trans hw')
  refine ⟨Whole w2,fun w' hw'=>⟨Nat.le_trans hwh.1 hw'.1,fun b hb=>(hw'.2 b (Nat.lt_of_lt_of_le hb hwh.1)).trans (hwh.2 b hb)⟩,Whole.refl w2,hn3 _ _ (Stays.refl _ _),?_⟩
  refine drw_wp hW hC hcalls hX k1 hn3 k2 (((op_grow p2).2.2.trans g4.2.2).trans hst) hm4 p3 fun a' w' hA=>hn _ _ ?_
  exact After.trans (((g2.chg w).stays).trans k4) (fun k hk=>k3 k (Nat.lt_of_lt_of_le hk g4.1)) (by rw [k5,g3,f3]) k6 (Nat.le_trans g4.1 (op_grow p2).1) hA
theorem sees_drew (T:Tags) (w:World):Sees T w w.drew:=⟨Nat.le_refl _,fun _ _ _=>rfl⟩
theorem chg_drew (T:Tags) (w:World):Chg T T w w.drew:=⟨Nat.le_refl _,rfl,rfl,rfl,fun _ _ _=>rfl,fun _ h=>h,fun _ _ h=>h⟩
theorem region_drw_wp {id:Nat} {Q:Exit→Act→World→Prop} (hW:Wide F) (hC:C.Ok P L) (hcalls:CallsOk P rec env) (h:Sim L σ T st a w) (hJ:C.J st.ys.length T w) (hst:st.stop=C.stop) (hX:st'.ys <+: C.X) {acts:List (List Nat × Nat)} {fin:Fin1} {last:List Nat} {vs:List VOp}
  (hmo:P.follows .mixedOrders=true) (hnd:noDefer opl=true) (hok:drwOk opl acts fin last=true) (hm:mDrw P opl fin last acts vs=true) (hp:ops rec env vs st=some st')
  (hn:∀ a' w',After C L st.boxes.length σ T w st' a.defers a' w'→Q .normal a' w'):(Code.region id opl true).wpIn F n P Q a w:=by
 refine wpIn_region_drw (Whole w.drew) hW.fn hmo hnd hok (Whole.refl _) ?_
 refine drw_wp hW hC hcalls hX (h.sees (sees_drew T w)) (fun _ _ _=>trivial) (hC.keep _ _ _ _ _ (chg_drew T w) hJ) hst hm hp fun a' w' hA=>hn _ _ ?_
 exact After.trans (ms:=[]) (chg_drew T w).stays (fun _ _=>rfl) rfl Marks.nil (Nat.le_refl _) hA
end
end Go.Proofs.YtpcncggjmabnaaaGreatDoor

namespace Go.Proofs.YtpcncggjmabnaaaGreatDoor
open Go.RowKit
theorem bytesSame_refl (a:ByteArray):bytesSame a a=true:=by unfold bytesSame;exact beq_self_eq_true _
theorem bytesSame_eq {a b:ByteArray} (h:bytesSame a b=true):a=b:=by
 unfold bytesSame at h
 have h:=eq_of_beq h
 obtain ⟨a⟩:=a;obtain ⟨b⟩:=b
 simp only at h
 congr
 exact Array.toList_inj.1 h
mutual
theorem PV.same_refl:∀ x:PV,PV.same x x=true
 |.int k n=>by simp [PV.same]
 |.bool b=>by simp [PV.same]
 |.str s=>by simp [PV.same,bytesSame_refl]
 |.list sz es=>by simp [PV.same,PV.sames_refl es]
 |.agg cs=>by simp [PV.same,PV.sames_refl cs]
 |.func f cs=>by simp [PV.same,PV.sames_refl cs]
 |.nilf=>by simp [PV.same]
 |.iptr cs j=>by simp [PV.same,PV.sames_refl cs]
 |.void=>by simp [PV.same]
 |.nils s=>by simp [PV.same]
theorem PV.sames_refl:∀ l:List PV,PV.sames l l=true
 |[]=>by simp [PV.sames]
 |x :: xs=>by simp [PV.sames,PV.same_refl x,PV.sames_refl xs]
end
mutual
theorem PV.same_eq:∀ x y:PV,PV.same x y=true→x=y
 |.int k n,y,h=>by cases y<;>simp_all [PV.same]
 |.bool b,y,h=>by cases y<;>simp_all [PV.same]
 |.str s,y,h=>by
  cases y<;>simp only [PV.same,Bool.false_eq_true] at h
  rw [bytesSame_eq h]
 |.list sz es,y,h=>by
  cases y<;>simp only [PV.same,Bool.false_eq_true,Bool.and_eq_true,beq_iff_eq] at h
  rw [h.1,PV.sames_eq _ _ h.2]
 |.agg cs,y,h=>by
  cases y<;>simp only [PV.same,Bool.false_eq_true] at h
  rw [PV.sames_eq _ _ h]
 |.func f cs,y,h=>by
  cases y<;>simp only [PV.same,Bool.false_eq_true,Bool.and_eq_true,beq_iff_eq] at h
  rw [h.1,PV.sames_eq _ _ h.2]
 |.nilf,y,h=>by cases y<;>simp_all [PV.same]
 |.iptr cs j,y,h=>by
  cases y<;>simp only [PV.same,Bool.false_eq_true,Bool.and_eq_true,beq_iff_eq] at h
  rw [h.1,PV.sames_eq _ _ h.2]
 |.void,y,h=>by cases y<;>simp_all [PV.same]
 |.nils s,y,h=>by cases y<;>simp_all [PV.same]
theorem PV.sames_eq:∀ l m:List PV,PV.sames l m=true→l=m
 |[],m,h=>by cases m<;>simp_all [PV.sames]
 |x :: xs,m,h=>by
  cases m<;>simp only [PV.sames,Bool.false_eq_true,Bool.and_eq_true] at h
  rw [PV.same_eq _ _ h.1,PV.sames_eq _ _ h.2]
end
mutual
theorem AV.same_refl:∀ x:AV,AV.same x x=true
 |.pv x=>by simp [AV.same,PV.same_refl]
 |.row sz es=>by simp [AV.same,PV.sames_refl]
 |.ref r a b=>by simp [AV.same]
 |.pbox o j=>by simp [AV.same]
 |.pel r i j=>by simp [AV.same]
 |.fn f cs=>by simp [AV.same,AV.sames_refl cs]
 |.tup k l=>by simp [AV.same,AV.sames_refl l]
 |.ful sz es=>by simp [AV.same,PV.sames_refl]
 |.yld=>by simp [AV.same]
 |.any=>by simp [AV.same]
theorem AV.sames_refl:∀ l:List AV,AV.sames l l=true
 |[]=>by simp [AV.sames]
 |x :: xs=>by simp [AV.sames,AV.same_refl x,AV.sames_refl xs]
end
mutual
theorem AV.same_eq:∀ x y:AV,AV.same x y=true→x=y
 |.pv x,y,h=>by
  cases y<;>simp only [AV.same,Bool.false_eq_true] at h
  rw [PV.same_eq _ _ h]
 |.row sz es,y,h=>by
  cases y<;>simp only [AV.same,Bool.false_eq_true,Bool.and_eq_true,beq_iff_eq] at h
  rw [h.1,PV.sames_eq _ _ h.2]
 |.ref r a b,y,h=>by cases y<;>simp_all [AV.same]
 |.pbox o j,y,h=>by cases y<;>simp_all [AV.same]
 |.pel r i j,y,h=>by cases y<;>simp_all [AV.same]
 |.fn f cs,y,h=>by
  cases y<;>simp only [AV.same,Bool.false_eq_true,Bool.and_eq_true,beq_iff_eq] at h
  rw [h.1,AV.sames_eq _ _ h.2]
 |.tup k l,y,h=>by
  cases y<;>simp only [AV.same,Bool.false_eq_true,Bool.and_eq_true,beq_iff_eq] at h
  rw [h.1,AV.sames_eq _ _ h.2]
 |.ful sz es,y,h=>by
  cases y<;>simp only [AV.same,Bool.false_eq_true,Bool.and_eq_true,beq_iff_eq] at h
  rw [h.1,PV.sames_eq _ _ h.2]
 |.yld,y,h=>by cases y<;>simp_all [AV.same]
 |.any,y,h=>by cases y<;>simp_all [AV.same]
theorem AV.sames_eq:∀ l m:List AV,AV.sames l m=true→l=m
 |[],m,h=>by cases m<;>simp_all [AV.sames]
 |x :: xs,m,h=>by
  cases m<;>simp only [AV.sames,Bool.false_eq_true,Bool.and_eq_true] at h
  rw [AV.same_eq _ _ h.1,AV.sames_eq _ _ h.2]
end
theorem BV.same_refl (x:BV):BV.same x x=true:=by cases x<;>simp [BV.same,PV.same_refl,PV.sames_refl]
theorem BV.same_eq {x y:BV} (h:BV.same x y=true):x=y:=by
 cases x<;>cases y<;>simp only [BV.same,Bool.false_eq_true,Bool.and_eq_true,beq_iff_eq] at h
 ·rw [PV.same_eq _ _ h]
 ·rw [h.1,PV.sames_eq _ _ h.2]
theorem sameList_refl {α:Type} {f:α→α→Bool} (hf:∀ x,f x x=true):∀ l,sameList f l l=true
 |[]=>rfl
 |x :: xs=>by simp [sameList,hf x,sameList_refl hf xs]
theorem sameList_eq {α:Type} {f:α→α→Bool} (hf:∀ x y,f x y=true→x=y):∀ l m,sameList f l m=true→l=m
 |[],m,h=>by cases m<;>simp_all [sameList]
 |x :: xs,m,h=>by
  cases m<;>simp only [sameList,Bool.false_eq_true,Bool.and_eq_true] at h
  rw [hf _ _ h.1,sameList_eq hf _ _ h.2]
theorem Box.same_refl (x:Box):Box.same x x=true:=by simp [Box.same,sameList_refl BV.same_refl]
theorem Box.same_eq {x y:Box} (h:Box.same x y=true):x=y:=by
 obtain ⟨a,b⟩:=x;obtain ⟨c,d⟩:=y
 simp only [Box.same,Bool.and_eq_true,beq_iff_eq] at h
 rw [h.1,sameList_eq (fun _ _=>BV.same_eq) _ _ h.2]
theorem St.same_refl (s:St):s.same s=true:=by
 simp [St.same,AV.sames_refl,sameList_refl Box.same_refl,sameList_refl PV.sames_refl]
theorem St.same_eq {a b:St} (h:a.same b=true):a=b:=by
 obtain ⟨a1,a2,a3,a4⟩:=a;obtain ⟨b1,b2,b3,b4⟩:=b
 simp only [St.same,Bool.and_eq_true,decide_eq_true_eq] at h
 rw [AV.sames_eq _ _ h.1,sameList_eq (fun _ _=>Box.same_eq) _ _ h.2.1,sameList_eq PV.sames_eq _ _ h.2.2.1,h.2.2.2]
theorem agree_eq {s:St}:∀ {l:List (Option St)} {r:St},agree s l=some r→r=s∧∀ o∈l,o=some s
 |[],r,h=>by simp only [agree,Option.some.injEq] at h;exact ⟨h.symm,by simp⟩
 |o :: l,r,h=>by
  unfold agree at h
  obtain ⟨s',h1,h2⟩:=Option.bind_eq_some_iff.1 h
  split at h2
  case isFalse=>cases h2
  rename_i hs
  have:=St.same_eq hs
  subst this
  obtain ⟨g1,g2⟩:=agree_eq h2
  exact ⟨g1,fun o' ho=>by rcases List.mem_cons.1 ho with rfl|ho;exact h1;exact g2 o' ho⟩
def tagRen (p:Nat→Nat) (T:Tags):Tags:=fun b=>match T b with
 |.box o=>.box (p o)
 |.row r=>.row (r.ren p)
 |q=>q
section
variable {L:Nat} {σ:Nat→Nat} {T:Tags} {st st':St} {a:Act} {w:World} {p:Nat→Nat}
theorem tagRen_ro {b:Nat} (h:T b=.ro):tagRen p T b=.ro:=by simp [tagRen,h]
theorem tagRen_other {b:Nat} (h:T b=.other):tagRen p T b=.other:=by simp [tagRen,h]
theorem tagRen_box {b o:Nat} (h:T b=.box o):tagRen p T b=.box (p o):=by simp [tagRen,h]
theorem tagRen_row {b:Nat} {r:Root} (h:T b=.row r):tagRen p T b=.row (r.ren p):=by simp [tagRen,h]
theorem Still.ren (p:Nat→Nat) (T:Tags):Still T (tagRen p T):=⟨fun _=>tagRen_ro,fun _=>tagRen_other⟩
theorem Sim.ren (h:Sim L σ T st a w) (hp:∀ o,p (p o)=o) (h1:st'.slots=st.slots.map (AV.ren p)) (h2:∀ o:Nat,st'.boxes[p o]?=st.boxes[o]?) (h3:∀ o,o<st.boxes.length→p o<st'.boxes.length) :
  Sim L (fun o=>σ (p o)) (tagRen p T) st' a w:=by
 have hw:∀ b,T b=.ro→b<w.heap.size→tagRen p T b=.ro∧w.heap[b]?=w.heap[b]?:=fun b e _=>⟨tagRen_ro e,rfl⟩
 have hrow:∀ r sz es v,RowRep T w r sz es v→RowRep (tagRen p T) w (r.ren p) sz es v:=fun r sz es v hr=>hr.frame (fun b e _=>⟨tagRen_row e,rfl⟩) hw
 have hget:∀ (t:Nat),st'.slots[t]?=(st.slots[t]?).map (AV.ren p):=fun t=>by rw [h1,List.getElem?_map]
 have hren:∀ (x:AV) sz es,x.ren p=.row sz es→x=.row sz es:=fun x sz es e=>by cases x<;>simp [AV.ren] at e ⊢<;>exact e
 have hr:∀ r sz es,st'.row (r.ren p)=some (sz,es)→st.row r=some (sz,es):=fun r sz es e=>by
  cases r with
  |slot t =>
   simp only [Root.ren,St.row,hget] at e ⊢
   cases hs:st.slots[t]? with
   |none=>rw [hs] at e;simp at e
   |some x =>
    rw [hs] at e
    simp only [Option.map_some] at e
    split at e
    ·rename_i q;rw [hren x _ _ (Option.some.inj q)];exact e
    ·cases e
  |part t i=>simp [Root.ren,St.row] at e
  |cell o j=>simp only [Root.ren,St.row,h2] at e ⊢;exact e
 have hh:∀ r,hdr (fun o=>σ (p o)) a w (r.ren p)=hdr σ a w r:=fun r=>by cases r<;>simp [hdr,Root.ren,hp]
 have hlow:∀ r:Root,r.low st.boxes.length→(r.ren p).low st'.boxes.length:=fun r hl=>by cases r<;>simp only [Root.low,Root.ren] at hl ⊢;exact h3 _ hl
 refine ⟨by simp [h1,h.size],fun t av v ht hv=>?_,fun o bx ho=>?_,fun b hb=>tagRen_other (h.fresh b hb)⟩
 ·rw [hget] at ht
  obtain ⟨x,hx,rfl⟩:=Option.map_eq_some_iff.1 ht
  have g:=h.slots t x v hx hv
  cases x with
  |pv y=>exact PRep.frame hw g
  |row sz es=>exact hrow _ _ _ _ g
  |ref r off len=>exact ⟨hlow r g.1,fun sz es e=>by rw [hh];exact g.2 sz es (hr r sz es e)⟩
  |pbox o j=>exact ⟨h3 o g.1,by rw [g.2];simp [hp]⟩
  |pel r i j=>exact ⟨hlow r g.1,fun sz es e=>by rw [hh];exact g.2 sz es (hr r sz es e)⟩
  |fn f caps =>
   obtain ⟨arr,e1,e2,e3⟩:=g
   refine ⟨arr,e1,by simpa using e2,fun k y u hy hu=>?_⟩
   rw [List.getElem?_map] at hy
   obtain ⟨z,hz,rfl⟩:=Option.map_eq_some_iff.1 hy
   have g:=e3 k z u hz hu
   cases z<;>simp only [CapRep,capRen] at g ⊢
   case pv=>exact PRep.frame hw g
   case pbox o j=>exact ⟨h3 o g.1,by rw [g.2];simp [hp]⟩
  |tup k l =>
   obtain ⟨arr,e1,e2,e3⟩:=g
   refine ⟨arr,e1,e2,fun k y u hy hu=>?_⟩
   have g:=e3 k y u hy hu
   cases y<;>simp only [PartRep] at g ⊢
   case pv=>exact PRep.frame hw g
   case row sz es=>exact hrow _ _ _ _ g
  |ful sz es=>exact ⟨PRep.frame hw g.1,g.2⟩
  |yld=>exact g
  |any=>trivial
 ·have ho':st.boxes[p o]?=some bx:=by rw [← h2,hp];exact ho
  obtain ⟨arr,E,g1,g2,g3,g4,g5⟩:=h.boxes (p o) bx ho'
  refine ⟨arr,E,g1,g2,?_,g4,fun j bv u hj hu=>?_⟩
  ·split at g3
   ·rename_i e;rw [if_pos e];exact tagRen_ro g3
   ·rename_i e;rw [if_neg e,tagRen_box g3,hp]
  ·obtain ⟨k1,k2⟩:=g5 j bv u hj hu
   refine ⟨k1,?_⟩
   cases bv with
   |pv x=>exact PRep.frame hw k2
   |row sz es =>
    have:=hrow _ _ _ _ k2
    have e:(Root.cell (p o) j).ren p=.cell o j:=by simp [Root.ren,hp]
    rw [e] at this
    exact this
theorem swapAt_inv (m o:Nat):swapAt m (swapAt m o)=o:=by
 unfold swapAt
 split<;>split<;>simp_all<;>omega
theorem Sim.swap2 (h:Sim L σ T st a w) {nb:Nat} (hs:st.swap2 nb=some st'):∃ σ' T',Sim L σ' T' st' a w∧Still T T'∧(∀ k,k<nb→σ' k=σ k)∧st'.ys=st.ys∧st'.stop=st.stop∧st'.boxes.length=st.boxes.length:=by
 unfold St.swap2 at hs
 split at hs
 case isFalse=>cases hs
 rename_i hn
 have hs:=Option.some.inj hs
 have hlen:st'.boxes.length=st.boxes.length:=by rw [← hs];simp;omega
 refine ⟨_,_,h.ren (p:=swapAt (st.boxes.length - 2)) (swapAt_inv _) (by rw [← hs]) (fun o=>?_) (fun o ho=>?_),Still.ren _ _,fun k hk=>?_,by rw [← hs],by rw [← hs],hlen⟩
 ·have hb:st'.boxes=st.boxes.take (st.boxes.length - 2)++(st.boxes.drop (st.boxes.length - 1)++(st.boxes.drop (st.boxes.length - 2)).take 1):=by rw [← hs]
  rw [hb]
  generalize hm:st.boxes.length - 2=m
  have hl:st.boxes.length=m+2:=by omega
  rw [show st.boxes.length - 1=m+1 by omega]
  have hd:st.boxes.drop m=[st.boxes[m],st.boxes[m+1]]:=by
   rw [List.drop_eq_getElem_cons (by omega),List.drop_eq_getElem_cons (by omega),List.drop_of_length_le (by omega)]
  have hd1:st.boxes.drop (m+1)=[st.boxes[m+1]]:=by
   rw [List.drop_eq_getElem_cons (by omega),List.drop_of_length_le (by omega)]
  rw [hd,hd1]
  have htl:(st.boxes.take m).length=m:=by simp;omega
  by_cases h1:o=m
  ·subst h1
   rw [show swapAt o o=o+1 by simp [swapAt],List.getElem?_append_right (by omega),htl]
   simp [List.getElem?_eq_getElem (show o<st.boxes.length by omega)]
  ·by_cases h2:o=m+1
   ·subst h2
    rw [show swapAt m (m+1)=m by simp [swapAt],List.getElem?_append_right (by omega),htl]
    simp [List.getElem?_eq_getElem (show m+1<st.boxes.length by omega)]
   ·rw [show swapAt m o=o by simp [swapAt,h1,h2]]
    rcases Nat.lt_or_ge o m with h|h
    ·rw [List.getElem?_append_left (by omega),List.getElem?_take,if_pos h]
    ·rw [List.getElem?_append_right (by omega),htl,List.getElem?_eq_none (by simp;omega),List.getElem?_eq_none (by omega)]
 ·rw [hlen]
  unfold swapAt
  split
  ·omega
  ·split<;>omega
 ·have:swapAt (st.boxes.length - 2) k=k:=by
   unfold swapAt
   rw [if_neg (by omega),if_neg (by omega)]
  rw [this]
end
end Go.Proofs.YtpcncggjmabnaaaGreatDoor

namespace Go.Proofs.YtpcncggjmabnaaaGreatDoor
open Go.RowKit
def DAlt.tail (j:Nat) (z:DAlt):Option DAlt:=match z.acts with
 |(_,i) :: more=>if i=j then some { z with acts:=more } else none
 |[]=>none
def tails (j:Nat) (alts:List DAlt):List DAlt:=alts.filterMap (DAlt.tail j)
def headSeg (seg:List Nat) (z:DAlt):Bool:=match z.acts with
 |(s,_) :: _=>s==seg
 |[]=>false
def headIn (r:List Nat) (z:DAlt):Bool:=match z.acts with
 |(_,i) :: _=>r.contains i
 |[]=>false
def covB (ops:Array Oper) (f:Nat):Nat→Nat→List DAlt→Array Bool→Bool
 |0,k,alts,l=>match alts with
  |[x]=>finNo ops x.fin==f&&drwCount x.acts x.fin x.last==k&&drwB ops x.acts x.fin x.last l
  |_=>false
 |m+1,k,alts,l=>match alts with
  |[]=>false
  |[x]=>finNo ops x.fin==f&&drwCount x.acts x.fin x.last==k&&drwB ops x.acts x.fin x.last l
  |x :: y :: zs=>match x.acts with
   |[]=>match x.fin with
    |none=>false
    |some (segf,segu,g,tl)=>(y :: zs).all (headSeg (segf++segu))&&(x :: y :: zs).all (fun z=>finNo ops z.fin==f&&z.fin.isSome==x.fin.isSome)&&segOk ops x.fin (segf++segu)&&(segA ops x.fin (segf++segu)==segf&&segB ops x.fin (segf++segu)==segu)&&decide (segf.length+segu.length+1≤k)&&match (quietRun ops segf l).bind (quietRun ops segu) with
     |some l1=>!(Region.ready .any ops l1).isEmpty&&(y :: zs).all (headIn (Region.ready .any ops l1))&&(Region.ready .any ops l1).all fun j=>if j=g then tailB ops f x.last tl (l1.setIfInBounds j true)&&tailCount x.last tl==k - 1 - (segf.length+segu.length) else covB ops f m (k - 1 - (segf.length+segu.length)) (tails j (y :: zs)) (l1.setIfInBounds j true)
     |none=>false
   |(seg,_) :: _=>(x :: y :: zs).all (headSeg seg)&&(x :: y :: zs).all (fun z=>finNo ops z.fin==f&&z.fin.isSome==x.fin.isSome)&&segOk ops x.fin seg&&decide (seg.length+1≤k)&&match (quietRun ops (segA ops x.fin seg) l).bind (quietRun ops (segB ops x.fin seg)) with
    |some l1=>!(Region.ready .any ops l1).isEmpty&&(x :: y :: zs).all (headIn (Region.ready .any ops l1))&&(Region.ready .any ops l1).all fun j=>covB ops f m (k - 1 - seg.length) (tails j (x :: y :: zs)) (l1.setIfInBounds j true)
    |none=>false
def ordTail (last:List Nat):List (List Nat × Nat)→List Nat
 |[]=>last
 |(seg,i) :: more=>seg++(i :: ordTail last more)
def ordFin (last:List Nat):Fin1→List Nat
 |none=>last
 |some (segf,segu,f,tl)=>segf++(segu++(f :: ordTail last tl))
def ordActs (fin:Fin1) (last:List Nat):List (List Nat × Nat)→List Nat
 |[]=>ordFin last fin
 |(seg,i) :: more=>seg++(i :: ordActs fin last more)
def altsOk (P:Program) (ops:Array Oper) (vo:List VOp) (alts:List DAlt):Bool :=
 Region.noSelect ops&&(alts.all fun x=>x.ord==ordActs x.fin x.last x.acts&&mDrw P ops x.fin x.last x.acts (pickV vo x.ord))&&match alts with
  |[]=>false
  |x :: _=>covB ops (finNo ops x.fin) ops.size ops.size alts (Array.replicate ops.size false)
section
variable {F:Fence} {n:Nat} {P:Program} {ops:Array Oper} {Q:Act→World→Prop} {f:Nat}
def wpCov (F:Fence) (n:Nat) (P:Program) (ops:Array Oper) (Q:Act→World→Prop):Nat→(World→Prop)→(World→Prop)→List DAlt→Act→World→Prop
 |0,S,S2,alts,a,w=>match alts with
  |[x]=>wpDrw F n P ops Q S S2 x.acts x.fin x.last a w
  |_=>False
 |m+1,S,S2,alts,a,w=>match alts with
  |[]=>False
  |[x]=>wpDrw F n P ops Q S S2 x.acts x.fin x.last a w
  |x :: y :: zs=>match x.acts with
   |[]=>match x.fin with
    |none=>False
    |some (segf,segu,g,tl)=>wpQuiet P ops S (fun a0=>∃ S3:World→Prop,(∀ w,S3 w→S2 w)∧S3 w∧wpQuiet P ops S3 (fun a'=>wpListIn F n P ops (fun e a'' w''=>e=.normal∧S3 w''∧wpTail F n P ops Q x.last S3 tl a'' w'') (pick ops [g]) a' w∧∀ j,j≠g→(tails j (y :: zs))≠[]→wpListIn F n P ops (fun e a'' w''=>e=.normal∧∃ S':World→Prop,(∀ w,S' w→S w)∧S' w''∧S3 w''∧wpCov F n P ops Q m S' S3 (tails j (y :: zs)) a'' w'') (pick ops [j]) a' w) (pick ops segu) a0) (pick ops segf) a
   |(seg,_) :: _=>wpQuiet P ops S (fun a0=>∃ S3:World→Prop,(∀ w,S3 w→S2 w)∧S3 w∧wpQuiet P ops S3 (fun a'=>∀ j,(tails j (x :: y :: zs))≠[]→wpListIn F n P ops (fun e a'' w''=>e=.normal∧∃ S':World→Prop,(∀ w,S' w→S w)∧S' w''∧S3 w''∧wpCov F n P ops Q m S' S3 (tails j (x :: y :: zs)) a'' w'') (pick ops [j]) a' w) (pick ops (segB ops x.fin seg)) a0) (pick ops (segA ops x.fin seg)) a
theorem covB_ne {m k:Nat} {l:Array Bool} {alts:List DAlt} (h:covB ops f m k alts l=true):alts≠[]:=by
 rintro rfl
 cases m<;>simp [covB] at h
theorem finDep_eq {x y:Fin1} (h1:finNo ops x=finNo ops y) (h2:x.isSome=y.isSome):finDep ops x=finDep ops y:=by
 cases x<;>cases y<;>simp only [Option.isSome_none,Option.isSome_some,Bool.false_eq_true,Bool.true_eq_false] at h2
 ·rfl
 ·simp only [finNo] at h1
  funext i
  simp only [finDep,h1]
theorem cov_sound (hF:∀ f,F.fn f) (hnd:noDefer ops=true) (hsel:Region.noSelect ops=true):∀ (m:Nat) (alts:List DAlt) (k:Nat) (S S2:World→Prop) (l:Array Bool) (a:Act) (w:World),l.size=ops.size→Closed ops l→covB ops f m k alts l=true→S w→S2 w →
  wpCov F n P ops Q m S S2 alts a w→anyFin2 F n P ops S S2 f Q k l a w:=by
 have one:∀ (x:DAlt) (k:Nat) (S S2:World→Prop) (l:Array Bool) (a:Act) (w:World),l.size=ops.size→Closed ops l→(finNo ops x.fin==f&&drwCount x.acts x.fin x.last==k&&drwB ops x.acts x.fin x.last l)=true→S w→S2 w→wpDrw F n P ops Q S S2 x.acts x.fin x.last a w→anyFin2 F n P ops S S2 f Q k l a w:=fun x k S S2 l a w hs hc hB hS hS2 h=>by
  simp only [Bool.and_eq_true,beq_iff_eq] at hB
  obtain ⟨⟨h1,h2⟩,h3⟩:=hB
  subst h1;subst h2
  exact drw_sound hF hnd hsel x.acts S S2 l a w hs hc h3 hS hS2 h
 intro m
 induction m with
 |zero =>
  intro alts k S S2 l a w hs hc hB hS hS2 h
  match alts,hB,h with
  |[x],hB,h=>exact one x k S S2 l a w hs hc (by simpa only [covB] using hB) hS hS2 (by simpa only [wpCov] using h)
  |[],hB,_=>simp [covB] at hB
  |_ :: _ :: _,hB,_=>simp [covB] at hB
 |succ m ih =>
  intro alts k S S2 l a w hs hc hB hS hS2 h
  match alts,hB,h with
  |[],hB,_=>simp [covB] at hB
  |[x],hB,h=>exact one x k S S2 l a w hs hc (by simpa only [covB] using hB) hS hS2 (by simpa only [wpCov] using h)
  |x :: y :: zs,hB,h =>
   simp only [covB] at hB
   simp only [wpCov] at h
   generalize ha:x.acts=acts at hB h
   match acts,hB,h with
   |[],hB,h =>
    generalize hxf:x.fin=fin at hB h
    match fin,hxf,hB,h with
    |none,_,hB,_=>cases hB
    |some (segf,segu,g,tl),hxf,hB,h =>
     simp only [Bool.and_eq_true,decide_eq_true_eq,beq_iff_eq] at hB h
     obtain ⟨⟨⟨⟨⟨_,hfs⟩,hsg⟩,hsA,hsB⟩,hk⟩,hB⟩:=hB
     have hfx:finNo ops (some (segf,segu,g,tl))=f:=by
      have:=List.all_eq_true.1 hfs x (by simp)
      simp only [Bool.and_eq_true,beq_iff_eq] at this
      rw [← hxf];exact this.1
     have hg:g=f:=hfx
     split at hB
     case h_2=>cases hB
     rename_i l1 hq
     obtain ⟨l0,hq0,hq1⟩:=Option.bind_eq_some_iff.1 hq
     simp only [Bool.and_eq_true,Bool.not_eq_true',List.isEmpty_eq_false_iff] at hB
     obtain ⟨⟨hne,_⟩,hall⟩:=hB
     have hA:=segA_T (S:=S) (S2:=S2) hsg
     rw [hfx,hsA] at hA
     have:=seg2_sound (F:=F) (n:=n) (P:=P) (S:=S) (Q:=Q) (f:=f) (S2:=S2) hF hnd hsel (T:=S) (w:=w) segf (k - 1 - (segf.length+segu.length)+1+segu.length) l l0 a hs hc ⟨.inr hS,hS2⟩ hA hq0 (fun _ _ _=>trivial) (wpQuiet_imp (fun a0 h0 hs0 hc0 hS0=>by
       obtain ⟨S3,hS3,hw3,h0⟩:=h0
       refine anyFin2_weak (S':=S) (S2':=S3) (fun _ h=>h) hS3 _ _ _ _ ?_
       have hBt:=segB_T (S:=S) (S2:=S3) hsg
       rw [hfx,hsB] at hBt
       refine seg2_sound (F:=F) (n:=n) (P:=P) (S:=S) (Q:=Q) (f:=f) (S2:=S3) hF hnd hsel (T:=S3) (w:=w) segu (k - 1 - (segf.length+segu.length)+1) l0 l1 a0 hs0 hc0 ⟨hS0.1,hw3⟩ hBt hq1 (fun _ _ _=>trivial) (wpQuiet_imp (fun a' h' hs1 hc1 _=>by
        refine ⟨fun h0=>absurd h0 hne,fun j hj=>?_⟩
        have hcov:=List.all_eq_true.1 hall j hj
        by_cases hjg:j=g
        ·rw [if_pos hjg] at hcov
         simp only [Bool.and_eq_true,beq_iff_eq] at hcov
         obtain ⟨htl,hcnt⟩:=hcov
         have hjf:j=f:=hjg.trans hg
         have hf1:(l1.setIfInBounds j true).getD f false=true:=by rw [getD_set _ _ _ (ready_lt hs1 hj),if_pos hjf]
         rw [← hcnt]
         have h1:=h'.1
         rw [← hjg] at h1
         exact oneAct hF (fun a2 w2 h3=>⟨⟨.inl hf1,h3.1⟩,tail_sound hF hnd hsel tl S3 _ _ _ (by simpa using hs1) (hc1.set hs1 hj) hf1 h3.1 htl h3.2⟩) h1
        ·rw [if_neg hjg] at hcov
         refine oneAct hF (fun a2 w2 h2=>?_) (h'.2 j hjg (covB_ne hcov))
         obtain ⟨S',k1,k2,k3,k4⟩:=h2
         exact ⟨⟨.inr (k1 _ k2),k3⟩,anyFin2_weak k1 (fun _ h=>h) _ _ _ _ (ih _ _ S' S3 _ _ _ (by simpa using hs1) (hc1.set hs1 hj) hcov k2 k3 k4)⟩) _ _ h0)) _ _ h)
     rw [show k - 1 - (segf.length+segu.length)+1+segu.length+segf.length=k by omega] at this
     exact this
   |(seg,i0) :: more,hB,h =>
    simp only [Bool.and_eq_true,decide_eq_true_eq] at hB h
    obtain ⟨⟨⟨⟨_,hfs⟩,hsg⟩,hk⟩,hB⟩:=hB
    have hfx:finNo ops x.fin=f:=by
     have:=List.all_eq_true.1 hfs x (by simp)
     simp only [Bool.and_eq_true,beq_iff_eq] at this
     exact this.1
    split at hB
    case h_2=>cases hB
    rename_i l1 hq
    obtain ⟨l0,hq0,hq1⟩:=Option.bind_eq_some_iff.1 hq
    simp only [Bool.and_eq_true,Bool.not_eq_true',List.isEmpty_eq_false_iff] at hB
    obtain ⟨⟨hne,_⟩,hall⟩:=hB
    have hA:=segA_T (S:=S) (S2:=S2) hsg
    rw [hfx] at hA
    have:=seg2_sound (F:=F) (n:=n) (P:=P) (S:=S) (Q:=Q) (f:=f) (S2:=S2) hF hnd hsel (T:=S) (w:=w) (segA ops x.fin seg) (k - 1 - seg.length+1+(segB ops x.fin seg).length) l l0 a hs hc ⟨.inr hS,hS2⟩ hA hq0 (fun _ _ _=>trivial) (wpQuiet_imp (fun a0 h0 hs0 hc0 hS0=>by
      obtain ⟨S3,hS3,hw3,h0⟩:=h0
      refine anyFin2_weak (S':=S) (S2':=S3) (fun _ h=>h) hS3 _ _ _ _ ?_
      have hBt:=segB_T (S:=S) (S2:=S3) hsg
      rw [hfx] at hBt
      refine seg2_sound (F:=F) (n:=n) (P:=P) (S:=S) (Q:=Q) (f:=f) (S2:=S3) hF hnd hsel (T:=S3) (w:=w) (segB ops x.fin seg) (k - 1 - seg.length+1) l0 l1 a0 hs0 hc0 ⟨hS0.1,hw3⟩ hBt hq1 (fun _ _ _=>trivial) (wpQuiet_imp (fun a' h' hs1 hc1 _=>by
       refine ⟨fun h0=>absurd h0 hne,fun j hj=>?_⟩
       have hcov:=List.all_eq_true.1 hall j hj
       refine oneAct hF (fun a2 w2 h2=>?_) (h' j (covB_ne hcov))
       obtain ⟨S',k1,k2,k3,k4⟩:=h2
       exact ⟨⟨.inr (k1 _ k2),k3⟩,anyFin2_weak k1 (fun _ h=>h) _ _ _ _ (ih _ _ S' S3 _ _ _ (by simpa using hs1) (hc1.set hs1 hj) hcov k2 k3 k4)⟩) _ _ h0)) _ _ h)
    have e:=segAB (ops:=ops) x.fin seg
    have e:k - 1 - seg.length+1+(segB ops x.fin seg).length+(segA ops x.fin seg).length=k:=by omega
    rw [e] at this
    exact this
theorem wpIn_region_cov {id:Nat} {l:Array Oper} {a:Act} {w:World} {Q:Exit→Act→World→Prop} (S:World→Prop) {alts:List DAlt} {f m:Nat} (hF:∀ f,F.fn f) (hm:P.follows .mixedOrders=true)
  (hnd:noDefer l=true) (hsel:Region.noSelect l=true) (hB:covB l f m l.size alts (Array.replicate l.size false)=true) (hS:S w.drew) (h:wpCov F n P l (Q .normal) m S (fun _=>True) alts a w.drew):(Code.region id l true).wpIn F n P Q a w:=by
 refine Code.wpIn_mono (Q:=onlyNormal (Q .normal)) (fun e a w h=>by obtain ⟨rfl,h⟩:=h;exact h) (wpIn_region_any hm ?_)
 exact anyFin2_wp _ _ _ _ (cov_sound hF hnd hsel m alts l.size S (fun _=>True) (Array.replicate l.size false) a _ (by simp) (fun m o hm=>absurd hm (by rw [Array.getD_eq_getD_getElem?,Array.getElem?_replicate];split<;>simp)) hB hS trivial h)
end
section
variable {P:Program} {F:Fence} {C:Ctx} {n L nb:Nat} {σ σ':Nat→Nat} {T T' T1 T2:Tags} {st st' st1:St} {a a1:Act} {w w1:World} {vo:List VOp} {keep:List Nat}
 {rec:VCode→St→Option (Ex × St)} {env:Env} {Q:Act→World→Prop} {opl:Array Oper} {ds:List Deferred}
theorem Sim.head (h:Sim L σ T st a w) {keep:List Nat} (hh:st.head keep nb=some st'):Sim L σ T st' a w∧st'.boxes.length=nb∧st'.ys=st.ys∧st'.stop=st.stop∧nb≤st.boxes.length:=by
 unfold St.head at hh
 simp only at hh
 split at hh
 case isFalse=>cases hh
 rename_i hc
 have hh:=Option.some.inj hh
 simp only [Bool.and_eq_true,decide_eq_true_eq] at hc
 obtain ⟨hlow,hnb⟩:=hc
 subst hh
 have hget:∀ (t:Nat) av,((st.slots.zipIdx.map fun (v,i)=>if keep.contains i then v else .any))[t]?=some av→av=.any∨(st.slots[t]?=some av∧av.low nb=true):=fun t av hav=>by
  have hm:=List.all_eq_true.1 hlow av (List.mem_of_getElem? hav)
  simp only [List.getElem?_map,List.getElem?_zipIdx] at hav
  cases e:st.slots[t]? with
  |none=>rw [e] at hav;cases hav
  |some v =>
   rw [e] at hav
   simp only [Option.map_some,Option.some.injEq] at hav
   split at hav
   ·subst hav;exact .inr ⟨rfl,hm⟩
   ·exact .inl hav.symm
 have hlen:({ st with slots:=st.slots.zipIdx.map fun (v,i)=>if keep.contains i then v else .any,boxes:=st.boxes.take nb }:St).boxes.length=nb:=by simp;omega
 have hrow:∀ r sz es,({ st with slots:=st.slots.zipIdx.map fun (v,i)=>if keep.contains i then v else .any,boxes:=st.boxes.take nb }:St).row r=some (sz,es)→st.row r=some (sz,es):=fun r sz es hr=>by
  cases r with
  |slot t =>
   have h1:=slot_of_row hr
   rcases hget t _ h1 with e|⟨e,_⟩
   ·cases e
   ·simp [St.row,e]
  |cell o j =>
   obtain ⟨bx,h1,h2,h3⟩:=cell_of_row' hr
   simp only [List.getElem?_take] at h1
   split at h1
   ·simp [St.row,h1,h2,h3]
   ·cases h1
  |part t i=>simp [St.row] at hr
 refine ⟨⟨by simpa using h.size,fun t av v ht hv=>?_,fun o bx ho=>?_,h.fresh⟩,hlen,rfl,rfl,hnb⟩
 ·rcases hget t av ht with e|⟨e,hl⟩
  ·subst e;trivial
  ·have hA:=h.slots t av v e hv
   cases av with
   |pv x=>exact hA
   |row sz es=>exact hA
   |ref r off len =>
    refine ⟨?_,fun sz es hr=>hA.2 sz es (hrow r sz es hr)⟩
    cases r<;>simp only [Root.low]<;>simpa [AV.low,hlen,hnb] using hl
   |pbox o j=>exact ⟨by rw [hlen];simpa [AV.low] using hl,hA.2⟩
   |pel r i j =>
    refine ⟨?_,fun sz es hr=>hA.2 sz es (hrow r sz es hr)⟩
    cases r<;>simp only [Root.low]<;>simpa [AV.low,hlen,hnb] using hl
   |fn f caps =>
    obtain ⟨arr,e1,e2,e3⟩:=hA
    refine ⟨arr,e1,e2,fun k x u hx hu=>?_⟩
    have hcx:=e3 k x u hx hu
    have hlx:_:=List.all_eq_true.1 (by simpa [AV.low] using hl) x (List.mem_of_getElem? hx)
    cases x with
    |pv p=>exact hcx
    |pbox o j=>exact ⟨by rw [hlen];simpa using hlx,hcx.2⟩
    |_=>exact hcx
   |tup k l=>simp [AV.low] at hl
   |ful s l=>exact hA
   |yld=>exact hA
   |any=>trivial
 ·simp only [List.getElem?_take] at ho
  split at ho
  ·exact h.boxes o bx ho
  ·cases ho
theorem head_facts {s s1:St} {nb:Nat} (h:s.head keep nb=some s1):s1.boxes.length=nb∧s1.ys=s.ys∧s1.stop=s.stop∧nb≤s.boxes.length:=by
 unfold St.head at h
 simp only at h
 split at h
 case isFalse=>cases h
 rename_i hc
 simp only [Bool.and_eq_true,decide_eq_true_eq] at hc
 have h:=Option.some.inj h
 rw [← h]
 exact ⟨by simp;omega,rfl,rfl,hc.2⟩
theorem altEnd_facts {s:St} {sw:Bool} (h:altEnd keep nb sw s=some st'):st'.ys=s.ys∧st'.stop=s.stop∧st'.boxes.length=s.boxes.length:=by
 unfold altEnd at h
 obtain ⟨s1,h1,h2⟩:=bind_some h
 obtain ⟨e1,e2,e3,_⟩:=head_facts h1
 split at h2
 ·unfold St.swap2 at h2
  split at h2
  ·have h2:=Option.some.inj h2
   rw [← h2]
   exact ⟨e2,e3,by rw [← e1];simp;omega⟩
  ·cases h2
 ·have h2:=Option.some.inj h2
  rw [← h2];exact ⟨e2,e3,e1⟩
theorem After.ends (hC:C.Ok P L) {s:St} {sw:Bool} {nb0:Nat} (hnb:nb≤nb0) (h:After C L nb σ T w s ds a1 w1) (he:altEnd keep nb0 sw s=some st'):After C L nb σ T w st' ds a1 w1:=by
 obtain ⟨σ',T',ms,g1,g2,g3,g4,g5,g6⟩:=h
 unfold altEnd at he
 obtain ⟨s1,h1,h2⟩:=bind_some he
 obtain ⟨q1,q2,q3,q4,_⟩:=g1.head h1
 split at h2
 ·obtain ⟨σ2,T2,k1,k2,k3,k4,k5,k6⟩:=q1.swap2 h2
  refine ⟨σ2,T2,ms,k1,?_,fun k hk=>(k3 k (by omega)).trans (g3 k hk),g4.trans (k2.chg w1).stays,g5,fun r hr=>⟨(g6.1 r hr).1,k2.ro r (g6.1 r hr).2.1,(g6.1 r hr).2.2⟩,g6.2⟩
  rw [k4,q3]
  exact hC.keep _ _ _ _ _ (k2.chg w1) g2
 ·have h2:=Option.some.inj h2
  subst h2
  exact ⟨σ',T',ms,q1,by rw [q3];exact g2,g3,g4,g5,g6⟩
theorem Marks.app {T2:Tags} {w2:World} {ms ms2:List Nat} (h1:Marks T1 w w1 ms) (hsz:w.heap.size≤w1.heap.size) (hs:Stays T1 T2 w1 w2) (h2:Marks T2 w1 w2 ms2):Marks T2 w w2 (ms2++ms):=by
 refine ⟨fun r hr=>?_,List.nodup_append.2 ⟨h2.2,h1.2,fun x hx y hy e=>?_⟩⟩
 ·rcases List.mem_append.1 hr with hr|hr
  ·obtain ⟨k1,k2,k3⟩:=h2.1 r hr
   exact ⟨Nat.le_trans hsz k1,k2,k3⟩
  ·obtain ⟨k1,k2,k3⟩:=h1.1 r hr
   have hl:r<w1.heap.size:=(Array.getElem?_eq_some_iff.1 k3).1
   exact ⟨k1,hs.ro r k2,(hs.same r hl k2).trans k3⟩
 ·have k1:=(h2.1 x hx).1
  have hl:y<w1.heap.size:=(Array.getElem?_eq_some_iff.1 (h1.1 y hy).2.2).1
  omega
theorem pickV_app (vo:List VOp) (a b:List Nat):pickV vo (a++b)=pickV vo a++pickV vo b:=by simp [pickV]
theorem pickV_cons (vo:List VOp) (i:Nat) (b:List Nat):pickV vo (i :: b)=vo.getD i default :: pickV vo b:=rfl
theorem pickV_len (vo:List VOp) (a:List Nat):(pickV vo a).length=a.length:=by simp [pickV]
def AltSt (P:Program) (rec:VCode→St→Option (Ex × St)) (env:Env) (opl:Array Oper) (vo:List VOp) (keep:List Nat) (nb:Nat) (X:List (List PV)) (st st':St) (z:DAlt):Prop :=
 mDrw P opl z.fin z.last z.acts (pickV vo (ordActs z.fin z.last z.acts))=true∧∃ s,ops rec env (pickV vo (ordActs z.fin z.last z.acts)) st=some s∧s.ys <+: X∧altEnd keep nb z.sw s=some st'
theorem tail_spec {j:Nat} {z z':DAlt} (h:z.tail j=some z'):∃ seg,z.acts=(seg,j) :: z'.acts∧z'.fin=z.fin∧z'.last=z.last∧z'.sw=z.sw:=by
 unfold DAlt.tail at h
 split at h
 ·rename_i seg i more hz
  split at h
  ·rename_i e
   have h:=Option.some.inj h
   subst h;subst e
   exact ⟨seg,hz,rfl,rfl,rfl⟩
  ·cases h
 ·cases h
theorem cov_wp (hW:Wide F) (hC:C.Ok P L) (hcalls:CallsOk P rec env) {f:Nat} {nb0:Nat} (hnb:nb≤nb0) {w0:World} {σ0:Nat→Nat} {T0:Tags}:∀ (m:Nat) (k:Nat) (alts:List DAlt) (l:Array Bool) {S2:World→Prop} {st:St} {σ:Nat→Nat} {T:Tags} {a:Act} {w:World},covB opl f m k alts l=true →
  Sim L σ T st a w→(∀ T' w',Stays T T' w w'→S2 w')→C.J st.ys.length T w→st.stop=C.stop→nb≤st.boxes.length→(∀ z∈alts,AltSt P rec env opl vo keep nb0 C.X st st' z) →
  Stays T0 T w0 w→(∀ k,k<nb→σ k=σ0 k)→(∃ ms,a.defers=ms.map markOf++ds∧Marks T w0 w ms) →
  (∀ a' w',After C L nb σ0 T0 w0 st' ds a' w'→Q a' w')→wpCov F n P opl Q m (Whole w) S2 alts a w:=by
 have one:∀ (x:DAlt) {S2:World→Prop} {st:St} {σ:Nat→Nat} {T:Tags} {a:Act} {w:World},Sim L σ T st a w→(∀ T' w',Stays T T' w w'→S2 w')→C.J st.ys.length T w→st.stop=C.stop→nb≤st.boxes.length→AltSt P rec env opl vo keep nb0 C.X st st' x →
  Stays T0 T w0 w→(∀ k,k<nb→σ k=σ0 k)→(∃ ms,a.defers=ms.map markOf++ds∧Marks T w0 w ms)→(∀ a' w',After C L nb σ0 T0 w0 st' ds a' w'→Q a' w')→wpDrw F n P opl Q (Whole w) S2 x.acts x.fin x.last a w:=fun x S2 st σ T a w h h2S hJ hst hb hx hstays hσ hms hn=>by
  obtain ⟨hm,s,hrun,hX,hend⟩:=hx
  obtain ⟨ms,hd,hM⟩:=hms
  refine drw_wp hW hC hcalls hX h h2S hJ hst hm hrun fun a' w' hA=>hn _ _ ?_
  exact (After.trans hstays hσ hd hM hb hA).ends hC hnb hend
 intro m
 induction m with
 |zero =>
  intro k alts l S2 st σ T a w hB h h2S hJ hst hb hz hstays hσ hms hn
  match alts,hB,hz with
  |[x],_,hz=>simpa only [wpCov] using one x h h2S hJ hst hb (hz x (by simp)) hstays hσ hms hn
  |[],hB,_=>simp [covB] at hB
  |_ :: _ :: _,hB,_=>simp [covB] at hB
 |succ m ih =>
  intro k alts l S2 st σ T a w hB h h2S hJ hst hb hz hstays hσ hms hn
  match alts,hB,hz with
  |[],hB,_=>simp [covB] at hB
  |[x],_,hz=>simpa only [wpCov] using one x h h2S hJ hst hb (hz x (by simp)) hstays hσ hms hn
  |x :: y :: zs,hB,hz =>
   simp only [covB] at hB
   simp only [wpCov]
   generalize ha:x.acts=acts at hB
   match acts,ha,hB with
   |[],ha,hB =>
    generalize hxf:x.fin=fin at hB
    match fin,hxf,hB with
    |none,_,hB=>cases hB
    |some (segf,segu,g,tl),hxf,hB =>
     simp only [Bool.and_eq_true,decide_eq_true_eq,beq_iff_eq] at hB
     obtain ⟨⟨⟨⟨⟨hheads,hfs⟩,hsg⟩,hsA,hsB⟩,hk⟩,hB⟩:=hB
     split at hB
     case h_2=>cases hB
     rename_i l1 hq1
     simp only [Bool.and_eq_true,Bool.not_eq_true',List.isEmpty_eq_false_iff] at hB
     obtain ⟨⟨hne,hin⟩,hall⟩:=hB
     simp only [hxf]
     have hfin:∀ z∈y :: zs,segA opl z.fin (segf++segu)=segf∧segB opl z.fin (segf++segu)=segu:=fun z hzz=>by
      have hx:=List.all_eq_true.1 hfs x (by simp)
      have hz:=List.all_eq_true.1 hfs z (List.mem_cons_of_mem _ hzz)
      simp only [Bool.and_eq_true,beq_iff_eq] at hx hz
      rw [hxf] at hx
      have e:=finDep_eq (ops:=opl) (x:=z.fin) (y:=some (segf,segu,g,tl)) (hz.1.trans hx.1.symm) (hz.2.trans hx.2.symm)
      unfold segA at hsA
      unfold segB at hsB
      unfold segA segB
      rw [e]
      exact ⟨hsA,hsB⟩
     have shape:∀ z∈y :: zs,∃ i more,z.acts=(segf++segu,i) :: more:=fun z hzz=>by
      have:=List.all_eq_true.1 hheads z hzz
      unfold headSeg at this
      split at this
      ·rename_i s i more e
       exact ⟨i,more,by rw [e,eq_of_beq this]⟩
      ·cases this
     have split1:∀ z∈y :: zs,∀ i more,z.acts=(segf++segu,i) :: more→∃ st0 st1 st2 s,mL P opl (pick opl [i]) [vo.getD i default]=true∧calmG (vo.getD i default)=true∧mDrw P opl z.fin z.last more (pickV vo (ordActs z.fin z.last more))=true ∧
       ops rec env (pickV vo segf) st=some st0∧ops rec env (pickV vo segu) st0=some st1∧op rec env (vo.getD i default) st1=some st2∧ops rec env (pickV vo (ordActs z.fin z.last more)) st2=some s∧s.ys <+: C.X∧altEnd keep nb0 z.sw s=some st':=fun z hzz i more e=>by
      obtain ⟨hm,s,hrun,hX,hend⟩:=hz z (List.mem_cons_of_mem _ hzz)
      rw [e] at hm hrun
      have e2:pickV vo (ordActs z.fin z.last ((segf++segu,i) :: more))=pickV vo segf++(pickV vo segu++(vo.getD i default :: pickV vo (ordActs z.fin z.last more))):=by
       show pickV vo ((segf++segu)++(i :: ordActs z.fin z.last more))=_
       rw [pickV_app,pickV_app,pickV_cons,List.append_assoc]
      rw [e2] at hm hrun
      have hlenA:=pickV_len vo segf
      have hlenB:=pickV_len vo segu
      simp only [mDrw,Bool.and_eq_true,(hfin z hzz).1,(hfin z hzz).2] at hm
      rw [List.take_left' hlenA,List.drop_left' hlenA,List.take_left' hlenB,List.drop_left' hlenB] at hm
      obtain ⟨st0,p0,p1⟩:=ops_append hrun
      obtain ⟨st1,p1,p2⟩:=ops_append p1
      obtain ⟨st2,p2,p3⟩:=ops_one p2
      simp only [Bool.and_eq_true] at hm
      exact ⟨st0,st1,st2,s,hm.2.1.1,hm.2.1.2,hm.2.2,p0,p1,p2,p3,hX,hend⟩
     obtain ⟨hmx,sx,hrunx,hXx,hendx⟩:=hz x (by simp)
     rw [ha,hxf] at hmx hrunx
     have e2:pickV vo (ordActs (some (segf,segu,g,tl)) x.last [])=pickV vo segf++(pickV vo segu++(vo.getD g default :: pickV vo (ordTail x.last tl))):=by
      show pickV vo (segf++(segu++(g :: ordTail x.last tl)))=_
      rw [pickV_app,pickV_app,pickV_cons]
     rw [e2] at hmx hrunx
     have hlenA:=pickV_len vo segf
     have hlenB:=pickV_len vo segu
     simp only [mDrw,Bool.and_eq_true] at hmx
     rw [List.take_left' hlenA,List.drop_left' hlenA,List.take_left' hlenB,List.drop_left' hlenB] at hmx
     simp only [Bool.and_eq_true] at hmx
     obtain ⟨⟨⟨hqx,hqu⟩,hql⟩,hmg,hmt⟩:=hmx
     obtain ⟨st0,p0,p1⟩:=ops_append hrunx
     obtain ⟨st1,p1,p2⟩:=ops_append p1
     obtain ⟨stg,p2,p3⟩:=ops_one p2
     have glx:=ops_grow (rec:=rec) (env:=env) p3
     refine seg_wp h hqx p0 fun a0 T0' f1 f2 f3 f4=>?_
     have h2S0:∀ T' w',Stays T0' T' w w'→S2 w':=fun T' w' hw=>h2S T' w' ((f2.chg w).stays.trans hw)
     refine ⟨nar S2 T0' w,fun _ h=>h.1,nar_stays h2S0 T0' w (Stays.refl T0' w),?_⟩
     refine segn_wp f1 hqu hql p1 fun a1 T1 g1 g2e g3' g4'=>?_
     have g2':=g2e
     have g2:=f2.trans g2'
     have g4:=f4.trans g4'
     have g3:=g3'.trans f3
     have hJ1:C.J st1.ys.length T1 w:=by rw [g4.2.1];exact hC.keep _ _ _ _ _ (g2.chg w) hJ
     obtain ⟨ms,hd,hM⟩:=hms
     have hs2:Stays T0 T1 w0 w:=hstays.trans (g2.chg w).stays
     have hM1:Marks T1 w0 w ms:=⟨fun r hr=>⟨(hM.1 r hr).1,g2.ro r (hM.1 r hr).2.1,(hM.1 r hr).2.2⟩,hM.2⟩
     refine ⟨?_,fun j hjg hj=>?_⟩
     ·refine act_wp hW hC hcalls g1 hJ1 (g4.2.2.trans hst) hmg p2 (glx.2.1.trans hXx) ?_
      rintro a2 w2 ⟨σ2,T2,ms2,k1,k2,k3,k4,k5,k6⟩ _
      have hs4:=((g2'.chg w).stays).trans k4
      have hn3:∀ T' w',Stays T2 T' w2 w'→nar S2 T0' w w':=fun T' w' hw'=>nar_stays h2S0 T' w' (hs4.trans hw')
      refine ⟨hn3 _ _ (Stays.refl _ _),tail_wp hW hC hcalls hXx k1 hn3 k2 (((op_grow p2).2.2.trans g4.2.2).trans hst) hmt p3 fun a' w' hA=>hn _ _ ?_⟩
      have hA1:=After.trans (nb:=st.boxes.length) (ds:=a.defers) (((g2.chg w).stays).trans k4) (fun k hk=>k3 k (Nat.lt_of_lt_of_le hk g4.1)) (by rw [k5,g3]) k6 (Nat.le_trans g4.1 (op_grow p2).1) hA
      exact (After.trans hstays hσ hd hM hb hA1).ends hC hnb hendx
     obtain ⟨z',hz'⟩:=List.exists_mem_of_ne_nil _ hj
     have hz':=hz'
     unfold tails at hz'
     obtain ⟨z,hzz,hzt⟩:=List.mem_filterMap.1 hz'
     obtain ⟨seg',hza,hf1,hf2,hf3⟩:=tail_spec hzt
     have hseg:seg'=segf++segu:=by
      obtain ⟨i,more',e⟩:=shape z hzz
      rw [hza] at e;cases e;rfl
     subst hseg
     obtain ⟨t0,t1,st2,s,hmj,hcalm,hmz,q0,q1,q2,q3,hXs,hend⟩:=split1 z hzz j z'.acts hza
     have:t0=st0:=by rw [p0] at q0;exact (Option.some.inj q0).symm
     subst this
     have:t1=st1:=by rw [p1] at q1;exact (Option.some.inj q1).symm
     subst this
     have gl:=ops_grow (rec:=rec) (env:=env) q3
     refine act_wp hW hC hcalls g1 hJ1 (g4.2.2.trans hst) hmj q2 (gl.2.1.trans hXs) ?_
     rintro a2 w2 ⟨σ2,T2,ms2,k1,k2,k3,k4,k5,k6⟩ hwh
     have hwh:=hwh hcalm
     have hs4:=((g2'.chg w).stays).trans k4
     have hn3:∀ T' w',Stays T2 T' w2 w'→nar S2 T0' w w':=fun T' w' hw'=>nar_stays h2S0 T' w' (hs4.trans hw')
     refine ⟨Whole w2,fun w' hw'=>⟨Nat.le_trans hwh.1 hw'.1,fun b hb=>(hw'.2 b (Nat.lt_of_lt_of_le hb hwh.1)).trans (hwh.2 b hb)⟩,Whole.refl w2,hn3 _ _ (Stays.refl _ _),?_⟩
     have hjr:j∈Region.ready .any opl l1:=by
      have:=List.all_eq_true.1 hin z hzz
      unfold headIn at this
      rw [hza] at this
      simpa using this
     have hcov:=List.all_eq_true.1 hall j hjr
     rw [if_neg hjg] at hcov
     refine ih _ _ _ hcov k1 hn3 k2 (((op_grow q2).2.2.trans g4.2.2).trans hst) (Nat.le_trans hb (Nat.le_trans g4.1 (op_grow q2).1)) (fun u hu=>?_) (hs2.trans k4) (fun k hk=>(k3 k (Nat.lt_of_lt_of_le hk (Nat.le_trans hb g4.1))).trans (hσ k hk)) ?_ hn
     ·unfold tails at hu
      obtain ⟨z2,hz2,hzt2⟩:=List.mem_filterMap.1 hu
      obtain ⟨seg2,hza2,e1,e2,e3⟩:=tail_spec hzt2
      have hseg2:seg2=segf++segu:=by
       obtain ⟨i,more',e⟩:=shape z2 hz2
       rw [hza2] at e;cases e;rfl
      subst hseg2
      obtain ⟨t0',t1',st2',s',_,_,hmz',q0',q1',q2',q3',hXs',hend'⟩:=split1 z2 hz2 j u.acts hza2
      have e0:t0'=t0:=by rw [q0] at q0';exact (Option.some.inj q0').symm
      subst e0
      have e4:t1'=t1:=by rw [q1] at q1';exact (Option.some.inj q1').symm
      subst e4
      have e5:st2'=st2:=by rw [q2] at q2';exact (Option.some.inj q2').symm
      subst e5
      unfold AltSt
      rw [e1,e2,e3]
      exact ⟨hmz',s',q3',hXs',hend'⟩
     ·refine ⟨ms2++ms,by rw [k5,g3,hd];simp,?_⟩
      exact Marks.app hM1 hs2.size k4 k6
   |(seg,i0) :: more,ha,hB =>
    simp only [Bool.and_eq_true,decide_eq_true_eq] at hB
    obtain ⟨⟨⟨⟨hheads,hfs⟩,hsg⟩,hk⟩,hB⟩:=hB
    split at hB
    case h_2=>cases hB
    rename_i l1 hq1
    simp only [Bool.and_eq_true,Bool.not_eq_true',List.isEmpty_eq_false_iff] at hB
    obtain ⟨⟨hne,hin⟩,hall⟩:=hB
    have hfin:∀ z∈x :: y :: zs,segA opl z.fin seg=segA opl x.fin seg∧segB opl z.fin seg=segB opl x.fin seg:=fun z hzz=>by
     have hx:=List.all_eq_true.1 hfs x (by simp)
     have hz:=List.all_eq_true.1 hfs z hzz
     simp only [Bool.and_eq_true,beq_iff_eq] at hx hz
     have e:=finDep_eq (ops:=opl) (x:=z.fin) (y:=x.fin) (hz.1.trans hx.1.symm) hz.2
     unfold segA segB
     rw [e]
     exact ⟨rfl,rfl⟩
    have shape:∀ z∈x :: y :: zs,∃ i more,z.acts=(seg,i) :: more:=fun z hzz=>by
     have:=List.all_eq_true.1 hheads z hzz
     unfold headSeg at this
     split at this
     ·rename_i s i more e
      exact ⟨i,more,by rw [e,eq_of_beq this]⟩
     ·cases this
    have split1:∀ z∈x :: y :: zs,∀ i more,z.acts=(seg,i) :: more→∃ st0 st1 st2 s,quietOk P opl (segA opl x.fin seg) (pickV vo (segA opl x.fin seg))=true∧(mL P opl (pick opl (segB opl x.fin seg)) (pickV vo (segB opl x.fin seg))=true∧looseL true (pickV vo (segB opl x.fin seg))=true)∧mL P opl (pick opl [i]) [vo.getD i default]=true∧calmG (vo.getD i default)=true∧mDrw P opl z.fin z.last more (pickV vo (ordActs z.fin z.last more))=true ∧
      ops rec env (pickV vo (segA opl x.fin seg)) st=some st0∧ops rec env (pickV vo (segB opl x.fin seg)) st0=some st1∧op rec env (vo.getD i default) st1=some st2∧ops rec env (pickV vo (ordActs z.fin z.last more)) st2=some s∧s.ys <+: C.X∧altEnd keep nb0 z.sw s=some st':=fun z hzz i more e=>by
     obtain ⟨hm,s,hrun,hX,hend⟩:=hz z hzz
     rw [e] at hm hrun
     have e2:pickV vo (ordActs z.fin z.last ((seg,i) :: more))=pickV vo (segA opl x.fin seg)++(pickV vo (segB opl x.fin seg)++(vo.getD i default :: pickV vo (ordActs z.fin z.last more))):=by
      show pickV vo (seg++(i :: ordActs z.fin z.last more))=_
      rw [pickV_app,pickV_cons,← List.append_assoc,← pickV_app]
      congr 2
      exact (List.takeWhile_append_dropWhile (p:=finDep opl x.fin) (l:=seg)).symm
     rw [e2] at hm hrun
     have hlenA:=pickV_len vo (segA opl x.fin seg)
     have hlenB:=pickV_len vo (segB opl x.fin seg)
     simp only [mDrw,Bool.and_eq_true,(hfin z hzz).1,(hfin z hzz).2] at hm
     rw [List.take_left' hlenA,List.drop_left' hlenA,List.take_left' hlenB,List.drop_left' hlenB] at hm
     obtain ⟨st0,p0,p1⟩:=ops_append hrun
     obtain ⟨st1,p1,p2⟩:=ops_append p1
     obtain ⟨st2,p2,p3⟩:=ops_one p2
     simp only [Bool.and_eq_true] at hm
     exact ⟨st0,st1,st2,s,hm.1.1.1,⟨hm.1.1.2,hm.1.2⟩,hm.2.1.1,hm.2.1.2,hm.2.2,p0,p1,p2,p3,hX,hend⟩
    obtain ⟨st0,st1,st2x,sx,hqx,hqb,_,_,_,p0,p1,_⟩:=split1 x (by simp) i0 more ha
    refine seg_wp h hqx p0 fun a0 T0' f1 f2 f3 f4=>?_
    have h2S0:∀ T' w',Stays T0' T' w w'→S2 w':=fun T' w' hw=>h2S T' w' ((f2.chg w).stays.trans hw)
    refine ⟨nar S2 T0' w,fun _ h=>h.1,nar_stays h2S0 T0' w (Stays.refl T0' w),?_⟩
    refine segn_wp f1 hqb.1 hqb.2 p1 fun a1 T1 g1 g2e g3' g4'=>?_
    have g2':=g2e
    have g2:=f2.trans g2'
    have g4:=f4.trans g4'
    have g3:=g3'.trans f3
    intro j hj
    obtain ⟨ms,hd,hM⟩:=hms
    have hJ1:C.J st1.ys.length T1 w:=by rw [g4.2.1];exact hC.keep _ _ _ _ _ (g2.chg w) hJ
    obtain ⟨z',hz'⟩:=List.exists_mem_of_ne_nil _ hj
    have hz':=hz'
    unfold tails at hz'
    obtain ⟨z,hzz,hzt⟩:=List.mem_filterMap.1 hz'
    obtain ⟨seg',hza,hf1,hf2,hf3⟩:=tail_spec hzt
    have hseg:seg'=seg:=by
     obtain ⟨i,more',e⟩:=shape z hzz
     rw [hza] at e;cases e;rfl
    subst hseg
    obtain ⟨t0,t1,st2,s,_,_,hmj,hcalm,hmz,q0,q1,q2,q3,hXs,hend⟩:=split1 z hzz j z'.acts hza
    have:t0=st0:=by rw [p0] at q0;exact (Option.some.inj q0).symm
    subst this
    have:t1=st1:=by rw [p1] at q1;exact (Option.some.inj q1).symm
    subst this
    have gl:=ops_grow (rec:=rec) (env:=env) q3
    refine act_wp hW hC hcalls g1 hJ1 (g4.2.2.trans hst) hmj q2 (gl.2.1.trans hXs) ?_
    rintro a2 w2 ⟨σ2,T2,ms2,k1,k2,k3,k4,k5,k6⟩ hwh
    have hwh:=hwh hcalm
    have hs4:=((g2'.chg w).stays).trans k4
    have hn3:∀ T' w',Stays T2 T' w2 w'→nar S2 T0' w w':=fun T' w' hw'=>nar_stays h2S0 T' w' (hs4.trans hw')
    refine ⟨Whole w2,fun w' hw'=>⟨Nat.le_trans hwh.1 hw'.1,fun b hb=>(hw'.2 b (Nat.lt_of_lt_of_le hb hwh.1)).trans (hwh.2 b hb)⟩,Whole.refl w2,hn3 _ _ (Stays.refl _ _),?_⟩
    have hjr:j∈Region.ready .any opl l1:=by
     have:=List.all_eq_true.1 hin z hzz
     unfold headIn at this
     rw [hza] at this
     simpa using this
    have hcov:=List.all_eq_true.1 hall j hjr
    have hs2:Stays T0 T1 w0 w:=hstays.trans (g2.chg w).stays
    have hM1:Marks T1 w0 w ms:=⟨fun r hr=>⟨(hM.1 r hr).1,g2.ro r (hM.1 r hr).2.1,(hM.1 r hr).2.2⟩,hM.2⟩
    refine ih _ _ _ hcov k1 hn3 k2 (((op_grow q2).2.2.trans g4.2.2).trans hst) (Nat.le_trans hb (Nat.le_trans g4.1 (op_grow q2).1)) (fun u hu=>?_) (hs2.trans k4) (fun k hk=>(k3 k (Nat.lt_of_lt_of_le hk (Nat.le_trans hb g4.1))).trans (hσ k hk)) ?_ hn
    ·unfold tails at hu
     obtain ⟨z2,hz2,hzt2⟩:=List.mem_filterMap.1 hu
     obtain ⟨seg2,hza2,e1,e2,e3⟩:=tail_spec hzt2
     have hseg2:seg2=seg':=by
      obtain ⟨i,more',e⟩:=shape z2 hz2
      rw [hza2] at e;cases e;rfl
     subst hseg2
     obtain ⟨t0',t1',st2',s',_,_,_,_,hmz',q0',q1',q2',q3',hXs',hend'⟩:=split1 z2 hz2 j u.acts hza2
     have e0:t0'=t0:=by rw [q0] at q0';exact (Option.some.inj q0').symm
     subst e0
     have e4:t1'=t1:=by rw [q1] at q1';exact (Option.some.inj q1').symm
     subst e4
     have e5:st2'=st2:=by rw [q2] at q2';exact (Option.some.inj q2').symm
     subst e5
     unfold AltSt
     rw [e1,e2,e3]
     exact ⟨hmz',s',q3',hXs',hend'⟩
    ·refine ⟨ms2++ms,by rw [k5,g3,hd];simp,?_⟩
     exact Marks.app hM1 hs2.size k4 k6
theorem runAlts_all {alts:List DAlt} (h:runAlts rec env keep vo st alts=some st'):∀ z∈alts,altRun rec env keep vo st z=some st':=by
 cases alts with
 |nil=>simp [runAlts] at h
 |cons x xs =>
  simp only [runAlts] at h
  obtain ⟨s,h1,h2⟩:=bind_some h
  obtain ⟨e,g⟩:=agree_eq h2
  subst e
  intro z hz
  rcases List.mem_cons.1 hz with rfl|hz
  ·exact h1
  ·exact g _ (List.mem_map_of_mem hz)
theorem runAlts_facts {alts:List DAlt} (h:runAlts rec env keep vo st alts=some st'):st.boxes.length≤st'.boxes.length∧st.ys <+: st'.ys∧st'.stop=st.stop:=by
 cases alts with
 |nil=>simp [runAlts] at h
 |cons x xs =>
  have h1:=runAlts_all h x (by simp)
  unfold altRun at h1
  obtain ⟨s,h2,h3⟩:=bind_some h1
  obtain ⟨e1,e2,e3⟩:=altEnd_facts h3
  have g:=ops_grow h2
  exact ⟨by rw [e3];exact g.1,by rw [e1];exact g.2.1,by rw [e2];exact g.2.2⟩
theorem region_drs_wp {id:Nat} {Q:Exit→Act→World→Prop} {alts:List DAlt} (hW:Wide F) (hC:C.Ok P L) (hcalls:CallsOk P rec env) (h:Sim L σ T st a w) (hJ:C.J st.ys.length T w) (hst:st.stop=C.stop) (hX:st'.ys <+: C.X)
  (hmo:P.follows .mixedOrders=true) (hnd:noDefer opl=true) (hok:altsOk P opl vo alts=true) (hp:runAlts rec env keep vo st alts=some st')
  (hn:∀ a' w',After C L st.boxes.length σ T w st' a.defers a' w'→Q .normal a' w'):(Code.region id opl true).wpIn F n P Q a w:=by
 simp only [altsOk,Bool.and_eq_true] at hok
 obtain ⟨⟨hsel,hall⟩,hB⟩:=hok
 have hz:∀ z∈alts,AltSt P rec env opl vo keep st.boxes.length C.X st st' z:=fun z hz=>by
  have h1:=List.all_eq_true.1 hall z hz
  simp only [Bool.and_eq_true] at h1
  have h2:=runAlts_all hp z hz
  unfold altRun at h2
  obtain ⟨s,h3,h4⟩:=bind_some h2
  have he:=eq_of_beq h1.1
  unfold AltSt
  rw [← he]
  exact ⟨h1.2,s,h3,by rw [← (altEnd_facts h4).1];exact hX,h4⟩
 split at hB
 ·cases hB
 rename_i x xs
 refine wpIn_region_cov (Whole w.drew) hW.fn hmo hnd hsel hB (Whole.refl _) ?_
 refine cov_wp hW hC hcalls (nb:=st.boxes.length) (Nat.le_refl _) (w0:=w.drew) (σ0:=σ) (T0:=T) (ds:=a.defers) _ _ _ _ hB (h.sees (sees_drew T w)) (fun _ _ _=>trivial) (hC.keep _ _ _ _ _ (chg_drew T w) hJ) hst (Nat.le_refl _) hz (Stays.refl _ _) (fun _ _=>rfl) ⟨[],rfl,Marks.nil⟩ fun a' w' hA=>hn _ _ ?_
 exact After.trans (ms:=[]) (chg_drew T w).stays (fun _ _=>rfl) rfl Marks.nil (Nat.le_refl _) hA
end
end Go.Proofs.YtpcncggjmabnaaaGreatDoor

namespace Go.Proofs.YtpcncggjmabnaaaGreatDoor
open Go.RowKit
theorem wpListIn_monoQ {F:Fence} {n:Nat} {P:Program} {ops:Array Oper} {Q Q':Exit→Act→World→Prop} (hQ:∀ e a w,Q e a w→Q' e a w):∀ {l:List Oper} {a:Act} {w:World},wpListIn F n P ops Q l a w→wpListIn F n P ops Q' l a w
 |[],a,w,h=>hQ _ _ _ h
 |o :: l,a,w,h=>by
  have put:∀ (b:Act) (w':World),wpListIn F n P ops Q l b w'→wpListIn F n P ops Q' l b w':=fun b w' h=>wpListIn_monoQ hQ h
  simp only [wpListIn] at h ⊢
  split at h
  ·rename_i hw
   rw [if_pos hw]
   obtain ⟨h1,h2⟩:=h
   refine ⟨h1,?_⟩
   unfold Oper.uponIn at h2 ⊢
   split at h2
   ·exact put _ _ h2
   ·exact put _ _ h2
   ·exact put _ _ h2
   ·refine ⟨h2.1,h2.2.mono fun e w' he=>?_⟩
    cases e with
    |returned v=>exact put _ _ he
    |panicked chain=>exact hQ _ _ _ he
    |outgrown =>
     obtain ⟨a',w'',hq⟩:=he
     exact ⟨a',w'',hQ _ _ _ hq⟩
   ·exact ⟨h2.1,h2.2.mono fun v w' he=>put _ _ he⟩
   ·refine ⟨h2.1,h2.2.mono fun e w' he=>?_⟩
    cases e with
    |returned v=>exact put _ _ he
    |panicked chain=>exact hQ _ _ _ he
    |outgrown =>
     obtain ⟨a',w'',hq⟩:=he
     exact ⟨a',w'',hQ _ _ _ hq⟩
   ·exact hQ _ _ _ h2
   ·exact h2.elim
  ·rename_i hw
   rw [if_neg hw]
   exact ⟨h.1,put _ _ h.2⟩
def SameTmps (l:List Oper) (a a':Act):Prop:=a'.tmps.size=a.tmps.size∧∀ t,(∀ o∈l,o.dst≠some t)→a'.tmps[t]?=a.tmps[t]?
theorem wpListIn_dst {F:Fence} {n:Nat} {P:Program} {ops:Array Oper} {Q:Exit→Act→World→Prop}:∀ {l:List Oper} {a:Act} {w:World},wpListIn F n P ops Q l a w →
  wpListIn F n P ops (fun e a' w'=>Q e a' w'∧(e=.normal→SameTmps l a a')) l a w
 |[],a,w,h=>⟨h,fun _=>⟨rfl,fun _ _=>rfl⟩⟩
 |o :: l,a,w,h=>by
  have put:∀ (b:Act) (v:Value) (w':World),b.tmps=a.tmps→wpListIn F n P ops Q l (b.put o.dst v) w' →
    wpListIn F n P ops (fun e a' w'=>Q e a' w'∧(e=.normal→SameTmps (o :: l) a a')) l (b.put o.dst v) w':=fun b v w' hb h=>by
   refine wpListIn_monoQ (fun e a' w' hq=>⟨hq.1,fun he=>?_⟩) (wpListIn_dst h)
   obtain ⟨g1,g2⟩:=hq.2 he
   have hs:(b.put o.dst v).tmps.size=a.tmps.size:=by
    unfold Act.put
    cases hd:o.dst with
    |none=>simp only;rw [hb]
    |some d=>simp only;rw [hb,Array.size_setIfInBounds]
   refine ⟨g1.trans hs,fun t ht=>?_⟩
   rw [g2 t fun q hq=>ht q (by simp [hq])]
   have hne:=ht o (by simp)
   unfold Act.put
   cases hd:o.dst with
   |none=>simp only;rw [hb]
   |some d =>
    simp only
    rw [hb,Array.getElem?_setIfInBounds_ne (fun e=>hne (by rw [hd,e]))]
  have fin:∀ {e:Exit} {a':Act} {w':World},e≠.normal→Q e a' w'→Q e a' w'∧(e=.normal→SameTmps (o :: l) a a'):=fun hne hq=>⟨hq,fun he=>absurd he hne⟩
  simp only [wpListIn] at h ⊢
  split at h
  ·rename_i hw
   rw [if_pos hw]
   obtain ⟨h1,h2⟩:=h
   refine ⟨h1,?_⟩
   unfold Oper.uponIn at h2 ⊢
   split at h2
   ·exact put _ _ _ rfl h2
   ·exact put _ _ _ rfl h2
   ·exact put _ _ _ rfl h2
   ·refine ⟨h2.1,h2.2.mono fun e w' he=>?_⟩
    cases e with
    |returned v=>exact put _ _ _ rfl he
    |panicked chain=>exact fin (by simp) he
    |outgrown =>
     obtain ⟨a',w'',hq⟩:=he
     exact ⟨a',w'',fin (by simp) hq⟩
   ·exact ⟨h2.1,h2.2.mono fun v w' he=>put _ _ _ rfl he⟩
   ·refine ⟨h2.1,h2.2.mono fun e w' he=>?_⟩
    cases e with
    |returned v=>exact put _ _ _ rfl he
    |panicked chain=>exact fin (by simp) he
    |outgrown =>
     obtain ⟨a',w'',hq⟩:=he
     exact ⟨a',w'',fin (by simp) hq⟩
   ·exact fin (by simp) h2
   ·exact h2.elim
  ·rename_i hw
   rw [if_neg hw]
   exact ⟨h.1,put _ _ _ rfl h.2⟩
theorem scalar_prep {ok ok':Nat→Prop} {w w':World} {x:PV} {v:Value} (hs:x.scalar=true) (h:PRep ok w x v):PRep ok' w' x v:=by
 cases x with
 |int k n=>rw [h.int_inv];exact .int _ _
 |bool b=>cases h;exact .bool _
 |str s=>cases h;exact .str _
 |agg cs =>
  cases h with
  |agg _ arr h1 h2 h3 =>
   refine .agg cs arr h1 h2 fun j x v hx hv=>?_
   have hq:=List.all_eq_true.1 (show (cs.all fun c=>match c with
    |.int _ _|.bool _|.str _=>true
    |_=>false)=true from hs) x (List.mem_of_getElem? hx)
   have hr:=h3 j x v hx hv
   cases x with
   |int k n=>rw [hr.int_inv];exact .int _ _
   |bool b=>cases hr;exact .bool _
   |str s=>cases hr;exact .str _
   |_=>simp at hq
 |_=>simp [PV.scalar] at hs
theorem cell_scalar {e x:PV} {j:Nat} (hs:e.scalar=true) (hj:e.cells[j]?=some x):x.scalar=true:=by
 cases e with
 |agg cs =>
  have hq:=List.all_eq_true.1 (show (cs.all fun c=>match c with
   |.int _ _|.bool _|.str _=>true
   |_=>false)=true from hs) x (List.mem_of_getElem? hj)
  cases x<;>first|rfl|(simp at hq)
 |_ =>
  first
  |(simp [PV.scalar] at hs;done)
  |(match j,hj with
    |0,hj=>cases hj;rfl
    |j+1,hj=>simp [PV.cells] at hj)
theorem flat_row {T T':Tags} {w:World} {r:Root} {sz:Nat} {es:List PV} {v:Value} (hr:∀ b,T b=.row r→T' b=.row r) (hs:es.all PV.scalar=true) (h:RowRep T w r sz es v):RowRep T' w r sz es v:=by
 rcases h with h|⟨b,c,arr,E,h1,h2,h3,h4,h5,h6,h7,h8⟩
 ·exact .inl h
 ·refine .inr ⟨b,c,arr,E,h1,hr b h2,h3,h4,h5,h6,h7,fun i e j x hi hj=>?_⟩
  obtain ⟨u,k1,k2,k3⟩:=h8 i e j x hi hj
  exact ⟨u,k1,k2,scalar_prep (cell_scalar (List.all_eq_true.1 hs e (List.mem_of_getElem? hi)) hj) k3⟩
section
variable {P:Program} {F:Fence} {C:Ctx} {n L nb:Nat} {σ σ':Nat→Nat} {T T' T1 T2:Tags} {st st' st1 st2:St} {a a1:Act} {w w1 w2:World} {d:Nat} {ks:List Nat} {l:List VOp} {sz:Nat} {es:List PV}
 {rec:VCode→St→Option (Ex × St)} {env:Env} {opl:Array Oper}
theorem Grow.lendBack {st0:St} (h:Grow nb st1 st2) (hb:st0.lendBack d ks sz es st2=some st'):Grow nb st1 st':=by
 unfold St.lendBack at hb
 split at hb
 ·have hb:=Option.some.inj hb
  subst hb;exact h
 ·cases hb
def lent (T T2:Tags) (d:Nat):Tags:=fun b=>if T b=.row (.slot d) then .row (.slot d) else T2 b
theorem lend_sim (h0:Sim L σ T st a w) (hd:st.slots[d]?=some (.row sz es)) (h2:Sim L σ' T2 st2 a1 w2) (f1:∀ b,T b=.row (.slot d)→T1 b=.ro) (f2:∀ b,T b=.ro→T1 b=.ro) (f3:∀ b,T b=.other→T1 b=.other) (hc:Chg T1 T2 w w2)
  (hk:∀ t,t=d∨t∈ks→a1.tmps[t]?=a.tmps[t]?) (hl:st2.slots.length=st.slots.length) (hb:st.lendBack d ks sz es st2=some st') :
  Sim L σ' (lent T T2 d) st' a1 w2∧Chg T (lent T T2 d) w w2:=by
 unfold St.lendBack at hb
 split at hb
 case isFalse=>cases hb
 rename_i hfl
 have hb:=Option.some.inj hb
 subst hb
 have hT:∀ b,T b=.row (.slot d)→T2 b=.ro:=fun b e=>hc.ro b (f1 b e)
 have hl2:∀ b,T b≠.row (.slot d)→lent T T2 d b=T2 b:=fun b e=>if_neg e
 have hro:∀ b,T b=.ro→lent T T2 d b=.ro:=fun b e=>by rw [hl2 b (by rw [e];simp)];exact hc.ro b (f2 b e)
 have hsame:∀ b,b<w.heap.size→T b=.ro→w2.heap[b]?=w.heap[b]?:=fun b hb e=>hc.same b hb (.inl (f2 b e))
 have hkeep:∀ b,T b=.ro→b<w.heap.size→lent T T2 d b=.ro∧w2.heap[b]?=w.heap[b]?:=fun b e hb=>⟨hro b e,hsame b hb e⟩
 have hrow:∀ (r:Root),∀ b,T2 b=.row r→lent T T2 d b=.row r:=fun r b e=>by
  rw [hl2 b fun q=>by rw [hT b q] at e;cases e];exact e
 have hflat:∀ (t:Nat) (new:AV) (v:Value),ARep L σ' T2 st2 a1 w2 t new v→ARep L σ' (lent T T2 d) { st2 with slots:=st2.slots.mapIdx (lendAt d ks sz es st) } a1 w2 t new.flat v:=fun t new v h=>by
  cases new with
  |pv x =>
   by_cases hs:x.scalar=true
   ·rw [show (AV.pv x).flat=.pv x by simp [AV.flat,hs]]
    exact scalar_prep hs h
   ·rw [show (AV.pv x).flat=.any by simp [AV.flat,hs]]
    trivial
  |row s l =>
   by_cases hs:l.all PV.scalar=true
   ·rw [show (AV.row s l).flat=.row s l from if_pos hs]
    exact flat_row (hrow _) hs h
   ·rw [show (AV.row s l).flat=.any from if_neg hs]
    trivial
  |pbox o j=>exact h
  |_=>trivial
 refine ⟨⟨?_,fun t av v ht hv=>?_,fun o bx ho=>?_,fun b hb=>?_⟩,⟨hc.size,hc.os,hc.tape,hc.output,fun b hb e=>?_,hro,fun b hb e=>?_⟩⟩
 ·rw [h2.size,List.length_mapIdx]
 ·rw [List.getElem?_mapIdx] at ht
  cases hn:st2.slots[t]? with
  |none=>rw [hn] at ht;cases ht
  |some new =>
   rw [hn] at ht
   cases ht
   have hnew:=h2.slots t new v hn hv
   unfold lendAt
   by_cases c1:t=d
   ·rw [if_pos c1]
    subst c1
    have hv0:a.tmps[t]?=some v:=by rw [← hk t (.inl rfl)];exact hv
    have hr0:RowRep T w (.slot t) sz es v:=h0.slots t _ v hd hv0
    exact hr0.frame (fun b e hb=>⟨if_pos e,hc.same b hb (.inl (f1 b e))⟩) hkeep
   ·rw [if_neg c1]
    by_cases c2:ks.contains t=true
    ·rw [if_pos c2]
     have hmem:t∈ks:=by simpa using c2
     split
     ·rename_i x hx
      have hv0:a.tmps[t]?=some v:=by rw [← hk t (.inr hmem)];exact hv
      have hp:PRep (fun b=>T b=.ro) w x v:=h0.slots t _ v hx hv0
      exact hp.frame hkeep
     ·exact hflat t new v hnew
    ·rw [if_neg c2]
     exact hflat t new v hnew
 ·obtain ⟨arr,E,k1,k2,k3,k4,k5⟩:=h2.boxes o bx ho
  have hf:=List.all_eq_true.1 hfl bx (List.mem_of_getElem? ho)
  simp only [Bool.and_eq_true,Bool.not_eq_true'] at hf
  have hbx:T2 (σ' o)=.box o:=by rw [k3,hf.1];rfl
  have hne:T (σ' o)≠.row (.slot d):=fun q=>by rw [hT _ q] at hbx;cases hbx
  refine ⟨arr,E,k1,k2,by rw [hl2 _ hne,k3],k4,fun j bv u hj hu=>?_⟩
  obtain ⟨m1,m2⟩:=k5 j bv u hj hu
  have hfj:=List.all_eq_true.1 hf.2 bv (List.mem_of_getElem? hj)
  refine ⟨m1,?_⟩
  cases bv with
  |pv x=>exact scalar_prep hfj m2
  |row s l=>exact flat_row (hrow _) hfj m2
 ·rw [hl2 b fun q=>by
   have:=h0.fresh b (Nat.le_trans hc.size hb)
   rw [q] at this;cases this]
  exact h2.fresh b hb
 ·rcases e with e|e
  ·exact hsame b hb e
  ·exact hc.same b hb (.inr (f3 b e))
 ·rw [hl2 b (by rw [e];simp)]
  exact hc.other b hb (f3 b e)
def noDst (ops:Array Oper) (ts:List Nat):Bool:=ops.toList.all fun o=>match o.dst with
 |some t=>!ts.contains t
 |none=>true
theorem noDst_ne {ops:Array Oper} {ts:List Nat} (h:noDst ops ts=true) {t:Nat} (ht:t∈ts):∀ o∈ops.toList,o.dst≠some t:=fun o ho e=>by
 have:=List.all_eq_true.1 h o ho
 rw [e] at this
 simp [ht] at this
def lendJ (k0:Nat) (T0:Tags) (w0:World):Nat→Tags→World→Prop:=fun k T w=>k=k0∧Chg T0 T w0 w
theorem lend_wp {id:Nat} (hW:Wide F) (hC:C.Ok P L) (hcalls:CallsOk P rec env) (hs:Sim L σ T st a w) (hJ:C.J st.ys.length T w) (hd:st.slots[d]?=some (.row sz es)) (hstop:st.stop.isNone=true)
  (hm:mL P opl opl.toList l=true) (hn:noDst opl (d :: ks)=true) (hop:ops rec env l (st.freeze (.slot d))=some st2) (hb:st.lendBack d ks sz es st2=some st') :
  (Code.region id opl false).wpIn F n P (fun x a' w'=>x=.normal∧After C L st.boxes.length σ T w st' a.defers a' w') a w:=by
 have hrow:st.row (.slot d)=some (sz,es):=by unfold St.row;simp only [hd]
 have hfz:st.freeze (.slot d)=st.put d (.pv (.list sz es)):=by unfold St.freeze;rw [hrow]
 obtain ⟨T1,hs1,hst,-,hsrc,-⟩:=hs.freeze (.slot d)
 have f1:∀ b,T b=.row (.slot d)→T1 b=.ro:=hsrc sz es hrow
 have hstop':st.stop=none:=by simpa using hstop
 have hys:(st.freeze (.slot d)).ys=st.ys:=by rw [hfz];rfl
 have hbx:(st.freeze (.slot d)).boxes=st.boxes:=by rw [hfz];rfl
 have hC':Ctx.Ok ⟨st2.ys,none,lendJ st.ys.length T1 w⟩ P L:=⟨fun k T1 T2 w1 w2 hc h=>⟨h.1,h.2.trans hc⟩,fun k T1 w1 h=>by
  have hG:=hC.glob _ _ _ hJ
  exact hG.frame fun b e hb=>⟨h.2.ro b (hst.ro b e),h.2.same b hb (.inl (hst.ro b e))⟩,fun s k T w ps vs hq=>by cases hq⟩
 refine wpIn_region_list ?_
 refine wpListIn_monoQ ?_ (wpListIn_dst (ops_wp (C:=⟨st2.ys,none,lendJ st.ys.length T1 w⟩) (Q:=fun e a' w'=>e=.normal∧After ⟨st2.ys,none,lendJ st.ys.length T1 w⟩ L st.boxes.length σ T1 w st2 a.defers a' w') hW hC' hcalls (List.prefix_refl _) hs1 (by rw [hys];exact ⟨rfl,Chg.refl _ _⟩) (by rw [hfz];exact hstop') hm hop ?_))
 rotate_left
 ·intro a' w' hA
  rw [hbx] at hA
  exact ⟨rfl,hA⟩
 ·rintro e a' w' ⟨⟨rfl,σ',T2,ms,q1,q2,q3,q4,q5,q6⟩,q7⟩
  have q7:=q7 rfl
  have hsz:st2.slots.length=st.slots.length:=by rw [← q1.size,q7.1,hs.size]
  obtain ⟨r1,r2⟩:=lend_sim (ks:=ks) hs hd q1 f1 hst.ro hst.other q2.2 (fun t ht=>q7.2 t (noDst_ne hn (by rcases ht with rfl|ht<;>simp [*]))) hsz hb
  have hys':st'.ys=st2.ys:=by
   unfold St.lendBack at hb
   split at hb
   ·have hb:=Option.some.inj hb
    subst hb;rfl
   ·cases hb
  refine ⟨rfl,σ',_,ms,r1,?_,q3,r2.stays,q5,⟨fun r hr=>?_,q6.2⟩⟩
  ·rw [hys',q2.1]
   exact hC.keep _ _ _ _ _ r2 hJ
  ·obtain ⟨m1,m2,m3⟩:=q6.1 r hr
   refine ⟨m1,?_,m3⟩
   unfold lent
   rw [if_neg fun q=>by
    have:=hs.fresh r m1
    rw [q] at this;cases this]
   exact m2
end
end Go.Proofs.YtpcncggjmabnaaaGreatDoor

namespace Go.Proofs.YtpcncggjmabnaaaGreatDoor
open Go.RowKit
def mC (P:Program):Code→VCode→Bool
 |c,.clean _ _ v=>mC P c v
 |_,.drs _ _ _ []=>true
 |.skip,.skip=>true
 |.label _,.skip=>true
 |.region _ ops false,.ops l=>mL P ops ops.toList l
 |.region _ ops false,.lend d ks l=>mL P ops ops.toList l&&noDst ops (d :: ks)
 |.region _ ops true,.drw _ acts fin last l=>P.follows .mixedOrders&&noDefer ops&&drwOk ops acts fin last&&mDrw P ops fin last acts l
 |.region _ ops true,.drs _ _ vo alts=>P.follows .mixedOrders&&noDefer ops&&altsOk P ops vo alts
 |.seq a b,.seq c d=>mC P a c&&mC P b d
 |.cond x a b,.cond y c d=>mOpd x y&&mC P a c&&mC P b d
 |.block i a,.block j c=>i==j&&mC P a c
 |.loop a,.loop _ c=>mC P a c
 |.rangeFunc g ps asn bd,.rng g' ps' asn' bd'=>mOpd g g'&&ps.toList==ps'&&mC P asn asn'&&mC P bd bd'
 |.exit i,.exit j=>i==j
 |.ret,.ret=>true
 |.region _ ops false,.dem l d f args=>mL P ops ops.toList (l++[.call d f args])
 |_,_=>false
def toX:Ex→Exit
 |.normal=>.normal
 |.exit i=>.exit i
 |.ret=>.ret
 |.thr t n=>.panic [{ v:=.iface t (.int .i64 n),recovered:=false }]
def Post (C:Ctx) (L nb:Nat) (σ:Nat→Nat) (T:Tags) (w:World) (e:Ex) (st':St) (ds:List Deferred):Exit→Act→World→Prop:=fun x a' w'=>x=toX e∧After C L nb σ T w st' ds a' w'
def Ctx.Rec (C:Ctx) (F:Fence):Prop:=∀ l,F=Fence.wide.inRound l→∀ k T w,C.J k T w→∃ r,w.heap[l]?=some (.loop r)
theorem Ctx.rec_wide (C:Ctx):C.Rec Fence.wide:=fun l e=>by
 have:Fence.wide.round=(Fence.wide.inRound l).round:=by rw [← e]
 cases this
structure RecOk (P:Program) (rec:VCode→St→Option (Ex × St)):Prop where
 grow:∀ c vc st e st',mC P c vc=true→rec vc st=some (e,st')→Grow st.boxes.length st st'
 growR:∀ c keep nb vc st e st',mC P c vc=true→rec (.round keep nb vc) st=some (e,st')→Grow nb st st'
 wp:∀ {F:Fence} {L:Nat} {C:Ctx} {n:Nat},Wide F→C.Rec F→C.Ok P L→∀ c vc st e st',mC P c vc=true→rec vc st=some (e,st')→st.stop=C.stop→st'.ys <+: C.X→∀ σ T a w,Sim L σ T st a w→C.J st.ys.length T w→c.wpIn F n P (Post C L st.boxes.length σ T w e st' a.defers) a w
 wpR:∀ {F:Fence} {L:Nat} {C:Ctx} {n:Nat},Wide F→C.Rec F→C.Ok P L→∀ c keep nb vc st e st',mC P c vc=true→rec (.round keep nb vc) st=some (e,st')→st.stop=C.stop→st'.ys <+: C.X→∀ σ T a w,Sim L σ T st a w→C.J st.ys.length T w→wpLoop F n P c (Post C L nb σ T w e st' a.defers) a w
section
variable {P:Program} {F:Fence} {C:Ctx} {n L nb:Nat} {σ σ':Nat→Nat} {T T' T1 T2:Tags} {st st' st1:St} {a a1:Act} {w w1:World} {o:Oper} {vo:VOp} {y:Operand} {x:Opd} {d:Nat}
 {rec:VCode→St→Option (Ex × St)} {env:Env} {next:Act→World→Prop} {Q:Exit→Act→World→Prop} {opl:Array Oper} {ds:List Deferred} {e:Ex}
end
end Go.Proofs.YtpcncggjmabnaaaGreatDoor

namespace Go.Proofs.YtpcncggjmabnaaaGreatDoor
open Go.RowKit
def dum (K:Nat):Owner:=.row (.part (K+1) 0)
section
variable {P:Program} {F:Fence} {C:Ctx} {n L nb:Nat} {σ σ':Nat→Nat} {T T' T1 T2:Tags} {st st' st1:St} {a a1:Act} {w w' w1:World} {o:Oper} {vo:VOp} {y:Operand} {x:Opd} {d:Nat}
 {rec:VCode→St→Option (Ex × St)} {env:Env} {next:Act→World→Prop} {Q:Exit→Act→World→Prop} {opl:Array Oper} {ds:List Deferred} {e:Ex}
def undum (T:Tags) (K:Nat):Tags:=fun b=>if T b=dum K then .other else T b
theorem undum_dum {K b:Nat} (h:T b=dum K):undum T K b=.other:=if_pos h
theorem undum_not {K b:Nat} (h:T b≠dum K):undum T K b=T b:=if_neg h
def FRep (L nb:Nat) (σ:Nat→Nat) (T:Tags) (w:World):AV→Value→Prop
 |.pv x,v=>PRep (fun b=>T b=.ro) w x v
 |.pbox o j,v=>o<nb∧v=.pointer (some ⟨σ o,j,none⟩)
 |.fn f caps,v=>∃ arr:Array Value,v=.func (.func f) #[] arr∧arr.size=caps.length∧∀ (k:Nat) x u,caps[k]?=some x→arr[k]?=some u→CapRep nb σ T w x u
 |.yld,v=>v=.func (.yield L) #[] #[]
 |.any,_=>True
 |_,_=>False
def FSlots (L nb:Nat) (σ:Nat→Nat) (T:Tags) (w:World) (slots:List AV) (tmps:Array Value):Prop :=
 tmps.size=slots.length∧∀ (t:Nat) av v,slots[t]?=some av→tmps[t]?=some v→FRep L nb σ T w av v
theorem FRep.keep {av:AV} {v:Value} (h:FRep L nb σ T w av v) (hw:∀ b,T b=.ro→b<w.heap.size→T' b=.ro∧w'.heap[b]?=w.heap[b]?) (hσ:∀ o,o<nb→σ' o=σ o):FRep L nb σ' T' w' av v:=by
 cases av<;>simp only [FRep] at h ⊢
 case pv x=>exact PRep.frame hw h
 case pbox o j=>exact ⟨h.1,by rw [hσ o h.1];exact h.2⟩
 case fn f caps =>
  obtain ⟨arr,e1,e2,e3⟩:=h
  refine ⟨arr,e1,e2,fun k x u hx hu=>?_⟩
  have:=e3 k x u hx hu
  cases x<;>simp only [CapRep] at this ⊢
  case pv p=>exact PRep.frame hw this
  case pbox o j=>exact ⟨this.1,by rw [hσ o this.1];exact this.2⟩
 case yld=>exact h
theorem FSlots.keep {slots:List AV} {tmps:Array Value} (h:FSlots L nb σ T w slots tmps) (hw:∀ b,T b=.ro→b<w.heap.size→T' b=.ro∧w'.heap[b]?=w.heap[b]?) (hσ:∀ o,o<nb→σ' o=σ o):FSlots L nb σ' T' w' slots tmps :=
 ⟨h.1,fun t av v ht hv=>(h.2 t av v ht hv).keep hw hσ⟩
theorem FRep.arep {av:AV} {v:Value} {t:Nat} (h:FRep L nb σ T w av v) (hnb:nb≤st.boxes.length):ARep L σ T st a w t av v:=by
 cases av<;>simp only [FRep] at h<;>simp only [ARep]
 case pv x=>exact h
 case pbox o j=>exact ⟨by omega,h.2⟩
 case fn f caps =>
  obtain ⟨arr,e1,e2,e3⟩:=h
  refine ⟨arr,e1,e2,fun k x u hx hu=>?_⟩
  have:=e3 k x u hx hu
  cases x<;>simp only [CapRep] at this ⊢
  case pv p=>exact this
  case pbox o j=>exact ⟨by omega,this.2⟩
 case yld=>exact h
theorem FSlots.sim {slots:List AV} {boxes:List Box} {ys:List (List PV)} {stop:Option (Option Nat)} {tmps:Array Value} {dfs:List Deferred} (h:FSlots L nb σ T w slots tmps) (hnb:nb≤boxes.length) (hb:∀ (o:Nat) bx,boxes[o]?=some bx→BoxRep T w (σ o) o bx)
  (hf:∀ b,w.heap.size≤b→T b=.other):Sim L σ T ⟨slots,boxes,ys,stop⟩ { tmps:=tmps,defers:=dfs } w :=
 ⟨h.1,fun t av v ht hv=>(h.2 t av v ht hv).arep hnb,hb,hf⟩
theorem Sim.froze (h:Sim L σ T st a w):∃ T',FSlots L st.boxes.length σ T' w (st.slots.map AV.froze) a.tmps∧(∀ (o:Nat) bx,st.boxes[o]?=some bx→BoxRep T' w (σ o) o bx)∧Still T T':=by
 refine ⟨fun b=>match T b with|.row (.slot _)=>.ro|q=>q,⟨by simp [h.size],fun t av v ht hv=>?_⟩,fun o bx ho=>?_,⟨fun b e=>by simp [e],fun b e=>by simp [e]⟩⟩
 ·rw [List.getElem?_map] at ht
  cases e:st.slots[t]? with
  |none=>rw [e] at ht;cases ht
  |some av0 =>
   rw [e] at ht
   simp only [Option.map_some,Option.some.injEq] at ht
   subst ht
   have hA:=h.slots t av0 v e hv
   have hro:∀ b,T b=.ro→(match T b with|.row (.slot _)=>Owner.ro|q=>q)=.ro:=fun b e=>by simp [e]
   cases av0<;>simp only [AV.froze,FRep]<;>simp only [ARep] at hA
   case pv x=>exact PRep.frame (fun b e _=>⟨hro b e,rfl⟩) hA
   case row sz es=>exact RowRep.list (fun b e=>by simp [e]) (fun b e=>hro b e) hA
   case pbox o j=>exact hA
   case fn f caps =>
    obtain ⟨arr,e1,e2,e3⟩:=hA
    refine ⟨arr,e1,e2,fun k x u hx hu=>?_⟩
    have:=e3 k x u hx hu
    cases x<;>simp only [CapRep] at this ⊢
    case pv p=>exact PRep.frame (fun b e _=>⟨hro b e,rfl⟩) this
    case pbox o j=>exact this
   case yld=>exact hA
 ·have hb:=h.boxes o bx ho
  have hT:(match T (σ o) with|.row (.slot _)=>Owner.ro|q=>q)=T (σ o):=by
   obtain ⟨_,_,_,_,h3,_⟩:=hb
   rw [h3];cases hfz:bx.fz<;>simp
  exact hb.frame ⟨hT,rfl⟩ (fun j b e _=>⟨by simp [e],rfl⟩) (fun b e _=>⟨by simp [e],rfl⟩)
theorem FSlots.params:∀ {ps:List Nat} {x:List PV} {vs:List Value} {slots sl:List AV} {tmps:Array Value},setParams slots ps x=some sl→FSlots L nb σ T w slots tmps→vs.length=x.length→(∀ (i:Nat) p v,x[i]?=some p→vs[i]?=some v→PRep (fun b=>T b=.ro) w p v) →
  ps.length=vs.length∧FSlots L nb σ T w sl ((ps.zip vs).foldl (fun t (p,v)=>t.setIfInBounds p v) tmps)
 |[],[],vs,slots,sl,tmps,hs,h,hl,hr=>by
  simp only [setParams,Option.some.injEq] at hs
  subst hs
  have:vs=[]:=List.eq_nil_of_length_eq_zero (by simpa using hl)
  subst this
  exact ⟨rfl,h⟩
 |p :: ps,q :: x,v :: vs,slots,sl,tmps,hs,h,hl,hr=>by
  simp only [setParams] at hs
  have h1:FSlots L nb σ T w (slots.set p (.pv q)) (tmps.setIfInBounds p v):=by
   refine ⟨by simp [h.1],fun t av u ht hu=>?_⟩
   rw [List.getElem?_set] at ht
   rw [Array.getElem?_setIfInBounds] at hu
   by_cases e:p=t
   ·subst e
    simp only [if_true] at ht hu
    split at ht
    ·split at hu
     ·cases ht;cases hu
      exact hr 0 q v rfl rfl
     ·cases hu
    ·cases ht
   ·simp only [if_neg e] at ht hu
    exact h.2 t av u ht hu
  obtain ⟨k1,k2⟩:=FSlots.params (vs:=vs) hs h1 (by simpa using hl) (fun i p v hp hv=>hr (i+1) p v hp hv)
  exact ⟨by simp [k1],k2⟩
 |[],_ :: _,_,_,_,_,hs,_,_,_=>by simp [setParams] at hs
 |_ :: _,[],_,_,_,_,hs,_,_,_=>by simp [setParams] at hs
 |_ :: _,_ :: _,[],_,_,_,_,_,hl,_=>by simp at hl
theorem rounds_grow (hg:∀ c vc st e st',mC P c vc=true→rec vc st=some (e,st')→Grow st.boxes.length st st') {ca cb:Code} {slots:List AV} {ps:List Nat} {asn bd:VCode} (ha:mC P ca asn=true) (hb:mC P cb bd=true) :
  ∀ (xs:List (List PV)) (k:Nat) (s:St) r s',rounds rec slots ps asn bd nb k xs s=some (r,s')→nb≤s.boxes.length→Grow nb s s'
 |[],k,s,r,s',h,hn=>by
  simp only [rounds,Option.some.injEq,Prod.mk.injEq] at h
  rw [← h.2];exact ⟨hn,List.prefix_refl _,rfl⟩
 |x :: xs,k,s,r,s',h,hn=>by
  unfold rounds at h
  replace h:=bind_some h
  obtain ⟨sl,h1,h⟩:=h
  replace h:=bind_some h
  obtain ⟨⟨e1,s1⟩,h2,h⟩:=h
  have g1:=hg _ _ _ _ _ ha h2
  simp only at h
  split at h
  case h_2=>cases h
  replace h:=bind_some h
  obtain ⟨⟨e2,s2⟩,h3,h⟩:=h
  have g2:=hg _ _ _ _ _ hb h3
  have g1':Grow nb s s1:=⟨Nat.le_trans hn g1.1,g1.2.1,g1.2.2⟩
  have g2':Grow nb s1 s2:=g2.mono g1'.1
  simp only at h
  split at h
  ·split at h
   case isFalse=>cases h
   rename_i hle
   have g3:=rounds_grow hg ha hb xs (k+1) _ r s' h (by simp;omega)
   exact (g1'.trans g2').trans ⟨g3.1,g3.2.1,g3.2.2⟩
  ·cases h
  ·simp only [Option.some.injEq,Prod.mk.injEq] at h
   rw [← h.2];exact g1'.trans g2'
end
end Go.Proofs.YtpcncggjmabnaaaGreatDoor

namespace Go.Proofs.YtpcncggjmabnaaaGreatDoor
open Go.RowKit
theorem prep_avoid' {ok good:Nat→Prop} {w:World} (hg:∀ b,Cellish w b→good b) {x:PV} {v:Value} (h:PRep ok w x v):PRep (fun b=>ok b∧good b) w x v:=by
 induction h with
 |int k n=>exact .int k n
 |bool b=>exact .bool b
 |str s=>exact .str s
 |nilf=>exact .nilf
 |void v h=>exact .void v h
 |nil sz a=>exact .nil sz a
 |nils sz a=>exact .nils sz a
 |list sz es b off c cv h1 h2 h3 h4 h6 h7 h8 ih=>exact .list sz es b off c cv ⟨h1,hg b h2⟩ h2 h3 h4 h6 h7 ih
 |agg cs arr h1 h2 h3 ih=>exact .agg cs arr h1 h2 ih
 |func f caps arr h1 h2 ih=>exact .func f caps arr h1 ih
 |iptr cs j b off cv h1 h2 h3 h4 ih=>exact .iptr cs j b off cv ⟨h1,hg b h2⟩ h2 h3 ih
def Compat (T Tc:Tags) (K B0:Nat) (w:World):Prop:=∀ b,b<w.heap.size→T b≠.other→Tc b=dum K∨(T b=.ro∧Tc b=.ro∧(b<B0∨Cellish w b))
theorem dum_ro (K:Nat):dum K≠.ro:=by simp [dum]
theorem dum_other (K:Nat):dum K≠.other:=by simp [dum]
structure Rg where
 L:Nat
 nb:Nat
 K:Nat
 σ0:Nat→Nat
 T1:Tags
 w0:World
 slots:List AV
 tmps:Array Value
 l:Nat
 D:List Nat
 B0:Nat
structure CSx (C:Ctx) (R:Rg) (lp:Loop) (s:St) (T:Tags) (w:World) (σ:Nat→Nat) (Tc:Tags):Prop where
 fs:FSlots R.L R.nb σ Tc w R.slots R.tmps
 bx:∀ (o:Nat) b,s.boxes[o]?=some b→BoxRep Tc w (σ o) o b
 fr:∀ b,w.heap.size≤b→Tc b=.other
 j:C.J s.ys.length Tc w
 nbx:R.nb≤s.boxes.length
 stp:s.stop=C.stop
 sg:∀ o,o<R.nb→σ o=R.σ0 o
 sy:Stays R.T1 Tc R.w0 w
 cp:Compat T Tc R.K R.B0 w
 rl:w.heap[R.l]?=some (.loop lp)
 rt:Tc R.l=dum R.K
 ro:T R.l=.other
 dd:∀ d∈R.D,w.heap[d]?=some (.deferred (some []))∧Tc d=.ro∧T d=.other
def CS (C:Ctx) (R:Rg) (lp:Loop) (s:St) (T:Tags) (w:World):Prop:=∃ σ Tc,CSx C R lp s T w σ Tc
section
variable {P:Program} {F:Fence} {C:Ctx} {n L nb:Nat} {σ σ':Nat→Nat} {T T' Tc T1 T2:Tags} {st st' st1 s:St} {a a1:Act} {w w' w1:World} {R:Rg} {lp:Loop}
 {rec:VCode→St→Option (Ex × St)} {env:Env}
theorem lt_of_heap {o:Obj} {b:Nat} (h:w.heap[b]?=some o):b<w.heap.size:=(Array.getElem?_eq_some_iff.1 h).1
theorem CS.take (h:CS C R lp s T w):CS C R lp { s with boxes:=s.boxes.take R.nb } T w:=by
 obtain ⟨σ,Tc,h⟩:=h
 refine ⟨σ,Tc,{ h with bx:=fun o b ho=>?_,nbx:=?_ }⟩
 ·simp only [List.getElem?_take] at ho
  split at ho
  ·exact h.bx o b ho
  ·cases ho
 ·have:=h.nbx;simp;omega
theorem CS.keep (hC:C.Ok P L) (h:CS C R lp s T w) (hc:Chg T T' w w'):CS C R lp s T' w':=by
 classical
 obtain ⟨σ,Tc,h⟩:=h
 have hsame:∀ b,b<w.heap.size→Tc b≠dum R.K→w'.heap[b]?=w.heap[b]?:=fun b hb hd=>by
  by_cases e:T b=.other
  ·exact hc.same b hb (.inr e)
  ·rcases h.cp b hb e with g|⟨g,_⟩
   ·exact absurd g hd
   ·exact hc.same b hb (.inl g)
 obtain ⟨Tn,hTn⟩:∃ Tn:Tags,Tn=fun b=>if b<w.heap.size then Tc b else if b<w'.heap.size∧T' b≠.other then dum R.K else .other:=⟨_,rfl⟩
 have hlt:∀ b,b<w.heap.size→Tn b=Tc b:=fun b hb=>by rw [hTn];exact if_pos hb
 have hl:=lt_of_heap h.rl
 have hro:∀ b,Tc b=.ro→b<w.heap.size:=fun b e=>by
  rcases Nat.lt_or_ge b w.heap.size with g|g
  ·exact g
  ·rw [h.fr b g] at e;cases e
 have hw:∀ b,Tc b=.ro→b<w.heap.size→Tn b=.ro∧w'.heap[b]?=w.heap[b]?:=fun b e hb=>⟨by rw [hlt b hb,e],hsame b hb (by rw [e];exact (dum_ro _).symm)⟩
 refine ⟨σ,Tn,⟨h.fs.keep hw fun _ _=>rfl,fun o b ho=>?_,fun b hb=>?_,?_,h.nbx,h.stp,h.sg,h.sy.trans ⟨hc.size,fun b e=>(hw b e (hro b e)).1,fun b hb e=>hsame b hb (by rw [e];exact (dum_ro _).symm)⟩,fun b hb ht=>?_,?_,?_,?_,fun d hd=>?_⟩⟩
 ·have hb:=h.bx o b ho
  have hbl:=hb.lt
  have hT:Tc (σ o)≠dum R.K:=by
   obtain ⟨_,_,_,_,h3,_⟩:=hb
   rw [h3];split<;>simp [dum]
  exact hb.frame ⟨hlt _ hbl,hsame _ hbl hT⟩ (fun j b e hb=>⟨by rw [hlt b hb,e],hsame b hb (by rw [e];simp [dum])⟩) hw
 ·have:¬ b<w.heap.size:=by have:=hc.size;omega
  rw [hTn]
  simp only [if_neg this,if_neg (show ¬ (b<w'.heap.size∧T' b≠.other) by omega)]
 ·refine hC.keep _ _ _ _ _ ⟨hc.size,hc.os,hc.tape,hc.output,fun b hb ht=>?_,fun b e=>(hw b e (hro b e)).1,fun b hb e=>by rw [hlt b hb,e]⟩ h.j
  refine hsame b hb ?_
  rcases ht with e|e<;>rw [e]<;>simp [dum]
 ·by_cases hbl:b<w.heap.size
  ·have ht0:T b≠.other:=fun e=>ht (hc.other b hbl e)
   rw [hlt b hbl]
   rcases h.cp b hbl ht0 with g|⟨g1,g2,g3⟩
   ·exact .inl g
   ·refine .inr ⟨hc.ro b g1,g2,g3.imp id fun hcl=>hcl.same (hc.same b hbl (.inl g1))⟩
  ·left
   rw [hTn]
   simp only [if_neg hbl,if_pos (show b<w'.heap.size∧T' b≠.other from ⟨hb,ht⟩)]
 ·rw [hc.same _ hl (.inr h.ro)];exact h.rl
 ·rw [hlt _ hl];exact h.rt
 ·exact hc.other _ hl h.ro
 ·obtain ⟨g1,g2,g3⟩:=h.dd d hd
  have hdl:=lt_of_heap g1
  exact ⟨by rw [hc.same _ hdl (.inr g3)];exact g1,by rw [hlt _ hdl];exact g2,hc.other _ hdl g3⟩
def inS (C:Ctx) (K l:Nat) (S:Nat→Prop) (w:World) (lp:Loop) [DecidablePred S]:Ctx where
 X:=C.X
 stop:=C.stop
 J k T u:=(∀ b,S b→T b=.other)∧(∀ b,S b→b≠l→u.heap[b]?=w.heap[b]?)∧u.heap[l]?=some (.loop lp)∧w.heap.size≤u.heap.size∧C.J k (fun b=>if S b then dum K else T b) u
theorem inS_ok (hC:C.Ok P L) {K l:Nat} {S:Nat→Prop} [DecidablePred S] (hS:∀ b,S b→b<w.heap.size) (hl:S l):(inS C K l S w lp).Ok P L:=by
 refine ⟨fun k T T' u u' hc ⟨h1,h2,h3,h4,h5⟩=>⟨fun b hb=>?_,fun b hb hbl=>?_,?_,Nat.le_trans h4 hc.size,?_⟩,fun k T u ⟨h1,h2,h3,h4,h5⟩=>(hC.glob _ _ _ h5).frame fun b e _=>⟨?_,rfl⟩,fun s k T u ps vs hs hx hf ⟨h1,h2,h3,h4,h5⟩ hlen hr=>?_⟩
 ·exact hc.other b (by have:=hS b hb;omega) (h1 b hb)
 ·exact (hc.same b (by have:=hS b hb;omega) (.inr (h1 b hb))).trans (h2 b hb hbl)
 ·exact (hc.same l (by have:=hS l hl;omega) (.inr (h1 l hl))).trans h3
 ·refine hC.keep _ _ _ _ _ ⟨hc.size,hc.os,hc.tape,hc.output,fun b hb ht=>?_,fun b e=>?_,fun b hb e=>?_⟩ h5
  ·by_cases hs:S b
   ·simp only [if_pos hs] at ht;rcases ht with e|e<;>simp [dum] at e
   ·simp only [if_neg hs] at ht;exact hc.same b hb ht
  ·by_cases hs:S b
   ·simp only [if_pos hs] at e;simp [dum] at e
   ·simp only [if_neg hs] at e ⊢;exact hc.ro b e
  ·by_cases hs:S b
   ·simp only [if_pos hs] at e;simp [dum] at e
   ·simp only [if_neg hs] at e ⊢;exact hc.other b hb e
 ·by_cases hs:S b
  ·simp only [if_pos hs] at e;simp [dum] at e
  ·simp only [if_neg hs] at e;exact e
 ·have hns:∀ b,T b≠.other→¬ S b:=fun b hb hs=>hb (h1 b hs)
  obtain ⟨f,tm,asn,bd,k1,k2⟩:=hC.yld s k (fun b=>if S b then dum K else T b) u ps vs hs hx (fun b hb=>by
   have:¬ S b:=fun hs=>by have:=hS b hs;omega
   simp only [if_neg this];exact hf b hb) h5 hlen (fun i p v hp hv=>(hr i p v hp hv).frame fun b hb _=>⟨by simp only [if_neg (hns b (by rw [hb];simp))];exact hb,rfl⟩)
  refine ⟨f,tm,asn,bd,k1,fun n=>?_⟩
  refine (k2 n).mono fun e w3 hq=>?_
  obtain ⟨g1,g2,g3⟩:=hq
  have hse:∀ b,(if S b then dum K else T b)≠.other→b<u.heap.size→w3.heap[b]?=u.heap[b]?:=g3.2
  refine ⟨g1,⟨h1,fun b hb hbl=>?_,?_,Nat.le_trans h4 g3.1,g2⟩,g3.1,fun b hb hbl=>hse b (by rw [if_neg (hns b hb)];exact hb) hbl⟩
  ·exact (hse b (by rw [if_pos hb];simp [dum]) (by have:=hS b hb;omega)).trans (h2 b hb hbl)
  ·exact (hse l (by rw [if_pos hl];simp [dum]) (by have:=hS l hl;omega)).trans h3
end
end Go.Proofs.YtpcncggjmabnaaaGreatDoor

namespace Go.Proofs.YtpcncggjmabnaaaGreatDoor
open Go.RowKit
section
variable {P:Program} {F:Fence} {C:Ctx} {n L nb:Nat} {σ σ':Nat→Nat} {T T' Tc T1 T2:Tags} {st st' st1 s:St} {a a1:Act} {w w' w1:World} {R:Rg} {lp:Loop}
 {rec:VCode→St→Option (Ex × St)} {env:Env}
def jumpOf:Ex→Option Code
 |.normal=>none
 |.ret=>some .ret
 |.exit i=>some (.exit i)
 |.thr _ _=>none
theorem ctx_rec (C:Ctx) (K l:Nat) (S:Nat→Prop) (w:World) (lp:Loop) [DecidablePred S]:(inS C K l S w lp).Rec (Fence.wide.inRound l):=fun l' e k T u h=>by
 have:(Fence.wide.inRound l).round=(Fence.wide.inRound l').round:=by rw [← e]
 have:l=l':=Option.some.inj this
 subst this
 exact ⟨lp,h.2.2.1⟩
set_option maxHeartbeats 1000000 in
theorem cs_round (hR:RecOk P rec) (hC:C.Ok P R.L) {ca cb:Code} {asn bd:VCode} (ha:mC P ca asn=true) (hb:mC P cb bd=true) {fn:FuncId} {ps:Array Tmp} {dd:Nat} {rc:LoopState→Option Code→Loop}
  (hrc:rc=fun st pe=>{ state:=st,pending:=pe,fn:=fn,tmps:=R.tmps,params:=ps,assign:=ca,body:=cb,defers:=dd })
  (hcs:CS C R (rc .ready none) s T w) (hT:∀ b,w.heap.size≤b→T b=.other) (hD:R.l ∉ R.D) {x:List PV} {vs:List Value} (hvs:vs.length=x.length) (hrep:∀ (i:Nat) p v,x[i]?=some p→vs[i]?=some v→PRep (fun b=>T b=.ro) w p v)
  {sl:List AV} {sa sb:St} {e:Ex} (h1:setParams R.slots ps.toList x=some sl) (h2:rec asn { s with slots:=sl }=some (.normal,sa)) (h3:rec bd sa=some (e,sb)) (hX:sb.ys <+: C.X) (he:∀ t n,e≠.thr t n) :
  ∃ f tmps' asn' bd',(Instr.yield R.l vs.toArray).run P w=.ok (.round R.l f tmps' asn' bd') w∧∀ n,RoundIn Fence.wide n P R.l f tmps' asn' bd' w fun en w'=>en=.returned (.bool (jumpOf e).isNone) ∧
   CS C R (rc (if (jumpOf e).isNone then .ready else .done) (jumpOf e)) sb T w'∧Sees T w w':=by
 classical
 obtain ⟨σ1,Tc,h⟩:=hcs
 have hll:=lt_of_heap h.rl
 obtain ⟨Ty,hTy⟩:∃ Ty:Tags,Ty=fun b=>if Tc b=dum R.K∧T b=.ro∧Cellish w b then .ro else Tc b:=⟨_,rfl⟩
 have ty1:∀ b,Tc b=dum R.K∧T b=.ro∧Cellish w b→Ty b=.ro:=fun b hb=>by rw [hTy];exact if_pos hb
 have ty2:∀ b,¬ (Tc b=dum R.K∧T b=.ro∧Cellish w b)→Ty b=Tc b:=fun b hb=>by rw [hTy];exact if_neg hb
 have ty3:∀ b,Tc b≠dum R.K→Ty b=Tc b:=fun b hb=>ty2 b fun g=>hb g.1
 obtain ⟨Sx,hSx⟩:∃ Sx:Nat→Prop,Sx=fun b=>b<w.heap.size∧Ty b=dum R.K:=⟨_,rfl⟩
 have hSl:∀ b,Sx b→b<w.heap.size:=fun b hb=>by rw [hSx] at hb;exact hb.1
 have hSd:∀ b,Sx b→Ty b=dum R.K:=fun b hb=>by rw [hSx] at hb;exact hb.2
 have hTyl:Ty R.l=dum R.K:=by rw [ty2 _ fun g=>(by have:=g.2.1;rw [h.ro] at this;cases this)];exact h.rt
 have hlS:Sx R.l:=by rw [hSx];exact ⟨hll,hTyl⟩
 have hTyfr:∀ b,w.heap.size≤b→Ty b=.other:=fun b hb=>by rw [ty3 b (by rw [h.fr b hb];exact (dum_other _).symm),h.fr b hb]
 obtain ⟨Tz,hTz⟩:∃ Tz:Tags,Tz=undum Ty R.K:=⟨_,rfl⟩
 have tz1:∀ b,Sx b→Tz b=.other:=fun b hb=>by rw [hTz];exact undum_dum (hSd b hb)
 have tz2:∀ b,Ty b≠dum R.K→Tz b=Ty b:=fun b hb=>by rw [hTz];exact undum_not hb
 have hre:(fun b=>if Sx b then dum R.K else Tz b)=Ty:=by
  funext b
  by_cases hb:Sx b
  ·simp only [if_pos hb];exact (hSd b hb).symm
  ·simp only [if_neg hb]
   refine tz2 b fun e=>hb ?_
   rw [hSx]
   refine ⟨?_,e⟩
   rcases Nat.lt_or_ge b w.heap.size with g|g
   ·exact g
   ·rw [hTyfr b g] at e;exact absurd e.symm (dum_other _)
 have tc_tz:∀ b,Tc b≠dum R.K→Tz b=Tc b:=fun b hb=>by rw [tz2 b (by rw [ty3 b hb];exact hb),ty3 b hb]
 have hro:∀ b,Tc b=.ro→b<w.heap.size→Tz b=.ro∧w.heap[b]?=w.heap[b]?:=fun b e _=>⟨by rw [tc_tz b (by rw [e];exact (dum_ro _).symm),e],rfl⟩
 -- the round's own state
 have hJy:C.J s.ys.length Ty w:=hC.keep _ _ _ _ _ ⟨Nat.le_refl _,rfl,rfl,rfl,fun _ _ _=>rfl,fun b e=>by rw [ty3 b (by rw [e];exact (dum_ro _).symm),e],fun b _ e=>by rw [ty3 b (by rw [e];exact (dum_other _).symm),e]⟩ h.j
 have hbz:∀ (o:Nat) b,s.boxes[o]?=some b→BoxRep Tz w (σ1 o) o b:=fun o b ho=>by
  have hb:=h.bx o b ho
  have hT0:Tc (σ1 o)≠dum R.K:=by
   obtain ⟨_,_,_,_,h3,_⟩:=hb
   rw [h3];split<;>simp [dum]
  exact hb.frame ⟨tc_tz _ hT0,rfl⟩ (fun j b e _=>⟨by rw [tc_tz b (by rw [e];simp [dum]),e],rfl⟩) hro
 have hfz:∀ b,w.heap.size≤b→Tz b=.other:=fun b hb=>by rw [tz2 b (by rw [hTyfr b hb];exact (dum_other _).symm),hTyfr b hb]
 obtain ⟨hpl,hfs⟩:=FSlots.params (T:=Tz) (w:=w) h1 (h.fs.keep hro fun _ _=>rfl) hvs (fun i p v hp hv=>(prep_avoid' (fun b hcl=>hcl) (hrep i p v hp hv)).frame fun b ⟨hb,hcl⟩ hbl=>⟨by
  rcases h.cp b hbl (by rw [hb];simp) with g|⟨_,g,_⟩
  ·rw [tz2 b (by rw [ty1 b ⟨g,hb,hcl⟩];exact (dum_ro _).symm),ty1 b ⟨g,hb,hcl⟩]
  ·exact (hro b g hbl).1,rfl⟩)
 have hsim:Sim R.L σ1 Tz { s with slots:=sl } { tmps:=(ps.toList.zip vs).foldl (fun t (p,v)=>t.setIfInBounds p v) R.tmps,defers:=[] } w:=hfs.sim h.nbx hbz hfz
 have hOk:∀ lp,(inS C R.K R.l Sx w lp).Ok P R.L:=fun lp=>inS_ok hC hSl hlS
 have hJ0:(inS C R.K R.l Sx w (rc .ready none)).J s.ys.length Tz w:=⟨tz1,fun _ _ _=>rfl,h.rl,Nat.le_refl _,by rw [hre];exact hJy⟩
 have ga:=hR.grow _ _ _ _ _ ha h2
 have gb:=hR.grow _ _ _ _ _ hb h3
 have hy:=run_yield (P:=P) (args:=vs.toArray) h.rl (by rw [hrc];simp only [List.size_toArray];rw [← hpl];simp)
 refine ⟨fn,_,ca,cb,by rw [hrc] at hy;exact hy,fun n=>roundIn_of_wpIn (show Fence.wide.fn fn from trivial) ?_⟩
 have hfold:(ps.zip vs.toArray).foldl (fun t (p,v)=>t.setIfInBounds p v) R.tmps=(ps.toList.zip vs).foldl (fun t (p,v)=>t.setIfInBounds p v) R.tmps:=by
  rw [← Array.foldl_toList];simp
 have hfold':((ps.zip vs.toArray).foldl (fun tmps (x:Tmp × Value)=>match x with|(t,a)=>tmps.setIfInBounds t a) R.tmps)=(ps.toList.zip vs).foldl (fun t (p,v)=>t.setIfInBounds p v) R.tmps:=hfold
 rw [hfold']
 refine wpIn_mono (hR.wp (.inr ⟨R.l,rfl⟩) (ctx_rec C R.K R.l Sx w (rc .ready none)) (hOk _) ca asn _ .normal sa ha h2 h.stp (gb.2.1.trans hX) σ1 Tz _ w hsim hJ0) ?_
 rintro xx aa wa ⟨rfl,σa,Ta,msa,p1,p2,p3,p4,_,_⟩
 obtain ⟨q1,q2,q3,q4,q5⟩:=p2
 have hla:=lt_of_heap q3
 refine ⟨wa.putObj R.l (.loop (rc .busy none)),by have:=run_beginRound (P:=P) q3 (by rw [hrc]);rw [hrc] at this ⊢;exact this,?_⟩
 have hpo:∀ b,b≠R.l→(wa.putObj R.l (.loop (rc .busy none))).heap[b]?=wa.heap[b]?:=fun b hb=>World.putObj_heap_other hb
 have hps:(wa.putObj R.l (.loop (rc .busy none))).heap.size=wa.heap.size:=by simp [World.putObj]
 have hsa:Sim R.L σa Ta sa aa (wa.putObj R.l (.loop (rc .busy none))):=p1.sees ⟨by rw [hps];exact Nat.le_refl _,fun b hb _=>hpo b fun e=>hb (by rw [e];exact q1 _ hlS)⟩
 have hJa:(inS C R.K R.l Sx w (rc .busy none)).J sa.ys.length Ta (wa.putObj R.l (.loop (rc .busy none))):=by
  refine ⟨q1,fun b hb hbl=>(hpo b hbl).trans (q2 b hb hbl),World.putObj_heap_same hla,by rw [hps];exact q4,?_⟩
  refine hC.keep _ _ _ wa _ ⟨by rw [hps];exact Nat.le_refl _,rfl,rfl,rfl,fun b hb ht=>hpo b fun e=>?_,fun _ e=>e,fun _ _ e=>e⟩ q5
  subst e
  simp only [if_pos hlS] at ht
  rcases ht with e|e<;>simp [dum] at e
 refine wpIn_mono (hR.wp (.inr ⟨R.l,rfl⟩) (ctx_rec C R.K R.l Sx w (rc .busy none)) (hOk _) cb bd _ e sb hb h3 (ga.2.2.trans h.stp) hX σa Ta _ _ hsa hJa) ?_
 rintro xx ab wb ⟨rfl,σb,Tb,msb,r1,r2,r3,r4,_,_⟩
 obtain ⟨t1,t2,t3,t4,t5⟩:=r2
 have hlb:=lt_of_heap t3
 have hend:∀ j:Option Code,(Instr.endRound R.l j).run P wb=.ok (.bool j.isNone) (wb.putObj R.l (.loop (rc (if j.isNone then .ready else .done) j))):=fun j=>by
  have:=run_endRound (P:=P) j t3
  rw [hrc] at this ⊢
  exact this
 obtain ⟨w3,hw3⟩:∃ w3,w3=wb.putObj R.l (.loop (rc (if (jumpOf e).isNone then .ready else .done) (jumpOf e))):=⟨_,rfl⟩
 have hpb:∀ b,b≠R.l→w3.heap[b]?=wb.heap[b]?:=fun b hb=>by rw [hw3];exact World.putObj_heap_other hb
 have hszb:w3.heap.size=wb.heap.size:=by rw [hw3];simp [World.putObj]
 have hsz:w.heap.size≤w3.heap.size:=by rw [hszb];exact t4
 -- what is read only stays
 have stay:∀ b,Tz b=.ro→b<w.heap.size→Tb b=.ro∧w3.heap[b]?=w.heap[b]?:=fun b hz hbl=>by
  have hbS:¬ Sx b:=fun hs=>by rw [tz1 b hs] at hz;cases hz
  have hbl':b≠R.l:=fun e=>hbS (by rw [e];exact hlS)
  have e1:=p4.ro b hz
  have e2:=r4.ro b e1
  refine ⟨e2,?_⟩
  rw [hpb b hbl',r4.same b (by rw [hps];exact Nat.lt_of_lt_of_le hbl p4.size) e1,hpo b hbl',p4.same b hbl hz]
 have hnS:∀ b,Tb b≠.other→¬ Sx b:=fun b hb hs=>hb (t1 b hs)
 have hTn:∀ b,¬ Sx b→(if Sx b then dum R.K else Tb b)=Tb b:=fun b hb=>if_neg hb
 have hrofin:∀ b,Tc b=.ro→b<w.heap.size→(fun b=>if Sx b then dum R.K else Tb b) b=.ro∧w3.heap[b]?=w.heap[b]?:=fun b hb hbl=>by
  obtain ⟨e1,e2⟩:=stay b (hro b hb hbl).1 hbl
  exact ⟨by show (if Sx b then dum R.K else Tb b)=.ro;rw [hTn b (hnS b (by rw [e1];simp)),e1],e2⟩
 have hTcro:∀ b,Tc b=.ro→b<w.heap.size:=fun b hb=>by
  rcases Nat.lt_or_ge b w.heap.size with g|g
  ·exact g
  ·rw [h.fr b g] at hb;cases hb
 have hσ:∀ o,o<R.nb→σb o=σ1 o:=fun o ho=>by
  have k1:R.nb≤s.boxes.length:=h.nbx
  have k2:s.boxes.length≤sa.boxes.length:=ga.1
  rw [r3 o (by omega),p3 o (by show o<s.boxes.length;omega)]
 have hTbl:Tb R.l=.other:=t1 _ hlS
 have hfin:CS C R (rc (if (jumpOf e).isNone then .ready else .done) (jumpOf e)) sb T w3:=by
  refine ⟨σb,fun b=>if Sx b then dum R.K else Tb b,⟨h.fs.keep hrofin hσ,fun o b ho=>?_,fun b hb=>?_,?_,?_,?_,fun o ho=>(hσ o ho).trans (h.sg o ho),?_,fun b hb ht=>?_,?_,if_pos hlS,h.ro,fun d hd=>?_⟩⟩
  ·have hbx:=r1.boxes o b ho
   have hne:Tb (σb o)≠.other:=by
    obtain ⟨_,_,_,_,h3,_⟩:=hbx
    rw [h3];split<;>simp
   refine hbx.frame ⟨hTn _ (hnS _ hne),hpb _ fun e=>hne (by rw [e];exact hTbl)⟩ (fun j b e _=>⟨by rw [hTn b (hnS b (by rw [e];simp)),e],hpb b fun e2=>by rw [e2,hTbl] at e;cases e⟩) (fun b e _=>⟨by rw [hTn b (hnS b (by rw [e];simp)),e],hpb b fun e2=>by rw [e2,hTbl] at e;cases e⟩)
  ·have:¬ Sx b:=fun hs=>by have:=hSl b hs;omega
   rw [hTn b this]
   exact r1.fresh b (by omega)
  ·refine hC.keep _ _ _ wb _ ⟨by rw [hszb];exact Nat.le_refl _,by rw [hw3];rfl,by rw [hw3];rfl,by rw [hw3];rfl,fun b hb ht=>hpb b fun e=>?_,fun _ e=>e,fun _ _ e=>e⟩ t5
   subst e
   simp only [if_pos hlS] at ht
   rcases ht with e|e<;>simp [dum] at e
  ·have:=ga.1;have:=gb.1;have:=h.nbx
   have e1:s.boxes.length≤sa.boxes.length:=ga.1
   omega
  ·exact gb.2.2.trans (ga.2.2.trans h.stp)
  ·exact h.sy.trans ⟨hsz,fun b hb=>(hrofin b hb (hTcro b hb)).1,fun b hbl hb=>(hrofin b hb hbl).2⟩
  ·have hbl:b<w.heap.size:=by
    rcases Nat.lt_or_ge b w.heap.size with g|g
    ·exact g
    ·exact absurd (hT b g) ht
   have conv:Tz b=.ro→(fun b=>if Sx b then dum R.K else Tb b) b=.ro∧w3.heap[b]?=w.heap[b]?:=fun hz=>by
    obtain ⟨e1,e2⟩:=stay b hz hbl
    exact ⟨by show (if Sx b then dum R.K else Tb b)=.ro;rw [hTn b (hnS b (by rw [e1];simp)),e1],e2⟩
   rcases h.cp b hbl ht with g|⟨g1,g2,g3⟩
   ·by_cases hc:T b=.ro∧Cellish w b
    ·have ey:=ty1 b ⟨g,hc.1,hc.2⟩
     obtain ⟨e1,e2⟩:=conv (by rw [tz2 b (by rw [ey];exact (dum_ro _).symm),ey])
     exact .inr ⟨hc.1,e1,.inr (hc.2.same e2)⟩
    ·have ey:Ty b=dum R.K:=by rw [ty2 b fun q=>hc q.2];exact g
     exact .inl (if_pos (by rw [hSx];exact ⟨hbl,ey⟩))
   ·obtain ⟨e1,e2⟩:=conv (hro b g2 hbl).1
    exact .inr ⟨g1,e1,g3.imp id fun q=>q.same e2⟩
  ·rw [hw3];exact World.putObj_heap_same hlb
  ·obtain ⟨k1,k2,k3⟩:=h.dd d hd
   obtain ⟨e1,e2⟩:=hrofin d k2 (lt_of_heap k1)
   exact ⟨by rw [e2];exact k1,e1,k3⟩
 have hsees:Sees T w w3:=by
  refine ⟨hsz,fun b hb hbl=>?_⟩
  have hbl':b≠R.l:=fun e=>hb (by rw [e];exact h.ro)
  by_cases hs:Sx b
  ·rw [hpb b hbl'];exact t2 b hs hbl'
  ·refine (stay b ?_ hbl).2
   rcases h.cp b hbl hb with g|⟨g1,g2,g3⟩
   ·by_cases hc:T b=.ro∧Cellish w b
    ·have ey:=ty1 b ⟨g,hc.1,hc.2⟩
     rw [tz2 b (by rw [ey];exact (dum_ro _).symm),ey]
    ·exact absurd (by rw [hSx];exact ⟨hbl,by rw [ty2 b fun q=>hc q.2];exact g⟩) hs
   ·exact (hro b g2 hbl).1
 rw [hw3] at hfin hsees
 cases e with
 |normal=>exact ⟨_,_,hend none,rfl,hfin,hsees⟩
 |ret=>exact ⟨_,_,hend (some .ret),rfl,hfin,hsees⟩
 |exit i=>exact ⟨_,_,hend (some (.exit i)),rfl,hfin,hsees⟩
 |thr t n=>exact absurd rfl (he t n)
end
end Go.Proofs.YtpcncggjmabnaaaGreatDoor

namespace Go.Proofs.YtpcncggjmabnaaaGreatDoor
open Go.RowKit
section
variable {P:Program} {F:Fence} {C:Ctx} {n L nb:Nat} {σ σ':Nat→Nat} {T T' Tc T1 T2:Tags} {st st' st1 s:St} {a a1:Act} {w w' w1:World} {R:Rg} {lp:Loop}
 {rec:VCode→St→Option (Ex × St)} {env:Env} {e:Ex}
def ItersOk (P:Program) (env:Env):Prop:=∀ f fn,env f=some (.code fn)→callable P f=true∧∃ g c,P.funcs[f]?=some g∧g.body=some c∧mC P c fn.body=true∧g.ntmps=fn.ntmps∧fn.nargs≤fn.ntmps∧(fn.results.isEmpty=true→g.results=#[])
theorem leavesM_marks' {fn:Func} {R:Ending→World→Prop} {B:Nat}:∀ {ms:List Nat} {w:World},ms.Nodup→(∀ r∈ms,B≤r∧w.heap[r]?=some (.deferred (some []))) →
  (∀ w',w'.os=w.os→w'.tape=w.tape→w'.output=w.output→w'.heap.size=w.heap.size→(∀ b,b ∉ ms→w'.heap[b]?=w.heap[b]?)→∃ v,(results fn a.tmps).run P w'=.ok v w'∧R (.returned v) w') →
  LeavesInM Fence.wide 0 P fn a.tmps R (ms.map markOf) .returning w
 |[],w,_,_,h=>by
  simp only [List.map_nil,LeavesInM,LeavesIn]
  exact h w rfl rfl rfl rfl fun _ _=>rfl
 |r :: ms,w,hnd,hms,h=>by
  simp only [List.map_cons,LeavesInM]
  obtain ⟨hn1,hn2⟩:=List.nodup_cons.1 hnd
  obtain ⟨k1,k2⟩:=hms r (by simp)
  have hr:r<w.heap.size:=(Array.getElem?_eq_some_iff.1 k2).1
  have hput:∀ b,b≠r→(w.putObj r (.deferred none)).heap[b]?=w.heap[b]?:=fun b hb=>by simp [World.putObj,Array.getElem?_setIfInBounds,Ne.symm hb]
  refine ⟨by simp,.inl ⟨r,_,rfl,run_takeDeferred k2,leavesM_marks' (B:=B) hn2 (fun r' hr'=>?_) fun w' e1 e2 e3 e4 e5=>h w' e1 e2 e3 (by rw [e4];simp [World.putObj]) fun b hb=>?_⟩⟩
  ·obtain ⟨q1,q2⟩:=hms r' (by simp [hr'])
   exact ⟨q1,by rw [hput r' (fun e=>hn1 (e ▸ hr'))];exact q2⟩
  ·simp only [List.mem_cons,not_or] at hb
   rw [e5 b hb.2,hput b hb.1]
theorem rounds_ne {slots:List AV} {ps:List Nat} {asn bd:VCode}:∀ (xs:List (List PV)) (k:Nat) (s:St) e m s',rounds rec slots ps asn bd nb k xs s=some (some (e,m),s')→e≠.normal∧∀ t n,e≠.thr t n
 |[],k,s,e,m,s',h=>by simp [rounds] at h
 |x :: xs,k,s,e,m,s',h=>by
  unfold rounds at h
  replace h:=bind_some h
  obtain ⟨sl,h1,h⟩:=h
  replace h:=bind_some h
  obtain ⟨⟨e1,s1⟩,h2,h⟩:=h
  simp only at h
  split at h
  case h_2=>cases h
  replace h:=bind_some h
  obtain ⟨⟨e2,s2⟩,h3,h⟩:=h
  simp only at h
  split at h
  ·split at h
   ·exact rounds_ne xs (k+1) _ e m s' h
   ·cases h
  ·cases h
  ·rename_i hne hne2
   simp only [Option.some.injEq,Prod.mk.injEq] at h
   rw [← h.1.1]
   exact ⟨fun e=>hne e,fun t n e=>hne2 t n e⟩
def endEx:Option (Ex × Nat)→Ex
 |none=>.normal
 |some (e,_)=>e
def itC (C:Ctx) (R:Rg) (rec:VCode→St→Option (Ex × St)) (rc:LoopState→Option Code→Loop) (ps:List Nat) (asn bd:VCode) (xs:List (List PV)) (stop:Option Nat) (r:Option (Ex × Nat)) (s1:St):Ctx where
 X:=xs
 stop:=some stop
 J k T w:=GlobOk T w∧((∃ s,rounds rec R.slots ps asn bd R.nb k (xs.drop k) s=some (r,s1)∧CS C R (rc .ready none) s T w) ∨
  (∃ e,r=some (e,k)∧xs.length=k∧CS C R (rc .done (jumpOf e)) s1 T w))
theorem itC_ok (hR:RecOk P rec) (hC:C.Ok P R.L) {ca cb:Code} {asn bd:VCode} (ha:mC P ca asn=true) (hb:mC P cb bd=true) {fn:FuncId} {ps:Array Tmp} {dd:Nat} {rc:LoopState→Option Code→Loop}
  (hrc:rc=fun st pe=>{ state:=st,pending:=pe,fn:=fn,tmps:=R.tmps,params:=ps,assign:=ca,body:=cb,defers:=dd }) (hD:R.l ∉ R.D) {xs:List (List PV)} {stop:Option Nat} {r:Option (Ex × Nat)} {s1:St}
  (hcons:(stop=none∧r=none)∨∃ e m,stop=some m∧r=some (e,m)∧xs.length=m) (hX:s1.ys <+: C.X):(itC C R rec rc ps.toList asn bd xs stop r s1).Ok P R.l:=by
 refine ⟨fun k T T' w w' hc ⟨hG,h⟩=>⟨hG.frame fun b e hb=>⟨hc.ro b e,hc.same b hb (.inl e)⟩,?_⟩,fun k T w h=>h.1,fun q k T w x vs hs hx hf h hlen hrep=>?_⟩
 ·rcases h with ⟨s,h1,h2⟩|⟨e,h1,h2,h3⟩
  ·exact .inl ⟨s,h1,h2.keep hC hc⟩
  ·exact .inr ⟨e,h1,h2,h3.keep hC hc⟩
 ·have hq:q=stop:=(Option.some.inj hs).symm
  subst hq
  have hx':xs[k]?=some x:=hx
  have hk:k<xs.length:=(List.getElem?_eq_some_iff.1 hx').1
  obtain ⟨hG,h⟩:=h
  rcases h with ⟨s,h1,h2⟩|⟨e,h1,h2,h3⟩
  case inr=>omega
  have hdrop:xs.drop k=x :: xs.drop (k+1):=by
   rw [List.drop_eq_getElem_cons hk]
   congr 1
   rw [List.getElem?_eq_getElem hk] at hx'
   exact Option.some.inj hx'
  rw [hdrop] at h1
  unfold rounds at h1
  replace h1:=bind_some h1
  obtain ⟨sl,g1,h1⟩:=h1
  replace h1:=bind_some h1
  obtain ⟨⟨e1,sa⟩,g2,h1⟩:=h1
  simp only at h1
  split at h1
  case h_2=>cases h1
  replace h1:=bind_some h1
  obtain ⟨⟨e2,sb⟩,g3,h1⟩:=h1
  simp only at h1
  obtain ⟨σ0,Tc0,hcs0⟩:=h2
  have hnb:=hcs0.nbx
  have h2:CS C R (rc .ready none) s T w:=⟨σ0,Tc0,hcs0⟩
  have ga:=hR.grow _ _ _ _ _ ha g2
  have gb:=hR.grow _ _ _ _ _ hb g3
  split at h1
  ·-- it goes on
   split at h1
   case isFalse=>cases h1
   rename_i hle
   have hgr:=rounds_grow hR.grow ha hb (xs.drop (k+1)) (k+1) _ r s1 h1 (by simp;omega)
   obtain ⟨f,tm,asn',bd',q1,q2⟩:=cs_round hR hC ha hb hrc h2 hf hD hlen hrep g1 g2 g3 (hgr.2.1.trans hX) (fun _ _ e=>by cases e)
   refine ⟨f,tm,asn',bd',q1,fun n=>(q2 n).mono fun en w3 hq=>?_⟩
   obtain ⟨t1,t2,t3⟩:=hq
   have hgo:goesOn q k=true:=by
    rcases hcons with ⟨e1,_⟩|⟨e,m,e1,e2,e3⟩
    ·rw [e1];rfl
    ·rw [e1]
     have:k+1≠m:=fun he=>by
      have:xs.drop (k+1)=[]:=List.drop_of_length_le (by omega)
      rw [this] at h1
      simp only [rounds,Option.some.injEq,Prod.mk.injEq] at h1
      rw [e2] at h1
      cases h1.1
     simp [goesOn,this]
   refine ⟨by rw [t1,hgo];rfl,⟨hG.frame fun b e hb=>⟨e,t3.2 b (by rw [e];simp) hb⟩,.inl ⟨_,h1,t2.take⟩⟩,t3⟩
  ·cases h1
  ·rename_i hne hne2
   simp only [Option.some.injEq,Prod.mk.injEq] at h1
   obtain ⟨hr1,hr2⟩:=h1
   subst hr2
   obtain ⟨f,tm,asn',bd',q1,q2⟩:=cs_round hR hC ha hb hrc h2 hf hD hlen hrep g1 g2 g3 hX (fun t n e=>hne2 t n e)
   refine ⟨f,tm,asn',bd',q1,fun n=>(q2 n).mono fun en w3 hq=>?_⟩
   obtain ⟨t1,t2,t3⟩:=hq
   have hj:(jumpOf e2).isNone=false:=by cases e2<;>first|rfl|exact absurd rfl hne|exact absurd rfl (hne2 _ _)
   rcases hcons with ⟨_,e1⟩|⟨e,m,e1,e2',e3⟩
   ·rw [e1] at hr1;cases hr1
   ·have hm:m=k+1:=by rw [e2'] at hr1;cases hr1;rfl
    have hgo:goesOn q k=false:=by rw [e1,hm];simp [goesOn]
    rw [hj] at t1 t2
    refine ⟨by rw [t1,hgo],⟨hG.frame fun b e hb=>⟨e,t3.2 b (by rw [e];simp) hb⟩,.inr ⟨e2,hr1.symm,by omega,t2⟩⟩,t3⟩
theorem cs_end (hC:C.Ok P R.L) (h:CS C R lp s T w) {ms:List Nat} (hms:∀ r∈ms,R.B0≤r∧T r=.ro∧w.heap[r]?=some (.deferred (some []))) (hw:∀ b,b ∉ ms→w'.heap[b]?=w.heap[b]?) (hsz:w'.heap.size=w.heap.size) (hos:w'.os=w.os) (htp:w'.tape=w.tape) (hou:w'.output=w.output)
  (hlp:lp.state≠.busy) {T0:Tags} (hst:Still T0 R.T1) {ds:List Deferred} (hDl:∀ d∈R.D,R.w0.heap.size≤d) (hDn:R.D.Nodup) (hlD:R.l ∉ R.D) :
  ∃ w4,(Instr.endLoop R.l).run P w'=.ok lp.pending w4∧After C R.L R.nb R.σ0 T0 R.w0 { s with slots:=R.slots } ds { tmps:=R.tmps,defers:=R.D.map markOf++ds } w4:=by
 obtain ⟨σ,Tc,h⟩:=h
 have hncl:∀ r∈ms,Tc r=dum R.K:=fun r hr=>by
  obtain ⟨g1,g2,g3⟩:=hms r hr
  rcases h.cp r (lt_of_heap g3) (by rw [g2];simp) with g|⟨_,_,g⟩
  ·exact g
  ·rcases g with g|⟨arr,E,q,g⟩
   ·omega
   ·rw [g3] at g;cases g
 have hl:w'.heap[R.l]?=some (.loop lp):=by
  rw [hw R.l fun hr=>by have:=(hms _ hr).2.1;rw [h.ro] at this;cases this];exact h.rl
 refine ⟨_,run_endLoop (P:=P) hl hlp,?_⟩
 obtain ⟨w4,hw4⟩:∃ w4,w4=w'.putObj R.l (.loop { lp with state:=.exhausted }):=⟨_,rfl⟩
 rw [← hw4]
 have hsame:∀ b,Tc b≠dum R.K→w4.heap[b]?=w.heap[b]?:=fun b hb=>by
  rw [hw4,World.putObj_heap_other (fun e=>hb (by rw [e];exact h.rt)),hw b fun hr=>hb (hncl b hr)]
 have hsz4:w4.heap.size=w.heap.size:=by rw [hw4];simp [World.putObj,hsz]
 have hw1:∀ b,Tc b=.ro→b<w.heap.size→Tc b=.ro∧w4.heap[b]?=w.heap[b]?:=fun b e _=>⟨e,hsame b (by rw [e];exact (dum_ro _).symm)⟩
 refine ⟨σ,Tc,R.D,(h.fs.keep hw1 fun _ _=>rfl).sim h.nbx (fun o b ho=>?_) (fun b hb=>h.fr b (by omega)),?_,h.sg,?_,rfl,fun d hd=>⟨hDl d hd,(h.dd d hd).2.1,?_⟩,hDn⟩
 ·have hb:=h.bx o b ho
  have hT:Tc (σ o)≠dum R.K:=by
   obtain ⟨_,_,_,_,h3,_⟩:=hb
   rw [h3];split<;>simp [dum]
  exact hb.frame ⟨rfl,hsame _ hT⟩ (fun j b e _=>⟨e,hsame b (by rw [e];simp [dum])⟩) hw1
 ·refine hC.keep _ _ _ w _ ⟨by omega,by rw [hw4];exact hos,by rw [hw4];exact htp,by rw [hw4];exact hou,fun b _ ht=>hsame b ?_,fun _ e=>e,fun _ _ e=>e⟩ h.j
  rcases ht with e|e<;>rw [e]<;>simp [dum]
 ·refine ((hst.chg R.w0).stays.trans h.sy).trans ⟨by omega,fun b e=>e,fun b _ e=>hsame b (by rw [e];exact (dum_ro _).symm)⟩
 ·rw [hsame d (by rw [(h.dd d hd).2.1];exact (dum_ro _).symm)];exact (h.dd d hd).1
set_option maxHeartbeats 1000000 in
theorem rng_call (hR:RecOk P rec) (hI:ItersOk P env) (hC:C.Ok P R.L) {ca cb:Code} {asn bd:VCode} (ha:mC P ca asn=true) (hb:mC P cb bd=true) {fnr:FuncId} {ps:Array Tmp} {dd:Nat} {rc:LoopState→Option Code→Loop}
  (hrc:rc=fun st pe=>{ state:=st,pending:=pe,fn:=fnr,tmps:=R.tmps,params:=ps,assign:=ca,body:=cb,defers:=dd }) {xs:List (List PV)} {stop:Option Nat} {r:Option (Ex × Nat)} {s1:St}
  (hcons:(stop=none∧r=none)∨∃ e m,stop=some m∧r=some (e,m)∧xs.length=m) (hX:s1.ys <+: C.X)
  {f:Nat} {caps:List PV} {arr:Array Value} (hit:iterRes rec env f caps stop=some xs) (hrd:rounds rec R.slots ps.toList asn bd R.nb 0 xs s=some (r,s1))
  (hsl:R.slots.length=R.K) (hfs:FSlots R.L R.nb R.σ0 R.T1 R.w0 R.slots R.tmps) (hbx:∀ (o:Nat) b,s.boxes[o]?=some b→BoxRep R.T1 R.w0 (R.σ0 o) o b) (hnb:R.nb=s.boxes.length) (hfr:∀ b,R.w0.heap.size≤b→R.T1 b=.other) (hJ:C.J s.ys.length R.T1 R.w0) (hst:s.stop=C.stop)
  (ha1:arr.size=caps.length) (ha2:∀ (i:Nat) p v,caps[i]?=some p→arr[i]?=some v→PRep (fun b=>R.T1 b=.ro) R.w0 p v)
  {W:World} (hB:R.B0=W.heap.size) (hW1:R.w0.heap.size≤W.heap.size) (hW2:∀ b,b<R.w0.heap.size→W.heap[b]?=R.w0.heap[b]?) (hW3:W.os=R.w0.os∧W.tape=R.w0.tape∧W.output=R.w0.output) (hl:W.heap[R.l]?=some (.loop (rc .ready none))) (hl0:R.w0.heap.size≤R.l)
  (hD1:∀ d∈R.D,R.w0.heap.size≤d∧W.heap[d]?=some (.deferred (some []))) (hDn:R.D.Nodup) (hlD:R.l ∉ R.D)
  {T0:Tags} (hstill:Still T0 R.T1) {ds:List Deferred} {m:Nat} {Q:Exit→Act→World→Prop} (hF:Wide F)
  (hQ:∀ w4,After C R.L R.nb R.σ0 T0 R.w0 { s1 with slots:=R.slots } ds { tmps:=R.tmps,defers:=R.D.map markOf++ds } w4→Q (toX (endEx r)) { tmps:=R.tmps,defers:=R.D.map markOf++ds } w4) :
  CallsIn F m P f (#[.func (.yield R.l) #[] #[]]++arr) W (rangePost F n P R.l Q { tmps:=R.tmps,defers:=R.D.map markOf++ds }):=by
 refine hF.calls ?_
 -- the text of the iterator
 unfold iterRes at hit
 split at hit
 case h_2=>cases hit
 rename_i fn hfn
 split at hit
 case isFalse=>cases hit
 rename_i hna
 replace hit:=bind_some hit
 obtain ⟨⟨e2,st2⟩,hrun,hit⟩:=hit
 have hne:∀ i,e2≠.exit i:=fun i e=>by subst e;cases hit
 have hys:st2.ys=xs:=by cases e2<;>first|exact Option.some.inj hit|cases hit
 obtain ⟨_,g,c,k1,k2,k3,k4,k5,k6⟩:=hI f fn hfn
 refine (callsIn_wide (n:=0)).1 (callsIn_of_wp_marks k1 k2 trivial ?_)
 rw [k4]
 have hll:=lt_of_heap hl
 -- what each side stands on
 obtain ⟨Ti,hTi⟩:∃ Ti:Tags,Ti=fun b=>if b<R.w0.heap.size∧R.T1 b=.ro then .ro else .other:=⟨_,rfl⟩
 have ti1:∀ b,R.T1 b=.ro→b<R.w0.heap.size→Ti b=.ro:=fun b e hb=>by rw [hTi];exact if_pos ⟨hb,e⟩
 have ti2:∀ b,R.w0.heap.size≤b→Ti b=.other:=fun b hb=>by rw [hTi];exact if_neg (by omega)
 have ti3:∀ b,Ti b≠.other→b<R.w0.heap.size∧R.T1 b=.ro:=fun b hb=>by
  rw [hTi] at hb
  by_cases e:b<R.w0.heap.size∧R.T1 b=.ro
  ·exact e
  ·exact absurd (if_neg e) hb
 obtain ⟨Tn,hTn⟩:∃ Tn:Tags,Tn=fun b=>if b=R.l then dum R.K else if b∈R.D then .ro else R.T1 b:=⟨_,rfl⟩
 have tn1:∀ b,b<R.w0.heap.size→Tn b=R.T1 b:=fun b hb=>by
  rw [hTn]
  have h1:b≠R.l:=by omega
  have h2:b ∉ R.D:=fun hd=>by have:=(hD1 b hd).1;omega
  simp only [if_neg h1,if_neg h2]
 have tnl:Tn R.l=dum R.K:=by rw [hTn];exact if_pos rfl
 have tnD:∀ d∈R.D,Tn d=.ro:=fun d hd=>by
  rw [hTn]
  have:d≠R.l:=fun e=>hlD (by rw [← e];exact hd)
  simp only [if_neg this,if_pos hd]
 have hro:∀ b,R.T1 b=.ro→b<R.w0.heap.size→Tn b=.ro∧W.heap[b]?=R.w0.heap[b]?:=fun b e hb=>⟨by rw [tn1 b hb,e],hW2 b hb⟩
 have hro1:∀ b,R.T1 b=.ro→b<R.w0.heap.size:=fun b e=>by
  rcases Nat.lt_or_ge b R.w0.heap.size with q|q
  ·exact q
  ·rw [hfr b q] at e;cases e
 have hCS:CS C R (rc .ready none) s Ti W:=by
  refine ⟨R.σ0,Tn,⟨hfs.keep hro fun _ _=>rfl,fun o b ho=>?_,fun b hb=>?_,?_,by omega,hst,fun _ _=>rfl,⟨hW1,fun b e=>(hro b e (hro1 b e)).1,fun b hb e=>hW2 b hb⟩,fun b _ ht=>?_,hl,tnl,ti2 _ hl0,fun d hd=>⟨(hD1 d hd).2,tnD d hd,ti2 _ (hD1 d hd).1⟩⟩⟩
  ·have hb:=hbx o b ho
   exact hb.frame ⟨tn1 _ hb.lt,hW2 _ hb.lt⟩ (fun j b e hb=>⟨by rw [tn1 b hb,e],hW2 b hb⟩) hro
  ·have h1:b≠R.l:=by omega
   have h2:b ∉ R.D:=fun hd=>by have:=lt_of_heap (hD1 b hd).2;omega
   rw [hTn]
   simp only [if_neg h1,if_neg h2]
   exact hfr b (by omega)
  ·exact hC.keep _ _ _ R.w0 _ ⟨hW1,hW3.1,hW3.2.1,hW3.2.2,fun b hb _=>hW2 b hb,fun b e=>(hro b e (hro1 b e)).1,fun b hb e=>by rw [tn1 b hb,e]⟩ hJ
  ·obtain ⟨q1,q2⟩:=ti3 b ht
   exact .inr ⟨ti1 b q2 q1,by rw [tn1 b q1,q2],.inl (by omega)⟩
 have hOk:=itC_ok hR hC ha hb hrc hlD hcons hX
 have hargs:(#[Value.func (.yield R.l) #[] #[]]++arr).size=caps.length+1:=by simp;omega
 have hsim:Sim R.l (fun _=>0) Ti ⟨.yld :: (caps.map .pv++List.replicate (fn.ntmps - (caps.length+1)) .any),[],[],some stop⟩
   { tmps:=(#[Value.func (.yield R.l) #[] #[]]++arr)++Array.replicate (fn.ntmps - (#[Value.func (.yield R.l) #[] #[]]++arr).size) undef,defers:=[] } W:=by
  refine ⟨by simp;omega,fun t av v ht hv=>?_,fun o bx ho=>by simp at ho,fun b hb=>ti2 b (by omega)⟩
  simp only at ht hv
  cases t with
  |zero =>
   simp only [List.getElem?_cons_zero,Option.some.injEq] at ht
   subst ht
   have:v=.func (.yield R.l) #[] #[]:=by
    rw [Array.append_assoc,Array.getElem?_append_left (by simp)] at hv
    simpa using hv.symm
   exact this
  |succ t =>
   rw [List.getElem?_cons_succ] at ht
   rw [Array.append_assoc,Array.getElem?_append_right (by simp)] at hv
   simp only [List.size_toArray,List.length_cons,List.length_nil,Nat.zero_add,Nat.add_sub_cancel] at hv
   rcases Nat.lt_or_ge t caps.length with q|q
   ·rw [List.getElem?_append_left (by simpa using q),List.getElem?_map,List.getElem?_eq_getElem q] at ht
    rw [Array.getElem?_append_left (by omega)] at hv
    cases ht
    exact (ha2 t _ v (List.getElem?_eq_getElem q) hv).frame fun b e hb=>⟨ti1 b e hb,hW2 b hb⟩
   ·rw [List.getElem?_append_right (by simpa using q),List.getElem?_replicate] at ht
    split at ht
    ·cases ht;trivial
    ·cases ht
 refine wpIn_mono (hR.wp (F:=Fence.wide) (L:=R.l) (C:=itC C R rec rc ps.toList asn bd xs stop r s1) (n:=0) (.inl rfl) (Ctx.rec_wide _) hOk c fn.body _ e2 st2 k3 hrun rfl (by rw [hys];exact List.prefix_refl _) _ Ti _ W hsim ⟨(hC.glob _ _ _ hJ).frame fun b e hb=>⟨ti1 b e hb,hW2 b hb⟩,.inl ⟨s,hrd,hCS⟩⟩) ?_
 rintro x a' w2 ⟨rfl,σ2,T2,ms,q1,q2,q3,q4,q5,q6⟩
 have key:LeavesInM Fence.wide 0 P g a'.tmps (rangePost F n P R.l Q { tmps:=R.tmps,defers:=R.D.map markOf++ds }) a'.defers .returning w2:=by
  rw [q5,List.append_nil]
  refine leavesM_marks' (B:=W.heap.size) q6.2 (fun d hd=>⟨(q6.1 d hd).1,(q6.1 d hd).2.2⟩) fun w3 e1 e3 e4 e5 e6=>?_
  have hgr:g.results=#[]:=k6 hna.2
  refine ⟨.tuple #[],?_,?_⟩
  ·unfold results
   rw [hgr]
   simp
  ·have fin:∀ lp,CS C R lp s1 T2 w2→lp.state≠.busy→∃ w4,(Instr.endLoop R.l).run P w3=.ok lp.pending w4∧After C R.L R.nb R.σ0 T0 R.w0 { s1 with slots:=R.slots } ds { tmps:=R.tmps,defers:=R.D.map markOf++ds } w4:=fun lp hcs hlp =>
    cs_end hC hcs (fun d hd=>⟨by rw [hB];exact (q6.1 d hd).1,(q6.1 d hd).2.1,(q6.1 d hd).2.2⟩) e6 e5 e1 e3 e4 hlp hstill (fun d hd=>(hD1 d hd).1) hDn hlD
   rw [hys] at q2
   rcases q2.2 with ⟨s',h1,h2⟩|⟨e,h1,h2,h3⟩
   ·rw [List.drop_length] at h1
    simp only [rounds,Option.some.injEq,Prod.mk.injEq] at h1
    obtain ⟨hr,hs⟩:=h1
    subst hs
    obtain ⟨w4,t1,t2⟩:=fin _ h2 (by rw [hrc];simp)
    refine ⟨none,w4,by rw [hrc] at t1;exact t1,?_⟩
    have:=hQ w4 t2
    rw [← hr] at this
    exact this
   ·obtain ⟨w4,t1,t2⟩:=fin _ h3 (by rw [hrc];simp)
    have:=hQ w4 t2
    rw [h1] at this
    obtain ⟨hen,hen2⟩:=rounds_ne _ _ _ _ _ _ (by rw [h1] at hrd;exact hrd)
    cases e with
    |normal=>exact absurd rfl hen
    |ret=>exact ⟨some .ret,w4,by rw [hrc] at t1;exact t1,wpIn_ret this⟩
    |exit i=>exact ⟨some (.exit i),w4,by rw [hrc] at t1;exact t1,wpIn_exit this⟩
    |thr t n=>exact absurd rfl (hen2 t n)
 cases e2 with
 |normal=>exact key
 |ret=>exact key
 |exit i=>exact absurd rfl (hne i)
 |thr t n=>cases hit
end
end Go.Proofs.YtpcncggjmabnaaaGreatDoor

namespace Go.Proofs.YtpcncggjmabnaaaGreatDoor
open Go.RowKit
section
variable {P:Program} {F:Fence} {C:Ctx} {n L nb:Nat} {σ σ':Nat→Nat} {T T' Tc T1 T2:Tags} {st st' st1 s:St} {a a1:Act} {w w' w1:World} {R:Rg} {lp:Loop}
 {rec:VCode→St→Option (Ex × St)} {env:Env} {e:Ex}
theorem rng_core (hR:RecOk P rec) (hI:ItersOk P env) (hW:Wide F) (hN:C.Rec F) (hC:C.Ok P L) {ca cb:Code} {asn bd:VCode} (ha:mC P ca asn=true) (hb:mC P cb bd=true) {g:Operand} {gx:Opd} (hmg:mOpd g gx=true) {ps:Array Tmp} {f:Nat} {caps:List PV}
  (hg:st.pvOf gx=some (.func f caps)) {xs:List (List PV)} {stop:Option Nat} {r:Option (Ex × Nat)} {s1:St} (hit:iterRes rec env f caps stop=some xs) (hrd:rounds rec (st.slots.map AV.froze) ps.toList asn bd st.boxes.length 0 xs { st with slots:=st.slots.map AV.froze }=some (r,s1))
  (hcons:(stop=none∧r=none)∨∃ e m,stop=some m∧r=some (e,m)∧xs.length=m) (hX:s1.ys <+: C.X) (hst:st.stop=C.stop) (hs:Sim L σ T st a w) (hJ:C.J st.ys.length T w) :
  (Code.rangeFunc g ps ca cb).wpIn F n P (Post C L st.boxes.length σ T w (endEx r) { s1 with slots:=st.slots.map AV.froze } a.defers) a w:=by
 obtain ⟨arr,e1,e2,e3⟩:=func_inv (hs.pv hmg hg)
 obtain ⟨T1,f1,f2,f3⟩:=hs.froze
 have hfr:∀ b,w.heap.size≤b→T1 b=.other:=fun b hb=>f3.other b (hs.fresh b hb)
 have hJ1:C.J st.ys.length T1 w:=hC.keep _ _ _ w _ (f3.chg w) hJ
 have hcap:∀ (i:Nat) p v,caps[i]?=some p→arr[i]?=some v→PRep (fun b=>T1 b=.ro) w p v:=fun i p v hp hv=>(e3 i p v hp hv).frame fun b hb _=>⟨f3.ro b hb,rfl⟩
 have hcal:callable P f=true:=by
  unfold iterRes at hit
  split at hit
  case h_2=>cases hit
  rename_i fn hfn
  exact (hI f fn hfn).1
 refine wpIn_rangeFunc fun fn hfn=>?_
 rcases hW with rfl|⟨l0,rfl⟩
 ·obtain ⟨rc,hrc⟩:∃ rc:LoopState→Option Code→Loop,rc=fun st pe=>{ state:=st,pending:=pe,fn:=fn,tmps:=a.tmps,params:=ps,assign:=ca,body:=cb,defers:=w.heap.size }:=⟨_,rfl⟩
  obtain ⟨W1,hW1⟩:∃ W1,(w.alloc (.deferred (some []))).alloc (.loop (rc .ready none))=W1:=⟨_,rfl⟩
  have hL1:W1.heap[w.heap.size+1]?=some (.loop (rc .ready none)):=by
   rw [← hW1];have:=World.alloc_heap_new (w.alloc (.deferred (some []))) (.loop (rc .ready none));rwa [World.size_alloc] at this
  have hK1:W1.heap[w.heap.size]?=some (.deferred (some [])):=by
   rw [← hW1];exact (Below.heap_alloc _ _ _ (by simp)).trans (World.alloc_heap_new w _)
  have hsz:W1.heap.size=w.heap.size+2:=by rw [← hW1];simp
  refine ⟨w.heap.size+1,[markOf w.heap.size],W1,{ target:=.fn (.func f) arr,args:=#[.func (.yield (w.heap.size+1)) #[] #[]] },W1,f,#[.func (.yield (w.heap.size+1)) #[] #[]]++arr,W1,?_,?_,fun _ _=>trivial,?_,(fun h=>by cases h),?_⟩
  ·rw [← hW1,hrc];exact run_enterLoop_outer _ _ _ _ _
  ·simp only [resolve,e1]
   simp [go_sem]
  ·simp [invoke,go_sem,run_callFunc hcal]
  ·refine rng_call (R:=⟨L,st.boxes.length,st.slots.length,σ,T1,w,st.slots.map AV.froze,a.tmps,w.heap.size+1,[w.heap.size],W1.heap.size⟩) (s:={ st with slots:=st.slots.map AV.froze }) (T0:=T) hR hI hC ha hb hrc hcons hX hit hrd (by simp) f1 f2 rfl hfr hJ1 hst e2 hcap rfl ?_ ?_ ?_ hL1 ?_ ?_ ?_ ?_ f3 (.inl rfl) ?_
   ·show w.heap.size≤W1.heap.size;omega
   ·intro b hb
    rw [← hW1]
    exact (Below.heap_alloc _ _ _ (by simp only [World.size_alloc];exact Nat.lt_succ_of_lt hb)).trans (Below.heap_alloc _ _ _ hb)
   ·rw [← hW1];exact ⟨rfl,rfl,rfl⟩
   ·show w.heap.size≤w.heap.size+1;omega
   ·intro d hd
    have hd:d∈[w.heap.size]:=hd
    rw [List.mem_singleton.1 hd]
    exact ⟨Nat.le_refl _,hK1⟩
   ·exact List.nodup_cons.2 ⟨by simp,List.nodup_nil⟩
   ·intro hd
    have hd:w.heap.size+1∈[w.heap.size]:=hd
    have:=List.mem_singleton.1 hd
    omega
   ·intro w4 hA
    exact ⟨rfl,hA⟩
 ·obtain ⟨r0,hr0⟩:=hN l0 rfl _ _ _ hJ
  obtain ⟨rc,hrc⟩:∃ rc:LoopState→Option Code→Loop,rc=fun st pe=>{ state:=st,pending:=pe,fn:=fn,tmps:=a.tmps,params:=ps,assign:=ca,body:=cb,defers:=r0.defers }:=⟨_,rfl⟩
  obtain ⟨W1,hW1⟩:∃ W1,w.alloc (.loop (rc .ready none))=W1:=⟨_,rfl⟩
  have hL1:W1.heap[w.heap.size]?=some (.loop (rc .ready none)):=by
   rw [← hW1];exact World.alloc_heap_new w _
  have hsz:W1.heap.size=w.heap.size+1:=by rw [← hW1];simp
  refine ⟨w.heap.size,[],W1,{ target:=.fn (.func f) arr,args:=#[.func (.yield w.heap.size) #[] #[]] },W1,f,#[.func (.yield w.heap.size) #[] #[]]++arr,W1,?_,?_,fun _ _=>trivial,?_,(fun h=>by cases h),?_⟩
  ·rw [← hW1,hrc];exact run_enterLoop_inner hr0 _ _ _ _ _
  ·simp only [resolve,e1]
   simp [go_sem]
  ·simp [invoke,go_sem,run_callFunc hcal]
  ·refine rng_call (R:=⟨L,st.boxes.length,st.slots.length,σ,T1,w,st.slots.map AV.froze,a.tmps,w.heap.size,[],W1.heap.size⟩) (s:={ st with slots:=st.slots.map AV.froze }) (T0:=T) hR hI hC ha hb hrc hcons hX hit hrd (by simp) f1 f2 rfl hfr hJ1 hst e2 hcap rfl ?_ ?_ ?_ hL1 ?_ ?_ ?_ ?_ f3 (.inr ⟨l0,rfl⟩) ?_
   ·show w.heap.size≤W1.heap.size;omega
   ·intro b hb
    rw [← hW1]
    exact Below.heap_alloc _ _ _ hb
   ·rw [← hW1];exact ⟨rfl,rfl,rfl⟩
   ·exact Nat.le_refl _
   ·intro d hd;cases hd
   ·exact List.nodup_nil
   ·intro hd;cases hd
   ·intro w4 hA
    exact ⟨rfl,hA⟩
theorem ranged_eq {gx:Opd} {ps:List Nat} {asn bd:VCode} (h:ranged rec env gx ps asn bd st=some (e,st')):∃ f caps xs stop r s1,st.pvOf gx=some (.func f caps)∧iterRes rec env f caps stop=some xs∧rounds rec (st.slots.map AV.froze) ps asn bd st.boxes.length 0 xs { st with slots:=st.slots.map AV.froze }=some (r,s1) ∧
  ((stop=none∧r=none)∨∃ e m,stop=some m∧r=some (e,m)∧xs.length=m)∧e=endEx r∧st'={ s1 with slots:=st.slots.map AV.froze }:=by
 unfold ranged at h
 replace h:=bind_some h
 obtain ⟨v,h1,h⟩:=h
 cases v<;>simp only [reduceCtorEq] at h
 rename_i f caps
 replace h:=bind_some h
 obtain ⟨xs,h2,h⟩:=h
 replace h:=bind_some h
 obtain ⟨⟨r,s1⟩,h3,h⟩:=h
 simp only at h
 cases r with
 |none =>
  simp only [Option.some.injEq,Prod.mk.injEq] at h
  exact ⟨f,caps,xs,none,none,s1,h1,h2,h3,.inl ⟨rfl,rfl⟩,h.1.symm,h.2.symm⟩
 |some q =>
  obtain ⟨e0,k⟩:=q
  simp only at h
  replace h:=bind_some h
  obtain ⟨ys,h4,h⟩:=h
  replace h:=bind_some h
  obtain ⟨⟨r2,s2⟩,h5,h⟩:=h
  simp only at h
  cases r2 with
  |none=>cases h
  |some q2 =>
   obtain ⟨e2,m⟩:=q2
   simp only at h
   split at h
   case isFalse=>cases h
   rename_i hk
   obtain ⟨rfl,hk⟩:=hk
   simp only [Option.some.injEq,Prod.mk.injEq] at h
   exact ⟨f,caps,ys,some m,some (e2,m),s2,h1,h4,h5,.inr ⟨e2,m,rfl,rfl,hk⟩,h.1.symm,h.2.symm⟩
end
end Go.Proofs.YtpcncggjmabnaaaGreatDoor

namespace Go.Proofs.YtpcncggjmabnaaaGreatDoor
open Go.RowKit
section
variable {P:Program} {F:Fence} {C:Ctx} {n L nb:Nat} {σ σ':Nat→Nat} {T T' T1 T2:Tags} {st st' st1:St} {a a1:Act} {w w1:World} {o:Oper} {vo:VOp} {y:Operand} {x:Opd} {d:Nat}
 {rec:VCode→St→Option (Ex × St)} {env:Env} {next:Act→World→Prop} {Q:Exit→Act→World→Prop} {opl:Array Oper} {ds:List Deferred} {e:Ex}
theorem map_some' {α β:Type} {x:Option α} {f:α→β} {y:β} (h:x.map f=some y):∃ z,x=some z∧f z=y:=by
 cases x with
 |none=>cases h
 |some z=>exact ⟨z,rfl,Option.some.inj h⟩
theorem head_same {keep:List Nat} (h0:st.head keep nb=some st1):st1.boxes.length=nb∧st1.ys=st.ys∧st1.stop=st.stop:=by
 unfold St.head at h0
 simp only at h0
 split at h0
 ·rename_i hc
  simp only [Bool.and_eq_true,decide_eq_true_eq] at hc
  have h0:=Option.some.inj h0
  subst h0
  exact ⟨by simp;omega,rfl,rfl⟩
 ·cases h0
theorem step_growR (hR:RecOk P rec) {c:Code} {keep:List Nat} {vc:VCode} (hm:mC P c vc=true) (h:step rec env (.round keep nb vc) st=some (e,st')):Grow nb st st':=by
 simp only [step] at h
 replace h:=bind_some h
 obtain ⟨st0,h0,h⟩:=h
 replace h:=bind_some h
 obtain ⟨⟨e1,st1⟩,h1,h⟩:=h
 have hh:st0.boxes.length=nb∧st0.ys=st.ys∧st0.stop=st.stop:=by
  unfold St.head at h0
  simp only at h0
  split at h0
  ·rename_i hc
   simp only [Bool.and_eq_true,decide_eq_true_eq] at hc
   have h0:=Option.some.inj h0
   subst h0
   exact ⟨by simp;omega,rfl,rfl⟩
  ·cases h0
 have g1:=hR.grow _ _ _ _ _ hm h1
 have g1':Grow nb st st1:=by
  refine ⟨by rw [← hh.1];exact g1.1,by rw [← hh.2.1];exact g1.2.1,g1.2.2.trans hh.2.2⟩
 simp only at h
 split at h
 ·exact g1'.trans (hR.growR _ _ _ _ _ _ _ hm h)
 ·cases Option.some.inj h;exact g1'
theorem step_grow (hR:RecOk P rec) {c:Code} {vc:VCode} (hm:mC P c vc=true) (h:step rec env vc st=some (e,st')):Grow st.boxes.length st st':=by
 cases vc with
 |skip=>simp only [step,Option.some.injEq,Prod.mk.injEq] at h;rw [← h.2];exact (Mono.refl _).grow
 |ops l =>
  simp only [step] at h
  obtain ⟨st1,h1,h2⟩:=map_some' h
  cases h2;exact ops_grow h1
 |drw fz acts fin last l =>
  simp only [step] at h
  obtain ⟨st1,h1,h2⟩:=map_some' h
  cases h2
  have gz:=Mono.freezeAts fz (Mono.refl st)
  exact ((Mono.grow gz).trans (ops_grow h1)).mono gz.1
 |drs fz keep vo alts =>
  simp only [step] at h
  obtain ⟨st1,h1,h2⟩:=map_some' h
  cases h2
  have gz:=Mono.freezeAts fz (Mono.refl st)
  have g:=runAlts_facts h1
  exact ((Mono.grow gz).trans ⟨g.1,g.2.1,g.2.2⟩).mono gz.1
 |lend d ks l =>
  simp only [step] at h
  split at h
  case h_2=>cases h
  split at h
  case isFalse=>cases h
  obtain ⟨st3,h1,h2⟩:=map_some' h
  cases h2
  obtain ⟨st2,h3,h4⟩:=bind_some h1
  have gz:=(Mono.refl st).freeze (.slot d)
  exact ((gz.grow.trans (ops_grow h3)).mono gz.1).lendBack h4
 |seq a b =>
  cases c<;>first|(simp [mC] at hm;done)|skip
  rename_i c1 c2
  simp only [mC,Bool.and_eq_true] at hm
  simp only [step] at h
  replace h:=bind_some h
  obtain ⟨⟨e1,st1⟩,h1,h⟩:=h
  have g1:=hR.grow _ _ _ _ _ hm.1 h1
  simp only at h
  split at h
  ·exact (g1.trans (hR.grow _ _ _ _ _ hm.2 h)).mono g1.1
  ·cases Option.some.inj h;exact g1
 |cond y a b =>
  cases c<;>first|(simp [mC] at hm;done)|skip
  simp only [mC,Bool.and_eq_true] at hm
  simp only [step] at h
  replace h:=bind_some h
  obtain ⟨v,h1,h⟩:=h
  split at h
  ·split at h
   ·exact hR.grow _ _ _ _ _ hm.1.2 h
   ·exact hR.grow _ _ _ _ _ hm.2 h
  ·cases h
 |block i a =>
  cases c<;>first|(simp [mC] at hm;done)|skip
  simp only [mC,Bool.and_eq_true] at hm
  simp only [step] at h
  replace h:=bind_some h
  obtain ⟨⟨e1,st1⟩,h1,h⟩:=h
  have h:=Option.some.inj h
  cases h
  exact hR.grow _ _ _ _ _ hm.2 h1
 |loop keep a =>
  cases c<;>first|(simp [mC] at hm;done)|skip
  simp only [mC] at hm
  simp only [step] at h
  exact hR.growR _ _ _ _ _ _ _ hm h
 |round keep nb a =>
  cases c<;>first|(simp [mC] at hm;done)|skip
 |rng g ps asn b =>
  cases c<;>first|(simp [mC] at hm;done)|skip
  rename_i g1 ps1 c1 c2
  simp only [mC,Bool.and_eq_true,beq_iff_eq] at hm
  obtain ⟨⟨⟨m1,m2⟩,m3⟩,m4⟩:=hm
  simp only [step] at h
  obtain ⟨f,caps,xs,stop,r,s1,q1,q2,q3,q4,rfl,rfl⟩:=ranged_eq h
  have:=rounds_grow hR.grow m3 m4 xs 0 _ r s1 q3 (Nat.le_refl _)
  exact ⟨this.1,this.2.1,this.2.2⟩
 |clean pre post a =>
  replace hm:mC P c a=true:=by cases c<;>simpa only [mC] using hm
  simp only [step] at h
  replace h:=bind_some h
  obtain ⟨st1,h0,h⟩:=h
  replace h:=bind_some h
  obtain ⟨⟨e1,st2⟩,h1,h⟩:=h
  replace h:=bind_some h
  obtain ⟨st3,h2,h⟩:=h
  cases Option.some.inj h
  obtain ⟨k1,k2,k3⟩:=head_same h0
  obtain ⟨l1,l2,l3⟩:=head_same h2
  have g1:=hR.grow _ _ _ _ _ hm h1
  exact ⟨by omega,by rw [l2,← k2];exact g1.2.1,by rw [l3,g1.2.2,k3]⟩
 |exit i=>simp only [step,Option.some.injEq,Prod.mk.injEq] at h;rw [← h.2];exact (Mono.refl _).grow
 |ret=>simp only [step,Option.some.injEq,Prod.mk.injEq] at h;rw [← h.2];exact (Mono.refl _).grow
 |dem l d f args =>
  simp only [step] at h
  obtain ⟨st1,h1,h⟩:=bind_some h
  obtain ⟨vs,h2,h⟩:=bind_some h
  obtain ⟨r,h3,h⟩:=bind_some h
  cases r with
  |some p=>cases Option.some.inj h;exact ops_grow h1
  |none =>
   obtain ⟨st2,h4,h5⟩:=map_some' h
   cases h5
   exact ((ops_grow h1).trans (act_grow h4)).mono (ops_grow h1).1
theorem Post.trans {nb1:Nat} {σ1:Nat→Nat} {ms:List Nat} (hs:Stays T T1 w w1) (hσ:∀ k,k<nb→σ1 k=σ k) (hd:a1.defers=ms.map markOf++ds) (hms:Marks T1 w w1 ms) (hnb:nb≤nb1)
  {x:Exit} {a':Act} {w':World} (h:Post C L nb1 σ1 T1 w1 e st' a1.defers x a' w'):Post C L nb σ T w e st' ds x a' w':=⟨h.1,After.trans hs hσ hd hms hnb h.2⟩
theorem step_wpR (hR:RecOk P rec) (hW:Wide F) (hN:C.Rec F) (hC:C.Ok P L) {c:Code} {keep:List Nat} {vc:VCode} (hm:mC P c vc=true) (h:step rec env (.round keep nb vc) st=some (e,st')) (hst:st.stop=C.stop) (hX:st'.ys <+: C.X)
  (hs:Sim L σ T st a w) (hJ:C.J st.ys.length T w):wpLoop F n P c (Post C L nb σ T w e st' a.defers) a w:=by
 simp only [step] at h
 replace h:=bind_some h
 obtain ⟨st0,h0,h⟩:=h
 replace h:=bind_some h
 obtain ⟨⟨e1,st1⟩,h1,h⟩:=h
 obtain ⟨q1,q2,q3,q4,q5⟩:=hs.head h0
 have g1:=hR.grow _ _ _ _ _ hm h1
 refine wpLoop_once ?_
 have hX1:st1.ys <+: C.X:=by
  simp only at h
  split at h
  ·exact (hR.growR _ _ _ _ _ _ _ hm h).2.1.trans hX
  ·cases Option.some.inj h;exact hX
 refine wpIn_mono (hR.wp hW hN hC c vc st0 e1 st1 hm h1 (q4.trans hst) hX1 σ T a w q1 (by rw [q3];exact hJ)) ?_
 rintro x a1 w1 ⟨hx,hA⟩
 rw [q2] at hA
 simp only at h
 split at h
 ·subst hx
  obtain ⟨σ1,T1,ms,k1,k2,k3,k4,k5,k6⟩:=hA
  exact wpLoop_mono (hR.wpR hW hN hC c keep nb vc st1 e st' hm h (g1.2.2.trans (q4.trans hst)) hX σ1 T1 a1 w1 k1 k2) fun x a' w' hP=>Post.trans k4 k3 k5 k6 (Nat.le_refl _) hP
 ·rename_i hne
  cases Option.some.inj h
  cases e with
  |normal=>exact absurd rfl hne
  |exit i=>subst hx;exact ⟨rfl,hA⟩
  |ret=>subst hx;exact ⟨rfl,hA⟩
  |thr t m=>subst hx;exact ⟨rfl,hA⟩
theorem dem_wp (hW:Wide F) (hC:C.Ok P L) (hcalls:CallsOk P rec env) (hX:st'.ys <+: C.X) (hs:Sim L σ T st a w) (hJ:C.J st.ys.length T w) (hst:st.stop=C.stop) {l:List VOp} {f:Nat} {args:List Opd} (hm:mL P opl opl.toList (l++[.call d f args])=true) (h1:ops rec env l st=some st1)
  {vs:List PV} (h2:args.mapM st1.pvOf=some vs) {r:Option (Nat × Int)} (h3:calT rec env f vs=some r) (h:(match r with
   |some (t,n)=>some (.thr t n,st1)
   |none=>(act rec env (.call d f args) st1).map fun st2=>(.normal,st2))=some (e,st')):wpListIn F n P opl (Post C L st.boxes.length σ T w e st' a.defers) opl.toList a w:=by
 obtain ⟨l1,o,hl,m1,m2⟩:=mL_snoc hm
 have g1:=ops_grow h1
 rw [hl]
 cases r with
 |some p =>
  cases Option.some.inj h
  refine ops_wp2 hW hC hcalls hX hs hJ hst m1 h1 ?_
  rintro a1 w1 ⟨σ1,T1,ms,k1,k2,k3,k4,k5,k6⟩
  exact thr_wp hW hC hcalls k1 k2 m2 h2 h3 fun w' hA=>⟨rfl,After.trans k4 k3 k5 k6 g1.1 hA⟩
 |none =>
  obtain ⟨st2,h4,h5⟩:=map_some' h
  cases h5
  have g2:Grow st1.boxes.length st1 st':=act_grow h4
  refine ops_wp2 hW hC hcalls (g2.2.1.trans hX) hs hJ hst m1 h1 ?_
  rintro a1 w1 ⟨σ1,T1,ms,k1,k2,k3,k4,k5,k6⟩
  have h6:ops rec env [.call d f args] st1=some st':=by
   simp only [ops,op,op1,isAct,↓reduceIte,h4]
   rfl
  have m3:mL P opl [o] [.call d f args]=true:=by simp only [mL,m2,Bool.and_self]
  exact ops_wp hW hC hcalls hX k1 k2 (g1.2.2.trans hst) m3 h6 fun a' w' hA=>⟨rfl,After.trans k4 k3 k5 k6 g1.1 hA⟩
theorem step_wp (hR:RecOk P rec) (hI:ItersOk P env) (hcalls:CallsOk P rec env) (hW:Wide F) (hN:C.Rec F) (hC:C.Ok P L) {c:Code} {vc:VCode} (hm:mC P c vc=true) (h:step rec env vc st=some (e,st')) (hst:st.stop=C.stop) (hX:st'.ys <+: C.X)
  (hs:Sim L σ T st a w) (hJ:C.J st.ys.length T w):c.wpIn F n P (Post C L st.boxes.length σ T w e st' a.defers) a w:=by
 cases vc with
 |skip =>
  simp only [step,Option.some.injEq,Prod.mk.injEq] at h
  obtain ⟨rfl,rfl⟩:=h
  cases c<;>first|(simp [mC] at hm;done)|skip
  case skip=>exact wpIn_skip ⟨rfl,After.refl hs hJ⟩
  case label l=>exact wpIn_label ⟨rfl,After.refl hs hJ⟩
 |ops l =>
  simp only [step] at h
  obtain ⟨st1,h1,h2⟩:=map_some' h
  cases h2
  cases c<;>first|(simp [mC] at hm;done)|skip
  case region id ops dr =>
   cases dr<;>simp [mC] at hm
   exact wpIn_region_list (ops_wp hW hC hcalls hX hs hJ hst hm h1 fun a' w' hA=>⟨rfl,hA⟩)
 |drw fz acts fin last l =>
  simp only [step] at h
  obtain ⟨st1,h1,h2⟩:=map_some' h
  cases h2
  cases c<;>first|(simp [mC] at hm;done)|skip
  case region id ops dr =>
   cases dr<;>simp only [mC,Bool.and_eq_true,Bool.false_eq_true] at hm
   obtain ⟨⟨⟨m1,m2⟩,m3⟩,m4⟩:=hm
   obtain ⟨T1,q1,q2⟩:=hs.freezeAts fz
   have gz:=Mono.freezeAts fz (Mono.refl st)
   have hJ1:C.J (fz.foldl St.freezeAt st).ys.length T1 w:=by rw [gz.2.1];exact hC.keep _ _ _ _ _ (q2.chg w) hJ
   exact region_drw_wp hW hC hcalls q1 hJ1 (gz.2.2.trans hst) hX m1 m2 m3 m4 h1 fun a' w' hA=>⟨rfl,After.trans (ms:=[]) ((q2.chg w).stays) (fun _ _=>rfl) rfl Marks.nil gz.1 hA⟩
 |drs fz keep vo alts =>
  simp only [step] at h
  obtain ⟨st1,h1,h2⟩:=map_some' h
  cases h2
  cases alts with
  |nil=>cases h1
  |cons alt alts =>
  cases c<;>first|(simp [mC] at hm;done)|skip
  case region id ops dr =>
   cases dr<;>simp only [mC,Bool.and_eq_true,Bool.false_eq_true] at hm
   obtain ⟨⟨m1,m2⟩,m3⟩:=hm
   obtain ⟨T1,q1,q2⟩:=hs.freezeAts fz
   have gz:=Mono.freezeAts fz (Mono.refl st)
   have hJ1:C.J (fz.foldl St.freezeAt st).ys.length T1 w:=by rw [gz.2.1];exact hC.keep _ _ _ _ _ (q2.chg w) hJ
   exact region_drs_wp hW hC hcalls q1 hJ1 (gz.2.2.trans hst) hX m1 m2 m3 h1 fun a' w' hA=>⟨rfl,After.trans (ms:=[]) ((q2.chg w).stays) (fun _ _=>rfl) rfl Marks.nil gz.1 hA⟩
 |lend d ks l =>
  simp only [step] at h
  split at h
  case h_2=>cases h
  rename_i hd
  split at h
  case isFalse=>cases h
  rename_i hstop
  obtain ⟨st3,h1,h2⟩:=map_some' h
  cases h2
  obtain ⟨st2,h3,h4⟩:=bind_some h1
  cases c<;>first|(simp [mC] at hm;done)|skip
  case region id ops dr =>
   cases dr<;>simp [mC] at hm
   exact lend_wp hW hC hcalls hs hJ hd hstop hm.1 (by simpa using hm.2) h3 h4
 |seq a b =>
  cases c<;>first|(simp [mC] at hm;done)|skip
  rename_i c1 c2
  simp only [mC,Bool.and_eq_true] at hm
  simp only [step] at h
  replace h:=bind_some h
  obtain ⟨⟨e1,st1⟩,h1,h⟩:=h
  have g1:=hR.grow _ _ _ _ _ hm.1 h1
  refine wpIn_seq ?_
  have hX1:st1.ys <+: C.X:=by
   simp only at h
   split at h
   ·exact (hR.grow _ _ _ _ _ hm.2 h).2.1.trans hX
   ·cases Option.some.inj h;exact hX
  refine wpIn_mono (hR.wp hW hN hC c1 _ st e1 st1 hm.1 h1 hst hX1 σ T _ w hs hJ) ?_
  rintro x a1 w1 ⟨hx,hA⟩
  simp only at h
  split at h
  ·subst hx
   obtain ⟨σ1,T1,ms,k1,k2,k3,k4,k5,k6⟩:=hA
   exact wpIn_mono (hR.wp hW hN hC c2 _ st1 e st' hm.2 h (g1.2.2.trans hst) hX σ1 T1 a1 w1 k1 k2) fun x a' w' hP=>Post.trans k4 k3 k5 k6 g1.1 hP
  ·rename_i hne
   cases Option.some.inj h
   cases e with
   |normal=>exact absurd rfl hne
   |exit i=>subst hx;exact ⟨rfl,hA⟩
   |ret=>subst hx;exact ⟨rfl,hA⟩
   |thr t m=>subst hx;exact ⟨rfl,hA⟩
 |cond y a b =>
  cases c<;>first|(simp [mC] at hm;done)|skip
  rename_i x c1 c2
  simp only [mC,Bool.and_eq_true] at hm
  simp only [step] at h
  replace h:=bind_some h
  obtain ⟨v,h1,h⟩:=h
  split at h
  case h_2=>cases h
  rename_i t
  refine wpIn_cond (t:=t) (hs.pv hm.1.1 h1).bool_inv ?_
  cases t with
  |true=>exact hR.wp hW hN hC c1 _ st e st' hm.1.2 (by simpa using h) hst hX σ T _ w hs hJ
  |false=>exact hR.wp hW hN hC c2 _ st e st' hm.2 (by simpa using h) hst hX σ T _ w hs hJ
 |block i a =>
  cases c<;>first|(simp [mC] at hm;done)|skip
  rename_i j c1
  simp only [mC,Bool.and_eq_true,beq_iff_eq] at hm
  obtain ⟨rfl,hm⟩:=hm
  simp only [step] at h
  replace h:=bind_some h
  obtain ⟨⟨e1,st1⟩,h1,h⟩:=h
  have h:=Option.some.inj h
  cases h
  refine wpIn_block (wpIn_mono (hR.wp hW hN hC c1 _ st e1 st1 hm h1 hst hX σ T _ w hs hJ) ?_)
  rintro x a1 w1 ⟨rfl,hA⟩
  cases e1 with
  |normal=>exact ⟨rfl,hA⟩
  |exit i =>
   by_cases hij:i=j
   ·subst hij;simp only [toX,Exit.inBlock,↓reduceIte];exact ⟨rfl,hA⟩
   ·have hne:(Ex.exit i=Ex.exit j)=False:=by simpa using hij
    simp only [toX,Exit.inBlock,if_neg hij,hne,↓reduceIte];exact ⟨rfl,hA⟩
  |ret=>exact ⟨rfl,hA⟩
  |thr t m=>exact ⟨rfl,hA⟩
 |loop keep a =>
  cases c<;>first|(simp [mC] at hm;done)|skip
  simp only [mC] at hm
  simp only [step] at h
  exact wpIn_of_loop (hR.wpR hW hN hC _ keep _ _ st e st' hm h hst hX σ T _ w hs hJ)
 |round keep nb a =>
  cases c<;>first|(simp [mC] at hm;done)|skip
 |rng g ps asn b =>
  cases c<;>first|(simp [mC] at hm;done)|skip
  rename_i g1 ps1 c1 c2
  simp only [mC,Bool.and_eq_true,beq_iff_eq] at hm
  obtain ⟨⟨⟨m1,m2⟩,m3⟩,m4⟩:=hm
  subst m2
  simp only [step] at h
  obtain ⟨f,caps,xs,stop,r,s1,q1,q2,q3,q4,rfl,rfl⟩:=ranged_eq h
  exact rng_core hR hI hW hN hC m3 m4 m1 q1 q2 q3 q4 hX hst hs hJ
 |clean pre post a =>
  replace hm:mC P c a=true:=by cases c<;>simpa only [mC] using hm
  simp only [step] at h
  replace h:=bind_some h
  obtain ⟨st1,h0,h⟩:=h
  replace h:=bind_some h
  obtain ⟨⟨e1,st2⟩,h1,h⟩:=h
  replace h:=bind_some h
  obtain ⟨st3,h2,h⟩:=h
  cases Option.some.inj h
  obtain ⟨q1,q2,q3,q4,q5⟩:=hs.head h0
  obtain ⟨l1,l2,l3⟩:=head_same h2
  refine wpIn_mono (hR.wp hW hN hC c a st1 _ st2 hm h1 (q4.trans hst) (by rw [← l2];exact hX) σ T _ w q1 (by rw [q3];exact hJ)) ?_
  rintro x a1 w1 ⟨hx,σ1,T1,ms,k1,k2,k3,k4,k5,k6⟩
  obtain ⟨r1,r2,r3,r4,r5⟩:=k1.head h2
  exact ⟨hx,σ1,T1,ms,r1,by rw [r3];exact k2,by rw [← q2];exact k3,k4,k5,k6⟩
 |exit i =>
  simp only [step,Option.some.injEq,Prod.mk.injEq] at h
  obtain ⟨rfl,rfl⟩:=h
  cases c<;>first|(simp [mC] at hm;done)|skip
  simp only [mC,beq_iff_eq] at hm
  subst hm
  exact wpIn_exit ⟨rfl,After.refl hs hJ⟩
 |ret =>
  simp only [step,Option.some.injEq,Prod.mk.injEq] at h
  obtain ⟨rfl,rfl⟩:=h
  cases c<;>first|(simp [mC] at hm;done)|skip
  exact wpIn_ret ⟨rfl,After.refl hs hJ⟩
 |dem l d f args =>
  simp only [step] at h
  obtain ⟨st1,h1,h⟩:=bind_some h
  obtain ⟨vs,h2,h⟩:=bind_some h
  obtain ⟨r,h3,h⟩:=bind_some h
  cases c<;>first|(simp [mC] at hm;done)|skip
  case region id ops dr =>
   cases dr<;>simp [mC] at hm
   exact wpIn_region_list (dem_wp hW hC hcalls hX hs hJ hst hm h1 h2 h3 (by cases r<;>exact h))
theorem step_ok (hR:RecOk P rec) (hI:ItersOk P env) (hcalls:CallsOk P rec env):RecOk P (step rec env) :=
 ⟨fun _ _ _ _ _ hm h=>step_grow hR hm h,fun _ _ _ _ _ _ _ hm h=>step_growR hR hm h,
  fun hW hN hC _ _ _ _ _ hm h hst hX _ _ _ _ hs hJ=>step_wp hR hI hcalls hW hN hC hm h hst hX hs hJ,
  fun hW hN hC _ _ _ _ _ _ _ hm h hst hX _ _ _ _ hs hJ=>step_wpR hR hW hN hC hm h hst hX hs hJ⟩
end
end Go.Proofs.YtpcncggjmabnaaaGreatDoor

namespace Go.Proofs.YtpcncggjmabnaaaGreatDoor
open Go.RowKit
section
variable {P:Program} {L K:Nat} {σ σ':Nat→Nat} {T T' T1 T2:Tags} {st st' st1:St} {a a1:Act} {w w1:World} {r:Root}
theorem Sim.retagTo (h:Sim L σ T st a w) {i:Nat} (h1:∀ t s l,st.slots[t]?=some (.row s l)→r≠.slot t) (h2:∀ (t i:Nat),r≠.part t i) (h3:∀ p q bx s l,st.boxes[p]?=some bx→bx.cs[q]?=some (.row s l)→r≠.cell p q) (hK:st.slots.length≤K) :
  Sim L σ (moved T r (.part K i)) st a w:=by
 have hw:∀ b,T b=.ro→b<w.heap.size→moved T r (.part K i) b=.ro∧w.heap[b]?=w.heap[b]?:=fun b e _=>⟨moved_ro e,rfl⟩
 refine ⟨h.size,fun t x u hx hu=>?_,fun p bx ho=>?_,fun b hb=>moved_other (h.fresh b hb)⟩
 ·have ht:t<st.slots.length:=(List.getElem?_eq_some_iff.1 hx).1
  refine (h.slots t x u hx hu).keep hw (fun s l e b hb _=>⟨moved_row (fun e2=>h1 t s l (by rw [hx,e]) e2.symm) (by simp) hb,rfl⟩) (fun l e i' _ b hb _=>⟨moved_row (fun e2=>h2 _ _ e2.symm) (fun e2=>?_) hb,rfl⟩) (fun q hq _ s l e=>⟨⟨l,e⟩,rfl⟩) (Nat.le_refl _) (fun _ _=>rfl)
  cases e2;omega
 ·obtain ⟨arr,E,g1,g2,g3,g4,g5⟩:=h.boxes p bx ho
  refine ⟨arr,E,g1,g2,?_,g4,fun j bv u hj hu=>?_⟩
  ·cases hf:bx.fz with
   |true=>rw [hf] at g3;simpa using moved_ro g3
   |false=>rw [hf] at g3;simpa using moved_box g3
  ·obtain ⟨k1,k2⟩:=g5 j bv u hj hu
   refine ⟨k1,?_⟩
   cases bv with
   |pv x=>exact PRep.frame hw k2
   |row sz es=>exact RowRep.frame (fun b e _=>⟨moved_row (fun e2=>h3 p j bx sz es ho hj e2.symm) (by simp) e,rfl⟩) hw k2
theorem RowRep.takeTo {sz:Nat} {es:List PV} {xa:Option Addr} {c:Nat} (h:RowRep T w r sz es (.slice xa es.length c)) (k:Nat):RowRep T w r sz (es.take k) (.slice xa (es.take k).length c):=by
 rcases h with ⟨rfl,a,e⟩|⟨b,c',arr,E,e,h2,h3,h4,h5,h6,h7,h8⟩
 ·simp only [List.length_nil,Value.slice.injEq] at e
  obtain ⟨_,_,rfl⟩:=e
  exact .inl ⟨by simp,xa,by simp⟩
 ·simp only [Value.slice.injEq] at e
  obtain ⟨rfl,_,rfl⟩:=e
  refine .inr ⟨b,c,arr,E,rfl,h2,h3,h4,?_,h6,fun e he=>h7 e (List.mem_of_mem_take he),fun i e j x hi hj=>?_⟩
  ·simp;omega
  ·rw [List.getElem?_take] at hi
   split at hi
   ·exact h8 i e j x hi hj
   ·cases hi
def RK (T:Tags) (w:World) (K i:Nat):Res→Value→Prop
 |(.list sz es,true),u=>RowRep T w (.part K i) sz es u
 |(.agg _,true),_=>False
 |(x,_),u=>PRep (fun b=>T b=.ro) w x u
theorem RK.pv {i:Nat} {x:PV} {u:Value} (h:PRep (fun b=>T b=.ro) w x u):RK T w K i (x,false) u:=by
 cases x<;>exact h
def readOf (tmps:Array Value):ResultVar→Sem Value
 |.tmp t=>pure (tmps.getD t undef)
 |.cell a t=>do loadVar t (← asAddr (tmps.getD a undef))
def mRes (P:Program):ResultVar→VRes→Bool
 |.tmp t,.tmp s=>t==s
 |.cell t T0,.cell s n=>t==s&&cellN P T0==some n
 |.cell t T0,.own s n=>t==s&&cellN P T0==some (some n)
 |_,_=>false
theorem result_one (h:Sim L σ T st a w) {g:ResultVar} {v:VRes} (hm:mRes P g v=true) {x:Res} (hp:resultOf st v=some (x,st1)) (hK:st.slots.length≤K) (i:Nat) :
  ∃ u T',(readOf a.tmps g).run P w=.ok u w∧Sim L σ T' st1 a w∧Still T T'∧RK T' w K i x u∧(∀ b k,k≠i→T b=.row (.part K k)→T' b=.row (.part K k))∧st1.slots.length=st.slots.length∧(∀ b o,T b=.box o→T' b=.box o):=by
 cases g<;>cases v<;>simp only [mRes,Bool.false_eq_true] at hm
 case tmp.tmp t s =>
  simp only [beq_iff_eq] at hm
  subst hm
  have hev:a.tmps.getD t undef=a.eval (.tmp t):=rfl
  have hmo:mOpd (.tmp t) (.t t)=true:=by simp [mOpd]
  simp only [resultOf] at hp
  split at hp
  ·rename_i sz es st2 hg
   have hp:=Option.some.inj hp
   cases hp
   obtain ⟨k1,k2,q,v,es0,c,xa,k3,k4,k5,k6,k7,k8,k9⟩:=h.grab hmo hg
   have hlen:st1.slots.length=st.slots.length:=by rw [← k1.size,← h.size]
   refine ⟨a.eval (.tmp t),moved T q (.part K i),by rw [readOf,hev];rfl,k1.retagTo k7 k8 k9 (by omega),Still.moved _ _ _,?_,fun b k hk e=>moved_row (fun e2=>k8 _ _ e2.symm) (by simp [hk]) e,hlen,fun b o e=>moved_box e⟩
   rw [k6]
   subst k5
   have:=RowRep.takeTo k3 es.length
   rw [← k4] at this
   exact RowRep.frame (fun b e _=>⟨moved_src e,rfl⟩) (fun b e _=>⟨moved_ro e,rfl⟩) this
  ·split at hp
   ·rename_i v hv
    have hp:=Option.some.inj hp
    cases hp
    have e2:st.pvOf (.t t)=some v:=by unfold St.pvOf;rw [show st.get (.t t)=.pv v from hv]
    exact ⟨a.eval (.tmp t),T,by rw [readOf,hev];rfl,h,Still.refl T,RK.pv (h.pv hmo e2),fun _ _ _ e=>e,rfl,fun _ _ e=>e⟩
   ·rename_i r off len hv
    split at hp
    case h_2=>cases hp
    rename_i sz es hr
    split at hp
    case isFalse=>cases hp
    rename_i hl
    have hp:=Option.some.inj hp
    cases hp
    obtain ⟨T1,k1,k2,k3,k4,k5⟩:=h.freeze r
    refine ⟨a.eval (.tmp t),T1,by rw [readOf,hev];rfl,k1,k2,RK.pv (h.refList hr (h.refR hmo hv sz es hr) hl (k4 sz es hr) k2.ro),fun b k _ e=>k3 b _ (fun e2=>by subst e2;simp [St.row] at hr) e,by rw [← k1.size,← h.size],k5⟩
   ·cases hp
 case cell.cell t T0 s n =>
  simp only [Bool.and_eq_true,beq_iff_eq] at hm
  obtain ⟨rfl,hc⟩:=hm
  simp only [resultOf] at hp
  split at hp
  case h_2=>cases hp
  rename_i p j hv
  split at hp
  case h_2=>cases hp
  rename_i bx h1
  have hs:st.slots[t]?=some (.pbox p j):=slots_get (st:=st) hv (by simp)
  have hlt:t<a.tmps.size:=by rw [h.size];exact (List.getElem?_eq_some_iff.1 hs).1
  have hgp:a.tmps.getD t undef=.pointer (some ⟨σ p,j,none⟩):=by
   have:=(h.slots t _ _ hs (Array.getElem?_eq_getElem hlt)).2
   rw [Array.getD_eq_getD_getElem?,Array.getElem?_eq_getElem hlt,Option.getD_some,this]
  have hread:∀ {u:Value},(loadVar T0 ⟨σ p,j,none⟩).run P w=.ok u w→(readOf a.tmps (.cell t T0)).run P w=.ok u w:=fun hu=>by
   simp only [readOf,hgp,asAddr,Sem.run_bind,Sem.run_pure,Result.andThen_ok]
   exact hu
  have hbox:=h.boxes p bx h1
  cases n with
  |none =>
   obtain ⟨arr,E,g1,g2,g3,g4,g5⟩:=hbox
   have hld:∀ (bv:BV),bx.cs[j]?=some bv→∃ u,(loadVar T0 ⟨σ p,j,none⟩).run P w=.ok u w∧BRep T w p j bv u:=fun bv hbv=>by
    have hj:j<arr.size:=by rw [g2];exact (List.getElem?_eq_some_iff.1 hbv).1
    obtain ⟨k1,k2⟩:=g5 j _ arr[j] hbv (Array.getElem?_eq_getElem hj)
    refine ⟨arr[j],?_,k2⟩
    unfold loadVar
    simp only [Sem.run_bind,run_isAgg_no hc,Result.andThen_ok,Bool.false_eq_true,if_false]
    unfold load
    simp only [Sem.run,cell_of_row w _ _ arr E (0,0) g1,Array.getElem?_eq_getElem hj]
   simp only at hp
   split at hp
   ·rename_i sz es hbv
    split at hp
    ·cases hp
    ·rename_i hfz
     have hp:=Option.some.inj hp
     cases hp
     obtain ⟨u,q1,q2⟩:=hld _ hbv
     have hr:st.row (.cell p j)=some (sz,es):=by simp [St.row,h1,hfz,hbv]
     obtain ⟨T1,k1,k2,k3,k4,k5⟩:=h.freeze (.cell p j)
     exact ⟨u,T1,hread q1,k1,k2,RK.pv (RowRep.list (k4 sz es hr) k2.ro q2),fun b k _ e=>k3 b _ (by simp) e,by rw [← k1.size,← h.size],k5⟩
   ·rename_i v hbv
    have hp:=Option.some.inj hp
    cases hp
    obtain ⟨u,q1,q2⟩:=hld _ hbv
    exact ⟨u,T,hread q1,h,Still.refl T,RK.pv q2,fun _ _ _ e=>e,rfl,fun _ _ e=>e⟩
   ·cases hp
  |some n =>
   simp only at hp
   obtain ⟨v,h2,hp⟩:=map_some' hp
   cases hp
   obtain ⟨T1,k1,k2,k3,k4,k5⟩:=h.freezeRowsB p
   have hmem:=hbox.mem (T':=T1) (fun j b e=>k4 (by rw [h1];rfl) b j e) k2.ro
   obtain ⟨u,h7,h8,_⟩:=part_mem (P:=P) hmem hc h2
   rw [Nat.zero_add] at h7
   exact ⟨u,T1,hread (h7 w rfl),k1,k2,RK.pv h8,fun b k _ e=>k3 b _ (by simp) e,by rw [← k1.size,← h.size],k5⟩
 case cell.own t T0 s n=>simp only [resultOf] at hp;cases hp
def RKo (T:Tags) (w:World) (K i:Nat) (x:Res) (u:Value):Prop :=
 RK T w K i x u∨(i=0∧∃ cs,x=(.agg cs,true)∧∃ arr:Array Value,u=.agg arr∧arr.size=cs.length∧∀ (k:Nat) x v,cs[k]?=some x→arr[k]?=some v→PartRep T w K k (ownP x) v)
def outO (T:Tags) (p j K:Nat):Tags:=fun b=>match T b with
 |.ro=>.ro
 |.row (.cell o q)=>if o=p∧j≤q then .row (.part K (q - j)) else .other
 |_=>.other
theorem ownCells_get:∀ {l:List BV} {cs:List PV},ownCells l=some cs→l.length=cs.length∧∀ (k:Nat) x,cs[k]?=some x→(∃ sz es,l[k]?=some (.row sz es)∧x=.list sz es)∨(l[k]?=some (.pv x)∧∀ s es,x≠.list s es)
 |[],cs,h=>by cases h;exact ⟨rfl,fun k x hk=>by simp at hk⟩
 |.row sz es :: l,cs,h=>by
  obtain ⟨c,h1,rfl⟩:=map_some' h
  obtain ⟨q1,q2⟩:=ownCells_get h1
  refine ⟨by simp [q1],fun k x hk=>?_⟩
  cases k with
  |zero=>cases hk;exact .inl ⟨sz,es,rfl,rfl⟩
  |succ k=>exact q2 k x hk
 |.pv v :: l,cs,h=>by
  have hv:(∀ s es,v≠.list s es)∧∃ c,ownCells l=some c∧cs=v :: c:=by
   cases v<;>first|(simp [ownCells] at h;done)|(obtain ⟨c,h1,rfl⟩:=map_some' h;exact ⟨(fun _ _ e=>by cases e),c,h1,rfl⟩)
  obtain ⟨hv,c,h1,rfl⟩:=hv
  obtain ⟨q1,q2⟩:=ownCells_get h1
  refine ⟨by simp [q1],fun k x hk=>?_⟩
  cases k with
  |zero=>cases hk;exact .inr ⟨rfl,hv⟩
  |succ k=>exact q2 k x hk
theorem load_cells {b j n T0:Nat} {arr:Array Value} {E q} (hc:cellN P T0=some (some n)) (hb:w.heap[b]?=some (.cells arr E (0,q))) (hn:j+n≤arr.size) :
  ∃ us:Array Value,(loadVar T0 ⟨b,j,none⟩).run P w=.ok (.agg us) w∧us.size=n∧∀ k v,us[k]?=some v→arr[j+k]?=some v:=by
 have hs:=(run_isAgg_yes (w:=w) hc).2
 let us:List Value:=(List.range n).map fun k=>arr.getD (j+k) undef
 have hus:∀ k v,us[k]?=some v→arr[j+k]?=some v:=fun k v hv=>by
  have hk:k<n:=by have:=(List.getElem?_eq_some_iff.1 hv).1;simpa [us] using this
  simp only [us,List.getElem?_map,List.getElem?_range hk,Option.map_some,Option.some.injEq] at hv
  rw [Array.getElem?_eq_getElem (by omega:j+k<arr.size)]
  rw [Array.getD_eq_getD_getElem?,Array.getElem?_eq_getElem (by omega:j+k<arr.size)] at hv
  rw [← hv];rfl
 have hlen:us.length=n:=by simp [us]
 refine ⟨us.toArray,?_,by simpa using hlen,fun k v hv=>hus k v (by simpa using hv)⟩
 have hl2:=run_loadCells_list (P:=P) (w:=w) ⟨b,j,none⟩ us (fun k v hv=>by
  rw [Addr.add_lit,cell_of_row w b _ arr E (0,q) hb];exact hus k v hv)
 rw [hlen] at hl2
 unfold loadVar
 simp only [Sem.run_bind,(run_isAgg_yes (w:=w) hc).1,Result.andThen_ok,if_true,run_szOf hs,hl2]
 rfl
theorem result_own (h:Sim L σ T st a w) {t T0 n p j:Nat} {bx:Box} {cs:List PV} (hc:cellN P T0=some (some n)) (hv:st.slots.getD t .any=.pbox p j) (h1:st.boxes[p]?=some bx) (hf:bx.fz=false) (hn:j+n≤bx.cs.length) (ho:ownCells ((bx.cs.drop j).take n)=some cs) :
  ∃ u T',(readOf a.tmps (.cell t T0)).run P w=.ok u w∧Still T T'∧(∀ b,w.heap.size≤b→T' b=.other)∧RKo T' w K 0 (.agg cs,true) u:=by
 have hs:st.slots[t]?=some (.pbox p j):=slots_get (st:=st) hv (by simp)
 have hlt:t<a.tmps.size:=by rw [h.size];exact (List.getElem?_eq_some_iff.1 hs).1
 have hgp:a.tmps.getD t undef=.pointer (some ⟨σ p,j,none⟩):=by
  have:=(h.slots t _ _ hs (Array.getElem?_eq_getElem hlt)).2
  rw [Array.getD_eq_getD_getElem?,Array.getElem?_eq_getElem hlt,Option.getD_some,this]
 obtain ⟨arr,E,g1,g2,g3,g4,g5⟩:=h.boxes p bx h1
 obtain ⟨us,r1,r2,r3⟩:=load_cells (P:=P) hc g1 (by omega:j+n≤arr.size)
 obtain ⟨q1,q2⟩:=ownCells_get ho
 have hro:∀ b,T b=.ro→outO T p j K b=.ro:=fun b e=>by simp [outO,e]
 refine ⟨.agg us,outO T p j K,?_,⟨hro,fun b e=>by simp [outO,e]⟩,fun b hb=>by simp [outO,h.fresh b hb],.inr ⟨rfl,cs,rfl,us,rfl,?_,fun k x v hx hu=>?_⟩⟩
 ·simp only [readOf,hgp,asAddr,Sem.run_bind,Sem.run_pure,Result.andThen_ok]
  exact r1
 ·rw [r2,← q1];simp;omega
 ·have hk:k<n:=by rw [← r2];exact (Array.getElem?_eq_some_iff.1 hu).1
  have hget:∀ bv,((bx.cs.drop j).take n)[k]?=some bv→bx.cs[j+k]?=some bv:=fun bv e=>by
   rw [List.getElem?_take_of_lt hk,List.getElem?_drop] at e;exact e
  rcases q2 k x hx with ⟨sz,es,e1,rfl⟩|⟨e1,e2⟩
  ·obtain ⟨_,k2⟩:=g5 (j+k) _ v (hget _ e1) (r3 k v hu)
   exact RowRep.frame (fun b e _=>⟨by simp [outO,e],rfl⟩) (fun b e _=>⟨hro b e,rfl⟩) k2
  ·obtain ⟨_,k2⟩:=g5 (j+k) _ v (hget _ e1) (r3 k v hu)
   have:ownP x=.pv x:=by cases x<;>first|rfl|exact absurd rfl (e2 _ _)
   rw [this]
   exact PRep.frame (fun b e _=>⟨hro b e,rfl⟩) k2
end
end Go.Proofs.YtpcncggjmabnaaaGreatDoor

namespace Go.Proofs.YtpcncggjmabnaaaGreatDoor
open Go.RowKit
def mResL (P:Program):List ResultVar→List VRes→Bool
 |[],[]=>true
 |g :: gs,v :: vs=>mRes P g v&&mResL P gs vs
 |_,_=>false
section
variable {P:Program} {L K:Nat} {σ σ':Nat→Nat} {T T' T1 T2:Tags} {st st' st1:St} {a a1:Act} {w w1:World} {r:Root}
theorem RK.frame {i:Nat} {x:Res} {u:Value} (hr:∀ b,T b=.row (.part K i)→T' b=.row (.part K i)) (hw:∀ b,T b=.ro→T' b=.ro) (h:RK T w K i x u):RK T' w K i x u:=by
 obtain ⟨v,own⟩:=x
 cases v<;>cases own<;>first|exact PRep.frame (fun b e _=>⟨hw b e,rfl⟩) h|exact RowRep.frame (fun b e _=>⟨hr b e,rfl⟩) (fun b e _=>⟨hw b e,rfl⟩) h|exact False.elim h
theorem result_list:∀ {gs:List ResultVar} {vs:List VRes} {st:St} {T:Tags} {xs:List Res} (i:Nat),Sim L σ T st a w→mResL P gs vs=true→resultList st vs=some xs→st.slots.length≤K →
  ∃ (us:List Value) (T':Tags),(gs.mapM (readOf a.tmps)).run P w=.ok us w∧us.length=xs.length∧Still T T'∧(∀ b,w.heap.size≤b→T' b=.other)∧(∀ (j:Nat) x u,xs[j]?=some x→us[j]?=some u→RK T' w K (i+j) x u)∧(∀ b k,k<i→T b=.row (.part K k)→T' b=.row (.part K k))∧∀ b o,T b=.box o→T' b=.box o
 |[],[],st,T,xs,i,h,_,hp,hK=>by
  simp only [resultList,Option.some.injEq] at hp
  subst hp
  exact ⟨[],T,by simp,rfl,Still.refl T,h.fresh,fun j x u hx=>by simp at hx,(fun _ _ _ e=>e),fun _ _ e=>e⟩
 |[],_ :: _,_,_,_,_,_,hm,_,_=>by simp [mResL] at hm
 |_ :: _,[],_,_,_,_,_,hm,_,_=>by simp [mResL] at hm
 |g :: gs,v :: vs,st,T,xs,i,h,hm,hp,hK=>by
  simp only [mResL,Bool.and_eq_true] at hm
  simp only [resultList] at hp
  replace hp:=bind_some hp
  obtain ⟨⟨x,st1⟩,h1,hp⟩:=hp
  replace hp:=bind_some hp
  obtain ⟨l,h2,hp⟩:=hp
  have hp:=Option.some.inj hp
  subst hp
  obtain ⟨u,T1,k1,k2,k3,k4,k5,k6,k7⟩:=result_one h hm.1 h1 hK i
  obtain ⟨us,T2,q1,q2,q3,q4,q5,q6,q7⟩:=result_list (i+1) k2 hm.2 h2 (by omega)
  refine ⟨u :: us,T2,?_,by simp [q2],k3.trans q3,q4,fun j x' u' hx hu=>?_,fun b k hk e=>q6 b k (by omega) (k5 b k (by omega) e),fun b o e=>q7 b o (k7 b o e)⟩
  ·rw [List.mapM_cons]
   simp only [Sem.run_bind,k1,Result.andThen_ok,q1,Sem.run_pure]
  ·cases j with
   |zero =>
    simp only [List.getElem?_cons_zero,Option.some.injEq] at hx hu
    subst hx;subst hu
    exact RK.frame (fun b e=>q6 b i (by omega) e) q3.ro k4
   |succ j =>
    have:=q5 j x' u' (by simpa using hx) (by simpa using hu)
    rwa [show i+1+j=i+(j+1) by omega] at this
theorem results_run {fn:Func} {us:List Value} (h:(fn.results.toList.mapM (readOf a.tmps)).run P w=.ok us w):(results fn a.tmps).run P w=.ok (if us.toArray.size=1 then us.toArray.getD 0 undef else .tuple us.toArray) w:=by
 have e:results fn a.tmps=(do let vs ← fn.results.mapM (readOf a.tmps);pure (if h:vs.size=1 then vs[0] else .tuple vs)):=by
  unfold results
  congr 1
 rw [e,Array.mapM_eq_mapM_toList]
 simp only [Sem.run_bind,Sem.run_map,h,Result.andThen_ok,Sem.run_pure]
 by_cases hs:us.toArray.size=1
 ·rw [dif_pos hs,if_pos hs,Array.getD_eq_getD_getElem?,Array.getElem?_eq_getElem (by omega),Option.getD_some]
 ·rw [dif_neg hs,if_neg hs]
theorem leavesM_marks {fn:Func} {R:Ending→World→Prop} {B:Nat}:∀ {ms:List Nat} {w:World},ms.Nodup→(∀ r∈ms,B≤r∧w.heap[r]?=some (.deferred (some []))) →
  (∀ w',w'.os=w.os→w'.tape=w.tape→w'.output=w.output→w'.heap.size=w.heap.size→(∀ b,b ∉ ms→w'.heap[b]?=w.heap[b]?)→∃ v,(results fn a.tmps).run P w'=.ok v w'∧R (.returned v) w') →
  LeavesInM Fence.wide 0 P fn a.tmps R (ms.map markOf) .returning w
 |[],w,_,_,h=>by
  simp only [List.map_nil,LeavesInM,LeavesIn]
  exact h w rfl rfl rfl rfl fun _ _=>rfl
 |r :: ms,w,hnd,hms,h=>by
  simp only [List.map_cons,LeavesInM]
  obtain ⟨hn1,hn2⟩:=List.nodup_cons.1 hnd
  obtain ⟨k1,k2⟩:=hms r (by simp)
  have hr:r<w.heap.size:=(Array.getElem?_eq_some_iff.1 k2).1
  have hput:∀ b,b≠r→(w.putObj r (.deferred none)).heap[b]?=w.heap[b]?:=fun b hb=>by simp [World.putObj,Array.getElem?_setIfInBounds,Ne.symm hb]
  refine ⟨by simp,.inl ⟨r,_,rfl,run_takeDeferred k2,leavesM_marks (B:=B) hn2 (fun r' hr'=>?_) fun w' e1 e2 e3 e4 e5=>h w' e1 e2 e3 (by rw [e4];simp [World.putObj]) fun b hb=>?_⟩⟩
  ·obtain ⟨q1,q2⟩:=hms r' (by simp [hr'])
   exact ⟨q1,by rw [hput r' (fun e=>hn1 (e ▸ hr'))];exact q2⟩
  ·simp only [List.mem_cons,not_or] at hb
   rw [e5 b hb.2,hput b hb.1]
end
end Go.Proofs.YtpcncggjmabnaaaGreatDoor
