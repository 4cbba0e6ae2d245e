/-
  Part 3 of the texts that the statement stands on.
-/
import Derived.Test.YtaaokejjmdbfaaaDoorZ2
import Derived.RangeFuncNested
import Derived.RangeFuncRecord
import Derived.RangeFuncIn
import Derived.RangeFuncLeaves
set_option linter.all false
namespace Go.Proofs.YtaaokejjmdbfaaaDoor
open Go.RowKit
section
variable {F:Fence} {n:Nat} {P:Program} {ops:Array Oper} {S S2:World→Prop} {Q:Act→World→Prop} {f:Nat}
def iH (F:Fence) (n:Nat) (P:Program) (ops:Array Oper) (S S2:World→Prop) (f:Nat) (Q:Act→World→Prop):Nat→Array Bool→Act→World→Prop
 |0,l,a,w=>Region.ready .any ops l=[]∧Q a w
 |fuel+1,l,a,w=>(Region.ready .any ops l=[]→Q a w)∧∀ i∈Region.ready .any ops l,wpOpIn F n P ops (bF Q) i (fun a' w'=>(((l.setIfInBounds i true).getD f false=true∨S w')∧S2 w')∧iH F n P ops S S2 f Q fuel (l.setIfInBounds i true) a' w') a w
theorem wC:∀ (fuel:Nat) (l:Array Bool) (a:Act) (w:World),iH F n P ops S S2 f Q fuel l a w→wpAnyIn F n P .any ops (bF Q) fuel l a w
 |0,_,_,_,h=>⟨h.1,rfl,h.2⟩
 |fuel+1,_,_,_,h=>⟨fun h0=>⟨rfl,h.1 h0⟩,fun i hi=>wpOpIn_mono (fun a' w' h'=>wC fuel _ a' w' h'.2) (h.2 i hi)⟩
theorem D6 (hF:∀ f,F.fn f) (hnd:jA ops=true) (hsel:Region.noSelect ops=true) {T:World→Prop} {i:Nat} {oi:Oper} {v:Value} (hi:ops[i]?=some oi) (hfi:f≠i)
  (hT:∀ l:Array Bool,l.size=ops.size→Closed ops l→l.getD i false=false→∀ w,((l.getD f false=true∨S w)∧S2 w)→T w) :
  ∀ (fuel:Nat) (l:Array Bool) (a:Act) (w:World),l.size=ops.size→Closed ops l→((l.getD f false=true∨S w)∧S2 w) →
   (∀ j oj,ops[j]?=some oj→j≠i→l.getD j true=false→(∀ e∈oj.after,Region.binds .any e=true→e.on≠i)→oi.apart ops oj=true) →
   i∈Region.ready .any ops l→YieldsIf P ops T oi v a →
   iH F n P ops S S2 f Q fuel (l.setIfInBounds i true) (a.put oi.dst v) w→iH F n P ops S S2 f Q (fuel+1) l a w:=by
 have self:∀ {a:Act} {w:World} {K:Act→World→Prop},YieldsIf P ops T oi v a→T w→K (a.put oi.dst v) w→wpOpIn F n P ops (bF Q) i K a w:=by
  intro a w K hy hS hk
  unfold wpOpIn
  simp only [hi]
  rcases hy with ⟨hw,hv⟩|⟨hw,rfl⟩
  ·rw [if_pos hw]
   refine ⟨fun f _=>hF f,?_⟩
   rw [Oper.semAt_eq _ _ _ (wU hnd hi),hv w hS]
   exact hk
  ·rw [if_neg (by rw [hw];decide)]
   exact ⟨fun f _=>hF f,hk⟩
 have listed:∀ {l:Array Bool} {w:World},l.size=ops.size→i∈Region.ready .any ops l→((l.getD f false=true∨S w)∧S2 w)→(((l.setIfInBounds i true).getD f false=true∨S w)∧S2 w):=fun hs hr h=>⟨h.1.imp (fun h=>by rw [fF _ _ _ (eP hs hr),if_neg (Ne.symm hfi)];exact h) id,h.2⟩
 have oz:∀ {l:Array Bool},i∈Region.ready .any ops l→l.size=ops.size→l.getD i false=false:=fun h hs=>by
  have h1:=(mem_ready.1 h).1
  have h2:=eP hs h
  simpa [h2] using h1
 intro fuel
 induction fuel with
 |zero =>
  intro l a w hs hc hS _ hr hy H
  refine ⟨fun h=>(by rw [h] at hr;cases hr),fun j hj=>?_⟩
  by_cases hji:j=i
  ·subst hji;exact self hy (hT l hs hc (oz hr hs) w hS) ⟨listed hs hr hS,H⟩
  ·have:=ready_mono hj hji
   rw [H.1] at this
   cases this
 |succ fuel ih =>
  intro l a w hs hc hS hfree hr hy H
  refine ⟨fun h=>(by rw [h] at hr;cases hr),fun j hj=>?_⟩
  by_cases hji:j=i
  ·subst hji;exact self hy (hT l hs hc (oz hr hs) w hS) ⟨listed hs hr hS,H⟩
  ·have h1:=H.2 j (ready_mono hj hji)
   obtain ⟨hjun,oj,hoj,hall⟩:=mem_ready.1 hj
   have hnot:∀ e∈oj.after,Region.binds .any e=true→e.on≠i:=fun e he hb heq=>by
    have h1:=hall e he hb
    rw [heq,oz hr hs] at h1
    cases h1
   have h2:=Vr hF hnd hsel hi hoj (hfree j oj hoj hji hjun hnot) hy h1
   have hs':(l.setIfInBounds j true).size=ops.size:=by simpa using hs
   refine wpOpIn_mono (fun a' w' h3=>?_) h2
   have hSS:(((l.setIfInBounds j true).getD f false=true∨S w')∧S2 w'):=⟨h3.2.1.1.imp (fun h=>by
    rw [fF _ _ _ (by simpa using eP hs hj),fF _ _ _ (eP hs hr),if_neg (Ne.symm hfi)] at h
    rw [fF _ _ _ (eP hs hj)];exact h) id,h3.2.1.2⟩
   refine ⟨hSS,ih (l.setIfInBounds j true) a' w' hs' (hc.set hs hj) hSS (fun k ok hk hki hun hno=>hfree k ok hk hki ?_ hno) (ready_mono hr (Ne.symm hji)) h3.1 ?_⟩
   ·by_cases hjk:j=k
    ·subst hjk;exact hjun
    ·rw [getD_set_ne true hjk] at hun;exact hun
   ·rw [Array.setIfInBounds_comm _ _ hji]
    exact h3.2.2
theorem eY (hF:∀ f,F.fn f) (hnd:jA ops=true) (hsel:Region.noSelect ops=true) {T:World→Prop} {w:World}:∀ (seg:List Nat) (m:Nat) (l l':Array Bool) (a:Act),l.size=ops.size→Closed ops l→((l.getD f false=true∨S w)∧S2 w) →
  (∀ i∈seg,f≠i∧∀ l:Array Bool,l.size=ops.size→Closed ops l→l.getD i false=false→(∀ j,l.getD j false=true∨True)→∀ w,((l.getD f false=true∨S w)∧S2 w)→T w) →
  bK ops seg l=some l'→(l'.size=ops.size→Closed ops l'→((l'.getD f false=true∨S w)∧S2 w)→True) →
  wpQuiet P ops T (fun a'=>∀ (_:l'.size=ops.size) (_:Closed ops l') (_:(l'.getD f false=true∨S w)∧S2 w),iH F n P ops S S2 f Q m l' a' w) (pick ops seg) a→iH F n P ops S S2 f Q (m+seg.length) l a w
 |[],m,l,l',a,hs,hc,hS,_,hq,_,h=>by
  simp only [bK,Option.some.injEq] at hq
  subst hq
  exact h hs hc hS
 |i :: is,m,l,l',a,hs,hc,hS,hT,hq,ht,h=>by
  unfold bK at hq
  split at hq
  case isFalse=>cases hq
  rename_i hcnd
  simp only [Bool.and_eq_true] at hcnd
  obtain ⟨⟨hp,hf⟩,hr⟩:=hcnd
  have hr':i∈Region.ready .any ops l:=by simpa using hr
  cases ho:ops[i]? with
  |none=>rw [ho] at hp;simp at hp
  |some o =>
   rw [ho] at hp
   simp only [Option.map_some,Option.getD_some] at hp
   simp only [pick,List.filterMap_cons,ho] at h
   unfold wpQuiet at h
   have key:∃ v,YieldsIf P ops T o v a∧wpQuiet P ops T (fun a'=>∀ (_:l'.size=ops.size) (_:Closed ops l') (_:(l'.getD f false=true∨S w)∧S2 w),iH F n P ops S S2 f Q m l' a' w) (pick ops is) (a.put o.dst v):=by
    split at h
    ·rename_i hw
     obtain ⟨v,h1,h2⟩:=h
     refine ⟨v,.inl ⟨hw,fun w1 hw1=>?_⟩,h2⟩
     have h3:=h1 w1 hw1
     unfold Oper.quietAt at h3
     cases hrun:(execOp a.eval o).run P w1 with
     |halt x w2=>rw [hrun] at h3;exact h3.elim
     |ok x w2 =>
      obtain ⟨y,rfl⟩:=rZ hp hrun
      rw [hrun] at h3
      obtain ⟨e1,e2⟩:=h3
      rw [e1,e2]
    ·rename_i hw
     exact ⟨undef,.inr ⟨by simpa using hw,rfl⟩,h⟩
   obtain ⟨v,hy,hk⟩:=key
   have Z4:=hT i (by simp)
   refine D6 hF hnd hsel ho Z4.1 (fun l hs hc hu w hS=>Z4.2 l hs hc hu (fun _=>.inr trivial) w hS) (m+is.length) l a w hs hc hS (Region.free_spec ho hf) hr' hy ?_
   refine eY hF hnd hsel is m (l.setIfInBounds i true) l' _ (by simpa using hs) (hc.set hs hr') ⟨hS.1.imp (fun h=>?_) id,hS.2⟩ (fun j hj=>hT j (by simp [hj])) hq ht hk
   rw [fF _ _ _ (eP hs hr'),if_neg (Ne.symm Z4.1)];exact h
end
end Go.Proofs.YtaaokejjmdbfaaaDoor

namespace Go.Proofs.YtaaokejjmdbfaaaDoor
open Go.RowKit
section
variable {F:Fence} {n:Nat} {P:Program} {ops:Array Oper} {Q:Act→World→Prop} {f:Nat}
theorem fA {S S' S2 S2':World→Prop} (hS:∀ w,S' w→S w) (hS2:∀ w,S2' w→S2 w):∀ (m:Nat) (l:Array Bool) (a:Act) (w:World),iH F n P ops S' S2' f Q m l a w→iH F n P ops S S2 f Q m l a w
 |0,_,_,_,h=>h
 |m+1,_,_,_,h=>⟨h.1,fun i hi=>wpOpIn_mono (fun a' w' h'=>⟨⟨h'.1.1.imp id (hS w'),hS2 w' h'.1.2⟩,fA hS hS2 m _ a' w' h'.2⟩) (h.2 i hi)⟩
abbrev Fin1:=Option (List Nat × List Nat × Nat × List (List Nat × Nat))
def jL (ops:Array Oper):Fin1→Nat
 |none=>ops.size
 |some (_,_,f,_)=>f
def Ky (ops:Array Oper) (i:Nat) (seg:List Nat):List Nat:=seg.takeWhile (vg ops ops.size i)
def NC (ops:Array Oper) (i:Nat) (seg:List Nat):List Nat:=seg.dropWhile (vg ops ops.size i)
def zC (ops:Array Oper) (f:Nat) (last:List Nat):List (List Nat × Nat)→Array Bool→Bool
 |[],l=>last.all (fun i=>f != i)&&match bK ops last l with
  |some l2=>(Region.ready .any ops l2).isEmpty
  |none=>false
 |(seg,i) :: more,l=>seg.all (fun j=>f != j&&i != j)&&f != i&&match bK ops (Ky ops i seg) l with
  |some l0=>match bK ops (NC ops i seg) l0 with
   |some l1=>(Region.ready .any ops l1==[i])&&zC ops f last more (l1.setIfInBounds i true)
   |none=>false
  |none=>false
def fQ (last:List Nat):List (List Nat × Nat)→Nat
 |[]=>last.length
 |(seg,_) :: more=>fQ last more+1+seg.length
def oK (ops:Array Oper) (fin:Fin1) (i:Nat):Bool:=match fin with
 |none=>true
 |some (_,_,f,_)=>vg ops ops.size f i
def kT (ops:Array Oper) (fin:Fin1) (seg:List Nat):List Nat:=seg.takeWhile (oK ops fin)
def kL (ops:Array Oper) (fin:Fin1) (seg:List Nat):List Nat:=seg.dropWhile (oK ops fin)
def Kz (ops:Array Oper) (fin:Fin1) (seg:List Nat):Bool:=(match fin with
 |none=>seg.all (fun i=>i<ops.size)
 |some (_,_,f,_)=>seg.all (fun i=>f != i))
def GV (ops:Array Oper):List (List Nat × Nat)→Fin1→List Nat→Array Bool→Bool
 |[],none,last,l=>last.all (fun i=>i<ops.size)&&match bK ops last l with
  |some l1=>(Region.ready .any ops l1).isEmpty
  |none=>false
 |[],some (bM,dZ,f,tl),last,l=>bM.all (fun i=>f != i&&vg ops ops.size f i)&&dZ.all (fun i=>f != i)&&match bK ops bM l with
  |some l0=>match bK ops dZ l0 with
   |some l1=>(Region.ready .any ops l1==[f])&&zC ops f last tl (l1.setIfInBounds f true)
   |none=>false
  |none=>false
 |(seg,i) :: more,fin,last,l=>Kz ops fin seg&&match bK ops (kT ops fin seg) l with
  |some l0=>match bK ops (kL ops fin seg) l0 with
   |some l1=>(Region.ready .any ops l1==[i])&&GV ops more fin last (l1.setIfInBounds i true)
   |none=>false
  |none=>false
def iY:List (List Nat × Nat)→Fin1→List Nat→Nat
 |[],none,last=>last.length
 |[],some (bM,dZ,_,tl),last=>fQ last tl+1+dZ.length+bM.length
 |(seg,_) :: more,fin,last=>iY more fin last+1+seg.length
def QJ (ops:Array Oper) (acts:List (List Nat × Nat)) (fin:Fin1) (last:List Nat):Bool :=
 Region.noSelect ops&&(iY acts fin last==ops.size)&&GV ops acts fin last (Array.replicate ops.size false)
def nG (F:Fence) (n:Nat) (P:Program) (ops:Array Oper) (Q:Act→World→Prop) (last:List Nat):(World→Prop)→List (List Nat × Nat)→Act→World→Prop
 |S2,[],a,w=>∃ S3:World→Prop,(∀ w,S3 w→S2 w)∧S3 w∧wpQuiet P ops S3 (fun a3=>Q a3 w) (pick ops last) a
 |S2,(seg,i) :: more,a,w=>wpQuiet P ops (Whole w) (fun a0=>∃ S3:World→Prop,(∀ w,S3 w→S2 w)∧S3 w∧wpQuiet P ops S3 (fun a'=>wpListIn F n P ops (fun e a'' w''=>e=.normal∧S3 w''∧nG F n P ops Q last S3 more a'' w'') (pick ops [i]) a' w) (pick ops (NC ops i seg)) a0) (pick ops (Ky ops i seg)) a
def pz (F:Fence) (n:Nat) (P:Program) (ops:Array Oper) (Q:Act→World→Prop):(World→Prop)→(World→Prop)→List (List Nat × Nat)→Fin1→List Nat→Act→World→Prop
 |S,_,[],none,last,a,w=>wpQuiet P ops S (fun a'=>Q a' w) (pick ops last) a
 |S,S2,[],some (bM,dZ,f,tl),last,a,w=>wpQuiet P ops S (fun a0=>∃ S3:World→Prop,(∀ w,S3 w→S2 w)∧S3 w∧wpQuiet P ops S3 (fun a'=>wpListIn F n P ops (fun e a'' w''=>e=.normal∧S3 w''∧nG F n P ops Q last S3 tl a'' w'') (pick ops [f]) a' w) (pick ops dZ) a0) (pick ops bM) a
 |S,S2,(seg,i) :: more,fin,last,a,w=>wpQuiet P ops S (fun a0=>∃ S3:World→Prop,(∀ w,S3 w→S2 w)∧S3 w∧wpQuiet P ops S3 (fun a'=>wpListIn F n P ops (fun e a'' w''=>e=.normal∧∃ S':World→Prop,(∀ w,S' w→S w)∧S' w''∧S3 w''∧pz F n P ops Q S' S3 more fin last a'' w'') (pick ops [i]) a' w) (pick ops (kL ops fin seg)) a0) (pick ops (kT ops fin seg)) a
theorem kZ:∀ (seg:List Nat) (l l':Array Bool),l.size=ops.size→bK ops seg l=some l'→l.getD f false=true→l'.getD f false=true
 |[],l,l',_,h,hf=>by simp only [bK,Option.some.injEq] at h;subst h;exact hf
 |i :: is,l,l',hs,h,hf=>by
  unfold bK at h
  split at h
  case isFalse=>cases h
  rename_i hc
  simp only [Bool.and_eq_true] at hc
  have hr:i∈Region.ready .any ops l:=by simpa using hc.2
  refine kZ is _ l' (by simpa using hs) h ?_
  rw [fF _ _ _ (eP hs hr)]
  split
  ·rfl
  ·exact hf
theorem pY {S S' S2:World→Prop} {g:Nat}:∀ (m:Nat) (l:Array Bool) (a:Act) (w:World),l.size=ops.size→l.getD g false=true→iH F n P ops S' S2 f Q m l a w→iH F n P ops S S2 g Q m l a w
 |0,_,_,_,_,_,h=>h
 |m+1,l,a,w,hs,hg,h=>⟨h.1,fun i hi=>wpOpIn_mono (fun a' w' h'=>by
   have hg':(l.setIfInBounds i true).getD g false=true:=by
    rw [fF _ _ _ (eP hs hi)]
    split
    ·rfl
    ·exact hg
   exact ⟨⟨.inl hg',h'.1.2⟩,pY m _ _ _ (by simpa using hs) hg' h'.2⟩) (h.2 i hi)⟩
theorem aiu (i:Nat) (seg:List Nat):(NC ops i seg).length+(Ky ops i seg).length=seg.length:=by
 have:=congrArg List.length (List.takeWhile_append_dropWhile (p:=vg ops ops.size i) (l:=seg))
 rw [List.length_append] at this
 unfold Ky NC;omega
theorem wE {S:World→Prop} (hF:∀ f,F.fn f) (hnd:jA ops=true) (hsel:Region.noSelect ops=true) {last:List Nat}:∀ (tl:List (List Nat × Nat)) (S2:World→Prop) (l:Array Bool) (a:Act) (w:World),l.size=ops.size→Closed ops l→l.getD f false=true→S2 w→zC ops f last tl l=true →
  nG F n P ops Q last S2 tl a w→iH F n P ops S S2 f Q (fQ last tl) l a w
 |[],S2,l,a,w,hs,hc,hf,h2,hB,h=>by
  unfold zC at hB
  simp only [Bool.and_eq_true] at hB
  obtain ⟨hl,hB⟩:=hB
  split at hB
  case h_2=>cases hB
  rename_i l2 hq2
  unfold nG at h
  obtain ⟨S3,hS3,hw3,h⟩:=h
  refine fA (S':=S) (S2':=S3) (fun _ h=>h) hS3 _ _ _ _ ?_
  have h3:=eY (F:=F) (n:=n) (P:=P) (S:=S) (Q:=Q) (f:=f) hF hnd hsel (S2:=S3) (T:=S3) (w:=w) last 0 l l2 a hs hc ⟨.inl hf,hw3⟩
   (fun i hi=>⟨by have:=List.all_eq_true.1 hl i hi;simpa using this,fun _ _ _ _ _ _ h=>h.2⟩) hq2 (fun _ _ _=>trivial) (dB (fun a3 h3 _ _ _=>⟨by simpa using hB,h3⟩) _ _ h)
  simpa [fQ] using h3
 |(seg,i) :: more,S2,l,a,w,hs,hc,hf,h2,hB,h=>by
  unfold zC at hB
  simp only [Bool.and_eq_true,bne_iff_ne] at hB
  obtain ⟨⟨hl,hfi⟩,hB⟩:=hB
  have hlA:∀ j∈Ky ops i seg,j∈seg:=fun j hj=>(List.takeWhile_prefix (vg ops ops.size i)).subset hj
  have hlB:∀ j∈NC ops i seg,j∈seg:=fun j hj=>(List.dropWhile_suffix (vg ops ops.size i)).subset hj
  have hne:∀ j∈seg,f≠j∧i≠j:=fun j hj=>by have:=List.all_eq_true.1 hl j hj;simpa using this
  split at hB
  case h_2=>cases hB
  rename_i l0 hq0
  split at hB
  case h_2=>cases hB
  rename_i l1 hq1
  simp only [Bool.and_eq_true,beq_iff_eq] at hB
  obtain ⟨hr,hB⟩:=hB
  unfold nG at h
  have h3:=eY (F:=F) (n:=n) (P:=P) (S:=Whole w) (Q:=Q) (f:=i) (S2:=S2) hF hnd hsel (T:=Whole w) (w:=w) (Ky ops i seg) (fQ last more+1+(NC ops i seg).length) l l0 a hs hc ⟨.inr (Whole.refl w),h2⟩ (fun j hj=>by
   have hd:vg ops ops.size i j=true:=List.all_eq_true.1 (List.all_takeWhile (p:=vg ops ops.size i) (l:=seg)) j hj
   refine ⟨(hne j (hlA j hj)).2,fun l _ hc hu _ w hS=>hS.1.resolve_left fun hf=>?_⟩
   rw [hc.dep _ _ _ hf hd] at hu;cases hu) hq0 (fun _ _ _=>trivial) (dB (fun a0 h0 hs0 hc0 hS0=>by
    obtain ⟨S3,hS3,hw3,h0⟩:=h0
    refine fA (S':=Whole w) (S2':=S3) (fun _ h=>h) hS3 _ _ _ _ ?_
    refine eY (F:=F) (n:=n) (P:=P) (S:=Whole w) (Q:=Q) (f:=i) (S2:=S3) hF hnd hsel (T:=S3) (w:=w) (NC ops i seg) (fQ last more+1) l0 l1 a0 hs0 hc0 ⟨hS0.1,hw3⟩ (fun j hj=>⟨(hne j (hlB j hj)).2,fun _ _ _ _ _ _ h=>h.2⟩) hq1 (fun _ _ _=>trivial) (dB (fun a' h' hs1 hc1 _=>by
     refine ⟨fun h0=>(by rw [hr] at h0;cases h0),fun j hj=>?_⟩
     have hj':=hj
     rw [hr] at hj
     obtain rfl:j=i:=by simpa using hj
     have hf0:=kZ _ l l0 hs hq0 hf
     have hf1:=kZ _ l0 l1 hs0 hq1 hf0
     have hg1:(l1.setIfInBounds j true).getD j false=true:=by rw [fF _ _ _ (eP hs1 hj'),if_pos rfl]
     have hf2:(l1.setIfInBounds j true).getD f false=true:=by
      rw [fF _ _ _ (eP hs1 hj')]
      split
      ·rfl
      ·exact hf1
     exact vU hF (fun a2 w2 h3=>⟨⟨.inl hg1,h3.1⟩,pY (S':=S) _ _ _ _ (by simpa using hs1) hg1 (wE hF hnd hsel more S3 _ _ _ (by simpa using hs1) (hc1.set hs1 hj') hf2 h3.1 hB h3.2)⟩) h') _ _ h0)) _ _ h)
  have e:=aiu (ops:=ops) i seg
  simp only [fQ]
  rw [show fQ last more+1+seg.length=fQ last more+1+(NC ops i seg).length+(Ky ops i seg).length by omega]
  exact pY _ _ _ _ hs hf h3
theorem Oi {S S2:World→Prop} {fin:Fin1} {seg:List Nat} (h:Kz ops fin seg=true):∀ i∈kT ops fin seg,jL ops fin≠i∧∀ l:Array Bool,l.size=ops.size→Closed ops l→l.getD i false=false→(∀ j,l.getD j false=true∨True)→∀ w,((l.getD (jL ops fin) false=true∨S w)∧S2 w)→S w:=fun i hi=>by
 have hd:oK ops fin i=true:=List.all_eq_true.1 (List.all_takeWhile (p:=oK ops fin) (l:=seg)) i hi
 have hm:i∈seg:=(List.takeWhile_prefix (oK ops fin)).subset hi
 cases fin with
 |none =>
  have:=List.all_eq_true.1 h i hm
  simp only [decide_eq_true_eq] at this
  refine ⟨by simp only [jL];omega,fun l hs hc hu _ w hS=>hS.1.resolve_left fun hf=>?_⟩
  simp only [jL] at hf
  rw [Array.getD_eq_getD_getElem?,Array.getElem?_eq_none (by omega)] at hf;cases hf
 |some p =>
  have:=List.all_eq_true.1 h i hm
  simp only [bne_iff_ne] at this
  refine ⟨this,fun l _ hc hu _ w hS=>hS.1.resolve_left fun hf=>?_⟩
  rw [hc.dep _ _ _ hf hd] at hu;cases hu
theorem Oj {S S2:World→Prop} {fin:Fin1} {seg:List Nat} (h:Kz ops fin seg=true):∀ i∈kL ops fin seg,jL ops fin≠i∧∀ l:Array Bool,l.size=ops.size→Closed ops l→l.getD i false=false→(∀ j,l.getD j false=true∨True)→∀ w,((l.getD (jL ops fin) false=true∨S w)∧S2 w)→S2 w:=fun i hi=>by
 have hm:i∈seg:=(List.dropWhile_suffix (oK ops fin)).subset hi
 refine ⟨?_,fun l _ _ _ _ w hS=>hS.2⟩
 cases fin with
 |none =>
  have:=List.all_eq_true.1 h i hm
  simp only [decide_eq_true_eq] at this
  simp only [jL];omega
 |some p =>
  have:=List.all_eq_true.1 h i hm
  simp only [bne_iff_ne] at this
  exact this
theorem acK (fin:Fin1) (seg:List Nat):(kL ops fin seg).length+(kT ops fin seg).length=seg.length:=by
 have:=congrArg List.length (List.takeWhile_append_dropWhile (p:=oK ops fin) (l:=seg))
 rw [List.length_append] at this
 unfold kT kL;omega
theorem yK (hF:∀ f,F.fn f) (hnd:jA ops=true) (hsel:Region.noSelect ops=true) {fin:Fin1} {last:List Nat}:∀ (acts:List (List Nat × Nat)) (S S2:World→Prop) (l:Array Bool) (a:Act) (w:World),l.size=ops.size→Closed ops l→GV ops acts fin last l=true→S w→S2 w →
  pz F n P ops Q S S2 acts fin last a w→iH F n P ops S S2 (jL ops fin) Q (iY acts fin last) l a w
 |[],S,S2,l,a,w,hs,hc,hB,hS,hS2,h=>by
  cases fin with
  |none =>
   unfold GV at hB
   simp only [Bool.and_eq_true] at hB
   obtain ⟨hl,hB⟩:=hB
   split at hB
   case h_2=>cases hB
   rename_i l1 hq1
   unfold pz at h
   have:=eY (F:=F) (n:=n) (P:=P) (S:=S) (Q:=Q) (f:=ops.size) (S2:=S2) hF hnd hsel (T:=S) (w:=w) last 0 l l1 a hs hc ⟨.inr hS,hS2⟩ (fun i hi=>by
    have:=List.all_eq_true.1 hl i hi
    simp only [decide_eq_true_eq] at this
    refine ⟨by omega,fun l hs hc hu _ w hS=>hS.1.resolve_left fun hf=>?_⟩
    rw [Array.getD_eq_getD_getElem?,Array.getElem?_eq_none (by omega)] at hf;cases hf) hq1 (fun _ _ _=>trivial) (dB (fun a' h' _ _ _=>⟨by simpa using hB,h'⟩) _ _ h)
   simpa [iY,jL] using this
  |some p =>
   obtain ⟨bM,dZ,f,tl⟩:=p
   unfold GV at hB
   simp only [Bool.and_eq_true] at hB
   obtain ⟨⟨hsg,hsu⟩,hB⟩:=hB
   split at hB
   case h_2=>cases hB
   rename_i l0 hq0
   split at hB
   case h_2=>cases hB
   rename_i l1 hq1
   simp only [Bool.and_eq_true,beq_iff_eq] at hB
   obtain ⟨hr,hB⟩:=hB
   unfold pz at h
   have:=eY (F:=F) (n:=n) (P:=P) (S:=S) (Q:=Q) (f:=f) (S2:=S2) hF hnd hsel (T:=S) (w:=w) bM (fQ last tl+1+dZ.length) l l0 a hs hc ⟨.inr hS,hS2⟩ (fun i hi=>by
    have:=List.all_eq_true.1 hsg i hi
    simp only [Bool.and_eq_true,bne_iff_ne] at this
    refine ⟨this.1,fun l _ hc hu _ w hS=>hS.1.resolve_left fun hf=>?_⟩
    rw [hc.dep _ _ _ hf this.2] at hu;cases hu) hq0 (fun _ _ _=>trivial) (dB (fun a0 h0 hs0 hc0 hS0=>by
     obtain ⟨S3,hS3,hw3,h0⟩:=h0
     refine fA (S':=S) (S2':=S3) (fun _ h=>h) hS3 _ _ _ _ ?_
     refine eY (F:=F) (n:=n) (P:=P) (S:=S) (Q:=Q) (f:=f) (S2:=S3) hF hnd hsel (T:=S3) (w:=w) dZ (fQ last tl+1) l0 l1 a0 hs0 hc0 ⟨hS0.1,hw3⟩ (fun i hi=>by
      have:=List.all_eq_true.1 hsu i hi
      simp only [bne_iff_ne] at this
      exact ⟨this,fun _ _ _ _ _ _ h=>h.2⟩) hq1 (fun _ _ _=>trivial) (dB (fun a' h' hs1 hc1 _=>by
       refine ⟨fun h0=>(by rw [hr] at h0;cases h0),fun j hj=>?_⟩
       have hj':=hj
       rw [hr] at hj
       obtain rfl:j=f:=by simpa using hj
       have hf1:(l1.setIfInBounds j true).getD j false=true:=by rw [fF _ _ _ (eP hs1 hj'),if_pos rfl]
       exact vU hF (fun a2 w2 h3=>⟨⟨.inl hf1,h3.1⟩,wE hF hnd hsel tl S3 _ _ _ (by simpa using hs1) (hc1.set hs1 hj') hf1 h3.1 hB h3.2⟩) h') _ _ h0)) _ _ h)
   simpa [iY,jL] using this
 |(seg,i) :: more,S,S2,l,a,w,hs,hc,hB,hS,hS2,h=>by
  unfold GV at hB
  simp only [Bool.and_eq_true] at hB
  obtain ⟨hsg,hB⟩:=hB
  split at hB
  case h_2=>cases hB
  rename_i l0 hq0
  split at hB
  case h_2=>cases hB
  rename_i l1 hq1
  simp only [Bool.and_eq_true,beq_iff_eq] at hB
  obtain ⟨hr,hB⟩:=hB
  unfold pz at h
  have:=eY (F:=F) (n:=n) (P:=P) (S:=S) (Q:=Q) (f:=jL ops fin) (S2:=S2) hF hnd hsel (T:=S) (w:=w) (kT ops fin seg) (iY more fin last+1+(kL ops fin seg).length) l l0 a hs hc ⟨.inr hS,hS2⟩ (Oi hsg) hq0 (fun _ _ _=>trivial) (dB (fun a0 h0 hs0 hc0 hS0=>by
    obtain ⟨S3,hS3,hw3,h0⟩:=h0
    refine fA (S':=S) (S2':=S3) (fun _ h=>h) hS3 _ _ _ _ ?_
    refine eY (F:=F) (n:=n) (P:=P) (S:=S) (Q:=Q) (f:=jL ops fin) (S2:=S3) hF hnd hsel (T:=S3) (w:=w) (kL ops fin seg) (iY more fin last+1) l0 l1 a0 hs0 hc0 ⟨hS0.1,hw3⟩ (Oj hsg) hq1 (fun _ _ _=>trivial) (dB (fun a' h' hs1 hc1 _=>by
     refine ⟨fun h0=>(by rw [hr] at h0;cases h0),fun j hj=>?_⟩
     have hj':=hj
     rw [hr] at hj
     obtain rfl:j=i:=by simpa using hj
     refine vU hF (fun a2 w2 h2=>?_) h'
     obtain ⟨S',k1,k2,k3,k4⟩:=h2
     exact ⟨⟨.inr (k1 _ k2),k3⟩,fA k1 (fun _ h=>h) _ _ _ _ (yK hF hnd hsel more S' S3 _ _ _ (by simpa using hs1) (hc1.set hs1 hj') hB k2 k3 k4)⟩) _ _ h0)) _ _ h)
  have e:=acK (ops:=ops) fin seg
  simp only [iY]
  rw [show iY more fin last+1+seg.length=iY more fin last+1+(kL ops fin seg).length+(kT ops fin seg).length by omega]
  exact this
theorem zQ {id:Nat} {l:Array Oper} {a:Act} {w:World} {Q:Exit→Act→World→Prop} (S:World→Prop) {acts:List (List Nat × Nat)} {fin:Fin1} {last:List Nat} (hF:∀ f,F.fn f) (hm:P.follows .mixedOrders=true)
  (hnd:jA l=true) (hB:QJ l acts fin last=true) (hS:S w.drew) (h:pz F n P l (Q .normal) S (fun _=>True) acts fin last a w.drew):(Code.region id l true).wpIn F n P Q a w:=by
 simp only [QJ,Bool.and_eq_true,beq_iff_eq] at hB
 obtain ⟨⟨hsel,hn⟩,hB⟩:=hB
 refine Code.wpIn_mono (Q:=bF (Q .normal)) (fun e a w h=>by obtain ⟨rfl,h⟩:=h;exact h) (wpIn_region_any hm ?_)
 have:=wC _ _ _ _ (yK hF hnd hsel acts S (fun _=>True) (Array.replicate l.size false) a _ (by simp) (fun m o hm=>absurd hm (by rw [Array.getD_eq_getD_getElem?,Array.getElem?_replicate];split<;>simp)) hB hS trivial h)
 rw [hn] at this
 exact this
end
end Go.Proofs.YtaaokejjmdbfaaaDoor

namespace Go.Proofs.YtaaokejjmdbfaaaDoor
open Go.RowKit
def core:fM→fM
 |.grd _ _ v=>v
 |v=>v
def BI:fM→Bool
 |.aj ..|.aB ..|.un ..|.pick ..|.bin ..|.conv ..|.mn ..|.aX ..|.RG ..|.bC ..|.fld ..|.idx ..|.len ..|.lens ..|.isn ..|.ext ..|.sli ..|.Qs ..|.eqb ..|.eqm ..=>true
 |_=>false
def xA (v:fM):Bool:=BI v || match v with
 |.Qu ..=>true
 |_=>false
def xB:fM→Bool
 |.build ..|.NJ ..=>true
 |_=>false
def kM:Bool→List fM→Bool
 |_,[]=>true
 |ok,v :: vs=>(BI (core v)&&kM ok vs) || (xB (core v)&&kM false vs) || (ok&&xA (core v)&&kM ok vs)
def qZ (P:Program) (bU:Array Oper) (seg:List Nat) (vs:List fM):Bool:=mL P bU (pick bU seg) vs&&vs.all fun v=>!kW (core v)
def xC (P:Program) (bU:Array Oper) (last:List Nat):List (List Nat × Nat)→List fM→Bool
 |[],vs=>mL P bU (pick bU last) vs&&kM true vs
 |(seg,i) :: more,vs=>qZ P bU (Ky bU i seg) (vs.take (Ky bU i seg).length)&&mL P bU (pick bU (NC bU i seg)) ((vs.drop (Ky bU i seg).length).take (NC bU i seg).length)&&kM true ((vs.drop (Ky bU i seg).length).take (NC bU i seg).length)&&match (vs.drop (Ky bU i seg).length).drop (NC bU i seg).length with
  |v :: vs=>mL P bU (pick bU [i]) [v]&&xC P bU last more vs
  |[]=>false
def wF (P:Program) (bU:Array Oper) (fin:Fin1) (last:List Nat):List (List Nat × Nat)→List fM→Bool
 |[],vs=>match fin with
  |none=>qZ P bU last vs
  |some (bM,dZ,f,tl)=>qZ P bU bM (vs.take bM.length)&&mL P bU (pick bU dZ) ((vs.drop bM.length).take dZ.length)&&kM true ((vs.drop bM.length).take dZ.length)&&match (vs.drop bM.length).drop dZ.length with
   |v :: vs=>mL P bU (pick bU [f]) [v]&&xC P bU last tl vs
   |[]=>false
 |(seg,i) :: more,vs=>qZ P bU (kT bU fin seg) (vs.take (kT bU fin seg).length)&&mL P bU (pick bU (kL bU fin seg)) ((vs.drop (kT bU fin seg).length).take (kL bU fin seg).length)&&kM true ((vs.drop (kT bU fin seg).length).take (kL bU fin seg).length)&&match (vs.drop (kT bU fin seg).length).drop (kL bU fin seg).length with
  |v :: vs=>mL P bU (pick bU [i]) [v]&&Kw v&&wF P bU fin last more vs
  |[]=>false
section
variable {P:Program} {F:Fence} {C:Ctx} {n L nb:Nat} {σ σ':Nat→Nat} {T T' T1 T2:Tags} {st st' st1:St} {a a1:Act} {w w1:World} {o:Oper} {vo:fM} {y:Operand} {x:bP} {d:Nat}
 {rec:ak→St→Option (Ex × St)} {env:Env} {next:Act→World→Prop} {Q:Exit→Act→World→Prop} {bU:Array Oper} {ds:List Deferred} {e:Ex}
theorem zD (h:aI L σ T st a w) (hm:mG P bU o vo=true) (hp:op rec env vo st=some st') :
  (Region.wanted o (yielded bU a.tmps)=true∧m1 P o (core vo)=true∧op1 rec env (core vo) st=some st')∨(Region.wanted o (yielded bU a.tmps)=false∧aI L σ T st' (a.put o.dst undef) w):=by
 by_cases hg:∃ g want v,vo=.grd g want v
 ·obtain ⟨g,want,v,rfl⟩:=hg
  rcases EJ h hm hp with g|⟨g1,g2,_⟩
  ·exact .inl g
  ·exact .inr ⟨g1,g2⟩
 ·have hm':o.guard.isNone=true∧m1 P o vo=true:=by
   cases vo<;>first|exact Bool.and_eq_true_iff.1 hm|exact absurd ⟨_,_,_,rfl⟩ hg
  have hp':op1 rec env vo st=some st':=by
   cases vo<;>first|exact hp|exact absurd ⟨_,_,_,rfl⟩ hg
  have hw:Region.wanted o (yielded bU a.tmps)=true:=by
   simp only [Region.wanted,Option.isNone_iff_eq_none.1 hm'.1]
  have hc:core vo=vo:=by
   cases vo<;>first|rfl|exact absurd ⟨_,_,_,rfl⟩ hg
  rw [hc]
  exact .inl ⟨hw,hm'.2,hp'⟩
theorem BJ (h:aI L σ T st a w) (hm:m1 P o vo=true) (hq:BI vo=true) (hp:plain vo st=some st'):rU P L σ T st' a w o:=by
 simp only [m1,Bool.and_eq_true,beq_iff_eq] at hm
 obtain ⟨hd,hm⟩:=hm
 cases vo<;>simp only [BI,Bool.false_eq_true] at hq<;>simp only [mv] at hm
 case aj d x =>
  split at hm<;>try (cases hm;done)
  rename_i ho;exact wY h hd (.inl ho) hm false hp
 case aB d x =>
  split at hm<;>try (cases hm;done)
  ·rename_i ho;exact wY h hd (.inr ho) hm true hp
  ·rename_i ho;exact wY h hd (.inl ho) hm true hp
 case pick d c x x2 =>
  split at hm<;>try (cases hm;done)
  rename_i ho
  simp only [Bool.and_eq_true] at hm
  exact Em h hd ho hm.1.1 hm.1.2 hm.2 hp
 case bin d b x x2 =>
  split at hm<;>try (cases hm;done)
  rename_i ho
  simp only [Bool.and_eq_true,beq_iff_eq] at hm
  obtain ⟨⟨rfl,h1⟩,h2⟩:=hm
  exact JO h hd ho h1 h2 hp
 case un d b x =>
  split at hm<;>try (cases hm;done)
  rename_i ho
  simp only [Bool.and_eq_true,beq_iff_eq] at hm
  obtain ⟨rfl,h1⟩:=hm
  exact QB h hd ho h1 hp
 case conv d k x =>
  split at hm<;>try (cases hm;done)
  rename_i ho
  simp only [Bool.and_eq_true] at hm
  exact Eo h hd ho hm.1.1 (J8 hm.1.2) (EC hm.2) hp
 case mn d mx x x2 =>
  split at hm<;>try (cases hm;done)
  rename_i b y y2 T0 T1 ho
  simp only [Bool.and_eq_true,beq_iff_eq] at hm
  obtain ⟨⟨rfl,h1⟩,h2⟩:=hm
  exact QC h hd (Bq ho) h1 h2 hp
 case aX d x off =>
  split at hm
  case h_3=>cases hm
  case h_2 =>
   rename_i ho
   simp only [Bool.and_eq_true,beq_iff_eq] at hm
   obtain ⟨h1,rfl⟩:=hm
   exact JU h hd ho h1 hp
  rename_i ho
  simp only [Bool.and_eq_true] at hm
  obtain ⟨h1,h2⟩:=hm
  split at h2<;>try (cases h2;done)
  rename_i fd hf
  simp only [Bool.and_eq_true,beq_iff_eq] at h2
  obtain ⟨rfl,h3⟩:=h2
  split at h3<;>try (cases h3;done)
  rename_i k hk
  exact Eu h hd ho h1 hf hk hp
 case RG d x x2 len sz=>cases hm
 case bC d sz x x2 =>
  split at hm<;>try (cases hm;done)
  rename_i ho
  simp only [Bool.and_eq_true] at hm
  obtain ⟨⟨h1,h2⟩,h3⟩:=hm
  split at h3<;>try (cases h3;done)
  rename_i e he
  exact Ew h hd ho h1 h2 he (beq_iff_eq.1 h3) hp
 case fld d x off n=>cases hm
 case idx d x x2 len sz n=>cases hm
 case len d x =>
  split at hm<;>try (cases hm;done)
  rename_i b y T0 ho
  simp only [Bool.and_eq_true,beq_iff_eq] at hm
  obtain ⟨⟨rfl,h1⟩,h2⟩:=hm
  obtain ⟨e,he⟩:=Option.isSome_iff_exists.1 h2
  exact JV h hd (Ko ho) h1 he hp
 case lens d x=>cases hm
 case isn d neg x=>cases hm
 case ext d x i =>
  split at hm<;>try (cases hm;done)
  rename_i ho
  simp only [Bool.and_eq_true,beq_iff_eq] at hm
  obtain ⟨h1,rfl⟩:=hm
  exact JW h hd ho h1 hp
 case sli d sz x lo hi=>cases hm
 case Qs d neg n x x2 =>
  split at hm<;>try (cases hm;done)
  rename_i ho
  simp only [Bool.and_eq_true,beq_iff_eq] at hm
  obtain ⟨⟨⟨⟨h1,h2⟩,h3⟩,h4⟩,h5⟩:=hm
  exact JM h hd ho h1 h2 h3 h4 h5 hp
 case eqb d neg x x2=>cases hm
 case eqm d neg ks x x2=>cases hm
theorem KA (h:aI L σ T st a w) (hm:m1 P o vo=true) (hq:xB vo=true) (hp:plain vo st=some st'):Qz P L σ T st' a w o:=by
 simp only [m1,Bool.and_eq_true,beq_iff_eq] at hm
 obtain ⟨hd,hm⟩:=hm
 cases vo<;>simp only [xB,Bool.false_eq_true] at hq<;>simp only [mv] at hm
 case build d z m =>
  split at hm<;>try (cases hm;done)
  rename_i T0 l ho
  simp only [Bool.and_eq_true] at hm
  obtain ⟨⟨h1,h2⟩,h3⟩:=hm
  exact Bf h hd (l:=l.toList) (by simpa using ho) h1 h2 (zy h3) hp
 case NJ d z parts off t=>cases hm
def Ol (S:World→Prop) (P:Program) (L:Nat) (σ:Nat→Nat) (T:Tags) (st':St) (a:Act) (w:World) (o:Oper):Prop :=
 ∃ v T',(∀ w',S w'→(execOp a.eval o).run P w'=.ok (.value v) w')∧aI L σ T' st' (a.put o.dst v) w∧Still T T'
theorem BK:∀ {l:List fM} {st st':St},(∀ v∈l,kW (core v)=false)→ops rec env l st=some st'→aP st st'
 |[],st,st',_,h=>by simp only [ops,Option.some.injEq] at h;subst h;exact aP.refl _
 |v :: l,st,st',hl,h=>by
  simp only [ops] at h
  obtain ⟨st1,h1,h2⟩:=bind_some h
  refine aP.trans ?_ (BK (fun u hu=>hl u (by simp [hu])) h2)
  have hv:=hl v (by simp)
  unfold op at h1
  split at h1
  ·simp only [core] at hv
   split at h1
   ·split at h1
    ·simp only [op1,hv] at h1;exact qU h1
    ·split at h1
     ·rw [← Option.some.inj h1];exact (aP.refl _).put _ _
     ·rw [← Option.some.inj h1];exact aP.refl _
   ·split at h1
    ·split at h1
     ·rw [← Option.some.inj h1];exact (aP.refl _).put _ _
     ·rw [← Option.some.inj h1];exact aP.refl _
    ·cases h1
   ·cases h1
  ·rename_i v' hne
   have hc:core v=v:=by
    unfold core;split
    ·exact (hne _ _ _ rfl).elim
    ·rfl
   rw [hc] at hv
   simp only [op1,hv] at h1;exact qU h1
theorem yL {S:World→Prop} {vs0:List fM} {K:Act→Prop} {I:St→Prop} (hI:∀ v∈vs0,∀ s1 s2,op rec env v s1=some s2→I s1→I s2) (hlook:∀ T1 st1 st2 a1 o v,I st1→Still T T1→kW (core v)=false→aI L σ T1 st1 a1 w→m1 P o (core v)=true→v∈vs0→plain (core v) st1=some st2→Ol S P L σ T1 st2 a1 w o) :
  ∀ {l:List Oper} {vs:List fM} {st:St} {T1:Tags} {a:Act},(∀ v∈vs,v∈vs0∧kW (core v)=false)→I st→Still T T1→aI L σ T1 st a w→mL P bU l vs=true→ops rec env vs st=some st' →
  (∀ a' T',aI L σ T' st' a' w→Still T T'→a'.defers=a.defers→K a')→wpQuiet P bU S K l a
 |[],[],st,T1,a,_,_,ht,h,_,hp,hK=>by
  simp only [ops,Option.some.injEq] at hp;subst hp
  exact hK _ _ h ht rfl
 |[],_ :: _,_,_,_,_,_,_,_,hm,_,_=>by simp [mL] at hm
 |_ :: _,[],_,_,_,_,_,_,_,hm,_,_=>by simp [mL] at hm
 |o :: l,v :: vs,st,T1,a,hvs,hi,ht,h,hm,hp,hK=>by
  simp only [mL,Bool.and_eq_true] at hm
  simp only [ops] at hp
  obtain ⟨st1,h1,h2⟩:=bind_some hp
  obtain ⟨hin,hact⟩:=hvs v (by simp)
  unfold wpQuiet
  rcases zD h hm.1 h1 with ⟨g1,g2,g3⟩|⟨g1,g2⟩
  ·rw [if_pos g1]
   simp only [op1,hact] at g3
   obtain ⟨u,T2,k1,k2,k3⟩:=hlook T1 st st1 a o v hi ht hact h g2 hin g3
   refine ⟨u,fun w' hw'=>?_,yL hI hlook (fun v hv=>hvs v (by simp [hv])) (hI v hin _ _ h1 hi) (ht.trans k3) k2 hm.2 h2 fun a' T' q1 q2 q3=>hK a' T' q1 q2 (q3.trans put_defers)⟩
   unfold Oper.quietAt
   rw [k1 w' hw']
   exact ⟨rfl,rfl⟩
  ·rw [if_neg (by rw [g1];simp)]
   exact yL hI hlook (fun v hv=>hvs v (by simp [hv])) (hI v hin _ _ h1 hi) ht g2 hm.2 h2 fun a' T' q1 q2 q3=>hK a' T' q1 q2 (q3.trans put_defers)
theorem Wh {S:World→Prop} {vs0:List fM} {K:Act→Prop} (hlook:∀ T1 st1 st2 a1 o v,Still T T1→kW (core v)=false→aI L σ T1 st1 a1 w→m1 P o (core v)=true→v∈vs0→plain (core v) st1=some st2→Ol S P L σ T1 st2 a1 w o) :
  ∀ {l:List Oper} {vs:List fM} {st:St} {T1:Tags} {a:Act},(∀ v∈vs,v∈vs0∧kW (core v)=false)→Still T T1→aI L σ T1 st a w→mL P bU l vs=true→ops rec env vs st=some st' →
  (∀ a' T',aI L σ T' st' a' w→Still T T'→a'.defers=a.defers→K a')→wpQuiet P bU S K l a:=fun hvs ht h hm hp hK =>
 yL (I:=fun _=>True) (fun _ _ _ _ _ _=>trivial) (fun T1 st1 st2 a1 o v _=>hlook T1 st1 st2 a1 o v) hvs trivial ht h hm hp hK
theorem KC (h:aI L σ T st a w) (hm:m1 P o vo=true) (hp:plain vo st=some st'):Ol (Whole w) P L σ T st' a w o:=by
 obtain ⟨v,T',h1,h2,h3⟩:=zA h hm hp
 exact ⟨v,T',fun w' hw=>h1 w' hw.sees,h2,h3⟩
theorem eG {l1 l2:List fM} {st st':St} (h:ops rec env (l1++l2) st=some st'):∃ st1,ops rec env l1 st=some st1∧ops rec env l2 st1=some st':=by
 induction l1 generalizing st with
 |nil=>exact ⟨st,rfl,h⟩
 |cons v l ih =>
  simp only [List.cons_append,ops] at h ⊢
  obtain ⟨st1,h1,h2⟩:=bind_some h
  obtain ⟨st2,h3,h4⟩:=ih h2
  exact ⟨st2,by rw [h1];exact h3,h4⟩
end
end Go.Proofs.YtaaokejjmdbfaaaDoor

namespace Go.Proofs.YtaaokejjmdbfaaaDoor
open Go.RowKit
section
variable {P:Program} {F:Fence} {C:Ctx} {n L nb:Nat} {σ σ':Nat→Nat} {T T' T1 T2:Tags} {st st' st1:St} {a a1:Act} {w w1:World} {o:Oper} {vo:fM} {y:Operand} {x:bP} {d:Nat}
 {rec:ak→St→Option (Ex × St)} {env:Env} {next:Act→World→Prop} {Q:Act→World→Prop} {bU:Array Oper} {ds:List Deferred} {e:Ex}
theorem aI.jQ:∀ (fz:List bP) {st:St} {T:Tags},aI L σ T st a w→∃ T1,aI L σ T1 (fz.foldl St.gG st) a w∧Still T T1
 |[],st,T,h=>⟨T,h,Still.refl T⟩
 |x :: fz,st,T,h=>by
  have:∃ T1,aI L σ T1 (st.gG x) a w∧Still T T1:=by
   unfold St.gG
   split
   ·rename_i p _ _
    refine ⟨_,h.aZ p,?_⟩
    split
    ·exact Still.gZ T p
    ·exact Still.refl T
   ·exact ⟨T,h,Still.refl T⟩
  obtain ⟨T1,h1,h2⟩:=this
  obtain ⟨T2,h3,h4⟩:=aI.jQ fz h1
  exact ⟨T2,h3,h2.trans h4⟩
theorem yM {K:Act→Prop} {seg:List Nat} {vs:List fM} (h:aI L σ T st a w) (hm:qZ P bU seg vs=true) (hp:ops rec env vs st=some st') (hK:∀ a' T',aI L σ T' st' a' w→Still T T'→a'.defers=a.defers→aP st st'→K a'):wpQuiet P bU (Whole w) K (pick bU seg) a:=by
 simp only [qZ,Bool.and_eq_true] at hm
 have hv:∀ v∈vs,v∈vs∧kW (core v)=false:=fun v hv=>⟨hv,by simpa using List.all_eq_true.1 hm.2 v hv⟩
 have hmono:=BK (rec:=rec) (env:=env) (fun v h=>(hv v h).2) hp
 exact Wh (vs0:=vs) (fun T1 st1 st2 a1 o v _ _ hs hm _ hp=>KC hs hm hp) hv (Still.refl T) h hm.1 hp fun a' T' g1 g2 g3=>hK a' T' g1 g2 g3 hmono
theorem EK {v:fM} (hv:xA v=true):kW v=false:=by
 cases v<;>first|rfl|(simp [xA,BI] at hv)
def GX (T:Tags) (w w':World):Prop:=w.heap.size≤w'.heap.size∧∀ b,b<w.heap.size→T b=.ro→w'.heap[b]?=w.heap[b]?
theorem dn.adx (h:dn T T' w w1):GX T w w1:=⟨h.size,h.same⟩
theorem Even.trans {T T' T'':Tags} (h:Even T T') (k:Even T' T''):Even T T'':=⟨h.still.trans k.still,fun b e=>h.back b (k.back b e)⟩
theorem KD {v:fM} (hv:xB v=true):kW v=false:=by
 cases v<;>first|rfl|(simp [xB] at hv)
theorem mW:∀ {ok:Bool} {vs:List fM},kM ok vs=true→∀ v∈vs,kW (core v)=false
 |ok,[],_,v,hv=>by cases hv
 |ok,u :: vs,h,v,hv=>by
  simp only [kM,Bool.or_eq_true,Bool.and_eq_true] at h
  rcases List.mem_cons.1 hv with rfl|hv
  ·rcases h with (h|h)|h
   ·exact EK (by simp only [xA,h.1,Bool.true_or])
   ·exact KD h.1
   ·exact EK h.1.2
  ·rcases h with (h|h)|h
   ·exact mW h.2 v hv
   ·exact mW h.2 v hv
   ·exact mW h.2 v hv
theorem pF {S:World→Prop} (hS:∀ w',S w'→GX T w w') {K:Act→Prop}:∀ {ok:Bool} {l:List Oper} {vs:List fM} {st:St} {T1:Tags} {a:Act},kM ok vs=true→(ok=true→Even T T1)→Still T T1→aI L σ T1 st a w→mL P bU l vs=true→ops rec env vs st=some st' →
  (∀ a' T',aI L σ T' st' a' w→Still T T'→a'.defers=a.defers→K a')→wpQuiet P bU S K l a
 |_,[],[],st,T1,a,_,_,ht,h,_,hp,hK=>by
  simp only [ops,Option.some.injEq] at hp;subst hp
  exact hK _ _ h ht rfl
 |_,[],_ :: _,_,_,_,_,_,_,_,hm,_,_=>by simp [mL] at hm
 |_,_ :: _,[],_,_,_,_,_,_,_,hm,_,_=>by simp [mL] at hm
 |ok,o :: l,v :: vs,st,T1,a,hq,he,ht,h,hm,hp,hK=>by
  have hact:=mW hq v (by simp)
  simp only [kM,Bool.or_eq_true,Bool.and_eq_true] at hq
  simp only [mL,Bool.and_eq_true] at hm
  simp only [ops] at hp
  obtain ⟨st1,h1,h2⟩:=bind_some hp
  unfold wpQuiet
  rcases zD h hm.1 h1 with ⟨g1,g2,g3⟩|⟨g1,g2⟩
  ·rw [if_pos g1]
   simp only [op1,hact] at g3
   rcases hq with (hq|hq)|hq
   ·obtain ⟨u,T2,k1,k2,k3⟩:=BJ h g2 hq.1 g3
    exact ⟨u,fun w' _=>by unfold Oper.quietAt;rw [k1 w'];exact ⟨rfl,rfl⟩,pF hS hq.2 (fun e=>(he e).trans k3) (ht.trans k3.still) k2 hm.2 h2 fun a' T' q1 q2 q3=>hK a' T' q1 q2 (q3.trans put_defers)⟩
   ·obtain ⟨u,T2,k1,k2,k3⟩:=KA h g2 hq.1 g3
    exact ⟨u,fun w' _=>by unfold Oper.quietAt;rw [k1 w'];exact ⟨rfl,rfl⟩,pF hS hq.2 (fun e=>by cases e) (ht.trans k3) k2 hm.2 h2 fun a' T' q1 q2 q3=>hK a' T' q1 q2 (q3.trans put_defers)⟩
   ·obtain ⟨⟨q1,q2⟩,q3⟩:=hq
    have he:=he q1
    simp only [xA,Bool.or_eq_true] at q2
    rcases q2 with q2|q2
    ·obtain ⟨u,T2,k1,k2,k3⟩:=BJ h g2 q2 g3
     exact ⟨u,fun w' _=>by unfold Oper.quietAt;rw [k1 w'];exact ⟨rfl,rfl⟩,pF hS q3 (fun _=>he.trans k3) (ht.trans k3.still) k2 hm.2 h2 fun a' T' q1 q2 q3=>hK a' T' q1 q2 (q3.trans put_defers)⟩
    ·generalize core v=u at g2 g3 q2
     cases u<;>simp only [Bool.false_eq_true] at q2
     rename_i d n x
     simp only [m1,Bool.and_eq_true,beq_iff_eq,mv] at g2
     obtain ⟨hd,hm'⟩:=g2
     split at hm'<;>try (cases hm';done)
     rename_i ho
     simp only [Bool.and_eq_true,beq_iff_eq] at hm'
     obtain ⟨b,u,k3,k4,k5,k6⟩:=JQ h hd ho hm'.1 hm'.2 g3
     exact ⟨u,fun w' hw'=>by unfold Oper.quietAt;rw [k3 w' ((hS w' hw').2 _ k5 (he.back _ k6))];exact ⟨rfl,rfl⟩,pF hS q3 (fun _=>he) ht k4 hm.2 h2 fun a' T' q1 q2 q3=>hK a' T' q1 q2 (q3.trans put_defers)⟩
  ·rw [if_neg (by rw [g1];simp)]
   rcases hq with (hq|hq)|hq
   ·exact pF hS hq.2 he ht g2 hm.2 h2 fun a' T' q1 q2 q3=>hK a' T' q1 q2 (q3.trans put_defers)
   ·exact pF hS hq.2 (fun e=>by cases e) ht g2 hm.2 h2 fun a' T' q1 q2 q3=>hK a' T' q1 q2 (q3.trans put_defers)
   ·exact pF hS hq.2 he ht g2 hm.2 h2 fun a' T' q1 q2 q3=>hK a' T' q1 q2 (q3.trans put_defers)
theorem aax {S:World→Prop} (hS:∀ w',S w'→GX T w w') {K:Act→Prop} {l:List Oper} {vs:List fM} (h:aI L σ T st a w) (hm:mL P bU l vs=true) (hq:kM true vs=true) (hp:ops rec env vs st=some st') (hK:∀ a' T',aI L σ T' st' a' w→Still T T'→a'.defers=a.defers→aP st st'→K a'):wpQuiet P bU S K l a:=by
 have hmono:=BK (rec:=rec) (env:=env) (mW hq) hp
 exact pF hS hq (fun _=>Even.refl T) (Still.refl T) h hm hp fun a' T' g1 g2 g3=>hK a' T' g1 g2 g3 hmono
theorem wG (hW:jW F) (hC:C.Ok P L) (aW:fE P rec env) (h:aI L σ T st a w) (hJ:C.J st.ys.length T w) (hst:st.stop=C.stop) {i:Nat} (hm:mL P bU (pick bU [i]) [vo]=true) (hp:op rec env vo st=some st') (hX:st'.ys <+: C.X) {R:Act→World→Prop}
  (hn:∀ a' w',After C L st.boxes.length σ T w st' a.defers a' w'→(Kw vo=true→Whole w w')→R a' w'):wpListIn F n P bU (fun e a'' w''=>e=.normal∧R a'' w'') (pick bU [i]) a w:=by
 cases ho:bU[i]? with
 |none=>simp [pick,ho,mL] at hm
 |some o =>
  simp only [pick,List.filterMap_cons,ho,List.filterMap_nil,mL,Bool.and_eq_true] at hm ⊢
  simp only [wpListIn]
  exact V9 hW hC aW h hJ hst hm.1 hp hX fun a' w' g1 g2=>⟨trivial,hn a' w' g1 g2⟩
theorem pG {v:fM} {vs:List fM} (h:ops rec env (v :: vs) st=some st'):∃ st1,op rec env v st=some st1∧ops rec env vs st1=some st':=bind_some h
def ND (S2:World→Prop) (T:Tags) (w:World):World→Prop:=fun w'=>S2 w'∧GX T w w'
theorem fU {S2:World→Prop} (zS:∀ T' w',dn T T' w w'→S2 w'):∀ T' w',dn T T' w w'→ND S2 T w w':=fun T' w' h=>⟨zS T' w' h,h.adx⟩
theorem ru {S2:World→Prop} {K:Act→Prop} {l:List Oper} {vs:List fM} (h:aI L σ T st a w) (hm:mL P bU l vs=true) (hq:kM true vs=true) (hp:ops rec env vs st=some st') (hK:∀ a' T',aI L σ T' st' a' w→Still T T'→a'.defers=a.defers→aP st st'→K a'):wpQuiet P bU (ND S2 T w) K l a:=by
 exact aax (fun _ h=>h.2) h hm hq hp hK
theorem GY (hW:jW F) (hC:C.Ok P L) (aW:fE P rec env) (hX:st'.ys <+: C.X) {last:List Nat}:∀ {tl:List (List Nat × Nat)} {S2:World→Prop} {vs:List fM} {st:St} {σ:Nat→Nat} {T:Tags} {a:Act} {w:World},aI L σ T st a w→(∀ T' w',dn T T' w w'→S2 w')→C.J st.ys.length T w→st.stop=C.stop→xC P bU last tl vs=true→ops rec env vs st=some st' →
  (∀ a' w',After C L st.boxes.length σ T w st' a.defers a' w'→Q a' w')→nG F n P bU Q last S2 tl a w
 |[],S2,vs,st,σ,T,a,w,h,zS,hJ,hst,hm,hp,hn=>by
  unfold nG
  simp only [xC,Bool.and_eq_true] at hm
  refine ⟨ND S2 T w,fun _ h=>h.1,fU zS T w (dn.refl T w),?_⟩
  refine ru h hm.1 hm.2 hp fun a3 T3 q1 q2 q3 q4=>hn _ _ ?_
  rw [← q3]
  exact After.qX hC q1 (by rw [q4.2.1];exact hJ) (q2.nC w) fun _ _=>rfl
 |(seg,i) :: more,S2,vs,st,σ,T,a,w,h,zS,hJ,hst,hm,hp,hn=>by
  unfold nG
  simp only [xC,Bool.and_eq_true] at hm
  obtain ⟨⟨⟨hm1,hmu⟩,hmq⟩,hm2⟩:=hm
  split at hm2
  case h_2=>cases hm2
  rename_i v vs' hvs
  simp only [Bool.and_eq_true] at hm2
  obtain ⟨hm2,hm3⟩:=hm2
  rw [← List.take_append_drop (Ky bU i seg).length vs,← List.take_append_drop (NC bU i seg).length (vs.drop (Ky bU i seg).length),hvs] at hp
  obtain ⟨st1,p1,p2⟩:=eG hp
  obtain ⟨st1',pu,p2⟩:=eG p2
  obtain ⟨st2,p2,p3⟩:=pG p2
  have gl:=fG (rec:=rec) (env:=env) p3
  refine yM h hm1 p1 fun a0 T0 f1 f2 f3 f4=>?_
  have wH:∀ T' w',dn T0 T' w w'→S2 w':=fun T' w' hw=>zS T' w' ((f2.nC w).stays.trans hw)
  refine ⟨ND S2 T0 w,fun _ h=>h.1,fU wH T0 w (dn.refl T0 w),?_⟩
  refine ru f1 hmu hmq pu fun a1 T1 g1 g2e g3 g4'=>?_
  have g2':=g2e
  have g2:=f2.trans g2'
  have g4:=f4.trans g4'
  have hJ1:C.J st1'.ys.length T1 w:=by rw [g4.2.1];exact hC.keep _ _ _ _ _ (g2.nC w) hJ
  refine wG hW hC aW g1 hJ1 (g4.2.2.trans hst) hm2 p2 (gl.2.1.trans hX) ?_
  rintro a2 w2 ⟨σ2,T2,ms,k1,k2,k3,k4,k5,k6⟩ _
  have hs4:=((g2'.nC w).stays).trans k4
  have hn3:∀ T' w',dn T2 T' w2 w'→ND S2 T0 w w':=fun T' w' hw'=>fU wH T' w' (hs4.trans hw')
  refine ⟨hn3 _ _ (dn.refl _ _),GY hW hC aW hX k1 hn3 k2 (((iD p2).2.2.trans g4.2.2).trans hst) hm3 p3 fun a' w' hA=>hn _ _ ?_⟩
  exact After.trans (((g2.nC w).stays).trans k4) (fun k hk=>k3 k (Nat.lt_of_lt_of_le hk g4.1)) (by rw [k5,g3,f3]) k6 (Nat.le_trans g4.1 (iD p2).1) hA
theorem Om (hW:jW F) (hC:C.Ok P L) (aW:fE P rec env) (hX:st'.ys <+: C.X) {fin:Fin1} {last:List Nat}:∀ {acts:List (List Nat × Nat)} {S2:World→Prop} {vs:List fM} {st:St} {σ:Nat→Nat} {T:Tags} {a:Act} {w:World},aI L σ T st a w→(∀ T' w',dn T T' w w'→S2 w')→C.J st.ys.length T w→st.stop=C.stop→wF P bU fin last acts vs=true→ops rec env vs st=some st' →
  (∀ a' w',After C L st.boxes.length σ T w st' a.defers a' w'→Q a' w')→pz F n P bU Q (Whole w) S2 acts fin last a w
 |[],S2,vs,st,σ,T,a,w,h,zS,hJ,hst,hm,hp,hn=>by
  cases fin with
  |none =>
   unfold pz
   simp only [wF] at hm
   refine yM h hm hp fun a' T' g1 g2 g3 g4=>hn _ _ ?_
   rw [← g3]
   exact After.qX hC g1 (by rw [g4.2.1];exact hJ) (g2.nC w) fun _ _=>rfl
  |some p =>
   obtain ⟨bM,dZ,f,tl⟩:=p
   unfold pz
   simp only [wF,Bool.and_eq_true] at hm
   obtain ⟨⟨⟨hm1,hmu⟩,hmq⟩,hm2⟩:=hm
   split at hm2
   case h_2=>cases hm2
   rename_i v vs' hvs
   simp only [Bool.and_eq_true] at hm2
   obtain ⟨hm2,hm3⟩:=hm2
   rw [← List.take_append_drop bM.length vs,← List.take_append_drop dZ.length (vs.drop bM.length),hvs] at hp
   obtain ⟨st1,p1,p2⟩:=eG hp
   obtain ⟨st1',pu,p2⟩:=eG p2
   obtain ⟨st2,p2,p3⟩:=pG p2
   have gl:=fG (rec:=rec) (env:=env) p3
   refine yM h hm1 p1 fun a0 T0 f1 f2 f3 f4=>?_
   have wH:∀ T' w',dn T0 T' w w'→S2 w':=fun T' w' hw=>zS T' w' ((f2.nC w).stays.trans hw)
   refine ⟨ND S2 T0 w,fun _ h=>h.1,fU wH T0 w (dn.refl T0 w),?_⟩
   refine ru f1 hmu hmq pu fun a1 T1 g1 g2e g3 g4'=>?_
   have g2':=g2e
   have g2:=f2.trans g2'
   have g4:=f4.trans g4'
   have hJ1:C.J st1'.ys.length T1 w:=by rw [g4.2.1];exact hC.keep _ _ _ _ _ (g2.nC w) hJ
   refine wG hW hC aW g1 hJ1 (g4.2.2.trans hst) hm2 p2 (gl.2.1.trans hX) ?_
   rintro a2 w2 ⟨σ2,T2,ms,k1,k2,k3,k4,k5,k6⟩ _
   have hs4:=((g2'.nC w).stays).trans k4
   have hn3:∀ T' w',dn T2 T' w2 w'→ND S2 T0 w w':=fun T' w' hw'=>fU wH T' w' (hs4.trans hw')
   refine ⟨hn3 _ _ (dn.refl _ _),GY hW hC aW hX k1 hn3 k2 (((iD p2).2.2.trans g4.2.2).trans hst) hm3 p3 fun a' w' hA=>hn _ _ ?_⟩
   exact After.trans (((g2.nC w).stays).trans k4) (fun k hk=>k3 k (Nat.lt_of_lt_of_le hk g4.1)) (by rw [k5,g3,f3]) k6 (Nat.le_trans g4.1 (iD p2).1) hA
 |(seg,i) :: more,S2,vs,st,σ,T,a,w,h,zS,hJ,hst,hm,hp,hn=>by
  unfold pz
  simp only [wF,Bool.and_eq_true] at hm
  obtain ⟨⟨⟨hm1,hmu⟩,hmq⟩,hm2⟩:=hm
  split at hm2
  case h_2=>cases hm2
  rename_i v vs' hvs
  simp only [Bool.and_eq_true] at hm2
  obtain ⟨⟨hm2,hm3⟩,hm4⟩:=hm2
  rw [← List.take_append_drop (kT bU fin seg).length vs,← List.take_append_drop (kL bU fin seg).length (vs.drop (kT bU fin seg).length),hvs] at hp
  obtain ⟨st1,p1,p2⟩:=eG hp
  obtain ⟨st1',pu,p2⟩:=eG p2
  obtain ⟨st2,p2,p3⟩:=pG p2
  have gl:=fG (rec:=rec) (env:=env) p3
  refine yM h hm1 p1 fun a0 T0 f1 f2 f3 f4=>?_
  have wH:∀ T' w',dn T0 T' w w'→S2 w':=fun T' w' hw=>zS T' w' ((f2.nC w).stays.trans hw)
  refine ⟨ND S2 T0 w,fun _ h=>h.1,fU wH T0 w (dn.refl T0 w),?_⟩
  refine ru f1 hmu hmq pu fun a1 T1 g1 g2e g3 g4'=>?_
  have g2':=g2e
  have g2:=f2.trans g2'
  have g4:=f4.trans g4'
  have hJ1:C.J st1'.ys.length T1 w:=by rw [g4.2.1];exact hC.keep _ _ _ _ _ (g2.nC w) hJ
  refine wG hW hC aW g1 hJ1 (g4.2.2.trans hst) hm2 p2 (gl.2.1.trans hX) ?_
  rintro a2 w2 ⟨σ2,T2,ms,k1,k2,k3,k4,k5,k6⟩ hwh
  have hwh:=hwh hm3
  have hs4:=((g2'.nC w).stays).trans k4
  have hn3:∀ T' w',dn T2 T' w2 w'→ND S2 T0 w w':=fun T' w' hw'=>fU wH T' w' (hs4.trans hw')
  refine ⟨Whole w2,fun w' hw'=>⟨Nat.le_trans hwh.1 hw'.1,fun b hb=>(hw'.2 b (Nat.lt_of_lt_of_le hb hwh.1)).trans (hwh.2 b hb)⟩,Whole.refl w2,hn3 _ _ (dn.refl _ _),?_⟩
  refine Om hW hC aW hX k1 hn3 k2 (((iD p2).2.2.trans g4.2.2).trans hst) hm4 p3 fun a' w' hA=>hn _ _ ?_
  exact After.trans (((g2.nC w).stays).trans k4) (fun k hk=>k3 k (Nat.lt_of_lt_of_le hk g4.1)) (by rw [k5,g3,f3]) k6 (Nat.le_trans g4.1 (iD p2).1) hA
theorem EL (T:Tags) (w:World):oU T w w.drew:=⟨Nat.le_refl _,fun _ _ _=>rfl⟩
theorem xE (T:Tags) (w:World):uG T T w w.drew:=⟨Nat.le_refl _,rfl,rfl,rfl,fun _ _ _=>rfl,fun _ h=>h,fun _ _ h=>h⟩
theorem D7 {id:Nat} {Q:Exit→Act→World→Prop} (hW:jW F) (hC:C.Ok P L) (aW:fE P rec env) (h:aI L σ T st a w) (hJ:C.J st.ys.length T w) (hst:st.stop=C.stop) (hX:st'.ys <+: C.X) {acts:List (List Nat × Nat)} {fin:Fin1} {last:List Nat} {vs:List fM}
  (hmo:P.follows .mixedOrders=true) (hnd:jA bU=true) (hok:QJ bU acts fin last=true) (hm:wF P bU fin last acts vs=true) (hp:ops rec env vs st=some st')
  (hn:∀ a' w',After C L st.boxes.length σ T w st' a.defers a' w'→Q .normal a' w'):(Code.region id bU true).wpIn F n P Q a w:=by
 refine zQ (Whole w.drew) hW.fn hmo hnd hok (Whole.refl _) ?_
 refine Om hW hC aW hX (h.sees (EL T w)) (fun _ _ _=>trivial) (hC.keep _ _ _ _ _ (xE T w) hJ) hst hm hp fun a' w' hA=>hn _ _ ?_
 exact After.trans (ms:=[]) (xE T w).stays (fun _ _=>rfl) rfl Marks.nil (Nat.le_refl _) hA
end
end Go.Proofs.YtaaokejjmdbfaaaDoor

namespace Go.Proofs.YtaaokejjmdbfaaaDoor
open Go.RowKit
theorem BL (a:ByteArray):qx a a=true:=by unfold qx;exact beq_self_eq_true _
theorem GZ {a b:ByteArray} (h:qx a b=true):a=b:=by
 unfold qx at h
 have h:=eq_of_beq h
 obtain ⟨a⟩:=a;obtain ⟨b⟩:=b
 simp only at h
 congr
 exact Array.toList_inj.1 h
mutual
theorem PV.iZ:∀ x:PV,PV.same x x=true
 |.int k n=>by simp [PV.same]
 |.bool b=>by simp [PV.same]
 |.str s=>by simp [PV.same,BL]
 |.list sz es=>by simp [PV.same,PV.fB es]
 |.agg cs=>by simp [PV.same,PV.fB cs]
 |.func f cs=>by simp [PV.same,PV.fB cs]
 |.su=>by simp [PV.same]
 |.dS cs j=>by simp [PV.same,PV.fB cs]
 |.void=>by simp [PV.same]
 |.kU s=>by simp [PV.same]
theorem PV.fB:∀ l:List PV,PV.jg l l=true
 |[]=>by simp [PV.jg]
 |x :: xs=>by simp [PV.jg,PV.iZ x,PV.fB xs]
end
mutual
theorem PV.same_eq:∀ x y:PV,PV.same x y=true→x=y
 |.int k n,y,h=>by cases y<;>simp_all [PV.same]
 |.bool b,y,h=>by cases y<;>simp_all [PV.same]
 |.str s,y,h=>by
  cases y<;>simp only [PV.same,Bool.false_eq_true] at h
  rw [GZ h]
 |.list sz es,y,h=>by
  cases y<;>simp only [PV.same,Bool.false_eq_true,Bool.and_eq_true,beq_iff_eq] at h
  rw [h.1,PV.iI _ _ h.2]
 |.agg cs,y,h=>by
  cases y<;>simp only [PV.same,Bool.false_eq_true] at h
  rw [PV.iI _ _ h]
 |.func f cs,y,h=>by
  cases y<;>simp only [PV.same,Bool.false_eq_true,Bool.and_eq_true,beq_iff_eq] at h
  rw [h.1,PV.iI _ _ h.2]
 |.su,y,h=>by cases y<;>simp_all [PV.same]
 |.dS cs j,y,h=>by
  cases y<;>simp only [PV.same,Bool.false_eq_true,Bool.and_eq_true,beq_iff_eq] at h
  rw [h.1,PV.iI _ _ h.2]
 |.void,y,h=>by cases y<;>simp_all [PV.same]
 |.kU s,y,h=>by cases y<;>simp_all [PV.same]
theorem PV.iI:∀ l m:List PV,PV.jg l m=true→l=m
 |[],m,h=>by cases m<;>simp_all [PV.jg]
 |x :: xs,m,h=>by
  cases m<;>simp only [PV.jg,Bool.false_eq_true,Bool.and_eq_true] at h
  rw [PV.same_eq _ _ h.1,PV.iI _ _ h.2]
end
mutual
theorem AV.iZ:∀ x:AV,AV.same x x=true
 |.pv x=>by simp [AV.same,PV.iZ]
 |.row sz es=>by simp [AV.same,PV.fB]
 |.ref r a b=>by simp [AV.same]
 |.aQ o j=>by simp [AV.same]
 |.ny r i j=>by simp [AV.same]
 |.fn f cs=>by simp [AV.same,AV.fB cs]
 |.jY k l=>by simp [AV.same,AV.fB l]
 |.DN sz es=>by simp [AV.same,PV.fB]
 |.oQ=>by simp [AV.same]
 |.any=>by simp [AV.same]
theorem AV.fB:∀ l:List AV,AV.jg l l=true
 |[]=>by simp [AV.jg]
 |x :: xs=>by simp [AV.jg,AV.iZ x,AV.fB xs]
end
mutual
theorem AV.same_eq:∀ x y:AV,AV.same x y=true→x=y
 |.pv x,y,h=>by
  cases y<;>simp only [AV.same,Bool.false_eq_true] at h
  rw [PV.same_eq _ _ h]
 |.row sz es,y,h=>by
  cases y<;>simp only [AV.same,Bool.false_eq_true,Bool.and_eq_true,beq_iff_eq] at h
  rw [h.1,PV.iI _ _ h.2]
 |.ref r a b,y,h=>by cases y<;>simp_all [AV.same]
 |.aQ o j,y,h=>by cases y<;>simp_all [AV.same]
 |.ny r i j,y,h=>by cases y<;>simp_all [AV.same]
 |.fn f cs,y,h=>by
  cases y<;>simp only [AV.same,Bool.false_eq_true,Bool.and_eq_true,beq_iff_eq] at h
  rw [h.1,AV.iI _ _ h.2]
 |.jY k l,y,h=>by
  cases y<;>simp only [AV.same,Bool.false_eq_true,Bool.and_eq_true,beq_iff_eq] at h
  rw [h.1,AV.iI _ _ h.2]
 |.DN sz es,y,h=>by
  cases y<;>simp only [AV.same,Bool.false_eq_true,Bool.and_eq_true,beq_iff_eq] at h
  rw [h.1,PV.iI _ _ h.2]
 |.oQ,y,h=>by cases y<;>simp_all [AV.same]
 |.any,y,h=>by cases y<;>simp_all [AV.same]
theorem AV.iI:∀ l m:List AV,AV.jg l m=true→l=m
 |[],m,h=>by cases m<;>simp_all [AV.jg]
 |x :: xs,m,h=>by
  cases m<;>simp only [AV.jg,Bool.false_eq_true,Bool.and_eq_true] at h
  rw [AV.same_eq _ _ h.1,AV.iI _ _ h.2]
end
theorem BV.iZ (x:BV):BV.same x x=true:=by cases x<;>simp [BV.same,PV.iZ,PV.fB]
theorem BV.same_eq {x y:BV} (h:BV.same x y=true):x=y:=by
 cases x<;>cases y<;>simp only [BV.same,Bool.false_eq_true,Bool.and_eq_true,beq_iff_eq] at h
 ·rw [PV.same_eq _ _ h]
 ·rw [h.1,PV.iI _ _ h.2]
theorem mF {α:Type} {f:α→α→Bool} (hf:∀ x,f x x=true):∀ l,kV f l l=true
 |[]=>rfl
 |x :: xs=>by simp [kV,hf x,mF hf xs]
theorem pI {α:Type} {f:α→α→Bool} (hf:∀ x y,f x y=true→x=y):∀ l m,kV f l m=true→l=m
 |[],m,h=>by cases m<;>simp_all [kV]
 |x :: xs,m,h=>by
  cases m<;>simp only [kV,Bool.false_eq_true,Bool.and_eq_true] at h
  rw [hf _ _ h.1,pI hf _ _ h.2]
theorem Box.iZ (x:Box):Box.same x x=true:=by simp [Box.same,mF BV.iZ]
theorem Box.same_eq {x y:Box} (h:Box.same x y=true):x=y:=by
 obtain ⟨a,b⟩:=x;obtain ⟨c,d⟩:=y
 simp only [Box.same,Bool.and_eq_true,beq_iff_eq] at h
 rw [h.1,pI (fun _ _=>BV.same_eq) _ _ h.2]
theorem St.iZ (s:St):s.same s=true:=by
 simp [St.same,AV.fB,mF Box.iZ,mF PV.fB]
theorem St.same_eq {a b:St} (h:a.same b=true):a=b:=by
 obtain ⟨a1,a2,a3,a4⟩:=a;obtain ⟨b1,b2,b3,b4⟩:=b
 simp only [St.same,Bool.and_eq_true,decide_eq_true_eq] at h
 rw [AV.iI _ _ h.1,pI (fun _ _=>Box.same_eq) _ _ h.2.1,pI PV.iI _ _ h.2.2.1,h.2.2.2]
theorem KE {s:St}:∀ {l:List (Option St)} {r:St},agree s l=some r→r=s∧∀ o∈l,o=some s
 |[],r,h=>by simp only [agree,Option.some.injEq] at h;exact ⟨h.symm,by simp⟩
 |o :: l,r,h=>by
  unfold agree at h
  obtain ⟨s',h1,h2⟩:=Option.bind_eq_some_iff.1 h
  split at h2
  case isFalse=>cases h2
  rename_i hs
  have:=St.same_eq hs
  subst this
  obtain ⟨g1,g2⟩:=KE h2
  exact ⟨g1,fun o' ho=>by rcases List.mem_cons.1 ho with rfl|ho;exact h1;exact g2 o' ho⟩
def nH (p:Nat→Nat) (T:Tags):Tags:=fun b=>match T b with
 |.box o=>.box (p o)
 |.row r=>.row (r.ren p)
 |q=>q
section
variable {L:Nat} {σ:Nat→Nat} {T:Tags} {st st':St} {a:Act} {w:World} {p:Nat→Nat}
theorem yN {b:Nat} (h:T b=.ro):nH p T b=.ro:=by simp [nH,h]
theorem xG {b:Nat} (h:T b=.other):nH p T b=.other:=by simp [nH,h]
theorem Oo {b o:Nat} (h:T b=.box o):nH p T b=.box (p o):=by simp [nH,h]
theorem Oq {b:Nat} {r:Root} (h:T b=.row r):nH p T b=.row (r.ren p):=by simp [nH,h]
theorem Still.ren (p:Nat→Nat) (T:Tags):Still T (nH p T):=⟨fun _=>yN,fun _=>xG⟩
theorem aI.ren (h:aI L σ T st a w) (hp:∀ o,p (p o)=o) (h1:st'.slots=st.slots.map (AV.ren p)) (h2:∀ o:Nat,st'.boxes[p o]?=st.boxes[o]?) (h3:∀ o,o<st.boxes.length→p o<st'.boxes.length) :
  aI L (fun o=>σ (p o)) (nH p T) st' a w:=by
 have hw:∀ b,T b=.ro→b<w.heap.size→nH p T b=.ro∧w.heap[b]?=w.heap[b]?:=fun b e _=>⟨yN e,rfl⟩
 have hrow:∀ r sz es v,aH T w r sz es v→aH (nH p T) w (r.ren p) sz es v:=fun r sz es v hr=>hr.frame (fun b e _=>⟨Oq e,rfl⟩) hw
 have hget:∀ (t:Nat),st'.slots[t]?=(st.slots[t]?).map (AV.ren p):=fun t=>by rw [h1,List.getElem?_map]
 have aiv:∀ (x:AV) sz es,x.ren p=.row sz es→x=.row sz es:=fun x sz es e=>by cases x<;>simp [AV.ren] at e ⊢<;>exact e
 have hr:∀ r sz es,st'.row (r.ren p)=some (sz,es)→st.row r=some (sz,es):=fun r sz es e=>by
  cases r with
  |slot t =>
   simp only [Root.ren,St.row,hget] at e ⊢
   cases hs:st.slots[t]? with
   |none=>rw [hs] at e;simp at e
   |some x =>
    rw [hs] at e
    simp only [Option.map_some] at e
    split at e
    ·rename_i q;rw [aiv x _ _ (Option.some.inj q)];exact e
    ·cases e
  |part t i=>simp [Root.ren,St.row] at e
  |cell o j=>simp only [Root.ren,St.row,h2] at e ⊢;exact e
 have hh:∀ r,hdr (fun o=>σ (p o)) a w (r.ren p)=hdr σ a w r:=fun r=>by cases r<;>simp [hdr,Root.ren,hp]
 have hlow:∀ r:Root,r.low st.boxes.length→(r.ren p).low st'.boxes.length:=fun r hl=>by cases r<;>simp only [Root.low,Root.ren] at hl ⊢;exact h3 _ hl
 refine ⟨by simp [h1,h.size],fun t av v ht hv=>?_,fun o bx ho=>?_,fun b hb=>xG (h.fresh b hb)⟩
 ·rw [hget] at ht
  obtain ⟨x,hx,rfl⟩:=Option.map_eq_some_iff.1 ht
  have g:=h.slots t x v hx hv
  cases x with
  |pv y=>exact ay.frame hw g
  |row sz es=>exact hrow _ _ _ _ g
  |ref r off len=>exact ⟨hlow r g.1,fun sz es e=>by rw [hh];exact g.2 sz es (hr r sz es e)⟩
  |aQ o j=>exact ⟨h3 o g.1,by rw [g.2];simp [hp]⟩
  |ny r i j=>exact ⟨hlow r g.1,fun sz es e=>by rw [hh];exact g.2 sz es (hr r sz es e)⟩
  |fn f caps =>
   obtain ⟨arr,e1,e2,e3⟩:=g
   refine ⟨arr,e1,by simpa using e2,fun k y u hy hu=>?_⟩
   rw [List.getElem?_map] at hy
   obtain ⟨z,hz,rfl⟩:=Option.map_eq_some_iff.1 hy
   have g:=e3 k z u hz hu
   cases z<;>simp only [gU,Vt] at g ⊢
   case pv=>exact ay.frame hw g
   case aQ o j=>exact ⟨h3 o g.1,by rw [g.2];simp [hp]⟩
  |jY k l =>
   obtain ⟨arr,e1,e2,e3⟩:=g
   refine ⟨arr,e1,e2,fun k y u hy hu=>?_⟩
   have g:=e3 k y u hy hu
   cases y<;>simp only [iP] at g ⊢
   case pv=>exact ay.frame hw g
   case row sz es=>exact hrow _ _ _ _ g
  |DN sz es=>exact ⟨ay.frame hw g.1,g.2⟩
  |oQ=>exact g
  |any=>trivial
 ·have ho':st.boxes[p o]?=some bx:=by rw [← h2,hp];exact ho
  obtain ⟨arr,E,g1,g2,g3,g4,g5⟩:=h.boxes (p o) bx ho'
  refine ⟨arr,E,g1,g2,?_,g4,fun j bv u hj hu=>?_⟩
  ·split at g3
   ·rename_i e;rw [if_pos e];exact yN g3
   ·rename_i e;rw [if_neg e,Oo g3,hp]
  ·obtain ⟨k1,k2⟩:=g5 j bv u hj hu
   refine ⟨k1,?_⟩
   cases bv with
   |pv x=>exact ay.frame hw k2
   |row sz es =>
    have:=hrow _ _ _ _ k2
    have e:(Root.cell (p o) j).ren p=.cell o j:=by simp [Root.ren,hp]
    rw [e] at this
    exact this
theorem Ot (m o:Nat):swapAt m (swapAt m o)=o:=by
 unfold swapAt
 split<;>split<;>simp_all<;>omega
theorem aI.swap2 (h:aI L σ T st a w) {nb:Nat} (hs:st.swap2 nb=some st'):∃ σ' T',aI L σ' T' st' a w∧Still T T'∧(∀ k,k<nb→σ' k=σ k)∧st'.ys=st.ys∧st'.stop=st.stop∧st'.boxes.length=st.boxes.length:=by
 unfold St.swap2 at hs
 split at hs
 case isFalse=>cases hs
 rename_i hn
 have hs:=Option.some.inj hs
 have hlen:st'.boxes.length=st.boxes.length:=by rw [← hs];simp;omega
 refine ⟨_,_,h.ren (p:=swapAt (st.boxes.length - 2)) (Ot _) (by rw [← hs]) (fun o=>?_) (fun o ho=>?_),Still.ren _ _,fun k hk=>?_,by rw [← hs],by rw [← hs],hlen⟩
 ·have hb:st'.boxes=st.boxes.take (st.boxes.length - 2)++(st.boxes.drop (st.boxes.length - 1)++(st.boxes.drop (st.boxes.length - 2)).take 1):=by rw [← hs]
  rw [hb]
  generalize hm:st.boxes.length - 2=m
  have hl:st.boxes.length=m+2:=by omega
  rw [show st.boxes.length - 1=m+1 by omega]
  have hd:st.boxes.drop m=[st.boxes[m],st.boxes[m+1]]:=by
   rw [List.drop_eq_getElem_cons (by omega),List.drop_eq_getElem_cons (by omega),List.drop_of_length_le (by omega)]
  have hd1:st.boxes.drop (m+1)=[st.boxes[m+1]]:=by
   rw [List.drop_eq_getElem_cons (by omega),List.drop_of_length_le (by omega)]
  rw [hd,hd1]
  have htl:(st.boxes.take m).length=m:=by simp;omega
  by_cases h1:o=m
  ·subst h1
   rw [show swapAt o o=o+1 by simp [swapAt],List.getElem?_append_right (by omega),htl]
   simp [List.getElem?_eq_getElem (show o<st.boxes.length by omega)]
  ·by_cases h2:o=m+1
   ·subst h2
    rw [show swapAt m (m+1)=m by simp [swapAt],List.getElem?_append_right (by omega),htl]
    simp [List.getElem?_eq_getElem (show m+1<st.boxes.length by omega)]
   ·rw [show swapAt m o=o by simp [swapAt,h1,h2]]
    rcases Nat.lt_or_ge o m with h|h
    ·rw [List.getElem?_append_left (by omega),List.getElem?_take,if_pos h]
    ·rw [List.getElem?_append_right (by omega),htl,List.getElem?_eq_none (by simp;omega),List.getElem?_eq_none (by omega)]
 ·rw [hlen]
  unfold swapAt
  split
  ·omega
  ·split<;>omega
 ·have:swapAt (st.boxes.length - 2) k=k:=by
   unfold swapAt
   rw [if_neg (by omega),if_neg (by omega)]
  rw [this]
end
end Go.Proofs.YtaaokejjmdbfaaaDoor

namespace Go.Proofs.YtaaokejjmdbfaaaDoor
open Go.RowKit
def fZ.tail (j:Nat) (z:fZ):Option fZ:=match z.acts with
 |(_,i) :: more=>if i=j then some { z with acts:=more } else none
 |[]=>none
def tails (j:Nat) (alts:List fZ):List fZ:=alts.filterMap (fZ.tail j)
def Ad (seg:List Nat) (z:fZ):Bool:=match z.acts with
 |(s,_) :: _=>s==seg
 |[]=>false
def G6 (r:List Nat) (z:fZ):Bool:=match z.acts with
 |(_,i) :: _=>r.contains i
 |[]=>false
def Wi (z:fZ):Option fZ:=match z.acts,z.fin with
 |[],some (_,_,_,tl)=>some { z with acts:=tl,fin:=none }
 |_,_=>none
def tq (ops:Array Oper) (f:Nat):Nat→Nat→List fZ→Array Bool→Bool
 |0,k,alts,l=>match alts with
  |[x]=>zC ops f x.last x.acts l&&fQ x.last x.acts==k
  |_=>false
 |m+1,k,alts,l=>match alts with
  |[]=>false
  |[x]=>zC ops f x.last x.acts l&&fQ x.last x.acts==k
  |x :: y :: zs=>match x.acts with
   |[]=>false
   |(seg,i) :: _=>(x :: y :: zs).all (Ad seg)&&(seg.all (fun j=>f != j)&&Ky ops i seg==[])&&decide (seg.length+1≤k)&&match bK ops seg l with
    |some l1=>!(Region.ready .any ops l1).isEmpty&&(x :: y :: zs).all (G6 (Region.ready .any ops l1))&&(Region.ready .any ops l1).all fun j=>f != j&&tq ops f m (k - 1 - seg.length) (tails j (x :: y :: zs)) (l1.setIfInBounds j true)
    |none=>false
def BM (bM dZ:List Nat) (g:Nat) (z:fZ):Bool:=match z.acts with
 |[]=>match z.fin with
  |some (a,b,c,_)=>a==bM&&b==dZ&&c==g
  |none=>false
 |(s,_) :: _=>s==bM++dZ
def QK (r:List Nat) (z:fZ):Bool:=match z.acts with
 |(_,i) :: _=>r.contains i
 |[]=>true
def rV (ops:Array Oper) (f:Nat):Nat→Nat→List fZ→Array Bool→Bool
 |0,k,alts,l=>match alts with
  |[x]=>jL ops x.fin==f&&iY x.acts x.fin x.last==k&&GV ops x.acts x.fin x.last l
  |_=>false
 |m+1,k,alts,l=>match alts with
  |[]=>false
  |[x]=>jL ops x.fin==f&&iY x.acts x.fin x.last==k&&GV ops x.acts x.fin x.last l
  |x :: y :: zs=>match x.acts with
   |[]=>match x.fin with
    |none=>false
    |some (bM,dZ,g,tl)=>(y :: zs).all (BM bM dZ g)&&(x :: y :: zs).all (fun z=>jL ops z.fin==f&&z.fin.isSome==x.fin.isSome)&&Kz ops x.fin (bM++dZ)&&(kT ops x.fin (bM++dZ)==bM&&kL ops x.fin (bM++dZ)==dZ)&&decide (bM.length+dZ.length+1≤k)&&match (bK ops bM l).bind (bK ops dZ) with
     |some l1=>!(Region.ready .any ops l1).isEmpty&&(y :: zs).all (QK (Region.ready .any ops l1))&&(Region.ready .any ops l1).contains g&&(Region.ready .any ops l1).all fun j=>if j=g then tq ops f m (k - 1 - (bM.length+dZ.length)) ((x :: y :: zs).filterMap Wi) (l1.setIfInBounds j true) else rV ops f m (k - 1 - (bM.length+dZ.length)) (tails j (y :: zs)) (l1.setIfInBounds j true)
     |none=>false
   |(seg,_) :: _=>(x :: y :: zs).all (Ad seg)&&(x :: y :: zs).all (fun z=>jL ops z.fin==f&&z.fin.isSome==x.fin.isSome)&&Kz ops x.fin seg&&decide (seg.length+1≤k)&&match (bK ops (kT ops x.fin seg) l).bind (bK ops (kL ops x.fin seg)) with
    |some l1=>!(Region.ready .any ops l1).isEmpty&&(x :: y :: zs).all (G6 (Region.ready .any ops l1))&&(Region.ready .any ops l1).all fun j=>rV ops f m (k - 1 - seg.length) (tails j (x :: y :: zs)) (l1.setIfInBounds j true)
    |none=>false
def iR (last:List Nat):List (List Nat × Nat)→List Nat
 |[]=>last
 |(seg,i) :: more=>seg++(i :: iR last more)
def ady (last:List Nat):Fin1→List Nat
 |none=>last
 |some (bM,dZ,f,tl)=>bM++(dZ++(f :: iR last tl))
def iT (fin:Fin1) (last:List Nat):List (List Nat × Nat)→List Nat
 |[]=>ady last fin
 |(seg,i) :: more=>seg++(i :: iT fin last more)
def Ou (P:Program) (ops:Array Oper) (vo:List fM) (alts:List fZ):Bool :=
 Region.noSelect ops&&(alts.all fun x=>x.ord==iT x.fin x.last x.acts&&wF P ops x.fin x.last x.acts (bQ vo x.ord))&&match alts with
  |[]=>false
  |x :: _=>rV ops (jL ops x.fin) ops.size ops.size alts (Array.replicate ops.size false)
section
variable {F:Fence} {n:Nat} {P:Program} {ops:Array Oper} {Q:Act→World→Prop} {f:Nat}
def qc (F:Fence) (n:Nat) (P:Program) (ops:Array Oper) (Q:Act→World→Prop):Nat→(World→Prop)→List fZ→Act→World→Prop
 |0,S2,alts,a,w=>match alts with
  |[x]=>nG F n P ops Q x.last S2 x.acts a w
  |_=>False
 |m+1,S2,alts,a,w=>match alts with
  |[]=>False
  |[x]=>nG F n P ops Q x.last S2 x.acts a w
  |x :: y :: zs=>match x.acts with
   |[]=>False
   |(seg,_) :: _=>∃ S3:World→Prop,(∀ w,S3 w→S2 w)∧S3 w∧wpQuiet P ops S3 (fun a'=>∀ j,(tails j (x :: y :: zs))≠[]→wpListIn F n P ops (fun e a'' w''=>e=.normal∧S3 w''∧qc F n P ops Q m S3 (tails j (x :: y :: zs)) a'' w'') (pick ops [j]) a' w) (pick ops seg) a
def tu (F:Fence) (n:Nat) (P:Program) (ops:Array Oper) (Q:Act→World→Prop):Nat→(World→Prop)→(World→Prop)→List fZ→Act→World→Prop
 |0,S,S2,alts,a,w=>match alts with
  |[x]=>pz F n P ops Q S S2 x.acts x.fin x.last a w
  |_=>False
 |m+1,S,S2,alts,a,w=>match alts with
  |[]=>False
  |[x]=>pz F n P ops Q S S2 x.acts x.fin x.last a w
  |x :: y :: zs=>match x.acts with
   |[]=>match x.fin with
    |none=>False
    |some (bM,dZ,g,tl)=>wpQuiet P ops S (fun a0=>∃ S3:World→Prop,(∀ w,S3 w→S2 w)∧S3 w∧wpQuiet P ops S3 (fun a'=>wpListIn F n P ops (fun e a'' w''=>e=.normal∧S3 w''∧qc F n P ops Q m S3 ((x :: y :: zs).filterMap Wi) a'' w'') (pick ops [g]) a' w∧∀ j,j≠g→(tails j (y :: zs))≠[]→wpListIn F n P ops (fun e a'' w''=>e=.normal∧∃ S':World→Prop,(∀ w,S' w→S w)∧S' w''∧S3 w''∧tu F n P ops Q m S' S3 (tails j (y :: zs)) a'' w'') (pick ops [j]) a' w) (pick ops dZ) a0) (pick ops bM) a
   |(seg,_) :: _=>wpQuiet P ops S (fun a0=>∃ S3:World→Prop,(∀ w,S3 w→S2 w)∧S3 w∧wpQuiet P ops S3 (fun a'=>∀ j,(tails j (x :: y :: zs))≠[]→wpListIn F n P ops (fun e a'' w''=>e=.normal∧∃ S':World→Prop,(∀ w,S' w→S w)∧S' w''∧S3 w''∧tu F n P ops Q m S' S3 (tails j (x :: y :: zs)) a'' w'') (pick ops [j]) a' w) (pick ops (kL ops x.fin seg)) a0) (pick ops (kT ops x.fin seg)) a
theorem QL {m k:Nat} {l:Array Bool} {alts:List fZ} (h:rV ops f m k alts l=true):alts≠[]:=by
 rintro rfl
 cases m<;>simp [rV] at h
theorem EM {x y:Fin1} (h1:jL ops x=jL ops y) (h2:x.isSome=y.isSome):oK ops x=oK ops y:=by
 cases x<;>cases y<;>simp only [Option.isSome_none,Option.isSome_some,Bool.false_eq_true,Bool.true_eq_false] at h2
 ·rfl
 ·simp only [jL] at h1
  funext i
  simp only [oK,h1]
theorem aaz {m k:Nat} {l:Array Bool} {alts:List fZ} (h:tq ops f m k alts l=true):alts≠[]:=by
 rintro rfl
 cases m<;>simp [tq] at h
theorem Ov {S:World→Prop} (hF:∀ f,F.fn f) (hnd:jA ops=true) (hsel:Region.noSelect ops=true):∀ (m:Nat) (alts:List fZ) (k:Nat) (S2:World→Prop) (l:Array Bool) (a:Act) (w:World),l.size=ops.size→Closed ops l→l.getD f false=true→S2 w→tq ops f m k alts l=true →
  qc F n P ops Q m S2 alts a w→iH F n P ops S S2 f Q k l a w:=by
 have one:∀ (x:fZ) (k:Nat) (S2:World→Prop) (l:Array Bool) (a:Act) (w:World),l.size=ops.size→Closed ops l→l.getD f false=true→S2 w→(zC ops f x.last x.acts l&&fQ x.last x.acts==k)=true→nG F n P ops Q x.last S2 x.acts a w→iH F n P ops S S2 f Q k l a w:=fun x k S2 l a w hs hc hf hS2 hB h=>by
  simp only [Bool.and_eq_true,beq_iff_eq] at hB
  obtain ⟨h1,h2⟩:=hB
  subst h2
  exact wE hF hnd hsel _ S2 _ _ _ hs hc hf hS2 h1 h
 intro m
 induction m with
 |zero =>
  intro alts k S2 l a w hs hc hf hS2 hB h
  match alts,hB,h with
  |[x],hB,h=>exact one x k S2 l a w hs hc hf hS2 (by simpa only [tq] using hB) (by simpa only [qc] using h)
  |[],hB,_=>simp [tq] at hB
  |_ :: _ :: _,hB,_=>simp [tq] at hB
 |succ m ih =>
  intro alts k S2 l a w hs hc hf hS2 hB h
  match alts,hB,h with
  |[],hB,_=>simp [tq] at hB
  |[x],hB,h=>exact one x k S2 l a w hs hc hf hS2 (by simpa only [tq] using hB) (by simpa only [qc] using h)
  |x :: y :: zs,hB,h =>
   simp only [tq] at hB
   simp only [qc] at h
   generalize ha:x.acts=acts at hB h
   match acts,hB,h with
   |[],hB,_=>cases hB
   |(seg,i) :: more,hB,h =>
    simp only [Bool.and_eq_true,decide_eq_true_eq,beq_iff_eq] at hB h
    obtain ⟨⟨⟨_,hseg,_⟩,hk⟩,hB⟩:=hB
    obtain ⟨S3,hS3,hw3,h⟩:=h
    split at hB
    case h_2=>cases hB
    rename_i l1 hq
    simp only [Bool.and_eq_true,Bool.not_eq_true',List.isEmpty_eq_false_iff] at hB
    obtain ⟨⟨hne,_⟩,hall⟩:=hB
    refine fA (S':=S) (S2':=S3) (fun _ h=>h) hS3 _ _ _ _ ?_
    have hf1:=kZ (f:=f) _ l l1 hs hq hf
    have:=eY (F:=F) (n:=n) (P:=P) (S:=S) (Q:=Q) (f:=f) hF hnd hsel (S2:=S3) (T:=S3) (w:=w) seg (k - 1 - seg.length+1) l l1 a hs hc ⟨.inl hf,hw3⟩
     (fun i hi=>⟨by have:=List.all_eq_true.1 hseg i hi;simpa using this,fun _ _ _ _ _ _ h=>h.2⟩) hq (fun _ _ _=>trivial) (dB (fun a' h' hs1 hc1 _=>by
      refine ⟨fun h0=>absurd h0 hne,fun j hj=>?_⟩
      have hcov:=List.all_eq_true.1 hall j hj
      simp only [Bool.and_eq_true] at hcov
      have hf2:(l1.setIfInBounds j true).getD f false=true:=by
       rw [fF _ _ _ (eP hs1 hj)]
       split
       ·rfl
       ·exact hf1
      exact vU hF (fun a2 w2 h2=>⟨⟨.inl hf2,h2.1⟩,ih _ _ S3 _ _ _ (by simpa using hs1) (hc1.set hs1 hj) hf2 h2.1 hcov.2 h2.2⟩) (h' j (aaz hcov.2))) _ _ h)
    rw [show k - 1 - seg.length+1+seg.length=k by omega] at this
    exact this
theorem SQ (hF:∀ f,F.fn f) (hnd:jA ops=true) (hsel:Region.noSelect ops=true):∀ (m:Nat) (alts:List fZ) (k:Nat) (S S2:World→Prop) (l:Array Bool) (a:Act) (w:World),l.size=ops.size→Closed ops l→rV ops f m k alts l=true→S w→S2 w →
  tu F n P ops Q m S S2 alts a w→iH F n P ops S S2 f Q k l a w:=by
 have one:∀ (x:fZ) (k:Nat) (S S2:World→Prop) (l:Array Bool) (a:Act) (w:World),l.size=ops.size→Closed ops l→(jL ops x.fin==f&&iY x.acts x.fin x.last==k&&GV ops x.acts x.fin x.last l)=true→S w→S2 w→pz F n P ops Q S S2 x.acts x.fin x.last a w→iH F n P ops S S2 f Q k l a w:=fun x k S S2 l a w hs hc hB hS hS2 h=>by
  simp only [Bool.and_eq_true,beq_iff_eq] at hB
  obtain ⟨⟨h1,h2⟩,h3⟩:=hB
  subst h1;subst h2
  exact yK hF hnd hsel x.acts S S2 l a w hs hc h3 hS hS2 h
 intro m
 induction m with
 |zero =>
  intro alts k S S2 l a w hs hc hB hS hS2 h
  match alts,hB,h with
  |[x],hB,h=>exact one x k S S2 l a w hs hc (by simpa only [rV] using hB) hS hS2 (by simpa only [tu] using h)
  |[],hB,_=>simp [rV] at hB
  |_ :: _ :: _,hB,_=>simp [rV] at hB
 |succ m ih =>
  intro alts k S S2 l a w hs hc hB hS hS2 h
  match alts,hB,h with
  |[],hB,_=>simp [rV] at hB
  |[x],hB,h=>exact one x k S S2 l a w hs hc (by simpa only [rV] using hB) hS hS2 (by simpa only [tu] using h)
  |x :: y :: zs,hB,h =>
   simp only [rV] at hB
   simp only [tu] at h
   generalize ha:x.acts=acts at hB h
   match acts,hB,h with
   |[],hB,h =>
    generalize Z7:x.fin=fin at hB h
    match fin,Z7,hB,h with
    |none,_,hB,_=>cases hB
    |some (bM,dZ,g,tl),Z7,hB,h =>
     simp only [Bool.and_eq_true,decide_eq_true_eq,beq_iff_eq] at hB h
     obtain ⟨⟨⟨⟨⟨_,hfs⟩,hsg⟩,hsA,hsB⟩,hk⟩,hB⟩:=hB
     have hfx:jL ops (some (bM,dZ,g,tl))=f:=by
      have:=List.all_eq_true.1 hfs x (by simp)
      simp only [Bool.and_eq_true,beq_iff_eq] at this
      rw [← Z7];exact this.1
     have hg:g=f:=hfx
     split at hB
     case h_2=>cases hB
     rename_i l1 hq
     obtain ⟨l0,hq0,hq1⟩:=Option.bind_eq_some_iff.1 hq
     simp only [Bool.and_eq_true,Bool.not_eq_true',List.isEmpty_eq_false_iff] at hB
     obtain ⟨⟨⟨hne,_⟩,_⟩,hall⟩:=hB
     have hA:=Oi (S:=S) (S2:=S2) hsg
     rw [hfx,hsA] at hA
     have:=eY (F:=F) (n:=n) (P:=P) (S:=S) (Q:=Q) (f:=f) (S2:=S2) hF hnd hsel (T:=S) (w:=w) bM (k - 1 - (bM.length+dZ.length)+1+dZ.length) l l0 a hs hc ⟨.inr hS,hS2⟩ hA hq0 (fun _ _ _=>trivial) (dB (fun a0 h0 hs0 hc0 hS0=>by
       obtain ⟨S3,hS3,hw3,h0⟩:=h0
       refine fA (S':=S) (S2':=S3) (fun _ h=>h) hS3 _ _ _ _ ?_
       have hBt:=Oj (S:=S) (S2:=S3) hsg
       rw [hfx,hsB] at hBt
       refine eY (F:=F) (n:=n) (P:=P) (S:=S) (Q:=Q) (f:=f) (S2:=S3) hF hnd hsel (T:=S3) (w:=w) dZ (k - 1 - (bM.length+dZ.length)+1) l0 l1 a0 hs0 hc0 ⟨hS0.1,hw3⟩ hBt hq1 (fun _ _ _=>trivial) (dB (fun a' h' hs1 hc1 _=>by
        refine ⟨fun h0=>absurd h0 hne,fun j hj=>?_⟩
        have hcov:=List.all_eq_true.1 hall j hj
        by_cases hjg:j=g
        ·rw [if_pos hjg] at hcov
         have hjf:j=f:=hjg.trans hg
         have hf1:(l1.setIfInBounds j true).getD f false=true:=by rw [fF _ _ _ (eP hs1 hj),if_pos hjf]
         have h1:=h'.1
         rw [← hjg] at h1
         exact vU hF (fun a2 w2 h3=>⟨⟨.inl hf1,h3.1⟩,Ov hF hnd hsel _ _ _ S3 _ _ _ (by simpa using hs1) (hc1.set hs1 hj) hf1 h3.1 hcov h3.2⟩) h1
        ·rw [if_neg hjg] at hcov
         refine vU hF (fun a2 w2 h2=>?_) (h'.2 j hjg (QL hcov))
         obtain ⟨S',k1,k2,k3,k4⟩:=h2
         exact ⟨⟨.inr (k1 _ k2),k3⟩,fA k1 (fun _ h=>h) _ _ _ _ (ih _ _ S' S3 _ _ _ (by simpa using hs1) (hc1.set hs1 hj) hcov k2 k3 k4)⟩) _ _ h0)) _ _ h)
     rw [show k - 1 - (bM.length+dZ.length)+1+dZ.length+bM.length=k by omega] at this
     exact this
   |(seg,i0) :: more,hB,h =>
    simp only [Bool.and_eq_true,decide_eq_true_eq] at hB h
    obtain ⟨⟨⟨⟨_,hfs⟩,hsg⟩,hk⟩,hB⟩:=hB
    have hfx:jL ops x.fin=f:=by
     have:=List.all_eq_true.1 hfs x (by simp)
     simp only [Bool.and_eq_true,beq_iff_eq] at this
     exact this.1
    split at hB
    case h_2=>cases hB
    rename_i l1 hq
    obtain ⟨l0,hq0,hq1⟩:=Option.bind_eq_some_iff.1 hq
    simp only [Bool.and_eq_true,Bool.not_eq_true',List.isEmpty_eq_false_iff] at hB
    obtain ⟨⟨hne,_⟩,hall⟩:=hB
    have hA:=Oi (S:=S) (S2:=S2) hsg
    rw [hfx] at hA
    have:=eY (F:=F) (n:=n) (P:=P) (S:=S) (Q:=Q) (f:=f) (S2:=S2) hF hnd hsel (T:=S) (w:=w) (kT ops x.fin seg) (k - 1 - seg.length+1+(kL ops x.fin seg).length) l l0 a hs hc ⟨.inr hS,hS2⟩ hA hq0 (fun _ _ _=>trivial) (dB (fun a0 h0 hs0 hc0 hS0=>by
      obtain ⟨S3,hS3,hw3,h0⟩:=h0
      refine fA (S':=S) (S2':=S3) (fun _ h=>h) hS3 _ _ _ _ ?_
      have hBt:=Oj (S:=S) (S2:=S3) hsg
      rw [hfx] at hBt
      refine eY (F:=F) (n:=n) (P:=P) (S:=S) (Q:=Q) (f:=f) (S2:=S3) hF hnd hsel (T:=S3) (w:=w) (kL ops x.fin seg) (k - 1 - seg.length+1) l0 l1 a0 hs0 hc0 ⟨hS0.1,hw3⟩ hBt hq1 (fun _ _ _=>trivial) (dB (fun a' h' hs1 hc1 _=>by
       refine ⟨fun h0=>absurd h0 hne,fun j hj=>?_⟩
       have hcov:=List.all_eq_true.1 hall j hj
       refine vU hF (fun a2 w2 h2=>?_) (h' j (QL hcov))
       obtain ⟨S',k1,k2,k3,k4⟩:=h2
       exact ⟨⟨.inr (k1 _ k2),k3⟩,fA k1 (fun _ h=>h) _ _ _ _ (ih _ _ S' S3 _ _ _ (by simpa using hs1) (hc1.set hs1 hj) hcov k2 k3 k4)⟩) _ _ h0)) _ _ h)
    have e:=acK (ops:=ops) x.fin seg
    have e:k - 1 - seg.length+1+(kL ops x.fin seg).length+(kT ops x.fin seg).length=k:=by omega
    rw [e] at this
    exact this
theorem zT {id:Nat} {l:Array Oper} {a:Act} {w:World} {Q:Exit→Act→World→Prop} (S:World→Prop) {alts:List fZ} {f m:Nat} (hF:∀ f,F.fn f) (hm:P.follows .mixedOrders=true)
  (hnd:jA l=true) (hsel:Region.noSelect l=true) (hB:rV l f m l.size alts (Array.replicate l.size false)=true) (hS:S w.drew) (h:tu F n P l (Q .normal) m S (fun _=>True) alts a w.drew):(Code.region id l true).wpIn F n P Q a w:=by
 refine Code.wpIn_mono (Q:=bF (Q .normal)) (fun e a w h=>by obtain ⟨rfl,h⟩:=h;exact h) (wpIn_region_any hm ?_)
 exact wC _ _ _ _ (SQ hF hnd hsel m alts l.size S (fun _=>True) (Array.replicate l.size false) a _ (by simp) (fun m o hm=>absurd hm (by rw [Array.getD_eq_getD_getElem?,Array.getElem?_replicate];split<;>simp)) hB hS trivial h)
end
section
variable {P:Program} {F:Fence} {C:Ctx} {n L nb:Nat} {σ σ':Nat→Nat} {T T' T1 T2:Tags} {st st' st1:St} {a a1:Act} {w w1:World} {vo:List fM} {keep:List Nat}
 {rec:ak→St→Option (Ex × St)} {env:Env} {Q:Act→World→Prop} {bU:Array Oper} {ds:List Deferred}
theorem aI.head (h:aI L σ T st a w) {keep:List Nat} (hh:st.head keep nb=some st'):aI L σ T st' a w∧st'.boxes.length=nb∧st'.ys=st.ys∧st'.stop=st.stop∧nb≤st.boxes.length:=by
 unfold St.head at hh
 simp only at hh
 split at hh
 case isFalse=>cases hh
 rename_i hc
 have hh:=Option.some.inj hh
 simp only [Bool.and_eq_true,decide_eq_true_eq] at hc
 obtain ⟨hlow,hnb⟩:=hc
 subst hh
 have hget:∀ (t:Nat) av,((st.slots.zipIdx.map fun (v,i)=>if keep.contains i then v else .any))[t]?=some av→av=.any∨(st.slots[t]?=some av∧av.low nb=true):=fun t av hav=>by
  have hm:=List.all_eq_true.1 hlow av (List.mem_of_getElem? hav)
  simp only [List.getElem?_map,List.getElem?_zipIdx] at hav
  cases e:st.slots[t]? with
  |none=>rw [e] at hav;cases hav
  |some v =>
   rw [e] at hav
   simp only [Option.map_some,Option.some.injEq] at hav
   split at hav
   ·subst hav;exact .inr ⟨rfl,hm⟩
   ·exact .inl hav.symm
 have hlen:({ st with slots:=st.slots.zipIdx.map fun (v,i)=>if keep.contains i then v else .any,boxes:=st.boxes.take nb }:St).boxes.length=nb:=by simp;omega
 have hrow:∀ r sz es,({ st with slots:=st.slots.zipIdx.map fun (v,i)=>if keep.contains i then v else .any,boxes:=st.boxes.take nb }:St).row r=some (sz,es)→st.row r=some (sz,es):=fun r sz es hr=>by
  cases r with
  |slot t =>
   have h1:=fO hr
   rcases hget t _ h1 with e|⟨e,_⟩
   ·cases e
   ·simp [St.row,e]
  |cell o j =>
   obtain ⟨bx,h1,h2,h3⟩:=dO hr
   simp only [List.getElem?_take] at h1
   split at h1
   ·simp [St.row,h1,h2,h3]
   ·cases h1
  |part t i=>simp [St.row] at hr
 refine ⟨⟨by simpa using h.size,fun t av v ht hv=>?_,fun o bx ho=>?_,h.fresh⟩,hlen,rfl,rfl,hnb⟩
 ·rcases hget t av ht with e|⟨e,hl⟩
  ·subst e;trivial
  ·have hA:=h.slots t av v e hv
   cases av with
   |pv x=>exact hA
   |row sz es=>exact hA
   |ref r off len =>
    refine ⟨?_,fun sz es hr=>hA.2 sz es (hrow r sz es hr)⟩
    cases r<;>simp only [Root.low]<;>simpa [AV.low,hlen,hnb] using hl
   |aQ o j=>exact ⟨by rw [hlen];simpa [AV.low] using hl,hA.2⟩
   |ny r i j =>
    refine ⟨?_,fun sz es hr=>hA.2 sz es (hrow r sz es hr)⟩
    cases r<;>simp only [Root.low]<;>simpa [AV.low,hlen,hnb] using hl
   |fn f caps =>
    obtain ⟨arr,e1,e2,e3⟩:=hA
    refine ⟨arr,e1,e2,fun k x u hx hu=>?_⟩
    have hcx:=e3 k x u hx hu
    have hlx:_:=List.all_eq_true.1 (by simpa [AV.low] using hl) x (List.mem_of_getElem? hx)
    cases x with
    |pv p=>exact hcx
    |aQ o j=>exact ⟨by rw [hlen];simpa using hlx,hcx.2⟩
    |_=>exact hcx
   |jY k l=>simp [AV.low] at hl
   |DN s l=>exact hA
   |oQ=>exact hA
   |any=>trivial
 ·simp only [List.getElem?_take] at ho
  split at ho
  ·exact h.boxes o bx ho
  ·cases ho
theorem Ox {s s1:St} {nb:Nat} (h:s.head keep nb=some s1):s1.boxes.length=nb∧s1.ys=s.ys∧s1.stop=s.stop∧nb≤s.boxes.length:=by
 unfold St.head at h
 simp only at h
 split at h
 case isFalse=>cases h
 rename_i hc
 simp only [Bool.and_eq_true,decide_eq_true_eq] at hc
 have h:=Option.some.inj h
 rw [← h]
 exact ⟨by simp;omega,rfl,rfl,hc.2⟩
theorem xH {s:St} {sw:Bool} (h:kX keep nb sw s=some st'):st'.ys=s.ys∧st'.stop=s.stop∧st'.boxes.length=s.boxes.length:=by
 unfold kX at h
 obtain ⟨s1,h1,h2⟩:=bind_some h
 obtain ⟨e1,e2,e3,_⟩:=Ox h1
 split at h2
 ·unfold St.swap2 at h2
  split at h2
  ·have h2:=Option.some.inj h2
   rw [← h2]
   exact ⟨e2,e3,by rw [← e1];simp;omega⟩
  ·cases h2
 ·have h2:=Option.some.inj h2
  rw [← h2];exact ⟨e2,e3,e1⟩
theorem After.ends (hC:C.Ok P L) {s:St} {sw:Bool} {nb0:Nat} (hnb:nb≤nb0) (h:After C L nb σ T w s ds a1 w1) (he:kX keep nb0 sw s=some st'):After C L nb σ T w st' ds a1 w1:=by
 obtain ⟨σ',T',ms,g1,g2,g3,g4,g5,g6⟩:=h
 unfold kX at he
 obtain ⟨s1,h1,h2⟩:=bind_some he
 obtain ⟨q1,q2,q3,q4,_⟩:=g1.head h1
 split at h2
 ·obtain ⟨σ2,T2,k1,k2,k3,k4,k5,k6⟩:=q1.swap2 h2
  refine ⟨σ2,T2,ms,k1,?_,fun k hk=>(k3 k (by omega)).trans (g3 k hk),g4.trans (k2.nC w1).stays,g5,fun r hr=>⟨(g6.1 r hr).1,k2.ro r (g6.1 r hr).2.1,(g6.1 r hr).2.2⟩,g6.2⟩
  rw [k4,q3]
  exact hC.keep _ _ _ _ _ (k2.nC w1) g2
 ·have h2:=Option.some.inj h2
  subst h2
  exact ⟨σ',T',ms,q1,by rw [q3];exact g2,g3,g4,g5,g6⟩
theorem Marks.app {T2:Tags} {w2:World} {ms ms2:List Nat} (h1:Marks T1 w w1 ms) (hsz:w.heap.size≤w1.heap.size) (hs:dn T1 T2 w1 w2) (h2:Marks T2 w1 w2 ms2):Marks T2 w w2 (ms2++ms):=by
 refine ⟨fun r hr=>?_,List.nodup_append.2 ⟨h2.2,h1.2,fun x hx y hy e=>?_⟩⟩
 ·rcases List.mem_append.1 hr with hr|hr
  ·obtain ⟨k1,k2,k3⟩:=h2.1 r hr
   exact ⟨Nat.le_trans hsz k1,k2,k3⟩
  ·obtain ⟨k1,k2,k3⟩:=h1.1 r hr
   have hl:r<w1.heap.size:=(Array.getElem?_eq_some_iff.1 k3).1
   exact ⟨k1,hs.ro r k2,(hs.same r hl k2).trans k3⟩
 ·have k1:=(h2.1 x hx).1
  have hl:y<w1.heap.size:=(Array.getElem?_eq_some_iff.1 (h1.1 y hy).2.2).1
  omega
theorem jc (vo:List fM) (a b:List Nat):bQ vo (a++b)=bQ vo a++bQ vo b:=by simp [bQ]
theorem lX (vo:List fM) (i:Nat) (b:List Nat):bQ vo (i :: b)=vo.getD i default :: bQ vo b:=rfl
theorem jR (vo:List fM) (a:List Nat):(bQ vo a).length=a.length:=by simp [bQ]
def EN (P:Program) (rec:ak→St→Option (Ex × St)) (env:Env) (bU:Array Oper) (vo:List fM) (keep:List Nat) (nb:Nat) (X:List (List PV)) (st st':St) (z:fZ):Prop :=
 wF P bU z.fin z.last z.acts (bQ vo (iT z.fin z.last z.acts))=true∧∃ s,ops rec env (bQ vo (iT z.fin z.last z.acts)) st=some s∧s.ys <+: X∧kX keep nb z.sw s=some st'
theorem nZ {j:Nat} {z z':fZ} (h:z.tail j=some z'):∃ seg,z.acts=(seg,j) :: z'.acts∧z'.fin=z.fin∧z'.last=z.last∧z'.sw=z.sw:=by
 unfold fZ.tail at h
 split at h
 ·rename_i seg i more hz
  split at h
  ·rename_i e
   have h:=Option.some.inj h
   subst h;subst e
   exact ⟨seg,hz,rfl,rfl,rfl⟩
  ·cases h
 ·cases h
def Oy (P:Program) (rec:ak→St→Option (Ex × St)) (env:Env) (bU:Array Oper) (vo:List fM) (keep:List Nat) (nb:Nat) (X:List (List PV)) (st st':St) (z:fZ):Prop :=
 xC P bU z.last z.acts (bQ vo (iR z.last z.acts))=true∧∃ s,ops rec env (bQ vo (iR z.last z.acts)) st=some s∧s.ys <+: X∧kX keep nb z.sw s=some st'
theorem aaA (hW:jW F) (hC:C.Ok P L) (aW:fE P rec env) {f:Nat} {nb0:Nat} (hnb:nb≤nb0) {w0:World} {σ0:Nat→Nat} {T0:Tags}:∀ (m:Nat) (k:Nat) (alts:List fZ) (l:Array Bool) {S2:World→Prop} {st:St} {σ:Nat→Nat} {T:Tags} {a:Act} {w:World},tq bU f m k alts l=true →
  aI L σ T st a w→(∀ T' w',dn T T' w w'→S2 w')→C.J st.ys.length T w→st.stop=C.stop→nb≤st.boxes.length→(∀ z∈alts,Oy P rec env bU vo keep nb0 C.X st st' z) →
  dn T0 T w0 w→(∀ k,k<nb→σ k=σ0 k)→(∃ ms,a.defers=ms.map jK++ds∧Marks T w0 w ms) →
  (∀ a' w',After C L nb σ0 T0 w0 st' ds a' w'→Q a' w')→qc F n P bU Q m S2 alts a w:=by
 have one:∀ (x:fZ) {S2:World→Prop} {st:St} {σ:Nat→Nat} {T:Tags} {a:Act} {w:World},aI L σ T st a w→(∀ T' w',dn T T' w w'→S2 w')→C.J st.ys.length T w→st.stop=C.stop→nb≤st.boxes.length→Oy P rec env bU vo keep nb0 C.X st st' x →
  dn T0 T w0 w→(∀ k,k<nb→σ k=σ0 k)→(∃ ms,a.defers=ms.map jK++ds∧Marks T w0 w ms)→(∀ a' w',After C L nb σ0 T0 w0 st' ds a' w'→Q a' w')→nG F n P bU Q x.last S2 x.acts a w:=fun x S2 st σ T a w h zS hJ hst hb hx lg hσ hms hn=>by
  obtain ⟨hm,s,hrun,hX,hend⟩:=hx
  obtain ⟨ms,hd,hM⟩:=hms
  refine GY hW hC aW hX h zS hJ hst hm hrun fun a' w' hA=>hn _ _ ?_
  exact (After.trans lg hσ hd hM hb hA).ends hC hnb hend
 intro m
 induction m with
 |zero =>
  intro k alts l S2 st σ T a w hB h zS hJ hst hb hz lg hσ hms hn
  match alts,hB,hz with
  |[x],_,hz=>simpa only [qc] using one x h zS hJ hst hb (hz x (by simp)) lg hσ hms hn
  |[],hB,_=>simp [tq] at hB
  |_ :: _ :: _,hB,_=>simp [tq] at hB
 |succ m ih =>
  intro k alts l S2 st σ T a w hB h zS hJ hst hb hz lg hσ hms hn
  match alts,hB,hz with
  |[],hB,_=>simp [tq] at hB
  |[x],_,hz=>simpa only [qc] using one x h zS hJ hst hb (hz x (by simp)) lg hσ hms hn
  |x :: y :: zs,hB,hz =>
   simp only [tq] at hB
   simp only [qc]
   generalize ha:x.acts=acts at hB
   match acts,ha,hB with
   |[],_,hB=>cases hB
   |(seg,i0) :: more,ha,hB =>
    simp only [Bool.and_eq_true,decide_eq_true_eq,beq_iff_eq] at hB
    obtain ⟨⟨⟨yO,hseg,htA⟩,hk⟩,hB⟩:=hB
    split at hB
    case h_2=>cases hB
    rename_i l1 hq1
    simp only [Bool.and_eq_true,Bool.not_eq_true',List.isEmpty_eq_false_iff] at hB
    obtain ⟨⟨hne,hin⟩,hall⟩:=hB
    have shape:∀ z∈x :: y :: zs,∃ i more,z.acts=(seg,i) :: more:=fun z hzz=>by
     have:=List.all_eq_true.1 yO z hzz
     unfold Ad at this
     split at this
     ·rename_i s i more e
      exact ⟨i,more,by rw [e,eq_of_beq this]⟩
     ·cases this
    have qg:∀ z∈x :: y :: zs,∀ i more,z.acts=(seg,i) :: more→∃ st1 st2 s,mL P bU (pick bU [i]) [vo.getD i default]=true∧xC P bU z.last more (bQ vo (iR z.last more))=true ∧
      ops rec env (bQ vo seg) st=some st1∧op rec env (vo.getD i default) st1=some st2∧ops rec env (bQ vo (iR z.last more)) st2=some s∧s.ys <+: C.X∧kX keep nb0 z.sw s=some st':=fun z hzz i more e=>by
     obtain ⟨hm,s,hrun,hX,hend⟩:=hz z hzz
     rw [e] at hm hrun
     have e2:bQ vo (iR z.last ((seg,i) :: more))=bQ vo seg++(vo.getD i default :: bQ vo (iR z.last more)):=by
      show bQ vo (seg++(i :: iR z.last more))=_
      rw [jc,lX]
     have e3:bQ vo seg=bQ vo (Ky bU i seg)++bQ vo (NC bU i seg):=by
      rw [← jc];congr 1
      exact (List.takeWhile_append_dropWhile (p:=vg bU bU.size i) (l:=seg)).symm
     have hm2:=hm
     rw [e2,e3,List.append_assoc] at hm2
     rw [e2] at hrun
     have hlenA:=jR vo (Ky bU i seg)
     have qB:=jR vo (NC bU i seg)
     simp only [xC,Bool.and_eq_true] at hm2
     rw [List.take_left' hlenA,List.drop_left' hlenA,List.take_left' qB,List.drop_left' qB] at hm2
     obtain ⟨st1,p1,p2⟩:=eG hrun
     obtain ⟨st2,p2,p3⟩:=pG p2
     simp only [Bool.and_eq_true] at hm2
     exact ⟨st1,st2,s,hm2.2.1,hm2.2.2,p1,p2,p3,hX,hend⟩
    obtain ⟨hmx,sx,QM,_⟩:=hz x (by simp)
    have hB1:NC bU i0 seg=seg:=by
     have:=List.takeWhile_append_dropWhile (p:=vg bU bU.size i0) (l:=seg)
     have e:seg.takeWhile (vg bU bU.size i0)=[]:=htA
     rw [e,List.nil_append] at this
     exact this
    have Wj:mL P bU (pick bU seg) (bQ vo seg)=true∧kM true (bQ vo seg)=true:=by
     rw [ha] at hmx
     have e2:bQ vo (iR x.last ((seg,i0) :: more))=bQ vo seg++(vo.getD i0 default :: bQ vo (iR x.last more)):=by
      show bQ vo (seg++(i0 :: iR x.last more))=_
      rw [jc,lX]
     rw [e2] at hmx
     simp only [xC,Bool.and_eq_true,htA,hB1,List.length_nil,List.drop_zero] at hmx
     rw [List.take_left' (jR vo seg)] at hmx
     exact ⟨hmx.1.1.2,hmx.1.2⟩
    obtain ⟨st1,aiw,sx',_,_,p1,_⟩:=qg x (by simp) i0 more ha
    refine ⟨ND S2 T w,fun _ h=>h.1,fU zS T w (dn.refl T w),?_⟩
    refine ru h Wj.1 Wj.2 p1 fun a1 T1 g1 g2 g3 g4=>?_
    intro j hj
    obtain ⟨ms,hd,hM⟩:=hms
    have hJ1:C.J st1.ys.length T1 w:=by rw [g4.2.1];exact hC.keep _ _ _ _ _ (g2.nC w) hJ
    obtain ⟨z',hz'⟩:=List.exists_mem_of_ne_nil _ hj
    have hz':=hz'
    unfold tails at hz'
    obtain ⟨z,hzz,Vl⟩:=List.mem_filterMap.1 hz'
    obtain ⟨Oz,hza,hf1,hf2,hf3⟩:=nZ Vl
    have hseg':Oz=seg:=by
     obtain ⟨i,more',e⟩:=shape z hzz
     rw [hza] at e;cases e;rfl
    subst hseg'
    obtain ⟨t1,st2,s,hmj,hmz,q1,q2,q3,hXs,hend⟩:=qg z hzz j z'.acts hza
    have:t1=st1:=by rw [p1] at q1;exact (Option.some.inj q1).symm
    subst this
    have gl:=fG (rec:=rec) (env:=env) q3
    refine wG hW hC aW g1 hJ1 (g4.2.2.trans hst) hmj q2 (gl.2.1.trans hXs) ?_
    rintro a2 w2 ⟨σ2,T2,ms2,k1,k2,k3,k4,k5,k6⟩ _
    have hs4:=((g2.nC w).stays).trans k4
    have hn3:∀ T' w',dn T2 T' w2 w'→ND S2 T w w':=fun T' w' hw'=>fU zS T' w' (hs4.trans hw')
    refine ⟨hn3 _ _ (dn.refl _ _),?_⟩
    have hjr:j∈Region.ready .any bU l1:=by
     have:=List.all_eq_true.1 hin z hzz
     unfold G6 at this
     rw [hza] at this
     simpa using this
    have hcov:=List.all_eq_true.1 hall j hjr
    simp only [Bool.and_eq_true] at hcov
    have hs2:dn T0 T1 w0 w:=lg.trans (g2.nC w).stays
    have hM1:Marks T1 w0 w ms:=⟨fun r hr=>⟨(hM.1 r hr).1,g2.ro r (hM.1 r hr).2.1,(hM.1 r hr).2.2⟩,hM.2⟩
    refine ih _ _ _ hcov.2 k1 hn3 k2 (((iD q2).2.2.trans g4.2.2).trans hst) (Nat.le_trans hb (Nat.le_trans g4.1 (iD q2).1)) (fun u hu=>?_) (hs2.trans k4) (fun k hk=>(k3 k (Nat.lt_of_lt_of_le hk (Nat.le_trans hb g4.1))).trans (hσ k hk)) ?_ hn
    ·unfold tails at hu
     obtain ⟨z2,hz2,Wn⟩:=List.mem_filterMap.1 hu
     obtain ⟨Wp,KF,e1,e2,e3⟩:=nZ Wn
     have KG:Wp=Oz:=by
      obtain ⟨i,more',e⟩:=shape z2 hz2
      rw [KF] at e;cases e;rfl
     subst KG
     obtain ⟨t1',st2',s',_,Wq,q1',q2',q3',Ws,hend'⟩:=qg z2 hz2 j u.acts KF
     have e4:t1'=t1:=by rw [q1] at q1';exact (Option.some.inj q1').symm
     subst e4
     have e5:st2'=st2:=by rw [q2] at q2';exact (Option.some.inj q2').symm
     subst e5
     unfold Oy
     rw [e2,e3]
     exact ⟨Wq,s',q3',Ws,hend'⟩
    ·refine ⟨ms2++ms,by rw [k5,g3,hd];simp,?_⟩
     exact Marks.app hM1 hs2.size k4 k6
theorem adz (hW:jW F) (hC:C.Ok P L) (aW:fE P rec env) {f:Nat} {nb0:Nat} (hnb:nb≤nb0) {w0:World} {σ0:Nat→Nat} {T0:Tags}:∀ (m:Nat) (k:Nat) (alts:List fZ) (l:Array Bool) {S2:World→Prop} {st:St} {σ:Nat→Nat} {T:Tags} {a:Act} {w:World},rV bU f m k alts l=true →
  aI L σ T st a w→(∀ T' w',dn T T' w w'→S2 w')→C.J st.ys.length T w→st.stop=C.stop→nb≤st.boxes.length→(∀ z∈alts,EN P rec env bU vo keep nb0 C.X st st' z) →
  dn T0 T w0 w→(∀ k,k<nb→σ k=σ0 k)→(∃ ms,a.defers=ms.map jK++ds∧Marks T w0 w ms) →
  (∀ a' w',After C L nb σ0 T0 w0 st' ds a' w'→Q a' w')→tu F n P bU Q m (Whole w) S2 alts a w:=by
 have one:∀ (x:fZ) {S2:World→Prop} {st:St} {σ:Nat→Nat} {T:Tags} {a:Act} {w:World},aI L σ T st a w→(∀ T' w',dn T T' w w'→S2 w')→C.J st.ys.length T w→st.stop=C.stop→nb≤st.boxes.length→EN P rec env bU vo keep nb0 C.X st st' x →
  dn T0 T w0 w→(∀ k,k<nb→σ k=σ0 k)→(∃ ms,a.defers=ms.map jK++ds∧Marks T w0 w ms)→(∀ a' w',After C L nb σ0 T0 w0 st' ds a' w'→Q a' w')→pz F n P bU Q (Whole w) S2 x.acts x.fin x.last a w:=fun x S2 st σ T a w h zS hJ hst hb hx lg hσ hms hn=>by
  obtain ⟨hm,s,hrun,hX,hend⟩:=hx
  obtain ⟨ms,hd,hM⟩:=hms
  refine Om hW hC aW hX h zS hJ hst hm hrun fun a' w' hA=>hn _ _ ?_
  exact (After.trans lg hσ hd hM hb hA).ends hC hnb hend
 intro m
 induction m with
 |zero =>
  intro k alts l S2 st σ T a w hB h zS hJ hst hb hz lg hσ hms hn
  match alts,hB,hz with
  |[x],_,hz=>simpa only [tu] using one x h zS hJ hst hb (hz x (by simp)) lg hσ hms hn
  |[],hB,_=>simp [rV] at hB
  |_ :: _ :: _,hB,_=>simp [rV] at hB
 |succ m ih =>
  intro k alts l S2 st σ T a w hB h zS hJ hst hb hz lg hσ hms hn
  match alts,hB,hz with
  |[],hB,_=>simp [rV] at hB
  |[x],_,hz=>simpa only [tu] using one x h zS hJ hst hb (hz x (by simp)) lg hσ hms hn
  |x :: y :: zs,hB,hz =>
   simp only [rV] at hB
   simp only [tu]
   generalize ha:x.acts=acts at hB
   match acts,ha,hB with
   |[],ha,hB =>
    generalize Z7:x.fin=fin at hB
    match fin,Z7,hB with
    |none,_,hB=>cases hB
    |some (bM,dZ,g,tl),Z7,hB =>
     simp only [Bool.and_eq_true,decide_eq_true_eq,beq_iff_eq] at hB
     obtain ⟨⟨⟨⟨⟨yO,hfs⟩,hsg⟩,hsA,hsB⟩,hk⟩,hB⟩:=hB
     split at hB
     case h_2=>cases hB
     rename_i l1 hq1
     simp only [Bool.and_eq_true,Bool.not_eq_true',List.isEmpty_eq_false_iff] at hB
     obtain ⟨⟨⟨hne,hin⟩,aix⟩,hall⟩:=hB
     have hgr:g∈Region.ready .any bU l1:=by simpa using aix
     simp only [Z7]
     have hfin:∀ z∈y :: zs,kT bU z.fin (bM++dZ)=bM∧kL bU z.fin (bM++dZ)=dZ:=fun z hzz=>by
      have hx:=List.all_eq_true.1 hfs x (by simp)
      have hz:=List.all_eq_true.1 hfs z (List.mem_cons_of_mem _ hzz)
      simp only [Bool.and_eq_true,beq_iff_eq] at hx hz
      rw [Z7] at hx
      have e:=EM (ops:=bU) (x:=z.fin) (y:=some (bM,dZ,g,tl)) (hz.1.trans hx.1.symm) (hz.2.trans hx.2.symm)
      unfold kT at hsA
      unfold kL at hsB
      unfold kT kL
      rw [e]
      exact ⟨hsA,hsB⟩
     have shape:∀ z∈y :: zs,∀ s i more,z.acts=(s,i) :: more→s=bM++dZ:=fun z hzz s i more e=>by
      have:=List.all_eq_true.1 yO z hzz
      unfold BM at this
      rw [e] at this
      exact eq_of_beq this
     have adA:∀ z∈x :: y :: zs,z.acts=[]→∃ tl',z.fin=some (bM,dZ,g,tl'):=fun z hzz e=>by
      rcases List.mem_cons.1 hzz with e1|hzz
      ·rw [e1];exact ⟨tl,Z7⟩
      have:=List.all_eq_true.1 yO z hzz
      unfold BM at this
      rw [e] at this
      simp only at this
      split at this
      ·rename_i a' b' c' tl' e2
       simp only [Bool.and_eq_true,beq_iff_eq] at this
       obtain ⟨⟨e3,e4⟩,e5⟩:=this
       exact ⟨tl',by rw [e2,e3,e4,e5]⟩
      ·cases this
     have qg:∀ z∈y :: zs,∀ i more,z.acts=(bM++dZ,i) :: more→∃ st0 st1 st2 s,mL P bU (pick bU [i]) [vo.getD i default]=true∧Kw (vo.getD i default)=true∧wF P bU z.fin z.last more (bQ vo (iT z.fin z.last more))=true ∧
       ops rec env (bQ vo bM) st=some st0∧ops rec env (bQ vo dZ) st0=some st1∧op rec env (vo.getD i default) st1=some st2∧ops rec env (bQ vo (iT z.fin z.last more)) st2=some s∧s.ys <+: C.X∧kX keep nb0 z.sw s=some st':=fun z hzz i more e=>by
      obtain ⟨hm,s,hrun,hX,hend⟩:=hz z (List.mem_cons_of_mem _ hzz)
      rw [e] at hm hrun
      have e2:bQ vo (iT z.fin z.last ((bM++dZ,i) :: more))=bQ vo bM++(bQ vo dZ++(vo.getD i default :: bQ vo (iT z.fin z.last more))):=by
       show bQ vo ((bM++dZ)++(i :: iT z.fin z.last more))=_
       rw [jc,jc,lX,List.append_assoc]
      rw [e2] at hm hrun
      have hlenA:=jR vo bM
      have qB:=jR vo dZ
      simp only [wF,Bool.and_eq_true,(hfin z hzz).1,(hfin z hzz).2] at hm
      rw [List.take_left' hlenA,List.drop_left' hlenA,List.take_left' qB,List.drop_left' qB] at hm
      obtain ⟨st0,p0,p1⟩:=eG hrun
      obtain ⟨st1,p1,p2⟩:=eG p1
      obtain ⟨st2,p2,p3⟩:=pG p2
      simp only [Bool.and_eq_true] at hm
      exact ⟨st0,st1,st2,s,hm.2.1.1,hm.2.1.2,hm.2.2,p0,p1,p2,p3,hX,hend⟩
     obtain ⟨hmx,sx,QM,hXx,akh⟩:=hz x (by simp)
     rw [ha,Z7] at hmx QM
     have e2:bQ vo (iT (some (bM,dZ,g,tl)) x.last [])=bQ vo bM++(bQ vo dZ++(vo.getD g default :: bQ vo (iR x.last tl))):=by
      show bQ vo (bM++(dZ++(g :: iR x.last tl)))=_
      rw [jc,jc,lX]
     rw [e2] at hmx QM
     have hlenA:=jR vo bM
     have qB:=jR vo dZ
     simp only [wF,Bool.and_eq_true] at hmx
     rw [List.take_left' hlenA,List.drop_left' hlenA,List.take_left' qB,List.drop_left' qB] at hmx
     simp only [Bool.and_eq_true] at hmx
     obtain ⟨⟨⟨hqx,hqu⟩,hql⟩,hmg,hmt⟩:=hmx
     obtain ⟨st0,p0,p1⟩:=eG QM
     obtain ⟨st1,p1,p2⟩:=eG p1
     obtain ⟨stg,p2,p3⟩:=pG p2
     have glx:=fG (rec:=rec) (env:=env) p3
     refine yM h hqx p0 fun a0 Vm f1 f2 f3 f4=>?_
     have wH:∀ T' w',dn Vm T' w w'→S2 w':=fun T' w' hw=>zS T' w' ((f2.nC w).stays.trans hw)
     refine ⟨ND S2 Vm w,fun _ h=>h.1,fU wH Vm w (dn.refl Vm w),?_⟩
     refine ru f1 hqu hql p1 fun a1 T1 g1 g2e g3' g4'=>?_
     have g2':=g2e
     have g2:=f2.trans g2'
     have g4:=f4.trans g4'
     have g3:=g3'.trans f3
     have hJ1:C.J st1.ys.length T1 w:=by rw [g4.2.1];exact hC.keep _ _ _ _ _ (g2.nC w) hJ
     obtain ⟨ms,hd,hM⟩:=hms
     have hs2:dn T0 T1 w0 w:=lg.trans (g2.nC w).stays
     have hM1:Marks T1 w0 w ms:=⟨fun r hr=>⟨(hM.1 r hr).1,g2.ro r (hM.1 r hr).2.1,(hM.1 r hr).2.2⟩,hM.2⟩
     have af0:tq bU f m (k - 1 - (bM.length+dZ.length)) ((x :: y :: zs).filterMap Wi) (l1.setIfInBounds g true)=true:=by
      have:=List.all_eq_true.1 hall g hgr
      rw [if_pos rfl] at this
      exact this
     refine ⟨?_,fun j hjg hj=>?_⟩
     ·refine wG hW hC aW g1 hJ1 (g4.2.2.trans hst) hmg p2 (glx.2.1.trans hXx) ?_
      rintro a2 w2 ⟨σ2,T2,ms2,k1,k2,k3,k4,k5,k6⟩ _
      have hs4:=((g2'.nC w).stays).trans k4
      have hn3:∀ T' w',dn T2 T' w2 w'→ND S2 Vm w w':=fun T' w' hw'=>fU wH T' w' (hs4.trans hw')
      refine ⟨hn3 _ _ (dn.refl _ _),?_⟩
      refine aaA (keep:=keep) (vo:=vo) hW hC aW hnb _ _ _ _ af0 k1 hn3 k2 (((iD p2).2.2.trans g4.2.2).trans hst) (Nat.le_trans hb (Nat.le_trans g4.1 (iD p2).1)) (fun u hu=>?_) (hs2.trans k4) (fun k hk=>(k3 k (Nat.lt_of_lt_of_le hk (Nat.le_trans hb g4.1))).trans (hσ k hk)) ?_ hn
      ·obtain ⟨z,hzz,Vl⟩:=List.mem_filterMap.1 hu
       have hza:z.acts=[]:=by
        unfold Wi at Vl
        split at Vl
        ·assumption
        ·cases Vl
       obtain ⟨tl',hzf⟩:=adA z hzz hza
       have eu:u={ z with acts:=tl',fin:=none }:=by
        unfold Wi at Vl
        rw [hza,hzf] at Vl
        exact (Option.some.inj Vl).symm
       obtain ⟨hmz,sz,Wu,hXz,af2⟩:=hz z hzz
       rw [hza,hzf] at hmz Wu
       have e2:bQ vo (iT (some (bM,dZ,g,tl')) z.last [])=bQ vo bM++(bQ vo dZ++(vo.getD g default :: bQ vo (iR z.last tl'))):=by
        show bQ vo (bM++(dZ++(g :: iR z.last tl')))=_
        rw [jc,jc,lX]
       rw [e2] at hmz Wu
       simp only [wF,Bool.and_eq_true] at hmz
       rw [List.take_left' hlenA,List.drop_left' hlenA,List.take_left' qB,List.drop_left' qB] at hmz
       simp only [Bool.and_eq_true] at hmz
       obtain ⟨aiA,z0,z1⟩:=eG Wu
       obtain ⟨st1',z1,z2⟩:=eG z1
       obtain ⟨aiB,z2,z3⟩:=pG z2
       have e0:aiA=st0:=by rw [p0] at z0;exact (Option.some.inj z0).symm
       subst e0
       have e1:st1'=st1:=by rw [p1] at z1;exact (Option.some.inj z1).symm
       subst e1
       have e3:aiB=stg:=by rw [p2] at z2;exact (Option.some.inj z2).symm
       subst e3
       rw [eu]
       exact ⟨hmz.2.2,sz,z3,hXz,af2⟩
      ·refine ⟨ms2++ms,by rw [k5,g3,hd];simp,?_⟩
       exact Marks.app hM1 hs2.size k4 k6
     obtain ⟨z',hz'⟩:=List.exists_mem_of_ne_nil _ hj
     have hz':=hz'
     unfold tails at hz'
     obtain ⟨z,hzz,Vl⟩:=List.mem_filterMap.1 hz'
     obtain ⟨Oz,hza,hf1,hf2,hf3⟩:=nZ Vl
     have hzx:z∈y :: zs:=hzz
     have hseg:Oz=bM++dZ:=shape z hzz _ _ _ hza
     subst hseg
     obtain ⟨t0,t1,st2,s,hmj,hcalm,hmz,q0,q1,q2,q3,hXs,hend⟩:=qg z hzz j z'.acts hza
     have:t0=st0:=by rw [p0] at q0;exact (Option.some.inj q0).symm
     subst this
     have:t1=st1:=by rw [p1] at q1;exact (Option.some.inj q1).symm
     subst this
     have gl:=fG (rec:=rec) (env:=env) q3
     refine wG hW hC aW g1 hJ1 (g4.2.2.trans hst) hmj q2 (gl.2.1.trans hXs) ?_
     rintro a2 w2 ⟨σ2,T2,ms2,k1,k2,k3,k4,k5,k6⟩ hwh
     have hwh:=hwh hcalm
     have hs4:=((g2'.nC w).stays).trans k4
     have hn3:∀ T' w',dn T2 T' w2 w'→ND S2 Vm w w':=fun T' w' hw'=>fU wH T' w' (hs4.trans hw')
     refine ⟨Whole w2,fun w' hw'=>⟨Nat.le_trans hwh.1 hw'.1,fun b hb=>(hw'.2 b (Nat.lt_of_lt_of_le hb hwh.1)).trans (hwh.2 b hb)⟩,Whole.refl w2,hn3 _ _ (dn.refl _ _),?_⟩
     have hjr:j∈Region.ready .any bU l1:=by
      have:=List.all_eq_true.1 hin z hzz
      unfold QK at this
      rw [hza] at this
      simpa using this
     have hcov:=List.all_eq_true.1 hall j hjr
     rw [if_neg hjg] at hcov
     refine ih _ _ _ hcov k1 hn3 k2 (((iD q2).2.2.trans g4.2.2).trans hst) (Nat.le_trans hb (Nat.le_trans g4.1 (iD q2).1)) (fun u hu=>?_) (hs2.trans k4) (fun k hk=>(k3 k (Nat.lt_of_lt_of_le hk (Nat.le_trans hb g4.1))).trans (hσ k hk)) ?_ hn
     ·unfold tails at hu
      obtain ⟨z2,hz2,Wn⟩:=List.mem_filterMap.1 hu
      obtain ⟨Wp,KF,e1,e2,e3⟩:=nZ Wn
      have KG:Wp=bM++dZ:=shape z2 hz2 _ _ _ KF
      subst KG
      obtain ⟨t0',t1',st2',s',_,_,Wq,q0',q1',q2',q3',Ws,hend'⟩:=qg z2 hz2 j u.acts KF
      have e0:t0'=t0:=by rw [q0] at q0';exact (Option.some.inj q0').symm
      subst e0
      have e4:t1'=t1:=by rw [q1] at q1';exact (Option.some.inj q1').symm
      subst e4
      have e5:st2'=st2:=by rw [q2] at q2';exact (Option.some.inj q2').symm
      subst e5
      unfold EN
      rw [e1,e2,e3]
      exact ⟨Wq,s',q3',Ws,hend'⟩
     ·refine ⟨ms2++ms,by rw [k5,g3,hd];simp,?_⟩
      exact Marks.app hM1 hs2.size k4 k6
   |(seg,i0) :: more,ha,hB =>
    simp only [Bool.and_eq_true,decide_eq_true_eq] at hB
    obtain ⟨⟨⟨⟨yO,hfs⟩,hsg⟩,hk⟩,hB⟩:=hB
    split at hB
    case h_2=>cases hB
    rename_i l1 hq1
    simp only [Bool.and_eq_true,Bool.not_eq_true',List.isEmpty_eq_false_iff] at hB
    obtain ⟨⟨hne,hin⟩,hall⟩:=hB
    have hfin:∀ z∈x :: y :: zs,kT bU z.fin seg=kT bU x.fin seg∧kL bU z.fin seg=kL bU x.fin seg:=fun z hzz=>by
     have hx:=List.all_eq_true.1 hfs x (by simp)
     have hz:=List.all_eq_true.1 hfs z hzz
     simp only [Bool.and_eq_true,beq_iff_eq] at hx hz
     have e:=EM (ops:=bU) (x:=z.fin) (y:=x.fin) (hz.1.trans hx.1.symm) hz.2
     unfold kT kL
     rw [e]
     exact ⟨rfl,rfl⟩
    have shape:∀ z∈x :: y :: zs,∃ i more,z.acts=(seg,i) :: more:=fun z hzz=>by
     have:=List.all_eq_true.1 yO z hzz
     unfold Ad at this
     split at this
     ·rename_i s i more e
      exact ⟨i,more,by rw [e,eq_of_beq this]⟩
     ·cases this
    have qg:∀ z∈x :: y :: zs,∀ i more,z.acts=(seg,i) :: more→∃ st0 st1 st2 s,qZ P bU (kT bU x.fin seg) (bQ vo (kT bU x.fin seg))=true∧(mL P bU (pick bU (kL bU x.fin seg)) (bQ vo (kL bU x.fin seg))=true∧kM true (bQ vo (kL bU x.fin seg))=true)∧mL P bU (pick bU [i]) [vo.getD i default]=true∧Kw (vo.getD i default)=true∧wF P bU z.fin z.last more (bQ vo (iT z.fin z.last more))=true ∧
      ops rec env (bQ vo (kT bU x.fin seg)) st=some st0∧ops rec env (bQ vo (kL bU x.fin seg)) st0=some st1∧op rec env (vo.getD i default) st1=some st2∧ops rec env (bQ vo (iT z.fin z.last more)) st2=some s∧s.ys <+: C.X∧kX keep nb0 z.sw s=some st':=fun z hzz i more e=>by
     obtain ⟨hm,s,hrun,hX,hend⟩:=hz z hzz
     rw [e] at hm hrun
     have e2:bQ vo (iT z.fin z.last ((seg,i) :: more))=bQ vo (kT bU x.fin seg)++(bQ vo (kL bU x.fin seg)++(vo.getD i default :: bQ vo (iT z.fin z.last more))):=by
      show bQ vo (seg++(i :: iT z.fin z.last more))=_
      rw [jc,lX,← List.append_assoc,← jc]
      congr 2
      exact (List.takeWhile_append_dropWhile (p:=oK bU x.fin) (l:=seg)).symm
     rw [e2] at hm hrun
     have hlenA:=jR vo (kT bU x.fin seg)
     have qB:=jR vo (kL bU x.fin seg)
     simp only [wF,Bool.and_eq_true,(hfin z hzz).1,(hfin z hzz).2] at hm
     rw [List.take_left' hlenA,List.drop_left' hlenA,List.take_left' qB,List.drop_left' qB] at hm
     obtain ⟨st0,p0,p1⟩:=eG hrun
     obtain ⟨st1,p1,p2⟩:=eG p1
     obtain ⟨st2,p2,p3⟩:=pG p2
     simp only [Bool.and_eq_true] at hm
     exact ⟨st0,st1,st2,s,hm.1.1.1,⟨hm.1.1.2,hm.1.2⟩,hm.2.1.1,hm.2.1.2,hm.2.2,p0,p1,p2,p3,hX,hend⟩
    obtain ⟨st0,st1,aiw,sx,hqx,hqb,_,_,_,p0,p1,_⟩:=qg x (by simp) i0 more ha
    refine yM h hqx p0 fun a0 Vm f1 f2 f3 f4=>?_
    have wH:∀ T' w',dn Vm T' w w'→S2 w':=fun T' w' hw=>zS T' w' ((f2.nC w).stays.trans hw)
    refine ⟨ND S2 Vm w,fun _ h=>h.1,fU wH Vm w (dn.refl Vm w),?_⟩
    refine ru f1 hqb.1 hqb.2 p1 fun a1 T1 g1 g2e g3' g4'=>?_
    have g2':=g2e
    have g2:=f2.trans g2'
    have g4:=f4.trans g4'
    have g3:=g3'.trans f3
    intro j hj
    obtain ⟨ms,hd,hM⟩:=hms
    have hJ1:C.J st1.ys.length T1 w:=by rw [g4.2.1];exact hC.keep _ _ _ _ _ (g2.nC w) hJ
    obtain ⟨z',hz'⟩:=List.exists_mem_of_ne_nil _ hj
    have hz':=hz'
    unfold tails at hz'
    obtain ⟨z,hzz,Vl⟩:=List.mem_filterMap.1 hz'
    obtain ⟨Oz,hza,hf1,hf2,hf3⟩:=nZ Vl
    have hseg:Oz=seg:=by
     obtain ⟨i,more',e⟩:=shape z hzz
     rw [hza] at e;cases e;rfl
    subst hseg
    obtain ⟨t0,t1,st2,s,_,_,hmj,hcalm,hmz,q0,q1,q2,q3,hXs,hend⟩:=qg z hzz j z'.acts hza
    have:t0=st0:=by rw [p0] at q0;exact (Option.some.inj q0).symm
    subst this
    have:t1=st1:=by rw [p1] at q1;exact (Option.some.inj q1).symm
    subst this
    have gl:=fG (rec:=rec) (env:=env) q3
    refine wG hW hC aW g1 hJ1 (g4.2.2.trans hst) hmj q2 (gl.2.1.trans hXs) ?_
    rintro a2 w2 ⟨σ2,T2,ms2,k1,k2,k3,k4,k5,k6⟩ hwh
    have hwh:=hwh hcalm
    have hs4:=((g2'.nC w).stays).trans k4
    have hn3:∀ T' w',dn T2 T' w2 w'→ND S2 Vm w w':=fun T' w' hw'=>fU wH T' w' (hs4.trans hw')
    refine ⟨Whole w2,fun w' hw'=>⟨Nat.le_trans hwh.1 hw'.1,fun b hb=>(hw'.2 b (Nat.lt_of_lt_of_le hb hwh.1)).trans (hwh.2 b hb)⟩,Whole.refl w2,hn3 _ _ (dn.refl _ _),?_⟩
    have hjr:j∈Region.ready .any bU l1:=by
     have:=List.all_eq_true.1 hin z hzz
     unfold G6 at this
     rw [hza] at this
     simpa using this
    have hcov:=List.all_eq_true.1 hall j hjr
    have hs2:dn T0 T1 w0 w:=lg.trans (g2.nC w).stays
    have hM1:Marks T1 w0 w ms:=⟨fun r hr=>⟨(hM.1 r hr).1,g2.ro r (hM.1 r hr).2.1,(hM.1 r hr).2.2⟩,hM.2⟩
    refine ih _ _ _ hcov k1 hn3 k2 (((iD q2).2.2.trans g4.2.2).trans hst) (Nat.le_trans hb (Nat.le_trans g4.1 (iD q2).1)) (fun u hu=>?_) (hs2.trans k4) (fun k hk=>(k3 k (Nat.lt_of_lt_of_le hk (Nat.le_trans hb g4.1))).trans (hσ k hk)) ?_ hn
    ·unfold tails at hu
     obtain ⟨z2,hz2,Wn⟩:=List.mem_filterMap.1 hu
     obtain ⟨Wp,KF,e1,e2,e3⟩:=nZ Wn
     have KG:Wp=Oz:=by
      obtain ⟨i,more',e⟩:=shape z2 hz2
      rw [KF] at e;cases e;rfl
     subst KG
     obtain ⟨t0',t1',st2',s',_,_,_,_,Wq,q0',q1',q2',q3',Ws,hend'⟩:=qg z2 hz2 j u.acts KF
     have e0:t0'=t0:=by rw [q0] at q0';exact (Option.some.inj q0').symm
     subst e0
     have e4:t1'=t1:=by rw [q1] at q1';exact (Option.some.inj q1').symm
     subst e4
     have e5:st2'=st2:=by rw [q2] at q2';exact (Option.some.inj q2').symm
     subst e5
     unfold EN
     rw [e1,e2,e3]
     exact ⟨Wq,s',q3',Ws,hend'⟩
    ·refine ⟨ms2++ms,by rw [k5,g3,hd];simp,?_⟩
     exact Marks.app hM1 hs2.size k4 k6
theorem zF {alts:List fZ} (h:iO rec env keep vo st alts=some st'):∀ z∈alts,iV rec env keep vo st z=some st':=by
 cases alts with
 |nil=>simp [iO] at h
 |cons x xs =>
  simp only [iO] at h
  obtain ⟨s,h1,h2⟩:=bind_some h
  obtain ⟨e,g⟩:=KE h2
  subst e
  intro z hz
  rcases List.mem_cons.1 hz with rfl|hz
  ·exact h1
  ·exact g _ (List.mem_map_of_mem hz)
theorem D8 {alts:List fZ} (h:iO rec env keep vo st alts=some st'):st.boxes.length≤st'.boxes.length∧st.ys <+: st'.ys∧st'.stop=st.stop:=by
 cases alts with
 |nil=>simp [iO] at h
 |cons x xs =>
  have h1:=zF h x (by simp)
  unfold iV at h1
  obtain ⟨s,h2,h3⟩:=bind_some h1
  obtain ⟨e1,e2,e3⟩:=xH h3
  have g:=fG h2
  exact ⟨by rw [e3];exact g.1,by rw [e1];exact g.2.1,by rw [e2];exact g.2.2⟩
theorem Ea {id:Nat} {Q:Exit→Act→World→Prop} {alts:List fZ} (hW:jW F) (hC:C.Ok P L) (aW:fE P rec env) (h:aI L σ T st a w) (hJ:C.J st.ys.length T w) (hst:st.stop=C.stop) (hX:st'.ys <+: C.X)
  (hmo:P.follows .mixedOrders=true) (hnd:jA bU=true) (hok:Ou P bU vo alts=true) (hp:iO rec env keep vo st alts=some st')
  (hn:∀ a' w',After C L st.boxes.length σ T w st' a.defers a' w'→Q .normal a' w'):(Code.region id bU true).wpIn F n P Q a w:=by
 simp only [Ou,Bool.and_eq_true] at hok
 obtain ⟨⟨hsel,hall⟩,hB⟩:=hok
 have hz:∀ z∈alts,EN P rec env bU vo keep st.boxes.length C.X st st' z:=fun z hz=>by
  have h1:=List.all_eq_true.1 hall z hz
  simp only [Bool.and_eq_true] at h1
  have h2:=zF hp z hz
  unfold iV at h2
  obtain ⟨s,h3,h4⟩:=bind_some h2
  have he:=eq_of_beq h1.1
  unfold EN
  rw [← he]
  exact ⟨h1.2,s,h3,by rw [← (xH h4).1];exact hX,h4⟩
 split at hB
 ·cases hB
 rename_i x xs
 refine zT (Whole w.drew) hW.fn hmo hnd hsel hB (Whole.refl _) ?_
 refine adz hW hC aW (nb:=st.boxes.length) (Nat.le_refl _) (w0:=w.drew) (σ0:=σ) (T0:=T) (ds:=a.defers) _ _ _ _ hB (h.sees (EL T w)) (fun _ _ _=>trivial) (hC.keep _ _ _ _ _ (xE T w) hJ) hst (Nat.le_refl _) hz (dn.refl _ _) (fun _ _=>rfl) ⟨[],rfl,Marks.nil⟩ fun a' w' hA=>hn _ _ ?_
 exact After.trans (ms:=[]) (xE T w).stays (fun _ _=>rfl) rfl Marks.nil (Nat.le_refl _) hA
end
end Go.Proofs.YtaaokejjmdbfaaaDoor

namespace Go.Proofs.YtaaokejjmdbfaaaDoor
open Go.RowKit
theorem oL {F:Fence} {n:Nat} {P:Program} {ops:Array Oper} {Q Q':Exit→Act→World→Prop} (hQ:∀ e a w,Q e a w→Q' e a w):∀ {l:List Oper} {a:Act} {w:World},wpListIn F n P ops Q l a w→wpListIn F n P ops Q' l a w
 |[],a,w,h=>hQ _ _ _ h
 |o :: l,a,w,h=>by
  have put:∀ (b:Act) (w':World),wpListIn F n P ops Q l b w'→wpListIn F n P ops Q' l b w':=fun b w' h=>oL hQ h
  simp only [wpListIn] at h ⊢
  split at h
  ·rename_i hw
   rw [if_pos hw]
   obtain ⟨h1,h2⟩:=h
   refine ⟨h1,?_⟩
   unfold Oper.uponIn at h2 ⊢
   split at h2
   ·exact put _ _ h2
   ·exact put _ _ h2
   ·exact put _ _ h2
   ·refine ⟨h2.1,h2.2.mono fun e w' he=>?_⟩
    cases e with
    |returned v=>exact put _ _ he
    |panicked chain=>exact hQ _ _ _ he
    |outgrown =>
     obtain ⟨a',w'',hq⟩:=he
     exact ⟨a',w'',hQ _ _ _ hq⟩
   ·exact ⟨h2.1,h2.2.mono fun v w' he=>put _ _ he⟩
   ·refine ⟨h2.1,h2.2.mono fun e w' he=>?_⟩
    cases e with
    |returned v=>exact put _ _ he
    |panicked chain=>exact hQ _ _ _ he
    |outgrown =>
     obtain ⟨a',w'',hq⟩:=he
     exact ⟨a',w'',hQ _ _ _ hq⟩
   ·exact hQ _ _ _ h2
   ·exact h2.elim
  ·rename_i hw
   rw [if_neg hw]
   exact ⟨h.1,put _ _ h.2⟩
def BN (l:List Oper) (a a':Act):Prop:=a'.tmps.size=a.tmps.size∧∀ t,(∀ o∈l,o.dst≠some t)→a'.tmps[t]?=a.tmps[t]?
theorem xI {F:Fence} {n:Nat} {P:Program} {ops:Array Oper} {Q:Exit→Act→World→Prop}:∀ {l:List Oper} {a:Act} {w:World},wpListIn F n P ops Q l a w →
  wpListIn F n P ops (fun e a' w'=>Q e a' w'∧(e=.normal→BN l a a')) l a w
 |[],a,w,h=>⟨h,fun _=>⟨rfl,fun _ _=>rfl⟩⟩
 |o :: l,a,w,h=>by
  have put:∀ (b:Act) (v:Value) (w':World),b.tmps=a.tmps→wpListIn F n P ops Q l (b.put o.dst v) w' →
    wpListIn F n P ops (fun e a' w'=>Q e a' w'∧(e=.normal→BN (o :: l) a a')) l (b.put o.dst v) w':=fun b v w' hb h=>by
   refine oL (fun e a' w' hq=>⟨hq.1,fun he=>?_⟩) (xI h)
   obtain ⟨g1,g2⟩:=hq.2 he
   have hs:(b.put o.dst v).tmps.size=a.tmps.size:=by
    unfold Act.put
    cases hd:o.dst with
    |none=>simp only;rw [hb]
    |some d=>simp only;rw [hb,Array.size_setIfInBounds]
   refine ⟨g1.trans hs,fun t ht=>?_⟩
   rw [g2 t fun q hq=>ht q (by simp [hq])]
   have hne:=ht o (by simp)
   unfold Act.put
   cases hd:o.dst with
   |none=>simp only;rw [hb]
   |some d =>
    simp only
    rw [hb,Array.getElem?_setIfInBounds_ne (fun e=>hne (by rw [hd,e]))]
  have fin:∀ {e:Exit} {a':Act} {w':World},e≠.normal→Q e a' w'→Q e a' w'∧(e=.normal→BN (o :: l) a a'):=fun hne hq=>⟨hq,fun he=>absurd he hne⟩
  simp only [wpListIn] at h ⊢
  split at h
  ·rename_i hw
   rw [if_pos hw]
   obtain ⟨h1,h2⟩:=h
   refine ⟨h1,?_⟩
   unfold Oper.uponIn at h2 ⊢
   split at h2
   ·exact put _ _ _ rfl h2
   ·exact put _ _ _ rfl h2
   ·exact put _ _ _ rfl h2
   ·refine ⟨h2.1,h2.2.mono fun e w' he=>?_⟩
    cases e with
    |returned v=>exact put _ _ _ rfl he
    |panicked chain=>exact fin (by simp) he
    |outgrown =>
     obtain ⟨a',w'',hq⟩:=he
     exact ⟨a',w'',fin (by simp) hq⟩
   ·exact ⟨h2.1,h2.2.mono fun v w' he=>put _ _ _ rfl he⟩
   ·refine ⟨h2.1,h2.2.mono fun e w' he=>?_⟩
    cases e with
    |returned v=>exact put _ _ _ rfl he
    |panicked chain=>exact fin (by simp) he
    |outgrown =>
     obtain ⟨a',w'',hq⟩:=he
     exact ⟨a',w'',fin (by simp) hq⟩
   ·exact fin (by simp) h2
   ·exact h2.elim
  ·rename_i hw
   rw [if_neg hw]
   exact ⟨h.1,put _ _ _ rfl h.2⟩
theorem tC {ok ok':Nat→Prop} {w w':World} {x:PV} {v:Value} (hs:x.scalar=true) (h:ay ok w x v):ay ok' w' x v:=by
 cases x with
 |int k n=>rw [h.bV];exact .int _ _
 |bool b=>cases h;exact .bool _
 |str s=>cases h;exact .str _
 |agg cs =>
  cases h with
  |agg _ arr h1 h2 h3 =>
   refine .agg cs arr h1 h2 fun j x v hx hv=>?_
   have hq:=List.all_eq_true.1 (show (cs.all fun c=>match c with
    |.int _ _|.bool _|.str _=>true
    |_=>false)=true from hs) x (List.mem_of_getElem? hx)
   have hr:=h3 j x v hx hv
   cases x with
   |int k n=>rw [hr.bV];exact .int _ _
   |bool b=>cases hr;exact .bool _
   |str s=>cases hr;exact .str _
   |_=>simp at hq
 |_=>simp [PV.scalar] at hs
theorem KH {e x:PV} {j:Nat} (hs:e.scalar=true) (hj:e.cells[j]?=some x):x.scalar=true:=by
 cases e with
 |agg cs =>
  have hq:=List.all_eq_true.1 (show (cs.all fun c=>match c with
   |.int _ _|.bool _|.str _=>true
   |_=>false)=true from hs) x (List.mem_of_getElem? hj)
  cases x<;>first|rfl|(simp at hq)
 |_ =>
  first
  |(simp [PV.scalar] at hs;done)
  |(match j,hj with
    |0,hj=>cases hj;rfl
    |j+1,hj=>simp [PV.cells] at hj)
theorem KI {T T':Tags} {w:World} {r:Root} {sz:Nat} {es:List PV} {v:Value} (hr:∀ b,T b=.row r→T' b=.row r) (hs:es.all PV.scalar=true) (h:aH T w r sz es v):aH T' w r sz es v:=by
 rcases h with h|⟨b,c,arr,E,h1,h2,h3,h4,h5,h6,h7,h8⟩
 ·exact .inl h
 ·refine .inr ⟨b,c,arr,E,h1,hr b h2,h3,h4,h5,h6,h7,fun i e j x hi hj=>?_⟩
  obtain ⟨u,k1,k2,k3⟩:=h8 i e j x hi hj
  exact ⟨u,k1,k2,tC (KH (List.all_eq_true.1 hs e (List.mem_of_getElem? hi)) hj) k3⟩
section
variable {P:Program} {F:Fence} {C:Ctx} {n L nb:Nat} {σ σ':Nat→Nat} {T T' T1 T2:Tags} {st st' st1 st2:St} {a a1:Act} {w w1 w2:World} {d:Nat} {ks:List Nat} {l:List fM} {sz:Nat} {es:List PV}
 {rec:ak→St→Option (Ex × St)} {env:Env} {bU:Array Oper}
theorem Grow.jq {st0:St} (h:Grow nb st1 st2) (hb:st0.jq d ks sz es st2=some st'):Grow nb st1 st':=by
 unfold St.jq at hb
 split at hb
 ·have hb:=Option.some.inj hb
  subst hb;exact h
 ·cases hb
def KJ (T T2:Tags) (d:Nat):Tags:=fun b=>if T b=.row (.slot d) then .row (.slot d) else T2 b
theorem Wv (h0:aI L σ T st a w) (hd:st.slots[d]?=some (.row sz es)) (h2:aI L σ' T2 st2 a1 w2) (f1:∀ b,T b=.row (.slot d)→T1 b=.ro) (f2:∀ b,T b=.ro→T1 b=.ro) (f3:∀ b,T b=.other→T1 b=.other) (hc:uG T1 T2 w w2)
  (hk:∀ t,t=d∨t∈ks→a1.tmps[t]?=a.tmps[t]?) (hl:st2.slots.length=st.slots.length) (hb:st.jq d ks sz es st2=some st') :
  aI L σ' (KJ T T2 d) st' a1 w2∧uG T (KJ T T2 d) w w2:=by
 unfold St.jq at hb
 split at hb
 case isFalse=>cases hb
 rename_i hfl
 have hb:=Option.some.inj hb
 subst hb
 have hT:∀ b,T b=.row (.slot d)→T2 b=.ro:=fun b e=>hc.ro b (f1 b e)
 have hl2:∀ b,T b≠.row (.slot d)→KJ T T2 d b=T2 b:=fun b e=>if_neg e
 have hro:∀ b,T b=.ro→KJ T T2 d b=.ro:=fun b e=>by rw [hl2 b (by rw [e];simp)];exact hc.ro b (f2 b e)
 have hsame:∀ b,b<w.heap.size→T b=.ro→w2.heap[b]?=w.heap[b]?:=fun b hb e=>hc.same b hb (.inl (f2 b e))
 have hkeep:∀ b,T b=.ro→b<w.heap.size→KJ T T2 d b=.ro∧w2.heap[b]?=w.heap[b]?:=fun b e hb=>⟨hro b e,hsame b hb e⟩
 have hrow:∀ (r:Root),∀ b,T2 b=.row r→KJ T T2 d b=.row r:=fun r b e=>by
  rw [hl2 b fun q=>by rw [hT b q] at e;cases e];exact e
 have acL:∀ (t:Nat) (new:AV) (v:Value),jF L σ' T2 st2 a1 w2 t new v→jF L σ' (KJ T T2 d) { st2 with slots:=st2.slots.mapIdx (Gh d ks sz es st) } a1 w2 t new.flat v:=fun t new v h=>by
  cases new with
  |pv x =>
   by_cases hs:x.scalar=true
   ·rw [show (AV.pv x).flat=.pv x by simp [AV.flat,hs]]
    exact tC hs h
   ·rw [show (AV.pv x).flat=.any by simp [AV.flat,hs]]
    trivial
  |row s l =>
   by_cases hs:l.all PV.scalar=true
   ·rw [show (AV.row s l).flat=.row s l from if_pos hs]
    exact KI (hrow _) hs h
   ·rw [show (AV.row s l).flat=.any from if_neg hs]
    trivial
  |aQ o j=>exact h
  |_=>trivial
 refine ⟨⟨?_,fun t av v ht hv=>?_,fun o bx ho=>?_,fun b hb=>?_⟩,⟨hc.size,hc.os,hc.tape,hc.output,fun b hb e=>?_,hro,fun b hb e=>?_⟩⟩
 ·rw [h2.size,List.length_mapIdx]
 ·rw [List.getElem?_mapIdx] at ht
  cases hn:st2.slots[t]? with
  |none=>rw [hn] at ht;cases ht
  |some new =>
   rw [hn] at ht
   cases ht
   have hnew:=h2.slots t new v hn hv
   unfold Gh
   by_cases c1:t=d
   ·rw [if_pos c1]
    subst c1
    have hv0:a.tmps[t]?=some v:=by rw [← hk t (.inl rfl)];exact hv
    have hr0:aH T w (.slot t) sz es v:=h0.slots t _ v hd hv0
    exact hr0.frame (fun b e hb=>⟨if_pos e,hc.same b hb (.inl (f1 b e))⟩) hkeep
   ·rw [if_neg c1]
    by_cases c2:ks.contains t=true
    ·rw [if_pos c2]
     have hmem:t∈ks:=by simpa using c2
     split
     ·rename_i x hx
      have hv0:a.tmps[t]?=some v:=by rw [← hk t (.inr hmem)];exact hv
      have hp:ay (fun b=>T b=.ro) w x v:=h0.slots t _ v hx hv0
      exact hp.frame hkeep
     ·exact acL t new v hnew
    ·rw [if_neg c2]
     exact acL t new v hnew
 ·obtain ⟨arr,E,k1,k2,k3,k4,k5⟩:=h2.boxes o bx ho
  have hf:=List.all_eq_true.1 hfl bx (List.mem_of_getElem? ho)
  simp only [Bool.and_eq_true,Bool.not_eq_true'] at hf
  have hbx:T2 (σ' o)=.box o:=by rw [k3,hf.1];rfl
  have hne:T (σ' o)≠.row (.slot d):=fun q=>by rw [hT _ q] at hbx;cases hbx
  refine ⟨arr,E,k1,k2,by rw [hl2 _ hne,k3],k4,fun j bv u hj hu=>?_⟩
  obtain ⟨m1,m2⟩:=k5 j bv u hj hu
  have hfj:=List.all_eq_true.1 hf.2 bv (List.mem_of_getElem? hj)
  refine ⟨m1,?_⟩
  cases bv with
  |pv x=>exact tC hfj m2
  |row s l=>exact KI (hrow _) hfj m2
 ·rw [hl2 b fun q=>by
   have:=h0.fresh b (Nat.le_trans hc.size hb)
   rw [q] at this;cases this]
  exact h2.fresh b hb
 ·rcases e with e|e
  ·exact hsame b hb e
  ·exact hc.same b hb (.inr (f3 b e))
 ·rw [hl2 b (by rw [e];simp)]
  exact hc.other b hb (f3 b e)
def Wx (ops:Array Oper) (ts:List Nat):Bool:=ops.toList.all fun o=>match o.dst with
 |some t=>!ts.contains t
 |none=>true
theorem Wy {ops:Array Oper} {ts:List Nat} (h:Wx ops ts=true) {t:Nat} (ht:t∈ts):∀ o∈ops.toList,o.dst≠some t:=fun o ho e=>by
 have:=List.all_eq_true.1 h o ho
 rw [e] at this
 simp [ht] at this
def WA (k0:Nat) (T0:Tags) (w0:World):Nat→Tags→World→Prop:=fun k T w=>k=k0∧uG T0 T w0 w
theorem aaB {id:Nat} (hW:jW F) (hC:C.Ok P L) (aW:fE P rec env) (hs:aI L σ T st a w) (hJ:C.J st.ys.length T w) (hd:st.slots[d]?=some (.row sz es)) (hstop:st.stop.isNone=true)
  (hm:mL P bU bU.toList l=true) (hn:Wx bU (d :: ks)=true) (hop:ops rec env l (st.freeze (.slot d))=some st2) (hb:st.jq d ks sz es st2=some st') :
  (Code.region id bU false).wpIn F n P (fun x a' w'=>x=.normal∧After C L st.boxes.length σ T w st' a.defers a' w') a w:=by
 have hrow:st.row (.slot d)=some (sz,es):=by unfold St.row;simp only [hd]
 have hfz:st.freeze (.slot d)=st.put d (.pv (.list sz es)):=by unfold St.freeze;rw [hrow]
 obtain ⟨T1,hs1,hst,-,hsrc,-⟩:=hs.freeze (.slot d)
 have f1:∀ b,T b=.row (.slot d)→T1 b=.ro:=hsrc sz es hrow
 have adB:st.stop=none:=by simpa using hstop
 have hys:(st.freeze (.slot d)).ys=st.ys:=by rw [hfz];rfl
 have hbx:(st.freeze (.slot d)).boxes=st.boxes:=by rw [hfz];rfl
 have hC':Ctx.Ok ⟨st2.ys,none,WA st.ys.length T1 w⟩ P L:=⟨fun k T1 T2 w1 w2 hc h=>⟨h.1,h.2.trans hc⟩,fun k T1 w1 h=>by
  have hG:=hC.glob _ _ _ hJ
  exact hG.frame fun b e hb=>⟨h.2.ro b (hst.ro b e),h.2.same b hb (.inl (hst.ro b e))⟩,fun s k T w ps vs hq=>by cases hq⟩
 refine wpIn_region_list ?_
 refine oL ?_ (xI (GR (C:=⟨st2.ys,none,WA st.ys.length T1 w⟩) (Q:=fun e a' w'=>e=.normal∧After ⟨st2.ys,none,WA st.ys.length T1 w⟩ L st.boxes.length σ T1 w st2 a.defers a' w') hW hC' aW (List.prefix_refl _) hs1 (by rw [hys];exact ⟨rfl,uG.refl _ _⟩) (by rw [hfz];exact adB) hm hop ?_))
 rotate_left
 ·intro a' w' hA
  rw [hbx] at hA
  exact ⟨rfl,hA⟩
 ·rintro e a' w' ⟨⟨rfl,σ',T2,ms,q1,q2,q3,q4,q5,q6⟩,q7⟩
  have q7:=q7 rfl
  have hsz:st2.slots.length=st.slots.length:=by rw [← q1.size,q7.1,hs.size]
  obtain ⟨r1,r2⟩:=Wv (ks:=ks) hs hd q1 f1 hst.ro hst.other q2.2 (fun t ht=>q7.2 t (Wy hn (by rcases ht with rfl|ht<;>simp [*]))) hsz hb
  have aiC:st'.ys=st2.ys:=by
   unfold St.jq at hb
   split at hb
   ·have hb:=Option.some.inj hb
    subst hb;rfl
   ·cases hb
  refine ⟨rfl,σ',_,ms,r1,?_,q3,r2.stays,q5,⟨fun r hr=>?_,q6.2⟩⟩
  ·rw [aiC,q2.1]
   exact hC.keep _ _ _ _ _ r2 hJ
  ·obtain ⟨m1,m2,m3⟩:=q6.1 r hr
   refine ⟨m1,?_,m3⟩
   unfold KJ
   rw [if_neg fun q=>by
    have:=hs.fresh r m1
    rw [q] at this;cases this]
   exact m2
end
end Go.Proofs.YtaaokejjmdbfaaaDoor

namespace Go.Proofs.YtaaokejjmdbfaaaDoor
open Go.RowKit
def mC (P:Program):Code→ak→Bool
 |c,.clean _ _ v=>mC P c v
 |_,.drs _ _ _ []=>true
 |.skip,.skip=>true
 |.label _,.skip=>true
 |.region _ ops false,.ops l=>mL P ops ops.toList l
 |.region _ ops false,.lend d ks l=>mL P ops ops.toList l&&Wx ops (d :: ks)
 |.region _ ops true,.vk _ acts fin last l=>P.follows .mixedOrders&&jA ops&&QJ ops acts fin last&&wF P ops fin last acts l
 |.region _ ops true,.drs _ _ vo alts=>P.follows .mixedOrders&&jA ops&&Ou P ops vo alts
 |.seq a b,.seq c d=>mC P a c&&mC P b d
 |.cond x a b,.cond y c d=>aY x y&&mC P a c&&mC P b d
 |.block i a,.block j c=>i==j&&mC P a c
 |.loop a,.loop _ c=>mC P a c
 |.rangeFunc g ps qH bd,.rng g' ps' KL bd'=>aY g g'&&ps.toList==ps'&&mC P qH KL&&mC P bd bd'
 |.exit i,.exit j=>i==j
 |.ret,.ret=>true
 |.region _ ops false,.dem l d f args=>mL P ops ops.toList (l++[.call d f args])
 |_,_=>false
def toX:Ex→Exit
 |.normal=>.normal
 |.exit i=>.exit i
 |.ret=>.ret
 |.nK t n=>.panic [{ v:=.iface t (.int .i64 n),recovered:=false }]
def Post (C:Ctx) (L nb:Nat) (σ:Nat→Nat) (T:Tags) (w:World) (e:Ex) (st':St) (ds:List Deferred):Exit→Act→World→Prop:=fun x a' w'=>x=toX e∧After C L nb σ T w st' ds a' w'
def Ctx.Rec (C:Ctx) (F:Fence):Prop:=∀ l,F=Fence.wide.inRound l→∀ k T w,C.J k T w→∃ r,w.heap[l]?=some (.loop r)
theorem Ctx.xJ (C:Ctx):C.Rec Fence.wide:=fun l e=>by
 have:Fence.wide.round=(Fence.wide.inRound l).round:=by rw [← e]
 cases this
structure oM (P:Program) (rec:ak→St→Option (Ex × St)):Prop where
 grow:∀ c vc st e st',mC P c vc=true→rec vc st=some (e,st')→Grow st.boxes.length st st'
 WB:∀ c keep nb vc st e st',mC P c vc=true→rec (.round keep nb vc) st=some (e,st')→Grow nb st st'
 wp:∀ {F:Fence} {L:Nat} {C:Ctx} {n:Nat},jW F→C.Rec F→C.Ok P L→∀ c vc st e st',mC P c vc=true→rec vc st=some (e,st')→st.stop=C.stop→st'.ys <+: C.X→∀ σ T a w,aI L σ T st a w→C.J st.ys.length T w→c.wpIn F n P (Post C L st.boxes.length σ T w e st' a.defers) a w
 wpR:∀ {F:Fence} {L:Nat} {C:Ctx} {n:Nat},jW F→C.Rec F→C.Ok P L→∀ c keep nb vc st e st',mC P c vc=true→rec (.round keep nb vc) st=some (e,st')→st.stop=C.stop→st'.ys <+: C.X→∀ σ T a w,aI L σ T st a w→C.J st.ys.length T w→wB F n P c (Post C L nb σ T w e st' a.defers) a w
section
variable {P:Program} {F:Fence} {C:Ctx} {n L nb:Nat} {σ σ':Nat→Nat} {T T' T1 T2:Tags} {st st' st1:St} {a a1:Act} {w w1:World} {o:Oper} {vo:fM} {y:Operand} {x:bP} {d:Nat}
 {rec:ak→St→Option (Ex × St)} {env:Env} {next:Act→World→Prop} {Q:Exit→Act→World→Prop} {bU:Array Oper} {ds:List Deferred} {e:Ex}
end
end Go.Proofs.YtaaokejjmdbfaaaDoor

namespace Go.Proofs.YtaaokejjmdbfaaaDoor
open Go.RowKit
def mJ (K:Nat):vI:=.row (.part (K+1) 0)
section
variable {P:Program} {F:Fence} {C:Ctx} {n L nb:Nat} {σ σ':Nat→Nat} {T T' T1 T2:Tags} {st st' st1:St} {a a1:Act} {w w' w1:World} {o:Oper} {vo:fM} {y:Operand} {x:bP} {d:Nat}
 {rec:ak→St→Option (Ex × St)} {env:Env} {next:Act→World→Prop} {Q:Exit→Act→World→Prop} {bU:Array Oper} {ds:List Deferred} {e:Ex}
def WC (T:Tags) (K:Nat):Tags:=fun b=>if T b=mJ K then .other else T b
theorem SS {K b:Nat} (h:T b=mJ K):WC T K b=.other:=if_pos h
theorem SV {K b:Nat} (h:T b≠mJ K):WC T K b=T b:=if_neg h
def G7 (L nb:Nat) (σ:Nat→Nat) (T:Tags) (w:World):AV→Value→Prop
 |.pv x,v=>ay (fun b=>T b=.ro) w x v
 |.aQ o j,v=>o<nb∧v=.pointer (some ⟨σ o,j,none⟩)
 |.fn f caps,v=>∃ arr:Array Value,v=.func (.func f) #[] arr∧arr.size=caps.length∧∀ (k:Nat) x u,caps[k]?=some x→arr[k]?=some u→gU nb σ T w x u
 |.oQ,v=>v=.func (.yield L) #[] #[]
 |.any,_=>True
 |_,_=>False
def lq (L nb:Nat) (σ:Nat→Nat) (T:Tags) (w:World) (slots:List AV) (tmps:Array Value):Prop :=
 tmps.size=slots.length∧∀ (t:Nat) av v,slots[t]?=some av→tmps[t]?=some v→G7 L nb σ T w av v
theorem G7.keep {av:AV} {v:Value} (h:G7 L nb σ T w av v) (hw:∀ b,T b=.ro→b<w.heap.size→T' b=.ro∧w'.heap[b]?=w.heap[b]?) (hσ:∀ o,o<nb→σ' o=σ o):G7 L nb σ' T' w' av v:=by
 cases av<;>simp only [G7] at h ⊢
 case pv x=>exact ay.frame hw h
 case aQ o j=>exact ⟨h.1,by rw [hσ o h.1];exact h.2⟩
 case fn f caps =>
  obtain ⟨arr,e1,e2,e3⟩:=h
  refine ⟨arr,e1,e2,fun k x u hx hu=>?_⟩
  have:=e3 k x u hx hu
  cases x<;>simp only [gU] at this ⊢
  case pv p=>exact ay.frame hw this
  case aQ o j=>exact ⟨this.1,by rw [hσ o this.1];exact this.2⟩
 case oQ=>exact h
theorem lq.keep {slots:List AV} {tmps:Array Value} (h:lq L nb σ T w slots tmps) (hw:∀ b,T b=.ro→b<w.heap.size→T' b=.ro∧w'.heap[b]?=w.heap[b]?) (hσ:∀ o,o<nb→σ' o=σ o):lq L nb σ' T' w' slots tmps :=
 ⟨h.1,fun t av v ht hv=>(h.2 t av v ht hv).keep hw hσ⟩
theorem G7.aiD {av:AV} {v:Value} {t:Nat} (h:G7 L nb σ T w av v) (hnb:nb≤st.boxes.length):jF L σ T st a w t av v:=by
 cases av<;>simp only [G7] at h<;>simp only [jF]
 case pv x=>exact h
 case aQ o j=>exact ⟨by omega,h.2⟩
 case fn f caps =>
  obtain ⟨arr,e1,e2,e3⟩:=h
  refine ⟨arr,e1,e2,fun k x u hx hu=>?_⟩
  have:=e3 k x u hx hu
  cases x<;>simp only [gU] at this ⊢
  case pv p=>exact this
  case aQ o j=>exact ⟨by omega,this.2⟩
 case oQ=>exact h
theorem lq.sim {slots:List AV} {boxes:List Box} {ys:List (List PV)} {stop:Option (Option Nat)} {tmps:Array Value} {dfs:List Deferred} (h:lq L nb σ T w slots tmps) (hnb:nb≤boxes.length) (hb:∀ (o:Nat) bx,boxes[o]?=some bx→iK T w (σ o) o bx)
  (hf:∀ b,w.heap.size≤b→T b=.other):aI L σ T ⟨slots,boxes,ys,stop⟩ { tmps:=tmps,defers:=dfs } w :=
 ⟨h.1,fun t av v ht hv=>(h.2 t av v ht hv).aiD hnb,hb,hf⟩
theorem aI.froze (h:aI L σ T st a w):∃ T',lq L st.boxes.length σ T' w (st.slots.map AV.froze) a.tmps∧(∀ (o:Nat) bx,st.boxes[o]?=some bx→iK T' w (σ o) o bx)∧Still T T':=by
 refine ⟨fun b=>match T b with|.row (.slot _)=>.ro|q=>q,⟨by simp [h.size],fun t av v ht hv=>?_⟩,fun o bx ho=>?_,⟨fun b e=>by simp [e],fun b e=>by simp [e]⟩⟩
 ·rw [List.getElem?_map] at ht
  cases e:st.slots[t]? with
  |none=>rw [e] at ht;cases ht
  |some av0 =>
   rw [e] at ht
   simp only [Option.map_some,Option.some.injEq] at ht
   subst ht
   have hA:=h.slots t av0 v e hv
   have hro:∀ b,T b=.ro→(match T b with|.row (.slot _)=>vI.ro|q=>q)=.ro:=fun b e=>by simp [e]
   cases av0<;>simp only [AV.froze,G7]<;>simp only [jF] at hA
   case pv x=>exact ay.frame (fun b e _=>⟨hro b e,rfl⟩) hA
   case row sz es=>exact aH.list (fun b e=>by simp [e]) (fun b e=>hro b e) hA
   case aQ o j=>exact hA
   case fn f caps =>
    obtain ⟨arr,e1,e2,e3⟩:=hA
    refine ⟨arr,e1,e2,fun k x u hx hu=>?_⟩
    have:=e3 k x u hx hu
    cases x<;>simp only [gU] at this ⊢
    case pv p=>exact ay.frame (fun b e _=>⟨hro b e,rfl⟩) this
    case aQ o j=>exact this
   case oQ=>exact hA
 ·have hb:=h.boxes o bx ho
  have hT:(match T (σ o) with|.row (.slot _)=>vI.ro|q=>q)=T (σ o):=by
   obtain ⟨_,_,_,_,h3,_⟩:=hb
   rw [h3];cases hfz:bx.fz<;>simp
  exact hb.frame ⟨hT,rfl⟩ (fun j b e _=>⟨by simp [e],rfl⟩) (fun b e _=>⟨by simp [e],rfl⟩)
theorem lq.params:∀ {ps:List Nat} {x:List PV} {vs:List Value} {slots sl:List AV} {tmps:Array Value},fK slots ps x=some sl→lq L nb σ T w slots tmps→vs.length=x.length→(∀ (i:Nat) p v,x[i]?=some p→vs[i]?=some v→ay (fun b=>T b=.ro) w p v) →
  ps.length=vs.length∧lq L nb σ T w sl ((ps.zip vs).foldl (fun t (p,v)=>t.setIfInBounds p v) tmps)
 |[],[],vs,slots,sl,tmps,hs,h,hl,hr=>by
  simp only [fK,Option.some.injEq] at hs
  subst hs
  have:vs=[]:=List.eq_nil_of_length_eq_zero (by simpa using hl)
  subst this
  exact ⟨rfl,h⟩
 |p :: ps,q :: x,v :: vs,slots,sl,tmps,hs,h,hl,hr=>by
  simp only [fK] at hs
  have h1:lq L nb σ T w (slots.set p (.pv q)) (tmps.setIfInBounds p v):=by
   refine ⟨by simp [h.1],fun t av u ht hu=>?_⟩
   rw [List.getElem?_set] at ht
   rw [Array.getElem?_setIfInBounds] at hu
   by_cases e:p=t
   ·subst e
    simp only [if_true] at ht hu
    split at ht
    ·split at hu
     ·cases ht;cases hu
      exact hr 0 q v rfl rfl
     ·cases hu
    ·cases ht
   ·simp only [if_neg e] at ht hu
    exact h.2 t av u ht hu
  obtain ⟨k1,k2⟩:=lq.params (vs:=vs) hs h1 (by simpa using hl) (fun i p v hp hv=>hr (i+1) p v hp hv)
  exact ⟨by simp [k1],k2⟩
 |[],_ :: _,_,_,_,_,hs,_,_,_=>by simp [fK] at hs
 |_ :: _,[],_,_,_,_,hs,_,_,_=>by simp [fK] at hs
 |_ :: _,_ :: _,[],_,_,_,_,_,hl,_=>by simp at hl
theorem tH (hg:∀ c vc st e st',mC P c vc=true→rec vc st=some (e,st')→Grow st.boxes.length st st') {ca cb:Code} {slots:List AV} {ps:List Nat} {qH bd:ak} (ha:mC P ca qH=true) (hb:mC P cb bd=true) :
  ∀ (xs:List (List PV)) (k:Nat) (s:St) r s',rounds rec slots ps qH bd nb k xs s=some (r,s')→nb≤s.boxes.length→Grow nb s s'
 |[],k,s,r,s',h,hn=>by
  simp only [rounds,Option.some.injEq,Prod.mk.injEq] at h
  rw [← h.2];exact ⟨hn,List.prefix_refl _,rfl⟩
 |x :: xs,k,s,r,s',h,hn=>by
  unfold rounds at h
  replace h:=bind_some h
  obtain ⟨sl,h1,h⟩:=h
  replace h:=bind_some h
  obtain ⟨⟨e1,s1⟩,h2,h⟩:=h
  have g1:=hg _ _ _ _ _ ha h2
  simp only at h
  split at h
  case h_2=>cases h
  replace h:=bind_some h
  obtain ⟨⟨e2,s2⟩,h3,h⟩:=h
  have g2:=hg _ _ _ _ _ hb h3
  have g1':Grow nb s s1:=⟨Nat.le_trans hn g1.1,g1.2.1,g1.2.2⟩
  have g2':Grow nb s1 s2:=g2.mono g1'.1
  simp only at h
  split at h
  ·split at h
   case isFalse=>cases h
   rename_i hle
   have g3:=tH hg ha hb xs (k+1) _ r s' h (by simp;omega)
   exact (g1'.trans g2').trans ⟨g3.1,g3.2.1,g3.2.2⟩
  ·cases h
  ·simp only [Option.some.injEq,Prod.mk.injEq] at h
   rw [← h.2];exact g1'.trans g2'
end
end Go.Proofs.YtaaokejjmdbfaaaDoor

namespace Go.Proofs.YtaaokejjmdbfaaaDoor
open Go.RowKit
theorem KN {ok good:Nat→Prop} {w:World} (hg:∀ b,dD w b→good b) {x:PV} {v:Value} (h:ay ok w x v):ay (fun b=>ok b∧good b) w x v:=by
 induction h with
 |int k n=>exact .int k n
 |bool b=>exact .bool b
 |str s=>exact .str s
 |su=>exact .su
 |void v h=>exact .void v h
 |nil sz a=>exact .nil sz a
 |kU sz a=>exact .kU sz a
 |list sz es b off c cv h1 h2 h3 h4 h6 h7 h8 ih=>exact .list sz es b off c cv ⟨h1,hg b h2⟩ h2 h3 h4 h6 h7 ih
 |agg cs arr h1 h2 h3 ih=>exact .agg cs arr h1 h2 ih
 |func f caps arr h1 h2 ih=>exact .func f caps arr h1 ih
 |dS cs j b off cv h1 h2 h3 h4 ih=>exact .dS cs j b off cv ⟨h1,hg b h2⟩ h2 h3 ih
def Compat (T Tc:Tags) (K B0:Nat) (w:World):Prop:=∀ b,b<w.heap.size→T b≠.other→Tc b=mJ K∨(T b=.ro∧Tc b=.ro∧(b<B0∨dD w b))
theorem qh (K:Nat):mJ K≠.ro:=by simp [mJ]
theorem uT (K:Nat):mJ K≠.other:=by simp [mJ]
structure Rg where
 L:Nat
 nb:Nat
 K:Nat
 σ0:Nat→Nat
 T1:Tags
 w0:World
 slots:List AV
 tmps:Array Value
 l:Nat
 D:List Nat
 B0:Nat
structure CSx (C:Ctx) (R:Rg) (lp:Loop) (s:St) (T:Tags) (w:World) (σ:Nat→Nat) (Tc:Tags):Prop where
 fs:lq R.L R.nb σ Tc w R.slots R.tmps
 bx:∀ (o:Nat) b,s.boxes[o]?=some b→iK Tc w (σ o) o b
 fr:∀ b,w.heap.size≤b→Tc b=.other
 j:C.J s.ys.length Tc w
 nbx:R.nb≤s.boxes.length
 KO:s.stop=C.stop
 sg:∀ o,o<R.nb→σ o=R.σ0 o
 sy:dn R.T1 Tc R.w0 w
 cp:Compat T Tc R.K R.B0 w
 rl:w.heap[R.l]?=some (.loop lp)
 rt:Tc R.l=mJ R.K
 ro:T R.l=.other
 dd:∀ d∈R.D,w.heap[d]?=some (.deferred (some []))∧Tc d=.ro∧T d=.other
def CS (C:Ctx) (R:Rg) (lp:Loop) (s:St) (T:Tags) (w:World):Prop:=∃ σ Tc,CSx C R lp s T w σ Tc
section
variable {P:Program} {F:Fence} {C:Ctx} {n L nb:Nat} {σ σ':Nat→Nat} {T T' Tc T1 T2:Tags} {st st' st1 s:St} {a a1:Act} {w w' w1:World} {R:Rg} {lp:Loop}
 {rec:ak→St→Option (Ex × St)} {env:Env}
theorem lt_of_heap {o:Obj} {b:Nat} (h:w.heap[b]?=some o):b<w.heap.size:=(Array.getElem?_eq_some_iff.1 h).1
theorem CS.take (h:CS C R lp s T w):CS C R lp { s with boxes:=s.boxes.take R.nb } T w:=by
 obtain ⟨σ,Tc,h⟩:=h
 refine ⟨σ,Tc,{ h with bx:=fun o b ho=>?_,nbx:=?_ }⟩
 ·simp only [List.getElem?_take] at ho
  split at ho
  ·exact h.bx o b ho
  ·cases ho
 ·have:=h.nbx;simp;omega
theorem CS.keep (hC:C.Ok P L) (h:CS C R lp s T w) (hc:uG T T' w w'):CS C R lp s T' w':=by
 classical
 obtain ⟨σ,Tc,h⟩:=h
 have hsame:∀ b,b<w.heap.size→Tc b≠mJ R.K→w'.heap[b]?=w.heap[b]?:=fun b hb hd=>by
  by_cases e:T b=.other
  ·exact hc.same b hb (.inr e)
  ·rcases h.cp b hb e with g|⟨g,_⟩
   ·exact absurd g hd
   ·exact hc.same b hb (.inl g)
 obtain ⟨Tn,Kq⟩:∃ Tn:Tags,Tn=fun b=>if b<w.heap.size then Tc b else if b<w'.heap.size∧T' b≠.other then mJ R.K else .other:=⟨_,rfl⟩
 have hlt:∀ b,b<w.heap.size→Tn b=Tc b:=fun b hb=>by rw [Kq];exact if_pos hb
 have hl:=lt_of_heap h.rl
 have hro:∀ b,Tc b=.ro→b<w.heap.size:=fun b e=>by
  rcases Nat.lt_or_ge b w.heap.size with g|g
  ·exact g
  ·rw [h.fr b g] at e;cases e
 have hw:∀ b,Tc b=.ro→b<w.heap.size→Tn b=.ro∧w'.heap[b]?=w.heap[b]?:=fun b e hb=>⟨by rw [hlt b hb,e],hsame b hb (by rw [e];exact (qh _).symm)⟩
 refine ⟨σ,Tn,⟨h.fs.keep hw fun _ _=>rfl,fun o b ho=>?_,fun b hb=>?_,?_,h.nbx,h.KO,h.sg,h.sy.trans ⟨hc.size,fun b e=>(hw b e (hro b e)).1,fun b hb e=>hsame b hb (by rw [e];exact (qh _).symm)⟩,fun b hb ht=>?_,?_,?_,?_,fun d hd=>?_⟩⟩
 ·have hb:=h.bx o b ho
  have hbl:=hb.lt
  have hT:Tc (σ o)≠mJ R.K:=by
   obtain ⟨_,_,_,_,h3,_⟩:=hb
   rw [h3];split<;>simp [mJ]
  exact hb.frame ⟨hlt _ hbl,hsame _ hbl hT⟩ (fun j b e hb=>⟨by rw [hlt b hb,e],hsame b hb (by rw [e];simp [mJ])⟩) hw
 ·have:¬ b<w.heap.size:=by have:=hc.size;omega
  rw [Kq]
  simp only [if_neg this,if_neg (show ¬ (b<w'.heap.size∧T' b≠.other) by omega)]
 ·refine hC.keep _ _ _ _ _ ⟨hc.size,hc.os,hc.tape,hc.output,fun b hb ht=>?_,fun b e=>(hw b e (hro b e)).1,fun b hb e=>by rw [hlt b hb,e]⟩ h.j
  refine hsame b hb ?_
  rcases ht with e|e<;>rw [e]<;>simp [mJ]
 ·by_cases hbl:b<w.heap.size
  ·have ht0:T b≠.other:=fun e=>ht (hc.other b hbl e)
   rw [hlt b hbl]
   rcases h.cp b hbl ht0 with g|⟨g1,g2,g3⟩
   ·exact .inl g
   ·refine .inr ⟨hc.ro b g1,g2,g3.imp id fun hcl=>hcl.same (hc.same b hbl (.inl g1))⟩
  ·left
   rw [Kq]
   simp only [if_neg hbl,if_pos (show b<w'.heap.size∧T' b≠.other from ⟨hb,ht⟩)]
 ·rw [hc.same _ hl (.inr h.ro)];exact h.rl
 ·rw [hlt _ hl];exact h.rt
 ·exact hc.other _ hl h.ro
 ·obtain ⟨g1,g2,g3⟩:=h.dd d hd
  have hdl:=lt_of_heap g1
  exact ⟨by rw [hc.same _ hdl (.inr g3)];exact g1,by rw [hlt _ hdl];exact g2,hc.other _ hdl g3⟩
def inS (C:Ctx) (K l:Nat) (S:Nat→Prop) (w:World) (lp:Loop) [DecidablePred S]:Ctx where
 X:=C.X
 stop:=C.stop
 J k T u:=(∀ b,S b→T b=.other)∧(∀ b,S b→b≠l→u.heap[b]?=w.heap[b]?)∧u.heap[l]?=some (.loop lp)∧w.heap.size≤u.heap.size∧C.J k (fun b=>if S b then mJ K else T b) u
theorem adC (hC:C.Ok P L) {K l:Nat} {S:Nat→Prop} [DecidablePred S] (hS:∀ b,S b→b<w.heap.size) (hl:S l):(inS C K l S w lp).Ok P L:=by
 refine ⟨fun k T T' u u' hc ⟨h1,h2,h3,h4,h5⟩=>⟨fun b hb=>?_,fun b hb hbl=>?_,?_,Nat.le_trans h4 hc.size,?_⟩,fun k T u ⟨h1,h2,h3,h4,h5⟩=>(hC.glob _ _ _ h5).frame fun b e _=>⟨?_,rfl⟩,fun s k T u ps vs hs hx hf ⟨h1,h2,h3,h4,h5⟩ hlen hr=>?_⟩
 ·exact hc.other b (by have:=hS b hb;omega) (h1 b hb)
 ·exact (hc.same b (by have:=hS b hb;omega) (.inr (h1 b hb))).trans (h2 b hb hbl)
 ·exact (hc.same l (by have:=hS l hl;omega) (.inr (h1 l hl))).trans h3
 ·refine hC.keep _ _ _ _ _ ⟨hc.size,hc.os,hc.tape,hc.output,fun b hb ht=>?_,fun b e=>?_,fun b hb e=>?_⟩ h5
  ·by_cases hs:S b
   ·simp only [if_pos hs] at ht;rcases ht with e|e<;>simp [mJ] at e
   ·simp only [if_neg hs] at ht;exact hc.same b hb ht
  ·by_cases hs:S b
   ·simp only [if_pos hs] at e;simp [mJ] at e
   ·simp only [if_neg hs] at e ⊢;exact hc.ro b e
  ·by_cases hs:S b
   ·simp only [if_pos hs] at e;simp [mJ] at e
   ·simp only [if_neg hs] at e ⊢;exact hc.other b hb e
 ·by_cases hs:S b
  ·simp only [if_pos hs] at e;simp [mJ] at e
  ·simp only [if_neg hs] at e;exact e
 ·have hns:∀ b,T b≠.other→¬ S b:=fun b hb hs=>hb (h1 b hs)
  obtain ⟨f,tm,qH,bd,k1,k2⟩:=hC.oQ s k (fun b=>if S b then mJ K else T b) u ps vs hs hx (fun b hb=>by
   have:¬ S b:=fun hs=>by have:=hS b hs;omega
   simp only [if_neg this];exact hf b hb) h5 hlen (fun i p v hp hv=>(hr i p v hp hv).frame fun b hb _=>⟨by simp only [if_neg (hns b (by rw [hb];simp))];exact hb,rfl⟩)
  refine ⟨f,tm,qH,bd,k1,fun n=>?_⟩
  refine (k2 n).mono fun e w3 hq=>?_
  obtain ⟨g1,g2,g3⟩:=hq
  have hse:∀ b,(if S b then mJ K else T b)≠.other→b<u.heap.size→w3.heap[b]?=u.heap[b]?:=g3.2
  refine ⟨g1,⟨h1,fun b hb hbl=>?_,?_,Nat.le_trans h4 g3.1,g2⟩,g3.1,fun b hb hbl=>hse b (by rw [if_neg (hns b hb)];exact hb) hbl⟩
  ·exact (hse b (by rw [if_pos hb];simp [mJ]) (by have:=hS b hb;omega)).trans (h2 b hb hbl)
  ·exact (hse l (by rw [if_pos hl];simp [mJ]) (by have:=hS l hl;omega)).trans h3
end
end Go.Proofs.YtaaokejjmdbfaaaDoor

namespace Go.Proofs.YtaaokejjmdbfaaaDoor
open Go.RowKit
section
variable {P:Program} {F:Fence} {C:Ctx} {n L nb:Nat} {σ σ':Nat→Nat} {T T' Tc T1 T2:Tags} {st st' st1 s:St} {a a1:Act} {w w' w1:World} {R:Rg} {lp:Loop}
 {rec:ak→St→Option (Ex × St)} {env:Env}
def rC:Ex→Option Code
 |.normal=>none
 |.ret=>some .ret
 |.exit i=>some (.exit i)
 |.nK _ _=>none
theorem QN (C:Ctx) (K l:Nat) (S:Nat→Prop) (w:World) (lp:Loop) [DecidablePred S]:(inS C K l S w lp).Rec (Fence.wide.inRound l):=fun l' e k T u h=>by
 have:(Fence.wide.inRound l).round=(Fence.wide.inRound l').round:=by rw [← e]
 have:l=l':=Option.some.inj this
 subst this
 exact ⟨lp,h.2.2.1⟩
set_option maxHeartbeats 1000000 in
theorem KP (hR:oM P rec) (hC:C.Ok P R.L) {ca cb:Code} {qH bd:ak} (ha:mC P ca qH=true) (hb:mC P cb bd=true) {fn:FuncId} {ps:Array Tmp} {dd:Nat} {rc:LoopState→Option Code→Loop}
  (hrc:rc=fun st pe=>{ state:=st,pending:=pe,fn:=fn,tmps:=R.tmps,params:=ps,assign:=ca,body:=cb,defers:=dd })
  (hcs:CS C R (rc .ready none) s T w) (hT:∀ b,w.heap.size≤b→T b=.other) (hD:R.l ∉ R.D) {x:List PV} {vs:List Value} (hvs:vs.length=x.length) (hrep:∀ (i:Nat) p v,x[i]?=some p→vs[i]?=some v→ay (fun b=>T b=.ro) w p v)
  {sl:List AV} {sa sb:St} {e:Ex} (h1:fK R.slots ps.toList x=some sl) (h2:rec qH { s with slots:=sl }=some (.normal,sa)) (h3:rec bd sa=some (e,sb)) (hX:sb.ys <+: C.X) (he:∀ t n,e≠.nK t n) :
  ∃ f acO KL bd',(Instr.yield R.l vs.toArray).run P w=.ok (.round R.l f acO KL bd') w∧∀ n,RoundIn Fence.wide n P R.l f acO KL bd' w fun en w'=>en=.returned (.bool (rC e).isNone) ∧
   CS C R (rc (if (rC e).isNone then .ready else .done) (rC e)) sb T w'∧oU T w w':=by
 classical
 obtain ⟨σ1,Tc,h⟩:=hcs
 have hll:=lt_of_heap h.rl
 obtain ⟨Ty,hTy⟩:∃ Ty:Tags,Ty=fun b=>if Tc b=mJ R.K∧T b=.ro∧dD w b then .ro else Tc b:=⟨_,rfl⟩
 have ty1:∀ b,Tc b=mJ R.K∧T b=.ro∧dD w b→Ty b=.ro:=fun b hb=>by rw [hTy];exact if_pos hb
 have ty2:∀ b,¬ (Tc b=mJ R.K∧T b=.ro∧dD w b)→Ty b=Tc b:=fun b hb=>by rw [hTy];exact if_neg hb
 have ty3:∀ b,Tc b≠mJ R.K→Ty b=Tc b:=fun b hb=>ty2 b fun g=>hb g.1
 obtain ⟨Sx,hSx⟩:∃ Sx:Nat→Prop,Sx=fun b=>b<w.heap.size∧Ty b=mJ R.K:=⟨_,rfl⟩
 have hSl:∀ b,Sx b→b<w.heap.size:=fun b hb=>by rw [hSx] at hb;exact hb.1
 have hSd:∀ b,Sx b→Ty b=mJ R.K:=fun b hb=>by rw [hSx] at hb;exact hb.2
 have aiE:Ty R.l=mJ R.K:=by rw [ty2 _ fun g=>(by have:=g.2.1;rw [h.ro] at this;cases this)];exact h.rt
 have hlS:Sx R.l:=by rw [hSx];exact ⟨hll,aiE⟩
 have WE:∀ b,w.heap.size≤b→Ty b=.other:=fun b hb=>by rw [ty3 b (by rw [h.fr b hb];exact (uT _).symm),h.fr b hb]
 obtain ⟨Tz,hTz⟩:∃ Tz:Tags,Tz=WC Ty R.K:=⟨_,rfl⟩
 have tz1:∀ b,Sx b→Tz b=.other:=fun b hb=>by rw [hTz];exact SS (hSd b hb)
 have tz2:∀ b,Ty b≠mJ R.K→Tz b=Ty b:=fun b hb=>by rw [hTz];exact SV hb
 have hre:(fun b=>if Sx b then mJ R.K else Tz b)=Ty:=by
  funext b
  by_cases hb:Sx b
  ·simp only [if_pos hb];exact (hSd b hb).symm
  ·simp only [if_neg hb]
   refine tz2 b fun e=>hb ?_
   rw [hSx]
   refine ⟨?_,e⟩
   rcases Nat.lt_or_ge b w.heap.size with g|g
   ·exact g
   ·rw [WE b g] at e;exact absurd e.symm (uT _)
 have WG:∀ b,Tc b≠mJ R.K→Tz b=Tc b:=fun b hb=>by rw [tz2 b (by rw [ty3 b hb];exact hb),ty3 b hb]
 have hro:∀ b,Tc b=.ro→b<w.heap.size→Tz b=.ro∧w.heap[b]?=w.heap[b]?:=fun b e _=>⟨by rw [WG b (by rw [e];exact (qh _).symm),e],rfl⟩
 -- the round's own state
 have hJy:C.J s.ys.length Ty w:=hC.keep _ _ _ _ _ ⟨Nat.le_refl _,rfl,rfl,rfl,fun _ _ _=>rfl,fun b e=>by rw [ty3 b (by rw [e];exact (qh _).symm),e],fun b _ e=>by rw [ty3 b (by rw [e];exact (uT _).symm),e]⟩ h.j
 have hbz:∀ (o:Nat) b,s.boxes[o]?=some b→iK Tz w (σ1 o) o b:=fun o b ho=>by
  have hb:=h.bx o b ho
  have hT0:Tc (σ1 o)≠mJ R.K:=by
   obtain ⟨_,_,_,_,h3,_⟩:=hb
   rw [h3];split<;>simp [mJ]
  exact hb.frame ⟨WG _ hT0,rfl⟩ (fun j b e _=>⟨by rw [WG b (by rw [e];simp [mJ]),e],rfl⟩) hro
 have hfz:∀ b,w.heap.size≤b→Tz b=.other:=fun b hb=>by rw [tz2 b (by rw [WE b hb];exact (uT _).symm),WE b hb]
 obtain ⟨hpl,hfs⟩:=lq.params (T:=Tz) (w:=w) h1 (h.fs.keep hro fun _ _=>rfl) hvs (fun i p v hp hv=>(KN (fun b hcl=>hcl) (hrep i p v hp hv)).frame fun b ⟨hb,hcl⟩ hbl=>⟨by
  rcases h.cp b hbl (by rw [hb];simp) with g|⟨_,g,_⟩
  ·rw [tz2 b (by rw [ty1 b ⟨g,hb,hcl⟩];exact (qh _).symm),ty1 b ⟨g,hb,hcl⟩]
  ·exact (hro b g hbl).1,rfl⟩)
 have G8:aI R.L σ1 Tz { s with slots:=sl } { tmps:=(ps.toList.zip vs).foldl (fun t (p,v)=>t.setIfInBounds p v) R.tmps,defers:=[] } w:=hfs.sim h.nbx hbz hfz
 have hOk:∀ lp,(inS C R.K R.l Sx w lp).Ok P R.L:=fun lp=>adC hC hSl hlS
 have hJ0:(inS C R.K R.l Sx w (rc .ready none)).J s.ys.length Tz w:=⟨tz1,fun _ _ _=>rfl,h.rl,Nat.le_refl _,by rw [hre];exact hJy⟩
 have ga:=hR.grow _ _ _ _ _ ha h2
 have gb:=hR.grow _ _ _ _ _ hb h3
 have hy:=run_yield (P:=P) (args:=vs.toArray) h.rl (by rw [hrc];simp only [List.size_toArray];rw [← hpl];simp)
 refine ⟨fn,_,ca,cb,by rw [hrc] at hy;exact hy,fun n=>roundIn_of_wpIn (show Fence.wide.fn fn from trivial) ?_⟩
 have hfold:(ps.zip vs.toArray).foldl (fun t (p,v)=>t.setIfInBounds p v) R.tmps=(ps.toList.zip vs).foldl (fun t (p,v)=>t.setIfInBounds p v) R.tmps:=by
  rw [← Array.foldl_toList];simp
 have adE:((ps.zip vs.toArray).foldl (fun tmps (x:Tmp × Value)=>match x with|(t,a)=>tmps.setIfInBounds t a) R.tmps)=(ps.toList.zip vs).foldl (fun t (p,v)=>t.setIfInBounds p v) R.tmps:=hfold
 rw [adE]
 refine wpIn_mono (hR.wp (.inr ⟨R.l,rfl⟩) (QN C R.K R.l Sx w (rc .ready none)) (hOk _) ca qH _ .normal sa ha h2 h.KO (gb.2.1.trans hX) σ1 Tz _ w G8 hJ0) ?_
 rintro xx aa wa ⟨rfl,σa,Ta,msa,p1,p2,p3,p4,_,_⟩
 obtain ⟨q1,q2,q3,q4,q5⟩:=p2
 have hla:=lt_of_heap q3
 refine ⟨wa.putObj R.l (.loop (rc .busy none)),by have:=run_beginRound (P:=P) q3 (by rw [hrc]);rw [hrc] at this ⊢;exact this,?_⟩
 have hpo:∀ b,b≠R.l→(wa.putObj R.l (.loop (rc .busy none))).heap[b]?=wa.heap[b]?:=fun b hb=>World.putObj_heap_other hb
 have hps:(wa.putObj R.l (.loop (rc .busy none))).heap.size=wa.heap.size:=by simp [World.putObj]
 have hsa:aI R.L σa Ta sa aa (wa.putObj R.l (.loop (rc .busy none))):=p1.sees ⟨by rw [hps];exact Nat.le_refl _,fun b hb _=>hpo b fun e=>hb (by rw [e];exact q1 _ hlS)⟩
 have hJa:(inS C R.K R.l Sx w (rc .busy none)).J sa.ys.length Ta (wa.putObj R.l (.loop (rc .busy none))):=by
  refine ⟨q1,fun b hb hbl=>(hpo b hbl).trans (q2 b hb hbl),World.putObj_heap_same hla,by rw [hps];exact q4,?_⟩
  refine hC.keep _ _ _ wa _ ⟨by rw [hps];exact Nat.le_refl _,rfl,rfl,rfl,fun b hb ht=>hpo b fun e=>?_,fun _ e=>e,fun _ _ e=>e⟩ q5
  subst e
  simp only [if_pos hlS] at ht
  rcases ht with e|e<;>simp [mJ] at e
 refine wpIn_mono (hR.wp (.inr ⟨R.l,rfl⟩) (QN C R.K R.l Sx w (rc .busy none)) (hOk _) cb bd _ e sb hb h3 (ga.2.2.trans h.KO) hX σa Ta _ _ hsa hJa) ?_
 rintro xx ab wb ⟨rfl,σb,Tb,msb,r1,r2,r3,r4,_,_⟩
 obtain ⟨t1,t2,t3,t4,t5⟩:=r2
 have hlb:=lt_of_heap t3
 have hend:∀ j:Option Code,(Instr.endRound R.l j).run P wb=.ok (.bool j.isNone) (wb.putObj R.l (.loop (rc (if j.isNone then .ready else .done) j))):=fun j=>by
  have:=run_endRound (P:=P) j t3
  rw [hrc] at this ⊢
  exact this
 obtain ⟨w3,hw3⟩:∃ w3,w3=wb.putObj R.l (.loop (rc (if (rC e).isNone then .ready else .done) (rC e))):=⟨_,rfl⟩
 have hpb:∀ b,b≠R.l→w3.heap[b]?=wb.heap[b]?:=fun b hb=>by rw [hw3];exact World.putObj_heap_other hb
 have af6:w3.heap.size=wb.heap.size:=by rw [hw3];simp [World.putObj]
 have hsz:w.heap.size≤w3.heap.size:=by rw [af6];exact t4
 -- what is read only stays
 have stay:∀ b,Tz b=.ro→b<w.heap.size→Tb b=.ro∧w3.heap[b]?=w.heap[b]?:=fun b hz hbl=>by
  have hbS:¬ Sx b:=fun hs=>by rw [tz1 b hs] at hz;cases hz
  have WH:b≠R.l:=fun e=>hbS (by rw [e];exact hlS)
  have e1:=p4.ro b hz
  have e2:=r4.ro b e1
  refine ⟨e2,?_⟩
  rw [hpb b WH,r4.same b (by rw [hps];exact Nat.lt_of_lt_of_le hbl p4.size) e1,hpo b WH,p4.same b hbl hz]
 have hnS:∀ b,Tb b≠.other→¬ Sx b:=fun b hb hs=>hb (t1 b hs)
 have Kq:∀ b,¬ Sx b→(if Sx b then mJ R.K else Tb b)=Tb b:=fun b hb=>if_neg hb
 have G9:∀ b,Tc b=.ro→b<w.heap.size→(fun b=>if Sx b then mJ R.K else Tb b) b=.ro∧w3.heap[b]?=w.heap[b]?:=fun b hb hbl=>by
  obtain ⟨e1,e2⟩:=stay b (hro b hb hbl).1 hbl
  exact ⟨by show (if Sx b then mJ R.K else Tb b)=.ro;rw [Kq b (hnS b (by rw [e1];simp)),e1],e2⟩
 have af7:∀ b,Tc b=.ro→b<w.heap.size:=fun b hb=>by
  rcases Nat.lt_or_ge b w.heap.size with g|g
  ·exact g
  ·rw [h.fr b g] at hb;cases hb
 have hσ:∀ o,o<R.nb→σb o=σ1 o:=fun o ho=>by
  have k1:R.nb≤s.boxes.length:=h.nbx
  have k2:s.boxes.length≤sa.boxes.length:=ga.1
  rw [r3 o (by omega),p3 o (by show o<s.boxes.length;omega)]
 have adF:Tb R.l=.other:=t1 _ hlS
 have hfin:CS C R (rc (if (rC e).isNone then .ready else .done) (rC e)) sb T w3:=by
  refine ⟨σb,fun b=>if Sx b then mJ R.K else Tb b,⟨h.fs.keep G9 hσ,fun o b ho=>?_,fun b hb=>?_,?_,?_,?_,fun o ho=>(hσ o ho).trans (h.sg o ho),?_,fun b hb ht=>?_,?_,if_pos hlS,h.ro,fun d hd=>?_⟩⟩
  ·have hbx:=r1.boxes o b ho
   have hne:Tb (σb o)≠.other:=by
    obtain ⟨_,_,_,_,h3,_⟩:=hbx
    rw [h3];split<;>simp
   refine hbx.frame ⟨Kq _ (hnS _ hne),hpb _ fun e=>hne (by rw [e];exact adF)⟩ (fun j b e _=>⟨by rw [Kq b (hnS b (by rw [e];simp)),e],hpb b fun e2=>by rw [e2,adF] at e;cases e⟩) (fun b e _=>⟨by rw [Kq b (hnS b (by rw [e];simp)),e],hpb b fun e2=>by rw [e2,adF] at e;cases e⟩)
  ·have:¬ Sx b:=fun hs=>by have:=hSl b hs;omega
   rw [Kq b this]
   exact r1.fresh b (by omega)
  ·refine hC.keep _ _ _ wb _ ⟨by rw [af6];exact Nat.le_refl _,by rw [hw3];rfl,by rw [hw3];rfl,by rw [hw3];rfl,fun b hb ht=>hpb b fun e=>?_,fun _ e=>e,fun _ _ e=>e⟩ t5
   subst e
   simp only [if_pos hlS] at ht
   rcases ht with e|e<;>simp [mJ] at e
  ·have:=ga.1;have:=gb.1;have:=h.nbx
   have e1:s.boxes.length≤sa.boxes.length:=ga.1
   omega
  ·exact gb.2.2.trans (ga.2.2.trans h.KO)
  ·exact h.sy.trans ⟨hsz,fun b hb=>(G9 b hb (af7 b hb)).1,fun b hbl hb=>(G9 b hb hbl).2⟩
  ·have hbl:b<w.heap.size:=by
    rcases Nat.lt_or_ge b w.heap.size with g|g
    ·exact g
    ·exact absurd (hT b g) ht
   have conv:Tz b=.ro→(fun b=>if Sx b then mJ R.K else Tb b) b=.ro∧w3.heap[b]?=w.heap[b]?:=fun hz=>by
    obtain ⟨e1,e2⟩:=stay b hz hbl
    exact ⟨by show (if Sx b then mJ R.K else Tb b)=.ro;rw [Kq b (hnS b (by rw [e1];simp)),e1],e2⟩
   rcases h.cp b hbl ht with g|⟨g1,g2,g3⟩
   ·by_cases hc:T b=.ro∧dD w b
    ·have ey:=ty1 b ⟨g,hc.1,hc.2⟩
     obtain ⟨e1,e2⟩:=conv (by rw [tz2 b (by rw [ey];exact (qh _).symm),ey])
     exact .inr ⟨hc.1,e1,.inr (hc.2.same e2)⟩
    ·have ey:Ty b=mJ R.K:=by rw [ty2 b fun q=>hc q.2];exact g
     exact .inl (if_pos (by rw [hSx];exact ⟨hbl,ey⟩))
   ·obtain ⟨e1,e2⟩:=conv (hro b g2 hbl).1
    exact .inr ⟨g1,e1,g3.imp id fun q=>q.same e2⟩
  ·rw [hw3];exact World.putObj_heap_same hlb
  ·obtain ⟨k1,k2,k3⟩:=h.dd d hd
   obtain ⟨e1,e2⟩:=G9 d k2 (lt_of_heap k1)
   exact ⟨by rw [e2];exact k1,e1,k3⟩
 have EI:oU T w w3:=by
  refine ⟨hsz,fun b hb hbl=>?_⟩
  have WH:b≠R.l:=fun e=>hb (by rw [e];exact h.ro)
  by_cases hs:Sx b
  ·rw [hpb b WH];exact t2 b hs WH
  ·refine (stay b ?_ hbl).2
   rcases h.cp b hbl hb with g|⟨g1,g2,g3⟩
   ·by_cases hc:T b=.ro∧dD w b
    ·have ey:=ty1 b ⟨g,hc.1,hc.2⟩
     rw [tz2 b (by rw [ey];exact (qh _).symm),ey]
    ·exact absurd (by rw [hSx];exact ⟨hbl,by rw [ty2 b fun q=>hc q.2];exact g⟩) hs
   ·exact (hro b g2 hbl).1
 rw [hw3] at hfin EI
 cases e with
 |normal=>exact ⟨_,_,hend none,rfl,hfin,EI⟩
 |ret=>exact ⟨_,_,hend (some .ret),rfl,hfin,EI⟩
 |exit i=>exact ⟨_,_,hend (some (.exit i)),rfl,hfin,EI⟩
 |nK t n=>exact absurd rfl (he t n)
end
end Go.Proofs.YtaaokejjmdbfaaaDoor

namespace Go.Proofs.YtaaokejjmdbfaaaDoor
open Go.RowKit
section
variable {P:Program} {F:Fence} {C:Ctx} {n L nb:Nat} {σ σ':Nat→Nat} {T T' Tc T1 T2:Tags} {st st' st1 s:St} {a a1:Act} {w w' w1:World} {R:Rg} {lp:Loop}
 {rec:ak→St→Option (Ex × St)} {env:Env} {e:Ex}
def xK (P:Program) (env:Env):Prop:=∀ f fn,env f=some (.code fn)→callable P f=true∧∃ g c,P.funcs[f]?=some g∧g.body=some c∧mC P c fn.body=true∧g.ntmps=fn.ntmps∧fn.nargs≤fn.ntmps∧(fn.results.isEmpty=true→g.results=#[])
theorem tJ {fn:Func} {R:Ending→World→Prop} {B:Nat}:∀ {ms:List Nat} {w:World},ms.Nodup→(∀ r∈ms,B≤r∧w.heap[r]?=some (.deferred (some []))) →
  (∀ w',w'.os=w.os→w'.tape=w.tape→w'.output=w.output→w'.heap.size=w.heap.size→(∀ b,b ∉ ms→w'.heap[b]?=w.heap[b]?)→∃ v,(results fn a.tmps).run P w'=.ok v w'∧R (.returned v) w') →
  LeavesInM Fence.wide 0 P fn a.tmps R (ms.map jK) .returning w
 |[],w,_,_,h=>by
  simp only [List.map_nil,LeavesInM,LeavesIn]
  exact h w rfl rfl rfl rfl fun _ _=>rfl
 |r :: ms,w,hnd,hms,h=>by
  simp only [List.map_cons,LeavesInM]
  obtain ⟨hn1,hn2⟩:=List.nodup_cons.1 hnd
  obtain ⟨k1,k2⟩:=hms r (by simp)
  have hr:r<w.heap.size:=(Array.getElem?_eq_some_iff.1 k2).1
  have hput:∀ b,b≠r→(w.putObj r (.deferred none)).heap[b]?=w.heap[b]?:=fun b hb=>by simp [World.putObj,Array.getElem?_setIfInBounds,Ne.symm hb]
  refine ⟨by simp,.inl ⟨r,_,rfl,run_takeDeferred k2,tJ (B:=B) hn2 (fun r' hr'=>?_) fun w' e1 e2 e3 e4 e5=>h w' e1 e2 e3 (by rw [e4];simp [World.putObj]) fun b hb=>?_⟩⟩
  ·obtain ⟨q1,q2⟩:=hms r' (by simp [hr'])
   exact ⟨q1,by rw [hput r' (fun e=>hn1 (e ▸ hr'))];exact q2⟩
  ·simp only [List.mem_cons,not_or] at hb
   rw [e5 b hb.2,hput b hb.1]
theorem EO {slots:List AV} {ps:List Nat} {qH bd:ak}:∀ (xs:List (List PV)) (k:Nat) (s:St) e m s',rounds rec slots ps qH bd nb k xs s=some (some (e,m),s')→e≠.normal∧∀ t n,e≠.nK t n
 |[],k,s,e,m,s',h=>by simp [rounds] at h
 |x :: xs,k,s,e,m,s',h=>by
  unfold rounds at h
  replace h:=bind_some h
  obtain ⟨sl,h1,h⟩:=h
  replace h:=bind_some h
  obtain ⟨⟨e1,s1⟩,h2,h⟩:=h
  simp only at h
  split at h
  case h_2=>cases h
  replace h:=bind_some h
  obtain ⟨⟨e2,s2⟩,h3,h⟩:=h
  simp only at h
  split at h
  ·split at h
   ·exact EO xs (k+1) _ e m s' h
   ·cases h
  ·cases h
  ·rename_i hne hne2
   simp only [Option.some.injEq,Prod.mk.injEq] at h
   rw [← h.1.1]
   exact ⟨fun e=>hne e,fun t n e=>hne2 t n e⟩
def WI:Option (Ex × Nat)→Ex
 |none=>.normal
 |some (e,_)=>e
def itC (C:Ctx) (R:Rg) (rec:ak→St→Option (Ex × St)) (rc:LoopState→Option Code→Loop) (ps:List Nat) (qH bd:ak) (xs:List (List PV)) (stop:Option Nat) (r:Option (Ex × Nat)) (s1:St):Ctx where
 X:=xs
 stop:=some stop
 J k T w:=jJ T w∧((∃ s,rounds rec R.slots ps qH bd R.nb k (xs.drop k) s=some (r,s1)∧CS C R (rc .ready none) s T w) ∨
  (∃ e,r=some (e,k)∧xs.length=k∧CS C R (rc .done (rC e)) s1 T w))
theorem adG (hR:oM P rec) (hC:C.Ok P R.L) {ca cb:Code} {qH bd:ak} (ha:mC P ca qH=true) (hb:mC P cb bd=true) {fn:FuncId} {ps:Array Tmp} {dd:Nat} {rc:LoopState→Option Code→Loop}
  (hrc:rc=fun st pe=>{ state:=st,pending:=pe,fn:=fn,tmps:=R.tmps,params:=ps,assign:=ca,body:=cb,defers:=dd }) (hD:R.l ∉ R.D) {xs:List (List PV)} {stop:Option Nat} {r:Option (Ex × Nat)} {s1:St}
  (hcons:(stop=none∧r=none)∨∃ e m,stop=some m∧r=some (e,m)∧xs.length=m) (hX:s1.ys <+: C.X):(itC C R rec rc ps.toList qH bd xs stop r s1).Ok P R.l:=by
 refine ⟨fun k T T' w w' hc ⟨hG,h⟩=>⟨hG.frame fun b e hb=>⟨hc.ro b e,hc.same b hb (.inl e)⟩,?_⟩,fun k T w h=>h.1,fun q k T w x vs hs hx hf h hlen hrep=>?_⟩
 ·rcases h with ⟨s,h1,h2⟩|⟨e,h1,h2,h3⟩
  ·exact .inl ⟨s,h1,h2.keep hC hc⟩
  ·exact .inr ⟨e,h1,h2,h3.keep hC hc⟩
 ·have hq:q=stop:=(Option.some.inj hs).symm
  subst hq
  have hx':xs[k]?=some x:=hx
  have hk:k<xs.length:=(List.getElem?_eq_some_iff.1 hx').1
  obtain ⟨hG,h⟩:=h
  rcases h with ⟨s,h1,h2⟩|⟨e,h1,h2,h3⟩
  case inr=>omega
  have hdrop:xs.drop k=x :: xs.drop (k+1):=by
   rw [List.drop_eq_getElem_cons hk]
   congr 1
   rw [List.getElem?_eq_getElem hk] at hx'
   exact Option.some.inj hx'
  rw [hdrop] at h1
  unfold rounds at h1
  replace h1:=bind_some h1
  obtain ⟨sl,g1,h1⟩:=h1
  replace h1:=bind_some h1
  obtain ⟨⟨e1,sa⟩,g2,h1⟩:=h1
  simp only at h1
  split at h1
  case h_2=>cases h1
  replace h1:=bind_some h1
  obtain ⟨⟨e2,sb⟩,g3,h1⟩:=h1
  simp only at h1
  obtain ⟨σ0,Tc0,hcs0⟩:=h2
  have hnb:=hcs0.nbx
  have h2:CS C R (rc .ready none) s T w:=⟨σ0,Tc0,hcs0⟩
  have ga:=hR.grow _ _ _ _ _ ha g2
  have gb:=hR.grow _ _ _ _ _ hb g3
  split at h1
  ·-- it goes on
   split at h1
   case isFalse=>cases h1
   rename_i hle
   have hgr:=tH hR.grow ha hb (xs.drop (k+1)) (k+1) _ r s1 h1 (by simp;omega)
   obtain ⟨f,tm,KL,bd',q1,q2⟩:=KP hR hC ha hb hrc h2 hf hD hlen hrep g1 g2 g3 (hgr.2.1.trans hX) (fun _ _ e=>by cases e)
   refine ⟨f,tm,KL,bd',q1,fun n=>(q2 n).mono fun en w3 hq=>?_⟩
   obtain ⟨t1,t2,t3⟩:=hq
   have hgo:sZ q k=true:=by
    rcases hcons with ⟨e1,_⟩|⟨e,m,e1,e2,e3⟩
    ·rw [e1];rfl
    ·rw [e1]
     have:k+1≠m:=fun he=>by
      have:xs.drop (k+1)=[]:=List.drop_of_length_le (by omega)
      rw [this] at h1
      simp only [rounds,Option.some.injEq,Prod.mk.injEq] at h1
      rw [e2] at h1
      cases h1.1
     simp [sZ,this]
   refine ⟨by rw [t1,hgo];rfl,⟨hG.frame fun b e hb=>⟨e,t3.2 b (by rw [e];simp) hb⟩,.inl ⟨_,h1,t2.take⟩⟩,t3⟩
  ·cases h1
  ·rename_i hne hne2
   simp only [Option.some.injEq,Prod.mk.injEq] at h1
   obtain ⟨hr1,hr2⟩:=h1
   subst hr2
   obtain ⟨f,tm,KL,bd',q1,q2⟩:=KP hR hC ha hb hrc h2 hf hD hlen hrep g1 g2 g3 hX (fun t n e=>hne2 t n e)
   refine ⟨f,tm,KL,bd',q1,fun n=>(q2 n).mono fun en w3 hq=>?_⟩
   obtain ⟨t1,t2,t3⟩:=hq
   have hj:(rC e2).isNone=false:=by cases e2<;>first|rfl|exact absurd rfl hne|exact absurd rfl (hne2 _ _)
   rcases hcons with ⟨_,e1⟩|⟨e,m,e1,e2',e3⟩
   ·rw [e1] at hr1;cases hr1
   ·have hm:m=k+1:=by rw [e2'] at hr1;cases hr1;rfl
    have hgo:sZ q k=false:=by rw [e1,hm];simp [sZ]
    rw [hj] at t1 t2
    refine ⟨by rw [t1,hgo],⟨hG.frame fun b e hb=>⟨e,t3.2 b (by rw [e];simp) hb⟩,.inr ⟨e2,hr1.symm,by omega,t2⟩⟩,t3⟩
theorem adH (hC:C.Ok P R.L) (h:CS C R lp s T w) {ms:List Nat} (hms:∀ r∈ms,R.B0≤r∧T r=.ro∧w.heap[r]?=some (.deferred (some []))) (hw:∀ b,b ∉ ms→w'.heap[b]?=w.heap[b]?) (hsz:w'.heap.size=w.heap.size) (hos:w'.os=w.os) (htp:w'.tape=w.tape) (hou:w'.output=w.output)
  (hlp:lp.state≠.busy) {T0:Tags} (hst:Still T0 R.T1) {ds:List Deferred} (hDl:∀ d∈R.D,R.w0.heap.size≤d) (hDn:R.D.Nodup) (hlD:R.l ∉ R.D) :
  ∃ w4,(Instr.endLoop R.l).run P w'=.ok lp.pending w4∧After C R.L R.nb R.σ0 T0 R.w0 { s with slots:=R.slots } ds { tmps:=R.tmps,defers:=R.D.map jK++ds } w4:=by
 obtain ⟨σ,Tc,h⟩:=h
 have aiF:∀ r∈ms,Tc r=mJ R.K:=fun r hr=>by
  obtain ⟨g1,g2,g3⟩:=hms r hr
  rcases h.cp r (lt_of_heap g3) (by rw [g2];simp) with g|⟨_,_,g⟩
  ·exact g
  ·rcases g with g|⟨arr,E,q,g⟩
   ·omega
   ·rw [g3] at g;cases g
 have hl:w'.heap[R.l]?=some (.loop lp):=by
  rw [hw R.l fun hr=>by have:=(hms _ hr).2.1;rw [h.ro] at this;cases this];exact h.rl
 refine ⟨_,run_endLoop (P:=P) hl hlp,?_⟩
 obtain ⟨w4,hw4⟩:∃ w4,w4=w'.putObj R.l (.loop { lp with state:=.exhausted }):=⟨_,rfl⟩
 rw [← hw4]
 have hsame:∀ b,Tc b≠mJ R.K→w4.heap[b]?=w.heap[b]?:=fun b hb=>by
  rw [hw4,World.putObj_heap_other (fun e=>hb (by rw [e];exact h.rt)),hw b fun hr=>hb (aiF b hr)]
 have aiG:w4.heap.size=w.heap.size:=by rw [hw4];simp [World.putObj,hsz]
 have hw1:∀ b,Tc b=.ro→b<w.heap.size→Tc b=.ro∧w4.heap[b]?=w.heap[b]?:=fun b e _=>⟨e,hsame b (by rw [e];exact (qh _).symm)⟩
 refine ⟨σ,Tc,R.D,(h.fs.keep hw1 fun _ _=>rfl).sim h.nbx (fun o b ho=>?_) (fun b hb=>h.fr b (by omega)),?_,h.sg,?_,rfl,fun d hd=>⟨hDl d hd,(h.dd d hd).2.1,?_⟩,hDn⟩
 ·have hb:=h.bx o b ho
  have hT:Tc (σ o)≠mJ R.K:=by
   obtain ⟨_,_,_,_,h3,_⟩:=hb
   rw [h3];split<;>simp [mJ]
  exact hb.frame ⟨rfl,hsame _ hT⟩ (fun j b e _=>⟨e,hsame b (by rw [e];simp [mJ])⟩) hw1
 ·refine hC.keep _ _ _ w _ ⟨by omega,by rw [hw4];exact hos,by rw [hw4];exact htp,by rw [hw4];exact hou,fun b _ ht=>hsame b ?_,fun _ e=>e,fun _ _ e=>e⟩ h.j
  rcases ht with e|e<;>rw [e]<;>simp [mJ]
 ·refine ((hst.nC R.w0).stays.trans h.sy).trans ⟨by omega,fun b e=>e,fun b _ e=>hsame b (by rw [e];exact (qh _).symm)⟩
 ·rw [hsame d (by rw [(h.dd d hd).2.1];exact (qh _).symm)];exact (h.dd d hd).1
set_option maxHeartbeats 1000000 in
theorem KQ (hR:oM P rec) (hI:xK P env) (hC:C.Ok P R.L) {ca cb:Code} {qH bd:ak} (ha:mC P ca qH=true) (hb:mC P cb bd=true) {fnr:FuncId} {ps:Array Tmp} {dd:Nat} {rc:LoopState→Option Code→Loop}
  (hrc:rc=fun st pe=>{ state:=st,pending:=pe,fn:=fnr,tmps:=R.tmps,params:=ps,assign:=ca,body:=cb,defers:=dd }) {xs:List (List PV)} {stop:Option Nat} {r:Option (Ex × Nat)} {s1:St}
  (hcons:(stop=none∧r=none)∨∃ e m,stop=some m∧r=some (e,m)∧xs.length=m) (hX:s1.ys <+: C.X)
  {f:Nat} {caps:List PV} {arr:Array Value} (hit:gK rec env f caps stop=some xs) (hrd:rounds rec R.slots ps.toList qH bd R.nb 0 xs s=some (r,s1))
  (hsl:R.slots.length=R.K) (hfs:lq R.L R.nb R.σ0 R.T1 R.w0 R.slots R.tmps) (hbx:∀ (o:Nat) b,s.boxes[o]?=some b→iK R.T1 R.w0 (R.σ0 o) o b) (hnb:R.nb=s.boxes.length) (hfr:∀ b,R.w0.heap.size≤b→R.T1 b=.other) (hJ:C.J s.ys.length R.T1 R.w0) (hst:s.stop=C.stop)
  (ha1:arr.size=caps.length) (ha2:∀ (i:Nat) p v,caps[i]?=some p→arr[i]?=some v→ay (fun b=>R.T1 b=.ro) R.w0 p v)
  {W:World} (hB:R.B0=W.heap.size) (hW1:R.w0.heap.size≤W.heap.size) (hW2:∀ b,b<R.w0.heap.size→W.heap[b]?=R.w0.heap[b]?) (hW3:W.os=R.w0.os∧W.tape=R.w0.tape∧W.output=R.w0.output) (hl:W.heap[R.l]?=some (.loop (rc .ready none))) (hl0:R.w0.heap.size≤R.l)
  (hD1:∀ d∈R.D,R.w0.heap.size≤d∧W.heap[d]?=some (.deferred (some []))) (hDn:R.D.Nodup) (hlD:R.l ∉ R.D)
  {T0:Tags} (hstill:Still T0 R.T1) {ds:List Deferred} {m:Nat} {Q:Exit→Act→World→Prop} (hF:jW F)
  (hQ:∀ w4,After C R.L R.nb R.σ0 T0 R.w0 { s1 with slots:=R.slots } ds { tmps:=R.tmps,defers:=R.D.map jK++ds } w4→Q (toX (WI r)) { tmps:=R.tmps,defers:=R.D.map jK++ds } w4) :
  CallsIn F m P f (#[.func (.yield R.l) #[] #[]]++arr) W (rangePost F n P R.l Q { tmps:=R.tmps,defers:=R.D.map jK++ds }):=by
 refine hF.calls ?_
 -- the text of the iterator
 unfold gK at hit
 split at hit
 case h_2=>cases hit
 rename_i fn hfn
 split at hit
 case isFalse=>cases hit
 rename_i hna
 replace hit:=bind_some hit
 obtain ⟨⟨e2,st2⟩,hrun,hit⟩:=hit
 have hne:∀ i,e2≠.exit i:=fun i e=>by subst e;cases hit
 have hys:st2.ys=xs:=by cases e2<;>first|exact Option.some.inj hit|cases hit
 obtain ⟨_,g,c,k1,k2,k3,k4,k5,k6⟩:=hI f fn hfn
 refine (callsIn_wide (n:=0)).1 (callsIn_of_wp_marks k1 k2 trivial ?_)
 rw [k4]
 have hll:=lt_of_heap hl
 -- what each side stands on
 obtain ⟨Ti,Z4⟩:∃ Ti:Tags,Ti=fun b=>if b<R.w0.heap.size∧R.T1 b=.ro then .ro else .other:=⟨_,rfl⟩
 have ti1:∀ b,R.T1 b=.ro→b<R.w0.heap.size→Ti b=.ro:=fun b e hb=>by rw [Z4];exact if_pos ⟨hb,e⟩
 have ti2:∀ b,R.w0.heap.size≤b→Ti b=.other:=fun b hb=>by rw [Z4];exact if_neg (by omega)
 have ti3:∀ b,Ti b≠.other→b<R.w0.heap.size∧R.T1 b=.ro:=fun b hb=>by
  rw [Z4] at hb
  by_cases e:b<R.w0.heap.size∧R.T1 b=.ro
  ·exact e
  ·exact absurd (if_neg e) hb
 obtain ⟨Tn,Kq⟩:∃ Tn:Tags,Tn=fun b=>if b=R.l then mJ R.K else if b∈R.D then .ro else R.T1 b:=⟨_,rfl⟩
 have tn1:∀ b,b<R.w0.heap.size→Tn b=R.T1 b:=fun b hb=>by
  rw [Kq]
  have h1:b≠R.l:=by omega
  have h2:b ∉ R.D:=fun hd=>by have:=(hD1 b hd).1;omega
  simp only [if_neg h1,if_neg h2]
 have tnl:Tn R.l=mJ R.K:=by rw [Kq];exact if_pos rfl
 have tnD:∀ d∈R.D,Tn d=.ro:=fun d hd=>by
  rw [Kq]
  have:d≠R.l:=fun e=>hlD (by rw [← e];exact hd)
  simp only [if_neg this,if_pos hd]
 have hro:∀ b,R.T1 b=.ro→b<R.w0.heap.size→Tn b=.ro∧W.heap[b]?=R.w0.heap[b]?:=fun b e hb=>⟨by rw [tn1 b hb,e],hW2 b hb⟩
 have af9:∀ b,R.T1 b=.ro→b<R.w0.heap.size:=fun b e=>by
  rcases Nat.lt_or_ge b R.w0.heap.size with q|q
  ·exact q
  ·rw [hfr b q] at e;cases e
 have hCS:CS C R (rc .ready none) s Ti W:=by
  refine ⟨R.σ0,Tn,⟨hfs.keep hro fun _ _=>rfl,fun o b ho=>?_,fun b hb=>?_,?_,by omega,hst,fun _ _=>rfl,⟨hW1,fun b e=>(hro b e (af9 b e)).1,fun b hb e=>hW2 b hb⟩,fun b _ ht=>?_,hl,tnl,ti2 _ hl0,fun d hd=>⟨(hD1 d hd).2,tnD d hd,ti2 _ (hD1 d hd).1⟩⟩⟩
  ·have hb:=hbx o b ho
   exact hb.frame ⟨tn1 _ hb.lt,hW2 _ hb.lt⟩ (fun j b e hb=>⟨by rw [tn1 b hb,e],hW2 b hb⟩) hro
  ·have h1:b≠R.l:=by omega
   have h2:b ∉ R.D:=fun hd=>by have:=lt_of_heap (hD1 b hd).2;omega
   rw [Kq]
   simp only [if_neg h1,if_neg h2]
   exact hfr b (by omega)
  ·exact hC.keep _ _ _ R.w0 _ ⟨hW1,hW3.1,hW3.2.1,hW3.2.2,fun b hb _=>hW2 b hb,fun b e=>(hro b e (af9 b e)).1,fun b hb e=>by rw [tn1 b hb,e]⟩ hJ
  ·obtain ⟨q1,q2⟩:=ti3 b ht
   exact .inr ⟨ti1 b q2 q1,by rw [tn1 b q1,q2],.inl (by omega)⟩
 have hOk:=adG hR hC ha hb hrc hlD hcons hX
 have hargs:(#[Value.func (.yield R.l) #[] #[]]++arr).size=caps.length+1:=by simp;omega
 have G8:aI R.l (fun _=>0) Ti ⟨.oQ :: (caps.map .pv++List.replicate (fn.ntmps - (caps.length+1)) .any),[],[],some stop⟩
   { tmps:=(#[Value.func (.yield R.l) #[] #[]]++arr)++Array.replicate (fn.ntmps - (#[Value.func (.yield R.l) #[] #[]]++arr).size) undef,defers:=[] } W:=by
  refine ⟨by simp;omega,fun t av v ht hv=>?_,fun o bx ho=>by simp at ho,fun b hb=>ti2 b (by omega)⟩
  simp only at ht hv
  cases t with
  |zero =>
   simp only [List.getElem?_cons_zero,Option.some.injEq] at ht
   subst ht
   have:v=.func (.yield R.l) #[] #[]:=by
    rw [Array.append_assoc,Array.getElem?_append_left (by simp)] at hv
    simpa using hv.symm
   exact this
  |succ t =>
   rw [List.getElem?_cons_succ] at ht
   rw [Array.append_assoc,Array.getElem?_append_right (by simp)] at hv
   simp only [List.size_toArray,List.length_cons,List.length_nil,Nat.zero_add,Nat.add_sub_cancel] at hv
   rcases Nat.lt_or_ge t caps.length with q|q
   ·rw [List.getElem?_append_left (by simpa using q),List.getElem?_map,List.getElem?_eq_getElem q] at ht
    rw [Array.getElem?_append_left (by omega)] at hv
    cases ht
    exact (ha2 t _ v (List.getElem?_eq_getElem q) hv).frame fun b e hb=>⟨ti1 b e hb,hW2 b hb⟩
   ·rw [List.getElem?_append_right (by simpa using q),List.getElem?_replicate] at ht
    split at ht
    ·cases ht;trivial
    ·cases ht
 refine wpIn_mono (hR.wp (F:=Fence.wide) (L:=R.l) (C:=itC C R rec rc ps.toList qH bd xs stop r s1) (n:=0) (.inl rfl) (Ctx.xJ _) hOk c fn.body _ e2 st2 k3 hrun rfl (by rw [hys];exact List.prefix_refl _) _ Ti _ W G8 ⟨(hC.glob _ _ _ hJ).frame fun b e hb=>⟨ti1 b e hb,hW2 b hb⟩,.inl ⟨s,hrd,hCS⟩⟩) ?_
 rintro x a' w2 ⟨rfl,σ2,T2,ms,q1,q2,q3,q4,q5,q6⟩
 have key:LeavesInM Fence.wide 0 P g a'.tmps (rangePost F n P R.l Q { tmps:=R.tmps,defers:=R.D.map jK++ds }) a'.defers .returning w2:=by
  rw [q5,List.append_nil]
  refine tJ (B:=W.heap.size) q6.2 (fun d hd=>⟨(q6.1 d hd).1,(q6.1 d hd).2.2⟩) fun w3 e1 e3 e4 e5 e6=>?_
  have hgr:g.results=#[]:=k6 hna.2
  refine ⟨.tuple #[],?_,?_⟩
  ·unfold results
   rw [hgr]
   simp
  ·have fin:∀ lp,CS C R lp s1 T2 w2→lp.state≠.busy→∃ w4,(Instr.endLoop R.l).run P w3=.ok lp.pending w4∧After C R.L R.nb R.σ0 T0 R.w0 { s1 with slots:=R.slots } ds { tmps:=R.tmps,defers:=R.D.map jK++ds } w4:=fun lp hcs hlp =>
    adH hC hcs (fun d hd=>⟨by rw [hB];exact (q6.1 d hd).1,(q6.1 d hd).2.1,(q6.1 d hd).2.2⟩) e6 e5 e1 e3 e4 hlp hstill (fun d hd=>(hD1 d hd).1) hDn hlD
   rw [hys] at q2
   rcases q2.2 with ⟨s',h1,h2⟩|⟨e,h1,h2,h3⟩
   ·rw [List.drop_length] at h1
    simp only [rounds,Option.some.injEq,Prod.mk.injEq] at h1
    obtain ⟨hr,hs⟩:=h1
    subst hs
    obtain ⟨w4,t1,t2⟩:=fin _ h2 (by rw [hrc];simp)
    refine ⟨none,w4,by rw [hrc] at t1;exact t1,?_⟩
    have:=hQ w4 t2
    rw [← hr] at this
    exact this
   ·obtain ⟨w4,t1,t2⟩:=fin _ h3 (by rw [hrc];simp)
    have:=hQ w4 t2
    rw [h1] at this
    obtain ⟨hen,aiH⟩:=EO _ _ _ _ _ _ (by rw [h1] at hrd;exact hrd)
    cases e with
    |normal=>exact absurd rfl hen
    |ret=>exact ⟨some .ret,w4,by rw [hrc] at t1;exact t1,wpIn_ret this⟩
    |exit i=>exact ⟨some (.exit i),w4,by rw [hrc] at t1;exact t1,wpIn_exit this⟩
    |nK t n=>exact absurd rfl (aiH t n)
 cases e2 with
 |normal=>exact key
 |ret=>exact key
 |exit i=>exact absurd rfl (hne i)
 |nK t n=>cases hit
end
end Go.Proofs.YtaaokejjmdbfaaaDoor

namespace Go.Proofs.YtaaokejjmdbfaaaDoor
open Go.RowKit
section
variable {P:Program} {F:Fence} {C:Ctx} {n L nb:Nat} {σ σ':Nat→Nat} {T T' Tc T1 T2:Tags} {st st' st1 s:St} {a a1:Act} {w w' w1:World} {R:Rg} {lp:Loop}
 {rec:ak→St→Option (Ex × St)} {env:Env} {e:Ex}
theorem WJ (hR:oM P rec) (hI:xK P env) (hW:jW F) (hN:C.Rec F) (hC:C.Ok P L) {ca cb:Code} {qH bd:ak} (ha:mC P ca qH=true) (hb:mC P cb bd=true) {g:Operand} {gx:bP} (hmg:aY g gx=true) {ps:Array Tmp} {f:Nat} {caps:List PV}
  (hg:st.dH gx=some (.func f caps)) {xs:List (List PV)} {stop:Option Nat} {r:Option (Ex × Nat)} {s1:St} (hit:gK rec env f caps stop=some xs) (hrd:rounds rec (st.slots.map AV.froze) ps.toList qH bd st.boxes.length 0 xs { st with slots:=st.slots.map AV.froze }=some (r,s1))
  (hcons:(stop=none∧r=none)∨∃ e m,stop=some m∧r=some (e,m)∧xs.length=m) (hX:s1.ys <+: C.X) (hst:st.stop=C.stop) (hs:aI L σ T st a w) (hJ:C.J st.ys.length T w) :
  (Code.rangeFunc g ps ca cb).wpIn F n P (Post C L st.boxes.length σ T w (WI r) { s1 with slots:=st.slots.map AV.froze } a.defers) a w:=by
 obtain ⟨arr,e1,e2,e3⟩:=BG (hs.pv hmg hg)
 obtain ⟨T1,f1,f2,f3⟩:=hs.froze
 have hfr:∀ b,w.heap.size≤b→T1 b=.other:=fun b hb=>f3.other b (hs.fresh b hb)
 have hJ1:C.J st.ys.length T1 w:=hC.keep _ _ _ w _ (f3.nC w) hJ
 have hcap:∀ (i:Nat) p v,caps[i]?=some p→arr[i]?=some v→ay (fun b=>T1 b=.ro) w p v:=fun i p v hp hv=>(e3 i p v hp hv).frame fun b hb _=>⟨f3.ro b hb,rfl⟩
 have aga:callable P f=true:=by
  unfold gK at hit
  split at hit
  case h_2=>cases hit
  rename_i fn hfn
  exact (hI f fn hfn).1
 refine wpIn_rangeFunc fun fn hfn=>?_
 rcases hW with rfl|⟨l0,rfl⟩
 ·obtain ⟨rc,hrc⟩:∃ rc:LoopState→Option Code→Loop,rc=fun st pe=>{ state:=st,pending:=pe,fn:=fn,tmps:=a.tmps,params:=ps,assign:=ca,body:=cb,defers:=w.heap.size }:=⟨_,rfl⟩
  obtain ⟨W1,hW1⟩:∃ W1,(w.alloc (.deferred (some []))).alloc (.loop (rc .ready none))=W1:=⟨_,rfl⟩
  have hL1:W1.heap[w.heap.size+1]?=some (.loop (rc .ready none)):=by
   rw [← hW1];have:=World.alloc_heap_new (w.alloc (.deferred (some []))) (.loop (rc .ready none));rwa [World.size_alloc] at this
  have hK1:W1.heap[w.heap.size]?=some (.deferred (some [])):=by
   rw [← hW1];exact (Below.heap_alloc _ _ _ (by simp)).trans (World.alloc_heap_new w _)
  have hsz:W1.heap.size=w.heap.size+2:=by rw [← hW1];simp
  refine ⟨w.heap.size+1,[jK w.heap.size],W1,{ target:=.fn (.func f) arr,args:=#[.func (.yield (w.heap.size+1)) #[] #[]] },W1,f,#[.func (.yield (w.heap.size+1)) #[] #[]]++arr,W1,?_,?_,fun _ _=>trivial,?_,(fun h=>by cases h),?_⟩
  ·rw [← hW1,hrc];exact run_enterLoop_outer _ _ _ _ _
  ·simp only [resolve,e1]
   simp [go_sem]
  ·simp [invoke,go_sem,qW aga]
  ·refine KQ (R:=⟨L,st.boxes.length,st.slots.length,σ,T1,w,st.slots.map AV.froze,a.tmps,w.heap.size+1,[w.heap.size],W1.heap.size⟩) (s:={ st with slots:=st.slots.map AV.froze }) (T0:=T) hR hI hC ha hb hrc hcons hX hit hrd (by simp) f1 f2 rfl hfr hJ1 hst e2 hcap rfl ?_ ?_ ?_ hL1 ?_ ?_ ?_ ?_ f3 (.inl rfl) ?_
   ·show w.heap.size≤W1.heap.size;omega
   ·intro b hb
    rw [← hW1]
    exact (Below.heap_alloc _ _ _ (by simp only [World.size_alloc];exact Nat.lt_succ_of_lt hb)).trans (Below.heap_alloc _ _ _ hb)
   ·rw [← hW1];exact ⟨rfl,rfl,rfl⟩
   ·show w.heap.size≤w.heap.size+1;omega
   ·intro d hd
    have hd:d∈[w.heap.size]:=hd
    rw [List.mem_singleton.1 hd]
    exact ⟨Nat.le_refl _,hK1⟩
   ·exact List.nodup_cons.2 ⟨by simp,List.nodup_nil⟩
   ·intro hd
    have hd:w.heap.size+1∈[w.heap.size]:=hd
    have:=List.mem_singleton.1 hd
    omega
   ·intro w4 hA
    exact ⟨rfl,hA⟩
 ·obtain ⟨r0,hr0⟩:=hN l0 rfl _ _ _ hJ
  obtain ⟨rc,hrc⟩:∃ rc:LoopState→Option Code→Loop,rc=fun st pe=>{ state:=st,pending:=pe,fn:=fn,tmps:=a.tmps,params:=ps,assign:=ca,body:=cb,defers:=r0.defers }:=⟨_,rfl⟩
  obtain ⟨W1,hW1⟩:∃ W1,w.alloc (.loop (rc .ready none))=W1:=⟨_,rfl⟩
  have hL1:W1.heap[w.heap.size]?=some (.loop (rc .ready none)):=by
   rw [← hW1];exact World.alloc_heap_new w _
  have hsz:W1.heap.size=w.heap.size+1:=by rw [← hW1];simp
  refine ⟨w.heap.size,[],W1,{ target:=.fn (.func f) arr,args:=#[.func (.yield w.heap.size) #[] #[]] },W1,f,#[.func (.yield w.heap.size) #[] #[]]++arr,W1,?_,?_,fun _ _=>trivial,?_,(fun h=>by cases h),?_⟩
  ·rw [← hW1,hrc];exact run_enterLoop_inner hr0 _ _ _ _ _
  ·simp only [resolve,e1]
   simp [go_sem]
  ·simp [invoke,go_sem,qW aga]
  ·refine KQ (R:=⟨L,st.boxes.length,st.slots.length,σ,T1,w,st.slots.map AV.froze,a.tmps,w.heap.size,[],W1.heap.size⟩) (s:={ st with slots:=st.slots.map AV.froze }) (T0:=T) hR hI hC ha hb hrc hcons hX hit hrd (by simp) f1 f2 rfl hfr hJ1 hst e2 hcap rfl ?_ ?_ ?_ hL1 ?_ ?_ ?_ ?_ f3 (.inr ⟨l0,rfl⟩) ?_
   ·show w.heap.size≤W1.heap.size;omega
   ·intro b hb
    rw [← hW1]
    exact Below.heap_alloc _ _ _ hb
   ·rw [← hW1];exact ⟨rfl,rfl,rfl⟩
   ·exact Nat.le_refl _
   ·intro d hd;cases hd
   ·exact List.nodup_nil
   ·intro hd;cases hd
   ·intro w4 hA
    exact ⟨rfl,hA⟩
theorem EP {gx:bP} {ps:List Nat} {qH bd:ak} (h:ranged rec env gx ps qH bd st=some (e,st')):∃ f caps xs stop r s1,st.dH gx=some (.func f caps)∧gK rec env f caps stop=some xs∧rounds rec (st.slots.map AV.froze) ps qH bd st.boxes.length 0 xs { st with slots:=st.slots.map AV.froze }=some (r,s1) ∧
  ((stop=none∧r=none)∨∃ e m,stop=some m∧r=some (e,m)∧xs.length=m)∧e=WI r∧st'={ s1 with slots:=st.slots.map AV.froze }:=by
 unfold ranged at h
 replace h:=bind_some h
 obtain ⟨v,h1,h⟩:=h
 cases v<;>simp only [reduceCtorEq] at h
 rename_i f caps
 replace h:=bind_some h
 obtain ⟨xs,h2,h⟩:=h
 replace h:=bind_some h
 obtain ⟨⟨r,s1⟩,h3,h⟩:=h
 simp only at h
 cases r with
 |none =>
  simp only [Option.some.injEq,Prod.mk.injEq] at h
  exact ⟨f,caps,xs,none,none,s1,h1,h2,h3,.inl ⟨rfl,rfl⟩,h.1.symm,h.2.symm⟩
 |some q =>
  obtain ⟨e0,k⟩:=q
  simp only at h
  replace h:=bind_some h
  obtain ⟨ys,h4,h⟩:=h
  replace h:=bind_some h
  obtain ⟨⟨r2,s2⟩,h5,h⟩:=h
  simp only at h
  cases r2 with
  |none=>cases h
  |some q2 =>
   obtain ⟨e2,m⟩:=q2
   simp only at h
   split at h
   case isFalse=>cases h
   rename_i hk
   obtain ⟨rfl,hk⟩:=hk
   simp only [Option.some.injEq,Prod.mk.injEq] at h
   exact ⟨f,caps,ys,some m,some (e2,m),s2,h1,h4,h5,.inr ⟨e2,m,rfl,rfl,hk⟩,h.1.symm,h.2.symm⟩
end
end Go.Proofs.YtaaokejjmdbfaaaDoor

namespace Go.Proofs.YtaaokejjmdbfaaaDoor
open Go.RowKit
section
variable {P:Program} {F:Fence} {C:Ctx} {n L nb:Nat} {σ σ':Nat→Nat} {T T' T1 T2:Tags} {st st' st1:St} {a a1:Act} {w w1:World} {o:Oper} {vo:fM} {y:Operand} {x:bP} {d:Nat}
 {rec:ak→St→Option (Ex × St)} {env:Env} {next:Act→World→Prop} {Q:Exit→Act→World→Prop} {bU:Array Oper} {ds:List Deferred} {e:Ex}
theorem dW {α β:Type} {x:Option α} {f:α→β} {y:β} (h:x.map f=some y):∃ z,x=some z∧f z=y:=by
 cases x with
 |none=>cases h
 |some z=>exact ⟨z,rfl,Option.some.inj h⟩
theorem uU {keep:List Nat} (h0:st.head keep nb=some st1):st1.boxes.length=nb∧st1.ys=st.ys∧st1.stop=st.stop:=by
 unfold St.head at h0
 simp only at h0
 split at h0
 ·rename_i hc
  simp only [Bool.and_eq_true,decide_eq_true_eq] at hc
  have h0:=Option.some.inj h0
  subst h0
  exact ⟨by simp;omega,rfl,rfl⟩
 ·cases h0
theorem OA (hR:oM P rec) {c:Code} {keep:List Nat} {vc:ak} (hm:mC P c vc=true) (h:step rec env (.round keep nb vc) st=some (e,st')):Grow nb st st':=by
 simp only [step] at h
 replace h:=bind_some h
 obtain ⟨st0,h0,h⟩:=h
 replace h:=bind_some h
 obtain ⟨⟨e1,st1⟩,h1,h⟩:=h
 have hh:st0.boxes.length=nb∧st0.ys=st.ys∧st0.stop=st.stop:=by
  unfold St.head at h0
  simp only at h0
  split at h0
  ·rename_i hc
   simp only [Bool.and_eq_true,decide_eq_true_eq] at hc
   have h0:=Option.some.inj h0
   subst h0
   exact ⟨by simp;omega,rfl,rfl⟩
  ·cases h0
 have g1:=hR.grow _ _ _ _ _ hm h1
 have g1':Grow nb st st1:=by
  refine ⟨by rw [← hh.1];exact g1.1,by rw [← hh.2.1];exact g1.2.1,g1.2.2.trans hh.2.2⟩
 simp only at h
 split at h
 ·exact g1'.trans (hR.WB _ _ _ _ _ _ _ hm h)
 ·cases Option.some.inj h;exact g1'
theorem SX (hR:oM P rec) {c:Code} {vc:ak} (hm:mC P c vc=true) (h:step rec env vc st=some (e,st')):Grow st.boxes.length st st':=by
 cases vc with
 |skip=>simp only [step,Option.some.injEq,Prod.mk.injEq] at h;rw [← h.2];exact (aP.refl _).grow
 |ops l =>
  simp only [step] at h
  obtain ⟨st1,h1,h2⟩:=dW h
  cases h2;exact fG h1
 |vk fz acts fin last l =>
  simp only [step] at h
  obtain ⟨st1,h1,h2⟩:=dW h
  cases h2
  have gz:=aP.jQ fz (aP.refl st)
  exact ((aP.grow gz).trans (fG h1)).mono gz.1
 |drs fz keep vo alts =>
  simp only [step] at h
  obtain ⟨st1,h1,h2⟩:=dW h
  cases h2
  have gz:=aP.jQ fz (aP.refl st)
  have g:=D8 h1
  exact ((aP.grow gz).trans ⟨g.1,g.2.1,g.2.2⟩).mono gz.1
 |lend d ks l =>
  simp only [step] at h
  split at h
  case h_2=>cases h
  split at h
  case isFalse=>cases h
  obtain ⟨st3,h1,h2⟩:=dW h
  cases h2
  obtain ⟨st2,h3,h4⟩:=bind_some h1
  have gz:=(aP.refl st).freeze (.slot d)
  exact ((gz.grow.trans (fG h3)).mono gz.1).jq h4
 |seq a b =>
  cases c<;>first|(simp [mC] at hm;done)|skip
  rename_i c1 c2
  simp only [mC,Bool.and_eq_true] at hm
  simp only [step] at h
  replace h:=bind_some h
  obtain ⟨⟨e1,st1⟩,h1,h⟩:=h
  have g1:=hR.grow _ _ _ _ _ hm.1 h1
  simp only at h
  split at h
  ·exact (g1.trans (hR.grow _ _ _ _ _ hm.2 h)).mono g1.1
  ·cases Option.some.inj h;exact g1
 |cond y a b =>
  cases c<;>first|(simp [mC] at hm;done)|skip
  simp only [mC,Bool.and_eq_true] at hm
  simp only [step] at h
  replace h:=bind_some h
  obtain ⟨v,h1,h⟩:=h
  split at h
  ·split at h
   ·exact hR.grow _ _ _ _ _ hm.1.2 h
   ·exact hR.grow _ _ _ _ _ hm.2 h
  ·cases h
 |block i a =>
  cases c<;>first|(simp [mC] at hm;done)|skip
  simp only [mC,Bool.and_eq_true] at hm
  simp only [step] at h
  replace h:=bind_some h
  obtain ⟨⟨e1,st1⟩,h1,h⟩:=h
  have h:=Option.some.inj h
  cases h
  exact hR.grow _ _ _ _ _ hm.2 h1
 |loop keep a =>
  cases c<;>first|(simp [mC] at hm;done)|skip
  simp only [mC] at hm
  simp only [step] at h
  exact hR.WB _ _ _ _ _ _ _ hm h
 |round keep nb a =>
  cases c<;>first|(simp [mC] at hm;done)|skip
 |rng g ps qH b =>
  cases c<;>first|(simp [mC] at hm;done)|skip
  rename_i g1 ps1 c1 c2
  simp only [mC,Bool.and_eq_true,beq_iff_eq] at hm
  obtain ⟨⟨⟨m1,m2⟩,m3⟩,m4⟩:=hm
  simp only [step] at h
  obtain ⟨f,caps,xs,stop,r,s1,q1,q2,q3,q4,rfl,rfl⟩:=EP h
  have:=tH hR.grow m3 m4 xs 0 _ r s1 q3 (Nat.le_refl _)
  exact ⟨this.1,this.2.1,this.2.2⟩
 |clean pre post a =>
  replace hm:mC P c a=true:=by cases c<;>simpa only [mC] using hm
  simp only [step] at h
  replace h:=bind_some h
  obtain ⟨st1,h0,h⟩:=h
  replace h:=bind_some h
  obtain ⟨⟨e1,st2⟩,h1,h⟩:=h
  replace h:=bind_some h
  obtain ⟨st3,h2,h⟩:=h
  cases Option.some.inj h
  obtain ⟨k1,k2,k3⟩:=uU h0
  obtain ⟨l1,l2,l3⟩:=uU h2
  have g1:=hR.grow _ _ _ _ _ hm h1
  exact ⟨by omega,by rw [l2,← k2];exact g1.2.1,by rw [l3,g1.2.2,k3]⟩
 |exit i=>simp only [step,Option.some.injEq,Prod.mk.injEq] at h;rw [← h.2];exact (aP.refl _).grow
 |ret=>simp only [step,Option.some.injEq,Prod.mk.injEq] at h;rw [← h.2];exact (aP.refl _).grow
 |dem l d f args =>
  simp only [step] at h
  obtain ⟨st1,h1,h⟩:=bind_some h
  obtain ⟨vs,h2,h⟩:=bind_some h
  obtain ⟨r,h3,h⟩:=bind_some h
  cases r with
  |some p=>cases Option.some.inj h;exact fG h1
  |none =>
   obtain ⟨st2,h4,h5⟩:=dW h
   cases h5
   exact ((fG h1).trans (BH h4)).mono (fG h1).1
theorem Post.trans {nb1:Nat} {σ1:Nat→Nat} {ms:List Nat} (hs:dn T T1 w w1) (hσ:∀ k,k<nb→σ1 k=σ k) (hd:a1.defers=ms.map jK++ds) (hms:Marks T1 w w1 ms) (hnb:nb≤nb1)
  {x:Exit} {a':Act} {w':World} (h:Post C L nb1 σ1 T1 w1 e st' a1.defers x a' w'):Post C L nb σ T w e st' ds x a' w':=⟨h.1,After.trans hs hσ hd hms hnb h.2⟩
theorem WL (hR:oM P rec) (hW:jW F) (hN:C.Rec F) (hC:C.Ok P L) {c:Code} {keep:List Nat} {vc:ak} (hm:mC P c vc=true) (h:step rec env (.round keep nb vc) st=some (e,st')) (hst:st.stop=C.stop) (hX:st'.ys <+: C.X)
  (hs:aI L σ T st a w) (hJ:C.J st.ys.length T w):wB F n P c (Post C L nb σ T w e st' a.defers) a w:=by
 simp only [step] at h
 replace h:=bind_some h
 obtain ⟨st0,h0,h⟩:=h
 replace h:=bind_some h
 obtain ⟨⟨e1,st1⟩,h1,h⟩:=h
 obtain ⟨q1,q2,q3,q4,q5⟩:=hs.head h0
 have g1:=hR.grow _ _ _ _ _ hm h1
 refine Ku ?_
 have hX1:st1.ys <+: C.X:=by
  simp only at h
  split at h
  ·exact (hR.WB _ _ _ _ _ _ _ hm h).2.1.trans hX
  ·cases Option.some.inj h;exact hX
 refine wpIn_mono (hR.wp hW hN hC c vc st0 e1 st1 hm h1 (q4.trans hst) hX1 σ T a w q1 (by rw [q3];exact hJ)) ?_
 rintro x a1 w1 ⟨hx,hA⟩
 rw [q2] at hA
 simp only at h
 split at h
 ·subst hx
  obtain ⟨σ1,T1,ms,k1,k2,k3,k4,k5,k6⟩:=hA
  exact Kv (hR.wpR hW hN hC c keep nb vc st1 e st' hm h (g1.2.2.trans (q4.trans hst)) hX σ1 T1 a1 w1 k1 k2) fun x a' w' hP=>Post.trans k4 k3 k5 k6 (Nat.le_refl _) hP
 ·rename_i hne
  cases Option.some.inj h
  cases e with
  |normal=>exact absurd rfl hne
  |exit i=>subst hx;exact ⟨rfl,hA⟩
  |ret=>subst hx;exact ⟨rfl,hA⟩
  |nK t m=>subst hx;exact ⟨rfl,hA⟩
theorem adI (hW:jW F) (hC:C.Ok P L) (aW:fE P rec env) (hX:st'.ys <+: C.X) (hs:aI L σ T st a w) (hJ:C.J st.ys.length T w) (hst:st.stop=C.stop) {l:List fM} {f:Nat} {args:List bP} (hm:mL P bU bU.toList (l++[.call d f args])=true) (h1:ops rec env l st=some st1)
  {vs:List PV} (h2:args.mapM st1.dH=some vs) {r:Option (Nat × Int)} (h3:wV rec env f vs=some r) (h:(match r with
   |some (t,n)=>some (.nK t n,st1)
   |none=>(act rec env (.call d f args) st1).map fun st2=>(.normal,st2))=some (e,st')):wpListIn F n P bU (Post C L st.boxes.length σ T w e st' a.defers) bU.toList a w:=by
 obtain ⟨l1,o,hl,m1,m2⟩:=aaw hm
 have g1:=fG h1
 rw [hl]
 cases r with
 |some p =>
  cases Option.some.inj h
  refine GU hW hC aW hX hs hJ hst m1 h1 ?_
  rintro a1 w1 ⟨σ1,T1,ms,k1,k2,k3,k4,k5,k6⟩
  exact adv hW hC aW k1 k2 m2 h2 h3 fun w' hA=>⟨rfl,After.trans k4 k3 k5 k6 g1.1 hA⟩
 |none =>
  obtain ⟨st2,h4,h5⟩:=dW h
  cases h5
  have g2:Grow st1.boxes.length st1 st':=BH h4
  refine GU hW hC aW (g2.2.1.trans hX) hs hJ hst m1 h1 ?_
  rintro a1 w1 ⟨σ1,T1,ms,k1,k2,k3,k4,k5,k6⟩
  have h6:ops rec env [.call d f args] st1=some st':=by
   simp only [ops,op,op1,kW,↓reduceIte,h4]
   rfl
  have m3:mL P bU [o] [.call d f args]=true:=by simp only [mL,m2,Bool.and_self]
  exact GR hW hC aW hX k1 k2 (g1.2.2.trans hst) m3 h6 fun a' w' hA=>⟨rfl,After.trans k4 k3 k5 k6 g1.1 hA⟩
theorem aaC (hR:oM P rec) (hI:xK P env) (aW:fE P rec env) (hW:jW F) (hN:C.Rec F) (hC:C.Ok P L) {c:Code} {vc:ak} (hm:mC P c vc=true) (h:step rec env vc st=some (e,st')) (hst:st.stop=C.stop) (hX:st'.ys <+: C.X)
  (hs:aI L σ T st a w) (hJ:C.J st.ys.length T w):c.wpIn F n P (Post C L st.boxes.length σ T w e st' a.defers) a w:=by
 cases vc with
 |skip =>
  simp only [step,Option.some.injEq,Prod.mk.injEq] at h
  obtain ⟨rfl,rfl⟩:=h
  cases c<;>first|(simp [mC] at hm;done)|skip
  case skip=>exact wpIn_skip ⟨rfl,After.refl hs hJ⟩
  case label l=>exact wpIn_label ⟨rfl,After.refl hs hJ⟩
 |ops l =>
  simp only [step] at h
  obtain ⟨st1,h1,h2⟩:=dW h
  cases h2
  cases c<;>first|(simp [mC] at hm;done)|skip
  case region id ops dr =>
   cases dr<;>simp [mC] at hm
   exact wpIn_region_list (GR hW hC aW hX hs hJ hst hm h1 fun a' w' hA=>⟨rfl,hA⟩)
 |vk fz acts fin last l =>
  simp only [step] at h
  obtain ⟨st1,h1,h2⟩:=dW h
  cases h2
  cases c<;>first|(simp [mC] at hm;done)|skip
  case region id ops dr =>
   cases dr<;>simp only [mC,Bool.and_eq_true,Bool.false_eq_true] at hm
   obtain ⟨⟨⟨m1,m2⟩,m3⟩,m4⟩:=hm
   obtain ⟨T1,q1,q2⟩:=hs.jQ fz
   have gz:=aP.jQ fz (aP.refl st)
   have hJ1:C.J (fz.foldl St.gG st).ys.length T1 w:=by rw [gz.2.1];exact hC.keep _ _ _ _ _ (q2.nC w) hJ
   exact D7 hW hC aW q1 hJ1 (gz.2.2.trans hst) hX m1 m2 m3 m4 h1 fun a' w' hA=>⟨rfl,After.trans (ms:=[]) ((q2.nC w).stays) (fun _ _=>rfl) rfl Marks.nil gz.1 hA⟩
 |drs fz keep vo alts =>
  simp only [step] at h
  obtain ⟨st1,h1,h2⟩:=dW h
  cases h2
  cases alts with
  |nil=>cases h1
  |cons alt alts =>
  cases c<;>first|(simp [mC] at hm;done)|skip
  case region id ops dr =>
   cases dr<;>simp only [mC,Bool.and_eq_true,Bool.false_eq_true] at hm
   obtain ⟨⟨m1,m2⟩,m3⟩:=hm
   obtain ⟨T1,q1,q2⟩:=hs.jQ fz
   have gz:=aP.jQ fz (aP.refl st)
   have hJ1:C.J (fz.foldl St.gG st).ys.length T1 w:=by rw [gz.2.1];exact hC.keep _ _ _ _ _ (q2.nC w) hJ
   exact Ea hW hC aW q1 hJ1 (gz.2.2.trans hst) hX m1 m2 m3 h1 fun a' w' hA=>⟨rfl,After.trans (ms:=[]) ((q2.nC w).stays) (fun _ _=>rfl) rfl Marks.nil gz.1 hA⟩
 |lend d ks l =>
  simp only [step] at h
  split at h
  case h_2=>cases h
  rename_i hd
  split at h
  case isFalse=>cases h
  rename_i hstop
  obtain ⟨st3,h1,h2⟩:=dW h
  cases h2
  obtain ⟨st2,h3,h4⟩:=bind_some h1
  cases c<;>first|(simp [mC] at hm;done)|skip
  case region id ops dr =>
   cases dr<;>simp [mC] at hm
   exact aaB hW hC aW hs hJ hd hstop hm.1 (by simpa using hm.2) h3 h4
 |seq a b =>
  cases c<;>first|(simp [mC] at hm;done)|skip
  rename_i c1 c2
  simp only [mC,Bool.and_eq_true] at hm
  simp only [step] at h
  replace h:=bind_some h
  obtain ⟨⟨e1,st1⟩,h1,h⟩:=h
  have g1:=hR.grow _ _ _ _ _ hm.1 h1
  refine wpIn_seq ?_
  have hX1:st1.ys <+: C.X:=by
   simp only at h
   split at h
   ·exact (hR.grow _ _ _ _ _ hm.2 h).2.1.trans hX
   ·cases Option.some.inj h;exact hX
  refine wpIn_mono (hR.wp hW hN hC c1 _ st e1 st1 hm.1 h1 hst hX1 σ T _ w hs hJ) ?_
  rintro x a1 w1 ⟨hx,hA⟩
  simp only at h
  split at h
  ·subst hx
   obtain ⟨σ1,T1,ms,k1,k2,k3,k4,k5,k6⟩:=hA
   exact wpIn_mono (hR.wp hW hN hC c2 _ st1 e st' hm.2 h (g1.2.2.trans hst) hX σ1 T1 a1 w1 k1 k2) fun x a' w' hP=>Post.trans k4 k3 k5 k6 g1.1 hP
  ·rename_i hne
   cases Option.some.inj h
   cases e with
   |normal=>exact absurd rfl hne
   |exit i=>subst hx;exact ⟨rfl,hA⟩
   |ret=>subst hx;exact ⟨rfl,hA⟩
   |nK t m=>subst hx;exact ⟨rfl,hA⟩
 |cond y a b =>
  cases c<;>first|(simp [mC] at hm;done)|skip
  rename_i x c1 c2
  simp only [mC,Bool.and_eq_true] at hm
  simp only [step] at h
  replace h:=bind_some h
  obtain ⟨v,h1,h⟩:=h
  split at h
  case h_2=>cases h
  rename_i t
  refine wpIn_cond (t:=t) (hs.pv hm.1.1 h1).mV ?_
  cases t with
  |true=>exact hR.wp hW hN hC c1 _ st e st' hm.1.2 (by simpa using h) hst hX σ T _ w hs hJ
  |false=>exact hR.wp hW hN hC c2 _ st e st' hm.2 (by simpa using h) hst hX σ T _ w hs hJ
 |block i a =>
  cases c<;>first|(simp [mC] at hm;done)|skip
  rename_i j c1
  simp only [mC,Bool.and_eq_true,beq_iff_eq] at hm
  obtain ⟨rfl,hm⟩:=hm
  simp only [step] at h
  replace h:=bind_some h
  obtain ⟨⟨e1,st1⟩,h1,h⟩:=h
  have h:=Option.some.inj h
  cases h
  refine wpIn_block (wpIn_mono (hR.wp hW hN hC c1 _ st e1 st1 hm h1 hst hX σ T _ w hs hJ) ?_)
  rintro x a1 w1 ⟨rfl,hA⟩
  cases e1 with
  |normal=>exact ⟨rfl,hA⟩
  |exit i =>
   by_cases hij:i=j
   ·subst hij;simp only [toX,Exit.inBlock,↓reduceIte];exact ⟨rfl,hA⟩
   ·have hne:(Ex.exit i=Ex.exit j)=False:=by simpa using hij
    simp only [toX,Exit.inBlock,if_neg hij,hne,↓reduceIte];exact ⟨rfl,hA⟩
  |ret=>exact ⟨rfl,hA⟩
  |nK t m=>exact ⟨rfl,hA⟩
 |loop keep a =>
  cases c<;>first|(simp [mC] at hm;done)|skip
  simp only [mC] at hm
  simp only [step] at h
  exact GN (hR.wpR hW hN hC _ keep _ _ st e st' hm h hst hX σ T _ w hs hJ)
 |round keep nb a =>
  cases c<;>first|(simp [mC] at hm;done)|skip
 |rng g ps qH b =>
  cases c<;>first|(simp [mC] at hm;done)|skip
  rename_i g1 ps1 c1 c2
  simp only [mC,Bool.and_eq_true,beq_iff_eq] at hm
  obtain ⟨⟨⟨m1,m2⟩,m3⟩,m4⟩:=hm
  subst m2
  simp only [step] at h
  obtain ⟨f,caps,xs,stop,r,s1,q1,q2,q3,q4,rfl,rfl⟩:=EP h
  exact WJ hR hI hW hN hC m3 m4 m1 q1 q2 q3 q4 hX hst hs hJ
 |clean pre post a =>
  replace hm:mC P c a=true:=by cases c<;>simpa only [mC] using hm
  simp only [step] at h
  replace h:=bind_some h
  obtain ⟨st1,h0,h⟩:=h
  replace h:=bind_some h
  obtain ⟨⟨e1,st2⟩,h1,h⟩:=h
  replace h:=bind_some h
  obtain ⟨st3,h2,h⟩:=h
  cases Option.some.inj h
  obtain ⟨q1,q2,q3,q4,q5⟩:=hs.head h0
  obtain ⟨l1,l2,l3⟩:=uU h2
  refine wpIn_mono (hR.wp hW hN hC c a st1 _ st2 hm h1 (q4.trans hst) (by rw [← l2];exact hX) σ T _ w q1 (by rw [q3];exact hJ)) ?_
  rintro x a1 w1 ⟨hx,σ1,T1,ms,k1,k2,k3,k4,k5,k6⟩
  obtain ⟨r1,r2,r3,r4,r5⟩:=k1.head h2
  exact ⟨hx,σ1,T1,ms,r1,by rw [r3];exact k2,by rw [← q2];exact k3,k4,k5,k6⟩
 |exit i =>
  simp only [step,Option.some.injEq,Prod.mk.injEq] at h
  obtain ⟨rfl,rfl⟩:=h
  cases c<;>first|(simp [mC] at hm;done)|skip
  simp only [mC,beq_iff_eq] at hm
  subst hm
  exact wpIn_exit ⟨rfl,After.refl hs hJ⟩
 |ret =>
  simp only [step,Option.some.injEq,Prod.mk.injEq] at h
  obtain ⟨rfl,rfl⟩:=h
  cases c<;>first|(simp [mC] at hm;done)|skip
  exact wpIn_ret ⟨rfl,After.refl hs hJ⟩
 |dem l d f args =>
  simp only [step] at h
  obtain ⟨st1,h1,h⟩:=bind_some h
  obtain ⟨vs,h2,h⟩:=bind_some h
  obtain ⟨r,h3,h⟩:=bind_some h
  cases c<;>first|(simp [mC] at hm;done)|skip
  case region id ops dr =>
   cases dr<;>simp [mC] at hm
   exact wpIn_region_list (adI hW hC aW hX hs hJ hst hm h1 h2 h3 (by cases r<;>exact h))
theorem step_ok (hR:oM P rec) (hI:xK P env) (aW:fE P rec env):oM P (step rec env) :=
 ⟨fun _ _ _ _ _ hm h=>SX hR hm h,fun _ _ _ _ _ _ _ hm h=>OA hR hm h,
  fun hW hN hC _ _ _ _ _ hm h hst hX _ _ _ _ hs hJ=>aaC hR hI aW hW hN hC hm h hst hX hs hJ,
  fun hW hN hC _ _ _ _ _ _ _ hm h hst hX _ _ _ _ hs hJ=>WL hR hW hN hC hm h hst hX hs hJ⟩
end
end Go.Proofs.YtaaokejjmdbfaaaDoor

namespace Go.Proofs.YtaaokejjmdbfaaaDoor
open Go.RowKit
section
variable {P:Program} {L K:Nat} {σ σ':Nat→Nat} {T T' T1 T2:Tags} {st st' st1:St} {a a1:Act} {w w1:World} {r:Root}
theorem aI.aaD (h:aI L σ T st a w) {i:Nat} (h1:∀ t s l,st.slots[t]?=some (.row s l)→r≠.slot t) (h2:∀ (t i:Nat),r≠.part t i) (h3:∀ p q bx s l,st.boxes[p]?=some bx→bx.cs[q]?=some (.row s l)→r≠.cell p q) (hK:st.slots.length≤K) :
  aI L σ (moved T r (.part K i)) st a w:=by
 have hw:∀ b,T b=.ro→b<w.heap.size→moved T r (.part K i) b=.ro∧w.heap[b]?=w.heap[b]?:=fun b e _=>⟨gI e,rfl⟩
 refine ⟨h.size,fun t x u hx hu=>?_,fun p bx ho=>?_,fun b hb=>jG (h.fresh b hb)⟩
 ·have ht:t<st.slots.length:=(List.getElem?_eq_some_iff.1 hx).1
  refine (h.slots t x u hx hu).keep hw (fun s l e b hb _=>⟨dM (fun e2=>h1 t s l (by rw [hx,e]) e2.symm) (by simp) hb,rfl⟩) (fun l e i' _ b hb _=>⟨dM (fun e2=>h2 _ _ e2.symm) (fun e2=>?_) hb,rfl⟩) (fun q hq _ s l e=>⟨⟨l,e⟩,rfl⟩) (Nat.le_refl _) (fun _ _=>rfl)
  cases e2;omega
 ·obtain ⟨arr,E,g1,g2,g3,g4,g5⟩:=h.boxes p bx ho
  refine ⟨arr,E,g1,g2,?_,g4,fun j bv u hj hu=>?_⟩
  ·cases hf:bx.fz with
   |true=>rw [hf] at g3;simpa using gI g3
   |false=>rw [hf] at g3;simpa using lT g3
  ·obtain ⟨k1,k2⟩:=g5 j bv u hj hu
   refine ⟨k1,?_⟩
   cases bv with
   |pv x=>exact ay.frame hw k2
   |row sz es=>exact aH.frame (fun b e _=>⟨dM (fun e2=>h3 p j bx sz es ho hj e2.symm) (by simp) e,rfl⟩) hw k2
theorem aH.adJ {sz:Nat} {es:List PV} {xa:Option Addr} {c:Nat} (h:aH T w r sz es (.slice xa es.length c)) (k:Nat):aH T w r sz (es.take k) (.slice xa (es.take k).length c):=by
 rcases h with ⟨rfl,a,e⟩|⟨b,c',arr,E,e,h2,h3,h4,h5,h6,h7,h8⟩
 ·simp only [List.length_nil,Value.slice.injEq] at e
  obtain ⟨_,_,rfl⟩:=e
  exact .inl ⟨by simp,xa,by simp⟩
 ·simp only [Value.slice.injEq] at e
  obtain ⟨rfl,_,rfl⟩:=e
  refine .inr ⟨b,c,arr,E,rfl,h2,h3,h4,?_,h6,fun e he=>h7 e (List.mem_of_mem_take he),fun i e j x hi hj=>?_⟩
  ·simp;omega
  ·rw [List.getElem?_take] at hi
   split at hi
   ·exact h8 i e j x hi hj
   ·cases hi
def RK (T:Tags) (w:World) (K i:Nat):l9→Value→Prop
 |(.list sz es,true),u=>aH T w (.part K i) sz es u
 |(.agg _,true),_=>False
 |(x,_),u=>ay (fun b=>T b=.ro) w x u
theorem RK.pv {i:Nat} {x:PV} {u:Value} (h:ay (fun b=>T b=.ro) w x u):RK T w K i (x,false) u:=by
 cases x<;>exact h
def lu (tmps:Array Value):ResultVar→Sem Value
 |.tmp t=>pure (tmps.getD t undef)
 |.cell a t=>do loadVar t (← asAddr (tmps.getD a undef))
def OB (P:Program):ResultVar→qw→Bool
 |.tmp t,.tmp s=>t==s
 |.cell t T0,.cell s n=>t==s&&oC P T0==some n
 |.cell t T0,.own s n=>t==s&&oC P T0==some (some n)
 |_,_=>false
theorem OC (h:aI L σ T st a w) {g:ResultVar} {v:qw} (hm:OB P g v=true) {x:l9} (hp:mO st v=some (x,st1)) (hK:st.slots.length≤K) (i:Nat) :
  ∃ u T',(lu a.tmps g).run P w=.ok u w∧aI L σ T' st1 a w∧Still T T'∧RK T' w K i x u∧(∀ b k,k≠i→T b=.row (.part K k)→T' b=.row (.part K k))∧st1.slots.length=st.slots.length∧(∀ b o,T b=.box o→T' b=.box o):=by
 cases g<;>cases v<;>simp only [OB,Bool.false_eq_true] at hm
 case tmp.tmp t s =>
  simp only [beq_iff_eq] at hm
  subst hm
  have hev:a.tmps.getD t undef=a.eval (.tmp t):=rfl
  have hmo:aY (.tmp t) (.t t)=true:=by simp [aY]
  simp only [mO] at hp
  split at hp
  ·rename_i sz es st2 hg
   have hp:=Option.some.inj hp
   cases hp
   obtain ⟨k1,k2,q,v,es0,c,xa,k3,k4,k5,k6,k7,k8,k9⟩:=h.grab hmo hg
   have hlen:st1.slots.length=st.slots.length:=by rw [← k1.size,← h.size]
   refine ⟨a.eval (.tmp t),moved T q (.part K i),by rw [lu,hev];rfl,k1.aaD k7 k8 k9 (by omega),Still.moved _ _ _,?_,fun b k hk e=>dM (fun e2=>k8 _ _ e2.symm) (by simp [hk]) e,hlen,fun b o e=>lT e⟩
   rw [k6]
   subst k5
   have:=aH.adJ k3 es.length
   rw [← k4] at this
   exact aH.frame (fun b e _=>⟨nY e,rfl⟩) (fun b e _=>⟨gI e,rfl⟩) this
  ·split at hp
   ·rename_i v hv
    have hp:=Option.some.inj hp
    cases hp
    have e2:st.dH (.t t)=some v:=by unfold St.dH;rw [show st.get (.t t)=.pv v from hv]
    exact ⟨a.eval (.tmp t),T,by rw [lu,hev];rfl,h,Still.refl T,RK.pv (h.pv hmo e2),fun _ _ _ e=>e,rfl,fun _ _ e=>e⟩
   ·rename_i r off len hv
    split at hp
    case h_2=>cases hp
    rename_i sz es hr
    split at hp
    case isFalse=>cases hp
    rename_i hl
    have hp:=Option.some.inj hp
    cases hp
    obtain ⟨T1,k1,k2,k3,k4,k5⟩:=h.freeze r
    refine ⟨a.eval (.tmp t),T1,by rw [lu,hev];rfl,k1,k2,RK.pv (h.Gt hr (h.N7 hmo hv sz es hr) hl (k4 sz es hr) k2.ro),fun b k _ e=>k3 b _ (fun e2=>by subst e2;simp [St.row] at hr) e,by rw [← k1.size,← h.size],k5⟩
   ·cases hp
 case cell.cell t T0 s n =>
  simp only [Bool.and_eq_true,beq_iff_eq] at hm
  obtain ⟨rfl,hc⟩:=hm
  simp only [mO] at hp
  split at hp
  case h_2=>cases hp
  rename_i p j hv
  split at hp
  case h_2=>cases hp
  rename_i bx h1
  have hs:st.slots[t]?=some (.aQ p j):=kP (st:=st) hv (by simp)
  have hlt:t<a.tmps.size:=by rw [h.size];exact (List.getElem?_eq_some_iff.1 hs).1
  have hgp:a.tmps.getD t undef=.pointer (some ⟨σ p,j,none⟩):=by
   have:=(h.slots t _ _ hs (Array.getElem?_eq_getElem hlt)).2
   rw [Array.getD_eq_getD_getElem?,Array.getElem?_eq_getElem hlt,Option.getD_some,this]
  have hread:∀ {u:Value},(loadVar T0 ⟨σ p,j,none⟩).run P w=.ok u w→(lu a.tmps (.cell t T0)).run P w=.ok u w:=fun hu=>by
   simp only [lu,hgp,asAddr,Sem.run_bind,Sem.run_pure,Result.andThen_ok]
   exact hu
  have hbox:=h.boxes p bx h1
  cases n with
  |none =>
   obtain ⟨arr,E,g1,g2,g3,g4,g5⟩:=hbox
   have hld:∀ (bv:BV),bx.cs[j]?=some bv→∃ u,(loadVar T0 ⟨σ p,j,none⟩).run P w=.ok u w∧DT T w p j bv u:=fun bv hbv=>by
    have hj:j<arr.size:=by rw [g2];exact (List.getElem?_eq_some_iff.1 hbv).1
    obtain ⟨k1,k2⟩:=g5 j _ arr[j] hbv (Array.getElem?_eq_getElem hj)
    refine ⟨arr[j],?_,k2⟩
    unfold loadVar
    simp only [Sem.run_bind,nR hc,Result.andThen_ok,Bool.false_eq_true,if_false]
    unfold load
    simp only [Sem.run,cell_of_row w _ _ arr E (0,0) g1,Array.getElem?_eq_getElem hj]
   simp only at hp
   split at hp
   ·rename_i sz es hbv
    split at hp
    ·cases hp
    ·rename_i hfz
     have hp:=Option.some.inj hp
     cases hp
     obtain ⟨u,q1,q2⟩:=hld _ hbv
     have hr:st.row (.cell p j)=some (sz,es):=by simp [St.row,h1,hfz,hbv]
     obtain ⟨T1,k1,k2,k3,k4,k5⟩:=h.freeze (.cell p j)
     exact ⟨u,T1,hread q1,k1,k2,RK.pv (aH.list (k4 sz es hr) k2.ro q2),fun b k _ e=>k3 b _ (by simp) e,by rw [← k1.size,← h.size],k5⟩
   ·rename_i v hbv
    have hp:=Option.some.inj hp
    cases hp
    obtain ⟨u,q1,q2⟩:=hld _ hbv
    exact ⟨u,T,hread q1,h,Still.refl T,RK.pv q2,fun _ _ _ e=>e,rfl,fun _ _ e=>e⟩
   ·cases hp
  |some n =>
   simp only at hp
   obtain ⟨v,h2,hp⟩:=dW hp
   cases hp
   obtain ⟨T1,k1,k2,k3,k4,k5⟩:=h.o9 p
   have hmem:=hbox.mem (T':=T1) (fun j b e=>k4 (by rw [h1];rfl) b j e) k2.ro
   obtain ⟨u,h7,h8,_⟩:=oG (P:=P) hmem hc h2
   rw [Nat.zero_add] at h7
   exact ⟨u,T1,hread (h7 w rfl),k1,k2,RK.pv h8,fun b k _ e=>k3 b _ (by simp) e,by rw [← k1.size,← h.size],k5⟩
 case cell.own t T0 s n=>simp only [mO] at hp;cases hp
def RKo (T:Tags) (w:World) (K i:Nat) (x:l9) (u:Value):Prop :=
 RK T w K i x u∨(i=0∧∃ cs,x=(.agg cs,true)∧∃ arr:Array Value,u=.agg arr∧arr.size=cs.length∧∀ (k:Nat) x v,cs[k]?=some x→arr[k]?=some v→iP T w K k (RJ x) v)
def SY (T:Tags) (p j K:Nat):Tags:=fun b=>match T b with
 |.ro=>.ro
 |.row (.cell o q)=>if o=p∧j≤q then .row (.part K (q - j)) else .other
 |_=>.other
theorem rD:∀ {l:List BV} {cs:List PV},jD l=some cs→l.length=cs.length∧∀ (k:Nat) x,cs[k]?=some x→(∃ sz es,l[k]?=some (.row sz es)∧x=.list sz es)∨(l[k]?=some (.pv x)∧∀ s es,x≠.list s es)
 |[],cs,h=>by cases h;exact ⟨rfl,fun k x hk=>by simp at hk⟩
 |.row sz es :: l,cs,h=>by
  obtain ⟨c,h1,rfl⟩:=dW h
  obtain ⟨q1,q2⟩:=rD h1
  refine ⟨by simp [q1],fun k x hk=>?_⟩
  cases k with
  |zero=>cases hk;exact .inl ⟨sz,es,rfl,rfl⟩
  |succ k=>exact q2 k x hk
 |.pv v :: l,cs,h=>by
  have hv:(∀ s es,v≠.list s es)∧∃ c,jD l=some c∧cs=v :: c:=by
   cases v<;>first|(simp [jD] at h;done)|(obtain ⟨c,h1,rfl⟩:=dW h;exact ⟨(fun _ _ e=>by cases e),c,h1,rfl⟩)
  obtain ⟨hv,c,h1,rfl⟩:=hv
  obtain ⟨q1,q2⟩:=rD h1
  refine ⟨by simp [q1],fun k x hk=>?_⟩
  cases k with
  |zero=>cases hk;exact .inr ⟨rfl,hv⟩
  |succ k=>exact q2 k x hk
theorem OD {b j n T0:Nat} {arr:Array Value} {E q} (hc:oC P T0=some (some n)) (hb:w.heap[b]?=some (.cells arr E (0,q))) (hn:j+n≤arr.size) :
  ∃ us:Array Value,(loadVar T0 ⟨b,j,none⟩).run P w=.ok (.agg us) w∧us.size=n∧∀ k v,us[k]?=some v→arr[j+k]?=some v:=by
 have hs:=(mD (w:=w) hc).2
 let us:List Value:=(List.range n).map fun k=>arr.getD (j+k) undef
 have hus:∀ k v,us[k]?=some v→arr[j+k]?=some v:=fun k v hv=>by
  have hk:k<n:=by have:=(List.getElem?_eq_some_iff.1 hv).1;simpa [us] using this
  simp only [us,List.getElem?_map,List.getElem?_range hk,Option.map_some,Option.some.injEq] at hv
  rw [Array.getElem?_eq_getElem (by omega:j+k<arr.size)]
  rw [Array.getD_eq_getD_getElem?,Array.getElem?_eq_getElem (by omega:j+k<arr.size)] at hv
  rw [← hv];rfl
 have hlen:us.length=n:=by simp [us]
 refine ⟨us.toArray,?_,by simpa using hlen,fun k v hv=>hus k v (by simpa using hv)⟩
 have hl2:=run_loadCells_list (P:=P) (w:=w) ⟨b,j,none⟩ us (fun k v hv=>by
  rw [Addr.add_lit,cell_of_row w b _ arr E (0,q) hb];exact hus k v hv)
 rw [hlen] at hl2
 unfold loadVar
 simp only [Sem.run_bind,(mD (w:=w) hc).1,Result.andThen_ok,if_true,oD hs,hl2]
 rfl
theorem OE (h:aI L σ T st a w) {t T0 n p j:Nat} {bx:Box} {cs:List PV} (hc:oC P T0=some (some n)) (hv:st.slots.getD t .any=.aQ p j) (h1:st.boxes[p]?=some bx) (hf:bx.fz=false) (hn:j+n≤bx.cs.length) (ho:jD ((bx.cs.drop j).take n)=some cs) :
  ∃ u T',(lu a.tmps (.cell t T0)).run P w=.ok u w∧Still T T'∧(∀ b,w.heap.size≤b→T' b=.other)∧RKo T' w K 0 (.agg cs,true) u:=by
 have hs:st.slots[t]?=some (.aQ p j):=kP (st:=st) hv (by simp)
 have hlt:t<a.tmps.size:=by rw [h.size];exact (List.getElem?_eq_some_iff.1 hs).1
 have hgp:a.tmps.getD t undef=.pointer (some ⟨σ p,j,none⟩):=by
  have:=(h.slots t _ _ hs (Array.getElem?_eq_getElem hlt)).2
  rw [Array.getD_eq_getD_getElem?,Array.getElem?_eq_getElem hlt,Option.getD_some,this]
 obtain ⟨arr,E,g1,g2,g3,g4,g5⟩:=h.boxes p bx h1
 obtain ⟨us,r1,r2,r3⟩:=OD (P:=P) hc g1 (by omega:j+n≤arr.size)
 obtain ⟨q1,q2⟩:=rD ho
 have hro:∀ b,T b=.ro→SY T p j K b=.ro:=fun b e=>by simp [SY,e]
 refine ⟨.agg us,SY T p j K,?_,⟨hro,fun b e=>by simp [SY,e]⟩,fun b hb=>by simp [SY,h.fresh b hb],.inr ⟨rfl,cs,rfl,us,rfl,?_,fun k x v hx hu=>?_⟩⟩
 ·simp only [lu,hgp,asAddr,Sem.run_bind,Sem.run_pure,Result.andThen_ok]
  exact r1
 ·rw [r2,← q1];simp;omega
 ·have hk:k<n:=by rw [← r2];exact (Array.getElem?_eq_some_iff.1 hu).1
  have hget:∀ bv,((bx.cs.drop j).take n)[k]?=some bv→bx.cs[j+k]?=some bv:=fun bv e=>by
   rw [List.getElem?_take_of_lt hk,List.getElem?_drop] at e;exact e
  rcases q2 k x hx with ⟨sz,es,e1,rfl⟩|⟨e1,e2⟩
  ·obtain ⟨_,k2⟩:=g5 (j+k) _ v (hget _ e1) (r3 k v hu)
   exact aH.frame (fun b e _=>⟨by simp [SY,e],rfl⟩) (fun b e _=>⟨hro b e,rfl⟩) k2
  ·obtain ⟨_,k2⟩:=g5 (j+k) _ v (hget _ e1) (r3 k v hu)
   have:RJ x=.pv x:=by cases x<;>first|rfl|exact absurd rfl (e2 _ _)
   rw [this]
   exact ay.frame (fun b e _=>⟨hro b e,rfl⟩) k2
end
end Go.Proofs.YtaaokejjmdbfaaaDoor

namespace Go.Proofs.YtaaokejjmdbfaaaDoor
open Go.RowKit
def mX (P:Program):List ResultVar→List qw→Bool
 |[],[]=>true
 |g :: gs,v :: vs=>OB P g v&&mX P gs vs
 |_,_=>false
section
variable {P:Program} {L K:Nat} {σ σ':Nat→Nat} {T T' T1 T2:Tags} {st st' st1:St} {a a1:Act} {w w1:World} {r:Root}
theorem RK.frame {i:Nat} {x:l9} {u:Value} (hr:∀ b,T b=.row (.part K i)→T' b=.row (.part K i)) (hw:∀ b,T b=.ro→T' b=.ro) (h:RK T w K i x u):RK T' w K i x u:=by
 obtain ⟨v,own⟩:=x
 cases v<;>cases own<;>first|exact ay.frame (fun b e _=>⟨hw b e,rfl⟩) h|exact aH.frame (fun b e _=>⟨hr b e,rfl⟩) (fun b e _=>⟨hw b e,rfl⟩) h|exact False.elim h
theorem tK:∀ {gs:List ResultVar} {vs:List qw} {st:St} {T:Tags} {xs:List l9} (i:Nat),aI L σ T st a w→mX P gs vs=true→resultList st vs=some xs→st.slots.length≤K →
  ∃ (us:List Value) (T':Tags),(gs.mapM (lu a.tmps)).run P w=.ok us w∧us.length=xs.length∧Still T T'∧(∀ b,w.heap.size≤b→T' b=.other)∧(∀ (j:Nat) x u,xs[j]?=some x→us[j]?=some u→RK T' w K (i+j) x u)∧(∀ b k,k<i→T b=.row (.part K k)→T' b=.row (.part K k))∧∀ b o,T b=.box o→T' b=.box o
 |[],[],st,T,xs,i,h,_,hp,hK=>by
  simp only [resultList,Option.some.injEq] at hp
  subst hp
  exact ⟨[],T,by simp,rfl,Still.refl T,h.fresh,fun j x u hx=>by simp at hx,(fun _ _ _ e=>e),fun _ _ e=>e⟩
 |[],_ :: _,_,_,_,_,_,hm,_,_=>by simp [mX] at hm
 |_ :: _,[],_,_,_,_,_,hm,_,_=>by simp [mX] at hm
 |g :: gs,v :: vs,st,T,xs,i,h,hm,hp,hK=>by
  simp only [mX,Bool.and_eq_true] at hm
  simp only [resultList] at hp
  replace hp:=bind_some hp
  obtain ⟨⟨x,st1⟩,h1,hp⟩:=hp
  replace hp:=bind_some hp
  obtain ⟨l,h2,hp⟩:=hp
  have hp:=Option.some.inj hp
  subst hp
  obtain ⟨u,T1,k1,k2,k3,k4,k5,k6,k7⟩:=OC h hm.1 h1 hK i
  obtain ⟨us,T2,q1,q2,q3,q4,q5,q6,q7⟩:=tK (i+1) k2 hm.2 h2 (by omega)
  refine ⟨u :: us,T2,?_,by simp [q2],k3.trans q3,q4,fun j x' u' hx hu=>?_,fun b k hk e=>q6 b k (by omega) (k5 b k (by omega) e),fun b o e=>q7 b o (k7 b o e)⟩
  ·rw [List.mapM_cons]
   simp only [Sem.run_bind,k1,Result.andThen_ok,q1,Sem.run_pure]
  ·cases j with
   |zero =>
    simp only [List.getElem?_cons_zero,Option.some.injEq] at hx hu
    subst hx;subst hu
    exact RK.frame (fun b e=>q6 b i (by omega) e) q3.ro k4
   |succ j =>
    have:=q5 j x' u' (by simpa using hx) (by simpa using hu)
    rwa [show i+1+j=i+(j+1) by omega] at this
theorem tN {fn:Func} {us:List Value} (h:(fn.results.toList.mapM (lu a.tmps)).run P w=.ok us w):(results fn a.tmps).run P w=.ok (if us.toArray.size=1 then us.toArray.getD 0 undef else .tuple us.toArray) w:=by
 have e:results fn a.tmps=(do let vs ← fn.results.mapM (lu a.tmps);pure (if h:vs.size=1 then vs[0] else .tuple vs)):=by
  unfold results
  congr 1
 rw [e,Array.mapM_eq_mapM_toList]
 simp only [Sem.run_bind,Sem.run_map,h,Result.andThen_ok,Sem.run_pure]
 by_cases hs:us.toArray.size=1
 ·rw [dif_pos hs,if_pos hs,Array.getD_eq_getD_getElem?,Array.getElem?_eq_getElem (by omega),Option.getD_some]
 ·rw [dif_neg hs,if_neg hs]
theorem qj {fn:Func} {R:Ending→World→Prop} {B:Nat}:∀ {ms:List Nat} {w:World},ms.Nodup→(∀ r∈ms,B≤r∧w.heap[r]?=some (.deferred (some []))) →
  (∀ w',w'.os=w.os→w'.tape=w.tape→w'.output=w.output→w'.heap.size=w.heap.size→(∀ b,b ∉ ms→w'.heap[b]?=w.heap[b]?)→∃ v,(results fn a.tmps).run P w'=.ok v w'∧R (.returned v) w') →
  LeavesInM Fence.wide 0 P fn a.tmps R (ms.map jK) .returning w
 |[],w,_,_,h=>by
  simp only [List.map_nil,LeavesInM,LeavesIn]
  exact h w rfl rfl rfl rfl fun _ _=>rfl
 |r :: ms,w,hnd,hms,h=>by
  simp only [List.map_cons,LeavesInM]
  obtain ⟨hn1,hn2⟩:=List.nodup_cons.1 hnd
  obtain ⟨k1,k2⟩:=hms r (by simp)
  have hr:r<w.heap.size:=(Array.getElem?_eq_some_iff.1 k2).1
  have hput:∀ b,b≠r→(w.putObj r (.deferred none)).heap[b]?=w.heap[b]?:=fun b hb=>by simp [World.putObj,Array.getElem?_setIfInBounds,Ne.symm hb]
  refine ⟨by simp,.inl ⟨r,_,rfl,run_takeDeferred k2,qj (B:=B) hn2 (fun r' hr'=>?_) fun w' e1 e2 e3 e4 e5=>h w' e1 e2 e3 (by rw [e4];simp [World.putObj]) fun b hb=>?_⟩⟩
  ·obtain ⟨q1,q2⟩:=hms r' (by simp [hr'])
   exact ⟨q1,by rw [hput r' (fun e=>hn1 (e ▸ hr'))];exact q2⟩
  ·simp only [List.mem_cons,not_or] at hb
   rw [e5 b hb.2,hput b hb.1]
end
end Go.Proofs.YtaaokejjmdbfaaaDoor

namespace Go.Proofs.YtaaokejjmdbfaaaDoor
open Go.RowKit
section
variable {P:Program} {L K:Nat} {σ σ':Nat→Nat} {T T' T1 T2:Tags} {st st' st1:St} {a a1:Act} {w w1:World} {r:Root}
 {rec:ak→St→Option (Ex × St)} {env:Env}
theorem BO {gs:List ResultVar} {vs:List qw} {xs:List l9} (h:aI L σ T st a w) (hm:mX P gs vs=true) (hp:fJ st vs=some xs) :
  ∃ (us:List Value) (T':Tags),(gs.mapM (lu a.tmps)).run P w=.ok us w∧us.length=xs.length∧Still T T'∧(∀ b,w.heap.size≤b→T' b=.other)∧∀ (j:Nat) x u,xs[j]?=some x→us[j]?=some u→RKo T' w st.slots.length j x u:=by
 have gen:resultList st vs=some xs→∃ (us:List Value) (T':Tags),(gs.mapM (lu a.tmps)).run P w=.ok us w∧us.length=xs.length∧Still T T'∧(∀ b,w.heap.size≤b→T' b=.other)∧∀ (j:Nat) x u,xs[j]?=some x→us[j]?=some u→RKo T' w st.slots.length j x u:=fun hl=>by
  obtain ⟨us,T',k1,k2,k3,k4,k5,_⟩:=tK 0 h hm hl (Nat.le_refl _)
  exact ⟨us,T',k1,k2,k3,k4,fun j x u hx hu=>.inl (by simpa using k5 j x u hx hu)⟩
 unfold fJ at hp
 split at hp
 case h_3=>exact gen hp
 case h_2 =>
  rename_i t n
  split at hp
  case h_2=>cases hp
  rename_i p j hs
  split at hp
  case h_2=>cases hp
  rename_i bx h1
  split at hp
  ·cases hp
  ·rename_i hf
   simp only [Bool.or_eq_true,Bool.not_eq_true',decide_eq_false_iff_not,not_or,Bool.not_eq_true,Classical.not_not] at hf
   obtain ⟨cs,h2,rfl⟩:=dW hp
   obtain ⟨T0,hgs,hc⟩:∃ T0,gs=[.cell t T0]∧oC P T0=some (some n):=by
    match gs,hm with
    |[.tmp s],hm=>simp [mX,OB] at hm
    |[.cell s T0],hm=>simp [mX,OB] at hm;exact ⟨T0,by rw [hm.1],hm.2⟩
    |[],hm=>simp [mX] at hm
    |_ :: _ :: _,hm=>simp [mX] at hm
   subst hgs
   obtain ⟨u,T',r1,r2,r3,r4⟩:=OE (P:=P) (K:=st.slots.length) h hc hs h1 hf.1 hf.2 h2
   refine ⟨[u],T',?_,rfl,r2,r3,fun j x u' hx hu=>?_⟩
   ·simp only [List.mapM_cons,List.mapM_nil,Sem.run_bind,r1,Result.andThen_ok,Sem.run_pure]
   ·cases j with
    |zero =>
     simp only [List.getElem?_cons_zero,Option.some.injEq] at hx hu
     subst hx;subst hu;exact r4
    |succ j=>simp at hx
 rename_i t
 split at hp
 case h_2=>exact gen hp
 rename_i f caps hs
 obtain ⟨⟨p,fl⟩,h1,h2⟩:=dW hp
 subst h2
 have hmo:aY (.tmp t) (.t t)=true:=by simp [aY]
 have hg:st.get (.t t)=.fn f caps:=hs
 have hsn:st.jw (st.get (.t t))=some (p,fl):=by rw [hg];exact h1
 obtain ⟨k1,_,k3⟩:=h.Kr hmo hsn
 obtain ⟨T1,q1,q2,q3,q4⟩:=jV.args [.t t] (jV.refl T st) h (fun x hx=>by simp only [List.mem_singleton] at hx;subst hx;exact k1)
 have hgs:gs=[.tmp t]:=by
  match gs,hm with
  |[.tmp s],hm=>simp [mX,OB] at hm;rw [hm]
  |[.cell s T0],hm=>simp [mX,OB] at hm
  |[],hm=>simp [mX] at hm
  |_ :: _ :: _,hm=>simp [mX] at hm
 subst hgs
 refine ⟨[a.eval (.tmp t)],T1,by simp [lu,Act.eval],rfl,q3,q2.fresh,fun j x u hx hu=>?_⟩
 cases j with
 |zero =>
  simp only [List.getElem?_cons_zero,Option.some.injEq] at hx hu
  subst hx;subst hu
  exact .inl (RK.pv (k3 T1 q3 (q4 _ (by simp))))
 |succ j=>simp at hx
theorem OG {ok good:Nat→Prop} (hg:∀ b,dD w b→good b) {x:PV} {v:Value} (h:ay ok w x v):ay (fun b=>ok b∧good b) w x v:=by
 induction h with
 |int k n=>exact .int k n
 |bool b=>exact .bool b
 |str s=>exact .str s
 |su=>exact .su
 |void v h=>exact .void v h
 |nil sz a=>exact .nil sz a
 |kU sz a=>exact .kU sz a
 |list sz es b off c cv h1 h2 h3 h4 h6 h7 h8 ih=>exact .list sz es b off c cv ⟨h1,hg b h2⟩ h2 h3 h4 h6 h7 ih
 |agg cs arr h1 h2 h3 ih=>exact .agg cs arr h1 h2 ih
 |func f caps arr h1 h2 ih=>exact .func f caps arr h1 ih
 |dS cs j b off cv h1 h2 h3 h4 ih=>exact .dS cs j b off cv ⟨h1,hg b h2⟩ h2 h3 ih
def drop (T:Tags) (ms:List Nat):Tags:=fun b=>if b∈ms then .other else T b
theorem aI.drop (h:aI L σ T st a w) {ms:List Nat} (hms:∀ r∈ms,¬ dD w r) (hw:∀ b,b ∉ ms→w1.heap[b]?=w.heap[b]?) (hsz:w1.heap.size=w.heap.size):aI L σ (drop T ms) st a w1:=by
 have hg:∀ b,dD w b→b ∉ ms:=fun b hc hb=>hms b hb hc
 have hp:∀ {x v},ay (fun b=>T b=.ro) w x v→ay (fun b=>Go.Proofs.YtaaokejjmdbfaaaDoor.drop T ms b=.ro) w1 x v:=fun h =>
  (OG hg h).frame fun b hb _=>⟨by simp [Go.Proofs.YtaaokejjmdbfaaaDoor.drop,hb.1,hb.2],hw b hb.2⟩
 have hrow:∀ {r sz es v},aH T w r sz es v→aH (Go.Proofs.YtaaokejjmdbfaaaDoor.drop T ms) w1 r sz es v:=fun {r sz es v} h=>by
  rcases h with h|⟨b,c,arr,E,h1,h2,h3,h4,h5,h6,h7,h8⟩
  ·exact .inl h
  ·have hb:b ∉ ms:=hg b ⟨_,_,_,h3⟩
   refine .inr ⟨b,c,arr,E,h1,by simp [Go.Proofs.YtaaokejjmdbfaaaDoor.drop,hb,h2],(hw b hb).trans h3,h4,h5,h6,h7,fun i e j x hi hj=>?_⟩
   obtain ⟨u,k1,k2,k3⟩:=h8 i e j x hi hj
   exact ⟨u,k1,k2,hp k3⟩
 have hbox:∀ o,o<st.boxes.length→σ o ∉ ms:=fun o ho=>hg _ (h.boxes o _ (List.getElem?_eq_getElem ho)).Gs
 have J5:∀ r:Root,r.low st.boxes.length→hdr σ a w1 r=hdr σ a w r:=fun r hr=>by
  cases r with
  |slot t=>rfl
  |part t i=>rfl
  |cell o j=>exact World.cell?_of_block (w:=w) (a:=⟨σ o,j,none⟩) (hw _ (hbox o hr))
 refine ⟨h.size,fun t av v ht hv=>?_,fun o bx ho=>?_,fun b hb=>?_⟩
 ·have hA:=h.slots t av v ht hv
  cases av with
  |pv x=>exact hp hA
  |row sz es=>exact hrow hA
  |ref r off len=>exact ⟨hA.1,fun sz es hr=>by rw [J5 r hA.1];exact hA.2 sz es hr⟩
  |aQ o j=>exact hA
  |ny r i j=>exact ⟨hA.1,fun sz es hr=>by rw [J5 r hA.1];exact hA.2 sz es hr⟩
  |fn f caps =>
   obtain ⟨arr,e1,e2,e3⟩:=hA
   refine ⟨arr,e1,e2,fun k x u hx hu=>?_⟩
   have:=e3 k x u hx hu
   cases x with
   |pv p=>exact hp this
   |_=>exact this
  |jY k l =>
   obtain ⟨arr,e1,e2,e3⟩:=hA
   refine ⟨arr,e1,e2,fun k x u hx hu=>?_⟩
   have:=e3 k x u hx hu
   cases x with
   |pv p=>exact hp this
   |row sz es=>exact hrow this
   |_=>exact this
  |DN s l=>exact ⟨hp hA.1,hA.2⟩
  |oQ=>exact hA
  |any=>trivial
 ·have hb:=hbox o (List.getElem?_eq_some_iff.1 ho).1
  obtain ⟨arr,E,g1,g2,g3,g4,g5⟩:=h.boxes o bx ho
  refine ⟨arr,E,(hw _ hb).trans g1,g2,by simp only [Go.Proofs.YtaaokejjmdbfaaaDoor.drop,if_neg hb];exact g3,g4,fun j bv u hj hu=>?_⟩
  obtain ⟨k1,k2⟩:=g5 j bv u hj hu
  refine ⟨k1,?_⟩
  cases bv with
  |pv x=>exact hp k2
  |row sz es=>exact hrow k2
 ·unfold Go.Proofs.YtaaokejjmdbfaaaDoor.drop
  split
  ·rfl
  ·exact h.fresh b (by omega)
def outT (T:Tags) (K:Nat):Tags:=fun b=>match T b with
 |.ro=>.ro
 |.row (.part k i)=>if k=K then .row (.part 0 i) else .other
 |_=>.other
theorem iP.aaE {k:Nat} {x:AV} {v:Value} (h:iP T w K k x v):iP (outT T K) w 0 k x v:=by
 cases x with
 |pv p=>exact ay.frame (fun b e _=>⟨by simp [outT,e],rfl⟩) h
 |row sz es=>exact aH.frame (fun b e _=>⟨by simp [outT,e],rfl⟩) (fun b e _=>⟨by simp [outT,e],rfl⟩) h
 |any=>trivial
 |_=>exact h
theorem RK.aiI {i:Nat} {x:l9} {u:Value} (h:RK T w K i x u):R1 (outT T K) w i x u:=by
 have hp:∀ {x v},ay (fun b=>T b=.ro) w x v→ay (fun b=>outT T K b=.ro) w x v:=fun h=>h.frame fun b hb _=>⟨by simp [outT,hb],rfl⟩
 have hrow:∀ {sz es},aH T w (.part K i) sz es u→aH (outT T K) w (.part 0 i) sz es u:=fun h=>aH.frame (fun b e _=>⟨by simp [outT,e],rfl⟩) (fun b e _=>⟨by simp [outT,e],rfl⟩) h
 obtain ⟨v,own⟩:=x
 cases v<;>cases own<;>first|exact hrow h|exact hp h|exact False.elim h
theorem RK.out {i:Nat} {x:l9} {u:Value} (h:RKo T w K i x u):R1 (outT T K) w i x u:=by
 rcases h with h|⟨_,cs,rfl,arr,rfl,h1,h2⟩
 ·exact RK.aiI h
 ·exact ⟨arr,rfl,h1,fun k x v hx hv=>iP.aaE (h2 k x v hx hv)⟩
def dF (P:Program) (f:Nat) (fn:jv):Bool :=
 match P.funcs[f]? with
 |some g=>(match g.body with
  |some c=>mC P c fn.body
  |none=>false)&&g.name != "runtime.NumGoroutine"&&g.ntmps==fn.ntmps&&decide (fn.nargs≤fn.ntmps)&&mX P g.results.toList fn.results
 |none=>false
theorem rE {f:Nat} {fn:jv} (h:dF P f fn=true):callable P f=true∧∃ g c,P.funcs[f]?=some g∧g.body=some c∧mC P c fn.body=true∧g.ntmps=fn.ntmps∧fn.nargs≤fn.ntmps∧mX P g.results.toList fn.results=true:=by
 unfold dF at h
 split at h
 case h_2=>cases h
 rename_i g hf
 simp only [Bool.and_eq_true,beq_iff_eq,bne_iff_ne,decide_eq_true_eq] at h
 obtain ⟨⟨⟨⟨h1,h2⟩,h3⟩,h4⟩,h5⟩:=h
 split at h1
 case h_2=>cases h1
 rename_i c hb
 exact ⟨by simp [callable,hf,h2,hb],g,c,hf,hb,h1,h3,h4,h5⟩
def tV (T0:Tags) (w:World):Nat→Tags→World→Prop:=fun _ T w'=>Below w.heap.size w w'∧∀ b,b<w.heap.size→T b=T0 b
theorem zG {T0:Tags} (h0:∀ b,T0 b=.ro∨T0 b=.other) {k:Nat} {w w1 w2:World} (hc:uG T T' w1 w2) (h:tV T0 w k T w1):tV T0 w k T' w2:=by
 obtain ⟨h1,h2⟩:=h
 refine ⟨h1.trans ⟨hc.os,hc.tape,hc.output,hc.size,fun b hb=>hc.same b (Nat.lt_of_lt_of_le hb h1.size) ?_⟩,fun b hb=>?_⟩
 ·rw [h2 b hb];exact h0 b
 ·rcases h0 b with e|e
  ·rw [e];exact hc.ro b (by rw [h2 b hb,e])
  ·rw [e];exact hc.other b (Nat.lt_of_lt_of_le hb h1.size) (by rw [h2 b hb,e])
theorem KR {T0:Tags} {args:List PV} {vs:List Value} {n:Nat} (hf:∀ b,w.heap.size≤b→T0 b=.other) (hl:vs.length=args.length) (hr:∀ (i:Nat) x v,args[i]?=some x→vs[i]?=some v→ay (fun b=>T0 b=.ro) w x v) (ys:List (List PV)) (stop:Option (Option Nat)) :
  aI L σ T0 ⟨args.map .pv++List.replicate (n - args.length) .any,[],ys,stop⟩ { tmps:=vs.toArray++Array.replicate (n - vs.toArray.size) undef,defers:=[] } w:=by
 refine ⟨by simp [hl],fun t av v ht hv=>?_,fun o bx ho=>by simp at ho,hf⟩
 simp only at ht hv
 rcases Nat.lt_or_ge t args.length with h|h
 ·rw [List.getElem?_append_left (by simpa using h),List.getElem?_map,List.getElem?_eq_getElem h] at ht
  rw [Array.getElem?_append_left (by simpa [hl] using h)] at hv
  cases ht
  exact hr t _ v (List.getElem?_eq_getElem h) (by simpa using hv)
 ·rw [List.getElem?_append_right (by simpa using h),List.getElem?_replicate] at ht
  split at ht
  ·cases ht;trivial
  ·cases ht
theorem S9 (hR:oM P rec) {f:Nat} {fn:jv} {args:List PV} {rs:List l9} (hfn:dF P f fn=true) (hl:args.length=fn.nargs) {e:Ex} (he:∀ i,e≠.exit i) (he2:∀ t n,e≠.nK t n)
  (hb:rec fn.body ⟨args.map .pv++List.replicate (fn.ntmps - args.length) .any,[],[],none⟩=some (e,st)) (hrs:fJ st fn.results=some rs):oI P f args rs:=by
 intro T0 w vs h0 hf hlen hr hG
 obtain ⟨_,g,c,k1,k2,k3,k4,k5,k6⟩:=rE hfn
 refine (callsIn_wide (n:=0)).1 (callsIn_of_wp_marks k1 k2 trivial ?_)
 rw [k4]
 have G8:aI 0 (fun _=>0) T0 ⟨args.map .pv++List.replicate (fn.ntmps - args.length) .any,[],[],none⟩ { tmps:=vs.toArray++Array.replicate (fn.ntmps - vs.toArray.size) undef,defers:=[] } w:=KR hf hlen hr [] none
 have hC:Ctx.Ok ⟨st.ys,none,tV T0 w⟩ P 0:=⟨fun k T T' w1 w2 hc h=>zG (k:=k) h0 hc h,fun k T w1 h=>hG.frame fun b e hb=>⟨(h.2 b hb).trans e,h.1.block b hb⟩,fun s k T w ps vs hs=>by cases hs⟩
 have hJ:tV T0 w 0 T0 w:=⟨Below.refl _ _,fun _ _=>rfl⟩
 refine wpIn_mono (hR.wp (F:=Fence.wide) (L:=0) (C:=⟨st.ys,none,tV T0 w⟩) (n:=0) (.inl rfl) (Ctx.xJ _) hC c fn.body _ e st k3 hb rfl (List.prefix_refl _) _ T0 _ w G8 hJ) ?_
 rintro x a' w' ⟨rfl,σ',T',ms,q1,q2,q3,q4,q5,q6⟩
 obtain ⟨p1,p2⟩:=q2
 have key:LeavesInM Fence.wide 0 P g a'.tmps (fun e w'=>∃ v T',e=.returned v∧Below w.heap.size w w'∧(∀ b,b<w.heap.size→T' b=T0 b)∧(∀ b,w'.heap.size≤b→T' b=.other)∧qV T' w' rs v) a'.defers .returning w':=by
  rw [q5,List.append_nil]
  refine qj (B:=w.heap.size) q6.2 (fun r hr=>⟨(q6.1 r hr).1,(q6.1 r hr).2.2⟩) fun w2 e1 e2 e3 e4 e5=>?_
  have q1':=q1.drop (fun r hr ⟨arr,E,q,e⟩=>by rw [(q6.1 r hr).2.2] at e;cases e) e5 e4
  obtain ⟨us,T2,r1,r2,r3,r4,r5⟩:=BO q1' k6 hrs
  have hms:∀ b,b<w.heap.size→b ∉ ms:=fun b hb hm=>by have:=(q6.1 b hm).1;omega
  have hT2:∀ b,b<w.heap.size→T2 b=T0 b:=fun b hb=>by
   have e:drop T' ms b=T0 b:=by simp only [drop,if_neg (hms b hb)];exact p2 b hb
   rcases h0 b with e0|e0
   ·rw [e0];exact r3.ro b (by rw [e,e0])
   ·rw [e0];exact r3.other b (by rw [e,e0])
  refine ⟨_,tN r1,_,outT T2 st.slots.length,rfl,p1.trans ⟨e1,e2,e3,by omega,fun b hb=>e5 b (hms b hb)⟩,fun b hb=>?_,fun b hb=>?_,us.toArray,by simpa using r2,rfl,fun i x u hx hu=>RK.out (r5 i x u hx (by simpa using hu))⟩
  ·simp only [outT,hT2 b hb]
   rcases h0 b with e0|e0<;>rw [e0]
  ·simp only [outT,r4 b hb]
 cases e with
 |normal=>exact key
 |ret=>exact key
 |exit i=>exact absurd rfl (he i)
 |nK t n=>exact absurd rfl (he2 t n)
theorem Td {T0:Tags} {x:kC} {v:Value} {args:List PV} {vs:List Value} {n:Nat} (hf:∀ b,w.heap.size≤b→T0 b=.other) (hx:aat T0 w v x) (hl:vs.length=args.length) (hr:∀ (i:Nat) x v,args[i]?=some x→vs[i]?=some v→ay (fun b=>T0 b=.ro) w x v) :
  ∃ σ:Nat→Nat,aI 0 σ T0 ⟨x.av :: (args.map .pv++List.replicate (n - (args.length+1)) .any),x.boxes,[],none⟩ { tmps:=(v :: vs).toArray++Array.replicate (n - (v :: vs).toArray.size) undef,defers:=[] } w∧∀ b,v=.pointer (some ⟨b,0,none⟩)→(∃ cs,x=.box cs)→σ 0=b:=by
 obtain ⟨b0,hb0⟩:∃ b0,∀ cs,x=.box cs→v=.pointer (some ⟨b0,0,none⟩)∧iK T0 w b0 0 ⟨false,cs.map .pv⟩:=by
  cases x with
  |box cs=>obtain ⟨b,h1,h2⟩:=hx;exact ⟨b,fun cs' e=>by cases e;exact ⟨h1,h2⟩⟩
  |row sz es=>exact ⟨0,fun _ e=>by cases e⟩
  |own l=>exact ⟨0,fun _ e=>by cases e⟩
 refine ⟨fun _=>b0,⟨by simp [hl];omega,fun t av u ht hu=>?_,fun o bx ho=>?_,hf⟩,fun b hb ⟨cs,hcs⟩=>?_⟩
 ·cases t with
  |zero =>
   simp only [List.getElem?_cons_zero,Option.some.injEq] at ht
   have hu':u=v:=by
    have:((v :: vs).toArray++Array.replicate (n - (v :: vs).toArray.size) undef)[0]?=some v:=by rw [Array.getElem?_append_left (by simp)];rfl
    rw [this] at hu;exact (Option.some.inj hu).symm
   subst hu'
   subst ht
   cases x with
   |row sz es=>exact hx
   |own l=>obtain ⟨arr,h1,h2,h3⟩:=hx;exact ⟨arr,h1,h2,h3⟩
   |box cs=>exact ⟨by simp [kC.boxes],(hb0 cs rfl).1⟩
  |succ t =>
   rw [List.getElem?_cons_succ] at ht
   rcases Nat.lt_or_ge t args.length with h|h
   ·rw [List.getElem?_append_left (by simpa using h),List.getElem?_map,List.getElem?_eq_getElem h] at ht
    simp only at hu
    rw [Array.getElem?_append_left (by simp [hl];omega)] at hu
    cases ht
    exact hr t _ u (List.getElem?_eq_getElem h) (by simpa using hu)
   ·rw [List.getElem?_append_right (by simpa using h),List.getElem?_replicate] at ht
    split at ht
    ·cases ht;trivial
    ·cases ht
 ·cases x with
  |box cs =>
   cases o with
   |zero =>
    simp only [kC.boxes,List.getElem?_cons_zero,Option.some.injEq] at ho
    subst ho
    exact (hb0 cs rfl).2
   |succ o=>simp [kC.boxes] at ho
  |row sz es=>simp [kC.boxes] at ho
  |own l=>simp [kC.boxes] at ho
 ·have:=(hb0 cs hcs).1
  rw [this] at hb
  injection hb with hb
  injection hb with hb
  injection hb with hb
def WM (T0:Tags) (w:World):Nat→Tags→World→Prop:=fun _ T w'=>w.heap.size≤w'.heap.size∧w'.os=w.os∧w'.tape=w.tape∧w'.output=w.output∧∀ b,b<w.heap.size→(T0 b=.ro∨T0 b=.other)→w'.heap[b]?=w.heap[b]?∧T b=T0 b
theorem Tf {T0:Tags} {k:Nat} {w w1 w2:World} (hc:uG T T' w1 w2) (h:WM T0 w k T w1):WM T0 w k T' w2:=by
 obtain ⟨h1,h2,h3,h4,h5⟩:=h
 refine ⟨Nat.le_trans h1 hc.size,hc.os.trans h2,hc.tape.trans h3,hc.output.trans h4,fun b hb e=>?_⟩
 obtain ⟨k1,k2⟩:=h5 b hb e
 have hl:=Nat.lt_of_lt_of_le hb h1
 refine ⟨(hc.same b hl (by rw [k2];exact e)).trans k1,?_⟩
 rcases e with e|e
 ·rw [e];exact hc.ro b (by rw [k2,e])
 ·rw [e];exact hc.other b hl (by rw [k2,e])
theorem OH (hR:oM P rec) {f:Nat} {fn:jv} {x:kC} {args:List PV} {rs:List l9} {out:Option (List PV)} (hfn:dF P f fn=true) {e:Ex} (he:∀ i,e≠.exit i) (he2:∀ t n,e≠.nK t n)
  (hb:rec fn.body ⟨x.av :: (args.map .pv++List.replicate (fn.ntmps - (args.length+1)) .any),x.boxes,[],none⟩=some (e,st)) (hrs:iJ x st fn.results=some (rs,out)):QI P f x args rs out:=by
 intro T0 w v vs hf hx hlen hr hG
 obtain ⟨_,g,c,k1,k2,k3,k4,k5,k6⟩:=rE hfn
 refine (callsIn_wide (n:=0)).1 (callsIn_of_wp_marks k1 k2 trivial ?_)
 rw [k4]
 obtain ⟨σ0,G8,hσ0⟩:=Td (n:=fn.ntmps) hf hx hlen hr
 have hC:Ctx.Ok ⟨st.ys,none,WM T0 w⟩ P 0:=⟨fun k T T' w1 w2 hc h=>Tf (k:=k) hc h,fun k T w1 h=>hG.frame fun b e hb=>⟨by rw [(h.2.2.2.2 b hb (.inl e)).2,e],(h.2.2.2.2 b hb (.inl e)).1⟩,fun s k T w ps vs hs=>by cases hs⟩
 have hJ:WM T0 w 0 T0 w:=⟨Nat.le_refl _,rfl,rfl,rfl,fun _ _ _=>⟨rfl,rfl⟩⟩
 refine wpIn_mono (hR.wp (F:=Fence.wide) (L:=0) (C:=⟨st.ys,none,WM T0 w⟩) (n:=0) (.inl rfl) (Ctx.xJ _) hC c fn.body _ e st k3 hb rfl (List.prefix_refl _) _ T0 _ w G8 hJ) ?_
 rintro x' a' w' ⟨rfl,σ',T',ms,q1,q2,q3,q4,q5,q6⟩
 obtain ⟨p1,p2,p3,p4,p5⟩:=q2
 have key:LeavesInM Fence.wide 0 P g a'.tmps (fun e w'=>∃ u T',e=.returned u∧w.heap.size≤w'.heap.size∧w'.os=w.os∧w'.tape=w.tape∧w'.output=w.output∧(∀ b,b<w.heap.size→(T0 b=.ro∨T0 b=.other)→w'.heap[b]?=w.heap[b]?∧T' b=T0 b)∧(∀ b,w'.heap.size≤b→T' b=.other)∧qV T' w' rs u∧V6 T' w' v out) a'.defers .returning w':=by
  rw [q5,List.append_nil]
  refine qj (B:=w.heap.size) q6.2 (fun r hr=>⟨(q6.1 r hr).1,(q6.1 r hr).2.2⟩) fun w2 e1 e2 e3 e4 e5=>?_
  have q1':=q1.drop (fun r hr ⟨arr,E,q,e⟩=>by rw [(q6.1 r hr).2.2] at e;cases e) e5 e4
  have hms:∀ b,b<w.heap.size→b ∉ ms:=fun b hb hm=>by have:=(q6.1 b hm).1;omega
  -- what the results leave of the tags
  have fin:∀ (T1 T2:Tags) (K:Nat),Still (Go.Proofs.YtaaokejjmdbfaaaDoor.drop T' ms) T1→Still T1 T2→∀ b,b<w.heap.size→(T0 b=.ro∨T0 b=.other)→w2.heap[b]?=w.heap[b]?∧outT T2 K b=T0 b:=fun T1 T2 K s1 s2 b hb e=>by
   obtain ⟨y1,y2⟩:=p5 b hb e
   refine ⟨(e5 b (hms b hb)).trans y1,?_⟩
   have ed:Go.Proofs.YtaaokejjmdbfaaaDoor.drop T' ms b=T0 b:=by simp only [Go.Proofs.YtaaokejjmdbfaaaDoor.drop,if_neg (hms b hb)];exact y2
   rcases e with e|e
   ·simp only [outT,s2.ro b (s1.ro b (by rw [ed,e])),e]
   ·simp only [outT,s2.other b (s1.other b (by rw [ed,e])),e]
  have plain:(∀ cs,x≠.box cs)→fJ st fn.results=some rs→out=none→∃ u T',(results g a'.tmps).run P w2=.ok u w2∧(∀ b,b<w.heap.size→(T0 b=.ro∨T0 b=.other)→w2.heap[b]?=w.heap[b]?∧T' b=T0 b)∧(∀ b,w2.heap.size≤b→T' b=.other)∧qV T' w2 rs u∧V6 T' w2 v out:=fun _ h1 h2=>by
   obtain ⟨us,T2,r1,r2,r3,r4,r5⟩:=BO q1' k6 h1
   refine ⟨_,outT T2 st.slots.length,tN r1,fin _ T2 _ (Still.refl _) r3,fun b hb=>by simp only [outT,r4 b hb],⟨us.toArray,by simpa using r2,rfl,fun i x u hx hu=>RK.out (r5 i x u hx (by simpa using hu))⟩,by rw [h2];trivial⟩
  have pack:∀ (u:Value) (T2:Tags),(∀ b,b<w.heap.size→(T0 b=.ro∨T0 b=.other)→w2.heap[b]?=w.heap[b]?∧T2 b=T0 b)→(∀ b,w2.heap.size≤b→T2 b=.other)→qV T2 w2 rs u→V6 T2 w2 v out→∃ u' T',Ending.returned u=.returned u'∧w.heap.size≤w2.heap.size∧w2.os=w.os∧w2.tape=w.tape∧w2.output=w.output∧(∀ b,b<w.heap.size→(T0 b=.ro∨T0 b=.other)→w2.heap[b]?=w.heap[b]?∧T' b=T0 b)∧(∀ b,w2.heap.size≤b→T' b=.other)∧qV T' w2 rs u'∧V6 T' w2 v out:=fun u T2 s1 s2 s3 s4 =>
   ⟨u,T2,rfl,by omega,e1.trans p2,e2.trans p3,e3.trans p4,s1,s2,s3,s4⟩
  unfold iJ at hrs
  cases x with
  |row sz es =>
   obtain ⟨l,h1,h2⟩:=dW hrs
   cases h2
   obtain ⟨u,T2,s0,s1,s2,s3,s4⟩:=plain (fun _ e=>by cases e) h1 rfl
   exact ⟨u,s0,pack u T2 s1 s2 s3 s4⟩
  |own lo =>
   obtain ⟨l,h1,h2⟩:=dW hrs
   cases h2
   obtain ⟨u,T2,s0,s1,s2,s3,s4⟩:=plain (fun _ e=>by cases e) h1 rfl
   exact ⟨u,s0,pack u T2 s1 s2 s3 s4⟩
  |box cs =>
   simp only at hrs
   split at hrs
   case h_2=>cases hrs
   rename_i bx hbx
   split at hrs
   ·cases hrs
   rename_i hfz
   have hfz:bx.fz=false:=by simpa using hfz
   obtain ⟨l,h1,h2⟩:=dW hrs
   cases h2
   obtain ⟨T1,t1,t2,_,_,_⟩:=q1'.o9 0
   obtain ⟨us,T2,r1,r2,r3,r4,r5,_,r7⟩:=tK 0 t1 k6 h1 (Nat.le_refl _)
   have hσ:σ' 0=σ0 0:=q3 0 (by simp [kC.boxes])
   obtain ⟨arr,E,g1,g2,g3,g4,g5⟩:=t1.boxes 0 bx hbx
   have hT1:T1 (σ' 0)=.box 0:=by rw [g3];simp [hfz]
   have hrow:∀ (j s:Nat) (l:List PV),bx.cs[j]?≠some (BV.row s l):=fun j s l e=>by
    unfold St.bf at hbx
    cases h0:st.boxes[0]? with
    |none=>rw [h0] at hbx;simp only at hbx;rw [h0] at hbx;cases hbx
    |some b0 =>
     rw [h0] at hbx
     have hl0:0<st.boxes.length:=(List.getElem?_eq_some_iff.1 h0).1
     simp only [List.getElem?_set_self hl0,Option.some.injEq] at hbx
     rw [← hbx] at e
     obtain ⟨x,_,hx⟩:=lV e
     cases hx
   refine ⟨_,tN r1,pack _ (outT T2 (st.bf 0).slots.length) (fin T1 T2 _ t2 r3) (fun b hb=>by simp only [outT,r4 b hb]) ⟨us.toArray,by simpa using r2,rfl,fun i x u hx hu=>RK.out (.inl (by simpa using r5 i x u hx (by simpa using hu)))⟩ fun b hv=>?_⟩
   have hb0:σ' 0=b:=hσ.trans (hσ0 b hv ⟨cs,rfl⟩)
   rw [hb0] at g1 hT1
   refine ⟨by simp only [outT,r7 b 0 hT1],arr,E,g1,by simpa using g2,fun j x u hx hu=>?_⟩
   rw [List.getElem?_map] at hx
   cases hc:bx.cs[j]? with
   |none=>rw [hc] at hx;cases hx
   |some bv =>
    rw [hc] at hx
    have hx:=Option.some.inj hx
    subst hx
    obtain ⟨y1,y2⟩:=g5 j bv u hc hu
    refine ⟨y1,?_⟩
    cases bv with
    |pv p=>exact ay.frame (fun b hb _=>⟨by simp only [outT,r3.ro b hb],rfl⟩) y2
    |row s l=>exact absurd hc (hrow j s l)
 cases e with
 |normal=>exact key
 |ret=>exact key
 |exit i=>exact absurd rfl (he i)
 |nK t n=>exact absurd rfl (he2 t n)
end
end Go.Proofs.YtaaokejjmdbfaaaDoor

namespace Go.Proofs.YtaaokejjmdbfaaaDoor
open Go.RowKit
def zval:PV→Value
 |.int k n=>.int k n
 |.bool b=>.bool b
 |_=>.slice none 0 0
def He:List Nat→List (List PV)→World→World
 |b :: bs,z :: zs,w=>He bs zs (w.setRow b (z.map zval).toArray)
 |_,_,w=>w
section
variable {P:Program} {L K nb n:Nat} {F:Fence} {σ σ':Nat→Nat} {T T' T1 T2:Tags} {st st' st1:St} {a a1:Act} {w w1:World} {r:Root} {o:Oper} {bU:Array Oper} {Q:Exit→Act→World→Prop}
 {rec:ak→St→Option (Ex × St)} {env:Env}
theorem tX {fn:Func} {tmps:Array Value} {R:Ending→World→Prop} {B:Nat} {ds:List Deferred} {u:FrameMode} (hu:u≠.run):∀ {ms:List Nat} {w:World},ms.Nodup→(∀ r∈ms,B≤r∧w.heap[r]?=some (.deferred (some []))) →
  (∀ w',w'.os=w.os→w'.tape=w.tape→w'.output=w.output→w'.heap.size=w.heap.size→(∀ b,b ∉ ms→w'.heap[b]?=w.heap[b]?)→LeavesInM Fence.wide 0 P fn tmps R ds u w') →
  LeavesInM Fence.wide 0 P fn tmps R (ms.map jK++ds) u w
 |[],w,_,_,h=>h w rfl rfl rfl rfl fun _ _=>rfl
 |r :: ms,w,hnd,hms,h=>by
  simp only [List.map_cons,List.cons_append,LeavesInM]
  obtain ⟨hn1,hn2⟩:=List.nodup_cons.1 hnd
  obtain ⟨k1,k2⟩:=hms r (by simp)
  have hput:∀ b,b≠r→(w.putObj r (.deferred none)).heap[b]?=w.heap[b]?:=fun b hb=>by simp [World.putObj,Array.getElem?_setIfInBounds,Ne.symm hb]
  refine ⟨hu,.inl ⟨r,_,rfl,run_takeDeferred k2,tX hu (B:=B) hn2 (fun r' hr'=>?_) fun w' e1 e2 e3 e4 e5=>h w' e1 e2 e3 (by rw [e4];simp [World.putObj]) fun b hb=>?_⟩⟩
  ·obtain ⟨q1,q2⟩:=hms r' (by simp [hr'])
   exact ⟨q1,by rw [hput r' (fun e=>hn1 (e ▸ hr'))];exact q2⟩
  ·simp only [List.mem_cons,not_or] at hb
   rw [e5 b hb.2,hput b hb.1]
theorem OI {ok:Nat→Prop} {x:PV} (h:x.Vu=true):ay ok w x (zval x)∧(zval x).oneCell'=true:=by
 cases x with
 |int k n=>exact ⟨.int _ _,rfl⟩
 |bool b=>exact ⟨.bool _,rfl⟩
 |list sz l=>cases l with
  |nil=>exact ⟨.nil _ _,rfl⟩
  |cons _ _=>cases h
 |kU sz=>exact ⟨.kU _ _,rfl⟩
 |_=>cases h
theorem aI.setVar (h:aI L σ T st a w) {p:Nat} {vals:List PV} (hp:st.setVar p vals=some st'):(∃ arr E,w.heap[σ p]?=some (.cells arr E (0,0))∧arr.size=vals.length)∧aI L σ T st' a (w.setRow (σ p) (vals.map zval).toArray) ∧
  uG T T w (w.setRow (σ p) (vals.map zval).toArray)∧T (σ p)=.box p:=by
 unfold St.setVar at hp
 split at hp
 case h_2=>cases hp
 rename_i bx hb
 split at hp
 ·cases hp
 rename_i hc
 simp only [Bool.or_eq_true,Bool.not_eq_true',decide_eq_false_iff_not,not_or,Bool.not_eq_true,Classical.not_not,Bool.not_eq_false] at hc
 obtain ⟨⟨c1,c2⟩,c3⟩:=hc
 cases Option.some.inj hp
 obtain ⟨arr,E,g1,g2,g3,g4,g5⟩:=h.boxes p bx hb
 have:=h.Bl (T':=T) (cs':=vals.map .pv) (arr':=(vals.map zval).toArray) id hb c1 g1 (by simp [c2]) (by simp [g2,c2]) (fun k bv u hk hu=>by
  rw [List.getElem?_map] at hk
  cases hx:vals[k]? with
  |none=>rw [hx] at hk;cases hk
  |some x =>
   rw [hx] at hk
   cases hk
   rw [List.getElem?_toArray,List.getElem?_map,hx] at hu
   cases hu
   obtain ⟨q1,q2⟩:=OI (w:=w.setRow (σ p) (vals.map zval).toArray) (ok:=fun b=>T b=.ro) (List.all_eq_true.1 c3 x (List.mem_of_getElem? hx))
   exact ⟨q2,q1⟩) (fun x=>.inr ⟨rfl,fun k _ s l hk=>by
  rw [List.getElem?_map] at hk
  cases hx:vals[k]? with
  |none=>rw [hx] at hk;cases hk
  |some x=>rw [hx] at hk;cases hk⟩) (fun _ e=>e) (fun _ _ e=>e) (fun _ e=>e) (fun _ _ _ _ _ e=>e) (fun _ _ _ _ _ e=>e) (fun _ _ _ _ e=>e)
 rw [List.map_id] at this
 exact ⟨⟨arr,E,g1,by omega⟩,this.1,this.2,by rw [g3,c1];rfl⟩
theorem aI.nN:∀ {os:List Nat} {zs:List (List PV)} {st:St} {w:World},aI L σ T st a w→St.nN os zs st=some st'→aI L σ T st' a (He (os.map σ) zs w)∧uG T T w (He (os.map σ) zs w)
 |[],[],st,w,h,hp=>by
  simp only [St.nN,Option.some.injEq] at hp
  subst hp
  exact ⟨h,uG.refl T w⟩
 |[],_ :: _,st,w,_,h=>by simp [St.nN] at h
 |_ :: _,[],st,w,_,h=>by simp [St.nN] at h
 |o :: os,z :: zs,st,w,hs,h=>by
  simp only [St.nN] at h
  obtain ⟨s1,h1,h2⟩:=bind_some h
  obtain ⟨_,g1,g2,_⟩:=hs.setVar h1
  obtain ⟨k1,k2⟩:=aI.nN g1 h2
  exact ⟨k1,g2.trans k2⟩
theorem aI.AP (h:aI L σ T st a w) {p:Nat} {m:Int} (hp:st.AP p=some m):(∃ E,w.heap[σ p]?=some (.cells #[.int .i64 m] E (0,0)))∧T (σ p)=.box p:=by
 unfold St.AP at hp
 split at hp
 case h_2=>cases hp
 rename_i m' hb
 cases Option.some.inj hp
 obtain ⟨arr,E,g1,g2,g3,g4,g5⟩:=h.boxes p _ hb
 refine ⟨⟨E,?_⟩,g3⟩
 match arr,g2 with
 |⟨[u]⟩,_ =>
  have:=(g5 0 _ u rfl rfl).2
  rw [ay.bV this] at g1
  exact g1
theorem WO (hR:oM P rec) {f:Nat} {fn:jv} {args:List PV} {t:Nat} {m:Int} (hfn:dF P f fn=true) (hl:args.length=fn.nargs)
  (hb:rec fn.body ⟨args.map .pv++List.replicate (fn.ntmps - args.length) .any,[],[],none⟩=some (.nK t m,st)):QH P f args t m:=by
 intro T0 w vs h0 hf hlen hr hG
 obtain ⟨_,g,c,k1,k2,k3,k4,k5,k6⟩:=rE hfn
 refine (callsIn_wide (n:=0)).1 (callsIn_of_wp_marks k1 k2 trivial ?_)
 rw [k4]
 have G8:aI 0 (fun _=>0) T0 ⟨args.map .pv++List.replicate (fn.ntmps - args.length) .any,[],[],none⟩ { tmps:=vs.toArray++Array.replicate (fn.ntmps - vs.toArray.size) undef,defers:=[] } w:=KR hf hlen hr [] none
 have hC:Ctx.Ok ⟨st.ys,none,tV T0 w⟩ P 0:=⟨fun k T T' w1 w2 hc h=>zG (k:=k) h0 hc h,fun k T w1 h=>hG.frame fun b e hb=>⟨(h.2 b hb).trans e,h.1.block b hb⟩,fun s k T w ps vs hs=>by cases hs⟩
 have hJ:tV T0 w 0 T0 w:=⟨Below.refl _ _,fun _ _=>rfl⟩
 refine wpIn_mono (hR.wp (F:=Fence.wide) (L:=0) (C:=⟨st.ys,none,tV T0 w⟩) (n:=0) (.inl rfl) (Ctx.xJ _) hC c fn.body _ _ st k3 hb rfl (List.prefix_refl _) _ T0 _ w G8 hJ) ?_
 rintro x a' w' ⟨rfl,σ',T',ms,q1,q2,q3,q4,q5,q6⟩
 obtain ⟨p1,p2⟩:=q2
 simp only [toX,bodyPostM]
 rw [q5]
 refine tX (B:=w.heap.size) (by simp) q6.2 (fun r hr=>⟨(q6.1 r hr).1,(q6.1 r hr).2.2⟩) fun w2 e1 e2 e3 e4 e5=>?_
 have hms:∀ b,b<w.heap.size→b ∉ ms:=fun b hb hm=>by have:=(q6.1 b hm).1;omega
 exact ⟨rfl,p1.trans ⟨e1,e2,e3,by omega,fun b hb=>e5 b (hms b hb)⟩⟩
end
end Go.Proofs.YtaaokejjmdbfaaaDoor

namespace Go.Proofs.YtaaokejjmdbfaaaDoor
open Go.RowKit
def xM (P:Program) (env:Env):Prop:=∀ f d,env f=some d→match d with
 |.code fn=>dF P f fn=true
 |.ext g=>∀ args rs,g args=some rs→callable P f=true∧oI P f args rs
 |.Gg h=>callable P f=true∧Oh P f h
 |.nK h=>(∀ args,h args=some none→callable P f=true∧oI P f args [])∧∀ args t n,h args=some (some (t,n))→callable P f=true∧QH P f args t n
 |.dfn _=>False
section
variable {P:Program} {L K:Nat} {σ σ':Nat→Nat} {T T' T1 T2:Tags} {st st' st1:St} {a a1:Act} {w w1:World} {r:Root}
 {rec:ak→St→Option (Ex × St)} {env:Env}
theorem KT (hR:oM P rec) (hE:xM P env):fE P rec env:=by
 refine ⟨?_,(fun f h e=>hE f _ e),?_,?_⟩
 rotate_left
 ·intro f x args rs out h
  unfold kG at h
  split at h
  ·rename_i fn hfn
   have hok:dF P f fn=true:=hE f _ hfn
   split at h
   case isFalse=>cases h
   replace h:=bind_some h
   obtain ⟨⟨e,st⟩,h1,h⟩:=h
   simp only at h
   refine ⟨(rE hok).1,?_⟩
   split at h
   ·cases h
   ·cases h
   ·rename_i hne hne2
    exact OH hR hok (fun i e=>hne i e) (fun t n e=>hne2 t n e) h1 h
  ·cases h
 ·intro f args t n h
  unfold wV at h
  split at h
  ·rename_i g hg
   exact (hE f _ hg).2 args t n h
  ·rename_i fn hfn
   have hok:dF P f fn=true:=hE f _ hfn
   split at h
   case isFalse=>cases h
   rename_i hl
   obtain ⟨⟨e,st⟩,h1,h⟩:=bind_some h
   refine ⟨(rE hok).1,?_⟩
   cases e with
   |nK t' n' =>
    simp only [Option.some.injEq,Prod.mk.injEq] at h
    obtain ⟨rfl,rfl⟩:=h
    exact WO hR hok hl.1 h1
   |_=>cases h
  ·cases h
 intro f args rs h
 unfold gJ at h
 split at h
 ·rename_i g hg
  exact hE f _ hg args rs h
 ·rename_i fn hfn
  have hok:dF P f fn=true:=hE f _ hfn
  split at h
  case isFalse=>cases h
  rename_i hl
  replace h:=bind_some h
  obtain ⟨⟨e,st⟩,h1,h⟩:=h
  simp only at h
  refine ⟨(rE hok).1,?_⟩
  split at h
  ·cases h
  ·cases h
  ·rename_i hne hne2
   exact S9 hR hok hl (fun i e=>hne i e) (fun t n e=>hne2 t n e) h1 h
 ·cases h
 ·rename_i g hg
  obtain ⟨r,h1,h⟩:=bind_some h
  cases r with
  |some p=>cases h
  |none=>cases Option.some.inj h;exact (hE f _ hg).1 args h1
 ·rename_i fn hfn
  exact (show False from hE f _ hfn).elim
 ·cases h
theorem WQ (hE:xM P env):xK P env:=fun f fn hfn=>by
 have hok:dF P f fn=true:=hE f _ hfn
 obtain ⟨k0,g,c,k1,k2,k3,k4,k5,k6⟩:=rE hok
 refine ⟨k0,g,c,k1,k2,k3,k4,k5,fun he=>?_⟩
 have:fn.results=[]:=by simpa using he
 rw [this] at k6
 have:g.results.toList=[]:=by
  match h:g.results.toList,k6 with
  |[],_=>rfl
  |_ :: _,k6=>simp [mX] at k6
 exact Array.toList_eq_nil_iff.1 this
theorem WR (hE:xM P env):∀ n,oM P (vm env n)
 |0=>⟨(fun _ _ _ _ _ _ h=>by simp [vm] at h),(fun _ _ _ _ _ _ _ _ h=>by simp [vm] at h),(fun _ _ _ _ _ _ _ _ _ h=>by simp [vm] at h),(fun _ _ _ _ _ _ _ _ _ _ _ h=>by simp [vm] at h)⟩
 |n+1=>step_ok (WR hE n) (WQ hE) (KT (WR hE n) hE)
theorem ER (hE:xM P env) {n f:Nat} {args:List PV} {rs:List l9} (h:NK env n f args=some rs):callable P f=true∧oI P f args rs:=(KT (WR hE n) hE).1 f args rs h
end
end Go.Proofs.YtaaokejjmdbfaaaDoor
