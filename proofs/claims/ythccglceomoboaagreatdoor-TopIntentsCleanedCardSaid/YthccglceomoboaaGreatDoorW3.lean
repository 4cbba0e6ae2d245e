/-
  Part 3 of the texts that the statement stands on.
-/
import Derived.Test.YthccglceomoboaaGreatDoorW2
import Derived.RangeFuncNested
import Derived.RangeFuncRecord
import Derived.RangeFuncIn
import Derived.RangeFuncLeaves
import Derived.Scope
set_option linter.all false
open Option renaming some → ZD, map_some → Zak, map_eq_some_iff → Zar, bind_eq_some_iff → ZaJ, isSome_iff_exists → Za5, getD_some → ZbH, map_eq_bind → Zcf
open Bool renaming and_eq_true → ZS, false_eq_true → zm, not_eq_true' → ZaM, or_eq_true → Zbb, not_eq_true → ZbA
open List renaming getElem?_eq_getElem → ZZ, getElem?_eq_some_iff → Z1, getElem?_map → zd, length_nil → ze, length_append → zp, all_eq_true → zw, mem_of_getElem? → zz, getElem?_append_right → zP, getElem?_append_left → zR, getElem?_take → Zad, replicate → Zae, drop_eq_getElem_cons → Zah, append_assoc → Zan, mem_singleton → Zao, map_cons → Zat, getElem?_cons_zero → Zau, map_nil → Zav, append_nil → ZaE, mem_cons → ZaI, size_toArray → ZaN, getElem?_cons_succ → ZaO, take_append_drop → ZaQ, drop_of_length_le → ZaS, getElem?_eq_none → ZaY, take_left' → Zbc, takeWhile_append_dropWhile → Zbh, isEmpty_eq_false_iff → Zbm, drop_left' → Zbn, cons_append → Zbp, mem_filterMap → ZbB, mem_cons_of_mem → ZbC, getElem?_replicate → ZbF, prefix_refl → ZbU, exists_mem_of_ne_nil → Zb9, mapM_cons → Zck, nodup_cons → ZcE, nodup_nil → Zdi, takeWhile_prefix → Zdj, dropWhile_suffix → Zdk, all_takeWhile → ZdA
open Nat renaming le_refl → zg, le_trans → Zaa, lt_of_lt_of_le → Zab, lt_or_ge → ZaP, le_max_right → ZdI
open Array renaming getElem?_eq_getElem → zj, getElem?_eq_some_iff → zt, getD_eq_getD_getElem? → ZaA, getElem?_setIfInBounds → Za3, replicate → Za7, getElem?_append_left → Zbf, getElem?_eq_none → ZbJ, getElem?_replicate → ZcZ, append_assoc → ZdC
open Prod renaming mk → ZaB
open Classical renaming choose_spec → ZbN, not_not → Zcm, choose → Zc0
open Function renaming comp_def → Zcn
namespace Go.Proofs.YthccglceomoboaaGreatDoor
open Go.RowKit
section
variable {F:Fence}{n:Nat}{P:Program}{ops:Array Oper}{Q:Act→World→Prop}{f:Nat}
theorem fB {S S' S2 S2':World→Prop}(hS:∀ w,S' w→S w)(hS2:∀ w,S2' w→S2 w):∀ (m:Nat) (l:Array Bool) (a:Act) (w:World),iH F n P ops S' S2' f Q m l a w→iH F n P ops S S2 f Q m l a w
 |0,_,_,_,h=>h
 |m+1,_,_,_,h=>⟨h.1,fun i hi=>wpOpIn_mono (fun a' w' h'=>⟨⟨h'.1.1.imp id (hS w'),hS2 w' h'.1.2⟩,fB hS hS2 m _ a' w' h'.2⟩) (h.2 i hi)⟩
abbrev Fin1:=Option (List Nat×List Nat×Nat×List (List Nat×Nat))
def jT (ops:Array Oper):Fin1→Nat
 |none=>ops.size
 |some (_,_,f,_)=>f
def Oc (ops:Array Oper)(i:Nat)(seg:List Nat):List Nat:=seg.takeWhile (Bf ops ops.size i)
def QY (ops:Array Oper)(i:Nat)(seg:List Nat):List Nat:=seg.dropWhile (Bf ops ops.size i)
def Di (ops:Array Oper)(f:Nat)(last:List Nat):List (List Nat×Nat)→Array Bool→Bool
 |[],l=>last.all (fun i=>f != i)&&match cO ops last l with
  |some l2=>(Region.ready .any ops l2).isEmpty
  |none=>false
 |(seg,i)::more,l=>seg.all (fun j=>f != j&&i != j)&&f != i&&match cO ops (Oc ops i seg) l with
  |some l0=>match cO ops (QY ops i seg) l0 with
   |some l1=>(Region.ready .any ops l1==[i])&&Di ops f last more (l1.setIfInBounds i true)
   |none=>false
  |none=>false
def gu (last:List Nat):List (List Nat×Nat)→Nat
 |[]=>last.length
 |(seg,_)::more=>gu last more+1+seg.length
def qH (ops:Array Oper)(fin:Fin1)(i:Nat):Bool:=match fin with
 |none=>true
 |some (_,_,f,_)=>Bf ops ops.size f i
def lU (ops:Array Oper)(fin:Fin1)(seg:List Nat):List Nat:=seg.takeWhile (qH ops fin)
def lq (ops:Array Oper)(fin:Fin1)(seg:List Nat):List Nat:=seg.dropWhile (qH ops fin)
def Oe (ops:Array Oper)(fin:Fin1)(seg:List Nat):Bool:=(match fin with
 |none=>seg.all (fun i=>i<ops.size)
 |some (_,_,f,_)=>seg.all (fun i=>f != i))
def KP (ops:Array Oper):List (List Nat×Nat)→Fin1→List Nat→Array Bool→Bool
 |[],none,last,l=>last.all (fun i=>i<ops.size)&&match cO ops last l with
  |some l1=>(Region.ready .any ops l1).isEmpty
  |none=>false
 |[],some (dW,dX,f,tl),last,l=>dW.all (fun i=>f != i&&Bf ops ops.size f i)&&dX.all (fun i=>f != i)&&match cO ops dW l with
  |some l0=>match cO ops dX l0 with
   |some l1=>(Region.ready .any ops l1==[f])&&Di ops f last tl (l1.setIfInBounds f true)
   |none=>false
  |none=>false
 |(seg,i)::more,fin,last,l=>Oe ops fin seg&&match cO ops (lU ops fin seg) l with
  |some l0=>match cO ops (lq ops fin seg) l0 with
   |some l1=>(Region.ready .any ops l1==[i])&&KP ops more fin last (l1.setIfInBounds i true)
   |none=>false
  |none=>false
def iW:List (List Nat×Nat)→Fin1→List Nat→Nat
 |[],none,last=>last.length
 |[],some (dW,dX,_,tl),last=>gu last tl+1+dX.length+dW.length
 |(seg,_)::more,fin,last=>iW more fin last+1+seg.length
def U9 (ops:Array Oper)(acts:List (List Nat×Nat))(fin:Fin1)(last:List Nat):Bool :=
 Region.noSelect ops&&(iW acts fin last==ops.size)&&KP ops acts fin last (Za7 ops.size false)
def oQ (F:Fence)(n:Nat)(P:Program)(ops:Array Oper)(Q:Act→World→Prop)(last:List Nat):(World→Prop)→List (List Nat×Nat)→Act→World→Prop
 |S2,[],a,w=>∃ S3:World→Prop,(∀ w,S3 w→S2 w)∧S3 w∧wpQuiet P ops S3 (fun a3=>Q a3 w) (pick ops last) a
 |S2,(seg,i)::more,a,w=>wpQuiet P ops (Whole w) (fun a0=>∃ S3:World→Prop,(∀ w,S3 w→S2 w)∧S3 w∧wpQuiet P ops S3 (fun a'=>wpListIn F n P ops (fun e a'' w''=>e=.normal∧S3 w''∧oQ F n P ops Q last S3 more a'' w'') (pick ops [i]) a' w) (pick ops (QY ops i seg)) a0) (pick ops (Oc ops i seg)) a
def rG (F:Fence)(n:Nat)(P:Program)(ops:Array Oper)(Q:Act→World→Prop):(World→Prop)→(World→Prop)→List (List Nat×Nat)→Fin1→List Nat→Act→World→Prop
 |S,_,[],none,last,a,w=>wpQuiet P ops S (fun a'=>Q a' w) (pick ops last) a
 |S,S2,[],some (dW,dX,f,tl),last,a,w=>wpQuiet P ops S (fun a0=>∃ S3:World→Prop,(∀ w,S3 w→S2 w)∧S3 w∧wpQuiet P ops S3 (fun a'=>wpListIn F n P ops (fun e a'' w''=>e=.normal∧S3 w''∧oQ F n P ops Q last S3 tl a'' w'') (pick ops [f]) a' w) (pick ops dX) a0) (pick ops dW) a
 |S,S2,(seg,i)::more,fin,last,a,w=>wpQuiet P ops S (fun a0=>∃ S3:World→Prop,(∀ w,S3 w→S2 w)∧S3 w∧wpQuiet P ops S3 (fun a'=>wpListIn F n P ops (fun e a'' w''=>e=.normal∧∃ S':World→Prop,(∀ w,S' w→S w)∧S' w''∧S3 w''∧rG F n P ops Q S' S3 more fin last a'' w'') (pick ops [i]) a' w) (pick ops (lq ops fin seg)) a0) (pick ops (lU ops fin seg)) a
theorem mg:∀ (seg:List Nat) (l l':Array Bool),l.size=ops.size→cO ops seg l=some l'→l.getD f false=true→l'.getD f false=true
 |[],l,l',_,h,hf=>by simp only [cO,ZD.injEq] at h;subst h;exact hf
 |i::is,l,l',hs,h,hf=>by
  unfold cO at h
  split at h
  case isFalse=>cases h
  rename_i hc
  simp only [ZS] at hc
  have hr:i∈Region.ready .any ops l:=by simpa using hc.2
  refine mg is _ l' (by simpa using hs) h ?_
  rw [iU _ _ _ (iE hs hr)]
  split
  ·rfl
  ·exact hf
theorem rX {S S' S2:World→Prop}{g:Nat}:∀ (m:Nat) (l:Array Bool) (a:Act) (w:World),l.size=ops.size→l.getD g false=true→iH F n P ops S' S2 f Q m l a w→iH F n P ops S S2 g Q m l a w
 |0,_,_,_,_,_,h=>h
 |m+1,l,a,w,hs,hg,h=>⟨h.1,fun i hi=>wpOpIn_mono (fun a' w' h'=>by
   have hg':(l.setIfInBounds i true).getD g false=true:=by
    rw [iU _ _ _ (iE hs hi)]
    split
    ·rfl
    ·exact hg
   exact ⟨⟨.inl hg',h'.1.2⟩,rX m _ _ _ (by simpa using hs) hg' h'.2⟩) (h.2 i hi)⟩
theorem aqc (i:Nat)(seg:List Nat):(QY ops i seg).length+(Oc ops i seg).length=seg.length:=by
 have:=congrArg List.length (Zbh (p:=Bf ops ops.size i) (l:=seg))
 rw [zp] at this
 unfold Oc QY;omega
theorem yZ {S:World→Prop}(hF:∀ f,F.fn f)(hnd:jG ops=true)(hsel:Region.noSelect ops=true){last:List Nat}:∀ (tl:List (List Nat×Nat)) (S2:World→Prop) (l:Array Bool) (a:Act) (w:World),l.size=ops.size→Closed ops l→l.getD f false=true→S2 w→Di ops f last tl l=true →
  oQ F n P ops Q last S2 tl a w→iH F n P ops S S2 f Q (gu last tl) l a w
 |[],S2,l,a,w,hs,hc,hf,h2,hB,h=>by
  unfold Di at hB
  simp only [ZS] at hB
  obtain ⟨hl,hB⟩:=hB
  split at hB
  case h_2=>cases hB
  rename_i l2 hq2
  unfold oQ at h
  obtain ⟨S3,hS3,hw3,h⟩:=h
  refine fB (S':=S) (S2':=S3) (fun _ h=>h) hS3 _ _ _ _ ?_
  have h3:=fA (F:=F) (n:=n) (P:=P) (S:=S) (Q:=Q) (f:=f) hF hnd hsel (S2:=S3) (T:=S3) (w:=w) last 0 l l2 a hs hc ⟨.inl hf,hw3⟩
   (fun i hi=>⟨by have:=zw.1 hl i hi;simpa using this,fun _ _ _ _ _ _ h=>h.2⟩) hq2 (fun _ _ _=>trivial) (dJ (fun a3 h3 _ _ _=>⟨by simpa using hB,h3⟩) _ _ h)
  simpa [gu] using h3
 |(seg,i)::more,S2,l,a,w,hs,hc,hf,h2,hB,h=>by
  unfold Di at hB
  simp only [ZS,bne_iff_ne] at hB
  obtain ⟨⟨hl,hfi⟩,hB⟩:=hB
  have hlA:∀ j∈Oc ops i seg,j∈seg:=fun j hj=>(Zdj (Bf ops ops.size i)).subset hj
  have hlB:∀ j∈QY ops i seg,j∈seg:=fun j hj=>(Zdk (Bf ops ops.size i)).subset hj
  have hne:∀ j∈seg,f≠j∧i≠j:=fun j hj=>by have:=zw.1 hl j hj;simpa using this
  split at hB
  case h_2=>cases hB
  rename_i l0 hq0
  split at hB
  case h_2=>cases hB
  rename_i l1 hq1
  simp only [ZS,beq_iff_eq] at hB
  obtain ⟨hr,hB⟩:=hB
  unfold oQ at h
  have h3:=fA (F:=F) (n:=n) (P:=P) (S:=Whole w) (Q:=Q) (f:=i) (S2:=S2) hF hnd hsel (T:=Whole w) (w:=w) (Oc ops i seg) (gu last more+1+(QY ops i seg).length) l l0 a hs hc ⟨.inr (Whole.refl w),h2⟩ (fun j hj=>by
   have hd:Bf ops ops.size i j=true:=zw.1 (ZdA (p:=Bf ops ops.size i) (l:=seg)) j hj
   refine ⟨(hne j (hlA j hj)).2,fun l _ hc hu _ w hS=>hS.1.resolve_left fun hf=>?_⟩
   rw [hc.dep _ _ _ hf hd] at hu;cases hu) hq0 (fun _ _ _=>trivial) (dJ (fun a0 h0 hs0 hc0 hS0=>by
    obtain ⟨S3,hS3,hw3,h0⟩:=h0
    refine fB (S':=Whole w) (S2':=S3) (fun _ h=>h) hS3 _ _ _ _ ?_
    refine fA (F:=F) (n:=n) (P:=P) (S:=Whole w) (Q:=Q) (f:=i) (S2:=S3) hF hnd hsel (T:=S3) (w:=w) (QY ops i seg) (gu last more+1) l0 l1 a0 hs0 hc0 ⟨hS0.1,hw3⟩ (fun j hj=>⟨(hne j (hlB j hj)).2,fun _ _ _ _ _ _ h=>h.2⟩) hq1 (fun _ _ _=>trivial) (dJ (fun a' h' hs1 hc1 _=>by
     refine ⟨fun h0=>(by rw [hr] at h0;cases h0),fun j hj=>?_⟩
     have hj':=hj
     rw [hr] at hj
     obtain rfl:j=i:=by simpa using hj
     have hf0:=mg _ l l0 hs hq0 hf
     have hf1:=mg _ l0 l1 hs0 hq1 hf0
     have hg1:(l1.setIfInBounds j true).getD j false=true:=by rw [iU _ _ _ (iE hs1 hj'),if_pos rfl]
     have hf2:(l1.setIfInBounds j true).getD f false=true:=by
      rw [iU _ _ _ (iE hs1 hj')]
      split
      ·rfl
      ·exact hf1
     exact yN hF (fun a2 w2 h3=>⟨⟨.inl hg1,h3.1⟩,rX (S':=S) _ _ _ _ (by simpa using hs1) hg1 (yZ hF hnd hsel more S3 _ _ _ (by simpa using hs1) (hc1.set hs1 hj') hf2 h3.1 hB h3.2)⟩) h') _ _ h0)) _ _ h)
  have e:=aqc (ops:=ops) i seg
  simp only [gu]
  rw [show gu last more+1+seg.length=gu last more+1+(QY ops i seg).length+(Oc ops i seg).length by omega]
  exact rX _ _ _ _ hs hf h3
theorem RJ {S S2:World→Prop}{fin:Fin1}{seg:List Nat}(h:Oe ops fin seg=true):∀ i∈lU ops fin seg,jT ops fin≠i∧∀ l:Array Bool,l.size=ops.size→Closed ops l→l.getD i false=false→(∀ j,l.getD j false=true∨True)→∀ w,((l.getD (jT ops fin) false=true∨S w)∧S2 w)→S w:=fun i hi=>by
 have hd:qH ops fin i=true:=zw.1 (ZdA (p:=qH ops fin) (l:=seg)) i hi
 have hm:i∈seg:=(Zdj (qH ops fin)).subset hi
 cases fin with
 |none =>
  have:=zw.1 h i hm
  simp only [decide_eq_true_eq] at this
  refine ⟨by simp only [jT];omega,fun l hs hc hu _ w hS=>hS.1.resolve_left fun hf=>?_⟩
  simp only [jT] at hf
  rw [ZaA,ZbJ (by omega)] at hf;cases hf
 |some p =>
  have:=zw.1 h i hm
  simp only [bne_iff_ne] at this
  refine ⟨this,fun l _ hc hu _ w hS=>hS.1.resolve_left fun hf=>?_⟩
  rw [hc.dep _ _ _ hf hd] at hu;cases hu
theorem RN {S S2:World→Prop}{fin:Fin1}{seg:List Nat}(h:Oe ops fin seg=true):∀ i∈lq ops fin seg,jT ops fin≠i∧∀ l:Array Bool,l.size=ops.size→Closed ops l→l.getD i false=false→(∀ j,l.getD j false=true∨True)→∀ w,((l.getD (jT ops fin) false=true∨S w)∧S2 w)→S2 w:=fun i hi=>by
 have hm:i∈seg:=(Zdk (qH ops fin)).subset hi
 refine ⟨?_,fun l _ _ _ _ w hS=>hS.2⟩
 cases fin with
 |none =>
  have:=zw.1 h i hm
  simp only [decide_eq_true_eq] at this
  simp only [jT];omega
 |some p =>
  have:=zw.1 h i hm
  simp only [bne_iff_ne] at this
  exact this
theorem ai1 (fin:Fin1)(seg:List Nat):(lq ops fin seg).length+(lU ops fin seg).length=seg.length:=by
 have:=congrArg List.length (Zbh (p:=qH ops fin) (l:=seg))
 rw [zp] at this
 unfold lU lq;omega
theorem Bz (hF:∀ f,F.fn f)(hnd:jG ops=true)(hsel:Region.noSelect ops=true){fin:Fin1}{last:List Nat}:∀ (acts:List (List Nat×Nat)) (S S2:World→Prop) (l:Array Bool) (a:Act) (w:World),l.size=ops.size→Closed ops l→KP ops acts fin last l=true→S w→S2 w →
  rG F n P ops Q S S2 acts fin last a w→iH F n P ops S S2 (jT ops fin) Q (iW acts fin last) l a w
 |[],S,S2,l,a,w,hs,hc,hB,hS,hS2,h=>by
  cases fin with
  |none =>
   unfold KP at hB
   simp only [ZS] at hB
   obtain ⟨hl,hB⟩:=hB
   split at hB
   case h_2=>cases hB
   rename_i l1 hq1
   unfold rG at h
   have:=fA (F:=F) (n:=n) (P:=P) (S:=S) (Q:=Q) (f:=ops.size) (S2:=S2) hF hnd hsel (T:=S) (w:=w) last 0 l l1 a hs hc ⟨.inr hS,hS2⟩ (fun i hi=>by
    have:=zw.1 hl i hi
    simp only [decide_eq_true_eq] at this
    refine ⟨by omega,fun l hs hc hu _ w hS=>hS.1.resolve_left fun hf=>?_⟩
    rw [ZaA,ZbJ (by omega)] at hf;cases hf) hq1 (fun _ _ _=>trivial) (dJ (fun a' h' _ _ _=>⟨by simpa using hB,h'⟩) _ _ h)
   simpa [iW,jT] using this
  |some p =>
   obtain ⟨dW,dX,f,tl⟩:=p
   unfold KP at hB
   simp only [ZS] at hB
   obtain ⟨⟨hsg,hsu⟩,hB⟩:=hB
   split at hB
   case h_2=>cases hB
   rename_i l0 hq0
   split at hB
   case h_2=>cases hB
   rename_i l1 hq1
   simp only [ZS,beq_iff_eq] at hB
   obtain ⟨hr,hB⟩:=hB
   unfold rG at h
   have:=fA (F:=F) (n:=n) (P:=P) (S:=S) (Q:=Q) (f:=f) (S2:=S2) hF hnd hsel (T:=S) (w:=w) dW (gu last tl+1+dX.length) l l0 a hs hc ⟨.inr hS,hS2⟩ (fun i hi=>by
    have:=zw.1 hsg i hi
    simp only [ZS,bne_iff_ne] at this
    refine ⟨this.1,fun l _ hc hu _ w hS=>hS.1.resolve_left fun hf=>?_⟩
    rw [hc.dep _ _ _ hf this.2] at hu;cases hu) hq0 (fun _ _ _=>trivial) (dJ (fun a0 h0 hs0 hc0 hS0=>by
     obtain ⟨S3,hS3,hw3,h0⟩:=h0
     refine fB (S':=S) (S2':=S3) (fun _ h=>h) hS3 _ _ _ _ ?_
     refine fA (F:=F) (n:=n) (P:=P) (S:=S) (Q:=Q) (f:=f) (S2:=S3) hF hnd hsel (T:=S3) (w:=w) dX (gu last tl+1) l0 l1 a0 hs0 hc0 ⟨hS0.1,hw3⟩ (fun i hi=>by
      have:=zw.1 hsu i hi
      simp only [bne_iff_ne] at this
      exact ⟨this,fun _ _ _ _ _ _ h=>h.2⟩) hq1 (fun _ _ _=>trivial) (dJ (fun a' h' hs1 hc1 _=>by
       refine ⟨fun h0=>(by rw [hr] at h0;cases h0),fun j hj=>?_⟩
       have hj':=hj
       rw [hr] at hj
       obtain rfl:j=f:=by simpa using hj
       have hf1:(l1.setIfInBounds j true).getD j false=true:=by rw [iU _ _ _ (iE hs1 hj'),if_pos rfl]
       exact yN hF (fun a2 w2 h3=>⟨⟨.inl hf1,h3.1⟩,yZ hF hnd hsel tl S3 _ _ _ (by simpa using hs1) (hc1.set hs1 hj') hf1 h3.1 hB h3.2⟩) h') _ _ h0)) _ _ h)
   simpa [iW,jT] using this
 |(seg,i)::more,S,S2,l,a,w,hs,hc,hB,hS,hS2,h=>by
  unfold KP at hB
  simp only [ZS] at hB
  obtain ⟨hsg,hB⟩:=hB
  split at hB
  case h_2=>cases hB
  rename_i l0 hq0
  split at hB
  case h_2=>cases hB
  rename_i l1 hq1
  simp only [ZS,beq_iff_eq] at hB
  obtain ⟨hr,hB⟩:=hB
  unfold rG at h
  have:=fA (F:=F) (n:=n) (P:=P) (S:=S) (Q:=Q) (f:=jT ops fin) (S2:=S2) hF hnd hsel (T:=S) (w:=w) (lU ops fin seg) (iW more fin last+1+(lq ops fin seg).length) l l0 a hs hc ⟨.inr hS,hS2⟩ (RJ hsg) hq0 (fun _ _ _=>trivial) (dJ (fun a0 h0 hs0 hc0 hS0=>by
    obtain ⟨S3,hS3,hw3,h0⟩:=h0
    refine fB (S':=S) (S2':=S3) (fun _ h=>h) hS3 _ _ _ _ ?_
    refine fA (F:=F) (n:=n) (P:=P) (S:=S) (Q:=Q) (f:=jT ops fin) (S2:=S3) hF hnd hsel (T:=S3) (w:=w) (lq ops fin seg) (iW more fin last+1) l0 l1 a0 hs0 hc0 ⟨hS0.1,hw3⟩ (RN hsg) hq1 (fun _ _ _=>trivial) (dJ (fun a' h' hs1 hc1 _=>by
     refine ⟨fun h0=>(by rw [hr] at h0;cases h0),fun j hj=>?_⟩
     have hj':=hj
     rw [hr] at hj
     obtain rfl:j=i:=by simpa using hj
     refine yN hF (fun a2 w2 h2=>?_) h'
     obtain ⟨S',k1,k2,k3,k4⟩:=h2
     exact ⟨⟨.inr (k1 _ k2),k3⟩,fB k1 (fun _ h=>h) _ _ _ _ (Bz hF hnd hsel more S' S3 _ _ _ (by simpa using hs1) (hc1.set hs1 hj') hB k2 k3 k4)⟩) _ _ h0)) _ _ h)
  have e:=ai1 (ops:=ops) fin seg
  simp only [iW]
  rw [show iW more fin last+1+seg.length=iW more fin last+1+(lq ops fin seg).length+(lU ops fin seg).length by omega]
  exact this
theorem DU {id:Nat}{l:Array Oper}{a:Act}{w:World}{Q:Exit→Act→World→Prop}(S:World→Prop){acts:List (List Nat×Nat)}{fin:Fin1}{last:List Nat}(hF:∀ f,F.fn f)(hm:P.follows .mixedOrders=true)
  (hnd:jG l=true) (hB:U9 l acts fin last=true) (hS:S w.drew) (h:rG F n P l (Q .normal) S (fun _=>True) acts fin last a w.drew):(Code.region id l true).wpIn F n P Q a w:=by
 simp only [U9,ZS,beq_iff_eq] at hB
 obtain ⟨⟨hsel,hn⟩,hB⟩:=hB
 refine Code.wpIn_mono (Q:=dI (Q .normal)) (fun e a w h=>by obtain ⟨rfl,h⟩:=h;exact h) (wpIn_region_any hm ?_)
 have:=yY _ _ _ _ (Bz hF hnd hsel acts S (fun _=>True) (Za7 l.size false) a _ (by simp) (fun m o hm=>absurd hm (by rw [ZaA,ZcZ];split<;>simp)) hB hS trivial h)
 rw [hn] at this
 exact this
end
def core:gQ→gQ
 |.grd _ _ v=>v
 |v=>v
def ES:gQ→Bool
 |.ah ..|.ay ..|.un ..|.pick ..|.bin ..|.conv ..|.mn ..|.aj ..|.vH ..|.bG ..|.fld ..|.idx ..|.len ..|.lens ..|.QX ..|.ext ..|.Hz ..|.UW ..|.Wp ..|.eqm ..=>true
 |_=>false
def zV (v:gQ):Bool:=ES v || match v with
 |.Nl ..=>true
 |_=>false
def zW:gQ→Bool
 |.build ..|.Q8 ..=>true
 |_=>false
def lu:Bool→List gQ→Bool
 |_,[]=>true
 |ok,v::vs=>(ES (core v)&&lu ok vs) || (zW (core v)&&lu false vs) || (ok&&zV (core v)&&lu ok vs)
def uH (P:Program)(bT:Array Oper)(seg:List Nat)(vs:List gQ):Bool:=mL P bT (pick bT seg) vs&&vs.all fun v=>!lY (core v)
def zX (P:Program)(bT:Array Oper)(last:List Nat):List (List Nat×Nat)→List gQ→Bool
 |[],vs=>mL P bT (pick bT last) vs&&lu true vs
 |(seg,i)::more,vs=>uH P bT (Oc bT i seg) (vs.take (Oc bT i seg).length)&&mL P bT (pick bT (QY bT i seg)) ((vs.drop (Oc bT i seg).length).take (QY bT i seg).length)&&lu true ((vs.drop (Oc bT i seg).length).take (QY bT i seg).length)&&match (vs.drop (Oc bT i seg).length).drop (QY bT i seg).length with
  |v::vs=>mL P bT (pick bT [i]) [v]&&zX P bT last more vs
  |[]=>false
def y7 (P:Program)(bT:Array Oper)(fin:Fin1)(last:List Nat):List (List Nat×Nat)→List gQ→Bool
 |[],vs=>match fin with
  |none=>uH P bT last vs
  |some (dW,dX,f,tl)=>uH P bT dW (vs.take dW.length)&&mL P bT (pick bT dX) ((vs.drop dW.length).take dX.length)&&lu true ((vs.drop dW.length).take dX.length)&&match (vs.drop dW.length).drop dX.length with
   |v::vs=>mL P bT (pick bT [f]) [v]&&zX P bT last tl vs
   |[]=>false
 |(seg,i)::more,vs=>uH P bT (lU bT fin seg) (vs.take (lU bT fin seg).length)&&mL P bT (pick bT (lq bT fin seg)) ((vs.drop (lU bT fin seg).length).take (lq bT fin seg).length)&&lu true ((vs.drop (lU bT fin seg).length).take (lq bT fin seg).length)&&match (vs.drop (lU bT fin seg).length).drop (lq bT fin seg).length with
  |v::vs=>mL P bT (pick bT [i]) [v]&&Ob v&&y7 P bT fin last more vs
  |[]=>false
section
variable {P:Program}{F:Fence}{C:Ctx}{n L nb:Nat}{σ σ':Nat→Nat}{T T' T1 T2:Tags}{st st' st1:St}{a a1:Act}{w w1:World}{o:Oper}{vo:gQ}{y:Operand}{x:bF}{d:Nat}
 {rec:au→St→Option (Ex×St)} {env:Env} {next:Act→World→Prop} {Q:Exit→Act→World→Prop} {bT:Array Oper} {ds:List Deferred} {e:Ex}
theorem Dj (h:aH L σ T st a w)(hm:mG P bT o vo=true)(hp:op rec env vo st=some st') :
  (Region.wanted o (yielded bT a.tmps)=true∧m1 P o (core vo)=true∧op1 rec env (core vo) st=some st')∨(Region.wanted o (yielded bT a.tmps)=false∧aH L σ T st' (a.put o.dst undef) w):=by
 by_cases hg:∃ g want v,vo=.grd g want v
 ·obtain ⟨g,want,v,rfl⟩:=hg
  rcases Jg h hm hp with g|⟨g1,g2,_⟩
  ·exact .inl g
  ·exact .inr ⟨g1,g2⟩
 ·have hm':o.guard.isNone=true∧m1 P o vo=true:=by
   cases vo<;>first|exact Bool.and_eq_true_iff.1 hm|exact absurd ⟨_,_,_,rfl⟩ hg
  have hp':op1 rec env vo st=some st':=by
   cases vo<;>first|exact hp|exact absurd ⟨_,_,_,rfl⟩ hg
  have hw:Region.wanted o (yielded bT a.tmps)=true:=by
   simp only [Region.wanted,Option.isNone_iff_eq_none.1 hm'.1]
  have hc:core vo=vo:=by
   cases vo<;>first|rfl|exact absurd ⟨_,_,_,rfl⟩ hg
  rw [hc]
  exact .inl ⟨hw,hm'.2,hp'⟩
theorem ET (h:aH L σ T st a w)(hm:m1 P o vo=true)(hq:ES vo=true)(hp:plain vo st=some st'):qy P L σ T st' a w o:=by
 simp only [m1,ZS,beq_iff_eq] at hm
 obtain ⟨hd,hm⟩:=hm
 cases vo<;>simp only [ES,zm] at hq<;>simp only [mv] at hm
 case ah d x =>
  split at hm<;>try (cases hm;done)
  rename_i ho;exact zJ h hd (.inl ho) hm false hp
 case ay d x =>
  split at hm<;>try (cases hm;done)
  ·rename_i ho;exact zJ h hd (.inr ho) hm true hp
  ·rename_i ho;exact zJ h hd (.inl ho) hm true hp
 case pick d c x x2 =>
  split at hm<;>try (cases hm;done)
  rename_i ho
  simp only [ZS] at hm
  exact IV h hd ho hm.1.1 hm.1.2 hm.2 hp
 case bin d b x x2 =>
  split at hm<;>try (cases hm;done)
  rename_i ho
  simp only [ZS,beq_iff_eq] at hm
  obtain ⟨⟨rfl,h1⟩,h2⟩:=hm
  exact Ny h hd ho h1 h2 hp
 case un d b x =>
  split at hm<;>try (cases hm;done)
  rename_i ho
  simp only [ZS,beq_iff_eq] at hm
  obtain ⟨rfl,h1⟩:=hm
  exact U2 h hd ho h1 hp
 case conv d k x =>
  split at hm<;>try (cases hm;done)
  rename_i ho
  simp only [ZS] at hm
  exact IW h hd ho hm.1.1 (NW hm.1.2) (Ja hm.2) hp
 case mn d mx x x2 =>
  split at hm<;>try (cases hm;done)
  rename_i b y y2 T0 T1 ho
  simp only [ZS,beq_iff_eq] at hm
  obtain ⟨⟨rfl,h1⟩,h2⟩:=hm
  exact U3 h hd (zQ ho) h1 h2 hp
 case aj d x off =>
  split at hm
  case h_3=>cases hm
  case h_2 =>
   rename_i ho
   simp only [ZS,beq_iff_eq] at hm
   obtain ⟨h1,rfl⟩:=hm
   exact ND h hd ho h1 hp
  rename_i ho
  simp only [ZS] at hm
  obtain ⟨h1,h2⟩:=hm
  split at h2<;>try (cases h2;done)
  rename_i fd hf
  simp only [ZS,beq_iff_eq] at h2
  obtain ⟨rfl,h3⟩:=h2
  split at h3<;>try (cases h3;done)
  rename_i k hk
  exact IZ h hd ho h1 hf hk hp
 case vH d x x2 len sz =>
  split at hm<;>try (cases hm;done)
  rename_i ho
  simp only [ZS] at hm
  obtain ⟨⟨h1,h2⟩,h3⟩:=hm
  split at h3<;>try (cases h3;done)
  rename_i l e he
  simp only [ZS,beq_iff_eq] at h3
  obtain ⟨rfl,h4⟩:=h3
  exact I4 h hd ho h1 h2 he h4 hp
 case bG d sz x x2 =>
  split at hm<;>try (cases hm;done)
  rename_i ho
  simp only [ZS] at hm
  obtain ⟨⟨h1,h2⟩,h3⟩:=hm
  split at h3<;>try (cases h3;done)
  rename_i e he
  exact I5 h hd ho h1 h2 he (beq_iff_eq.1 h3) hp
 case fld d x off n=>cases hm
 case idx d x x2 len sz n =>
  split at hm<;>try (cases hm;done)
  rename_i ho
  simp only [ZS] at hm
  obtain ⟨⟨h1,h2⟩,h3⟩:=hm
  split at h3<;>try (cases h3;done)
  rename_i l e he
  simp only [ZS,beq_iff_eq] at h3
  obtain ⟨⟨rfl,h4⟩,h5⟩:=h3
  exact NG h hd ho h1 h2 he h4 h5 hp
 case len d x =>
  split at hm<;>try (cases hm;done)
  rename_i b y T0 ho
  simp only [ZS,beq_iff_eq] at hm
  obtain ⟨⟨rfl,h1⟩,h2⟩:=hm
  obtain ⟨e,he⟩:=Za5.1 h2
  exact NH h hd (NY ho) h1 he hp
 case lens d x=>cases hm
 case QX d neg x =>
  split at hm<;>try (cases hm;done)
  rename_i ho
  simp only [ZS,beq_iff_eq] at hm
  obtain ⟨⟨h1,h2⟩,h3⟩:=hm
  obtain ⟨e,he⟩:=Za5.1 h3
  exact NI h hd ho h1 h2 he hp
 case ext d x i =>
  split at hm<;>try (cases hm;done)
  rename_i ho
  simp only [ZS,beq_iff_eq] at hm
  obtain ⟨h1,rfl⟩:=hm
  exact NJ h hd ho h1 hp
 case Hz d sz x lo hi =>
  split at hm<;>try (cases hm;done)
  rename_i ho
  simp only [ZS] at hm
  obtain ⟨⟨⟨h1,h2⟩,h3⟩,h4⟩:=hm
  split at h4<;>try (cases h4;done)
  rename_i e he
  exact NM h hd ho h1 h2 h3 he (beq_iff_eq.1 h4) hp
 case UW d neg n x x2 =>
  split at hm<;>try (cases hm;done)
  rename_i ho
  simp only [ZS,beq_iff_eq] at hm
  obtain ⟨⟨⟨⟨h1,h2⟩,h3⟩,h4⟩,h5⟩:=hm
  exact Nv h hd ho h1 h2 h3 h4 h5 hp
 case Wp d neg x x2 =>
  split at hm<;>try (cases hm;done)
  rename_i ho
  simp only [ZS,beq_iff_eq] at hm
  obtain ⟨⟨⟨h1,h2⟩,h3⟩,h4⟩:=hm
  exact Nw h hd ho h1 h2 h3 (EH h4) hp
 case eqm d neg ks x x2=>cases hm
theorem Og (h:aH L σ T st a w)(hm:m1 P o vo=true)(hq:zW vo=true)(hp:plain vo st=some st'):U0 P L σ T st' a w o:=by
 simp only [m1,ZS,beq_iff_eq] at hm
 obtain ⟨hd,hm⟩:=hm
 cases vo<;>simp only [zW,zm] at hq<;>simp only [mv] at hm
 case build d z m =>
  split at hm<;>try (cases hm;done)
  rename_i T0 l ho
  simp only [ZS] at hm
  obtain ⟨⟨h1,h2⟩,h3⟩:=hm
  exact Ew h hd (l:=l.toList) (by simpa using ho) h1 h2 (Dc h3) hp
 case Q8 d z parts off t=>cases hm
def RP (S:World→Prop)(P:Program)(L:Nat)(σ:Nat→Nat)(T:Tags)(st':St)(a:Act)(w:World)(o:Oper):Prop :=
 ∃ v T',(∀ w',S w'→(execOp a.eval o).run P w'=.ok (.value v) w')∧aH L σ T' st' (a.put o.dst v) w∧Still T T'
theorem EU:∀ {l:List gQ} {st st':St},(∀ v∈l,lY (core v)=false)→ops rec env l st=some st'→aO st st'
 |[],st,st',_,h=>by simp only [ops,ZD.injEq] at h;subst h;exact aO.refl _
 |v::l,st,st',hl,h=>by
  simp only [ops] at h
  obtain ⟨st1,h1,h2⟩:=bind_some h
  refine aO.trans ?_ (EU (fun u hu=>hl u (by simp [hu])) h2)
  have hv:=hl v (by simp)
  unfold op at h1
  split at h1
  ·simp only [core] at hv
   split at h1
   ·split at h1
    ·simp only [op1,hv] at h1;exact uF h1
    ·split at h1
     ·rw [← ZD.inj h1];exact (aO.refl _).put _ _
     ·rw [← ZD.inj h1];exact aO.refl _
   ·split at h1
    ·split at h1
     ·rw [← ZD.inj h1];exact (aO.refl _).put _ _
     ·rw [← ZD.inj h1];exact aO.refl _
    ·cases h1
   ·cases h1
  ·rename_i v' hne
   have hc:core v=v:=by
    unfold core;split
    ·exact (hne _ _ _ rfl).elim
    ·rfl
   rw [hc] at hv
   simp only [op1,hv] at h1;exact uF h1
theorem BA {S:World→Prop}{vs0:List gQ}{K:Act→Prop}{I:St→Prop}(hI:∀ v∈vs0,∀ s1 s2,op rec env v s1=some s2→I s1→I s2)(hlook:∀ T1 st1 st2 a1 o v,I st1→Still T T1→lY (core v)=false→aH L σ T1 st1 a1 w→m1 P o (core v)=true→v∈vs0→plain (core v) st1=some st2→RP S P L σ T1 st2 a1 w o) :
  ∀ {l:List Oper} {vs:List gQ} {st:St} {T1:Tags} {a:Act},(∀ v∈vs,v∈vs0∧lY (core v)=false)→I st→Still T T1→aH L σ T1 st a w→mL P bT l vs=true→ops rec env vs st=some st' →
  (∀ a' T',aH L σ T' st' a' w→Still T T'→a'.defers=a.defers→K a')→wpQuiet P bT S K l a
 |[],[],st,T1,a,_,_,ht,h,_,hp,hK=>by
  simp only [ops,ZD.injEq] at hp;subst hp
  exact hK _ _ h ht rfl
 |[],_::_,_,_,_,_,_,_,_,hm,_,_=>by simp [mL] at hm
 |_::_,[],_,_,_,_,_,_,_,hm,_,_=>by simp [mL] at hm
 |o::l,v::vs,st,T1,a,hvs,hi,ht,h,hm,hp,hK=>by
  simp only [mL,ZS] at hm
  simp only [ops] at hp
  obtain ⟨st1,h1,h2⟩:=bind_some hp
  obtain ⟨hin,hact⟩:=hvs v (by simp)
  unfold wpQuiet
  rcases Dj h hm.1 h1 with ⟨g1,g2,g3⟩|⟨g1,g2⟩
  ·rw [if_pos g1]
   simp only [op1,hact] at g3
   obtain ⟨u,T2,k1,k2,k3⟩:=hlook T1 st st1 a o v hi ht hact h g2 hin g3
   refine ⟨u,fun w' hw'=>?_,BA hI hlook (fun v hv=>hvs v (by simp [hv])) (hI v hin _ _ h1 hi) (ht.trans k3) k2 hm.2 h2 fun a' T' q1 q2 q3=>hK a' T' q1 q2 (q3.trans put_defers)⟩
   unfold Oper.quietAt
   rw [k1 w' hw']
   exact ⟨rfl,rfl⟩
  ·rw [if_neg (by rw [g1];simp)]
   exact BA hI hlook (fun v hv=>hvs v (by simp [hv])) (hI v hin _ _ h1 hi) ht g2 hm.2 h2 fun a' T' q1 q2 q3=>hK a' T' q1 q2 (q3.trans put_defers)
theorem aal {S:World→Prop}{vs0:List gQ}{K:Act→Prop}(hlook:∀ T1 st1 st2 a1 o v,Still T T1→lY (core v)=false→aH L σ T1 st1 a1 w→m1 P o (core v)=true→v∈vs0→plain (core v) st1=some st2→RP S P L σ T1 st2 a1 w o) :
  ∀ {l:List Oper} {vs:List gQ} {st:St} {T1:Tags} {a:Act},(∀ v∈vs,v∈vs0∧lY (core v)=false)→Still T T1→aH L σ T1 st a w→mL P bT l vs=true→ops rec env vs st=some st' →
  (∀ a' T',aH L σ T' st' a' w→Still T T'→a'.defers=a.defers→K a')→wpQuiet P bT S K l a:=fun hvs ht h hm hp hK =>
 BA (I:=fun _=>True) (fun _ _ _ _ _ _=>trivial) (fun T1 st1 st2 a1 o v _=>hlook T1 st1 st2 a1 o v) hvs trivial ht h hm hp hK
theorem Oh (h:aH L σ T st a w)(hm:m1 P o vo=true)(hp:plain vo st=some st'):RP (Whole w) P L σ T st' a w o:=by
 obtain ⟨v,T',h1,h2,h3⟩:=Df h hm hp
 exact ⟨v,T',fun w' hw=>h1 w' hw.sees,h2,h3⟩
theorem eF {l1 l2:List gQ}{st st':St}(h:ops rec env (l1++l2) st=some st'):∃ st1,ops rec env l1 st=some st1∧ops rec env l2 st1=some st':=by
 induction l1 generalizing st with
 |nil=>exact ⟨st,rfl,h⟩
 |cons v l ih =>
  simp only [Zbp,ops] at h ⊢
  obtain ⟨st1,h1,h2⟩:=bind_some h
  obtain ⟨st2,h3,h4⟩:=ih h2
  exact ⟨st2,by rw [h1];exact h3,h4⟩
end
section
variable {P:Program}{F:Fence}{C:Ctx}{n L nb:Nat}{σ σ':Nat→Nat}{T T' T1 T2:Tags}{st st' st1:St}{a a1:Act}{w w1:World}{o:Oper}{vo:gQ}{y:Operand}{x:bF}{d:Nat}
 {rec:au→St→Option (Ex×St)} {env:Env} {next:Act→World→Prop} {Q:Act→World→Prop} {bT:Array Oper} {ds:List Deferred} {e:Ex}
theorem aH.kC:∀ (fz:List bF) {st:St} {T:Tags},aH L σ T st a w→∃ T1,aH L σ T1 (fz.foldl St.iF st) a w∧Still T T1
 |[],st,T,h=>⟨T,h,Still.refl T⟩
 |x::fz,st,T,h=>by
  have:∃ T1,aH L σ T1 (st.iF x) a w∧Still T T1:=by
   unfold St.iF
   split
   ·rename_i p _ _
    refine ⟨_,h.bg p,?_⟩
    split
    ·exact Still.iw T p
    ·exact Still.refl T
   ·exact ⟨T,h,Still.refl T⟩
  obtain ⟨T1,h1,h2⟩:=this
  obtain ⟨T2,h3,h4⟩:=aH.kC fz h1
  exact ⟨T2,h3,h2.trans h4⟩
theorem BD {K:Act→Prop}{seg:List Nat}{vs:List gQ}(h:aH L σ T st a w)(hm:uH P bT seg vs=true)(hp:ops rec env vs st=some st')(hK:∀ a' T',aH L σ T' st' a' w→Still T T'→a'.defers=a.defers→aO st st'→K a'):wpQuiet P bT (Whole w) K (pick bT seg) a:=by
 simp only [uH,ZS] at hm
 have hv:∀ v∈vs,v∈vs∧lY (core v)=false:=fun v hv=>⟨hv,by simpa using zw.1 hm.2 v hv⟩
 have hmono:=EU (rec:=rec) (env:=env) (fun v h=>(hv v h).2) hp
 exact aal (vs0:=vs) (fun T1 st1 st2 a1 o v _ _ hs hm _ hp=>Oh hs hm hp) hv (Still.refl T) h hm.1 hp fun a' T' g1 g2 g3=>hK a' T' g1 g2 g3 hmono
theorem Jh {v:gQ}(hv:zV v=true):lY v=false:=by
 cases v<;>first|rfl|(simp [zV,ES] at hv)
def KQ (T:Tags)(w w':World):Prop:=w.heap.size≤w'.heap.size∧∀ b,b<w.heap.size→T b=.ro→w'.heap[b]?=w.heap[b]?
theorem bY.ajI (h:bY T T' w w1):KQ T w w1:=⟨h.size,h.same⟩
theorem Even.trans {T T' T'':Tags}(h:Even T T')(k:Even T' T''):Even T T'':=⟨h.still.trans k.still,fun b e=>h.back b (k.back b e)⟩
theorem Oi {v:gQ}(hv:zW v=true):lY v=false:=by
 cases v<;>first|rfl|(simp [zW] at hv)
theorem ou:∀ {ok:Bool} {vs:List gQ},lu ok vs=true→∀ v∈vs,lY (core v)=false
 |ok,[],_,v,hv=>by cases hv
 |ok,u::vs,h,v,hv=>by
  simp only [lu,Zbb,ZS] at h
  rcases ZaI.1 hv with rfl|hv
  ·rcases h with (h|h)|h
   ·exact Jh (by simp only [zV,h.1,Bool.true_or])
   ·exact Oi h.1
   ·exact Jh h.1.2
  ·rcases h with (h|h)|h
   ·exact ou h.2 v hv
   ·exact ou h.2 v hv
   ·exact ou h.2 v hv
theorem rH {S:World→Prop}(hS:∀ w',S w'→KQ T w w'){K:Act→Prop}:∀ {ok:Bool} {l:List Oper} {vs:List gQ} {st:St} {T1:Tags} {a:Act},lu ok vs=true→(ok=true→Even T T1)→Still T T1→aH L σ T1 st a w→mL P bT l vs=true→ops rec env vs st=some st' →
  (∀ a' T',aH L σ T' st' a' w→Still T T'→a'.defers=a.defers→K a')→wpQuiet P bT S K l a
 |_,[],[],st,T1,a,_,_,ht,h,_,hp,hK=>by
  simp only [ops,ZD.injEq] at hp;subst hp
  exact hK _ _ h ht rfl
 |_,[],_::_,_,_,_,_,_,_,_,hm,_,_=>by simp [mL] at hm
 |_,_::_,[],_,_,_,_,_,_,_,hm,_,_=>by simp [mL] at hm
 |ok,o::l,v::vs,st,T1,a,hq,he,ht,h,hm,hp,hK=>by
  have hact:=ou hq v (by simp)
  simp only [lu,Zbb,ZS] at hq
  simp only [mL,ZS] at hm
  simp only [ops] at hp
  obtain ⟨st1,h1,h2⟩:=bind_some hp
  unfold wpQuiet
  rcases Dj h hm.1 h1 with ⟨g1,g2,g3⟩|⟨g1,g2⟩
  ·rw [if_pos g1]
   simp only [op1,hact] at g3
   rcases hq with (hq|hq)|hq
   ·obtain ⟨u,T2,k1,k2,k3⟩:=ET h g2 hq.1 g3
    exact ⟨u,fun w' _=>by unfold Oper.quietAt;rw [k1 w'];exact ⟨rfl,rfl⟩,rH hS hq.2 (fun e=>(he e).trans k3) (ht.trans k3.still) k2 hm.2 h2 fun a' T' q1 q2 q3=>hK a' T' q1 q2 (q3.trans put_defers)⟩
   ·obtain ⟨u,T2,k1,k2,k3⟩:=Og h g2 hq.1 g3
    exact ⟨u,fun w' _=>by unfold Oper.quietAt;rw [k1 w'];exact ⟨rfl,rfl⟩,rH hS hq.2 (fun e=>by cases e) (ht.trans k3) k2 hm.2 h2 fun a' T' q1 q2 q3=>hK a' T' q1 q2 (q3.trans put_defers)⟩
   ·obtain ⟨⟨q1,q2⟩,q3⟩:=hq
    have he:=he q1
    simp only [zV,Zbb] at q2
    rcases q2 with q2|q2
    ·obtain ⟨u,T2,k1,k2,k3⟩:=ET h g2 q2 g3
     exact ⟨u,fun w' _=>by unfold Oper.quietAt;rw [k1 w'];exact ⟨rfl,rfl⟩,rH hS q3 (fun _=>he.trans k3) (ht.trans k3.still) k2 hm.2 h2 fun a' T' q1 q2 q3=>hK a' T' q1 q2 (q3.trans put_defers)⟩
    ·generalize core v=u at g2 g3 q2
     cases u<;>simp only [zm] at q2
     rename_i d n x
     simp only [m1,ZS,beq_iff_eq,mv] at g2
     obtain ⟨hd,hm'⟩:=g2
     split at hm'<;>try (cases hm';done)
     rename_i ho
     simp only [ZS,beq_iff_eq] at hm'
     obtain ⟨b,u,k3,k4,k5,k6⟩:=Nz h hd ho hm'.1 hm'.2 g3
     exact ⟨u,fun w' hw'=>by unfold Oper.quietAt;rw [k3 w' ((hS w' hw').2 _ k5 (he.back _ k6))];exact ⟨rfl,rfl⟩,rH hS q3 (fun _=>he) ht k4 hm.2 h2 fun a' T' q1 q2 q3=>hK a' T' q1 q2 (q3.trans put_defers)⟩
  ·rw [if_neg (by rw [g1];simp)]
   rcases hq with (hq|hq)|hq
   ·exact rH hS hq.2 he ht g2 hm.2 h2 fun a' T' q1 q2 q3=>hK a' T' q1 q2 (q3.trans put_defers)
   ·exact rH hS hq.2 (fun e=>by cases e) ht g2 hm.2 h2 fun a' T' q1 q2 q3=>hK a' T' q1 q2 (q3.trans put_defers)
   ·exact rH hS hq.2 he ht g2 hm.2 h2 fun a' T' q1 q2 q3=>hK a' T' q1 q2 (q3.trans put_defers)
theorem afZ {S:World→Prop}(hS:∀ w',S w'→KQ T w w'){K:Act→Prop}{l:List Oper}{vs:List gQ}(h:aH L σ T st a w)(hm:mL P bT l vs=true)(hq:lu true vs=true)(hp:ops rec env vs st=some st')(hK:∀ a' T',aH L σ T' st' a' w→Still T T'→a'.defers=a.defers→aO st st'→K a'):wpQuiet P bT S K l a:=by
 have hmono:=EU (rec:=rec) (env:=env) (ou hq) hp
 exact rH hS hq (fun _=>Even.refl T) (Still.refl T) h hm hp fun a' T' g1 g2 g3=>hK a' T' g1 g2 g3 hmono
theorem y8 (hW:kR F)(hC:C.Ok P L)(bf:fV P rec env)(h:aH L σ T st a w)(hJ:C.J st.ys.length T w)(hst:st.stop=C.stop){i:Nat}(hm:mL P bT (pick bT [i]) [vo]=true)(hp:op rec env vo st=some st')(hX:st'.ys <+: C.X){R:Act→World→Prop}
  (hn:∀ a' w',After C L st.boxes.length σ T w st' a.defers a' w'→(Ob vo=true→Whole w w')→R a' w'):wpListIn F n P bT (fun e a'' w''=>e=.normal∧R a'' w'') (pick bT [i]) a w:=by
 cases ho:bT[i]? with
 |none=>simp [pick,ho,mL] at hm
 |some o =>
  simp only [pick,List.filterMap_cons,ho,List.filterMap_nil,mL,ZS] at hm ⊢
  simp only [wpListIn]
  exact aak hW hC bf h hJ hst hm.1 hp hX fun a' w' g1 g2=>⟨trivial,hn a' w' g1 g2⟩
theorem rJ {v:gQ}{vs:List gQ}(h:ops rec env (v::vs) st=some st'):∃ st1,op rec env v st=some st1∧ops rec env vs st1=some st':=bind_some h
def QZ (S2:World→Prop)(T:Tags)(w:World):World→Prop:=fun w'=>S2 w'∧KQ T w w'
theorem gy {S2:World→Prop}(DV:∀ T' w',bY T T' w w'→S2 w'):∀ T' w',bY T T' w w'→QZ S2 T w w':=fun T' w' h=>⟨DV T' w' h,h.ajI⟩
theorem uI {S2:World→Prop}{K:Act→Prop}{l:List Oper}{vs:List gQ}(h:aH L σ T st a w)(hm:mL P bT l vs=true)(hq:lu true vs=true)(hp:ops rec env vs st=some st')(hK:∀ a' T',aH L σ T' st' a' w→Still T T'→a'.defers=a.defers→aO st st'→K a'):wpQuiet P bT (QZ S2 T w) K l a:=by
 exact afZ (fun _ h=>h.2) h hm hq hp hK
theorem KR (hW:kR F)(hC:C.Ok P L)(bf:fV P rec env)(hX:st'.ys <+: C.X){last:List Nat}:∀ {tl:List (List Nat×Nat)} {S2:World→Prop} {vs:List gQ} {st:St} {σ:Nat→Nat} {T:Tags} {a:Act} {w:World},aH L σ T st a w→(∀ T' w',bY T T' w w'→S2 w')→C.J st.ys.length T w→st.stop=C.stop→zX P bT last tl vs=true→ops rec env vs st=some st' →
  (∀ a' w',After C L st.boxes.length σ T w st' a.defers a' w'→Q a' w')→oQ F n P bT Q last S2 tl a w
 |[],S2,vs,st,σ,T,a,w,h,DV,hJ,hst,hm,hp,hn=>by
  unfold oQ
  simp only [zX,ZS] at hm
  refine ⟨QZ S2 T w,fun _ h=>h.1,gy DV T w (bY.refl T w),?_⟩
  refine uI h hm.1 hm.2 hp fun a3 T3 q1 q2 q3 q4=>hn _ _ ?_
  rw [← q3]
  exact After.rW hC q1 (by rw [q4.2.1];exact hJ) (q2.oL w) fun _ _=>rfl
 |(seg,i)::more,S2,vs,st,σ,T,a,w,h,DV,hJ,hst,hm,hp,hn=>by
  unfold oQ
  simp only [zX,ZS] at hm
  obtain ⟨⟨⟨hm1,hmu⟩,hmq⟩,hm2⟩:=hm
  split at hm2
  case h_2=>cases hm2
  rename_i v vs' hvs
  simp only [ZS] at hm2
  obtain ⟨hm2,ZU⟩:=hm2
  rw [← ZaQ (Oc bT i seg).length vs,← ZaQ (QY bT i seg).length (vs.drop (Oc bT i seg).length),hvs] at hp
  obtain ⟨st1,p1,p2⟩:=eF hp
  obtain ⟨st1',pu,p2⟩:=eF p2
  obtain ⟨st2,p2,p3⟩:=rJ p2
  have gl:=fH (rec:=rec) (env:=env) p3
  refine BD h hm1 p1 fun a0 T0 f1 f2 f3 f4=>?_
  have zf:∀ T' w',bY T0 T' w w'→S2 w':=fun T' w' hw=>DV T' w' ((f2.oL w).stays.trans hw)
  refine ⟨QZ S2 T0 w,fun _ h=>h.1,gy zf T0 w (bY.refl T0 w),?_⟩
  refine uI f1 hmu hmq pu fun a1 T1 g1 g2e g3 g4'=>?_
  have g2':=g2e
  have g2:=f2.trans g2'
  have g4:=f4.trans g4'
  have hJ1:C.J st1'.ys.length T1 w:=by rw [g4.2.1];exact hC.keep _ _ _ _ _ (g2.oL w) hJ
  refine y8 hW hC bf g1 hJ1 (g4.2.2.trans hst) hm2 p2 (gl.2.1.trans hX) ?_
  rintro a2 w2 ⟨σ2,T2,ms,k1,k2,k3,k4,k5,k6⟩ _
  have hs4:=((g2'.oL w).stays).trans k4
  have hn3:∀ T' w',bY T2 T' w2 w'→QZ S2 T0 w w':=fun T' w' hw'=>gy zf T' w' (hs4.trans hw')
  refine ⟨hn3 _ _ (bY.refl _ _),KR hW hC bf hX k1 hn3 k2 (((iC p2).2.2.trans g4.2.2).trans hst) ZU p3 fun a' w' hA=>hn _ _ ?_⟩
  exact After.trans (((g2.oL w).stays).trans k4) (fun k hk=>k3 k (Zab hk g4.1)) (by rw [k5,g3,f3]) k6 (Zaa g4.1 (iC p2).1) hA
theorem RQ (hW:kR F)(hC:C.Ok P L)(bf:fV P rec env)(hX:st'.ys <+: C.X){fin:Fin1}{last:List Nat}:∀ {acts:List (List Nat×Nat)} {S2:World→Prop} {vs:List gQ} {st:St} {σ:Nat→Nat} {T:Tags} {a:Act} {w:World},aH L σ T st a w→(∀ T' w',bY T T' w w'→S2 w')→C.J st.ys.length T w→st.stop=C.stop→y7 P bT fin last acts vs=true→ops rec env vs st=some st' →
  (∀ a' w',After C L st.boxes.length σ T w st' a.defers a' w'→Q a' w')→rG F n P bT Q (Whole w) S2 acts fin last a w
 |[],S2,vs,st,σ,T,a,w,h,DV,hJ,hst,hm,hp,hn=>by
  cases fin with
  |none =>
   unfold rG
   simp only [y7] at hm
   refine BD h hm hp fun a' T' g1 g2 g3 g4=>hn _ _ ?_
   rw [← g3]
   exact After.rW hC g1 (by rw [g4.2.1];exact hJ) (g2.oL w) fun _ _=>rfl
  |some p =>
   obtain ⟨dW,dX,f,tl⟩:=p
   unfold rG
   simp only [y7,ZS] at hm
   obtain ⟨⟨⟨hm1,hmu⟩,hmq⟩,hm2⟩:=hm
   split at hm2
   case h_2=>cases hm2
   rename_i v vs' hvs
   simp only [ZS] at hm2
   obtain ⟨hm2,ZU⟩:=hm2
   rw [← ZaQ dW.length vs,← ZaQ dX.length (vs.drop dW.length),hvs] at hp
   obtain ⟨st1,p1,p2⟩:=eF hp
   obtain ⟨st1',pu,p2⟩:=eF p2
   obtain ⟨st2,p2,p3⟩:=rJ p2
   have gl:=fH (rec:=rec) (env:=env) p3
   refine BD h hm1 p1 fun a0 T0 f1 f2 f3 f4=>?_
   have zf:∀ T' w',bY T0 T' w w'→S2 w':=fun T' w' hw=>DV T' w' ((f2.oL w).stays.trans hw)
   refine ⟨QZ S2 T0 w,fun _ h=>h.1,gy zf T0 w (bY.refl T0 w),?_⟩
   refine uI f1 hmu hmq pu fun a1 T1 g1 g2e g3 g4'=>?_
   have g2':=g2e
   have g2:=f2.trans g2'
   have g4:=f4.trans g4'
   have hJ1:C.J st1'.ys.length T1 w:=by rw [g4.2.1];exact hC.keep _ _ _ _ _ (g2.oL w) hJ
   refine y8 hW hC bf g1 hJ1 (g4.2.2.trans hst) hm2 p2 (gl.2.1.trans hX) ?_
   rintro a2 w2 ⟨σ2,T2,ms,k1,k2,k3,k4,k5,k6⟩ _
   have hs4:=((g2'.oL w).stays).trans k4
   have hn3:∀ T' w',bY T2 T' w2 w'→QZ S2 T0 w w':=fun T' w' hw'=>gy zf T' w' (hs4.trans hw')
   refine ⟨hn3 _ _ (bY.refl _ _),KR hW hC bf hX k1 hn3 k2 (((iC p2).2.2.trans g4.2.2).trans hst) ZU p3 fun a' w' hA=>hn _ _ ?_⟩
   exact After.trans (((g2.oL w).stays).trans k4) (fun k hk=>k3 k (Zab hk g4.1)) (by rw [k5,g3,f3]) k6 (Zaa g4.1 (iC p2).1) hA
 |(seg,i)::more,S2,vs,st,σ,T,a,w,h,DV,hJ,hst,hm,hp,hn=>by
  unfold rG
  simp only [y7,ZS] at hm
  obtain ⟨⟨⟨hm1,hmu⟩,hmq⟩,hm2⟩:=hm
  split at hm2
  case h_2=>cases hm2
  rename_i v vs' hvs
  simp only [ZS] at hm2
  obtain ⟨⟨hm2,ZU⟩,hm4⟩:=hm2
  rw [← ZaQ (lU bT fin seg).length vs,← ZaQ (lq bT fin seg).length (vs.drop (lU bT fin seg).length),hvs] at hp
  obtain ⟨st1,p1,p2⟩:=eF hp
  obtain ⟨st1',pu,p2⟩:=eF p2
  obtain ⟨st2,p2,p3⟩:=rJ p2
  have gl:=fH (rec:=rec) (env:=env) p3
  refine BD h hm1 p1 fun a0 T0 f1 f2 f3 f4=>?_
  have zf:∀ T' w',bY T0 T' w w'→S2 w':=fun T' w' hw=>DV T' w' ((f2.oL w).stays.trans hw)
  refine ⟨QZ S2 T0 w,fun _ h=>h.1,gy zf T0 w (bY.refl T0 w),?_⟩
  refine uI f1 hmu hmq pu fun a1 T1 g1 g2e g3 g4'=>?_
  have g2':=g2e
  have g2:=f2.trans g2'
  have g4:=f4.trans g4'
  have hJ1:C.J st1'.ys.length T1 w:=by rw [g4.2.1];exact hC.keep _ _ _ _ _ (g2.oL w) hJ
  refine y8 hW hC bf g1 hJ1 (g4.2.2.trans hst) hm2 p2 (gl.2.1.trans hX) ?_
  rintro a2 w2 ⟨σ2,T2,ms,k1,k2,k3,k4,k5,k6⟩ hwh
  have hwh:=hwh ZU
  have hs4:=((g2'.oL w).stays).trans k4
  have hn3:∀ T' w',bY T2 T' w2 w'→QZ S2 T0 w w':=fun T' w' hw'=>gy zf T' w' (hs4.trans hw')
  refine ⟨Whole w2,fun w' hw'=>⟨Zaa hwh.1 hw'.1,fun b hb=>(hw'.2 b (Zab hb hwh.1)).trans (hwh.2 b hb)⟩,Whole.refl w2,hn3 _ _ (bY.refl _ _),?_⟩
  refine RQ hW hC bf hX k1 hn3 k2 (((iC p2).2.2.trans g4.2.2).trans hst) hm4 p3 fun a' w' hA=>hn _ _ ?_
  exact After.trans (((g2.oL w).stays).trans k4) (fun k hk=>k3 k (Zab hk g4.1)) (by rw [k5,g3,f3]) k6 (Zaa g4.1 (iC p2).1) hA
theorem Ji (T:Tags)(w:World):qY T w w.drew:=⟨zg _,fun _ _ _=>rfl⟩
theorem zY (T:Tags)(w:World):yB T T w w.drew:=⟨zg _,rfl,rfl,rfl,fun _ _ _=>rfl,fun _ h=>h,fun _ _ h=>h⟩
theorem Ih {id:Nat}{Q:Exit→Act→World→Prop}(hW:kR F)(hC:C.Ok P L)(bf:fV P rec env)(h:aH L σ T st a w)(hJ:C.J st.ys.length T w)(hst:st.stop=C.stop)(hX:st'.ys <+: C.X){acts:List (List Nat×Nat)}{fin:Fin1}{last:List Nat}{vs:List gQ}
  (hmo:P.follows .mixedOrders=true) (hnd:jG bT=true) (hok:U9 bT acts fin last=true) (hm:y7 P bT fin last acts vs=true) (hp:ops rec env vs st=some st')
  (hn:∀ a' w',After C L st.boxes.length σ T w st' a.defers a' w'→Q .normal a' w'):(Code.region id bT true).wpIn F n P Q a w:=by
 refine DU (Whole w.drew) hW.fn hmo hnd hok (Whole.refl _) ?_
 refine RQ hW hC bf hX (h.sees (Ji T w)) (fun _ _ _=>trivial) (hC.keep _ _ _ _ _ (zY T w) hJ) hst hm hp fun a' w' hA=>hn _ _ ?_
 exact After.trans (ms:=[]) (zY T w).stays (fun _ _=>rfl) rfl Marks.nil (zg _) hA
end
theorem EW (a:ByteArray):sN a a=true:=by unfold sN;exact beq_self_eq_true _
theorem KT {a b:ByteArray}(h:sN a b=true):a=b:=by
 unfold sN at h
 have h:=eq_of_beq h
 obtain ⟨a⟩:=a;obtain ⟨b⟩:=b
 simp only at h
 congr
 exact Array.toList_inj.1 h
mutual
theorem PV.iY:∀ x:PV,PV.same x x=true
 |.int k n=>by simp [PV.same]
 |.bool b=>by simp [PV.same]
 |.str s=>by simp [PV.same,EW]
 |.list sz es=>by simp [PV.same,PV.fC es]
 |.agg cs=>by simp [PV.same,PV.fC cs]
 |.func f cs=>by simp [PV.same,PV.fC cs]
 |.o7=>by simp [PV.same]
 |.dD cs j=>by simp [PV.same,PV.fC cs]
 |.void=>by simp [PV.same]
 |.kY s=>by simp [PV.same]
theorem PV.fC:∀ l:List PV,PV.jd l l=true
 |[]=>by simp [PV.jd]
 |x::xs=>by simp [PV.jd,PV.iY x,PV.fC xs]
end
mutual
theorem PV.same_eq:∀ x y:PV,PV.same x y=true→x=y
 |.int k n,y,h=>by cases y<;>simp_all [PV.same]
 |.bool b,y,h=>by cases y<;>simp_all [PV.same]
 |.str s,y,h=>by
  cases y<;>simp only [PV.same,zm] at h
  rw [KT h]
 |.list sz es,y,h=>by
  cases y<;>simp only [PV.same,zm,ZS,beq_iff_eq] at h
  rw [h.1,PV.iI _ _ h.2]
 |.agg cs,y,h=>by
  cases y<;>simp only [PV.same,zm] at h
  rw [PV.iI _ _ h]
 |.func f cs,y,h=>by
  cases y<;>simp only [PV.same,zm,ZS,beq_iff_eq] at h
  rw [h.1,PV.iI _ _ h.2]
 |.o7,y,h=>by cases y<;>simp_all [PV.same]
 |.dD cs j,y,h=>by
  cases y<;>simp only [PV.same,zm,ZS,beq_iff_eq] at h
  rw [h.1,PV.iI _ _ h.2]
 |.void,y,h=>by cases y<;>simp_all [PV.same]
 |.kY s,y,h=>by cases y<;>simp_all [PV.same]
theorem PV.iI:∀ l m:List PV,PV.jd l m=true→l=m
 |[],m,h=>by cases m<;>simp_all [PV.jd]
 |x::xs,m,h=>by
  cases m<;>simp only [PV.jd,zm,ZS] at h
  rw [PV.same_eq _ _ h.1,PV.iI _ _ h.2]
end
mutual
theorem AV.iY:∀ x:AV,AV.same x x=true
 |.pv x=>by simp [AV.same,PV.iY]
 |.row sz es=>by simp [AV.same,PV.fC]
 |.ref r a b=>by simp [AV.same]
 |.aP o j=>by simp [AV.same]
 |.oO r i j=>by simp [AV.same]
 |.fn f cs=>by simp [AV.same,AV.fC cs]
 |.kV k l=>by simp [AV.same,AV.fC l]
 |.DN sz es=>by simp [AV.same,PV.fC]
 |.pp o j=>by simp [AV.same]
 |.qX=>by simp [AV.same]
 |.any=>by simp [AV.same]
theorem AV.fC:∀ l:List AV,AV.jd l l=true
 |[]=>by simp [AV.jd]
 |x::xs=>by simp [AV.jd,AV.iY x,AV.fC xs]
end
mutual
theorem AV.same_eq:∀ x y:AV,AV.same x y=true→x=y
 |.pv x,y,h=>by
  cases y<;>simp only [AV.same,zm] at h
  rw [PV.same_eq _ _ h]
 |.row sz es,y,h=>by
  cases y<;>simp only [AV.same,zm,ZS,beq_iff_eq] at h
  rw [h.1,PV.iI _ _ h.2]
 |.ref r a b,y,h=>by cases y<;>simp_all [AV.same]
 |.aP o j,y,h=>by cases y<;>simp_all [AV.same]
 |.oO r i j,y,h=>by cases y<;>simp_all [AV.same]
 |.fn f cs,y,h=>by
  cases y<;>simp only [AV.same,zm,ZS,beq_iff_eq] at h
  rw [h.1,AV.iI _ _ h.2]
 |.kV k l,y,h=>by
  cases y<;>simp only [AV.same,zm,ZS,beq_iff_eq] at h
  rw [h.1,AV.iI _ _ h.2]
 |.DN sz es,y,h=>by
  cases y<;>simp only [AV.same,zm,ZS,beq_iff_eq] at h
  rw [h.1,PV.iI _ _ h.2]
 |.pp o j,y,h=>by cases y<;>simp_all [AV.same]
 |.qX,y,h=>by cases y<;>simp_all [AV.same]
 |.any,y,h=>by cases y<;>simp_all [AV.same]
theorem AV.iI:∀ l m:List AV,AV.jd l m=true→l=m
 |[],m,h=>by cases m<;>simp_all [AV.jd]
 |x::xs,m,h=>by
  cases m<;>simp only [AV.jd,zm,ZS] at h
  rw [AV.same_eq _ _ h.1,AV.iI _ _ h.2]
end
theorem BV.iY (x:BV):BV.same x x=true:=by cases x<;>simp [BV.same,PV.iY,PV.fC]
theorem BV.same_eq {x y:BV}(h:BV.same x y=true):x=y:=by
 cases x<;>cases y<;>simp only [BV.same,zm,ZS,beq_iff_eq] at h
 ·rw [PV.same_eq _ _ h]
 ·rw [h.1,PV.iI _ _ h.2]
theorem nY {α:Type}{f:α→α→Bool}(hf:∀ x,f x x=true):∀ l,lX f l l=true
 |[]=>rfl
 |x::xs=>by simp [lX,hf x,nY hf xs]
theorem rM {α:Type}{f:α→α→Bool}(hf:∀ x y,f x y=true→x=y):∀ l m,lX f l m=true→l=m
 |[],m,h=>by cases m<;>simp_all [lX]
 |x::xs,m,h=>by
  cases m<;>simp only [lX,zm,ZS] at h
  rw [hf _ _ h.1,rM hf _ _ h.2]
theorem Box.iY (x:Box):Box.same x x=true:=by simp [Box.same,nY BV.iY]
theorem Box.same_eq {x y:Box}(h:Box.same x y=true):x=y:=by
 obtain ⟨a,b⟩:=x;obtain ⟨c,d⟩:=y
 simp only [Box.same,ZS,beq_iff_eq] at h
 rw [h.1,rM (fun _ _=>BV.same_eq) _ _ h.2]
theorem St.iY (s:St):s.same s=true:=by
 simp [St.same,AV.fC,nY Box.iY,nY PV.fC]
theorem St.same_eq {a b:St}(h:a.same b=true):a=b:=by
 obtain ⟨a1,a2,a3,a4⟩:=a;obtain ⟨b1,b2,b3,b4⟩:=b
 simp only [St.same,ZS,decide_eq_true_eq] at h
 rw [AV.iI _ _ h.1,rM (fun _ _=>Box.same_eq) _ _ h.2.1,rM PV.iI _ _ h.2.2.1,h.2.2.2]
theorem Oj {s:St}:∀ {l:List (Option St)} {r:St},agree s l=some r→r=s∧∀ o∈l,o=some s
 |[],r,h=>by simp only [agree,ZD.injEq] at h;exact ⟨h.symm,by simp⟩
 |o::l,r,h=>by
  unfold agree at h
  obtain ⟨s',h1,h2⟩:=ZaJ.1 h
  split at h2
  case isFalse=>cases h2
  rename_i hs
  have:=St.same_eq hs
  subst this
  obtain ⟨g1,g2⟩:=Oj h2
  exact ⟨g1,fun o' ho=>by rcases ZaI.1 ho with rfl|ho;exact h1;exact g2 o' ho⟩
def oU (p:Nat→Nat)(T:Tags):Tags:=fun b=>match T b with
 |.box o=>.box (p o)
 |.row r=>.row (r.ren p)
 |q=>q
section
variable {L:Nat}{σ:Nat→Nat}{T:Tags}{st st':St}{a:Act}{w:World}{p:Nat→Nat}
theorem BF {b:Nat}(h:T b=.ro):oU p T b=.ro:=by simp [oU,h]
theorem zZ {b:Nat}(h:T b=.other):oU p T b=.other:=by simp [oU,h]
theorem RS {b o:Nat}(h:T b=.box o):oU p T b=.box (p o):=by simp [oU,h]
theorem RU {b:Nat}{r:Root}(h:T b=.row r):oU p T b=.row (r.ren p):=by simp [oU,h]
theorem Still.ren (p:Nat→Nat)(T:Tags):Still T (oU p T):=⟨fun _=>BF,fun _=>zZ⟩
theorem aH.ren (h:aH L σ T st a w)(hp:∀ o,p (p o)=o)(h1:st'.slots=st.slots.map (AV.ren p))(h2:∀ o:Nat,st'.boxes[p o]?=st.boxes[o]?)(h3:∀ o,o<st.boxes.length→p o<st'.boxes.length) :
  aH L (fun o=>σ (p o)) (oU p T) st' a w:=by
 have hw:∀ b,T b=.ro→b<w.heap.size→oU p T b=.ro∧w.heap[b]?=w.heap[b]?:=fun b e _=>⟨BF e,rfl⟩
 have hrow:∀ r sz es v,aJ T w r sz es v→aJ (oU p T) w (r.ren p) sz es v:=fun r sz es v hr=>hr.frame (fun b e _=>⟨RU e,rfl⟩) hw
 have hget:∀ (t:Nat),st'.slots[t]?=(st.slots[t]?).map (AV.ren p):=fun t=>by rw [h1,zd]
 have aqd:∀ (x:AV) sz es,x.ren p=.row sz es→x=.row sz es:=fun x sz es e=>by cases x<;>simp [AV.ren] at e ⊢<;>exact e
 have hr:∀ r sz es,st'.row (r.ren p)=some (sz,es)→st.row r=some (sz,es):=fun r sz es e=>by
  cases r with
  |slot t =>
   simp only [Root.ren,St.row,hget] at e ⊢
   cases hs:st.slots[t]? with
   |none=>rw [hs] at e;simp at e
   |some x =>
    rw [hs] at e
    simp only [Zak] at e
    split at e
    ·rename_i q;rw [aqd x _ _ (ZD.inj q)];exact e
    ·cases e
  |part t i=>simp [Root.ren,St.row] at e
  |cell o j=>simp only [Root.ren,St.row,h2] at e ⊢;exact e
 have hh:∀ r,hdr (fun o=>σ (p o)) a w (r.ren p)=hdr σ a w r:=fun r=>by cases r<;>simp [hdr,Root.ren,hp]
 have hlow:∀ r:Root,r.low st.boxes.length→(r.ren p).low st'.boxes.length:=fun r hl=>by cases r<;>simp only [Root.low,Root.ren] at hl ⊢;exact h3 _ hl
 refine ⟨by simp [h1,h.size],fun t av v ht hv=>?_,fun o bx ho=>?_,fun b hb=>zZ (h.fresh b hb)⟩
 ·rw [hget] at ht
  obtain ⟨x,hx,rfl⟩:=Zar.1 ht
  have g:=h.slots t x v hx hv
  cases x with
  |pv y=>exact aA.frame hw g
  |row sz es=>exact hrow _ _ _ _ g
  |ref r off len=>exact ⟨hlow r g.1,fun sz es e=>by rw [hh];exact g.2 sz es (hr r sz es e)⟩
  |aP o j=>exact ⟨h3 o g.1,by rw [g.2];simp [hp]⟩
  |oO r i j=>exact ⟨hlow r g.1,fun sz es e=>by rw [hh];exact g.2 sz es (hr r sz es e)⟩
  |fn f caps =>
   obtain ⟨arr,e1,e2,e3⟩:=g
   refine ⟨arr,e1,by simpa using e2,fun k y u hy hu=>?_⟩
   rw [zd] at hy
   obtain ⟨z,hz,rfl⟩:=Zar.1 hy
   have g:=e3 k z u hz hu
   cases z<;>simp only [gV,ZG] at g ⊢
   case pv=>exact aA.frame hw g
   case aP o j=>exact ⟨h3 o g.1,by rw [g.2];simp [hp]⟩
  |kV k l =>
   obtain ⟨arr,e1,e2,e3⟩:=g
   refine ⟨arr,e1,e2,fun k y u hy hu=>?_⟩
   have g:=e3 k y u hy hu
   cases y<;>simp only [iQ] at g ⊢
   case pv=>exact aA.frame hw g
   case row sz es=>exact hrow _ _ _ _ g
  |DN sz es=>exact ⟨aA.frame hw g.1,g.2⟩
  |pp o j =>
   obtain ⟨g0,b,E,e1,e2,e3⟩:=g
   have:=hw b e2 (zt.1 e3).1
   exact ⟨h3 o g0,b,E,e1,this.1,by simpa [hp] using e3⟩
  |qX=>exact g
  |any=>trivial
 ·have ho':st.boxes[p o]?=some bx:=by rw [← h2,hp];exact ho
  obtain ⟨arr,E,g1,g2,g3,g4,g5⟩:=h.boxes (p o) bx ho'
  refine ⟨arr,E,g1,g2,?_,g4,fun j bv u hj hu=>?_⟩
  ·split at g3
   ·rename_i e;rw [if_pos e];exact BF g3
   ·rename_i e;rw [if_neg e,RS g3,hp]
  ·obtain ⟨k1,k2⟩:=g5 j bv u hj hu
   refine ⟨k1,?_⟩
   cases bv with
   |pv x=>exact aA.frame hw k2
   |row sz es =>
    have:=hrow _ _ _ _ k2
    have e:(Root.cell (p o) j).ren p=.cell o j:=by simp [Root.ren,hp]
    rw [e] at this
    exact this
theorem RX (m o:Nat):swapAt m (swapAt m o)=o:=by
 unfold swapAt
 split<;>split<;>simp_all<;>omega
theorem aH.swap2 (h:aH L σ T st a w){nb:Nat}(hs:st.swap2 nb=some st'):∃ σ' T',aH L σ' T' st' a w∧Still T T'∧(∀ k,k<nb→σ' k=σ k)∧st'.ys=st.ys∧st'.stop=st.stop∧st'.boxes.length=st.boxes.length:=by
 unfold St.swap2 at hs
 split at hs
 case isFalse=>cases hs
 rename_i hn
 have hs:=ZD.inj hs
 have hlen:st'.boxes.length=st.boxes.length:=by rw [← hs];simp;omega
 refine ⟨_,_,h.ren (p:=swapAt (st.boxes.length - 2)) (RX _) (by rw [← hs]) (fun o=>?_) (fun o ho=>?_),Still.ren _ _,fun k hk=>?_,by rw [← hs],by rw [← hs],hlen⟩
 ·have hb:st'.boxes=st.boxes.take (st.boxes.length - 2)++(st.boxes.drop (st.boxes.length - 1)++(st.boxes.drop (st.boxes.length - 2)).take 1):=by rw [← hs]
  rw [hb]
  generalize hm:st.boxes.length - 2=m
  have hl:st.boxes.length=m+2:=by omega
  rw [show st.boxes.length - 1=m+1 by omega]
  have hd:st.boxes.drop m=[st.boxes[m],st.boxes[m+1]]:=by
   rw [Zah (by omega),Zah (by omega),ZaS (by omega)]
  have hd1:st.boxes.drop (m+1)=[st.boxes[m+1]]:=by
   rw [Zah (by omega),ZaS (by omega)]
  rw [hd,hd1]
  have htl:(st.boxes.take m).length=m:=by simp;omega
  by_cases h1:o=m
  ·subst h1
   rw [show swapAt o o=o+1 by simp [swapAt],zP (by omega),htl]
   simp [ZZ (show o<st.boxes.length by omega)]
  ·by_cases h2:o=m+1
   ·subst h2
    rw [show swapAt m (m+1)=m by simp [swapAt],zP (by omega),htl]
    simp [ZZ (show m+1<st.boxes.length by omega)]
   ·rw [show swapAt m o=o by simp [swapAt,h1,h2]]
    rcases ZaP o m with h|h
    ·rw [zR (by omega),Zad,if_pos h]
    ·rw [zP (by omega),htl,ZaY (by simp;omega),ZaY (by omega)]
 ·rw [hlen]
  unfold swapAt
  split
  ·omega
  ·split<;>omega
 ·have:swapAt (st.boxes.length - 2) k=k:=by
   unfold swapAt
   rw [if_neg (by omega),if_neg (by omega)]
  rw [this]
end
def gW.tail (j:Nat)(z:gW):Option gW:=match z.acts with
 |(_,i)::more=>if i=j then some { z with acts:=more } else none
 |[]=>none
def tails (j:Nat)(alts:List gW):List gW:=alts.filterMap (gW.tail j)
def Ed (seg:List Nat)(z:gW):Bool:=match z.acts with
 |(s,_)::_=>s==seg
 |[]=>false
def KU (r:List Nat)(z:gW):Bool:=match z.acts with
 |(_,i)::_=>r.contains i
 |[]=>false
def aam (z:gW):Option gW:=match z.acts,z.fin with
 |[],some (_,_,_,tl)=>some { z with acts:=tl,fin:=none }
 |_,_=>none
def wC (ops:Array Oper)(f:Nat):Nat→Nat→List gW→Array Bool→Bool
 |0,k,alts,l=>match alts with
  |[x]=>Di ops f x.last x.acts l&&gu x.last x.acts==k
  |_=>false
 |m+1,k,alts,l=>match alts with
  |[]=>false
  |[x]=>Di ops f x.last x.acts l&&gu x.last x.acts==k
  |x::y::zs=>match x.acts with
   |[]=>false
   |(seg,i)::_=>(x::y::zs).all (Ed seg)&&(seg.all (fun j=>f != j)&&Oc ops i seg==[])&&decide (seg.length+1≤k)&&match cO ops seg l with
    |some l1=>!(Region.ready .any ops l1).isEmpty&&(x::y::zs).all (KU (Region.ready .any ops l1))&&(Region.ready .any ops l1).all fun j=>f != j&&wC ops f m (k - 1 - seg.length) (tails j (x::y::zs)) (l1.setIfInBounds j true)
    |none=>false
def EX (dW dX:List Nat)(g:Nat)(z:gW):Bool:=match z.acts with
 |[]=>match z.fin with
  |some (a,b,c,_)=>a==dW&&b==dX&&c==g
  |none=>false
 |(s,_)::_=>s==dW++dX
def Va (r:List Nat)(z:gW):Bool:=match z.acts with
 |(_,i)::_=>r.contains i
 |[]=>true
def vI (ops:Array Oper)(f:Nat):Nat→Nat→List gW→Array Bool→Bool
 |0,k,alts,l=>match alts with
  |[x]=>jT ops x.fin==f&&iW x.acts x.fin x.last==k&&KP ops x.acts x.fin x.last l
  |_=>false
 |m+1,k,alts,l=>match alts with
  |[]=>false
  |[x]=>jT ops x.fin==f&&iW x.acts x.fin x.last==k&&KP ops x.acts x.fin x.last l
  |x::y::zs=>match x.acts with
   |[]=>match x.fin with
    |none=>false
    |some (dW,dX,g,tl)=>(y::zs).all (EX dW dX g)&&(x::y::zs).all (fun z=>jT ops z.fin==f&&z.fin.isSome==x.fin.isSome)&&Oe ops x.fin (dW++dX)&&(lU ops x.fin (dW++dX)==dW&&lq ops x.fin (dW++dX)==dX)&&decide (dW.length+dX.length+1≤k)&&match (cO ops dW l).bind (cO ops dX) with
     |some l1=>!(Region.ready .any ops l1).isEmpty&&(y::zs).all (Va (Region.ready .any ops l1))&&(Region.ready .any ops l1).contains g&&(Region.ready .any ops l1).all fun j=>if j=g then wC ops f m (k - 1 - (dW.length+dX.length)) ((x::y::zs).filterMap aam) (l1.setIfInBounds j true) else vI ops f m (k - 1 - (dW.length+dX.length)) (tails j (y::zs)) (l1.setIfInBounds j true)
     |none=>false
   |(seg,_)::_=>(x::y::zs).all (Ed seg)&&(x::y::zs).all (fun z=>jT ops z.fin==f&&z.fin.isSome==x.fin.isSome)&&Oe ops x.fin seg&&decide (seg.length+1≤k)&&match (cO ops (lU ops x.fin seg) l).bind (cO ops (lq ops x.fin seg)) with
    |some l1=>!(Region.ready .any ops l1).isEmpty&&(x::y::zs).all (KU (Region.ready .any ops l1))&&(Region.ready .any ops l1).all fun j=>vI ops f m (k - 1 - seg.length) (tails j (x::y::zs)) (l1.setIfInBounds j true)
    |none=>false
def iR (last:List Nat):List (List Nat×Nat)→List Nat
 |[]=>last
 |(seg,i)::more=>seg++(i::iR last more)
def ajJ (last:List Nat):Fin1→List Nat
 |none=>last
 |some (dW,dX,f,tl)=>dW++(dX++(f::iR last tl))
def iT (fin:Fin1)(last:List Nat):List (List Nat×Nat)→List Nat
 |[]=>ajJ last fin
 |(seg,i)::more=>seg++(i::iT fin last more)
def RY (P:Program)(ops:Array Oper)(vo:List gQ)(alts:List gW):Bool :=
 Region.noSelect ops&&(alts.all fun x=>x.ord==iT x.fin x.last x.acts&&y7 P ops x.fin x.last x.acts (bI vo x.ord))&&match alts with
  |[]=>false
  |x::_=>vI ops (jT ops x.fin) ops.size ops.size alts (Za7 ops.size false)
section
variable {F:Fence}{n:Nat}{P:Program}{ops:Array Oper}{Q:Act→World→Prop}{f:Nat}
def rY (F:Fence)(n:Nat)(P:Program)(ops:Array Oper)(Q:Act→World→Prop):Nat→(World→Prop)→List gW→Act→World→Prop
 |0,S2,alts,a,w=>match alts with
  |[x]=>oQ F n P ops Q x.last S2 x.acts a w
  |_=>False
 |m+1,S2,alts,a,w=>match alts with
  |[]=>False
  |[x]=>oQ F n P ops Q x.last S2 x.acts a w
  |x::y::zs=>match x.acts with
   |[]=>False
   |(seg,_)::_=>∃ S3:World→Prop,(∀ w,S3 w→S2 w)∧S3 w∧wpQuiet P ops S3 (fun a'=>∀ j,(tails j (x::y::zs))≠[]→wpListIn F n P ops (fun e a'' w''=>e=.normal∧S3 w''∧rY F n P ops Q m S3 (tails j (x::y::zs)) a'' w'') (pick ops [j]) a' w) (pick ops seg) a
def wE (F:Fence)(n:Nat)(P:Program)(ops:Array Oper)(Q:Act→World→Prop):Nat→(World→Prop)→(World→Prop)→List gW→Act→World→Prop
 |0,S,S2,alts,a,w=>match alts with
  |[x]=>rG F n P ops Q S S2 x.acts x.fin x.last a w
  |_=>False
 |m+1,S,S2,alts,a,w=>match alts with
  |[]=>False
  |[x]=>rG F n P ops Q S S2 x.acts x.fin x.last a w
  |x::y::zs=>match x.acts with
   |[]=>match x.fin with
    |none=>False
    |some (dW,dX,g,tl)=>wpQuiet P ops S (fun a0=>∃ S3:World→Prop,(∀ w,S3 w→S2 w)∧S3 w∧wpQuiet P ops S3 (fun a'=>wpListIn F n P ops (fun e a'' w''=>e=.normal∧S3 w''∧rY F n P ops Q m S3 ((x::y::zs).filterMap aam) a'' w'') (pick ops [g]) a' w∧∀ j,j≠g→(tails j (y::zs))≠[]→wpListIn F n P ops (fun e a'' w''=>e=.normal∧∃ S':World→Prop,(∀ w,S' w→S w)∧S' w''∧S3 w''∧wE F n P ops Q m S' S3 (tails j (y::zs)) a'' w'') (pick ops [j]) a' w) (pick ops dX) a0) (pick ops dW) a
   |(seg,_)::_=>wpQuiet P ops S (fun a0=>∃ S3:World→Prop,(∀ w,S3 w→S2 w)∧S3 w∧wpQuiet P ops S3 (fun a'=>∀ j,(tails j (x::y::zs))≠[]→wpListIn F n P ops (fun e a'' w''=>e=.normal∧∃ S':World→Prop,(∀ w,S' w→S w)∧S' w''∧S3 w''∧wE F n P ops Q m S' S3 (tails j (x::y::zs)) a'' w'') (pick ops [j]) a' w) (pick ops (lq ops x.fin seg)) a0) (pick ops (lU ops x.fin seg)) a
theorem Vb {m k:Nat}{l:Array Bool}{alts:List gW}(h:vI ops f m k alts l=true):alts≠[]:=by
 rintro rfl
 cases m<;>simp [vI] at h
theorem Jj {x y:Fin1}(h1:jT ops x=jT ops y)(h2:x.isSome=y.isSome):qH ops x=qH ops y:=by
 cases x<;>cases y<;>simp only [Option.isSome_none,Option.isSome_some,zm,Bool.true_eq_false] at h2
 ·rfl
 ·simp only [jT] at h1
  funext i
  simp only [qH,h1]
theorem af2 {m k:Nat}{l:Array Bool}{alts:List gW}(h:wC ops f m k alts l=true):alts≠[]:=by
 rintro rfl
 cases m<;>simp [wC] at h
theorem RZ {S:World→Prop}(hF:∀ f,F.fn f)(hnd:jG ops=true)(hsel:Region.noSelect ops=true):∀ (m:Nat) (alts:List gW) (k:Nat) (S2:World→Prop) (l:Array Bool) (a:Act) (w:World),l.size=ops.size→Closed ops l→l.getD f false=true→S2 w→wC ops f m k alts l=true →
  rY F n P ops Q m S2 alts a w→iH F n P ops S S2 f Q k l a w:=by
 have one:∀ (x:gW) (k:Nat) (S2:World→Prop) (l:Array Bool) (a:Act) (w:World),l.size=ops.size→Closed ops l→l.getD f false=true→S2 w→(Di ops f x.last x.acts l&&gu x.last x.acts==k)=true→oQ F n P ops Q x.last S2 x.acts a w→iH F n P ops S S2 f Q k l a w:=fun x k S2 l a w hs hc hf hS2 hB h=>by
  simp only [ZS,beq_iff_eq] at hB
  obtain ⟨h1,h2⟩:=hB
  subst h2
  exact yZ hF hnd hsel _ S2 _ _ _ hs hc hf hS2 h1 h
 intro m
 induction m with
 |zero =>
  intro alts k S2 l a w hs hc hf hS2 hB h
  match alts,hB,h with
  |[x],hB,h=>exact one x k S2 l a w hs hc hf hS2 (by simpa only [wC] using hB) (by simpa only [rY] using h)
  |[],hB,_=>simp [wC] at hB
  |_::_::_,hB,_=>simp [wC] at hB
 |succ m ih =>
  intro alts k S2 l a w hs hc hf hS2 hB h
  match alts,hB,h with
  |[],hB,_=>simp [wC] at hB
  |[x],hB,h=>exact one x k S2 l a w hs hc hf hS2 (by simpa only [wC] using hB) (by simpa only [rY] using h)
  |x::y::zs,hB,h =>
   simp only [wC] at hB
   simp only [rY] at h
   generalize ha:x.acts=acts at hB h
   match acts,hB,h with
   |[],hB,_=>cases hB
   |(seg,i)::more,hB,h =>
    simp only [ZS,decide_eq_true_eq,beq_iff_eq] at hB h
    obtain ⟨⟨⟨_,hseg,_⟩,hk⟩,hB⟩:=hB
    obtain ⟨S3,hS3,hw3,h⟩:=h
    split at hB
    case h_2=>cases hB
    rename_i l1 hq
    simp only [ZS,ZaM,Zbm] at hB
    obtain ⟨⟨hne,_⟩,hall⟩:=hB
    refine fB (S':=S) (S2':=S3) (fun _ h=>h) hS3 _ _ _ _ ?_
    have hf1:=mg (f:=f) _ l l1 hs hq hf
    have:=fA (F:=F) (n:=n) (P:=P) (S:=S) (Q:=Q) (f:=f) hF hnd hsel (S2:=S3) (T:=S3) (w:=w) seg (k - 1 - seg.length+1) l l1 a hs hc ⟨.inl hf,hw3⟩
     (fun i hi=>⟨by have:=zw.1 hseg i hi;simpa using this,fun _ _ _ _ _ _ h=>h.2⟩) hq (fun _ _ _=>trivial) (dJ (fun a' h' hs1 hc1 _=>by
      refine ⟨fun h0=>absurd h0 hne,fun j hj=>?_⟩
      have hcov:=zw.1 hall j hj
      simp only [ZS] at hcov
      have hf2:(l1.setIfInBounds j true).getD f false=true:=by
       rw [iU _ _ _ (iE hs1 hj)]
       split
       ·rfl
       ·exact hf1
      exact yN hF (fun a2 w2 h2=>⟨⟨.inl hf2,h2.1⟩,ih _ _ S3 _ _ _ (by simpa using hs1) (hc1.set hs1 hj) hf2 h2.1 hcov.2 h2.2⟩) (h' j (af2 hcov.2))) _ _ h)
    rw [show k - 1 - seg.length+1+seg.length=k by omega] at this
    exact this
theorem Xd (hF:∀ f,F.fn f)(hnd:jG ops=true)(hsel:Region.noSelect ops=true):∀ (m:Nat) (alts:List gW) (k:Nat) (S S2:World→Prop) (l:Array Bool) (a:Act) (w:World),l.size=ops.size→Closed ops l→vI ops f m k alts l=true→S w→S2 w →
  wE F n P ops Q m S S2 alts a w→iH F n P ops S S2 f Q k l a w:=by
 have one:∀ (x:gW) (k:Nat) (S S2:World→Prop) (l:Array Bool) (a:Act) (w:World),l.size=ops.size→Closed ops l→(jT ops x.fin==f&&iW x.acts x.fin x.last==k&&KP ops x.acts x.fin x.last l)=true→S w→S2 w→rG F n P ops Q S S2 x.acts x.fin x.last a w→iH F n P ops S S2 f Q k l a w:=fun x k S S2 l a w hs hc hB hS hS2 h=>by
  simp only [ZS,beq_iff_eq] at hB
  obtain ⟨⟨h1,h2⟩,h3⟩:=hB
  subst h1;subst h2
  exact Bz hF hnd hsel x.acts S S2 l a w hs hc h3 hS hS2 h
 intro m
 induction m with
 |zero =>
  intro alts k S S2 l a w hs hc hB hS hS2 h
  match alts,hB,h with
  |[x],hB,h=>exact one x k S S2 l a w hs hc (by simpa only [vI] using hB) hS hS2 (by simpa only [wE] using h)
  |[],hB,_=>simp [vI] at hB
  |_::_::_,hB,_=>simp [vI] at hB
 |succ m ih =>
  intro alts k S S2 l a w hs hc hB hS hS2 h
  match alts,hB,h with
  |[],hB,_=>simp [vI] at hB
  |[x],hB,h=>exact one x k S S2 l a w hs hc (by simpa only [vI] using hB) hS hS2 (by simpa only [wE] using h)
  |x::y::zs,hB,h =>
   simp only [vI] at hB
   simp only [wE] at h
   generalize ha:x.acts=acts at hB h
   match acts,hB,h with
   |[],hB,h =>
    generalize hxf:x.fin=fin at hB h
    match fin,hxf,hB,h with
    |none,_,hB,_=>cases hB
    |some (dW,dX,g,tl),hxf,hB,h =>
     simp only [ZS,decide_eq_true_eq,beq_iff_eq] at hB h
     obtain ⟨⟨⟨⟨⟨_,hfs⟩,hsg⟩,hsA,hsB⟩,hk⟩,hB⟩:=hB
     have hfx:jT ops (some (dW,dX,g,tl))=f:=by
      have:=zw.1 hfs x (by simp)
      simp only [ZS,beq_iff_eq] at this
      rw [← hxf];exact this.1
     have hg:g=f:=hfx
     split at hB
     case h_2=>cases hB
     rename_i l1 hq
     obtain ⟨l0,hq0,hq1⟩:=ZaJ.1 hq
     simp only [ZS,ZaM,Zbm] at hB
     obtain ⟨⟨⟨hne,_⟩,_⟩,hall⟩:=hB
     have hA:=RJ (S:=S) (S2:=S2) hsg
     rw [hfx,hsA] at hA
     have:=fA (F:=F) (n:=n) (P:=P) (S:=S) (Q:=Q) (f:=f) (S2:=S2) hF hnd hsel (T:=S) (w:=w) dW (k - 1 - (dW.length+dX.length)+1+dX.length) l l0 a hs hc ⟨.inr hS,hS2⟩ hA hq0 (fun _ _ _=>trivial) (dJ (fun a0 h0 hs0 hc0 hS0=>by
       obtain ⟨S3,hS3,hw3,h0⟩:=h0
       refine fB (S':=S) (S2':=S3) (fun _ h=>h) hS3 _ _ _ _ ?_
       have hBt:=RN (S:=S) (S2:=S3) hsg
       rw [hfx,hsB] at hBt
       refine fA (F:=F) (n:=n) (P:=P) (S:=S) (Q:=Q) (f:=f) (S2:=S3) hF hnd hsel (T:=S3) (w:=w) dX (k - 1 - (dW.length+dX.length)+1) l0 l1 a0 hs0 hc0 ⟨hS0.1,hw3⟩ hBt hq1 (fun _ _ _=>trivial) (dJ (fun a' h' hs1 hc1 _=>by
        refine ⟨fun h0=>absurd h0 hne,fun j hj=>?_⟩
        have hcov:=zw.1 hall j hj
        by_cases hjg:j=g
        ·rw [if_pos hjg] at hcov
         have hjf:j=f:=hjg.trans hg
         have hf1:(l1.setIfInBounds j true).getD f false=true:=by rw [iU _ _ _ (iE hs1 hj),if_pos hjf]
         have h1:=h'.1
         rw [← hjg] at h1
         exact yN hF (fun a2 w2 h3=>⟨⟨.inl hf1,h3.1⟩,RZ hF hnd hsel _ _ _ S3 _ _ _ (by simpa using hs1) (hc1.set hs1 hj) hf1 h3.1 hcov h3.2⟩) h1
        ·rw [if_neg hjg] at hcov
         refine yN hF (fun a2 w2 h2=>?_) (h'.2 j hjg (Vb hcov))
         obtain ⟨S',k1,k2,k3,k4⟩:=h2
         exact ⟨⟨.inr (k1 _ k2),k3⟩,fB k1 (fun _ h=>h) _ _ _ _ (ih _ _ S' S3 _ _ _ (by simpa using hs1) (hc1.set hs1 hj) hcov k2 k3 k4)⟩) _ _ h0)) _ _ h)
     rw [show k - 1 - (dW.length+dX.length)+1+dX.length+dW.length=k by omega] at this
     exact this
   |(seg,i0)::more,hB,h =>
    simp only [ZS,decide_eq_true_eq] at hB h
    obtain ⟨⟨⟨⟨_,hfs⟩,hsg⟩,hk⟩,hB⟩:=hB
    have hfx:jT ops x.fin=f:=by
     have:=zw.1 hfs x (by simp)
     simp only [ZS,beq_iff_eq] at this
     exact this.1
    split at hB
    case h_2=>cases hB
    rename_i l1 hq
    obtain ⟨l0,hq0,hq1⟩:=ZaJ.1 hq
    simp only [ZS,ZaM,Zbm] at hB
    obtain ⟨⟨hne,_⟩,hall⟩:=hB
    have hA:=RJ (S:=S) (S2:=S2) hsg
    rw [hfx] at hA
    have:=fA (F:=F) (n:=n) (P:=P) (S:=S) (Q:=Q) (f:=f) (S2:=S2) hF hnd hsel (T:=S) (w:=w) (lU ops x.fin seg) (k - 1 - seg.length+1+(lq ops x.fin seg).length) l l0 a hs hc ⟨.inr hS,hS2⟩ hA hq0 (fun _ _ _=>trivial) (dJ (fun a0 h0 hs0 hc0 hS0=>by
      obtain ⟨S3,hS3,hw3,h0⟩:=h0
      refine fB (S':=S) (S2':=S3) (fun _ h=>h) hS3 _ _ _ _ ?_
      have hBt:=RN (S:=S) (S2:=S3) hsg
      rw [hfx] at hBt
      refine fA (F:=F) (n:=n) (P:=P) (S:=S) (Q:=Q) (f:=f) (S2:=S3) hF hnd hsel (T:=S3) (w:=w) (lq ops x.fin seg) (k - 1 - seg.length+1) l0 l1 a0 hs0 hc0 ⟨hS0.1,hw3⟩ hBt hq1 (fun _ _ _=>trivial) (dJ (fun a' h' hs1 hc1 _=>by
       refine ⟨fun h0=>absurd h0 hne,fun j hj=>?_⟩
       have hcov:=zw.1 hall j hj
       refine yN hF (fun a2 w2 h2=>?_) (h' j (Vb hcov))
       obtain ⟨S',k1,k2,k3,k4⟩:=h2
       exact ⟨⟨.inr (k1 _ k2),k3⟩,fB k1 (fun _ h=>h) _ _ _ _ (ih _ _ S' S3 _ _ _ (by simpa using hs1) (hc1.set hs1 hj) hcov k2 k3 k4)⟩) _ _ h0)) _ _ h)
    have e:=ai1 (ops:=ops) x.fin seg
    have e:k - 1 - seg.length+1+(lq ops x.fin seg).length+(lU ops x.fin seg).length=k:=by omega
    rw [e] at this
    exact this
theorem DW {id:Nat}{l:Array Oper}{a:Act}{w:World}{Q:Exit→Act→World→Prop}(S:World→Prop){alts:List gW}{f m:Nat}(hF:∀ f,F.fn f)(hm:P.follows .mixedOrders=true)
  (hnd:jG l=true) (hsel:Region.noSelect l=true) (hB:vI l f m l.size alts (Za7 l.size false)=true) (hS:S w.drew) (h:wE F n P l (Q .normal) m S (fun _=>True) alts a w.drew):(Code.region id l true).wpIn F n P Q a w:=by
 refine Code.wpIn_mono (Q:=dI (Q .normal)) (fun e a w h=>by obtain ⟨rfl,h⟩:=h;exact h) (wpIn_region_any hm ?_)
 exact yY _ _ _ _ (Xd hF hnd hsel m alts l.size S (fun _=>True) (Za7 l.size false) a _ (by simp) (fun m o hm=>absurd hm (by rw [ZaA,ZcZ];split<;>simp)) hB hS trivial h)
end
section
variable {P:Program}{F:Fence}{C:Ctx}{n L nb:Nat}{σ σ':Nat→Nat}{T T' T1 T2:Tags}{st st' st1:St}{a a1:Act}{w w1:World}{vo:List gQ}{keep:List Nat}
 {rec:au→St→Option (Ex×St)} {env:Env} {Q:Act→World→Prop} {bT:Array Oper} {ds:List Deferred}
theorem aH.head (h:aH L σ T st a w){keep:List Nat}(hh:st.head keep nb=some st'):aH L σ T st' a w∧st'.boxes.length=nb∧st'.ys=st.ys∧st'.stop=st.stop∧nb≤st.boxes.length:=by
 unfold St.head at hh
 simp only at hh
 split at hh
 case isFalse=>cases hh
 rename_i hc
 have hh:=ZD.inj hh
 simp only [ZS,decide_eq_true_eq] at hc
 obtain ⟨hlow,hnb⟩:=hc
 subst hh
 have hget:∀ (t:Nat) av,((st.slots.zipIdx.map fun (v,i)=>if keep.contains i then v else .any))[t]?=some av→av=.any∨(st.slots[t]?=some av∧av.low nb=true):=fun t av hav=>by
  have hm:=zw.1 hlow av (zz hav)
  simp only [zd,List.getElem?_zipIdx] at hav
  cases e:st.slots[t]? with
  |none=>rw [e] at hav;cases hav
  |some v =>
   rw [e] at hav
   simp only [Zak,ZD.injEq] at hav
   split at hav
   ·subst hav;exact .inr ⟨rfl,hm⟩
   ·exact .inl hav.symm
 have hlen:({ st with slots:=st.slots.zipIdx.map fun (v,i)=>if keep.contains i then v else .any,boxes:=st.boxes.take nb }:St).boxes.length=nb:=by simp;omega
 have hrow:∀ r sz es,({ st with slots:=st.slots.zipIdx.map fun (v,i)=>if keep.contains i then v else .any,boxes:=st.boxes.take nb }:St).row r=some (sz,es)→st.row r=some (sz,es):=fun r sz es hr=>by
  cases r with
  |slot t =>
   have h1:=fF hr
   rcases hget t _ h1 with e|⟨e,_⟩
   ·cases e
   ·simp [St.row,e]
  |cell o j =>
   obtain ⟨bx,h1,h2,h3⟩:=dM hr
   simp only [Zad] at h1
   split at h1
   ·simp [St.row,h1,h2,h3]
   ·cases h1
  |part t i=>simp [St.row] at hr
 refine ⟨⟨by simpa using h.size,fun t av v ht hv=>?_,fun o bx ho=>?_,h.fresh⟩,hlen,rfl,rfl,hnb⟩
 ·rcases hget t av ht with e|⟨e,hl⟩
  ·subst e;trivial
  ·have hA:=h.slots t av v e hv
   cases av with
   |pv x=>exact hA
   |row sz es=>exact hA
   |ref r off len =>
    refine ⟨?_,fun sz es hr=>hA.2 sz es (hrow r sz es hr)⟩
    cases r<;>simp only [Root.low]<;>simpa [AV.low,hlen,hnb] using hl
   |aP o j=>exact ⟨by rw [hlen];simpa [AV.low] using hl,hA.2⟩
   |oO r i j =>
    refine ⟨?_,fun sz es hr=>hA.2 sz es (hrow r sz es hr)⟩
    cases r<;>simp only [Root.low]<;>simpa [AV.low,hlen,hnb] using hl
   |fn f caps =>
    obtain ⟨arr,e1,e2,e3⟩:=hA
    refine ⟨arr,e1,e2,fun k x u hx hu=>?_⟩
    have hcx:=e3 k x u hx hu
    have hlx:_:=zw.1 (by simpa [AV.low] using hl) x (zz hx)
    cases x with
    |pv p=>exact hcx
    |aP o j=>exact ⟨by rw [hlen];simpa using hlx,hcx.2⟩
    |_=>exact hcx
   |kV k l=>simp [AV.low] at hl
   |DN s l=>exact hA
   |pp o j=>exact ⟨by rw [hlen];simpa [AV.low] using hl,hA.2⟩
   |qX=>exact hA
   |any=>trivial
 ·simp only [Zad] at ho
  split at ho
  ·exact h.boxes o bx ho
  ·cases ho
theorem Si {s s1:St}{nb:Nat}(h:s.head keep nb=some s1):s1.boxes.length=nb∧s1.ys=s.ys∧s1.stop=s.stop∧nb≤s.boxes.length:=by
 unfold St.head at h
 simp only at h
 split at h
 case isFalse=>cases h
 rename_i hc
 simp only [ZS,decide_eq_true_eq] at hc
 have h:=ZD.inj h
 rw [← h]
 exact ⟨by simp;omega,rfl,rfl,hc.2⟩
theorem Aa {s:St}{sw:Bool}(h:lZ keep nb sw s=some st'):st'.ys=s.ys∧st'.stop=s.stop∧st'.boxes.length=s.boxes.length:=by
 unfold lZ at h
 obtain ⟨s1,h1,h2⟩:=bind_some h
 obtain ⟨e1,e2,e3,_⟩:=Si h1
 split at h2
 ·unfold St.swap2 at h2
  split at h2
  ·have h2:=ZD.inj h2
   rw [← h2]
   exact ⟨e2,e3,by rw [← e1];simp;omega⟩
  ·cases h2
 ·have h2:=ZD.inj h2
  rw [← h2];exact ⟨e2,e3,e1⟩
theorem After.ends (hC:C.Ok P L){s:St}{sw:Bool}{nb0:Nat}(hnb:nb≤nb0)(h:After C L nb σ T w s ds a1 w1)(he:lZ keep nb0 sw s=some st'):After C L nb σ T w st' ds a1 w1:=by
 obtain ⟨σ',T',ms,g1,g2,g3,g4,g5,g6⟩:=h
 unfold lZ at he
 obtain ⟨s1,h1,h2⟩:=bind_some he
 obtain ⟨q1,q2,q3,q4,_⟩:=g1.head h1
 split at h2
 ·obtain ⟨σ2,T2,k1,k2,k3,k4,k5,k6⟩:=q1.swap2 h2
  refine ⟨σ2,T2,ms,k1,?_,fun k hk=>(k3 k (by omega)).trans (g3 k hk),g4.trans (k2.oL w1).stays,g5,fun r hr=>⟨(g6.1 r hr).1,k2.ro r (g6.1 r hr).2.1,(g6.1 r hr).2.2⟩,g6.2⟩
  rw [k4,q3]
  exact hC.keep _ _ _ _ _ (k2.oL w1) g2
 ·have h2:=ZD.inj h2
  subst h2
  exact ⟨σ',T',ms,q1,by rw [q3];exact g2,g3,g4,g5,g6⟩
theorem Marks.app {T2:Tags}{w2:World}{ms ms2:List Nat}(h1:Marks T1 w w1 ms)(hsz:w.heap.size≤w1.heap.size)(hs:bY T1 T2 w1 w2)(h2:Marks T2 w1 w2 ms2):Marks T2 w w2 (ms2++ms):=by
 refine ⟨fun r hr=>?_,List.nodup_append.2 ⟨h2.2,h1.2,fun x hx y hy e=>?_⟩⟩
 ·rcases List.mem_append.1 hr with hr|hr
  ·obtain ⟨k1,k2,k3⟩:=h2.1 r hr
   exact ⟨Zaa hsz k1,k2,k3⟩
  ·obtain ⟨k1,k2,k3⟩:=h1.1 r hr
   have hl:r<w1.heap.size:=(zt.1 k3).1
   exact ⟨k1,hs.ro r k2,(hs.same r hl k2).trans k3⟩
 ·have k1:=(h2.1 x hx).1
  have hl:y<w1.heap.size:=(zt.1 (h1.1 y hy).2.2).1
  omega
theorem iZ (vo:List gQ)(a b:List Nat):bI vo (a++b)=bI vo a++bI vo b:=by simp [bI]
theorem nK (vo:List gQ)(i:Nat)(b:List Nat):bI vo (i::b)=vo.getD i default::bI vo b:=rfl
theorem kD (vo:List gQ)(a:List Nat):(bI vo a).length=a.length:=by simp [bI]
def Jk (P:Program)(rec:au→St→Option (Ex×St))(env:Env)(bT:Array Oper)(vo:List gQ)(keep:List Nat)(nb:Nat)(X:List (List PV))(st st':St)(z:gW):Prop :=
 y7 P bT z.fin z.last z.acts (bI vo (iT z.fin z.last z.acts))=true∧∃ s,ops rec env (bI vo (iT z.fin z.last z.acts)) st=some s∧s.ys <+: X∧lZ keep nb z.sw s=some st'
theorem qg {j:Nat}{z z':gW}(h:z.tail j=some z'):∃ seg,z.acts=(seg,j)::z'.acts∧z'.fin=z.fin∧z'.last=z.last∧z'.sw=z.sw:=by
 unfold gW.tail at h
 split at h
 ·rename_i seg i more hz
  split at h
  ·rename_i e
   have h:=ZD.inj h
   subst h;subst e
   exact ⟨seg,hz,rfl,rfl,rfl⟩
  ·cases h
 ·cases h
def Sj (P:Program)(rec:au→St→Option (Ex×St))(env:Env)(bT:Array Oper)(vo:List gQ)(keep:List Nat)(nb:Nat)(X:List (List PV))(st st':St)(z:gW):Prop :=
 zX P bT z.last z.acts (bI vo (iR z.last z.acts))=true∧∃ s,ops rec env (bI vo (iR z.last z.acts)) st=some s∧s.ys <+: X∧lZ keep nb z.sw s=some st'
theorem af4 (hW:kR F)(hC:C.Ok P L)(bf:fV P rec env){f:Nat}{nb0:Nat}(hnb:nb≤nb0){w0:World}{σ0:Nat→Nat}{T0:Tags}:∀ (m:Nat) (k:Nat) (alts:List gW) (l:Array Bool) {S2:World→Prop} {st:St} {σ:Nat→Nat} {T:Tags} {a:Act} {w:World},wC bT f m k alts l=true →
  aH L σ T st a w→(∀ T' w',bY T T' w w'→S2 w')→C.J st.ys.length T w→st.stop=C.stop→nb≤st.boxes.length→(∀ z∈alts,Sj P rec env bT vo keep nb0 C.X st st' z) →
  bY T0 T w0 w→(∀ k,k<nb→σ k=σ0 k)→(∃ ms,a.defers=ms.map jS++ds∧Marks T w0 w ms) →
  (∀ a' w',After C L nb σ0 T0 w0 st' ds a' w'→Q a' w')→rY F n P bT Q m S2 alts a w:=by
 have one:∀ (x:gW) {S2:World→Prop} {st:St} {σ:Nat→Nat} {T:Tags} {a:Act} {w:World},aH L σ T st a w→(∀ T' w',bY T T' w w'→S2 w')→C.J st.ys.length T w→st.stop=C.stop→nb≤st.boxes.length→Sj P rec env bT vo keep nb0 C.X st st' x →
  bY T0 T w0 w→(∀ k,k<nb→σ k=σ0 k)→(∃ ms,a.defers=ms.map jS++ds∧Marks T w0 w ms)→(∀ a' w',After C L nb σ0 T0 w0 st' ds a' w'→Q a' w')→oQ F n P bT Q x.last S2 x.acts a w:=fun x S2 st σ T a w h DV hJ hst hb hx mD hσ hms hn=>by
  obtain ⟨hm,s,hrun,hX,hend⟩:=hx
  obtain ⟨ms,hd,hM⟩:=hms
  refine KR hW hC bf hX h DV hJ hst hm hrun fun a' w' hA=>hn _ _ ?_
  exact (After.trans mD hσ hd hM hb hA).ends hC hnb hend
 intro m
 induction m with
 |zero =>
  intro k alts l S2 st σ T a w hB h DV hJ hst hb hz mD hσ hms hn
  match alts,hB,hz with
  |[x],_,hz=>simpa only [rY] using one x h DV hJ hst hb (hz x (by simp)) mD hσ hms hn
  |[],hB,_=>simp [wC] at hB
  |_::_::_,hB,_=>simp [wC] at hB
 |succ m ih =>
  intro k alts l S2 st σ T a w hB h DV hJ hst hb hz mD hσ hms hn
  match alts,hB,hz with
  |[],hB,_=>simp [wC] at hB
  |[x],_,hz=>simpa only [rY] using one x h DV hJ hst hb (hz x (by simp)) mD hσ hms hn
  |x::y::zs,hB,hz =>
   simp only [wC] at hB
   simp only [rY]
   generalize ha:x.acts=acts at hB
   match acts,ha,hB with
   |[],_,hB=>cases hB
   |(seg,i0)::more,ha,hB =>
    simp only [ZS,decide_eq_true_eq,beq_iff_eq] at hB
    obtain ⟨⟨⟨BG,hseg,htA⟩,hk⟩,hB⟩:=hB
    split at hB
    case h_2=>cases hB
    rename_i l1 hq1
    simp only [ZS,ZaM,Zbm] at hB
    obtain ⟨⟨hne,hin⟩,hall⟩:=hB
    have shape:∀ z∈x::y::zs,∃ i more,z.acts=(seg,i)::more:=fun z hzz=>by
     have:=zw.1 BG z hzz
     unfold Ed at this
     split at this
     ·rename_i s i more e
      exact ⟨i,more,by rw [e,eq_of_beq this]⟩
     ·cases this
    have rZ:∀ z∈x::y::zs,∀ i more,z.acts=(seg,i)::more→∃ st1 st2 s,mL P bT (pick bT [i]) [vo.getD i default]=true∧zX P bT z.last more (bI vo (iR z.last more))=true ∧
      ops rec env (bI vo seg) st=some st1∧op rec env (vo.getD i default) st1=some st2∧ops rec env (bI vo (iR z.last more)) st2=some s∧s.ys <+: C.X∧lZ keep nb0 z.sw s=some st':=fun z hzz i more e=>by
     obtain ⟨hm,s,hrun,hX,hend⟩:=hz z hzz
     rw [e] at hm hrun
     have e2:bI vo (iR z.last ((seg,i)::more))=bI vo seg++(vo.getD i default::bI vo (iR z.last more)):=by
      show bI vo (seg++(i::iR z.last more))=_
      rw [iZ,nK]
     have e3:bI vo seg=bI vo (Oc bT i seg)++bI vo (QY bT i seg):=by
      rw [← iZ];congr 1
      exact (Zbh (p:=Bf bT bT.size i) (l:=seg)).symm
     have hm2:=hm
     rw [e2,e3,Zan] at hm2
     rw [e2] at hrun
     have hlenA:=kD vo (Oc bT i seg)
     have sW:=kD vo (QY bT i seg)
     simp only [zX,ZS] at hm2
     rw [Zbc hlenA,Zbn hlenA,Zbc sW,Zbn sW] at hm2
     obtain ⟨st1,p1,p2⟩:=eF hrun
     obtain ⟨st2,p2,p3⟩:=rJ p2
     simp only [ZS] at hm2
     exact ⟨st1,st2,s,hm2.2.1,hm2.2.2,p1,p2,p3,hX,hend⟩
    obtain ⟨hmx,sx,Vd,_⟩:=hz x (by simp)
    have hB1:QY bT i0 seg=seg:=by
     have:=Zbh (p:=Bf bT bT.size i0) (l:=seg)
     have e:seg.takeWhile (Bf bT bT.size i0)=[]:=htA
     rw [e,List.nil_append] at this
     exact this
    have aan:mL P bT (pick bT seg) (bI vo seg)=true∧lu true (bI vo seg)=true:=by
     rw [ha] at hmx
     have e2:bI vo (iR x.last ((seg,i0)::more))=bI vo seg++(vo.getD i0 default::bI vo (iR x.last more)):=by
      show bI vo (seg++(i0::iR x.last more))=_
      rw [iZ,nK]
     rw [e2] at hmx
     simp only [zX,ZS,htA,hB1,ze,List.drop_zero] at hmx
     rw [Zbc (kD vo seg)] at hmx
     exact ⟨hmx.1.1.2,hmx.1.2⟩
    obtain ⟨st1,aqe,sx',_,_,p1,_⟩:=rZ x (by simp) i0 more ha
    refine ⟨QZ S2 T w,fun _ h=>h.1,gy DV T w (bY.refl T w),?_⟩
    refine uI h aan.1 aan.2 p1 fun a1 T1 g1 g2 g3 g4=>?_
    intro j hj
    obtain ⟨ms,hd,hM⟩:=hms
    have hJ1:C.J st1.ys.length T1 w:=by rw [g4.2.1];exact hC.keep _ _ _ _ _ (g2.oL w) hJ
    obtain ⟨z',hz'⟩:=Zb9 _ hj
    have hz':=hz'
    unfold tails at hz'
    obtain ⟨z,hzz,Zp⟩:=ZbB.1 hz'
    obtain ⟨Sm,hza,hf1,hf2,hf3⟩:=qg Zp
    have hseg':Sm=seg:=by
     obtain ⟨i,more',e⟩:=shape z hzz
     rw [hza] at e;cases e;rfl
    subst hseg'
    obtain ⟨t1,st2,s,hmj,hmz,q1,q2,q3,hXs,hend⟩:=rZ z hzz j z'.acts hza
    have:t1=st1:=by rw [p1] at q1;exact (ZD.inj q1).symm
    subst this
    have gl:=fH (rec:=rec) (env:=env) q3
    refine y8 hW hC bf g1 hJ1 (g4.2.2.trans hst) hmj q2 (gl.2.1.trans hXs) ?_
    rintro a2 w2 ⟨σ2,T2,ms2,k1,k2,k3,k4,k5,k6⟩ _
    have hs4:=((g2.oL w).stays).trans k4
    have hn3:∀ T' w',bY T2 T' w2 w'→QZ S2 T w w':=fun T' w' hw'=>gy DV T' w' (hs4.trans hw')
    refine ⟨hn3 _ _ (bY.refl _ _),?_⟩
    have hjr:j∈Region.ready .any bT l1:=by
     have:=zw.1 hin z hzz
     unfold KU at this
     rw [hza] at this
     simpa using this
    have hcov:=zw.1 hall j hjr
    simp only [ZS] at hcov
    have hs2:bY T0 T1 w0 w:=mD.trans (g2.oL w).stays
    have hM1:Marks T1 w0 w ms:=⟨fun r hr=>⟨(hM.1 r hr).1,g2.ro r (hM.1 r hr).2.1,(hM.1 r hr).2.2⟩,hM.2⟩
    refine ih _ _ _ hcov.2 k1 hn3 k2 (((iC q2).2.2.trans g4.2.2).trans hst) (Zaa hb (Zaa g4.1 (iC q2).1)) (fun u hu=>?_) (hs2.trans k4) (fun k hk=>(k3 k (Zab hk (Zaa hb g4.1))).trans (hσ k hk)) ?_ hn
    ·unfold tails at hu
     obtain ⟨z2,hz2,aao⟩:=ZbB.1 hu
     obtain ⟨aap,Ol,e1,e2,e3⟩:=qg aao
     have Om:aap=Sm:=by
      obtain ⟨i,more',e⟩:=shape z2 hz2
      rw [Ol] at e;cases e;rfl
     subst Om
     obtain ⟨t1',st2',s',_,aaq,q1',q2',q3',aar,hend'⟩:=rZ z2 hz2 j u.acts Ol
     have e4:t1'=t1:=by rw [q1] at q1';exact (ZD.inj q1').symm
     subst e4
     have e5:st2'=st2:=by rw [q2] at q2';exact (ZD.inj q2').symm
     subst e5
     unfold Sj
     rw [e2,e3]
     exact ⟨aaq,s',q3',aar,hend'⟩
    ·refine ⟨ms2++ms,by rw [k5,g3,hd];simp,?_⟩
     exact Marks.app hM1 hs2.size k4 k6
theorem ajK (hW:kR F)(hC:C.Ok P L)(bf:fV P rec env){f:Nat}{nb0:Nat}(hnb:nb≤nb0){w0:World}{σ0:Nat→Nat}{T0:Tags}:∀ (m:Nat) (k:Nat) (alts:List gW) (l:Array Bool) {S2:World→Prop} {st:St} {σ:Nat→Nat} {T:Tags} {a:Act} {w:World},vI bT f m k alts l=true →
  aH L σ T st a w→(∀ T' w',bY T T' w w'→S2 w')→C.J st.ys.length T w→st.stop=C.stop→nb≤st.boxes.length→(∀ z∈alts,Jk P rec env bT vo keep nb0 C.X st st' z) →
  bY T0 T w0 w→(∀ k,k<nb→σ k=σ0 k)→(∃ ms,a.defers=ms.map jS++ds∧Marks T w0 w ms) →
  (∀ a' w',After C L nb σ0 T0 w0 st' ds a' w'→Q a' w')→wE F n P bT Q m (Whole w) S2 alts a w:=by
 have one:∀ (x:gW) {S2:World→Prop} {st:St} {σ:Nat→Nat} {T:Tags} {a:Act} {w:World},aH L σ T st a w→(∀ T' w',bY T T' w w'→S2 w')→C.J st.ys.length T w→st.stop=C.stop→nb≤st.boxes.length→Jk P rec env bT vo keep nb0 C.X st st' x →
  bY T0 T w0 w→(∀ k,k<nb→σ k=σ0 k)→(∃ ms,a.defers=ms.map jS++ds∧Marks T w0 w ms)→(∀ a' w',After C L nb σ0 T0 w0 st' ds a' w'→Q a' w')→rG F n P bT Q (Whole w) S2 x.acts x.fin x.last a w:=fun x S2 st σ T a w h DV hJ hst hb hx mD hσ hms hn=>by
  obtain ⟨hm,s,hrun,hX,hend⟩:=hx
  obtain ⟨ms,hd,hM⟩:=hms
  refine RQ hW hC bf hX h DV hJ hst hm hrun fun a' w' hA=>hn _ _ ?_
  exact (After.trans mD hσ hd hM hb hA).ends hC hnb hend
 intro m
 induction m with
 |zero =>
  intro k alts l S2 st σ T a w hB h DV hJ hst hb hz mD hσ hms hn
  match alts,hB,hz with
  |[x],_,hz=>simpa only [wE] using one x h DV hJ hst hb (hz x (by simp)) mD hσ hms hn
  |[],hB,_=>simp [vI] at hB
  |_::_::_,hB,_=>simp [vI] at hB
 |succ m ih =>
  intro k alts l S2 st σ T a w hB h DV hJ hst hb hz mD hσ hms hn
  match alts,hB,hz with
  |[],hB,_=>simp [vI] at hB
  |[x],_,hz=>simpa only [wE] using one x h DV hJ hst hb (hz x (by simp)) mD hσ hms hn
  |x::y::zs,hB,hz =>
   simp only [vI] at hB
   simp only [wE]
   generalize ha:x.acts=acts at hB
   match acts,ha,hB with
   |[],ha,hB =>
    generalize hxf:x.fin=fin at hB
    match fin,hxf,hB with
    |none,_,hB=>cases hB
    |some (dW,dX,g,tl),hxf,hB =>
     simp only [ZS,decide_eq_true_eq,beq_iff_eq] at hB
     obtain ⟨⟨⟨⟨⟨BG,hfs⟩,hsg⟩,hsA,hsB⟩,hk⟩,hB⟩:=hB
     split at hB
     case h_2=>cases hB
     rename_i l1 hq1
     simp only [ZS,ZaM,Zbm] at hB
     obtain ⟨⟨⟨hne,hin⟩,aqf⟩,hall⟩:=hB
     have hgr:g∈Region.ready .any bT l1:=by simpa using aqf
     simp only [hxf]
     have hfin:∀ z∈y::zs,lU bT z.fin (dW++dX)=dW∧lq bT z.fin (dW++dX)=dX:=fun z hzz=>by
      have hx:=zw.1 hfs x (by simp)
      have hz:=zw.1 hfs z (ZbC _ hzz)
      simp only [ZS,beq_iff_eq] at hx hz
      rw [hxf] at hx
      have e:=Jj (ops:=bT) (x:=z.fin) (y:=some (dW,dX,g,tl)) (hz.1.trans hx.1.symm) (hz.2.trans hx.2.symm)
      unfold lU at hsA
      unfold lq at hsB
      unfold lU lq
      rw [e]
      exact ⟨hsA,hsB⟩
     have shape:∀ z∈y::zs,∀ s i more,z.acts=(s,i)::more→s=dW++dX:=fun z hzz s i more e=>by
      have:=zw.1 BG z hzz
      unfold EX at this
      rw [e] at this
      exact eq_of_beq this
     have ajL:∀ z∈x::y::zs,z.acts=[]→∃ tl',z.fin=some (dW,dX,g,tl'):=fun z hzz e=>by
      rcases ZaI.1 hzz with e1|hzz
      ·rw [e1];exact ⟨tl,hxf⟩
      have:=zw.1 BG z hzz
      unfold EX at this
      rw [e] at this
      simp only at this
      split at this
      ·rename_i a' b' c' tl' e2
       simp only [ZS,beq_iff_eq] at this
       obtain ⟨⟨e3,e4⟩,e5⟩:=this
       exact ⟨tl',by rw [e2,e3,e4,e5]⟩
      ·cases this
     have rZ:∀ z∈y::zs,∀ i more,z.acts=(dW++dX,i)::more→∃ st0 st1 st2 s,mL P bT (pick bT [i]) [vo.getD i default]=true∧Ob (vo.getD i default)=true∧y7 P bT z.fin z.last more (bI vo (iT z.fin z.last more))=true ∧
       ops rec env (bI vo dW) st=some st0∧ops rec env (bI vo dX) st0=some st1∧op rec env (vo.getD i default) st1=some st2∧ops rec env (bI vo (iT z.fin z.last more)) st2=some s∧s.ys <+: C.X∧lZ keep nb0 z.sw s=some st':=fun z hzz i more e=>by
      obtain ⟨hm,s,hrun,hX,hend⟩:=hz z (ZbC _ hzz)
      rw [e] at hm hrun
      have e2:bI vo (iT z.fin z.last ((dW++dX,i)::more))=bI vo dW++(bI vo dX++(vo.getD i default::bI vo (iT z.fin z.last more))):=by
       show bI vo ((dW++dX)++(i::iT z.fin z.last more))=_
       rw [iZ,iZ,nK,Zan]
      rw [e2] at hm hrun
      have hlenA:=kD vo dW
      have sW:=kD vo dX
      simp only [y7,ZS,(hfin z hzz).1,(hfin z hzz).2] at hm
      rw [Zbc hlenA,Zbn hlenA,Zbc sW,Zbn sW] at hm
      obtain ⟨st0,p0,p1⟩:=eF hrun
      obtain ⟨st1,p1,p2⟩:=eF p1
      obtain ⟨st2,p2,p3⟩:=rJ p2
      simp only [ZS] at hm
      exact ⟨st0,st1,st2,s,hm.2.1.1,hm.2.1.2,hm.2.2,p0,p1,p2,p3,hX,hend⟩
     obtain ⟨hmx,sx,Vd,hXx,arb⟩:=hz x (by simp)
     rw [ha,hxf] at hmx Vd
     have e2:bI vo (iT (some (dW,dX,g,tl)) x.last [])=bI vo dW++(bI vo dX++(vo.getD g default::bI vo (iR x.last tl))):=by
      show bI vo (dW++(dX++(g::iR x.last tl)))=_
      rw [iZ,iZ,nK]
     rw [e2] at hmx Vd
     have hlenA:=kD vo dW
     have sW:=kD vo dX
     simp only [y7,ZS] at hmx
     rw [Zbc hlenA,Zbn hlenA,Zbc sW,Zbn sW] at hmx
     simp only [ZS] at hmx
     obtain ⟨⟨⟨hqx,hqu⟩,hql⟩,hmg,hmt⟩:=hmx
     obtain ⟨st0,p0,p1⟩:=eF Vd
     obtain ⟨st1,p1,p2⟩:=eF p1
     obtain ⟨stg,p2,p3⟩:=rJ p2
     have glx:=fH (rec:=rec) (env:=env) p3
     refine BD h hqx p0 fun a0 Zq f1 f2 f3 f4=>?_
     have zf:∀ T' w',bY Zq T' w w'→S2 w':=fun T' w' hw=>DV T' w' ((f2.oL w).stays.trans hw)
     refine ⟨QZ S2 Zq w,fun _ h=>h.1,gy zf Zq w (bY.refl Zq w),?_⟩
     refine uI f1 hqu hql p1 fun a1 T1 g1 g2e g3' g4'=>?_
     have g2':=g2e
     have g2:=f2.trans g2'
     have g4:=f4.trans g4'
     have g3:=g3'.trans f3
     have hJ1:C.J st1.ys.length T1 w:=by rw [g4.2.1];exact hC.keep _ _ _ _ _ (g2.oL w) hJ
     obtain ⟨ms,hd,hM⟩:=hms
     have hs2:bY T0 T1 w0 w:=mD.trans (g2.oL w).stays
     have hM1:Marks T1 w0 w ms:=⟨fun r hr=>⟨(hM.1 r hr).1,g2.ro r (hM.1 r hr).2.1,(hM.1 r hr).2.2⟩,hM.2⟩
     have ana:wC bT f m (k - 1 - (dW.length+dX.length)) ((x::y::zs).filterMap aam) (l1.setIfInBounds g true)=true:=by
      have:=zw.1 hall g hgr
      rw [if_pos rfl] at this
      exact this
     refine ⟨?_,fun j hjg hj=>?_⟩
     ·refine y8 hW hC bf g1 hJ1 (g4.2.2.trans hst) hmg p2 (glx.2.1.trans hXx) ?_
      rintro a2 w2 ⟨σ2,T2,ms2,k1,k2,k3,k4,k5,k6⟩ _
      have hs4:=((g2'.oL w).stays).trans k4
      have hn3:∀ T' w',bY T2 T' w2 w'→QZ S2 Zq w w':=fun T' w' hw'=>gy zf T' w' (hs4.trans hw')
      refine ⟨hn3 _ _ (bY.refl _ _),?_⟩
      refine af4 (keep:=keep) (vo:=vo) hW hC bf hnb _ _ _ _ ana k1 hn3 k2 (((iC p2).2.2.trans g4.2.2).trans hst) (Zaa hb (Zaa g4.1 (iC p2).1)) (fun u hu=>?_) (hs2.trans k4) (fun k hk=>(k3 k (Zab hk (Zaa hb g4.1))).trans (hσ k hk)) ?_ hn
      ·obtain ⟨z,hzz,Zp⟩:=ZbB.1 hu
       have hza:z.acts=[]:=by
        unfold aam at Zp
        split at Zp
        ·assumption
        ·cases Zp
       obtain ⟨tl',hzf⟩:=ajL z hzz hza
       have eu:u={ z with acts:=tl',fin:=none }:=by
        unfold aam at Zp
        rw [hza,hzf] at Zp
        exact (ZD.inj Zp).symm
       obtain ⟨hmz,sz,aas,hXz,anb⟩:=hz z hzz
       rw [hza,hzf] at hmz aas
       have e2:bI vo (iT (some (dW,dX,g,tl')) z.last [])=bI vo dW++(bI vo dX++(vo.getD g default::bI vo (iR z.last tl'))):=by
        show bI vo (dW++(dX++(g::iR z.last tl')))=_
        rw [iZ,iZ,nK]
       rw [e2] at hmz aas
       simp only [y7,ZS] at hmz
       rw [Zbc hlenA,Zbn hlenA,Zbc sW,Zbn sW] at hmz
       simp only [ZS] at hmz
       obtain ⟨aqi,z0,z1⟩:=eF aas
       obtain ⟨st1',z1,z2⟩:=eF z1
       obtain ⟨aqj,z2,z3⟩:=rJ z2
       have e0:aqi=st0:=by rw [p0] at z0;exact (ZD.inj z0).symm
       subst e0
       have e1:st1'=st1:=by rw [p1] at z1;exact (ZD.inj z1).symm
       subst e1
       have e3:aqj=stg:=by rw [p2] at z2;exact (ZD.inj z2).symm
       subst e3
       rw [eu]
       exact ⟨hmz.2.2,sz,z3,hXz,anb⟩
      ·refine ⟨ms2++ms,by rw [k5,g3,hd];simp,?_⟩
       exact Marks.app hM1 hs2.size k4 k6
     obtain ⟨z',hz'⟩:=Zb9 _ hj
     have hz':=hz'
     unfold tails at hz'
     obtain ⟨z,hzz,Zp⟩:=ZbB.1 hz'
     obtain ⟨Sm,hza,hf1,hf2,hf3⟩:=qg Zp
     have hzx:z∈y::zs:=hzz
     have hseg:Sm=dW++dX:=shape z hzz _ _ _ hza
     subst hseg
     obtain ⟨t0,t1,st2,s,hmj,hcalm,hmz,q0,q1,q2,q3,hXs,hend⟩:=rZ z hzz j z'.acts hza
     have:t0=st0:=by rw [p0] at q0;exact (ZD.inj q0).symm
     subst this
     have:t1=st1:=by rw [p1] at q1;exact (ZD.inj q1).symm
     subst this
     have gl:=fH (rec:=rec) (env:=env) q3
     refine y8 hW hC bf g1 hJ1 (g4.2.2.trans hst) hmj q2 (gl.2.1.trans hXs) ?_
     rintro a2 w2 ⟨σ2,T2,ms2,k1,k2,k3,k4,k5,k6⟩ hwh
     have hwh:=hwh hcalm
     have hs4:=((g2'.oL w).stays).trans k4
     have hn3:∀ T' w',bY T2 T' w2 w'→QZ S2 Zq w w':=fun T' w' hw'=>gy zf T' w' (hs4.trans hw')
     refine ⟨Whole w2,fun w' hw'=>⟨Zaa hwh.1 hw'.1,fun b hb=>(hw'.2 b (Zab hb hwh.1)).trans (hwh.2 b hb)⟩,Whole.refl w2,hn3 _ _ (bY.refl _ _),?_⟩
     have hjr:j∈Region.ready .any bT l1:=by
      have:=zw.1 hin z hzz
      unfold Va at this
      rw [hza] at this
      simpa using this
     have hcov:=zw.1 hall j hjr
     rw [if_neg hjg] at hcov
     refine ih _ _ _ hcov k1 hn3 k2 (((iC q2).2.2.trans g4.2.2).trans hst) (Zaa hb (Zaa g4.1 (iC q2).1)) (fun u hu=>?_) (hs2.trans k4) (fun k hk=>(k3 k (Zab hk (Zaa hb g4.1))).trans (hσ k hk)) ?_ hn
     ·unfold tails at hu
      obtain ⟨z2,hz2,aao⟩:=ZbB.1 hu
      obtain ⟨aap,Ol,e1,e2,e3⟩:=qg aao
      have Om:aap=dW++dX:=shape z2 hz2 _ _ _ Ol
      subst Om
      obtain ⟨t0',t1',st2',s',_,_,aaq,q0',q1',q2',q3',aar,hend'⟩:=rZ z2 hz2 j u.acts Ol
      have e0:t0'=t0:=by rw [q0] at q0';exact (ZD.inj q0').symm
      subst e0
      have e4:t1'=t1:=by rw [q1] at q1';exact (ZD.inj q1').symm
      subst e4
      have e5:st2'=st2:=by rw [q2] at q2';exact (ZD.inj q2').symm
      subst e5
      unfold Jk
      rw [e1,e2,e3]
      exact ⟨aaq,s',q3',aar,hend'⟩
     ·refine ⟨ms2++ms,by rw [k5,g3,hd];simp,?_⟩
      exact Marks.app hM1 hs2.size k4 k6
   |(seg,i0)::more,ha,hB =>
    simp only [ZS,decide_eq_true_eq] at hB
    obtain ⟨⟨⟨⟨BG,hfs⟩,hsg⟩,hk⟩,hB⟩:=hB
    split at hB
    case h_2=>cases hB
    rename_i l1 hq1
    simp only [ZS,ZaM,Zbm] at hB
    obtain ⟨⟨hne,hin⟩,hall⟩:=hB
    have hfin:∀ z∈x::y::zs,lU bT z.fin seg=lU bT x.fin seg∧lq bT z.fin seg=lq bT x.fin seg:=fun z hzz=>by
     have hx:=zw.1 hfs x (by simp)
     have hz:=zw.1 hfs z hzz
     simp only [ZS,beq_iff_eq] at hx hz
     have e:=Jj (ops:=bT) (x:=z.fin) (y:=x.fin) (hz.1.trans hx.1.symm) hz.2
     unfold lU lq
     rw [e]
     exact ⟨rfl,rfl⟩
    have shape:∀ z∈x::y::zs,∃ i more,z.acts=(seg,i)::more:=fun z hzz=>by
     have:=zw.1 BG z hzz
     unfold Ed at this
     split at this
     ·rename_i s i more e
      exact ⟨i,more,by rw [e,eq_of_beq this]⟩
     ·cases this
    have rZ:∀ z∈x::y::zs,∀ i more,z.acts=(seg,i)::more→∃ st0 st1 st2 s,uH P bT (lU bT x.fin seg) (bI vo (lU bT x.fin seg))=true∧(mL P bT (pick bT (lq bT x.fin seg)) (bI vo (lq bT x.fin seg))=true∧lu true (bI vo (lq bT x.fin seg))=true)∧mL P bT (pick bT [i]) [vo.getD i default]=true∧Ob (vo.getD i default)=true∧y7 P bT z.fin z.last more (bI vo (iT z.fin z.last more))=true ∧
      ops rec env (bI vo (lU bT x.fin seg)) st=some st0∧ops rec env (bI vo (lq bT x.fin seg)) st0=some st1∧op rec env (vo.getD i default) st1=some st2∧ops rec env (bI vo (iT z.fin z.last more)) st2=some s∧s.ys <+: C.X∧lZ keep nb0 z.sw s=some st':=fun z hzz i more e=>by
     obtain ⟨hm,s,hrun,hX,hend⟩:=hz z hzz
     rw [e] at hm hrun
     have e2:bI vo (iT z.fin z.last ((seg,i)::more))=bI vo (lU bT x.fin seg)++(bI vo (lq bT x.fin seg)++(vo.getD i default::bI vo (iT z.fin z.last more))):=by
      show bI vo (seg++(i::iT z.fin z.last more))=_
      rw [iZ,nK,← Zan,← iZ]
      congr 2
      exact (Zbh (p:=qH bT x.fin) (l:=seg)).symm
     rw [e2] at hm hrun
     have hlenA:=kD vo (lU bT x.fin seg)
     have sW:=kD vo (lq bT x.fin seg)
     simp only [y7,ZS,(hfin z hzz).1,(hfin z hzz).2] at hm
     rw [Zbc hlenA,Zbn hlenA,Zbc sW,Zbn sW] at hm
     obtain ⟨st0,p0,p1⟩:=eF hrun
     obtain ⟨st1,p1,p2⟩:=eF p1
     obtain ⟨st2,p2,p3⟩:=rJ p2
     simp only [ZS] at hm
     exact ⟨st0,st1,st2,s,hm.1.1.1,⟨hm.1.1.2,hm.1.2⟩,hm.2.1.1,hm.2.1.2,hm.2.2,p0,p1,p2,p3,hX,hend⟩
    obtain ⟨st0,st1,aqe,sx,hqx,hqb,_,_,_,p0,p1,_⟩:=rZ x (by simp) i0 more ha
    refine BD h hqx p0 fun a0 Zq f1 f2 f3 f4=>?_
    have zf:∀ T' w',bY Zq T' w w'→S2 w':=fun T' w' hw=>DV T' w' ((f2.oL w).stays.trans hw)
    refine ⟨QZ S2 Zq w,fun _ h=>h.1,gy zf Zq w (bY.refl Zq w),?_⟩
    refine uI f1 hqb.1 hqb.2 p1 fun a1 T1 g1 g2e g3' g4'=>?_
    have g2':=g2e
    have g2:=f2.trans g2'
    have g4:=f4.trans g4'
    have g3:=g3'.trans f3
    intro j hj
    obtain ⟨ms,hd,hM⟩:=hms
    have hJ1:C.J st1.ys.length T1 w:=by rw [g4.2.1];exact hC.keep _ _ _ _ _ (g2.oL w) hJ
    obtain ⟨z',hz'⟩:=Zb9 _ hj
    have hz':=hz'
    unfold tails at hz'
    obtain ⟨z,hzz,Zp⟩:=ZbB.1 hz'
    obtain ⟨Sm,hza,hf1,hf2,hf3⟩:=qg Zp
    have hseg:Sm=seg:=by
     obtain ⟨i,more',e⟩:=shape z hzz
     rw [hza] at e;cases e;rfl
    subst hseg
    obtain ⟨t0,t1,st2,s,_,_,hmj,hcalm,hmz,q0,q1,q2,q3,hXs,hend⟩:=rZ z hzz j z'.acts hza
    have:t0=st0:=by rw [p0] at q0;exact (ZD.inj q0).symm
    subst this
    have:t1=st1:=by rw [p1] at q1;exact (ZD.inj q1).symm
    subst this
    have gl:=fH (rec:=rec) (env:=env) q3
    refine y8 hW hC bf g1 hJ1 (g4.2.2.trans hst) hmj q2 (gl.2.1.trans hXs) ?_
    rintro a2 w2 ⟨σ2,T2,ms2,k1,k2,k3,k4,k5,k6⟩ hwh
    have hwh:=hwh hcalm
    have hs4:=((g2'.oL w).stays).trans k4
    have hn3:∀ T' w',bY T2 T' w2 w'→QZ S2 Zq w w':=fun T' w' hw'=>gy zf T' w' (hs4.trans hw')
    refine ⟨Whole w2,fun w' hw'=>⟨Zaa hwh.1 hw'.1,fun b hb=>(hw'.2 b (Zab hb hwh.1)).trans (hwh.2 b hb)⟩,Whole.refl w2,hn3 _ _ (bY.refl _ _),?_⟩
    have hjr:j∈Region.ready .any bT l1:=by
     have:=zw.1 hin z hzz
     unfold KU at this
     rw [hza] at this
     simpa using this
    have hcov:=zw.1 hall j hjr
    have hs2:bY T0 T1 w0 w:=mD.trans (g2.oL w).stays
    have hM1:Marks T1 w0 w ms:=⟨fun r hr=>⟨(hM.1 r hr).1,g2.ro r (hM.1 r hr).2.1,(hM.1 r hr).2.2⟩,hM.2⟩
    refine ih _ _ _ hcov k1 hn3 k2 (((iC q2).2.2.trans g4.2.2).trans hst) (Zaa hb (Zaa g4.1 (iC q2).1)) (fun u hu=>?_) (hs2.trans k4) (fun k hk=>(k3 k (Zab hk (Zaa hb g4.1))).trans (hσ k hk)) ?_ hn
    ·unfold tails at hu
     obtain ⟨z2,hz2,aao⟩:=ZbB.1 hu
     obtain ⟨aap,Ol,e1,e2,e3⟩:=qg aao
     have Om:aap=Sm:=by
      obtain ⟨i,more',e⟩:=shape z2 hz2
      rw [Ol] at e;cases e;rfl
     subst Om
     obtain ⟨t0',t1',st2',s',_,_,_,_,aaq,q0',q1',q2',q3',aar,hend'⟩:=rZ z2 hz2 j u.acts Ol
     have e0:t0'=t0:=by rw [q0] at q0';exact (ZD.inj q0').symm
     subst e0
     have e4:t1'=t1:=by rw [q1] at q1';exact (ZD.inj q1').symm
     subst e4
     have e5:st2'=st2:=by rw [q2] at q2';exact (ZD.inj q2').symm
     subst e5
     unfold Jk
     rw [e1,e2,e3]
     exact ⟨aaq,s',q3',aar,hend'⟩
    ·refine ⟨ms2++ms,by rw [k5,g3,hd];simp,?_⟩
     exact Marks.app hM1 hs2.size k4 k6
theorem Dk {alts:List gW}(h:kW rec env keep vo st alts=some st'):∀ z∈alts,l7 rec env keep vo st z=some st':=by
 cases alts with
 |nil=>simp [kW] at h
 |cons x xs =>
  simp only [kW] at h
  obtain ⟨s,h1,h2⟩:=bind_some h
  obtain ⟨e,g⟩:=Oj h2
  subst e
  intro z hz
  rcases ZaI.1 hz with rfl|hz
  ·exact h1
  ·exact g _ (List.mem_map_of_mem hz)
theorem Ii {alts:List gW}(h:kW rec env keep vo st alts=some st'):st.boxes.length≤st'.boxes.length∧st.ys <+: st'.ys∧st'.stop=st.stop:=by
 cases alts with
 |nil=>simp [kW] at h
 |cons x xs =>
  have h1:=Dk h x (by simp)
  unfold l7 at h1
  obtain ⟨s,h2,h3⟩:=bind_some h1
  obtain ⟨e1,e2,e3⟩:=Aa h3
  have g:=fH h2
  exact ⟨by rw [e3];exact g.1,by rw [e1];exact g.2.1,by rw [e2];exact g.2.2⟩
theorem Ij {id:Nat}{Q:Exit→Act→World→Prop}{alts:List gW}(hW:kR F)(hC:C.Ok P L)(bf:fV P rec env)(h:aH L σ T st a w)(hJ:C.J st.ys.length T w)(hst:st.stop=C.stop)(hX:st'.ys <+: C.X)
  (hmo:P.follows .mixedOrders=true) (hnd:jG bT=true) (hok:RY P bT vo alts=true) (hp:kW rec env keep vo st alts=some st')
  (hn:∀ a' w',After C L st.boxes.length σ T w st' a.defers a' w'→Q .normal a' w'):(Code.region id bT true).wpIn F n P Q a w:=by
 simp only [RY,ZS] at hok
 obtain ⟨⟨hsel,hall⟩,hB⟩:=hok
 have hz:∀ z∈alts,Jk P rec env bT vo keep st.boxes.length C.X st st' z:=fun z hz=>by
  have h1:=zw.1 hall z hz
  simp only [ZS] at h1
  have h2:=Dk hp z hz
  unfold l7 at h2
  obtain ⟨s,h3,h4⟩:=bind_some h2
  have he:=eq_of_beq h1.1
  unfold Jk
  rw [← he]
  exact ⟨h1.2,s,h3,by rw [← (Aa h4).1];exact hX,h4⟩
 split at hB
 ·cases hB
 rename_i x xs
 refine DW (Whole w.drew) hW.fn hmo hnd hsel hB (Whole.refl _) ?_
 refine ajK hW hC bf (nb:=st.boxes.length) (zg _) (w0:=w.drew) (σ0:=σ) (T0:=T) (ds:=a.defers) _ _ _ _ hB (h.sees (Ji T w)) (fun _ _ _=>trivial) (hC.keep _ _ _ _ _ (zY T w) hJ) hst (zg _) hz (bY.refl _ _) (fun _ _=>rfl) ⟨[],rfl,Marks.nil⟩ fun a' w' hA=>hn _ _ ?_
 exact After.trans (ms:=[]) (zY T w).stays (fun _ _=>rfl) rfl Marks.nil (zg _) hA
end
section
variable {P:Program}{F:Fence}{C:Ctx}{n L nb:Nat}{σ σ':Nat→Nat}{T T' T1 T2:Tags}{st st' st1 st2:St}{a a1:Act}{w w1 w2:World}{d:Nat}{ks:List Nat}{l:List gQ}{sz:Nat}{es:List PV}
 {rec:au→St→Option (Ex×St)} {env:Env} {bT:Array Oper}
theorem Grow.vU {st0:St}(h:Grow nb st1 st2)(hb:st0.vU d ks sz es st2=some st'):Grow nb st1 st':=by
 unfold St.vU at hb
 split at hb
 ·have hb:=ZD.inj hb
  subst hb;exact h
 ·cases hb
end
def mC (P:Program):Code→au→Bool
 |c,.clean _ _ v=>mC P c v
 |_,.drs _ _ _ []=>true
 |.skip,.skip=>true
 |.label _,.skip=>true
 |.region _ ops false,.ops l=>mL P ops ops.toList l
 |.region _ ops true,.qp _ acts fin last l=>P.follows .mixedOrders&&jG ops&&U9 ops acts fin last&&y7 P ops fin last acts l
 |.region _ ops true,.drs _ _ vo alts=>P.follows .mixedOrders&&jG ops&&RY P ops vo alts
 |.seq a b,.seq c d=>mC P a c&&mC P b d
 |.cond x a b,.cond y c d=>aI x y&&mC P a c&&mC P b d
 |.block i a,.block j c=>i==j&&mC P a c
 |.loop a,.loop _ c=>mC P a c
 |.rangeFunc g ps ug bd,.rng g' ps' Oo bd'=>aI g g'&&ps.toList==ps'&&mC P ug Oo&&mC P bd bd'
 |.exit i,.exit j=>i==j
 |.scope a,.scp c=>mC P a c
 |.ret,.ret=>true
 |.region _ ops false,.dem l d f args=>mL P ops ops.toList (l++[.call d f args])
 |_,_=>false
def toX:Ex→Exit
 |.normal=>.normal
 |.exit i=>.exit i
 |.ret=>.ret
 |.oK t n=>.panic [{ v:=.iface t (.int .i64 n),recovered:=false }]
def Post (C:Ctx)(L nb:Nat)(σ:Nat→Nat)(T:Tags)(w:World)(e:Ex)(st':St)(ds:List Deferred):Exit→Act→World→Prop:=fun x a' w'=>x=toX e∧After C L nb σ T w st' ds a' w'
def Ctx.Rec (C:Ctx)(F:Fence):Prop:=∀ l,F=Fence.wide.inRound l→∀ k T w,C.J k T w→∃ r,w.heap[l]?=some (.loop r)
theorem Ctx.Ac (C:Ctx):C.Rec Fence.wide:=fun l e=>by
 have:Fence.wide.round=(Fence.wide.inRound l).round:=by rw [← e]
 cases this
structure qI (P:Program)(rec:au→St→Option (Ex×St)):Prop where
 grow:∀ c vc st e st',mC P c vc=true→rec vc st=some (e,st')→Grow st.boxes.length st st'
 aat:∀ c keep nb vc st e st',mC P c vc=true→rec (.round keep nb vc) st=some (e,st')→Grow nb st st'
 wp:∀ {F:Fence} {L:Nat} {C:Ctx} {n:Nat},kR F→C.Rec F→C.Ok P L→∀ c vc st e st',mC P c vc=true→rec vc st=some (e,st')→st.stop=C.stop→st'.ys <+: C.X→∀ σ T a w,aH L σ T st a w→C.J st.ys.length T w→c.wpIn F n P (Post C L st.boxes.length σ T w e st' a.defers) a w
 wpR:∀ {F:Fence} {L:Nat} {C:Ctx} {n:Nat},kR F→C.Rec F→C.Ok P L→∀ c keep nb vc st e st',mC P c vc=true→rec (.round keep nb vc) st=some (e,st')→st.stop=C.stop→st'.ys <+: C.X→∀ σ T a w,aH L σ T st a w→C.J st.ys.length T w→yX F n P c (Post C L nb σ T w e st' a.defers) a w
section
variable {P:Program}{F:Fence}{C:Ctx}{n L nb:Nat}{σ σ':Nat→Nat}{T T' T1 T2:Tags}{st st' st1:St}{a a1:Act}{w w1:World}{o:Oper}{vo:gQ}{y:Operand}{x:bF}{d:Nat}
 {rec:au→St→Option (Ex×St)} {env:Env} {next:Act→World→Prop} {Q:Exit→Act→World→Prop} {bT:Array Oper} {ds:List Deferred} {e:Ex}
end
def nZ (K:Nat):yH:=.row (.part (K+1) 0)
section
variable {P:Program}{F:Fence}{C:Ctx}{n L nb:Nat}{σ σ':Nat→Nat}{T T' T1 T2:Tags}{st st' st1:St}{a a1:Act}{w w' w1:World}{o:Oper}{vo:gQ}{y:Operand}{x:bF}{d:Nat}
 {rec:au→St→Option (Ex×St)} {env:Env} {next:Act→World→Prop} {Q:Exit→Act→World→Prop} {bT:Array Oper} {ds:List Deferred} {e:Ex}
def aau (T:Tags)(K:Nat):Tags:=fun b=>if T b=nZ K then .other else T b
theorem Xe {K b:Nat}(h:T b=nZ K):aau T K b=.other:=if_pos h
theorem Xf {K b:Nat}(h:T b≠nZ K):aau T K b=T b:=if_neg h
def KW (L nb:Nat)(σ:Nat→Nat)(T:Tags)(w:World):AV→Value→Prop
 |.pv x,v=>aA (fun b=>T b=.ro) w x v
 |.aP o j,v=>o<nb∧v=.pointer (some ⟨σ o,j,none⟩)
 |.pp o j,v=>o<nb∧∃ b E,v=.pointer (some ⟨b,0,none⟩)∧T b=.ro∧w.heap[b]?=some (.cells #[.pointer (some ⟨σ o,j,none⟩)] E (0,0))
 |.fn f caps,v=>∃ arr:Array Value,v=.func (.func f) #[] arr∧arr.size=caps.length∧∀ (k:Nat) x u,caps[k]?=some x→arr[k]?=some u→gV nb σ T w x u
 |.qX,v=>v=.func (.yield L) #[] #[]
 |.any,_=>True
 |_,_=>False
def mF (L nb:Nat)(σ:Nat→Nat)(T:Tags)(w:World)(slots:List AV)(tmps:Array Value):Prop :=
 tmps.size=slots.length∧∀ (t:Nat) av v,slots[t]?=some av→tmps[t]?=some v→KW L nb σ T w av v
theorem KW.keep {av:AV}{v:Value}(h:KW L nb σ T w av v)(hw:∀ b,T b=.ro→b<w.heap.size→T' b=.ro∧w'.heap[b]?=w.heap[b]?)(hσ:∀ o,o<nb→σ' o=σ o):KW L nb σ' T' w' av v:=by
 cases av<;>simp only [KW] at h ⊢
 case pv x=>exact aA.frame hw h
 case aP o j=>exact ⟨h.1,by rw [hσ o h.1];exact h.2⟩
 case pp o j =>
  obtain ⟨g0,b,E,e1,e2,e3⟩:=h
  have:=hw b e2 (zt.1 e3).1
  exact ⟨g0,b,E,e1,this.1,by rw [hσ o g0];exact this.2.trans e3⟩
 case fn f caps =>
  obtain ⟨arr,e1,e2,e3⟩:=h
  refine ⟨arr,e1,e2,fun k x u hx hu=>?_⟩
  have:=e3 k x u hx hu
  cases x<;>simp only [gV] at this ⊢
  case pv p=>exact aA.frame hw this
  case aP o j=>exact ⟨this.1,by rw [hσ o this.1];exact this.2⟩
 case qX=>exact h
theorem mF.keep {slots:List AV}{tmps:Array Value}(h:mF L nb σ T w slots tmps)(hw:∀ b,T b=.ro→b<w.heap.size→T' b=.ro∧w'.heap[b]?=w.heap[b]?)(hσ:∀ o,o<nb→σ' o=σ o):mF L nb σ' T' w' slots tmps :=
 ⟨h.1,fun t av v ht hv=>(h.2 t av v ht hv).keep hw hσ⟩
theorem KW.aqk {av:AV}{v:Value}{t:Nat}(h:KW L nb σ T w av v)(hnb:nb≤st.boxes.length):kF L σ T st a w t av v:=by
 cases av<;>simp only [KW] at h<;>simp only [kF]
 case pv x=>exact h
 case aP o j=>exact ⟨by omega,h.2⟩
 case pp o j=>exact ⟨by omega,h.2⟩
 case fn f caps =>
  obtain ⟨arr,e1,e2,e3⟩:=h
  refine ⟨arr,e1,e2,fun k x u hx hu=>?_⟩
  have:=e3 k x u hx hu
  cases x<;>simp only [gV] at this ⊢
  case pv p=>exact this
  case aP o j=>exact ⟨by omega,this.2⟩
 case qX=>exact h
theorem mF.sim {slots:List AV}{boxes:List Box}{ys:List (List PV)}{stop:Option (Option Nat)}{tmps:Array Value}{dfs:List Deferred}(h:mF L nb σ T w slots tmps)(hnb:nb≤boxes.length)(hb:∀ (o:Nat) bx,boxes[o]?=some bx→iK T w (σ o) o bx)
  (hf:∀ b,w.heap.size≤b→T b=.other):aH L σ T ⟨slots,boxes,ys,stop⟩ { tmps:=tmps,defers:=dfs } w :=
 ⟨h.1,fun t av v ht hv=>(h.2 t av v ht hv).aqk hnb,hb,hf⟩
theorem aH.froze (h:aH L σ T st a w):∃ T',mF L st.boxes.length σ T' w (st.slots.map AV.froze) a.tmps∧(∀ (o:Nat) bx,st.boxes[o]?=some bx→iK T' w (σ o) o bx)∧Still T T':=by
 refine ⟨fun b=>match T b with|.row (.slot _)=>.ro|q=>q,⟨by simp [h.size],fun t av v ht hv=>?_⟩,fun o bx ho=>?_,⟨fun b e=>by simp [e],fun b e=>by simp [e]⟩⟩
 ·rw [zd] at ht
  cases e:st.slots[t]? with
  |none=>rw [e] at ht;cases ht
  |some av0 =>
   rw [e] at ht
   simp only [Zak,ZD.injEq] at ht
   subst ht
   have hA:=h.slots t av0 v e hv
   have hro:∀ b,T b=.ro→(match T b with|.row (.slot _)=>yH.ro|q=>q)=.ro:=fun b e=>by simp [e]
   cases av0<;>simp only [AV.froze,KW]<;>simp only [kF] at hA
   case pv x=>exact aA.frame (fun b e _=>⟨hro b e,rfl⟩) hA
   case row sz es=>exact aJ.list (fun b e=>by simp [e]) (fun b e=>hro b e) hA
   case aP o j=>exact hA
   case pp o j =>
    obtain ⟨g0,b,E,e1,e2,e3⟩:=hA
    exact ⟨g0,b,E,e1,hro b e2,e3⟩
   case fn f caps =>
    obtain ⟨arr,e1,e2,e3⟩:=hA
    refine ⟨arr,e1,e2,fun k x u hx hu=>?_⟩
    have:=e3 k x u hx hu
    cases x<;>simp only [gV] at this ⊢
    case pv p=>exact aA.frame (fun b e _=>⟨hro b e,rfl⟩) this
    case aP o j=>exact this
   case qX=>exact hA
 ·have hb:=h.boxes o bx ho
  have hT:(match T (σ o) with|.row (.slot _)=>yH.ro|q=>q)=T (σ o):=by
   obtain ⟨_,_,_,_,h3,_⟩:=hb
   rw [h3];cases hfz:bx.fz<;>simp
  exact hb.frame ⟨hT,rfl⟩ (fun j b e _=>⟨by simp [e],rfl⟩) (fun b e _=>⟨by simp [e],rfl⟩)
theorem mF.params:∀ {ps:List Nat} {x:List PV} {vs:List Value} {slots sl:List AV} {tmps:Array Value},fO slots ps x=some sl→mF L nb σ T w slots tmps→vs.length=x.length→(∀ (i:Nat) p v,x[i]?=some p→vs[i]?=some v→aA (fun b=>T b=.ro) w p v) →
  ps.length=vs.length∧mF L nb σ T w sl ((ps.zip vs).foldl (fun t (p,v)=>t.setIfInBounds p v) tmps)
 |[],[],vs,slots,sl,tmps,hs,h,hl,hr=>by
  simp only [fO,ZD.injEq] at hs
  subst hs
  have:vs=[]:=List.eq_nil_of_length_eq_zero (by simpa using hl)
  subst this
  exact ⟨rfl,h⟩
 |p::ps,q::x,v::vs,slots,sl,tmps,hs,h,hl,hr=>by
  simp only [fO] at hs
  have h1:mF L nb σ T w (slots.set p (.pv q)) (tmps.setIfInBounds p v):=by
   refine ⟨by simp [h.1],fun t av u ht hu=>?_⟩
   rw [List.getElem?_set] at ht
   rw [Za3] at hu
   by_cases e:p=t
   ·subst e
    simp only [if_true] at ht hu
    split at ht
    ·split at hu
     ·cases ht;cases hu
      exact hr 0 q v rfl rfl
     ·cases hu
    ·cases ht
   ·simp only [if_neg e] at ht hu
    exact h.2 t av u ht hu
  obtain ⟨k1,k2⟩:=mF.params (vs:=vs) hs h1 (by simpa using hl) (fun i p v hp hv=>hr (i+1) p v hp hv)
  exact ⟨by simp [k1],k2⟩
 |[],_::_,_,_,_,_,hs,_,_,_=>by simp [fO] at hs
 |_::_,[],_,_,_,_,hs,_,_,_=>by simp [fO] at hs
 |_::_,_::_,[],_,_,_,_,_,hl,_=>by simp at hl
theorem wF (hg:∀ c vc st e st',mC P c vc=true→rec vc st=some (e,st')→Grow st.boxes.length st st'){ca cb:Code}{slots:List AV}{ps:List Nat}{ug bd:au}(ha:mC P ca ug=true)(hb:mC P cb bd=true) :
  ∀ (xs:List (List PV)) (k:Nat) (s:St) r s',rounds rec slots ps ug bd nb k xs s=some (r,s')→nb≤s.boxes.length→Grow nb s s'
 |[],k,s,r,s',h,hn=>by
  simp only [rounds,ZD.injEq,ZaB.injEq] at h
  rw [← h.2];exact ⟨hn,ZbU _,rfl⟩
 |x::xs,k,s,r,s',h,hn=>by
  unfold rounds at h
  replace h:=bind_some h
  obtain ⟨sl,h1,h⟩:=h
  replace h:=bind_some h
  obtain ⟨⟨e1,s1⟩,h2,h⟩:=h
  have g1:=hg _ _ _ _ _ ha h2
  simp only at h
  split at h
  case h_2=>cases h
  replace h:=bind_some h
  obtain ⟨⟨e2,s2⟩,h3,h⟩:=h
  have g2:=hg _ _ _ _ _ hb h3
  have g1':Grow nb s s1:=⟨Zaa hn g1.1,g1.2.1,g1.2.2⟩
  have g2':Grow nb s1 s2:=g2.mono g1'.1
  simp only at h
  split at h
  ·split at h
   case isFalse=>cases h
   rename_i hle
   have g3:=wF hg ha hb xs (k+1) _ r s' h (by simp;omega)
   exact (g1'.trans g2').trans ⟨g3.1,g3.2.1,g3.2.2⟩
  ·cases h
  ·simp only [ZD.injEq,ZaB.injEq] at h
   rw [← h.2];exact g1'.trans g2'
end
theorem Oq {ok good:Nat→Prop}{w:World}(hg:∀ b,bV w b→good b){x:PV}{v:Value}(h:aA ok w x v):aA (fun b=>ok b∧good b) w x v:=by
 induction h with
 |int k n=>exact .int k n
 |bool b=>exact .bool b
 |str s=>exact .str s
 |o7=>exact .o7
 |void v h=>exact .void v h
 |nil sz a=>exact .nil sz a
 |kY sz a=>exact .kY sz a
 |list sz es b off c cv h1 h2 h3 h4 h6 h7 h8 ih=>exact .list sz es b off c cv ⟨h1,hg b h2⟩ h2 h3 h4 h6 h7 ih
 |agg cs arr h1 h2 h3 ih=>exact .agg cs arr h1 h2 ih
 |func f caps arr h1 h2 ih=>exact .func f caps arr h1 ih
 |dD cs j b off cv h1 h2 h3 h4 ih=>exact .dD cs j b off cv ⟨h1,hg b h2⟩ h2 h3 ih
def Compat (T Tc:Tags)(K B0:Nat)(w:World):Prop:=∀ b,b<w.heap.size→T b≠.other→Tc b=nZ K∨(T b=.ro∧Tc b=.ro∧(b<B0∨bV w b))
theorem sD (K:Nat):nZ K≠.ro:=by simp [nZ]
theorem xU (K:Nat):nZ K≠.other:=by simp [nZ]
structure Rg where
 L:Nat
 nb:Nat
 K:Nat
 σ0:Nat→Nat
 T1:Tags
 w0:World
 slots:List AV
 tmps:Array Value
 l:Nat
 D:List Nat
 B0:Nat
structure CSx (C:Ctx)(R:Rg)(lp:Loop)(s:St)(T:Tags)(w:World)(σ:Nat→Nat)(Tc:Tags):Prop where
 fs:mF R.L R.nb σ Tc w R.slots R.tmps
 bx:∀ (o:Nat) b,s.boxes[o]?=some b→iK Tc w (σ o) o b
 fr:∀ b,w.heap.size≤b→Tc b=.other
 j:C.J s.ys.length Tc w
 nbx:R.nb≤s.boxes.length
 stp:s.stop=C.stop
 sg:∀ o,o<R.nb→σ o=R.σ0 o
 sy:bY R.T1 Tc R.w0 w
 cp:Compat T Tc R.K R.B0 w
 rl:w.heap[R.l]?=some (.loop lp)
 rt:Tc R.l=nZ R.K
 ro:T R.l=.other
 dd:∀ d∈R.D,w.heap[d]?=some (.deferred (some []))∧Tc d=.ro∧T d=.other
def CS (C:Ctx)(R:Rg)(lp:Loop)(s:St)(T:Tags)(w:World):Prop:=∃ σ Tc,CSx C R lp s T w σ Tc
section
variable {P:Program}{F:Fence}{C:Ctx}{n L nb:Nat}{σ σ':Nat→Nat}{T T' Tc T1 T2:Tags}{st st' st1 s:St}{a a1:Act}{w w' w1:World}{R:Rg}{lp:Loop}
 {rec:au→St→Option (Ex×St)} {env:Env}
theorem lt_of_heap {o:Obj}{b:Nat}(h:w.heap[b]?=some o):b<w.heap.size:=(zt.1 h).1
theorem CS.take (h:CS C R lp s T w):CS C R lp { s with boxes:=s.boxes.take R.nb } T w:=by
 obtain ⟨σ,Tc,h⟩:=h
 refine ⟨σ,Tc,{ h with bx:=fun o b ho=>?_,nbx:=?_ }⟩
 ·simp only [Zad] at ho
  split at ho
  ·exact h.bx o b ho
  ·cases ho
 ·have:=h.nbx;simp;omega
theorem CS.keep (hC:C.Ok P L)(h:CS C R lp s T w)(hc:yB T T' w w'):CS C R lp s T' w':=by
 classical
 obtain ⟨σ,Tc,h⟩:=h
 have hsame:∀ b,b<w.heap.size→Tc b≠nZ R.K→w'.heap[b]?=w.heap[b]?:=fun b hb hd=>by
  by_cases e:T b=.other
  ·exact hc.same b hb (.inr e)
  ·rcases h.cp b hb e with g|⟨g,_⟩
   ·exact absurd g hd
   ·exact hc.same b hb (.inl g)
 obtain ⟨Tn,NZ⟩:∃ Tn:Tags,Tn=fun b=>if b<w.heap.size then Tc b else if b<w'.heap.size∧T' b≠.other then nZ R.K else .other:=⟨_,rfl⟩
 have hlt:∀ b,b<w.heap.size→Tn b=Tc b:=fun b hb=>by rw [NZ];exact if_pos hb
 have hl:=lt_of_heap h.rl
 have hro:∀ b,Tc b=.ro→b<w.heap.size:=fun b e=>by
  rcases ZaP b w.heap.size with g|g
  ·exact g
  ·rw [h.fr b g] at e;cases e
 have hw:∀ b,Tc b=.ro→b<w.heap.size→Tn b=.ro∧w'.heap[b]?=w.heap[b]?:=fun b e hb=>⟨by rw [hlt b hb,e],hsame b hb (by rw [e];exact (sD _).symm)⟩
 refine ⟨σ,Tn,⟨h.fs.keep hw fun _ _=>rfl,fun o b ho=>?_,fun b hb=>?_,?_,h.nbx,h.stp,h.sg,h.sy.trans ⟨hc.size,fun b e=>(hw b e (hro b e)).1,fun b hb e=>hsame b hb (by rw [e];exact (sD _).symm)⟩,fun b hb ht=>?_,?_,?_,?_,fun d hd=>?_⟩⟩
 ·have hb:=h.bx o b ho
  have hbl:=hb.lt
  have hT:Tc (σ o)≠nZ R.K:=by
   obtain ⟨_,_,_,_,h3,_⟩:=hb
   rw [h3];split<;>simp [nZ]
  exact hb.frame ⟨hlt _ hbl,hsame _ hbl hT⟩ (fun j b e hb=>⟨by rw [hlt b hb,e],hsame b hb (by rw [e];simp [nZ])⟩) hw
 ·have:¬ b<w.heap.size:=by have:=hc.size;omega
  rw [NZ]
  simp only [if_neg this,if_neg (show ¬ (b<w'.heap.size∧T' b≠.other) by omega)]
 ·refine hC.keep _ _ _ _ _ ⟨hc.size,hc.os,hc.tape,hc.output,fun b hb ht=>?_,fun b e=>(hw b e (hro b e)).1,fun b hb e=>by rw [hlt b hb,e]⟩ h.j
  refine hsame b hb ?_
  rcases ht with e|e<;>rw [e]<;>simp [nZ]
 ·by_cases hbl:b<w.heap.size
  ·have ht0:T b≠.other:=fun e=>ht (hc.other b hbl e)
   rw [hlt b hbl]
   rcases h.cp b hbl ht0 with g|⟨g1,g2,g3⟩
   ·exact .inl g
   ·refine .inr ⟨hc.ro b g1,g2,g3.imp id fun hcl=>hcl.same (hc.same b hbl (.inl g1))⟩
  ·left
   rw [NZ]
   simp only [if_neg hbl,if_pos (show b<w'.heap.size∧T' b≠.other from ⟨hb,ht⟩)]
 ·rw [hc.same _ hl (.inr h.ro)];exact h.rl
 ·rw [hlt _ hl];exact h.rt
 ·exact hc.other _ hl h.ro
 ·obtain ⟨g1,g2,g3⟩:=h.dd d hd
  have hdl:=lt_of_heap g1
  exact ⟨by rw [hc.same _ hdl (.inr g3)];exact g1,by rw [hlt _ hdl];exact g2,hc.other _ hdl g3⟩
def vk (C:Ctx)(K l:Nat)(S:Nat→Prop)(w:World)(lp:Loop)[DecidablePred S]:Ctx where
 X:=C.X
 stop:=C.stop
 J k T u:=(∀ b,S b→T b=.other)∧(∀ b,S b→b≠l→u.heap[b]?=w.heap[b]?)∧u.heap[l]?=some (.loop lp)∧w.heap.size≤u.heap.size∧C.J k (fun b=>if S b then nZ K else T b) u
theorem ajM (hC:C.Ok P L){K l:Nat}{S:Nat→Prop}[DecidablePred S](hS:∀ b,S b→b<w.heap.size)(hl:S l):(vk C K l S w lp).Ok P L:=by
 refine ⟨fun k T T' u u' hc ⟨h1,h2,h3,h4,h5⟩=>⟨fun b hb=>?_,fun b hb hbl=>?_,?_,Zaa h4 hc.size,?_⟩,fun k T u ⟨h1,h2,h3,h4,h5⟩=>(hC.glob _ _ _ h5).frame fun b e _=>⟨?_,rfl⟩,fun s k T u ps vs hs hx hf ⟨h1,h2,h3,h4,h5⟩ hlen hr=>?_⟩
 ·exact hc.other b (by have:=hS b hb;omega) (h1 b hb)
 ·exact (hc.same b (by have:=hS b hb;omega) (.inr (h1 b hb))).trans (h2 b hb hbl)
 ·exact (hc.same l (by have:=hS l hl;omega) (.inr (h1 l hl))).trans h3
 ·refine hC.keep _ _ _ _ _ ⟨hc.size,hc.os,hc.tape,hc.output,fun b hb ht=>?_,fun b e=>?_,fun b hb e=>?_⟩ h5
  ·by_cases hs:S b
   ·simp only [if_pos hs] at ht;rcases ht with e|e<;>simp [nZ] at e
   ·simp only [if_neg hs] at ht;exact hc.same b hb ht
  ·by_cases hs:S b
   ·simp only [if_pos hs] at e;simp [nZ] at e
   ·simp only [if_neg hs] at e ⊢;exact hc.ro b e
  ·by_cases hs:S b
   ·simp only [if_pos hs] at e;simp [nZ] at e
   ·simp only [if_neg hs] at e ⊢;exact hc.other b hb e
 ·by_cases hs:S b
  ·simp only [if_pos hs] at e;simp [nZ] at e
  ·simp only [if_neg hs] at e;exact e
 ·have hns:∀ b,T b≠.other→¬ S b:=fun b hb hs=>hb (h1 b hs)
  obtain ⟨f,tm,ug,bd,k1,k2⟩:=hC.qX s k (fun b=>if S b then nZ K else T b) u ps vs hs hx (fun b hb=>by
   have:¬ S b:=fun hs=>by have:=hS b hs;omega
   simp only [if_neg this];exact hf b hb) h5 hlen (fun i p v hp hv=>(hr i p v hp hv).frame fun b hb _=>⟨by simp only [if_neg (hns b (by rw [hb];simp))];exact hb,rfl⟩)
  refine ⟨f,tm,ug,bd,k1,fun n=>?_⟩
  refine (k2 n).mono fun e w3 hq=>?_
  obtain ⟨g1,g2,g3⟩:=hq
  have hse:∀ b,(if S b then nZ K else T b)≠.other→b<u.heap.size→w3.heap[b]?=u.heap[b]?:=g3.2
  refine ⟨g1,⟨h1,fun b hb hbl=>?_,?_,Zaa h4 g3.1,g2⟩,g3.1,fun b hb hbl=>hse b (by rw [if_neg (hns b hb)];exact hb) hbl⟩
  ·exact (hse b (by rw [if_pos hb];simp [nZ]) (by have:=hS b hb;omega)).trans (h2 b hb hbl)
  ·exact (hse l (by rw [if_pos hl];simp [nZ]) (by have:=hS l hl;omega)).trans h3
end
section
variable {P:Program}{F:Fence}{C:Ctx}{n L nb:Nat}{σ σ':Nat→Nat}{T T' Tc T1 T2:Tags}{st st' st1 s:St}{a a1:Act}{w w' w1:World}{R:Rg}{lp:Loop}
 {rec:au→St→Option (Ex×St)} {env:Env}
def uJ:Ex→Option Code
 |.normal=>none
 |.ret=>some .ret
 |.exit i=>some (.exit i)
 |.oK _ _=>none
theorem Ve (C:Ctx)(K l:Nat)(S:Nat→Prop)(w:World)(lp:Loop)[DecidablePred S]:(vk C K l S w lp).Rec (Fence.wide.inRound l):=fun l' e k T u h=>by
 have:(Fence.wide.inRound l).round=(Fence.wide.inRound l').round:=by rw [← e]
 have:l=l':=ZD.inj this
 subst this
 exact ⟨lp,h.2.2.1⟩
set_option maxHeartbeats 1000000 in
theorem Ot (hR:qI P rec)(hC:C.Ok P R.L){ca cb:Code}{ug bd:au}(ha:mC P ca ug=true)(hb:mC P cb bd=true){fn:FuncId}{ps:Array Tmp}{dd:Nat}{rc:LoopState→Option Code→Loop}
  (hrc:rc=fun st pe=>{ state:=st,pending:=pe,fn:=fn,tmps:=R.tmps,params:=ps,assign:=ca,body:=cb,defers:=dd })
  (hcs:CS C R (rc .ready none) s T w) (hT:∀ b,w.heap.size≤b→T b=.other) (hD:R.l ∉ R.D) {x:List PV} {vs:List Value} (hvs:vs.length=x.length) (hrep:∀ (i:Nat) p v,x[i]?=some p→vs[i]?=some v→aA (fun b=>T b=.ro) w p v)
  {sl:List AV} {sa sb:St} {e:Ex} (h1:fO R.slots ps.toList x=some sl) (h2:rec ug { s with slots:=sl }=some (.normal,sa)) (h3:rec bd sa=some (e,sb)) (hX:sb.ys <+: C.X) (he:∀ t n,e≠.oK t n) :
  ∃ f ai4 Oo bd',(Instr.yield R.l vs.toArray).run P w=.ok (.round R.l f ai4 Oo bd') w∧∀ n,RoundIn Fence.wide n P R.l f ai4 Oo bd' w fun en w'=>en=.returned (.bool (uJ e).isNone) ∧
   CS C R (rc (if (uJ e).isNone then .ready else .done) (uJ e)) sb T w'∧qY T w w':=by
 classical
 obtain ⟨σ1,Tc,h⟩:=hcs
 have hll:=lt_of_heap h.rl
 obtain ⟨Ty,hTy⟩:∃ Ty:Tags,Ty=fun b=>if Tc b=nZ R.K∧T b=.ro∧bV w b then .ro else Tc b:=⟨_,rfl⟩
 have ty1:∀ b,Tc b=nZ R.K∧T b=.ro∧bV w b→Ty b=.ro:=fun b hb=>by rw [hTy];exact if_pos hb
 have ty2:∀ b,¬ (Tc b=nZ R.K∧T b=.ro∧bV w b)→Ty b=Tc b:=fun b hb=>by rw [hTy];exact if_neg hb
 have ty3:∀ b,Tc b≠nZ R.K→Ty b=Tc b:=fun b hb=>ty2 b fun g=>hb g.1
 obtain ⟨Sx,hSx⟩:∃ Sx:Nat→Prop,Sx=fun b=>b<w.heap.size∧Ty b=nZ R.K:=⟨_,rfl⟩
 have hSl:∀ b,Sx b→b<w.heap.size:=fun b hb=>by rw [hSx] at hb;exact hb.1
 have hSd:∀ b,Sx b→Ty b=nZ R.K:=fun b hb=>by rw [hSx] at hb;exact hb.2
 have aql:Ty R.l=nZ R.K:=by rw [ty2 _ fun g=>(by have:=g.2.1;rw [h.ro] at this;cases this)];exact h.rt
 have hlS:Sx R.l:=by rw [hSx];exact ⟨hll,aql⟩
 have aav:∀ b,w.heap.size≤b→Ty b=.other:=fun b hb=>by rw [ty3 b (by rw [h.fr b hb];exact (xU _).symm),h.fr b hb]
 obtain ⟨Tz,hTz⟩:∃ Tz:Tags,Tz=aau Ty R.K:=⟨_,rfl⟩
 have tz1:∀ b,Sx b→Tz b=.other:=fun b hb=>by rw [hTz];exact Xe (hSd b hb)
 have tz2:∀ b,Ty b≠nZ R.K→Tz b=Ty b:=fun b hb=>by rw [hTz];exact Xf hb
 have hre:(fun b=>if Sx b then nZ R.K else Tz b)=Ty:=by
  funext b
  by_cases hb:Sx b
  ·simp only [if_pos hb];exact (hSd b hb).symm
  ·simp only [if_neg hb]
   refine tz2 b fun e=>hb ?_
   rw [hSx]
   refine ⟨?_,e⟩
   rcases ZaP b w.heap.size with g|g
   ·exact g
   ·rw [aav b g] at e;exact absurd e.symm (xU _)
 have aaw:∀ b,Tc b≠nZ R.K→Tz b=Tc b:=fun b hb=>by rw [tz2 b (by rw [ty3 b hb];exact hb),ty3 b hb]
 have hro:∀ b,Tc b=.ro→b<w.heap.size→Tz b=.ro∧w.heap[b]?=w.heap[b]?:=fun b e _=>⟨by rw [aaw b (by rw [e];exact (sD _).symm),e],rfl⟩
 -- the round's own state
 have hJy:C.J s.ys.length Ty w:=hC.keep _ _ _ _ _ ⟨zg _,rfl,rfl,rfl,fun _ _ _=>rfl,fun b e=>by rw [ty3 b (by rw [e];exact (sD _).symm),e],fun b _ e=>by rw [ty3 b (by rw [e];exact (xU _).symm),e]⟩ h.j
 have hbz:∀ (o:Nat) b,s.boxes[o]?=some b→iK Tz w (σ1 o) o b:=fun o b ho=>by
  have hb:=h.bx o b ho
  have hT0:Tc (σ1 o)≠nZ R.K:=by
   obtain ⟨_,_,_,_,h3,_⟩:=hb
   rw [h3];split<;>simp [nZ]
  exact hb.frame ⟨aaw _ hT0,rfl⟩ (fun j b e _=>⟨by rw [aaw b (by rw [e];simp [nZ]),e],rfl⟩) hro
 have hfz:∀ b,w.heap.size≤b→Tz b=.other:=fun b hb=>by rw [tz2 b (by rw [aav b hb];exact (xU _).symm),aav b hb]
 obtain ⟨hpl,hfs⟩:=mF.params (T:=Tz) (w:=w) h1 (h.fs.keep hro fun _ _=>rfl) hvs (fun i p v hp hv=>(Oq (fun b hcl=>hcl) (hrep i p v hp hv)).frame fun b ⟨hb,hcl⟩ hbl=>⟨by
  rcases h.cp b hbl (by rw [hb];simp) with g|⟨_,g,_⟩
  ·rw [tz2 b (by rw [ty1 b ⟨g,hb,hcl⟩];exact (sD _).symm),ty1 b ⟨g,hb,hcl⟩]
  ·exact (hro b g hbl).1,rfl⟩)
 have KX:aH R.L σ1 Tz { s with slots:=sl } { tmps:=(ps.toList.zip vs).foldl (fun t (p,v)=>t.setIfInBounds p v) R.tmps,defers:=[] } w:=hfs.sim h.nbx hbz hfz
 have hOk:∀ lp,(vk C R.K R.l Sx w lp).Ok P R.L:=fun lp=>ajM hC hSl hlS
 have hJ0:(vk C R.K R.l Sx w (rc .ready none)).J s.ys.length Tz w:=⟨tz1,fun _ _ _=>rfl,h.rl,zg _,by rw [hre];exact hJy⟩
 have ga:=hR.grow _ _ _ _ _ ha h2
 have gb:=hR.grow _ _ _ _ _ hb h3
 have hy:=run_yield (P:=P) (args:=vs.toArray) h.rl (by rw [hrc];simp only [ZaN];rw [← hpl];simp)
 refine ⟨fn,_,ca,cb,by rw [hrc] at hy;exact hy,fun n=>roundIn_of_wpIn (show Fence.wide.fn fn from trivial) ?_⟩
 have hfold:(ps.zip vs.toArray).foldl (fun t (p,v)=>t.setIfInBounds p v) R.tmps=(ps.toList.zip vs).foldl (fun t (p,v)=>t.setIfInBounds p v) R.tmps:=by
  rw [← Array.foldl_toList];simp
 have ajO:((ps.zip vs.toArray).foldl (fun tmps (x:Tmp×Value)=>match x with|(t,a)=>tmps.setIfInBounds t a) R.tmps)=(ps.toList.zip vs).foldl (fun t (p,v)=>t.setIfInBounds p v) R.tmps:=hfold
 rw [ajO]
 refine wpIn_mono (hR.wp (.inr ⟨R.l,rfl⟩) (Ve C R.K R.l Sx w (rc .ready none)) (hOk _) ca ug _ .normal sa ha h2 h.stp (gb.2.1.trans hX) σ1 Tz _ w KX hJ0) ?_
 rintro xx aa wa ⟨rfl,σa,Ta,msa,p1,p2,p3,p4,_,_⟩
 obtain ⟨q1,q2,q3,q4,q5⟩:=p2
 have hla:=lt_of_heap q3
 refine ⟨wa.putObj R.l (.loop (rc .busy none)),by have:=run_beginRound (P:=P) q3 (by rw [hrc]);rw [hrc] at this ⊢;exact this,?_⟩
 have hpo:∀ b,b≠R.l→(wa.putObj R.l (.loop (rc .busy none))).heap[b]?=wa.heap[b]?:=fun b hb=>World.putObj_heap_other hb
 have hps:(wa.putObj R.l (.loop (rc .busy none))).heap.size=wa.heap.size:=by simp [World.putObj]
 have hsa:aH R.L σa Ta sa aa (wa.putObj R.l (.loop (rc .busy none))):=p1.sees ⟨by rw [hps];exact zg _,fun b hb _=>hpo b fun e=>hb (by rw [e];exact q1 _ hlS)⟩
 have hJa:(vk C R.K R.l Sx w (rc .busy none)).J sa.ys.length Ta (wa.putObj R.l (.loop (rc .busy none))):=by
  refine ⟨q1,fun b hb hbl=>(hpo b hbl).trans (q2 b hb hbl),World.putObj_heap_same hla,by rw [hps];exact q4,?_⟩
  refine hC.keep _ _ _ wa _ ⟨by rw [hps];exact zg _,rfl,rfl,rfl,fun b hb ht=>hpo b fun e=>?_,fun _ e=>e,fun _ _ e=>e⟩ q5
  subst e
  simp only [if_pos hlS] at ht
  rcases ht with e|e<;>simp [nZ] at e
 refine wpIn_mono (hR.wp (.inr ⟨R.l,rfl⟩) (Ve C R.K R.l Sx w (rc .busy none)) (hOk _) cb bd _ e sb hb h3 (ga.2.2.trans h.stp) hX σa Ta _ _ hsa hJa) ?_
 rintro xx ab wb ⟨rfl,σb,Tb,msb,r1,r2,r3,r4,_,_⟩
 obtain ⟨t1,t2,t3,t4,t5⟩:=r2
 have hlb:=lt_of_heap t3
 have hend:∀ j:Option Code,(Instr.endRound R.l j).run P wb=.ok (.bool j.isNone) (wb.putObj R.l (.loop (rc (if j.isNone then .ready else .done) j))):=fun j=>by
  have:=run_endRound (P:=P) j t3
  rw [hrc] at this ⊢
  exact this
 obtain ⟨w3,hw3⟩:∃ w3,w3=wb.putObj R.l (.loop (rc (if (uJ e).isNone then .ready else .done) (uJ e))):=⟨_,rfl⟩
 have hpb:∀ b,b≠R.l→w3.heap[b]?=wb.heap[b]?:=fun b hb=>by rw [hw3];exact World.putObj_heap_other hb
 have anf:w3.heap.size=wb.heap.size:=by rw [hw3];simp [World.putObj]
 have hsz:w.heap.size≤w3.heap.size:=by rw [anf];exact t4
 -- what is read only stays
 have stay:∀ b,Tz b=.ro→b<w.heap.size→Tb b=.ro∧w3.heap[b]?=w.heap[b]?:=fun b hz hbl=>by
  have hbS:¬ Sx b:=fun hs=>by rw [tz1 b hs] at hz;cases hz
  have aax:b≠R.l:=fun e=>hbS (by rw [e];exact hlS)
  have e1:=p4.ro b hz
  have e2:=r4.ro b e1
  refine ⟨e2,?_⟩
  rw [hpb b aax,r4.same b (by rw [hps];exact Zab hbl p4.size) e1,hpo b aax,p4.same b hbl hz]
 have hnS:∀ b,Tb b≠.other→¬ Sx b:=fun b hb hs=>hb (t1 b hs)
 have NZ:∀ b,¬ Sx b→(if Sx b then nZ R.K else Tb b)=Tb b:=fun b hb=>if_neg hb
 have KY:∀ b,Tc b=.ro→b<w.heap.size→(fun b=>if Sx b then nZ R.K else Tb b) b=.ro∧w3.heap[b]?=w.heap[b]?:=fun b hb hbl=>by
  obtain ⟨e1,e2⟩:=stay b (hro b hb hbl).1 hbl
  exact ⟨by show (if Sx b then nZ R.K else Tb b)=.ro;rw [NZ b (hnS b (by rw [e1];simp)),e1],e2⟩
 have ang:∀ b,Tc b=.ro→b<w.heap.size:=fun b hb=>by
  rcases ZaP b w.heap.size with g|g
  ·exact g
  ·rw [h.fr b g] at hb;cases hb
 have hσ:∀ o,o<R.nb→σb o=σ1 o:=fun o ho=>by
  have k1:R.nb≤s.boxes.length:=h.nbx
  have k2:s.boxes.length≤sa.boxes.length:=ga.1
  rw [r3 o (by omega),p3 o (by show o<s.boxes.length;omega)]
 have ajP:Tb R.l=.other:=t1 _ hlS
 have hfin:CS C R (rc (if (uJ e).isNone then .ready else .done) (uJ e)) sb T w3:=by
  refine ⟨σb,fun b=>if Sx b then nZ R.K else Tb b,⟨h.fs.keep KY hσ,fun o b ho=>?_,fun b hb=>?_,?_,?_,?_,fun o ho=>(hσ o ho).trans (h.sg o ho),?_,fun b hb ht=>?_,?_,if_pos hlS,h.ro,fun d hd=>?_⟩⟩
  ·have hbx:=r1.boxes o b ho
   have hne:Tb (σb o)≠.other:=by
    obtain ⟨_,_,_,_,h3,_⟩:=hbx
    rw [h3];split<;>simp
   refine hbx.frame ⟨NZ _ (hnS _ hne),hpb _ fun e=>hne (by rw [e];exact ajP)⟩ (fun j b e _=>⟨by rw [NZ b (hnS b (by rw [e];simp)),e],hpb b fun e2=>by rw [e2,ajP] at e;cases e⟩) (fun b e _=>⟨by rw [NZ b (hnS b (by rw [e];simp)),e],hpb b fun e2=>by rw [e2,ajP] at e;cases e⟩)
  ·have:¬ Sx b:=fun hs=>by have:=hSl b hs;omega
   rw [NZ b this]
   exact r1.fresh b (by omega)
  ·refine hC.keep _ _ _ wb _ ⟨by rw [anf];exact zg _,by rw [hw3];rfl,by rw [hw3];rfl,by rw [hw3];rfl,fun b hb ht=>hpb b fun e=>?_,fun _ e=>e,fun _ _ e=>e⟩ t5
   subst e
   simp only [if_pos hlS] at ht
   rcases ht with e|e<;>simp [nZ] at e
  ·have:=ga.1;have:=gb.1;have:=h.nbx
   have e1:s.boxes.length≤sa.boxes.length:=ga.1
   omega
  ·exact gb.2.2.trans (ga.2.2.trans h.stp)
  ·exact h.sy.trans ⟨hsz,fun b hb=>(KY b hb (ang b hb)).1,fun b hbl hb=>(KY b hb hbl).2⟩
  ·have hbl:b<w.heap.size:=by
    rcases ZaP b w.heap.size with g|g
    ·exact g
    ·exact absurd (hT b g) ht
   have conv:Tz b=.ro→(fun b=>if Sx b then nZ R.K else Tb b) b=.ro∧w3.heap[b]?=w.heap[b]?:=fun hz=>by
    obtain ⟨e1,e2⟩:=stay b hz hbl
    exact ⟨by show (if Sx b then nZ R.K else Tb b)=.ro;rw [NZ b (hnS b (by rw [e1];simp)),e1],e2⟩
   rcases h.cp b hbl ht with g|⟨g1,g2,g3⟩
   ·by_cases hc:T b=.ro∧bV w b
    ·have ey:=ty1 b ⟨g,hc.1,hc.2⟩
     obtain ⟨e1,e2⟩:=conv (by rw [tz2 b (by rw [ey];exact (sD _).symm),ey])
     exact .inr ⟨hc.1,e1,.inr (hc.2.same e2)⟩
    ·have ey:Ty b=nZ R.K:=by rw [ty2 b fun q=>hc q.2];exact g
     exact .inl (if_pos (by rw [hSx];exact ⟨hbl,ey⟩))
   ·obtain ⟨e1,e2⟩:=conv (hro b g2 hbl).1
    exact .inr ⟨g1,e1,g3.imp id fun q=>q.same e2⟩
  ·rw [hw3];exact World.putObj_heap_same hlb
  ·obtain ⟨k1,k2,k3⟩:=h.dd d hd
   obtain ⟨e1,e2⟩:=KY d k2 (lt_of_heap k1)
   exact ⟨by rw [e2];exact k1,e1,k3⟩
 have Jf:qY T w w3:=by
  refine ⟨hsz,fun b hb hbl=>?_⟩
  have aax:b≠R.l:=fun e=>hb (by rw [e];exact h.ro)
  by_cases hs:Sx b
  ·rw [hpb b aax];exact t2 b hs aax
  ·refine (stay b ?_ hbl).2
   rcases h.cp b hbl hb with g|⟨g1,g2,g3⟩
   ·by_cases hc:T b=.ro∧bV w b
    ·have ey:=ty1 b ⟨g,hc.1,hc.2⟩
     rw [tz2 b (by rw [ey];exact (sD _).symm),ey]
    ·exact absurd (by rw [hSx];exact ⟨hbl,by rw [ty2 b fun q=>hc q.2];exact g⟩) hs
   ·exact (hro b g2 hbl).1
 rw [hw3] at hfin Jf
 cases e with
 |normal=>exact ⟨_,_,hend none,rfl,hfin,Jf⟩
 |ret=>exact ⟨_,_,hend (some .ret),rfl,hfin,Jf⟩
 |exit i=>exact ⟨_,_,hend (some (.exit i)),rfl,hfin,Jf⟩
 |oK t n=>exact absurd rfl (he t n)
end
section
variable {P:Program}{F:Fence}{C:Ctx}{n L nb:Nat}{σ σ':Nat→Nat}{T T' Tc T1 T2:Tags}{st st' st1 s:St}{a a1:Act}{w w' w1:World}{R:Rg}{lp:Loop}
 {rec:au→St→Option (Ex×St)} {env:Env} {e:Ex}
def Ad (P:Program)(env:Env):Prop:=∀ f fn,env f=some (.code fn)→callable P f=true∧∃ g c,P.funcs[f]?=some g∧g.body=some c∧mC P c fn.body=true∧g.ntmps=fn.ntmps∧fn.nargs≤fn.ntmps∧(fn.results.isEmpty=true→g.results=#[])
theorem wG {fn:Func}{R:Ending→World→Prop}{B:Nat}:∀ {ms:List Nat} {w:World},ms.Nodup→(∀ r∈ms,B≤r∧w.heap[r]?=some (.deferred (some []))) →
  (∀ w',w'.os=w.os→w'.tape=w.tape→w'.output=w.output→w'.heap.size=w.heap.size→(∀ b,b ∉ ms→w'.heap[b]?=w.heap[b]?)→∃ v,(results fn a.tmps).run P w'=.ok v w'∧R (.returned v) w') →
  LeavesInM Fence.wide 0 P fn a.tmps R (ms.map jS) .returning w
 |[],w,_,_,h=>by
  simp only [Zav,LeavesInM,LeavesIn]
  exact h w rfl rfl rfl rfl fun _ _=>rfl
 |r::ms,w,hnd,hms,h=>by
  simp only [Zat,LeavesInM]
  obtain ⟨hn1,hn2⟩:=ZcE.1 hnd
  obtain ⟨k1,k2⟩:=hms r (by simp)
  have hr:r<w.heap.size:=(zt.1 k2).1
  have hput:∀ b,b≠r→(w.putObj r (.deferred none)).heap[b]?=w.heap[b]?:=fun b hb=>by simp [World.putObj,Za3,Ne.symm hb]
  refine ⟨by simp,.inl ⟨r,_,rfl,run_takeDeferred k2,wG (B:=B) hn2 (fun r' hr'=>?_) fun w' e1 e2 e3 e4 e5=>h w' e1 e2 e3 (by rw [e4];simp [World.putObj]) fun b hb=>?_⟩⟩
  ·obtain ⟨q1,q2⟩:=hms r' (by simp [hr'])
   exact ⟨q1,by rw [hput r' (fun e=>hn1 (e ▸ hr'))];exact q2⟩
  ·simp only [ZaI,not_or] at hb
   rw [e5 b hb.2,hput b hb.1]
theorem Jl {slots:List AV}{ps:List Nat}{ug bd:au}:∀ (xs:List (List PV)) (k:Nat) (s:St) e m s',rounds rec slots ps ug bd nb k xs s=some (some (e,m),s')→e≠.normal∧∀ t n,e≠.oK t n
 |[],k,s,e,m,s',h=>by simp [rounds] at h
 |x::xs,k,s,e,m,s',h=>by
  unfold rounds at h
  replace h:=bind_some h
  obtain ⟨sl,h1,h⟩:=h
  replace h:=bind_some h
  obtain ⟨⟨e1,s1⟩,h2,h⟩:=h
  simp only at h
  split at h
  case h_2=>cases h
  replace h:=bind_some h
  obtain ⟨⟨e2,s2⟩,h3,h⟩:=h
  simp only at h
  split at h
  ·split at h
   ·exact Jl xs (k+1) _ e m s' h
   ·cases h
  ·cases h
  ·rename_i hne hne2
   simp only [ZD.injEq,ZaB.injEq] at h
   rw [← h.1.1]
   exact ⟨fun e=>hne e,fun t n e=>hne2 t n e⟩
def aay:Option (Ex×Nat)→Ex
 |none=>.normal
 |some (e,_)=>e
def itC (C:Ctx)(R:Rg)(rec:au→St→Option (Ex×St))(rc:LoopState→Option Code→Loop)(ps:List Nat)(ug bd:au)(xs:List (List PV))(stop:Option Nat)(r:Option (Ex×Nat))(s1:St):Ctx where
 X:=xs
 stop:=some stop
 J k T w:=jR T w∧((∃ s,rounds rec R.slots ps ug bd R.nb k (xs.drop k) s=some (r,s1)∧CS C R (rc .ready none) s T w) ∨
  (∃ e,r=some (e,k)∧xs.length=k∧CS C R (rc .done (uJ e)) s1 T w))
theorem ajQ (hR:qI P rec)(hC:C.Ok P R.L){ca cb:Code}{ug bd:au}(ha:mC P ca ug=true)(hb:mC P cb bd=true){fn:FuncId}{ps:Array Tmp}{dd:Nat}{rc:LoopState→Option Code→Loop}
  (hrc:rc=fun st pe=>{ state:=st,pending:=pe,fn:=fn,tmps:=R.tmps,params:=ps,assign:=ca,body:=cb,defers:=dd }) (hD:R.l ∉ R.D) {xs:List (List PV)} {stop:Option Nat} {r:Option (Ex×Nat)} {s1:St}
  (hcons:(stop=none∧r=none)∨∃ e m,stop=some m∧r=some (e,m)∧xs.length=m) (hX:s1.ys <+: C.X):(itC C R rec rc ps.toList ug bd xs stop r s1).Ok P R.l:=by
 refine ⟨fun k T T' w w' hc ⟨hG,h⟩=>⟨hG.frame fun b e hb=>⟨hc.ro b e,hc.same b hb (.inl e)⟩,?_⟩,fun k T w h=>h.1,fun q k T w x vs hs hx hf h hlen hrep=>?_⟩
 ·rcases h with ⟨s,h1,h2⟩|⟨e,h1,h2,h3⟩
  ·exact .inl ⟨s,h1,h2.keep hC hc⟩
  ·exact .inr ⟨e,h1,h2,h3.keep hC hc⟩
 ·have hq:q=stop:=(ZD.inj hs).symm
  subst hq
  have hx':xs[k]?=some x:=hx
  have hk:k<xs.length:=(Z1.1 hx').1
  obtain ⟨hG,h⟩:=h
  rcases h with ⟨s,h1,h2⟩|⟨e,h1,h2,h3⟩
  case inr=>omega
  have hdrop:xs.drop k=x::xs.drop (k+1):=by
   rw [Zah hk]
   congr 1
   rw [ZZ hk] at hx'
   exact ZD.inj hx'
  rw [hdrop] at h1
  unfold rounds at h1
  replace h1:=bind_some h1
  obtain ⟨sl,g1,h1⟩:=h1
  replace h1:=bind_some h1
  obtain ⟨⟨e1,sa⟩,g2,h1⟩:=h1
  simp only at h1
  split at h1
  case h_2=>cases h1
  replace h1:=bind_some h1
  obtain ⟨⟨e2,sb⟩,g3,h1⟩:=h1
  simp only at h1
  obtain ⟨σ0,Tc0,hcs0⟩:=h2
  have hnb:=hcs0.nbx
  have h2:CS C R (rc .ready none) s T w:=⟨σ0,Tc0,hcs0⟩
  have ga:=hR.grow _ _ _ _ _ ha g2
  have gb:=hR.grow _ _ _ _ _ hb g3
  split at h1
  ·-- it goes on
   split at h1
   case isFalse=>cases h1
   rename_i hle
   have hgr:=wF hR.grow ha hb (xs.drop (k+1)) (k+1) _ r s1 h1 (by simp;omega)
   obtain ⟨f,tm,Oo,bd',q1,q2⟩:=Ot hR hC ha hb hrc h2 hf hD hlen hrep g1 g2 g3 (hgr.2.1.trans hX) (fun _ _ e=>by cases e)
   refine ⟨f,tm,Oo,bd',q1,fun n=>(q2 n).mono fun en w3 hq=>?_⟩
   obtain ⟨t1,t2,t3⟩:=hq
   have hgo:wB q k=true:=by
    rcases hcons with ⟨e1,_⟩|⟨e,m,e1,e2,e3⟩
    ·rw [e1];rfl
    ·rw [e1]
     have:k+1≠m:=fun he=>by
      have:xs.drop (k+1)=[]:=ZaS (by omega)
      rw [this] at h1
      simp only [rounds,ZD.injEq,ZaB.injEq] at h1
      rw [e2] at h1
      cases h1.1
     simp [wB,this]
   refine ⟨by rw [t1,hgo];rfl,⟨hG.frame fun b e hb=>⟨e,t3.2 b (by rw [e];simp) hb⟩,.inl ⟨_,h1,t2.take⟩⟩,t3⟩
  ·cases h1
  ·rename_i hne hne2
   simp only [ZD.injEq,ZaB.injEq] at h1
   obtain ⟨hr1,hr2⟩:=h1
   subst hr2
   obtain ⟨f,tm,Oo,bd',q1,q2⟩:=Ot hR hC ha hb hrc h2 hf hD hlen hrep g1 g2 g3 hX (fun t n e=>hne2 t n e)
   refine ⟨f,tm,Oo,bd',q1,fun n=>(q2 n).mono fun en w3 hq=>?_⟩
   obtain ⟨t1,t2,t3⟩:=hq
   have hj:(uJ e2).isNone=false:=by cases e2<;>first|rfl|exact absurd rfl hne|exact absurd rfl (hne2 _ _)
   rcases hcons with ⟨_,e1⟩|⟨e,m,e1,e2',e3⟩
   ·rw [e1] at hr1;cases hr1
   ·have hm:m=k+1:=by rw [e2'] at hr1;cases hr1;rfl
    have hgo:wB q k=false:=by rw [e1,hm];simp [wB]
    rw [hj] at t1 t2
    refine ⟨by rw [t1,hgo],⟨hG.frame fun b e hb=>⟨e,t3.2 b (by rw [e];simp) hb⟩,.inr ⟨e2,hr1.symm,by omega,t2⟩⟩,t3⟩
theorem ajR (hC:C.Ok P R.L)(h:CS C R lp s T w){ms:List Nat}(hms:∀ r∈ms,R.B0≤r∧T r=.ro∧w.heap[r]?=some (.deferred (some [])))(hw:∀ b,b ∉ ms→w'.heap[b]?=w.heap[b]?)(hsz:w'.heap.size=w.heap.size)(hos:w'.os=w.os)(htp:w'.tape=w.tape)(hou:w'.output=w.output)
  (hlp:lp.state≠.busy) {T0:Tags} (hst:Still T0 R.T1) {ds:List Deferred} (hDl:∀ d∈R.D,R.w0.heap.size≤d) (hDn:R.D.Nodup) (hlD:R.l ∉ R.D) :
  ∃ w4,(Instr.endLoop R.l).run P w'=.ok lp.pending w4∧After C R.L R.nb R.σ0 T0 R.w0 { s with slots:=R.slots } ds { tmps:=R.tmps,defers:=R.D.map jS++ds } w4:=by
 obtain ⟨σ,Tc,h⟩:=h
 have aqm:∀ r∈ms,Tc r=nZ R.K:=fun r hr=>by
  obtain ⟨g1,g2,g3⟩:=hms r hr
  rcases h.cp r (lt_of_heap g3) (by rw [g2];simp) with g|⟨_,_,g⟩
  ·exact g
  ·rcases g with g|⟨arr,E,q,g⟩
   ·omega
   ·rw [g3] at g;cases g
 have hl:w'.heap[R.l]?=some (.loop lp):=by
  rw [hw R.l fun hr=>by have:=(hms _ hr).2.1;rw [h.ro] at this;cases this];exact h.rl
 refine ⟨_,run_endLoop (P:=P) hl hlp,?_⟩
 obtain ⟨w4,hw4⟩:∃ w4,w4=w'.putObj R.l (.loop { lp with state:=.exhausted }):=⟨_,rfl⟩
 rw [← hw4]
 have hsame:∀ b,Tc b≠nZ R.K→w4.heap[b]?=w.heap[b]?:=fun b hb=>by
  rw [hw4,World.putObj_heap_other (fun e=>hb (by rw [e];exact h.rt)),hw b fun hr=>hb (aqm b hr)]
 have aqn:w4.heap.size=w.heap.size:=by rw [hw4];simp [World.putObj,hsz]
 have hw1:∀ b,Tc b=.ro→b<w.heap.size→Tc b=.ro∧w4.heap[b]?=w.heap[b]?:=fun b e _=>⟨e,hsame b (by rw [e];exact (sD _).symm)⟩
 refine ⟨σ,Tc,R.D,(h.fs.keep hw1 fun _ _=>rfl).sim h.nbx (fun o b ho=>?_) (fun b hb=>h.fr b (by omega)),?_,h.sg,?_,rfl,fun d hd=>⟨hDl d hd,(h.dd d hd).2.1,?_⟩,hDn⟩
 ·have hb:=h.bx o b ho
  have hT:Tc (σ o)≠nZ R.K:=by
   obtain ⟨_,_,_,_,h3,_⟩:=hb
   rw [h3];split<;>simp [nZ]
  exact hb.frame ⟨rfl,hsame _ hT⟩ (fun j b e _=>⟨e,hsame b (by rw [e];simp [nZ])⟩) hw1
 ·refine hC.keep _ _ _ w _ ⟨by omega,by rw [hw4];exact hos,by rw [hw4];exact htp,by rw [hw4];exact hou,fun b _ ht=>hsame b ?_,fun _ e=>e,fun _ _ e=>e⟩ h.j
  rcases ht with e|e<;>rw [e]<;>simp [nZ]
 ·refine ((hst.oL R.w0).stays.trans h.sy).trans ⟨by omega,fun b e=>e,fun b _ e=>hsame b (by rw [e];exact (sD _).symm)⟩
 ·rw [hsame d (by rw [(h.dd d hd).2.1];exact (sD _).symm)];exact (h.dd d hd).1
set_option maxHeartbeats 1000000 in
theorem Ou (hR:qI P rec)(hI:Ad P env)(hC:C.Ok P R.L){ca cb:Code}{ug bd:au}(ha:mC P ca ug=true)(hb:mC P cb bd=true){fnr:FuncId}{ps:Array Tmp}{dd:Nat}{rc:LoopState→Option Code→Loop}
  (hrc:rc=fun st pe=>{ state:=st,pending:=pe,fn:=fnr,tmps:=R.tmps,params:=ps,assign:=ca,body:=cb,defers:=dd }) {xs:List (List PV)} {stop:Option Nat} {r:Option (Ex×Nat)} {s1:St}
  (hcons:(stop=none∧r=none)∨∃ e m,stop=some m∧r=some (e,m)∧xs.length=m) (hX:s1.ys <+: C.X)
  {f:Nat} {caps:List PV} {arr:Array Value} (hit:jH rec env f caps stop=some xs) (hrd:rounds rec R.slots ps.toList ug bd R.nb 0 xs s=some (r,s1))
  (hsl:R.slots.length=R.K) (hfs:mF R.L R.nb R.σ0 R.T1 R.w0 R.slots R.tmps) (hbx:∀ (o:Nat) b,s.boxes[o]?=some b→iK R.T1 R.w0 (R.σ0 o) o b) (hnb:R.nb=s.boxes.length) (hfr:∀ b,R.w0.heap.size≤b→R.T1 b=.other) (hJ:C.J s.ys.length R.T1 R.w0) (hst:s.stop=C.stop)
  (ha1:arr.size=caps.length) (ha2:∀ (i:Nat) p v,caps[i]?=some p→arr[i]?=some v→aA (fun b=>R.T1 b=.ro) R.w0 p v)
  {W:World} (hB:R.B0=W.heap.size) (hW1:R.w0.heap.size≤W.heap.size) (hW2:∀ b,b<R.w0.heap.size→W.heap[b]?=R.w0.heap[b]?) (hW3:W.os=R.w0.os∧W.tape=R.w0.tape∧W.output=R.w0.output) (hl:W.heap[R.l]?=some (.loop (rc .ready none))) (hl0:R.w0.heap.size≤R.l)
  (hD1:∀ d∈R.D,R.w0.heap.size≤d∧W.heap[d]?=some (.deferred (some []))) (hDn:R.D.Nodup) (hlD:R.l ∉ R.D)
  {T0:Tags} (hstill:Still T0 R.T1) {ds:List Deferred} {m:Nat} {Q:Exit→Act→World→Prop} (hF:kR F)
  (hQ:∀ w4,After C R.L R.nb R.σ0 T0 R.w0 { s1 with slots:=R.slots } ds { tmps:=R.tmps,defers:=R.D.map jS++ds } w4→Q (toX (aay r)) { tmps:=R.tmps,defers:=R.D.map jS++ds } w4) :
  CallsIn F m P f (#[.func (.yield R.l) #[] #[]]++arr) W (rangePost F n P R.l Q { tmps:=R.tmps,defers:=R.D.map jS++ds }):=by
 refine hF.calls ?_
 -- the text of the iterator
 unfold jH at hit
 split at hit
 case h_2=>cases hit
 rename_i fn hfn
 split at hit
 case isFalse=>cases hit
 rename_i hna
 replace hit:=bind_some hit
 obtain ⟨⟨e2,st2⟩,hrun,hit⟩:=hit
 have hne:∀ i,e2≠.exit i:=fun i e=>by subst e;cases hit
 have hys:st2.ys=xs:=by cases e2<;>first|exact ZD.inj hit|cases hit
 obtain ⟨_,g,c,k1,k2,k3,k4,k5,k6⟩:=hI f fn hfn
 refine (callsIn_wide (n:=0)).1 (callsIn_of_wp_marks k1 k2 trivial ?_)
 rw [k4]
 have hll:=lt_of_heap hl
 -- what each side stands on
 obtain ⟨Ti,hTi⟩:∃ Ti:Tags,Ti=fun b=>if b<R.w0.heap.size∧R.T1 b=.ro then .ro else .other:=⟨_,rfl⟩
 have ti1:∀ b,R.T1 b=.ro→b<R.w0.heap.size→Ti b=.ro:=fun b e hb=>by rw [hTi];exact if_pos ⟨hb,e⟩
 have ti2:∀ b,R.w0.heap.size≤b→Ti b=.other:=fun b hb=>by rw [hTi];exact if_neg (by omega)
 have ti3:∀ b,Ti b≠.other→b<R.w0.heap.size∧R.T1 b=.ro:=fun b hb=>by
  rw [hTi] at hb
  by_cases e:b<R.w0.heap.size∧R.T1 b=.ro
  ·exact e
  ·exact absurd (if_neg e) hb
 obtain ⟨Tn,NZ⟩:∃ Tn:Tags,Tn=fun b=>if b=R.l then nZ R.K else if b∈R.D then .ro else R.T1 b:=⟨_,rfl⟩
 have tn1:∀ b,b<R.w0.heap.size→Tn b=R.T1 b:=fun b hb=>by
  rw [NZ]
  have h1:b≠R.l:=by omega
  have h2:b ∉ R.D:=fun hd=>by have:=(hD1 b hd).1;omega
  simp only [if_neg h1,if_neg h2]
 have tnl:Tn R.l=nZ R.K:=by rw [NZ];exact if_pos rfl
 have tnD:∀ d∈R.D,Tn d=.ro:=fun d hd=>by
  rw [NZ]
  have:d≠R.l:=fun e=>hlD (by rw [← e];exact hd)
  simp only [if_neg this,if_pos hd]
 have hro:∀ b,R.T1 b=.ro→b<R.w0.heap.size→Tn b=.ro∧W.heap[b]?=R.w0.heap[b]?:=fun b e hb=>⟨by rw [tn1 b hb,e],hW2 b hb⟩
 have ani:∀ b,R.T1 b=.ro→b<R.w0.heap.size:=fun b e=>by
  rcases ZaP b R.w0.heap.size with q|q
  ·exact q
  ·rw [hfr b q] at e;cases e
 have hCS:CS C R (rc .ready none) s Ti W:=by
  refine ⟨R.σ0,Tn,⟨hfs.keep hro fun _ _=>rfl,fun o b ho=>?_,fun b hb=>?_,?_,by omega,hst,fun _ _=>rfl,⟨hW1,fun b e=>(hro b e (ani b e)).1,fun b hb e=>hW2 b hb⟩,fun b _ ht=>?_,hl,tnl,ti2 _ hl0,fun d hd=>⟨(hD1 d hd).2,tnD d hd,ti2 _ (hD1 d hd).1⟩⟩⟩
  ·have hb:=hbx o b ho
   exact hb.frame ⟨tn1 _ hb.lt,hW2 _ hb.lt⟩ (fun j b e hb=>⟨by rw [tn1 b hb,e],hW2 b hb⟩) hro
  ·have h1:b≠R.l:=by omega
   have h2:b ∉ R.D:=fun hd=>by have:=lt_of_heap (hD1 b hd).2;omega
   rw [NZ]
   simp only [if_neg h1,if_neg h2]
   exact hfr b (by omega)
  ·exact hC.keep _ _ _ R.w0 _ ⟨hW1,hW3.1,hW3.2.1,hW3.2.2,fun b hb _=>hW2 b hb,fun b e=>(hro b e (ani b e)).1,fun b hb e=>by rw [tn1 b hb,e]⟩ hJ
  ·obtain ⟨q1,q2⟩:=ti3 b ht
   exact .inr ⟨ti1 b q2 q1,by rw [tn1 b q1,q2],.inl (by omega)⟩
 have hOk:=ajQ hR hC ha hb hrc hlD hcons hX
 have hargs:(#[Value.func (.yield R.l) #[] #[]]++arr).size=caps.length+1:=by simp;omega
 have KX:aH R.l (fun _=>0) Ti ⟨.qX::(caps.map .pv++Zae (fn.ntmps - (caps.length+1)) .any),[],[],some stop⟩
   { tmps:=(#[Value.func (.yield R.l) #[] #[]]++arr)++Za7 (fn.ntmps - (#[Value.func (.yield R.l) #[] #[]]++arr).size) undef,defers:=[] } W:=by
  refine ⟨by simp;omega,fun t av v ht hv=>?_,fun o bx ho=>by simp at ho,fun b hb=>ti2 b (by omega)⟩
  simp only at ht hv
  cases t with
  |zero =>
   simp only [Zau,ZD.injEq] at ht
   subst ht
   have:v=.func (.yield R.l) #[] #[]:=by
    rw [ZdC,Zbf (by simp)] at hv
    simpa using hv.symm
   exact this
  |succ t =>
   rw [ZaO] at ht
   rw [ZdC,Array.getElem?_append_right (by simp)] at hv
   simp only [ZaN,List.length_cons,ze,Nat.zero_add,Nat.add_sub_cancel] at hv
   rcases ZaP t caps.length with q|q
   ·rw [zR (by simpa using q),zd,ZZ q] at ht
    rw [Zbf (by omega)] at hv
    cases ht
    exact (ha2 t _ v (ZZ q) hv).frame fun b e hb=>⟨ti1 b e hb,hW2 b hb⟩
   ·rw [zP (by simpa using q),ZbF] at ht
    split at ht
    ·cases ht;trivial
    ·cases ht
 refine wpIn_mono (hR.wp (F:=Fence.wide) (L:=R.l) (C:=itC C R rec rc ps.toList ug bd xs stop r s1) (n:=0) (.inl rfl) (Ctx.Ac _) hOk c fn.body _ e2 st2 k3 hrun rfl (by rw [hys];exact ZbU _) _ Ti _ W KX ⟨(hC.glob _ _ _ hJ).frame fun b e hb=>⟨ti1 b e hb,hW2 b hb⟩,.inl ⟨s,hrd,hCS⟩⟩) ?_
 rintro x a' w2 ⟨rfl,σ2,T2,ms,q1,q2,q3,q4,q5,q6⟩
 have key:LeavesInM Fence.wide 0 P g a'.tmps (rangePost F n P R.l Q { tmps:=R.tmps,defers:=R.D.map jS++ds }) a'.defers .returning w2:=by
  rw [q5,ZaE]
  refine wG (B:=W.heap.size) q6.2 (fun d hd=>⟨(q6.1 d hd).1,(q6.1 d hd).2.2⟩) fun w3 e1 e3 e4 e5 e6=>?_
  have hgr:g.results=#[]:=k6 hna.2
  refine ⟨.tuple #[],?_,?_⟩
  ·unfold results
   rw [hgr]
   simp
  ·have fin:∀ lp,CS C R lp s1 T2 w2→lp.state≠.busy→∃ w4,(Instr.endLoop R.l).run P w3=.ok lp.pending w4∧After C R.L R.nb R.σ0 T0 R.w0 { s1 with slots:=R.slots } ds { tmps:=R.tmps,defers:=R.D.map jS++ds } w4:=fun lp hcs hlp =>
    ajR hC hcs (fun d hd=>⟨by rw [hB];exact (q6.1 d hd).1,(q6.1 d hd).2.1,(q6.1 d hd).2.2⟩) e6 e5 e1 e3 e4 hlp hstill (fun d hd=>(hD1 d hd).1) hDn hlD
   rw [hys] at q2
   rcases q2.2 with ⟨s',h1,h2⟩|⟨e,h1,h2,h3⟩
   ·rw [List.drop_length] at h1
    simp only [rounds,ZD.injEq,ZaB.injEq] at h1
    obtain ⟨hr,hs⟩:=h1
    subst hs
    obtain ⟨w4,t1,t2⟩:=fin _ h2 (by rw [hrc];simp)
    refine ⟨none,w4,by rw [hrc] at t1;exact t1,?_⟩
    have:=hQ w4 t2
    rw [← hr] at this
    exact this
   ·obtain ⟨w4,t1,t2⟩:=fin _ h3 (by rw [hrc];simp)
    have:=hQ w4 t2
    rw [h1] at this
    obtain ⟨hen,aqo⟩:=Jl _ _ _ _ _ _ (by rw [h1] at hrd;exact hrd)
    cases e with
    |normal=>exact absurd rfl hen
    |ret=>exact ⟨some .ret,w4,by rw [hrc] at t1;exact t1,wpIn_ret this⟩
    |exit i=>exact ⟨some (.exit i),w4,by rw [hrc] at t1;exact t1,wpIn_exit this⟩
    |oK t n=>exact absurd rfl (aqo t n)
 cases e2 with
 |normal=>exact key
 |ret=>exact key
 |exit i=>exact absurd rfl (hne i)
 |oK t n=>cases hit
end
section
variable {P:Program}{F:Fence}{C:Ctx}{n L nb:Nat}{σ σ':Nat→Nat}{T T' Tc T1 T2:Tags}{st st' st1 s:St}{a a1:Act}{w w' w1:World}{R:Rg}{lp:Loop}
 {rec:au→St→Option (Ex×St)} {env:Env} {e:Ex}
theorem aaz (hR:qI P rec)(hI:Ad P env)(hW:kR F)(hN:C.Rec F)(hC:C.Ok P L){ca cb:Code}{ug bd:au}(ha:mC P ca ug=true)(hb:mC P cb bd=true){g:Operand}{gx:bF}(hmg:aI g gx=true){ps:Array Tmp}{f:Nat}{caps:List PV}
  (hg:st.bU gx=some (.func f caps)) {xs:List (List PV)} {stop:Option Nat} {r:Option (Ex×Nat)} {s1:St} (hit:jH rec env f caps stop=some xs) (hrd:rounds rec (st.slots.map AV.froze) ps.toList ug bd st.boxes.length 0 xs { st with slots:=st.slots.map AV.froze }=some (r,s1))
  (hcons:(stop=none∧r=none)∨∃ e m,stop=some m∧r=some (e,m)∧xs.length=m) (hX:s1.ys <+: C.X) (hst:st.stop=C.stop) (hs:aH L σ T st a w) (hJ:C.J st.ys.length T w) :
  (Code.rangeFunc g ps ca cb).wpIn F n P (Post C L st.boxes.length σ T w (aay r) { s1 with slots:=st.slots.map AV.froze } a.defers) a w:=by
 obtain ⟨arr,e1,e2,e3⟩:=zU (hs.pv hmg hg)
 obtain ⟨T1,f1,f2,f3⟩:=hs.froze
 have hfr:∀ b,w.heap.size≤b→T1 b=.other:=fun b hb=>f3.other b (hs.fresh b hb)
 have hJ1:C.J st.ys.length T1 w:=hC.keep _ _ _ w _ (f3.oL w) hJ
 have hcap:∀ (i:Nat) p v,caps[i]?=some p→arr[i]?=some v→aA (fun b=>T1 b=.ro) w p v:=fun i p v hp hv=>(e3 i p v hp hv).frame fun b hb _=>⟨f3.ro b hb,rfl⟩
 have af5:callable P f=true:=by
  unfold jH at hit
  split at hit
  case h_2=>cases hit
  rename_i fn hfn
  exact (hI f fn hfn).1
 refine wpIn_rangeFunc fun fn hfn=>?_
 rcases hW with rfl|⟨l0,rfl⟩
 ·obtain ⟨rc,hrc⟩:∃ rc:LoopState→Option Code→Loop,rc=fun st pe=>{ state:=st,pending:=pe,fn:=fn,tmps:=a.tmps,params:=ps,assign:=ca,body:=cb,defers:=w.heap.size }:=⟨_,rfl⟩
  obtain ⟨W1,hW1⟩:∃ W1,(w.alloc (.deferred (some []))).alloc (.loop (rc .ready none))=W1:=⟨_,rfl⟩
  have hL1:W1.heap[w.heap.size+1]?=some (.loop (rc .ready none)):=by
   rw [← hW1];have:=World.alloc_heap_new (w.alloc (.deferred (some []))) (.loop (rc .ready none));rwa [World.size_alloc] at this
  have hK1:W1.heap[w.heap.size]?=some (.deferred (some [])):=by
   rw [← hW1];exact (Below.heap_alloc _ _ _ (by simp)).trans (World.alloc_heap_new w _)
  have hsz:W1.heap.size=w.heap.size+2:=by rw [← hW1];simp
  refine ⟨w.heap.size+1,[jS w.heap.size],W1,{ target:=.fn (.func f) arr,args:=#[.func (.yield (w.heap.size+1)) #[] #[]] },W1,f,#[.func (.yield (w.heap.size+1)) #[] #[]]++arr,W1,?_,?_,fun _ _=>trivial,?_,(fun h=>by cases h),?_⟩
  ·rw [← hW1,hrc];exact run_enterLoop_outer _ _ _ _ _
  ·simp only [resolve,e1]
   simp [go_sem]
  ·simp [invoke,go_sem,pO af5]
  ·refine Ou (R:=⟨L,st.boxes.length,st.slots.length,σ,T1,w,st.slots.map AV.froze,a.tmps,w.heap.size+1,[w.heap.size],W1.heap.size⟩) (s:={ st with slots:=st.slots.map AV.froze }) (T0:=T) hR hI hC ha hb hrc hcons hX hit hrd (by simp) f1 f2 rfl hfr hJ1 hst e2 hcap rfl ?_ ?_ ?_ hL1 ?_ ?_ ?_ ?_ f3 (.inl rfl) ?_
   ·show w.heap.size≤W1.heap.size;omega
   ·intro b hb
    rw [← hW1]
    exact (Below.heap_alloc _ _ _ (by simp only [World.size_alloc];exact Nat.lt_succ_of_lt hb)).trans (Below.heap_alloc _ _ _ hb)
   ·rw [← hW1];exact ⟨rfl,rfl,rfl⟩
   ·show w.heap.size≤w.heap.size+1;omega
   ·intro d hd
    have hd:d∈[w.heap.size]:=hd
    rw [Zao.1 hd]
    exact ⟨zg _,hK1⟩
   ·exact ZcE.2 ⟨by simp,Zdi⟩
   ·intro hd
    have hd:w.heap.size+1∈[w.heap.size]:=hd
    have:=Zao.1 hd
    omega
   ·intro w4 hA
    exact ⟨rfl,hA⟩
 ·obtain ⟨r0,hr0⟩:=hN l0 rfl _ _ _ hJ
  obtain ⟨rc,hrc⟩:∃ rc:LoopState→Option Code→Loop,rc=fun st pe=>{ state:=st,pending:=pe,fn:=fn,tmps:=a.tmps,params:=ps,assign:=ca,body:=cb,defers:=r0.defers }:=⟨_,rfl⟩
  obtain ⟨W1,hW1⟩:∃ W1,w.alloc (.loop (rc .ready none))=W1:=⟨_,rfl⟩
  have hL1:W1.heap[w.heap.size]?=some (.loop (rc .ready none)):=by
   rw [← hW1];exact World.alloc_heap_new w _
  have hsz:W1.heap.size=w.heap.size+1:=by rw [← hW1];simp
  refine ⟨w.heap.size,[],W1,{ target:=.fn (.func f) arr,args:=#[.func (.yield w.heap.size) #[] #[]] },W1,f,#[.func (.yield w.heap.size) #[] #[]]++arr,W1,?_,?_,fun _ _=>trivial,?_,(fun h=>by cases h),?_⟩
  ·rw [← hW1,hrc];exact run_enterLoop_inner hr0 _ _ _ _ _
  ·simp only [resolve,e1]
   simp [go_sem]
  ·simp [invoke,go_sem,pO af5]
  ·refine Ou (R:=⟨L,st.boxes.length,st.slots.length,σ,T1,w,st.slots.map AV.froze,a.tmps,w.heap.size,[],W1.heap.size⟩) (s:={ st with slots:=st.slots.map AV.froze }) (T0:=T) hR hI hC ha hb hrc hcons hX hit hrd (by simp) f1 f2 rfl hfr hJ1 hst e2 hcap rfl ?_ ?_ ?_ hL1 ?_ ?_ ?_ ?_ f3 (.inr ⟨l0,rfl⟩) ?_
   ·show w.heap.size≤W1.heap.size;omega
   ·intro b hb
    rw [← hW1]
    exact Below.heap_alloc _ _ _ hb
   ·rw [← hW1];exact ⟨rfl,rfl,rfl⟩
   ·exact zg _
   ·intro d hd;cases hd
   ·exact Zdi
   ·intro hd;cases hd
   ·intro w4 hA
    exact ⟨rfl,hA⟩
theorem Jm {gx:bF}{ps:List Nat}{ug bd:au}(h:ranged rec env gx ps ug bd st=some (e,st')):∃ f caps xs stop r s1,st.bU gx=some (.func f caps)∧jH rec env f caps stop=some xs∧rounds rec (st.slots.map AV.froze) ps ug bd st.boxes.length 0 xs { st with slots:=st.slots.map AV.froze }=some (r,s1) ∧
  ((stop=none∧r=none)∨∃ e m,stop=some m∧r=some (e,m)∧xs.length=m)∧e=aay r∧st'={ s1 with slots:=st.slots.map AV.froze }:=by
 unfold ranged at h
 replace h:=bind_some h
 obtain ⟨v,h1,h⟩:=h
 cases v<;>simp only [reduceCtorEq] at h
 rename_i f caps
 replace h:=bind_some h
 obtain ⟨xs,h2,h⟩:=h
 replace h:=bind_some h
 obtain ⟨⟨r,s1⟩,h3,h⟩:=h
 simp only at h
 cases r with
 |none =>
  simp only [ZD.injEq,ZaB.injEq] at h
  exact ⟨f,caps,xs,none,none,s1,h1,h2,h3,.inl ⟨rfl,rfl⟩,h.1.symm,h.2.symm⟩
 |some q =>
  obtain ⟨e0,k⟩:=q
  simp only at h
  replace h:=bind_some h
  obtain ⟨ys,h4,h⟩:=h
  replace h:=bind_some h
  obtain ⟨⟨r2,s2⟩,h5,h⟩:=h
  simp only at h
  cases r2 with
  |none=>cases h
  |some q2 =>
   obtain ⟨e2,m⟩:=q2
   simp only at h
   split at h
   case isFalse=>cases h
   rename_i hk
   obtain ⟨rfl,hk⟩:=hk
   simp only [ZD.injEq,ZaB.injEq] at h
   exact ⟨f,caps,ys,some m,some (e2,m),s2,h1,h4,h5,.inr ⟨e2,m,rfl,rfl,hk⟩,h.1.symm,h.2.symm⟩
end
section
variable {P:Program}{F:Fence}{C:Ctx}{n L nb:Nat}{σ σ':Nat→Nat}{T T' T1 T2:Tags}{st st' st1:St}{a a1:Act}{w w1:World}{o:Oper}{vo:gQ}{y:Operand}{x:bF}{d:Nat}
 {rec:au→St→Option (Ex×St)} {env:Env} {next:Act→World→Prop} {Q:Exit→Act→World→Prop} {bT:Array Oper} {ds:List Deferred} {e:Ex}
theorem dS {α β:Type}{x:Option α}{f:α→β}{y:β}(h:x.map f=some y):∃ z,x=some z∧f z=y:=by
 cases x with
 |none=>cases h
 |some z=>exact ⟨z,rfl,ZD.inj h⟩
theorem xW {keep:List Nat}(h0:st.head keep nb=some st1):st1.boxes.length=nb∧st1.ys=st.ys∧st1.stop=st.stop:=by
 unfold St.head at h0
 simp only at h0
 split at h0
 ·rename_i hc
  simp only [ZS,decide_eq_true_eq] at hc
  have h0:=ZD.inj h0
  subst h0
  exact ⟨by simp;omega,rfl,rfl⟩
 ·cases h0
theorem lM {P:Program}{b:Frame}{a:Act}{k:List Item}{cs:List Frame}{w:World}{c:Code}:Go.step P (lone (b.atR a (.code (.scope c)::k)) cs w)=.next (lone (b.atR a (.code c::.inScope c::k)) cs w) :=
 step_lone_go (by simp [stepG,stepG.exec,Frame.atR])
theorem Ik {P:Program}{b:Frame}{a:Act}{k:List Item}{cs:List Frame}{w:World}{c:Code}:Go.step P (lone (b.atR a (.inScope c::k)) cs w)=.next (lone (b.atR a k) cs w) :=
 step_lone_go (by simp [stepG,stepG.exec,Frame.atR])
theorem Sr {Q:Exit→Act→World→Prop}{c:Code}(h:c.wpIn F n P (Exit.noGoto Q) a w):(Code.scope c).wpIn F n P Q a w:=by
 intro b k cs hro hb hr
 have h0:(lone (b.atR a (.code (.scope c)::k)) cs w).fenced P F:=fenced_calm hb hr rfl
 obtain ⟨e,a₁,w₁,hq,harr⟩:=h b (.inScope c::k) cs hro hb hr
 cases e with
 |normal=>exact ⟨.normal,a₁,w₁,hq,.head h0 lM (StepsIn.trans harr (.one (fenced_calm hb hr rfl) Ik))⟩
 |exit id =>
  have hx:exitTo id (.inScope c::k)=exitTo id k:=by simp [exitTo]
  exact ⟨.exit id,a₁,w₁,hq,fun k' hk=>.head h0 lM (harr.1 k' (by rw [hx];exact hk)),
   fun hr' hk=>let ⟨k₁,h1,h2⟩:=harr.2 hr' (by rw [hx];exact hk);⟨k₁,h1,.head h0 lM h2⟩⟩
 |goto l=>exact hq.elim
 |ret=>exact ⟨_,a₁,w₁,hq,.of_steps (.one h0 lM) harr⟩
 |panic ch=>exact ⟨_,a₁,w₁,hq,.of_steps (.one h0 lM) harr⟩
 |outgrown=>exact ⟨_,a₁,w₁,hq,.of_steps (.one h0 lM) harr⟩
theorem Sv (hR:qI P rec){c:Code}{keep:List Nat}{vc:au}(hm:mC P c vc=true)(h:step rec env (.round keep nb vc) st=some (e,st')):Grow nb st st':=by
 simp only [step] at h
 replace h:=bind_some h
 obtain ⟨st0,h0,h⟩:=h
 replace h:=bind_some h
 obtain ⟨⟨e1,st1⟩,h1,h⟩:=h
 have hh:st0.boxes.length=nb∧st0.ys=st.ys∧st0.stop=st.stop:=by
  unfold St.head at h0
  simp only at h0
  split at h0
  ·rename_i hc
   simp only [ZS,decide_eq_true_eq] at hc
   have h0:=ZD.inj h0
   subst h0
   exact ⟨by simp;omega,rfl,rfl⟩
  ·cases h0
 have g1:=hR.grow _ _ _ _ _ hm h1
 have g1':Grow nb st st1:=by
  refine ⟨by rw [← hh.1];exact g1.1,by rw [← hh.2.1];exact g1.2.1,g1.2.2.trans hh.2.2⟩
 simp only at h
 split at h
 ·exact g1'.trans (hR.aat _ _ _ _ _ _ _ hm h)
 ·cases ZD.inj h;exact g1'
theorem Xg (hR:qI P rec){c:Code}{vc:au}(hm:mC P c vc=true)(h:step rec env vc st=some (e,st')):Grow st.boxes.length st st':=by
 cases vc with
 |skip=>simp only [step,ZD.injEq,ZaB.injEq] at h;rw [← h.2];exact (aO.refl _).grow
 |ops l =>
  simp only [step] at h
  obtain ⟨st1,h1,h2⟩:=dS h
  cases h2;exact fH h1
 |qp fz acts fin last l =>
  simp only [step] at h
  obtain ⟨st1,h1,h2⟩:=dS h
  cases h2
  have gz:=aO.kC fz (aO.refl st)
  exact ((aO.grow gz).trans (fH h1)).mono gz.1
 |drs fz keep vo alts =>
  simp only [step] at h
  obtain ⟨st1,h1,h2⟩:=dS h
  cases h2
  have gz:=aO.kC fz (aO.refl st)
  have g:=Ii h1
  exact ((aO.grow gz).trans ⟨g.1,g.2.1,g.2.2⟩).mono gz.1
 |lend d ks l =>
  simp only [step] at h
  split at h
  case h_2=>cases h
  split at h
  case isFalse=>cases h
  obtain ⟨st3,h1,h2⟩:=dS h
  cases h2
  obtain ⟨st2,h3,h4⟩:=bind_some h1
  have gz:=(aO.refl st).freeze (.slot d)
  exact ((gz.grow.trans (fH h3)).mono gz.1).vU h4
 |seq a b =>
  cases c<;>first|(simp [mC] at hm;done)|skip
  rename_i c1 c2
  simp only [mC,ZS] at hm
  simp only [step] at h
  replace h:=bind_some h
  obtain ⟨⟨e1,st1⟩,h1,h⟩:=h
  have g1:=hR.grow _ _ _ _ _ hm.1 h1
  simp only at h
  split at h
  ·exact (g1.trans (hR.grow _ _ _ _ _ hm.2 h)).mono g1.1
  ·cases ZD.inj h;exact g1
 |cond y a b =>
  cases c<;>first|(simp [mC] at hm;done)|skip
  simp only [mC,ZS] at hm
  simp only [step] at h
  replace h:=bind_some h
  obtain ⟨v,h1,h⟩:=h
  split at h
  ·split at h
   ·exact hR.grow _ _ _ _ _ hm.1.2 h
   ·exact hR.grow _ _ _ _ _ hm.2 h
  ·cases h
 |block i a =>
  cases c<;>first|(simp [mC] at hm;done)|skip
  simp only [mC,ZS] at hm
  simp only [step] at h
  replace h:=bind_some h
  obtain ⟨⟨e1,st1⟩,h1,h⟩:=h
  have h:=ZD.inj h
  cases h
  exact hR.grow _ _ _ _ _ hm.2 h1
 |loop keep a =>
  cases c<;>first|(simp [mC] at hm;done)|skip
  simp only [mC] at hm
  simp only [step] at h
  exact hR.aat _ _ _ _ _ _ _ hm h
 |round keep nb a =>
  cases c<;>first|(simp [mC] at hm;done)|skip
 |rng g ps ug b =>
  cases c<;>first|(simp [mC] at hm;done)|skip
  rename_i g1 ps1 c1 c2
  simp only [mC,ZS,beq_iff_eq] at hm
  obtain ⟨⟨⟨m1,m2⟩,m3⟩,m4⟩:=hm
  simp only [step] at h
  obtain ⟨f,caps,xs,stop,r,s1,q1,q2,q3,q4,rfl,rfl⟩:=Jm h
  have:=wF hR.grow m3 m4 xs 0 _ r s1 q3 (zg _)
  exact ⟨this.1,this.2.1,this.2.2⟩
 |scp a =>
  cases c<;>first|(simp [mC] at hm;done)|skip
  simp only [mC] at hm
  simp only [step] at h
  exact hR.grow _ _ _ _ _ hm h
 |clean pre post a =>
  replace hm:mC P c a=true:=by cases c<;>simpa only [mC] using hm
  simp only [step] at h
  replace h:=bind_some h
  obtain ⟨st1,h0,h⟩:=h
  replace h:=bind_some h
  obtain ⟨⟨e1,st2⟩,h1,h⟩:=h
  replace h:=bind_some h
  obtain ⟨st3,h2,h⟩:=h
  cases ZD.inj h
  obtain ⟨k1,k2,k3⟩:=xW h0
  obtain ⟨l1,l2,l3⟩:=xW h2
  have g1:=hR.grow _ _ _ _ _ hm h1
  exact ⟨by omega,by rw [l2,← k2];exact g1.2.1,by rw [l3,g1.2.2,k3]⟩
 |exit i=>simp only [step,ZD.injEq,ZaB.injEq] at h;rw [← h.2];exact (aO.refl _).grow
 |ret=>simp only [step,ZD.injEq,ZaB.injEq] at h;rw [← h.2];exact (aO.refl _).grow
 |dem l d f args =>
  simp only [step] at h
  obtain ⟨st1,h1,h⟩:=bind_some h
  obtain ⟨vs,h2,h⟩:=bind_some h
  obtain ⟨r,h3,h⟩:=bind_some h
  cases r with
  |some p=>cases ZD.inj h;exact fH h1
  |none =>
   obtain ⟨st2,h4,h5⟩:=dS h
   cases h5
   exact ((fH h1).trans (EP h4)).mono (fH h1).1
theorem Post.trans {nb1:Nat}{σ1:Nat→Nat}{ms:List Nat}(hs:bY T T1 w w1)(hσ:∀ k,k<nb→σ1 k=σ k)(hd:a1.defers=ms.map jS++ds)(hms:Marks T1 w w1 ms)(hnb:nb≤nb1)
  {x:Exit} {a':Act} {w':World} (h:Post C L nb1 σ1 T1 w1 e st' a1.defers x a' w'):Post C L nb σ T w e st' ds x a' w':=⟨h.1,After.trans hs hσ hd hms hnb h.2⟩
theorem aaA (hR:qI P rec)(hW:kR F)(hN:C.Rec F)(hC:C.Ok P L){c:Code}{keep:List Nat}{vc:au}(hm:mC P c vc=true)(h:step rec env (.round keep nb vc) st=some (e,st'))(hst:st.stop=C.stop)(hX:st'.ys <+: C.X)
  (hs:aH L σ T st a w) (hJ:C.J st.ys.length T w):yX F n P c (Post C L nb σ T w e st' a.defers) a w:=by
 simp only [step] at h
 replace h:=bind_some h
 obtain ⟨st0,h0,h⟩:=h
 replace h:=bind_some h
 obtain ⟨⟨e1,st1⟩,h1,h⟩:=h
 obtain ⟨q1,q2,q3,q4,q5⟩:=hs.head h0
 have g1:=hR.grow _ _ _ _ _ hm h1
 refine N9 ?_
 have hX1:st1.ys <+: C.X:=by
  simp only at h
  split at h
  ·exact (hR.aat _ _ _ _ _ _ _ hm h).2.1.trans hX
  ·cases ZD.inj h;exact hX
 refine wpIn_mono (hR.wp hW hN hC c vc st0 e1 st1 hm h1 (q4.trans hst) hX1 σ T a w q1 (by rw [q3];exact hJ)) ?_
 rintro x a1 w1 ⟨hx,hA⟩
 rw [q2] at hA
 simp only at h
 split at h
 ·subst hx
  obtain ⟨σ1,T1,ms,k1,k2,k3,k4,k5,k6⟩:=hA
  exact Oa (hR.wpR hW hN hC c keep nb vc st1 e st' hm h (g1.2.2.trans (q4.trans hst)) hX σ1 T1 a1 w1 k1 k2) fun x a' w' hP=>Post.trans k4 k3 k5 k6 (zg _) hP
 ·rename_i hne
  cases ZD.inj h
  cases e with
  |normal=>exact absurd rfl hne
  |exit i=>subst hx;exact ⟨rfl,hA⟩
  |ret=>subst hx;exact ⟨rfl,hA⟩
  |oK t m=>subst hx;exact ⟨rfl,hA⟩
theorem ajS (hW:kR F)(hC:C.Ok P L)(bf:fV P rec env)(hX:st'.ys <+: C.X)(hs:aH L σ T st a w)(hJ:C.J st.ys.length T w)(hst:st.stop=C.stop){l:List gQ}{f:Nat}{args:List bF}(hm:mL P bT bT.toList (l++[.call d f args])=true)(h1:ops rec env l st=some st1)
  {vs:List PV} (h2:args.mapM st1.bU=some vs) {r:Option (Nat×Int)} (h3:HY rec env f vs=some r) (h:(match r with
   |some (t,n)=>some (.oK t n,st1)
   |none=>(act rec env (.call d f args) st1).map fun st2=>(.normal,st2))=some (e,st')):wpListIn F n P bT (Post C L st.boxes.length σ T w e st' a.defers) bT.toList a w:=by
 obtain ⟨l1,o,hl,m1,m2⟩:=afY hm
 have g1:=fH h1
 rw [hl]
 cases r with
 |some p =>
  cases ZD.inj h
  refine KO hW hC bf hX hs hJ hst m1 h1 ?_
  rintro a1 w1 ⟨σ1,T1,ms,k1,k2,k3,k4,k5,k6⟩
  exact ajF hW hC bf k1 k2 m2 h2 h3 fun w' hA=>⟨rfl,After.trans k4 k3 k5 k6 g1.1 hA⟩
 |none =>
  obtain ⟨st2,h4,h5⟩:=dS h
  cases h5
  have g2:Grow st1.boxes.length st1 st':=EP h4
  refine KO hW hC bf (g2.2.1.trans hX) hs hJ hst m1 h1 ?_
  rintro a1 w1 ⟨σ1,T1,ms,k1,k2,k3,k4,k5,k6⟩
  have h6:ops rec env [.call d f args] st1=some st':=by
   simp only [ops,op,op1,lY,↓reduceIte,h4]
   rfl
  have m3:mL P bT [o] [.call d f args]=true:=by simp only [mL,m2,Bool.and_self]
  exact RI hW hC bf hX k1 k2 (g1.2.2.trans hst) m3 h6 fun a' w' hA=>⟨rfl,After.trans k4 k3 k5 k6 g1.1 hA⟩
theorem af6 (hR:qI P rec)(hI:Ad P env)(bf:fV P rec env)(hW:kR F)(hN:C.Rec F)(hC:C.Ok P L){c:Code}{vc:au}(hm:mC P c vc=true)(h:step rec env vc st=some (e,st'))(hst:st.stop=C.stop)(hX:st'.ys <+: C.X)
  (hs:aH L σ T st a w) (hJ:C.J st.ys.length T w):c.wpIn F n P (Post C L st.boxes.length σ T w e st' a.defers) a w:=by
 cases vc with
 |skip =>
  simp only [step,ZD.injEq,ZaB.injEq] at h
  obtain ⟨rfl,rfl⟩:=h
  cases c<;>first|(simp [mC] at hm;done)|skip
  case skip=>exact wpIn_skip ⟨rfl,After.refl hs hJ⟩
  case label l=>exact wpIn_label ⟨rfl,After.refl hs hJ⟩
 |ops l =>
  simp only [step] at h
  obtain ⟨st1,h1,h2⟩:=dS h
  cases h2
  cases c<;>first|(simp [mC] at hm;done)|skip
  case region id ops dr =>
   cases dr<;>simp [mC] at hm
   exact wpIn_region_list (RI hW hC bf hX hs hJ hst hm h1 fun a' w' hA=>⟨rfl,hA⟩)
 |qp fz acts fin last l =>
  simp only [step] at h
  obtain ⟨st1,h1,h2⟩:=dS h
  cases h2
  cases c<;>first|(simp [mC] at hm;done)|skip
  case region id ops dr =>
   cases dr<;>simp only [mC,ZS,zm] at hm
   obtain ⟨⟨⟨m1,m2⟩,m3⟩,m4⟩:=hm
   obtain ⟨T1,q1,q2⟩:=hs.kC fz
   have gz:=aO.kC fz (aO.refl st)
   have hJ1:C.J (fz.foldl St.iF st).ys.length T1 w:=by rw [gz.2.1];exact hC.keep _ _ _ _ _ (q2.oL w) hJ
   exact Ih hW hC bf q1 hJ1 (gz.2.2.trans hst) hX m1 m2 m3 m4 h1 fun a' w' hA=>⟨rfl,After.trans (ms:=[]) ((q2.oL w).stays) (fun _ _=>rfl) rfl Marks.nil gz.1 hA⟩
 |drs fz keep vo alts =>
  simp only [step] at h
  obtain ⟨st1,h1,h2⟩:=dS h
  cases h2
  cases alts with
  |nil=>cases h1
  |cons alt alts =>
  cases c<;>first|(simp [mC] at hm;done)|skip
  case region id ops dr =>
   cases dr<;>simp only [mC,ZS,zm] at hm
   obtain ⟨⟨m1,m2⟩,m3⟩:=hm
   obtain ⟨T1,q1,q2⟩:=hs.kC fz
   have gz:=aO.kC fz (aO.refl st)
   have hJ1:C.J (fz.foldl St.iF st).ys.length T1 w:=by rw [gz.2.1];exact hC.keep _ _ _ _ _ (q2.oL w) hJ
   exact Ij hW hC bf q1 hJ1 (gz.2.2.trans hst) hX m1 m2 m3 h1 fun a' w' hA=>⟨rfl,After.trans (ms:=[]) ((q2.oL w).stays) (fun _ _=>rfl) rfl Marks.nil gz.1 hA⟩
 |lend d ks l =>
  simp only [step] at h
  split at h
  case h_2=>cases h
  rename_i hd
  split at h
  case isFalse=>cases h
  rename_i hstop
  obtain ⟨st3,h1,h2⟩:=dS h
  cases h2
  obtain ⟨st2,h3,h4⟩:=bind_some h1
  cases c<;>first|(simp [mC] at hm;done)|skip
 |seq a b =>
  cases c<;>first|(simp [mC] at hm;done)|skip
  rename_i c1 c2
  simp only [mC,ZS] at hm
  simp only [step] at h
  replace h:=bind_some h
  obtain ⟨⟨e1,st1⟩,h1,h⟩:=h
  have g1:=hR.grow _ _ _ _ _ hm.1 h1
  refine wpIn_seq ?_
  have hX1:st1.ys <+: C.X:=by
   simp only at h
   split at h
   ·exact (hR.grow _ _ _ _ _ hm.2 h).2.1.trans hX
   ·cases ZD.inj h;exact hX
  refine wpIn_mono (hR.wp hW hN hC c1 _ st e1 st1 hm.1 h1 hst hX1 σ T _ w hs hJ) ?_
  rintro x a1 w1 ⟨hx,hA⟩
  simp only at h
  split at h
  ·subst hx
   obtain ⟨σ1,T1,ms,k1,k2,k3,k4,k5,k6⟩:=hA
   exact wpIn_mono (hR.wp hW hN hC c2 _ st1 e st' hm.2 h (g1.2.2.trans hst) hX σ1 T1 a1 w1 k1 k2) fun x a' w' hP=>Post.trans k4 k3 k5 k6 g1.1 hP
  ·rename_i hne
   cases ZD.inj h
   cases e with
   |normal=>exact absurd rfl hne
   |exit i=>subst hx;exact ⟨rfl,hA⟩
   |ret=>subst hx;exact ⟨rfl,hA⟩
   |oK t m=>subst hx;exact ⟨rfl,hA⟩
 |cond y a b =>
  cases c<;>first|(simp [mC] at hm;done)|skip
  rename_i x c1 c2
  simp only [mC,ZS] at hm
  simp only [step] at h
  replace h:=bind_some h
  obtain ⟨v,h1,h⟩:=h
  split at h
  case h_2=>cases h
  rename_i t
  refine wpIn_cond (t:=t) (hs.pv hm.1.1 h1).jw ?_
  cases t with
  |true=>exact hR.wp hW hN hC c1 _ st e st' hm.1.2 (by simpa using h) hst hX σ T _ w hs hJ
  |false=>exact hR.wp hW hN hC c2 _ st e st' hm.2 (by simpa using h) hst hX σ T _ w hs hJ
 |block i a =>
  cases c<;>first|(simp [mC] at hm;done)|skip
  rename_i j c1
  simp only [mC,ZS,beq_iff_eq] at hm
  obtain ⟨rfl,hm⟩:=hm
  simp only [step] at h
  replace h:=bind_some h
  obtain ⟨⟨e1,st1⟩,h1,h⟩:=h
  have h:=ZD.inj h
  cases h
  refine wpIn_block (wpIn_mono (hR.wp hW hN hC c1 _ st e1 st1 hm h1 hst hX σ T _ w hs hJ) ?_)
  rintro x a1 w1 ⟨rfl,hA⟩
  cases e1 with
  |normal=>exact ⟨rfl,hA⟩
  |exit i =>
   by_cases hij:i=j
   ·subst hij;simp only [toX,Exit.inBlock,↓reduceIte];exact ⟨rfl,hA⟩
   ·have hne:(Ex.exit i=Ex.exit j)=False:=by simpa using hij
    simp only [toX,Exit.inBlock,if_neg hij,hne,↓reduceIte];exact ⟨rfl,hA⟩
  |ret=>exact ⟨rfl,hA⟩
  |oK t m=>exact ⟨rfl,hA⟩
 |loop keep a =>
  cases c<;>first|(simp [mC] at hm;done)|skip
  simp only [mC] at hm
  simp only [step] at h
  exact KN (hR.wpR hW hN hC _ keep _ _ st e st' hm h hst hX σ T _ w hs hJ)
 |round keep nb a =>
  cases c<;>first|(simp [mC] at hm;done)|skip
 |rng g ps ug b =>
  cases c<;>first|(simp [mC] at hm;done)|skip
  rename_i g1 ps1 c1 c2
  simp only [mC,ZS,beq_iff_eq] at hm
  obtain ⟨⟨⟨m1,m2⟩,m3⟩,m4⟩:=hm
  subst m2
  simp only [step] at h
  obtain ⟨f,caps,xs,stop,r,s1,q1,q2,q3,q4,rfl,rfl⟩:=Jm h
  exact aaz hR hI hW hN hC m3 m4 m1 q1 q2 q3 q4 hX hst hs hJ
 |scp a =>
  cases c<;>first|(simp [mC] at hm;done)|skip
  rename_i c1
  simp only [mC] at hm
  simp only [step] at h
  refine Sr (wpIn_mono (hR.wp hW hN hC c1 _ st e st' hm h hst hX σ T _ w hs hJ) ?_)
  rintro x a1 w1 ⟨rfl,hA⟩
  cases e<;>exact ⟨rfl,hA⟩
 |clean pre post a =>
  replace hm:mC P c a=true:=by cases c<;>simpa only [mC] using hm
  simp only [step] at h
  replace h:=bind_some h
  obtain ⟨st1,h0,h⟩:=h
  replace h:=bind_some h
  obtain ⟨⟨e1,st2⟩,h1,h⟩:=h
  replace h:=bind_some h
  obtain ⟨st3,h2,h⟩:=h
  cases ZD.inj h
  obtain ⟨q1,q2,q3,q4,q5⟩:=hs.head h0
  obtain ⟨l1,l2,l3⟩:=xW h2
  refine wpIn_mono (hR.wp hW hN hC c a st1 _ st2 hm h1 (q4.trans hst) (by rw [← l2];exact hX) σ T _ w q1 (by rw [q3];exact hJ)) ?_
  rintro x a1 w1 ⟨hx,σ1,T1,ms,k1,k2,k3,k4,k5,k6⟩
  obtain ⟨r1,r2,r3,r4,r5⟩:=k1.head h2
  exact ⟨hx,σ1,T1,ms,r1,by rw [r3];exact k2,by rw [← q2];exact k3,k4,k5,k6⟩
 |exit i =>
  simp only [step,ZD.injEq,ZaB.injEq] at h
  obtain ⟨rfl,rfl⟩:=h
  cases c<;>first|(simp [mC] at hm;done)|skip
  simp only [mC,beq_iff_eq] at hm
  subst hm
  exact wpIn_exit ⟨rfl,After.refl hs hJ⟩
 |ret =>
  simp only [step,ZD.injEq,ZaB.injEq] at h
  obtain ⟨rfl,rfl⟩:=h
  cases c<;>first|(simp [mC] at hm;done)|skip
  exact wpIn_ret ⟨rfl,After.refl hs hJ⟩
 |dem l d f args =>
  simp only [step] at h
  obtain ⟨st1,h1,h⟩:=bind_some h
  obtain ⟨vs,h2,h⟩:=bind_some h
  obtain ⟨r,h3,h⟩:=bind_some h
  cases c<;>first|(simp [mC] at hm;done)|skip
  case region id ops dr =>
   cases dr<;>simp [mC] at hm
   exact wpIn_region_list (ajS hW hC bf hX hs hJ hst hm h1 h2 h3 (by cases r<;>exact h))
theorem step_ok (hR:qI P rec)(hI:Ad P env)(bf:fV P rec env):qI P (step rec env) :=
 ⟨fun _ _ _ _ _ hm h=>Xg hR hm h,fun _ _ _ _ _ _ _ hm h=>Sv hR hm h,
  fun hW hN hC _ _ _ _ _ hm h hst hX _ _ _ _ hs hJ=>af6 hR hI bf hW hN hC hm h hst hX hs hJ,
  fun hW hN hC _ _ _ _ _ _ _ hm h hst hX _ _ _ _ hs hJ=>aaA hR hW hN hC hm h hst hX hs hJ⟩
end
section
variable {P:Program}{L K:Nat}{σ σ':Nat→Nat}{T T' T1 T2:Tags}{st st' st1:St}{a a1:Act}{w w1:World}{r:Root}
theorem aH.af7 (h:aH L σ T st a w){i:Nat}(h1:∀ t s l,st.slots[t]?=some (.row s l)→r≠.slot t)(h2:∀ (t i:Nat),r≠.part t i)(h3:∀ p q bx s l,st.boxes[p]?=some bx→bx.cs[q]?=some (.row s l)→r≠.cell p q)(hK:st.slots.length≤K) :
  aH L σ (moved T r (.part K i)) st a w:=by
 have hw:∀ b,T b=.ro→b<w.heap.size→moved T r (.part K i) b=.ro∧w.heap[b]?=w.heap[b]?:=fun b e _=>⟨gU e,rfl⟩
 refine ⟨h.size,fun t x u hx hu=>?_,fun p bx ho=>?_,fun b hb=>jP (h.fresh b hb)⟩
 ·have ht:t<st.slots.length:=(Z1.1 hx).1
  refine (h.slots t x u hx hu).keep hw (fun s l e b hb _=>⟨dG (fun e2=>h1 t s l (by rw [hx,e]) e2.symm) (by simp) hb,rfl⟩) (fun l e i' _ b hb _=>⟨dG (fun e2=>h2 _ _ e2.symm) (fun e2=>?_) hb,rfl⟩) (fun q hq _ s l e=>⟨⟨l,e⟩,rfl⟩) (zg _) (fun _ _=>rfl)
  cases e2;omega
 ·obtain ⟨arr,E,g1,g2,g3,g4,g5⟩:=h.boxes p bx ho
  refine ⟨arr,E,g1,g2,?_,g4,fun j bv u hj hu=>?_⟩
  ·cases hf:bx.fz with
   |true=>rw [hf] at g3;simpa using gU g3
   |false=>rw [hf] at g3;simpa using nG g3
  ·obtain ⟨k1,k2⟩:=g5 j bv u hj hu
   refine ⟨k1,?_⟩
   cases bv with
   |pv x=>exact aA.frame hw k2
   |row sz es=>exact aJ.frame (fun b e _=>⟨dG (fun e2=>h3 p j bx sz es ho hj e2.symm) (by simp) e,rfl⟩) hw k2
theorem aJ.ajT {sz:Nat}{es:List PV}{xa:Option Addr}{c:Nat}(h:aJ T w r sz es (.slice xa es.length c))(k:Nat):aJ T w r sz (es.take k) (.slice xa (es.take k).length c):=by
 rcases h with ⟨rfl,a,e⟩|⟨b,c',arr,E,e,h2,h3,h4,h5,h6,h7,h8⟩
 ·simp only [ze,Value.slice.injEq] at e
  obtain ⟨_,_,rfl⟩:=e
  exact .inl ⟨by simp,xa,by simp⟩
 ·simp only [Value.slice.injEq] at e
  obtain ⟨rfl,_,rfl⟩:=e
  refine .inr ⟨b,c,arr,E,rfl,h2,h3,h4,?_,h6,fun e he=>h7 e (List.mem_of_mem_take he),fun i e j x hi hj=>?_⟩
  ·simp;omega
  ·rw [Zad] at hi
   split at hi
   ·exact h8 i e j x hi hj
   ·cases hi
def RK (T:Tags)(w:World)(K i:Nat):pY→Value→Prop
 |(.list sz es,true),u=>aJ T w (.part K i) sz es u
 |(.agg _,true),_=>False
 |(x,_),u=>aA (fun b=>T b=.ro) w x u
theorem RK.pv {i:Nat}{x:PV}{u:Value}(h:aA (fun b=>T b=.ro) w x u):RK T w K i (x,false) u:=by
 cases x<;>exact h
def mJ (tmps:Array Value):ResultVar→Sem Value
 |.tmp t=>pure (tmps.getD t undef)
 |.cell a t=>do loadVar t (← asAddr (tmps.getD a undef))
def Sz (P:Program):ResultVar→sK→Bool
 |.tmp t,.tmp s=>t==s
 |.cell t T0,.cell s n=>t==s&&kN P T0==some n
 |.cell t T0,.own s n=>t==s&&kN P T0==some (some n)
 |_,_=>false
theorem SA (h:aH L σ T st a w){g:ResultVar}{v:sK}(hm:Sz P g v=true){x:pY}(hp:oq st v=some (x,st1))(hK:st.slots.length≤K)(i:Nat) :
  ∃ u T',(mJ a.tmps g).run P w=.ok u w∧aH L σ T' st1 a w∧Still T T'∧RK T' w K i x u∧(∀ b k,k≠i→T b=.row (.part K k)→T' b=.row (.part K k))∧st1.slots.length=st.slots.length∧(∀ b o,T b=.box o→T' b=.box o):=by
 cases g<;>cases v<;>simp only [Sz,zm] at hm
 case tmp.tmp t s =>
  simp only [beq_iff_eq] at hm
  subst hm
  have hev:a.tmps.getD t undef=a.eval (.tmp t):=rfl
  have hmo:aI (.tmp t) (.t t)=true:=by simp [aI]
  simp only [oq] at hp
  split at hp
  ·rename_i sz es st2 hg
   have hp:=ZD.inj hp
   cases hp
   obtain ⟨k1,k2,q,v,es0,c,xa,k3,k4,k5,k6,k7,k8,k9⟩:=h.grab hmo hg
   have hlen:st1.slots.length=st.slots.length:=by rw [← k1.size,← h.size]
   refine ⟨a.eval (.tmp t),moved T q (.part K i),by rw [mJ,hev];rfl,k1.af7 k7 k8 k9 (by omega),Still.moved _ _ _,?_,fun b k hk e=>dG (fun e2=>k8 _ _ e2.symm) (by simp [hk]) e,hlen,fun b o e=>nG e⟩
   rw [k6]
   subst k5
   have:=aJ.ajT k3 es.length
   rw [← k4] at this
   exact aJ.frame (fun b e _=>⟨qc e,rfl⟩) (fun b e _=>⟨gU e,rfl⟩) this
  ·split at hp
   ·rename_i v hv
    have hp:=ZD.inj hp
    cases hp
    have e2:st.bU (.t t)=some v:=by unfold St.bU;rw [show st.get (.t t)=.pv v from hv]
    exact ⟨a.eval (.tmp t),T,by rw [mJ,hev];rfl,h,Still.refl T,RK.pv (h.pv hmo e2),fun _ _ _ e=>e,rfl,fun _ _ e=>e⟩
   ·rename_i r off len hv
    split at hp
    case h_2=>cases hp
    rename_i sz es hr
    split at hp
    case isFalse=>cases hp
    rename_i hl
    have hp:=ZD.inj hp
    cases hp
    obtain ⟨T1,k1,k2,k3,k4,k5⟩:=h.freeze r
    refine ⟨a.eval (.tmp t),T1,by rw [mJ,hev];rfl,k1,k2,RK.pv (h.Eb hr (h.Kv hmo hv sz es hr) hl (k4 sz es hr) k2.ro),fun b k _ e=>k3 b _ (fun e2=>by subst e2;simp [St.row] at hr) e,by rw [← k1.size,← h.size],k5⟩
   ·cases hp
 case cell.cell t T0 s n =>
  simp only [ZS,beq_iff_eq] at hm
  obtain ⟨rfl,hc⟩:=hm
  simp only [oq] at hp
  split at hp
  case h_2=>cases hp
  rename_i p j hv
  split at hp
  case h_2=>cases hp
  rename_i bx h1
  have hs:st.slots[t]?=some (.aP p j):=lK (st:=st) hv (by simp)
  have hlt:t<a.tmps.size:=by rw [h.size];exact (Z1.1 hs).1
  have hgp:a.tmps.getD t undef=.pointer (some ⟨σ p,j,none⟩):=by
   have:=(h.slots t _ _ hs (zj hlt)).2
   rw [ZaA,zj hlt,ZbH,this]
  have hread:∀ {u:Value},(loadVar T0 ⟨σ p,j,none⟩).run P w=.ok u w→(mJ a.tmps (.cell t T0)).run P w=.ok u w:=fun hu=>by
   simp only [mJ,hgp,asAddr,Sem.run_bind,Sem.run_pure,Result.andThen_ok]
   exact hu
  have hbox:=h.boxes p bx h1
  cases n with
  |none =>
   obtain ⟨arr,E,g1,g2,g3,g4,g5⟩:=hbox
   have hld:∀ (bv:BV),bx.cs[j]?=some bv→∃ u,(loadVar T0 ⟨σ p,j,none⟩).run P w=.ok u w∧H6 T w p j bv u:=fun bv hbv=>by
    have hj:j<arr.size:=by rw [g2];exact (Z1.1 hbv).1
    obtain ⟨k1,k2⟩:=g5 j _ arr[j] hbv (zj hj)
    refine ⟨arr[j],?_,k2⟩
    unfold loadVar
    simp only [Sem.run_bind,jZ hc,Result.andThen_ok,zm,if_false]
    unfold load
    simp only [Sem.run,cell_of_row w _ _ arr E (0,0) g1,zj hj]
   simp only at hp
   split at hp
   ·rename_i sz es hbv
    split at hp
    ·cases hp
    ·rename_i hfz
     have hp:=ZD.inj hp
     cases hp
     obtain ⟨u,q1,q2⟩:=hld _ hbv
     have hr:st.row (.cell p j)=some (sz,es):=by simp [St.row,h1,hfz,hbv]
     obtain ⟨T1,k1,k2,k3,k4,k5⟩:=h.freeze (.cell p j)
     exact ⟨u,T1,hread q1,k1,k2,RK.pv (aJ.list (k4 sz es hr) k2.ro q2),fun b k _ e=>k3 b _ (by simp) e,by rw [← k1.size,← h.size],k5⟩
   ·rename_i v hbv
    have hp:=ZD.inj hp
    cases hp
    obtain ⟨u,q1,q2⟩:=hld _ hbv
    exact ⟨u,T,hread q1,h,Still.refl T,RK.pv q2,fun _ _ _ e=>e,rfl,fun _ _ e=>e⟩
   ·cases hp
  |some n =>
   simp only at hp
   obtain ⟨v,h2,hp⟩:=dS hp
   cases hp
   obtain ⟨T1,k1,k2,k3,k4,k5⟩:=h.rD p
   have hmem:=hbox.mem (T':=T1) (fun j b e=>k4 (by rw [h1];rfl) b j e) k2.ro
   obtain ⟨u,h7,h8,_⟩:=sQ (P:=P) hmem hc h2
   rw [Nat.zero_add] at h7
   exact ⟨u,T1,hread (h7 w rfl),k1,k2,RK.pv h8,fun b k _ e=>k3 b _ (by simp) e,by rw [← k1.size,← h.size],k5⟩
 case cell.own t T0 s n=>simp only [oq] at hp;cases hp
def RKo (T:Tags)(w:World)(K i:Nat)(x:pY)(u:Value):Prop :=
 RK T w K i x u∨(i=0∧∃ cs,x=(.agg cs,true)∧∃ arr:Array Value,u=.agg arr∧arr.size=cs.length∧∀ (k:Nat) x v,cs[k]?=some x→arr[k]?=some v→iQ T w K k (Wv x) v)
def Xh (T:Tags)(p j K:Nat):Tags:=fun b=>match T b with
 |.ro=>.ro
 |.row (.cell o q)=>if o=p∧j≤q then .row (.part K (q - j)) else .other
 |_=>.other
theorem uK:∀ {l:List BV} {cs:List PV},jO l=some cs→l.length=cs.length∧∀ (k:Nat) x,cs[k]?=some x→(∃ sz es,l[k]?=some (.row sz es)∧x=.list sz es)∨(l[k]?=some (.pv x)∧∀ s es,x≠.list s es)
 |[],cs,h=>by cases h;exact ⟨rfl,fun k x hk=>by simp at hk⟩
 |.row sz es::l,cs,h=>by
  obtain ⟨c,h1,rfl⟩:=dS h
  obtain ⟨q1,q2⟩:=uK h1
  refine ⟨by simp [q1],fun k x hk=>?_⟩
  cases k with
  |zero=>cases hk;exact .inl ⟨sz,es,rfl,rfl⟩
  |succ k=>exact q2 k x hk
 |.pv v::l,cs,h=>by
  have hv:(∀ s es,v≠.list s es)∧∃ c,jO l=some c∧cs=v::c:=by
   cases v<;>first|(simp [jO] at h;done)|(obtain ⟨c,h1,rfl⟩:=dS h;exact ⟨(fun _ _ e=>by cases e),c,h1,rfl⟩)
  obtain ⟨hv,c,h1,rfl⟩:=hv
  obtain ⟨q1,q2⟩:=uK h1
  refine ⟨by simp [q1],fun k x hk=>?_⟩
  cases k with
  |zero=>cases hk;exact .inr ⟨rfl,hv⟩
  |succ k=>exact q2 k x hk
theorem SB {b j n T0:Nat}{arr:Array Value}{E q}(hc:kN P T0=some (some n))(hb:w.heap[b]?=some (.cells arr E (0,q)))(hn:j+n≤arr.size) :
  ∃ us:Array Value,(loadVar T0 ⟨b,j,none⟩).run P w=.ok (.agg us) w∧us.size=n∧∀ k v,us[k]?=some v→arr[j+k]?=some v:=by
 have hs:=(jB (w:=w) hc).2
 let us:List Value:=(List.range n).map fun k=>arr.getD (j+k) undef
 have hus:∀ k v,us[k]?=some v→arr[j+k]?=some v:=fun k v hv=>by
  have hk:k<n:=by have:=(Z1.1 hv).1;simpa [us] using this
  simp only [us,zd,List.getElem?_range hk,Zak,ZD.injEq] at hv
  rw [zj (by omega:j+k<arr.size)]
  rw [ZaA,zj (by omega:j+k<arr.size)] at hv
  rw [← hv];rfl
 have hlen:us.length=n:=by simp [us]
 refine ⟨us.toArray,?_,by simpa using hlen,fun k v hv=>hus k v (by simpa using hv)⟩
 have hl2:=run_loadCells_list (P:=P) (w:=w) ⟨b,j,none⟩ us (fun k v hv=>by
  rw [Addr.add_lit,cell_of_row w b _ arr E (0,q) hb];exact hus k v hv)
 rw [hlen] at hl2
 unfold loadVar
 simp only [Sem.run_bind,(jB (w:=w) hc).1,Result.andThen_ok,if_true,iV hs,hl2]
 rfl
theorem SC (h:aH L σ T st a w){t T0 n p j:Nat}{bx:Box}{cs:List PV}(hc:kN P T0=some (some n))(hv:st.slots.getD t .any=.aP p j)(h1:st.boxes[p]?=some bx)(hf:bx.fz=false)(hn:j+n≤bx.cs.length)(ho:jO ((bx.cs.drop j).take n)=some cs) :
  ∃ u T',(mJ a.tmps (.cell t T0)).run P w=.ok u w∧Still T T'∧(∀ b,w.heap.size≤b→T' b=.other)∧RKo T' w K 0 (.agg cs,true) u:=by
 have hs:st.slots[t]?=some (.aP p j):=lK (st:=st) hv (by simp)
 have hlt:t<a.tmps.size:=by rw [h.size];exact (Z1.1 hs).1
 have hgp:a.tmps.getD t undef=.pointer (some ⟨σ p,j,none⟩):=by
  have:=(h.slots t _ _ hs (zj hlt)).2
  rw [ZaA,zj hlt,ZbH,this]
 obtain ⟨arr,E,g1,g2,g3,g4,g5⟩:=h.boxes p bx h1
 obtain ⟨us,r1,r2,r3⟩:=SB (P:=P) hc g1 (by omega:j+n≤arr.size)
 obtain ⟨q1,q2⟩:=uK ho
 have hro:∀ b,T b=.ro→Xh T p j K b=.ro:=fun b e=>by simp [Xh,e]
 refine ⟨.agg us,Xh T p j K,?_,⟨hro,fun b e=>by simp [Xh,e]⟩,fun b hb=>by simp [Xh,h.fresh b hb],.inr ⟨rfl,cs,rfl,us,rfl,?_,fun k x v hx hu=>?_⟩⟩
 ·simp only [mJ,hgp,asAddr,Sem.run_bind,Sem.run_pure,Result.andThen_ok]
  exact r1
 ·rw [r2,← q1];simp;omega
 ·have hk:k<n:=by rw [← r2];exact (zt.1 hu).1
  have hget:∀ bv,((bx.cs.drop j).take n)[k]?=some bv→bx.cs[j+k]?=some bv:=fun bv e=>by
   rw [List.getElem?_take_of_lt hk,List.getElem?_drop] at e;exact e
  rcases q2 k x hx with ⟨sz,es,e1,rfl⟩|⟨e1,e2⟩
  ·obtain ⟨_,k2⟩:=g5 (j+k) _ v (hget _ e1) (r3 k v hu)
   exact aJ.frame (fun b e _=>⟨by simp [Xh,e],rfl⟩) (fun b e _=>⟨hro b e,rfl⟩) k2
  ·obtain ⟨_,k2⟩:=g5 (j+k) _ v (hget _ e1) (r3 k v hu)
   have:Wv x=.pv x:=by cases x<;>first|rfl|exact absurd rfl (e2 _ _)
   rw [this]
   exact aA.frame (fun b e _=>⟨hro b e,rfl⟩) k2
end
def oz (P:Program):List ResultVar→List sK→Bool
 |[],[]=>true
 |g::gs,v::vs=>Sz P g v&&oz P gs vs
 |_,_=>false
section
variable {P:Program}{L K:Nat}{σ σ':Nat→Nat}{T T' T1 T2:Tags}{st st' st1:St}{a a1:Act}{w w1:World}{r:Root}
theorem RK.frame {i:Nat}{x:pY}{u:Value}(hr:∀ b,T b=.row (.part K i)→T' b=.row (.part K i))(hw:∀ b,T b=.ro→T' b=.ro)(h:RK T w K i x u):RK T' w K i x u:=by
 obtain ⟨v,own⟩:=x
 cases v<;>cases own<;>first|exact aA.frame (fun b e _=>⟨hw b e,rfl⟩) h|exact aJ.frame (fun b e _=>⟨hr b e,rfl⟩) (fun b e _=>⟨hw b e,rfl⟩) h|exact False.elim h
theorem wH:∀ {gs:List ResultVar} {vs:List sK} {st:St} {T:Tags} {xs:List pY} (i:Nat),aH L σ T st a w→oz P gs vs=true→resultList st vs=some xs→st.slots.length≤K →
  ∃ (us:List Value) (T':Tags),(gs.mapM (mJ a.tmps)).run P w=.ok us w∧us.length=xs.length∧Still T T'∧(∀ b,w.heap.size≤b→T' b=.other)∧(∀ (j:Nat) x u,xs[j]?=some x→us[j]?=some u→RK T' w K (i+j) x u)∧(∀ b k,k<i→T b=.row (.part K k)→T' b=.row (.part K k))∧∀ b o,T b=.box o→T' b=.box o
 |[],[],st,T,xs,i,h,_,hp,hK=>by
  simp only [resultList,ZD.injEq] at hp
  subst hp
  exact ⟨[],T,by simp,rfl,Still.refl T,h.fresh,fun j x u hx=>by simp at hx,(fun _ _ _ e=>e),fun _ _ e=>e⟩
 |[],_::_,_,_,_,_,_,hm,_,_=>by simp [oz] at hm
 |_::_,[],_,_,_,_,_,hm,_,_=>by simp [oz] at hm
 |g::gs,v::vs,st,T,xs,i,h,hm,hp,hK=>by
  simp only [oz,ZS] at hm
  simp only [resultList] at hp
  replace hp:=bind_some hp
  obtain ⟨⟨x,st1⟩,h1,hp⟩:=hp
  replace hp:=bind_some hp
  obtain ⟨l,h2,hp⟩:=hp
  have hp:=ZD.inj hp
  subst hp
  obtain ⟨u,T1,k1,k2,k3,k4,k5,k6,k7⟩:=SA h hm.1 h1 hK i
  obtain ⟨us,T2,q1,q2,q3,q4,q5,q6,q7⟩:=wH (i+1) k2 hm.2 h2 (by omega)
  refine ⟨u::us,T2,?_,by simp [q2],k3.trans q3,q4,fun j x' u' hx hu=>?_,fun b k hk e=>q6 b k (by omega) (k5 b k (by omega) e),fun b o e=>q7 b o (k7 b o e)⟩
  ·rw [Zck]
   simp only [Sem.run_bind,k1,Result.andThen_ok,q1,Sem.run_pure]
  ·cases j with
   |zero =>
    simp only [Zau,ZD.injEq] at hx hu
    subst hx;subst hu
    exact RK.frame (fun b e=>q6 b i (by omega) e) q3.ro k4
   |succ j =>
    have:=q5 j x' u' (by simpa using hx) (by simpa using hu)
    rwa [show i+1+j=i+(j+1) by omega] at this
theorem wI {fn:Func}{us:List Value}(h:(fn.results.toList.mapM (mJ a.tmps)).run P w=.ok us w):(results fn a.tmps).run P w=.ok (if us.toArray.size=1 then us.toArray.getD 0 undef else .tuple us.toArray) w:=by
 have e:results fn a.tmps=(do let vs ← fn.results.mapM (mJ a.tmps);pure (if h:vs.size=1 then vs[0] else .tuple vs)):=by
  unfold results
  congr 1
 rw [e,Array.mapM_eq_mapM_toList]
 simp only [Sem.run_bind,Sem.run_map,h,Result.andThen_ok,Sem.run_pure]
 by_cases hs:us.toArray.size=1
 ·rw [dif_pos hs,if_pos hs,ZaA,zj (by omega),ZbH]
 ·rw [dif_neg hs,if_neg hs]
theorem sF {fn:Func}{R:Ending→World→Prop}{B:Nat}:∀ {ms:List Nat} {w:World},ms.Nodup→(∀ r∈ms,B≤r∧w.heap[r]?=some (.deferred (some []))) →
  (∀ w',w'.os=w.os→w'.tape=w.tape→w'.output=w.output→w'.heap.size=w.heap.size→(∀ b,b ∉ ms→w'.heap[b]?=w.heap[b]?)→∃ v,(results fn a.tmps).run P w'=.ok v w'∧R (.returned v) w') →
  LeavesInM Fence.wide 0 P fn a.tmps R (ms.map jS) .returning w
 |[],w,_,_,h=>by
  simp only [Zav,LeavesInM,LeavesIn]
  exact h w rfl rfl rfl rfl fun _ _=>rfl
 |r::ms,w,hnd,hms,h=>by
  simp only [Zat,LeavesInM]
  obtain ⟨hn1,hn2⟩:=ZcE.1 hnd
  obtain ⟨k1,k2⟩:=hms r (by simp)
  have hr:r<w.heap.size:=(zt.1 k2).1
  have hput:∀ b,b≠r→(w.putObj r (.deferred none)).heap[b]?=w.heap[b]?:=fun b hb=>by simp [World.putObj,Za3,Ne.symm hb]
  refine ⟨by simp,.inl ⟨r,_,rfl,run_takeDeferred k2,sF (B:=B) hn2 (fun r' hr'=>?_) fun w' e1 e2 e3 e4 e5=>h w' e1 e2 e3 (by rw [e4];simp [World.putObj]) fun b hb=>?_⟩⟩
  ·obtain ⟨q1,q2⟩:=hms r' (by simp [hr'])
   exact ⟨q1,by rw [hput r' (fun e=>hn1 (e ▸ hr'))];exact q2⟩
  ·simp only [ZaI,not_or] at hb
   rw [e5 b hb.2,hput b hb.1]
end
section
variable {P:Program}{L K:Nat}{σ σ':Nat→Nat}{T T' T1 T2:Tags}{st st' st1:St}{a a1:Act}{w w1:World}{r:Root}
 {rec:au→St→Option (Ex×St)} {env:Env}
theorem EY {gs:List ResultVar}{vs:List sK}{xs:List pY}(h:aH L σ T st a w)(hm:oz P gs vs=true)(hp:fM st vs=some xs) :
  ∃ (us:List Value) (T':Tags),(gs.mapM (mJ a.tmps)).run P w=.ok us w∧us.length=xs.length∧Still T T'∧(∀ b,w.heap.size≤b→T' b=.other)∧∀ (j:Nat) x u,xs[j]?=some x→us[j]?=some u→RKo T' w st.slots.length j x u:=by
 have gen:resultList st vs=some xs→∃ (us:List Value) (T':Tags),(gs.mapM (mJ a.tmps)).run P w=.ok us w∧us.length=xs.length∧Still T T'∧(∀ b,w.heap.size≤b→T' b=.other)∧∀ (j:Nat) x u,xs[j]?=some x→us[j]?=some u→RKo T' w st.slots.length j x u:=fun hl=>by
  obtain ⟨us,T',k1,k2,k3,k4,k5,_⟩:=wH 0 h hm hl (zg _)
  exact ⟨us,T',k1,k2,k3,k4,fun j x u hx hu=>.inl (by simpa using k5 j x u hx hu)⟩
 unfold fM at hp
 split at hp
 case h_3=>exact gen hp
 case h_2 =>
  rename_i t n
  split at hp
  case h_2=>cases hp
  rename_i p j hs
  split at hp
  case h_2=>cases hp
  rename_i bx h1
  split at hp
  ·cases hp
  ·rename_i hf
   simp only [Zbb,ZaM,decide_eq_false_iff_not,not_or,ZbA,Zcm] at hf
   obtain ⟨cs,h2,rfl⟩:=dS hp
   obtain ⟨T0,hgs,hc⟩:∃ T0,gs=[.cell t T0]∧kN P T0=some (some n):=by
    match gs,hm with
    |[.tmp s],hm=>simp [oz,Sz] at hm
    |[.cell s T0],hm=>simp [oz,Sz] at hm;exact ⟨T0,by rw [hm.1],hm.2⟩
    |[],hm=>simp [oz] at hm
    |_::_::_,hm=>simp [oz] at hm
   subst hgs
   obtain ⟨u,T',r1,r2,r3,r4⟩:=SC (P:=P) (K:=st.slots.length) h hc hs h1 hf.1 hf.2 h2
   refine ⟨[u],T',?_,rfl,r2,r3,fun j x u' hx hu=>?_⟩
   ·simp only [Zck,List.mapM_nil,Sem.run_bind,r1,Result.andThen_ok,Sem.run_pure]
   ·cases j with
    |zero =>
     simp only [Zau,ZD.injEq] at hx hu
     subst hx;subst hu;exact r4
    |succ j=>simp at hx
 rename_i t
 split at hp
 case h_2=>exact gen hp
 rename_i f caps hs
 obtain ⟨⟨p,fl⟩,h1,h2⟩:=dS hp
 subst h2
 have hmo:aI (.tmp t) (.t t)=true:=by simp [aI]
 have hg:st.get (.t t)=.fn f caps:=hs
 have hsn:st.jD (st.get (.t t))=some (p,fl):=by rw [hg];exact h1
 obtain ⟨k1,_,k3⟩:=h.N7 hmo hsn
 obtain ⟨T1,q1,q2,q3,q4⟩:=kG.args [.t t] (kG.refl T st) h (fun x hx=>by simp only [Zao] at hx;subst hx;exact k1)
 have hgs:gs=[.tmp t]:=by
  match gs,hm with
  |[.tmp s],hm=>simp [oz,Sz] at hm;rw [hm]
  |[.cell s T0],hm=>simp [oz,Sz] at hm
  |[],hm=>simp [oz] at hm
  |_::_::_,hm=>simp [oz] at hm
 subst hgs
 refine ⟨[a.eval (.tmp t)],T1,by simp [mJ,Act.eval],rfl,q3,q2.fresh,fun j x u hx hu=>?_⟩
 cases j with
 |zero =>
  simp only [Zau,ZD.injEq] at hx hu
  subst hx;subst hu
  exact .inl (RK.pv (k3 T1 q3 (q4 _ (by simp))))
 |succ j=>simp at hx
theorem SE {ok good:Nat→Prop}(hg:∀ b,bV w b→good b){x:PV}{v:Value}(h:aA ok w x v):aA (fun b=>ok b∧good b) w x v:=by
 induction h with
 |int k n=>exact .int k n
 |bool b=>exact .bool b
 |str s=>exact .str s
 |o7=>exact .o7
 |void v h=>exact .void v h
 |nil sz a=>exact .nil sz a
 |kY sz a=>exact .kY sz a
 |list sz es b off c cv h1 h2 h3 h4 h6 h7 h8 ih=>exact .list sz es b off c cv ⟨h1,hg b h2⟩ h2 h3 h4 h6 h7 ih
 |agg cs arr h1 h2 h3 ih=>exact .agg cs arr h1 h2 ih
 |func f caps arr h1 h2 ih=>exact .func f caps arr h1 ih
 |dD cs j b off cv h1 h2 h3 h4 ih=>exact .dD cs j b off cv ⟨h1,hg b h2⟩ h2 h3 ih
def drop (T:Tags)(ms:List Nat):Tags:=fun b=>if b∈ms then .other else T b
theorem aH.drop (h:aH L σ T st a w){ms:List Nat}(hms:∀ r∈ms,¬ bV w r)(hw:∀ b,b ∉ ms→w1.heap[b]?=w.heap[b]?)(hsz:w1.heap.size=w.heap.size):aH L σ (drop T ms) st a w1:=by
 have hg:∀ b,bV w b→b ∉ ms:=fun b hc hb=>hms b hb hc
 have hp:∀ {x v},aA (fun b=>T b=.ro) w x v→aA (fun b=>Go.Proofs.YthccglceomoboaaGreatDoor.drop T ms b=.ro) w1 x v:=fun h =>
  (SE hg h).frame fun b hb _=>⟨by simp [Go.Proofs.YthccglceomoboaaGreatDoor.drop,hb.1,hb.2],hw b hb.2⟩
 have hrow:∀ {r sz es v},aJ T w r sz es v→aJ (Go.Proofs.YthccglceomoboaaGreatDoor.drop T ms) w1 r sz es v:=fun {r sz es v} h=>by
  rcases h with h|⟨b,c,arr,E,h1,h2,h3,h4,h5,h6,h7,h8⟩
  ·exact .inl h
  ·have hb:b ∉ ms:=hg b ⟨_,_,_,h3⟩
   refine .inr ⟨b,c,arr,E,h1,by simp [Go.Proofs.YthccglceomoboaaGreatDoor.drop,hb,h2],(hw b hb).trans h3,h4,h5,h6,h7,fun i e j x hi hj=>?_⟩
   obtain ⟨u,k1,k2,k3⟩:=h8 i e j x hi hj
   exact ⟨u,k1,k2,hp k3⟩
 have hbox:∀ o,o<st.boxes.length→σ o ∉ ms:=fun o ho=>hg _ (h.boxes o _ (ZZ ho)).zN
 have NT:∀ r:Root,r.low st.boxes.length→hdr σ a w1 r=hdr σ a w r:=fun r hr=>by
  cases r with
  |slot t=>rfl
  |part t i=>rfl
  |cell o j=>exact World.cell?_of_block (w:=w) (a:=⟨σ o,j,none⟩) (hw _ (hbox o hr))
 refine ⟨h.size,fun t av v ht hv=>?_,fun o bx ho=>?_,fun b hb=>?_⟩
 ·have hA:=h.slots t av v ht hv
  cases av with
  |pv x=>exact hp hA
  |row sz es=>exact hrow hA
  |ref r off len=>exact ⟨hA.1,fun sz es hr=>by rw [NT r hA.1];exact hA.2 sz es hr⟩
  |aP o j=>exact hA
  |oO r i j=>exact ⟨hA.1,fun sz es hr=>by rw [NT r hA.1];exact hA.2 sz es hr⟩
  |fn f caps =>
   obtain ⟨arr,e1,e2,e3⟩:=hA
   refine ⟨arr,e1,e2,fun k x u hx hu=>?_⟩
   have:=e3 k x u hx hu
   cases x with
   |pv p=>exact hp this
   |_=>exact this
  |kV k l =>
   obtain ⟨arr,e1,e2,e3⟩:=hA
   refine ⟨arr,e1,e2,fun k x u hx hu=>?_⟩
   have:=e3 k x u hx hu
   cases x with
   |pv p=>exact hp this
   |row sz es=>exact hrow this
   |_=>exact this
  |DN s l=>exact ⟨hp hA.1,hA.2⟩
  |pp o j =>
   obtain ⟨q0,b,E,q1,q2,q3⟩:=hA
   have hb:b ∉ ms:=hg b ⟨_,_,_,q3⟩
   exact ⟨q0,b,E,q1,by simp [Go.Proofs.YthccglceomoboaaGreatDoor.drop,hb,q2],(hw b hb).trans q3⟩
  |qX=>exact hA
  |any=>trivial
 ·have hb:=hbox o (Z1.1 ho).1
  obtain ⟨arr,E,g1,g2,g3,g4,g5⟩:=h.boxes o bx ho
  refine ⟨arr,E,(hw _ hb).trans g1,g2,by simp only [Go.Proofs.YthccglceomoboaaGreatDoor.drop,if_neg hb];exact g3,g4,fun j bv u hj hu=>?_⟩
  obtain ⟨k1,k2⟩:=g5 j bv u hj hu
  refine ⟨k1,?_⟩
  cases bv with
  |pv x=>exact hp k2
  |row sz es=>exact hrow k2
 ·unfold Go.Proofs.YthccglceomoboaaGreatDoor.drop
  split
  ·rfl
  ·exact h.fresh b (by omega)
def outT (T:Tags)(K:Nat):Tags:=fun b=>match T b with
 |.ro=>.ro
 |.row (.part k i)=>if k=K then .row (.part 0 i) else .other
 |_=>.other
theorem iQ.af8 {k:Nat}{x:AV}{v:Value}(h:iQ T w K k x v):iQ (outT T K) w 0 k x v:=by
 cases x with
 |pv p=>exact aA.frame (fun b e _=>⟨by simp [outT,e],rfl⟩) h
 |row sz es=>exact aJ.frame (fun b e _=>⟨by simp [outT,e],rfl⟩) (fun b e _=>⟨by simp [outT,e],rfl⟩) h
 |any=>trivial
 |_=>exact h
theorem RK.aqp {i:Nat}{x:pY}{u:Value}(h:RK T w K i x u):R1 (outT T K) w i x u:=by
 have hp:∀ {x v},aA (fun b=>T b=.ro) w x v→aA (fun b=>outT T K b=.ro) w x v:=fun h=>h.frame fun b hb _=>⟨by simp [outT,hb],rfl⟩
 have hrow:∀ {sz es},aJ T w (.part K i) sz es u→aJ (outT T K) w (.part 0 i) sz es u:=fun h=>aJ.frame (fun b e _=>⟨by simp [outT,e],rfl⟩) (fun b e _=>⟨by simp [outT,e],rfl⟩) h
 obtain ⟨v,own⟩:=x
 cases v<;>cases own<;>first|exact hrow h|exact hp h|exact False.elim h
theorem RK.out {i:Nat}{x:pY}{u:Value}(h:RKo T w K i x u):R1 (outT T K) w i x u:=by
 rcases h with h|⟨_,cs,rfl,arr,rfl,h1,h2⟩
 ·exact RK.aqp h
 ·exact ⟨arr,rfl,h1,fun k x v hx hv=>iQ.af8 (h2 k x v hx hv)⟩
def aW (P:Program)(f:Nat)(fn:dQ):Bool :=
 match P.funcs[f]? with
 |some g=>(match g.body with
  |some c=>mC P c fn.body
  |none=>false)&&g.name != "runtime.NumGoroutine"&&g.ntmps==fn.ntmps&&decide (fn.nargs≤fn.ntmps)&&oz P g.results.toList fn.results
 |none=>false
theorem uM {f:Nat}{fn:dQ}(h:aW P f fn=true):callable P f=true∧∃ g c,P.funcs[f]?=some g∧g.body=some c∧mC P c fn.body=true∧g.ntmps=fn.ntmps∧fn.nargs≤fn.ntmps∧oz P g.results.toList fn.results=true:=by
 unfold aW at h
 split at h
 case h_2=>cases h
 rename_i g hf
 simp only [ZS,beq_iff_eq,bne_iff_ne,decide_eq_true_eq] at h
 obtain ⟨⟨⟨⟨h1,h2⟩,h3⟩,h4⟩,h5⟩:=h
 split at h1
 case h_2=>cases h1
 rename_i c hb
 exact ⟨by simp [callable,hf,h2,hb],g,c,hf,hb,h1,h3,h4,h5⟩
def wJ (T0:Tags)(w:World):Nat→Tags→World→Prop:=fun _ T w'=>Below w.heap.size w w'∧∀ b,b<w.heap.size→T b=T0 b
theorem Dl {T0:Tags}(h0:∀ b,T0 b=.ro∨T0 b=.other){k:Nat}{w w1 w2:World}(hc:yB T T' w1 w2)(h:wJ T0 w k T w1):wJ T0 w k T' w2:=by
 obtain ⟨h1,h2⟩:=h
 refine ⟨h1.trans ⟨hc.os,hc.tape,hc.output,hc.size,fun b hb=>hc.same b (Zab hb h1.size) ?_⟩,fun b hb=>?_⟩
 ·rw [h2 b hb];exact h0 b
 ·rcases h0 b with e|e
  ·rw [e];exact hc.ro b (by rw [h2 b hb,e])
  ·rw [e];exact hc.other b (Zab hb h1.size) (by rw [h2 b hb,e])
theorem Ov {T0:Tags}{args:List PV}{vs:List Value}{n:Nat}(hf:∀ b,w.heap.size≤b→T0 b=.other)(hl:vs.length=args.length)(hr:∀ (i:Nat) x v,args[i]?=some x→vs[i]?=some v→aA (fun b=>T0 b=.ro) w x v)(ys:List (List PV))(stop:Option (Option Nat)) :
  aH L σ T0 ⟨args.map .pv++Zae (n - args.length) .any,[],ys,stop⟩ { tmps:=vs.toArray++Za7 (n - vs.toArray.size) undef,defers:=[] } w:=by
 refine ⟨by simp [hl],fun t av v ht hv=>?_,fun o bx ho=>by simp at ho,hf⟩
 simp only at ht hv
 rcases ZaP t args.length with h|h
 ·rw [zR (by simpa using h),zd,ZZ h] at ht
  rw [Zbf (by simpa [hl] using h)] at hv
  cases ht
  exact hr t _ v (ZZ h) (by simpa using hv)
 ·rw [zP (by simpa using h),ZbF] at ht
  split at ht
  ·cases ht;trivial
  ·cases ht
theorem Xi (hR:qI P rec){f:Nat}{fn:dQ}{args:List PV}{rs:List pY}(hfn:aW P f fn=true)(hl:args.length=fn.nargs){e:Ex}(he:∀ i,e≠.exit i)(he2:∀ t n,e≠.oK t n)
  (hb:rec fn.body ⟨args.map .pv++Zae (fn.ntmps - args.length) .any,[],[],none⟩=some (e,st)) (hrs:fM st fn.results=some rs):kZ P f args rs:=by
 intro T0 w vs h0 hf hlen hr hG
 obtain ⟨_,g,c,k1,k2,k3,k4,k5,k6⟩:=uM hfn
 refine (callsIn_wide (n:=0)).1 (callsIn_of_wp_marks k1 k2 trivial ?_)
 rw [k4]
 have KX:aH 0 (fun _=>0) T0 ⟨args.map .pv++Zae (fn.ntmps - args.length) .any,[],[],none⟩ { tmps:=vs.toArray++Za7 (fn.ntmps - vs.toArray.size) undef,defers:=[] } w:=Ov hf hlen hr [] none
 have hC:Ctx.Ok ⟨st.ys,none,wJ T0 w⟩ P 0:=⟨fun k T T' w1 w2 hc h=>Dl (k:=k) h0 hc h,fun k T w1 h=>hG.frame fun b e hb=>⟨(h.2 b hb).trans e,h.1.block b hb⟩,fun s k T w ps vs hs=>by cases hs⟩
 have hJ:wJ T0 w 0 T0 w:=⟨Below.refl _ _,fun _ _=>rfl⟩
 refine wpIn_mono (hR.wp (F:=Fence.wide) (L:=0) (C:=⟨st.ys,none,wJ T0 w⟩) (n:=0) (.inl rfl) (Ctx.Ac _) hC c fn.body _ e st k3 hb rfl (ZbU _) _ T0 _ w KX hJ) ?_
 rintro x a' w' ⟨rfl,σ',T',ms,q1,q2,q3,q4,q5,q6⟩
 obtain ⟨p1,p2⟩:=q2
 have key:LeavesInM Fence.wide 0 P g a'.tmps (fun e w'=>∃ v T',e=.returned v∧Below w.heap.size w w'∧(∀ b,b<w.heap.size→T' b=T0 b)∧(∀ b,w'.heap.size≤b→T' b=.other)∧uG T' w' rs v) a'.defers .returning w':=by
  rw [q5,ZaE]
  refine sF (B:=w.heap.size) q6.2 (fun r hr=>⟨(q6.1 r hr).1,(q6.1 r hr).2.2⟩) fun w2 e1 e2 e3 e4 e5=>?_
  have q1':=q1.drop (fun r hr ⟨arr,E,q,e⟩=>by rw [(q6.1 r hr).2.2] at e;cases e) e5 e4
  obtain ⟨us,T2,r1,r2,r3,r4,r5⟩:=EY q1' k6 hrs
  have hms:∀ b,b<w.heap.size→b ∉ ms:=fun b hb hm=>by have:=(q6.1 b hm).1;omega
  have hT2:∀ b,b<w.heap.size→T2 b=T0 b:=fun b hb=>by
   have e:drop T' ms b=T0 b:=by simp only [drop,if_neg (hms b hb)];exact p2 b hb
   rcases h0 b with e0|e0
   ·rw [e0];exact r3.ro b (by rw [e,e0])
   ·rw [e0];exact r3.other b (by rw [e,e0])
  refine ⟨_,wI r1,_,outT T2 st.slots.length,rfl,p1.trans ⟨e1,e2,e3,by omega,fun b hb=>e5 b (hms b hb)⟩,fun b hb=>?_,fun b hb=>?_,us.toArray,by simpa using r2,rfl,fun i x u hx hu=>RK.out (r5 i x u hx (by simpa using hu))⟩
  ·simp only [outT,hT2 b hb]
   rcases h0 b with e0|e0<;>rw [e0]
  ·simp only [outT,r4 b hb]
 cases e with
 |normal=>exact key
 |ret=>exact key
 |exit i=>exact absurd rfl (he i)
 |oK t n=>exact absurd rfl (he2 t n)
theorem Xj {T0:Tags}{x:kM}{v:Value}{args:List PV}{vs:List Value}{n:Nat}(hf:∀ b,w.heap.size≤b→T0 b=.other)(hx:afV T0 w v x)(hl:vs.length=args.length)(hr:∀ (i:Nat) x v,args[i]?=some x→vs[i]?=some v→aA (fun b=>T0 b=.ro) w x v) :
  ∃ σ:Nat→Nat,aH 0 σ T0 ⟨x.av::(args.map .pv++Zae (n - (args.length+1)) .any),x.boxes,[],none⟩ { tmps:=(v::vs).toArray++Za7 (n - (v::vs).toArray.size) undef,defers:=[] } w∧∀ b,v=.pointer (some ⟨b,0,none⟩)→(∃ cs,x=.box cs)→σ 0=b:=by
 obtain ⟨b0,hb0⟩:∃ b0,∀ cs,x=.box cs→v=.pointer (some ⟨b0,0,none⟩)∧iK T0 w b0 0 ⟨false,cs.map .pv⟩:=by
  cases x with
  |box cs=>obtain ⟨b,h1,h2⟩:=hx;exact ⟨b,fun cs' e=>by cases e;exact ⟨h1,h2⟩⟩
  |row sz es=>exact ⟨0,fun _ e=>by cases e⟩
  |own l=>exact ⟨0,fun _ e=>by cases e⟩
 refine ⟨fun _=>b0,⟨by simp [hl];omega,fun t av u ht hu=>?_,fun o bx ho=>?_,hf⟩,fun b hb ⟨cs,hcs⟩=>?_⟩
 ·cases t with
  |zero =>
   simp only [Zau,ZD.injEq] at ht
   have hu':u=v:=by
    have:((v::vs).toArray++Za7 (n - (v::vs).toArray.size) undef)[0]?=some v:=by rw [Zbf (by simp)];rfl
    rw [this] at hu;exact (ZD.inj hu).symm
   subst hu'
   subst ht
   cases x with
   |row sz es=>exact hx
   |own l=>obtain ⟨arr,h1,h2,h3⟩:=hx;exact ⟨arr,h1,h2,h3⟩
   |box cs=>exact ⟨by simp [kM.boxes],(hb0 cs rfl).1⟩
  |succ t =>
   rw [ZaO] at ht
   rcases ZaP t args.length with h|h
   ·rw [zR (by simpa using h),zd,ZZ h] at ht
    simp only at hu
    rw [Zbf (by simp [hl];omega)] at hu
    cases ht
    exact hr t _ u (ZZ h) (by simpa using hu)
   ·rw [zP (by simpa using h),ZbF] at ht
    split at ht
    ·cases ht;trivial
    ·cases ht
 ·cases x with
  |box cs =>
   cases o with
   |zero =>
    simp only [kM.boxes,Zau,ZD.injEq] at ho
    subst ho
    exact (hb0 cs rfl).2
   |succ o=>simp [kM.boxes] at ho
  |row sz es=>simp [kM.boxes] at ho
  |own l=>simp [kM.boxes] at ho
 ·have:=(hb0 cs hcs).1
  rw [this] at hb
  injection hb with hb
  injection hb with hb
  injection hb with hb
def aaB (T0:Tags)(w:World):Nat→Tags→World→Prop:=fun _ T w'=>w.heap.size≤w'.heap.size∧w'.os=w.os∧w'.tape=w.tape∧w'.output=w.output∧∀ b,b<w.heap.size→(T0 b=.ro∨T0 b=.other)→w'.heap[b]?=w.heap[b]?∧T b=T0 b
theorem Xk {T0:Tags}{k:Nat}{w w1 w2:World}(hc:yB T T' w1 w2)(h:aaB T0 w k T w1):aaB T0 w k T' w2:=by
 obtain ⟨h1,h2,h3,h4,h5⟩:=h
 refine ⟨Zaa h1 hc.size,hc.os.trans h2,hc.tape.trans h3,hc.output.trans h4,fun b hb e=>?_⟩
 obtain ⟨k1,k2⟩:=h5 b hb e
 have hl:=Zab hb h1
 refine ⟨(hc.same b hl (by rw [k2];exact e)).trans k1,?_⟩
 rcases e with e|e
 ·rw [e];exact hc.ro b (by rw [k2,e])
 ·rw [e];exact hc.other b hl (by rw [k2,e])
theorem SG (hR:qI P rec){f:Nat}{fn:dQ}{x:kM}{args:List PV}{rs:List pY}{out:Option (List PV)}(hfn:aW P f fn=true){e:Ex}(he:∀ i,e≠.exit i)(he2:∀ t n,e≠.oK t n)
  (hb:rec fn.body ⟨x.av::(args.map .pv++Zae (fn.ntmps - (args.length+1)) .any),x.boxes,[],none⟩=some (e,st)) (hrs:qw x st fn.results=some (rs,out)):U8 P f x args rs out:=by
 intro T0 w v vs hf hx hlen hr hG
 obtain ⟨_,g,c,k1,k2,k3,k4,k5,k6⟩:=uM hfn
 refine (callsIn_wide (n:=0)).1 (callsIn_of_wp_marks k1 k2 trivial ?_)
 rw [k4]
 obtain ⟨σ0,KX,hσ0⟩:=Xj (n:=fn.ntmps) hf hx hlen hr
 have hC:Ctx.Ok ⟨st.ys,none,aaB T0 w⟩ P 0:=⟨fun k T T' w1 w2 hc h=>Xk (k:=k) hc h,fun k T w1 h=>hG.frame fun b e hb=>⟨by rw [(h.2.2.2.2 b hb (.inl e)).2,e],(h.2.2.2.2 b hb (.inl e)).1⟩,fun s k T w ps vs hs=>by cases hs⟩
 have hJ:aaB T0 w 0 T0 w:=⟨zg _,rfl,rfl,rfl,fun _ _ _=>⟨rfl,rfl⟩⟩
 refine wpIn_mono (hR.wp (F:=Fence.wide) (L:=0) (C:=⟨st.ys,none,aaB T0 w⟩) (n:=0) (.inl rfl) (Ctx.Ac _) hC c fn.body _ e st k3 hb rfl (ZbU _) _ T0 _ w KX hJ) ?_
 rintro x' a' w' ⟨rfl,σ',T',ms,q1,q2,q3,q4,q5,q6⟩
 obtain ⟨p1,p2,p3,p4,p5⟩:=q2
 have key:LeavesInM Fence.wide 0 P g a'.tmps (fun e w'=>∃ u T',e=.returned u∧w.heap.size≤w'.heap.size∧w'.os=w.os∧w'.tape=w.tape∧w'.output=w.output∧(∀ b,b<w.heap.size→(T0 b=.ro∨T0 b=.other)→w'.heap[b]?=w.heap[b]?∧T' b=T0 b)∧(∀ b,w'.heap.size≤b→T' b=.other)∧uG T' w' rs u∧aag T' w' v out) a'.defers .returning w':=by
  rw [q5,ZaE]
  refine sF (B:=w.heap.size) q6.2 (fun r hr=>⟨(q6.1 r hr).1,(q6.1 r hr).2.2⟩) fun w2 e1 e2 e3 e4 e5=>?_
  have q1':=q1.drop (fun r hr ⟨arr,E,q,e⟩=>by rw [(q6.1 r hr).2.2] at e;cases e) e5 e4
  have hms:∀ b,b<w.heap.size→b ∉ ms:=fun b hb hm=>by have:=(q6.1 b hm).1;omega
  -- what the results leave of the tags
  have fin:∀ (T1 T2:Tags) (K:Nat),Still (Go.Proofs.YthccglceomoboaaGreatDoor.drop T' ms) T1→Still T1 T2→∀ b,b<w.heap.size→(T0 b=.ro∨T0 b=.other)→w2.heap[b]?=w.heap[b]?∧outT T2 K b=T0 b:=fun T1 T2 K s1 s2 b hb e=>by
   obtain ⟨y1,y2⟩:=p5 b hb e
   refine ⟨(e5 b (hms b hb)).trans y1,?_⟩
   have ed:Go.Proofs.YthccglceomoboaaGreatDoor.drop T' ms b=T0 b:=by simp only [Go.Proofs.YthccglceomoboaaGreatDoor.drop,if_neg (hms b hb)];exact y2
   rcases e with e|e
   ·simp only [outT,s2.ro b (s1.ro b (by rw [ed,e])),e]
   ·simp only [outT,s2.other b (s1.other b (by rw [ed,e])),e]
  have plain:(∀ cs,x≠.box cs)→fM st fn.results=some rs→out=none→∃ u T',(results g a'.tmps).run P w2=.ok u w2∧(∀ b,b<w.heap.size→(T0 b=.ro∨T0 b=.other)→w2.heap[b]?=w.heap[b]?∧T' b=T0 b)∧(∀ b,w2.heap.size≤b→T' b=.other)∧uG T' w2 rs u∧aag T' w2 v out:=fun _ h1 h2=>by
   obtain ⟨us,T2,r1,r2,r3,r4,r5⟩:=EY q1' k6 h1
   refine ⟨_,outT T2 st.slots.length,wI r1,fin _ T2 _ (Still.refl _) r3,fun b hb=>by simp only [outT,r4 b hb],⟨us.toArray,by simpa using r2,rfl,fun i x u hx hu=>RK.out (r5 i x u hx (by simpa using hu))⟩,by rw [h2];trivial⟩
  have pack:∀ (u:Value) (T2:Tags),(∀ b,b<w.heap.size→(T0 b=.ro∨T0 b=.other)→w2.heap[b]?=w.heap[b]?∧T2 b=T0 b)→(∀ b,w2.heap.size≤b→T2 b=.other)→uG T2 w2 rs u→aag T2 w2 v out→∃ u' T',Ending.returned u=.returned u'∧w.heap.size≤w2.heap.size∧w2.os=w.os∧w2.tape=w.tape∧w2.output=w.output∧(∀ b,b<w.heap.size→(T0 b=.ro∨T0 b=.other)→w2.heap[b]?=w.heap[b]?∧T' b=T0 b)∧(∀ b,w2.heap.size≤b→T' b=.other)∧uG T' w2 rs u'∧aag T' w2 v out:=fun u T2 s1 s2 s3 s4 =>
   ⟨u,T2,rfl,by omega,e1.trans p2,e2.trans p3,e3.trans p4,s1,s2,s3,s4⟩
  unfold qw at hrs
  cases x with
  |row sz es =>
   obtain ⟨l,h1,h2⟩:=dS hrs
   cases h2
   obtain ⟨u,T2,s0,s1,s2,s3,s4⟩:=plain (fun _ e=>by cases e) h1 rfl
   exact ⟨u,s0,pack u T2 s1 s2 s3 s4⟩
  |own lo =>
   obtain ⟨l,h1,h2⟩:=dS hrs
   cases h2
   obtain ⟨u,T2,s0,s1,s2,s3,s4⟩:=plain (fun _ e=>by cases e) h1 rfl
   exact ⟨u,s0,pack u T2 s1 s2 s3 s4⟩
  |box cs =>
   simp only at hrs
   split at hrs
   case h_2=>cases hrs
   rename_i bx hbx
   split at hrs
   ·cases hrs
   rename_i hfz
   have hfz:bx.fz=false:=by simpa using hfz
   obtain ⟨l,h1,h2⟩:=dS hrs
   cases h2
   obtain ⟨T1,t1,t2,_,_,_⟩:=q1'.rD 0
   obtain ⟨us,T2,r1,r2,r3,r4,r5,_,r7⟩:=wH 0 t1 k6 h1 (zg _)
   have hσ:σ' 0=σ0 0:=q3 0 (by simp [kM.boxes])
   obtain ⟨arr,E,g1,g2,g3,g4,g5⟩:=t1.boxes 0 bx hbx
   have hT1:T1 (σ' 0)=.box 0:=by rw [g3];simp [hfz]
   have hrow:∀ (j s:Nat) (l:List PV),bx.cs[j]?≠some (BV.row s l):=fun j s l e=>by
    unfold St.bn at hbx
    cases h0:st.boxes[0]? with
    |none=>rw [h0] at hbx;simp only at hbx;rw [h0] at hbx;cases hbx
    |some b0 =>
     rw [h0] at hbx
     have hl0:0<st.boxes.length:=(Z1.1 h0).1
     simp only [List.getElem?_set_self hl0,ZD.injEq] at hbx
     rw [← hbx] at e
     obtain ⟨x,_,hx⟩:=nH e
     cases hx
   refine ⟨_,wI r1,pack _ (outT T2 (st.bn 0).slots.length) (fin T1 T2 _ t2 r3) (fun b hb=>by simp only [outT,r4 b hb]) ⟨us.toArray,by simpa using r2,rfl,fun i x u hx hu=>RK.out (.inl (by simpa using r5 i x u hx (by simpa using hu)))⟩ fun b hv=>?_⟩
   have hb0:σ' 0=b:=hσ.trans (hσ0 b hv ⟨cs,rfl⟩)
   rw [hb0] at g1 hT1
   refine ⟨by simp only [outT,r7 b 0 hT1],arr,E,g1,by simpa using g2,fun j x u hx hu=>?_⟩
   rw [zd] at hx
   cases hc:bx.cs[j]? with
   |none=>rw [hc] at hx;cases hx
   |some bv =>
    rw [hc] at hx
    have hx:=ZD.inj hx
    subst hx
    obtain ⟨y1,y2⟩:=g5 j bv u hc hu
    refine ⟨y1,?_⟩
    cases bv with
    |pv p=>exact aA.frame (fun b hb _=>⟨by simp only [outT,r3.ro b hb],rfl⟩) y2
    |row s l=>exact absurd hc (hrow j s l)
 cases e with
 |normal=>exact key
 |ret=>exact key
 |exit i=>exact absurd rfl (he i)
 |oK t n=>exact absurd rfl (he2 t n)
end
def zval:PV→Value
 |.int k n=>.int k n
 |.bool b=>.bool b
 |_=>.slice none 0 0
def KZ:List Nat→List (List PV)→World→World
 |b::bs,z::zs,w=>KZ bs zs (w.setRow b (z.map zval).toArray)
 |_,_,w=>w
section
variable {P:Program}{L K nb n:Nat}{F:Fence}{σ σ':Nat→Nat}{T T' T1 T2:Tags}{st st' st1:St}{a a1:Act}{w w1:World}{r:Root}{o:Oper}{bT:Array Oper}{Q:Exit→Act→World→Prop}
 {rec:au→St→Option (Ex×St)} {env:Env}
theorem wK {fn:Func}{tmps:Array Value}{R:Ending→World→Prop}{B:Nat}{ds:List Deferred}{u:FrameMode}(hu:u≠.run):∀ {ms:List Nat} {w:World},ms.Nodup→(∀ r∈ms,B≤r∧w.heap[r]?=some (.deferred (some []))) →
  (∀ w',w'.os=w.os→w'.tape=w.tape→w'.output=w.output→w'.heap.size=w.heap.size→(∀ b,b ∉ ms→w'.heap[b]?=w.heap[b]?)→LeavesInM Fence.wide 0 P fn tmps R ds u w') →
  LeavesInM Fence.wide 0 P fn tmps R (ms.map jS++ds) u w
 |[],w,_,_,h=>h w rfl rfl rfl rfl fun _ _=>rfl
 |r::ms,w,hnd,hms,h=>by
  simp only [Zat,Zbp,LeavesInM]
  obtain ⟨hn1,hn2⟩:=ZcE.1 hnd
  obtain ⟨k1,k2⟩:=hms r (by simp)
  have hput:∀ b,b≠r→(w.putObj r (.deferred none)).heap[b]?=w.heap[b]?:=fun b hb=>by simp [World.putObj,Za3,Ne.symm hb]
  refine ⟨hu,.inl ⟨r,_,rfl,run_takeDeferred k2,wK hu (B:=B) hn2 (fun r' hr'=>?_) fun w' e1 e2 e3 e4 e5=>h w' e1 e2 e3 (by rw [e4];simp [World.putObj]) fun b hb=>?_⟩⟩
  ·obtain ⟨q1,q2⟩:=hms r' (by simp [hr'])
   exact ⟨q1,by rw [hput r' (fun e=>hn1 (e ▸ hr'))];exact q2⟩
  ·simp only [ZaI,not_or] at hb
   rw [e5 b hb.2,hput b hb.1]
theorem SH {ok:Nat→Prop}{x:PV}(h:x.ZH=true):aA ok w x (zval x)∧(zval x).oneCell'=true:=by
 cases x with
 |int k n=>exact ⟨.int _ _,rfl⟩
 |bool b=>exact ⟨.bool _,rfl⟩
 |list sz l=>cases l with
  |nil=>exact ⟨.nil _ _,rfl⟩
  |cons _ _=>cases h
 |kY sz=>exact ⟨.kY _ _,rfl⟩
 |_=>cases h
theorem aH.setVar (h:aH L σ T st a w){p:Nat}{vals:List PV}(hp:st.setVar p vals=some st'):(∃ arr E,w.heap[σ p]?=some (.cells arr E (0,0))∧arr.size=vals.length)∧aH L σ T st' a (w.setRow (σ p) (vals.map zval).toArray) ∧
  yB T T w (w.setRow (σ p) (vals.map zval).toArray)∧T (σ p)=.box p:=by
 unfold St.setVar at hp
 split at hp
 case h_2=>cases hp
 rename_i bx hb
 split at hp
 ·cases hp
 rename_i hc
 simp only [Zbb,ZaM,decide_eq_false_iff_not,not_or,ZbA,Zcm,Bool.not_eq_false] at hc
 obtain ⟨⟨c1,c2⟩,c3⟩:=hc
 cases ZD.inj hp
 obtain ⟨arr,E,g1,g2,g3,g4,g5⟩:=h.boxes p bx hb
 have:=h.ED (T':=T) (cs':=vals.map .pv) (arr':=(vals.map zval).toArray) id hb c1 g1 (by simp [c2]) (by simp [g2,c2]) (fun k bv u hk hu=>by
  rw [zd] at hk
  cases hx:vals[k]? with
  |none=>rw [hx] at hk;cases hk
  |some x =>
   rw [hx] at hk
   cases hk
   rw [List.getElem?_toArray,zd,hx] at hu
   cases hu
   obtain ⟨q1,q2⟩:=SH (w:=w.setRow (σ p) (vals.map zval).toArray) (ok:=fun b=>T b=.ro) (zw.1 c3 x (zz hx))
   exact ⟨q2,q1⟩) (fun x=>.inr ⟨rfl,fun k _ s l hk=>by
  rw [zd] at hk
  cases hx:vals[k]? with
  |none=>rw [hx] at hk;cases hk
  |some x=>rw [hx] at hk;cases hk⟩) (fun _ e=>e) (fun _ _ e=>e) (fun _ e=>e) (fun _ _ _ _ _ e=>e) (fun _ _ _ _ _ e=>e) (fun _ _ _ _ e=>e)
 rw [List.map_id] at this
 exact ⟨⟨arr,E,g1,by omega⟩,this.1,this.2,by rw [g3,c1];rfl⟩
theorem aH.o8:∀ {os:List Nat} {zs:List (List PV)} {st:St} {w:World},aH L σ T st a w→St.o8 os zs st=some st'→aH L σ T st' a (KZ (os.map σ) zs w)∧yB T T w (KZ (os.map σ) zs w)
 |[],[],st,w,h,hp=>by
  simp only [St.o8,ZD.injEq] at hp
  subst hp
  exact ⟨h,yB.refl T w⟩
 |[],_::_,st,w,_,h=>by simp [St.o8] at h
 |_::_,[],st,w,_,h=>by simp [St.o8] at h
 |o::os,z::zs,st,w,hs,h=>by
  simp only [St.o8] at h
  obtain ⟨s1,h1,h2⟩:=bind_some h
  obtain ⟨_,g1,g2,_⟩:=hs.setVar h1
  obtain ⟨k1,k2⟩:=aH.o8 g1 h2
  exact ⟨k1,g2.trans k2⟩
theorem aH.Ep (h:aH L σ T st a w){p:Nat}{m:Int}(hp:st.Ep p=some m):(∃ E,w.heap[σ p]?=some (.cells #[.int .i64 m] E (0,0)))∧T (σ p)=.box p:=by
 unfold St.Ep at hp
 split at hp
 case h_2=>cases hp
 rename_i m' hb
 cases ZD.inj hp
 obtain ⟨arr,E,g1,g2,g3,g4,g5⟩:=h.boxes p _ hb
 refine ⟨⟨E,?_⟩,g3⟩
 match arr,g2 with
 |⟨[u]⟩,_ =>
  have:=(g5 0 _ u rfl rfl).2
  rw [aA.bD this] at g1
  exact g1
theorem aaC (hR:qI P rec){f:Nat}{fn:dQ}{args:List PV}{t:Nat}{m:Int}(hfn:aW P f fn=true)(hl:args.length=fn.nargs)
  (hb:rec fn.body ⟨args.map .pv++Zae (fn.ntmps - args.length) .any,[],[],none⟩=some (.oK t m,st)):U7 P f args t m:=by
 intro T0 w vs h0 hf hlen hr hG
 obtain ⟨_,g,c,k1,k2,k3,k4,k5,k6⟩:=uM hfn
 refine (callsIn_wide (n:=0)).1 (callsIn_of_wp_marks k1 k2 trivial ?_)
 rw [k4]
 have KX:aH 0 (fun _=>0) T0 ⟨args.map .pv++Zae (fn.ntmps - args.length) .any,[],[],none⟩ { tmps:=vs.toArray++Za7 (fn.ntmps - vs.toArray.size) undef,defers:=[] } w:=Ov hf hlen hr [] none
 have hC:Ctx.Ok ⟨st.ys,none,wJ T0 w⟩ P 0:=⟨fun k T T' w1 w2 hc h=>Dl (k:=k) h0 hc h,fun k T w1 h=>hG.frame fun b e hb=>⟨(h.2 b hb).trans e,h.1.block b hb⟩,fun s k T w ps vs hs=>by cases hs⟩
 have hJ:wJ T0 w 0 T0 w:=⟨Below.refl _ _,fun _ _=>rfl⟩
 refine wpIn_mono (hR.wp (F:=Fence.wide) (L:=0) (C:=⟨st.ys,none,wJ T0 w⟩) (n:=0) (.inl rfl) (Ctx.Ac _) hC c fn.body _ _ st k3 hb rfl (ZbU _) _ T0 _ w KX hJ) ?_
 rintro x a' w' ⟨rfl,σ',T',ms,q1,q2,q3,q4,q5,q6⟩
 obtain ⟨p1,p2⟩:=q2
 simp only [toX,bodyPostM]
 rw [q5]
 refine wK (B:=w.heap.size) (by simp) q6.2 (fun r hr=>⟨(q6.1 r hr).1,(q6.1 r hr).2.2⟩) fun w2 e1 e2 e3 e4 e5=>?_
 have hms:∀ b,b<w.heap.size→b ∉ ms:=fun b hb hm=>by have:=(q6.1 b hm).1;omega
 exact ⟨rfl,p1.trans ⟨e1,e2,e3,by omega,fun b hb=>e5 b (hms b hb)⟩⟩
end
def Ae (P:Program)(env:Env):Prop:=∀ f d,env f=some d→match d with
 |.code fn=>aW P f fn=true
 |.ext g=>∀ args rs,g args=some rs→callable P f=true∧kZ P f args rs
 |.Hw h=>callable P f=true∧KI P f h
 |.oK h=>(∀ args,h args=some none→callable P f=true∧kZ P f args [])∧∀ args t n,h args=some (some (t,n))→callable P f=true∧U7 P f args t n
 |.dfn _=>False
section
variable {P:Program}{L K:Nat}{σ σ':Nat→Nat}{T T' T1 T2:Tags}{st st' st1:St}{a a1:Act}{w w1:World}{r:Root}
 {rec:au→St→Option (Ex×St)} {env:Env}
theorem Ox (hR:qI P rec)(hE:Ae P env):fV P rec env:=by
 refine ⟨?_,(fun f h e=>hE f _ e),?_,?_⟩
 rotate_left
 ·intro f x args rs out h
  unfold pq at h
  split at h
  ·rename_i fn hfn
   have hok:aW P f fn=true:=hE f _ hfn
   split at h
   case isFalse=>cases h
   replace h:=bind_some h
   obtain ⟨⟨e,st⟩,h1,h⟩:=h
   simp only at h
   refine ⟨(uM hok).1,?_⟩
   split at h
   ·cases h
   ·cases h
   ·rename_i hne hne2
    exact SG hR hok (fun i e=>hne i e) (fun t n e=>hne2 t n e) h1 h
  ·cases h
 ·intro f args t n h
  unfold HY at h
  split at h
  ·rename_i g hg
   exact (hE f _ hg).2 args t n h
  ·rename_i fn hfn
   have hok:aW P f fn=true:=hE f _ hfn
   split at h
   case isFalse=>cases h
   rename_i hl
   obtain ⟨⟨e,st⟩,h1,h⟩:=bind_some h
   refine ⟨(uM hok).1,?_⟩
   cases e with
   |oK t' n' =>
    simp only [ZD.injEq,ZaB.injEq] at h
    obtain ⟨rfl,rfl⟩:=h
    exact aaC hR hok hl.1 h1
   |_=>cases h
  ·cases h
 intro f args rs h
 unfold ji at h
 split at h
 ·rename_i g hg
  exact hE f _ hg args rs h
 ·rename_i fn hfn
  have hok:aW P f fn=true:=hE f _ hfn
  split at h
  case isFalse=>cases h
  rename_i hl
  replace h:=bind_some h
  obtain ⟨⟨e,st⟩,h1,h⟩:=h
  simp only at h
  refine ⟨(uM hok).1,?_⟩
  split at h
  ·cases h
  ·cases h
  ·rename_i hne hne2
   exact Xi hR hok hl (fun i e=>hne i e) (fun t n e=>hne2 t n e) h1 h
 ·cases h
 ·rename_i g hg
  obtain ⟨r,h1,h⟩:=bind_some h
  cases r with
  |some p=>cases h
  |none=>cases ZD.inj h;exact (hE f _ hg).1 args h1
 ·rename_i fn hfn
  exact (show False from hE f _ hfn).elim
 ·cases h
theorem aaD (hE:Ae P env):Ad P env:=fun f fn hfn=>by
 have hok:aW P f fn=true:=hE f _ hfn
 obtain ⟨k0,g,c,k1,k2,k3,k4,k5,k6⟩:=uM hok
 refine ⟨k0,g,c,k1,k2,k3,k4,k5,fun he=>?_⟩
 have:fn.results=[]:=by simpa using he
 rw [this] at k6
 have:g.results.toList=[]:=by
  match h:g.results.toList,k6 with
  |[],_=>rfl
  |_::_,k6=>simp [oz] at k6
 exact Array.toList_eq_nil_iff.1 this
theorem aaE (hE:Ae P env):∀ n,qI P (vm env n)
 |0=>⟨(fun _ _ _ _ _ _ h=>by simp [vm] at h),(fun _ _ _ _ _ _ _ _ h=>by simp [vm] at h),(fun _ _ _ _ _ _ _ _ _ h=>by simp [vm] at h),(fun _ _ _ _ _ _ _ _ _ _ _ h=>by simp [vm] at h)⟩
 |n+1=>step_ok (aaE hE n) (aaD hE) (Ox (aaE hE n) hE)
theorem qh (hE:Ae P env){n f:Nat}{args:List PV}{rs:List pY}(h:Q9 env n f args=some rs):callable P f=true∧kZ P f args rs:=(Ox (aaE hE n) hE).1 f args rs h
end
end Go.Proofs.YthccglceomoboaaGreatDoor
namespace Go.Proofs.YthccglceomoboaaGreatDoor
abbrev Rec:=au→St→Option (Ex×St)
def RLe (f g:Rec):Prop:=∀ c st r,f c st=some r→g c st=some r
open Classical in
noncomputable def den (env:Env)(c:au)(st:St):Option (Ex×St) :=
 if h:∃ n r,vm env n c st=some r then some (Zc0 (ZbN h)) else none
structure Good {α:Type}(env:Env)(F:Rec→Option α):Prop where
 mono:∀ f g,RLe f g→∀ r,F f=some r→F g=some r
 cont:(∀ m n,m≤n→RLe (vm env m) (vm env n))→∀ r,F (den env)=some r→∃ n,F (vm env n)=some r
section
variable {α β:Type}{env:Env}
theorem Good.const (x:Option α):Good env (fun _=>x):=⟨fun _ _ _ _ h=>h,fun _ _ h=>⟨0,h⟩⟩
theorem Good.app (c:au)(st:St):Good env (fun rec=>rec c st):=⟨fun _ _ h r=>h c st r,fun _ r h=>by
 unfold den at h
 split at h
 case isFalse=>cases h
 rename_i hx
 cases h
 exact ⟨_,ZbN (ZbN hx)⟩⟩
theorem Good.bind {F:Rec→Option α}{G:α→Rec→Option β}(hF:Good env F)(hG:∀ a,Good env (G a)):Good env (fun rec=>(F rec).bind fun a=>G a rec):=⟨fun f g h r e=>by
 obtain ⟨a,h1,h2⟩:=ZaJ.1 e
 exact ZaJ.2 ⟨a,hF.mono f g h a h1,(hG a).mono f g h r h2⟩,fun hm r e=>by
 obtain ⟨a,h1,h2⟩:=ZaJ.1 e
 obtain ⟨m,h3⟩:=hF.cont hm a h1
 obtain ⟨n,h4⟩:=(hG a).cont hm r h2
 exact ⟨max m n,ZaJ.2 ⟨a,hF.mono _ _ (hm m _ (Nat.le_max_left m n)) a h3,(hG a).mono _ _ (hm n _ (ZdI m n)) r h4⟩⟩⟩
theorem Good.map {F:Rec→Option α}{g:α→β}(hF:Good env F):Good env (fun rec=>(F rec).map g):=by
 have:=hF.bind (G:=fun a _=>some (g a)) fun a=>Good.const _
 refine ⟨fun f g' h r e=>?_,fun hm r e=>?_⟩
 ·have:=this.mono f g' h r (by simpa [Zcf,Zcn] using e)
  simpa [Zcf,Zcn] using this
 ·obtain ⟨n,hn⟩:=this.cont hm r (by simpa [Zcf,Zcn] using e)
  exact ⟨n,by simpa [Zcf,Zcn] using hn⟩
theorem Good.ji (f:Nat)(args:List PV):Good env (fun rec=>ji rec env f args):=by
 unfold Go.Proofs.YthccglceomoboaaGreatDoor.ji
 split
 ·exact Good.const _
 ·split
  ·refine (Good.app _ _).bind fun a=>?_
   obtain ⟨e,st⟩:=a
   cases e<;>exact Good.const _
  ·exact Good.const _
 ·exact Good.const _
 ·exact Good.const _
 ·split
  ·refine (Good.app _ _).bind fun a=>?_
   split
   ·exact (Good.const _).bind fun st0=>(Good.app _ _).bind fun r=>Good.const _
   ·exact Good.const _
  ·exact Good.const _
 ·exact Good.const _
theorem Good.HY (f:Nat)(args:List PV):Good env (fun rec=>HY rec env f args):=by
 unfold Go.Proofs.YthccglceomoboaaGreatDoor.HY
 split
 ·exact Good.const _
 ·split
  ·exact (Good.app _ _).bind fun a=>Good.const _
  ·exact Good.const _
 ·exact Good.const _
theorem Good.jH (f:Nat)(args:List PV)(s:Option Nat):Good env (fun rec=>jH rec env f args s):=by
 unfold Go.Proofs.YthccglceomoboaaGreatDoor.jH
 split
 ·split
  ·refine (Good.app _ _).bind fun a=>?_
   obtain ⟨e,st⟩:=a
   cases e<;>exact Good.const _
  ·exact Good.const _
 ·exact Good.const _
theorem Good.jE (d f:Nat)(args:List bF)(caps:List AV)(st:St):Good env (fun rec=>jE rec env d f args caps st):=by
 unfold Go.Proofs.YthccglceomoboaaGreatDoor.jE
 exact (Good.const _).bind fun l=>(Good.const _).bind fun k=>(Good.ji f _).bind fun rs=>Good.const _
theorem Good.pq (f:Nat)(x:kM)(args:List PV):Good env (fun rec=>pq rec env f x args):=by
 unfold Go.Proofs.YthccglceomoboaaGreatDoor.pq
 split
 ·split
  ·refine (Good.app _ _).bind fun a=>?_
   obtain ⟨e,st⟩:=a
   cases e<;>exact Good.const _
  ·exact Good.const _
 ·exact Good.const _
theorem Good.iP (d f:Nat)(x:bF)(args:List bF)(caps:List AV)(st:St):Good env (fun rec=>iP rec env d f x args caps st):=by
 unfold Go.Proofs.YthccglceomoboaaGreatDoor.iP qx
 exact (Good.const _).bind fun l=>(Good.const _).bind fun k=>(Good.const _).bind fun q=>(Good.pq f _ _).bind fun r=>Good.const _
theorem Good.act (o:gQ)(st:St):Good env (fun rec=>act rec env o st):=by
 cases o
 case call d f args=>exact Good.jE d f args [] st
 case kL d x args =>
  unfold Go.Proofs.YthccglceomoboaaGreatDoor.act
  simp only
  split
  ·exact Good.jE _ _ _ _ _
  ·exact Good.jE _ _ _ _ _
  ·exact Good.const _
 case pk d f x =>
  unfold Go.Proofs.YthccglceomoboaaGreatDoor.act
  simp only
  split
  ·exact (Good.const _).bind fun b=>(Good.ji f _).bind fun rs=>Good.const _
  ·exact Good.const _
 case lin d f x args=>exact Good.iP d f x args [] st
 case linv d g x args =>
  unfold Go.Proofs.YthccglceomoboaaGreatDoor.act
  simp only
  split
  ·exact Good.iP _ _ _ _ _ _
  ·exact Good.iP _ _ _ _ _ _
  ·exact Good.const _
 all_goals exact Good.const _
theorem Good.op1 (o:gQ)(st:St):Good env (fun rec=>op1 rec env o st):=by
 unfold Go.Proofs.YthccglceomoboaaGreatDoor.op1
 split
 ·exact Good.act o st
 ·exact Good.const _
theorem Good.op (o:gQ)(st:St):Good env (fun rec=>op rec env o st):=by
 unfold Go.Proofs.YthccglceomoboaaGreatDoor.op
 split
 ·split
  ·split
   ·exact Good.op1 _ _
   ·exact Good.const _
  ·exact Good.const _
  ·exact Good.const _
 ·exact Good.op1 _ _
theorem Good.ops:∀ (l:List gQ) (st:St),Good env (fun rec=>ops rec env l st)
 |[],st=>Good.const _
 |o::l,st=>(Good.op o st).bind fun st=>Good.ops l st
theorem Good.rounds (slots:List AV)(ps:List Nat)(assign body:au)(nb:Nat):∀ (xs:List (List PV)) (k:Nat) (st:St),Good env (fun rec=>rounds rec slots ps assign body nb k xs st)
 |[],k,st=>by unfold Go.Proofs.YthccglceomoboaaGreatDoor.rounds;exact Good.const _
 |x::xs,k,st=>by
  unfold Go.Proofs.YthccglceomoboaaGreatDoor.rounds
  refine (Good.const _).bind fun sl=>(Good.app _ _).bind fun a=>?_
  obtain ⟨e,st⟩:=a
  cases e
  case normal =>
   refine (Good.app _ _).bind fun a=>?_
   obtain ⟨e,st⟩:=a
   cases e
   case normal =>
    simp only
    split
    ·exact Good.rounds slots ps assign body nb xs (k+1) _
    ·exact Good.const _
   all_goals exact Good.const _
  all_goals exact Good.const _
theorem Good.ranged (g:bF)(ps:List Nat)(assign body:au)(st:St):Good env (fun rec=>ranged rec env g ps assign body st):=by
 unfold Go.Proofs.YthccglceomoboaaGreatDoor.ranged
 refine (Good.const _).bind fun v=>?_
 cases v<;>try exact Good.const _
 simp only
 refine (Good.jH _ _ _).bind fun xs=>(Good.rounds _ _ _ _ _ _ _ _).bind fun r=>?_
 obtain ⟨r,st1⟩:=r
 cases r with
 |none=>exact Good.const _
 |some p =>
  obtain ⟨e,k⟩:=p
  refine (Good.jH _ _ _).bind fun xs=>(Good.rounds _ _ _ _ _ _ _ _).bind fun r=>?_
  obtain ⟨r,st1⟩:=r
  cases r<;>exact Good.const _
theorem Good.l7 (keep:List Nat)(vo:List gQ)(st:St)(x:gW):Good env (fun rec=>l7 rec env keep vo st x):=by
 unfold Go.Proofs.YthccglceomoboaaGreatDoor.l7
 exact (Good.ops _ _).bind fun s=>Good.const _
theorem Good.agree (keep:List Nat)(vo:List gQ)(st s:St):∀ l:List gW,Good env (fun rec=>agree s (l.map (Go.Proofs.YthccglceomoboaaGreatDoor.l7 rec env keep vo st)))
 |[]=>Good.const _
 |x::xs=>by
  simp only [Zat,Go.Proofs.YthccglceomoboaaGreatDoor.agree]
  refine (Good.l7 keep vo st x).bind fun s'=>?_
  split
  ·exact Good.agree keep vo st s xs
  ·exact Good.const _
theorem Good.kW (keep:List Nat)(vo:List gQ)(st:St)(l:List gW):Good env (fun rec=>kW rec env keep vo st l):=by
 cases l with
 |nil=>exact Good.const _
 |cons x xs =>
  simp only [Go.Proofs.YthccglceomoboaaGreatDoor.kW]
  exact (Good.l7 keep vo st x).bind fun s=>Good.agree keep vo st s xs
theorem Good.step (c:au)(st:St):Good env (fun rec=>step rec env c st):=by
 cases c
 case ops l=>exact (Good.ops l st).map
 case qp fz _ _ _ l=>exact (Good.ops l (fz.foldl St.iF st)).map
 case drs fz keep vo alts=>exact (Good.kW keep vo (fz.foldl St.iF st) alts).map
 case lend d ks l =>
  simp only [Go.Proofs.YthccglceomoboaaGreatDoor.step]
  split
  ·split
   ·exact ((Good.ops l _).bind fun s=>Good.const _).map
   ·exact Good.const _
  ·exact Good.const _
 case seq a b =>
  refine (Good.app _ _).bind fun x=>?_
  obtain ⟨e,st⟩:=x
  cases e
  case normal=>exact Good.app _ _
  all_goals exact Good.const _
 case cond c a b =>
  refine (Good.const _).bind fun v=>?_
  cases v<;>try exact Good.const _
  simp only
  split
  ·exact Good.app _ _
  ·exact Good.app _ _
 case block i a =>
  refine (Good.app _ _).bind fun x=>?_
  obtain ⟨e,st⟩:=x
  exact Good.const _
 case loop=>exact Good.app _ _
 case scp=>exact Good.app _ _
 case round keep nb a =>
  refine (Good.const _).bind fun s=>(Good.app _ _).bind fun x=>?_
  obtain ⟨e,st⟩:=x
  cases e
  case normal=>exact Good.app _ _
  all_goals exact Good.const _
 case rng g ps assign body=>exact Good.ranged g ps assign body st
 case clean pre post a =>
  refine (Good.const _).bind fun s=>(Good.app _ _).bind fun x=>?_
  obtain ⟨e,st⟩:=x
  exact Good.const _
 case dem l d f args =>
  refine (Good.ops l st).bind fun st1=>(Good.const _).bind fun vs=>(Good.HY f vs).bind fun r=>?_
  cases r with
  |some p=>exact Good.const _
  |none=>exact (Good.act _ _).map
 all_goals exact Good.const _
theorem Vf (env:Env):∀ n,RLe (vm env n) (vm env (n+1))
 |0,c,st,r,h=>by simp [vm] at h
 |n+1,c,st,r,h=>(Good.step (env:=env) c st).mono _ _ (Vf env n) r h
theorem Oy (env:Env)(m n:Nat)(h:m≤n):RLe (vm env m) (vm env n):=by
 induction h with
 |refl=>exact fun _ _ _ h=>h
 |step _ ih=>exact fun c st r h=>Vf env _ c st r (ih c st r h)
theorem Jo {n:Nat}{c:au}{st:St}{r:Ex×St}(h:vm env n c st=some r):den env c st=some r:=by
 have hx:∃ n r,vm env n c st=some r:=⟨n,r,h⟩
 unfold den
 rw [dif_pos hx]
 have h2:=ZbN (ZbN hx)
 have h3:=Oy env _ _ (Nat.le_max_left n (Zc0 hx)) c st r h
 have h4:=Oy env _ _ (ZdI n (Zc0 hx)) c st _ h2
 rw [h3] at h4
 exact h4.symm
theorem Xl {c:au}{st:St}{r:Ex×St}(h:den env c st=some r):∃ n,vm env n c st=some r :=
 (Good.app c st).cont (Oy env) r h
theorem aaF (env:Env)(n:Nat):RLe (vm env n) (den env):=fun _ _ _ h=>Jo h
theorem kH (env:Env)(c:au)(st:St):den env c st=step (den env) env c st:=by
 apply Option.ext
 intro r
 constructor
 ·intro h
  obtain ⟨n,hn⟩:=Xl h
  cases n with
  |zero=>simp [vm] at hn
  |succ n=>exact (Good.step c st).mono _ _ (aaF env n) r hn
 ·intro h
  obtain ⟨n,hn⟩:=(Good.step c st).cont (Oy env) r h
  exact Jo (n:=n+1) hn
noncomputable def cal (env:Env)(f:Nat)(args:List PV):Option (List pY):=ji (den env) env f args
noncomputable def wL (env:Env)(f:Nat)(x:kM)(args:List PV):Option (List pY×Option (List PV)):=pq (den env) env f x args
theorem jC {f:Nat}{args:List PV}{rs:List pY}(h:cal env f args=some rs):∃ n,Q9 env n f args=some rs :=
 (Good.ji (env:=env) f args).cont (Oy env) rs h
theorem fZ {n f:Nat}{args:List PV}{rs:List pY}(h:Q9 env n f args=some rs):cal env f args=some rs :=
 (Good.ji (env:=env) f args).mono _ _ (aaF env n) rs h
end
end Go.Proofs.YthccglceomoboaaGreatDoor
