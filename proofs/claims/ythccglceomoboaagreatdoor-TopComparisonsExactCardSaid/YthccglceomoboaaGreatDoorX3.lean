/-
  Part 3 of the texts that the statement stands on.
-/
import Derived.Test.YthccglceomoboaaGreatDoorX2
import Derived.RangeFuncNested
import Derived.RangeFuncRecord
import Derived.RangeFuncIn
import Derived.RangeFuncLeaves
import Derived.Scope
set_option linter.all false
open List renaming getElem?_eq_getElem → ZD, getElem?_eq_some_iff → zb, getElem?_map → zc, length_nil → zj, drop_eq_getElem_cons → zr, all_eq_true → zt, length_append → zE, getElem?_append_right → Zab, getElem?_append_left → Zac, mem_of_getElem? → Zad, map_cons → Zai, getElem?_take → Zak, mem_singleton → Zaq, map_nil → Zar, append_assoc → Zav, replicate → Zaw, getElem?_cons_zero → Zaz, append_nil → ZaI, mem_cons → ZaK, size_toArray → ZaN, getElem?_eq_none → ZaO, take_append_drop → ZaP, take_left' → ZaX, drop_left' → Za1, getElem?_cons_succ → Za3, takeWhile_append_dropWhile → Za6, drop_of_length_le → Za7, isEmpty_eq_false_iff → Zba, cons_append → Zbi, mem_filterMap → Zbl, mem_cons_of_mem → Zbp, prefix_refl → ZbE, getElem?_replicate → ZbH, exists_mem_of_ne_nil → ZbX, mapM_cons → Zb6, nodup_cons → Zcr, nodup_nil → Zc1, takeWhile_prefix → Zc2, dropWhile_suffix → Zc3, all_takeWhile → Zdn
open Option renaming some → ZS, map_some → Zae, map_eq_some_iff → Zao, bind_eq_some_iff → ZaF, isSome_iff_exists → ZaU, getD_some → Zbh, map_eq_bind → Zb3
open Bool renaming and_eq_true → ZZ, false_eq_true → zm, not_eq_true' → ZaR, or_eq_true → Za9, not_eq_true → ZbD
open Nat renaming le_refl → ze, le_trans → Zaf, lt_of_lt_of_le → Zan, lt_or_ge → ZaJ, le_max_right → Zdv
open Array renaming getElem?_eq_getElem → zg, getElem?_eq_some_iff → zw, getD_eq_getD_getElem? → Zax, getElem?_setIfInBounds → ZaQ, replicate → ZaV, getElem?_append_left → Za5, getElem?_eq_none → Zcb, getElem?_replicate → ZcL, append_assoc → Zdp
open Prod renaming mk → ZaA
open Classical renaming choose_spec → Zbw, not_not → Zb9, choose → ZcM
open Function renaming comp_def → Zbz
namespace Go.Proofs.YthccglceomoboaaGreatDoor
open Go.RowKit
section
variable {F:Fence}{n:Nat}{P:Program}{ops:Array Oper}{Q:Act→World→Prop}{f:Nat}
theorem fA {S S' S2 S2':World→Prop}(hS:∀ w,S' w→S w)(hS2:∀ w,S2' w→S2 w):∀ (m:Nat) (l:Array Bool) (a:Act) (w:World),iR F n P ops S' S2' f Q m l a w→iR F n P ops S S2 f Q m l a w
 |0,_,_,_,h=>h
 |m+1,_,_,_,h=>⟨h.1,fun i hi=>wpOpIn_mono (fun a' w' h'=>⟨⟨h'.1.1.imp id (hS w'),hS2 w' h'.1.2⟩,fA hS hS2 m _ a' w' h'.2⟩) (h.2 i hi)⟩
abbrev Fin1:=Option (List Nat×List Nat×Nat×List (List Nat×Nat))
def jY (ops:Array Oper):Fin1→Nat
 |none=>ops.size
 |some (_,_,f,_)=>f
def Oh (ops:Array Oper)(i:Nat)(seg:List Nat):List Nat:=seg.takeWhile (Aq ops ops.size i)
def RS (ops:Array Oper)(i:Nat)(seg:List Nat):List Nat:=seg.dropWhile (Aq ops ops.size i)
def BZ (ops:Array Oper)(f:Nat)(last:List Nat):List (List Nat×Nat)→Array Bool→Bool
 |[],l=>last.all (fun i=>f != i)&&match dG ops last l with
  |some l2=>(Region.ready .any ops l2).isEmpty
  |none=>false
 |(seg,i)::more,l=>seg.all (fun j=>f != j&&i != j)&&f != i&&match dG ops (Oh ops i seg) l with
  |some l0=>match dG ops (RS ops i seg) l0 with
   |some l1=>(Region.ready .any ops l1==[i])&&BZ ops f last more (l1.setIfInBounds i true)
   |none=>false
  |none=>false
def gG (last:List Nat):List (List Nat×Nat)→Nat
 |[]=>last.length
 |(seg,_)::more=>gG last more+1+seg.length
def qh (ops:Array Oper)(fin:Fin1)(i:Nat):Bool:=match fin with
 |none=>true
 |some (_,_,f,_)=>Aq ops ops.size f i
def lU (ops:Array Oper)(fin:Fin1)(seg:List Nat):List Nat:=seg.takeWhile (qh ops fin)
def lu (ops:Array Oper)(fin:Fin1)(seg:List Nat):List Nat:=seg.dropWhile (qh ops fin)
def Oi (ops:Array Oper)(fin:Fin1)(seg:List Nat):Bool:=(match fin with
 |none=>seg.all (fun i=>i<ops.size)
 |some (_,_,f,_)=>seg.all (fun i=>f != i))
def KP (ops:Array Oper):List (List Nat×Nat)→Fin1→List Nat→Array Bool→Bool
 |[],none,last,l=>last.all (fun i=>i<ops.size)&&match dG ops last l with
  |some l1=>(Region.ready .any ops l1).isEmpty
  |none=>false
 |[],some (dX,dY,f,tl),last,l=>dX.all (fun i=>f != i&&Aq ops ops.size f i)&&dY.all (fun i=>f != i)&&match dG ops dX l with
  |some l0=>match dG ops dY l0 with
   |some l1=>(Region.ready .any ops l1==[f])&&BZ ops f last tl (l1.setIfInBounds f true)
   |none=>false
  |none=>false
 |(seg,i)::more,fin,last,l=>Oi ops fin seg&&match dG ops (lU ops fin seg) l with
  |some l0=>match dG ops (lu ops fin seg) l0 with
   |some l1=>(Region.ready .any ops l1==[i])&&KP ops more fin last (l1.setIfInBounds i true)
   |none=>false
  |none=>false
def jg:List (List Nat×Nat)→Fin1→List Nat→Nat
 |[],none,last=>last.length
 |[],some (dX,dY,_,tl),last=>gG last tl+1+dY.length+dX.length
 |(seg,_)::more,fin,last=>jg more fin last+1+seg.length
def VE (ops:Array Oper)(acts:List (List Nat×Nat))(fin:Fin1)(last:List Nat):Bool :=
 Region.noSelect ops&&(jg acts fin last==ops.size)&&KP ops acts fin last (ZaV ops.size false)
def oG (F:Fence)(n:Nat)(P:Program)(ops:Array Oper)(Q:Act→World→Prop)(last:List Nat):(World→Prop)→List (List Nat×Nat)→Act→World→Prop
 |S2,[],a,w=>∃ S3:World→Prop,(∀ w,S3 w→S2 w)∧S3 w∧wpQuiet P ops S3 (fun a3=>Q a3 w) (pick ops last) a
 |S2,(seg,i)::more,a,w=>wpQuiet P ops (Whole w) (fun a0=>∃ S3:World→Prop,(∀ w,S3 w→S2 w)∧S3 w∧wpQuiet P ops S3 (fun a'=>wpListIn F n P ops (fun e a'' w''=>e=.normal∧S3 w''∧oG F n P ops Q last S3 more a'' w'') (pick ops [i]) a' w) (pick ops (RS ops i seg)) a0) (pick ops (Oh ops i seg)) a
def qQ (F:Fence)(n:Nat)(P:Program)(ops:Array Oper)(Q:Act→World→Prop):(World→Prop)→(World→Prop)→List (List Nat×Nat)→Fin1→List Nat→Act→World→Prop
 |S,_,[],none,last,a,w=>wpQuiet P ops S (fun a'=>Q a' w) (pick ops last) a
 |S,S2,[],some (dX,dY,f,tl),last,a,w=>wpQuiet P ops S (fun a0=>∃ S3:World→Prop,(∀ w,S3 w→S2 w)∧S3 w∧wpQuiet P ops S3 (fun a'=>wpListIn F n P ops (fun e a'' w''=>e=.normal∧S3 w''∧oG F n P ops Q last S3 tl a'' w'') (pick ops [f]) a' w) (pick ops dY) a0) (pick ops dX) a
 |S,S2,(seg,i)::more,fin,last,a,w=>wpQuiet P ops S (fun a0=>∃ S3:World→Prop,(∀ w,S3 w→S2 w)∧S3 w∧wpQuiet P ops S3 (fun a'=>wpListIn F n P ops (fun e a'' w''=>e=.normal∧∃ S':World→Prop,(∀ w,S' w→S w)∧S' w''∧S3 w''∧qQ F n P ops Q S' S3 more fin last a'' w'') (pick ops [i]) a' w) (pick ops (lu ops fin seg)) a0) (pick ops (lU ops fin seg)) a
theorem mD:∀ (seg:List Nat) (l l':Array Bool),l.size=ops.size→dG ops seg l=some l'→l.getD f false=true→l'.getD f false=true
 |[],l,l',_,h,hf=>by simp only [dG,ZS.injEq] at h;subst h;exact hf
 |i::is,l,l',hs,h,hf=>by
  unfold dG at h
  split at h
  case isFalse=>cases h
  rename_i hc
  simp only [ZZ] at hc
  have hr:i∈Region.ready .any ops l:=by simpa using hc.2
  refine mD is _ l' (by simpa using hs) h ?_
  rw [jd _ _ _ (iM hs hr)]
  split
  ·rfl
  ·exact hf
theorem rM {S S' S2:World→Prop}{g:Nat}:∀ (m:Nat) (l:Array Bool) (a:Act) (w:World),l.size=ops.size→l.getD g false=true→iR F n P ops S' S2 f Q m l a w→iR F n P ops S S2 g Q m l a w
 |0,_,_,_,_,_,h=>h
 |m+1,l,a,w,hs,hg,h=>⟨h.1,fun i hi=>wpOpIn_mono (fun a' w' h'=>by
   have hg':(l.setIfInBounds i true).getD g false=true:=by
    rw [jd _ _ _ (iM hs hi)]
    split
    ·rfl
    ·exact hg
   exact ⟨⟨.inl hg',h'.1.2⟩,rM m _ _ _ (by simpa using hs) hg' h'.2⟩) (h.2 i hi)⟩
theorem apB (i:Nat)(seg:List Nat):(RS ops i seg).length+(Oh ops i seg).length=seg.length:=by
 have:=congrArg List.length (Za6 (p:=Aq ops ops.size i) (l:=seg))
 rw [zE] at this
 unfold Oh RS;omega
theorem yu {S:World→Prop}(hF:∀ f,F.fn f)(hnd:jQ ops=true)(hsel:Region.noSelect ops=true){last:List Nat}:∀ (tl:List (List Nat×Nat)) (S2:World→Prop) (l:Array Bool) (a:Act) (w:World),l.size=ops.size→Closed ops l→l.getD f false=true→S2 w→BZ ops f last tl l=true →
  oG F n P ops Q last S2 tl a w→iR F n P ops S S2 f Q (gG last tl) l a w
 |[],S2,l,a,w,hs,hc,hf,h2,hB,h=>by
  unfold BZ at hB
  simp only [ZZ] at hB
  obtain ⟨hl,hB⟩:=hB
  split at hB
  case h_2=>cases hB
  rename_i l2 hq2
  unfold oG at h
  obtain ⟨S3,hS3,hw3,h⟩:=h
  refine fA (S':=S) (S2':=S3) (fun _ h=>h) hS3 _ _ _ _ ?_
  have h3:=eY (F:=F) (n:=n) (P:=P) (S:=S) (Q:=Q) (f:=f) hF hnd hsel (S2:=S3) (T:=S3) (w:=w) last 0 l l2 a hs hc ⟨.inl hf,hw3⟩
   (fun i hi=>⟨by have:=zt.1 hl i hi;simpa using this,fun _ _ _ _ _ _ h=>h.2⟩) hq2 (fun _ _ _=>trivial) (dL (fun a3 h3 _ _ _=>⟨by simpa using hB,h3⟩) _ _ h)
  simpa [gG] using h3
 |(seg,i)::more,S2,l,a,w,hs,hc,hf,h2,hB,h=>by
  unfold BZ at hB
  simp only [ZZ,bne_iff_ne] at hB
  obtain ⟨⟨hl,hfi⟩,hB⟩:=hB
  have hlA:∀ j∈Oh ops i seg,j∈seg:=fun j hj=>(Zc2 (Aq ops ops.size i)).subset hj
  have hlB:∀ j∈RS ops i seg,j∈seg:=fun j hj=>(Zc3 (Aq ops ops.size i)).subset hj
  have hne:∀ j∈seg,f≠j∧i≠j:=fun j hj=>by have:=zt.1 hl j hj;simpa using this
  split at hB
  case h_2=>cases hB
  rename_i l0 hq0
  split at hB
  case h_2=>cases hB
  rename_i l1 hq1
  simp only [ZZ,beq_iff_eq] at hB
  obtain ⟨hr,hB⟩:=hB
  unfold oG at h
  have h3:=eY (F:=F) (n:=n) (P:=P) (S:=Whole w) (Q:=Q) (f:=i) (S2:=S2) hF hnd hsel (T:=Whole w) (w:=w) (Oh ops i seg) (gG last more+1+(RS ops i seg).length) l l0 a hs hc ⟨.inr (Whole.refl w),h2⟩ (fun j hj=>by
   have hd:Aq ops ops.size i j=true:=zt.1 (Zdn (p:=Aq ops ops.size i) (l:=seg)) j hj
   refine ⟨(hne j (hlA j hj)).2,fun l _ hc hu _ w hS=>hS.1.resolve_left fun hf=>?_⟩
   rw [hc.dep _ _ _ hf hd] at hu;cases hu) hq0 (fun _ _ _=>trivial) (dL (fun a0 h0 hs0 hc0 hS0=>by
    obtain ⟨S3,hS3,hw3,h0⟩:=h0
    refine fA (S':=Whole w) (S2':=S3) (fun _ h=>h) hS3 _ _ _ _ ?_
    refine eY (F:=F) (n:=n) (P:=P) (S:=Whole w) (Q:=Q) (f:=i) (S2:=S3) hF hnd hsel (T:=S3) (w:=w) (RS ops i seg) (gG last more+1) l0 l1 a0 hs0 hc0 ⟨hS0.1,hw3⟩ (fun j hj=>⟨(hne j (hlB j hj)).2,fun _ _ _ _ _ _ h=>h.2⟩) hq1 (fun _ _ _=>trivial) (dL (fun a' h' hs1 hc1 _=>by
     refine ⟨fun h0=>(by rw [hr] at h0;cases h0),fun j hj=>?_⟩
     have hj':=hj
     rw [hr] at hj
     obtain rfl:j=i:=by simpa using hj
     have hf0:=mD _ l l0 hs hq0 hf
     have hf1:=mD _ l0 l1 hs0 hq1 hf0
     have hg1:(l1.setIfInBounds j true).getD j false=true:=by rw [jd _ _ _ (iM hs1 hj'),if_pos rfl]
     have hf2:(l1.setIfInBounds j true).getD f false=true:=by
      rw [jd _ _ _ (iM hs1 hj')]
      split
      ·rfl
      ·exact hf1
     exact xR hF (fun a2 w2 h3=>⟨⟨.inl hg1,h3.1⟩,rM (S':=S) _ _ _ _ (by simpa using hs1) hg1 (yu hF hnd hsel more S3 _ _ _ (by simpa using hs1) (hc1.set hs1 hj') hf2 h3.1 hB h3.2)⟩) h') _ _ h0)) _ _ h)
  have e:=apB (ops:=ops) i seg
  simp only [gG]
  rw [show gG last more+1+seg.length=gG last more+1+(RS ops i seg).length+(Oh ops i seg).length by omega]
  exact rM _ _ _ _ hs hf h3
theorem SY {S S2:World→Prop}{fin:Fin1}{seg:List Nat}(h:Oi ops fin seg=true):∀ i∈lU ops fin seg,jY ops fin≠i∧∀ l:Array Bool,l.size=ops.size→Closed ops l→l.getD i false=false→(∀ j,l.getD j false=true∨True)→∀ w,((l.getD (jY ops fin) false=true∨S w)∧S2 w)→S w:=fun i hi=>by
 have hd:qh ops fin i=true:=zt.1 (Zdn (p:=qh ops fin) (l:=seg)) i hi
 have hm:i∈seg:=(Zc2 (qh ops fin)).subset hi
 cases fin with
 |none =>
  have:=zt.1 h i hm
  simp only [decide_eq_true_eq] at this
  refine ⟨by simp only [jY];omega,fun l hs hc hu _ w hS=>hS.1.resolve_left fun hf=>?_⟩
  simp only [jY] at hf
  rw [Zax,Zcb (by omega)] at hf;cases hf
 |some p =>
  have:=zt.1 h i hm
  simp only [bne_iff_ne] at this
  refine ⟨this,fun l _ hc hu _ w hS=>hS.1.resolve_left fun hf=>?_⟩
  rw [hc.dep _ _ _ hf hd] at hu;cases hu
theorem S9 {S S2:World→Prop}{fin:Fin1}{seg:List Nat}(h:Oi ops fin seg=true):∀ i∈lu ops fin seg,jY ops fin≠i∧∀ l:Array Bool,l.size=ops.size→Closed ops l→l.getD i false=false→(∀ j,l.getD j false=true∨True)→∀ w,((l.getD (jY ops fin) false=true∨S w)∧S2 w)→S2 w:=fun i hi=>by
 have hm:i∈seg:=(Zc3 (qh ops fin)).subset hi
 refine ⟨?_,fun l _ _ _ _ w hS=>hS.2⟩
 cases fin with
 |none =>
  have:=zt.1 h i hm
  simp only [decide_eq_true_eq] at this
  simp only [jY];omega
 |some p =>
  have:=zt.1 h i hm
  simp only [bne_iff_ne] at this
  exact this
theorem ahQ (fin:Fin1)(seg:List Nat):(lu ops fin seg).length+(lU ops fin seg).length=seg.length:=by
 have:=congrArg List.length (Za6 (p:=qh ops fin) (l:=seg))
 rw [zE] at this
 unfold lU lu;omega
theorem AO (hF:∀ f,F.fn f)(hnd:jQ ops=true)(hsel:Region.noSelect ops=true){fin:Fin1}{last:List Nat}:∀ (acts:List (List Nat×Nat)) (S S2:World→Prop) (l:Array Bool) (a:Act) (w:World),l.size=ops.size→Closed ops l→KP ops acts fin last l=true→S w→S2 w →
  qQ F n P ops Q S S2 acts fin last a w→iR F n P ops S S2 (jY ops fin) Q (jg acts fin last) l a w
 |[],S,S2,l,a,w,hs,hc,hB,hS,hS2,h=>by
  cases fin with
  |none =>
   unfold KP at hB
   simp only [ZZ] at hB
   obtain ⟨hl,hB⟩:=hB
   split at hB
   case h_2=>cases hB
   rename_i l1 hq1
   unfold qQ at h
   have:=eY (F:=F) (n:=n) (P:=P) (S:=S) (Q:=Q) (f:=ops.size) (S2:=S2) hF hnd hsel (T:=S) (w:=w) last 0 l l1 a hs hc ⟨.inr hS,hS2⟩ (fun i hi=>by
    have:=zt.1 hl i hi
    simp only [decide_eq_true_eq] at this
    refine ⟨by omega,fun l hs hc hu _ w hS=>hS.1.resolve_left fun hf=>?_⟩
    rw [Zax,Zcb (by omega)] at hf;cases hf) hq1 (fun _ _ _=>trivial) (dL (fun a' h' _ _ _=>⟨by simpa using hB,h'⟩) _ _ h)
   simpa [jg,jY] using this
  |some p =>
   obtain ⟨dX,dY,f,tl⟩:=p
   unfold KP at hB
   simp only [ZZ] at hB
   obtain ⟨⟨hsg,hsu⟩,hB⟩:=hB
   split at hB
   case h_2=>cases hB
   rename_i l0 hq0
   split at hB
   case h_2=>cases hB
   rename_i l1 hq1
   simp only [ZZ,beq_iff_eq] at hB
   obtain ⟨hr,hB⟩:=hB
   unfold qQ at h
   have:=eY (F:=F) (n:=n) (P:=P) (S:=S) (Q:=Q) (f:=f) (S2:=S2) hF hnd hsel (T:=S) (w:=w) dX (gG last tl+1+dY.length) l l0 a hs hc ⟨.inr hS,hS2⟩ (fun i hi=>by
    have:=zt.1 hsg i hi
    simp only [ZZ,bne_iff_ne] at this
    refine ⟨this.1,fun l _ hc hu _ w hS=>hS.1.resolve_left fun hf=>?_⟩
    rw [hc.dep _ _ _ hf this.2] at hu;cases hu) hq0 (fun _ _ _=>trivial) (dL (fun a0 h0 hs0 hc0 hS0=>by
     obtain ⟨S3,hS3,hw3,h0⟩:=h0
     refine fA (S':=S) (S2':=S3) (fun _ h=>h) hS3 _ _ _ _ ?_
     refine eY (F:=F) (n:=n) (P:=P) (S:=S) (Q:=Q) (f:=f) (S2:=S3) hF hnd hsel (T:=S3) (w:=w) dY (gG last tl+1) l0 l1 a0 hs0 hc0 ⟨hS0.1,hw3⟩ (fun i hi=>by
      have:=zt.1 hsu i hi
      simp only [bne_iff_ne] at this
      exact ⟨this,fun _ _ _ _ _ _ h=>h.2⟩) hq1 (fun _ _ _=>trivial) (dL (fun a' h' hs1 hc1 _=>by
       refine ⟨fun h0=>(by rw [hr] at h0;cases h0),fun j hj=>?_⟩
       have hj':=hj
       rw [hr] at hj
       obtain rfl:j=f:=by simpa using hj
       have hf1:(l1.setIfInBounds j true).getD j false=true:=by rw [jd _ _ _ (iM hs1 hj'),if_pos rfl]
       exact xR hF (fun a2 w2 h3=>⟨⟨.inl hf1,h3.1⟩,yu hF hnd hsel tl S3 _ _ _ (by simpa using hs1) (hc1.set hs1 hj') hf1 h3.1 hB h3.2⟩) h') _ _ h0)) _ _ h)
   simpa [jg,jY] using this
 |(seg,i)::more,S,S2,l,a,w,hs,hc,hB,hS,hS2,h=>by
  unfold KP at hB
  simp only [ZZ] at hB
  obtain ⟨hsg,hB⟩:=hB
  split at hB
  case h_2=>cases hB
  rename_i l0 hq0
  split at hB
  case h_2=>cases hB
  rename_i l1 hq1
  simp only [ZZ,beq_iff_eq] at hB
  obtain ⟨hr,hB⟩:=hB
  unfold qQ at h
  have:=eY (F:=F) (n:=n) (P:=P) (S:=S) (Q:=Q) (f:=jY ops fin) (S2:=S2) hF hnd hsel (T:=S) (w:=w) (lU ops fin seg) (jg more fin last+1+(lu ops fin seg).length) l l0 a hs hc ⟨.inr hS,hS2⟩ (SY hsg) hq0 (fun _ _ _=>trivial) (dL (fun a0 h0 hs0 hc0 hS0=>by
    obtain ⟨S3,hS3,hw3,h0⟩:=h0
    refine fA (S':=S) (S2':=S3) (fun _ h=>h) hS3 _ _ _ _ ?_
    refine eY (F:=F) (n:=n) (P:=P) (S:=S) (Q:=Q) (f:=jY ops fin) (S2:=S3) hF hnd hsel (T:=S3) (w:=w) (lu ops fin seg) (jg more fin last+1) l0 l1 a0 hs0 hc0 ⟨hS0.1,hw3⟩ (S9 hsg) hq1 (fun _ _ _=>trivial) (dL (fun a' h' hs1 hc1 _=>by
     refine ⟨fun h0=>(by rw [hr] at h0;cases h0),fun j hj=>?_⟩
     have hj':=hj
     rw [hr] at hj
     obtain rfl:j=i:=by simpa using hj
     refine xR hF (fun a2 w2 h2=>?_) h'
     obtain ⟨S',k1,k2,k3,k4⟩:=h2
     exact ⟨⟨.inr (k1 _ k2),k3⟩,fA k1 (fun _ h=>h) _ _ _ _ (AO hF hnd hsel more S' S3 _ _ _ (by simpa using hs1) (hc1.set hs1 hj') hB k2 k3 k4)⟩) _ _ h0)) _ _ h)
  have e:=ahQ (ops:=ops) fin seg
  simp only [jg]
  rw [show jg more fin last+1+seg.length=jg more fin last+1+(lu ops fin seg).length+(lU ops fin seg).length by omega]
  exact this
theorem CX {id:Nat}{l:Array Oper}{a:Act}{w:World}{Q:Exit→Act→World→Prop}(S:World→Prop){acts:List (List Nat×Nat)}{fin:Fin1}{last:List Nat}(hF:∀ f,F.fn f)(hm:P.follows .mixedOrders=true)
  (hnd:jQ l=true) (hB:VE l acts fin last=true) (hS:S w.drew) (h:qQ F n P l (Q .normal) S (fun _=>True) acts fin last a w.drew):(Code.region id l true).wpIn F n P Q a w:=by
 simp only [VE,ZZ,beq_iff_eq] at hB
 obtain ⟨⟨hsel,hn⟩,hB⟩:=hB
 refine Code.wpIn_mono (Q:=dK (Q .normal)) (fun e a w h=>by obtain ⟨rfl,h⟩:=h;exact h) (wpIn_region_any hm ?_)
 have:=yt _ _ _ _ (AO hF hnd hsel acts S (fun _=>True) (ZaV l.size false) a _ (by simp) (fun m o hm=>absurd hm (by rw [Zax,ZcL];split<;>simp)) hB hS trivial h)
 rw [hn] at this
 exact this
end
def core:ig→ig
 |.grd _ _ v=>v
 |v=>v
def Em:ig→Bool
 |.ah ..|.ak ..|.un ..|.pick ..|.bin ..|.conv ..|.mn ..|.ay ..|.tu ..|.bG ..|.fld ..|.idx ..|.len ..|.lens ..|.RQ ..|.ext ..|.I4 ..|.Vs ..|.Xf ..|.eqm ..=>true
 |_=>false
def zo (v:ig):Bool:=Em v || match v with
 |.Nr ..=>true
 |_=>false
def zq:ig→Bool
 |.build ..|.CQ ..=>true
 |_=>false
def lC:Bool→List ig→Bool
 |_,[]=>true
 |ok,v::vs=>(Em (core v)&&lC ok vs) || (zq (core v)&&lC false vs) || (ok&&zo (core v)&&lC ok vs)
def uj (P:Program)(bU:Array Oper)(seg:List Nat)(vs:List ig):Bool:=mL P bU (pick bU seg) vs&&vs.all fun v=>!lY (core v)
def zu (P:Program)(bU:Array Oper)(last:List Nat):List (List Nat×Nat)→List ig→Bool
 |[],vs=>mL P bU (pick bU last) vs&&lC true vs
 |(seg,i)::more,vs=>uj P bU (Oh bU i seg) (vs.take (Oh bU i seg).length)&&mL P bU (pick bU (RS bU i seg)) ((vs.drop (Oh bU i seg).length).take (RS bU i seg).length)&&lC true ((vs.drop (Oh bU i seg).length).take (RS bU i seg).length)&&match (vs.drop (Oh bU i seg).length).drop (RS bU i seg).length with
  |v::vs=>mL P bU (pick bU [i]) [v]&&zu P bU last more vs
  |[]=>false
def yw (P:Program)(bU:Array Oper)(fin:Fin1)(last:List Nat):List (List Nat×Nat)→List ig→Bool
 |[],vs=>match fin with
  |none=>uj P bU last vs
  |some (dX,dY,f,tl)=>uj P bU dX (vs.take dX.length)&&mL P bU (pick bU dY) ((vs.drop dX.length).take dY.length)&&lC true ((vs.drop dX.length).take dY.length)&&match (vs.drop dX.length).drop dY.length with
   |v::vs=>mL P bU (pick bU [f]) [v]&&zu P bU last tl vs
   |[]=>false
 |(seg,i)::more,vs=>uj P bU (lU bU fin seg) (vs.take (lU bU fin seg).length)&&mL P bU (pick bU (lu bU fin seg)) ((vs.drop (lU bU fin seg).length).take (lu bU fin seg).length)&&lC true ((vs.drop (lU bU fin seg).length).take (lu bU fin seg).length)&&match (vs.drop (lU bU fin seg).length).drop (lu bU fin seg).length with
  |v::vs=>mL P bU (pick bU [i]) [v]&&Og v&&yw P bU fin last more vs
  |[]=>false
section
variable {P:Program}{F:Fence}{C:Ctx}{n L nb:Nat}{σ σ':Nat→Nat}{T T' T1 T2:Tags}{st st' st1:St}{a a1:Act}{w w1:World}{o:Oper}{vo:ig}{y:Operand}{x:bK}{d:Nat}
 {rec:aj→St→Option (Ex×St)} {env:Env} {next:Act→World→Prop} {Q:Exit→Act→World→Prop} {bU:Array Oper} {ds:List Deferred} {e:Ex}
theorem Cb (h:aQ L σ T st a w)(hm:mG P bU o vo=true)(hp:op rec env vo st=some st') :
  (Region.wanted o (yielded bU a.tmps)=true∧m1 P o (core vo)=true∧op1 rec env (core vo) st=some st')∨(Region.wanted o (yielded bU a.tmps)=false∧aQ L σ T st' (a.put o.dst undef) w):=by
 by_cases hg:∃ g want v,vo=.grd g want v
 ·obtain ⟨g,want,v,rfl⟩:=hg
  rcases Jp h hm hp with g|⟨g1,g2,_⟩
  ·exact .inl g
  ·exact .inr ⟨g1,g2⟩
 ·have hm':o.guard.isNone=true∧m1 P o vo=true:=by
   cases vo<;>first|exact Bool.and_eq_true_iff.1 hm|exact absurd ⟨_,_,_,rfl⟩ hg
  have hp':op1 rec env vo st=some st':=by
   cases vo<;>first|exact hp|exact absurd ⟨_,_,_,rfl⟩ hg
  have hw:Region.wanted o (yielded bU a.tmps)=true:=by
   simp only [Region.wanted,Option.isNone_iff_eq_none.1 hm'.1]
  have hc:core vo=vo:=by
   cases vo<;>first|rfl|exact absurd ⟨_,_,_,rfl⟩ hg
  rw [hc]
  exact .inl ⟨hw,hm'.2,hp'⟩
theorem En (h:aQ L σ T st a w)(hm:m1 P o vo=true)(hq:Em vo=true)(hp:plain vo st=some st'):pU P L σ T st' a w o:=by
 simp only [m1,ZZ,beq_iff_eq] at hm
 obtain ⟨hd,hm⟩:=hm
 cases vo<;>simp only [Em,zm] at hq<;>simp only [mv] at hm
 case ah d x =>
  split at hm<;>try (cases hm;done)
  rename_i ho;exact y8 h hd (.inl ho) hm false hp
 case ak d x =>
  split at hm<;>try (cases hm;done)
  ·rename_i ho;exact y8 h hd (.inr ho) hm true hp
  ·rename_i ho;exact y8 h hd (.inl ho) hm true hp
 case pick d c x x2 =>
  split at hm<;>try (cases hm;done)
  rename_i ho
  simp only [ZZ] at hm
  exact I9 h hd ho hm.1.1 hm.1.2 hm.2 hp
 case bin d b x x2 =>
  split at hm<;>try (cases hm;done)
  rename_i ho
  simp only [ZZ,beq_iff_eq] at hm
  obtain ⟨⟨rfl,h1⟩,h2⟩:=hm
  exact Ny h hd ho h1 h2 hp
 case un d b x =>
  split at hm<;>try (cases hm;done)
  rename_i ho
  simp only [ZZ,beq_iff_eq] at hm
  obtain ⟨rfl,h1⟩:=hm
  exact Vw h hd ho h1 hp
 case conv d k x =>
  split at hm<;>try (cases hm;done)
  rename_i ho
  simp only [ZZ] at hm
  exact Ja h hd ho hm.1.1 (NZ hm.1.2) (Jj hm.2) hp
 case mn d mx x x2 =>
  split at hm<;>try (cases hm;done)
  rename_i b y y2 T0 T1 ho
  simp only [ZZ,beq_iff_eq] at hm
  obtain ⟨⟨rfl,h1⟩,h2⟩:=hm
  exact Vx h hd (Eb ho) h1 h2 hp
 case ay d x off =>
  split at hm
  case h_3=>cases hm
  case h_2 =>
   rename_i ho
   simp only [ZZ,beq_iff_eq] at hm
   obtain ⟨h1,rfl⟩:=hm
   exact NH h hd ho h1 hp
  rename_i ho
  simp only [ZZ] at hm
  obtain ⟨h1,h2⟩:=hm
  split at h2<;>try (cases h2;done)
  rename_i fd hf
  simp only [ZZ,beq_iff_eq] at h2
  obtain ⟨rfl,h3⟩:=h2
  split at h3<;>try (cases h3;done)
  rename_i k hk
  exact Jd h hd ho h1 hf hk hp
 case tu d x x2 len sz =>
  split at hm<;>try (cases hm;done)
  rename_i ho
  simp only [ZZ] at hm
  obtain ⟨⟨h1,h2⟩,h3⟩:=hm
  split at h3<;>try (cases h3;done)
  rename_i l e he
  simp only [ZZ,beq_iff_eq] at h3
  obtain ⟨rfl,h4⟩:=h3
  exact Je h hd ho h1 h2 he h4 hp
 case bG d sz x x2 =>
  split at hm<;>try (cases hm;done)
  rename_i ho
  simp only [ZZ] at hm
  obtain ⟨⟨h1,h2⟩,h3⟩:=hm
  split at h3<;>try (cases h3;done)
  rename_i e he
  exact Jf h hd ho h1 h2 he (beq_iff_eq.1 h3) hp
 case fld d x off n=>cases hm
 case idx d x x2 len sz n =>
  split at hm<;>try (cases hm;done)
  rename_i ho
  simp only [ZZ] at hm
  obtain ⟨⟨h1,h2⟩,h3⟩:=hm
  split at h3<;>try (cases h3;done)
  rename_i l e he
  simp only [ZZ,beq_iff_eq] at h3
  obtain ⟨⟨rfl,h4⟩,h5⟩:=h3
  exact NI h hd ho h1 h2 he h4 h5 hp
 case len d x =>
  split at hm<;>try (cases hm;done)
  rename_i b y T0 ho
  simp only [ZZ,beq_iff_eq] at hm
  obtain ⟨⟨rfl,h1⟩,h2⟩:=hm
  obtain ⟨e,he⟩:=ZaU.1 h2
  exact NJ h hd (N8 ho) h1 he hp
 case lens d x=>cases hm
 case RQ d neg x =>
  split at hm<;>try (cases hm;done)
  rename_i ho
  simp only [ZZ,beq_iff_eq] at hm
  obtain ⟨⟨h1,h2⟩,h3⟩:=hm
  obtain ⟨e,he⟩:=ZaU.1 h3
  exact NK h hd ho h1 h2 he hp
 case ext d x i =>
  split at hm<;>try (cases hm;done)
  rename_i ho
  simp only [ZZ,beq_iff_eq] at hm
  obtain ⟨h1,rfl⟩:=hm
  exact NM h hd ho h1 hp
 case I4 d sz x lo hi =>
  split at hm<;>try (cases hm;done)
  rename_i ho
  simp only [ZZ] at hm
  obtain ⟨⟨⟨h1,h2⟩,h3⟩,h4⟩:=hm
  split at h4<;>try (cases h4;done)
  rename_i e he
  exact NQ h hd ho h1 h2 h3 he (beq_iff_eq.1 h4) hp
 case Vs d neg n x x2 =>
  split at hm<;>try (cases hm;done)
  rename_i ho
  simp only [ZZ,beq_iff_eq] at hm
  obtain ⟨⟨⟨⟨h1,h2⟩,h3⟩,h4⟩,h5⟩:=hm
  exact Nv h hd ho h1 h2 h3 h4 h5 hp
 case Xf d neg x x2 =>
  split at hm<;>try (cases hm;done)
  rename_i ho
  simp only [ZZ,beq_iff_eq] at hm
  obtain ⟨⟨⟨h1,h2⟩,h3⟩,h4⟩:=hm
  exact Nw h hd ho h1 h2 h3 (D9 h4) hp
 case eqm d neg ks x x2=>cases hm
theorem Oj (h:aQ L σ T st a w)(hm:m1 P o vo=true)(hq:zq vo=true)(hp:plain vo st=some st'):Ns P L σ T st' a w o:=by
 simp only [m1,ZZ,beq_iff_eq] at hm
 obtain ⟨hd,hm⟩:=hm
 cases vo<;>simp only [zq,zm] at hq<;>simp only [mv] at hm
 case build d z m =>
  split at hm<;>try (cases hm;done)
  rename_i T0 l ho
  simp only [ZZ] at hm
  obtain ⟨⟨h1,h2⟩,h3⟩:=hm
  exact DZ h hd (l:=l.toList) (by simpa using ho) h1 h2 (qP h3) hp
 case CQ d z parts off t =>
  split at hm<;>try (cases hm;done)
  rename_i T0 l ho
  simp only [ZZ] at hm
  obtain ⟨⟨hm1,hm2⟩,SI⟩:=hm
  split at hm1
  case h_2=>cases hm1
  rename_i p hp0
  simp only [ZZ,beq_iff_eq] at hm1
  obtain ⟨⟨g1,g2⟩,g3⟩:=hm1
  simp only [plain] at hp
  replace hp:=bind_some hp
  obtain ⟨⟨cs,st1⟩,h1,hp⟩:=hp
  simp only at hp
  split at hp
  case h_2=>cases hp
  rename_i sz es e0
  split at hp
  case isFalse=>cases hp
  rename_i hoff
  rw [← ZS.inj hp]
  have hl:l.toList.dropLast++[(p.1,p.2)]=l.toList:=by
   obtain ⟨ys,hys⟩:=List.getLast?_eq_some_iff.1 hp0
   rw [hys,List.dropLast_concat]
  exact Jh h hd (l:=l.toList.dropLast) (by rw [hl];simpa using ho) g1 g2 g3 hm2 (qP SI) h1 e0 hoff
def Td (S:World→Prop)(P:Program)(L:Nat)(σ:Nat→Nat)(T:Tags)(st':St)(a:Act)(w:World)(o:Oper):Prop :=
 ∃ v T',(∀ w',S w'→(execOp a.eval o).run P w'=.ok (.value v) w')∧aQ L σ T' st' (a.put o.dst v) w∧Still T T'
theorem Eo:∀ {l:List ig} {st st':St},(∀ v∈l,lY (core v)=false)→ops rec env l st=some st'→aX st st'
 |[],st,st',_,h=>by simp only [ops,ZS.injEq] at h;subst h;exact aX.refl _
 |v::l,st,st',hl,h=>by
  simp only [ops] at h
  obtain ⟨st1,h1,h2⟩:=bind_some h
  refine aX.trans ?_ (Eo (fun u hu=>hl u (by simp [hu])) h2)
  have hv:=hl v (by simp)
  unfold op at h1
  split at h1
  ·simp only [core] at hv
   split at h1
   ·split at h1
    ·simp only [op1,hv] at h1;exact ug h1
    ·split at h1
     ·rw [← ZS.inj h1];exact (aX.refl _).put _ _
     ·rw [← ZS.inj h1];exact aX.refl _
   ·split at h1
    ·split at h1
     ·rw [← ZS.inj h1];exact (aX.refl _).put _ _
     ·rw [← ZS.inj h1];exact aX.refl _
    ·cases h1
   ·cases h1
  ·rename_i v' hne
   have hc:core v=v:=by
    unfold core;split
    ·exact (hne _ _ _ rfl).elim
    ·rfl
   rw [hc] at hv
   simp only [op1,hv] at h1;exact ug h1
theorem AP {S:World→Prop}{vs0:List ig}{K:Act→Prop}{I:St→Prop}(hI:∀ v∈vs0,∀ s1 s2,op rec env v s1=some s2→I s1→I s2)(hlook:∀ T1 st1 st2 a1 o v,I st1→Still T T1→lY (core v)=false→aQ L σ T1 st1 a1 w→m1 P o (core v)=true→v∈vs0→plain (core v) st1=some st2→Td S P L σ T1 st2 a1 w o) :
  ∀ {l:List Oper} {vs:List ig} {st:St} {T1:Tags} {a:Act},(∀ v∈vs,v∈vs0∧lY (core v)=false)→I st→Still T T1→aQ L σ T1 st a w→mL P bU l vs=true→ops rec env vs st=some st' →
  (∀ a' T',aQ L σ T' st' a' w→Still T T'→a'.defers=a.defers→K a')→wpQuiet P bU S K l a
 |[],[],st,T1,a,_,_,ht,h,_,hp,hK=>by
  simp only [ops,ZS.injEq] at hp;subst hp
  exact hK _ _ h ht rfl
 |[],_::_,_,_,_,_,_,_,_,hm,_,_=>by simp [mL] at hm
 |_::_,[],_,_,_,_,_,_,_,hm,_,_=>by simp [mL] at hm
 |o::l,v::vs,st,T1,a,hvs,hi,ht,h,hm,hp,hK=>by
  simp only [mL,ZZ] at hm
  simp only [ops] at hp
  obtain ⟨st1,h1,h2⟩:=bind_some hp
  obtain ⟨hin,hact⟩:=hvs v (by simp)
  unfold wpQuiet
  rcases Cb h hm.1 h1 with ⟨g1,g2,g3⟩|⟨g1,g2⟩
  ·rw [if_pos g1]
   simp only [op1,hact] at g3
   obtain ⟨u,T2,k1,k2,k3⟩:=hlook T1 st st1 a o v hi ht hact h g2 hin g3
   refine ⟨u,fun w' hw'=>?_,AP hI hlook (fun v hv=>hvs v (by simp [hv])) (hI v hin _ _ h1 hi) (ht.trans k3) k2 hm.2 h2 fun a' T' q1 q2 q3=>hK a' T' q1 q2 (q3.trans put_defers)⟩
   unfold Oper.quietAt
   rw [k1 w' hw']
   exact ⟨rfl,rfl⟩
  ·rw [if_neg (by rw [g1];simp)]
   exact AP hI hlook (fun v hv=>hvs v (by simp [hv])) (hI v hin _ _ h1 hi) ht g2 hm.2 h2 fun a' T' q1 q2 q3=>hK a' T' q1 q2 (q3.trans put_defers)
theorem aaz {S:World→Prop}{vs0:List ig}{K:Act→Prop}(hlook:∀ T1 st1 st2 a1 o v,Still T T1→lY (core v)=false→aQ L σ T1 st1 a1 w→m1 P o (core v)=true→v∈vs0→plain (core v) st1=some st2→Td S P L σ T1 st2 a1 w o) :
  ∀ {l:List Oper} {vs:List ig} {st:St} {T1:Tags} {a:Act},(∀ v∈vs,v∈vs0∧lY (core v)=false)→Still T T1→aQ L σ T1 st a w→mL P bU l vs=true→ops rec env vs st=some st' →
  (∀ a' T',aQ L σ T' st' a' w→Still T T'→a'.defers=a.defers→K a')→wpQuiet P bU S K l a:=fun hvs ht h hm hp hK =>
 AP (I:=fun _=>True) (fun _ _ _ _ _ _=>trivial) (fun T1 st1 st2 a1 o v _=>hlook T1 st1 st2 a1 o v) hvs trivial ht h hm hp hK
theorem Ol (h:aQ L σ T st a w)(hm:m1 P o vo=true)(hp:plain vo st=some st'):Td (Whole w) P L σ T st' a w o:=by
 obtain ⟨v,T',h1,h2,h3⟩:=BU h hm hp
 exact ⟨v,T',fun w' hw=>h1 w' hw.sees,h2,h3⟩
theorem eG {l1 l2:List ig}{st st':St}(h:ops rec env (l1++l2) st=some st'):∃ st1,ops rec env l1 st=some st1∧ops rec env l2 st1=some st':=by
 induction l1 generalizing st with
 |nil=>exact ⟨st,rfl,h⟩
 |cons v l ih =>
  simp only [Zbi,ops] at h ⊢
  obtain ⟨st1,h1,h2⟩:=bind_some h
  obtain ⟨st2,h3,h4⟩:=ih h2
  exact ⟨st2,by rw [h1];exact h3,h4⟩
end
section
variable {P:Program}{F:Fence}{C:Ctx}{n L nb:Nat}{σ σ':Nat→Nat}{T T' T1 T2:Tags}{st st' st1:St}{a a1:Act}{w w1:World}{o:Oper}{vo:ig}{y:Operand}{x:bK}{d:Nat}
 {rec:aj→St→Option (Ex×St)} {env:Env} {next:Act→World→Prop} {Q:Act→World→Prop} {bU:Array Oper} {ds:List Deferred} {e:Ex}
theorem aQ.kC:∀ (fz:List bK) {st:St} {T:Tags},aQ L σ T st a w→∃ T1,aQ L σ T1 (fz.foldl St.iO st) a w∧Still T T1
 |[],st,T,h=>⟨T,h,Still.refl T⟩
 |x::fz,st,T,h=>by
  have:∃ T1,aQ L σ T1 (st.iO x) a w∧Still T T1:=by
   unfold St.iO
   split
   ·rename_i p _ _
    refine ⟨_,h.bn p,?_⟩
    split
    ·exact Still.iG T p
    ·exact Still.refl T
   ·exact ⟨T,h,Still.refl T⟩
  obtain ⟨T1,h1,h2⟩:=this
  obtain ⟨T2,h3,h4⟩:=aQ.kC fz h1
  exact ⟨T2,h3,h2.trans h4⟩
theorem AQ {K:Act→Prop}{seg:List Nat}{vs:List ig}(h:aQ L σ T st a w)(hm:uj P bU seg vs=true)(hp:ops rec env vs st=some st')(hK:∀ a' T',aQ L σ T' st' a' w→Still T T'→a'.defers=a.defers→aX st st'→K a'):wpQuiet P bU (Whole w) K (pick bU seg) a:=by
 simp only [uj,ZZ] at hm
 have hv:∀ v∈vs,v∈vs∧lY (core v)=false:=fun v hv=>⟨hv,by simpa using zt.1 hm.2 v hv⟩
 have hmono:=Eo (rec:=rec) (env:=env) (fun v h=>(hv v h).2) hp
 exact aaz (vs0:=vs) (fun T1 st1 st2 a1 o v _ _ hs hm _ hp=>Ol hs hm hp) hv (Still.refl T) h hm.1 hp fun a' T' g1 g2 g3=>hK a' T' g1 g2 g3 hmono
theorem Jq {v:ig}(hv:zo v=true):lY v=false:=by
 cases v<;>first|rfl|(simp [zo,Em] at hv)
def KQ (T:Tags)(w w':World):Prop:=w.heap.size≤w'.heap.size∧∀ b,b<w.heap.size→T b=.ro→w'.heap[b]?=w.heap[b]?
theorem bY.aiG (h:bY T T' w w1):KQ T w w1:=⟨h.size,h.same⟩
theorem Even.trans {T T' T'':Tags}(h:Even T T')(k:Even T' T''):Even T T'':=⟨h.still.trans k.still,fun b e=>h.back b (k.back b e)⟩
theorem Om {v:ig}(hv:zq v=true):lY v=false:=by
 cases v<;>first|rfl|(simp [zq] at hv)
theorem nZ:∀ {ok:Bool} {vs:List ig},lC ok vs=true→∀ v∈vs,lY (core v)=false
 |ok,[],_,v,hv=>by cases hv
 |ok,u::vs,h,v,hv=>by
  simp only [lC,Za9,ZZ] at h
  rcases ZaK.1 hv with rfl|hv
  ·rcases h with (h|h)|h
   ·exact Jq (by simp only [zo,h.1,Bool.true_or])
   ·exact Om h.1
   ·exact Jq h.1.2
  ·rcases h with (h|h)|h
   ·exact nZ h.2 v hv
   ·exact nZ h.2 v hv
   ·exact nZ h.2 v hv
theorem qR {S:World→Prop}(hS:∀ w',S w'→KQ T w w'){K:Act→Prop}:∀ {ok:Bool} {l:List Oper} {vs:List ig} {st:St} {T1:Tags} {a:Act},lC ok vs=true→(ok=true→Even T T1)→Still T T1→aQ L σ T1 st a w→mL P bU l vs=true→ops rec env vs st=some st' →
  (∀ a' T',aQ L σ T' st' a' w→Still T T'→a'.defers=a.defers→K a')→wpQuiet P bU S K l a
 |_,[],[],st,T1,a,_,_,ht,h,_,hp,hK=>by
  simp only [ops,ZS.injEq] at hp;subst hp
  exact hK _ _ h ht rfl
 |_,[],_::_,_,_,_,_,_,_,_,hm,_,_=>by simp [mL] at hm
 |_,_::_,[],_,_,_,_,_,_,_,hm,_,_=>by simp [mL] at hm
 |ok,o::l,v::vs,st,T1,a,hq,he,ht,h,hm,hp,hK=>by
  have hact:=nZ hq v (by simp)
  simp only [lC,Za9,ZZ] at hq
  simp only [mL,ZZ] at hm
  simp only [ops] at hp
  obtain ⟨st1,h1,h2⟩:=bind_some hp
  unfold wpQuiet
  rcases Cb h hm.1 h1 with ⟨g1,g2,g3⟩|⟨g1,g2⟩
  ·rw [if_pos g1]
   simp only [op1,hact] at g3
   rcases hq with (hq|hq)|hq
   ·obtain ⟨u,T2,k1,k2,k3⟩:=En h g2 hq.1 g3
    exact ⟨u,fun w' _=>by unfold Oper.quietAt;rw [k1 w'];exact ⟨rfl,rfl⟩,qR hS hq.2 (fun e=>(he e).trans k3) (ht.trans k3.still) k2 hm.2 h2 fun a' T' q1 q2 q3=>hK a' T' q1 q2 (q3.trans put_defers)⟩
   ·obtain ⟨u,T2,k1,k2,k3⟩:=Oj h g2 hq.1 g3
    exact ⟨u,fun w' _=>by unfold Oper.quietAt;rw [k1 w'];exact ⟨rfl,rfl⟩,qR hS hq.2 (fun e=>by cases e) (ht.trans k3) k2 hm.2 h2 fun a' T' q1 q2 q3=>hK a' T' q1 q2 (q3.trans put_defers)⟩
   ·obtain ⟨⟨q1,q2⟩,q3⟩:=hq
    have he:=he q1
    simp only [zo,Za9] at q2
    rcases q2 with q2|q2
    ·obtain ⟨u,T2,k1,k2,k3⟩:=En h g2 q2 g3
     exact ⟨u,fun w' _=>by unfold Oper.quietAt;rw [k1 w'];exact ⟨rfl,rfl⟩,qR hS q3 (fun _=>he.trans k3) (ht.trans k3.still) k2 hm.2 h2 fun a' T' q1 q2 q3=>hK a' T' q1 q2 (q3.trans put_defers)⟩
    ·generalize core v=u at g2 g3 q2
     cases u<;>simp only [zm] at q2
     rename_i d n x
     simp only [m1,ZZ,beq_iff_eq,mv] at g2
     obtain ⟨hd,hm'⟩:=g2
     split at hm'<;>try (cases hm';done)
     rename_i ho
     simp only [ZZ,beq_iff_eq] at hm'
     obtain ⟨b,u,k3,k4,k5,k6⟩:=Nz h hd ho hm'.1 hm'.2 g3
     exact ⟨u,fun w' hw'=>by unfold Oper.quietAt;rw [k3 w' ((hS w' hw').2 _ k5 (he.back _ k6))];exact ⟨rfl,rfl⟩,qR hS q3 (fun _=>he) ht k4 hm.2 h2 fun a' T' q1 q2 q3=>hK a' T' q1 q2 (q3.trans put_defers)⟩
  ·rw [if_neg (by rw [g1];simp)]
   rcases hq with (hq|hq)|hq
   ·exact qR hS hq.2 he ht g2 hm.2 h2 fun a' T' q1 q2 q3=>hK a' T' q1 q2 (q3.trans put_defers)
   ·exact qR hS hq.2 (fun e=>by cases e) ht g2 hm.2 h2 fun a' T' q1 q2 q3=>hK a' T' q1 q2 (q3.trans put_defers)
   ·exact qR hS hq.2 he ht g2 hm.2 h2 fun a' T' q1 q2 q3=>hK a' T' q1 q2 (q3.trans put_defers)
theorem afp {S:World→Prop}(hS:∀ w',S w'→KQ T w w'){K:Act→Prop}{l:List Oper}{vs:List ig}(h:aQ L σ T st a w)(hm:mL P bU l vs=true)(hq:lC true vs=true)(hp:ops rec env vs st=some st')(hK:∀ a' T',aQ L σ T' st' a' w→Still T T'→a'.defers=a.defers→aX st st'→K a'):wpQuiet P bU S K l a:=by
 have hmono:=Eo (rec:=rec) (env:=env) (nZ hq) hp
 exact qR hS hq (fun _=>Even.refl T) (Still.refl T) h hm hp fun a' T' g1 g2 g3=>hK a' T' g1 g2 g3 hmono
theorem yx (hW:kS F)(hC:C.Ok P L)(bg:gu P rec env)(h:aQ L σ T st a w)(hJ:C.J st.ys.length T w)(hst:st.stop=C.stop){i:Nat}(hm:mL P bU (pick bU [i]) [vo]=true)(hp:op rec env vo st=some st')(hX:st'.ys <+: C.X){R:Act→World→Prop}
  (hn:∀ a' w',After C L st.boxes.length σ T w st' a.defers a' w'→(Og vo=true→Whole w w')→R a' w'):wpListIn F n P bU (fun e a'' w''=>e=.normal∧R a'' w'') (pick bU [i]) a w:=by
 cases ho:bU[i]? with
 |none=>simp [pick,ho,mL] at hm
 |some o =>
  simp only [pick,List.filterMap_cons,ho,List.filterMap_nil,mL,ZZ] at hm ⊢
  simp only [wpListIn]
  exact aay hW hC bg h hJ hst hm.1 hp hX fun a' w' g1 g2=>⟨trivial,hn a' w' g1 g2⟩
theorem qU {v:ig}{vs:List ig}(h:ops rec env (v::vs) st=some st'):∃ st1,op rec env v st=some st1∧ops rec env vs st1=some st':=bind_some h
def RU (S2:World→Prop)(T:Tags)(w:World):World→Prop:=fun w'=>S2 w'∧KQ T w w'
theorem gI {S2:World→Prop}(CY:∀ T' w',bY T T' w w'→S2 w'):∀ T' w',bY T T' w w'→RU S2 T w w':=fun T' w' h=>⟨CY T' w' h,h.aiG⟩
theorem um {S2:World→Prop}{K:Act→Prop}{l:List Oper}{vs:List ig}(h:aQ L σ T st a w)(hm:mL P bU l vs=true)(hq:lC true vs=true)(hp:ops rec env vs st=some st')(hK:∀ a' T',aQ L σ T' st' a' w→Still T T'→a'.defers=a.defers→aX st st'→K a'):wpQuiet P bU (RU S2 T w) K l a:=by
 exact afp (fun _ h=>h.2) h hm hq hp hK
theorem KR (hW:kS F)(hC:C.Ok P L)(bg:gu P rec env)(hX:st'.ys <+: C.X){last:List Nat}:∀ {tl:List (List Nat×Nat)} {S2:World→Prop} {vs:List ig} {st:St} {σ:Nat→Nat} {T:Tags} {a:Act} {w:World},aQ L σ T st a w→(∀ T' w',bY T T' w w'→S2 w')→C.J st.ys.length T w→st.stop=C.stop→zu P bU last tl vs=true→ops rec env vs st=some st' →
  (∀ a' w',After C L st.boxes.length σ T w st' a.defers a' w'→Q a' w')→oG F n P bU Q last S2 tl a w
 |[],S2,vs,st,σ,T,a,w,h,CY,hJ,hst,hm,hp,hn=>by
  unfold oG
  simp only [zu,ZZ] at hm
  refine ⟨RU S2 T w,fun _ h=>h.1,gI CY T w (bY.refl T w),?_⟩
  refine um h hm.1 hm.2 hp fun a3 T3 q1 q2 q3 q4=>hn _ _ ?_
  rw [← q3]
  exact After.rJ hC q1 (by rw [q4.2.1];exact hJ) (q2.oC w) fun _ _=>rfl
 |(seg,i)::more,S2,vs,st,σ,T,a,w,h,CY,hJ,hst,hm,hp,hn=>by
  unfold oG
  simp only [zu,ZZ] at hm
  obtain ⟨⟨⟨hm1,hmu⟩,hmq⟩,hm2⟩:=hm
  split at hm2
  case h_2=>cases hm2
  rename_i v vs' hvs
  simp only [ZZ] at hm2
  obtain ⟨hm2,SI⟩:=hm2
  rw [← ZaP (Oh bU i seg).length vs,← ZaP (RS bU i seg).length (vs.drop (Oh bU i seg).length),hvs] at hp
  obtain ⟨st1,p1,p2⟩:=eG hp
  obtain ⟨st1',pu,p2⟩:=eG p2
  obtain ⟨st2,p2,p3⟩:=qU p2
  have gl:=fJ (rec:=rec) (env:=env) p3
  refine AQ h hm1 p1 fun a0 T0 f1 f2 f3 f4=>?_
  have yA:∀ T' w',bY T0 T' w w'→S2 w':=fun T' w' hw=>CY T' w' ((f2.oC w).stays.trans hw)
  refine ⟨RU S2 T0 w,fun _ h=>h.1,gI yA T0 w (bY.refl T0 w),?_⟩
  refine um f1 hmu hmq pu fun a1 T1 g1 g2e g3 g4'=>?_
  have g2':=g2e
  have g2:=f2.trans g2'
  have g4:=f4.trans g4'
  have hJ1:C.J st1'.ys.length T1 w:=by rw [g4.2.1];exact hC.keep _ _ _ _ _ (g2.oC w) hJ
  refine yx hW hC bg g1 hJ1 (g4.2.2.trans hst) hm2 p2 (gl.2.1.trans hX) ?_
  rintro a2 w2 ⟨σ2,T2,ms,k1,k2,k3,k4,k5,k6⟩ _
  have hs4:=((g2'.oC w).stays).trans k4
  have hn3:∀ T' w',bY T2 T' w2 w'→RU S2 T0 w w':=fun T' w' hw'=>gI yA T' w' (hs4.trans hw')
  refine ⟨hn3 _ _ (bY.refl _ _),KR hW hC bg hX k1 hn3 k2 (((iK p2).2.2.trans g4.2.2).trans hst) SI p3 fun a' w' hA=>hn _ _ ?_⟩
  exact After.trans (((g2.oC w).stays).trans k4) (fun k hk=>k3 k (Zan hk g4.1)) (by rw [k5,g3,f3]) k6 (Zaf g4.1 (iK p2).1) hA
theorem Tf (hW:kS F)(hC:C.Ok P L)(bg:gu P rec env)(hX:st'.ys <+: C.X){fin:Fin1}{last:List Nat}:∀ {acts:List (List Nat×Nat)} {S2:World→Prop} {vs:List ig} {st:St} {σ:Nat→Nat} {T:Tags} {a:Act} {w:World},aQ L σ T st a w→(∀ T' w',bY T T' w w'→S2 w')→C.J st.ys.length T w→st.stop=C.stop→yw P bU fin last acts vs=true→ops rec env vs st=some st' →
  (∀ a' w',After C L st.boxes.length σ T w st' a.defers a' w'→Q a' w')→qQ F n P bU Q (Whole w) S2 acts fin last a w
 |[],S2,vs,st,σ,T,a,w,h,CY,hJ,hst,hm,hp,hn=>by
  cases fin with
  |none =>
   unfold qQ
   simp only [yw] at hm
   refine AQ h hm hp fun a' T' g1 g2 g3 g4=>hn _ _ ?_
   rw [← g3]
   exact After.rJ hC g1 (by rw [g4.2.1];exact hJ) (g2.oC w) fun _ _=>rfl
  |some p =>
   obtain ⟨dX,dY,f,tl⟩:=p
   unfold qQ
   simp only [yw,ZZ] at hm
   obtain ⟨⟨⟨hm1,hmu⟩,hmq⟩,hm2⟩:=hm
   split at hm2
   case h_2=>cases hm2
   rename_i v vs' hvs
   simp only [ZZ] at hm2
   obtain ⟨hm2,SI⟩:=hm2
   rw [← ZaP dX.length vs,← ZaP dY.length (vs.drop dX.length),hvs] at hp
   obtain ⟨st1,p1,p2⟩:=eG hp
   obtain ⟨st1',pu,p2⟩:=eG p2
   obtain ⟨st2,p2,p3⟩:=qU p2
   have gl:=fJ (rec:=rec) (env:=env) p3
   refine AQ h hm1 p1 fun a0 T0 f1 f2 f3 f4=>?_
   have yA:∀ T' w',bY T0 T' w w'→S2 w':=fun T' w' hw=>CY T' w' ((f2.oC w).stays.trans hw)
   refine ⟨RU S2 T0 w,fun _ h=>h.1,gI yA T0 w (bY.refl T0 w),?_⟩
   refine um f1 hmu hmq pu fun a1 T1 g1 g2e g3 g4'=>?_
   have g2':=g2e
   have g2:=f2.trans g2'
   have g4:=f4.trans g4'
   have hJ1:C.J st1'.ys.length T1 w:=by rw [g4.2.1];exact hC.keep _ _ _ _ _ (g2.oC w) hJ
   refine yx hW hC bg g1 hJ1 (g4.2.2.trans hst) hm2 p2 (gl.2.1.trans hX) ?_
   rintro a2 w2 ⟨σ2,T2,ms,k1,k2,k3,k4,k5,k6⟩ _
   have hs4:=((g2'.oC w).stays).trans k4
   have hn3:∀ T' w',bY T2 T' w2 w'→RU S2 T0 w w':=fun T' w' hw'=>gI yA T' w' (hs4.trans hw')
   refine ⟨hn3 _ _ (bY.refl _ _),KR hW hC bg hX k1 hn3 k2 (((iK p2).2.2.trans g4.2.2).trans hst) SI p3 fun a' w' hA=>hn _ _ ?_⟩
   exact After.trans (((g2.oC w).stays).trans k4) (fun k hk=>k3 k (Zan hk g4.1)) (by rw [k5,g3,f3]) k6 (Zaf g4.1 (iK p2).1) hA
 |(seg,i)::more,S2,vs,st,σ,T,a,w,h,CY,hJ,hst,hm,hp,hn=>by
  unfold qQ
  simp only [yw,ZZ] at hm
  obtain ⟨⟨⟨hm1,hmu⟩,hmq⟩,hm2⟩:=hm
  split at hm2
  case h_2=>cases hm2
  rename_i v vs' hvs
  simp only [ZZ] at hm2
  obtain ⟨⟨hm2,SI⟩,hm4⟩:=hm2
  rw [← ZaP (lU bU fin seg).length vs,← ZaP (lu bU fin seg).length (vs.drop (lU bU fin seg).length),hvs] at hp
  obtain ⟨st1,p1,p2⟩:=eG hp
  obtain ⟨st1',pu,p2⟩:=eG p2
  obtain ⟨st2,p2,p3⟩:=qU p2
  have gl:=fJ (rec:=rec) (env:=env) p3
  refine AQ h hm1 p1 fun a0 T0 f1 f2 f3 f4=>?_
  have yA:∀ T' w',bY T0 T' w w'→S2 w':=fun T' w' hw=>CY T' w' ((f2.oC w).stays.trans hw)
  refine ⟨RU S2 T0 w,fun _ h=>h.1,gI yA T0 w (bY.refl T0 w),?_⟩
  refine um f1 hmu hmq pu fun a1 T1 g1 g2e g3 g4'=>?_
  have g2':=g2e
  have g2:=f2.trans g2'
  have g4:=f4.trans g4'
  have hJ1:C.J st1'.ys.length T1 w:=by rw [g4.2.1];exact hC.keep _ _ _ _ _ (g2.oC w) hJ
  refine yx hW hC bg g1 hJ1 (g4.2.2.trans hst) hm2 p2 (gl.2.1.trans hX) ?_
  rintro a2 w2 ⟨σ2,T2,ms,k1,k2,k3,k4,k5,k6⟩ hwh
  have hwh:=hwh SI
  have hs4:=((g2'.oC w).stays).trans k4
  have hn3:∀ T' w',bY T2 T' w2 w'→RU S2 T0 w w':=fun T' w' hw'=>gI yA T' w' (hs4.trans hw')
  refine ⟨Whole w2,fun w' hw'=>⟨Zaf hwh.1 hw'.1,fun b hb=>(hw'.2 b (Zan hb hwh.1)).trans (hwh.2 b hb)⟩,Whole.refl w2,hn3 _ _ (bY.refl _ _),?_⟩
  refine Tf hW hC bg hX k1 hn3 k2 (((iK p2).2.2.trans g4.2.2).trans hst) hm4 p3 fun a' w' hA=>hn _ _ ?_
  exact After.trans (((g2.oC w).stays).trans k4) (fun k hk=>k3 k (Zan hk g4.1)) (by rw [k5,g3,f3]) k6 (Zaf g4.1 (iK p2).1) hA
theorem Jr (T:Tags)(w:World):qE T w w.drew:=⟨ze _,fun _ _ _=>rfl⟩
theorem zx (T:Tags)(w:World):xW T T w w.drew:=⟨ze _,rfl,rfl,rfl,fun _ _ _=>rfl,fun _ h=>h,fun _ _ h=>h⟩
theorem Iu {id:Nat}{Q:Exit→Act→World→Prop}(hW:kS F)(hC:C.Ok P L)(bg:gu P rec env)(h:aQ L σ T st a w)(hJ:C.J st.ys.length T w)(hst:st.stop=C.stop)(hX:st'.ys <+: C.X){acts:List (List Nat×Nat)}{fin:Fin1}{last:List Nat}{vs:List ig}
  (hmo:P.follows .mixedOrders=true) (hnd:jQ bU=true) (hok:VE bU acts fin last=true) (hm:yw P bU fin last acts vs=true) (hp:ops rec env vs st=some st')
  (hn:∀ a' w',After C L st.boxes.length σ T w st' a.defers a' w'→Q .normal a' w'):(Code.region id bU true).wpIn F n P Q a w:=by
 refine CX (Whole w.drew) hW.fn hmo hnd hok (Whole.refl _) ?_
 refine Tf hW hC bg hX (h.sees (Jr T w)) (fun _ _ _=>trivial) (hC.keep _ _ _ _ _ (zx T w) hJ) hst hm hp fun a' w' hA=>hn _ _ ?_
 exact After.trans (ms:=[]) (zx T w).stays (fun _ _=>rfl) rfl Marks.nil (ze _) hA
end
theorem Ep (a:ByteArray):rZ a a=true:=by unfold rZ;exact beq_self_eq_true _
theorem KT {a b:ByteArray}(h:rZ a b=true):a=b:=by
 unfold rZ at h
 have h:=eq_of_beq h
 obtain ⟨a⟩:=a;obtain ⟨b⟩:=b
 simp only at h
 congr
 exact Array.toList_inj.1 h
mutual
theorem PV.jh:∀ x:PV,PV.same x x=true
 |.int k n=>by simp [PV.same]
 |.bool b=>by simp [PV.same]
 |.str s=>by simp [PV.same,Ep]
 |.list sz es=>by simp [PV.same,PV.fB es]
 |.agg cs=>by simp [PV.same,PV.fB cs]
 |.func f cs=>by simp [PV.same,PV.fB cs]
 |.pO=>by simp [PV.same]
 |.cu cs j=>by simp [PV.same,PV.fB cs]
 |.void=>by simp [PV.same]
 |.kZ s=>by simp [PV.same]
theorem PV.fB:∀ l:List PV,PV.jm l l=true
 |[]=>by simp [PV.jm]
 |x::xs=>by simp [PV.jm,PV.jh x,PV.fB xs]
end
mutual
theorem PV.same_eq:∀ x y:PV,PV.same x y=true→x=y
 |.int k n,y,h=>by cases y<;>simp_all [PV.same]
 |.bool b,y,h=>by cases y<;>simp_all [PV.same]
 |.str s,y,h=>by
  cases y<;>simp only [PV.same,zm] at h
  rw [KT h]
 |.list sz es,y,h=>by
  cases y<;>simp only [PV.same,zm,ZZ,beq_iff_eq] at h
  rw [h.1,PV.iT _ _ h.2]
 |.agg cs,y,h=>by
  cases y<;>simp only [PV.same,zm] at h
  rw [PV.iT _ _ h]
 |.func f cs,y,h=>by
  cases y<;>simp only [PV.same,zm,ZZ,beq_iff_eq] at h
  rw [h.1,PV.iT _ _ h.2]
 |.pO,y,h=>by cases y<;>simp_all [PV.same]
 |.cu cs j,y,h=>by
  cases y<;>simp only [PV.same,zm,ZZ,beq_iff_eq] at h
  rw [h.1,PV.iT _ _ h.2]
 |.void,y,h=>by cases y<;>simp_all [PV.same]
 |.kZ s,y,h=>by cases y<;>simp_all [PV.same]
theorem PV.iT:∀ l m:List PV,PV.jm l m=true→l=m
 |[],m,h=>by cases m<;>simp_all [PV.jm]
 |x::xs,m,h=>by
  cases m<;>simp only [PV.jm,zm,ZZ] at h
  rw [PV.same_eq _ _ h.1,PV.iT _ _ h.2]
end
mutual
theorem AV.jh:∀ x:AV,AV.same x x=true
 |.pv x=>by simp [AV.same,PV.jh]
 |.row sz es=>by simp [AV.same,PV.fB]
 |.ref r a b=>by simp [AV.same]
 |.aO o j=>by simp [AV.same]
 |.oz r i j=>by simp [AV.same]
 |.fn f cs=>by simp [AV.same,AV.fB cs]
 |.kE k l=>by simp [AV.same,AV.fB l]
 |.Dk sz es=>by simp [AV.same,PV.fB]
 |.pp o j=>by simp [AV.same]
 |.lV=>by simp [AV.same]
 |.any=>by simp [AV.same]
theorem AV.fB:∀ l:List AV,AV.jm l l=true
 |[]=>by simp [AV.jm]
 |x::xs=>by simp [AV.jm,AV.jh x,AV.fB xs]
end
mutual
theorem AV.same_eq:∀ x y:AV,AV.same x y=true→x=y
 |.pv x,y,h=>by
  cases y<;>simp only [AV.same,zm] at h
  rw [PV.same_eq _ _ h]
 |.row sz es,y,h=>by
  cases y<;>simp only [AV.same,zm,ZZ,beq_iff_eq] at h
  rw [h.1,PV.iT _ _ h.2]
 |.ref r a b,y,h=>by cases y<;>simp_all [AV.same]
 |.aO o j,y,h=>by cases y<;>simp_all [AV.same]
 |.oz r i j,y,h=>by cases y<;>simp_all [AV.same]
 |.fn f cs,y,h=>by
  cases y<;>simp only [AV.same,zm,ZZ,beq_iff_eq] at h
  rw [h.1,AV.iT _ _ h.2]
 |.kE k l,y,h=>by
  cases y<;>simp only [AV.same,zm,ZZ,beq_iff_eq] at h
  rw [h.1,AV.iT _ _ h.2]
 |.Dk sz es,y,h=>by
  cases y<;>simp only [AV.same,zm,ZZ,beq_iff_eq] at h
  rw [h.1,PV.iT _ _ h.2]
 |.pp o j,y,h=>by cases y<;>simp_all [AV.same]
 |.lV,y,h=>by cases y<;>simp_all [AV.same]
 |.any,y,h=>by cases y<;>simp_all [AV.same]
theorem AV.iT:∀ l m:List AV,AV.jm l m=true→l=m
 |[],m,h=>by cases m<;>simp_all [AV.jm]
 |x::xs,m,h=>by
  cases m<;>simp only [AV.jm,zm,ZZ] at h
  rw [AV.same_eq _ _ h.1,AV.iT _ _ h.2]
end
theorem BV.jh (x:BV):BV.same x x=true:=by cases x<;>simp [BV.same,PV.jh,PV.fB]
theorem BV.same_eq {x y:BV}(h:BV.same x y=true):x=y:=by
 cases x<;>cases y<;>simp only [BV.same,zm,ZZ,beq_iff_eq] at h
 ·rw [PV.same_eq _ _ h]
 ·rw [h.1,PV.iT _ _ h.2]
theorem nR {α:Type}{f:α→α→Bool}(hf:∀ x,f x x=true):∀ l,lX f l l=true
 |[]=>rfl
 |x::xs=>by simp [lX,hf x,nR hf xs]
theorem qV {α:Type}{f:α→α→Bool}(hf:∀ x y,f x y=true→x=y):∀ l m,lX f l m=true→l=m
 |[],m,h=>by cases m<;>simp_all [lX]
 |x::xs,m,h=>by
  cases m<;>simp only [lX,zm,ZZ] at h
  rw [hf _ _ h.1,qV hf _ _ h.2]
theorem Box.jh (x:Box):Box.same x x=true:=by simp [Box.same,nR BV.jh]
theorem Box.same_eq {x y:Box}(h:Box.same x y=true):x=y:=by
 obtain ⟨a,b⟩:=x;obtain ⟨c,d⟩:=y
 simp only [Box.same,ZZ,beq_iff_eq] at h
 rw [h.1,qV (fun _ _=>BV.same_eq) _ _ h.2]
theorem St.jh (s:St):s.same s=true:=by
 simp [St.same,AV.fB,nR Box.jh,nR PV.fB]
theorem St.same_eq {a b:St}(h:a.same b=true):a=b:=by
 obtain ⟨a1,a2,a3,a4⟩:=a;obtain ⟨b1,b2,b3,b4⟩:=b
 simp only [St.same,ZZ,decide_eq_true_eq] at h
 rw [AV.iT _ _ h.1,qV (fun _ _=>Box.same_eq) _ _ h.2.1,qV PV.iT _ _ h.2.2.1,h.2.2.2]
theorem Oo {s:St}:∀ {l:List (Option St)} {r:St},agree s l=some r→r=s∧∀ o∈l,o=some s
 |[],r,h=>by simp only [agree,ZS.injEq] at h;exact ⟨h.symm,by simp⟩
 |o::l,r,h=>by
  unfold agree at h
  obtain ⟨s',h1,h2⟩:=ZaF.1 h
  split at h2
  case isFalse=>cases h2
  rename_i hs
  have:=St.same_eq hs
  subst this
  obtain ⟨g1,g2⟩:=Oo h2
  exact ⟨g1,fun o' ho=>by rcases ZaK.1 ho with rfl|ho;exact h1;exact g2 o' ho⟩
def oH (p:Nat→Nat)(T:Tags):Tags:=fun b=>match T b with
 |.box o=>.box (p o)
 |.row r=>.row (r.ren p)
 |q=>q
section
variable {L:Nat}{σ:Nat→Nat}{T:Tags}{st st':St}{a:Act}{w:World}{p:Nat→Nat}
theorem AU {b:Nat}(h:T b=.ro):oH p T b=.ro:=by simp [oH,h]
theorem zy {b:Nat}(h:T b=.other):oH p T b=.other:=by simp [oH,h]
theorem Tj {b o:Nat}(h:T b=.box o):oH p T b=.box (p o):=by simp [oH,h]
theorem Tm {b:Nat}{r:Root}(h:T b=.row r):oH p T b=.row (r.ren p):=by simp [oH,h]
theorem Still.ren (p:Nat→Nat)(T:Tags):Still T (oH p T):=⟨fun _=>AU,fun _=>zy⟩
theorem aQ.ren (h:aQ L σ T st a w)(hp:∀ o,p (p o)=o)(h1:st'.slots=st.slots.map (AV.ren p))(h2:∀ o:Nat,st'.boxes[p o]?=st.boxes[o]?)(h3:∀ o,o<st.boxes.length→p o<st'.boxes.length) :
  aQ L (fun o=>σ (p o)) (oH p T) st' a w:=by
 have hw:∀ b,T b=.ro→b<w.heap.size→oH p T b=.ro∧w.heap[b]?=w.heap[b]?:=fun b e _=>⟨AU e,rfl⟩
 have hrow:∀ r sz es v,aV T w r sz es v→aV (oH p T) w (r.ren p) sz es v:=fun r sz es v hr=>hr.frame (fun b e _=>⟨Tm e,rfl⟩) hw
 have hget:∀ (t:Nat),st'.slots[t]?=(st.slots[t]?).map (AV.ren p):=fun t=>by rw [h1,zc]
 have apC:∀ (x:AV) sz es,x.ren p=.row sz es→x=.row sz es:=fun x sz es e=>by cases x<;>simp [AV.ren] at e ⊢<;>exact e
 have hr:∀ r sz es,st'.row (r.ren p)=some (sz,es)→st.row r=some (sz,es):=fun r sz es e=>by
  cases r with
  |slot t =>
   simp only [Root.ren,St.row,hget] at e ⊢
   cases hs:st.slots[t]? with
   |none=>rw [hs] at e;simp at e
   |some x =>
    rw [hs] at e
    simp only [Zae] at e
    split at e
    ·rename_i q;rw [apC x _ _ (ZS.inj q)];exact e
    ·cases e
  |part t i=>simp [Root.ren,St.row] at e
  |cell o j=>simp only [Root.ren,St.row,h2] at e ⊢;exact e
 have hh:∀ r,hdr (fun o=>σ (p o)) a w (r.ren p)=hdr σ a w r:=fun r=>by cases r<;>simp [hdr,Root.ren,hp]
 have hlow:∀ r:Root,r.low st.boxes.length→(r.ren p).low st'.boxes.length:=fun r hl=>by cases r<;>simp only [Root.low,Root.ren] at hl ⊢;exact h3 _ hl
 refine ⟨by simp [h1,h.size],fun t av v ht hv=>?_,fun o bx ho=>?_,fun b hb=>zy (h.fresh b hb)⟩
 ·rw [hget] at ht
  obtain ⟨x,hx,rfl⟩:=Zao.1 ht
  have g:=h.slots t x v hx hv
  cases x with
  |pv y=>exact aG.frame hw g
  |row sz es=>exact hrow _ _ _ _ g
  |ref r off len=>exact ⟨hlow r g.1,fun sz es e=>by rw [hh];exact g.2 sz es (hr r sz es e)⟩
  |aO o j=>exact ⟨h3 o g.1,by rw [g.2];simp [hp]⟩
  |oz r i j=>exact ⟨hlow r g.1,fun sz es e=>by rw [hh];exact g.2 sz es (hr r sz es e)⟩
  |fn f caps =>
   obtain ⟨arr,e1,e2,e3⟩:=g
   refine ⟨arr,e1,by simpa using e2,fun k y u hy hu=>?_⟩
   rw [zc] at hy
   obtain ⟨z,hz,rfl⟩:=Zao.1 hy
   have g:=e3 k z u hz hu
   cases z<;>simp only [iw,ZW] at g ⊢
   case pv=>exact aG.frame hw g
   case aO o j=>exact ⟨h3 o g.1,by rw [g.2];simp [hp]⟩
  |kE k l =>
   obtain ⟨arr,e1,e2,e3⟩:=g
   refine ⟨arr,e1,e2,fun k y u hy hu=>?_⟩
   have g:=e3 k y u hy hu
   cases y<;>simp only [iQ] at g ⊢
   case pv=>exact aG.frame hw g
   case row sz es=>exact hrow _ _ _ _ g
  |Dk sz es=>exact ⟨aG.frame hw g.1,g.2⟩
  |pp o j =>
   obtain ⟨g0,b,E,e1,e2,e3⟩:=g
   have:=hw b e2 (zw.1 e3).1
   exact ⟨h3 o g0,b,E,e1,this.1,by simpa [hp] using e3⟩
  |lV=>exact g
  |any=>trivial
 ·have ho':st.boxes[p o]?=some bx:=by rw [← h2,hp];exact ho
  obtain ⟨arr,E,g1,g2,g3,g4,g5⟩:=h.boxes (p o) bx ho'
  refine ⟨arr,E,g1,g2,?_,g4,fun j bv u hj hu=>?_⟩
  ·split at g3
   ·rename_i e;rw [if_pos e];exact AU g3
   ·rename_i e;rw [if_neg e,Tj g3,hp]
  ·obtain ⟨k1,k2⟩:=g5 j bv u hj hu
   refine ⟨k1,?_⟩
   cases bv with
   |pv x=>exact aG.frame hw k2
   |row sz es =>
    have:=hrow _ _ _ _ k2
    have e:(Root.cell (p o) j).ren p=.cell o j:=by simp [Root.ren,hp]
    rw [e] at this
    exact this
theorem Tq (m o:Nat):swapAt m (swapAt m o)=o:=by
 unfold swapAt
 split<;>split<;>simp_all<;>omega
theorem aQ.swap2 (h:aQ L σ T st a w){nb:Nat}(hs:st.swap2 nb=some st'):∃ σ' T',aQ L σ' T' st' a w∧Still T T'∧(∀ k,k<nb→σ' k=σ k)∧st'.ys=st.ys∧st'.stop=st.stop∧st'.boxes.length=st.boxes.length:=by
 unfold St.swap2 at hs
 split at hs
 case isFalse=>cases hs
 rename_i hn
 have hs:=ZS.inj hs
 have hlen:st'.boxes.length=st.boxes.length:=by rw [← hs];simp;omega
 refine ⟨_,_,h.ren (p:=swapAt (st.boxes.length - 2)) (Tq _) (by rw [← hs]) (fun o=>?_) (fun o ho=>?_),Still.ren _ _,fun k hk=>?_,by rw [← hs],by rw [← hs],hlen⟩
 ·have hb:st'.boxes=st.boxes.take (st.boxes.length - 2)++(st.boxes.drop (st.boxes.length - 1)++(st.boxes.drop (st.boxes.length - 2)).take 1):=by rw [← hs]
  rw [hb]
  generalize hm:st.boxes.length - 2=m
  have hl:st.boxes.length=m+2:=by omega
  rw [show st.boxes.length - 1=m+1 by omega]
  have hd:st.boxes.drop m=[st.boxes[m],st.boxes[m+1]]:=by
   rw [zr (by omega),zr (by omega),Za7 (by omega)]
  have hd1:st.boxes.drop (m+1)=[st.boxes[m+1]]:=by
   rw [zr (by omega),Za7 (by omega)]
  rw [hd,hd1]
  have htl:(st.boxes.take m).length=m:=by simp;omega
  by_cases h1:o=m
  ·subst h1
   rw [show swapAt o o=o+1 by simp [swapAt],Zab (by omega),htl]
   simp [ZD (show o<st.boxes.length by omega)]
  ·by_cases h2:o=m+1
   ·subst h2
    rw [show swapAt m (m+1)=m by simp [swapAt],Zab (by omega),htl]
    simp [ZD (show m+1<st.boxes.length by omega)]
   ·rw [show swapAt m o=o by simp [swapAt,h1,h2]]
    rcases ZaJ o m with h|h
    ·rw [Zac (by omega),Zak,if_pos h]
    ·rw [Zab (by omega),htl,ZaO (by simp;omega),ZaO (by omega)]
 ·rw [hlen]
  unfold swapAt
  split
  ·omega
  ·split<;>omega
 ·have:swapAt (st.boxes.length - 2) k=k:=by
   unfold swapAt
   rw [if_neg (by omega),if_neg (by omega)]
  rw [this]
end
def iD.tail (j:Nat)(z:iD):Option iD:=match z.acts with
 |(_,i)::more=>if i=j then some { z with acts:=more } else none
 |[]=>none
def tails (j:Nat)(alts:List iD):List iD:=alts.filterMap (iD.tail j)
def Dt (seg:List Nat)(z:iD):Bool:=match z.acts with
 |(s,_)::_=>s==seg
 |[]=>false
def KU (r:List Nat)(z:iD):Bool:=match z.acts with
 |(_,i)::_=>r.contains i
 |[]=>false
def aaA (z:iD):Option iD:=match z.acts,z.fin with
 |[],some (_,_,_,tl)=>some { z with acts:=tl,fin:=none }
 |_,_=>none
def vO (ops:Array Oper)(f:Nat):Nat→Nat→List iD→Array Bool→Bool
 |0,k,alts,l=>match alts with
  |[x]=>BZ ops f x.last x.acts l&&gG x.last x.acts==k
  |_=>false
 |m+1,k,alts,l=>match alts with
  |[]=>false
  |[x]=>BZ ops f x.last x.acts l&&gG x.last x.acts==k
  |x::y::zs=>match x.acts with
   |[]=>false
   |(seg,i)::_=>(x::y::zs).all (Dt seg)&&(seg.all (fun j=>f != j)&&Oh ops i seg==[])&&decide (seg.length+1≤k)&&match dG ops seg l with
    |some l1=>!(Region.ready .any ops l1).isEmpty&&(x::y::zs).all (KU (Region.ready .any ops l1))&&(Region.ready .any ops l1).all fun j=>f != j&&vO ops f m (k - 1 - seg.length) (tails j (x::y::zs)) (l1.setIfInBounds j true)
    |none=>false
def Es (dX dY:List Nat)(g:Nat)(z:iD):Bool:=match z.acts with
 |[]=>match z.fin with
  |some (a,b,c,_)=>a==dX&&b==dY&&c==g
  |none=>false
 |(s,_)::_=>s==dX++dY
def VF (r:List Nat)(z:iD):Bool:=match z.acts with
 |(_,i)::_=>r.contains i
 |[]=>true
def uX (ops:Array Oper)(f:Nat):Nat→Nat→List iD→Array Bool→Bool
 |0,k,alts,l=>match alts with
  |[x]=>jY ops x.fin==f&&jg x.acts x.fin x.last==k&&KP ops x.acts x.fin x.last l
  |_=>false
 |m+1,k,alts,l=>match alts with
  |[]=>false
  |[x]=>jY ops x.fin==f&&jg x.acts x.fin x.last==k&&KP ops x.acts x.fin x.last l
  |x::y::zs=>match x.acts with
   |[]=>match x.fin with
    |none=>false
    |some (dX,dY,g,tl)=>(y::zs).all (Es dX dY g)&&(x::y::zs).all (fun z=>jY ops z.fin==f&&z.fin.isSome==x.fin.isSome)&&Oi ops x.fin (dX++dY)&&(lU ops x.fin (dX++dY)==dX&&lu ops x.fin (dX++dY)==dY)&&decide (dX.length+dY.length+1≤k)&&match (dG ops dX l).bind (dG ops dY) with
     |some l1=>!(Region.ready .any ops l1).isEmpty&&(y::zs).all (VF (Region.ready .any ops l1))&&(Region.ready .any ops l1).contains g&&(Region.ready .any ops l1).all fun j=>if j=g then vO ops f m (k - 1 - (dX.length+dY.length)) ((x::y::zs).filterMap aaA) (l1.setIfInBounds j true) else uX ops f m (k - 1 - (dX.length+dY.length)) (tails j (y::zs)) (l1.setIfInBounds j true)
     |none=>false
   |(seg,_)::_=>(x::y::zs).all (Dt seg)&&(x::y::zs).all (fun z=>jY ops z.fin==f&&z.fin.isSome==x.fin.isSome)&&Oi ops x.fin seg&&decide (seg.length+1≤k)&&match (dG ops (lU ops x.fin seg) l).bind (dG ops (lu ops x.fin seg)) with
    |some l1=>!(Region.ready .any ops l1).isEmpty&&(x::y::zs).all (KU (Region.ready .any ops l1))&&(Region.ready .any ops l1).all fun j=>uX ops f m (k - 1 - seg.length) (tails j (x::y::zs)) (l1.setIfInBounds j true)
    |none=>false
def iZ (last:List Nat):List (List Nat×Nat)→List Nat
 |[]=>last
 |(seg,i)::more=>seg++(i::iZ last more)
def aiH (last:List Nat):Fin1→List Nat
 |none=>last
 |some (dX,dY,f,tl)=>dX++(dY++(f::iZ last tl))
def jc (fin:Fin1)(last:List Nat):List (List Nat×Nat)→List Nat
 |[]=>aiH last fin
 |(seg,i)::more=>seg++(i::jc fin last more)
def Tt (P:Program)(ops:Array Oper)(vo:List ig)(alts:List iD):Bool :=
 Region.noSelect ops&&(alts.all fun x=>x.ord==jc x.fin x.last x.acts&&yw P ops x.fin x.last x.acts (bM vo x.ord))&&match alts with
  |[]=>false
  |x::_=>uX ops (jY ops x.fin) ops.size ops.size alts (ZaV ops.size false)
section
variable {F:Fence}{n:Nat}{P:Program}{ops:Array Oper}{Q:Act→World→Prop}{f:Nat}
def rO (F:Fence)(n:Nat)(P:Program)(ops:Array Oper)(Q:Act→World→Prop):Nat→(World→Prop)→List iD→Act→World→Prop
 |0,S2,alts,a,w=>match alts with
  |[x]=>oG F n P ops Q x.last S2 x.acts a w
  |_=>False
 |m+1,S2,alts,a,w=>match alts with
  |[]=>False
  |[x]=>oG F n P ops Q x.last S2 x.acts a w
  |x::y::zs=>match x.acts with
   |[]=>False
   |(seg,_)::_=>∃ S3:World→Prop,(∀ w,S3 w→S2 w)∧S3 w∧wpQuiet P ops S3 (fun a'=>∀ j,(tails j (x::y::zs))≠[]→wpListIn F n P ops (fun e a'' w''=>e=.normal∧S3 w''∧rO F n P ops Q m S3 (tails j (x::y::zs)) a'' w'') (pick ops [j]) a' w) (pick ops seg) a
def vP (F:Fence)(n:Nat)(P:Program)(ops:Array Oper)(Q:Act→World→Prop):Nat→(World→Prop)→(World→Prop)→List iD→Act→World→Prop
 |0,S,S2,alts,a,w=>match alts with
  |[x]=>qQ F n P ops Q S S2 x.acts x.fin x.last a w
  |_=>False
 |m+1,S,S2,alts,a,w=>match alts with
  |[]=>False
  |[x]=>qQ F n P ops Q S S2 x.acts x.fin x.last a w
  |x::y::zs=>match x.acts with
   |[]=>match x.fin with
    |none=>False
    |some (dX,dY,g,tl)=>wpQuiet P ops S (fun a0=>∃ S3:World→Prop,(∀ w,S3 w→S2 w)∧S3 w∧wpQuiet P ops S3 (fun a'=>wpListIn F n P ops (fun e a'' w''=>e=.normal∧S3 w''∧rO F n P ops Q m S3 ((x::y::zs).filterMap aaA) a'' w'') (pick ops [g]) a' w∧∀ j,j≠g→(tails j (y::zs))≠[]→wpListIn F n P ops (fun e a'' w''=>e=.normal∧∃ S':World→Prop,(∀ w,S' w→S w)∧S' w''∧S3 w''∧vP F n P ops Q m S' S3 (tails j (y::zs)) a'' w'') (pick ops [j]) a' w) (pick ops dY) a0) (pick ops dX) a
   |(seg,_)::_=>wpQuiet P ops S (fun a0=>∃ S3:World→Prop,(∀ w,S3 w→S2 w)∧S3 w∧wpQuiet P ops S3 (fun a'=>∀ j,(tails j (x::y::zs))≠[]→wpListIn F n P ops (fun e a'' w''=>e=.normal∧∃ S':World→Prop,(∀ w,S' w→S w)∧S' w''∧S3 w''∧vP F n P ops Q m S' S3 (tails j (x::y::zs)) a'' w'') (pick ops [j]) a' w) (pick ops (lu ops x.fin seg)) a0) (pick ops (lU ops x.fin seg)) a
theorem VG {m k:Nat}{l:Array Bool}{alts:List iD}(h:uX ops f m k alts l=true):alts≠[]:=by
 rintro rfl
 cases m<;>simp [uX] at h
theorem Js {x y:Fin1}(h1:jY ops x=jY ops y)(h2:x.isSome=y.isSome):qh ops x=qh ops y:=by
 cases x<;>cases y<;>simp only [Option.isSome_none,Option.isSome_some,zm,Bool.true_eq_false] at h2
 ·rfl
 ·simp only [jY] at h1
  funext i
  simp only [qh,h1]
theorem afr {m k:Nat}{l:Array Bool}{alts:List iD}(h:vO ops f m k alts l=true):alts≠[]:=by
 rintro rfl
 cases m<;>simp [vO] at h
theorem Tv {S:World→Prop}(hF:∀ f,F.fn f)(hnd:jQ ops=true)(hsel:Region.noSelect ops=true):∀ (m:Nat) (alts:List iD) (k:Nat) (S2:World→Prop) (l:Array Bool) (a:Act) (w:World),l.size=ops.size→Closed ops l→l.getD f false=true→S2 w→vO ops f m k alts l=true →
  rO F n P ops Q m S2 alts a w→iR F n P ops S S2 f Q k l a w:=by
 have one:∀ (x:iD) (k:Nat) (S2:World→Prop) (l:Array Bool) (a:Act) (w:World),l.size=ops.size→Closed ops l→l.getD f false=true→S2 w→(BZ ops f x.last x.acts l&&gG x.last x.acts==k)=true→oG F n P ops Q x.last S2 x.acts a w→iR F n P ops S S2 f Q k l a w:=fun x k S2 l a w hs hc hf hS2 hB h=>by
  simp only [ZZ,beq_iff_eq] at hB
  obtain ⟨h1,h2⟩:=hB
  subst h2
  exact yu hF hnd hsel _ S2 _ _ _ hs hc hf hS2 h1 h
 intro m
 induction m with
 |zero =>
  intro alts k S2 l a w hs hc hf hS2 hB h
  match alts,hB,h with
  |[x],hB,h=>exact one x k S2 l a w hs hc hf hS2 (by simpa only [vO] using hB) (by simpa only [rO] using h)
  |[],hB,_=>simp [vO] at hB
  |_::_::_,hB,_=>simp [vO] at hB
 |succ m ih =>
  intro alts k S2 l a w hs hc hf hS2 hB h
  match alts,hB,h with
  |[],hB,_=>simp [vO] at hB
  |[x],hB,h=>exact one x k S2 l a w hs hc hf hS2 (by simpa only [vO] using hB) (by simpa only [rO] using h)
  |x::y::zs,hB,h =>
   simp only [vO] at hB
   simp only [rO] at h
   generalize ha:x.acts=acts at hB h
   match acts,hB,h with
   |[],hB,_=>cases hB
   |(seg,i)::more,hB,h =>
    simp only [ZZ,decide_eq_true_eq,beq_iff_eq] at hB h
    obtain ⟨⟨⟨_,hseg,_⟩,hk⟩,hB⟩:=hB
    obtain ⟨S3,hS3,hw3,h⟩:=h
    split at hB
    case h_2=>cases hB
    rename_i l1 hq
    simp only [ZZ,ZaR,Zba] at hB
    obtain ⟨⟨hne,_⟩,hall⟩:=hB
    refine fA (S':=S) (S2':=S3) (fun _ h=>h) hS3 _ _ _ _ ?_
    have hf1:=mD (f:=f) _ l l1 hs hq hf
    have:=eY (F:=F) (n:=n) (P:=P) (S:=S) (Q:=Q) (f:=f) hF hnd hsel (S2:=S3) (T:=S3) (w:=w) seg (k - 1 - seg.length+1) l l1 a hs hc ⟨.inl hf,hw3⟩
     (fun i hi=>⟨by have:=zt.1 hseg i hi;simpa using this,fun _ _ _ _ _ _ h=>h.2⟩) hq (fun _ _ _=>trivial) (dL (fun a' h' hs1 hc1 _=>by
      refine ⟨fun h0=>absurd h0 hne,fun j hj=>?_⟩
      have hcov:=zt.1 hall j hj
      simp only [ZZ] at hcov
      have hf2:(l1.setIfInBounds j true).getD f false=true:=by
       rw [jd _ _ _ (iM hs1 hj)]
       split
       ·rfl
       ·exact hf1
      exact xR hF (fun a2 w2 h2=>⟨⟨.inl hf2,h2.1⟩,ih _ _ S3 _ _ _ (by simpa using hs1) (hc1.set hs1 hj) hf2 h2.1 hcov.2 h2.2⟩) (h' j (afr hcov.2))) _ _ h)
    rw [show k - 1 - seg.length+1+seg.length=k by omega] at this
    exact this
theorem XQ (hF:∀ f,F.fn f)(hnd:jQ ops=true)(hsel:Region.noSelect ops=true):∀ (m:Nat) (alts:List iD) (k:Nat) (S S2:World→Prop) (l:Array Bool) (a:Act) (w:World),l.size=ops.size→Closed ops l→uX ops f m k alts l=true→S w→S2 w →
  vP F n P ops Q m S S2 alts a w→iR F n P ops S S2 f Q k l a w:=by
 have one:∀ (x:iD) (k:Nat) (S S2:World→Prop) (l:Array Bool) (a:Act) (w:World),l.size=ops.size→Closed ops l→(jY ops x.fin==f&&jg x.acts x.fin x.last==k&&KP ops x.acts x.fin x.last l)=true→S w→S2 w→qQ F n P ops Q S S2 x.acts x.fin x.last a w→iR F n P ops S S2 f Q k l a w:=fun x k S S2 l a w hs hc hB hS hS2 h=>by
  simp only [ZZ,beq_iff_eq] at hB
  obtain ⟨⟨h1,h2⟩,h3⟩:=hB
  subst h1;subst h2
  exact AO hF hnd hsel x.acts S S2 l a w hs hc h3 hS hS2 h
 intro m
 induction m with
 |zero =>
  intro alts k S S2 l a w hs hc hB hS hS2 h
  match alts,hB,h with
  |[x],hB,h=>exact one x k S S2 l a w hs hc (by simpa only [uX] using hB) hS hS2 (by simpa only [vP] using h)
  |[],hB,_=>simp [uX] at hB
  |_::_::_,hB,_=>simp [uX] at hB
 |succ m ih =>
  intro alts k S S2 l a w hs hc hB hS hS2 h
  match alts,hB,h with
  |[],hB,_=>simp [uX] at hB
  |[x],hB,h=>exact one x k S S2 l a w hs hc (by simpa only [uX] using hB) hS hS2 (by simpa only [vP] using h)
  |x::y::zs,hB,h =>
   simp only [uX] at hB
   simp only [vP] at h
   generalize ha:x.acts=acts at hB h
   match acts,hB,h with
   |[],hB,h =>
    generalize hxf:x.fin=fin at hB h
    match fin,hxf,hB,h with
    |none,_,hB,_=>cases hB
    |some (dX,dY,g,tl),hxf,hB,h =>
     simp only [ZZ,decide_eq_true_eq,beq_iff_eq] at hB h
     obtain ⟨⟨⟨⟨⟨_,hfs⟩,hsg⟩,hsA,hsB⟩,hk⟩,hB⟩:=hB
     have hfx:jY ops (some (dX,dY,g,tl))=f:=by
      have:=zt.1 hfs x (by simp)
      simp only [ZZ,beq_iff_eq] at this
      rw [← hxf];exact this.1
     have hg:g=f:=hfx
     split at hB
     case h_2=>cases hB
     rename_i l1 hq
     obtain ⟨l0,hq0,hq1⟩:=ZaF.1 hq
     simp only [ZZ,ZaR,Zba] at hB
     obtain ⟨⟨⟨hne,_⟩,_⟩,hall⟩:=hB
     have hA:=SY (S:=S) (S2:=S2) hsg
     rw [hfx,hsA] at hA
     have:=eY (F:=F) (n:=n) (P:=P) (S:=S) (Q:=Q) (f:=f) (S2:=S2) hF hnd hsel (T:=S) (w:=w) dX (k - 1 - (dX.length+dY.length)+1+dY.length) l l0 a hs hc ⟨.inr hS,hS2⟩ hA hq0 (fun _ _ _=>trivial) (dL (fun a0 h0 hs0 hc0 hS0=>by
       obtain ⟨S3,hS3,hw3,h0⟩:=h0
       refine fA (S':=S) (S2':=S3) (fun _ h=>h) hS3 _ _ _ _ ?_
       have hBt:=S9 (S:=S) (S2:=S3) hsg
       rw [hfx,hsB] at hBt
       refine eY (F:=F) (n:=n) (P:=P) (S:=S) (Q:=Q) (f:=f) (S2:=S3) hF hnd hsel (T:=S3) (w:=w) dY (k - 1 - (dX.length+dY.length)+1) l0 l1 a0 hs0 hc0 ⟨hS0.1,hw3⟩ hBt hq1 (fun _ _ _=>trivial) (dL (fun a' h' hs1 hc1 _=>by
        refine ⟨fun h0=>absurd h0 hne,fun j hj=>?_⟩
        have hcov:=zt.1 hall j hj
        by_cases hjg:j=g
        ·rw [if_pos hjg] at hcov
         have hjf:j=f:=hjg.trans hg
         have hf1:(l1.setIfInBounds j true).getD f false=true:=by rw [jd _ _ _ (iM hs1 hj),if_pos hjf]
         have h1:=h'.1
         rw [← hjg] at h1
         exact xR hF (fun a2 w2 h3=>⟨⟨.inl hf1,h3.1⟩,Tv hF hnd hsel _ _ _ S3 _ _ _ (by simpa using hs1) (hc1.set hs1 hj) hf1 h3.1 hcov h3.2⟩) h1
        ·rw [if_neg hjg] at hcov
         refine xR hF (fun a2 w2 h2=>?_) (h'.2 j hjg (VG hcov))
         obtain ⟨S',k1,k2,k3,k4⟩:=h2
         exact ⟨⟨.inr (k1 _ k2),k3⟩,fA k1 (fun _ h=>h) _ _ _ _ (ih _ _ S' S3 _ _ _ (by simpa using hs1) (hc1.set hs1 hj) hcov k2 k3 k4)⟩) _ _ h0)) _ _ h)
     rw [show k - 1 - (dX.length+dY.length)+1+dY.length+dX.length=k by omega] at this
     exact this
   |(seg,i0)::more,hB,h =>
    simp only [ZZ,decide_eq_true_eq] at hB h
    obtain ⟨⟨⟨⟨_,hfs⟩,hsg⟩,hk⟩,hB⟩:=hB
    have hfx:jY ops x.fin=f:=by
     have:=zt.1 hfs x (by simp)
     simp only [ZZ,beq_iff_eq] at this
     exact this.1
    split at hB
    case h_2=>cases hB
    rename_i l1 hq
    obtain ⟨l0,hq0,hq1⟩:=ZaF.1 hq
    simp only [ZZ,ZaR,Zba] at hB
    obtain ⟨⟨hne,_⟩,hall⟩:=hB
    have hA:=SY (S:=S) (S2:=S2) hsg
    rw [hfx] at hA
    have:=eY (F:=F) (n:=n) (P:=P) (S:=S) (Q:=Q) (f:=f) (S2:=S2) hF hnd hsel (T:=S) (w:=w) (lU ops x.fin seg) (k - 1 - seg.length+1+(lu ops x.fin seg).length) l l0 a hs hc ⟨.inr hS,hS2⟩ hA hq0 (fun _ _ _=>trivial) (dL (fun a0 h0 hs0 hc0 hS0=>by
      obtain ⟨S3,hS3,hw3,h0⟩:=h0
      refine fA (S':=S) (S2':=S3) (fun _ h=>h) hS3 _ _ _ _ ?_
      have hBt:=S9 (S:=S) (S2:=S3) hsg
      rw [hfx] at hBt
      refine eY (F:=F) (n:=n) (P:=P) (S:=S) (Q:=Q) (f:=f) (S2:=S3) hF hnd hsel (T:=S3) (w:=w) (lu ops x.fin seg) (k - 1 - seg.length+1) l0 l1 a0 hs0 hc0 ⟨hS0.1,hw3⟩ hBt hq1 (fun _ _ _=>trivial) (dL (fun a' h' hs1 hc1 _=>by
       refine ⟨fun h0=>absurd h0 hne,fun j hj=>?_⟩
       have hcov:=zt.1 hall j hj
       refine xR hF (fun a2 w2 h2=>?_) (h' j (VG hcov))
       obtain ⟨S',k1,k2,k3,k4⟩:=h2
       exact ⟨⟨.inr (k1 _ k2),k3⟩,fA k1 (fun _ h=>h) _ _ _ _ (ih _ _ S' S3 _ _ _ (by simpa using hs1) (hc1.set hs1 hj) hcov k2 k3 k4)⟩) _ _ h0)) _ _ h)
    have e:=ahQ (ops:=ops) x.fin seg
    have e:k - 1 - seg.length+1+(lu ops x.fin seg).length+(lU ops x.fin seg).length=k:=by omega
    rw [e] at this
    exact this
theorem CZ {id:Nat}{l:Array Oper}{a:Act}{w:World}{Q:Exit→Act→World→Prop}(S:World→Prop){alts:List iD}{f m:Nat}(hF:∀ f,F.fn f)(hm:P.follows .mixedOrders=true)
  (hnd:jQ l=true) (hsel:Region.noSelect l=true) (hB:uX l f m l.size alts (ZaV l.size false)=true) (hS:S w.drew) (h:vP F n P l (Q .normal) m S (fun _=>True) alts a w.drew):(Code.region id l true).wpIn F n P Q a w:=by
 refine Code.wpIn_mono (Q:=dK (Q .normal)) (fun e a w h=>by obtain ⟨rfl,h⟩:=h;exact h) (wpIn_region_any hm ?_)
 exact yt _ _ _ _ (XQ hF hnd hsel m alts l.size S (fun _=>True) (ZaV l.size false) a _ (by simp) (fun m o hm=>absurd hm (by rw [Zax,ZcL];split<;>simp)) hB hS trivial h)
end
section
variable {P:Program}{F:Fence}{C:Ctx}{n L nb:Nat}{σ σ':Nat→Nat}{T T' T1 T2:Tags}{st st' st1:St}{a a1:Act}{w w1:World}{vo:List ig}{keep:List Nat}
 {rec:aj→St→Option (Ex×St)} {env:Env} {Q:Act→World→Prop} {bU:Array Oper} {ds:List Deferred}
theorem aQ.head (h:aQ L σ T st a w){keep:List Nat}(hh:st.head keep nb=some st'):aQ L σ T st' a w∧st'.boxes.length=nb∧st'.ys=st.ys∧st'.stop=st.stop∧nb≤st.boxes.length:=by
 unfold St.head at hh
 simp only at hh
 split at hh
 case isFalse=>cases hh
 rename_i hc
 have hh:=ZS.inj hh
 simp only [ZZ,decide_eq_true_eq] at hc
 obtain ⟨hlow,hnb⟩:=hc
 subst hh
 have hget:∀ (t:Nat) av,((st.slots.zipIdx.map fun (v,i)=>if keep.contains i then v else .any))[t]?=some av→av=.any∨(st.slots[t]?=some av∧av.low nb=true):=fun t av hav=>by
  have hm:=zt.1 hlow av (Zad hav)
  simp only [zc,List.getElem?_zipIdx] at hav
  cases e:st.slots[t]? with
  |none=>rw [e] at hav;cases hav
  |some v =>
   rw [e] at hav
   simp only [Zae,ZS.injEq] at hav
   split at hav
   ·subst hav;exact .inr ⟨rfl,hm⟩
   ·exact .inl hav.symm
 have hlen:({ st with slots:=st.slots.zipIdx.map fun (v,i)=>if keep.contains i then v else .any,boxes:=st.boxes.take nb }:St).boxes.length=nb:=by simp;omega
 have hrow:∀ r sz es,({ st with slots:=st.slots.zipIdx.map fun (v,i)=>if keep.contains i then v else .any,boxes:=st.boxes.take nb }:St).row r=some (sz,es)→st.row r=some (sz,es):=fun r sz es hr=>by
  cases r with
  |slot t =>
   have h1:=fF hr
   rcases hget t _ h1 with e|⟨e,_⟩
   ·cases e
   ·simp [St.row,e]
  |cell o j =>
   obtain ⟨bx,h1,h2,h3⟩:=dM hr
   simp only [Zak] at h1
   split at h1
   ·simp [St.row,h1,h2,h3]
   ·cases h1
  |part t i=>simp [St.row] at hr
 refine ⟨⟨by simpa using h.size,fun t av v ht hv=>?_,fun o bx ho=>?_,h.fresh⟩,hlen,rfl,rfl,hnb⟩
 ·rcases hget t av ht with e|⟨e,hl⟩
  ·subst e;trivial
  ·have hA:=h.slots t av v e hv
   cases av with
   |pv x=>exact hA
   |row sz es=>exact hA
   |ref r off len =>
    refine ⟨?_,fun sz es hr=>hA.2 sz es (hrow r sz es hr)⟩
    cases r<;>simp only [Root.low]<;>simpa [AV.low,hlen,hnb] using hl
   |aO o j=>exact ⟨by rw [hlen];simpa [AV.low] using hl,hA.2⟩
   |oz r i j =>
    refine ⟨?_,fun sz es hr=>hA.2 sz es (hrow r sz es hr)⟩
    cases r<;>simp only [Root.low]<;>simpa [AV.low,hlen,hnb] using hl
   |fn f caps =>
    obtain ⟨arr,e1,e2,e3⟩:=hA
    refine ⟨arr,e1,e2,fun k x u hx hu=>?_⟩
    have hcx:=e3 k x u hx hu
    have hlx:_:=zt.1 (by simpa [AV.low] using hl) x (Zad hx)
    cases x with
    |pv p=>exact hcx
    |aO o j=>exact ⟨by rw [hlen];simpa using hlx,hcx.2⟩
    |_=>exact hcx
   |kE k l=>simp [AV.low] at hl
   |Dk s l=>exact hA
   |pp o j=>exact ⟨by rw [hlen];simpa [AV.low] using hl,hA.2⟩
   |lV=>exact hA
   |any=>trivial
 ·simp only [Zak] at ho
  split at ho
  ·exact h.boxes o bx ho
  ·cases ho
theorem TA {s s1:St}{nb:Nat}(h:s.head keep nb=some s1):s1.boxes.length=nb∧s1.ys=s.ys∧s1.stop=s.stop∧nb≤s.boxes.length:=by
 unfold St.head at h
 simp only at h
 split at h
 case isFalse=>cases h
 rename_i hc
 simp only [ZZ,decide_eq_true_eq] at hc
 have h:=ZS.inj h
 rw [← h]
 exact ⟨by simp;omega,rfl,rfl,hc.2⟩
theorem zA {s:St}{sw:Bool}(h:lZ keep nb sw s=some st'):st'.ys=s.ys∧st'.stop=s.stop∧st'.boxes.length=s.boxes.length:=by
 unfold lZ at h
 obtain ⟨s1,h1,h2⟩:=bind_some h
 obtain ⟨e1,e2,e3,_⟩:=TA h1
 split at h2
 ·unfold St.swap2 at h2
  split at h2
  ·have h2:=ZS.inj h2
   rw [← h2]
   exact ⟨e2,e3,by rw [← e1];simp;omega⟩
  ·cases h2
 ·have h2:=ZS.inj h2
  rw [← h2];exact ⟨e2,e3,e1⟩
theorem After.ends (hC:C.Ok P L){s:St}{sw:Bool}{nb0:Nat}(hnb:nb≤nb0)(h:After C L nb σ T w s ds a1 w1)(he:lZ keep nb0 sw s=some st'):After C L nb σ T w st' ds a1 w1:=by
 obtain ⟨σ',T',ms,g1,g2,g3,g4,g5,g6⟩:=h
 unfold lZ at he
 obtain ⟨s1,h1,h2⟩:=bind_some he
 obtain ⟨q1,q2,q3,q4,_⟩:=g1.head h1
 split at h2
 ·obtain ⟨σ2,T2,k1,k2,k3,k4,k5,k6⟩:=q1.swap2 h2
  refine ⟨σ2,T2,ms,k1,?_,fun k hk=>(k3 k (by omega)).trans (g3 k hk),g4.trans (k2.oC w1).stays,g5,fun r hr=>⟨(g6.1 r hr).1,k2.ro r (g6.1 r hr).2.1,(g6.1 r hr).2.2⟩,g6.2⟩
  rw [k4,q3]
  exact hC.keep _ _ _ _ _ (k2.oC w1) g2
 ·have h2:=ZS.inj h2
  subst h2
  exact ⟨σ',T',ms,q1,by rw [q3];exact g2,g3,g4,g5,g6⟩
theorem Marks.app {T2:Tags}{w2:World}{ms ms2:List Nat}(h1:Marks T1 w w1 ms)(hsz:w.heap.size≤w1.heap.size)(hs:bY T1 T2 w1 w2)(h2:Marks T2 w1 w2 ms2):Marks T2 w w2 (ms2++ms):=by
 refine ⟨fun r hr=>?_,List.nodup_append.2 ⟨h2.2,h1.2,fun x hx y hy e=>?_⟩⟩
 ·rcases List.mem_append.1 hr with hr|hr
  ·obtain ⟨k1,k2,k3⟩:=h2.1 r hr
   exact ⟨Zaf hsz k1,k2,k3⟩
  ·obtain ⟨k1,k2,k3⟩:=h1.1 r hr
   have hl:r<w1.heap.size:=(zw.1 k3).1
   exact ⟨k1,hs.ro r k2,(hs.same r hl k2).trans k3⟩
 ·have k1:=(h2.1 x hx).1
  have hl:y<w1.heap.size:=(zw.1 (h1.1 y hy).2.2).1
  omega
theorem ji (vo:List ig)(a b:List Nat):bM vo (a++b)=bM vo a++bM vo b:=by simp [bM]
theorem nG (vo:List ig)(i:Nat)(b:List Nat):bM vo (i::b)=vo.getD i default::bM vo b:=rfl
theorem kD (vo:List ig)(a:List Nat):(bM vo a).length=a.length:=by simp [bM]
def Jt (P:Program)(rec:aj→St→Option (Ex×St))(env:Env)(bU:Array Oper)(vo:List ig)(keep:List Nat)(nb:Nat)(X:List (List PV))(st st':St)(z:iD):Prop :=
 yw P bU z.fin z.last z.acts (bM vo (jc z.fin z.last z.acts))=true∧∃ s,ops rec env (bM vo (jc z.fin z.last z.acts)) st=some s∧s.ys <+: X∧lZ keep nb z.sw s=some st'
theorem pq {j:Nat}{z z':iD}(h:z.tail j=some z'):∃ seg,z.acts=(seg,j)::z'.acts∧z'.fin=z.fin∧z'.last=z.last∧z'.sw=z.sw:=by
 unfold iD.tail at h
 split at h
 ·rename_i seg i more hz
  split at h
  ·rename_i e
   have h:=ZS.inj h
   subst h;subst e
   exact ⟨seg,hz,rfl,rfl,rfl⟩
  ·cases h
 ·cases h
def TB (P:Program)(rec:aj→St→Option (Ex×St))(env:Env)(bU:Array Oper)(vo:List ig)(keep:List Nat)(nb:Nat)(X:List (List PV))(st st':St)(z:iD):Prop :=
 zu P bU z.last z.acts (bM vo (iZ z.last z.acts))=true∧∃ s,ops rec env (bM vo (iZ z.last z.acts)) st=some s∧s.ys <+: X∧lZ keep nb z.sw s=some st'
theorem afs (hW:kS F)(hC:C.Ok P L)(bg:gu P rec env){f:Nat}{nb0:Nat}(hnb:nb≤nb0){w0:World}{σ0:Nat→Nat}{T0:Tags}:∀ (m:Nat) (k:Nat) (alts:List iD) (l:Array Bool) {S2:World→Prop} {st:St} {σ:Nat→Nat} {T:Tags} {a:Act} {w:World},vO bU f m k alts l=true →
  aQ L σ T st a w→(∀ T' w',bY T T' w w'→S2 w')→C.J st.ys.length T w→st.stop=C.stop→nb≤st.boxes.length→(∀ z∈alts,TB P rec env bU vo keep nb0 C.X st st' z) →
  bY T0 T w0 w→(∀ k,k<nb→σ k=σ0 k)→(∃ ms,a.defers=ms.map jX++ds∧Marks T w0 w ms) →
  (∀ a' w',After C L nb σ0 T0 w0 st' ds a' w'→Q a' w')→rO F n P bU Q m S2 alts a w:=by
 have one:∀ (x:iD) {S2:World→Prop} {st:St} {σ:Nat→Nat} {T:Tags} {a:Act} {w:World},aQ L σ T st a w→(∀ T' w',bY T T' w w'→S2 w')→C.J st.ys.length T w→st.stop=C.stop→nb≤st.boxes.length→TB P rec env bU vo keep nb0 C.X st st' x →
  bY T0 T w0 w→(∀ k,k<nb→σ k=σ0 k)→(∃ ms,a.defers=ms.map jX++ds∧Marks T w0 w ms)→(∀ a' w',After C L nb σ0 T0 w0 st' ds a' w'→Q a' w')→oG F n P bU Q x.last S2 x.acts a w:=fun x S2 st σ T a w h CY hJ hst hb hx mF hσ hms hn=>by
  obtain ⟨hm,s,hrun,hX,hend⟩:=hx
  obtain ⟨ms,hd,hM⟩:=hms
  refine KR hW hC bg hX h CY hJ hst hm hrun fun a' w' hA=>hn _ _ ?_
  exact (After.trans mF hσ hd hM hb hA).ends hC hnb hend
 intro m
 induction m with
 |zero =>
  intro k alts l S2 st σ T a w hB h CY hJ hst hb hz mF hσ hms hn
  match alts,hB,hz with
  |[x],_,hz=>simpa only [rO] using one x h CY hJ hst hb (hz x (by simp)) mF hσ hms hn
  |[],hB,_=>simp [vO] at hB
  |_::_::_,hB,_=>simp [vO] at hB
 |succ m ih =>
  intro k alts l S2 st σ T a w hB h CY hJ hst hb hz mF hσ hms hn
  match alts,hB,hz with
  |[],hB,_=>simp [vO] at hB
  |[x],_,hz=>simpa only [rO] using one x h CY hJ hst hb (hz x (by simp)) mF hσ hms hn
  |x::y::zs,hB,hz =>
   simp only [vO] at hB
   simp only [rO]
   generalize ha:x.acts=acts at hB
   match acts,ha,hB with
   |[],_,hB=>cases hB
   |(seg,i0)::more,ha,hB =>
    simp only [ZZ,decide_eq_true_eq,beq_iff_eq] at hB
    obtain ⟨⟨⟨AX,hseg,htA⟩,hk⟩,hB⟩:=hB
    split at hB
    case h_2=>cases hB
    rename_i l1 hq1
    simp only [ZZ,ZaR,Zba] at hB
    obtain ⟨⟨hne,hin⟩,hall⟩:=hB
    have shape:∀ z∈x::y::zs,∃ i more,z.acts=(seg,i)::more:=fun z hzz=>by
     have:=zt.1 AX z hzz
     unfold Dt at this
     split at this
     ·rename_i s i more e
      exact ⟨i,more,by rw [e,eq_of_beq this]⟩
     ·cases this
    have rP:∀ z∈x::y::zs,∀ i more,z.acts=(seg,i)::more→∃ st1 st2 s,mL P bU (pick bU [i]) [vo.getD i default]=true∧zu P bU z.last more (bM vo (iZ z.last more))=true ∧
      ops rec env (bM vo seg) st=some st1∧op rec env (vo.getD i default) st1=some st2∧ops rec env (bM vo (iZ z.last more)) st2=some s∧s.ys <+: C.X∧lZ keep nb0 z.sw s=some st':=fun z hzz i more e=>by
     obtain ⟨hm,s,hrun,hX,hend⟩:=hz z hzz
     rw [e] at hm hrun
     have e2:bM vo (iZ z.last ((seg,i)::more))=bM vo seg++(vo.getD i default::bM vo (iZ z.last more)):=by
      show bM vo (seg++(i::iZ z.last more))=_
      rw [ji,nG]
     have e3:bM vo seg=bM vo (Oh bU i seg)++bM vo (RS bU i seg):=by
      rw [← ji];congr 1
      exact (Za6 (p:=Aq bU bU.size i) (l:=seg)).symm
     have hm2:=hm
     rw [e2,e3,Zav] at hm2
     rw [e2] at hrun
     have hlenA:=kD vo (Oh bU i seg)
     have sG:=kD vo (RS bU i seg)
     simp only [zu,ZZ] at hm2
     rw [ZaX hlenA,Za1 hlenA,ZaX sG,Za1 sG] at hm2
     obtain ⟨st1,p1,p2⟩:=eG hrun
     obtain ⟨st2,p2,p3⟩:=qU p2
     simp only [ZZ] at hm2
     exact ⟨st1,st2,s,hm2.2.1,hm2.2.2,p1,p2,p3,hX,hend⟩
    obtain ⟨hmx,sx,VH,_⟩:=hz x (by simp)
    have hB1:RS bU i0 seg=seg:=by
     have:=Za6 (p:=Aq bU bU.size i0) (l:=seg)
     have e:seg.takeWhile (Aq bU bU.size i0)=[]:=htA
     rw [e,List.nil_append] at this
     exact this
    have aaB:mL P bU (pick bU seg) (bM vo seg)=true∧lC true (bM vo seg)=true:=by
     rw [ha] at hmx
     have e2:bM vo (iZ x.last ((seg,i0)::more))=bM vo seg++(vo.getD i0 default::bM vo (iZ x.last more)):=by
      show bM vo (seg++(i0::iZ x.last more))=_
      rw [ji,nG]
     rw [e2] at hmx
     simp only [zu,ZZ,htA,hB1,zj,List.drop_zero] at hmx
     rw [ZaX (kD vo seg)] at hmx
     exact ⟨hmx.1.1.2,hmx.1.2⟩
    obtain ⟨st1,apD,sx',_,_,p1,_⟩:=rP x (by simp) i0 more ha
    refine ⟨RU S2 T w,fun _ h=>h.1,gI CY T w (bY.refl T w),?_⟩
    refine um h aaB.1 aaB.2 p1 fun a1 T1 g1 g2 g3 g4=>?_
    intro j hj
    obtain ⟨ms,hd,hM⟩:=hms
    have hJ1:C.J st1.ys.length T1 w:=by rw [g4.2.1];exact hC.keep _ _ _ _ _ (g2.oC w) hJ
    obtain ⟨z',hz'⟩:=ZbX _ hj
    have hz':=hz'
    unfold tails at hz'
    obtain ⟨z,hzz,ZM⟩:=Zbl.1 hz'
    obtain ⟨TD,hza,hf1,hf2,hf3⟩:=pq ZM
    have hseg':TD=seg:=by
     obtain ⟨i,more',e⟩:=shape z hzz
     rw [hza] at e;cases e;rfl
    subst hseg'
    obtain ⟨t1,st2,s,hmj,hmz,q1,q2,q3,hXs,hend⟩:=rP z hzz j z'.acts hza
    have:t1=st1:=by rw [p1] at q1;exact (ZS.inj q1).symm
    subst this
    have gl:=fJ (rec:=rec) (env:=env) q3
    refine yx hW hC bg g1 hJ1 (g4.2.2.trans hst) hmj q2 (gl.2.1.trans hXs) ?_
    rintro a2 w2 ⟨σ2,T2,ms2,k1,k2,k3,k4,k5,k6⟩ _
    have hs4:=((g2.oC w).stays).trans k4
    have hn3:∀ T' w',bY T2 T' w2 w'→RU S2 T w w':=fun T' w' hw'=>gI CY T' w' (hs4.trans hw')
    refine ⟨hn3 _ _ (bY.refl _ _),?_⟩
    have hjr:j∈Region.ready .any bU l1:=by
     have:=zt.1 hin z hzz
     unfold KU at this
     rw [hza] at this
     simpa using this
    have hcov:=zt.1 hall j hjr
    simp only [ZZ] at hcov
    have hs2:bY T0 T1 w0 w:=mF.trans (g2.oC w).stays
    have hM1:Marks T1 w0 w ms:=⟨fun r hr=>⟨(hM.1 r hr).1,g2.ro r (hM.1 r hr).2.1,(hM.1 r hr).2.2⟩,hM.2⟩
    refine ih _ _ _ hcov.2 k1 hn3 k2 (((iK q2).2.2.trans g4.2.2).trans hst) (Zaf hb (Zaf g4.1 (iK q2).1)) (fun u hu=>?_) (hs2.trans k4) (fun k hk=>(k3 k (Zan hk (Zaf hb g4.1))).trans (hσ k hk)) ?_ hn
    ·unfold tails at hu
     obtain ⟨z2,hz2,aaC⟩:=Zbl.1 hu
     obtain ⟨aaD,Oq,e1,e2,e3⟩:=pq aaC
     have Ot:aaD=TD:=by
      obtain ⟨i,more',e⟩:=shape z2 hz2
      rw [Oq] at e;cases e;rfl
     subst Ot
     obtain ⟨t1',st2',s',_,aaE,q1',q2',q3',aaF,hend'⟩:=rP z2 hz2 j u.acts Oq
     have e4:t1'=t1:=by rw [q1] at q1';exact (ZS.inj q1').symm
     subst e4
     have e5:st2'=st2:=by rw [q2] at q2';exact (ZS.inj q2').symm
     subst e5
     unfold TB
     rw [e2,e3]
     exact ⟨aaE,s',q3',aaF,hend'⟩
    ·refine ⟨ms2++ms,by rw [k5,g3,hd];simp,?_⟩
     exact Marks.app hM1 hs2.size k4 k6
theorem aiI (hW:kS F)(hC:C.Ok P L)(bg:gu P rec env){f:Nat}{nb0:Nat}(hnb:nb≤nb0){w0:World}{σ0:Nat→Nat}{T0:Tags}:∀ (m:Nat) (k:Nat) (alts:List iD) (l:Array Bool) {S2:World→Prop} {st:St} {σ:Nat→Nat} {T:Tags} {a:Act} {w:World},uX bU f m k alts l=true →
  aQ L σ T st a w→(∀ T' w',bY T T' w w'→S2 w')→C.J st.ys.length T w→st.stop=C.stop→nb≤st.boxes.length→(∀ z∈alts,Jt P rec env bU vo keep nb0 C.X st st' z) →
  bY T0 T w0 w→(∀ k,k<nb→σ k=σ0 k)→(∃ ms,a.defers=ms.map jX++ds∧Marks T w0 w ms) →
  (∀ a' w',After C L nb σ0 T0 w0 st' ds a' w'→Q a' w')→vP F n P bU Q m (Whole w) S2 alts a w:=by
 have one:∀ (x:iD) {S2:World→Prop} {st:St} {σ:Nat→Nat} {T:Tags} {a:Act} {w:World},aQ L σ T st a w→(∀ T' w',bY T T' w w'→S2 w')→C.J st.ys.length T w→st.stop=C.stop→nb≤st.boxes.length→Jt P rec env bU vo keep nb0 C.X st st' x →
  bY T0 T w0 w→(∀ k,k<nb→σ k=σ0 k)→(∃ ms,a.defers=ms.map jX++ds∧Marks T w0 w ms)→(∀ a' w',After C L nb σ0 T0 w0 st' ds a' w'→Q a' w')→qQ F n P bU Q (Whole w) S2 x.acts x.fin x.last a w:=fun x S2 st σ T a w h CY hJ hst hb hx mF hσ hms hn=>by
  obtain ⟨hm,s,hrun,hX,hend⟩:=hx
  obtain ⟨ms,hd,hM⟩:=hms
  refine Tf hW hC bg hX h CY hJ hst hm hrun fun a' w' hA=>hn _ _ ?_
  exact (After.trans mF hσ hd hM hb hA).ends hC hnb hend
 intro m
 induction m with
 |zero =>
  intro k alts l S2 st σ T a w hB h CY hJ hst hb hz mF hσ hms hn
  match alts,hB,hz with
  |[x],_,hz=>simpa only [vP] using one x h CY hJ hst hb (hz x (by simp)) mF hσ hms hn
  |[],hB,_=>simp [uX] at hB
  |_::_::_,hB,_=>simp [uX] at hB
 |succ m ih =>
  intro k alts l S2 st σ T a w hB h CY hJ hst hb hz mF hσ hms hn
  match alts,hB,hz with
  |[],hB,_=>simp [uX] at hB
  |[x],_,hz=>simpa only [vP] using one x h CY hJ hst hb (hz x (by simp)) mF hσ hms hn
  |x::y::zs,hB,hz =>
   simp only [uX] at hB
   simp only [vP]
   generalize ha:x.acts=acts at hB
   match acts,ha,hB with
   |[],ha,hB =>
    generalize hxf:x.fin=fin at hB
    match fin,hxf,hB with
    |none,_,hB=>cases hB
    |some (dX,dY,g,tl),hxf,hB =>
     simp only [ZZ,decide_eq_true_eq,beq_iff_eq] at hB
     obtain ⟨⟨⟨⟨⟨AX,hfs⟩,hsg⟩,hsA,hsB⟩,hk⟩,hB⟩:=hB
     split at hB
     case h_2=>cases hB
     rename_i l1 hq1
     simp only [ZZ,ZaR,Zba] at hB
     obtain ⟨⟨⟨hne,hin⟩,apF⟩,hall⟩:=hB
     have hgr:g∈Region.ready .any bU l1:=by simpa using apF
     simp only [hxf]
     have hfin:∀ z∈y::zs,lU bU z.fin (dX++dY)=dX∧lu bU z.fin (dX++dY)=dY:=fun z hzz=>by
      have hx:=zt.1 hfs x (by simp)
      have hz:=zt.1 hfs z (Zbp _ hzz)
      simp only [ZZ,beq_iff_eq] at hx hz
      rw [hxf] at hx
      have e:=Js (ops:=bU) (x:=z.fin) (y:=some (dX,dY,g,tl)) (hz.1.trans hx.1.symm) (hz.2.trans hx.2.symm)
      unfold lU at hsA
      unfold lu at hsB
      unfold lU lu
      rw [e]
      exact ⟨hsA,hsB⟩
     have shape:∀ z∈y::zs,∀ s i more,z.acts=(s,i)::more→s=dX++dY:=fun z hzz s i more e=>by
      have:=zt.1 AX z hzz
      unfold Es at this
      rw [e] at this
      exact eq_of_beq this
     have aiJ:∀ z∈x::y::zs,z.acts=[]→∃ tl',z.fin=some (dX,dY,g,tl'):=fun z hzz e=>by
      rcases ZaK.1 hzz with e1|hzz
      ·rw [e1];exact ⟨tl,hxf⟩
      have:=zt.1 AX z hzz
      unfold Es at this
      rw [e] at this
      simp only at this
      split at this
      ·rename_i a' b' c' tl' e2
       simp only [ZZ,beq_iff_eq] at this
       obtain ⟨⟨e3,e4⟩,e5⟩:=this
       exact ⟨tl',by rw [e2,e3,e4,e5]⟩
      ·cases this
     have rP:∀ z∈y::zs,∀ i more,z.acts=(dX++dY,i)::more→∃ st0 st1 st2 s,mL P bU (pick bU [i]) [vo.getD i default]=true∧Og (vo.getD i default)=true∧yw P bU z.fin z.last more (bM vo (jc z.fin z.last more))=true ∧
       ops rec env (bM vo dX) st=some st0∧ops rec env (bM vo dY) st0=some st1∧op rec env (vo.getD i default) st1=some st2∧ops rec env (bM vo (jc z.fin z.last more)) st2=some s∧s.ys <+: C.X∧lZ keep nb0 z.sw s=some st':=fun z hzz i more e=>by
      obtain ⟨hm,s,hrun,hX,hend⟩:=hz z (Zbp _ hzz)
      rw [e] at hm hrun
      have e2:bM vo (jc z.fin z.last ((dX++dY,i)::more))=bM vo dX++(bM vo dY++(vo.getD i default::bM vo (jc z.fin z.last more))):=by
       show bM vo ((dX++dY)++(i::jc z.fin z.last more))=_
       rw [ji,ji,nG,Zav]
      rw [e2] at hm hrun
      have hlenA:=kD vo dX
      have sG:=kD vo dY
      simp only [yw,ZZ,(hfin z hzz).1,(hfin z hzz).2] at hm
      rw [ZaX hlenA,Za1 hlenA,ZaX sG,Za1 sG] at hm
      obtain ⟨st0,p0,p1⟩:=eG hrun
      obtain ⟨st1,p1,p2⟩:=eG p1
      obtain ⟨st2,p2,p3⟩:=qU p2
      simp only [ZZ] at hm
      exact ⟨st0,st1,st2,s,hm.2.1.1,hm.2.1.2,hm.2.2,p0,p1,p2,p3,hX,hend⟩
     obtain ⟨hmx,sx,VH,hXx,aqC⟩:=hz x (by simp)
     rw [ha,hxf] at hmx VH
     have e2:bM vo (jc (some (dX,dY,g,tl)) x.last [])=bM vo dX++(bM vo dY++(vo.getD g default::bM vo (iZ x.last tl))):=by
      show bM vo (dX++(dY++(g::iZ x.last tl)))=_
      rw [ji,ji,nG]
     rw [e2] at hmx VH
     have hlenA:=kD vo dX
     have sG:=kD vo dY
     simp only [yw,ZZ] at hmx
     rw [ZaX hlenA,Za1 hlenA,ZaX sG,Za1 sG] at hmx
     simp only [ZZ] at hmx
     obtain ⟨⟨⟨hqx,hqu⟩,hql⟩,hmg,hmt⟩:=hmx
     obtain ⟨st0,p0,p1⟩:=eG VH
     obtain ⟨st1,p1,p2⟩:=eG p1
     obtain ⟨stg,p2,p3⟩:=qU p2
     have glx:=fJ (rec:=rec) (env:=env) p3
     refine AQ h hqx p0 fun a0 ZN f1 f2 f3 f4=>?_
     have yA:∀ T' w',bY ZN T' w w'→S2 w':=fun T' w' hw=>CY T' w' ((f2.oC w).stays.trans hw)
     refine ⟨RU S2 ZN w,fun _ h=>h.1,gI yA ZN w (bY.refl ZN w),?_⟩
     refine um f1 hqu hql p1 fun a1 T1 g1 g2e g3' g4'=>?_
     have g2':=g2e
     have g2:=f2.trans g2'
     have g4:=f4.trans g4'
     have g3:=g3'.trans f3
     have hJ1:C.J st1.ys.length T1 w:=by rw [g4.2.1];exact hC.keep _ _ _ _ _ (g2.oC w) hJ
     obtain ⟨ms,hd,hM⟩:=hms
     have hs2:bY T0 T1 w0 w:=mF.trans (g2.oC w).stays
     have hM1:Marks T1 w0 w ms:=⟨fun r hr=>⟨(hM.1 r hr).1,g2.ro r (hM.1 r hr).2.1,(hM.1 r hr).2.2⟩,hM.2⟩
     have ame:vO bU f m (k - 1 - (dX.length+dY.length)) ((x::y::zs).filterMap aaA) (l1.setIfInBounds g true)=true:=by
      have:=zt.1 hall g hgr
      rw [if_pos rfl] at this
      exact this
     refine ⟨?_,fun j hjg hj=>?_⟩
     ·refine yx hW hC bg g1 hJ1 (g4.2.2.trans hst) hmg p2 (glx.2.1.trans hXx) ?_
      rintro a2 w2 ⟨σ2,T2,ms2,k1,k2,k3,k4,k5,k6⟩ _
      have hs4:=((g2'.oC w).stays).trans k4
      have hn3:∀ T' w',bY T2 T' w2 w'→RU S2 ZN w w':=fun T' w' hw'=>gI yA T' w' (hs4.trans hw')
      refine ⟨hn3 _ _ (bY.refl _ _),?_⟩
      refine afs (keep:=keep) (vo:=vo) hW hC bg hnb _ _ _ _ ame k1 hn3 k2 (((iK p2).2.2.trans g4.2.2).trans hst) (Zaf hb (Zaf g4.1 (iK p2).1)) (fun u hu=>?_) (hs2.trans k4) (fun k hk=>(k3 k (Zan hk (Zaf hb g4.1))).trans (hσ k hk)) ?_ hn
      ·obtain ⟨z,hzz,ZM⟩:=Zbl.1 hu
       have hza:z.acts=[]:=by
        unfold aaA at ZM
        split at ZM
        ·assumption
        ·cases ZM
       obtain ⟨tl',hzf⟩:=aiJ z hzz hza
       have eu:u={ z with acts:=tl',fin:=none }:=by
        unfold aaA at ZM
        rw [hza,hzf] at ZM
        exact (ZS.inj ZM).symm
       obtain ⟨hmz,sz,aaG,hXz,amf⟩:=hz z hzz
       rw [hza,hzf] at hmz aaG
       have e2:bM vo (jc (some (dX,dY,g,tl')) z.last [])=bM vo dX++(bM vo dY++(vo.getD g default::bM vo (iZ z.last tl'))):=by
        show bM vo (dX++(dY++(g::iZ z.last tl')))=_
        rw [ji,ji,nG]
       rw [e2] at hmz aaG
       simp only [yw,ZZ] at hmz
       rw [ZaX hlenA,Za1 hlenA,ZaX sG,Za1 sG] at hmz
       simp only [ZZ] at hmz
       obtain ⟨apJ,z0,z1⟩:=eG aaG
       obtain ⟨st1',z1,z2⟩:=eG z1
       obtain ⟨apK,z2,z3⟩:=qU z2
       have e0:apJ=st0:=by rw [p0] at z0;exact (ZS.inj z0).symm
       subst e0
       have e1:st1'=st1:=by rw [p1] at z1;exact (ZS.inj z1).symm
       subst e1
       have e3:apK=stg:=by rw [p2] at z2;exact (ZS.inj z2).symm
       subst e3
       rw [eu]
       exact ⟨hmz.2.2,sz,z3,hXz,amf⟩
      ·refine ⟨ms2++ms,by rw [k5,g3,hd];simp,?_⟩
       exact Marks.app hM1 hs2.size k4 k6
     obtain ⟨z',hz'⟩:=ZbX _ hj
     have hz':=hz'
     unfold tails at hz'
     obtain ⟨z,hzz,ZM⟩:=Zbl.1 hz'
     obtain ⟨TD,hza,hf1,hf2,hf3⟩:=pq ZM
     have hzx:z∈y::zs:=hzz
     have hseg:TD=dX++dY:=shape z hzz _ _ _ hza
     subst hseg
     obtain ⟨t0,t1,st2,s,hmj,hcalm,hmz,q0,q1,q2,q3,hXs,hend⟩:=rP z hzz j z'.acts hza
     have:t0=st0:=by rw [p0] at q0;exact (ZS.inj q0).symm
     subst this
     have:t1=st1:=by rw [p1] at q1;exact (ZS.inj q1).symm
     subst this
     have gl:=fJ (rec:=rec) (env:=env) q3
     refine yx hW hC bg g1 hJ1 (g4.2.2.trans hst) hmj q2 (gl.2.1.trans hXs) ?_
     rintro a2 w2 ⟨σ2,T2,ms2,k1,k2,k3,k4,k5,k6⟩ hwh
     have hwh:=hwh hcalm
     have hs4:=((g2'.oC w).stays).trans k4
     have hn3:∀ T' w',bY T2 T' w2 w'→RU S2 ZN w w':=fun T' w' hw'=>gI yA T' w' (hs4.trans hw')
     refine ⟨Whole w2,fun w' hw'=>⟨Zaf hwh.1 hw'.1,fun b hb=>(hw'.2 b (Zan hb hwh.1)).trans (hwh.2 b hb)⟩,Whole.refl w2,hn3 _ _ (bY.refl _ _),?_⟩
     have hjr:j∈Region.ready .any bU l1:=by
      have:=zt.1 hin z hzz
      unfold VF at this
      rw [hza] at this
      simpa using this
     have hcov:=zt.1 hall j hjr
     rw [if_neg hjg] at hcov
     refine ih _ _ _ hcov k1 hn3 k2 (((iK q2).2.2.trans g4.2.2).trans hst) (Zaf hb (Zaf g4.1 (iK q2).1)) (fun u hu=>?_) (hs2.trans k4) (fun k hk=>(k3 k (Zan hk (Zaf hb g4.1))).trans (hσ k hk)) ?_ hn
     ·unfold tails at hu
      obtain ⟨z2,hz2,aaC⟩:=Zbl.1 hu
      obtain ⟨aaD,Oq,e1,e2,e3⟩:=pq aaC
      have Ot:aaD=dX++dY:=shape z2 hz2 _ _ _ Oq
      subst Ot
      obtain ⟨t0',t1',st2',s',_,_,aaE,q0',q1',q2',q3',aaF,hend'⟩:=rP z2 hz2 j u.acts Oq
      have e0:t0'=t0:=by rw [q0] at q0';exact (ZS.inj q0').symm
      subst e0
      have e4:t1'=t1:=by rw [q1] at q1';exact (ZS.inj q1').symm
      subst e4
      have e5:st2'=st2:=by rw [q2] at q2';exact (ZS.inj q2').symm
      subst e5
      unfold Jt
      rw [e1,e2,e3]
      exact ⟨aaE,s',q3',aaF,hend'⟩
     ·refine ⟨ms2++ms,by rw [k5,g3,hd];simp,?_⟩
      exact Marks.app hM1 hs2.size k4 k6
   |(seg,i0)::more,ha,hB =>
    simp only [ZZ,decide_eq_true_eq] at hB
    obtain ⟨⟨⟨⟨AX,hfs⟩,hsg⟩,hk⟩,hB⟩:=hB
    split at hB
    case h_2=>cases hB
    rename_i l1 hq1
    simp only [ZZ,ZaR,Zba] at hB
    obtain ⟨⟨hne,hin⟩,hall⟩:=hB
    have hfin:∀ z∈x::y::zs,lU bU z.fin seg=lU bU x.fin seg∧lu bU z.fin seg=lu bU x.fin seg:=fun z hzz=>by
     have hx:=zt.1 hfs x (by simp)
     have hz:=zt.1 hfs z hzz
     simp only [ZZ,beq_iff_eq] at hx hz
     have e:=Js (ops:=bU) (x:=z.fin) (y:=x.fin) (hz.1.trans hx.1.symm) hz.2
     unfold lU lu
     rw [e]
     exact ⟨rfl,rfl⟩
    have shape:∀ z∈x::y::zs,∃ i more,z.acts=(seg,i)::more:=fun z hzz=>by
     have:=zt.1 AX z hzz
     unfold Dt at this
     split at this
     ·rename_i s i more e
      exact ⟨i,more,by rw [e,eq_of_beq this]⟩
     ·cases this
    have rP:∀ z∈x::y::zs,∀ i more,z.acts=(seg,i)::more→∃ st0 st1 st2 s,uj P bU (lU bU x.fin seg) (bM vo (lU bU x.fin seg))=true∧(mL P bU (pick bU (lu bU x.fin seg)) (bM vo (lu bU x.fin seg))=true∧lC true (bM vo (lu bU x.fin seg))=true)∧mL P bU (pick bU [i]) [vo.getD i default]=true∧Og (vo.getD i default)=true∧yw P bU z.fin z.last more (bM vo (jc z.fin z.last more))=true ∧
      ops rec env (bM vo (lU bU x.fin seg)) st=some st0∧ops rec env (bM vo (lu bU x.fin seg)) st0=some st1∧op rec env (vo.getD i default) st1=some st2∧ops rec env (bM vo (jc z.fin z.last more)) st2=some s∧s.ys <+: C.X∧lZ keep nb0 z.sw s=some st':=fun z hzz i more e=>by
     obtain ⟨hm,s,hrun,hX,hend⟩:=hz z hzz
     rw [e] at hm hrun
     have e2:bM vo (jc z.fin z.last ((seg,i)::more))=bM vo (lU bU x.fin seg)++(bM vo (lu bU x.fin seg)++(vo.getD i default::bM vo (jc z.fin z.last more))):=by
      show bM vo (seg++(i::jc z.fin z.last more))=_
      rw [ji,nG,← Zav,← ji]
      congr 2
      exact (Za6 (p:=qh bU x.fin) (l:=seg)).symm
     rw [e2] at hm hrun
     have hlenA:=kD vo (lU bU x.fin seg)
     have sG:=kD vo (lu bU x.fin seg)
     simp only [yw,ZZ,(hfin z hzz).1,(hfin z hzz).2] at hm
     rw [ZaX hlenA,Za1 hlenA,ZaX sG,Za1 sG] at hm
     obtain ⟨st0,p0,p1⟩:=eG hrun
     obtain ⟨st1,p1,p2⟩:=eG p1
     obtain ⟨st2,p2,p3⟩:=qU p2
     simp only [ZZ] at hm
     exact ⟨st0,st1,st2,s,hm.1.1.1,⟨hm.1.1.2,hm.1.2⟩,hm.2.1.1,hm.2.1.2,hm.2.2,p0,p1,p2,p3,hX,hend⟩
    obtain ⟨st0,st1,apD,sx,hqx,hqb,_,_,_,p0,p1,_⟩:=rP x (by simp) i0 more ha
    refine AQ h hqx p0 fun a0 ZN f1 f2 f3 f4=>?_
    have yA:∀ T' w',bY ZN T' w w'→S2 w':=fun T' w' hw=>CY T' w' ((f2.oC w).stays.trans hw)
    refine ⟨RU S2 ZN w,fun _ h=>h.1,gI yA ZN w (bY.refl ZN w),?_⟩
    refine um f1 hqb.1 hqb.2 p1 fun a1 T1 g1 g2e g3' g4'=>?_
    have g2':=g2e
    have g2:=f2.trans g2'
    have g4:=f4.trans g4'
    have g3:=g3'.trans f3
    intro j hj
    obtain ⟨ms,hd,hM⟩:=hms
    have hJ1:C.J st1.ys.length T1 w:=by rw [g4.2.1];exact hC.keep _ _ _ _ _ (g2.oC w) hJ
    obtain ⟨z',hz'⟩:=ZbX _ hj
    have hz':=hz'
    unfold tails at hz'
    obtain ⟨z,hzz,ZM⟩:=Zbl.1 hz'
    obtain ⟨TD,hza,hf1,hf2,hf3⟩:=pq ZM
    have hseg:TD=seg:=by
     obtain ⟨i,more',e⟩:=shape z hzz
     rw [hza] at e;cases e;rfl
    subst hseg
    obtain ⟨t0,t1,st2,s,_,_,hmj,hcalm,hmz,q0,q1,q2,q3,hXs,hend⟩:=rP z hzz j z'.acts hza
    have:t0=st0:=by rw [p0] at q0;exact (ZS.inj q0).symm
    subst this
    have:t1=st1:=by rw [p1] at q1;exact (ZS.inj q1).symm
    subst this
    have gl:=fJ (rec:=rec) (env:=env) q3
    refine yx hW hC bg g1 hJ1 (g4.2.2.trans hst) hmj q2 (gl.2.1.trans hXs) ?_
    rintro a2 w2 ⟨σ2,T2,ms2,k1,k2,k3,k4,k5,k6⟩ hwh
    have hwh:=hwh hcalm
    have hs4:=((g2'.oC w).stays).trans k4
    have hn3:∀ T' w',bY T2 T' w2 w'→RU S2 ZN w w':=fun T' w' hw'=>gI yA T' w' (hs4.trans hw')
    refine ⟨Whole w2,fun w' hw'=>⟨Zaf hwh.1 hw'.1,fun b hb=>(hw'.2 b (Zan hb hwh.1)).trans (hwh.2 b hb)⟩,Whole.refl w2,hn3 _ _ (bY.refl _ _),?_⟩
    have hjr:j∈Region.ready .any bU l1:=by
     have:=zt.1 hin z hzz
     unfold KU at this
     rw [hza] at this
     simpa using this
    have hcov:=zt.1 hall j hjr
    have hs2:bY T0 T1 w0 w:=mF.trans (g2.oC w).stays
    have hM1:Marks T1 w0 w ms:=⟨fun r hr=>⟨(hM.1 r hr).1,g2.ro r (hM.1 r hr).2.1,(hM.1 r hr).2.2⟩,hM.2⟩
    refine ih _ _ _ hcov k1 hn3 k2 (((iK q2).2.2.trans g4.2.2).trans hst) (Zaf hb (Zaf g4.1 (iK q2).1)) (fun u hu=>?_) (hs2.trans k4) (fun k hk=>(k3 k (Zan hk (Zaf hb g4.1))).trans (hσ k hk)) ?_ hn
    ·unfold tails at hu
     obtain ⟨z2,hz2,aaC⟩:=Zbl.1 hu
     obtain ⟨aaD,Oq,e1,e2,e3⟩:=pq aaC
     have Ot:aaD=TD:=by
      obtain ⟨i,more',e⟩:=shape z2 hz2
      rw [Oq] at e;cases e;rfl
     subst Ot
     obtain ⟨t0',t1',st2',s',_,_,_,_,aaE,q0',q1',q2',q3',aaF,hend'⟩:=rP z2 hz2 j u.acts Oq
     have e0:t0'=t0:=by rw [q0] at q0';exact (ZS.inj q0').symm
     subst e0
     have e4:t1'=t1:=by rw [q1] at q1';exact (ZS.inj q1').symm
     subst e4
     have e5:st2'=st2:=by rw [q2] at q2';exact (ZS.inj q2').symm
     subst e5
     unfold Jt
     rw [e1,e2,e3]
     exact ⟨aaE,s',q3',aaF,hend'⟩
    ·refine ⟨ms2++ms,by rw [k5,g3,hd];simp,?_⟩
     exact Marks.app hM1 hs2.size k4 k6
theorem Cc {alts:List iD}(h:kX rec env keep vo st alts=some st'):∀ z∈alts,l7 rec env keep vo st z=some st':=by
 cases alts with
 |nil=>simp [kX] at h
 |cons x xs =>
  simp only [kX] at h
  obtain ⟨s,h1,h2⟩:=bind_some h
  obtain ⟨e,g⟩:=Oo h2
  subst e
  intro z hz
  rcases ZaK.1 hz with rfl|hz
  ·exact h1
  ·exact g _ (List.mem_map_of_mem hz)
theorem Iw {alts:List iD}(h:kX rec env keep vo st alts=some st'):st.boxes.length≤st'.boxes.length∧st.ys <+: st'.ys∧st'.stop=st.stop:=by
 cases alts with
 |nil=>simp [kX] at h
 |cons x xs =>
  have h1:=Cc h x (by simp)
  unfold l7 at h1
  obtain ⟨s,h2,h3⟩:=bind_some h1
  obtain ⟨e1,e2,e3⟩:=zA h3
  have g:=fJ h2
  exact ⟨by rw [e3];exact g.1,by rw [e1];exact g.2.1,by rw [e2];exact g.2.2⟩
theorem Iy {id:Nat}{Q:Exit→Act→World→Prop}{alts:List iD}(hW:kS F)(hC:C.Ok P L)(bg:gu P rec env)(h:aQ L σ T st a w)(hJ:C.J st.ys.length T w)(hst:st.stop=C.stop)(hX:st'.ys <+: C.X)
  (hmo:P.follows .mixedOrders=true) (hnd:jQ bU=true) (hok:Tt P bU vo alts=true) (hp:kX rec env keep vo st alts=some st')
  (hn:∀ a' w',After C L st.boxes.length σ T w st' a.defers a' w'→Q .normal a' w'):(Code.region id bU true).wpIn F n P Q a w:=by
 simp only [Tt,ZZ] at hok
 obtain ⟨⟨hsel,hall⟩,hB⟩:=hok
 have hz:∀ z∈alts,Jt P rec env bU vo keep st.boxes.length C.X st st' z:=fun z hz=>by
  have h1:=zt.1 hall z hz
  simp only [ZZ] at h1
  have h2:=Cc hp z hz
  unfold l7 at h2
  obtain ⟨s,h3,h4⟩:=bind_some h2
  have he:=eq_of_beq h1.1
  unfold Jt
  rw [← he]
  exact ⟨h1.2,s,h3,by rw [← (zA h4).1];exact hX,h4⟩
 split at hB
 ·cases hB
 rename_i x xs
 refine CZ (Whole w.drew) hW.fn hmo hnd hsel hB (Whole.refl _) ?_
 refine aiI hW hC bg (nb:=st.boxes.length) (ze _) (w0:=w.drew) (σ0:=σ) (T0:=T) (ds:=a.defers) _ _ _ _ hB (h.sees (Jr T w)) (fun _ _ _=>trivial) (hC.keep _ _ _ _ _ (zx T w) hJ) hst (ze _) hz (bY.refl _ _) (fun _ _=>rfl) ⟨[],rfl,Marks.nil⟩ fun a' w' hA=>hn _ _ ?_
 exact After.trans (ms:=[]) (zx T w).stays (fun _ _=>rfl) rfl Marks.nil (ze _) hA
end
section
variable {P:Program}{F:Fence}{C:Ctx}{n L nb:Nat}{σ σ':Nat→Nat}{T T' T1 T2:Tags}{st st' st1 st2:St}{a a1:Act}{w w1 w2:World}{d:Nat}{ks:List Nat}{l:List ig}{sz:Nat}{es:List PV}
 {rec:aj→St→Option (Ex×St)} {env:Env} {bU:Array Oper}
theorem Grow.vC {st0:St}(h:Grow nb st1 st2)(hb:st0.vC d ks sz es st2=some st'):Grow nb st1 st':=by
 unfold St.vC at hb
 split at hb
 ·have hb:=ZS.inj hb
  subst hb;exact h
 ·cases hb
end
def mC (P:Program):Code→aj→Bool
 |c,.clean _ _ v=>mC P c v
 |_,.drs _ _ _ []=>true
 |.skip,.skip=>true
 |.label _,.skip=>true
 |.region _ ops false,.ops l=>mL P ops ops.toList l
 |.region _ ops true,.oK _ acts fin last l=>P.follows .mixedOrders&&jQ ops&&VE ops acts fin last&&yw P ops fin last acts l
 |.region _ ops true,.drs _ _ vo alts=>P.follows .mixedOrders&&jQ ops&&Tt P ops vo alts
 |.seq a b,.seq c d=>mC P a c&&mC P b d
 |.cond x a b,.cond y c d=>aS x y&&mC P a c&&mC P b d
 |.block i a,.block j c=>i==j&&mC P a c
 |.loop a,.loop _ c=>mC P a c
 |.rangeFunc g ps sZ bd,.rng g' ps' Ou bd'=>aS g g'&&ps.toList==ps'&&mC P sZ Ou&&mC P bd bd'
 |.exit i,.exit j=>i==j
 |.scope a,.scp c=>mC P a c
 |.ret,.ret=>true
 |.region _ ops false,.dem l d f args=>mL P ops ops.toList (l++[.call d f args])
 |_,_=>false
def toX:Ex→Exit
 |.normal=>.normal
 |.exit i=>.exit i
 |.ret=>.ret
 |.oL t n=>.panic [{ v:=.iface t (.int .i64 n),recovered:=false }]
def Post (C:Ctx)(L nb:Nat)(σ:Nat→Nat)(T:Tags)(w:World)(e:Ex)(st':St)(ds:List Deferred):Exit→Act→World→Prop:=fun x a' w'=>x=toX e∧After C L nb σ T w st' ds a' w'
def Ctx.Rec (C:Ctx)(F:Fence):Prop:=∀ l,F=Fence.wide.inRound l→∀ k T w,C.J k T w→∃ r,w.heap[l]?=some (.loop r)
theorem Ctx.zB (C:Ctx):C.Rec Fence.wide:=fun l e=>by
 have:Fence.wide.round=(Fence.wide.inRound l).round:=by rw [← e]
 cases this
structure qj (P:Program)(rec:aj→St→Option (Ex×St)):Prop where
 grow:∀ c vc st e st',mC P c vc=true→rec vc st=some (e,st')→Grow st.boxes.length st st'
 aaH:∀ c keep nb vc st e st',mC P c vc=true→rec (.round keep nb vc) st=some (e,st')→Grow nb st st'
 wp:∀ {F:Fence} {L:Nat} {C:Ctx} {n:Nat},kS F→C.Rec F→C.Ok P L→∀ c vc st e st',mC P c vc=true→rec vc st=some (e,st')→st.stop=C.stop→st'.ys <+: C.X→∀ σ T a w,aQ L σ T st a w→C.J st.ys.length T w→c.wpIn F n P (Post C L st.boxes.length σ T w e st' a.defers) a w
 wpR:∀ {F:Fence} {L:Nat} {C:Ctx} {n:Nat},kS F→C.Rec F→C.Ok P L→∀ c keep nb vc st e st',mC P c vc=true→rec (.round keep nb vc) st=some (e,st')→st.stop=C.stop→st'.ys <+: C.X→∀ σ T a w,aQ L σ T st a w→C.J st.ys.length T w→yj F n P c (Post C L nb σ T w e st' a.defers) a w
section
variable {P:Program}{F:Fence}{C:Ctx}{n L nb:Nat}{σ σ':Nat→Nat}{T T' T1 T2:Tags}{st st' st1:St}{a a1:Act}{w w1:World}{o:Oper}{vo:ig}{y:Operand}{x:bK}{d:Nat}
 {rec:aj→St→Option (Ex×St)} {env:Env} {next:Act→World→Prop} {Q:Exit→Act→World→Prop} {bU:Array Oper} {ds:List Deferred} {e:Ex}
end
def nS (K:Nat):xO:=.row (.part (K+1) 0)
section
variable {P:Program}{F:Fence}{C:Ctx}{n L nb:Nat}{σ σ':Nat→Nat}{T T' T1 T2:Tags}{st st' st1:St}{a a1:Act}{w w' w1:World}{o:Oper}{vo:ig}{y:Operand}{x:bK}{d:Nat}
 {rec:aj→St→Option (Ex×St)} {env:Env} {next:Act→World→Prop} {Q:Exit→Act→World→Prop} {bU:Array Oper} {ds:List Deferred} {e:Ex}
def aaI (T:Tags)(K:Nat):Tags:=fun b=>if T b=nS K then .other else T b
theorem XR {K b:Nat}(h:T b=nS K):aaI T K b=.other:=if_pos h
theorem XT {K b:Nat}(h:T b≠nS K):aaI T K b=T b:=if_neg h
def KW (L nb:Nat)(σ:Nat→Nat)(T:Tags)(w:World):AV→Value→Prop
 |.pv x,v=>aG (fun b=>T b=.ro) w x v
 |.aO o j,v=>o<nb∧v=.pointer (some ⟨σ o,j,none⟩)
 |.pp o j,v=>o<nb∧∃ b E,v=.pointer (some ⟨b,0,none⟩)∧T b=.ro∧w.heap[b]?=some (.cells #[.pointer (some ⟨σ o,j,none⟩)] E (0,0))
 |.fn f caps,v=>∃ arr:Array Value,v=.func (.func f) #[] arr∧arr.size=caps.length∧∀ (k:Nat) x u,caps[k]?=some x→arr[k]?=some u→iw nb σ T w x u
 |.lV,v=>v=.func (.yield L) #[] #[]
 |.any,_=>True
 |_,_=>False
def mJ (L nb:Nat)(σ:Nat→Nat)(T:Tags)(w:World)(slots:List AV)(tmps:Array Value):Prop :=
 tmps.size=slots.length∧∀ (t:Nat) av v,slots[t]?=some av→tmps[t]?=some v→KW L nb σ T w av v
theorem KW.keep {av:AV}{v:Value}(h:KW L nb σ T w av v)(hw:∀ b,T b=.ro→b<w.heap.size→T' b=.ro∧w'.heap[b]?=w.heap[b]?)(hσ:∀ o,o<nb→σ' o=σ o):KW L nb σ' T' w' av v:=by
 cases av<;>simp only [KW] at h ⊢
 case pv x=>exact aG.frame hw h
 case aO o j=>exact ⟨h.1,by rw [hσ o h.1];exact h.2⟩
 case pp o j =>
  obtain ⟨g0,b,E,e1,e2,e3⟩:=h
  have:=hw b e2 (zw.1 e3).1
  exact ⟨g0,b,E,e1,this.1,by rw [hσ o g0];exact this.2.trans e3⟩
 case fn f caps =>
  obtain ⟨arr,e1,e2,e3⟩:=h
  refine ⟨arr,e1,e2,fun k x u hx hu=>?_⟩
  have:=e3 k x u hx hu
  cases x<;>simp only [iw] at this ⊢
  case pv p=>exact aG.frame hw this
  case aO o j=>exact ⟨this.1,by rw [hσ o this.1];exact this.2⟩
 case lV=>exact h
theorem mJ.keep {slots:List AV}{tmps:Array Value}(h:mJ L nb σ T w slots tmps)(hw:∀ b,T b=.ro→b<w.heap.size→T' b=.ro∧w'.heap[b]?=w.heap[b]?)(hσ:∀ o,o<nb→σ' o=σ o):mJ L nb σ' T' w' slots tmps :=
 ⟨h.1,fun t av v ht hv=>(h.2 t av v ht hv).keep hw hσ⟩
theorem KW.apL {av:AV}{v:Value}{t:Nat}(h:KW L nb σ T w av v)(hnb:nb≤st.boxes.length):kF L σ T st a w t av v:=by
 cases av<;>simp only [KW] at h<;>simp only [kF]
 case pv x=>exact h
 case aO o j=>exact ⟨by omega,h.2⟩
 case pp o j=>exact ⟨by omega,h.2⟩
 case fn f caps =>
  obtain ⟨arr,e1,e2,e3⟩:=h
  refine ⟨arr,e1,e2,fun k x u hx hu=>?_⟩
  have:=e3 k x u hx hu
  cases x<;>simp only [iw] at this ⊢
  case pv p=>exact this
  case aO o j=>exact ⟨by omega,this.2⟩
 case lV=>exact h
theorem mJ.sim {slots:List AV}{boxes:List Box}{ys:List (List PV)}{stop:Option (Option Nat)}{tmps:Array Value}{dfs:List Deferred}(h:mJ L nb σ T w slots tmps)(hnb:nb≤boxes.length)(hb:∀ (o:Nat) bx,boxes[o]?=some bx→iU T w (σ o) o bx)
  (hf:∀ b,w.heap.size≤b→T b=.other):aQ L σ T ⟨slots,boxes,ys,stop⟩ { tmps:=tmps,defers:=dfs } w :=
 ⟨h.1,fun t av v ht hv=>(h.2 t av v ht hv).apL hnb,hb,hf⟩
theorem aQ.froze (h:aQ L σ T st a w):∃ T',mJ L st.boxes.length σ T' w (st.slots.map AV.froze) a.tmps∧(∀ (o:Nat) bx,st.boxes[o]?=some bx→iU T' w (σ o) o bx)∧Still T T':=by
 refine ⟨fun b=>match T b with|.row (.slot _)=>.ro|q=>q,⟨by simp [h.size],fun t av v ht hv=>?_⟩,fun o bx ho=>?_,⟨fun b e=>by simp [e],fun b e=>by simp [e]⟩⟩
 ·rw [zc] at ht
  cases e:st.slots[t]? with
  |none=>rw [e] at ht;cases ht
  |some av0 =>
   rw [e] at ht
   simp only [Zae,ZS.injEq] at ht
   subst ht
   have hA:=h.slots t av0 v e hv
   have hro:∀ b,T b=.ro→(match T b with|.row (.slot _)=>xO.ro|q=>q)=.ro:=fun b e=>by simp [e]
   cases av0<;>simp only [AV.froze,KW]<;>simp only [kF] at hA
   case pv x=>exact aG.frame (fun b e _=>⟨hro b e,rfl⟩) hA
   case row sz es=>exact aV.list (fun b e=>by simp [e]) (fun b e=>hro b e) hA
   case aO o j=>exact hA
   case pp o j =>
    obtain ⟨g0,b,E,e1,e2,e3⟩:=hA
    exact ⟨g0,b,E,e1,hro b e2,e3⟩
   case fn f caps =>
    obtain ⟨arr,e1,e2,e3⟩:=hA
    refine ⟨arr,e1,e2,fun k x u hx hu=>?_⟩
    have:=e3 k x u hx hu
    cases x<;>simp only [iw] at this ⊢
    case pv p=>exact aG.frame (fun b e _=>⟨hro b e,rfl⟩) this
    case aO o j=>exact this
   case lV=>exact hA
 ·have hb:=h.boxes o bx ho
  have hT:(match T (σ o) with|.row (.slot _)=>xO.ro|q=>q)=T (σ o):=by
   obtain ⟨_,_,_,_,h3,_⟩:=hb
   rw [h3];cases hfz:bx.fz<;>simp
  exact hb.frame ⟨hT,rfl⟩ (fun j b e _=>⟨by simp [e],rfl⟩) (fun b e _=>⟨by simp [e],rfl⟩)
theorem mJ.params:∀ {ps:List Nat} {x:List PV} {vs:List Value} {slots sl:List AV} {tmps:Array Value},fP slots ps x=some sl→mJ L nb σ T w slots tmps→vs.length=x.length→(∀ (i:Nat) p v,x[i]?=some p→vs[i]?=some v→aG (fun b=>T b=.ro) w p v) →
  ps.length=vs.length∧mJ L nb σ T w sl ((ps.zip vs).foldl (fun t (p,v)=>t.setIfInBounds p v) tmps)
 |[],[],vs,slots,sl,tmps,hs,h,hl,hr=>by
  simp only [fP,ZS.injEq] at hs
  subst hs
  have:vs=[]:=List.eq_nil_of_length_eq_zero (by simpa using hl)
  subst this
  exact ⟨rfl,h⟩
 |p::ps,q::x,v::vs,slots,sl,tmps,hs,h,hl,hr=>by
  simp only [fP] at hs
  have h1:mJ L nb σ T w (slots.set p (.pv q)) (tmps.setIfInBounds p v):=by
   refine ⟨by simp [h.1],fun t av u ht hu=>?_⟩
   rw [List.getElem?_set] at ht
   rw [ZaQ] at hu
   by_cases e:p=t
   ·subst e
    simp only [if_true] at ht hu
    split at ht
    ·split at hu
     ·cases ht;cases hu
      exact hr 0 q v rfl rfl
     ·cases hu
    ·cases ht
   ·simp only [if_neg e] at ht hu
    exact h.2 t av u ht hu
  obtain ⟨k1,k2⟩:=mJ.params (vs:=vs) hs h1 (by simpa using hl) (fun i p v hp hv=>hr (i+1) p v hp hv)
  exact ⟨by simp [k1],k2⟩
 |[],_::_,_,_,_,_,hs,_,_,_=>by simp [fP] at hs
 |_::_,[],_,_,_,_,hs,_,_,_=>by simp [fP] at hs
 |_::_,_::_,[],_,_,_,_,_,hl,_=>by simp at hl
theorem vS (hg:∀ c vc st e st',mC P c vc=true→rec vc st=some (e,st')→Grow st.boxes.length st st'){ca cb:Code}{slots:List AV}{ps:List Nat}{sZ bd:aj}(ha:mC P ca sZ=true)(hb:mC P cb bd=true) :
  ∀ (xs:List (List PV)) (k:Nat) (s:St) r s',rounds rec slots ps sZ bd nb k xs s=some (r,s')→nb≤s.boxes.length→Grow nb s s'
 |[],k,s,r,s',h,hn=>by
  simp only [rounds,ZS.injEq,ZaA.injEq] at h
  rw [← h.2];exact ⟨hn,ZbE _,rfl⟩
 |x::xs,k,s,r,s',h,hn=>by
  unfold rounds at h
  replace h:=bind_some h
  obtain ⟨sl,h1,h⟩:=h
  replace h:=bind_some h
  obtain ⟨⟨e1,s1⟩,h2,h⟩:=h
  have g1:=hg _ _ _ _ _ ha h2
  simp only at h
  split at h
  case h_2=>cases h
  replace h:=bind_some h
  obtain ⟨⟨e2,s2⟩,h3,h⟩:=h
  have g2:=hg _ _ _ _ _ hb h3
  have g1':Grow nb s s1:=⟨Zaf hn g1.1,g1.2.1,g1.2.2⟩
  have g2':Grow nb s1 s2:=g2.mono g1'.1
  simp only at h
  split at h
  ·split at h
   case isFalse=>cases h
   rename_i hle
   have g3:=vS hg ha hb xs (k+1) _ r s' h (by simp;omega)
   exact (g1'.trans g2').trans ⟨g3.1,g3.2.1,g3.2.2⟩
  ·cases h
  ·simp only [ZS.injEq,ZaA.injEq] at h
   rw [← h.2];exact g1'.trans g2'
end
theorem Ov {ok good:Nat→Prop}{w:World}(hg:∀ b,bZ w b→good b){x:PV}{v:Value}(h:aG ok w x v):aG (fun b=>ok b∧good b) w x v:=by
 induction h with
 |int k n=>exact .int k n
 |bool b=>exact .bool b
 |str s=>exact .str s
 |pO=>exact .pO
 |void v h=>exact .void v h
 |nil sz a=>exact .nil sz a
 |kZ sz a=>exact .kZ sz a
 |list sz es b off c cv h1 h2 h3 h4 h6 h7 h8 ih=>exact .list sz es b off c cv ⟨h1,hg b h2⟩ h2 h3 h4 h6 h7 ih
 |agg cs arr h1 h2 h3 ih=>exact .agg cs arr h1 h2 ih
 |func f caps arr h1 h2 ih=>exact .func f caps arr h1 ih
 |cu cs j b off cv h1 h2 h3 h4 ih=>exact .cu cs j b off cv ⟨h1,hg b h2⟩ h2 h3 ih
def Compat (T Tc:Tags)(K B0:Nat)(w:World):Prop:=∀ b,b<w.heap.size→T b≠.other→Tc b=nS K∨(T b=.ro∧Tc b=.ro∧(b<B0∨bZ w b))
theorem rQ (K:Nat):nS K≠.ro:=by simp [nS]
theorem wW (K:Nat):nS K≠.other:=by simp [nS]
structure Rg where
 L:Nat
 nb:Nat
 K:Nat
 σ0:Nat→Nat
 T1:Tags
 w0:World
 slots:List AV
 tmps:Array Value
 l:Nat
 D:List Nat
 B0:Nat
structure CSx (C:Ctx)(R:Rg)(lp:Loop)(s:St)(T:Tags)(w:World)(σ:Nat→Nat)(Tc:Tags):Prop where
 fs:mJ R.L R.nb σ Tc w R.slots R.tmps
 bx:∀ (o:Nat) b,s.boxes[o]?=some b→iU Tc w (σ o) o b
 fr:∀ b,w.heap.size≤b→Tc b=.other
 j:C.J s.ys.length Tc w
 nbx:R.nb≤s.boxes.length
 stp:s.stop=C.stop
 sg:∀ o,o<R.nb→σ o=R.σ0 o
 sy:bY R.T1 Tc R.w0 w
 cp:Compat T Tc R.K R.B0 w
 rl:w.heap[R.l]?=some (.loop lp)
 rt:Tc R.l=nS R.K
 ro:T R.l=.other
 dd:∀ d∈R.D,w.heap[d]?=some (.deferred (some []))∧Tc d=.ro∧T d=.other
def CS (C:Ctx)(R:Rg)(lp:Loop)(s:St)(T:Tags)(w:World):Prop:=∃ σ Tc,CSx C R lp s T w σ Tc
section
variable {P:Program}{F:Fence}{C:Ctx}{n L nb:Nat}{σ σ':Nat→Nat}{T T' Tc T1 T2:Tags}{st st' st1 s:St}{a a1:Act}{w w' w1:World}{R:Rg}{lp:Loop}
 {rec:aj→St→Option (Ex×St)} {env:Env}
theorem lt_of_heap {o:Obj}{b:Nat}(h:w.heap[b]?=some o):b<w.heap.size:=(zw.1 h).1
theorem CS.take (h:CS C R lp s T w):CS C R lp { s with boxes:=s.boxes.take R.nb } T w:=by
 obtain ⟨σ,Tc,h⟩:=h
 refine ⟨σ,Tc,{ h with bx:=fun o b ho=>?_,nbx:=?_ }⟩
 ·simp only [Zak] at ho
  split at ho
  ·exact h.bx o b ho
  ·cases ho
 ·have:=h.nbx;simp;omega
theorem CS.keep (hC:C.Ok P L)(h:CS C R lp s T w)(hc:xW T T' w w'):CS C R lp s T' w':=by
 classical
 obtain ⟨σ,Tc,h⟩:=h
 have hsame:∀ b,b<w.heap.size→Tc b≠nS R.K→w'.heap[b]?=w.heap[b]?:=fun b hb hd=>by
  by_cases e:T b=.other
  ·exact hc.same b hb (.inr e)
  ·rcases h.cp b hb e with g|⟨g,_⟩
   ·exact absurd g hd
   ·exact hc.same b hb (.inl g)
 obtain ⟨Tn,N9⟩:∃ Tn:Tags,Tn=fun b=>if b<w.heap.size then Tc b else if b<w'.heap.size∧T' b≠.other then nS R.K else .other:=⟨_,rfl⟩
 have hlt:∀ b,b<w.heap.size→Tn b=Tc b:=fun b hb=>by rw [N9];exact if_pos hb
 have hl:=lt_of_heap h.rl
 have hro:∀ b,Tc b=.ro→b<w.heap.size:=fun b e=>by
  rcases ZaJ b w.heap.size with g|g
  ·exact g
  ·rw [h.fr b g] at e;cases e
 have hw:∀ b,Tc b=.ro→b<w.heap.size→Tn b=.ro∧w'.heap[b]?=w.heap[b]?:=fun b e hb=>⟨by rw [hlt b hb,e],hsame b hb (by rw [e];exact (rQ _).symm)⟩
 refine ⟨σ,Tn,⟨h.fs.keep hw fun _ _=>rfl,fun o b ho=>?_,fun b hb=>?_,?_,h.nbx,h.stp,h.sg,h.sy.trans ⟨hc.size,fun b e=>(hw b e (hro b e)).1,fun b hb e=>hsame b hb (by rw [e];exact (rQ _).symm)⟩,fun b hb ht=>?_,?_,?_,?_,fun d hd=>?_⟩⟩
 ·have hb:=h.bx o b ho
  have hbl:=hb.lt
  have hT:Tc (σ o)≠nS R.K:=by
   obtain ⟨_,_,_,_,h3,_⟩:=hb
   rw [h3];split<;>simp [nS]
  exact hb.frame ⟨hlt _ hbl,hsame _ hbl hT⟩ (fun j b e hb=>⟨by rw [hlt b hb,e],hsame b hb (by rw [e];simp [nS])⟩) hw
 ·have:¬ b<w.heap.size:=by have:=hc.size;omega
  rw [N9]
  simp only [if_neg this,if_neg (show ¬ (b<w'.heap.size∧T' b≠.other) by omega)]
 ·refine hC.keep _ _ _ _ _ ⟨hc.size,hc.os,hc.tape,hc.output,fun b hb ht=>?_,fun b e=>(hw b e (hro b e)).1,fun b hb e=>by rw [hlt b hb,e]⟩ h.j
  refine hsame b hb ?_
  rcases ht with e|e<;>rw [e]<;>simp [nS]
 ·by_cases hbl:b<w.heap.size
  ·have ht0:T b≠.other:=fun e=>ht (hc.other b hbl e)
   rw [hlt b hbl]
   rcases h.cp b hbl ht0 with g|⟨g1,g2,g3⟩
   ·exact .inl g
   ·refine .inr ⟨hc.ro b g1,g2,g3.imp id fun hcl=>hcl.same (hc.same b hbl (.inl g1))⟩
  ·left
   rw [N9]
   simp only [if_neg hbl,if_pos (show b<w'.heap.size∧T' b≠.other from ⟨hb,ht⟩)]
 ·rw [hc.same _ hl (.inr h.ro)];exact h.rl
 ·rw [hlt _ hl];exact h.rt
 ·exact hc.other _ hl h.ro
 ·obtain ⟨g1,g2,g3⟩:=h.dd d hd
  have hdl:=lt_of_heap g1
  exact ⟨by rw [hc.same _ hdl (.inr g3)];exact g1,by rw [hlt _ hdl];exact g2,hc.other _ hdl g3⟩
def qG (C:Ctx)(K l:Nat)(S:Nat→Prop)(w:World)(lp:Loop)[DecidablePred S]:Ctx where
 X:=C.X
 stop:=C.stop
 J k T u:=(∀ b,S b→T b=.other)∧(∀ b,S b→b≠l→u.heap[b]?=w.heap[b]?)∧u.heap[l]?=some (.loop lp)∧w.heap.size≤u.heap.size∧C.J k (fun b=>if S b then nS K else T b) u
theorem aiK (hC:C.Ok P L){K l:Nat}{S:Nat→Prop}[DecidablePred S](hS:∀ b,S b→b<w.heap.size)(hl:S l):(qG C K l S w lp).Ok P L:=by
 refine ⟨fun k T T' u u' hc ⟨h1,h2,h3,h4,h5⟩=>⟨fun b hb=>?_,fun b hb hbl=>?_,?_,Zaf h4 hc.size,?_⟩,fun k T u ⟨h1,h2,h3,h4,h5⟩=>(hC.glob _ _ _ h5).frame fun b e _=>⟨?_,rfl⟩,fun s k T u ps vs hs hx hf ⟨h1,h2,h3,h4,h5⟩ hlen hr=>?_⟩
 ·exact hc.other b (by have:=hS b hb;omega) (h1 b hb)
 ·exact (hc.same b (by have:=hS b hb;omega) (.inr (h1 b hb))).trans (h2 b hb hbl)
 ·exact (hc.same l (by have:=hS l hl;omega) (.inr (h1 l hl))).trans h3
 ·refine hC.keep _ _ _ _ _ ⟨hc.size,hc.os,hc.tape,hc.output,fun b hb ht=>?_,fun b e=>?_,fun b hb e=>?_⟩ h5
  ·by_cases hs:S b
   ·simp only [if_pos hs] at ht;rcases ht with e|e<;>simp [nS] at e
   ·simp only [if_neg hs] at ht;exact hc.same b hb ht
  ·by_cases hs:S b
   ·simp only [if_pos hs] at e;simp [nS] at e
   ·simp only [if_neg hs] at e ⊢;exact hc.ro b e
  ·by_cases hs:S b
   ·simp only [if_pos hs] at e;simp [nS] at e
   ·simp only [if_neg hs] at e ⊢;exact hc.other b hb e
 ·by_cases hs:S b
  ·simp only [if_pos hs] at e;simp [nS] at e
  ·simp only [if_neg hs] at e;exact e
 ·have hns:∀ b,T b≠.other→¬ S b:=fun b hb hs=>hb (h1 b hs)
  obtain ⟨f,tm,sZ,bd,k1,k2⟩:=hC.lV s k (fun b=>if S b then nS K else T b) u ps vs hs hx (fun b hb=>by
   have:¬ S b:=fun hs=>by have:=hS b hs;omega
   simp only [if_neg this];exact hf b hb) h5 hlen (fun i p v hp hv=>(hr i p v hp hv).frame fun b hb _=>⟨by simp only [if_neg (hns b (by rw [hb];simp))];exact hb,rfl⟩)
  refine ⟨f,tm,sZ,bd,k1,fun n=>?_⟩
  refine (k2 n).mono fun e w3 hq=>?_
  obtain ⟨g1,g2,g3⟩:=hq
  have hse:∀ b,(if S b then nS K else T b)≠.other→b<u.heap.size→w3.heap[b]?=u.heap[b]?:=g3.2
  refine ⟨g1,⟨h1,fun b hb hbl=>?_,?_,Zaf h4 g3.1,g2⟩,g3.1,fun b hb hbl=>hse b (by rw [if_neg (hns b hb)];exact hb) hbl⟩
  ·exact (hse b (by rw [if_pos hb];simp [nS]) (by have:=hS b hb;omega)).trans (h2 b hb hbl)
  ·exact (hse l (by rw [if_pos hl];simp [nS]) (by have:=hS l hl;omega)).trans h3
end
section
variable {P:Program}{F:Fence}{C:Ctx}{n L nb:Nat}{σ σ':Nat→Nat}{T T' Tc T1 T2:Tags}{st st' st1 s:St}{a a1:Act}{w w' w1:World}{R:Rg}{lp:Loop}
 {rec:aj→St→Option (Ex×St)} {env:Env}
def uo:Ex→Option Code
 |.normal=>none
 |.ret=>some .ret
 |.exit i=>some (.exit i)
 |.oL _ _=>none
theorem VI (C:Ctx)(K l:Nat)(S:Nat→Prop)(w:World)(lp:Loop)[DecidablePred S]:(qG C K l S w lp).Rec (Fence.wide.inRound l):=fun l' e k T u h=>by
 have:(Fence.wide.inRound l).round=(Fence.wide.inRound l').round:=by rw [← e]
 have:l=l':=ZS.inj this
 subst this
 exact ⟨lp,h.2.2.1⟩
set_option maxHeartbeats 1000000 in
theorem Ox (hR:qj P rec)(hC:C.Ok P R.L){ca cb:Code}{sZ bd:aj}(ha:mC P ca sZ=true)(hb:mC P cb bd=true){fn:FuncId}{ps:Array Tmp}{dd:Nat}{rc:LoopState→Option Code→Loop}
  (hrc:rc=fun st pe=>{ state:=st,pending:=pe,fn:=fn,tmps:=R.tmps,params:=ps,assign:=ca,body:=cb,defers:=dd })
  (hcs:CS C R (rc .ready none) s T w) (hT:∀ b,w.heap.size≤b→T b=.other) (hD:R.l ∉ R.D) {x:List PV} {vs:List Value} (hvs:vs.length=x.length) (hrep:∀ (i:Nat) p v,x[i]?=some p→vs[i]?=some v→aG (fun b=>T b=.ro) w p v)
  {sl:List AV} {sa sb:St} {e:Ex} (h1:fP R.slots ps.toList x=some sl) (h2:rec sZ { s with slots:=sl }=some (.normal,sa)) (h3:rec bd sa=some (e,sb)) (hX:sb.ys <+: C.X) (he:∀ t n,e≠.oL t n) :
  ∃ f ahT Ou bd',(Instr.yield R.l vs.toArray).run P w=.ok (.round R.l f ahT Ou bd') w∧∀ n,RoundIn Fence.wide n P R.l f ahT Ou bd' w fun en w'=>en=.returned (.bool (uo e).isNone) ∧
   CS C R (rc (if (uo e).isNone then .ready else .done) (uo e)) sb T w'∧qE T w w':=by
 classical
 obtain ⟨σ1,Tc,h⟩:=hcs
 have hll:=lt_of_heap h.rl
 obtain ⟨Ty,hTy⟩:∃ Ty:Tags,Ty=fun b=>if Tc b=nS R.K∧T b=.ro∧bZ w b then .ro else Tc b:=⟨_,rfl⟩
 have ty1:∀ b,Tc b=nS R.K∧T b=.ro∧bZ w b→Ty b=.ro:=fun b hb=>by rw [hTy];exact if_pos hb
 have ty2:∀ b,¬ (Tc b=nS R.K∧T b=.ro∧bZ w b)→Ty b=Tc b:=fun b hb=>by rw [hTy];exact if_neg hb
 have ty3:∀ b,Tc b≠nS R.K→Ty b=Tc b:=fun b hb=>ty2 b fun g=>hb g.1
 obtain ⟨Sx,hSx⟩:∃ Sx:Nat→Prop,Sx=fun b=>b<w.heap.size∧Ty b=nS R.K:=⟨_,rfl⟩
 have hSl:∀ b,Sx b→b<w.heap.size:=fun b hb=>by rw [hSx] at hb;exact hb.1
 have hSd:∀ b,Sx b→Ty b=nS R.K:=fun b hb=>by rw [hSx] at hb;exact hb.2
 have apM:Ty R.l=nS R.K:=by rw [ty2 _ fun g=>(by have:=g.2.1;rw [h.ro] at this;cases this)];exact h.rt
 have hlS:Sx R.l:=by rw [hSx];exact ⟨hll,apM⟩
 have aaJ:∀ b,w.heap.size≤b→Ty b=.other:=fun b hb=>by rw [ty3 b (by rw [h.fr b hb];exact (wW _).symm),h.fr b hb]
 obtain ⟨Tz,hTz⟩:∃ Tz:Tags,Tz=aaI Ty R.K:=⟨_,rfl⟩
 have tz1:∀ b,Sx b→Tz b=.other:=fun b hb=>by rw [hTz];exact XR (hSd b hb)
 have tz2:∀ b,Ty b≠nS R.K→Tz b=Ty b:=fun b hb=>by rw [hTz];exact XT hb
 have hre:(fun b=>if Sx b then nS R.K else Tz b)=Ty:=by
  funext b
  by_cases hb:Sx b
  ·simp only [if_pos hb];exact (hSd b hb).symm
  ·simp only [if_neg hb]
   refine tz2 b fun e=>hb ?_
   rw [hSx]
   refine ⟨?_,e⟩
   rcases ZaJ b w.heap.size with g|g
   ·exact g
   ·rw [aaJ b g] at e;exact absurd e.symm (wW _)
 have aaK:∀ b,Tc b≠nS R.K→Tz b=Tc b:=fun b hb=>by rw [tz2 b (by rw [ty3 b hb];exact hb),ty3 b hb]
 have hro:∀ b,Tc b=.ro→b<w.heap.size→Tz b=.ro∧w.heap[b]?=w.heap[b]?:=fun b e _=>⟨by rw [aaK b (by rw [e];exact (rQ _).symm),e],rfl⟩
 -- the round's own state
 have hJy:C.J s.ys.length Ty w:=hC.keep _ _ _ _ _ ⟨ze _,rfl,rfl,rfl,fun _ _ _=>rfl,fun b e=>by rw [ty3 b (by rw [e];exact (rQ _).symm),e],fun b _ e=>by rw [ty3 b (by rw [e];exact (wW _).symm),e]⟩ h.j
 have hbz:∀ (o:Nat) b,s.boxes[o]?=some b→iU Tz w (σ1 o) o b:=fun o b ho=>by
  have hb:=h.bx o b ho
  have hT0:Tc (σ1 o)≠nS R.K:=by
   obtain ⟨_,_,_,_,h3,_⟩:=hb
   rw [h3];split<;>simp [nS]
  exact hb.frame ⟨aaK _ hT0,rfl⟩ (fun j b e _=>⟨by rw [aaK b (by rw [e];simp [nS]),e],rfl⟩) hro
 have hfz:∀ b,w.heap.size≤b→Tz b=.other:=fun b hb=>by rw [tz2 b (by rw [aaJ b hb];exact (wW _).symm),aaJ b hb]
 obtain ⟨hpl,hfs⟩:=mJ.params (T:=Tz) (w:=w) h1 (h.fs.keep hro fun _ _=>rfl) hvs (fun i p v hp hv=>(Ov (fun b hcl=>hcl) (hrep i p v hp hv)).frame fun b ⟨hb,hcl⟩ hbl=>⟨by
  rcases h.cp b hbl (by rw [hb];simp) with g|⟨_,g,_⟩
  ·rw [tz2 b (by rw [ty1 b ⟨g,hb,hcl⟩];exact (rQ _).symm),ty1 b ⟨g,hb,hcl⟩]
  ·exact (hro b g hbl).1,rfl⟩)
 have KX:aQ R.L σ1 Tz { s with slots:=sl } { tmps:=(ps.toList.zip vs).foldl (fun t (p,v)=>t.setIfInBounds p v) R.tmps,defers:=[] } w:=hfs.sim h.nbx hbz hfz
 have hOk:∀ lp,(qG C R.K R.l Sx w lp).Ok P R.L:=fun lp=>aiK hC hSl hlS
 have hJ0:(qG C R.K R.l Sx w (rc .ready none)).J s.ys.length Tz w:=⟨tz1,fun _ _ _=>rfl,h.rl,ze _,by rw [hre];exact hJy⟩
 have ga:=hR.grow _ _ _ _ _ ha h2
 have gb:=hR.grow _ _ _ _ _ hb h3
 have hy:=run_yield (P:=P) (args:=vs.toArray) h.rl (by rw [hrc];simp only [ZaN];rw [← hpl];simp)
 refine ⟨fn,_,ca,cb,by rw [hrc] at hy;exact hy,fun n=>roundIn_of_wpIn (show Fence.wide.fn fn from trivial) ?_⟩
 have hfold:(ps.zip vs.toArray).foldl (fun t (p,v)=>t.setIfInBounds p v) R.tmps=(ps.toList.zip vs).foldl (fun t (p,v)=>t.setIfInBounds p v) R.tmps:=by
  rw [← Array.foldl_toList];simp
 have aiM:((ps.zip vs.toArray).foldl (fun tmps (x:Tmp×Value)=>match x with|(t,a)=>tmps.setIfInBounds t a) R.tmps)=(ps.toList.zip vs).foldl (fun t (p,v)=>t.setIfInBounds p v) R.tmps:=hfold
 rw [aiM]
 refine wpIn_mono (hR.wp (.inr ⟨R.l,rfl⟩) (VI C R.K R.l Sx w (rc .ready none)) (hOk _) ca sZ _ .normal sa ha h2 h.stp (gb.2.1.trans hX) σ1 Tz _ w KX hJ0) ?_
 rintro xx aa wa ⟨rfl,σa,Ta,msa,p1,p2,p3,p4,_,_⟩
 obtain ⟨q1,q2,q3,q4,q5⟩:=p2
 have hla:=lt_of_heap q3
 refine ⟨wa.putObj R.l (.loop (rc .busy none)),by have:=run_beginRound (P:=P) q3 (by rw [hrc]);rw [hrc] at this ⊢;exact this,?_⟩
 have hpo:∀ b,b≠R.l→(wa.putObj R.l (.loop (rc .busy none))).heap[b]?=wa.heap[b]?:=fun b hb=>World.putObj_heap_other hb
 have hps:(wa.putObj R.l (.loop (rc .busy none))).heap.size=wa.heap.size:=by simp [World.putObj]
 have hsa:aQ R.L σa Ta sa aa (wa.putObj R.l (.loop (rc .busy none))):=p1.sees ⟨by rw [hps];exact ze _,fun b hb _=>hpo b fun e=>hb (by rw [e];exact q1 _ hlS)⟩
 have hJa:(qG C R.K R.l Sx w (rc .busy none)).J sa.ys.length Ta (wa.putObj R.l (.loop (rc .busy none))):=by
  refine ⟨q1,fun b hb hbl=>(hpo b hbl).trans (q2 b hb hbl),World.putObj_heap_same hla,by rw [hps];exact q4,?_⟩
  refine hC.keep _ _ _ wa _ ⟨by rw [hps];exact ze _,rfl,rfl,rfl,fun b hb ht=>hpo b fun e=>?_,fun _ e=>e,fun _ _ e=>e⟩ q5
  subst e
  simp only [if_pos hlS] at ht
  rcases ht with e|e<;>simp [nS] at e
 refine wpIn_mono (hR.wp (.inr ⟨R.l,rfl⟩) (VI C R.K R.l Sx w (rc .busy none)) (hOk _) cb bd _ e sb hb h3 (ga.2.2.trans h.stp) hX σa Ta _ _ hsa hJa) ?_
 rintro xx ab wb ⟨rfl,σb,Tb,msb,r1,r2,r3,r4,_,_⟩
 obtain ⟨t1,t2,t3,t4,t5⟩:=r2
 have hlb:=lt_of_heap t3
 have hend:∀ j:Option Code,(Instr.endRound R.l j).run P wb=.ok (.bool j.isNone) (wb.putObj R.l (.loop (rc (if j.isNone then .ready else .done) j))):=fun j=>by
  have:=run_endRound (P:=P) j t3
  rw [hrc] at this ⊢
  exact this
 obtain ⟨w3,hw3⟩:∃ w3,w3=wb.putObj R.l (.loop (rc (if (uo e).isNone then .ready else .done) (uo e))):=⟨_,rfl⟩
 have hpb:∀ b,b≠R.l→w3.heap[b]?=wb.heap[b]?:=fun b hb=>by rw [hw3];exact World.putObj_heap_other hb
 have ami:w3.heap.size=wb.heap.size:=by rw [hw3];simp [World.putObj]
 have hsz:w.heap.size≤w3.heap.size:=by rw [ami];exact t4
 -- what is read only stays
 have stay:∀ b,Tz b=.ro→b<w.heap.size→Tb b=.ro∧w3.heap[b]?=w.heap[b]?:=fun b hz hbl=>by
  have hbS:¬ Sx b:=fun hs=>by rw [tz1 b hs] at hz;cases hz
  have aaL:b≠R.l:=fun e=>hbS (by rw [e];exact hlS)
  have e1:=p4.ro b hz
  have e2:=r4.ro b e1
  refine ⟨e2,?_⟩
  rw [hpb b aaL,r4.same b (by rw [hps];exact Zan hbl p4.size) e1,hpo b aaL,p4.same b hbl hz]
 have hnS:∀ b,Tb b≠.other→¬ Sx b:=fun b hb hs=>hb (t1 b hs)
 have N9:∀ b,¬ Sx b→(if Sx b then nS R.K else Tb b)=Tb b:=fun b hb=>if_neg hb
 have KY:∀ b,Tc b=.ro→b<w.heap.size→(fun b=>if Sx b then nS R.K else Tb b) b=.ro∧w3.heap[b]?=w.heap[b]?:=fun b hb hbl=>by
  obtain ⟨e1,e2⟩:=stay b (hro b hb hbl).1 hbl
  exact ⟨by show (if Sx b then nS R.K else Tb b)=.ro;rw [N9 b (hnS b (by rw [e1];simp)),e1],e2⟩
 have amj:∀ b,Tc b=.ro→b<w.heap.size:=fun b hb=>by
  rcases ZaJ b w.heap.size with g|g
  ·exact g
  ·rw [h.fr b g] at hb;cases hb
 have hσ:∀ o,o<R.nb→σb o=σ1 o:=fun o ho=>by
  have k1:R.nb≤s.boxes.length:=h.nbx
  have k2:s.boxes.length≤sa.boxes.length:=ga.1
  rw [r3 o (by omega),p3 o (by show o<s.boxes.length;omega)]
 have aiN:Tb R.l=.other:=t1 _ hlS
 have hfin:CS C R (rc (if (uo e).isNone then .ready else .done) (uo e)) sb T w3:=by
  refine ⟨σb,fun b=>if Sx b then nS R.K else Tb b,⟨h.fs.keep KY hσ,fun o b ho=>?_,fun b hb=>?_,?_,?_,?_,fun o ho=>(hσ o ho).trans (h.sg o ho),?_,fun b hb ht=>?_,?_,if_pos hlS,h.ro,fun d hd=>?_⟩⟩
  ·have hbx:=r1.boxes o b ho
   have hne:Tb (σb o)≠.other:=by
    obtain ⟨_,_,_,_,h3,_⟩:=hbx
    rw [h3];split<;>simp
   refine hbx.frame ⟨N9 _ (hnS _ hne),hpb _ fun e=>hne (by rw [e];exact aiN)⟩ (fun j b e _=>⟨by rw [N9 b (hnS b (by rw [e];simp)),e],hpb b fun e2=>by rw [e2,aiN] at e;cases e⟩) (fun b e _=>⟨by rw [N9 b (hnS b (by rw [e];simp)),e],hpb b fun e2=>by rw [e2,aiN] at e;cases e⟩)
  ·have:¬ Sx b:=fun hs=>by have:=hSl b hs;omega
   rw [N9 b this]
   exact r1.fresh b (by omega)
  ·refine hC.keep _ _ _ wb _ ⟨by rw [ami];exact ze _,by rw [hw3];rfl,by rw [hw3];rfl,by rw [hw3];rfl,fun b hb ht=>hpb b fun e=>?_,fun _ e=>e,fun _ _ e=>e⟩ t5
   subst e
   simp only [if_pos hlS] at ht
   rcases ht with e|e<;>simp [nS] at e
  ·have:=ga.1;have:=gb.1;have:=h.nbx
   have e1:s.boxes.length≤sa.boxes.length:=ga.1
   omega
  ·exact gb.2.2.trans (ga.2.2.trans h.stp)
  ·exact h.sy.trans ⟨hsz,fun b hb=>(KY b hb (amj b hb)).1,fun b hbl hb=>(KY b hb hbl).2⟩
  ·have hbl:b<w.heap.size:=by
    rcases ZaJ b w.heap.size with g|g
    ·exact g
    ·exact absurd (hT b g) ht
   have conv:Tz b=.ro→(fun b=>if Sx b then nS R.K else Tb b) b=.ro∧w3.heap[b]?=w.heap[b]?:=fun hz=>by
    obtain ⟨e1,e2⟩:=stay b hz hbl
    exact ⟨by show (if Sx b then nS R.K else Tb b)=.ro;rw [N9 b (hnS b (by rw [e1];simp)),e1],e2⟩
   rcases h.cp b hbl ht with g|⟨g1,g2,g3⟩
   ·by_cases hc:T b=.ro∧bZ w b
    ·have ey:=ty1 b ⟨g,hc.1,hc.2⟩
     obtain ⟨e1,e2⟩:=conv (by rw [tz2 b (by rw [ey];exact (rQ _).symm),ey])
     exact .inr ⟨hc.1,e1,.inr (hc.2.same e2)⟩
    ·have ey:Ty b=nS R.K:=by rw [ty2 b fun q=>hc q.2];exact g
     exact .inl (if_pos (by rw [hSx];exact ⟨hbl,ey⟩))
   ·obtain ⟨e1,e2⟩:=conv (hro b g2 hbl).1
    exact .inr ⟨g1,e1,g3.imp id fun q=>q.same e2⟩
  ·rw [hw3];exact World.putObj_heap_same hlb
  ·obtain ⟨k1,k2,k3⟩:=h.dd d hd
   obtain ⟨e1,e2⟩:=KY d k2 (lt_of_heap k1)
   exact ⟨by rw [e2];exact k1,e1,k3⟩
 have Jo:qE T w w3:=by
  refine ⟨hsz,fun b hb hbl=>?_⟩
  have aaL:b≠R.l:=fun e=>hb (by rw [e];exact h.ro)
  by_cases hs:Sx b
  ·rw [hpb b aaL];exact t2 b hs aaL
  ·refine (stay b ?_ hbl).2
   rcases h.cp b hbl hb with g|⟨g1,g2,g3⟩
   ·by_cases hc:T b=.ro∧bZ w b
    ·have ey:=ty1 b ⟨g,hc.1,hc.2⟩
     rw [tz2 b (by rw [ey];exact (rQ _).symm),ey]
    ·exact absurd (by rw [hSx];exact ⟨hbl,by rw [ty2 b fun q=>hc q.2];exact g⟩) hs
   ·exact (hro b g2 hbl).1
 rw [hw3] at hfin Jo
 cases e with
 |normal=>exact ⟨_,_,hend none,rfl,hfin,Jo⟩
 |ret=>exact ⟨_,_,hend (some .ret),rfl,hfin,Jo⟩
 |exit i=>exact ⟨_,_,hend (some (.exit i)),rfl,hfin,Jo⟩
 |oL t n=>exact absurd rfl (he t n)
end
section
variable {P:Program}{F:Fence}{C:Ctx}{n L nb:Nat}{σ σ':Nat→Nat}{T T' Tc T1 T2:Tags}{st st' st1 s:St}{a a1:Act}{w w' w1:World}{R:Rg}{lp:Loop}
 {rec:aj→St→Option (Ex×St)} {env:Env} {e:Ex}
def zC (P:Program)(env:Env):Prop:=∀ f fn,env f=some (.code fn)→callable P f=true∧∃ g c,P.funcs[f]?=some g∧g.body=some c∧mC P c fn.body=true∧g.ntmps=fn.ntmps∧fn.nargs≤fn.ntmps∧(fn.results.isEmpty=true→g.results=#[])
theorem vT {fn:Func}{R:Ending→World→Prop}{B:Nat}:∀ {ms:List Nat} {w:World},ms.Nodup→(∀ r∈ms,B≤r∧w.heap[r]?=some (.deferred (some []))) →
  (∀ w',w'.os=w.os→w'.tape=w.tape→w'.output=w.output→w'.heap.size=w.heap.size→(∀ b,b ∉ ms→w'.heap[b]?=w.heap[b]?)→∃ v,(results fn a.tmps).run P w'=.ok v w'∧R (.returned v) w') →
  LeavesInM Fence.wide 0 P fn a.tmps R (ms.map jX) .returning w
 |[],w,_,_,h=>by
  simp only [Zar,LeavesInM,LeavesIn]
  exact h w rfl rfl rfl rfl fun _ _=>rfl
 |r::ms,w,hnd,hms,h=>by
  simp only [Zai,LeavesInM]
  obtain ⟨hn1,hn2⟩:=Zcr.1 hnd
  obtain ⟨k1,k2⟩:=hms r (by simp)
  have hr:r<w.heap.size:=(zw.1 k2).1
  have hput:∀ b,b≠r→(w.putObj r (.deferred none)).heap[b]?=w.heap[b]?:=fun b hb=>by simp [World.putObj,ZaQ,Ne.symm hb]
  refine ⟨by simp,.inl ⟨r,_,rfl,run_takeDeferred k2,vT (B:=B) hn2 (fun r' hr'=>?_) fun w' e1 e2 e3 e4 e5=>h w' e1 e2 e3 (by rw [e4];simp [World.putObj]) fun b hb=>?_⟩⟩
  ·obtain ⟨q1,q2⟩:=hms r' (by simp [hr'])
   exact ⟨q1,by rw [hput r' (fun e=>hn1 (e ▸ hr'))];exact q2⟩
  ·simp only [ZaK,not_or] at hb
   rw [e5 b hb.2,hput b hb.1]
theorem Ju {slots:List AV}{ps:List Nat}{sZ bd:aj}:∀ (xs:List (List PV)) (k:Nat) (s:St) e m s',rounds rec slots ps sZ bd nb k xs s=some (some (e,m),s')→e≠.normal∧∀ t n,e≠.oL t n
 |[],k,s,e,m,s',h=>by simp [rounds] at h
 |x::xs,k,s,e,m,s',h=>by
  unfold rounds at h
  replace h:=bind_some h
  obtain ⟨sl,h1,h⟩:=h
  replace h:=bind_some h
  obtain ⟨⟨e1,s1⟩,h2,h⟩:=h
  simp only at h
  split at h
  case h_2=>cases h
  replace h:=bind_some h
  obtain ⟨⟨e2,s2⟩,h3,h⟩:=h
  simp only at h
  split at h
  ·split at h
   ·exact Ju xs (k+1) _ e m s' h
   ·cases h
  ·cases h
  ·rename_i hne hne2
   simp only [ZS.injEq,ZaA.injEq] at h
   rw [← h.1.1]
   exact ⟨fun e=>hne e,fun t n e=>hne2 t n e⟩
def aaM:Option (Ex×Nat)→Ex
 |none=>.normal
 |some (e,_)=>e
def itC (C:Ctx)(R:Rg)(rec:aj→St→Option (Ex×St))(rc:LoopState→Option Code→Loop)(ps:List Nat)(sZ bd:aj)(xs:List (List PV))(stop:Option Nat)(r:Option (Ex×Nat))(s1:St):Ctx where
 X:=xs
 stop:=some stop
 J k T w:=jW T w∧((∃ s,rounds rec R.slots ps sZ bd R.nb k (xs.drop k) s=some (r,s1)∧CS C R (rc .ready none) s T w) ∨
  (∃ e,r=some (e,k)∧xs.length=k∧CS C R (rc .done (uo e)) s1 T w))
theorem aiO (hR:qj P rec)(hC:C.Ok P R.L){ca cb:Code}{sZ bd:aj}(ha:mC P ca sZ=true)(hb:mC P cb bd=true){fn:FuncId}{ps:Array Tmp}{dd:Nat}{rc:LoopState→Option Code→Loop}
  (hrc:rc=fun st pe=>{ state:=st,pending:=pe,fn:=fn,tmps:=R.tmps,params:=ps,assign:=ca,body:=cb,defers:=dd }) (hD:R.l ∉ R.D) {xs:List (List PV)} {stop:Option Nat} {r:Option (Ex×Nat)} {s1:St}
  (hcons:(stop=none∧r=none)∨∃ e m,stop=some m∧r=some (e,m)∧xs.length=m) (hX:s1.ys <+: C.X):(itC C R rec rc ps.toList sZ bd xs stop r s1).Ok P R.l:=by
 refine ⟨fun k T T' w w' hc ⟨hG,h⟩=>⟨hG.frame fun b e hb=>⟨hc.ro b e,hc.same b hb (.inl e)⟩,?_⟩,fun k T w h=>h.1,fun q k T w x vs hs hx hf h hlen hrep=>?_⟩
 ·rcases h with ⟨s,h1,h2⟩|⟨e,h1,h2,h3⟩
  ·exact .inl ⟨s,h1,h2.keep hC hc⟩
  ·exact .inr ⟨e,h1,h2,h3.keep hC hc⟩
 ·have hq:q=stop:=(ZS.inj hs).symm
  subst hq
  have hx':xs[k]?=some x:=hx
  have hk:k<xs.length:=(zb.1 hx').1
  obtain ⟨hG,h⟩:=h
  rcases h with ⟨s,h1,h2⟩|⟨e,h1,h2,h3⟩
  case inr=>omega
  have hdrop:xs.drop k=x::xs.drop (k+1):=by
   rw [zr hk]
   congr 1
   rw [ZD hk] at hx'
   exact ZS.inj hx'
  rw [hdrop] at h1
  unfold rounds at h1
  replace h1:=bind_some h1
  obtain ⟨sl,g1,h1⟩:=h1
  replace h1:=bind_some h1
  obtain ⟨⟨e1,sa⟩,g2,h1⟩:=h1
  simp only at h1
  split at h1
  case h_2=>cases h1
  replace h1:=bind_some h1
  obtain ⟨⟨e2,sb⟩,g3,h1⟩:=h1
  simp only at h1
  obtain ⟨σ0,Tc0,hcs0⟩:=h2
  have hnb:=hcs0.nbx
  have h2:CS C R (rc .ready none) s T w:=⟨σ0,Tc0,hcs0⟩
  have ga:=hR.grow _ _ _ _ _ ha g2
  have gb:=hR.grow _ _ _ _ _ hb g3
  split at h1
  ·-- it goes on
   split at h1
   case isFalse=>cases h1
   rename_i hle
   have hgr:=vS hR.grow ha hb (xs.drop (k+1)) (k+1) _ r s1 h1 (by simp;omega)
   obtain ⟨f,tm,Ou,bd',q1,q2⟩:=Ox hR hC ha hb hrc h2 hf hD hlen hrep g1 g2 g3 (hgr.2.1.trans hX) (fun _ _ e=>by cases e)
   refine ⟨f,tm,Ou,bd',q1,fun n=>(q2 n).mono fun en w3 hq=>?_⟩
   obtain ⟨t1,t2,t3⟩:=hq
   have hgo:vN q k=true:=by
    rcases hcons with ⟨e1,_⟩|⟨e,m,e1,e2,e3⟩
    ·rw [e1];rfl
    ·rw [e1]
     have:k+1≠m:=fun he=>by
      have:xs.drop (k+1)=[]:=Za7 (by omega)
      rw [this] at h1
      simp only [rounds,ZS.injEq,ZaA.injEq] at h1
      rw [e2] at h1
      cases h1.1
     simp [vN,this]
   refine ⟨by rw [t1,hgo];rfl,⟨hG.frame fun b e hb=>⟨e,t3.2 b (by rw [e];simp) hb⟩,.inl ⟨_,h1,t2.take⟩⟩,t3⟩
  ·cases h1
  ·rename_i hne hne2
   simp only [ZS.injEq,ZaA.injEq] at h1
   obtain ⟨hr1,hr2⟩:=h1
   subst hr2
   obtain ⟨f,tm,Ou,bd',q1,q2⟩:=Ox hR hC ha hb hrc h2 hf hD hlen hrep g1 g2 g3 hX (fun t n e=>hne2 t n e)
   refine ⟨f,tm,Ou,bd',q1,fun n=>(q2 n).mono fun en w3 hq=>?_⟩
   obtain ⟨t1,t2,t3⟩:=hq
   have hj:(uo e2).isNone=false:=by cases e2<;>first|rfl|exact absurd rfl hne|exact absurd rfl (hne2 _ _)
   rcases hcons with ⟨_,e1⟩|⟨e,m,e1,e2',e3⟩
   ·rw [e1] at hr1;cases hr1
   ·have hm:m=k+1:=by rw [e2'] at hr1;cases hr1;rfl
    have hgo:vN q k=false:=by rw [e1,hm];simp [vN]
    rw [hj] at t1 t2
    refine ⟨by rw [t1,hgo],⟨hG.frame fun b e hb=>⟨e,t3.2 b (by rw [e];simp) hb⟩,.inr ⟨e2,hr1.symm,by omega,t2⟩⟩,t3⟩
theorem aiP (hC:C.Ok P R.L)(h:CS C R lp s T w){ms:List Nat}(hms:∀ r∈ms,R.B0≤r∧T r=.ro∧w.heap[r]?=some (.deferred (some [])))(hw:∀ b,b ∉ ms→w'.heap[b]?=w.heap[b]?)(hsz:w'.heap.size=w.heap.size)(hos:w'.os=w.os)(htp:w'.tape=w.tape)(hou:w'.output=w.output)
  (hlp:lp.state≠.busy) {T0:Tags} (hst:Still T0 R.T1) {ds:List Deferred} (hDl:∀ d∈R.D,R.w0.heap.size≤d) (hDn:R.D.Nodup) (hlD:R.l ∉ R.D) :
  ∃ w4,(Instr.endLoop R.l).run P w'=.ok lp.pending w4∧After C R.L R.nb R.σ0 T0 R.w0 { s with slots:=R.slots } ds { tmps:=R.tmps,defers:=R.D.map jX++ds } w4:=by
 obtain ⟨σ,Tc,h⟩:=h
 have apN:∀ r∈ms,Tc r=nS R.K:=fun r hr=>by
  obtain ⟨g1,g2,g3⟩:=hms r hr
  rcases h.cp r (lt_of_heap g3) (by rw [g2];simp) with g|⟨_,_,g⟩
  ·exact g
  ·rcases g with g|⟨arr,E,q,g⟩
   ·omega
   ·rw [g3] at g;cases g
 have hl:w'.heap[R.l]?=some (.loop lp):=by
  rw [hw R.l fun hr=>by have:=(hms _ hr).2.1;rw [h.ro] at this;cases this];exact h.rl
 refine ⟨_,run_endLoop (P:=P) hl hlp,?_⟩
 obtain ⟨w4,hw4⟩:∃ w4,w4=w'.putObj R.l (.loop { lp with state:=.exhausted }):=⟨_,rfl⟩
 rw [← hw4]
 have hsame:∀ b,Tc b≠nS R.K→w4.heap[b]?=w.heap[b]?:=fun b hb=>by
  rw [hw4,World.putObj_heap_other (fun e=>hb (by rw [e];exact h.rt)),hw b fun hr=>hb (apN b hr)]
 have apP:w4.heap.size=w.heap.size:=by rw [hw4];simp [World.putObj,hsz]
 have hw1:∀ b,Tc b=.ro→b<w.heap.size→Tc b=.ro∧w4.heap[b]?=w.heap[b]?:=fun b e _=>⟨e,hsame b (by rw [e];exact (rQ _).symm)⟩
 refine ⟨σ,Tc,R.D,(h.fs.keep hw1 fun _ _=>rfl).sim h.nbx (fun o b ho=>?_) (fun b hb=>h.fr b (by omega)),?_,h.sg,?_,rfl,fun d hd=>⟨hDl d hd,(h.dd d hd).2.1,?_⟩,hDn⟩
 ·have hb:=h.bx o b ho
  have hT:Tc (σ o)≠nS R.K:=by
   obtain ⟨_,_,_,_,h3,_⟩:=hb
   rw [h3];split<;>simp [nS]
  exact hb.frame ⟨rfl,hsame _ hT⟩ (fun j b e _=>⟨e,hsame b (by rw [e];simp [nS])⟩) hw1
 ·refine hC.keep _ _ _ w _ ⟨by omega,by rw [hw4];exact hos,by rw [hw4];exact htp,by rw [hw4];exact hou,fun b _ ht=>hsame b ?_,fun _ e=>e,fun _ _ e=>e⟩ h.j
  rcases ht with e|e<;>rw [e]<;>simp [nS]
 ·refine ((hst.oC R.w0).stays.trans h.sy).trans ⟨by omega,fun b e=>e,fun b _ e=>hsame b (by rw [e];exact (rQ _).symm)⟩
 ·rw [hsame d (by rw [(h.dd d hd).2.1];exact (rQ _).symm)];exact (h.dd d hd).1
set_option maxHeartbeats 1000000 in
theorem Oy (hR:qj P rec)(hI:zC P env)(hC:C.Ok P R.L){ca cb:Code}{sZ bd:aj}(ha:mC P ca sZ=true)(hb:mC P cb bd=true){fnr:FuncId}{ps:Array Tmp}{dd:Nat}{rc:LoopState→Option Code→Loop}
  (hrc:rc=fun st pe=>{ state:=st,pending:=pe,fn:=fnr,tmps:=R.tmps,params:=ps,assign:=ca,body:=cb,defers:=dd }) {xs:List (List PV)} {stop:Option Nat} {r:Option (Ex×Nat)} {s1:St}
  (hcons:(stop=none∧r=none)∨∃ e m,stop=some m∧r=some (e,m)∧xs.length=m) (hX:s1.ys <+: C.X)
  {f:Nat} {caps:List PV} {arr:Array Value} (hit:jR rec env f caps stop=some xs) (hrd:rounds rec R.slots ps.toList sZ bd R.nb 0 xs s=some (r,s1))
  (hsl:R.slots.length=R.K) (hfs:mJ R.L R.nb R.σ0 R.T1 R.w0 R.slots R.tmps) (hbx:∀ (o:Nat) b,s.boxes[o]?=some b→iU R.T1 R.w0 (R.σ0 o) o b) (hnb:R.nb=s.boxes.length) (hfr:∀ b,R.w0.heap.size≤b→R.T1 b=.other) (hJ:C.J s.ys.length R.T1 R.w0) (hst:s.stop=C.stop)
  (ha1:arr.size=caps.length) (ha2:∀ (i:Nat) p v,caps[i]?=some p→arr[i]?=some v→aG (fun b=>R.T1 b=.ro) R.w0 p v)
  {W:World} (hB:R.B0=W.heap.size) (hW1:R.w0.heap.size≤W.heap.size) (hW2:∀ b,b<R.w0.heap.size→W.heap[b]?=R.w0.heap[b]?) (hW3:W.os=R.w0.os∧W.tape=R.w0.tape∧W.output=R.w0.output) (hl:W.heap[R.l]?=some (.loop (rc .ready none))) (hl0:R.w0.heap.size≤R.l)
  (hD1:∀ d∈R.D,R.w0.heap.size≤d∧W.heap[d]?=some (.deferred (some []))) (hDn:R.D.Nodup) (hlD:R.l ∉ R.D)
  {T0:Tags} (hstill:Still T0 R.T1) {ds:List Deferred} {m:Nat} {Q:Exit→Act→World→Prop} (hF:kS F)
  (hQ:∀ w4,After C R.L R.nb R.σ0 T0 R.w0 { s1 with slots:=R.slots } ds { tmps:=R.tmps,defers:=R.D.map jX++ds } w4→Q (toX (aaM r)) { tmps:=R.tmps,defers:=R.D.map jX++ds } w4) :
  CallsIn F m P f (#[.func (.yield R.l) #[] #[]]++arr) W (rangePost F n P R.l Q { tmps:=R.tmps,defers:=R.D.map jX++ds }):=by
 refine hF.calls ?_
 -- the text of the iterator
 unfold jR at hit
 split at hit
 case h_2=>cases hit
 rename_i fn hfn
 split at hit
 case isFalse=>cases hit
 rename_i hna
 replace hit:=bind_some hit
 obtain ⟨⟨e2,st2⟩,hrun,hit⟩:=hit
 have hne:∀ i,e2≠.exit i:=fun i e=>by subst e;cases hit
 have hys:st2.ys=xs:=by cases e2<;>first|exact ZS.inj hit|cases hit
 obtain ⟨_,g,c,k1,k2,k3,k4,k5,k6⟩:=hI f fn hfn
 refine (callsIn_wide (n:=0)).1 (callsIn_of_wp_marks k1 k2 trivial ?_)
 rw [k4]
 have hll:=lt_of_heap hl
 -- what each side stands on
 obtain ⟨Ti,hTi⟩:∃ Ti:Tags,Ti=fun b=>if b<R.w0.heap.size∧R.T1 b=.ro then .ro else .other:=⟨_,rfl⟩
 have ti1:∀ b,R.T1 b=.ro→b<R.w0.heap.size→Ti b=.ro:=fun b e hb=>by rw [hTi];exact if_pos ⟨hb,e⟩
 have ti2:∀ b,R.w0.heap.size≤b→Ti b=.other:=fun b hb=>by rw [hTi];exact if_neg (by omega)
 have ti3:∀ b,Ti b≠.other→b<R.w0.heap.size∧R.T1 b=.ro:=fun b hb=>by
  rw [hTi] at hb
  by_cases e:b<R.w0.heap.size∧R.T1 b=.ro
  ·exact e
  ·exact absurd (if_neg e) hb
 obtain ⟨Tn,N9⟩:∃ Tn:Tags,Tn=fun b=>if b=R.l then nS R.K else if b∈R.D then .ro else R.T1 b:=⟨_,rfl⟩
 have tn1:∀ b,b<R.w0.heap.size→Tn b=R.T1 b:=fun b hb=>by
  rw [N9]
  have h1:b≠R.l:=by omega
  have h2:b ∉ R.D:=fun hd=>by have:=(hD1 b hd).1;omega
  simp only [if_neg h1,if_neg h2]
 have tnl:Tn R.l=nS R.K:=by rw [N9];exact if_pos rfl
 have tnD:∀ d∈R.D,Tn d=.ro:=fun d hd=>by
  rw [N9]
  have:d≠R.l:=fun e=>hlD (by rw [← e];exact hd)
  simp only [if_neg this,if_pos hd]
 have hro:∀ b,R.T1 b=.ro→b<R.w0.heap.size→Tn b=.ro∧W.heap[b]?=R.w0.heap[b]?:=fun b e hb=>⟨by rw [tn1 b hb,e],hW2 b hb⟩
 have aml:∀ b,R.T1 b=.ro→b<R.w0.heap.size:=fun b e=>by
  rcases ZaJ b R.w0.heap.size with q|q
  ·exact q
  ·rw [hfr b q] at e;cases e
 have hCS:CS C R (rc .ready none) s Ti W:=by
  refine ⟨R.σ0,Tn,⟨hfs.keep hro fun _ _=>rfl,fun o b ho=>?_,fun b hb=>?_,?_,by omega,hst,fun _ _=>rfl,⟨hW1,fun b e=>(hro b e (aml b e)).1,fun b hb e=>hW2 b hb⟩,fun b _ ht=>?_,hl,tnl,ti2 _ hl0,fun d hd=>⟨(hD1 d hd).2,tnD d hd,ti2 _ (hD1 d hd).1⟩⟩⟩
  ·have hb:=hbx o b ho
   exact hb.frame ⟨tn1 _ hb.lt,hW2 _ hb.lt⟩ (fun j b e hb=>⟨by rw [tn1 b hb,e],hW2 b hb⟩) hro
  ·have h1:b≠R.l:=by omega
   have h2:b ∉ R.D:=fun hd=>by have:=lt_of_heap (hD1 b hd).2;omega
   rw [N9]
   simp only [if_neg h1,if_neg h2]
   exact hfr b (by omega)
  ·exact hC.keep _ _ _ R.w0 _ ⟨hW1,hW3.1,hW3.2.1,hW3.2.2,fun b hb _=>hW2 b hb,fun b e=>(hro b e (aml b e)).1,fun b hb e=>by rw [tn1 b hb,e]⟩ hJ
  ·obtain ⟨q1,q2⟩:=ti3 b ht
   exact .inr ⟨ti1 b q2 q1,by rw [tn1 b q1,q2],.inl (by omega)⟩
 have hOk:=aiO hR hC ha hb hrc hlD hcons hX
 have hargs:(#[Value.func (.yield R.l) #[] #[]]++arr).size=caps.length+1:=by simp;omega
 have KX:aQ R.l (fun _=>0) Ti ⟨.lV::(caps.map .pv++Zaw (fn.ntmps - (caps.length+1)) .any),[],[],some stop⟩
   { tmps:=(#[Value.func (.yield R.l) #[] #[]]++arr)++ZaV (fn.ntmps - (#[Value.func (.yield R.l) #[] #[]]++arr).size) undef,defers:=[] } W:=by
  refine ⟨by simp;omega,fun t av v ht hv=>?_,fun o bx ho=>by simp at ho,fun b hb=>ti2 b (by omega)⟩
  simp only at ht hv
  cases t with
  |zero =>
   simp only [Zaz,ZS.injEq] at ht
   subst ht
   have:v=.func (.yield R.l) #[] #[]:=by
    rw [Zdp,Za5 (by simp)] at hv
    simpa using hv.symm
   exact this
  |succ t =>
   rw [Za3] at ht
   rw [Zdp,Array.getElem?_append_right (by simp)] at hv
   simp only [ZaN,List.length_cons,zj,Nat.zero_add,Nat.add_sub_cancel] at hv
   rcases ZaJ t caps.length with q|q
   ·rw [Zac (by simpa using q),zc,ZD q] at ht
    rw [Za5 (by omega)] at hv
    cases ht
    exact (ha2 t _ v (ZD q) hv).frame fun b e hb=>⟨ti1 b e hb,hW2 b hb⟩
   ·rw [Zab (by simpa using q),ZbH] at ht
    split at ht
    ·cases ht;trivial
    ·cases ht
 refine wpIn_mono (hR.wp (F:=Fence.wide) (L:=R.l) (C:=itC C R rec rc ps.toList sZ bd xs stop r s1) (n:=0) (.inl rfl) (Ctx.zB _) hOk c fn.body _ e2 st2 k3 hrun rfl (by rw [hys];exact ZbE _) _ Ti _ W KX ⟨(hC.glob _ _ _ hJ).frame fun b e hb=>⟨ti1 b e hb,hW2 b hb⟩,.inl ⟨s,hrd,hCS⟩⟩) ?_
 rintro x a' w2 ⟨rfl,σ2,T2,ms,q1,q2,q3,q4,q5,q6⟩
 have key:LeavesInM Fence.wide 0 P g a'.tmps (rangePost F n P R.l Q { tmps:=R.tmps,defers:=R.D.map jX++ds }) a'.defers .returning w2:=by
  rw [q5,ZaI]
  refine vT (B:=W.heap.size) q6.2 (fun d hd=>⟨(q6.1 d hd).1,(q6.1 d hd).2.2⟩) fun w3 e1 e3 e4 e5 e6=>?_
  have hgr:g.results=#[]:=k6 hna.2
  refine ⟨.tuple #[],?_,?_⟩
  ·unfold results
   rw [hgr]
   simp
  ·have fin:∀ lp,CS C R lp s1 T2 w2→lp.state≠.busy→∃ w4,(Instr.endLoop R.l).run P w3=.ok lp.pending w4∧After C R.L R.nb R.σ0 T0 R.w0 { s1 with slots:=R.slots } ds { tmps:=R.tmps,defers:=R.D.map jX++ds } w4:=fun lp hcs hlp =>
    aiP hC hcs (fun d hd=>⟨by rw [hB];exact (q6.1 d hd).1,(q6.1 d hd).2.1,(q6.1 d hd).2.2⟩) e6 e5 e1 e3 e4 hlp hstill (fun d hd=>(hD1 d hd).1) hDn hlD
   rw [hys] at q2
   rcases q2.2 with ⟨s',h1,h2⟩|⟨e,h1,h2,h3⟩
   ·rw [List.drop_length] at h1
    simp only [rounds,ZS.injEq,ZaA.injEq] at h1
    obtain ⟨hr,hs⟩:=h1
    subst hs
    obtain ⟨w4,t1,t2⟩:=fin _ h2 (by rw [hrc];simp)
    refine ⟨none,w4,by rw [hrc] at t1;exact t1,?_⟩
    have:=hQ w4 t2
    rw [← hr] at this
    exact this
   ·obtain ⟨w4,t1,t2⟩:=fin _ h3 (by rw [hrc];simp)
    have:=hQ w4 t2
    rw [h1] at this
    obtain ⟨hen,apQ⟩:=Ju _ _ _ _ _ _ (by rw [h1] at hrd;exact hrd)
    cases e with
    |normal=>exact absurd rfl hen
    |ret=>exact ⟨some .ret,w4,by rw [hrc] at t1;exact t1,wpIn_ret this⟩
    |exit i=>exact ⟨some (.exit i),w4,by rw [hrc] at t1;exact t1,wpIn_exit this⟩
    |oL t n=>exact absurd rfl (apQ t n)
 cases e2 with
 |normal=>exact key
 |ret=>exact key
 |exit i=>exact absurd rfl (hne i)
 |oL t n=>cases hit
end
section
variable {P:Program}{F:Fence}{C:Ctx}{n L nb:Nat}{σ σ':Nat→Nat}{T T' Tc T1 T2:Tags}{st st' st1 s:St}{a a1:Act}{w w' w1:World}{R:Rg}{lp:Loop}
 {rec:aj→St→Option (Ex×St)} {env:Env} {e:Ex}
theorem aaN (hR:qj P rec)(hI:zC P env)(hW:kS F)(hN:C.Rec F)(hC:C.Ok P L){ca cb:Code}{sZ bd:aj}(ha:mC P ca sZ=true)(hb:mC P cb bd=true){g:Operand}{gx:bK}(hmg:aS g gx=true){ps:Array Tmp}{f:Nat}{caps:List PV}
  (hg:st.bW gx=some (.func f caps)) {xs:List (List PV)} {stop:Option Nat} {r:Option (Ex×Nat)} {s1:St} (hit:jR rec env f caps stop=some xs) (hrd:rounds rec (st.slots.map AV.froze) ps.toList sZ bd st.boxes.length 0 xs { st with slots:=st.slots.map AV.froze }=some (r,s1))
  (hcons:(stop=none∧r=none)∨∃ e m,stop=some m∧r=some (e,m)∧xs.length=m) (hX:s1.ys <+: C.X) (hst:st.stop=C.stop) (hs:aQ L σ T st a w) (hJ:C.J st.ys.length T w) :
  (Code.rangeFunc g ps ca cb).wpIn F n P (Post C L st.boxes.length σ T w (aaM r) { s1 with slots:=st.slots.map AV.froze } a.defers) a w:=by
 obtain ⟨arr,e1,e2,e3⟩:=zn (hs.pv hmg hg)
 obtain ⟨T1,f1,f2,f3⟩:=hs.froze
 have hfr:∀ b,w.heap.size≤b→T1 b=.other:=fun b hb=>f3.other b (hs.fresh b hb)
 have hJ1:C.J st.ys.length T1 w:=hC.keep _ _ _ w _ (f3.oC w) hJ
 have hcap:∀ (i:Nat) p v,caps[i]?=some p→arr[i]?=some v→aG (fun b=>T1 b=.ro) w p v:=fun i p v hp hv=>(e3 i p v hp hv).frame fun b hb _=>⟨f3.ro b hb,rfl⟩
 have amm:callable P f=true:=by
  unfold jR at hit
  split at hit
  case h_2=>cases hit
  rename_i fn hfn
  exact (hI f fn hfn).1
 refine wpIn_rangeFunc fun fn hfn=>?_
 rcases hW with rfl|⟨l0,rfl⟩
 ·obtain ⟨rc,hrc⟩:∃ rc:LoopState→Option Code→Loop,rc=fun st pe=>{ state:=st,pending:=pe,fn:=fn,tmps:=a.tmps,params:=ps,assign:=ca,body:=cb,defers:=w.heap.size }:=⟨_,rfl⟩
  obtain ⟨W1,hW1⟩:∃ W1,(w.alloc (.deferred (some []))).alloc (.loop (rc .ready none))=W1:=⟨_,rfl⟩
  have hL1:W1.heap[w.heap.size+1]?=some (.loop (rc .ready none)):=by
   rw [← hW1];have:=World.alloc_heap_new (w.alloc (.deferred (some []))) (.loop (rc .ready none));rwa [World.size_alloc] at this
  have hK1:W1.heap[w.heap.size]?=some (.deferred (some [])):=by
   rw [← hW1];exact (Below.heap_alloc _ _ _ (by simp)).trans (World.alloc_heap_new w _)
  have hsz:W1.heap.size=w.heap.size+2:=by rw [← hW1];simp
  refine ⟨w.heap.size+1,[jX w.heap.size],W1,{ target:=.fn (.func f) arr,args:=#[.func (.yield (w.heap.size+1)) #[] #[]] },W1,f,#[.func (.yield (w.heap.size+1)) #[] #[]]++arr,W1,?_,?_,fun _ _=>trivial,?_,(fun h=>by cases h),?_⟩
  ·rw [← hW1,hrc];exact run_enterLoop_outer _ _ _ _ _
  ·simp only [resolve,e1]
   simp [go_sem]
  ·simp [invoke,go_sem,oW amm]
  ·refine Oy (R:=⟨L,st.boxes.length,st.slots.length,σ,T1,w,st.slots.map AV.froze,a.tmps,w.heap.size+1,[w.heap.size],W1.heap.size⟩) (s:={ st with slots:=st.slots.map AV.froze }) (T0:=T) hR hI hC ha hb hrc hcons hX hit hrd (by simp) f1 f2 rfl hfr hJ1 hst e2 hcap rfl ?_ ?_ ?_ hL1 ?_ ?_ ?_ ?_ f3 (.inl rfl) ?_
   ·show w.heap.size≤W1.heap.size;omega
   ·intro b hb
    rw [← hW1]
    exact (Below.heap_alloc _ _ _ (by simp only [World.size_alloc];exact Nat.lt_succ_of_lt hb)).trans (Below.heap_alloc _ _ _ hb)
   ·rw [← hW1];exact ⟨rfl,rfl,rfl⟩
   ·show w.heap.size≤w.heap.size+1;omega
   ·intro d hd
    have hd:d∈[w.heap.size]:=hd
    rw [Zaq.1 hd]
    exact ⟨ze _,hK1⟩
   ·exact Zcr.2 ⟨by simp,Zc1⟩
   ·intro hd
    have hd:w.heap.size+1∈[w.heap.size]:=hd
    have:=Zaq.1 hd
    omega
   ·intro w4 hA
    exact ⟨rfl,hA⟩
 ·obtain ⟨r0,hr0⟩:=hN l0 rfl _ _ _ hJ
  obtain ⟨rc,hrc⟩:∃ rc:LoopState→Option Code→Loop,rc=fun st pe=>{ state:=st,pending:=pe,fn:=fn,tmps:=a.tmps,params:=ps,assign:=ca,body:=cb,defers:=r0.defers }:=⟨_,rfl⟩
  obtain ⟨W1,hW1⟩:∃ W1,w.alloc (.loop (rc .ready none))=W1:=⟨_,rfl⟩
  have hL1:W1.heap[w.heap.size]?=some (.loop (rc .ready none)):=by
   rw [← hW1];exact World.alloc_heap_new w _
  have hsz:W1.heap.size=w.heap.size+1:=by rw [← hW1];simp
  refine ⟨w.heap.size,[],W1,{ target:=.fn (.func f) arr,args:=#[.func (.yield w.heap.size) #[] #[]] },W1,f,#[.func (.yield w.heap.size) #[] #[]]++arr,W1,?_,?_,fun _ _=>trivial,?_,(fun h=>by cases h),?_⟩
  ·rw [← hW1,hrc];exact run_enterLoop_inner hr0 _ _ _ _ _
  ·simp only [resolve,e1]
   simp [go_sem]
  ·simp [invoke,go_sem,oW amm]
  ·refine Oy (R:=⟨L,st.boxes.length,st.slots.length,σ,T1,w,st.slots.map AV.froze,a.tmps,w.heap.size,[],W1.heap.size⟩) (s:={ st with slots:=st.slots.map AV.froze }) (T0:=T) hR hI hC ha hb hrc hcons hX hit hrd (by simp) f1 f2 rfl hfr hJ1 hst e2 hcap rfl ?_ ?_ ?_ hL1 ?_ ?_ ?_ ?_ f3 (.inr ⟨l0,rfl⟩) ?_
   ·show w.heap.size≤W1.heap.size;omega
   ·intro b hb
    rw [← hW1]
    exact Below.heap_alloc _ _ _ hb
   ·rw [← hW1];exact ⟨rfl,rfl,rfl⟩
   ·exact ze _
   ·intro d hd;cases hd
   ·exact Zc1
   ·intro hd;cases hd
   ·intro w4 hA
    exact ⟨rfl,hA⟩
theorem Jv {gx:bK}{ps:List Nat}{sZ bd:aj}(h:ranged rec env gx ps sZ bd st=some (e,st')):∃ f caps xs stop r s1,st.bW gx=some (.func f caps)∧jR rec env f caps stop=some xs∧rounds rec (st.slots.map AV.froze) ps sZ bd st.boxes.length 0 xs { st with slots:=st.slots.map AV.froze }=some (r,s1) ∧
  ((stop=none∧r=none)∨∃ e m,stop=some m∧r=some (e,m)∧xs.length=m)∧e=aaM r∧st'={ s1 with slots:=st.slots.map AV.froze }:=by
 unfold ranged at h
 replace h:=bind_some h
 obtain ⟨v,h1,h⟩:=h
 cases v<;>simp only [reduceCtorEq] at h
 rename_i f caps
 replace h:=bind_some h
 obtain ⟨xs,h2,h⟩:=h
 replace h:=bind_some h
 obtain ⟨⟨r,s1⟩,h3,h⟩:=h
 simp only at h
 cases r with
 |none =>
  simp only [ZS.injEq,ZaA.injEq] at h
  exact ⟨f,caps,xs,none,none,s1,h1,h2,h3,.inl ⟨rfl,rfl⟩,h.1.symm,h.2.symm⟩
 |some q =>
  obtain ⟨e0,k⟩:=q
  simp only at h
  replace h:=bind_some h
  obtain ⟨ys,h4,h⟩:=h
  replace h:=bind_some h
  obtain ⟨⟨r2,s2⟩,h5,h⟩:=h
  simp only at h
  cases r2 with
  |none=>cases h
  |some q2 =>
   obtain ⟨e2,m⟩:=q2
   simp only at h
   split at h
   case isFalse=>cases h
   rename_i hk
   obtain ⟨rfl,hk⟩:=hk
   simp only [ZS.injEq,ZaA.injEq] at h
   exact ⟨f,caps,ys,some m,some (e2,m),s2,h1,h4,h5,.inr ⟨e2,m,rfl,rfl,hk⟩,h.1.symm,h.2.symm⟩
end
section
variable {P:Program}{F:Fence}{C:Ctx}{n L nb:Nat}{σ σ':Nat→Nat}{T T' T1 T2:Tags}{st st' st1:St}{a a1:Act}{w w1:World}{o:Oper}{vo:ig}{y:Operand}{x:bK}{d:Nat}
 {rec:aj→St→Option (Ex×St)} {env:Env} {next:Act→World→Prop} {Q:Exit→Act→World→Prop} {bU:Array Oper} {ds:List Deferred} {e:Ex}
theorem dU {α β:Type}{x:Option α}{f:α→β}{y:β}(h:x.map f=some y):∃ z,x=some z∧f z=y:=by
 cases x with
 |none=>cases h
 |some z=>exact ⟨z,rfl,ZS.inj h⟩
theorem wY {keep:List Nat}(h0:st.head keep nb=some st1):st1.boxes.length=nb∧st1.ys=st.ys∧st1.stop=st.stop:=by
 unfold St.head at h0
 simp only at h0
 split at h0
 ·rename_i hc
  simp only [ZZ,decide_eq_true_eq] at hc
  have h0:=ZS.inj h0
  subst h0
  exact ⟨by simp;omega,rfl,rfl⟩
 ·cases h0
theorem lN {P:Program}{b:Frame}{a:Act}{k:List Item}{cs:List Frame}{w:World}{c:Code}:Go.step P (lone (b.atR a (.code (.scope c)::k)) cs w)=.next (lone (b.atR a (.code c::.inScope c::k)) cs w) :=
 step_lone_go (by simp [stepG,stepG.exec,Frame.atR])
theorem Iz {P:Program}{b:Frame}{a:Act}{k:List Item}{cs:List Frame}{w:World}{c:Code}:Go.step P (lone (b.atR a (.inScope c::k)) cs w)=.next (lone (b.atR a k) cs w) :=
 step_lone_go (by simp [stepG,stepG.exec,Frame.atR])
theorem TF {Q:Exit→Act→World→Prop}{c:Code}(h:c.wpIn F n P (Exit.noGoto Q) a w):(Code.scope c).wpIn F n P Q a w:=by
 intro b k cs hro hb hr
 have h0:(lone (b.atR a (.code (.scope c)::k)) cs w).fenced P F:=fenced_calm hb hr rfl
 obtain ⟨e,a₁,w₁,hq,harr⟩:=h b (.inScope c::k) cs hro hb hr
 cases e with
 |normal=>exact ⟨.normal,a₁,w₁,hq,.head h0 lN (StepsIn.trans harr (.one (fenced_calm hb hr rfl) Iz))⟩
 |exit id =>
  have hx:exitTo id (.inScope c::k)=exitTo id k:=by simp [exitTo]
  exact ⟨.exit id,a₁,w₁,hq,fun k' hk=>.head h0 lN (harr.1 k' (by rw [hx];exact hk)),
   fun hr' hk=>let ⟨k₁,h1,h2⟩:=harr.2 hr' (by rw [hx];exact hk);⟨k₁,h1,.head h0 lN h2⟩⟩
 |goto l=>exact hq.elim
 |ret=>exact ⟨_,a₁,w₁,hq,.of_steps (.one h0 lN) harr⟩
 |panic ch=>exact ⟨_,a₁,w₁,hq,.of_steps (.one h0 lN) harr⟩
 |outgrown=>exact ⟨_,a₁,w₁,hq,.of_steps (.one h0 lN) harr⟩
theorem TG (hR:qj P rec){c:Code}{keep:List Nat}{vc:aj}(hm:mC P c vc=true)(h:step rec env (.round keep nb vc) st=some (e,st')):Grow nb st st':=by
 simp only [step] at h
 replace h:=bind_some h
 obtain ⟨st0,h0,h⟩:=h
 replace h:=bind_some h
 obtain ⟨⟨e1,st1⟩,h1,h⟩:=h
 have hh:st0.boxes.length=nb∧st0.ys=st.ys∧st0.stop=st.stop:=by
  unfold St.head at h0
  simp only at h0
  split at h0
  ·rename_i hc
   simp only [ZZ,decide_eq_true_eq] at hc
   have h0:=ZS.inj h0
   subst h0
   exact ⟨by simp;omega,rfl,rfl⟩
  ·cases h0
 have g1:=hR.grow _ _ _ _ _ hm h1
 have g1':Grow nb st st1:=by
  refine ⟨by rw [← hh.1];exact g1.1,by rw [← hh.2.1];exact g1.2.1,g1.2.2.trans hh.2.2⟩
 simp only at h
 split at h
 ·exact g1'.trans (hR.aaH _ _ _ _ _ _ _ hm h)
 ·cases ZS.inj h;exact g1'
theorem XU (hR:qj P rec){c:Code}{vc:aj}(hm:mC P c vc=true)(h:step rec env vc st=some (e,st')):Grow st.boxes.length st st':=by
 cases vc with
 |skip=>simp only [step,ZS.injEq,ZaA.injEq] at h;rw [← h.2];exact (aX.refl _).grow
 |ops l =>
  simp only [step] at h
  obtain ⟨st1,h1,h2⟩:=dU h
  cases h2;exact fJ h1
 |oK fz acts fin last l =>
  simp only [step] at h
  obtain ⟨st1,h1,h2⟩:=dU h
  cases h2
  have gz:=aX.kC fz (aX.refl st)
  exact ((aX.grow gz).trans (fJ h1)).mono gz.1
 |drs fz keep vo alts =>
  simp only [step] at h
  obtain ⟨st1,h1,h2⟩:=dU h
  cases h2
  have gz:=aX.kC fz (aX.refl st)
  have g:=Iw h1
  exact ((aX.grow gz).trans ⟨g.1,g.2.1,g.2.2⟩).mono gz.1
 |lend d ks l =>
  simp only [step] at h
  split at h
  case h_2=>cases h
  split at h
  case isFalse=>cases h
  obtain ⟨st3,h1,h2⟩:=dU h
  cases h2
  obtain ⟨st2,h3,h4⟩:=bind_some h1
  have gz:=(aX.refl st).freeze (.slot d)
  exact ((gz.grow.trans (fJ h3)).mono gz.1).vC h4
 |seq a b =>
  cases c<;>first|(simp [mC] at hm;done)|skip
  rename_i c1 c2
  simp only [mC,ZZ] at hm
  simp only [step] at h
  replace h:=bind_some h
  obtain ⟨⟨e1,st1⟩,h1,h⟩:=h
  have g1:=hR.grow _ _ _ _ _ hm.1 h1
  simp only at h
  split at h
  ·exact (g1.trans (hR.grow _ _ _ _ _ hm.2 h)).mono g1.1
  ·cases ZS.inj h;exact g1
 |cond y a b =>
  cases c<;>first|(simp [mC] at hm;done)|skip
  simp only [mC,ZZ] at hm
  simp only [step] at h
  replace h:=bind_some h
  obtain ⟨v,h1,h⟩:=h
  split at h
  ·split at h
   ·exact hR.grow _ _ _ _ _ hm.1.2 h
   ·exact hR.grow _ _ _ _ _ hm.2 h
  ·cases h
 |block i a =>
  cases c<;>first|(simp [mC] at hm;done)|skip
  simp only [mC,ZZ] at hm
  simp only [step] at h
  replace h:=bind_some h
  obtain ⟨⟨e1,st1⟩,h1,h⟩:=h
  have h:=ZS.inj h
  cases h
  exact hR.grow _ _ _ _ _ hm.2 h1
 |loop keep a =>
  cases c<;>first|(simp [mC] at hm;done)|skip
  simp only [mC] at hm
  simp only [step] at h
  exact hR.aaH _ _ _ _ _ _ _ hm h
 |round keep nb a =>
  cases c<;>first|(simp [mC] at hm;done)|skip
 |rng g ps sZ b =>
  cases c<;>first|(simp [mC] at hm;done)|skip
  rename_i g1 ps1 c1 c2
  simp only [mC,ZZ,beq_iff_eq] at hm
  obtain ⟨⟨⟨m1,m2⟩,m3⟩,m4⟩:=hm
  simp only [step] at h
  obtain ⟨f,caps,xs,stop,r,s1,q1,q2,q3,q4,rfl,rfl⟩:=Jv h
  have:=vS hR.grow m3 m4 xs 0 _ r s1 q3 (ze _)
  exact ⟨this.1,this.2.1,this.2.2⟩
 |scp a =>
  cases c<;>first|(simp [mC] at hm;done)|skip
  simp only [mC] at hm
  simp only [step] at h
  exact hR.grow _ _ _ _ _ hm h
 |clean pre post a =>
  replace hm:mC P c a=true:=by cases c<;>simpa only [mC] using hm
  simp only [step] at h
  replace h:=bind_some h
  obtain ⟨st1,h0,h⟩:=h
  replace h:=bind_some h
  obtain ⟨⟨e1,st2⟩,h1,h⟩:=h
  replace h:=bind_some h
  obtain ⟨st3,h2,h⟩:=h
  cases ZS.inj h
  obtain ⟨k1,k2,k3⟩:=wY h0
  obtain ⟨l1,l2,l3⟩:=wY h2
  have g1:=hR.grow _ _ _ _ _ hm h1
  exact ⟨by omega,by rw [l2,← k2];exact g1.2.1,by rw [l3,g1.2.2,k3]⟩
 |exit i=>simp only [step,ZS.injEq,ZaA.injEq] at h;rw [← h.2];exact (aX.refl _).grow
 |ret=>simp only [step,ZS.injEq,ZaA.injEq] at h;rw [← h.2];exact (aX.refl _).grow
 |dem l d f args =>
  simp only [step] at h
  obtain ⟨st1,h1,h⟩:=bind_some h
  obtain ⟨vs,h2,h⟩:=bind_some h
  obtain ⟨r,h3,h⟩:=bind_some h
  cases r with
  |some p=>cases ZS.inj h;exact fJ h1
  |none =>
   obtain ⟨st2,h4,h5⟩:=dU h
   cases h5
   exact ((fJ h1).trans (Ei h4)).mono (fJ h1).1
theorem Post.trans {nb1:Nat}{σ1:Nat→Nat}{ms:List Nat}(hs:bY T T1 w w1)(hσ:∀ k,k<nb→σ1 k=σ k)(hd:a1.defers=ms.map jX++ds)(hms:Marks T1 w w1 ms)(hnb:nb≤nb1)
  {x:Exit} {a':Act} {w':World} (h:Post C L nb1 σ1 T1 w1 e st' a1.defers x a' w'):Post C L nb σ T w e st' ds x a' w':=⟨h.1,After.trans hs hσ hd hms hnb h.2⟩
theorem aaO (hR:qj P rec)(hW:kS F)(hN:C.Rec F)(hC:C.Ok P L){c:Code}{keep:List Nat}{vc:aj}(hm:mC P c vc=true)(h:step rec env (.round keep nb vc) st=some (e,st'))(hst:st.stop=C.stop)(hX:st'.ys <+: C.X)
  (hs:aQ L σ T st a w) (hJ:C.J st.ys.length T w):yj F n P c (Post C L nb σ T w e st' a.defers) a w:=by
 simp only [step] at h
 replace h:=bind_some h
 obtain ⟨st0,h0,h⟩:=h
 replace h:=bind_some h
 obtain ⟨⟨e1,st1⟩,h1,h⟩:=h
 obtain ⟨q1,q2,q3,q4,q5⟩:=hs.head h0
 have g1:=hR.grow _ _ _ _ _ hm h1
 refine Oc ?_
 have hX1:st1.ys <+: C.X:=by
  simp only at h
  split at h
  ·exact (hR.aaH _ _ _ _ _ _ _ hm h).2.1.trans hX
  ·cases ZS.inj h;exact hX
 refine wpIn_mono (hR.wp hW hN hC c vc st0 e1 st1 hm h1 (q4.trans hst) hX1 σ T a w q1 (by rw [q3];exact hJ)) ?_
 rintro x a1 w1 ⟨hx,hA⟩
 rw [q2] at hA
 simp only at h
 split at h
 ·subst hx
  obtain ⟨σ1,T1,ms,k1,k2,k3,k4,k5,k6⟩:=hA
  exact Oe (hR.wpR hW hN hC c keep nb vc st1 e st' hm h (g1.2.2.trans (q4.trans hst)) hX σ1 T1 a1 w1 k1 k2) fun x a' w' hP=>Post.trans k4 k3 k5 k6 (ze _) hP
 ·rename_i hne
  cases ZS.inj h
  cases e with
  |normal=>exact absurd rfl hne
  |exit i=>subst hx;exact ⟨rfl,hA⟩
  |ret=>subst hx;exact ⟨rfl,hA⟩
  |oL t m=>subst hx;exact ⟨rfl,hA⟩
theorem aiQ (hW:kS F)(hC:C.Ok P L)(bg:gu P rec env)(hX:st'.ys <+: C.X)(hs:aQ L σ T st a w)(hJ:C.J st.ys.length T w)(hst:st.stop=C.stop){l:List ig}{f:Nat}{args:List bK}(hm:mL P bU bU.toList (l++[.call d f args])=true)(h1:ops rec env l st=some st1)
  {vs:List PV} (h2:args.mapM st1.bW=some vs) {r:Option (Nat×Int)} (h3:Ig rec env f vs=some r) (h:(match r with
   |some (t,n)=>some (.oL t n,st1)
   |none=>(act rec env (.call d f args) st1).map fun st2=>(.normal,st2))=some (e,st')):wpListIn F n P bU (Post C L st.boxes.length σ T w e st' a.defers) bU.toList a w:=by
 obtain ⟨l1,o,hl,m1,m2⟩:=afo hm
 have g1:=fJ h1
 rw [hl]
 cases r with
 |some p =>
  cases ZS.inj h
  refine KO hW hC bg hX hs hJ hst m1 h1 ?_
  rintro a1 w1 ⟨σ1,T1,ms,k1,k2,k3,k4,k5,k6⟩
  exact aiD hW hC bg k1 k2 m2 h2 h3 fun w' hA=>⟨rfl,After.trans k4 k3 k5 k6 g1.1 hA⟩
 |none =>
  obtain ⟨st2,h4,h5⟩:=dU h
  cases h5
  have g2:Grow st1.boxes.length st1 st':=Ei h4
  refine KO hW hC bg (g2.2.1.trans hX) hs hJ hst m1 h1 ?_
  rintro a1 w1 ⟨σ1,T1,ms,k1,k2,k3,k4,k5,k6⟩
  have h6:ops rec env [.call d f args] st1=some st':=by
   simp only [ops,op,op1,lY,↓reduceIte,h4]
   rfl
  have m3:mL P bU [o] [.call d f args]=true:=by simp only [mL,m2,Bool.and_self]
  exact SX hW hC bg hX k1 k2 (g1.2.2.trans hst) m3 h6 fun a' w' hA=>⟨rfl,After.trans k4 k3 k5 k6 g1.1 hA⟩
theorem aft (hR:qj P rec)(hI:zC P env)(bg:gu P rec env)(hW:kS F)(hN:C.Rec F)(hC:C.Ok P L){c:Code}{vc:aj}(hm:mC P c vc=true)(h:step rec env vc st=some (e,st'))(hst:st.stop=C.stop)(hX:st'.ys <+: C.X)
  (hs:aQ L σ T st a w) (hJ:C.J st.ys.length T w):c.wpIn F n P (Post C L st.boxes.length σ T w e st' a.defers) a w:=by
 cases vc with
 |skip =>
  simp only [step,ZS.injEq,ZaA.injEq] at h
  obtain ⟨rfl,rfl⟩:=h
  cases c<;>first|(simp [mC] at hm;done)|skip
  case skip=>exact wpIn_skip ⟨rfl,After.refl hs hJ⟩
  case label l=>exact wpIn_label ⟨rfl,After.refl hs hJ⟩
 |ops l =>
  simp only [step] at h
  obtain ⟨st1,h1,h2⟩:=dU h
  cases h2
  cases c<;>first|(simp [mC] at hm;done)|skip
  case region id ops dr =>
   cases dr<;>simp [mC] at hm
   exact wpIn_region_list (SX hW hC bg hX hs hJ hst hm h1 fun a' w' hA=>⟨rfl,hA⟩)
 |oK fz acts fin last l =>
  simp only [step] at h
  obtain ⟨st1,h1,h2⟩:=dU h
  cases h2
  cases c<;>first|(simp [mC] at hm;done)|skip
  case region id ops dr =>
   cases dr<;>simp only [mC,ZZ,zm] at hm
   obtain ⟨⟨⟨m1,m2⟩,m3⟩,m4⟩:=hm
   obtain ⟨T1,q1,q2⟩:=hs.kC fz
   have gz:=aX.kC fz (aX.refl st)
   have hJ1:C.J (fz.foldl St.iO st).ys.length T1 w:=by rw [gz.2.1];exact hC.keep _ _ _ _ _ (q2.oC w) hJ
   exact Iu hW hC bg q1 hJ1 (gz.2.2.trans hst) hX m1 m2 m3 m4 h1 fun a' w' hA=>⟨rfl,After.trans (ms:=[]) ((q2.oC w).stays) (fun _ _=>rfl) rfl Marks.nil gz.1 hA⟩
 |drs fz keep vo alts =>
  simp only [step] at h
  obtain ⟨st1,h1,h2⟩:=dU h
  cases h2
  cases alts with
  |nil=>cases h1
  |cons alt alts =>
  cases c<;>first|(simp [mC] at hm;done)|skip
  case region id ops dr =>
   cases dr<;>simp only [mC,ZZ,zm] at hm
   obtain ⟨⟨m1,m2⟩,m3⟩:=hm
   obtain ⟨T1,q1,q2⟩:=hs.kC fz
   have gz:=aX.kC fz (aX.refl st)
   have hJ1:C.J (fz.foldl St.iO st).ys.length T1 w:=by rw [gz.2.1];exact hC.keep _ _ _ _ _ (q2.oC w) hJ
   exact Iy hW hC bg q1 hJ1 (gz.2.2.trans hst) hX m1 m2 m3 h1 fun a' w' hA=>⟨rfl,After.trans (ms:=[]) ((q2.oC w).stays) (fun _ _=>rfl) rfl Marks.nil gz.1 hA⟩
 |lend d ks l =>
  simp only [step] at h
  split at h
  case h_2=>cases h
  rename_i hd
  split at h
  case isFalse=>cases h
  rename_i hstop
  obtain ⟨st3,h1,h2⟩:=dU h
  cases h2
  obtain ⟨st2,h3,h4⟩:=bind_some h1
  cases c<;>first|(simp [mC] at hm;done)|skip
 |seq a b =>
  cases c<;>first|(simp [mC] at hm;done)|skip
  rename_i c1 c2
  simp only [mC,ZZ] at hm
  simp only [step] at h
  replace h:=bind_some h
  obtain ⟨⟨e1,st1⟩,h1,h⟩:=h
  have g1:=hR.grow _ _ _ _ _ hm.1 h1
  refine wpIn_seq ?_
  have hX1:st1.ys <+: C.X:=by
   simp only at h
   split at h
   ·exact (hR.grow _ _ _ _ _ hm.2 h).2.1.trans hX
   ·cases ZS.inj h;exact hX
  refine wpIn_mono (hR.wp hW hN hC c1 _ st e1 st1 hm.1 h1 hst hX1 σ T _ w hs hJ) ?_
  rintro x a1 w1 ⟨hx,hA⟩
  simp only at h
  split at h
  ·subst hx
   obtain ⟨σ1,T1,ms,k1,k2,k3,k4,k5,k6⟩:=hA
   exact wpIn_mono (hR.wp hW hN hC c2 _ st1 e st' hm.2 h (g1.2.2.trans hst) hX σ1 T1 a1 w1 k1 k2) fun x a' w' hP=>Post.trans k4 k3 k5 k6 g1.1 hP
  ·rename_i hne
   cases ZS.inj h
   cases e with
   |normal=>exact absurd rfl hne
   |exit i=>subst hx;exact ⟨rfl,hA⟩
   |ret=>subst hx;exact ⟨rfl,hA⟩
   |oL t m=>subst hx;exact ⟨rfl,hA⟩
 |cond y a b =>
  cases c<;>first|(simp [mC] at hm;done)|skip
  rename_i x c1 c2
  simp only [mC,ZZ] at hm
  simp only [step] at h
  replace h:=bind_some h
  obtain ⟨v,h1,h⟩:=h
  split at h
  case h_2=>cases h
  rename_i t
  refine wpIn_cond (t:=t) (hs.pv hm.1.1 h1).kP ?_
  cases t with
  |true=>exact hR.wp hW hN hC c1 _ st e st' hm.1.2 (by simpa using h) hst hX σ T _ w hs hJ
  |false=>exact hR.wp hW hN hC c2 _ st e st' hm.2 (by simpa using h) hst hX σ T _ w hs hJ
 |block i a =>
  cases c<;>first|(simp [mC] at hm;done)|skip
  rename_i j c1
  simp only [mC,ZZ,beq_iff_eq] at hm
  obtain ⟨rfl,hm⟩:=hm
  simp only [step] at h
  replace h:=bind_some h
  obtain ⟨⟨e1,st1⟩,h1,h⟩:=h
  have h:=ZS.inj h
  cases h
  refine wpIn_block (wpIn_mono (hR.wp hW hN hC c1 _ st e1 st1 hm h1 hst hX σ T _ w hs hJ) ?_)
  rintro x a1 w1 ⟨rfl,hA⟩
  cases e1 with
  |normal=>exact ⟨rfl,hA⟩
  |exit i =>
   by_cases hij:i=j
   ·subst hij;simp only [toX,Exit.inBlock,↓reduceIte];exact ⟨rfl,hA⟩
   ·have hne:(Ex.exit i=Ex.exit j)=False:=by simpa using hij
    simp only [toX,Exit.inBlock,if_neg hij,hne,↓reduceIte];exact ⟨rfl,hA⟩
  |ret=>exact ⟨rfl,hA⟩
  |oL t m=>exact ⟨rfl,hA⟩
 |loop keep a =>
  cases c<;>first|(simp [mC] at hm;done)|skip
  simp only [mC] at hm
  simp only [step] at h
  exact KN (hR.wpR hW hN hC _ keep _ _ st e st' hm h hst hX σ T _ w hs hJ)
 |round keep nb a =>
  cases c<;>first|(simp [mC] at hm;done)|skip
 |rng g ps sZ b =>
  cases c<;>first|(simp [mC] at hm;done)|skip
  rename_i g1 ps1 c1 c2
  simp only [mC,ZZ,beq_iff_eq] at hm
  obtain ⟨⟨⟨m1,m2⟩,m3⟩,m4⟩:=hm
  subst m2
  simp only [step] at h
  obtain ⟨f,caps,xs,stop,r,s1,q1,q2,q3,q4,rfl,rfl⟩:=Jv h
  exact aaN hR hI hW hN hC m3 m4 m1 q1 q2 q3 q4 hX hst hs hJ
 |scp a =>
  cases c<;>first|(simp [mC] at hm;done)|skip
  rename_i c1
  simp only [mC] at hm
  simp only [step] at h
  refine TF (wpIn_mono (hR.wp hW hN hC c1 _ st e st' hm h hst hX σ T _ w hs hJ) ?_)
  rintro x a1 w1 ⟨rfl,hA⟩
  cases e<;>exact ⟨rfl,hA⟩
 |clean pre post a =>
  replace hm:mC P c a=true:=by cases c<;>simpa only [mC] using hm
  simp only [step] at h
  replace h:=bind_some h
  obtain ⟨st1,h0,h⟩:=h
  replace h:=bind_some h
  obtain ⟨⟨e1,st2⟩,h1,h⟩:=h
  replace h:=bind_some h
  obtain ⟨st3,h2,h⟩:=h
  cases ZS.inj h
  obtain ⟨q1,q2,q3,q4,q5⟩:=hs.head h0
  obtain ⟨l1,l2,l3⟩:=wY h2
  refine wpIn_mono (hR.wp hW hN hC c a st1 _ st2 hm h1 (q4.trans hst) (by rw [← l2];exact hX) σ T _ w q1 (by rw [q3];exact hJ)) ?_
  rintro x a1 w1 ⟨hx,σ1,T1,ms,k1,k2,k3,k4,k5,k6⟩
  obtain ⟨r1,r2,r3,r4,r5⟩:=k1.head h2
  exact ⟨hx,σ1,T1,ms,r1,by rw [r3];exact k2,by rw [← q2];exact k3,k4,k5,k6⟩
 |exit i =>
  simp only [step,ZS.injEq,ZaA.injEq] at h
  obtain ⟨rfl,rfl⟩:=h
  cases c<;>first|(simp [mC] at hm;done)|skip
  simp only [mC,beq_iff_eq] at hm
  subst hm
  exact wpIn_exit ⟨rfl,After.refl hs hJ⟩
 |ret =>
  simp only [step,ZS.injEq,ZaA.injEq] at h
  obtain ⟨rfl,rfl⟩:=h
  cases c<;>first|(simp [mC] at hm;done)|skip
  exact wpIn_ret ⟨rfl,After.refl hs hJ⟩
 |dem l d f args =>
  simp only [step] at h
  obtain ⟨st1,h1,h⟩:=bind_some h
  obtain ⟨vs,h2,h⟩:=bind_some h
  obtain ⟨r,h3,h⟩:=bind_some h
  cases c<;>first|(simp [mC] at hm;done)|skip
  case region id ops dr =>
   cases dr<;>simp [mC] at hm
   exact wpIn_region_list (aiQ hW hC bg hX hs hJ hst hm h1 h2 h3 (by cases r<;>exact h))
theorem step_ok (hR:qj P rec)(hI:zC P env)(bg:gu P rec env):qj P (step rec env) :=
 ⟨fun _ _ _ _ _ hm h=>XU hR hm h,fun _ _ _ _ _ _ _ hm h=>TG hR hm h,
  fun hW hN hC _ _ _ _ _ hm h hst hX _ _ _ _ hs hJ=>aft hR hI bg hW hN hC hm h hst hX hs hJ,
  fun hW hN hC _ _ _ _ _ _ _ hm h hst hX _ _ _ _ hs hJ=>aaO hR hW hN hC hm h hst hX hs hJ⟩
end
section
variable {P:Program}{L K:Nat}{σ σ':Nat→Nat}{T T' T1 T2:Tags}{st st' st1:St}{a a1:Act}{w w1:World}{r:Root}
theorem aQ.afu (h:aQ L σ T st a w){i:Nat}(h1:∀ t s l,st.slots[t]?=some (.row s l)→r≠.slot t)(h2:∀ (t i:Nat),r≠.part t i)(h3:∀ p q bx s l,st.boxes[p]?=some bx→bx.cs[q]?=some (.row s l)→r≠.cell p q)(hK:st.slots.length≤K) :
  aQ L σ (moved T r (.part K i)) st a w:=by
 have hw:∀ b,T b=.ro→b<w.heap.size→moved T r (.part K i) b=.ro∧w.heap[b]?=w.heap[b]?:=fun b e _=>⟨eX e,rfl⟩
 refine ⟨h.size,fun t x u hx hu=>?_,fun p bx ho=>?_,fun b hb=>jo (h.fresh b hb)⟩
 ·have ht:t<st.slots.length:=(zb.1 hx).1
  refine (h.slots t x u hx hu).keep hw (fun s l e b hb _=>⟨cO (fun e2=>h1 t s l (by rw [hx,e]) e2.symm) (by simp) hb,rfl⟩) (fun l e i' _ b hb _=>⟨cO (fun e2=>h2 _ _ e2.symm) (fun e2=>?_) hb,rfl⟩) (fun q hq _ s l e=>⟨⟨l,e⟩,rfl⟩) (ze _) (fun _ _=>rfl)
  cases e2;omega
 ·obtain ⟨arr,E,g1,g2,g3,g4,g5⟩:=h.boxes p bx ho
  refine ⟨arr,E,g1,g2,?_,g4,fun j bv u hj hu=>?_⟩
  ·cases hf:bx.fz with
   |true=>rw [hf] at g3;simpa using eX g3
   |false=>rw [hf] at g3;simpa using lI g3
  ·obtain ⟨k1,k2⟩:=g5 j bv u hj hu
   refine ⟨k1,?_⟩
   cases bv with
   |pv x=>exact aG.frame hw k2
   |row sz es=>exact aV.frame (fun b e _=>⟨cO (fun e2=>h3 p j bx sz es ho hj e2.symm) (by simp) e,rfl⟩) hw k2
theorem aV.aiR {sz:Nat}{es:List PV}{xa:Option Addr}{c:Nat}(h:aV T w r sz es (.slice xa es.length c))(k:Nat):aV T w r sz (es.take k) (.slice xa (es.take k).length c):=by
 rcases h with ⟨rfl,a,e⟩|⟨b,c',arr,E,e,h2,h3,h4,h5,h6,h7,h8⟩
 ·simp only [zj,Value.slice.injEq] at e
  obtain ⟨_,_,rfl⟩:=e
  exact .inl ⟨by simp,xa,by simp⟩
 ·simp only [Value.slice.injEq] at e
  obtain ⟨rfl,_,rfl⟩:=e
  refine .inr ⟨b,c,arr,E,rfl,h2,h3,h4,?_,h6,fun e he=>h7 e (List.mem_of_mem_take he),fun i e j x hi hj=>?_⟩
  ·simp;omega
  ·rw [Zak] at hi
   split at hi
   ·exact h8 i e j x hi hj
   ·cases hi
def RK (T:Tags)(w:World)(K i:Nat):qK→Value→Prop
 |(.list sz es,true),u=>aV T w (.part K i) sz es u
 |(.agg _,true),_=>False
 |(x,_),u=>aG (fun b=>T b=.ro) w x u
theorem RK.pv {i:Nat}{x:PV}{u:Value}(h:aG (fun b=>T b=.ro) w x u):RK T w K i (x,false) u:=by
 cases x<;>exact h
def mM (tmps:Array Value):ResultVar→Sem Value
 |.tmp t=>pure (tmps.getD t undef)
 |.cell a t=>do loadVar t (← asAddr (tmps.getD a undef))
def TI (P:Program):ResultVar→rY→Bool
 |.tmp t,.tmp s=>t==s
 |.cell t T0,.cell s n=>t==s&&kN P T0==some n
 |.cell t T0,.own s n=>t==s&&kN P T0==some (some n)
 |_,_=>false
theorem TJ (h:aQ L σ T st a w){g:ResultVar}{v:rY}(hm:TI P g v=true){x:qK}(hp:nX st v=some (x,st1))(hK:st.slots.length≤K)(i:Nat) :
  ∃ u T',(mM a.tmps g).run P w=.ok u w∧aQ L σ T' st1 a w∧Still T T'∧RK T' w K i x u∧(∀ b k,k≠i→T b=.row (.part K k)→T' b=.row (.part K k))∧st1.slots.length=st.slots.length∧(∀ b o,T b=.box o→T' b=.box o):=by
 cases g<;>cases v<;>simp only [TI,zm] at hm
 case tmp.tmp t s =>
  simp only [beq_iff_eq] at hm
  subst hm
  have hev:a.tmps.getD t undef=a.eval (.tmp t):=rfl
  have hmo:aS (.tmp t) (.t t)=true:=by simp [aS]
  simp only [nX] at hp
  split at hp
  ·rename_i sz es st2 hg
   have hp:=ZS.inj hp
   cases hp
   obtain ⟨k1,k2,q,v,es0,c,xa,k3,k4,k5,k6,k7,k8,k9⟩:=h.grab hmo hg
   have hlen:st1.slots.length=st.slots.length:=by rw [← k1.size,← h.size]
   refine ⟨a.eval (.tmp t),moved T q (.part K i),by rw [mM,hev];rfl,k1.afu k7 k8 k9 (by omega),Still.moved _ _ _,?_,fun b k hk e=>cO (fun e2=>k8 _ _ e2.symm) (by simp [hk]) e,hlen,fun b o e=>lI e⟩
   rw [k6]
   subst k5
   have:=aV.aiR k3 es.length
   rw [← k4] at this
   exact aV.frame (fun b e _=>⟨ng e,rfl⟩) (fun b e _=>⟨eX e,rfl⟩) this
  ·split at hp
   ·rename_i v hv
    have hp:=ZS.inj hp
    cases hp
    have e2:st.bW (.t t)=some v:=by unfold St.bW;rw [show st.get (.t t)=.pv v from hv]
    exact ⟨a.eval (.tmp t),T,by rw [mM,hev];rfl,h,Still.refl T,RK.pv (h.pv hmo e2),fun _ _ _ e=>e,rfl,fun _ _ e=>e⟩
   ·rename_i r off len hv
    split at hp
    case h_2=>cases hp
    rename_i sz es hr
    split at hp
    case isFalse=>cases hp
    rename_i hl
    have hp:=ZS.inj hp
    cases hp
    obtain ⟨T1,k1,k2,k3,k4,k5⟩:=h.freeze r
    refine ⟨a.eval (.tmp t),T1,by rw [mM,hev];rfl,k1,k2,RK.pv (h.Ky hr (h.NC hmo hv sz es hr) hl (k4 sz es hr) k2.ro),fun b k _ e=>k3 b _ (fun e2=>by subst e2;simp [St.row] at hr) e,by rw [← k1.size,← h.size],k5⟩
   ·cases hp
 case cell.cell t T0 s n =>
  simp only [ZZ,beq_iff_eq] at hm
  obtain ⟨rfl,hc⟩:=hm
  simp only [nX] at hp
  split at hp
  case h_2=>cases hp
  rename_i p j hv
  split at hp
  case h_2=>cases hp
  rename_i bx h1
  have hs:st.slots[t]?=some (.aO p j):=lK (st:=st) hv (by simp)
  have hlt:t<a.tmps.size:=by rw [h.size];exact (zb.1 hs).1
  have hgp:a.tmps.getD t undef=.pointer (some ⟨σ p,j,none⟩):=by
   have:=(h.slots t _ _ hs (zg hlt)).2
   rw [Zax,zg hlt,Zbh,this]
  have hread:∀ {u:Value},(loadVar T0 ⟨σ p,j,none⟩).run P w=.ok u w→(mM a.tmps (.cell t T0)).run P w=.ok u w:=fun hu=>by
   simp only [mM,hgp,asAddr,Sem.run_bind,Sem.run_pure,Result.andThen_ok]
   exact hu
  have hbox:=h.boxes p bx h1
  cases n with
  |none =>
   obtain ⟨arr,E,g1,g2,g3,g4,g5⟩:=hbox
   have hld:∀ (bv:BV),bx.cs[j]?=some bv→∃ u,(loadVar T0 ⟨σ p,j,none⟩).run P w=.ok u w∧Ih T w p j bv u:=fun bv hbv=>by
    have hj:j<arr.size:=by rw [g2];exact (zb.1 hbv).1
    obtain ⟨k1,k2⟩:=g5 j _ arr[j] hbv (zg hj)
    refine ⟨arr[j],?_,k2⟩
    unfold loadVar
    simp only [Sem.run_bind,ku hc,Result.andThen_ok,zm,if_false]
    unfold load
    simp only [Sem.run,cell_of_row w _ _ arr E (0,0) g1,zg hj]
   simp only at hp
   split at hp
   ·rename_i sz es hbv
    split at hp
    ·cases hp
    ·rename_i hfz
     have hp:=ZS.inj hp
     cases hp
     obtain ⟨u,q1,q2⟩:=hld _ hbv
     have hr:st.row (.cell p j)=some (sz,es):=by simp [St.row,h1,hfz,hbv]
     obtain ⟨T1,k1,k2,k3,k4,k5⟩:=h.freeze (.cell p j)
     exact ⟨u,T1,hread q1,k1,k2,RK.pv (aV.list (k4 sz es hr) k2.ro q2),fun b k _ e=>k3 b _ (by simp) e,by rw [← k1.size,← h.size],k5⟩
   ·rename_i v hbv
    have hp:=ZS.inj hp
    cases hp
    obtain ⟨u,q1,q2⟩:=hld _ hbv
    exact ⟨u,T,hread q1,h,Still.refl T,RK.pv q2,fun _ _ _ e=>e,rfl,fun _ _ e=>e⟩
   ·cases hp
  |some n =>
   simp only at hp
   obtain ⟨v,h2,hp⟩:=dU hp
   cases hp
   obtain ⟨T1,k1,k2,k3,k4,k5⟩:=h.qM p
   have hmem:=hbox.mem (T':=T1) (fun j b e=>k4 (by rw [h1];rfl) b j e) k2.ro
   obtain ⟨u,h7,h8,_⟩:=su (P:=P) hmem hc h2
   rw [Nat.zero_add] at h7
   exact ⟨u,T1,hread (h7 w rfl),k1,k2,RK.pv h8,fun b k _ e=>k3 b _ (by simp) e,by rw [← k1.size,← h.size],k5⟩
 case cell.own t T0 s n=>simp only [nX] at hp;cases hp
def RKo (T:Tags)(w:World)(K i:Nat)(x:qK)(u:Value):Prop :=
 RK T w K i x u∨(i=0∧∃ cs,x=(.agg cs,true)∧∃ arr:Array Value,u=.agg arr∧arr.size=cs.length∧∀ (k:Nat) x v,cs[k]?=some x→arr[k]?=some v→iQ T w K k (Xk x) v)
def XV (T:Tags)(p j K:Nat):Tags:=fun b=>match T b with
 |.ro=>.ro
 |.row (.cell o q)=>if o=p∧j≤q then .row (.part K (q - j)) else .other
 |_=>.other
theorem uq:∀ {l:List BV} {cs:List PV},jU l=some cs→l.length=cs.length∧∀ (k:Nat) x,cs[k]?=some x→(∃ sz es,l[k]?=some (.row sz es)∧x=.list sz es)∨(l[k]?=some (.pv x)∧∀ s es,x≠.list s es)
 |[],cs,h=>by cases h;exact ⟨rfl,fun k x hk=>by simp at hk⟩
 |.row sz es::l,cs,h=>by
  obtain ⟨c,h1,rfl⟩:=dU h
  obtain ⟨q1,q2⟩:=uq h1
  refine ⟨by simp [q1],fun k x hk=>?_⟩
  cases k with
  |zero=>cases hk;exact .inl ⟨sz,es,rfl,rfl⟩
  |succ k=>exact q2 k x hk
 |.pv v::l,cs,h=>by
  have hv:(∀ s es,v≠.list s es)∧∃ c,jU l=some c∧cs=v::c:=by
   cases v<;>first|(simp [jU] at h;done)|(obtain ⟨c,h1,rfl⟩:=dU h;exact ⟨(fun _ _ e=>by cases e),c,h1,rfl⟩)
  obtain ⟨hv,c,h1,rfl⟩:=hv
  obtain ⟨q1,q2⟩:=uq h1
  refine ⟨by simp [q1],fun k x hk=>?_⟩
  cases k with
  |zero=>cases hk;exact .inr ⟨rfl,hv⟩
  |succ k=>exact q2 k x hk
theorem TK {b j n T0:Nat}{arr:Array Value}{E q}(hc:kN P T0=some (some n))(hb:w.heap[b]?=some (.cells arr E (0,q)))(hn:j+n≤arr.size) :
  ∃ us:Array Value,(loadVar T0 ⟨b,j,none⟩).run P w=.ok (.agg us) w∧us.size=n∧∀ k v,us[k]?=some v→arr[j+k]?=some v:=by
 have hs:=(jK (w:=w) hc).2
 let us:List Value:=(List.range n).map fun k=>arr.getD (j+k) undef
 have hus:∀ k v,us[k]?=some v→arr[j+k]?=some v:=fun k v hv=>by
  have hk:k<n:=by have:=(zb.1 hv).1;simpa [us] using this
  simp only [us,zc,List.getElem?_range hk,Zae,ZS.injEq] at hv
  rw [zg (by omega:j+k<arr.size)]
  rw [Zax,zg (by omega:j+k<arr.size)] at hv
  rw [← hv];rfl
 have hlen:us.length=n:=by simp [us]
 refine ⟨us.toArray,?_,by simpa using hlen,fun k v hv=>hus k v (by simpa using hv)⟩
 have hl2:=run_loadCells_list (P:=P) (w:=w) ⟨b,j,none⟩ us (fun k v hv=>by
  rw [Addr.add_lit,cell_of_row w b _ arr E (0,q) hb];exact hus k v hv)
 rw [hlen] at hl2
 unfold loadVar
 simp only [Sem.run_bind,(jK (w:=w) hc).1,Result.andThen_ok,if_true,jF hs,hl2]
 rfl
theorem TL (h:aQ L σ T st a w){t T0 n p j:Nat}{bx:Box}{cs:List PV}(hc:kN P T0=some (some n))(hv:st.slots.getD t .any=.aO p j)(h1:st.boxes[p]?=some bx)(hf:bx.fz=false)(hn:j+n≤bx.cs.length)(ho:jU ((bx.cs.drop j).take n)=some cs) :
  ∃ u T',(mM a.tmps (.cell t T0)).run P w=.ok u w∧Still T T'∧(∀ b,w.heap.size≤b→T' b=.other)∧RKo T' w K 0 (.agg cs,true) u:=by
 have hs:st.slots[t]?=some (.aO p j):=lK (st:=st) hv (by simp)
 have hlt:t<a.tmps.size:=by rw [h.size];exact (zb.1 hs).1
 have hgp:a.tmps.getD t undef=.pointer (some ⟨σ p,j,none⟩):=by
  have:=(h.slots t _ _ hs (zg hlt)).2
  rw [Zax,zg hlt,Zbh,this]
 obtain ⟨arr,E,g1,g2,g3,g4,g5⟩:=h.boxes p bx h1
 obtain ⟨us,r1,r2,r3⟩:=TK (P:=P) hc g1 (by omega:j+n≤arr.size)
 obtain ⟨q1,q2⟩:=uq ho
 have hro:∀ b,T b=.ro→XV T p j K b=.ro:=fun b e=>by simp [XV,e]
 refine ⟨.agg us,XV T p j K,?_,⟨hro,fun b e=>by simp [XV,e]⟩,fun b hb=>by simp [XV,h.fresh b hb],.inr ⟨rfl,cs,rfl,us,rfl,?_,fun k x v hx hu=>?_⟩⟩
 ·simp only [mM,hgp,asAddr,Sem.run_bind,Sem.run_pure,Result.andThen_ok]
  exact r1
 ·rw [r2,← q1];simp;omega
 ·have hk:k<n:=by rw [← r2];exact (zw.1 hu).1
  have hget:∀ bv,((bx.cs.drop j).take n)[k]?=some bv→bx.cs[j+k]?=some bv:=fun bv e=>by
   rw [List.getElem?_take_of_lt hk,List.getElem?_drop] at e;exact e
  rcases q2 k x hx with ⟨sz,es,e1,rfl⟩|⟨e1,e2⟩
  ·obtain ⟨_,k2⟩:=g5 (j+k) _ v (hget _ e1) (r3 k v hu)
   exact aV.frame (fun b e _=>⟨by simp [XV,e],rfl⟩) (fun b e _=>⟨hro b e,rfl⟩) k2
  ·obtain ⟨_,k2⟩:=g5 (j+k) _ v (hget _ e1) (r3 k v hu)
   have:Xk x=.pv x:=by cases x<;>first|rfl|exact absurd rfl (e2 _ _)
   rw [this]
   exact aG.frame (fun b e _=>⟨hro b e,rfl⟩) k2
end
def og (P:Program):List ResultVar→List rY→Bool
 |[],[]=>true
 |g::gs,v::vs=>TI P g v&&og P gs vs
 |_,_=>false
section
variable {P:Program}{L K:Nat}{σ σ':Nat→Nat}{T T' T1 T2:Tags}{st st' st1:St}{a a1:Act}{w w1:World}{r:Root}
theorem RK.frame {i:Nat}{x:qK}{u:Value}(hr:∀ b,T b=.row (.part K i)→T' b=.row (.part K i))(hw:∀ b,T b=.ro→T' b=.ro)(h:RK T w K i x u):RK T' w K i x u:=by
 obtain ⟨v,own⟩:=x
 cases v<;>cases own<;>first|exact aG.frame (fun b e _=>⟨hw b e,rfl⟩) h|exact aV.frame (fun b e _=>⟨hr b e,rfl⟩) (fun b e _=>⟨hw b e,rfl⟩) h|exact False.elim h
theorem vU:∀ {gs:List ResultVar} {vs:List rY} {st:St} {T:Tags} {xs:List qK} (i:Nat),aQ L σ T st a w→og P gs vs=true→resultList st vs=some xs→st.slots.length≤K →
  ∃ (us:List Value) (T':Tags),(gs.mapM (mM a.tmps)).run P w=.ok us w∧us.length=xs.length∧Still T T'∧(∀ b,w.heap.size≤b→T' b=.other)∧(∀ (j:Nat) x u,xs[j]?=some x→us[j]?=some u→RK T' w K (i+j) x u)∧(∀ b k,k<i→T b=.row (.part K k)→T' b=.row (.part K k))∧∀ b o,T b=.box o→T' b=.box o
 |[],[],st,T,xs,i,h,_,hp,hK=>by
  simp only [resultList,ZS.injEq] at hp
  subst hp
  exact ⟨[],T,by simp,rfl,Still.refl T,h.fresh,fun j x u hx=>by simp at hx,(fun _ _ _ e=>e),fun _ _ e=>e⟩
 |[],_::_,_,_,_,_,_,hm,_,_=>by simp [og] at hm
 |_::_,[],_,_,_,_,_,hm,_,_=>by simp [og] at hm
 |g::gs,v::vs,st,T,xs,i,h,hm,hp,hK=>by
  simp only [og,ZZ] at hm
  simp only [resultList] at hp
  replace hp:=bind_some hp
  obtain ⟨⟨x,st1⟩,h1,hp⟩:=hp
  replace hp:=bind_some hp
  obtain ⟨l,h2,hp⟩:=hp
  have hp:=ZS.inj hp
  subst hp
  obtain ⟨u,T1,k1,k2,k3,k4,k5,k6,k7⟩:=TJ h hm.1 h1 hK i
  obtain ⟨us,T2,q1,q2,q3,q4,q5,q6,q7⟩:=vU (i+1) k2 hm.2 h2 (by omega)
  refine ⟨u::us,T2,?_,by simp [q2],k3.trans q3,q4,fun j x' u' hx hu=>?_,fun b k hk e=>q6 b k (by omega) (k5 b k (by omega) e),fun b o e=>q7 b o (k7 b o e)⟩
  ·rw [Zb6]
   simp only [Sem.run_bind,k1,Result.andThen_ok,q1,Sem.run_pure]
  ·cases j with
   |zero =>
    simp only [Zaz,ZS.injEq] at hx hu
    subst hx;subst hu
    exact RK.frame (fun b e=>q6 b i (by omega) e) q3.ro k4
   |succ j =>
    have:=q5 j x' u' (by simpa using hx) (by simpa using hu)
    rwa [show i+1+j=i+(j+1) by omega] at this
theorem vV {fn:Func}{us:List Value}(h:(fn.results.toList.mapM (mM a.tmps)).run P w=.ok us w):(results fn a.tmps).run P w=.ok (if us.toArray.size=1 then us.toArray.getD 0 undef else .tuple us.toArray) w:=by
 have e:results fn a.tmps=(do let vs ← fn.results.mapM (mM a.tmps);pure (if h:vs.size=1 then vs[0] else .tuple vs)):=by
  unfold results
  congr 1
 rw [e,Array.mapM_eq_mapM_toList]
 simp only [Sem.run_bind,Sem.run_map,h,Result.andThen_ok,Sem.run_pure]
 by_cases hs:us.toArray.size=1
 ·rw [dif_pos hs,if_pos hs,Zax,zg (by omega),Zbh]
 ·rw [dif_neg hs,if_neg hs]
theorem rU {fn:Func}{R:Ending→World→Prop}{B:Nat}:∀ {ms:List Nat} {w:World},ms.Nodup→(∀ r∈ms,B≤r∧w.heap[r]?=some (.deferred (some []))) →
  (∀ w',w'.os=w.os→w'.tape=w.tape→w'.output=w.output→w'.heap.size=w.heap.size→(∀ b,b ∉ ms→w'.heap[b]?=w.heap[b]?)→∃ v,(results fn a.tmps).run P w'=.ok v w'∧R (.returned v) w') →
  LeavesInM Fence.wide 0 P fn a.tmps R (ms.map jX) .returning w
 |[],w,_,_,h=>by
  simp only [Zar,LeavesInM,LeavesIn]
  exact h w rfl rfl rfl rfl fun _ _=>rfl
 |r::ms,w,hnd,hms,h=>by
  simp only [Zai,LeavesInM]
  obtain ⟨hn1,hn2⟩:=Zcr.1 hnd
  obtain ⟨k1,k2⟩:=hms r (by simp)
  have hr:r<w.heap.size:=(zw.1 k2).1
  have hput:∀ b,b≠r→(w.putObj r (.deferred none)).heap[b]?=w.heap[b]?:=fun b hb=>by simp [World.putObj,ZaQ,Ne.symm hb]
  refine ⟨by simp,.inl ⟨r,_,rfl,run_takeDeferred k2,rU (B:=B) hn2 (fun r' hr'=>?_) fun w' e1 e2 e3 e4 e5=>h w' e1 e2 e3 (by rw [e4];simp [World.putObj]) fun b hb=>?_⟩⟩
  ·obtain ⟨q1,q2⟩:=hms r' (by simp [hr'])
   exact ⟨q1,by rw [hput r' (fun e=>hn1 (e ▸ hr'))];exact q2⟩
  ·simp only [ZaK,not_or] at hb
   rw [e5 b hb.2,hput b hb.1]
end
section
variable {P:Program}{L K:Nat}{σ σ':Nat→Nat}{T T' T1 T2:Tags}{st st' st1:St}{a a1:Act}{w w1:World}{r:Root}
 {rec:aj→St→Option (Ex×St)} {env:Env}
theorem Et {gs:List ResultVar}{vs:List rY}{xs:List qK}(h:aQ L σ T st a w)(hm:og P gs vs=true)(hp:fO st vs=some xs) :
  ∃ (us:List Value) (T':Tags),(gs.mapM (mM a.tmps)).run P w=.ok us w∧us.length=xs.length∧Still T T'∧(∀ b,w.heap.size≤b→T' b=.other)∧∀ (j:Nat) x u,xs[j]?=some x→us[j]?=some u→RKo T' w st.slots.length j x u:=by
 have gen:resultList st vs=some xs→∃ (us:List Value) (T':Tags),(gs.mapM (mM a.tmps)).run P w=.ok us w∧us.length=xs.length∧Still T T'∧(∀ b,w.heap.size≤b→T' b=.other)∧∀ (j:Nat) x u,xs[j]?=some x→us[j]?=some u→RKo T' w st.slots.length j x u:=fun hl=>by
  obtain ⟨us,T',k1,k2,k3,k4,k5,_⟩:=vU 0 h hm hl (ze _)
  exact ⟨us,T',k1,k2,k3,k4,fun j x u hx hu=>.inl (by simpa using k5 j x u hx hu)⟩
 unfold fO at hp
 split at hp
 case h_3=>exact gen hp
 case h_2 =>
  rename_i t n
  split at hp
  case h_2=>cases hp
  rename_i p j hs
  split at hp
  case h_2=>cases hp
  rename_i bx h1
  split at hp
  ·cases hp
  ·rename_i hf
   simp only [Za9,ZaR,decide_eq_false_iff_not,not_or,ZbD,Zb9] at hf
   obtain ⟨cs,h2,rfl⟩:=dU hp
   obtain ⟨T0,hgs,hc⟩:∃ T0,gs=[.cell t T0]∧kN P T0=some (some n):=by
    match gs,hm with
    |[.tmp s],hm=>simp [og,TI] at hm
    |[.cell s T0],hm=>simp [og,TI] at hm;exact ⟨T0,by rw [hm.1],hm.2⟩
    |[],hm=>simp [og] at hm
    |_::_::_,hm=>simp [og] at hm
   subst hgs
   obtain ⟨u,T',r1,r2,r3,r4⟩:=TL (P:=P) (K:=st.slots.length) h hc hs h1 hf.1 hf.2 h2
   refine ⟨[u],T',?_,rfl,r2,r3,fun j x u' hx hu=>?_⟩
   ·simp only [Zb6,List.mapM_nil,Sem.run_bind,r1,Result.andThen_ok,Sem.run_pure]
   ·cases j with
    |zero =>
     simp only [Zaz,ZS.injEq] at hx hu
     subst hx;subst hu;exact r4
    |succ j=>simp at hx
 rename_i t
 split at hp
 case h_2=>exact gen hp
 rename_i f caps hs
 obtain ⟨⟨p,fl⟩,h1,h2⟩:=dU hp
 subst h2
 have hmo:aS (.tmp t) (.t t)=true:=by simp [aS]
 have hg:st.get (.t t)=.fn f caps:=hs
 have hsn:st.jL (st.get (.t t))=some (p,fl):=by rw [hg];exact h1
 obtain ⟨k1,_,k3⟩:=h.Oa hmo hsn
 obtain ⟨T1,q1,q2,q3,q4⟩:=kG.args [.t t] (kG.refl T st) h (fun x hx=>by simp only [Zaq] at hx;subst hx;exact k1)
 have hgs:gs=[.tmp t]:=by
  match gs,hm with
  |[.tmp s],hm=>simp [og,TI] at hm;rw [hm]
  |[.cell s T0],hm=>simp [og,TI] at hm
  |[],hm=>simp [og] at hm
  |_::_::_,hm=>simp [og] at hm
 subst hgs
 refine ⟨[a.eval (.tmp t)],T1,by simp [mM,Act.eval],rfl,q3,q2.fresh,fun j x u hx hu=>?_⟩
 cases j with
 |zero =>
  simp only [Zaz,ZS.injEq] at hx hu
  subst hx;subst hu
  exact .inl (RK.pv (k3 T1 q3 (q4 _ (by simp))))
 |succ j=>simp at hx
theorem TM {ok good:Nat→Prop}(hg:∀ b,bZ w b→good b){x:PV}{v:Value}(h:aG ok w x v):aG (fun b=>ok b∧good b) w x v:=by
 induction h with
 |int k n=>exact .int k n
 |bool b=>exact .bool b
 |str s=>exact .str s
 |pO=>exact .pO
 |void v h=>exact .void v h
 |nil sz a=>exact .nil sz a
 |kZ sz a=>exact .kZ sz a
 |list sz es b off c cv h1 h2 h3 h4 h6 h7 h8 ih=>exact .list sz es b off c cv ⟨h1,hg b h2⟩ h2 h3 h4 h6 h7 ih
 |agg cs arr h1 h2 h3 ih=>exact .agg cs arr h1 h2 ih
 |func f caps arr h1 h2 ih=>exact .func f caps arr h1 ih
 |cu cs j b off cv h1 h2 h3 h4 ih=>exact .cu cs j b off cv ⟨h1,hg b h2⟩ h2 h3 ih
def drop (T:Tags)(ms:List Nat):Tags:=fun b=>if b∈ms then .other else T b
theorem aQ.drop (h:aQ L σ T st a w){ms:List Nat}(hms:∀ r∈ms,¬ bZ w r)(hw:∀ b,b ∉ ms→w1.heap[b]?=w.heap[b]?)(hsz:w1.heap.size=w.heap.size):aQ L σ (drop T ms) st a w1:=by
 have hg:∀ b,bZ w b→b ∉ ms:=fun b hc hb=>hms b hb hc
 have hp:∀ {x v},aG (fun b=>T b=.ro) w x v→aG (fun b=>Go.Proofs.YthccglceomoboaaGreatDoor.drop T ms b=.ro) w1 x v:=fun h =>
  (TM hg h).frame fun b hb _=>⟨by simp [Go.Proofs.YthccglceomoboaaGreatDoor.drop,hb.1,hb.2],hw b hb.2⟩
 have hrow:∀ {r sz es v},aV T w r sz es v→aV (Go.Proofs.YthccglceomoboaaGreatDoor.drop T ms) w1 r sz es v:=fun {r sz es v} h=>by
  rcases h with h|⟨b,c,arr,E,h1,h2,h3,h4,h5,h6,h7,h8⟩
  ·exact .inl h
  ·have hb:b ∉ ms:=hg b ⟨_,_,_,h3⟩
   refine .inr ⟨b,c,arr,E,h1,by simp [Go.Proofs.YthccglceomoboaaGreatDoor.drop,hb,h2],(hw b hb).trans h3,h4,h5,h6,h7,fun i e j x hi hj=>?_⟩
   obtain ⟨u,k1,k2,k3⟩:=h8 i e j x hi hj
   exact ⟨u,k1,k2,hp k3⟩
 have hbox:∀ o,o<st.boxes.length→σ o ∉ ms:=fun o ho=>hg _ (h.boxes o _ (ZD ho)).Kv
 have NV:∀ r:Root,r.low st.boxes.length→hdr σ a w1 r=hdr σ a w r:=fun r hr=>by
  cases r with
  |slot t=>rfl
  |part t i=>rfl
  |cell o j=>exact World.cell?_of_block (w:=w) (a:=⟨σ o,j,none⟩) (hw _ (hbox o hr))
 refine ⟨h.size,fun t av v ht hv=>?_,fun o bx ho=>?_,fun b hb=>?_⟩
 ·have hA:=h.slots t av v ht hv
  cases av with
  |pv x=>exact hp hA
  |row sz es=>exact hrow hA
  |ref r off len=>exact ⟨hA.1,fun sz es hr=>by rw [NV r hA.1];exact hA.2 sz es hr⟩
  |aO o j=>exact hA
  |oz r i j=>exact ⟨hA.1,fun sz es hr=>by rw [NV r hA.1];exact hA.2 sz es hr⟩
  |fn f caps =>
   obtain ⟨arr,e1,e2,e3⟩:=hA
   refine ⟨arr,e1,e2,fun k x u hx hu=>?_⟩
   have:=e3 k x u hx hu
   cases x with
   |pv p=>exact hp this
   |_=>exact this
  |kE k l =>
   obtain ⟨arr,e1,e2,e3⟩:=hA
   refine ⟨arr,e1,e2,fun k x u hx hu=>?_⟩
   have:=e3 k x u hx hu
   cases x with
   |pv p=>exact hp this
   |row sz es=>exact hrow this
   |_=>exact this
  |Dk s l=>exact ⟨hp hA.1,hA.2⟩
  |pp o j =>
   obtain ⟨q0,b,E,q1,q2,q3⟩:=hA
   have hb:b ∉ ms:=hg b ⟨_,_,_,q3⟩
   exact ⟨q0,b,E,q1,by simp [Go.Proofs.YthccglceomoboaaGreatDoor.drop,hb,q2],(hw b hb).trans q3⟩
  |lV=>exact hA
  |any=>trivial
 ·have hb:=hbox o (zb.1 ho).1
  obtain ⟨arr,E,g1,g2,g3,g4,g5⟩:=h.boxes o bx ho
  refine ⟨arr,E,(hw _ hb).trans g1,g2,by simp only [Go.Proofs.YthccglceomoboaaGreatDoor.drop,if_neg hb];exact g3,g4,fun j bv u hj hu=>?_⟩
  obtain ⟨k1,k2⟩:=g5 j bv u hj hu
  refine ⟨k1,?_⟩
  cases bv with
  |pv x=>exact hp k2
  |row sz es=>exact hrow k2
 ·unfold Go.Proofs.YthccglceomoboaaGreatDoor.drop
  split
  ·rfl
  ·exact h.fresh b (by omega)
def outT (T:Tags)(K:Nat):Tags:=fun b=>match T b with
 |.ro=>.ro
 |.row (.part k i)=>if k=K then .row (.part 0 i) else .other
 |_=>.other
theorem iQ.afv {k:Nat}{x:AV}{v:Value}(h:iQ T w K k x v):iQ (outT T K) w 0 k x v:=by
 cases x with
 |pv p=>exact aG.frame (fun b e _=>⟨by simp [outT,e],rfl⟩) h
 |row sz es=>exact aV.frame (fun b e _=>⟨by simp [outT,e],rfl⟩) (fun b e _=>⟨by simp [outT,e],rfl⟩) h
 |any=>trivial
 |_=>exact h
theorem RK.apR {i:Nat}{x:qK}{u:Value}(h:RK T w K i x u):R1 (outT T K) w i x u:=by
 have hp:∀ {x v},aG (fun b=>T b=.ro) w x v→aG (fun b=>outT T K b=.ro) w x v:=fun h=>h.frame fun b hb _=>⟨by simp [outT,hb],rfl⟩
 have hrow:∀ {sz es},aV T w (.part K i) sz es u→aV (outT T K) w (.part 0 i) sz es u:=fun h=>aV.frame (fun b e _=>⟨by simp [outT,e],rfl⟩) (fun b e _=>⟨by simp [outT,e],rfl⟩) h
 obtain ⟨v,own⟩:=x
 cases v<;>cases own<;>first|exact hrow h|exact hp h|exact False.elim h
theorem RK.out {i:Nat}{x:qK}{u:Value}(h:RKo T w K i x u):R1 (outT T K) w i x u:=by
 rcases h with h|⟨_,cs,rfl,arr,rfl,h1,h2⟩
 ·exact RK.apR h
 ·exact ⟨arr,rfl,h1,fun k x v hx hv=>iQ.afv (h2 k x v hx hv)⟩
def bf (P:Program)(f:Nat)(fn:dP):Bool :=
 match P.funcs[f]? with
 |some g=>(match g.body with
  |some c=>mC P c fn.body
  |none=>false)&&g.name != "runtime.NumGoroutine"&&g.ntmps==fn.ntmps&&decide (fn.nargs≤fn.ntmps)&&og P g.results.toList fn.results
 |none=>false
theorem uw {f:Nat}{fn:dP}(h:bf P f fn=true):callable P f=true∧∃ g c,P.funcs[f]?=some g∧g.body=some c∧mC P c fn.body=true∧g.ntmps=fn.ntmps∧fn.nargs≤fn.ntmps∧og P g.results.toList fn.results=true:=by
 unfold bf at h
 split at h
 case h_2=>cases h
 rename_i g hf
 simp only [ZZ,beq_iff_eq,bne_iff_ne,decide_eq_true_eq] at h
 obtain ⟨⟨⟨⟨h1,h2⟩,h3⟩,h4⟩,h5⟩:=h
 split at h1
 case h_2=>cases h1
 rename_i c hb
 exact ⟨by simp [callable,hf,h2,hb],g,c,hf,hb,h1,h3,h4,h5⟩
def vW (T0:Tags)(w:World):Nat→Tags→World→Prop:=fun _ T w'=>Below w.heap.size w w'∧∀ b,b<w.heap.size→T b=T0 b
theorem Ce {T0:Tags}(h0:∀ b,T0 b=.ro∨T0 b=.other){k:Nat}{w w1 w2:World}(hc:xW T T' w1 w2)(h:vW T0 w k T w1):vW T0 w k T' w2:=by
 obtain ⟨h1,h2⟩:=h
 refine ⟨h1.trans ⟨hc.os,hc.tape,hc.output,hc.size,fun b hb=>hc.same b (Zan hb h1.size) ?_⟩,fun b hb=>?_⟩
 ·rw [h2 b hb];exact h0 b
 ·rcases h0 b with e|e
  ·rw [e];exact hc.ro b (by rw [h2 b hb,e])
  ·rw [e];exact hc.other b (Zan hb h1.size) (by rw [h2 b hb,e])
theorem Oz {T0:Tags}{args:List PV}{vs:List Value}{n:Nat}(hf:∀ b,w.heap.size≤b→T0 b=.other)(hl:vs.length=args.length)(hr:∀ (i:Nat) x v,args[i]?=some x→vs[i]?=some v→aG (fun b=>T0 b=.ro) w x v)(ys:List (List PV))(stop:Option (Option Nat)) :
  aQ L σ T0 ⟨args.map .pv++Zaw (n - args.length) .any,[],ys,stop⟩ { tmps:=vs.toArray++ZaV (n - vs.toArray.size) undef,defers:=[] } w:=by
 refine ⟨by simp [hl],fun t av v ht hv=>?_,fun o bx ho=>by simp at ho,hf⟩
 simp only at ht hv
 rcases ZaJ t args.length with h|h
 ·rw [Zac (by simpa using h),zc,ZD h] at ht
  rw [Za5 (by simpa [hl] using h)] at hv
  cases ht
  exact hr t _ v (ZD h) (by simpa using hv)
 ·rw [Zab (by simpa using h),ZbH] at ht
  split at ht
  ·cases ht;trivial
  ·cases ht
theorem XW (hR:qj P rec){f:Nat}{fn:dP}{args:List PV}{rs:List qK}(hfn:bf P f fn=true)(hl:args.length=fn.nargs){e:Ex}(he:∀ i,e≠.exit i)(he2:∀ t n,e≠.oL t n)
  (hb:rec fn.body ⟨args.map .pv++Zaw (fn.ntmps - args.length) .any,[],[],none⟩=some (e,st)) (hrs:fO st fn.results=some rs):lq P f args rs:=by
 intro T0 w vs h0 hf hlen hr hG
 obtain ⟨_,g,c,k1,k2,k3,k4,k5,k6⟩:=uw hfn
 refine (callsIn_wide (n:=0)).1 (callsIn_of_wp_marks k1 k2 trivial ?_)
 rw [k4]
 have KX:aQ 0 (fun _=>0) T0 ⟨args.map .pv++Zaw (fn.ntmps - args.length) .any,[],[],none⟩ { tmps:=vs.toArray++ZaV (fn.ntmps - vs.toArray.size) undef,defers:=[] } w:=Oz hf hlen hr [] none
 have hC:Ctx.Ok ⟨st.ys,none,vW T0 w⟩ P 0:=⟨fun k T T' w1 w2 hc h=>Ce (k:=k) h0 hc h,fun k T w1 h=>hG.frame fun b e hb=>⟨(h.2 b hb).trans e,h.1.block b hb⟩,fun s k T w ps vs hs=>by cases hs⟩
 have hJ:vW T0 w 0 T0 w:=⟨Below.refl _ _,fun _ _=>rfl⟩
 refine wpIn_mono (hR.wp (F:=Fence.wide) (L:=0) (C:=⟨st.ys,none,vW T0 w⟩) (n:=0) (.inl rfl) (Ctx.zB _) hC c fn.body _ e st k3 hb rfl (ZbE _) _ T0 _ w KX hJ) ?_
 rintro x a' w' ⟨rfl,σ',T',ms,q1,q2,q3,q4,q5,q6⟩
 obtain ⟨p1,p2⟩:=q2
 have key:LeavesInM Fence.wide 0 P g a'.tmps (fun e w'=>∃ v T',e=.returned v∧Below w.heap.size w w'∧(∀ b,b<w.heap.size→T' b=T0 b)∧(∀ b,w'.heap.size≤b→T' b=.other)∧uh T' w' rs v) a'.defers .returning w':=by
  rw [q5,ZaI]
  refine rU (B:=w.heap.size) q6.2 (fun r hr=>⟨(q6.1 r hr).1,(q6.1 r hr).2.2⟩) fun w2 e1 e2 e3 e4 e5=>?_
  have q1':=q1.drop (fun r hr ⟨arr,E,q,e⟩=>by rw [(q6.1 r hr).2.2] at e;cases e) e5 e4
  obtain ⟨us,T2,r1,r2,r3,r4,r5⟩:=Et q1' k6 hrs
  have hms:∀ b,b<w.heap.size→b ∉ ms:=fun b hb hm=>by have:=(q6.1 b hm).1;omega
  have hT2:∀ b,b<w.heap.size→T2 b=T0 b:=fun b hb=>by
   have e:drop T' ms b=T0 b:=by simp only [drop,if_neg (hms b hb)];exact p2 b hb
   rcases h0 b with e0|e0
   ·rw [e0];exact r3.ro b (by rw [e,e0])
   ·rw [e0];exact r3.other b (by rw [e,e0])
  refine ⟨_,vV r1,_,outT T2 st.slots.length,rfl,p1.trans ⟨e1,e2,e3,by omega,fun b hb=>e5 b (hms b hb)⟩,fun b hb=>?_,fun b hb=>?_,us.toArray,by simpa using r2,rfl,fun i x u hx hu=>RK.out (r5 i x u hx (by simpa using hu))⟩
  ·simp only [outT,hT2 b hb]
   rcases h0 b with e0|e0<;>rw [e0]
  ·simp only [outT,r4 b hb]
 cases e with
 |normal=>exact key
 |ret=>exact key
 |exit i=>exact absurd rfl (he i)
 |oL t n=>exact absurd rfl (he2 t n)
theorem XY {T0:Tags}{x:kL}{v:Value}{args:List PV}{vs:List Value}{n:Nat}(hf:∀ b,w.heap.size≤b→T0 b=.other)(hx:afl T0 w v x)(hl:vs.length=args.length)(hr:∀ (i:Nat) x v,args[i]?=some x→vs[i]?=some v→aG (fun b=>T0 b=.ro) w x v) :
  ∃ σ:Nat→Nat,aQ 0 σ T0 ⟨x.av::(args.map .pv++Zaw (n - (args.length+1)) .any),x.boxes,[],none⟩ { tmps:=(v::vs).toArray++ZaV (n - (v::vs).toArray.size) undef,defers:=[] } w∧∀ b,v=.pointer (some ⟨b,0,none⟩)→(∃ cs,x=.box cs)→σ 0=b:=by
 obtain ⟨b0,hb0⟩:∃ b0,∀ cs,x=.box cs→v=.pointer (some ⟨b0,0,none⟩)∧iU T0 w b0 0 ⟨false,cs.map .pv⟩:=by
  cases x with
  |box cs=>obtain ⟨b,h1,h2⟩:=hx;exact ⟨b,fun cs' e=>by cases e;exact ⟨h1,h2⟩⟩
  |row sz es=>exact ⟨0,fun _ e=>by cases e⟩
  |own l=>exact ⟨0,fun _ e=>by cases e⟩
 refine ⟨fun _=>b0,⟨by simp [hl];omega,fun t av u ht hu=>?_,fun o bx ho=>?_,hf⟩,fun b hb ⟨cs,hcs⟩=>?_⟩
 ·cases t with
  |zero =>
   simp only [Zaz,ZS.injEq] at ht
   have hu':u=v:=by
    have:((v::vs).toArray++ZaV (n - (v::vs).toArray.size) undef)[0]?=some v:=by rw [Za5 (by simp)];rfl
    rw [this] at hu;exact (ZS.inj hu).symm
   subst hu'
   subst ht
   cases x with
   |row sz es=>exact hx
   |own l=>obtain ⟨arr,h1,h2,h3⟩:=hx;exact ⟨arr,h1,h2,h3⟩
   |box cs=>exact ⟨by simp [kL.boxes],(hb0 cs rfl).1⟩
  |succ t =>
   rw [Za3] at ht
   rcases ZaJ t args.length with h|h
   ·rw [Zac (by simpa using h),zc,ZD h] at ht
    simp only at hu
    rw [Za5 (by simp [hl];omega)] at hu
    cases ht
    exact hr t _ u (ZD h) (by simpa using hu)
   ·rw [Zab (by simpa using h),ZbH] at ht
    split at ht
    ·cases ht;trivial
    ·cases ht
 ·cases x with
  |box cs =>
   cases o with
   |zero =>
    simp only [kL.boxes,Zaz,ZS.injEq] at ho
    subst ho
    exact (hb0 cs rfl).2
   |succ o=>simp [kL.boxes] at ho
  |row sz es=>simp [kL.boxes] at ho
  |own l=>simp [kL.boxes] at ho
 ·have:=(hb0 cs hcs).1
  rw [this] at hb
  injection hb with hb
  injection hb with hb
  injection hb with hb
def aaP (T0:Tags)(w:World):Nat→Tags→World→Prop:=fun _ T w'=>w.heap.size≤w'.heap.size∧w'.os=w.os∧w'.tape=w.tape∧w'.output=w.output∧∀ b,b<w.heap.size→(T0 b=.ro∨T0 b=.other)→w'.heap[b]?=w.heap[b]?∧T b=T0 b
theorem XZ {T0:Tags}{k:Nat}{w w1 w2:World}(hc:xW T T' w1 w2)(h:aaP T0 w k T w1):aaP T0 w k T' w2:=by
 obtain ⟨h1,h2,h3,h4,h5⟩:=h
 refine ⟨Zaf h1 hc.size,hc.os.trans h2,hc.tape.trans h3,hc.output.trans h4,fun b hb e=>?_⟩
 obtain ⟨k1,k2⟩:=h5 b hb e
 have hl:=Zan hb h1
 refine ⟨(hc.same b hl (by rw [k2];exact e)).trans k1,?_⟩
 rcases e with e|e
 ·rw [e];exact hc.ro b (by rw [k2,e])
 ·rw [e];exact hc.other b hl (by rw [k2,e])
theorem TN (hR:qj P rec){f:Nat}{fn:dP}{x:kL}{args:List PV}{rs:List qK}{out:Option (List PV)}(hfn:bf P f fn=true){e:Ex}(he:∀ i,e≠.exit i)(he2:∀ t n,e≠.oL t n)
  (hb:rec fn.body ⟨x.av::(args.map .pv++Zaw (fn.ntmps - (args.length+1)) .any),x.boxes,[],none⟩=some (e,st)) (hrs:tJ x st fn.results=some (rs,out)):VD P f x args rs out:=by
 intro T0 w v vs hf hx hlen hr hG
 obtain ⟨_,g,c,k1,k2,k3,k4,k5,k6⟩:=uw hfn
 refine (callsIn_wide (n:=0)).1 (callsIn_of_wp_marks k1 k2 trivial ?_)
 rw [k4]
 obtain ⟨σ0,KX,hσ0⟩:=XY (n:=fn.ntmps) hf hx hlen hr
 have hC:Ctx.Ok ⟨st.ys,none,aaP T0 w⟩ P 0:=⟨fun k T T' w1 w2 hc h=>XZ (k:=k) hc h,fun k T w1 h=>hG.frame fun b e hb=>⟨by rw [(h.2.2.2.2 b hb (.inl e)).2,e],(h.2.2.2.2 b hb (.inl e)).1⟩,fun s k T w ps vs hs=>by cases hs⟩
 have hJ:aaP T0 w 0 T0 w:=⟨ze _,rfl,rfl,rfl,fun _ _ _=>⟨rfl,rfl⟩⟩
 refine wpIn_mono (hR.wp (F:=Fence.wide) (L:=0) (C:=⟨st.ys,none,aaP T0 w⟩) (n:=0) (.inl rfl) (Ctx.zB _) hC c fn.body _ e st k3 hb rfl (ZbE _) _ T0 _ w KX hJ) ?_
 rintro x' a' w' ⟨rfl,σ',T',ms,q1,q2,q3,q4,q5,q6⟩
 obtain ⟨p1,p2,p3,p4,p5⟩:=q2
 have key:LeavesInM Fence.wide 0 P g a'.tmps (fun e w'=>∃ u T',e=.returned u∧w.heap.size≤w'.heap.size∧w'.os=w.os∧w'.tape=w.tape∧w'.output=w.output∧(∀ b,b<w.heap.size→(T0 b=.ro∨T0 b=.other)→w'.heap[b]?=w.heap[b]?∧T' b=T0 b)∧(∀ b,w'.heap.size≤b→T' b=.other)∧uh T' w' rs u∧aau T' w' v out) a'.defers .returning w':=by
  rw [q5,ZaI]
  refine rU (B:=w.heap.size) q6.2 (fun r hr=>⟨(q6.1 r hr).1,(q6.1 r hr).2.2⟩) fun w2 e1 e2 e3 e4 e5=>?_
  have q1':=q1.drop (fun r hr ⟨arr,E,q,e⟩=>by rw [(q6.1 r hr).2.2] at e;cases e) e5 e4
  have hms:∀ b,b<w.heap.size→b ∉ ms:=fun b hb hm=>by have:=(q6.1 b hm).1;omega
  -- what the results leave of the tags
  have fin:∀ (T1 T2:Tags) (K:Nat),Still (Go.Proofs.YthccglceomoboaaGreatDoor.drop T' ms) T1→Still T1 T2→∀ b,b<w.heap.size→(T0 b=.ro∨T0 b=.other)→w2.heap[b]?=w.heap[b]?∧outT T2 K b=T0 b:=fun T1 T2 K s1 s2 b hb e=>by
   obtain ⟨y1,y2⟩:=p5 b hb e
   refine ⟨(e5 b (hms b hb)).trans y1,?_⟩
   have ed:Go.Proofs.YthccglceomoboaaGreatDoor.drop T' ms b=T0 b:=by simp only [Go.Proofs.YthccglceomoboaaGreatDoor.drop,if_neg (hms b hb)];exact y2
   rcases e with e|e
   ·simp only [outT,s2.ro b (s1.ro b (by rw [ed,e])),e]
   ·simp only [outT,s2.other b (s1.other b (by rw [ed,e])),e]
  have plain:(∀ cs,x≠.box cs)→fO st fn.results=some rs→out=none→∃ u T',(results g a'.tmps).run P w2=.ok u w2∧(∀ b,b<w.heap.size→(T0 b=.ro∨T0 b=.other)→w2.heap[b]?=w.heap[b]?∧T' b=T0 b)∧(∀ b,w2.heap.size≤b→T' b=.other)∧uh T' w2 rs u∧aau T' w2 v out:=fun _ h1 h2=>by
   obtain ⟨us,T2,r1,r2,r3,r4,r5⟩:=Et q1' k6 h1
   refine ⟨_,outT T2 st.slots.length,vV r1,fin _ T2 _ (Still.refl _) r3,fun b hb=>by simp only [outT,r4 b hb],⟨us.toArray,by simpa using r2,rfl,fun i x u hx hu=>RK.out (r5 i x u hx (by simpa using hu))⟩,by rw [h2];trivial⟩
  have pack:∀ (u:Value) (T2:Tags),(∀ b,b<w.heap.size→(T0 b=.ro∨T0 b=.other)→w2.heap[b]?=w.heap[b]?∧T2 b=T0 b)→(∀ b,w2.heap.size≤b→T2 b=.other)→uh T2 w2 rs u→aau T2 w2 v out→∃ u' T',Ending.returned u=.returned u'∧w.heap.size≤w2.heap.size∧w2.os=w.os∧w2.tape=w.tape∧w2.output=w.output∧(∀ b,b<w.heap.size→(T0 b=.ro∨T0 b=.other)→w2.heap[b]?=w.heap[b]?∧T' b=T0 b)∧(∀ b,w2.heap.size≤b→T' b=.other)∧uh T' w2 rs u'∧aau T' w2 v out:=fun u T2 s1 s2 s3 s4 =>
   ⟨u,T2,rfl,by omega,e1.trans p2,e2.trans p3,e3.trans p4,s1,s2,s3,s4⟩
  unfold tJ at hrs
  cases x with
  |row sz es =>
   obtain ⟨l,h1,h2⟩:=dU hrs
   cases h2
   obtain ⟨u,T2,s0,s1,s2,s3,s4⟩:=plain (fun _ e=>by cases e) h1 rfl
   exact ⟨u,s0,pack u T2 s1 s2 s3 s4⟩
  |own lo =>
   obtain ⟨l,h1,h2⟩:=dU hrs
   cases h2
   obtain ⟨u,T2,s0,s1,s2,s3,s4⟩:=plain (fun _ e=>by cases e) h1 rfl
   exact ⟨u,s0,pack u T2 s1 s2 s3 s4⟩
  |box cs =>
   simp only at hrs
   split at hrs
   case h_2=>cases hrs
   rename_i bx hbx
   split at hrs
   ·cases hrs
   rename_i hfz
   have hfz:bx.fz=false:=by simpa using hfz
   obtain ⟨l,h1,h2⟩:=dU hrs
   cases h2
   obtain ⟨T1,t1,t2,_,_,_⟩:=q1'.qM 0
   obtain ⟨us,T2,r1,r2,r3,r4,r5,_,r7⟩:=vU 0 t1 k6 h1 (ze _)
   have hσ:σ' 0=σ0 0:=q3 0 (by simp [kL.boxes])
   obtain ⟨arr,E,g1,g2,g3,g4,g5⟩:=t1.boxes 0 bx hbx
   have hT1:T1 (σ' 0)=.box 0:=by rw [g3];simp [hfz]
   have hrow:∀ (j s:Nat) (l:List PV),bx.cs[j]?≠some (BV.row s l):=fun j s l e=>by
    unfold St.bD at hbx
    cases h0:st.boxes[0]? with
    |none=>rw [h0] at hbx;simp only at hbx;rw [h0] at hbx;cases hbx
    |some b0 =>
     rw [h0] at hbx
     have hl0:0<st.boxes.length:=(zb.1 h0).1
     simp only [List.getElem?_set_self hl0,ZS.injEq] at hbx
     rw [← hbx] at e
     obtain ⟨x,_,hx⟩:=ni e
     cases hx
   refine ⟨_,vV r1,pack _ (outT T2 (st.bD 0).slots.length) (fin T1 T2 _ t2 r3) (fun b hb=>by simp only [outT,r4 b hb]) ⟨us.toArray,by simpa using r2,rfl,fun i x u hx hu=>RK.out (.inl (by simpa using r5 i x u hx (by simpa using hu)))⟩ fun b hv=>?_⟩
   have hb0:σ' 0=b:=hσ.trans (hσ0 b hv ⟨cs,rfl⟩)
   rw [hb0] at g1 hT1
   refine ⟨by simp only [outT,r7 b 0 hT1],arr,E,g1,by simpa using g2,fun j x u hx hu=>?_⟩
   rw [zc] at hx
   cases hc:bx.cs[j]? with
   |none=>rw [hc] at hx;cases hx
   |some bv =>
    rw [hc] at hx
    have hx:=ZS.inj hx
    subst hx
    obtain ⟨y1,y2⟩:=g5 j bv u hc hu
    refine ⟨y1,?_⟩
    cases bv with
    |pv p=>exact aG.frame (fun b hb _=>⟨by simp only [outT,r3.ro b hb],rfl⟩) y2
    |row s l=>exact absurd hc (hrow j s l)
 cases e with
 |normal=>exact key
 |ret=>exact key
 |exit i=>exact absurd rfl (he i)
 |oL t n=>exact absurd rfl (he2 t n)
end
def zval:PV→Value
 |.int k n=>.int k n
 |.bool b=>.bool b
 |_=>.slice none 0 0
def KZ:List Nat→List (List PV)→World→World
 |b::bs,z::zs,w=>KZ bs zs (w.setRow b (z.map zval).toArray)
 |_,_,w=>w
section
variable {P:Program}{L K nb n:Nat}{F:Fence}{σ σ':Nat→Nat}{T T' T1 T2:Tags}{st st' st1:St}{a a1:Act}{w w1:World}{r:Root}{o:Oper}{bU:Array Oper}{Q:Exit→Act→World→Prop}
 {rec:aj→St→Option (Ex×St)} {env:Env}
theorem vX {fn:Func}{tmps:Array Value}{R:Ending→World→Prop}{B:Nat}{ds:List Deferred}{u:FrameMode}(hu:u≠.run):∀ {ms:List Nat} {w:World},ms.Nodup→(∀ r∈ms,B≤r∧w.heap[r]?=some (.deferred (some []))) →
  (∀ w',w'.os=w.os→w'.tape=w.tape→w'.output=w.output→w'.heap.size=w.heap.size→(∀ b,b ∉ ms→w'.heap[b]?=w.heap[b]?)→LeavesInM Fence.wide 0 P fn tmps R ds u w') →
  LeavesInM Fence.wide 0 P fn tmps R (ms.map jX++ds) u w
 |[],w,_,_,h=>h w rfl rfl rfl rfl fun _ _=>rfl
 |r::ms,w,hnd,hms,h=>by
  simp only [Zai,Zbi,LeavesInM]
  obtain ⟨hn1,hn2⟩:=Zcr.1 hnd
  obtain ⟨k1,k2⟩:=hms r (by simp)
  have hput:∀ b,b≠r→(w.putObj r (.deferred none)).heap[b]?=w.heap[b]?:=fun b hb=>by simp [World.putObj,ZaQ,Ne.symm hb]
  refine ⟨hu,.inl ⟨r,_,rfl,run_takeDeferred k2,vX hu (B:=B) hn2 (fun r' hr'=>?_) fun w' e1 e2 e3 e4 e5=>h w' e1 e2 e3 (by rw [e4];simp [World.putObj]) fun b hb=>?_⟩⟩
  ·obtain ⟨q1,q2⟩:=hms r' (by simp [hr'])
   exact ⟨q1,by rw [hput r' (fun e=>hn1 (e ▸ hr'))];exact q2⟩
  ·simp only [ZaK,not_or] at hb
   rw [e5 b hb.2,hput b hb.1]
theorem TP {ok:Nat→Prop}{x:PV}(h:x.ZX=true):aG ok w x (zval x)∧(zval x).oneCell'=true:=by
 cases x with
 |int k n=>exact ⟨.int _ _,rfl⟩
 |bool b=>exact ⟨.bool _,rfl⟩
 |list sz l=>cases l with
  |nil=>exact ⟨.nil _ _,rfl⟩
  |cons _ _=>cases h
 |kZ sz=>exact ⟨.kZ _ _,rfl⟩
 |_=>cases h
theorem aQ.setVar (h:aQ L σ T st a w){p:Nat}{vals:List PV}(hp:st.setVar p vals=some st'):(∃ arr E,w.heap[σ p]?=some (.cells arr E (0,0))∧arr.size=vals.length)∧aQ L σ T st' a (w.setRow (σ p) (vals.map zval).toArray) ∧
  xW T T w (w.setRow (σ p) (vals.map zval).toArray)∧T (σ p)=.box p:=by
 unfold St.setVar at hp
 split at hp
 case h_2=>cases hp
 rename_i bx hb
 split at hp
 ·cases hp
 rename_i hc
 simp only [Za9,ZaR,decide_eq_false_iff_not,not_or,ZbD,Zb9,Bool.not_eq_false] at hc
 obtain ⟨⟨c1,c2⟩,c3⟩:=hc
 cases ZS.inj hp
 obtain ⟨arr,E,g1,g2,g3,g4,g5⟩:=h.boxes p bx hb
 have:=h.D8 (T':=T) (cs':=vals.map .pv) (arr':=(vals.map zval).toArray) id hb c1 g1 (by simp [c2]) (by simp [g2,c2]) (fun k bv u hk hu=>by
  rw [zc] at hk
  cases hx:vals[k]? with
  |none=>rw [hx] at hk;cases hk
  |some x =>
   rw [hx] at hk
   cases hk
   rw [List.getElem?_toArray,zc,hx] at hu
   cases hu
   obtain ⟨q1,q2⟩:=TP (w:=w.setRow (σ p) (vals.map zval).toArray) (ok:=fun b=>T b=.ro) (zt.1 c3 x (Zad hx))
   exact ⟨q2,q1⟩) (fun x=>.inr ⟨rfl,fun k _ s l hk=>by
  rw [zc] at hk
  cases hx:vals[k]? with
  |none=>rw [hx] at hk;cases hk
  |some x=>rw [hx] at hk;cases hk⟩) (fun _ e=>e) (fun _ _ e=>e) (fun _ e=>e) (fun _ _ _ _ _ e=>e) (fun _ _ _ _ _ e=>e) (fun _ _ _ _ e=>e)
 rw [List.map_id] at this
 exact ⟨⟨arr,E,g1,by omega⟩,this.1,this.2,by rw [g3,c1];rfl⟩
theorem aQ.oM:∀ {os:List Nat} {zs:List (List PV)} {st:St} {w:World},aQ L σ T st a w→St.oM os zs st=some st'→aQ L σ T st' a (KZ (os.map σ) zs w)∧xW T T w (KZ (os.map σ) zs w)
 |[],[],st,w,h,hp=>by
  simp only [St.oM,ZS.injEq] at hp
  subst hp
  exact ⟨h,xW.refl T w⟩
 |[],_::_,st,w,_,h=>by simp [St.oM] at h
 |_::_,[],st,w,_,h=>by simp [St.oM] at h
 |o::os,z::zs,st,w,hs,h=>by
  simp only [St.oM] at h
  obtain ⟨s1,h1,h2⟩:=bind_some h
  obtain ⟨_,g1,g2,_⟩:=hs.setVar h1
  obtain ⟨k1,k2⟩:=aQ.oM g1 h2
  exact ⟨k1,g2.trans k2⟩
theorem aQ.DT (h:aQ L σ T st a w){p:Nat}{m:Int}(hp:st.DT p=some m):(∃ E,w.heap[σ p]?=some (.cells #[.int .i64 m] E (0,0)))∧T (σ p)=.box p:=by
 unfold St.DT at hp
 split at hp
 case h_2=>cases hp
 rename_i m' hb
 cases ZS.inj hp
 obtain ⟨arr,E,g1,g2,g3,g4,g5⟩:=h.boxes p _ hb
 refine ⟨⟨E,?_⟩,g3⟩
 match arr,g2 with
 |⟨[u]⟩,_ =>
  have:=(g5 0 _ u rfl rfl).2
  rw [aG.dA this] at g1
  exact g1
theorem aaQ (hR:qj P rec){f:Nat}{fn:dP}{args:List PV}{t:Nat}{m:Int}(hfn:bf P f fn=true)(hl:args.length=fn.nargs)
  (hb:rec fn.body ⟨args.map .pv++Zaw (fn.ntmps - args.length) .any,[],[],none⟩=some (.oL t m,st)):VB P f args t m:=by
 intro T0 w vs h0 hf hlen hr hG
 obtain ⟨_,g,c,k1,k2,k3,k4,k5,k6⟩:=uw hfn
 refine (callsIn_wide (n:=0)).1 (callsIn_of_wp_marks k1 k2 trivial ?_)
 rw [k4]
 have KX:aQ 0 (fun _=>0) T0 ⟨args.map .pv++Zaw (fn.ntmps - args.length) .any,[],[],none⟩ { tmps:=vs.toArray++ZaV (fn.ntmps - vs.toArray.size) undef,defers:=[] } w:=Oz hf hlen hr [] none
 have hC:Ctx.Ok ⟨st.ys,none,vW T0 w⟩ P 0:=⟨fun k T T' w1 w2 hc h=>Ce (k:=k) h0 hc h,fun k T w1 h=>hG.frame fun b e hb=>⟨(h.2 b hb).trans e,h.1.block b hb⟩,fun s k T w ps vs hs=>by cases hs⟩
 have hJ:vW T0 w 0 T0 w:=⟨Below.refl _ _,fun _ _=>rfl⟩
 refine wpIn_mono (hR.wp (F:=Fence.wide) (L:=0) (C:=⟨st.ys,none,vW T0 w⟩) (n:=0) (.inl rfl) (Ctx.zB _) hC c fn.body _ _ st k3 hb rfl (ZbE _) _ T0 _ w KX hJ) ?_
 rintro x a' w' ⟨rfl,σ',T',ms,q1,q2,q3,q4,q5,q6⟩
 obtain ⟨p1,p2⟩:=q2
 simp only [toX,bodyPostM]
 rw [q5]
 refine vX (B:=w.heap.size) (by simp) q6.2 (fun r hr=>⟨(q6.1 r hr).1,(q6.1 r hr).2.2⟩) fun w2 e1 e2 e3 e4 e5=>?_
 have hms:∀ b,b<w.heap.size→b ∉ ms:=fun b hb hm=>by have:=(q6.1 b hm).1;omega
 exact ⟨rfl,p1.trans ⟨e1,e2,e3,by omega,fun b hb=>e5 b (hms b hb)⟩⟩
end
def Ci (P:Program)(env:Env):Prop:=∀ f d,env f=some d→match d with
 |.code fn=>bf P f fn=true
 |.ext g=>∀ args rs,g args=some rs→callable P f=true∧lq P f args rs
 |.Ie h=>callable P f=true∧KI P f h
 |.oL h=>(∀ args,h args=some none→callable P f=true∧lq P f args [])∧∀ args t n,h args=some (some (t,n))→callable P f=true∧VB P f args t n
 |.dfn _=>False
section
variable {P:Program}{L K:Nat}{σ σ':Nat→Nat}{T T' T1 T2:Tags}{st st' st1:St}{a a1:Act}{w w1:World}{r:Root}
 {rec:aj→St→Option (Ex×St)} {env:Env}
theorem OA (hR:qj P rec)(hE:Ci P env):gu P rec env:=by
 refine ⟨?_,(fun f h e=>hE f _ e),?_,?_⟩
 rotate_left
 ·intro f x args rs out h
  unfold oN at h
  split at h
  ·rename_i fn hfn
   have hok:bf P f fn=true:=hE f _ hfn
   split at h
   case isFalse=>cases h
   replace h:=bind_some h
   obtain ⟨⟨e,st⟩,h1,h⟩:=h
   simp only at h
   refine ⟨(uw hok).1,?_⟩
   split at h
   ·cases h
   ·cases h
   ·rename_i hne hne2
    exact TN hR hok (fun i e=>hne i e) (fun t n e=>hne2 t n e) h1 h
  ·cases h
 ·intro f args t n h
  unfold Ig at h
  split at h
  ·rename_i g hg
   exact (hE f _ hg).2 args t n h
  ·rename_i fn hfn
   have hok:bf P f fn=true:=hE f _ hfn
   split at h
   case isFalse=>cases h
   rename_i hl
   obtain ⟨⟨e,st⟩,h1,h⟩:=bind_some h
   refine ⟨(uw hok).1,?_⟩
   cases e with
   |oL t' n' =>
    simp only [ZS.injEq,ZaA.injEq] at h
    obtain ⟨rfl,rfl⟩:=h
    exact aaQ hR hok hl.1 h1
   |_=>cases h
  ·cases h
 intro f args rs h
 unfold iP at h
 split at h
 ·rename_i g hg
  exact hE f _ hg args rs h
 ·rename_i fn hfn
  have hok:bf P f fn=true:=hE f _ hfn
  split at h
  case isFalse=>cases h
  rename_i hl
  replace h:=bind_some h
  obtain ⟨⟨e,st⟩,h1,h⟩:=h
  simp only at h
  refine ⟨(uw hok).1,?_⟩
  split at h
  ·cases h
  ·cases h
  ·rename_i hne hne2
   exact XW hR hok hl (fun i e=>hne i e) (fun t n e=>hne2 t n e) h1 h
 ·cases h
 ·rename_i g hg
  obtain ⟨r,h1,h⟩:=bind_some h
  cases r with
  |some p=>cases h
  |none=>cases ZS.inj h;exact (hE f _ hg).1 args h1
 ·rename_i fn hfn
  exact (show False from hE f _ hfn).elim
 ·cases h
theorem aaR (hE:Ci P env):zC P env:=fun f fn hfn=>by
 have hok:bf P f fn=true:=hE f _ hfn
 obtain ⟨k0,g,c,k1,k2,k3,k4,k5,k6⟩:=uw hok
 refine ⟨k0,g,c,k1,k2,k3,k4,k5,fun he=>?_⟩
 have:fn.results=[]:=by simpa using he
 rw [this] at k6
 have:g.results.toList=[]:=by
  match h:g.results.toList,k6 with
  |[],_=>rfl
  |_::_,k6=>simp [og] at k6
 exact Array.toList_eq_nil_iff.1 this
theorem aaS (hE:Ci P env):∀ n,qj P (vm env n)
 |0=>⟨(fun _ _ _ _ _ _ h=>by simp [vm] at h),(fun _ _ _ _ _ _ _ _ h=>by simp [vm] at h),(fun _ _ _ _ _ _ _ _ _ h=>by simp [vm] at h),(fun _ _ _ _ _ _ _ _ _ _ _ h=>by simp [vm] at h)⟩
 |n+1=>step_ok (aaS hE n) (aaR hE) (OA (aaS hE n) hE)
theorem sH (hE:Ci P env){n f:Nat}{args:List PV}{rs:List qK}(h:RX env n f args=some rs):callable P f=true∧lq P f args rs:=(OA (aaS hE n) hE).1 f args rs h
end
end Go.Proofs.YthccglceomoboaaGreatDoor
namespace Go.Proofs.YthccglceomoboaaGreatDoor
abbrev Rec:=aj→St→Option (Ex×St)
def RLe (f g:Rec):Prop:=∀ c st r,f c st=some r→g c st=some r
open Classical in
noncomputable def den (env:Env)(c:aj)(st:St):Option (Ex×St) :=
 if h:∃ n r,vm env n c st=some r then some (ZcM (Zbw h)) else none
structure Good {α:Type}(env:Env)(F:Rec→Option α):Prop where
 mono:∀ f g,RLe f g→∀ r,F f=some r→F g=some r
 cont:(∀ m n,m≤n→RLe (vm env m) (vm env n))→∀ r,F (den env)=some r→∃ n,F (vm env n)=some r
section
variable {α β:Type}{env:Env}
theorem Good.const (x:Option α):Good env (fun _=>x):=⟨fun _ _ _ _ h=>h,fun _ _ h=>⟨0,h⟩⟩
theorem Good.app (c:aj)(st:St):Good env (fun rec=>rec c st):=⟨fun _ _ h r=>h c st r,fun _ r h=>by
 unfold den at h
 split at h
 case isFalse=>cases h
 rename_i hx
 cases h
 exact ⟨_,Zbw (Zbw hx)⟩⟩
theorem Good.bind {F:Rec→Option α}{G:α→Rec→Option β}(hF:Good env F)(hG:∀ a,Good env (G a)):Good env (fun rec=>(F rec).bind fun a=>G a rec):=⟨fun f g h r e=>by
 obtain ⟨a,h1,h2⟩:=ZaF.1 e
 exact ZaF.2 ⟨a,hF.mono f g h a h1,(hG a).mono f g h r h2⟩,fun hm r e=>by
 obtain ⟨a,h1,h2⟩:=ZaF.1 e
 obtain ⟨m,h3⟩:=hF.cont hm a h1
 obtain ⟨n,h4⟩:=(hG a).cont hm r h2
 exact ⟨max m n,ZaF.2 ⟨a,hF.mono _ _ (hm m _ (Nat.le_max_left m n)) a h3,(hG a).mono _ _ (hm n _ (Zdv m n)) r h4⟩⟩⟩
theorem Good.map {F:Rec→Option α}{g:α→β}(hF:Good env F):Good env (fun rec=>(F rec).map g):=by
 have:=hF.bind (G:=fun a _=>some (g a)) fun a=>Good.const _
 refine ⟨fun f g' h r e=>?_,fun hm r e=>?_⟩
 ·have:=this.mono f g' h r (by simpa [Zb3,Zbz] using e)
  simpa [Zb3,Zbz] using this
 ·obtain ⟨n,hn⟩:=this.cont hm r (by simpa [Zb3,Zbz] using e)
  exact ⟨n,by simpa [Zb3,Zbz] using hn⟩
theorem Good.iP (f:Nat)(args:List PV):Good env (fun rec=>iP rec env f args):=by
 unfold Go.Proofs.YthccglceomoboaaGreatDoor.iP
 split
 ·exact Good.const _
 ·split
  ·refine (Good.app _ _).bind fun a=>?_
   obtain ⟨e,st⟩:=a
   cases e<;>exact Good.const _
  ·exact Good.const _
 ·exact Good.const _
 ·exact Good.const _
 ·split
  ·refine (Good.app _ _).bind fun a=>?_
   split
   ·exact (Good.const _).bind fun st0=>(Good.app _ _).bind fun r=>Good.const _
   ·exact Good.const _
  ·exact Good.const _
 ·exact Good.const _
theorem Good.Ig (f:Nat)(args:List PV):Good env (fun rec=>Ig rec env f args):=by
 unfold Go.Proofs.YthccglceomoboaaGreatDoor.Ig
 split
 ·exact Good.const _
 ·split
  ·exact (Good.app _ _).bind fun a=>Good.const _
  ·exact Good.const _
 ·exact Good.const _
theorem Good.jR (f:Nat)(args:List PV)(s:Option Nat):Good env (fun rec=>jR rec env f args s):=by
 unfold Go.Proofs.YthccglceomoboaaGreatDoor.jR
 split
 ·split
  ·refine (Good.app _ _).bind fun a=>?_
   obtain ⟨e,st⟩:=a
   cases e<;>exact Good.const _
  ·exact Good.const _
 ·exact Good.const _
theorem Good.jM (d f:Nat)(args:List bK)(caps:List AV)(st:St):Good env (fun rec=>jM rec env d f args caps st):=by
 unfold Go.Proofs.YthccglceomoboaaGreatDoor.jM
 exact (Good.const _).bind fun l=>(Good.const _).bind fun k=>(Good.iP f _).bind fun rs=>Good.const _
theorem Good.oN (f:Nat)(x:kL)(args:List PV):Good env (fun rec=>oN rec env f x args):=by
 unfold Go.Proofs.YthccglceomoboaaGreatDoor.oN
 split
 ·split
  ·refine (Good.app _ _).bind fun a=>?_
   obtain ⟨e,st⟩:=a
   cases e<;>exact Good.const _
  ·exact Good.const _
 ·exact Good.const _
theorem Good.iY (d f:Nat)(x:bK)(args:List bK)(caps:List AV)(st:St):Good env (fun rec=>iY rec env d f x args caps st):=by
 unfold Go.Proofs.YthccglceomoboaaGreatDoor.iY pR
 exact (Good.const _).bind fun l=>(Good.const _).bind fun k=>(Good.const _).bind fun q=>(Good.oN f _ _).bind fun r=>Good.const _
theorem Good.act (o:ig)(st:St):Good env (fun rec=>act rec env o st):=by
 cases o
 case call d f args=>exact Good.jM d f args [] st
 case kK d x args =>
  unfold Go.Proofs.YthccglceomoboaaGreatDoor.act
  simp only
  split
  ·exact Good.jM _ _ _ _ _
  ·exact Good.jM _ _ _ _ _
  ·exact Good.const _
 case pk d f x =>
  unfold Go.Proofs.YthccglceomoboaaGreatDoor.act
  simp only
  split
  ·exact (Good.const _).bind fun b=>(Good.iP f _).bind fun rs=>Good.const _
  ·exact Good.const _
 case lin d f x args=>exact Good.iY d f x args [] st
 case linv d g x args =>
  unfold Go.Proofs.YthccglceomoboaaGreatDoor.act
  simp only
  split
  ·exact Good.iY _ _ _ _ _ _
  ·exact Good.iY _ _ _ _ _ _
  ·exact Good.const _
 all_goals exact Good.const _
theorem Good.op1 (o:ig)(st:St):Good env (fun rec=>op1 rec env o st):=by
 unfold Go.Proofs.YthccglceomoboaaGreatDoor.op1
 split
 ·exact Good.act o st
 ·exact Good.const _
theorem Good.op (o:ig)(st:St):Good env (fun rec=>op rec env o st):=by
 unfold Go.Proofs.YthccglceomoboaaGreatDoor.op
 split
 ·split
  ·split
   ·exact Good.op1 _ _
   ·exact Good.const _
  ·exact Good.const _
  ·exact Good.const _
 ·exact Good.op1 _ _
theorem Good.ops:∀ (l:List ig) (st:St),Good env (fun rec=>ops rec env l st)
 |[],st=>Good.const _
 |o::l,st=>(Good.op o st).bind fun st=>Good.ops l st
theorem Good.rounds (slots:List AV)(ps:List Nat)(assign body:aj)(nb:Nat):∀ (xs:List (List PV)) (k:Nat) (st:St),Good env (fun rec=>rounds rec slots ps assign body nb k xs st)
 |[],k,st=>by unfold Go.Proofs.YthccglceomoboaaGreatDoor.rounds;exact Good.const _
 |x::xs,k,st=>by
  unfold Go.Proofs.YthccglceomoboaaGreatDoor.rounds
  refine (Good.const _).bind fun sl=>(Good.app _ _).bind fun a=>?_
  obtain ⟨e,st⟩:=a
  cases e
  case normal =>
   refine (Good.app _ _).bind fun a=>?_
   obtain ⟨e,st⟩:=a
   cases e
   case normal =>
    simp only
    split
    ·exact Good.rounds slots ps assign body nb xs (k+1) _
    ·exact Good.const _
   all_goals exact Good.const _
  all_goals exact Good.const _
theorem Good.ranged (g:bK)(ps:List Nat)(assign body:aj)(st:St):Good env (fun rec=>ranged rec env g ps assign body st):=by
 unfold Go.Proofs.YthccglceomoboaaGreatDoor.ranged
 refine (Good.const _).bind fun v=>?_
 cases v<;>try exact Good.const _
 simp only
 refine (Good.jR _ _ _).bind fun xs=>(Good.rounds _ _ _ _ _ _ _ _).bind fun r=>?_
 obtain ⟨r,st1⟩:=r
 cases r with
 |none=>exact Good.const _
 |some p =>
  obtain ⟨e,k⟩:=p
  refine (Good.jR _ _ _).bind fun xs=>(Good.rounds _ _ _ _ _ _ _ _).bind fun r=>?_
  obtain ⟨r,st1⟩:=r
  cases r<;>exact Good.const _
theorem Good.l7 (keep:List Nat)(vo:List ig)(st:St)(x:iD):Good env (fun rec=>l7 rec env keep vo st x):=by
 unfold Go.Proofs.YthccglceomoboaaGreatDoor.l7
 exact (Good.ops _ _).bind fun s=>Good.const _
theorem Good.agree (keep:List Nat)(vo:List ig)(st s:St):∀ l:List iD,Good env (fun rec=>agree s (l.map (Go.Proofs.YthccglceomoboaaGreatDoor.l7 rec env keep vo st)))
 |[]=>Good.const _
 |x::xs=>by
  simp only [Zai,Go.Proofs.YthccglceomoboaaGreatDoor.agree]
  refine (Good.l7 keep vo st x).bind fun s'=>?_
  split
  ·exact Good.agree keep vo st s xs
  ·exact Good.const _
theorem Good.kX (keep:List Nat)(vo:List ig)(st:St)(l:List iD):Good env (fun rec=>kX rec env keep vo st l):=by
 cases l with
 |nil=>exact Good.const _
 |cons x xs =>
  simp only [Go.Proofs.YthccglceomoboaaGreatDoor.kX]
  exact (Good.l7 keep vo st x).bind fun s=>Good.agree keep vo st s xs
theorem Good.step (c:aj)(st:St):Good env (fun rec=>step rec env c st):=by
 cases c
 case ops l=>exact (Good.ops l st).map
 case oK fz _ _ _ l=>exact (Good.ops l (fz.foldl St.iO st)).map
 case drs fz keep vo alts=>exact (Good.kX keep vo (fz.foldl St.iO st) alts).map
 case lend d ks l =>
  simp only [Go.Proofs.YthccglceomoboaaGreatDoor.step]
  split
  ·split
   ·exact ((Good.ops l _).bind fun s=>Good.const _).map
   ·exact Good.const _
  ·exact Good.const _
 case seq a b =>
  refine (Good.app _ _).bind fun x=>?_
  obtain ⟨e,st⟩:=x
  cases e
  case normal=>exact Good.app _ _
  all_goals exact Good.const _
 case cond c a b =>
  refine (Good.const _).bind fun v=>?_
  cases v<;>try exact Good.const _
  simp only
  split
  ·exact Good.app _ _
  ·exact Good.app _ _
 case block i a =>
  refine (Good.app _ _).bind fun x=>?_
  obtain ⟨e,st⟩:=x
  exact Good.const _
 case loop=>exact Good.app _ _
 case scp=>exact Good.app _ _
 case round keep nb a =>
  refine (Good.const _).bind fun s=>(Good.app _ _).bind fun x=>?_
  obtain ⟨e,st⟩:=x
  cases e
  case normal=>exact Good.app _ _
  all_goals exact Good.const _
 case rng g ps assign body=>exact Good.ranged g ps assign body st
 case clean pre post a =>
  refine (Good.const _).bind fun s=>(Good.app _ _).bind fun x=>?_
  obtain ⟨e,st⟩:=x
  exact Good.const _
 case dem l d f args =>
  refine (Good.ops l st).bind fun st1=>(Good.const _).bind fun vs=>(Good.Ig f vs).bind fun r=>?_
  cases r with
  |some p=>exact Good.const _
  |none=>exact (Good.act _ _).map
 all_goals exact Good.const _
theorem VJ (env:Env):∀ n,RLe (vm env n) (vm env (n+1))
 |0,c,st,r,h=>by simp [vm] at h
 |n+1,c,st,r,h=>(Good.step (env:=env) c st).mono _ _ (VJ env n) r h
theorem OB (env:Env)(m n:Nat)(h:m≤n):RLe (vm env m) (vm env n):=by
 induction h with
 |refl=>exact fun _ _ _ h=>h
 |step _ ih=>exact fun c st r h=>VJ env _ c st r (ih c st r h)
theorem Jw {n:Nat}{c:aj}{st:St}{r:Ex×St}(h:vm env n c st=some r):den env c st=some r:=by
 have hx:∃ n r,vm env n c st=some r:=⟨n,r,h⟩
 unfold den
 rw [dif_pos hx]
 have h2:=Zbw (Zbw hx)
 have h3:=OB env _ _ (Nat.le_max_left n (ZcM hx)) c st r h
 have h4:=OB env _ _ (Zdv n (ZcM hx)) c st _ h2
 rw [h3] at h4
 exact h4.symm
theorem X0 {c:aj}{st:St}{r:Ex×St}(h:den env c st=some r):∃ n,vm env n c st=some r :=
 (Good.app c st).cont (OB env) r h
theorem aaT (env:Env)(n:Nat):RLe (vm env n) (den env):=fun _ _ _ h=>Jw h
theorem lD (env:Env)(c:aj)(st:St):den env c st=step (den env) env c st:=by
 apply Option.ext
 intro r
 constructor
 ·intro h
  obtain ⟨n,hn⟩:=X0 h
  cases n with
  |zero=>simp [vm] at hn
  |succ n=>exact (Good.step c st).mono _ _ (aaT env n) r hn
 ·intro h
  obtain ⟨n,hn⟩:=(Good.step c st).cont (OB env) r h
  exact Jw (n:=n+1) hn
noncomputable def cal (env:Env)(f:Nat)(args:List PV):Option (List qK):=iP (den env) env f args
noncomputable def Eu (env:Env)(f:Nat)(x:kL)(args:List PV):Option (List qK×Option (List PV)):=oN (den env) env f x args
theorem kT {f:Nat}{args:List PV}{rs:List qK}(h:cal env f args=some rs):∃ n,RX env n f args=some rs :=
 (Good.iP (env:=env) f args).cont (OB env) rs h
theorem gy {n f:Nat}{args:List PV}{rs:List qK}(h:RX env n f args=some rs):cal env f args=some rs :=
 (Good.iP (env:=env) f args).mono _ _ (aaT env n) rs h
end
end Go.Proofs.YthccglceomoboaaGreatDoor
