/-
  Part 6 of the texts that the statement stands on.
-/
import Derived.Test.YtpdfhckdmblicaaZ5
import Derived.Lib.SliceRun
import Derived.WalkSpells
import Derived.Laws.EntriesVeiled
set_option linter.all false
namespace Go.Proofs.Ytpdfhckdmblicaa
open Go.RowKit
theorem Try.secB {ok:Nat→Prop} {w:World} {b off n c k g:Nat} {l:List Sec} {x:Sec} (h:Sl secR ok w (some ⟨b,off,none⟩) n c l) (hx:l[k]?=some x) (hb:b<w.heap.size) (hne:b≠g) :
  ∀ w',(∃ y:LaterB w g,w'=y.w)→(loadVar 79 ⟨b,off+k * 8,none⟩).run Try.prog w'=.ok (.agg (secCells x).toArray) w':=by
 rintro _ ⟨y,rfl⟩
 refine Try.loadSec fun j hj=>?_
 rw [← h.sec hx j hj]
 exact World.cell?_of_block (y.grown.block b hb fun e=>hne (Option.some.inj e))
theorem set_selfM {α:Type} {l:List α} {k:Nat} {x:α} (h:l[k]?=some x):l.set k x=l:=by
 obtain ⟨hk,rfl⟩:=List.getElem?_eq_some_iff.1 h
 exact List.set_getElem_self hk
theorem set_setM {α:Type} (l:List α) (k:Nat) (x y:α):(l.set k x).set k y=l.set k y:=by simp
def RetM (K:Value→World→Prop) (w:World) (a b z:List (List Sec)):Ending→World→Prop:=fun e w' =>
 ∃ v u,e=.returned (.tuple #[v,u,.int .i64 (V.imgsErr a b z)])∧Below w.heap.size w w' ∧
  ((V.imgsErr a b z≠0∧v=.slice none 0 0∧u=.slice none 0 0)∨(V.imgsErr a b z=0∧K u w'∧∃ x n c,v=.slice x n c∧Sl secsR (w.heap.size≤·) w' x n c (V.chooseX V.gMerge a b z)))
set_option maxRecDepth 100000 in
set_option maxHeartbeats 4000000 in
theorem mergeR_any {aa ba za:Option Addr} {an ac bn bc zn zc:Nat} {a b z:List (List Sec)} {ok1 ok2 ok3:Nat→Prop} {w:World}
  (ha:Sl secsR ok1 w aa an ac a) (hb:Sl secsR ok2 w ba bn bc b) (hz:Sl secsR ok3 w za zn zc z) (hn:an≤1000000) (hvs:∀ v∈a,v.length≤1000000)
  {K:Value→World→Prop} (hK:∀ u w1 w2,K u w1→Below w1.heap.size w1 w2→K u w2)
  (hC:Calls Try.prog 23 #[.slice aa an ac,.slice ba bn bc,.slice za zn zc] w (fun e w'=>∃ u,e=.returned (.tuple #[u,.int .i64 (V.imgsErr a b z)])∧K u w'∧Below w.heap.size w w')) :
  Calls Try.prog 25 #[.slice aa an ac,.slice ba bn bc,.slice za zn zc] w (RetM K w a b z):=by
 have hsa:=ha.small
 have hsb:=hb.small
 have hsz:=hz.small
 by_cases he:V.imgsErr a b z=0
 rotate_left
 ·have hbx:(V.imgsErr a b z != 0)=true:=by simp [he]
  have HE:=Lib.hid he;clear he
  go_enter Try.func25,Try.ntmps25
  go_wp2_with fail
  refine hC.mono ?_
  rintro e w1 ⟨u,rfl,hk,hB1⟩
  go_wp2
  go_ret3
  exact ⟨_,_,rfl,hB1,.inl ⟨HE.out,rfl,rfl⟩⟩
 have hbx:(V.imgsErr a b z != 0)=false:=by simp [he]
 obtain ⟨_,_,_,s1,s2⟩:=V.imgs_ok he
 obtain ⟨l1,r1⟩:=V.sizes_inj s1
 obtain ⟨l2,r2⟩:=V.sizes_inj s2
 have la:=ha.len
 have lb:=hb.len
 have lz:=hz.len
 have HE:=Lib.hid he;clear he
 have HS:=Lib.hid s1;clear s1
 have HS2:=Lib.hid s2;clear s2
 have HR1:=Lib.hid r1;clear r1
 have HR2:=Lib.hid r2;clear r2
 have HL1:=Lib.hid l1;clear l1
 have HL2:=Lib.hid l2;clear l2
 have HLA:=Lib.hid la;clear la
 have HLB:=Lib.hid lb;clear lb
 have HLZ:=Lib.hid lz;clear lz
 have han:an=zn:=by rw [← HLA.out,← HLZ.out];exact HL1.out
 have hbn:bn=zn:=by rw [← HLB.out,← HLZ.out];exact HL2.out
 subst han
 subst hbn
 go_enter Try.func25,Try.ntmps25
 go_wp2_with fail
 refine hC.mono ?_
 rintro e w1 ⟨u,rfl,hk,hB1⟩
 go_wp2_with fail
 refine (copyR_any (ha.below hB1) hn hvs).mono ?_
 rintro e w2 ⟨v0,rfl,hown0,hB2⟩
 go_wp2
 go_loopw [12,13] (fun i _ wr=>∃ k:Nat,k≤bn∧i=.int .i64 k∧OwnD ownSecs w1.heap.size wr.heap.size 73 wr v0 (V.imgM a b z k)∧Below w1.heap.size w1 wr) (fun i _ _=>bn - (intOf i).toNat)
 case atStart=>exact ⟨0,Nat.zero_le _,rfl,by rw [V.imgM_zero];exact hown0,hB2⟩
 case round =>
  obtain ⟨k,hk2,rfl,hown,hB⟩:=hrel
  have hBw:Below w.heap.size w wr:=hB1.trans (hB.mono hB1.size)
  by_cases hlt:k<bn
  ·obtain ⟨ab,ao,rfl,_,hab⟩:=ha.addr hlt
   obtain ⟨bb,bo,rfl,_,hbb⟩:=hb.addr hlt
   obtain ⟨zb,zo,rfl,_,hzb⟩:=hz.addr hlt
   obtain ⟨x,hx⟩:=ha.get hlt
   obtain ⟨y,hy⟩:=hb.get hlt
   obtain ⟨q,hq⟩:=hz.get hlt
   obtain ⟨xa,xn,xc,hxw,hxs⟩:=ha.slice hx
   obtain ⟨ya,yn,yc,hyw,hys⟩:=hb.slice hy
   obtain ⟨qa,qn,qc,hqw,hqs⟩:=hz.slice hq
   have hat:∀ {ad:Addr} {u:Value} {W:World},w.cell? ad=some u→Below w.heap.size w W→W.cell? ad=some u:=fun hc hb=>(hb.cell (World.block_lt_of_cell? w _ hc)).trans hc
   have hq0:=hat hqw hBw
   obtain ⟨hkz,eq0⟩:=List.getElem?_eq_some_iff.1 hq
   obtain ⟨hka,ex0⟩:=List.getElem?_eq_some_iff.1 hx
   obtain ⟨hkb,ey0⟩:=List.getElem?_eq_some_iff.1 hy
   have lxq:x.length=q.length:=by rw [← ex0,← eq0];exact HR1.out k hka hkz
   have lyq:y.length=q.length:=by rw [← ey0,← eq0];exact HR2.out k hkb hkz
   have hcx:(V.imgM a b z k)[k]?=some x:=by rw [V.imgM_get HL1.out HL2.out hkz];exact hx
   have hce:(V.imgM a b z k).set k (V.chooseV V.gMerge x y q)=V.imgM a b z (k+1):=by
    have:=V.imgM_set HL1.out HL2.out hkz
    rw [ex0,ey0,eq0] at this
    exact this
   have hxl:=hxs.len
   have hyl:=hys.len
   have hql:=hqs.len
   have hxq:xn=qn:=by omega
   have hyq:yn=qn:=by omega
   subst hxq
   subst hyq
   have HLX:=Lib.hid lxq;clear lxq
   have HLY:=Lib.hid lyq;clear lyq
   have HQL:=Lib.hid hql;clear hql
   have HCX:=Lib.hid hcx;clear hcx
   have HCE:=Lib.hid hce;clear hce
   clear hxl hyl eq0 ex0 ey0
   have HX:=Lib.hid hx;clear hx
   have HY:=Lib.hid hy;clear hy
   have HQ:=Lib.hid hq;clear hq
   have hsx:=hxs.small
   generalize V.imgM a b z k=cur at *
   go_wp2
   go_loopw [13] (fun i wr2=>∃ j:Nat,j≤yn∧i=.int .i64 j∧OwnD ownSecs w1.heap.size wr2.heap.size 73 wr2 v0 (cur.set k (V.rowM x y q j))∧Below w1.heap.size w1 wr2) (fun i _=>yn - (intOf i).toNat)
   case atStart=>exact ⟨0,Nat.zero_le _,rfl,by rw [V.rowM_zero,set_selfM HCX.out];exact hown,hB⟩
   case round =>
    obtain ⟨j,hj,rfl,hown2,hB6⟩:=hrel
    have hB6w:=hB1.trans (hB6.mono hB1.size)
    have hc3:=hat hqw hB6w
    by_cases hlt2:j<yn
    ·have hc1:=hat hxw hB6w
     have hc2:=hat hyw hB6w
     obtain ⟨p0,hp0⟩:=hxs.get hlt2
     obtain ⟨y0,hy0⟩:=hys.get hlt2
     obtain ⟨q0,hq0'⟩:=hqs.get hlt2
     obtain ⟨xb,xo,rfl,_,hxb⟩:=hxs.addr hlt2
     obtain ⟨yb,yo,rfl,_,hyb⟩:=hys.addr hlt2
     obtain ⟨qb,qo,rfl,_,hqb⟩:=hqs.addr hlt2
     have hl1:∀ x:Later wr,x.w.cell? ⟨ab,ao+k,none⟩=some (.slice (some ⟨xb,xo,none⟩) yn xc):=fun x=>(x.below.cell (World.block_lt_of_cell? wr _ hc1)).trans hc1
     have hl2:∀ x:Later wr,x.w.cell? ⟨bb,bo+k,none⟩=some (.slice (some ⟨yb,yo,none⟩) yn yc):=fun x=>(x.below.cell (World.block_lt_of_cell? wr _ hc2)).trans hc2
     have hl3:∀ x:Later wr,x.w.cell? ⟨zb,zo+k,none⟩=some (.slice (some ⟨qb,qo,none⟩) yn qc):=fun x=>(x.below.cell (World.block_lt_of_cell? wr _ hc3)).trans hc3
     have hL1:=Try.secLater (hxs.below hB6w) hp0
     have hL2:=Try.secLater (hqs.below hB6w) hq0'
     have hL3:=Try.secLater (hys.below hB6w) hy0
     have hE1:=Try.eqSec p0 q0
     have hE2:=Try.eqSec y0 q0
     obtain ⟨hjx,px⟩:=List.getElem?_eq_some_iff.1 hp0
     obtain ⟨hjy,py⟩:=List.getElem?_eq_some_iff.1 hy0
     obtain ⟨hjq,pq⟩:=List.getElem?_eq_some_iff.1 hq0'
     have hno:V.gMerge p0 y0 q0=p0→V.rowM x y q (j+1)=V.rowM x y q j:=fun hg=>V.rowM_no HLX.out HLY.out hjq (by rw [px,py,pq];exact hg)
     have hyes:V.gMerge p0 y0 q0=y0→V.rowM x y q (j+1)=(V.rowM x y q j).take j++[y0]++(V.rowM x y q j).drop (j+1):=fun hg=>by
      have:=V.rowM_succ HLX.out HLY.out hjq
      rw [px,py,pq,hg] at this
      exact this
     have hlj:=V.rowM_len HLX.out HLY.out (j:=j) (by omega)
     have HNO:=Lib.hid hno;clear hno
     have HYES:=Lib.hid hyes;clear hyes
     have HLJ:=Lib.hid hlj;clear hlj
     have HY0:=Lib.hid hy0;clear hy0
     clear hp0 hq0' px py pq
     cases e1:p0==q0 with
     |false =>
      rw [e1] at hE1
      have HE1:=Lib.hid e1;clear e1
      go_wp2_with fail
      refine wp_region_acts (fun w'=>∃ x:Later (wr),w'=x.w) [] [0,1,2,3,4,5,6,7,8,9,10,11,12,13,14,15,16,17,18,19,20,21,22,23,24,25,26,27,28,29,30,31] Try.mixed (by kernel_rfl) (LaterS.drew _) ?_
      refine wpActs_last ?_
      simp only [pick,List.filterMap_cons,List.filterMap_nil,List.getElem?_toArray,List.getElem?_cons_succ,List.getElem?_cons_zero]
      change wpQuiet _ _ _ _ (_ :: _ :: _ :: _ :: _ :: _ :: _ :: _ :: _ :: _ :: _ :: _ :: _ :: _ :: _ :: _ :: _ :: _ :: _ :: _ :: _ :: _ :: _ :: _ :: _ :: _ :: _ :: _ :: _ :: _ :: _ :: _ :: []) _
      repeat (first|(go_big_quiet_want;refine quiet_load _ (.tmp 46) rfl _ rfl _ hL1 ?_;go_big_quiet_on;simp only [Act.put,List.setIfInBounds_toArray,List.set_cons_zero,List.set_cons_succ])|(go_big_quiet_want;refine quiet_load _ (.tmp 53) rfl _ rfl _ hL2 ?_;go_big_quiet_on;simp only [Act.put,List.setIfInBounds_toArray,List.set_cons_zero,List.set_cons_succ])|go_big_quiet_step (fail))
      refine wpQuiet_nil ?_
      go_wp2
      go_roundw
      case rel=>exact ⟨j+1,by omega,by go_num,by
       rw [HNO.out (by unfold V.gMerge;rw [if_neg (fun h=>absurd (beq_iff_eq.2 h) (by rw [HE1.out];decide))])]
       exact (hown2.below ((Below.refl _ _).drew)).up (by simp),hB6.drew⟩
      case measure=>simp [intOf];omega
     |true =>
      rw [e1] at hE1
      have HE1:=Lib.hid e1;clear e1
      cases e2:y0==q0 with
      |true =>
       rw [e2] at hE2
       have HE2:=Lib.hid e2;clear e2
       go_wp2_with fail
       refine wp_region_acts (fun w'=>∃ x:Later (wr),w'=x.w) [] [0,1,2,3,4,5,6,7,8,9,10,11,12,13,14,15,16,17,18,19,20,21,22,23,24,25,26,27,28,29,30,31] Try.mixed (by kernel_rfl) (LaterS.drew _) ?_
       refine wpActs_last ?_
       simp only [pick,List.filterMap_cons,List.filterMap_nil,List.getElem?_toArray,List.getElem?_cons_succ,List.getElem?_cons_zero]
       change wpQuiet _ _ _ _ (_ :: _ :: _ :: _ :: _ :: _ :: _ :: _ :: _ :: _ :: _ :: _ :: _ :: _ :: _ :: _ :: _ :: _ :: _ :: _ :: _ :: _ :: _ :: _ :: _ :: _ :: _ :: _ :: _ :: _ :: _ :: _ :: []) _
       repeat (first|(go_big_quiet_want;refine quiet_load _ (.tmp 46) rfl _ rfl _ hL1 ?_;go_big_quiet_on;simp only [Act.put,List.setIfInBounds_toArray,List.set_cons_zero,List.set_cons_succ])|(go_big_quiet_want;refine quiet_load _ (.tmp 53) rfl _ rfl _ hL2 ?_;go_big_quiet_on;simp only [Act.put,List.setIfInBounds_toArray,List.set_cons_zero,List.set_cons_succ])|(go_big_quiet_want;refine quiet_load _ (.tmp 62) rfl _ rfl _ hL3 ?_;go_big_quiet_on;simp only [Act.put,List.setIfInBounds_toArray,List.set_cons_zero,List.set_cons_succ])|(go_big_quiet_want;refine quiet_load _ (.tmp 69) rfl _ rfl _ hL2 ?_;go_big_quiet_on;simp only [Act.put,List.setIfInBounds_toArray,List.set_cons_zero,List.set_cons_succ])|go_big_quiet_step (fail))
       refine wpQuiet_nil ?_
       go_wp2
       go_roundw
       case rel=>exact ⟨j+1,by omega,by go_num,by
        have q1:=eq_of_beq HE1.out
        have q2:=eq_of_beq HE2.out
        rw [HNO.out (by unfold V.gMerge;rw [if_pos q1,q1,q2])]
        exact (hown2.below ((Below.refl _ _).drew)).up (by simp),hB6.drew⟩
       case measure=>simp [intOf];omega
      |false =>
       rw [e2] at hE2
       have HE2:=Lib.hid e2;clear e2
       go_wp2_with fail
       refine wp_region_acts (fun w'=>∃ x:Later (wr),w'=x.w) [] [0,1,2,3,4,5,6,7,8,9,10,11,12,13,14,15,16,17,18,19,20,21,22,23,24,25,26,27,28,29,30,31] Try.mixed (by kernel_rfl) (LaterS.drew _) ?_
       refine wpActs_last ?_
       simp only [pick,List.filterMap_cons,List.filterMap_nil,List.getElem?_toArray,List.getElem?_cons_succ,List.getElem?_cons_zero]
       change wpQuiet _ _ _ _ (_ :: _ :: _ :: _ :: _ :: _ :: _ :: _ :: _ :: _ :: _ :: _ :: _ :: _ :: _ :: _ :: _ :: _ :: _ :: _ :: _ :: _ :: _ :: _ :: _ :: _ :: _ :: _ :: _ :: _ :: _ :: _ :: []) _
       repeat (first|(go_big_quiet_want;refine quiet_load _ (.tmp 46) rfl _ rfl _ hL1 ?_;go_big_quiet_on;simp only [Act.put,List.setIfInBounds_toArray,List.set_cons_zero,List.set_cons_succ])|(go_big_quiet_want;refine quiet_load _ (.tmp 53) rfl _ rfl _ hL2 ?_;go_big_quiet_on;simp only [Act.put,List.setIfInBounds_toArray,List.set_cons_zero,List.set_cons_succ])|(go_big_quiet_want;refine quiet_load _ (.tmp 62) rfl _ rfl _ hL3 ?_;go_big_quiet_on;simp only [Act.put,List.setIfInBounds_toArray,List.set_cons_zero,List.set_cons_succ])|(go_big_quiet_want;refine quiet_load _ (.tmp 69) rfl _ rfl _ hL2 ?_;go_big_quiet_on;simp only [Act.put,List.setIfInBounds_toArray,List.set_cons_zero,List.set_cons_succ])|go_big_quiet_step (fail))
       refine wpQuiet_nil ?_
       have hxj:(cur.set k (V.rowM x y q j))[k]?=some (V.rowM x y q j):=List.getElem?_set_self (List.getElem?_eq_some_iff.1 HCX.out).1
       have hd0:Below wr.heap.size wr wr.drew:=(Below.refl _ _).drew
       obtain ⟨g,cap,cc,okk,hvv,hBg,hg,hcc,⟨u1,rfl,hub,hu,_⟩,hokk,hput⟩:=((hown2.below hd0).below ((Below.refl _ _).drew)).at hxj
       rw [List.length_set] at hvv
       subst hvv
       have hu':=hu
       obtain ⟨xs,hrow,_⟩:=hu
       obtain ⟨gi,capi,rfl⟩:∃ gi capi,u1=.slice (some ⟨gi,0,none⟩) (V.rowM x y q j).length capi:=by
        rcases hrow.2 with ⟨_,h0⟩|⟨gi,capi,cur',hvu,_⟩
        ·rw [HLJ.out] at h0;omega
        ·exact ⟨gi,capi,hvu⟩
       have hgi:=hokk gi (hub gi rfl)
       have hgiw:w.heap.size≤gi:=Nat.le_trans hB1.size hgi.1
       have hne:∀ {ad:Addr} {u:Value},w.cell? ad=some u→ad.block≠gi:=fun hc e=>by have:=World.block_lt_of_cell? w _ hc;omega
       have hB7w:=hB6w.trans (hd0.mono hB6w.size)
       have hc2':=hat hyw hB7w
       have hl4:=cellLaterB (g:=gi) hc2' (hne hyw)
       have hcell:wr.drew.cell? ⟨g,k,none⟩=some (.slice (some ⟨gi,0,none⟩) (V.rowM x y q j).length capi):=by have:=hcc 0 Nat.zero_lt_one;simpa [ownSecs,ownRowR] using this
       have hl5:=cellLaterB (g:=gi) hcell (fun e=>hgi.2.2 e.symm)
       have hL4:=Try.secB (g:=gi) (hys.below hB7w) HY0.out (Nat.lt_of_lt_of_le hyb hB7w.size) (by omega)
       have hklt:k<cur.length:=(List.getElem?_eq_some_iff.1 HCX.out).1
       have hsj:j<(V.rowM x y q j).length:=by rw [HLJ.out];exact hjq
       have HSTEP:Hid ((V.rowM x y q j).take j++[y0]++(V.rowM x y q j).drop (j+1)=V.rowM x y q (j+1)):=(HYES.out (by unfold V.gMerge;rw [if_pos (eq_of_beq HE1.out)])).symm
       have hlj2:(V.rowM x y q (j+1)).length=(V.rowM x y q j).length:=by rw [HLJ.out];exact V.rowM_len HLX.out HLY.out (by omega)
       have HLJ2:=Lib.hid hlj2;clear hlj2
       clear hcc
       go_wp2_with fail
       refine wp_region_acts (fun w'=>∃ x:LaterB (wr.drew) (gi),w'=x.w) [([0,1,2,3,4,5,6,7,8,9,10,11,12],13)] [] Try.mixed (by kernel_rfl) (LaterB.drew _ _) ?_
       refine wpActs_act ?_
       simp only [pick,List.filterMap_cons,List.filterMap_nil,List.getElem?_toArray,List.getElem?_cons_succ,List.getElem?_cons_zero]
       change wpQuiet _ _ _ _ (_ :: _ :: _ :: _ :: _ :: _ :: _ :: _ :: _ :: _ :: _ :: _ :: _ :: []) _
       repeat (first|(go_big_quiet_want;refine quiet_load _ (.tmp 83) rfl _ rfl _ hL4 ?_;go_big_quiet_on;simp only [Act.put,List.setIfInBounds_toArray,List.set_cons_zero,List.set_cons_succ])|go_big_quiet_step (fail))
       refine wpQuiet_nil ?_
       change wpList _ _ _ [_] _ _
       refine wpList_storeOwn rfl _ _ rfl Try.szSec (s:=j) (r:=secR) rfl rfl hu' (y:=y0) rfl hsj ?_
       intro w4 hrow4 hgr4 hsz4
       rw [HSTEP.out] at hrow4
       have hgr:wr.drew.grownBy w4 (some gi):=grown_trans (grown_drew _ _) hgr4
       go_wp2_with fail
       refine ⟨LaterB.of hgr,?_⟩
       refine wpActs_last ?_
       simp only [pick,List.filterMap_cons,List.filterMap_nil,List.getElem?_toArray,List.getElem?_cons_succ,List.getElem?_cons_zero]
       change wpQuiet _ _ _ _ ([]) _
       repeat (go_big_quiet_step (fail))
       refine wpQuiet_nil ?_
       go_wp2
       go_roundw
       case rel =>
        refine ⟨j+1,by omega,by go_num,?_,hB6.drew.grown hgr (by have:=hB6.size;simp;omega) (fun b hb=>by cases hb;omega)⟩
        have:=hput w4 (V.rowM x y q (j+1)) (fun b hb hne=>hgr4.block b hb (fun e=>hne (by rw [Option.some.inj e];exact hub gi rfl))) hgr4.os hgr4.tape hgr4.output hgr4.size ⟨_,rfl,hub,by
         rw [← HLJ2.out] at hrow4 ⊢;exact hrow4,fun e=>by
         have:=HLJ2.out
         rw [e] at this;simp at this;omega⟩
        rw [set_setM] at this
        exact this.up (by have:=hgr.size;simp at this ⊢;omega)
       case measure=>simp [intOf];omega
    ·obtain rfl:j=yn:=by omega
     go_wp2
     go_roundw
     case rel =>
      refine ⟨k+1,by omega,by go_num,?_,hB6⟩
      have e:V.rowM x y q q.length=V.chooseV V.gMerge x y q:=V.rowM_all HLX.out HLY.out
      rw [HQL.out] at e
      rw [e,HCE.out] at hown2
      exact hown2
     case measure=>simp [intOf];omega
  ·obtain rfl:k=bn:=by omega
   obtain ⟨a2,n2,c2,rfl,himg⟩:=hown.img
   go_wp2
   go_ret3
   refine ⟨.slice a2 n2 c2,u,by rw [HE.out];rfl,hBw,.inr ⟨HE.out,hK _ _ _ hk hB,_,_,_,rfl,?_⟩⟩
   have e:V.imgM a b z z.length=V.chooseX V.gMerge a b z:=V.imgM_all HL1.out HL2.out
   rw [HLZ.out] at e
   rw [← e]
   exact himg.mono fun q hq=>Nat.le_trans hB1.size hq
end Go.Proofs.Ytpdfhckdmblicaa

namespace Go.Proofs.Ytpdfhckdmblicaa
open Go.RowKit V
def oneEnv (f:Nat) (fn:VFn):Env:=fun k=>if k=f then some (.code fn) else none
theorem oneEnv_ok {P:Program} {f:Nat} {fn:VFn} (h:fnOk P f fn=true):EnvOk P (oneEnv f fn):=fun k d hk=>by
 unfold oneEnv at hk
 split at hk
 ·rename_i e;subst e;cases hk;exact h
 ·cases hk
def emR (n:Nat):Rep Unit where
 sz:=n
 rd _ _ cs _:=cs.length=n∧∀ u∈cs,u.oneCell'=true
 len h:=h.1
 mono _ h:=h
 live h:=h
 frame _ h:=h
 one h:=h.2
theorem Flat.em (n:Nat):Flat (emR n):=fun h=>h
theorem sl_nil {ok:Nat→Prop} {w:World} {sz:Nat} {v:Value} (h:PRep ok w (.list sz []) v):∃ a c,v=.slice a 0 c∧Sl (emR sz) (fun _=>True) w a 0 c []:=by
 obtain ⟨l,hl⟩:∃ l:List PV,l=[]:=⟨_,rfl⟩
 rw [← hl] at h
 cases h with
 |nil _ a=>exact ⟨a,0,rfl,⟨rfl,Nat.le_refl _,Nat.zero_le _,fun _=>rfl,.inl rfl⟩⟩
 |list _ _ b off c cv h1 h2 h3 h4 h6 h7 h8=>subst hl;exact ⟨_,c,rfl,⟨rfl,Nat.zero_le _,h4,(fun e=>by cases e),.inl rfl⟩⟩
--+
theorem slt53:SliceT Try.prog 22 86 3 24 (.agg #[.int .i64 0,.int .i64 0,.int .i64 0]):=⟨Try.underlying22,by kernel_rfl,rfl,by decide⟩
set_option maxHeartbeats 1000000 in
theorem cempty53 {a:Option Addr} {n c:Nat} {l:List Unit} {ok:Nat→Prop} {w:World} (h:Sl (emR 3) ok w a n c l) (hn:n≤1000000) :
  Calls Try.prog 53 #[.slice a n c] w fun e w'=>∃ a' n' c',e=.returned (.slice a' n' c')∧(ownRowR (emR 3) 86).rd (w.heap.size≤·) w' [.slice a' n' c'] l∧Below w.heap.size w w':=by
 have heq:=fun (a:Option Addr) (n c:Nat) (w:World)=>Lib.run_eql_slice_nil (P:=Try.prog) w 22 86 a n c 0 0 Try.underlying22
 cases a with
 |none =>
  have h0:l=[]:=List.eq_nil_of_length_eq_zero (by rw [h.len];have:=h.nil rfl;have:=h.cap;omega)
  have H0:=Lib.hid h0;clear h0
  go_enter Try.func53,Try.ntmps53
  go_wp2
  go_ret
  refine ⟨_,_,_,rfl,?_,Below.refl _ _⟩
  rw [H0.out]
  exact ownRowR.mk (Own.nil _ _ _ _ _) (fun _=>.inl rfl)
 |some ad =>
  have hs:n≤9223372036854775807:=by have:=Nat.le_trans h.cap h.bnd;unfold maxLen at this;omega
  go_enter Try.func53,Try.ntmps53
  go_wp2_with (at_builtin;refine wpList_app slt53 rfl _ _ rfl rfl (Own.lit0 (emR 3) (ok:=fun _=>False) (Nat.le_refl _)) rfl ((Src.of_sl (h.below ((Below.refl _ _).alloc (Nat.le_refl _) _))).flat (Flat.em 3)) ?c1 ?c2 ?c3 ?_)
  case c1=>simp;unfold maxLen;omega
  case c2=>simp;omega
  case c3=>simp
  intro v' w1 hown hgrow hat
  obtain ⟨a',n',c',rfl,_⟩:=hown.sl
  go_wp2
  go_ret
  refine ⟨_,_,_,rfl,ownRowR.mk (by simpa using hown) (fun e=>?_),((Below.refl _ _).alloc (Nat.le_refl _) _).grown hgrow (by simp) (fun k hk=>by cases hk;exact Nat.le_refl _)⟩
  subst e
  obtain ⟨xs,h1,_⟩:=hown
  rcases h1.2 with ⟨hv,_⟩|⟨g,cap,cur,hv,_⟩
  ·exact .inl hv
  ·exact .inr ⟨g,cap,by simpa using hv⟩
theorem clone53_fn:fnOk Try.prog 53 fn53=true:=by kernel_rfl
theorem clone53_some {en:Env} (hen:en 53=some (.code fn53)) {e:PV} {es:List PV} (hl:(e :: es).length≤lim):cal en 53 [.list 3 (e :: es)]=some [(.list 3 (e :: es),true)]:=by
 have F1:(es.length+1≤lim)=True:=eq_true (by simpa using hl)
 rw [cal_code hen rfl]
 simp only [fn53]
 simp only [start,z_map_cons,z_map_nil,z_len_cons,z_len_nil,z_repl_zero,z_repl_succ,z_cons_app,z_nil_app,Nat.reduceAdd,Nat.reduceSub]
 simp only [F1,z_nil_app,memAll,vAll,reduceCtorEq,Nat.reduceEqDiff,Nat.reduceAdd,Nat.reduceLT,Nat.reduceLeDiff,Nat.beq]
theorem clone53_ok:∀ args rs,cloneX 3 args=some rs→callable Try.prog 53=true∧CallOk Try.prog 53 args rs:=fun args rs h=>by
 unfold cloneX at h
 split at h
 case h_2=>cases h
 rename_i sz es
 split at h
 case isFalse=>cases h
 rename_i hc
 obtain ⟨rfl,hl⟩:=hc
 cases h
 cases es with
 |cons e es =>
  obtain ⟨n,hn⟩:=vmCall_of_cal (clone53_some (en:=oneEnv 53 fn53) (if_pos rfl) hl)
  exact vmCall_ok (oneEnv_ok clone53_fn) hn
 |nil =>
  refine ⟨by kernel_rfl,fun T0 w vs h1 h2 h3 h4 _=>?_⟩
  match vs,h3 with
  |[v],_ =>
   have hv:=h4 0 _ v rfl rfl
   obtain ⟨a,c,rfl,hsl⟩:=sl_nil hv
   refine (cempty53 (ok:=fun _=>True) hsl (by omega)).mono ?_
   rintro e w' ⟨a',n',c',rfl,hrd,hB⟩
   obtain ⟨v,hv,hb,⟨xs,hown,_⟩,hnil⟩:=hrd
   obtain rfl:Value.slice a' n' c'=v:=by simpa using hv
   rcases hown.2 with ⟨e1,_⟩|⟨g,cap,cur,e1,_,hg,_,hm,hs,_⟩
   ·refine ⟨_,T0,rfl,hB,fun _ _=>rfl,fun b hb=>h2 b (by have:=hB.size;omega),#[_],rfl,rfl,fun i r u hr hu=>?_⟩
    cases i with
    |zero=>cases hr;cases hu;exact .inl ⟨rfl,none,e1⟩
    |succ i=>simp at hr
   ·have hg0:w.heap.size≤g:=hb g (by rw [e1];rfl)
    have hgl:g<w'.heap.size:=(Array.getElem?_eq_some_iff.1 hg).1
    refine ⟨_,fun b=>if b=g then .row (.part 0 0) else T0 b,rfl,hB,fun b hb=>if_neg (by omega),fun b hb=>?_,#[_],rfl,rfl,fun i r u hr hu=>?_⟩
    ·show (if b=g then _ else T0 b)=_
     rw [if_neg (by omega)];exact h2 b (by have:=hB.size;omega)
    ·cases i with
     |zero =>
      cases hr;cases hu
      exact .inr ⟨g,cap,cur,_,e1,if_pos rfl,hg,hs,Nat.zero_le _,hm,(fun e he=>by cases he),fun i e j x hi=>by simp at hi⟩
     |succ i=>simp at hr
end Go.Proofs.Ytpdfhckdmblicaa

namespace Go.Proofs.Ytpdfhckdmblicaa
open Go.RowKit V
theorem set1_heap {w:World} {g:Nat} {T:TypeId} {u v:Value} (hg:w.heap[g]?=some (.cells #[u] T (0,0))):(w.setCell ⟨g,0,none⟩ v).heap[g]?=some (.cells #[v] T (0,0)):=by
 simp [World.setCell,Array.getElem?_modify,hg]
theorem set1_grown (w:World) (g:Nat) (v:Value):w.grownBy (w.setCell ⟨g,0,none⟩ v) (some g) :=
 ⟨rfl,rfl,rfl,by simp [World.setCell],fun k _ hne=>Below.heap_setCell w _ v k fun e=>hne (by rw [e])⟩
theorem frozen1 {w:World} {g:Nat} {T:TypeId} {u:Value} (hg:w.heap[g]?=some (.cells #[u] T (0,0))):w.frozen? ⟨g,0,none⟩=false:=by
 simp [World.frozen?,hg]
set_option maxHeartbeats 1000000 in
theorem of_any {a:Option Addr} {n c:Nat} {l:List UInt8} {ok:Nat→Prop} {w:World} (h:Sl u8R ok w a n c l) (hn:n≤1000000) :
  Calls Try.prog 40 #[.slice a n c] w fun e w'=>∃ g hdr,e=.returned (.slice (some ⟨g,0,none⟩) 1 1)∧w.heap.size≤g∧w'.heap[g]?=some (.cells #[hdr] 73 (0,0))∧some g≠hdr.ownBlock∧Own secR w.heap.size 79 (fun _=>False) w' hdr (l.map secOf)∧Below w.heap.size w w':=by
 have hs:=h.small
 go_enter Try.func40,Try.ntmps40
 go_wp2
 go_loopw [9] (fun i wr=>∃ (k:Nat) (hdr:Value),k≤n∧i=.int .i64 k∧wr.heap[w.heap.size]?=some (.cells #[hdr] 73 (0,0))∧some w.heap.size≠hdr.ownBlock∧Own secR w.heap.size 79 (fun _=>False) wr hdr ((l.take k).map secOf)∧Below w.heap.size w wr) (fun i _=>n - (intOf i).toNat)
 case atStart =>
  exact ⟨0,.slice none 0 0,Nat.zero_le _,rfl,heap_alloc_new w _,by simp [Value.ownBlock],by rw [List.take_zero];exact (Own.nil secR w.heap.size _ (fun _=>False) w).below ((Below.refl _ _).alloc (Nat.le_refl _) _),(Below.refl _ _).alloc (Nat.le_refl _) _⟩
 case round =>
  obtain ⟨k,hdr,hk,rfl,hg,hne,hown,hB⟩:=hrel
  have hgl:w.heap.size<wr.heap.size:=(Array.getElem?_eq_some_iff.1 hg).1
  by_cases hlt:k<n
  ·obtain ⟨b,off,rfl,_,hbl⟩:=h.addr hlt
   obtain ⟨x,hx⟩:=h.get hlt
   have hc0:wr.cell? ⟨b,off+k,none⟩=some (.int .u8 (x.toNat:Int)):=by
    obtain ⟨cs,e1,rfl⟩:=h.at hx
    have e2:=e1 0 Nat.zero_lt_one
    have e2:w.cell? ⟨b,off+k,none⟩=some (.int .u8 (x.toNat:Int)):=by simpa [u8R] using e2
    exact (hB.cell (World.block_lt_of_cell? w _ e2)).trans e2
   have hc1:wr.cell? ⟨w.heap.size,0,none⟩=some hdr:=by rw [cell_of_row wr _ _ _ _ (0,0) hg];rfl
   obtain ⟨ha,hn',hc',rfl,hsl⟩:=hown.sl
   have hlen:(l.take k).length=k:=by rw [List.length_take,h.len];omega
   go_wp2_with (at_builtin;refine wpList_app Try.slSec rfl _ _ rfl rfl (hown.below ((Below.refl _ _).alloc (Nat.le_refl _) _)) rfl ((Src.flat Flat.sec (ok:=fun _=>True) (Src.new1 (r:=secR) (x:=secOf x) rfl))) ?c1 ?c2 ?c3 ?_)
   case c1=>simp [hlen];unfold maxLen;omega
   case c2=>simp [hlen];omega
   case c3=>simp;omega
   intro v' w1 hown1 hgrow hat
   have hgn:w.heap.size≠wr.heap.size+1:=by omega
   have hb1:w1.heap[w.heap.size]?=some (.cells #[Value.slice ha hn' hc'] 73 (0,0)):=by
    rw [hgrow.block w.heap.size (by simp;omega) hne,Below.heap_alloc _ _ _ hgl];exact hg
   have hc2:w1.cell? ⟨w.heap.size,0,none⟩=some (Value.slice ha hn' hc'):=by rw [cell_of_row w1 _ _ _ _ (0,0) hb1];rfl
   have hne':some w.heap.size≠v'.ownBlock:=by
    rcases hat with e|e
    ·rw [e];exact hne
    ·rw [e];intro e2;exact hgn (Option.some.inj e2)
   obtain ⟨ga,gn,gc,rfl,_⟩:=hown1.sl
   have hfz:=frozen1 hb1
   have hb2:=set1_heap (v:=.slice ga gn gc) hb1
   have hgr2:=set1_grown w1 w.heap.size (.slice ga gn gc)
   have hown2:=hown1.kept hgr2 (.inr fun e=>hne' e.symm) (fun _ _ h=>h)
   go_wp2
   go_roundw
   case rel =>
    refine ⟨k+1,.slice ga gn gc,by omega,by go_num,hb2,hne',?_,?_⟩
    ·rw [take_succ_get hx,List.map_append];simpa using hown2
    ·have hBa:=(hB.alloc (Nat.le_of_lt hgl) _).grown hgrow (by simp;omega) (fun b hb=>(hown.lt b hb).1)
     exact hBa.grown hgr2 hBa.size (fun b hb=>by cases hb;exact Nat.le_refl _)
   case measure=>simp [intOf];omega
  ·obtain rfl:k=n:=by omega
   go_wp2
   go_ret
   have e:l.take k=l:=List.take_of_length_le (by rw [h.len];exact Nat.le_refl _)
   rw [e] at hown
   exact ⟨_,hdr,rfl,Nat.le_refl _,hg,hne,hown,hB⟩
theorem u8s_in {ok:Nat→Prop} {w:World} {l:List UInt8} {v:Value} (h:PRep ok w (.list 1 (l.map fun x=>.int .u8 (x.toNat:Int))) v):∃ a n c,v=.slice a n c∧Sl u8R ok w a n c l:=by
 refine sl_of_prep (r:=u8R) (enc:=fun x=>.int .u8 (x.toNat:Int)) rfl (fun x=>rfl) (fun x _ cs hl hcs=>?_) h
 match cs,hl with
 |[u],_ =>
  have:=(hcs 0 _ u rfl rfl).int_inv
  show [u]=_
  rw [this]
theorem of_ok:∀ args rs,ofX args=some rs→callable Try.prog 40=true∧CallOk Try.prog 40 args rs:=fun args rs h=>by
 obtain ⟨l,rfl,hne,hlen,rfl⟩:=ofX_eq h
 refine ⟨by kernel_rfl,fun T0 w vs h1 h2 h3 h4 _=>?_⟩
 match vs,h3 with
 |[v],_ =>
  obtain ⟨a,n,c,rfl,hs⟩:=u8s_in (h4 0 _ v rfl rfl)
  refine (of_any hs (by rw [← hs.len];exact hlen)).mono ?_
  rintro e w' ⟨g,hdr,rfl,hg,hc,hne2,hown,hB⟩
  obtain ⟨ha,hn,hc',rfl,hsl⟩:=hown.sl
  refine ⟨_,fun b=>if w.heap.size≤b∧b<w'.heap.size then .ro else T0 b,rfl,hB,fun b hb=>if_neg (by omega),fun b hb=>?_,#[_],rfl,rfl,fun i r u hr' hu=>?_⟩
  ·show (if _ then _ else T0 b)=_
   rw [if_neg (by omega)];exact h2 b (by have:=hB.size;omega)
  ·match i with
   |0 =>
    cases hr';cases hu
    refine img_out (l:=[l.map secOf]) (ok:=(w.heap.size≤·)) (fun b hb hlt=>if_pos ⟨hb,hlt⟩) (fun e=>by cases e) (fun x hx=>?_) ⟨rfl,Nat.le_refl _,by decide,(fun e=>by cases e),.inr ⟨g,0,rfl,hg,(Array.getElem?_eq_some_iff.1 hc).1,fun i x hi=>?_⟩⟩
    ·rw [List.mem_singleton.1 hx];simpa using hne
    ·match i,hi with
     |0,hi =>
      cases hi
      refine ⟨[.slice ha hn hc'],fun j hj=>?_,⟨ha,hn,hc',rfl,hsl.mono fun b hb=>by rcases hb with hb|hb;exact hb.elim;exact hb⟩⟩
      obtain rfl:j=0:=by have:j<1:=hj;omega
      rw [cell_of_row w' _ _ _ _ (0,0) hc];rfl
   |i+1=>simp at hr'
end Go.Proofs.Ytpdfhckdmblicaa
