/-
  Part 5 of the texts that the statement stands on.
-/
import Derived.Test.YtaaokejjmdbfaaaDoorZ4
import Derived.IntWalk
import Derived.Shelf.Lays7
import Derived.Ground.Names7Prog
import Derived.Test.YtaaokejjmdbfaaaDoorProg
import Derived.Shelf.Spec.TrailingZeros
import Derived.Sort.Defs
import Derived.Lib.BitFns
import Derived.Lib.TrailingZeros
set_option linter.all false
namespace Go.Proofs.YtaaokejjmdbfaaaDoor
open Go.RowKit V
def dR:Rep Run:=VE pR 78
theorem lC {P:Program} {ops:Array Oper} {rest:List Oper} {o:Oper} {a:Act} {w:World} {Q:Exit→Act→World→Prop} {ty:TypeId} {x:Operand} {ad:Addr} {v:Value} (hgd:o.guard=none) (ho:o.op=.load ty x) (hx:a.eval x=.pointer (some ad))
  (hl:(loadVar ty ad).run P w=.ok v w) (h:wpList P ops Q rest (a.put o.dst v) w):wpList P ops Q (o :: rest) a w :=
 wpList_plain hgd fun _ hK=>by
  unfold Oper.wp execOp
  simp only [ho,hx,Instr.loadAt,Instr.sureAddr,Sem.run_bind,Sem.run_pure,Result.andThen_ok,hl]
  exact hK _ _ h
theorem WU {w:World} {b j:Nat} {arr:Array Value} {E:TypeId} {v:Value} (h:w.heap[b]?=some (.cells arr E (0,0))) (hj:arr[j]?=some v):w.cell? ⟨b,j,none⟩=some v:=by rw [cell_of_row _ _ _ _ _ (0,0) h];exact hj
theorem wI (x:fV):List.foldl (fun cs (p:Value × Nat)=>cs.setIfInBounds p.2 p.1) #[Value.int .u8 0,.int .u8 0,.int .u8 0,.int .u8 0,.int .u8 0,.int .u8 0,.int .u8 0,.int .u8 0] (aV x).zipIdx=(aV x).toArray:=by
 have h:=dY x
 generalize aV x=l at *
 match l,h with
 |[a,b,c,d,e,f,g,h],_=>simp only [List.zipIdx_cons,List.zipIdx_nil,List.foldl_cons,List.foldl_nil,List.setIfInBounds_toArray,List.set_cons_zero,List.set_cons_succ,Nat.zero_add,Nat.reduceAdd]
theorem adK (w:World) (B:Nat) (hB:B≤w.heap.size) (x:fV):Own pR B 78 (fun _=>False) (w.alloc (.cells (aV x).toArray 78)) (.slice (some ⟨w.heap.size,0,none⟩) 1 1) [x] :=
 ⟨aV x,World.ownsRow_lit w (aV x).toArray 1 hB (by decide) (by rw [List.size_toArray,dY];rfl),aV x,[],by simp,rfl,rfl⟩
theorem WV (w:World) (x:fV) {ok:Nat→Prop}:Src pR ok (w.alloc (.cells (aV x).toArray 78)) (some ⟨w.heap.size,0,none⟩) 1 1 [x] :=
 ⟨rfl,fun e=>(by cases e),aV x,fun ad e j u h=>(by cases e;exact AX w 78 (aV x).toArray j u h),aV x,[],(by simp),rfl,rfl⟩
theorem Own.acQ {B:Nat} {E:TypeId} {w w':World} {v:Value} {l:List fV} {g:Nat} (h:Own pR B E (fun _=>False) w v l) (hg:w.grownBy w' (some g)) (hne:v.ownBlock≠some g):Own pR B E (fun _=>False) w' v l:=by
 obtain ⟨xs,h1,h2⟩:=h
 exact ⟨xs,h1.kept hg (by cases hv:v.ownBlock<;>simp_all),(Chunks.flat Flat.sec h2)⟩
theorem acR (w:World) {b j:Nat} {v:Value} {arr:Array Value} {E:TypeId} (h:w.heap[b]?=some (.cells arr E)):(w.setCell ⟨b,j,none⟩ v).heap[b]?=some (.cells (arr.setIfInBounds j v) E):=by
 simp only [World.setCell,Array.getElem?_modify,if_true,h,Option.map_some];rfl
theorem WW (w:World) (a:Addr) (v:Value):(w.setCell a v).heap.size=w.heap.size:=by simp only [World.setCell,Array.size_modify]
theorem agh (w:World) (g j:Nat) (v:Value):w.grownBy (w.setCell ⟨g,j,none⟩ v) (some g) :=
 ⟨rfl,rfl,rfl,by rw [WW];exact Nat.le_refl _,fun k _ hne=>Below.heap_setCell w _ v k fun e=>hne (by rw [e])⟩
theorem Tryd.acS {ok:Nat→Prop} {w:World} {b off n c k g:Nat} {l:List fV} {x:fV} (h:Sl pR ok w (some ⟨b,off,none⟩) n c l) (hx:l[k]?=some x) (hb:b<w.heap.size) (hne:b≠g) :
  ∀ w',(∃ y:jU w g,w'=y.w)→(loadVar 78 ⟨b,off+k * 8,none⟩).run Tryd.prog w'=.ok (.agg (aV x).toArray) w':=by
 rintro _ ⟨y,rfl⟩
 refine Tryd.Qw fun j hj=>?_
 rw [ou (g:=g) (w:=w) (a:=⟨b,off+k * 8+j,none⟩) (v:=(aV x)[j]'(by rw [dY];exact hj)) ?_ hne y,List.getElem?_eq_getElem]
 rw [h.sec hx j hj,List.getElem?_eq_getElem]
theorem BX {w:World} (B:Nat) (hB:B≤w.heap.size) (v i:Int) (x:fV):dR.rd (B≤·) (w.alloc (.cells (aV x).toArray 78)) [.int .i64 v,.int .i64 i,.slice (some ⟨w.heap.size,0,none⟩) 1 1] ((v,i),[x]) :=
 ⟨_,rfl,jk.mk (adK w B hB x) (fun e=>by cases e)⟩
set_option maxRecDepth 100000 in
set_option maxHeartbeats 4000000 in
theorem aaJ {a1 a2:Option Addr} {n1 c1 n2 c2:Nat} {A B:List fV} {ok1 ok2:Nat→Prop} {w:World} (h1:Sl pR ok1 w a1 n1 c1 A) (h2:Sl pR ok2 w a2 n2 c2 B) {v:Int} {s m:Nat} (hv:rY v) (hA:s+m≤A.length) (hB:s+m≤B.length) (hA6:A.length≤1000000) :
  Calls Tryd.prog 64 #[.int .i64 v,.slice a1 n1 c1,.slice a2 n2 c2,.agg #[.int .i64 s,.int .i64 m]] w (fun e w'=>∃ u,e=.returned u∧jP dR (w.heap.size+1) w'.heap.size 87 w' u (wP v A B s m)∧(wP v A B s m=[]→u=.slice none 0 0)∧Below w.heap.size w w'):=by
 obtain ⟨W,hW⟩:∃ W,w.alloc (.cells #[.int .i64 s,.int .i64 m] 83)=W:=⟨_,rfl⟩
 have hB0:Below w.heap.size w W:=by rw [← hW];exact (Below.refl _ _).alloc (Nat.le_refl _) _
 have hsz:W.heap.size=w.heap.size+1:=by rw [← hW];simp
 have hbox:∀ j,W.cell? ⟨w.heap.size,j,none⟩=#[Value.int .i64 s,.int .i64 m][j]?:=fun j=>by
  rw [← hW,World.cell?_alloc_mark w _ _ (0,0) j]
 have hsm:s+m≤1000000:=by omega
 have hl1:=h1.len
 have hl2:=h2.len
 have HL1:=Lib.hid hl1;clear hl1
 have HL2:=Lib.hid hl2;clear hl2
 go_enter Tryd.func64,Tryd.ntmps64
 go_wp2_with fail
 try rw [hW]
 go_loopw [9,10] (fun u i wr=>∃ k:Nat,k≤m∧i=.int .i64 ((s+k:Nat):Int)∧jP dR W.heap.size wr.heap.size 87 wr u (wP v A B s k)∧(wP v A B s k=[]→u=.slice none 0 0)∧Below W.heap.size W wr) (fun _ i _=>(s+m) - (intOf i).toNat)
 case atStart=>exact ⟨0,Nat.zero_le _,rfl,jP.nil _ _ _ _ _,fun _=>rfl,Below.refl _ _⟩
 case round =>
  obtain ⟨k,hk,rfl,hown,hnil,hBw⟩:=hrel
  have hc0:=(hBw.cell (p:=⟨w.heap.size,0,none⟩) (by show w.heap.size<_;omega)).trans (hbox 0)
  have hc1:=(hBw.cell (p:=⟨w.heap.size,1,none⟩) (by show w.heap.size<_;omega)).trans (hbox 1)
  by_cases hlt:k<m
  ·have hkA:s+k<A.length:=by omega
   have hkB:s+k<B.length:=by omega
   obtain ⟨b1,o1,rfl,hb1,hr1⟩:=h1.addr (by have:=HL1.out;omega:s+k<n1)
   obtain ⟨b2,o2,rfl,hb2,hr2⟩:=h2.addr (by have:=HL2.out;omega:s+k<n2)
   obtain ⟨x,hx⟩:∃ x,A[s+k]?=some x:=⟨_,List.getElem?_eq_getElem hkA⟩
   obtain ⟨y,hy⟩:∃ y,B[s+k]?=some y:=⟨_,List.getElem?_eq_getElem hkB⟩
   have hBw2:=hB0.trans (hBw.mono hB0.size)
   have hL1:=Tryd.sJ (h1.below hBw2) hx
   have hL2:=Tryd.sJ (h2.below hBw2) hy
   have hE:=Tryd.acG x y
   have akW:s+k<n1:=by have:=HL1.out;omega
   have hkn2:s+k<n2:=by have:=HL2.out;omega
   have HX:=Lib.hid hx
   have HY:=Lib.hid hy
   clear hx hy
   have hok:=yA v A B s k
   have hnext:wP v A B s (k+1)=Vz v A B (wP v A B s k) (s+k):=rfl
   have HN:=Lib.hid hnext;clear hnext
   cases hxy:x==y with
   |true =>
    rw [hxy] at hE
    have HE:=Lib.hid hxy
    clear hxy
    go_wp2_with fail
    refine cu (fun w'=>∃ x:Later (wr),w'=x.w) [] [0,1,2,3,4,5,6,7,8] Tryd.mixed (by kernel_rfl) (dL.drew _) ?_
    refine dU ?_
    simp only [pick,List.filterMap_cons,List.filterMap_nil,List.getElem?_toArray,List.getElem?_cons_succ,List.getElem?_cons_zero]
    change wpQuiet _ _ _ _ (_ :: _ :: _ :: _ :: _ :: _ :: _ :: _ :: _ :: []) _
    repeat (first|(go_big_quiet_want;refine bW _ (.tmp 25) rfl _ rfl _ hL1 ?_;go_big_quiet_on;simp only [Act.put,List.setIfInBounds_toArray,List.set_cons_zero,List.set_cons_succ])|(go_big_quiet_want;refine bW _ (.tmp 29) rfl _ rfl _ hL2 ?_;go_big_quiet_on;simp only [Act.put,List.setIfInBounds_toArray,List.set_cons_zero,List.set_cons_succ])|go_big_quiet_step (fail))
    refine wpQuiet_nil ?_
    go_wp2
    go_roundw
    case rel=>exact ⟨k+1,by omega,by go_num,by
     rw [HN.out,Vz,if_pos (by rw [HX.out,HY.out,eq_of_beq HE.out])]
     exact hown.below ((Below.refl _ _).drew),fun e=>hnil (by rw [HN.out,Vz,if_pos (by rw [HX.out,HY.out,eq_of_beq HE.out])] at e;exact e),hBw.drew⟩
    case measure=>simp [intOf];omega
   |false =>
    rw [hxy] at hE
    have HE:=Lib.hid hxy
    clear hxy
    have hst:Vz v A B (wP v A B s k) (s+k)=oq v (s+k) x (wP v A B s k):=by
     rw [Vz,if_neg (by rw [HX.out,HY.out];intro e;rw [Option.some.inj e,beq_self_eq_true] at HE;exact absurd HE.out (by decide)),List.getD_eq_getElem?_getD,HX.out];rfl
    have HS:=Lib.hid hst;clear hst
    have hL9:=hL1 wr.drew.drew (dL.of ((Below.refl _ _).drew.drew))
    generalize hO:wP v A B s k=out at hown hok
    have HO:=Lib.hid hO;clear hO
    have h8:=dY x
    have hnews:∀ (j:Nat) (u:Value),[Value.int .i64 v,.int .i64 ((s:Int)+k),.slice (some ⟨wr.drew.drew.heap.size,0,none⟩) 1 1][j]?=some u→((wr.drew.drew.alloc (.cells (aV x).toArray 78)).alloc (.cells #[.int .i64 v,.int .i64 ((s:Int)+k),.slice (some ⟨wr.drew.drew.heap.size,0,none⟩) 1 1] 87)).cell? ((⟨wr.heap.size+1,0,none⟩:Addr).add j)=some u:=by
     have h:=AX (wr.drew.drew.alloc (.cells (aV x).toArray 78)) 87 #[.int .i64 v,.int .i64 ((s:Int)+k),.slice (some ⟨wr.drew.drew.heap.size,0,none⟩) 1 1]
     rw [World.size_alloc] at h
     exact h
    have tY:=hown.lt
    have hz:=hBw.size
    have hBa:Below wr.heap.size wr ((wr.drew.drew.alloc (.cells (aV x).toArray 78)).alloc (.cells #[.int .i64 v,.int .i64 ((s:Int)+k),.slice (some ⟨wr.drew.drew.heap.size,0,none⟩) 1 1] 87)):=((Below.refl _ _).drew.drew.alloc (Nat.le_refl _) _).alloc (by rw [World.size_alloc];exact Nat.le_succ _) _
    cases hn:out.length with
    |zero =>
     have he:out=[]:=List.eq_nil_of_length_eq_zero hn
     subst he
     obtain ⟨a9,n9,c9,rfl,hs9⟩:=hown.sl
     obtain rfl:n9=0:=hs9.len.symm
     go_wp2_with fail
     refine cu (fun w'=>∃ x:Later (wr),w'=x.w) [] [0,1,2,3,4,5,6,7,8] Tryd.mixed (by kernel_rfl) (dL.drew _) ?_
     refine dU ?_
     simp only [pick,List.filterMap_cons,List.filterMap_nil,List.getElem?_toArray,List.getElem?_cons_succ,List.getElem?_cons_zero]
     change wpQuiet _ _ _ _ (_ :: _ :: _ :: _ :: _ :: _ :: _ :: _ :: _ :: []) _
     repeat (first|(go_big_quiet_want;refine bW _ (.tmp 25) rfl _ rfl _ hL1 ?_;go_big_quiet_on;simp only [Act.put,List.setIfInBounds_toArray,List.set_cons_zero,List.set_cons_succ])|(go_big_quiet_want;refine bW _ (.tmp 29) rfl _ rfl _ hL2 ?_;go_big_quiet_on;simp only [Act.put,List.setIfInBounds_toArray,List.set_cons_zero,List.set_cons_succ])|go_big_quiet_step (fail))
     refine wpQuiet_nil ?_
     go_wp2_with fail
     refine cu (fun w'=>∃ x:Later (wr.drew),w'=x.w) [] [0,1,2,3,4,5,6,7,8,9,10,11,12,13,14,15,16,17,18,19] Tryd.mixed (by kernel_rfl) (dL.drew _) ?_
     refine dU ?_
     simp only [pick,List.filterMap_cons,List.filterMap_nil,List.getElem?_toArray,List.getElem?_cons_succ,List.getElem?_cons_zero]
     change wpQuiet _ _ _ _ (_ :: _ :: _ :: _ :: _ :: _ :: _ :: _ :: _ :: _ :: _ :: _ :: _ :: _ :: _ :: _ :: _ :: _ :: _ :: _ :: []) _
     repeat (go_big_quiet_step (fail))
     refine wpQuiet_nil ?_
     go_wp2_with (first|refine lC rfl rfl rfl hL9 ?_|(at_builtin;refine Hid.out ?_))
     refine Lib.hid ?_
     simp only [wI x]
     refine mQ (r:=dR) (w:=(wr.drew.drew.alloc (.cells (aV x).toArray 78)).alloc (.cells #[.int .i64 v,.int .i64 ((s:Int)+k),.slice (some ⟨wr.drew.drew.heap.size,0,none⟩) 1 1] 87)) Tryd.VF rfl _ _ rfl rfl (hown.below hBa) rfl hnews (sG (BX (w:=wr.drew.drew) wr.heap.size (Nat.le_refl _) v ((s:Int)+k) x)) ?c5 ?c1 ?c2 ?c3 ?c4 ?_
     case c5=>exact fun k hk=>(tY k hk).2
     case c1=>unfold maxLen;omega
     case c2=>omega
     case c3=>omega
     case c4=>simp;omega
     intro v' w2 hown1 hgrow _
     go_wp2
     go_roundw
     case rel=>exact ⟨k+1,by omega,by go_num,by
      rw [HN.out,HS.out,HO.out,oq,if_neg (fun h=>absurd h.1 (Nat.lt_irrefl _))]
      rw [Int.natCast_add]
      exact hown1,fun e=>absurd e (by rw [HN.out,HS.out];exact qK),hBw.trans ((hBa.mono hBw.size).trans (grown_below hgrow (Nat.le_trans hBw.size hBa.size) (fun k hk=>(tY k hk).1)))⟩
     case measure=>simp [intOf];omega
    |succ n =>
     have hx9:out[n]?=some (oh out):=by
      unfold oh
      rw [hn,Nat.add_sub_cancel,List.getD_eq_getElem?_getD,List.getElem?_eq_getElem (by omega)];rfl
     obtain ⟨g,cap,cur,cc,NR,rfl,hBg,hg,hgc,hcs,hcc,hrd,adL,hput⟩:=hown.put hx9
     obtain ⟨hv0,hv1,hv2,hv3⟩:=hok.1 _ (yx (by omega))
     have hown0:=hown
     obtain ⟨vd,rfl,hvd⟩:=hrd
     rcases hLR:oh out with ⟨⟨Lv,Ls⟩,Ld⟩
     have Z8:=Lib.hid hLR
     rw [hLR] at hv0 hv1 hv2 hv3 hvd hcc hput
     clear hLR
     simp only at hv0 hv1 hv2 hv3
     obtain rfl:v=Lv:=hv0.symm
     obtain ⟨ad,nd,cd,rfl,hsd⟩:=jk.sl Flat.sec hvd
     have hnd:=hsd.len
     have ce0:wr.cell? ⟨g,n * 3+1,none⟩=some (.int .i64 Ls):=WU hgc ((hcc 1 (by decide)).trans rfl)
     have ce1:wr.cell? ⟨g,n * 3+2,none⟩=some (.slice ad nd cd):=WU hgc ((hcc 2 (by decide)).trans rfl)
     rw [hn] at hown
     rw [hn]
     have k0:=iW (iW ce0 ⟨wr.drew,(Below.refl _ _).drew⟩)
     have k1:=iW (iW ce1 ⟨wr.drew,(Below.refl _ _).drew⟩)
     by_cases hend:Ls+(Ld.length:Int)=((s+k:Nat):Int)
     ·obtain ⟨_,e,hblk,La,_⟩:=hvd
      cases e
      obtain ⟨gi,rfl,hgi⟩:∃ gi,ad=some ⟨gi,0,none⟩∧NR gi:=by
       obtain ⟨xs,hrow,_⟩:=La
       rcases hrow.2 with ⟨_,h0⟩|⟨gi,aiM,cur',hvu,_⟩
       ·exact absurd (List.eq_nil_of_length_eq_zero h0) hv3
       ·cases hvu;exact ⟨gi,rfl,hblk gi rfl⟩
      obtain ⟨aaK,aiN,OM⟩:=adL gi hgi
      have OO:Below wr.heap.size wr wr.drew.drew:=(Below.refl _ _).drew.drew
      have ce2:=(OO.cell (p:=⟨g,n * 3+2,none⟩) hg).trans ce1
      have kb:=ou (g:=gi) ce2 (Ne.symm OM)
      have hLb:=Tryd.acS (g:=gi) (h1.below (hBw2.trans (OO.mono hBw2.size))) HX.out (show b1<wr.heap.size by have:=hBw2.size;omega) (show b1≠gi by omega)
      go_wp2_with fail
      refine cu (fun w'=>∃ x:Later (wr),w'=x.w) [] [0,1,2,3,4,5,6,7,8] Tryd.mixed (by kernel_rfl) (dL.drew _) ?_
      refine dU ?_
      simp only [pick,List.filterMap_cons,List.filterMap_nil,List.getElem?_toArray,List.getElem?_cons_succ,List.getElem?_cons_zero]
      change wpQuiet _ _ _ _ (_ :: _ :: _ :: _ :: _ :: _ :: _ :: _ :: _ :: []) _
      repeat (first|(go_big_quiet_want;refine bW _ (.tmp 25) rfl _ rfl _ hL1 ?_;go_big_quiet_on;simp only [Act.put,List.setIfInBounds_toArray,List.set_cons_zero,List.set_cons_succ])|(go_big_quiet_want;refine bW _ (.tmp 29) rfl _ rfl _ hL2 ?_;go_big_quiet_on;simp only [Act.put,List.setIfInBounds_toArray,List.set_cons_zero,List.set_cons_succ])|go_big_quiet_step (fail))
      refine wpQuiet_nil ?_
      go_wp2_with fail
      refine cu (fun w'=>∃ x:Later (wr.drew),w'=x.w) [] [0,1,2,3,4,5,6,7,8,9,10,11,12,13,14,15,16,17,18,19] Tryd.mixed (by kernel_rfl) (dL.drew _) ?_
      refine dU ?_
      simp only [pick,List.filterMap_cons,List.filterMap_nil,List.getElem?_toArray,List.getElem?_cons_succ,List.getElem?_cons_zero]
      change wpQuiet _ _ _ _ (_ :: _ :: _ :: _ :: _ :: _ :: _ :: _ :: _ :: _ :: _ :: _ :: _ :: _ :: _ :: _ :: _ :: _ :: _ :: _ :: []) _
      repeat (go_big_quiet_step (fail))
      refine wpQuiet_nil ?_
      go_wp2_with fail
      refine sH (fun w'=>∃ x:jU (wr.drew.drew) (gi),w'=x.w) [([0,1,2,3,4,5,6,7,8,9,10,11,12],13),([],14)] [15,16] 17 Tryd.mixed (by kernel_rfl) (jU.drew _ _) ?_
      refine qL ?_
      simp only [pick,List.filterMap_cons,List.filterMap_nil,List.getElem?_toArray,List.getElem?_cons_succ,List.getElem?_cons_zero]
      change wpQuiet _ _ _ _ (_ :: _ :: _ :: _ :: _ :: _ :: _ :: _ :: _ :: _ :: _ :: _ :: _ :: []) _
      repeat (first|(go_big_quiet_want;refine bW _ (.tmp 65) rfl _ rfl _ hLb ?_;go_big_quiet_on;simp only [Act.put,List.setIfInBounds_toArray,List.set_cons_zero,List.set_cons_succ])|go_big_quiet_step (fail))
      refine wpQuiet_nil ?_
      change wpList _ _ _ [_] _ _
      go_wp2_with fail
      simp only [wI x]
      obtain ⟨w10,BZ⟩:∃ w10,wr.drew.drew.drew.alloc (.cells (aV x).toArray 78)=w10:=⟨_,rfl⟩
      rw [show (wr.alloc (.cells (aV x).toArray 78)).drew.drew.drew=w10 from BZ]
      have Hq:Below wr.heap.size wr w10:=by rw [← BZ];exact (Below.refl _ _).drew.drew.drew.alloc (Nat.le_refl _) _
      have hs10:w10.heap.size=wr.heap.size+1:=by rw [← BZ];exact World.size_alloc ..
      have WX:wr.drew.drew.grownBy w10 (some gi):=Ei (by rw [← BZ];exact below_grown (((Below.refl _ wr.drew.drew).drew).alloc (Nat.le_refl _) _))
      refine ⟨jU.of WX,?_⟩
      refine qL ?_
      simp only [pick,List.filterMap_cons,List.filterMap_nil,List.getElem?_toArray,List.getElem?_cons_succ,List.getElem?_cons_zero]
      change wpQuiet _ _ _ _ ([]) _
      repeat (go_big_quiet_step (fail))
      refine wpQuiet_nil ?_
      change wpList _ _ _ [_] _ _
      refine AL (r:=pR) (B:=0) (ok:=fun _=>False) (w:=w10) Tryd.acF rfl _ _ rfl rfl (La.below Hq) rfl (by rw [← BZ];exact WV wr.drew.drew.drew x) ?c1 ?c2 ?c3 ?_
      case c1=>unfold maxLen;omega
      case c2=>omega
      case c3=>exact Nat.zero_le _
      intro v' Lc Cb jS rF
      obtain ⟨a11,n11,c11,rfl,agj⟩:=Cb.sl
      go_wp2_with fail
      refine ⟨jU.of (zf WX jS),?_⟩
      have A11:Lc.heap[g]?=some (.cells cur 87 (0,0)):=(jS.block g (by omega) (fun e=>by cases e;exact OM rfl)).trans ((Hq.block g hg).trans hgc)
      have aiP:Lc.cell? ⟨g,n * 3+2,none⟩=some (.slice (some ⟨gi,0,none⟩) nd cd):=WU A11 ((hcc 2 (by decide)).trans rfl)
      have aiQ:Lc.frozen? ⟨g,n * 3+2,none⟩=false:=by simp only [World.frozen?,A11,decide_eq_false (Nat.not_lt_zero _),Bool.and_false]
      refine zh ?_
      simp only [pick,List.filterMap_cons,List.filterMap_nil,List.getElem?_toArray,List.getElem?_cons_succ,List.getElem?_cons_zero]
      change wpQuiet _ _ _ _ (_ :: _ :: []) _
      repeat (go_big_quiet_step (fail))
      refine wpQuiet_nil ?_
      change wpList _ _ _ [_] _ _
      go_wp2_with fail
      have hQ:=agh Lc g (n * 3+2) (.slice a11 n11 c11)
      have hgb:∀ b:Nat,(Value.slice a11 n11 c11).ownBlock=some b→b≠g:=fun b he=>by
       rw [he] at rF
       rcases rF with h|h
       ·have e2:b=gi:=Option.some.inj h
        rw [e2];exact OM
       ·have e2:b=w10.heap.size:=Option.some.inj h
        omega
      have adO:dR.rd (fun b=>(NR b∨wr.heap.size≤b)∧b≠g) (Lc.setCell ⟨g,n * 3+2,none⟩ (.slice a11 n11 c11)) [.int .i64 v,.int .i64 Ls,.slice a11 n11 c11] ((v,Ls),Ld++[x]):=by
       refine ⟨_,rfl,_,rfl,fun b hb=>⟨?_,hgb b hb⟩,Cb.acQ hQ (fun e=>hgb g e rfl),fun e=>absurd e (by simp)⟩
       rw [hb] at rF
       rcases rF with h|h
       ·have e2:b=gi:=Option.some.inj h
        rw [e2];exact .inl hgi
       ·have e2:b=w10.heap.size:=Option.some.inj h
        exact .inr (by rw [e2,hs10];exact Nat.le_succ _)
      have WY:wr.heap.size≤(Lc.setCell ⟨g,n * 3+2,none⟩ (.slice a11 n11 c11)).heap.size:=by rw [WW];have:=jS.size;omega
      have hP:=hput (Lc.setCell ⟨g,n * 3+2,none⟩ (.slice a11 n11 c11)) 2 (.slice a11 n11 c11) ((v,Ls),Ld++[x]) (by decide) (acR Lc A11) (fun b hb hne ho=>(Below.heap_setCell _ _ _ _ hne).trans ((jS.block b (by omega) (fun e=>by cases e;exact ho hgi)).trans (Hq.block b hb))) WY adO
      rw [hn] at hP
      go_roundw
      case rel=>exact ⟨k+1,by omega,by go_num,by
       rw [HN.out,HS.out,HO.out,oq,if_pos ⟨by omega,by rw [Z8.out],by rw [Z8.out];exact hend⟩,Z8.out,hn]
       exact hP,fun e=>absurd e (by rw [HN.out,HS.out];exact qK),((hBw.trans (Hq.mono hBw.size)).grown jS (by omega) (fun j hj=>by cases hj;exact aaK)).grown hQ (by have:=jS.size;omega) (fun j hj=>by cases hj;exact hBg)⟩
      case measure=>simp [intOf];omega
     ·go_wp2_with fail
      refine cu (fun w'=>∃ x:Later (wr),w'=x.w) [] [0,1,2,3,4,5,6,7,8] Tryd.mixed (by kernel_rfl) (dL.drew _) ?_
      refine dU ?_
      simp only [pick,List.filterMap_cons,List.filterMap_nil,List.getElem?_toArray,List.getElem?_cons_succ,List.getElem?_cons_zero]
      change wpQuiet _ _ _ _ (_ :: _ :: _ :: _ :: _ :: _ :: _ :: _ :: _ :: []) _
      repeat (first|(go_big_quiet_want;refine bW _ (.tmp 25) rfl _ rfl _ hL1 ?_;go_big_quiet_on;simp only [Act.put,List.setIfInBounds_toArray,List.set_cons_zero,List.set_cons_succ])|(go_big_quiet_want;refine bW _ (.tmp 29) rfl _ rfl _ hL2 ?_;go_big_quiet_on;simp only [Act.put,List.setIfInBounds_toArray,List.set_cons_zero,List.set_cons_succ])|go_big_quiet_step (fail))
      refine wpQuiet_nil ?_
      go_wp2_with fail
      refine cu (fun w'=>∃ x:Later (wr.drew),w'=x.w) [] [0,1,2,3,4,5,6,7,8,9,10,11,12,13,14,15,16,17,18,19] Tryd.mixed (by kernel_rfl) (dL.drew _) ?_
      refine dU ?_
      simp only [pick,List.filterMap_cons,List.filterMap_nil,List.getElem?_toArray,List.getElem?_cons_succ,List.getElem?_cons_zero]
      change wpQuiet _ _ _ _ (_ :: _ :: _ :: _ :: _ :: _ :: _ :: _ :: _ :: _ :: _ :: _ :: _ :: _ :: _ :: _ :: _ :: _ :: _ :: _ :: []) _
      repeat (go_big_quiet_step (fail))
      refine wpQuiet_nil ?_
      go_wp2_with (first|refine lC rfl rfl rfl hL9 ?_|(at_builtin;refine Hid.out ?_))
      refine Lib.hid ?_
      simp only [wI x]
      refine mQ (r:=dR) (w:=(wr.drew.drew.alloc (.cells (aV x).toArray 78)).alloc (.cells #[.int .i64 v,.int .i64 ((s:Int)+k),.slice (some ⟨wr.drew.drew.heap.size,0,none⟩) 1 1] 87)) Tryd.VF rfl _ _ rfl rfl (hown.below hBa) rfl hnews (sG (BX (w:=wr.drew.drew) wr.heap.size (Nat.le_refl _) v ((s:Int)+k) x)) ?c5 ?c1 ?c2 ?c3 ?c4 ?_
      case c5=>exact fun k hk=>(tY k hk).2
      case c1=>unfold maxLen;omega
      case c2=>omega
      case c3=>omega
      case c4=>simp;omega
      intro v' w2 hown1 hgrow _
      go_wp2
      go_roundw
      case rel=>exact ⟨k+1,by omega,by go_num,by
       rw [HN.out,HS.out,HO.out,oq,if_neg (fun h=>hend (by have:=h.2.2;rw [Z8.out] at this;exact this))]
       rw [Int.natCast_add]
       exact hown1,fun e=>absurd e (by rw [HN.out,HS.out];exact qK),hBw.trans ((hBa.mono hBw.size).trans (grown_below hgrow (Nat.le_trans hBw.size hBa.size) (fun k hk=>(tY k hk).1)))⟩
      case measure=>simp [intOf];omega
  ·go_wp2
   go_ret
   obtain rfl:k=m:=by omega
   exact ⟨_,rfl,by rw [← hsz];exact hown,hnil,hB0.trans (hBw.mono hB0.size)⟩
end Go.Proofs.YtaaokejjmdbfaaaDoor

namespace Go.Proofs.YtaaokejjmdbfaaaDoor
inductive qC
 |last (seg:List Nat)
 |one (seg:List Nat) (i:Nat) (t:qC)
 |two (seg:List Nat) (i j:Nat) (t u:qC)
def qC.ok (ops:Array Oper):qC→Nat→Array Bool→Bool
 |.last seg,n,l=>(n==seg.length)&&match bK ops seg l with
  |some l'=>(Region.ready .any ops l').isEmpty
  |none=>false
 |.one seg i t,n,l=>decide (seg.length+1≤n)&&match bK ops seg l with
  |some l'=>(Region.ready .any ops l'==[i])&&t.ok ops (n - 1 - seg.length) (l'.setIfInBounds i true)
  |none=>false
 |.two seg i j t u,n,l=>decide (seg.length+1≤n)&&match bK ops seg l with
  |some l'=>(Region.ready .any ops l'==[i,j])&&(t.ok ops (n - 1 - seg.length) (l'.setIfInBounds i true)&&u.ok ops (n - 1 - seg.length) (l'.setIfInBounds j true))
  |none=>false
def WZ (ops:Array Oper) (t:qC):Bool:=Region.noSelect ops&&t.ok ops ops.size (Array.replicate ops.size false)
def lD (P:Program) (ops:Array Oper) (S:World→Prop) (Q:Act→World→Prop):qC→Act→World→Prop
 |.last seg,a,w=>wpQuiet P ops S (fun a'=>Q a' w) (pick ops seg) a
 |.one seg i t,a,w=>wpQuiet P ops S (fun a'=>wpList P ops (fun e a'' w''=>e=.normal∧S w''∧lD P ops S Q t a'' w'') (pick ops [i]) a' w) (pick ops seg) a
 |.two seg i j t u,a,w=>wpQuiet P ops S (fun a'=>wpList P ops (fun e a'' w''=>e=.normal∧S w''∧lD P ops S Q t a'' w'') (pick ops [i]) a' w∧wpList P ops (fun e a'' w''=>e=.normal∧S w''∧lD P ops S Q u a'' w'') (pick ops [j]) a' w) (pick ops seg) a
section
variable {P:Program} {ops:Array Oper} {S:World→Prop} {Q:Act→World→Prop}
theorem mY {K K':Act→Prop} (h:∀ a,K a→K' a):∀ (os:List Oper) (a:Act),wpQuiet P ops S K os a→wpQuiet P ops S K' os a
 |[],a,hq=>h a hq
 |o :: os,a,hq=>by
  unfold wpQuiet at hq ⊢
  split at hq
  ·rename_i hw;rw [if_pos hw];exact Oper.quiet_mono (fun a' h'=>mY h os a' h') hq
  ·rename_i hw;rw [if_neg hw];exact mY h os _ hq
theorem wJ {K:Act→World→Prop} {l:Array Bool} {n j:Nat} {a:Act} {w:World} (hd:∀ a w,S w→K a w→wpAnyH P .any ops (bF Q) S n l a w)
  (h:wpList P ops (fun e a'' w''=>e=.normal∧S w''∧K a'' w'') (pick ops [j]) a w):wpOp P ops (bF Q) j (fun a w=>S w∧wpAnyH P .any ops (bF Q) S n l a w) a w:=by
 unfold wpOp
 cases ho:ops[j]? with
 |none =>
  simp only [pick,List.filterMap_cons,ho,List.filterMap_nil] at h
  obtain ⟨_,hs,ha⟩:=h
  exact ⟨hs,hd _ _ hs ha⟩
 |some o =>
  simp only [pick,List.filterMap_cons,ho,List.filterMap_nil] at h
  unfold wpList at h
  simp only
  split at h
  ·rename_i hw
   rw [if_pos hw]
   rcases h with h'|⟨_,a0,w0,h0⟩
   ·exact .inl (Gf (fun a1 w1 h1=>⟨h1.2.1,hd _ _ h1.2.1 h1.2.2⟩) (fun e a1 w1 h1=>h1.1) h')
   ·cases h0.1
  ·rename_i hw
   rw [if_neg hw]
   exact ⟨h.2.1,hd _ _ h.2.1 h.2.2⟩
theorem rG (hsel:Region.noSelect ops=true):∀ (t:qC) (n:Nat) (l:Array Bool) (a:Act) (w:World),t.ok ops n l=true→S w→lD P ops S Q t a w→wpAnyH P .any ops (bF Q) S n l a w
 |.last seg,n,l,a,w,hB,hS,h=>by
  unfold qC.ok at hB
  rw [Bool.and_eq_true,beq_iff_eq] at hB
  obtain ⟨rfl,hB⟩:=hB
  split at hB
  case h_2=>cases hB
  rename_i l' hq
  have:=nX (Q:=Q) (P:=P) hsel hS seg 0 l l' a hq (by
   unfold lD at h
   exact mY (fun a' hq'=>⟨by simpa using hB,rfl,hq'⟩) _ _ h)
  simpa using this
 |.one seg i t,n,l,a,w,hB,hS,h=>by
  unfold qC.ok at hB
  rw [Bool.and_eq_true,decide_eq_true_eq] at hB
  obtain ⟨hn,hB⟩:=hB
  split at hB
  case h_2=>cases hB
  rename_i l' hq
  simp only [Bool.and_eq_true,beq_iff_eq] at hB
  obtain ⟨hr,hB'⟩:=hB
  have:=nX (Q:=Q) (P:=P) hsel hS seg (n - 1 - seg.length+1) l l' a hq (by
   unfold lD at h
   refine mY (fun a' h'=>?_) _ _ h
   refine wpAnyH_all hr (by simp) fun j hj=>?_
   obtain rfl:j=i:=by simpa using hj
   exact wJ (fun a w hs hk=>rG hsel t _ _ a w hB' hs hk) h')
  rwa [show n - 1 - seg.length+1+seg.length=n by omega] at this
 |.two seg i k t u,n,l,a,w,hB,hS,h=>by
  unfold qC.ok at hB
  rw [Bool.and_eq_true,decide_eq_true_eq] at hB
  obtain ⟨hn,hB⟩:=hB
  split at hB
  case h_2=>cases hB
  rename_i l' hq
  simp only [Bool.and_eq_true,beq_iff_eq] at hB
  obtain ⟨hr,hB1,hB2⟩:=hB
  have:=nX (Q:=Q) (P:=P) hsel hS seg (n - 1 - seg.length+1) l l' a hq (by
   unfold lD at h
   refine mY (fun a' h'=>?_) _ _ h
   refine wpAnyH_all hr (by simp) fun j hj=>?_
   have hj:j=i∨j=k:=by simpa using hj
   rcases hj with rfl|rfl
   ·exact wJ (fun a w hs hk=>rG hsel t _ _ a w hB1 hs hk) h'.1
   ·exact wJ (fun a w hs hk=>rG hsel u _ _ a w hB2 hs hk) h'.2)
  rwa [show n - 1 - seg.length+1+seg.length=n by omega] at this
theorem Cc {id:Nat} {l:List Oper} {a:Act} {w:World} {Q:Exit→Act→World→Prop} (S:World→Prop) (t:qC) (hm:P.follows .mixedOrders=true)
  (hB:WZ l.toArray t=true) (hS:S w.drew) (h:lD P l.toArray S (Q .normal) t a w.drew):(Code.region id l.toArray true).wp P Q a w:=by
 unfold WZ at hB
 rw [Bool.and_eq_true] at hB
 refine Code.wp_mono (Q:=bF (Q .normal)) (fun e a w h=>by obtain ⟨rfl,h⟩:=h;exact h) (wp_region_held (S:=S) hm ?_)
 exact rG hB.1 t _ _ a _ hB.2 hS h
theorem zH {seg:List Nat} {a:Act} {w:World} (h:wpQuiet P ops S (fun a'=>Q a' w) (pick ops seg) a):lD P ops S Q (.last seg) a w:=h
theorem lY {seg:List Nat} {i:Nat} {t:qC} {a:Act} {w:World} (h:wpQuiet P ops S (fun a'=>wpList P ops (fun e a'' w''=>e=.normal∧S w''∧lD P ops S Q t a'' w'') (pick ops [i]) a' w) (pick ops seg) a):lD P ops S Q (.one seg i t) a w:=h
theorem OQ {seg:List Nat} {i j:Nat} {t u:qC} {a:Act} {w:World} (h:wpQuiet P ops S (fun a'=>wpList P ops (fun e a'' w''=>e=.normal∧S w''∧lD P ops S Q t a'' w'') (pick ops [i]) a' w∧wpList P ops (fun e a'' w''=>e=.normal∧S w''∧lD P ops S Q u a'' w'') (pick ops [j]) a' w) (pick ops seg) a):lD P ops S Q (.two seg i j t u) a w:=h
end
end Go.Proofs.YtaaokejjmdbfaaaDoor

namespace Go.Proofs.YtaaokejjmdbfaaaDoor
def dV {α:Type} (b:Bool) (x y:α):α:=match b with
 |true=>x
 |false=>y
section
variable {env:Env} {α β:Type}
theorem OT (x y:α):dV true x y=x:=(rfl)
theorem zI (x y:α):dV false x y=y:=(rfl)
theorem iq (b:Bool) (x y:Option α) (f:α→Option β):(dV b x y).bind f=dV b (x.bind f) (y.bind f):=by cases b<;>rfl
theorem jd (b:Bool) (x y:Option α) (f:α→β):(dV b x y).map f=dV b (x.map f) (y.map f):=by cases b<;>rfl
theorem ET (b:Bool) (x y:α):dV (!b) x y=dV b y x:=by cases b<;>rfl
theorem Tt {γ:Type} [BEq γ] (a b:γ) (x y:α):dV (a != b) x y=dV (a==b) y x:=by unfold bne;rw [ET]
theorem agk (b:Bool):(b==true)=b:=by cases b<;>rfl
theorem agl (b:Bool):(b==false)=!b:=by cases b<;>rfl
theorem fP {b:Bool} {x y r:α} (h1:b=true→x=r) (h0:b=false→y=r):dV b x y=r:=by
 cases b
 ·exact h0 rfl
 ·exact h1 rfl
noncomputable def Ce (env:Env) (l:List fM) (st:St):Option St:=ops (den env) env l st
noncomputable def rW (env:Env) (o:fM) (st:St):Option St:=op (den env) env o st
noncomputable def next (env:Env) (b:ak):Ex × St→Option (Ex × St)
 |(.normal,st)=>den env b st
 |r=>some r
def endBlock (id:Nat):Ex × St→Ex × St
 |(.normal,st)=>(.normal,st)
 |(.exit j,st)=>(dV (Nat.beq j id) .normal (.exit j),st)
 |(.ret,st)=>(.ret,st)
 |(.nK t n,st)=>(.nK t n,st)
def lF (post:List Nat) (nb:Nat) (p:Ex × St):Option (Ex × St):=(p.2.head post nb).map fun st=>(p.1,st)
def fin (rs:List qw):Ex × St→Option (List l9)
 |(.exit _,_)=>none
 |(.nK _ _,_)=>none
 |(_,st)=>fJ st rs
def start (n:Nat) (args:List PV):St:=⟨args.map .pv++List.replicate (n - args.length) .any,[],[],none⟩
theorem bG (st:St):den env .skip st=some (.normal,st):=by rw [kN];rfl
theorem aaL (l:List fM) (st:St):den env (.ops l) st=(Ce env l st).map fun st=>(.normal,st):=by rw [kN];rfl
theorem aaM (z a f q) (l:List fM) (st:St):den env (.vk z a f q l) st=(Ce env l (z.foldl St.gG st)).map fun st=>(.normal,st):=by rw [kN];rfl
noncomputable def acT (env:Env) (keep:List Nat) (vo:List fM) (st:St) (l:List fZ):Option St:=iO (den env) env keep vo st l
noncomputable def aaN (env:Env) (keep:List Nat) (vo:List fM) (st:St) (x:fZ):Option St:=iV (den env) env keep vo st x
noncomputable def Ci (env:Env) (keep:List Nat) (vo:List fM) (st s:St) (l:List fZ):Option St:=agree s (l.map (iV (den env) env keep vo st))
def sameAs (s s':St) (r:Option St):Option St:=if s'.same s then r else none
theorem aaO (z k vo l) (st:St):den env (.drs z k vo l) st=(acT env k vo (z.foldl St.gG st) l).map fun st=>(.normal,st):=by rw [kN];rfl
theorem OU (k vo) (st:St) (x:fZ) (l:List fZ):acT env k vo st (x :: l)=(aaN env k vo st x).bind fun s=>Ci env k vo st s l:=(rfl)
theorem OV (k vo) (st s:St):Ci env k vo st s []=some s:=(rfl)
theorem Le (k vo) (st s:St) (x:fZ) (l:List fZ):Ci env k vo st s (x :: l)=(aaN env k vo st x).bind fun s'=>sameAs s s' (Ci env k vo st s l):=by
 show (iV (den env) env k vo st x).bind _=_
 unfold aaN Ci sameAs
 congr 1
theorem Lh (s:St) (r:Option St):sameAs s s r=r:=by
 show (if s.same s then r else none)=r
 rw [St.iZ];rfl
theorem aaP (k vo) (st:St) (a f q o w):aaN env k vo st ⟨a,f,q,o,w⟩=(Ce env (bQ vo o) st).bind (kX k st.boxes.length w):=(rfl)
theorem Hr (k:List Nat) (nb:Nat) (s:St):kX k nb false s=s.head k s.boxes.length:=by
 unfold kX
 cases s.head k s.boxes.length<;>rfl
theorem Lj (k:List Nat) (nb:Nat) (s:St):kX k nb true s=(s.head k s.boxes.length).bind fun s=>s.swap2 nb:=(rfl)
theorem Tv (vo:List fM):bQ vo []=[]:=(rfl)
theorem TA (vo:List fM) (i:Nat) (l:List Nat):bQ vo (i :: l)=vo.getD i default :: bQ vo l:=(rfl)
theorem aaQ (a b:ak) (st:St):den env (.seq a b) st=(den env a st).bind (next env b):=by
 rw [kN]
 show (den env a st).bind _=_
 congr 1
 funext ⟨e,st⟩
 cases e<;>rfl
theorem W9 (c:bP) (a b:ak) (st:St):den env (.cond c a b) st=(match st.dH c with
  |some (.bool t)=>dV t (den env a st) (den env b st)
  |_=>none):=by
 rw [kN]
 show (st.dH c).bind _=_
 cases st.dH c with
 |none=>rfl
 |some v =>
  cases v<;>try rfl
  rename_i t
  cases t<;>rfl
theorem EU (i:Nat) (a:ak) (st:St):den env (.block i a) st=(den env a st).map (endBlock i):=by
 rw [kN]
 show (den env a st).bind _=_
 cases den env a st with
 |none=>rfl
 |some r =>
  obtain ⟨e,st⟩:=r
  cases e with
  |normal=>rfl
  |ret=>rfl
  |nK t n=>rfl
  |exit j =>
   show some (_,_)=some (_,_)
   by_cases h:j=i
   ·subst h;simp [dV]
   ·have:Nat.beq j i=false:=by cases e:Nat.beq j i with
    |false=>rfl
    |true=>exact absurd (Nat.eq_of_beq_eq_true e) h
    simp [dV,h,this]
theorem Xa (keep:List Nat) (a:ak) (st:St):den env (.loop keep a) st=den env (.round keep st.boxes.length a) st:=by rw [kN];rfl
theorem EW (keep:List Nat) (nb:Nat) (a:ak) (st:St):den env (.round keep nb a) st=(st.head keep nb).bind fun st=>(den env a st).bind (next env (.round keep nb a)):=by
 rw [kN]
 show (st.head keep nb).bind _=_
 congr 1
 funext st
 show (den env a st).bind _=_
 congr 1
 funext ⟨e,st⟩
 cases e<;>rfl
theorem TB (pre post:List Nat) (a:ak) (st:St):den env (.clean pre post a) st=(st.head pre st.boxes.length).bind fun s=>(den env a s).bind (lF post st.boxes.length):=by
 rw [kN]
 show (st.head pre _).bind _=_
 congr 1
 funext s
 show (den env a s).bind _=_
 congr 1
 funext ⟨e,s⟩
 show (s.head post _).bind _=(s.head post _).map _
 cases s.head post st.boxes.length<;>rfl
theorem Xb (i:Nat) (st:St):den env (.exit i) st=some (.exit i,st):=by rw [kN];rfl
theorem aaR (st:St):den env .ret st=some (.ret,st):=by rw [kN];rfl
theorem Ll (b:ak) (st:St):next env b (.normal,st)=den env b st:=(rfl)
theorem TD (b:ak) (i:Nat) (st:St):next env b (.exit i,st)=some (.exit i,st):=(rfl)
theorem Xc (b:ak) (st:St):next env b (.ret,st)=some (.ret,st):=(rfl)
theorem Xd (b:ak) (t:Nat) (n:Int) (st:St):next env b (.nK t n,st)=some (.nK t n,st):=(rfl)
theorem Ht (i t:Nat) (n:Int) (st:St):endBlock i (.nK t n,st)=(.nK t n,st):=(rfl)
noncomputable def thrown (env:Env) (f:Nat) (args:List PV):Option (Option (Nat × Int)):=wV (den env) env f args
def adP:Ex × St→Option (Option (Nat × Int))
 |(.exit _,_)=>none
 |(.nK t n,_)=>some (some (t,n))
 |_=>some none
theorem Lm (st:St):adP (.normal,st)=some none:=(rfl)
theorem Xe (st:St):adP (.ret,st)=some none:=(rfl)
theorem Xf (t:Nat) (n:Int) (st:St):adP (.nK t n,st)=some (some (t,n)):=(rfl)
noncomputable def OW (env:Env) (d f:Nat) (args:List bP) (st:St):Option (Nat × Int)→Option (Ex × St)
 |some (t,n)=>some (.nK t n,st)
 |none=>(Ce env [.call d f args] st).map fun st=>(.normal,st)
theorem Lp (d f:Nat) (args:List bP) (st:St) (t:Nat) (n:Int):OW env d f args st (some (t,n))=some (.nK t n,st):=(rfl)
theorem Lr (d f:Nat) (args:List bP) (st:St):OW env d f args st none=(Ce env [.call d f args] st).map fun st=>(.normal,st):=(rfl)
theorem aaS (l:List fM) (d f:Nat) (args:List bP) (st:St):den env (.dem l d f args) st=(Ce env l st).bind fun st1=>(args.mapM st1.dH).bind fun vs=>(thrown env f vs).bind (OW env d f args st1):=by
 rw [kN]
 show (Ce env l st).bind _=_
 congr 1
 funext st1
 show (args.mapM st1.dH).bind _=_
 congr 1
 funext vs
 show (thrown env f vs).bind _=_
 congr 1
 funext r
 cases r with
 |some p=>rfl
 |none =>
  show (act (den env) env (.call d f args) st1).map _=((act (den env) env (.call d f args) st1).bind (ops (den env) env [])).map _
  cases act (den env) env (.call d f args) st1<;>rfl
theorem zU (i:Nat) (st:St):endBlock i (.normal,st)=(.normal,st):=(rfl)
theorem Hu (i:Nat) (st:St):endBlock i (.ret,st)=(.ret,st):=(rfl)
theorem Ec (i j:Nat) (st:St):endBlock i (.exit j,st)=(dV (Nat.beq j i) .normal (.exit j),st):=(rfl)
theorem OX (rs:List qw) (st:St):fin rs (.normal,st)=fJ st rs:=(rfl)
theorem aaT (rs:List qw) (st:St):fin rs (.ret,st)=fJ st rs:=(rfl)
theorem au {f:Nat} {fn:jv} {args:List PV} (h:env f=some (.code fn)) (hl:args.length=fn.nargs):cal env f args=(den env fn.body (start fn.ntmps args)).bind (Go.Proofs.YtaaokejjmdbfaaaDoor.fin fn.results):=by
 unfold cal gJ
 rw [h]
 simp only [if_pos hl]
 show (den env fn.body _).bind _=_
 congr 1
 funext ⟨e,st⟩
 cases e<;>rfl
def Xg (n:Nat) (x:kC) (args:List PV):St:=⟨x.av :: (args.map .pv++List.replicate (n - (args.length+1)) .any),x.boxes,[],none⟩
def agm (x:kC) (rs:List qw):Ex × St→Option (List l9 × Option (List PV))
 |(.exit _,_)=>none
 |(.nK _ _,_)=>none
 |(_,st)=>iJ x st rs
theorem Lu (x:kC) (rs:List qw) (st:St):agm x rs (.normal,st)=iJ x st rs:=(rfl)
theorem Xh (x:kC) (rs:List qw) (st:St):agm x rs (.ret,st)=iJ x st rs:=(rfl)
theorem OY (sz:Nat) (es:List PV) (st:St) (rs:List qw):iJ (.row sz es) st rs=(fJ st rs).map fun l=>(l,none):=(rfl)
theorem OZ (l:List AV) (st:St) (rs:List qw):iJ (.own l) st rs=(fJ st rs).map fun l=>(l,none):=(rfl)
theorem O1 (cs:List PV) (st:St) (rs:List qw):iJ (.box cs) st rs=(match (st.bf 0).boxes[0]? with
  |some b=>dV b.fz none ((resultList (st.bf 0) rs).map fun l=>(l,some (b.cs.map BV.val)))
  |none=>none):=by
 show (match (st.bf 0).boxes[0]? with
  |some b=>if b.fz then none else (resultList (st.bf 0) rs).map fun l=>(l,some (b.cs.map BV.val))
  |none=>none)=_
 split
 ·rename_i b _
  cases b.fz<;>rfl
 ·rfl
theorem aaU (sz:Nat) (es:List PV):(kC.row sz es).av=.row sz es:=(rfl)
theorem aaV (l:List AV):(kC.own l).av=.jY true l:=(rfl)
theorem aaW (cs:List PV):(kC.box cs).av=.aQ 0 0:=(rfl)
theorem aaX (sz:Nat) (es:List PV):(kC.row sz es).boxes=[]:=(rfl)
theorem aaY (l:List AV):(kC.own l).boxes=[]:=(rfl)
theorem aaZ (cs:List PV):(kC.box cs).boxes=[⟨false,cs.map .pv⟩]:=(rfl)
theorem Hw {f:Nat} {g:List PV→Option (List l9)} {args:List PV} (h:env f=some (.ext g)):cal env f args=g args:=by
 unfold cal gJ
 rw [h]
theorem LC {keep post:List Nat} {id:Nat} {b:ak} {st S0:St} {R:Option (Ex × St)} (h:st.head keep st.boxes.length=some S0) (h2:S0.head keep S0.boxes.length=some S0)
  (key:∀ rb,rb=ak.round keep S0.boxes.length b→(((den env b S0).bind (next env rb)).map (endBlock id)).bind (lF post st.boxes.length)=R):den env (.clean keep post (.block id (.loop keep b))) st=R:=by
 rw [TB,h,Option.bind_some,EU,Xa,EW,h2,Option.bind_some]
 exact key _ rfl
theorem Xi {keep:List Nat} {nb:Nat} {b rb:ak} {st S1:St} (hrb:rb=.round keep nb b) (h:st.head keep nb=some S1):den env rb st=(den env b S1).bind (next env rb):=by
 rw [hrb,EW,h,Option.bind_some]
noncomputable def jX (env:Env) (id:Nat) (post:List Nat) (nb:Nat) (x:Option (Ex × St)):Option (Ex × St):=(x.map (endBlock id)).bind (lF post nb)
theorem yQ {β:Type} {keep post:List Nat} {id nb:Nat} {b:ak} (S:β→St) (R:β→Option (Ex × St)) (P:β→Prop) (μ:β→Nat) (x0:β) {st:St} (h:st.head keep st.boxes.length=some (S x0)) (hP:P x0)
  (hS:∀ x,(S x).boxes.length=nb) (hh:∀ x,(S x).head keep nb=some (S x))
  (step:∀ x rb,P x→(∀ y,μ y<μ x→P y→∀ s,s.head keep nb=some (S y)→jX env id post nb (den env rb s)=R y)→jX env id post nb ((den env b (S x)).bind (next env rb))=R x) :
  den env (.clean keep post (.block id (.loop keep b))) st=R x0:=by
 have hb:st.boxes.length=nb:=by rw [← (uU h).1];exact hS x0
 refine LC h (by rw [hS];exact hh x0) ?_
 intro rb hrb
 rw [hS] at hrb
 rw [hb]
 have key:∀ (k:Nat) (x:β),μ x<k→P x→jX env id post nb ((den env b (S x)).bind (next env rb))=R x:=by
  intro k
  induction k with
  |zero=>intro x hx;omega
  |succ k ih =>
   intro x hx hPx
   refine step x rb hPx fun y hy hPy s hs=>?_
   rw [Xi hrb hs]
   exact ih y (by omega) hPy
 exact key (μ x0+1) x0 (by omega) hP
theorem bH {keep post:List Nat} {id nb:Nat} {b:ak} (n:Nat) (S:Nat→St) (R:Nat→Option (Ex × St)) {st:St} (h:st.head keep st.boxes.length=some (S 0)) (hS:∀ i,(S i).boxes.length=nb) (hh:∀ i,(S i).head keep nb=some (S i))
  (step:∀ i rb,i<n→(∀ s,s.head keep nb=some (S (i+1))→jX env id post nb (den env rb s)=R (i+1))→jX env id post nb ((den env b (S i)).bind (next env rb))=R i)
  (last:∀ rb,jX env id post nb ((den env b (S n)).bind (next env rb))=R n) :
  den env (.clean keep post (.block id (.loop keep b))) st=R 0:=by
 refine yQ S R (fun i=>i≤n) (fun i=>n - i) 0 h (Nat.zero_le _) hS hh fun i rb hi ih=>?_
 by_cases hn:i=n
 ·subst hn;exact last rb
 ·exact step i rb (by omega) fun s hs=>ih (i+1) (by omega) (by omega) s hs
theorem LD {id nb:Nat} {post:List Nat} (st:St):jX env id post nb (some (.normal,st))=lF post nb (.normal,st):=(rfl)
theorem Xj {id nb:Nat} {post:List Nat} (t:Nat) (n:Int) (st:St):jX env id post nb (some (.nK t n,st))=lF post nb (.nK t n,st):=(rfl)
theorem Xk {id nb:Nat} {post:List Nat} (st:St):jX env id post nb (some (.ret,st))=lF post nb (.ret,st):=(rfl)
theorem TF {id j nb:Nat} {post:List Nat} (st:St):jX env id post nb (some (.exit j,st))=lF post nb (dV (Nat.beq j id) .normal (.exit j),st):=(rfl)
theorem iw {id nb:Nat} {post:List Nat} (b:Bool) (x y:Option (Ex × St)):jX env id post nb (dV b x y)=dV b (jX env id post nb x) (jX env id post nb y):=by cases b<;>rfl
theorem LG (a:α) (f:α→Option β):(some a).bind f=f a:=(rfl)
theorem LH (f:α→Option β):(none:Option α).bind f=none:=(rfl)
theorem O4 (a:α) (f:α→β):(some a).map f=some (f a):=(rfl)
theorem O5 (f:α→β):(none:Option α).map f=none:=(rfl)
theorem O6 (x y:α):(if True then x else y)=x:=(rfl)
theorem LJ (x y:α):(if False then x else y)=y:=(rfl)
theorem EX {γ δ:Type} (x:Option γ) (f:γ→Option δ):(x >>= f)=x.bind f:=(rfl)
theorem adQ {γ:Type} (x:γ):(pure x:Option γ)=some x:=(rfl)
theorem aJ {γ:Type} (a:γ) (l:List γ):(a :: l).length=l.length+1:=(rfl)
theorem aS {γ:Type}:([]:List γ).length=0:=(rfl)
theorem aT {γ:Type} (l:List γ):[]++l=l:=(rfl)
theorem aK {γ:Type} (a:γ) (l m:List γ):(a :: l)++m=a :: (l++m):=(rfl)
theorem LK {γ:Type} (a:γ) (l:List γ) (n:Nat):(a :: l).take (n+1)=a :: l.take n:=(rfl)
theorem zJ {γ:Type} (l:List γ):l.take 0=[]:=(rfl)
theorem LM {γ:Type} (a:γ) (l:List γ) (n:Nat):(a :: l).drop (n+1)=l.drop n:=(rfl)
theorem LP {γ:Type} (l:List γ):l.drop 0=l:=(rfl)
theorem O7 {γ:Type} (a:γ) (l:List γ):(a :: l)[0]?=some a:=(rfl)
theorem O8 {γ:Type} (a:γ) (l:List γ) (n:Nat):(a :: l)[n+1]?=l[n]?:=(rfl)
theorem aa0 {γ:Type} (a0 a1 a2 a3 a4 a5 a6 a7:γ) (l:List γ) (n:Nat):(a0 :: a1 :: a2 :: a3 :: a4 :: a5 :: a6 :: a7 :: l)[n+8]?=l[n]?:=(rfl)
theorem LQ {γ:Type} (a:γ) (l:List γ) (d:γ):(a :: l).getD 0 d=a:=(rfl)
theorem LU {γ:Type} (a:γ) (l:List γ) (n:Nat) (d:γ):(a :: l).getD (n+1) d=l.getD n d:=(rfl)
theorem Xl {γ:Type} (a0 a1 a2 a3 a4 a5 a6 a7:γ) (l:List γ) (n:Nat) (d:γ):(a0 :: a1 :: a2 :: a3 :: a4 :: a5 :: a6 :: a7 :: l).getD (n+8) d=l.getD n d:=(rfl)
theorem O9 {γ:Type} (a x:γ) (l:List γ):(a :: l).set 0 x=x :: l:=(rfl)
theorem Pg {γ:Type} (a x:γ) (l:List γ) (n:Nat):(a :: l).set (n+1) x=a :: l.set n x:=(rfl)
theorem aa1 {γ:Type} (a0 a1 a2 a3 a4 a5 a6 a7 x:γ) (l:List γ) (n:Nat):(a0 :: a1 :: a2 :: a3 :: a4 :: a5 :: a6 :: a7 :: l).set (n+8) x=a0 :: a1 :: a2 :: a3 :: a4 :: a5 :: a6 :: a7 :: l.set n x:=(rfl)
theorem Ph {γ δ:Type} (f:γ→Option δ):([]:List γ).mapM f=some []:=(rfl)
theorem Pj {γ:Type} (a:γ) (l:List γ) (p:γ→Bool):(a :: l).any p=(p a || l.any p):=(rfl)
theorem TG {γ:Type} (p:γ→Bool):([]:List γ).any p=false:=(rfl)
theorem Pm {γ:Type} (a:γ) (l:List γ) (p:γ→Bool):(a :: l).all p=(p a&&l.all p):=(rfl)
theorem TI {γ:Type} (p:γ→Bool):([]:List γ).all p=true:=(rfl)
theorem Hy {γ δ:Type} (f:δ→γ→δ) (b:δ) (a:γ) (l:List γ):(a :: l).foldl f b=l.foldl f (f b a):=(rfl)
theorem LV {γ δ:Type} (f:δ→γ→δ) (b:δ):([]:List γ).foldl f b=b:=(rfl)
theorem aN {γ δ:Type} (f:γ→δ) (a:γ) (l:List γ):(a :: l).map f=f a :: l.map f:=(rfl)
theorem aU {γ δ:Type} (f:γ→δ):([]:List γ).map f=[]:=(rfl)
theorem aF {γ:Type} (a:γ):List.replicate 0 a=[]:=(rfl)
theorem aG {γ:Type} (a:γ) (n:Nat):List.replicate (n+1) a=a :: List.replicate n a:=(rfl)
theorem Xm (st:St):Ce env [] st=some st:=(rfl)
theorem TJ (o:fM) (l:List fM) (st:St):Ce env (o :: l) st=(rW env o st).bind (Ce env l):=(rfl)
theorem aa2 {g:Nat} {w:Bool} {o:fM} (st:St):rW env (.grd g w o) st=(match st.slots.getD g .any with
  |.pv (.bool b)=>dV (b==w) (op1 (den env) env o st) (match dw o with
   |some d=>some (st.put d (.jY false []))
   |none=>some st)
  |.jY _ l=>dV l.isEmpty (match dw o with
   |some d=>some (st.put d (.jY false []))
   |none=>some st) none
  |_=>none):=by
 unfold rW op
 simp only
 generalize st.slots.getD g .any=v
 cases v with
 |pv p =>
  cases p with
  |bool b=>cases b<;>cases w<;>rfl
  |_=>rfl
 |jY k l=>cases l<;>rfl
 |_=>rfl
theorem Xn {d c x y} (st:St):rW env (.pick d c x y) st=(match st.dH c with
  |some (.bool b)=>dV b ((st.dH x).map fun v=>st.put d (.pv v)) ((st.dH y).map fun v=>st.put d (.pv v))
  |_=>none):=by
 show (st.dH c).bind _=_
 cases st.dH c with
 |none=>rfl
 |some v =>
  cases v<;>try rfl
  rename_i t
  cases t
  ·show (st.dH y).bind _=Option.map _ (st.dH y)
   cases st.dH y<;>rfl
  ·show (st.dH x).bind _=Option.map _ (st.dH x)
   cases st.dH x<;>rfl
def lZ (d:Nat) (args:List bP) (caps:List AV) (st:St) (fl:Bool) (rs:List l9):Option St :=
 some ((dV (fl&&!(rs.all (·.1.scalar))) (caps.foldl (fun s v=>s.bg (.c .void) v) (args.foldl St.bZ st)) st).layAll d rs)
theorem zV (d:Nat) (args:List bP) (caps:List AV) (st:St) (rs:List l9):lZ d args caps st false rs=some (st.layAll d rs):=by
 simp only [lZ,Bool.false_and,zI]
theorem Cj (d:Nat) (args:List bP) (caps:List AV) (st:St) (r:l9) (rs:List l9):lZ d args caps st true (r :: rs)=dV ((r :: rs).all (·.1.scalar)) (some (st.layAll d (r :: rs))) (some ((caps.foldl (fun s v=>s.bg (.c .void) v) (args.foldl St.bZ st)).layAll d (r :: rs))):=by
 unfold lZ
 rw [Bool.true_and]
 cases h:(r :: rs).all (·.1.scalar)<;>rfl
noncomputable def dcall (env:Env) (d f:Nat) (args:List bP) (caps:List AV) (st:St):Option St :=
 (args.mapM fun x=>st.jw (st.get x)).bind fun l=>(caps.mapM st.snap).bind fun k=>(cal env f (l.map (·.1)++k.map (·.1))).bind (lZ d args caps st (l.any (·.2) || k.any (·.2)))
noncomputable def yR (env:Env) (d f:Nat) (args:List bP) (caps:List PV) (st:St):Option St :=
 (args.mapM fun x=>st.jw (st.get x)).bind fun l=>(cal env f (l.map (·.1)++caps)).bind (lZ d args [] st (l.any (·.2)))
theorem Cm (st:St):∀ caps:List PV,(caps.map AV.pv).mapM st.snap=some (caps.map fun v=>(v,false))
 |[]=>rfl
 |c :: l=>by
  rw [List.map_cons,List.mapM_cons,Cm st l]
  rfl
theorem EY (st:St):∀ caps:List PV,(caps.map AV.pv).foldl (fun s v=>s.bg (.c .void) v) st=st
 |[]=>rfl
 |c :: l=>EY st l
theorem CB (d f:Nat) (args:List bP) (caps:List AV) (st:St):gQ (den env) env d f args caps st=dcall env d f args caps st:=by
 unfold gQ dcall
 show Option.bind _ _=Option.bind _ _
 congr 1;funext l
 show Option.bind _ _=Option.bind _ _
 congr 1;funext k
 show Option.bind _ _=Option.bind _ _
 congr 1;funext rs
 show some _=some _
 congr 2
 cases h:(l.any (·.2) || k.any (·.2))&&!(rs.all (·.1.scalar))<;>rfl
theorem yS (d f:Nat) (args:List bP) (caps:List PV) (st:St):dcall env d f args (caps.map .pv) st=yR env d f args caps st:=by
 unfold yR dcall
 congr 1;funext l
 rw [Cm,Option.bind_some,List.map_map,List.any_map]
 have h1:(Prod.fst ∘ fun v:PV=>(v,false))=id:=rfl
 have h2:caps.any (Prod.snd ∘ fun v:PV=>(v,false))=false:=by
  induction caps with
  |nil=>rfl
  |cons c cs ih=>simp [List.any_cons,ih]
 rw [h1,List.map_id,h2,Bool.or_false]
 congr 1;funext rs
 unfold lZ
 rw [EY]
 rfl
theorem Xo {d f args} (st:St):rW env (.call d f args) st=yR env d f args [] st:=(CB ..).trans (yS (caps:=[]) ..)
theorem Xp {d f args} (st:St):op1 (den env) env (.call d f args) st=yR env d f args [] st:=(CB ..).trans (yS (caps:=[]) ..)
noncomputable def EZ (env:Env) (d f:Nat) (x:bP) (args:List bP) (caps:List AV) (st:St):Option St :=
 (args.mapM fun x=>st.jw (st.get x)).bind fun l=>(caps.mapM st.snap).bind fun k=>(dV (l.any (·.2) || k.any (·.2)) none (qJ st x)).bind fun q=>(agb env f q.1 (l.map (·.1)++k.map (·.1))).bind fun r=>(mg q.2.2 q.2.1 r.2).bind fun st2=>some (st2.layAll d r.1)
noncomputable def Hz (env:Env) (d f:Nat) (x:bP) (args:List bP) (caps:List PV) (st:St):Option St :=
 (args.mapM fun x=>st.jw (st.get x)).bind fun l=>(dV (l.any (·.2)) none (qJ st x)).bind fun q=>(agb env f q.1 (l.map (·.1)++caps)).bind fun r=>(mg q.2.2 q.2.1 r.2).bind fun st2=>some (st2.layAll d r.1)
theorem Xq (d f:Nat) (x:bP) (args:List bP) (caps:List AV) (st:St):mP (den env) env d f x args caps st=EZ env d f x args caps st:=by
 unfold mP EZ
 congr 1;funext l
 congr 1;funext k
 congr 1
 cases h:(l.any (·.2) || k.any (·.2))<;>rfl
theorem TK (d f:Nat) (x:bP) (args:List bP) (caps:List PV) (st:St):EZ env d f x args (caps.map .pv) st=Hz env d f x args caps st:=by
 unfold Hz EZ
 congr 1;funext l
 rw [Cm,Option.bind_some,List.map_map,List.any_map]
 have h1:(Prod.fst ∘ fun v:PV=>(v,false))=id:=rfl
 have h2:caps.any (Prod.snd ∘ fun v:PV=>(v,false))=false:=by
  induction caps with
  |nil=>rfl
  |cons c cs ih=>simp [List.any_cons,ih]
 rw [h1,List.map_id,h2,Bool.or_false]
noncomputable def aa3 (env:Env) (d f:Nat) (x:bP) (args:List bP) (caps:List AV) (st:St):Option St:=EZ env d f x args caps (args.foldl St.bZ st)
noncomputable def LW (env:Env) (d f:Nat) (x:bP) (args:List bP) (caps:List PV) (st:St):Option St:=Hz env d f x args caps (args.foldl St.bZ st)
theorem H6 (d f:Nat) (x:bP) (args:List bP) (caps:List AV) (st:St):fD (den env) env d f x args caps st=aa3 env d f x args caps st:=Xq ..
theorem CG (d f:Nat) (x:bP) (args:List bP) (caps:List PV) (st:St):aa3 env d f x args (caps.map .pv) st=LW env d f x args caps st:=TK ..
theorem aa4 {d f x args} (st:St):rW env (.lin d f x args) st=LW env d f x args [] st:=(H6 ..).trans (CG (caps:=[]) ..)
theorem aa5 {d f x args} (st:St):op1 (den env) env (.lin d f x args) st=LW env d f x args [] st:=(H6 ..).trans (CG (caps:=[]) ..)
theorem Xr {d g x args} (st:St):rW env (.linv d g x args) st=(match st.get g with
  |.pv (.func f caps)=>LW env d f x args caps st
  |.fn f caps=>aa3 env d f x args caps st
  |_=>none):=by
 show (match st.get g with
  |.pv (.func f caps)=>fD (den env) env d f x args (caps.map .pv) st
  |.fn f caps=>fD (den env) env d f x args caps st
  |_=>none)=_
 split<;>simp only [H6,CG]
theorem Xt {d g x args} (st:St):op1 (den env) env (.linv d g x args) st=rW env (.linv d g x args) st:=(rfl)
theorem TL {d x args} (st:St):rW env (.ku d x args) st=(match st.get x with
  |.pv (.func f caps)=>yR env d f args caps st
  |.fn f caps=>dcall env d f args caps st
  |_=>none):=by
 show (match st.get x with
  |.pv (.func f caps)=>gQ (den env) env d f args (caps.map .pv) st
  |.fn f caps=>gQ (den env) env d f args caps st
  |_=>none)=_
 split<;>simp only [CB,yS]
theorem TM {d x args} (st:St):op1 (den env) env (.ku d x args) st=rW env (.ku d x args) st:=(rfl)
theorem Xu {d c x y} (st:St):op1 (den env) env (.pick d c x y) st=rW env (.pick d c x y) st:=(rfl)
theorem aa6 {d x} (st:St):rW env (.aj d x) st=plain (.aj d x) st:=(rfl)
theorem aa7 {d x} (st:St):rW env (.aB d x) st=plain (.aB d x) st:=(rfl)
theorem aa8 {d o x y} (st:St):rW env (.bin d o x y) st=plain (.bin d o x y) st:=(rfl)
theorem aa9 {d neg n x y} (st:St):rW env (.Qs d neg n x y) st=plain (.Qs d neg n x y) st:=(rfl)
theorem abb {d n x} (st:St):rW env (.Vk d n x) st=plain (.Vk d n x) st:=(rfl)
theorem abd {d x} (st:St):rW env (.ZY d x) st=act (den env) env (.ZY d x) st:=(rfl)
theorem abe {d x} (st:St):op1 (den env) env (.ZY d x) st=act (den env) env (.ZY d x) st:=(rfl)
theorem abf {n p x} (st:St):rW env (.ZX n p x) st=act (den env) env (.ZX n p x) st:=(rfl)
theorem abg {n p x} (st:St):op1 (den env) env (.ZX n p x) st=act (den env) env (.ZX n p x) st:=(rfl)
theorem abh {d f x g} (st:St):rW env (.Gg d f x g) st=act (den env) env (.Gg d f x g) st:=(rfl)
theorem abj {d f x g} (st:St):op1 (den env) env (.Gg d f x g) st=act (den env) env (.Gg d f x g) st:=(rfl)
theorem abk {d n x} (st:St):rW env (.Qu d n x) st=plain (.Qu d n x) st:=(rfl)
theorem abl {d n x} (st:St):op1 (den env) env (.Vk d n x) st=plain (.Vk d n x) st:=(rfl)
theorem abm {d n x} (st:St):op1 (den env) env (.Qu d n x) st=plain (.Qu d n x) st:=(rfl)
theorem adR {d o x} (st:St):rW env (.un d o x) st=plain (.un d o x) st:=(rfl)
theorem Xv {d k x} (st:St):rW env (.conv d k x) st=plain (.conv d k x) st:=(rfl)
theorem Xw {d n p} (st:St):rW env (.load d n p) st=plain (.load d n p) st:=(rfl)
theorem Xx {d p off} (st:St):rW env (.aX d p off) st=plain (.aX d p off) st:=(rfl)
theorem Xy {d sz x i} (st:St):rW env (.bC d sz x i) st=plain (.bC d sz x i) st:=(rfl)
theorem abn {d x} (st:St):rW env (.len d x) st=plain (.len d x) st:=(rfl)
theorem abo {d x i} (st:St):rW env (.ext d x i) st=plain (.ext d x i) st:=(rfl)
theorem TN {d z parts} (st:St):rW env (.build d z parts) st=plain (.build d z parts) st:=(rfl)
theorem adS {d mx x y} (st:St):rW env (.mn d mx x y) st=plain (.mn d mx x y) st:=(rfl)
theorem abp {d f caps} (st:St):rW env (.RH d f caps) st=plain (.RH d f caps) st:=(rfl)
theorem TP {d z} (st:St):rW env (.alloc d z) st=act (den env) env (.alloc d z) st:=(rfl)
theorem abq {d x} (st:St):rW env (.box d x) st=act (den env) env (.box d x) st:=(rfl)
theorem TQ {d n p x} (st:St):rW env (.store d n p x) st=act (den env) env (.store d n p x) st:=(rfl)
theorem Xz {d sz parts} (st:St):rW env (.jZ d sz parts) st=act (den env) env (.jZ d sz parts) st:=(rfl)
theorem XA {d z n c} (st:St):rW env (.make d z n c) st=act (den env) env (.make d z n c) st:=(rfl)
theorem abr {d sz x y} (st:St):rW env (.app d sz x y) st=act (den env) env (.app d sz x y) st:=(rfl)
theorem TS {d x args} (st:St):rW env (.yield d x args) st=act (den env) env (.yield d x args) st:=(rfl)
theorem abt {d x} (st:St):op1 (den env) env (.aj d x) st=plain (.aj d x) st:=(rfl)
theorem abu {d x} (st:St):op1 (den env) env (.aB d x) st=plain (.aB d x) st:=(rfl)
theorem abv {d o x y} (st:St):op1 (den env) env (.bin d o x y) st=plain (.bin d o x y) st:=(rfl)
theorem abw {d neg n x y} (st:St):op1 (den env) env (.Qs d neg n x y) st=plain (.Qs d neg n x y) st:=(rfl)
theorem adT {d o x} (st:St):op1 (den env) env (.un d o x) st=plain (.un d o x) st:=(rfl)
theorem XB {d k x} (st:St):op1 (den env) env (.conv d k x) st=plain (.conv d k x) st:=(rfl)
theorem XC {d n p} (st:St):op1 (den env) env (.load d n p) st=plain (.load d n p) st:=(rfl)
theorem XD {d p off} (st:St):op1 (den env) env (.aX d p off) st=plain (.aX d p off) st:=(rfl)
theorem XE {d sz x i} (st:St):op1 (den env) env (.bC d sz x i) st=plain (.bC d sz x i) st:=(rfl)
theorem abx {d x} (st:St):op1 (den env) env (.len d x) st=plain (.len d x) st:=(rfl)
theorem aby {d x i} (st:St):op1 (den env) env (.ext d x i) st=plain (.ext d x i) st:=(rfl)
theorem TU {d z parts} (st:St):op1 (den env) env (.build d z parts) st=plain (.build d z parts) st:=(rfl)
theorem adU {d mx x y} (st:St):op1 (den env) env (.mn d mx x y) st=plain (.mn d mx x y) st:=(rfl)
theorem abz {d f caps} (st:St):op1 (den env) env (.RH d f caps) st=plain (.RH d f caps) st:=(rfl)
theorem TV {d z} (st:St):op1 (den env) env (.alloc d z) st=act (den env) env (.alloc d z) st:=(rfl)
theorem abA {d x} (st:St):op1 (den env) env (.box d x) st=act (den env) env (.box d x) st:=(rfl)
theorem TW {d n p x} (st:St):op1 (den env) env (.store d n p x) st=act (den env) env (.store d n p x) st:=(rfl)
theorem XF {d sz parts} (st:St):op1 (den env) env (.jZ d sz parts) st=act (den env) env (.jZ d sz parts) st:=(rfl)
theorem XG {d z n c} (st:St):op1 (den env) env (.make d z n c) st=act (den env) env (.make d z n c) st:=(rfl)
theorem abB {d sz x y} (st:St):op1 (den env) env (.app d sz x y) st=act (den env) env (.app d sz x y) st:=(rfl)
theorem TY {d x args} (st:St):op1 (den env) env (.yield d x args) st=act (den env) env (.yield d x args) st:=(rfl)
theorem XH (d:Nat) (v:PV):AV.kill d (.pv v)=.pv v:=(rfl)
theorem Ua (d:Nat):AV.kill d .any=.any:=(rfl)
theorem Ub (d sz:Nat) (es:List PV):AV.kill d (.row sz es)=.row sz es:=(rfl)
theorem Pn (d o j:Nat):AV.kill d (.aQ o j)=.aQ o j:=(rfl)
theorem XI (d f:Nat) (l:List AV):AV.kill d (.fn f l)=.fn f l:=(rfl)
theorem Uc (d s:Nat) (l:List PV):AV.kill d (.DN s l)=.DN s l:=(rfl)
theorem Ud (d:Nat) (k:Bool) (l:List AV):AV.kill d (.jY k l)=.jY k l:=(rfl)
theorem Ue (d:Nat):AV.kill d .oQ=.oQ:=(rfl)
theorem Po (d t off len:Nat):AV.kill d (.ref (.slot t) off len)=dV (decide (t=d)) .any (.ref (.slot t) off len):=by
 by_cases h:t=d<;>simp [AV.kill,AV.roots,h,dV]
theorem Pq (d o j off len:Nat):AV.kill d (.ref (.cell o j) off len)=.ref (.cell o j) off len:=(rfl)
theorem Pv (d t i j:Nat):AV.kill d (.ny (.slot t) i j)=dV (decide (t=d)) .any (.ny (.slot t) i j):=by
 by_cases h:t=d<;>simp [AV.kill,AV.roots,h,dV]
theorem Px (d o q i j:Nat):AV.kill d (.ny (.cell o q) i j)=.ny (.cell o q) i j:=(rfl)
theorem XJ (d:Nat) (v:PV):AV.dG d (.pv v)=.pv v:=(rfl)
theorem Uf (d:Nat):AV.dG d .any=.any:=(rfl)
theorem Ug (d sz:Nat) (es:List PV):AV.dG d (.row sz es)=.row sz es:=(rfl)
theorem Py (d o j:Nat):AV.dG d (.aQ o j)=.aQ o j:=(rfl)
theorem XK (d f:Nat) (l:List AV):AV.dG d (.fn f l)=.fn f l:=(rfl)
theorem Uh (d s:Nat) (l:List PV):AV.dG d (.DN s l)=.DN s l:=(rfl)
theorem Ui (d:Nat) (k:Bool) (l:List AV):AV.dG d (.jY k l)=.jY k l:=(rfl)
theorem Uj (d:Nat):AV.dG d .oQ=.oQ:=(rfl)
theorem Pz (d t j off len:Nat):AV.dG d (.ref (.cell t j) off len)=dV (decide (t=d)) .any (.ref (.cell t j) off len):=by
 by_cases h:t=d<;>simp [AV.dG,AV.uz,h,dV]
theorem PD (d t off len:Nat):AV.dG d (.ref (.slot t) off len)=.ref (.slot t) off len:=(rfl)
theorem PE (d t q i j:Nat):AV.dG d (.ny (.cell t q) i j)=dV (decide (t=d)) .any (.ny (.cell t q) i j):=by
 by_cases h:t=d<;>simp [AV.dG,AV.uz,h,dV]
theorem PG (d t i j:Nat):AV.dG d (.ny (.slot t) i j)=.ny (.slot t) i j:=(rfl)
theorem XL (d y:Nat) (v:PV):AV.iE d y (.pv v)=.pv v:=(rfl)
theorem Uk (d y:Nat):AV.iE d y .any=.any:=(rfl)
theorem Ul (d y sz:Nat) (es:List PV):AV.iE d y (.row sz es)=.row sz es:=(rfl)
theorem PI (d y o j:Nat):AV.iE d y (.aQ o j)=.aQ o j:=(rfl)
theorem XM (d y f:Nat) (l:List AV):AV.iE d y (.fn f l)=.fn f l:=(rfl)
theorem Um (d y s:Nat) (l:List PV):AV.iE d y (.DN s l)=.DN s l:=(rfl)
theorem Un (d y:Nat) (k:Bool) (l:List AV):AV.iE d y (.jY k l)=.jY k l:=(rfl)
theorem Uo (d y:Nat):AV.iE d y .oQ=.oQ:=(rfl)
theorem PK (d y t j off len:Nat):AV.iE d y (.ref (.cell t j) off len)=dV (decide (t=d)) (dV (decide (j=y)) .any (.ref (.cell t j) off len)) (.ref (.cell t j) off len):=by
 by_cases h:t=d<;>by_cases h2:j=y<;>simp [AV.iE,AV.zY,h,h2,dV]
theorem PN (d y t off len:Nat):AV.iE d y (.ref (.slot t) off len)=.ref (.slot t) off len:=(rfl)
theorem PO (d y t q i j:Nat):AV.iE d y (.ny (.cell t q) i j)=dV (decide (t=d)) (dV (decide (q=y)) .any (.ny (.cell t q) i j)) (.ny (.cell t q) i j):=by
 by_cases h:t=d<;>by_cases h2:q=y<;>simp [AV.iE,AV.zY,h,h2,dV]
theorem PS (d y t i j:Nat):AV.iE d y (.ny (.slot t) i j)=.ny (.slot t) i j:=(rfl)
theorem H7 {γ δ:Type} (f:γ→δ) (l:List γ):(l.map f).take l.length=l.map f:=List.take_of_length_le (by simp)
theorem XO (k:IntKind) (n:Int):(PV.int k n).scalar=true:=(rfl)
theorem Ur (b:Bool):(PV.bool b).scalar=true:=(rfl)
theorem XP (b:ByteArray):(PV.str b).scalar=true:=(rfl)
theorem Us (sz:Nat) (es:List PV):(PV.list sz es).scalar=false:=(rfl)
theorem Ut (f:Nat) (es:List PV):(PV.func f es).scalar=false:=(rfl)
theorem Uu (k:IntKind) (n:Int):(PV.int k n).cells=[.int k n]:=(rfl)
theorem PU (b:Bool):(PV.bool b).cells=[.bool b]:=(rfl)
theorem Uw (b:ByteArray):(PV.str b).cells=[.str b]:=(rfl)
theorem PW (sz:Nat) (es:List PV):(PV.list sz es).cells=[.list sz es]:=(rfl)
theorem cells_func (f:Nat) (es:List PV):(PV.func f es).cells=[.func f es]:=(rfl)
theorem Ux (cs:List PV):(PV.agg cs).cells=cs:=(rfl)
theorem LX (c:PV) (cs:List PV):part (c :: cs) 0 none=some c:=(rfl)
theorem E5 (c:PV) (cs:List PV) (n:Nat) (m:Option Nat):part (c :: cs) (n+1) m=part cs n m:=by
 cases m with
 |none=>rfl
 |some m =>
  simp only [part,List.length_cons,List.drop_succ_cons]
  by_cases h:n+m≤cs.length
  ·rw [if_pos h,if_pos (by omega)]
  ·rw [if_neg h,if_neg (by omega)]
theorem E8 (c:PV) (cs:List PV) (m:Nat):part (c :: cs) 0 (some m)=if m≤(c :: cs).length then some (.agg ((c :: cs).take m)) else none:=by
 simp only [part,Nat.zero_add,List.drop_zero]
theorem bT {n:Int} (h:-9223372036854775808≤n∧n≤9223372036854775807):IntKind.i64.wrap n=n:=Go.IntWalk.i64_in n h
theorem bD {i n:Nat} (h:i<n) (hn:n≤lim):IntKind.i64.wrap ((i:Int)+1)=((i+1:Nat):Int):=by
 unfold lim at hn
 rw [Go.IntWalk.i64_in _ (by omega)]
 omega
theorem ah {k:IntKind} {i n:Nat} (h:i<n):index (.int k (i:Int)) n=some i:=by
 simp only [index]
 rw [if_pos (by omega)]
 simp
end
end Go.Proofs.YtaaokejjmdbfaaaDoor

namespace Go.Proofs
open Go.Shelf
def Tryd.tz_ren:Go.Shelf.Ren:=⟨fun|29=>111|n=>n,fun|22=>133|3=>3|4=>4|25=>160|54=>167|0=>0|5=>5|n=>n,fun|1=>0|n=>n⟩
theorem Tryd.tz:Go.Proofs.Lays7.n29 Tryd.prog Tryd.tz_ren:={
 mixed:=by kernel_rfl
 f29:=Tryd.func111.trans (congrArg some (by kernel_rfl))
 t0:=Tryd.underlying0
 a0:=Tryd.isAgg0
 z0:=Tryd.sizeOf0
 v0:=Tryd.zeroValue0
 i0:=by kernel_rfl
 t3:=Tryd.underlying3
 a3:=Tryd.isAgg3
 z3:=Tryd.sizeOf3
 v3:=Tryd.zeroValue3
 i3:=by kernel_rfl
 t4:=Tryd.underlying4
 a4:=Tryd.isAgg4
 z4:=Tryd.sizeOf4
 v4:=Tryd.zeroValue4
 i4:=by kernel_rfl
 t5:=Tryd.underlying5
 a5:=Tryd.isAgg5
 z5:=Tryd.sizeOf5
 v5:=Tryd.zeroValue5
 i5:=by kernel_rfl
 t22:=Tryd.underlying133
 a22:=Tryd.isAgg133
 z22:=Tryd.sizeOf133
 v22:=Tryd.zeroValue133
 i22:=by kernel_rfl
 t25:=Tryd.underlying160
 a25:=Tryd.isAgg160
 z25:=Tryd.sizeOf160
 v25:=Tryd.zeroValue160
 i25:=by kernel_rfl
 t54:=Tryd.underlying167
 a54:=Tryd.isAgg167
 z54:=Tryd.sizeOf167
 g1:=by kernel_rfl }
end Go.Proofs

namespace Go.Proofs.YtaaokejjmdbfaaaDoor
open Go.RowKit Go.Shelf
def tzX:List PV→Option (List l9)
 |[.int .u64 n]=>if 0≤n∧n<18446744073709551616 then some [(.int .i64 (Lib.ctz 64 n.toNat:Nat),false)] else none
 |_=>none
theorem adV {T:Tags} {w:World} (h:jJ T w):TabAt 0 Lib.deBruijn64tab w:=fun j hj=>by
 have hp:=h _ (List.mem_singleton.2 rfl)
 obtain ⟨b,off,e1,_,_,h3⟩:=hp.sS
 obtain ⟨eb,eo⟩:0=b∧0=off+0:=by
  injection e1 with e1
  injection e1 with e1
  injection e1 with e2 e3
  exact ⟨e2,e3⟩
 have eo:off=0:=by omega
 subst eb;subst eo
 obtain ⟨u,c1,_,c2⟩:=h3 j (PV.int .u8 ((Lib.deBruijn64tab[j]:Nat):Int)) (by simp [List.getElem?_eq_getElem hj])
 rw [c2.bV] at c1
 rw [show Lib.deBruijn64tab.getD j 0=Lib.deBruijn64tab[j] by simp [List.getD_eq_getElem?_getD,List.getElem?_eq_getElem hj]]
 simpa using c1
theorem agn:∀ args rs,tzX args=some rs→callable Tryd.prog 111=true∧oI Tryd.prog 111 args rs:=fun args rs h=>by
 unfold tzX at h
 split at h
 case h_2=>cases h
 rename_i n
 split at h
 case isFalse=>cases h
 rename_i hn
 cases h
 refine ⟨by kernel_rfl,fun T0 w vs h1 h2 h3 h4 hG=>?_⟩
 match vs,h3 with
 |[v],_ =>
  have hv:=(h4 0 _ v rfl rfl).bV
  subst hv
  have hc:=Any7.bits_TrailingZeros64 Tryd.tz n.toNat (by omega) w (fun _=>adV hG)
  rw [Int.toNat_of_nonneg hn.1] at hc
  refine Calls.mono hc ?_
  rintro e w' ⟨rfl,rfl⟩
  refine ⟨_,T0,rfl,Below.refl _ _,fun _ _=>rfl,h2,#[_],rfl,rfl,fun i r u hr hu=>?_⟩
  match i with
  |0=>cases hr;cases hu;exact .int _ _
  |i+1=>simp at hr
end Go.Proofs.YtaaokejjmdbfaaaDoor

namespace Go.Proofs.YtaaokejjmdbfaaaDoor
def fn6:jv:=⟨3,75,[.tmp 6],(.seq (.ops [.aB 6 (.c (.bool false))]) (.seq (.seq (.ops [.aj 17 (.t 0),.call 18 11 [(.t 17)],.un 19 .not (.t 18)]) (.cond (.t 19) (.seq (.ops [.call 20 12 [],.aB 6 (.t 20)]) .ret) .skip)) (.seq (.ops [.aj 22 (.t 0),.aj 23 (.t 1),.aj 24 (.t 2),.call 25 22 [(.t 22),(.t 23),(.t 24)],.aj 21 (.t 25),.ext 26 (.t 21) 0,.ext 27 (.t 21) 1,.aB 7 (.t 26),.aB 8 (.t 27)]) (.seq (.ops [.aj 29 (.t 0),.aj 30 (.t 1),.aj 31 (.t 2),.call 32 23 [(.t 29),(.t 30),(.t 31)],.aj 28 (.t 32),.ext 33 (.t 28) 0,.ext 34 (.t 28) 1,.aB 9 (.t 33),.aB 10 (.t 34)]) (.seq (.ops [.aj 36 (.t 0),.aj 37 (.t 1),.call 38 24 [(.t 36),(.t 37)],.aj 35 (.t 38),.ext 39 (.t 35) 0,.ext 40 (.t 35) 1,.ext 41 (.t 35) 2,.aB 11 (.t 39),.aB 12 (.t 40),.aB 13 (.t 41)]) (.seq (.ops [.aj 43 (.t 0),.aj 44 (.t 1),.call 45 25 [(.t 43),(.t 44)],.aj 42 (.t 45),.ext 46 (.t 42) 0,.ext 47 (.t 42) 1,.ext 48 (.t 42) 2,.aB 14 (.t 46),.aB 15 (.t 47),.aB 16 (.t 48)]) (.seq (.ops [.aj 49 (.t 7),.aj 50 (.t 9),.call 51 26 [(.t 49),(.t 50)],.aj 52 (.t 51),.grd 52 true (.aj 53 (.t 8)),.grd 52 true (.aj 54 (.t 10)),.grd 52 true (.bin 55 .eql (.t 53) (.t 54)),.pick 56 (.t 52) (.t 55) (.c (.bool false)),.aj 57 (.t 56),.grd 57 true (.aj 58 (.t 11)),.grd 57 true (.aj 59 (.t 14)),.grd 57 true (.call 60 27 [(.t 58),(.t 59)]),.pick 61 (.t 57) (.t 60) (.c (.bool false)),.aj 62 (.t 61),.grd 62 true (.aj 63 (.t 12)),.grd 62 true (.aj 64 (.t 15)),.grd 62 true (.bin 65 .eql (.t 63) (.t 64)),.pick 66 (.t 62) (.t 65) (.c (.bool false)),.aj 67 (.t 66),.grd 67 true (.aj 68 (.t 13)),.grd 67 true (.aj 69 (.t 16)),.grd 67 true (.bin 70 .eql (.t 68) (.t 69)),.pick 71 (.t 67) (.t 70) (.c (.bool false)),.aj 72 (.t 71),.grd 72 true (.call 73 12 []),.pick 74 (.t 72) (.t 73) (.c (.bool false)),.aB 6 (.t 74)]) .ret)))))))⟩
def rH:ak:=(.seq (.seq (.ops [.aj 5 (.t 3),.aj 6 (.t 0),.len 7 (.t 6),.bin 8 .lss (.t 5) (.t 7),.aj 9 (.t 8),.grd 9 true (.aj 10 (.t 3)),.grd 9 true (.bin 11 .lss (.t 10) (.c (.int .i64 8))),.pick 12 (.t 9) (.t 11) (.c (.bool false))]) (.cond (.t 12) .skip (.exit 0))) (.seq (.block 1 (.seq (.ops [.aj 15 (.t 0),.aj 16 (.t 3),.bC 17 4 (.t 15) (.t 16),.load 18 (some 4) (.t 17),.alloc 4 [(.int .i64 0),(.list 0 []),(.list 0 []),(.list 0 [])],.store none 4 (.t 4) (.t 18)]) (.seq (.ops [.aX 19 (.t 4) 1,.load 20 none (.t 19),.len 21 (.t 20),.bin 22 .gtr (.t 21) (.c (.int .i64 20)),.aj 23 (.t 22),.grd 23 false (.aX 24 (.t 4) 3),.grd 23 false (.load 25 none (.t 24)),.grd 23 false (.call 26 41 [(.t 25)]),.grd 23 false (.un 27 .not (.t 26)),.pick 28 (.t 23) (.c (.bool true)) (.t 27),.aj 29 (.t 28),.grd 29 false (.aX 30 (.t 4) 2),.grd 29 false (.load 31 none (.t 30)),.grd 29 false (.len 32 (.t 31)),.grd 29 false (.bin 33 .gtr (.t 32) (.c (.int .i64 9))),.pick 34 (.t 29) (.c (.bool true)) (.t 33)]) (.cond (.t 34) (.seq (.ops [.aB 2 (.c (.bool false))]) .ret) .skip)))) (.ops [.aj 13 (.t 3),.bin 14 .add (.t 13) (.c (.int .i64 1)),.aB 3 (.t 14)])))
def H8:ak :=
(.clean [0,3] [0,2] (.block 0 (.loop [0,3] rH)))
def XQ:jv:=⟨1,38,[.tmp 2],(.seq (.ops [.aB 2 (.c (.bool false))]) (.seq (.seq (.ops [.aB 3 (.c (.int .i64 0))])
  H8) (.seq (.ops [.aj 35 (.t 0),.len 36 (.t 35),.bin 37 .leq (.t 36) (.c (.int .i64 6)),.aB 2 (.t 37)]) .ret)))⟩
def adW:jv:=⟨0,123,[.tmp 0],(.seq (.ops [.aB 0 (.c (.bool false))]) (.seq (.ops [.build 14 [(.int .u8 0),(.int .u8 0),(.int .u8 0),(.int .u8 0)] [(0,1,(.c (.int .u8 1))),(1,1,(.c (.int .u8 5))),(2,1,(.c (.int .u8 0))),(3,1,(.c (.int .u8 0)))],.jZ 15 1 [(.c (.int .i64 0)),(.c (.int .i64 1))],.call 16 42 [(.t 14),(.t 15)],.build 17 [(.int .u8 0),(.int .u8 0),(.int .u8 0),(.int .u8 0)] [(0,1,(.c (.int .u8 0))),(1,1,(.c (.int .u8 5))),(2,1,(.c (.int .u8 6))),(3,1,(.c (.int .u8 0)))],.jZ 18 1 [(.c (.int .i64 1)),(.c (.int .i64 2))],.call 19 42 [(.t 17),(.t 18)],.alloc 1 [(.int .i64 0),(.list 0 []),(.list 0 []),(.list 0 [])],.alloc 2 [(.int .i64 0),(.list 0 []),(.list 0 []),(.list 0 [])],.store none 4 (.t 1) (.t 16),.store none 4 (.t 2) (.t 19)]) (.seq (.ops [.build 20 [(.int .i64 0),(.int .i64 0),(.int .i64 0)] [(0,1,(.c (.int .i64 1))),(1,1,(.c (.int .i64 1))),(2,1,(.c (.int .i64 5)))],.build 21 [(.int .i64 0),(.int .i64 0),(.int .i64 0)] [(0,1,(.c (.int .i64 3))),(1,1,(.c (.int .i64 6))),(2,1,(.c (.int .i64 9)))],.jZ 22 3 [(.t 20),(.t 21)],.aX 23 (.t 1) 1,.store none 1 (.t 23) (.t 22)]) (.seq (.ops [.build 24 [(.int .i64 0),(.int .i64 0),(.int .i64 0)] [(0,1,(.c (.int .i64 1))),(1,1,(.c (.int .i64 1))),(2,1,(.c (.int .i64 7)))],.jZ 25 3 [(.t 24)],.aX 26 (.t 2) 1,.store none 1 (.t 26) (.t 25)]) (.seq (.ops [.aX 28 (.t 1) 1,.load 29 none (.t 28),.aX 30 (.t 2) 1,.load 31 none (.t 30),.call 32 18 [(.t 29),(.t 31)],.aj 27 (.t 32),.ext 33 (.t 27) 0,.ext 34 (.t 27) 1,.aB 3 (.t 33),.aB 4 (.t 34)]) (.seq (.drs [] [1,2,3,4,5,6] [.load 36 (some 4) (.t 2),.load 37 (some 4) (.t 1),.jZ 38 4 [(.t 36),(.t 37)],.make 39 (.bool false) (.c (.int .i64 2)) (.c (.int .i64 2)),.call 40 20 [(.t 38),(.t 39)],.aj 35 (.t 40),.ext 41 (.t 35) 0,.ext 42 (.t 35) 1,.aB 5 (.t 41),.aB 6 (.t 42)]
    [⟨[([0,1],2),([],3),([],4)],none,[5,6,7,8,9],[0,1,2,3,4,5,6,7,8,9],false⟩,⟨[([0,1],3),([],2),([],4)],none,[5,6,7,8,9],[0,1,3,2,4,5,6,7,8,9],false⟩]) (.seq (.ops [.load 44 (some 4) (.t 1),.load 45 (some 4) (.t 2),.call 46 13 [(.t 44),(.t 45)],.aj 43 (.t 46),.ext 47 (.t 43) 0,.ext 48 (.t 43) 1,.aB 7 (.t 47),.aB 8 (.t 48)]) (.seq (.ops [.load 50 (some 4) (.t 1),.load 51 (some 4) (.t 2),.jZ 52 4 [(.t 50),(.t 51)],.call 53 22 [(.t 52),(.c (.int .i64 0)),(.c (.int .i64 1))],.aj 49 (.t 53),.ext 54 (.t 49) 0,.ext 55 (.t 49) 1,.aB 9 (.t 54),.aB 10 (.t 55)]) (.seq (.ops [.load 57 (some 4) (.t 1),.load 58 (some 4) (.t 2),.jZ 59 4 [(.t 57),(.t 58)],.call 60 24 [(.t 59),(.c (.int .i64 1))],.aj 56 (.t 60),.ext 61 (.t 56) 0,.ext 62 (.t 56) 1,.ext 63 (.t 56) 2,.aB 11 (.t 61),.aB 12 (.t 62),.aB 13 (.t 63)]) (.seq (.seq (.ops [.aj 64 (.t 3),.bin 65 .neq (.t 64) (.c (.int .i64 5)),.aj 66 (.t 65),.grd 66 false (.aj 67 (.t 4)),.grd 66 false (.bin 68 .neq (.t 67) (.c (.int .i64 1))),.pick 69 (.t 66) (.c (.bool true)) (.t 68),.aj 70 (.t 69),.grd 70 false (.aj 71 (.t 6)),.grd 70 false (.bin 72 .neq (.t 71) (.c (.int .i64 0))),.pick 73 (.t 70) (.c (.bool true)) (.t 72),.aj 74 (.t 73),.grd 74 false (.aj 75 (.t 5)),.grd 74 false (.bin 76 .neq (.t 75) (.c (.int .i64 1))),.pick 77 (.t 74) (.c (.bool true)) (.t 76),.aj 78 (.t 77),.grd 78 false (.aj 79 (.t 8)),.grd 78 false (.bin 80 .neq (.t 79) (.c (.int .i64 0))),.pick 81 (.t 78) (.c (.bool true)) (.t 80),.aj 82 (.t 81),.grd 82 false (.aj 83 (.t 7)),.grd 82 false (.len 84 (.t 83)),.grd 82 false (.bin 85 .neq (.t 84) (.c (.int .i64 1))),.pick 86 (.t 82) (.c (.bool true)) (.t 85),.aj 87 (.t 86),.grd 87 false (.aj 88 (.t 7)),.grd 87 false (.bC 89 1 (.t 88) (.c (.int .i64 0))),.grd 87 false (.load 90 none (.t 89)),.grd 87 false (.build 91 [(.int .i64 0),(.int .i64 0)] [(0,1,(.c (.int .i64 0))),(1,1,(.c (.int .i64 3)))]),.grd 87 false (.jZ 92 2 [(.t 91)]),.grd 87 false (.call 93 43 [(.t 90),(.t 92)]),.grd 87 false (.un 94 .not (.t 93)),.pick 95 (.t 87) (.c (.bool true)) (.t 94),.aj 96 (.t 95),.grd 96 false (.aj 97 (.t 13)),.grd 96 false (.bin 98 .neq (.t 97) (.c (.int .i64 0))),.pick 99 (.t 96) (.c (.bool true)) (.t 98),.aj 100 (.t 99),.grd 100 false (.aj 101 (.t 11)),.grd 100 false (.jZ 102 1 [(.c (.int .i64 1)),(.c (.int .i64 (-1)))]),.grd 100 false (.call 103 27 [(.t 101),(.t 102)]),.grd 100 false (.un 104 .not (.t 103)),.pick 105 (.t 100) (.c (.bool true)) (.t 104),.aj 106 (.t 105),.grd 106 false (.aj 107 (.t 12)),.grd 106 false (.bin 108 .neq (.t 107) (.c (.int .i64 3))),.pick 109 (.t 106) (.c (.bool true)) (.t 108)]) (.cond (.t 109) (.seq (.ops [.aB 0 (.c (.bool false))]) .ret) .skip)) (.seq (.ops [.aj 110 (.t 10),.bin 111 .eql (.t 110) (.c (.int .i64 0)),.aj 112 (.t 111),.grd 112 true (.aj 113 (.t 9)),.grd 112 true (.build 114 [(.int .u8 0),(.int .u8 0),(.int .u8 0),(.int .u8 0),(.int .u8 0),(.int .u8 0),(.int .u8 0),(.int .u8 0)] [(0,1,(.c (.int .u8 1)))]),.grd 112 true (.jZ 115 8 [(.t 114)]),.grd 112 true (.build 116 [(.int .i64 0),(.int .i64 0),(.list 0 [])] [(1,1,(.c (.int .i64 0))),(2,1,(.t 115))]),.grd 112 true (.build 117 [(.int .u8 0),(.int .u8 0),(.int .u8 0),(.int .u8 0),(.int .u8 0),(.int .u8 0),(.int .u8 0),(.int .u8 0)] []),.grd 112 true (.jZ 118 8 [(.t 117)]),.grd 112 true (.build 119 [(.int .i64 0),(.int .i64 0),(.list 0 [])] [(1,1,(.c (.int .i64 2))),(2,1,(.t 118))]),.grd 112 true (.jZ 120 3 [(.t 116),(.t 119)]),.grd 112 true (.call 121 26 [(.t 113),(.t 120)]),.pick 122 (.t 112) (.t 121) (.c (.bool false)),.aB 0 (.t 122)]) .ret)))))))))))⟩
def abC:ak:=(.seq (.ops [.bin 14 .lss (.t 13) (.t 12)]) (.seq (.cond (.t 14) .skip (.exit 0)) (.seq (.block 1 (.seq (.ops [.bC 15 4 (.t 11) (.t 13),.load 16 (some 4) (.t 15),.alloc 7 [(.int .i64 0),(.list 0 []),(.list 0 []),(.list 0 [])],.store none 4 (.t 7) (.t 16)]) (.seq (.ops [.load 17 (some 4) (.t 7),.call 18 15 [(.t 17)],.aB 8 (.t 18)]) (.seq (.ops [.aj 19 (.t 8),.bin 20 .neq (.t 19) (.c (.int .i64 0))]) (.cond (.t 20) (.seq (.ops [.aj 21 (.t 8),.aB 4 (.nil 1),.aB 5 (.t 21)]) .ret) .skip))))) (.ops [.bin 22 .add (.t 13) (.c (.int .i64 1)),.aj 13 (.t 22)]))))
def abD:ak :=
(.clean [2,3,11,12,13] [2,3,4,5] (.block 0 (.loop [2,3,11,12,13] abC)))
def adX:jv:=⟨2,32,[.tmp 4,.tmp 5],(.seq (.ops [.box 2 (.t 0),.box 3 (.t 1),.aB 4 (.nil 1),.aB 5 (.c (.int .i64 0))]) (.seq (.seq (.ops [.load 9 (some 4) (.t 2),.load 10 (some 4) (.t 3),.jZ 11 4 [(.t 9),(.t 10)],.len 12 (.t 11),.aj 13 (.c (.int .i64 0))])
  abD) (.seq (.seq (.ops [.aX 23 (.t 2) 3,.load 24 none (.t 23),.aX 25 (.t 3) 3,.load 26 none (.t 25),.call 27 44 [(.t 24),(.t 26)],.un 28 .not (.t 27)]) (.cond (.t 28) (.seq (.ops [.aB 4 (.nil 1),.aB 5 (.c (.int .i64 22))]) .ret) .skip)) (.seq (.ops [.load 29 (some 4) (.t 2),.load 30 (some 4) (.t 3),.call 31 45 [(.t 29),(.t 30)],.aB 4 (.t 31),.aB 5 (.c (.int .i64 0))]) .ret))))⟩
def xR:ak:=(.seq (.ops [.bin 34 .lss (.t 33) (.t 32)]) (.seq (.cond (.t 34) .skip (.exit 1)) (.seq (.block 2 (.seq (.ops [.aj 35 (.t 33),.bC 36 2 (.t 31) (.t 33),.load 37 (some 2) (.t 36),.alloc 5 [(.int .i64 0),(.list 1 [])],.aB 4 (.t 35),.store none 2 (.t 5) (.t 37)]) (.seq (.seq (.ops [.load 38 (some 2) (.t 5),.call 39 51 [(.t 38)],.aB 6 (.t 39)]) (.seq (.ops [.aj 40 (.t 6),.bin 41 .neq (.t 40) (.c (.int .i64 0))]) (.cond (.t 41) (.seq (.ops [.aj 42 (.t 6),.aB 2 (.t 42)]) .ret) .skip))) (.seq (.vk [] [] none [0,1,2,3,4,5,6,7,8] [.aX 43 (.t 5) 0,.load 44 none (.t 43),.aX 45 (.t 1) 3,.load 46 none (.t 45),.aj 47 (.t 4),.bC 48 1 (.t 46) (.t 47),.load 49 none (.t 48),.len 50 (.t 49),.bin 51 .neq (.t 44) (.t 50)]) (.cond (.t 51) (.seq (.ops [.aB 2 (.c (.int .i64 22))]) .ret) .skip))))) (.ops [.bin 52 .add (.t 33) (.c (.int .i64 1)),.aj 33 (.t 52)]))))
def H9:ak :=
(.clean [1,31,32,33] [2] (.block 1 (.loop [1,31,32,33] xR)))
def Ia:jv:=⟨1,53,[.tmp 2],(.seq (.ops [.box 1 (.t 0),.aB 2 (.c (.int .i64 0))]) (.seq (.block 0 (.seq (.ops [.aX 8 (.t 1) 0,.load 9 none (.t 8),.call 10 48 [(.t 9),(.c (.int .i64 0))],.un 11 .not (.t 10),.aB 7 (.t 11)]) (.cond (.t 7) (.seq (.ops [.aB 2 (.c (.int .i64 2))]) .ret) (.seq (.ops [.aX 13 (.t 1) 1,.load 14 none (.t 13),.call 15 49 [(.t 14)],.un 16 .not (.t 15),.aB 12 (.t 16)]) (.cond (.t 12) (.seq (.ops [.aB 2 (.c (.int .i64 3))]) .ret) .skip))))) (.seq (.seq (.ops [.aX 17 (.t 1) 3,.load 18 none (.t 17),.call 19 50 [(.t 18)],.aB 3 (.t 19)]) (.seq (.ops [.aj 20 (.t 3),.bin 21 .neq (.t 20) (.c (.int .i64 0))]) (.cond (.t 21) (.seq (.ops [.aj 22 (.t 3),.aB 2 (.t 22)]) .ret) .skip))) (.seq (.seq (.ops [.aX 23 (.t 1) 2,.load 24 none (.t 23),.len 25 (.t 24),.aX 26 (.t 1) 3,.load 27 none (.t 26),.len 28 (.t 27),.bin 29 .neq (.t 25) (.t 28)]) (.cond (.t 29) (.seq (.ops [.aB 2 (.c (.int .i64 6))]) .ret) .skip)) (.seq (.seq (.ops [.aX 30 (.t 1) 2,.load 31 none (.t 30),.len 32 (.t 31),.aj 33 (.c (.int .i64 0))])
    H9) (.seq (.ops [.aB 2 (.c (.int .i64 0))]) .ret))))))⟩
def xU:ak:=(.seq (.seq (.ops [.aj 31 (.t 4),.aX 32 (.t 1) 2,.load 33 none (.t 32),.len 34 (.t 33),.bin 35 .lss (.t 31) (.t 34)]) (.cond (.t 35) .skip (.exit 0))) (.seq (.block 1 (.seq (.seq (.ops [.aX 38 (.t 1) 2,.load 39 none (.t 38),.aj 40 (.t 4),.bC 41 2 (.t 39) (.t 40),.load 42 (some 2) (.t 41),.call 43 53 [(.t 42)],.aB 5 (.t 43)]) (.seq (.ops [.aj 44 (.t 5),.bin 45 .neq (.t 44) (.c (.int .i64 0))]) (.cond (.t 45) (.seq (.ops [.aj 46 (.t 5),.aB 2 (.t 46)]) .ret) .skip))) (.seq (.vk [] [] none [0,1,2,3,4,5,6,7,8,9,10,11,12] [.aX 47 (.t 1) 2,.load 48 none (.t 47),.aj 49 (.t 4),.bC 50 2 (.t 48) (.t 49),.aX 51 (.t 50) 0,.load 52 none (.t 51),.aX 53 (.t 1) 3,.load 54 none (.t 53),.aj 55 (.t 4),.bC 56 1 (.t 54) (.t 55),.load 57 none (.t 56),.len 58 (.t 57),.bin 59 .neq (.t 52) (.t 58)]) (.cond (.t 59) (.seq (.ops [.aB 2 (.c (.int .i64 22))]) .ret) .skip)))) (.ops [.aj 36 (.t 4),.bin 37 .add (.t 36) (.c (.int .i64 1)),.aB 4 (.t 37)])))
def Ib:ak :=
(.clean [1,4] [2] (.block 0 (.loop [1,4] xU)))
def Ed:jv:=⟨1,60,[.tmp 2],(.seq (.ops [.box 1 (.t 0),.aB 2 (.c (.int .i64 0))]) (.seq (.seq (.ops [.aX 6 (.t 1) 0,.load 7 none (.t 6),.bin 8 .lss (.t 7) (.c (.int .i64 0)),.aj 9 (.t 8),.grd 9 false (.aX 10 (.t 1) 0),.grd 9 false (.load 11 none (.t 10)),.grd 9 false (.bin 12 .gtr (.t 11) (.c (.int .i64 1073741824))),.pick 13 (.t 9) (.c (.bool true)) (.t 12)]) (.cond (.t 13) (.seq (.ops [.aB 2 (.c (.int .i64 2))]) .ret) .skip)) (.seq (.seq (.ops [.aX 14 (.t 1) 1,.load 15 none (.t 14),.call 16 29 [(.t 15)],.un 17 .not (.t 16)]) (.cond (.t 17) (.seq (.ops [.aB 2 (.c (.int .i64 3))]) .ret) .skip)) (.seq (.seq (.ops [.aX 18 (.t 1) 3,.load 19 none (.t 18),.call 20 52 [(.t 19)],.aB 3 (.t 20)]) (.seq (.ops [.aj 21 (.t 3),.bin 22 .neq (.t 21) (.c (.int .i64 0))]) (.cond (.t 22) (.seq (.ops [.aj 23 (.t 3),.aB 2 (.t 23)]) .ret) .skip))) (.seq (.seq (.ops [.aX 24 (.t 1) 2,.load 25 none (.t 24),.len 26 (.t 25),.aX 27 (.t 1) 3,.load 28 none (.t 27),.len 29 (.t 28),.bin 30 .neq (.t 26) (.t 29)]) (.cond (.t 30) (.seq (.ops [.aB 2 (.c (.int .i64 6))]) .ret) .skip)) (.seq (.seq (.ops [.aB 4 (.c (.int .i64 0))])
    Ib) (.seq (.ops [.aB 2 (.c (.int .i64 0))]) .ret)))))))⟩
def abE:ak:=(.seq (.seq (.vk [] [] none [0,1,2,3,4,5,6,7,8,9,10,11,12,13,14,15,16,17,18,19] [.aj 17 (.t 8),.aj 18 (.t 0),.len 19 (.t 18),.aj 20 (.t 1),.len 21 (.t 20),.mn 22 false (.t 19) (.t 21),.bin 23 .lss (.t 17) (.t 22),.aj 24 (.t 23),.grd 24 true (.aj 25 (.t 0)),.grd 24 true (.aj 26 (.t 8)),.grd 24 true (.bC 27 3 (.t 25) (.t 26)),.grd 24 true (.aX 28 (.t 27) 0),.grd 24 true (.load 29 none (.t 28)),.grd 24 true (.aj 30 (.t 1)),.grd 24 true (.aj 31 (.t 8)),.grd 24 true (.bC 32 3 (.t 30) (.t 31)),.grd 24 true (.aX 33 (.t 32) 0),.grd 24 true (.load 34 none (.t 33)),.grd 24 true (.bin 35 .eql (.t 29) (.t 34)),.pick 36 (.t 24) (.t 35) (.c (.bool false))]) (.cond (.t 36) .skip (.exit 0))) (.seq (.block 1 (.seq (.vk [] [] none [0,1,2,3,4,5,6,7,8,9,10,11,12,13,14,15,16,17] [.aj 39 (.t 0),.aj 40 (.t 8),.bC 41 3 (.t 39) (.t 40),.aX 42 (.t 41) 2,.load 43 none (.t 42),.aj 44 (.t 1),.aj 45 (.t 8),.bC 46 3 (.t 44) (.t 45),.aX 47 (.t 46) 2,.load 48 none (.t 47),.mn 49 false (.t 43) (.t 48),.aj 50 (.t 0),.aj 51 (.t 8),.bC 52 3 (.t 50) (.t 51),.aX 53 (.t 52) 0,.load 54 none (.t 53),.aB 6 (.t 49),.aB 7 (.t 54)]) (.seq (.vk [] [] none [0,1,2,3,4,5,6,7,8,9,10] [.aj 55 (.t 0),.aj 56 (.t 8),.bC 57 3 (.t 55) (.t 56),.aX 58 (.t 57) 2,.load 59 none (.t 58),.aj 60 (.t 1),.aj 61 (.t 8),.bC 62 3 (.t 60) (.t 61),.aX 63 (.t 62) 2,.load 64 none (.t 63),.bin 65 .neq (.t 59) (.t 64)]) (.cond (.t 65) (.exit 0) .skip)))) (.ops [.aj 37 (.t 8),.bin 38 .add (.t 37) (.c (.int .i64 1)),.aB 8 (.t 38)])))
def abG:ak :=
(.clean [0,1,6,7,8] [4,5,6,7] (.block 0 (.loop [0,1,6,7,8] abE)))
def adY:jv:=⟨2,68,[.tmp 4,.tmp 5],(.seq (.ops [.aB 4 (.c (.int .i64 0)),.aB 5 (.c (.int .i64 0))]) (.seq (.seq (.ops [.aj 9 (.t 0),.call 10 49 [(.t 9)],.un 11 .not (.t 10),.aj 12 (.t 11),.grd 12 false (.aj 13 (.t 1)),.grd 12 false (.call 14 49 [(.t 13)]),.grd 12 false (.un 15 .not (.t 14)),.pick 16 (.t 12) (.c (.bool true)) (.t 15)]) (.cond (.t 16) (.seq (.ops [.aB 4 (.c (.int .i64 0)),.aB 5 (.c (.int .i64 0))]) .ret) .skip)) (.seq (.ops [.aB 6 (.c (.int .i64 0)),.aB 7 (.c (.int .i64 0))]) (.seq (.seq (.ops [.aB 8 (.c (.int .i64 0))])
   abG) (.seq (.ops [.aj 66 (.t 6),.aj 67 (.t 7),.aB 4 (.t 66),.aB 5 (.t 67)]) .ret)))))⟩
def adZ:jv:=⟨2,24,[.tmp 4,.tmp 5],(.seq (.ops [.box 3 (.t 1),.aB 4 (.c (.int .i64 0)),.aB 5 (.c (.int .i64 0))]) (.seq (.seq (.ops [.aj 8 (.t 0),.call 9 56 [(.t 8)],.aB 6 (.t 9)]) (.seq (.ops [.aj 10 (.t 6),.bin 11 .neq (.t 10) (.c (.int .i64 0))]) (.cond (.t 11) (.seq (.ops [.aj 12 (.t 6),.aB 4 (.c (.int .i64 0)),.aB 5 (.t 12)]) .ret) .skip))) (.seq (.seq (.ops [.load 13 none (.t 3),.len 14 (.t 13),.aj 15 (.t 0),.len 16 (.t 15),.bin 17 .neq (.t 14) (.t 16)]) (.cond (.t 17) (.seq (.ops [.aB 4 (.c (.int .i64 0)),.aB 5 (.c (.int .i64 6))]) .ret) .skip)) (.seq (.ops [.aj 18 (.t 0),.RH 19 58 [(.t 3)],.call 20 57 [(.t 18),(.t 19),(.c (.func 59 []))],.aB 7 (.t 20)]) (.seq (.seq (.ops [.aj 21 (.t 7),.bin 22 .lss (.t 21) (.c (.int .i64 0))]) (.cond (.t 22) (.seq (.ops [.aB 4 (.c (.int .i64 0)),.aB 5 (.c (.int .i64 17))]) .ret) .skip)) (.seq (.ops [.aj 23 (.t 7),.aB 4 (.t 23),.aB 5 (.c (.int .i64 0))]) .ret))))))⟩
def Ic:ak:=(.seq (.ops [.bin 53 .lss (.t 52) (.t 51)]) (.seq (.cond (.t 53) .skip (.exit 2)) (.seq (.block 3 (.seq (.ops [.bC 54 2 (.t 50) (.t 52),.load 55 (some 2) (.t 54),.alloc 15 [(.int .i64 0),(.int .i64 0)],.store none 2 (.t 15) (.t 55)]) (.vk [] [([0,1,2,3,4,5,6,7,8,9,10,11,12],13)] (some ([],[],14,[])) [15] [.aj 56 (.t 11),.aj 57 (.t 12),.aX 58 (.t 9) 3,.load 59 none (.t 58),.aj 60 (.t 12),.bC 61 1 (.t 59) (.t 60),.load 62 none (.t 61),.aX 63 (.t 10) 3,.load 64 none (.t 63),.aj 65 (.t 12),.bC 66 1 (.t 64) (.t 65),.load 67 none (.t 66),.load 68 (some 2) (.t 15),.call 69 64 [(.t 57),(.t 62),(.t 67),(.t 68)],.app 70 3 (.t 56) (.t 69),.aB 11 (.t 70)]))) (.ops [.bin 71 .add (.t 52) (.c (.int .i64 1)),.aj 52 (.t 71)]))))
def Ie:ak :=
(.clean [9,10,11,12,13,43,44,45,49,50,51,52,70] [6,7,9,10,11,43,44,45,70] (.block 2 (.loop [9,10,11,12,13,43,44,45,49,50,51,52,70] Ic)))
def Ig:ak:=(.seq (.ops [.bin 46 .lss (.t 45) (.t 44)]) (.seq (.cond (.t 46) .skip (.exit 0)) (.seq (.block 1 (.seq (.ops [.aj 47 (.t 45),.bC 48 1 (.t 43) (.t 45),.load 49 none (.t 48),.aB 12 (.t 47),.aB 13 (.t 49)]) (.seq (.ops [.aj 50 (.t 13),.len 51 (.t 50),.aj 52 (.c (.int .i64 0))])
    Ie))) (.ops [.bin 72 .add (.t 45) (.c (.int .i64 1)),.aj 45 (.t 72)]))))
def Ih:ak :=
(.clean [9,10,11,43,44,45,70] [6,7,11] (.block 0 (.loop [9,10,11,43,44,45,70] Ig)))
def LY:jv:=⟨3,74,[.tmp 6,.tmp 7],(.seq (.ops [.aB 6 (.nil 3),.aB 7 (.c (.int .i64 0))]) (.seq (.seq (.ops [.aj 16 (.t 0),.call 17 56 [(.t 16)],.aB 8 (.t 17)]) (.seq (.ops [.aj 18 (.t 8),.bin 19 .neq (.t 18) (.c (.int .i64 0))]) (.cond (.t 19) (.seq (.ops [.aj 20 (.t 8),.aB 6 (.nil 3),.aB 7 (.t 20)]) .ret) .skip))) (.seq (.seq (.ops [.aj 21 (.t 1),.aj 22 (.t 2),.mn 23 false (.t 21) (.t 22),.bin 24 .lss (.t 23) (.c (.int .i64 0)),.aj 25 (.t 24),.grd 25 false (.aj 26 (.t 1)),.grd 25 false (.aj 27 (.t 2)),.grd 25 false (.mn 28 true (.t 26) (.t 27)),.grd 25 false (.aj 29 (.t 0)),.grd 25 false (.len 30 (.t 29)),.grd 25 false (.bin 31 .geq (.t 28) (.t 30)),.pick 32 (.t 25) (.c (.bool true)) (.t 31)]) (.cond (.t 32) (.seq (.ops [.aB 6 (.nil 3),.aB 7 (.c (.int .i64 7))]) .ret) .skip)) (.seq (.drs [(.t 39)] [9,10,70] [.aj 33 (.t 0),.aj 34 (.t 1),.bC 35 4 (.t 33) (.t 34),.load 36 (some 4) (.t 35),.aj 37 (.t 0),.aj 38 (.t 2),.bC 39 4 (.t 37) (.t 38),.Qu 40 (some 4) (.t 39),.alloc 9 [(.int .i64 0),(.list 0 []),(.list 0 []),(.list 0 [])],.alloc 10 [(.int .i64 0),(.list 0 []),(.list 0 []),(.list 0 [])],.store none 4 (.t 9) (.t 36),.store none 4 (.t 10) (.t 40)]
   [⟨[([0,1,2,3,4,5,6,7],8),([],9)],(some ([],[],10,[([],11)])),[],[0,1,2,3,4,5,6,7,8,9,10,11],false⟩,⟨[([0,1,2,3,4,5,6,7],9),([],8)],(some ([],[],10,[([],11)])),[],[0,1,2,3,4,5,6,7,9,8,10,11],true⟩]) (.seq (.ops [.aB 11 (.nil 3)]) (.seq (.seq (.ops [.load 41 (some 4) (.t 9),.load 42 (some 4) (.t 10),.call 43 45 [(.t 41),(.t 42)],.len 44 (.t 43),.aj 45 (.c (.int .i64 0))])
    Ih) (.seq (.ops [.aj 73 (.t 11),.aB 6 (.t 73),.aB 7 (.c (.int .i64 0))]) .ret)))))))⟩
def Ii:ak:=(.seq (.ops [.bin 41 .lss (.t 40) (.t 39)]) (.seq (.cond (.t 41) .skip (.exit 0)) (.seq (.block 1 (.seq (.lend 9 [0] [.aj 42 (.t 0),.aj 43 (.t 9),.call 44 68 [(.t 42),(.t 43)],.call 45 67 [(.t 44)],.call 46 66 [(.t 45),(.c (.func 69 []))],.alloc 11 [(.int .i64 0),(.int .i64 0),(.int .i64 0)],.store none 3 (.t 11) (.t 46)]) (.seq (.vk [(.t 11)] [] (some ([0,1,2,6,7,8],[3,4,5],9,[([10],11)])) [] [.aj 47 (.t 8),.aX 48 (.t 11) 1,.load 49 none (.t 48),.aX 53 (.t 11) 2,.load 54 none (.t 53),.bC 55 1 (.t 47) (.t 49),.aj 50 (.t 9),.aX 51 (.t 11) 1,.Qu 52 none (.t 51),.store none 1 (.t 55) (.t 54),.bC 56 1 (.t 50) (.t 52),.store none 1 (.t 56) (.c (.bool true))]) (.ops [.aj 57 (.t 10),.aX 58 (.t 11) 0,.load 59 none (.t 58),.bin 60 .add (.t 57) (.t 59),.aB 10 (.t 60)])))) (.ops [.bin 61 .add (.t 40) (.c (.int .i64 1)),.aj 40 (.t 61)]))))
def Ij:ak :=
(.clean [0,8,9,10,27,30,39,40] [4,5,6,8,10] (.block 0 (.loop [0,8,9,10,27,30,39,40] Ii)))
def LZ:jv:=⟨2,64,[.tmp 4,.tmp 5,.tmp 6],(.seq (.ops [.aB 4 (.nil 1),.aB 5 (.c (.int .i64 0)),.aB 6 (.c (.int .i64 0))]) (.seq (.seq (.ops [.aj 12 (.t 0),.call 13 56 [(.t 12)],.aB 7 (.t 13)]) (.seq (.ops [.aj 14 (.t 7),.bin 15 .neq (.t 14) (.c (.int .i64 0))]) (.cond (.t 15) (.seq (.ops [.aj 16 (.t 7),.aB 4 (.nil 1),.aB 5 (.c (.int .i64 0)),.aB 6 (.t 16)]) .ret) .skip))) (.seq (.seq (.ops [.aj 17 (.t 1),.bin 18 .lss (.t 17) (.c (.int .i64 0)),.aj 19 (.t 18),.grd 19 false (.aj 20 (.t 1)),.grd 19 false (.aj 21 (.t 0)),.grd 19 false (.len 22 (.t 21)),.grd 19 false (.bin 23 .geq (.t 20) (.t 22)),.pick 24 (.t 19) (.c (.bool true)) (.t 23)]) (.cond (.t 24) (.seq (.ops [.aB 4 (.nil 1),.aB 5 (.c (.int .i64 0)),.aB 6 (.c (.int .i64 7))]) .ret) .skip)) (.seq (.drs [] [0,1,8,9,27,30] [.aj 25 (.t 0),.len 26 (.t 25),.make 27 (.int .i64 0) (.t 26) (.t 26),.aj 28 (.t 0),.len 29 (.t 28),.make 30 (.bool false) (.t 29) (.t 29),.aB 8 (.t 27),.aB 9 (.t 30)]
   [⟨[([0,1,3,4],2),([6],5)],none,[7],[0,1,3,4,2,6,5,7],false⟩,⟨[([0,1,3,4],5),([],2)],none,[6,7],[0,1,3,4,5,2,6,7],false⟩]) (.seq (.ops [.aj 31 (.t 8),.aj 32 (.t 1),.aj 33 (.t 9),.aj 34 (.t 1),.bC 35 1 (.t 31) (.t 32),.store none 1 (.t 35) (.c (.int .i64 (-1))),.bC 36 1 (.t 33) (.t 34),.store none 1 (.t 36) (.c (.bool true))]) (.seq (.ops [.aB 10 (.c (.int .i64 0))]) (.seq (.seq (.ops [.aj 37 (.t 0),.len 38 (.t 37),.bin 39 .sub (.t 38) (.c (.int .i64 1)),.aj 40 (.c (.int .i64 0))])
     Ij) (.seq (.ops [.aj 62 (.t 8),.aj 63 (.t 10),.aB 4 (.t 62),.aB 5 (.t 63),.aB 6 (.c (.int .i64 0))]) .ret))))))))⟩
def rJ:ak:=(.seq (.seq (.ops [.aj 55 (.t 16),.aj 56 (.t 0),.len 57 (.t 56),.bin 58 .lss (.t 55) (.t 57)]) (.cond (.t 58) .skip (.exit 4))) (.seq (.block 5 (.seq (.seq (.ops [.aj 61 (.t 9),.aj 62 (.t 15),.bC 63 1 (.t 61) (.t 62),.load 64 none (.t 63),.aj 65 (.t 64),.grd 65 false (.aj 66 (.t 9)),.grd 65 false (.aj 67 (.t 16)),.grd 65 false (.bC 68 1 (.t 66) (.t 67)),.grd 65 false (.load 69 none (.t 68)),.grd 65 false (.un 70 .not (.t 69)),.pick 71 (.t 65) (.c (.bool true)) (.t 70)]) (.cond (.t 71) (.exit 5) .skip)) (.seq (.vk [] [([0,1,2,3,4,5,6,7],8)] none [9] [.aj 72 (.t 0),.aj 73 (.t 15),.bC 74 4 (.t 72) (.t 73),.load 75 (some 4) (.t 74),.aj 76 (.t 0),.aj 77 (.t 16),.bC 78 4 (.t 76) (.t 77),.load 79 (some 4) (.t 78),.call 80 34 [(.t 75),(.t 79)],.aB 17 (.t 80)]) (.seq (.ops [.aj 81 (.t 12),.bin 82 .lss (.t 81) (.c (.int .i64 0)),.aj 83 (.t 82),.grd 83 false (.aj 84 (.t 17)),.grd 83 false (.aj 85 (.t 14)),.grd 83 false (.bin 86 .lss (.t 84) (.t 85)),.pick 87 (.t 83) (.c (.bool true)) (.t 86)]) (.cond (.t 87) (.ops [.aj 88 (.t 15),.aj 89 (.t 16),.aj 90 (.t 17),.aB 12 (.t 88),.aB 13 (.t 89),.aB 14 (.t 90)]) .skip))))) (.ops [.aj 59 (.t 16),.bin 60 .add (.t 59) (.c (.int .i64 1)),.aB 16 (.t 60)])))
def Ik:ak :=
(.clean [0,8,9,10,11,12,13,14,15,16,33,36] [0,4,5,6,8,9,10,11,12,13,14,15,33,36] (.block 4 (.loop [0,8,9,10,11,12,13,14,15,16,33,36] rJ)))
def Il:ak:=(.seq (.seq (.ops [.aj 49 (.t 15),.aj 50 (.t 0),.len 51 (.t 50),.bin 52 .lss (.t 49) (.t 51)]) (.cond (.t 52) .skip (.exit 2))) (.seq (.block 3 (.seq (.ops [.aB 16 (.c (.int .i64 0))])
   Ik)) (.ops [.aj 53 (.t 15),.bin 54 .add (.t 53) (.c (.int .i64 1)),.aB 15 (.t 54)])))
def Io:ak :=
(.clean [0,8,9,10,11,12,13,14,15,33,36] [0,4,5,6,8,9,10,11,12,13,14,33,36] (.block 2 (.loop [0,8,9,10,11,12,13,14,15,33,36] Il)))
def Ip:ak:=(.seq (.seq (.ops [.aj 43 (.t 11),.aj 44 (.t 0),.len 45 (.t 44),.bin 46 .lss (.t 43) (.t 45)]) (.cond (.t 46) .skip (.exit 0))) (.seq (.block 1 (.seq (.ops [.aB 12 (.c (.int .i64 (-1))),.aB 13 (.c (.int .i64 (-1))),.aB 14 (.c (.int .i64 0))]) (.seq (.seq (.ops [.aB 15 (.c (.int .i64 0))])
    Io) (.seq (.ops [.aj 91 (.t 9),.aj 92 (.t 12),.aj 93 (.t 8),.aj 94 (.t 12),.aj 95 (.t 13),.bC 96 1 (.t 91) (.t 92),.store none 1 (.t 96) (.c (.bool true)),.bC 97 1 (.t 93) (.t 94),.store none 1 (.t 97) (.t 95)]) (.ops [.aj 98 (.t 10),.aj 99 (.t 14),.bin 100 .add (.t 98) (.t 99),.aB 10 (.t 100)]))))) (.ops [.aj 47 (.t 11),.bin 48 .add (.t 47) (.c (.int .i64 1)),.aB 11 (.t 48)])))
def Iq:ak :=
(.clean [0,8,9,10,11,33,36] [4,5,6,8,10] (.block 0 (.loop [0,8,9,10,11,33,36] Ip)))
def L6:jv:=⟨2,103,[.tmp 4,.tmp 5,.tmp 6],(.seq (.ops [.aB 4 (.nil 1),.aB 5 (.c (.int .i64 0)),.aB 6 (.c (.int .i64 0))]) (.seq (.seq (.ops [.aj 18 (.t 0),.call 19 62 [(.t 18)],.aB 7 (.t 19)]) (.seq (.ops [.aj 20 (.t 7),.bin 21 .neq (.t 20) (.c (.int .i64 0))]) (.cond (.t 21) (.seq (.ops [.aj 22 (.t 7),.aB 4 (.nil 1),.aB 5 (.c (.int .i64 0)),.aB 6 (.t 22)]) .ret) .skip))) (.seq (.seq (.ops [.aj 23 (.t 1),.bin 24 .lss (.t 23) (.c (.int .i64 0)),.aj 25 (.t 24),.grd 25 false (.aj 26 (.t 1)),.grd 25 false (.aj 27 (.t 0)),.grd 25 false (.len 28 (.t 27)),.grd 25 false (.bin 29 .geq (.t 26) (.t 28)),.pick 30 (.t 25) (.c (.bool true)) (.t 29)]) (.cond (.t 30) (.seq (.ops [.aB 4 (.nil 1),.aB 5 (.c (.int .i64 0)),.aB 6 (.c (.int .i64 7))]) .ret) .skip)) (.seq (.ops [.aj 31 (.t 0),.len 32 (.t 31),.make 33 (.int .i64 0) (.t 32) (.t 32),.aB 8 (.t 33)]) (.seq (.ops [.aj 34 (.t 0),.len 35 (.t 34),.make 36 (.bool false) (.t 35) (.t 35),.aB 9 (.t 36)]) (.seq (.ops [.aj 37 (.t 9),.aj 38 (.t 1),.aj 39 (.t 8),.aj 40 (.t 1),.bC 41 1 (.t 37) (.t 38),.store none 1 (.t 41) (.c (.bool true)),.bC 42 1 (.t 39) (.t 40),.store none 1 (.t 42) (.c (.int .i64 (-1)))]) (.seq (.ops [.aB 10 (.c (.int .i64 0))]) (.seq (.seq (.ops [.aB 11 (.c (.int .i64 1))])
     Iq) (.seq (.ops [.aj 101 (.t 8),.aj 102 (.t 10),.aB 4 (.t 101),.aB 5 (.t 102),.aB 6 (.c (.int .i64 0))]) .ret)))))))))⟩
def Ir:ak:=(.seq (.seq (.ops [.aj 11 (.t 5),.aj 12 (.t 0),.len 13 (.t 12),.bin 14 .lss (.t 11) (.t 13)]) (.cond (.t 14) .skip (.exit 0))) (.seq (.block 1 (.seq (.vk [] [([0,1,2,3,4,5,6,7,8,9,10,11,12,13,14,15,16,17,18,19,20,21,22,23,24,25,26,27,28,29,30,31,32,33,34],35)] none [36,37] [.aj 17 (.t 0),.aj 18 (.t 5),.bC 19 3 (.t 17) (.t 18),.aX 20 (.t 19) 0,.load 21 none (.t 20),.aj 22 (.t 1),.aj 23 (.t 5),.bC 24 3 (.t 22) (.t 23),.aX 25 (.t 24) 0,.load 26 none (.t 25),.bin 27 .neq (.t 21) (.t 26),.aj 28 (.t 27),.grd 28 false (.aj 29 (.t 0)),.grd 28 false (.aj 30 (.t 5)),.grd 28 false (.bC 31 3 (.t 29) (.t 30)),.grd 28 false (.aX 32 (.t 31) 1),.grd 28 false (.load 33 none (.t 32)),.grd 28 false (.aj 34 (.t 1)),.grd 28 false (.aj 35 (.t 5)),.grd 28 false (.bC 36 3 (.t 34) (.t 35)),.grd 28 false (.aX 37 (.t 36) 1),.grd 28 false (.load 38 none (.t 37)),.grd 28 false (.bin 39 .neq (.t 33) (.t 38)),.pick 40 (.t 28) (.c (.bool true)) (.t 39),.aj 41 (.t 40),.grd 41 false (.aj 42 (.t 0)),.grd 41 false (.aj 43 (.t 5)),.grd 41 false (.bC 44 3 (.t 42) (.t 43)),.grd 41 false (.aX 45 (.t 44) 2),.grd 41 false (.load 46 none (.t 45)),.grd 41 false (.aj 47 (.t 1)),.grd 41 false (.aj 48 (.t 5)),.grd 41 false (.bC 49 3 (.t 47) (.t 48)),.grd 41 false (.aX 50 (.t 49) 2),.grd 41 false (.load 51 none (.t 50)),.grd 41 false (.call 52 70 [(.t 46),(.t 51)]),.grd 41 false (.un 53 .not (.t 52)),.pick 54 (.t 41) (.c (.bool true)) (.t 53)]) (.cond (.t 54) (.seq (.ops [.aB 4 (.c (.bool false))]) .ret) .skip))) (.ops [.aj 15 (.t 5),.bin 16 .add (.t 15) (.c (.int .i64 1)),.aB 5 (.t 16)])))
def Iu:ak :=
(.clean [0,1,5] [4] (.block 0 (.loop [0,1,5] Ir)))
def XR:jv:=⟨2,55,[.tmp 4],(.seq (.ops [.aB 4 (.c (.bool false))]) (.seq (.seq (.ops [.aj 6 (.t 0),.len 7 (.t 6),.aj 8 (.t 1),.len 9 (.t 8),.bin 10 .neq (.t 7) (.t 9)]) (.cond (.t 10) (.seq (.ops [.aB 4 (.c (.bool false))]) .ret) .skip)) (.seq (.seq (.ops [.aB 5 (.c (.int .i64 0))])
   Iu) (.seq (.ops [.aB 4 (.c (.bool true))]) .ret))))⟩
def Iw:ak:=(.seq (.ops [.bin 14 .lss (.t 13) (.t 12)]) (.seq (.cond (.t 14) .skip (.exit 0)) (.seq (.block 1 (.seq (.ops [.aj 15 (.t 13),.aB 5 (.t 15)]) (.seq (.vk [] [] none [0,1,2,3,4,5,6,7,8] [.aj 16 (.t 0),.aj 17 (.t 5),.bC 18 1 (.t 16) (.t 17),.load 19 none (.t 18),.aj 20 (.t 1),.aj 21 (.t 5),.bC 22 1 (.t 20) (.t 21),.load 23 none (.t 22),.bin 24 .neq (.t 19) (.t 23)]) (.cond (.t 24) (.seq (.ops [.aB 4 (.c (.bool false))]) .ret) .skip)))) (.ops [.bin 25 .add (.t 13) (.c (.int .i64 1)),.aj 13 (.t 25)]))))
def Iy:ak :=
(.clean [0,1,12,13] [4] (.block 0 (.loop [0,1,12,13] Iw)))
def XT:jv:=⟨2,26,[.tmp 4],(.seq (.ops [.aB 4 (.c (.bool false))]) (.seq (.seq (.ops [.aj 6 (.t 0),.len 7 (.t 6),.aj 8 (.t 1),.len 9 (.t 8),.bin 10 .neq (.t 7) (.t 9)]) (.cond (.t 10) (.seq (.ops [.aB 4 (.c (.bool false))]) .ret) .skip)) (.seq (.seq (.ops [.aj 11 (.t 0),.len 12 (.t 11),.aj 13 (.c (.int .i64 0))])
   Iy) (.seq (.ops [.aB 4 (.c (.bool true))]) .ret))))⟩
def jB:ak:=(.seq (.seq (.ops [.aj 6 (.t 3),.aj 7 (.t 0),.len 8 (.t 7),.bin 9 .lss (.t 6) (.t 8)]) (.cond (.t 9) .skip (.exit 0))) (.seq (.block 1 (.seq (.ops [.aB 4 (.c (.int .i64 1)),.aB 5 (.c (.int .i64 1))]) (.seq (.seq (.ops [.aj 12 (.t 3),.bin 13 .gtr (.t 12) (.c (.int .i64 0))]) (.cond (.t 13) (.vk [] [] none [0,1,2,3,4,5,6,7,8,9,10,11,12,13,14,15] [.aj 14 (.t 0),.aj 15 (.t 3),.bin 16 .sub (.t 15) (.c (.int .i64 1)),.bC 17 3 (.t 14) (.t 16),.aX 18 (.t 17) 2,.load 19 none (.t 18),.bin 20 .add (.t 19) (.c (.int .i64 1)),.aj 21 (.t 0),.aj 22 (.t 3),.bin 23 .sub (.t 22) (.c (.int .i64 1)),.bC 24 3 (.t 21) (.t 23),.aX 25 (.t 24) 0,.load 26 none (.t 25),.bin 27 .add (.t 26) (.c (.int .i64 1)),.aB 4 (.t 20),.aB 5 (.t 27)]) .skip)) (.seq (.vk [] [] none [0,1,2,3,4,5,6,7,8,9,10,11,12,13,14,15,16,17,18,19,20,21,22,23,24,25,26,27,28,29,30,31,32,33,34,35,36,37,38,39,40,41,42,43,44] [.aj 28 (.t 0),.aj 29 (.t 3),.bC 30 3 (.t 28) (.t 29),.aX 31 (.t 30) 1,.load 32 none (.t 31),.aj 33 (.t 4),.bin 34 .neq (.t 32) (.t 33),.aj 35 (.t 34),.grd 35 false (.aj 36 (.t 0)),.grd 35 false (.aj 37 (.t 3)),.grd 35 false (.bC 38 3 (.t 36) (.t 37)),.grd 35 false (.aX 39 (.t 38) 2),.grd 35 false (.load 40 none (.t 39)),.grd 35 false (.aj 41 (.t 0)),.grd 35 false (.aj 42 (.t 3)),.grd 35 false (.bC 43 3 (.t 41) (.t 42)),.grd 35 false (.aX 44 (.t 43) 1),.grd 35 false (.load 45 none (.t 44)),.grd 35 false (.bin 46 .lss (.t 40) (.t 45)),.pick 47 (.t 35) (.c (.bool true)) (.t 46),.aj 48 (.t 47),.grd 48 false (.aj 49 (.t 0)),.grd 48 false (.aj 50 (.t 3)),.grd 48 false (.bC 51 3 (.t 49) (.t 50)),.grd 48 false (.aX 52 (.t 51) 2),.grd 48 false (.load 53 none (.t 52)),.grd 48 false (.bin 54 .gtr (.t 53) (.c (.int .i64 1073741824))),.pick 55 (.t 48) (.c (.bool true)) (.t 54),.aj 56 (.t 55),.grd 56 false (.aj 57 (.t 0)),.grd 56 false (.aj 58 (.t 3)),.grd 56 false (.bC 59 3 (.t 57) (.t 58)),.grd 56 false (.aX 60 (.t 59) 0),.grd 56 false (.load 61 none (.t 60)),.grd 56 false (.aj 62 (.t 5)),.grd 56 false (.bin 63 .lss (.t 61) (.t 62)),.pick 64 (.t 56) (.c (.bool true)) (.t 63),.aj 65 (.t 64),.grd 65 false (.aj 66 (.t 0)),.grd 65 false (.aj 67 (.t 3)),.grd 65 false (.bC 68 3 (.t 66) (.t 67)),.grd 65 false (.aX 69 (.t 68) 0),.grd 65 false (.load 70 none (.t 69)),.grd 65 false (.bin 71 .gtr (.t 70) (.c (.int .i64 1073741824))),.pick 72 (.t 65) (.c (.bool true)) (.t 71)]) (.cond (.t 72) (.seq (.ops [.aB 2 (.c (.bool false))]) .ret) .skip))))) (.ops [.aj 10 (.t 3),.bin 11 .add (.t 10) (.c (.int .i64 1)),.aB 3 (.t 11)])))
def Iz:ak :=
(.clean [0,3] [2] (.block 0 (.loop [0,3] jB)))
def XU:jv:=⟨1,73,[.tmp 2],(.seq (.ops [.aB 2 (.c (.bool false))]) (.seq (.seq (.ops [.aB 3 (.c (.int .i64 0))])
  Iz) (.seq (.ops [.aB 2 (.c (.bool true))]) .ret)))⟩
def XV:jv:=⟨2,14,[.tmp 4],(.seq (.ops [.box 2 (.t 0),.box 3 (.t 1),.aB 4 (.c (.int .i64 0))]) (.seq (.ops [.load 8 (some 4) (.t 2),.load 9 (some 4) (.t 3),.call 10 47 [(.t 8),(.t 9)],.aj 7 (.t 10),.ext 11 (.t 7) 0,.ext 12 (.t 7) 1,.aB 5 (.t 11),.aB 6 (.t 12)]) (.seq (.ops [.aj 13 (.t 6),.aB 4 (.t 13)]) .ret)))⟩
def IB:ak:=(.seq (.seq (.ops [.aj 7 (.t 3),.aj 8 (.t 0),.len 9 (.t 8),.bin 10 .lss (.t 7) (.t 9)]) (.cond (.t 10) .skip (.exit 0))) (.seq (.block 1 (.seq (.ops [.aj 13 (.t 0),.aj 14 (.t 3),.bC 15 1 (.t 13) (.t 14),.load 16 none (.t 15),.len 17 (.t 16),.bin 18 .gtr (.t 17) (.c (.int .i64 24))]) (.cond (.t 18) (.seq (.ops [.aB 2 (.c (.bool false))]) .ret) .skip))) (.ops [.aj 11 (.t 3),.bin 12 .add (.t 11) (.c (.int .i64 1)),.aB 3 (.t 12)])))
def IC:ak :=
(.clean [0,3] [2] (.block 0 (.loop [0,3] IB)))
def XW:jv:=⟨1,19,[.tmp 2],(.seq (.ops [.aB 2 (.c (.bool false))]) (.seq (.seq (.ops [.aj 4 (.t 0),.len 5 (.t 4),.bin 6 .gtr (.t 5) (.c (.int .i64 9))]) (.cond (.t 6) (.seq (.ops [.aB 2 (.c (.bool false))]) .ret) .skip)) (.seq (.seq (.ops [.aB 3 (.c (.int .i64 0))])
   IC) (.seq (.ops [.aB 2 (.c (.bool true))]) .ret))))⟩
def abH:ak:=(.seq (.ops [.bin 14 .lss (.t 13) (.t 12)]) (.seq (.cond (.t 14) .skip (.exit 0)) (.seq (.block 1 (.seq (.ops [.aj 15 (.t 13),.aB 5 (.t 15)]) (.seq (.vk [] [] none [0,1,2,3,4,5,6,7,8] [.aj 16 (.t 0),.aj 17 (.t 5),.bC 18 2 (.t 16) (.t 17),.load 19 (some 2) (.t 18),.aj 20 (.t 1),.aj 21 (.t 5),.bC 22 2 (.t 20) (.t 21),.load 23 (some 2) (.t 22),.Qs 24 true 2 (.t 19) (.t 23)]) (.cond (.t 24) (.seq (.ops [.aB 4 (.c (.bool false))]) .ret) .skip)))) (.ops [.bin 25 .add (.t 13) (.c (.int .i64 1)),.aj 13 (.t 25)]))))
def abI:ak :=
(.clean [0,1,12,13] [4] (.block 0 (.loop [0,1,12,13] abH)))
def ad1:jv:=⟨2,26,[.tmp 4],(.seq (.ops [.aB 4 (.c (.bool false))]) (.seq (.seq (.ops [.aj 6 (.t 0),.len 7 (.t 6),.aj 8 (.t 1),.len 9 (.t 8),.bin 10 .neq (.t 7) (.t 9)]) (.cond (.t 10) (.seq (.ops [.aB 4 (.c (.bool false))]) .ret) .skip)) (.seq (.seq (.ops [.aj 11 (.t 0),.len 12 (.t 11),.aj 13 (.c (.int .i64 0))])
   abI) (.seq (.ops [.aB 4 (.c (.bool true))]) .ret))))⟩
def XY:jv:=⟨2,8,[.tmp 4],(.seq (.ops [.aB 4 (.c (.bool false))]) (.seq (.ops [.aj 5 (.t 0),.aj 6 (.t 1),.call 7 77 [(.t 5),(.t 6),(.c (.func 79 []))],.aB 4 (.t 7)]) .ret))⟩
def IE:ak:=(.seq (.ops [.bin 16 .lss (.t 15) (.t 14)]) (.seq (.cond (.t 16) .skip (.exit 0)) (.seq (.block 1 (.seq (.ops [.aj 17 (.t 15),.aB 6 (.t 17)]) (.seq (.drs [] [2,3,5,6,7,12,14,15] [.aX 19 (.t 2) 2,.load 20 none (.t 19),.aj 21 (.t 6),.bC 22 2 (.t 20) (.t 21),.load 23 (some 2) (.t 22),.aX 24 (.t 3) 2,.load 25 none (.t 24),.aj 26 (.t 6),.bC 27 2 (.t 25) (.t 26),.load 28 (some 2) (.t 27),.call 29 80 [(.t 23),(.t 28)],.aj 18 (.t 29),.ext 30 (.t 18) 0,.ext 31 (.t 18) 1,.alloc 7 [(.int .i64 0),(.list 1 [])],.store none 2 (.t 7) (.t 30),.aB 8 (.t 31)]
    [⟨[([0,1,2,3,4,5,6,7,8,9],10),([11,12,13],14)],(some ([],[],15,[])),[16],[0,1,2,3,4,5,6,7,8,9,10,11,12,13,14,15,16],false⟩,⟨[([0,1,2,3,4,5,6,7,8,9],14),([],10)],(some ([11,12],[13],15,[])),[16],[0,1,2,3,4,5,6,7,8,9,14,10,11,12,13,15,16],false⟩]) (.ops [.aj 32 (.t 5),.aj 33 (.t 6),.load 34 (some 2) (.t 7),.call 35 81 [(.t 34)],.bC 36 1 (.t 32) (.t 33),.store none 1 (.t 36) (.t 35)])))) (.ops [.bin 37 .add (.t 15) (.c (.int .i64 1)),.aj 15 (.t 37)]))))
def IG:ak :=
(.clean [2,3,5,12,14,15] [4,5] (.block 0 (.loop [2,3,5,12,14,15] IE)))
def XZ:jv:=⟨2,39,[.tmp 4],(.seq (.ops [.box 2 (.t 0),.box 3 (.t 1),.aB 4 (.nil 1)]) (.seq (.ops [.aX 9 (.t 2) 2,.load 10 none (.t 9),.len 11 (.t 10),.make 12 (.list 0 []) (.t 11) (.t 11),.aB 5 (.t 12)]) (.seq (.seq (.ops [.aj 13 (.t 5),.len 14 (.t 13),.aj 15 (.c (.int .i64 0))])
   IG) (.seq (.ops [.aj 38 (.t 5),.aB 4 (.t 38)]) .ret))))⟩
def Ae:ak:=(.seq (.seq (.ops [.aj 13 (.t 5),.aX 14 (.t 2) 3,.load 15 none (.t 14),.len 16 (.t 15),.bin 17 .lss (.t 13) (.t 16)]) (.cond (.t 17) .skip (.exit 0))) (.seq (.block 1 (.seq (.vk [] [] none [0,1,2,3,4,5,6,7,8,9,10,11,12] [.aX 20 (.t 2) 3,.load 21 none (.t 20),.aj 22 (.t 5),.bC 23 1 (.t 21) (.t 22),.load 24 none (.t 23),.len 25 (.t 24),.aX 26 (.t 3) 3,.load 27 none (.t 26),.aj 28 (.t 5),.bC 29 1 (.t 27) (.t 28),.load 30 none (.t 29),.len 31 (.t 30),.bin 32 .neq (.t 25) (.t 31)]) (.cond (.t 32) (.seq (.ops [.aB 4 (.c (.bool false))]) .ret) .skip))) (.ops [.aj 18 (.t 5),.bin 19 .add (.t 18) (.c (.int .i64 1)),.aB 5 (.t 19)])))
def II:ak :=
(.clean [2,3,5] [4] (.block 0 (.loop [2,3,5] Ae)))
def Uy:jv:=⟨2,33,[.tmp 4],(.seq (.ops [.box 2 (.t 0),.box 3 (.t 1),.aB 4 (.c (.bool false))]) (.seq (.seq (.ops [.aX 6 (.t 2) 3,.load 7 none (.t 6),.len 8 (.t 7),.aX 9 (.t 3) 3,.load 10 none (.t 9),.len 11 (.t 10),.bin 12 .neq (.t 8) (.t 11)]) (.cond (.t 12) (.seq (.ops [.aB 4 (.c (.bool false))]) .ret) .skip)) (.seq (.seq (.ops [.aB 5 (.c (.int .i64 0))])
   II) (.seq (.ops [.aB 4 (.c (.bool true))]) .ret))))⟩
def uV:ak:=(.seq (.seq (.ops [.aj 19 (.t 10),.aX 20 (.t 2) 3,.load 21 none (.t 20),.aj 22 (.t 8),.bC 23 1 (.t 21) (.t 22),.load 24 none (.t 23),.len 25 (.t 24),.bin 26 .lss (.t 19) (.t 25)]) (.cond (.t 26) .skip (.exit 2))) (.seq (.block 3 (.seq (.seq (.ops [.load 29 (some 4) (.t 2),.load 30 (some 4) (.t 3),.aj 31 (.t 8),.aj 32 (.t 10),.call 33 65 [(.t 29),(.t 30),(.t 31),(.t 32)],.un 34 .not (.t 33)]) (.cond (.t 34) (.exit 3) .skip)) (.seq (.ops [.aj 35 (.t 7),.bin 36 .add (.t 35) (.c (.int .i64 1)),.aB 7 (.t 36)]) (.seq (.ops [.aj 37 (.t 9),.len 38 (.t 37),.aB 11 (.t 38)]) (.seq (.vk [] [] none [0,1,2,3,4,5,6,7,8,9,10,11,12,13,14,15,16,17,18] [.aj 39 (.t 11),.bin 40 .gtr (.t 39) (.c (.int .i64 0)),.aj 41 (.t 40),.grd 41 true (.aj 42 (.t 9)),.grd 41 true (.aj 43 (.t 11)),.grd 41 true (.bin 44 .sub (.t 43) (.c (.int .i64 1))),.grd 41 true (.bC 45 2 (.t 42) (.t 44)),.grd 41 true (.aX 46 (.t 45) 0),.grd 41 true (.load 47 none (.t 46)),.grd 41 true (.aj 48 (.t 9)),.grd 41 true (.aj 49 (.t 11)),.grd 41 true (.bin 50 .sub (.t 49) (.c (.int .i64 1))),.grd 41 true (.bC 51 2 (.t 48) (.t 50)),.grd 41 true (.aX 52 (.t 51) 1),.grd 41 true (.load 53 none (.t 52)),.grd 41 true (.bin 54 .add (.t 47) (.t 53)),.grd 41 true (.aj 55 (.t 10)),.grd 41 true (.bin 56 .eql (.t 54) (.t 55)),.pick 57 (.t 41) (.t 56) (.c (.bool false))]) (.cond (.t 57) (.ops [.aj 58 (.t 9),.aj 59 (.t 11),.bin 60 .sub (.t 59) (.c (.int .i64 1)),.bC 61 2 (.t 58) (.t 60),.aX 62 (.t 61) 1,.load 63 none (.t 62),.bin 64 .add (.t 63) (.c (.int .i64 1)),.bC 65 2 (.t 58) (.t 60),.aX 66 (.t 65) 1,.store none 1 (.t 66) (.t 64)]) (.ops [.aj 67 (.t 9),.aj 68 (.t 10),.build 69 [(.int .i64 0),(.int .i64 0)] [(0,1,(.t 68)),(1,1,(.c (.int .i64 1)))],.jZ 70 2 [(.t 69)],.app 71 2 (.t 67) (.t 70),.aB 9 (.t 71)]))))))) (.ops [.aj 27 (.t 10),.bin 28 .add (.t 27) (.c (.int .i64 1)),.aB 10 (.t 28)])))
def IJ:ak :=
(.clean [2,3,6,7,8,9,10,71,75] [2,3,4,5,6,7,8,9,71,75] (.block 2 (.loop [2,3,6,7,8,9,10,71,75] uV)))
def IK:ak:=(.seq (.seq (.ops [.aj 12 (.t 8),.aX 13 (.t 2) 3,.load 14 none (.t 13),.len 15 (.t 14),.bin 16 .lss (.t 12) (.t 15)]) (.cond (.t 16) .skip (.exit 0))) (.seq (.block 1 (.seq (.ops [.aB 9 (.nil 2)]) (.seq (.seq (.ops [.aB 10 (.c (.int .i64 0))])
    IJ) (.ops [.aj 72 (.t 6),.aj 73 (.t 9),.jZ 74 1 [(.t 73)],.app 75 1 (.t 72) (.t 74),.aB 6 (.t 75)])))) (.ops [.aj 17 (.t 8),.bin 18 .add (.t 17) (.c (.int .i64 1)),.aB 8 (.t 18)])))
def IL:ak :=
(.clean [2,3,6,7,8,71,75] [4,5,6,7] (.block 0 (.loop [2,3,6,7,8,71,75] IK)))
def X0:jv:=⟨2,78,[.tmp 4,.tmp 5],(.seq (.ops [.box 2 (.t 0),.box 3 (.t 1),.aB 4 (.nil 1),.aB 5 (.c (.int .i64 0))]) (.seq (.ops [.aB 6 (.nil 1)]) (.seq (.ops [.aB 7 (.c (.int .i64 0))]) (.seq (.seq (.ops [.aB 8 (.c (.int .i64 0))])
   IL) (.seq (.ops [.aj 76 (.t 6),.aj 77 (.t 7),.aB 4 (.t 76),.aB 5 (.t 77)]) .ret)))))⟩
def X5:jv:=⟨2,12,[.tmp 4],(.seq (.ops [.aB 4 (.c (.bool false))]) (.seq (.ops [.aj 5 (.t 0),.aj 6 (.t 1),.bin 7 .geq (.t 5) (.t 6),.aj 8 (.t 7),.grd 8 true (.aj 9 (.t 0)),.grd 8 true (.bin 10 .leq (.t 9) (.c (.int .i64 1073741824))),.pick 11 (.t 8) (.t 10) (.c (.bool false)),.aB 4 (.t 11)]) .ret))⟩
def pJ:ak:=(.seq (.ops [.bin 10 .lss (.t 9) (.t 8)]) (.seq (.cond (.t 10) .skip (.exit 0)) (.seq (.block 1 (.seq (.ops [.bC 11 3 (.t 7) (.t 9),.load 12 (some 3) (.t 11),.alloc 5 [(.int .i64 0),(.int .i64 0),(.int .i64 0)],.store none 3 (.t 5) (.t 12)]) (.seq (.seq (.ops [.aX 13 (.t 5) 1,.load 14 none (.t 13),.aX 15 (.t 3) 2,.load 16 none (.t 15),.bin 17 .add (.t 16) (.c (.int .i64 1)),.bin 18 .neq (.t 14) (.t 17),.aj 19 (.t 18),.grd 19 false (.aX 20 (.t 5) 2),.grd 19 false (.load 21 none (.t 20)),.grd 19 false (.aX 22 (.t 5) 1),.grd 19 false (.load 23 none (.t 22)),.grd 19 false (.bin 24 .lss (.t 21) (.t 23)),.pick 25 (.t 19) (.c (.bool true)) (.t 24),.aj 26 (.t 25),.grd 26 false (.aX 27 (.t 5) 2),.grd 26 false (.load 28 none (.t 27)),.grd 26 false (.bin 29 .gtr (.t 28) (.c (.int .i64 1073741824))),.pick 30 (.t 26) (.c (.bool true)) (.t 29),.aj 31 (.t 30),.grd 31 false (.aX 32 (.t 5) 0),.grd 31 false (.load 33 none (.t 32)),.grd 31 false (.call 34 48 [(.t 33),(.c (.int .i64 1))]),.grd 31 false (.un 35 .not (.t 34)),.pick 36 (.t 31) (.c (.bool true)) (.t 35),.aj 37 (.t 36),.grd 37 false (.aX 38 (.t 5) 0),.grd 37 false (.load 39 none (.t 38)),.grd 37 false (.aX 40 (.t 3) 0),.grd 37 false (.load 41 none (.t 40)),.grd 37 false (.bin 42 .leq (.t 39) (.t 41)),.pick 43 (.t 37) (.c (.bool true)) (.t 42)]) (.cond (.t 43) (.seq (.ops [.aB 2 (.c (.bool false))]) .ret) .skip)) (.ops [.load 44 (some 3) (.t 5),.store none 3 (.t 3) (.t 44)])))) (.ops [.bin 45 .add (.t 9) (.c (.int .i64 1)),.aj 9 (.t 45)]))))
def IQ:ak :=
(.clean [0,3,7,8,9] [2] (.block 0 (.loop [0,3,7,8,9] pJ)))
def X6:jv:=⟨1,46,[.tmp 2],(.seq (.ops [.aB 2 (.c (.bool false))]) (.seq (.ops [.build 6 [(.int .i64 0),(.int .i64 0),(.int .i64 0)] [],.alloc 3 [(.int .i64 0),(.int .i64 0),(.int .i64 0)],.store none 3 (.t 3) (.t 6)]) (.seq (.seq (.ops [.aj 7 (.t 0),.len 8 (.t 7),.aj 9 (.c (.int .i64 0))])
   IQ) (.seq (.ops [.aB 2 (.c (.bool true))]) .ret))))⟩
def X7:jv:=⟨1,6,[.tmp 2],(.seq (.ops [.aB 2 (.c (.int .i64 0))]) (.seq (.ops [.aj 3 (.t 0),.call 4 83 [(.t 3)],.call 5 82 [(.t 4)],.aB 2 (.t 5)]) .ret))⟩
def Ee:jv:=⟨1,39,[.tmp 2],(.seq (.ops [.box 1 (.t 0),.aB 2 (.c (.int .i64 0))]) (.seq (.seq (.vk [] [([0,1,2,3,4,5,6,7,8,9,10,11,12,13],14)] none [15,16] [.aX 4 (.t 1) 0,.load 5 none (.t 4),.bin 6 .lss (.t 5) (.c (.int .i64 0)),.aj 7 (.t 6),.grd 7 false (.aX 8 (.t 1) 0),.grd 7 false (.load 9 none (.t 8)),.grd 7 false (.bin 10 .gtr (.t 9) (.c (.int .i64 4096))),.pick 11 (.t 7) (.c (.bool true)) (.t 10),.aj 12 (.t 11),.grd 12 false (.aX 13 (.t 1) 1),.grd 12 false (.load 14 none (.t 13)),.grd 12 false (.len 15 (.t 14)),.grd 12 false (.aX 16 (.t 1) 0),.grd 12 false (.load 17 none (.t 16)),.grd 12 false (.call 18 84 [(.t 17)]),.grd 12 false (.bin 19 .neq (.t 15) (.t 18)),.pick 20 (.t 12) (.c (.bool true)) (.t 19)]) (.cond (.t 20) (.seq (.ops [.aB 2 (.c (.int .i64 3))]) .ret) .skip)) (.seq (.seq (.ops [.aX 21 (.t 1) 0,.load 22 none (.t 21),.bin 23 .rem (.t 22) (.c (.int .i64 64)),.aB 3 (.t 23)]) (.seq (.ops [.aj 24 (.t 3),.bin 25 .gtr (.t 24) (.c (.int .i64 0)),.aj 26 (.t 25),.grd 26 true (.aX 27 (.t 1) 1),.grd 26 true (.load 28 none (.t 27)),.grd 26 true (.aX 29 (.t 1) 1),.grd 26 true (.load 30 none (.t 29)),.grd 26 true (.len 31 (.t 30)),.grd 26 true (.bin 32 .sub (.t 31) (.c (.int .i64 1))),.grd 26 true (.bC 33 1 (.t 28) (.t 32)),.grd 26 true (.load 34 none (.t 33)),.grd 26 true (.aj 35 (.t 3)),.grd 26 true (.bin 36 .shr (.t 34) (.t 35)),.grd 26 true (.bin 37 .neq (.t 36) (.c (.int .u64 0))),.pick 38 (.t 26) (.t 37) (.c (.bool false))]) (.cond (.t 38) (.seq (.ops [.aB 2 (.c (.int .i64 3))]) .ret) .skip))) (.seq (.ops [.aB 2 (.c (.int .i64 0))]) .ret))))⟩
def X8:jv:=⟨1,6,[.tmp 2],(.seq (.ops [.aB 2 (.c (.int .i64 0))]) (.seq (.ops [.aj 3 (.t 0),.call 4 86 [(.t 3)],.call 5 85 [(.t 4)],.aB 2 (.t 5)]) .ret))⟩
def Af:ak:=(.seq (.seq (.ops [.aj 24 (.t 3),.aX 25 (.t 1) 1,.load 26 none (.t 25),.len 27 (.t 26),.bin 28 .mul (.c (.int .i64 64)) (.t 27),.bin 29 .lss (.t 24) (.t 28)]) (.cond (.t 29) .skip (.exit 0))) (.seq (.block 1 (.seq (.ops [.load 32 (some 2) (.t 1),.aj 33 (.t 3),.call 34 87 [(.t 32),(.t 33)]]) (.cond (.t 34) (.seq (.ops [.aB 2 (.c (.int .i64 3))]) .ret) .skip))) (.ops [.aj 30 (.t 3),.bin 31 .add (.t 30) (.c (.int .i64 1)),.aB 3 (.t 31)])))
def IU:ak :=
(.clean [1,3] [2] (.block 0 (.loop [1,3] Af)))
def L8:jv:=⟨1,35,[.tmp 2],(.seq (.ops [.box 1 (.t 0),.aB 2 (.c (.int .i64 0))]) (.seq (.seq (.ops [.aX 4 (.t 1) 0,.load 5 none (.t 4),.bin 6 .lss (.t 5) (.c (.int .i64 0)),.aj 7 (.t 6),.grd 7 false (.aX 8 (.t 1) 0),.grd 7 false (.load 9 none (.t 8)),.grd 7 false (.bin 10 .gtr (.t 9) (.c (.int .i64 4096))),.pick 11 (.t 7) (.c (.bool true)) (.t 10),.aj 12 (.t 11),.grd 12 false (.aX 13 (.t 1) 1),.grd 12 false (.load 14 none (.t 13)),.grd 12 false (.len 15 (.t 14)),.grd 12 false (.aX 16 (.t 1) 0),.grd 12 false (.load 17 none (.t 16)),.grd 12 false (.bin 18 .add (.t 17) (.c (.int .i64 63))),.grd 12 false (.bin 19 .quo (.t 18) (.c (.int .i64 64))),.grd 12 false (.bin 20 .neq (.t 15) (.t 19)),.pick 21 (.t 12) (.c (.bool true)) (.t 20)]) (.cond (.t 21) (.seq (.ops [.aB 2 (.c (.int .i64 3))]) .ret) .skip)) (.seq (.seq (.ops [.aX 22 (.t 1) 0,.load 23 none (.t 22),.aB 3 (.t 23)])
   IU) (.seq (.ops [.aB 2 (.c (.int .i64 0))]) .ret))))⟩
def Ag:ak:=(.seq (.ops [.bin 11 .lss (.t 10) (.t 9)]) (.seq (.cond (.t 11) .skip (.exit 0)) (.seq (.block 1 (.seq (.ops [.bC 12 4 (.t 8) (.t 10),.load 13 (some 4) (.t 12),.alloc 4 [(.int .i64 0),(.list 0 []),(.list 0 []),(.list 0 [])],.store none 4 (.t 4) (.t 13)]) (.seq (.ops [.load 14 (some 4) (.t 4),.call 15 15 [(.t 14)],.aB 5 (.t 15)]) (.seq (.ops [.aj 16 (.t 5),.bin 17 .neq (.t 16) (.c (.int .i64 0))]) (.cond (.t 17) (.seq (.ops [.aj 18 (.t 5),.aB 2 (.t 18)]) .ret) .skip))))) (.ops [.bin 19 .add (.t 10) (.c (.int .i64 1)),.aj 10 (.t 19)]))))
def IV:ak :=
(.clean [0,8,9,10] [0,2] (.block 0 (.loop [0,8,9,10] Ag)))
def Ah:ak:=(.seq (.ops [.bin 31 .lss (.t 30) (.t 29)]) (.seq (.cond (.t 31) .skip (.exit 2)) (.seq (.block 3 (.seq (.ops [.bC 32 4 (.t 28) (.t 30),.load 33 (some 4) (.t 32),.alloc 7 [(.int .i64 0),(.list 0 []),(.list 0 []),(.list 0 [])],.store none 4 (.t 7) (.t 33)]) (.seq (.vk [] [([0,1,2,3,4,5],6)] none [7] [.aX 34 (.t 7) 3,.load 35 none (.t 34),.aj 36 (.t 0),.bC 37 4 (.t 36) (.c (.int .i64 0)),.aX 38 (.t 37) 3,.load 39 none (.t 38),.call 40 44 [(.t 35),(.t 39)],.un 41 .not (.t 40)]) (.cond (.t 41) (.seq (.ops [.aB 2 (.c (.int .i64 22))]) .ret) .skip)))) (.ops [.bin 42 .add (.t 30) (.c (.int .i64 1)),.aj 30 (.t 42)]))))
def IW:ak :=
(.clean [0,28,29,30] [2] (.block 2 (.loop [0,28,29,30] Ah)))
def X9:jv:=⟨1,43,[.tmp 2],(.seq (.ops [.aB 2 (.c (.int .i64 0))]) (.seq (.seq (.ops [.aj 8 (.t 0),.len 9 (.t 8),.aj 10 (.c (.int .i64 0))])
  IV) (.seq (.seq (.ops [.aj 20 (.t 0),.len 21 (.t 20),.bin 22 .lss (.t 21) (.c (.int .i64 1)),.aj 23 (.t 22),.grd 23 false (.aj 24 (.t 0)),.grd 23 false (.len 25 (.t 24)),.grd 23 false (.bin 26 .gtr (.t 25) (.c (.int .i64 4))),.pick 27 (.t 23) (.c (.bool true)) (.t 26)]) (.cond (.t 27) (.seq (.ops [.aB 2 (.c (.int .i64 6))]) .ret) .skip)) (.seq (.seq (.ops [.aj 28 (.t 0),.len 29 (.t 28),.aj 30 (.c (.int .i64 0))])
   IW) (.seq (.ops [.aB 2 (.c (.int .i64 0))]) .ret)))))⟩
def abJ:ak:=(.seq (.ops [.bin 13 .lss (.t 12) (.t 11)]) (.seq (.cond (.t 13) .skip (.exit 0)) (.seq (.block 1 (.seq (.ops [.aj 14 (.t 12),.bC 15 4 (.t 10) (.t 12),.load 16 (some 4) (.t 15),.alloc 9 [(.int .i64 0),(.list 0 []),(.list 0 []),(.list 0 [])],.aB 8 (.t 14),.store none 4 (.t 9) (.t 16)]) (.seq (.vk [] [([0,1],2),([3,4,5,6,7,8,9,10,11,12],13)] none [14,15,16] [.aj 17 (.t 1),.aj 18 (.t 8),.ku 19 (.t 17) [(.t 18)],.aj 20 (.t 19),.grd 20 true (.aj 21 (.t 7)),.grd 20 true (.bin 22 .lss (.t 21) (.c (.int .i64 0))),.grd 20 true (.aj 23 (.t 22)),.grd 23 false (.aj 24 (.t 2)),.grd 23 false (.load 25 (some 4) (.t 9)),.grd 23 false (.aj 26 (.t 0)),.grd 23 false (.aj 27 (.t 7)),.grd 23 false (.bC 28 4 (.t 26) (.t 27)),.grd 23 false (.load 29 (some 4) (.t 28)),.grd 23 false (.ku 30 (.t 24) [(.t 25),(.t 29)]),.grd 23 false (.bin 31 .gtr (.t 30) (.c (.int .i64 0))),.grd 20 true (.pick 32 (.t 23) (.c (.bool true)) (.t 31)),.pick 33 (.t 20) (.t 32) (.c (.bool false))]) (.cond (.t 33) (.ops [.aj 34 (.t 8),.aB 7 (.t 34)]) .skip)))) (.ops [.bin 35 .add (.t 12) (.c (.int .i64 1)),.aj 12 (.t 35)]))))
def abK:ak :=
(.clean [0,1,2,7,10,11,12] [6,7] (.block 0 (.loop [0,1,2,7,10,11,12] abJ)))
def ad2:jv:=⟨3,37,[.tmp 6],(.seq (.ops [.aB 6 (.c (.int .i64 0))]) (.seq (.ops [.aB 7 (.c (.int .i64 (-1)))]) (.seq (.seq (.ops [.aj 10 (.t 0),.len 11 (.t 10),.aj 12 (.c (.int .i64 0))])
   abK) (.seq (.ops [.aj 36 (.t 7),.aB 6 (.t 36)]) .ret))))⟩
def ad3:jv:=⟨2,9,[.tmp 3],(.seq (.ops [.aB 3 (.c (.bool false))]) (.seq (.ops [.load 4 none (.t 1),.aj 5 (.t 0),.bC 6 1 (.t 4) (.t 5),.load 7 none (.t 6),.un 8 .not (.t 7),.aB 3 (.t 8)]) .ret))⟩
def ad4:jv:=⟨2,16,[.tmp 4],(.seq (.ops [.box 2 (.t 0),.box 3 (.t 1),.aB 4 (.c (.int .i64 0))]) (.seq (.drs [] [5,6] [.aX 7 (.t 2) 1,.load 8 none (.t 7),.call 9 60 [(.t 8)],.aX 10 (.t 3) 1,.load 11 none (.t 10),.call 12 60 [(.t 11)],.alloc 5 [(.int .i64 0),(.int .i64 0)],.alloc 6 [(.int .i64 0),(.int .i64 0)],.store none 2 (.t 5) (.t 9),.store none 2 (.t 6) (.t 12)]
  [⟨[([0,1,3,4],2),([],5),([],6),([],7)],(some ([],[],8,[([],9)])),[],[0,1,3,4,2,5,6,7,8,9],false⟩,⟨[([0,1,3,4],2),([],5),([],7),([],6)],(some ([],[],8,[([],9)])),[],[0,1,3,4,2,5,7,6,8,9],true⟩,⟨[([0,1,3,4],2),([],6),([],5),([],7)],(some ([],[],8,[([],9)])),[],[0,1,3,4,2,6,5,7,8,9],false⟩,⟨[([0,1,3,4],2),([],6),([],7),([],5)],(some ([],[],8,[([],9)])),[],[0,1,3,4,2,6,7,5,8,9],false⟩,⟨[([0,1,3,4],2),([],7),([],5),([],6)],(some ([],[],8,[([],9)])),[],[0,1,3,4,2,7,5,6,8,9],true⟩,⟨[([0,1,3,4],2),([],7),([],6),([],5)],(some ([],[],8,[([],9)])),[],[0,1,3,4,2,7,6,5,8,9],true⟩,⟨[([0,1,3,4],6),([],2),([],5),([],7)],(some ([],[],8,[([],9)])),[],[0,1,3,4,6,2,5,7,8,9],false⟩,⟨[([0,1,3,4],6),([],2),([],7),([],5)],(some ([],[],8,[([],9)])),[],[0,1,3,4,6,2,7,5,8,9],false⟩,⟨[([0,1,3,4],6),([],7),([],2),([],5)],(some ([],[],8,[([],9)])),[],[0,1,3,4,6,7,2,5,8,9],false⟩,⟨[([0,1,3,4],7),([],2),([],5),([],6)],(some ([],[],8,[([],9)])),[],[0,1,3,4,7,2,5,6,8,9],true⟩,⟨[([0,1,3,4],7),([],2),([],6),([],5)],(some ([],[],8,[([],9)])),[],[0,1,3,4,7,2,6,5,8,9],true⟩,⟨[([0,1,3,4],7),([],6),([],2),([],5)],(some ([],[],8,[([],9)])),[],[0,1,3,4,7,6,2,5,8,9],true⟩]) (.seq (.vk [] [([0,1],2)] none [3] [.Vk 13 2 (.t 5),.Vk 14 2 (.t 6),.call 15 61 [(.t 13),(.t 14)],.aB 4 (.t 15)]) .ret)))⟩
def ad5:jv:=⟨1,19,[.cell 2 (some 2)],(.seq (.ops [.alloc 2 [(.int .i64 0),(.int .i64 0)]]) (.seq (.seq (.ops [.aj 4 (.t 0),.len 5 (.t 4),.bin 6 .eql (.t 5) (.c (.int .i64 0))]) (.cond (.t 6) (.seq (.ops [.build 7 [(.int .i64 0),(.int .i64 0)] [],.store none 2 (.t 2) (.t 7)]) .ret) .skip)) (.seq (.ops [.aj 8 (.t 0),.aj 9 (.t 0),.len 10 (.t 9),.bin 11 .sub (.t 10) (.c (.int .i64 1)),.bC 12 3 (.t 8) (.t 11),.load 13 (some 3) (.t 12),.alloc 3 [(.int .i64 0),(.int .i64 0),(.int .i64 0)],.store none 3 (.t 3) (.t 13)]) (.seq (.ops [.aX 14 (.t 3) 0,.load 15 none (.t 14),.aX 16 (.t 3) 2,.load 17 none (.t 16),.build 18 [(.int .i64 0),(.int .i64 0)] [(0,1,(.t 15)),(1,1,(.t 17))],.store none 2 (.t 2) (.t 18)]) .ret))))⟩
def abL:ak:=(.seq (.ops [.bin 12 .lss (.t 11) (.t 10)]) (.seq (.cond (.t 12) .skip (.exit 0)) (.seq (.block 1 (.seq (.ops [.aj 13 (.t 11),.bC 14 1 (.t 9) (.t 11),.load 15 none (.t 14),.aB 5 (.t 13),.aB 6 (.t 15)]) (.seq (.seq (.ops [.aj 16 (.t 5),.aj 17 (.t 1),.len 18 (.t 17),.bin 19 .geq (.t 16) (.t 18)]) (.cond (.t 19) (.seq (.ops [.aB 4 (.c (.int .i64 1))]) .ret) .skip)) (.seq (.ops [.aj 20 (.t 1),.aj 21 (.t 5),.bC 22 1 (.t 20) (.t 21),.load 23 none (.t 22),.aB 7 (.t 23)]) (.seq (.ops [.aj 24 (.t 6),.aj 25 (.t 7),.call 26 88 [(.t 24),(.t 25)],.aB 8 (.t 26)]) (.seq (.ops [.aj 27 (.t 8),.bin 28 .neq (.t 27) (.c (.int .i64 0))]) (.cond (.t 28) (.seq (.ops [.aj 29 (.t 8),.aB 4 (.t 29)]) .ret) .skip))))))) (.ops [.bin 30 .add (.t 11) (.c (.int .i64 1)),.aj 11 (.t 30)]))))
def abM:ak :=
(.clean [0,1,9,10,11] [0,1,4] (.block 0 (.loop [0,1,9,10,11] abL)))
def ad6:jv:=⟨2,36,[.tmp 4],(.seq (.ops [.aB 4 (.c (.int .i64 0))]) (.seq (.seq (.ops [.aj 9 (.t 0),.len 10 (.t 9),.aj 11 (.c (.int .i64 0))])
  abM) (.seq (.seq (.ops [.aj 31 (.t 0),.len 32 (.t 31),.aj 33 (.t 1),.len 34 (.t 33),.bin 35 .lss (.t 32) (.t 34)]) (.cond (.t 35) (.seq (.ops [.aB 4 (.c (.int .i64 (-1)))]) .ret) .skip)) (.seq (.ops [.aB 4 (.c (.int .i64 0))]) .ret))))⟩
def Ai:ak:=(.seq (.seq (.ops [.aj 6 (.t 3),.aj 7 (.t 0),.len 8 (.t 7),.bin 9 .lss (.t 6) (.t 8)]) (.cond (.t 9) .skip (.exit 0))) (.seq (.block 1 (.seq (.ops [.aj 12 (.t 0),.aj 13 (.t 3),.bC 14 4 (.t 12) (.t 13),.load 15 (some 4) (.t 14),.call 16 16 [(.t 15)],.aB 4 (.t 16)]) (.seq (.ops [.aj 17 (.t 4),.bin 18 .neq (.t 17) (.c (.int .i64 0))]) (.cond (.t 18) (.seq (.ops [.aj 19 (.t 4),.aB 2 (.t 19)]) .ret) .skip)))) (.ops [.aj 10 (.t 3),.bin 11 .add (.t 10) (.c (.int .i64 1)),.aB 3 (.t 11)])))
def IX:ak :=
(.clean [0,3] [0,2] (.block 0 (.loop [0,3] Ai)))
def Aj:ak:=(.seq (.seq (.ops [.aj 28 (.t 5),.aj 29 (.t 0),.len 30 (.t 29),.bin 31 .lss (.t 28) (.t 30)]) (.cond (.t 31) .skip (.exit 2))) (.seq (.block 3 (.seq (.vk [] [([0,1,2,3,4,5,6],7)] none [8] [.aj 34 (.t 0),.bC 35 4 (.t 34) (.c (.int .i64 0)),.load 36 (some 4) (.t 35),.aj 37 (.t 0),.aj 38 (.t 5),.bC 39 4 (.t 37) (.t 38),.load 40 (some 4) (.t 39),.call 41 46 [(.t 36),(.t 40)],.un 42 .not (.t 41)]) (.cond (.t 42) (.seq (.ops [.aB 2 (.c (.int .i64 22))]) .ret) .skip))) (.ops [.aj 32 (.t 5),.bin 33 .add (.t 32) (.c (.int .i64 1)),.aB 5 (.t 33)])))
def IY:ak :=
(.clean [0,5] [2] (.block 2 (.loop [0,5] Aj)))
def Ya:jv:=⟨1,43,[.tmp 2],(.seq (.ops [.aB 2 (.c (.int .i64 0))]) (.seq (.seq (.ops [.aB 3 (.c (.int .i64 0))])
  IX) (.seq (.seq (.ops [.aj 20 (.t 0),.len 21 (.t 20),.bin 22 .lss (.t 21) (.c (.int .i64 1)),.aj 23 (.t 22),.grd 23 false (.aj 24 (.t 0)),.grd 23 false (.len 25 (.t 24)),.grd 23 false (.bin 26 .gtr (.t 25) (.c (.int .i64 4))),.pick 27 (.t 23) (.c (.bool true)) (.t 26)]) (.cond (.t 27) (.seq (.ops [.aB 2 (.c (.int .i64 6))]) .ret) .skip)) (.seq (.seq (.ops [.aB 5 (.c (.int .i64 0))])
   IY) (.seq (.ops [.aB 2 (.c (.int .i64 0))]) .ret)))))⟩
def Uz:jv:=⟨4,25,[.tmp 8],(.seq (.ops [.box 4 (.t 0),.box 5 (.t 1),.aB 8 (.c (.bool false))]) (.seq (.ops [.aX 9 (.t 4) 2,.load 10 none (.t 9),.aj 11 (.t 2),.bC 12 2 (.t 10) (.t 11),.load 13 (some 2) (.t 12),.aj 14 (.t 3),.call 15 89 [(.t 13),(.t 14)],.aj 16 (.t 15),.grd 16 false (.aX 17 (.t 5) 2),.grd 16 false (.load 18 none (.t 17)),.grd 16 false (.aj 19 (.t 2)),.grd 16 false (.bC 20 2 (.t 18) (.t 19)),.grd 16 false (.load 21 (some 2) (.t 20)),.grd 16 false (.aj 22 (.t 3)),.grd 16 false (.call 23 89 [(.t 21),(.t 22)]),.pick 24 (.t 16) (.c (.bool true)) (.t 23),.aB 8 (.t 24)]) .ret))⟩
def Ak:ak:=(.seq (.seq (.ops [.aj 14 (.t 6),.aj 15 (.t 0),.len 16 (.t 15),.bin 17 .lss (.t 14) (.t 16)]) (.cond (.t 17) .skip (.exit 0))) (.seq (.block 1 (.seq (.vk [] [([0,1,2,3,4,5],6)] none [7] [.aj 20 (.t 1),.aj 21 (.t 0),.aj 22 (.t 6),.bC 23 3 (.t 21) (.t 22),.load 24 (some 3) (.t 23),.load 25 (some 3) (.t 5),.ku 26 (.t 20) [(.t 24),(.t 25)],.bin 27 .lss (.t 26) (.c (.int .i64 0))]) (.cond (.t 27) (.ops [.aj 28 (.t 0),.aj 29 (.t 6),.bC 30 3 (.t 28) (.t 29),.load 31 (some 3) (.t 30),.store none 3 (.t 5) (.t 31)]) .skip))) (.ops [.aj 18 (.t 6),.bin 19 .add (.t 18) (.c (.int .i64 1)),.aB 6 (.t 19)])))
def IZ:ak :=
(.clean [0,1,4,5,6] [4,5] (.block 0 (.loop [0,1,4,5,6] Ak)))
def Yb:jv:=⟨2,33,[.cell 4 (some 3)],(.seq (.ops [.alloc 4 [(.int .i64 0),(.int .i64 0),(.int .i64 0)]]) (.seq (.seq (.ops [.aj 7 (.t 0),.len 8 (.t 7),.bin 9 .lss (.t 8) (.c (.int .i64 1))]) (.cond (.t 9) (.drs [] [] []
   []) .skip)) (.seq (.ops [.aj 11 (.t 0),.bC 12 3 (.t 11) (.c (.int .i64 0)),.load 13 (some 3) (.t 12),.alloc 5 [(.int .i64 0),(.int .i64 0),(.int .i64 0)],.store none 3 (.t 5) (.t 13)]) (.seq (.seq (.ops [.aB 6 (.c (.int .i64 1))])
   IZ) (.seq (.ops [.load 32 (some 3) (.t 5),.store none 3 (.t 4) (.t 32)]) .ret)))))⟩
def Yc:jv:=⟨1,5,[.tmp 2],(.seq (.ops [.aB 2 (.nil 3)]) (.seq (.ops [.aj 3 (.t 0),.call 4 90 [(.c (.kU 3)),(.t 3)],.aB 2 (.t 4)]) .ret))⟩
def Yd:jv:=⟨2,6,[.tmp 4],(.seq (.ops [.box 2 (.t 0),.box 3 (.t 1),.aB 4 (.c .su)]) (.seq (.ops [.RH 5 91 [(.t 2),(.t 3)],.aB 4 (.t 5)]) .ret))⟩
def Ye:jv:=⟨2,22,[.tmp 4],(.seq (.ops [.box 2 (.t 0),.box 3 (.t 1),.aB 4 (.c (.int .i64 0))]) (.seq (.vk [] [([0,1,2,3,5,6,7,8,10,11,12,13],4),([],9),([],14),([],15),([],16)] none [17] [.aX 5 (.t 2) 0,.load 6 none (.t 5),.aX 7 (.t 3) 0,.load 8 none (.t 7),.aX 10 (.t 2) 1,.load 11 none (.t 10),.aX 12 (.t 3) 1,.load 13 none (.t 12),.aX 15 (.t 2) 2,.load 16 none (.t 15),.aX 17 (.t 3) 2,.load 18 none (.t 17),.call 9 88 [(.t 6),(.t 8)],.call 14 88 [(.t 11),(.t 13)],.call 19 88 [(.t 16),(.t 18)],.jZ 20 1 [(.t 9),(.t 14),(.t 19)],.call 21 93 [(.t 20)],.aB 4 (.t 21)]) .ret))⟩
def Am:ak:=(.seq (.seq (.ops [.aj 11 (.t 5),.aj 12 (.t 0),.len 13 (.t 12),.bin 14 .lss (.t 11) (.t 13)]) (.cond (.t 14) .skip (.exit 0))) (.seq (.block 1 (.seq (.vk [] [] none [0,1,2,3,4,5,6,7,8] [.aj 17 (.t 0),.aj 18 (.t 5),.bC 19 8 (.t 17) (.t 18),.load 20 (some 8) (.t 19),.aj 21 (.t 1),.aj 22 (.t 5),.bC 23 8 (.t 21) (.t 22),.load 24 (some 8) (.t 23),.Qs 25 true 8 (.t 20) (.t 24)]) (.cond (.t 25) (.seq (.ops [.aB 4 (.c (.bool false))]) .ret) .skip))) (.ops [.aj 15 (.t 5),.bin 16 .add (.t 15) (.c (.int .i64 1)),.aB 5 (.t 16)])))
def I4:ak :=
(.clean [0,1,5] [4] (.block 0 (.loop [0,1,5] Am)))
def Yf:jv:=⟨2,26,[.tmp 4],(.seq (.ops [.aB 4 (.c (.bool false))]) (.seq (.seq (.ops [.aj 6 (.t 0),.len 7 (.t 6),.aj 8 (.t 1),.len 9 (.t 8),.bin 10 .neq (.t 7) (.t 9)]) (.cond (.t 10) (.seq (.ops [.aB 4 (.c (.bool false))]) .ret) .skip)) (.seq (.seq (.ops [.aB 5 (.c (.int .i64 0))])
   I4) (.seq (.ops [.aB 4 (.c (.bool true))]) .ret))))⟩
def I5:ak:=(.seq (.ops [.bin 18 .lss (.t 17) (.t 16)]) (.seq (.cond (.t 18) .skip (.exit 0)) (.seq (.block 1 (.seq (.ops [.aj 19 (.t 17),.bC 20 1 (.t 15) (.t 17),.load 21 none (.t 20),.aB 7 (.t 19),.aB 8 (.t 21)]) (.seq (.ops [.aj 22 (.t 1),.aj 23 (.t 7),.bC 24 1 (.t 22) (.t 23),.load 25 none (.t 24),.aB 9 (.t 25)]) (.seq (.ops [.aj 26 (.t 2),.aj 27 (.t 8),.aj 28 (.t 9),.ku 29 (.t 26) [(.t 27),(.t 28)],.un 30 .not (.t 29)]) (.cond (.t 30) (.seq (.ops [.aB 6 (.c (.bool false))]) .ret) .skip))))) (.ops [.bin 31 .add (.t 17) (.c (.int .i64 1)),.aj 17 (.t 31)]))))
def I7:ak :=
(.clean [0,1,2,15,16,17] [6] (.block 0 (.loop [0,1,2,15,16,17] I5)))
def Yg:jv:=⟨3,32,[.tmp 6],(.seq (.ops [.aB 6 (.c (.bool false))]) (.seq (.seq (.ops [.aj 10 (.t 0),.len 11 (.t 10),.aj 12 (.t 1),.len 13 (.t 12),.bin 14 .neq (.t 11) (.t 13)]) (.cond (.t 14) (.seq (.ops [.aB 6 (.c (.bool false))]) .ret) .skip)) (.seq (.seq (.ops [.aj 15 (.t 0),.len 16 (.t 15),.aj 17 (.c (.int .i64 0))])
   I7) (.seq (.ops [.aB 6 (.c (.bool true))]) .ret))))⟩
def UA:jv:=⟨2,10,[.tmp 4],(.seq (.ops [.aB 4 (.c (.bool false))]) (.seq (.ops [.aj 5 (.t 0),.len 6 (.t 5),.aj 7 (.t 1),.len 8 (.t 7),.bin 9 .eql (.t 6) (.t 8),.aB 4 (.t 9)]) .ret))⟩
def Yh:jv:=⟨2,11,[.cell 4 (some 2),.tmp 5],(.seq (.ops [.box 2 (.t 0),.box 3 (.t 1),.alloc 4 [(.int .i64 0),(.list 1 [])],.aB 5 (.c (.int .i64 0))]) (.seq (.ops [.load 6 (some 2) (.t 2),.load 7 (some 2) (.t 3),.call 8 99 [(.t 6),(.t 7),(.c (.func 100 []))],.ext 9 (.t 8) 0,.ext 10 (.t 8) 1,.store none 2 (.t 4) (.t 9),.aB 5 (.t 10)]) .ret))⟩
def Ap:ak:=(.ops [.aB 4 (.t 8)])
def Aq:ak:=(.block 1 (.seq (.seq (.ops [.load 9 none (.t 3),.len 10 (.t 9),.aB 5 (.t 10)]) (.seq (.vk [] [] none [0,1,2,3,4,5,6,7,8,9,10,11,12,13,14,15,16,17,18] [.aj 11 (.t 5),.bin 12 .gtr (.t 11) (.c (.int .i64 0)),.aj 13 (.t 12),.grd 13 true (.load 14 none (.t 3)),.grd 13 true (.aj 15 (.t 5)),.grd 13 true (.bin 16 .sub (.t 15) (.c (.int .i64 1))),.grd 13 true (.bC 17 2 (.t 14) (.t 16)),.grd 13 true (.aX 18 (.t 17) 0),.grd 13 true (.load 19 none (.t 18)),.grd 13 true (.load 20 none (.t 3)),.grd 13 true (.aj 21 (.t 5)),.grd 13 true (.bin 22 .sub (.t 21) (.c (.int .i64 1))),.grd 13 true (.bC 23 2 (.t 20) (.t 22)),.grd 13 true (.aX 24 (.t 23) 1),.grd 13 true (.load 25 none (.t 24)),.grd 13 true (.bin 26 .add (.t 19) (.t 25)),.grd 13 true (.aj 27 (.t 4)),.grd 13 true (.bin 28 .eql (.t 26) (.t 27)),.pick 29 (.t 13) (.t 28) (.c (.bool false))]) (.cond (.t 29) (.seq (.ops [.load 30 none (.t 3),.aj 31 (.t 5),.bin 32 .sub (.t 31) (.c (.int .i64 1)),.bC 33 2 (.t 30) (.t 32),.aX 34 (.t 33) 1,.load 35 none (.t 34),.bin 36 .add (.t 35) (.c (.int .i64 1)),.bC 37 2 (.t 30) (.t 32),.aX 38 (.t 37) 1,.store none 1 (.t 38) (.t 36)]) (.exit 1)) .skip))) (.ops [.load 39 none (.t 3),.aj 40 (.t 4),.build 41 [(.int .i64 0),(.int .i64 0)] [(0,1,(.t 40)),(1,1,(.c (.int .i64 1)))],.jZ 42 2 [(.t 41)],.app 43 2 (.t 39) (.t 42),.store none 1 (.t 3) (.t 43)])))
def Yi:jv:=⟨1,45,[.tmp 2],(.seq (.ops [.box 1 (.t 0),.aB 2 (.nil 2)]) (.seq (.ops [.alloc 3 [(.list 2 [])]]) (.seq (.seq (.ops [.load 6 (some 2) (.t 1),.call 7 101 [(.t 6),(.c (.int .i64 0))]]) (.block 0 (.rng (.t 7) [8] Ap Aq))) (.seq (.ops [.load 44 none (.t 3),.aB 2 (.t 44)]) .ret))))⟩
def Yj:jv:=⟨1,13,[.tmp 2],(.seq (.ops [.aB 2 (.c (.int .i64 0))]) (.seq (.seq (.ops [.aj 3 (.t 0),.len 4 (.t 3),.bin 5 .lss (.t 4) (.c (.int .i64 1)),.aj 6 (.t 5),.grd 6 false (.aj 7 (.t 0)),.grd 6 false (.len 8 (.t 7)),.grd 6 false (.bin 9 .gtr (.t 8) (.c (.int .i64 8))),.pick 10 (.t 6) (.c (.bool true)) (.t 9)]) (.cond (.t 10) (.seq (.ops [.aB 2 (.c (.int .i64 6))]) .ret) .skip)) (.seq (.seq (.ops [.aj 11 (.t 0),.call 12 102 [(.t 11),(.c (.func 103 []))]]) (.cond (.t 12) (.seq (.ops [.aB 2 (.c (.int .i64 2))]) .ret) .skip)) (.seq (.ops [.aB 2 (.c (.int .i64 0))]) .ret))))⟩
def Yk:jv:=⟨1,5,[.tmp 2],(.seq (.ops [.aB 2 (.nil 1)]) (.seq (.ops [.aj 3 (.t 0),.call 4 104 [(.t 3),(.c (.func 105 []))],.aB 2 (.t 4)]) .ret))⟩
def Yl:jv:=⟨1,7,[.tmp 2],(.seq (.ops [.aB 2 (.c (.int .i64 0))]) (.seq (.ops [.aj 3 (.t 0),.bin 4 .add (.t 3) (.c (.int .i64 64)),.bin 5 .sub (.t 4) (.c (.int .i64 1)),.bin 6 .quo (.t 5) (.c (.int .i64 64)),.aB 2 (.t 6)]) .ret))⟩
def I8:ak:=(.seq (.seq (.ops [.aj 12 (.t 3),.aj 13 (.t 0),.len 14 (.t 13),.bin 15 .lss (.t 12) (.t 14)]) (.cond (.t 15) .skip (.exit 0))) (.seq (.block 1 (.seq (.ops [.aj 18 (.t 0),.aj 19 (.t 3),.bC 20 1 (.t 18) (.t 19),.load 21 none (.t 20),.bin 22 .lss (.t 21) (.c (.int .i64 1)),.aj 23 (.t 22),.grd 23 false (.aj 24 (.t 0)),.grd 23 false (.aj 25 (.t 3)),.grd 23 false (.bC 26 1 (.t 24) (.t 25)),.grd 23 false (.load 27 none (.t 26)),.grd 23 false (.bin 28 .gtr (.t 27) (.c (.int .i64 4096))),.pick 29 (.t 23) (.c (.bool true)) (.t 28)]) (.cond (.t 29) (.seq (.ops [.aB 2 (.c (.int .i64 2))]) .ret) .skip))) (.ops [.aj 16 (.t 3),.bin 17 .add (.t 16) (.c (.int .i64 1)),.aB 3 (.t 17)])))
def I9:ak :=
(.clean [0,3] [2] (.block 0 (.loop [0,3] I8)))
def Ym:jv:=⟨1,30,[.tmp 2],(.seq (.ops [.aB 2 (.c (.int .i64 0))]) (.seq (.seq (.ops [.aj 4 (.t 0),.len 5 (.t 4),.bin 6 .lss (.t 5) (.c (.int .i64 1)),.aj 7 (.t 6),.grd 7 false (.aj 8 (.t 0)),.grd 7 false (.len 9 (.t 8)),.grd 7 false (.bin 10 .gtr (.t 9) (.c (.int .i64 8))),.pick 11 (.t 7) (.c (.bool true)) (.t 10)]) (.cond (.t 11) (.seq (.ops [.aB 2 (.c (.int .i64 6))]) .ret) .skip)) (.seq (.seq (.ops [.aB 3 (.c (.int .i64 0))])
   I9) (.seq (.ops [.aB 2 (.c (.int .i64 0))]) .ret))))⟩
def Ja:ak:=(.seq (.seq (.ops [.aj 5 (.t 4),.aj 6 (.t 0),.len 7 (.t 6),.bin 8 .lss (.t 5) (.t 7)]) (.cond (.t 8) .skip (.exit 0))) (.seq (.block 1 (.ops [.aj 11 (.t 3),.aj 12 (.t 0),.aj 13 (.t 4),.bC 14 1 (.t 12) (.t 13),.load 15 none (.t 14),.len 16 (.t 15),.jZ 17 1 [(.t 16)],.app 18 1 (.t 11) (.t 17),.aB 3 (.t 18)])) (.ops [.aj 9 (.t 4),.bin 10 .add (.t 9) (.c (.int .i64 1)),.aB 4 (.t 10)])))
def Jb:ak :=
(.clean [0,3,4,18] [2,3] (.block 0 (.loop [0,3,4,18] Ja)))
def Yn:jv:=⟨1,20,[.tmp 2],(.seq (.ops [.aB 2 (.nil 1)]) (.seq (.ops [.aB 3 (.nil 1)]) (.seq (.seq (.ops [.aB 4 (.c (.int .i64 0))])
   Jb) (.seq (.ops [.aj 19 (.t 3),.aB 2 (.t 19)]) .ret))))⟩
def Yo:jv:=⟨2,17,[.tmp 4],(.seq (.ops [.box 2 (.t 0),.aB 4 (.c (.bool false))]) (.seq (.ops [.aX 5 (.t 2) 1,.load 6 none (.t 5),.aj 7 (.t 1),.bin 8 .quo (.t 7) (.c (.int .i64 64)),.bC 9 1 (.t 6) (.t 8),.load 10 none (.t 9),.aj 11 (.t 1),.bin 12 .rem (.t 11) (.c (.int .i64 64)),.conv 13 .u64 (.t 12),.bin 14 .shr (.t 10) (.t 13),.bin 15 .and (.t 14) (.c (.int .u64 1)),.bin 16 .eql (.t 15) (.c (.int .u64 1)),.aB 4 (.t 16)]) .ret))⟩
def PX:jv:=⟨2,20,[.tmp 4],(.seq (.ops [.aB 4 (.c (.int .i64 0))]) (.seq (.ops [.aj 7 (.t 0),.call 8 106 [(.t 7)],.aB 5 (.t 8)]) (.seq (.ops [.aj 9 (.t 1),.call 10 106 [(.t 9)],.aB 6 (.t 10)]) (.seq (.seq (.ops [.aj 11 (.t 5)]) (.cond (.t 11) (.seq (.seq (.ops [.aj 12 (.t 6)]) (.cond (.t 12) (.seq (.ops [.aB 4 (.c (.int .i64 0))]) .ret) .skip)) (.seq (.ops [.aB 4 (.c (.int .i64 (-1)))]) .ret)) .skip)) (.seq (.seq (.ops [.aj 13 (.t 6)]) (.cond (.t 13) (.seq (.ops [.aB 4 (.c (.int .i64 1))]) .ret) .skip)) (.seq (.seq (.ops [.aj 14 (.t 0),.aj 15 (.t 1),.bin 16 .lss (.t 14) (.t 15)]) (.cond (.t 16) (.seq (.ops [.aB 4 (.c (.int .i64 (-1)))]) .ret) .skip)) (.seq (.seq (.ops [.aj 17 (.t 0),.aj 18 (.t 1),.bin 19 .gtr (.t 17) (.t 18)]) (.cond (.t 19) (.seq (.ops [.aB 4 (.c (.int .i64 1))]) .ret) .skip)) (.seq (.ops [.aB 4 (.c (.int .i64 0))]) .ret))))))))⟩
def L9:jv:=⟨2,23,[.tmp 4],(.seq (.ops [.box 2 (.t 0),.aB 4 (.c (.bool false))]) (.seq (.ops [.load 5 (some 2) (.t 2),.call 6 53 [(.t 5)],.bin 7 .eql (.t 6) (.c (.int .i64 0)),.aj 8 (.t 7),.grd 8 true (.aj 9 (.t 1)),.grd 8 true (.bin 10 .geq (.t 9) (.c (.int .i64 0))),.pick 11 (.t 8) (.t 10) (.c (.bool false)),.aj 12 (.t 11),.grd 12 true (.aj 13 (.t 1)),.grd 12 true (.aX 14 (.t 2) 0),.grd 12 true (.load 15 none (.t 14)),.grd 12 true (.bin 16 .lss (.t 13) (.t 15)),.pick 17 (.t 12) (.t 16) (.c (.bool false)),.aj 18 (.t 17),.grd 18 true (.load 19 (some 2) (.t 2)),.grd 18 true (.aj 20 (.t 1)),.grd 18 true (.call 21 87 [(.t 19),(.t 20)]),.pick 22 (.t 18) (.t 21) (.c (.bool false)),.aB 4 (.t 22)]) .ret))⟩
def QU:ak:=(.ops [.alloc 5 [(.int .i64 0),(.int .i64 0),(.int .i64 0)],.store none 3 (.t 5) (.t 7)])
def QV:ak:=(.block 1 (.ops [.load 8 none (.t 2),.load 9 (some 3) (.t 5),.jZ 10 3 [(.t 9)],.app 11 3 (.t 8) (.t 10),.store none 1 (.t 2) (.t 11)]))
def Yp:jv:=⟨2,13,[.tmp 4],(.seq (.ops [.box 2 (.t 0),.aB 4 (.nil 3)]) (.seq (.seq (.ops [.aj 6 (.t 1)]) (.block 0 (.rng (.t 6) [7] QU QV))) (.seq (.ops [.load 12 none (.t 2),.aB 4 (.t 12)]) .ret)))⟩
def xW:ak:=(.seq (.ops [.bin 14 .lss (.t 13) (.t 12)]) (.seq (.cond (.t 14) .skip (.exit 2)) (.seq (.block 3 (.seq (.ops [.aj 15 (.t 13),.aB 5 (.t 15)]) (.seq (.vk [] [([0,1,2,3,4,5,6,7,8,9,10,11,12,13,14,15,16,17,18,19,20,22,23],21)] (some ([24],[],25,[])) [26,27] [.load 16 none (.t 2),.aj 17 (.t 4),.bC 18 1 (.t 16) (.t 17),.load 19 none (.t 18),.aj 20 (.t 19),.grd 20 true (.load 21 none (.t 2)),.grd 20 true (.aj 22 (.t 5)),.grd 20 true (.bC 23 1 (.t 21) (.t 22)),.grd 20 true (.load 24 none (.t 23)),.grd 20 true (.un 25 .not (.t 24)),.pick 26 (.t 20) (.t 25) (.c (.bool false)),.aj 27 (.t 26),.grd 27 true (.aj 28 (.t 0)),.grd 27 true (.load 29 none (.t 1)),.grd 27 true (.aj 30 (.t 4)),.grd 27 true (.bC 31 4 (.t 29) (.t 30)),.grd 27 true (.load 32 (some 4) (.t 31)),.grd 27 true (.load 33 none (.t 1)),.grd 27 true (.aj 34 (.t 5)),.grd 27 true (.bC 35 4 (.t 33) (.t 34)),.grd 27 true (.load 36 (some 4) (.t 35)),.grd 27 true (.aj 38 (.t 5)),.grd 27 true (.aj 39 (.t 4)),.grd 27 true (.call 37 92 [(.t 32),(.t 36)]),.grd 27 true (.build 40 [(.int .i64 0),(.int .i64 0),(.int .i64 0)] [(0,1,(.t 37)),(1,1,(.t 38)),(2,1,(.t 39))]),.grd 27 true (.yield 41 (.t 28) [(.t 40)]),.grd 27 true (.un 42 .not (.t 41)),.pick 43 (.t 27) (.t 42) (.c (.bool false))]) (.cond (.t 43) .ret .skip)))) (.ops [.bin 44 .add (.t 13) (.c (.int .i64 1)),.aj 13 (.t 44)]))))
def Jc:ak :=
(.clean [0,1,2,4,7,8,12,13] [0,1,2,7,8] (.block 2 (.loop [0,1,2,4,7,8,12,13] xW)))
def Jd:ak:=(.seq (.ops [.bin 9 .lss (.t 8) (.t 7)]) (.seq (.cond (.t 9) .skip (.exit 0)) (.seq (.block 1 (.seq (.ops [.aj 10 (.t 8),.aB 4 (.t 10)]) (.seq (.ops [.load 11 none (.t 1),.len 12 (.t 11),.aj 13 (.c (.int .i64 0))])
    Jc))) (.ops [.bin 45 .add (.t 8) (.c (.int .i64 1)),.aj 8 (.t 45)]))))
def Je:ak :=
(.clean [0,1,2,7,8] [] (.block 0 (.loop [0,1,2,7,8] Jd)))
def Yq:jv:=⟨3,46,[],(.seq (.ops [.load 6 none (.t 1),.len 7 (.t 6),.aj 8 (.c (.int .i64 0))])
 Je)⟩
def Jf:ak:=(.seq (.ops [.bin 21 .lss (.t 20) (.t 19)]) (.seq (.cond (.t 21) .skip (.exit 2)) (.seq (.block 3 (.seq (.ops [.bC 22 2 (.t 18) (.t 20),.load 23 (some 2) (.t 22),.alloc 9 [(.int .i64 0),(.int .i64 0)],.store none 2 (.t 9) (.t 23)]) (.ops [.aj 24 (.t 5),.aX 25 (.t 9) 1,.load 26 none (.t 25),.bin 27 .add (.t 24) (.t 26),.aB 5 (.t 27)]))) (.ops [.bin 28 .add (.t 20) (.c (.int .i64 1)),.aj 20 (.t 28)]))))
def Jg:ak :=
(.clean [5,7,12,13,14,17,18,19,20] [4,5,12,13,14] (.block 2 (.loop [5,7,12,13,14,17,18,19,20] Jf)))
def Jh:ak:=(.seq (.ops [.bin 15 .lss (.t 14) (.t 13)]) (.seq (.cond (.t 15) .skip (.exit 0)) (.seq (.block 1 (.seq (.ops [.bC 16 1 (.t 12) (.t 14),.load 17 none (.t 16),.aB 7 (.t 17)]) (.seq (.ops [.aj 18 (.t 7),.len 19 (.t 18),.aj 20 (.c (.int .i64 0))])
    Jg))) (.ops [.bin 29 .add (.t 14) (.c (.int .i64 1)),.aj 14 (.t 29)]))))
def Ji:ak :=
(.clean [5,12,13,14] [4,5] (.block 0 (.loop [5,12,13,14] Jh)))
def Yr:jv:=⟨2,31,[.tmp 4],(.seq (.ops [.box 2 (.t 0),.box 3 (.t 1),.aB 4 (.c (.int .i64 0))]) (.seq (.ops [.aB 5 (.c (.int .i64 0))]) (.seq (.seq (.ops [.load 10 (some 4) (.t 2),.load 11 (some 4) (.t 3),.call 12 45 [(.t 10),(.t 11)],.len 13 (.t 12),.aj 14 (.c (.int .i64 0))])
   Ji) (.seq (.ops [.aj 30 (.t 5),.aB 4 (.t 30)]) .ret))))⟩
def Ar:ak:=(.seq (.ops [.bin 9 .lss (.t 8) (.t 7)]) (.seq (.cond (.t 9) .skip (.exit 0)) (.seq (.block 1 (.seq (.ops [.bC 10 1 (.t 6) (.t 8),.load 11 none (.t 10),.aB 5 (.t 11)]) (.seq (.ops [.aj 12 (.t 5),.aj 13 (.t 3),.bin 14 .neq (.t 12) (.t 13)]) (.cond (.t 14) (.seq (.ops [.aj 15 (.t 5),.aB 2 (.t 15)]) .ret) .skip)))) (.ops [.bin 16 .add (.t 8) (.c (.int .i64 1)),.aj 8 (.t 16)]))))
def Jj:ak :=
(.clean [0,3,6,7,8] [2,3] (.block 0 (.loop [0,3,6,7,8] Ar)))
def UC:jv:=⟨1,18,[.tmp 2],(.seq (.ops [.aB 2 (.c (.int .i64 0))]) (.seq (.ops [.aB 3 (.c (.int .i64 0))]) (.seq (.seq (.ops [.aj 6 (.t 0),.len 7 (.t 6),.aj 8 (.c (.int .i64 0))])
   Jj) (.seq (.ops [.aj 17 (.t 3),.aB 2 (.t 17)]) .ret))))⟩
def Jk:ak:=(.seq (.ops [.bin 37 .lss (.t 36) (.t 35)]) (.seq (.cond (.t 37) .skip (.exit 0)) (.seq (.block 1 (.seq (.ops [.aj 38 (.t 36),.aB 11 (.t 38)]) (.vk [] [([0,1,2,3,4,5,6,7,8,9,10,11,12],13)] (some ([14],[],15,[])) [] [.aj 39 (.t 10),.aj 40 (.t 11),.aj 41 (.t 2),.aX 42 (.t 3) 1,.load 43 none (.t 42),.aj 44 (.t 11),.bC 45 1 (.t 43) (.t 44),.load 46 none (.t 45),.aX 47 (.t 4) 1,.load 48 none (.t 47),.aj 49 (.t 11),.bC 50 1 (.t 48) (.t 49),.load 51 none (.t 50),.ku 52 (.t 41) [(.t 46),(.t 51)],.bC 53 1 (.t 39) (.t 40),.store none 1 (.t 53) (.t 52)]))) (.ops [.bin 54 .add (.t 36) (.c (.int .i64 1)),.aj 36 (.t 54)]))))
def Jl:ak :=
(.clean [2,3,4,6,10,33,35,36] [3,6,7,10] (.block 0 (.loop [2,3,4,6,10,33,35,36] Jk)))
def Mc:jv:=⟨3,59,[.cell 6 (some 2),.tmp 7],(.seq (.ops [.box 3 (.t 0),.box 4 (.t 1),.alloc 6 [(.int .i64 0),(.list 1 [])],.aB 7 (.c (.int .i64 0))]) (.seq (.seq (.ops [.load 12 (some 2) (.t 3),.call 13 51 [(.t 12)],.aB 8 (.t 13)]) (.seq (.ops [.aj 14 (.t 8),.bin 15 .neq (.t 14) (.c (.int .i64 0))]) (.cond (.t 15) (.seq (.ops [.build 16 [(.int .i64 0),(.list 1 [])] [],.aj 17 (.t 8),.store none 2 (.t 6) (.t 16),.aB 7 (.t 17)]) .ret) .skip))) (.seq (.seq (.ops [.load 18 (some 2) (.t 4),.call 19 51 [(.t 18)],.aB 9 (.t 19)]) (.seq (.ops [.aj 20 (.t 9),.bin 21 .neq (.t 20) (.c (.int .i64 0))]) (.cond (.t 21) (.seq (.ops [.build 22 [(.int .i64 0),(.list 1 [])] [],.aj 23 (.t 9),.store none 2 (.t 6) (.t 22),.aB 7 (.t 23)]) .ret) .skip))) (.seq (.seq (.ops [.aX 24 (.t 3) 0,.load 25 none (.t 24),.aX 26 (.t 4) 0,.load 27 none (.t 26),.bin 28 .neq (.t 25) (.t 27)]) (.cond (.t 28) (.seq (.ops [.build 29 [(.int .i64 0),(.list 1 [])] [],.store none 2 (.t 6) (.t 29),.aB 7 (.c (.int .i64 22))]) .ret) .skip)) (.seq (.ops [.aX 30 (.t 3) 1,.load 31 none (.t 30),.len 32 (.t 31),.make 33 (.int .u64 0) (.t 32) (.t 32),.aB 10 (.t 33)]) (.seq (.seq (.ops [.aj 34 (.t 10),.len 35 (.t 34),.aj 36 (.c (.int .i64 0))])
    Jl) (.seq (.ops [.aX 55 (.t 3) 0,.load 56 none (.t 55),.aj 57 (.t 10),.build 58 [(.int .i64 0),(.list 1 [])] [(0,1,(.t 56)),(1,1,(.t 57))],.store none 2 (.t 6) (.t 58),.aB 7 (.c (.int .i64 0))]) .ret)))))))⟩
def Md:jv:=⟨2,8,[.tmp 4],(.seq (.ops [.aB 4 (.c (.int .u64 0))]) (.seq (.ops [.aj 5 (.t 0),.aj 6 (.t 1),.bin 7 .or (.t 5) (.t 6),.aB 4 (.t 7)]) .ret))⟩
def Me:jv:=⟨2,6,[.tmp 4],(.seq (.ops [.box 2 (.t 0),.box 3 (.t 1),.aB 4 (.c .su)]) (.seq (.ops [.RH 5 109 [(.t 2),(.t 3)],.aB 4 (.t 5)]) .ret))⟩
def MB:jv:=⟨2,9,[.tmp 4],(.seq (.ops [.aB 4 (.c (.bool false))]) (.seq (.ops [.aj 5 (.t 0),.aj 6 (.t 1),.call 7 112 [(.t 5),(.t 6)],.bin 8 .geq (.t 7) (.c (.int .i64 0)),.aB 4 (.t 8)]) .ret))⟩
def MC:jv:=⟨1,9,[.tmp 2],(.seq (.ops [.aB 2 (.c (.bool false))]) (.seq (.ops [.aj 3 (.t 0),.bin 4 .lss (.t 3) (.c (.int .i64 1)),.aj 5 (.t 4),.grd 5 false (.aj 6 (.t 0)),.grd 5 false (.bin 7 .gtr (.t 6) (.c (.int .i64 4096))),.pick 8 (.t 5) (.c (.bool true)) (.t 7),.aB 2 (.t 8)]) .ret))⟩
def CJ:ak:=(.seq (.ops [.bin 14 .lss (.t 13) (.t 12)]) (.seq (.cond (.t 14) .skip (.exit 0)) (.seq (.block 1 (.seq (.ops [.bC 15 1 (.t 11) (.t 13),.load 16 none (.t 15),.aB 7 (.t 16)]) (.ops [.aj 17 (.t 5),.aj 18 (.t 1),.aj 19 (.t 7),.ku 20 (.t 18) [(.t 19)],.jZ 21 1 [(.t 20)],.app 22 1 (.t 17) (.t 21),.aB 5 (.t 22)]))) (.ops [.bin 23 .add (.t 13) (.c (.int .i64 1)),.aj 13 (.t 23)]))))
def CO:ak :=
(.clean [0,1,5,10,11,12,13,22] [4,5] (.block 0 (.loop [0,1,5,10,11,12,13,22] CJ)))
def MF:jv:=⟨2,25,[.tmp 4],(.seq (.ops [.aB 4 (.nil 1)]) (.seq (.ops [.aj 8 (.t 0),.len 9 (.t 8),.make 10 (.int .i64 0) (.c (.int .i64 0)) (.t 9),.aB 5 (.t 10)]) (.seq (.seq (.ops [.aj 11 (.t 0),.len 12 (.t 11),.aj 13 (.c (.int .i64 0))])
   CO) (.seq (.ops [.aj 24 (.t 5),.aB 4 (.t 24)]) .ret))))⟩
def MG:jv:=⟨1,5,[.tmp 2],(.seq (.ops [.aB 2 (.c (.int .i64 0))]) (.seq (.ops [.aj 3 (.t 0),.len 4 (.t 3),.aB 2 (.t 4)]) .ret))⟩
def MH:jv:=⟨1,6,[.tmp 2],(.seq (.ops [.aB 2 (.c (.bool false))]) (.seq (.ops [.aj 3 (.t 0),.aj 4 (.t 0),.bin 5 .neq (.t 3) (.t 4),.aB 2 (.t 5)]) .ret))⟩
def CP:ak:=(.seq (.seq (.ops [.aj 24 (.t 5),.bin 25 .neq (.t 24) (.c (.int .u64 0))]) (.cond (.t 25) .skip (.exit 2))) (.block 3 (.seq (.seq (.ops [.aj 26 (.t 0),.aj 27 (.t 4),.bin 28 .mul (.t 27) (.c (.int .i64 64)),.aj 29 (.t 5),.call 30 111 [(.t 29)],.bin 31 .add (.t 28) (.t 30),.yield 32 (.t 26) [(.t 31)],.un 33 .not (.t 32)]) (.cond (.t 33) .ret .skip)) (.ops [.aj 34 (.t 5),.aj 35 (.t 5),.bin 36 .sub (.t 35) (.c (.int .u64 1)),.bin 37 .and (.t 34) (.t 36),.aB 5 (.t 37)]))))
def CQ:ak :=
(.clean [0,1,2,4,5,10,11,12] [0,1,2,10,11,12] (.block 2 (.loop [0,1,2,4,5,10,11,12] CP)))
def CU:ak:=(.seq (.ops [.bin 13 .lss (.t 12) (.t 11)]) (.seq (.cond (.t 13) .skip (.exit 0)) (.seq (.block 1 (.seq (.ops [.aj 14 (.t 12),.bC 15 1 (.t 10) (.t 12),.load 16 none (.t 15),.aB 4 (.t 14),.aB 5 (.t 16)]) (.seq (.ops [.aj 17 (.t 5),.aj 18 (.t 4),.load 19 none (.t 2),.aX 20 (.t 1) 0,.load 21 none (.t 20),.call 22 110 [(.t 18),(.t 19),(.t 21)],.bin 23 .and (.t 17) (.t 22),.aB 5 (.t 23)])
    CQ))) (.ops [.bin 38 .add (.t 12) (.c (.int .i64 1)),.aj 12 (.t 38)]))))
def CV:ak :=
(.clean [0,1,2,10,11,12] [] (.block 0 (.loop [0,1,2,10,11,12] CU)))
def MI:jv:=⟨3,39,[],(.seq (.seq (.ops [.load 6 (some 2) (.t 1),.call 7 51 [(.t 6)],.bin 8 .neq (.t 7) (.c (.int .i64 0))]) (.cond (.t 8) .ret .skip)) (.seq (.ops [.aX 9 (.t 1) 1,.load 10 none (.t 9),.len 11 (.t 10),.aj 12 (.c (.int .i64 0))])
  CV))⟩
def Fa:jv:=⟨3,27,[.tmp 6],(.seq (.ops [.aB 6 (.c (.int .u64 0))]) (.seq (.ops [.aj 7 (.t 1),.aj 8 (.t 0),.bin 9 .mul (.t 8) (.c (.int .i64 64)),.bin 10 .sub (.t 7) (.t 9),.mn 11 true (.t 10) (.c (.int .i64 0)),.aj 12 (.t 2),.aj 13 (.t 0),.bin 14 .mul (.t 13) (.c (.int .i64 64)),.bin 15 .sub (.t 12) (.t 14),.mn 16 false (.t 15) (.c (.int .i64 64)),.aB 1 (.t 11),.aB 2 (.t 16)]) (.seq (.seq (.ops [.aj 17 (.t 1),.aj 18 (.t 2),.bin 19 .geq (.t 17) (.t 18)]) (.cond (.t 19) (.seq (.ops [.aB 6 (.c (.int .u64 0))]) .ret) .skip)) (.seq (.ops [.aj 20 (.t 2),.aj 21 (.t 1),.bin 22 .sub (.t 20) (.t 21),.bin 23 .sub (.c (.int .i64 64)) (.t 22),.bin 24 .shr (.c (.int .u64 18446744073709551615)) (.t 23),.aj 25 (.t 1),.bin 26 .shl (.t 24) (.t 25),.aB 6 (.t 26)]) .ret))))⟩
def CW:ak:=(.seq (.ops [.bin 9 .lss (.t 8) (.t 7)]) (.seq (.cond (.t 9) .skip (.exit 0)) (.seq (.block 1 (.seq (.ops [.aj 10 (.t 8),.aB 5 (.t 10)]) (.seq (.ops [.aj 11 (.t 1),.aj 12 (.t 0),.aj 13 (.t 5),.bC 14 1 (.t 12) (.t 13),.load 15 none (.t 14),.ku 16 (.t 11) [(.t 15)]]) (.cond (.t 16) (.seq (.ops [.aj 17 (.t 5),.aB 4 (.t 17)]) .ret) .skip)))) (.ops [.bin 18 .add (.t 8) (.c (.int .i64 1)),.aj 8 (.t 18)]))))
def CX:ak :=
(.clean [0,1,7,8] [4] (.block 0 (.loop [0,1,7,8] CW)))
def MJ:jv:=⟨2,19,[.tmp 4],(.seq (.ops [.aB 4 (.c (.int .i64 0))]) (.seq (.seq (.ops [.aj 6 (.t 0),.len 7 (.t 6),.aj 8 (.c (.int .i64 0))])
  CX) (.seq (.ops [.aB 4 (.c (.int .i64 (-1)))]) .ret)))⟩
def tab:List (Nat × Vs):=[(6,.code fn6),(11,.code XQ),(12,.code adW),(13,.code adX),(15,.code Ia),(16,.code Ed),(18,.code adY),(20,.code adZ),(22,.code LY),(24,.code LZ),(25,.code L6),(26,.code XR),(27,.code XT),(29,.code XU),(34,.code XV),(41,.code XW),(42,.ext Gi),(43,.code ad1),(44,.code XY),(45,.code XZ),(46,.code Uy),(47,.code X0),(48,.code X5),(49,.code X6),(50,.code X7),(51,.code Ee),(52,.code X8),(53,.code L8),(56,.code X9),(57,.code ad2),(58,.code ad3),(59,.code ad4),(60,.code ad5),(61,.code ad6),(62,.code Ya),(64,.ext JI),(65,.code Uz),(66,.code Yb),(67,.code Yc),(68,.code Yd),(69,.code Ye),(70,.code Yf),(77,.code Yg),(79,.code UA),(80,.code Yh),(81,.code Yi),(82,.code Yj),(83,.code Yk),(84,.code Yl),(85,.code Ym),(86,.code Yn),(87,.code Yo),(88,.code PX),(89,.code L9),(90,.code Yp),(91,.code Yq),(92,.code Yr),(93,.code UC),(99,.code Mc),(100,.code Md),(101,.code Me),(102,.code MB),(103,.code MC),(104,.code MF),(105,.code MG),(106,.code MH),(109,.code MI),(110,.code Fa),(111,.ext tzX),(112,.code MJ),]
def env:Env:=fun f=>tab.lookup f
theorem aiR:env 6=some (.code fn6):=rfl
theorem agp:env 11=some (.code XQ):=rfl
theorem MK:env 15=some (.code Ia):=rfl
theorem Fb:env 16=some (.code Ed):=rfl
theorem QW:env 22=some (.code LY):=rfl
theorem QX:env 24=some (.code LZ):=rfl
theorem QY:env 25=some (.code L6):=rfl
theorem agq:env 26=some (.code XR):=rfl
theorem agr:env 27=some (.code XT):=rfl
theorem ags:env 29=some (.code XU):=rfl
theorem agt:env 34=some (.code XV):=rfl
theorem agu:env 41=some (.code XW):=rfl
theorem agv:env 44=some (.code XY):=rfl
theorem agw:env 45=some (.code XZ):=rfl
theorem acU:env 46=some (.code Uy):=rfl
theorem agx:env 47=some (.code X0):=rfl
theorem agy:env 48=some (.code X5):=rfl
theorem agz:env 49=some (.code X6):=rfl
theorem agA:env 50=some (.code X7):=rfl
theorem Fe:env 51=some (.code Ee):=rfl
theorem agB:env 52=some (.code X8):=rfl
theorem QZ:env 53=some (.code L8):=rfl
theorem agC:env 56=some (.code X9):=rfl
theorem agD:env 62=some (.code Ya):=rfl
theorem agE:env 64=some (.ext JI):=rfl
theorem acV:env 65=some (.code Uz):=rfl
theorem agF:env 66=some (.code Yb):=rfl
theorem agG:env 67=some (.code Yc):=rfl
theorem agH:env 68=some (.code Yd):=rfl
theorem agI:env 69=some (.code Ye):=rfl
theorem agJ:env 70=some (.code Yf):=rfl
theorem agK:env 77=some (.code Yg):=rfl
theorem acW:env 79=some (.code UA):=rfl
theorem agL:env 80=some (.code Yh):=rfl
theorem agM:env 81=some (.code Yi):=rfl
theorem agN:env 82=some (.code Yj):=rfl
theorem agO:env 83=some (.code Yk):=rfl
theorem agP:env 84=some (.code Yl):=rfl
theorem agQ:env 85=some (.code Ym):=rfl
theorem agR:env 86=some (.code Yn):=rfl
theorem agS:env 87=some (.code Yo):=rfl
theorem Yt:env 88=some (.code PX):=rfl
theorem Q5:env 89=some (.code L9):=rfl
theorem agT:env 90=some (.code Yp):=rfl
theorem agU:env 91=some (.code Yq):=rfl
theorem agV:env 92=some (.code Yr):=rfl
theorem acX:env 93=some (.code UC):=rfl
theorem Q7:env 99=some (.code Mc):=rfl
theorem ad7:env 100=some (.code Md):=rfl
theorem ad8:env 101=some (.code Me):=rfl
theorem ad9:env 102=some (.code MB):=rfl
theorem aea:env 103=some (.code MC):=rfl
theorem aeb:env 104=some (.code MF):=rfl
theorem aec:env 105=some (.code MG):=rfl
theorem aed:env 106=some (.code MH):=rfl
theorem aee:env 109=some (.code MI):=rfl
theorem Yu:env 110=some (.code Fa):=rfl
theorem aef:env 111=some (.ext tzX):=rfl
theorem aeg:env 112=some (.code MJ):=rfl
end Go.Proofs.YtaaokejjmdbfaaaDoor

namespace Go.Proofs.YtaaokejjmdbfaaaDoor
open V
def oW:=(And.intro (And.intro (And.intro (And.intro (And.intro (And.intro (And.intro (And.intro @Lm (And.intro @Xe @Xf)) (And.intro (And.intro @aaS @Lp) (And.intro @Lr @Xd))) (And.intro (And.intro (And.intro @Ht @Xj) (And.intro @aaO @OU)) (And.intro (And.intro @OV @Le) (And.intro @Lh @aaP)))) (And.intro (And.intro (And.intro (And.intro @Hr @Lj) (And.intro @Tv @TA)) (And.intro (And.intro @bG @List.foldl_nil.{0,0}) (And.intro @List.foldl_cons.{0,0} @aaL))) (And.intro (And.intro (And.intro @aaM @aaQ) (And.intro @W9 @EU)) (And.intro (And.intro @Xb @aaR) (And.intro @Ll @TD))))) (And.intro (And.intro (And.intro (And.intro @Xc (And.intro @zU @Hu)) (And.intro (And.intro @Ec @LD) (And.intro @Xk @TF))) (And.intro (And.intro (And.intro @OX @aaT) (And.intro @OT @zI)) (And.intro (And.intro @LG @O4) (And.intro @LH @O5)))) (And.intro (And.intro (And.intro (And.intro @fJ.eq_1 @fJ.eq_2) (And.intro @fJ.eq_3 @resultList.eq_1)) (And.intro (And.intro @resultList.eq_2 @mO.eq_1) (And.intro @mO.eq_2 @mO.eq_3))) (And.intro (And.intro (And.intro @zBV.eq_1 @zBV.eq_2) (And.intro @splice.eq_1 @PV.sD.eq_1)) (And.intro (And.intro @PV.sD.eq_2 @PV.sD.eq_3) (And.intro @PV.sD.eq_4 @St.gG.eq_1)))))) (And.intro (And.intro (And.intro (And.intro (And.intro @St.aZ.eq_1 (And.intro @St.fH.eq_1 @St.fH.eq_2)) (And.intro (And.intro @PV.single.eq_1 @PV.single.eq_2) (And.intro @Xm @TJ))) (And.intro (And.intro (And.intro @aa2 @Xn) (And.intro @Xo @TL)) (And.intro (And.intro @Xp @TM) (And.intro @aa4 @Xr)))) (And.intro (And.intro (And.intro (And.intro @aa5 @Xt) (And.intro @Xu @aa6)) (And.intro (And.intro @aa7 @aa8) (And.intro @aa9 @bG))) (And.intro (And.intro (And.intro @bG @bG) (And.intro @bG @bG)) (And.intro (And.intro @abb @bG) (And.intro @abk @abh))))) (And.intro (And.intro (And.intro (And.intro @abf (And.intro @abd @bG)) (And.intro (And.intro @bG @bG) (And.intro @adR @Xv))) (And.intro (And.intro (And.intro @Xw @Xx) (And.intro @bG @Xy)) (And.intro (And.intro @bG @bG) (And.intro @bG @abn)))) (And.intro (And.intro (And.intro (And.intro @bG @abo) (And.intro @TN @adS)) (And.intro (And.intro @abp @TP) (And.intro @abq @TQ))) (And.intro (And.intro (And.intro @Xz @XA) (And.intro @abr @bG)) (And.intro (And.intro @bG @bG) (And.intro @TS @abt))))))) (And.intro (And.intro (And.intro (And.intro (And.intro (And.intro @abu (And.intro @abv @abw)) (And.intro (And.intro @bG @bG) (And.intro @bG @bG))) (And.intro (And.intro (And.intro @bG @abl) (And.intro @bG @abm)) (And.intro (And.intro @abj @abg) (And.intro @abe @bG)))) (And.intro (And.intro (And.intro (And.intro @bG @bG) (And.intro @adT @XB)) (And.intro (And.intro @XC @XD) (And.intro @bG @XE))) (And.intro (And.intro (And.intro @bG @bG) (And.intro @bG @abx)) (And.intro (And.intro @bG @aby) (And.intro @TU @adU))))) (And.intro (And.intro (And.intro (And.intro @abz (And.intro @TV @abA)) (And.intro (And.intro @TW @XF) (And.intro @XG @abB))) (And.intro (And.intro (And.intro @bG @bG) (And.intro @bG @TY)) (And.intro (And.intro @plain.eq_1 @plain.eq_2) (And.intro @plain.eq_3 @plain.eq_4)))) (And.intro (And.intro (And.intro (And.intro @plain.eq_5 @plain.eq_6) (And.intro @plain.eq_7 @plain.eq_8)) (And.intro (And.intro @plain.eq_9 @plain.eq_10) (And.intro @plain.eq_11 @plain.eq_12))) (And.intro (And.intro (And.intro @plain.eq_13 @plain.eq_14) (And.intro @plain.eq_15 @plain.eq_16)) (And.intro (And.intro @plain.eq_17 @plain.eq_18) (And.intro @plain.eq_19 @plain.eq_20)))))) (And.intro (And.intro (And.intro (And.intro (And.intro @plain.eq_21 (And.intro @plain.eq_22 @plain.eq_23)) (And.intro (And.intro @plain.eq_24 @plain.eq_25) (And.intro @plain.eq_26 @plain.eq_27))) (And.intro (And.intro (And.intro @plain.eq_28 @plain.eq_29) (And.intro @plain.eq_30 @plain.eq_31)) (And.intro (And.intro @plain.eq_32 @plain.eq_33) (And.intro @act.eq_1 @act.eq_2)))) (And.intro (And.intro (And.intro (And.intro @act.eq_3 @act.eq_4) (And.intro @act.eq_5 @act.eq_6)) (And.intro (And.intro @act.eq_7 @act.eq_8) (And.intro @act.eq_9 @act.eq_10))) (And.intro (And.intro (And.intro @act.eq_11 @act.eq_12) (And.intro @act.eq_13 @act.eq_14)) (And.intro (And.intro @act.eq_15 @act.eq_16) (And.intro @act.eq_17 @act.eq_18))))) (And.intro (And.intro (And.intro (And.intro (And.intro @act.eq_19 @dw.eq_1) (And.intro @dw.eq_2 @dw.eq_3)) (And.intro (And.intro @dw.eq_4 @dw.eq_5) (And.intro @dw.eq_6 @dw.eq_7))) (And.intro (And.intro (And.intro @dw.eq_8 @dw.eq_9) (And.intro @dw.eq_10 @dw.eq_11)) (And.intro (And.intro @dw.eq_12 @dw.eq_13) (And.intro @dw.eq_14 @dw.eq_15)))) (And.intro (And.intro (And.intro (And.intro @dw.eq_16 @dw.eq_17) (And.intro @dw.eq_18 @dw.eq_19)) (And.intro (And.intro @dw.eq_20 @dw.eq_21) (And.intro @dw.eq_22 @dw.eq_23))) (And.intro (And.intro (And.intro @dw.eq_24 @dw.eq_25) (And.intro @dw.eq_26 @dw.eq_27)) (And.intro (And.intro @dw.eq_28 @dw.eq_29) (And.intro @dw.eq_30 @dw.eq_31)))))))) (And.intro (And.intro (And.intro (And.intro (And.intro (And.intro (And.intro @dw.eq_32 (And.intro @dw.eq_33 @dw.eq_34)) (And.intro (And.intro @dw.eq_35 @dw.eq_36) (And.intro @dw.eq_37 @dw.eq_38))) (And.intro (And.intro (And.intro @dw.eq_39 @dw.eq_40) (And.intro @dw.eq_41 @dw.eq_42)) (And.intro (And.intro @dw.eq_43 @dw.eq_44) (And.intro @dw.eq_45 @dw.eq_46)))) (And.intro (And.intro (And.intro (And.intro @dw.eq_47 @dw.eq_48) (And.intro @dw.eq_49 @Bool.false_eq_true)) (And.intro (And.intro @if_true.{1} @if_false.{1}) (And.intro @O6 @LJ))) (And.intro (And.intro (And.intro @St.get.eq_1 @St.get.eq_2) (And.intro @St.get.eq_3 @St.put.eq_1)) (And.intro (And.intro @St.dH.eq_1 @St.putRow.eq_1) (And.intro @St.consume.eq_1 @St.consume.eq_2))))) (And.intro (And.intro (And.intro (And.intro @St.consume.eq_3 (And.intro @St.freeze.eq_1 @St.row.eq_1)) (And.intro (And.intro @St.row.eq_2 @St.row.eq_3) (And.intro @St.elems.eq_1 @St.grab.eq_1))) (And.intro (And.intro (And.intro @St.grab.eq_2 @St.grab.eq_3) (And.intro @oZ.eq_1 @oZ.eq_2)) (And.intro (And.intro @oZ.eq_3 @oZ.eq_4) (And.intro @RJ.eq_1 @RJ.eq_2)))) (And.intro (And.intro (And.intro (And.intro @jD.eq_1 @jD.eq_2) (And.intro @jD.eq_3 @jD.eq_4)) (And.intro (And.intro @St.takeRow.eq_1 @St.takeRow.eq_2) (And.intro @St.takeRow.eq_3 @St.setRow.eq_1))) (And.intro (And.intro (And.intro @St.setRow.eq_2 @St.setRow.eq_3) (And.intro @St.place.eq_1 @St.place.eq_2)) (And.intro (And.intro @St.vG.eq_1 @St.vG.eq_2) (And.intro @St.setCell.eq_1 @St.jC.eq_1)))))) (And.intro (And.intro (And.intro (And.intro (And.intro @y8.eq_1 (And.intro @y8.eq_2 @y8.eq_3)) (And.intro (And.intro @y8.eq_4 @AO.eq_1) (And.intro @AO.eq_2 @AO.eq_3))) (And.intro (And.intro (And.intro @AO.eq_4 @gq.eq_1) (And.intro @gq.eq_2 @gq.eq_3)) (And.intro (And.intro @gq.eq_4 @gq.eq_5) (And.intro @gq.eq_6 @gq.eq_7)))) (And.intro (And.intro (And.intro (And.intro @gq.eq_8 @gq.eq_9) (And.intro @gq.eq_10 @gq.eq_11)) (And.intro (And.intro @gq.eq_12 @gq.eq_13) (And.intro @gq.eq_14 @gq.eq_15))) (And.intro (And.intro (And.intro @gq.eq_16 @gq.eq_17) (And.intro @RI.eq_1 @RI.eq_2)) (And.intro (And.intro @RI.eq_3 @RI.eq_4) (And.intro @BV.val.eq_1 @BV.val.eq_2))))) (And.intro (And.intro (And.intro (And.intro @BV.av.eq_1 (And.intro @BV.av.eq_2 @Uu)) (And.intro (And.intro @PU @Uw) (And.intro @PW @cells_func))) (And.intro (And.intro (And.intro @Ux @LX) (And.intro @E5 @E8)) (And.intro (And.intro @XH @Ua) (And.intro @Ub @Pn)))) (And.intro (And.intro (And.intro (And.intro @XI @Ud) (And.intro @Uc @Ue)) (And.intro (And.intro @Po @Pq) (And.intro @Pv @Px))) (And.intro (And.intro (And.intro @XJ @Uf) (And.intro @Ug @Py)) (And.intro (And.intro @XK @Ui) (And.intro @Uh @Uj))))))) (And.intro (And.intro (And.intro (And.intro (And.intro (And.intro @PD (And.intro @Pz @PG)) (And.intro (And.intro @PE @XL) (And.intro @Uk @Ul))) (And.intro (And.intro (And.intro @PI @XM) (And.intro @Un @Um)) (And.intro (And.intro @Uo @PN) (And.intro @PK @PS)))) (And.intro (And.intro (And.intro (And.intro @PO @bound.eq_1) (And.intro @bound.eq_2 @bound.eq_3)) (And.intro (And.intro @eF.eq_1 @eF.eq_2) (And.intro @gW.eq_1 @gW.eq_2))) (And.intro (And.intro (And.intro @vV.eq_1 @vV.eq_2) (And.intro @capOf.eq_1 @EX)) (And.intro (And.intro @adQ @aN) (And.intro @aU @aJ))))) (And.intro (And.intro (And.intro (And.intro @aS (And.intro @List.append_nil.{0} @aT)) (And.intro (And.intro @aK @Nat.zero_add) (And.intro @Nat.add_zero @LP))) (And.intro (And.intro (And.intro @LM @LK) (And.intro @zJ @decide_true)) (And.intro (And.intro @decide_false @Bool.not_true) (And.intro @Bool.not_false @Bool.true_eq_false)))) (And.intro (And.intro (And.intro (And.intro @beq_self_eq_true.{0} @Bool.true_and) (And.intro @Bool.and_true @Bool.false_and)) (And.intro (And.intro @Bool.and_false @Bool.true_or) (And.intro @Bool.false_or @Bool.or_false))) (And.intro (And.intro (And.intro @Bool.or_true @agk) (And.intro @agl @ET)) (And.intro (And.intro @Tt @List.length_map.{0,0}) (And.intro @LQ @Xl)))))) (And.intro (And.intro (And.intro (And.intro (And.intro @LU (And.intro @O7 @aa0)) (And.intro (And.intro @O8 @O9) (And.intro @aa1 @Pg))) (And.intro (And.intro (And.intro @dcall.eq_1 @yR.eq_1) (And.intro @aa3.eq_1 @LW.eq_1)) (And.intro (And.intro @EZ.eq_1 @Hz.eq_1) (And.intro @qJ.eq_1 @mg.eq_1)))) (And.intro (And.intro (And.intro (And.intro @mg.eq_2 @mg.eq_3) (And.intro @OY @OZ)) (And.intro (And.intro @O1 @aaU) (And.intro @aaV @aaW))) (And.intro (And.intro (And.intro @aaX @aaY) (And.intro @aaZ @Lu)) (And.intro (And.intro @Xh @zV) (And.intro @Cj @List.mapM_cons.{0,0,0}))))) (And.intro (And.intro (And.intro (And.intro (And.intro @Ph @St.jw.eq_1) (And.intro @St.jw.eq_2 @St.snap.eq_1)) (And.intro (And.intro @St.snap.eq_2 @St.snap.eq_3) (And.intro @St.snap.eq_4 @St.snap.eq_5))) (And.intro (And.intro (And.intro @St.snap.eq_6 @Pj) (And.intro @TG @Pm)) (And.intro (And.intro @TI @XO) (And.intro @Ur @XP)))) (And.intro (And.intro (And.intro (And.intro @Us @Ut) (And.intro @St.layAll.eq_1 @St.layAll.eq_2)) (And.intro (And.intro @St.lay.eq_1 @St.lay.eq_2) (And.intro @St.lay.eq_3 @Hy))) (And.intro (And.intro (And.intro @LV @St.bZ.eq_1) (And.intro @St.bg.eq_1 @St.bg.eq_2)) (And.intro (And.intro @St.bg.eq_3 @St.bg.eq_4) (And.intro @St.bg.eq_5 @St.bg.eq_6)))))))))
def Yv:=(And.intro (And.intro (And.intro (And.intro @List.isEmpty_nil.{0} (And.intro @aag @NP)) (And.intro @Ef (And.intro @RN @RP))) (And.intro (And.intro @NM (And.intro @Int.le_refl @H7)) (And.intro @Nat.le_refl (And.intro @St.bf.eq_1 @BV.frozen.eq_1)))) (And.intro (And.intro (And.intro @BV.frozen.eq_2 (And.intro @List.take_length.{0} @List.take_append_drop.{0})) (And.intro @aF (And.intro @Int.toNat_zero @true_and))) (And.intro (And.intro @and_true (And.intro @and_self @eq_self.{1})) (And.intro @zJ (And.intro @List.drop_nil.{0} @List.take_nil.{0})))))
def bJ:=(And.intro (And.intro @Nat.zero_le (And.intro @List.take_zero.{0} @List.take_nil.{0})) (And.intro (And.intro @List.take_succ_cons.{0} @List.length_cons.{0}) (And.intro @List.length_nil.{0} @Nat.le_refl)))
def bI:=And.intro @Yv @oW
end Go.Proofs.YtaaokejjmdbfaaaDoor

namespace Go.Proofs.YtaaokejjmdbfaaaDoor.V
theorem CY (x:fV):part (nM x) 0 (some 8)=some (.agg (nM x)):=by
 simp only [part,ji,Nat.zero_add,List.drop_zero]
 rw [if_pos (Nat.le_refl _),List.take_of_length_le (by rw [ji];exact Nat.le_refl _)]
theorem CZ:∀ a b:List UInt8,a.length=b.length→iM (a.map fun b=>.int .u8 (b.toNat:Int)) (b.map fun b=>.int .u8 (b.toNat:Int))=some (decide (a=b))
 |[],[],_=>rfl
 |x :: a,y :: b,h=>by
  simp only [List.length_cons,Nat.add_right_cancel_iff] at h
  simp only [List.map_cons,iM,if_pos,CZ a b h,Option.map_some,List.cons.injEq]
  congr 1
  have:((x.toNat:Int)==(y.toNat:Int))=decide (x=y):=by
   by_cases e:x=y
   ·subst e;simp
   ·have:¬ x.toNat=y.toNat:=fun h=>e (UInt8.toNat_inj.1 h)
    simp [e];omega
  rw [this,Bool.decide_and]
 |[],_ :: _,h=>by simp at h
 |_ :: _,[],h=>by simp at h
theorem tZ (a b:fV):iM (nM a) (nM b)=some (decide (a=b)):=by
 unfold nM
 rw [CZ _ _ (by simp)]
 congr 1
 apply decide_eq_decide.2
 exact ⟨fun h=>Vector.toList_inj.1 h,fun h=>by rw [h]⟩
end Go.Proofs.YtaaokejjmdbfaaaDoor.V

namespace Go.Proofs.YtaaokejjmdbfaaaDoor.V
def abN {α:Type} (p:α→Bool) (l:List α):Int:=if l.any p then (l.findIdx p:Int) else -1
theorem ML {α:Type} (p:α→Bool) (l:List α):decide (abN p l ≥ 0)=l.any p:=by
 unfold abN
 cases l.any p
 ·rfl
 ·simp only [if_true];exact decide_eq_true (by omega)
def eqF {α β:Type} (eq:α→β→Bool) (l:List α) (m:List β):Bool:=decide (l.length=m.length)&&(l.zip m).all fun q=>eq q.1 q.2
--+
theorem abO {α:Type} {enc:α→PV} {l:List α} {p:α→Bool} {gf:Nat} {caps:List PV} (hp:∀ x∈l,cal env gf (enc x :: caps)=some [(.bool (p x),false)]) (hs:∀ x,part (enc x).cells 0 none=some (enc x)) (hl:l.length≤lim)
  {st:St} (h:st.head [0,1,7,8] st.boxes.length=some ⟨[.pv (.list 1 (l.map enc)),.pv (.func gf caps),.any,.any,.any,.any,.any,.pv (.int .i64 l.length),.pv (.int .i64 (0:Nat)),.any,.any,.any,.any,.any,.any,.any,.any,.any,.any],[],[],none⟩) :
  den env CX st=if l.any p then some (.ret,⟨[.any,.any,.any,.any,.pv (.int .i64 (l.findIdx p)),.any,.any,.any,.any,.any,.any,.any,.any,.any,.any,.any,.any,.any,.any],[],[],none⟩) else some (.normal,⟨[.any,.any,.any,.any,.any,.any,.any,.any,.any,.any,.any,.any,.any,.any,.any,.any,.any,.any,.any],[],[],none⟩):=by
 unfold CX
 rw [bH l.length (fun i=>⟨[.pv (.list 1 (l.map enc)),.pv (.func gf caps),.any,.any,.any,.any,.any,.pv (.int .i64 l.length),.pv (.int .i64 i),.any,.any,.any,.any,.any,.any,.any,.any,.any,.any],[],[],none⟩)
  (fun i=>if (l.drop i).any p then some (.ret,⟨[.any,.any,.any,.any,.pv (.int .i64 ((i+(l.drop i).findIdx p:Nat):Int)),.any,.any,.any,.any,.any,.any,.any,.any,.any,.any,.any,.any,.any,.any],[],[],none⟩) else some (.normal,⟨[.any,.any,.any,.any,.any,.any,.any,.any,.any,.any,.any,.any,.any,.any,.any,.any,.any,.any,.any],[],[],none⟩)) h (fun _=>rfl) (fun _=>rfl) ?_ ?_]
 ·simp only [List.drop_zero,Nat.zero_add]
 ·intro i rb hi ih
  have hi1:=bD hi hl
  have F1:((i:Int)<(l.length:Int))=True:=eq_true (by omega)
  simp only [CW,F1,List.length_map,ah hi,List.getElem?_map,List.getElem?_eq_getElem hi,hp _ (List.getElem_mem hi),hs,oW,reduceCtorEq,Nat.reduceEqDiff,Nat.reduceAdd,Nat.reduceLT,Nat.reduceLeDiff,Nat.beq]
  (try simp only [iq,jd,iw]);refine fP (fun hb=>?_) (fun hb=>?_)<;>try simp only [hb,bI,reduceCtorEq,Nat.reduceEqDiff,Nat.reduceAdd,Nat.reduceLT,Nat.reduceLeDiff,Nat.beq]
  ·rw [List.drop_eq_getElem_cons hi]
   simp only [List.any_cons,hb,Bool.true_or,if_true,List.findIdx_cons,cond_true,Nat.add_zero]
   rfl
  ·rw [ih _ (by simp only [hi1];rfl),List.drop_eq_getElem_cons hi]
   simp only [List.any_cons,hb,Bool.false_or,List.findIdx_cons,cond_false,Nat.add_assoc,Nat.add_comm 1]
 ·intro rb
  simp only [CW,Int.lt_irrefl,oW,reduceCtorEq,Nat.reduceEqDiff,Nat.reduceAdd,Nat.reduceLT,Nat.reduceLeDiff,Nat.beq]
  simp only [List.drop_length,List.any_nil,Bool.false_eq_true,if_false]
  rfl
theorem aeh {α:Type} {enc:α→PV} {l:List α} {p:α→Bool} {gf:Nat} {caps:List PV} (hp:∀ x∈l,cal env gf (enc x :: caps)=some [(.bool (p x),false)]) (hs:∀ x,part (enc x).cells 0 none=some (enc x)) (hl:l.length≤lim) :
  cal env 112 [.list 1 (l.map enc),.func gf caps]=some [(.int .i64 (abN p l),false)]:=by
 rw [au aeg rfl];simp only [MJ];simp only [start,aN,aU,aJ,aS,aF,aG,aK,aT,Nat.reduceAdd,Nat.reduceSub]
 simp only [List.length_map,oW,reduceCtorEq,Nat.reduceEqDiff,Nat.reduceAdd,Nat.reduceLT,Nat.reduceLeDiff,Nat.beq]
 rw [abO hp hs hl]
 rotate_left
 ·rfl
 ·simp only [abN]
  split<;>simp only [oW,reduceCtorEq,Nat.reduceEqDiff,Nat.reduceAdd,Nat.reduceLT,Nat.reduceLeDiff,Nat.beq]
--+
theorem aei {α:Type} {enc:α→PV} {l:List α} {p:α→Bool} {gf:Nat} {caps:List PV} (hp:∀ x∈l,cal env gf (enc x :: caps)=some [(.bool (p x),false)]) (hs:∀ x,part (enc x).cells 0 none=some (enc x)) (hl:l.length≤lim) :
  cal env 102 [.list 1 (l.map enc),.func gf caps]=some [(.bool (l.any p),false)]:=by
 rw [au ad9 rfl];simp only [MB];simp only [start,aN,aU,aJ,aS,aF,aG,aK,aT,Nat.reduceAdd,Nat.reduceSub]
 simp only [aeh hp hs hl,ML,oW,reduceCtorEq,Nat.reduceEqDiff,Nat.reduceAdd,Nat.reduceLT,Nat.reduceLeDiff,Nat.beq]
--+
theorem aej {l m:List Int} (hlm:l.length=m.length) (hl:l.length≤lim)
  {st:St} (h:st.head [0,1,12,13] st.boxes.length=some ⟨[.pv (.list 1 (l.map eI)),.pv (.list 1 (m.map eI)),.any,.any,.any,.any,.any,.any,.any,.any,.any,.any,.pv (.int .i64 l.length),.pv (.int .i64 (0:Nat)),.any,.any,.any,.any,.any,.any,.any,.any,.any,.any,.any,.any],[],[],none⟩) :
  den env Iy st=if l=m then some (.normal,⟨[.any,.any,.any,.any,.any,.any,.any,.any,.any,.any,.any,.any,.any,.any,.any,.any,.any,.any,.any,.any,.any,.any,.any,.any,.any,.any],[],[],none⟩) else some (.ret,⟨[.any,.any,.any,.any,.pv (.bool false),.any,.any,.any,.any,.any,.any,.any,.any,.any,.any,.any,.any,.any,.any,.any,.any,.any,.any,.any,.any,.any],[],[],none⟩):=by
 unfold Iy
 rw [bH l.length (fun i=>⟨[.pv (.list 1 (l.map eI)),.pv (.list 1 (m.map eI)),.any,.any,.any,.any,.any,.any,.any,.any,.any,.any,.pv (.int .i64 l.length),.pv (.int .i64 i),.any,.any,.any,.any,.any,.any,.any,.any,.any,.any,.any,.any],[],[],none⟩)
  (fun i=>if l.drop i=m.drop i then some (.normal,⟨[.any,.any,.any,.any,.any,.any,.any,.any,.any,.any,.any,.any,.any,.any,.any,.any,.any,.any,.any,.any,.any,.any,.any,.any,.any,.any],[],[],none⟩) else some (.ret,⟨[.any,.any,.any,.any,.pv (.bool false),.any,.any,.any,.any,.any,.any,.any,.any,.any,.any,.any,.any,.any,.any,.any,.any,.any,.any,.any,.any,.any],[],[],none⟩)) h (fun _=>rfl) (fun _=>rfl) ?_ ?_]
 ·simp only [List.drop_zero]
 ·intro i rb hi ih
  have hi1:=bD hi hl
  have hj:i<m.length:=by omega
  have F1:((i:Int)<(l.length:Int))=True:=eq_true (by omega)
  simp only [Iw,F1,List.length_map,ah hi,ah hj,List.getElem?_map,List.getElem?_eq_getElem hi,List.getElem?_eq_getElem hj,eI,lJ,jh,CY,ji,tZ,iM,oW,reduceCtorEq,Nat.reduceEqDiff,Nat.reduceAdd,Nat.reduceLT,Nat.reduceLeDiff,Nat.beq]
  (try simp only [iq,jd,iw]);refine fP (fun hb=>?_) (fun hb=>?_)<;>try simp only [hb,bI,reduceCtorEq,Nat.reduceEqDiff,Nat.reduceAdd,Nat.reduceLT,Nat.reduceLeDiff,Nat.beq]
  ·rw [ih _ (by simp only [hi1];rfl),List.drop_eq_getElem_cons hi,List.drop_eq_getElem_cons hj]
   have e:l[i]=m[i]:=by
    revert hb
    generalize l[i]=x
    generalize m[i]=y
    first|(intro hb;simpa using hb)|(cases x;cases y;intro hb;simpa using hb)
   simp only [e,List.cons.injEq,true_and]
  ·rw [List.drop_eq_getElem_cons hi,List.drop_eq_getElem_cons hj,if_neg (fun e=>?_)]
   ·rfl
   ·have e:=(List.cons.inj e).1
    rw [e] at hb
    simp at hb
 ·intro rb
  simp only [Iw,Int.lt_irrefl,oW,reduceCtorEq,Nat.reduceEqDiff,Nat.reduceAdd,Nat.reduceLT,Nat.reduceLeDiff,Nat.beq]
  rw [List.drop_length,hlm,List.drop_length,if_pos rfl]
  rfl
theorem agW {l m:List Int} (hl:l.length≤lim) :
  cal env 27 [.list 1 (l.map eI),.list 1 (m.map eI)]=some [(.bool (decide (l=m)),false)]:=by
 rw [au agr rfl];simp only [XT];simp only [start,aN,aU,aJ,aS,aF,aG,aK,aT,Nat.reduceAdd,Nat.reduceSub]
 simp only [List.length_map,oW,reduceCtorEq,Nat.reduceEqDiff,Nat.reduceAdd,Nat.reduceLT,Nat.reduceLeDiff,Nat.beq]
 (try simp only [iq,jd,iw]);refine fP (fun hb=>?_) (fun hb=>?_)<;>try simp only [hb,bI,reduceCtorEq,Nat.reduceEqDiff,Nat.reduceAdd,Nat.reduceLT,Nat.reduceLeDiff,Nat.beq]
 ·have hlm:l.length=m.length:=by simp at hb;omega
  rw [aej hlm hl]
  rotate_left
  ·rfl
  ·by_cases e:l=m
   ·simp only [e,oW,reduceCtorEq,Nat.reduceEqDiff,Nat.reduceAdd,Nat.reduceLT,Nat.reduceLeDiff,Nat.beq]
   ·simp only [e,oW,reduceCtorEq,Nat.reduceEqDiff,Nat.reduceAdd,Nat.reduceLT,Nat.reduceLeDiff,Nat.beq]
 ·have:l≠m:=fun e=>by subst e;simp at hb
  simp only [this,oW,reduceCtorEq,Nat.reduceEqDiff,Nat.reduceAdd,Nat.reduceLT,Nat.reduceLeDiff,Nat.beq]
--+
theorem aek {α β:Type} {enc:α→PV} {enc2:β→PV} {eq:α→β→Bool} {l:List α} {m:List β} {gf:Nat} {caps:List PV} (hp:∀ x∈l,∀ y∈m,cal env gf (enc x :: enc2 y :: caps)=some [(.bool (eq x y),false)]) (hs:∀ x,part (enc x).cells 0 none=some (enc x)) (hs2:∀ x,part (enc2 x).cells 0 none=some (enc2 x)) (hlm:l.length=m.length) (hl:l.length≤lim)
  {st:St} (h:st.head [0,1,2,15,16,17] st.boxes.length=some ⟨[.pv (.list 1 (l.map enc)),.pv (.list 1 (m.map enc2)),.pv (.func gf caps),.any,.any,.any,.any,.any,.any,.any,.any,.any,.any,.any,.any,.pv (.list 1 (l.map enc)),.pv (.int .i64 l.length),.pv (.int .i64 (0:Nat)),.any,.any,.any,.any,.any,.any,.any,.any,.any,.any,.any,.any,.any,.any],[],[],none⟩) :
  den env I7 st=if (l.zip m).all (fun q=>eq q.1 q.2) then some (.normal,⟨[.any,.any,.any,.any,.any,.any,.any,.any,.any,.any,.any,.any,.any,.any,.any,.any,.any,.any,.any,.any,.any,.any,.any,.any,.any,.any,.any,.any,.any,.any,.any,.any],[],[],none⟩) else some (.ret,⟨[.any,.any,.any,.any,.any,.any,.pv (.bool false),.any,.any,.any,.any,.any,.any,.any,.any,.any,.any,.any,.any,.any,.any,.any,.any,.any,.any,.any,.any,.any,.any,.any,.any,.any],[],[],none⟩):=by
 unfold I7
 rw [bH l.length (fun i=>⟨[.pv (.list 1 (l.map enc)),.pv (.list 1 (m.map enc2)),.pv (.func gf caps),.any,.any,.any,.any,.any,.any,.any,.any,.any,.any,.any,.any,.pv (.list 1 (l.map enc)),.pv (.int .i64 l.length),.pv (.int .i64 i),.any,.any,.any,.any,.any,.any,.any,.any,.any,.any,.any,.any,.any,.any],[],[],none⟩)
  (fun i=>if ((l.drop i).zip (m.drop i)).all (fun q=>eq q.1 q.2) then some (.normal,⟨[.any,.any,.any,.any,.any,.any,.any,.any,.any,.any,.any,.any,.any,.any,.any,.any,.any,.any,.any,.any,.any,.any,.any,.any,.any,.any,.any,.any,.any,.any,.any,.any],[],[],none⟩) else some (.ret,⟨[.any,.any,.any,.any,.any,.any,.pv (.bool false),.any,.any,.any,.any,.any,.any,.any,.any,.any,.any,.any,.any,.any,.any,.any,.any,.any,.any,.any,.any,.any,.any,.any,.any,.any],[],[],none⟩)) h (fun _=>rfl) (fun _=>rfl) ?_ ?_]
 ·simp only [List.drop_zero]
 ·intro i rb hi ih
  have hi1:=bD hi hl
  have hj:i<m.length:=by omega
  have F1:((i:Int)<(l.length:Int))=True:=eq_true (by omega)
  simp only [I5,F1,List.length_map,ah hi,ah hj,List.getElem?_map,List.getElem?_eq_getElem hi,List.getElem?_eq_getElem hj,hs,hs2,hp _ (List.getElem_mem hi) _ (List.getElem_mem hj),oW,reduceCtorEq,Nat.reduceEqDiff,Nat.reduceAdd,Nat.reduceLT,Nat.reduceLeDiff,Nat.beq]
  (try simp only [iq,jd,iw]);refine fP (fun hb=>?_) (fun hb=>?_)<;>try simp only [hb,bI,reduceCtorEq,Nat.reduceEqDiff,Nat.reduceAdd,Nat.reduceLT,Nat.reduceLeDiff,Nat.beq]
  ·rw [ih _ (by simp only [hi1];rfl),List.drop_eq_getElem_cons hi,List.drop_eq_getElem_cons hj]
   simp only [List.zip_cons_cons,List.all_cons,hb,Bool.true_and]
  ·rw [List.drop_eq_getElem_cons hi,List.drop_eq_getElem_cons hj]
   simp only [List.zip_cons_cons,List.all_cons,hb,Bool.false_and,Bool.false_eq_true,if_false]
   rfl
 ·intro rb
  simp only [I5,Int.lt_irrefl,oW,reduceCtorEq,Nat.reduceEqDiff,Nat.reduceAdd,Nat.reduceLT,Nat.reduceLeDiff,Nat.beq]
  rw [List.drop_length]
  rfl
theorem agX {α β:Type} {enc:α→PV} {enc2:β→PV} {eq:α→β→Bool} {l:List α} {m:List β} {gf:Nat} {caps:List PV} (hp:∀ x∈l,∀ y∈m,cal env gf (enc x :: enc2 y :: caps)=some [(.bool (eq x y),false)]) (hs:∀ x,part (enc x).cells 0 none=some (enc x)) (hs2:∀ x,part (enc2 x).cells 0 none=some (enc2 x)) (hl:l.length≤lim) :
  cal env 77 [.list 1 (l.map enc),.list 1 (m.map enc2),.func gf caps]=some [(.bool (eqF eq l m),false)]:=by
 rw [au agK rfl];simp only [Yg];simp only [start,aN,aU,aJ,aS,aF,aG,aK,aT,Nat.reduceAdd,Nat.reduceSub]
 simp only [List.length_map,oW,reduceCtorEq,Nat.reduceEqDiff,Nat.reduceAdd,Nat.reduceLT,Nat.reduceLeDiff,Nat.beq]
 (try simp only [iq,jd,iw]);refine fP (fun hb=>?_) (fun hb=>?_)<;>try simp only [hb,bI,reduceCtorEq,Nat.reduceEqDiff,Nat.reduceAdd,Nat.reduceLT,Nat.reduceLeDiff,Nat.beq]
 ·have hlm:l.length=m.length:=by simp at hb;omega
  rw [aek hp hs hs2 hlm hl]
  rotate_left
  ·rfl
  ·simp only [eqF,decide_eq_true hlm,Bool.true_and]
   cases (l.zip m).all (fun q=>eq q.1 q.2)<;>simp only [oW,reduceCtorEq,Nat.reduceEqDiff,Nat.reduceAdd,Nat.reduceLT,Nat.reduceLeDiff,Nat.beq]
 ·have:¬ l.length=m.length:=fun e=>by rw [e] at hb;simp at hb
  simp only [eqF,decide_eq_false this,oW,reduceCtorEq,Nat.reduceEqDiff,Nat.reduceAdd,Nat.reduceLT,Nat.reduceLeDiff,Nat.beq]
end Go.Proofs.YtaaokejjmdbfaaaDoor.V

namespace Go.Proofs.YtaaokejjmdbfaaaDoor.V
def jE (l:List Int):Int:=if l.length<1∨8<l.length then 6 else if l.any (fun n=>decide (n<1) || decide (n > 4096)) then 2 else 0
def aC (im:zZ):List Int:=im.map fun v=>(v.length:Int)
def iU (im:zZ):Int:=jE (aC im)
theorem vM {α β:Type} (f:α→β) {l:List α} {i:Nat} (h:i<l.length):(l.take i).map f++[f l[i]]=(l.take (i+1)).map f:=by
 rw [List.take_succ,List.getElem?_eq_getElem h,List.map_append];rfl
theorem abP {α:Type} {enc:α→PV} {l:List α} {g:α→Int} {gf:Nat} {caps:List PV} (hp:∀ x∈l,cal env gf (enc x :: caps)=some [(eI (g x),false)]) (hs:∀ x,part (enc x).cells 0 none=some (enc x)) (hs3:∀ x,(enc x).cells.length=1) (hl:l.length≤lim)
  {st:St} (h:st.head [0,1,5,10,11,12,13,22] st.boxes.length=some ⟨[.pv (.list 1 (l.map enc)),.pv (.func gf caps),.any,.any,.any,.row 1 [],.any,.any,.any,.any,.any,.pv (.list 1 (l.map enc)),.pv (.int .i64 l.length),.pv (.int .i64 (0:Nat)),.any,.any,.any,.any,.any,.any,.any,.any,.any,.any,.any],[],[],none⟩) :
  den env CO st=some (.normal,⟨[.any,.any,.any,.any,.any,.row 1 (l.map fun x=>eI (g x)),.any,.any,.any,.any,.any,.any,.any,.any,.any,.any,.any,.any,.any,.any,.any,.any,.any,.any,.any],[],[],none⟩):=by
 unfold CO
 rw [bH l.length (fun i=>⟨[.pv (.list 1 (l.map enc)),.pv (.func gf caps),.any,.any,.any,.row 1 ((l.take i).map fun x=>eI (g x)),.any,.any,.any,.any,.any,.pv (.list 1 (l.map enc)),.pv (.int .i64 l.length),.pv (.int .i64 i),.any,.any,.any,.any,.any,.any,.any,.any,.any,.any,.any],[],[],none⟩)
  (fun i=>some (.normal,⟨[.any,.any,.any,.any,.any,.row 1 (l.map fun x=>eI (g x)),.any,.any,.any,.any,.any,.any,.any,.any,.any,.any,.any,.any,.any,.any,.any,.any,.any,.any,.any],[],[],none⟩)) h (fun _=>rfl) (fun _=>rfl) ?_ ?_]
 ·intro i rb hi ih
  have hi1:=bD hi hl
  have F1:((i:Int)<(l.length:Int))=True:=eq_true (by omega)
  have F2:((l.take i).length+1≤lim)=True:=eq_true (by rw [List.length_take];omega)
  have hpi:cal env gf (enc l[i] :: caps)=some [((PV.int .i64 (g l[i])),false)]:=hp _ (List.getElem_mem hi)
  try simp only [jh] at hpi
  simp only [CJ,F1,F2,ah hi,List.getElem?_map,List.getElem?_eq_getElem hi,hpi,hs,hs3,bI,reduceCtorEq,Nat.reduceEqDiff,Nat.reduceAdd,Nat.reduceLT,Nat.reduceLeDiff,Nat.beq]
  rw [ih _ (by simp only [hi1];rw [← vM _ hi];rfl)]
 ·intro rb
  simp only [CJ,Int.lt_irrefl,oW,reduceCtorEq,Nat.reduceEqDiff,Nat.reduceAdd,Nat.reduceLT,Nat.reduceLeDiff,Nat.beq]
  rw [List.take_length]
  rfl
theorem ael {α:Type} {enc:α→PV} {l:List α} {g:α→Int} {gf:Nat} {caps:List PV} (hp:∀ x∈l,cal env gf (enc x :: caps)=some [(eI (g x),false)]) (hs:∀ x,part (enc x).cells 0 none=some (enc x)) (hs3:∀ x,(enc x).cells.length=1) (hl:l.length≤lim) :
  cal env 104 [.list 1 (l.map enc),.func gf caps]=some [(.list 1 (l.map fun x=>eI (g x)),true)]:=by
 rw [au aeb rfl];simp only [MF];simp only [start,aN,aU,aJ,aS,aF,aG,aK,aT,Nat.reduceAdd,Nat.reduceSub]
 have F1:((l.length:Int)≤(lim:Int))=True:=eq_true (by omega)
 have F2:((0:Int)≤(l.length:Int))=True:=eq_true (by omega)
 simp only [F1,F2,Int.le_refl,bI,reduceCtorEq,Nat.reduceEqDiff,Nat.reduceAdd,Nat.reduceLT,Nat.reduceLeDiff,Nat.beq]
 rw [abP hp hs hs3 hl]
 rotate_left
 ·rfl
 ·simp only [bI,reduceCtorEq,Nat.reduceEqDiff,Nat.reduceAdd,Nat.reduceLT,Nat.reduceLeDiff,Nat.beq]
theorem aem {x:Int}:cal env 103 [eI x]=some [(.bool (decide (x<1) || decide (x > 4096)),false)]:=by
 unfold eI
 rw [au aea rfl];simp only [MC];simp only [start,aN,aU,aJ,aS,aF,aG,aK,aT,Nat.reduceAdd,Nat.reduceSub]
 simp only [bI,reduceCtorEq,Nat.reduceEqDiff,Nat.reduceAdd,Nat.reduceLT,Nat.reduceLeDiff,Nat.beq]
 (try simp only [iq,jd,iw]);refine fP (fun hb=>?_) (fun hb=>?_)<;>try simp only [hb,bI,reduceCtorEq,Nat.reduceEqDiff,Nat.reduceAdd,Nat.reduceLT,Nat.reduceLeDiff,Nat.beq]
theorem agY {l:List Int} (hl:l.length≤lim):cal env 82 [.list 1 (l.map eI)]=some [(.int .i64 (jE l),false)]:=by
 have e1:=aei (l:=l) (enc:=eI) (fun x _=>aem (x:=x)) (fun x=>rfl) hl
 rw [au agN rfl];simp only [Yj];simp only [start,aN,aU,aJ,aS,aF,aG,aK,aT,Nat.reduceAdd,Nat.reduceSub]
 simp only [e1,bI,reduceCtorEq,Nat.reduceEqDiff,Nat.reduceAdd,Nat.reduceLT,Nat.reduceLeDiff,Nat.beq]
 repeat' ((try simp only [iq,jd,iw]);refine fP (fun hb=>?_) (fun hb=>?_)<;>try simp only [hb,e1,bI,reduceCtorEq,Nat.reduceEqDiff,Nat.reduceAdd,Nat.reduceLT,Nat.reduceLeDiff,Nat.beq])
 all_goals grind [jE]
theorem aen {v:List fV}:cal env 105 [cO v]=some [(eI v.length,false)]:=by
 unfold cO eI
 rw [au aec rfl];simp only [MG];simp only [start,aN,aU,aJ,aS,aF,aG,aK,aT,Nat.reduceAdd,Nat.reduceSub]
 simp only [bI,reduceCtorEq,Nat.reduceEqDiff,Nat.reduceAdd,Nat.reduceLT,Nat.reduceLeDiff,Nat.beq]
theorem agZ {im:zZ} (hl:im.length≤lim):cal env 83 [.list 1 (im.map cO)]=some [(.list 1 ((aC im).map eI),true)]:=by
 have e1:=ael (enc:=cO) (l:=im) (fun x _=>aen (v:=x)) (fun x=>rfl) (fun x=>rfl) hl
 rw [au agO rfl];simp only [Yk];simp only [start,aN,aU,aJ,aS,aF,aG,aK,aT,Nat.reduceAdd,Nat.reduceSub]
 simp only [e1,bI,reduceCtorEq,Nat.reduceEqDiff,Nat.reduceAdd,Nat.reduceLT,Nat.reduceLeDiff,Nat.beq]
 simp [aC]
theorem ag0 {im:zZ} (hl:im.length≤lim):cal env 50 [.list 1 (im.map cO)]=some [(.int .i64 (iU im),false)]:=by
 have h2:(aC im).length≤lim:=by simpa [aC] using hl
 have e1:=agZ hl
 have e2:=agY h2
 rw [au agA rfl];simp only [X7];simp only [start,aN,aU,aJ,aS,aF,aG,aK,aT,Nat.reduceAdd,Nat.reduceSub]
 simp only [e1,e2,bI,reduceCtorEq,Nat.reduceEqDiff,Nat.reduceAdd,Nat.reduceLT,Nat.reduceLeDiff,Nat.beq]
 rfl
end Go.Proofs.YtaaokejjmdbfaaaDoor.V

namespace Go.Proofs.YtaaokejjmdbfaaaDoor.V
theorem aeo {l:List Int} (hl:l.length≤lim) {st:St} (h:st.head [0,3] st.boxes.length=some ⟨[.pv (.list 1 (l.map eI)),.any,.any,.pv (.int .i64 (0:Nat)),.any,.any,.any,.any,.any,.any,.any,.any,.any,.any,.any,.any,.any,.any,.any,.any,.any,.any,.any,.any,.any,.any,.any,.any,.any,.any],[],[],none⟩) :
  den env I9 st=if l.any (fun n=>decide (n<1) || decide (n > 4096)) then some (.ret,⟨[.any,.any,.pv (.int .i64 2),.any,.any,.any,.any,.any,.any,.any,.any,.any,.any,.any,.any,.any,.any,.any,.any,.any,.any,.any,.any,.any,.any,.any,.any,.any,.any,.any],[],[],none⟩) else some (.normal,⟨[.any,.any,.any,.any,.any,.any,.any,.any,.any,.any,.any,.any,.any,.any,.any,.any,.any,.any,.any,.any,.any,.any,.any,.any,.any,.any,.any,.any,.any,.any],[],[],none⟩):=by
 unfold I9
 rw [ bH (env:=env) (l.length) (fun i=>⟨[.pv (.list 1 (l.map eI)),.any,.any,.pv (.int .i64 i),.any,.any,.any,.any,.any,.any,.any,.any,.any,.any,.any,.any,.any,.any,.any,.any,.any,.any,.any,.any,.any,.any,.any,.any,.any,.any],[],[],none⟩) (fun i=>if (l.drop i).any (fun n=>decide (n<1) || decide (n > 4096)) then some (.ret,⟨[.any,.any,.pv (.int .i64 2),.any,.any,.any,.any,.any,.any,.any,.any,.any,.any,.any,.any,.any,.any,.any,.any,.any,.any,.any,.any,.any,.any,.any,.any,.any,.any,.any],[],[],none⟩) else some (.normal,⟨[.any,.any,.any,.any,.any,.any,.any,.any,.any,.any,.any,.any,.any,.any,.any,.any,.any,.any,.any,.any,.any,.any,.any,.any,.any,.any,.any,.any,.any,.any],[],[],none⟩)) h (fun _=>rfl) (fun _=>rfl) ?_ ?_]
 ·first|rfl|simp only [List.drop_zero,List.take_zero,List.map_nil,Nat.zero_add,List.nil_append,List.foldl_nil]
 ·intro i rb hi ih
  have hi1:=bD hi hl;have F1:((i:Int)<(l.length:Int))=True:=eq_true (by omega)
  simp only [I8,eI,F1,ah hi,List.getElem?_map,List.getElem?_eq_getElem hi,bI,reduceCtorEq,Nat.reduceEqDiff,Nat.reduceAdd,Nat.reduceLT,Nat.reduceLeDiff,Nat.beq]
  rw [List.drop_eq_getElem_cons hi]
  repeat' ((try simp only [iq,jd,iw]);refine fP (fun hb=>?_) (fun hb=>?_)<;>try simp only [hb,eI,ah hi,List.getElem?_map,List.getElem?_eq_getElem hi,bI,reduceCtorEq,Nat.reduceEqDiff,Nat.reduceAdd,Nat.reduceLT,Nat.reduceLeDiff,Nat.beq])
  ·rfl
  ·rfl
  ·rw [ih _ (by simp only [hi1];rfl)]
 ·intro rb
  simp only [I8,Int.lt_irrefl,eI,bI,reduceCtorEq,Nat.reduceEqDiff,Nat.reduceAdd,Nat.reduceLT,Nat.reduceLeDiff,Nat.beq]
  rw [List.drop_length]
  rfl
theorem ag1 {l:List Int} (hl:l.length≤lim):cal env 85 [.list 1 (l.map eI)]=some [(.int .i64 (jE l),false)]:=by
 rw [au agQ rfl];simp only [Ym];simp only [start,aN,aU,aJ,aS,aF,aG,aK,aT,Nat.reduceAdd,Nat.reduceSub]
 simp only [eI,bI,reduceCtorEq,Nat.reduceEqDiff,Nat.reduceAdd,Nat.reduceLT,Nat.reduceLeDiff,Nat.beq]
 repeat' ((try simp only [iq,jd,iw]);refine fP (fun hb=>?_) (fun hb=>?_)<;>try simp only [hb,eI,bI,reduceCtorEq,Nat.reduceEqDiff,Nat.reduceAdd,Nat.reduceLT,Nat.reduceLeDiff,Nat.beq])
 ·grind [jE]
 ·grind [jE]
 ·rw [aeo hl]
  rotate_left
  ·rfl
  ·by_cases h:l.any (fun n=>decide (n<1) || decide (n > 4096))=true
   ·simp only [h,oW,reduceCtorEq,Nat.reduceEqDiff,Nat.reduceAdd,Nat.reduceLT,Nat.reduceLeDiff,Nat.beq]
    grind [jE]
   ·simp only [h,oW,reduceCtorEq,Nat.reduceEqDiff,Nat.reduceAdd,Nat.reduceLT,Nat.reduceLeDiff,Nat.beq]
    grind [jE]
theorem aep {im:zZ} (hl:im.length≤lim) {st:St} (h:st.head [0,3,4,18] st.boxes.length=some ⟨[.pv (.list 1 (im.map cO)),.any,.any,.row 1 ((im.take (0:Nat)).map fun v=>eI (v.length:Int)),.pv (.int .i64 (0:Nat)),.any,.any,.any,.any,.any,.any,.any,.any,.any,.any,.any,.any,.any,.any,.any],[],[],none⟩) :
  den env Jb st=some (.normal,⟨[.any,.any,.any,.row 1 (im.map fun v=>eI (v.length:Int)),.any,.any,.any,.any,.any,.any,.any,.any,.any,.any,.any,.any,.any,.any,.any,.any],[],[],none⟩):=by
 unfold Jb
 refine bH (env:=env) (im.length) (fun i=>⟨[.pv (.list 1 (im.map cO)),.any,.any,.row 1 ((im.take i).map fun v=>eI (v.length:Int)),.pv (.int .i64 i),.any,.any,.any,.any,.any,.any,.any,.any,.any,.any,.any,.any,.any,.any,.any],[],[],none⟩) (fun i=>some (.normal,⟨[.any,.any,.any,.row 1 (im.map fun v=>eI (v.length:Int)),.any,.any,.any,.any,.any,.any,.any,.any,.any,.any,.any,.any,.any,.any,.any,.any],[],[],none⟩)) h (fun _=>rfl) (fun _=>rfl) ?_ ?_
 ·intro i rb hi ih
  have hi1:=bD hi hl
  have F1:((i:Int)<(im.length:Int))=True:=eq_true (by omega)
  have F2:((im.take i).length+1≤lim)=True:=eq_true (by rw [List.length_take];omega)
  simp only [Ja,F1,F2,cO,ah hi,List.getElem?_map,List.getElem?_eq_getElem hi,bI,reduceCtorEq,Nat.reduceEqDiff,Nat.reduceAdd,Nat.reduceLT,Nat.reduceLeDiff,Nat.beq]
  rw [ih _ (by simp only [hi1];rw [← vM _ hi];rfl)]
 ·intro rb
  simp only [Ja,Int.lt_irrefl,bI,reduceCtorEq,Nat.reduceEqDiff,Nat.reduceAdd,Nat.reduceLT,Nat.reduceLeDiff,Nat.beq]
  try rw [List.take_length]
  rfl
theorem ag2 {im:zZ} (hl:im.length≤lim):cal env 86 [.list 1 (im.map cO)]=some [(.list 1 ((aC im).map eI),true)]:=by
 rw [au agR rfl];simp only [Yn];simp only [start,aN,aU,aJ,aS,aF,aG,aK,aT,Nat.reduceAdd,Nat.reduceSub]
 simp only [bI,reduceCtorEq,Nat.reduceEqDiff,Nat.reduceAdd,Nat.reduceLT,Nat.reduceLeDiff,Nat.beq]
 rw [aep hl]
 rotate_left
 ·rfl
 ·simp only [bI,reduceCtorEq,Nat.reduceEqDiff,Nat.reduceAdd,Nat.reduceLT,Nat.reduceLeDiff,Nat.beq]
  simp [aC]
theorem ag3 {im:zZ} (hl:im.length≤lim):cal env 52 [.list 1 (im.map cO)]=some [(.int .i64 (iU im),false)]:=by
 have h2:(aC im).length≤lim:=by simpa [aC] using hl
 have e1:=ag2 hl
 have e2:=ag1 h2
 rw [au agB rfl];simp only [X8];simp only [start,aN,aU,aJ,aS,aF,aG,aK,aT,Nat.reduceAdd,Nat.reduceSub]
 simp only [e1,e2,bI,reduceCtorEq,Nat.reduceEqDiff,Nat.reduceAdd,Nat.reduceLT,Nat.reduceLeDiff,Nat.beq]
 rfl
def PY (im:zZ):Bool:=decide (im.length≤9)&&im.all fun v=>decide (v.length≤24)
theorem aer {im:zZ} (hl:im.length≤lim) {st:St} (h:st.head [0,3] st.boxes.length=some ⟨[.pv (.list 1 (im.map cO)),.any,.any,.pv (.int .i64 (0:Nat)),.any,.any,.any,.any,.any,.any,.any,.any,.any,.any,.any,.any,.any,.any,.any],[],[],none⟩) :
  den env IC st=if im.all (fun v=>decide (v.length≤24)) then some (.normal,⟨[.any,.any,.any,.any,.any,.any,.any,.any,.any,.any,.any,.any,.any,.any,.any,.any,.any,.any,.any],[],[],none⟩) else some (.ret,⟨[.any,.any,.pv (.bool false),.any,.any,.any,.any,.any,.any,.any,.any,.any,.any,.any,.any,.any,.any,.any,.any],[],[],none⟩):=by
 unfold IC
 rw [ bH (env:=env) (im.length) (fun i=>⟨[.pv (.list 1 (im.map cO)),.any,.any,.pv (.int .i64 i),.any,.any,.any,.any,.any,.any,.any,.any,.any,.any,.any,.any,.any,.any,.any],[],[],none⟩) (fun i=>if (im.drop i).all (fun v=>decide (v.length≤24)) then some (.normal,⟨[.any,.any,.any,.any,.any,.any,.any,.any,.any,.any,.any,.any,.any,.any,.any,.any,.any,.any,.any],[],[],none⟩) else some (.ret,⟨[.any,.any,.pv (.bool false),.any,.any,.any,.any,.any,.any,.any,.any,.any,.any,.any,.any,.any,.any,.any,.any],[],[],none⟩)) h (fun _=>rfl) (fun _=>rfl) ?_ ?_]
 ·first|rfl|simp only [List.drop_zero,List.take_zero,List.map_nil,Nat.zero_add,List.nil_append,List.foldl_nil]
 ·intro i rb hi ih
  have hi1:=bD hi hl
  have F1:((i:Int)<(im.length:Int))=True:=eq_true (by omega)
  simp only [IB,F1,cO,ah hi,List.getElem?_map,List.getElem?_eq_getElem hi,bI,reduceCtorEq,Nat.reduceEqDiff,Nat.reduceAdd,Nat.reduceLT,Nat.reduceLeDiff,Nat.beq]
  rw [List.drop_eq_getElem_cons hi,List.all_cons]
  (try simp only [iq,jd,iw]);refine fP (fun hb=>?_) (fun hb=>?_)<;>try simp only [hb,bI,reduceCtorEq,Nat.reduceEqDiff,Nat.reduceAdd,Nat.reduceLT,Nat.reduceLeDiff,Nat.beq]
  ·rw [decide_eq_false (by simp at hb;omega)];rfl
  ·rw [ih _ (by simp only [hi1];rfl),decide_eq_true (show im[i].length≤24 by simp at hb;omega),Bool.true_and]
 ·intro rb
  simp only [IB,Int.lt_irrefl,bI,reduceCtorEq,Nat.reduceEqDiff,Nat.reduceAdd,Nat.reduceLT,Nat.reduceLeDiff,Nat.beq]
  rw [List.drop_length]
  rfl
theorem ag4 {im:zZ}:cal env 41 [.list 1 (im.map cO)]=some [(.bool (PY im),false)]:=by
 rw [au agu rfl];simp only [XW];simp only [start,aN,aU,aJ,aS,aF,aG,aK,aT,Nat.reduceAdd,Nat.reduceSub]
 simp only [bI,reduceCtorEq,Nat.reduceEqDiff,Nat.reduceAdd,Nat.reduceLT,Nat.reduceLeDiff,Nat.beq]
 (try simp only [iq,jd,iw]);refine fP (fun hb=>?_) (fun hb=>?_)<;>try simp only [hb,bI,reduceCtorEq,Nat.reduceEqDiff,Nat.reduceAdd,Nat.reduceLT,Nat.reduceLeDiff,Nat.beq]
 ·simp at hb
  rw [PY,decide_eq_false (by omega)];rfl
 ·have hl:im.length≤9:=by simp at hb;omega
  rw [aer (im:=im) (by unfold lim;omega)]
  rotate_left
  ·rfl
  ·rw [PY,decide_eq_true hl,Bool.true_and]
   cases im.all (fun v=>decide (v.length≤24))<;>simp only [oW,reduceCtorEq,Nat.reduceEqDiff,Nat.reduceAdd,Nat.reduceLT,Nat.reduceLeDiff,Nat.beq]
end Go.Proofs.YtaaokejjmdbfaaaDoor.V

namespace Go.Proofs.YtaaokejjmdbfaaaDoor
noncomputable def iter (env:Env) (f:Nat) (caps:List PV) (stop:Option Nat):Option (List (List PV)):=gK (den env) env f caps stop
def PZ (n:Nat) (caps:List PV) (stop:Option Nat):St:=⟨.oQ :: (caps.map .pv++List.replicate (n - (caps.length+1)) .any),[],[],some stop⟩
def aes:Ex × St→Option (List (List PV))
 |(.exit _,_)=>none
 |(.nK _ _,_)=>none
 |(_,st)=>some st.ys
section
variable {env:Env}
theorem MN (st:St):aes (.normal,st)=some st.ys:=(rfl)
theorem Yw (st:St):aes (.ret,st)=some st.ys:=(rfl)
theorem Fg {f:Nat} {fn:jv} {caps:List PV} {stop:Option Nat} (h:env f=some (.code fn)) (hl:caps.length+1=fn.nargs) (hr:fn.results.isEmpty=true):iter env f caps stop=(den env fn.body (PZ fn.ntmps caps stop)).bind aes:=by
 unfold iter gK
 rw [h]
 simp only [if_pos (And.intro hl hr)]
 show (den env fn.body _).bind _=_
 congr 1
 funext ⟨e,st⟩
 cases e<;>rfl
noncomputable def Dc (env:Env) (slots:List AV) (ps:List Nat) (assign body:ak) (nb:Nat) (x:List PV) (st:St):Option (Ex × St) :=
 (fK slots ps x).bind fun sl=>(den env assign { st with slots:=sl }).bind fun p=>match p with
  |(.normal,st)=>(den env body st).bind fun p=>match p with
   |(.normal,st)=>if nb≤st.boxes.length then some (.normal,{ st with boxes:=st.boxes.take nb }) else none
   |(.nK _ _,_)=>none
   |p=>some p
  |_=>none
theorem MO {slots:List AV} {ps:List Nat} {assign body:ak} {nb k:Nat} {x:List PV} {xs:List (List PV)} {st:St} :
  rounds (den env) slots ps assign body nb k (x :: xs) st=(Dc env slots ps assign body nb x st).bind fun p=>match p with
   |(.normal,st)=>rounds (den env) slots ps assign body nb (k+1) xs st
   |(e,st)=>some (some (e,k+1),st):=by
 conv=>lhs;unfold rounds
 unfold Dc
 show (fK slots ps x).bind _=_
 cases fK slots ps x with
 |none=>rfl
 |some sl =>
  simp only [Option.bind_some]
  show (den env assign _).bind _=_
  cases den env assign { st with slots:=sl } with
  |none=>rfl
  |some p =>
   obtain ⟨e,s⟩:=p
   simp only [Option.bind_some]
   cases e with
   |normal =>
    simp only
    show (den env body _).bind _=_
    cases den env body s with
    |none=>rfl
    |some p =>
     obtain ⟨e,s⟩:=p
     simp only [Option.bind_some]
     cases e with
     |normal =>
      simp only
      split<;>rfl
     |exit i=>rfl
     |ret=>rfl
     |nK t n=>rfl
   |exit i=>rfl
   |ret=>rfl
   |nK t n=>rfl
theorem abQ {g:bP} {ps:List Nat} {assign body:ak} {st st1:St} {f:Nat} {caps:List PV} {xs:List (List PV)} (hg:st.dH g=some (.func f caps)) (hi:iter env f caps none=some xs)
  (hr:rounds (den env) (st.slots.map AV.froze) ps assign body st.boxes.length 0 xs { st with slots:=st.slots.map AV.froze }=some (none,st1)):den env (.rng g ps assign body) st=some (.normal,{ st1 with slots:=st.slots.map AV.froze }):=by
 rw [kN]
 show ranged (den env) env g ps assign body st=_
 unfold ranged
 rw [hg]
 unfold iter at hi
 simp only [EX,Option.bind_some,hi,hr]
theorem Q8 (B:Nat→List Box) {g:bP} {ps:List Nat} {assign body:ak} {st:St} {f:Nat} {caps:List PV} {xs:List (List PV)} (hg:st.dH g=some (.func f caps)) (hi:iter env f caps none=some xs) (hB:st.boxes=B 0)
  (h:∀ j x,xs[j]?=some x→∀ sl0,∃ sl1,Dc env (st.slots.map AV.froze) ps assign body st.boxes.length x ⟨sl0,B j,st.ys,st.stop⟩=some (.normal,⟨sl1,B (j+1),st.ys,st.stop⟩)) :
  den env (.rng g ps assign body) st=some (.normal,⟨st.slots.map AV.froze,B xs.length,st.ys,st.stop⟩):=by
 have key:∀ (l:List (List PV)) (j:Nat),xs.drop j=l→∀ (k:Nat) (sl0:List AV),∃ sl1,rounds (den env) (st.slots.map AV.froze) ps assign body st.boxes.length k l ⟨sl0,B j,st.ys,st.stop⟩=some (none,⟨sl1,B (j+l.length),st.ys,st.stop⟩):=by
  intro l
  induction l with
  |nil=>intro j _ k sl0;exact ⟨sl0,rfl⟩
  |cons x l ih =>
   intro j hj k sl0
   have hx:xs[j]?=some x:=by rw [← List.head?_drop,hj];rfl
   have hd:xs.drop (j+1)=l:=by rw [← List.drop_drop,hj];rfl
   obtain ⟨sl1,q⟩:=h j x hx sl0
   obtain ⟨sl2,q2⟩:=ih (j+1) hd (k+1) sl1
   refine ⟨sl2,?_⟩
   rw [MO,q]
   simp only [Option.bind_some,q2,List.length_cons]
   rw [show j+1+l.length=j+(l.length+1) by omega]
 obtain ⟨sl1,q⟩:=key xs 0 (by simp) 0 (st.slots.map AV.froze)
 rw [← hB,Nat.zero_add] at q
 have r:=abQ hg hi q
 exact r
theorem Fh {keep post:List Nat} {id nb:Nat} {b:ak} (n:Nat) (P:Nat→Prop) (S:Nat→St) (R:Nat→Option (Ex × St)) {st:St} (h:st.head keep st.boxes.length=some (S 0)) (hP:P 0) (hS:∀ i,(S i).boxes.length=nb) (hh:∀ i,(S i).head keep nb=some (S i))
  (step:∀ i rb,i<n→P i→(P (i+1)→∀ s,s.head keep nb=some (S (i+1))→jX env id post nb (den env rb s)=R (i+1))→jX env id post nb ((den env b (S i)).bind (next env rb))=R i)
  (last:∀ rb,P n→jX env id post nb ((den env b (S n)).bind (next env rb))=R n) :
  den env (.clean keep post (.block id (.loop keep b))) st=R 0:=by
 refine yQ S R (fun i=>i≤n∧P i) (fun i=>n - i) 0 h ⟨Nat.zero_le _,hP⟩ hS hh fun i rb hi ih=>?_
 by_cases hn:i=n
 ·subst hn;exact last rb hi.2
 ·exact step i rb (by omega) hi.2 fun hp s hs=>ih (i+1) (by omega) ⟨by omega,hp⟩ s hs
noncomputable def Q9 (env:Env) (body:ak) (nb:Nat):Ex × St→Option (Ex × St)
 |(.normal,st)=>(den env body st).bind fun p=>match p with
  |(.normal,st)=>if nb≤st.boxes.length then some (.normal,{ st with boxes:=st.boxes.take nb }) else none
  |(.nK _ _,_)=>none
  |p=>some p
 |_=>none
def rend (nb:Nat):Ex × St→Option (Ex × St)
 |(.normal,st)=>if nb≤st.boxes.length then some (.normal,{ st with boxes:=st.boxes.take nb }) else none
 |(.nK _ _,_)=>none
 |p=>some p
theorem UD (slots:List AV) (ps:List Nat) (assign body:ak) (nb:Nat) (x:List PV) (st:St):Dc env slots ps assign body nb x st=(fK slots ps x).bind fun sl=>(den env assign { st with slots:=sl }).bind (Q9 env body nb):=by
 unfold Dc
 rfl
theorem Df (body:ak) (nb:Nat) (st:St):Q9 env body nb (.normal,st)=(den env body st).bind (rend nb):=by
 rfl
theorem MP (nb:Nat) (st:St):rend nb (.normal,st)=if nb≤st.boxes.length then some (.normal,{ st with boxes:=st.boxes.take nb }) else none:=(rfl)
theorem UE (nb i:Nat) (st:St):rend nb (.exit i,st)=some (.exit i,st):=(rfl)
theorem Yx (nb:Nat) (st:St):rend nb (.ret,st)=some (.ret,st):=(rfl)
theorem Yy (slots:List AV):fK slots [] []=some slots:=(rfl)
theorem UF (slots:List AV) (p:Nat) (ps:List Nat) (v:PV) (vs:List PV):fK slots (p :: ps) (v :: vs)=fK (slots.set p (.pv v)) ps vs:=(rfl)
theorem Yz (v:PV):AV.froze (.pv v)=.pv v:=(rfl)
theorem UG (sz:Nat) (es:List PV):AV.froze (.row sz es)=.pv (.list sz es):=(rfl)
theorem UH:AV.froze .any=.any:=(rfl)
theorem UJ (k:Bool) (l:List AV):AV.froze (.jY k l)=.any:=(rfl)
theorem UK (r:Root) (i j:Nat):AV.froze (.ref r i j)=.any:=(rfl)
theorem UL (r:Root) (i j:Nat):AV.froze (.ny r i j)=.any:=(rfl)
theorem P5 (i j:Nat):AV.froze (.aQ i j)=.aQ i j:=(rfl)
theorem YA (f:Nat) (l:List AV):AV.froze (.fn f l)=.fn f l:=(rfl)
theorem UM:AV.froze .oQ=.oQ:=(rfl)
end
def MQ:=And.intro @UD (And.intro @Df (And.intro @MP (And.intro @UE (And.intro @Yx (And.intro @Yy (And.intro @UF (And.intro @Yz (And.intro @UG (And.intro @UH (And.intro @UJ (And.intro @UK (And.intro @UL (And.intro @P5 (And.intro @YA (And.intro @UM (And.intro @MN @Yw))))))))))))))))
end Go.Proofs.YtaaokejjmdbfaaaDoor

namespace Go.Proofs.YtaaokejjmdbfaaaDoor.V
def vN (out:List o7) (i:Nat):List o7:=match out.getLast? with
 |some x=>if x.start+x.count=(i:Int) then out.dropLast++[⟨x.start,x.count+1⟩] else out++[⟨i,1⟩]
 |none=>[⟨i,1⟩]
def exts (l:List Nat):List o7:=l.foldl vN []
theorem iL (pre:List o7) (x:o7) (i:Nat):vN (pre++[x]) i=if x.start+x.count=(i:Int) then pre++[⟨x.start,x.count+1⟩] else pre++[x]++[⟨i,1⟩]:=by
 simp [vN]
theorem l7 (l:List Nat) (i:Nat):exts (l++[i])=vN (exts l) i:=by simp [exts]
theorem jM {α:Type} (l:List α):l=[]∨∃ p x,l=p++[x]:=by
 rcases List.eq_nil_or_concat l with h|⟨p,x,h⟩
 ·exact .inl h
 ·exact .inr ⟨p,x,by rw [h];simp⟩
theorem Fj:∀ (n:Nat) (l:List Nat),l.length=n→∀ i:Nat,∃ pre x,exts (l++[i])=pre++[x]∧x.start+x.count=(i:Int)+1∧0≤x.start∧1≤x.count∧pre.length≤l.length:=by
 intro n
 induction n with
 |zero =>
  intro l hl i
  have:=List.eq_nil_of_length_eq_zero hl
  subst this
  exact ⟨[],⟨i,1⟩,rfl,rfl,by simp,by simp,by simp⟩
 |succ n ih =>
  intro l hl i
  rcases jM l with rfl|⟨p,j,rfl⟩
  ·simp at hl
  ·obtain ⟨pre,x,e,h1,h2,h3,h4⟩:=ih p (by simpa using hl) j
   rw [l7,e,iL]
   split
   ·rename_i hx
    exact ⟨pre,_,rfl,by simp;omega,h2,by simp;omega,by simp;omega⟩
   ·exact ⟨pre++[x],_,rfl,by simp,by simp,by simp,by simp;omega⟩
theorem Fp {n:Nat} (h:n≤lim):IntKind.i64.wrap (((n+1:Nat):Int) - 1)=(n:Int):=by
 rw [bT (by unfold lim at h;omega)];omega
def yI (l:List Nat):List (List PV):=l.map fun (i:Nat)=>[PV.int .i64 (i:Int)]
end Go.Proofs.YtaaokejjmdbfaaaDoor.V

namespace Go.Proofs.YtaaokejjmdbfaaaDoor
structure End where
 pos:Nat
 list:Nat
 step:Int
 deriving DecidableEq,Inhabited
end Go.Proofs.YtaaokejjmdbfaaaDoor

namespace Go.Proofs.YtaaokejjmdbfaaaDoor.V
def ext (p:Nat→Bool) (n:Nat):List o7:=exts ((List.range n).filter p)
theorem uf (p:Nat→Bool) (n:Nat):ext p (n+1)=if p n then vN (ext p n) n else ext p n:=by
 unfold ext
 rw [List.range_succ,List.filter_append]
 cases h:p n
 ·simp [h]
 ·rw [List.filter_cons_of_pos h,List.filter_nil,l7];rfl
def dep (i:Nat) (s:Nat):List End→Int
 |[]=>0
 |x :: l=>(if x.list=i∧x.pos≤s then x.step else 0)+dep i s l
def Asc:List End→Prop
 |[]=>True
 |[_]=>True
 |x :: y :: l=>x.pos≤y.pos∧Asc (y :: l)
theorem Asc.tail {x:End} {l:List End} (h:Asc (x :: l)):Asc l:=by
 cases l with
 |nil=>trivial
 |cons y l=>exact h.2
def atStart (N:Nat):List End→Nat→Prop
 |[],a=>a=N
 |x :: _,a=>a=x.pos
end Go.Proofs.YtaaokejjmdbfaaaDoor.V

namespace Go.Proofs.YtaaokejjmdbfaaaDoor.V
abbrev Wd:=BitVec 64
structure Bm where
 size:Int
 ws:List Wd
 deriving DecidableEq
def eW (w:Wd):PV:=.int .u64 (w.toNat:Int)
def mM (b:Bm):PV:=.agg [.int .i64 b.size,.list 1 (b.ws.map eW)]
def bit (ws:List Wd) (i:Nat):Bool:=(ws.getD (i / 64) 0).getLsbD (i % 64)
theorem P6 {ws:List Wd} {k:Nat} (h:k<ws.length) {j:Nat} (hj:j<64):bit ws (64 * k+j)=ws[k].getLsbD j:=by
 unfold bit
 have e1:(64 * k+j) / 64=k:=by omega
 have e2:(64 * k+j) % 64=j:=by omega
 rw [e1,e2];simp [h]
theorem Jm {ws:List Wd} {i:Nat} (h:i / 64<ws.length):bit ws i=ws[i / 64].getLsbD (i % 64):=by
 unfold bit;simp [h]
theorem Au {ws:List Wd} {i:Nat} (h:64 * ws.length≤i):bit ws i=false:=by
 unfold bit
 have:ws.length≤i / 64:=by omega
 rw [List.getD_eq_getElem?_getD,List.getElem?_eq_none this];simp
theorem abR (w:Wd):BitVec.ofInt 64 (w.toNat:Int)=w:=by
 apply BitVec.eq_of_toNat_eq
 have:=w.isLt
 rw [BitVec.toNat_ofInt]
 omega
theorem MR (n:Int):IntKind.u64.wrap n=n % 2 ^ 64:=by
 simp only [IntKind.wrap,IntKind.bits,IntKind.signed,Bool.false_and,Bool.false_eq_true,if_false]
theorem YB (w:Wd):IntKind.u64.wrap (w.toNat:Int)=(w.toNat:Int):=by
 have:=w.isLt
 simp only [IntKind.wrap,IntKind.bits,IntKind.signed,Bool.false_and,Bool.false_eq_true,if_false]
 omega
theorem aiS (a b:Wd):IntKind.u64.wrap ((BitVec.ofInt IntKind.u64.bits (a.toNat:Int) ||| BitVec.ofInt IntKind.u64.bits (b.toNat:Int)).toNat:Int)=((a ||| b).toNat:Int):=by
 show IntKind.u64.wrap ((BitVec.ofInt 64 (a.toNat:Int) ||| BitVec.ofInt 64 (b.toNat:Int)).toNat:Int)=_
 rw [abR,abR,YB]
theorem YC (a b:Wd):IntKind.u64.wrap ((BitVec.ofInt IntKind.u64.bits (a.toNat:Int) &&& BitVec.ofInt IntKind.u64.bits (b.toNat:Int)).toNat:Int)=((a &&& b).toNat:Int):=by
 show IntKind.u64.wrap ((BitVec.ofInt 64 (a.toNat:Int) &&& BitVec.ofInt 64 (b.toNat:Int)).toNat:Int)=_
 rw [abR,abR,YB]
theorem YD (w:Wd) {s:Int} {n:Nat} (hs:s=(n:Int)):(w.toNat:Int).fdiv (2 ^ (min s.toNat IntKind.u64.bits))=((w >>> n).toNat:Int):=by
 subst hs
 rw [BitVec.toNat_ushiftRight,Nat.shiftRight_eq_div_pow,Int.toNat_natCast]
 have hw:=w.isLt
 show (w.toNat:Int).fdiv (2 ^ (min n 64))=_
 by_cases h:n≤64
 ·have h2:(0:Int)≤2 ^ n:=by have:=Int.natCast_nonneg (2 ^ n);push_cast at this;exact this
  rw [Nat.min_eq_left h,Int.fdiv_eq_ediv_of_nonneg _ h2]
  push_cast
  rfl
 ·rw [Nat.min_eq_right (by omega),Int.fdiv_eq_ediv_of_nonneg _ (by decide)]
  have h1:w.toNat / 2 ^ n=0:=Nat.div_eq_of_lt (Nat.lt_of_lt_of_le hw (Nat.pow_le_pow_right (by decide) (by omega)))
  rw [h1]
  omega
theorem ag5 (w:Wd) {s:Int} {n:Nat} (hs:s=(n:Int)):IntKind.u64.wrap ((w.toNat:Int) * 2 ^ (min s.toNat IntKind.u64.bits))=((w <<< n).toNat:Int):=by
 subst hs
 rw [BitVec.toNat_shiftLeft,Nat.shiftLeft_eq,Int.toNat_natCast]
 have hw:=w.isLt
 rw [MR]
 show ((w.toNat:Int) * 2 ^ (min n 64)) % 2 ^ 64=_
 by_cases h:n≤64
 ·have e2:((2 ^ n:Nat):Int)=2 ^ n:=by push_cast;rfl
  have e3:((2 ^ 64:Nat):Int)=2 ^ 64:=by decide
  rw [Nat.min_eq_left h,Int.natCast_emod,Int.natCast_mul,e2,e3]
 ·rw [Nat.min_eq_right (by omega)]
  have e:2 ^ n=2 ^ 64 * 2 ^ (n - 64):=by rw [← Nat.pow_add];congr 1;omega
  have:w.toNat * 2 ^ n % 2 ^ 64=0:=by
   rw [e,Nat.mul_left_comm];exact Nat.mul_mod_right _ _
  rw [this]
  exact Int.mul_emod_left _ _
theorem ag6 (a b:Wd):IntKind.u64.wrap ((a.toNat:Int) - (b.toNat:Int))=((a - b).toNat:Int):=by
 have h1:=a.isLt
 have h2:=b.isLt
 simp only [IntKind.wrap,IntKind.bits,IntKind.signed,Bool.false_and,Bool.false_eq_true,if_false]
 rw [BitVec.toNat_sub]
 omega
theorem YE (a b:Wd):((a.toNat:Int)==(b.toNat:Int))=decide (a=b):=by
 by_cases h:a=b
 ·subst h;simp
 ·have:a.toNat≠b.toNat:=fun e=>h (BitVec.eq_of_toNat_eq e)
  simp [h];omega
def Dh (k:Nat) (a b:Int):Wd :=
 if max (a - 64 * (k:Int)) 0 ≥ min (b - 64 * (k:Int)) 64 then 0
 else (BitVec.allOnes 64 >>> (64 - (min (b - 64 * (k:Int)) 64 - max (a - 64 * (k:Int)) 0)).toNat) <<< (max (a - 64 * (k:Int)) 0).toNat
theorem YF (k:Nat) (a b:Int) {j:Nat} (hj:j<64):(Dh k a b).getLsbD j=decide (a≤64 * (k:Int)+j∧64 * (k:Int)+j<b):=by
 unfold Dh
 split
 ·rename_i h
  rw [show (0:Wd).getLsbD j=false by simp]
  symm
  apply decide_eq_false
  omega
 ·rename_i h
  rw [BitVec.getLsbD_shiftLeft,BitVec.getLsbD_ushiftRight,BitVec.getLsbD_allOnes]
  rw [Bool.eq_iff_iff]
  simp only [Bool.and_eq_true,decide_eq_true_eq,Bool.not_eq_true',decide_eq_false_iff_not]
  omega
def bitsOf (w:Wd):List Nat:=(List.range 64).filter fun j=>w.getLsbD j
theorem UN:bitsOf 0=[]:=by
 unfold bitsOf
 rw [List.filter_eq_nil_iff]
 intro j _
 simp
theorem Rf {w:Wd} (h:w≠0):Lib.ctz 64 w.toNat<64∧(∀ j,j<Lib.ctz 64 w.toNat→w.getLsbD j=false)∧w.getLsbD (Lib.ctz 64 w.toNat)=true∧∀ j,j<64→(w &&& (w - 1)).getLsbD j=(w.getLsbD j&&decide (j≠Lib.ctz 64 w.toNat)):=by
 have h0:0<w.toNat:=by
  rcases Nat.eq_zero_or_pos w.toNat with e|e
  ·exact absurd (BitVec.eq_of_toNat_eq (by simpa using e)) h
  ·exact e
 have hl:Lib.ctz 64 w.toNat=Lib.ctzFrom 64 w.toNat:=by unfold Lib.ctz;rw [if_neg (by omega)]
 rw [hl]
 obtain ⟨m,h1,h2⟩:=Lib.ctzFrom_spec 64 w.toNat h0 w.isLt
 generalize Lib.ctzFrom 64 w.toNat=c at h1 h2
 have hbit:∀ j,w.getLsbD j=if j<c then false else (2 * m+1).testBit (j - c):=fun j=>by
  rw [← BitVec.testBit_toNat,h1,Nat.testBit_two_pow_mul]
  by_cases hc:j<c
  ·rw [if_pos hc,decide_eq_false (by omega),Bool.false_and]
  ·rw [if_neg hc,decide_eq_true (by omega),Bool.true_and]
 have hsub:(w - 1).toNat=2 ^ c * (2 * m)+(2 ^ c - 1):=by
  have hp:0<2 ^ c:=Nat.pow_pos (by decide)
  rw [BitVec.toNat_sub]
  have:=w.isLt
  have e1:(1:Wd).toNat=1:=rfl
  rw [e1,show 2 ^ 64 - 1+w.toNat=(w.toNat - 1)+2 ^ 64 by omega,Nat.add_mod_right,Nat.mod_eq_of_lt (by omega),h1,Nat.mul_add,Nat.mul_one]
  omega
 have ag7:∀ j,(w - 1).getLsbD j=if j<c then true else (2 * m).testBit (j - c):=fun j=>by
  rw [← BitVec.testBit_toNat,hsub]
  have hp:2 ^ c - 1<2 ^ c:=by have:0<2 ^ c:=Nat.pow_pos (by decide);omega
  by_cases hc:j<c
  ·rw [if_pos hc,Nat.testBit_two_pow_mul_add _ hp,if_pos hc,Nat.testBit_two_pow_sub_one]
   simp [hc]
  ·rw [if_neg hc,Nat.testBit_two_pow_mul_add _ hp,if_neg hc]
 refine ⟨h2,fun j hj=>by rw [hbit,if_pos hj],by rw [hbit,if_neg (Nat.lt_irrefl _),Nat.sub_self];simp,fun j hj=>?_⟩
 rw [BitVec.getLsbD_and,hbit,ag7]
 by_cases hc:j<c
 ·simp [hc]
 ·rw [if_neg hc,if_neg hc]
  by_cases he:j=c
  ·subst he;simp
  ·obtain ⟨d,hd⟩:∃ d,j - c=d+1:=⟨j - c - 1,by omega⟩
   rw [hd,Nat.testBit_succ,Nat.testBit_succ,show (2 * m+1) / 2=m by omega,show 2 * m / 2=m by omega]
   simp [he]
theorem Jo {p q:Nat→Bool} {c n:Nat} (hc:c<n) (hlow:∀ j,j<c→p j=false) (hp:p c=true) (hq:∀ j,j<n→q j=(p j&&decide (j≠c))):(List.range n).filter p=c :: (List.range n).filter q:=by
 have e:List.range n=List.range c++(c :: (List.range (n - c - 1)).map (c+1+·)):=by
  apply List.ext_getElem
  ·simp;omega
  ·intro i h1 h2
   simp only [List.length_range] at h1
   rw [List.getElem_range,List.getElem_append]
   split
   ·simp
   ·rename_i h
    simp only [List.length_range] at h ⊢
    obtain ⟨d,hd⟩:∃ d,i=c+d:=⟨i - c,by omega⟩
    subst hd
    cases d with
    |zero=>simp
    |succ d=>simp [show c+(d+1) - c=d+1 by omega];omega
 have hq':∀ j,j∈List.range n→q j=(p j&&decide (j≠c)):=fun j hj=>hq j (List.mem_range.1 hj)
 rw [List.filter_congr hq',e,List.filter_append,List.filter_append]
 have h1:(List.range c).filter p=[]:=by
  rw [List.filter_eq_nil_iff];intro j hj;rw [hlow j (List.mem_range.1 hj)];simp
 have h2:(List.range c).filter (fun j=>p j&&decide (j≠c))=[]:=by
  rw [List.filter_eq_nil_iff];intro j hj;rw [hlow j (List.mem_range.1 hj)];simp
 rw [h1,h2,List.nil_append,List.nil_append,List.filter_cons_of_pos hp,List.filter_cons_of_neg (by simp)]
 congr 1
 apply List.filter_congr
 intro j hj
 obtain ⟨d,_,rfl⟩:=List.mem_map.1 hj
 simp;omega
theorem UO {w:Wd} (h:w≠0):bitsOf w=Lib.ctz 64 w.toNat :: bitsOf (w &&& (w - 1)):=by
 obtain ⟨h1,h2,h3,h4⟩:=Rf h
 exact Jo h1 h2 h3 h4
def ug (ws:List Wd) (a b:Int):List Nat:=(List.range (64 * ws.length)).filter fun (i:Nat)=>bit ws i&&decide (a≤(i:Int)∧(i:Int)<b)
theorem range_add (n m:Nat):List.range (n+m)=List.range n++(List.range m).map (n+·):=List.range_add
theorem P7 {ws:List Wd} {k:Nat} (h:k<ws.length) (a b:Int):(List.range (64 * (k+1))).filter (fun (i:Nat)=>bit ws i&&decide (a≤(i:Int)∧(i:Int)<b))
  = (List.range (64 * k)).filter (fun (i:Nat)=>bit ws i&&decide (a≤(i:Int)∧(i:Int)<b))++(bitsOf (ws[k] &&& Dh k a b)).map (64 * k+·):=by
 rw [show 64 * (k+1)=64 * k+64 by omega,List.range_add,List.filter_append,List.filter_map]
 congr 2
 unfold bitsOf
 apply List.filter_congr
 intro j hj
 have hj:=List.mem_range.1 hj
 rw [BitVec.getLsbD_and,YF k a b hj]
 show (bit ws (64 * k+j)&&_)=_
 rw [P6 h hj]
 push_cast
 rfl
def lG (f:Wd→Wd→Wd) (a b:List Wd):List Wd:=List.zipWith f a b
theorem abS {f:Wd→Wd→Wd} {g:Bool→Bool→Bool} (hf:∀ x y j,j<64→(f x y).getLsbD j=g (x.getLsbD j) (y.getLsbD j)) {a b:List Wd} (hl:a.length=b.length) {i:Nat} (h:i<64 * a.length):bit (lG f a b) i=g (bit a i) (bit b i):=by
 have hk:i / 64<a.length:=by omega
 have hk1:i / 64<b.length:=by omega
 have hk2:i / 64<(lG f a b).length:=by simp [lG];omega
 rw [Jm hk,Jm hk1,Jm hk2]
 simp only [lG,List.getElem_zipWith]
 rw [hf _ _ _ (Nat.mod_lt _ (by decide))]
def nV (n:Int):Int:=(n+63) / 64
def okB (b:Bm):Bool:=decide (0≤b.size∧b.size≤4096∧(b.ws.length:Int)=nV b.size)&&(List.range (64 * b.ws.length)).all fun (i:Nat)=>decide ((i:Int)<b.size) || !bit b.ws i
theorem kJ {b:Bm}:okB b=true ↔ (0≤b.size∧b.size≤4096∧(b.ws.length:Int)=nV b.size)∧∀ i:Nat,b.size≤(i:Int)→bit b.ws i=false:=by
 unfold okB
 simp only [Bool.and_eq_true,decide_eq_true_eq,List.all_eq_true,List.mem_range,Bool.or_eq_true,Bool.not_eq_true']
 refine and_congr Iff.rfl ⟨fun h i hi=>?_,fun h i hi=>?_⟩
 ·by_cases c:i<64 * b.ws.length
  ·exact (h i c).resolve_left (by omega)
  ·exact Au (by omega)
 ·by_cases c:(i:Int)<b.size
  ·exact .inl c
  ·exact .inr (h i (by omega))
theorem kF {b:Bm} (h:okB b=true):0≤b.size∧b.size≤4096∧b.ws.length≤64∧b.size≤64 * (b.ws.length:Int)∧64 * (b.ws.length:Int)<b.size+64:=by
 have:=(kJ.1 h).1
 unfold nV at this
 omega
theorem YG {b:Bm} (h:0≤b.size∧b.size≤4096∧(b.ws.length:Int)=nV b.size):okB b=true ↔ (b.size % 64=0∨∀ (hw:b.ws.length - 1<b.ws.length),b.ws[b.ws.length - 1] >>> (b.size % 64).toNat=0):=by
 rw [kJ]
 unfold nV at h ⊢
 constructor
 ·rintro ⟨_,h2⟩
  by_cases c:b.size % 64=0
  ·exact .inl c
  ·refine .inr fun hw=>?_
   apply BitVec.eq_of_getLsbD_eq
   intro j hj
   rw [BitVec.getLsbD_ushiftRight]
   by_cases cj:(b.size % 64).toNat+j<64
   ·rw [← P6 hw cj,h2 _ (by omega)];simp
   ·rw [BitVec.getLsbD_of_ge _ _ (by omega)];simp
 ·intro hr
  refine ⟨by omega,fun i hi=>?_⟩
  by_cases c:i<64 * b.ws.length
  ·have hw:b.ws.length - 1<b.ws.length:=by omega
   have hk:i / 64=b.ws.length - 1:=by omega
   rcases hr with hr|hr
   ·omega
   ·have:=congrArg (fun w:Wd=>w.getLsbD (i % 64 - (b.size % 64).toNat)) (hr hw)
    simp only [BitVec.getLsbD_ushiftRight,BitVec.getLsbD_zero] at this
    rw [show (b.size % 64).toNat+(i % 64 - (b.size % 64).toNat)=i % 64 by omega] at this
    rw [show i=64 * (b.ws.length - 1)+i % 64 by omega,P6 hw (Nat.mod_lt _ (by decide))]
    simpa using this
  ·exact Au (by omega)
def P8 (b:Bm):List o7:=ext (bit b.ws) b.size.toNat
def zK (b:Bm):Int:=if okB b then 0 else 3
theorem YH {b:Bm} (h:okB b=true) (a:Int) (ha:a≤0):ug b.ws a b.size=(List.range b.size.toNat).filter (bit b.ws):=by
 unfold ug
 obtain ⟨h1,h2,h3,h4,h5⟩:=kF h
 rw [show 64 * b.ws.length=b.size.toNat+(64 * b.ws.length - b.size.toNat) by omega,List.range_add,List.filter_append]
 have e:(((List.range (64 * b.ws.length - b.size.toNat)).map (b.size.toNat+·)).filter fun (i:Nat)=>bit b.ws i&&decide (a≤(i:Int)∧(i:Int)<b.size))=[]:=by
  rw [List.filter_eq_nil_iff]
  intro i hi
  obtain ⟨d,_,rfl⟩:=List.mem_map.1 hi
  rw [decide_eq_false (by omega)];simp
 rw [e,List.append_nil]
 apply List.filter_congr
 intro i hi
 have hi:=List.mem_range.1 hi
 rw [decide_eq_true (by omega),Bool.and_true]
end Go.Proofs.YtaaokejjmdbfaaaDoor.V

namespace Go.Proofs.YtaaokejjmdbfaaaDoor.V
theorem wK {b:Bm} (h:okB b=true):zK b=0:=by unfold zK;rw [if_pos h]
theorem nI {b:Bm} (h:okB b=false):zK b=3:=by unfold zK;rw [if_neg (by rw [h];exact Bool.false_ne_true)]
theorem q64 {n:Int} (h:0≤n):(n+64 - 1).tdiv 64=nV n:=by
 unfold nV;rw [Int.tdiv_eq_ediv_of_nonneg (by omega)];congr 1;omega
theorem q63 {n:Int} (h:0≤n):(n+63).tdiv 64=nV n:=by
 unfold nV;rw [Int.tdiv_eq_ediv_of_nonneg (by omega)]
theorem z64:((64:Int)=0)=False:=eq_false (by decide)
theorem ag8 {n:Int} (h:0≤n∧n≤4096):cal env 84 [.int .i64 n]=some [(.int .i64 (nV n),false)]:=by
 have W1:IntKind.i64.wrap (n+64)=n+64:=bT (by omega)
 have W2:IntKind.i64.wrap (n+64 - 1)=n+64 - 1:=bT (by omega)
 have W3:IntKind.i64.wrap (nV n)=nV n:=bT (by unfold nV;omega)
 rw [au agP rfl];simp only [Yl];simp only [start,aN,aU,aJ,aS,aF,aG,aK,aT,Nat.reduceAdd,Nat.reduceSub]
 simp only [W1,W2,q64 h.1,W3,z64,bI,reduceCtorEq,Nat.reduceEqDiff,Nat.reduceAdd,Nat.reduceLT,Nat.reduceLeDiff,Nat.beq]
theorem Rh {b:Bm}:cal env 51 [mM b]=some [(.int .i64 (zK b),false)]:=by
 unfold mM
 have P:∀ x y:PV,part [x,y] 0 (some 2)=some (.agg [x,y]):=fun _ _=>rfl
 by_cases c0:b.size<0
 ·have hE:zK b=3:=nI (by rw [Bool.eq_false_iff];intro h;have:=kF h;omega)
  rw [hE]
  rw [au Fe rfl];simp only [Ee];simp only [start,aN,aU,aJ,aS,aF,aG,aK,aT,Nat.reduceAdd,Nat.reduceSub]
  simp only [c0,P,bI,reduceCtorEq,Nat.reduceEqDiff,Nat.reduceAdd,Nat.reduceLT,Nat.reduceLeDiff,Nat.beq]
 ·by_cases c1:b.size > 4096
  ·have hE:zK b=3:=nI (by rw [Bool.eq_false_iff];intro h;have:=kF h;omega)
   rw [hE]
   have F1:(b.size > 4096)=True:=eq_true c1
   rw [au Fe rfl];simp only [Ee];simp only [start,aN,aU,aJ,aS,aF,aG,aK,aT,Nat.reduceAdd,Nat.reduceSub]
   simp only [c0,F1,P,bI,reduceCtorEq,Nat.reduceEqDiff,Nat.reduceAdd,Nat.reduceLT,Nat.reduceLeDiff,Nat.beq]
  ·have F1:(b.size > 4096)=False:=eq_false c1
   have e1:=ag8 (n:=b.size) (by omega)
   by_cases c2:(b.ws.length:Int)=nV b.size
   ·have F2:((b.ws.length:Int) != nV b.size)=false:=by simp [c2]
    have hr:=YG (b:=b) ⟨by omega,by omega,c2⟩
    have hw:=c2
    unfold nV at hw
    have M:b.size.tmod 64=b.size % 64:=Int.tmod_eq_emod_of_nonneg (by omega)
    by_cases c3:b.size % 64=0
    ·have hE:zK b=0:=wK (hr.2 (.inl c3))
     rw [hE]
     have F3:(b.size % 64 > 0)=False:=eq_false (by omega)
     rw [au Fe rfl];simp only [Ee];simp only [start,aN,aU,aJ,aS,aF,aG,aK,aT,Nat.reduceAdd,Nat.reduceSub]
     simp only [c0,F1,F2,F3,M,e1,z64,P,bI,reduceCtorEq,Nat.reduceEqDiff,Nat.reduceAdd,Nat.reduceLT,Nat.reduceLeDiff,Nat.beq]
    ·have F3:(b.size % 64 > 0)=True:=eq_true (by omega)
     have hi:b.ws.length - 1<b.ws.length:=by omega
     have W:IntKind.i64.wrap ((b.ws.length:Int) - 1)=((b.ws.length - 1:Nat):Int):=by rw [bT (by omega)];omega
     have S0:(b.size % 64<0)=False:=eq_false (by omega)
     have S:=YD b.ws[b.ws.length - 1] (s:=b.size % 64) (n:=(b.size % 64).toNat) (by omega)
     have B:=YE (b.ws[b.ws.length - 1] >>> (b.size % 64).toNat) 0
     have B0:((0:Wd).toNat:Int)=0:=rfl
     rw [B0] at B
     have B':(((b.ws[b.ws.length - 1] >>> (b.size % 64).toNat).toNat:Int) != 0)=!decide (b.ws[b.ws.length - 1] >>> (b.size % 64).toNat=0):=by unfold bne;rw [B]
     by_cases c4:b.ws[b.ws.length - 1] >>> (b.size % 64).toNat=0
     ·have hE:zK b=0:=wK (hr.2 (.inr fun _=>c4))
      rw [hE]
      rw [decide_eq_true c4] at B'
      rw [au Fe rfl];simp only [Ee];simp only [start,aN,aU,aJ,aS,aF,aG,aK,aT,Nat.reduceAdd,Nat.reduceSub]
      simp only [c0,F1,F2,F3,M,e1,z64,P,W,S0,S,B',ah hi,eW,List.getElem?_map,List.getElem?_eq_getElem hi,bI,reduceCtorEq,Nat.reduceEqDiff,Nat.reduceAdd,Nat.reduceLT,Nat.reduceLeDiff,Nat.beq]
     ·have hE:zK b=3:=nI (by
       rw [Bool.eq_false_iff];intro h
       rcases hr.1 h with h|h
       ·exact c3 h
       ·exact c4 (h hi))
      rw [hE]
      rw [decide_eq_false c4] at B'
      rw [au Fe rfl];simp only [Ee];simp only [start,aN,aU,aJ,aS,aF,aG,aK,aT,Nat.reduceAdd,Nat.reduceSub]
      simp only [c0,F1,F2,F3,M,e1,z64,P,W,S0,S,B',ah hi,eW,List.getElem?_map,List.getElem?_eq_getElem hi,bI,reduceCtorEq,Nat.reduceEqDiff,Nat.reduceAdd,Nat.reduceLT,Nat.reduceLeDiff,Nat.beq]
   ·have F2:((b.ws.length:Int) != nV b.size)=true:=by simp [c2]
    have hE:zK b=3:=nI (by rw [Bool.eq_false_iff];intro h;exact c2 (kJ.1 h).1.2.2)
    rw [hE]
    rw [au Fe rfl];simp only [Ee];simp only [start,aN,aU,aJ,aS,aF,aG,aK,aT,Nat.reduceAdd,Nat.reduceSub]
    simp only [c0,F1,F2,e1,P,bI,reduceCtorEq,Nat.reduceEqDiff,Nat.reduceAdd,Nat.reduceLT,Nat.reduceLeDiff,Nat.beq]
theorem aeu {k:Nat} {a b:Int} (hk:k≤100000) (ha:-1000000≤a∧a≤1000000) (hb':-1000000≤b∧b≤1000000):cal env 110 [.int .i64 (k:Nat),.int .i64 a,.int .i64 b]=some [(eW (Dh k a b),false)]:=by
 have W0:IntKind.i64.wrap ((k:Int) * 64)=64 * (k:Int):=by rw [bT (by omega)];omega
 have W1:IntKind.i64.wrap (a - 64 * (k:Int))=a - 64 * (k:Int):=bT (by omega)
 have W2:IntKind.i64.wrap (b - 64 * (k:Int))=b - 64 * (k:Int):=bT (by omega)
 have X1:(if a - 64 * (k:Int)<0 then 0 else a - 64 * (k:Int))=max (a - 64 * (k:Int)) 0:=by split<;>omega
 have X2:(if 64<b - 64 * (k:Int) then 64 else b - 64 * (k:Int))=min (b - 64 * (k:Int)) 64:=by split<;>omega
 unfold Dh eW
 generalize hf:max (a - 64 * (k:Int)) 0=f at X1 ⊢
 generalize ht:min (b - 64 * (k:Int)) 64=t at X2 ⊢
 by_cases c:f ≥ t
 ·have F1:(f ≥ t)=True:=eq_true c
  rw [if_pos c]
  have B0:((0:Wd).toNat:Int)=0:=rfl
  rw [B0]
  rw [au Yu rfl];simp only [Fa];simp only [start,aN,aU,aJ,aS,aF,aG,aK,aT,Nat.reduceAdd,Nat.reduceSub]
  simp only [W0,W1,W2,X1,X2,F1,bI,reduceCtorEq,Nat.reduceEqDiff,Nat.reduceAdd,Nat.reduceLT,Nat.reduceLeDiff,Nat.beq]
 ·have F1:(f ≥ t)=False:=eq_false c
  rw [if_neg c]
  have W3:IntKind.i64.wrap (t - f)=t - f:=bT (by omega)
  have W4:IntKind.i64.wrap (64 - (t - f))=64 - (t - f):=bT (by omega)
  have A:(18446744073709551615:Int)=((BitVec.allOnes 64).toNat:Int):=rfl
  have S0:(64 - (t - f)<0)=False:=eq_false (by omega)
  have S1:(f<0)=False:=eq_false (by omega)
  have S2:=YD (BitVec.allOnes 64) (s:=64 - (t - f)) (n:=(64 - (t - f)).toNat) (by omega)
  have S3:=ag5 (BitVec.allOnes 64 >>> (64 - (t - f)).toNat) (s:=f) (n:=f.toNat) (by omega)
  rw [← A] at S2
  rw [au Yu rfl];simp only [Fa];simp only [start,aN,aU,aJ,aS,aF,aG,aK,aT,Nat.reduceAdd,Nat.reduceSub]
  simp only [W0,W1,W2,W3,W4,X1,X2,F1,S0,S1,S2,S3,bI,reduceCtorEq,Nat.reduceEqDiff,Nat.reduceAdd,Nat.reduceLT,Nat.reduceLeDiff,Nat.beq]
end Go.Proofs.YtaaokejjmdbfaaaDoor.V

namespace Go.Proofs.YtaaokejjmdbfaaaDoor.V
def Vo (b:Bm):List PV:=[.int .i64 b.size,.list 1 (b.ws.map eW)]
def tz (w:Wd):Nat:=Lib.ctz 64 w.toNat
theorem aev {w:Wd}:cal env 111 [.int .u64 (w.toNat:Int)]=some [(.int .i64 (tz w:Nat),false)]:=by
 rw [Hw aef]
 have:=w.isLt
 have e:tzX [.int .u64 (w.toNat:Int)]=if (0:Int)≤(w.toNat:Int)∧(w.toNat:Int)<18446744073709551616 then some [(.int .i64 (Lib.ctz 64 (w.toNat:Int).toNat:Nat),false)] else none:=rfl
 rw [e,if_pos (by omega),Int.toNat_natCast]
 rfl
theorem abT {b:Bm} {a:Int} {k:Nat} {w0:Wd} {ys0:List (List PV)} (hk:k≤100000)
  {st:St} (h:st.head [0,1,2,4,5,10,11,12] st.boxes.length=some ⟨[.oQ,.pv (.dS (Vo b) 0),.pv (.dS [.int .i64 a] 0),.any,.pv (.int .i64 (k:Nat)),.pv (eW w0),.any,.any,.any,.any,.pv (.list 1 (b.ws.map eW)),.pv (.int .i64 b.ws.length),.pv (.int .i64 (k:Nat)),.any,.any,.any,.any,.any,.any,.any,.any,.any,.any,.any,.any,.any,.any,.any,.any,.any,.any,.any,.any,.any,.any,.any,.any,.any,.any],[],ys0,some none⟩) :
  den env CQ st=some (.normal,⟨[.oQ,.pv (.dS (Vo b) 0),.pv (.dS [.int .i64 a] 0),.any,.any,.any,.any,.any,.any,.any,.pv (.list 1 (b.ws.map eW)),.pv (.int .i64 b.ws.length),.pv (.int .i64 (k:Nat)),.any,.any,.any,.any,.any,.any,.any,.any,.any,.any,.any,.any,.any,.any,.any,.any,.any,.any,.any,.any,.any,.any,.any,.any,.any,.any],[],ys0++yI ((bitsOf w0).map (64 * k+·)),some none⟩):=by
 unfold CQ
 refine yQ (env:=env) (fun p:Wd × List (List PV)=>⟨[.oQ,.pv (.dS (Vo b) 0),.pv (.dS [.int .i64 a] 0),.any,.pv (.int .i64 (k:Nat)),.pv (eW p.1),.any,.any,.any,.any,.pv (.list 1 (b.ws.map eW)),.pv (.int .i64 b.ws.length),.pv (.int .i64 (k:Nat)),.any,.any,.any,.any,.any,.any,.any,.any,.any,.any,.any,.any,.any,.any,.any,.any,.any,.any,.any,.any,.any,.any,.any,.any,.any,.any],[],p.2,some none⟩)
  (fun p=>some (.normal,⟨[.oQ,.pv (.dS (Vo b) 0),.pv (.dS [.int .i64 a] 0),.any,.any,.any,.any,.any,.any,.any,.pv (.list 1 (b.ws.map eW)),.pv (.int .i64 b.ws.length),.pv (.int .i64 (k:Nat)),.any,.any,.any,.any,.any,.any,.any,.any,.any,.any,.any,.any,.any,.any,.any,.any,.any,.any,.any,.any,.any,.any,.any,.any,.any,.any],[],p.2++yI ((bitsOf p.1).map (64 * k+·)),some none⟩)) (fun _=>True) (fun p=>(bitsOf p.1).length) (w0,ys0) h trivial (fun _=>rfl) (fun _=>rfl) ?_
 rintro ⟨w,ys⟩ rb _ ih
 simp only [eW] at ih ⊢
 have B:=YE w 0
 have B0:((0:Wd).toNat:Int)=0:=rfl
 rw [B0] at B
 have B':((w.toNat:Int) != 0)=!decide (w=0):=by unfold bne;rw [B]
 by_cases c:w=0
 ·rw [decide_eq_true c] at B'
  subst c
  simp only [CP,B',UN,List.map_nil,bI,reduceCtorEq,Nat.reduceEqDiff,Nat.reduceAdd,Nat.reduceLT,Nat.reduceLeDiff,Nat.beq]
  simp only [yI,List.map_nil,List.append_nil]
  rfl
 ·rw [decide_eq_false c] at B'
  have e1:=aev (w:=w)
  have ht:=(Rf c).1
  have W0:IntKind.i64.wrap ((k:Int) * 64)=64 * (k:Int):=by rw [bT (by omega)];omega
  have W1:IntKind.i64.wrap (64 * (k:Int)+((tz w:Nat):Int))=((64 * k+tz w:Nat):Int):=by unfold tz;rw [bT (by omega)];omega
  have W2:=ag6 w 1
  have W3:=YC w (w - 1)
  have B1:((1:Wd).toNat:Int)=1:=rfl
  rw [B1] at W2
  have hc:=UO c
  simp only [CP,B',e1,W0,W1,W2,W3,bI,reduceCtorEq,Nat.reduceEqDiff,Nat.reduceAdd,Nat.reduceLT,Nat.reduceLeDiff,Nat.beq]
  rw [ih (w &&& (w - 1),ys++[[.int .i64 ((64 * k+tz w:Nat):Int)]]) (by simp only;rw [hc,List.length_cons];omega) trivial _ rfl]
  rw [hc]
  simp only [yI,List.map_cons,List.append_assoc,List.cons_append,List.nil_append]
  rfl
theorem YI {b:Bm} {a:Int} (hb:b.ws.length≤64) (hs:0≤b.size∧b.size≤4096) (ha:-1000000≤a∧a≤1000000)
  {st:St} (h:st.head [0,1,2,10,11,12] st.boxes.length=some ⟨[.oQ,.pv (.dS (Vo b) 0),.pv (.dS [.int .i64 a] 0),.any,.any,.any,.any,.any,.any,.any,.pv (.list 1 (b.ws.map eW)),.pv (.int .i64 b.ws.length),.pv (.int .i64 (0:Nat)),.any,.any,.any,.any,.any,.any,.any,.any,.any,.any,.any,.any,.any,.any,.any,.any,.any,.any,.any,.any,.any,.any,.any,.any,.any,.any],[],[],some none⟩) :
  den env CV st=some (.normal,⟨[.any,.any,.any,.any,.any,.any,.any,.any,.any,.any,.any,.any,.any,.any,.any,.any,.any,.any,.any,.any,.any,.any,.any,.any,.any,.any,.any,.any,.any,.any,.any,.any,.any,.any,.any,.any,.any,.any,.any],[],yI (ug b.ws a b.size),some none⟩):=by
 unfold CV
 refine bH (env:=env) b.ws.length (fun k=>⟨[.oQ,.pv (.dS (Vo b) 0),.pv (.dS [.int .i64 a] 0),.any,.any,.any,.any,.any,.any,.any,.pv (.list 1 (b.ws.map eW)),.pv (.int .i64 b.ws.length),.pv (.int .i64 k),.any,.any,.any,.any,.any,.any,.any,.any,.any,.any,.any,.any,.any,.any,.any,.any,.any,.any,.any,.any,.any,.any,.any,.any,.any,.any],[],yI ((List.range (64 * k)).filter fun (i:Nat)=>bit b.ws i&&decide (a≤(i:Int)∧(i:Int)<b.size)),some none⟩)
  (fun _=>some (.normal,⟨[.any,.any,.any,.any,.any,.any,.any,.any,.any,.any,.any,.any,.any,.any,.any,.any,.any,.any,.any,.any,.any,.any,.any,.any,.any,.any,.any,.any,.any,.any,.any,.any,.any,.any,.any,.any,.any,.any,.any],[],yI (ug b.ws a b.size),some none⟩)) h (fun _=>rfl) (fun _=>rfl) ?_ ?_
 ·intro k rb hi ih
  have hi1:=bD hi (by unfold lim;omega)
  have F1:((k:Int)<(b.ws.length:Int))=True:=eq_true (by omega)
  have e1:=aeu (k:=k) (a:=a) (b:=b.size) (by omega) ha (by omega)
  have W3:=YC b.ws[k] (Dh k a b.size)
  rw [P7 hi] at ih
  unfold eW at e1
  simp only [CU,F1,e1,W3,Vo,eW,ah hi,List.getElem?_map,List.getElem?_eq_getElem hi,bI,reduceCtorEq,Nat.reduceEqDiff,Nat.reduceAdd,Nat.reduceLT,Nat.reduceLeDiff,Nat.beq]
  rw [abT (b:=b) (a:=a) (k:=k) (w0:=b.ws[k] &&& Dh k a b.size) (ys0:=yI ((List.range (64 * k)).filter fun (i:Nat)=>bit b.ws i&&decide (a≤(i:Int)∧(i:Int)<b.size))) (by omega)]
  rotate_left
  ·rfl
  simp only [bI,reduceCtorEq,Nat.reduceEqDiff,Nat.reduceAdd,Nat.reduceLT,Nat.reduceLeDiff,Nat.beq]
  rw [ih _ (by simp only [hi1];simp only [yI,List.map_append];rfl)]
 ·intro rb
  simp only [CU,Int.lt_irrefl,bI,reduceCtorEq,Nat.reduceEqDiff,Nat.reduceAdd,Nat.reduceLT,Nat.reduceLeDiff,Nat.beq]
  rfl
theorem abU {b:Bm} {a:Int} (ha:-1000000≤a∧a≤1000000):iter env 109 [.dS (Vo b) 0,.dS [.int .i64 a] 0] none=some (yI (if okB b then ug b.ws a b.size else [])):=by
 have P:part (Vo b) 0 (some 2)=some (mM b):=rfl
 have e1:=Rh (b:=b)
 rw [Fg aee rfl rfl]
 simp only [MI,PZ,aN,aU,aJ,aS,aF,aG,aK,aT,Nat.reduceAdd,Nat.reduceSub]
 cases c:okB b with
 |false =>
  rw [nI c] at e1
  have Z:((3:Int) != 0)=true:=rfl
  simp only [P,e1,Z,MQ,bI,reduceCtorEq,Nat.reduceEqDiff,Nat.reduceAdd,Nat.reduceLT,Nat.reduceLeDiff,Nat.beq]
  rfl
 |true =>
  rw [wK c] at e1
  have Z:((0:Int) != 0)=false:=rfl
  obtain ⟨h1,h2,h3,_⟩:=kF c
  have P2:part (Vo b) 1 none=some (.list 1 (b.ws.map eW)):=rfl
  simp only [P,P2,e1,Z,List.length_map,MQ,bI,reduceCtorEq,Nat.reduceEqDiff,Nat.reduceAdd,Nat.reduceLT,Nat.reduceLeDiff,Nat.beq]
  rw [YI (a:=a) h3 ⟨h1,h2⟩ ha]
  rotate_left
  ·rfl
  ·rfl
theorem aew {b:Bm} {a:Int}:cal env 101 [mM b,.int .i64 a]=some [(.func 109 [.dS (Vo b) 0,.dS [.int .i64 a] 0],false)]:=by
 unfold mM Vo
 rw [au ad8 rfl];simp only [Me];simp only [start,aN,aU,aJ,aS,aF,aG,aK,aT,Nat.reduceAdd,Nat.reduceSub]
 simp only [bI,reduceCtorEq,Nat.reduceEqDiff,Nat.reduceAdd,Nat.reduceLT,Nat.reduceLeDiff,Nat.beq]
end Go.Proofs.YtaaokejjmdbfaaaDoor.V

namespace Go.Proofs.YtaaokejjmdbfaaaDoor
def look:List (Nat × AV)→Nat→AV
 |[],_=>.any
 |(j,v) :: l,i=>dV (Nat.beq i j) v (look l i)
def sl (n:Nat) (l:List (Nat × AV)):List AV:=(List.range n).map (look l)
def mapA (f:AV→AV):List (Nat × AV)→List (Nat × AV)
 |[]=>[]
 |(j,v) :: l=>(j,f v) :: mapA f l
def keepA (l:List (Nat × AV)):List Nat→List (Nat × AV)
 |[]=>[]
 |k :: ks=>(k,look l k) :: keepA l ks
def zL:Nat→List PV→List (Nat × AV)
 |_,[]=>[]
 |k,v :: l=>(k,.pv v) :: zL (k+1) l
def MS (nb:Nat):List (Nat × AV)→Bool
 |[]=>true
 |(_,v) :: l=>AV.low nb v&&MS nb l
def P9 (n:Nat):List Nat→Bool
 |[]=>true
 |k :: ks=>decide (k<n)&&P9 n ks
theorem YJ (i:Nat) (v:AV) (l:List (Nat × AV)):look ((i,v) :: l) i=v:=by
 show dV (Nat.beq i i) v _=v
 rw [Nat.beq_refl];rfl
theorem look_nil (i:Nat):look [] i=.any:=(rfl)
theorem aex {n i:Nat} {l:List (Nat × AV)} (h':i<n):(sl n l).getD i .any=look l i:=by
 simp [sl,List.getD_eq_getElem?_getD,h']
theorem Ri {n i:Nat} {l:List (Nat × AV)} (h':i<n):(sl n l)[i]?=some (look l i):=by
 simp [sl,h']
theorem kR (l:List (Nat × AV)) (i j:Nat) (v:AV):look ((j,v) :: l) i=if i=j then v else look l i:=by
 show dV (Nat.beq i j) v _=_
 by_cases h:i=j
 ·subst h;rw [Nat.beq_refl,if_pos rfl];rfl
 ·rw [if_neg h]
  have:Nat.beq i j=false:=by
   cases e:Nat.beq i j with
   |false=>rfl
   |true=>exact absurd (Nat.eq_of_beq_eq_true e) h
  rw [this];rfl
theorem aey (n i:Nat) (v:AV) (l:List (Nat × AV)):(sl n l).set i v=sl n ((i,v) :: l):=by
 apply List.ext_getElem (by simp [sl])
 intro k h1 h2
 have hk:k<n:=by simpa [sl] using h2
 simp only [sl,List.getElem_set,List.getElem_map,List.getElem_range,kR]
 by_cases h:i=k
 ·subst h;simp
 ·rw [if_neg h,if_neg (fun e=>h e.symm)]
theorem UQ {i j:Nat} {v:AV} {l:List (Nat × AV)} (h:(i==j)=false):look ((j,v) :: l) i=look l i:=by
 rw [kR,if_neg (by simpa using h)]
theorem yT (f:AV→AV) (hf:f .any=.any):∀ (l:List (Nat × AV)) (i:Nat),look (mapA f l) i=f (look l i)
 |[],i=>hf.symm
 |(j,v) :: l,i=>by
  show look ((j,f v) :: mapA f l) i=_
  rw [kR,kR,yT f hf l i]
  split<;>rfl
theorem Jp {f:AV→AV} (hf:f .any=.any) (n:Nat) (l:List (Nat × AV)):(sl n l).map f=sl n (mapA f l):=by
 unfold sl
 rw [List.map_map]
 apply List.map_congr_left
 intro i _
 exact (yT f hf l i).symm
theorem abV (n d:Nat) (l:List (Nat × AV)):(sl n l).map (AV.kill d)=sl n (mapA (AV.kill d) l):=Jp rfl n l
theorem YK (n d:Nat) (l:List (Nat × AV)):(sl n l).map (AV.dG d)=sl n (mapA (AV.dG d) l):=Jp rfl n l
theorem YL (n d y:Nat) (l:List (Nat × AV)):(sl n l).map (AV.iE d y)=sl n (mapA (AV.iE d y) l):=Jp rfl n l
theorem YM (n:Nat) (l:List (Nat × AV)):(sl n l).map AV.froze=sl n (mapA AV.froze l):=Jp rfl n l
theorem YN (f:AV→AV):mapA f []=[]:=(rfl)
theorem UR (f:AV→AV) (j:Nat) (v:AV) (l:List (Nat × AV)):mapA f ((j,v) :: l)=(j,f v) :: mapA f l:=(rfl)
theorem UU (l:List (Nat × AV)):keepA l []=[]:=(rfl)
theorem wL (l:List (Nat × AV)) (k:Nat) (ks:List Nat):keepA l (k :: ks)=(k,look l k) :: keepA l ks:=(rfl)
theorem YO (nb:Nat):MS nb []=true:=(rfl)
theorem Fq (nb k:Nat) (v:AV) (l:List (Nat × AV)):MS nb ((k,v) :: l)=(AV.low nb v&&MS nb l):=(rfl)
theorem YP (n:Nat):P9 n []=true:=(rfl)
theorem Fv (n k:Nat) (l:List Nat):P9 n (k :: l)=(decide (k<n)&&P9 n l):=(rfl)
theorem UW (k:Nat):zL k []=[]:=(rfl)
theorem Di (k:Nat) (v:PV) (l:List PV):zL k (v :: l)=(k,.pv v) :: zL (k+1) l:=(rfl)
theorem wM (l:List (Nat × AV)):∀ (ks:List Nat) (i:Nat),look (keepA l ks) i=if ks.contains i then look l i else .any
 |[],i=>rfl
 |k :: ks,i=>by
  rw [wL,kR,wM l ks i,List.contains_cons]
  by_cases h:i=k
  ·subst h;simp
  ·have:(i==k)=false:=by simpa using h
   rw [if_neg h,this,Bool.false_or]
theorem MV (nb n:Nat) (l:List (Nat × AV)):∀ ks:List Nat,P9 n ks=true→(MS nb (keepA l ks)=true ↔ ∀ k∈ks,(look l k).low nb=true)
 |[],_=>by simp [keepA,MS]
 |k :: ks,h=>by
  rw [Fv,Bool.and_eq_true] at h
  rw [wL,Fq,Bool.and_eq_true,MV nb n l ks h.2]
  simp
theorem Rj {n nb:Nat} {l:List (Nat × AV)} {keep:List Nat} {bx:List Box} {ys:List (List PV)} {sp:Option (Option Nat)} (h:P9 n keep=true) (hb:nb≤bx.length) (hl:MS nb (keepA l keep)=true) :
  St.head ⟨sl n l,bx,ys,sp⟩ keep nb=some ⟨sl n (keepA l keep),bx.take nb,ys,sp⟩:=by
 have e:((sl n l).zipIdx.map fun (v,i)=>if keep.contains i then v else AV.any)=sl n (keepA l keep):=by
  apply List.ext_getElem (by simp [sl])
  intro i h1 h2
  simp only [sl,List.getElem_map,List.getElem_zipIdx,List.getElem_range,wM,Nat.zero_add]
 unfold St.head
 simp only
 rw [e,if_pos]
 rw [Bool.and_eq_true,decide_eq_true_eq]
 refine ⟨?_,hb⟩
 rw [List.all_eq_true]
 intro v hv
 unfold sl at hv
 obtain ⟨i,hi,rfl⟩:=List.mem_map.1 hv
 rw [wM]
 split
 ·rename_i hc
  exact (MV nb n l keep h).1 hl i (by simpa using hc)
 ·rfl
theorem YQ {n nb:Nat} {e:Ex} {l:List (Nat × AV)} {keep:List Nat} {bx:List Box} {ys:List (List PV)} {sp:Option (Option Nat)} (h:P9 n keep=true) (hb:nb≤bx.length) (hl:MS nb (keepA l keep)=true) :
  lF keep nb (e,⟨sl n l,bx,ys,sp⟩)=some (e,⟨sl n (keepA l keep),bx.take nb,ys,sp⟩):=by
 unfold lF
 simp only
 rw [Rj h hb hl]
 rfl
theorem Dj:∀ (l:List PV) (k i:Nat),look (zL k l) i=if k≤i then ((l[i - k]?).map AV.pv).getD .any else .any:=by
 intro l
 induction l with
 |nil=>intro k i;simp [zL,look]
 |cons v l ih =>
  intro k i
  rw [Di,kR,ih]
  by_cases h1:i=k
  ·subst h1;simp
  ·rw [if_neg h1]
   by_cases h2:k≤i
   ·rw [if_pos (by omega),if_pos h2,show i - k=(i - (k+1))+1 by omega,List.getElem?_cons_succ]
   ·rw [if_neg (by omega),if_neg h2]
theorem UY {n:Nat} {x:kC} {args:List PV} (hn:args.length+1≤n):Xg n x args=⟨sl n ((0,x.av) :: zL 1 args),x.boxes,[],none⟩:=by
 unfold Xg
 congr 1
 apply List.ext_getElem (by simp [sl];omega)
 intro i h1 h2
 simp only [sl,List.getElem_map,List.getElem_range,kR,Dj]
 cases i with
 |zero=>simp
 |succ i =>
  rw [List.getElem_cons_succ,if_neg (by omega),if_pos (by omega),show i+1 - 1=i by omega]
  by_cases hi:i<args.length
  ·rw [List.getElem_append_left (by simpa using hi)]
   simp [hi]
  ·rw [List.getElem_append_right (by simp;omega)]
   simp [hi]
theorem YR {n:Nat} {args:List PV} (hn:args.length≤n):start n args=⟨sl n (zL 0 args),[],[],none⟩:=by
 have key:=Dj
 unfold start
 congr 1
 apply List.ext_getElem (by simp [sl];omega)
 intro i h1 h2
 simp only [sl,List.getElem_map,List.getElem_range,key,Nat.zero_le,if_true,Nat.sub_zero]
 by_cases hi:i<args.length
 ·rw [List.getElem_append_left (by simpa using hi)]
  simp [hi]
 ·rw [List.getElem_append_right (by simp;omega)]
  simp [hi]
theorem aez (nb:Nat) (v:PV):AV.low nb (.pv v)=true:=(rfl)
theorem abW (nb:Nat):AV.low nb .any=true:=(rfl)
theorem abX (nb:Nat):AV.low nb .oQ=true:=(rfl)
theorem abY (nb sz:Nat) (es:List PV):AV.low nb (.row sz es)=true:=(rfl)
theorem YS (nb o j:Nat):AV.low nb (.aQ o j)=decide (o<nb):=(rfl)
theorem YT (nb t off len:Nat):AV.low nb (.ref (.slot t) off len)=true:=(rfl)
theorem YU (nb o j off len:Nat):AV.low nb (.ref (.cell o j) off len)=decide (o<nb):=(rfl)
theorem YV (nb t i j:Nat):AV.low nb (.ny (.slot t) i j)=true:=(rfl)
theorem YW (nb o q i j:Nat):AV.low nb (.ny (.cell o q) i j)=decide (o<nb):=(rfl)
theorem aeA (nb f:Nat) (caps:List AV):AV.low nb (.fn f caps)=caps.all fun c=>match c with
  |.pv _=>true
  |.aQ o _=>o<nb
  |_=>false:=(rfl)
def aO:=And.intro @YJ (And.intro @UQ (And.intro @look_nil (And.intro @aex (And.intro @Ri (And.intro @aey (And.intro @abV (And.intro (And.intro @YK @YL) (And.intro @YM (And.intro @YN (And.intro @UR (And.intro @UU (And.intro @wL (And.intro @YO (And.intro @Fq (And.intro @YP (And.intro @Fv (And.intro @UW (And.intro @Di (And.intro @Rj (And.intro @YQ (And.intro @YR (And.intro @UY (And.intro @aez (And.intro @abW (And.intro @abX (And.intro @abY (And.intro @YS (And.intro @YT (And.intro @YU (And.intro @YV (And.intro @YW (@aeA))))))))))))))))))))))))))))))))
def aA:=And.intro @aO (And.intro @bJ (And.intro @Yv @oW))
end Go.Proofs.YtaaokejjmdbfaaaDoor

namespace Go.Proofs.YtaaokejjmdbfaaaDoor.V
def qE (l:List PV) (z:PV) (i:Nat):List PV:=l.take i++List.replicate (l.length - i) z
theorem UZ {l:List PV} {z:PV} {i:Nat} (h:i≤l.length):(qE l z i).length=l.length:=by simp [qE];omega
theorem U0 {l:List PV} {z:PV} {i:Nat} (h:i<l.length):(qE l z i)[i]?=some z:=by
 unfold qE
 have e:(l.take i).length=i:=by simp;omega
 rw [List.getElem?_append_right (by omega),e,Nat.sub_self,List.getElem?_replicate,if_pos (by omega)]
theorem U1 {l:List PV} {z x:PV} {i:Nat} (h:i<l.length) (hx:l[i]?=some x):(qE l z i).set i x=qE l z (i+1):=by
 unfold qE
 have e:(l.take i).length=i:=by simp;omega
 rw [List.set_append_right _ _ (by omega),e,Nat.sub_self,show l.length - i=(l.length - (i+1))+1 by omega,List.replicate_succ,List.set_cons_zero,List.take_add_one,hx,Option.toList,List.append_assoc]
 rfl
theorem Qc (l:List PV) (z:PV):qE l z 0=List.replicate l.length z:=by simp [qE]
theorem U2 (l:List PV) (z:PV):qE l z l.length=l:=by simp [qE]
theorem YX:mM ⟨0,[]⟩=.agg [.int .i64 0,.list 1 []]:=rfl
def mZ (a b:Bm):Int:=if okB a=false then 3 else if okB b=false then 3 else if a.size≠b.size then 22 else 0
def uh (f:Wd→Wd→Wd) (a b:Bm):Bm:=if mZ a b=0 then ⟨a.size,lG f a.ws b.ws⟩ else ⟨0,[]⟩
theorem both_ok {a b:Bm} (h:mZ a b=0):okB a=true∧okB b=true∧a.size=b.size∧a.ws.length=b.ws.length:=by
 unfold mZ at h
 split at h
 ·omega
 ·split at h
  ·omega
  ·split at h
   ·omega
   ·rename_i c1 c2 c3
    have c1:okB a=true:=by cases h:okB a<;>simp_all
    have c2:okB b=true:=by cases h:okB b<;>simp_all
    have e:a.size=b.size:=Classical.not_not.1 c3
    have h1:=(kJ.1 c1).1.2.2
    have h2:=(kJ.1 c2).1.2.2
    exact ⟨c1,c2,e,by rw [e] at h1;omega⟩
theorem Dk {f:Wd→Wd→Wd} {a b:List Wd} (h:a.length=b.length):(lG f a b).length=a.length:=by simp [lG,h]
theorem YZ {f:Wd→Wd→Wd} {a b:List Wd} {i:Nat} (h1:i<a.length) (h2:i<b.length):(lG f a b)[i]?=some (f a[i] b[i]):=by
 have h:i<(lG f a b).length:=by simp [lG];omega
 rw [List.getElem?_eq_getElem h]
 simp [lG]
set_option maxRecDepth 20000 in
theorem aeB {a b:Bm} {f:Wd→Wd→Wd} {gf:Nat} (hf:∀ x y,cal env gf [eW x,eW y]=some [(eW (f x y),false)]) (hl:a.ws.length=b.ws.length) (hm:a.ws.length≤64) {st:St} (h:st.head [2,3,4,6,10,33,35,36] st.boxes.length=some ⟨sl 59 [(2,.pv (.func gf [])),(3,.aQ 0 0),(4,.aQ 1 0),(6,.aQ 2 0),(10,.row 1 (qE ((lG f a.ws b.ws).map eW) (.int .u64 0) ((0:Nat)))),(33,.any),(35,.pv (.int .i64 a.ws.length)),(36,.pv (.int .i64 (0:Nat)))],[⟨false,[.pv (.int .i64 a.size),.pv (.list 1 (a.ws.map eW))]⟩,⟨false,[.pv (.int .i64 b.size),.pv (.list 1 (b.ws.map eW))]⟩,⟨false,[.pv (.int .i64 0),.row 1 []]⟩],[],none⟩) :
  den env Jl st=some (.normal,⟨sl 59 [(3,.aQ 0 0),(6,.aQ 2 0),(7,.any),(10,.row 1 ((lG f a.ws b.ws).map eW))],[⟨false,[.pv (.int .i64 a.size),.pv (.list 1 (a.ws.map eW))]⟩,⟨false,[.pv (.int .i64 b.size),.pv (.list 1 (b.ws.map eW))]⟩,⟨false,[.pv (.int .i64 0),.row 1 []]⟩],[],none⟩):=by
 unfold Jl
 refine bH (env:=env) (nb:=3) (a.ws.length) (fun i=>⟨sl 59 [(2,.pv (.func gf [])),(3,.aQ 0 0),(4,.aQ 1 0),(6,.aQ 2 0),(10,.row 1 (qE ((lG f a.ws b.ws).map eW) (.int .u64 0) (i))),(33,.any),(35,.pv (.int .i64 a.ws.length)),(36,.pv (.int .i64 i))],[⟨false,[.pv (.int .i64 a.size),.pv (.list 1 (a.ws.map eW))]⟩,⟨false,[.pv (.int .i64 b.size),.pv (.list 1 (b.ws.map eW))]⟩,⟨false,[.pv (.int .i64 0),.row 1 []]⟩],[],none⟩) (fun i=>some (.normal,⟨sl 59 [(3,.aQ 0 0),(6,.aQ 2 0),(7,.any),(10,.row 1 ((lG f a.ws b.ws).map eW))],[⟨false,[.pv (.int .i64 a.size),.pv (.list 1 (a.ws.map eW))]⟩,⟨false,[.pv (.int .i64 b.size),.pv (.list 1 (b.ws.map eW))]⟩,⟨false,[.pv (.int .i64 0),.row 1 []]⟩],[],none⟩)) h (fun _=>rfl) (fun _=>by simp only [aO,bJ,Nat.reduceMul,Nat.reduceBEq,Nat.reduceLT,Nat.reduceLeDiff,Nat.reduceAdd,decide_true,Bool.and_self,Bool.true_and]) ?_ ?_
 ·intro i rb hi ih
  have hi1:=bD hi (by unfold lim;omega)
  have hj:i<b.ws.length:=by omega
  have F1:((i:Int)<(a.ws.length:Int))=True:=eq_true (by omega)
  have zl:((lG f a.ws b.ws).map eW).length=a.ws.length:=by rw [List.length_map,Dk hl]
  have f1:=UZ (l:=(lG f a.ws b.ws).map eW) (z:=.int .u64 0) (i:=i) (by omega)
  have f2:=U0 (l:=(lG f a.ws b.ws).map eW) (z:=.int .u64 0) (i:=i) (by omega)
  have f3:=U1 (l:=(lG f a.ws b.ws).map eW) (z:=.int .u64 0) (i:=i) (x:=eW (f a.ws[i] b.ws[i])) (by omega) (by rw [List.getElem?_map,YZ hi hj];rfl)
  have e1:=hf a.ws[i] b.ws[i]
  rw [zl] at f1
  unfold eW at e1 f1 f2 f3 ih ⊢
  simp only [Jk,F1,e1,f1,f2,f3,ah hi,ah hj,List.getElem?_map,List.getElem?_eq_getElem hi,List.getElem?_eq_getElem hj,Option.map_some,List.length_map,aA,Nat.reduceMul,Nat.reduceBEq,Nat.reduceLT,Nat.reduceLeDiff,reduceCtorEq,Nat.reduceEqDiff,Nat.reduceAdd,Nat.beq]
  rw [ih _ (by simp only [hi1,aA,Nat.reduceMul,Nat.reduceBEq,Nat.reduceLT,Nat.reduceLeDiff,reduceCtorEq,Nat.reduceEqDiff,Nat.reduceAdd,Nat.beq]<;>rfl)]
 ·intro rb
  have zl:((lG f a.ws b.ws).map eW).length=a.ws.length:=by rw [List.length_map,Dk hl]
  have f4:=U2 ((lG f a.ws b.ws).map eW) (.int .u64 0)
  rw [zl] at f4
  rw [f4]
  simp only [Jk,Int.lt_irrefl,aA,Nat.reduceMul,Nat.reduceBEq,Nat.reduceLT,Nat.reduceLeDiff,reduceCtorEq,Nat.reduceEqDiff,Nat.reduceAdd,Nat.beq]
theorem ag9 {a b:Bm} {f:Wd→Wd→Wd} {gf:Nat} (hf:∀ x y,cal env gf [eW x,eW y]=some [(eW (f x y),false)]) :
  cal env 99 [mM a,mM b,.func gf []]=some [(mM (uh f a b),false),(.int .i64 (mZ a b),false)]:=by
 have P:∀ b:Bm,part [PV.int .i64 b.size,.list 1 (b.ws.map eW)] 0 (some 2)=some (mM b):=fun _=>rfl
 have e1:=Rh (b:=a)
 have e2:=Rh (b:=b)
 have Z0:((0:Int) != 0)=false:=rfl
 have Z3:((3:Int) != 0)=true:=rfl
 have hz:=YX
 unfold uh
 cases c1:okB a with
 |false =>
  have hE:mZ a b=3:=by unfold mZ;rw [if_pos c1]
  rw [hE,if_neg (by decide),hz]
  rw [nI c1] at e1
  have eA:mM a=.agg [.int .i64 a.size,.list 1 (a.ws.map eW)]:=rfl
  have eB:mM b=.agg [.int .i64 b.size,.list 1 (b.ws.map eW)]:=rfl
  rw [eA] at e1 ⊢;rw [eB]
  rw [au Q7 rfl];simp only [Mc,aO,Nat.reduceBEq,Nat.reduceLeDiff,Nat.reduceAdd,List.length_cons,List.length_nil]
  simp only [e1,Z3,E8,E5,LX,aA,Nat.reduceMul,Nat.reduceBEq,Nat.reduceLT,Nat.reduceLeDiff,reduceCtorEq,Nat.reduceEqDiff,Nat.reduceAdd,Nat.beq]
 |true =>
  rw [wK c1] at e1
  cases c2:okB b with
  |false =>
   have hE:mZ a b=3:=by unfold mZ;rw [if_neg (by rw [c1];decide),if_pos c2]
   rw [hE,if_neg (by decide),hz]
   rw [nI c2] at e2
   have eA:mM a=.agg [.int .i64 a.size,.list 1 (a.ws.map eW)]:=rfl
   have eB:mM b=.agg [.int .i64 b.size,.list 1 (b.ws.map eW)]:=rfl
   rw [eA] at e1 ⊢;rw [eB] at e2 ⊢
   rw [au Q7 rfl];simp only [Mc,aO,Nat.reduceBEq,Nat.reduceLeDiff,Nat.reduceAdd,List.length_cons,List.length_nil]
   simp only [e1,e2,Z3,Z0,aA,Nat.reduceMul,Nat.reduceBEq,Nat.reduceLT,Nat.reduceLeDiff,reduceCtorEq,Nat.reduceEqDiff,Nat.reduceAdd,Nat.beq]
  |true =>
   rw [wK c2] at e2
   by_cases c3:a.size=b.size
   ·have hE:mZ a b=0:=by unfold mZ;rw [if_neg (by rw [c1];decide),if_neg (by rw [c2];decide),if_neg (by simpa using c3)]
    obtain ⟨_,_,_,hl⟩:=both_ok hE
    have hm:=(kF c1).2.2.1
    have G:(a.size != b.size)=false:=by simp [c3]
    have F3:((0:Int)≤(a.ws.length:Int))=True:=eq_true (by omega)
    have F4:((a.ws.length:Int)≤(lim:Int))=True:=eq_true (by unfold lim;omega)
    rw [hE,if_pos rfl]
    have eA:mM a=.agg [.int .i64 a.size,.list 1 (a.ws.map eW)]:=rfl
    have eB:mM b=.agg [.int .i64 b.size,.list 1 (b.ws.map eW)]:=rfl
    rw [eA] at e1 ⊢;rw [eB] at e2 ⊢
    rw [au Q7 rfl];simp only [Mc,aO,Nat.reduceBEq,Nat.reduceLeDiff,Nat.reduceAdd,List.length_cons,List.length_nil]
    simp only [e1,e2,Z0,G,F3,F4,Int.toNat_natCast,List.length_map,List.length_replicate,aA,Nat.reduceMul,Nat.reduceBEq,Nat.reduceLT,Nat.reduceLeDiff,reduceCtorEq,Nat.reduceEqDiff,Nat.reduceAdd,Nat.beq]
    rw [aeB hf hl hm]
    rotate_left
    ·have zl:((lG f a.ws b.ws).map eW).length=a.ws.length:=by rw [List.length_map,Dk hl]
     rw [Qc,zl]
     simp only [aO,bJ,Nat.reduceMul,Nat.reduceBEq,Nat.reduceLT,Nat.reduceLeDiff,Nat.reduceAdd,decide_true,Bool.and_self,Bool.true_and]<;>rfl
    ·simp only [e1,e2,Z0,G,F3,F4,Int.toNat_natCast,List.length_map,List.length_replicate,aA,Nat.reduceMul,Nat.reduceBEq,Nat.reduceLT,Nat.reduceLeDiff,reduceCtorEq,Nat.reduceEqDiff,Nat.reduceAdd,Nat.beq]
     rfl
   ·have hE:mZ a b=22:=by unfold mZ;rw [if_neg (by rw [c1];decide),if_neg (by rw [c2];decide),if_pos (by simpa using c3)]
    have G:(a.size != b.size)=true:=by simp [c3]
    rw [hE,if_neg (by decide),hz]
    have eA:mM a=.agg [.int .i64 a.size,.list 1 (a.ws.map eW)]:=rfl
    have eB:mM b=.agg [.int .i64 b.size,.list 1 (b.ws.map eW)]:=rfl
    rw [eA] at e1 ⊢;rw [eB] at e2 ⊢
    rw [au Q7 rfl];simp only [Mc,aO,Nat.reduceBEq,Nat.reduceLeDiff,Nat.reduceAdd,List.length_cons,List.length_nil]
    simp only [e1,e2,Z0,G,aA,Nat.reduceMul,Nat.reduceBEq,Nat.reduceLT,Nat.reduceLeDiff,reduceCtorEq,Nat.reduceEqDiff,Nat.reduceAdd,Nat.beq]
theorem aeC (x y:Wd):cal env 100 [eW x,eW y]=some [(eW (x ||| y),false)]:=by
 have W:=aiS x y
 unfold eW
 rw [au ad7 rfl];simp only [Md];simp only [start,aN,aU,aJ,aS,aF,aG,aK,aT,Nat.reduceAdd,Nat.reduceSub]
 simp only [W,bI,reduceCtorEq,Nat.reduceEqDiff,Nat.reduceAdd,Nat.reduceLT,Nat.reduceLeDiff,Nat.beq]
def Qd (x y:Wd):Wd:=x ||| y
theorem aha {a b:Bm}:cal env 80 [mM a,mM b]=some [(mM (uh Qd a b),false),(.int .i64 (mZ a b),false)]:=by
 have e1:=ag9 (a:=a) (b:=b) (f:=Qd) (gf:=100) aeC
 have eA:∀ a:Bm,mM a=.agg [.int .i64 a.size,.list 1 (a.ws.map eW)]:=fun _=>rfl
 rw [eA,eA,eA] at e1 ⊢
 rw [au agL rfl];simp only [Yh];simp only [start,aN,aU,aJ,aS,aF,aG,aK,aT,Nat.reduceAdd,Nat.reduceSub]
 simp only [e1,bI,reduceCtorEq,Nat.reduceEqDiff,Nat.reduceAdd,Nat.reduceLT,Nat.reduceLeDiff,Nat.beq]
end Go.Proofs.YtaaokejjmdbfaaaDoor.V
