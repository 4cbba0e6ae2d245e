/-
  Part 8 of the texts that the statement stands on.
-/
import Derived.Test.YtaaokejjmdbfaaaDoorZ7
set_option linter.all false
namespace Go.Proofs.YtaaokejjmdbfaaaDoor
open Go.RowKit V
def dR:Rep Run:=aaj nG 78
theorem yM {P:Program} {ops:Array Oper} {rest:List Oper} {o:Oper} {a:Act} {w:World} {Q:Exit→Act→World→Prop} {ty:TypeId} {x:Operand} {ad:Addr} {v:Value} (hgd:o.guard=none) (ho:o.op=.load ty x) (hx:a.eval x=.pointer (some ad))
  (hl:(loadVar ty ad).run P w=.ok v w) (h:wpList P ops Q rest (a.put o.dst v) w):wpList P ops Q (o :: rest) a w :=
 wpList_plain hgd fun _ hK=>by
  unfold Oper.wp execOp
  simp only [ho,hx,Instr.loadAt,Instr.sureAddr,Sem.run_bind,Sem.run_pure,Result.andThen_ok,hl]
  exact hK _ _ h
theorem atc {w:World} {b j:Nat} {arr:Array Value} {E:TypeId} {v:Value} (h:w.heap[b]?=some (.cells arr E (0,0))) (hj:arr[j]?=some v):w.cell? ⟨b,j,none⟩=some v:=by rw [cell_of_row _ _ _ _ _ (0,0) h];exact hj
theorem QI (x:dD):List.foldl (fun cs (p:Value × Nat)=>cs.setIfInBounds p.2 p.1) #[Value.int .u8 0,.int .u8 0,.int .u8 0,.int .u8 0,.int .u8 0,.int .u8 0,.int .u8 0,.int .u8 0] (aY x).zipIdx=(aY x).toArray:=by
 have h:=eU x
 generalize aY x=l at *
 match l,h with
 |[a,b,c,d,e,f,g,h],_=>simp only [List.zipIdx_cons,List.zipIdx_nil,List.foldl_cons,List.foldl_nil,List.setIfInBounds_toArray,List.set_cons_zero,List.set_cons_succ,Nat.zero_add,Nat.reduceAdd]
theorem afW (w:World) (B:Nat) (hB:B≤w.heap.size) (x:dD):Own nG B 78 (fun _=>False) (w.alloc (.cells (aY x).toArray 78)) (.slice (some ⟨w.heap.size,0,none⟩) 1 1) [x] :=
 ⟨aY x,World.ownsRow_lit w (aY x).toArray 1 hB (by decide) (by rw [List.size_toArray,eU];rfl),aY x,[],by simp,rfl,rfl⟩
theorem afX (w:World) (x:dD) {ok:Nat→Prop}:Src nG ok (w.alloc (.cells (aY x).toArray 78)) (some ⟨w.heap.size,0,none⟩) 1 1 [x] :=
 ⟨rfl,fun e=>(by cases e),aY x,fun ad e j u h=>(by cases e;exact yD w 78 (aY x).toArray j u h),aY x,[],(by simp),rfl,rfl⟩
theorem Own.ah1 {B:Nat} {E:TypeId} {w w':World} {v:Value} {l:List dD} {g:Nat} (h:Own nG B E (fun _=>False) w v l) (hg:w.grownBy w' (some g)) (hne:v.ownBlock≠some g):Own nG B E (fun _=>False) w' v l:=by
 obtain ⟨xs,h1,h2⟩:=h
 exact ⟨xs,h1.kept hg (by cases hv:v.ownBlock<;>simp_all),(Chunks.flat Flat.sec h2)⟩
theorem ah2 (w:World) {b j:Nat} {v:Value} {arr:Array Value} {E:TypeId} (h:w.heap[b]?=some (.cells arr E)):(w.setCell ⟨b,j,none⟩ v).heap[b]?=some (.cells (arr.setIfInBounds j v) E):=by
 simp only [World.setCell,Array.getElem?_modify,if_true,h,Option.map_some];rfl
theorem adQ (w:World) (a:Addr) (v:Value):(w.setCell a v).heap.size=w.heap.size:=by simp only [World.setCell,Array.size_modify]
theorem aji (w:World) (g j:Nat) (v:Value):w.grownBy (w.setCell ⟨g,j,none⟩ v) (some g) :=
 ⟨rfl,rfl,rfl,by rw [adQ];exact Nat.le_refl _,fun k _ hne=>Below.heap_setCell w _ v k fun e=>hne (by rw [e])⟩
theorem Tryd.ah3 {ok:Nat→Prop} {w:World} {b off n c k g:Nat} {l:List dD} {x:dD} (h:Sl nG ok w (some ⟨b,off,none⟩) n c l) (hx:l[k]?=some x) (hb:b<w.heap.size) (hne:b≠g) :
  ∀ w',(∃ y:kN w g,w'=y.w)→(loadVar 78 ⟨b,off+k * 8,none⟩).run Tryd.prog w'=.ok (.agg (aY x).toArray) w':=by
 rintro _ ⟨y,rfl⟩
 refine Tryd.RD fun j hj=>?_
 rw [mM (g:=g) (w:=w) (a:=⟨b,off+k * 8+j,none⟩) (v:=(aY x)[j]'(by rw [eU];exact hj)) ?_ hne y,List.getElem?_eq_getElem]
 rw [h.sec hx j hj,List.getElem?_eq_getElem]
theorem aak {w:World} (B:Nat) (hB:B≤w.heap.size) (v i:Int) (x:dD):dR.rd (B≤·) (w.alloc (.cells (aY x).toArray 78)) [.int .i64 v,.int .i64 i,.slice (some ⟨w.heap.size,0,none⟩) 1 1] ((v,i),[x]) :=
 ⟨_,rfl,gZ.mk (afW w B hB x) (fun e=>by cases e)⟩
set_option maxRecDepth 100000 in
set_option maxHeartbeats 4000000 in
theorem adl {a1 a2:Option Addr} {n1 c1 n2 c2:Nat} {A B:List dD} {ok1 ok2:Nat→Prop} {w:World} (h1:Sl nG ok1 w a1 n1 c1 A) (h2:Sl nG ok2 w a2 n2 c2 B) {v:Int} {s m:Nat} (hv:kX v) (hA:s+m≤A.length) (hB:s+m≤B.length) (hA6:A.length≤1000000) :
  Calls Tryd.prog 64 #[.int .i64 v,.slice a1 n1 c1,.slice a2 n2 c2,.agg #[.int .i64 s,.int .i64 m]] w (fun e w'=>∃ u,e=.returned u∧jl dR (w.heap.size+1) w'.heap.size 87 w' u (vJ v A B s m)∧(vJ v A B s m=[]→u=.slice none 0 0)∧Below w.heap.size w w'):=by
 obtain ⟨W,hW⟩:∃ W,w.alloc (.cells #[.int .i64 s,.int .i64 m] 83)=W:=⟨_,rfl⟩
 have hB0:Below w.heap.size w W:=by rw [← hW];exact (Below.refl _ _).alloc (Nat.le_refl _) _
 have hsz:W.heap.size=w.heap.size+1:=by rw [← hW];simp
 have hbox:∀ j,W.cell? ⟨w.heap.size,j,none⟩=#[Value.int .i64 s,.int .i64 m][j]?:=fun j=>by
  rw [← hW,World.cell?_alloc_mark w _ _ (0,0) j]
 have hsm:s+m≤1000000:=by omega
 have hl1:=h1.len
 have hl2:=h2.len
 have HL1:=Lib.hid hl1;clear hl1
 have HL2:=Lib.hid hl2;clear hl2
 go_enter Tryd.func64,Tryd.ntmps64
 go_wp2_with fail
 try rw [hW]
 go_loopw [9,10] (fun u i wr=>∃ k:Nat,k≤m∧i=.int .i64 ((s+k:Nat):Int)∧jl dR W.heap.size wr.heap.size 87 wr u (vJ v A B s k)∧(vJ v A B s k=[]→u=.slice none 0 0)∧Below W.heap.size W wr) (fun _ i _=>(s+m) - (intOf i).toNat)
 case atStart=>exact ⟨0,Nat.zero_le _,rfl,jl.nil _ _ _ _ _,fun _=>rfl,Below.refl _ _⟩
 case round =>
  obtain ⟨k,hk,rfl,hown,hnil,hBw⟩:=hrel
  have hc0:=(hBw.cell (p:=⟨w.heap.size,0,none⟩) (by show w.heap.size<_;omega)).trans (hbox 0)
  have hc1:=(hBw.cell (p:=⟨w.heap.size,1,none⟩) (by show w.heap.size<_;omega)).trans (hbox 1)
  by_cases hlt:k<m
  ·have hkA:s+k<A.length:=by omega
   have hkB:s+k<B.length:=by omega
   obtain ⟨b1,o1,rfl,hb1,hr1⟩:=h1.addr (by have:=HL1.out;omega:s+k<n1)
   obtain ⟨b2,o2,rfl,hb2,hr2⟩:=h2.addr (by have:=HL2.out;omega:s+k<n2)
   obtain ⟨x,hx⟩:∃ x,A[s+k]?=some x:=⟨_,List.getElem?_eq_getElem hkA⟩
   obtain ⟨y,hy⟩:∃ y,B[s+k]?=some y:=⟨_,List.getElem?_eq_getElem hkB⟩
   have hBw2:=hB0.trans (hBw.mono hB0.size)
   have hL1:=Tryd.Ns (h1.below hBw2) hx
   have hL2:=Tryd.Ns (h2.below hBw2) hy
   have hE:=Tryd.ahO x y
   have alm:s+k<n1:=by have:=HL1.out;omega
   have hkn2:s+k<n2:=by have:=HL2.out;omega
   have HX:=Lib.hid hx
   have HY:=Lib.hid hy
   clear hx hy
   have hok:=CV v A B s k
   have hnext:vJ v A B s (k+1)=stR v A B (vJ v A B s k) (s+k):=rfl
   have HN:=Lib.hid hnext;clear hnext
   cases hxy:x==y with
   |true =>
    rw [hxy] at hE
    have HE:=Lib.hid hxy
    clear hxy
    go_wp2_with fail
    refine fJ (fun w'=>∃ x:Later (wr),w'=x.w) [] [0,1,2,3,4,5,6,7,8] Tryd.mixed (by kernel_rfl) (lV.drew _) ?_
    refine iY ?_
    simp only [pick,List.filterMap_cons,List.filterMap_nil,List.getElem?_toArray,List.getElem?_cons_succ,List.getElem?_cons_zero]
    change wpQuiet _ _ _ _ (_ :: _ :: _ :: _ :: _ :: _ :: _ :: _ :: _ :: []) _
    repeat (first|(go_big_quiet_want;refine jd _ (.tmp 25) rfl _ rfl _ hL1 ?_;go_big_quiet_on;simp only [Act.put,List.setIfInBounds_toArray,List.set_cons_zero,List.set_cons_succ])|(go_big_quiet_want;refine jd _ (.tmp 29) rfl _ rfl _ hL2 ?_;go_big_quiet_on;simp only [Act.put,List.setIfInBounds_toArray,List.set_cons_zero,List.set_cons_succ])|go_big_quiet_step (fail))
    refine wpQuiet_nil ?_
    go_wp2
    go_roundw
    case rel=>exact ⟨k+1,by omega,by go_num,by
     rw [HN.out,stR,if_pos (by rw [HX.out,HY.out,eq_of_beq HE.out])]
     exact hown.below ((Below.refl _ _).drew),fun e=>hnil (by rw [HN.out,stR,if_pos (by rw [HX.out,HY.out,eq_of_beq HE.out])] at e;exact e),hBw.drew⟩
    case measure=>simp [intOf];omega
   |false =>
    rw [hxy] at hE
    have HE:=Lib.hid hxy
    clear hxy
    have hst:stR v A B (vJ v A B s k) (s+k)=vV v (s+k) x (vJ v A B s k):=by
     rw [stR,if_neg (by rw [HX.out,HY.out];intro e;rw [Option.some.inj e,beq_self_eq_true] at HE;exact absurd HE.out (by decide)),List.getD_eq_getElem?_getD,HX.out];rfl
    have HS:=Lib.hid hst;clear hst
    have hL9:=hL1 wr.drew.drew (lV.of ((Below.refl _ _).drew.drew))
    generalize hO:vJ v A B s k=out at hown hok
    have HO:=Lib.hid hO;clear hO
    have h8:=eU x
    have hnews:∀ (j:Nat) (u:Value),[Value.int .i64 v,.int .i64 ((s:Int)+k),.slice (some ⟨wr.drew.drew.heap.size,0,none⟩) 1 1][j]?=some u→((wr.drew.drew.alloc (.cells (aY x).toArray 78)).alloc (.cells #[.int .i64 v,.int .i64 ((s:Int)+k),.slice (some ⟨wr.drew.drew.heap.size,0,none⟩) 1 1] 87)).cell? ((⟨wr.heap.size+1,0,none⟩:Addr).add j)=some u:=by
     have h:=yD (wr.drew.drew.alloc (.cells (aY x).toArray 78)) 87 #[.int .i64 v,.int .i64 ((s:Int)+k),.slice (some ⟨wr.drew.drew.heap.size,0,none⟩) 1 1]
     rw [World.size_alloc] at h
     exact h
    have wB:=hown.lt
    have hz:=hBw.size
    have hBa:Below wr.heap.size wr ((wr.drew.drew.alloc (.cells (aY x).toArray 78)).alloc (.cells #[.int .i64 v,.int .i64 ((s:Int)+k),.slice (some ⟨wr.drew.drew.heap.size,0,none⟩) 1 1] 87)):=((Below.refl _ _).drew.drew.alloc (Nat.le_refl _) _).alloc (by rw [World.size_alloc];exact Nat.le_succ _) _
    cases hn:out.length with
    |zero =>
     have he:out=[]:=List.eq_nil_of_length_eq_zero hn
     subst he
     obtain ⟨a9,n9,c9,rfl,hs9⟩:=hown.sl
     obtain rfl:n9=0:=hs9.len.symm
     go_wp2_with fail
     refine fJ (fun w'=>∃ x:Later (wr),w'=x.w) [] [0,1,2,3,4,5,6,7,8] Tryd.mixed (by kernel_rfl) (lV.drew _) ?_
     refine iY ?_
     simp only [pick,List.filterMap_cons,List.filterMap_nil,List.getElem?_toArray,List.getElem?_cons_succ,List.getElem?_cons_zero]
     change wpQuiet _ _ _ _ (_ :: _ :: _ :: _ :: _ :: _ :: _ :: _ :: _ :: []) _
     repeat (first|(go_big_quiet_want;refine jd _ (.tmp 25) rfl _ rfl _ hL1 ?_;go_big_quiet_on;simp only [Act.put,List.setIfInBounds_toArray,List.set_cons_zero,List.set_cons_succ])|(go_big_quiet_want;refine jd _ (.tmp 29) rfl _ rfl _ hL2 ?_;go_big_quiet_on;simp only [Act.put,List.setIfInBounds_toArray,List.set_cons_zero,List.set_cons_succ])|go_big_quiet_step (fail))
     refine wpQuiet_nil ?_
     go_wp2_with fail
     refine fJ (fun w'=>∃ x:Later (wr.drew),w'=x.w) [] [0,1,2,3,4,5,6,7,8,9,10,11,12,13,14,15,16,17,18,19] Tryd.mixed (by kernel_rfl) (lV.drew _) ?_
     refine iY ?_
     simp only [pick,List.filterMap_cons,List.filterMap_nil,List.getElem?_toArray,List.getElem?_cons_succ,List.getElem?_cons_zero]
     change wpQuiet _ _ _ _ (_ :: _ :: _ :: _ :: _ :: _ :: _ :: _ :: _ :: _ :: _ :: _ :: _ :: _ :: _ :: _ :: _ :: _ :: _ :: _ :: []) _
     repeat (go_big_quiet_step (fail))
     refine wpQuiet_nil ?_
     go_wp2_with (first|refine yM rfl rfl rfl hL9 ?_|(at_builtin;refine Hid.out ?_))
     refine Lib.hid ?_
     simp only [QI x]
     refine qw (r:=dR) (w:=(wr.drew.drew.alloc (.cells (aY x).toArray 78)).alloc (.cells #[.int .i64 v,.int .i64 ((s:Int)+k),.slice (some ⟨wr.drew.drew.heap.size,0,none⟩) 1 1] 87)) Tryd.ahN rfl _ _ rfl rfl (hown.below hBa) rfl hnews (yE (aak (w:=wr.drew.drew) wr.heap.size (Nat.le_refl _) v ((s:Int)+k) x)) ?c5 ?c1 ?c2 ?c3 ?c4 ?_
     case c5=>exact fun k hk=>(wB k hk).2
     case c1=>unfold maxLen;omega
     case c2=>omega
     case c3=>omega
     case c4=>simp;omega
     intro v' w2 hown1 hgrow _
     go_wp2
     go_roundw
     case rel=>exact ⟨k+1,by omega,by go_num,by
      rw [HN.out,HS.out,HO.out,vV,if_neg (fun h=>absurd h.1 (Nat.lt_irrefl _))]
      rw [Int.natCast_add]
      exact hown1,fun e=>absurd e (by rw [HN.out,HS.out];exact Iz),hBw.trans ((hBa.mono hBw.size).trans (grown_below hgrow (Nat.le_trans hBw.size hBa.size) (fun k hk=>(wB k hk).1)))⟩
     case measure=>simp [intOf];omega
    |succ n =>
     have hx9:out[n]?=some (sV out):=by
      unfold sV
      rw [hn,Nat.add_sub_cancel,List.getD_eq_getElem?_getD,List.getElem?_eq_getElem (by omega)];rfl
     obtain ⟨g,cap,cur,cc,Vz,rfl,hBg,hg,hgc,hcs,hcc,hrd,afz,hput⟩:=hown.put hx9
     obtain ⟨hv0,hv1,hv2,hv3⟩:=hok.1 _ (F9 (by omega))
     have hown0:=hown
     obtain ⟨vd,rfl,hvd⟩:=hrd
     rcases hLR:sV out with ⟨⟨Lv,Ls⟩,Ld⟩
     have HLR:=Lib.hid hLR
     rw [hLR] at hv0 hv1 hv2 hv3 hvd hcc hput
     clear hLR
     simp only at hv0 hv1 hv2 hv3
     obtain rfl:v=Lv:=hv0.symm
     obtain ⟨ad,nd,cd,rfl,hsd⟩:=gZ.sl Flat.sec hvd
     have hnd:=hsd.len
     have ce0:wr.cell? ⟨g,n * 3+1,none⟩=some (.int .i64 Ls):=atc hgc ((hcc 1 (by decide)).trans rfl)
     have ce1:wr.cell? ⟨g,n * 3+2,none⟩=some (.slice ad nd cd):=atc hgc ((hcc 2 (by decide)).trans rfl)
     rw [hn] at hown
     rw [hn]
     have k0:=vN (vN ce0 ⟨wr.drew,(Below.refl _ _).drew⟩)
     have k1:=vN (vN ce1 ⟨wr.drew,(Below.refl _ _).drew⟩)
     by_cases hend:Ls+(Ld.length:Int)=((s+k:Nat):Int)
     ·obtain ⟨_,e,hblk,adR,_⟩:=hvd
      cases e
      obtain ⟨gi,rfl,hgi⟩:∃ gi,ad=some ⟨gi,0,none⟩∧Vz gi:=by
       obtain ⟨xs,hrow,_⟩:=adR
       rcases hrow.2 with ⟨_,h0⟩|⟨gi,JM,cur',hvu,_⟩
       ·exact absurd (List.eq_nil_of_length_eq_zero h0) hv3
       ·cases hvu;exact ⟨gi,rfl,hblk gi rfl⟩
      obtain ⟨ajk,alp,afY⟩:=afz gi hgi
      have ah4:Below wr.heap.size wr wr.drew.drew:=(Below.refl _ _).drew.drew
      have ce2:=(ah4.cell (p:=⟨g,n * 3+2,none⟩) hg).trans ce1
      have kb:=mM (g:=gi) ce2 (Ne.symm afY)
      have hLb:=Tryd.ah3 (g:=gi) (h1.below (hBw2.trans (ah4.mono hBw2.size))) HX.out (show b1<wr.heap.size by have:=hBw2.size;omega) (show b1≠gi by omega)
      go_wp2_with fail
      refine fJ (fun w'=>∃ x:Later (wr),w'=x.w) [] [0,1,2,3,4,5,6,7,8] Tryd.mixed (by kernel_rfl) (lV.drew _) ?_
      refine iY ?_
      simp only [pick,List.filterMap_cons,List.filterMap_nil,List.getElem?_toArray,List.getElem?_cons_succ,List.getElem?_cons_zero]
      change wpQuiet _ _ _ _ (_ :: _ :: _ :: _ :: _ :: _ :: _ :: _ :: _ :: []) _
      repeat (first|(go_big_quiet_want;refine jd _ (.tmp 25) rfl _ rfl _ hL1 ?_;go_big_quiet_on;simp only [Act.put,List.setIfInBounds_toArray,List.set_cons_zero,List.set_cons_succ])|(go_big_quiet_want;refine jd _ (.tmp 29) rfl _ rfl _ hL2 ?_;go_big_quiet_on;simp only [Act.put,List.setIfInBounds_toArray,List.set_cons_zero,List.set_cons_succ])|go_big_quiet_step (fail))
      refine wpQuiet_nil ?_
      go_wp2_with fail
      refine fJ (fun w'=>∃ x:Later (wr.drew),w'=x.w) [] [0,1,2,3,4,5,6,7,8,9,10,11,12,13,14,15,16,17,18,19] Tryd.mixed (by kernel_rfl) (lV.drew _) ?_
      refine iY ?_
      simp only [pick,List.filterMap_cons,List.filterMap_nil,List.getElem?_toArray,List.getElem?_cons_succ,List.getElem?_cons_zero]
      change wpQuiet _ _ _ _ (_ :: _ :: _ :: _ :: _ :: _ :: _ :: _ :: _ :: _ :: _ :: _ :: _ :: _ :: _ :: _ :: _ :: _ :: _ :: _ :: []) _
      repeat (go_big_quiet_step (fail))
      refine wpQuiet_nil ?_
      go_wp2_with fail
      refine Ed (fun w'=>∃ x:kN (wr.drew.drew) (gi),w'=x.w) [([0,1,2,3,4,5,6,7,8,9,10,11,12],13),([],14)] [15,16] 17 Tryd.mixed (by kernel_rfl) (kN.drew _ _) ?_
      refine Eb ?_
      simp only [pick,List.filterMap_cons,List.filterMap_nil,List.getElem?_toArray,List.getElem?_cons_succ,List.getElem?_cons_zero]
      change wpQuiet _ _ _ _ (_ :: _ :: _ :: _ :: _ :: _ :: _ :: _ :: _ :: _ :: _ :: _ :: _ :: []) _
      repeat (first|(go_big_quiet_want;refine jd _ (.tmp 65) rfl _ rfl _ hLb ?_;go_big_quiet_on;simp only [Act.put,List.setIfInBounds_toArray,List.set_cons_zero,List.set_cons_succ])|go_big_quiet_step (fail))
      refine wpQuiet_nil ?_
      change wpList _ _ _ [_] _ _
      go_wp2_with fail
      simp only [QI x]
      obtain ⟨w10,aal⟩:∃ w10,wr.drew.drew.drew.alloc (.cells (aY x).toArray 78)=w10:=⟨_,rfl⟩
      rw [show (wr.alloc (.cells (aY x).toArray 78)).drew.drew.drew=w10 from aal]
      have adn:Below wr.heap.size wr w10:=by rw [← aal];exact (Below.refl _ _).drew.drew.drew.alloc (Nat.le_refl _) _
      have hs10:w10.heap.size=wr.heap.size+1:=by rw [← aal];exact World.size_alloc ..
      have ah5:wr.drew.drew.grownBy w10 (some gi):=Vy (by rw [← aal];exact below_grown (((Below.refl _ wr.drew.drew).drew).alloc (Nat.le_refl _) _))
      refine ⟨kN.of ah5,?_⟩
      refine Eb ?_
      simp only [pick,List.filterMap_cons,List.filterMap_nil,List.getElem?_toArray,List.getElem?_cons_succ,List.getElem?_cons_zero]
      change wpQuiet _ _ _ _ ([]) _
      repeat (go_big_quiet_step (fail))
      refine wpQuiet_nil ?_
      change wpList _ _ _ [_] _ _
      refine Bq (r:=nG) (B:=0) (ok:=fun _=>False) (w:=w10) Tryd.ZJ rfl _ _ rfl rfl (adR.below adn) rfl (by rw [← aal];exact afX wr.drew.drew.drew x) ?c1 ?c2 ?c3 ?_
      case c1=>unfold maxLen;omega
      case c2=>omega
      case c3=>exact Nat.zero_le _
      intro v' w11 aam vT JU
      obtain ⟨a11,n11,c11,rfl,akL⟩:=aam.sl
      go_wp2_with fail
      refine ⟨kN.of (Aa ah5 vT),?_⟩
      have A11:w11.heap[g]?=some (.cells cur 87 (0,0)):=(vT.block g (by omega) (fun e=>by cases e;exact afY rfl)).trans ((adn.block g hg).trans hgc)
      have alr:w11.cell? ⟨g,n * 3+2,none⟩=some (.slice (some ⟨gi,0,none⟩) nd cd):=atc A11 ((hcc 2 (by decide)).trans rfl)
      have als:w11.frozen? ⟨g,n * 3+2,none⟩=false:=by simp only [World.frozen?,A11,decide_eq_false (Nat.not_lt_zero _),Bool.and_false]
      refine NJ ?_
      simp only [pick,List.filterMap_cons,List.filterMap_nil,List.getElem?_toArray,List.getElem?_cons_succ,List.getElem?_cons_zero]
      change wpQuiet _ _ _ _ (_ :: _ :: []) _
      repeat (go_big_quiet_step (fail))
      refine wpQuiet_nil ?_
      change wpList _ _ _ [_] _ _
      go_wp2_with fail
      have hQ:=aji w11 g (n * 3+2) (.slice a11 n11 c11)
      have hgb:∀ b:Nat,(Value.slice a11 n11 c11).ownBlock=some b→b≠g:=fun b he=>by
       rw [he] at JU
       rcases JU with h|h
       ·have e2:b=gi:=Option.some.inj h
        rw [e2];exact afY
       ·have e2:b=w10.heap.size:=Option.some.inj h
        omega
      have ajm:dR.rd (fun b=>(Vz b∨wr.heap.size≤b)∧b≠g) (w11.setCell ⟨g,n * 3+2,none⟩ (.slice a11 n11 c11)) [.int .i64 v,.int .i64 Ls,.slice a11 n11 c11] ((v,Ls),Ld++[x]):=by
       refine ⟨_,rfl,_,rfl,fun b hb=>⟨?_,hgb b hb⟩,aam.ah1 hQ (fun e=>hgb g e rfl),fun e=>absurd e (by simp)⟩
       rw [hb] at JU
       rcases JU with h|h
       ·have e2:b=gi:=Option.some.inj h
        rw [e2];exact .inl hgi
       ·have e2:b=w10.heap.size:=Option.some.inj h
        exact .inr (by rw [e2,hs10];exact Nat.le_succ _)
      have ah6:wr.heap.size≤(w11.setCell ⟨g,n * 3+2,none⟩ (.slice a11 n11 c11)).heap.size:=by rw [adQ];have:=vT.size;omega
      have hP:=hput (w11.setCell ⟨g,n * 3+2,none⟩ (.slice a11 n11 c11)) 2 (.slice a11 n11 c11) ((v,Ls),Ld++[x]) (by decide) (ah2 w11 A11) (fun b hb hne ho=>(Below.heap_setCell _ _ _ _ hne).trans ((vT.block b (by omega) (fun e=>by cases e;exact ho hgi)).trans (adn.block b hb))) ah6 ajm
      rw [hn] at hP
      go_roundw
      case rel=>exact ⟨k+1,by omega,by go_num,by
       rw [HN.out,HS.out,HO.out,vV,if_pos ⟨by omega,by rw [HLR.out],by rw [HLR.out];exact hend⟩,HLR.out,hn]
       exact hP,fun e=>absurd e (by rw [HN.out,HS.out];exact Iz),((hBw.trans (adn.mono hBw.size)).grown vT (by omega) (fun j hj=>by cases hj;exact ajk)).grown hQ (by have:=vT.size;omega) (fun j hj=>by cases hj;exact hBg)⟩
      case measure=>simp [intOf];omega
     ·go_wp2_with fail
      refine fJ (fun w'=>∃ x:Later (wr),w'=x.w) [] [0,1,2,3,4,5,6,7,8] Tryd.mixed (by kernel_rfl) (lV.drew _) ?_
      refine iY ?_
      simp only [pick,List.filterMap_cons,List.filterMap_nil,List.getElem?_toArray,List.getElem?_cons_succ,List.getElem?_cons_zero]
      change wpQuiet _ _ _ _ (_ :: _ :: _ :: _ :: _ :: _ :: _ :: _ :: _ :: []) _
      repeat (first|(go_big_quiet_want;refine jd _ (.tmp 25) rfl _ rfl _ hL1 ?_;go_big_quiet_on;simp only [Act.put,List.setIfInBounds_toArray,List.set_cons_zero,List.set_cons_succ])|(go_big_quiet_want;refine jd _ (.tmp 29) rfl _ rfl _ hL2 ?_;go_big_quiet_on;simp only [Act.put,List.setIfInBounds_toArray,List.set_cons_zero,List.set_cons_succ])|go_big_quiet_step (fail))
      refine wpQuiet_nil ?_
      go_wp2_with fail
      refine fJ (fun w'=>∃ x:Later (wr.drew),w'=x.w) [] [0,1,2,3,4,5,6,7,8,9,10,11,12,13,14,15,16,17,18,19] Tryd.mixed (by kernel_rfl) (lV.drew _) ?_
      refine iY ?_
      simp only [pick,List.filterMap_cons,List.filterMap_nil,List.getElem?_toArray,List.getElem?_cons_succ,List.getElem?_cons_zero]
      change wpQuiet _ _ _ _ (_ :: _ :: _ :: _ :: _ :: _ :: _ :: _ :: _ :: _ :: _ :: _ :: _ :: _ :: _ :: _ :: _ :: _ :: _ :: _ :: []) _
      repeat (go_big_quiet_step (fail))
      refine wpQuiet_nil ?_
      go_wp2_with (first|refine yM rfl rfl rfl hL9 ?_|(at_builtin;refine Hid.out ?_))
      refine Lib.hid ?_
      simp only [QI x]
      refine qw (r:=dR) (w:=(wr.drew.drew.alloc (.cells (aY x).toArray 78)).alloc (.cells #[.int .i64 v,.int .i64 ((s:Int)+k),.slice (some ⟨wr.drew.drew.heap.size,0,none⟩) 1 1] 87)) Tryd.ahN rfl _ _ rfl rfl (hown.below hBa) rfl hnews (yE (aak (w:=wr.drew.drew) wr.heap.size (Nat.le_refl _) v ((s:Int)+k) x)) ?c5 ?c1 ?c2 ?c3 ?c4 ?_
      case c5=>exact fun k hk=>(wB k hk).2
      case c1=>unfold maxLen;omega
      case c2=>omega
      case c3=>omega
      case c4=>simp;omega
      intro v' w2 hown1 hgrow _
      go_wp2
      go_roundw
      case rel=>exact ⟨k+1,by omega,by go_num,by
       rw [HN.out,HS.out,HO.out,vV,if_neg (fun h=>hend (by have:=h.2.2;rw [HLR.out] at this;exact this))]
       rw [Int.natCast_add]
       exact hown1,fun e=>absurd e (by rw [HN.out,HS.out];exact Iz),hBw.trans ((hBa.mono hBw.size).trans (grown_below hgrow (Nat.le_trans hBw.size hBa.size) (fun k hk=>(wB k hk).1)))⟩
      case measure=>simp [intOf];omega
  ·go_wp2
   go_ret
   obtain rfl:k=m:=by omega
   exact ⟨_,rfl,by rw [← hsz];exact hown,hnil,hB0.trans (hBw.mono hB0.size)⟩
end Go.Proofs.YtaaokejjmdbfaaaDoor

namespace Go.Proofs.YtaaokejjmdbfaaaDoor
open Go.RowKit V
theorem aan {ok:Nat→Prop} {w:World} {a b:Int} {v:Value} (h:ay ok w (.agg [.int .i64 a,.int .i64 b]) v):v=.agg #[.int .i64 a,.int .i64 b]:=by
 cases h with
 |agg _ arr h1 h2 h3 =>
  obtain ⟨l,rfl⟩:∃ l:List Value,arr=l.toArray:=⟨arr.toList,by simp⟩
  match l,h1 with
  |[u0,u1],_=>rw [(h3 0 _ u0 rfl rfl).bT,(h3 1 _ u1 rfl rfl).bT]
theorem aao {ok ok':Nat→Prop} {w:World} {l:List Run} {a:Option Addr} {n c:Nat} (hk:∀ b,ok b→b<w.heap.size→ok' b) (hz:l=[]→c=0) (hne:∀ x∈l,x.2≠[]) (h:Sl dR ok w a n c l):ay ok' w (.list 3 ((l.map toW).map oz)) (.slice a n c):=by
 rw [List.map_map]
 refine sS (r:=dR) (enc:=oz ∘ toW) hk (by decide) (fun x=>rfl) (fun x hx cs hl hrd j p u hp hu=>?_) hz h
 obtain ⟨v,rfl,hv⟩:=hrd
 match j with
 |0=>cases hp;cases hu;exact ⟨rfl,.int _ _⟩
 |1=>cases hp;cases hu;exact ⟨rfl,.int _ _⟩
 |2 =>
  cases hp;cases hu
  obtain ⟨a2,n2,c2,rfl,hs⟩:=gZ.sl Flat.sec hv
  refine ⟨rfl,sS (r:=nG) (enc:=iT) hk (by decide) (fun x=>gB x) (fun s _ cs hl hrd j p u hp hu=>?_) (fun e=>absurd e (hne x hx)) hs⟩
  have hrd:cs=aY s:=hrd
  subst hrd
  simp only [aY,List.getElem?_map,Option.map_eq_some_iff] at hu
  have hp:(lT s)[j]?=some p:=hp
  simp only [lT,List.getElem?_map,Option.map_eq_some_iff] at hp
  obtain ⟨b,h1,rfl⟩:=hu
  obtain ⟨b',h2,rfl⟩:=hp
  rw [h1] at h2
  cases h2
  exact ⟨rfl,.int _ _⟩
 |j+3=>simp [oz,toW,PV.cells] at hp
theorem afZ:∀ args rs,Mc args=some rs→callable Tryd.prog 64=true∧nK Tryd.prog 64 args rs:=fun args rs h=>by
 obtain ⟨v,A,B,s,m,rfl,h1,h2,h3,h4,rfl⟩:=abV h
 refine ⟨by kernel_rfl,fun T0 w vs g1 g2 g3 g4 _=>?_⟩
 match vs,g3 with
 |[v0,v1,v2,v3],_ =>
  have e0:=(g4 0 _ v0 rfl rfl).bT
  obtain ⟨a,n,c,rfl,hs⟩:=Bo (g4 1 _ v1 rfl rfl)
  obtain ⟨a',n',c',rfl,hs'⟩:=Bo (g4 2 _ v2 rfl rfl)
  have e3:=aan (g4 3 _ v3 rfl rfl)
  subst e0 e3
  have hv:kX v:=by
   unfold kW at h1
   simp only [Bool.and_eq_true,decide_eq_true_eq] at h1
   exact h1
  refine (adl hs hs' hv h2 h3 h4).mono ?_
  rintro e w' ⟨u,rfl,hown,hnil,hB⟩
  obtain ⟨ha,hn,hc,rfl,hsl⟩:=hown.sl
  refine ⟨_,fun b=>if w.heap.size≤b∧b<w'.heap.size then .ro else T0 b,rfl,hB,fun b hb=>if_neg (by omega),fun b hb=>?_,#[_],rfl,rfl,fun i r u hr' hu=>?_⟩
  ·show (if _ then _ else T0 b)=_
   rw [if_neg (by omega)];exact g2 b (by have:=hB.size;omega)
  ·match i with
   |0 =>
    cases hr';cases hu
    exact aao (fun b hb hlt=>if_pos ⟨by omega,hlt⟩) (fun e=>by have:=hnil e;cases this;rfl) (fun x hx=>((CV v A B s m).1 x hx).2.2.2) hsl
   |i+1=>simp at hr'
end Go.Proofs.YtaaokejjmdbfaaaDoor
