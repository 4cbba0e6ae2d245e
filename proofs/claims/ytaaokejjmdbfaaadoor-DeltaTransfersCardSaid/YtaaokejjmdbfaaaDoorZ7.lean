/-
  Part 7 of the texts that the statement stands on.
-/
import Derived.Test.YtaaokejjmdbfaaaDoorZ6
set_option linter.all false
namespace Go.Proofs.YtaaokejjmdbfaaaDoor
open Go.RowKit V
theorem Rw (w:World) (o:Obj):(w.alloc o).heap[w.heap.size]?=some o:=Array.getElem?_push_size
theorem ac5 (w:World) (o:Obj):(w.alloc o).heap.size=w.heap.size+1:=Array.size_push _
theorem ahq (w:World) (o:Obj) {k:Nat} (h:k<w.heap.size):(w.alloc o).heap[k]?=w.heap[k]?:=Below.heap_alloc w o k h
theorem Nh {w:World} {b:Nat} {o:Obj} (h:w.heap[b]?=some o):b<w.heap.size:=(Array.getElem?_eq_some_iff.1 h).1
theorem uq {w w':World} {b:Nat} {o:Obj} (h:w.heap[b]?=some o) (hB:Below w.heap.size w w'):w'.heap[b]?=some o:=(hB.block b (Nh h)).trans h
theorem Tryd.Zn {w:World} {l:List Pt} {pa:Option Addr} {pc f:Nat} {a:Pt} (hP:ay (fun b=>b<w.heap.size) w (.list 4 (l.map dX)) (.slice pa l.length pc)) (hf:l[f]?=some a):∃ pb po a1 a2 a3,pa=some ⟨pb,po,none⟩∧pb<w.heap.size∧PtR w a a1 a2 a3∧∀ w':World,w'.heap[pb]?=w.heap[pb]?→(loadVar 27 ⟨pb,po+f * 4,none⟩).run Tryd.prog w'=.ok (.agg #[.int .i64 a.site,a1,a2,a3]) w':=by
 obtain ⟨x,c,e,_,_,h⟩:=hP.qy
 have hlt:f<l.length:=(List.getElem?_eq_some_iff.1 hf).1
 obtain ⟨b,off,rfl,hb,_,_,hM⟩:=h (by rw [List.length_map];omega)
 have e1:pa=some ⟨b,off,none⟩:=by injection e
 have hm:=hM f (dX a) (by rw [List.getElem?_map,hf];rfl)
 obtain ⟨u,h1,h2,_⟩:=oG (P:=Tryd.prog) (T:=27) (n:=some 4) hm (by kernel_rfl) (j:=0) (v:=dX a) rfl
 obtain ⟨a1,a2,a3,rfl,hp⟩:=aeJ h2
 exact ⟨b,off,a1,a2,a3,e1,hb,hp,fun w' hw=>by have:=h1 w' hw;rwa [Nat.add_zero] at this⟩
theorem Sl.cellS {ok:Nat→Prop} {w:World} {b off n c:Nat} {l:zZ} (h:Sl zi ok w (some ⟨b,off,none⟩) n c l) {v:Nat} (hv:v<l.length):∃ a2 n2 c2,w.cell? ⟨b,off+v,none⟩=some (.slice a2 n2 c2)∧Sl pR ok w a2 n2 c2 (l.getD v []):=by
 have hx:l[v]?=some (l.getD v []):=by rw [List.getD_eq_getElem?_getD,List.getElem?_eq_getElem hv];rfl
 obtain ⟨a2,n2,c2,h1,h2⟩:=h.slice hx
 exact ⟨a2,n2,c2,h1,h2⟩
theorem kK {P:Program} {ops:Array Oper} {rest:List Oper} {o:Oper} {a:Act} {w:World} {Q:Exit→Act→World→Prop} {T:TypeId} {p x:Operand} {b:Nat} {v:Value} {arr:Array Value} {E:TypeId} (hgd:o.guard=none) (ho:o.op=.store T p x) (hp:a.eval p=.pointer (some ⟨b,0,none⟩)) (hx:a.eval x=v)
  (hs:jr P T=some v.cells.size) (hb:w.heap[b]?=some (.cells arr E (0,0))) (hl:arr.size=v.cells.size) (h1:∀ u∈v.cells.toList,u.oneCell'=true) (h:wpList P ops Q rest (a.put o.dst undef) (w.setRow b v.cells)):wpList P ops Q (o :: rest) a w :=
 wpList_plain hgd fun _ hK=>by
  have hst:=kY (P:=P) (T0:=T) (off:=0) hs hb (by omega) h1
  have e:arr.toList.drop (0+v.cells.toList.length)=[]:=List.drop_eq_nil_of_le (by simp [hl])
  rw [e] at hst
  simp only [List.take_zero,List.nil_append,List.append_nil,Array.toArray_toList] at hst
  unfold Oper.wp execOp
  simp only [ho,hp,hx,Instr.storeAt,Instr.sureAddr,Sem.run_bind,Sem.run_pure,Result.andThen_ok,hst]
  exact hK _ _ h
theorem Jw (w:World) (b:Nat) (cs:Array Value):w.grownBy (w.setRow b cs) (some b):=⟨rfl,rfl,rfl,by simp [World.setRow],fun k _ hne=>setRow_other w b k cs fun e=>hne (by rw [e])⟩
theorem below_setRow {B:Nat} {w:World} {b:Nat} (cs:Array Value) (hB:B≤w.heap.size) (h:B≤b):Below B w (w.setRow b cs):=grown_below (Jw w b cs) hB fun k e=>by cases e;exact h
theorem ahr {x:Int} {u1 u2:Value} {a:Option Addr} {n c:Nat} (h1:u1.oneCell'=true) (h2:u2.oneCell'=true):∀ u∈(Value.agg #[.int .i64 x,u1,u2,.slice a n c]).cells.toList,u.oneCell'=true:=fun u hu=>by
 have hu:u∈[Value.int .i64 x,u1,u2,.slice a n c]:=hu
 rcases List.mem_cons.1 hu with rfl|hu
 ·rfl
 ·rcases List.mem_cons.1 hu with rfl|hu
  ·exact h1
  ·rcases List.mem_cons.1 hu with rfl|hu
   ·exact h2
   ·rw [List.mem_singleton.1 hu];rfl
theorem Tryd.Zo {w:World} {b:Nat} {x:Int} {u1 u2 u3:Value} (h:w.heap[b]?=some (.cells (Value.agg #[.int .i64 x,u1,u2,u3]).cells 27 (0,0))):∀ w',dL w w'→(loadVar 27 ⟨b,0,none⟩).run Tryd.prog w'=.ok (.agg #[.int .i64 x,u1,u2,u3]) w':=by
 rintro _ ⟨y,rfl⟩
 have h':=uq h y.below
 exact y7 (cs:=[.int .i64 x,u1,u2,u3]) Tryd.underlying27 rfl (by kernel_rfl) fun j hj=>by
  rw [Addr.add_lit,Nat.zero_add,cell_of_row _ _ _ _ _ (0,0) h']
  show (#[Value.int .i64 x,u1,u2,u3]:Array Value)[j]?=_
  rw [← Array.getElem?_toList]
theorem aeV {G P:Prop} (hg:G) (h:(Unit→G)→P):P:=h fun _=>hg
theorem aiU {a:Pt} (h:a.img.length≤8∧∀ v∈a.img,v.length≤4096):a.img.length≤8:=h.1
set_option maxRecDepth 100000 in
set_option maxHeartbeats 4000000 in
theorem ab7 {l:List Pt} {f t:Nat} {a b:Pt} (hfa:l[f]?=some a) (hfb:l[t]?=some b) (hl4:l.length≤4) {pa:Option Addr} {pc:Nat} {w:World} (hP:ay (fun b=>b<w.heap.size) w (.list 4 (l.map dX)) (.slice pa l.length pc))
  (hi:iU a.img=0) (hs:aC a.img=aC b.img)
  (cF:∀ W,Below w.heap.size w W→Calls Tryd.prog 62 #[.slice pa l.length pc] W (fun e w'=>e=.returned (.int .i64 0)∧Below W.heap.size W w'))
  (cM:∀ W a1 a2 a3 b1 b2 b3 (v k:Nat),Below w.heap.size w W→PtR W a a1 a2 a3→PtR W b b1 b2 b3→v<a.img.length→k<eX a v→Calls Tryd.prog 65 #[.agg #[.int .i64 a.site,a1,a2,a3],.agg #[.int .i64 b.site,b1,b2,b3],.int .i64 v,.int .i64 k] W (fun e w'=>e=.returned (.bool (mk2 a b v k))∧Below W.heap.size W w')) :
  Calls Tryd.prog 23 #[.slice pa l.length pc,.int .i64 f,.int .i64 t] w (fun e w'=>∃ u B,e=.returned (.tuple #[u,.int .i64 0])∧w.heap.size≤B∧jP dR B w'.heap.size 87 w' u (Ju a b a.img.length)∧(Ju a b a.img.length=[]→u=.slice none 0 0)∧Below w.heap.size w w'):=by
 have hf1:f<l.length:=(List.getElem?_eq_some_iff.1 hfa).1
 have ht1:t<l.length:=(List.getElem?_eq_some_iff.1 hfb).1
 obtain ⟨pb,po,a1,a2,a3,rfl,hpb,pA,hLa⟩:=Tryd.Zn hP hfa
 obtain ⟨pb',po',b1,b2,b3,e,_,pB,hLb⟩:=Tryd.Zn hP hfb
 obtain ⟨rfl,rfl⟩:pb=pb'∧po=po':=by cases e;exact ⟨rfl,rfl⟩
 obtain ⟨ai,an,ac,rfl,sA⟩:=WT pA.i
 obtain ⟨bi,bn,bc,rfl,sB⟩:=WT pB.i
 have hia:=jo hi
 have hlab:=(qF hs).1
 have HIA:=Lib.hid hia;clear hia
 go_enter Tryd.func23,Tryd.ntmps23
 go_wp2_with fail
 refine (cF _ (Below.refl _ _)).mono ?_
 rintro e w1 ⟨rfl,hB1⟩
 go_wp2_with fail
 have hL1:∀ w',dL w1 w'→(loadVar 27 ⟨pb,po+f * 4,none⟩).run Tryd.prog w'=.ok (.agg #[.int .i64 a.site,a1,a2,.slice ai an ac]) w':=fun w' ⟨y,e⟩=>hLa w' (by rw [e];exact (hB1.trans (y.below.mono hB1.size)).block pb hpb)
 have hL2:∀ w',dL w1 w'→(loadVar 27 ⟨pb,po+t * 4,none⟩).run Tryd.prog w'=.ok (.agg #[.int .i64 b.site,b1,b2,.slice bi bn bc]) w':=fun w' ⟨y,e⟩=>hLb w' (by rw [e];exact (hB1.trans (y.below.mono hB1.size)).block pb hpb)
 have oA:∀ u∈(Value.agg #[.int .i64 a.site,a1,a2,.slice ai an ac]).cells.toList,u.oneCell'=true:=ahr pA.l.cell1 pA.d.cell1
 have oB:∀ u∈(Value.agg #[.int .i64 b.site,b1,b2,.slice bi bn bc]).cells.toList,u.oneCell'=true:=ahr pB.l.cell1 pB.d.cell1
 refine Cc (fun w'=>∃ x:Later w1,w'=x.w) (.two [0,1,2,3,4,5,6,7] 8 9 (.one [] 9 (.one [] 10 (.one [] 11 (.last [])))) (.one [] 8 (.one [] 10 (.one [] 11 (.last []))))) Tryd.mixed (by kernel_rfl) (dL.drew _) ?_
 refine OQ ?_
 simp only [pick,List.filterMap_cons,List.filterMap_nil,List.getElem?_toArray,List.getElem?_cons_succ,List.getElem?_cons_zero]
 change wpQuiet _ _ _ _ (_ :: _ :: _ :: _ :: _ :: _ :: _ :: _ :: []) _
 repeat (first|(go_big_quiet_want;refine bW _ (.tmp 40) rfl _ rfl _ hL1 ?_;go_big_quiet_on;simp only [Act.put,List.setIfInBounds_toArray,List.set_cons_zero,List.set_cons_succ])|(go_big_quiet_want;refine bW _ (.tmp 44) rfl _ rfl _ hL2 ?_;go_big_quiet_on;simp only [Act.put,List.setIfInBounds_toArray,List.set_cons_zero,List.set_cons_succ])|go_big_quiet_step (fail))
 refine wpQuiet_nil ?_
 apply aeV
 rotate_left
 ·intro H
  refine ⟨?g8,?g9⟩
  case g8 =>
   change wpList _ _ _ [_] _ _
   go_wp2_with fail
   have hA1:Below w1.heap.size w1 (w1.drew.alloc (.cells #[.int .i64 0,.slice none 0 0,.slice none 0 0,.slice none 0 0] 27)):=((Below.refl _ _).drew).alloc (Nat.le_refl _) _
   refine ⟨dL.of hA1,?_⟩
   refine lY ?_
   simp only [pick,List.filterMap_cons,List.filterMap_nil,List.getElem?_toArray,List.getElem?_cons_succ,List.getElem?_cons_zero]
   change wpQuiet _ _ _ _ ([]) _
   refine wpQuiet_nil ?_
   change wpList _ _ _ [_] _ _
   go_wp2_with fail
   have hA2:=hA1.alloc hA1.size (.cells #[.int .i64 0,.slice none 0 0,.slice none 0 0,.slice none 0 0] 27)
   refine ⟨dL.of hA2,?_⟩
   refine lY ?_
   simp only [pick,List.filterMap_cons,List.filterMap_nil,List.getElem?_toArray,List.getElem?_cons_succ,List.getElem?_cons_zero]
   change wpQuiet _ _ _ _ ([]) _
   refine wpQuiet_nil ?_
   change wpList _ _ _ [_] _ _
   change wpList _ _ _ [_] _ ((w1.drew.alloc (.cells #[.int .i64 0,.slice none 0 0,.slice none 0 0,.slice none 0 0] 27)).alloc (.cells #[.int .i64 0,.slice none 0 0,.slice none 0 0,.slice none 0 0] 27))
   have s0:w1.drew.heap.size=w1.heap.size:=rfl
   have Z1:=Rw w1.drew (.cells #[.int .i64 0,.slice none 0 0,.slice none 0 0,.slice none 0 0] 27)
   have Z2:=Rw (w1.drew.alloc (.cells #[.int .i64 0,.slice none 0 0,.slice none 0 0,.slice none 0 0] 27)) (.cells #[.int .i64 0,.slice none 0 0,.slice none 0 0,.slice none 0 0] 27)
   have Z1:=(ahq (w1.drew.alloc (.cells #[.int .i64 0,.slice none 0 0,.slice none 0 0,.slice none 0 0] 27)) (.cells #[.int .i64 0,.slice none 0 0,.slice none 0 0,.slice none 0 0] 27) (Nh Z1)).trans Z1
   rw [ac5,s0] at Z2
   rw [s0] at Z1
   generalize ((w1.drew.alloc (.cells #[.int .i64 0,.slice none 0 0,.slice none 0 0,.slice none 0 0] 27)).alloc (.cells #[.int .i64 0,.slice none 0 0,.slice none 0 0,.slice none 0 0] 27))=W2 at *
   refine kK (b:=w1.heap.size) (v:=.agg #[.int .i64 a.site,a1,a2,.slice ai an ac]) rfl rfl rfl rfl (by kernel_rfl) Z1 rfl oA ?_
   have hA3:=hA2.trans (below_setRow (Value.agg #[.int .i64 a.site,a1,a2,.slice ai an ac]).cells hA2.size (show w1.heap.size≤w1.heap.size by omega))
   refine ⟨rfl,dL.of hA3,?_⟩
   refine lY ?_
   simp only [pick,List.filterMap_cons,List.filterMap_nil,List.getElem?_toArray,List.getElem?_cons_succ,List.getElem?_cons_zero]
   change wpQuiet _ _ _ _ ([]) _
   refine wpQuiet_nil ?_
   change wpList _ _ _ [_] _ _
   have B9:=setRow_heap _ _ _ (Value.agg #[.int .i64 a.site,a1,a2,.slice ai an ac]).cells _ (0,0) Z1
   have B10:=(setRow_other _ w1.heap.size (w1.heap.size+1) (Value.agg #[.int .i64 a.site,a1,a2,.slice ai an ac]).cells (by omega)).trans Z2
   refine kK (b:=(w1.heap.size+1)) (v:=.agg #[.int .i64 b.site,b1,b2,.slice bi bn bc]) rfl rfl rfl rfl (by kernel_rfl) B10 rfl oB ?_
   have hA4:=hA3.trans (below_setRow (Value.agg #[.int .i64 b.site,b1,b2,.slice bi bn bc]).cells hA3.size (show w1.heap.size≤(w1.heap.size+1) by omega))
   refine ⟨rfl,dL.of hA4,?_⟩
   have C10:=setRow_heap _ _ _ (Value.agg #[.int .i64 b.site,b1,b2,.slice bi bn bc]).cells _ (0,0) B10
   have C9:=(setRow_other _ (w1.heap.size+1) w1.heap.size (Value.agg #[.int .i64 b.site,b1,b2,.slice bi bn bc]).cells (by omega)).trans B9
   clear Z1 Z2 B9 B10 hA1 hA2 hA3
   generalize (W2.setRow w1.heap.size (Value.agg #[.int .i64 a.site,a1,a2,.slice ai an ac]).cells).setRow (w1.heap.size+1) (Value.agg #[.int .i64 b.site,b1,b2,.slice bi bn bc]).cells=W4 at *
   refine zH ?_
   simp only [pick,List.filterMap_cons,List.filterMap_nil,List.getElem?_toArray,List.getElem?_cons_succ,List.getElem?_cons_zero]
   change wpQuiet _ _ _ _ ([]) _
   refine wpQuiet_nil ?_
   generalize w1.heap.size+1=p10 at C10 ⊢
   generalize w1.heap.size=p9 at C9 ⊢
   revert hA4
   revert C10
   revert C9
   revert p10
   revert p9
   revert W4
   exact H ()
  case g9 =>
   change wpList _ _ _ [_] _ _
   go_wp2_with fail
   have hA1:Below w1.heap.size w1 (w1.drew.alloc (.cells #[.int .i64 0,.slice none 0 0,.slice none 0 0,.slice none 0 0] 27)):=((Below.refl _ _).drew).alloc (Nat.le_refl _) _
   refine ⟨dL.of hA1,?_⟩
   refine lY ?_
   simp only [pick,List.filterMap_cons,List.filterMap_nil,List.getElem?_toArray,List.getElem?_cons_succ,List.getElem?_cons_zero]
   change wpQuiet _ _ _ _ ([]) _
   refine wpQuiet_nil ?_
   change wpList _ _ _ [_] _ _
   go_wp2_with fail
   have hA2:=hA1.alloc hA1.size (.cells #[.int .i64 0,.slice none 0 0,.slice none 0 0,.slice none 0 0] 27)
   refine ⟨dL.of hA2,?_⟩
   refine lY ?_
   simp only [pick,List.filterMap_cons,List.filterMap_nil,List.getElem?_toArray,List.getElem?_cons_succ,List.getElem?_cons_zero]
   change wpQuiet _ _ _ _ ([]) _
   refine wpQuiet_nil ?_
   change wpList _ _ _ [_] _ _
   change wpList _ _ _ [_] _ ((w1.drew.alloc (.cells #[.int .i64 0,.slice none 0 0,.slice none 0 0,.slice none 0 0] 27)).alloc (.cells #[.int .i64 0,.slice none 0 0,.slice none 0 0,.slice none 0 0] 27))
   have s0:w1.drew.heap.size=w1.heap.size:=rfl
   have Z1:=Rw w1.drew (.cells #[.int .i64 0,.slice none 0 0,.slice none 0 0,.slice none 0 0] 27)
   have Z2:=Rw (w1.drew.alloc (.cells #[.int .i64 0,.slice none 0 0,.slice none 0 0,.slice none 0 0] 27)) (.cells #[.int .i64 0,.slice none 0 0,.slice none 0 0,.slice none 0 0] 27)
   have Z1:=(ahq (w1.drew.alloc (.cells #[.int .i64 0,.slice none 0 0,.slice none 0 0,.slice none 0 0] 27)) (.cells #[.int .i64 0,.slice none 0 0,.slice none 0 0,.slice none 0 0] 27) (Nh Z1)).trans Z1
   rw [ac5,s0] at Z2
   rw [s0] at Z1
   generalize ((w1.drew.alloc (.cells #[.int .i64 0,.slice none 0 0,.slice none 0 0,.slice none 0 0] 27)).alloc (.cells #[.int .i64 0,.slice none 0 0,.slice none 0 0,.slice none 0 0] 27))=W2 at *
   refine kK (b:=(w1.heap.size+1)) (v:=.agg #[.int .i64 a.site,a1,a2,.slice ai an ac]) rfl rfl rfl rfl (by kernel_rfl) Z2 rfl oA ?_
   have hA3:=hA2.trans (below_setRow (Value.agg #[.int .i64 a.site,a1,a2,.slice ai an ac]).cells hA2.size (show w1.heap.size≤(w1.heap.size+1) by omega))
   refine ⟨rfl,dL.of hA3,?_⟩
   refine lY ?_
   simp only [pick,List.filterMap_cons,List.filterMap_nil,List.getElem?_toArray,List.getElem?_cons_succ,List.getElem?_cons_zero]
   change wpQuiet _ _ _ _ ([]) _
   refine wpQuiet_nil ?_
   change wpList _ _ _ [_] _ _
   have B9:=setRow_heap _ _ _ (Value.agg #[.int .i64 a.site,a1,a2,.slice ai an ac]).cells _ (0,0) Z2
   have B10:=(setRow_other _ (w1.heap.size+1) w1.heap.size (Value.agg #[.int .i64 a.site,a1,a2,.slice ai an ac]).cells (by omega)).trans Z1
   refine kK (b:=w1.heap.size) (v:=.agg #[.int .i64 b.site,b1,b2,.slice bi bn bc]) rfl rfl rfl rfl (by kernel_rfl) B10 rfl oB ?_
   have hA4:=hA3.trans (below_setRow (Value.agg #[.int .i64 b.site,b1,b2,.slice bi bn bc]).cells hA3.size (show w1.heap.size≤w1.heap.size by omega))
   refine ⟨rfl,dL.of hA4,?_⟩
   have C10:=setRow_heap _ _ _ (Value.agg #[.int .i64 b.site,b1,b2,.slice bi bn bc]).cells _ (0,0) B10
   have C9:=(setRow_other _ w1.heap.size (w1.heap.size+1) (Value.agg #[.int .i64 b.site,b1,b2,.slice bi bn bc]).cells (by omega)).trans B9
   clear Z1 Z2 B9 B10 hA1 hA2 hA3
   generalize (W2.setRow (w1.heap.size+1) (Value.agg #[.int .i64 a.site,a1,a2,.slice ai an ac]).cells).setRow w1.heap.size (Value.agg #[.int .i64 b.site,b1,b2,.slice bi bn bc]).cells=W4 at *
   refine zH ?_
   simp only [pick,List.filterMap_cons,List.filterMap_nil,List.getElem?_toArray,List.getElem?_cons_succ,List.getElem?_cons_zero]
   change wpQuiet _ _ _ _ ([]) _
   refine wpQuiet_nil ?_
   generalize w1.heap.size+1=p9 at C9 ⊢
   generalize w1.heap.size=p10 at C10 ⊢
   revert hA4
   revert C10
   revert C9
   revert p10
   revert p9
   revert W4
   exact H ()
 intro W4 p9 p10 C9 C10 hA4
 go_wp2_with fail
 have aiG:=hA4.size
 have hB4:Below w.heap.size w W4:=hB1.trans (hA4.mono hB1.size)
 have lA:=sA.len
 have lB:=sB.len
 have LA:=Lib.hid lA;clear lA
 have LB:=Lib.hid lB;clear lB
 have HI:=Lib.hid hi;clear hi
 have aeW:=Lib.hid hlab;clear hlab
 go_loopw [11,12] (fun u i wr=>∃ k:Nat,k≤an∧i=.int .i64 k∧jP dR W4.heap.size wr.heap.size 87 wr u (Ju a b k)∧(Ju a b k=[]→u=.slice none 0 0)∧Below W4.heap.size W4 wr) (fun _ i _=>an - (intOf i).toNat)
 case atStart=>exact ⟨0,Nat.zero_le _,rfl,jP.nil _ _ _ _ _,fun _=>rfl,Below.refl _ _⟩
 case round =>
  obtain ⟨k,hk,rfl,hown,hnil,hBw⟩:=hrel
  have c9:wr.cell? ⟨p9,3,none⟩=some (.slice ai an ac):=WU (j:=3) (uq C9 hBw) rfl
  by_cases hlt:k<an
  ·obtain ⟨ab,ao,rfl,_,hab⟩:=sA.addr hlt
   obtain ⟨bb,bo,rfl,_,hbb⟩:=sB.addr (by have:=LA.out;have:=LB.out;have:=aeW.out;omega:k<bn)
   have hka:k<a.img.length:=by have:=LA.out;omega
   have hkb:k<b.img.length:=by have:=aeW.out;omega
   have ak2:k<bn:=by have:=LA.out;have:=LB.out;have:=aeW.out;omega
   obtain ⟨xa,xn,xc,hxw,hxs⟩:=sA.cellS hka
   obtain ⟨ya,yn,yc,hyw,hys⟩:=sB.cellS hkb
   have hat:∀ {ad:Addr} {u:Value} {W:World},w.cell? ad=some u→Below w.heap.size w W→W.cell? ad=some u:=fun hc hb=>(hb.cell (World.block_lt_of_cell? w _ hc)).trans hc
   have hBw2:=hB4.trans (hBw.mono hB4.size)
   have ahs:=hat hxw hBw2
   have hvl:xn=eX a k:=hxs.len.symm
   have aiV:yn=xn:=by rw [← hxs.len,← hys.len];exact (Nb hs k).symm
   subst aiV
   have hx4:eX a k≤4096:=yV HI.out k
   have h9:=aiU HIA.out
   go_wp2_with fail
   go_loopw [11,13] (fun u i wr=>∃ j:Nat,j≤yn∧i=.int .i64 j∧jP dR W4.heap.size wr.heap.size 87 wr u (NG (mk2 a b k) (k:Int) (dN a k) (dN b k) (Ju a b k) j)∧(NG (mk2 a b k) (k:Int) (dN a k) (dN b k) (Ju a b k) j=[]→u=.slice none 0 0)∧Below W4.heap.size W4 wr) (fun _ i _=>yn - (intOf i).toNat)
   case atStart=>exact ⟨0,Nat.zero_le _,rfl,hown,hnil,hBw⟩
   case round =>
    obtain ⟨j,hj,rfl,hown,hnil,Z9⟩:=hrel
    have Jy:=hB4.trans (Z9.mono hB4.size)
    have D9:=uq C9 Z9
    have D10:=uq C10 Z9
    have c9:wr.cell? ⟨p9,3,none⟩=some (.slice (some ⟨ab,ao,none⟩) an ac):=WU (j:=3) D9 rfl
    have ahs:=hat hxw Jy
    by_cases hlt2:j<yn
    ·have c10:wr.cell? ⟨p10,3,none⟩=some (.slice (some ⟨bb,bo,none⟩) bn bc):=WU (j:=3) D10 rfl
     have aiW:=hat hyw Jy
     obtain ⟨x,hx⟩:=hxs.get hlt2
     obtain ⟨y,hy⟩:=hys.get hlt2
     obtain ⟨xb,xo,rfl,_,hxb⟩:=hxs.addr hlt2
     obtain ⟨yb,yo,rfl,_,hyb⟩:=hys.addr hlt2
     have hPA:=Tryd.Zo D9
     have hPB:=Tryd.Zo D10
     have kA3:=iW c9
     have kB3:=iW c10
     have kVa:=iW ahs
     have kVb:=iW aiW
     have hS1:=Tryd.sJ (hxs.below Jy) hx
     have hS2:=Tryd.sJ (hys.below Jy) hy
     have hE:=Tryd.acG x y
     have hx':(dN a k)[j]?=some x:=hx
     have hy':(dN b k)[j]?=some y:=hy
     have hcall:=cM wr.drew a1 a2 (.slice (some ⟨ab,ao,none⟩) an ac) b1 b2 (.slice (some ⟨bb,bo,none⟩) bn bc) k j Jy.drew (pA.below Jy.drew) (pB.below Jy.drew) hka (by omega)
     have hnext:NG (mk2 a b k) (k:Int) (dN a k) (dN b k) (Ju a b k) (j+1)=if mk2 a b k j=true∧(dN a k)[j]?≠(dN b k)[j]? then oq (k:Int) j ((dN a k).getD j V.Vw) (NG (mk2 a b k) (k:Int) (dN a k) (dN b k) (Ju a b k) j) else NG (mk2 a b k) (k:Int) (dN a k) (dN b k) (Ju a b k) j:=rfl
     have hok:=Jv (p:=mk2 a b k) (v:=(k:Int)) (A:=dN a k) (B:=dN b k) (m:=4096) (by omega) (AA (b:=b) HI.out k (by omega)) j (by omega)
     rw [List.getD_eq_getElem?_getD,hx',hy',Option.getD_some] at hnext
     have HN:=Lib.hid hnext;clear hnext
     have HX:=Lib.hid hx;clear hx
     clear hx' hy hy'
     cases hm:mk2 a b k j with
     |false =>
      rw [hm] at hcall
      have HM:=Lib.hid hm;clear hm
      go_wp2_with fail
      refine cu (fun w'=>∃ x:Later (wr),w'=x.w) [([0,1,2,3],4)] [5,6,7,8,9,10,11,12,13,14,15,16,17,18,19,20,21,22,23,24] Tryd.mixed (by kernel_rfl) (dL.drew _) ?_
      refine vT ?_
      simp only [pick,List.filterMap_cons,List.filterMap_nil,List.getElem?_toArray,List.getElem?_cons_succ,List.getElem?_cons_zero]
      change wpQuiet _ _ _ _ (_ :: _ :: _ :: _ :: []) _
      repeat (first|(go_big_quiet_want;refine bW _ (.tmp 9) rfl _ rfl _ hPA ?_;go_big_quiet_on;simp only [Act.put,List.setIfInBounds_toArray,List.set_cons_zero,List.set_cons_succ])|(go_big_quiet_want;refine bW _ (.tmp 10) rfl _ rfl _ hPB ?_;go_big_quiet_on;simp only [Act.put,List.setIfInBounds_toArray,List.set_cons_zero,List.set_cons_succ])|go_big_quiet_step (fail))
      refine wpQuiet_nil ?_
      change wpList _ _ _ [_] _ _
      go_wp2_with fail
      refine hcall.mono ?_
      rintro e w2 ⟨rfl,hB2⟩
      have hB2':Below wr.heap.size wr w2:=((Below.refl _ _).drew).trans hB2
      go_wp2_with fail
      refine ⟨dL.of hB2',?_⟩
      refine dU ?_
      simp only [pick,List.filterMap_cons,List.filterMap_nil,List.getElem?_toArray,List.getElem?_cons_succ,List.getElem?_cons_zero]
      change wpQuiet _ _ _ _ (_ :: _ :: _ :: _ :: _ :: _ :: _ :: _ :: _ :: _ :: _ :: _ :: _ :: _ :: _ :: _ :: _ :: _ :: _ :: _ :: []) _
      repeat (go_big_quiet_step (fail))
      refine wpQuiet_nil ?_
      go_wp2
      go_roundw
      case rel=>exact ⟨j+1,by omega,by go_num,by
       rw [HN.out,if_neg (fun h=>by rw [HM.out] at h;cases h.1)]
       exact (hown.below hB2').up hB2'.size,fun e=>hnil (by rw [HN.out,if_neg (fun h=>by rw [HM.out] at h;cases h.1)] at e;exact e),Z9.trans (hB2'.mono Z9.size)⟩
      case measure=>simp [intOf];omega
     |true =>
      rw [hm] at hcall
      have HM:=Lib.hid hm;clear hm
      cases hxy:x==y with
      |true =>
       rw [hxy] at hE
       have HE:=Lib.hid hxy
       clear hxy
       go_wp2_with fail
       refine cu (fun w'=>∃ x:Later (wr),w'=x.w) [([0,1,2,3],4)] [5,6,7,8,9,10,11,12,13,14,15,16,17,18,19,20,21,22,23,24] Tryd.mixed (by kernel_rfl) (dL.drew _) ?_
       refine vT ?_
       simp only [pick,List.filterMap_cons,List.filterMap_nil,List.getElem?_toArray,List.getElem?_cons_succ,List.getElem?_cons_zero]
       change wpQuiet _ _ _ _ (_ :: _ :: _ :: _ :: []) _
       repeat (first|(go_big_quiet_want;refine bW _ (.tmp 9) rfl _ rfl _ hPA ?_;go_big_quiet_on;simp only [Act.put,List.setIfInBounds_toArray,List.set_cons_zero,List.set_cons_succ])|(go_big_quiet_want;refine bW _ (.tmp 10) rfl _ rfl _ hPB ?_;go_big_quiet_on;simp only [Act.put,List.setIfInBounds_toArray,List.set_cons_zero,List.set_cons_succ])|go_big_quiet_step (fail))
       refine wpQuiet_nil ?_
       change wpList _ _ _ [_] _ _
       go_wp2_with fail
       refine hcall.mono ?_
       rintro e w2 ⟨rfl,hB2⟩
       have hB2':Below wr.heap.size wr w2:=((Below.refl _ _).drew).trans hB2
       go_wp2_with fail
       refine ⟨dL.of hB2',?_⟩
       refine dU ?_
       simp only [pick,List.filterMap_cons,List.filterMap_nil,List.getElem?_toArray,List.getElem?_cons_succ,List.getElem?_cons_zero]
       change wpQuiet _ _ _ _ (_ :: _ :: _ :: _ :: _ :: _ :: _ :: _ :: _ :: _ :: _ :: _ :: _ :: _ :: _ :: _ :: _ :: _ :: _ :: _ :: []) _
       repeat (first|(go_big_quiet_want;refine bW _ (.tmp 76) rfl _ rfl _ hS1 ?_;go_big_quiet_on;simp only [Act.put,List.setIfInBounds_toArray,List.set_cons_zero,List.set_cons_succ])|(go_big_quiet_want;refine bW _ (.tmp 84) rfl _ rfl _ hS2 ?_;go_big_quiet_on;simp only [Act.put,List.setIfInBounds_toArray,List.set_cons_zero,List.set_cons_succ])|go_big_quiet_step (fail))
       refine wpQuiet_nil ?_
       go_wp2
       go_roundw
       case rel=>exact ⟨j+1,by omega,by go_num,by
        rw [HN.out,if_neg (fun h=>h.2 (by rw [eq_of_beq HE.out]))]
        exact (hown.below hB2').up hB2'.size,fun e=>hnil (by rw [HN.out,if_neg (fun h=>h.2 (by rw [eq_of_beq HE.out]))] at e;exact e),Z9.trans (hB2'.mono Z9.size)⟩
       case measure=>simp [intOf];omega
      |false =>
       rw [hxy] at hE
       have HE:=Lib.hid hxy
       clear hxy
       have hst:=HN.out
       rw [if_pos ⟨HM.out,fun e=>by rw [Option.some.inj e,beq_self_eq_true] at HE;exact absurd HE.out (by decide)⟩] at hst
       have HS:=Lib.hid hst;clear hst
       clear HN
       generalize hO:NG (mk2 a b k) (k:Int) (dN a k) (dN b k) (Ju a b k) j=out at hown hok
       have HO:=Lib.hid hO;clear hO
       have h8:=dY x
       go_wp2_with fail
       refine cu (fun w'=>∃ x:Later (wr),w'=x.w) [([0,1,2,3],4)] [5,6,7,8,9,10,11,12,13,14,15,16,17,18,19,20,21,22,23,24] Tryd.mixed (by kernel_rfl) (dL.drew _) ?_
       refine vT ?_
       simp only [pick,List.filterMap_cons,List.filterMap_nil,List.getElem?_toArray,List.getElem?_cons_succ,List.getElem?_cons_zero]
       change wpQuiet _ _ _ _ (_ :: _ :: _ :: _ :: []) _
       repeat (first|(go_big_quiet_want;refine bW _ (.tmp 9) rfl _ rfl _ hPA ?_;go_big_quiet_on;simp only [Act.put,List.setIfInBounds_toArray,List.set_cons_zero,List.set_cons_succ])|(go_big_quiet_want;refine bW _ (.tmp 10) rfl _ rfl _ hPB ?_;go_big_quiet_on;simp only [Act.put,List.setIfInBounds_toArray,List.set_cons_zero,List.set_cons_succ])|go_big_quiet_step (fail))
       refine wpQuiet_nil ?_
       change wpList _ _ _ [_] _ _
       go_wp2_with fail
       refine hcall.mono ?_
       rintro e w2 ⟨rfl,hB2⟩
       have hB2':Below wr.heap.size wr w2:=((Below.refl _ _).drew).trans hB2
       go_wp2_with fail
       refine ⟨dL.of hB2',?_⟩
       refine dU ?_
       simp only [pick,List.filterMap_cons,List.filterMap_nil,List.getElem?_toArray,List.getElem?_cons_succ,List.getElem?_cons_zero]
       change wpQuiet _ _ _ _ (_ :: _ :: _ :: _ :: _ :: _ :: _ :: _ :: _ :: _ :: _ :: _ :: _ :: _ :: _ :: _ :: _ :: _ :: _ :: _ :: []) _
       repeat (first|(go_big_quiet_want;refine bW _ (.tmp 76) rfl _ rfl _ hS1 ?_;go_big_quiet_on;simp only [Act.put,List.setIfInBounds_toArray,List.set_cons_zero,List.set_cons_succ])|(go_big_quiet_want;refine bW _ (.tmp 84) rfl _ rfl _ hS2 ?_;go_big_quiet_on;simp only [Act.put,List.setIfInBounds_toArray,List.set_cons_zero,List.set_cons_succ])|go_big_quiet_step (fail))
       refine wpQuiet_nil ?_
       have zX:=Z9.trans (hB2'.mono Z9.size)
       have hown2:=(hown.below hB2').up hB2'.size
       have FM:=Jy.trans (hB2'.mono Jy.size)
       have E9:=uq D9 hB2'
       have c9:w2.cell? ⟨p9,3,none⟩=some (.slice (some ⟨ab,ao,none⟩) an ac):=WU (j:=3) E9 rfl
       have aiZ:=hat hxw FM
       have hL9:=Tryd.sJ (hxs.below FM) HX.out w2.drew (dL.of ((Below.refl _ _).drew))
       have hnews:∀ (i:Nat) (u:Value),[Value.int .i64 (k:Int),.int .i64 (j:Int),.slice (some ⟨w2.drew.heap.size,0,none⟩) 1 1][i]?=some u→((w2.drew.alloc (.cells (aV x).toArray 78)).alloc (.cells #[.int .i64 (k:Int),.int .i64 (j:Int),.slice (some ⟨w2.drew.heap.size,0,none⟩) 1 1] 87)).cell? ((⟨w2.heap.size+1,0,none⟩:Addr).add i)=some u:=by
        have h:=AX (w2.drew.alloc (.cells (aV x).toArray 78)) 87 #[.int .i64 (k:Int),.int .i64 (j:Int),.slice (some ⟨w2.drew.heap.size,0,none⟩) 1 1]
        rw [World.size_alloc] at h
        exact h
       have tY:=hown2.lt
       have hz:=zX.size
       have hBa:Below w2.heap.size w2 ((w2.drew.alloc (.cells (aV x).toArray 78)).alloc (.cells #[.int .i64 (k:Int),.int .i64 (j:Int),.slice (some ⟨w2.drew.heap.size,0,none⟩) 1 1] 87)):=((Below.refl _ _).drew.alloc (Nat.le_refl _) _).alloc (by rw [World.size_alloc];exact Nat.le_succ _) _
       cases hn:out.length with
       |zero =>
        have he:out=[]:=List.eq_nil_of_length_eq_zero hn
        subst he
        obtain ⟨a9,n9,c9',rfl,hs9⟩:=hown2.sl
        obtain rfl:n9=0:=hs9.len.symm
        go_wp2_with fail
        refine cu (fun w'=>∃ x:Later (w2),w'=x.w) [] [0,1,2,3,4,5,6,7,8,9,10,11,12,13,14,15,16,17,18,19,20,21,22,23,24,25,26,27,28,29] Tryd.mixed (by kernel_rfl) (dL.drew _) ?_
        refine dU ?_
        simp only [pick,List.filterMap_cons,List.filterMap_nil,List.getElem?_toArray,List.getElem?_cons_succ,List.getElem?_cons_zero]
        change wpQuiet _ _ _ _ (_ :: _ :: _ :: _ :: _ :: _ :: _ :: _ :: _ :: _ :: _ :: _ :: _ :: _ :: _ :: _ :: _ :: _ :: _ :: _ :: _ :: _ :: _ :: _ :: _ :: _ :: _ :: _ :: _ :: _ :: []) _
        repeat (go_big_quiet_step (fail))
        refine wpQuiet_nil ?_
        go_wp2_with (first|refine lC rfl rfl rfl hL9 ?_|(at_builtin;refine Hid.out ?_))
        refine Lib.hid ?_
        simp only [wI x]
        refine mQ (r:=dR) (w:=((w2.drew.alloc (.cells (aV x).toArray 78)).alloc (.cells #[.int .i64 (k:Int),.int .i64 (j:Int),.slice (some ⟨w2.drew.heap.size,0,none⟩) 1 1] 87))) Tryd.VF rfl _ _ rfl rfl (hown2.below hBa) rfl hnews (sG (BX (w:=w2.drew) w2.heap.size (Nat.le_refl _) (k:Int) (j:Int) x)) ?c5 ?c1 ?c2 ?c3 ?c4 ?_
        case c5=>exact fun k hk=>(tY k hk).2
        case c1=>unfold maxLen;omega
        case c2=>omega
        case c3=>omega
        case c4=>simp;omega
        intro v' w3 hown1 hgrow _
        go_wp2
        go_roundw
        case rel=>exact ⟨j+1,by omega,by go_num,by
         rw [HS.out,HO.out,oq,if_neg (fun h=>absurd h.1 (Nat.lt_irrefl _))]
         exact hown1,fun e=>absurd e (by rw [HS.out];exact qK),zX.trans ((hBa.mono zX.size).trans (grown_below hgrow (Nat.le_trans zX.size hBa.size) (fun k hk=>(tY k hk).1)))⟩
        case measure=>simp [intOf];omega
       |succ n =>
        have hx9:out[n]?=some (oh out):=by
         unfold oh
         rw [hn,Nat.add_sub_cancel,List.getD_eq_getElem?_getD,List.getElem?_eq_getElem (by omega)];rfl
        obtain ⟨g,cap,cur,cc,NR,rfl,hBg,hg,hgc,hcs,hcc,hrd,adL,hput⟩:=hown2.put hx9
        obtain ⟨hv0,aht,hv1,hv2,hv3⟩:=hok.1 _ (yx (by omega))
        have ak4:=hok.2
        obtain ⟨vd,rfl,hvd⟩:=hrd
        rcases hLR:oh out with ⟨⟨Lv,Ls⟩,Ld⟩
        have Z8:=Lib.hid hLR
        rw [hLR] at hv0 aht hv1 hv2 hv3 hvd hcc hput
        clear hLR
        simp only at hv0 aht hv1 hv2 hv3
        obtain ⟨ad,nd,cd,rfl,hsd⟩:=jk.sl Flat.sec hvd
        have hnd:=hsd.len
        have cev:w2.cell? ⟨g,n * 3,none⟩=some (.int .i64 Lv):=WU hgc ((hcc 0 (by decide)).trans rfl)
        have ce0:w2.cell? ⟨g,n * 3+1,none⟩=some (.int .i64 Ls):=WU hgc ((hcc 1 (by decide)).trans rfl)
        have ce1:w2.cell? ⟨g,n * 3+2,none⟩=some (.slice ad nd cd):=WU hgc ((hcc 2 (by decide)).trans rfl)
        rw [hn] at hown2
        rw [hn] at hown
        rw [hn]
        have kv:=iW cev
        have k0:=iW ce0
        have k1:=iW ce1
        by_cases ab8:Lv=(k:Int)
        ·subst ab8
         by_cases hend:Ls+(Ld.length:Int)=(j:Int)
         ·obtain ⟨_,e,hblk,La,_⟩:=hvd
          cases e
          obtain ⟨gi,rfl,hgi⟩:∃ gi,ad=some ⟨gi,0,none⟩∧NR gi:=by
           obtain ⟨xs,hrow,_⟩:=La
           rcases hrow.2 with ⟨_,h0⟩|⟨gi,aiM,cur',hvu,_⟩
           ·exact absurd (List.eq_nil_of_length_eq_zero h0) hv3
           ·cases hvu;exact ⟨gi,rfl,hblk gi rfl⟩
          obtain ⟨aaK,aiN,OM⟩:=adL gi hgi
          have OO:Below w2.heap.size w2 w2.drew:=(Below.refl _ _).drew
          have ce2:=(OO.cell (p:=⟨g,n * 3+2,none⟩) hg).trans ce1
          have kb:=ou (g:=gi) ce2 (Ne.symm OM)
          have hl9:=Nh C9
          have kb9:=ou (g:=gi) (w:=w2.drew) ((OO.cell (p:=⟨p9,3,none⟩) (Nh E9)).trans c9) (Nat.ne_of_lt (Nat.lt_of_lt_of_le hl9 aaK))
          have kbv:=ou (g:=gi) (w:=w2.drew) ((OO.cell (p:=⟨ab,ao+k,none⟩) (by have:=FM.size;show ab<_;omega)).trans aiZ) (by show ab≠gi;have:=hB4.size;omega)
          have hLb:=Tryd.acS (g:=gi) (hxs.below (FM.trans (OO.mono FM.size))) HX.out (show xb<w2.heap.size by have:=FM.size;omega) (show xb≠gi by have:=hB4.size;omega)
          go_wp2_with fail
          refine cu (fun w'=>∃ x:Later (w2),w'=x.w) [] [0,1,2,3,4,5,6,7,8,9,10,11,12,13,14,15,16,17,18,19,20,21,22,23,24,25,26,27,28,29] Tryd.mixed (by kernel_rfl) (dL.drew _) ?_
          refine dU ?_
          simp only [pick,List.filterMap_cons,List.filterMap_nil,List.getElem?_toArray,List.getElem?_cons_succ,List.getElem?_cons_zero]
          change wpQuiet _ _ _ _ (_ :: _ :: _ :: _ :: _ :: _ :: _ :: _ :: _ :: _ :: _ :: _ :: _ :: _ :: _ :: _ :: _ :: _ :: _ :: _ :: _ :: _ :: _ :: _ :: _ :: _ :: _ :: _ :: _ :: _ :: []) _
          repeat (go_big_quiet_step (fail))
          refine wpQuiet_nil ?_
          go_wp2_with fail
          refine sH (fun w'=>∃ x:jU (w2.drew) (gi),w'=x.w) [([0,1,2,3,4,5,6,7,8,9,10,11,12,13,14,15,16],17),([],18)] [19,20] 21 Tryd.mixed (by kernel_rfl) (jU.drew _ _) ?_
          refine qL ?_
          simp only [pick,List.filterMap_cons,List.filterMap_nil,List.getElem?_toArray,List.getElem?_cons_succ,List.getElem?_cons_zero]
          change wpQuiet _ _ _ _ (_ :: _ :: _ :: _ :: _ :: _ :: _ :: _ :: _ :: _ :: _ :: _ :: _ :: _ :: _ :: _ :: _ :: []) _
          repeat (first|(go_big_quiet_want;refine bW _ (.tmp 135) rfl _ rfl _ hLb ?_;go_big_quiet_on;simp only [Act.put,List.setIfInBounds_toArray,List.set_cons_zero,List.set_cons_succ])|go_big_quiet_step (fail))
          refine wpQuiet_nil ?_
          change wpList _ _ _ [_] _ _
          go_wp2_with fail
          simp only [wI x]
          obtain ⟨w10,BZ⟩:∃ w10,w2.drew.drew.alloc (.cells (aV x).toArray 78)=w10:=⟨_,rfl⟩
          rw [show (w2.alloc (.cells (aV x).toArray 78)).drew.drew=w10 from BZ]
          have Hq:Below w2.heap.size w2 w10:=by rw [← BZ];exact (Below.refl _ _).drew.drew.alloc (Nat.le_refl _) _
          have hs10:w10.heap.size=w2.heap.size+1:=by rw [← BZ];exact World.size_alloc ..
          have WX:w2.drew.grownBy w10 (some gi):=Ei (by rw [← BZ];exact below_grown (((Below.refl _ w2.drew).drew).alloc (Nat.le_refl _) _))
          refine ⟨jU.of WX,?_⟩
          refine qL ?_
          simp only [pick,List.filterMap_cons,List.filterMap_nil,List.getElem?_toArray,List.getElem?_cons_succ,List.getElem?_cons_zero]
          change wpQuiet _ _ _ _ ([]) _
          repeat (go_big_quiet_step (fail))
          refine wpQuiet_nil ?_
          change wpList _ _ _ [_] _ _
          refine AL (r:=pR) (B:=0) (ok:=fun _=>False) (w:=w10) Tryd.acF rfl _ _ rfl rfl (La.below Hq) rfl (by rw [← BZ];exact WV w2.drew.drew x) ?c1 ?c2 ?c3 ?_
          case c1=>unfold maxLen;omega
          case c2=>omega
          case c3=>exact Nat.zero_le _
          intro v' Lc Cb jS rF
          obtain ⟨a11,n11,c11,rfl,agj⟩:=Cb.sl
          go_wp2_with fail
          refine ⟨jU.of (zf WX jS),?_⟩
          have A11:Lc.heap[g]?=some (.cells cur 87 (0,0)):=(jS.block g (by omega) (fun e=>by cases e;exact OM rfl)).trans ((Hq.block g hg).trans hgc)
          have aiP:Lc.cell? ⟨g,n * 3+2,none⟩=some (.slice (some ⟨gi,0,none⟩) nd cd):=WU A11 ((hcc 2 (by decide)).trans rfl)
          have aiQ:Lc.frozen? ⟨g,n * 3+2,none⟩=false:=by simp only [World.frozen?,A11,decide_eq_false (Nat.not_lt_zero _),Bool.and_false]
          refine zh ?_
          simp only [pick,List.filterMap_cons,List.filterMap_nil,List.getElem?_toArray,List.getElem?_cons_succ,List.getElem?_cons_zero]
          change wpQuiet _ _ _ _ (_ :: _ :: []) _
          repeat (go_big_quiet_step (fail))
          refine wpQuiet_nil ?_
          change wpList _ _ _ [_] _ _
          go_wp2_with fail
          have hQ:=agh Lc g (n * 3+2) (.slice a11 n11 c11)
          have hgb:∀ b:Nat,(Value.slice a11 n11 c11).ownBlock=some b→b≠g:=fun b he=>by
           rw [he] at rF
           rcases rF with h|h
           ·have e2:b=gi:=Option.some.inj h
            rw [e2];exact OM
           ·have e2:b=w10.heap.size:=Option.some.inj h
            omega
          have adO:dR.rd (fun b=>(NR b∨w2.heap.size≤b)∧b≠g) (Lc.setCell ⟨g,n * 3+2,none⟩ (.slice a11 n11 c11)) [.int .i64 (k:Int),.int .i64 Ls,.slice a11 n11 c11] (((k:Int),Ls),Ld++[x]):=by
           refine ⟨_,rfl,_,rfl,fun b hb=>⟨?_,hgb b hb⟩,Cb.acQ hQ (fun e=>hgb g e rfl),fun e=>absurd e (by simp)⟩
           rw [hb] at rF
           rcases rF with h|h
           ·have e2:b=gi:=Option.some.inj h
            rw [e2];exact .inl hgi
           ·have e2:b=w10.heap.size:=Option.some.inj h
            exact .inr (by rw [e2,hs10];exact Nat.le_succ _)
          have WY:w2.heap.size≤(Lc.setCell ⟨g,n * 3+2,none⟩ (.slice a11 n11 c11)).heap.size:=by rw [WW];have:=jS.size;omega
          have hP:=hput (Lc.setCell ⟨g,n * 3+2,none⟩ (.slice a11 n11 c11)) 2 (.slice a11 n11 c11) (((k:Int),Ls),Ld++[x]) (by decide) (acR Lc A11) (fun b hb hne ho=>(Below.heap_setCell _ _ _ _ hne).trans ((jS.block b (by omega) (fun e=>by cases e;exact ho hgi)).trans (Hq.block b hb))) WY adO
          rw [hn] at hP
          go_roundw
          case rel=>exact ⟨j+1,by omega,by go_num,by
           rw [HS.out,HO.out,oq,if_pos ⟨by omega,by rw [Z8.out],by rw [Z8.out];exact hend⟩,Z8.out,hn]
           exact hP,fun e=>absurd e (by rw [HS.out];exact qK),((zX.trans (Hq.mono zX.size)).grown jS (by omega) (fun j hj=>by cases hj;exact aaK)).grown hQ (by have:=jS.size;omega) (fun j hj=>by cases hj;exact hBg)⟩
          case measure=>simp [intOf];omega
         ·go_wp2_with fail
          refine cu (fun w'=>∃ x:Later (w2),w'=x.w) [] [0,1,2,3,4,5,6,7,8,9,10,11,12,13,14,15,16,17,18,19,20,21,22,23,24,25,26,27,28,29] Tryd.mixed (by kernel_rfl) (dL.drew _) ?_
          refine dU ?_
          simp only [pick,List.filterMap_cons,List.filterMap_nil,List.getElem?_toArray,List.getElem?_cons_succ,List.getElem?_cons_zero]
          change wpQuiet _ _ _ _ (_ :: _ :: _ :: _ :: _ :: _ :: _ :: _ :: _ :: _ :: _ :: _ :: _ :: _ :: _ :: _ :: _ :: _ :: _ :: _ :: _ :: _ :: _ :: _ :: _ :: _ :: _ :: _ :: _ :: _ :: []) _
          repeat (go_big_quiet_step (fail))
          refine wpQuiet_nil ?_
          go_wp2_with (first|refine lC rfl rfl rfl hL9 ?_|(at_builtin;refine Hid.out ?_))
          refine Lib.hid ?_
          simp only [wI x]
          refine mQ (r:=dR) (w:=((w2.drew.alloc (.cells (aV x).toArray 78)).alloc (.cells #[.int .i64 (k:Int),.int .i64 (j:Int),.slice (some ⟨w2.drew.heap.size,0,none⟩) 1 1] 87))) Tryd.VF rfl _ _ rfl rfl (hown2.below hBa) rfl hnews (sG (BX (w:=w2.drew) w2.heap.size (Nat.le_refl _) (k:Int) (j:Int) x)) ?c5 ?c1 ?c2 ?c3 ?c4 ?_
          case c5=>exact fun k hk=>(tY k hk).2
          case c1=>unfold maxLen;omega
          case c2=>omega
          case c3=>omega
          case c4=>simp;omega
          intro v' w3 hown1 hgrow _
          go_wp2
          go_roundw
          case rel=>exact ⟨j+1,by omega,by go_num,by
           rw [HS.out,HO.out,oq,if_neg (fun h=>hend (by have:=h.2.2;rw [Z8.out] at this;exact this))]
           exact hown1,fun e=>absurd e (by rw [HS.out];exact qK),zX.trans ((hBa.mono zX.size).trans (grown_below hgrow (Nat.le_trans zX.size hBa.size) (fun k hk=>(tY k hk).1)))⟩
          case measure=>simp [intOf];omega
        ·have ak7:decide (Lv=(k:Int))=false:=decide_eq_false ab8
         have ak8:(Lv==(k:Int))=false:=beq_eq_false_iff_ne.2 ab8
         go_wp2_with fail
         refine cu (fun w'=>∃ x:Later (w2),w'=x.w) [] [0,1,2,3,4,5,6,7,8,9,10,11,12,13,14,15,16,17,18,19,20,21,22,23,24,25,26,27,28,29] Tryd.mixed (by kernel_rfl) (dL.drew _) ?_
         refine dU ?_
         simp only [pick,List.filterMap_cons,List.filterMap_nil,List.getElem?_toArray,List.getElem?_cons_succ,List.getElem?_cons_zero]
         change wpQuiet _ _ _ _ (_ :: _ :: _ :: _ :: _ :: _ :: _ :: _ :: _ :: _ :: _ :: _ :: _ :: _ :: _ :: _ :: _ :: _ :: _ :: _ :: _ :: _ :: _ :: _ :: _ :: _ :: _ :: _ :: _ :: _ :: []) _
         repeat (go_big_quiet_step (fail))
         refine wpQuiet_nil ?_
         go_wp2_with (first|refine lC rfl rfl rfl hL9 ?_|(at_builtin;refine Hid.out ?_))
         refine Lib.hid ?_
         simp only [wI x]
         refine mQ (r:=dR) (w:=((w2.drew.alloc (.cells (aV x).toArray 78)).alloc (.cells #[.int .i64 (k:Int),.int .i64 (j:Int),.slice (some ⟨w2.drew.heap.size,0,none⟩) 1 1] 87))) Tryd.VF rfl _ _ rfl rfl (hown2.below hBa) rfl hnews (sG (BX (w:=w2.drew) w2.heap.size (Nat.le_refl _) (k:Int) (j:Int) x)) ?c5 ?c1 ?c2 ?c3 ?c4 ?_
         case c5=>exact fun k hk=>(tY k hk).2
         case c1=>unfold maxLen;omega
         case c2=>omega
         case c3=>omega
         case c4=>simp;omega
         intro v' w3 hown1 hgrow _
         go_wp2
         go_roundw
         case rel=>exact ⟨j+1,by omega,by go_num,by
          rw [HS.out,HO.out,oq,if_neg (fun h=>ab8 (by have:=h.2.1;rw [Z8.out] at this;exact this))]
          exact hown1,fun e=>absurd e (by rw [HS.out];exact qK),zX.trans ((hBa.mono zX.size).trans (grown_below hgrow (Nat.le_trans zX.size hBa.size) (fun k hk=>(tY k hk).1)))⟩
         case measure=>simp [intOf];omega
    ·obtain rfl:j=yn:=by omega
     go_wp2
     go_roundw
     case rel=>exact ⟨k+1,by omega,by go_num,by rw [show Ju a b (k+1)=NG (mk2 a b k) (k:Int) (dN a k) (dN b k) (Ju a b k) (eX a k) from rfl,← hvl];exact hown,fun e=>hnil (by rw [show Ju a b (k+1)=NG (mk2 a b k) (k:Int) (dN a k) (dN b k) (Ju a b k) (eX a k) from rfl,← hvl] at e;exact e),Z9⟩
     case measure=>simp [intOf];omega
  ·obtain rfl:k=an:=by omega
   have hla:=LA.out
   go_wp2
   go_ret2
   exact ⟨_,_,rfl,hB4.size,by rw [hla];exact hown,by rw [hla];exact hnil,hB4.trans (hBw.mono hB4.size)⟩
end Go.Proofs.YtaaokejjmdbfaaaDoor

namespace Go.Proofs.YtaaokejjmdbfaaaDoor
open Go.RowKit V
theorem Zp {ok:Nat→Prop} {w:World} {a b:Int} {v:Value} (h:ay ok w (.agg [.int .i64 a,.int .i64 b]) v):v=.agg #[.int .i64 a,.int .i64 b]:=by
 cases h with
 |agg _ arr h1 h2 h3 =>
  obtain ⟨l,rfl⟩:∃ l:List Value,arr=l.toArray:=⟨arr.toList,by simp⟩
  match l,h1 with
  |[u0,u1],_=>rw [(h3 0 _ u0 rfl rfl).bV,(h3 1 _ u1 rfl rfl).bV]
theorem Nj {ok ok':Nat→Prop} {w:World} {l:List Run} {a:Option Addr} {n c:Nat} (hk:∀ b,ok b→b<w.heap.size→ok' b) (hz:l=[]→c=0) (hne:∀ x∈l,x.2≠[]) (h:Sl dR ok w a n c l):ay ok' w (.list 3 ((l.map toW).map y9)) (.slice a n c):=by
 rw [List.map_map]
 refine BU (r:=dR) (enc:=y9 ∘ toW) hk (by decide) (fun x=>rfl) (fun x hx cs hl hrd j p u hp hu=>?_) hz h
 obtain ⟨v,rfl,hv⟩:=hrd
 match j with
 |0=>cases hp;cases hu;exact ⟨rfl,.int _ _⟩
 |1=>cases hp;cases hu;exact ⟨rfl,.int _ _⟩
 |2 =>
  cases hp;cases hu
  obtain ⟨a2,n2,c2,rfl,hs⟩:=jk.sl Flat.sec hv
  refine ⟨rfl,BU (r:=pR) (enc:=lJ) hk (by decide) (fun x=>ji x) (fun s _ cs hl hrd j p u hp hu=>?_) (fun e=>absurd e (hne x hx)) hs⟩
  have hrd:cs=aV s:=hrd
  subst hrd
  simp only [aV,List.getElem?_map,Option.map_eq_some_iff] at hu
  have hp:(nM s)[j]?=some p:=hp
  simp only [nM,List.getElem?_map,Option.map_eq_some_iff] at hp
  obtain ⟨b,h1,rfl⟩:=hu
  obtain ⟨b',h2,rfl⟩:=hp
  rw [h1] at h2
  cases h2
  exact ⟨rfl,.int _ _⟩
 |j+3=>simp [y9,toW,PV.cells] at hp
theorem aeX:∀ args rs,JI args=some rs→callable Tryd.prog 64=true∧oI Tryd.prog 64 args rs:=fun args rs h=>by
 obtain ⟨v,A,B,s,m,rfl,h1,h2,h3,h4,rfl⟩:=aai h
 refine ⟨by kernel_rfl,fun T0 w vs g1 g2 g3 g4 _=>?_⟩
 match vs,g3 with
 |[v0,v1,v2,v3],_ =>
  have e0:=(g4 0 _ v0 rfl rfl).bV
  obtain ⟨a,n,c,rfl,hs⟩:=Ho (g4 1 _ v1 rfl rfl)
  obtain ⟨a',n',c',rfl,hs'⟩:=Ho (g4 2 _ v2 rfl rfl)
  have e3:=Zp (g4 3 _ v3 rfl rfl)
  subst e0 e3
  have hv:rY v:=by
   unfold RQ at h1
   simp only [Bool.and_eq_true,decide_eq_true_eq] at h1
   exact h1
  refine (aaJ hs hs' hv h2 h3 h4).mono ?_
  rintro e w' ⟨u,rfl,hown,hnil,hB⟩
  obtain ⟨ha,hn,hc,rfl,hsl⟩:=hown.sl
  refine ⟨_,fun b=>if w.heap.size≤b∧b<w'.heap.size then .ro else T0 b,rfl,hB,fun b hb=>if_neg (by omega),fun b hb=>?_,#[_],rfl,rfl,fun i r u hr' hu=>?_⟩
  ·show (if _ then _ else T0 b)=_
   rw [if_neg (by omega)];exact g2 b (by have:=hB.size;omega)
  ·match i with
   |0 =>
    cases hr';cases hu
    exact Nj (fun b hb hlt=>if_pos ⟨by omega,hlt⟩) (fun e=>by have:=hnil e;cases this;rfl) (fun x hx=>((yA v A B s m).1 x hx).2.2.2) hsl
   |i+1=>simp at hr'
end Go.Proofs.YtaaokejjmdbfaaaDoor
