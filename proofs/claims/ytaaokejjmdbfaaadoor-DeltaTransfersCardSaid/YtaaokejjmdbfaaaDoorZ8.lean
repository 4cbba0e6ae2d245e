/-
  Part 8 of the texts that the statement stands on.
-/
import Derived.Test.YtaaokejjmdbfaaaDoorZ7
import Derived.Lib.SliceRun
set_option linter.all false
namespace Go.Proofs.YtaaokejjmdbfaaaDoor
open Go.RowKit V
def Nk (d:List Int) (k j:Nat):Value:=if j % 8=0∧j / 8<k then .int .u8 (d.getD (j / 8) 0) else .int .u8 0
def pK (d:List Int) (k:Nat):Array Value:=(Array.range 32).map (Nk d k)
theorem Tryd.Zq:yu Tryd.prog 76 78 8 8 (.agg #[.int .u8 0,.int .u8 0,.int .u8 0,.int .u8 0,.int .u8 0,.int .u8 0,.int .u8 0,.int .u8 0]):=⟨Tryd.underlying76,by kernel_rfl,rfl,by decide⟩
theorem mkP (d:List Int) (w:World):(Instr.makeSlice 76 (.int .i64 4) (.int .i64 4)).run Tryd.prog w=.ok (.slice (some ⟨w.heap.size,0,none⟩) 4 4) (w.alloc (.cells (pK d 0) 78)):=by
 obtain ⟨i,hi,hz1,hz0,hz2⟩:=info_parts Tryd.Zq.i
 have:=run_make (P:=Tryd.prog) w 76 78 i _ Tryd.Zq.u hi hz1 .i64 .i64 4 4 (by decide) (by decide) (by rw [hz2];decide) (by decide)
 rw [hz0] at this
 refine this.trans ?_
 have e:madeCells (Value.agg #[.int .u8 0,.int .u8 0,.int .u8 0,.int .u8 0,.int .u8 0,.int .u8 0,.int .u8 0,.int .u8 0]).cells (Int.toNat 4 * 8)=pK d 0:=by kernel_rfl
 rw [← e]
 rfl
theorem pO (w:World) (o:Obj):(w.alloc o).heap[w.heap.size]?=some o:=Array.getElem?_push_size
theorem dJ (w:World) (o:Obj):(w.alloc o).heap.size=w.heap.size+1:=Array.size_push _
theorem dK (w:World) (o:Obj) {k:Nat} (h:k<w.heap.size):(w.alloc o).heap[k]?=w.heap[k]?:=Below.heap_alloc w o k h
theorem heap_set (w:World) {b j:Nat} {v:Value} {arr:Array Value} {E:TypeId} (h:w.heap[b]?=some (.cells arr E)):(w.setCell ⟨b,j,none⟩ v).heap[b]?=some (.cells (arr.setIfInBounds j v) E):=by
 simp only [World.setCell,Array.getElem?_modify,if_true,h,Option.map_some];rfl
theorem size_set (w:World) (a:Addr) (v:Value):(w.setCell a v).heap.size=w.heap.size:=by simp only [World.setCell,Array.size_modify]
structure PtW (d:List Int) (w:World) (k:Nat) (wr:World):Prop where
 size:wr.heap.size=w.heap.size+5
 h1:wr.heap[w.heap.size+1]?=some (.cells #[.int .i64 0,.slice none 0 0,.slice none 0 0,.slice none 0 0] 27)
 h2:wr.heap[w.heap.size+1+1]?=some (.cells (pK d k) 78)
 h3:wr.heap[w.heap.size+1+1+1]?=some (.cells #[.slice (some ⟨w.heap.size+1+1,0,none⟩) 4 4] 76)
 h4:wr.heap[w.heap.size+1+1+1+1]?=some (.cells #[.int .i64 0,.slice none 0 0,.slice none 0 0,.slice (some ⟨w.heap.size+1+1+1,0,none⟩) 1 1] 27)
 below:Below w.heap.size w wr
theorem FN (d:List Int) (w:World) (x:Array Value):PtW d w 0 (((((w.alloc (.cells x 93)).alloc (.cells #[.int .i64 0,.slice none 0 0,.slice none 0 0,.slice none 0 0] 27)).alloc (.cells (pK d 0) 78)).alloc (.cells #[.slice (some ⟨w.heap.size+1+1,0,none⟩) 4 4] 76)).alloc (.cells #[.int .i64 0,.slice none 0 0,.slice none 0 0,.slice (some ⟨w.heap.size+1+1+1,0,none⟩) 1 1] 27)):=by
 refine ⟨by simp only [dJ],?_,?_,?_,?_,?_⟩
 ·rw [dK _ _ (by simp only [dJ];omega),dK _ _ (by simp only [dJ];omega),dK _ _ (by simp only [dJ];omega),← dJ w (.cells x 93),pO]
 ·rw [dK _ _ (by simp only [dJ];omega),dK _ _ (by simp only [dJ];omega)]
  have:=pO ((w.alloc (.cells x 93)).alloc (.cells #[.int .i64 0,.slice none 0 0,.slice none 0 0,.slice none 0 0] 27)) (.cells (pK d 0) 78)
  simp only [dJ] at this
  exact this
 ·rw [dK _ _ (by simp only [dJ];omega)]
  have:=pO (((w.alloc (.cells x 93)).alloc (.cells #[.int .i64 0,.slice none 0 0,.slice none 0 0,.slice none 0 0] 27)).alloc (.cells (pK d 0) 78)) (.cells #[.slice (some ⟨w.heap.size+1+1,0,none⟩) 4 4] 76)
  simp only [dJ] at this
  exact this
 ·have:=pO ((((w.alloc (.cells x 93)).alloc (.cells #[.int .i64 0,.slice none 0 0,.slice none 0 0,.slice none 0 0] 27)).alloc (.cells (pK d 0) 78)).alloc (.cells #[.slice (some ⟨w.heap.size+1+1,0,none⟩) 4 4] 76)) (.cells #[.int .i64 0,.slice none 0 0,.slice none 0 0,.slice (some ⟨w.heap.size+1+1+1,0,none⟩) 1 1] 27)
  simp only [dJ] at this
  exact this
 ·exact (((((Below.refl w.heap.size w).alloc (Nat.le_refl _) _).alloc (by simp only [dJ];omega) _).alloc (by simp only [dJ];omega) _).alloc (by simp only [dJ];omega) _).alloc (by simp only [dJ];omega) _
theorem JE {w:World} {b j:Nat} {arr:Array Value} {E:TypeId} (h:w.heap[b]?=some (.cells arr E)):w.frozen? ⟨b,j,none⟩=false:=by
 simp only [World.frozen?,h]
 rw [decide_eq_false (Nat.not_lt_zero j),Bool.and_false]
theorem iC (w:World) (g j:Nat) (v:Value):w.grownBy (w.setCell ⟨g,j,none⟩ v) (some g) :=
 ⟨rfl,rfl,rfl,by rw [size_set];exact Nat.le_refl _,fun k _ hne=>Below.heap_setCell w _ v k fun e=>hne (by rw [e])⟩
theorem Zr (d:List Int) {k:Nat} (hk:k<4):(pK d k).setIfInBounds (8 * k) (.int .u8 (d.getD k 0))=pK d (k+1):=by
 apply Array.ext_getElem?
 intro i
 unfold pK
 rw [Array.getElem?_setIfInBounds,Array.getElem?_map,Array.getElem?_map,Array.size_map,Array.size_range]
 by_cases hi:i<32
 ·rw [Array.getElem?_range,if_pos hi,Option.map_some,Option.map_some]
  unfold Nk
  by_cases c:8 * k=i
  ·subst c
   rw [if_pos rfl,if_pos hi,if_pos (by omega),show 8 * k / 8=k by omega]
  ·rw [if_neg c]
   by_cases c2:i % 8=0∧i / 8<k
   ·rw [if_pos c2,if_pos (by omega)]
   ·rw [if_neg c2,if_neg (by omega)]
 ·rw [Array.getElem?_range,if_neg hi,if_neg (by omega)]
  rfl
theorem ni {d:List Int} {w:World} {k:Nat} {wr:World} (h:PtW d w k wr) (hk:k<4) {j:Nat} {v:Value} (hj:j=8 * k) (hv:v=.int .u8 (d.getD k 0)):PtW d w (k+1) (wr.setCell ⟨w.heap.size+1+1,j,none⟩ v):=by
 subst hj
 subst hv
 refine ⟨by rw [size_set];exact h.size,?_,?_,?_,?_,?_⟩
 ·rw [Below.heap_setCell _ _ _ _ (by show w.heap.size+1≠w.heap.size+1+1;omega)];exact h.h1
 ·rw [heap_set _ h.h2,Zr d hk]
 ·rw [Below.heap_setCell _ _ _ _ (by show w.heap.size+1+1+1≠w.heap.size+1+1;omega)];exact h.h3
 ·rw [Below.heap_setCell _ _ _ _ (by show w.heap.size+1+1+1+1≠w.heap.size+1+1;omega)];exact h.h4
 ·exact h.below.grown (iC _ _ _ _) h.below.size (fun b hb=>by cases hb;omega)
set_option maxRecDepth 20000 in
set_option maxHeartbeats 1000000 in
theorem Qk {w:World} {b off c:Nat} (h0:w.cell? ⟨b,off,none⟩=some (.int .i64 0)) (h1:w.cell? ⟨b,off+1,none⟩=some (.int .i64 1)) :
  Calls Tryd.prog 42 #[.agg #[.int .u8 1,.int .u8 5,.int .u8 0,.int .u8 0],.slice (some ⟨b,off,none⟩) 2 c] w fun e w'=>∃ g1 g2 g3 g4,e=.returned (.agg #[.int .i64 0,.slice none 0 0,.slice (some ⟨g1,0,none⟩) 1 1,.slice (some ⟨g2,0,none⟩) 1 1])∧w.heap.size≤g1∧w.heap.size≤g2∧w.heap.size≤g3∧w.heap.size≤g4 ∧
   w'.heap[g1]?=some (.cells #[.int .i64 4,.slice (some ⟨g3,0,none⟩) 1 1] 101)∧w'.heap[g3]?=some (.cells #[.int .u64 3] 133) ∧
   w'.heap[g2]?=some (.cells #[.slice (some ⟨g4,0,none⟩) 4 4] 76)∧w'.heap[g4]?=some (.cells (pK [1,5,0,0] 4) 78)∧Below w.heap.size w w':=by
 have hbl:b<w.heap.size:=World.block_lt_of_cell? w _ h0
 have hmk:=mkP [1,5,0,0]
 go_enter Tryd.func42,Tryd.ntmps42
 have hix:∀ (w:World),(Instr.index 93 (.agg #[.int .u8 1,.int .u8 5,.int .u8 0,.int .u8 0]) (.int .i64 0)).run Tryd.prog w=.ok (.int .u8 1) w∧(Instr.index 93 (.agg #[.int .u8 1,.int .u8 5,.int .u8 0,.int .u8 0]) (.int .i64 1)).run Tryd.prog w=.ok (.int .u8 5) w∧(Instr.index 93 (.agg #[.int .u8 1,.int .u8 5,.int .u8 0,.int .u8 0]) (.int .i64 2)).run Tryd.prog w=.ok (.int .u8 0) w∧(Instr.index 93 (.agg #[.int .u8 1,.int .u8 5,.int .u8 0,.int .u8 0]) (.int .i64 3)).run Tryd.prog w=.ok (.int .u8 0) w:=fun w=>⟨by kernel_rfl,by kernel_rfl,by kernel_rfl,by kernel_rfl⟩
 go_wp2_with (rw [hmk])
 go_loopw [15] (fun i wr=>∃ k:Nat,k≤4∧i=.int .i64 k∧PtW [1,5,0,0] w k wr) (fun i _=>4 - (intOf i).toNat)
 case atStart=>exact ⟨0,by omega,rfl,FN _ _ _⟩
 case round =>
  obtain ⟨k,hk,rfl,hP⟩:=hrel
  have c4:wr.cell? ⟨w.heap.size+1+1+1+1,3,none⟩=some (.slice (some ⟨w.heap.size+1+1+1,0,none⟩) 1 1):=by rw [cell_of_row wr _ _ _ _ (0,0) hP.h4];rfl
  have c3:wr.cell? ⟨w.heap.size+1+1+1,0,none⟩=some (.slice (some ⟨w.heap.size+1+1,0,none⟩) 4 4):=by rw [cell_of_row wr _ _ _ _ (0,0) hP.h3];rfl
  have hk':k=0∨k=1∨k=2∨k=3∨k=4:=by omega
  rcases hk' with rfl|rfl|rfl|rfl|rfl
  ·have f2:wr.frozen? ⟨w.heap.size+1+1,0,none⟩=false:=JE hP.h2
   have c2:wr.cell? ⟨w.heap.size+1+1,0,none⟩=some (.int .u8 0):=by rw [cell_of_row wr _ _ _ _ (0,0) hP.h2];kernel_rfl
   go_wp2_with (rw [(hix wr).1])
   go_roundw
   case rel=>exact ⟨1,by omega,rfl,ni hP (by omega) rfl rfl⟩
   case measure=>simp [intOf]
  ·have f2:wr.frozen? ⟨w.heap.size+1+1,8,none⟩=false:=JE hP.h2
   have c2:wr.cell? ⟨w.heap.size+1+1,8,none⟩=some (.int .u8 0):=by rw [cell_of_row wr _ _ _ _ (0,0) hP.h2];kernel_rfl
   go_wp2_with (rw [(hix wr).2.1])
   go_roundw
   case rel=>exact ⟨2,by omega,rfl,ni hP (by omega) rfl rfl⟩
   case measure=>simp [intOf]
  ·have f2:wr.frozen? ⟨w.heap.size+1+1,16,none⟩=false:=JE hP.h2
   have c2:wr.cell? ⟨w.heap.size+1+1,16,none⟩=some (.int .u8 0):=by rw [cell_of_row wr _ _ _ _ (0,0) hP.h2];kernel_rfl
   go_wp2_with (rw [(hix wr).2.2.1])
   go_roundw
   case rel=>exact ⟨3,by omega,rfl,ni hP (by omega) rfl rfl⟩
   case measure=>simp [intOf]
  ·have f2:wr.frozen? ⟨w.heap.size+1+1,24,none⟩=false:=JE hP.h2
   have c2:wr.cell? ⟨w.heap.size+1+1,24,none⟩=some (.int .u8 0):=by rw [cell_of_row wr _ _ _ _ (0,0) hP.h2];kernel_rfl
   go_wp2_with (rw [(hix wr).2.2.2])
   go_roundw
   case rel=>exact ⟨4,by omega,rfl,ni hP (by omega) rfl rfl⟩
   case measure=>simp [intOf]
  ·have q0:wr.cell? ⟨b,off,none⟩=some (.int .i64 0):=(hP.below.cell hbl).trans h0
   have q1:wr.cell? ⟨b,off+1,none⟩=some (.int .i64 1):=(hP.below.cell hbl).trans h1
   go_wp2
   go_loopw [30,8] (fun i m w2=>∃ k:Nat,k≤2∧i=.int .i64 k∧m=.int .u64 (List.getD [0,1,3] k 0)∧w2=wr) (fun i _ _=>2 - (intOf i).toNat)
   case atStart=>exact ⟨0,by omega,rfl,rfl,rfl⟩
   case round =>
    obtain ⟨k,hk2,rfl,rfl,rfl⟩:=hrel
    have hk':k=0∨k=1∨k=2:=by omega
    rcases hk' with rfl|rfl|rfl
    ·go_wp2
     refine ⟨⟨1,by omega,rfl,by rfl,trivial⟩,by simp [intOf]⟩
    ·go_wp2
     refine ⟨⟨2,by omega,rfl,by rfl,trivial⟩,by simp [intOf]⟩
    ·have g4a:((wr.alloc (.cells #[.int .u64 3] 133)).alloc (.cells #[.int .i64 4,.slice (some ⟨wr.heap.size,0,none⟩) 1 1] 101)).heap[w.heap.size+1+1+1+1]?=some (.cells #[.int .i64 0,.slice none 0 0,.slice none 0 0,.slice (some ⟨w.heap.size+1+1+1,0,none⟩) 1 1] 27):=by
      have:=hP.size
      rw [dK _ _ (by rw [dJ];omega),dK _ _ (by omega)];exact hP.h4
     have g1a:((wr.alloc (.cells #[.int .u64 3] 133)).alloc (.cells #[.int .i64 4,.slice (some ⟨wr.heap.size,0,none⟩) 1 1] 101)).heap[w.heap.size+1]?=some (.cells #[.int .i64 0,.slice none 0 0,.slice none 0 0,.slice none 0 0] 27):=by
      have:=hP.size
      rw [dK _ _ (by rw [dJ];omega),dK _ _ (by omega)];exact hP.h1
     have f4:=JE (j:=2) g4a
     have d42:=cell_of_row _ _ 2 _ _ (0,0) g4a
     have d42:=d42.trans (show _=some (Value.slice none 0 0) from rfl)
     have g4b:=heap_set _ (j:=2) (v:=.slice (some ⟨wr.heap.size+1,0,none⟩) 1 1) g4a
     have b0:=(cell_of_row _ _ 0 _ _ (0,0) g4b).trans (show _=some (Value.int .i64 0) from rfl)
     have b1:=(cell_of_row _ _ 1 _ _ (0,0) g4b).trans (show _=some (Value.slice none 0 0) from rfl)
     have b2:=(cell_of_row _ _ 2 _ _ (0,0) g4b).trans (show _=some (Value.slice (some ⟨wr.heap.size+1,0,none⟩) 1 1) from rfl)
     have b3:=(cell_of_row _ _ 3 _ _ (0,0) g4b).trans (show _=some (Value.slice (some ⟨w.heap.size+1+1+1,0,none⟩) 1 1) from rfl)
     have p0:=(Below.heap_setCell _ ⟨w.heap.size+1+1+1+1,2,none⟩ (.slice (some ⟨wr.heap.size+1,0,none⟩) 1 1) (w.heap.size+1) (by show w.heap.size+1≠w.heap.size+1+1+1+1;omega)).trans g1a
     have e0:=(cell_of_row _ _ 0 _ _ (0,0) p0).trans (show _=some (Value.int .i64 0) from rfl)
     have z0:=JE (j:=0) p0
     have p1:=heap_set _ (j:=0) (v:=(.int .i64 0)) p0
     have e1:=(cell_of_row _ _ 1 _ _ (0,0) p1).trans (show _=some (Value.slice none 0 0) from rfl)
     have z1:=JE (j:=1) p1
     have p2:=heap_set _ (j:=1) (v:=(.slice none 0 0)) p1
     have e2:=(cell_of_row _ _ 2 _ _ (0,0) p2).trans (show _=some (Value.slice none 0 0) from rfl)
     have z2:=JE (j:=2) p2
     have p3:=heap_set _ (j:=2) (v:=(.slice (some ⟨wr.heap.size+1,0,none⟩) 1 1)) p2
     have e3:=(cell_of_row _ _ 3 _ _ (0,0) p3).trans (show _=some (Value.slice none 0 0) from rfl)
     have z3:=JE (j:=3) p3
     have p4:=heap_set _ (j:=3) (v:=(.slice (some ⟨w.heap.size+1+1+1,0,none⟩) 1 1)) p3
     have k0:=(cell_of_row _ _ 0 _ _ (0,0) p4).trans (show _=some (Value.int .i64 0) from rfl)
     have k1:=(cell_of_row _ _ 1 _ _ (0,0) p4).trans (show _=some (Value.slice none 0 0) from rfl)
     have k2:=(cell_of_row _ _ 2 _ _ (0,0) p4).trans (show _=some (Value.slice (some ⟨wr.heap.size+1,0,none⟩) 1 1) from rfl)
     have k3:=(cell_of_row _ _ 3 _ _ (0,0) p4).trans (show _=some (Value.slice (some ⟨w.heap.size+1+1+1,0,none⟩) 1 1) from rfl)
     go_wp2
     refine bodyPost_ret (v:=.agg #[.int .i64 0,.slice none 0 0,.slice (some ⟨wr.heap.size+1,0,none⟩) 1 1,.slice (some ⟨w.heap.size+1+1+1,0,none⟩) 1 1]) (by simp [results,Tryd.results42,go_sem,k0,k1,k2,k3]) rfl ?_
     have hset:∀ (W:World) (bb:Nat) (v0 v1 v2 v3 v4:Value),bb≠w.heap.size+1→bb≠w.heap.size+1+1+1+1→(((((W.setCell ⟨w.heap.size+1+1+1+1,2,none⟩ v0).setCell ⟨w.heap.size+1,0,none⟩ v1).setCell ⟨w.heap.size+1,1,none⟩ v2).setCell ⟨w.heap.size+1,2,none⟩ v3).setCell ⟨w.heap.size+1,3,none⟩ v4).heap[bb]?=W.heap[bb]?:=fun W bb v0 v1 v2 v3 v4 n1 n2=>by
      rw [Below.heap_setCell _ _ _ _ n1,Below.heap_setCell _ _ _ _ n1,Below.heap_setCell _ _ _ _ n1,Below.heap_setCell _ _ _ _ n1,Below.heap_setCell _ _ _ _ n2]
     have hsz:=hP.size
     refine ⟨wr.heap.size+1,w.heap.size+1+1+1,wr.heap.size,w.heap.size+1+1,rfl,by omega,by omega,by omega,by omega,?_,?_,?_,?_,?_⟩
     ·rw [hset _ _ _ _ _ _ _ (by omega) (by omega)]
      have:=pO (wr.alloc (.cells #[.int .u64 3] 133)) (.cells #[.int .i64 4,.slice (some ⟨wr.heap.size,0,none⟩) 1 1] 101)
      rw [dJ] at this
      exact this
     ·rw [hset _ _ _ _ _ _ _ (by omega) (by omega),dK _ _ (by rw [dJ];omega)]
      exact pO _ _
     ·rw [hset _ _ _ _ _ _ _ (by omega) (by omega),dK _ _ (by rw [dJ];omega),dK _ _ (by omega)]
      exact hP.h3
     ·rw [hset _ _ _ _ _ _ _ (by omega) (by omega),dK _ _ (by rw [dJ];omega),dK _ _ (by omega)]
      exact hP.h2
     ·have B1:=hP.below.alloc (o:=.cells #[.int .u64 3] 133) (by omega)
      have B2:=B1.alloc (o:=.cells #[.int .i64 4,.slice (some ⟨wr.heap.size,0,none⟩) 1 1] 101) (by rw [dJ];omega)
      have B3:=B2.grown (iC _ (w.heap.size+1+1+1+1) 2 (.slice (some ⟨wr.heap.size+1,0,none⟩) 1 1)) B2.size (fun b hb=>by cases hb;omega)
      have B4:=B3.grown (iC _ (w.heap.size+1) 0 (.int .i64 0)) B3.size (fun b hb=>by cases hb;omega)
      have B5:=B4.grown (iC _ (w.heap.size+1) 1 (.slice none 0 0)) B4.size (fun b hb=>by cases hb;omega)
      have B6:=B5.grown (iC _ (w.heap.size+1) 2 (.slice (some ⟨wr.heap.size+1,0,none⟩) 1 1)) B5.size (fun b hb=>by cases hb;omega)
      exact B6.grown (iC _ (w.heap.size+1) 3 (.slice (some ⟨w.heap.size+1+1+1,0,none⟩) 1 1)) B6.size (fun b hb=>by cases hb;omega)
set_option maxRecDepth 20000 in
set_option maxHeartbeats 1000000 in
theorem Ql {w:World} {b off c:Nat} (h0:w.cell? ⟨b,off,none⟩=some (.int .i64 1)) (h1:w.cell? ⟨b,off+1,none⟩=some (.int .i64 2)) :
  Calls Tryd.prog 42 #[.agg #[.int .u8 0,.int .u8 5,.int .u8 6,.int .u8 0],.slice (some ⟨b,off,none⟩) 2 c] w fun e w'=>∃ g1 g2 g3 g4,e=.returned (.agg #[.int .i64 0,.slice none 0 0,.slice (some ⟨g1,0,none⟩) 1 1,.slice (some ⟨g2,0,none⟩) 1 1])∧w.heap.size≤g1∧w.heap.size≤g2∧w.heap.size≤g3∧w.heap.size≤g4 ∧
   w'.heap[g1]?=some (.cells #[.int .i64 4,.slice (some ⟨g3,0,none⟩) 1 1] 101)∧w'.heap[g3]?=some (.cells #[.int .u64 6] 133) ∧
   w'.heap[g2]?=some (.cells #[.slice (some ⟨g4,0,none⟩) 4 4] 76)∧w'.heap[g4]?=some (.cells (pK [0,5,6,0] 4) 78)∧Below w.heap.size w w':=by
 have hbl:b<w.heap.size:=World.block_lt_of_cell? w _ h0
 have hmk:=mkP [0,5,6,0]
 go_enter Tryd.func42,Tryd.ntmps42
 have hix:∀ (w:World),(Instr.index 93 (.agg #[.int .u8 0,.int .u8 5,.int .u8 6,.int .u8 0]) (.int .i64 0)).run Tryd.prog w=.ok (.int .u8 0) w∧(Instr.index 93 (.agg #[.int .u8 0,.int .u8 5,.int .u8 6,.int .u8 0]) (.int .i64 1)).run Tryd.prog w=.ok (.int .u8 5) w∧(Instr.index 93 (.agg #[.int .u8 0,.int .u8 5,.int .u8 6,.int .u8 0]) (.int .i64 2)).run Tryd.prog w=.ok (.int .u8 6) w∧(Instr.index 93 (.agg #[.int .u8 0,.int .u8 5,.int .u8 6,.int .u8 0]) (.int .i64 3)).run Tryd.prog w=.ok (.int .u8 0) w:=fun w=>⟨by kernel_rfl,by kernel_rfl,by kernel_rfl,by kernel_rfl⟩
 go_wp2_with (rw [hmk])
 go_loopw [15] (fun i wr=>∃ k:Nat,k≤4∧i=.int .i64 k∧PtW [0,5,6,0] w k wr) (fun i _=>4 - (intOf i).toNat)
 case atStart=>exact ⟨0,by omega,rfl,FN _ _ _⟩
 case round =>
  obtain ⟨k,hk,rfl,hP⟩:=hrel
  have c4:wr.cell? ⟨w.heap.size+1+1+1+1,3,none⟩=some (.slice (some ⟨w.heap.size+1+1+1,0,none⟩) 1 1):=by rw [cell_of_row wr _ _ _ _ (0,0) hP.h4];rfl
  have c3:wr.cell? ⟨w.heap.size+1+1+1,0,none⟩=some (.slice (some ⟨w.heap.size+1+1,0,none⟩) 4 4):=by rw [cell_of_row wr _ _ _ _ (0,0) hP.h3];rfl
  have hk':k=0∨k=1∨k=2∨k=3∨k=4:=by omega
  rcases hk' with rfl|rfl|rfl|rfl|rfl
  ·have f2:wr.frozen? ⟨w.heap.size+1+1,0,none⟩=false:=JE hP.h2
   have c2:wr.cell? ⟨w.heap.size+1+1,0,none⟩=some (.int .u8 0):=by rw [cell_of_row wr _ _ _ _ (0,0) hP.h2];kernel_rfl
   go_wp2_with (rw [(hix wr).1])
   go_roundw
   case rel=>exact ⟨1,by omega,rfl,ni hP (by omega) rfl rfl⟩
   case measure=>simp [intOf]
  ·have f2:wr.frozen? ⟨w.heap.size+1+1,8,none⟩=false:=JE hP.h2
   have c2:wr.cell? ⟨w.heap.size+1+1,8,none⟩=some (.int .u8 0):=by rw [cell_of_row wr _ _ _ _ (0,0) hP.h2];kernel_rfl
   go_wp2_with (rw [(hix wr).2.1])
   go_roundw
   case rel=>exact ⟨2,by omega,rfl,ni hP (by omega) rfl rfl⟩
   case measure=>simp [intOf]
  ·have f2:wr.frozen? ⟨w.heap.size+1+1,16,none⟩=false:=JE hP.h2
   have c2:wr.cell? ⟨w.heap.size+1+1,16,none⟩=some (.int .u8 0):=by rw [cell_of_row wr _ _ _ _ (0,0) hP.h2];kernel_rfl
   go_wp2_with (rw [(hix wr).2.2.1])
   go_roundw
   case rel=>exact ⟨3,by omega,rfl,ni hP (by omega) rfl rfl⟩
   case measure=>simp [intOf]
  ·have f2:wr.frozen? ⟨w.heap.size+1+1,24,none⟩=false:=JE hP.h2
   have c2:wr.cell? ⟨w.heap.size+1+1,24,none⟩=some (.int .u8 0):=by rw [cell_of_row wr _ _ _ _ (0,0) hP.h2];kernel_rfl
   go_wp2_with (rw [(hix wr).2.2.2])
   go_roundw
   case rel=>exact ⟨4,by omega,rfl,ni hP (by omega) rfl rfl⟩
   case measure=>simp [intOf]
  ·have q0:wr.cell? ⟨b,off,none⟩=some (.int .i64 1):=(hP.below.cell hbl).trans h0
   have q1:wr.cell? ⟨b,off+1,none⟩=some (.int .i64 2):=(hP.below.cell hbl).trans h1
   go_wp2
   go_loopw [30,8] (fun i m w2=>∃ k:Nat,k≤2∧i=.int .i64 k∧m=.int .u64 (List.getD [0,2,6] k 0)∧w2=wr) (fun i _ _=>2 - (intOf i).toNat)
   case atStart=>exact ⟨0,by omega,rfl,rfl,rfl⟩
   case round =>
    obtain ⟨k,hk2,rfl,rfl,rfl⟩:=hrel
    have hk':k=0∨k=1∨k=2:=by omega
    rcases hk' with rfl|rfl|rfl
    ·go_wp2
     refine ⟨⟨1,by omega,rfl,by rfl,trivial⟩,by simp [intOf]⟩
    ·go_wp2
     refine ⟨⟨2,by omega,rfl,by rfl,trivial⟩,by simp [intOf]⟩
    ·have g4a:((wr.alloc (.cells #[.int .u64 6] 133)).alloc (.cells #[.int .i64 4,.slice (some ⟨wr.heap.size,0,none⟩) 1 1] 101)).heap[w.heap.size+1+1+1+1]?=some (.cells #[.int .i64 0,.slice none 0 0,.slice none 0 0,.slice (some ⟨w.heap.size+1+1+1,0,none⟩) 1 1] 27):=by
      have:=hP.size
      rw [dK _ _ (by rw [dJ];omega),dK _ _ (by omega)];exact hP.h4
     have g1a:((wr.alloc (.cells #[.int .u64 6] 133)).alloc (.cells #[.int .i64 4,.slice (some ⟨wr.heap.size,0,none⟩) 1 1] 101)).heap[w.heap.size+1]?=some (.cells #[.int .i64 0,.slice none 0 0,.slice none 0 0,.slice none 0 0] 27):=by
      have:=hP.size
      rw [dK _ _ (by rw [dJ];omega),dK _ _ (by omega)];exact hP.h1
     have f4:=JE (j:=2) g4a
     have d42:=cell_of_row _ _ 2 _ _ (0,0) g4a
     have d42:=d42.trans (show _=some (Value.slice none 0 0) from rfl)
     have g4b:=heap_set _ (j:=2) (v:=.slice (some ⟨wr.heap.size+1,0,none⟩) 1 1) g4a
     have b0:=(cell_of_row _ _ 0 _ _ (0,0) g4b).trans (show _=some (Value.int .i64 0) from rfl)
     have b1:=(cell_of_row _ _ 1 _ _ (0,0) g4b).trans (show _=some (Value.slice none 0 0) from rfl)
     have b2:=(cell_of_row _ _ 2 _ _ (0,0) g4b).trans (show _=some (Value.slice (some ⟨wr.heap.size+1,0,none⟩) 1 1) from rfl)
     have b3:=(cell_of_row _ _ 3 _ _ (0,0) g4b).trans (show _=some (Value.slice (some ⟨w.heap.size+1+1+1,0,none⟩) 1 1) from rfl)
     have p0:=(Below.heap_setCell _ ⟨w.heap.size+1+1+1+1,2,none⟩ (.slice (some ⟨wr.heap.size+1,0,none⟩) 1 1) (w.heap.size+1) (by show w.heap.size+1≠w.heap.size+1+1+1+1;omega)).trans g1a
     have e0:=(cell_of_row _ _ 0 _ _ (0,0) p0).trans (show _=some (Value.int .i64 0) from rfl)
     have z0:=JE (j:=0) p0
     have p1:=heap_set _ (j:=0) (v:=(.int .i64 0)) p0
     have e1:=(cell_of_row _ _ 1 _ _ (0,0) p1).trans (show _=some (Value.slice none 0 0) from rfl)
     have z1:=JE (j:=1) p1
     have p2:=heap_set _ (j:=1) (v:=(.slice none 0 0)) p1
     have e2:=(cell_of_row _ _ 2 _ _ (0,0) p2).trans (show _=some (Value.slice none 0 0) from rfl)
     have z2:=JE (j:=2) p2
     have p3:=heap_set _ (j:=2) (v:=(.slice (some ⟨wr.heap.size+1,0,none⟩) 1 1)) p2
     have e3:=(cell_of_row _ _ 3 _ _ (0,0) p3).trans (show _=some (Value.slice none 0 0) from rfl)
     have z3:=JE (j:=3) p3
     have p4:=heap_set _ (j:=3) (v:=(.slice (some ⟨w.heap.size+1+1+1,0,none⟩) 1 1)) p3
     have k0:=(cell_of_row _ _ 0 _ _ (0,0) p4).trans (show _=some (Value.int .i64 0) from rfl)
     have k1:=(cell_of_row _ _ 1 _ _ (0,0) p4).trans (show _=some (Value.slice none 0 0) from rfl)
     have k2:=(cell_of_row _ _ 2 _ _ (0,0) p4).trans (show _=some (Value.slice (some ⟨wr.heap.size+1,0,none⟩) 1 1) from rfl)
     have k3:=(cell_of_row _ _ 3 _ _ (0,0) p4).trans (show _=some (Value.slice (some ⟨w.heap.size+1+1+1,0,none⟩) 1 1) from rfl)
     go_wp2
     refine bodyPost_ret (v:=.agg #[.int .i64 0,.slice none 0 0,.slice (some ⟨wr.heap.size+1,0,none⟩) 1 1,.slice (some ⟨w.heap.size+1+1+1,0,none⟩) 1 1]) (by simp [results,Tryd.results42,go_sem,k0,k1,k2,k3]) rfl ?_
     have hset:∀ (W:World) (bb:Nat) (v0 v1 v2 v3 v4:Value),bb≠w.heap.size+1→bb≠w.heap.size+1+1+1+1→(((((W.setCell ⟨w.heap.size+1+1+1+1,2,none⟩ v0).setCell ⟨w.heap.size+1,0,none⟩ v1).setCell ⟨w.heap.size+1,1,none⟩ v2).setCell ⟨w.heap.size+1,2,none⟩ v3).setCell ⟨w.heap.size+1,3,none⟩ v4).heap[bb]?=W.heap[bb]?:=fun W bb v0 v1 v2 v3 v4 n1 n2=>by
      rw [Below.heap_setCell _ _ _ _ n1,Below.heap_setCell _ _ _ _ n1,Below.heap_setCell _ _ _ _ n1,Below.heap_setCell _ _ _ _ n1,Below.heap_setCell _ _ _ _ n2]
     have hsz:=hP.size
     refine ⟨wr.heap.size+1,w.heap.size+1+1+1,wr.heap.size,w.heap.size+1+1,rfl,by omega,by omega,by omega,by omega,?_,?_,?_,?_,?_⟩
     ·rw [hset _ _ _ _ _ _ _ (by omega) (by omega)]
      have:=pO (wr.alloc (.cells #[.int .u64 6] 133)) (.cells #[.int .i64 4,.slice (some ⟨wr.heap.size,0,none⟩) 1 1] 101)
      rw [dJ] at this
      exact this
     ·rw [hset _ _ _ _ _ _ _ (by omega) (by omega),dK _ _ (by rw [dJ];omega)]
      exact pO _ _
     ·rw [hset _ _ _ _ _ _ _ (by omega) (by omega),dK _ _ (by rw [dJ];omega),dK _ _ (by omega)]
      exact hP.h3
     ·rw [hset _ _ _ _ _ _ _ (by omega) (by omega),dK _ _ (by rw [dJ];omega),dK _ _ (by omega)]
      exact hP.h2
     ·have B1:=hP.below.alloc (o:=.cells #[.int .u64 6] 133) (by omega)
      have B2:=B1.alloc (o:=.cells #[.int .i64 4,.slice (some ⟨wr.heap.size,0,none⟩) 1 1] 101) (by rw [dJ];omega)
      have B3:=B2.grown (iC _ (w.heap.size+1+1+1+1) 2 (.slice (some ⟨wr.heap.size+1,0,none⟩) 1 1)) B2.size (fun b hb=>by cases hb;omega)
      have B4:=B3.grown (iC _ (w.heap.size+1) 0 (.int .i64 0)) B3.size (fun b hb=>by cases hb;omega)
      have B5:=B4.grown (iC _ (w.heap.size+1) 1 (.slice none 0 0)) B4.size (fun b hb=>by cases hb;omega)
      have B6:=B5.grown (iC _ (w.heap.size+1) 2 (.slice (some ⟨wr.heap.size+1,0,none⟩) 1 1)) B5.size (fun b hb=>by cases hb;omega)
      exact B6.grown (iC _ (w.heap.size+1) 3 (.slice (some ⟨w.heap.size+1+1+1,0,none⟩) 1 1)) B6.size (fun b hb=>by cases hb;omega)
theorem Nl {ok:Nat→Prop} {w:World} {a b c d:Int} {v:Value} (h:ay ok w (.agg [.int .u8 a,.int .u8 b,.int .u8 c,.int .u8 d]) v):v=.agg #[.int .u8 a,.int .u8 b,.int .u8 c,.int .u8 d]:=by
 cases h with
 |agg _ arr h1 h2 h3 =>
  obtain ⟨l,rfl⟩:∃ l:List Value,arr=l.toArray:=⟨arr.toList,by simp⟩
  match l,h1 with
  |[u0,u1,u2,u3],_ =>
   rw [(h3 0 _ u0 rfl rfl).bV,(h3 1 _ u1 rfl rfl).bV,(h3 2 _ u2 rfl rfl).bV,(h3 3 _ u3 rfl rfl).bV]
theorem FP {ok:Nat→Prop} {w:World} {m n:Int} {v:Value} (h:ay ok w (.list 1 [.int .i64 m,.int .i64 n]) v):∃ b off c,v=.slice (some ⟨b,off,none⟩) 2 c∧w.cell? ⟨b,off,none⟩=some (.int .i64 m)∧w.cell? ⟨b,off+1,none⟩=some (.int .i64 n):=by
 obtain ⟨l,hl⟩:∃ l:List PV,l=[.int .i64 m,.int .i64 n]:=⟨_,rfl⟩
 rw [← hl] at h
 cases h with
 |nil _ p=>cases hl
 |list _ _ b off c cv h1 h2 h3 h4 h6 h7 h8 =>
  subst hl
  have a0:=(h7 0 _ 0 _ rfl rfl).1
  have a1:=(h7 1 _ 0 _ rfl rfl).1
  rw [(h8 0 _ 0 _ rfl rfl).bV] at a0
  rw [(h8 1 _ 0 _ rfl rfl).bV] at a1
  exact ⟨b,off,c,rfl,a0,a1⟩
theorem FQ {a:Int} {j:Nat} {x:PV} (h:(lQ a).cells[j]?=some x):j<8∧x=.int .u8 (if j=0 then a else 0):=by
 match j,h with
 |0,h=>cases h;exact ⟨by omega,rfl⟩
 |1,h=>cases h;exact ⟨by omega,rfl⟩
 |2,h=>cases h;exact ⟨by omega,rfl⟩
 |3,h=>cases h;exact ⟨by omega,rfl⟩
 |4,h=>cases h;exact ⟨by omega,rfl⟩
 |5,h=>cases h;exact ⟨by omega,rfl⟩
 |6,h=>cases h;exact ⟨by omega,rfl⟩
 |7,h=>cases h;exact ⟨by omega,rfl⟩
 |j+8,h=>simp [lQ,PV.cells] at h
theorem Rx {ok:Nat→Prop} {w:World} {a b c d M:Int} {g1 g2 g3 g4:Nat} (o1:ok g1) (o2:ok g2) (o3:ok g3) (o4:ok g4)
  (k1:w.heap[g1]?=some (.cells #[.int .i64 4,.slice (some ⟨g3,0,none⟩) 1 1] 101)) (k3:w.heap[g3]?=some (.cells #[.int .u64 M] 133))
  (k2:w.heap[g2]?=some (.cells #[.slice (some ⟨g4,0,none⟩) 4 4] 76)) (k4:w.heap[g4]?=some (.cells (pK [a,b,c,d] 4) 78)) :
  ay ok w (ptP a b c d M) (.agg #[.int .i64 0,.slice none 0 0,.slice (some ⟨g1,0,none⟩) 1 1,.slice (some ⟨g2,0,none⟩) 1 1]):=by
 have l3:ay ok w (.list 1 [.int .u64 M]) (.slice (some ⟨g3,0,none⟩) 1 1):=.list 1 [.int .u64 M] g3 0 1 (fun _ _=>.int .u64 M) o3 ⟨_,_,_,k3⟩ (Nat.le_refl _) (by unfold maxLen;omega) (fun e he=>by rw [List.mem_singleton.1 he];rfl)
  (fun i e j x hi hj=>by
   match i,j,hi with
   |0,0,hi=>exact ⟨by rw [cell_of_row w _ _ _ _ (0,0) k3];rfl,rfl⟩
   |0,j+1,hi=>cases hi;simp [PV.cells] at hj
   |i+1,_,hi=>simp at hi)
  (fun i e j x hi hj=>by
   match i,j,hi with
   |0,0,hi=>cases hi;cases hj;exact .int _ _
   |0,j+1,hi=>cases hi;simp [PV.cells] at hj
   |i+1,_,hi=>simp at hi)
 have l1:ay ok w (.list 2 [.agg [.int .i64 4,.list 1 [.int .u64 M]]]) (.slice (some ⟨g1,0,none⟩) 1 1):=.list 2 [.agg [.int .i64 4,.list 1 [.int .u64 M]]] g1 0 1 (fun _ j=>if j=0 then .int .i64 4 else .slice (some ⟨g3,0,none⟩) 1 1) o1 ⟨_,_,_,k1⟩ (Nat.le_refl _) (by unfold maxLen;omega) (fun e he=>by rw [List.mem_singleton.1 he];rfl)
  (fun i e j x hi hj=>by
   match i,j,hi with
   |0,0,hi=>exact ⟨by rw [cell_of_row w _ _ _ _ (0,0) k1];rfl,rfl⟩
   |0,1,hi=>exact ⟨by rw [cell_of_row w _ _ _ _ (0,0) k1];rfl,rfl⟩
   |0,j+2,hi=>cases hi;simp [PV.cells] at hj
   |i+1,_,hi=>simp at hi)
  (fun i e j x hi hj=>by
   match i,j,hi with
   |0,0,hi=>cases hi;cases hj;exact .int _ _
   |0,1,hi=>cases hi;cases hj;exact l3
   |0,j+2,hi=>cases hi;simp [PV.cells] at hj
   |i+1,_,hi=>simp at hi)
 have hel:∀ (i:Nat) (e:PV),[lQ a,lQ b,lQ c,lQ d][i]?=some e→i<4∧e=lQ ([a,b,c,d].getD i 0):=fun i e hi=>by
  match i,hi with
  |0,hi=>cases hi;exact ⟨by omega,rfl⟩
  |1,hi=>cases hi;exact ⟨by omega,rfl⟩
  |2,hi=>cases hi;exact ⟨by omega,rfl⟩
  |3,hi=>cases hi;exact ⟨by omega,rfl⟩
  |i+4,hi=>simp at hi
 have l4:ay ok w (.list 8 [lQ a,lQ b,lQ c,lQ d]) (.slice (some ⟨g4,0,none⟩) 4 4):=.list 8 [lQ a,lQ b,lQ c,lQ d] g4 0 4 (fun i j=>Nk [a,b,c,d] 4 (i * 8+j)) o4 ⟨_,_,_,k4⟩ (Nat.le_refl _) (by unfold maxLen;omega)
  (fun e he=>by
   simp only [List.mem_cons,List.not_mem_nil,or_false] at he
   rcases he with rfl|rfl|rfl|rfl<;>rfl)
  (fun i e j x hi hj=>by
   obtain ⟨hi4,rfl⟩:=hel i e hi
   obtain ⟨hj8,_⟩:=FQ hj
   refine ⟨?_,?_⟩
   ·rw [cell_of_row w _ _ _ _ (0,0) k4,show 0+i * 8+j=i * 8+j by omega]
    unfold pK
    rw [Array.getElem?_map,Array.getElem?_range,if_pos (by omega)]
    rfl
   ·unfold Nk;split<;>rfl)
  (fun i e j x hi hj=>by
   obtain ⟨hi4,rfl⟩:=hel i e hi
   obtain ⟨hj8,rfl⟩:=FQ hj
   by_cases hj0:j=0
   ·subst hj0
    have q:Nk [a,b,c,d] 4 (i * 8+0)=.int .u8 ([a,b,c,d].getD i 0):=by
     unfold Nk
     rw [if_pos (by omega),show (i * 8+0) / 8=i by omega]
    rw [q,if_pos rfl]
    exact .int _ _
   ·have q:Nk [a,b,c,d] 4 (i * 8+j)=.int .u8 0:=by
     unfold Nk
     rw [if_neg (by omega)]
    rw [q,if_neg hj0]
    exact .int _ _)
 have l2:ay ok w (.list 1 [.list 8 [lQ a,lQ b,lQ c,lQ d]]) (.slice (some ⟨g2,0,none⟩) 1 1):=.list 1 [.list 8 [lQ a,lQ b,lQ c,lQ d]] g2 0 1 (fun _ _=>.slice (some ⟨g4,0,none⟩) 4 4) o2 ⟨_,_,_,k2⟩ (Nat.le_refl _) (by unfold maxLen;omega) (fun e he=>by rw [List.mem_singleton.1 he];rfl)
  (fun i e j x hi hj=>by
   match i,j,hi with
   |0,0,hi=>exact ⟨by rw [cell_of_row w _ _ _ _ (0,0) k2];rfl,rfl⟩
   |0,j+1,hi=>cases hi;simp [PV.cells] at hj
   |i+1,_,hi=>simp at hi)
  (fun i e j x hi hj=>by
   match i,j,hi with
   |0,0,hi=>cases hi;cases hj;exact l4
   |0,j+1,hi=>cases hi;simp [PV.cells] at hj
   |i+1,_,hi=>simp at hi)
 refine .agg _ _ rfl (fun j v hv=>?_) (fun j x v hx hv=>?_)
 ·match j,hv with
  |0,hv=>cases hv;rfl
  |1,hv=>cases hv;rfl
  |2,hv=>cases hv;rfl
  |3,hv=>cases hv;rfl
  |j+4,hv=>simp at hv
 ·match j,hx,hv with
  |0,hx,hv=>cases hx;cases hv;exact .int _ _
  |1,hx,hv=>cases hx;cases hv;exact .nil _ _
  |2,hx,hv=>cases hx;cases hv;exact l1
  |3,hx,hv=>cases hx;cases hv;exact l2
  |j+4,hx,hv=>simp at hv
theorem Zt:∀ args rs,Gi args=some rs→callable Tryd.prog 42=true∧oI Tryd.prog 42 args rs:=fun args rs h=>by
 unfold Gi at h
 split at h
 case h_2=>cases h
 split at h
 ·rename_i hc
  obtain ⟨rfl,rfl,rfl,rfl,rfl,rfl⟩:=hc
  cases h
  refine ⟨by kernel_rfl,fun T0 w vs h1 h2 h3 h4 _=>?_⟩
  match vs,h3 with
  |[v,l],_ =>
   obtain rfl:=Nl (h4 0 _ v rfl rfl)
   obtain ⟨b,off,c,rfl,q0,q1⟩:=FP (h4 1 _ l rfl rfl)
   refine (Qk q0 q1).mono ?_
   rintro e w' ⟨g1,g2,g3,g4,rfl,n1,n2,n3,n4,k1,k3,k2,k4,hB⟩
   refine ⟨_,fun b=>if w.heap.size≤b∧b<w'.heap.size then .ro else T0 b,rfl,hB,fun b hb=>if_neg (by omega),fun b hb=>?_,#[_],rfl,rfl,fun i r u hr' hu=>?_⟩
   ·show (if _ then _ else T0 b)=_
    rw [if_neg (by omega)];exact h2 b (by have:=hB.size;omega)
   ·match i with
    |0 =>
     cases hr';cases hu
     exact Rx (if_pos ⟨n1,(Array.getElem?_eq_some_iff.1 k1).1⟩) (if_pos ⟨n2,(Array.getElem?_eq_some_iff.1 k2).1⟩) (if_pos ⟨n3,(Array.getElem?_eq_some_iff.1 k3).1⟩) (if_pos ⟨n4,(Array.getElem?_eq_some_iff.1 k4).1⟩) k1 k3 k2 k4
    |i+1=>simp at hr'
 ·split at h
  case isFalse=>cases h
  rename_i hc
  obtain ⟨rfl,rfl,rfl,rfl,rfl,rfl⟩:=hc
  cases h
  refine ⟨by kernel_rfl,fun T0 w vs h1 h2 h3 h4 _=>?_⟩
  match vs,h3 with
  |[v,l],_ =>
   obtain rfl:=Nl (h4 0 _ v rfl rfl)
   obtain ⟨b,off,c,rfl,q0,q1⟩:=FP (h4 1 _ l rfl rfl)
   refine (Ql q0 q1).mono ?_
   rintro e w' ⟨g1,g2,g3,g4,rfl,n1,n2,n3,n4,k1,k3,k2,k4,hB⟩
   refine ⟨_,fun b=>if w.heap.size≤b∧b<w'.heap.size then .ro else T0 b,rfl,hB,fun b hb=>if_neg (by omega),fun b hb=>?_,#[_],rfl,rfl,fun i r u hr' hu=>?_⟩
   ·show (if _ then _ else T0 b)=_
    rw [if_neg (by omega)];exact h2 b (by have:=hB.size;omega)
   ·match i with
    |0 =>
     cases hr';cases hu
     exact Rx (if_pos ⟨n1,(Array.getElem?_eq_some_iff.1 k1).1⟩) (if_pos ⟨n2,(Array.getElem?_eq_some_iff.1 k2).1⟩) (if_pos ⟨n3,(Array.getElem?_eq_some_iff.1 k3).1⟩) (if_pos ⟨n4,(Array.getElem?_eq_some_iff.1 k4).1⟩) k1 k3 k2 k4
    |i+1=>simp at hr'
end Go.Proofs.YtaaokejjmdbfaaaDoor
