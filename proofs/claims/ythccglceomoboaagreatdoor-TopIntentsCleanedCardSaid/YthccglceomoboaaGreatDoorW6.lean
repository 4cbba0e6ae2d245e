/-
  Part 6 of the texts that the statement stands on.
-/
import Derived.Test.YthccglceomoboaaGreatDoorW5
import Derived.Test.YthccglceomoboaaGreatDoorChecked
import Derived.Sort.AssemblyPlain
set_option linter.all false
open List renaming getElem?_eq_getElem → ZZ, length_map → za, getElem?_map → zd, size_toArray → ZaN
open Nat renaming le_refl → zg, mul_le_mul_right → Zag, zero_le → ZaG
namespace Go.Proofs.YthccglceomoboaaGreatDoor
open Go.Shelf Go.RowKit Go.Lib Go.Sort
def kK (x:End):List Value:=[.int .i64 (x.pos:Int),.int .i64 (x.list:Int),.int .i64 x.step]
theorem Qy:ltOf (fun x y:End=>Lib.compareInt x.pos y.pos)=vw:=by
 funext x y
 unfold ltOf Lib.compareInt vw
 by_cases h1:x.pos<y.pos
 ·simp [h1]
 ·by_cases h2:y.pos<x.pos<;>simp [h1,h2]
theorem aeG:SWO vw where
 irrefl x:=by simp [vw]
 trans x y z h1 h2:=by simp [vw] at *;omega
 ntrans x y z h1 h2:=by simp [vw] at *;omega
theorem zq (l:List End):(rP l).Perm l∧(rP l).length=l.length∧∀ i j,i<j→j<l.length→¬ (rP l)[j]!.pos<(rP l)[i]!.pos:=by
 have h:=pdq_sorts vw aeG l.toArray 0 l.toArray.size (Lib.bitLen l.length) true true (ZaG _) (zg _) (Or.inl rfl)
 obtain ⟨⟨h1,h2,h3⟩,h4⟩:=h
 have hsz:l.toArray.size=l.length:=ZaN
 rw [hsz] at h1 h3 h4
 unfold rP
 generalize Sort.pdq vw l.toArray 0 l.length (Lib.bitLen l.length) true true=d at *
 have hd:d.extract 0 l.length=d:=by rw [← h1];simp
 have hl:l.toArray.extract 0 l.length=l.toArray:=by simp
 rw [hd,hl] at h3
 refine ⟨h3,by simpa using h1,fun i j hij hj=>?_⟩
 have:=h4 i j (ZaG _) hij hj
 simp only [vw,decide_eq_false_iff_not] at this
 have e:∀ k:Nat,d.toList[k]! = d[k]!:=fun k=>by
  rw [getElem!_def,getElem!_def]
  simp
 rw [e,e];exact this
set_option maxHeartbeats 1000000 in
theorem alP (x y:End)(W:World):Calls Tryz.prog 275 #[.agg (kK x).toArray,.agg (kK y).toArray] W fun e w'=>e=.returned (.int .i64 (Lib.compareInt x.pos y.pos))∧∃ q os',w'=grow (W.drewN q) os':=by
 have hcon:=fun W'=>AnyG.cmp_Compare_int Tryz.cmpInt (x.pos:Int) (y.pos:Int) W'
 change ∀ W',Calls Tryz.prog 276 _ _ _ at hcon
 unfold kK
 generalize Lib.compareInt (x.pos:Int) (y.pos:Int)=r at hcon ⊢
 generalize (x.pos:Int)=xp at *
 generalize (y.pos:Int)=yp at *
 go_enter Tryz.func275,Tryz.ntmps275
 go_wp2_with (go_at_call 276;refine (hcon _).mono ?_;rintro e w' ⟨rfl,rfl⟩)
 go_ret
 exact ⟨rfl,0,_,by rw [alloc_eq_grow,alloc_eq_grow,grow_grow];rfl⟩
theorem aeH (l:Array End){i j:Nat}(hi:i<l.size)(hj:j<3):(flatK kK 3 l)[i*3+j]! = (kK l[i]!)[j]!:=by
 have lt:i*3+j<l.size*3:=by omega
 rw [get_flatK _ _ _ _ lt,show (i*3+j) / 3=i by omega,show (i*3+j) % 3=j by omega]
theorem Qz (y:End){j:Nat}{x:PV}(h:(iM y).cells[j]?=some x):j<3∧∃ n:Int,x=.int .i64 n∧(kK y)[j]! = .int .i64 n:=by
 unfold iM at h
 simp only [PV.cells] at h
 match j,h with
 |0,h=>simp at h;exact ⟨by omega,_,h.symm,rfl⟩
 |1,h=>simp at h;exact ⟨by omega,_,h.symm,rfl⟩
 |2,h=>simp at h;exact ⟨by omega,_,h.symm,rfl⟩
 |j+3,h=>simp at h
set_option maxHeartbeats 1000000 in
theorem QA:callable Tryz.prog 274=true∧KI Tryz.prog 274 (lQ 275):=by
 refine ⟨by kernel_rfl,?_⟩
 intro c sz es es' h T w r v cv hfresh hrow hc
 obtain ⟨l,rfl,rfl,hl,rfl⟩:=Ll h
 obtain ⟨DT,hcv,h0,-⟩:=zU hc
 have h0':DT=#[]:=by simpa using h0
 subst h0'
 subst hcv
 obtain ⟨hperm,hlen,-⟩:=zq l
 by_cases hl0:l=[]
 ·subst hl0
  have hs0:rP []=[]:=List.eq_nil_of_length_eq_zero (by simpa using hlen)
  rw [hs0]
  have hv:∃ p cap,v=.slice p 0 cap:=by
   rcases hrow with ⟨_,a,rfl⟩|⟨b,cc,arr,E,rfl,_⟩
   ·exact ⟨_,_,rfl⟩
   ·exact ⟨_,_,rfl⟩
  obtain ⟨p,cap,rfl⟩:=hv
  have hn:=AnyF.slices_SortFunc_none Tryz.sortEnd p cap (.func (.func 275) #[] #[]) w
  change Calls Tryz.prog 274 _ _ _ at hn
  refine hn.mono ?_
  rintro e w' ⟨rfl,rfl⟩
  exact ⟨_,rfl,zg _,rfl,rfl,rfl,fun _ _ _=>rfl,hrow⟩
 ·rcases hrow with ⟨he,_⟩|⟨b,cc,arr,E,rfl,h2,h3,h4,h5,h6,h7,h8⟩
  ·exact absurd (List.map_eq_nil_iff.1 he) hl0
  have hsz:sz=3:=by
   obtain ⟨y,l',rfl⟩:∃ y l',l=y::l':=by cases l with
    |nil=>exact absurd rfl hl0
    |cons y l'=>exact ⟨y,l',rfl⟩
   have:=h7 (iM y) (by simp)
   simpa [iM,PV.cells] using this.symm
  subst hsz
  rw [za] at h5
  have hb:b<w.heap.size:=(Array.getElem?_eq_some_iff.1 h3).1
  have hH:HoldsK kK 3 w b 0 l.toArray:=by
   intro t ht
   rw [size_flatK,ZaN] at ht
   have hi:t / 3<l.length:=by omega
   have e1:t / 3*3+t % 3=t:=by omega
   have hx:(l.map iM)[t / 3]?=some (iM l[t / 3]):=by rw [zd,ZZ hi];rfl
   have hq:∃ x,(iM l[t / 3]).cells[t % 3]?=some x:=by
    have:t % 3<(iM l[t / 3]).cells.length:=by simp only [iM,PV.cells,List.length_cons,List.length_nil];omega
    exact ⟨_,ZZ this⟩
   obtain ⟨x,hx2⟩:=hq
   obtain ⟨u,k1,k2,k3⟩:=h8 _ _ _ _ hx hx2
   obtain ⟨q1,n,rfl,q2⟩:=Qz _ hx2
   cases k3
   have hf:=aeH l.toArray (i:=t / 3) (j:=t % 3) (by simpa using hi) q1
   rw [e1] at hf k1
   have hg:l.toArray[t / 3]! = l[t / 3]:=by rw [getElem!_pos _ _ (by simpa using hi)];simp
   rw [hg,q2] at hf
   refine ⟨?_,?_⟩
   ·rw [Nat.zero_add,cell_of_row w b t arr E (0,0) h3,k1,hf];rfl
   ·simp [World.frozen?,h3]
  have hcon:=AnyQ.slices_SortFunc_eq Tryz.sortEnd 3 (fun w=>Tryz.isAgg365 w) (fun w=>Tryz.sizeOf365 w) kK (fun _=>rfl) (fun x v hv=>by simp [kK] at hv;rcases hv with rfl|rfl|rfl<;>rfl) (fun x y=>Lib.compareInt x.pos y.pos) (by rw [Qy];exact aeG) 275 #[] b 0 cc l.toArray w (fun args w=>pO (by kernel_rfl) args w) (fun m os dk hs x y=>alP x y _) hH hb (by rw [ZaN];omega)
  change Calls Tryz.prog 274 _ _ _ at hcon
  rw [Qy] at hcon
  have hargs:(#[.slice (some ⟨b,0,none⟩) l.toArray.size cc,.func (.func 275) #[] #[]]:Array Value)=#[.slice (some ⟨b,0,none⟩) (l.map iM).length cc,.func (.func 275) #[] #[]]:=by simp
  rw [hargs] at hcon
  refine hcon.mono ?_
  rintro e w' ⟨rfl,n,os,rfl⟩
  have hD:(pdq vw l.toArray 0 l.toArray.size (Lib.bitLen l.toArray.size) true true).toList=rP l:=by
   unfold rP;rw [ZaN]
  generalize pdq vw l.toArray 0 l.toArray.size (Lib.bitLen l.toArray.size) true true=D at *
  have hDs:D.size=l.length:=by rw [← hlen,← hD];simp
  have hblk:∀ c,c<w.heap.size→(sortWorldK kK 3 w b 0 n D os).heap[c]?=if c=b then some (.cells (putCells id 0 (flatK kK 3 D) arr) E (0,0)) else w.heap[c]?:=by
   intro c hc
   show ((w.heap.modify b (onCells (putCells id 0 (flatK kK 3 D))))++os)[c]?=_
   rw [Array.getElem?_append_left (by simpa using hc),Array.getElem?_modify]
   by_cases hcb:c=b
   ·subst hcb
    simp [h3,onCells]
   ·rw [if_neg (fun e=>hcb e.symm),if_neg hcb]
  refine ⟨_,rfl,?_,rfl,rfl,rfl,fun c hc hT=>?_,?_⟩
  ·show w.heap.size≤((w.heap.modify b _)++os).size
   simp
  ·rw [hblk c hc,if_neg (fun e=>hT (by rw [e];exact h2))]
  ·have hsize:(putCells id 0 (flatK kK 3 D) arr).size=arr.size:=by simp [putCells]
   refine .inr ⟨b,cc,_,E,?_,h2,by rw [hblk b hb,if_pos rfl],by rw [hsize,h4],?_,h6,?_,?_⟩
   ·rw [za,za,hlen]
   ·rw [za,hlen];exact h5
   ·intro e he
    obtain ⟨y,_,rfl⟩:=List.mem_map.1 he
    rfl
   ·intro i e j x hi hj
    rw [zd] at hi
    obtain ⟨y,hy,rfl⟩:=Option.map_eq_some_iff.1 hi
    obtain ⟨q1,m,rfl,q2⟩:=Qz y hj
    obtain ⟨hiy,hyi⟩:=List.getElem?_eq_some_iff.1 hy
    have hiD:i<D.size:=by rw [hDs,← hlen];exact hiy
    have hDy:D[i]! = y:=by
     have:D.toList[i]?=some y:=by rw [hD];exact hy
     rw [Array.getElem?_toList] at this
     rw [getElem!_def,this]
    have hlt:i*3+j<arr.size:=by rw [h4];have:(i+1)*3≤cc*3:=Zag _ (by omega);omega
    have hlt2:i*3+j<(flatK kK 3 D).size:=by rw [size_flatK];have:(i+1)*3≤D.size*3:=Zag _ hiD;omega
    refine ⟨.int .i64 m,?_,rfl,.int _ _⟩
    simp only [putCells,Array.getElem?_mapIdx,Array.getElem?_eq_getElem hlt,Option.map_some]
    rw [if_pos ⟨ZaG _,by omega⟩,Nat.sub_zero,aeH D hiD q1,hDy,q2]
    rfl
end Go.Proofs.YthccglceomoboaaGreatDoor
