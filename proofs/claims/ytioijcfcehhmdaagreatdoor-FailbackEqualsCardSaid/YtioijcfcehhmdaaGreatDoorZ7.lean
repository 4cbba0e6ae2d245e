/-
  Part 7 of the texts that the statement stands on.
-/
import Derived.Test.YtioijcfcehhmdaaGreatDoorZ6
import Derived.Test.YtioijcfcehhmdaaGreatDoorChecked
import Derived.Sort.AssemblyPlain
set_option linter.all false
open List renaming getElem?_eq_getElem → ZS, length_map → Z2, getElem?_map → zb, size_toArray → ZaX
open Nat renaming le_refl → ze, mul_le_mul_right → Zam, zero_le → ZaM
namespace Go.Proofs.YtioijcfcehhmdaaGreatDoor
open Go.Shelf Go.RowKit Go.Lib Go.Sort
def CJ (x:End):List Value:=[.int .i64 (x.pos:Int),.int .i64 (x.list:Int),.int .i64 x.step]
theorem UQ:ltOf (fun x y:End=>Lib.compareInt x.pos y.pos)=wY:=by
 funext x y
 unfold ltOf Lib.compareInt wY
 by_cases h1:x.pos<y.pos
 ·simp [h1]
 ·by_cases h2:y.pos<x.pos<;>simp [h1,h2]
theorem afG:SWO wY where
 irrefl x:=by simp [wY]
 trans x y z h1 h2:=by simp [wY] at *;omega
 ntrans x y z h1 h2:=by simp [wY] at *;omega
theorem Aw (l:List End):(uf l).Perm l∧(uf l).length=l.length∧∀ i j,i<j→j<l.length→¬ (uf l)[j]!.pos<(uf l)[i]!.pos:=by
 have h:=pdq_sorts wY afG l.toArray 0 l.toArray.size (Lib.bitLen l.length) true true (ZaM _) (ze _) (Or.inl rfl)
 obtain ⟨⟨h1,h2,h3⟩,h4⟩:=h
 have hsz:l.toArray.size=l.length:=ZaX
 rw [hsz] at h1 h3 h4
 unfold uf
 generalize Sort.pdq wY l.toArray 0 l.length (Lib.bitLen l.length) true true=d at *
 have hd:d.extract 0 l.length=d:=by rw [← h1];simp
 have hl:l.toArray.extract 0 l.length=l.toArray:=by simp
 rw [hd,hl] at h3
 refine ⟨h3,by simpa using h1,fun i j hij hj=>?_⟩
 have:=h4 i j (ZaM _) hij hj
 simp only [wY,decide_eq_false_iff_not] at this
 have e:∀ k:Nat,d.toList[k]! = d[k]!:=fun k=>by
  rw [getElem!_def,getElem!_def]
  simp
 rw [e,e];exact this
set_option maxHeartbeats 1000000 in
theorem amG (x y:End)(W:World):Calls Tryz.prog 143 #[.agg (CJ x).toArray,.agg (CJ y).toArray] W fun e w'=>e=.returned (.int .i64 (Lib.compareInt x.pos y.pos))∧∃ q os',w'=grow (W.drewN q) os':=by
 have hcon:=fun W'=>AnyG.cmp_Compare_int Tryz.cmpInt (x.pos:Int) (y.pos:Int) W'
 change ∀ W',Calls Tryz.prog 144 _ _ _ at hcon
 unfold CJ
 generalize Lib.compareInt (x.pos:Int) (y.pos:Int)=r at hcon ⊢
 generalize (x.pos:Int)=xp at *
 generalize (y.pos:Int)=yp at *
 go_enter Tryz.func143,Tryz.ntmps143
 go_wp2_with (go_at_call 144;refine (hcon _).mono ?_;rintro e w' ⟨rfl,rfl⟩)
 go_ret
 exact ⟨rfl,0,_,by rw [alloc_eq_grow,alloc_eq_grow,grow_grow];rfl⟩
theorem afH (l:Array End){i j:Nat}(hi:i<l.size)(hj:j<3):(flatK CJ 3 l)[i*3+j]! = (CJ l[i]!)[j]!:=by
 have lt:i*3+j<l.size*3:=by omega
 rw [get_flatK _ _ _ _ lt,show (i*3+j) / 3=i by omega,show (i*3+j) % 3=j by omega]
theorem UR (y:End){j:Nat}{x:PV}(h:(jA y).cells[j]?=some x):j<3∧∃ n:Int,x=.int .i64 n∧(CJ y)[j]! = .int .i64 n:=by
 unfold jA at h
 simp only [PV.cells] at h
 match j,h with
 |0,h=>simp at h;exact ⟨by omega,_,h.symm,rfl⟩
 |1,h=>simp at h;exact ⟨by omega,_,h.symm,rfl⟩
 |2,h=>simp at h;exact ⟨by omega,_,h.symm,rfl⟩
 |j+3,h=>simp at h
set_option maxHeartbeats 1000000 in
theorem UU:callable Tryz.prog 142=true∧N7 Tryz.prog 142 (mZ 143):=by
 refine ⟨by kernel_rfl,?_⟩
 intro c sz es es' h T w r v cv hfresh hrow hc
 obtain ⟨l,rfl,rfl,hl,rfl⟩:=OC h
 obtain ⟨xP,hcv,h0,-⟩:=Bv hc
 have h0':xP=#[]:=by simpa using h0
 subst h0'
 subst hcv
 obtain ⟨hperm,hlen,-⟩:=Aw l
 by_cases hl0:l=[]
 ·subst hl0
  have hs0:uf []=[]:=List.eq_nil_of_length_eq_zero (by simpa using hlen)
  rw [hs0]
  have hv:∃ p cap,v=.slice p 0 cap:=by
   rcases hrow with ⟨_,a,rfl⟩|⟨b,cc,arr,E,rfl,_⟩
   ·exact ⟨_,_,rfl⟩
   ·exact ⟨_,_,rfl⟩
  obtain ⟨p,cap,rfl⟩:=hv
  have hn:=AnyF.slices_SortFunc_none Tryz.sortEnd p cap (.func (.func 143) #[] #[]) w
  change Calls Tryz.prog 142 _ _ _ at hn
  refine hn.mono ?_
  rintro e w' ⟨rfl,rfl⟩
  exact ⟨_,rfl,ze _,rfl,rfl,rfl,fun _ _ _=>rfl,hrow⟩
 ·rcases hrow with ⟨he,_⟩|⟨b,cc,arr,E,rfl,h2,h3,h4,h5,h6,h7,h8⟩
  ·exact absurd (List.map_eq_nil_iff.1 he) hl0
  have hsz:sz=3:=by
   obtain ⟨y,l',rfl⟩:∃ y l',l=y::l':=by cases l with
    |nil=>exact absurd rfl hl0
    |cons y l'=>exact ⟨y,l',rfl⟩
   have:=h7 (jA y) (by simp)
   simpa [jA,PV.cells] using this.symm
  subst hsz
  rw [Z2] at h5
  have hb:b<w.heap.size:=(Array.getElem?_eq_some_iff.1 h3).1
  have hH:HoldsK CJ 3 w b 0 l.toArray:=by
   intro t ht
   rw [size_flatK,ZaX] at ht
   have hi:t / 3<l.length:=by omega
   have e1:t / 3*3+t % 3=t:=by omega
   have hx:(l.map jA)[t / 3]?=some (jA l[t / 3]):=by rw [zb,ZS hi];rfl
   have hq:∃ x,(jA l[t / 3]).cells[t % 3]?=some x:=by
    have:t % 3<(jA l[t / 3]).cells.length:=by simp only [jA,PV.cells,List.length_cons,List.length_nil];omega
    exact ⟨_,ZS this⟩
   obtain ⟨x,hx2⟩:=hq
   obtain ⟨u,k1,k2,k3⟩:=h8 _ _ _ _ hx hx2
   obtain ⟨q1,n,rfl,q2⟩:=UR _ hx2
   cases k3
   have hf:=afH l.toArray (i:=t / 3) (j:=t % 3) (by simpa using hi) q1
   rw [e1] at hf k1
   have hg:l.toArray[t / 3]! = l[t / 3]:=by rw [getElem!_pos _ _ (by simpa using hi)];simp
   rw [hg,q2] at hf
   refine ⟨?_,?_⟩
   ·rw [Nat.zero_add,cell_of_row w b t arr E (0,0) h3,k1,hf];rfl
   ·simp [World.frozen?,h3]
  have hcon:=AnyQ.slices_SortFunc_eq Tryz.sortEnd 3 (fun w=>Tryz.isAgg173 w) (fun w=>Tryz.sizeOf173 w) CJ (fun _=>rfl) (fun x v hv=>by simp [CJ] at hv;rcases hv with rfl|rfl|rfl<;>rfl) (fun x y=>Lib.compareInt x.pos y.pos) (by rw [UQ];exact afG) 143 #[] b 0 cc l.toArray w (fun args w=>nR (by kernel_rfl) args w) (fun m os dk hs x y=>amG x y _) hH hb (by rw [ZaX];omega)
  change Calls Tryz.prog 142 _ _ _ at hcon
  rw [UQ] at hcon
  have hargs:(#[.slice (some ⟨b,0,none⟩) l.toArray.size cc,.func (.func 143) #[] #[]]:Array Value)=#[.slice (some ⟨b,0,none⟩) (l.map jA).length cc,.func (.func 143) #[] #[]]:=by simp
  rw [hargs] at hcon
  refine hcon.mono ?_
  rintro e w' ⟨rfl,n,os,rfl⟩
  have hD:(pdq wY l.toArray 0 l.toArray.size (Lib.bitLen l.toArray.size) true true).toList=uf l:=by
   unfold uf;rw [ZaX]
  generalize pdq wY l.toArray 0 l.toArray.size (Lib.bitLen l.toArray.size) true true=D at *
  have hDs:D.size=l.length:=by rw [← hlen,← hD];simp
  have hblk:∀ c,c<w.heap.size→(sortWorldK CJ 3 w b 0 n D os).heap[c]?=if c=b then some (.cells (putCells id 0 (flatK CJ 3 D) arr) E (0,0)) else w.heap[c]?:=by
   intro c hc
   show ((w.heap.modify b (onCells (putCells id 0 (flatK CJ 3 D))))++os)[c]?=_
   rw [Array.getElem?_append_left (by simpa using hc),Array.getElem?_modify]
   by_cases hcb:c=b
   ·subst hcb
    simp [h3,onCells]
   ·rw [if_neg (fun e=>hcb e.symm),if_neg hcb]
  refine ⟨_,rfl,?_,rfl,rfl,rfl,fun c hc hT=>?_,?_⟩
  ·show w.heap.size≤((w.heap.modify b _)++os).size
   simp
  ·rw [hblk c hc,if_neg (fun e=>hT (by rw [e];exact h2))]
  ·have hsize:(putCells id 0 (flatK CJ 3 D) arr).size=arr.size:=by simp [putCells]
   refine .inr ⟨b,cc,_,E,?_,h2,by rw [hblk b hb,if_pos rfl],by rw [hsize,h4],?_,h6,?_,?_⟩
   ·rw [Z2,Z2,hlen]
   ·rw [Z2,hlen];exact h5
   ·intro e he
    obtain ⟨y,_,rfl⟩:=List.mem_map.1 he
    rfl
   ·intro i e j x hi hj
    rw [zb] at hi
    obtain ⟨y,hy,rfl⟩:=Option.map_eq_some_iff.1 hi
    obtain ⟨q1,m,rfl,q2⟩:=UR y hj
    obtain ⟨hiy,hyi⟩:=List.getElem?_eq_some_iff.1 hy
    have hiD:i<D.size:=by rw [hDs,← hlen];exact hiy
    have hDy:D[i]! = y:=by
     have:D.toList[i]?=some y:=by rw [hD];exact hy
     rw [Array.getElem?_toList] at this
     rw [getElem!_def,this]
    have hlt:i*3+j<arr.size:=by rw [h4];have:(i+1)*3≤cc*3:=Zam _ (by omega);omega
    have hlt2:i*3+j<(flatK CJ 3 D).size:=by rw [size_flatK];have:(i+1)*3≤D.size*3:=Zam _ hiD;omega
    refine ⟨.int .i64 m,?_,rfl,.int _ _⟩
    simp only [putCells,Array.getElem?_mapIdx,Array.getElem?_eq_getElem hlt,Option.map_some]
    rw [if_pos ⟨ZaM _,by omega⟩,Nat.sub_zero,afH D hiD q1,hDy,q2]
    rfl
end Go.Proofs.YtioijcfcehhmdaaGreatDoor
