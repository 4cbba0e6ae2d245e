/-
  Part 5 of the texts that the statement stands on.
-/
import Derived.Test.YtdahanchdjadiaaDoorZ4
import Derived.Test.YtdahanchdjadiaaDoorProg
import Derived.Shelf.SlSortCmp.WholeK
import Derived.Shelf.SlSortCmp.NoneTotal
import Derived.Shelf.SlicesG.Cmp
import Derived.Shelf.Small.Bits
import Derived.Ground.SlsfProg
import Derived.Ground.SlgcProg
import Derived.Ground.NamesProg
set_option linter.all false
namespace Go.Proofs.YtdahanchdjadiaaDoor.V
def uf (l:List Nat) (m i:Nat):List Nat:=l++(wH m).take i
theorem Vm (l:List Nat) (m:Nat):uf l m 0=l:=by simp [uf]
theorem Vo {m i:Nat} (l:List Nat) (h:m≤most) (hi:i<ru m):uf l m (i+1)=uf l m i++[m / 128 ^ i % 128+128]:=by
 unfold uf;rw [Vk h hi,List.append_assoc]
theorem Me (l:List Nat) (m i:Nat):(uf l m i).length≤l.length+9:=by
 have:=L9 m
 unfold uf;rw [List.length_append,List.length_take];omega
theorem Vp {m:Nat} (l:List Nat) (h:m≤most):uf l m (ru m)++[m / 128 ^ ru m]=l++wH m:=by
 unfold uf
 rw [List.append_assoc,← (zU h).2]
theorem ahA {x:Nat} (h:x<128):IntKind.u8.wrap ((BitVec.ofInt IntKind.u8.bits (x:Int) ||| BitVec.ofInt IntKind.u8.bits 128).toNat:Int)=((x+128:Nat):Int):=by
 have key:∀ x:Fin 128,IntKind.u8.wrap ((BitVec.ofInt IntKind.u8.bits ((x.val:Nat):Int) ||| BitVec.ofInt IntKind.u8.bits 128).toNat:Int)=((x.val+128:Nat):Int):=by decide +kernel
 exact key ⟨x,h⟩
theorem Zx {x:Nat} (h:x<256):IntKind.u8.wrap (x:Int)=(x:Int):=by
 simp only [IntKind.wrap,IntKind.bits,IntKind.signed,Bool.false_and,Bool.false_eq_true,if_false]
 omega
theorem Zy (x:Nat):((x:Nat):Int).tmod 128=((x % 128:Nat):Int):=by rw [Int.tmod_eq_emod_of_nonneg (by omega)];omega
theorem Zz (m i:Nat):((m / 128 ^ i:Nat):Int).tdiv 128=((m / 128 ^ (i+1):Nat):Int):=by
 rw [Nat.pow_succ,← Nat.div_div_eq_div_mul]
 generalize m / 128 ^ i=q
 rw [Int.tdiv_eq_ediv_of_nonneg (by omega)];omega
theorem acI {q:Nat} (h:q≤most):IntKind.i64.wrap (q:Int)=(q:Int):=ay (by unfold most at h;omega)
theorem ahB:((128:Int)=0)=False:=eq_false (by decide)
theorem afc (m i:Nat):m / 128 ^ i≤m:=Nat.div_le_self _ _
theorem afd {l:List Nat} {m:Nat} (hm:m≤most) (hl:l.length≤1000000) {st:St} (h:st.head [0,1,21] st.boxes.length=some ⟨sl 27 [(0,.row 1 ((uf l m ((0:Nat))).map eY)),(1,.pv (.int .i64 ((m / 128 ^ ((0:Nat)):Nat):Int))),(21,.any)],[],[],none⟩) :
  den env IE st=some (.normal,⟨sl 27 [(0,.row 1 ((uf l m (ru m)).map eY)),(1,.pv (.int .i64 ((m / 128 ^ ru m:Nat):Int))),(4,.any)],[],[],none⟩):=by
 unfold IE
 refine dw (env:=env) (ru m) (fun i=>⟨sl 27 [(0,.row 1 ((uf l m (i)).map eY)),(1,.pv (.int .i64 ((m / 128 ^ (i):Nat):Int))),(21,.any)],[],[],none⟩) (fun i=>some (.normal,⟨sl 27 [(0,.row 1 ((uf l m (ru m)).map eY)),(1,.pv (.int .i64 ((m / 128 ^ ru m:Nat):Int))),(4,.any)],[],[],none⟩)) h (fun _=>rfl) (fun _=>by simp only [aG,bY,Nat.reduceMul,Nat.reduceBEq,Nat.reduceLT,Nat.reduceLeDiff,Nat.reduceAdd,decide_true,Bool.and_self,Bool.true_and]) ?_ ?_
 ·intro i rb hi ih
  obtain ⟨q1,_⟩:=Q5 hm hi
  have F1:(((m / 128 ^ i:Nat):Int) ≥ 128)=True:=eq_true (by omega)
  have F2:=Zy (m / 128 ^ i)
  have hx:m / 128 ^ i % 128<128:=Nat.mod_lt _ (by decide)
  have F3:=Zx (x:=m / 128 ^ i % 128) (by omega)
  have F4:=ahA hx
  have F5:=Zz m i
  have hd:=afc m (i+1)
  have F6:=acI (Nat.le_trans hd hm)
  have F7:((uf l m i).length+1≤lim)=True:=eq_true (by have:=Me l m i;unfold lim;omega)
  have hs:(uf l m (i+1)).map eY=(uf l m i).map eY++[.int .u8 ((m / 128 ^ i % 128+128:Nat):Int)]:=by rw [Vo l hm hi,List.map_append];rfl
  simp only [IC,F1,F2,F3,F4,F5,F6,F7,ahB,List.length_map,ak,Nat.reduceMul,Nat.reduceBEq,Nat.reduceLT,Nat.reduceLeDiff,reduceCtorEq,Nat.reduceEqDiff,Nat.reduceAdd,Nat.beq]
  rw [ih _ (by rw [hs];simp only [ak,Nat.reduceMul,Nat.reduceBEq,Nat.reduceLT,Nat.reduceLeDiff,reduceCtorEq,Nat.reduceEqDiff,Nat.reduceAdd,Nat.beq]<;>rfl)]
 ·intro rb
  have F1:(((m / 128 ^ ru m:Nat):Int) ≥ 128)=False:=eq_false (by have:=(zU hm).1;omega)
  simp only [IC,F1,ak,Nat.reduceMul,Nat.reduceBEq,Nat.reduceLT,Nat.reduceLeDiff,reduceCtorEq,Nat.reduceEqDiff,Nat.reduceAdd,Nat.beq]
theorem Q7 {l:List Nat} {n:Int} (hl:l.length≤1000000):uP env 58 (.row 1 (l.map eY)) [.int .i64 n]=some ([(.list 1 ((l++encI n).map eY),true)],none):=by
 have hc:=acG n
 have key:∀ {st:St},st.head [0,1,21] st.boxes.length=some ⟨sl 27 [(0,.row 1 (l.map eY)),(1,.pv (.int .i64 ((jF n:Nat):Int))),(21,.any)],[],[],none⟩→_:=fun {st} h=>afd (l:=l) (m:=jF n) hc hl (st:=st) (by rw [Vm];simpa using h)
 have F8:=Zx (x:=jF n / 128 ^ ru (jF n)) (by have:=(zU hc).1;omega)
 have F9:((uf l (jF n) (ru (jF n))).length+1≤lim)=True:=eq_true (by have:=Me l (jF n) (ru (jF n));unfold lim;omega)
 have hr:(l++encI n).map eY=(uf l (jF n) (ru (jF n))).map eY++[.int .u8 ((jF n / 128 ^ ru (jF n):Nat):Int)]:=by
  show (l++wH (jF n)).map eY=_
  rw [← Vp l hc,List.map_append];rfl
 rw [hr]
 rw [jW agZ rfl]
 by_cases c0:n<0
 ·have F0:(n<0)=True:=eq_true c0
  have e0:jF n=0:=by unfold jF;rw [if_pos (.inl c0)]
  simp only [Px,aG,Nat.reduceBEq,Nat.reduceLeDiff,Nat.reduceAdd,List.length_cons,List.length_nil]
  simp only [F0,ak,Nat.reduceMul,Nat.reduceBEq,Nat.reduceLT,Nat.reduceLeDiff,reduceCtorEq,Nat.reduceEqDiff,Nat.reduceAdd,Nat.beq]
  rw [key (by rw [e0];simp only [aG,bY,Nat.reduceMul,Nat.reduceBEq,Nat.reduceLT,Nat.reduceLeDiff,Nat.reduceAdd,decide_true,Bool.and_self,Bool.true_and]<;>rfl)]
  simp only [F8,F9,List.length_map,ak,Nat.reduceMul,Nat.reduceBEq,Nat.reduceLT,Nat.reduceLeDiff,reduceCtorEq,Nat.reduceEqDiff,Nat.reduceAdd,Nat.beq]
 ·have F0:(n<0)=False:=eq_false c0
  by_cases c1:n > 9007199254740991
  ·have F1:(n > 9007199254740991)=True:=eq_true c1
   have e0:jF n=0:=by unfold jF;rw [if_pos (.inr c1)]
   simp only [Px,aG,Nat.reduceBEq,Nat.reduceLeDiff,Nat.reduceAdd,List.length_cons,List.length_nil]
   simp only [F0,F1,ak,Nat.reduceMul,Nat.reduceBEq,Nat.reduceLT,Nat.reduceLeDiff,reduceCtorEq,Nat.reduceEqDiff,Nat.reduceAdd,Nat.beq]
   rw [key (by rw [e0];simp only [aG,bY,Nat.reduceMul,Nat.reduceBEq,Nat.reduceLT,Nat.reduceLeDiff,Nat.reduceAdd,decide_true,Bool.and_self,Bool.true_and]<;>rfl)]
   simp only [F8,F9,List.length_map,ak,Nat.reduceMul,Nat.reduceBEq,Nat.reduceLT,Nat.reduceLeDiff,reduceCtorEq,Nat.reduceEqDiff,Nat.reduceAdd,Nat.beq]
  ·have F1:(n > 9007199254740991)=False:=eq_false c1
   have e0:((jF n:Nat):Int)=n:=by unfold jF;rw [if_neg (by omega)];omega
   simp only [Px,aG,Nat.reduceBEq,Nat.reduceLeDiff,Nat.reduceAdd,List.length_cons,List.length_nil]
   simp only [F0,F1,ak,Nat.reduceMul,Nat.reduceBEq,Nat.reduceLT,Nat.reduceLeDiff,reduceCtorEq,Nat.reduceEqDiff,Nat.reduceAdd,Nat.beq]
   rw [key (by rw [e0];simp only [aG,bY,Nat.reduceMul,Nat.reduceBEq,Nat.reduceLT,Nat.reduceLeDiff,Nat.reduceAdd,decide_true,Bool.and_self,Bool.true_and]<;>rfl)]
   simp only [F8,F9,List.length_map,ak,Nat.reduceMul,Nat.reduceBEq,Nat.reduceLT,Nat.reduceLeDiff,reduceCtorEq,Nat.reduceEqDiff,Nat.reduceAdd,Nat.beq]
end Go.Proofs.YtdahanchdjadiaaDoor.V

namespace Go.Proofs.YtdahanchdjadiaaDoor.V
def EH:Nat→Nat→Nat→List Nat→Option (Nat × Nat × Nat)
 |0,_,_,_=>none
 |_+1,_,_,[]=>some (10,0,0)
 |k+1,i,n,b :: l=>if b<128 then some (if (b=0∧0<i)∨most<n+b * 128 ^ i then (3,0,0) else (0,n+b * 128 ^ i,i+1)) else EH k (i+1) (n+b % 128 * 128 ^ i) l
theorem PO:∀ (k i n:Nat) (l:List Nat),pR k i n l=(EH k i n l).getD (3,0,0)
 |0,_,_,_=>rfl
 |_+1,_,_,[]=>rfl
 |k+1,i,n,b :: l=>by
  unfold pR EH
  by_cases c:b<128
  ·rw [if_pos c,if_pos c];rfl
  ·rw [if_neg c,if_neg c];exact PO k (i+1) _ l
def sZ (l:List Nat):Nat→Nat
 |0=>0
 |i+1=>sZ l i+l.getD i 0 % 128 * 128 ^ i
theorem Q8 (l:List Nat):∀ i,sZ l i<128 ^ i
 |0=>by simp [sZ]
 |i+1=>by
  have h:=Q8 l i
  have h2:l.getD i 0 % 128<128:=Nat.mod_lt _ (by decide)
  have h3:l.getD i 0 % 128 * 128 ^ i≤127 * 128 ^ i:=Nat.mul_le_mul_right _ (by omega)
  unfold sZ
  rw [Nat.pow_succ]
  omega
theorem ahC {i:Nat} (h:i<8):128 ^ (i+1)≤72057594037927936:=by
 have:128 ^ (i+1)≤128 ^ 8:=Nat.pow_le_pow_right (by decide) (by omega)
 exact Nat.le_trans this (by decide)
theorem Jf (i:Nat):128 ^ i=2 ^ (7 * i):=by rw [Nat.pow_mul]
theorem ZA (f:Nat) {b:Nat} (h:b<256):IntKind.u8.wrap ((BitVec.ofInt IntKind.u8.bits (b:Int) &&& BitVec.ofInt IntKind.u8.bits 127).toNat:Int)=((b % 128:Nat):Int):=by
 have key:∀ x:Fin 256,IntKind.u8.wrap ((BitVec.ofInt IntKind.u8.bits ((x.val:Nat):Int) &&& BitVec.ofInt IntKind.u8.bits 127).toNat:Int)=((x.val % 128:Nat):Int):=by decide +kernel
 exact key ⟨b,h⟩
theorem ZB {b:Nat} (h:b<256):(IntKind.u8.wrap ((BitVec.ofInt IntKind.u8.bits (b:Int) &&& BitVec.ofInt IntKind.u8.bits 128).toNat:Int) != 0)=decide (128≤b):=by
 have key:∀ x:Fin 256,(IntKind.u8.wrap ((BitVec.ofInt IntKind.u8.bits ((x.val:Nat):Int) &&& BitVec.ofInt IntKind.u8.bits 128).toNat:Int) != 0)=decide (128≤x.val):=by decide +kernel
 exact key ⟨b,h⟩
theorem acJ {x i:Nat} (hx:x<128) (hi:i<8):IntKind.i64.wrap ((x:Int) * 2 ^ (min (7 * (i:Int)).toNat IntKind.i64.bits))=((x * 128 ^ i:Nat):Int):=by
 have h1:(7 * (i:Int)).toNat=7 * i:=by omega
 have h2:min (7 * i) IntKind.i64.bits=7 * i:=Nat.min_eq_left (by show 7 * i≤64;omega)
 have h3:=ahC hi
 have h4:x * 128 ^ i≤127 * 128 ^ i:=Nat.mul_le_mul_right _ (by omega)
 rw [Nat.pow_succ] at h3
 rw [h1,h2]
 have h5:(x:Int) * 2 ^ (7 * i)=((x * 128 ^ i:Nat):Int):=by rw [Jf];push_cast;rfl
 rw [h5]
 exact ay (by omega)
theorem afe {a x i:Nat} (ha:a<128 ^ i) (hx:x<128) (hi:i<8):IntKind.i64.wrap ((BitVec.ofInt IntKind.i64.bits (a:Int) ||| BitVec.ofInt IntKind.i64.bits ((x * 128 ^ i:Nat):Int)).toNat:Int)=((a+x * 128 ^ i:Nat):Int):=by
 have h3:=ahC hi
 have h4:x * 128 ^ i≤127 * 128 ^ i:=Nat.mul_le_mul_right _ (by omega)
 rw [Nat.pow_succ] at h3
 have e1:(BitVec.ofInt IntKind.i64.bits (a:Int))=BitVec.ofNat 64 a:=BitVec.ofInt_natCast 64 a
 have e2:(BitVec.ofInt IntKind.i64.bits ((x * 128 ^ i:Nat):Int))=BitVec.ofNat 64 (x * 128 ^ i):=BitVec.ofInt_natCast 64 _
 have e3:(BitVec.ofNat 64 a ||| BitVec.ofNat 64 (x * 128 ^ i)).toNat=a+x * 128 ^ i:=by
  rw [BitVec.toNat_or,BitVec.toNat_ofNat,BitVec.toNat_ofNat,Nat.mod_eq_of_lt (by omega),Nat.mod_eq_of_lt (by omega),Nat.or_comm,Nat.mul_comm x,Jf,← Nat.two_pow_add_eq_or_of_lt (by rw [← Jf];exact ha),Nat.add_comm]
 rw [e1,e2]
 show IntKind.i64.wrap (((BitVec.ofNat 64 a ||| BitVec.ofNat 64 (x * 128 ^ i)).toNat:Nat):Int)=_
 rw [e3]
 exact ay (by omega)
def acK (l:List Nat):Option (Nat × Nat × Nat)→Option (Ex × St)
 |none=>some (.normal,⟨sl 57 [(2,.any),(3,.any)],[⟨false,[.pv (.list 1 (l.map eY))]⟩],[],none⟩)
 |some (e,n,u)=>some (.ret,⟨sl 57 [(2,.pv (.int .i64 (n:Int))),(3,.pv (.int .i64 (e:Int)))],[⟨false,[.pv (.list 1 ((l.drop u).map eY))]⟩],[],none⟩)
theorem Gl (l:List Nat):acK l none=some (.normal,⟨sl 57 [(2,.any),(3,.any)],[⟨false,[.pv (.list 1 (l.map eY))]⟩],[],none⟩):=rfl
theorem nJ (l:List Nat) (e n u:Nat):acK l (some (e,n,u))=some (.ret,⟨sl 57 [(2,.pv (.int .i64 (n:Int))),(3,.pv (.int .i64 (e:Int)))],[⟨false,[.pv (.list 1 ((l.drop u).map eY))]⟩],[],none⟩):=rfl
theorem aff {l:List Nat} (hb:∀ c∈l,c<256) (hl:l.length≤1000000) {st:St} (h:st.head [0,4,7] st.boxes.length=some ⟨sl 57 [(0,.aP 0 0),(4,.pv (.int .i64 (sZ l ((0:Nat)):Int))),(7,.pv (.int .i64 (0:Nat)))],[⟨false,[.pv (.list 1 (l.map eY))]⟩],[],none⟩) :
  den env IQ st=acK l (EH (8 - ((0:Nat))) ((0:Nat)) (sZ l ((0:Nat))) (l.drop ((0:Nat)))):=by
 unfold IQ
 refine dw (env:=env) (nb:=1) (8) (fun i=>⟨sl 57 [(0,.aP 0 0),(4,.pv (.int .i64 (sZ l (i):Int))),(7,.pv (.int .i64 i))],[⟨false,[.pv (.list 1 (l.map eY))]⟩],[],none⟩) (fun i=>acK l (EH (8 - (i)) (i) (sZ l (i)) (l.drop (i)))) h (fun _=>rfl) (fun _=>by simp only [aG,bY,Nat.reduceMul,Nat.reduceBEq,Nat.reduceLT,Nat.reduceLeDiff,Nat.reduceAdd,decide_true,Bool.and_self,Bool.true_and]) ?_ ?_
 ·intro i rb hi ih
  have hi1:=dN hi (by unfold lim;omega)
  have F1:((i:Int)<8)=True:=eq_true (by omega)
  rw [show 8 - i=(7 - i)+1 by omega]
  by_cases c:i<l.length
  ·have F2:((i:Int) ≥ (l.length:Int))=False:=eq_false (by omega)
   have hbi:=hb _ (List.getElem_mem c)
   have e0:l.drop i=l[i] :: l.drop (i+1):=List.drop_eq_getElem_cons c
   have eg:l.getD i 0=l[i]:=by rw [List.getD_eq_getElem?_getD,List.getElem?_eq_getElem c];rfl
   have ha:=Q8 l i
   have hx:l[i] % 128<128:=Nat.mod_lt _ (by decide)
   have F3:=ZA i hbi
   have F4:IntKind.i64.wrap ((l[i] % 128:Nat):Int)=((l[i] % 128:Nat):Int):=ay (by omega)
   have F5:IntKind.i64.wrap (7 * (i:Int))=7 * (i:Int):=ay (by omega)
   have F6:(7 * (i:Int)<0)=False:=eq_false (by omega)
   have F7:=acJ hx hi
   have F8:=afe ha hx hi
   have F9:=ZB hbi
   have hs:sZ l (i+1)=sZ l i+l[i] % 128 * 128 ^ i:=by show sZ l i+l.getD i 0 % 128 * 128 ^ i=_;rw [eg]
   rw [← hs] at F8
   rw [e0]
   unfold EH
   by_cases c2:l[i]<128
   ·rw [if_pos c2]
    rw [decide_eq_false (show ¬ 128≤l[i] by omega)] at F9
    have e5:sZ l i+l[i] * 128 ^ i=sZ l (i+1):=by rw [hs,Nat.mod_eq_of_lt c2]
    rw [e5]
    by_cases c3:l[i]=0∧0<i
    ·rw [if_pos (.inl c3)]
     have G1:((l[i]:Int)==0)=true:=by simp [c3.1]
     have G2:((i:Int) > 0)=True:=eq_true (by omega)
     simp only [oU,F1,F2,F3,F4,F5,F6,F7,F8,F9,G1,G2,eY,aj c,List.getElem?_map,List.getElem?_eq_getElem c,Option.map_some,List.length_map,nJ,List.drop_zero,ak,Nat.reduceMul,Nat.reduceBEq,Nat.reduceLT,Nat.reduceLeDiff,reduceCtorEq,Nat.reduceEqDiff,Nat.reduceAdd,Nat.beq]
     rfl
    ·by_cases c4:most<sZ l (i+1)
     ·rw [if_pos (.inr c4)]
      have G3:((sZ l (i+1):Int) > 9007199254740991)=True:=eq_true (by unfold most at c4;omega)
      by_cases c5:l[i]=0
      ·have G1:((l[i]:Int)==0)=true:=by simp [c5]
       have G2:((i:Int) > 0)=False:=eq_false (by omega)
       simp only [oU,F1,F2,F3,F4,F5,F6,F7,F8,F9,G1,G2,G3,eY,aj c,List.getElem?_map,List.getElem?_eq_getElem c,Option.map_some,List.length_map,nJ,List.drop_zero,ak,Nat.reduceMul,Nat.reduceBEq,Nat.reduceLT,Nat.reduceLeDiff,reduceCtorEq,Nat.reduceEqDiff,Nat.reduceAdd,Nat.beq]
       rfl
      ·have G1:((l[i]:Int)==0)=false:=by simp [c5]
       simp only [oU,F1,F2,F3,F4,F5,F6,F7,F8,F9,G1,G3,eY,aj c,List.getElem?_map,List.getElem?_eq_getElem c,Option.map_some,List.length_map,nJ,List.drop_zero,ak,Nat.reduceMul,Nat.reduceBEq,Nat.reduceLT,Nat.reduceLeDiff,reduceCtorEq,Nat.reduceEqDiff,Nat.reduceAdd,Nat.beq]
       rfl
     ·rw [if_neg (by omega)]
      have G3:((sZ l (i+1):Int) > 9007199254740991)=False:=eq_false (by unfold most at c4;omega)
      have hj:IntKind.i64.wrap ((i:Int)+1)=((i+1:Nat):Int):=by rw [ay (by omega)];omega
      have B1:(0≤((i+1:Nat):Int)∧((i+1:Nat):Int)≤(l.length:Int))=True:=eq_true (by omega)
      have B2:((i+1:Nat):Int).toNat=i+1:=by omega
      have B3:(0≤(l.length:Int)∧(l.length:Int)≤(l.length:Int))=True:=eq_true (by omega)
      have hdr:((l.map eY).drop (i+1)).take (l.length - (i+1))=(l.drop (i+1)).map eY:=by
       rw [← List.map_drop,← List.map_take,List.take_of_length_le (by rw [List.length_drop];exact Nat.le_refl _)]
      by_cases c5:l[i]=0
      ·have G1:((l[i]:Int)==0)=true:=by simp [c5]
       have G2:((i:Int) > 0)=False:=eq_false (by omega)
       simp only [oU,F1,F2,F3,F4,F5,F6,F7,F8,F9,G1,G2,G3,hj,B1,B2,B3,hdr,bound,eY,aj c,List.getElem?_map,List.getElem?_eq_getElem c,Option.map_some,List.length_map,nJ,ak,Nat.reduceMul,Nat.reduceBEq,Nat.reduceLT,Nat.reduceLeDiff,reduceCtorEq,Nat.reduceEqDiff,Nat.reduceAdd,Nat.beq]
       rfl
      ·have G1:((l[i]:Int)==0)=false:=by simp [c5]
       simp only [oU,F1,F2,F3,F4,F5,F6,F7,F8,F9,G1,G3,hj,B1,B2,B3,hdr,bound,eY,aj c,List.getElem?_map,List.getElem?_eq_getElem c,Option.map_some,List.length_map,nJ,ak,Nat.reduceMul,Nat.reduceBEq,Nat.reduceLT,Nat.reduceLeDiff,reduceCtorEq,Nat.reduceEqDiff,Nat.reduceAdd,Nat.beq]
       rfl
   ·rw [if_neg c2]
    rw [decide_eq_true (show 128≤l[i] by omega)] at F9
    rw [← hs,show 7 - i=8 - (i+1) by omega]
    simp only [oU,F1,F2,F3,F4,F5,F6,F7,F8,F9,eY,aj c,List.getElem?_map,List.getElem?_eq_getElem c,Option.map_some,List.length_map,ak,Nat.reduceMul,Nat.reduceBEq,Nat.reduceLT,Nat.reduceLeDiff,reduceCtorEq,Nat.reduceEqDiff,Nat.reduceAdd,Nat.beq]
    rw [ih _ (by simp only [hi1,ak,Nat.reduceMul,Nat.reduceBEq,Nat.reduceLT,Nat.reduceLeDiff,reduceCtorEq,Nat.reduceEqDiff,Nat.reduceAdd,Nat.beq]<;>rfl)]
  ·have F2:((i:Int) ≥ (l.length:Int))=True:=eq_true (by omega)
   have e0:l.drop i=[]:=List.drop_of_length_le (by omega)
   rw [e0]
   unfold EH
   simp only [oU,F1,F2,List.length_map,nJ,List.drop_zero,ak,Nat.reduceMul,Nat.reduceBEq,Nat.reduceLT,Nat.reduceLeDiff,reduceCtorEq,Nat.reduceEqDiff,Nat.reduceAdd,Nat.beq]
   rfl
 ·intro rb
  rw [Nat.sub_self]
  unfold EH
  have F1:(((8:Nat):Int)<8)=False:=eq_false (by omega)
  simp only [oU,F1,Gl,ak,Nat.reduceMul,Nat.reduceBEq,Nat.reduceLT,Nat.reduceLeDiff,reduceCtorEq,Nat.reduceEqDiff,Nat.reduceAdd,Nat.beq]
def dD (l:List Nat):List Nat:=l.drop (dA l).2.2
theorem Vq {k i n:Nat} {l:List Nat} (h:EH k i n l=none):pR k i n l=(3,0,0):=by rw [PO,h];rfl
theorem Q9 {l:List Nat} (hb:∀ c∈l,c<256) (hl:l.length≤1000000):uP env 69 (.box [.list 1 (l.map eY)]) []=some ([(.int .i64 ((dA l).2.1:Int),false),(.int .i64 ((dA l).1:Int),false)],some [.list 1 ((dD l).map eY)]):=by
 rw [jW ag6 rfl]
 simp only [Yu,aG,Nat.reduceBEq,Nat.reduceLeDiff,Nat.reduceAdd,List.length_cons,List.length_nil]
 simp only [ak,Nat.reduceMul,Nat.reduceBEq,Nat.reduceLT,Nat.reduceLeDiff,reduceCtorEq,Nat.reduceEqDiff,Nat.reduceAdd,Nat.beq]
 have key:∀ {st:St},st.head [0,4,7] st.boxes.length=some ⟨sl 57 [(0,.aP 0 0),(4,.pv (.int .i64 ((sZ l 0:Nat):Int))),(7,.pv (.int .i64 (0:Nat)))],[⟨false,[.pv (.list 1 (l.map eY))]⟩],[],none⟩→_:=fun {st} h=>aff (l:=l) hb hl (st:=st) h
 rw [key (by simp only [aG,bY,Nat.reduceMul,Nat.reduceBEq,Nat.reduceLT,Nat.reduceLeDiff,Nat.reduceAdd,decide_true,Bool.and_self,Bool.true_and]<;>rfl)]
 unfold dD dA
 cases e:EH 8 0 0 l with
 |none =>
  rw [Vq e,show 8 - 0=8 from rfl,show sZ l 0=0 from rfl,List.drop_zero,e,Gl]
  simp only [ak,Nat.reduceMul,Nat.reduceBEq,Nat.reduceLT,Nat.reduceLeDiff,reduceCtorEq,Nat.reduceEqDiff,Nat.reduceAdd,Nat.beq]
  rfl
 |some q =>
  obtain ⟨x,n,u⟩:=q
  have:pR 8 0 0 l=(x,n,u):=by rw [PO,e];rfl
  rw [this,show 8 - 0=8 from rfl,show sZ l 0=0 from rfl,List.drop_zero,e,nJ]
  simp only [ak,Nat.reduceMul,Nat.reduceBEq,Nat.reduceLT,Nat.reduceLeDiff,reduceCtorEq,Nat.reduceEqDiff,Nat.reduceAdd,Nat.beq]
end Go.Proofs.YtdahanchdjadiaaDoor.V

namespace Go.Proofs.YtdahanchdjadiaaDoor.V
def kE (e:bD):List Nat:=encI e.start++encI e.count
theorem MB (e:bD):(kE e).length≤18:=by
 have h1:=l7 e.start
 have h2:=l7 e.count
 unfold kE;rw [List.length_append];omega
def xI (es:List bD):List Nat:=encI es.length++es.flatMap kE
def Bl (l:List Nat) (es:List bD) (i:Nat):List Nat:=l++encI es.length++(es.take i).flatMap kE
theorem ZC (es:List bD):(es.flatMap kE).length≤18 * es.length:=by
 induction es with
 |nil=>simp
 |cons e es ih=>have:=MB e;simp only [List.flatMap_cons,List.length_append,List.length_cons];omega
theorem ZE (l:List Nat) (es:List bD) (i:Nat):(Bl l es i).length≤l.length+9+18 * es.length:=by
 have h1:=l7 es.length
 have h2:=ZC (es.take i)
 have h3:(es.take i).length≤es.length:=List.length_take_le' _ _
 unfold Bl;rw [List.length_append,List.length_append];omega
theorem Vr (l:List Nat) (es:List bD):Bl l es 0=l++encI es.length:=by simp [Bl]
theorem Vs (l:List Nat) {es:List bD} {i:Nat} (h:i<es.length):Bl l es (i+1)=Bl l es i++kE es[i]:=by
 unfold Bl
 rw [List.take_succ_eq_append_getElem h,List.flatMap_append]
 simp [List.append_assoc]
theorem ZF (l:List Nat) (es:List bD):Bl l es es.length=l++xI es:=by
 unfold Bl xI;rw [List.take_length,List.append_assoc]
theorem ahD {l:List Nat} {e:bD} (hl:l.length≤900000):uP env 61 (.row 1 (l.map eY)) [aW e]=some ([(.list 1 ((l++kE e).map eY),true)],none):=by
 have h1:=l7 e.start
 have e1:=Q7 (l:=l) (n:=e.start) (by omega)
 have e2:=Q7 (l:=l++encI e.start) (n:=e.count) (by rw [List.length_append];omega)
 have eX:aW e=.agg [.int .i64 e.start,.int .i64 e.count]:=rfl
 unfold kE
 rw [eX,← List.append_assoc]
 rw [jW ag2 rfl]
 simp only [Yp,aG,Nat.reduceBEq,Nat.reduceLeDiff,Nat.reduceAdd,List.length_cons,List.length_nil]
 simp only [e1,e2,ak,Nat.reduceMul,Nat.reduceBEq,Nat.reduceLT,Nat.reduceLeDiff,reduceCtorEq,Nat.reduceEqDiff,Nat.reduceAdd,Nat.beq]
theorem afg {l:List Nat} {es:List bD} {gf:Nat} (hf:∀ {l:List Nat} {e:bD},l.length≤900000→uP env gf (.row 1 (l.map eY)) [aW e]=some ([(.list 1 ((l++kE e).map eY),true)],none)) (hl:l.length≤400000) (hes:es.length≤10000) {st:St} (h:st.head [0,1,2,12,13,14,15,22] st.boxes.length=some ⟨sl 25 [(0,.row 1 ((Bl l es ((0:Nat))).map eY)),(1,.pv (.list 2 (es.map aW))),(2,.pv (.func gf [])),(12,.any),(13,.pv (.list 2 (es.map aW))),(14,.pv (.int .i64 es.length)),(15,.pv (.int .i64 (0:Nat))),(22,.any)],[],[],none⟩) :
  den env II st=some (.normal,⟨sl 25 [(0,.row 1 ((l++xI es).map eY)),(6,.any)],[],[],none⟩):=by
 unfold II
 refine dw (env:=env) (es.length) (fun i=>⟨sl 25 [(0,.row 1 ((Bl l es (i)).map eY)),(1,.pv (.list 2 (es.map aW))),(2,.pv (.func gf [])),(12,.any),(13,.pv (.list 2 (es.map aW))),(14,.pv (.int .i64 es.length)),(15,.pv (.int .i64 i)),(22,.any)],[],[],none⟩) (fun i=>some (.normal,⟨sl 25 [(0,.row 1 ((l++xI es).map eY)),(6,.any)],[],[],none⟩)) h (fun _=>rfl) (fun _=>by simp only [aG,bY,Nat.reduceMul,Nat.reduceBEq,Nat.reduceLT,Nat.reduceLeDiff,Nat.reduceAdd,decide_true,Bool.and_self,Bool.true_and]) ?_ ?_
 ·intro i rb hi ih
  have hi1:=dN hi (by unfold lim;omega)
  have F1:((i:Int)<(es.length:Int))=True:=eq_true (by omega)
  have e1:=hf (l:=Bl l es i) (e:=es[i]) (by have:=ZE l es i;omega)
  rw [← Vs l hi] at e1
  have eX:aW es[i]=.agg [.int .i64 es[i].start,.int .i64 es[i].count]:=rfl
  rw [eX] at e1
  simp only [IG,F1,e1,aW,aj hi,List.getElem?_map,List.getElem?_eq_getElem hi,Option.map_some,List.length_map,ak,Nat.reduceMul,Nat.reduceBEq,Nat.reduceLT,Nat.reduceLeDiff,reduceCtorEq,Nat.reduceEqDiff,Nat.reduceAdd,Nat.beq]
  rw [ih _ (by simp only [hi1,ak,Nat.reduceMul,Nat.reduceBEq,Nat.reduceLT,Nat.reduceLeDiff,reduceCtorEq,Nat.reduceEqDiff,Nat.reduceAdd,Nat.beq]<;>rfl)]
 ·intro rb
  rw [ZF]
  simp only [IG,Int.lt_irrefl,ak,Nat.reduceMul,Nat.reduceBEq,Nat.reduceLT,Nat.reduceLeDiff,reduceCtorEq,Nat.reduceEqDiff,Nat.reduceAdd,Nat.beq]
theorem ahE {l:List Nat} {es:List bD} {gf:Nat} (hf:∀ {l:List Nat} {e:bD},l.length≤900000→uP env gf (.row 1 (l.map eY)) [aW e]=some ([(.list 1 ((l++kE e).map eY),true)],none)) (hl:l.length≤400000) (hes:es.length≤10000) :
  uP env 60 (.row 1 (l.map eY)) [.list 2 (es.map aW),.func gf []]=some ([(.list 1 ((l++xI es).map eY),true)],none):=by
 have e1:=Q7 (l:=l) (n:=es.length) (by omega)
 rw [jW ag1 rfl]
 simp only [Yo,aG,Nat.reduceBEq,Nat.reduceLeDiff,Nat.reduceAdd,List.length_cons,List.length_nil]
 simp only [e1,List.length_map,ak,Nat.reduceMul,Nat.reduceBEq,Nat.reduceLT,Nat.reduceLeDiff,reduceCtorEq,Nat.reduceEqDiff,Nat.reduceAdd,Nat.beq]
 rw [afg (l:=l) (es:=es) (gf:=gf) hf hl hes]
 rotate_left
 ·rw [Vr]
  simp only [aG,bY,Nat.reduceMul,Nat.reduceBEq,Nat.reduceLT,Nat.reduceLeDiff,Nat.reduceAdd,decide_true,Bool.and_self,Bool.true_and]<;>rfl
 ·simp only [ak,Nat.reduceMul,Nat.reduceBEq,Nat.reduceLT,Nat.reduceLeDiff,reduceCtorEq,Nat.reduceEqDiff,Nat.reduceAdd,Nat.beq]
theorem Rf {es:List PV} (hl:es.length≤lim):cal env 59 [.list 1 es]=some [(.list 1 es,true)]:=(BH ag0).trans (if_pos ⟨rfl,hl⟩)
theorem adV {l:List Nat} {n:Int} (hl:l.length≤1000000):cal env 34 [.list 1 (l.map eY),.int .i64 n]=some [(.list 1 ((l++encI n).map eY),true)]:=by
 have e0:=Rf (es:=l.map eY) (by rw [List.length_map];unfold lim;omega)
 have e1:=Q7 (l:=l) (n:=n) hl
 rw [ah agN rfl];simp only [Yd,aG,Nat.reduceBEq,Nat.reduceLeDiff,Nat.reduceAdd,List.length_cons,List.length_nil]
 simp only [e0,e1,ak,Nat.reduceMul,Nat.reduceBEq,Nat.reduceLT,Nat.reduceLeDiff,reduceCtorEq,Nat.reduceEqDiff,Nat.reduceAdd,Nat.beq]
theorem ahF {l:List Nat} {es:List bD} (hl:l.length≤400000) (hes:es.length≤10000):cal env 35 [.list 1 (l.map eY),.list 2 (es.map aW)]=some [(.list 1 ((l++xI es).map eY),true)]:=by
 have e0:=Rf (es:=l.map eY) (by rw [List.length_map];unfold lim;omega)
 have e1:=ahE (l:=l) (es:=es) (gf:=61) (fun {l e} h=>ahD h) hl hes
 rw [ah agO rfl];simp only [Ye,aG,Nat.reduceBEq,Nat.reduceLeDiff,Nat.reduceAdd,List.length_cons,List.length_nil]
 simp only [e0,e1,ak,Nat.reduceMul,Nat.reduceBEq,Nat.reduceLT,Nat.reduceLeDiff,reduceCtorEq,Nat.reduceEqDiff,Nat.reduceAdd,Nat.beq]
end Go.Proofs.YtdahanchdjadiaaDoor.V

namespace Go.Proofs.YtdahanchdjadiaaDoor.V
theorem nY {l:List Nat} {c:Nat} (h:c∈dD l):c∈l:=List.mem_of_mem_drop h
theorem jr (l:List Nat):(dD l).length≤l.length:=by unfold dD;rw [List.length_drop];omega
theorem Gm:∀ (k i n:Nat) (l:List Nat),(pR k i n l).1≠0→(pR k i n l).2.1=0
 |0,_,_,_,_=>rfl
 |_+1,_,_,[],_=>rfl
 |k+1,i,n,b :: l,hne=>by
  unfold pR at hne ⊢
  by_cases c:b<128
  ·rw [if_pos c] at hne ⊢
   by_cases c2:(b=0∧0<i)∨most<n+b * 128 ^ i
   ·rw [if_pos c2]
   ·rw [if_neg c2] at hne;exact absurd rfl hne
  ·rw [if_neg c] at hne ⊢;exact Gm k _ _ _ hne
theorem Gn {l:List Nat} (h:(dA l).1≠0):(dA l).2.1=0:=Gm 8 0 0 l h
theorem Gp (l:List Nat):(dA l).2.1≤most:=by
 by_cases h:(dA l).1=0
 ·exact (Gj h).2.2
 ·rw [Gn h];exact Nat.zero_le _
def EI (l:List Nat):Nat:=if (dA l).1=0∧65536<(dA l).2.1 then 5 else (dA l).1
theorem ahG {l:List Nat} (hb:∀ c∈l,c<256) (hl:l.length≤1000000):uP env 82 (.box [.list 1 (l.map eY)]) []=some ([(.int .i64 ((dA l).2.1:Int),false),(.int .i64 (EI l:Int),false)],some [.list 1 ((dD l).map eY)]):=by
 have e1:=Q9 hb hl
 unfold EI
 rw [jW ahg rfl]
 simp only [YC,aG,Nat.reduceBEq,Nat.reduceLeDiff,Nat.reduceAdd,List.length_cons,List.length_nil]
 by_cases c:(dA l).1=0
 ·rw [c] at e1
  have G1:(((0:Nat):Int)==0)=true:=rfl
  by_cases c2:65536<(dA l).2.1
  ·have F1:(((dA l).2.1:Int) > 65536)=True:=eq_true (by omega)
   rw [if_pos ⟨c,c2⟩]
   simp only [e1,G1,F1,ak,Nat.reduceMul,Nat.reduceBEq,Nat.reduceLT,Nat.reduceLeDiff,reduceCtorEq,Nat.reduceEqDiff,Nat.reduceAdd,Nat.beq]
   rfl
  ·have F1:(((dA l).2.1:Int) > 65536)=False:=eq_false (by omega)
   rw [if_neg (by omega),c]
   simp only [e1,G1,F1,ak,Nat.reduceMul,Nat.reduceBEq,Nat.reduceLT,Nat.reduceLeDiff,reduceCtorEq,Nat.reduceEqDiff,Nat.reduceAdd,Nat.beq]
 ·have G1:(((dA l).1:Int)==0)=false:=by simp [c]
  rw [if_neg (by omega)]
  simp only [e1,G1,ak,Nat.reduceMul,Nat.reduceBEq,Nat.reduceLT,Nat.reduceLeDiff,reduceCtorEq,Nat.reduceEqDiff,Nat.reduceAdd,Nat.beq]
def eF (l:List Nat):Nat × bD × List Nat:=if (dA l).1=0 then ((dA (dD l)).1,⟨((dA l).2.1:Int),((dA (dD l)).2.1:Int)⟩,dD (dD l)) else ((dA l).1,⟨0,0⟩,dD l)
theorem Vt {l:List Nat} {c:Nat} (h:c∈(eF l).2.2):c∈l:=by
 unfold eF at h
 split at h
 ·exact nY (nY h)
 ·exact nY h
theorem Gq (l:List Nat):(eF l).2.2.length≤l.length:=by
 have h1:=jr l
 have h2:=jr (dD l)
 unfold eF
 split<;>simp only<;>omega
theorem ahH {l:List Nat} (hb:∀ c∈l,c<256) (hl:l.length≤1000000):uP env 83 (.box [.list 1 (l.map eY)]) []=some ([(.int .i64 (eF l).2.1.start,false),(.int .i64 (eF l).2.1.count,false),(.int .i64 ((eF l).1:Int),false)],some [.list 1 ((eF l).2.2.map eY)]):=by
 have e1:=Q9 hb hl
 have e2:=Q9 (l:=dD l) (fun c h=>hb c (nY h)) (Nat.le_trans (jr l) hl)
 unfold eF
 rw [jW ahh rfl]
 simp only [YD,aG,Nat.reduceBEq,Nat.reduceLeDiff,Nat.reduceAdd,List.length_cons,List.length_nil]
 by_cases c:(dA l).1=0
 ·rw [c] at e1
  have G1:(((0:Nat):Int) != 0)=false:=rfl
  rw [if_pos c]
  simp only [e1,e2,G1,ak,Nat.reduceMul,Nat.reduceBEq,Nat.reduceLT,Nat.reduceLeDiff,reduceCtorEq,Nat.reduceEqDiff,Nat.reduceAdd,Nat.beq]
 ·have G1:(((dA l).1:Int) != 0)=true:=by simp [c]
  rw [if_neg c]
  simp only [e1,G1,ak,Nat.reduceMul,Nat.reduceBEq,Nat.reduceLT,Nat.reduceLeDiff,reduceCtorEq,Nat.reduceEqDiff,Nat.reduceAdd,Nat.beq]
theorem ahI {l:List Nat} (hb:∀ c∈l,c<256) (hl:l.length≤1000000):uP env 73 (.box [.list 1 (l.map eY)]) []=some ([(aW (eF l).2.1,false),(.int .i64 ((eF l).1:Int),false)],some [.list 1 ((eF l).2.2.map eY)]):=by
 have e1:=ahH hb hl
 unfold aW
 rw [jW ag9 rfl]
 simp only [Yx,aG,Nat.reduceBEq,Nat.reduceLeDiff,Nat.reduceAdd,List.length_cons,List.length_nil]
 simp only [e1,ak,Nat.reduceMul,Nat.reduceBEq,Nat.reduceLT,Nat.reduceLeDiff,reduceCtorEq,Nat.reduceEqDiff,Nat.reduceAdd,Nat.beq]
def ug:Nat→List Nat→List bD→Nat × List bD × List Nat
 |0,l,acc=>(0,acc,l)
 |k+1,l,acc=>if (eF l).1=0 then ug k (eF l).2.2 (acc++[(eF l).2.1]) else ((eF l).1,acc,(eF l).2.2)
def vk (l:List Nat):Nat→List Nat
 |0=>l
 |i+1=>(eF (vk l i)).2.2
def zV (l:List Nat) (i:Nat):List bD:=(List.range i).map fun j=>(eF (vk l j)).2.1
theorem Vu (l:List Nat) (i:Nat):zV l (i+1)=zV l i++[(eF (vk l i)).2.1]:=by simp [zV,List.range_succ]
theorem ZG (l:List Nat) (i:Nat):(zV l i).length=i:=by simp [zV]
theorem MC {l:List Nat} {c:Nat}:∀ {i:Nat},c∈vk l i→c∈l
 |0,h=>h
 |i+1,h=>MC (i:=i) (Vt h)
theorem MF (l:List Nat):∀ i,(vk l i).length≤l.length
 |0=>Nat.le_refl _
 |i+1=>Nat.le_trans (Gq _) (MF l i)
def ZH (n:Nat) (q:Nat × List bD × List Nat):Option (Ex × St) :=
 if q.1=0 then some (.normal,⟨sl n [(4,.any),(5,.any),(8,.row 2 (q.2.1.map aW))],[⟨false,[.pv (.list 1 (q.2.2.map eY))]⟩],[],none⟩)
 else some (.ret,⟨sl n [(4,.row 2 []),(5,.pv (.int .i64 (q.1:Int))),(8,.row 2 (q.2.1.map aW))],[⟨false,[.pv (.list 1 (q.2.2.map eY))]⟩],[],none⟩)
theorem afh {l:List Nat} {n gf:Nat} (hf:∀ {l:List Nat},(∀ c∈l,c<256)→l.length≤1000000→uP env gf (.box [.list 1 (l.map eY)]) []=some ([(aW (eF l).2.1,false),(.int .i64 ((eF l).1:Int),false)],some [.list 1 ((eF l).2.2.map eY)])) (hb:∀ c∈l,c<256) (hl:l.length≤1000000) (hn:n≤65536) {st:St} (h:st.head [0,1,8,19,20,34] st.boxes.length=some ⟨sl 37 [(0,.aP 0 0),(1,.pv (.func gf [])),(8,.row 2 ((zV l ((0:Nat))).map aW)),(19,.pv (.int .i64 n)),(20,.pv (.int .i64 (0:Nat))),(34,.any)],[⟨false,[.pv (.list 1 ((vk l ((0:Nat))).map eY))]⟩],[],none⟩) :
  den env IU st=ZH 37 (ug (n - ((0:Nat))) (vk l ((0:Nat))) (zV l ((0:Nat)))):=by
 unfold IU
 refine dw (env:=env) (nb:=1) (n) (fun i=>⟨sl 37 [(0,.aP 0 0),(1,.pv (.func gf [])),(8,.row 2 ((zV l (i)).map aW)),(19,.pv (.int .i64 n)),(20,.pv (.int .i64 i)),(34,.any)],[⟨false,[.pv (.list 1 ((vk l (i)).map eY))]⟩],[],none⟩) (fun i=>ZH 37 (ug (n - (i)) (vk l (i)) (zV l (i)))) h (fun _=>rfl) (fun _=>by simp only [aG,bY,Nat.reduceMul,Nat.reduceBEq,Nat.reduceLT,Nat.reduceLeDiff,Nat.reduceAdd,decide_true,Bool.and_self,Bool.true_and]) ?_ ?_
 ·intro i rb hi ih
  have hi1:=dN hi (by unfold lim;omega)
  have F1:((i:Int)<(n:Int))=True:=eq_true (by omega)
  have e1:=hf (l:=vk l i) (fun c h=>hb c (MC h)) (Nat.le_trans (MF l i) hl)
  have hr:vk l (i+1)=(eF (vk l i)).2.2:=rfl
  have hacc:=Vu l i
  have F3:((zV l i).length+1≤lim)=True:=eq_true (by rw [ZG];unfold lim;omega)
  rw [show n - i=(n - (i+1))+1 by omega]
  unfold ug
  by_cases c:(eF (vk l i)).1=0
  ·rw [if_pos c,← hr,← hacc]
   rw [c,← hr] at e1
   have G1:(((0:Nat):Int) != 0)=false:=rfl
   have hs:(zV l (i+1)).map aW=(zV l i).map aW++[.agg [.int .i64 (eF (vk l i)).2.1.start,.int .i64 (eF (vk l i)).2.1.count]]:=by rw [hacc,List.map_append];rfl
   unfold aW at e1
   simp only [BO,F1,F3,e1,G1,List.length_map,vX,ak,Nat.reduceMul,Nat.reduceBEq,Nat.reduceLT,Nat.reduceLeDiff,reduceCtorEq,Nat.reduceEqDiff,Nat.reduceAdd,Nat.beq]
   rw [ih _ (by rw [hs];simp only [hi1,ak,Nat.reduceMul,Nat.reduceBEq,Nat.reduceLT,Nat.reduceLeDiff,reduceCtorEq,Nat.reduceEqDiff,Nat.reduceAdd,Nat.beq]<;>rfl)]
  ·rw [if_neg c]
   unfold ZH
   rw [if_neg c]
   have G1:(((eF (vk l i)).1:Int) != 0)=true:=by simp [c]
   unfold aW at e1
   simp only [BO,F1,F3,e1,G1,List.length_map,vX,ak,Nat.reduceMul,Nat.reduceBEq,Nat.reduceLT,Nat.reduceLeDiff,reduceCtorEq,Nat.reduceEqDiff,Nat.reduceAdd,Nat.beq]
 ·intro rb
  rw [Nat.sub_self]
  unfold ug ZH
  rw [if_pos rfl]
  simp only [BO,Int.lt_irrefl,ak,Nat.reduceMul,Nat.reduceBEq,Nat.reduceLT,Nat.reduceLeDiff,reduceCtorEq,Nat.reduceEqDiff,Nat.reduceAdd,Nat.beq]
def ZI (q:Nat × List bD × List Nat):Nat × List bD × List Nat:=(q.1,if q.1=0 then q.2.1 else [],q.2.2)
def iP (l:List Nat):Nat × List bD × List Nat:=if EI l=0 then ZI (ug (dA l).2.1 (dD l) []) else (EI l,[],dD l)
theorem Gs {l:List Nat} (h:EI l=0):(dA l).1=0∧(dA l).2.1≤65536:=by
 unfold EI at h
 split at h
 ·cases h
 ·omega
theorem ahJ {l:List Nat} {gf:Nat} (hf:∀ {l:List Nat},(∀ c∈l,c<256)→l.length≤1000000→uP env gf (.box [.list 1 (l.map eY)]) []=some ([(aW (eF l).2.1,false),(.int .i64 ((eF l).1:Int),false)],some [.list 1 ((eF l).2.2.map eY)])) (hb:∀ c∈l,c<256) (hl:l.length≤1000000) :
  uP env 72 (.box [.list 1 (l.map eY)]) [.func gf []]=some ([(.list 2 ((iP l).2.1.map aW),true),(.int .i64 ((iP l).1:Int),false)],some [.list 1 ((iP l).2.2.map eY)]):=by
 have e1:=ahG hb hl
 unfold iP
 rw [jW ag8 rfl]
 simp only [Yw,aG,Nat.reduceBEq,Nat.reduceLeDiff,Nat.reduceAdd,List.length_cons,List.length_nil]
 by_cases c:EI l=0
 ·rw [if_pos c]
  rw [c] at e1
  have G1:(((0:Nat):Int) != 0)=false:=rfl
  simp only [e1,G1,ak,Nat.reduceMul,Nat.reduceBEq,Nat.reduceLT,Nat.reduceLeDiff,reduceCtorEq,Nat.reduceEqDiff,Nat.reduceAdd,Nat.beq]
  rw [afh (l:=dD l) (n:=(dA l).2.1) (gf:=gf) hf (fun c h=>hb c (nY h)) (Nat.le_trans (jr l) hl) (Gs c).2]
  rotate_left
  ·simp only [aG,bY,Nat.reduceMul,Nat.reduceBEq,Nat.reduceLT,Nat.reduceLeDiff,Nat.reduceAdd,decide_true,Bool.and_self,Bool.true_and]<;>rfl
  ·rw [Nat.sub_zero,show vk (dD l) 0=dD l from rfl,show zV (dD l) 0=[] from rfl]
   unfold ZH ZI
   by_cases c2:(ug (dA l).2.1 (dD l) []).1=0
   ·rw [if_pos c2,if_pos c2,c2]
    simp only [List.length_map,ak,Nat.reduceMul,Nat.reduceBEq,Nat.reduceLT,Nat.reduceLeDiff,reduceCtorEq,Nat.reduceEqDiff,Nat.reduceAdd,Nat.beq]
    rfl
   ·rw [if_neg c2,if_neg c2,List.map_nil]
    simp only [ak,Nat.reduceMul,Nat.reduceBEq,Nat.reduceLT,Nat.reduceLeDiff,reduceCtorEq,Nat.reduceEqDiff,Nat.reduceAdd,Nat.beq]
 ·rw [if_neg c]
  have G1:((EI l:Int) != 0)=true:=by simp [c]
  simp only [e1,G1,ak,Nat.reduceMul,Nat.reduceBEq,Nat.reduceLT,Nat.reduceLeDiff,reduceCtorEq,Nat.reduceEqDiff,Nat.reduceAdd,Nat.beq]
end Go.Proofs.YtdahanchdjadiaaDoor.V

namespace Go.Proofs.YtdahanchdjadiaaDoor.V
theorem ahK {l:List Nat} (hb:∀ c∈l,c<256) (hl:l.length≤1000000):cal env 68 [.list 1 (l.map eY),.func 69 []]=some [(.int .i64 ((dA l).2.1:Int),false),(.list 1 ((if (dA l).1=0 then dD l else []).map eY),true),(.int .i64 ((dA l).1:Int),false)]:=by
 have e1:=Q9 hb hl
 have e2:=Rf (es:=(dD l).map eY) (by have:=jr l;rw [List.length_map];unfold lim;omega)
 by_cases c:(dA l).1=0
 ·rw [if_pos c]
  rw [c] at e1 ⊢
  have G1:(((0:Nat):Int) != 0)=false:=rfl
  rw [ah adC rfl];simp only [UM,aG,Nat.reduceBEq,Nat.reduceLeDiff,Nat.reduceAdd,List.length_cons,List.length_nil]
  simp only [e1,e2,G1,ak,Nat.reduceMul,Nat.reduceBEq,Nat.reduceLT,Nat.reduceLeDiff,reduceCtorEq,Nat.reduceEqDiff,Nat.reduceAdd,Nat.beq]
  rfl
 ·have G1:(((dA l).1:Int) != 0)=true:=by simp [c]
  have hz:(dA l).2.1=0:=by
   have:=Gn c
   exact this
  rw [if_neg c,List.map_nil]
  rw [hz] at e1 ⊢
  rw [ah adC rfl];simp only [UM,aG,Nat.reduceBEq,Nat.reduceLeDiff,Nat.reduceAdd,List.length_cons,List.length_nil]
  simp only [e1,G1,ak,Nat.reduceMul,Nat.reduceBEq,Nat.reduceLT,Nat.reduceLeDiff,reduceCtorEq,Nat.reduceEqDiff,Nat.reduceAdd,Nat.beq]
  rfl
theorem adW {l:List Nat} (hb:∀ c∈l,c<256) (hl:l.length≤1000000):cal env 46 [.list 1 (l.map eY)]=some [(.int .i64 ((dA l).2.1:Int),false),(.list 1 ((if (dA l).1=0 then dD l else []).map eY),true),(.int .i64 ((dA l).1:Int),false)]:=by
 have e1:=ahK hb hl
 rw [ah agU rfl];simp only [Yj,aG,Nat.reduceBEq,Nat.reduceLeDiff,Nat.reduceAdd,List.length_cons,List.length_nil]
 simp only [e1,ak,Nat.reduceMul,Nat.reduceBEq,Nat.reduceLT,Nat.reduceLeDiff,reduceCtorEq,Nat.reduceEqDiff,Nat.reduceAdd,Nat.beq]
theorem ahL {l:List Nat} (hb:∀ c∈l,c<256) (hl:l.length≤1000000):uP env 71 (.box [.list 1 (l.map eY)]) []=some ([(.list 2 ((iP l).2.1.map aW),true),(.int .i64 ((iP l).1:Int),false)],some [.list 1 ((iP l).2.2.map eY)]):=by
 have e1:=ahJ (gf:=73) (fun {l} h1 h2=>ahI h1 h2) hb hl
 rw [jW ag7 rfl]
 simp only [Yv,aG,Nat.reduceBEq,Nat.reduceLeDiff,Nat.reduceAdd,List.length_cons,List.length_nil]
 simp only [e1,ak,Nat.reduceMul,Nat.reduceBEq,Nat.reduceLT,Nat.reduceLeDiff,reduceCtorEq,Nat.reduceEqDiff,Nat.reduceAdd,Nat.beq]
theorem MG:∀ (k:Nat) (l:List Nat) (acc:List bD),(ug k l acc).2.2.length≤l.length∧(ug k l acc).2.1.length≤acc.length+k
 |0,l,acc=>⟨Nat.le_refl _,Nat.le_refl _⟩
 |k+1,l,acc=>by
  have h1:=Gq l
  unfold ug
  split
  ·have:=MG k (eF l).2.2 (acc++[(eF l).2.1])
   rw [List.length_append] at this
   simp only [List.length_cons,List.length_nil] at this
   omega
  ·simp only;omega
theorem ZJ (l:List Nat):(iP l).2.2.length≤l.length∧(iP l).2.1.length≤65536:=by
 unfold iP ZI
 have h2:=jr l
 split
 ·rename_i h
  have h1:=MG (dA l).2.1 (dD l) []
  have h3:=(Gs h).2
  simp only [List.length_nil] at h1
  refine ⟨by simp only;omega,?_⟩
  simp only
  split
  ·omega
  ·simp
 ·exact ⟨h2,by simp⟩
theorem ahM {l:List Nat} (hb:∀ c∈l,c<256) (hl:l.length≤1000000):cal env 70 [.list 1 (l.map eY),.func 71 []]=some [(.list 2 ((if (iP l).1=0 then (iP l).2.1 else []).map aW),true),(.list 1 ((if (iP l).1=0 then (iP l).2.2 else []).map eY),true),(.int .i64 ((iP l).1:Int),false)]:=by
 have e1:=ahL hb hl
 have e2:=Rf (es:=(iP l).2.2.map eY) (by have:=(ZJ l).1;rw [List.length_map];unfold lim;omega)
 by_cases c:(iP l).1=0
 ·rw [if_pos c,if_pos c]
  rw [c] at e1 ⊢
  have G1:(((0:Nat):Int) != 0)=false:=rfl
  rw [ah adD rfl];simp only [UN,aG,Nat.reduceBEq,Nat.reduceLeDiff,Nat.reduceAdd,List.length_cons,List.length_nil]
  simp only [e1,e2,G1,List.length_map,ak,Nat.reduceMul,Nat.reduceBEq,Nat.reduceLT,Nat.reduceLeDiff,reduceCtorEq,Nat.reduceEqDiff,Nat.reduceAdd,Nat.beq]
  rfl
 ·have G1:(((iP l).1:Int) != 0)=true:=by simp [c]
  rw [if_neg c,if_neg c,List.map_nil,List.map_nil]
  rw [ah adD rfl];simp only [UN,aG,Nat.reduceBEq,Nat.reduceLeDiff,Nat.reduceAdd,List.length_cons,List.length_nil]
  simp only [e1,G1,List.length_map,ak,Nat.reduceMul,Nat.reduceBEq,Nat.reduceLT,Nat.reduceLeDiff,reduceCtorEq,Nat.reduceEqDiff,Nat.reduceAdd,Nat.beq]
theorem ahN {l:List Nat} (hb:∀ c∈l,c<256) (hl:l.length≤1000000):cal env 47 [.list 1 (l.map eY)]=some [(.list 2 ((if (iP l).1=0 then (iP l).2.1 else []).map aW),true),(.list 1 ((if (iP l).1=0 then (iP l).2.2 else []).map eY),true),(.int .i64 ((iP l).1:Int),false)]:=by
 have e1:=ahM hb hl
 rw [ah agV rfl];simp only [Yk,aG,Nat.reduceBEq,Nat.reduceLeDiff,Nat.reduceAdd,List.length_cons,List.length_nil]
 simp only [e1,ak,Nat.reduceMul,Nat.reduceBEq,Nat.reduceLT,Nat.reduceLeDiff,reduceCtorEq,Nat.reduceEqDiff,Nat.reduceAdd,Nat.beq]
end Go.Proofs.YtdahanchdjadiaaDoor.V

namespace Go.Proofs.YtdahanchdjadiaaDoor.V
theorem DV {α:Type} {l:List α} {i:Nat} (h:i<l.length):l.take (i+1)=l.take i++[l[i]]:=by rw [List.take_succ_eq_append_getElem h]
def okE (x:bD):Prop:=(-9223372036854775808≤x.start∧x.start≤9223372036854775807)∧(-9223372036854775808≤x.count∧x.count≤9223372036854775807)
def Jg (l:List bD):Prop:=∀ x∈l,okE x
def tX (e:bD):Int:=max e.start 0
def VQ (e:bD):Int:=if e.start<0∨e.count<4096 - e.start then min (e.start+e.count) 4096 else 4096
def wX (e:bD):Int × Int × Bool:=if e.count≤0 then (0,0,false) else (tX e,VQ e,decide (tX e<VQ e))
def rH (e:bD) (s:Nat):Bool:=decide (0<e.count)&&(decide (e.start≤(s:Int))&&decide ((s:Int)<e.start+e.count))
def tK (l:List bD) (s:Nat):Bool:=l.any fun e=>rH e s
theorem Jh {e:bD} (h:(wX e).2.2=true):∃ n m:Nat,wX e=((n:Int),(m:Int),true)∧n<m∧m≤4096∧∀ s:Nat,s<4096→(rH e s=true ↔ n≤s∧s<m):=by
 unfold wX at h ⊢
 by_cases c:e.count≤0
 ·rw [if_pos c] at h;cases h
 ·rw [if_neg c] at h ⊢
  have h2:tX e<VQ e:=by simpa using h
  have h3:0≤tX e:=by unfold tX;omega
  have h4:VQ e≤4096:=by unfold VQ;split<;>omega
  refine ⟨(tX e).toNat,(VQ e).toNat,?_,by omega,by omega,fun s hs=>?_⟩
  ·rw [Int.toNat_of_nonneg h3,Int.toNat_of_nonneg (by omega),decide_eq_true h2]
  ·unfold rH
   simp only [Bool.and_eq_true,decide_eq_true_eq]
   have e1:(tX e).toNat≤s ↔ tX e≤(s:Int):=by omega
   have e2:s<(VQ e).toNat ↔ (s:Int)<VQ e:=by omega
   rw [e1,e2]
   unfold tX VQ
   split<;>omega
theorem ZK {e:bD} (h:(wX e).2.2=false) {s:Nat} (hs:s<4096):rH e s=false:=by
 unfold wX at h
 by_cases c:e.count≤0
 ·unfold rH
  rw [decide_eq_false (by omega),Bool.false_and]
 ·rw [if_neg c] at h
  have h2:¬ tX e<VQ e:=by simpa using h
  unfold rH
  cases hq:(decide (0<e.count)&&(decide (e.start≤(s:Int))&&decide ((s:Int)<e.start+e.count))) with
  |false=>rfl
  |true =>
   exfalso
   simp only [Bool.and_eq_true,decide_eq_true_eq] at hq
   apply h2
   unfold tX VQ
   split<;>omega
theorem ahP {e:bD} (ho:okE e):cal env 87 [aW e]=some [(.int .i64 (wX e).1,false),(.int .i64 (wX e).2.1,false),(.bool (wX e).2.2,false)]:=by
 obtain ⟨⟨o1,o2⟩,o3,o4⟩:=ho
 unfold wX
 simp only [aW]
 by_cases c:e.count≤0
 ·rw [if_pos c]
  rw [ah QJ rfl];simp only [LK,aG,Nat.reduceBEq,Nat.reduceLeDiff,Nat.reduceAdd,List.length_cons,List.length_nil]
  simp only [c,ak,Nat.reduceMul,Nat.reduceBEq,Nat.reduceLT,Nat.reduceLeDiff,reduceCtorEq,Nat.reduceEqDiff,Nat.reduceAdd,Nat.beq]
 ·rw [if_neg c]
  unfold tX VQ
  have hmin:min (e.start+e.count) 4096=if 4096<e.start+e.count then 4096 else e.start+e.count:=by split<;>omega
  by_cases c1:e.start<0
  ·have hmax:max e.start 0=0:=by omega
   rw [hmin,hmax]
   have W1:IntKind.i64.wrap (e.start+e.count)=e.start+e.count:=ay (by omega)
   rw [if_pos (.inl c1)]
   rw [ah QJ rfl];simp only [LK,aG,Nat.reduceBEq,Nat.reduceLeDiff,Nat.reduceAdd,List.length_cons,List.length_nil]
   simp only [c,c1,W1,ak,Nat.reduceMul,Nat.reduceBEq,Nat.reduceLT,Nat.reduceLeDiff,reduceCtorEq,Nat.reduceEqDiff,Nat.reduceAdd,Nat.beq]
  ·have hmax:max e.start 0=e.start:=by omega
   rw [hmin,hmax]
   have W2:IntKind.i64.wrap (4096 - e.start)=4096 - e.start:=ay (by omega)
   by_cases c2:e.count<4096 - e.start
   ·have W1:IntKind.i64.wrap (e.start+e.count)=e.start+e.count:=ay (by omega)
    rw [if_pos (.inr c2)]
    rw [ah QJ rfl];simp only [LK,aG,Nat.reduceBEq,Nat.reduceLeDiff,Nat.reduceAdd,List.length_cons,List.length_nil]
    simp only [c,c1,c2,W1,W2,ak,Nat.reduceMul,Nat.reduceBEq,Nat.reduceLT,Nat.reduceLeDiff,reduceCtorEq,Nat.reduceEqDiff,Nat.reduceAdd,Nat.beq]
   ·rw [if_neg (by omega)]
    rw [ah QJ rfl];simp only [LK,aG,Nat.reduceBEq,Nat.reduceLeDiff,Nat.reduceAdd,List.length_cons,List.length_nil]
    simp only [c,c1,c2,W2,ak,Nat.reduceMul,Nat.reduceBEq,Nat.reduceLT,Nat.reduceLeDiff,reduceCtorEq,Nat.reduceEqDiff,Nat.reduceAdd,Nat.beq]
def eU (i:Nat) (l:List bD):List End:=l.flatMap fun e=>if (wX e).2.2 then [⟨(wX e).1.toNat,i,1⟩,⟨(wX e).2.1.toNat,i,-1⟩] else []
theorem DW (i:Nat) (l:List bD) (e:bD):eU i (l++[e])=eU i l++(if (wX e).2.2 then [⟨(wX e).1.toNat,i,1⟩,⟨(wX e).2.1.toNat,i,-1⟩] else []):=by simp [eU]
theorem zW (i:Nat):∀ l:List bD,(eU i l).length≤2 * l.length
 |[]=>Nat.le_refl _
 |e :: l=>by
  have:=zW i l
  have h:eU i (e :: l)=(if (wX e).2.2 then [⟨(wX e).1.toNat,i,1⟩,⟨(wX e).2.1.toNat,i,-1⟩] else [])++eU i l:=by simp [eU]
  rw [h,List.length_append,List.length_cons]
  split<;>simp<;>omega
def bZ:Nat→List (List bD)→List End
 |_,[]=>[]
 |i,l :: ls=>eU i l++bZ (i+1) ls
theorem yX:∀ (ls:List (List bD)) (i:Nat) (l:List bD),bZ i (ls++[l])=bZ i ls++eU (i+ls.length) l
 |[],i,l=>by simp [bZ]
 |m :: ls,i,l=>by
  simp only [List.cons_append,bZ,yX ls (i+1) l,List.length_cons,List.append_assoc]
  rw [show i+1+ls.length=i+(ls.length+1) by omega]
theorem qy {n:Nat}:∀ (ls:List (List bD)) (i:Nat),(∀ l∈ls,l.length≤n)→(bZ i ls).length≤2 * n * ls.length
 |[],i,_=>Nat.zero_le _
 |l :: ls,i,h=>by
  have h1:=qy ls (i+1) fun x hx=>h x (by simp [hx])
  have h2:=zW i l
  have h3:=h l (by simp)
  simp only [bZ,List.length_append,List.length_cons]
  rw [Nat.mul_add]
  omega
set_option maxRecDepth 20000 in
theorem afi {D:PV} {l:List bD} {pre:List End} {v n:Nat} {q17:AV} (hq:q17=.pv (.list 2 (l.map aW))) (ho:Jg l) (hl:l.length≤100000) (hpre:pre.length≤10000000) {st:St} (h:st.head [0,3,4,5,11,12,13,17,18,19,20,39] st.boxes.length=some ⟨sl 45 [(0,.pv D),(3,.row 3 ((pre++eU v (l.take ((0:Nat)))).map iO)),(4,.pv (.int .i64 v)),(5,.pv (.list 2 (l.map aW))),(11,.pv D),(12,.pv (.int .i64 n)),(13,.pv (.int .i64 v)),(17,.pv (.list 2 (l.map aW))),(18,.pv (.list 2 (l.map aW))),(19,.pv (.int .i64 l.length)),(20,.pv (.int .i64 (0:Nat))),(39,.any)],[],[],none⟩) :
  den env I4 st=some (.normal,⟨sl 45 [(0,.pv D),(2,.any),(3,.row 3 ((pre++eU v l).map iO)),(11,.pv D),(12,.pv (.int .i64 n)),(13,.pv (.int .i64 v)),(39,.any)],[],[],none⟩):=by
 unfold I4
 refine dw (env:=env) (l.length) (fun i=>⟨sl 45 [(0,.pv D),(3,.row 3 ((pre++eU v (l.take (i))).map iO)),(4,.pv (.int .i64 v)),(5,.pv (.list 2 (l.map aW))),(11,.pv D),(12,.pv (.int .i64 n)),(13,.pv (.int .i64 v)),(17,.pv (.list 2 (l.map aW))),(18,.pv (.list 2 (l.map aW))),(19,.pv (.int .i64 l.length)),(20,.pv (.int .i64 i)),(39,.any)],[],[],none⟩) (fun i=>some (.normal,⟨sl 45 [(0,.pv D),(2,.any),(3,.row 3 ((pre++eU v l).map iO)),(11,.pv D),(12,.pv (.int .i64 n)),(13,.pv (.int .i64 v)),(39,.any)],[],[],none⟩)) h (fun _=>rfl) (fun _=>by simp only [aG,bY,Nat.reduceMul,Nat.reduceBEq,Nat.reduceLT,Nat.reduceLeDiff,Nat.reduceAdd,decide_true,Bool.and_self,Bool.true_and]) ?_ ?_
 ·intro i rb hi ih
  have hlim:lim=1073741824:=rfl
  have hi1:=dN hi (by omega)
  have F1:((i:Int)<(l.length:Int))=True:=eq_true (by omega)
  have hx:l[i]?=some l[i]:=List.getElem?_eq_getElem hi
  have ht:=DV hi
  have hox:=ho _ (List.getElem_mem hi)
  generalize l[i]=x at *
  have e1:=ahP hox
  have hrl:=zW v (l.take i)
  rw [List.length_take] at hrl
  have P2:part [PV.int .i64 x.start,.int .i64 x.count] 0 (some 2)=some (.agg [.int .i64 x.start,.int .i64 x.count]):=rfl
  simp only [aW] at e1
  cases hw:(wX x).2.2 with
  |false =>
   rw [hw] at e1
   have hs:eU v (l.take (i+1))=eU v (l.take i):=by rw [ht,DW,hw];simp
   simp only [BP,F1,hx,e1,aW,P2,aj hi,List.getElem?_map,Option.map_some,List.length_map,List.length_cons,List.length_nil,ak,Nat.reduceMul,Nat.reduceBEq,Nat.reduceLT,Nat.reduceLeDiff,reduceCtorEq,Nat.reduceEqDiff,Nat.reduceAdd,Nat.beq]
   rw [ih _ (by simp only [hi1,hs,ak,Nat.reduceMul,Nat.reduceBEq,Nat.reduceLT,Nat.reduceLeDiff,reduceCtorEq,Nat.reduceEqDiff,Nat.reduceAdd,Nat.beq]<;>rfl)]
  |true =>
   obtain ⟨a,b,hab,-,-,-⟩:=Jh hw
   have hs:eU v (l.take (i+1))=eU v (l.take i)++[⟨a,v,1⟩,⟨b,v,-1⟩]:=by rw [ht,DW,hab];simp
   rw [hab] at e1
   have F2:((pre++eU v (l.take i)).length+1+1≤lim)=True:=eq_true (by rw [List.length_append];omega)
   have F3:((pre++eU v (l.take i)).length+2≤lim)=True:=eq_true (by rw [List.length_append];omega)
   simp only [BP,F1,F2,F3,hx,e1,aW,P2,aj hi,List.getElem?_map,Option.map_some,List.length_map,List.length_cons,List.length_nil,ak,Nat.reduceMul,Nat.reduceBEq,Nat.reduceLT,Nat.reduceLeDiff,reduceCtorEq,Nat.reduceEqDiff,Nat.reduceAdd,Nat.beq]
   rw [ih _ (by simp only [hi1,hs,← List.append_assoc,List.map_append,List.map_cons,List.map_nil,iO,ak,Nat.reduceMul,Nat.reduceBEq,Nat.reduceLT,Nat.reduceLeDiff,reduceCtorEq,Nat.reduceEqDiff,Nat.reduceAdd,Nat.beq]<;>rfl)]
 ·intro rb
  simp only [BP,Int.lt_irrefl,List.length_map,List.take_length,ak,Nat.reduceMul,Nat.reduceBEq,Nat.reduceLT,Nat.reduceLeDiff,reduceCtorEq,Nat.reduceEqDiff,Nat.reduceAdd,Nat.beq]
set_option maxRecDepth 20000 in
theorem ZL {ls:List (List bD)} (ho:∀ l∈ls,Jg l) (hr:∀ l∈ls,l.length≤100000) (hl:ls.length≤10) {st:St} (h:st.head [0,3,11,12,13,39] st.boxes.length=some ⟨sl 45 [(0,.pv (.list 1 (ls.map xX))),(3,.row 3 ((bZ 0 (ls.take ((0:Nat)))).map iO)),(11,.pv (.list 1 (ls.map xX))),(12,.pv (.int .i64 ls.length)),(13,.pv (.int .i64 (0:Nat))),(39,.any)],[],[],none⟩) :
  den env I7 st=some (.normal,⟨sl 45 [(2,.any),(3,.row 3 ((bZ 0 ls).map iO))],[],[],none⟩):=by
 unfold I7
 refine dw (env:=env) (ls.length) (fun i=>⟨sl 45 [(0,.pv (.list 1 (ls.map xX))),(3,.row 3 ((bZ 0 (ls.take (i))).map iO)),(11,.pv (.list 1 (ls.map xX))),(12,.pv (.int .i64 ls.length)),(13,.pv (.int .i64 i)),(39,.any)],[],[],none⟩) (fun i=>some (.normal,⟨sl 45 [(2,.any),(3,.row 3 ((bZ 0 ls).map iO))],[],[],none⟩)) h (fun _=>rfl) (fun _=>by simp only [aG,bY,Nat.reduceMul,Nat.reduceBEq,Nat.reduceLT,Nat.reduceLeDiff,Nat.reduceAdd,decide_true,Bool.and_self,Bool.true_and]) ?_ ?_
 ·intro i rb hi ih
  have hlim:lim=1073741824:=rfl
  have hi1:=dN hi (by omega)
  have F1:((i:Int)<(ls.length:Int))=True:=eq_true (by omega)
  have hx:ls[i]?=some ls[i]:=List.getElem?_eq_getElem hi
  have ht:=DV hi
  have hox:=ho _ (List.getElem_mem hi)
  have hrx:=hr _ (List.getElem_mem hi)
  have hli:(ls.take i).length=i:=by rw [List.length_take];omega
  have hp:=qy (n:=100000) (ls.take i) 0 fun l hl=>hr l (List.mem_of_mem_take hl)
  rw [hli] at hp
  generalize ls[i]=l at *
  have hs:bZ 0 (ls.take (i+1))=bZ 0 (ls.take i)++eU i l:=by rw [ht,yX,hli,Nat.zero_add]
  have hr0:eU i ([]:List bD)=[]:=rfl
  simp only [I5,F1,hx,xX,aj hi,List.getElem?_map,Option.map_some,List.length_map,ak,Nat.reduceMul,Nat.reduceBEq,Nat.reduceLT,Nat.reduceLeDiff,reduceCtorEq,Nat.reduceEqDiff,Nat.reduceAdd,Nat.beq]
  rw [afi (l:=l) (pre:=bZ 0 (ls.take i)) (v:=i) (q17:=.pv (.list 2 (l.map aW))) rfl hox hrx (by omega)]
  rotate_left
  ·simp only [qp,hr0,List.append_nil,xX,ak,Nat.reduceMul,Nat.reduceBEq,Nat.reduceLT,Nat.reduceLeDiff,reduceCtorEq,Nat.reduceEqDiff,Nat.reduceAdd,Nat.beq]<;>rfl
  simp only [ak,Nat.reduceMul,Nat.reduceBEq,Nat.reduceLT,Nat.reduceLeDiff,reduceCtorEq,Nat.reduceEqDiff,Nat.reduceAdd,Nat.beq]
  rw [ih _ (by simp only [hi1,hs,xX,ak,Nat.reduceMul,Nat.reduceBEq,Nat.reduceLT,Nat.reduceLeDiff,reduceCtorEq,Nat.reduceEqDiff,Nat.reduceAdd,Nat.beq]<;>rfl)]
 ·intro rb
  simp only [I5,Int.lt_irrefl,List.length_map,List.take_length,ak,Nat.reduceMul,Nat.reduceBEq,Nat.reduceLT,Nat.reduceLeDiff,reduceCtorEq,Nat.reduceEqDiff,Nat.reduceAdd,Nat.beq]
def lu (ls:List (List bD)):List End:=qw (bZ 0 ls)
theorem ahQ {ls:List (List bD)} (ho:∀ l∈ls,Jg l) (hr:∀ l∈ls,l.length≤10000) (hl:ls.length≤2) (hsl:(lu ls).length=(bZ 0 ls).length):cal env 86 [.list 1 (ls.map xX)]=some [(.list 3 ((lu ls).map iO),true)]:=by
 have hp:=qy (n:=10000) ls 0 hr
 have hp2:(bZ 0 ls).length≤1000000:=by
  have:2 * 10000 * ls.length≤2 * 10000 * 2:=Nat.mul_le_mul_left _ hl
  omega
 have h1:=ED (g:=89) (l:=bZ 0 ls) hp2
 have h2:((qw (bZ 0 ls)).map iO).length=((bZ 0 ls).map iO).length:=by
  rw [List.length_map,List.length_map];exact hsl
 unfold lu
 have hcond:(0=0∧(bZ 0 ls).length=((bZ 0 ls).map iO).length∧((qw (bZ 0 ls)).map iO).length=((bZ 0 ls).map iO).length)=True:=eq_true ⟨rfl,by simp,h2⟩
 rw [ah ahk rfl];simp only [YG,aG,Nat.reduceBEq,Nat.reduceLeDiff,Nat.reduceAdd,List.length_cons,List.length_nil]
 simp only [List.length_map,adF,h1,hsl,ak,Nat.reduceMul,Nat.reduceBEq,Nat.reduceLT,Nat.reduceLeDiff,reduceCtorEq,Nat.reduceEqDiff,Nat.reduceAdd,Nat.beq]
 rw [ZL ho (fun l h=>by have:=hr l h;omega) (by omega) (by simp only [qp,bZ,List.map_nil,ak,Nat.reduceMul,Nat.reduceBEq,Nat.reduceLT,Nat.reduceLeDiff,reduceCtorEq,Nat.reduceEqDiff,Nat.reduceAdd,Nat.beq]<;>rfl)]
 simp only [h2,List.length_map,adF,h1,hsl,ak,Nat.reduceMul,Nat.reduceBEq,Nat.reduceLT,Nat.reduceLeDiff,reduceCtorEq,Nat.reduceEqDiff,Nat.reduceAdd,Nat.beq]
 rw [← hsl]
 unfold lu
 rw [yL]
end Go.Proofs.YtdahanchdjadiaaDoor.V

namespace Go.Proofs
open Go.Shelf
def Tryd.sortEnd_ren:Go.Shelf.Ren:=⟨fun|6=>88|15=>92|14=>91|28=>102|29=>103|20=>94|21=>95|22=>96|23=>97|24=>98|25=>99|26=>100|27=>101|46=>104|47=>105|48=>106|49=>107|50=>108|57=>109|n=>n,fun|22=>131|24=>135|25=>141|3=>3|39=>120|0=>0|53=>153|55=>90|4=>4|46=>146|45=>145|50=>150|5=>5|9=>9|66=>154|70=>158|76=>160|77=>161|n=>n,fun|n=>n⟩
theorem Tryd.sortEnd:Go.Proofs.SlLaysF0.n6 Tryd.prog Tryd.sortEnd_ren:={
 mixed:=by kernel_rfl
 f6:=⟨Tryd.f88.name,by decide,Tryd.func88.trans (congrArg some (by kernel_rfl))⟩
 f14:=⟨Tryd.f91.name,by decide,Tryd.func91.trans (congrArg some (by kernel_rfl))⟩
 f15:=Tryd.func92.trans (congrArg some (by kernel_rfl))
 f20:=⟨Tryd.f94.name,by decide,Tryd.func94.trans (congrArg some (by kernel_rfl))⟩
 f21:=⟨Tryd.f95.name,by decide,Tryd.func95.trans (congrArg some (by kernel_rfl))⟩
 f22:=⟨Tryd.f96.name,by decide,Tryd.func96.trans (congrArg some (by kernel_rfl))⟩
 f23:=⟨Tryd.f97.name,by decide,Tryd.func97.trans (congrArg some (by kernel_rfl))⟩
 f24:=⟨Tryd.f98.name,by decide,Tryd.func98.trans (congrArg some (by kernel_rfl))⟩
 f25:=⟨Tryd.f99.name,by decide,Tryd.func99.trans (congrArg some (by kernel_rfl))⟩
 f26:=⟨Tryd.f100.name,by decide,Tryd.func100.trans (congrArg some (by kernel_rfl))⟩
 f27:=⟨Tryd.f101.name,by decide,Tryd.func101.trans (congrArg some (by kernel_rfl))⟩
 f28:=Tryd.func102.trans (congrArg some (by kernel_rfl))
 f29:=Tryd.func103.trans (congrArg some (by kernel_rfl))
 f46:=⟨Tryd.f104.name,by decide,Tryd.func104.trans (congrArg some (by kernel_rfl))⟩
 f47:=Tryd.func105.trans (congrArg some (by kernel_rfl))
 f48:=Tryd.func106.trans (congrArg some (by kernel_rfl))
 f49:=⟨Tryd.f107.name,by decide,Tryd.func107.trans (congrArg some (by kernel_rfl))⟩
 f50:=⟨Tryd.f108.name,by decide,Tryd.func108.trans (congrArg some (by kernel_rfl))⟩
 f57:=⟨Tryd.f109.name,by decide,Tryd.func109.trans (congrArg some (by kernel_rfl))⟩
 t0:=Tryd.underlying0
 a0:=Tryd.isAgg0
 z0:=Tryd.sizeOf0
 v0:=Tryd.zeroValue0
 t3:=Tryd.underlying3
 a3:=Tryd.isAgg3
 z3:=Tryd.sizeOf3
 v3:=Tryd.zeroValue3
 t4:=Tryd.underlying4
 a4:=Tryd.isAgg4
 z4:=Tryd.sizeOf4
 v4:=Tryd.zeroValue4
 t5:=Tryd.underlying5
 a5:=Tryd.isAgg5
 z5:=Tryd.sizeOf5
 v5:=Tryd.zeroValue5
 t9:=Tryd.underlying9
 a9:=Tryd.isAgg9
 z9:=Tryd.sizeOf9
 v9:=Tryd.zeroValue9
 t22:=Tryd.underlying131
 a22:=Tryd.isAgg131
 z22:=Tryd.sizeOf131
 v22:=Tryd.zeroValue131
 t25:=Tryd.underlying141
 a25:=Tryd.isAgg141
 z25:=Tryd.sizeOf141
 v25:=Tryd.zeroValue141
 t39:=Tryd.underlying120
 a39:=Tryd.isAgg120
 z39:=Tryd.sizeOf120
 v39:=Tryd.zeroValue120
 t45:=Tryd.underlying145
 a45:=Tryd.isAgg145
 z45:=Tryd.sizeOf145
 v45:=Tryd.zeroValue145
 t46:=Tryd.underlying146
 a46:=Tryd.isAgg146
 z46:=Tryd.sizeOf146
 v46:=Tryd.zeroValue146
 t50:=Tryd.underlying150
 a50:=Tryd.isAgg150
 z50:=Tryd.sizeOf150
 v50:=Tryd.zeroValue150
 t53:=Tryd.underlying153
 a53:=Tryd.isAgg153
 z53:=Tryd.sizeOf153
 v53:=Tryd.zeroValue153
 t55:=Tryd.underlying90
 a55:=Tryd.isAgg90
 z55:=Tryd.sizeOf90
 v55:=Tryd.zeroValue90
 t66:=Tryd.underlying154
 a66:=Tryd.isAgg154
 z66:=Tryd.sizeOf154
 v66:=Tryd.zeroValue154
 t70:=Tryd.underlying158
 a70:=Tryd.isAgg158
 z70:=Tryd.sizeOf158
 v70:=Tryd.zeroValue158
 t76:=Tryd.underlying160
 a76:=Tryd.isAgg160
 z76:=Tryd.sizeOf160
 v76:=Tryd.zeroValue160
 t77:=Tryd.underlying161
 a77:=Tryd.isAgg161
 z77:=Tryd.sizeOf161
 v77:=Tryd.zeroValue161 }
def Tryd.cmpInt_ren:Go.Shelf.Ren:=⟨fun|5=>90|7=>93|n=>n,fun|22=>3|3=>3|4=>4|n=>n,fun|n=>n⟩
theorem Tryd.cmpInt:Go.Proofs.SlLaysC2.n5 Tryd.prog Tryd.cmpInt_ren:={
 mixed:=by kernel_rfl
 f5:=⟨Tryd.f90.name,by decide,Tryd.func90.trans (congrArg some (by kernel_rfl))⟩
 f7:=⟨Tryd.f93.name,by decide,Tryd.func93.trans (congrArg some (by kernel_rfl))⟩
 t3:=Tryd.underlying3
 a3:=Tryd.isAgg3
 z3:=Tryd.sizeOf3
 v3:=Tryd.zeroValue3
 t4:=Tryd.underlying4
 a4:=Tryd.isAgg4
 z4:=Tryd.sizeOf4
 v4:=Tryd.zeroValue4
 t22:=Tryd.underlying3
 a22:=Tryd.isAgg3
 z22:=Tryd.sizeOf3
 v22:=Tryd.zeroValue3 }
end Go.Proofs
