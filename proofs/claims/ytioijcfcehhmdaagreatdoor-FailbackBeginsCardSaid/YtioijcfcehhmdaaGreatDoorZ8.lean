/-
  Part 8 of the texts that the statement stands on.
-/
import Derived.Test.YtioijcfcehhmdaaGreatDoorZ7
import Derived.Lib.TrailingZeros
set_option linter.all false
namespace Go.Proofs.YtioijcfcehhmdaaGreatDoor.V
def addAt (out:List Exn) (i:Nat):List Exn:=match out.getLast? with
 |some x=>if x.start+x.count=(i:Int) then out.dropLast++[⟨x.start,x.count+1⟩] else out++[⟨i,1⟩]
 |none=>[⟨i,1⟩]
def exts (l:List Nat):List Exn:=l.foldl addAt []
theorem addAt_snoc (pre:List Exn) (x:Exn) (i:Nat):addAt (pre++[x]) i=if x.start+x.count=(i:Int) then pre++[⟨x.start,x.count+1⟩] else pre++[x]++[⟨i,1⟩]:=by
 simp [addAt]
theorem exts_snoc (l:List Nat) (i:Nat):exts (l++[i])=addAt (exts l) i:=by simp [exts]
theorem snoc_cases {α:Type} (l:List α):l=[]∨∃ p x,l=p++[x]:=by
 rcases List.eq_nil_or_concat l with h|⟨p,x,h⟩
 ·exact .inl h
 ·exact .inr ⟨p,x,by rw [h];simp⟩
theorem exts_last:∀ (n:Nat) (l:List Nat),l.length=n→∀ i:Nat,∃ pre x,exts (l++[i])=pre++[x]∧x.start+x.count=(i:Int)+1∧0≤x.start∧1≤x.count∧pre.length≤l.length:=by
 intro n
 induction n with
 |zero =>
  intro l hl i
  have:=List.eq_nil_of_length_eq_zero hl
  subst this
  exact ⟨[],⟨i,1⟩,rfl,rfl,by simp,by simp,by simp⟩
 |succ n ih =>
  intro l hl i
  rcases snoc_cases l with rfl|⟨p,j,rfl⟩
  ·simp at hl
  ·obtain ⟨pre,x,e,h1,h2,h3,h4⟩:=ih p (by simpa using hl) j
   rw [exts_snoc,e,addAt_snoc]
   split
   ·rename_i hx
    exact ⟨pre,_,rfl,by simp;omega,h2,by simp;omega,by simp;omega⟩
   ·exact ⟨pre++[x],_,rfl,by simp,by simp,by simp,by simp;omega⟩
theorem wrap_pred {n:Nat} (h:n≤lim):IntKind.i64.wrap (((n+1:Nat):Int) - 1)=(n:Int):=by
 rw [i64_fits (by unfold lim at h;omega)];omega
def yI (l:List Nat):List (List PV):=l.map fun (i:Nat)=>[PV.int .i64 (i:Int)]
end Go.Proofs.YtioijcfcehhmdaaGreatDoor.V

namespace Go.Proofs.YtioijcfcehhmdaaGreatDoor.V
def ext (p:Nat→Bool) (n:Nat):List Exn:=exts ((List.range n).filter p)
theorem ext_succ (p:Nat→Bool) (n:Nat):ext p (n+1)=if p n then addAt (ext p n) n else ext p n:=by
 unfold ext
 rw [List.range_succ,List.filter_append]
 cases h:p n
 ·simp [h]
 ·rw [List.filter_cons_of_pos h,List.filter_nil,exts_snoc];rfl
def dep (i:Nat) (s:Nat):List End→Int
 |[]=>0
 |x :: l=>(if x.list=i∧x.pos≤s then x.step else 0)+dep i s l
def Asc:List End→Prop
 |[]=>True
 |[_]=>True
 |x :: y :: l=>x.pos≤y.pos∧Asc (y :: l)
theorem Asc.tail {x:End} {l:List End} (h:Asc (x :: l)):Asc l:=by
 cases l with
 |nil=>trivial
 |cons y l=>exact h.2
def atStart (N:Nat):List End→Nat→Prop
 |[],a=>a=N
 |x :: _,a=>a=x.pos
end Go.Proofs.YtioijcfcehhmdaaGreatDoor.V

namespace Go.Proofs.YtioijcfcehhmdaaGreatDoor.V
abbrev Wd:=BitVec 64
structure Bm where
 size:Int
 ws:List Wd
 deriving DecidableEq
def eW (w:Wd):PV:=.int .u64 (w.toNat:Int)
def eBm (b:Bm):PV:=.agg [.int .i64 b.size,.list 1 (b.ws.map eW)]
def bit (ws:List Wd) (i:Nat):Bool:=(ws.getD (i / 64) 0).getLsbD (i % 64)
theorem bit_at {ws:List Wd} {k:Nat} (h:k<ws.length) {j:Nat} (hj:j<64):bit ws (64 * k+j)=ws[k].getLsbD j:=by
 unfold bit
 have e1:(64 * k+j) / 64=k:=by omega
 have e2:(64 * k+j) % 64=j:=by omega
 rw [e1,e2];simp [h]
theorem bit_of {ws:List Wd} {i:Nat} (h:i / 64<ws.length):bit ws i=ws[i / 64].getLsbD (i % 64):=by
 unfold bit;simp [h]
theorem bit_out {ws:List Wd} {i:Nat} (h:64 * ws.length≤i):bit ws i=false:=by
 unfold bit
 have:ws.length≤i / 64:=by omega
 rw [List.getD_eq_getElem?_getD,List.getElem?_eq_none this];simp
theorem w_of (w:Wd):BitVec.ofInt 64 (w.toNat:Int)=w:=by
 apply BitVec.eq_of_toNat_eq
 have:=w.isLt
 rw [BitVec.toNat_ofInt]
 omega
theorem u64_wrap (n:Int):IntKind.u64.wrap n=n % 2 ^ 64:=by
 simp only [IntKind.wrap,IntKind.bits,IntKind.signed,Bool.false_and,Bool.false_eq_true,if_false]
theorem w_wrap (w:Wd):IntKind.u64.wrap (w.toNat:Int)=(w.toNat:Int):=by
 have:=w.isLt
 simp only [IntKind.wrap,IntKind.bits,IntKind.signed,Bool.false_and,Bool.false_eq_true,if_false]
 omega
theorem w_or (a b:Wd):IntKind.u64.wrap ((BitVec.ofInt IntKind.u64.bits (a.toNat:Int) ||| BitVec.ofInt IntKind.u64.bits (b.toNat:Int)).toNat:Int)=((a ||| b).toNat:Int):=by
 show IntKind.u64.wrap ((BitVec.ofInt 64 (a.toNat:Int) ||| BitVec.ofInt 64 (b.toNat:Int)).toNat:Int)=_
 rw [w_of,w_of,w_wrap]
theorem w_and (a b:Wd):IntKind.u64.wrap ((BitVec.ofInt IntKind.u64.bits (a.toNat:Int) &&& BitVec.ofInt IntKind.u64.bits (b.toNat:Int)).toNat:Int)=((a &&& b).toNat:Int):=by
 show IntKind.u64.wrap ((BitVec.ofInt 64 (a.toNat:Int) &&& BitVec.ofInt 64 (b.toNat:Int)).toNat:Int)=_
 rw [w_of,w_of,w_wrap]
theorem w_shr (w:Wd) {s:Int} {n:Nat} (hs:s=(n:Int)):(w.toNat:Int).fdiv (2 ^ (min s.toNat IntKind.u64.bits))=((w >>> n).toNat:Int):=by
 subst hs
 rw [BitVec.toNat_ushiftRight,Nat.shiftRight_eq_div_pow,Int.toNat_natCast]
 have hw:=w.isLt
 show (w.toNat:Int).fdiv (2 ^ (min n 64))=_
 by_cases h:n≤64
 ·have h2:(0:Int)≤2 ^ n:=by have:=Int.natCast_nonneg (2 ^ n);push_cast at this;exact this
  rw [Nat.min_eq_left h,Int.fdiv_eq_ediv_of_nonneg _ h2]
  push_cast
  rfl
 ·rw [Nat.min_eq_right (by omega),Int.fdiv_eq_ediv_of_nonneg _ (by decide)]
  have h1:w.toNat / 2 ^ n=0:=Nat.div_eq_of_lt (Nat.lt_of_lt_of_le hw (Nat.pow_le_pow_right (by decide) (by omega)))
  rw [h1]
  omega
theorem w_shl (w:Wd) {s:Int} {n:Nat} (hs:s=(n:Int)):IntKind.u64.wrap ((w.toNat:Int) * 2 ^ (min s.toNat IntKind.u64.bits))=((w <<< n).toNat:Int):=by
 subst hs
 rw [BitVec.toNat_shiftLeft,Nat.shiftLeft_eq,Int.toNat_natCast]
 have hw:=w.isLt
 rw [u64_wrap]
 show ((w.toNat:Int) * 2 ^ (min n 64)) % 2 ^ 64=_
 by_cases h:n≤64
 ·have e2:((2 ^ n:Nat):Int)=2 ^ n:=by push_cast;rfl
  have e3:((2 ^ 64:Nat):Int)=2 ^ 64:=by decide
  rw [Nat.min_eq_left h,Int.natCast_emod,Int.natCast_mul,e2,e3]
 ·rw [Nat.min_eq_right (by omega)]
  have e:2 ^ n=2 ^ 64 * 2 ^ (n - 64):=by rw [← Nat.pow_add];congr 1;omega
  have:w.toNat * 2 ^ n % 2 ^ 64=0:=by
   rw [e,Nat.mul_left_comm];exact Nat.mul_mod_right _ _
  rw [this]
  exact Int.mul_emod_left _ _
theorem w_sub (a b:Wd):IntKind.u64.wrap ((a.toNat:Int) - (b.toNat:Int))=((a - b).toNat:Int):=by
 have h1:=a.isLt
 have h2:=b.isLt
 simp only [IntKind.wrap,IntKind.bits,IntKind.signed,Bool.false_and,Bool.false_eq_true,if_false]
 rw [BitVec.toNat_sub]
 omega
theorem w_beq (a b:Wd):((a.toNat:Int)==(b.toNat:Int))=decide (a=b):=by
 by_cases h:a=b
 ·subst h;simp
 ·have:a.toNat≠b.toNat:=fun e=>h (BitVec.eq_of_toNat_eq e)
  simp [h];omega
/-! Masks. -/
def maskW (k:Nat) (a b:Int):Wd :=
 if max (a - 64 * (k:Int)) 0 ≥ min (b - 64 * (k:Int)) 64 then 0
 else (BitVec.allOnes 64 >>> (64 - (min (b - 64 * (k:Int)) 64 - max (a - 64 * (k:Int)) 0)).toNat) <<< (max (a - 64 * (k:Int)) 0).toNat
theorem mask_bit (k:Nat) (a b:Int) {j:Nat} (hj:j<64):(maskW k a b).getLsbD j=decide (a≤64 * (k:Int)+j∧64 * (k:Int)+j<b):=by
 unfold maskW
 split
 ·rename_i h
  rw [show (0:Wd).getLsbD j=false by simp]
  symm
  apply decide_eq_false
  omega
 ·rename_i h
  rw [BitVec.getLsbD_shiftLeft,BitVec.getLsbD_ushiftRight,BitVec.getLsbD_allOnes]
  rw [Bool.eq_iff_iff]
  simp only [Bool.and_eq_true,decide_eq_true_eq,Bool.not_eq_true',decide_eq_false_iff_not]
  omega
def bitsOf (w:Wd):List Nat:=(List.range 64).filter fun j=>w.getLsbD j
theorem bits_zero:bitsOf 0=[]:=by
 unfold bitsOf
 rw [List.filter_eq_nil_iff]
 intro j _
 simp
theorem ctz_low {w:Wd} (h:w≠0):Lib.ctz 64 w.toNat<64∧(∀ j,j<Lib.ctz 64 w.toNat→w.getLsbD j=false)∧w.getLsbD (Lib.ctz 64 w.toNat)=true∧∀ j,j<64→(w &&& (w - 1)).getLsbD j=(w.getLsbD j&&decide (j≠Lib.ctz 64 w.toNat)):=by
 have h0:0<w.toNat:=by
  rcases Nat.eq_zero_or_pos w.toNat with e|e
  ·exact absurd (BitVec.eq_of_toNat_eq (by simpa using e)) h
  ·exact e
 have hl:Lib.ctz 64 w.toNat=Lib.ctzFrom 64 w.toNat:=by unfold Lib.ctz;rw [if_neg (by omega)]
 rw [hl]
 obtain ⟨m,h1,h2⟩:=Lib.ctzFrom_spec 64 w.toNat h0 w.isLt
 generalize Lib.ctzFrom 64 w.toNat=c at h1 h2
 have hbit:∀ j,w.getLsbD j=if j<c then false else (2 * m+1).testBit (j - c):=fun j=>by
  rw [← BitVec.testBit_toNat,h1,Nat.testBit_two_pow_mul]
  by_cases hc:j<c
  ·rw [if_pos hc,decide_eq_false (by omega),Bool.false_and]
  ·rw [if_neg hc,decide_eq_true (by omega),Bool.true_and]
 have hsub:(w - 1).toNat=2 ^ c * (2 * m)+(2 ^ c - 1):=by
  have hp:0<2 ^ c:=Nat.pow_pos (by decide)
  rw [BitVec.toNat_sub]
  have:=w.isLt
  have e1:(1:Wd).toNat=1:=rfl
  rw [e1,show 2 ^ 64 - 1+w.toNat=(w.toNat - 1)+2 ^ 64 by omega,Nat.add_mod_right,Nat.mod_eq_of_lt (by omega),h1,Nat.mul_add,Nat.mul_one]
  omega
 have hbit2:∀ j,(w - 1).getLsbD j=if j<c then true else (2 * m).testBit (j - c):=fun j=>by
  rw [← BitVec.testBit_toNat,hsub]
  have hp:2 ^ c - 1<2 ^ c:=by have:0<2 ^ c:=Nat.pow_pos (by decide);omega
  by_cases hc:j<c
  ·rw [if_pos hc,Nat.testBit_two_pow_mul_add _ hp,if_pos hc,Nat.testBit_two_pow_sub_one]
   simp [hc]
  ·rw [if_neg hc,Nat.testBit_two_pow_mul_add _ hp,if_neg hc]
 refine ⟨h2,fun j hj=>by rw [hbit,if_pos hj],by rw [hbit,if_neg (Nat.lt_irrefl _),Nat.sub_self];simp,fun j hj=>?_⟩
 rw [BitVec.getLsbD_and,hbit,hbit2]
 by_cases hc:j<c
 ·simp [hc]
 ·rw [if_neg hc,if_neg hc]
  by_cases he:j=c
  ·subst he;simp
  ·obtain ⟨d,hd⟩:∃ d,j - c=d+1:=⟨j - c - 1,by omega⟩
   rw [hd,Nat.testBit_succ,Nat.testBit_succ,show (2 * m+1) / 2=m by omega,show 2 * m / 2=m by omega]
   simp [he]
theorem filter_first {p q:Nat→Bool} {c n:Nat} (hc:c<n) (hlow:∀ j,j<c→p j=false) (hp:p c=true) (hq:∀ j,j<n→q j=(p j&&decide (j≠c))):(List.range n).filter p=c :: (List.range n).filter q:=by
 have e:List.range n=List.range c++(c :: (List.range (n - c - 1)).map (c+1+·)):=by
  apply List.ext_getElem
  ·simp;omega
  ·intro i h1 h2
   simp only [List.length_range] at h1
   rw [List.getElem_range,List.getElem_append]
   split
   ·simp
   ·rename_i h
    simp only [List.length_range] at h ⊢
    obtain ⟨d,hd⟩:∃ d,i=c+d:=⟨i - c,by omega⟩
    subst hd
    cases d with
    |zero=>simp
    |succ d=>simp [show c+(d+1) - c=d+1 by omega];omega
 have hq':∀ j,j∈List.range n→q j=(p j&&decide (j≠c)):=fun j hj=>hq j (List.mem_range.1 hj)
 rw [List.filter_congr hq',e,List.filter_append,List.filter_append]
 have h1:(List.range c).filter p=[]:=by
  rw [List.filter_eq_nil_iff];intro j hj;rw [hlow j (List.mem_range.1 hj)];simp
 have h2:(List.range c).filter (fun j=>p j&&decide (j≠c))=[]:=by
  rw [List.filter_eq_nil_iff];intro j hj;rw [hlow j (List.mem_range.1 hj)];simp
 rw [h1,h2,List.nil_append,List.nil_append,List.filter_cons_of_pos hp,List.filter_cons_of_neg (by simp)]
 congr 1
 apply List.filter_congr
 intro j hj
 obtain ⟨d,_,rfl⟩:=List.mem_map.1 hj
 simp;omega
theorem bits_cons {w:Wd} (h:w≠0):bitsOf w=Lib.ctz 64 w.toNat :: bitsOf (w &&& (w - 1)):=by
 obtain ⟨h1,h2,h3,h4⟩:=ctz_low h
 exact filter_first h1 h2 h3 h4
def elemsW (ws:List Wd) (a b:Int):List Nat:=(List.range (64 * ws.length)).filter fun (i:Nat)=>bit ws i&&decide (a≤(i:Int)∧(i:Int)<b)
theorem range_add (n m:Nat):List.range (n+m)=List.range n++(List.range m).map (n+·):=List.range_add
theorem elems_take {ws:List Wd} {k:Nat} (h:k<ws.length) (a b:Int):(List.range (64 * (k+1))).filter (fun (i:Nat)=>bit ws i&&decide (a≤(i:Int)∧(i:Int)<b))
  = (List.range (64 * k)).filter (fun (i:Nat)=>bit ws i&&decide (a≤(i:Int)∧(i:Int)<b))++(bitsOf (ws[k] &&& maskW k a b)).map (64 * k+·):=by
 rw [show 64 * (k+1)=64 * k+64 by omega,List.range_add,List.filter_append,List.filter_map]
 congr 2
 unfold bitsOf
 apply List.filter_congr
 intro j hj
 have hj:=List.mem_range.1 hj
 rw [BitVec.getLsbD_and,mask_bit k a b hj]
 show (bit ws (64 * k+j)&&_)=_
 rw [bit_at h hj]
 push_cast
 rfl
def zipB (f:Wd→Wd→Wd) (a b:List Wd):List Wd:=List.zipWith f a b
theorem bit_zip {f:Wd→Wd→Wd} {g:Bool→Bool→Bool} (hf:∀ x y j,j<64→(f x y).getLsbD j=g (x.getLsbD j) (y.getLsbD j)) {a b:List Wd} (hl:a.length=b.length) {i:Nat} (h:i<64 * a.length):bit (zipB f a b) i=g (bit a i) (bit b i):=by
 have hk:i / 64<a.length:=by omega
 have hk1:i / 64<b.length:=by omega
 have hk2:i / 64<(zipB f a b).length:=by simp [zipB];omega
 rw [bit_of hk,bit_of hk1,bit_of hk2]
 simp only [zipB,List.getElem_zipWith]
 rw [hf _ _ _ (Nat.mod_lt _ (by decide))]
/-! Well-formed bitmaps. -/
def wdsN (n:Int):Int:=(n+63) / 64
def okB (b:Bm):Bool:=decide (0≤b.size∧b.size≤4096∧(b.ws.length:Int)=wdsN b.size)&&(List.range (64 * b.ws.length)).all fun (i:Nat)=>decide ((i:Int)<b.size) || !bit b.ws i
theorem okB_iff {b:Bm}:okB b=true ↔ (0≤b.size∧b.size≤4096∧(b.ws.length:Int)=wdsN b.size)∧∀ i:Nat,b.size≤(i:Int)→bit b.ws i=false:=by
 unfold okB
 simp only [Bool.and_eq_true,decide_eq_true_eq,List.all_eq_true,List.mem_range,Bool.or_eq_true,Bool.not_eq_true']
 refine and_congr Iff.rfl ⟨fun h i hi=>?_,fun h i hi=>?_⟩
 ·by_cases c:i<64 * b.ws.length
  ·exact (h i c).resolve_left (by omega)
  ·exact bit_out (by omega)
 ·by_cases c:(i:Int)<b.size
  ·exact .inl c
  ·exact .inr (h i (by omega))
theorem okB_size {b:Bm} (h:okB b=true):0≤b.size∧b.size≤4096∧b.ws.length≤64∧b.size≤64 * (b.ws.length:Int)∧64 * (b.ws.length:Int)<b.size+64:=by
 have:=(okB_iff.1 h).1
 unfold wdsN at this
 omega
theorem rest_iff {b:Bm} (h:0≤b.size∧b.size≤4096∧(b.ws.length:Int)=wdsN b.size):okB b=true ↔ (b.size % 64=0∨∀ (hw:b.ws.length - 1<b.ws.length),b.ws[b.ws.length - 1] >>> (b.size % 64).toNat=0):=by
 rw [okB_iff]
 unfold wdsN at h ⊢
 constructor
 ·rintro ⟨_,h2⟩
  by_cases c:b.size % 64=0
  ·exact .inl c
  ·refine .inr fun hw=>?_
   apply BitVec.eq_of_getLsbD_eq
   intro j hj
   rw [BitVec.getLsbD_ushiftRight]
   by_cases cj:(b.size % 64).toNat+j<64
   ·rw [← bit_at hw cj,h2 _ (by omega)];simp
   ·rw [BitVec.getLsbD_of_ge _ _ (by omega)];simp
 ·intro hr
  refine ⟨by omega,fun i hi=>?_⟩
  by_cases c:i<64 * b.ws.length
  ·have hw:b.ws.length - 1<b.ws.length:=by omega
   have hk:i / 64=b.ws.length - 1:=by omega
   rcases hr with hr|hr
   ·omega
   ·have:=congrArg (fun w:Wd=>w.getLsbD (i % 64 - (b.size % 64).toNat)) (hr hw)
    simp only [BitVec.getLsbD_ushiftRight,BitVec.getLsbD_zero] at this
    rw [show (b.size % 64).toNat+(i % 64 - (b.size % 64).toNat)=i % 64 by omega] at this
    rw [show i=64 * (b.ws.length - 1)+i % 64 by omega,bit_at hw (Nat.mod_lt _ (by decide))]
    simpa using this
  ·exact bit_out (by omega)
def bmExts (b:Bm):List Exn:=ext (bit b.ws) b.size.toNat
def bmE (b:Bm):Int:=if okB b then 0 else 3
theorem elems_ok {b:Bm} (h:okB b=true) (a:Int) (ha:a≤0):elemsW b.ws a b.size=(List.range b.size.toNat).filter (bit b.ws):=by
 unfold elemsW
 obtain ⟨h1,h2,h3,h4,h5⟩:=okB_size h
 rw [show 64 * b.ws.length=b.size.toNat+(64 * b.ws.length - b.size.toNat) by omega,List.range_add,List.filter_append]
 have e:(((List.range (64 * b.ws.length - b.size.toNat)).map (b.size.toNat+·)).filter fun (i:Nat)=>bit b.ws i&&decide (a≤(i:Int)∧(i:Int)<b.size))=[]:=by
  rw [List.filter_eq_nil_iff]
  intro i hi
  obtain ⟨d,_,rfl⟩:=List.mem_map.1 hi
  rw [decide_eq_false (by omega)];simp
 rw [e,List.append_nil]
 apply List.filter_congr
 intro i hi
 have hi:=List.mem_range.1 hi
 rw [decide_eq_true (by omega),Bool.and_true]
end Go.Proofs.YtioijcfcehhmdaaGreatDoor.V

namespace Go.Proofs.YtioijcfcehhmdaaGreatDoor.V
theorem bmE_ok {b:Bm} (h:okB b=true):bmE b=0:=by unfold bmE;rw [if_pos h]
theorem bmE_no {b:Bm} (h:okB b=false):bmE b=3:=by unfold bmE;rw [if_neg (by rw [h];exact Bool.false_ne_true)]
theorem q64 {n:Int} (h:0≤n):(n+64 - 1).tdiv 64=wdsN n:=by
 unfold wdsN;rw [Int.tdiv_eq_ediv_of_nonneg (by omega)];congr 1;omega
theorem q63 {n:Int} (h:0≤n):(n+63).tdiv 64=wdsN n:=by
 unfold wdsN;rw [Int.tdiv_eq_ediv_of_nonneg (by omega)]
theorem z64:((64:Int)=0)=False:=eq_false (by decide)
theorem cal121 {n:Int} (h:0≤n∧n≤4096):cal env 121 [.int .i64 n]=some [(.int .i64 (wdsN n),false)]:=by
 have W1:IntKind.i64.wrap (n+64)=n+64:=i64_fits (by omega)
 have W2:IntKind.i64.wrap (n+64 - 1)=n+64 - 1:=i64_fits (by omega)
 have W3:IntKind.i64.wrap (wdsN n)=wdsN n:=i64_fits (by unfold wdsN;omega)
 rw [cal_code env121 rfl];simp only [fn121];simp only [start,z_map_cons,z_map_nil,z_len_cons,z_len_nil,z_repl_zero,z_repl_succ,z_cons_app,z_nil_app,Nat.reduceAdd,Nat.reduceSub]
 simp only [W1,W2,q64 h.1,W3,z64,memAll,vAll,reduceCtorEq,Nat.reduceEqDiff,Nat.reduceAdd,Nat.reduceLT,Nat.reduceLeDiff,Nat.beq]
theorem cal90 {b:Bm}:cal env 90 [eBm b]=some [(.int .i64 (bmE b),false)]:=by
 unfold eBm
 have P:∀ x y:PV,part [x,y] 0 (some 2)=some (.agg [x,y]):=fun _ _=>rfl
 by_cases c0:b.size<0
 ·have hE:bmE b=3:=bmE_no (by rw [Bool.eq_false_iff];intro h;have:=okB_size h;omega)
  rw [hE]
  rw [cal_code env90 rfl];simp only [fn90];simp only [start,z_map_cons,z_map_nil,z_len_cons,z_len_nil,z_repl_zero,z_repl_succ,z_cons_app,z_nil_app,Nat.reduceAdd,Nat.reduceSub]
  simp only [c0,P,memAll,vAll,reduceCtorEq,Nat.reduceEqDiff,Nat.reduceAdd,Nat.reduceLT,Nat.reduceLeDiff,Nat.beq]
 ·by_cases c1:b.size > 4096
  ·have hE:bmE b=3:=bmE_no (by rw [Bool.eq_false_iff];intro h;have:=okB_size h;omega)
   rw [hE]
   have F1:(b.size > 4096)=True:=eq_true c1
   rw [cal_code env90 rfl];simp only [fn90];simp only [start,z_map_cons,z_map_nil,z_len_cons,z_len_nil,z_repl_zero,z_repl_succ,z_cons_app,z_nil_app,Nat.reduceAdd,Nat.reduceSub]
   simp only [c0,F1,P,memAll,vAll,reduceCtorEq,Nat.reduceEqDiff,Nat.reduceAdd,Nat.reduceLT,Nat.reduceLeDiff,Nat.beq]
  ·have F1:(b.size > 4096)=False:=eq_false c1
   have e1:=cal121 (n:=b.size) (by omega)
   by_cases c2:(b.ws.length:Int)=wdsN b.size
   ·have F2:((b.ws.length:Int) != wdsN b.size)=false:=by simp [c2]
    have hr:=rest_iff (b:=b) ⟨by omega,by omega,c2⟩
    have hw:=c2
    unfold wdsN at hw
    have M:b.size.tmod 64=b.size % 64:=Int.tmod_eq_emod_of_nonneg (by omega)
    by_cases c3:b.size % 64=0
    ·have hE:bmE b=0:=bmE_ok (hr.2 (.inl c3))
     rw [hE]
     have F3:(b.size % 64 > 0)=False:=eq_false (by omega)
     rw [cal_code env90 rfl];simp only [fn90];simp only [start,z_map_cons,z_map_nil,z_len_cons,z_len_nil,z_repl_zero,z_repl_succ,z_cons_app,z_nil_app,Nat.reduceAdd,Nat.reduceSub]
     simp only [c0,F1,F2,F3,M,e1,z64,P,memAll,vAll,reduceCtorEq,Nat.reduceEqDiff,Nat.reduceAdd,Nat.reduceLT,Nat.reduceLeDiff,Nat.beq]
    ·have F3:(b.size % 64 > 0)=True:=eq_true (by omega)
     have hi:b.ws.length - 1<b.ws.length:=by omega
     have W:IntKind.i64.wrap ((b.ws.length:Int) - 1)=((b.ws.length - 1:Nat):Int):=by rw [i64_fits (by omega)];omega
     have S0:(b.size % 64<0)=False:=eq_false (by omega)
     have S:=w_shr b.ws[b.ws.length - 1] (s:=b.size % 64) (n:=(b.size % 64).toNat) (by omega)
     have B:=w_beq (b.ws[b.ws.length - 1] >>> (b.size % 64).toNat) 0
     have B0:((0:Wd).toNat:Int)=0:=rfl
     rw [B0] at B
     have B':(((b.ws[b.ws.length - 1] >>> (b.size % 64).toNat).toNat:Int) != 0)=!decide (b.ws[b.ws.length - 1] >>> (b.size % 64).toNat=0):=by unfold bne;rw [B]
     by_cases c4:b.ws[b.ws.length - 1] >>> (b.size % 64).toNat=0
     ·have hE:bmE b=0:=bmE_ok (hr.2 (.inr fun _=>c4))
      rw [hE]
      rw [decide_eq_true c4] at B'
      rw [cal_code env90 rfl];simp only [fn90];simp only [start,z_map_cons,z_map_nil,z_len_cons,z_len_nil,z_repl_zero,z_repl_succ,z_cons_app,z_nil_app,Nat.reduceAdd,Nat.reduceSub]
      simp only [c0,F1,F2,F3,M,e1,z64,P,W,S0,S,B',index_nat hi,eW,List.getElem?_map,List.getElem?_eq_getElem hi,memAll,vAll,reduceCtorEq,Nat.reduceEqDiff,Nat.reduceAdd,Nat.reduceLT,Nat.reduceLeDiff,Nat.beq]
     ·have hE:bmE b=3:=bmE_no (by
       rw [Bool.eq_false_iff];intro h
       rcases hr.1 h with h|h
       ·exact c3 h
       ·exact c4 (h hi))
      rw [hE]
      rw [decide_eq_false c4] at B'
      rw [cal_code env90 rfl];simp only [fn90];simp only [start,z_map_cons,z_map_nil,z_len_cons,z_len_nil,z_repl_zero,z_repl_succ,z_cons_app,z_nil_app,Nat.reduceAdd,Nat.reduceSub]
      simp only [c0,F1,F2,F3,M,e1,z64,P,W,S0,S,B',index_nat hi,eW,List.getElem?_map,List.getElem?_eq_getElem hi,memAll,vAll,reduceCtorEq,Nat.reduceEqDiff,Nat.reduceAdd,Nat.reduceLT,Nat.reduceLeDiff,Nat.beq]
   ·have F2:((b.ws.length:Int) != wdsN b.size)=true:=by simp [c2]
    have hE:bmE b=3:=bmE_no (by rw [Bool.eq_false_iff];intro h;exact c2 (okB_iff.1 h).1.2.2)
    rw [hE]
    rw [cal_code env90 rfl];simp only [fn90];simp only [start,z_map_cons,z_map_nil,z_len_cons,z_len_nil,z_repl_zero,z_repl_succ,z_cons_app,z_nil_app,Nat.reduceAdd,Nat.reduceSub]
    simp only [c0,F1,F2,e1,P,memAll,vAll,reduceCtorEq,Nat.reduceEqDiff,Nat.reduceAdd,Nat.reduceLT,Nat.reduceLeDiff,Nat.beq]
theorem cal147 {k:Nat} {a b:Int} (hk:k≤100000) (ha:-1000000≤a∧a≤1000000) (hb':-1000000≤b∧b≤1000000):cal env 147 [.int .i64 (k:Nat),.int .i64 a,.int .i64 b]=some [(eW (maskW k a b),false)]:=by
 have W0:IntKind.i64.wrap ((k:Int) * 64)=64 * (k:Int):=by rw [i64_fits (by omega)];omega
 have W1:IntKind.i64.wrap (a - 64 * (k:Int))=a - 64 * (k:Int):=i64_fits (by omega)
 have W2:IntKind.i64.wrap (b - 64 * (k:Int))=b - 64 * (k:Int):=i64_fits (by omega)
 have X1:(if a - 64 * (k:Int)<0 then 0 else a - 64 * (k:Int))=max (a - 64 * (k:Int)) 0:=by split<;>omega
 have X2:(if 64<b - 64 * (k:Int) then 64 else b - 64 * (k:Int))=min (b - 64 * (k:Int)) 64:=by split<;>omega
 unfold maskW eW
 generalize hf:max (a - 64 * (k:Int)) 0=f at X1 ⊢
 generalize ht:min (b - 64 * (k:Int)) 64=t at X2 ⊢
 by_cases c:f ≥ t
 ·have F1:(f ≥ t)=True:=eq_true c
  rw [if_pos c]
  have B0:((0:Wd).toNat:Int)=0:=rfl
  rw [B0]
  rw [cal_code env147 rfl];simp only [fn147];simp only [start,z_map_cons,z_map_nil,z_len_cons,z_len_nil,z_repl_zero,z_repl_succ,z_cons_app,z_nil_app,Nat.reduceAdd,Nat.reduceSub]
  simp only [W0,W1,W2,X1,X2,F1,memAll,vAll,reduceCtorEq,Nat.reduceEqDiff,Nat.reduceAdd,Nat.reduceLT,Nat.reduceLeDiff,Nat.beq]
 ·have F1:(f ≥ t)=False:=eq_false c
  rw [if_neg c]
  have W3:IntKind.i64.wrap (t - f)=t - f:=i64_fits (by omega)
  have W4:IntKind.i64.wrap (64 - (t - f))=64 - (t - f):=i64_fits (by omega)
  have A:(18446744073709551615:Int)=((BitVec.allOnes 64).toNat:Int):=rfl
  have S0:(64 - (t - f)<0)=False:=eq_false (by omega)
  have S1:(f<0)=False:=eq_false (by omega)
  have S2:=w_shr (BitVec.allOnes 64) (s:=64 - (t - f)) (n:=(64 - (t - f)).toNat) (by omega)
  have S3:=w_shl (BitVec.allOnes 64 >>> (64 - (t - f)).toNat) (s:=f) (n:=f.toNat) (by omega)
  rw [← A] at S2
  rw [cal_code env147 rfl];simp only [fn147];simp only [start,z_map_cons,z_map_nil,z_len_cons,z_len_nil,z_repl_zero,z_repl_succ,z_cons_app,z_nil_app,Nat.reduceAdd,Nat.reduceSub]
  simp only [W0,W1,W2,W3,W4,X1,X2,F1,S0,S1,S2,S3,memAll,vAll,reduceCtorEq,Nat.reduceEqDiff,Nat.reduceAdd,Nat.reduceLT,Nat.reduceLeDiff,Nat.beq]
end Go.Proofs.YtioijcfcehhmdaaGreatDoor.V

namespace Go.Proofs.YtioijcfcehhmdaaGreatDoor.V
def eB2 (b:Bm):List PV:=[.int .i64 b.size,.list 1 (b.ws.map eW)]
def tz (w:Wd):Nat:=Lib.ctz 64 w.toNat
theorem cal150 {w:Wd}:cal env 150 [.int .u64 (w.toNat:Int)]=some [(.int .i64 (tz w:Nat),false)]:=by
 rw [cal_ext env150]
 have:=w.isLt
 have e:tzX [.int .u64 (w.toNat:Int)]=if (0:Int)≤(w.toNat:Int)∧(w.toNat:Int)<18446744073709551616 then some [(.int .i64 (Lib.ctz 64 (w.toNat:Int).toNat:Nat),false)] else none:=rfl
 rw [e,if_pos (by omega),Int.toNat_natCast]
 rfl
theorem loop149 {b:Bm} {a:Int} {k:Nat} {w0:Wd} {ys0:List (List PV)} (hk:k≤100000)
  {st:St} (h:st.head [0,1,2,4,5,10,11,12] st.boxes.length=some ⟨[.yld,.pv (.iptr (eB2 b) 0),.pv (.iptr [.int .i64 a] 0),.any,.pv (.int .i64 (k:Nat)),.pv (eW w0),.any,.any,.any,.any,.pv (.list 1 (b.ws.map eW)),.pv (.int .i64 b.ws.length),.pv (.int .i64 (k:Nat)),.any,.any,.any,.any,.any,.any,.any,.any,.any,.any,.any,.any,.any,.any,.any,.any,.any,.any,.any,.any,.any,.any,.any,.any,.any,.any],[],ys0,some none⟩) :
  den env fn149_l1 st=some (.normal,⟨[.yld,.pv (.iptr (eB2 b) 0),.pv (.iptr [.int .i64 a] 0),.any,.any,.any,.any,.any,.any,.any,.pv (.list 1 (b.ws.map eW)),.pv (.int .i64 b.ws.length),.pv (.int .i64 (k:Nat)),.any,.any,.any,.any,.any,.any,.any,.any,.any,.any,.any,.any,.any,.any,.any,.any,.any,.any,.any,.any,.any,.any,.any,.any,.any,.any],[],ys0++yI ((bitsOf w0).map (64 * k+·)),some none⟩):=by
 unfold fn149_l1
 refine clean_rec (env:=env) (fun p:Wd × List (List PV)=>⟨[.yld,.pv (.iptr (eB2 b) 0),.pv (.iptr [.int .i64 a] 0),.any,.pv (.int .i64 (k:Nat)),.pv (eW p.1),.any,.any,.any,.any,.pv (.list 1 (b.ws.map eW)),.pv (.int .i64 b.ws.length),.pv (.int .i64 (k:Nat)),.any,.any,.any,.any,.any,.any,.any,.any,.any,.any,.any,.any,.any,.any,.any,.any,.any,.any,.any,.any,.any,.any,.any,.any,.any,.any],[],p.2,some none⟩)
  (fun p=>some (.normal,⟨[.yld,.pv (.iptr (eB2 b) 0),.pv (.iptr [.int .i64 a] 0),.any,.any,.any,.any,.any,.any,.any,.pv (.list 1 (b.ws.map eW)),.pv (.int .i64 b.ws.length),.pv (.int .i64 (k:Nat)),.any,.any,.any,.any,.any,.any,.any,.any,.any,.any,.any,.any,.any,.any,.any,.any,.any,.any,.any,.any,.any,.any,.any,.any,.any,.any],[],p.2++yI ((bitsOf p.1).map (64 * k+·)),some none⟩)) (fun _=>True) (fun p=>(bitsOf p.1).length) (w0,ys0) h trivial (fun _=>rfl) (fun _=>rfl) ?_
 rintro ⟨w,ys⟩ rb _ ih
 simp only [eW] at ih ⊢
 have B:=w_beq w 0
 have B0:((0:Wd).toNat:Int)=0:=rfl
 rw [B0] at B
 have B':((w.toNat:Int) != 0)=!decide (w=0):=by unfold bne;rw [B]
 by_cases c:w=0
 ·rw [decide_eq_true c] at B'
  subst c
  simp only [fn149_b0,B',bits_zero,List.map_nil,memAll,vAll,reduceCtorEq,Nat.reduceEqDiff,Nat.reduceAdd,Nat.reduceLT,Nat.reduceLeDiff,Nat.beq]
  simp only [yI,List.map_nil,List.append_nil]
  rfl
 ·rw [decide_eq_false c] at B'
  have e1:=cal150 (w:=w)
  have ht:=(ctz_low c).1
  have W0:IntKind.i64.wrap ((k:Int) * 64)=64 * (k:Int):=by rw [i64_fits (by omega)];omega
  have W1:IntKind.i64.wrap (64 * (k:Int)+((tz w:Nat):Int))=((64 * k+tz w:Nat):Int):=by unfold tz;rw [i64_fits (by omega)];omega
  have W2:=w_sub w 1
  have W3:=w_and w (w - 1)
  have B1:((1:Wd).toNat:Int)=1:=rfl
  rw [B1] at W2
  have hc:=bits_cons c
  simp only [fn149_b0,B',e1,W0,W1,W2,W3,memAll,vAll,reduceCtorEq,Nat.reduceEqDiff,Nat.reduceAdd,Nat.reduceLT,Nat.reduceLeDiff,Nat.beq]
  rw [ih (w &&& (w - 1),ys++[[.int .i64 ((64 * k+tz w:Nat):Int)]]) (by simp only;rw [hc,List.length_cons];omega) trivial _ rfl]
  rw [hc]
  simp only [yI,List.map_cons,List.append_assoc,List.cons_append,List.nil_append]
  rfl
theorem loop149b {b:Bm} {a:Int} (hb:b.ws.length≤64) (hs:0≤b.size∧b.size≤4096) (ha:-1000000≤a∧a≤1000000)
  {st:St} (h:st.head [0,1,2,10,11,12] st.boxes.length=some ⟨[.yld,.pv (.iptr (eB2 b) 0),.pv (.iptr [.int .i64 a] 0),.any,.any,.any,.any,.any,.any,.any,.pv (.list 1 (b.ws.map eW)),.pv (.int .i64 b.ws.length),.pv (.int .i64 (0:Nat)),.any,.any,.any,.any,.any,.any,.any,.any,.any,.any,.any,.any,.any,.any,.any,.any,.any,.any,.any,.any,.any,.any,.any,.any,.any,.any],[],[],some none⟩) :
  den env fn149_l3 st=some (.normal,⟨[.any,.any,.any,.any,.any,.any,.any,.any,.any,.any,.any,.any,.any,.any,.any,.any,.any,.any,.any,.any,.any,.any,.any,.any,.any,.any,.any,.any,.any,.any,.any,.any,.any,.any,.any,.any,.any,.any,.any],[],yI (elemsW b.ws a b.size),some none⟩):=by
 unfold fn149_l3
 refine clean_up (env:=env) b.ws.length (fun k=>⟨[.yld,.pv (.iptr (eB2 b) 0),.pv (.iptr [.int .i64 a] 0),.any,.any,.any,.any,.any,.any,.any,.pv (.list 1 (b.ws.map eW)),.pv (.int .i64 b.ws.length),.pv (.int .i64 k),.any,.any,.any,.any,.any,.any,.any,.any,.any,.any,.any,.any,.any,.any,.any,.any,.any,.any,.any,.any,.any,.any,.any,.any,.any,.any],[],yI ((List.range (64 * k)).filter fun (i:Nat)=>bit b.ws i&&decide (a≤(i:Int)∧(i:Int)<b.size)),some none⟩)
  (fun _=>some (.normal,⟨[.any,.any,.any,.any,.any,.any,.any,.any,.any,.any,.any,.any,.any,.any,.any,.any,.any,.any,.any,.any,.any,.any,.any,.any,.any,.any,.any,.any,.any,.any,.any,.any,.any,.any,.any,.any,.any,.any,.any],[],yI (elemsW b.ws a b.size),some none⟩)) h (fun _=>rfl) (fun _=>rfl) ?_ ?_
 ·intro k rb hi ih
  have hi1:=i64_next hi (by unfold lim;omega)
  have F1:((k:Int)<(b.ws.length:Int))=True:=eq_true (by omega)
  have e1:=cal147 (k:=k) (a:=a) (b:=b.size) (by omega) ha (by omega)
  have W3:=w_and b.ws[k] (maskW k a b.size)
  rw [elems_take hi] at ih
  unfold eW at e1
  simp only [fn149_b2,F1,e1,W3,eB2,eW,index_nat hi,List.getElem?_map,List.getElem?_eq_getElem hi,memAll,vAll,reduceCtorEq,Nat.reduceEqDiff,Nat.reduceAdd,Nat.reduceLT,Nat.reduceLeDiff,Nat.beq]
  rw [loop149 (b:=b) (a:=a) (k:=k) (w0:=b.ws[k] &&& maskW k a b.size) (ys0:=yI ((List.range (64 * k)).filter fun (i:Nat)=>bit b.ws i&&decide (a≤(i:Int)∧(i:Int)<b.size))) (by omega)]
  rotate_left
  ·rfl
  simp only [memAll,vAll,reduceCtorEq,Nat.reduceEqDiff,Nat.reduceAdd,Nat.reduceLT,Nat.reduceLeDiff,Nat.beq]
  rw [ih _ (by simp only [hi1];simp only [yI,List.map_append];rfl)]
 ·intro rb
  simp only [fn149_b2,Int.lt_irrefl,memAll,vAll,reduceCtorEq,Nat.reduceEqDiff,Nat.reduceAdd,Nat.reduceLT,Nat.reduceLeDiff,Nat.beq]
  rfl
theorem iter149 {b:Bm} {a:Int} (ha:-1000000≤a∧a≤1000000):iter env 149 [.iptr (eB2 b) 0,.iptr [.int .i64 a] 0] none=some (yI (if okB b then elemsW b.ws a b.size else [])):=by
 have P:part (eB2 b) 0 (some 2)=some (eBm b):=rfl
 have e1:=cal90 (b:=b)
 rw [iter_code env149 rfl rfl]
 simp only [fn149,ystart,z_map_cons,z_map_nil,z_len_cons,z_len_nil,z_repl_zero,z_repl_succ,z_cons_app,z_nil_app,Nat.reduceAdd,Nat.reduceSub]
 cases c:okB b with
 |false =>
  rw [bmE_no c] at e1
  have Z:((3:Int) != 0)=true:=rfl
  simp only [P,e1,Z,vRng,memAll,vAll,reduceCtorEq,Nat.reduceEqDiff,Nat.reduceAdd,Nat.reduceLT,Nat.reduceLeDiff,Nat.beq]
  rfl
 |true =>
  rw [bmE_ok c] at e1
  have Z:((0:Int) != 0)=false:=rfl
  obtain ⟨h1,h2,h3,_⟩:=okB_size c
  have P2:part (eB2 b) 1 none=some (.list 1 (b.ws.map eW)):=rfl
  simp only [P,P2,e1,Z,List.length_map,vRng,memAll,vAll,reduceCtorEq,Nat.reduceEqDiff,Nat.reduceAdd,Nat.reduceLT,Nat.reduceLeDiff,Nat.beq]
  rw [loop149b (a:=a) h3 ⟨h1,h2⟩ ha]
  rotate_left
  ·rfl
  ·rfl
theorem cal126 {b:Bm} {a:Int}:cal env 126 [eBm b,.int .i64 a]=some [(.func 149 [.iptr (eB2 b) 0,.iptr [.int .i64 a] 0],false)]:=by
 unfold eBm eB2
 rw [cal_code env126 rfl];simp only [fn126];simp only [start,z_map_cons,z_map_nil,z_len_cons,z_len_nil,z_repl_zero,z_repl_succ,z_cons_app,z_nil_app,Nat.reduceAdd,Nat.reduceSub]
 simp only [ memAll,vAll,reduceCtorEq,Nat.reduceEqDiff,Nat.reduceAdd,Nat.reduceLT,Nat.reduceLeDiff,Nat.beq]
end Go.Proofs.YtioijcfcehhmdaaGreatDoor.V

namespace Go.Proofs.YtioijcfcehhmdaaGreatDoor
def look:List (Nat × AV)→Nat→AV
 |[],_=>.any
 |(j,v) :: l,i=>bcase (Nat.beq i j) v (look l i)
def sl (n:Nat) (l:List (Nat × AV)):List AV:=(List.range n).map (look l)
def mapA (f:AV→AV):List (Nat × AV)→List (Nat × AV)
 |[]=>[]
 |(j,v) :: l=>(j,f v) :: mapA f l
def keepA (l:List (Nat × AV)):List Nat→List (Nat × AV)
 |[]=>[]
 |k :: ks=>(k,look l k) :: keepA l ks
def argsA:Nat→List PV→List (Nat × AV)
 |_,[]=>[]
 |k,v :: l=>(k,.pv v) :: argsA (k+1) l
def lowA (nb:Nat):List (Nat × AV)→Bool
 |[]=>true
 |(_,v) :: l=>AV.low nb v&&lowA nb l
def insA (n:Nat):List Nat→Bool
 |[]=>true
 |k :: ks=>decide (k<n)&&insA n ks
theorem look_hit (i:Nat) (v:AV) (l:List (Nat × AV)):look ((i,v) :: l) i=v:=by
 show bcase (Nat.beq i i) v _=v
 rw [Nat.beq_refl];rfl
theorem look_nil (i:Nat):look [] i=.any:=(rfl)
theorem sl_get {n i:Nat} {l:List (Nat × AV)} (h':i<n):(sl n l).getD i .any=look l i:=by
 simp [sl,List.getD_eq_getElem?_getD,h']
theorem sl_some {n i:Nat} {l:List (Nat × AV)} (h':i<n):(sl n l)[i]?=some (look l i):=by
 simp [sl,h']
theorem look_cons (l:List (Nat × AV)) (i j:Nat) (v:AV):look ((j,v) :: l) i=if i=j then v else look l i:=by
 show bcase (Nat.beq i j) v _=_
 by_cases h:i=j
 ·subst h;rw [Nat.beq_refl,if_pos rfl];rfl
 ·rw [if_neg h]
  have:Nat.beq i j=false:=by
   cases e:Nat.beq i j with
   |false=>rfl
   |true=>exact absurd (Nat.eq_of_beq_eq_true e) h
  rw [this];rfl
theorem sl_set (n i:Nat) (v:AV) (l:List (Nat × AV)):(sl n l).set i v=sl n ((i,v) :: l):=by
 apply List.ext_getElem (by simp [sl])
 intro k h1 h2
 have hk:k<n:=by simpa [sl] using h2
 simp only [sl,List.getElem_set,List.getElem_map,List.getElem_range,look_cons]
 by_cases h:i=k
 ·subst h;simp
 ·rw [if_neg h,if_neg (fun e=>h e.symm)]
theorem look_skip {i j:Nat} {v:AV} {l:List (Nat × AV)} (h:(i==j)=false):look ((j,v) :: l) i=look l i:=by
 rw [look_cons,if_neg (by simpa using h)]
theorem look_mapA (f:AV→AV) (hf:f .any=.any):∀ (l:List (Nat × AV)) (i:Nat),look (mapA f l) i=f (look l i)
 |[],i=>hf.symm
 |(j,v) :: l,i=>by
  show look ((j,f v) :: mapA f l) i=_
  rw [look_cons,look_cons,look_mapA f hf l i]
  split<;>rfl
theorem sl_map {f:AV→AV} (hf:f .any=.any) (n:Nat) (l:List (Nat × AV)):(sl n l).map f=sl n (mapA f l):=by
 unfold sl
 rw [List.map_map]
 apply List.map_congr_left
 intro i _
 exact (look_mapA f hf l i).symm
theorem sl_kill (n d:Nat) (l:List (Nat × AV)):(sl n l).map (AV.kill d)=sl n (mapA (AV.kill d) l):=sl_map rfl n l
theorem sl_killc (n d:Nat) (l:List (Nat × AV)):(sl n l).map (AV.killCell d)=sl n (mapA (AV.killCell d) l):=sl_map rfl n l
theorem sl_froze (n:Nat) (l:List (Nat × AV)):(sl n l).map AV.froze=sl n (mapA AV.froze l):=sl_map rfl n l
theorem mapA_nil (f:AV→AV):mapA f []=[]:=(rfl)
theorem mapA_cons (f:AV→AV) (j:Nat) (v:AV) (l:List (Nat × AV)):mapA f ((j,v) :: l)=(j,f v) :: mapA f l:=(rfl)
theorem keepA_nil (l:List (Nat × AV)):keepA l []=[]:=(rfl)
theorem keepA_cons (l:List (Nat × AV)) (k:Nat) (ks:List Nat):keepA l (k :: ks)=(k,look l k) :: keepA l ks:=(rfl)
theorem lowA_nil (nb:Nat):lowA nb []=true:=(rfl)
theorem lowA_cons (nb k:Nat) (v:AV) (l:List (Nat × AV)):lowA nb ((k,v) :: l)=(AV.low nb v&&lowA nb l):=(rfl)
theorem insA_nil (n:Nat):insA n []=true:=(rfl)
theorem insA_cons (n k:Nat) (l:List Nat):insA n (k :: l)=(decide (k<n)&&insA n l):=(rfl)
theorem argsA_nil (k:Nat):argsA k []=[]:=(rfl)
theorem argsA_cons (k:Nat) (v:PV) (l:List PV):argsA k (v :: l)=(k,.pv v) :: argsA (k+1) l:=(rfl)
theorem look_keepA (l:List (Nat × AV)):∀ (ks:List Nat) (i:Nat),look (keepA l ks) i=if ks.contains i then look l i else .any
 |[],i=>rfl
 |k :: ks,i=>by
  rw [keepA_cons,look_cons,look_keepA l ks i,List.contains_cons]
  by_cases h:i=k
  ·subst h;simp
  ·have:(i==k)=false:=by simpa using h
   rw [if_neg h,this,Bool.false_or]
theorem lowA_iff (nb n:Nat) (l:List (Nat × AV)):∀ ks:List Nat,insA n ks=true→(lowA nb (keepA l ks)=true ↔ ∀ k∈ks,(look l k).low nb=true)
 |[],_=>by simp [keepA,lowA]
 |k :: ks,h=>by
  rw [insA_cons,Bool.and_eq_true] at h
  rw [keepA_cons,lowA_cons,Bool.and_eq_true,lowA_iff nb n l ks h.2]
  simp
theorem head_sl {n nb:Nat} {l:List (Nat × AV)} {keep:List Nat} {bx:List Box} {ys:List (List PV)} {sp:Option (Option Nat)} (h:insA n keep=true) (hb:nb≤bx.length) (hl:lowA nb (keepA l keep)=true) :
  St.head ⟨sl n l,bx,ys,sp⟩ keep nb=some ⟨sl n (keepA l keep),bx.take nb,ys,sp⟩:=by
 have e:((sl n l).zipIdx.map fun (v,i)=>if keep.contains i then v else AV.any)=sl n (keepA l keep):=by
  apply List.ext_getElem (by simp [sl])
  intro i h1 h2
  simp only [sl,List.getElem_map,List.getElem_zipIdx,List.getElem_range,look_keepA,Nat.zero_add]
 unfold St.head
 simp only
 rw [e,if_pos]
 rw [Bool.and_eq_true,decide_eq_true_eq]
 refine ⟨?_,hb⟩
 rw [List.all_eq_true]
 intro v hv
 unfold sl at hv
 obtain ⟨i,hi,rfl⟩:=List.mem_map.1 hv
 rw [look_keepA]
 split
 ·rename_i hc
  exact (lowA_iff nb n l keep h).1 hl i (by simpa using hc)
 ·rfl
theorem clean_sl {n nb:Nat} {e:Ex} {l:List (Nat × AV)} {keep:List Nat} {bx:List Box} {ys:List (List PV)} {sp:Option (Option Nat)} (h:insA n keep=true) (hb:nb≤bx.length) (hl:lowA nb (keepA l keep)=true) :
  cleanEnd keep nb (e,⟨sl n l,bx,ys,sp⟩)=some (e,⟨sl n (keepA l keep),bx.take nb,ys,sp⟩):=by
 unfold cleanEnd
 simp only
 rw [head_sl h hb hl]
 rfl
theorem look_argsA:∀ (l:List PV) (k i:Nat),look (argsA k l) i=if k≤i then ((l[i - k]?).map AV.pv).getD .any else .any:=by
 intro l
 induction l with
 |nil=>intro k i;simp [argsA,look]
 |cons v l ih =>
  intro k i
  rw [argsA_cons,look_cons,ih]
  by_cases h1:i=k
  ·subst h1;simp
  ·rw [if_neg h1]
   by_cases h2:k≤i
   ·rw [if_pos (by omega),if_pos h2,show i - k=(i - (k+1))+1 by omega,List.getElem?_cons_succ]
   ·rw [if_neg (by omega),if_neg h2]
theorem startL_sl {n:Nat} {x:LArg} {args:List PV} (hn:args.length+1≤n):startL n x args=⟨sl n ((0,x.av) :: argsA 1 args),x.boxes,[],none⟩:=by
 unfold startL
 congr 1
 apply List.ext_getElem (by simp [sl];omega)
 intro i h1 h2
 simp only [sl,List.getElem_map,List.getElem_range,look_cons,look_argsA]
 cases i with
 |zero=>simp
 |succ i =>
  rw [List.getElem_cons_succ,if_neg (by omega),if_pos (by omega),show i+1 - 1=i by omega]
  by_cases hi:i<args.length
  ·rw [List.getElem_append_left (by simpa using hi)]
   simp [hi]
  ·rw [List.getElem_append_right (by simp;omega)]
   simp [hi]
theorem start_sl {n:Nat} {args:List PV} (hn:args.length≤n):start n args=⟨sl n (argsA 0 args),[],[],none⟩:=by
 have key:=look_argsA
 unfold start
 congr 1
 apply List.ext_getElem (by simp [sl];omega)
 intro i h1 h2
 simp only [sl,List.getElem_map,List.getElem_range,key,Nat.zero_le,if_true,Nat.sub_zero]
 by_cases hi:i<args.length
 ·rw [List.getElem_append_left (by simpa using hi)]
  simp [hi]
 ·rw [List.getElem_append_right (by simp;omega)]
  simp [hi]
theorem low_pv (nb:Nat) (v:PV):AV.low nb (.pv v)=true:=(rfl)
theorem low_any (nb:Nat):AV.low nb .any=true:=(rfl)
theorem low_yld (nb:Nat):AV.low nb .yld=true:=(rfl)
theorem low_row (nb sz:Nat) (es:List PV):AV.low nb (.row sz es)=true:=(rfl)
theorem low_pbox (nb o j:Nat):AV.low nb (.pbox o j)=decide (o<nb):=(rfl)
theorem low_refs (nb t off len:Nat):AV.low nb (.ref (.slot t) off len)=true:=(rfl)
theorem low_refc (nb o j off len:Nat):AV.low nb (.ref (.cell o j) off len)=decide (o<nb):=(rfl)
theorem low_pels (nb t i j:Nat):AV.low nb (.pel (.slot t) i j)=true:=(rfl)
theorem low_pelc (nb o q i j:Nat):AV.low nb (.pel (.cell o q) i j)=decide (o<nb):=(rfl)
theorem low_fn (nb f:Nat) (caps:List AV):AV.low nb (.fn f caps)=caps.all fun c=>match c with
  |.pv _=>true
  |.pbox o _=>o<nb
  |_=>false:=(rfl)
def slAll:=And.intro @look_hit (And.intro @look_skip (And.intro @look_nil (And.intro @sl_get (And.intro @sl_some (And.intro @sl_set (And.intro @sl_kill (And.intro @sl_killc (And.intro @sl_froze (And.intro @mapA_nil (And.intro @mapA_cons (And.intro @keepA_nil (And.intro @keepA_cons (And.intro @lowA_nil (And.intro @lowA_cons (And.intro @insA_nil (And.intro @insA_cons (And.intro @argsA_nil (And.intro @argsA_cons (And.intro @head_sl (And.intro @clean_sl (And.intro @start_sl (And.intro @startL_sl (And.intro @low_pv (And.intro @low_any (And.intro @low_yld (And.intro @low_row (And.intro @low_pbox (And.intro @low_refs (And.intro @low_refc (And.intro @low_pels (And.intro @low_pelc (@low_fn))))))))))))))))))))))))))))))))
end Go.Proofs.YtioijcfcehhmdaaGreatDoor

namespace Go.Proofs.YtioijcfcehhmdaaGreatDoor.V
def fillR (l:List PV) (z:PV) (i:Nat):List PV:=l.take i++List.replicate (l.length - i) z
theorem fillR_len {l:List PV} {z:PV} {i:Nat} (h:i≤l.length):(fillR l z i).length=l.length:=by simp [fillR];omega
theorem fillR_get {l:List PV} {z:PV} {i:Nat} (h:i<l.length):(fillR l z i)[i]?=some z:=by
 unfold fillR
 have e:(l.take i).length=i:=by simp;omega
 rw [List.getElem?_append_right (by omega),e,Nat.sub_self,List.getElem?_replicate,if_pos (by omega)]
theorem fillR_set {l:List PV} {z x:PV} {i:Nat} (h:i<l.length) (hx:l[i]?=some x):(fillR l z i).set i x=fillR l z (i+1):=by
 unfold fillR
 have e:(l.take i).length=i:=by simp;omega
 rw [List.set_append_right _ _ (by omega),e,Nat.sub_self,show l.length - i=(l.length - (i+1))+1 by omega,List.replicate_succ,List.set_cons_zero,List.take_add_one,hx,Option.toList,List.append_assoc]
 rfl
theorem fillR_zero (l:List PV) (z:PV):fillR l z 0=List.replicate l.length z:=by simp [fillR]
theorem fillR_all (l:List PV) (z:PV):fillR l z l.length=l:=by simp [fillR]
theorem eBm_zero:eBm ⟨0,[]⟩=.agg [.int .i64 0,.list 1 []]:=rfl
def bothE (a b:Bm):Int:=if okB a=false then 3 else if okB b=false then 3 else if a.size≠b.size then 22 else 0
def bothO (f:Wd→Wd→Wd) (a b:Bm):Bm:=if bothE a b=0 then ⟨a.size,zipB f a.ws b.ws⟩ else ⟨0,[]⟩
theorem both_ok {a b:Bm} (h:bothE a b=0):okB a=true∧okB b=true∧a.size=b.size∧a.ws.length=b.ws.length:=by
 unfold bothE at h
 split at h
 ·omega
 ·split at h
  ·omega
  ·split at h
   ·omega
   ·rename_i c1 c2 c3
    have c1:okB a=true:=by cases h:okB a<;>simp_all
    have c2:okB b=true:=by cases h:okB b<;>simp_all
    have e:a.size=b.size:=Classical.not_not.1 c3
    have h1:=(okB_iff.1 c1).1.2.2
    have h2:=(okB_iff.1 c2).1.2.2
    exact ⟨c1,c2,e,by rw [e] at h1;omega⟩
theorem zipB_len {f:Wd→Wd→Wd} {a b:List Wd} (h:a.length=b.length):(zipB f a b).length=a.length:=by simp [zipB,h]
theorem zipB_get {f:Wd→Wd→Wd} {a b:List Wd} {i:Nat} (h1:i<a.length) (h2:i<b.length):(zipB f a b)[i]?=some (f a[i] b[i]):=by
 have h:i<(zipB f a b).length:=by simp [zipB];omega
 rw [List.getElem?_eq_getElem h]
 simp [zipB]
set_option maxRecDepth 20000 in
theorem loop152 {a b:Bm} {f:Wd→Wd→Wd} {gf:Nat} (hf:∀ x y,cal env gf [eW x,eW y]=some [(eW (f x y),false)]) (hl:a.ws.length=b.ws.length) (hm:a.ws.length≤64) {st:St} (h:st.head [2,3,4,6,10,33,35,36] st.boxes.length=some ⟨sl 59 [(2,.pv (.func gf [])),(3,.pbox 0 0),(4,.pbox 1 0),(6,.pbox 2 0),(10,.row 1 (fillR ((zipB f a.ws b.ws).map eW) (.int .u64 0) ((0:Nat)))),(33,.any),(35,.pv (.int .i64 a.ws.length)),(36,.pv (.int .i64 (0:Nat)))],[⟨false,[.pv (.int .i64 a.size),.pv (.list 1 (a.ws.map eW))]⟩,⟨false,[.pv (.int .i64 b.size),.pv (.list 1 (b.ws.map eW))]⟩,⟨false,[.pv (.int .i64 0),.row 1 []]⟩],[],none⟩) :
  den env fn152_l1 st=some (.normal,⟨sl 59 [(3,.pbox 0 0),(6,.pbox 2 0),(7,.any),(10,.row 1 ((zipB f a.ws b.ws).map eW))],[⟨false,[.pv (.int .i64 a.size),.pv (.list 1 (a.ws.map eW))]⟩,⟨false,[.pv (.int .i64 b.size),.pv (.list 1 (b.ws.map eW))]⟩,⟨false,[.pv (.int .i64 0),.row 1 []]⟩],[],none⟩):=by
 unfold fn152_l1
 refine clean_up (env:=env) (nb:=3) (a.ws.length) (fun i=>⟨sl 59 [(2,.pv (.func gf [])),(3,.pbox 0 0),(4,.pbox 1 0),(6,.pbox 2 0),(10,.row 1 (fillR ((zipB f a.ws b.ws).map eW) (.int .u64 0) (i))),(33,.any),(35,.pv (.int .i64 a.ws.length)),(36,.pv (.int .i64 i))],[⟨false,[.pv (.int .i64 a.size),.pv (.list 1 (a.ws.map eW))]⟩,⟨false,[.pv (.int .i64 b.size),.pv (.list 1 (b.ws.map eW))]⟩,⟨false,[.pv (.int .i64 0),.row 1 []]⟩],[],none⟩) (fun i=>some (.normal,⟨sl 59 [(3,.pbox 0 0),(6,.pbox 2 0),(7,.any),(10,.row 1 ((zipB f a.ws b.ws).map eW))],[⟨false,[.pv (.int .i64 a.size),.pv (.list 1 (a.ws.map eW))]⟩,⟨false,[.pv (.int .i64 b.size),.pv (.list 1 (b.ws.map eW))]⟩,⟨false,[.pv (.int .i64 0),.row 1 []]⟩],[],none⟩)) h (fun _=>rfl) (fun _=>by simp only [slAll,slsAll,Nat.reduceMul,Nat.reduceBEq,Nat.reduceLT,Nat.reduceLeDiff,Nat.reduceAdd,decide_true,Bool.and_self,Bool.true_and]) ?_ ?_
 ·intro i rb hi ih
  have hi1:=i64_next hi (by unfold lim;omega)
  have hj:i<b.ws.length:=by omega
  have F1:((i:Int)<(a.ws.length:Int))=True:=eq_true (by omega)
  have zl:((zipB f a.ws b.ws).map eW).length=a.ws.length:=by rw [List.length_map,zipB_len hl]
  have f1:=fillR_len (l:=(zipB f a.ws b.ws).map eW) (z:=.int .u64 0) (i:=i) (by omega)
  have f2:=fillR_get (l:=(zipB f a.ws b.ws).map eW) (z:=.int .u64 0) (i:=i) (by omega)
  have f3:=fillR_set (l:=(zipB f a.ws b.ws).map eW) (z:=.int .u64 0) (i:=i) (x:=eW (f a.ws[i] b.ws[i])) (by omega) (by rw [List.getElem?_map,zipB_get hi hj];rfl)
  have e1:=hf a.ws[i] b.ws[i]
  rw [zl] at f1
  unfold eW at e1 f1 f2 f3 ih ⊢
  simp only [fn152_b0,F1,e1,f1,f2,f3,index_nat hi,index_nat hj,List.getElem?_map,List.getElem?_eq_getElem hi,List.getElem?_eq_getElem hj,Option.map_some,List.length_map,slAll,slsAll,Nat.reduceMul,Nat.reduceBEq,Nat.reduceLT,Nat.reduceLeDiff,memAll,vAll,reduceCtorEq,Nat.reduceEqDiff,Nat.reduceAdd,Nat.reduceLT,Nat.reduceLeDiff,Nat.beq]
  rw [ih _ (by simp only [hi1,slAll,slsAll,Nat.reduceMul,Nat.reduceBEq,Nat.reduceLT,Nat.reduceLeDiff,memAll,vAll,reduceCtorEq,Nat.reduceEqDiff,Nat.reduceAdd,Nat.reduceLT,Nat.reduceLeDiff,Nat.beq]<;>rfl)]
 ·intro rb
  have zl:((zipB f a.ws b.ws).map eW).length=a.ws.length:=by rw [List.length_map,zipB_len hl]
  have f4:=fillR_all ((zipB f a.ws b.ws).map eW) (.int .u64 0)
  rw [zl] at f4
  rw [f4]
  simp only [fn152_b0,Int.lt_irrefl,slAll,slsAll,Nat.reduceMul,Nat.reduceBEq,Nat.reduceLT,Nat.reduceLeDiff,memAll,vAll,reduceCtorEq,Nat.reduceEqDiff,Nat.reduceAdd,Nat.reduceLT,Nat.reduceLeDiff,Nat.beq]
theorem cal152 {a b:Bm} {f:Wd→Wd→Wd} {gf:Nat} (hf:∀ x y,cal env gf [eW x,eW y]=some [(eW (f x y),false)]) :
  cal env 152 [eBm a,eBm b,.func gf []]=some [(eBm (bothO f a b),false),(.int .i64 (bothE a b),false)]:=by
 have P:∀ b:Bm,part [PV.int .i64 b.size,.list 1 (b.ws.map eW)] 0 (some 2)=some (eBm b):=fun _=>rfl
 have e1:=cal90 (b:=a)
 have e2:=cal90 (b:=b)
 have Z0:((0:Int) != 0)=false:=rfl
 have Z3:((3:Int) != 0)=true:=rfl
 have hz:=eBm_zero
 unfold bothO
 cases c1:okB a with
 |false =>
  have hE:bothE a b=3:=by unfold bothE;rw [if_pos c1]
  rw [hE,if_neg (by decide),hz]
  rw [bmE_no c1] at e1
  have eA:eBm a=.agg [.int .i64 a.size,.list 1 (a.ws.map eW)]:=rfl
  have eB:eBm b=.agg [.int .i64 b.size,.list 1 (b.ws.map eW)]:=rfl
  rw [eA] at e1 ⊢;rw [eB]
  rw [cal_code env152 rfl];simp only [fn152,slAll,Nat.reduceBEq,Nat.reduceLeDiff,Nat.reduceAdd,List.length_cons,List.length_nil]
  simp only [e1,Z3,part_more,part_succ,part_one,slAll,slsAll,Nat.reduceMul,Nat.reduceBEq,Nat.reduceLT,Nat.reduceLeDiff,memAll,vAll,reduceCtorEq,Nat.reduceEqDiff,Nat.reduceAdd,Nat.reduceLT,Nat.reduceLeDiff,Nat.beq]
 |true =>
  rw [bmE_ok c1] at e1
  cases c2:okB b with
  |false =>
   have hE:bothE a b=3:=by unfold bothE;rw [if_neg (by rw [c1];decide),if_pos c2]
   rw [hE,if_neg (by decide),hz]
   rw [bmE_no c2] at e2
   have eA:eBm a=.agg [.int .i64 a.size,.list 1 (a.ws.map eW)]:=rfl
   have eB:eBm b=.agg [.int .i64 b.size,.list 1 (b.ws.map eW)]:=rfl
   rw [eA] at e1 ⊢;rw [eB] at e2 ⊢
   rw [cal_code env152 rfl];simp only [fn152,slAll,Nat.reduceBEq,Nat.reduceLeDiff,Nat.reduceAdd,List.length_cons,List.length_nil]
   simp only [e1,e2,Z3,Z0,slAll,slsAll,Nat.reduceMul,Nat.reduceBEq,Nat.reduceLT,Nat.reduceLeDiff,memAll,vAll,reduceCtorEq,Nat.reduceEqDiff,Nat.reduceAdd,Nat.reduceLT,Nat.reduceLeDiff,Nat.beq]
  |true =>
   rw [bmE_ok c2] at e2
   by_cases c3:a.size=b.size
   ·have hE:bothE a b=0:=by unfold bothE;rw [if_neg (by rw [c1];decide),if_neg (by rw [c2];decide),if_neg (by simpa using c3)]
    obtain ⟨_,_,_,hl⟩:=both_ok hE
    have hm:=(okB_size c1).2.2.1
    have G:(a.size != b.size)=false:=by simp [c3]
    have F3:((0:Int)≤(a.ws.length:Int))=True:=eq_true (by omega)
    have F4:((a.ws.length:Int)≤(lim:Int))=True:=eq_true (by unfold lim;omega)
    rw [hE,if_pos rfl]
    have eA:eBm a=.agg [.int .i64 a.size,.list 1 (a.ws.map eW)]:=rfl
    have eB:eBm b=.agg [.int .i64 b.size,.list 1 (b.ws.map eW)]:=rfl
    rw [eA] at e1 ⊢;rw [eB] at e2 ⊢
    rw [cal_code env152 rfl];simp only [fn152,slAll,Nat.reduceBEq,Nat.reduceLeDiff,Nat.reduceAdd,List.length_cons,List.length_nil]
    simp only [e1,e2,Z0,G,F3,F4,Int.toNat_natCast,List.length_map,List.length_replicate,slAll,slsAll,Nat.reduceMul,Nat.reduceBEq,Nat.reduceLT,Nat.reduceLeDiff,memAll,vAll,reduceCtorEq,Nat.reduceEqDiff,Nat.reduceAdd,Nat.reduceLT,Nat.reduceLeDiff,Nat.beq]
    rw [loop152 hf hl hm]
    rotate_left
    ·have zl:((zipB f a.ws b.ws).map eW).length=a.ws.length:=by rw [List.length_map,zipB_len hl]
     rw [fillR_zero,zl]
     simp only [slAll,slsAll,Nat.reduceMul,Nat.reduceBEq,Nat.reduceLT,Nat.reduceLeDiff,Nat.reduceAdd,decide_true,Bool.and_self,Bool.true_and]<;>rfl
    ·simp only [e1,e2,Z0,G,F3,F4,Int.toNat_natCast,List.length_map,List.length_replicate,slAll,slsAll,Nat.reduceMul,Nat.reduceBEq,Nat.reduceLT,Nat.reduceLeDiff,memAll,vAll,reduceCtorEq,Nat.reduceEqDiff,Nat.reduceAdd,Nat.reduceLT,Nat.reduceLeDiff,Nat.beq]
     rfl
   ·have hE:bothE a b=22:=by unfold bothE;rw [if_neg (by rw [c1];decide),if_neg (by rw [c2];decide),if_pos (by simpa using c3)]
    have G:(a.size != b.size)=true:=by simp [c3]
    rw [hE,if_neg (by decide),hz]
    have eA:eBm a=.agg [.int .i64 a.size,.list 1 (a.ws.map eW)]:=rfl
    have eB:eBm b=.agg [.int .i64 b.size,.list 1 (b.ws.map eW)]:=rfl
    rw [eA] at e1 ⊢;rw [eB] at e2 ⊢
    rw [cal_code env152 rfl];simp only [fn152,slAll,Nat.reduceBEq,Nat.reduceLeDiff,Nat.reduceAdd,List.length_cons,List.length_nil]
    simp only [e1,e2,Z0,G,slAll,slsAll,Nat.reduceMul,Nat.reduceBEq,Nat.reduceLT,Nat.reduceLeDiff,memAll,vAll,reduceCtorEq,Nat.reduceEqDiff,Nat.reduceAdd,Nat.reduceLT,Nat.reduceLeDiff,Nat.beq]
theorem cal153 (x y:Wd):cal env 153 [eW x,eW y]=some [(eW (x ||| y),false)]:=by
 have W:=w_or x y
 unfold eW
 rw [cal_code env153 rfl];simp only [fn153];simp only [start,z_map_cons,z_map_nil,z_len_cons,z_len_nil,z_repl_zero,z_repl_succ,z_cons_app,z_nil_app,Nat.reduceAdd,Nat.reduceSub]
 simp only [W,memAll,vAll,reduceCtorEq,Nat.reduceEqDiff,Nat.reduceAdd,Nat.reduceLT,Nat.reduceLeDiff,Nat.beq]
def orW (x y:Wd):Wd:=x ||| y
theorem cal136 {a b:Bm}:cal env 136 [eBm a,eBm b]=some [(eBm (bothO orW a b),false),(.int .i64 (bothE a b),false)]:=by
 have e1:=cal152 (a:=a) (b:=b) (f:=orW) (gf:=153) cal153
 have eA:∀ a:Bm,eBm a=.agg [.int .i64 a.size,.list 1 (a.ws.map eW)]:=fun _=>rfl
 rw [eA,eA,eA] at e1 ⊢
 rw [cal_code env136 rfl];simp only [fn136];simp only [start,z_map_cons,z_map_nil,z_len_cons,z_len_nil,z_repl_zero,z_repl_succ,z_cons_app,z_nil_app,Nat.reduceAdd,Nat.reduceSub]
 simp only [e1,memAll,vAll,reduceCtorEq,Nat.reduceEqDiff,Nat.reduceAdd,Nat.reduceLT,Nat.reduceLeDiff,Nat.beq]
end Go.Proofs.YtioijcfcehhmdaaGreatDoor.V

namespace Go.Proofs.YtioijcfcehhmdaaGreatDoor.V
theorem sorted_at {l:List Nat} (hs:l.Pairwise (·<·)) {j i:Nat} (h:l[j]?=some i):j≤i∧∀ k∈l.take j,k<i:=by
 obtain ⟨hj,rfl⟩:=List.getElem?_eq_some_iff.1 h
 have hp:=List.pairwise_iff_getElem.1 hs
 refine ⟨?_,fun k hk=>?_⟩
 ·clear h
  induction j with
  |zero=>exact Nat.zero_le _
  |succ j ih =>
   have h1:=ih (by omega)
   have h2:=hp j (j+1) (by omega) hj (by omega)
   omega
 ·obtain ⟨m,hm,rfl⟩:=List.mem_iff_getElem.1 hk
  rw [List.getElem_take]
  simp only [List.length_take] at hm
  exact hp m j (by omega) hj (by omega)
def bmEl (b:Bm):List Nat:=if okB b then elemsW b.ws 0 b.size else []
theorem bmEl_at {b:Bm} {j i:Nat} (h:(bmEl b)[j]?=some i):i<4096∧j≤i∧∀ k∈(bmEl b).take j,k<i:=by
 unfold bmEl at h ⊢
 split at h
 ·rename_i c
  rw [if_pos c]
  have hs:(elemsW b.ws 0 b.size).Pairwise (·<·):=List.pairwise_lt_range.filter _
  have hm:=List.mem_of_getElem? h
  simp only [elemsW,List.mem_filter,List.mem_range,Bool.and_eq_true,decide_eq_true_eq] at hm
  have:=okB_size c
  exact ⟨by omega,sorted_at hs h⟩
 ·simp at h
def bmX (b:Bm):List Exn:=if okB b then bmExts b else []
theorem bmEl_x (b:Bm):exts (bmEl b)=bmX b:=by
 unfold bmEl bmX bmExts ext
 split
 ·rename_i c;rw [elems_ok c 0 (by omega)]
 ·rfl
theorem cal94 {b:Bm}:cal env 94 [eBm b]=some [(.list 2 ((bmX b).map eExt),true)]:=by
 have e1:=cal126 (b:=b) (a:=0)
 have eA:∀ a:Bm,eBm a=.agg [.int .i64 a.size,.list 1 (a.ws.map eW)]:=fun _=>rfl
 rw [eA] at e1 ⊢
 rw [cal_code env94 rfl];simp only [fn94];simp only [start,z_map_cons,z_map_nil,z_len_cons,z_len_nil,z_repl_zero,z_repl_succ,z_cons_app,z_nil_app,Nat.reduceAdd,Nat.reduceSub]
 simp only [e1,memAll,vAll,reduceCtorEq,Nat.reduceEqDiff,Nat.reduceAdd,Nat.reduceLT,Nat.reduceLeDiff,Nat.beq]
 rw [rng_idx (env:=env) (fun j=>[⟨false,[.pv (.int .i64 b.size),.pv (.list 1 (b.ws.map eW))]⟩,⟨false,[.row 2 ((exts ((bmEl b).take j)).map eExt)]⟩]) (xs:=yI (bmEl b)) rfl (by have:=iter149 (b:=b) (a:=0) (by omega);exact this) rfl ?_]
 ·simp only [yI,List.length_map,List.take_length,vRng,memAll,vAll,reduceCtorEq,Nat.reduceEqDiff,Nat.reduceAdd,Nat.reduceLT,Nat.reduceLeDiff,Nat.beq]
  rw [bmEl_x]
 ·intro j x hx sl0
  simp only [yI,List.getElem?_map,Option.map_eq_some_iff] at hx
  obtain ⟨i,hi,rfl⟩:=hx
  obtain ⟨k1,k2,k3⟩:=bmEl_at hi
  have hlim:lim=1073741824:=rfl
  have hj:=(List.getElem?_eq_some_iff.1 hi).1
  have ht:(bmEl b).take (j+1)=(bmEl b).take j++[i]:=by rw [List.take_add_one,hi];rfl
  have hlen:((bmEl b).take j).length=j:=by simp;omega
  rw [ht]
  rcases snoc_cases ((bmEl b).take j) with h0|⟨p,q,h0⟩
  ·have F2:(((0:Nat):Int) > 0)=False:=eq_false (by omega)
   have F3:(0+1≤lim)=True:=eq_true (by omega)
   have e0:exts ([]:List Nat)=[]:=rfl
   have e2:exts [i]=[⟨i,1⟩]:=rfl
   refine ⟨?_,?_⟩
   rotate_left
   ·simp only [h0,List.nil_append,fn94_b0,fn94_b1,F2,F3,e0,e2,eExt,List.map_nil,List.map_cons,vRng,memAll,vAll,reduceCtorEq,Nat.reduceEqDiff,Nat.reduceAdd,Nat.reduceLT,Nat.reduceLeDiff,Nat.beq]
    rfl
  ·obtain ⟨pre,⟨s,c⟩,e0,h1,h2,h3,h4⟩:=exts_last _ p rfl q
   have hqi:q<i:=k3 q (by rw [h0];simp)
   simp only at h1 h2 h3
   have hpl:p.length+1=j:=by rw [h0] at hlen;simpa using hlen
   have F2:(((pre.length+1:Nat):Int) > 0)=True:=eq_true (by omega)
   have F3:=wrap_pred (n:=pre.length) (by omega)
   have F4:IntKind.i64.wrap (s+c)=s+c:=i64_fits (by omega)
   have F5:IntKind.i64.wrap (c+1)=c+1:=i64_fits (by omega)
   have F6:(pre.length+1+1≤lim)=True:=eq_true (by omega)
   have F7:index (.int .i64 (pre.length:Int)) (pre.length+1)=some pre.length:=index_nat (by omega)
   by_cases hc:s+c=(i:Int)
   ·have F8:(s+c==(i:Int))=true:=by simpa using hc
    have e2:exts (p++[q]++[i])=pre++[⟨s,c+1⟩]:=by rw [exts_snoc,e0,addAt_snoc,if_pos hc]
    refine ⟨?_,?_⟩
    rotate_left
    ·simp only [h0,fn94_b0,fn94_b1,e0,e2,F2,F3,F4,F5,F6,F7,F8,eExt,List.map_append,List.map_cons,List.map_nil,vRng,memAll,vAll,reduceCtorEq,Nat.reduceEqDiff,Nat.reduceAdd,Nat.reduceLT,Nat.reduceLeDiff,Nat.beq]
     rfl
   ·have F8:(s+c==(i:Int))=false:=by simpa using hc
    have e2:exts (p++[q]++[i])=pre++[⟨s,c⟩]++[⟨i,1⟩]:=by rw [exts_snoc,e0,addAt_snoc,if_neg hc]
    refine ⟨?_,?_⟩
    rotate_left
    ·simp only [h0,fn94_b0,fn94_b1,e0,e2,F2,F3,F4,F5,F6,F7,F8,eExt,List.map_append,List.map_cons,List.map_nil,vRng,memAll,vAll,reduceCtorEq,Nat.reduceEqDiff,Nat.reduceAdd,Nat.reduceLT,Nat.reduceLeDiff,Nat.beq]
     rfl
theorem w_bit (w:Wd) (s:Nat):(w >>> s &&& 1==(1:Wd))=w.getLsbD s:=by
 have h:w >>> s &&& 1=if w.getLsbD s then 1 else 0:=by
  apply BitVec.eq_of_getLsbD_eq
  intro j hj
  rw [BitVec.getLsbD_and,BitVec.getLsbD_ushiftRight]
  cases j with
  |zero=>cases h:w.getLsbD s<;>simp [h]
  |succ j =>
   have:(1:Wd).getLsbD (j+1)=false:=by
    rw [show (1:Wd)=1#64 from rfl,BitVec.getLsbD_one];simp
   rw [this,Bool.and_false]
   cases w.getLsbD s<;>simp
 rw [h]
 cases w.getLsbD s<;>rfl
theorem cal103 {b:Bm} {i:Nat} (h:i / 64<b.ws.length) (hi:i≤1000000):cal env 103 [eBm b,.int .i64 (i:Nat)]=some [(.bool (bit b.ws i),false)]:=by
 unfold eBm
 have T1:(i:Int).tdiv 64=((i / 64:Nat):Int):=by rw [Int.tdiv_eq_ediv_of_nonneg (by omega)];omega
 have T2:(i:Int).tmod 64=((i % 64:Nat):Int):=by rw [Int.tmod_eq_emod_of_nonneg (by omega)];omega
 have W1:IntKind.i64.wrap ((i / 64:Nat):Int)=((i / 64:Nat):Int):=i64_fits (by omega)
 have W2:IntKind.u64.wrap ((i % 64:Nat):Int)=((i % 64:Nat):Int):=by rw [u64_wrap];omega
 have S0:(((i % 64:Nat):Int)<0)=False:=eq_false (by omega)
 have S1:=w_shr b.ws[i / 64] (s:=((i % 64:Nat):Int)) (n:=i % 64) rfl
 have S2:=w_and (b.ws[i / 64] >>> (i % 64)) 1
 have B1:((1:Wd).toNat:Int)=1:=rfl
 have S3:=w_beq (b.ws[i / 64] >>> (i % 64) &&& 1) 1
 rw [B1] at S2 S3
 have S4:decide (b.ws[i / 64] >>> (i % 64) &&& 1=(1:Wd))=bit b.ws i:=by rw [bit_of h,← w_bit];rfl
 rw [S4] at S3
 rw [cal_code env103 rfl];simp only [fn103];simp only [start,z_map_cons,z_map_nil,z_len_cons,z_len_nil,z_repl_zero,z_repl_succ,z_cons_app,z_nil_app,Nat.reduceAdd,Nat.reduceSub]
 simp only [z64,T1,T2,W1,W2,S0,S1,S2,S3,eW,index_nat h,List.getElem?_map,List.getElem?_eq_getElem h,memAll,vAll,reduceCtorEq,Nat.reduceEqDiff,Nat.reduceAdd,Nat.reduceLT,Nat.reduceLeDiff,Nat.beq]
def anyFrom (ws:List Wd) (k:Nat):Bool:=(List.range (64 * ws.length)).any fun i=>decide (k≤i)&&bit ws i
theorem anyFrom_iff {ws:List Wd} {k:Nat}:anyFrom ws k=true ↔ ∃ i,k≤i∧i<64 * ws.length∧bit ws i=true:=by
 simp only [anyFrom,List.any_eq_true,List.mem_range,Bool.and_eq_true,decide_eq_true_eq]
 exact ⟨fun ⟨i,h1,h2,h3⟩=>⟨i,h2,h1,h3⟩,fun ⟨i,h1,h2,h3⟩=>⟨i,h2,h1,h3⟩⟩
theorem anyFrom_succ {ws:List Wd} {k:Nat} (h:bit ws k=false):anyFrom ws k=anyFrom ws (k+1):=by
 rw [Bool.eq_iff_iff,anyFrom_iff,anyFrom_iff]
 constructor
 ·rintro ⟨j,h1,h2,h3⟩
  have:j≠k:=fun e=>by rw [e,h] at h3;cases h3
  exact ⟨j,by omega,h2,h3⟩
 ·rintro ⟨j,h1,h2,h3⟩
  exact ⟨j,by omega,h2,h3⟩
theorem loop102 {b:Bm} {s:Nat} (hs:b.size=(s:Int)) (hl:b.ws.length≤64) (hsl:s≤64 * b.ws.length) {st:St} (h:st.head [1,3] st.boxes.length=some ⟨[.any,.pbox 0 0,.any,.pv (.int .i64 ((s+(0:Nat):Nat):Int)),.any,.any,.any,.any,.any,.any,.any,.any,.any,.any,.any,.any,.any,.any,.any,.any,.any,.any,.any,.any,.any,.any,.any,.any,.any,.any,.any,.any,.any,.any,.any],[⟨false,[.pv (.int .i64 b.size),.pv (.list 1 (b.ws.map eW))]⟩],[],none⟩) :
  den env fn102_l1 st=if anyFrom b.ws (s+(0:Nat)) then some (.ret,⟨[.any,.any,.pv (.int .i64 3),.any,.any,.any,.any,.any,.any,.any,.any,.any,.any,.any,.any,.any,.any,.any,.any,.any,.any,.any,.any,.any,.any,.any,.any,.any,.any,.any,.any,.any,.any,.any,.any],[⟨false,[.pv (.int .i64 b.size),.pv (.list 1 (b.ws.map eW))]⟩],[],none⟩) else some (.normal,⟨[.any,.any,.any,.any,.any,.any,.any,.any,.any,.any,.any,.any,.any,.any,.any,.any,.any,.any,.any,.any,.any,.any,.any,.any,.any,.any,.any,.any,.any,.any,.any,.any,.any,.any,.any],[⟨false,[.pv (.int .i64 b.size),.pv (.list 1 (b.ws.map eW))]⟩],[],none⟩):=by
 unfold fn102_l1
 refine clean_up (env:=env) (64 * b.ws.length - s) (fun i=>⟨[.any,.pbox 0 0,.any,.pv (.int .i64 ((s+i:Nat):Int)),.any,.any,.any,.any,.any,.any,.any,.any,.any,.any,.any,.any,.any,.any,.any,.any,.any,.any,.any,.any,.any,.any,.any,.any,.any,.any,.any,.any,.any,.any,.any],[⟨false,[.pv (.int .i64 b.size),.pv (.list 1 (b.ws.map eW))]⟩],[],none⟩) (fun i=>if anyFrom b.ws (s+i) then some (.ret,⟨[.any,.any,.pv (.int .i64 3),.any,.any,.any,.any,.any,.any,.any,.any,.any,.any,.any,.any,.any,.any,.any,.any,.any,.any,.any,.any,.any,.any,.any,.any,.any,.any,.any,.any,.any,.any,.any,.any],[⟨false,[.pv (.int .i64 b.size),.pv (.list 1 (b.ws.map eW))]⟩],[],none⟩) else some (.normal,⟨[.any,.any,.any,.any,.any,.any,.any,.any,.any,.any,.any,.any,.any,.any,.any,.any,.any,.any,.any,.any,.any,.any,.any,.any,.any,.any,.any,.any,.any,.any,.any,.any,.any,.any,.any],[⟨false,[.pv (.int .i64 b.size),.pv (.list 1 (b.ws.map eW))]⟩],[],none⟩)) h (fun _=>rfl) (fun _=>rfl) ?_ ?_
 ·intro i rb hi ih
  have hi1:IntKind.i64.wrap (((s+i:Nat):Int)+1)=((s+(i+1):Nat):Int):=by rw [i64_fits (by omega)];omega
  have W1:IntKind.i64.wrap (64 * (b.ws.length:Int))=64 * (b.ws.length:Int):=i64_fits (by omega)
  have F1:(((s+i:Nat):Int)<64 * (b.ws.length:Int))=True:=eq_true (by omega)
  have e1:=cal103 (b:=b) (i:=s+i) (by omega) (by omega)
  have P2:part [PV.int .i64 b.size,.list 1 (b.ws.map fun w=>PV.int .u64 (w.toNat:Int))] 0 (some 2)=some (.agg [PV.int .i64 b.size,.list 1 (b.ws.map fun w=>PV.int .u64 (w.toNat:Int))]):=rfl
  unfold eBm at e1
  unfold eW at e1 ih ⊢
  cases c:bit b.ws (s+i) with
  |true =>
   rw [c] at e1
   have h:anyFrom b.ws (s+i)=true:=anyFrom_iff.2 ⟨s+i,by omega,by omega,c⟩
   rw [if_pos h]
   simp only [fn102_b0,F1,W1,e1,P2,List.length_map,memAll,vAll,reduceCtorEq,Nat.reduceEqDiff,Nat.reduceAdd,Nat.reduceLT,Nat.reduceLeDiff,Nat.beq]
   rfl
  |false =>
   rw [c] at e1
   have h:=anyFrom_succ c
   simp only [fn102_b0,F1,W1,e1,P2,List.length_map,memAll,vAll,reduceCtorEq,Nat.reduceEqDiff,Nat.reduceAdd,Nat.reduceLT,Nat.reduceLeDiff,Nat.beq]
   rw [ih _ (by simp only [hi1];rfl),h]
   rfl
 ·intro rb
  have W1:IntKind.i64.wrap (64 * (b.ws.length:Int))=64 * (b.ws.length:Int):=i64_fits (by omega)
  have F1:(((s+(64 * b.ws.length - s):Nat):Int)<64 * (b.ws.length:Int))=False:=eq_false (by omega)
  rw [if_neg (by rw [anyFrom_iff];rintro ⟨j,h1,h2,_⟩;omega)]
  simp only [fn102_b0,F1,W1,List.length_map,memAll,vAll,reduceCtorEq,Nat.reduceEqDiff,Nat.reduceAdd,Nat.reduceLT,Nat.reduceLeDiff,Nat.beq]
  rfl
end Go.Proofs.YtioijcfcehhmdaaGreatDoor.V

namespace Go.Proofs.YtioijcfcehhmdaaGreatDoor.V
theorem cal102 {b:Bm}:cal env 102 [eBm b]=some [(.int .i64 (bmE b),false)]:=by
 unfold eBm
 have P:∀ x y:PV,part [x,y] 0 (some 2)=some (.agg [x,y]):=fun _ _=>rfl
 by_cases c0:b.size<0
 ·have hE:bmE b=3:=bmE_no (by rw [Bool.eq_false_iff];intro h;have:=okB_size h;omega)
  rw [hE]
  rw [cal_code env102 rfl];simp only [fn102];simp only [start,z_map_cons,z_map_nil,z_len_cons,z_len_nil,z_repl_zero,z_repl_succ,z_cons_app,z_nil_app,Nat.reduceAdd,Nat.reduceSub]
  simp only [c0,P,memAll,vAll,reduceCtorEq,Nat.reduceEqDiff,Nat.reduceAdd,Nat.reduceLT,Nat.reduceLeDiff,Nat.beq]
 ·by_cases c1:b.size > 4096
  ·have hE:bmE b=3:=bmE_no (by rw [Bool.eq_false_iff];intro h;have:=okB_size h;omega)
   rw [hE]
   have F1:(b.size > 4096)=True:=eq_true c1
   rw [cal_code env102 rfl];simp only [fn102];simp only [start,z_map_cons,z_map_nil,z_len_cons,z_len_nil,z_repl_zero,z_repl_succ,z_cons_app,z_nil_app,Nat.reduceAdd,Nat.reduceSub]
   simp only [c0,F1,P,memAll,vAll,reduceCtorEq,Nat.reduceEqDiff,Nat.reduceAdd,Nat.reduceLT,Nat.reduceLeDiff,Nat.beq]
  ·have F1:(b.size > 4096)=False:=eq_false c1
   have W0:IntKind.i64.wrap (b.size+63)=b.size+63:=i64_fits (by omega)
   have W3:IntKind.i64.wrap (wdsN b.size)=wdsN b.size:=i64_fits (by unfold wdsN;omega)
   have T:=q63 (n:=b.size) (by omega)
   by_cases c2:(b.ws.length:Int)=wdsN b.size
   ·have F2:((b.ws.length:Int) != wdsN b.size)=false:=by simp [c2]
    have hw:=c2
    unfold wdsN at hw
    have hs:b.size=((b.size.toNat:Nat):Int):=by omega
    rw [cal_code env102 rfl];simp only [fn102];simp only [start,z_map_cons,z_map_nil,z_len_cons,z_len_nil,z_repl_zero,z_repl_succ,z_cons_app,z_nil_app,Nat.reduceAdd,Nat.reduceSub]
    simp only [c0,F1,F2,W0,W3,T,z64,P,List.length_map,memAll,vAll,reduceCtorEq,Nat.reduceEqDiff,Nat.reduceAdd,Nat.reduceLT,Nat.reduceLeDiff,Nat.beq]
    rw [loop102 (b:=b) (s:=b.size.toNat) hs (by omega) (by omega)]
    rotate_left
    ·rw [Nat.add_zero,← hs];rfl
    ·cases c:okB b with
     |true =>
      rw [bmE_ok c,if_neg]
      ·simp only [c0,F1,F2,W0,W3,T,z64,P,List.length_map,memAll,vAll,reduceCtorEq,Nat.reduceEqDiff,Nat.reduceAdd,Nat.reduceLT,Nat.reduceLeDiff,Nat.beq]
      ·rw [anyFrom_iff]
       rintro ⟨i,h1,h2,h3⟩
       rw [(okB_iff.1 c).2 i (by omega)] at h3
       cases h3
     |false =>
      rw [bmE_no c,if_pos]
      ·simp only [c0,F1,F2,W0,W3,T,z64,P,List.length_map,memAll,vAll,reduceCtorEq,Nat.reduceEqDiff,Nat.reduceAdd,Nat.reduceLT,Nat.reduceLeDiff,Nat.beq]
      ·rw [anyFrom_iff]
       apply Classical.byContradiction
       intro hn
       have:okB b=true:=okB_iff.2 ⟨⟨by omega,by omega,c2⟩,fun i hi=>by
        by_cases hl:i<64 * b.ws.length
        ·cases hb:bit b.ws i with
         |false=>rfl
         |true=>exact absurd ⟨i,by omega,hl,hb⟩ hn
        ·exact bit_out (by omega)⟩
       rw [this] at c;cases c
   ·have F2:((b.ws.length:Int) != wdsN b.size)=true:=by simp [c2]
    have hE:bmE b=3:=bmE_no (by rw [Bool.eq_false_iff];intro h;exact c2 (okB_iff.1 h).1.2.2)
    rw [hE]
    rw [cal_code env102 rfl];simp only [fn102];simp only [start,z_map_cons,z_map_nil,z_len_cons,z_len_nil,z_repl_zero,z_repl_succ,z_cons_app,z_nil_app,Nat.reduceAdd,Nat.reduceSub]
    simp only [c0,F1,F2,W0,W3,T,z64,P,List.length_map,memAll,vAll,reduceCtorEq,Nat.reduceEqDiff,Nat.reduceAdd,Nat.reduceLT,Nat.reduceLeDiff,Nat.beq]
end Go.Proofs.YtioijcfcehhmdaaGreatDoor.V

namespace Go.Proofs.YtioijcfcehhmdaaGreatDoor.V
theorem cal100 {l:List Spn} (hl:l.length≤lim):cal env 100 [.list 3 (l.map eSpn)]=some [(.bool (linOk l),false)]:=by
 rw [cal_code env100 rfl];simp only [fn100];simp only [start,z_map_cons,z_map_nil,z_len_cons,z_len_nil,z_repl_zero,z_repl_succ,z_cons_app,z_nil_app,Nat.reduceAdd,Nat.reduceSub]
 simp only [ memAll,vAll,reduceCtorEq,Nat.reduceEqDiff,Nat.reduceAdd,Nat.reduceLT,Nat.reduceLeDiff,Nat.beq]
 rw [loop100 hl]
 rotate_left
 ·rfl
 ·have:=linRes_go l z0
  cases h:linRes z0 l with
  |mk t p =>
   rw [h] at this
   cases t with
   |true=>simp only [linOk,← this,memAll,vAll,reduceCtorEq,Nat.reduceEqDiff,Nat.reduceAdd,Nat.reduceLT,Nat.reduceLeDiff,Nat.beq]
   |false=>simp only [linOk,← this,memAll,vAll,reduceCtorEq,Nat.reduceEqDiff,Nat.reduceAdd,Nat.reduceLT,Nat.reduceLeDiff,Nat.beq]
end Go.Proofs.YtioijcfcehhmdaaGreatDoor.V

namespace Go.Proofs.YtioijcfcehhmdaaGreatDoor.V
structure Pt where
 site:Int
 lin:List Spn
 dirty:List Bm
 img:Img
def ePt (p:Pt):PV:=.agg [.int .i64 p.site,.list 3 (p.lin.map eSpn),.list 2 (p.dirty.map eBm),.list 1 (p.img.map eSecs)]
def bPt (p:Pt):List BV:=[.pv (.int .i64 p.site),.pv (.list 3 (p.lin.map eSpn)),.pv (.list 2 (p.dirty.map eBm)),.pv (.list 1 (p.img.map eSecs))]
theorem bPt_eq (p:Pt):bPt p=[.pv (.int .i64 p.site),.pv (.list 3 (p.lin.map eSpn)),.pv (.list 2 (p.dirty.map eBm)),.pv (.list 1 (p.img.map eSecs))]:=rfl
theorem ePt_eq (p:Pt):ePt p=.agg [.int .i64 p.site,.list 3 (p.lin.map eSpn),.list 2 (p.dirty.map eBm),.list 1 (p.img.map eSecs)]:=rfl
def fitP (p:Pt):Prop:=p.lin.length≤lim∧p.dirty.length≤lim∧p.img.length≤lim
def dirE:List Bm→Img→Int
 |b :: bs,v :: vs=>if bmE b≠0 then bmE b else if b.size≠(v.length:Int) then 22 else dirE bs vs
 |_,_=>0
def chkP (p:Pt):Int :=
 if p.site<0∨1073741824<p.site then 2
 else if linOk p.lin=false then 3
 else if imCheck p.img≠0 then imCheck p.img
 else if p.dirty.length≠p.img.length then 6
 else dirE p.dirty p.img
def resD (n:Nat) (e:Int) (bx:List Box):Option (Ex × St):=if e=0 then some (.normal,⟨sl n [(2,.any)],bx,[],none⟩) else some (.ret,⟨sl n [(2,.pv (.int .i64 e))],bx,[],none⟩)
theorem dirE_step {bs:List Bm} {vs:Img} {i:Nat} (h1:i<bs.length) (h2:i<vs.length):dirE (bs.drop i) (vs.drop i)=if bmE bs[i]≠0 then bmE bs[i] else if bs[i].size≠(vs[i].length:Int) then 22 else dirE (bs.drop (i+1)) (vs.drop (i+1)):=by
 rw [List.drop_eq_getElem_cons h1,List.drop_eq_getElem_cons h2,dirE]
theorem loop55 {p:Pt} (hl:p.dirty.length≤lim) (hq:p.dirty.length=p.img.length) {st:St} (h:st.head [1,4] st.boxes.length=some ⟨sl 60 [(1,.pbox 0 0),(4,.pv (.int .i64 (0:Nat)))],[⟨false,bPt p⟩],[],none⟩) :
  den env fn55_l1 st=resD 60 (dirE (p.dirty.drop ((0:Nat))) (p.img.drop ((0:Nat)))) [⟨false,bPt p⟩]:=by
 unfold fn55_l1
 refine clean_up (env:=env) (nb:=1) (p.dirty.length) (fun i=>⟨sl 60 [(1,.pbox 0 0),(4,.pv (.int .i64 i))],[⟨false,bPt p⟩],[],none⟩) (fun i=>resD 60 (dirE (p.dirty.drop (i)) (p.img.drop (i))) [⟨false,bPt p⟩]) h (fun _=>rfl) (fun _=>by simp only [slAll,slsAll,Nat.reduceMul,Nat.reduceBEq,Nat.reduceLT,Nat.reduceLeDiff,Nat.reduceAdd,decide_true,Bool.and_self,Bool.true_and]) ?_ ?_
 ·intro i rb hi ih
  have hi1:=i64_next hi hl
  have hj:i<p.img.length:=by omega
  have F1:((i:Int)<(p.dirty.length:Int))=True:=eq_true (by omega)
  have P2:∀ a b:PV,part [a,b] 0 (some 2)=some (.agg [a,b]):=fun _ _=>rfl
  have eA:∀ b:Bm,eBm b=.agg [.int .i64 b.size,.list 1 (b.ws.map eW)]:=fun _=>rfl
  have eV:∀ v:List Sec,eSecs v=.list 8 (v.map eSec):=fun _=>rfl
  have hx:(p.dirty.map eBm)[i]?=some (eBm p.dirty[i]):=by rw [List.getElem?_map,List.getElem?_eq_getElem hi];rfl
  have hy:(p.img.map eSecs)[i]?=some (eSecs p.img[i]):=by rw [List.getElem?_map,List.getElem?_eq_getElem hj];rfl
  have e1:=cal102 (b:=p.dirty[i])
  have hD:=dirE_step hi hj
  rw [eA] at hx e1
  rw [eV] at hy
  by_cases c1:bmE p.dirty[i]=0
  ·have G1:((0:Int) != 0)=false:=rfl
   rw [c1] at e1
   rw [if_neg (show ¬ bmE p.dirty[i]≠0 from fun h=>h c1)] at hD
   by_cases c2:p.dirty[i].size=(p.img[i].length:Int)
   ·have G2:(p.dirty[i].size != (p.img[i].length:Int))=false:=by simpa using c2
    rw [if_neg (show ¬ p.dirty[i].size≠(p.img[i].length:Int) from fun h=>h c2)] at hD
    rw [hD]
    simp only [fn55_b0,F1,hx,hy,e1,P2,G1,G2,bPt_eq,index_nat hi,index_nat hj,List.length_map,slAll,slsAll,Nat.reduceMul,Nat.reduceBEq,Nat.reduceLT,Nat.reduceLeDiff,memAll,vAll,reduceCtorEq,Nat.reduceEqDiff,Nat.reduceAdd,Nat.reduceLT,Nat.reduceLeDiff,Nat.beq]
    rw [ih _ (by simp only [hi1,bPt_eq,slAll,slsAll,Nat.reduceMul,Nat.reduceBEq,Nat.reduceLT,Nat.reduceLeDiff,memAll,vAll,reduceCtorEq,Nat.reduceEqDiff,Nat.reduceAdd,Nat.reduceLT,Nat.reduceLeDiff,Nat.beq]<;>rfl)]
    all_goals rfl
   ·have G2:(p.dirty[i].size != (p.img[i].length:Int))=true:=by simpa using c2
    rw [if_pos c2] at hD
    rw [hD]
    unfold resD
    rw [if_neg (by decide)]
    simp only [fn55_b0,F1,hx,hy,e1,P2,G1,G2,bPt_eq,index_nat hi,index_nat hj,List.length_map,slAll,slsAll,Nat.reduceMul,Nat.reduceBEq,Nat.reduceLT,Nat.reduceLeDiff,memAll,vAll,reduceCtorEq,Nat.reduceEqDiff,Nat.reduceAdd,Nat.reduceLT,Nat.reduceLeDiff,Nat.beq]
  ·have G1:(bmE p.dirty[i] != 0)=true:=by simpa using c1
   rw [if_pos c1] at hD
   rw [hD]
   unfold resD
   rw [if_neg c1]
   simp only [fn55_b0,F1,hx,hy,e1,P2,G1,bPt_eq,index_nat hi,index_nat hj,List.length_map,slAll,slsAll,Nat.reduceMul,Nat.reduceBEq,Nat.reduceLT,Nat.reduceLeDiff,memAll,vAll,reduceCtorEq,Nat.reduceEqDiff,Nat.reduceAdd,Nat.reduceLT,Nat.reduceLeDiff,Nat.beq]
 ·intro rb
  rw [List.drop_length,hq,List.drop_length]
  unfold dirE resD
  rw [if_pos rfl]
  simp only [fn55_b0,Int.lt_irrefl,bPt_eq,hq,List.length_map,slAll,slsAll,Nat.reduceMul,Nat.reduceBEq,Nat.reduceLT,Nat.reduceLeDiff,memAll,vAll,reduceCtorEq,Nat.reduceEqDiff,Nat.reduceAdd,Nat.reduceLT,Nat.reduceLeDiff,Nat.beq]
theorem cal55 {p:Pt} (h:fitP p):cal env 55 [ePt p]=some [(.int .i64 (chkP p),false)]:=by
 obtain ⟨h1,h2,h3⟩:=h
 have e1:=cal100 (l:=p.lin) h1
 have e2:=cal101 (im:=p.img) h3
 have Z:((0:Int) != 0)=false:=rfl
 unfold chkP
 rw [ePt_eq]
 by_cases c1:p.site<0
 ·have G1:(p.site<0)=True:=eq_true c1
  rw [if_pos (.inl c1)]
  rw [cal_code env55 rfl];simp only [fn55,slAll,Nat.reduceBEq,Nat.reduceLeDiff,Nat.reduceAdd,List.length_cons,List.length_nil]
  simp only [G1,slAll,slsAll,Nat.reduceMul,Nat.reduceBEq,Nat.reduceLT,Nat.reduceLeDiff,memAll,vAll,reduceCtorEq,Nat.reduceEqDiff,Nat.reduceAdd,Nat.reduceLT,Nat.reduceLeDiff,Nat.beq]
 ·have G1:(p.site<0)=False:=eq_false c1
  by_cases c2:p.site > 1073741824
  ·have G2:(p.site > 1073741824)=True:=eq_true c2
   rw [if_pos (.inr c2)]
   rw [cal_code env55 rfl];simp only [fn55,slAll,Nat.reduceBEq,Nat.reduceLeDiff,Nat.reduceAdd,List.length_cons,List.length_nil]
   simp only [G1,G2,slAll,slsAll,Nat.reduceMul,Nat.reduceBEq,Nat.reduceLT,Nat.reduceLeDiff,memAll,vAll,reduceCtorEq,Nat.reduceEqDiff,Nat.reduceAdd,Nat.reduceLT,Nat.reduceLeDiff,Nat.beq]
  ·have G2:(p.site > 1073741824)=False:=eq_false c2
   rw [if_neg (by omega)]
   cases c3:linOk p.lin with
   |false =>
    rw [c3] at e1
    rw [if_pos rfl]
    rw [cal_code env55 rfl];simp only [fn55,slAll,Nat.reduceBEq,Nat.reduceLeDiff,Nat.reduceAdd,List.length_cons,List.length_nil]
    simp only [G1,G2,e1,slAll,slsAll,Nat.reduceMul,Nat.reduceBEq,Nat.reduceLT,Nat.reduceLeDiff,memAll,vAll,reduceCtorEq,Nat.reduceEqDiff,Nat.reduceAdd,Nat.reduceLT,Nat.reduceLeDiff,Nat.beq]
   |true =>
    rw [c3] at e1
    rw [if_neg (by decide)]
    by_cases c4:imCheck p.img=0
    ·rw [c4] at e2
     rw [if_neg (by rw [c4];decide)]
     by_cases c5:p.dirty.length=p.img.length
     ·have G5:((p.dirty.length:Int) != (p.img.length:Int))=false:=by simp [c5]
      rw [if_neg (by simpa using c5)]
      rw [cal_code env55 rfl];simp only [fn55,slAll,Nat.reduceBEq,Nat.reduceLeDiff,Nat.reduceAdd,List.length_cons,List.length_nil]
      simp only [G1,G2,e1,e2,Z,G5,List.length_map,slAll,slsAll,Nat.reduceMul,Nat.reduceBEq,Nat.reduceLT,Nat.reduceLeDiff,memAll,vAll,reduceCtorEq,Nat.reduceEqDiff,Nat.reduceAdd,Nat.reduceLT,Nat.reduceLeDiff,Nat.beq]
      rw [loop55 (p:=p) h2 c5]
      rotate_left
      ·rw [bPt_eq]
       simp only [slAll,slsAll,Nat.reduceMul,Nat.reduceBEq,Nat.reduceLT,Nat.reduceLeDiff,Nat.reduceAdd,decide_true,Bool.and_self,Bool.true_and]<;>rfl
      ·rw [List.drop_zero,List.drop_zero]
       unfold resD
       split
       ·rename_i c6
        rw [c6]
        simp only [G1,G2,e1,e2,Z,G5,List.length_map,slAll,slsAll,Nat.reduceMul,Nat.reduceBEq,Nat.reduceLT,Nat.reduceLeDiff,memAll,vAll,reduceCtorEq,Nat.reduceEqDiff,Nat.reduceAdd,Nat.reduceLT,Nat.reduceLeDiff,Nat.beq]
       ·simp only [G1,G2,e1,e2,Z,G5,List.length_map,slAll,slsAll,Nat.reduceMul,Nat.reduceBEq,Nat.reduceLT,Nat.reduceLeDiff,memAll,vAll,reduceCtorEq,Nat.reduceEqDiff,Nat.reduceAdd,Nat.reduceLT,Nat.reduceLeDiff,Nat.beq]
     ·have G5:((p.dirty.length:Int) != (p.img.length:Int))=true:=by simp;omega
      rw [if_pos c5]
      rw [cal_code env55 rfl];simp only [fn55,slAll,Nat.reduceBEq,Nat.reduceLeDiff,Nat.reduceAdd,List.length_cons,List.length_nil]
      simp only [G1,G2,e1,e2,Z,G5,List.length_map,slAll,slsAll,Nat.reduceMul,Nat.reduceBEq,Nat.reduceLT,Nat.reduceLeDiff,memAll,vAll,reduceCtorEq,Nat.reduceEqDiff,Nat.reduceAdd,Nat.reduceLT,Nat.reduceLeDiff,Nat.beq]
    ·have G4:(imCheck p.img != 0)=true:=by simpa using c4
     rw [if_pos c4]
     rw [cal_code env55 rfl];simp only [fn55,slAll,Nat.reduceBEq,Nat.reduceLeDiff,Nat.reduceAdd,List.length_cons,List.length_nil]
     simp only [G1,G2,e1,e2,G4,List.length_map,slAll,slsAll,Nat.reduceMul,Nat.reduceBEq,Nat.reduceLT,Nat.reduceLeDiff,memAll,vAll,reduceCtorEq,Nat.reduceEqDiff,Nat.reduceAdd,Nat.reduceLT,Nat.reduceLeDiff,Nat.beq]
theorem loop50 {p:Pt} (hl:p.dirty.length≤lim) (hq:p.dirty.length=p.img.length) {st:St} (h:st.head [1,31,32,33] st.boxes.length=some ⟨sl 53 [(1,.pbox 0 0),(31,.pv (.list 2 (p.dirty.map eBm))),(32,.pv (.int .i64 p.dirty.length)),(33,.pv (.int .i64 (0:Nat)))],[⟨false,bPt p⟩],[],none⟩) :
  den env fn50_l1 st=resD 53 (dirE (p.dirty.drop ((0:Nat))) (p.img.drop ((0:Nat)))) [⟨false,bPt p⟩]:=by
 unfold fn50_l1
 refine clean_up (env:=env) (nb:=1) (p.dirty.length) (fun i=>⟨sl 53 [(1,.pbox 0 0),(31,.pv (.list 2 (p.dirty.map eBm))),(32,.pv (.int .i64 p.dirty.length)),(33,.pv (.int .i64 i))],[⟨false,bPt p⟩],[],none⟩) (fun i=>resD 53 (dirE (p.dirty.drop (i)) (p.img.drop (i))) [⟨false,bPt p⟩]) h (fun _=>rfl) (fun _=>by simp only [slAll,slsAll,Nat.reduceMul,Nat.reduceBEq,Nat.reduceLT,Nat.reduceLeDiff,Nat.reduceAdd,decide_true,Bool.and_self,Bool.true_and]) ?_ ?_
 ·intro i rb hi ih
  have hi1:=i64_next hi hl
  have hj:i<p.img.length:=by omega
  have F1:((i:Int)<(p.dirty.length:Int))=True:=eq_true (by omega)
  have P2:∀ a b:PV,part [a,b] 0 (some 2)=some (.agg [a,b]):=fun _ _=>rfl
  have eA:∀ b:Bm,eBm b=.agg [.int .i64 b.size,.list 1 (b.ws.map eW)]:=fun _=>rfl
  have eV:∀ v:List Sec,eSecs v=.list 8 (v.map eSec):=fun _=>rfl
  have hx:(p.dirty.map eBm)[i]?=some (eBm p.dirty[i]):=by rw [List.getElem?_map,List.getElem?_eq_getElem hi];rfl
  have hy:(p.img.map eSecs)[i]?=some (eSecs p.img[i]):=by rw [List.getElem?_map,List.getElem?_eq_getElem hj];rfl
  have e1:=cal90 (b:=p.dirty[i])
  have hD:=dirE_step hi hj
  rw [eA] at hx e1
  rw [eV] at hy
  by_cases c1:bmE p.dirty[i]=0
  ·have G1:((0:Int) != 0)=false:=rfl
   rw [c1] at e1
   rw [if_neg (show ¬ bmE p.dirty[i]≠0 from fun h=>h c1)] at hD
   by_cases c2:p.dirty[i].size=(p.img[i].length:Int)
   ·have G2:(p.dirty[i].size != (p.img[i].length:Int))=false:=by simpa using c2
    rw [if_neg (show ¬ p.dirty[i].size≠(p.img[i].length:Int) from fun h=>h c2)] at hD
    rw [hD]
    simp only [fn50_b0,F1,hx,hy,e1,P2,G1,G2,bPt_eq,index_nat hi,index_nat hj,List.length_map,slAll,slsAll,Nat.reduceMul,Nat.reduceBEq,Nat.reduceLT,Nat.reduceLeDiff,memAll,vAll,reduceCtorEq,Nat.reduceEqDiff,Nat.reduceAdd,Nat.reduceLT,Nat.reduceLeDiff,Nat.beq]
    rw [ih _ (by simp only [hi1,bPt_eq,slAll,slsAll,Nat.reduceMul,Nat.reduceBEq,Nat.reduceLT,Nat.reduceLeDiff,memAll,vAll,reduceCtorEq,Nat.reduceEqDiff,Nat.reduceAdd,Nat.reduceLT,Nat.reduceLeDiff,Nat.beq]<;>rfl)]
    all_goals rfl
   ·have G2:(p.dirty[i].size != (p.img[i].length:Int))=true:=by simpa using c2
    rw [if_pos c2] at hD
    rw [hD]
    unfold resD
    rw [if_neg (by decide)]
    simp only [fn50_b0,F1,hx,hy,e1,P2,G1,G2,bPt_eq,index_nat hi,index_nat hj,List.length_map,slAll,slsAll,Nat.reduceMul,Nat.reduceBEq,Nat.reduceLT,Nat.reduceLeDiff,memAll,vAll,reduceCtorEq,Nat.reduceEqDiff,Nat.reduceAdd,Nat.reduceLT,Nat.reduceLeDiff,Nat.beq]
  ·have G1:(bmE p.dirty[i] != 0)=true:=by simpa using c1
   rw [if_pos c1] at hD
   rw [hD]
   unfold resD
   rw [if_neg c1]
   simp only [fn50_b0,F1,hx,hy,e1,P2,G1,bPt_eq,index_nat hi,index_nat hj,List.length_map,slAll,slsAll,Nat.reduceMul,Nat.reduceBEq,Nat.reduceLT,Nat.reduceLeDiff,memAll,vAll,reduceCtorEq,Nat.reduceEqDiff,Nat.reduceAdd,Nat.reduceLT,Nat.reduceLeDiff,Nat.beq]
 ·intro rb
  rw [List.drop_length,hq,List.drop_length]
  unfold dirE resD
  rw [if_pos rfl]
  simp only [fn50_b0,Int.lt_irrefl,bPt_eq,hq,List.length_map,slAll,slsAll,Nat.reduceMul,Nat.reduceBEq,Nat.reduceLT,Nat.reduceLeDiff,memAll,vAll,reduceCtorEq,Nat.reduceEqDiff,Nat.reduceAdd,Nat.reduceLT,Nat.reduceLeDiff,Nat.beq]
theorem cal50 {p:Pt} (h:fitP p):cal env 50 [ePt p]=some [(.int .i64 (chkP p),false)]:=by
 obtain ⟨h1,h2,h3⟩:=h
 have e0:=cal92 (n:=p.site) (low:=0)
 have e1:=cal93 (l:=p.lin) h1
 have e2:=cal85 (im:=p.img) h3
 have Z:((0:Int) != 0)=false:=rfl
 unfold chkP
 rw [ePt_eq]
 by_cases c1:p.site<0∨1073741824<p.site
 ·have G1:(decide (p.site ≥ 0)&&decide (p.site≤1073741824))=false:=by simp;omega
  rw [G1] at e0
  rw [if_pos c1]
  rw [cal_code env50 rfl];simp only [fn50,slAll,Nat.reduceBEq,Nat.reduceLeDiff,Nat.reduceAdd,List.length_cons,List.length_nil]
  simp only [e0,slAll,slsAll,Nat.reduceMul,Nat.reduceBEq,Nat.reduceLT,Nat.reduceLeDiff,memAll,vAll,reduceCtorEq,Nat.reduceEqDiff,Nat.reduceAdd,Nat.reduceLT,Nat.reduceLeDiff,Nat.beq]
 ·have G1:(decide (p.site ≥ 0)&&decide (p.site≤1073741824))=true:=by simp;omega
  rw [G1] at e0
  rw [if_neg c1]
  cases c3:linOk p.lin with
  |false =>
   rw [c3] at e1
   rw [if_pos rfl]
   rw [cal_code env50 rfl];simp only [fn50,slAll,Nat.reduceBEq,Nat.reduceLeDiff,Nat.reduceAdd,List.length_cons,List.length_nil]
   simp only [e0,e1,slAll,slsAll,Nat.reduceMul,Nat.reduceBEq,Nat.reduceLT,Nat.reduceLeDiff,memAll,vAll,reduceCtorEq,Nat.reduceEqDiff,Nat.reduceAdd,Nat.reduceLT,Nat.reduceLeDiff,Nat.beq]
  |true =>
   rw [c3] at e1
   rw [if_neg (by decide)]
   by_cases c4:imCheck p.img=0
   ·rw [c4] at e2
    rw [if_neg (by rw [c4];decide)]
    by_cases c5:p.dirty.length=p.img.length
    ·have G5:((p.dirty.length:Int) != (p.img.length:Int))=false:=by simp [c5]
     rw [if_neg (by simpa using c5)]
     rw [cal_code env50 rfl];simp only [fn50,slAll,Nat.reduceBEq,Nat.reduceLeDiff,Nat.reduceAdd,List.length_cons,List.length_nil]
     simp only [e0,e1,e2,Z,G5,List.length_map,slAll,slsAll,Nat.reduceMul,Nat.reduceBEq,Nat.reduceLT,Nat.reduceLeDiff,memAll,vAll,reduceCtorEq,Nat.reduceEqDiff,Nat.reduceAdd,Nat.reduceLT,Nat.reduceLeDiff,Nat.beq]
     rw [loop50 (p:=p) h2 c5]
     rotate_left
     ·rw [bPt_eq]
      simp only [slAll,slsAll,Nat.reduceMul,Nat.reduceBEq,Nat.reduceLT,Nat.reduceLeDiff,Nat.reduceAdd,decide_true,Bool.and_self,Bool.true_and]<;>rfl
     ·rw [List.drop_zero,List.drop_zero]
      unfold resD
      split
      ·rename_i c6
       rw [c6]
       simp only [e0,e1,e2,Z,G5,List.length_map,slAll,slsAll,Nat.reduceMul,Nat.reduceBEq,Nat.reduceLT,Nat.reduceLeDiff,memAll,vAll,reduceCtorEq,Nat.reduceEqDiff,Nat.reduceAdd,Nat.reduceLT,Nat.reduceLeDiff,Nat.beq]
      ·simp only [e0,e1,e2,Z,G5,List.length_map,slAll,slsAll,Nat.reduceMul,Nat.reduceBEq,Nat.reduceLT,Nat.reduceLeDiff,memAll,vAll,reduceCtorEq,Nat.reduceEqDiff,Nat.reduceAdd,Nat.reduceLT,Nat.reduceLeDiff,Nat.beq]
    ·have G5:((p.dirty.length:Int) != (p.img.length:Int))=true:=by simp;omega
     rw [if_pos c5]
     rw [cal_code env50 rfl];simp only [fn50,slAll,Nat.reduceBEq,Nat.reduceLeDiff,Nat.reduceAdd,List.length_cons,List.length_nil]
     simp only [e0,e1,e2,Z,G5,List.length_map,slAll,slsAll,Nat.reduceMul,Nat.reduceBEq,Nat.reduceLT,Nat.reduceLeDiff,memAll,vAll,reduceCtorEq,Nat.reduceEqDiff,Nat.reduceAdd,Nat.reduceLT,Nat.reduceLeDiff,Nat.beq]
   ·have G4:(imCheck p.img != 0)=true:=by simpa using c4
    rw [if_pos c4]
    rw [cal_code env50 rfl];simp only [fn50,slAll,Nat.reduceBEq,Nat.reduceLeDiff,Nat.reduceAdd,List.length_cons,List.length_nil]
    simp only [e0,e1,e2,G4,List.length_map,slAll,slsAll,Nat.reduceMul,Nat.reduceBEq,Nat.reduceLT,Nat.reduceLeDiff,memAll,vAll,reduceCtorEq,Nat.reduceEqDiff,Nat.reduceAdd,Nat.reduceLT,Nat.reduceLeDiff,Nat.beq]
end Go.Proofs.YtioijcfcehhmdaaGreatDoor.V

namespace Go.Proofs.YtioijcfcehhmdaaGreatDoor.V
theorem eqF_sz:∀ a b:Img,eqF (fun x y:List Sec=>decide (x.length=y.length)) a b=decide (imSizes a=imSizes b)
 |[],[]=>rfl
 |[],y :: b=>by simp [eqF,imSizes]
 |x :: a,[]=>by simp [eqF,imSizes]
 |x :: a,y :: b=>by
  have ih:=eqF_sz a b
  unfold eqF at ih ⊢
  have e0:decide (imSizes (x :: a)=imSizes (y :: b))=(decide (x.length=y.length)&&decide (imSizes a=imSizes b)):=by
   rw [← Bool.decide_and]
   exact decide_eq_decide.2 (by simp only [imSizes,List.map_cons,List.cons.injEq];exact and_congr Int.ofNat_inj Iff.rfl)
  rw [e0,← ih]
  simp only [List.length_cons,List.zip_cons_cons,List.all_cons]
  have e2:decide (a.length+1=b.length+1)=decide (a.length=b.length):=decide_eq_decide.2 (by omega)
  rw [e2]
  cases decide (x.length=y.length)<;>cases decide (a.length=b.length)<;>simp
theorem sz_step {a b:Img} {i:Nat} (h1:i<a.length) (h2:i<b.length):decide (imSizes (a.drop i)=imSizes (b.drop i))=(decide (a[i].length=b[i].length)&&decide (imSizes (a.drop (i+1))=imSizes (b.drop (i+1)))):=by
 rw [List.drop_eq_getElem_cons h1,List.drop_eq_getElem_cons h2,← Bool.decide_and]
 exact decide_eq_decide.2 (by simp only [imSizes,List.map_cons,List.cons.injEq];exact and_congr Int.ofNat_inj Iff.rfl)
def resB (n d:Nat) (t:Bool) (bx:List Box):Option (Ex × St):=if t then some (.normal,⟨sl n [(d,.any)],bx,[],none⟩) else some (.ret,⟨sl n [(d,.pv (.bool false))],bx,[],none⟩)
theorem resB_t (n d:Nat) (bx:List Box):resB n d true bx=some (.normal,⟨sl n [(d,.any)],bx,[],none⟩):=rfl
theorem resB_f (n d:Nat) (bx:List Box):resB n d false bx=some (.ret,⟨sl n [(d,.pv (.bool false))],bx,[],none⟩):=rfl
theorem loop113 {a b:Pt} (hl:a.img.length≤lim) (hq:a.img.length=b.img.length) {st:St} (h:st.head [2,3,5] st.boxes.length=some ⟨sl 33 [(2,.pbox 0 0),(3,.pbox 1 0),(5,.pv (.int .i64 (0:Nat)))],[⟨false,bPt a⟩,⟨false,bPt b⟩],[],none⟩) :
  den env fn113_l1 st=resB 33 4 (decide (imSizes (a.img.drop ((0:Nat)))=imSizes (b.img.drop ((0:Nat))))) [⟨false,bPt a⟩,⟨false,bPt b⟩]:=by
 unfold fn113_l1
 refine clean_up (env:=env) (nb:=2) (a.img.length) (fun i=>⟨sl 33 [(2,.pbox 0 0),(3,.pbox 1 0),(5,.pv (.int .i64 i))],[⟨false,bPt a⟩,⟨false,bPt b⟩],[],none⟩) (fun i=>resB 33 4 (decide (imSizes (a.img.drop (i))=imSizes (b.img.drop (i)))) [⟨false,bPt a⟩,⟨false,bPt b⟩]) h (fun _=>rfl) (fun _=>by simp only [slAll,slsAll,Nat.reduceMul,Nat.reduceBEq,Nat.reduceLT,Nat.reduceLeDiff,Nat.reduceAdd,decide_true,Bool.and_self,Bool.true_and]) ?_ ?_
 ·intro i rb hi ih
  have hi1:=i64_next hi hl
  have hj:i<b.img.length:=by omega
  have F1:((i:Int)<(a.img.length:Int))=True:=eq_true (by omega)
  have eV:∀ v:List Sec,eSecs v=.list 8 (v.map eSec):=fun _=>rfl
  have hx:(a.img.map eSecs)[i]?=some (eSecs a.img[i]):=by rw [List.getElem?_map,List.getElem?_eq_getElem hi];rfl
  have hy:(b.img.map eSecs)[i]?=some (eSecs b.img[i]):=by rw [List.getElem?_map,List.getElem?_eq_getElem hj];rfl
  rw [eV] at hx hy
  rw [sz_step hi hj]
  by_cases c:a.img[i].length=b.img[i].length
  ·have G:((a.img[i].length:Int) != (b.img[i].length:Int))=false:=by simp [c]
   rw [decide_eq_true c,Bool.true_and]
   simp only [fn113_b0,F1,hx,hy,G,bPt_eq,index_nat hi,index_nat hj,List.length_map,slAll,slsAll,Nat.reduceMul,Nat.reduceBEq,Nat.reduceLT,Nat.reduceLeDiff,memAll,vAll,reduceCtorEq,Nat.reduceEqDiff,Nat.reduceAdd,Nat.reduceLT,Nat.reduceLeDiff,Nat.beq]
   rw [ih _ (by simp only [hi1,bPt_eq,slAll,slsAll,Nat.reduceMul,Nat.reduceBEq,Nat.reduceLT,Nat.reduceLeDiff,memAll,vAll,reduceCtorEq,Nat.reduceEqDiff,Nat.reduceAdd,Nat.reduceLT,Nat.reduceLeDiff,Nat.beq]<;>rfl)]
   all_goals rfl
  ·have G:((a.img[i].length:Int) != (b.img[i].length:Int))=true:=by simp;omega
   rw [decide_eq_false c,Bool.false_and,resB_f]
   simp only [fn113_b0,F1,hx,hy,G,bPt_eq,index_nat hi,index_nat hj,List.length_map,slAll,slsAll,Nat.reduceMul,Nat.reduceBEq,Nat.reduceLT,Nat.reduceLeDiff,memAll,vAll,reduceCtorEq,Nat.reduceEqDiff,Nat.reduceAdd,Nat.reduceLT,Nat.reduceLeDiff,Nat.beq]
 ·intro rb
  rw [List.drop_length,hq,List.drop_length,decide_eq_true rfl,resB_t]
  simp only [fn113_b0,Int.lt_irrefl,hq,bPt_eq,List.length_map,slAll,slsAll,Nat.reduceMul,Nat.reduceBEq,Nat.reduceLT,Nat.reduceLeDiff,memAll,vAll,reduceCtorEq,Nat.reduceEqDiff,Nat.reduceAdd,Nat.reduceLT,Nat.reduceLeDiff,Nat.beq]
theorem cal113 {a b:Pt} (hl:a.img.length≤lim):cal env 113 [ePt a,ePt b]=some [(.bool (decide (imSizes a.img=imSizes b.img)),false)]:=by
 rw [ePt_eq,ePt_eq]
 by_cases c:a.img.length=b.img.length
 ·have G:((a.img.length:Int) != (b.img.length:Int))=false:=by simp [c]
  rw [cal_code env113 rfl];simp only [fn113,slAll,Nat.reduceBEq,Nat.reduceLeDiff,Nat.reduceAdd,List.length_cons,List.length_nil]
  simp only [G,List.length_map,slAll,slsAll,Nat.reduceMul,Nat.reduceBEq,Nat.reduceLT,Nat.reduceLeDiff,memAll,vAll,reduceCtorEq,Nat.reduceEqDiff,Nat.reduceAdd,Nat.reduceLT,Nat.reduceLeDiff,Nat.beq]
  rw [loop113 (a:=a) (b:=b) hl c]
  rotate_left
  ·rw [bPt_eq,bPt_eq]
   simp only [slAll,slsAll,Nat.reduceMul,Nat.reduceBEq,Nat.reduceLT,Nat.reduceLeDiff,Nat.reduceAdd,decide_true,Bool.and_self,Bool.true_and]<;>rfl
  ·rw [List.drop_zero,List.drop_zero]
   cases decide (imSizes a.img=imSizes b.img) with
   |true =>
    rw [resB_t]
    simp only [G,List.length_map,slAll,slsAll,Nat.reduceMul,Nat.reduceBEq,Nat.reduceLT,Nat.reduceLeDiff,memAll,vAll,reduceCtorEq,Nat.reduceEqDiff,Nat.reduceAdd,Nat.reduceLT,Nat.reduceLeDiff,Nat.beq]
   |false =>
    rw [resB_f]
    simp only [G,List.length_map,slAll,slsAll,Nat.reduceMul,Nat.reduceBEq,Nat.reduceLT,Nat.reduceLeDiff,memAll,vAll,reduceCtorEq,Nat.reduceEqDiff,Nat.reduceAdd,Nat.reduceLT,Nat.reduceLeDiff,Nat.beq]
 ·have G:((a.img.length:Int) != (b.img.length:Int))=true:=by simp;omega
  have:imSizes a.img≠imSizes b.img:=fun h=>c (by have:=congrArg List.length h;simpa [imSizes] using this)
  rw [decide_eq_false this]
  rw [cal_code env113 rfl];simp only [fn113,slAll,Nat.reduceBEq,Nat.reduceLeDiff,Nat.reduceAdd,List.length_cons,List.length_nil]
  simp only [G,List.length_map,slAll,slsAll,Nat.reduceMul,Nat.reduceBEq,Nat.reduceLT,Nat.reduceLeDiff,memAll,vAll,reduceCtorEq,Nat.reduceEqDiff,Nat.reduceAdd,Nat.reduceLT,Nat.reduceLeDiff,Nat.beq]
theorem cal135 {x y:List Sec}:cal env 135 [eSecs x,eSecs y]=some [(.bool (decide (x.length=y.length)),false)]:=by
 have eV:∀ v:List Sec,eSecs v=.list 8 (v.map eSec):=fun _=>rfl
 rw [eV,eV]
 by_cases c:x.length=y.length
 ·have G:((x.length:Int)==(y.length:Int))=true:=by simp [c]
  rw [decide_eq_true c]
  rw [cal_code env135 rfl];simp only [fn135,slAll,Nat.reduceBEq,Nat.reduceLeDiff,Nat.reduceAdd,List.length_cons,List.length_nil]
  simp only [G,List.length_map,slAll,slsAll,Nat.reduceMul,Nat.reduceBEq,Nat.reduceLT,Nat.reduceLeDiff,memAll,vAll,reduceCtorEq,Nat.reduceEqDiff,Nat.reduceAdd,Nat.reduceLT,Nat.reduceLeDiff,Nat.beq]
 ·have G:((x.length:Int)==(y.length:Int))=false:=by simp;omega
  rw [decide_eq_false c]
  rw [cal_code env135 rfl];simp only [fn135,slAll,Nat.reduceBEq,Nat.reduceLeDiff,Nat.reduceAdd,List.length_cons,List.length_nil]
  simp only [G,List.length_map,slAll,slsAll,Nat.reduceMul,Nat.reduceBEq,Nat.reduceLT,Nat.reduceLeDiff,memAll,vAll,reduceCtorEq,Nat.reduceEqDiff,Nat.reduceAdd,Nat.reduceLT,Nat.reduceLeDiff,Nat.beq]
theorem cal111 {a b:Img} (hl:a.length≤lim):cal env 111 [.list 1 (a.map eSecs),.list 1 (b.map eSecs)]=some [(.bool (decide (imSizes a=imSizes b)),false)]:=by
 have e1:=cal86 (enc:=eSecs) (enc2:=eSecs) (eq:=fun x y:List Sec=>decide (x.length=y.length)) (l:=a) (m:=b) (gf:=135) (caps:=[]) (fun x _ y _=>cal135) (fun _=>rfl) (fun _=>rfl) hl
 rw [eqF_sz] at e1
 rw [cal_code env111 rfl];simp only [fn111,slAll,Nat.reduceBEq,Nat.reduceLeDiff,Nat.reduceAdd,List.length_cons,List.length_nil]
 simp only [e1,slAll,slsAll,Nat.reduceMul,Nat.reduceBEq,Nat.reduceLT,Nat.reduceLeDiff,memAll,vAll,reduceCtorEq,Nat.reduceEqDiff,Nat.reduceAdd,Nat.reduceLT,Nat.reduceLeDiff,Nat.beq]
def frsE:List Pt→Int
 |[]=>0
 |p :: l=>if chkP p=0 then frsE l else chkP p
theorem frsE_step {l:List Pt} {i:Nat} (h:i<l.length):frsE (l.drop i)=if chkP l[i]=0 then frsE (l.drop (i+1)) else chkP l[i]:=by
 rw [List.drop_eq_getElem_cons h,frsE]
end Go.Proofs.YtioijcfcehhmdaaGreatDoor.V

namespace Go.Proofs.YtioijcfcehhmdaaGreatDoor.V
end Go.Proofs.YtioijcfcehhmdaaGreatDoor.V

namespace Go.Proofs.YtioijcfcehhmdaaGreatDoor.V
def getX (b:Bm) (s:Int):Bool:=okB b&&(decide (0≤s)&&(decide (s<b.size)&&bit b.ws s.toNat))
theorem cal154 {b:Bm} {s:Int}:cal env 154 [eBm b,.int .i64 s]=some [(.bool (getX b s),false)]:=by
 have e1:=cal102 (b:=b)
 have P:∀ x y:PV,part [x,y] 0 (some 2)=some (.agg [x,y]):=fun _ _=>rfl
 have eA:eBm b=.agg [.int .i64 b.size,.list 1 (b.ws.map eW)]:=rfl
 have Z0:((0:Int)==0)=true:=rfl
 have Z3:((3:Int)==0)=false:=rfl
 unfold getX
 cases c:okB b with
 |false =>
  rw [bmE_no c] at e1
  rw [eA] at e1 ⊢
  rw [cal_code env154 rfl];simp only [fn154,slAll,Nat.reduceBEq,Nat.reduceLeDiff,Nat.reduceAdd,List.length_cons,List.length_nil]
  simp only [e1,Z3,P,slAll,slsAll,Nat.reduceMul,Nat.reduceBEq,Nat.reduceLT,Nat.reduceLeDiff,memAll,vAll,reduceCtorEq,Nat.reduceEqDiff,Nat.reduceAdd,Nat.reduceLT,Nat.reduceLeDiff,Nat.beq]
 |true =>
  rw [bmE_ok c] at e1
  have hs:=okB_size c
  by_cases c0:0≤s
  ·have F0:(s ≥ 0)=True:=eq_true c0
   rw [decide_eq_true c0]
   by_cases c1:s<b.size
   ·have F1:(s<b.size)=True:=eq_true c1
    rw [decide_eq_true c1]
    obtain ⟨i,rfl⟩:∃ i:Nat,s=(i:Int):=⟨s.toNat,by omega⟩
    have h:i / 64<b.ws.length:=by omega
    have e2:=cal103 (b:=b) (i:=i) h (by omega)
    have e9:(i:Int).toNat=i:=by omega
    rw [e9]
    rw [eA] at e1 e2 ⊢
    rw [cal_code env154 rfl];simp only [fn154,slAll,Nat.reduceBEq,Nat.reduceLeDiff,Nat.reduceAdd,List.length_cons,List.length_nil]
    simp only [e1,e2,Z0,P,F0,F1,slAll,slsAll,Nat.reduceMul,Nat.reduceBEq,Nat.reduceLT,Nat.reduceLeDiff,memAll,vAll,reduceCtorEq,Nat.reduceEqDiff,Nat.reduceAdd,Nat.reduceLT,Nat.reduceLeDiff,Nat.beq]
   ·have F1:(s<b.size)=False:=eq_false c1
    rw [decide_eq_false c1]
    rw [eA] at e1 ⊢
    rw [cal_code env154 rfl];simp only [fn154,slAll,Nat.reduceBEq,Nat.reduceLeDiff,Nat.reduceAdd,List.length_cons,List.length_nil]
    simp only [e1,Z0,P,F0,F1,slAll,slsAll,Nat.reduceMul,Nat.reduceBEq,Nat.reduceLT,Nat.reduceLeDiff,memAll,vAll,reduceCtorEq,Nat.reduceEqDiff,Nat.reduceAdd,Nat.reduceLT,Nat.reduceLeDiff,Nat.beq]
  ·have F0:(s ≥ 0)=False:=eq_false c0
   rw [decide_eq_false c0]
   rw [eA] at e1 ⊢
   rw [cal_code env154 rfl];simp only [fn154,slAll,Nat.reduceBEq,Nat.reduceLeDiff,Nat.reduceAdd,List.length_cons,List.length_nil]
   simp only [e1,Z0,P,F0,slAll,slsAll,Nat.reduceMul,Nat.reduceBEq,Nat.reduceLT,Nat.reduceLeDiff,memAll,vAll,reduceCtorEq,Nat.reduceEqDiff,Nat.reduceAdd,Nat.reduceLT,Nat.reduceLeDiff,Nat.beq]
end Go.Proofs.YtioijcfcehhmdaaGreatDoor.V

namespace Go.Proofs.YtioijcfcehhmdaaGreatDoor.V
def dir (a:Pt) (v:Nat):Bm:=a.dirty.getD v ⟨0,[]⟩
def mk2 (a b:Pt) (v k:Nat):Bool:=getX (dir a v) (k:Int) || getX (dir b v) (k:Int)
theorem dir_at {a:Pt} {v:Nat} (h:v<a.dirty.length):(a.dirty.map eBm)[v]?=some (eBm (dir a v)):=by
 rw [List.getElem?_map,List.getElem?_eq_getElem h]
 unfold dir
 rw [List.getD_eq_getElem?_getD,List.getElem?_eq_getElem h]
 rfl
theorem cal137 {a b:Pt} {v k:Nat} (ha:v<a.dirty.length) (hb:v<b.dirty.length):cal env 137 [ePt a,ePt b,.int .i64 v,.int .i64 k]=some [(.bool (mk2 a b v k),false)]:=by
 have e1:=cal154 (b:=dir a v) (s:=(k:Int))
 have e2:=cal154 (b:=dir b v) (s:=(k:Int))
 have eA:∀ b:Bm,eBm b=.agg [.int .i64 b.size,.list 1 (b.ws.map eW)]:=fun _=>rfl
 have P2:∀ a b:PV,part [a,b] 0 (some 2)=some (.agg [a,b]):=fun _ _=>rfl
 have hx:=dir_at ha
 have hy:=dir_at hb
 unfold mk2
 rw [ePt_eq,ePt_eq]
 rw [eA] at e1 e2 hx hy
 cases c1:getX (dir a v) (k:Int) with
 |true =>
  rw [c1] at e1
  rw [Bool.true_or]
  rw [cal_code env137 rfl];simp only [fn137,slAll,Nat.reduceBEq,Nat.reduceLeDiff,Nat.reduceAdd,List.length_cons,List.length_nil]
  simp only [e1,P2,hx,index_nat ha,List.length_map,slAll,slsAll,Nat.reduceMul,Nat.reduceBEq,Nat.reduceLT,Nat.reduceLeDiff,memAll,vAll,reduceCtorEq,Nat.reduceEqDiff,Nat.reduceAdd,Nat.reduceLT,Nat.reduceLeDiff,Nat.beq]
 |false =>
  rw [c1] at e1
  rw [Bool.false_or]
  rw [cal_code env137 rfl];simp only [fn137,slAll,Nat.reduceBEq,Nat.reduceLeDiff,Nat.reduceAdd,List.length_cons,List.length_nil]
  simp only [e1,e2,P2,hx,hy,index_nat ha,index_nat hb,List.length_map,slAll,slsAll,Nat.reduceMul,Nat.reduceBEq,Nat.reduceLT,Nat.reduceLeDiff,memAll,vAll,reduceCtorEq,Nat.reduceEqDiff,Nat.reduceAdd,Nat.reduceLT,Nat.reduceLeDiff,Nat.beq]
def fkN (p:Nat→Bool) (n:Nat):List Nat:=(List.range n).filter p
theorem fkN_succ (p:Nat→Bool) (n:Nat):fkN p (n+1)=if p n then fkN p n++[n] else fkN p n:=by
 unfold fkN
 rw [List.range_succ,List.filter_append]
 cases h:p n<;>simp [h]
theorem fkN_lt {p:Nat→Bool} {n i:Nat} (h:i∈fkN p n):i<n:=by
 simp only [fkN,List.mem_filter,List.mem_range] at h;exact h.1
theorem fkN_len (p:Nat→Bool) (n:Nat):(fkN p n).length≤n:=by
 have:=List.length_filter_le p (List.range n);simpa [fkN] using this
def vLen (a:Pt) (i:Nat):Nat:=(a.img.getD i []).length
def btw (a b:Pt) (n:Nat):List (List Exn):=(List.range n).map fun i=>ext (mk2 a b i) (vLen a i)
def btwC (a b:Pt):Nat→Nat
 |0=>0
 |i+1=>btwC a b i+(fkN (mk2 a b i) (vLen a i)).length
theorem btw_succ (a b:Pt) (n:Nat):btw a b (n+1)=btw a b n++[ext (mk2 a b n) (vLen a n)]:=by
 unfold btw;rw [List.range_succ,List.map_append];rfl
theorem btw_len (a b:Pt) (n:Nat):(btw a b n).length=n:=by simp [btw]
theorem btwC_le {a:Pt} (b:Pt) (h:∀ i,vLen a i≤4096):∀ n,btwC a b n≤4096 * n
 |0=>Nat.le_refl _
 |n+1=>by
  have:=btwC_le b h n
  have:=fkN_len (mk2 a b n) (vLen a n)
  have:=h n
  unfold btwC
  omega
def eExs (l:List Exn):PV:=.list 2 (l.map eExt)
def resW (n:Nat) (o:List (List Exn)) (c:Nat) (i:Nat) (l:List Exn) (c2:Nat) (bx:List Box):Option (Ex × St):=some (.normal,⟨sl n [(2,.pbox 0 0),(3,.pbox 1 0),(4,.any),(5,.any),(6,.row 1 (o.map eExs)),(7,.pv (.int .i64 ((c+c2:Nat):Int))),(8,.pv (.int .i64 i)),(9,.row 2 (l.map eExt)),(71,.any),(75,.any)],bx,[],none⟩)
set_option maxRecDepth 20000 in
theorem loop114 {a b:Pt} {v c:Nat} {o:List (List Exn)} (ha:v<a.dirty.length) (hb:v<b.dirty.length) (hv:v<a.img.length) (hc:c≤1000000) (hn:vLen a v≤4096) {st:St} (h:st.head [2,3,6,7,8,9,10,71,75] st.boxes.length=some ⟨sl 78 [(2,.pbox 0 0),(3,.pbox 1 0),(6,.row 1 (o.map eExs)),(7,.pv (.int .i64 ((c+(fkN (mk2 a b v) ((0:Nat))).length:Nat):Int))),(8,.pv (.int .i64 v)),(9,.row 2 ((exts (fkN (mk2 a b v) ((0:Nat)))).map eExt)),(10,.pv (.int .i64 (0:Nat))),(71,.any),(75,.any)],[⟨false,bPt a⟩,⟨false,bPt b⟩],[],none⟩) :
  den env fn114_l1 st=resW 78 o c v (ext (mk2 a b v) (vLen a v)) (fkN (mk2 a b v) (vLen a v)).length [⟨false,bPt a⟩,⟨false,bPt b⟩]:=by
 unfold fn114_l1
 refine clean_up (env:=env) (nb:=2) (vLen a v) (fun i=>⟨sl 78 [(2,.pbox 0 0),(3,.pbox 1 0),(6,.row 1 (o.map eExs)),(7,.pv (.int .i64 ((c+(fkN (mk2 a b v) (i)).length:Nat):Int))),(8,.pv (.int .i64 v)),(9,.row 2 ((exts (fkN (mk2 a b v) (i))).map eExt)),(10,.pv (.int .i64 i)),(71,.any),(75,.any)],[⟨false,bPt a⟩,⟨false,bPt b⟩],[],none⟩) (fun i=>resW 78 o c v (ext (mk2 a b v) (vLen a v)) (fkN (mk2 a b v) (vLen a v)).length [⟨false,bPt a⟩,⟨false,bPt b⟩]) h (fun _=>rfl) (fun _=>by simp only [slAll,slsAll,Nat.reduceMul,Nat.reduceBEq,Nat.reduceLT,Nat.reduceLeDiff,Nat.reduceAdd,decide_true,Bool.and_self,Bool.true_and]) ?_ ?_
 ·intro i rb hi ih
  have hi1:=i64_next hi (by unfold lim;omega)
  have eV:∀ v:List Sec,eSecs v=.list 8 (v.map eSec):=fun _=>rfl
  have hg:a.img.getD v []=a.img[v]:=by rw [List.getD_eq_getElem?_getD,List.getElem?_eq_getElem hv];rfl
  have hL:vLen a v=a.img[v].length:=by unfold vLen;rw [hg]
  have hx:(a.img.map eSecs)[v]?=some (eSecs a.img[v]):=by rw [List.getElem?_map,List.getElem?_eq_getElem hv];rfl
  have F1:((i:Int)<(a.img[v].length:Int))=True:=eq_true (by omega)
  have P4:∀ a b c d:PV,part [a,b,c,d] 0 (some 4)=some (.agg [a,b,c,d]):=fun _ _ _ _=>rfl
  have e1:=cal137 (k:=i) ha hb
  have hlen:=fkN_len (mk2 a b v) i
  rw [eV] at hx
  rw [ePt_eq,ePt_eq] at e1
  cases cm:mk2 a b v i with
  |false =>
   rw [cm] at e1
   have hs:fkN (mk2 a b v) (i+1)=fkN (mk2 a b v) i:=by rw [fkN_succ,if_neg (by rw [cm];decide)]
   rw [hs] at ih
   simp only [fn114_b0,F1,hx,e1,P4,bPt_eq,index_nat hv,List.length_map,slAll,slsAll,Nat.reduceMul,Nat.reduceBEq,Nat.reduceLT,Nat.reduceLeDiff,memAll,vAll,reduceCtorEq,Nat.reduceEqDiff,Nat.reduceAdd,Nat.reduceLT,Nat.reduceLeDiff,Nat.beq]
   rw [ih _ (by simp only [hi1,bPt_eq,slAll,slsAll,Nat.reduceMul,Nat.reduceBEq,Nat.reduceLT,Nat.reduceLeDiff,memAll,vAll,reduceCtorEq,Nat.reduceEqDiff,Nat.reduceAdd,Nat.reduceLT,Nat.reduceLeDiff,Nat.beq]<;>rfl)]
   all_goals rfl
  |true =>
   rw [cm] at e1
   have hs:fkN (mk2 a b v) (i+1)=fkN (mk2 a b v) i++[i]:=by rw [fkN_succ,if_pos cm]
   have hw:IntKind.i64.wrap (((c+(fkN (mk2 a b v) i).length:Nat):Int)+1)=((c+(fkN (mk2 a b v) i++[i]).length:Nat):Int):=by
    rw [i64_fits (by omega),List.length_append]
    simp only [List.length_singleton]
    omega
   have hlim:lim=1073741824:=rfl
   rw [hs] at ih
   rcases snoc_cases (fkN (mk2 a b v) i) with h0|⟨p,j,h0⟩
   ·have e0:exts (fkN (mk2 a b v) i)=[]:=by rw [h0];rfl
    have hE:(exts (fkN (mk2 a b v) i++[i])).map eExt=[.agg [.int .i64 i,.int .i64 1]]:=by rw [exts_snoc,e0];rfl
    rw [hE] at ih
    have F2:(((0:Nat):Int) > 0)=False:=eq_false (by omega)
    have F3:(0+1≤lim)=True:=eq_true (by omega)
    simp only [fn114_b0,F1,F2,F3,hx,e1,e0,hw,P4,bPt_eq,index_nat hv,List.length_map,List.map_nil,List.length_nil,slAll,slsAll,Nat.reduceMul,Nat.reduceBEq,Nat.reduceLT,Nat.reduceLeDiff,memAll,vAll,reduceCtorEq,Nat.reduceEqDiff,Nat.reduceAdd,Nat.reduceLT,Nat.reduceLeDiff,Nat.beq]
    rw [ih _ (by simp only [hi1,bPt_eq,slAll,slsAll,Nat.reduceMul,Nat.reduceBEq,Nat.reduceLT,Nat.reduceLeDiff,memAll,vAll,reduceCtorEq,Nat.reduceEqDiff,Nat.reduceAdd,Nat.reduceLT,Nat.reduceLeDiff,Nat.beq]<;>rfl)]
    all_goals rfl
   ·obtain ⟨pre,⟨s,q⟩,e0,h1,h2,h3,h4⟩:=exts_last _ p rfl j
    rw [← h0] at e0
    have hji:j<i:=fkN_lt (p:=mk2 a b v) (show j∈fkN (mk2 a b v) i by rw [h0];simp)
    have hpl:p.length+1≤i:=by rw [h0] at hlen;simpa using hlen
    simp only at h1 h2 h3
    have F2:(((pre.length+1:Nat):Int) > 0)=True:=eq_true (by omega)
    have F3:=wrap_pred (n:=pre.length) (by omega)
    have F4:IntKind.i64.wrap (s+q)=s+q:=i64_fits (by omega)
    have F5:IntKind.i64.wrap (q+1)=q+1:=i64_fits (by omega)
    have F6:(pre.length+1+1≤lim)=True:=eq_true (by omega)
    have F7:index (.int .i64 (pre.length:Int)) (pre.length+1)=some pre.length:=index_nat (by omega)
    by_cases c7:s+q=(i:Int)
    ·have hE:(exts (fkN (mk2 a b v) i++[i])).map eExt=pre.map eExt++[.agg [.int .i64 s,.int .i64 (q+1)]]:=by rw [exts_snoc,e0,addAt_snoc,if_pos c7,List.map_append];rfl
     rw [hE] at ih
     have G:(s+q==(i:Int))=true:=by simpa using c7
     simp only [fn114_b0,F1,F2,F3,F4,F5,F6,F7,G,hx,e1,e0,hw,P4,bPt_eq,eExt,index_nat hv,List.length_map,List.map_append,List.map_cons,List.map_nil,slAll,slsAll,Nat.reduceMul,Nat.reduceBEq,Nat.reduceLT,Nat.reduceLeDiff,memAll,vAll,reduceCtorEq,Nat.reduceEqDiff,Nat.reduceAdd,Nat.reduceLT,Nat.reduceLeDiff,Nat.beq]
     rw [ih _ (by simp only [hi1,bPt_eq,eExt,slAll,slsAll,Nat.reduceMul,Nat.reduceBEq,Nat.reduceLT,Nat.reduceLeDiff,memAll,vAll,reduceCtorEq,Nat.reduceEqDiff,Nat.reduceAdd,Nat.reduceLT,Nat.reduceLeDiff,Nat.beq]<;>rfl)]
     all_goals rfl
    ·have hE:(exts (fkN (mk2 a b v) i++[i])).map eExt=pre.map eExt++[.agg [.int .i64 s,.int .i64 q]]++[.agg [.int .i64 i,.int .i64 1]]:=by rw [exts_snoc,e0,addAt_snoc,if_neg c7,List.map_append,List.map_append];rfl
     rw [hE] at ih
     have G:(s+q==(i:Int))=false:=by simpa using c7
     simp only [fn114_b0,F1,F2,F3,F4,F5,F6,F7,G,hx,e1,e0,hw,P4,bPt_eq,eExt,index_nat hv,List.length_map,List.map_append,List.map_cons,List.map_nil,slAll,slsAll,Nat.reduceMul,Nat.reduceBEq,Nat.reduceLT,Nat.reduceLeDiff,memAll,vAll,reduceCtorEq,Nat.reduceEqDiff,Nat.reduceAdd,Nat.reduceLT,Nat.reduceLeDiff,Nat.beq]
     rw [ih _ (by simp only [hi1,bPt_eq,eExt,slAll,slsAll,Nat.reduceMul,Nat.reduceBEq,Nat.reduceLT,Nat.reduceLeDiff,memAll,vAll,reduceCtorEq,Nat.reduceEqDiff,Nat.reduceAdd,Nat.reduceLT,Nat.reduceLeDiff,Nat.beq]<;>rfl)]
     all_goals rfl
 ·intro rb
  have eV:∀ v:List Sec,eSecs v=.list 8 (v.map eSec):=fun _=>rfl
  have hg:a.img.getD v []=a.img[v]:=by rw [List.getD_eq_getElem?_getD,List.getElem?_eq_getElem hv];rfl
  have hL:vLen a v=a.img[v].length:=by unfold vLen;rw [hg]
  have hx:(a.img.map eSecs)[v]?=some (eSecs a.img[v]):=by rw [List.getElem?_map,List.getElem?_eq_getElem hv];rfl
  have F1:((vLen a v:Int)<(a.img[v].length:Int))=False:=eq_false (by omega)
  rw [eV] at hx
  unfold resW ext fkN
  simp only [fn114_b0,F1,hx,bPt_eq,index_nat hv,List.length_map,slAll,slsAll,Nat.reduceMul,Nat.reduceBEq,Nat.reduceLT,Nat.reduceLeDiff,memAll,vAll,reduceCtorEq,Nat.reduceEqDiff,Nat.reduceAdd,Nat.reduceLT,Nat.reduceLeDiff,Nat.beq]
set_option maxRecDepth 20000 in
theorem loop114l3 {a b:Pt} (ha:a.dirty.length=a.img.length) (hb:a.img.length≤b.dirty.length) (hl:a.img.length≤8) (hn:∀ i,vLen a i≤4096) {st:St} (h:st.head [2,3,6,7,8,71,75] st.boxes.length=some ⟨sl 78 [(2,.pbox 0 0),(3,.pbox 1 0),(6,.row 1 ((btw a b ((0:Nat))).map eExs)),(7,.pv (.int .i64 (btwC a b ((0:Nat))))),(8,.pv (.int .i64 (0:Nat))),(71,.any),(75,.any)],[⟨false,bPt a⟩,⟨false,bPt b⟩],[],none⟩) :
  den env fn114_l3 st=some (.normal,⟨sl 78 [(4,.any),(5,.any),(6,.row 1 ((btw a b a.img.length).map eExs)),(7,.pv (.int .i64 (btwC a b a.img.length)))],[⟨false,bPt a⟩,⟨false,bPt b⟩],[],none⟩):=by
 unfold fn114_l3
 refine clean_up (env:=env) (nb:=2) (a.img.length) (fun i=>⟨sl 78 [(2,.pbox 0 0),(3,.pbox 1 0),(6,.row 1 ((btw a b (i)).map eExs)),(7,.pv (.int .i64 (btwC a b (i)))),(8,.pv (.int .i64 i)),(71,.any),(75,.any)],[⟨false,bPt a⟩,⟨false,bPt b⟩],[],none⟩) (fun i=>some (.normal,⟨sl 78 [(4,.any),(5,.any),(6,.row 1 ((btw a b a.img.length).map eExs)),(7,.pv (.int .i64 (btwC a b a.img.length)))],[⟨false,bPt a⟩,⟨false,bPt b⟩],[],none⟩)) h (fun _=>rfl) (fun _=>by simp only [slAll,slsAll,Nat.reduceMul,Nat.reduceBEq,Nat.reduceLT,Nat.reduceLeDiff,Nat.reduceAdd,decide_true,Bool.and_self,Bool.true_and]) ?_ ?_
 ·intro i rb hi ih
  have hi1:=i64_next hi (by unfold lim;omega)
  have F1:((i:Int)<(a.img.length:Int))=True:=eq_true (by omega)
  have hC:=btwC_le b hn i
  have hs:(btw a b (i+1)).map eExs=(btw a b i).map eExs++[.list 2 ((ext (mk2 a b i) (vLen a i)).map eExt)]:=by rw [btw_succ,List.map_append];rfl
  have hs2:btwC a b (i+1)=btwC a b i+(fkN (mk2 a b i) (vLen a i)).length:=rfl
  have F3:((btw a b i).length+1≤lim)=True:=eq_true (by rw [btw_len];unfold lim;omega)
  rw [hs,hs2] at ih
  simp only [fn114_b2,F1,bPt_eq,List.length_map,slAll,slsAll,Nat.reduceMul,Nat.reduceBEq,Nat.reduceLT,Nat.reduceLeDiff,memAll,vAll,reduceCtorEq,Nat.reduceEqDiff,Nat.reduceAdd,Nat.reduceLT,Nat.reduceLeDiff,Nat.beq]
  rw [loop114 (a:=a) (b:=b) (v:=i) (c:=btwC a b i) (o:=btw a b i) (by omega) (by omega) hi (by omega) (hn i)]
  rotate_left
  ·rw [bPt_eq,bPt_eq]
   simp only [slAll,slsAll,Nat.reduceMul,Nat.reduceBEq,Nat.reduceLT,Nat.reduceLeDiff,Nat.reduceAdd,decide_true,Bool.and_self,Bool.true_and]<;>rfl
  ·unfold resW
   simp only [F3,bPt_eq,List.length_map,slAll,slsAll,Nat.reduceMul,Nat.reduceBEq,Nat.reduceLT,Nat.reduceLeDiff,memAll,vAll,reduceCtorEq,Nat.reduceEqDiff,Nat.reduceAdd,Nat.reduceLT,Nat.reduceLeDiff,Nat.beq]
   rw [ih _ (by simp only [hi1,bPt_eq,slAll,slsAll,Nat.reduceMul,Nat.reduceBEq,Nat.reduceLT,Nat.reduceLeDiff,memAll,vAll,reduceCtorEq,Nat.reduceEqDiff,Nat.reduceAdd,Nat.reduceLT,Nat.reduceLeDiff,Nat.beq]<;>rfl)]
   all_goals rfl
 ·intro rb
  simp only [fn114_b2,Int.lt_irrefl,bPt_eq,List.length_map,slAll,slsAll,Nat.reduceMul,Nat.reduceBEq,Nat.reduceLT,Nat.reduceLeDiff,memAll,vAll,reduceCtorEq,Nat.reduceEqDiff,Nat.reduceAdd,Nat.reduceLT,Nat.reduceLeDiff,Nat.beq]
theorem cal114 {a b:Pt} (ha:a.dirty.length=a.img.length) (hb:a.img.length≤b.dirty.length) (hl:a.img.length≤8) (hn:∀ i,vLen a i≤4096):cal env 114 [ePt a,ePt b]=some [(.list 1 ((btw a b a.img.length).map eExs),true),(.int .i64 (btwC a b a.img.length),false)]:=by
 rw [ePt_eq,ePt_eq]
 rw [cal_code env114 rfl];simp only [fn114,slAll,Nat.reduceBEq,Nat.reduceLeDiff,Nat.reduceAdd,List.length_cons,List.length_nil]
 simp only [List.length_map,slAll,slsAll,Nat.reduceMul,Nat.reduceBEq,Nat.reduceLT,Nat.reduceLeDiff,memAll,vAll,reduceCtorEq,Nat.reduceEqDiff,Nat.reduceAdd,Nat.reduceLT,Nat.reduceLeDiff,Nat.beq]
 rw [loop114l3 (a:=a) (b:=b) ha hb hl hn]
 rotate_left
 ·rw [bPt_eq,bPt_eq]
  simp only [slAll,slsAll,Nat.reduceMul,Nat.reduceBEq,Nat.reduceLT,Nat.reduceLeDiff,Nat.reduceAdd,decide_true,Bool.and_self,Bool.true_and]<;>rfl
 ·simp only [slAll,slsAll,Nat.reduceMul,Nat.reduceBEq,Nat.reduceLT,Nat.reduceLeDiff,memAll,vAll,reduceCtorEq,Nat.reduceEqDiff,Nat.reduceAdd,Nat.reduceLT,Nat.reduceLeDiff,Nat.beq]
end Go.Proofs.YtioijcfcehhmdaaGreatDoor.V

namespace Go.Proofs.YtioijcfcehhmdaaGreatDoor.V
end Go.Proofs.YtioijcfcehhmdaaGreatDoor.V

namespace Go.Proofs.YtioijcfcehhmdaaGreatDoor.V
theorem or_okM {a b:Bm} (ha:okB a=true) (hb:okB b=true) (hs:a.size=b.size):bothE a b=0∧okB (bothO orW a b)=true∧(bothO orW a b).size=a.size∧∀ s:Nat,(s:Int)<a.size→bit (bothO orW a b).ws s=(bit a.ws s || bit b.ws s):=by
 have hE:bothE a b=0:=by unfold bothE;rw [if_neg (by rw [ha];decide),if_neg (by rw [hb];decide),if_neg (by simpa using hs)]
 obtain ⟨_,_,_,hl⟩:=both_ok hE
 have hO:bothO orW a b=⟨a.size,zipB orW a.ws b.ws⟩:=by unfold bothO;rw [if_pos hE]
 have hz:(zipB orW a.ws b.ws).length=a.ws.length:=by simp [zipB,hl]
 have hbit:∀ {i:Nat},i<64 * a.ws.length→bit (zipB orW a.ws b.ws) i=(bit a.ws i || bit b.ws i):=fun hi=>bit_zip (g:=fun x y=>x || y) (fun x y j _=>BitVec.getLsbD_or) hl hi
 have h1:=okB_size ha
 rw [hO]
 refine ⟨hE,okB_iff.2 ⟨⟨h1.1,h1.2.1,?_⟩,fun i hi=>?_⟩,rfl,fun s hlt=>hbit (by omega)⟩
 ·show ((zipB orW a.ws b.ws).length:Int)=_
  rw [hz];exact (okB_iff.1 ha).1.2.2
 ·have hi:a.size≤(i:Int):=hi
  by_cases c:i<64 * a.ws.length
  ·show bit (zipB orW a.ws b.ws) i=false
   rw [hbit c,(okB_iff.1 ha).2 i hi,(okB_iff.1 hb).2 i (by omega)]
   rfl
  ·exact bit_out (by show 64 * (zipB orW a.ws b.ws).length≤i;rw [hz];omega)
theorem extC {p q:Nat→Bool} {m:Nat} (h:∀ t,t<m→p t=q t):ext p m=ext q m:=by
 unfold ext
 congr 1
 apply List.filter_congr
 intro t ht
 exact h t (List.mem_range.1 ht)
theorem dirE_all:∀ {bs:List Bm} {vs:Img},dirE bs vs=0→∀ i (h1:i<bs.length) (h2:i<vs.length),okB bs[i]=true∧bs[i].size=(vs[i].length:Int)
 |[],_,_,i,h1,_=>absurd h1 (Nat.not_lt_zero _)
 |_ :: _,[],_,i,_,h2=>absurd h2 (Nat.not_lt_zero _)
 |b :: bs,v :: vs,h,i,h1,h2=>by
  unfold dirE at h
  split at h
  ·rename_i c;exact absurd h c
  ·rename_i c
   split at h
   ·cases h
   ·rename_i c2
    match i with
    |0 =>
     refine ⟨?_,by simpa using c2⟩
     cases hb:okB b with
     |true=>exact hb
     |false=>unfold bmE at c;rw [hb] at c;exact absurd (by decide) c
    |i+1=>exact dirE_all h i (by simpa using h1) (by simpa using h2)
theorem chkP_ok {p:Pt} (h:chkP p=0):linOk p.lin=true∧imCheck p.img=0∧p.dirty.length=p.img.length∧dirE p.dirty p.img=0:=by
 unfold chkP at h
 split at h
 ·cases h
 ·split at h
  ·cases h
  ·rename_i c
   split at h
   ·rename_i c2;exact absurd h c2
   ·rename_i c2
    split at h
    ·cases h
    ·rename_i c3
     exact ⟨by simpa using c,by simpa using c2,by simpa using c3,h⟩
theorem imCheck_ok {im:Img} (h:imCheck im=0):im.length≤8∧∀ v∈im,v.length≤4096:=by
 unfold imCheck sizesErr at h
 split at h
 ·cases h
 ·rename_i c
  split at h
  ·cases h
  ·rename_i c2
   unfold imSizes at c c2
   rw [List.length_map] at c
   refine ⟨by omega,fun v hv=>?_⟩
   simp only [Bool.not_eq_true,List.any_eq_false,List.mem_map,Bool.or_eq_true,decide_eq_true_eq,not_or] at c2
   have:=(c2 _ ⟨v,hv,rfl⟩).2
   omega
theorem vLen_le {p:Pt} (h:chkP p=0) (i:Nat):vLen p i≤4096:=by
 obtain ⟨_,h2,_,_⟩:=chkP_ok h
 unfold vLen
 rw [List.getD_eq_getElem?_getD]
 cases hg:p.img[i]? with
 |none=>exact Nat.zero_le _
 |some v=>exact (imCheck_ok h2).2 v (List.mem_of_getElem? hg)
theorem vLen_same {a b:Pt} (h:imSizes a.img=imSizes b.img) (i:Nat):vLen a i=vLen b i:=by
 have e:∀ p:Pt,((imSizes p.img).getD i 0)=(vLen p i:Int):=fun p=>by
  unfold imSizes vLen
  rw [List.getD_eq_getElem?_getD,List.getD_eq_getElem?_getD,List.getElem?_map]
  cases p.img[i]?<;>rfl
 have:=e a
 rw [h,e b] at this
 omega
theorem same_len {a b:Pt} (h:imSizes a.img=imSizes b.img):a.img.length=b.img.length:=by
 have:=congrArg List.length h
 simpa [imSizes] using this
theorem dir_ok {p:Pt} (h:chkP p=0) {v:Nat} (hv:v<p.img.length):okB (dir p v)=true∧(dir p v).size=(vLen p v:Int):=by
 obtain ⟨_,_,h3,h4⟩:=chkP_ok h
 have:=dirE_all h4 v (by omega) hv
 unfold dir vLen
 rw [List.getD_eq_getElem?_getD,List.getElem?_eq_getElem (by omega),List.getD_eq_getElem?_getD,List.getElem?_eq_getElem hv]
 exact this
theorem getX_in {b:Bm} (h:okB b=true) {k:Nat} (hk:(k:Int)<b.size):getX b (k:Int)=bit b.ws k:=by
 unfold getX
 rw [h,Bool.true_and,decide_eq_true (by omega),Bool.true_and,decide_eq_true hk,Bool.true_and,Int.toNat_natCast]
theorem mrk_ok {a b:Pt} (ha:chkP a=0) (hb:chkP b=0) (hs:imSizes a.img=imSizes b.img) {v:Nat} (hv:v<a.img.length):bothE (dir a v) (dir b v)=0∧bmX (bothO orW (dir a v) (dir b v))=ext (mk2 a b v) (vLen a v):=by
 have hv2:v<b.img.length:=by rw [← same_len hs];exact hv
 obtain ⟨a1,a2⟩:=dir_ok ha hv
 obtain ⟨b1,b2⟩:=dir_ok hb hv2
 have hL:=vLen_same hs v
 obtain ⟨g1,g2,g3,g4⟩:=or_okM a1 b1 (by rw [a2,b2,hL])
 refine ⟨g1,?_⟩
 unfold bmX bmExts
 rw [if_pos g2,g3,a2,Int.toNat_natCast]
 apply extC
 intro t ht
 rw [g4 t (by omega)]
 unfold mk2
 rw [getX_in a1 (by omega),getX_in b1 (by omega)]
end Go.Proofs.YtioijcfcehhmdaaGreatDoor.V

namespace Go.Proofs.YtioijcfcehhmdaaGreatDoor.V
def zrow (a b:Pt) (n i:Nat):List PV:=(btw a b i).map eExs++List.replicate (n - i) (PV.list 0 [])
theorem zrow_len {a b:Pt} {n i:Nat} (h:i≤n):(zrow a b n i).length=n:=by
 unfold zrow
 rw [List.length_append,List.length_map,btw_len,List.length_replicate]
 omega
theorem zrow_get {a b:Pt} {n i:Nat} (h:i<n):(zrow a b n i)[i]?=some (PV.list 0 []):=by
 unfold zrow
 have hl:((btw a b i).map eExs).length=i:=by rw [List.length_map,btw_len]
 rw [List.getElem?_append_right (by omega),hl,Nat.sub_self,List.getElem?_replicate,if_pos (by omega)]
theorem zrow_set {a b:Pt} {n i:Nat} (h:i<n):(zrow a b n i).set i (PV.list 2 ((ext (mk2 a b i) (vLen a i)).map eExt))=zrow a b n (i+1):=by
 unfold zrow
 have hl:((btw a b i).map eExs).length=i:=by rw [List.length_map,btw_len]
 rw [List.set_append_right _ _ (by omega),hl,Nat.sub_self,show n - i=(n - (i+1))+1 by omega,List.replicate_succ,List.set_cons_zero,btw_succ,List.map_append,List.append_assoc]
 rfl
theorem zrow_zero (a b:Pt) (n:Nat):zrow a b n 0=List.replicate n (PV.list 0 []):=by
 unfold zrow btw
 simp
theorem zrow_all (a b:Pt) (n:Nat):zrow a b n n=(btw a b n).map eExs:=by
 unfold zrow
 rw [Nat.sub_self]
 simp
set_option maxRecDepth 20000 in
theorem loop112 {a b:Pt} (ha:chkP a=0) (hb:chkP b=0) (hs:imSizes a.img=imSizes b.img) (hl:a.img.length≤lim) {st:St} (h:st.head [2,3,5,12,14,15] st.boxes.length=some ⟨sl 39 [(2,.pbox 0 0),(3,.pbox 1 0),(5,.row 1 (zrow a b a.img.length ((0:Nat)))),(12,.any),(14,.pv (.int .i64 a.img.length)),(15,.pv (.int .i64 (0:Nat)))],[⟨false,bPt a⟩,⟨false,bPt b⟩],[],none⟩) :
  den env fn112_l1 st=some (.normal,⟨sl 39 [(4,.any),(5,.row 1 (zrow a b a.img.length a.img.length))],[⟨false,bPt a⟩,⟨false,bPt b⟩],[],none⟩):=by
 unfold fn112_l1
 refine clean_up (env:=env) (nb:=2) (a.img.length) (fun i=>⟨sl 39 [(2,.pbox 0 0),(3,.pbox 1 0),(5,.row 1 (zrow a b a.img.length (i))),(12,.any),(14,.pv (.int .i64 a.img.length)),(15,.pv (.int .i64 i))],[⟨false,bPt a⟩,⟨false,bPt b⟩],[],none⟩) (fun i=>some (.normal,⟨sl 39 [(4,.any),(5,.row 1 (zrow a b a.img.length a.img.length))],[⟨false,bPt a⟩,⟨false,bPt b⟩],[],none⟩)) h (fun _=>rfl) (fun _=>by simp only [slAll,slsAll,Nat.reduceMul,Nat.reduceBEq,Nat.reduceLT,Nat.reduceLeDiff,Nat.reduceAdd,decide_true,Bool.and_self,Bool.true_and]) ?_ ?_
 ·intro i rb hi ih
  have hi1:=i64_next hi hl
  have F1:((i:Int)<(a.img.length:Int))=True:=eq_true (by omega)
  have h1:i<a.dirty.length:=by have:=(chkP_ok ha).2.2.1;omega
  have h2:i<b.dirty.length:=by have:=(chkP_ok hb).2.2.1;have:=same_len hs;omega
  have P2:∀ a b:PV,part [a,b] 0 (some 2)=some (.agg [a,b]):=fun _ _=>rfl
  have eA:∀ b:Bm,eBm b=.agg [.int .i64 b.size,.list 1 (b.ws.map eW)]:=fun _=>rfl
  obtain ⟨m1,m2⟩:=mrk_ok ha hb hs hi
  have hx:=dir_at h1
  have hy:=dir_at h2
  have e1:=cal136 (a:=dir a i) (b:=dir b i)
  have e2:=cal94 (b:=bothO orW (dir a i) (dir b i))
  rw [m1] at e1
  rw [m2] at e2
  generalize bothO orW (dir a i) (dir b i)=o at *
  rw [eA,eA,eA] at e1
  rw [eA] at e2 hx hy
  have z1:=zrow_len (a:=a) (b:=b) (n:=a.img.length) (i:=i) (by omega)
  have z2:=zrow_get (a:=a) (b:=b) hi
  have z3:=zrow_set (a:=a) (b:=b) hi
  have I1:index (.int .i64 (i:Int)) (zrow a b a.img.length i).length=some i:=by rw [z1];exact index_nat hi
  rw [← z3] at ih
  generalize zrow a b a.img.length i=z at *
  generalize (ext (mk2 a b i) (vLen a i)).map eExt=x at *
  simp only [fn112_b0,F1,P2,hx,hy,e1,e2,z2,I1,bPt_eq,index_nat h1,index_nat h2,List.length_map,slAll,slsAll,Nat.reduceMul,Nat.reduceBEq,Nat.reduceLT,Nat.reduceLeDiff,memAll,vAll,reduceCtorEq,Nat.reduceEqDiff,Nat.reduceAdd,Nat.reduceLT,Nat.reduceLeDiff,Nat.beq]
  rw [ih _ (by simp only [hi1,bPt_eq,slAll,slsAll,Nat.reduceMul,Nat.reduceBEq,Nat.reduceLT,Nat.reduceLeDiff,memAll,vAll,reduceCtorEq,Nat.reduceEqDiff,Nat.reduceAdd,Nat.reduceLT,Nat.reduceLeDiff,Nat.beq]<;>rfl)]
  all_goals rfl
 ·intro rb
  simp only [fn112_b0,Int.lt_irrefl,bPt_eq,List.length_map,slAll,slsAll,Nat.reduceMul,Nat.reduceBEq,Nat.reduceLT,Nat.reduceLeDiff,memAll,vAll,reduceCtorEq,Nat.reduceEqDiff,Nat.reduceAdd,Nat.reduceLT,Nat.reduceLeDiff,Nat.beq]
theorem cal112 {a b:Pt} (ha:chkP a=0) (hb:chkP b=0) (hs:imSizes a.img=imSizes b.img) (hl:a.img.length≤lim):cal env 112 [ePt a,ePt b]=some [(.list 1 ((btw a b a.img.length).map eExs),true)]:=by
 have hd:=(chkP_ok ha).2.2.1
 have hlim:lim=1073741824:=rfl
 have K1:(0≤(a.dirty.length:Int))=True:=eq_true (by omega)
 have K2:((a.dirty.length:Int)≤(lim:Int))=True:=eq_true (by omega)
 have K3:((a.dirty.length:Int)≤(a.dirty.length:Int))=True:=eq_true (Int.le_refl _)
 have K4:((a.dirty.length:Int)).toNat=a.dirty.length:=by omega
 rw [ePt_eq,ePt_eq]
 rw [cal_code env112 rfl];simp only [fn112,slAll,Nat.reduceBEq,Nat.reduceLeDiff,Nat.reduceAdd,List.length_cons,List.length_nil]
 simp only [K1,K2,K3,K4,List.length_map,List.length_replicate,slAll,slsAll,Nat.reduceMul,Nat.reduceBEq,Nat.reduceLT,Nat.reduceLeDiff,memAll,vAll,reduceCtorEq,Nat.reduceEqDiff,Nat.reduceAdd,Nat.reduceLT,Nat.reduceLeDiff,Nat.beq]
 rw [loop112 (a:=a) (b:=b) ha hb hs hl]
 rotate_left
 ·rw [zrow_zero,bPt_eq,bPt_eq,← hd]
  simp only [slAll,slsAll,Nat.reduceMul,Nat.reduceBEq,Nat.reduceLT,Nat.reduceLeDiff,Nat.reduceAdd,decide_true,Bool.and_self,Bool.true_and]<;>rfl
 ·rw [zrow_all]
  simp only [List.take_length,slAll,slsAll,Nat.reduceMul,Nat.reduceBEq,Nat.reduceLT,Nat.reduceLeDiff,memAll,vAll,reduceCtorEq,Nat.reduceEqDiff,Nat.reduceAdd,Nat.reduceLT,Nat.reduceLeDiff,Nat.beq]
def btE (a b:Pt):Int:=if chkP a=0 then if chkP b=0 then if imSizes a.img=imSizes b.img then 0 else 22 else chkP b else chkP a
def btO (a b:Pt):List (List Exn):=if btE a b=0 then btw a b a.img.length else []
theorem cal72 {a b:Pt} (ha:fitP a) (hb:fitP b):cal env 72 [ePt a,ePt b]=some [(.list 1 ((btO a b).map eExs),true),(.int .i64 (btE a b),false)]:=by
 have e1:=cal55 ha
 have e2:=cal55 hb
 have e3:=cal113 (a:=a) (b:=b) ha.2.2
 have P4:∀ a b c d:PV,part [a,b,c,d] 0 (some 4)=some (.agg [a,b,c,d]):=fun _ _ _ _=>rfl
 have Z:((0:Int) != 0)=false:=rfl
 unfold btO btE
 by_cases c1:chkP a=0
 ·rw [c1] at e1
  rw [if_pos c1]
  by_cases c2:chkP b=0
  ·rw [c2] at e2
   rw [if_pos c2]
   by_cases c3:imSizes a.img=imSizes b.img
   ·rw [decide_eq_true c3] at e3
    have hI:=(imCheck_ok (chkP_ok c1).2.1).1
    have e4:=cal114 (a:=a) (b:=b) (chkP_ok c1).2.2.1 (by have:=(chkP_ok c2).2.2.1;have:=same_len c3;omega) hI (vLen_le c1)
    rw [if_pos c3,if_pos rfl]
    rw [ePt_eq,ePt_eq] at e3 e4
    rw [ePt_eq] at e1 e2
    rw [ePt_eq,ePt_eq]
    rw [cal_code env72 rfl];simp only [fn72,slAll,Nat.reduceBEq,Nat.reduceLeDiff,Nat.reduceAdd,List.length_cons,List.length_nil]
    simp only [e1,e2,e3,e4,Z,P4,slAll,slsAll,Nat.reduceMul,Nat.reduceBEq,Nat.reduceLT,Nat.reduceLeDiff,memAll,vAll,reduceCtorEq,Nat.reduceEqDiff,Nat.reduceAdd,Nat.reduceLT,Nat.reduceLeDiff,Nat.beq]
   ·rw [decide_eq_false c3] at e3
    rw [if_neg c3,if_neg (by decide)]
    rw [ePt_eq,ePt_eq] at e3
    rw [ePt_eq] at e1 e2
    rw [ePt_eq,ePt_eq]
    rw [cal_code env72 rfl];simp only [fn72,slAll,Nat.reduceBEq,Nat.reduceLeDiff,Nat.reduceAdd,List.length_cons,List.length_nil]
    simp only [e1,e2,e3,Z,P4,List.map_nil,slAll,slsAll,Nat.reduceMul,Nat.reduceBEq,Nat.reduceLT,Nat.reduceLeDiff,memAll,vAll,reduceCtorEq,Nat.reduceEqDiff,Nat.reduceAdd,Nat.reduceLT,Nat.reduceLeDiff,Nat.beq]
  ·have G:(chkP b != 0)=true:=by simpa using c2
   rw [if_neg c2,if_neg c2]
   rw [ePt_eq] at e1 e2
   rw [ePt_eq,ePt_eq]
   rw [cal_code env72 rfl];simp only [fn72,slAll,Nat.reduceBEq,Nat.reduceLeDiff,Nat.reduceAdd,List.length_cons,List.length_nil]
   simp only [e1,e2,Z,G,P4,List.map_nil,slAll,slsAll,Nat.reduceMul,Nat.reduceBEq,Nat.reduceLT,Nat.reduceLeDiff,memAll,vAll,reduceCtorEq,Nat.reduceEqDiff,Nat.reduceAdd,Nat.reduceLT,Nat.reduceLeDiff,Nat.beq]
 ·have G:(chkP a != 0)=true:=by simpa using c1
  rw [if_neg c1,if_neg c1]
  rw [ePt_eq] at e1
  rw [ePt_eq,ePt_eq]
  rw [cal_code env72 rfl];simp only [fn72,slAll,Nat.reduceBEq,Nat.reduceLeDiff,Nat.reduceAdd,List.length_cons,List.length_nil]
  simp only [e1,G,P4,List.map_nil,slAll,slsAll,Nat.reduceMul,Nat.reduceBEq,Nat.reduceLT,Nat.reduceLeDiff,memAll,vAll,reduceCtorEq,Nat.reduceEqDiff,Nat.reduceAdd,Nat.reduceLT,Nat.reduceLeDiff,Nat.beq]
def resT (n:Nat) (a b:Pt) (e:Int):Option (Ex × St):=if e=0 then some (.normal,⟨sl n [(2,.pbox 0 0),(3,.pbox 1 0),(4,.any),(5,.any)],[⟨false,bPt a⟩,⟨false,bPt b⟩],[],none⟩) else some (.ret,⟨sl n [(2,.pbox 0 0),(3,.pbox 1 0),(4,.row 1 []),(5,.pv (.int .i64 e))],[⟨false,bPt a⟩,⟨false,bPt b⟩],[],none⟩)
theorem loop69 {a b:Pt} (hf:∀ p∈[a,b],fitP p) {st:St} (h:st.head [2,3,11,12,13] st.boxes.length=some ⟨sl 32 [(2,.pbox 0 0),(3,.pbox 1 0),(11,.row 4 ([a,b].map ePt)),(12,.pv (.int .i64 [a,b].length)),(13,.pv (.int .i64 (0:Nat)))],[⟨false,bPt a⟩,⟨false,bPt b⟩],[],none⟩) :
  den env fn69_l1 st=resT 32 a b (frsE ([a,b].drop ((0:Nat)))):=by
 unfold fn69_l1
 refine clean_up (env:=env) (nb:=2) ([a,b].length) (fun i=>⟨sl 32 [(2,.pbox 0 0),(3,.pbox 1 0),(11,.row 4 ([a,b].map ePt)),(12,.pv (.int .i64 [a,b].length)),(13,.pv (.int .i64 i))],[⟨false,bPt a⟩,⟨false,bPt b⟩],[],none⟩) (fun i=>resT 32 a b (frsE ([a,b].drop (i)))) h (fun _=>rfl) (fun _=>by simp only [slAll,slsAll,Nat.reduceMul,Nat.reduceBEq,Nat.reduceLT,Nat.reduceLeDiff,Nat.reduceAdd,decide_true,Bool.and_self,Bool.true_and]) ?_ ?_
 ·intro i rb hi ih
  have hi1:=i64_next hi (by unfold lim;simp)
  have F1:((i:Int)<([a,b].length:Int))=True:=eq_true (by omega)
  generalize [a,b]=l at *
  have e1:=cal50 (p:=l[i]) (hf _ (List.getElem_mem hi))
  have hx:(l.map ePt)[i]?=some (ePt l[i]):=by rw [List.getElem?_map,List.getElem?_eq_getElem hi];rfl
  have P4:∀ a b c d:PV,part [a,b,c,d] 0 (some 4)=some (.agg [a,b,c,d]):=fun _ _ _ _=>rfl
  rw [frsE_step hi]
  rw [ePt_eq] at e1 hx
  by_cases c:chkP l[i]=0
  ·have G:((0:Int) != 0)=false:=rfl
   rw [if_pos c]
   rw [c] at e1
   simp only [fn69_b0,F1,hx,e1,G,P4,bPt_eq,index_nat hi,List.length_map,slAll,slsAll,Nat.reduceMul,Nat.reduceBEq,Nat.reduceLT,Nat.reduceLeDiff,memAll,vAll,reduceCtorEq,Nat.reduceEqDiff,Nat.reduceAdd,Nat.reduceLT,Nat.reduceLeDiff,Nat.beq]
   rw [ih _ (by simp only [hi1,bPt_eq,slAll,slsAll,Nat.reduceMul,Nat.reduceBEq,Nat.reduceLT,Nat.reduceLeDiff,memAll,vAll,reduceCtorEq,Nat.reduceEqDiff,Nat.reduceAdd,Nat.reduceLT,Nat.reduceLeDiff,Nat.beq]<;>rfl)]
   all_goals rfl
  ·have G:(chkP l[i] != 0)=true:=by simpa using c
   rw [if_neg c]
   unfold resT
   rw [if_neg c]
   simp only [fn69_b0,F1,hx,e1,G,P4,bPt_eq,index_nat hi,List.length_map,slAll,slsAll,Nat.reduceMul,Nat.reduceBEq,Nat.reduceLT,Nat.reduceLeDiff,memAll,vAll,reduceCtorEq,Nat.reduceEqDiff,Nat.reduceAdd,Nat.reduceLT,Nat.reduceLeDiff,Nat.beq]
 ·intro rb
  rw [List.drop_length]
  unfold frsE resT
  rw [if_pos rfl]
  simp only [fn69_b0,Int.lt_irrefl,bPt_eq,List.length_map,slAll,slsAll,Nat.reduceMul,Nat.reduceBEq,Nat.reduceLT,Nat.reduceLeDiff,memAll,vAll,reduceCtorEq,Nat.reduceEqDiff,Nat.reduceAdd,Nat.reduceLT,Nat.reduceLeDiff,Nat.beq]
theorem cal69 {a b:Pt} (ha:fitP a) (hb:fitP b):cal env 69 [ePt a,ePt b]=some [(.list 1 ((btO a b).map eExs),true),(.int .i64 (btE a b),false)]:=by
 have e3:=cal111 (a:=a.img) (b:=b.img) ha.2.2
 have P4:∀ a b c d:PV,part [a,b,c,d] 0 (some 4)=some (.agg [a,b,c,d]):=fun _ _ _ _=>rfl
 have hF:frsE [a,b]=if chkP a=0 then chkP b else chkP a:=by
  unfold frsE frsE frsE
  by_cases c:chkP b=0
  ·simp [c]
  ·simp [c]
 have hf:∀ p∈[a,b],fitP p:=by simp;exact ⟨ha,hb⟩
 rw [ePt_eq,ePt_eq]
 rw [cal_code env69 rfl];simp only [fn69,slAll,Nat.reduceBEq,Nat.reduceLeDiff,Nat.reduceAdd,List.length_cons,List.length_nil]
 simp only [P4,List.length_map,slAll,slsAll,Nat.reduceMul,Nat.reduceBEq,Nat.reduceLT,Nat.reduceLeDiff,memAll,vAll,reduceCtorEq,Nat.reduceEqDiff,Nat.reduceAdd,Nat.reduceLT,Nat.reduceLeDiff,Nat.beq]
 rw [loop69 (a:=a) (b:=b) hf]
 rotate_left
 ·rw [bPt_eq,bPt_eq]
  simp only [slAll,slsAll,Nat.reduceMul,Nat.reduceBEq,Nat.reduceLT,Nat.reduceLeDiff,Nat.reduceAdd,decide_true,Bool.and_self,Bool.true_and]<;>rfl
 ·rw [List.drop_zero,hF]
  unfold resT btO btE
  by_cases c1:chkP a=0
  ·rw [if_pos c1,if_pos c1]
   by_cases c2:chkP b=0
   ·rw [if_pos c2,if_pos c2]
    by_cases c3:imSizes a.img=imSizes b.img
    ·rw [decide_eq_true c3] at e3
     have e4:=cal112 (a:=a) (b:=b) c1 c2 c3 ha.2.2
     rw [ePt_eq,ePt_eq] at e4
     rw [if_pos c3,if_pos rfl]
     simp only [e3,e4,P4,bPt_eq,List.length_map,slAll,slsAll,Nat.reduceMul,Nat.reduceBEq,Nat.reduceLT,Nat.reduceLeDiff,memAll,vAll,reduceCtorEq,Nat.reduceEqDiff,Nat.reduceAdd,Nat.reduceLT,Nat.reduceLeDiff,Nat.beq]
    ·rw [decide_eq_false c3] at e3
     rw [if_neg c3,if_neg (by decide)]
     simp only [e3,P4,bPt_eq,List.length_map,List.map_nil,slAll,slsAll,Nat.reduceMul,Nat.reduceBEq,Nat.reduceLT,Nat.reduceLeDiff,memAll,vAll,reduceCtorEq,Nat.reduceEqDiff,Nat.reduceAdd,Nat.reduceLT,Nat.reduceLeDiff,Nat.beq]
   ·simp only [if_neg c2]
    simp only [bPt_eq,List.length_map,List.map_nil,slAll,slsAll,Nat.reduceMul,Nat.reduceBEq,Nat.reduceLT,Nat.reduceLeDiff,memAll,vAll,reduceCtorEq,Nat.reduceEqDiff,Nat.reduceAdd,Nat.reduceLT,Nat.reduceLeDiff,Nat.beq]
  ·simp only [if_neg c1]
   simp only [bPt_eq,List.length_map,List.map_nil,slAll,slsAll,Nat.reduceMul,Nat.reduceBEq,Nat.reduceLT,Nat.reduceLeDiff,memAll,vAll,reduceCtorEq,Nat.reduceEqDiff,Nat.reduceAdd,Nat.reduceLT,Nat.reduceLeDiff,Nat.beq]
end Go.Proofs.YtioijcfcehhmdaaGreatDoor.V

namespace Go.Proofs.YtioijcfcehhmdaaGreatDoor.V
structure Prc where
 kind:Int
 frm:Int
 to:Int
 step:Int
 ep:Int
 cyc:Int
 done:Bool
 failed:Bool
def ePrc (p:Prc):PV:=.agg [.int .i64 p.kind,.int .i64 p.frm,.int .i64 p.to,.int .i64 p.step,.int .i64 p.ep,.int .i64 p.cyc,.bool p.done,.bool p.failed]
theorem ePrc_eq (p:Prc):ePrc p=.agg [.int .i64 p.kind,.int .i64 p.frm,.int .i64 p.to,.int .i64 p.step,.int .i64 p.ep,.int .i64 p.cyc,.bool p.done,.bool p.failed]:=rfl
def siteB (n:Int):Bool:=decide (0≤n)&&decide (n<4)
--+
theorem cal70 {n:Int}:cal env 70 [.int .i64 n]=some [(.bool (siteB n),false)]:=by
 unfold siteB
 by_cases h:0≤n
 ·have F1:(n ≥ 0)=True:=eq_true h
  have F2:(0≤n)=True:=eq_true h
  rw [cal_code env70 rfl];simp only [fn70,slAll,Nat.reduceBEq,Nat.reduceLeDiff,Nat.reduceAdd,List.length_cons,List.length_nil]
  simp only [F1,F2,slAll,slsAll,Nat.reduceMul,Nat.reduceBEq,Nat.reduceLT,Nat.reduceLeDiff,memAll,vAll,reduceCtorEq,Nat.reduceEqDiff,Nat.reduceAdd,Nat.reduceLT,Nat.reduceLeDiff,Nat.beq]
 ·have F1:(n ≥ 0)=False:=eq_false h
  have F2:(0≤n)=False:=eq_false h
  rw [cal_code env70 rfl];simp only [fn70,slAll,Nat.reduceBEq,Nat.reduceLeDiff,Nat.reduceAdd,List.length_cons,List.length_nil]
  simp only [F1,F2,slAll,slsAll,Nat.reduceMul,Nat.reduceBEq,Nat.reduceLT,Nat.reduceLeDiff,memAll,vAll,reduceCtorEq,Nat.reduceEqDiff,Nat.reduceAdd,Nat.reduceLT,Nat.reduceLeDiff,Nat.beq]
--+
theorem cal73 {n:Int}:cal env 73 [.int .i64 n]=some [(.bool (siteB n),false)]:=by
 unfold siteB
 by_cases h:0≤n
 ·have F1:(n ≥ 0)=True:=eq_true h
  have F2:(0≤n)=True:=eq_true h
  rw [cal_code env73 rfl];simp only [fn73,slAll,Nat.reduceBEq,Nat.reduceLeDiff,Nat.reduceAdd,List.length_cons,List.length_nil]
  simp only [F1,F2,slAll,slsAll,Nat.reduceMul,Nat.reduceBEq,Nat.reduceLT,Nat.reduceLeDiff,memAll,vAll,reduceCtorEq,Nat.reduceEqDiff,Nat.reduceAdd,Nat.reduceLT,Nat.reduceLeDiff,Nat.beq]
 ·have F1:(n ≥ 0)=False:=eq_false h
  have F2:(0≤n)=False:=eq_false h
  rw [cal_code env73 rfl];simp only [fn73,slAll,Nat.reduceBEq,Nat.reduceLeDiff,Nat.reduceAdd,List.length_cons,List.length_nil]
  simp only [F1,F2,slAll,slsAll,Nat.reduceMul,Nat.reduceBEq,Nat.reduceLT,Nat.reduceLeDiff,memAll,vAll,reduceCtorEq,Nat.reduceEqDiff,Nat.reduceAdd,Nat.reduceLT,Nat.reduceLeDiff,Nat.beq]
theorem demT51 (n:Int):thrown env 51 [.bool true,.int .i64 n]=some none:=thrown_thr env51
theorem demF51 (n:Int):thrown env 51 [.bool false,.int .i64 n]=some (some (148,n)):=thrown_thr env51
theorem cal51 (n:Int):cal env 51 [.bool true,.int .i64 n]=some []:=cal_thr env51 rfl
theorem okT49:thrown env 49 [.int .i64 0]=some none:=by
 have d1:=demT51
 have d2:=cal51
 have F1:((0:Int)==0)=true:=rfl
 rw [thrown_code env49 rfl rfl];simp only [fn49,slAll,Nat.reduceBEq,Nat.reduceLeDiff,Nat.reduceAdd,List.length_cons,List.length_nil]
 simp only [d1,d2,F1,slAll,slsAll,Nat.reduceMul,Nat.reduceBEq,Nat.reduceLT,Nat.reduceLeDiff,memAll,vAll,reduceCtorEq,Nat.reduceEqDiff,Nat.reduceAdd,Nat.reduceLT,Nat.reduceLeDiff,Nat.beq]
theorem okF49 {e:Int} (h:e≠0):thrown env 49 [.int .i64 e]=some (some (148,e)):=by
 have d1:=demF51
 have F1:(e==0)=false:=by simp [h]
 rw [thrown_code env49 rfl rfl];simp only [fn49,slAll,Nat.reduceBEq,Nat.reduceLeDiff,Nat.reduceAdd,List.length_cons,List.length_nil]
 simp only [d1,F1,slAll,slsAll,Nat.reduceMul,Nat.reduceBEq,Nat.reduceLT,Nat.reduceLeDiff,memAll,vAll,reduceCtorEq,Nat.reduceEqDiff,Nat.reduceAdd,Nat.reduceLT,Nat.reduceLeDiff,Nat.beq]
theorem cal49:cal env 49 [.int .i64 0]=some []:=by
 have d1:=demT51
 have d2:=cal51
 have F1:((0:Int)==0)=true:=rfl
 rw [cal_code env49 rfl];simp only [fn49,slAll,Nat.reduceBEq,Nat.reduceLeDiff,Nat.reduceAdd,List.length_cons,List.length_nil]
 simp only [d1,d2,F1,slAll,slsAll,Nat.reduceMul,Nat.reduceBEq,Nat.reduceLT,Nat.reduceLeDiff,memAll,vAll,reduceCtorEq,Nat.reduceEqDiff,Nat.reduceAdd,Nat.reduceLT,Nat.reduceLeDiff,Nat.beq]
def fmE (p:Prc):Int:=if p.kind=3 then (if siteB p.frm=true then (if siteB p.to=true then (if p.frm≠p.to then (if 0≤p.step then (if p.step≤4096 then (if 1≤p.ep then (if p.ep≤1073741824 then (if 0≤p.cyc then (if p.cyc≤1073741824 then (if p.failed=false then (if p.done=true then (if 1≤p.step then 0 else 12) else 0) else 12) else 2) else 2) else 2) else 2) else 2) else 2) else 2) else 2) else 2) else 1
set_option maxHeartbeats 2000000 in
theorem fm48 {p:Prc}:thrown env 48 [ePrc p]=some (if fmE p=0 then none else some (148,fmE p)):=by
 have d1:=demT51
 have d2:=cal51
 have d3:=demF51
 have s1:=cal70 (n:=p.frm)
 have s2:=cal70 (n:=p.to)
 rw [ePrc_eq]
 by_cases c0:p.kind=3
 rotate_left
 ·have F0_0:(p.kind==3)=false:=by first|(simp;omega)|(simp [c0])
  have F0_1:(p.kind=3)=False:=eq_false (by omega)
  have F0_2:(p.kind != 3)=true:=by first|(simp;omega)|(simp [c0])
  have hE:fmE p=1:=by unfold fmE;rw [if_neg c0]
  rw [hE,if_neg (by decide)]
  rw [thrown_code env48 rfl rfl];simp only [fn48,slAll,Nat.reduceBEq,Nat.reduceLeDiff,Nat.reduceAdd,List.length_cons,List.length_nil]
  simp only [F0_0,F0_1,F0_2,d1,d2,d3,s1,s2,slAll,slsAll,Nat.reduceMul,Nat.reduceBEq,Nat.reduceLT,Nat.reduceLeDiff,memAll,vAll,reduceCtorEq,Nat.reduceEqDiff,Nat.reduceAdd,Nat.reduceLT,Nat.reduceLeDiff,Nat.beq]
 have F0_0:(p.kind==3)=true:=by first|(simp;omega)|(simp [c0])
 have F0_1:(p.kind=3)=True:=eq_true (by omega)
 have F0_2:(p.kind != 3)=false:=by first|(simp;omega)|(simp [c0])
 by_cases c1:siteB p.frm=true
 rotate_left
 ·have F1_0:siteB p.frm=false:=by simpa using c1
  have hE:fmE p=2:=by unfold fmE;rw [if_pos c0,if_neg c1]
  rw [hE,if_neg (by decide)]
  rw [thrown_code env48 rfl rfl];simp only [fn48,slAll,Nat.reduceBEq,Nat.reduceLeDiff,Nat.reduceAdd,List.length_cons,List.length_nil]
  simp only [F0_0,F0_1,F0_2,F1_0,d1,d2,d3,s1,s2,slAll,slsAll,Nat.reduceMul,Nat.reduceBEq,Nat.reduceLT,Nat.reduceLeDiff,memAll,vAll,reduceCtorEq,Nat.reduceEqDiff,Nat.reduceAdd,Nat.reduceLT,Nat.reduceLeDiff,Nat.beq]
 have F1_0:siteB p.frm=true:=c1
 by_cases c2:siteB p.to=true
 rotate_left
 ·have F2_0:siteB p.to=false:=by simpa using c2
  have hE:fmE p=2:=by unfold fmE;rw [if_pos c0,if_pos c1,if_neg c2]
  rw [hE,if_neg (by decide)]
  rw [thrown_code env48 rfl rfl];simp only [fn48,slAll,Nat.reduceBEq,Nat.reduceLeDiff,Nat.reduceAdd,List.length_cons,List.length_nil]
  simp only [F0_0,F0_1,F0_2,F1_0,F2_0,d1,d2,d3,s1,s2,slAll,slsAll,Nat.reduceMul,Nat.reduceBEq,Nat.reduceLT,Nat.reduceLeDiff,memAll,vAll,reduceCtorEq,Nat.reduceEqDiff,Nat.reduceAdd,Nat.reduceLT,Nat.reduceLeDiff,Nat.beq]
 have F2_0:siteB p.to=true:=c2
 by_cases c3:p.frm≠p.to
 rotate_left
 ·have F3_0:(p.frm != p.to)=false:=by first|(simp;omega)|(simp [c3])
  have F3_1:(p.frm=p.to)=True:=eq_true (by omega)
  have F3_2:(p.frm==p.to)=true:=by first|(simp;omega)|(simp [c3])
  have hE:fmE p=2:=by unfold fmE;rw [if_pos c0,if_pos c1,if_pos c2,if_neg c3]
  rw [hE,if_neg (by decide)]
  rw [thrown_code env48 rfl rfl];simp only [fn48,slAll,Nat.reduceBEq,Nat.reduceLeDiff,Nat.reduceAdd,List.length_cons,List.length_nil]
  simp only [F0_0,F0_1,F0_2,F1_0,F2_0,F3_0,F3_1,F3_2,d1,d2,d3,s1,s2,slAll,slsAll,Nat.reduceMul,Nat.reduceBEq,Nat.reduceLT,Nat.reduceLeDiff,memAll,vAll,reduceCtorEq,Nat.reduceEqDiff,Nat.reduceAdd,Nat.reduceLT,Nat.reduceLeDiff,Nat.beq]
 have F3_0:(p.frm != p.to)=true:=by first|(simp;omega)|(simp [c3])
 have F3_1:(p.frm=p.to)=False:=eq_false (by omega)
 have F3_2:(p.frm==p.to)=false:=by first|(simp;omega)|(simp [c3])
 by_cases c4:0≤p.step
 rotate_left
 ·have F4_0:(p.step ≥ 0)=False:=eq_false (by omega)
  have F4_1:(0≤p.step)=False:=eq_false (by omega)
  have F4_2:(p.step<0)=True:=eq_true (by omega)
  have hE:fmE p=2:=by unfold fmE;rw [if_pos c0,if_pos c1,if_pos c2,if_pos c3,if_neg c4]
  rw [hE,if_neg (by decide)]
  rw [thrown_code env48 rfl rfl];simp only [fn48,slAll,Nat.reduceBEq,Nat.reduceLeDiff,Nat.reduceAdd,List.length_cons,List.length_nil]
  simp only [F0_0,F0_1,F0_2,F1_0,F2_0,F3_0,F3_1,F3_2,F4_0,F4_1,F4_2,d1,d2,d3,s1,s2,slAll,slsAll,Nat.reduceMul,Nat.reduceBEq,Nat.reduceLT,Nat.reduceLeDiff,memAll,vAll,reduceCtorEq,Nat.reduceEqDiff,Nat.reduceAdd,Nat.reduceLT,Nat.reduceLeDiff,Nat.beq]
 have F4_0:(p.step ≥ 0)=True:=eq_true (by omega)
 have F4_1:(0≤p.step)=True:=eq_true (by omega)
 have F4_2:(p.step<0)=False:=eq_false (by omega)
 by_cases c5:p.step≤4096
 rotate_left
 ·have F5_0:(p.step≤4096)=False:=eq_false (by omega)
  have F5_1:(p.step > 4096)=True:=eq_true (by omega)
  have hE:fmE p=2:=by unfold fmE;rw [if_pos c0,if_pos c1,if_pos c2,if_pos c3,if_pos c4,if_neg c5]
  rw [hE,if_neg (by decide)]
  rw [thrown_code env48 rfl rfl];simp only [fn48,slAll,Nat.reduceBEq,Nat.reduceLeDiff,Nat.reduceAdd,List.length_cons,List.length_nil]
  simp only [F0_0,F0_1,F0_2,F1_0,F2_0,F3_0,F3_1,F3_2,F4_0,F4_1,F4_2,F5_0,F5_1,d1,d2,d3,s1,s2,slAll,slsAll,Nat.reduceMul,Nat.reduceBEq,Nat.reduceLT,Nat.reduceLeDiff,memAll,vAll,reduceCtorEq,Nat.reduceEqDiff,Nat.reduceAdd,Nat.reduceLT,Nat.reduceLeDiff,Nat.beq]
 have F5_0:(p.step≤4096)=True:=eq_true (by omega)
 have F5_1:(p.step > 4096)=False:=eq_false (by omega)
 by_cases c6:1≤p.ep
 rotate_left
 ·have F6_0:(p.ep ≥ 1)=False:=eq_false (by omega)
  have F6_1:(1≤p.ep)=False:=eq_false (by omega)
  have F6_2:(p.ep<1)=True:=eq_true (by omega)
  have hE:fmE p=2:=by unfold fmE;rw [if_pos c0,if_pos c1,if_pos c2,if_pos c3,if_pos c4,if_pos c5,if_neg c6]
  rw [hE,if_neg (by decide)]
  rw [thrown_code env48 rfl rfl];simp only [fn48,slAll,Nat.reduceBEq,Nat.reduceLeDiff,Nat.reduceAdd,List.length_cons,List.length_nil]
  simp only [F0_0,F0_1,F0_2,F1_0,F2_0,F3_0,F3_1,F3_2,F4_0,F4_1,F4_2,F5_0,F5_1,F6_0,F6_1,F6_2,d1,d2,d3,s1,s2,slAll,slsAll,Nat.reduceMul,Nat.reduceBEq,Nat.reduceLT,Nat.reduceLeDiff,memAll,vAll,reduceCtorEq,Nat.reduceEqDiff,Nat.reduceAdd,Nat.reduceLT,Nat.reduceLeDiff,Nat.beq]
 have F6_0:(p.ep ≥ 1)=True:=eq_true (by omega)
 have F6_1:(1≤p.ep)=True:=eq_true (by omega)
 have F6_2:(p.ep<1)=False:=eq_false (by omega)
 by_cases c7:p.ep≤1073741824
 rotate_left
 ·have F7_0:(p.ep≤1073741824)=False:=eq_false (by omega)
  have F7_1:(p.ep > 1073741824)=True:=eq_true (by omega)
  have hE:fmE p=2:=by unfold fmE;rw [if_pos c0,if_pos c1,if_pos c2,if_pos c3,if_pos c4,if_pos c5,if_pos c6,if_neg c7]
  rw [hE,if_neg (by decide)]
  rw [thrown_code env48 rfl rfl];simp only [fn48,slAll,Nat.reduceBEq,Nat.reduceLeDiff,Nat.reduceAdd,List.length_cons,List.length_nil]
  simp only [F0_0,F0_1,F0_2,F1_0,F2_0,F3_0,F3_1,F3_2,F4_0,F4_1,F4_2,F5_0,F5_1,F6_0,F6_1,F6_2,F7_0,F7_1,d1,d2,d3,s1,s2,slAll,slsAll,Nat.reduceMul,Nat.reduceBEq,Nat.reduceLT,Nat.reduceLeDiff,memAll,vAll,reduceCtorEq,Nat.reduceEqDiff,Nat.reduceAdd,Nat.reduceLT,Nat.reduceLeDiff,Nat.beq]
 have F7_0:(p.ep≤1073741824)=True:=eq_true (by omega)
 have F7_1:(p.ep > 1073741824)=False:=eq_false (by omega)
 by_cases c8:0≤p.cyc
 rotate_left
 ·have F8_0:(p.cyc ≥ 0)=False:=eq_false (by omega)
  have F8_1:(0≤p.cyc)=False:=eq_false (by omega)
  have F8_2:(p.cyc<0)=True:=eq_true (by omega)
  have hE:fmE p=2:=by unfold fmE;rw [if_pos c0,if_pos c1,if_pos c2,if_pos c3,if_pos c4,if_pos c5,if_pos c6,if_pos c7,if_neg c8]
  rw [hE,if_neg (by decide)]
  rw [thrown_code env48 rfl rfl];simp only [fn48,slAll,Nat.reduceBEq,Nat.reduceLeDiff,Nat.reduceAdd,List.length_cons,List.length_nil]
  simp only [F0_0,F0_1,F0_2,F1_0,F2_0,F3_0,F3_1,F3_2,F4_0,F4_1,F4_2,F5_0,F5_1,F6_0,F6_1,F6_2,F7_0,F7_1,F8_0,F8_1,F8_2,d1,d2,d3,s1,s2,slAll,slsAll,Nat.reduceMul,Nat.reduceBEq,Nat.reduceLT,Nat.reduceLeDiff,memAll,vAll,reduceCtorEq,Nat.reduceEqDiff,Nat.reduceAdd,Nat.reduceLT,Nat.reduceLeDiff,Nat.beq]
 have F8_0:(p.cyc ≥ 0)=True:=eq_true (by omega)
 have F8_1:(0≤p.cyc)=True:=eq_true (by omega)
 have F8_2:(p.cyc<0)=False:=eq_false (by omega)
 by_cases c9:p.cyc≤1073741824
 rotate_left
 ·have F9_0:(p.cyc≤1073741824)=False:=eq_false (by omega)
  have F9_1:(p.cyc > 1073741824)=True:=eq_true (by omega)
  have hE:fmE p=2:=by unfold fmE;rw [if_pos c0,if_pos c1,if_pos c2,if_pos c3,if_pos c4,if_pos c5,if_pos c6,if_pos c7,if_pos c8,if_neg c9]
  rw [hE,if_neg (by decide)]
  rw [thrown_code env48 rfl rfl];simp only [fn48,slAll,Nat.reduceBEq,Nat.reduceLeDiff,Nat.reduceAdd,List.length_cons,List.length_nil]
  simp only [F0_0,F0_1,F0_2,F1_0,F2_0,F3_0,F3_1,F3_2,F4_0,F4_1,F4_2,F5_0,F5_1,F6_0,F6_1,F6_2,F7_0,F7_1,F8_0,F8_1,F8_2,F9_0,F9_1,d1,d2,d3,s1,s2,slAll,slsAll,Nat.reduceMul,Nat.reduceBEq,Nat.reduceLT,Nat.reduceLeDiff,memAll,vAll,reduceCtorEq,Nat.reduceEqDiff,Nat.reduceAdd,Nat.reduceLT,Nat.reduceLeDiff,Nat.beq]
 have F9_0:(p.cyc≤1073741824)=True:=eq_true (by omega)
 have F9_1:(p.cyc > 1073741824)=False:=eq_false (by omega)
 by_cases c10:p.failed=false
 rotate_left
 ·have F10_0:p.failed=true:=by simpa using c10
  have hE:fmE p=12:=by unfold fmE;rw [if_pos c0,if_pos c1,if_pos c2,if_pos c3,if_pos c4,if_pos c5,if_pos c6,if_pos c7,if_pos c8,if_pos c9,if_neg c10]
  rw [hE,if_neg (by decide)]
  rw [thrown_code env48 rfl rfl];simp only [fn48,slAll,Nat.reduceBEq,Nat.reduceLeDiff,Nat.reduceAdd,List.length_cons,List.length_nil]
  simp only [F0_0,F0_1,F0_2,F1_0,F2_0,F3_0,F3_1,F3_2,F4_0,F4_1,F4_2,F5_0,F5_1,F6_0,F6_1,F6_2,F7_0,F7_1,F8_0,F8_1,F8_2,F9_0,F9_1,F10_0,d1,d2,d3,s1,s2,slAll,slsAll,Nat.reduceMul,Nat.reduceBEq,Nat.reduceLT,Nat.reduceLeDiff,memAll,vAll,reduceCtorEq,Nat.reduceEqDiff,Nat.reduceAdd,Nat.reduceLT,Nat.reduceLeDiff,Nat.beq]
 have F10_0:p.failed=false:=c10
 by_cases c11:p.done=true
 rotate_left
 ·have F11_0:p.done=false:=by simpa using c11
  have hE:fmE p=0:=by unfold fmE;rw [if_pos c0,if_pos c1,if_pos c2,if_pos c3,if_pos c4,if_pos c5,if_pos c6,if_pos c7,if_pos c8,if_pos c9,if_pos c10,if_neg c11]
  rw [hE,if_pos rfl]
  rw [thrown_code env48 rfl rfl];simp only [fn48,slAll,Nat.reduceBEq,Nat.reduceLeDiff,Nat.reduceAdd,List.length_cons,List.length_nil]
  simp only [F0_0,F0_1,F0_2,F1_0,F2_0,F3_0,F3_1,F3_2,F4_0,F4_1,F4_2,F5_0,F5_1,F6_0,F6_1,F6_2,F7_0,F7_1,F8_0,F8_1,F8_2,F9_0,F9_1,F10_0,F11_0,d1,d2,d3,s1,s2,slAll,slsAll,Nat.reduceMul,Nat.reduceBEq,Nat.reduceLT,Nat.reduceLeDiff,memAll,vAll,reduceCtorEq,Nat.reduceEqDiff,Nat.reduceAdd,Nat.reduceLT,Nat.reduceLeDiff,Nat.beq]
 have F11_0:p.done=true:=c11
 by_cases c12:1≤p.step
 rotate_left
 ·have F12_0:(p.step ≥ 1)=False:=eq_false (by omega)
  have F12_1:(1≤p.step)=False:=eq_false (by omega)
  have F12_2:(p.step<1)=True:=eq_true (by omega)
  have hE:fmE p=12:=by unfold fmE;rw [if_pos c0,if_pos c1,if_pos c2,if_pos c3,if_pos c4,if_pos c5,if_pos c6,if_pos c7,if_pos c8,if_pos c9,if_pos c10,if_pos c11,if_neg c12]
  rw [hE,if_neg (by decide)]
  rw [thrown_code env48 rfl rfl];simp only [fn48,slAll,Nat.reduceBEq,Nat.reduceLeDiff,Nat.reduceAdd,List.length_cons,List.length_nil]
  simp only [F0_0,F0_1,F0_2,F1_0,F2_0,F3_0,F3_1,F3_2,F4_0,F4_1,F4_2,F5_0,F5_1,F6_0,F6_1,F6_2,F7_0,F7_1,F8_0,F8_1,F8_2,F9_0,F9_1,F10_0,F11_0,F12_0,F12_1,F12_2,d1,d2,d3,s1,s2,slAll,slsAll,Nat.reduceMul,Nat.reduceBEq,Nat.reduceLT,Nat.reduceLeDiff,memAll,vAll,reduceCtorEq,Nat.reduceEqDiff,Nat.reduceAdd,Nat.reduceLT,Nat.reduceLeDiff,Nat.beq]
 have F12_0:(p.step ≥ 1)=True:=eq_true (by omega)
 have F12_1:(1≤p.step)=True:=eq_true (by omega)
 have F12_2:(p.step<1)=False:=eq_false (by omega)
 have hE:fmE p=0:=by unfold fmE;rw [if_pos c0,if_pos c1,if_pos c2,if_pos c3,if_pos c4,if_pos c5,if_pos c6,if_pos c7,if_pos c8,if_pos c9,if_pos c10,if_pos c11,if_pos c12]
 rw [hE,if_pos rfl]
 rw [thrown_code env48 rfl rfl];simp only [fn48,slAll,Nat.reduceBEq,Nat.reduceLeDiff,Nat.reduceAdd,List.length_cons,List.length_nil]
 simp only [F0_0,F0_1,F0_2,F1_0,F2_0,F3_0,F3_1,F3_2,F4_0,F4_1,F4_2,F5_0,F5_1,F6_0,F6_1,F6_2,F7_0,F7_1,F8_0,F8_1,F8_2,F9_0,F9_1,F10_0,F11_0,F12_0,F12_1,F12_2,d1,d2,d3,s1,s2,slAll,slsAll,Nat.reduceMul,Nat.reduceBEq,Nat.reduceLT,Nat.reduceLeDiff,memAll,vAll,reduceCtorEq,Nat.reduceEqDiff,Nat.reduceAdd,Nat.reduceLT,Nat.reduceLeDiff,Nat.beq]
theorem cal48 {p:Prc} (h:fmE p=0):cal env 48 [ePrc p]=some []:=by
 have d1:=demT51
 have d2:=cal51
 have d3:=demF51
 have s1:=cal70 (n:=p.frm)
 have s2:=cal70 (n:=p.to)
 rw [ePrc_eq]
 by_cases c0:p.kind=3
 rotate_left
 ·have F0_0:(p.kind==3)=false:=by first|(simp;omega)|(simp [c0])
  have F0_1:(p.kind=3)=False:=eq_false (by omega)
  have F0_2:(p.kind != 3)=true:=by first|(simp;omega)|(simp [c0])
  have hE:fmE p=1:=by unfold fmE;rw [if_neg c0]
  rw [hE] at h;exact absurd h (by decide)
 have F0_0:(p.kind==3)=true:=by first|(simp;omega)|(simp [c0])
 have F0_1:(p.kind=3)=True:=eq_true (by omega)
 have F0_2:(p.kind != 3)=false:=by first|(simp;omega)|(simp [c0])
 by_cases c1:siteB p.frm=true
 rotate_left
 ·have F1_0:siteB p.frm=false:=by simpa using c1
  have hE:fmE p=2:=by unfold fmE;rw [if_pos c0,if_neg c1]
  rw [hE] at h;exact absurd h (by decide)
 have F1_0:siteB p.frm=true:=c1
 by_cases c2:siteB p.to=true
 rotate_left
 ·have F2_0:siteB p.to=false:=by simpa using c2
  have hE:fmE p=2:=by unfold fmE;rw [if_pos c0,if_pos c1,if_neg c2]
  rw [hE] at h;exact absurd h (by decide)
 have F2_0:siteB p.to=true:=c2
 by_cases c3:p.frm≠p.to
 rotate_left
 ·have F3_0:(p.frm != p.to)=false:=by first|(simp;omega)|(simp [c3])
  have F3_1:(p.frm=p.to)=True:=eq_true (by omega)
  have F3_2:(p.frm==p.to)=true:=by first|(simp;omega)|(simp [c3])
  have hE:fmE p=2:=by unfold fmE;rw [if_pos c0,if_pos c1,if_pos c2,if_neg c3]
  rw [hE] at h;exact absurd h (by decide)
 have F3_0:(p.frm != p.to)=true:=by first|(simp;omega)|(simp [c3])
 have F3_1:(p.frm=p.to)=False:=eq_false (by omega)
 have F3_2:(p.frm==p.to)=false:=by first|(simp;omega)|(simp [c3])
 by_cases c4:0≤p.step
 rotate_left
 ·have F4_0:(p.step ≥ 0)=False:=eq_false (by omega)
  have F4_1:(0≤p.step)=False:=eq_false (by omega)
  have F4_2:(p.step<0)=True:=eq_true (by omega)
  have hE:fmE p=2:=by unfold fmE;rw [if_pos c0,if_pos c1,if_pos c2,if_pos c3,if_neg c4]
  rw [hE] at h;exact absurd h (by decide)
 have F4_0:(p.step ≥ 0)=True:=eq_true (by omega)
 have F4_1:(0≤p.step)=True:=eq_true (by omega)
 have F4_2:(p.step<0)=False:=eq_false (by omega)
 by_cases c5:p.step≤4096
 rotate_left
 ·have F5_0:(p.step≤4096)=False:=eq_false (by omega)
  have F5_1:(p.step > 4096)=True:=eq_true (by omega)
  have hE:fmE p=2:=by unfold fmE;rw [if_pos c0,if_pos c1,if_pos c2,if_pos c3,if_pos c4,if_neg c5]
  rw [hE] at h;exact absurd h (by decide)
 have F5_0:(p.step≤4096)=True:=eq_true (by omega)
 have F5_1:(p.step > 4096)=False:=eq_false (by omega)
 by_cases c6:1≤p.ep
 rotate_left
 ·have F6_0:(p.ep ≥ 1)=False:=eq_false (by omega)
  have F6_1:(1≤p.ep)=False:=eq_false (by omega)
  have F6_2:(p.ep<1)=True:=eq_true (by omega)
  have hE:fmE p=2:=by unfold fmE;rw [if_pos c0,if_pos c1,if_pos c2,if_pos c3,if_pos c4,if_pos c5,if_neg c6]
  rw [hE] at h;exact absurd h (by decide)
 have F6_0:(p.ep ≥ 1)=True:=eq_true (by omega)
 have F6_1:(1≤p.ep)=True:=eq_true (by omega)
 have F6_2:(p.ep<1)=False:=eq_false (by omega)
 by_cases c7:p.ep≤1073741824
 rotate_left
 ·have F7_0:(p.ep≤1073741824)=False:=eq_false (by omega)
  have F7_1:(p.ep > 1073741824)=True:=eq_true (by omega)
  have hE:fmE p=2:=by unfold fmE;rw [if_pos c0,if_pos c1,if_pos c2,if_pos c3,if_pos c4,if_pos c5,if_pos c6,if_neg c7]
  rw [hE] at h;exact absurd h (by decide)
 have F7_0:(p.ep≤1073741824)=True:=eq_true (by omega)
 have F7_1:(p.ep > 1073741824)=False:=eq_false (by omega)
 by_cases c8:0≤p.cyc
 rotate_left
 ·have F8_0:(p.cyc ≥ 0)=False:=eq_false (by omega)
  have F8_1:(0≤p.cyc)=False:=eq_false (by omega)
  have F8_2:(p.cyc<0)=True:=eq_true (by omega)
  have hE:fmE p=2:=by unfold fmE;rw [if_pos c0,if_pos c1,if_pos c2,if_pos c3,if_pos c4,if_pos c5,if_pos c6,if_pos c7,if_neg c8]
  rw [hE] at h;exact absurd h (by decide)
 have F8_0:(p.cyc ≥ 0)=True:=eq_true (by omega)
 have F8_1:(0≤p.cyc)=True:=eq_true (by omega)
 have F8_2:(p.cyc<0)=False:=eq_false (by omega)
 by_cases c9:p.cyc≤1073741824
 rotate_left
 ·have F9_0:(p.cyc≤1073741824)=False:=eq_false (by omega)
  have F9_1:(p.cyc > 1073741824)=True:=eq_true (by omega)
  have hE:fmE p=2:=by unfold fmE;rw [if_pos c0,if_pos c1,if_pos c2,if_pos c3,if_pos c4,if_pos c5,if_pos c6,if_pos c7,if_pos c8,if_neg c9]
  rw [hE] at h;exact absurd h (by decide)
 have F9_0:(p.cyc≤1073741824)=True:=eq_true (by omega)
 have F9_1:(p.cyc > 1073741824)=False:=eq_false (by omega)
 by_cases c10:p.failed=false
 rotate_left
 ·have F10_0:p.failed=true:=by simpa using c10
  have hE:fmE p=12:=by unfold fmE;rw [if_pos c0,if_pos c1,if_pos c2,if_pos c3,if_pos c4,if_pos c5,if_pos c6,if_pos c7,if_pos c8,if_pos c9,if_neg c10]
  rw [hE] at h;exact absurd h (by decide)
 have F10_0:p.failed=false:=c10
 by_cases c11:p.done=true
 rotate_left
 ·have F11_0:p.done=false:=by simpa using c11
  have hE:fmE p=0:=by unfold fmE;rw [if_pos c0,if_pos c1,if_pos c2,if_pos c3,if_pos c4,if_pos c5,if_pos c6,if_pos c7,if_pos c8,if_pos c9,if_pos c10,if_neg c11]
  rw [cal_code env48 rfl];simp only [fn48,slAll,Nat.reduceBEq,Nat.reduceLeDiff,Nat.reduceAdd,List.length_cons,List.length_nil]
  simp only [F0_0,F0_1,F0_2,F1_0,F2_0,F3_0,F3_1,F3_2,F4_0,F4_1,F4_2,F5_0,F5_1,F6_0,F6_1,F6_2,F7_0,F7_1,F8_0,F8_1,F8_2,F9_0,F9_1,F10_0,F11_0,d1,d2,d3,s1,s2,slAll,slsAll,Nat.reduceMul,Nat.reduceBEq,Nat.reduceLT,Nat.reduceLeDiff,memAll,vAll,reduceCtorEq,Nat.reduceEqDiff,Nat.reduceAdd,Nat.reduceLT,Nat.reduceLeDiff,Nat.beq]
 have F11_0:p.done=true:=c11
 by_cases c12:1≤p.step
 rotate_left
 ·have F12_0:(p.step ≥ 1)=False:=eq_false (by omega)
  have F12_1:(1≤p.step)=False:=eq_false (by omega)
  have F12_2:(p.step<1)=True:=eq_true (by omega)
  have hE:fmE p=12:=by unfold fmE;rw [if_pos c0,if_pos c1,if_pos c2,if_pos c3,if_pos c4,if_pos c5,if_pos c6,if_pos c7,if_pos c8,if_pos c9,if_pos c10,if_pos c11,if_neg c12]
  rw [hE] at h;exact absurd h (by decide)
 have F12_0:(p.step ≥ 1)=True:=eq_true (by omega)
 have F12_1:(1≤p.step)=True:=eq_true (by omega)
 have F12_2:(p.step<1)=False:=eq_false (by omega)
 have hE:fmE p=0:=by unfold fmE;rw [if_pos c0,if_pos c1,if_pos c2,if_pos c3,if_pos c4,if_pos c5,if_pos c6,if_pos c7,if_pos c8,if_pos c9,if_pos c10,if_pos c11,if_pos c12]
 rw [cal_code env48 rfl];simp only [fn48,slAll,Nat.reduceBEq,Nat.reduceLeDiff,Nat.reduceAdd,List.length_cons,List.length_nil]
 simp only [F0_0,F0_1,F0_2,F1_0,F2_0,F3_0,F3_1,F3_2,F4_0,F4_1,F4_2,F5_0,F5_1,F6_0,F6_1,F6_2,F7_0,F7_1,F8_0,F8_1,F8_2,F9_0,F9_1,F10_0,F11_0,F12_0,F12_1,F12_2,d1,d2,d3,s1,s2,slAll,slsAll,Nat.reduceMul,Nat.reduceBEq,Nat.reduceLT,Nat.reduceLeDiff,memAll,vAll,reduceCtorEq,Nat.reduceEqDiff,Nat.reduceAdd,Nat.reduceLT,Nat.reduceLeDiff,Nat.beq]
set_option maxHeartbeats 2000000 in
theorem cal29 {p:Prc}:cal env 29 [ePrc p]=some [(.int .i64 (fmE p),false)]:=by
 have s1:=cal73 (n:=p.frm)
 have s2:=cal73 (n:=p.to)
 rw [ePrc_eq]
 by_cases c0:p.kind=3
 rotate_left
 ·have F0_0:(p.kind==3)=false:=by first|(simp;omega)|(simp [c0])
  have F0_1:(p.kind=3)=False:=eq_false (by omega)
  have F0_2:(p.kind != 3)=true:=by first|(simp;omega)|(simp [c0])
  have hE:fmE p=1:=by unfold fmE;rw [if_neg c0]
  rw [hE]
  rw [cal_code env29 rfl];simp only [fn29,slAll,Nat.reduceBEq,Nat.reduceLeDiff,Nat.reduceAdd,List.length_cons,List.length_nil]
  simp only [F0_0,F0_1,F0_2,s1,s2,slAll,slsAll,Nat.reduceMul,Nat.reduceBEq,Nat.reduceLT,Nat.reduceLeDiff,memAll,vAll,reduceCtorEq,Nat.reduceEqDiff,Nat.reduceAdd,Nat.reduceLT,Nat.reduceLeDiff,Nat.beq]
 have F0_0:(p.kind==3)=true:=by first|(simp;omega)|(simp [c0])
 have F0_1:(p.kind=3)=True:=eq_true (by omega)
 have F0_2:(p.kind != 3)=false:=by first|(simp;omega)|(simp [c0])
 by_cases c1:siteB p.frm=true
 rotate_left
 ·have F1_0:siteB p.frm=false:=by simpa using c1
  have hE:fmE p=2:=by unfold fmE;rw [if_pos c0,if_neg c1]
  rw [hE]
  rw [cal_code env29 rfl];simp only [fn29,slAll,Nat.reduceBEq,Nat.reduceLeDiff,Nat.reduceAdd,List.length_cons,List.length_nil]
  simp only [F0_0,F0_1,F0_2,F1_0,s1,s2,slAll,slsAll,Nat.reduceMul,Nat.reduceBEq,Nat.reduceLT,Nat.reduceLeDiff,memAll,vAll,reduceCtorEq,Nat.reduceEqDiff,Nat.reduceAdd,Nat.reduceLT,Nat.reduceLeDiff,Nat.beq]
 have F1_0:siteB p.frm=true:=c1
 by_cases c2:siteB p.to=true
 rotate_left
 ·have F2_0:siteB p.to=false:=by simpa using c2
  have hE:fmE p=2:=by unfold fmE;rw [if_pos c0,if_pos c1,if_neg c2]
  rw [hE]
  rw [cal_code env29 rfl];simp only [fn29,slAll,Nat.reduceBEq,Nat.reduceLeDiff,Nat.reduceAdd,List.length_cons,List.length_nil]
  simp only [F0_0,F0_1,F0_2,F1_0,F2_0,s1,s2,slAll,slsAll,Nat.reduceMul,Nat.reduceBEq,Nat.reduceLT,Nat.reduceLeDiff,memAll,vAll,reduceCtorEq,Nat.reduceEqDiff,Nat.reduceAdd,Nat.reduceLT,Nat.reduceLeDiff,Nat.beq]
 have F2_0:siteB p.to=true:=c2
 by_cases c3:p.frm≠p.to
 rotate_left
 ·have F3_0:(p.frm != p.to)=false:=by first|(simp;omega)|(simp [c3])
  have F3_1:(p.frm=p.to)=True:=eq_true (by omega)
  have F3_2:(p.frm==p.to)=true:=by first|(simp;omega)|(simp [c3])
  have hE:fmE p=2:=by unfold fmE;rw [if_pos c0,if_pos c1,if_pos c2,if_neg c3]
  rw [hE]
  rw [cal_code env29 rfl];simp only [fn29,slAll,Nat.reduceBEq,Nat.reduceLeDiff,Nat.reduceAdd,List.length_cons,List.length_nil]
  simp only [F0_0,F0_1,F0_2,F1_0,F2_0,F3_0,F3_1,F3_2,s1,s2,slAll,slsAll,Nat.reduceMul,Nat.reduceBEq,Nat.reduceLT,Nat.reduceLeDiff,memAll,vAll,reduceCtorEq,Nat.reduceEqDiff,Nat.reduceAdd,Nat.reduceLT,Nat.reduceLeDiff,Nat.beq]
 have F3_0:(p.frm != p.to)=true:=by first|(simp;omega)|(simp [c3])
 have F3_1:(p.frm=p.to)=False:=eq_false (by omega)
 have F3_2:(p.frm==p.to)=false:=by first|(simp;omega)|(simp [c3])
 by_cases c4:0≤p.step
 rotate_left
 ·have F4_0:(p.step ≥ 0)=False:=eq_false (by omega)
  have F4_1:(0≤p.step)=False:=eq_false (by omega)
  have F4_2:(p.step<0)=True:=eq_true (by omega)
  have hE:fmE p=2:=by unfold fmE;rw [if_pos c0,if_pos c1,if_pos c2,if_pos c3,if_neg c4]
  rw [hE]
  rw [cal_code env29 rfl];simp only [fn29,slAll,Nat.reduceBEq,Nat.reduceLeDiff,Nat.reduceAdd,List.length_cons,List.length_nil]
  simp only [F0_0,F0_1,F0_2,F1_0,F2_0,F3_0,F3_1,F3_2,F4_0,F4_1,F4_2,s1,s2,slAll,slsAll,Nat.reduceMul,Nat.reduceBEq,Nat.reduceLT,Nat.reduceLeDiff,memAll,vAll,reduceCtorEq,Nat.reduceEqDiff,Nat.reduceAdd,Nat.reduceLT,Nat.reduceLeDiff,Nat.beq]
 have F4_0:(p.step ≥ 0)=True:=eq_true (by omega)
 have F4_1:(0≤p.step)=True:=eq_true (by omega)
 have F4_2:(p.step<0)=False:=eq_false (by omega)
 by_cases c5:p.step≤4096
 rotate_left
 ·have F5_0:(p.step≤4096)=False:=eq_false (by omega)
  have F5_1:(p.step > 4096)=True:=eq_true (by omega)
  have hE:fmE p=2:=by unfold fmE;rw [if_pos c0,if_pos c1,if_pos c2,if_pos c3,if_pos c4,if_neg c5]
  rw [hE]
  rw [cal_code env29 rfl];simp only [fn29,slAll,Nat.reduceBEq,Nat.reduceLeDiff,Nat.reduceAdd,List.length_cons,List.length_nil]
  simp only [F0_0,F0_1,F0_2,F1_0,F2_0,F3_0,F3_1,F3_2,F4_0,F4_1,F4_2,F5_0,F5_1,s1,s2,slAll,slsAll,Nat.reduceMul,Nat.reduceBEq,Nat.reduceLT,Nat.reduceLeDiff,memAll,vAll,reduceCtorEq,Nat.reduceEqDiff,Nat.reduceAdd,Nat.reduceLT,Nat.reduceLeDiff,Nat.beq]
 have F5_0:(p.step≤4096)=True:=eq_true (by omega)
 have F5_1:(p.step > 4096)=False:=eq_false (by omega)
 by_cases c6:1≤p.ep
 rotate_left
 ·have F6_0:(p.ep ≥ 1)=False:=eq_false (by omega)
  have F6_1:(1≤p.ep)=False:=eq_false (by omega)
  have F6_2:(p.ep<1)=True:=eq_true (by omega)
  have hE:fmE p=2:=by unfold fmE;rw [if_pos c0,if_pos c1,if_pos c2,if_pos c3,if_pos c4,if_pos c5,if_neg c6]
  rw [hE]
  rw [cal_code env29 rfl];simp only [fn29,slAll,Nat.reduceBEq,Nat.reduceLeDiff,Nat.reduceAdd,List.length_cons,List.length_nil]
  simp only [F0_0,F0_1,F0_2,F1_0,F2_0,F3_0,F3_1,F3_2,F4_0,F4_1,F4_2,F5_0,F5_1,F6_0,F6_1,F6_2,s1,s2,slAll,slsAll,Nat.reduceMul,Nat.reduceBEq,Nat.reduceLT,Nat.reduceLeDiff,memAll,vAll,reduceCtorEq,Nat.reduceEqDiff,Nat.reduceAdd,Nat.reduceLT,Nat.reduceLeDiff,Nat.beq]
 have F6_0:(p.ep ≥ 1)=True:=eq_true (by omega)
 have F6_1:(1≤p.ep)=True:=eq_true (by omega)
 have F6_2:(p.ep<1)=False:=eq_false (by omega)
 by_cases c7:p.ep≤1073741824
 rotate_left
 ·have F7_0:(p.ep≤1073741824)=False:=eq_false (by omega)
  have F7_1:(p.ep > 1073741824)=True:=eq_true (by omega)
  have hE:fmE p=2:=by unfold fmE;rw [if_pos c0,if_pos c1,if_pos c2,if_pos c3,if_pos c4,if_pos c5,if_pos c6,if_neg c7]
  rw [hE]
  rw [cal_code env29 rfl];simp only [fn29,slAll,Nat.reduceBEq,Nat.reduceLeDiff,Nat.reduceAdd,List.length_cons,List.length_nil]
  simp only [F0_0,F0_1,F0_2,F1_0,F2_0,F3_0,F3_1,F3_2,F4_0,F4_1,F4_2,F5_0,F5_1,F6_0,F6_1,F6_2,F7_0,F7_1,s1,s2,slAll,slsAll,Nat.reduceMul,Nat.reduceBEq,Nat.reduceLT,Nat.reduceLeDiff,memAll,vAll,reduceCtorEq,Nat.reduceEqDiff,Nat.reduceAdd,Nat.reduceLT,Nat.reduceLeDiff,Nat.beq]
 have F7_0:(p.ep≤1073741824)=True:=eq_true (by omega)
 have F7_1:(p.ep > 1073741824)=False:=eq_false (by omega)
 by_cases c8:0≤p.cyc
 rotate_left
 ·have F8_0:(p.cyc ≥ 0)=False:=eq_false (by omega)
  have F8_1:(0≤p.cyc)=False:=eq_false (by omega)
  have F8_2:(p.cyc<0)=True:=eq_true (by omega)
  have hE:fmE p=2:=by unfold fmE;rw [if_pos c0,if_pos c1,if_pos c2,if_pos c3,if_pos c4,if_pos c5,if_pos c6,if_pos c7,if_neg c8]
  rw [hE]
  rw [cal_code env29 rfl];simp only [fn29,slAll,Nat.reduceBEq,Nat.reduceLeDiff,Nat.reduceAdd,List.length_cons,List.length_nil]
  simp only [F0_0,F0_1,F0_2,F1_0,F2_0,F3_0,F3_1,F3_2,F4_0,F4_1,F4_2,F5_0,F5_1,F6_0,F6_1,F6_2,F7_0,F7_1,F8_0,F8_1,F8_2,s1,s2,slAll,slsAll,Nat.reduceMul,Nat.reduceBEq,Nat.reduceLT,Nat.reduceLeDiff,memAll,vAll,reduceCtorEq,Nat.reduceEqDiff,Nat.reduceAdd,Nat.reduceLT,Nat.reduceLeDiff,Nat.beq]
 have F8_0:(p.cyc ≥ 0)=True:=eq_true (by omega)
 have F8_1:(0≤p.cyc)=True:=eq_true (by omega)
 have F8_2:(p.cyc<0)=False:=eq_false (by omega)
 by_cases c9:p.cyc≤1073741824
 rotate_left
 ·have F9_0:(p.cyc≤1073741824)=False:=eq_false (by omega)
  have F9_1:(p.cyc > 1073741824)=True:=eq_true (by omega)
  have hE:fmE p=2:=by unfold fmE;rw [if_pos c0,if_pos c1,if_pos c2,if_pos c3,if_pos c4,if_pos c5,if_pos c6,if_pos c7,if_pos c8,if_neg c9]
  rw [hE]
  rw [cal_code env29 rfl];simp only [fn29,slAll,Nat.reduceBEq,Nat.reduceLeDiff,Nat.reduceAdd,List.length_cons,List.length_nil]
  simp only [F0_0,F0_1,F0_2,F1_0,F2_0,F3_0,F3_1,F3_2,F4_0,F4_1,F4_2,F5_0,F5_1,F6_0,F6_1,F6_2,F7_0,F7_1,F8_0,F8_1,F8_2,F9_0,F9_1,s1,s2,slAll,slsAll,Nat.reduceMul,Nat.reduceBEq,Nat.reduceLT,Nat.reduceLeDiff,memAll,vAll,reduceCtorEq,Nat.reduceEqDiff,Nat.reduceAdd,Nat.reduceLT,Nat.reduceLeDiff,Nat.beq]
 have F9_0:(p.cyc≤1073741824)=True:=eq_true (by omega)
 have F9_1:(p.cyc > 1073741824)=False:=eq_false (by omega)
 by_cases c10:p.failed=false
 rotate_left
 ·have F10_0:p.failed=true:=by simpa using c10
  have hE:fmE p=12:=by unfold fmE;rw [if_pos c0,if_pos c1,if_pos c2,if_pos c3,if_pos c4,if_pos c5,if_pos c6,if_pos c7,if_pos c8,if_pos c9,if_neg c10]
  rw [hE]
  rw [cal_code env29 rfl];simp only [fn29,slAll,Nat.reduceBEq,Nat.reduceLeDiff,Nat.reduceAdd,List.length_cons,List.length_nil]
  simp only [F0_0,F0_1,F0_2,F1_0,F2_0,F3_0,F3_1,F3_2,F4_0,F4_1,F4_2,F5_0,F5_1,F6_0,F6_1,F6_2,F7_0,F7_1,F8_0,F8_1,F8_2,F9_0,F9_1,F10_0,s1,s2,slAll,slsAll,Nat.reduceMul,Nat.reduceBEq,Nat.reduceLT,Nat.reduceLeDiff,memAll,vAll,reduceCtorEq,Nat.reduceEqDiff,Nat.reduceAdd,Nat.reduceLT,Nat.reduceLeDiff,Nat.beq]
 have F10_0:p.failed=false:=c10
 by_cases c11:p.done=true
 rotate_left
 ·have F11_0:p.done=false:=by simpa using c11
  have hE:fmE p=0:=by unfold fmE;rw [if_pos c0,if_pos c1,if_pos c2,if_pos c3,if_pos c4,if_pos c5,if_pos c6,if_pos c7,if_pos c8,if_pos c9,if_pos c10,if_neg c11]
  rw [hE]
  rw [cal_code env29 rfl];simp only [fn29,slAll,Nat.reduceBEq,Nat.reduceLeDiff,Nat.reduceAdd,List.length_cons,List.length_nil]
  simp only [F0_0,F0_1,F0_2,F1_0,F2_0,F3_0,F3_1,F3_2,F4_0,F4_1,F4_2,F5_0,F5_1,F6_0,F6_1,F6_2,F7_0,F7_1,F8_0,F8_1,F8_2,F9_0,F9_1,F10_0,F11_0,s1,s2,slAll,slsAll,Nat.reduceMul,Nat.reduceBEq,Nat.reduceLT,Nat.reduceLeDiff,memAll,vAll,reduceCtorEq,Nat.reduceEqDiff,Nat.reduceAdd,Nat.reduceLT,Nat.reduceLeDiff,Nat.beq]
 have F11_0:p.done=true:=c11
 by_cases c12:1≤p.step
 rotate_left
 ·have F12_0:(p.step ≥ 1)=False:=eq_false (by omega)
  have F12_1:(1≤p.step)=False:=eq_false (by omega)
  have F12_2:(p.step<1)=True:=eq_true (by omega)
  have hE:fmE p=12:=by unfold fmE;rw [if_pos c0,if_pos c1,if_pos c2,if_pos c3,if_pos c4,if_pos c5,if_pos c6,if_pos c7,if_pos c8,if_pos c9,if_pos c10,if_pos c11,if_neg c12]
  rw [hE]
  rw [cal_code env29 rfl];simp only [fn29,slAll,Nat.reduceBEq,Nat.reduceLeDiff,Nat.reduceAdd,List.length_cons,List.length_nil]
  simp only [F0_0,F0_1,F0_2,F1_0,F2_0,F3_0,F3_1,F3_2,F4_0,F4_1,F4_2,F5_0,F5_1,F6_0,F6_1,F6_2,F7_0,F7_1,F8_0,F8_1,F8_2,F9_0,F9_1,F10_0,F11_0,F12_0,F12_1,F12_2,s1,s2,slAll,slsAll,Nat.reduceMul,Nat.reduceBEq,Nat.reduceLT,Nat.reduceLeDiff,memAll,vAll,reduceCtorEq,Nat.reduceEqDiff,Nat.reduceAdd,Nat.reduceLT,Nat.reduceLeDiff,Nat.beq]
 have F12_0:(p.step ≥ 1)=True:=eq_true (by omega)
 have F12_1:(1≤p.step)=True:=eq_true (by omega)
 have F12_2:(p.step<1)=False:=eq_false (by omega)
 have hE:fmE p=0:=by unfold fmE;rw [if_pos c0,if_pos c1,if_pos c2,if_pos c3,if_pos c4,if_pos c5,if_pos c6,if_pos c7,if_pos c8,if_pos c9,if_pos c10,if_pos c11,if_pos c12]
 rw [hE]
 rw [cal_code env29 rfl];simp only [fn29,slAll,Nat.reduceBEq,Nat.reduceLeDiff,Nat.reduceAdd,List.length_cons,List.length_nil]
 simp only [F0_0,F0_1,F0_2,F1_0,F2_0,F3_0,F3_1,F3_2,F4_0,F4_1,F4_2,F5_0,F5_1,F6_0,F6_1,F6_2,F7_0,F7_1,F8_0,F8_1,F8_2,F9_0,F9_1,F10_0,F11_0,F12_0,F12_1,F12_2,s1,s2,slAll,slsAll,Nat.reduceMul,Nat.reduceBEq,Nat.reduceLT,Nat.reduceLeDiff,memAll,vAll,reduceCtorEq,Nat.reduceEqDiff,Nat.reduceAdd,Nat.reduceLT,Nat.reduceLeDiff,Nat.beq]
end Go.Proofs.YtioijcfcehhmdaaGreatDoor.V

namespace Go.Proofs.YtioijcfcehhmdaaGreatDoor.V
theorem cal28 {p:Prc}:cal env 28 [ePrc p]=some [(.int .i64 (fmE p),false)]:=by
 have d1:=fm48 (p:=p)
 rw [ePrc_eq] at d1
 rw [ePrc_eq,cal_dfn env28 rfl]
 by_cases h:fmE p=0
 ·have d2:=cal48 (p:=p) h
  rw [ePrc_eq] at d2
  rw [if_pos h] at d1
  rw [h]
  simp only [fn28,slAll,Nat.reduceBEq,Nat.reduceLeDiff,Nat.reduceAdd,List.length_cons,List.length_nil]
  simp only [d1,d2,dfnRun_normal,DFn.begun,dfnEnd,varOf,dfnResc,dfnClos,slAll,slsAll,Nat.reduceMul,Nat.reduceBEq,Nat.reduceLT,Nat.reduceLeDiff,memAll,vAll,reduceCtorEq,Nat.reduceEqDiff,Nat.reduceAdd,Nat.reduceLT,Nat.reduceLeDiff,Nat.beq]
 ·rw [if_neg h] at d1
  simp only [fn28,slAll,Nat.reduceBEq,Nat.reduceLeDiff,Nat.reduceAdd,List.length_cons,List.length_nil]
  simp only [d1,dfnRun_normal,DFn.begun,dfnEnd,varOf,dfnResc,dfnClos,St.setVar,St.varInt,PV.naught,List.all_cons,List.all_nil,List.map_cons,List.map_nil,slAll,slsAll,Nat.reduceMul,Nat.reduceBEq,Nat.reduceLT,Nat.reduceLeDiff,memAll,vAll,reduceCtorEq,Nat.reduceEqDiff,Nat.reduceAdd,Nat.reduceLT,Nat.reduceLeDiff,Nat.beq]
end Go.Proofs.YtioijcfcehhmdaaGreatDoor.V

namespace Go.Proofs.YtioijcfcehhmdaaGreatDoor.V
--+
theorem cal52 {l:List Spn} (hl:l.length≤lim):cal env 52 [.list 3 (l.map eSpn)]=some [(.int .i64 (headOf l).epoch,false),(.int .i64 (headOf l).to,false)]:=by
 by_cases h0:l.length=0
 ·obtain rfl:=List.eq_nil_of_length_eq_zero h0
  have F1:(((0:Nat):Int)==0)=true:=rfl
  rw [cal_code env52 rfl];simp only [fn52,slAll,Nat.reduceBEq,Nat.reduceLeDiff,Nat.reduceAdd,List.length_cons,List.length_nil]
  simp only [F1,List.length_nil,List.map_nil,slAll,slsAll,Nat.reduceMul,Nat.reduceBEq,Nat.reduceLT,Nat.reduceLeDiff,memAll,vAll,reduceCtorEq,Nat.reduceEqDiff,Nat.reduceAdd,Nat.reduceLT,Nat.reduceLeDiff,Nat.beq]
  rfl
 ·obtain ⟨k,hk⟩:∃ k,l.length=k+1:=⟨l.length - 1,by omega⟩
  have hkl:k<l.length:=by omega
  have hx:l[k]?=some l[k]:=List.getElem?_eq_getElem hkl
  have he:headOf l=l[k]:=by rw [headOf,hk,lastOf_succ hkl]
  have hl':=hl
  unfold lim at hl'
  have F1:((l.length:Int)==0)=false:=by simpa using h0
  have F2:IntKind.i64.wrap ((l.length:Int) - 1)=(k:Int):=by rw [i64_fits (by omega)];omega
  have P0:∀ a b c:PV,part [a,b,c] 0 (some 3)=some (.agg [a,b,c]):=fun _ _ _=>rfl
  rw [he]
  generalize l[k]=x at *
  obtain ⟨xe,xf,xt⟩:=x
  rw [cal_code env52 rfl];simp only [fn52,slAll,Nat.reduceBEq,Nat.reduceLeDiff,Nat.reduceAdd,List.length_cons,List.length_nil]
  simp only [F1,F2,hx,eSpn,index_nat hkl,List.getElem?_map,Option.map_some,P0,List.length_map,slAll,slsAll,Nat.reduceMul,Nat.reduceBEq,Nat.reduceLT,Nat.reduceLeDiff,memAll,vAll,reduceCtorEq,Nat.reduceEqDiff,Nat.reduceAdd,Nat.reduceLT,Nat.reduceLeDiff,Nat.beq]
--+
theorem cal56 {l:List Spn} (hl:l.length≤lim):cal env 56 [.list 3 (l.map eSpn)]=some [(.int .i64 (headOf l).epoch,false),(.int .i64 (headOf l).to,false)]:=by
 by_cases h0:l.length=0
 ·obtain rfl:=List.eq_nil_of_length_eq_zero h0
  have F1:(((0:Nat):Int)==0)=true:=rfl
  rw [cal_code env56 rfl];simp only [fn56,slAll,Nat.reduceBEq,Nat.reduceLeDiff,Nat.reduceAdd,List.length_cons,List.length_nil]
  simp only [F1,List.length_nil,List.map_nil,slAll,slsAll,Nat.reduceMul,Nat.reduceBEq,Nat.reduceLT,Nat.reduceLeDiff,memAll,vAll,reduceCtorEq,Nat.reduceEqDiff,Nat.reduceAdd,Nat.reduceLT,Nat.reduceLeDiff,Nat.beq]
  rfl
 ·obtain ⟨k,hk⟩:∃ k,l.length=k+1:=⟨l.length - 1,by omega⟩
  have hkl:k<l.length:=by omega
  have hx:l[k]?=some l[k]:=List.getElem?_eq_getElem hkl
  have he:headOf l=l[k]:=by rw [headOf,hk,lastOf_succ hkl]
  have hl':=hl
  unfold lim at hl'
  have F1:((l.length:Int)==0)=false:=by simpa using h0
  have F2:IntKind.i64.wrap ((l.length:Int) - 1)=(k:Int):=by rw [i64_fits (by omega)];omega
  have P0:∀ a b c:PV,part [a,b,c] 0 (some 3)=some (.agg [a,b,c]):=fun _ _ _=>rfl
  rw [he]
  generalize l[k]=x at *
  obtain ⟨xe,xf,xt⟩:=x
  rw [cal_code env56 rfl];simp only [fn56,slAll,Nat.reduceBEq,Nat.reduceLeDiff,Nat.reduceAdd,List.length_cons,List.length_nil]
  simp only [F1,F2,hx,eSpn,index_nat hkl,List.getElem?_map,Option.map_some,P0,List.length_map,slAll,slsAll,Nat.reduceMul,Nat.reduceBEq,Nat.reduceLT,Nat.reduceLeDiff,memAll,vAll,reduceCtorEq,Nat.reduceEqDiff,Nat.reduceAdd,Nat.reduceLT,Nat.reduceLeDiff,Nat.beq]
def dirF (l:List Bm):Bool:=l.all fun b=>decide (b.ws.length≤4)
def few48 (p:Pt):Bool:=dirF (p.dirty.take 12)&&(decide (p.lin.length≤20)&&(decide (p.dirty.length≤12)&&few7 p.img))
def resF (n:Nat) (p:Pt) (t:Bool):Option (Ex × St):=if t then some (.normal,⟨sl n [(1,.pbox 0 0),(2,.any)],[⟨false,bPt p⟩],[],none⟩) else some (.ret,⟨sl n [(1,.pbox 0 0),(2,.pv (.bool false))],[⟨false,bPt p⟩],[],none⟩)
theorem loop10 {p:Pt} {st:St} (h:st.head [1,3] st.boxes.length=some ⟨sl 38 [(1,.pbox 0 0),(3,.pv (.int .i64 (0:Nat)))],[⟨false,bPt p⟩],[],none⟩) :
  den env fn10_l1 st=resF 38 p (dirF ((p.dirty.take 12).drop ((0:Nat)))):=by
 unfold fn10_l1
 refine clean_up (env:=env) (nb:=1) ((p.dirty.take 12).length) (fun i=>⟨sl 38 [(1,.pbox 0 0),(3,.pv (.int .i64 i))],[⟨false,bPt p⟩],[],none⟩) (fun i=>resF 38 p (dirF ((p.dirty.take 12).drop (i)))) h (fun _=>rfl) (fun _=>by simp only [slAll,slsAll,Nat.reduceMul,Nat.reduceBEq,Nat.reduceLT,Nat.reduceLeDiff,Nat.reduceAdd,decide_true,Bool.and_self,Bool.true_and]) ?_ ?_
 ·intro i rb hi ih
  have hm:(p.dirty.take 12).length=min 12 p.dirty.length:=List.length_take
  have hi1:=i64_next hi (by unfold lim;omega)
  have hil:i<p.dirty.length:=by omega
  have F1:((i:Int)<(p.dirty.length:Int))=True:=eq_true (by omega)
  have F2:((i:Int)<12)=True:=eq_true (by omega)
  have hx:(p.dirty.map eBm)[i]?=some (.agg [.int .i64 p.dirty[i].size,.list 1 (p.dirty[i].ws.map eW)]):=by rw [List.getElem?_map,List.getElem?_eq_getElem hil];rfl
  have hs:dirF ((p.dirty.take 12).drop i)=(decide (p.dirty[i].ws.length≤4)&&dirF ((p.dirty.take 12).drop (i+1))):=by
   rw [List.drop_eq_getElem_cons hi]
   unfold dirF
   rw [List.all_cons,List.getElem_take]
  rw [hs]
  unfold resF
  by_cases c1:p.dirty[i].ws.length≤4
  ·have G1:((p.dirty[i].ws.length:Int) > 4)=False:=eq_false (by omega)
   rw [decide_eq_true c1,Bool.true_and]
   simp only [fn10_b0,F1,F2,hx,G1,bPt_eq,index_nat hil,List.length_map,slAll,slsAll,Nat.reduceMul,Nat.reduceBEq,Nat.reduceLT,Nat.reduceLeDiff,memAll,vAll,reduceCtorEq,Nat.reduceEqDiff,Nat.reduceAdd,Nat.reduceLT,Nat.reduceLeDiff,Nat.beq]
   rw [ih _ (by simp only [hi1,bPt_eq,slAll,slsAll,Nat.reduceMul,Nat.reduceBEq,Nat.reduceLT,Nat.reduceLeDiff,memAll,vAll,reduceCtorEq,Nat.reduceEqDiff,Nat.reduceAdd,Nat.reduceLT,Nat.reduceLeDiff,Nat.beq]<;>rfl)]
   unfold resF
   simp only [bPt_eq]
  ·have G1:((p.dirty[i].ws.length:Int) > 4)=True:=eq_true (by omega)
   rw [decide_eq_false c1,Bool.false_and,if_neg (by decide)]
   simp only [fn10_b0,F1,F2,hx,G1,bPt_eq,index_nat hil,List.length_map,slAll,slsAll,Nat.reduceMul,Nat.reduceBEq,Nat.reduceLT,Nat.reduceLeDiff,memAll,vAll,reduceCtorEq,Nat.reduceEqDiff,Nat.reduceAdd,Nat.reduceLT,Nat.reduceLeDiff,Nat.beq]
 ·intro rb
  have hm:(p.dirty.take 12).length=min 12 p.dirty.length:=List.length_take
  rw [List.drop_length]
  unfold resF
  rw [show dirF []=true from rfl,if_pos rfl]
  by_cases c:p.dirty.length≤12
  ·have F1:(((p.dirty.take 12).length:Int)<(p.dirty.length:Int))=False:=eq_false (by omega)
   simp only [fn10_b0,F1,bPt_eq,List.length_map,slAll,slsAll,Nat.reduceMul,Nat.reduceBEq,Nat.reduceLT,Nat.reduceLeDiff,memAll,vAll,reduceCtorEq,Nat.reduceEqDiff,Nat.reduceAdd,Nat.reduceLT,Nat.reduceLeDiff,Nat.beq]
  ·have F1:(((p.dirty.take 12).length:Int)<(p.dirty.length:Int))=True:=eq_true (by omega)
   have F2:(((p.dirty.take 12).length:Int)<12)=False:=eq_false (by omega)
   simp only [fn10_b0,F1,F2,bPt_eq,List.length_map,slAll,slsAll,Nat.reduceMul,Nat.reduceBEq,Nat.reduceLT,Nat.reduceLeDiff,memAll,vAll,reduceCtorEq,Nat.reduceEqDiff,Nat.reduceAdd,Nat.reduceLT,Nat.reduceLeDiff,Nat.beq]
theorem cal10 {p:Pt}:cal env 10 [ePt p]=some [(.bool (few48 p),false)]:=by
 have e1:=cal42 (im:=p.img)
 unfold few48
 rw [ePt_eq]
 rw [cal_code env10 rfl];simp only [fn10,slAll,Nat.reduceBEq,Nat.reduceLeDiff,Nat.reduceAdd,List.length_cons,List.length_nil]
 simp only [slAll,slsAll,Nat.reduceMul,Nat.reduceBEq,Nat.reduceLT,Nat.reduceLeDiff,memAll,vAll,reduceCtorEq,Nat.reduceEqDiff,Nat.reduceAdd,Nat.reduceLT,Nat.reduceLeDiff,Nat.beq]
 rw [loop10 (p:=p)]
 rotate_left
 ·simp only [bPt_eq];simp only [slAll,slsAll,Nat.reduceMul,Nat.reduceBEq,Nat.reduceLT,Nat.reduceLeDiff,Nat.reduceAdd,decide_true,Bool.and_self,Bool.true_and]<;>rfl
 ·unfold resF
  rw [List.drop_zero]
  cases hd:dirF (p.dirty.take 12) with
  |false=>rw [if_neg (by decide)];simp only [bPt_eq,slAll,slsAll,Nat.reduceMul,Nat.reduceBEq,Nat.reduceLT,Nat.reduceLeDiff,memAll,vAll,reduceCtorEq,Nat.reduceEqDiff,Nat.reduceAdd,Nat.reduceLT,Nat.reduceLeDiff,Nat.beq]
  |true =>
   rw [if_pos rfl]
   by_cases c1:p.lin.length≤20
   ·have G1:((p.lin.length:Int)≤20)=True:=eq_true (by omega)
    rw [decide_eq_true c1]
    by_cases c2:p.dirty.length≤12
    ·have G2:((p.dirty.length:Int)≤12)=True:=eq_true (by omega)
     rw [decide_eq_true c2]
     simp only [bPt_eq,G1,G2,e1,List.length_map,slAll,slsAll,Nat.reduceMul,Nat.reduceBEq,Nat.reduceLT,Nat.reduceLeDiff,memAll,vAll,reduceCtorEq,Nat.reduceEqDiff,Nat.reduceAdd,Nat.reduceLT,Nat.reduceLeDiff,Nat.beq]
    ·have G2:((p.dirty.length:Int)≤12)=False:=eq_false (by omega)
     rw [decide_eq_false c2]
     simp only [bPt_eq,G1,G2,List.length_map,slAll,slsAll,Nat.reduceMul,Nat.reduceBEq,Nat.reduceLT,Nat.reduceLeDiff,memAll,vAll,reduceCtorEq,Nat.reduceEqDiff,Nat.reduceAdd,Nat.reduceLT,Nat.reduceLeDiff,Nat.beq]
   ·have G1:((p.lin.length:Int)≤20)=False:=eq_false (by omega)
    rw [decide_eq_false c1]
    simp only [bPt_eq,G1,List.length_map,slAll,slsAll,Nat.reduceMul,Nat.reduceBEq,Nat.reduceLT,Nat.reduceLeDiff,memAll,vAll,reduceCtorEq,Nat.reduceEqDiff,Nat.reduceAdd,Nat.reduceLT,Nat.reduceLeDiff,Nat.beq]
end Go.Proofs.YtioijcfcehhmdaaGreatDoor.V

namespace Go.Proofs.YtioijcfcehhmdaaGreatDoor.V
def bPrc (p:Prc):List BV:=[.pv (.int .i64 p.kind),.pv (.int .i64 p.frm),.pv (.int .i64 p.to),.pv (.int .i64 p.step),.pv (.int .i64 p.ep),.pv (.int .i64 p.cyc),.pv (.bool p.done),.pv (.bool p.failed)]
theorem bPrc_eq (p:Prc):bPrc p=[.pv (.int .i64 p.kind),.pv (.int .i64 p.frm),.pv (.int .i64 p.to),.pv (.int .i64 p.step),.pv (.int .i64 p.ep),.pv (.int .i64 p.cyc),.pv (.bool p.done),.pv (.bool p.failed)]:=rfl
def zPrc:Prc:=⟨0,0,0,0,0,0,false,false⟩
end Go.Proofs.YtioijcfcehhmdaaGreatDoor.V

namespace Go.Proofs.YtioijcfcehhmdaaGreatDoor.V
end Go.Proofs.YtioijcfcehhmdaaGreatDoor.V

namespace Go.Proofs.YtioijcfcehhmdaaGreatDoor.V
def ancR (p:Spn):List Spn→List Spn→Bool × Int × Int
 |x :: a,y :: b=>if x.epoch=y.epoch then (if x.to=y.to then ancR x a b else (true,if y.to<x.to then y.to else x.to,x.epoch)) else (true,p.to,p.epoch)
 |_,_=>(false,p.to,p.epoch)
set_option maxHeartbeats 2000000 in
theorem loop74 {a b:List Spn} (ha:a.length≤lim) (hb:b.length≤lim)
  {st:St} (h:st.head [0,1,6,7,8] st.boxes.length=some ⟨[.pv (.list 3 (a.map eSpn)),.pv (.list 3 (b.map eSpn)),.any,.any,.any,.any,.pv (.int .i64 0),.pv (.int .i64 0),.pv (.int .i64 (0:Nat)),.any,.any,.any,.any,.any,.any,.any,.any,.any,.any,.any,.any,.any,.any,.any,.any,.any,.any,.any,.any,.any,.any,.any,.any,.any,.any,.any,.any,.any,.any,.any,.any,.any,.any,.any,.any,.any,.any,.any,.any,.any,.any,.any,.any,.any,.any,.any,.any,.any,.any,.any,.any,.any,.any,.any,.any,.any,.any,.any,.any,.any,.any,.any,.any],[],[],none⟩) :
  den env fn74_l1 st=match ancR z0 a b with
   |(false,c,e)=>some (.normal,⟨[.any,.any,.any,.any,.any,.any,.pv (.int .i64 c),.pv (.int .i64 e),.any,.any,.any,.any,.any,.any,.any,.any,.any,.any,.any,.any,.any,.any,.any,.any,.any,.any,.any,.any,.any,.any,.any,.any,.any,.any,.any,.any,.any,.any,.any,.any,.any,.any,.any,.any,.any,.any,.any,.any,.any,.any,.any,.any,.any,.any,.any,.any,.any,.any,.any,.any,.any,.any,.any,.any,.any,.any,.any,.any,.any,.any,.any,.any,.any],[],[],none⟩)
   |(true,c,e)=>some (.ret,⟨[.any,.any,.any,.any,.pv (.int .i64 c),.pv (.int .i64 e),.pv (.int .i64 c),.pv (.int .i64 e),.any,.any,.any,.any,.any,.any,.any,.any,.any,.any,.any,.any,.any,.any,.any,.any,.any,.any,.any,.any,.any,.any,.any,.any,.any,.any,.any,.any,.any,.any,.any,.any,.any,.any,.any,.any,.any,.any,.any,.any,.any,.any,.any,.any,.any,.any,.any,.any,.any,.any,.any,.any,.any,.any,.any,.any,.any,.any,.any,.any,.any,.any,.any,.any,.any],[],[],none⟩):=by
 unfold fn74_l1
 refine clean_upP (env:=env) (min a.length b.length) (fun _=>True) (fun i=>⟨[.pv (.list 3 (a.map eSpn)),.pv (.list 3 (b.map eSpn)),.any,.any,.any,.any,.pv (.int .i64 (lastOf a i).to),.pv (.int .i64 (lastOf a i).epoch),.pv (.int .i64 i),.any,.any,.any,.any,.any,.any,.any,.any,.any,.any,.any,.any,.any,.any,.any,.any,.any,.any,.any,.any,.any,.any,.any,.any,.any,.any,.any,.any,.any,.any,.any,.any,.any,.any,.any,.any,.any,.any,.any,.any,.any,.any,.any,.any,.any,.any,.any,.any,.any,.any,.any,.any,.any,.any,.any,.any,.any,.any,.any,.any,.any,.any,.any,.any],[],[],none⟩)
  (fun i=>match ancR (lastOf a i) (a.drop i) (b.drop i) with
   |(false,c,e)=>some (.normal,⟨[.any,.any,.any,.any,.any,.any,.pv (.int .i64 c),.pv (.int .i64 e),.any,.any,.any,.any,.any,.any,.any,.any,.any,.any,.any,.any,.any,.any,.any,.any,.any,.any,.any,.any,.any,.any,.any,.any,.any,.any,.any,.any,.any,.any,.any,.any,.any,.any,.any,.any,.any,.any,.any,.any,.any,.any,.any,.any,.any,.any,.any,.any,.any,.any,.any,.any,.any,.any,.any,.any,.any,.any,.any,.any,.any,.any,.any,.any,.any],[],[],none⟩)
   |(true,c,e)=>some (.ret,⟨[.any,.any,.any,.any,.pv (.int .i64 c),.pv (.int .i64 e),.pv (.int .i64 c),.pv (.int .i64 e),.any,.any,.any,.any,.any,.any,.any,.any,.any,.any,.any,.any,.any,.any,.any,.any,.any,.any,.any,.any,.any,.any,.any,.any,.any,.any,.any,.any,.any,.any,.any,.any,.any,.any,.any,.any,.any,.any,.any,.any,.any,.any,.any,.any,.any,.any,.any,.any,.any,.any,.any,.any,.any,.any,.any,.any,.any,.any,.any,.any,.any,.any,.any,.any,.any],[],[],none⟩)) h trivial (fun _=>rfl) (fun _=>rfl) ?_ ?_
 ·intro i rb hi _ ih
  have hia:i<a.length:=by omega
  have hib:i<b.length:=by omega
  have hi1:=i64_next hia ha
  have F1:((i:Int)<(a.length:Int))=True:=eq_true (by omega)
  have F2:((i:Int)<(b.length:Int))=True:=eq_true (by omega)
  have hx:a[i]?=some a[i]:=List.getElem?_eq_getElem hia
  have hy:b[i]?=some b[i]:=List.getElem?_eq_getElem hib
  rw [lastOf_succ hia] at ih
  rw [List.drop_eq_getElem_cons hia,List.drop_eq_getElem_cons hib]
  unfold ancR
  generalize lastOf a i=p at *
  generalize a[i]=x at *
  generalize b[i]=y at *
  obtain ⟨pe,pf,pt⟩:=p
  obtain ⟨xe,xf,xt⟩:=x
  obtain ⟨ye,yf,yt⟩:=y
  by_cases c1:xe=ye
  rotate_left
  ·have G1:(xe != ye)=true:=by simpa using c1
   have G0:(xe=ye)=False:=eq_false c1
   simp only [G1,G0,if_false,fn74_b0,F1,F2,hx,hy,eSpn,index_nat hia,index_nat hib,List.getElem?_map,Option.map_some,memAll,vAll,reduceCtorEq,Nat.reduceEqDiff,Nat.reduceAdd,Nat.reduceLT,Nat.reduceLeDiff,Nat.beq]<;>rfl
  have G1:(xe != ye)=false:=by simpa using c1
  by_cases c2:xt=yt
  rotate_left
  ·have G2:(xt != yt)=true:=by simpa using c2
   have G0:(xt=yt)=False:=eq_false c2
   simp only [G1,G2,c1,G0,if_false,if_true,fn74_b0,F1,F2,hx,hy,eSpn,index_nat hia,index_nat hib,List.getElem?_map,Option.map_some,memAll,vAll,reduceCtorEq,Nat.reduceEqDiff,Nat.reduceAdd,Nat.reduceLT,Nat.reduceLeDiff,Nat.beq]<;>rfl
  subst c1 c2
  have G1:(xe != xe)=false:=by simp
  have G2:(xt != xt)=false:=by simp
  simp only [G1,G2,Int.lt_irrefl,if_false,if_true,fn74_b0,F1,F2,hx,hy,eSpn,index_nat hia,index_nat hib,List.getElem?_map,Option.map_some,memAll,vAll,reduceCtorEq,Nat.reduceEqDiff,Nat.reduceAdd,Nat.reduceLT,Nat.reduceLeDiff,Nat.beq]
  rw [ih trivial _ (by simp only [hi1];rfl)]
 ·intro rb _
  by_cases h1:a.length≤b.length
  ·have e:min a.length b.length=a.length:=by omega
   rw [e]
   simp only [fn74_b0,Int.lt_irrefl,memAll,vAll,reduceCtorEq,Nat.reduceEqDiff,Nat.reduceAdd,Nat.reduceLT,Nat.reduceLeDiff,Nat.beq]
   rw [List.drop_length]
   rfl
  ·have e:min a.length b.length=b.length:=by omega
   rw [e]
   have F1:((b.length:Int)<(a.length:Int))=True:=eq_true (by omega)
   simp only [fn74_b0,F1,Int.lt_irrefl,memAll,vAll,reduceCtorEq,Nat.reduceEqDiff,Nat.reduceAdd,Nat.reduceLT,Nat.reduceLeDiff,Nat.beq]
   rw [List.drop_length]
   cases a.drop b.length<;>rfl
end Go.Proofs.YtioijcfcehhmdaaGreatDoor.V

namespace Go.Proofs.YtioijcfcehhmdaaGreatDoor.V
def ancX (a b:List Spn):Int × Int:=if (linOk a&&linOk b)=true then (ancR z0 a b).2 else (0,0)
theorem cal74 {a b:List Spn} (ha:a.length≤lim) (hb:b.length≤lim):cal env 74 [.list 3 (a.map eSpn),.list 3 (b.map eSpn)]=some [(.int .i64 (ancX a b).1,false),(.int .i64 (ancX a b).2,false)]:=by
 have e1:=cal100 ha
 have e2:=cal100 hb
 unfold ancX
 cases h1:linOk a with
 |false =>
  rw [h1] at e1
  rw [cal_code env74 rfl];simp only [fn74];simp only [start,z_map_cons,z_map_nil,z_len_cons,z_len_nil,z_repl_zero,z_repl_succ,z_cons_app,z_nil_app,Nat.reduceAdd,Nat.reduceSub]
  simp only [e1,Bool.false_and,Bool.false_eq_true,if_false,memAll,vAll,reduceCtorEq,Nat.reduceEqDiff,Nat.reduceAdd,Nat.reduceLT,Nat.reduceLeDiff,Nat.beq]
 |true =>
  rw [h1] at e1
  cases h2:linOk b with
  |false =>
   rw [h2] at e2
   rw [cal_code env74 rfl];simp only [fn74];simp only [start,z_map_cons,z_map_nil,z_len_cons,z_len_nil,z_repl_zero,z_repl_succ,z_cons_app,z_nil_app,Nat.reduceAdd,Nat.reduceSub]
   simp only [e1,e2,Bool.and_false,Bool.false_eq_true,if_false,memAll,vAll,reduceCtorEq,Nat.reduceEqDiff,Nat.reduceAdd,Nat.reduceLT,Nat.reduceLeDiff,Nat.beq]
  |true =>
   rw [h2] at e2
   rw [cal_code env74 rfl];simp only [fn74];simp only [start,z_map_cons,z_map_nil,z_len_cons,z_len_nil,z_repl_zero,z_repl_succ,z_cons_app,z_nil_app,Nat.reduceAdd,Nat.reduceSub]
   simp only [e1,e2,Bool.and_self,if_true,memAll,vAll,reduceCtorEq,Nat.reduceEqDiff,Nat.reduceAdd,Nat.reduceLT,Nat.reduceLeDiff,Nat.beq]
   rw [loop74 ha hb]
   rotate_left
   ·rfl
   ·cases h:ancR z0 a b with
    |mk t q =>
     obtain ⟨c,e⟩:=q
     cases t with
     |true=>simp only [memAll,vAll,reduceCtorEq,Nat.reduceEqDiff,Nat.reduceAdd,Nat.reduceLT,Nat.reduceLeDiff,Nat.beq]
     |false=>simp only [memAll,vAll,reduceCtorEq,Nat.reduceEqDiff,Nat.reduceAdd,Nat.reduceLT,Nat.reduceLeDiff,Nat.beq]
end Go.Proofs.YtioijcfcehhmdaaGreatDoor.V

namespace Go.Proofs.YtioijcfcehhmdaaGreatDoor.V
set_option maxHeartbeats 2000000 in
theorem loop71 {a b:List Spn} (ha:a.length≤lim) (hb:b.length≤lim)
  {st:St} (h:st.head [0,1,6,7,8] st.boxes.length=some ⟨[.pv (.list 3 (a.map eSpn)),.pv (.list 3 (b.map eSpn)),.any,.any,.any,.any,.pv (.int .i64 0),.pv (.int .i64 0),.pv (.int .i64 (0:Nat)),.any,.any,.any,.any,.any,.any,.any,.any,.any,.any,.any,.any,.any,.any,.any,.any,.any,.any,.any,.any,.any,.any,.any,.any,.any,.any,.any,.any,.any,.any,.any,.any,.any,.any,.any,.any,.any,.any,.any,.any,.any,.any,.any,.any,.any,.any,.any,.any,.any,.any,.any,.any,.any,.any,.any,.any,.any,.any,.any],[],[],none⟩) :
  den env fn71_l1 st=match ancR z0 a b with
   |(false,c,e)=>some (.normal,⟨[.any,.any,.any,.any,.any,.any,.pv (.int .i64 c),.pv (.int .i64 e),.any,.any,.any,.any,.any,.any,.any,.any,.any,.any,.any,.any,.any,.any,.any,.any,.any,.any,.any,.any,.any,.any,.any,.any,.any,.any,.any,.any,.any,.any,.any,.any,.any,.any,.any,.any,.any,.any,.any,.any,.any,.any,.any,.any,.any,.any,.any,.any,.any,.any,.any,.any,.any,.any,.any,.any,.any,.any,.any,.any],[],[],none⟩)
   |(true,c,e)=>some (.normal,⟨[.any,.any,.any,.any,.any,.any,.pv (.int .i64 c),.pv (.int .i64 e),.any,.any,.any,.any,.any,.any,.any,.any,.any,.any,.any,.any,.any,.any,.any,.any,.any,.any,.any,.any,.any,.any,.any,.any,.any,.any,.any,.any,.any,.any,.any,.any,.any,.any,.any,.any,.any,.any,.any,.any,.any,.any,.any,.any,.any,.any,.any,.any,.any,.any,.any,.any,.any,.any,.any,.any,.any,.any,.any,.any],[],[],none⟩):=by
 unfold fn71_l1
 refine clean_upP (env:=env) (min a.length b.length) (fun _=>True) (fun i=>⟨[.pv (.list 3 (a.map eSpn)),.pv (.list 3 (b.map eSpn)),.any,.any,.any,.any,.pv (.int .i64 (lastOf a i).to),.pv (.int .i64 (lastOf a i).epoch),.pv (.int .i64 i),.any,.any,.any,.any,.any,.any,.any,.any,.any,.any,.any,.any,.any,.any,.any,.any,.any,.any,.any,.any,.any,.any,.any,.any,.any,.any,.any,.any,.any,.any,.any,.any,.any,.any,.any,.any,.any,.any,.any,.any,.any,.any,.any,.any,.any,.any,.any,.any,.any,.any,.any,.any,.any,.any,.any,.any,.any,.any,.any],[],[],none⟩)
  (fun i=>match ancR (lastOf a i) (a.drop i) (b.drop i) with
   |(false,c,e)=>some (.normal,⟨[.any,.any,.any,.any,.any,.any,.pv (.int .i64 c),.pv (.int .i64 e),.any,.any,.any,.any,.any,.any,.any,.any,.any,.any,.any,.any,.any,.any,.any,.any,.any,.any,.any,.any,.any,.any,.any,.any,.any,.any,.any,.any,.any,.any,.any,.any,.any,.any,.any,.any,.any,.any,.any,.any,.any,.any,.any,.any,.any,.any,.any,.any,.any,.any,.any,.any,.any,.any,.any,.any,.any,.any,.any,.any],[],[],none⟩)
   |(true,c,e)=>some (.normal,⟨[.any,.any,.any,.any,.any,.any,.pv (.int .i64 c),.pv (.int .i64 e),.any,.any,.any,.any,.any,.any,.any,.any,.any,.any,.any,.any,.any,.any,.any,.any,.any,.any,.any,.any,.any,.any,.any,.any,.any,.any,.any,.any,.any,.any,.any,.any,.any,.any,.any,.any,.any,.any,.any,.any,.any,.any,.any,.any,.any,.any,.any,.any,.any,.any,.any,.any,.any,.any,.any,.any,.any,.any,.any,.any],[],[],none⟩)) h trivial (fun _=>rfl) (fun _=>rfl) ?_ ?_
 ·intro i rb hi _ ih
  have hia:i<a.length:=by omega
  have hib:i<b.length:=by omega
  have hi1:=i64_next hia ha
  have F1:((i:Int)<(if (b.length:Int)<(a.length:Int) then (b.length:Int) else (a.length:Int)))=True:=eq_true (by split<;>omega)
  have hx:a[i]?=some a[i]:=List.getElem?_eq_getElem hia
  have hy:b[i]?=some b[i]:=List.getElem?_eq_getElem hib
  rw [lastOf_succ hia] at ih
  rw [List.drop_eq_getElem_cons hia,List.drop_eq_getElem_cons hib]
  unfold ancR
  generalize lastOf a i=p at *
  generalize a[i]=x at *
  generalize b[i]=y at *
  obtain ⟨pe,pf,pt⟩:=p
  obtain ⟨xe,xf,xt⟩:=x
  obtain ⟨ye,yf,yt⟩:=y
  by_cases c1:xe=ye
  rotate_left
  ·have G1:(xe==ye)=false:=by simpa using c1
   have G0:(xe=ye)=False:=eq_false c1
   simp only [G1,G0,if_false,fn71_b0,F1,hx,hy,eSpn,index_nat hia,index_nat hib,List.getElem?_map,Option.map_some,memAll,vAll,reduceCtorEq,Nat.reduceEqDiff,Nat.reduceAdd,Nat.reduceLT,Nat.reduceLeDiff,Nat.beq]<;>rfl
  have G1:(xe==ye)=true:=by simpa using c1
  by_cases c2:xt=yt
  rotate_left
  ·have G2:(xt != yt)=true:=by simpa using c2
   have G0:(xt=yt)=False:=eq_false c2
   simp only [G1,G2,c1,G0,if_false,if_true,fn71_b0,F1,hx,hy,eSpn,index_nat hia,index_nat hib,List.getElem?_map,Option.map_some,memAll,vAll,reduceCtorEq,Nat.reduceEqDiff,Nat.reduceAdd,Nat.reduceLT,Nat.reduceLeDiff,Nat.beq]<;>rfl
  subst c1 c2
  have G1:(xe==xe)=true:=by simp
  have G2:(xt != xt)=false:=by simp
  simp only [G1,G2,Int.lt_irrefl,if_false,if_true,fn71_b0,F1,hx,hy,eSpn,index_nat hia,index_nat hib,List.getElem?_map,Option.map_some,memAll,vAll,reduceCtorEq,Nat.reduceEqDiff,Nat.reduceAdd,Nat.reduceLT,Nat.reduceLeDiff,Nat.beq]
  rw [ih trivial _ (by simp only [hi1];rfl)]
 ·intro rb _
  have F1:(((min a.length b.length:Nat):Int)<(if (b.length:Int)<(a.length:Int) then (b.length:Int) else (a.length:Int)))=False:=eq_false (by split<;>omega)
  simp only [fn71_b0,F1,memAll,vAll,reduceCtorEq,Nat.reduceEqDiff,Nat.reduceAdd,Nat.reduceLT,Nat.reduceLeDiff,Nat.beq]
  by_cases h1:a.length≤b.length
  ·have e:min a.length b.length=a.length:=by omega
   rw [e,List.drop_length]
   rfl
  ·have e:min a.length b.length=b.length:=by omega
   rw [e,List.drop_length]
   cases a.drop b.length<;>rfl
end Go.Proofs.YtioijcfcehhmdaaGreatDoor.V

namespace Go.Proofs.YtioijcfcehhmdaaGreatDoor.V
theorem cal71 {a b:List Spn} (ha:a.length≤lim) (hb:b.length≤lim):cal env 71 [.list 3 (a.map eSpn),.list 3 (b.map eSpn)]=some [(.int .i64 (ancX a b).1,false),(.int .i64 (ancX a b).2,false)]:=by
 have e1:=cal93 ha
 have e2:=cal93 hb
 unfold ancX
 cases h1:linOk a with
 |false =>
  rw [h1] at e1
  rw [cal_code env71 rfl];simp only [fn71];simp only [start,z_map_cons,z_map_nil,z_len_cons,z_len_nil,z_repl_zero,z_repl_succ,z_cons_app,z_nil_app,Nat.reduceAdd,Nat.reduceSub]
  simp only [e1,Bool.false_and,Bool.false_eq_true,if_false,memAll,vAll,reduceCtorEq,Nat.reduceEqDiff,Nat.reduceAdd,Nat.reduceLT,Nat.reduceLeDiff,Nat.beq]
 |true =>
  rw [h1] at e1
  cases h2:linOk b with
  |false =>
   rw [h2] at e2
   rw [cal_code env71 rfl];simp only [fn71];simp only [start,z_map_cons,z_map_nil,z_len_cons,z_len_nil,z_repl_zero,z_repl_succ,z_cons_app,z_nil_app,Nat.reduceAdd,Nat.reduceSub]
   simp only [e1,e2,Bool.and_false,Bool.false_eq_true,if_false,memAll,vAll,reduceCtorEq,Nat.reduceEqDiff,Nat.reduceAdd,Nat.reduceLT,Nat.reduceLeDiff,Nat.beq]
  |true =>
   rw [h2] at e2
   rw [cal_code env71 rfl];simp only [fn71];simp only [start,z_map_cons,z_map_nil,z_len_cons,z_len_nil,z_repl_zero,z_repl_succ,z_cons_app,z_nil_app,Nat.reduceAdd,Nat.reduceSub]
   simp only [e1,e2,Bool.and_self,if_true,memAll,vAll,reduceCtorEq,Nat.reduceEqDiff,Nat.reduceAdd,Nat.reduceLT,Nat.reduceLeDiff,Nat.beq]
   rw [loop71 ha hb]
   rotate_left
   ·rfl
   ·cases h:ancR z0 a b with
    |mk t q =>
     obtain ⟨c,e⟩:=q
     cases t with
     |true=>simp only [memAll,vAll,reduceCtorEq,Nat.reduceEqDiff,Nat.reduceAdd,Nat.reduceLT,Nat.reduceLeDiff,Nat.beq]
     |false=>simp only [memAll,vAll,reduceCtorEq,Nat.reduceEqDiff,Nat.reduceAdd,Nat.reduceLT,Nat.reduceLeDiff,Nat.beq]
end Go.Proofs.YtioijcfcehhmdaaGreatDoor.V

namespace Go.Proofs.YtioijcfcehhmdaaGreatDoor.V
def begE (a b:Pt) (ep:Int):Int:=(if btE a b=0 then (if siteB a.site=true then (if siteB b.site=true then (if a.site≠b.site then (if (headOf a.lin).epoch<ep then (if (headOf b.lin).epoch<ep then (if ep≤1073741824 then 0 else 2) else 13) else 13) else 1) else 2) else 2) else btE a b)
def begO (a b:Pt) (ep:Int):Prc:=if begE a b ep=0 then ⟨3,b.site,a.site,0,ep,(ancX a.lin b.lin).1,false,false⟩ else zPrc
def begL (a b:Pt) (ep:Int):List (List Exn):=if begE a b ep=0 then btO a b else []
theorem eExts_nil:([]:List (List Exn)).map eExs=[]:=rfl
theorem cal24 {a b:Pt} {ep:Int} (ha:fitP a) (hb:fitP b):cal env 24 [ePt a,ePt b,.int .i64 ep]=some [(ePrc (begO a b ep),false),(.list 1 ((begL a b ep).map eExs),false),(.int .i64 (begE a b ep),false)]:=by
 have d1:=cal69 ha hb
 have s1:=cal70 (n:=a.site)
 have s2:=cal70 (n:=b.site)
 have h1:=cal52 (l:=a.lin) ha.1
 have h2:=cal52 (l:=b.lin) hb.1
 have an:=cal71 (a:=a.lin) (b:=b.lin) ha.1 hb.1
 rw [ePt_eq,ePt_eq] at d1
 have k1:=okT49
 have k2:=cal49
 have q1:=demT51
 have q2:=cal51
 have q3:=demF51
 rw [ePt_eq,ePt_eq,cal_dfn env24 rfl]
 by_cases c0:btE a b=0
 rotate_left
 ·have k3:=okF49 c0
  have Z:(btE a b=0)=False:=eq_false c0
  have hE:begE a b ep=btE a b:=by unfold begE;rw [if_neg c0]
  have hO:begO a b ep=zPrc:=by unfold begO;rw [hE,if_neg c0]
  have hL:begL a b ep=[]:=by unfold begL;rw [hE,if_neg c0]
  rw [hE,hO,hL,ePrc_eq]
  simp only [fn24,slAll,Nat.reduceBEq,Nat.reduceLeDiff,Nat.reduceAdd,List.length_cons,List.length_nil]
  simp only [h1,h2,an,d1,k3,Z,q1,q2,q3,zPrc,bPt_eq,bPrc_eq,eExts_nil,dfnRun_normal,DFn.begun,dfnEnd,varOf,dfnResc,dfnClos,heldOf,boxOf,St.setVar,St.setVars,St.varInt,PV.naught,List.all_cons,List.all_nil,List.head?_cons,List.tail_cons,and_true,true_and,List.nodup_cons,List.mem_cons,List.not_mem_nil,or_false,not_false_eq_true,List.nodup_nil,Option.some.injEq,Nat.reduceEqDiff,Int.reduceEq,if_true,if_false,slAll,slsAll,Nat.reduceMul,Nat.reduceBEq,Nat.reduceLT,Nat.reduceLeDiff,memAll,vAll,reduceCtorEq,Nat.reduceEqDiff,Nat.reduceAdd,Nat.reduceLT,Nat.reduceLeDiff,Nat.beq]
 rw [c0] at d1
 by_cases c1:siteB a.site=true
 rotate_left
 ·have F1:siteB a.site=false:=by simpa using c1
  have hE:begE a b ep=2:=by unfold begE;rw [if_pos c0,if_neg c1]
  have hO:begO a b ep=zPrc:=by unfold begO;rw [hE,if_neg (by decide)]
  have hL:begL a b ep=[]:=by unfold begL;rw [hE,if_neg (by decide)]
  rw [hE,hO,hL,ePrc_eq]
  simp only [fn24,slAll,Nat.reduceBEq,Nat.reduceLeDiff,Nat.reduceAdd,List.length_cons,List.length_nil]
  simp only [h1,h2,an,d1,k1,k2,s1,F1,q1,q2,q3,zPrc,bPt_eq,bPrc_eq,eExts_nil,dfnRun_normal,DFn.begun,dfnEnd,varOf,dfnResc,dfnClos,heldOf,boxOf,St.setVar,St.setVars,St.varInt,PV.naught,List.all_cons,List.all_nil,List.head?_cons,List.tail_cons,and_true,true_and,List.nodup_cons,List.mem_cons,List.not_mem_nil,or_false,not_false_eq_true,List.nodup_nil,Option.some.injEq,Nat.reduceEqDiff,Int.reduceEq,if_true,if_false,slAll,slsAll,Nat.reduceMul,Nat.reduceBEq,Nat.reduceLT,Nat.reduceLeDiff,memAll,vAll,reduceCtorEq,Nat.reduceEqDiff,Nat.reduceAdd,Nat.reduceLT,Nat.reduceLeDiff,Nat.beq]
 have F1:siteB a.site=true:=by simpa using c1
 by_cases c2:siteB b.site=true
 rotate_left
 ·have F2:siteB b.site=false:=by simpa using c2
  have hE:begE a b ep=2:=by unfold begE;rw [if_pos c0,if_pos c1,if_neg c2]
  have hO:begO a b ep=zPrc:=by unfold begO;rw [hE,if_neg (by decide)]
  have hL:begL a b ep=[]:=by unfold begL;rw [hE,if_neg (by decide)]
  rw [hE,hO,hL,ePrc_eq]
  simp only [fn24,slAll,Nat.reduceBEq,Nat.reduceLeDiff,Nat.reduceAdd,List.length_cons,List.length_nil]
  simp only [h1,h2,an,d1,k1,k2,s1,F1,s2,F2,q1,q2,q3,zPrc,bPt_eq,bPrc_eq,eExts_nil,dfnRun_normal,DFn.begun,dfnEnd,varOf,dfnResc,dfnClos,heldOf,boxOf,St.setVar,St.setVars,St.varInt,PV.naught,List.all_cons,List.all_nil,List.head?_cons,List.tail_cons,and_true,true_and,List.nodup_cons,List.mem_cons,List.not_mem_nil,or_false,not_false_eq_true,List.nodup_nil,Option.some.injEq,Nat.reduceEqDiff,Int.reduceEq,if_true,if_false,slAll,slsAll,Nat.reduceMul,Nat.reduceBEq,Nat.reduceLT,Nat.reduceLeDiff,memAll,vAll,reduceCtorEq,Nat.reduceEqDiff,Nat.reduceAdd,Nat.reduceLT,Nat.reduceLeDiff,Nat.beq]
 have F2:siteB b.site=true:=by simpa using c2
 by_cases c3:a.site≠b.site
 rotate_left
 ·have F3:(a.site != b.site)=false:=by simpa using c3
  have hE:begE a b ep=1:=by unfold begE;rw [if_pos c0,if_pos c1,if_pos c2,if_neg c3]
  have hO:begO a b ep=zPrc:=by unfold begO;rw [hE,if_neg (by decide)]
  have hL:begL a b ep=[]:=by unfold begL;rw [hE,if_neg (by decide)]
  rw [hE,hO,hL,ePrc_eq]
  simp only [fn24,slAll,Nat.reduceBEq,Nat.reduceLeDiff,Nat.reduceAdd,List.length_cons,List.length_nil]
  simp only [h1,h2,an,d1,k1,k2,s1,F1,s2,F2,F3,q1,q2,q3,zPrc,bPt_eq,bPrc_eq,eExts_nil,dfnRun_normal,DFn.begun,dfnEnd,varOf,dfnResc,dfnClos,heldOf,boxOf,St.setVar,St.setVars,St.varInt,PV.naught,List.all_cons,List.all_nil,List.head?_cons,List.tail_cons,and_true,true_and,List.nodup_cons,List.mem_cons,List.not_mem_nil,or_false,not_false_eq_true,List.nodup_nil,Option.some.injEq,Nat.reduceEqDiff,Int.reduceEq,if_true,if_false,slAll,slsAll,Nat.reduceMul,Nat.reduceBEq,Nat.reduceLT,Nat.reduceLeDiff,memAll,vAll,reduceCtorEq,Nat.reduceEqDiff,Nat.reduceAdd,Nat.reduceLT,Nat.reduceLeDiff,Nat.beq]
 have F3:(a.site != b.site)=true:=by simpa using c3
 by_cases c4:(headOf a.lin).epoch<ep
 rotate_left
 ·have F4:(ep > (headOf a.lin).epoch)=False:=eq_false c4
  have hE:begE a b ep=13:=by unfold begE;rw [if_pos c0,if_pos c1,if_pos c2,if_pos c3,if_neg c4]
  have hO:begO a b ep=zPrc:=by unfold begO;rw [hE,if_neg (by decide)]
  have hL:begL a b ep=[]:=by unfold begL;rw [hE,if_neg (by decide)]
  rw [hE,hO,hL,ePrc_eq]
  simp only [fn24,slAll,Nat.reduceBEq,Nat.reduceLeDiff,Nat.reduceAdd,List.length_cons,List.length_nil]
  simp only [h1,h2,an,d1,k1,k2,s1,F1,s2,F2,F3,F4,q1,q2,q3,zPrc,bPt_eq,bPrc_eq,eExts_nil,dfnRun_normal,DFn.begun,dfnEnd,varOf,dfnResc,dfnClos,heldOf,boxOf,St.setVar,St.setVars,St.varInt,PV.naught,List.all_cons,List.all_nil,List.head?_cons,List.tail_cons,and_true,true_and,List.nodup_cons,List.mem_cons,List.not_mem_nil,or_false,not_false_eq_true,List.nodup_nil,Option.some.injEq,Nat.reduceEqDiff,Int.reduceEq,if_true,if_false,slAll,slsAll,Nat.reduceMul,Nat.reduceBEq,Nat.reduceLT,Nat.reduceLeDiff,memAll,vAll,reduceCtorEq,Nat.reduceEqDiff,Nat.reduceAdd,Nat.reduceLT,Nat.reduceLeDiff,Nat.beq]
 have F4:(ep > (headOf a.lin).epoch)=True:=eq_true c4
 by_cases c5:(headOf b.lin).epoch<ep
 rotate_left
 ·have F5:(ep > (headOf b.lin).epoch)=False:=eq_false c5
  have hE:begE a b ep=13:=by unfold begE;rw [if_pos c0,if_pos c1,if_pos c2,if_pos c3,if_pos c4,if_neg c5]
  have hO:begO a b ep=zPrc:=by unfold begO;rw [hE,if_neg (by decide)]
  have hL:begL a b ep=[]:=by unfold begL;rw [hE,if_neg (by decide)]
  rw [hE,hO,hL,ePrc_eq]
  simp only [fn24,slAll,Nat.reduceBEq,Nat.reduceLeDiff,Nat.reduceAdd,List.length_cons,List.length_nil]
  simp only [h1,h2,an,d1,k1,k2,s1,F1,s2,F2,F3,F4,F5,q1,q2,q3,zPrc,bPt_eq,bPrc_eq,eExts_nil,dfnRun_normal,DFn.begun,dfnEnd,varOf,dfnResc,dfnClos,heldOf,boxOf,St.setVar,St.setVars,St.varInt,PV.naught,List.all_cons,List.all_nil,List.head?_cons,List.tail_cons,and_true,true_and,List.nodup_cons,List.mem_cons,List.not_mem_nil,or_false,not_false_eq_true,List.nodup_nil,Option.some.injEq,Nat.reduceEqDiff,Int.reduceEq,if_true,if_false,slAll,slsAll,Nat.reduceMul,Nat.reduceBEq,Nat.reduceLT,Nat.reduceLeDiff,memAll,vAll,reduceCtorEq,Nat.reduceEqDiff,Nat.reduceAdd,Nat.reduceLT,Nat.reduceLeDiff,Nat.beq]
 have F5:(ep > (headOf b.lin).epoch)=True:=eq_true c5
 by_cases c6:ep≤1073741824
 rotate_left
 ·have F6:(ep≤1073741824)=False:=eq_false c6
  have hE:begE a b ep=2:=by unfold begE;rw [if_pos c0,if_pos c1,if_pos c2,if_pos c3,if_pos c4,if_pos c5,if_neg c6]
  have hO:begO a b ep=zPrc:=by unfold begO;rw [hE,if_neg (by decide)]
  have hL:begL a b ep=[]:=by unfold begL;rw [hE,if_neg (by decide)]
  rw [hE,hO,hL,ePrc_eq]
  simp only [fn24,slAll,Nat.reduceBEq,Nat.reduceLeDiff,Nat.reduceAdd,List.length_cons,List.length_nil]
  simp only [h1,h2,an,d1,k1,k2,s1,F1,s2,F2,F3,F4,F5,F6,q1,q2,q3,zPrc,bPt_eq,bPrc_eq,eExts_nil,dfnRun_normal,DFn.begun,dfnEnd,varOf,dfnResc,dfnClos,heldOf,boxOf,St.setVar,St.setVars,St.varInt,PV.naught,List.all_cons,List.all_nil,List.head?_cons,List.tail_cons,and_true,true_and,List.nodup_cons,List.mem_cons,List.not_mem_nil,or_false,not_false_eq_true,List.nodup_nil,Option.some.injEq,Nat.reduceEqDiff,Int.reduceEq,if_true,if_false,slAll,slsAll,Nat.reduceMul,Nat.reduceBEq,Nat.reduceLT,Nat.reduceLeDiff,memAll,vAll,reduceCtorEq,Nat.reduceEqDiff,Nat.reduceAdd,Nat.reduceLT,Nat.reduceLeDiff,Nat.beq]
 have F6:(ep≤1073741824)=True:=eq_true c6
 have hE:begE a b ep=0:=by unfold begE;rw [if_pos c0,if_pos c1,if_pos c2,if_pos c3,if_pos c4,if_pos c5,if_pos c6]
 have hO:begO a b ep=⟨3,b.site,a.site,0,ep,(ancX a.lin b.lin).1,false,false⟩:=by unfold begO;rw [hE,if_pos rfl]
 have hL:begL a b ep=btO a b:=by unfold begL;rw [hE,if_pos rfl]
 rw [hE,hO,hL,ePrc_eq]
 simp only [fn24,slAll,Nat.reduceBEq,Nat.reduceLeDiff,Nat.reduceAdd,List.length_cons,List.length_nil]
 simp only [h1,h2,an,d1,k1,k2,s1,F1,s2,F2,F3,F4,F5,F6,q1,q2,q3,zPrc,bPt_eq,bPrc_eq,eExts_nil,dfnRun_normal,DFn.begun,dfnEnd,varOf,dfnResc,dfnClos,heldOf,boxOf,St.setVar,St.setVars,St.varInt,PV.naught,List.all_cons,List.all_nil,List.head?_cons,List.tail_cons,and_true,true_and,List.nodup_cons,List.mem_cons,List.not_mem_nil,or_false,not_false_eq_true,List.nodup_nil,Option.some.injEq,Nat.reduceEqDiff,Int.reduceEq,if_true,if_false,slAll,slsAll,Nat.reduceMul,Nat.reduceBEq,Nat.reduceLT,Nat.reduceLeDiff,memAll,vAll,reduceCtorEq,Nat.reduceEqDiff,Nat.reduceAdd,Nat.reduceLT,Nat.reduceLeDiff,Nat.beq]
theorem cal26 {a b:Pt} {ep:Int} (ha:fitP a) (hb:fitP b):cal env 26 [ePt a,ePt b,.int .i64 ep]=some [(ePrc (begO a b ep),false),(.list 1 ((begL a b ep).map eExs),true),(.int .i64 (begE a b ep),false)]:=by
 have d1:=cal72 ha hb
 have s1:=cal73 (n:=a.site)
 have s2:=cal73 (n:=b.site)
 have h1:=cal56 (l:=a.lin) ha.1
 have h2:=cal56 (l:=b.lin) hb.1
 have an:=cal74 (a:=a.lin) (b:=b.lin) ha.1 hb.1
 rw [ePt_eq,ePt_eq] at d1
 have Z0:((0:Int) != 0)=false:=rfl
 rw [ePt_eq,ePt_eq]
 by_cases c0:btE a b=0
 rotate_left
 ·have Z:(btE a b != 0)=true:=by simp [c0]
  have hE:begE a b ep=btE a b:=by unfold begE;rw [if_neg c0]
  have hO:begO a b ep=zPrc:=by unfold begO;rw [hE,if_neg c0]
  have hL:begL a b ep=[]:=by unfold begL;rw [hE,if_neg c0]
  rw [hE,hO,hL,ePrc_eq]
  rw [cal_code env26 rfl];simp only [fn26,slAll,Nat.reduceBEq,Nat.reduceLeDiff,Nat.reduceAdd,List.length_cons,List.length_nil]
  simp only [h1,h2,an,d1,Z,zPrc,bPt_eq,bPrc_eq,eExts_nil,slAll,slsAll,Nat.reduceMul,Nat.reduceBEq,Nat.reduceLT,Nat.reduceLeDiff,memAll,vAll,reduceCtorEq,Nat.reduceEqDiff,Nat.reduceAdd,Nat.reduceLT,Nat.reduceLeDiff,Nat.beq]
 rw [c0] at d1
 by_cases c1:siteB a.site=true
 rotate_left
 ·have F1:siteB a.site=false:=by simpa using c1
  have hE:begE a b ep=2:=by unfold begE;rw [if_pos c0,if_neg c1]
  have hO:begO a b ep=zPrc:=by unfold begO;rw [hE,if_neg (by decide)]
  have hL:begL a b ep=[]:=by unfold begL;rw [hE,if_neg (by decide)]
  rw [hE,hO,hL,ePrc_eq]
  rw [cal_code env26 rfl];simp only [fn26,slAll,Nat.reduceBEq,Nat.reduceLeDiff,Nat.reduceAdd,List.length_cons,List.length_nil]
  simp only [h1,h2,an,d1,Z0,s1,F1,zPrc,bPt_eq,bPrc_eq,eExts_nil,slAll,slsAll,Nat.reduceMul,Nat.reduceBEq,Nat.reduceLT,Nat.reduceLeDiff,memAll,vAll,reduceCtorEq,Nat.reduceEqDiff,Nat.reduceAdd,Nat.reduceLT,Nat.reduceLeDiff,Nat.beq]
 have F1:siteB a.site=true:=by simpa using c1
 by_cases c2:siteB b.site=true
 rotate_left
 ·have F2:siteB b.site=false:=by simpa using c2
  have hE:begE a b ep=2:=by unfold begE;rw [if_pos c0,if_pos c1,if_neg c2]
  have hO:begO a b ep=zPrc:=by unfold begO;rw [hE,if_neg (by decide)]
  have hL:begL a b ep=[]:=by unfold begL;rw [hE,if_neg (by decide)]
  rw [hE,hO,hL,ePrc_eq]
  rw [cal_code env26 rfl];simp only [fn26,slAll,Nat.reduceBEq,Nat.reduceLeDiff,Nat.reduceAdd,List.length_cons,List.length_nil]
  simp only [h1,h2,an,d1,Z0,s1,F1,s2,F2,zPrc,bPt_eq,bPrc_eq,eExts_nil,slAll,slsAll,Nat.reduceMul,Nat.reduceBEq,Nat.reduceLT,Nat.reduceLeDiff,memAll,vAll,reduceCtorEq,Nat.reduceEqDiff,Nat.reduceAdd,Nat.reduceLT,Nat.reduceLeDiff,Nat.beq]
 have F2:siteB b.site=true:=by simpa using c2
 by_cases c3:a.site≠b.site
 rotate_left
 ·have F3:(a.site==b.site)=true:=by simpa using c3
  have hE:begE a b ep=1:=by unfold begE;rw [if_pos c0,if_pos c1,if_pos c2,if_neg c3]
  have hO:begO a b ep=zPrc:=by unfold begO;rw [hE,if_neg (by decide)]
  have hL:begL a b ep=[]:=by unfold begL;rw [hE,if_neg (by decide)]
  rw [hE,hO,hL,ePrc_eq]
  rw [cal_code env26 rfl];simp only [fn26,slAll,Nat.reduceBEq,Nat.reduceLeDiff,Nat.reduceAdd,List.length_cons,List.length_nil]
  simp only [h1,h2,an,d1,Z0,s1,F1,s2,F2,F3,zPrc,bPt_eq,bPrc_eq,eExts_nil,slAll,slsAll,Nat.reduceMul,Nat.reduceBEq,Nat.reduceLT,Nat.reduceLeDiff,memAll,vAll,reduceCtorEq,Nat.reduceEqDiff,Nat.reduceAdd,Nat.reduceLT,Nat.reduceLeDiff,Nat.beq]
 have F3:(a.site==b.site)=false:=by simpa using c3
 by_cases c4:(headOf a.lin).epoch<ep
 rotate_left
 ·have F4:(ep≤(headOf a.lin).epoch)=True:=eq_true (by omega)
  have hE:begE a b ep=13:=by unfold begE;rw [if_pos c0,if_pos c1,if_pos c2,if_pos c3,if_neg c4]
  have hO:begO a b ep=zPrc:=by unfold begO;rw [hE,if_neg (by decide)]
  have hL:begL a b ep=[]:=by unfold begL;rw [hE,if_neg (by decide)]
  rw [hE,hO,hL,ePrc_eq]
  rw [cal_code env26 rfl];simp only [fn26,slAll,Nat.reduceBEq,Nat.reduceLeDiff,Nat.reduceAdd,List.length_cons,List.length_nil]
  simp only [h1,h2,an,d1,Z0,s1,F1,s2,F2,F3,F4,zPrc,bPt_eq,bPrc_eq,eExts_nil,slAll,slsAll,Nat.reduceMul,Nat.reduceBEq,Nat.reduceLT,Nat.reduceLeDiff,memAll,vAll,reduceCtorEq,Nat.reduceEqDiff,Nat.reduceAdd,Nat.reduceLT,Nat.reduceLeDiff,Nat.beq]
 have F4:(ep≤(headOf a.lin).epoch)=False:=eq_false (by omega)
 by_cases c5:(headOf b.lin).epoch<ep
 rotate_left
 ·have F5:(ep≤(headOf b.lin).epoch)=True:=eq_true (by omega)
  have hE:begE a b ep=13:=by unfold begE;rw [if_pos c0,if_pos c1,if_pos c2,if_pos c3,if_pos c4,if_neg c5]
  have hO:begO a b ep=zPrc:=by unfold begO;rw [hE,if_neg (by decide)]
  have hL:begL a b ep=[]:=by unfold begL;rw [hE,if_neg (by decide)]
  rw [hE,hO,hL,ePrc_eq]
  rw [cal_code env26 rfl];simp only [fn26,slAll,Nat.reduceBEq,Nat.reduceLeDiff,Nat.reduceAdd,List.length_cons,List.length_nil]
  simp only [h1,h2,an,d1,Z0,s1,F1,s2,F2,F3,F4,F5,zPrc,bPt_eq,bPrc_eq,eExts_nil,slAll,slsAll,Nat.reduceMul,Nat.reduceBEq,Nat.reduceLT,Nat.reduceLeDiff,memAll,vAll,reduceCtorEq,Nat.reduceEqDiff,Nat.reduceAdd,Nat.reduceLT,Nat.reduceLeDiff,Nat.beq]
 have F5:(ep≤(headOf b.lin).epoch)=False:=eq_false (by omega)
 by_cases c6:ep≤1073741824
 rotate_left
 ·have F6:(ep > 1073741824)=True:=eq_true (by omega)
  have hE:begE a b ep=2:=by unfold begE;rw [if_pos c0,if_pos c1,if_pos c2,if_pos c3,if_pos c4,if_pos c5,if_neg c6]
  have hO:begO a b ep=zPrc:=by unfold begO;rw [hE,if_neg (by decide)]
  have hL:begL a b ep=[]:=by unfold begL;rw [hE,if_neg (by decide)]
  rw [hE,hO,hL,ePrc_eq]
  rw [cal_code env26 rfl];simp only [fn26,slAll,Nat.reduceBEq,Nat.reduceLeDiff,Nat.reduceAdd,List.length_cons,List.length_nil]
  simp only [h1,h2,an,d1,Z0,s1,F1,s2,F2,F3,F4,F5,F6,zPrc,bPt_eq,bPrc_eq,eExts_nil,slAll,slsAll,Nat.reduceMul,Nat.reduceBEq,Nat.reduceLT,Nat.reduceLeDiff,memAll,vAll,reduceCtorEq,Nat.reduceEqDiff,Nat.reduceAdd,Nat.reduceLT,Nat.reduceLeDiff,Nat.beq]
 have F6:(ep > 1073741824)=False:=eq_false (by omega)
 have hE:begE a b ep=0:=by unfold begE;rw [if_pos c0,if_pos c1,if_pos c2,if_pos c3,if_pos c4,if_pos c5,if_pos c6]
 have hO:begO a b ep=⟨3,b.site,a.site,0,ep,(ancX a.lin b.lin).1,false,false⟩:=by unfold begO;rw [hE,if_pos rfl]
 have hL:begL a b ep=btO a b:=by unfold begL;rw [hE,if_pos rfl]
 rw [hE,hO,hL,ePrc_eq]
 rw [cal_code env26 rfl];simp only [fn26,slAll,Nat.reduceBEq,Nat.reduceLeDiff,Nat.reduceAdd,List.length_cons,List.length_nil]
 simp only [h1,h2,an,d1,Z0,s1,F1,s2,F2,F3,F4,F5,F6,zPrc,bPt_eq,bPrc_eq,eExts_nil,slAll,slsAll,Nat.reduceMul,Nat.reduceBEq,Nat.reduceLT,Nat.reduceLeDiff,memAll,vAll,reduceCtorEq,Nat.reduceEqDiff,Nat.reduceAdd,Nat.reduceLT,Nat.reduceLeDiff,Nat.beq]
end Go.Proofs.YtioijcfcehhmdaaGreatDoor.V

namespace Go.Proofs.YtioijcfcehhmdaaGreatDoor.V
theorem eqCells_ext (x y:Exn):eqCells [.int .i64 x.start,.int .i64 x.count] [.int .i64 y.start,.int .i64 y.count]=some (decide (x=y)):=by
 simp only [eqCells,if_true,Option.map_some]
 congr 1
 obtain ⟨a,b⟩:=x
 obtain ⟨c,d⟩:=y
 by_cases h1:a=c<;>by_cases h2:b=d<;>simp [h1,h2]
--+
theorem loop75 {a b:List Exn} (hl:a.length≤lim) (hab:a.length=b.length) {st:St} (h:st.head [0,1,5] st.boxes.length=some ⟨[.pv (.list 2 (a.map eExt)),.pv (.list 2 (b.map eExt)),.any,.any,.any,.pv (.int .i64 (0:Nat)),.any,.any,.any,.any,.any,.any,.any,.any,.any,.any,.any,.any,.any,.any,.any,.any,.any,.any,.any,.any],[],[],none⟩) :
  den env fn75_l1 st=if a=b then some (.normal,⟨[.any,.any,.any,.any,.any,.any,.any,.any,.any,.any,.any,.any,.any,.any,.any,.any,.any,.any,.any,.any,.any,.any,.any,.any,.any,.any],[],[],none⟩) else some (.ret,⟨[.any,.any,.any,.any,.pv (.bool false),.any,.any,.any,.any,.any,.any,.any,.any,.any,.any,.any,.any,.any,.any,.any,.any,.any,.any,.any,.any,.any],[],[],none⟩):=by
 unfold fn75_l1
 rw [ clean_up (env:=env) (a.length) (fun i=>⟨[.pv (.list 2 (a.map eExt)),.pv (.list 2 (b.map eExt)),.any,.any,.any,.pv (.int .i64 i),.any,.any,.any,.any,.any,.any,.any,.any,.any,.any,.any,.any,.any,.any,.any,.any,.any,.any,.any,.any],[],[],none⟩) (fun i=>if a.drop i=b.drop i then some (.normal,⟨[.any,.any,.any,.any,.any,.any,.any,.any,.any,.any,.any,.any,.any,.any,.any,.any,.any,.any,.any,.any,.any,.any,.any,.any,.any,.any],[],[],none⟩) else some (.ret,⟨[.any,.any,.any,.any,.pv (.bool false),.any,.any,.any,.any,.any,.any,.any,.any,.any,.any,.any,.any,.any,.any,.any,.any,.any,.any,.any,.any,.any],[],[],none⟩)) h (fun _=>rfl) (fun _=>rfl) ?_ ?_]
 ·first|rfl|simp only [List.drop_zero,List.take_zero,List.map_nil,Nat.zero_add,List.nil_append,List.foldl_nil]
 ·intro i rb hi ih
  have hi1:=i64_next hi hl
  have hj:i<b.length:=by omega
  have F1:((i:Int)<(a.length:Int))=True:=eq_true (by omega)
  have P:∀ x:Exn,part [PV.int .i64 x.start,.int .i64 x.count] 0 (some 2)=some (.agg [.int .i64 x.start,.int .i64 x.count]):=fun x=>rfl
  simp only [fn75_b0,F1,eExt,index_nat hi,index_nat hj,List.getElem?_map,List.getElem?_eq_getElem hi,List.getElem?_eq_getElem hj,P,eqCells_ext,List.length_cons,List.length_nil,memAll,vAll,reduceCtorEq,Nat.reduceEqDiff,Nat.reduceAdd,Nat.reduceLT,Nat.reduceLeDiff,Nat.beq]
  rw [List.drop_eq_getElem_cons hi,List.drop_eq_getElem_cons hj]
  (try simp only [bcase_bind,bcase_map,tail_bcase]);refine bcase_split (fun hb=>?_) (fun hb=>?_)<;>try simp only [hb, memAll,vAll,reduceCtorEq,Nat.reduceEqDiff,Nat.reduceAdd,Nat.reduceLT,Nat.reduceLeDiff,Nat.beq]
  ·rw [ih _ (by simp only [hi1];rfl)]
   simp only [decide_eq_true_eq] at hb
   simp only [hb,List.cons.injEq,true_and]
  ·simp only [decide_eq_false_iff_not] at hb
   simp only [hb,List.cons.injEq,false_and,if_false]
   rfl
 ·intro rb
  simp only [fn75_b0,Int.lt_irrefl, memAll,vAll,reduceCtorEq,Nat.reduceEqDiff,Nat.reduceAdd,Nat.reduceLT,Nat.reduceLeDiff,Nat.beq]
  rw [List.drop_length,hab,List.drop_length,if_pos rfl]
  rfl
theorem cal75 {a b:List Exn} (hl:a.length≤lim):cal env 75 [.list 2 (a.map eExt),.list 2 (b.map eExt)]=some [(.bool (decide (a=b)),false)]:=by
 rw [cal_code env75 rfl];simp only [fn75];simp only [start,z_map_cons,z_map_nil,z_len_cons,z_len_nil,z_repl_zero,z_repl_succ,z_cons_app,z_nil_app,Nat.reduceAdd,Nat.reduceSub]
 simp only [ memAll,vAll,reduceCtorEq,Nat.reduceEqDiff,Nat.reduceAdd,Nat.reduceLT,Nat.reduceLeDiff,Nat.beq]
 (try simp only [bcase_bind,bcase_map,tail_bcase]);refine bcase_split (fun hb=>?_) (fun hb=>?_)<;>try simp only [hb, memAll,vAll,reduceCtorEq,Nat.reduceEqDiff,Nat.reduceAdd,Nat.reduceLT,Nat.reduceLeDiff,Nat.beq]
 ·have hab:a.length=b.length:=by simp at hb;omega
  rw [loop75 hl hab]
  rotate_left
  ·rfl
  ·by_cases e:a=b<;>simp only [e,vAll,reduceCtorEq,Nat.reduceEqDiff,Nat.reduceAdd,Nat.reduceLT,Nat.reduceLeDiff,Nat.beq]
 ·have:a≠b:=fun e=>by subst e;simp at hb
  simp only [this,vAll,reduceCtorEq,Nat.reduceEqDiff,Nat.reduceAdd,Nat.reduceLT,Nat.reduceLeDiff,Nat.beq]
end Go.Proofs.YtioijcfcehhmdaaGreatDoor.V
