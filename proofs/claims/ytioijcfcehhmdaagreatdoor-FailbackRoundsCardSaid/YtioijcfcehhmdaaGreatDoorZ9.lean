/-
  Part 9 of the texts that the statement stands on.
-/
import Derived.Test.YtioijcfcehhmdaaGreatDoorZ8
import Derived.Lib.TrailingZeros
set_option linter.all false
namespace Go.Proofs.YtioijcfcehhmdaaGreatDoor.V
def addAt (out:List Exn) (i:Nat):List Exn:=match out.getLast? with
 |some x=>if x.start+x.count=(i:Int) then out.dropLast++[⟨x.start,x.count+1⟩] else out++[⟨i,1⟩]
 |none=>[⟨i,1⟩]
def exts (l:List Nat):List Exn:=l.foldl addAt []
theorem addAt_snoc (pre:List Exn) (x:Exn) (i:Nat):addAt (pre++[x]) i=if x.start+x.count=(i:Int) then pre++[⟨x.start,x.count+1⟩] else pre++[x]++[⟨i,1⟩]:=by
 simp [addAt]
theorem exts_snoc (l:List Nat) (i:Nat):exts (l++[i])=addAt (exts l) i:=by simp [exts]
theorem snoc_cases {α:Type} (l:List α):l=[]∨∃ p x,l=p++[x]:=by
 rcases List.eq_nil_or_concat l with h|⟨p,x,h⟩
 ·exact .inl h
 ·exact .inr ⟨p,x,by rw [h];simp⟩
theorem exts_last:∀ (n:Nat) (l:List Nat),l.length=n→∀ i:Nat,∃ pre x,exts (l++[i])=pre++[x]∧x.start+x.count=(i:Int)+1∧0≤x.start∧1≤x.count∧pre.length≤l.length:=by
 intro n
 induction n with
 |zero =>
  intro l hl i
  have:=List.eq_nil_of_length_eq_zero hl
  subst this
  exact ⟨[],⟨i,1⟩,rfl,rfl,by simp,by simp,by simp⟩
 |succ n ih =>
  intro l hl i
  rcases snoc_cases l with rfl|⟨p,j,rfl⟩
  ·simp at hl
  ·obtain ⟨pre,x,e,h1,h2,h3,h4⟩:=ih p (by simpa using hl) j
   rw [exts_snoc,e,addAt_snoc]
   split
   ·rename_i hx
    exact ⟨pre,_,rfl,by simp;omega,h2,by simp;omega,by simp;omega⟩
   ·exact ⟨pre++[x],_,rfl,by simp,by simp,by simp,by simp;omega⟩
theorem wrap_pred {n:Nat} (h:n≤lim):IntKind.i64.wrap (((n+1:Nat):Int) - 1)=(n:Int):=by
 rw [i64_fits (by unfold lim at h;omega)];omega
def yI (l:List Nat):List (List PV):=l.map fun (i:Nat)=>[PV.int .i64 (i:Int)]
end Go.Proofs.YtioijcfcehhmdaaGreatDoor.V

namespace Go.Proofs.YtioijcfcehhmdaaGreatDoor.V
def ext (p:Nat→Bool) (n:Nat):List Exn:=exts ((List.range n).filter p)
theorem ext_zero (p:Nat→Bool):ext p 0=[]:=rfl
theorem ext_succ (p:Nat→Bool) (n:Nat):ext p (n+1)=if p n then addAt (ext p n) n else ext p n:=by
 unfold ext
 rw [List.range_succ,List.filter_append]
 cases h:p n
 ·simp [h]
 ·rw [List.filter_cons_of_pos h,List.filter_nil,exts_snoc];rfl
def dep (i:Nat) (s:Nat):List End→Int
 |[]=>0
 |x :: l=>(if x.list=i∧x.pos≤s then x.step else 0)+dep i s l
def Asc:List End→Prop
 |[]=>True
 |[_]=>True
 |x :: y :: l=>x.pos≤y.pos∧Asc (y :: l)
theorem Asc.tail {x:End} {l:List End} (h:Asc (x :: l)):Asc l:=by
 cases l with
 |nil=>trivial
 |cons y l=>exact h.2
def atStart (N:Nat):List End→Nat→Prop
 |[],a=>a=N
 |x :: _,a=>a=x.pos
end Go.Proofs.YtioijcfcehhmdaaGreatDoor.V

namespace Go.Proofs.YtioijcfcehhmdaaGreatDoor.V
abbrev Wd:=BitVec 64
structure Bm where
 size:Int
 ws:List Wd
 deriving DecidableEq
def eW (w:Wd):PV:=.int .u64 (w.toNat:Int)
def eBm (b:Bm):PV:=.agg [.int .i64 b.size,.list 1 (b.ws.map eW)]
def bit (ws:List Wd) (i:Nat):Bool:=(ws.getD (i / 64) 0).getLsbD (i % 64)
theorem bit_at {ws:List Wd} {k:Nat} (h:k<ws.length) {j:Nat} (hj:j<64):bit ws (64 * k+j)=ws[k].getLsbD j:=by
 unfold bit
 have e1:(64 * k+j) / 64=k:=by omega
 have e2:(64 * k+j) % 64=j:=by omega
 rw [e1,e2];simp [h]
theorem bit_of {ws:List Wd} {i:Nat} (h:i / 64<ws.length):bit ws i=ws[i / 64].getLsbD (i % 64):=by
 unfold bit;simp [h]
theorem bit_out {ws:List Wd} {i:Nat} (h:64 * ws.length≤i):bit ws i=false:=by
 unfold bit
 have:ws.length≤i / 64:=by omega
 rw [List.getD_eq_getElem?_getD,List.getElem?_eq_none this];simp
theorem w_of (w:Wd):BitVec.ofInt 64 (w.toNat:Int)=w:=by
 apply BitVec.eq_of_toNat_eq
 have:=w.isLt
 rw [BitVec.toNat_ofInt]
 omega
theorem u64_wrap (n:Int):IntKind.u64.wrap n=n % 2 ^ 64:=by
 simp only [IntKind.wrap,IntKind.bits,IntKind.signed,Bool.false_and,Bool.false_eq_true,if_false]
theorem w_wrap (w:Wd):IntKind.u64.wrap (w.toNat:Int)=(w.toNat:Int):=by
 have:=w.isLt
 simp only [IntKind.wrap,IntKind.bits,IntKind.signed,Bool.false_and,Bool.false_eq_true,if_false]
 omega
theorem w_and (a b:Wd):IntKind.u64.wrap ((BitVec.ofInt IntKind.u64.bits (a.toNat:Int) &&& BitVec.ofInt IntKind.u64.bits (b.toNat:Int)).toNat:Int)=((a &&& b).toNat:Int):=by
 show IntKind.u64.wrap ((BitVec.ofInt 64 (a.toNat:Int) &&& BitVec.ofInt 64 (b.toNat:Int)).toNat:Int)=_
 rw [w_of,w_of,w_wrap]
theorem w_shr (w:Wd) {s:Int} {n:Nat} (hs:s=(n:Int)):(w.toNat:Int).fdiv (2 ^ (min s.toNat IntKind.u64.bits))=((w >>> n).toNat:Int):=by
 subst hs
 rw [BitVec.toNat_ushiftRight,Nat.shiftRight_eq_div_pow,Int.toNat_natCast]
 have hw:=w.isLt
 show (w.toNat:Int).fdiv (2 ^ (min n 64))=_
 by_cases h:n≤64
 ·have h2:(0:Int)≤2 ^ n:=by have:=Int.natCast_nonneg (2 ^ n);push_cast at this;exact this
  rw [Nat.min_eq_left h,Int.fdiv_eq_ediv_of_nonneg _ h2]
  push_cast
  rfl
 ·rw [Nat.min_eq_right (by omega),Int.fdiv_eq_ediv_of_nonneg _ (by decide)]
  have h1:w.toNat / 2 ^ n=0:=Nat.div_eq_of_lt (Nat.lt_of_lt_of_le hw (Nat.pow_le_pow_right (by decide) (by omega)))
  rw [h1]
  omega
theorem w_shl (w:Wd) {s:Int} {n:Nat} (hs:s=(n:Int)):IntKind.u64.wrap ((w.toNat:Int) * 2 ^ (min s.toNat IntKind.u64.bits))=((w <<< n).toNat:Int):=by
 subst hs
 rw [BitVec.toNat_shiftLeft,Nat.shiftLeft_eq,Int.toNat_natCast]
 have hw:=w.isLt
 rw [u64_wrap]
 show ((w.toNat:Int) * 2 ^ (min n 64)) % 2 ^ 64=_
 by_cases h:n≤64
 ·have e2:((2 ^ n:Nat):Int)=2 ^ n:=by push_cast;rfl
  have e3:((2 ^ 64:Nat):Int)=2 ^ 64:=by decide
  rw [Nat.min_eq_left h,Int.natCast_emod,Int.natCast_mul,e2,e3]
 ·rw [Nat.min_eq_right (by omega)]
  have e:2 ^ n=2 ^ 64 * 2 ^ (n - 64):=by rw [← Nat.pow_add];congr 1;omega
  have:w.toNat * 2 ^ n % 2 ^ 64=0:=by
   rw [e,Nat.mul_left_comm];exact Nat.mul_mod_right _ _
  rw [this]
  exact Int.mul_emod_left _ _
theorem w_sub (a b:Wd):IntKind.u64.wrap ((a.toNat:Int) - (b.toNat:Int))=((a - b).toNat:Int):=by
 have h1:=a.isLt
 have h2:=b.isLt
 simp only [IntKind.wrap,IntKind.bits,IntKind.signed,Bool.false_and,Bool.false_eq_true,if_false]
 rw [BitVec.toNat_sub]
 omega
theorem w_beq (a b:Wd):((a.toNat:Int)==(b.toNat:Int))=decide (a=b):=by
 by_cases h:a=b
 ·subst h;simp
 ·have:a.toNat≠b.toNat:=fun e=>h (BitVec.eq_of_toNat_eq e)
  simp [h];omega
/-! Masks. -/
def maskW (k:Nat) (a b:Int):Wd :=
 if max (a - 64 * (k:Int)) 0 ≥ min (b - 64 * (k:Int)) 64 then 0
 else (BitVec.allOnes 64 >>> (64 - (min (b - 64 * (k:Int)) 64 - max (a - 64 * (k:Int)) 0)).toNat) <<< (max (a - 64 * (k:Int)) 0).toNat
theorem mask_bit (k:Nat) (a b:Int) {j:Nat} (hj:j<64):(maskW k a b).getLsbD j=decide (a≤64 * (k:Int)+j∧64 * (k:Int)+j<b):=by
 unfold maskW
 split
 ·rename_i h
  rw [show (0:Wd).getLsbD j=false by simp]
  symm
  apply decide_eq_false
  omega
 ·rename_i h
  rw [BitVec.getLsbD_shiftLeft,BitVec.getLsbD_ushiftRight,BitVec.getLsbD_allOnes]
  rw [Bool.eq_iff_iff]
  simp only [Bool.and_eq_true,decide_eq_true_eq,Bool.not_eq_true',decide_eq_false_iff_not]
  omega
def bitsOf (w:Wd):List Nat:=(List.range 64).filter fun j=>w.getLsbD j
theorem bits_zero:bitsOf 0=[]:=by
 unfold bitsOf
 rw [List.filter_eq_nil_iff]
 intro j _
 simp
theorem ctz_low {w:Wd} (h:w≠0):Lib.ctz 64 w.toNat<64∧(∀ j,j<Lib.ctz 64 w.toNat→w.getLsbD j=false)∧w.getLsbD (Lib.ctz 64 w.toNat)=true∧∀ j,j<64→(w &&& (w - 1)).getLsbD j=(w.getLsbD j&&decide (j≠Lib.ctz 64 w.toNat)):=by
 have h0:0<w.toNat:=by
  rcases Nat.eq_zero_or_pos w.toNat with e|e
  ·exact absurd (BitVec.eq_of_toNat_eq (by simpa using e)) h
  ·exact e
 have hl:Lib.ctz 64 w.toNat=Lib.ctzFrom 64 w.toNat:=by unfold Lib.ctz;rw [if_neg (by omega)]
 rw [hl]
 obtain ⟨m,h1,h2⟩:=Lib.ctzFrom_spec 64 w.toNat h0 w.isLt
 generalize Lib.ctzFrom 64 w.toNat=c at h1 h2
 have hbit:∀ j,w.getLsbD j=if j<c then false else (2 * m+1).testBit (j - c):=fun j=>by
  rw [← BitVec.testBit_toNat,h1,Nat.testBit_two_pow_mul]
  by_cases hc:j<c
  ·rw [if_pos hc,decide_eq_false (by omega),Bool.false_and]
  ·rw [if_neg hc,decide_eq_true (by omega),Bool.true_and]
 have hsub:(w - 1).toNat=2 ^ c * (2 * m)+(2 ^ c - 1):=by
  have hp:0<2 ^ c:=Nat.pow_pos (by decide)
  rw [BitVec.toNat_sub]
  have:=w.isLt
  have e1:(1:Wd).toNat=1:=rfl
  rw [e1,show 2 ^ 64 - 1+w.toNat=(w.toNat - 1)+2 ^ 64 by omega,Nat.add_mod_right,Nat.mod_eq_of_lt (by omega),h1,Nat.mul_add,Nat.mul_one]
  omega
 have hbit2:∀ j,(w - 1).getLsbD j=if j<c then true else (2 * m).testBit (j - c):=fun j=>by
  rw [← BitVec.testBit_toNat,hsub]
  have hp:2 ^ c - 1<2 ^ c:=by have:0<2 ^ c:=Nat.pow_pos (by decide);omega
  by_cases hc:j<c
  ·rw [if_pos hc,Nat.testBit_two_pow_mul_add _ hp,if_pos hc,Nat.testBit_two_pow_sub_one]
   simp [hc]
  ·rw [if_neg hc,Nat.testBit_two_pow_mul_add _ hp,if_neg hc]
 refine ⟨h2,fun j hj=>by rw [hbit,if_pos hj],by rw [hbit,if_neg (Nat.lt_irrefl _),Nat.sub_self];simp,fun j hj=>?_⟩
 rw [BitVec.getLsbD_and,hbit,hbit2]
 by_cases hc:j<c
 ·simp [hc]
 ·rw [if_neg hc,if_neg hc]
  by_cases he:j=c
  ·subst he;simp
  ·obtain ⟨d,hd⟩:∃ d,j - c=d+1:=⟨j - c - 1,by omega⟩
   rw [hd,Nat.testBit_succ,Nat.testBit_succ,show (2 * m+1) / 2=m by omega,show 2 * m / 2=m by omega]
   simp [he]
theorem filter_first {p q:Nat→Bool} {c n:Nat} (hc:c<n) (hlow:∀ j,j<c→p j=false) (hp:p c=true) (hq:∀ j,j<n→q j=(p j&&decide (j≠c))):(List.range n).filter p=c :: (List.range n).filter q:=by
 have e:List.range n=List.range c++(c :: (List.range (n - c - 1)).map (c+1+·)):=by
  apply List.ext_getElem
  ·simp;omega
  ·intro i h1 h2
   simp only [List.length_range] at h1
   rw [List.getElem_range,List.getElem_append]
   split
   ·simp
   ·rename_i h
    simp only [List.length_range] at h ⊢
    obtain ⟨d,hd⟩:∃ d,i=c+d:=⟨i - c,by omega⟩
    subst hd
    cases d with
    |zero=>simp
    |succ d=>simp [show c+(d+1) - c=d+1 by omega];omega
 have hq':∀ j,j∈List.range n→q j=(p j&&decide (j≠c)):=fun j hj=>hq j (List.mem_range.1 hj)
 rw [List.filter_congr hq',e,List.filter_append,List.filter_append]
 have h1:(List.range c).filter p=[]:=by
  rw [List.filter_eq_nil_iff];intro j hj;rw [hlow j (List.mem_range.1 hj)];simp
 have h2:(List.range c).filter (fun j=>p j&&decide (j≠c))=[]:=by
  rw [List.filter_eq_nil_iff];intro j hj;rw [hlow j (List.mem_range.1 hj)];simp
 rw [h1,h2,List.nil_append,List.nil_append,List.filter_cons_of_pos hp,List.filter_cons_of_neg (by simp)]
 congr 1
 apply List.filter_congr
 intro j hj
 obtain ⟨d,_,rfl⟩:=List.mem_map.1 hj
 simp;omega
theorem bits_cons {w:Wd} (h:w≠0):bitsOf w=Lib.ctz 64 w.toNat :: bitsOf (w &&& (w - 1)):=by
 obtain ⟨h1,h2,h3,h4⟩:=ctz_low h
 exact filter_first h1 h2 h3 h4
def elemsW (ws:List Wd) (a b:Int):List Nat:=(List.range (64 * ws.length)).filter fun (i:Nat)=>bit ws i&&decide (a≤(i:Int)∧(i:Int)<b)
theorem range_add (n m:Nat):List.range (n+m)=List.range n++(List.range m).map (n+·):=List.range_add
theorem elems_take {ws:List Wd} {k:Nat} (h:k<ws.length) (a b:Int):(List.range (64 * (k+1))).filter (fun (i:Nat)=>bit ws i&&decide (a≤(i:Int)∧(i:Int)<b))
  = (List.range (64 * k)).filter (fun (i:Nat)=>bit ws i&&decide (a≤(i:Int)∧(i:Int)<b))++(bitsOf (ws[k] &&& maskW k a b)).map (64 * k+·):=by
 rw [show 64 * (k+1)=64 * k+64 by omega,List.range_add,List.filter_append,List.filter_map]
 congr 2
 unfold bitsOf
 apply List.filter_congr
 intro j hj
 have hj:=List.mem_range.1 hj
 rw [BitVec.getLsbD_and,mask_bit k a b hj]
 show (bit ws (64 * k+j)&&_)=_
 rw [bit_at h hj]
 push_cast
 rfl
def wdsN (n:Int):Int:=(n+63) / 64
def okB (b:Bm):Bool:=decide (0≤b.size∧b.size≤4096∧(b.ws.length:Int)=wdsN b.size)&&(List.range (64 * b.ws.length)).all fun (i:Nat)=>decide ((i:Int)<b.size) || !bit b.ws i
theorem okB_iff {b:Bm}:okB b=true ↔ (0≤b.size∧b.size≤4096∧(b.ws.length:Int)=wdsN b.size)∧∀ i:Nat,b.size≤(i:Int)→bit b.ws i=false:=by
 unfold okB
 simp only [Bool.and_eq_true,decide_eq_true_eq,List.all_eq_true,List.mem_range,Bool.or_eq_true,Bool.not_eq_true']
 refine and_congr Iff.rfl ⟨fun h i hi=>?_,fun h i hi=>?_⟩
 ·by_cases c:i<64 * b.ws.length
  ·exact (h i c).resolve_left (by omega)
  ·exact bit_out (by omega)
 ·by_cases c:(i:Int)<b.size
  ·exact .inl c
  ·exact .inr (h i (by omega))
theorem okB_size {b:Bm} (h:okB b=true):0≤b.size∧b.size≤4096∧b.ws.length≤64∧b.size≤64 * (b.ws.length:Int)∧64 * (b.ws.length:Int)<b.size+64:=by
 have:=(okB_iff.1 h).1
 unfold wdsN at this
 omega
theorem rest_iff {b:Bm} (h:0≤b.size∧b.size≤4096∧(b.ws.length:Int)=wdsN b.size):okB b=true ↔ (b.size % 64=0∨∀ (hw:b.ws.length - 1<b.ws.length),b.ws[b.ws.length - 1] >>> (b.size % 64).toNat=0):=by
 rw [okB_iff]
 unfold wdsN at h ⊢
 constructor
 ·rintro ⟨_,h2⟩
  by_cases c:b.size % 64=0
  ·exact .inl c
  ·refine .inr fun hw=>?_
   apply BitVec.eq_of_getLsbD_eq
   intro j hj
   rw [BitVec.getLsbD_ushiftRight]
   by_cases cj:(b.size % 64).toNat+j<64
   ·rw [← bit_at hw cj,h2 _ (by omega)];simp
   ·rw [BitVec.getLsbD_of_ge _ _ (by omega)];simp
 ·intro hr
  refine ⟨by omega,fun i hi=>?_⟩
  by_cases c:i<64 * b.ws.length
  ·have hw:b.ws.length - 1<b.ws.length:=by omega
   have hk:i / 64=b.ws.length - 1:=by omega
   rcases hr with hr|hr
   ·omega
   ·have:=congrArg (fun w:Wd=>w.getLsbD (i % 64 - (b.size % 64).toNat)) (hr hw)
    simp only [BitVec.getLsbD_ushiftRight,BitVec.getLsbD_zero] at this
    rw [show (b.size % 64).toNat+(i % 64 - (b.size % 64).toNat)=i % 64 by omega] at this
    rw [show i=64 * (b.ws.length - 1)+i % 64 by omega,bit_at hw (Nat.mod_lt _ (by decide))]
    simpa using this
  ·exact bit_out (by omega)
def bmExts (b:Bm):List Exn:=ext (bit b.ws) b.size.toNat
def bmE (b:Bm):Int:=if okB b then 0 else 3
theorem elems_ok {b:Bm} (h:okB b=true) (a:Int) (ha:a≤0):elemsW b.ws a b.size=(List.range b.size.toNat).filter (bit b.ws):=by
 unfold elemsW
 obtain ⟨h1,h2,h3,h4,h5⟩:=okB_size h
 rw [show 64 * b.ws.length=b.size.toNat+(64 * b.ws.length - b.size.toNat) by omega,List.range_add,List.filter_append]
 have e:(((List.range (64 * b.ws.length - b.size.toNat)).map (b.size.toNat+·)).filter fun (i:Nat)=>bit b.ws i&&decide (a≤(i:Int)∧(i:Int)<b.size))=[]:=by
  rw [List.filter_eq_nil_iff]
  intro i hi
  obtain ⟨d,_,rfl⟩:=List.mem_map.1 hi
  rw [decide_eq_false (by omega)];simp
 rw [e,List.append_nil]
 apply List.filter_congr
 intro i hi
 have hi:=List.mem_range.1 hi
 rw [decide_eq_true (by omega),Bool.and_true]
end Go.Proofs.YtioijcfcehhmdaaGreatDoor.V

namespace Go.Proofs.YtioijcfcehhmdaaGreatDoor.V
theorem bmE_ok {b:Bm} (h:okB b=true):bmE b=0:=by unfold bmE;rw [if_pos h]
theorem bmE_no {b:Bm} (h:okB b=false):bmE b=3:=by unfold bmE;rw [if_neg (by rw [h];exact Bool.false_ne_true)]
theorem q64 {n:Int} (h:0≤n):(n+64 - 1).tdiv 64=wdsN n:=by
 unfold wdsN;rw [Int.tdiv_eq_ediv_of_nonneg (by omega)];congr 1;omega
theorem q63 {n:Int} (h:0≤n):(n+63).tdiv 64=wdsN n:=by
 unfold wdsN;rw [Int.tdiv_eq_ediv_of_nonneg (by omega)]
theorem z64:((64:Int)=0)=False:=eq_false (by decide)
theorem cal121 {n:Int} (h:0≤n∧n≤4096):cal env 121 [.int .i64 n]=some [(.int .i64 (wdsN n),false)]:=by
 have W1:IntKind.i64.wrap (n+64)=n+64:=i64_fits (by omega)
 have W2:IntKind.i64.wrap (n+64 - 1)=n+64 - 1:=i64_fits (by omega)
 have W3:IntKind.i64.wrap (wdsN n)=wdsN n:=i64_fits (by unfold wdsN;omega)
 rw [cal_code env121 rfl];simp only [fn121];simp only [start,z_map_cons,z_map_nil,z_len_cons,z_len_nil,z_repl_zero,z_repl_succ,z_cons_app,z_nil_app,Nat.reduceAdd,Nat.reduceSub]
 simp only [W1,W2,q64 h.1,W3,z64,memAll,vAll,reduceCtorEq,Nat.reduceEqDiff,Nat.reduceAdd,Nat.reduceLT,Nat.reduceLeDiff,Nat.beq]
theorem cal90 {b:Bm}:cal env 90 [eBm b]=some [(.int .i64 (bmE b),false)]:=by
 unfold eBm
 have P:∀ x y:PV,part [x,y] 0 (some 2)=some (.agg [x,y]):=fun _ _=>rfl
 by_cases c0:b.size<0
 ·have hE:bmE b=3:=bmE_no (by rw [Bool.eq_false_iff];intro h;have:=okB_size h;omega)
  rw [hE]
  rw [cal_code env90 rfl];simp only [fn90];simp only [start,z_map_cons,z_map_nil,z_len_cons,z_len_nil,z_repl_zero,z_repl_succ,z_cons_app,z_nil_app,Nat.reduceAdd,Nat.reduceSub]
  simp only [c0,P,memAll,vAll,reduceCtorEq,Nat.reduceEqDiff,Nat.reduceAdd,Nat.reduceLT,Nat.reduceLeDiff,Nat.beq]
 ·by_cases c1:b.size > 4096
  ·have hE:bmE b=3:=bmE_no (by rw [Bool.eq_false_iff];intro h;have:=okB_size h;omega)
   rw [hE]
   have F1:(b.size > 4096)=True:=eq_true c1
   rw [cal_code env90 rfl];simp only [fn90];simp only [start,z_map_cons,z_map_nil,z_len_cons,z_len_nil,z_repl_zero,z_repl_succ,z_cons_app,z_nil_app,Nat.reduceAdd,Nat.reduceSub]
   simp only [c0,F1,P,memAll,vAll,reduceCtorEq,Nat.reduceEqDiff,Nat.reduceAdd,Nat.reduceLT,Nat.reduceLeDiff,Nat.beq]
  ·have F1:(b.size > 4096)=False:=eq_false c1
   have e1:=cal121 (n:=b.size) (by omega)
   by_cases c2:(b.ws.length:Int)=wdsN b.size
   ·have F2:((b.ws.length:Int) != wdsN b.size)=false:=by simp [c2]
    have hr:=rest_iff (b:=b) ⟨by omega,by omega,c2⟩
    have hw:=c2
    unfold wdsN at hw
    have M:b.size.tmod 64=b.size % 64:=Int.tmod_eq_emod_of_nonneg (by omega)
    by_cases c3:b.size % 64=0
    ·have hE:bmE b=0:=bmE_ok (hr.2 (.inl c3))
     rw [hE]
     have F3:(b.size % 64 > 0)=False:=eq_false (by omega)
     rw [cal_code env90 rfl];simp only [fn90];simp only [start,z_map_cons,z_map_nil,z_len_cons,z_len_nil,z_repl_zero,z_repl_succ,z_cons_app,z_nil_app,Nat.reduceAdd,Nat.reduceSub]
     simp only [c0,F1,F2,F3,M,e1,z64,P,memAll,vAll,reduceCtorEq,Nat.reduceEqDiff,Nat.reduceAdd,Nat.reduceLT,Nat.reduceLeDiff,Nat.beq]
    ·have F3:(b.size % 64 > 0)=True:=eq_true (by omega)
     have hi:b.ws.length - 1<b.ws.length:=by omega
     have W:IntKind.i64.wrap ((b.ws.length:Int) - 1)=((b.ws.length - 1:Nat):Int):=by rw [i64_fits (by omega)];omega
     have S0:(b.size % 64<0)=False:=eq_false (by omega)
     have S:=w_shr b.ws[b.ws.length - 1] (s:=b.size % 64) (n:=(b.size % 64).toNat) (by omega)
     have B:=w_beq (b.ws[b.ws.length - 1] >>> (b.size % 64).toNat) 0
     have B0:((0:Wd).toNat:Int)=0:=rfl
     rw [B0] at B
     have B':(((b.ws[b.ws.length - 1] >>> (b.size % 64).toNat).toNat:Int) != 0)=!decide (b.ws[b.ws.length - 1] >>> (b.size % 64).toNat=0):=by unfold bne;rw [B]
     by_cases c4:b.ws[b.ws.length - 1] >>> (b.size % 64).toNat=0
     ·have hE:bmE b=0:=bmE_ok (hr.2 (.inr fun _=>c4))
      rw [hE]
      rw [decide_eq_true c4] at B'
      rw [cal_code env90 rfl];simp only [fn90];simp only [start,z_map_cons,z_map_nil,z_len_cons,z_len_nil,z_repl_zero,z_repl_succ,z_cons_app,z_nil_app,Nat.reduceAdd,Nat.reduceSub]
      simp only [c0,F1,F2,F3,M,e1,z64,P,W,S0,S,B',index_nat hi,eW,List.getElem?_map,List.getElem?_eq_getElem hi,memAll,vAll,reduceCtorEq,Nat.reduceEqDiff,Nat.reduceAdd,Nat.reduceLT,Nat.reduceLeDiff,Nat.beq]
     ·have hE:bmE b=3:=bmE_no (by
       rw [Bool.eq_false_iff];intro h
       rcases hr.1 h with h|h
       ·exact c3 h
       ·exact c4 (h hi))
      rw [hE]
      rw [decide_eq_false c4] at B'
      rw [cal_code env90 rfl];simp only [fn90];simp only [start,z_map_cons,z_map_nil,z_len_cons,z_len_nil,z_repl_zero,z_repl_succ,z_cons_app,z_nil_app,Nat.reduceAdd,Nat.reduceSub]
      simp only [c0,F1,F2,F3,M,e1,z64,P,W,S0,S,B',index_nat hi,eW,List.getElem?_map,List.getElem?_eq_getElem hi,memAll,vAll,reduceCtorEq,Nat.reduceEqDiff,Nat.reduceAdd,Nat.reduceLT,Nat.reduceLeDiff,Nat.beq]
   ·have F2:((b.ws.length:Int) != wdsN b.size)=true:=by simp [c2]
    have hE:bmE b=3:=bmE_no (by rw [Bool.eq_false_iff];intro h;exact c2 (okB_iff.1 h).1.2.2)
    rw [hE]
    rw [cal_code env90 rfl];simp only [fn90];simp only [start,z_map_cons,z_map_nil,z_len_cons,z_len_nil,z_repl_zero,z_repl_succ,z_cons_app,z_nil_app,Nat.reduceAdd,Nat.reduceSub]
    simp only [c0,F1,F2,e1,P,memAll,vAll,reduceCtorEq,Nat.reduceEqDiff,Nat.reduceAdd,Nat.reduceLT,Nat.reduceLeDiff,Nat.beq]
theorem cal147 {k:Nat} {a b:Int} (hk:k≤100000) (ha:-1000000≤a∧a≤1000000) (hb':-1000000≤b∧b≤1000000):cal env 147 [.int .i64 (k:Nat),.int .i64 a,.int .i64 b]=some [(eW (maskW k a b),false)]:=by
 have W0:IntKind.i64.wrap ((k:Int) * 64)=64 * (k:Int):=by rw [i64_fits (by omega)];omega
 have W1:IntKind.i64.wrap (a - 64 * (k:Int))=a - 64 * (k:Int):=i64_fits (by omega)
 have W2:IntKind.i64.wrap (b - 64 * (k:Int))=b - 64 * (k:Int):=i64_fits (by omega)
 have X1:(if a - 64 * (k:Int)<0 then 0 else a - 64 * (k:Int))=max (a - 64 * (k:Int)) 0:=by split<;>omega
 have X2:(if 64<b - 64 * (k:Int) then 64 else b - 64 * (k:Int))=min (b - 64 * (k:Int)) 64:=by split<;>omega
 unfold maskW eW
 generalize hf:max (a - 64 * (k:Int)) 0=f at X1 ⊢
 generalize ht:min (b - 64 * (k:Int)) 64=t at X2 ⊢
 by_cases c:f ≥ t
 ·have F1:(f ≥ t)=True:=eq_true c
  rw [if_pos c]
  have B0:((0:Wd).toNat:Int)=0:=rfl
  rw [B0]
  rw [cal_code env147 rfl];simp only [fn147];simp only [start,z_map_cons,z_map_nil,z_len_cons,z_len_nil,z_repl_zero,z_repl_succ,z_cons_app,z_nil_app,Nat.reduceAdd,Nat.reduceSub]
  simp only [W0,W1,W2,X1,X2,F1,memAll,vAll,reduceCtorEq,Nat.reduceEqDiff,Nat.reduceAdd,Nat.reduceLT,Nat.reduceLeDiff,Nat.beq]
 ·have F1:(f ≥ t)=False:=eq_false c
  rw [if_neg c]
  have W3:IntKind.i64.wrap (t - f)=t - f:=i64_fits (by omega)
  have W4:IntKind.i64.wrap (64 - (t - f))=64 - (t - f):=i64_fits (by omega)
  have A:(18446744073709551615:Int)=((BitVec.allOnes 64).toNat:Int):=rfl
  have S0:(64 - (t - f)<0)=False:=eq_false (by omega)
  have S1:(f<0)=False:=eq_false (by omega)
  have S2:=w_shr (BitVec.allOnes 64) (s:=64 - (t - f)) (n:=(64 - (t - f)).toNat) (by omega)
  have S3:=w_shl (BitVec.allOnes 64 >>> (64 - (t - f)).toNat) (s:=f) (n:=f.toNat) (by omega)
  rw [← A] at S2
  rw [cal_code env147 rfl];simp only [fn147];simp only [start,z_map_cons,z_map_nil,z_len_cons,z_len_nil,z_repl_zero,z_repl_succ,z_cons_app,z_nil_app,Nat.reduceAdd,Nat.reduceSub]
  simp only [W0,W1,W2,W3,W4,X1,X2,F1,S0,S1,S2,S3,memAll,vAll,reduceCtorEq,Nat.reduceEqDiff,Nat.reduceAdd,Nat.reduceLT,Nat.reduceLeDiff,Nat.beq]
end Go.Proofs.YtioijcfcehhmdaaGreatDoor.V

namespace Go.Proofs.YtioijcfcehhmdaaGreatDoor.V
def eB2 (b:Bm):List PV:=[.int .i64 b.size,.list 1 (b.ws.map eW)]
def tz (w:Wd):Nat:=Lib.ctz 64 w.toNat
theorem cal150 {w:Wd}:cal env 150 [.int .u64 (w.toNat:Int)]=some [(.int .i64 (tz w:Nat),false)]:=by
 rw [cal_ext env150]
 have:=w.isLt
 have e:tzX [.int .u64 (w.toNat:Int)]=if (0:Int)≤(w.toNat:Int)∧(w.toNat:Int)<18446744073709551616 then some [(.int .i64 (Lib.ctz 64 (w.toNat:Int).toNat:Nat),false)] else none:=rfl
 rw [e,if_pos (by omega),Int.toNat_natCast]
 rfl
theorem loop149 {b:Bm} {a:Int} {k:Nat} {w0:Wd} {ys0:List (List PV)} (hk:k≤100000)
  {st:St} (h:st.head [0,1,2,4,5,10,11,12] st.boxes.length=some ⟨[.yld,.pv (.iptr (eB2 b) 0),.pv (.iptr [.int .i64 a] 0),.any,.pv (.int .i64 (k:Nat)),.pv (eW w0),.any,.any,.any,.any,.pv (.list 1 (b.ws.map eW)),.pv (.int .i64 b.ws.length),.pv (.int .i64 (k:Nat)),.any,.any,.any,.any,.any,.any,.any,.any,.any,.any,.any,.any,.any,.any,.any,.any,.any,.any,.any,.any,.any,.any,.any,.any,.any,.any],[],ys0,some none⟩) :
  den env fn149_l1 st=some (.normal,⟨[.yld,.pv (.iptr (eB2 b) 0),.pv (.iptr [.int .i64 a] 0),.any,.any,.any,.any,.any,.any,.any,.pv (.list 1 (b.ws.map eW)),.pv (.int .i64 b.ws.length),.pv (.int .i64 (k:Nat)),.any,.any,.any,.any,.any,.any,.any,.any,.any,.any,.any,.any,.any,.any,.any,.any,.any,.any,.any,.any,.any,.any,.any,.any,.any,.any],[],ys0++yI ((bitsOf w0).map (64 * k+·)),some none⟩):=by
 unfold fn149_l1
 refine clean_rec (env:=env) (fun p:Wd × List (List PV)=>⟨[.yld,.pv (.iptr (eB2 b) 0),.pv (.iptr [.int .i64 a] 0),.any,.pv (.int .i64 (k:Nat)),.pv (eW p.1),.any,.any,.any,.any,.pv (.list 1 (b.ws.map eW)),.pv (.int .i64 b.ws.length),.pv (.int .i64 (k:Nat)),.any,.any,.any,.any,.any,.any,.any,.any,.any,.any,.any,.any,.any,.any,.any,.any,.any,.any,.any,.any,.any,.any,.any,.any,.any,.any],[],p.2,some none⟩)
  (fun p=>some (.normal,⟨[.yld,.pv (.iptr (eB2 b) 0),.pv (.iptr [.int .i64 a] 0),.any,.any,.any,.any,.any,.any,.any,.pv (.list 1 (b.ws.map eW)),.pv (.int .i64 b.ws.length),.pv (.int .i64 (k:Nat)),.any,.any,.any,.any,.any,.any,.any,.any,.any,.any,.any,.any,.any,.any,.any,.any,.any,.any,.any,.any,.any,.any,.any,.any,.any,.any],[],p.2++yI ((bitsOf p.1).map (64 * k+·)),some none⟩)) (fun _=>True) (fun p=>(bitsOf p.1).length) (w0,ys0) h trivial (fun _=>rfl) (fun _=>rfl) ?_
 rintro ⟨w,ys⟩ rb _ ih
 simp only [eW] at ih ⊢
 have B:=w_beq w 0
 have B0:((0:Wd).toNat:Int)=0:=rfl
 rw [B0] at B
 have B':((w.toNat:Int) != 0)=!decide (w=0):=by unfold bne;rw [B]
 by_cases c:w=0
 ·rw [decide_eq_true c] at B'
  subst c
  simp only [fn149_b0,B',bits_zero,List.map_nil,memAll,vAll,reduceCtorEq,Nat.reduceEqDiff,Nat.reduceAdd,Nat.reduceLT,Nat.reduceLeDiff,Nat.beq]
  simp only [yI,List.map_nil,List.append_nil]
  rfl
 ·rw [decide_eq_false c] at B'
  have e1:=cal150 (w:=w)
  have ht:=(ctz_low c).1
  have W0:IntKind.i64.wrap ((k:Int) * 64)=64 * (k:Int):=by rw [i64_fits (by omega)];omega
  have W1:IntKind.i64.wrap (64 * (k:Int)+((tz w:Nat):Int))=((64 * k+tz w:Nat):Int):=by unfold tz;rw [i64_fits (by omega)];omega
  have W2:=w_sub w 1
  have W3:=w_and w (w - 1)
  have B1:((1:Wd).toNat:Int)=1:=rfl
  rw [B1] at W2
  have hc:=bits_cons c
  simp only [fn149_b0,B',e1,W0,W1,W2,W3,memAll,vAll,reduceCtorEq,Nat.reduceEqDiff,Nat.reduceAdd,Nat.reduceLT,Nat.reduceLeDiff,Nat.beq]
  rw [ih (w &&& (w - 1),ys++[[.int .i64 ((64 * k+tz w:Nat):Int)]]) (by simp only;rw [hc,List.length_cons];omega) trivial _ rfl]
  rw [hc]
  simp only [yI,List.map_cons,List.append_assoc,List.cons_append,List.nil_append]
  rfl
theorem loop149b {b:Bm} {a:Int} (hb:b.ws.length≤64) (hs:0≤b.size∧b.size≤4096) (ha:-1000000≤a∧a≤1000000)
  {st:St} (h:st.head [0,1,2,10,11,12] st.boxes.length=some ⟨[.yld,.pv (.iptr (eB2 b) 0),.pv (.iptr [.int .i64 a] 0),.any,.any,.any,.any,.any,.any,.any,.pv (.list 1 (b.ws.map eW)),.pv (.int .i64 b.ws.length),.pv (.int .i64 (0:Nat)),.any,.any,.any,.any,.any,.any,.any,.any,.any,.any,.any,.any,.any,.any,.any,.any,.any,.any,.any,.any,.any,.any,.any,.any,.any,.any],[],[],some none⟩) :
  den env fn149_l3 st=some (.normal,⟨[.any,.any,.any,.any,.any,.any,.any,.any,.any,.any,.any,.any,.any,.any,.any,.any,.any,.any,.any,.any,.any,.any,.any,.any,.any,.any,.any,.any,.any,.any,.any,.any,.any,.any,.any,.any,.any,.any,.any],[],yI (elemsW b.ws a b.size),some none⟩):=by
 unfold fn149_l3
 refine clean_up (env:=env) b.ws.length (fun k=>⟨[.yld,.pv (.iptr (eB2 b) 0),.pv (.iptr [.int .i64 a] 0),.any,.any,.any,.any,.any,.any,.any,.pv (.list 1 (b.ws.map eW)),.pv (.int .i64 b.ws.length),.pv (.int .i64 k),.any,.any,.any,.any,.any,.any,.any,.any,.any,.any,.any,.any,.any,.any,.any,.any,.any,.any,.any,.any,.any,.any,.any,.any,.any,.any],[],yI ((List.range (64 * k)).filter fun (i:Nat)=>bit b.ws i&&decide (a≤(i:Int)∧(i:Int)<b.size)),some none⟩)
  (fun _=>some (.normal,⟨[.any,.any,.any,.any,.any,.any,.any,.any,.any,.any,.any,.any,.any,.any,.any,.any,.any,.any,.any,.any,.any,.any,.any,.any,.any,.any,.any,.any,.any,.any,.any,.any,.any,.any,.any,.any,.any,.any,.any],[],yI (elemsW b.ws a b.size),some none⟩)) h (fun _=>rfl) (fun _=>rfl) ?_ ?_
 ·intro k rb hi ih
  have hi1:=i64_next hi (by unfold lim;omega)
  have F1:((k:Int)<(b.ws.length:Int))=True:=eq_true (by omega)
  have e1:=cal147 (k:=k) (a:=a) (b:=b.size) (by omega) ha (by omega)
  have W3:=w_and b.ws[k] (maskW k a b.size)
  rw [elems_take hi] at ih
  unfold eW at e1
  simp only [fn149_b2,F1,e1,W3,eB2,eW,index_nat hi,List.getElem?_map,List.getElem?_eq_getElem hi,memAll,vAll,reduceCtorEq,Nat.reduceEqDiff,Nat.reduceAdd,Nat.reduceLT,Nat.reduceLeDiff,Nat.beq]
  rw [loop149 (b:=b) (a:=a) (k:=k) (w0:=b.ws[k] &&& maskW k a b.size) (ys0:=yI ((List.range (64 * k)).filter fun (i:Nat)=>bit b.ws i&&decide (a≤(i:Int)∧(i:Int)<b.size))) (by omega)]
  rotate_left
  ·rfl
  simp only [memAll,vAll,reduceCtorEq,Nat.reduceEqDiff,Nat.reduceAdd,Nat.reduceLT,Nat.reduceLeDiff,Nat.beq]
  rw [ih _ (by simp only [hi1];simp only [yI,List.map_append];rfl)]
 ·intro rb
  simp only [fn149_b2,Int.lt_irrefl,memAll,vAll,reduceCtorEq,Nat.reduceEqDiff,Nat.reduceAdd,Nat.reduceLT,Nat.reduceLeDiff,Nat.beq]
  rfl
theorem iter149 {b:Bm} {a:Int} (ha:-1000000≤a∧a≤1000000):iter env 149 [.iptr (eB2 b) 0,.iptr [.int .i64 a] 0] none=some (yI (if okB b then elemsW b.ws a b.size else [])):=by
 have P:part (eB2 b) 0 (some 2)=some (eBm b):=rfl
 have e1:=cal90 (b:=b)
 rw [iter_code env149 rfl rfl]
 simp only [fn149,ystart,z_map_cons,z_map_nil,z_len_cons,z_len_nil,z_repl_zero,z_repl_succ,z_cons_app,z_nil_app,Nat.reduceAdd,Nat.reduceSub]
 cases c:okB b with
 |false =>
  rw [bmE_no c] at e1
  have Z:((3:Int) != 0)=true:=rfl
  simp only [P,e1,Z,vRng,memAll,vAll,reduceCtorEq,Nat.reduceEqDiff,Nat.reduceAdd,Nat.reduceLT,Nat.reduceLeDiff,Nat.beq]
  rfl
 |true =>
  rw [bmE_ok c] at e1
  have Z:((0:Int) != 0)=false:=rfl
  obtain ⟨h1,h2,h3,_⟩:=okB_size c
  have P2:part (eB2 b) 1 none=some (.list 1 (b.ws.map eW)):=rfl
  simp only [P,P2,e1,Z,List.length_map,vRng,memAll,vAll,reduceCtorEq,Nat.reduceEqDiff,Nat.reduceAdd,Nat.reduceLT,Nat.reduceLeDiff,Nat.beq]
  rw [loop149b (a:=a) h3 ⟨h1,h2⟩ ha]
  rotate_left
  ·rfl
  ·rfl
theorem cal126 {b:Bm} {a:Int}:cal env 126 [eBm b,.int .i64 a]=some [(.func 149 [.iptr (eB2 b) 0,.iptr [.int .i64 a] 0],false)]:=by
 unfold eBm eB2
 rw [cal_code env126 rfl];simp only [fn126];simp only [start,z_map_cons,z_map_nil,z_len_cons,z_len_nil,z_repl_zero,z_repl_succ,z_cons_app,z_nil_app,Nat.reduceAdd,Nat.reduceSub]
 simp only [ memAll,vAll,reduceCtorEq,Nat.reduceEqDiff,Nat.reduceAdd,Nat.reduceLT,Nat.reduceLeDiff,Nat.beq]
end Go.Proofs.YtioijcfcehhmdaaGreatDoor.V

namespace Go.Proofs.YtioijcfcehhmdaaGreatDoor.V
end Go.Proofs.YtioijcfcehhmdaaGreatDoor.V

namespace Go.Proofs.YtioijcfcehhmdaaGreatDoor.V
theorem sorted_at {l:List Nat} (hs:l.Pairwise (·<·)) {j i:Nat} (h:l[j]?=some i):j≤i∧∀ k∈l.take j,k<i:=by
 obtain ⟨hj,rfl⟩:=List.getElem?_eq_some_iff.1 h
 have hp:=List.pairwise_iff_getElem.1 hs
 refine ⟨?_,fun k hk=>?_⟩
 ·clear h
  induction j with
  |zero=>exact Nat.zero_le _
  |succ j ih =>
   have h1:=ih (by omega)
   have h2:=hp j (j+1) (by omega) hj (by omega)
   omega
 ·obtain ⟨m,hm,rfl⟩:=List.mem_iff_getElem.1 hk
  rw [List.getElem_take]
  simp only [List.length_take] at hm
  exact hp m j (by omega) hj (by omega)
def bmEl (b:Bm):List Nat:=if okB b then elemsW b.ws 0 b.size else []
theorem bmEl_at {b:Bm} {j i:Nat} (h:(bmEl b)[j]?=some i):i<4096∧j≤i∧∀ k∈(bmEl b).take j,k<i:=by
 unfold bmEl at h ⊢
 split at h
 ·rename_i c
  rw [if_pos c]
  have hs:(elemsW b.ws 0 b.size).Pairwise (·<·):=List.pairwise_lt_range.filter _
  have hm:=List.mem_of_getElem? h
  simp only [elemsW,List.mem_filter,List.mem_range,Bool.and_eq_true,decide_eq_true_eq] at hm
  have:=okB_size c
  exact ⟨by omega,sorted_at hs h⟩
 ·simp at h
def bmX (b:Bm):List Exn:=if okB b then bmExts b else []
theorem bmEl_x (b:Bm):exts (bmEl b)=bmX b:=by
 unfold bmEl bmX bmExts ext
 split
 ·rename_i c;rw [elems_ok c 0 (by omega)]
 ·rfl
theorem cal94 {b:Bm}:cal env 94 [eBm b]=some [(.list 2 ((bmX b).map eExt),true)]:=by
 have e1:=cal126 (b:=b) (a:=0)
 have eA:∀ a:Bm,eBm a=.agg [.int .i64 a.size,.list 1 (a.ws.map eW)]:=fun _=>rfl
 rw [eA] at e1 ⊢
 rw [cal_code env94 rfl];simp only [fn94];simp only [start,z_map_cons,z_map_nil,z_len_cons,z_len_nil,z_repl_zero,z_repl_succ,z_cons_app,z_nil_app,Nat.reduceAdd,Nat.reduceSub]
 simp only [e1,memAll,vAll,reduceCtorEq,Nat.reduceEqDiff,Nat.reduceAdd,Nat.reduceLT,Nat.reduceLeDiff,Nat.beq]
 rw [rng_idx (env:=env) (fun j=>[⟨false,[.pv (.int .i64 b.size),.pv (.list 1 (b.ws.map eW))]⟩,⟨false,[.row 2 ((exts ((bmEl b).take j)).map eExt)]⟩]) (xs:=yI (bmEl b)) rfl (by have:=iter149 (b:=b) (a:=0) (by omega);exact this) rfl ?_]
 ·simp only [yI,List.length_map,List.take_length,vRng,memAll,vAll,reduceCtorEq,Nat.reduceEqDiff,Nat.reduceAdd,Nat.reduceLT,Nat.reduceLeDiff,Nat.beq]
  rw [bmEl_x]
 ·intro j x hx sl0
  simp only [yI,List.getElem?_map,Option.map_eq_some_iff] at hx
  obtain ⟨i,hi,rfl⟩:=hx
  obtain ⟨k1,k2,k3⟩:=bmEl_at hi
  have hlim:lim=1073741824:=rfl
  have hj:=(List.getElem?_eq_some_iff.1 hi).1
  have ht:(bmEl b).take (j+1)=(bmEl b).take j++[i]:=by rw [List.take_add_one,hi];rfl
  have hlen:((bmEl b).take j).length=j:=by simp;omega
  rw [ht]
  rcases snoc_cases ((bmEl b).take j) with h0|⟨p,q,h0⟩
  ·have F2:(((0:Nat):Int) > 0)=False:=eq_false (by omega)
   have F3:(0+1≤lim)=True:=eq_true (by omega)
   have e0:exts ([]:List Nat)=[]:=rfl
   have e2:exts [i]=[⟨i,1⟩]:=rfl
   refine ⟨?_,?_⟩
   rotate_left
   ·simp only [h0,List.nil_append,fn94_b0,fn94_b1,F2,F3,e0,e2,eExt,List.map_nil,List.map_cons,vRng,memAll,vAll,reduceCtorEq,Nat.reduceEqDiff,Nat.reduceAdd,Nat.reduceLT,Nat.reduceLeDiff,Nat.beq]
    rfl
  ·obtain ⟨pre,⟨s,c⟩,e0,h1,h2,h3,h4⟩:=exts_last _ p rfl q
   have hqi:q<i:=k3 q (by rw [h0];simp)
   simp only at h1 h2 h3
   have hpl:p.length+1=j:=by rw [h0] at hlen;simpa using hlen
   have F2:(((pre.length+1:Nat):Int) > 0)=True:=eq_true (by omega)
   have F3:=wrap_pred (n:=pre.length) (by omega)
   have F4:IntKind.i64.wrap (s+c)=s+c:=i64_fits (by omega)
   have F5:IntKind.i64.wrap (c+1)=c+1:=i64_fits (by omega)
   have F6:(pre.length+1+1≤lim)=True:=eq_true (by omega)
   have F7:index (.int .i64 (pre.length:Int)) (pre.length+1)=some pre.length:=index_nat (by omega)
   by_cases hc:s+c=(i:Int)
   ·have F8:(s+c==(i:Int))=true:=by simpa using hc
    have e2:exts (p++[q]++[i])=pre++[⟨s,c+1⟩]:=by rw [exts_snoc,e0,addAt_snoc,if_pos hc]
    refine ⟨?_,?_⟩
    rotate_left
    ·simp only [h0,fn94_b0,fn94_b1,e0,e2,F2,F3,F4,F5,F6,F7,F8,eExt,List.map_append,List.map_cons,List.map_nil,vRng,memAll,vAll,reduceCtorEq,Nat.reduceEqDiff,Nat.reduceAdd,Nat.reduceLT,Nat.reduceLeDiff,Nat.beq]
     rfl
   ·have F8:(s+c==(i:Int))=false:=by simpa using hc
    have e2:exts (p++[q]++[i])=pre++[⟨s,c⟩]++[⟨i,1⟩]:=by rw [exts_snoc,e0,addAt_snoc,if_neg hc]
    refine ⟨?_,?_⟩
    rotate_left
    ·simp only [h0,fn94_b0,fn94_b1,e0,e2,F2,F3,F4,F5,F6,F7,F8,eExt,List.map_append,List.map_cons,List.map_nil,vRng,memAll,vAll,reduceCtorEq,Nat.reduceEqDiff,Nat.reduceAdd,Nat.reduceLT,Nat.reduceLeDiff,Nat.beq]
     rfl
theorem w_bit (w:Wd) (s:Nat):(w >>> s &&& 1==(1:Wd))=w.getLsbD s:=by
 have h:w >>> s &&& 1=if w.getLsbD s then 1 else 0:=by
  apply BitVec.eq_of_getLsbD_eq
  intro j hj
  rw [BitVec.getLsbD_and,BitVec.getLsbD_ushiftRight]
  cases j with
  |zero=>cases h:w.getLsbD s<;>simp [h]
  |succ j =>
   have:(1:Wd).getLsbD (j+1)=false:=by
    rw [show (1:Wd)=1#64 from rfl,BitVec.getLsbD_one];simp
   rw [this,Bool.and_false]
   cases w.getLsbD s<;>simp
 rw [h]
 cases w.getLsbD s<;>rfl
theorem cal103 {b:Bm} {i:Nat} (h:i / 64<b.ws.length) (hi:i≤1000000):cal env 103 [eBm b,.int .i64 (i:Nat)]=some [(.bool (bit b.ws i),false)]:=by
 unfold eBm
 have T1:(i:Int).tdiv 64=((i / 64:Nat):Int):=by rw [Int.tdiv_eq_ediv_of_nonneg (by omega)];omega
 have T2:(i:Int).tmod 64=((i % 64:Nat):Int):=by rw [Int.tmod_eq_emod_of_nonneg (by omega)];omega
 have W1:IntKind.i64.wrap ((i / 64:Nat):Int)=((i / 64:Nat):Int):=i64_fits (by omega)
 have W2:IntKind.u64.wrap ((i % 64:Nat):Int)=((i % 64:Nat):Int):=by rw [u64_wrap];omega
 have S0:(((i % 64:Nat):Int)<0)=False:=eq_false (by omega)
 have S1:=w_shr b.ws[i / 64] (s:=((i % 64:Nat):Int)) (n:=i % 64) rfl
 have S2:=w_and (b.ws[i / 64] >>> (i % 64)) 1
 have B1:((1:Wd).toNat:Int)=1:=rfl
 have S3:=w_beq (b.ws[i / 64] >>> (i % 64) &&& 1) 1
 rw [B1] at S2 S3
 have S4:decide (b.ws[i / 64] >>> (i % 64) &&& 1=(1:Wd))=bit b.ws i:=by rw [bit_of h,← w_bit];rfl
 rw [S4] at S3
 rw [cal_code env103 rfl];simp only [fn103];simp only [start,z_map_cons,z_map_nil,z_len_cons,z_len_nil,z_repl_zero,z_repl_succ,z_cons_app,z_nil_app,Nat.reduceAdd,Nat.reduceSub]
 simp only [z64,T1,T2,W1,W2,S0,S1,S2,S3,eW,index_nat h,List.getElem?_map,List.getElem?_eq_getElem h,memAll,vAll,reduceCtorEq,Nat.reduceEqDiff,Nat.reduceAdd,Nat.reduceLT,Nat.reduceLeDiff,Nat.beq]
def anyFrom (ws:List Wd) (k:Nat):Bool:=(List.range (64 * ws.length)).any fun i=>decide (k≤i)&&bit ws i
theorem anyFrom_iff {ws:List Wd} {k:Nat}:anyFrom ws k=true ↔ ∃ i,k≤i∧i<64 * ws.length∧bit ws i=true:=by
 simp only [anyFrom,List.any_eq_true,List.mem_range,Bool.and_eq_true,decide_eq_true_eq]
 exact ⟨fun ⟨i,h1,h2,h3⟩=>⟨i,h2,h1,h3⟩,fun ⟨i,h1,h2,h3⟩=>⟨i,h2,h1,h3⟩⟩
theorem anyFrom_succ {ws:List Wd} {k:Nat} (h:bit ws k=false):anyFrom ws k=anyFrom ws (k+1):=by
 rw [Bool.eq_iff_iff,anyFrom_iff,anyFrom_iff]
 constructor
 ·rintro ⟨j,h1,h2,h3⟩
  have:j≠k:=fun e=>by rw [e,h] at h3;cases h3
  exact ⟨j,by omega,h2,h3⟩
 ·rintro ⟨j,h1,h2,h3⟩
  exact ⟨j,by omega,h2,h3⟩
theorem loop102 {b:Bm} {s:Nat} (hs:b.size=(s:Int)) (hl:b.ws.length≤64) (hsl:s≤64 * b.ws.length) {st:St} (h:st.head [1,3] st.boxes.length=some ⟨[.any,.pbox 0 0,.any,.pv (.int .i64 ((s+(0:Nat):Nat):Int)),.any,.any,.any,.any,.any,.any,.any,.any,.any,.any,.any,.any,.any,.any,.any,.any,.any,.any,.any,.any,.any,.any,.any,.any,.any,.any,.any,.any,.any,.any,.any],[⟨false,[.pv (.int .i64 b.size),.pv (.list 1 (b.ws.map eW))]⟩],[],none⟩) :
  den env fn102_l1 st=if anyFrom b.ws (s+(0:Nat)) then some (.ret,⟨[.any,.any,.pv (.int .i64 3),.any,.any,.any,.any,.any,.any,.any,.any,.any,.any,.any,.any,.any,.any,.any,.any,.any,.any,.any,.any,.any,.any,.any,.any,.any,.any,.any,.any,.any,.any,.any,.any],[⟨false,[.pv (.int .i64 b.size),.pv (.list 1 (b.ws.map eW))]⟩],[],none⟩) else some (.normal,⟨[.any,.any,.any,.any,.any,.any,.any,.any,.any,.any,.any,.any,.any,.any,.any,.any,.any,.any,.any,.any,.any,.any,.any,.any,.any,.any,.any,.any,.any,.any,.any,.any,.any,.any,.any],[⟨false,[.pv (.int .i64 b.size),.pv (.list 1 (b.ws.map eW))]⟩],[],none⟩):=by
 unfold fn102_l1
 refine clean_up (env:=env) (64 * b.ws.length - s) (fun i=>⟨[.any,.pbox 0 0,.any,.pv (.int .i64 ((s+i:Nat):Int)),.any,.any,.any,.any,.any,.any,.any,.any,.any,.any,.any,.any,.any,.any,.any,.any,.any,.any,.any,.any,.any,.any,.any,.any,.any,.any,.any,.any,.any,.any,.any],[⟨false,[.pv (.int .i64 b.size),.pv (.list 1 (b.ws.map eW))]⟩],[],none⟩) (fun i=>if anyFrom b.ws (s+i) then some (.ret,⟨[.any,.any,.pv (.int .i64 3),.any,.any,.any,.any,.any,.any,.any,.any,.any,.any,.any,.any,.any,.any,.any,.any,.any,.any,.any,.any,.any,.any,.any,.any,.any,.any,.any,.any,.any,.any,.any,.any],[⟨false,[.pv (.int .i64 b.size),.pv (.list 1 (b.ws.map eW))]⟩],[],none⟩) else some (.normal,⟨[.any,.any,.any,.any,.any,.any,.any,.any,.any,.any,.any,.any,.any,.any,.any,.any,.any,.any,.any,.any,.any,.any,.any,.any,.any,.any,.any,.any,.any,.any,.any,.any,.any,.any,.any],[⟨false,[.pv (.int .i64 b.size),.pv (.list 1 (b.ws.map eW))]⟩],[],none⟩)) h (fun _=>rfl) (fun _=>rfl) ?_ ?_
 ·intro i rb hi ih
  have hi1:IntKind.i64.wrap (((s+i:Nat):Int)+1)=((s+(i+1):Nat):Int):=by rw [i64_fits (by omega)];omega
  have W1:IntKind.i64.wrap (64 * (b.ws.length:Int))=64 * (b.ws.length:Int):=i64_fits (by omega)
  have F1:(((s+i:Nat):Int)<64 * (b.ws.length:Int))=True:=eq_true (by omega)
  have e1:=cal103 (b:=b) (i:=s+i) (by omega) (by omega)
  have P2:part [PV.int .i64 b.size,.list 1 (b.ws.map fun w=>PV.int .u64 (w.toNat:Int))] 0 (some 2)=some (.agg [PV.int .i64 b.size,.list 1 (b.ws.map fun w=>PV.int .u64 (w.toNat:Int))]):=rfl
  unfold eBm at e1
  unfold eW at e1 ih ⊢
  cases c:bit b.ws (s+i) with
  |true =>
   rw [c] at e1
   have h:anyFrom b.ws (s+i)=true:=anyFrom_iff.2 ⟨s+i,by omega,by omega,c⟩
   rw [if_pos h]
   simp only [fn102_b0,F1,W1,e1,P2,List.length_map,memAll,vAll,reduceCtorEq,Nat.reduceEqDiff,Nat.reduceAdd,Nat.reduceLT,Nat.reduceLeDiff,Nat.beq]
   rfl
  |false =>
   rw [c] at e1
   have h:=anyFrom_succ c
   simp only [fn102_b0,F1,W1,e1,P2,List.length_map,memAll,vAll,reduceCtorEq,Nat.reduceEqDiff,Nat.reduceAdd,Nat.reduceLT,Nat.reduceLeDiff,Nat.beq]
   rw [ih _ (by simp only [hi1];rfl),h]
   rfl
 ·intro rb
  have W1:IntKind.i64.wrap (64 * (b.ws.length:Int))=64 * (b.ws.length:Int):=i64_fits (by omega)
  have F1:(((s+(64 * b.ws.length - s):Nat):Int)<64 * (b.ws.length:Int))=False:=eq_false (by omega)
  rw [if_neg (by rw [anyFrom_iff];rintro ⟨j,h1,h2,_⟩;omega)]
  simp only [fn102_b0,F1,W1,List.length_map,memAll,vAll,reduceCtorEq,Nat.reduceEqDiff,Nat.reduceAdd,Nat.reduceLT,Nat.reduceLeDiff,Nat.beq]
  rfl
end Go.Proofs.YtioijcfcehhmdaaGreatDoor.V

namespace Go.Proofs.YtioijcfcehhmdaaGreatDoor.V
theorem cal102 {b:Bm}:cal env 102 [eBm b]=some [(.int .i64 (bmE b),false)]:=by
 unfold eBm
 have P:∀ x y:PV,part [x,y] 0 (some 2)=some (.agg [x,y]):=fun _ _=>rfl
 by_cases c0:b.size<0
 ·have hE:bmE b=3:=bmE_no (by rw [Bool.eq_false_iff];intro h;have:=okB_size h;omega)
  rw [hE]
  rw [cal_code env102 rfl];simp only [fn102];simp only [start,z_map_cons,z_map_nil,z_len_cons,z_len_nil,z_repl_zero,z_repl_succ,z_cons_app,z_nil_app,Nat.reduceAdd,Nat.reduceSub]
  simp only [c0,P,memAll,vAll,reduceCtorEq,Nat.reduceEqDiff,Nat.reduceAdd,Nat.reduceLT,Nat.reduceLeDiff,Nat.beq]
 ·by_cases c1:b.size > 4096
  ·have hE:bmE b=3:=bmE_no (by rw [Bool.eq_false_iff];intro h;have:=okB_size h;omega)
   rw [hE]
   have F1:(b.size > 4096)=True:=eq_true c1
   rw [cal_code env102 rfl];simp only [fn102];simp only [start,z_map_cons,z_map_nil,z_len_cons,z_len_nil,z_repl_zero,z_repl_succ,z_cons_app,z_nil_app,Nat.reduceAdd,Nat.reduceSub]
   simp only [c0,F1,P,memAll,vAll,reduceCtorEq,Nat.reduceEqDiff,Nat.reduceAdd,Nat.reduceLT,Nat.reduceLeDiff,Nat.beq]
  ·have F1:(b.size > 4096)=False:=eq_false c1
   have W0:IntKind.i64.wrap (b.size+63)=b.size+63:=i64_fits (by omega)
   have W3:IntKind.i64.wrap (wdsN b.size)=wdsN b.size:=i64_fits (by unfold wdsN;omega)
   have T:=q63 (n:=b.size) (by omega)
   by_cases c2:(b.ws.length:Int)=wdsN b.size
   ·have F2:((b.ws.length:Int) != wdsN b.size)=false:=by simp [c2]
    have hw:=c2
    unfold wdsN at hw
    have hs:b.size=((b.size.toNat:Nat):Int):=by omega
    rw [cal_code env102 rfl];simp only [fn102];simp only [start,z_map_cons,z_map_nil,z_len_cons,z_len_nil,z_repl_zero,z_repl_succ,z_cons_app,z_nil_app,Nat.reduceAdd,Nat.reduceSub]
    simp only [c0,F1,F2,W0,W3,T,z64,P,List.length_map,memAll,vAll,reduceCtorEq,Nat.reduceEqDiff,Nat.reduceAdd,Nat.reduceLT,Nat.reduceLeDiff,Nat.beq]
    rw [loop102 (b:=b) (s:=b.size.toNat) hs (by omega) (by omega)]
    rotate_left
    ·rw [Nat.add_zero,← hs];rfl
    ·cases c:okB b with
     |true =>
      rw [bmE_ok c,if_neg]
      ·simp only [c0,F1,F2,W0,W3,T,z64,P,List.length_map,memAll,vAll,reduceCtorEq,Nat.reduceEqDiff,Nat.reduceAdd,Nat.reduceLT,Nat.reduceLeDiff,Nat.beq]
      ·rw [anyFrom_iff]
       rintro ⟨i,h1,h2,h3⟩
       rw [(okB_iff.1 c).2 i (by omega)] at h3
       cases h3
     |false =>
      rw [bmE_no c,if_pos]
      ·simp only [c0,F1,F2,W0,W3,T,z64,P,List.length_map,memAll,vAll,reduceCtorEq,Nat.reduceEqDiff,Nat.reduceAdd,Nat.reduceLT,Nat.reduceLeDiff,Nat.beq]
      ·rw [anyFrom_iff]
       apply Classical.byContradiction
       intro hn
       have:okB b=true:=okB_iff.2 ⟨⟨by omega,by omega,c2⟩,fun i hi=>by
        by_cases hl:i<64 * b.ws.length
        ·cases hb:bit b.ws i with
         |false=>rfl
         |true=>exact absurd ⟨i,by omega,hl,hb⟩ hn
        ·exact bit_out (by omega)⟩
       rw [this] at c;cases c
   ·have F2:((b.ws.length:Int) != wdsN b.size)=true:=by simp [c2]
    have hE:bmE b=3:=bmE_no (by rw [Bool.eq_false_iff];intro h;exact c2 (okB_iff.1 h).1.2.2)
    rw [hE]
    rw [cal_code env102 rfl];simp only [fn102];simp only [start,z_map_cons,z_map_nil,z_len_cons,z_len_nil,z_repl_zero,z_repl_succ,z_cons_app,z_nil_app,Nat.reduceAdd,Nat.reduceSub]
    simp only [c0,F1,F2,W0,W3,T,z64,P,List.length_map,memAll,vAll,reduceCtorEq,Nat.reduceEqDiff,Nat.reduceAdd,Nat.reduceLT,Nat.reduceLeDiff,Nat.beq]
end Go.Proofs.YtioijcfcehhmdaaGreatDoor.V

namespace Go.Proofs.YtioijcfcehhmdaaGreatDoor.V
theorem cal100 {l:List Spn} (hl:l.length≤lim):cal env 100 [.list 3 (l.map eSpn)]=some [(.bool (linOk l),false)]:=by
 rw [cal_code env100 rfl];simp only [fn100];simp only [start,z_map_cons,z_map_nil,z_len_cons,z_len_nil,z_repl_zero,z_repl_succ,z_cons_app,z_nil_app,Nat.reduceAdd,Nat.reduceSub]
 simp only [ memAll,vAll,reduceCtorEq,Nat.reduceEqDiff,Nat.reduceAdd,Nat.reduceLT,Nat.reduceLeDiff,Nat.beq]
 rw [loop100 hl]
 rotate_left
 ·rfl
 ·have:=linRes_go l z0
  cases h:linRes z0 l with
  |mk t p =>
   rw [h] at this
   cases t with
   |true=>simp only [linOk,← this,memAll,vAll,reduceCtorEq,Nat.reduceEqDiff,Nat.reduceAdd,Nat.reduceLT,Nat.reduceLeDiff,Nat.beq]
   |false=>simp only [linOk,← this,memAll,vAll,reduceCtorEq,Nat.reduceEqDiff,Nat.reduceAdd,Nat.reduceLT,Nat.reduceLeDiff,Nat.beq]
end Go.Proofs.YtioijcfcehhmdaaGreatDoor.V

namespace Go.Proofs.YtioijcfcehhmdaaGreatDoor.V
structure Pt where
 site:Int
 lin:List Spn
 dirty:List Bm
 img:Img
def ePt (p:Pt):PV:=.agg [.int .i64 p.site,.list 3 (p.lin.map eSpn),.list 2 (p.dirty.map eBm),.list 1 (p.img.map eSecs)]
def bPt (p:Pt):List BV:=[.pv (.int .i64 p.site),.pv (.list 3 (p.lin.map eSpn)),.pv (.list 2 (p.dirty.map eBm)),.pv (.list 1 (p.img.map eSecs))]
theorem bPt_eq (p:Pt):bPt p=[.pv (.int .i64 p.site),.pv (.list 3 (p.lin.map eSpn)),.pv (.list 2 (p.dirty.map eBm)),.pv (.list 1 (p.img.map eSecs))]:=rfl
theorem ePt_eq (p:Pt):ePt p=.agg [.int .i64 p.site,.list 3 (p.lin.map eSpn),.list 2 (p.dirty.map eBm),.list 1 (p.img.map eSecs)]:=rfl
def fitP (p:Pt):Prop:=p.lin.length≤lim∧p.dirty.length≤lim∧p.img.length≤lim
def dirE:List Bm→Img→Int
 |b :: bs,v :: vs=>if bmE b≠0 then bmE b else if b.size≠(v.length:Int) then 22 else dirE bs vs
 |_,_=>0
def chkP (p:Pt):Int :=
 if p.site<0∨1073741824<p.site then 2
 else if linOk p.lin=false then 3
 else if imCheck p.img≠0 then imCheck p.img
 else if p.dirty.length≠p.img.length then 6
 else dirE p.dirty p.img
def resD (n:Nat) (e:Int) (bx:List Box):Option (Ex × St):=if e=0 then some (.normal,⟨sl n [(2,.any)],bx,[],none⟩) else some (.ret,⟨sl n [(2,.pv (.int .i64 e))],bx,[],none⟩)
theorem dirE_step {bs:List Bm} {vs:Img} {i:Nat} (h1:i<bs.length) (h2:i<vs.length):dirE (bs.drop i) (vs.drop i)=if bmE bs[i]≠0 then bmE bs[i] else if bs[i].size≠(vs[i].length:Int) then 22 else dirE (bs.drop (i+1)) (vs.drop (i+1)):=by
 rw [List.drop_eq_getElem_cons h1,List.drop_eq_getElem_cons h2,dirE]
theorem loop55 {p:Pt} (hl:p.dirty.length≤lim) (hq:p.dirty.length=p.img.length) {st:St} (h:st.head [1,4] st.boxes.length=some ⟨sl 60 [(1,.pbox 0 0),(4,.pv (.int .i64 (0:Nat)))],[⟨false,bPt p⟩],[],none⟩) :
  den env fn55_l1 st=resD 60 (dirE (p.dirty.drop ((0:Nat))) (p.img.drop ((0:Nat)))) [⟨false,bPt p⟩]:=by
 unfold fn55_l1
 refine clean_up (env:=env) (nb:=1) (p.dirty.length) (fun i=>⟨sl 60 [(1,.pbox 0 0),(4,.pv (.int .i64 i))],[⟨false,bPt p⟩],[],none⟩) (fun i=>resD 60 (dirE (p.dirty.drop (i)) (p.img.drop (i))) [⟨false,bPt p⟩]) h (fun _=>rfl) (fun _=>by simp only [slAll,slsAll,Nat.reduceMul,Nat.reduceBEq,Nat.reduceLT,Nat.reduceLeDiff,Nat.reduceAdd,decide_true,Bool.and_self,Bool.true_and]) ?_ ?_
 ·intro i rb hi ih
  have hi1:=i64_next hi hl
  have hj:i<p.img.length:=by omega
  have F1:((i:Int)<(p.dirty.length:Int))=True:=eq_true (by omega)
  have P2:∀ a b:PV,part [a,b] 0 (some 2)=some (.agg [a,b]):=fun _ _=>rfl
  have eA:∀ b:Bm,eBm b=.agg [.int .i64 b.size,.list 1 (b.ws.map eW)]:=fun _=>rfl
  have eV:∀ v:List Sec,eSecs v=.list 8 (v.map eSec):=fun _=>rfl
  have hx:(p.dirty.map eBm)[i]?=some (eBm p.dirty[i]):=by rw [List.getElem?_map,List.getElem?_eq_getElem hi];rfl
  have hy:(p.img.map eSecs)[i]?=some (eSecs p.img[i]):=by rw [List.getElem?_map,List.getElem?_eq_getElem hj];rfl
  have e1:=cal102 (b:=p.dirty[i])
  have hD:=dirE_step hi hj
  rw [eA] at hx e1
  rw [eV] at hy
  by_cases c1:bmE p.dirty[i]=0
  ·have G1:((0:Int) != 0)=false:=rfl
   rw [c1] at e1
   rw [if_neg (show ¬ bmE p.dirty[i]≠0 from fun h=>h c1)] at hD
   by_cases c2:p.dirty[i].size=(p.img[i].length:Int)
   ·have G2:(p.dirty[i].size != (p.img[i].length:Int))=false:=by simpa using c2
    rw [if_neg (show ¬ p.dirty[i].size≠(p.img[i].length:Int) from fun h=>h c2)] at hD
    rw [hD]
    simp only [fn55_b0,F1,hx,hy,e1,P2,G1,G2,bPt_eq,index_nat hi,index_nat hj,List.length_map,slAll,slsAll,Nat.reduceMul,Nat.reduceBEq,Nat.reduceLT,Nat.reduceLeDiff,memAll,vAll,reduceCtorEq,Nat.reduceEqDiff,Nat.reduceAdd,Nat.reduceLT,Nat.reduceLeDiff,Nat.beq]
    rw [ih _ (by simp only [hi1,bPt_eq,slAll,slsAll,Nat.reduceMul,Nat.reduceBEq,Nat.reduceLT,Nat.reduceLeDiff,memAll,vAll,reduceCtorEq,Nat.reduceEqDiff,Nat.reduceAdd,Nat.reduceLT,Nat.reduceLeDiff,Nat.beq]<;>rfl)]
    all_goals rfl
   ·have G2:(p.dirty[i].size != (p.img[i].length:Int))=true:=by simpa using c2
    rw [if_pos c2] at hD
    rw [hD]
    unfold resD
    rw [if_neg (by decide)]
    simp only [fn55_b0,F1,hx,hy,e1,P2,G1,G2,bPt_eq,index_nat hi,index_nat hj,List.length_map,slAll,slsAll,Nat.reduceMul,Nat.reduceBEq,Nat.reduceLT,Nat.reduceLeDiff,memAll,vAll,reduceCtorEq,Nat.reduceEqDiff,Nat.reduceAdd,Nat.reduceLT,Nat.reduceLeDiff,Nat.beq]
  ·have G1:(bmE p.dirty[i] != 0)=true:=by simpa using c1
   rw [if_pos c1] at hD
   rw [hD]
   unfold resD
   rw [if_neg c1]
   simp only [fn55_b0,F1,hx,hy,e1,P2,G1,bPt_eq,index_nat hi,index_nat hj,List.length_map,slAll,slsAll,Nat.reduceMul,Nat.reduceBEq,Nat.reduceLT,Nat.reduceLeDiff,memAll,vAll,reduceCtorEq,Nat.reduceEqDiff,Nat.reduceAdd,Nat.reduceLT,Nat.reduceLeDiff,Nat.beq]
 ·intro rb
  rw [List.drop_length,hq,List.drop_length]
  unfold dirE resD
  rw [if_pos rfl]
  simp only [fn55_b0,Int.lt_irrefl,bPt_eq,hq,List.length_map,slAll,slsAll,Nat.reduceMul,Nat.reduceBEq,Nat.reduceLT,Nat.reduceLeDiff,memAll,vAll,reduceCtorEq,Nat.reduceEqDiff,Nat.reduceAdd,Nat.reduceLT,Nat.reduceLeDiff,Nat.beq]
theorem cal55 {p:Pt} (h:fitP p):cal env 55 [ePt p]=some [(.int .i64 (chkP p),false)]:=by
 obtain ⟨h1,h2,h3⟩:=h
 have e1:=cal100 (l:=p.lin) h1
 have e2:=cal101 (im:=p.img) h3
 have Z:((0:Int) != 0)=false:=rfl
 unfold chkP
 rw [ePt_eq]
 by_cases c1:p.site<0
 ·have G1:(p.site<0)=True:=eq_true c1
  rw [if_pos (.inl c1)]
  rw [cal_code env55 rfl];simp only [fn55,slAll,Nat.reduceBEq,Nat.reduceLeDiff,Nat.reduceAdd,List.length_cons,List.length_nil]
  simp only [G1,slAll,slsAll,Nat.reduceMul,Nat.reduceBEq,Nat.reduceLT,Nat.reduceLeDiff,memAll,vAll,reduceCtorEq,Nat.reduceEqDiff,Nat.reduceAdd,Nat.reduceLT,Nat.reduceLeDiff,Nat.beq]
 ·have G1:(p.site<0)=False:=eq_false c1
  by_cases c2:p.site > 1073741824
  ·have G2:(p.site > 1073741824)=True:=eq_true c2
   rw [if_pos (.inr c2)]
   rw [cal_code env55 rfl];simp only [fn55,slAll,Nat.reduceBEq,Nat.reduceLeDiff,Nat.reduceAdd,List.length_cons,List.length_nil]
   simp only [G1,G2,slAll,slsAll,Nat.reduceMul,Nat.reduceBEq,Nat.reduceLT,Nat.reduceLeDiff,memAll,vAll,reduceCtorEq,Nat.reduceEqDiff,Nat.reduceAdd,Nat.reduceLT,Nat.reduceLeDiff,Nat.beq]
  ·have G2:(p.site > 1073741824)=False:=eq_false c2
   rw [if_neg (by omega)]
   cases c3:linOk p.lin with
   |false =>
    rw [c3] at e1
    rw [if_pos rfl]
    rw [cal_code env55 rfl];simp only [fn55,slAll,Nat.reduceBEq,Nat.reduceLeDiff,Nat.reduceAdd,List.length_cons,List.length_nil]
    simp only [G1,G2,e1,slAll,slsAll,Nat.reduceMul,Nat.reduceBEq,Nat.reduceLT,Nat.reduceLeDiff,memAll,vAll,reduceCtorEq,Nat.reduceEqDiff,Nat.reduceAdd,Nat.reduceLT,Nat.reduceLeDiff,Nat.beq]
   |true =>
    rw [c3] at e1
    rw [if_neg (by decide)]
    by_cases c4:imCheck p.img=0
    ·rw [c4] at e2
     rw [if_neg (by rw [c4];decide)]
     by_cases c5:p.dirty.length=p.img.length
     ·have G5:((p.dirty.length:Int) != (p.img.length:Int))=false:=by simp [c5]
      rw [if_neg (by simpa using c5)]
      rw [cal_code env55 rfl];simp only [fn55,slAll,Nat.reduceBEq,Nat.reduceLeDiff,Nat.reduceAdd,List.length_cons,List.length_nil]
      simp only [G1,G2,e1,e2,Z,G5,List.length_map,slAll,slsAll,Nat.reduceMul,Nat.reduceBEq,Nat.reduceLT,Nat.reduceLeDiff,memAll,vAll,reduceCtorEq,Nat.reduceEqDiff,Nat.reduceAdd,Nat.reduceLT,Nat.reduceLeDiff,Nat.beq]
      rw [loop55 (p:=p) h2 c5]
      rotate_left
      ·rw [bPt_eq]
       simp only [slAll,slsAll,Nat.reduceMul,Nat.reduceBEq,Nat.reduceLT,Nat.reduceLeDiff,Nat.reduceAdd,decide_true,Bool.and_self,Bool.true_and]<;>rfl
      ·rw [List.drop_zero,List.drop_zero]
       unfold resD
       split
       ·rename_i c6
        rw [c6]
        simp only [G1,G2,e1,e2,Z,G5,List.length_map,slAll,slsAll,Nat.reduceMul,Nat.reduceBEq,Nat.reduceLT,Nat.reduceLeDiff,memAll,vAll,reduceCtorEq,Nat.reduceEqDiff,Nat.reduceAdd,Nat.reduceLT,Nat.reduceLeDiff,Nat.beq]
       ·simp only [G1,G2,e1,e2,Z,G5,List.length_map,slAll,slsAll,Nat.reduceMul,Nat.reduceBEq,Nat.reduceLT,Nat.reduceLeDiff,memAll,vAll,reduceCtorEq,Nat.reduceEqDiff,Nat.reduceAdd,Nat.reduceLT,Nat.reduceLeDiff,Nat.beq]
     ·have G5:((p.dirty.length:Int) != (p.img.length:Int))=true:=by simp;omega
      rw [if_pos c5]
      rw [cal_code env55 rfl];simp only [fn55,slAll,Nat.reduceBEq,Nat.reduceLeDiff,Nat.reduceAdd,List.length_cons,List.length_nil]
      simp only [G1,G2,e1,e2,Z,G5,List.length_map,slAll,slsAll,Nat.reduceMul,Nat.reduceBEq,Nat.reduceLT,Nat.reduceLeDiff,memAll,vAll,reduceCtorEq,Nat.reduceEqDiff,Nat.reduceAdd,Nat.reduceLT,Nat.reduceLeDiff,Nat.beq]
    ·have G4:(imCheck p.img != 0)=true:=by simpa using c4
     rw [if_pos c4]
     rw [cal_code env55 rfl];simp only [fn55,slAll,Nat.reduceBEq,Nat.reduceLeDiff,Nat.reduceAdd,List.length_cons,List.length_nil]
     simp only [G1,G2,e1,e2,G4,List.length_map,slAll,slsAll,Nat.reduceMul,Nat.reduceBEq,Nat.reduceLT,Nat.reduceLeDiff,memAll,vAll,reduceCtorEq,Nat.reduceEqDiff,Nat.reduceAdd,Nat.reduceLT,Nat.reduceLeDiff,Nat.beq]
theorem loop50 {p:Pt} (hl:p.dirty.length≤lim) (hq:p.dirty.length=p.img.length) {st:St} (h:st.head [1,31,32,33] st.boxes.length=some ⟨sl 53 [(1,.pbox 0 0),(31,.pv (.list 2 (p.dirty.map eBm))),(32,.pv (.int .i64 p.dirty.length)),(33,.pv (.int .i64 (0:Nat)))],[⟨false,bPt p⟩],[],none⟩) :
  den env fn50_l1 st=resD 53 (dirE (p.dirty.drop ((0:Nat))) (p.img.drop ((0:Nat)))) [⟨false,bPt p⟩]:=by
 unfold fn50_l1
 refine clean_up (env:=env) (nb:=1) (p.dirty.length) (fun i=>⟨sl 53 [(1,.pbox 0 0),(31,.pv (.list 2 (p.dirty.map eBm))),(32,.pv (.int .i64 p.dirty.length)),(33,.pv (.int .i64 i))],[⟨false,bPt p⟩],[],none⟩) (fun i=>resD 53 (dirE (p.dirty.drop (i)) (p.img.drop (i))) [⟨false,bPt p⟩]) h (fun _=>rfl) (fun _=>by simp only [slAll,slsAll,Nat.reduceMul,Nat.reduceBEq,Nat.reduceLT,Nat.reduceLeDiff,Nat.reduceAdd,decide_true,Bool.and_self,Bool.true_and]) ?_ ?_
 ·intro i rb hi ih
  have hi1:=i64_next hi hl
  have hj:i<p.img.length:=by omega
  have F1:((i:Int)<(p.dirty.length:Int))=True:=eq_true (by omega)
  have P2:∀ a b:PV,part [a,b] 0 (some 2)=some (.agg [a,b]):=fun _ _=>rfl
  have eA:∀ b:Bm,eBm b=.agg [.int .i64 b.size,.list 1 (b.ws.map eW)]:=fun _=>rfl
  have eV:∀ v:List Sec,eSecs v=.list 8 (v.map eSec):=fun _=>rfl
  have hx:(p.dirty.map eBm)[i]?=some (eBm p.dirty[i]):=by rw [List.getElem?_map,List.getElem?_eq_getElem hi];rfl
  have hy:(p.img.map eSecs)[i]?=some (eSecs p.img[i]):=by rw [List.getElem?_map,List.getElem?_eq_getElem hj];rfl
  have e1:=cal90 (b:=p.dirty[i])
  have hD:=dirE_step hi hj
  rw [eA] at hx e1
  rw [eV] at hy
  by_cases c1:bmE p.dirty[i]=0
  ·have G1:((0:Int) != 0)=false:=rfl
   rw [c1] at e1
   rw [if_neg (show ¬ bmE p.dirty[i]≠0 from fun h=>h c1)] at hD
   by_cases c2:p.dirty[i].size=(p.img[i].length:Int)
   ·have G2:(p.dirty[i].size != (p.img[i].length:Int))=false:=by simpa using c2
    rw [if_neg (show ¬ p.dirty[i].size≠(p.img[i].length:Int) from fun h=>h c2)] at hD
    rw [hD]
    simp only [fn50_b0,F1,hx,hy,e1,P2,G1,G2,bPt_eq,index_nat hi,index_nat hj,List.length_map,slAll,slsAll,Nat.reduceMul,Nat.reduceBEq,Nat.reduceLT,Nat.reduceLeDiff,memAll,vAll,reduceCtorEq,Nat.reduceEqDiff,Nat.reduceAdd,Nat.reduceLT,Nat.reduceLeDiff,Nat.beq]
    rw [ih _ (by simp only [hi1,bPt_eq,slAll,slsAll,Nat.reduceMul,Nat.reduceBEq,Nat.reduceLT,Nat.reduceLeDiff,memAll,vAll,reduceCtorEq,Nat.reduceEqDiff,Nat.reduceAdd,Nat.reduceLT,Nat.reduceLeDiff,Nat.beq]<;>rfl)]
    all_goals rfl
   ·have G2:(p.dirty[i].size != (p.img[i].length:Int))=true:=by simpa using c2
    rw [if_pos c2] at hD
    rw [hD]
    unfold resD
    rw [if_neg (by decide)]
    simp only [fn50_b0,F1,hx,hy,e1,P2,G1,G2,bPt_eq,index_nat hi,index_nat hj,List.length_map,slAll,slsAll,Nat.reduceMul,Nat.reduceBEq,Nat.reduceLT,Nat.reduceLeDiff,memAll,vAll,reduceCtorEq,Nat.reduceEqDiff,Nat.reduceAdd,Nat.reduceLT,Nat.reduceLeDiff,Nat.beq]
  ·have G1:(bmE p.dirty[i] != 0)=true:=by simpa using c1
   rw [if_pos c1] at hD
   rw [hD]
   unfold resD
   rw [if_neg c1]
   simp only [fn50_b0,F1,hx,hy,e1,P2,G1,bPt_eq,index_nat hi,index_nat hj,List.length_map,slAll,slsAll,Nat.reduceMul,Nat.reduceBEq,Nat.reduceLT,Nat.reduceLeDiff,memAll,vAll,reduceCtorEq,Nat.reduceEqDiff,Nat.reduceAdd,Nat.reduceLT,Nat.reduceLeDiff,Nat.beq]
 ·intro rb
  rw [List.drop_length,hq,List.drop_length]
  unfold dirE resD
  rw [if_pos rfl]
  simp only [fn50_b0,Int.lt_irrefl,bPt_eq,hq,List.length_map,slAll,slsAll,Nat.reduceMul,Nat.reduceBEq,Nat.reduceLT,Nat.reduceLeDiff,memAll,vAll,reduceCtorEq,Nat.reduceEqDiff,Nat.reduceAdd,Nat.reduceLT,Nat.reduceLeDiff,Nat.beq]
theorem cal50 {p:Pt} (h:fitP p):cal env 50 [ePt p]=some [(.int .i64 (chkP p),false)]:=by
 obtain ⟨h1,h2,h3⟩:=h
 have e0:=cal92 (n:=p.site) (low:=0)
 have e1:=cal93 (l:=p.lin) h1
 have e2:=cal85 (im:=p.img) h3
 have Z:((0:Int) != 0)=false:=rfl
 unfold chkP
 rw [ePt_eq]
 by_cases c1:p.site<0∨1073741824<p.site
 ·have G1:(decide (p.site ≥ 0)&&decide (p.site≤1073741824))=false:=by simp;omega
  rw [G1] at e0
  rw [if_pos c1]
  rw [cal_code env50 rfl];simp only [fn50,slAll,Nat.reduceBEq,Nat.reduceLeDiff,Nat.reduceAdd,List.length_cons,List.length_nil]
  simp only [e0,slAll,slsAll,Nat.reduceMul,Nat.reduceBEq,Nat.reduceLT,Nat.reduceLeDiff,memAll,vAll,reduceCtorEq,Nat.reduceEqDiff,Nat.reduceAdd,Nat.reduceLT,Nat.reduceLeDiff,Nat.beq]
 ·have G1:(decide (p.site ≥ 0)&&decide (p.site≤1073741824))=true:=by simp;omega
  rw [G1] at e0
  rw [if_neg c1]
  cases c3:linOk p.lin with
  |false =>
   rw [c3] at e1
   rw [if_pos rfl]
   rw [cal_code env50 rfl];simp only [fn50,slAll,Nat.reduceBEq,Nat.reduceLeDiff,Nat.reduceAdd,List.length_cons,List.length_nil]
   simp only [e0,e1,slAll,slsAll,Nat.reduceMul,Nat.reduceBEq,Nat.reduceLT,Nat.reduceLeDiff,memAll,vAll,reduceCtorEq,Nat.reduceEqDiff,Nat.reduceAdd,Nat.reduceLT,Nat.reduceLeDiff,Nat.beq]
  |true =>
   rw [c3] at e1
   rw [if_neg (by decide)]
   by_cases c4:imCheck p.img=0
   ·rw [c4] at e2
    rw [if_neg (by rw [c4];decide)]
    by_cases c5:p.dirty.length=p.img.length
    ·have G5:((p.dirty.length:Int) != (p.img.length:Int))=false:=by simp [c5]
     rw [if_neg (by simpa using c5)]
     rw [cal_code env50 rfl];simp only [fn50,slAll,Nat.reduceBEq,Nat.reduceLeDiff,Nat.reduceAdd,List.length_cons,List.length_nil]
     simp only [e0,e1,e2,Z,G5,List.length_map,slAll,slsAll,Nat.reduceMul,Nat.reduceBEq,Nat.reduceLT,Nat.reduceLeDiff,memAll,vAll,reduceCtorEq,Nat.reduceEqDiff,Nat.reduceAdd,Nat.reduceLT,Nat.reduceLeDiff,Nat.beq]
     rw [loop50 (p:=p) h2 c5]
     rotate_left
     ·rw [bPt_eq]
      simp only [slAll,slsAll,Nat.reduceMul,Nat.reduceBEq,Nat.reduceLT,Nat.reduceLeDiff,Nat.reduceAdd,decide_true,Bool.and_self,Bool.true_and]<;>rfl
     ·rw [List.drop_zero,List.drop_zero]
      unfold resD
      split
      ·rename_i c6
       rw [c6]
       simp only [e0,e1,e2,Z,G5,List.length_map,slAll,slsAll,Nat.reduceMul,Nat.reduceBEq,Nat.reduceLT,Nat.reduceLeDiff,memAll,vAll,reduceCtorEq,Nat.reduceEqDiff,Nat.reduceAdd,Nat.reduceLT,Nat.reduceLeDiff,Nat.beq]
      ·simp only [e0,e1,e2,Z,G5,List.length_map,slAll,slsAll,Nat.reduceMul,Nat.reduceBEq,Nat.reduceLT,Nat.reduceLeDiff,memAll,vAll,reduceCtorEq,Nat.reduceEqDiff,Nat.reduceAdd,Nat.reduceLT,Nat.reduceLeDiff,Nat.beq]
    ·have G5:((p.dirty.length:Int) != (p.img.length:Int))=true:=by simp;omega
     rw [if_pos c5]
     rw [cal_code env50 rfl];simp only [fn50,slAll,Nat.reduceBEq,Nat.reduceLeDiff,Nat.reduceAdd,List.length_cons,List.length_nil]
     simp only [e0,e1,e2,Z,G5,List.length_map,slAll,slsAll,Nat.reduceMul,Nat.reduceBEq,Nat.reduceLT,Nat.reduceLeDiff,memAll,vAll,reduceCtorEq,Nat.reduceEqDiff,Nat.reduceAdd,Nat.reduceLT,Nat.reduceLeDiff,Nat.beq]
   ·have G4:(imCheck p.img != 0)=true:=by simpa using c4
    rw [if_pos c4]
    rw [cal_code env50 rfl];simp only [fn50,slAll,Nat.reduceBEq,Nat.reduceLeDiff,Nat.reduceAdd,List.length_cons,List.length_nil]
    simp only [e0,e1,e2,G4,List.length_map,slAll,slsAll,Nat.reduceMul,Nat.reduceBEq,Nat.reduceLT,Nat.reduceLeDiff,memAll,vAll,reduceCtorEq,Nat.reduceEqDiff,Nat.reduceAdd,Nat.reduceLT,Nat.reduceLeDiff,Nat.beq]
end Go.Proofs.YtioijcfcehhmdaaGreatDoor.V

namespace Go.Proofs.YtioijcfcehhmdaaGreatDoor.V
end Go.Proofs.YtioijcfcehhmdaaGreatDoor.V

namespace Go.Proofs.YtioijcfcehhmdaaGreatDoor.V
end Go.Proofs.YtioijcfcehhmdaaGreatDoor.V

namespace Go.Proofs.YtioijcfcehhmdaaGreatDoor.V
end Go.Proofs.YtioijcfcehhmdaaGreatDoor.V

namespace Go.Proofs.YtioijcfcehhmdaaGreatDoor.V
end Go.Proofs.YtioijcfcehhmdaaGreatDoor.V

namespace Go.Proofs.YtioijcfcehhmdaaGreatDoor.V
def bmN (b:Bm) (n:Nat):List Nat:=(List.range n).filter (bit b.ws)
theorem bmN_succ (b:Bm) (n:Nat):bmN b (n+1)=if bit b.ws n then bmN b n++[n] else bmN b n:=by
 unfold bmN
 rw [List.range_succ,List.filter_append]
 cases h:bit b.ws n<;>simp [h]
theorem bmN_lt {b:Bm} {n i:Nat} (h:i∈bmN b n):i<n:=by
 simp only [bmN,List.mem_filter,List.mem_range] at h;exact h.1
theorem bmN_len (b:Bm) (n:Nat):(bmN b n).length≤n:=by
 have:=List.length_filter_le (bit b.ws) (List.range n);simpa [bmN] using this
theorem loop57 {b:Bm} {n:Nat} (hs:b.size=(n:Int)) (hn:n≤4096) (hw:n≤64 * b.ws.length) {st:St} (h:st.head [1,3,4,53] st.boxes.length=some ⟨[.any,.pbox 0 0,.any,.row 2 ((exts (bmN b (0:Nat))).map eExt),.pv (.int .i64 (0:Nat)),.any,.any,.any,.any,.any,.any,.any,.any,.any,.any,.any,.any,.any,.any,.any,.any,.any,.any,.any,.any,.any,.any,.any,.any,.any,.any,.any,.any,.any,.any,.any,.any,.any,.any,.any,.any,.any,.any,.any,.any,.any,.any,.any,.any,.any,.any,.any,.any,.any,.any],[⟨false,[.pv (.int .i64 b.size),.pv (.list 1 (b.ws.map eW))]⟩],[],none⟩) :
  den env fn57_l1 st=some (.normal,⟨[.any,.any,.any,.row 2 ((exts (bmN b n)).map eExt),.any,.any,.any,.any,.any,.any,.any,.any,.any,.any,.any,.any,.any,.any,.any,.any,.any,.any,.any,.any,.any,.any,.any,.any,.any,.any,.any,.any,.any,.any,.any,.any,.any,.any,.any,.any,.any,.any,.any,.any,.any,.any,.any,.any,.any,.any,.any,.any,.any,.any,.any],[⟨false,[.pv (.int .i64 b.size),.pv (.list 1 (b.ws.map eW))]⟩],[],none⟩):=by
 unfold fn57_l1
 refine clean_up (env:=env) (n) (fun i=>⟨[.any,.pbox 0 0,.any,.row 2 ((exts (bmN b i)).map eExt),.pv (.int .i64 i),.any,.any,.any,.any,.any,.any,.any,.any,.any,.any,.any,.any,.any,.any,.any,.any,.any,.any,.any,.any,.any,.any,.any,.any,.any,.any,.any,.any,.any,.any,.any,.any,.any,.any,.any,.any,.any,.any,.any,.any,.any,.any,.any,.any,.any,.any,.any,.any,.any,.any],[⟨false,[.pv (.int .i64 b.size),.pv (.list 1 (b.ws.map eW))]⟩],[],none⟩) (fun i=>some (.normal,⟨[.any,.any,.any,.row 2 ((exts (bmN b n)).map eExt),.any,.any,.any,.any,.any,.any,.any,.any,.any,.any,.any,.any,.any,.any,.any,.any,.any,.any,.any,.any,.any,.any,.any,.any,.any,.any,.any,.any,.any,.any,.any,.any,.any,.any,.any,.any,.any,.any,.any,.any,.any,.any,.any,.any,.any,.any,.any,.any,.any,.any,.any],[⟨false,[.pv (.int .i64 b.size),.pv (.list 1 (b.ws.map eW))]⟩],[],none⟩)) h (fun _=>rfl) (fun _=>rfl) ?_ ?_
 ·intro i rb hi ih
  have hi1:=i64_next hi (by unfold lim;omega)
  have hlim:lim=1073741824:=rfl
  have F1:((i:Int)<b.size)=True:=eq_true (by omega)
  have e1:=cal103 (b:=b) (i:=i) (by omega) (by omega)
  have P2:part [PV.int .i64 b.size,.list 1 (b.ws.map eW)] 0 (some 2)=some (.agg [PV.int .i64 b.size,.list 1 (b.ws.map eW)]):=rfl
  unfold eBm at e1
  cases c:bit b.ws i with
  |false =>
   rw [c] at e1
   simp only [fn57_b0,F1,e1,P2,memAll,vAll,reduceCtorEq,Nat.reduceEqDiff,Nat.reduceAdd,Nat.reduceLT,Nat.reduceLeDiff,Nat.beq]
   rw [ih _ (by simp only [hi1];rw [bmN_succ,if_neg (by rw [c];decide)];rfl)]
  |true =>
   rw [c] at e1
   rcases snoc_cases (bmN b i) with h0|⟨p,j,h0⟩
   ·have e0:exts (bmN b i)=[]:=by rw [h0];rfl
    have F2:(((0:Nat):Int) > 0)=False:=eq_false (by omega)
    have F3:(0+1≤lim)=True:=eq_true (by unfold lim;omega)
    simp only [fn57_b0,F1,e1,P2,e0,eExt,List.map_nil,F2,F3,memAll,vAll,reduceCtorEq,Nat.reduceEqDiff,Nat.reduceAdd,Nat.reduceLT,Nat.reduceLeDiff,Nat.beq]
    rw [ih _ (by simp only [hi1];rw [bmN_succ,if_pos c,exts_snoc,e0];rfl)]
   ·obtain ⟨pre,⟨s,q⟩,e0,h1,h2,h3,h4⟩:=exts_last _ p rfl j
    rw [← h0] at e0
    have hji:j<i:=bmN_lt (show j∈bmN b i by rw [h0];simp)
    have hpl:p.length+1≤i:=by have:=bmN_len b i;rw [h0] at this;simpa using this
    simp only at h1 h2 h3
    have F2:(((pre.length+1:Nat):Int) > 0)=True:=eq_true (by omega)
    have F3:=wrap_pred (n:=pre.length) (by omega)
    have F4:IntKind.i64.wrap (s+q)=s+q:=i64_fits (by omega)
    have F5:IntKind.i64.wrap (q+1)=q+1:=i64_fits (by omega)
    have F6:(pre.length+1+1≤lim)=True:=eq_true (by omega)
    have F7:index (.int .i64 (pre.length:Int)) (pre.length+1)=some pre.length:=index_nat (by omega)
    simp only [fn57_b0,F1,e1,P2,e0,List.map_append,List.map_cons,List.map_nil,eExt,F2,F3,F4,F5,F6,F7,memAll,vAll,reduceCtorEq,Nat.reduceEqDiff,Nat.reduceAdd,Nat.reduceLT,Nat.reduceLeDiff,Nat.beq]
    (try simp only [bcase_bind,bcase_map,tail_bcase]);refine bcase_split (fun hb=>?_) (fun hb=>?_)<;>try simp only [hb,eExt,memAll,vAll,reduceCtorEq,Nat.reduceEqDiff,Nat.reduceAdd,Nat.reduceLT,Nat.reduceLeDiff,Nat.beq]
    ·rw [ih _ (by simp only [hi1];rw [bmN_succ,if_pos c,exts_snoc,e0,addAt_snoc,if_pos (by simpa using hb)];simp only [List.map_append,List.map_cons,List.map_nil,eExt];rfl)]
    ·rw [ih _ (by simp only [hi1];rw [bmN_succ,if_pos c,exts_snoc,e0,addAt_snoc,if_neg (by simpa using hb)];simp only [List.map_append,List.map_cons,List.map_nil,eExt];rfl)]
 ·intro rb
  have F1:((n:Int)<b.size)=False:=eq_false (by omega)
  simp only [fn57_b0,F1,memAll,vAll,reduceCtorEq,Nat.reduceEqDiff,Nat.reduceAdd,Nat.reduceLT,Nat.reduceLeDiff,Nat.beq]
  rfl
theorem cal57 {b:Bm}:cal env 57 [eBm b]=some [(.list 2 ((bmX b).map eExt),true)]:=by
 have e1:=cal102 (b:=b)
 have eA:∀ a:Bm,eBm a=.agg [.int .i64 a.size,.list 1 (a.ws.map eW)]:=fun _=>rfl
 unfold bmX
 cases c:okB b with
 |false =>
  rw [bmE_no c] at e1
  rw [if_neg Bool.false_ne_true]
  rw [eA] at e1 ⊢
  have Z3:((3:Int) != 0)=true:=rfl
  rw [cal_code env57 rfl];simp only [fn57];simp only [start,z_map_cons,z_map_nil,z_len_cons,z_len_nil,z_repl_zero,z_repl_succ,z_cons_app,z_nil_app,Nat.reduceAdd,Nat.reduceSub]
  simp only [e1,Z3,List.map_nil,memAll,vAll,reduceCtorEq,Nat.reduceEqDiff,Nat.reduceAdd,Nat.reduceLT,Nat.reduceLeDiff,Nat.beq]
 |true =>
  rw [bmE_ok c] at e1
  rw [if_pos rfl]
  rw [eA] at e1 ⊢
  have Z0:((0:Int) != 0)=false:=rfl
  obtain ⟨h1,h2,h3,h4,h5⟩:=okB_size c
  rw [cal_code env57 rfl];simp only [fn57];simp only [start,z_map_cons,z_map_nil,z_len_cons,z_len_nil,z_repl_zero,z_repl_succ,z_cons_app,z_nil_app,Nat.reduceAdd,Nat.reduceSub]
  simp only [e1,Z0,List.map_nil,memAll,vAll,reduceCtorEq,Nat.reduceEqDiff,Nat.reduceAdd,Nat.reduceLT,Nat.reduceLeDiff,Nat.beq]
  rw [loop57 (b:=b) (n:=b.size.toNat) (by omega) (by omega) (by omega)]
  rotate_left
  ·rfl
  ·simp only [e1,Z0,List.map_nil,memAll,vAll,reduceCtorEq,Nat.reduceEqDiff,Nat.reduceAdd,Nat.reduceLT,Nat.reduceLeDiff,Nat.beq]
   rfl
end Go.Proofs.YtioijcfcehhmdaaGreatDoor.V

namespace Go.Proofs.YtioijcfcehhmdaaGreatDoor.V
theorem dirE_all:∀ {bs:List Bm} {vs:Img},dirE bs vs=0→∀ i (h1:i<bs.length) (h2:i<vs.length),okB bs[i]=true∧bs[i].size=(vs[i].length:Int)
 |[],_,_,i,h1,_=>absurd h1 (Nat.not_lt_zero _)
 |_ :: _,[],_,i,_,h2=>absurd h2 (Nat.not_lt_zero _)
 |b :: bs,v :: vs,h,i,h1,h2=>by
  unfold dirE at h
  split at h
  ·rename_i c;exact absurd h c
  ·rename_i c
   split at h
   ·cases h
   ·rename_i c2
    match i with
    |0 =>
     refine ⟨?_,by simpa using c2⟩
     cases hb:okB b with
     |true=>exact hb
     |false=>unfold bmE at c;rw [hb] at c;exact absurd (by decide) c
    |i+1=>exact dirE_all h i (by simpa using h1) (by simpa using h2)
theorem chkP_ok {p:Pt} (h:chkP p=0):linOk p.lin=true∧imCheck p.img=0∧p.dirty.length=p.img.length∧dirE p.dirty p.img=0:=by
 unfold chkP at h
 split at h
 ·cases h
 ·split at h
  ·cases h
  ·rename_i c
   split at h
   ·rename_i c2;exact absurd h c2
   ·rename_i c2
    split at h
    ·cases h
    ·rename_i c3
     exact ⟨by simpa using c,by simpa using c2,by simpa using c3,h⟩
end Go.Proofs.YtioijcfcehhmdaaGreatDoor.V

namespace Go.Proofs.YtioijcfcehhmdaaGreatDoor.V
end Go.Proofs.YtioijcfcehhmdaaGreatDoor.V

namespace Go.Proofs.YtioijcfcehhmdaaGreatDoor.V
structure Prc where
 kind:Int
 frm:Int
 to:Int
 step:Int
 ep:Int
 cyc:Int
 done:Bool
 failed:Bool
def ePrc (p:Prc):PV:=.agg [.int .i64 p.kind,.int .i64 p.frm,.int .i64 p.to,.int .i64 p.step,.int .i64 p.ep,.int .i64 p.cyc,.bool p.done,.bool p.failed]
theorem ePrc_eq (p:Prc):ePrc p=.agg [.int .i64 p.kind,.int .i64 p.frm,.int .i64 p.to,.int .i64 p.step,.int .i64 p.ep,.int .i64 p.cyc,.bool p.done,.bool p.failed]:=rfl
def siteB (n:Int):Bool:=decide (0≤n)&&decide (n<4)
--+
theorem cal70 {n:Int}:cal env 70 [.int .i64 n]=some [(.bool (siteB n),false)]:=by
 unfold siteB
 by_cases h:0≤n
 ·have F1:(n ≥ 0)=True:=eq_true h
  have F2:(0≤n)=True:=eq_true h
  rw [cal_code env70 rfl];simp only [fn70,slAll,Nat.reduceBEq,Nat.reduceLeDiff,Nat.reduceAdd,List.length_cons,List.length_nil]
  simp only [F1,F2,slAll,slsAll,Nat.reduceMul,Nat.reduceBEq,Nat.reduceLT,Nat.reduceLeDiff,memAll,vAll,reduceCtorEq,Nat.reduceEqDiff,Nat.reduceAdd,Nat.reduceLT,Nat.reduceLeDiff,Nat.beq]
 ·have F1:(n ≥ 0)=False:=eq_false h
  have F2:(0≤n)=False:=eq_false h
  rw [cal_code env70 rfl];simp only [fn70,slAll,Nat.reduceBEq,Nat.reduceLeDiff,Nat.reduceAdd,List.length_cons,List.length_nil]
  simp only [F1,F2,slAll,slsAll,Nat.reduceMul,Nat.reduceBEq,Nat.reduceLT,Nat.reduceLeDiff,memAll,vAll,reduceCtorEq,Nat.reduceEqDiff,Nat.reduceAdd,Nat.reduceLT,Nat.reduceLeDiff,Nat.beq]
--+
theorem cal73 {n:Int}:cal env 73 [.int .i64 n]=some [(.bool (siteB n),false)]:=by
 unfold siteB
 by_cases h:0≤n
 ·have F1:(n ≥ 0)=True:=eq_true h
  have F2:(0≤n)=True:=eq_true h
  rw [cal_code env73 rfl];simp only [fn73,slAll,Nat.reduceBEq,Nat.reduceLeDiff,Nat.reduceAdd,List.length_cons,List.length_nil]
  simp only [F1,F2,slAll,slsAll,Nat.reduceMul,Nat.reduceBEq,Nat.reduceLT,Nat.reduceLeDiff,memAll,vAll,reduceCtorEq,Nat.reduceEqDiff,Nat.reduceAdd,Nat.reduceLT,Nat.reduceLeDiff,Nat.beq]
 ·have F1:(n ≥ 0)=False:=eq_false h
  have F2:(0≤n)=False:=eq_false h
  rw [cal_code env73 rfl];simp only [fn73,slAll,Nat.reduceBEq,Nat.reduceLeDiff,Nat.reduceAdd,List.length_cons,List.length_nil]
  simp only [F1,F2,slAll,slsAll,Nat.reduceMul,Nat.reduceBEq,Nat.reduceLT,Nat.reduceLeDiff,memAll,vAll,reduceCtorEq,Nat.reduceEqDiff,Nat.reduceAdd,Nat.reduceLT,Nat.reduceLeDiff,Nat.beq]
theorem demT51 (n:Int):thrown env 51 [.bool true,.int .i64 n]=some none:=thrown_thr env51
theorem demF51 (n:Int):thrown env 51 [.bool false,.int .i64 n]=some (some (148,n)):=thrown_thr env51
theorem cal51 (n:Int):cal env 51 [.bool true,.int .i64 n]=some []:=cal_thr env51 rfl
theorem okT49:thrown env 49 [.int .i64 0]=some none:=by
 have d1:=demT51
 have d2:=cal51
 have F1:((0:Int)==0)=true:=rfl
 rw [thrown_code env49 rfl rfl];simp only [fn49,slAll,Nat.reduceBEq,Nat.reduceLeDiff,Nat.reduceAdd,List.length_cons,List.length_nil]
 simp only [d1,d2,F1,slAll,slsAll,Nat.reduceMul,Nat.reduceBEq,Nat.reduceLT,Nat.reduceLeDiff,memAll,vAll,reduceCtorEq,Nat.reduceEqDiff,Nat.reduceAdd,Nat.reduceLT,Nat.reduceLeDiff,Nat.beq]
theorem okF49 {e:Int} (h:e≠0):thrown env 49 [.int .i64 e]=some (some (148,e)):=by
 have d1:=demF51
 have F1:(e==0)=false:=by simp [h]
 rw [thrown_code env49 rfl rfl];simp only [fn49,slAll,Nat.reduceBEq,Nat.reduceLeDiff,Nat.reduceAdd,List.length_cons,List.length_nil]
 simp only [d1,F1,slAll,slsAll,Nat.reduceMul,Nat.reduceBEq,Nat.reduceLT,Nat.reduceLeDiff,memAll,vAll,reduceCtorEq,Nat.reduceEqDiff,Nat.reduceAdd,Nat.reduceLT,Nat.reduceLeDiff,Nat.beq]
theorem cal49:cal env 49 [.int .i64 0]=some []:=by
 have d1:=demT51
 have d2:=cal51
 have F1:((0:Int)==0)=true:=rfl
 rw [cal_code env49 rfl];simp only [fn49,slAll,Nat.reduceBEq,Nat.reduceLeDiff,Nat.reduceAdd,List.length_cons,List.length_nil]
 simp only [d1,d2,F1,slAll,slsAll,Nat.reduceMul,Nat.reduceBEq,Nat.reduceLT,Nat.reduceLeDiff,memAll,vAll,reduceCtorEq,Nat.reduceEqDiff,Nat.reduceAdd,Nat.reduceLT,Nat.reduceLeDiff,Nat.beq]
def fmE (p:Prc):Int:=if p.kind=3 then (if siteB p.frm=true then (if siteB p.to=true then (if p.frm≠p.to then (if 0≤p.step then (if p.step≤4096 then (if 1≤p.ep then (if p.ep≤1073741824 then (if 0≤p.cyc then (if p.cyc≤1073741824 then (if p.failed=false then (if p.done=true then (if 1≤p.step then 0 else 12) else 0) else 12) else 2) else 2) else 2) else 2) else 2) else 2) else 2) else 2) else 2) else 1
set_option maxHeartbeats 2000000 in
theorem fm48 {p:Prc}:thrown env 48 [ePrc p]=some (if fmE p=0 then none else some (148,fmE p)):=by
 have d1:=demT51
 have d2:=cal51
 have d3:=demF51
 have s1:=cal70 (n:=p.frm)
 have s2:=cal70 (n:=p.to)
 rw [ePrc_eq]
 by_cases c0:p.kind=3
 rotate_left
 ·have F0_0:(p.kind==3)=false:=by first|(simp;omega)|(simp [c0])
  have F0_1:(p.kind=3)=False:=eq_false (by omega)
  have F0_2:(p.kind != 3)=true:=by first|(simp;omega)|(simp [c0])
  have hE:fmE p=1:=by unfold fmE;rw [if_neg c0]
  rw [hE,if_neg (by decide)]
  rw [thrown_code env48 rfl rfl];simp only [fn48,slAll,Nat.reduceBEq,Nat.reduceLeDiff,Nat.reduceAdd,List.length_cons,List.length_nil]
  simp only [F0_0,F0_1,F0_2,d1,d2,d3,s1,s2,slAll,slsAll,Nat.reduceMul,Nat.reduceBEq,Nat.reduceLT,Nat.reduceLeDiff,memAll,vAll,reduceCtorEq,Nat.reduceEqDiff,Nat.reduceAdd,Nat.reduceLT,Nat.reduceLeDiff,Nat.beq]
 have F0_0:(p.kind==3)=true:=by first|(simp;omega)|(simp [c0])
 have F0_1:(p.kind=3)=True:=eq_true (by omega)
 have F0_2:(p.kind != 3)=false:=by first|(simp;omega)|(simp [c0])
 by_cases c1:siteB p.frm=true
 rotate_left
 ·have F1_0:siteB p.frm=false:=by simpa using c1
  have hE:fmE p=2:=by unfold fmE;rw [if_pos c0,if_neg c1]
  rw [hE,if_neg (by decide)]
  rw [thrown_code env48 rfl rfl];simp only [fn48,slAll,Nat.reduceBEq,Nat.reduceLeDiff,Nat.reduceAdd,List.length_cons,List.length_nil]
  simp only [F0_0,F0_1,F0_2,F1_0,d1,d2,d3,s1,s2,slAll,slsAll,Nat.reduceMul,Nat.reduceBEq,Nat.reduceLT,Nat.reduceLeDiff,memAll,vAll,reduceCtorEq,Nat.reduceEqDiff,Nat.reduceAdd,Nat.reduceLT,Nat.reduceLeDiff,Nat.beq]
 have F1_0:siteB p.frm=true:=c1
 by_cases c2:siteB p.to=true
 rotate_left
 ·have F2_0:siteB p.to=false:=by simpa using c2
  have hE:fmE p=2:=by unfold fmE;rw [if_pos c0,if_pos c1,if_neg c2]
  rw [hE,if_neg (by decide)]
  rw [thrown_code env48 rfl rfl];simp only [fn48,slAll,Nat.reduceBEq,Nat.reduceLeDiff,Nat.reduceAdd,List.length_cons,List.length_nil]
  simp only [F0_0,F0_1,F0_2,F1_0,F2_0,d1,d2,d3,s1,s2,slAll,slsAll,Nat.reduceMul,Nat.reduceBEq,Nat.reduceLT,Nat.reduceLeDiff,memAll,vAll,reduceCtorEq,Nat.reduceEqDiff,Nat.reduceAdd,Nat.reduceLT,Nat.reduceLeDiff,Nat.beq]
 have F2_0:siteB p.to=true:=c2
 by_cases c3:p.frm≠p.to
 rotate_left
 ·have F3_0:(p.frm != p.to)=false:=by first|(simp;omega)|(simp [c3])
  have F3_1:(p.frm=p.to)=True:=eq_true (by omega)
  have F3_2:(p.frm==p.to)=true:=by first|(simp;omega)|(simp [c3])
  have hE:fmE p=2:=by unfold fmE;rw [if_pos c0,if_pos c1,if_pos c2,if_neg c3]
  rw [hE,if_neg (by decide)]
  rw [thrown_code env48 rfl rfl];simp only [fn48,slAll,Nat.reduceBEq,Nat.reduceLeDiff,Nat.reduceAdd,List.length_cons,List.length_nil]
  simp only [F0_0,F0_1,F0_2,F1_0,F2_0,F3_0,F3_1,F3_2,d1,d2,d3,s1,s2,slAll,slsAll,Nat.reduceMul,Nat.reduceBEq,Nat.reduceLT,Nat.reduceLeDiff,memAll,vAll,reduceCtorEq,Nat.reduceEqDiff,Nat.reduceAdd,Nat.reduceLT,Nat.reduceLeDiff,Nat.beq]
 have F3_0:(p.frm != p.to)=true:=by first|(simp;omega)|(simp [c3])
 have F3_1:(p.frm=p.to)=False:=eq_false (by omega)
 have F3_2:(p.frm==p.to)=false:=by first|(simp;omega)|(simp [c3])
 by_cases c4:0≤p.step
 rotate_left
 ·have F4_0:(p.step ≥ 0)=False:=eq_false (by omega)
  have F4_1:(0≤p.step)=False:=eq_false (by omega)
  have F4_2:(p.step<0)=True:=eq_true (by omega)
  have hE:fmE p=2:=by unfold fmE;rw [if_pos c0,if_pos c1,if_pos c2,if_pos c3,if_neg c4]
  rw [hE,if_neg (by decide)]
  rw [thrown_code env48 rfl rfl];simp only [fn48,slAll,Nat.reduceBEq,Nat.reduceLeDiff,Nat.reduceAdd,List.length_cons,List.length_nil]
  simp only [F0_0,F0_1,F0_2,F1_0,F2_0,F3_0,F3_1,F3_2,F4_0,F4_1,F4_2,d1,d2,d3,s1,s2,slAll,slsAll,Nat.reduceMul,Nat.reduceBEq,Nat.reduceLT,Nat.reduceLeDiff,memAll,vAll,reduceCtorEq,Nat.reduceEqDiff,Nat.reduceAdd,Nat.reduceLT,Nat.reduceLeDiff,Nat.beq]
 have F4_0:(p.step ≥ 0)=True:=eq_true (by omega)
 have F4_1:(0≤p.step)=True:=eq_true (by omega)
 have F4_2:(p.step<0)=False:=eq_false (by omega)
 by_cases c5:p.step≤4096
 rotate_left
 ·have F5_0:(p.step≤4096)=False:=eq_false (by omega)
  have F5_1:(p.step > 4096)=True:=eq_true (by omega)
  have hE:fmE p=2:=by unfold fmE;rw [if_pos c0,if_pos c1,if_pos c2,if_pos c3,if_pos c4,if_neg c5]
  rw [hE,if_neg (by decide)]
  rw [thrown_code env48 rfl rfl];simp only [fn48,slAll,Nat.reduceBEq,Nat.reduceLeDiff,Nat.reduceAdd,List.length_cons,List.length_nil]
  simp only [F0_0,F0_1,F0_2,F1_0,F2_0,F3_0,F3_1,F3_2,F4_0,F4_1,F4_2,F5_0,F5_1,d1,d2,d3,s1,s2,slAll,slsAll,Nat.reduceMul,Nat.reduceBEq,Nat.reduceLT,Nat.reduceLeDiff,memAll,vAll,reduceCtorEq,Nat.reduceEqDiff,Nat.reduceAdd,Nat.reduceLT,Nat.reduceLeDiff,Nat.beq]
 have F5_0:(p.step≤4096)=True:=eq_true (by omega)
 have F5_1:(p.step > 4096)=False:=eq_false (by omega)
 by_cases c6:1≤p.ep
 rotate_left
 ·have F6_0:(p.ep ≥ 1)=False:=eq_false (by omega)
  have F6_1:(1≤p.ep)=False:=eq_false (by omega)
  have F6_2:(p.ep<1)=True:=eq_true (by omega)
  have hE:fmE p=2:=by unfold fmE;rw [if_pos c0,if_pos c1,if_pos c2,if_pos c3,if_pos c4,if_pos c5,if_neg c6]
  rw [hE,if_neg (by decide)]
  rw [thrown_code env48 rfl rfl];simp only [fn48,slAll,Nat.reduceBEq,Nat.reduceLeDiff,Nat.reduceAdd,List.length_cons,List.length_nil]
  simp only [F0_0,F0_1,F0_2,F1_0,F2_0,F3_0,F3_1,F3_2,F4_0,F4_1,F4_2,F5_0,F5_1,F6_0,F6_1,F6_2,d1,d2,d3,s1,s2,slAll,slsAll,Nat.reduceMul,Nat.reduceBEq,Nat.reduceLT,Nat.reduceLeDiff,memAll,vAll,reduceCtorEq,Nat.reduceEqDiff,Nat.reduceAdd,Nat.reduceLT,Nat.reduceLeDiff,Nat.beq]
 have F6_0:(p.ep ≥ 1)=True:=eq_true (by omega)
 have F6_1:(1≤p.ep)=True:=eq_true (by omega)
 have F6_2:(p.ep<1)=False:=eq_false (by omega)
 by_cases c7:p.ep≤1073741824
 rotate_left
 ·have F7_0:(p.ep≤1073741824)=False:=eq_false (by omega)
  have F7_1:(p.ep > 1073741824)=True:=eq_true (by omega)
  have hE:fmE p=2:=by unfold fmE;rw [if_pos c0,if_pos c1,if_pos c2,if_pos c3,if_pos c4,if_pos c5,if_pos c6,if_neg c7]
  rw [hE,if_neg (by decide)]
  rw [thrown_code env48 rfl rfl];simp only [fn48,slAll,Nat.reduceBEq,Nat.reduceLeDiff,Nat.reduceAdd,List.length_cons,List.length_nil]
  simp only [F0_0,F0_1,F0_2,F1_0,F2_0,F3_0,F3_1,F3_2,F4_0,F4_1,F4_2,F5_0,F5_1,F6_0,F6_1,F6_2,F7_0,F7_1,d1,d2,d3,s1,s2,slAll,slsAll,Nat.reduceMul,Nat.reduceBEq,Nat.reduceLT,Nat.reduceLeDiff,memAll,vAll,reduceCtorEq,Nat.reduceEqDiff,Nat.reduceAdd,Nat.reduceLT,Nat.reduceLeDiff,Nat.beq]
 have F7_0:(p.ep≤1073741824)=True:=eq_true (by omega)
 have F7_1:(p.ep > 1073741824)=False:=eq_false (by omega)
 by_cases c8:0≤p.cyc
 rotate_left
 ·have F8_0:(p.cyc ≥ 0)=False:=eq_false (by omega)
  have F8_1:(0≤p.cyc)=False:=eq_false (by omega)
  have F8_2:(p.cyc<0)=True:=eq_true (by omega)
  have hE:fmE p=2:=by unfold fmE;rw [if_pos c0,if_pos c1,if_pos c2,if_pos c3,if_pos c4,if_pos c5,if_pos c6,if_pos c7,if_neg c8]
  rw [hE,if_neg (by decide)]
  rw [thrown_code env48 rfl rfl];simp only [fn48,slAll,Nat.reduceBEq,Nat.reduceLeDiff,Nat.reduceAdd,List.length_cons,List.length_nil]
  simp only [F0_0,F0_1,F0_2,F1_0,F2_0,F3_0,F3_1,F3_2,F4_0,F4_1,F4_2,F5_0,F5_1,F6_0,F6_1,F6_2,F7_0,F7_1,F8_0,F8_1,F8_2,d1,d2,d3,s1,s2,slAll,slsAll,Nat.reduceMul,Nat.reduceBEq,Nat.reduceLT,Nat.reduceLeDiff,memAll,vAll,reduceCtorEq,Nat.reduceEqDiff,Nat.reduceAdd,Nat.reduceLT,Nat.reduceLeDiff,Nat.beq]
 have F8_0:(p.cyc ≥ 0)=True:=eq_true (by omega)
 have F8_1:(0≤p.cyc)=True:=eq_true (by omega)
 have F8_2:(p.cyc<0)=False:=eq_false (by omega)
 by_cases c9:p.cyc≤1073741824
 rotate_left
 ·have F9_0:(p.cyc≤1073741824)=False:=eq_false (by omega)
  have F9_1:(p.cyc > 1073741824)=True:=eq_true (by omega)
  have hE:fmE p=2:=by unfold fmE;rw [if_pos c0,if_pos c1,if_pos c2,if_pos c3,if_pos c4,if_pos c5,if_pos c6,if_pos c7,if_pos c8,if_neg c9]
  rw [hE,if_neg (by decide)]
  rw [thrown_code env48 rfl rfl];simp only [fn48,slAll,Nat.reduceBEq,Nat.reduceLeDiff,Nat.reduceAdd,List.length_cons,List.length_nil]
  simp only [F0_0,F0_1,F0_2,F1_0,F2_0,F3_0,F3_1,F3_2,F4_0,F4_1,F4_2,F5_0,F5_1,F6_0,F6_1,F6_2,F7_0,F7_1,F8_0,F8_1,F8_2,F9_0,F9_1,d1,d2,d3,s1,s2,slAll,slsAll,Nat.reduceMul,Nat.reduceBEq,Nat.reduceLT,Nat.reduceLeDiff,memAll,vAll,reduceCtorEq,Nat.reduceEqDiff,Nat.reduceAdd,Nat.reduceLT,Nat.reduceLeDiff,Nat.beq]
 have F9_0:(p.cyc≤1073741824)=True:=eq_true (by omega)
 have F9_1:(p.cyc > 1073741824)=False:=eq_false (by omega)
 by_cases c10:p.failed=false
 rotate_left
 ·have F10_0:p.failed=true:=by simpa using c10
  have hE:fmE p=12:=by unfold fmE;rw [if_pos c0,if_pos c1,if_pos c2,if_pos c3,if_pos c4,if_pos c5,if_pos c6,if_pos c7,if_pos c8,if_pos c9,if_neg c10]
  rw [hE,if_neg (by decide)]
  rw [thrown_code env48 rfl rfl];simp only [fn48,slAll,Nat.reduceBEq,Nat.reduceLeDiff,Nat.reduceAdd,List.length_cons,List.length_nil]
  simp only [F0_0,F0_1,F0_2,F1_0,F2_0,F3_0,F3_1,F3_2,F4_0,F4_1,F4_2,F5_0,F5_1,F6_0,F6_1,F6_2,F7_0,F7_1,F8_0,F8_1,F8_2,F9_0,F9_1,F10_0,d1,d2,d3,s1,s2,slAll,slsAll,Nat.reduceMul,Nat.reduceBEq,Nat.reduceLT,Nat.reduceLeDiff,memAll,vAll,reduceCtorEq,Nat.reduceEqDiff,Nat.reduceAdd,Nat.reduceLT,Nat.reduceLeDiff,Nat.beq]
 have F10_0:p.failed=false:=c10
 by_cases c11:p.done=true
 rotate_left
 ·have F11_0:p.done=false:=by simpa using c11
  have hE:fmE p=0:=by unfold fmE;rw [if_pos c0,if_pos c1,if_pos c2,if_pos c3,if_pos c4,if_pos c5,if_pos c6,if_pos c7,if_pos c8,if_pos c9,if_pos c10,if_neg c11]
  rw [hE,if_pos rfl]
  rw [thrown_code env48 rfl rfl];simp only [fn48,slAll,Nat.reduceBEq,Nat.reduceLeDiff,Nat.reduceAdd,List.length_cons,List.length_nil]
  simp only [F0_0,F0_1,F0_2,F1_0,F2_0,F3_0,F3_1,F3_2,F4_0,F4_1,F4_2,F5_0,F5_1,F6_0,F6_1,F6_2,F7_0,F7_1,F8_0,F8_1,F8_2,F9_0,F9_1,F10_0,F11_0,d1,d2,d3,s1,s2,slAll,slsAll,Nat.reduceMul,Nat.reduceBEq,Nat.reduceLT,Nat.reduceLeDiff,memAll,vAll,reduceCtorEq,Nat.reduceEqDiff,Nat.reduceAdd,Nat.reduceLT,Nat.reduceLeDiff,Nat.beq]
 have F11_0:p.done=true:=c11
 by_cases c12:1≤p.step
 rotate_left
 ·have F12_0:(p.step ≥ 1)=False:=eq_false (by omega)
  have F12_1:(1≤p.step)=False:=eq_false (by omega)
  have F12_2:(p.step<1)=True:=eq_true (by omega)
  have hE:fmE p=12:=by unfold fmE;rw [if_pos c0,if_pos c1,if_pos c2,if_pos c3,if_pos c4,if_pos c5,if_pos c6,if_pos c7,if_pos c8,if_pos c9,if_pos c10,if_pos c11,if_neg c12]
  rw [hE,if_neg (by decide)]
  rw [thrown_code env48 rfl rfl];simp only [fn48,slAll,Nat.reduceBEq,Nat.reduceLeDiff,Nat.reduceAdd,List.length_cons,List.length_nil]
  simp only [F0_0,F0_1,F0_2,F1_0,F2_0,F3_0,F3_1,F3_2,F4_0,F4_1,F4_2,F5_0,F5_1,F6_0,F6_1,F6_2,F7_0,F7_1,F8_0,F8_1,F8_2,F9_0,F9_1,F10_0,F11_0,F12_0,F12_1,F12_2,d1,d2,d3,s1,s2,slAll,slsAll,Nat.reduceMul,Nat.reduceBEq,Nat.reduceLT,Nat.reduceLeDiff,memAll,vAll,reduceCtorEq,Nat.reduceEqDiff,Nat.reduceAdd,Nat.reduceLT,Nat.reduceLeDiff,Nat.beq]
 have F12_0:(p.step ≥ 1)=True:=eq_true (by omega)
 have F12_1:(1≤p.step)=True:=eq_true (by omega)
 have F12_2:(p.step<1)=False:=eq_false (by omega)
 have hE:fmE p=0:=by unfold fmE;rw [if_pos c0,if_pos c1,if_pos c2,if_pos c3,if_pos c4,if_pos c5,if_pos c6,if_pos c7,if_pos c8,if_pos c9,if_pos c10,if_pos c11,if_pos c12]
 rw [hE,if_pos rfl]
 rw [thrown_code env48 rfl rfl];simp only [fn48,slAll,Nat.reduceBEq,Nat.reduceLeDiff,Nat.reduceAdd,List.length_cons,List.length_nil]
 simp only [F0_0,F0_1,F0_2,F1_0,F2_0,F3_0,F3_1,F3_2,F4_0,F4_1,F4_2,F5_0,F5_1,F6_0,F6_1,F6_2,F7_0,F7_1,F8_0,F8_1,F8_2,F9_0,F9_1,F10_0,F11_0,F12_0,F12_1,F12_2,d1,d2,d3,s1,s2,slAll,slsAll,Nat.reduceMul,Nat.reduceBEq,Nat.reduceLT,Nat.reduceLeDiff,memAll,vAll,reduceCtorEq,Nat.reduceEqDiff,Nat.reduceAdd,Nat.reduceLT,Nat.reduceLeDiff,Nat.beq]
theorem cal48 {p:Prc} (h:fmE p=0):cal env 48 [ePrc p]=some []:=by
 have d1:=demT51
 have d2:=cal51
 have d3:=demF51
 have s1:=cal70 (n:=p.frm)
 have s2:=cal70 (n:=p.to)
 rw [ePrc_eq]
 by_cases c0:p.kind=3
 rotate_left
 ·have F0_0:(p.kind==3)=false:=by first|(simp;omega)|(simp [c0])
  have F0_1:(p.kind=3)=False:=eq_false (by omega)
  have F0_2:(p.kind != 3)=true:=by first|(simp;omega)|(simp [c0])
  have hE:fmE p=1:=by unfold fmE;rw [if_neg c0]
  rw [hE] at h;exact absurd h (by decide)
 have F0_0:(p.kind==3)=true:=by first|(simp;omega)|(simp [c0])
 have F0_1:(p.kind=3)=True:=eq_true (by omega)
 have F0_2:(p.kind != 3)=false:=by first|(simp;omega)|(simp [c0])
 by_cases c1:siteB p.frm=true
 rotate_left
 ·have F1_0:siteB p.frm=false:=by simpa using c1
  have hE:fmE p=2:=by unfold fmE;rw [if_pos c0,if_neg c1]
  rw [hE] at h;exact absurd h (by decide)
 have F1_0:siteB p.frm=true:=c1
 by_cases c2:siteB p.to=true
 rotate_left
 ·have F2_0:siteB p.to=false:=by simpa using c2
  have hE:fmE p=2:=by unfold fmE;rw [if_pos c0,if_pos c1,if_neg c2]
  rw [hE] at h;exact absurd h (by decide)
 have F2_0:siteB p.to=true:=c2
 by_cases c3:p.frm≠p.to
 rotate_left
 ·have F3_0:(p.frm != p.to)=false:=by first|(simp;omega)|(simp [c3])
  have F3_1:(p.frm=p.to)=True:=eq_true (by omega)
  have F3_2:(p.frm==p.to)=true:=by first|(simp;omega)|(simp [c3])
  have hE:fmE p=2:=by unfold fmE;rw [if_pos c0,if_pos c1,if_pos c2,if_neg c3]
  rw [hE] at h;exact absurd h (by decide)
 have F3_0:(p.frm != p.to)=true:=by first|(simp;omega)|(simp [c3])
 have F3_1:(p.frm=p.to)=False:=eq_false (by omega)
 have F3_2:(p.frm==p.to)=false:=by first|(simp;omega)|(simp [c3])
 by_cases c4:0≤p.step
 rotate_left
 ·have F4_0:(p.step ≥ 0)=False:=eq_false (by omega)
  have F4_1:(0≤p.step)=False:=eq_false (by omega)
  have F4_2:(p.step<0)=True:=eq_true (by omega)
  have hE:fmE p=2:=by unfold fmE;rw [if_pos c0,if_pos c1,if_pos c2,if_pos c3,if_neg c4]
  rw [hE] at h;exact absurd h (by decide)
 have F4_0:(p.step ≥ 0)=True:=eq_true (by omega)
 have F4_1:(0≤p.step)=True:=eq_true (by omega)
 have F4_2:(p.step<0)=False:=eq_false (by omega)
 by_cases c5:p.step≤4096
 rotate_left
 ·have F5_0:(p.step≤4096)=False:=eq_false (by omega)
  have F5_1:(p.step > 4096)=True:=eq_true (by omega)
  have hE:fmE p=2:=by unfold fmE;rw [if_pos c0,if_pos c1,if_pos c2,if_pos c3,if_pos c4,if_neg c5]
  rw [hE] at h;exact absurd h (by decide)
 have F5_0:(p.step≤4096)=True:=eq_true (by omega)
 have F5_1:(p.step > 4096)=False:=eq_false (by omega)
 by_cases c6:1≤p.ep
 rotate_left
 ·have F6_0:(p.ep ≥ 1)=False:=eq_false (by omega)
  have F6_1:(1≤p.ep)=False:=eq_false (by omega)
  have F6_2:(p.ep<1)=True:=eq_true (by omega)
  have hE:fmE p=2:=by unfold fmE;rw [if_pos c0,if_pos c1,if_pos c2,if_pos c3,if_pos c4,if_pos c5,if_neg c6]
  rw [hE] at h;exact absurd h (by decide)
 have F6_0:(p.ep ≥ 1)=True:=eq_true (by omega)
 have F6_1:(1≤p.ep)=True:=eq_true (by omega)
 have F6_2:(p.ep<1)=False:=eq_false (by omega)
 by_cases c7:p.ep≤1073741824
 rotate_left
 ·have F7_0:(p.ep≤1073741824)=False:=eq_false (by omega)
  have F7_1:(p.ep > 1073741824)=True:=eq_true (by omega)
  have hE:fmE p=2:=by unfold fmE;rw [if_pos c0,if_pos c1,if_pos c2,if_pos c3,if_pos c4,if_pos c5,if_pos c6,if_neg c7]
  rw [hE] at h;exact absurd h (by decide)
 have F7_0:(p.ep≤1073741824)=True:=eq_true (by omega)
 have F7_1:(p.ep > 1073741824)=False:=eq_false (by omega)
 by_cases c8:0≤p.cyc
 rotate_left
 ·have F8_0:(p.cyc ≥ 0)=False:=eq_false (by omega)
  have F8_1:(0≤p.cyc)=False:=eq_false (by omega)
  have F8_2:(p.cyc<0)=True:=eq_true (by omega)
  have hE:fmE p=2:=by unfold fmE;rw [if_pos c0,if_pos c1,if_pos c2,if_pos c3,if_pos c4,if_pos c5,if_pos c6,if_pos c7,if_neg c8]
  rw [hE] at h;exact absurd h (by decide)
 have F8_0:(p.cyc ≥ 0)=True:=eq_true (by omega)
 have F8_1:(0≤p.cyc)=True:=eq_true (by omega)
 have F8_2:(p.cyc<0)=False:=eq_false (by omega)
 by_cases c9:p.cyc≤1073741824
 rotate_left
 ·have F9_0:(p.cyc≤1073741824)=False:=eq_false (by omega)
  have F9_1:(p.cyc > 1073741824)=True:=eq_true (by omega)
  have hE:fmE p=2:=by unfold fmE;rw [if_pos c0,if_pos c1,if_pos c2,if_pos c3,if_pos c4,if_pos c5,if_pos c6,if_pos c7,if_pos c8,if_neg c9]
  rw [hE] at h;exact absurd h (by decide)
 have F9_0:(p.cyc≤1073741824)=True:=eq_true (by omega)
 have F9_1:(p.cyc > 1073741824)=False:=eq_false (by omega)
 by_cases c10:p.failed=false
 rotate_left
 ·have F10_0:p.failed=true:=by simpa using c10
  have hE:fmE p=12:=by unfold fmE;rw [if_pos c0,if_pos c1,if_pos c2,if_pos c3,if_pos c4,if_pos c5,if_pos c6,if_pos c7,if_pos c8,if_pos c9,if_neg c10]
  rw [hE] at h;exact absurd h (by decide)
 have F10_0:p.failed=false:=c10
 by_cases c11:p.done=true
 rotate_left
 ·have F11_0:p.done=false:=by simpa using c11
  have hE:fmE p=0:=by unfold fmE;rw [if_pos c0,if_pos c1,if_pos c2,if_pos c3,if_pos c4,if_pos c5,if_pos c6,if_pos c7,if_pos c8,if_pos c9,if_pos c10,if_neg c11]
  rw [cal_code env48 rfl];simp only [fn48,slAll,Nat.reduceBEq,Nat.reduceLeDiff,Nat.reduceAdd,List.length_cons,List.length_nil]
  simp only [F0_0,F0_1,F0_2,F1_0,F2_0,F3_0,F3_1,F3_2,F4_0,F4_1,F4_2,F5_0,F5_1,F6_0,F6_1,F6_2,F7_0,F7_1,F8_0,F8_1,F8_2,F9_0,F9_1,F10_0,F11_0,d1,d2,d3,s1,s2,slAll,slsAll,Nat.reduceMul,Nat.reduceBEq,Nat.reduceLT,Nat.reduceLeDiff,memAll,vAll,reduceCtorEq,Nat.reduceEqDiff,Nat.reduceAdd,Nat.reduceLT,Nat.reduceLeDiff,Nat.beq]
 have F11_0:p.done=true:=c11
 by_cases c12:1≤p.step
 rotate_left
 ·have F12_0:(p.step ≥ 1)=False:=eq_false (by omega)
  have F12_1:(1≤p.step)=False:=eq_false (by omega)
  have F12_2:(p.step<1)=True:=eq_true (by omega)
  have hE:fmE p=12:=by unfold fmE;rw [if_pos c0,if_pos c1,if_pos c2,if_pos c3,if_pos c4,if_pos c5,if_pos c6,if_pos c7,if_pos c8,if_pos c9,if_pos c10,if_pos c11,if_neg c12]
  rw [hE] at h;exact absurd h (by decide)
 have F12_0:(p.step ≥ 1)=True:=eq_true (by omega)
 have F12_1:(1≤p.step)=True:=eq_true (by omega)
 have F12_2:(p.step<1)=False:=eq_false (by omega)
 have hE:fmE p=0:=by unfold fmE;rw [if_pos c0,if_pos c1,if_pos c2,if_pos c3,if_pos c4,if_pos c5,if_pos c6,if_pos c7,if_pos c8,if_pos c9,if_pos c10,if_pos c11,if_pos c12]
 rw [cal_code env48 rfl];simp only [fn48,slAll,Nat.reduceBEq,Nat.reduceLeDiff,Nat.reduceAdd,List.length_cons,List.length_nil]
 simp only [F0_0,F0_1,F0_2,F1_0,F2_0,F3_0,F3_1,F3_2,F4_0,F4_1,F4_2,F5_0,F5_1,F6_0,F6_1,F6_2,F7_0,F7_1,F8_0,F8_1,F8_2,F9_0,F9_1,F10_0,F11_0,F12_0,F12_1,F12_2,d1,d2,d3,s1,s2,slAll,slsAll,Nat.reduceMul,Nat.reduceBEq,Nat.reduceLT,Nat.reduceLeDiff,memAll,vAll,reduceCtorEq,Nat.reduceEqDiff,Nat.reduceAdd,Nat.reduceLT,Nat.reduceLeDiff,Nat.beq]
set_option maxHeartbeats 2000000 in
theorem cal29 {p:Prc}:cal env 29 [ePrc p]=some [(.int .i64 (fmE p),false)]:=by
 have s1:=cal73 (n:=p.frm)
 have s2:=cal73 (n:=p.to)
 rw [ePrc_eq]
 by_cases c0:p.kind=3
 rotate_left
 ·have F0_0:(p.kind==3)=false:=by first|(simp;omega)|(simp [c0])
  have F0_1:(p.kind=3)=False:=eq_false (by omega)
  have F0_2:(p.kind != 3)=true:=by first|(simp;omega)|(simp [c0])
  have hE:fmE p=1:=by unfold fmE;rw [if_neg c0]
  rw [hE]
  rw [cal_code env29 rfl];simp only [fn29,slAll,Nat.reduceBEq,Nat.reduceLeDiff,Nat.reduceAdd,List.length_cons,List.length_nil]
  simp only [F0_0,F0_1,F0_2,s1,s2,slAll,slsAll,Nat.reduceMul,Nat.reduceBEq,Nat.reduceLT,Nat.reduceLeDiff,memAll,vAll,reduceCtorEq,Nat.reduceEqDiff,Nat.reduceAdd,Nat.reduceLT,Nat.reduceLeDiff,Nat.beq]
 have F0_0:(p.kind==3)=true:=by first|(simp;omega)|(simp [c0])
 have F0_1:(p.kind=3)=True:=eq_true (by omega)
 have F0_2:(p.kind != 3)=false:=by first|(simp;omega)|(simp [c0])
 by_cases c1:siteB p.frm=true
 rotate_left
 ·have F1_0:siteB p.frm=false:=by simpa using c1
  have hE:fmE p=2:=by unfold fmE;rw [if_pos c0,if_neg c1]
  rw [hE]
  rw [cal_code env29 rfl];simp only [fn29,slAll,Nat.reduceBEq,Nat.reduceLeDiff,Nat.reduceAdd,List.length_cons,List.length_nil]
  simp only [F0_0,F0_1,F0_2,F1_0,s1,s2,slAll,slsAll,Nat.reduceMul,Nat.reduceBEq,Nat.reduceLT,Nat.reduceLeDiff,memAll,vAll,reduceCtorEq,Nat.reduceEqDiff,Nat.reduceAdd,Nat.reduceLT,Nat.reduceLeDiff,Nat.beq]
 have F1_0:siteB p.frm=true:=c1
 by_cases c2:siteB p.to=true
 rotate_left
 ·have F2_0:siteB p.to=false:=by simpa using c2
  have hE:fmE p=2:=by unfold fmE;rw [if_pos c0,if_pos c1,if_neg c2]
  rw [hE]
  rw [cal_code env29 rfl];simp only [fn29,slAll,Nat.reduceBEq,Nat.reduceLeDiff,Nat.reduceAdd,List.length_cons,List.length_nil]
  simp only [F0_0,F0_1,F0_2,F1_0,F2_0,s1,s2,slAll,slsAll,Nat.reduceMul,Nat.reduceBEq,Nat.reduceLT,Nat.reduceLeDiff,memAll,vAll,reduceCtorEq,Nat.reduceEqDiff,Nat.reduceAdd,Nat.reduceLT,Nat.reduceLeDiff,Nat.beq]
 have F2_0:siteB p.to=true:=c2
 by_cases c3:p.frm≠p.to
 rotate_left
 ·have F3_0:(p.frm != p.to)=false:=by first|(simp;omega)|(simp [c3])
  have F3_1:(p.frm=p.to)=True:=eq_true (by omega)
  have F3_2:(p.frm==p.to)=true:=by first|(simp;omega)|(simp [c3])
  have hE:fmE p=2:=by unfold fmE;rw [if_pos c0,if_pos c1,if_pos c2,if_neg c3]
  rw [hE]
  rw [cal_code env29 rfl];simp only [fn29,slAll,Nat.reduceBEq,Nat.reduceLeDiff,Nat.reduceAdd,List.length_cons,List.length_nil]
  simp only [F0_0,F0_1,F0_2,F1_0,F2_0,F3_0,F3_1,F3_2,s1,s2,slAll,slsAll,Nat.reduceMul,Nat.reduceBEq,Nat.reduceLT,Nat.reduceLeDiff,memAll,vAll,reduceCtorEq,Nat.reduceEqDiff,Nat.reduceAdd,Nat.reduceLT,Nat.reduceLeDiff,Nat.beq]
 have F3_0:(p.frm != p.to)=true:=by first|(simp;omega)|(simp [c3])
 have F3_1:(p.frm=p.to)=False:=eq_false (by omega)
 have F3_2:(p.frm==p.to)=false:=by first|(simp;omega)|(simp [c3])
 by_cases c4:0≤p.step
 rotate_left
 ·have F4_0:(p.step ≥ 0)=False:=eq_false (by omega)
  have F4_1:(0≤p.step)=False:=eq_false (by omega)
  have F4_2:(p.step<0)=True:=eq_true (by omega)
  have hE:fmE p=2:=by unfold fmE;rw [if_pos c0,if_pos c1,if_pos c2,if_pos c3,if_neg c4]
  rw [hE]
  rw [cal_code env29 rfl];simp only [fn29,slAll,Nat.reduceBEq,Nat.reduceLeDiff,Nat.reduceAdd,List.length_cons,List.length_nil]
  simp only [F0_0,F0_1,F0_2,F1_0,F2_0,F3_0,F3_1,F3_2,F4_0,F4_1,F4_2,s1,s2,slAll,slsAll,Nat.reduceMul,Nat.reduceBEq,Nat.reduceLT,Nat.reduceLeDiff,memAll,vAll,reduceCtorEq,Nat.reduceEqDiff,Nat.reduceAdd,Nat.reduceLT,Nat.reduceLeDiff,Nat.beq]
 have F4_0:(p.step ≥ 0)=True:=eq_true (by omega)
 have F4_1:(0≤p.step)=True:=eq_true (by omega)
 have F4_2:(p.step<0)=False:=eq_false (by omega)
 by_cases c5:p.step≤4096
 rotate_left
 ·have F5_0:(p.step≤4096)=False:=eq_false (by omega)
  have F5_1:(p.step > 4096)=True:=eq_true (by omega)
  have hE:fmE p=2:=by unfold fmE;rw [if_pos c0,if_pos c1,if_pos c2,if_pos c3,if_pos c4,if_neg c5]
  rw [hE]
  rw [cal_code env29 rfl];simp only [fn29,slAll,Nat.reduceBEq,Nat.reduceLeDiff,Nat.reduceAdd,List.length_cons,List.length_nil]
  simp only [F0_0,F0_1,F0_2,F1_0,F2_0,F3_0,F3_1,F3_2,F4_0,F4_1,F4_2,F5_0,F5_1,s1,s2,slAll,slsAll,Nat.reduceMul,Nat.reduceBEq,Nat.reduceLT,Nat.reduceLeDiff,memAll,vAll,reduceCtorEq,Nat.reduceEqDiff,Nat.reduceAdd,Nat.reduceLT,Nat.reduceLeDiff,Nat.beq]
 have F5_0:(p.step≤4096)=True:=eq_true (by omega)
 have F5_1:(p.step > 4096)=False:=eq_false (by omega)
 by_cases c6:1≤p.ep
 rotate_left
 ·have F6_0:(p.ep ≥ 1)=False:=eq_false (by omega)
  have F6_1:(1≤p.ep)=False:=eq_false (by omega)
  have F6_2:(p.ep<1)=True:=eq_true (by omega)
  have hE:fmE p=2:=by unfold fmE;rw [if_pos c0,if_pos c1,if_pos c2,if_pos c3,if_pos c4,if_pos c5,if_neg c6]
  rw [hE]
  rw [cal_code env29 rfl];simp only [fn29,slAll,Nat.reduceBEq,Nat.reduceLeDiff,Nat.reduceAdd,List.length_cons,List.length_nil]
  simp only [F0_0,F0_1,F0_2,F1_0,F2_0,F3_0,F3_1,F3_2,F4_0,F4_1,F4_2,F5_0,F5_1,F6_0,F6_1,F6_2,s1,s2,slAll,slsAll,Nat.reduceMul,Nat.reduceBEq,Nat.reduceLT,Nat.reduceLeDiff,memAll,vAll,reduceCtorEq,Nat.reduceEqDiff,Nat.reduceAdd,Nat.reduceLT,Nat.reduceLeDiff,Nat.beq]
 have F6_0:(p.ep ≥ 1)=True:=eq_true (by omega)
 have F6_1:(1≤p.ep)=True:=eq_true (by omega)
 have F6_2:(p.ep<1)=False:=eq_false (by omega)
 by_cases c7:p.ep≤1073741824
 rotate_left
 ·have F7_0:(p.ep≤1073741824)=False:=eq_false (by omega)
  have F7_1:(p.ep > 1073741824)=True:=eq_true (by omega)
  have hE:fmE p=2:=by unfold fmE;rw [if_pos c0,if_pos c1,if_pos c2,if_pos c3,if_pos c4,if_pos c5,if_pos c6,if_neg c7]
  rw [hE]
  rw [cal_code env29 rfl];simp only [fn29,slAll,Nat.reduceBEq,Nat.reduceLeDiff,Nat.reduceAdd,List.length_cons,List.length_nil]
  simp only [F0_0,F0_1,F0_2,F1_0,F2_0,F3_0,F3_1,F3_2,F4_0,F4_1,F4_2,F5_0,F5_1,F6_0,F6_1,F6_2,F7_0,F7_1,s1,s2,slAll,slsAll,Nat.reduceMul,Nat.reduceBEq,Nat.reduceLT,Nat.reduceLeDiff,memAll,vAll,reduceCtorEq,Nat.reduceEqDiff,Nat.reduceAdd,Nat.reduceLT,Nat.reduceLeDiff,Nat.beq]
 have F7_0:(p.ep≤1073741824)=True:=eq_true (by omega)
 have F7_1:(p.ep > 1073741824)=False:=eq_false (by omega)
 by_cases c8:0≤p.cyc
 rotate_left
 ·have F8_0:(p.cyc ≥ 0)=False:=eq_false (by omega)
  have F8_1:(0≤p.cyc)=False:=eq_false (by omega)
  have F8_2:(p.cyc<0)=True:=eq_true (by omega)
  have hE:fmE p=2:=by unfold fmE;rw [if_pos c0,if_pos c1,if_pos c2,if_pos c3,if_pos c4,if_pos c5,if_pos c6,if_pos c7,if_neg c8]
  rw [hE]
  rw [cal_code env29 rfl];simp only [fn29,slAll,Nat.reduceBEq,Nat.reduceLeDiff,Nat.reduceAdd,List.length_cons,List.length_nil]
  simp only [F0_0,F0_1,F0_2,F1_0,F2_0,F3_0,F3_1,F3_2,F4_0,F4_1,F4_2,F5_0,F5_1,F6_0,F6_1,F6_2,F7_0,F7_1,F8_0,F8_1,F8_2,s1,s2,slAll,slsAll,Nat.reduceMul,Nat.reduceBEq,Nat.reduceLT,Nat.reduceLeDiff,memAll,vAll,reduceCtorEq,Nat.reduceEqDiff,Nat.reduceAdd,Nat.reduceLT,Nat.reduceLeDiff,Nat.beq]
 have F8_0:(p.cyc ≥ 0)=True:=eq_true (by omega)
 have F8_1:(0≤p.cyc)=True:=eq_true (by omega)
 have F8_2:(p.cyc<0)=False:=eq_false (by omega)
 by_cases c9:p.cyc≤1073741824
 rotate_left
 ·have F9_0:(p.cyc≤1073741824)=False:=eq_false (by omega)
  have F9_1:(p.cyc > 1073741824)=True:=eq_true (by omega)
  have hE:fmE p=2:=by unfold fmE;rw [if_pos c0,if_pos c1,if_pos c2,if_pos c3,if_pos c4,if_pos c5,if_pos c6,if_pos c7,if_pos c8,if_neg c9]
  rw [hE]
  rw [cal_code env29 rfl];simp only [fn29,slAll,Nat.reduceBEq,Nat.reduceLeDiff,Nat.reduceAdd,List.length_cons,List.length_nil]
  simp only [F0_0,F0_1,F0_2,F1_0,F2_0,F3_0,F3_1,F3_2,F4_0,F4_1,F4_2,F5_0,F5_1,F6_0,F6_1,F6_2,F7_0,F7_1,F8_0,F8_1,F8_2,F9_0,F9_1,s1,s2,slAll,slsAll,Nat.reduceMul,Nat.reduceBEq,Nat.reduceLT,Nat.reduceLeDiff,memAll,vAll,reduceCtorEq,Nat.reduceEqDiff,Nat.reduceAdd,Nat.reduceLT,Nat.reduceLeDiff,Nat.beq]
 have F9_0:(p.cyc≤1073741824)=True:=eq_true (by omega)
 have F9_1:(p.cyc > 1073741824)=False:=eq_false (by omega)
 by_cases c10:p.failed=false
 rotate_left
 ·have F10_0:p.failed=true:=by simpa using c10
  have hE:fmE p=12:=by unfold fmE;rw [if_pos c0,if_pos c1,if_pos c2,if_pos c3,if_pos c4,if_pos c5,if_pos c6,if_pos c7,if_pos c8,if_pos c9,if_neg c10]
  rw [hE]
  rw [cal_code env29 rfl];simp only [fn29,slAll,Nat.reduceBEq,Nat.reduceLeDiff,Nat.reduceAdd,List.length_cons,List.length_nil]
  simp only [F0_0,F0_1,F0_2,F1_0,F2_0,F3_0,F3_1,F3_2,F4_0,F4_1,F4_2,F5_0,F5_1,F6_0,F6_1,F6_2,F7_0,F7_1,F8_0,F8_1,F8_2,F9_0,F9_1,F10_0,s1,s2,slAll,slsAll,Nat.reduceMul,Nat.reduceBEq,Nat.reduceLT,Nat.reduceLeDiff,memAll,vAll,reduceCtorEq,Nat.reduceEqDiff,Nat.reduceAdd,Nat.reduceLT,Nat.reduceLeDiff,Nat.beq]
 have F10_0:p.failed=false:=c10
 by_cases c11:p.done=true
 rotate_left
 ·have F11_0:p.done=false:=by simpa using c11
  have hE:fmE p=0:=by unfold fmE;rw [if_pos c0,if_pos c1,if_pos c2,if_pos c3,if_pos c4,if_pos c5,if_pos c6,if_pos c7,if_pos c8,if_pos c9,if_pos c10,if_neg c11]
  rw [hE]
  rw [cal_code env29 rfl];simp only [fn29,slAll,Nat.reduceBEq,Nat.reduceLeDiff,Nat.reduceAdd,List.length_cons,List.length_nil]
  simp only [F0_0,F0_1,F0_2,F1_0,F2_0,F3_0,F3_1,F3_2,F4_0,F4_1,F4_2,F5_0,F5_1,F6_0,F6_1,F6_2,F7_0,F7_1,F8_0,F8_1,F8_2,F9_0,F9_1,F10_0,F11_0,s1,s2,slAll,slsAll,Nat.reduceMul,Nat.reduceBEq,Nat.reduceLT,Nat.reduceLeDiff,memAll,vAll,reduceCtorEq,Nat.reduceEqDiff,Nat.reduceAdd,Nat.reduceLT,Nat.reduceLeDiff,Nat.beq]
 have F11_0:p.done=true:=c11
 by_cases c12:1≤p.step
 rotate_left
 ·have F12_0:(p.step ≥ 1)=False:=eq_false (by omega)
  have F12_1:(1≤p.step)=False:=eq_false (by omega)
  have F12_2:(p.step<1)=True:=eq_true (by omega)
  have hE:fmE p=12:=by unfold fmE;rw [if_pos c0,if_pos c1,if_pos c2,if_pos c3,if_pos c4,if_pos c5,if_pos c6,if_pos c7,if_pos c8,if_pos c9,if_pos c10,if_pos c11,if_neg c12]
  rw [hE]
  rw [cal_code env29 rfl];simp only [fn29,slAll,Nat.reduceBEq,Nat.reduceLeDiff,Nat.reduceAdd,List.length_cons,List.length_nil]
  simp only [F0_0,F0_1,F0_2,F1_0,F2_0,F3_0,F3_1,F3_2,F4_0,F4_1,F4_2,F5_0,F5_1,F6_0,F6_1,F6_2,F7_0,F7_1,F8_0,F8_1,F8_2,F9_0,F9_1,F10_0,F11_0,F12_0,F12_1,F12_2,s1,s2,slAll,slsAll,Nat.reduceMul,Nat.reduceBEq,Nat.reduceLT,Nat.reduceLeDiff,memAll,vAll,reduceCtorEq,Nat.reduceEqDiff,Nat.reduceAdd,Nat.reduceLT,Nat.reduceLeDiff,Nat.beq]
 have F12_0:(p.step ≥ 1)=True:=eq_true (by omega)
 have F12_1:(1≤p.step)=True:=eq_true (by omega)
 have F12_2:(p.step<1)=False:=eq_false (by omega)
 have hE:fmE p=0:=by unfold fmE;rw [if_pos c0,if_pos c1,if_pos c2,if_pos c3,if_pos c4,if_pos c5,if_pos c6,if_pos c7,if_pos c8,if_pos c9,if_pos c10,if_pos c11,if_pos c12]
 rw [hE]
 rw [cal_code env29 rfl];simp only [fn29,slAll,Nat.reduceBEq,Nat.reduceLeDiff,Nat.reduceAdd,List.length_cons,List.length_nil]
 simp only [F0_0,F0_1,F0_2,F1_0,F2_0,F3_0,F3_1,F3_2,F4_0,F4_1,F4_2,F5_0,F5_1,F6_0,F6_1,F6_2,F7_0,F7_1,F8_0,F8_1,F8_2,F9_0,F9_1,F10_0,F11_0,F12_0,F12_1,F12_2,s1,s2,slAll,slsAll,Nat.reduceMul,Nat.reduceBEq,Nat.reduceLT,Nat.reduceLeDiff,memAll,vAll,reduceCtorEq,Nat.reduceEqDiff,Nat.reduceAdd,Nat.reduceLT,Nat.reduceLeDiff,Nat.beq]
end Go.Proofs.YtioijcfcehhmdaaGreatDoor.V

namespace Go.Proofs.YtioijcfcehhmdaaGreatDoor.V
end Go.Proofs.YtioijcfcehhmdaaGreatDoor.V

namespace Go.Proofs.YtioijcfcehhmdaaGreatDoor.V
--+
theorem cal52 {l:List Spn} (hl:l.length≤lim):cal env 52 [.list 3 (l.map eSpn)]=some [(.int .i64 (headOf l).epoch,false),(.int .i64 (headOf l).to,false)]:=by
 by_cases h0:l.length=0
 ·obtain rfl:=List.eq_nil_of_length_eq_zero h0
  have F1:(((0:Nat):Int)==0)=true:=rfl
  rw [cal_code env52 rfl];simp only [fn52,slAll,Nat.reduceBEq,Nat.reduceLeDiff,Nat.reduceAdd,List.length_cons,List.length_nil]
  simp only [F1,List.length_nil,List.map_nil,slAll,slsAll,Nat.reduceMul,Nat.reduceBEq,Nat.reduceLT,Nat.reduceLeDiff,memAll,vAll,reduceCtorEq,Nat.reduceEqDiff,Nat.reduceAdd,Nat.reduceLT,Nat.reduceLeDiff,Nat.beq]
  rfl
 ·obtain ⟨k,hk⟩:∃ k,l.length=k+1:=⟨l.length - 1,by omega⟩
  have hkl:k<l.length:=by omega
  have hx:l[k]?=some l[k]:=List.getElem?_eq_getElem hkl
  have he:headOf l=l[k]:=by rw [headOf,hk,lastOf_succ hkl]
  have hl':=hl
  unfold lim at hl'
  have F1:((l.length:Int)==0)=false:=by simpa using h0
  have F2:IntKind.i64.wrap ((l.length:Int) - 1)=(k:Int):=by rw [i64_fits (by omega)];omega
  have P0:∀ a b c:PV,part [a,b,c] 0 (some 3)=some (.agg [a,b,c]):=fun _ _ _=>rfl
  rw [he]
  generalize l[k]=x at *
  obtain ⟨xe,xf,xt⟩:=x
  rw [cal_code env52 rfl];simp only [fn52,slAll,Nat.reduceBEq,Nat.reduceLeDiff,Nat.reduceAdd,List.length_cons,List.length_nil]
  simp only [F1,F2,hx,eSpn,index_nat hkl,List.getElem?_map,Option.map_some,P0,List.length_map,slAll,slsAll,Nat.reduceMul,Nat.reduceBEq,Nat.reduceLT,Nat.reduceLeDiff,memAll,vAll,reduceCtorEq,Nat.reduceEqDiff,Nat.reduceAdd,Nat.reduceLT,Nat.reduceLeDiff,Nat.beq]
--+
theorem cal56 {l:List Spn} (hl:l.length≤lim):cal env 56 [.list 3 (l.map eSpn)]=some [(.int .i64 (headOf l).epoch,false),(.int .i64 (headOf l).to,false)]:=by
 by_cases h0:l.length=0
 ·obtain rfl:=List.eq_nil_of_length_eq_zero h0
  have F1:(((0:Nat):Int)==0)=true:=rfl
  rw [cal_code env56 rfl];simp only [fn56,slAll,Nat.reduceBEq,Nat.reduceLeDiff,Nat.reduceAdd,List.length_cons,List.length_nil]
  simp only [F1,List.length_nil,List.map_nil,slAll,slsAll,Nat.reduceMul,Nat.reduceBEq,Nat.reduceLT,Nat.reduceLeDiff,memAll,vAll,reduceCtorEq,Nat.reduceEqDiff,Nat.reduceAdd,Nat.reduceLT,Nat.reduceLeDiff,Nat.beq]
  rfl
 ·obtain ⟨k,hk⟩:∃ k,l.length=k+1:=⟨l.length - 1,by omega⟩
  have hkl:k<l.length:=by omega
  have hx:l[k]?=some l[k]:=List.getElem?_eq_getElem hkl
  have he:headOf l=l[k]:=by rw [headOf,hk,lastOf_succ hkl]
  have hl':=hl
  unfold lim at hl'
  have F1:((l.length:Int)==0)=false:=by simpa using h0
  have F2:IntKind.i64.wrap ((l.length:Int) - 1)=(k:Int):=by rw [i64_fits (by omega)];omega
  have P0:∀ a b c:PV,part [a,b,c] 0 (some 3)=some (.agg [a,b,c]):=fun _ _ _=>rfl
  rw [he]
  generalize l[k]=x at *
  obtain ⟨xe,xf,xt⟩:=x
  rw [cal_code env56 rfl];simp only [fn56,slAll,Nat.reduceBEq,Nat.reduceLeDiff,Nat.reduceAdd,List.length_cons,List.length_nil]
  simp only [F1,F2,hx,eSpn,index_nat hkl,List.getElem?_map,Option.map_some,P0,List.length_map,slAll,slsAll,Nat.reduceMul,Nat.reduceBEq,Nat.reduceLT,Nat.reduceLeDiff,memAll,vAll,reduceCtorEq,Nat.reduceEqDiff,Nat.reduceAdd,Nat.reduceLT,Nat.reduceLeDiff,Nat.beq]
def dirF (l:List Bm):Bool:=l.all fun b=>decide (b.ws.length≤4)
def few48 (p:Pt):Bool:=dirF (p.dirty.take 12)&&(decide (p.lin.length≤20)&&(decide (p.dirty.length≤12)&&few7 p.img))
def resF (n:Nat) (p:Pt) (t:Bool):Option (Ex × St):=if t then some (.normal,⟨sl n [(1,.pbox 0 0),(2,.any)],[⟨false,bPt p⟩],[],none⟩) else some (.ret,⟨sl n [(1,.pbox 0 0),(2,.pv (.bool false))],[⟨false,bPt p⟩],[],none⟩)
theorem loop10 {p:Pt} {st:St} (h:st.head [1,3] st.boxes.length=some ⟨sl 38 [(1,.pbox 0 0),(3,.pv (.int .i64 (0:Nat)))],[⟨false,bPt p⟩],[],none⟩) :
  den env fn10_l1 st=resF 38 p (dirF ((p.dirty.take 12).drop ((0:Nat)))):=by
 unfold fn10_l1
 refine clean_up (env:=env) (nb:=1) ((p.dirty.take 12).length) (fun i=>⟨sl 38 [(1,.pbox 0 0),(3,.pv (.int .i64 i))],[⟨false,bPt p⟩],[],none⟩) (fun i=>resF 38 p (dirF ((p.dirty.take 12).drop (i)))) h (fun _=>rfl) (fun _=>by simp only [slAll,slsAll,Nat.reduceMul,Nat.reduceBEq,Nat.reduceLT,Nat.reduceLeDiff,Nat.reduceAdd,decide_true,Bool.and_self,Bool.true_and]) ?_ ?_
 ·intro i rb hi ih
  have hm:(p.dirty.take 12).length=min 12 p.dirty.length:=List.length_take
  have hi1:=i64_next hi (by unfold lim;omega)
  have hil:i<p.dirty.length:=by omega
  have F1:((i:Int)<(p.dirty.length:Int))=True:=eq_true (by omega)
  have F2:((i:Int)<12)=True:=eq_true (by omega)
  have hx:(p.dirty.map eBm)[i]?=some (.agg [.int .i64 p.dirty[i].size,.list 1 (p.dirty[i].ws.map eW)]):=by rw [List.getElem?_map,List.getElem?_eq_getElem hil];rfl
  have hs:dirF ((p.dirty.take 12).drop i)=(decide (p.dirty[i].ws.length≤4)&&dirF ((p.dirty.take 12).drop (i+1))):=by
   rw [List.drop_eq_getElem_cons hi]
   unfold dirF
   rw [List.all_cons,List.getElem_take]
  rw [hs]
  unfold resF
  by_cases c1:p.dirty[i].ws.length≤4
  ·have G1:((p.dirty[i].ws.length:Int) > 4)=False:=eq_false (by omega)
   rw [decide_eq_true c1,Bool.true_and]
   simp only [fn10_b0,F1,F2,hx,G1,bPt_eq,index_nat hil,List.length_map,slAll,slsAll,Nat.reduceMul,Nat.reduceBEq,Nat.reduceLT,Nat.reduceLeDiff,memAll,vAll,reduceCtorEq,Nat.reduceEqDiff,Nat.reduceAdd,Nat.reduceLT,Nat.reduceLeDiff,Nat.beq]
   rw [ih _ (by simp only [hi1,bPt_eq,slAll,slsAll,Nat.reduceMul,Nat.reduceBEq,Nat.reduceLT,Nat.reduceLeDiff,memAll,vAll,reduceCtorEq,Nat.reduceEqDiff,Nat.reduceAdd,Nat.reduceLT,Nat.reduceLeDiff,Nat.beq]<;>rfl)]
   unfold resF
   simp only [bPt_eq]
  ·have G1:((p.dirty[i].ws.length:Int) > 4)=True:=eq_true (by omega)
   rw [decide_eq_false c1,Bool.false_and,if_neg (by decide)]
   simp only [fn10_b0,F1,F2,hx,G1,bPt_eq,index_nat hil,List.length_map,slAll,slsAll,Nat.reduceMul,Nat.reduceBEq,Nat.reduceLT,Nat.reduceLeDiff,memAll,vAll,reduceCtorEq,Nat.reduceEqDiff,Nat.reduceAdd,Nat.reduceLT,Nat.reduceLeDiff,Nat.beq]
 ·intro rb
  have hm:(p.dirty.take 12).length=min 12 p.dirty.length:=List.length_take
  rw [List.drop_length]
  unfold resF
  rw [show dirF []=true from rfl,if_pos rfl]
  by_cases c:p.dirty.length≤12
  ·have F1:(((p.dirty.take 12).length:Int)<(p.dirty.length:Int))=False:=eq_false (by omega)
   simp only [fn10_b0,F1,bPt_eq,List.length_map,slAll,slsAll,Nat.reduceMul,Nat.reduceBEq,Nat.reduceLT,Nat.reduceLeDiff,memAll,vAll,reduceCtorEq,Nat.reduceEqDiff,Nat.reduceAdd,Nat.reduceLT,Nat.reduceLeDiff,Nat.beq]
  ·have F1:(((p.dirty.take 12).length:Int)<(p.dirty.length:Int))=True:=eq_true (by omega)
   have F2:(((p.dirty.take 12).length:Int)<12)=False:=eq_false (by omega)
   simp only [fn10_b0,F1,F2,bPt_eq,List.length_map,slAll,slsAll,Nat.reduceMul,Nat.reduceBEq,Nat.reduceLT,Nat.reduceLeDiff,memAll,vAll,reduceCtorEq,Nat.reduceEqDiff,Nat.reduceAdd,Nat.reduceLT,Nat.reduceLeDiff,Nat.beq]
theorem cal10 {p:Pt}:cal env 10 [ePt p]=some [(.bool (few48 p),false)]:=by
 have e1:=cal42 (im:=p.img)
 unfold few48
 rw [ePt_eq]
 rw [cal_code env10 rfl];simp only [fn10,slAll,Nat.reduceBEq,Nat.reduceLeDiff,Nat.reduceAdd,List.length_cons,List.length_nil]
 simp only [slAll,slsAll,Nat.reduceMul,Nat.reduceBEq,Nat.reduceLT,Nat.reduceLeDiff,memAll,vAll,reduceCtorEq,Nat.reduceEqDiff,Nat.reduceAdd,Nat.reduceLT,Nat.reduceLeDiff,Nat.beq]
 rw [loop10 (p:=p)]
 rotate_left
 ·simp only [bPt_eq];simp only [slAll,slsAll,Nat.reduceMul,Nat.reduceBEq,Nat.reduceLT,Nat.reduceLeDiff,Nat.reduceAdd,decide_true,Bool.and_self,Bool.true_and]<;>rfl
 ·unfold resF
  rw [List.drop_zero]
  cases hd:dirF (p.dirty.take 12) with
  |false=>rw [if_neg (by decide)];simp only [bPt_eq,slAll,slsAll,Nat.reduceMul,Nat.reduceBEq,Nat.reduceLT,Nat.reduceLeDiff,memAll,vAll,reduceCtorEq,Nat.reduceEqDiff,Nat.reduceAdd,Nat.reduceLT,Nat.reduceLeDiff,Nat.beq]
  |true =>
   rw [if_pos rfl]
   by_cases c1:p.lin.length≤20
   ·have G1:((p.lin.length:Int)≤20)=True:=eq_true (by omega)
    rw [decide_eq_true c1]
    by_cases c2:p.dirty.length≤12
    ·have G2:((p.dirty.length:Int)≤12)=True:=eq_true (by omega)
     rw [decide_eq_true c2]
     simp only [bPt_eq,G1,G2,e1,List.length_map,slAll,slsAll,Nat.reduceMul,Nat.reduceBEq,Nat.reduceLT,Nat.reduceLeDiff,memAll,vAll,reduceCtorEq,Nat.reduceEqDiff,Nat.reduceAdd,Nat.reduceLT,Nat.reduceLeDiff,Nat.beq]
    ·have G2:((p.dirty.length:Int)≤12)=False:=eq_false (by omega)
     rw [decide_eq_false c2]
     simp only [bPt_eq,G1,G2,List.length_map,slAll,slsAll,Nat.reduceMul,Nat.reduceBEq,Nat.reduceLT,Nat.reduceLeDiff,memAll,vAll,reduceCtorEq,Nat.reduceEqDiff,Nat.reduceAdd,Nat.reduceLT,Nat.reduceLeDiff,Nat.beq]
   ·have G1:((p.lin.length:Int)≤20)=False:=eq_false (by omega)
    rw [decide_eq_false c1]
    simp only [bPt_eq,G1,List.length_map,slAll,slsAll,Nat.reduceMul,Nat.reduceBEq,Nat.reduceLT,Nat.reduceLeDiff,memAll,vAll,reduceCtorEq,Nat.reduceEqDiff,Nat.reduceAdd,Nat.reduceLT,Nat.reduceLeDiff,Nat.beq]
end Go.Proofs.YtioijcfcehhmdaaGreatDoor.V

namespace Go.Proofs.YtioijcfcehhmdaaGreatDoor.V
def bPrc (p:Prc):List BV:=[.pv (.int .i64 p.kind),.pv (.int .i64 p.frm),.pv (.int .i64 p.to),.pv (.int .i64 p.step),.pv (.int .i64 p.ep),.pv (.int .i64 p.cyc),.pv (.bool p.done),.pv (.bool p.failed)]
theorem bPrc_eq (p:Prc):bPrc p=[.pv (.int .i64 p.kind),.pv (.int .i64 p.frm),.pv (.int .i64 p.to),.pv (.int .i64 p.step),.pv (.int .i64 p.ep),.pv (.int .i64 p.cyc),.pv (.bool p.done),.pv (.bool p.failed)]:=rfl
def zPrc:Prc:=⟨0,0,0,0,0,0,false,false⟩
theorem fmE_step {p:Prc} (h:fmE p=0):0≤p.step:=by
 unfold fmE at h
 by_cases c:0≤p.step
 ·exact c
 ·rw [if_neg c] at h
  exfalso
  split at h
  ·split at h
   ·split at h
    ·split at h
     ·exact absurd h (by decide)
     ·exact absurd h (by decide)
    ·exact absurd h (by decide)
   ·exact absurd h (by decide)
  ·exact absurd h (by decide)
end Go.Proofs.YtioijcfcehhmdaaGreatDoor.V

namespace Go.Proofs.YtioijcfcehhmdaaGreatDoor.V
end Go.Proofs.YtioijcfcehhmdaaGreatDoor.V

namespace Go.Proofs.YtioijcfcehhmdaaGreatDoor.V
def inE (e:Exn) (s:Nat):Bool:=decide (0<e.count)&&(decide (e.start≤(s:Int))&&decide ((s:Int)<e.start+e.count))
end Go.Proofs.YtioijcfcehhmdaaGreatDoor.V

namespace Go.Proofs.YtioijcfcehhmdaaGreatDoor.V
structure SwSt where
 d0:Int
 d1:Int
 st:Int
 ins:Bool
 out:List Exn
end Go.Proofs.YtioijcfcehhmdaaGreatDoor.V

namespace Go.Proofs.YtioijcfcehhmdaaGreatDoor.V
def inS (l:List Exn) (s:Nat):Bool:=l.any fun e=>inE e s
end Go.Proofs.YtioijcfcehhmdaaGreatDoor.V

namespace Go.Proofs.YtioijcfcehhmdaaGreatDoor.V
theorem addAt_len (l:List Exn) (i:Nat):(addAt l i).length≤l.length+1:=by
 rcases snoc_cases l with rfl|⟨p,x,rfl⟩
 ·simp [addAt]
 ·rw [addAt_snoc];split<;>simp
theorem ext_len (p:Nat→Bool):∀ n,(ext p n).length≤n
 |0=>Nat.le_refl _
 |n+1=>by
  rw [ext_succ]
  have:=ext_len p n
  have:=addAt_len (ext p n) n
  split<;>omega
theorem ext_in (p:Nat→Bool) (n:Nat):(∀ x∈ext p n,0≤x.start∧1≤x.count∧x.start+x.count≤(n:Int)):=by
 induction n with
 |zero=>intro x hx;cases hx
 |succ n ih =>
  rw [ext_succ]
  split
  ·rcases snoc_cases (ext p n) with e|⟨pre,y,e⟩
   ·rw [e]
    intro x hx
    have:addAt [] n=[⟨(n:Int),1⟩]:=rfl
    rw [this] at hx
    simp only [List.mem_singleton] at hx
    subst hx
    simp only;omega
   ·rw [e] at ih ⊢
    intro x hx
    rw [addAt_snoc] at hx
    split at hx
    ·rcases List.mem_append.1 hx with h|h
     ·have:=ih x (by simp [h]);omega
     ·simp only [List.mem_singleton] at h
      have:=ih y (by simp)
      subst h;simp only;omega
    ·rcases List.mem_append.1 hx with h|h
     ·have:=ih x h;omega
     ·simp only [List.mem_singleton] at h
      subst h;simp only;omega
  ·intro x hx;have:=ih x hx;omega
end Go.Proofs.YtioijcfcehhmdaaGreatDoor.V

namespace Go.Proofs.YtioijcfcehhmdaaGreatDoor.V
end Go.Proofs.YtioijcfcehhmdaaGreatDoor.V
