/-
  Part 5 of the texts that the statement stands on.
-/
import Derived.Test.YtpcncggjmabnaaaGreatDoorZ4
import Derived.Lib.TrailingZeros
set_option linter.all false
namespace Go.Proofs.YtpcncggjmabnaaaGreatDoor.V
theorem loop62 {l:List Int} (hl:l.length≤lim) {st:St} (h:st.head [0,3] st.boxes.length=some ⟨[.pv (.list 1 (l.map eI)),.any,.any,.pv (.int .i64 (0:Nat)),.any,.any,.any,.any,.any,.any,.any,.any,.any,.any,.any,.any,.any,.any,.any,.any,.any,.any,.any,.any,.any,.any,.any,.any,.any,.any],[],[],none⟩) :
  den env fn62_l1 st=if l.any (fun n=>decide (n<1) || decide (n > 4096)) then some (.ret,⟨[.any,.any,.pv (.int .i64 2),.any,.any,.any,.any,.any,.any,.any,.any,.any,.any,.any,.any,.any,.any,.any,.any,.any,.any,.any,.any,.any,.any,.any,.any,.any,.any,.any],[],[],none⟩) else some (.normal,⟨[.any,.any,.any,.any,.any,.any,.any,.any,.any,.any,.any,.any,.any,.any,.any,.any,.any,.any,.any,.any,.any,.any,.any,.any,.any,.any,.any,.any,.any,.any],[],[],none⟩):=by
 unfold fn62_l1
 rw [ clean_up (env:=env) (l.length) (fun i=>⟨[.pv (.list 1 (l.map eI)),.any,.any,.pv (.int .i64 i),.any,.any,.any,.any,.any,.any,.any,.any,.any,.any,.any,.any,.any,.any,.any,.any,.any,.any,.any,.any,.any,.any,.any,.any,.any,.any],[],[],none⟩) (fun i=>if (l.drop i).any (fun n=>decide (n<1) || decide (n > 4096)) then some (.ret,⟨[.any,.any,.pv (.int .i64 2),.any,.any,.any,.any,.any,.any,.any,.any,.any,.any,.any,.any,.any,.any,.any,.any,.any,.any,.any,.any,.any,.any,.any,.any,.any,.any,.any],[],[],none⟩) else some (.normal,⟨[.any,.any,.any,.any,.any,.any,.any,.any,.any,.any,.any,.any,.any,.any,.any,.any,.any,.any,.any,.any,.any,.any,.any,.any,.any,.any,.any,.any,.any,.any],[],[],none⟩)) h (fun _=>rfl) (fun _=>rfl) ?_ ?_]
 ·first|rfl|simp only [List.drop_zero,List.take_zero,List.map_nil,Nat.zero_add,List.nil_append,List.foldl_nil]
 ·intro i rb hi ih
  have hi1:=i64_next hi hl;have F1:((i:Int)<(l.length:Int))=True:=eq_true (by omega)
  simp only [fn62_b0,eI,F1,index_nat hi,List.getElem?_map,List.getElem?_eq_getElem hi,memAll,vAll,reduceCtorEq,Nat.reduceEqDiff,Nat.reduceAdd,Nat.reduceLT,Nat.reduceLeDiff,Nat.beq]
  rw [List.drop_eq_getElem_cons hi]
  repeat' ((try simp only [bcase_bind,bcase_map,tail_bcase]);refine bcase_split (fun hb=>?_) (fun hb=>?_)<;>try simp only [hb,eI,index_nat hi,List.getElem?_map,List.getElem?_eq_getElem hi,memAll,vAll,reduceCtorEq,Nat.reduceEqDiff,Nat.reduceAdd,Nat.reduceLT,Nat.reduceLeDiff,Nat.beq])
  ·rfl
  ·rfl
  ·rw [ih _ (by simp only [hi1];rfl)]
 ·intro rb
  simp only [fn62_b0,Int.lt_irrefl,eI,memAll,vAll,reduceCtorEq,Nat.reduceEqDiff,Nat.reduceAdd,Nat.reduceLT,Nat.reduceLeDiff,Nat.beq]
  rw [List.drop_length]
  rfl
theorem cal62 {l:List Int} (hl:l.length≤lim):cal env 62 [.list 1 (l.map eI)]=some [(.int .i64 (sizesErr l),false)]:=by
 rw [cal_code env62 rfl];simp only [fn62];simp only [start,z_map_cons,z_map_nil,z_len_cons,z_len_nil,z_repl_zero,z_repl_succ,z_cons_app,z_nil_app,Nat.reduceAdd,Nat.reduceSub]
 simp only [eI,memAll,vAll,reduceCtorEq,Nat.reduceEqDiff,Nat.reduceAdd,Nat.reduceLT,Nat.reduceLeDiff,Nat.beq]
 repeat' ((try simp only [bcase_bind,bcase_map,tail_bcase]);refine bcase_split (fun hb=>?_) (fun hb=>?_)<;>try simp only [hb,eI,memAll,vAll,reduceCtorEq,Nat.reduceEqDiff,Nat.reduceAdd,Nat.reduceLT,Nat.reduceLeDiff,Nat.beq])
 ·grind [sizesErr]
 ·grind [sizesErr]
 ·rw [loop62 hl]
  rotate_left
  ·rfl
  ·by_cases h:l.any (fun n=>decide (n<1) || decide (n > 4096))=true
   ·simp only [h,vAll,reduceCtorEq,Nat.reduceEqDiff,Nat.reduceAdd,Nat.reduceLT,Nat.reduceLeDiff,Nat.beq]
    grind [sizesErr]
   ·simp only [h,vAll,reduceCtorEq,Nat.reduceEqDiff,Nat.reduceAdd,Nat.reduceLT,Nat.reduceLeDiff,Nat.beq]
    grind [sizesErr]
theorem getD_get {α:Type} {l:List α} {i:Nat} {d:α} (h:i<l.length):l.getD i d=l[i]:=by simp [List.getD_eq_getElem?_getD,List.getElem?_eq_getElem h]
theorem cal118 {im:Img} {w:Wrt} (hl:im.length≤lim) (hr:∀ v∈im,v.length≤lim) (hd:w.data.length≤lim):cal env 118 [.list 1 (im.map eSecs),eWr w]=some [(.int .i64 (fitsErr im w),false)]:=by
 obtain ⟨v,s,d⟩:=w
 simp only [eWr] at *
 by_cases h0:0≤v∧v<im.length
 ·have h1:=index_int (k:=.i64) h0.1 h0.2
  have h2:v.toNat<im.length:=by omega
  have h3:=List.getElem?_eq_getElem h2
  have h4:im[v.toNat].length≤lim:=hr _ (List.getElem_mem h2)
  have h5:IntKind.i64.wrap ((im[v.toNat].length:Int) - d.length)=im[v.toNat].length - d.length:=i64_fits (by unfold lim at *;omega)
  rw [cal_code env118 rfl];simp only [fn118];simp only [start,z_map_cons,z_map_nil,z_len_cons,z_len_nil,z_repl_zero,z_repl_succ,z_cons_app,z_nil_app,Nat.reduceAdd,Nat.reduceSub]
  simp only [h1,h3,h5,eSecs,List.getElem?_map,memAll,vAll,reduceCtorEq,Nat.reduceEqDiff,Nat.reduceAdd,Nat.reduceLT,Nat.reduceLeDiff,Nat.beq]
  repeat' ((try simp only [bcase_bind,bcase_map,tail_bcase]);refine bcase_split (fun hb=>?_) (fun hb=>?_)<;>try simp only [hb,h1,h3,h5,eSecs,List.getElem?_map,memAll,vAll,reduceCtorEq,Nat.reduceEqDiff,Nat.reduceAdd,Nat.reduceLT,Nat.reduceLeDiff,Nat.beq])
  all_goals clear h1 h3 h5
  all_goals simp only [fitsErr,getD_get h2,decide_eq_true_eq,decide_eq_false_iff_not,beq_iff_eq,beq_eq_false_iff_ne,ne_eq,ge_iff_le,gt_iff_lt,Bool.and_eq_true,Bool.or_eq_true,Bool.not_eq_true',Bool.not_eq_false'] at *
  all_goals ((repeat' split)<;>first|rfl|(exfalso;omega))
 ·rw [cal_code env118 rfl];simp only [fn118];simp only [start,z_map_cons,z_map_nil,z_len_cons,z_len_nil,z_repl_zero,z_repl_succ,z_cons_app,z_nil_app,Nat.reduceAdd,Nat.reduceSub]
  simp only [eSecs,List.getElem?_map,index_b,memAll,vAll,reduceCtorEq,Nat.reduceEqDiff,Nat.reduceAdd,Nat.reduceLT,Nat.reduceLeDiff,Nat.beq]
  repeat' ((try simp only [bcase_bind,bcase_map,tail_bcase]);refine bcase_split (fun hb=>?_) (fun hb=>?_)<;>try simp only [hb,eSecs,List.getElem?_map,index_b,memAll,vAll,reduceCtorEq,Nat.reduceEqDiff,Nat.reduceAdd,Nat.reduceLT,Nat.reduceLeDiff,Nat.beq])
  all_goals simp only [fitsErr,decide_eq_true_eq,decide_eq_false_iff_not,beq_iff_eq,beq_eq_false_iff_ne,ne_eq,ge_iff_le,gt_iff_lt,Bool.and_eq_true,Bool.or_eq_true,Bool.not_eq_true',Bool.not_eq_false'] at *
  all_goals ((repeat' split)<;>first|rfl|(exfalso;omega))
theorem cal65 {im:Img} {w:Wrt} (hl:im.length≤lim) (hr:∀ v∈im,v.length≤lim) (hd:w.data.length≤lim):cal env 65 [.list 1 ((imSizes im).map eI),eWr w]=some [(.int .i64 (fitsErr im w),false)]:=by
 obtain ⟨v,s,d⟩:=w
 simp only [eWr,imSizes,List.map_map] at *
 by_cases h0:0≤v∧v<im.length
 ·have h1:=index_int (k:=.i64) h0.1 h0.2
  have h2:v.toNat<im.length:=by omega
  have h3:=List.getElem?_eq_getElem h2
  have h4:im[v.toNat].length≤lim:=hr _ (List.getElem_mem h2)
  by_cases h6:0≤s∧s<im[v.toNat].length
  ·have h5:IntKind.i64.wrap ((im[v.toNat].length:Int) - s)=im[v.toNat].length - s:=i64_fits (by unfold lim at *;omega)
   rw [cal_code env65 rfl];simp only [fn65];simp only [start,z_map_cons,z_map_nil,z_len_cons,z_len_nil,z_repl_zero,z_repl_succ,z_cons_app,z_nil_app,Nat.reduceAdd,Nat.reduceSub]
   simp only [h1,h3,h5,eI,List.getElem?_map,Function.comp_apply,memAll,vAll,reduceCtorEq,Nat.reduceEqDiff,Nat.reduceAdd,Nat.reduceLT,Nat.reduceLeDiff,Nat.beq]
   repeat' ((try simp only [bcase_bind,bcase_map,tail_bcase]);refine bcase_split (fun hb=>?_) (fun hb=>?_)<;>try simp only [hb,h1,h3,h5,eI,List.getElem?_map,Function.comp_apply,memAll,vAll,reduceCtorEq,Nat.reduceEqDiff,Nat.reduceAdd,Nat.reduceLT,Nat.reduceLeDiff,Nat.beq])
   all_goals clear h1 h3 h5
   all_goals simp only [fitsErr,getD_get h2,decide_eq_true_eq,decide_eq_false_iff_not,beq_iff_eq,beq_eq_false_iff_ne,ne_eq,ge_iff_le,gt_iff_lt,Bool.and_eq_true,Bool.or_eq_true,Bool.not_eq_true',Bool.not_eq_false'] at *
   all_goals ((repeat' split)<;>first|rfl|(exfalso;omega))
  ·--
   rw [cal_code env65 rfl];simp only [fn65];simp only [start,z_map_cons,z_map_nil,z_len_cons,z_len_nil,z_repl_zero,z_repl_succ,z_cons_app,z_nil_app,Nat.reduceAdd,Nat.reduceSub]
   simp only [h1,h3,eI,List.getElem?_map,Function.comp_apply,memAll,vAll,reduceCtorEq,Nat.reduceEqDiff,Nat.reduceAdd,Nat.reduceLT,Nat.reduceLeDiff,Nat.beq]
   repeat' ((try simp only [bcase_bind,bcase_map,tail_bcase]);refine bcase_split (fun hb=>?_) (fun hb=>?_)<;>try simp only [hb,h1,h3,eI,List.getElem?_map,Function.comp_apply,memAll,vAll,reduceCtorEq,Nat.reduceEqDiff,Nat.reduceAdd,Nat.reduceLT,Nat.reduceLeDiff,Nat.beq])
   all_goals clear h1 h3
   all_goals simp only [fitsErr,getD_get h2,decide_eq_true_eq,decide_eq_false_iff_not,beq_iff_eq,beq_eq_false_iff_ne,ne_eq,ge_iff_le,gt_iff_lt,Bool.and_eq_true,Bool.or_eq_true,Bool.not_eq_true',Bool.not_eq_false'] at *
   all_goals first|(exfalso;omega)|((repeat' split)<;>first|rfl|(exfalso;omega))
 ·rw [cal_code env65 rfl];simp only [fn65];simp only [start,z_map_cons,z_map_nil,z_len_cons,z_len_nil,z_repl_zero,z_repl_succ,z_cons_app,z_nil_app,Nat.reduceAdd,Nat.reduceSub]
  simp only [eI,List.getElem?_map,index_b,Function.comp_apply,memAll,vAll,reduceCtorEq,Nat.reduceEqDiff,Nat.reduceAdd,Nat.reduceLT,Nat.reduceLeDiff,Nat.beq]
  repeat' ((try simp only [bcase_bind,bcase_map,tail_bcase]);refine bcase_split (fun hb=>?_) (fun hb=>?_)<;>try simp only [hb,eI,List.getElem?_map,index_b,Function.comp_apply,memAll,vAll,reduceCtorEq,Nat.reduceEqDiff,Nat.reduceAdd,Nat.reduceLT,Nat.reduceLeDiff,Nat.beq])
  all_goals simp only [fitsErr,decide_eq_true_eq,decide_eq_false_iff_not,beq_iff_eq,beq_eq_false_iff_ne,ne_eq,ge_iff_le,gt_iff_lt,Bool.and_eq_true,Bool.or_eq_true,Bool.not_eq_true',Bool.not_eq_false'] at *
  all_goals first|(exfalso;omega)|((repeat' split)<;>first|rfl|(exfalso;omega))
theorem cal106 {im:Img} {w:Wrt} (hl:im.length≤lim) (hr:∀ v∈im,v.length≤lim) (hd:w.data.length≤lim):cal env 106 [.list 1 (im.map eSecs),eWr w]=some [(.int .i64 (imFits im w),false)]:=by
 have e1:=cal53 hl
 have e2:=cal118 (w:=w) hl hr hd
 simp only [eWr] at *
 rw [cal_code env106 rfl];simp only [fn106];simp only [start,z_map_cons,z_map_nil,z_len_cons,z_len_nil,z_repl_zero,z_repl_succ,z_cons_app,z_nil_app,Nat.reduceAdd,Nat.reduceSub]
 simp only [e1,e2,memAll,vAll,reduceCtorEq,Nat.reduceEqDiff,Nat.reduceAdd,Nat.reduceLT,Nat.reduceLeDiff,Nat.beq]
 repeat' ((try simp only [bcase_bind,bcase_map,tail_bcase]);refine bcase_split (fun hb=>?_) (fun hb=>?_)<;>try simp only [hb,e1,e2,memAll,vAll,reduceCtorEq,Nat.reduceEqDiff,Nat.reduceAdd,Nat.reduceLT,Nat.reduceLeDiff,Nat.beq])
 all_goals simp only [imFits,decide_eq_true_eq,decide_eq_false_iff_not,beq_iff_eq,beq_eq_false_iff_ne,ne_eq,ge_iff_le,gt_iff_lt,Bool.and_eq_true,Bool.or_eq_true,Bool.not_eq_true',Bool.not_eq_false'] at *
 all_goals ((repeat' split)<;>first|rfl|(exfalso;omega))
end Go.Proofs.YtpcncggjmabnaaaGreatDoor.V

namespace Go.Proofs.YtpcncggjmabnaaaGreatDoor
section
variable {env:Env}
theorem clean_upP {keep post:List Nat} {id nb:Nat} {b:VCode} (n:Nat) (P:Nat→Prop) (S:Nat→St) (R:Nat→Option (Ex × St)) {st:St} (h:st.head keep st.boxes.length=some (S 0)) (hP:P 0) (hS:∀ i,(S i).boxes.length=nb) (hh:∀ i,(S i).head keep nb=some (S i))
  (step:∀ i rb,i<n→P i→(P (i+1)→∀ s,s.head keep nb=some (S (i+1))→tailOf env id post nb (den env rb s)=R (i+1))→tailOf env id post nb ((den env b (S i)).bind (next env rb))=R i)
  (last:∀ rb,P n→tailOf env id post nb ((den env b (S n)).bind (next env rb))=R n) :
  den env (.clean keep post (.block id (.loop keep b))) st=R 0:=by
 refine clean_rec S R (fun i=>i≤n∧P i) (fun i=>n - i) 0 h ⟨Nat.zero_le _,hP⟩ hS hh fun i rb hi ih=>?_
 by_cases hn:i=n
 ·subst hn;exact last rb hi.2
 ·exact step i rb (by omega) hi.2 fun hp s hs=>ih (i+1) (by omega) ⟨by omega,hp⟩ s hs
end
end Go.Proofs.YtpcncggjmabnaaaGreatDoor

namespace Go.Proofs.YtpcncggjmabnaaaGreatDoor.V
def addAt (out:List Exn) (i:Nat):List Exn:=match out.getLast? with
 |some x=>if x.start+x.count=(i:Int) then out.dropLast++[⟨x.start,x.count+1⟩] else out++[⟨i,1⟩]
 |none=>[⟨i,1⟩]
def exts (l:List Nat):List Exn:=l.foldl addAt []
end Go.Proofs.YtpcncggjmabnaaaGreatDoor.V

namespace Go.Proofs.YtpcncggjmabnaaaGreatDoor.V
def ext (p:Nat→Bool) (n:Nat):List Exn:=exts ((List.range n).filter p)
def dep (i:Nat) (s:Nat):List End→Int
 |[]=>0
 |x :: l=>(if x.list=i∧x.pos≤s then x.step else 0)+dep i s l
def Asc:List End→Prop
 |[]=>True
 |[_]=>True
 |x :: y :: l=>x.pos≤y.pos∧Asc (y :: l)
theorem Asc.tail {x:End} {l:List End} (h:Asc (x :: l)):Asc l:=by
 cases l with
 |nil=>trivial
 |cons y l=>exact h.2
end Go.Proofs.YtpcncggjmabnaaaGreatDoor.V

namespace Go.Proofs.YtpcncggjmabnaaaGreatDoor.V
abbrev Wd:=BitVec 64
structure Bm where
 size:Int
 ws:List Wd
 deriving DecidableEq
def eW (w:Wd):PV:=.int .u64 (w.toNat:Int)
def eBm (b:Bm):PV:=.agg [.int .i64 b.size,.list 1 (b.ws.map eW)]
def bit (ws:List Wd) (i:Nat):Bool:=(ws.getD (i / 64) 0).getLsbD (i % 64)
theorem bit_at {ws:List Wd} {k:Nat} (h:k<ws.length) {j:Nat} (hj:j<64):bit ws (64 * k+j)=ws[k].getLsbD j:=by
 unfold bit
 have e1:(64 * k+j) / 64=k:=by omega
 have e2:(64 * k+j) % 64=j:=by omega
 rw [e1,e2];simp [h]
theorem bit_of {ws:List Wd} {i:Nat} (h:i / 64<ws.length):bit ws i=ws[i / 64].getLsbD (i % 64):=by
 unfold bit;simp [h]
theorem bit_out {ws:List Wd} {i:Nat} (h:64 * ws.length≤i):bit ws i=false:=by
 unfold bit
 have:ws.length≤i / 64:=by omega
 rw [List.getD_eq_getElem?_getD,List.getElem?_eq_none this];simp
theorem w_of (w:Wd):BitVec.ofInt 64 (w.toNat:Int)=w:=by
 apply BitVec.eq_of_toNat_eq
 have:=w.isLt
 rw [BitVec.toNat_ofInt]
 omega
theorem u64_wrap (n:Int):IntKind.u64.wrap n=n % 2 ^ 64:=by
 simp only [IntKind.wrap,IntKind.bits,IntKind.signed,Bool.false_and,Bool.false_eq_true,if_false]
theorem w_wrap (w:Wd):IntKind.u64.wrap (w.toNat:Int)=(w.toNat:Int):=by
 have:=w.isLt
 simp only [IntKind.wrap,IntKind.bits,IntKind.signed,Bool.false_and,Bool.false_eq_true,if_false]
 omega
theorem w_and (a b:Wd):IntKind.u64.wrap ((BitVec.ofInt IntKind.u64.bits (a.toNat:Int) &&& BitVec.ofInt IntKind.u64.bits (b.toNat:Int)).toNat:Int)=((a &&& b).toNat:Int):=by
 show IntKind.u64.wrap ((BitVec.ofInt 64 (a.toNat:Int) &&& BitVec.ofInt 64 (b.toNat:Int)).toNat:Int)=_
 rw [w_of,w_of,w_wrap]
theorem w_shr (w:Wd) {s:Int} {n:Nat} (hs:s=(n:Int)):(w.toNat:Int).fdiv (2 ^ (min s.toNat IntKind.u64.bits))=((w >>> n).toNat:Int):=by
 subst hs
 rw [BitVec.toNat_ushiftRight,Nat.shiftRight_eq_div_pow,Int.toNat_natCast]
 have hw:=w.isLt
 show (w.toNat:Int).fdiv (2 ^ (min n 64))=_
 by_cases h:n≤64
 ·have h2:(0:Int)≤2 ^ n:=by have:=Int.natCast_nonneg (2 ^ n);push_cast at this;exact this
  rw [Nat.min_eq_left h,Int.fdiv_eq_ediv_of_nonneg _ h2]
  push_cast
  rfl
 ·rw [Nat.min_eq_right (by omega),Int.fdiv_eq_ediv_of_nonneg _ (by decide)]
  have h1:w.toNat / 2 ^ n=0:=Nat.div_eq_of_lt (Nat.lt_of_lt_of_le hw (Nat.pow_le_pow_right (by decide) (by omega)))
  rw [h1]
  omega
theorem w_beq (a b:Wd):((a.toNat:Int)==(b.toNat:Int))=decide (a=b):=by
 by_cases h:a=b
 ·subst h;simp
 ·have:a.toNat≠b.toNat:=fun e=>h (BitVec.eq_of_toNat_eq e)
  simp [h];omega
/-! Masks. -/
def wdsN (n:Int):Int:=(n+63) / 64
def okB (b:Bm):Bool:=decide (0≤b.size∧b.size≤4096∧(b.ws.length:Int)=wdsN b.size)&&(List.range (64 * b.ws.length)).all fun (i:Nat)=>decide ((i:Int)<b.size) || !bit b.ws i
theorem okB_iff {b:Bm}:okB b=true ↔ (0≤b.size∧b.size≤4096∧(b.ws.length:Int)=wdsN b.size)∧∀ i:Nat,b.size≤(i:Int)→bit b.ws i=false:=by
 unfold okB
 simp only [Bool.and_eq_true,decide_eq_true_eq,List.all_eq_true,List.mem_range,Bool.or_eq_true,Bool.not_eq_true']
 refine and_congr Iff.rfl ⟨fun h i hi=>?_,fun h i hi=>?_⟩
 ·by_cases c:i<64 * b.ws.length
  ·exact (h i c).resolve_left (by omega)
  ·exact bit_out (by omega)
 ·by_cases c:(i:Int)<b.size
  ·exact .inl c
  ·exact .inr (h i (by omega))
theorem okB_size {b:Bm} (h:okB b=true):0≤b.size∧b.size≤4096∧b.ws.length≤64∧b.size≤64 * (b.ws.length:Int)∧64 * (b.ws.length:Int)<b.size+64:=by
 have:=(okB_iff.1 h).1
 unfold wdsN at this
 omega
theorem rest_iff {b:Bm} (h:0≤b.size∧b.size≤4096∧(b.ws.length:Int)=wdsN b.size):okB b=true ↔ (b.size % 64=0∨∀ (hw:b.ws.length - 1<b.ws.length),b.ws[b.ws.length - 1] >>> (b.size % 64).toNat=0):=by
 rw [okB_iff]
 unfold wdsN at h ⊢
 constructor
 ·rintro ⟨_,h2⟩
  by_cases c:b.size % 64=0
  ·exact .inl c
  ·refine .inr fun hw=>?_
   apply BitVec.eq_of_getLsbD_eq
   intro j hj
   rw [BitVec.getLsbD_ushiftRight]
   by_cases cj:(b.size % 64).toNat+j<64
   ·rw [← bit_at hw cj,h2 _ (by omega)];simp
   ·rw [BitVec.getLsbD_of_ge _ _ (by omega)];simp
 ·intro hr
  refine ⟨by omega,fun i hi=>?_⟩
  by_cases c:i<64 * b.ws.length
  ·have hw:b.ws.length - 1<b.ws.length:=by omega
   have hk:i / 64=b.ws.length - 1:=by omega
   rcases hr with hr|hr
   ·omega
   ·have:=congrArg (fun w:Wd=>w.getLsbD (i % 64 - (b.size % 64).toNat)) (hr hw)
    simp only [BitVec.getLsbD_ushiftRight,BitVec.getLsbD_zero] at this
    rw [show (b.size % 64).toNat+(i % 64 - (b.size % 64).toNat)=i % 64 by omega] at this
    rw [show i=64 * (b.ws.length - 1)+i % 64 by omega,bit_at hw (Nat.mod_lt _ (by decide))]
    simpa using this
  ·exact bit_out (by omega)
def bmE (b:Bm):Int:=if okB b then 0 else 3
end Go.Proofs.YtpcncggjmabnaaaGreatDoor.V

namespace Go.Proofs.YtpcncggjmabnaaaGreatDoor.V
theorem bmE_ok {b:Bm} (h:okB b=true):bmE b=0:=by unfold bmE;rw [if_pos h]
theorem bmE_no {b:Bm} (h:okB b=false):bmE b=3:=by unfold bmE;rw [if_neg (by rw [h];exact Bool.false_ne_true)]
theorem q64 {n:Int} (h:0≤n):(n+64 - 1).tdiv 64=wdsN n:=by
 unfold wdsN;rw [Int.tdiv_eq_ediv_of_nonneg (by omega)];congr 1;omega
theorem q63 {n:Int} (h:0≤n):(n+63).tdiv 64=wdsN n:=by
 unfold wdsN;rw [Int.tdiv_eq_ediv_of_nonneg (by omega)]
theorem z64:((64:Int)=0)=False:=eq_false (by decide)
theorem cal109 {n:Int} (h:0≤n∧n≤4096):cal env 109 [.int .i64 n]=some [(.int .i64 (wdsN n),false)]:=by
 have W1:IntKind.i64.wrap (n+64)=n+64:=i64_fits (by omega)
 have W2:IntKind.i64.wrap (n+64 - 1)=n+64 - 1:=i64_fits (by omega)
 have W3:IntKind.i64.wrap (wdsN n)=wdsN n:=i64_fits (by unfold wdsN;omega)
 rw [cal_code env109 rfl];simp only [fn109];simp only [start,z_map_cons,z_map_nil,z_len_cons,z_len_nil,z_repl_zero,z_repl_succ,z_cons_app,z_nil_app,Nat.reduceAdd,Nat.reduceSub]
 simp only [W1,W2,q64 h.1,W3,z64,memAll,vAll,reduceCtorEq,Nat.reduceEqDiff,Nat.reduceAdd,Nat.reduceLT,Nat.reduceLeDiff,Nat.beq]
theorem cal91 {b:Bm}:cal env 91 [eBm b]=some [(.int .i64 (bmE b),false)]:=by
 unfold eBm
 have P:∀ x y:PV,part [x,y] 0 (some 2)=some (.agg [x,y]):=fun _ _=>rfl
 by_cases c0:b.size<0
 ·have hE:bmE b=3:=bmE_no (by rw [Bool.eq_false_iff];intro h;have:=okB_size h;omega)
  rw [hE]
  rw [cal_code env91 rfl];simp only [fn91];simp only [start,z_map_cons,z_map_nil,z_len_cons,z_len_nil,z_repl_zero,z_repl_succ,z_cons_app,z_nil_app,Nat.reduceAdd,Nat.reduceSub]
  simp only [c0,P,memAll,vAll,reduceCtorEq,Nat.reduceEqDiff,Nat.reduceAdd,Nat.reduceLT,Nat.reduceLeDiff,Nat.beq]
 ·by_cases c1:b.size > 4096
  ·have hE:bmE b=3:=bmE_no (by rw [Bool.eq_false_iff];intro h;have:=okB_size h;omega)
   rw [hE]
   have F1:(b.size > 4096)=True:=eq_true c1
   rw [cal_code env91 rfl];simp only [fn91];simp only [start,z_map_cons,z_map_nil,z_len_cons,z_len_nil,z_repl_zero,z_repl_succ,z_cons_app,z_nil_app,Nat.reduceAdd,Nat.reduceSub]
   simp only [c0,F1,P,memAll,vAll,reduceCtorEq,Nat.reduceEqDiff,Nat.reduceAdd,Nat.reduceLT,Nat.reduceLeDiff,Nat.beq]
  ·have F1:(b.size > 4096)=False:=eq_false c1
   have e1:=cal109 (n:=b.size) (by omega)
   by_cases c2:(b.ws.length:Int)=wdsN b.size
   ·have F2:((b.ws.length:Int) != wdsN b.size)=false:=by simp [c2]
    have hr:=rest_iff (b:=b) ⟨by omega,by omega,c2⟩
    have hw:=c2
    unfold wdsN at hw
    have M:b.size.tmod 64=b.size % 64:=Int.tmod_eq_emod_of_nonneg (by omega)
    by_cases c3:b.size % 64=0
    ·have hE:bmE b=0:=bmE_ok (hr.2 (.inl c3))
     rw [hE]
     have F3:(b.size % 64 > 0)=False:=eq_false (by omega)
     rw [cal_code env91 rfl];simp only [fn91];simp only [start,z_map_cons,z_map_nil,z_len_cons,z_len_nil,z_repl_zero,z_repl_succ,z_cons_app,z_nil_app,Nat.reduceAdd,Nat.reduceSub]
     simp only [c0,F1,F2,F3,M,e1,z64,P,memAll,vAll,reduceCtorEq,Nat.reduceEqDiff,Nat.reduceAdd,Nat.reduceLT,Nat.reduceLeDiff,Nat.beq]
    ·have F3:(b.size % 64 > 0)=True:=eq_true (by omega)
     have hi:b.ws.length - 1<b.ws.length:=by omega
     have W:IntKind.i64.wrap ((b.ws.length:Int) - 1)=((b.ws.length - 1:Nat):Int):=by rw [i64_fits (by omega)];omega
     have S0:(b.size % 64<0)=False:=eq_false (by omega)
     have S:=w_shr b.ws[b.ws.length - 1] (s:=b.size % 64) (n:=(b.size % 64).toNat) (by omega)
     have B:=w_beq (b.ws[b.ws.length - 1] >>> (b.size % 64).toNat) 0
     have B0:((0:Wd).toNat:Int)=0:=rfl
     rw [B0] at B
     have B':(((b.ws[b.ws.length - 1] >>> (b.size % 64).toNat).toNat:Int) != 0)=!decide (b.ws[b.ws.length - 1] >>> (b.size % 64).toNat=0):=by unfold bne;rw [B]
     by_cases c4:b.ws[b.ws.length - 1] >>> (b.size % 64).toNat=0
     ·have hE:bmE b=0:=bmE_ok (hr.2 (.inr fun _=>c4))
      rw [hE]
      rw [decide_eq_true c4] at B'
      rw [cal_code env91 rfl];simp only [fn91];simp only [start,z_map_cons,z_map_nil,z_len_cons,z_len_nil,z_repl_zero,z_repl_succ,z_cons_app,z_nil_app,Nat.reduceAdd,Nat.reduceSub]
      simp only [c0,F1,F2,F3,M,e1,z64,P,W,S0,S,B',index_nat hi,eW,List.getElem?_map,List.getElem?_eq_getElem hi,memAll,vAll,reduceCtorEq,Nat.reduceEqDiff,Nat.reduceAdd,Nat.reduceLT,Nat.reduceLeDiff,Nat.beq]
     ·have hE:bmE b=3:=bmE_no (by
       rw [Bool.eq_false_iff];intro h
       rcases hr.1 h with h|h
       ·exact c3 h
       ·exact c4 (h hi))
      rw [hE]
      rw [decide_eq_false c4] at B'
      rw [cal_code env91 rfl];simp only [fn91];simp only [start,z_map_cons,z_map_nil,z_len_cons,z_len_nil,z_repl_zero,z_repl_succ,z_cons_app,z_nil_app,Nat.reduceAdd,Nat.reduceSub]
      simp only [c0,F1,F2,F3,M,e1,z64,P,W,S0,S,B',index_nat hi,eW,List.getElem?_map,List.getElem?_eq_getElem hi,memAll,vAll,reduceCtorEq,Nat.reduceEqDiff,Nat.reduceAdd,Nat.reduceLT,Nat.reduceLeDiff,Nat.beq]
   ·have F2:((b.ws.length:Int) != wdsN b.size)=true:=by simp [c2]
    have hE:bmE b=3:=bmE_no (by rw [Bool.eq_false_iff];intro h;exact c2 (okB_iff.1 h).1.2.2)
    rw [hE]
    rw [cal_code env91 rfl];simp only [fn91];simp only [start,z_map_cons,z_map_nil,z_len_cons,z_len_nil,z_repl_zero,z_repl_succ,z_cons_app,z_nil_app,Nat.reduceAdd,Nat.reduceSub]
    simp only [c0,F1,F2,e1,P,memAll,vAll,reduceCtorEq,Nat.reduceEqDiff,Nat.reduceAdd,Nat.reduceLT,Nat.reduceLeDiff,Nat.beq]
end Go.Proofs.YtpcncggjmabnaaaGreatDoor.V

namespace Go.Proofs.YtpcncggjmabnaaaGreatDoor.V
def tz (w:Wd):Nat:=Lib.ctz 64 w.toNat
end Go.Proofs.YtpcncggjmabnaaaGreatDoor.V

namespace Go.Proofs.YtpcncggjmabnaaaGreatDoor
def look:List (Nat × AV)→Nat→AV
 |[],_=>.any
 |(j,v) :: l,i=>bcase (Nat.beq i j) v (look l i)
def sl (n:Nat) (l:List (Nat × AV)):List AV:=(List.range n).map (look l)
def mapA (f:AV→AV):List (Nat × AV)→List (Nat × AV)
 |[]=>[]
 |(j,v) :: l=>(j,f v) :: mapA f l
def keepA (l:List (Nat × AV)):List Nat→List (Nat × AV)
 |[]=>[]
 |k :: ks=>(k,look l k) :: keepA l ks
def argsA:Nat→List PV→List (Nat × AV)
 |_,[]=>[]
 |k,v :: l=>(k,.pv v) :: argsA (k+1) l
def lowA (nb:Nat):List (Nat × AV)→Bool
 |[]=>true
 |(_,v) :: l=>AV.low nb v&&lowA nb l
def insA (n:Nat):List Nat→Bool
 |[]=>true
 |k :: ks=>decide (k<n)&&insA n ks
theorem look_hit (i:Nat) (v:AV) (l:List (Nat × AV)):look ((i,v) :: l) i=v:=by
 show bcase (Nat.beq i i) v _=v
 rw [Nat.beq_refl];rfl
theorem look_nil (i:Nat):look [] i=.any:=(rfl)
theorem sl_get {n i:Nat} {l:List (Nat × AV)} (h':i<n):(sl n l).getD i .any=look l i:=by
 simp [sl,List.getD_eq_getElem?_getD,h']
theorem sl_some {n i:Nat} {l:List (Nat × AV)} (h':i<n):(sl n l)[i]?=some (look l i):=by
 simp [sl,h']
theorem look_cons (l:List (Nat × AV)) (i j:Nat) (v:AV):look ((j,v) :: l) i=if i=j then v else look l i:=by
 show bcase (Nat.beq i j) v _=_
 by_cases h:i=j
 ·subst h;rw [Nat.beq_refl,if_pos rfl];rfl
 ·rw [if_neg h]
  have:Nat.beq i j=false:=by
   cases e:Nat.beq i j with
   |false=>rfl
   |true=>exact absurd (Nat.eq_of_beq_eq_true e) h
  rw [this];rfl
theorem sl_set (n i:Nat) (v:AV) (l:List (Nat × AV)):(sl n l).set i v=sl n ((i,v) :: l):=by
 apply List.ext_getElem (by simp [sl])
 intro k h1 h2
 have hk:k<n:=by simpa [sl] using h2
 simp only [sl,List.getElem_set,List.getElem_map,List.getElem_range,look_cons]
 by_cases h:i=k
 ·subst h;simp
 ·rw [if_neg h,if_neg (fun e=>h e.symm)]
theorem look_skip {i j:Nat} {v:AV} {l:List (Nat × AV)} (h:(i==j)=false):look ((j,v) :: l) i=look l i:=by
 rw [look_cons,if_neg (by simpa using h)]
theorem look_mapA (f:AV→AV) (hf:f .any=.any):∀ (l:List (Nat × AV)) (i:Nat),look (mapA f l) i=f (look l i)
 |[],i=>hf.symm
 |(j,v) :: l,i=>by
  show look ((j,f v) :: mapA f l) i=_
  rw [look_cons,look_cons,look_mapA f hf l i]
  split<;>rfl
theorem sl_map {f:AV→AV} (hf:f .any=.any) (n:Nat) (l:List (Nat × AV)):(sl n l).map f=sl n (mapA f l):=by
 unfold sl
 rw [List.map_map]
 apply List.map_congr_left
 intro i _
 exact (look_mapA f hf l i).symm
theorem sl_kill (n d:Nat) (l:List (Nat × AV)):(sl n l).map (AV.kill d)=sl n (mapA (AV.kill d) l):=sl_map rfl n l
theorem sl_killc (n d:Nat) (l:List (Nat × AV)):(sl n l).map (AV.killCell d)=sl n (mapA (AV.killCell d) l):=sl_map rfl n l
theorem sl_killa (n d y:Nat) (l:List (Nat × AV)):(sl n l).map (AV.killAt d y)=sl n (mapA (AV.killAt d y) l):=sl_map rfl n l
theorem sl_froze (n:Nat) (l:List (Nat × AV)):(sl n l).map AV.froze=sl n (mapA AV.froze l):=sl_map rfl n l
theorem mapA_nil (f:AV→AV):mapA f []=[]:=(rfl)
theorem mapA_cons (f:AV→AV) (j:Nat) (v:AV) (l:List (Nat × AV)):mapA f ((j,v) :: l)=(j,f v) :: mapA f l:=(rfl)
theorem keepA_nil (l:List (Nat × AV)):keepA l []=[]:=(rfl)
theorem keepA_cons (l:List (Nat × AV)) (k:Nat) (ks:List Nat):keepA l (k :: ks)=(k,look l k) :: keepA l ks:=(rfl)
theorem lowA_nil (nb:Nat):lowA nb []=true:=(rfl)
theorem lowA_cons (nb k:Nat) (v:AV) (l:List (Nat × AV)):lowA nb ((k,v) :: l)=(AV.low nb v&&lowA nb l):=(rfl)
theorem insA_nil (n:Nat):insA n []=true:=(rfl)
theorem insA_cons (n k:Nat) (l:List Nat):insA n (k :: l)=(decide (k<n)&&insA n l):=(rfl)
theorem argsA_nil (k:Nat):argsA k []=[]:=(rfl)
theorem argsA_cons (k:Nat) (v:PV) (l:List PV):argsA k (v :: l)=(k,.pv v) :: argsA (k+1) l:=(rfl)
theorem look_keepA (l:List (Nat × AV)):∀ (ks:List Nat) (i:Nat),look (keepA l ks) i=if ks.contains i then look l i else .any
 |[],i=>rfl
 |k :: ks,i=>by
  rw [keepA_cons,look_cons,look_keepA l ks i,List.contains_cons]
  by_cases h:i=k
  ·subst h;simp
  ·have:(i==k)=false:=by simpa using h
   rw [if_neg h,this,Bool.false_or]
theorem lowA_iff (nb n:Nat) (l:List (Nat × AV)):∀ ks:List Nat,insA n ks=true→(lowA nb (keepA l ks)=true ↔ ∀ k∈ks,(look l k).low nb=true)
 |[],_=>by simp [keepA,lowA]
 |k :: ks,h=>by
  rw [insA_cons,Bool.and_eq_true] at h
  rw [keepA_cons,lowA_cons,Bool.and_eq_true,lowA_iff nb n l ks h.2]
  simp
theorem head_sl {n nb:Nat} {l:List (Nat × AV)} {keep:List Nat} {bx:List Box} {ys:List (List PV)} {sp:Option (Option Nat)} (h:insA n keep=true) (hb:nb≤bx.length) (hl:lowA nb (keepA l keep)=true) :
  St.head ⟨sl n l,bx,ys,sp⟩ keep nb=some ⟨sl n (keepA l keep),bx.take nb,ys,sp⟩:=by
 have e:((sl n l).zipIdx.map fun (v,i)=>if keep.contains i then v else AV.any)=sl n (keepA l keep):=by
  apply List.ext_getElem (by simp [sl])
  intro i h1 h2
  simp only [sl,List.getElem_map,List.getElem_zipIdx,List.getElem_range,look_keepA,Nat.zero_add]
 unfold St.head
 simp only
 rw [e,if_pos]
 rw [Bool.and_eq_true,decide_eq_true_eq]
 refine ⟨?_,hb⟩
 rw [List.all_eq_true]
 intro v hv
 unfold sl at hv
 obtain ⟨i,hi,rfl⟩:=List.mem_map.1 hv
 rw [look_keepA]
 split
 ·rename_i hc
  exact (lowA_iff nb n l keep h).1 hl i (by simpa using hc)
 ·rfl
theorem clean_sl {n nb:Nat} {e:Ex} {l:List (Nat × AV)} {keep:List Nat} {bx:List Box} {ys:List (List PV)} {sp:Option (Option Nat)} (h:insA n keep=true) (hb:nb≤bx.length) (hl:lowA nb (keepA l keep)=true) :
  cleanEnd keep nb (e,⟨sl n l,bx,ys,sp⟩)=some (e,⟨sl n (keepA l keep),bx.take nb,ys,sp⟩):=by
 unfold cleanEnd
 simp only
 rw [head_sl h hb hl]
 rfl
theorem look_argsA:∀ (l:List PV) (k i:Nat),look (argsA k l) i=if k≤i then ((l[i - k]?).map AV.pv).getD .any else .any:=by
 intro l
 induction l with
 |nil=>intro k i;simp [argsA,look]
 |cons v l ih =>
  intro k i
  rw [argsA_cons,look_cons,ih]
  by_cases h1:i=k
  ·subst h1;simp
  ·rw [if_neg h1]
   by_cases h2:k≤i
   ·rw [if_pos (by omega),if_pos h2,show i - k=(i - (k+1))+1 by omega,List.getElem?_cons_succ]
   ·rw [if_neg (by omega),if_neg h2]
theorem startL_sl {n:Nat} {x:LArg} {args:List PV} (hn:args.length+1≤n):startL n x args=⟨sl n ((0,x.av) :: argsA 1 args),x.boxes,[],none⟩:=by
 unfold startL
 congr 1
 apply List.ext_getElem (by simp [sl];omega)
 intro i h1 h2
 simp only [sl,List.getElem_map,List.getElem_range,look_cons,look_argsA]
 cases i with
 |zero=>simp
 |succ i =>
  rw [List.getElem_cons_succ,if_neg (by omega),if_pos (by omega),show i+1 - 1=i by omega]
  by_cases hi:i<args.length
  ·rw [List.getElem_append_left (by simpa using hi)]
   simp [hi]
  ·rw [List.getElem_append_right (by simp;omega)]
   simp [hi]
theorem start_sl {n:Nat} {args:List PV} (hn:args.length≤n):start n args=⟨sl n (argsA 0 args),[],[],none⟩:=by
 have key:=look_argsA
 unfold start
 congr 1
 apply List.ext_getElem (by simp [sl];omega)
 intro i h1 h2
 simp only [sl,List.getElem_map,List.getElem_range,key,Nat.zero_le,if_true,Nat.sub_zero]
 by_cases hi:i<args.length
 ·rw [List.getElem_append_left (by simpa using hi)]
  simp [hi]
 ·rw [List.getElem_append_right (by simp;omega)]
  simp [hi]
theorem low_pv (nb:Nat) (v:PV):AV.low nb (.pv v)=true:=(rfl)
theorem low_any (nb:Nat):AV.low nb .any=true:=(rfl)
theorem low_yld (nb:Nat):AV.low nb .yld=true:=(rfl)
theorem low_row (nb sz:Nat) (es:List PV):AV.low nb (.row sz es)=true:=(rfl)
theorem low_pbox (nb o j:Nat):AV.low nb (.pbox o j)=decide (o<nb):=(rfl)
theorem low_refs (nb t off len:Nat):AV.low nb (.ref (.slot t) off len)=true:=(rfl)
theorem low_refc (nb o j off len:Nat):AV.low nb (.ref (.cell o j) off len)=decide (o<nb):=(rfl)
theorem low_pels (nb t i j:Nat):AV.low nb (.pel (.slot t) i j)=true:=(rfl)
theorem low_pelc (nb o q i j:Nat):AV.low nb (.pel (.cell o q) i j)=decide (o<nb):=(rfl)
theorem low_fn (nb f:Nat) (caps:List AV):AV.low nb (.fn f caps)=caps.all fun c=>match c with
  |.pv _=>true
  |.pbox o _=>o<nb
  |_=>false:=(rfl)
def slAll:=And.intro @look_hit (And.intro @look_skip (And.intro @look_nil (And.intro @sl_get (And.intro @sl_some (And.intro @sl_set (And.intro @sl_kill (And.intro (And.intro @sl_killc @sl_killa) (And.intro @sl_froze (And.intro @mapA_nil (And.intro @mapA_cons (And.intro @keepA_nil (And.intro @keepA_cons (And.intro @lowA_nil (And.intro @lowA_cons (And.intro @insA_nil (And.intro @insA_cons (And.intro @argsA_nil (And.intro @argsA_cons (And.intro @head_sl (And.intro @clean_sl (And.intro @start_sl (And.intro @startL_sl (And.intro @low_pv (And.intro @low_any (And.intro @low_yld (And.intro @low_row (And.intro @low_pbox (And.intro @low_refs (And.intro @low_refc (And.intro @low_pels (And.intro @low_pelc (@low_fn))))))))))))))))))))))))))))))))
end Go.Proofs.YtpcncggjmabnaaaGreatDoor

namespace Go.Proofs.YtpcncggjmabnaaaGreatDoor.V
end Go.Proofs.YtpcncggjmabnaaaGreatDoor.V

namespace Go.Proofs.YtpcncggjmabnaaaGreatDoor.V
theorem w_bit (w:Wd) (s:Nat):(w >>> s &&& 1==(1:Wd))=w.getLsbD s:=by
 have h:w >>> s &&& 1=if w.getLsbD s then 1 else 0:=by
  apply BitVec.eq_of_getLsbD_eq
  intro j hj
  rw [BitVec.getLsbD_and,BitVec.getLsbD_ushiftRight]
  cases j with
  |zero=>cases h:w.getLsbD s<;>simp [h]
  |succ j =>
   have:(1:Wd).getLsbD (j+1)=false:=by
    rw [show (1:Wd)=1#64 from rfl,BitVec.getLsbD_one];simp
   rw [this,Bool.and_false]
   cases w.getLsbD s<;>simp
 rw [h]
 cases w.getLsbD s<;>rfl
theorem cal111 {b:Bm} {i:Nat} (h:i / 64<b.ws.length) (hi:i≤1000000):cal env 111 [eBm b,.int .i64 (i:Nat)]=some [(.bool (bit b.ws i),false)]:=by
 unfold eBm
 have T1:(i:Int).tdiv 64=((i / 64:Nat):Int):=by rw [Int.tdiv_eq_ediv_of_nonneg (by omega)];omega
 have T2:(i:Int).tmod 64=((i % 64:Nat):Int):=by rw [Int.tmod_eq_emod_of_nonneg (by omega)];omega
 have W1:IntKind.i64.wrap ((i / 64:Nat):Int)=((i / 64:Nat):Int):=i64_fits (by omega)
 have W2:IntKind.u64.wrap ((i % 64:Nat):Int)=((i % 64:Nat):Int):=by rw [u64_wrap];omega
 have S0:(((i % 64:Nat):Int)<0)=False:=eq_false (by omega)
 have S1:=w_shr b.ws[i / 64] (s:=((i % 64:Nat):Int)) (n:=i % 64) rfl
 have S2:=w_and (b.ws[i / 64] >>> (i % 64)) 1
 have B1:((1:Wd).toNat:Int)=1:=rfl
 have S3:=w_beq (b.ws[i / 64] >>> (i % 64) &&& 1) 1
 rw [B1] at S2 S3
 have S4:decide (b.ws[i / 64] >>> (i % 64) &&& 1=(1:Wd))=bit b.ws i:=by rw [bit_of h,← w_bit];rfl
 rw [S4] at S3
 rw [cal_code env111 rfl];simp only [fn111];simp only [start,z_map_cons,z_map_nil,z_len_cons,z_len_nil,z_repl_zero,z_repl_succ,z_cons_app,z_nil_app,Nat.reduceAdd,Nat.reduceSub]
 simp only [z64,T1,T2,W1,W2,S0,S1,S2,S3,eW,index_nat h,List.getElem?_map,List.getElem?_eq_getElem h,memAll,vAll,reduceCtorEq,Nat.reduceEqDiff,Nat.reduceAdd,Nat.reduceLT,Nat.reduceLeDiff,Nat.beq]
def anyFrom (ws:List Wd) (k:Nat):Bool:=(List.range (64 * ws.length)).any fun i=>decide (k≤i)&&bit ws i
theorem anyFrom_iff {ws:List Wd} {k:Nat}:anyFrom ws k=true ↔ ∃ i,k≤i∧i<64 * ws.length∧bit ws i=true:=by
 simp only [anyFrom,List.any_eq_true,List.mem_range,Bool.and_eq_true,decide_eq_true_eq]
 exact ⟨fun ⟨i,h1,h2,h3⟩=>⟨i,h2,h1,h3⟩,fun ⟨i,h1,h2,h3⟩=>⟨i,h2,h1,h3⟩⟩
theorem anyFrom_succ {ws:List Wd} {k:Nat} (h:bit ws k=false):anyFrom ws k=anyFrom ws (k+1):=by
 rw [Bool.eq_iff_iff,anyFrom_iff,anyFrom_iff]
 constructor
 ·rintro ⟨j,h1,h2,h3⟩
  have:j≠k:=fun e=>by rw [e,h] at h3;cases h3
  exact ⟨j,by omega,h2,h3⟩
 ·rintro ⟨j,h1,h2,h3⟩
  exact ⟨j,by omega,h2,h3⟩
theorem loop92 {b:Bm} {s:Nat} (hs:b.size=(s:Int)) (hl:b.ws.length≤64) (hsl:s≤64 * b.ws.length) {st:St} (h:st.head [1,3] st.boxes.length=some ⟨[.any,.pbox 0 0,.any,.pv (.int .i64 ((s+(0:Nat):Nat):Int)),.any,.any,.any,.any,.any,.any,.any,.any,.any,.any,.any,.any,.any,.any,.any,.any,.any,.any,.any,.any,.any,.any,.any,.any,.any,.any,.any,.any,.any,.any,.any],[⟨false,[.pv (.int .i64 b.size),.pv (.list 1 (b.ws.map eW))]⟩],[],none⟩) :
  den env fn92_l1 st=if anyFrom b.ws (s+(0:Nat)) then some (.ret,⟨[.any,.any,.pv (.int .i64 3),.any,.any,.any,.any,.any,.any,.any,.any,.any,.any,.any,.any,.any,.any,.any,.any,.any,.any,.any,.any,.any,.any,.any,.any,.any,.any,.any,.any,.any,.any,.any,.any],[⟨false,[.pv (.int .i64 b.size),.pv (.list 1 (b.ws.map eW))]⟩],[],none⟩) else some (.normal,⟨[.any,.any,.any,.any,.any,.any,.any,.any,.any,.any,.any,.any,.any,.any,.any,.any,.any,.any,.any,.any,.any,.any,.any,.any,.any,.any,.any,.any,.any,.any,.any,.any,.any,.any,.any],[⟨false,[.pv (.int .i64 b.size),.pv (.list 1 (b.ws.map eW))]⟩],[],none⟩):=by
 unfold fn92_l1
 refine clean_up (env:=env) (64 * b.ws.length - s) (fun i=>⟨[.any,.pbox 0 0,.any,.pv (.int .i64 ((s+i:Nat):Int)),.any,.any,.any,.any,.any,.any,.any,.any,.any,.any,.any,.any,.any,.any,.any,.any,.any,.any,.any,.any,.any,.any,.any,.any,.any,.any,.any,.any,.any,.any,.any],[⟨false,[.pv (.int .i64 b.size),.pv (.list 1 (b.ws.map eW))]⟩],[],none⟩) (fun i=>if anyFrom b.ws (s+i) then some (.ret,⟨[.any,.any,.pv (.int .i64 3),.any,.any,.any,.any,.any,.any,.any,.any,.any,.any,.any,.any,.any,.any,.any,.any,.any,.any,.any,.any,.any,.any,.any,.any,.any,.any,.any,.any,.any,.any,.any,.any],[⟨false,[.pv (.int .i64 b.size),.pv (.list 1 (b.ws.map eW))]⟩],[],none⟩) else some (.normal,⟨[.any,.any,.any,.any,.any,.any,.any,.any,.any,.any,.any,.any,.any,.any,.any,.any,.any,.any,.any,.any,.any,.any,.any,.any,.any,.any,.any,.any,.any,.any,.any,.any,.any,.any,.any],[⟨false,[.pv (.int .i64 b.size),.pv (.list 1 (b.ws.map eW))]⟩],[],none⟩)) h (fun _=>rfl) (fun _=>rfl) ?_ ?_
 ·intro i rb hi ih
  have hi1:IntKind.i64.wrap (((s+i:Nat):Int)+1)=((s+(i+1):Nat):Int):=by rw [i64_fits (by omega)];omega
  have W1:IntKind.i64.wrap (64 * (b.ws.length:Int))=64 * (b.ws.length:Int):=i64_fits (by omega)
  have F1:(((s+i:Nat):Int)<64 * (b.ws.length:Int))=True:=eq_true (by omega)
  have e1:=cal111 (b:=b) (i:=s+i) (by omega) (by omega)
  have P2:part [PV.int .i64 b.size,.list 1 (b.ws.map fun w=>PV.int .u64 (w.toNat:Int))] 0 (some 2)=some (.agg [PV.int .i64 b.size,.list 1 (b.ws.map fun w=>PV.int .u64 (w.toNat:Int))]):=rfl
  unfold eBm at e1
  unfold eW at e1 ih ⊢
  cases c:bit b.ws (s+i) with
  |true =>
   rw [c] at e1
   have h:anyFrom b.ws (s+i)=true:=anyFrom_iff.2 ⟨s+i,by omega,by omega,c⟩
   rw [if_pos h]
   simp only [fn92_b0,F1,W1,e1,P2,List.length_map,memAll,vAll,reduceCtorEq,Nat.reduceEqDiff,Nat.reduceAdd,Nat.reduceLT,Nat.reduceLeDiff,Nat.beq]
   rfl
  |false =>
   rw [c] at e1
   have h:=anyFrom_succ c
   simp only [fn92_b0,F1,W1,e1,P2,List.length_map,memAll,vAll,reduceCtorEq,Nat.reduceEqDiff,Nat.reduceAdd,Nat.reduceLT,Nat.reduceLeDiff,Nat.beq]
   rw [ih _ (by simp only [hi1];rfl),h]
   rfl
 ·intro rb
  have W1:IntKind.i64.wrap (64 * (b.ws.length:Int))=64 * (b.ws.length:Int):=i64_fits (by omega)
  have F1:(((s+(64 * b.ws.length - s):Nat):Int)<64 * (b.ws.length:Int))=False:=eq_false (by omega)
  rw [if_neg (by rw [anyFrom_iff];rintro ⟨j,h1,h2,_⟩;omega)]
  simp only [fn92_b0,F1,W1,List.length_map,memAll,vAll,reduceCtorEq,Nat.reduceEqDiff,Nat.reduceAdd,Nat.reduceLT,Nat.reduceLeDiff,Nat.beq]
  rfl
end Go.Proofs.YtpcncggjmabnaaaGreatDoor.V

namespace Go.Proofs.YtpcncggjmabnaaaGreatDoor.V
theorem cal92 {b:Bm}:cal env 92 [eBm b]=some [(.int .i64 (bmE b),false)]:=by
 unfold eBm
 have P:∀ x y:PV,part [x,y] 0 (some 2)=some (.agg [x,y]):=fun _ _=>rfl
 by_cases c0:b.size<0
 ·have hE:bmE b=3:=bmE_no (by rw [Bool.eq_false_iff];intro h;have:=okB_size h;omega)
  rw [hE]
  rw [cal_code env92 rfl];simp only [fn92];simp only [start,z_map_cons,z_map_nil,z_len_cons,z_len_nil,z_repl_zero,z_repl_succ,z_cons_app,z_nil_app,Nat.reduceAdd,Nat.reduceSub]
  simp only [c0,P,memAll,vAll,reduceCtorEq,Nat.reduceEqDiff,Nat.reduceAdd,Nat.reduceLT,Nat.reduceLeDiff,Nat.beq]
 ·by_cases c1:b.size > 4096
  ·have hE:bmE b=3:=bmE_no (by rw [Bool.eq_false_iff];intro h;have:=okB_size h;omega)
   rw [hE]
   have F1:(b.size > 4096)=True:=eq_true c1
   rw [cal_code env92 rfl];simp only [fn92];simp only [start,z_map_cons,z_map_nil,z_len_cons,z_len_nil,z_repl_zero,z_repl_succ,z_cons_app,z_nil_app,Nat.reduceAdd,Nat.reduceSub]
   simp only [c0,F1,P,memAll,vAll,reduceCtorEq,Nat.reduceEqDiff,Nat.reduceAdd,Nat.reduceLT,Nat.reduceLeDiff,Nat.beq]
  ·have F1:(b.size > 4096)=False:=eq_false c1
   have W0:IntKind.i64.wrap (b.size+63)=b.size+63:=i64_fits (by omega)
   have W3:IntKind.i64.wrap (wdsN b.size)=wdsN b.size:=i64_fits (by unfold wdsN;omega)
   have T:=q63 (n:=b.size) (by omega)
   by_cases c2:(b.ws.length:Int)=wdsN b.size
   ·have F2:((b.ws.length:Int) != wdsN b.size)=false:=by simp [c2]
    have hw:=c2
    unfold wdsN at hw
    have hs:b.size=((b.size.toNat:Nat):Int):=by omega
    rw [cal_code env92 rfl];simp only [fn92];simp only [start,z_map_cons,z_map_nil,z_len_cons,z_len_nil,z_repl_zero,z_repl_succ,z_cons_app,z_nil_app,Nat.reduceAdd,Nat.reduceSub]
    simp only [c0,F1,F2,W0,W3,T,z64,P,List.length_map,memAll,vAll,reduceCtorEq,Nat.reduceEqDiff,Nat.reduceAdd,Nat.reduceLT,Nat.reduceLeDiff,Nat.beq]
    rw [loop92 (b:=b) (s:=b.size.toNat) hs (by omega) (by omega)]
    rotate_left
    ·rw [Nat.add_zero,← hs];rfl
    ·cases c:okB b with
     |true =>
      rw [bmE_ok c,if_neg]
      ·simp only [c0,F1,F2,W0,W3,T,z64,P,List.length_map,memAll,vAll,reduceCtorEq,Nat.reduceEqDiff,Nat.reduceAdd,Nat.reduceLT,Nat.reduceLeDiff,Nat.beq]
      ·rw [anyFrom_iff]
       rintro ⟨i,h1,h2,h3⟩
       rw [(okB_iff.1 c).2 i (by omega)] at h3
       cases h3
     |false =>
      rw [bmE_no c,if_pos]
      ·simp only [c0,F1,F2,W0,W3,T,z64,P,List.length_map,memAll,vAll,reduceCtorEq,Nat.reduceEqDiff,Nat.reduceAdd,Nat.reduceLT,Nat.reduceLeDiff,Nat.beq]
      ·rw [anyFrom_iff]
       apply Classical.byContradiction
       intro hn
       have:okB b=true:=okB_iff.2 ⟨⟨by omega,by omega,c2⟩,fun i hi=>by
        by_cases hl:i<64 * b.ws.length
        ·cases hb:bit b.ws i with
         |false=>rfl
         |true=>exact absurd ⟨i,by omega,hl,hb⟩ hn
        ·exact bit_out (by omega)⟩
       rw [this] at c;cases c
   ·have F2:((b.ws.length:Int) != wdsN b.size)=true:=by simp [c2]
    have hE:bmE b=3:=bmE_no (by rw [Bool.eq_false_iff];intro h;exact c2 (okB_iff.1 h).1.2.2)
    rw [hE]
    rw [cal_code env92 rfl];simp only [fn92];simp only [start,z_map_cons,z_map_nil,z_len_cons,z_len_nil,z_repl_zero,z_repl_succ,z_cons_app,z_nil_app,Nat.reduceAdd,Nat.reduceSub]
    simp only [c0,F1,F2,W0,W3,T,z64,P,List.length_map,memAll,vAll,reduceCtorEq,Nat.reduceEqDiff,Nat.reduceAdd,Nat.reduceLT,Nat.reduceLeDiff,Nat.beq]
end Go.Proofs.YtpcncggjmabnaaaGreatDoor.V

namespace Go.Proofs.YtpcncggjmabnaaaGreatDoor.V
end Go.Proofs.YtpcncggjmabnaaaGreatDoor.V

namespace Go.Proofs.YtpcncggjmabnaaaGreatDoor.V
theorem cal72 {n a b:Int}:cal env 72 [.int .i64 n,.int .i64 a,.int .i64 b]=some [(.bool (decide (a≤n)&&decide (n≤b)),false)]:=by
 by_cases h:a≤n
 ·have F1:(a≤n)=True:=eq_true h
  rw [cal_code env72 rfl];simp only [fn72,slAll,Nat.reduceBEq,Nat.reduceLeDiff,Nat.reduceAdd,List.length_cons,List.length_nil]
  simp only [F1,slAll,slsAll,Nat.reduceMul,Nat.reduceBEq,Nat.reduceLT,Nat.reduceLeDiff,memAll,vAll,reduceCtorEq,Nat.reduceEqDiff,Nat.reduceAdd,Nat.reduceLT,Nat.reduceLeDiff,Nat.beq]
 ·have F1:(a≤n)=False:=eq_false h
  rw [cal_code env72 rfl];simp only [fn72,slAll,Nat.reduceBEq,Nat.reduceLeDiff,Nat.reduceAdd,List.length_cons,List.length_nil]
  simp only [F1,slAll,slsAll,Nat.reduceMul,Nat.reduceBEq,Nat.reduceLT,Nat.reduceLeDiff,memAll,vAll,reduceCtorEq,Nat.reduceEqDiff,Nat.reduceAdd,Nat.reduceLT,Nat.reduceLeDiff,Nat.beq]
def badT (n:Int):Bool:=!(decide (0≤n)&&decide (n≤1073741824))
def posE (l:List Int):Int:=if 8<l.length then 6 else if l.any badT then 2 else 0
theorem cal103 {n:Int}:cal env 103 [eI n]=some [(.bool (badT n),false)]:=by
 have e1:=cal72 (n:=n) (a:=0) (b:=1073741824)
 unfold eI
 rw [cal_code env103 rfl];simp only [fn103,slAll,Nat.reduceBEq,Nat.reduceLeDiff,Nat.reduceAdd,List.length_cons,List.length_nil]
 simp only [e1,badT,slAll,slsAll,Nat.reduceMul,Nat.reduceBEq,Nat.reduceLT,Nat.reduceLeDiff,memAll,vAll,reduceCtorEq,Nat.reduceEqDiff,Nat.reduceAdd,Nat.reduceLT,Nat.reduceLeDiff,Nat.beq]
theorem cal73 {l:List Int} (hl:l.length≤20):cal env 73 [.list 1 (l.map eI),.int .i64 0]=some [(.int .i64 (posE l),false)]:=by
 have e1:=cal72 (n:=(l.length:Int)) (a:=0) (b:=8)
 have e2:=cal101 (l:=l) (enc:=eI) (caps:=[]) (fun x _=>cal103 (n:=x)) (fun x=>rfl) (Nat.le_trans hl (by decide))
 unfold posE
 by_cases h:8<l.length
 ·have G:(decide ((0:Int)≤l.length)&&decide ((l.length:Int)≤8))=false:=by simp;omega
  rw [G] at e1
  rw [if_pos h]
  rw [cal_code env73 rfl];simp only [fn73,slAll,Nat.reduceBEq,Nat.reduceLeDiff,Nat.reduceAdd,List.length_cons,List.length_nil]
  simp only [e1,List.length_map,slAll,slsAll,Nat.reduceMul,Nat.reduceBEq,Nat.reduceLT,Nat.reduceLeDiff,memAll,vAll,reduceCtorEq,Nat.reduceEqDiff,Nat.reduceAdd,Nat.reduceLT,Nat.reduceLeDiff,Nat.beq]
 ·have G:(decide ((0:Int)≤l.length)&&decide ((l.length:Int)≤8))=true:=by simp;omega
  rw [G] at e1
  rw [if_neg h]
  cases hb:l.any badT with
  |true =>
   rw [hb] at e2
   rw [cal_code env73 rfl];simp only [fn73,slAll,Nat.reduceBEq,Nat.reduceLeDiff,Nat.reduceAdd,List.length_cons,List.length_nil]
   simp only [e1,e2,List.length_map,slAll,slsAll,Nat.reduceMul,Nat.reduceBEq,Nat.reduceLT,Nat.reduceLeDiff,memAll,vAll,reduceCtorEq,Nat.reduceEqDiff,Nat.reduceAdd,Nat.reduceLT,Nat.reduceLeDiff,Nat.beq]
  |false =>
   rw [hb] at e2
   rw [cal_code env73 rfl];simp only [fn73,slAll,Nat.reduceBEq,Nat.reduceLeDiff,Nat.reduceAdd,List.length_cons,List.length_nil]
   simp only [e1,e2,List.length_map,slAll,slsAll,Nat.reduceMul,Nat.reduceBEq,Nat.reduceLT,Nat.reduceLeDiff,memAll,vAll,reduceCtorEq,Nat.reduceEqDiff,Nat.reduceAdd,Nat.reduceLT,Nat.reduceLeDiff,Nat.beq]
theorem loop81 {l:List Int} (hl:l.length≤lim) {st:St} (h:st.head [0,3] st.boxes.length=some ⟨[.pv (.list 1 (l.map eI)),.any,.any,.pv (.int .i64 (0:Nat)),.any,.any,.any,.any,.any,.any,.any,.any,.any,.any,.any,.any,.any,.any,.any,.any,.any,.any],[],[],none⟩) :
  den env fn81_l1 st=if l.any badT then some (.ret,⟨[.any,.any,.pv (.int .i64 2),.any,.any,.any,.any,.any,.any,.any,.any,.any,.any,.any,.any,.any,.any,.any,.any,.any,.any,.any],[],[],none⟩) else some (.normal,⟨[.any,.any,.any,.any,.any,.any,.any,.any,.any,.any,.any,.any,.any,.any,.any,.any,.any,.any,.any,.any,.any,.any],[],[],none⟩):=by
 unfold fn81_l1
 rw [ clean_up (env:=env) (l.length) (fun i=>⟨[.pv (.list 1 (l.map eI)),.any,.any,.pv (.int .i64 i),.any,.any,.any,.any,.any,.any,.any,.any,.any,.any,.any,.any,.any,.any,.any,.any,.any,.any],[],[],none⟩) (fun i=>if (l.drop i).any badT then some (.ret,⟨[.any,.any,.pv (.int .i64 2),.any,.any,.any,.any,.any,.any,.any,.any,.any,.any,.any,.any,.any,.any,.any,.any,.any,.any,.any],[],[],none⟩) else some (.normal,⟨[.any,.any,.any,.any,.any,.any,.any,.any,.any,.any,.any,.any,.any,.any,.any,.any,.any,.any,.any,.any,.any,.any],[],[],none⟩)) h (fun _=>rfl) (fun _=>rfl) ?_ ?_]
 ·first|rfl|simp only [List.drop_zero,List.take_zero,List.map_nil,Nat.zero_add,List.nil_append,List.foldl_nil]
 ·intro i rb hi ih
  have hi1:=i64_next hi hl
  have F1:((i:Int)<(l.length:Int))=True:=eq_true (by omega)
  rw [List.drop_eq_getElem_cons hi]
  by_cases c1:l[i]<0
  ·have G1:(l[i]<0)=True:=eq_true c1
   have G2:badT l[i]=true:=by simp [badT];omega
   simp only [fn81_b0,F1,G1,eI,index_nat hi,List.getElem?_map,List.getElem?_eq_getElem hi,memAll,vAll,reduceCtorEq,Nat.reduceEqDiff,Nat.reduceAdd,Nat.reduceLT,Nat.reduceLeDiff,Nat.beq]
   simp only [List.any_cons,G2,Bool.true_or,if_true]
   rfl
  ·have G1:(l[i]<0)=False:=eq_false c1
   by_cases c2:l[i] > 1073741824
   ·have G3:(l[i] > 1073741824)=True:=eq_true c2
    have G2:badT l[i]=true:=by simp [badT];omega
    simp only [fn81_b0,F1,G1,G3,eI,index_nat hi,List.getElem?_map,List.getElem?_eq_getElem hi,memAll,vAll,reduceCtorEq,Nat.reduceEqDiff,Nat.reduceAdd,Nat.reduceLT,Nat.reduceLeDiff,Nat.beq]
    simp only [List.any_cons,G2,Bool.true_or,if_true]
    rfl
   ·have G3:(l[i] > 1073741824)=False:=eq_false c2
    have G2:badT l[i]=false:=by simp [badT];omega
    simp only [fn81_b0,F1,G1,G3,eI,index_nat hi,List.getElem?_map,List.getElem?_eq_getElem hi,memAll,vAll,reduceCtorEq,Nat.reduceEqDiff,Nat.reduceAdd,Nat.reduceLT,Nat.reduceLeDiff,Nat.beq]
    rw [ih _ (by simp only [hi1];rfl)]
    simp only [List.any_cons,G2,Bool.false_or]
 ·intro rb
  simp only [fn81_b0,Int.lt_irrefl, memAll,vAll,reduceCtorEq,Nat.reduceEqDiff,Nat.reduceAdd,Nat.reduceLT,Nat.reduceLeDiff,Nat.beq]
  rw [List.drop_length]
  rfl
theorem cal81 {l:List Int} (hl:l.length≤lim):cal env 81 [.list 1 (l.map eI)]=some [(.int .i64 (if l.any badT then 2 else 0),false)]:=by
 rw [cal_code env81 rfl];simp only [fn81];simp only [start,z_map_cons,z_map_nil,z_len_cons,z_len_nil,z_repl_zero,z_repl_succ,z_cons_app,z_nil_app,Nat.reduceAdd,Nat.reduceSub]
 simp only [memAll,vAll,reduceCtorEq,Nat.reduceEqDiff,Nat.reduceAdd,Nat.reduceLT,Nat.reduceLeDiff,Nat.beq]
 rw [loop81 hl]
 rotate_left
 ·rfl
 ·cases l.any badT<;>simp only [memAll,vAll,reduceCtorEq,Nat.reduceEqDiff,Nat.reduceAdd,Nat.reduceLT,Nat.reduceLeDiff,Nat.beq]
def eCyc (b n t:Int) (p:List Int) (w:List Wrt):PV:=.agg [.int .i64 b,.int .i64 n,.int .i64 t,.list 1 (p.map eI),.list 3 (w.map eWr)]
def cycE (b n t:Int) (p:List Int):Int:=if b<0∨n≤b∨n > 1073741824 then 2 else if t<0∨t > 1073741824 then 24 else posE p
end Go.Proofs.YtpcncggjmabnaaaGreatDoor.V

namespace Go.Proofs.YtpcncggjmabnaaaGreatDoor.V
structure Cye where
 base:Int
 num:Int
 time:Int
 pos:List Int
 ws:List Wrt
def eCye (c:Cye):PV:=.agg [.int .i64 c.base,.int .i64 c.num,.int .i64 c.time,.list 1 (c.pos.map eI),.list 3 (c.ws.map eWr)]
theorem eCye_eq (c:Cye):eCye c=.agg [.int .i64 c.base,.int .i64 c.num,.int .i64 c.time,.list 1 (c.pos.map eI),.list 3 (c.ws.map eWr)]:=rfl
theorem eCye_at {l:List Cye} {i:Nat} (h:i<l.length):(l.map eCye)[i]?=some (.agg [.int .i64 l[i].base,.int .i64 l[i].num,.int .i64 l[i].time,.list 1 (l[i].pos.map eI),.list 3 (l[i].ws.map eWr)]):=by rw [List.getElem?_map,List.getElem?_eq_getElem h];rfl
theorem eWr_at {l:List Wrt} {i:Nat} (h:i<l.length):(l.map eWr)[i]?=some (.agg [.int .i64 l[i].volume,.int .i64 l[i].start,.list 8 (l[i].data.map eSec)]):=by rw [List.getElem?_map,List.getElem?_eq_getElem h];rfl
end Go.Proofs.YtpcncggjmabnaaaGreatDoor.V

namespace Go.Proofs.YtpcncggjmabnaaaGreatDoor.V
def badW (x w:Wrt):Bool:=decide (w.volume<x.volume) || (decide (w.volume=x.volume)&&decide (w.start≤x.start+(x.data.length:Int)))
def wcE (im:Img):Option Wrt→List Wrt→Int
 |_,[]=>0
 |p,w :: l=>if fitsErr im w≠0 then fitsErr im w else if (match p with|none=>false|some x=>badW x w) then 3 else wcE im (some w) l
theorem wcE_cons (im:Img) (p:Option Wrt) (w:Wrt) (l:List Wrt):wcE im p (w :: l)=if fitsErr im w≠0 then fitsErr im w else if (match p with|none=>false|some x=>badW x w) then 3 else wcE im (some w) l:=by cases p<;>rfl
def prevW (l:List Wrt):Nat→Option Wrt
 |0=>none
 |i+1=>l[i]?
def wcI (im:Img) (l:List Wrt) (i:Nat):Prop:=wcE im none l=wcE im (prevW l i) (l.drop i)∧∀ x,prevW l i=some x→fitsErr im x=0
theorem wcI0 (im:Img) (l:List Wrt):wcI im l 0:=⟨rfl,fun x h=>by cases h⟩
theorem wcE_at {im:Img} {l:List Wrt} {i:Nat} (hp:wcI im l i) (h:i<l.length):wcE im none l=if fitsErr im l[i]≠0 then fitsErr im l[i] else if (match prevW l i with|none=>false|some x=>badW x l[i]) then 3 else wcE im (prevW l (i+1)) (l.drop (i+1)):=by
 rw [hp.1,List.drop_eq_getElem_cons h,wcE_cons,show prevW l (i+1)=some l[i] from List.getElem?_eq_getElem h]
theorem wcE_good {im:Img} {l:List Wrt} {i:Nat} (hp:wcI im l i) (h:i<l.length) (h1:fitsErr im l[i]=0) (h2:(match prevW l i with|none=>false|some x=>badW x l[i])=false):wcI im l (i+1):=by
 refine ⟨?_,?_⟩
 ·rw [wcE_at hp h,if_neg (by simpa using h1),if_neg (by rw [h2];exact Bool.false_ne_true)]
 ·intro x hx
  simp only [prevW,List.getElem?_eq_getElem h,Option.some.injEq] at hx
  rw [← hx];exact h1
def resE (n d:Nat) (e:Int):Option (Ex × St):=if e=0 then some (.normal,⟨sl n [(d,.any)],[],[],none⟩) else some (.ret,⟨sl n [(d,.pv (.int .i64 e))],[],[],none⟩)
theorem resE_no {n d:Nat} {e:Int} (h:e≠0):resE n d e=some (.ret,⟨sl n [(d,.pv (.int .i64 e))],[],[],none⟩):=if_neg h
theorem resE_ok {n d:Nat}:resE n d 0=some (.normal,⟨sl n [(d,.any)],[],[],none⟩):=if_pos rfl
theorem fits_at {im:Img} {w:Wrt} (h:fitsErr im w=0):0≤w.volume∧w.volume<im.length∧0≤w.start∧w.start+w.data.length≤((im.getD w.volume.toNat []).length:Int):=by
 unfold fitsErr at h
 split at h
 ·omega
 ·split at h
  ·omega
  ·split at h
   ·omega
   ·omega
theorem getD_lenX {im:Img} {n:Nat} (hr:∀ v∈im,v.length≤n) (v:Nat):(im.getD v []).length≤n:=by
 by_cases h:v<im.length
 ·have e:im.getD v []=im[v]:=by simp [h]
  rw [e];exact hr _ (List.getElem_mem h)
 ·have e:im.getD v []=[]:=by simp [List.getD_eq_getElem?_getD,List.getElem?_eq_none (Nat.le_of_not_lt h)]
  rw [e];simp
theorem eWr_part (x:Wrt):part [PV.int .i64 x.volume,.int .i64 x.start,.list 8 (x.data.map eSec)] 0 (some 3)=some (.agg [.int .i64 x.volume,.int .i64 x.start,.list 8 (x.data.map eSec)]):=rfl
theorem loop104 {im:Img} {l:List Wrt} {gf:Nat} {caps:List PV} (hcall:∀ w∈l,cal env gf (eWr w :: caps)=some [(.int .i64 (fitsErr im w),false)]) (hr:∀ v∈im,v.length≤1000000) (hl:l.length≤lim) (hI0:wcI im l 0) {st:St} (h:st.head [0,1,9,10,11] st.boxes.length=some ⟨sl 53 [(0,.pv (.list 3 (l.map eWr))),(1,.pv (.func gf caps)),(9,.pv (.list 3 (l.map eWr))),(10,.pv (.int .i64 l.length)),(11,.pv (.int .i64 (0:Nat)))],[],[],none⟩) :
  den env fn104_l1 st=resE 53 4 (wcE im none l):=by
 unfold fn104_l1
 refine clean_upP (env:=env) (l.length) (fun i=>wcI im l (i)) (fun i=>⟨sl 53 [(0,.pv (.list 3 (l.map eWr))),(1,.pv (.func gf caps)),(9,.pv (.list 3 (l.map eWr))),(10,.pv (.int .i64 l.length)),(11,.pv (.int .i64 i))],[],[],none⟩) (fun i=>resE 53 4 (wcE im none l)) h hI0 (fun _=>rfl) (fun _=>by simp only [slAll,slsAll,Nat.reduceMul,Nat.reduceBEq,Nat.reduceLT,Nat.reduceLeDiff,Nat.reduceAdd,decide_true,Bool.and_self,Bool.true_and]) ?_ ?_
 ·intro i rb hi hp ih
  have hi1:=i64_next hi hl
  have F1:((i:Int)<(l.length:Int))=True:=eq_true (by omega)
  have e1:=hcall _ (List.getElem_mem hi)
  have hA:=wcE_at hp hi
  have hx:=eWr_at hi
  unfold eWr at e1
  by_cases c1:fitsErr im l[i]=0
  ·have G1:((0:Int) != 0)=false:=rfl
   rw [c1] at e1
   rw [if_neg (by simpa using c1)] at hA
   cases i with
   |zero =>
    have Z0:(((0:Nat):Int)==0)=true:=rfl
    simp only [fn104_b0,F1,eWr_part,Z0,G1,e1,hx,index_nat hi,slAll,slsAll,Nat.reduceMul,Nat.reduceBEq,Nat.reduceLT,Nat.reduceLeDiff,memAll,vAll,reduceCtorEq,Nat.reduceEqDiff,Nat.reduceAdd,Nat.reduceLT,Nat.reduceLeDiff,Nat.beq]
    rw [ih (wcE_good hp hi c1 rfl) _ (by simp only [hi1,slAll,slsAll,Nat.reduceMul,Nat.reduceBEq,Nat.reduceLT,Nat.reduceLeDiff,memAll,vAll,reduceCtorEq,Nat.reduceEqDiff,Nat.reduceAdd,Nat.reduceLT,Nat.reduceLeDiff,Nat.beq]<;>rfl)]
   |succ j =>
    have hj:j<l.length:=by omega
    have hy:=eWr_at hj
    have hpv:prevW l (j+1)=some l[j]:=by simp only [prevW,List.getElem?_eq_getElem hj]
    have Z:(((j+1:Nat):Int)==0)=false:=by simp;omega
    have W:IntKind.i64.wrap (((j+1:Nat):Int) - 1)=(j:Int):=by rw [show ((j+1:Nat):Int) - 1=(j:Int) by omega];exact i64_fits (by unfold lim at hl;omega)
    have q0:=hp.2 _ hpv
    obtain ⟨q1,q2,q3,q4⟩:=fits_at q0
    have q5:=getD_lenX hr l[j].volume.toNat
    have W2:IntKind.i64.wrap (l[j].start+(l[j].data.length:Int))=l[j].start+(l[j].data.length:Int):=i64_fits (by omega)
    by_cases c2:l[j+1].volume<l[j].volume
    ·have hb:badW l[j] l[j+1]=true:=by simp [badW,c2]
     have D1:(l[j+1].volume<l[j].volume)=True:=eq_true c2
     rw [hpv] at hA
     rw [if_pos hb] at hA
     rw [hA,resE_no (by decide)]
     simp only [fn104_b0,F1,eWr_part,Z,W,W2,D1,G1,e1,hx,hy,index_nat hi,index_nat hj,List.length_map,slAll,slsAll,Nat.reduceMul,Nat.reduceBEq,Nat.reduceLT,Nat.reduceLeDiff,memAll,vAll,reduceCtorEq,Nat.reduceEqDiff,Nat.reduceAdd,Nat.reduceLT,Nat.reduceLeDiff,Nat.beq]
    ·have D1:(l[j+1].volume<l[j].volume)=False:=eq_false c2
     by_cases c3:l[j+1].volume=l[j].volume
     ·have D2:(l[j+1].volume==l[j].volume)=true:=by simp [c3]
      by_cases c4:l[j+1].start≤l[j].start+(l[j].data.length:Int)
      ·have D3:(l[j+1].start≤l[j].start+(l[j].data.length:Int))=True:=eq_true c4
       have hb:badW l[j] l[j+1]=true:=by simp [badW,c3,c4]
       rw [hpv] at hA
       rw [if_pos hb] at hA
       rw [hA,resE_no (by decide)]
       simp only [fn104_b0,F1,eWr_part,Z,W,W2,D1,D2,D3,G1,e1,hx,hy,index_nat hi,index_nat hj,List.length_map,slAll,slsAll,Nat.reduceMul,Nat.reduceBEq,Nat.reduceLT,Nat.reduceLeDiff,memAll,vAll,reduceCtorEq,Nat.reduceEqDiff,Nat.reduceAdd,Nat.reduceLT,Nat.reduceLeDiff,Nat.beq]
      ·have D3:(l[j+1].start≤l[j].start+(l[j].data.length:Int))=False:=eq_false c4
       have hb:badW l[j] l[j+1]=false:=by simp [badW,c3];omega
       simp only [fn104_b0,F1,eWr_part,Z,W,W2,D1,D2,D3,G1,e1,hx,hy,index_nat hi,index_nat hj,List.length_map,slAll,slsAll,Nat.reduceMul,Nat.reduceBEq,Nat.reduceLT,Nat.reduceLeDiff,memAll,vAll,reduceCtorEq,Nat.reduceEqDiff,Nat.reduceAdd,Nat.reduceLT,Nat.reduceLeDiff,Nat.beq]
       rw [ih (wcE_good hp hi c1 (by rw [hpv];exact hb)) _ (by simp only [hi1,slAll,slsAll,Nat.reduceMul,Nat.reduceBEq,Nat.reduceLT,Nat.reduceLeDiff,memAll,vAll,reduceCtorEq,Nat.reduceEqDiff,Nat.reduceAdd,Nat.reduceLT,Nat.reduceLeDiff,Nat.beq]<;>rfl)]
     ·have D2:(l[j+1].volume==l[j].volume)=false:=by simp [c3]
      have hb:badW l[j] l[j+1]=false:=by simp [badW,c3];omega
      simp only [fn104_b0,F1,eWr_part,Z,W,W2,D1,D2,G1,e1,hx,hy,index_nat hi,index_nat hj,List.length_map,slAll,slsAll,Nat.reduceMul,Nat.reduceBEq,Nat.reduceLT,Nat.reduceLeDiff,memAll,vAll,reduceCtorEq,Nat.reduceEqDiff,Nat.reduceAdd,Nat.reduceLT,Nat.reduceLeDiff,Nat.beq]
      rw [ih (wcE_good hp hi c1 (by rw [hpv];exact hb)) _ (by simp only [hi1,slAll,slsAll,Nat.reduceMul,Nat.reduceBEq,Nat.reduceLT,Nat.reduceLeDiff,memAll,vAll,reduceCtorEq,Nat.reduceEqDiff,Nat.reduceAdd,Nat.reduceLT,Nat.reduceLeDiff,Nat.beq]<;>rfl)]
  ·have G1:(fitsErr im l[i] != 0)=true:=by simp [c1]
   rw [if_pos c1] at hA
   rw [hA,resE_no c1]
   simp only [fn104_b0,F1,eWr_part,G1,e1,hx,index_nat hi,slAll,slsAll,Nat.reduceMul,Nat.reduceBEq,Nat.reduceLT,Nat.reduceLeDiff,memAll,vAll,reduceCtorEq,Nat.reduceEqDiff,Nat.reduceAdd,Nat.reduceLT,Nat.reduceLeDiff,Nat.beq]
 ·intro rb hp
  have hA:=hp.1
  rw [List.drop_length] at hA
  rw [hA,show wcE im (prevW l l.length) []=0 by cases prevW l l.length<;>rfl]
  rw [resE_ok]
  simp only [fn104_b0,Int.lt_irrefl,slAll,slsAll,Nat.reduceMul,Nat.reduceBEq,Nat.reduceLT,Nat.reduceLeDiff,memAll,vAll,reduceCtorEq,Nat.reduceEqDiff,Nat.reduceAdd,Nat.reduceLT,Nat.reduceLeDiff,Nat.beq]
theorem cal104 {im:Img} {l:List Wrt} {gf:Nat} {caps:List PV} (hcall:∀ w∈l,cal env gf (eWr w :: caps)=some [(.int .i64 (fitsErr im w),false)]) (hr:∀ v∈im,v.length≤1000000) (hl:l.length≤lim) :
  cal env 104 [.list 3 (l.map eWr),.func gf caps]=some [(.int .i64 (wcE im none l),false)]:=by
 rw [cal_code env104 rfl];simp only [fn104,slAll,Nat.reduceBEq,Nat.reduceLeDiff,Nat.reduceAdd,List.length_cons,List.length_nil]
 simp only [List.length_map,slAll,slsAll,Nat.reduceMul,Nat.reduceBEq,Nat.reduceLT,Nat.reduceLeDiff,memAll,vAll,reduceCtorEq,Nat.reduceEqDiff,Nat.reduceAdd,Nat.reduceLT,Nat.reduceLeDiff,Nat.beq]
 rw [loop104 hcall hr hl (wcI0 im l)]
 rotate_left
 ·simp only [slAll,slsAll,Nat.reduceMul,Nat.reduceBEq,Nat.reduceLT,Nat.reduceLeDiff,Nat.reduceAdd,decide_true,Bool.and_self,Bool.true_and]<;>rfl
 ·unfold resE
  split
  ·rename_i c
   rw [c]
   simp only [slAll,slsAll,Nat.reduceMul,Nat.reduceBEq,Nat.reduceLT,Nat.reduceLeDiff,memAll,vAll,reduceCtorEq,Nat.reduceEqDiff,Nat.reduceAdd,Nat.reduceLT,Nat.reduceLeDiff,Nat.beq]
  ·simp only [slAll,slsAll,Nat.reduceMul,Nat.reduceBEq,Nat.reduceLT,Nat.reduceLeDiff,memAll,vAll,reduceCtorEq,Nat.reduceEqDiff,Nat.reduceAdd,Nat.reduceLT,Nat.reduceLeDiff,Nat.beq]
theorem newImg_back {z:List Int} (h:sizesErr z=0):imSizes (newImg z)=z:=by
 unfold imSizes newImg
 rw [List.map_map]
 conv=>rhs;rw [← List.map_id z]
 refine List.map_congr_left fun x hx=>?_
 unfold sizesErr at h
 split at h
 ·omega
 ·split at h
  ·omega
  ·rename_i h2
   simp only [List.any_eq_true,not_exists,not_and,Bool.not_eq_true] at h2
   have:=h2 x hx
   simp at this
   simp;omega
theorem newImg_len24 (z:List Int):(newImg z).length=z.length:=by unfold newImg;simp
theorem newImg_le {z:List Int} (h:sizesErr z=0):∀ v∈newImg z,v.length≤4096:=fun v hv=>by
 unfold newImg at hv
 obtain ⟨x,hx,rfl⟩:=List.mem_map.1 hv
 unfold sizesErr at h
 split at h
 ·omega
 ·split at h
  ·omega
  ·rename_i h2
   simp only [List.any_eq_true,not_exists,not_and,Bool.not_eq_true] at h2
   have:=h2 x hx
   simp at this
   simp;omega
theorem newImg_chk {z:List Int} (h:sizesErr z=0):imCheck (newImg z)=0:=by
 show sizesErr (imSizes (newImg z))=0
 rw [newImg_back h];exact h
theorem imFits_new {z:List Int} (h:sizesErr z=0) (w:Wrt):imFits (newImg z) w=fitsErr (newImg z) w:=by
 unfold imFits
 rw [if_neg (by rw [newImg_chk h];simp)]
def wkE (z:List Int) (l:List Wrt):Int:=if sizesErr z=0 then wcE (newImg z) none l else sizesErr z
theorem cal105q {im:Img} {w:Wrt} (hl:im.length≤lim) (hr:∀ v∈im,v.length≤lim) (hd:w.data.length≤lim):cal env 105 [eWr w,.iptr [.list 1 (im.map eSecs)] 0]=some [(.int .i64 (imFits im w),false)]:=by
 have e1:=cal106 hl hr hd
 unfold eWr at *
 rw [cal_code env105 rfl];simp only [fn105];simp only [start,z_map_cons,z_map_nil,z_len_cons,z_len_nil,z_repl_zero,z_repl_succ,z_cons_app,z_nil_app,Nat.reduceAdd,Nat.reduceSub]
 simp only [e1,memAll,vAll,reduceCtorEq,Nat.reduceEqDiff,Nat.reduceAdd,Nat.reduceLT,Nat.reduceLeDiff,Nat.beq]
theorem cal74q {z:List Int} {l:List Wrt} (hz:z.length≤lim) (hl:l.length≤lim) (hd:∀ w∈l,w.data.length≤lim) :
  cal env 74 [.list 3 (l.map eWr),.list 1 (z.map eI)]=some [(.int .i64 (wkE z l),false)]:=by
 have e1:=cal38 hz
 unfold wkE
 by_cases c:sizesErr z=0
 ·rw [if_pos c]
  have hr:=newImg_le c
  have e2:=cal104 (im:=newImg z) (l:=l) (gf:=105) (caps:=[.iptr [.list 1 ((newImg z).map eSecs)] 0]) (fun w hw=>by
   have:=cal105q (im:=newImg z) (w:=w) (by rw [newImg_len24];exact hz) (fun v hv=>by have:=hr v hv;unfold lim;omega) (hd w hw)
   rw [imFits_new c] at this
   exact this) (fun v hv=>by have:=hr v hv;omega) hl
  rw [c,if_pos rfl] at e1
  have Z:((0:Int) != 0)=false:=rfl
  rw [cal_code env74 rfl];simp only [fn74];simp only [start,z_map_cons,z_map_nil,z_len_cons,z_len_nil,z_repl_zero,z_repl_succ,z_cons_app,z_nil_app,Nat.reduceAdd,Nat.reduceSub]
  simp only [e1,e2,Z,memAll,vAll,reduceCtorEq,Nat.reduceEqDiff,Nat.reduceAdd,Nat.reduceLT,Nat.reduceLeDiff,Nat.beq]
 ·rw [if_neg c] at e1
  rw [if_neg c]
  have Z:(sizesErr z != 0)=true:=by simp [c]
  rw [cal_code env74 rfl];simp only [fn74];simp only [start,z_map_cons,z_map_nil,z_len_cons,z_len_nil,z_repl_zero,z_repl_succ,z_cons_app,z_nil_app,Nat.reduceAdd,Nat.reduceSub]
  simp only [e1,Z,memAll,vAll,reduceCtorEq,Nat.reduceEqDiff,Nat.reduceAdd,Nat.reduceLT,Nat.reduceLeDiff,Nat.beq]
end Go.Proofs.YtpcncggjmabnaaaGreatDoor.V

namespace Go.Proofs.YtpcncggjmabnaaaGreatDoor.V
theorem loop82 {im:Img} {l:List Wrt} (hn:im.length≤lim) (hr:∀ v∈im,v.length≤1000000) (hl:l.length≤lim) (hd:∀ w∈l,w.data.length≤lim) (hI0:wcI im l 0) {st:St} (h:st.head [0,1,6] st.boxes.length=some ⟨sl 69 [(0,.pv (.list 3 (l.map eWr))),(1,.pv (.list 1 ((imSizes im).map eI))),(6,.pv (.int .i64 (0:Nat)))],[],[],none⟩) :
  den env fn82_l1 st=resE 69 4 (wcE im none l):=by
 unfold fn82_l1
 refine clean_upP (env:=env) (l.length) (fun i=>wcI im l (i)) (fun i=>⟨sl 69 [(0,.pv (.list 3 (l.map eWr))),(1,.pv (.list 1 ((imSizes im).map eI))),(6,.pv (.int .i64 i))],[],[],none⟩) (fun i=>resE 69 4 (wcE im none l)) h hI0 (fun _=>rfl) (fun _=>by simp only [slAll,slsAll,Nat.reduceMul,Nat.reduceBEq,Nat.reduceLT,Nat.reduceLeDiff,Nat.reduceAdd,decide_true,Bool.and_self,Bool.true_and]) ?_ ?_
 ·intro i rb hi hp ih
  have hi1:=i64_next hi hl
  have F1:((i:Int)<(l.length:Int))=True:=eq_true (by omega)
  have e1:=cal65 (im:=im) (w:=l[i]) hn (fun v hv=>by have:=hr v hv;unfold lim;omega) (hd _ (List.getElem_mem hi))
  have hA:=wcE_at hp hi
  have hx:=eWr_at hi
  unfold eWr at e1
  by_cases c1:fitsErr im l[i]=0
  ·have G1:((0:Int) != 0)=false:=rfl
   rw [c1] at e1
   rw [if_neg (by simpa using c1)] at hA
   cases i with
   |zero =>
    have Z0:(((0:Nat):Int)==0)=true:=rfl
    simp only [fn82_b0,F1,eWr_part,Z0,G1,e1,hx,index_nat hi,List.length_map,slAll,slsAll,Nat.reduceMul,Nat.reduceBEq,Nat.reduceLT,Nat.reduceLeDiff,memAll,vAll,reduceCtorEq,Nat.reduceEqDiff,Nat.reduceAdd,Nat.reduceLT,Nat.reduceLeDiff,Nat.beq]
    rw [ih (wcE_good hp hi c1 rfl) _ (by simp only [hi1,slAll,slsAll,Nat.reduceMul,Nat.reduceBEq,Nat.reduceLT,Nat.reduceLeDiff,memAll,vAll,reduceCtorEq,Nat.reduceEqDiff,Nat.reduceAdd,Nat.reduceLT,Nat.reduceLeDiff,Nat.beq]<;>rfl)]
   |succ j =>
    have hj:j<l.length:=by omega
    have hy:=eWr_at hj
    have hpv:prevW l (j+1)=some l[j]:=by simp only [prevW,List.getElem?_eq_getElem hj]
    have Z:(((j+1:Nat):Int)==0)=false:=by simp;omega
    have W:IntKind.i64.wrap (((j+1:Nat):Int) - 1)=(j:Int):=by rw [show ((j+1:Nat):Int) - 1=(j:Int) by omega];exact i64_fits (by unfold lim at hl;omega)
    have q0:=hp.2 _ hpv
    obtain ⟨q1,q2,q3,q4⟩:=fits_at q0
    have q5:=getD_lenX hr l[j].volume.toNat
    have W2:IntKind.i64.wrap (l[j].start+(l[j].data.length:Int))=l[j].start+(l[j].data.length:Int):=i64_fits (by omega)
    have W3:IntKind.i64.wrap (l[j].start+(l[j].data.length:Int)+1)=l[j].start+(l[j].data.length:Int)+1:=i64_fits (by omega)
    by_cases c2:l[j+1].volume<l[j].volume
    ·have hb:badW l[j] l[j+1]=true:=by simp [badW,c2]
     have D1:(l[j+1].volume<l[j].volume)=True:=eq_true c2
     rw [hpv] at hA
     rw [if_pos hb] at hA
     rw [hA,resE_no (by decide)]
     simp only [fn82_b0,F1,eWr_part,Z,W,W2,W3,D1,G1,e1,hx,hy,index_nat hi,index_nat hj,List.length_map,slAll,slsAll,Nat.reduceMul,Nat.reduceBEq,Nat.reduceLT,Nat.reduceLeDiff,memAll,vAll,reduceCtorEq,Nat.reduceEqDiff,Nat.reduceAdd,Nat.reduceLT,Nat.reduceLeDiff,Nat.beq]
    ·have D1:(l[j+1].volume<l[j].volume)=False:=eq_false c2
     by_cases c3:l[j+1].volume=l[j].volume
     ·have D2:(l[j+1].volume==l[j].volume)=true:=by simp [c3]
      by_cases c4:l[j+1].start≤l[j].start+(l[j].data.length:Int)
      ·have D3:(l[j+1].start<l[j].start+(l[j].data.length:Int)+1)=True:=eq_true (by omega)
       have hb:badW l[j] l[j+1]=true:=by simp [badW,c3,c4]
       rw [hpv] at hA
       rw [if_pos hb] at hA
       rw [hA,resE_no (by decide)]
       simp only [fn82_b0,F1,eWr_part,Z,W,W2,W3,D1,D2,D3,G1,e1,hx,hy,index_nat hi,index_nat hj,List.length_map,slAll,slsAll,Nat.reduceMul,Nat.reduceBEq,Nat.reduceLT,Nat.reduceLeDiff,memAll,vAll,reduceCtorEq,Nat.reduceEqDiff,Nat.reduceAdd,Nat.reduceLT,Nat.reduceLeDiff,Nat.beq]
      ·have D3:(l[j+1].start<l[j].start+(l[j].data.length:Int)+1)=False:=eq_false (by omega)
       have hb:badW l[j] l[j+1]=false:=by simp [badW,c3];omega
       simp only [fn82_b0,F1,eWr_part,Z,W,W2,W3,D1,D2,D3,G1,e1,hx,hy,index_nat hi,index_nat hj,List.length_map,slAll,slsAll,Nat.reduceMul,Nat.reduceBEq,Nat.reduceLT,Nat.reduceLeDiff,memAll,vAll,reduceCtorEq,Nat.reduceEqDiff,Nat.reduceAdd,Nat.reduceLT,Nat.reduceLeDiff,Nat.beq]
       rw [ih (wcE_good hp hi c1 (by rw [hpv];exact hb)) _ (by simp only [hi1,slAll,slsAll,Nat.reduceMul,Nat.reduceBEq,Nat.reduceLT,Nat.reduceLeDiff,memAll,vAll,reduceCtorEq,Nat.reduceEqDiff,Nat.reduceAdd,Nat.reduceLT,Nat.reduceLeDiff,Nat.beq]<;>rfl)]
     ·have D2:(l[j+1].volume==l[j].volume)=false:=by simp [c3]
      have hb:badW l[j] l[j+1]=false:=by simp [badW,c3];omega
      simp only [fn82_b0,F1,eWr_part,Z,W,W2,W3,D1,D2,G1,e1,hx,hy,index_nat hi,index_nat hj,List.length_map,slAll,slsAll,Nat.reduceMul,Nat.reduceBEq,Nat.reduceLT,Nat.reduceLeDiff,memAll,vAll,reduceCtorEq,Nat.reduceEqDiff,Nat.reduceAdd,Nat.reduceLT,Nat.reduceLeDiff,Nat.beq]
      rw [ih (wcE_good hp hi c1 (by rw [hpv];exact hb)) _ (by simp only [hi1,slAll,slsAll,Nat.reduceMul,Nat.reduceBEq,Nat.reduceLT,Nat.reduceLeDiff,memAll,vAll,reduceCtorEq,Nat.reduceEqDiff,Nat.reduceAdd,Nat.reduceLT,Nat.reduceLeDiff,Nat.beq]<;>rfl)]
  ·have G1:(fitsErr im l[i] != 0)=true:=by simp [c1]
   rw [if_pos c1] at hA
   rw [hA,resE_no c1]
   simp only [fn82_b0,F1,eWr_part,G1,e1,hx,index_nat hi,List.length_map,slAll,slsAll,Nat.reduceMul,Nat.reduceBEq,Nat.reduceLT,Nat.reduceLeDiff,memAll,vAll,reduceCtorEq,Nat.reduceEqDiff,Nat.reduceAdd,Nat.reduceLT,Nat.reduceLeDiff,Nat.beq]
 ·intro rb hp
  have hA:=hp.1
  rw [List.drop_length] at hA
  rw [hA,show wcE im (prevW l l.length) []=0 by cases prevW l l.length<;>rfl]
  rw [resE_ok]
  simp only [fn82_b0,Int.lt_irrefl,List.length_map,slAll,slsAll,Nat.reduceMul,Nat.reduceBEq,Nat.reduceLT,Nat.reduceLeDiff,memAll,vAll,reduceCtorEq,Nat.reduceEqDiff,Nat.reduceAdd,Nat.reduceLT,Nat.reduceLeDiff,Nat.beq]
theorem cal82q {z:List Int} {l:List Wrt} (hz:z.length≤lim) (hl:l.length≤lim) (hd:∀ w∈l,w.data.length≤lim) :
  cal env 82 [.list 3 (l.map eWr),.list 1 (z.map eI)]=some [(.int .i64 (wkE z l),false)]:=by
 have e1:=cal62 hz
 unfold wkE
 by_cases c:sizesErr z=0
 ·rw [if_pos c]
  have hr:=newImg_le c
  have Z:((0:Int) != 0)=false:=rfl
  have hlp:=fun st hst=>loop82 (st:=st) (im:=newImg z) (l:=l) (by rw [newImg_len24];exact hz) (fun v hv=>by have:=hr v hv;omega) hl hd (wcI0 _ l) hst
  rw [newImg_back c] at hlp
  rw [c] at e1
  rw [cal_code env82 rfl];simp only [fn82,slAll,Nat.reduceBEq,Nat.reduceLeDiff,Nat.reduceAdd,List.length_cons,List.length_nil]
  simp only [e1,Z,slAll,slsAll,Nat.reduceMul,Nat.reduceBEq,Nat.reduceLT,Nat.reduceLeDiff,memAll,vAll,reduceCtorEq,Nat.reduceEqDiff,Nat.reduceAdd,Nat.reduceLT,Nat.reduceLeDiff,Nat.beq]
  rw [hlp]
  rotate_left
  ·simp only [slAll,slsAll,Nat.reduceMul,Nat.reduceBEq,Nat.reduceLT,Nat.reduceLeDiff,Nat.reduceAdd,decide_true,Bool.and_self,Bool.true_and]<;>rfl
  ·unfold resE
   split
   ·rename_i c
    rw [c]
    simp only [slAll,slsAll,Nat.reduceMul,Nat.reduceBEq,Nat.reduceLT,Nat.reduceLeDiff,memAll,vAll,reduceCtorEq,Nat.reduceEqDiff,Nat.reduceAdd,Nat.reduceLT,Nat.reduceLeDiff,Nat.beq]
   ·simp only [slAll,slsAll,Nat.reduceMul,Nat.reduceBEq,Nat.reduceLT,Nat.reduceLeDiff,memAll,vAll,reduceCtorEq,Nat.reduceEqDiff,Nat.reduceAdd,Nat.reduceLT,Nat.reduceLeDiff,Nat.beq]
 ·rw [if_neg c]
  have Z:(sizesErr z != 0)=true:=by simp [c]
  rw [cal_code env82 rfl];simp only [fn82,slAll,Nat.reduceBEq,Nat.reduceLeDiff,Nat.reduceAdd,List.length_cons,List.length_nil]
  simp only [e1,Z,slAll,slsAll,Nat.reduceMul,Nat.reduceBEq,Nat.reduceLT,Nat.reduceLeDiff,memAll,vAll,reduceCtorEq,Nat.reduceEqDiff,Nat.reduceAdd,Nat.reduceLT,Nat.reduceLeDiff,Nat.beq]
def ckC (z:List Int) (b n t:Int) (p:List Int) (w:List Wrt):Int:=if sizesErr z=0 then (if cycE b n t p=0 then wcE (newImg z) none w else cycE b n t p) else sizesErr z
theorem cal42q {z:List Int} {b n t:Int} {p:List Int} {w:List Wrt} (hz:z.length≤lim) (hl:w.length≤lim) (hd:∀ x∈w,x.data.length≤lim) (hp:p.length≤20) :
  cal env 42 [eCyc b n t p w,.list 1 (z.map eI)]=some [(.int .i64 (ckC z b n t p w),false)]:=by
 have e1:=cal38 hz
 by_cases cz:sizesErr z=0
 rotate_left
 ·rw [if_neg cz] at e1
  have Z:(sizesErr z != 0)=true:=by simp [cz]
  unfold eCyc ckC
  rw [if_neg cz]
  rw [cal_code env42 rfl];simp only [fn42];simp only [start,z_map_cons,z_map_nil,z_len_cons,z_len_nil,z_repl_zero,z_repl_succ,z_cons_app,z_nil_app,Nat.reduceAdd,Nat.reduceSub]
  simp only [e1,Z,memAll,vAll,reduceCtorEq,Nat.reduceEqDiff,Nat.reduceAdd,Nat.reduceLT,Nat.reduceLeDiff,Nat.beq]
 rw [cz,if_pos rfl] at e1
 have e4:=cal74q hz hl hd
 rw [wkE,if_pos cz] at e4
 have hk:ckC z b n t p w=if cycE b n t p=0 then wcE (newImg z) none w else cycE b n t p:=if_pos cz
 rw [hk]
 clear hk
 generalize wcE (newImg z) none w=E at *
 have e2:=cal72 (n:=t) (a:=0) (b:=1073741824)
 have e3:=cal73 hp
 have Z:((0:Int) != 0)=false:=rfl
 unfold eCyc cycE
 by_cases c1:b<0∨n≤b∨n > 1073741824
 ·rw [if_pos c1,if_neg (by decide)]
  rw [cal_code env42 rfl];simp only [fn42];simp only [start,z_map_cons,z_map_nil,z_len_cons,z_len_nil,z_repl_zero,z_repl_succ,z_cons_app,z_nil_app,Nat.reduceAdd,Nat.reduceSub]
  simp only [e1,Z,memAll,vAll,reduceCtorEq,Nat.reduceEqDiff,Nat.reduceAdd,Nat.reduceLT,Nat.reduceLeDiff,Nat.beq]
  by_cases d1:b<0
  ·simp only [eq_true d1,memAll,vAll,reduceCtorEq,Nat.reduceEqDiff,Nat.reduceAdd,Nat.reduceLT,Nat.reduceLeDiff,Nat.beq]
  ·have d1:=eq_false d1
   by_cases d2:n≤b
   ·simp only [d1,eq_true d2,memAll,vAll,reduceCtorEq,Nat.reduceEqDiff,Nat.reduceAdd,Nat.reduceLT,Nat.reduceLeDiff,Nat.beq]
   ·have d3:n > 1073741824:=by simp only [d1,false_or] at c1;omega
    simp only [d1,eq_false d2,eq_true d3,memAll,vAll,reduceCtorEq,Nat.reduceEqDiff,Nat.reduceAdd,Nat.reduceLT,Nat.reduceLeDiff,Nat.beq]
 ·rw [if_neg c1]
  have G1:(b<0)=False:=eq_false (by omega)
  have G2:(n≤b)=False:=eq_false (by omega)
  have G3:(n > 1073741824)=False:=eq_false (by omega)
  by_cases c2:t<0∨t > 1073741824
  ·rw [if_pos c2,if_neg (by decide)]
   have G4:(decide ((0:Int)≤t)&&decide (t≤1073741824))=false:=by simp;omega
   rw [G4] at e2
   rw [cal_code env42 rfl];simp only [fn42];simp only [start,z_map_cons,z_map_nil,z_len_cons,z_len_nil,z_repl_zero,z_repl_succ,z_cons_app,z_nil_app,Nat.reduceAdd,Nat.reduceSub]
   simp only [e1,e2,G1,G2,G3,Z,memAll,vAll,reduceCtorEq,Nat.reduceEqDiff,Nat.reduceAdd,Nat.reduceLT,Nat.reduceLeDiff,Nat.beq]
  ·rw [if_neg c2]
   have G4:(decide ((0:Int)≤t)&&decide (t≤1073741824))=true:=by simp;omega
   rw [G4] at e2
   by_cases c3:posE p=0
   ·rw [c3] at e3
    rw [c3,if_pos rfl]
    rw [cal_code env42 rfl];simp only [fn42];simp only [start,z_map_cons,z_map_nil,z_len_cons,z_len_nil,z_repl_zero,z_repl_succ,z_cons_app,z_nil_app,Nat.reduceAdd,Nat.reduceSub]
    simp only [e1,e2,e3,e4,G1,G2,G3,Z,memAll,vAll,reduceCtorEq,Nat.reduceEqDiff,Nat.reduceAdd,Nat.reduceLT,Nat.reduceLeDiff,Nat.beq]
   ·have G5:(posE p != 0)=true:=by simp [c3]
    rw [if_neg c3]
    rw [cal_code env42 rfl];simp only [fn42];simp only [start,z_map_cons,z_map_nil,z_len_cons,z_len_nil,z_repl_zero,z_repl_succ,z_cons_app,z_nil_app,Nat.reduceAdd,Nat.reduceSub]
    simp only [e1,e2,e3,G1,G2,G3,G5,Z,memAll,vAll,reduceCtorEq,Nat.reduceEqDiff,Nat.reduceAdd,Nat.reduceLT,Nat.reduceLeDiff,Nat.beq]
theorem cal46q {z:List Int} {b n t:Int} {p:List Int} {w:List Wrt} (hz:z.length≤lim) (hl:w.length≤lim) (hd:∀ x∈w,x.data.length≤lim) (hp:p.length≤20) :
  cal env 46 [eCyc b n t p w,.list 1 (z.map eI)]=some [(.int .i64 (ckC z b n t p w),false)]:=by
 have e1:=cal62 hz
 by_cases cz:sizesErr z=0
 rotate_left
 ·skip
  have Z:(sizesErr z != 0)=true:=by simp [cz]
  unfold eCyc ckC
  rw [if_neg cz]
  rw [cal_code env46 rfl];simp only [fn46];simp only [start,z_map_cons,z_map_nil,z_len_cons,z_len_nil,z_repl_zero,z_repl_succ,z_cons_app,z_nil_app,Nat.reduceAdd,Nat.reduceSub]
  simp only [e1,Z,memAll,vAll,reduceCtorEq,Nat.reduceEqDiff,Nat.reduceAdd,Nat.reduceLT,Nat.reduceLeDiff,Nat.beq]
 rw [cz] at e1
 have e4:=cal82q hz hl hd
 rw [wkE,if_pos cz] at e4
 have hk:ckC z b n t p w=if cycE b n t p=0 then wcE (newImg z) none w else cycE b n t p:=if_pos cz
 rw [hk]
 clear hk
 generalize wcE (newImg z) none w=E at *
 have e3:=cal81 (l:=p) (Nat.le_trans hp (by decide))
 have Z:((0:Int) != 0)=false:=rfl
 unfold eCyc cycE posE
 by_cases c1:b<0∨n≤b∨n > 1073741824
 ·rw [if_pos c1,if_neg (by decide)]
  rw [cal_code env46 rfl];simp only [fn46];simp only [start,z_map_cons,z_map_nil,z_len_cons,z_len_nil,z_repl_zero,z_repl_succ,z_cons_app,z_nil_app,Nat.reduceAdd,Nat.reduceSub]
  simp only [e1,Z,memAll,vAll,reduceCtorEq,Nat.reduceEqDiff,Nat.reduceAdd,Nat.reduceLT,Nat.reduceLeDiff,Nat.beq]
  by_cases d1:b<0
  ·simp only [eq_true d1,memAll,vAll,reduceCtorEq,Nat.reduceEqDiff,Nat.reduceAdd,Nat.reduceLT,Nat.reduceLeDiff,Nat.beq]
  ·have d1:=eq_false d1
   by_cases d2:n≤b
   ·simp only [d1,eq_true d2,memAll,vAll,reduceCtorEq,Nat.reduceEqDiff,Nat.reduceAdd,Nat.reduceLT,Nat.reduceLeDiff,Nat.beq]
   ·have d3:n > 1073741824:=by simp only [d1,false_or] at c1;omega
    simp only [d1,eq_false d2,eq_true d3,memAll,vAll,reduceCtorEq,Nat.reduceEqDiff,Nat.reduceAdd,Nat.reduceLT,Nat.reduceLeDiff,Nat.beq]
 ·rw [if_neg c1]
  have G1:(b<0)=False:=eq_false (by omega)
  have G2:(n≤b)=False:=eq_false (by omega)
  have G3:(n > 1073741824)=False:=eq_false (by omega)
  by_cases d1:t<0
  ·rw [if_pos (Or.inl d1:t<0∨t > 1073741824),if_neg (by decide)]
   have D1:(t<0)=True:=eq_true d1
   rw [cal_code env46 rfl];simp only [fn46];simp only [start,z_map_cons,z_map_nil,z_len_cons,z_len_nil,z_repl_zero,z_repl_succ,z_cons_app,z_nil_app,Nat.reduceAdd,Nat.reduceSub]
   simp only [e1,G1,G2,G3,D1,Z,memAll,vAll,reduceCtorEq,Nat.reduceEqDiff,Nat.reduceAdd,Nat.reduceLT,Nat.reduceLeDiff,Nat.beq]
  ·have D1:(t<0)=False:=eq_false d1
   by_cases d2:t > 1073741824
   ·rw [if_pos (Or.inr d2:t<0∨t > 1073741824),if_neg (by decide)]
    have D2:(t > 1073741824)=True:=eq_true d2
    rw [cal_code env46 rfl];simp only [fn46];simp only [start,z_map_cons,z_map_nil,z_len_cons,z_len_nil,z_repl_zero,z_repl_succ,z_cons_app,z_nil_app,Nat.reduceAdd,Nat.reduceSub]
    simp only [e1,G1,G2,G3,D1,D2,Z,memAll,vAll,reduceCtorEq,Nat.reduceEqDiff,Nat.reduceAdd,Nat.reduceLT,Nat.reduceLeDiff,Nat.beq]
   ·rw [if_neg (show ¬ (t<0∨t > 1073741824) by omega)]
    have D2:(t > 1073741824)=False:=eq_false d2
    by_cases c3:8<p.length
    ·have D3:((p.length:Int) > 8)=True:=eq_true (by omega)
     rw [if_pos c3,if_neg (by decide)]
     rw [cal_code env46 rfl];simp only [fn46];simp only [start,z_map_cons,z_map_nil,z_len_cons,z_len_nil,z_repl_zero,z_repl_succ,z_cons_app,z_nil_app,Nat.reduceAdd,Nat.reduceSub]
     simp only [e1,G1,G2,G3,D1,D2,D3,List.length_map,Z,memAll,vAll,reduceCtorEq,Nat.reduceEqDiff,Nat.reduceAdd,Nat.reduceLT,Nat.reduceLeDiff,Nat.beq]
    ·have D3:((p.length:Int) > 8)=False:=eq_false (by omega)
     rw [if_neg c3]
     cases c4:p.any badT with
     |true =>
      rw [c4] at e3
      rw [if_pos rfl,if_neg (by decide)]
      have e3:cal env 81 [.list 1 (p.map eI)]=some [(.int .i64 2,false)]:=e3
      have Z2:((2:Int) != 0)=true:=rfl
      rw [cal_code env46 rfl];simp only [fn46];simp only [start,z_map_cons,z_map_nil,z_len_cons,z_len_nil,z_repl_zero,z_repl_succ,z_cons_app,z_nil_app,Nat.reduceAdd,Nat.reduceSub]
      simp only [e1,e3,G1,G2,G3,D1,D2,D3,List.length_map,Z,Z2,memAll,vAll,reduceCtorEq,Nat.reduceEqDiff,Nat.reduceAdd,Nat.reduceLT,Nat.reduceLeDiff,Nat.beq]
     |false =>
      rw [c4] at e3
      rw [show (if false=true then (2:Int) else 0)=0 from rfl,if_pos rfl]
      have e3:cal env 81 [.list 1 (p.map eI)]=some [(.int .i64 0,false)]:=e3
      rw [cal_code env46 rfl];simp only [fn46];simp only [start,z_map_cons,z_map_nil,z_len_cons,z_len_nil,z_repl_zero,z_repl_succ,z_cons_app,z_nil_app,Nat.reduceAdd,Nat.reduceSub]
      simp only [e1,e3,e4,G1,G2,G3,D1,D2,D3,List.length_map,Z,memAll,vAll,reduceCtorEq,Nat.reduceEqDiff,Nat.reduceAdd,Nat.reduceLT,Nat.reduceLeDiff,Nat.beq]
end Go.Proofs.YtpcncggjmabnaaaGreatDoor.V

namespace Go.Proofs.YtpcncggjmabnaaaGreatDoor.V
def resS (n:Nat) (t:Bool) (bx:List Box):Option (Ex × St):=if t then some (.normal,⟨sl n [(4,.any)],bx,[],none⟩) else some (.ret,⟨sl n [(4,.pv (.bool false))],bx,[],none⟩)
theorem resS_t (n:Nat) (bx:List Box):resS n true bx=some (.normal,⟨sl n [(4,.any)],bx,[],none⟩):=rfl
theorem resS_f (n:Nat) (bx:List Box):resS n false bx=some (.ret,⟨sl n [(4,.pv (.bool false))],bx,[],none⟩):=rfl
theorem drop_dec {α:Type} [DecidableEq α] {a b:List α} {i:Nat} (hi:i<a.length) (hj:i<b.length):decide (a.drop i=b.drop i)=(decide (a[i]=b[i])&&decide (a.drop (i+1)=b.drop (i+1))):=by
 rw [List.drop_eq_getElem_cons hi,List.drop_eq_getElem_cons hj,Bool.eq_iff_iff]
 simp only [List.cons.injEq,decide_eq_true_eq,Bool.and_eq_true]
def sameB (a b:Bm):Bool:=decide (a.size=b.size)&&decide (a.ws=b.ws)
theorem sameB_iff {a b:Bm}:sameB a b=true ↔ a=b:=by
 unfold sameB
 obtain ⟨x,y⟩:=a
 obtain ⟨z,w⟩:=b
 simp
theorem loop71 {a b:Bm} (hl:a.ws.length≤lim) (hab:a.ws.length=b.ws.length) {st:St} (h:st.head [2,3,5] st.boxes.length=some ⟨sl 38 [(2,.pbox 0 0),(3,.pbox 1 0),(5,.pv (.int .i64 (0:Nat)))],[⟨false,[.pv (.int .i64 a.size),.pv (.list 1 (a.ws.map eW))]⟩,⟨false,[.pv (.int .i64 b.size),.pv (.list 1 (b.ws.map eW))]⟩],[],none⟩) :
  den env fn71_l1 st=resS 38 (decide (a.ws.drop ((0:Nat))=b.ws.drop ((0:Nat)))) [⟨false,[.pv (.int .i64 a.size),.pv (.list 1 (a.ws.map eW))]⟩,⟨false,[.pv (.int .i64 b.size),.pv (.list 1 (b.ws.map eW))]⟩]:=by
 unfold fn71_l1
 refine clean_up (env:=env) (nb:=2) (a.ws.length) (fun i=>⟨sl 38 [(2,.pbox 0 0),(3,.pbox 1 0),(5,.pv (.int .i64 i))],[⟨false,[.pv (.int .i64 a.size),.pv (.list 1 (a.ws.map eW))]⟩,⟨false,[.pv (.int .i64 b.size),.pv (.list 1 (b.ws.map eW))]⟩],[],none⟩) (fun i=>resS 38 (decide (a.ws.drop (i)=b.ws.drop (i))) [⟨false,[.pv (.int .i64 a.size),.pv (.list 1 (a.ws.map eW))]⟩,⟨false,[.pv (.int .i64 b.size),.pv (.list 1 (b.ws.map eW))]⟩]) h (fun _=>rfl) (fun _=>by simp only [slAll,slsAll,Nat.reduceMul,Nat.reduceBEq,Nat.reduceLT,Nat.reduceLeDiff,Nat.reduceAdd,decide_true,Bool.and_self,Bool.true_and]) ?_ ?_
 ·intro i rb hi ih
  have hi1:=i64_next hi hl
  have hj:i<b.ws.length:=by omega
  have F1:((i:Int)<(a.ws.length:Int))=True:=eq_true (by omega)
  have B:=w_beq a.ws[i] b.ws[i]
  have B':((a.ws[i].toNat:Int) != (b.ws[i].toNat:Int))=!decide (a.ws[i]=b.ws[i]):=by unfold bne;rw [B]
  rw [drop_dec hi hj]
  have gx:(a.ws.map eW)[i]?=some (.int .u64 (a.ws[i].toNat:Int)):=by rw [List.getElem?_map,List.getElem?_eq_getElem hi];rfl
  have gy:(b.ws.map eW)[i]?=some (.int .u64 (b.ws[i].toNat:Int)):=by rw [List.getElem?_map,List.getElem?_eq_getElem hj];rfl
  cases c:decide (a.ws[i]=b.ws[i]) with
  |true =>
   rw [c] at B'
   rw [Bool.true_and]
   simp only [fn71_b0,F1,B',gx,gy,index_nat hi,index_nat hj,List.length_map,slAll,slsAll,Nat.reduceMul,Nat.reduceBEq,Nat.reduceLT,Nat.reduceLeDiff,memAll,vAll,reduceCtorEq,Nat.reduceEqDiff,Nat.reduceAdd,Nat.reduceLT,Nat.reduceLeDiff,Nat.beq]
   rw [ih _ (by simp only [hi1,slAll,slsAll,Nat.reduceMul,Nat.reduceBEq,Nat.reduceLT,Nat.reduceLeDiff,memAll,vAll,reduceCtorEq,Nat.reduceEqDiff,Nat.reduceAdd,Nat.reduceLT,Nat.reduceLeDiff,Nat.beq]<;>rfl)]
  |false =>
   rw [c] at B'
   rw [Bool.false_and,resS_f]
   simp only [fn71_b0,F1,B',gx,gy,index_nat hi,index_nat hj,List.length_map,slAll,slsAll,Nat.reduceMul,Nat.reduceBEq,Nat.reduceLT,Nat.reduceLeDiff,memAll,vAll,reduceCtorEq,Nat.reduceEqDiff,Nat.reduceAdd,Nat.reduceLT,Nat.reduceLeDiff,Nat.beq]
 ·intro rb
  rw [List.drop_length,hab,List.drop_length,decide_eq_true rfl,resS_t]
  simp only [fn71_b0,Int.lt_irrefl,List.length_map,hab,slAll,slsAll,Nat.reduceMul,Nat.reduceBEq,Nat.reduceLT,Nat.reduceLeDiff,memAll,vAll,reduceCtorEq,Nat.reduceEqDiff,Nat.reduceAdd,Nat.reduceLT,Nat.reduceLeDiff,Nat.beq]
theorem cal71 {a b:Bm} (hl:a.ws.length≤lim):cal env 71 [eBm a,eBm b]=some [(.bool (sameB a b),false)]:=by
 have eA:∀ b:Bm,eBm b=.agg [.int .i64 b.size,.list 1 (b.ws.map eW)]:=fun _=>rfl
 rw [eA,eA]
 unfold sameB
 by_cases c0:a.size=b.size
 ·have F0:(a.size != b.size)=false:=by simp [c0]
  rw [decide_eq_true c0,Bool.true_and]
  by_cases c1:a.ws.length=b.ws.length
  ·have F1:((a.ws.length:Int) != (b.ws.length:Int))=false:=by simp [c1]
   rw [cal_code env71 rfl];simp only [fn71,slAll,Nat.reduceBEq,Nat.reduceLeDiff,Nat.reduceAdd,List.length_cons,List.length_nil]
   simp only [F0,F1,List.length_map,slAll,slsAll,Nat.reduceMul,Nat.reduceBEq,Nat.reduceLT,Nat.reduceLeDiff,memAll,vAll,reduceCtorEq,Nat.reduceEqDiff,Nat.reduceAdd,Nat.reduceLT,Nat.reduceLeDiff,Nat.beq]
   rw [loop71 (a:=a) (b:=b) hl c1]
   rotate_left
   ·simp only [slAll,slsAll,Nat.reduceMul,Nat.reduceBEq,Nat.reduceLT,Nat.reduceLeDiff,Nat.reduceAdd,decide_true,Bool.and_self,Bool.true_and]<;>rfl
   ·rw [List.drop_zero,List.drop_zero]
    cases decide (a.ws=b.ws) with
    |true=>rw [resS_t];simp only [F0,F1,List.length_map,slAll,slsAll,Nat.reduceMul,Nat.reduceBEq,Nat.reduceLT,Nat.reduceLeDiff,memAll,vAll,reduceCtorEq,Nat.reduceEqDiff,Nat.reduceAdd,Nat.reduceLT,Nat.reduceLeDiff,Nat.beq]
    |false=>rw [resS_f];simp only [F0,F1,List.length_map,slAll,slsAll,Nat.reduceMul,Nat.reduceBEq,Nat.reduceLT,Nat.reduceLeDiff,memAll,vAll,reduceCtorEq,Nat.reduceEqDiff,Nat.reduceAdd,Nat.reduceLT,Nat.reduceLeDiff,Nat.beq]
  ·have F1:((a.ws.length:Int) != (b.ws.length:Int))=true:=by rw [bne_iff_ne];omega
   rw [decide_eq_false (fun h=>c1 (by rw [h]))]
   rw [cal_code env71 rfl];simp only [fn71,slAll,Nat.reduceBEq,Nat.reduceLeDiff,Nat.reduceAdd,List.length_cons,List.length_nil]
   simp only [F0,F1,List.length_map,slAll,slsAll,Nat.reduceMul,Nat.reduceBEq,Nat.reduceLT,Nat.reduceLeDiff,memAll,vAll,reduceCtorEq,Nat.reduceEqDiff,Nat.reduceAdd,Nat.reduceLT,Nat.reduceLeDiff,Nat.beq]
 ·have F0:(a.size != b.size)=true:=by simpa using c0
  rw [decide_eq_false c0,Bool.false_and]
  rw [cal_code env71 rfl];simp only [fn71,slAll,Nat.reduceBEq,Nat.reduceLeDiff,Nat.reduceAdd,List.length_cons,List.length_nil]
  simp only [F0,slAll,slsAll,Nat.reduceMul,Nat.reduceBEq,Nat.reduceLT,Nat.reduceLeDiff,memAll,vAll,reduceCtorEq,Nat.reduceEqDiff,Nat.reduceAdd,Nat.reduceLT,Nat.reduceLeDiff,Nat.beq]
end Go.Proofs.YtpcncggjmabnaaaGreatDoor.V

namespace Go.Proofs.YtpcncggjmabnaaaGreatDoor.V
theorem loop93 {a b:List Sec} (hl:a.length≤lim) (hab:a.length=b.length) {st:St} (h:st.head [0,1,5] st.boxes.length=some ⟨[.pv (.list 8 (a.map eSec)),.pv (.list 8 (b.map eSec)),.any,.any,.any,.pv (.int .i64 (0:Nat)),.any,.any,.any,.any,.any,.any,.any,.any,.any,.any,.any,.any,.any,.any,.any,.any,.any,.any,.any,.any],[],[],none⟩) :
  den env fn93_l1 st=if a=b then some (.normal,⟨[.any,.any,.any,.any,.any,.any,.any,.any,.any,.any,.any,.any,.any,.any,.any,.any,.any,.any,.any,.any,.any,.any,.any,.any,.any,.any],[],[],none⟩) else some (.ret,⟨[.any,.any,.any,.any,.pv (.bool false),.any,.any,.any,.any,.any,.any,.any,.any,.any,.any,.any,.any,.any,.any,.any,.any,.any,.any,.any,.any,.any],[],[],none⟩):=by
 unfold fn93_l1
 rw [ clean_up (env:=env) (a.length) (fun i=>⟨[.pv (.list 8 (a.map eSec)),.pv (.list 8 (b.map eSec)),.any,.any,.any,.pv (.int .i64 i),.any,.any,.any,.any,.any,.any,.any,.any,.any,.any,.any,.any,.any,.any,.any,.any,.any,.any,.any,.any],[],[],none⟩) (fun i=>if a.drop i=b.drop i then some (.normal,⟨[.any,.any,.any,.any,.any,.any,.any,.any,.any,.any,.any,.any,.any,.any,.any,.any,.any,.any,.any,.any,.any,.any,.any,.any,.any,.any],[],[],none⟩) else some (.ret,⟨[.any,.any,.any,.any,.pv (.bool false),.any,.any,.any,.any,.any,.any,.any,.any,.any,.any,.any,.any,.any,.any,.any,.any,.any,.any,.any,.any,.any],[],[],none⟩)) h (fun _=>rfl) (fun _=>rfl) ?_ ?_]
 ·first|rfl|simp only [List.drop_zero,List.take_zero,List.map_nil,Nat.zero_add,List.nil_append,List.foldl_nil]
 ·intro i rb hi ih
  have hi1:=i64_next hi hl
  have hj:i<b.length:=by omega
  have F1:((i:Int)<(a.length:Int))=True:=eq_true (by omega)
  rw [List.drop_eq_getElem_cons hi,List.drop_eq_getElem_cons hj]
  by_cases hd:a[i]=b[i]
  ·simp only [fn93_b0,F1,eSec,index_nat hi,index_nat hj,List.getElem?_map,List.getElem?_eq_getElem hi,List.getElem?_eq_getElem hj,part_sec,secPV_length,eqCells_sec,hd,decide_true,memAll,vAll,reduceCtorEq,Nat.reduceEqDiff,Nat.reduceAdd,Nat.reduceLT,Nat.reduceLeDiff,Nat.beq]
   rw [ih _ (by simp only [hi1];rfl)]
   simp only [List.cons.injEq,true_and]
  ·have hdf:=decide_eq_false hd
   simp only [fn93_b0,F1,eSec,index_nat hi,index_nat hj,List.getElem?_map,List.getElem?_eq_getElem hi,List.getElem?_eq_getElem hj,part_sec,secPV_length,eqCells_sec,hdf,memAll,vAll,reduceCtorEq,Nat.reduceEqDiff,Nat.reduceAdd,Nat.reduceLT,Nat.reduceLeDiff,Nat.beq]
   rw [if_neg (fun e=>hd (List.cons.inj e).1)]
   rfl
 ·intro rb
  simp only [fn93_b0,Int.lt_irrefl, memAll,vAll,reduceCtorEq,Nat.reduceEqDiff,Nat.reduceAdd,Nat.reduceLT,Nat.reduceLeDiff,Nat.beq]
  rw [List.drop_length,hab,List.drop_length,if_pos rfl]
  rfl
theorem cal93 {a b:List Sec} (hl:a.length≤lim):cal env 93 [.list 8 (a.map eSec),.list 8 (b.map eSec)]=some [(.bool (decide (a=b)),false)]:=by
 rw [cal_code env93 rfl];simp only [fn93];simp only [start,z_map_cons,z_map_nil,z_len_cons,z_len_nil,z_repl_zero,z_repl_succ,z_cons_app,z_nil_app,Nat.reduceAdd,Nat.reduceSub]
 by_cases hab:a.length=b.length
 ·have G:(((a.length:Int)) != (b.length:Int))=false:=by simp;omega
  simp only [G,memAll,vAll,reduceCtorEq,Nat.reduceEqDiff,Nat.reduceAdd,Nat.reduceLT,Nat.reduceLeDiff,Nat.beq]
  rw [loop93 hl hab]
  rotate_left
  ·rfl
  ·by_cases e:a=b<;>simp only [e,memAll,vAll,reduceCtorEq,Nat.reduceEqDiff,Nat.reduceAdd,Nat.reduceLT,Nat.reduceLeDiff,Nat.beq]
 ·have G:(((a.length:Int)) != (b.length:Int))=true:=by simp;omega
  have:a≠b:=fun e=>hab (by rw [e])
  have hdf:=decide_eq_false this
  simp only [G,hdf,memAll,vAll,reduceCtorEq,Nat.reduceEqDiff,Nat.reduceAdd,Nat.reduceLT,Nat.reduceLeDiff,Nat.beq]
theorem loop52 {a:List Wrt} (hl:a.length≤lim) (hd:∀ x∈a,x.data.length≤lim) {st:St} (h:st.head [0,1,5] st.boxes.length=some ⟨[.pv (.list 3 (a.map eWr)),.pv (.list 3 (a.map eWr)),.any,.any,.any,.pv (.int .i64 (0:Nat)),.any,.any,.any,.any,.any,.any,.any,.any,.any,.any,.any,.any,.any,.any,.any,.any,.any,.any,.any,.any,.any,.any,.any,.any,.any,.any,.any,.any,.any,.any,.any,.any,.any,.any,.any,.any,.any,.any,.any,.any,.any,.any,.any,.any,.any,.any,.any,.any,.any],[],[],none⟩) :
  den env fn52_l1 st=some (.normal,⟨[.any,.any,.any,.any,.any,.any,.any,.any,.any,.any,.any,.any,.any,.any,.any,.any,.any,.any,.any,.any,.any,.any,.any,.any,.any,.any,.any,.any,.any,.any,.any,.any,.any,.any,.any,.any,.any,.any,.any,.any,.any,.any,.any,.any,.any,.any,.any,.any,.any,.any,.any,.any,.any,.any,.any],[],[],none⟩):=by
 unfold fn52_l1
 refine clean_up (env:=env) (a.length) (fun i=>⟨[.pv (.list 3 (a.map eWr)),.pv (.list 3 (a.map eWr)),.any,.any,.any,.pv (.int .i64 i),.any,.any,.any,.any,.any,.any,.any,.any,.any,.any,.any,.any,.any,.any,.any,.any,.any,.any,.any,.any,.any,.any,.any,.any,.any,.any,.any,.any,.any,.any,.any,.any,.any,.any,.any,.any,.any,.any,.any,.any,.any,.any,.any,.any,.any,.any,.any,.any,.any],[],[],none⟩) (fun i=>some (.normal,⟨[.any,.any,.any,.any,.any,.any,.any,.any,.any,.any,.any,.any,.any,.any,.any,.any,.any,.any,.any,.any,.any,.any,.any,.any,.any,.any,.any,.any,.any,.any,.any,.any,.any,.any,.any,.any,.any,.any,.any,.any,.any,.any,.any,.any,.any,.any,.any,.any,.any,.any,.any,.any,.any,.any,.any],[],[],none⟩)) h (fun _=>rfl) (fun _=>rfl) ?_ ?_
 ·intro i rb hi ih
  have hi1:=i64_next hi hl
  have F1:((i:Int)<(a.length:Int))=True:=eq_true (by omega)
  have e1:=cal93 (b:=a[i].data) (hd _ (List.getElem_mem hi))
  have F2:∀ n:Int,(n != n)=false:=fun n=>by simp
  simp only [fn52_b0,F1,F2,e1,eWr,index_nat hi,List.getElem?_map,List.getElem?_eq_getElem hi,Option.map_some,decide_true,memAll,vAll,reduceCtorEq,Nat.reduceEqDiff,Nat.reduceAdd,Nat.reduceLT,Nat.reduceLeDiff,Nat.beq]
  rw [ih _ (by simp only [hi1];rfl)]
 ·intro rb
  simp only [fn52_b0,Int.lt_irrefl, memAll,vAll,reduceCtorEq,Nat.reduceEqDiff,Nat.reduceAdd,Nat.reduceLT,Nat.reduceLeDiff,Nat.beq]
  rfl
theorem cal52 {a:List Wrt} (hl:a.length≤lim) (hd:∀ x∈a,x.data.length≤lim):cal env 52 [.list 3 (a.map eWr),.list 3 (a.map eWr)]=some [(.bool true,false)]:=by
 have G:(((a.length:Int)) != (a.length:Int))=false:=by simp
 rw [cal_code env52 rfl];simp only [fn52];simp only [start,z_map_cons,z_map_nil,z_len_cons,z_len_nil,z_repl_zero,z_repl_succ,z_cons_app,z_nil_app,Nat.reduceAdd,Nat.reduceSub]
 simp only [G,memAll,vAll,reduceCtorEq,Nat.reduceEqDiff,Nat.reduceAdd,Nat.reduceLT,Nat.reduceLeDiff,Nat.beq]
 rw [loop52 hl hd]
 rotate_left
 ·rfl
 ·simp only [memAll,vAll,reduceCtorEq,Nat.reduceEqDiff,Nat.reduceAdd,Nat.reduceLT,Nat.reduceLeDiff,Nat.beq]
end Go.Proofs.YtpcncggjmabnaaaGreatDoor.V

namespace Go.Proofs.YtpcncggjmabnaaaGreatDoor.V
theorem loop40 {l:List Int} {sz:Nat} (hz:l=[]∨sz=1) (hl:l.length≤lim) {st:St} (h:st.head [0,1,5] st.boxes.length=some ⟨[.pv (.list sz (l.map eI)),.pv (.list sz (l.map eI)),.any,.any,.any,.pv (.int .i64 (0:Nat)),.any,.any,.any,.any,.any,.any,.any,.any,.any,.any,.any,.any,.any,.any,.any,.any,.any,.any,.any,.any],[],[],none⟩) :
  den env fn40_l1 st=some (.normal,⟨[.any,.any,.any,.any,.any,.any,.any,.any,.any,.any,.any,.any,.any,.any,.any,.any,.any,.any,.any,.any,.any,.any,.any,.any,.any,.any],[],[],none⟩):=by
 unfold fn40_l1
 refine clean_up (env:=env) (l.length) (fun i=>⟨[.pv (.list sz (l.map eI)),.pv (.list sz (l.map eI)),.any,.any,.any,.pv (.int .i64 i),.any,.any,.any,.any,.any,.any,.any,.any,.any,.any,.any,.any,.any,.any,.any,.any,.any,.any,.any,.any],[],[],none⟩) (fun i=>some (.normal,⟨[.any,.any,.any,.any,.any,.any,.any,.any,.any,.any,.any,.any,.any,.any,.any,.any,.any,.any,.any,.any,.any,.any,.any,.any,.any,.any],[],[],none⟩)) h (fun _=>rfl) (fun _=>rfl) ?_ ?_
 ·intro i rb hi ih
  have hi1:=i64_next hi hl
  have hsz:sz=1:=by
   rcases hz with e|e
   ·exfalso;rw [e] at hi;exact Nat.not_lt_zero _ hi
   ·exact e
  subst hsz
  have F1:((i:Int)<(l.length:Int))=True:=eq_true (by omega)
  have F2:∀ n:Int,(n != n)=false:=fun n=>by simp
  simp only [fn40_b0,F1,F2,eI,index_nat hi,List.getElem?_map,List.getElem?_eq_getElem hi,memAll,vAll,reduceCtorEq,Nat.reduceEqDiff,Nat.reduceAdd,Nat.reduceLT,Nat.reduceLeDiff,Nat.beq]
  rw [ih _ (by simp only [hi1];rfl)]
 ·intro rb
  simp only [fn40_b0,Int.lt_irrefl, memAll,vAll,reduceCtorEq,Nat.reduceEqDiff,Nat.reduceAdd,Nat.reduceLT,Nat.reduceLeDiff,Nat.beq]
  rfl
theorem cal40 {l:List Int} {sz:Nat} (hz:l=[]∨sz=1) (hl:l.length≤lim):cal env 40 [.list sz (l.map eI),.list sz (l.map eI)]=some [(.bool true,false)]:=by
 have G:(((l.length:Int)) != (l.length:Int))=false:=by simp
 rw [cal_code env40 rfl];simp only [fn40];simp only [start,z_map_cons,z_map_nil,z_len_cons,z_len_nil,z_repl_zero,z_repl_succ,z_cons_app,z_nil_app,Nat.reduceAdd,Nat.reduceSub]
 simp only [G,List.length_map,memAll,vAll,reduceCtorEq,Nat.reduceEqDiff,Nat.reduceAdd,Nat.reduceLT,Nat.reduceLeDiff,Nat.beq]
 rw [loop40 hz hl]
 rotate_left
 ·rfl
 ·simp only [memAll,vAll,reduceCtorEq,Nat.reduceEqDiff,Nat.reduceAdd,Nat.reduceLT,Nat.reduceLeDiff,Nat.beq]
theorem cal22 {b n t:Int} {p:List Int} {w:List Wrt} (hp:p.length≤lim) (hl:w.length≤lim) (hd:∀ x∈w,x.data.length≤lim):cal env 22 [eCyc b n t p w,eCyc b n t p w]=some [(.bool true,false)]:=by
 have e1:=cal40 (sz:=1) (.inr rfl) hp
 have e2:=cal52 hl hd
 have F2:∀ n:Int,(n==n)=true:=fun n=>by simp
 unfold eCyc
 rw [cal_code env22 rfl];simp only [fn22];simp only [start,z_map_cons,z_map_nil,z_len_cons,z_len_nil,z_repl_zero,z_repl_succ,z_cons_app,z_nil_app,Nat.reduceAdd,Nat.reduceSub]
 simp only [e1,e2,F2,memAll,vAll,reduceCtorEq,Nat.reduceEqDiff,Nat.reduceAdd,Nat.reduceLT,Nat.reduceLeDiff,Nat.beq]
end Go.Proofs.YtpcncggjmabnaaaGreatDoor.V

namespace Go.Proofs.YtpcncggjmabnaaaGreatDoor.V
structure Spl where
 lm:Int
 sz:List Int
 cy:List Cye
 ov:Bool
 fs:Int
 ls:Int
 dt:List Bm
def eSpl (s:Spl):PV:=.agg [.int .i64 s.lm,.list 1 (s.sz.map eI),.list 5 (s.cy.map eCye),.bool s.ov,.int .i64 s.fs,.int .i64 s.ls,.list 2 (s.dt.map eBm)]
theorem eSpl_eq (s:Spl):eSpl s=.agg [.int .i64 s.lm,.list 1 (s.sz.map eI),.list 5 (s.cy.map eCye),.bool s.ov,.int .i64 s.fs,.int .i64 s.ls,.list 2 (s.dt.map eBm)]:=rfl
def zSpl:Spl:=⟨0,[],[],false,0,0,[]⟩
theorem eSpl_z:eSpl zSpl=.agg [.int .i64 0,.list 1 [],.list 5 [],.bool false,.int .i64 0,.int .i64 0,.list 2 []]:=rfl
theorem part7 (a b c d e f g:PV):part [a,b,c,d,e,f,g] 0 (some 7)=some (.agg [a,b,c,d,e,f,g]):=rfl
theorem part5 (a b c d e:PV):part [a,b,c,d,e] 0 (some 5)=some (.agg [a,b,c,d,e]):=rfl
theorem part2 (a b:PV):part [a,b] 0 (some 2)=some (.agg [a,b]):=rfl
theorem cal39q {es:List PV} (hl:es.length≤lim):cal env 39 [.list 1 es]=some [(.list 1 es,true)]:=(cal_ext env39).trans (if_pos ⟨rfl,hl⟩)
theorem loop31 {z:List Int} (hz:z.length≤1000) (hs:∀ x∈z,1≤x∧x≤4096) {st:St} (h:st.head [0,5,6,25] st.boxes.length=some ⟨sl 27 [(0,.pv (.list 1 (z.map eI))),(5,.row 1 ((newImg (z.take ((0:Nat)))).map eSecs)),(6,.pv (.int .i64 (0:Nat))),(25,.any)],[],[],none⟩) :
  den env fn31_l1 st=some (.normal,⟨sl 27 [(2,.any),(3,.any),(5,.row 1 ((newImg z).map eSecs))],[],[],none⟩):=by
 unfold fn31_l1
 refine clean_up (env:=env) (z.length) (fun i=>⟨sl 27 [(0,.pv (.list 1 (z.map eI))),(5,.row 1 ((newImg (z.take (i))).map eSecs)),(6,.pv (.int .i64 i)),(25,.any)],[],[],none⟩) (fun i=>some (.normal,⟨sl 27 [(2,.any),(3,.any),(5,.row 1 ((newImg z).map eSecs))],[],[],none⟩)) h (fun _=>rfl) (fun _=>by simp only [slAll,slsAll,Nat.reduceMul,Nat.reduceBEq,Nat.reduceLT,Nat.reduceLeDiff,Nat.reduceAdd,decide_true,Bool.and_self,Bool.true_and]) ?_ ?_
 ·intro i rb hi ih
  have hi1:=i64_next hi (by unfold lim;omega)
  have F1:((i:Int)<(z.length:Int))=True:=eq_true (by omega)
  have q:=hs _ (List.getElem_mem hi)
  have F2:(0≤z[i])=True:=eq_true (by omega)
  have F3:(z[i]≤z[i])=True:=eq_true (Int.le_refl _)
  have F4:(z[i]≤(lim:Int))=True:=eq_true (by unfold lim;omega)
  have hx:(z.map eI)[i]?=some (.int .i64 z[i]):=by rw [List.getElem?_map,List.getElem?_eq_getElem hi];rfl
  have F5:(((newImg (z.take i)).map eSecs).length+1≤lim)=True:=eq_true (by rw [List.length_map,newImg_len24,List.length_take];unfold lim;omega)
  have hs2:(newImg (z.take (i+1))).map eSecs=(newImg (z.take i)).map eSecs++[.list 8 (List.replicate z[i].toNat (.agg [.int .u8 0,.int .u8 0,.int .u8 0,.int .u8 0,.int .u8 0,.int .u8 0,.int .u8 0,.int .u8 0]))]:=by
   rw [List.take_succ_eq_append_getElem hi]
   unfold newImg
   rw [List.map_append,List.map_append]
   congr 1
   simp only [List.map_cons,List.map_nil,eSecs,List.map_replicate]
   rfl
  rw [hs2] at ih
  simp only [fn31_b0,F1,F2,F3,F4,F5,hx,index_nat hi,List.length_map,slAll,slsAll,Nat.reduceMul,Nat.reduceBEq,Nat.reduceLT,Nat.reduceLeDiff,memAll,vAll,reduceCtorEq,Nat.reduceEqDiff,Nat.reduceAdd,Nat.reduceLT,Nat.reduceLeDiff,Nat.beq] at *
  simp only [F5,slAll,slsAll,Nat.reduceMul,Nat.reduceBEq,Nat.reduceLT,Nat.reduceLeDiff,memAll,vAll,reduceCtorEq,Nat.reduceEqDiff,Nat.reduceAdd,Nat.reduceLT,Nat.reduceLeDiff,Nat.beq]
  rw [ih _ (by simp only [hi1,slAll,slsAll,Nat.reduceMul,Nat.reduceBEq,Nat.reduceLT,Nat.reduceLeDiff,memAll,vAll,reduceCtorEq,Nat.reduceEqDiff,Nat.reduceAdd,Nat.reduceLT,Nat.reduceLeDiff,Nat.beq]<;>rfl)]
 ·intro rb
  rw [List.take_length]
  simp only [fn31_b0,Int.lt_irrefl,List.length_map,slAll,slsAll,Nat.reduceMul,Nat.reduceBEq,Nat.reduceLT,Nat.reduceLeDiff,memAll,vAll,reduceCtorEq,Nat.reduceEqDiff,Nat.reduceAdd,Nat.reduceLT,Nat.reduceLeDiff,Nat.beq]
theorem cal31 {z:List Int} (hz:z.length≤1000):cal env 31 [.list 1 (z.map eI)]=some [(.list 1 ((if sizesErr z=0 then newImg z else []).map eSecs),true),(.int .i64 (sizesErr z),false)]:=by
 have e1:=cal62 (l:=z) (by unfold lim;omega)
 by_cases c:sizesErr z=0
 ·have hs:∀ x∈z,1≤x∧x≤4096:=by
   intro x hx
   have h:=c
   unfold sizesErr at h
   split at h
   ·omega
   ·split at h
    ·omega
    ·rename_i h2
     simp only [List.any_eq_true,not_exists,not_and,Bool.not_eq_true] at h2
     have:=h2 x hx
     simp at this
     omega
  rw [c] at e1
  rw [if_pos c,c]
  have Z:((0:Int) != 0)=false:=rfl
  rw [cal_code env31 rfl];simp only [fn31,slAll,Nat.reduceBEq,Nat.reduceLeDiff,Nat.reduceAdd,List.length_cons,List.length_nil]
  simp only [e1,Z,slAll,slsAll,Nat.reduceMul,Nat.reduceBEq,Nat.reduceLT,Nat.reduceLeDiff,memAll,vAll,reduceCtorEq,Nat.reduceEqDiff,Nat.reduceAdd,Nat.reduceLT,Nat.reduceLeDiff,Nat.beq]
  rw [loop31 hz hs (by simp only [slAll,slsAll,Nat.reduceMul,Nat.reduceBEq,Nat.reduceLT,Nat.reduceLeDiff,Nat.reduceAdd,decide_true,Bool.and_self,Bool.true_and]<;>rfl)]
  simp only [e1,Z,slAll,slsAll,Nat.reduceMul,Nat.reduceBEq,Nat.reduceLT,Nat.reduceLeDiff,memAll,vAll,reduceCtorEq,Nat.reduceEqDiff,Nat.reduceAdd,Nat.reduceLT,Nat.reduceLeDiff,Nat.beq]
 ·rw [if_neg c]
  have Z:(sizesErr z != 0)=true:=by simp [c]
  rw [cal_code env31 rfl];simp only [fn31,slAll,Nat.reduceBEq,Nat.reduceLeDiff,Nat.reduceAdd,List.length_cons,List.length_nil]
  simp only [e1,Z,slAll,slsAll,Nat.reduceMul,Nat.reduceBEq,Nat.reduceLT,Nat.reduceLeDiff,memAll,vAll,reduceCtorEq,Nat.reduceEqDiff,Nat.reduceAdd,Nat.reduceLT,Nat.reduceLeDiff,Nat.beq]
end Go.Proofs.YtpcncggjmabnaaaGreatDoor.V
