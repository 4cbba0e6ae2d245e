/-
  Part 5 of the texts that the statement stands on.
-/
import Derived.Test.YtpcncggjmabnaaaGreatDoorZ4
set_option linter.all false
namespace Go.Proofs.YtpcncggjmabnaaaGreatDoor.V
structure Spl where
 lm:Int
 sz:List Int
 cy:List Cye
 ov:Bool
 fs:Int
 ls:Int
 dt:List Bm
def eSpl (s:Spl):PV:=.agg [.int .i64 s.lm,.list 1 (s.sz.map eI),.list 5 (s.cy.map eCye),.bool s.ov,.int .i64 s.fs,.int .i64 s.ls,.list 2 (s.dt.map eBm)]
theorem eSpl_eq (s:Spl):eSpl s=.agg [.int .i64 s.lm,.list 1 (s.sz.map eI),.list 5 (s.cy.map eCye),.bool s.ov,.int .i64 s.fs,.int .i64 s.ls,.list 2 (s.dt.map eBm)]:=rfl
def zSpl:Spl:=⟨0,[],[],false,0,0,[]⟩
theorem eSpl_z:eSpl zSpl=.agg [.int .i64 0,.list 1 [],.list 5 [],.bool false,.int .i64 0,.int .i64 0,.list 2 []]:=rfl
theorem eSpl_new (n:Int) (z:List Int):eSpl ⟨n,z,[],false,0,0,[]⟩=.agg [.int .i64 n,.list 1 (z.map eI),.list 5 [],.bool false,.int .i64 0,.int .i64 0,.list 2 []]:=rfl
theorem part7 (a b c d e f g:PV):part [a,b,c,d,e,f,g] 0 (some 7)=some (.agg [a,b,c,d,e,f,g]):=rfl
theorem part5 (a b c d e:PV):part [a,b,c,d,e] 0 (some 5)=some (.agg [a,b,c,d,e]):=rfl
theorem part2 (a b:PV):part [a,b] 0 (some 2)=some (.agg [a,b]):=rfl
theorem cal39q {es:List PV} (hl:es.length≤lim):cal env 39 [.list 1 es]=some [(.list 1 es,true)]:=(cal_ext env39).trans (if_pos ⟨rfl,hl⟩)
def newQE (z:List Int) (n:Int):Int:=if sizesErr z=0 then (if n<1∨n > 1024 then 2 else 0) else sizesErr z
def newQ (z:List Int) (n:Int):Spl:=if newQE z n=0 then ⟨n,z,[],false,0,0,[]⟩ else zSpl
theorem cal11 {z:List Int} {n:Int} (hz:z.length≤lim):cal env 11 [.list 1 (z.map eI),.int .i64 n]=some [(eSpl (newQ z n),false),(.int .i64 (newQE z n),false)]:=by
 have e1:=cal38 hz
 have e2:=cal39q (es:=z.map eI) (by rw [List.length_map];exact hz)
 unfold newQ newQE
 by_cases c:sizesErr z=0
 ·rw [c,if_pos rfl] at e1
  rw [if_pos c]
  have Z:((0:Int) != 0)=false:=rfl
  by_cases c1:n<1
  ·have F1:=eq_true c1
   rw [if_pos (Or.inl c1:n<1∨n > 1024),if_neg (by decide),eSpl_z]
   rw [cal_code env11 rfl];simp only [fn11,slAll,Nat.reduceBEq,Nat.reduceLeDiff,Nat.reduceAdd,List.length_cons,List.length_nil]
   simp only [e1,Z,F1,part7,slAll,slsAll,Nat.reduceMul,Nat.reduceBEq,Nat.reduceLT,Nat.reduceLeDiff,memAll,vAll,reduceCtorEq,Nat.reduceEqDiff,Nat.reduceAdd,Nat.reduceLT,Nat.reduceLeDiff,Nat.beq]
  ·have F1:=eq_false c1
   by_cases c2:n > 1024
   ·have F2:=eq_true c2
    rw [if_pos (Or.inr c2:n<1∨n > 1024),if_neg (by decide),eSpl_z]
    rw [cal_code env11 rfl];simp only [fn11,slAll,Nat.reduceBEq,Nat.reduceLeDiff,Nat.reduceAdd,List.length_cons,List.length_nil]
    simp only [e1,Z,F1,F2,part7,slAll,slsAll,Nat.reduceMul,Nat.reduceBEq,Nat.reduceLT,Nat.reduceLeDiff,memAll,vAll,reduceCtorEq,Nat.reduceEqDiff,Nat.reduceAdd,Nat.reduceLT,Nat.reduceLeDiff,Nat.beq]
   ·have F2:=eq_false c2
    rw [if_neg (show ¬ (n<1∨n > 1024) by omega),if_pos rfl,eSpl_new]
    rw [cal_code env11 rfl];simp only [fn11,slAll,Nat.reduceBEq,Nat.reduceLeDiff,Nat.reduceAdd,List.length_cons,List.length_nil]
    simp only [e1,e2,Z,F1,F2,part7,slAll,slsAll,Nat.reduceMul,Nat.reduceBEq,Nat.reduceLT,Nat.reduceLeDiff,memAll,vAll,reduceCtorEq,Nat.reduceEqDiff,Nat.reduceAdd,Nat.reduceLT,Nat.reduceLeDiff,Nat.beq]
 ·rw [if_neg c] at e1
  rw [if_neg c,if_neg c,eSpl_z]
  have Z:(sizesErr z != 0)=true:=by simp [c]
  rw [cal_code env11 rfl];simp only [fn11,slAll,Nat.reduceBEq,Nat.reduceLeDiff,Nat.reduceAdd,List.length_cons,List.length_nil]
  simp only [e1,Z,part7,slAll,slsAll,Nat.reduceMul,Nat.reduceBEq,Nat.reduceLT,Nat.reduceLeDiff,memAll,vAll,reduceCtorEq,Nat.reduceEqDiff,Nat.reduceAdd,Nat.reduceLT,Nat.reduceLeDiff,Nat.beq]
theorem loop31 {z:List Int} (hz:z.length≤1000) (hs:∀ x∈z,1≤x∧x≤4096) {st:St} (h:st.head [0,5,6,25] st.boxes.length=some ⟨sl 27 [(0,.pv (.list 1 (z.map eI))),(5,.row 1 ((newImg (z.take ((0:Nat)))).map eSecs)),(6,.pv (.int .i64 (0:Nat))),(25,.any)],[],[],none⟩) :
  den env fn31_l1 st=some (.normal,⟨sl 27 [(2,.any),(3,.any),(5,.row 1 ((newImg z).map eSecs))],[],[],none⟩):=by
 unfold fn31_l1
 refine clean_up (env:=env) (z.length) (fun i=>⟨sl 27 [(0,.pv (.list 1 (z.map eI))),(5,.row 1 ((newImg (z.take (i))).map eSecs)),(6,.pv (.int .i64 i)),(25,.any)],[],[],none⟩) (fun i=>some (.normal,⟨sl 27 [(2,.any),(3,.any),(5,.row 1 ((newImg z).map eSecs))],[],[],none⟩)) h (fun _=>rfl) (fun _=>by simp only [slAll,slsAll,Nat.reduceMul,Nat.reduceBEq,Nat.reduceLT,Nat.reduceLeDiff,Nat.reduceAdd,decide_true,Bool.and_self,Bool.true_and]) ?_ ?_
 ·intro i rb hi ih
  have hi1:=i64_next hi (by unfold lim;omega)
  have F1:((i:Int)<(z.length:Int))=True:=eq_true (by omega)
  have q:=hs _ (List.getElem_mem hi)
  have F2:(0≤z[i])=True:=eq_true (by omega)
  have F3:(z[i]≤z[i])=True:=eq_true (Int.le_refl _)
  have F4:(z[i]≤(lim:Int))=True:=eq_true (by unfold lim;omega)
  have hx:(z.map eI)[i]?=some (.int .i64 z[i]):=by rw [List.getElem?_map,List.getElem?_eq_getElem hi];rfl
  have F5:(((newImg (z.take i)).map eSecs).length+1≤lim)=True:=eq_true (by rw [List.length_map,newImg_len24,List.length_take];unfold lim;omega)
  have hs2:(newImg (z.take (i+1))).map eSecs=(newImg (z.take i)).map eSecs++[.list 8 (List.replicate z[i].toNat (.agg [.int .u8 0,.int .u8 0,.int .u8 0,.int .u8 0,.int .u8 0,.int .u8 0,.int .u8 0,.int .u8 0]))]:=by
   rw [List.take_succ_eq_append_getElem hi]
   unfold newImg
   rw [List.map_append,List.map_append]
   congr 1
   simp only [List.map_cons,List.map_nil,eSecs,List.map_replicate]
   rfl
  rw [hs2] at ih
  simp only [fn31_b0,F1,F2,F3,F4,F5,hx,index_nat hi,List.length_map,slAll,slsAll,Nat.reduceMul,Nat.reduceBEq,Nat.reduceLT,Nat.reduceLeDiff,memAll,vAll,reduceCtorEq,Nat.reduceEqDiff,Nat.reduceAdd,Nat.reduceLT,Nat.reduceLeDiff,Nat.beq] at *
  simp only [F5,slAll,slsAll,Nat.reduceMul,Nat.reduceBEq,Nat.reduceLT,Nat.reduceLeDiff,memAll,vAll,reduceCtorEq,Nat.reduceEqDiff,Nat.reduceAdd,Nat.reduceLT,Nat.reduceLeDiff,Nat.beq]
  rw [ih _ (by simp only [hi1,slAll,slsAll,Nat.reduceMul,Nat.reduceBEq,Nat.reduceLT,Nat.reduceLeDiff,memAll,vAll,reduceCtorEq,Nat.reduceEqDiff,Nat.reduceAdd,Nat.reduceLT,Nat.reduceLeDiff,Nat.beq]<;>rfl)]
 ·intro rb
  rw [List.take_length]
  simp only [fn31_b0,Int.lt_irrefl,List.length_map,slAll,slsAll,Nat.reduceMul,Nat.reduceBEq,Nat.reduceLT,Nat.reduceLeDiff,memAll,vAll,reduceCtorEq,Nat.reduceEqDiff,Nat.reduceAdd,Nat.reduceLT,Nat.reduceLeDiff,Nat.beq]
theorem cal31 {z:List Int} (hz:z.length≤1000):cal env 31 [.list 1 (z.map eI)]=some [(.list 1 ((if sizesErr z=0 then newImg z else []).map eSecs),true),(.int .i64 (sizesErr z),false)]:=by
 have e1:=cal62 (l:=z) (by unfold lim;omega)
 by_cases c:sizesErr z=0
 ·have hs:∀ x∈z,1≤x∧x≤4096:=by
   intro x hx
   have h:=c
   unfold sizesErr at h
   split at h
   ·omega
   ·split at h
    ·omega
    ·rename_i h2
     simp only [List.any_eq_true,not_exists,not_and,Bool.not_eq_true] at h2
     have:=h2 x hx
     simp at this
     omega
  rw [c] at e1
  rw [if_pos c,c]
  have Z:((0:Int) != 0)=false:=rfl
  rw [cal_code env31 rfl];simp only [fn31,slAll,Nat.reduceBEq,Nat.reduceLeDiff,Nat.reduceAdd,List.length_cons,List.length_nil]
  simp only [e1,Z,slAll,slsAll,Nat.reduceMul,Nat.reduceBEq,Nat.reduceLT,Nat.reduceLeDiff,memAll,vAll,reduceCtorEq,Nat.reduceEqDiff,Nat.reduceAdd,Nat.reduceLT,Nat.reduceLeDiff,Nat.beq]
  rw [loop31 hz hs (by simp only [slAll,slsAll,Nat.reduceMul,Nat.reduceBEq,Nat.reduceLT,Nat.reduceLeDiff,Nat.reduceAdd,decide_true,Bool.and_self,Bool.true_and]<;>rfl)]
  simp only [e1,Z,slAll,slsAll,Nat.reduceMul,Nat.reduceBEq,Nat.reduceLT,Nat.reduceLeDiff,memAll,vAll,reduceCtorEq,Nat.reduceEqDiff,Nat.reduceAdd,Nat.reduceLT,Nat.reduceLeDiff,Nat.beq]
 ·rw [if_neg c]
  have Z:(sizesErr z != 0)=true:=by simp [c]
  rw [cal_code env31 rfl];simp only [fn31,slAll,Nat.reduceBEq,Nat.reduceLeDiff,Nat.reduceAdd,List.length_cons,List.length_nil]
  simp only [e1,Z,slAll,slsAll,Nat.reduceMul,Nat.reduceBEq,Nat.reduceLT,Nat.reduceLeDiff,memAll,vAll,reduceCtorEq,Nat.reduceEqDiff,Nat.reduceAdd,Nat.reduceLT,Nat.reduceLeDiff,Nat.beq]
theorem cal12 {z:List Int} {n:Int} (hz:z.length≤1000):cal env 12 [.list 1 (z.map eI),.int .i64 n]=some [(eSpl (newQ z n),false),(.int .i64 (newQE z n),false)]:=by
 have e1:=cal31 hz
 have F0:(z.length≤lim)=True:=eq_true (by unfold lim;omega)
 unfold newQ newQE
 by_cases c:sizesErr z=0
 ·rw [c,if_pos rfl] at e1
  rw [if_pos c]
  have Z:((0:Int) != 0)=false:=rfl
  by_cases c1:n<1
  ·have F1:=eq_true c1
   rw [if_pos (Or.inl c1:n<1∨n > 1024),if_neg (by decide),eSpl_z]
   rw [cal_code env12 rfl];simp only [fn12,slAll,Nat.reduceBEq,Nat.reduceLeDiff,Nat.reduceAdd,List.length_cons,List.length_nil]
   simp only [e1,Z,F1,part7,slAll,slsAll,Nat.reduceMul,Nat.reduceBEq,Nat.reduceLT,Nat.reduceLeDiff,memAll,vAll,reduceCtorEq,Nat.reduceEqDiff,Nat.reduceAdd,Nat.reduceLT,Nat.reduceLeDiff,Nat.beq]
  ·have F1:=eq_false c1
   by_cases c2:n > 1024
   ·have F2:=eq_true c2
    rw [if_pos (Or.inr c2:n<1∨n > 1024),if_neg (by decide),eSpl_z]
    rw [cal_code env12 rfl];simp only [fn12,slAll,Nat.reduceBEq,Nat.reduceLeDiff,Nat.reduceAdd,List.length_cons,List.length_nil]
    simp only [e1,Z,F1,F2,part7,slAll,slsAll,Nat.reduceMul,Nat.reduceBEq,Nat.reduceLT,Nat.reduceLeDiff,memAll,vAll,reduceCtorEq,Nat.reduceEqDiff,Nat.reduceAdd,Nat.reduceLT,Nat.reduceLeDiff,Nat.beq]
   ·have F2:=eq_false c2
    rw [if_neg (show ¬ (n<1∨n > 1024) by omega),if_pos rfl,eSpl_new]
    rw [cal_code env12 rfl];simp only [fn12,slAll,Nat.reduceBEq,Nat.reduceLeDiff,Nat.reduceAdd,List.length_cons,List.length_nil]
    simp only [e1,Z,F0,F1,F2,part7,List.length_map,List.length_nil,Nat.zero_add,List.nil_append,slAll,slsAll,Nat.reduceMul,Nat.reduceBEq,Nat.reduceLT,Nat.reduceLeDiff,memAll,vAll,reduceCtorEq,Nat.reduceEqDiff,Nat.reduceAdd,Nat.reduceLT,Nat.reduceLeDiff,Nat.beq]
 ·rw [if_neg c] at e1
  rw [if_neg c,if_neg c,eSpl_z]
  have Z:(sizesErr z != 0)=true:=by simp [c]
  rw [cal_code env12 rfl];simp only [fn12,slAll,Nat.reduceBEq,Nat.reduceLeDiff,Nat.reduceAdd,List.length_cons,List.length_nil]
  simp only [e1,Z,part7,slAll,slsAll,Nat.reduceMul,Nat.reduceBEq,Nat.reduceLT,Nat.reduceLeDiff,memAll,vAll,reduceCtorEq,Nat.reduceEqDiff,Nat.reduceAdd,Nat.reduceLT,Nat.reduceLeDiff,Nat.beq]
end Go.Proofs.YtpcncggjmabnaaaGreatDoor.V
