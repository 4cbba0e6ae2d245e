/-
  Part 5 of the texts that the statement stands on.
-/
import Derived.Test.YtpdfhckdmblicaaZ4
set_option linter.all false
namespace Go.Proofs.Ytpdfhckdmblicaa.V
def sizesErr (l:List Int):Int:=if l.length<1∨8<l.length then 6 else if l.any (fun n=>decide (n<1) || decide (n > 4096)) then 2 else 0
def imSizes (im:Img):List Int:=im.map fun v=>(v.length:Int)
def imCheck (im:Img):Int:=sizesErr (imSizes im)
theorem take_map_succ {α β:Type} (f:α→β) {l:List α} {i:Nat} (h:i<l.length):(l.take i).map f++[f l[i]]=(l.take (i+1)).map f:=by
 rw [List.take_succ,List.getElem?_eq_getElem h,List.map_append];rfl
theorem loop115 {α:Type} {enc:α→PV} {l:List α} {g:α→Int} {gf:Nat} {caps:List PV} (hp:∀ x∈l,cal env gf (enc x :: caps)=some [(eI (g x),false)]) (hs:∀ x,part (enc x).cells 0 none=some (enc x)) (hs3:∀ x,(enc x).cells.length=1) (hl:l.length≤lim)
  {st:St} (h:st.head [0,1,5,10,11,12,13,22] st.boxes.length=some ⟨[.pv (.list 1 (l.map enc)),.pv (.func gf caps),.any,.any,.any,.row 1 [],.any,.any,.any,.any,.any,.pv (.list 1 (l.map enc)),.pv (.int .i64 l.length),.pv (.int .i64 (0:Nat)),.any,.any,.any,.any,.any,.any,.any,.any,.any,.any,.any],[],[],none⟩) :
  den env fn115_l1 st=some (.normal,⟨[.any,.any,.any,.any,.any,.row 1 (l.map fun x=>eI (g x)),.any,.any,.any,.any,.any,.any,.any,.any,.any,.any,.any,.any,.any,.any,.any,.any,.any,.any,.any],[],[],none⟩):=by
 unfold fn115_l1
 rw [clean_up l.length (fun i=>⟨[.pv (.list 1 (l.map enc)),.pv (.func gf caps),.any,.any,.any,.row 1 ((l.take i).map fun x=>eI (g x)),.any,.any,.any,.any,.any,.pv (.list 1 (l.map enc)),.pv (.int .i64 l.length),.pv (.int .i64 i),.any,.any,.any,.any,.any,.any,.any,.any,.any,.any,.any],[],[],none⟩)
  (fun i=>some (.normal,⟨[.any,.any,.any,.any,.any,.row 1 (l.map fun x=>eI (g x)),.any,.any,.any,.any,.any,.any,.any,.any,.any,.any,.any,.any,.any,.any,.any,.any,.any,.any,.any],[],[],none⟩)) h (fun _=>rfl) (fun _=>rfl) ?_ ?_]
 ·intro i rb hi ih
  have hi1:=i64_next hi hl
  have F1:((i:Int)<(l.length:Int))=True:=eq_true (by omega)
  have F2:((l.take i).length+1≤lim)=True:=eq_true (by rw [List.length_take];omega)
  have hpi:cal env gf (enc l[i] :: caps)=some [((PV.int .i64 (g l[i])),false)]:=hp _ (List.getElem_mem hi)
  try simp only [eExt] at hpi
  simp only [fn115_b0,F1,F2,index_nat hi,List.getElem?_map,List.getElem?_eq_getElem hi, hpi,hs,hs3,memAll,vAll,reduceCtorEq,Nat.reduceEqDiff,Nat.reduceAdd,Nat.reduceLT,Nat.reduceLeDiff,Nat.beq]
  rw [ih _ (by simp only [hi1];rw [← take_map_succ _ hi];rfl)]
 ·intro rb
  simp only [fn115_b0,Int.lt_irrefl,vAll,reduceCtorEq,Nat.reduceEqDiff,Nat.reduceAdd,Nat.reduceLT,Nat.reduceLeDiff,Nat.beq]
  rw [List.take_length]
  rfl
theorem cal115 {α:Type} {enc:α→PV} {l:List α} {g:α→Int} {gf:Nat} {caps:List PV} (hp:∀ x∈l,cal env gf (enc x :: caps)=some [(eI (g x),false)]) (hs:∀ x,part (enc x).cells 0 none=some (enc x)) (hs3:∀ x,(enc x).cells.length=1) (hl:l.length≤lim) :
  cal env 115 [.list 1 (l.map enc),.func gf caps]=some [(.list 1 (l.map fun x=>eI (g x)),true)]:=by
 rw [cal_code env115 rfl];simp only [fn115];simp only [start,z_map_cons,z_map_nil,z_len_cons,z_len_nil,z_repl_zero,z_repl_succ,z_cons_app,z_nil_app,Nat.reduceAdd,Nat.reduceSub]
 have F1:((l.length:Int)≤(lim:Int))=True:=eq_true (by omega)
 have F2:((0:Int)≤(l.length:Int))=True:=eq_true (by omega)
 simp only [F1,F2,Int.le_refl,memAll,vAll,reduceCtorEq,Nat.reduceEqDiff,Nat.reduceAdd,Nat.reduceLT,Nat.reduceLeDiff,Nat.beq]
 rw [loop115 hp hs hs3 hl]
 rotate_left
 ·rfl
 ·simp only [memAll,vAll,reduceCtorEq,Nat.reduceEqDiff,Nat.reduceAdd,Nat.reduceLT,Nat.reduceLeDiff,Nat.beq]
theorem cal114 {x:Int}:cal env 114 [eI x]=some [(.bool (decide (x<1) || decide (x > 4096)),false)]:=by
 unfold eI
 rw [cal_code env114 rfl];simp only [fn114];simp only [start,z_map_cons,z_map_nil,z_len_cons,z_len_nil,z_repl_zero,z_repl_succ,z_cons_app,z_nil_app,Nat.reduceAdd,Nat.reduceSub]
 simp only [ memAll,vAll,reduceCtorEq,Nat.reduceEqDiff,Nat.reduceAdd,Nat.reduceLT,Nat.reduceLeDiff,Nat.beq]
 (try simp only [bcase_bind,bcase_map,tail_bcase]);refine bcase_split (fun hb=>?_) (fun hb=>?_)<;>try simp only [hb, memAll,vAll,reduceCtorEq,Nat.reduceEqDiff,Nat.reduceAdd,Nat.reduceLT,Nat.reduceLeDiff,Nat.beq]
theorem cal91 {l:List Int} (hl:l.length≤lim):cal env 91 [.list 1 (l.map eI)]=some [(.int .i64 (sizesErr l),false)]:=by
 have e1:=cal30 (l:=l) (enc:=eI) (fun x _=>cal114 (x:=x)) (fun x=>rfl) hl
 rw [cal_code env91 rfl];simp only [fn91];simp only [start,z_map_cons,z_map_nil,z_len_cons,z_len_nil,z_repl_zero,z_repl_succ,z_cons_app,z_nil_app,Nat.reduceAdd,Nat.reduceSub]
 simp only [e1,memAll,vAll,reduceCtorEq,Nat.reduceEqDiff,Nat.reduceAdd,Nat.reduceLT,Nat.reduceLeDiff,Nat.beq]
 repeat' ((try simp only [bcase_bind,bcase_map,tail_bcase]);refine bcase_split (fun hb=>?_) (fun hb=>?_)<;>try simp only [hb,e1,memAll,vAll,reduceCtorEq,Nat.reduceEqDiff,Nat.reduceAdd,Nat.reduceLT,Nat.reduceLeDiff,Nat.beq])
 all_goals grind [sizesErr]
theorem cal116 {v:List Sec}:cal env 116 [eSecs v]=some [(eI v.length,false)]:=by
 unfold eSecs eI
 rw [cal_code env116 rfl];simp only [fn116];simp only [start,z_map_cons,z_map_nil,z_len_cons,z_len_nil,z_repl_zero,z_repl_succ,z_cons_app,z_nil_app,Nat.reduceAdd,Nat.reduceSub]
 simp only [ memAll,vAll,reduceCtorEq,Nat.reduceEqDiff,Nat.reduceAdd,Nat.reduceLT,Nat.reduceLeDiff,Nat.beq]
theorem cal92 {im:Img} (hl:im.length≤lim):cal env 92 [.list 1 (im.map eSecs)]=some [(.list 1 ((imSizes im).map eI),true)]:=by
 have e1:=cal115 (enc:=eSecs) (l:=im) (fun x _=>cal116 (v:=x)) (fun x=>rfl) (fun x=>rfl) hl
 rw [cal_code env92 rfl];simp only [fn92];simp only [start,z_map_cons,z_map_nil,z_len_cons,z_len_nil,z_repl_zero,z_repl_succ,z_cons_app,z_nil_app,Nat.reduceAdd,Nat.reduceSub]
 simp only [e1,memAll,vAll,reduceCtorEq,Nat.reduceEqDiff,Nat.reduceAdd,Nat.reduceLT,Nat.reduceLeDiff,Nat.beq]
 simp [imSizes]
theorem cal74 {im:Img} (hl:im.length≤lim):cal env 74 [.list 1 (im.map eSecs)]=some [(.int .i64 (imCheck im),false)]:=by
 have h2:(imSizes im).length≤lim:=by simpa [imSizes] using hl
 have e1:=cal92 hl
 have e2:=cal91 h2
 rw [cal_code env74 rfl];simp only [fn74];simp only [start,z_map_cons,z_map_nil,z_len_cons,z_len_nil,z_repl_zero,z_repl_succ,z_cons_app,z_nil_app,Nat.reduceAdd,Nat.reduceSub]
 simp only [e1,e2,memAll,vAll,reduceCtorEq,Nat.reduceEqDiff,Nat.reduceAdd,Nat.reduceLT,Nat.reduceLeDiff,Nat.beq]
 rfl
end Go.Proofs.Ytpdfhckdmblicaa.V

namespace Go.Proofs.Ytpdfhckdmblicaa.V
theorem loop112 {l:List Int} (hl:l.length≤lim) {st:St} (h:st.head [0,3] st.boxes.length=some ⟨[.pv (.list 1 (l.map eI)),.any,.any,.pv (.int .i64 (0:Nat)),.any,.any,.any,.any,.any,.any,.any,.any,.any,.any,.any,.any,.any,.any,.any,.any,.any,.any,.any,.any,.any,.any,.any,.any,.any,.any],[],[],none⟩) :
  den env fn112_l1 st=if l.any (fun n=>decide (n<1) || decide (n > 4096)) then some (.ret,⟨[.any,.any,.pv (.int .i64 2),.any,.any,.any,.any,.any,.any,.any,.any,.any,.any,.any,.any,.any,.any,.any,.any,.any,.any,.any,.any,.any,.any,.any,.any,.any,.any,.any],[],[],none⟩) else some (.normal,⟨[.any,.any,.any,.any,.any,.any,.any,.any,.any,.any,.any,.any,.any,.any,.any,.any,.any,.any,.any,.any,.any,.any,.any,.any,.any,.any,.any,.any,.any,.any],[],[],none⟩):=by
 unfold fn112_l1
 rw [ clean_up (env:=env) (l.length) (fun i=>⟨[.pv (.list 1 (l.map eI)),.any,.any,.pv (.int .i64 i),.any,.any,.any,.any,.any,.any,.any,.any,.any,.any,.any,.any,.any,.any,.any,.any,.any,.any,.any,.any,.any,.any,.any,.any,.any,.any],[],[],none⟩) (fun i=>if (l.drop i).any (fun n=>decide (n<1) || decide (n > 4096)) then some (.ret,⟨[.any,.any,.pv (.int .i64 2),.any,.any,.any,.any,.any,.any,.any,.any,.any,.any,.any,.any,.any,.any,.any,.any,.any,.any,.any,.any,.any,.any,.any,.any,.any,.any,.any],[],[],none⟩) else some (.normal,⟨[.any,.any,.any,.any,.any,.any,.any,.any,.any,.any,.any,.any,.any,.any,.any,.any,.any,.any,.any,.any,.any,.any,.any,.any,.any,.any,.any,.any,.any,.any],[],[],none⟩)) h (fun _=>rfl) (fun _=>rfl) ?_ ?_]
 ·first|rfl|simp only [List.drop_zero,List.take_zero,List.map_nil,Nat.zero_add,List.nil_append,List.foldl_nil]
 ·intro i rb hi ih
  have hi1:=i64_next hi hl;have F1:((i:Int)<(l.length:Int))=True:=eq_true (by omega)
  simp only [fn112_b0,eI,F1,index_nat hi,List.getElem?_map,List.getElem?_eq_getElem hi,memAll,vAll,reduceCtorEq,Nat.reduceEqDiff,Nat.reduceAdd,Nat.reduceLT,Nat.reduceLeDiff,Nat.beq]
  rw [List.drop_eq_getElem_cons hi]
  repeat' ((try simp only [bcase_bind,bcase_map,tail_bcase]);refine bcase_split (fun hb=>?_) (fun hb=>?_)<;>try simp only [hb,eI,index_nat hi,List.getElem?_map,List.getElem?_eq_getElem hi,memAll,vAll,reduceCtorEq,Nat.reduceEqDiff,Nat.reduceAdd,Nat.reduceLT,Nat.reduceLeDiff,Nat.beq])
  ·rfl
  ·rfl
  ·rw [ih _ (by simp only [hi1];rfl)]
 ·intro rb
  simp only [fn112_b0,Int.lt_irrefl,eI,memAll,vAll,reduceCtorEq,Nat.reduceEqDiff,Nat.reduceAdd,Nat.reduceLT,Nat.reduceLeDiff,Nat.beq]
  rw [List.drop_length]
  rfl
theorem cal112 {l:List Int} (hl:l.length≤lim):cal env 112 [.list 1 (l.map eI)]=some [(.int .i64 (sizesErr l),false)]:=by
 rw [cal_code env112 rfl];simp only [fn112];simp only [start,z_map_cons,z_map_nil,z_len_cons,z_len_nil,z_repl_zero,z_repl_succ,z_cons_app,z_nil_app,Nat.reduceAdd,Nat.reduceSub]
 simp only [eI,memAll,vAll,reduceCtorEq,Nat.reduceEqDiff,Nat.reduceAdd,Nat.reduceLT,Nat.reduceLeDiff,Nat.beq]
 repeat' ((try simp only [bcase_bind,bcase_map,tail_bcase]);refine bcase_split (fun hb=>?_) (fun hb=>?_)<;>try simp only [hb,eI,memAll,vAll,reduceCtorEq,Nat.reduceEqDiff,Nat.reduceAdd,Nat.reduceLT,Nat.reduceLeDiff,Nat.beq])
 ·grind [sizesErr]
 ·grind [sizesErr]
 ·rw [loop112 hl]
  rotate_left
  ·rfl
  ·by_cases h:l.any (fun n=>decide (n<1) || decide (n > 4096))=true
   ·simp only [h,vAll,reduceCtorEq,Nat.reduceEqDiff,Nat.reduceAdd,Nat.reduceLT,Nat.reduceLeDiff,Nat.beq]
    grind [sizesErr]
   ·simp only [h,vAll,reduceCtorEq,Nat.reduceEqDiff,Nat.reduceAdd,Nat.reduceLT,Nat.reduceLeDiff,Nat.beq]
    grind [sizesErr]
theorem loop113 {im:Img} (hl:im.length≤lim) {st:St} (h:st.head [0,3,4,18] st.boxes.length=some ⟨[.pv (.list 1 (im.map eSecs)),.any,.any,.row 1 ((im.take (0:Nat)).map fun v=>eI (v.length:Int)),.pv (.int .i64 (0:Nat)),.any,.any,.any,.any,.any,.any,.any,.any,.any,.any,.any,.any,.any,.any,.any],[],[],none⟩) :
  den env fn113_l1 st=some (.normal,⟨[.any,.any,.any,.row 1 (im.map fun v=>eI (v.length:Int)),.any,.any,.any,.any,.any,.any,.any,.any,.any,.any,.any,.any,.any,.any,.any,.any],[],[],none⟩):=by
 unfold fn113_l1
 refine clean_up (env:=env) (im.length) (fun i=>⟨[.pv (.list 1 (im.map eSecs)),.any,.any,.row 1 ((im.take i).map fun v=>eI (v.length:Int)),.pv (.int .i64 i),.any,.any,.any,.any,.any,.any,.any,.any,.any,.any,.any,.any,.any,.any,.any],[],[],none⟩) (fun i=>some (.normal,⟨[.any,.any,.any,.row 1 (im.map fun v=>eI (v.length:Int)),.any,.any,.any,.any,.any,.any,.any,.any,.any,.any,.any,.any,.any,.any,.any,.any],[],[],none⟩)) h (fun _=>rfl) (fun _=>rfl) ?_ ?_
 ·intro i rb hi ih
  have hi1:=i64_next hi hl
  have F1:((i:Int)<(im.length:Int))=True:=eq_true (by omega)
  have F2:((im.take i).length+1≤lim)=True:=eq_true (by rw [List.length_take];omega)
  simp only [fn113_b0,F1,F2,eSecs,index_nat hi,List.getElem?_map,List.getElem?_eq_getElem hi,memAll,vAll,reduceCtorEq,Nat.reduceEqDiff,Nat.reduceAdd,Nat.reduceLT,Nat.reduceLeDiff,Nat.beq]
  rw [ih _ (by simp only [hi1];rw [← take_map_succ _ hi];rfl)]
 ·intro rb
  simp only [fn113_b0,Int.lt_irrefl, memAll,vAll,reduceCtorEq,Nat.reduceEqDiff,Nat.reduceAdd,Nat.reduceLT,Nat.reduceLeDiff,Nat.beq]
  try rw [List.take_length]
  rfl
theorem cal113 {im:Img} (hl:im.length≤lim):cal env 113 [.list 1 (im.map eSecs)]=some [(.list 1 ((imSizes im).map eI),true)]:=by
 rw [cal_code env113 rfl];simp only [fn113];simp only [start,z_map_cons,z_map_nil,z_len_cons,z_len_nil,z_repl_zero,z_repl_succ,z_cons_app,z_nil_app,Nat.reduceAdd,Nat.reduceSub]
 simp only [ memAll,vAll,reduceCtorEq,Nat.reduceEqDiff,Nat.reduceAdd,Nat.reduceLT,Nat.reduceLeDiff,Nat.beq]
 rw [loop113 hl]
 rotate_left
 ·rfl
 ·simp only [ memAll,vAll,reduceCtorEq,Nat.reduceEqDiff,Nat.reduceAdd,Nat.reduceLT,Nat.reduceLeDiff,Nat.beq]
  simp [imSizes]
theorem cal90 {im:Img} (hl:im.length≤lim):cal env 90 [.list 1 (im.map eSecs)]=some [(.int .i64 (imCheck im),false)]:=by
 have h2:(imSizes im).length≤lim:=by simpa [imSizes] using hl
 have e1:=cal113 hl
 have e2:=cal112 h2
 rw [cal_code env90 rfl];simp only [fn90];simp only [start,z_map_cons,z_map_nil,z_len_cons,z_len_nil,z_repl_zero,z_repl_succ,z_cons_app,z_nil_app,Nat.reduceAdd,Nat.reduceSub]
 simp only [e1,e2,memAll,vAll,reduceCtorEq,Nat.reduceEqDiff,Nat.reduceAdd,Nat.reduceLT,Nat.reduceLeDiff,Nat.beq]
 rfl
def few7 (im:Img):Bool:=decide (im.length≤9)&&im.all fun v=>decide (v.length≤24)
theorem loop21 {im:Img} (hl:im.length≤lim) {st:St} (h:st.head [0,3] st.boxes.length=some ⟨[.pv (.list 1 (im.map eSecs)),.any,.any,.pv (.int .i64 (0:Nat)),.any,.any,.any,.any,.any,.any,.any,.any,.any,.any,.any,.any,.any,.any,.any],[],[],none⟩) :
  den env fn21_l1 st=if im.all (fun v=>decide (v.length≤24)) then some (.normal,⟨[.any,.any,.any,.any,.any,.any,.any,.any,.any,.any,.any,.any,.any,.any,.any,.any,.any,.any,.any],[],[],none⟩) else some (.ret,⟨[.any,.any,.pv (.bool false),.any,.any,.any,.any,.any,.any,.any,.any,.any,.any,.any,.any,.any,.any,.any,.any],[],[],none⟩):=by
 unfold fn21_l1
 rw [ clean_up (env:=env) (im.length) (fun i=>⟨[.pv (.list 1 (im.map eSecs)),.any,.any,.pv (.int .i64 i),.any,.any,.any,.any,.any,.any,.any,.any,.any,.any,.any,.any,.any,.any,.any],[],[],none⟩) (fun i=>if (im.drop i).all (fun v=>decide (v.length≤24)) then some (.normal,⟨[.any,.any,.any,.any,.any,.any,.any,.any,.any,.any,.any,.any,.any,.any,.any,.any,.any,.any,.any],[],[],none⟩) else some (.ret,⟨[.any,.any,.pv (.bool false),.any,.any,.any,.any,.any,.any,.any,.any,.any,.any,.any,.any,.any,.any,.any,.any],[],[],none⟩)) h (fun _=>rfl) (fun _=>rfl) ?_ ?_]
 ·first|rfl|simp only [List.drop_zero,List.take_zero,List.map_nil,Nat.zero_add,List.nil_append,List.foldl_nil]
 ·intro i rb hi ih
  have hi1:=i64_next hi hl
  have F1:((i:Int)<(im.length:Int))=True:=eq_true (by omega)
  simp only [fn21_b0,F1,eSecs,index_nat hi,List.getElem?_map,List.getElem?_eq_getElem hi,memAll,vAll,reduceCtorEq,Nat.reduceEqDiff,Nat.reduceAdd,Nat.reduceLT,Nat.reduceLeDiff,Nat.beq]
  rw [List.drop_eq_getElem_cons hi,List.all_cons]
  (try simp only [bcase_bind,bcase_map,tail_bcase]);refine bcase_split (fun hb=>?_) (fun hb=>?_)<;>try simp only [hb, memAll,vAll,reduceCtorEq,Nat.reduceEqDiff,Nat.reduceAdd,Nat.reduceLT,Nat.reduceLeDiff,Nat.beq]
  ·rw [decide_eq_false (by simp at hb;omega)];rfl
  ·rw [ih _ (by simp only [hi1];rfl),decide_eq_true (show im[i].length≤24 by simp at hb;omega),Bool.true_and]
 ·intro rb
  simp only [fn21_b0,Int.lt_irrefl, memAll,vAll,reduceCtorEq,Nat.reduceEqDiff,Nat.reduceAdd,Nat.reduceLT,Nat.reduceLeDiff,Nat.beq]
  rw [List.drop_length]
  rfl
theorem cal21 {im:Img}:cal env 21 [.list 1 (im.map eSecs)]=some [(.bool (few7 im),false)]:=by
 rw [cal_code env21 rfl];simp only [fn21];simp only [start,z_map_cons,z_map_nil,z_len_cons,z_len_nil,z_repl_zero,z_repl_succ,z_cons_app,z_nil_app,Nat.reduceAdd,Nat.reduceSub]
 simp only [ memAll,vAll,reduceCtorEq,Nat.reduceEqDiff,Nat.reduceAdd,Nat.reduceLT,Nat.reduceLeDiff,Nat.beq]
 (try simp only [bcase_bind,bcase_map,tail_bcase]);refine bcase_split (fun hb=>?_) (fun hb=>?_)<;>try simp only [hb, memAll,vAll,reduceCtorEq,Nat.reduceEqDiff,Nat.reduceAdd,Nat.reduceLT,Nat.reduceLeDiff,Nat.beq]
 ·simp at hb
  rw [few7,decide_eq_false (by omega)];rfl
 ·have hl:im.length≤9:=by simp at hb;omega
  rw [loop21 (im:=im) (by unfold lim;omega)]
  rotate_left
  ·rfl
  ·rw [few7,decide_eq_true hl,Bool.true_and]
   cases im.all (fun v=>decide (v.length≤24))<;>simp only [vAll,reduceCtorEq,Nat.reduceEqDiff,Nat.reduceAdd,Nat.reduceLT,Nat.reduceLeDiff,Nat.beq]
theorem loop66 {a b:List Sec} (hl:a.length≤lim) (hab:a.length=b.length) {st:St} (h:st.head [0,1,5] st.boxes.length=some ⟨[.pv (.list 8 (a.map eSec)),.pv (.list 8 (b.map eSec)),.any,.any,.any,.pv (.int .i64 (0:Nat)),.any,.any,.any,.any,.any,.any,.any,.any,.any,.any,.any,.any,.any,.any,.any,.any,.any,.any,.any,.any],[],[],none⟩) :
  den env fn66_l1 st=if a=b then some (.normal,⟨[.any,.any,.any,.any,.any,.any,.any,.any,.any,.any,.any,.any,.any,.any,.any,.any,.any,.any,.any,.any,.any,.any,.any,.any,.any,.any],[],[],none⟩) else some (.ret,⟨[.any,.any,.any,.any,.pv (.bool false),.any,.any,.any,.any,.any,.any,.any,.any,.any,.any,.any,.any,.any,.any,.any,.any,.any,.any,.any,.any,.any],[],[],none⟩):=by
 unfold fn66_l1
 rw [ clean_up (env:=env) (a.length) (fun i=>⟨[.pv (.list 8 (a.map eSec)),.pv (.list 8 (b.map eSec)),.any,.any,.any,.pv (.int .i64 i),.any,.any,.any,.any,.any,.any,.any,.any,.any,.any,.any,.any,.any,.any,.any,.any,.any,.any,.any,.any],[],[],none⟩) (fun i=>if a.drop i=b.drop i then some (.normal,⟨[.any,.any,.any,.any,.any,.any,.any,.any,.any,.any,.any,.any,.any,.any,.any,.any,.any,.any,.any,.any,.any,.any,.any,.any,.any,.any],[],[],none⟩) else some (.ret,⟨[.any,.any,.any,.any,.pv (.bool false),.any,.any,.any,.any,.any,.any,.any,.any,.any,.any,.any,.any,.any,.any,.any,.any,.any,.any,.any,.any,.any],[],[],none⟩)) h (fun _=>rfl) (fun _=>rfl) ?_ ?_]
 ·first|rfl|simp only [List.drop_zero,List.take_zero,List.map_nil,Nat.zero_add,List.nil_append,List.foldl_nil]
 ·intro i rb hi ih
  have hi1:=i64_next hi hl
  have hj:i<b.length:=by omega
  have F1:((i:Int)<(a.length:Int))=True:=eq_true (by omega)
  simp only [fn66_b0,F1,eSec,index_nat hi,index_nat hj,List.getElem?_map,List.getElem?_eq_getElem hi,List.getElem?_eq_getElem hj,part_sec,secPV_length,eqCells_sec,memAll,vAll,reduceCtorEq,Nat.reduceEqDiff,Nat.reduceAdd,Nat.reduceLT,Nat.reduceLeDiff,Nat.beq]
  rw [List.drop_eq_getElem_cons hi,List.drop_eq_getElem_cons hj]
  (try simp only [bcase_bind,bcase_map,tail_bcase]);refine bcase_split (fun hb=>?_) (fun hb=>?_)<;>try simp only [hb, memAll,vAll,reduceCtorEq,Nat.reduceEqDiff,Nat.reduceAdd,Nat.reduceLT,Nat.reduceLeDiff,Nat.beq]
  ·rw [ih _ (by simp only [hi1];rfl)]
   simp only [decide_eq_true_eq] at hb
   simp only [hb,List.cons.injEq,true_and]
  ·simp only [decide_eq_false_iff_not] at hb
   simp only [hb,List.cons.injEq,false_and,if_false]
   rfl
 ·intro rb
  simp only [fn66_b0,Int.lt_irrefl, memAll,vAll,reduceCtorEq,Nat.reduceEqDiff,Nat.reduceAdd,Nat.reduceLT,Nat.reduceLeDiff,Nat.beq]
  rw [List.drop_length,hab,List.drop_length,if_pos rfl]
  rfl
theorem cal66 {a b:List Sec} (hl:a.length≤lim):cal env 66 [.list 8 (a.map eSec),.list 8 (b.map eSec)]=some [(.bool (decide (a=b)),false)]:=by
 rw [cal_code env66 rfl];simp only [fn66];simp only [start,z_map_cons,z_map_nil,z_len_cons,z_len_nil,z_repl_zero,z_repl_succ,z_cons_app,z_nil_app,Nat.reduceAdd,Nat.reduceSub]
 simp only [ memAll,vAll,reduceCtorEq,Nat.reduceEqDiff,Nat.reduceAdd,Nat.reduceLT,Nat.reduceLeDiff,Nat.beq]
 (try simp only [bcase_bind,bcase_map,tail_bcase]);refine bcase_split (fun hb=>?_) (fun hb=>?_)<;>try simp only [hb, memAll,vAll,reduceCtorEq,Nat.reduceEqDiff,Nat.reduceAdd,Nat.reduceLT,Nat.reduceLeDiff,Nat.beq]
 ·have hab:a.length=b.length:=by simp at hb;omega
  rw [loop66 hl hab]
  rotate_left
  ·rfl
  ·by_cases e:a=b<;>simp only [e,vAll,reduceCtorEq,Nat.reduceEqDiff,Nat.reduceAdd,Nat.reduceLT,Nat.reduceLeDiff,Nat.beq]
 ·have:a≠b:=fun e=>by subst e;simp at hb
  simp only [this,vAll,reduceCtorEq,Nat.reduceEqDiff,Nat.reduceAdd,Nat.reduceLT,Nat.reduceLeDiff,Nat.beq]
theorem loop27 {a b:Img} (hl:a.length≤lim) (hr:∀ v∈a,v.length≤lim) (hab:a.length=b.length) {st:St} (h:st.head [0,1,5] st.boxes.length=some ⟨[.pv (.list 1 (a.map eSecs)),.pv (.list 1 (b.map eSecs)),.any,.any,.any,.pv (.int .i64 (0:Nat)),.any,.any,.any,.any,.any,.any,.any,.any,.any,.any,.any,.any,.any,.any,.any,.any,.any,.any,.any,.any,.any],[],[],none⟩) :
  den env fn27_l1 st=if a=b then some (.normal,⟨[.any,.any,.any,.any,.any,.any,.any,.any,.any,.any,.any,.any,.any,.any,.any,.any,.any,.any,.any,.any,.any,.any,.any,.any,.any,.any,.any],[],[],none⟩) else some (.ret,⟨[.any,.any,.any,.any,.pv (.bool false),.any,.any,.any,.any,.any,.any,.any,.any,.any,.any,.any,.any,.any,.any,.any,.any,.any,.any,.any,.any,.any,.any],[],[],none⟩):=by
 unfold fn27_l1
 rw [ clean_up (env:=env) (a.length) (fun i=>⟨[.pv (.list 1 (a.map eSecs)),.pv (.list 1 (b.map eSecs)),.any,.any,.any,.pv (.int .i64 i),.any,.any,.any,.any,.any,.any,.any,.any,.any,.any,.any,.any,.any,.any,.any,.any,.any,.any,.any,.any,.any],[],[],none⟩) (fun i=>if a.drop i=b.drop i then some (.normal,⟨[.any,.any,.any,.any,.any,.any,.any,.any,.any,.any,.any,.any,.any,.any,.any,.any,.any,.any,.any,.any,.any,.any,.any,.any,.any,.any,.any],[],[],none⟩) else some (.ret,⟨[.any,.any,.any,.any,.pv (.bool false),.any,.any,.any,.any,.any,.any,.any,.any,.any,.any,.any,.any,.any,.any,.any,.any,.any,.any,.any,.any,.any,.any],[],[],none⟩)) h (fun _=>rfl) (fun _=>rfl) ?_ ?_]
 ·first|rfl|simp only [List.drop_zero,List.take_zero,List.map_nil,Nat.zero_add,List.nil_append,List.foldl_nil]
 ·intro i rb hi ih
  have hi1:=i64_next hi hl
  have hj:i<b.length:=by omega
  have F1:((i:Int)<(a.length:Int))=True:=eq_true (by omega)
  have e1:=cal66 (b:=b[i]) (hr _ (List.getElem_mem hi))
  simp only [fn27_b0,F1,e1,eSecs,index_nat hi,index_nat hj,List.getElem?_map,List.getElem?_eq_getElem hi,List.getElem?_eq_getElem hj,memAll,vAll,reduceCtorEq,Nat.reduceEqDiff,Nat.reduceAdd,Nat.reduceLT,Nat.reduceLeDiff,Nat.beq]
  rw [List.drop_eq_getElem_cons hi,List.drop_eq_getElem_cons hj]
  (try simp only [bcase_bind,bcase_map,tail_bcase]);refine bcase_split (fun hb=>?_) (fun hb=>?_)<;>try simp only [hb, memAll,vAll,reduceCtorEq,Nat.reduceEqDiff,Nat.reduceAdd,Nat.reduceLT,Nat.reduceLeDiff,Nat.beq]
  ·rw [ih _ (by simp only [hi1];rfl)]
   simp only [decide_eq_true_eq] at hb
   simp only [hb,List.cons.injEq,true_and]
  ·simp only [decide_eq_false_iff_not] at hb
   simp only [hb,List.cons.injEq,false_and,if_false]
   rfl
 ·intro rb
  simp only [fn27_b0,Int.lt_irrefl, memAll,vAll,reduceCtorEq,Nat.reduceEqDiff,Nat.reduceAdd,Nat.reduceLT,Nat.reduceLeDiff,Nat.beq]
  rw [List.drop_length,hab,List.drop_length,if_pos rfl]
  rfl
theorem cal27 {a b:Img} (hl:a.length≤lim) (hr:∀ v∈a,v.length≤lim):cal env 27 [.list 1 (a.map eSecs),.list 1 (b.map eSecs)]=some [(.bool (decide (a=b)),false)]:=by
 rw [cal_code env27 rfl];simp only [fn27];simp only [start,z_map_cons,z_map_nil,z_len_cons,z_len_nil,z_repl_zero,z_repl_succ,z_cons_app,z_nil_app,Nat.reduceAdd,Nat.reduceSub]
 simp only [ memAll,vAll,reduceCtorEq,Nat.reduceEqDiff,Nat.reduceAdd,Nat.reduceLT,Nat.reduceLeDiff,Nat.beq]
 (try simp only [bcase_bind,bcase_map,tail_bcase]);refine bcase_split (fun hb=>?_) (fun hb=>?_)<;>try simp only [hb, memAll,vAll,reduceCtorEq,Nat.reduceEqDiff,Nat.reduceAdd,Nat.reduceLT,Nat.reduceLeDiff,Nat.beq]
 ·have hab:a.length=b.length:=by simp at hb;omega
  rw [loop27 hl hr hab]
  rotate_left
  ·rfl
  ·by_cases e:a=b<;>simp only [e,vAll,reduceCtorEq,Nat.reduceEqDiff,Nat.reduceAdd,Nat.reduceLT,Nat.reduceLeDiff,Nat.beq]
 ·have:a≠b:=fun e=>by subst e;simp at hb
  simp only [this,vAll,reduceCtorEq,Nat.reduceEqDiff,Nat.reduceAdd,Nat.reduceLT,Nat.reduceLeDiff,Nat.beq]
end Go.Proofs.Ytpdfhckdmblicaa.V

namespace Go.Proofs.Ytpdfhckdmblicaa
noncomputable def iter (env:Env) (f:Nat) (caps:List PV) (stop:Option Nat):Option (List (List PV)):=iterRes (den env) env f caps stop
def ystart (n:Nat) (caps:List PV) (stop:Option Nat):St:=⟨.yld :: (caps.map .pv++List.replicate (n - (caps.length+1)) .any),[],[],some stop⟩
def yfin:Ex × St→Option (List (List PV))
 |(.exit _,_)=>none
 |(.thr _ _,_)=>none
 |(_,st)=>some st.ys
section
variable {env:Env}
theorem yfin_normal (st:St):yfin (.normal,st)=some st.ys:=(rfl)
theorem yfin_ret (st:St):yfin (.ret,st)=some st.ys:=(rfl)
theorem iter_code {f:Nat} {fn:VFn} {caps:List PV} {stop:Option Nat} (h:env f=some (.code fn)) (hl:caps.length+1=fn.nargs) (hr:fn.results.isEmpty=true):iter env f caps stop=(den env fn.body (ystart fn.ntmps caps stop)).bind yfin:=by
 unfold iter iterRes
 rw [h]
 simp only [if_pos (And.intro hl hr)]
 show (den env fn.body _).bind _=_
 congr 1
 funext ⟨e,st⟩
 cases e<;>rfl
noncomputable def round1 (env:Env) (slots:List AV) (ps:List Nat) (assign body:VCode) (nb:Nat) (x:List PV) (st:St):Option (Ex × St) :=
 (setParams slots ps x).bind fun sl=>(den env assign { st with slots:=sl }).bind fun p=>match p with
  |(.normal,st)=>(den env body st).bind fun p=>match p with
   |(.normal,st)=>if nb≤st.boxes.length then some (.normal,{ st with boxes:=st.boxes.take nb }) else none
   |(.thr _ _,_)=>none
   |p=>some p
  |_=>none
theorem rounds_cons {slots:List AV} {ps:List Nat} {assign body:VCode} {nb k:Nat} {x:List PV} {xs:List (List PV)} {st:St} :
  rounds (den env) slots ps assign body nb k (x :: xs) st=(round1 env slots ps assign body nb x st).bind fun p=>match p with
   |(.normal,st)=>rounds (den env) slots ps assign body nb (k+1) xs st
   |(e,st)=>some (some (e,k+1),st):=by
 conv=>lhs;unfold rounds
 unfold round1
 show (setParams slots ps x).bind _=_
 cases setParams slots ps x with
 |none=>rfl
 |some sl =>
  simp only [Option.bind_some]
  show (den env assign _).bind _=_
  cases den env assign { st with slots:=sl } with
  |none=>rfl
  |some p =>
   obtain ⟨e,s⟩:=p
   simp only [Option.bind_some]
   cases e with
   |normal =>
    simp only
    show (den env body _).bind _=_
    cases den env body s with
    |none=>rfl
    |some p =>
     obtain ⟨e,s⟩:=p
     simp only [Option.bind_some]
     cases e with
     |normal =>
      simp only
      split<;>rfl
     |exit i=>rfl
     |ret=>rfl
     |thr t n=>rfl
   |exit i=>rfl
   |ret=>rfl
   |thr t n=>rfl
theorem rng_all {g:Opd} {ps:List Nat} {assign body:VCode} {st st1:St} {f:Nat} {caps:List PV} {xs:List (List PV)} (hg:st.pvOf g=some (.func f caps)) (hi:iter env f caps none=some xs)
  (hr:rounds (den env) (st.slots.map AV.froze) ps assign body st.boxes.length 0 xs { st with slots:=st.slots.map AV.froze }=some (none,st1)):den env (.rng g ps assign body) st=some (.normal,{ st1 with slots:=st.slots.map AV.froze }):=by
 rw [den_eq]
 show ranged (den env) env g ps assign body st=_
 unfold ranged
 rw [hg]
 unfold iter at hi
 simp only [z_bind_eq,Option.bind_some,hi,hr]
theorem rng_idx (B:Nat→List Box) {g:Opd} {ps:List Nat} {assign body:VCode} {st:St} {f:Nat} {caps:List PV} {xs:List (List PV)} (hg:st.pvOf g=some (.func f caps)) (hi:iter env f caps none=some xs) (hB:st.boxes=B 0)
  (h:∀ j x,xs[j]?=some x→∀ sl0,∃ sl1,round1 env (st.slots.map AV.froze) ps assign body st.boxes.length x ⟨sl0,B j,st.ys,st.stop⟩=some (.normal,⟨sl1,B (j+1),st.ys,st.stop⟩)) :
  den env (.rng g ps assign body) st=some (.normal,⟨st.slots.map AV.froze,B xs.length,st.ys,st.stop⟩):=by
 have key:∀ (l:List (List PV)) (j:Nat),xs.drop j=l→∀ (k:Nat) (sl0:List AV),∃ sl1,rounds (den env) (st.slots.map AV.froze) ps assign body st.boxes.length k l ⟨sl0,B j,st.ys,st.stop⟩=some (none,⟨sl1,B (j+l.length),st.ys,st.stop⟩):=by
  intro l
  induction l with
  |nil=>intro j _ k sl0;exact ⟨sl0,rfl⟩
  |cons x l ih =>
   intro j hj k sl0
   have hx:xs[j]?=some x:=by rw [← List.head?_drop,hj];rfl
   have hd:xs.drop (j+1)=l:=by rw [← List.drop_drop,hj];rfl
   obtain ⟨sl1,q⟩:=h j x hx sl0
   obtain ⟨sl2,q2⟩:=ih (j+1) hd (k+1) sl1
   refine ⟨sl2,?_⟩
   rw [rounds_cons,q]
   simp only [Option.bind_some,q2,List.length_cons]
   rw [show j+1+l.length=j+(l.length+1) by omega]
 obtain ⟨sl1,q⟩:=key xs 0 (by simp) 0 (st.slots.map AV.froze)
 rw [← hB,Nat.zero_add] at q
 have r:=rng_all hg hi q
 exact r
noncomputable def rassign (env:Env) (body:VCode) (nb:Nat):Ex × St→Option (Ex × St)
 |(.normal,st)=>(den env body st).bind fun p=>match p with
  |(.normal,st)=>if nb≤st.boxes.length then some (.normal,{ st with boxes:=st.boxes.take nb }) else none
  |(.thr _ _,_)=>none
  |p=>some p
 |_=>none
def rend (nb:Nat):Ex × St→Option (Ex × St)
 |(.normal,st)=>if nb≤st.boxes.length then some (.normal,{ st with boxes:=st.boxes.take nb }) else none
 |(.thr _ _,_)=>none
 |p=>some p
theorem round1_eq (slots:List AV) (ps:List Nat) (assign body:VCode) (nb:Nat) (x:List PV) (st:St):round1 env slots ps assign body nb x st=(setParams slots ps x).bind fun sl=>(den env assign { st with slots:=sl }).bind (rassign env body nb):=by
 unfold round1
 rfl
theorem rassign_normal (body:VCode) (nb:Nat) (st:St):rassign env body nb (.normal,st)=(den env body st).bind (rend nb):=by
 rfl
theorem rend_normal (nb:Nat) (st:St):rend nb (.normal,st)=if nb≤st.boxes.length then some (.normal,{ st with boxes:=st.boxes.take nb }) else none:=(rfl)
theorem rend_exit (nb i:Nat) (st:St):rend nb (.exit i,st)=some (.exit i,st):=(rfl)
theorem rend_ret (nb:Nat) (st:St):rend nb (.ret,st)=some (.ret,st):=(rfl)
theorem setP_nil (slots:List AV):setParams slots [] []=some slots:=(rfl)
theorem setP_cons (slots:List AV) (p:Nat) (ps:List Nat) (v:PV) (vs:List PV):setParams slots (p :: ps) (v :: vs)=setParams (slots.set p (.pv v)) ps vs:=(rfl)
theorem froze_pv (v:PV):AV.froze (.pv v)=.pv v:=(rfl)
theorem froze_row (sz:Nat) (es:List PV):AV.froze (.row sz es)=.pv (.list sz es):=(rfl)
theorem froze_any:AV.froze .any=.any:=(rfl)
theorem froze_tup (k:Bool) (l:List AV):AV.froze (.tup k l)=.any:=(rfl)
theorem froze_ref (r:Root) (i j:Nat):AV.froze (.ref r i j)=.any:=(rfl)
theorem froze_pel (r:Root) (i j:Nat):AV.froze (.pel r i j)=.any:=(rfl)
theorem froze_pbox (i j:Nat):AV.froze (.pbox i j)=.pbox i j:=(rfl)
theorem froze_fn (f:Nat) (l:List AV):AV.froze (.fn f l)=.fn f l:=(rfl)
theorem froze_yld:AV.froze .yld=.yld:=(rfl)
end
def vRng:=And.intro @round1_eq (And.intro @rassign_normal (And.intro @rend_normal (And.intro @rend_exit (And.intro @rend_ret (And.intro @setP_nil (And.intro @setP_cons (And.intro @froze_pv (And.intro @froze_row (And.intro @froze_any (And.intro @froze_tup (And.intro @froze_ref (And.intro @froze_pel (And.intro @froze_pbox (And.intro @froze_fn (And.intro @froze_yld (And.intro @yfin_normal @yfin_ret))))))))))))))))
end Go.Proofs.Ytpdfhckdmblicaa

namespace Go.Proofs.Ytpdfhckdmblicaa.V
def dif (a b:List Sec) (i:Nat):Bool:=decide (a[i]?≠b[i]?)
def difN (a b:List Sec) (n:Nat):List Nat:=(List.range n).filter (dif a b)
def difs (a b:List Sec):List Nat:=difN a b a.length
def addAt (out:List Exn) (i:Nat):List Exn:=match out.getLast? with
 |some x=>if x.start+x.count=(i:Int) then out.dropLast++[⟨x.start,x.count+1⟩] else out++[⟨i,1⟩]
 |none=>[⟨i,1⟩]
def exts (l:List Nat):List Exn:=l.foldl addAt []
def volDiff (a b:List Sec):List Exn:=exts (difs a b)
theorem difN_succ (a b:List Sec) (n:Nat):difN a b (n+1)=if dif a b n then difN a b n++[n] else difN a b n:=by
 simp only [difN,List.range_succ,List.filter_append,List.filter_cons,List.filter_nil]
 cases dif a b n<;>simp
theorem addAt_snoc (pre:List Exn) (x:Exn) (i:Nat):addAt (pre++[x]) i=if x.start+x.count=(i:Int) then pre++[⟨x.start,x.count+1⟩] else pre++[x]++[⟨i,1⟩]:=by
 simp [addAt]
theorem exts_snoc (l:List Nat) (i:Nat):exts (l++[i])=addAt (exts l) i:=by simp [exts]
theorem snoc_cases {α:Type} (l:List α):l=[]∨∃ p x,l=p++[x]:=by
 rcases List.eq_nil_or_concat l with h|⟨p,x,h⟩
 ·exact .inl h
 ·exact .inr ⟨p,x,by rw [h];simp⟩
theorem exts_last:∀ (n:Nat) (l:List Nat),l.length=n→∀ i:Nat,∃ pre x,exts (l++[i])=pre++[x]∧x.start+x.count=(i:Int)+1∧0≤x.start∧1≤x.count∧pre.length≤l.length:=by
 intro n
 induction n with
 |zero =>
  intro l hl i
  have:=List.eq_nil_of_length_eq_zero hl
  subst this
  exact ⟨[],⟨i,1⟩,rfl,rfl,by simp,by simp,by simp⟩
 |succ n ih =>
  intro l hl i
  rcases snoc_cases l with rfl|⟨p,j,rfl⟩
  ·simp at hl
  ·obtain ⟨pre,x,e,h1,h2,h3,h4⟩:=ih p (by simpa using hl) j
   rw [exts_snoc,e,addAt_snoc]
   split
   ·rename_i hx
    exact ⟨pre,_,rfl,by simp;omega,h2,by simp;omega,by simp;omega⟩
   ·exact ⟨pre++[x],_,rfl,by simp,by simp,by simp,by simp;omega⟩
theorem difN_lt {a b:List Sec} {n i:Nat} (h:i∈difN a b n):i<n:=by
 simp [difN] at h;exact h.1
theorem difN_len (a b:List Sec) (n:Nat):(difN a b n).length≤n:=by
 have:=List.length_filter_le (dif a b) (List.range n);simpa [difN] using this
theorem wrap_pred {n:Nat} (h:n≤lim):IntKind.i64.wrap (((n+1:Nat):Int) - 1)=(n:Int):=by
 rw [i64_fits (by unfold lim at h;omega)];omega
theorem cal111 {a b:List Sec}:cal env 111 [.list 8 (a.map eSec),.list 8 (b.map eSec)]=some [(.func 117 [.iptr [.list 8 (a.map eSec)] 0,.iptr [.list 8 (b.map eSec)] 0],false)]:=by
 rw [cal_code env111 rfl];simp only [fn111];simp only [start,z_map_cons,z_map_nil,z_len_cons,z_len_nil,z_repl_zero,z_repl_succ,z_cons_app,z_nil_app,Nat.reduceAdd,Nat.reduceSub]
 simp only [ memAll,vAll,reduceCtorEq,Nat.reduceEqDiff,Nat.reduceAdd,Nat.reduceLT,Nat.reduceLeDiff,Nat.beq]
def yI (l:List Nat):List (List PV):=l.map fun (i:Nat)=>[PV.int .i64 (i:Int)]
theorem yI_snoc (l:List Nat) (i:Nat):yI (l++[i])=yI l++[[.int .i64 (i:Int)]]:=by simp [yI]
theorem iter117 {a b:List Sec} (hl:a.length≤lim) (hab:a.length=b.length):iter env 117 [.iptr [.list 8 (a.map eSec)] 0,.iptr [.list 8 (b.map eSec)] 0] none=some (yI (difs a b)):=by
 have loop:∀ {st:St} (h:st.head [0,1,2,6,7] st.boxes.length=some ⟨[.yld,.pv (.iptr [.list 8 (a.map eSec)] 0),.pv (.iptr [.list 8 (b.map eSec)] 0),.any,.any,.any,.pv (.int .i64 a.length),.pv (.int .i64 (0:Nat)),.any,.any,.any,.any,.any,.any,.any,.any,.any,.any,.any,.any,.any,.any,.any,.any,.any,.any],[],yI (difN a b 0),some none⟩),
   den env fn117_l1 st=some (.normal,⟨[.any,.any,.any,.any,.any,.any,.any,.any,.any,.any,.any,.any,.any,.any,.any,.any,.any,.any,.any,.any,.any,.any,.any,.any,.any,.any],[],yI (difN a b a.length),some none⟩):=by
  intro st h
  unfold fn117_l1
  refine clean_up (env:=env) a.length (fun i=>⟨[.yld,.pv (.iptr [.list 8 (a.map eSec)] 0),.pv (.iptr [.list 8 (b.map eSec)] 0),.any,.any,.any,.pv (.int .i64 a.length),.pv (.int .i64 i),.any,.any,.any,.any,.any,.any,.any,.any,.any,.any,.any,.any,.any,.any,.any,.any,.any,.any],[],yI (difN a b i),some none⟩) (fun _=>some (.normal,⟨[.any,.any,.any,.any,.any,.any,.any,.any,.any,.any,.any,.any,.any,.any,.any,.any,.any,.any,.any,.any,.any,.any,.any,.any,.any,.any],[],yI (difN a b a.length),some none⟩)) h (fun _=>rfl) (fun _=>rfl) ?_ ?_
  ·intro i rb hi ih
   have hi1:=i64_next hi hl
   have hj:i<b.length:=by omega
   have F1:((i:Int)<(a.length:Int))=True:=eq_true (by omega)
   by_cases hd:a[i]=b[i]
   ·simp only [fn117_b0,F1,eSec,index_nat hi,index_nat hj,List.getElem?_map,List.getElem?_eq_getElem hi,List.getElem?_eq_getElem hj,part_sec,secPV_length,eqCells_sec,hd,decide_true,memAll,vAll,reduceCtorEq,Nat.reduceEqDiff,Nat.reduceAdd,Nat.reduceLT,Nat.reduceLeDiff,Nat.beq]
    rw [ih _ (by simp only [hi1];rw [difN_succ,if_neg (by simp [dif,List.getElem?_eq_getElem hi,List.getElem?_eq_getElem hj,hd])];rfl)]
   ·have hdd:dif a b i=true:=by simp [dif,List.getElem?_eq_getElem hi,List.getElem?_eq_getElem hj,hd]
    have hdf:=decide_eq_false hd
    simp only [fn117_b0,F1,eSec,index_nat hi,index_nat hj,List.getElem?_map,List.getElem?_eq_getElem hi,List.getElem?_eq_getElem hj,part_sec,secPV_length,eqCells_sec,hdf,memAll,vAll,reduceCtorEq,Nat.reduceEqDiff,Nat.reduceAdd,Nat.reduceLT,Nat.reduceLeDiff,Nat.beq]
    rw [ih _ (by simp only [hi1];rw [difN_succ,if_pos hdd,yI_snoc];rfl)]
  ·intro rb
   simp only [fn117_b0,Int.lt_irrefl,memAll,vAll,reduceCtorEq,Nat.reduceEqDiff,Nat.reduceAdd,Nat.reduceLT,Nat.reduceLeDiff,Nat.beq]
   rfl
 rw [iter_code env117 rfl rfl]
 simp only [fn117,ystart,z_map_cons,z_map_nil,z_len_cons,z_len_nil,z_repl_zero,z_repl_succ,z_cons_app,z_nil_app,Nat.reduceAdd,Nat.reduceSub]
 simp only [ memAll,vAll,reduceCtorEq,Nat.reduceEqDiff,Nat.reduceAdd,Nat.reduceLT,Nat.reduceLeDiff,Nat.beq]
 rw [loop]
 rotate_left
 ·rfl
 ·rfl
def endNs (l:List Nat):Int:=match l.getLast? with
 |some i=>i+1
 |none=>-1
theorem endNs_snoc (l:List Nat) (i:Nat):endNs (l++[i])=(i:Int)+1:=by simp [endNs]
theorem sorted_take {a b:List Sec} {j:Nat} {i:Nat} (h:(difs a b)[j]?=some i):i<a.length∧j≤i∧∀ k∈(difs a b).take j,k<i:=by
 have hs:(difs a b).Pairwise (·<·):=(List.pairwise_lt_range (n:=a.length)).filter _
 obtain ⟨hj,rfl⟩:=List.getElem?_eq_some_iff.1 h
 refine ⟨difN_lt (List.getElem_mem hj),?_,?_⟩
 ·have:∀ (l:List Nat),l.Pairwise (·<·)→∀ (j:Nat) (hj:j<l.length),j≤l[j]:=by
   intro l
   induction l with
   |nil=>intro _ j hj;simp at hj
   |cons x l ih =>
    intro hp j hj
    cases j with
    |zero=>simp
    |succ j =>
     have h1:=ih (List.pairwise_cons.1 hp).2
     simp only [List.length_cons,Nat.add_lt_add_iff_right] at hj
     simp only [List.getElem_cons_succ]
     cases j with
     |zero=>have:=(List.pairwise_cons.1 hp).1 l[0] (List.getElem_mem hj);omega
     |succ j =>
      have h2:=h1 (j+1) hj
      have h3:∀ (m:Nat) (hm:m<l.length),x+m+1≤l[m]:=by
       intro m
       induction m with
       |zero=>intro hm;have:=(List.pairwise_cons.1 hp).1 l[0] (List.getElem_mem hm);omega
       |succ m ihm =>
        intro hm
        have:=ihm (by omega)
        have h4:=List.pairwise_iff_getElem.1 (List.pairwise_cons.1 hp).2 m (m+1) (by omega) hm (by omega)
        omega
      have:=h3 (j+1) hj
      omega
  exact this _ hs j hj
 ·intro k hk
  obtain ⟨m,hm,rfl⟩:=List.mem_iff_getElem.1 hk
  rw [List.getElem_take]
  simp only [List.length_take] at hm
  exact List.pairwise_iff_getElem.1 hs m j (by omega) hj (by omega)
theorem cal89 {a b:List Sec} (hl:a.length≤lim) (hab:a.length=b.length):cal env 89 [.list 8 (a.map eSec),.list 8 (b.map eSec)]=some [(.list 2 ((volDiff a b).map eExt),true)]:=by
 have e1:=cal111 (a:=a) (b:=b)
 rw [cal_code env89 rfl];simp only [fn89];simp only [start,z_map_cons,z_map_nil,z_len_cons,z_len_nil,z_repl_zero,z_repl_succ,z_cons_app,z_nil_app,Nat.reduceAdd,Nat.reduceSub]
 simp only [e1,memAll,vAll,reduceCtorEq,Nat.reduceEqDiff,Nat.reduceAdd,Nat.reduceLT,Nat.reduceLeDiff,Nat.beq]
 rw [rng_idx (env:=env) (fun j=>[⟨false,[.row 2 ((exts ((difs a b).take j)).map eExt)]⟩,⟨false,[.pv (.int .i64 (endNs ((difs a b).take j)))]⟩]) (xs:=yI (difs a b)) rfl (iter117 hl hab) rfl ?_]
 ·simp only [yI,List.length_map,List.take_length,vRng,memAll,vAll,reduceCtorEq,Nat.reduceEqDiff,Nat.reduceAdd,Nat.reduceLT,Nat.reduceLeDiff,Nat.beq]
  rfl
 ·intro j x hx sl0
  simp only [yI,List.getElem?_map,Option.map_eq_some_iff] at hx
  obtain ⟨i,hi,rfl⟩:=hx
  obtain ⟨k1,k2,k3⟩:=sorted_take hi
  have hlim:lim=1073741824:=rfl
  have hj:=(List.getElem?_eq_some_iff.1 hi).1
  have ht:(difs a b).take (j+1)=(difs a b).take j++[i]:=by rw [List.take_add_one,hi];rfl
  have hlen:((difs a b).take j).length=j:=by simp;omega
  rw [ht]
  rcases snoc_cases ((difs a b).take j) with h0|⟨p,q,h0⟩
  ·have F2:((i:Int)==-1)=false:=by simp
   have F3:(0+1≤lim)=True:=eq_true (by omega)
   have F4:IntKind.i64.wrap ((i:Int)+1)=(i:Int)+1:=i64_fits (by omega)
   have e0:exts ([]:List Nat)=[]:=rfl
   have e1:endNs ([]:List Nat)=-1:=rfl
   have e2:exts [i]=[⟨i,1⟩]:=rfl
   have e3:endNs [i]=(i:Int)+1:=rfl
   refine ⟨?_,?_⟩
   rotate_left
   ·simp only [h0,fn89_b0,fn89_b1,F2,F3,F4,e0,e1,e2,e3,eExt,List.map_nil,vRng,memAll,vAll,reduceCtorEq,Nat.reduceEqDiff,Nat.reduceAdd,Nat.reduceLT,Nat.reduceLeDiff,Nat.beq]
    rfl
  ·obtain ⟨pre,⟨s,c⟩,e0,h1,h2,h3,h4⟩:=exts_last _ p rfl q
   have hqi:q<i:=k3 q (by rw [h0];simp)
   simp only at h1 h2 h3
   have hpl:p.length+1=j:=by rw [h0] at hlen;simpa using hlen
   have F3:=wrap_pred (n:=pre.length) (by omega)
   have F4:IntKind.i64.wrap ((i:Int)+1)=(i:Int)+1:=i64_fits (by omega)
   have F5:IntKind.i64.wrap (c+1)=c+1:=i64_fits (by omega)
   have F6:(pre.length+1+1≤lim)=True:=eq_true (by omega)
   have F7:index (.int .i64 (pre.length:Int)) (pre.length+1)=some pre.length:=index_nat (by omega)
   by_cases hc:(i:Int)=(q:Int)+1
   ·have F8:((i:Int)==(q:Int)+1)=true:=by simpa using hc
    have e2:exts (p++[q]++[i])=pre++[⟨s,c+1⟩]:=by rw [exts_snoc,e0,addAt_snoc,if_pos (by simp only;omega)]
    refine ⟨?_,?_⟩
    rotate_left
    ·simp only [h0,fn89_b0,fn89_b1,endNs_snoc,e0,e2,F3,F4,F5,F6,F7,F8,eExt,List.map_append,List.map_cons,List.map_nil,vRng,memAll,vAll,reduceCtorEq,Nat.reduceEqDiff,Nat.reduceAdd,Nat.reduceLT,Nat.reduceLeDiff,Nat.beq]
     rfl
   ·have F8:((i:Int)==(q:Int)+1)=false:=by simpa using hc
    have e2:exts (p++[q]++[i])=pre++[⟨s,c⟩]++[⟨i,1⟩]:=by rw [exts_snoc,e0,addAt_snoc,if_neg (by simp only;omega)]
    refine ⟨?_,?_⟩
    rotate_left
    ·simp only [h0,fn89_b0,fn89_b1,endNs_snoc,e0,e2,F3,F4,F5,F6,F7,F8,eExt,List.map_append,List.map_cons,List.map_nil,vRng,memAll,vAll,reduceCtorEq,Nat.reduceEqDiff,Nat.reduceAdd,Nat.reduceLT,Nat.reduceLeDiff,Nat.beq]
     rfl
end Go.Proofs.Ytpdfhckdmblicaa.V

namespace Go.Proofs.Ytpdfhckdmblicaa.V
def eImg (im:Img):PV:=.list 1 (im.map eSecs)
def pairErr (a b:Img):Int:=if imCheck a≠0 then imCheck a else if imCheck b≠0 then imCheck b else if imSizes a=imSizes b then 0 else 22
def differ (a b:Img):List (List Exn):=(a.zip b).map fun q=>volDiff q.1 q.2
def differOut (a b:Img):List (List Exn):=if pairErr a b=0 then differ a b else []
theorem sizes_inj {a b:Img} (h:imSizes a=imSizes b):a.length=b.length∧∀ i (h1:i<a.length) (h2:i<b.length),a[i].length=b[i].length:=by
 have hl:a.length=b.length:=by simpa [imSizes] using congrArg List.length h
 refine ⟨hl,fun i h1 h2=>?_⟩
 have:=congrArg (fun l=>l[i]?) h
 simp only [imSizes,List.getElem?_map,List.getElem?_eq_getElem h1,List.getElem?_eq_getElem h2,Option.map_some,Option.some.injEq] at this
 omega
theorem sizes_of {a b:Img} (hl:a.length=b.length) (h:∀ i (h1:i<a.length) (h2:i<b.length),a[i].length=b[i].length):imSizes a=imSizes b:=by
 apply List.ext_getElem
 ·simpa [imSizes] using hl
 ·intro i h1 h2
  simp only [imSizes,List.length_map] at h1 h2
  simp only [imSizes,List.getElem_map,h i h1 h2]
theorem loop88 {A B:PV} {l:List Img} (hl:l.length≤lim) (hi0:∀ im∈l,im.length≤lim) {st:St} (h:st.head [0,1,10,11,12] st.boxes.length=some ⟨[.pv A,.pv B,.any,.any,.any,.any,.any,.any,.any,.any,.row 1 (l.map eImg),.pv (.int .i64 l.length),.pv (.int .i64 (0:Nat)),.any,.any,.any,.any,.any,.any,.any,.any,.any,.any,.any,.any,.any,.any,.any],[],[],none⟩) :
  den env fn88_l1 st=match l.find? (fun im=>decide (imCheck im≠0)) with|some im=>some (.ret,⟨[.pv A,.pv B,.any,.any,.pv (.int .i64 (imCheck im)),.any,.any,.any,.any,.any,.any,.any,.any,.any,.any,.any,.any,.any,.any,.any,.any,.any,.any,.any,.any,.any,.any,.any],[],[],none⟩)|none=>some (.normal,⟨[.pv A,.pv B,.any,.any,.any,.any,.any,.any,.any,.any,.any,.any,.any,.any,.any,.any,.any,.any,.any,.any,.any,.any,.any,.any,.any,.any,.any,.any],[],[],none⟩):=by
 unfold fn88_l1
 rw [ clean_up (env:=env) (l.length) (fun i=>⟨[.pv A,.pv B,.any,.any,.any,.any,.any,.any,.any,.any,.row 1 (l.map eImg),.pv (.int .i64 l.length),.pv (.int .i64 i),.any,.any,.any,.any,.any,.any,.any,.any,.any,.any,.any,.any,.any,.any,.any],[],[],none⟩) (fun i=>match (l.drop i).find? (fun im=>decide (imCheck im≠0)) with|some im=>some (.ret,⟨[.pv A,.pv B,.any,.any,.pv (.int .i64 (imCheck im)),.any,.any,.any,.any,.any,.any,.any,.any,.any,.any,.any,.any,.any,.any,.any,.any,.any,.any,.any,.any,.any,.any,.any],[],[],none⟩)|none=>some (.normal,⟨[.pv A,.pv B,.any,.any,.any,.any,.any,.any,.any,.any,.any,.any,.any,.any,.any,.any,.any,.any,.any,.any,.any,.any,.any,.any,.any,.any,.any,.any],[],[],none⟩)) h (fun _=>rfl) (fun _=>rfl) ?_ ?_]
 ·first|rfl|simp only [List.drop_zero,List.take_zero,List.map_nil,Nat.zero_add,List.nil_append,List.foldl_nil]
 ·intro i rb hi ih
  have hi1:=i64_next hi hl
  have F1:((i:Int)<(l.length:Int))=True:=eq_true (by omega)
  have e1:=cal74 (hi0 _ (List.getElem_mem hi))
  rw [List.drop_eq_getElem_cons hi,List.find?_cons]
  by_cases hc:imCheck l[i]=0
  ·have F2:(imCheck l[i] != 0)=false:=by simp [hc]
   simp only [fn88_b0,F1,F2,e1,eImg,index_nat hi,List.getElem?_map,List.getElem?_eq_getElem hi,memAll,vAll,reduceCtorEq,Nat.reduceEqDiff,Nat.reduceAdd,Nat.reduceLT,Nat.reduceLeDiff,Nat.beq]
   rw [ih _ (by simp only [hi1];rfl)]
   simp only [hc,ne_eq,not_true,decide_false]
  ·have F2:(imCheck l[i] != 0)=true:=by simp [hc]
   simp only [fn88_b0,F1,F2,e1,eImg,index_nat hi,List.getElem?_map,List.getElem?_eq_getElem hi,memAll,vAll,reduceCtorEq,Nat.reduceEqDiff,Nat.reduceAdd,Nat.reduceLT,Nat.reduceLeDiff,Nat.beq]
   simp only [hc,ne_eq,not_false_eq_true,decide_true]
   rfl
 ·intro rb
  simp only [fn88_b0,Int.lt_irrefl, memAll,vAll,reduceCtorEq,Nat.reduceEqDiff,Nat.reduceAdd,Nat.reduceLT,Nat.reduceLeDiff,Nat.beq]
  rw [List.drop_length]
  rfl
theorem cal88 {a b:Img} (ha:a.length≤lim) (hb:b.length≤lim):cal env 88 [.list 1 (a.map eSecs),.list 1 (b.map eSecs)]=some [(.int .i64 (pairErr a b),false)]:=by
 have h2:∀ im∈[a,b],im.length≤lim:=by simp;exact ⟨ha,hb⟩
 have e1:=cal92 ha
 have e2:=cal92 hb
 have e3:=cal20 (l:=imSizes a) (m:=imSizes b) (by simpa [imSizes] using ha)
 rw [cal_code env88 rfl];simp only [fn88];simp only [start,z_map_cons,z_map_nil,z_len_cons,z_len_nil,z_repl_zero,z_repl_succ,z_cons_app,z_nil_app,Nat.reduceAdd,Nat.reduceSub]
 simp only [e1,e2,e3,memAll,vAll,reduceCtorEq,Nat.reduceEqDiff,Nat.reduceAdd,Nat.reduceLT,Nat.reduceLeDiff,Nat.beq]
 rw [loop88 (l:=[a,b]) (by simp [lim]) h2]
 rotate_left
 ·rfl
 ·simp only [List.find?_cons,List.find?_nil,pairErr]
  by_cases c1:imCheck a=0
  ·by_cases c2:imCheck b=0
   ·by_cases c4:imSizes a=imSizes b
    ·have hd:=decide_eq_true c4
     simp only [c1,c2,hd,ne_eq,not_true,decide_false,e1,e2,e3,memAll,vAll,reduceCtorEq,Nat.reduceEqDiff,Nat.reduceAdd,Nat.reduceLT,Nat.reduceLeDiff,Nat.beq]
     rw [if_pos c4]
    ·have hd:=decide_eq_false c4
     simp only [c1,c2,hd,ne_eq,not_true,decide_false,e1,e2,e3,memAll,vAll,reduceCtorEq,Nat.reduceEqDiff,Nat.reduceAdd,Nat.reduceLT,Nat.reduceLeDiff,Nat.beq]
     rw [if_neg c4]
   ·simp only [c1,c2,ne_eq,not_true,not_false_eq_true,decide_false,decide_true,if_false,if_true,e1,e2,e3,memAll,vAll,reduceCtorEq,Nat.reduceEqDiff,Nat.reduceAdd,Nat.reduceLT,Nat.reduceLeDiff,Nat.beq]
  ·simp only [c1,ne_eq,not_true,not_false_eq_true,decide_false,decide_true,if_false,if_true,e1,e2,e3,memAll,vAll,reduceCtorEq,Nat.reduceEqDiff,Nat.reduceAdd,Nat.reduceLT,Nat.reduceLeDiff,Nat.beq]
theorem loop59 {a b:Img} (hl:a.length≤lim) (hr:∀ v∈a,v.length≤lim) (hab:a.length=b.length) (hs:∀ i (h1:i<a.length) (h2:i<b.length),a[i].length=b[i].length)
  {st:St} (h:st.head [0,1,7,16,17,31] st.boxes.length=some ⟨[.pv (.list 1 (a.map eSecs)),.pv (.list 1 (b.map eSecs)),.any,.any,.any,.any,.any,.row 1 [],.any,.any,.any,.any,.any,.any,.any,.any,.pv (.int .i64 a.length),.pv (.int .i64 (0:Nat)),.any,.any,.any,.any,.any,.any,.any,.any,.any,.any,.any,.any,.any,.any,.any,.any],[],[],none⟩) :
  den env fn59_l1 st=some (.normal,⟨[.any,.any,.any,.any,.any,.any,.any,.row 1 ((differ a b).map eExts),.any,.any,.any,.any,.any,.any,.any,.any,.any,.any,.any,.any,.any,.any,.any,.any,.any,.any,.any,.any,.any,.any,.any,.any,.any,.any],[],[],none⟩):=by
 unfold fn59_l1
 have hz:(a.zip b).length=a.length:=by simp;omega
 refine clean_up (env:=env) a.length (fun i=>⟨[.pv (.list 1 (a.map eSecs)),.pv (.list 1 (b.map eSecs)),.any,.any,.any,.any,.any,.row 1 (((a.zip b).take i).map fun q=>eExts (volDiff q.1 q.2)),.any,.any,.any,.any,.any,.any,.any,.any,.pv (.int .i64 a.length),.pv (.int .i64 i),.any,.any,.any,.any,.any,.any,.any,.any,.any,.any,.any,.any,.any,.any,.any,.any],[],[],none⟩) (fun i=>some (.normal,⟨[.any,.any,.any,.any,.any,.any,.any,.row 1 ((differ a b).map eExts),.any,.any,.any,.any,.any,.any,.any,.any,.any,.any,.any,.any,.any,.any,.any,.any,.any,.any,.any,.any,.any,.any,.any,.any,.any,.any],[],[],none⟩)) h (fun _=>rfl) (fun _=>rfl) ?_ ?_
 ·intro i rb hi ih
  have hi1:=i64_next hi hl
  have hj:i<b.length:=by omega
  have hiz:i<(a.zip b).length:=by omega
  have F1:((i:Int)<(a.length:Int))=True:=eq_true (by omega)
  have F2:(((a.zip b).take i).length+1≤lim)=True:=eq_true (by rw [List.length_take];omega)
  have e1:=cal89 (hr _ (List.getElem_mem hi)) (hs i hi hj)
  simp only [fn59_b0,F1,F2,e1,eSecs,index_nat hi,index_nat hj,List.getElem?_map,List.getElem?_eq_getElem hi,List.getElem?_eq_getElem hj,memAll,vAll,reduceCtorEq,Nat.reduceEqDiff,Nat.reduceAdd,Nat.reduceLT,Nat.reduceLeDiff,Nat.beq]
  rw [ih _ (by simp only [hi1];rw [← take_map_succ _ hiz,List.getElem_zip];rfl)]
 ·intro rb
  simp only [fn59_b0,Int.lt_irrefl,memAll,vAll,reduceCtorEq,Nat.reduceEqDiff,Nat.reduceAdd,Nat.reduceLT,Nat.reduceLeDiff,Nat.beq]
  rw [← hz,List.take_length]
  simp only [differ,List.map_map]
  rfl
theorem cal59 {a b:Img} (ha:a.length≤lim) (hb':b.length≤lim) (hr:∀ v∈a,v.length≤lim):cal env 59 [.list 1 (a.map eSecs),.list 1 (b.map eSecs)]=some [(.list 1 ((differOut a b).map eExts),true),(.int .i64 (pairErr a b),false)]:=by
 have e1:=cal88 ha hb'
 unfold differOut
 by_cases c:pairErr a b=0
 ·have hs:imSizes a=imSizes b:=by
   unfold pairErr at c
   split at c
   ·omega
   ·split at c
    ·omega
    ·split at c
     ·assumption
     ·omega
  have G1:(pairErr a b != 0)=false:=by simp [c]
  rw [cal_code env59 rfl];simp only [fn59];simp only [start,z_map_cons,z_map_nil,z_len_cons,z_len_nil,z_repl_zero,z_repl_succ,z_cons_app,z_nil_app,Nat.reduceAdd,Nat.reduceSub]
  simp only [G1,e1,memAll,vAll,reduceCtorEq,Nat.reduceEqDiff,Nat.reduceAdd,Nat.reduceLT,Nat.reduceLeDiff,Nat.beq]
  rw [loop59 ha hr (sizes_inj hs).1 (sizes_inj hs).2]
  rotate_left
  ·rfl
  ·simp only [c,memAll,vAll,reduceCtorEq,Nat.reduceEqDiff,Nat.reduceAdd,Nat.reduceLT,Nat.reduceLeDiff,Nat.beq]
 ·have G1:(pairErr a b != 0)=true:=by simp [c]
  rw [cal_code env59 rfl];simp only [fn59];simp only [start,z_map_cons,z_map_nil,z_len_cons,z_len_nil,z_repl_zero,z_repl_succ,z_cons_app,z_nil_app,Nat.reduceAdd,Nat.reduceSub]
  simp only [G1,e1,memAll,vAll,reduceCtorEq,Nat.reduceEqDiff,Nat.reduceAdd,Nat.reduceLT,Nat.reduceLeDiff,Nat.beq]
  simp only [c,if_false]
  rfl
end Go.Proofs.Ytpdfhckdmblicaa.V

namespace Go.Proofs.Ytpdfhckdmblicaa.V
theorem beq_len (n m:Nat):((n:Int)==(m:Int))=decide (n=m):=by
 by_cases h:n=m
 ·subst h;simp
 ·rw [decide_eq_false h];simp;omega
theorem cal87 {v u:List Sec}:cal env 87 [eSecs v,eSecs u]=some [(.bool (decide (v.length=u.length)),false)]:=by
 simp only [eSecs]
 rw [cal_code env87 rfl];simp only [fn87];simp only [start,z_map_cons,z_map_nil,z_len_cons,z_len_nil,z_repl_zero,z_repl_succ,z_cons_app,z_nil_app,Nat.reduceAdd,Nat.reduceSub]
 simp only [eSecs,beq_len,memAll,vAll,reduceCtorEq,Nat.reduceEqDiff,Nat.reduceAdd,Nat.reduceLT,Nat.reduceLeDiff,Nat.beq]
theorem eqF_sizes:∀ a b:Img,eqF (fun x y:List Sec=>decide (x.length=y.length)) a b=decide (imSizes a=imSizes b)
 |[],[]=>rfl
 |[],y :: b=>by simp [eqF,imSizes]
 |x :: a,[]=>by simp [eqF,imSizes]
 |x :: a,y :: b=>by
  have ih:=eqF_sizes a b
  unfold eqF at ih ⊢
  have e0:decide (imSizes (x :: a)=imSizes (y :: b))=(decide (x.length=y.length)&&decide (imSizes a=imSizes b)):=by
   rw [← Bool.decide_and]
   exact decide_eq_decide.2 (by simp only [imSizes,List.map_cons,List.cons.injEq];exact and_congr Int.ofNat_inj Iff.rfl)
  rw [e0,← ih]
  simp only [List.length_cons,List.zip_cons_cons,List.all_cons]
  have e2:decide (a.length+1=b.length+1)=decide (a.length=b.length):=decide_eq_decide.2 (by omega)
  rw [e2]
  cases decide (x.length=y.length)<;>cases decide (a.length=b.length)<;>simp
def firstErr:List Img→Int
 |[]=>0
 |x :: l=>if imCheck x=0 then firstErr l else imCheck x
def alikeAll (u:Img) (l:List Img):Bool:=l.all fun x=>decide (imSizes x=imSizes u)
theorem loop56 {ims:List Img} (hl:ims.length≤lim) (hr:∀ x∈ims,x.length≤lim) {st:St} (h:st.head [0,8,9,10] st.boxes.length=some ⟨[.pv (.list 1 (ims.map eImg)),.any,.any,.any,.any,.any,.any,.any,.pv (.list 1 (ims.map eImg)),.pv (.int .i64 ims.length),.pv (.int .i64 (0:Nat)),.any,.any,.any,.any,.any,.any,.any,.any,.any,.any,.any,.any,.any,.any,.any,.any,.any,.any,.any,.any,.any,.any,.any],[],[],none⟩) :
  den env fn56_l1 st=if firstErr ims=0 then some (.normal,⟨[.pv (.list 1 (ims.map eImg)),.any,.any,.any,.any,.any,.any,.any,.any,.any,.any,.any,.any,.any,.any,.any,.any,.any,.any,.any,.any,.any,.any,.any,.any,.any,.any,.any,.any,.any,.any,.any,.any,.any],[],[],none⟩) else some (.ret,⟨[.pv (.list 1 (ims.map eImg)),.any,.pv (.int .i64 (firstErr ims)),.any,.any,.any,.any,.any,.any,.any,.any,.any,.any,.any,.any,.any,.any,.any,.any,.any,.any,.any,.any,.any,.any,.any,.any,.any,.any,.any,.any,.any,.any,.any],[],[],none⟩):=by
 unfold fn56_l1
 rw [ clean_up (env:=env) (ims.length) (fun i=>⟨[.pv (.list 1 (ims.map eImg)),.any,.any,.any,.any,.any,.any,.any,.pv (.list 1 (ims.map eImg)),.pv (.int .i64 ims.length),.pv (.int .i64 i),.any,.any,.any,.any,.any,.any,.any,.any,.any,.any,.any,.any,.any,.any,.any,.any,.any,.any,.any,.any,.any,.any,.any],[],[],none⟩) (fun i=>if firstErr (ims.drop i)=0 then some (.normal,⟨[.pv (.list 1 (ims.map eImg)),.any,.any,.any,.any,.any,.any,.any,.any,.any,.any,.any,.any,.any,.any,.any,.any,.any,.any,.any,.any,.any,.any,.any,.any,.any,.any,.any,.any,.any,.any,.any,.any,.any],[],[],none⟩) else some (.ret,⟨[.pv (.list 1 (ims.map eImg)),.any,.pv (.int .i64 (firstErr (ims.drop i))),.any,.any,.any,.any,.any,.any,.any,.any,.any,.any,.any,.any,.any,.any,.any,.any,.any,.any,.any,.any,.any,.any,.any,.any,.any,.any,.any,.any,.any,.any,.any],[],[],none⟩)) h (fun _=>rfl) (fun _=>rfl) ?_ ?_]
 ·first|rfl|simp only [List.drop_zero,List.take_zero,List.map_nil,Nat.zero_add,List.nil_append,List.foldl_nil]
 ·intro i rb hi ih
  have hi1:=i64_next hi hl
  have F1:((i:Int)<(ims.length:Int))=True:=eq_true (by omega)
  have e1:=cal74 (hr _ (List.getElem_mem hi))
  rw [List.drop_eq_getElem_cons hi]
  have hx:ims[i]?=some ims[i]:=List.getElem?_eq_getElem hi
  generalize ims[i]=x at *
  unfold firstErr
  by_cases c:imCheck x=0
  ·have G:(imCheck x != 0)=false:=by simp [c]
   simp only [fn56_b0,F1,hx,e1,G,eImg,index_nat hi,List.getElem?_map,Option.map_some,List.length_map,memAll,vAll,reduceCtorEq,Nat.reduceEqDiff,Nat.reduceAdd,Nat.reduceLT,Nat.reduceLeDiff,Nat.beq]
   rw [ih _ (by simp only [hi1];rfl)]
   simp only [c,if_true]
  ·have G:(imCheck x != 0)=true:=by simp [c]
   simp only [fn56_b0,F1,hx,e1,G,eImg,index_nat hi,List.getElem?_map,Option.map_some,List.length_map,memAll,vAll,reduceCtorEq,Nat.reduceEqDiff,Nat.reduceAdd,Nat.reduceLT,Nat.reduceLeDiff,Nat.beq]
   simp only [c,if_false]
   rfl
 ·intro rb
  simp only [fn56_b0,Int.lt_irrefl, memAll,vAll,reduceCtorEq,Nat.reduceEqDiff,Nat.reduceAdd,Nat.reduceLT,Nat.reduceLeDiff,Nat.beq]
  rw [List.drop_length]
  rfl
theorem loop56l3 {u:Img} {l L:List Img} (hl:L.length≤lim) (hr:∀ x∈L,x.length≤lim) {st:St} (h:st.head [0,20,21,22,23] st.boxes.length=some ⟨[.pv (.list 1 (eImg u :: l.map eImg)),.any,.any,.any,.any,.any,.any,.any,.any,.any,.any,.any,.any,.any,.any,.any,.any,.any,.any,.any,.pv (.list 1 (eImg u :: l.map eImg)),.pv (.list 1 (L.map eImg)),.pv (.int .i64 L.length),.pv (.int .i64 (0:Nat)),.any,.any,.any,.any,.any,.any,.any,.any,.any,.any],[],[],none⟩) :
  den env fn56_l3 st=if alikeAll u L then some (.normal,⟨[.any,.any,.any,.any,.any,.any,.any,.any,.any,.any,.any,.any,.any,.any,.any,.any,.any,.any,.any,.any,.any,.any,.any,.any,.any,.any,.any,.any,.any,.any,.any,.any,.any,.any],[],[],none⟩) else some (.ret,⟨[.any,.any,.pv (.int .i64 22),.any,.any,.any,.any,.any,.any,.any,.any,.any,.any,.any,.any,.any,.any,.any,.any,.any,.any,.any,.any,.any,.any,.any,.any,.any,.any,.any,.any,.any,.any,.any],[],[],none⟩):=by
 unfold fn56_l3
 rw [ clean_up (env:=env) (L.length) (fun i=>⟨[.pv (.list 1 (eImg u :: l.map eImg)),.any,.any,.any,.any,.any,.any,.any,.any,.any,.any,.any,.any,.any,.any,.any,.any,.any,.any,.any,.pv (.list 1 (eImg u :: l.map eImg)),.pv (.list 1 (L.map eImg)),.pv (.int .i64 L.length),.pv (.int .i64 i),.any,.any,.any,.any,.any,.any,.any,.any,.any,.any],[],[],none⟩) (fun i=>if alikeAll u (L.drop i) then some (.normal,⟨[.any,.any,.any,.any,.any,.any,.any,.any,.any,.any,.any,.any,.any,.any,.any,.any,.any,.any,.any,.any,.any,.any,.any,.any,.any,.any,.any,.any,.any,.any,.any,.any,.any,.any],[],[],none⟩) else some (.ret,⟨[.any,.any,.pv (.int .i64 22),.any,.any,.any,.any,.any,.any,.any,.any,.any,.any,.any,.any,.any,.any,.any,.any,.any,.any,.any,.any,.any,.any,.any,.any,.any,.any,.any,.any,.any,.any,.any],[],[],none⟩)) h (fun _=>rfl) (fun _=>rfl) ?_ ?_]
 ·first|rfl|simp only [List.drop_zero,List.take_zero,List.map_nil,Nat.zero_add,List.nil_append,List.foldl_nil]
 ·intro i rb hi ih
  have hi1:=i64_next hi hl
  have F1:((i:Int)<(L.length:Int))=True:=eq_true (by omega)
  have I0:index (.int .i64 0) (l.length+1)=some 0:=index_nat (i:=0) (by omega)
  have e1:=cal77 (enc:=eSecs) (enc2:=eSecs) (eq:=fun x y:List Sec=>decide (x.length=y.length)) (l:=L[i]) (m:=u) (gf:=87) (caps:=[]) (fun x _ y _=>cal87) (fun _=>rfl) (fun _=>rfl) (hr _ (List.getElem_mem hi))
  rw [eqF_sizes] at e1
  rw [List.drop_eq_getElem_cons hi]
  have hx:L[i]?=some L[i]:=List.getElem?_eq_getElem hi
  generalize L[i]=x at *
  unfold alikeAll
  rw [List.all_cons]
  by_cases c:imSizes x=imSizes u
  ·simp only [c,decide_true] at e1
   simp only [fn56_b2,F1,I0,hx,e1,eImg,index_nat hi,List.getElem?_map,List.getElem?_cons_zero,Option.map_some,List.length_map,List.length_cons,memAll,vAll,reduceCtorEq,Nat.reduceEqDiff,Nat.reduceAdd,Nat.reduceLT,Nat.reduceLeDiff,Nat.beq]
   rw [ih _ (by simp only [hi1];rfl)]
   simp only [c,decide_true,Bool.true_and]
   rfl
  ·simp only [c,decide_false] at e1
   simp only [fn56_b2,F1,I0,hx,e1,eImg,index_nat hi,List.getElem?_map,List.getElem?_cons_zero,Option.map_some,List.length_map,List.length_cons,memAll,vAll,reduceCtorEq,Nat.reduceEqDiff,Nat.reduceAdd,Nat.reduceLT,Nat.reduceLeDiff,Nat.beq]
   simp only [c,decide_false,Bool.false_and]
   rfl
 ·intro rb
  simp only [fn56_b2,Int.lt_irrefl,memAll,vAll,reduceCtorEq,Nat.reduceEqDiff,Nat.reduceAdd,Nat.reduceLT,Nat.reduceLeDiff,Nat.beq]
  rw [List.drop_length]
  rfl
def imgsErr (a b z:Img):Int:=if imCheck a≠0 then imCheck a else if imCheck b≠0 then imCheck b else if imCheck z≠0 then imCheck z else if imSizes b=imSizes a∧imSizes z=imSizes a then 0 else 22
theorem cal56 {a b z:Img} (ha:a.length≤lim) (hb:b.length≤lim) (hz:z.length≤lim):cal env 56 [.list 1 [.list 1 (a.map eSecs),.list 1 (b.map eSecs),.list 1 (z.map eSecs)]]=some [(.int .i64 (imgsErr a b z),false)]:=by
 have hlim:lim=1073741824:=rfl
 have e1:=fun st=>loop56 (ims:=[a,b,z]) (st:=st) (by rw [hlim];simp) (by simp;exact ⟨ha,hb,hz⟩)
 have e2:=fun st=>loop56l3 (u:=a) (l:=[b,z]) (L:=[b,z]) (st:=st) (by rw [hlim];simp) (by simp;exact ⟨hb,hz⟩)
 have hE:firstErr [a,b,z]=if imCheck a≠0 then imCheck a else if imCheck b≠0 then imCheck b else if imCheck z≠0 then imCheck z else 0:=by
  simp only [firstErr]
  by_cases h1:imCheck a=0<;>by_cases h2:imCheck b=0<;>by_cases h3:imCheck z=0<;>simp [h1,h2,h3]
 have hA:alikeAll a [b,z]=decide (imSizes b=imSizes a∧imSizes z=imSizes a):=by simp [alikeAll]
 have B1:((0:Int)≤1∧(1:Int)≤((3:Nat):Int))=True:=eq_true (by omega)
 have B2:Int.toNat 1=1:=rfl
 rw [cal_code env56 rfl];simp only [fn56];simp only [start,z_map_cons,z_map_nil,z_len_cons,z_len_nil,z_repl_zero,z_repl_succ,z_cons_app,z_nil_app,Nat.reduceAdd,Nat.reduceSub]
 simp only [List.length_cons,List.length_nil,B1,B2,Nat.reduceSub,memAll,vAll,reduceCtorEq,Nat.reduceEqDiff,Nat.reduceAdd,Nat.reduceLT,Nat.reduceLeDiff,Nat.beq]
 rw [e1 _ (by rfl)]
 by_cases c:firstErr [a,b,z]=0
 ·rw [if_pos c]
  simp only [List.length_cons,List.length_nil,B1,B2,Nat.reduceSub,memAll,vAll,reduceCtorEq,Nat.reduceEqDiff,Nat.reduceAdd,Nat.reduceLT,Nat.reduceLeDiff,Nat.beq]
  rw [e2 _ (by rfl),hA]
  have hI:imgsErr a b z=if imSizes b=imSizes a∧imSizes z=imSizes a then 0 else 22:=by
   unfold imgsErr
   rw [hE] at c
   by_cases h1:imCheck a=0
   ·by_cases h2:imCheck b=0
    ·by_cases h3:imCheck z=0
     ·simp [h1,h2,h3]
     ·simp [h1,h2,h3] at c
    ·simp [h1,h2] at c
   ·simp [h1] at c
  rw [hI]
  by_cases c2:imSizes b=imSizes a∧imSizes z=imSizes a
  ·simp only [c2,decide_true,if_true]
   simp only [List.length_cons,List.length_nil,B1,B2,Nat.reduceSub,memAll,vAll,reduceCtorEq,Nat.reduceEqDiff,Nat.reduceAdd,Nat.reduceLT,Nat.reduceLeDiff,Nat.beq]
  ·simp only [c2,decide_false,if_false,Bool.false_eq_true]
   simp only [List.length_cons,List.length_nil,B1,B2,Nat.reduceSub,memAll,vAll,reduceCtorEq,Nat.reduceEqDiff,Nat.reduceAdd,Nat.reduceLT,Nat.reduceLeDiff,Nat.beq]
 ·rw [if_neg c]
  have hI:imgsErr a b z=firstErr [a,b,z]:=by
   rw [hE] at c ⊢
   unfold imgsErr
   split
   ·rfl
   ·rename_i h1
    rw [if_neg h1] at c
    split
    ·rfl
    ·rename_i h2
     rw [if_neg h2] at c
     split
     ·rfl
     ·rename_i h3
      rw [if_neg h3] at c
      exact absurd rfl c
  simp only [List.length_cons,List.length_nil,B1,B2,Nat.reduceSub,memAll,vAll,reduceCtorEq,Nat.reduceEqDiff,Nat.reduceAdd,Nat.reduceLT,Nat.reduceLeDiff,Nat.beq]
  rw [hI]
end Go.Proofs.Ytpdfhckdmblicaa.V

namespace Go.Proofs.Ytpdfhckdmblicaa.V
def chooseV (g:Sec→Sec→Sec→Sec) (x y w:List Sec):List Sec:=(x.zip (y.zip w)).map fun q=>g q.1 q.2.1 q.2.2
def chooseX (g:Sec→Sec→Sec→Sec) (a b z:Img):Img:=(a.zip (b.zip z)).map fun q=>chooseV g q.1 q.2.1 q.2.2
theorem zip3_get {α β γ:Type} {x:List α} {y:List β} {w:List γ} {i:Nat} (h1:i<x.length) (h2:i<y.length) (h3:i<w.length):(x.zip (y.zip w))[i]?=some (x[i],y[i],w[i]):=by
 rw [List.getElem?_eq_getElem (by simp;omega),List.getElem_zip,List.getElem_zip]
theorem zip3_len {α β γ:Type} {x:List α} {y:List β} {w:List γ} (h1:x.length=w.length) (h2:y.length=w.length):(x.zip (y.zip w)).length=w.length:=by simp;omega
theorem chooseV_len {g:Sec→Sec→Sec→Sec} {x y w:List Sec} (h1:x.length=w.length) (h2:y.length=w.length):(chooseV g x y w).length=w.length:=by unfold chooseV;rw [List.length_map,zip3_len h1 h2]
theorem chooseX_len {g:Sec→Sec→Sec→Sec} {a b z:Img} (h1:a.length=z.length) (h2:b.length=z.length):(chooseX g a b z).length=z.length:=by unfold chooseX;rw [List.length_map,zip3_len h1 h2]
theorem take_snoc {α:Type} {l:List α} {i:Nat} {x:α} (h:l[i]?=some x):l.take (i+1)=l.take i++[x]:=by
 obtain ⟨h1,h2⟩:=List.getElem?_eq_some_iff.1 h
 rw [List.take_succ,h];rfl
theorem chooseV_get {g:Sec→Sec→Sec→Sec} {x y w:List Sec} {i:Nat} (h1:i<x.length) (h2:i<y.length) (h3:i<w.length):(chooseV g x y w)[i]?=some (g x[i] y[i] w[i]):=by
 unfold chooseV;rw [List.getElem?_map,zip3_get h1 h2 h3];rfl
theorem chooseX_get {g:Sec→Sec→Sec→Sec} {a b z:Img} {i:Nat} (h1:i<a.length) (h2:i<b.length) (h3:i<z.length):(chooseX g a b z)[i]?=some (chooseV g a[i] b[i] z[i]):=by
 unfold chooseX;rw [List.getElem?_map,zip3_get h1 h2 h3];rfl
theorem chooseX_sizes {g:Sec→Sec→Sec→Sec} {a b z:Img} (h1:imSizes a=imSizes z) (h2:imSizes b=imSizes z):imSizes (chooseX g a b z)=imSizes z:=by
 obtain ⟨l1,s1⟩:=sizes_inj h1
 obtain ⟨l2,s2⟩:=sizes_inj h2
 refine sizes_of (chooseX_len l1 l2) fun i q1 q2=>?_
 have:=chooseX_get (g:=g) (a:=a) (b:=b) (z:=z) (i:=i) (by omega) (by omega) q2
 rw [List.getElem?_eq_getElem q1] at this
 rw [Option.some.inj this,chooseV_len (s1 i (by omega) q2) (s2 i (by omega) q2)]
theorem loop57 {g:Sec→Sec→Sec→Sec} {gf:Nat} {caps:List PV} (hp:∀ x y z,cal env gf (eSec x :: eSec y :: eSec z :: caps)=some [(eSec (g x y z),false)]) {a b z:Img} {v:Nat} {x y w:List Sec} {out:List PV} (hx:a[v]?=some x) (hy:b[v]?=some y) (hw:z[v]?=some w) (e1:x.length=w.length) (e2:y.length=w.length) (hl:w.length≤lim) {st:St} (h:st.head [0,1,2,3,9,10,11,14,15,22,23,51,56] st.boxes.length=some ⟨[.pv (.list 1 (a.map eSecs)),.pv (.list 1 (b.map eSecs)),.pv (.list 1 (z.map eSecs)),.pv (.func gf caps),.any,.any,.any,.any,.any,.row 1 out,.pv (.int .i64 v),.row 8 (((chooseV g x y w).take ((0:Nat))).map eSec),.any,.any,.pv (.int .i64 z.length),.pv (.int .i64 v),.any,.any,.any,.any,.any,.any,.pv (.int .i64 w.length),.pv (.int .i64 (0:Nat)),.any,.any,.any,.any,.any,.any,.any,.any,.any,.any,.any,.any,.any,.any,.any,.any,.any,.any,.any,.any,.any,.any,.any,.any,.any,.any,.any,.any,.any,.any,.any,.any,.any,.any,.any],[],[],none⟩) :
  den env fn57_l1 st=some (.normal,⟨[.pv (.list 1 (a.map eSecs)),.pv (.list 1 (b.map eSecs)),.pv (.list 1 (z.map eSecs)),.pv (.func gf caps),.any,.any,.any,.any,.any,.row 1 out,.any,.row 8 ((chooseV g x y w).map eSec),.any,.any,.pv (.int .i64 z.length),.pv (.int .i64 v),.any,.any,.any,.any,.any,.any,.any,.any,.any,.any,.any,.any,.any,.any,.any,.any,.any,.any,.any,.any,.any,.any,.any,.any,.any,.any,.any,.any,.any,.any,.any,.any,.any,.any,.any,.any,.any,.any,.any,.any,.any,.any,.any],[],[],none⟩):=by
 unfold fn57_l1
 refine clean_up (env:=env) (w.length) (fun i=>⟨[.pv (.list 1 (a.map eSecs)),.pv (.list 1 (b.map eSecs)),.pv (.list 1 (z.map eSecs)),.pv (.func gf caps),.any,.any,.any,.any,.any,.row 1 out,.pv (.int .i64 v),.row 8 (((chooseV g x y w).take (i)).map eSec),.any,.any,.pv (.int .i64 z.length),.pv (.int .i64 v),.any,.any,.any,.any,.any,.any,.pv (.int .i64 w.length),.pv (.int .i64 i),.any,.any,.any,.any,.any,.any,.any,.any,.any,.any,.any,.any,.any,.any,.any,.any,.any,.any,.any,.any,.any,.any,.any,.any,.any,.any,.any,.any,.any,.any,.any,.any,.any,.any,.any],[],[],none⟩) (fun i=>some (.normal,⟨[.pv (.list 1 (a.map eSecs)),.pv (.list 1 (b.map eSecs)),.pv (.list 1 (z.map eSecs)),.pv (.func gf caps),.any,.any,.any,.any,.any,.row 1 out,.any,.row 8 ((chooseV g x y w).map eSec),.any,.any,.pv (.int .i64 z.length),.pv (.int .i64 v),.any,.any,.any,.any,.any,.any,.any,.any,.any,.any,.any,.any,.any,.any,.any,.any,.any,.any,.any,.any,.any,.any,.any,.any,.any,.any,.any,.any,.any,.any,.any,.any,.any,.any,.any,.any,.any,.any,.any,.any,.any,.any,.any],[],[],none⟩)) h (fun _=>rfl) (fun _=>rfl) ?_ ?_
 ·intro i rb hi ih
  have hi1:=i64_next hi hl
  have F1:((i:Int)<(w.length:Int))=True:=eq_true (by omega)
  have F2:(((chooseV g x y w).take i).length+1≤lim)=True:=eq_true (by rw [List.length_take];omega)
  have ix:i<x.length:=by omega
  have iy:i<y.length:=by omega
  have hv1:=(List.getElem?_eq_some_iff.1 hx).1
  have hv2:=(List.getElem?_eq_some_iff.1 hy).1
  have hv3:=(List.getElem?_eq_some_iff.1 hw).1
  have g1:=List.getElem?_eq_getElem ix
  have g2:=List.getElem?_eq_getElem iy
  have g3:=List.getElem?_eq_getElem hi
  have g4:=chooseV_get (g:=g) ix iy hi
  have e3:=hp x[i] y[i] w[i]
  generalize x[i]=p at *
  generalize y[i]=q at *
  generalize w[i]=r at *
  simp only [eSec] at e3
  simp only [fn57_b0,F1,F2,e3,eSecs,eSec,hx,hy,hw,g1,g2,g3,index_nat hi,index_nat ix,index_nat iy,index_nat hv1,index_nat hv2,index_nat hv3,List.getElem?_map,Option.map_some,List.length_map,part_sec,secPV_length,memAll,vAll,reduceCtorEq,Nat.reduceEqDiff,Nat.reduceAdd,Nat.reduceLT,Nat.reduceLeDiff,Nat.beq]
  rw [ih _ (by simp only [hi1];rw [take_snoc g4,List.map_append];rfl)]
 ·intro rb
  simp only [fn57_b0,Int.lt_irrefl, memAll,vAll,reduceCtorEq,Nat.reduceEqDiff,Nat.reduceAdd,Nat.reduceLT,Nat.reduceLeDiff,Nat.beq]
  have:(chooseV g x y w).take w.length=chooseV g x y w:=by rw [← chooseV_len (g:=g) e1 e2,List.take_length]
  rw [this]
  rfl
theorem loop57l3 {g:Sec→Sec→Sec→Sec} {gf:Nat} {caps:List PV} (hp:∀ x y z,cal env gf (eSec x :: eSec y :: eSec z :: caps)=some [(eSec (g x y z),false)]) {a b z:Img} (s1:imSizes a=imSizes z) (s2:imSizes b=imSizes z) (hl:z.length≤lim) (hr:∀ v∈z,v.length≤lim) {st:St} (h:st.head [0,1,2,3,9,14,15,51,56] st.boxes.length=some ⟨[.pv (.list 1 (a.map eSecs)),.pv (.list 1 (b.map eSecs)),.pv (.list 1 (z.map eSecs)),.pv (.func gf caps),.any,.any,.any,.any,.any,.row 1 (((chooseX g a b z).take ((0:Nat))).map eSecs),.any,.any,.any,.any,.pv (.int .i64 z.length),.pv (.int .i64 (0:Nat)),.any,.any,.any,.any,.any,.any,.any,.any,.any,.any,.any,.any,.any,.any,.any,.any,.any,.any,.any,.any,.any,.any,.any,.any,.any,.any,.any,.any,.any,.any,.any,.any,.any,.any,.any,.any,.any,.any,.any,.any,.any,.any,.any],[],[],none⟩) :
  den env fn57_l3 st=some (.normal,⟨[.any,.any,.any,.any,.any,.any,.any,.any,.any,.row 1 ((chooseX g a b z).map eSecs),.any,.any,.any,.any,.any,.any,.any,.any,.any,.any,.any,.any,.any,.any,.any,.any,.any,.any,.any,.any,.any,.any,.any,.any,.any,.any,.any,.any,.any,.any,.any,.any,.any,.any,.any,.any,.any,.any,.any,.any,.any,.any,.any,.any,.any,.any,.any,.any,.any],[],[],none⟩):=by
 unfold fn57_l3
 refine clean_up (env:=env) (z.length) (fun i=>⟨[.pv (.list 1 (a.map eSecs)),.pv (.list 1 (b.map eSecs)),.pv (.list 1 (z.map eSecs)),.pv (.func gf caps),.any,.any,.any,.any,.any,.row 1 (((chooseX g a b z).take (i)).map eSecs),.any,.any,.any,.any,.pv (.int .i64 z.length),.pv (.int .i64 i),.any,.any,.any,.any,.any,.any,.any,.any,.any,.any,.any,.any,.any,.any,.any,.any,.any,.any,.any,.any,.any,.any,.any,.any,.any,.any,.any,.any,.any,.any,.any,.any,.any,.any,.any,.any,.any,.any,.any,.any,.any,.any,.any],[],[],none⟩) (fun i=>some (.normal,⟨[.any,.any,.any,.any,.any,.any,.any,.any,.any,.row 1 ((chooseX g a b z).map eSecs),.any,.any,.any,.any,.any,.any,.any,.any,.any,.any,.any,.any,.any,.any,.any,.any,.any,.any,.any,.any,.any,.any,.any,.any,.any,.any,.any,.any,.any,.any,.any,.any,.any,.any,.any,.any,.any,.any,.any,.any,.any,.any,.any,.any,.any,.any,.any,.any,.any],[],[],none⟩)) h (fun _=>rfl) (fun _=>rfl) ?_ ?_
 ·intro i rb hi ih
  obtain ⟨l1,t1⟩:=sizes_inj s1
  obtain ⟨l2,t2⟩:=sizes_inj s2
  have hi1:=i64_next hi hl
  have ia:i<a.length:=by omega
  have ib:i<b.length:=by omega
  have F1:((i:Int)<(z.length:Int))=True:=eq_true (by omega)
  have F2:(((chooseX g a b z).take i).length+1≤lim)=True:=eq_true (by rw [List.length_take];omega)
  have g1:=List.getElem?_eq_getElem ia
  have g2:=List.getElem?_eq_getElem ib
  have g3:=List.getElem?_eq_getElem hi
  have g4:=chooseX_get (g:=g) ia ib hi
  have r1:=t1 i ia hi
  have r2:=t2 i ib hi
  have r3:=hr _ (List.getElem_mem hi)
  generalize a[i]=x at *
  generalize b[i]=y at *
  generalize z[i]=w at *
  simp only [fn57_b2,F1,eSecs,g3,index_nat hi,List.getElem?_map,Option.map_some,List.length_map,memAll,vAll,reduceCtorEq,Nat.reduceEqDiff,Nat.reduceAdd,Nat.reduceLT,Nat.reduceLeDiff,Nat.beq]
  rw [loop57 hp g1 g2 g3 r1 r2 r3]
  rotate_left
  ·simp only [z_take_zero,z_map_nil];rfl
  ·simp only [F2,eSecs,List.length_map,memAll,vAll,reduceCtorEq,Nat.reduceEqDiff,Nat.reduceAdd,Nat.reduceLT,Nat.reduceLeDiff,Nat.beq]
   rw [ih _ (by simp only [hi1];rw [take_snoc g4,List.map_append];rfl)]
 ·intro rb
  obtain ⟨l1,t1⟩:=sizes_inj s1
  obtain ⟨l2,t2⟩:=sizes_inj s2
  simp only [fn57_b2,Int.lt_irrefl,memAll,vAll,reduceCtorEq,Nat.reduceEqDiff,Nat.reduceAdd,Nat.reduceLT,Nat.reduceLeDiff,Nat.beq]
  have:(chooseX g a b z).take z.length=chooseX g a b z:=by rw [← chooseX_len (g:=g) l1 l2,List.take_length]
  rw [this]
  rfl
theorem cal57 {g:Sec→Sec→Sec→Sec} {gf:Nat} {caps:List PV} (hp:∀ x y z,cal env gf (eSec x :: eSec y :: eSec z :: caps)=some [(eSec (g x y z),false)]) {a b z:Img} (s1:imSizes a=imSizes z) (s2:imSizes b=imSizes z) (hl:z.length≤lim) (hr:∀ v∈z,v.length≤lim) :
  cal env 57 [.list 1 (a.map eSecs),.list 1 (b.map eSecs),.list 1 (z.map eSecs),.func gf caps]=some [(.list 1 ((chooseX g a b z).map eSecs),true)]:=by
 rw [cal_code env57 rfl];simp only [fn57];simp only [start,z_map_cons,z_map_nil,z_len_cons,z_len_nil,z_repl_zero,z_repl_succ,z_cons_app,z_nil_app,Nat.reduceAdd,Nat.reduceSub]
 simp only [ memAll,vAll,reduceCtorEq,Nat.reduceEqDiff,Nat.reduceAdd,Nat.reduceLT,Nat.reduceLeDiff,Nat.beq]
 rw [loop57l3 hp s1 s2 hl hr]
 rotate_left
 ·rfl
 simp only [ memAll,vAll,reduceCtorEq,Nat.reduceEqDiff,Nat.reduceAdd,Nat.reduceLT,Nat.reduceLeDiff,Nat.beq]
def oneSec:Sec:=⟨#[1,0,0,0,0,0,0,0],rfl⟩
theorem secPV_one:secPV oneSec=[.int .u8 1,.int .u8 0,.int .u8 0,.int .u8 0,.int .u8 0,.int .u8 0,.int .u8 0,.int .u8 0]:=rfl
def confP (x y z:Sec):Bool:=(!decide (x=z))&&((!decide (y=z))&&!decide (x=y))
def gMark (x y z:Sec):Sec:=if confP x y z then oneSec else zSec
def gZero (_ _ _:Sec):Sec:=zSec
def gMerge (x y z:Sec):Sec:=if x=z then y else x
theorem cal58 {x y z:Sec}:cal env 58 [eSec x,eSec y,eSec z,.iptr (secPV oneSec) 0,.iptr (secPV zSec) 0]=some [(eSec (gMark x y z),false)]:=by
 unfold gMark confP
 generalize hd1:decide (x=z)=d1
 generalize hd2:decide (y=z)=d2
 generalize hd3:decide (x=y)=d3
 simp only [eSec]
 cases d1<;>cases d2<;>cases d3<;>(rw [cal_code env58 rfl];simp only [fn58];simp only [start,z_map_cons,z_map_nil,z_len_cons,z_len_nil,z_repl_zero,z_repl_succ,z_cons_app,z_nil_app,Nat.reduceAdd,Nat.reduceSub];simp only [eSec,part_sec,eqCells_sec,secPV_length,val_pvs,hd1,hd2,hd3,memAll,vAll,reduceCtorEq,Nat.reduceEqDiff,Nat.reduceAdd,Nat.reduceLT,Nat.reduceLeDiff,Nat.beq];try rfl)
theorem cal60 {x y z:Sec}:cal env 60 [eSec x,eSec y,eSec z,.iptr (secPV zSec) 0]=some [(eSec (gZero x y z),false)]:=by
 unfold gZero
 simp only [eSec]
 rw [cal_code env60 rfl];simp only [fn60];simp only [start,z_map_cons,z_map_nil,z_len_cons,z_len_nil,z_repl_zero,z_repl_succ,z_cons_app,z_nil_app,Nat.reduceAdd,Nat.reduceSub]
 simp only [eSec,part_sec,eqCells_sec,secPV_length,val_pvs,memAll,vAll,reduceCtorEq,Nat.reduceEqDiff,Nat.reduceAdd,Nat.reduceLT,Nat.reduceLeDiff,Nat.beq]
 try rfl
theorem cal63 {x y z:Sec}:cal env 63 [eSec x,eSec y,eSec z]=some [(eSec (gMerge x y z),false)]:=by
 have hg:gMerge x y z=if decide (x=z)=true then y else x:=by
  unfold gMerge
  by_cases h:x=z<;>simp [h]
 rw [hg]
 generalize hd1:decide (x=z)=d1
 simp only [eSec]
 cases d1<;>(rw [cal_code env63 rfl];simp only [fn63];simp only [start,z_map_cons,z_map_nil,z_len_cons,z_len_nil,z_repl_zero,z_repl_succ,z_cons_app,z_nil_app,Nat.reduceAdd,Nat.reduceSub];simp only [eSec,part_sec,eqCells_sec,secPV_length,val_pvs,hd1,memAll,vAll,reduceCtorEq,Nat.reduceEqDiff,Nat.reduceAdd,Nat.reduceLT,Nat.reduceLeDiff,Nat.beq];try rfl)
def marksI (a b z:Img):Img:=chooseX gMark a b z
def zerosI (a b z:Img):Img:=chooseX gZero a b z
def confOut (a b z:Img):List (List Exn):=if imgsErr a b z=0 then differ (marksI a b z) (zerosI a b z) else []
def mergeOut (a b z:Img):Img:=if imgsErr a b z=0 then chooseX gMerge a b z else []
theorem imgs_ok {a b z:Img} (h:imgsErr a b z=0):imCheck a=0∧imCheck b=0∧imCheck z=0∧imSizes a=imSizes z∧imSizes b=imSizes z:=by
 unfold imgsErr at h
 by_cases h1:imCheck a=0
 ·by_cases h2:imCheck b=0
  ·by_cases h3:imCheck z=0
   ·simp [h1,h2,h3] at h
    exact ⟨h1,h2,h3,h.2.symm,by rw [h.1,h.2]⟩
   ·simp [h1,h2,h3] at h
  ·simp [h1,h2] at h
 ·simp [h1] at h
theorem check_sizes {a b:Img} (h:imSizes a=imSizes b):imCheck a=imCheck b:=by unfold imCheck;rw [h]
theorem sizes_le {a b:Img} {n:Nat} (h:imSizes a=imSizes b) (hb:∀ v∈b,v.length≤n):∀ v∈a,v.length≤n:=by
 intro v hv
 obtain ⟨i,hi,rfl⟩:=List.mem_iff_getElem.1 hv
 obtain ⟨l1,s1⟩:=sizes_inj h
 rw [s1 i hi (by omega)]
 exact hb _ (List.getElem_mem _)
theorem pair_ok {a b:Img} (h:imSizes a=imSizes b) (hc:imCheck b=0):pairErr a b=0:=by
 unfold pairErr
 rw [check_sizes h,hc,if_neg (by simp),if_neg (by simp),if_pos h]
theorem cal22 {a b z:Img} (ha:a.length≤lim) (hb:b.length≤lim) (hz:z.length≤lim) (hr:∀ v∈z,v.length≤lim):cal env 22 [.list 1 (a.map eSecs),.list 1 (b.map eSecs),.list 1 (z.map eSecs)]=some [(.list 1 ((confOut a b z).map eExts),true),(.int .i64 (imgsErr a b z),false)]:=by
 have e1:=cal56 ha hb hz
 have hlim:lim=1073741824:=rfl
 have L3:(3≤lim)=True:=eq_true (by rw [hlim];decide)
 by_cases c:imgsErr a b z=0
 ·obtain ⟨-,-,k3,k4,k5⟩:=imgs_ok c
  have G:(imgsErr a b z != 0)=false:=by simp [c]
  have sm:imSizes (marksI a b z)=imSizes z:=chooseX_sizes k4 k5
  have sz:imSizes (zerosI a b z)=imSizes z:=chooseX_sizes k4 k5
  have lm:=(sizes_inj sm).1
  have lz:=(sizes_inj sz).1
  have e2:=cal57 (g:=gMark) (gf:=58) (caps:=[.iptr (secPV oneSec) 0,.iptr (secPV zSec) 0]) (fun x y z=>cal58) k4 k5 hz hr
  have e3:=cal57 (g:=gZero) (gf:=60) (caps:=[.iptr (secPV zSec) 0]) (fun x y z=>cal60) k4 k5 hz hr
  have e4:=cal59 (a:=marksI a b z) (b:=zerosI a b z) (by omega) (by omega) (sizes_le sm hr)
  have hd:differOut (marksI a b z) (zerosI a b z)=confOut a b z:=by
   unfold differOut confOut
   rw [if_pos (pair_ok (sm.trans sz.symm) (by rw [check_sizes sz];exact k3)),if_pos c]
  rw [hd,pair_ok (sm.trans sz.symm) (by rw [check_sizes sz];exact k3)] at e4
  change cal env _ _=some [(.list 1 ((marksI a b z).map eSecs),true)] at e2
  change cal env _ _=some [(.list 1 ((zerosI a b z).map eSecs),true)] at e3
  simp only [secPV_one,secPV_zero] at e2 e3
  rw [cal_code env22 rfl];simp only [fn22];simp only [start,z_map_cons,z_map_nil,z_len_cons,z_len_nil,z_repl_zero,z_repl_succ,z_cons_app,z_nil_app,Nat.reduceAdd,Nat.reduceSub]
  simp only [e1,e2,e3,e4,G,L3,List.length_cons,List.length_nil,memAll,vAll,reduceCtorEq,Nat.reduceEqDiff,Nat.reduceAdd,Nat.reduceLT,Nat.reduceLeDiff,Nat.beq]
  rw [c]
 ·have G:(imgsErr a b z != 0)=true:=by simp [c]
  have hn:confOut a b z=[]:=by unfold confOut;rw [if_neg c]
  rw [hn]
  rw [cal_code env22 rfl];simp only [fn22];simp only [start,z_map_cons,z_map_nil,z_len_cons,z_len_nil,z_repl_zero,z_repl_succ,z_cons_app,z_nil_app,Nat.reduceAdd,Nat.reduceSub]
  simp only [e1,G,L3,List.length_cons,List.length_nil,memAll,vAll,reduceCtorEq,Nat.reduceEqDiff,Nat.reduceAdd,Nat.reduceLT,Nat.reduceLeDiff,Nat.beq]
theorem cal24 {a b z:Img} (ha:a.length≤lim) (hb:b.length≤lim) (hz:z.length≤lim) (hr:∀ v∈z,v.length≤lim):cal env 24 [.list 1 (a.map eSecs),.list 1 (b.map eSecs),.list 1 (z.map eSecs)]=some [(.list 1 ((mergeOut a b z).map eSecs),true),(.list 1 ((confOut a b z).map eExts),true),(.int .i64 (imgsErr a b z),false)]:=by
 have e1:=cal22 ha hb hz hr
 by_cases c:imgsErr a b z=0
 ·obtain ⟨-,-,k3,k4,k5⟩:=imgs_ok c
  have G:(imgsErr a b z != 0)=false:=by simp [c]
  have e2:=cal57 (g:=gMerge) (gf:=63) (caps:=[]) (fun x y z=>cal63) k4 k5 hz hr
  have hm:mergeOut a b z=chooseX gMerge a b z:=by unfold mergeOut;rw [if_pos c]
  rw [hm]
  rw [cal_code env24 rfl];simp only [fn24];simp only [start,z_map_cons,z_map_nil,z_len_cons,z_len_nil,z_repl_zero,z_repl_succ,z_cons_app,z_nil_app,Nat.reduceAdd,Nat.reduceSub]
  simp only [e1,e2,G,memAll,vAll,reduceCtorEq,Nat.reduceEqDiff,Nat.reduceAdd,Nat.reduceLT,Nat.reduceLeDiff,Nat.beq]
  rw [c]
 ·have G:(imgsErr a b z != 0)=true:=by simp [c]
  have hn:confOut a b z=[]:=by unfold confOut;rw [if_neg c]
  have hm:mergeOut a b z=[]:=by unfold mergeOut;rw [if_neg c]
  rw [hn] at e1
  rw [hn,hm]
  rw [cal_code env24 rfl];simp only [fn24];simp only [start,z_map_cons,z_map_nil,z_len_cons,z_len_nil,z_repl_zero,z_repl_succ,z_cons_app,z_nil_app,Nat.reduceAdd,Nat.reduceSub]
  simp only [e1,G,List.map_nil,memAll,vAll,reduceCtorEq,Nat.reduceEqDiff,Nat.reduceAdd,Nat.reduceLT,Nat.reduceLeDiff,Nat.beq]
  try rfl
end Go.Proofs.Ytpdfhckdmblicaa.V

namespace Go.Proofs.Ytpdfhckdmblicaa.V
def rowM (x y w:List Sec) (j:Nat):List Sec:=(chooseV gMerge x y w).take j++x.drop j
theorem rowM_zero (x y w:List Sec):rowM x y w 0=x:=by simp [rowM]
theorem rowM_len {x y w:List Sec} (h1:x.length=w.length) (h2:y.length=w.length) {j:Nat} (hj:j≤w.length):(rowM x y w j).length=w.length:=by
 unfold rowM
 rw [List.length_append,List.length_take,List.length_drop,chooseV_len h1 h2];omega
theorem rowM_get {x y w:List Sec} (h1:x.length=w.length) (h2:y.length=w.length) {j:Nat} (hj:j<w.length):(rowM x y w j)[j]?=x[j]?:=by
 have hl:((chooseV gMerge x y w).take j).length=j:=by rw [List.length_take,chooseV_len h1 h2];omega
 unfold rowM
 rw [List.getElem?_append_right (by omega),hl,Nat.sub_self,List.getElem?_drop,Nat.add_zero]
theorem rowM_all {x y w:List Sec} (h1:x.length=w.length) (h2:y.length=w.length):rowM x y w w.length=chooseV gMerge x y w:=by
 unfold rowM
 rw [List.take_of_length_le (by rw [chooseV_len h1 h2];exact Nat.le_refl _),List.drop_eq_nil_of_le (by omega),List.append_nil]
theorem rowM_succ {x y w:List Sec} (h1:x.length=w.length) (h2:y.length=w.length) {j:Nat} (hj:j<w.length):rowM x y w (j+1)=(rowM x y w j).take j++[gMerge (x[j]'(by omega)) (y[j]'(by omega)) w[j]]++(rowM x y w j).drop (j+1):=by
 have hl:((chooseV gMerge x y w).take j).length=j:=by rw [List.length_take,chooseV_len h1 h2];omega
 have e1:(rowM x y w j).take j=(chooseV gMerge x y w).take j:=by
  unfold rowM
  exact List.take_left' hl
 have e2:(rowM x y w j).drop (j+1)=x.drop (j+1):=by
  unfold rowM
  rw [← List.drop_drop,List.drop_left' hl,List.drop_drop]
 rw [e1,e2]
 show (chooseV gMerge x y w).take (j+1)++x.drop (j+1)=_
 rw [take_snoc (chooseV_get (g:=gMerge) (by omega) (by omega) hj)]
theorem rowM_no {x y w:List Sec} (h1:x.length=w.length) (h2:y.length=w.length) {j:Nat} (hj:j<w.length) (h:gMerge (x[j]'(by omega)) (y[j]'(by omega)) w[j]=x[j]'(by omega)):rowM x y w (j+1)=rowM x y w j:=by
 have hx:=rowM_get h1 h2 hj
 have hl:=rowM_len h1 h2 (j:=j) (by omega)
 rw [rowM_succ h1 h2 hj,h]
 have e:x[j]'(by omega)=(rowM x y w j)[j]'(by omega):=by
  rw [List.getElem?_eq_getElem (by omega),List.getElem?_eq_getElem (by omega)] at hx
  exact (Option.some.inj hx).symm
 rw [e,List.append_assoc,List.singleton_append,← List.drop_eq_getElem_cons (by omega),List.take_append_drop]
def imgM (a b z:Img) (i:Nat):Img:=(chooseX gMerge a b z).take i++a.drop i
theorem imgM_zero (a b z:Img):imgM a b z 0=a:=by simp [imgM]
theorem imgM_get {a b z:Img} (h1:a.length=z.length) (h2:b.length=z.length) {i:Nat} (hi:i<z.length):(imgM a b z i)[i]?=a[i]?:=by
 have hl:((chooseX gMerge a b z).take i).length=i:=by rw [List.length_take,chooseX_len h1 h2];omega
 unfold imgM
 rw [List.getElem?_append_right (by omega),hl,Nat.sub_self,List.getElem?_drop,Nat.add_zero]
theorem imgM_all {a b z:Img} (h1:a.length=z.length) (h2:b.length=z.length):imgM a b z z.length=chooseX gMerge a b z:=by
 unfold imgM
 rw [List.take_of_length_le (by rw [chooseX_len h1 h2];exact Nat.le_refl _),List.drop_eq_nil_of_le (by omega),List.append_nil]
theorem imgM_set {a b z:Img} (h1:a.length=z.length) (h2:b.length=z.length) {i:Nat} (hi:i<z.length):(imgM a b z i).set i (chooseV gMerge (a[i]'(by omega)) (b[i]'(by omega)) z[i])=imgM a b z (i+1):=by
 have hl:((chooseX gMerge a b z).take i).length=i:=by rw [List.length_take,chooseX_len h1 h2];omega
 have e:(chooseX gMerge a b z).take (i+1)=(chooseX gMerge a b z).take i++[chooseV gMerge (a[i]'(by omega)) (b[i]'(by omega)) z[i]]:=take_snoc (chooseX_get (g:=gMerge) (by omega) (by omega) hi)
 unfold imgM
 rw [e,List.set_append_right _ _ (by omega),hl,Nat.sub_self,List.drop_eq_getElem_cons (show i<a.length by omega),List.set_cons_zero,List.append_assoc,List.singleton_append]
end Go.Proofs.Ytpdfhckdmblicaa.V
